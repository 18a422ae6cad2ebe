/-
  Several texts in one: Y8c, Y8d, Y9b, Y10. No condition.
-/
import Derived.Test.YtjedflcpjlgokaaGreatDoorAz
import Derived.Test.YtjedflcpjlgokaaGreatDoorK20
import Derived.Test.YtjedflcpjlgokaaGreatDoorK36
import Derived.KernelRfl
import Derived.Test.YtjedflcpjlgokaaGreatDoorK21
set_option linter.unusedVariables false
set_option linter.unusedSimpArgs false
namespace Go.Proofs.YtjedflcpjlgokaaGreatDoor
open Go Go.Aw
set_option maxHeartbeats 3200000
set_option maxRecDepth 20000

theorem lU (n:Nat)(bs:List Bd)(hz:znOK n bs)(hW:decide ((Di (zn n bs)).2<0)=false→L2 n bs=true)(H:List HO):Dk Tryz.prog 39 H [.agg (Xz (zn n bs))] (fun r H'=>if decide ((Di (zn n bs)).2<0) then (∃b,r = .tuple [.val (.slice (some ⟨b,0,none⟩) n n),.val (.slice none 0 0)]∧H' = .box b 3 (bI (Di (zn n bs)).1.sums)::H) else (r = .tuple [.val (.slice none 0 0),.sl 1 ((Nv (zn n bs)).2.map cI)]∧H'=H)):=by
 have hmx:1048576≤maxLen:=by decide
 have hn1:=hz.n1
 have hn64:=hz.n64
 have hzn:(zn n bs).n=(n:Int):=rfl
 have hbb:Jk=140737488355329:=rfl
 refine Dk.bodyX (n:=59) Ah Tryz.func39 rfl rfl rfl ?_
 refine AWX.seq ?_
 refine AW.region (Qp (Gd [Iq _,_]) (Qp N4 (Qp N4 (Ag ?_))))
 refine AWX.cut (fun (u:Nat×Nat×Nat)=>(⟨[(1,.ptr (Xz (zn n bs))),(4,.val (.pointer (some ⟨u.1,0,none⟩)))],.box u.1 156 [.val (.slice (some ⟨u.2.1,0,none⟩) n n),.val (.slice (some ⟨u.2.2,0,none⟩) n n)] :: .box u.2.1 3 (bI (⟨List.replicate n 0,Ks n⟩:Ds).sums) :: .box u.2.2 3 (bI (⟨List.replicate n 0,Ks n⟩:Ds).last)::H,59⟩:St)) (fun (u:Nat×Nat×Nat)=>True) ?_ ?_
 ·
  refine AW.draw mixed (fun _=>True) trivial (by kernel_rfl) ?_
  refine Qn 0 rfl (Qf [Iq _,_]) (Qn 1 rfl Bp ?_)
  refine Qn 3 rfl (A1 (es:=[[Iq _]]) Ah rfl rfl rfl rfl rfl rfl rfl rfl rfl) ?_
  refine Qn 4 rfl (Qf [Iq _,_]) (Qn 5 rfl Bp ?_)
  refine Jn.two _ _ 2 6 _ _ _ _ rfl rfl (by kernel_rfl) rfl rfl rfl rfl (O4 (n:=n) Ah rfl rfl rfl rfl rfl rfl rfl (by show 8*n≤_;omega) (by omega)) (Dj (by kernel_rfl) rfl rfl (eQ _ n hn1 (by omega))) (by rintro _ _ ⟨b10,rfl,rfl⟩;trivial) (by rintro _ _ ⟨b14,rfl,rfl⟩;trivial) ?_ ?_
  ·
   rintro _ _ ⟨b10,rfl,rfl⟩
   refine Jn.eff _ _ 6 _ _ rfl (by kernel_rfl) rfl rfl (Dj (by kernel_rfl) rfl rfl (eQ _ n hn1 (by omega))) (fun _ _ _=>trivial) ?_
   rintro _ _ ⟨b14,rfl,rfl⟩
   refine Qn 7 rfl (Fz [_,_]) ?_
   refine Jn.eff _ _ 8 _ _ rfl (by kernel_rfl) rfl rfl (O8 (v:=.agg _) (cs:=[_,_]) rfl rfl (rfl)) (fun _ _ _=>trivial) ?_
   rintro _ _ ⟨b16,rfl,rfl⟩
   refine Qn 9 rfl N4 ?_
   refine Jn.done _ _ (by kernel_rfl) ?_
   refine Ad ?_
   refine ⟨(b16,b10,b14),?_,GS.trans (GS.cells 2 rfl (bW n)) (GS.trans (GS.perm (List.Perm.cons _ (List.Perm.swap _ _ _))) (GS.weaken ⟨rfl,rfl,trivial⟩ (.refl _)))⟩
   trivial
  ·
   rintro _ _ ⟨b14,rfl,rfl⟩
   refine Jn.eff _ _ 2 _ _ rfl (by kernel_rfl) rfl rfl (O4 (n:=n) Ah rfl rfl rfl rfl rfl rfl rfl (by show 8*n≤_;omega) (by omega)) (fun _ _ _=>trivial) ?_
   rintro _ _ ⟨b10,rfl,rfl⟩
   refine Qn 7 rfl (Fz [_,_]) ?_
   refine Jn.eff _ _ 8 _ _ rfl (by kernel_rfl) rfl rfl (O8 (v:=.agg _) (cs:=[_,_]) rfl rfl (rfl)) (fun _ _ _=>trivial) ?_
   rintro _ _ ⟨b16,rfl,rfl⟩
   refine Qn 9 rfl N4 ?_
   refine Jn.done _ _ (by kernel_rfl) ?_
   refine Ad ?_
   refine ⟨(b16,b10,b14),?_,GS.trans (GS.cells 1 rfl (bW n)) (GS.trans (GS.refl _) (GS.weaken ⟨rfl,rfl,trivial⟩ (.refl _)))⟩
   trivial
 ·
  rintro u _
  refine AWX.seq ?_
  refine AW.region (Qp Ap (Ag ?_))
  refine AWX.seq ?_
  refine Ai (Qp (Qf [Iq _,_]) (Qp Bp (Qp Ey (Qp Az (Ag (AW.block ?_))))))
  refine AW.Aao (fun (p:Nat×Ds×Int)=>(⟨[(1,.ptr (Xz (zn n bs))),(4,.val (.pointer (some ⟨u.1,0,none⟩))),(5,.int .i64 p.2.2),(19,.int .i64 ((n:Int)+1)),(20,.int .i64 (p.1:Int))],.box u.1 156 [.val (.slice (some ⟨u.2.1,0,none⟩) n n),.val (.slice (some ⟨u.2.2,0,none⟩) n n)] :: .box u.2.1 3 (bI p.2.1.sums) :: .box u.2.2 3 (bI p.2.1.last)::H,59⟩:St)) (fun (p:Nat×Ds×Int)=>p.1≤n+1∧Di (zn n bs)=Ea bs (n+1-p.1) p.2∧dsOK n ((p.1:Int)*(256*Jk)) p.2.1∧(0<p.1→0≤p.2.2)) (fun (p:Nat×Ds×Int)=>n+1-p.1) ((0,⟨List.replicate n 0,Ks n⟩,-1)) ?_ (GS.weaken ⟨rfl,rfl,rfl,rfl,rfl,trivial⟩ (.refl _)) ?_
  · exact ⟨Nat.zero_le _,Na n bs,by simpa using fD n,fun h=>absurd h (by simp)⟩
  ·
   rintro p hR
   have hd2:=hR.2.2.1
   have hpl:=hR.1
   have hC0:(0:Int)≤(p.1:Int)*(256*Jk):=by unfold Jk;omega
   have hC2:(p.1:Int)*(256*Jk)≤4000000000000000000:=by unfold Jk;omega
   have hks:((p.1+1:Nat):Int)*(256*Jk)=(p.1:Int)*(256*Jk)+256*Jk:=by push_cast;rw [Int.add_mul];omega
   refine Ai (Qp Ch (Ag (AW.seq (A6 (fun hc1=>?_) fun hc1=>?_))))
   ·
    have hlt:p.1<n+1:=by have:=of_decide_eq_true hc1;omega
    refine By (AW.seq (AW.block (Ai (Qp Gr (Qp (Cq [Iq _,_]) ?_)))))
    refine Qe (Dj (by kernel_rfl) rfl rfl (Dk.front3 (R:=_) 2 1 0 rfl rfl rfl rfl (yW u.1 u.2.1 u.2.2 n bs hz _ hC0 hC2 p.2.1 hd2 _))) ?_
    rintro _ _ ⟨rfl,rfl⟩
    refine Qp Ap (Dm (Qp Az (Qp Ch (Ag (A6 (fun hc2=>?_) fun hc2=>?_)))))
    ·
     have hend:=qS hR.2.1 hlt hc2
     refine Ai (Qp Gr ?_)
     refine Qp (Bn rfl) ?_
     refine Qp Gc ?_
     refine AOL.Aas (Am (k:=0) (c:=.val _) Ah rfl rfl rfl rfl) rfl rfl ?_
     refine Qp N4 (Qp N4 (Ag (AW.ret (Bb (Aj (Aj (Bb (Aj ?_))))))))
     refine ⟨.inr rfl,[.val _,.val _],.cons (.tmp _ _ rfl) <| .cons (.tmp _ _ rfl) <| .nil,_,.cons _ (.cons_cons _ (.cons _ (.refl _))),?_⟩
     exact Eq.mpr (if_pos (by rw [hend];exact hc2)) ⟨_,rfl,congrArg (fun q:Ds×Int=>(.box u.2.1 3 (bI q.1.sums)::H:List HO)) hend.symm⟩
    ·
     refine AW.skip (Bu (Ad (AW.region (Qp Ey (Qp Az (Ag ?_))))))
     refine ⟨(p.1+1,Ka bs p.2.1),?_,?_,GS.weaken ⟨rfl,rfl,rfl,rfl,rfl,trivial⟩ (.refl _)⟩
     · exact ⟨hlt,end_on hR.2.1 hlt hc2,(aY hz hd2).mono (by simp only [hks];omega),fun _=>by simpa using hc2⟩
     · simp only;omega
   ·
    have hge1:n+1≤p.1:=by have:=of_decide_eq_false hc1;omega
    have hend:=yL hR.2.1 hge1
    have hge:decide ((Di (zn n bs)).2<0)=false:=by rw [hend];have:=hR.2.2.2 (by omega);simpa using this
    have hws:=hU (hW hge) hend
    have hcy:=hws.2
    refine AW.exit ?_
    refine A5 (A5 (Bq (Ad ?_)))
    refine AWX.seq ?_
    refine Ai (Qp (Qf [Iq _,_]) (Qp Bp (Qp Az (Ag (AW.block ?_)))))
    refine AW.Aao (fun (q:Nat×Int)=>(⟨[(1,.ptr (Xz (zn n bs))),(4,.val (.pointer (some ⟨u.1,0,none⟩))),(5,.int .i64 q.2),(33,.int .i64 (n:Int)),(34,.int .i64 (q.1:Int))],.box u.1 156 [.val (.slice (some ⟨u.2.1,0,none⟩) n n),.val (.slice (some ⟨u.2.2,0,none⟩) n n)] :: .box u.2.1 3 (bI p.2.1.sums) :: .box u.2.2 3 (bI p.2.1.last)::H,59⟩:St)) (fun (q:Nat×Int)=>q.1≤n∧Ii bs p.2.1 n p.2.2=Ii bs p.2.1 (n-q.1) q.2∧Ll bs p.2.1 (n-q.1) q.2=true) (fun (q:Nat×Int)=>n-q.1) ((0,p.2.2)) ?_ (GS.weaken ⟨rfl,rfl,rfl,rfl,rfl,trivial⟩ (.refl _)) ?_
    · exact ⟨Nat.zero_le _,rfl,hws.1⟩
    ·
     rintro q hQ
     refine Ai (Qp Ch (Ag (AW.seq (A6 (fun hc3=>?_) fun hc3=>?_))))
     ·
      have hlt3:q.1<n:=by have:=of_decide_eq_true hc3;omega
      have hb9:=qB hQ.2.2 hlt3
      refine (V5 hb9.1).elim fun c ok=>?_
      have hdl:=hd2.l
      refine By (AW.seq (AW.block ?_))
      refine AW.draw mixed (fun H'=>_∈H'∧_∈H') ⟨(List.mem_of_getElem? (i:=0) rfl),(List.mem_of_getElem? (i:=2) rfl)⟩ (by kernel_rfl) ?_
      refine Qn 0 rfl (Qf [_]) (Qn 1 rfl Dy (Qn 2 rfl Gr ?_))
      refine Qn 3 rfl (Bn rfl) ?_
      refine Qn 4 rfl Gc ?_
      refine Qn 5 rfl (OpP.Aaq (fun k=>Am (k:=k) (c:=.val _) Ah rfl rfl rfl rfl) (fun _ h=>h.1)) ?_
      refine Qn 6 rfl Az ?_
      refine Qn 7 rfl (Bh (o':=q.2.toNat) Ah rfl rfl rfl rfl rfl (ok.a0) (by have:=ok.al;omega) (bU _)) ?_
      refine Qn 8 rfl (OpP.Aaq (fun k=>Am (k:=k) (c:=.int .i64 (Du p.2.1.last q.2)) Ah rfl rfl rfl (Xk ok.a0 ok.al)) (fun _ h=>h.2)) ?_
      refine Qn 9 rfl (Af (c:=[.int .i64 c.x,.int .i64 c.y,.int .i64 c.most]) Ah rfl rfl rfl rfl rfl rfl (ok.l0) (jH ok.at_)) ?_
      refine Qn 10 rfl (Qf [Iq _,Iq _]) (Qn 11 rfl Bp (Qn 12 rfl Ap ?_))
      refine Jn.done _ _ (by kernel_rfl) ?_
      refine Bu (Ad (AW.region (Qp Ey (Qp Az (Ag ?_)))))
      refine ⟨(q.1+1,c.y),?_,?_,GS.weaken ⟨rfl,rfl,rfl,rfl,rfl,trivial⟩ (.refl _)⟩
      · exact ⟨hlt3,oH hQ.2.1 hlt3 ok,by have:=hb9.2;rw [ok.pred] at this;exact this⟩
      · simp only;omega
     ·
      have hge3:n≤q.1:=by have:=of_decide_eq_false hc3;omega
      have hfr:Ii bs p.2.1 n p.2.2=q.2:=hQ.2.1.trans (by rw [show n-q.1=0 by omega];rfl)
      refine AW.exit ?_
      refine A5 (A5 (Bq (Ad ?_)))
      refine AWX.seq ?_
      refine AW.region ?_
      refine Qe (Ak (l:=[.val (.slice none 0 0)]) (by kernel_rfl)) ?_
      rintro _ _ ⟨b6,rfl,rfl⟩
      refine AOL.ghost (GS.cellRow 0 0 3 1 rfl rfl rfl rfl) ?_
      refine Ag ?_
      refine AWX.assoc ?_
      refine AW.region (Qp Gr (Qp (Cq [Iq _,_]) (Qp Az ?_)))
      refine Qp (Qc rfl (f_back u.1 n bs q.2)) ?_
      refine Ag ?_
      refine AWX.rangeTail Ah (fun H2=>∃v,H2 = .row v ((Ib bs p.2.1 q.2 (n+1) q.2).map cI).length 3 1 :: .box b6 49 [.row v 1 ((Ib bs p.2.1 q.2 (n+1) q.2).map cI)]::(.box u.1 156 [.val (.slice (some ⟨u.2.1,0,none⟩) n n),.val (.slice (some ⟨u.2.2,0,none⟩) n n)] :: .box u.2.1 3 (bI p.2.1.sums) :: .box u.2.2 3 (bI p.2.1.last)::H)) rfl (by kernel_rfl) (fun rec D l hst hpe hps has hbo hsz htm=>?_) (fun D H2 hZ=>?_)
      ·
       have h6:=htm 6 _ rfl
       refine Dk.post (Dk.perm (List.perm_append_comm.append_right _:(([_,_,_,_] ++ [_,_,_])++H).Perm _) (xN l rec u.1 u.2.1 u.2.2 n bs p.2.1 hz.n64 hd2.l (fun v pre=>.obj l (.loop rec) :: .obj D (.deferred (some [])) :: .row v ((pre.map cI)).length 3 1 :: .box b6 49 [.row v 1 ((pre.map cI))]::H) (by rw [hps];rfl) 0 (fun _ _=>rfl) q.2 (by rw [←hfr];exact hcy) (fun v pre x hpl=>?_) (.slice none 0 0))) ?_
       ·
        refine jZ.of (sl:=[(53,.int .i64 x),(6,.val (.pointer (some ⟨b6,0,none⟩)))]) hst hpe hsz (by rw [hps];exact iH hsz rfl h6) ?_
        rw [has,hbo]
        refine AWr.region (by kernel_rfl) ?_
        refine Qp Ap (AOL.nil ?_)
        refine ⟨rfl,3,rfl,?_⟩
        refine AWr.block (AWr.region (by kernel_rfl) ?_)
        refine AOL.Aas (Am (k:=6) (c:=.row _ _ _) Ah rfl rfl rfl rfl) rfl rfl ?_
        refine Qp Az ?_
        refine Qp (A1 (es:=[[Iq _]]) Ah rfl rfl rfl rfl rfl rfl rfl rfl rfl) ?_
        refine Qe (C3 (k:=5) Ah rfl rfl rfl rfl rfl rfl rfl rfl (Ff rfl) (Ed fun _=>rfl) (by simp;omega) (by simp [maxLen];omega)) ?_
        rintro _ _ ⟨v57,rfl,rfl⟩
        refine Cv 6 [_] (_::_::_::_::_::_::_::_) ?_
        refine AOL.nil ?_
        exact ⟨rfl,3,rfl,rfl,v57,congrArg (fun es:List (List AV)=>(.box u.1 156 [.val (.slice (some ⟨u.2.1,0,none⟩) n n),.val (.slice (some ⟨u.2.2,0,none⟩) n n)] :: .box u.2.1 3 (bI p.2.1.sums) :: .box u.2.2 3 (bI p.2.1.last) :: .obj l (.loop rec) :: .obj D (.deferred (some [])) :: .row v57 (es).length 3 1 :: .box b6 49 [.row v57 1 (es)]::H:List HO)) (List.map_append (f:=cI) (l₁:=pre) (l₂:=[x])).symm⟩
       ·
        rintro r K ⟨rfl,v,rfl⟩
        exact ⟨_,(List.perm_append_comm.append_right _:(([_,_,_] ++ [_,_,_,_])++H).Perm _),rec,_,rfl,by rw [hst];decide,hpe,v,rfl⟩
      ·
       obtain ⟨v,rfl⟩:=hZ
       refine ⟨_,GS.cell (H2:=_::_::_::_::_::_::_) 2 0 rfl rfl rfl rfl Ej,?_⟩
       refine AWD.draw mixed (fun H'=>_∈H') (List.mem_of_getElem? (i:=2) rfl) (by kernel_rfl) ?_
       refine Qn 0 rfl (OpP.Aaq (fun k=>Am (k:=k) (c:=.sl _ _) Ah rfl rfl rfl rfl) (fun _ h=>h)) ?_
       refine Qn 1 rfl N4 (Qn 2 rfl Sr ?_)
       refine Jn.done _ _ (by kernel_rfl) ?_
       refine ⟨0,rfl,[_,_],.cons (.tmp _ _ rfl) (.cons (.tmp _ _ rfl) .nil),H,.cons _ (.cons _ (.cons _ (.cons _ (.cons _ (.cons _ (.refl _)))))),?_⟩
       exact Eq.mpr (if_neg (by rw [hge];decide)) ⟨congrArg (fun c:List Int=>AV.tuple [.val (.slice none 0 0),.sl 1 (c.map cI)]) (bC hend hge hfr).symm,rfl⟩

set_option maxHeartbeats 1600000
set_option maxRecDepth 20000

theorem rC (n:Nat)(bs:List Bd)(hm:∀b∈bs,-Jk≤b.most∧b.most≤Jk)(hW:(Gt (zn n bs) != 0)=false→decide ((Di (zn n bs)).2<0)=false→L2 n bs=true)(hE:decide ((Di (zn n bs)).2<0)=true):Ax Tryz.prog 13 [.agg (Xz (zn n bs))] (.tuple [.bool (Bs (zn n bs)).ok,.sl 1 ((Bs (zn n bs)).values.map cI),.sl 1 ((Bs (zn n bs)).cycle.map cI),.int .i64 (Bs (zn n bs)).err]):=by
 refine Ax.body (n:=41) Ah Tryz.func13 rfl rfl rfl fun H=>?_
 refine Ai (Qp (Gd [Iq _,_]) (Qp Bl (Qp N4 (Qp N4 (Qp Ap (Ag (AW.seq (Ai (Qp (Cq [Iq _,_]) ?_)))))))))
 refine Qp (Qc rfl (mP (zn n bs))) ?_
 refine Qp Ap (Dm (Qp Az (Qp Cr (Ag (A6 (fun hc1=>?_) fun hc1=>?_)))))
 ·
  refine Ai (Qp Az (Qp Bl ?_))
  refine Qp (Bz (z:=1) rfl) ?_
  refine Qp (Bz (z:=1) rfl) ?_
  refine Qp Ap (Ag (Dw ?_))
  refine ⟨.inr rfl,[.bool _,.sl _ _,.sl _ _,Iq _],.cons (.tmp _ _ rfl) <| .cons (.tmp _ _ rfl) <| .cons (.tmp _ _ rfl) <| .cons (.tmp _ _ rfl) <| .nil,.refl _,?_⟩
  exact Eq.trans rfl (congrArg (fun q:So=>AV.tuple [.bool q.ok,.sl 1 (q.values.map cI),.sl 1 (q.cycle.map cI),.int .i64 q.err]) (Vc hc1)).symm
 ·
  have hz:=fA hc1 hm
  have hn1:=hz.n1
  have hn64:=hz.n64
  have hok:=bL hz
  have hi0:=hok.ix (Int.le_refl 0) (by omega)
  refine By (Ai (Qp (Cq [Iq _,_]) ?_))
  refine Qe (Dj (by kernel_rfl) rfl rfl ((lU n bs hz (fun h=>absurd (hE.symm.trans h) (by decide)) _).mono' (fun r K h=>Eq.mp (if_pos hE) h))) ?_
  rintro _ _ ⟨b18,rfl,rfl⟩
  refine Qp N6 (Qp Qxv (Qp Qxv (Qp N4 (Qp N4 (Ag (AW.seq (Ai (Qp Gr ?_))))))))
  refine Qp (oV Ah rfl rfl rfl) ?_
  refine Ag (A6 (fun hc2=>?_) fun hc2=>?_)
  ·
   cases hc2
  ·
   refine By (Ai (Qp Gr ?_))
   refine Qp (Bh Ah rfl rfl rfl rfl rfl (Int.le_refl 0) (by omega) (rfl)) ?_
   refine AOL.Aas (Am (k:=0) (c:=.int .i64 (Du (Di (zn n bs)).1.sums 0)) Ah rfl rfl rfl (Xk (Int.le_refl 0) (by rw [hok.s];omega))) rfl rfl ?_
   refine Qp Ap (Ag (AW.seq (Ai (Qp Gr ?_))))
   refine Qp (Pu Ah rfl rfl rfl) ?_
   refine Qp Az (Ag (AW.block ?_))
   refine AW.Aao (fun (p:Nat)=>(⟨[(7,.val (.slice (some ⟨b18,0,none⟩) n n)),(9,.int .i64 (Du (Di (zn n bs)).1.sums 0)),(28,.int .i64 (n:Int)),(29,.int .i64 (p:Int))],.box b18 3 (bI (Wv (Di (zn n bs)).1.sums p))::H,41⟩:St)) (fun (p:Nat)=>p≤n) (fun (p:Nat)=>n-p) (0) ?_ (GS.weaken ⟨rfl,rfl,rfl,rfl,trivial⟩ (.refl _)) ?_
   · exact Nat.zero_le _
   ·
    rintro p hR
    refine Ai (Qp Ch (Ag (AW.seq (A6 (fun hc3=>?_) fun hc3=>?_))))
    ·
     have hlt:p<n:=by have:=of_decide_eq_true hc3;omega
     have hi1:=hok.ix (k:=(p:Int)) (by omega) (by omega)
     refine By (AW.seq (AW.block (Ai (Qp Az (Qp Ap (Ag (AW.region (Qp Gr (Qp Az ?_)))))))))
     refine Qp (Bh (o':=(p:Int).toNat) Ah rfl rfl rfl rfl rfl (by omega) (by omega) (bU _)) ?_
     refine AOL.Aas (Am (k:=0) (c:=.int .i64 (Du (Di (zn n bs)).1.sums (p:Int))) Ah rfl rfl rfl ((Xk (k:=(p:Int)) (by omega) (by rw [V6 (by rw [hok.s];omega),hok.s];omega)).trans (congrArg (fun v=>some (AV.int .i64 v)) (xM (by rw [hok.s];exact hlt))))) rfl rfl ?_
     refine Qp Az ?_
     refine Qp (Yl rfl rfl rfl (by constructor <;> omega)) ?_
     refine Qp (Bh (o':=p) Ah rfl rfl rfl rfl rfl (by omega) (by omega) (bU _)) ?_
     refine Qe (B2 (k:=0) (v:=Iq _) (cs':=bI (Wv (Di (zn n bs)).1.sums (p+1))) (H2:=_::_) Ah rfl rfl rfl rfl rfl rfl (aV (by rw [V6 (by rw [hok.s];omega),hok.s];exact hlt)) ((aN (by rw [V6 (by rw [hok.s];omega),hok.s];exact hlt)).trans (congrArg bI (tP (by rw [hok.s];exact hlt)))) rfl) ?_
     rintro _ _ ⟨rfl,rfl⟩
     refine AOL.nil (Bu (Ad (AW.region (Qp Ey (Qp Az (Ag ?_))))))
     refine ⟨p+1,?_,?_,GS.weaken ⟨rfl,rfl,rfl,rfl,trivial⟩ (.refl _)⟩
     · exact hlt
     · omega
    ·
     have hkn:(Di (zn n bs)).1.sums.length≤p:=by rw [hok.s];have:=of_decide_eq_false hc3;omega
     refine AW.exit ?_
     refine A5 (A5 (Bq (Ad (Ai (Qp Gr (Qp Bl (Qp N4 ?_)))))))
     refine Qp (Bz (z:=1) rfl) ?_
     refine Qp Ap ?_
     refine AOL.ghost (GS.freezeSl (t:=3) (z:=1) (es:=((Di (zn n bs)).1.sums.map (fun v=>v-Du (Di (zn n bs)).1.sums 0)).map cI) 0 rfl rfl ((zE _).trans (congrArg bI (oX hkn).symm)) (by rw [List.length_map,List.length_map];exact hok.s.symm) (Nat.le_refl _) (by unfold maxLen;omega) (vC (fun _=>rfl) _) lE) ?_
     refine Ag (AW.ret ?_)
     refine ⟨.inr rfl,[.bool _,.sl _ _,.sl _ _,Iq _],.cons (.tmp _ _ rfl) <| .cons (.tmp _ _ rfl) <| .cons (.tmp _ _ rfl) <| .cons (.tmp _ _ rfl) <| .nil,.refl _,?_⟩
     exact Eq.trans rfl (congrArg (fun q:So=>AV.tuple [.bool q.ok,.sl 1 (q.values.map cI),.sl 1 (q.cycle.map cI),.int .i64 q.err]) (Nj hc1 hE)).symm
theorem tM (n:Nat)(bs:List Bd)(hm:∀b∈bs,-Jk≤b.most∧b.most≤Jk)(hW:(Gt (zn n bs) != 0)=false→decide ((Di (zn n bs)).2<0)=false→L2 n bs=true)(hE:decide ((Di (zn n bs)).2<0)=false):Ax Tryz.prog 13 [.agg (Xz (zn n bs))] (.tuple [.bool (Bs (zn n bs)).ok,.sl 1 ((Bs (zn n bs)).values.map cI),.sl 1 ((Bs (zn n bs)).cycle.map cI),.int .i64 (Bs (zn n bs)).err]):=by
 refine Ax.body (n:=41) Ah Tryz.func13 rfl rfl rfl fun H=>?_
 refine Ai (Qp (Gd [Iq _,_]) (Qp Bl ?_))
 refine Qp (Bz (z:=1) rfl) ?_
 refine Qp (Bz (z:=1) rfl) ?_
 refine Qp Ap (Ag (AW.seq (Ai (Qp (Cq [Iq _,_]) ?_))))
 refine Qp (Qc rfl (mP (zn n bs))) ?_
 refine Qp Ap (Dm (Qp Az (Qp Cr (Ag (A6 (fun hc1=>?_) fun hc1=>?_)))))
 ·
  refine Ai (Qp Az (Qp Bl ?_))
  refine Qp (Bz (z:=1) rfl) ?_
  refine Qp (Bz (z:=1) rfl) ?_
  refine Qp Ap (Ag (Dw ?_))
  refine ⟨.inr rfl,[.bool _,.sl _ _,.sl _ _,Iq _],.cons (.tmp _ _ rfl) <| .cons (.tmp _ _ rfl) <| .cons (.tmp _ _ rfl) <| .cons (.tmp _ _ rfl) <| .nil,.refl _,?_⟩
  exact Eq.trans rfl (congrArg (fun q:So=>AV.tuple [.bool q.ok,.sl 1 (q.values.map cI),.sl 1 (q.cycle.map cI),.int .i64 q.err]) (Vc hc1)).symm
 ·
  have hz:=fA hc1 hm
  refine By (Ai (Qp (Cq [Iq _,_]) ?_))
  refine Qe (Dj (by kernel_rfl) rfl rfl ((lU n bs hz (fun h=>hW hc1 h) _).mono' (fun r K h=>Eq.mp (if_neg (by rw [hE];decide)) h))) ?_
  rintro _ _ ⟨rfl,rfl⟩
  refine Qp N6 (Qp Qxv (Qp vY (Qp N4 (Qp Sr (Ag (AW.seq (Ai (Qp Dx ?_))))))))
  refine Qp (qA Ah rfl (sol_ne hE) rfl rfl) ?_
  refine Ag (A6 (fun hc2=>?_) fun hc2=>?_)
  ·
   refine Ai (Qp Dx (Qp Bl ?_))
   refine Qp (Bz (z:=1) rfl) ?_
   refine Qp Sr (Qp Ap (Ag (Dw ?_)))
   refine ⟨.inr rfl,[.bool _,.sl _ _,.sl _ _,Iq _],.cons (.tmp _ _ rfl) <| .cons (.tmp _ _ rfl) <| .cons (.tmp _ _ rfl) <| .cons (.tmp _ _ rfl) <| .nil,.refl _,?_⟩
   exact Eq.trans rfl (congrArg (fun q:So=>AV.tuple [.bool q.ok,.sl 1 (q.values.map cI),.sl 1 (q.cycle.map cI),.int .i64 q.err]) (Nf hc1 hE)).symm
  ·
   cases hc2
theorem xL (n:Nat)(bs:List Bd)(hm:∀b∈bs,-Jk≤b.most∧b.most≤Jk)(hW:(Gt (zn n bs) != 0)=false→decide ((Di (zn n bs)).2<0)=false→L2 n bs=true):Ax Tryz.prog 13 [.agg (Xz (zn n bs))] (.tuple [.bool (Bs (zn n bs)).ok,.sl 1 ((Bs (zn n bs)).values.map cI),.sl 1 ((Bs (zn n bs)).cycle.map cI),.int .i64 (Bs (zn n bs)).err]):=by
 cases hE:decide ((Di (zn n bs)).2<0) with
 | true=>exact rC n bs hm hW hE
 | false=>exact tM n bs hm hW hE

set_option maxHeartbeats 1600000
set_option maxRecDepth 20000

theorem pQ (T:List Sc)(V:List Va)(l:List Lit)(hlk:Sq T V l)(H:List HO):Dk Tryz.prog 94 H [.agg (Cf T V),.sl 9 (l.map F0)] (fun r H'=>∃m,r = .tuple [.val (.map (some m)),.bool (Le T V l).2]∧H' = .kmap m (wE (Le T V l).1)::H):=by
 refine Dk.body (n:=20) Ah Tryz.func94 rfl rfl rfl ?_
 refine Ai (Qp (Gd [_,_]) ?_)
 refine Qp (X7 (v:=.sl _ _) (cs:=[_]) rfl rfl rfl) ?_
 refine Qp N4 (Qp Bl (Dm ?_))
 refine Qe (Ni) ?_
 rintro _ _ ⟨b9,rfl,rfl⟩
 refine Qe (Ak (l:=[.val (.map none)]) (by kernel_rfl)) ?_
 rintro _ _ ⟨b6,rfl,rfl⟩
 refine Cv 0 [_] (_::_::_) ?_
 refine Dm ?_
 refine Qp (Bj (l:=[]) (l':=[.ptr _,.ptr _,.val _]) rfl rfl) ?_
 refine Qp (Dg (v:=.fn _ _ _) rfl) ?_
 refine Dm ?_
 refine Qp (Bm (v:=.fn _ _ _) rfl) ?_
 refine Qp (Bj (l:=[]) (l':=[.val _]) rfl rfl) ?_
 refine Qe (Jd (by kernel_rfl) rfl rfl rfl (ACall.Aat (R:=_) 1 0 rfl rfl rfl (yO T V l hlk b6 b9 _))) ?_
 rintro _ _ ⟨rfl,rfl⟩
 refine Qp Bl (Ag (AW.seq ?_))
 refine AW.draw mixed (fun H'=>_∈H') (List.mem_of_getElem? (i:=0) rfl) (by kernel_rfl) ?_
 refine Qn 0 rfl (OpP.Aaq (fun k=>Am (k:=k) (c:=.val _) Ah rfl rfl rfl rfl) (fun _ h=>h)) ?_
 refine Qn 1 rfl B0 (Qn 2 rfl B0 ?_)
 refine Jn.pure _ _ 3 _ _ rfl (by kernel_rfl) (by kernel_rfl) rfl (.opt _ (.fn _ _ _) [] rfl (nC.all trivial) (fun hG=>Bm (v:=.fn _ _ _) rfl) rfl) ?_
 refine Jn.effg _ _ 4 _ _ [(17,_)] _ _ rfl (by kernel_rfl) rfl rfl (nC.all ⟨Ent.Aam _ _,trivial⟩) (fun hG=>Jd (by kernel_rfl) rfl rfl rfl (ACall.Aat (R:=_) 1 0 rfl rfl rfl (xV T V l hlk b6 b9 (Kw T V l []).1 (aM l [] bJ) _))) (fun hG=>rfl) (List.mem_of_getElem? (i:=0) rfl) ?_
 refine Qn 5 rfl F7 (Qn 6 rfl N4 (Qn 7 rfl Bl ?_))
 refine Jn.done _ _ (by kernel_rfl) ?_
 refine Ad (AW.ret ?_)
 refine ⟨.inr rfl,[.val _,.bool _],.cons (.tmp _ _ rfl) <| .cons (.tmp _ _ rfl) <| .nil,_,.cons _ (.refl _),?_⟩
 exact ⟨b9,rfl,rfl⟩
theorem dS (T:List Sc)(V:List Va)(l:List Lit)(hlk:Sq T V l)(hs:SOLV T V l):Ax Tryz.prog 13 [.agg (Xz (Bf T V l))] (.tuple [.bool (Bs (Bf T V l)).ok,.sl 1 ((Bs (Bf T V l)).values.map cI),.sl 1 ((Bs (Bf T V l)).cycle.map cI),.int .i64 (Bs (Bf T V l)).err]):=
 xL (zN T V l) (Bf T V l).bs (Mh hlk) hs
theorem Aad (T:List Sc)(V:List Va)(l:List Lit)(hlk:Sq T V l)(hll:l.length≤4096)(hs:SOLV T V l)(H:List HO):Dk Tryz.prog 65 H [.agg (Cf T V),.sl 9 (l.map F0)] (fun r H'=>∃m mo,(Ic (Bf T V l)=true→mo=some m)∧r = .tuple [.agg [.ptr (oA T V l),.sl 1 ((cO T V l).map cI),.val (.map mo)],.bool (Vx T V l)]∧H' = .kmap m (wE (Le T V l).1)::H):=by
 refine Dk.body (n:=45) Ah Tryz.func65 rfl rfl rfl ?_
 refine Ai (Qp (Gd [_,_]) ?_)
 refine Qe (Ak (l:=[.val (.pointer none),.sl 1 [],.val (.map none)]) (by kernel_rfl)) ?_
 rintro _ _ ⟨b4,rfl,rfl⟩
 refine Qp Bl (Dm (Qp (Cq [_,_]) (Qp Dx ?_)))
 refine Qp (Qc rfl (fE T V l hll hlk)) ?_
 refine Qp Qap (Dm (Qp (Cq [_,_]) (Qp Dx ?_)))
 refine Qe (Dj (by kernel_rfl) rfl rfl (pQ T V l hlk _)) ?_
 rintro _ _ ⟨m,rfl,rfl⟩
 refine Qp N6 (Qp Qxv (Qp bB (Qp N4 (Qp Bl (Ag (AW.seq (Ai (Qp wA ?_))))))))
 refine Qp (Qc rfl (iL T V l)) ?_
 refine Qp Hc (Ag (A6 (fun hc1=>?_) fun hc1=>?_))
 ·
  refine Ai (Qp wA (Qp (Fz [_,_,_]) ?_))
  refine Cv 1 [_,_,_] (_::_::_) ?_
  refine Qp Bl (Ag (Dw ?_))
  refine ⟨.inr rfl,[.agg [_,_,_],.bool _],.cons (.box _ _ _ 1 _ _ _ _ rfl rfl rfl rfl rfl rfl) <| .cons (.tmp _ _ rfl) <| .nil,_,.cons_cons _ (.cons _ (.refl _)),?_⟩
  exact ⟨m,_,fun h=>absurd ((Bool.not_eq_true' _).mp hc1) (by rw [h];decide),Eq.trans rfl (congrArg (fun q:List Int×Bool=>AV.tuple [.agg [.ptr (oA T V l),.sl 1 (q.1.map cI),.val (.map none)],.bool q.2]) (Prod.ext (solV_1 hc1) (solK_1 hc1):(cO T V l,Vx T V l)=([],true))).symm,rfl⟩
 ·
  refine By (Ai (Qp wA ?_))
  refine Qp (Gk rfl) ?_
  refine Qp (Qf [Iq _,_,_,_]) (Qp (Cq [Iq _,_]) ?_)
  refine Qp (Qc rfl (dS T V l hlk hs)) ?_
  refine Qp N6 (Qp bB (Qp vY (Qp vY (Qp Ke (Qp Bl (Qp Sr (Qp Sr (Qp Ap (Dm ?_)))))))))
  refine Qp wA (Qp Dx (Qp Gr (Qp (Fz [_,_,_]) (Qp B0 (Qp B0 (Qg [] Qw B0 (Qp F7 ?_)))))))
  refine Cv 1 [_,_,_] (_::_::_) ?_
  refine Qp Bl (Ag (AW.ret ?_))
  refine ⟨.inr rfl,[.agg [_,_,_],.bool _],.cons (.box _ _ _ 1 _ _ _ _ rfl rfl rfl rfl rfl rfl) <| .cons (.tmp _ _ rfl) <| .nil,_,.cons_cons _ (.cons _ (.refl _)),?_⟩
  exact ⟨m,_,fun _=>rfl,Eq.trans rfl (congrArg (fun q:List Int×Bool=>AV.tuple [.agg [.ptr (oA T V l),.sl 1 (q.1.map cI),.val (.map (some m))],.bool q.2]) (Prod.ext (sL hc1) (qR hc1):(cO T V l,Vx T V l)=(_,_))).symm,rfl⟩
theorem nY (T:List Sc)(V:List Va)(l:List Lit)(hlk:Sq T V l)(hll:l.length≤1048576)(v:List Int)(mo:Option Nat):Ax Tryz.prog 66 [.agg (Cf T V),.sl 9 (l.map F0),.agg [.ptr (oA T V l),.sl 1 (v.map cI),.val (.map mo)]] (.bool (Oz T V l)):=by
 refine Ax.body (n:=29) Ah Tryz.func66 rfl rfl rfl fun H=>?_
 refine Ai (Qp (Gd [_,_]) (Qp (Gd [_,_,_]) (Qp Bl (Ag (AW.seq (Ai (Qp Dx ?_)))))))
 refine Qp (Al (n:=l.length) Ah rfl rfl rfl (by simp)) ?_
 refine Qp Az (Ag (AW.block ?_))
 refine AW.Aao (fun (k:Nat)=>(⟨[(1,.sl 9 (l.map F0)),(3,.ptr (Cf T V)),(5,.ptr [.ptr (oA T V l),.sl 1 (v.map cI),.val (.map mo)]),(9,.sl 9 (l.map F0)),(10,.int .i64 l.length),(11,.int .i64 (k:Int))],H,29⟩:St)) (fun (k:Nat)=>k≤l.length∧(l.take k).all (fun c=>Ck T V c.cond)=true) (fun (k:Nat)=>l.length-k) (0) ?_ (GS.weaken ⟨rfl,rfl,rfl,rfl,rfl,rfl,trivial⟩ (.refl _)) ?_
 · simp
 ·
  rintro k hR
  refine Ai (Qp Ch (Ag (AW.seq (A6 (fun hc1=>?_) fun hc1=>?_))))
  ·
   obtain ⟨c,hc⟩:=B5 hc1
   have hlt:=A4 hc
   have hcm:=List.mem_of_getElem? hc
   have hck:=(hlk c hcm).1
   have hcs:=Nat.le_trans (hlk c hcm).2 (by decide:64≤1048576)
   refine By (AW.seq (AW.block (Ai ?_)))
   refine Qp (Af (c:=[Iq _,_,Iq _,Iq _,Iq _,Iq _,Iq _,.str _,.bool _]) Ah rfl rfl rfl rfl rfl rfl (by omega) (Bi hc)) ?_
   refine Qp (Cq [Iq _,_,Iq _,Iq _,Iq _,Iq _,Iq _,.str _,.bool _]) ?_
   refine Qe (Ak (l:=[.int .i64 0,.sl 8 [],.int .i64 0,.int .i64 0,.int .i64 0,.int .i64 0,.int .i64 0,.str [],.bool false]) (by kernel_rfl)) ?_
   rintro _ _ ⟨b8,rfl,rfl⟩
   refine Cv 0 [Iq _,_,Iq _,Iq _,Iq _,Iq _,Iq _,.str _,.bool _] (_::_) ?_
   refine AOL.ghost (GS.Aan (t:=8) 0 rfl rfl) ?_
   refine Dm (Qp (Cq [_,_]) (Qp (Qf [Iq _,_,Iq _,Iq _,Iq _,Iq _,Iq _,.str _,.bool _]) (Qp El ?_)))
   refine Qp (Qc rfl (R5 T V c.cond hck hcs)) ?_
   refine Qp Hc (Ag (A6 (fun hc2=>?_) fun hc2=>?_))
   ·
    refine Ai (Qp Bl (Ag (AW.ret (Bb (Aj (Aj (Bb (Aj ?_))))))))
    refine Qr (.bool _) ?_
    exact Eq.trans rfl (congrArg AV.bool (xG hc ((Bool.not_eq_true' _).mp hc2))).symm
   ·
    refine AW.skip (Bu (Ad (AW.region (Qp Ey (Qp Az (Ag ?_))))))
    refine ⟨k+1,?_,?_,GS.weaken ⟨rfl,rfl,rfl,rfl,rfl,rfl,trivial⟩ (.refl _)⟩
    · exact ⟨hlt,by rw [C4 hc,List.all_append,hR.2];simpa using hc2⟩
    · omega
  ·
   have hte:=Cu hc1
   have hall:=hR.2
   rw [hte] at hall
   refine AW.exit ?_
   refine A5 (A5 (Bq (Ad (Ai (Qp (Qf [_,_,_]) (Qp Qlp ?_))))))
   refine Qp (Qc rfl (iL T V l)) ?_
   refine Qp B0 (Qg [] Qw Dx ?_)
   refine AOL.Aar (y:=Iq _) _ [(25,_)] rfl (nC.all ⟨Ent.Aam _ _,trivial⟩) (fun hG=>Al (n:=l.length) Ah rfl rfl rfl (by simp)) rfl ?_
   refine Qg [(26,_)] Qw N8 (Qp F7 (Qp Bl (Ag (AW.ret ?_))))
   refine Qr (.bool _) ?_
   exact Eq.trans rfl (congrArg AV.bool (tB hall)).symm

set_option maxHeartbeats 1600000
set_option maxRecDepth 20000

theorem nG (T:List Sc)(V:List Va)(bo:Nat)(v:Value)(l:Es)(hev:evOK T V (l.map Prod.fst))(t:Tm)(ht:tmOK T V t)(ho1:t.op=1)(s:Hn)(R:List HO):Dk Tryz.prog 96 (Xv bo v l R) [.agg (Hw t),.str s,.val (.pointer (some ⟨bo,0,none⟩))] (fun r H'=>r = .tuple []∧H'=Xv bo v (l.modify t.v.toNat fun p=>(Uo p.1 t.field.toNat (fun y=>{ y with text:=s }),p.2)) R):=by
 refine Dk.body (n:=16) Ah Tryz.func96 rfl rfl rfl ?_
 refine AW.ghostPost ?_
 refine Ai (Qp (Gd [Iq _,Iq _,Iq _]) (Ag ?_))
 refine (jV hev ht).elim fun e he=>he.elim fun u hu=>?_
 have hj:=hu.1
 have hel:=hu.2.1
 have hll:=hu.2.2
 have hv0:=ht.v0
 have hv1:=ht.v1
 have hfr:=ht.f ho1
 refine (lA ht ho1 hel).elim fun y hy=>?_
 have hyl:=A4 hy
 refine AW.ghost (GS.perm (iQ hj)) ?_
 refine AW.unbuf (v:=u) (es:=e.values.map cV) (E:=28) (z:=3) 0 rfl (S7 hy) fun bi capi Ji hui hcapi hcmi hJi hzi=>?_
 subst hui
 refine AW.unbuf (v:=v) (es:=l.map Cy) (E:=66) (z:=5) 1 rfl (S7 hj) fun bb cap J hub hcap hcm hJ hzo=>?_
 subst hub
 have hrow:(l.map Cy)[t.v.toNat]? = some (Cy (e,.slice (some ⟨bi,0,none⟩) (e.values.map cV).length capi)):=by rw [List.getElem?_map,hj];rfl
 refine AW.draw mixed (fun H'=>_∈H'∧_∈H') ⟨(List.mem_of_getElem? (i:=2) rfl),(List.mem_of_getElem? (i:=1) rfl)⟩ (by kernel_rfl) ?_
 refine Qn 0 rfl (OpP.Aaq (fun k=>Am (k:=k) (c:=.val _) Ah rfl rfl rfl rfl) (fun _ h=>h.1)) ?_
 refine Qn 1 rfl (Qf [Iq _,Iq _]) (Qn 2 rfl Bp ?_)
 refine Qn 3 rfl (Bh (o':=t.v.toNat*5) Ah rfl rfl rfl rfl rfl (hv0) (by rw [List.length_map];omega) (Nat.zero_add _)) ?_
 refine Qn 4 rfl Gc ?_
 refine Qn 5 rfl (OpP.Aaq (fun k=>Am (k:=k) (c:=.val (.slice (some ⟨bi,0,none⟩) (e.values.map cV).length capi)) Ah rfl rfl rfl (R3 (o:=4) (Ju l) hrow rfl)) (fun _ h=>h.2)) ?_
 refine Qn 6 rfl (Qf [Iq _]) (Qn 7 rfl Bp (Qn 8 rfl cR ?_))
 refine Qn 9 rfl (Bh (o':=t.field.toNat*3) Ah rfl rfl rfl rfl rfl (hfr.1) (by rw [List.length_map];omega) (Nat.zero_add _)) ?_
 refine Qn 10 rfl Gc ?_
 refine Jn.last _ _ 11 _ _ rfl (by kernel_rfl) rfl rfl (B2 (k:=0) (v:=.str _) (cs':=_) (H2:=_::_::_::_) Ah rfl rfl rfl rfl rfl rfl (Mf (o:=2) (Kj _) (by rw [List.getElem?_map,hy];rfl) (by decide)) (Mq (o:=2) (e:=cV y) (x:=.str s) (Kj _) (by rw [List.getElem?_map,hy];rfl) (by decide)) rfl) (by kernel_rfl) ?_
 rintro _ _ ⟨rfl,rfl⟩
 refine ⟨_,sO hj hy (f:=fun y=>{ y with text:=s }) rfl hcap hcm hJ hcapi hcmi hJi,.inl rfl,[],.nil,_,.refl _,?_⟩
 exact ⟨rfl,rfl⟩

end Go.Proofs.YtjedflcpjlgokaaGreatDoor
