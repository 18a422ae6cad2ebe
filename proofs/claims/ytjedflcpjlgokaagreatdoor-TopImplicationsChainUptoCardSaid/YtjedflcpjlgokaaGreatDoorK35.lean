/-
  Several texts in one: Y8c, Y8d, Y9b, Y10. No condition.
-/
import Derived.Test.YtjedflcpjlgokaaGreatDoorAz
import Derived.Test.YtjedflcpjlgokaaGreatDoorK19
import Derived.Test.YtjedflcpjlgokaaGreatDoorK34
import Derived.KernelRfl
import Derived.Test.YtjedflcpjlgokaaGreatDoorK20
set_option linter.unusedVariables false
set_option linter.unusedSimpArgs false
namespace Go.Proofs.YtjedflcpjlgokaaGreatDoor
open Go Go.Aw
set_option maxHeartbeats 3200000
set_option maxRecDepth 20000

theorem nG (n:Nat)(bs:List Bd)(hz:znOK n bs)(hW:decide ((D1 (zn n bs)).2<0)=false→Mi n bs=true)(H:List HO):Dj Tryz.prog 39 H [.agg (gS (zn n bs))] (fun r H'=>if decide ((D1 (zn n bs)).2<0) then (∃b,r = .tuple [.val (.slice (some ⟨b,0,none⟩) n n),.val (.slice none 0 0)]∧H' = .box b 3 (bI (D1 (zn n bs)).1.sums)::H) else (r = .tuple [.val (.slice none 0 0),.sl 1 ((Sk (zn n bs)).2.map cI)]∧H'=H)):=by
 have hmx:1048576≤maxLen:=by decide
 have hn1:=hz.n1
 have hn64:=hz.n64
 have hzn:(zn n bs).n=(n:Int):=rfl
 have hbb:I4=140737488355329:=rfl
 refine Dj.bodyX (n:=59) Ai Tryz.func39 rfl rfl rfl ?_
 refine AWX.seq ?_
 refine AW.region (Qp (Gd [Iq _,_]) (Qp N2 (Qp N2 (Ag ?_))))
 refine AWX.cut (fun (u:Nat×Nat×Nat)=>(⟨[(1,.ptr (gS (zn n bs))),(4,.val (.pointer (some ⟨u.1,0,none⟩)))],.box u.1 156 [.val (.slice (some ⟨u.2.1,0,none⟩) n n),.val (.slice (some ⟨u.2.2,0,none⟩) n n)] :: .box u.2.1 3 (bI (⟨List.replicate n 0,M0 n⟩:Ds).sums) :: .box u.2.2 3 (bI (⟨List.replicate n 0,M0 n⟩:Ds).last)::H,59⟩:St)) (fun (u:Nat×Nat×Nat)=>True) ?_ ?_
 ·
  refine AW.draw mixed (fun _=>True) trivial (by kernel_rfl) ?_
  refine Qn 0 rfl (Qf [Iq _,_]) (Qn 1 rfl Bp ?_)
  refine Qn 3 rfl (A2 (es:=[[Iq _]]) Ai rfl rfl rfl rfl rfl rfl rfl rfl rfl) ?_
  refine Qn 4 rfl (Qf [Iq _,_]) (Qn 5 rfl Bp ?_)
  refine Jb.two _ _ 2 6 _ _ _ _ rfl rfl (by kernel_rfl) rfl rfl rfl rfl (Nq (n:=n) Ai rfl rfl rfl rfl rfl rfl rfl (by show 8*n≤_;omega) (by omega)) (E5 (by kernel_rfl) rfl rfl (gD _ n hn1 (by omega))) (by rintro _ _ ⟨b10,rfl,rfl⟩;trivial) (by rintro _ _ ⟨b14,rfl,rfl⟩;trivial) ?_ ?_
  ·
   rintro _ _ ⟨b10,rfl,rfl⟩
   refine Jb.eff _ _ 6 _ _ rfl (by kernel_rfl) rfl rfl (E5 (by kernel_rfl) rfl rfl (gD _ n hn1 (by omega))) (fun _ _ _=>trivial) ?_
   rintro _ _ ⟨b14,rfl,rfl⟩
   refine Qn 7 rfl (Fr [_,_]) ?_
   refine Jb.eff _ _ 8 _ _ rfl (by kernel_rfl) rfl rfl (Ub (v:=.agg _) (cs:=[_,_]) rfl rfl (rfl)) (fun _ _ _=>trivial) ?_
   rintro _ _ ⟨b16,rfl,rfl⟩
   refine Qn 9 rfl N2 ?_
   refine Jb.done _ _ (by kernel_rfl) ?_
   refine Ae ?_
   refine ⟨(b16,b10,b14),?_,GS.trans (GS.cells 2 rfl (aF n)) (GS.trans (GS.perm (List.Perm.cons _ (List.Perm.swap _ _ _))) (GS.weaken ⟨rfl,rfl,trivial⟩ (.refl _)))⟩
   trivial
  ·
   rintro _ _ ⟨b14,rfl,rfl⟩
   refine Jb.eff _ _ 2 _ _ rfl (by kernel_rfl) rfl rfl (Nq (n:=n) Ai rfl rfl rfl rfl rfl rfl rfl (by show 8*n≤_;omega) (by omega)) (fun _ _ _=>trivial) ?_
   rintro _ _ ⟨b10,rfl,rfl⟩
   refine Qn 7 rfl (Fr [_,_]) ?_
   refine Jb.eff _ _ 8 _ _ rfl (by kernel_rfl) rfl rfl (Ub (v:=.agg _) (cs:=[_,_]) rfl rfl (rfl)) (fun _ _ _=>trivial) ?_
   rintro _ _ ⟨b16,rfl,rfl⟩
   refine Qn 9 rfl N2 ?_
   refine Jb.done _ _ (by kernel_rfl) ?_
   refine Ae ?_
   refine ⟨(b16,b10,b14),?_,GS.trans (GS.cells 1 rfl (aF n)) (GS.trans (GS.refl _) (GS.weaken ⟨rfl,rfl,trivial⟩ (.refl _)))⟩
   trivial
 ·
  rintro u _
  refine AWX.seq ?_
  refine AW.region (Qp Ar (Ag ?_))
  refine AWX.seq ?_
  refine Ah (Qp (Qf [Iq _,_]) (Qp Bp (Qp F7 (Qp A0 (Ag (AW.block ?_))))))
  refine AW.Aad (fun (p:Nat×Ds×Int)=>(⟨[(1,.ptr (gS (zn n bs))),(4,.val (.pointer (some ⟨u.1,0,none⟩))),(5,.int .i64 p.2.2),(19,.int .i64 ((n:Int)+1)),(20,.int .i64 (p.1:Int))],.box u.1 156 [.val (.slice (some ⟨u.2.1,0,none⟩) n n),.val (.slice (some ⟨u.2.2,0,none⟩) n n)] :: .box u.2.1 3 (bI p.2.1.sums) :: .box u.2.2 3 (bI p.2.1.last)::H,59⟩:St)) (fun (p:Nat×Ds×Int)=>p.1≤n+1∧D1 (zn n bs)=Dw bs (n+1-p.1) p.2∧dsOK n ((p.1:Int)*(256*I4)) p.2.1∧(0<p.1→0≤p.2.2)) (fun (p:Nat×Ds×Int)=>n+1-p.1) ((0,⟨List.replicate n 0,M0 n⟩,-1)) ?_ (GS.weaken ⟨rfl,rfl,rfl,rfl,rfl,trivial⟩ (.refl _)) ?_
  · exact ⟨Nat.zero_le _,Mn n bs,by simpa using gA n,fun h=>absurd h (by simp)⟩
  ·
   rintro p hR
   have hd2:=hR.2.2.1
   have hpl:=hR.1
   have hC0:(0:Int)≤(p.1:Int)*(256*I4):=by unfold I4;omega
   have hC2:(p.1:Int)*(256*I4)≤4000000000000000000:=by unfold I4;omega
   have hks:((p.1+1:Nat):Int)*(256*I4)=(p.1:Int)*(256*I4)+256*I4:=by push_cast;rw [Int.add_mul];omega
   refine Ah (Qp Ck (Ag (AW.seq (A3 (fun hc1=>?_) fun hc1=>?_))))
   ·
    have hlt:p.1<n+1:=by have:=of_decide_eq_true hc1;omega
    refine By (AW.seq (AW.block (Ah (Qp Ho (Qp (Cv [Iq _,_]) ?_)))))
    refine Qe (E5 (by kernel_rfl) rfl rfl (Dj.front3 (R:=_) 2 1 0 rfl rfl rfl rfl (wD u.1 u.2.1 u.2.2 n bs hz _ hC0 hC2 p.2.1 hd2 _))) ?_
    rintro _ _ ⟨rfl,rfl⟩
    refine Qp Ar (Do (Qp A0 (Qp Ck (Ag (A3 (fun hc2=>?_) fun hc2=>?_)))))
    ·
     have hend:=rC hR.2.1 hlt hc2
     refine Ah (Qp Ho ?_)
     refine Qp (Be rfl) ?_
     refine Qp H9 ?_
     refine AOL.Aah (Ao (k:=0) (c:=.val _) Ai rfl rfl rfl rfl) rfl rfl ?_
     refine Qp N2 (Qp N2 (Ag (AW.ret (A7 (Aj (Aj (A7 (Aj ?_))))))))
     refine ⟨.inr rfl,[.val _,.val _],.cons (.tmp _ _ rfl) <| .cons (.tmp _ _ rfl) <| .nil,_,.cons _ (.cons_cons _ (.cons _ (.refl _))),?_⟩
     exact Eq.mpr (if_pos (by rw [hend];exact hc2)) ⟨_,rfl,congrArg (fun q:Ds×Int=>(.box u.2.1 3 (bI q.1.sums)::H:List HO)) hend.symm⟩
    ·
     refine AW.skip (Bv (Ae (AW.region (Qp F7 (Qp A0 (Ag ?_))))))
     refine ⟨(p.1+1,I7 bs p.2.1),?_,?_,GS.weaken ⟨rfl,rfl,rfl,rfl,rfl,trivial⟩ (.refl _)⟩
     · exact ⟨hlt,end_on hR.2.1 hlt hc2,(aI hz hd2).mono (by simp only [hks];omega),fun _=>by simpa using hc2⟩
     · simp only;omega
   ·
    have hge1:n+1≤p.1:=by have:=of_decide_eq_false hc1;omega
    have hend:=xF hR.2.1 hge1
    have hge:decide ((D1 (zn n bs)).2<0)=false:=by rw [hend];have:=hR.2.2.2 (by omega);simpa using this
    have hws:=jV (hW hge) hend
    have hcy:=hws.2
    refine AW.exit ?_
    refine A5 (A5 (Bx (Ae ?_)))
    refine AWX.seq ?_
    refine Ah (Qp (Qf [Iq _,_]) (Qp Bp (Qp A0 (Ag (AW.block ?_)))))
    refine AW.Aad (fun (q:Nat×Int)=>(⟨[(1,.ptr (gS (zn n bs))),(4,.val (.pointer (some ⟨u.1,0,none⟩))),(5,.int .i64 q.2),(33,.int .i64 (n:Int)),(34,.int .i64 (q.1:Int))],.box u.1 156 [.val (.slice (some ⟨u.2.1,0,none⟩) n n),.val (.slice (some ⟨u.2.2,0,none⟩) n n)] :: .box u.2.1 3 (bI p.2.1.sums) :: .box u.2.2 3 (bI p.2.1.last)::H,59⟩:St)) (fun (q:Nat×Int)=>q.1≤n∧Js bs p.2.1 n p.2.2=Js bs p.2.1 (n-q.1) q.2∧Kx bs p.2.1 (n-q.1) q.2=true) (fun (q:Nat×Int)=>n-q.1) ((0,p.2.2)) ?_ (GS.weaken ⟨rfl,rfl,rfl,rfl,rfl,trivial⟩ (.refl _)) ?_
    · exact ⟨Nat.zero_le _,rfl,hws.1⟩
    ·
     rintro q hQ
     refine Ah (Qp Ck (Ag (AW.seq (A3 (fun hc3=>?_) fun hc3=>?_))))
     ·
      have hlt3:q.1<n:=by have:=of_decide_eq_true hc3;omega
      have hb9:=nL hQ.2.2 hlt3
      refine (cN hb9.1).elim fun c ok=>?_
      have hdl:=hd2.l
      refine By (AW.seq (AW.block ?_))
      refine AW.draw mixed (fun H'=>_∈H'∧_∈H') ⟨(List.mem_of_getElem? (i:=0) rfl),(List.mem_of_getElem? (i:=2) rfl)⟩ (by kernel_rfl) ?_
      refine Qn 0 rfl (Qf [_]) (Qn 1 rfl Ee (Qn 2 rfl Ho ?_))
      refine Qn 3 rfl (Be rfl) ?_
      refine Qn 4 rfl H9 ?_
      refine Qn 5 rfl (OpP.Aag (fun k=>Ao (k:=k) (c:=.val _) Ai rfl rfl rfl rfl) (fun _ h=>h.1)) ?_
      refine Qn 6 rfl A0 ?_
      refine Qn 7 rfl (B6 (o':=q.2.toNat) Ai rfl rfl rfl rfl rfl (ok.a0) (by have:=ok.al;omega) (bJ _)) ?_
      refine Qn 8 rfl (OpP.Aag (fun k=>Ao (k:=k) (c:=.int .i64 (D7 p.2.1.last q.2)) Ai rfl rfl rfl (W4 ok.a0 ok.al)) (fun _ h=>h.2)) ?_
      refine Qn 9 rfl (Af (c:=[.int .i64 c.x,.int .i64 c.y,.int .i64 c.most]) Ai rfl rfl rfl rfl rfl rfl (ok.l0) (iH ok.at_)) ?_
      refine Qn 10 rfl (Qf [Iq _,Iq _]) (Qn 11 rfl Bp (Qn 12 rfl Ar ?_))
      refine Jb.done _ _ (by kernel_rfl) ?_
      refine Bv (Ae (AW.region (Qp F7 (Qp A0 (Ag ?_)))))
      refine ⟨(q.1+1,c.y),?_,?_,GS.weaken ⟨rfl,rfl,rfl,rfl,rfl,trivial⟩ (.refl _)⟩
      · exact ⟨hlt3,oM hQ.2.1 hlt3 ok,by have:=hb9.2;rw [ok.pred] at this;exact this⟩
      · simp only;omega
     ·
      have hge3:n≤q.1:=by have:=of_decide_eq_false hc3;omega
      have hfr:Js bs p.2.1 n p.2.2=q.2:=hQ.2.1.trans (by rw [show n-q.1=0 by omega];rfl)
      refine AW.exit ?_
      refine A5 (A5 (Bx (Ae ?_)))
      refine AWX.seq ?_
      refine AW.region ?_
      refine Qe (Am (l:=[.val (.slice none 0 0)]) (by kernel_rfl)) ?_
      rintro _ _ ⟨b6,rfl,rfl⟩
      refine AOL.ghost (GS.cellRow 0 0 3 1 rfl rfl rfl rfl) ?_
      refine Ag ?_
      refine AWX.assoc ?_
      refine AW.region (Qp Ho (Qp (Cv [Iq _,_]) (Qp A0 ?_)))
      refine Qp (Qc rfl (f_back u.1 n bs q.2)) ?_
      refine Ag ?_
      refine AWX.rangeTail Ai (fun H2=>∃v,H2 = .row v ((Ka bs p.2.1 q.2 (n+1) q.2).map cI).length 3 1 :: .box b6 49 [.row v 1 ((Ka bs p.2.1 q.2 (n+1) q.2).map cI)]::(.box u.1 156 [.val (.slice (some ⟨u.2.1,0,none⟩) n n),.val (.slice (some ⟨u.2.2,0,none⟩) n n)] :: .box u.2.1 3 (bI p.2.1.sums) :: .box u.2.2 3 (bI p.2.1.last)::H)) rfl (by kernel_rfl) (fun rec D l hst hpe hps has hbo hsz htm=>?_) (fun D H2 hZ=>?_)
      ·
       have h6:=htm 6 _ rfl
       refine Dj.post (Dj.perm (List.perm_append_comm.append_right _:(([_,_,_,_] ++ [_,_,_])++H).Perm _) (yE l rec u.1 u.2.1 u.2.2 n bs p.2.1 hz.n64 hd2.l (fun v pre=>.obj l (.loop rec) :: .obj D (.deferred (some [])) :: .row v ((pre.map cI)).length 3 1 :: .box b6 49 [.row v 1 ((pre.map cI))]::H) (by rw [hps];rfl) 0 (fun _ _=>rfl) q.2 (by rw [←hfr];exact hcy) (fun v pre x hpl=>?_) (.slice none 0 0))) ?_
       ·
        refine jW.of (sl:=[(53,.int .i64 x),(6,.val (.pointer (some ⟨b6,0,none⟩)))]) hst hpe hsz (by rw [hps];exact kC hsz rfl h6) ?_
        rw [has,hbo]
        refine AWr.region (by kernel_rfl) ?_
        refine Qp Ar (AOL.nil ?_)
        refine ⟨rfl,3,rfl,?_⟩
        refine AWr.block (AWr.region (by kernel_rfl) ?_)
        refine AOL.Aah (Ao (k:=6) (c:=.row _ _ _) Ai rfl rfl rfl rfl) rfl rfl ?_
        refine Qp A0 ?_
        refine Qp (A2 (es:=[[Iq _]]) Ai rfl rfl rfl rfl rfl rfl rfl rfl rfl) ?_
        refine Qe (Dh (k:=5) Ai rfl rfl rfl rfl rfl rfl rfl rfl (G5 rfl) (Fc fun _=>rfl) (by simp;omega) (by simp [maxLen];omega)) ?_
        rintro _ _ ⟨v57,rfl,rfl⟩
        refine Cz 6 [_] (_::_::_::_::_::_::_::_) ?_
        refine AOL.nil ?_
        exact ⟨rfl,3,rfl,rfl,v57,congrArg (fun es:List (List AV)=>(.box u.1 156 [.val (.slice (some ⟨u.2.1,0,none⟩) n n),.val (.slice (some ⟨u.2.2,0,none⟩) n n)] :: .box u.2.1 3 (bI p.2.1.sums) :: .box u.2.2 3 (bI p.2.1.last) :: .obj l (.loop rec) :: .obj D (.deferred (some [])) :: .row v57 (es).length 3 1 :: .box b6 49 [.row v57 1 (es)]::H:List HO)) (List.map_append (f:=cI) (l₁:=pre) (l₂:=[x])).symm⟩
       ·
        rintro r K ⟨rfl,v,rfl⟩
        exact ⟨_,(List.perm_append_comm.append_right _:(([_,_,_] ++ [_,_,_,_])++H).Perm _),rec,_,rfl,by rw [hst];decide,hpe,v,rfl⟩
      ·
       obtain ⟨v,rfl⟩:=hZ
       refine ⟨_,GS.cell (H2:=_::_::_::_::_::_::_) 2 0 rfl rfl rfl rfl Gn,?_⟩
       refine AWD.draw mixed (fun H'=>_∈H') (List.mem_of_getElem? (i:=2) rfl) (by kernel_rfl) ?_
       refine Qn 0 rfl (OpP.Aag (fun k=>Ao (k:=k) (c:=.sl _ _) Ai rfl rfl rfl rfl) (fun _ h=>h)) ?_
       refine Qn 1 rfl N2 (Qn 2 rfl Un ?_)
       refine Jb.done _ _ (by kernel_rfl) ?_
       refine ⟨0,rfl,[_,_],.cons (.tmp _ _ rfl) (.cons (.tmp _ _ rfl) .nil),H,.cons _ (.cons _ (.cons _ (.cons _ (.cons _ (.cons _ (.refl _)))))),?_⟩
       exact Eq.mpr (if_neg (by rw [hge];decide)) ⟨congrArg (fun c:List Int=>AV.tuple [.val (.slice none 0 0),.sl 1 (c.map cI)]) (kQ hend hge hfr).symm,rfl⟩

set_option maxHeartbeats 1600000
set_option maxRecDepth 20000

theorem rP (n:Nat)(bs:List Bd)(hm:∀b∈bs,-I4≤b.most∧b.most≤I4)(hW:(He (zn n bs) != 0)=false→decide ((D1 (zn n bs)).2<0)=false→Mi n bs=true)(hE:decide ((D1 (zn n bs)).2<0)=true):Ax Tryz.prog 13 [.agg (gS (zn n bs))] (.tuple [.bool (Dr (zn n bs)).ok,.sl 1 ((Dr (zn n bs)).values.map cI),.sl 1 ((Dr (zn n bs)).cycle.map cI),.int .i64 (Dr (zn n bs)).err]):=by
 refine Ax.body (n:=41) Ai Tryz.func13 rfl rfl rfl fun H=>?_
 refine Ah (Qp (Gd [Iq _,_]) (Qp Bm (Qp N2 (Qp N2 (Qp Ar (Ag (AW.seq (Ah (Qp (Cv [Iq _,_]) ?_)))))))))
 refine Qp (Qc rfl (mN (zn n bs))) ?_
 refine Qp Ar (Do (Qp A0 (Qp Cr (Ag (A3 (fun hc1=>?_) fun hc1=>?_)))))
 ·
  refine Ah (Qp A0 (Qp Bm ?_))
  refine Qp (Ca (z:=1) rfl) ?_
  refine Qp (Ca (z:=1) rfl) ?_
  refine Qp Ar (Ag (Du ?_))
  refine ⟨.inr rfl,[.bool _,.sl _ _,.sl _ _,Iq _],.cons (.tmp _ _ rfl) <| .cons (.tmp _ _ rfl) <| .cons (.tmp _ _ rfl) <| .cons (.tmp _ _ rfl) <| .nil,.refl _,?_⟩
  exact Eq.trans rfl (congrArg (fun q:So=>AV.tuple [.bool q.ok,.sl 1 (q.values.map cI),.sl 1 (q.cycle.map cI),.int .i64 q.err]) (U3 hc1)).symm
 ·
  have hz:=mT hc1 hm
  have hn1:=hz.n1
  have hn64:=hz.n64
  have hok:=jP hz
  have hi0:=hok.ix (Int.le_refl 0) (by omega)
  refine By (Ah (Qp (Cv [Iq _,_]) ?_))
  refine Qe (E5 (by kernel_rfl) rfl rfl ((nG n bs hz (fun h=>absurd (hE.symm.trans h) (by decide)) _).mono' (fun r K h=>Eq.mp (if_pos hE) h))) ?_
  rintro _ _ ⟨b18,rfl,rfl⟩
  refine Qp Nb (Qp Qxv (Qp Qxv (Qp N2 (Qp N2 (Ag (AW.seq (Ah (Qp Ho ?_))))))))
  refine Qp (pS Ai rfl rfl rfl) ?_
  refine Ag (A3 (fun hc2=>?_) fun hc2=>?_)
  ·
   cases hc2
  ·
   refine By (Ah (Qp Ho ?_))
   refine Qp (B6 Ai rfl rfl rfl rfl rfl (Int.le_refl 0) (by omega) (rfl)) ?_
   refine AOL.Aah (Ao (k:=0) (c:=.int .i64 (D7 (D1 (zn n bs)).1.sums 0)) Ai rfl rfl rfl (W4 (Int.le_refl 0) (by rw [hok.s];omega))) rfl rfl ?_
   refine Qp Ar (Ag (AW.seq (Ah (Qp Ho ?_))))
   refine Qp (Za Ai rfl rfl rfl) ?_
   refine Qp A0 (Ag (AW.block ?_))
   refine AW.Aad (fun (p:Nat)=>(⟨[(7,.val (.slice (some ⟨b18,0,none⟩) n n)),(9,.int .i64 (D7 (D1 (zn n bs)).1.sums 0)),(28,.int .i64 (n:Int)),(29,.int .i64 (p:Int))],.box b18 3 (bI (Vv (D1 (zn n bs)).1.sums p))::H,41⟩:St)) (fun (p:Nat)=>p≤n) (fun (p:Nat)=>n-p) (0) ?_ (GS.weaken ⟨rfl,rfl,rfl,rfl,trivial⟩ (.refl _)) ?_
   · exact Nat.zero_le _
   ·
    rintro p hR
    refine Ah (Qp Ck (Ag (AW.seq (A3 (fun hc3=>?_) fun hc3=>?_))))
    ·
     have hlt:p<n:=by have:=of_decide_eq_true hc3;omega
     have hi1:=hok.ix (k:=(p:Int)) (by omega) (by omega)
     refine By (AW.seq (AW.block (Ah (Qp A0 (Qp Ar (Ag (AW.region (Qp Ho (Qp A0 ?_)))))))))
     refine Qp (B6 (o':=(p:Int).toNat) Ai rfl rfl rfl rfl rfl (by omega) (by omega) (bJ _)) ?_
     refine AOL.Aah (Ao (k:=0) (c:=.int .i64 (D7 (D1 (zn n bs)).1.sums (p:Int))) Ai rfl rfl rfl ((W4 (k:=(p:Int)) (by omega) (by rw [Vz (by rw [hok.s];omega),hok.s];omega)).trans (congrArg (fun v=>some (AV.int .i64 v)) (xO (by rw [hok.s];exact hlt))))) rfl rfl ?_
     refine Qp A0 ?_
     refine Qp (Yz rfl rfl rfl (by constructor <;> omega)) ?_
     refine Qp (B6 (o':=p) Ai rfl rfl rfl rfl rfl (by omega) (by omega) (bJ _)) ?_
     refine Qe (Df (k:=0) (v:=Iq _) (cs':=bI (Vv (D1 (zn n bs)).1.sums (p+1))) (H2:=_::_) Ai rfl rfl rfl rfl rfl rfl (aB (by rw [Vz (by rw [hok.s];omega),hok.s];exact hlt)) ((bT (by rw [Vz (by rw [hok.s];omega),hok.s];exact hlt)).trans (congrArg bI (sP (by rw [hok.s];exact hlt)))) rfl) ?_
     rintro _ _ ⟨rfl,rfl⟩
     refine AOL.nil (Bv (Ae (AW.region (Qp F7 (Qp A0 (Ag ?_))))))
     refine ⟨p+1,?_,?_,GS.weaken ⟨rfl,rfl,rfl,rfl,trivial⟩ (.refl _)⟩
     · exact hlt
     · omega
    ·
     have hkn:(D1 (zn n bs)).1.sums.length≤p:=by rw [hok.s];have:=of_decide_eq_false hc3;omega
     refine AW.exit ?_
     refine A5 (A5 (Bx (Ae (Ah (Qp Ho (Qp Bm (Qp N2 ?_)))))))
     refine Qp (Ca (z:=1) rfl) ?_
     refine Qp Ar ?_
     refine AOL.ghost (GS.freezeSl (t:=3) (z:=1) (es:=((D1 (zn n bs)).1.sums.map (fun v=>v-D7 (D1 (zn n bs)).1.sums 0)).map cI) 0 rfl rfl ((wX _).trans (congrArg bI (nN hkn).symm)) (by rw [List.length_map,List.length_map];exact hok.s.symm) (Nat.le_refl _) (by unfold maxLen;omega) (uJ (fun _=>rfl) _) yU) ?_
     refine Ag (AW.ret ?_)
     refine ⟨.inr rfl,[.bool _,.sl _ _,.sl _ _,Iq _],.cons (.tmp _ _ rfl) <| .cons (.tmp _ _ rfl) <| .cons (.tmp _ _ rfl) <| .cons (.tmp _ _ rfl) <| .nil,.refl _,?_⟩
     exact Eq.trans rfl (congrArg (fun q:So=>AV.tuple [.bool q.ok,.sl 1 (q.values.map cI),.sl 1 (q.cycle.map cI),.int .i64 q.err]) (Ut hc1 hE)).symm
theorem rW (n:Nat)(bs:List Bd)(hm:∀b∈bs,-I4≤b.most∧b.most≤I4)(hW:(He (zn n bs) != 0)=false→decide ((D1 (zn n bs)).2<0)=false→Mi n bs=true)(hE:decide ((D1 (zn n bs)).2<0)=false):Ax Tryz.prog 13 [.agg (gS (zn n bs))] (.tuple [.bool (Dr (zn n bs)).ok,.sl 1 ((Dr (zn n bs)).values.map cI),.sl 1 ((Dr (zn n bs)).cycle.map cI),.int .i64 (Dr (zn n bs)).err]):=by
 refine Ax.body (n:=41) Ai Tryz.func13 rfl rfl rfl fun H=>?_
 refine Ah (Qp (Gd [Iq _,_]) (Qp Bm ?_))
 refine Qp (Ca (z:=1) rfl) ?_
 refine Qp (Ca (z:=1) rfl) ?_
 refine Qp Ar (Ag (AW.seq (Ah (Qp (Cv [Iq _,_]) ?_))))
 refine Qp (Qc rfl (mN (zn n bs))) ?_
 refine Qp Ar (Do (Qp A0 (Qp Cr (Ag (A3 (fun hc1=>?_) fun hc1=>?_)))))
 ·
  refine Ah (Qp A0 (Qp Bm ?_))
  refine Qp (Ca (z:=1) rfl) ?_
  refine Qp (Ca (z:=1) rfl) ?_
  refine Qp Ar (Ag (Du ?_))
  refine ⟨.inr rfl,[.bool _,.sl _ _,.sl _ _,Iq _],.cons (.tmp _ _ rfl) <| .cons (.tmp _ _ rfl) <| .cons (.tmp _ _ rfl) <| .cons (.tmp _ _ rfl) <| .nil,.refl _,?_⟩
  exact Eq.trans rfl (congrArg (fun q:So=>AV.tuple [.bool q.ok,.sl 1 (q.values.map cI),.sl 1 (q.cycle.map cI),.int .i64 q.err]) (U3 hc1)).symm
 ·
  have hz:=mT hc1 hm
  refine By (Ah (Qp (Cv [Iq _,_]) ?_))
  refine Qe (E5 (by kernel_rfl) rfl rfl ((nG n bs hz (fun h=>hW hc1 h) _).mono' (fun r K h=>Eq.mp (if_neg (by rw [hE];decide)) h))) ?_
  rintro _ _ ⟨rfl,rfl⟩
  refine Qp Nb (Qp Qxv (Qp yW (Qp N2 (Qp Un (Ag (AW.seq (Ah (Qp Dt ?_))))))))
  refine Qp (nZ Ai rfl (sol_ne hE) rfl rfl) ?_
  refine Ag (A3 (fun hc2=>?_) fun hc2=>?_)
  ·
   refine Ah (Qp Dt (Qp Bm ?_))
   refine Qp (Ca (z:=1) rfl) ?_
   refine Qp Un (Qp Ar (Ag (Du ?_)))
   refine ⟨.inr rfl,[.bool _,.sl _ _,.sl _ _,Iq _],.cons (.tmp _ _ rfl) <| .cons (.tmp _ _ rfl) <| .cons (.tmp _ _ rfl) <| .cons (.tmp _ _ rfl) <| .nil,.refl _,?_⟩
   exact Eq.trans rfl (congrArg (fun q:So=>AV.tuple [.bool q.ok,.sl 1 (q.values.map cI),.sl 1 (q.cycle.map cI),.int .i64 q.err]) (cF hc1 hE)).symm
  ·
   cases hc2
theorem xE (n:Nat)(bs:List Bd)(hm:∀b∈bs,-I4≤b.most∧b.most≤I4)(hW:(He (zn n bs) != 0)=false→decide ((D1 (zn n bs)).2<0)=false→Mi n bs=true):Ax Tryz.prog 13 [.agg (gS (zn n bs))] (.tuple [.bool (Dr (zn n bs)).ok,.sl 1 ((Dr (zn n bs)).values.map cI),.sl 1 ((Dr (zn n bs)).cycle.map cI),.int .i64 (Dr (zn n bs)).err]):=by
 cases hE:decide ((D1 (zn n bs)).2<0) with
 | true=>exact rP n bs hm hW hE
 | false=>exact rW n bs hm hW hE

set_option maxHeartbeats 1600000
set_option maxRecDepth 20000

theorem pH (T:List Sc)(V:List Va)(l:List Lit)(hlk:Up T V l)(H:List HO):Dj Tryz.prog 94 H [.agg (Cw T V),.sl 9 (l.map H7)] (fun r H'=>∃m,r = .tuple [.val (.map (some m)),.bool (D5 T V l).2]∧H' = .kmap m (wE (D5 T V l).1)::H):=by
 refine Dj.body (n:=20) Ai Tryz.func94 rfl rfl rfl ?_
 refine Ah (Qp (Gd [_,_]) ?_)
 refine Qp (Zh (v:=.sl _ _) (cs:=[_]) rfl rfl rfl) ?_
 refine Qp N2 (Qp Bm (Do ?_))
 refine Qe (Mt) ?_
 rintro _ _ ⟨b9,rfl,rfl⟩
 refine Qe (Am (l:=[.val (.map none)]) (by kernel_rfl)) ?_
 rintro _ _ ⟨b6,rfl,rfl⟩
 refine Cz 0 [_] (_::_::_) ?_
 refine Do ?_
 refine Qp (A9 (l:=[]) (l':=[.ptr _,.ptr _,.val _]) rfl rfl) ?_
 refine Qp (Da (v:=.fn _ _ _) rfl) ?_
 refine Do ?_
 refine Qp (Bk (v:=.fn _ _ _) rfl) ?_
 refine Qp (A9 (l:=[]) (l':=[.val _]) rfl rfl) ?_
 refine Qe (Iv (by kernel_rfl) rfl rfl rfl (Dj.front2 (R:=_) 1 0 rfl rfl rfl (yB T V l hlk b6 b9 _))) ?_
 rintro _ _ ⟨rfl,rfl⟩
 refine Qp Bm (Ag (AW.seq ?_))
 refine AW.draw mixed (fun H'=>_∈H') (List.mem_of_getElem? (i:=0) rfl) (by kernel_rfl) ?_
 refine Qn 0 rfl (OpP.Aag (fun k=>Ao (k:=k) (c:=.val _) Ai rfl rfl rfl rfl) (fun _ h=>h)) ?_
 refine Qn 1 rfl Bu (Qn 2 rfl Bu ?_)
 refine Jb.pure _ _ 3 _ _ rfl (by kernel_rfl) (by kernel_rfl) rfl (.opt _ (.fn _ _ _) [] rfl (oE.all trivial) (fun hG=>Bk (v:=.fn _ _ _) rfl) rfl) ?_
 refine Jb.effg _ _ 4 _ _ [(17,_)] _ _ rfl (by kernel_rfl) rfl rfl (oE.all ⟨Ent.Aab _ _,trivial⟩) (fun hG=>Iv (by kernel_rfl) rfl rfl rfl (Dj.front2 (R:=_) 1 0 rfl rfl rfl (yS T V l hlk b6 b9 (Ir T V l []).1 (Zz l [] U0) _))) (fun hG=>rfl) (List.mem_of_getElem? (i:=0) rfl) ?_
 refine Qn 5 rfl Gg (Qn 6 rfl N2 (Qn 7 rfl Bm ?_))
 refine Jb.done _ _ (by kernel_rfl) ?_
 refine Ae (AW.ret ?_)
 refine ⟨.inr rfl,[.val _,.bool _],.cons (.tmp _ _ rfl) <| .cons (.tmp _ _ rfl) <| .nil,_,.cons _ (.refl _),?_⟩
 exact ⟨b9,rfl,rfl⟩
theorem tB (T:List Sc)(V:List Va)(l:List Lit)(hlk:Up T V l)(hs:SOLV T V l):Ax Tryz.prog 13 [.agg (gS (Cy T V l))] (.tuple [.bool (Dr (Cy T V l)).ok,.sl 1 ((Dr (Cy T V l)).values.map cI),.sl 1 ((Dr (Cy T V l)).cycle.map cI),.int .i64 (Dr (Cy T V l)).err]):=
 xE (zN T V l) (Cy T V l).bs (O3 hlk) hs
theorem yT (T:List Sc)(V:List Va)(l:List Lit)(hlk:Up T V l)(hll:l.length≤4096)(hs:SOLV T V l)(H:List HO):Dj Tryz.prog 65 H [.agg (Cw T V),.sl 9 (l.map H7)] (fun r H'=>∃m mo,(Ja (Cy T V l)=true→mo=some m)∧r = .tuple [.agg [.ptr (qP T V l),.sl 1 ((Ku T V l).map cI),.val (.map mo)],.bool (Pe T V l)]∧H' = .kmap m (wE (D5 T V l).1)::H):=by
 refine Dj.body (n:=45) Ai Tryz.func65 rfl rfl rfl ?_
 refine Ah (Qp (Gd [_,_]) ?_)
 refine Qe (Am (l:=[.val (.pointer none),.sl 1 [],.val (.map none)]) (by kernel_rfl)) ?_
 rintro _ _ ⟨b4,rfl,rfl⟩
 refine Qp Bm (Do (Qp (Cv [_,_]) (Qp Dt ?_)))
 refine Qp (Qc rfl (rY T V l hll hlk)) ?_
 refine Qp Qap (Do (Qp (Cv [_,_]) (Qp Dt ?_)))
 refine Qe (E5 (by kernel_rfl) rfl rfl (pH T V l hlk _)) ?_
 rintro _ _ ⟨m,rfl,rfl⟩
 refine Qp Nb (Qp Qxv (Qp eR (Qp N2 (Qp Bm (Ag (AW.seq (Ah (Qp Qmp ?_))))))))
 refine Qp (Qc rfl (tS T V l)) ?_
 refine Qp Hp (Ag (A3 (fun hc1=>?_) fun hc1=>?_))
 ·
  refine Ah (Qp Qmp (Qp (Fr [_,_,_]) ?_))
  refine Cz 1 [_,_,_] (_::_::_) ?_
  refine Qp Bm (Ag (Du ?_))
  refine ⟨.inr rfl,[.agg [_,_,_],.bool _],.cons (.box _ _ _ 1 _ _ _ _ rfl rfl rfl rfl rfl rfl) <| .cons (.tmp _ _ rfl) <| .nil,_,.cons_cons _ (.cons _ (.refl _)),?_⟩
  exact ⟨m,_,fun h=>absurd ((Bool.not_eq_true' _).mp hc1) (by rw [h];decide),Eq.trans rfl (congrArg (fun q:List Int×Bool=>AV.tuple [.agg [.ptr (qP T V l),.sl 1 (q.1.map cI),.val (.map none)],.bool q.2]) (Prod.ext (solV_1 hc1) (tU hc1):(Ku T V l,Pe T V l)=([],true))).symm,rfl⟩
 ·
  refine By (Ah (Qp Qmp ?_))
  refine Qp (Iz rfl) ?_
  refine Qp (Qf [Iq _,_,_,_]) (Qp (Cv [Iq _,_]) ?_)
  refine Qp (Qc rfl (tB T V l hlk hs)) ?_
  refine Qp Nb (Qp eR (Qp yW (Qp yW (Qp I6 (Qp Bm (Qp Un (Qp Un (Qp Ar (Do ?_)))))))))
  refine Qp Qmp (Qp Dt (Qp Ho (Qp (Fr [_,_,_]) (Qp Bu (Qp Bu (Qg [] Qw Bu (Qp Gg ?_)))))))
  refine Cz 1 [_,_,_] (_::_::_) ?_
  refine Qp Bm (Ag (AW.ret ?_))
  refine ⟨.inr rfl,[.agg [_,_,_],.bool _],.cons (.box _ _ _ 1 _ _ _ _ rfl rfl rfl rfl rfl rfl) <| .cons (.tmp _ _ rfl) <| .nil,_,.cons_cons _ (.cons _ (.refl _)),?_⟩
  exact ⟨m,_,fun _=>rfl,Eq.trans rfl (congrArg (fun q:List Int×Bool=>AV.tuple [.agg [.ptr (qP T V l),.sl 1 (q.1.map cI),.val (.map (some m))],.bool q.2]) (Prod.ext (jH hc1) (aP hc1):(Ku T V l,Pe T V l)=(_,_))).symm,rfl⟩
theorem pC (T:List Sc)(V:List Va)(l:List Lit)(hlk:Up T V l)(hll:l.length≤1048576)(v:List Int)(mo:Option Nat):Ax Tryz.prog 66 [.agg (Cw T V),.sl 9 (l.map H7),.agg [.ptr (qP T V l),.sl 1 (v.map cI),.val (.map mo)]] (.bool (K7 T V l)):=by
 refine Ax.body (n:=29) Ai Tryz.func66 rfl rfl rfl fun H=>?_
 refine Ah (Qp (Gd [_,_]) (Qp (Gd [_,_,_]) (Qp Bm (Ag (AW.seq (Ah (Qp Dt ?_)))))))
 refine Qp (Al (n:=l.length) Ai rfl rfl rfl (by simp)) ?_
 refine Qp A0 (Ag (AW.block ?_))
 refine AW.Aad (fun (k:Nat)=>(⟨[(1,.sl 9 (l.map H7)),(3,.ptr (Cw T V)),(5,.ptr [.ptr (qP T V l),.sl 1 (v.map cI),.val (.map mo)]),(9,.sl 9 (l.map H7)),(10,.int .i64 l.length),(11,.int .i64 (k:Int))],H,29⟩:St)) (fun (k:Nat)=>k≤l.length∧(l.take k).all (fun c=>B0 T V c.cond)=true) (fun (k:Nat)=>l.length-k) (0) ?_ (GS.weaken ⟨rfl,rfl,rfl,rfl,rfl,rfl,trivial⟩ (.refl _)) ?_
 · simp
 ·
  rintro k hR
  refine Ah (Qp Ck (Ag (AW.seq (A3 (fun hc1=>?_) fun hc1=>?_))))
  ·
   obtain ⟨c,hc⟩:=B7 hc1
   have hlt:=Bb hc
   have hcm:=List.mem_of_getElem? hc
   have hck:=(hlk c hcm).1
   have hcs:=Nat.le_trans (hlk c hcm).2 (by decide:64≤1048576)
   refine By (AW.seq (AW.block (Ah ?_)))
   refine Qp (Af (c:=[Iq _,_,Iq _,Iq _,Iq _,Iq _,Iq _,.str _,.bool _]) Ai rfl rfl rfl rfl rfl rfl (by omega) (Bo hc)) ?_
   refine Qp (Cv [Iq _,_,Iq _,Iq _,Iq _,Iq _,Iq _,.str _,.bool _]) ?_
   refine Qe (Am (l:=[.int .i64 0,.sl 8 [],.int .i64 0,.int .i64 0,.int .i64 0,.int .i64 0,.int .i64 0,.str [],.bool false]) (by kernel_rfl)) ?_
   rintro _ _ ⟨b8,rfl,rfl⟩
   refine Cz 0 [Iq _,_,Iq _,Iq _,Iq _,Iq _,Iq _,.str _,.bool _] (_::_) ?_
   refine AOL.ghost (GS.Aac (t:=8) 0 rfl rfl) ?_
   refine Do (Qp (Cv [_,_]) (Qp (Qf [Iq _,_,Iq _,Iq _,Iq _,Iq _,Iq _,.str _,.bool _]) (Qp E7 ?_)))
   refine Qp (Qc rfl (Q7 T V c.cond hck hcs)) ?_
   refine Qp Hp (Ag (A3 (fun hc2=>?_) fun hc2=>?_))
   ·
    refine Ah (Qp Bm (Ag (AW.ret (A7 (Aj (Aj (A7 (Aj ?_))))))))
    refine Qr (.bool _) ?_
    exact Eq.trans rfl (congrArg AV.bool (xG hc ((Bool.not_eq_true' _).mp hc2))).symm
   ·
    refine AW.skip (Bv (Ae (AW.region (Qp F7 (Qp A0 (Ag ?_))))))
    refine ⟨k+1,?_,?_,GS.weaken ⟨rfl,rfl,rfl,rfl,rfl,rfl,trivial⟩ (.refl _)⟩
    · exact ⟨hlt,by rw [C9 hc,List.all_append,hR.2];simpa using hc2⟩
    · omega
  ·
   have hte:=C5 hc1
   have hall:=hR.2
   rw [hte] at hall
   refine AW.exit ?_
   refine A5 (A5 (Bx (Ae (Ah (Qp (Qf [_,_,_]) (Qp Qlp ?_))))))
   refine Qp (Qc rfl (tS T V l)) ?_
   refine Qp Bu (Qg [] Qw Dt ?_)
   refine AOL.Aaf (y:=Iq _) _ [(25,_)] rfl (oE.all ⟨Ent.Aab _ _,trivial⟩) (fun hG=>Al (n:=l.length) Ai rfl rfl rfl (by simp)) rfl ?_
   refine Qg [(26,_)] Qw Ph (Qp Gg (Qp Bm (Ag (AW.ret ?_))))
   refine Qr (.bool _) ?_
   exact Eq.trans rfl (congrArg AV.bool (uU hall)).symm

set_option maxHeartbeats 1600000
set_option maxRecDepth 20000

theorem nX (T:List Sc)(V:List Va)(bo:Nat)(v:Value)(l:Es)(hev:evOK T V (l.map Prod.fst))(t:Tm)(ht:tmOK T V t)(ho1:t.op=1)(s:E9)(R:List HO):Dj Tryz.prog 96 (Xt bo v l R) [.agg (Hz t),.str s,.val (.pointer (some ⟨bo,0,none⟩))] (fun r H'=>r = .tuple []∧H'=Xt bo v (l.modify t.v.toNat fun p=>(Uh p.1 t.field.toNat (fun y=>{ y with text:=s }),p.2)) R):=by
 refine Dj.body (n:=16) Ai Tryz.func96 rfl rfl rfl ?_
 refine AW.ghostPost ?_
 refine Ah (Qp (Gd [Iq _,Iq _,Iq _]) (Ag ?_))
 refine (iQ hev ht).elim fun e he=>he.elim fun u hu=>?_
 have hj:=hu.1
 have hel:=hu.2.1
 have hll:=hu.2.2
 have hv0:=ht.v0
 have hv1:=ht.v1
 have hfr:=ht.f ho1
 refine (mD ht ho1 hel).elim fun y hy=>?_
 have hyl:=Bb hy
 refine AW.ghost (GS.perm (kA hj)) ?_
 refine AW.unbuf (v:=u) (es:=e.values.map cV) (E:=28) (z:=3) 0 rfl (Wl hy) fun bi capi Ji hui hcapi hcmi hJi hzi=>?_
 subst hui
 refine AW.unbuf (v:=v) (es:=l.map Cn) (E:=66) (z:=5) 1 rfl (Wl hj) fun bb cap J hub hcap hcm hJ hzo=>?_
 subst hub
 have hrow:(l.map Cn)[t.v.toNat]? = some (Cn (e,.slice (some ⟨bi,0,none⟩) (e.values.map cV).length capi)):=by rw [List.getElem?_map,hj];rfl
 refine AW.draw mixed (fun H'=>_∈H'∧_∈H') ⟨(List.mem_of_getElem? (i:=2) rfl),(List.mem_of_getElem? (i:=1) rfl)⟩ (by kernel_rfl) ?_
 refine Qn 0 rfl (OpP.Aag (fun k=>Ao (k:=k) (c:=.val _) Ai rfl rfl rfl rfl) (fun _ h=>h.1)) ?_
 refine Qn 1 rfl (Qf [Iq _,Iq _]) (Qn 2 rfl Bp ?_)
 refine Qn 3 rfl (B6 (o':=t.v.toNat*5) Ai rfl rfl rfl rfl rfl (hv0) (by rw [List.length_map];omega) (Nat.zero_add _)) ?_
 refine Qn 4 rfl H9 ?_
 refine Qn 5 rfl (OpP.Aag (fun k=>Ao (k:=k) (c:=.val (.slice (some ⟨bi,0,none⟩) (e.values.map cV).length capi)) Ai rfl rfl rfl (Vw (o:=4) (Jf l) hrow rfl)) (fun _ h=>h.2)) ?_
 refine Qn 6 rfl (Qf [Iq _]) (Qn 7 rfl Bp (Qn 8 rfl cJ ?_))
 refine Qn 9 rfl (B6 (o':=t.field.toNat*3) Ai rfl rfl rfl rfl rfl (hfr.1) (by rw [List.length_map];omega) (Nat.zero_add _)) ?_
 refine Qn 10 rfl H9 ?_
 refine Jb.last _ _ 11 _ _ rfl (by kernel_rfl) rfl rfl (Df (k:=0) (v:=.str _) (cs':=_) (H2:=_::_::_::_) Ai rfl rfl rfl rfl rfl rfl (S7 (o:=2) (Nu _) (by rw [List.getElem?_map,hy];rfl) (by decide)) (Rl (o:=2) (e:=cV y) (x:=.str s) (Nu _) (by rw [List.getElem?_map,hy];rfl) (by decide)) rfl) (by kernel_rfl) ?_
 rintro _ _ ⟨rfl,rfl⟩
 refine ⟨_,vD hj hy (f:=fun y=>{ y with text:=s }) rfl hcap hcm hJ hcapi hcmi hJi,.inl rfl,[],.nil,_,.refl _,?_⟩
 exact ⟨rfl,rfl⟩

end Go.Proofs.YtjedflcpjlgokaaGreatDoor
