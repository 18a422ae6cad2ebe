/-
  Several texts in one: Y8c, Y8d, Y9b, Y10. No condition.
-/
import Derived.Test.YtjedflcpjlgokaaGreatDoorAz
import Derived.Test.YtjedflcpjlgokaaGreatDoorK15
import Derived.Test.YtjedflcpjlgokaaGreatDoorK30
import Derived.KernelRfl
import Derived.Test.YtjedflcpjlgokaaGreatDoorK16
set_option linter.unusedVariables false
set_option linter.unusedSimpArgs false
namespace Go.Proofs.YtjedflcpjlgokaaGreatDoor
open Go Go.Aw
set_option maxHeartbeats 3200000
set_option maxRecDepth 20000

theorem kR (n:Nat)(bs:List Bd)(hz:znOK n bs)(hW:decide ((Cy (zn n bs)).2<0)=false→Ky n bs=true)(H:List HO):C7 Tryz.prog 39 H [.agg (Ss (zn n bs))] (fun r H'=>if decide ((Cy (zn n bs)).2<0) then (∃b,r = .tuple [.val (.slice (some ⟨b,0,none⟩) n n),.val (.slice none 0 0)]∧H' = .box b 3 (bI (Cy (zn n bs)).1.sums)::H) else (r = .tuple [.val (.slice none 0 0),.sl 1 ((Lr (zn n bs)).2.map cI)]∧H'=H)):=by
 have hmx:1048576≤maxLen:=by decide
 have hn1:=hz.n1
 have hn64:=hz.n64
 have hzn:(zn n bs).n=(n:Int):=rfl
 have hbb:H6=140737488355329:=rfl
 refine C7.bodyX (n:=59) Aj Tryz.func39 rfl rfl rfl ?_
 refine xZ.seq ?_
 refine AW.region (Qp (It [Iq _,_]) (Qp O5 (Qp O5 (Ag ?_))))
 refine xZ.cut (fun (u:Nat×Nat×Nat)=>(⟨[(1,.ptr (Ss (zn n bs))),(4,.val (.pointer (some ⟨u.1,0,none⟩)))],.box u.1 156 [.val (.slice (some ⟨u.2.1,0,none⟩) n n),.val (.slice (some ⟨u.2.2,0,none⟩) n n)] :: .box u.2.1 3 (bI (⟨List.replicate n 0,Jo n⟩:Ds).sums) :: .box u.2.2 3 (bI (⟨List.replicate n 0,Jo n⟩:Ds).last)::H,59⟩:St)) (fun (u:Nat×Nat×Nat)=>True) ?_ ?_
 ·
  refine AW.draw mixed (fun _=>True) trivial (by kernel_rfl) ?_
  refine Qn 0 rfl (Qf [Iq _,_]) (Qn 1 rfl B2 ?_)
  refine Qn 3 rfl (A3 (es:=[[Iq _]]) Aj rfl rfl rfl rfl rfl rfl rfl rfl rfl) ?_
  refine Qn 4 rfl (Qf [Iq _,_]) (Qn 5 rfl B2 ?_)
  refine Iu.two _ _ 2 6 _ _ _ _ rfl rfl (by kernel_rfl) rfl rfl rfl rfl (Nf (n:=n) Aj rfl rfl rfl rfl rfl rfl rfl (by show 8*n≤_;omega) (by omega)) (Ey (by kernel_rfl) rfl rfl (dF _ n hn1 (by omega))) (by rintro _ _ ⟨b10,rfl,rfl⟩;trivial) (by rintro _ _ ⟨b14,rfl,rfl⟩;trivial) ?_ ?_
  ·
   rintro _ _ ⟨b10,rfl,rfl⟩
   refine Iu.eff _ _ 6 _ _ rfl (by kernel_rfl) rfl rfl (Ey (by kernel_rfl) rfl rfl (dF _ n hn1 (by omega))) (fun _ _ _=>trivial) ?_
   rintro _ _ ⟨b14,rfl,rfl⟩
   refine Qn 7 rfl (Ij [_,_]) ?_
   refine Iu.eff _ _ 8 _ _ rfl (by kernel_rfl) rfl rfl (Wc (v:=.agg _) (cs:=[_,_]) rfl rfl (rfl)) (fun _ _ _=>trivial) ?_
   rintro _ _ ⟨b16,rfl,rfl⟩
   refine Qn 9 rfl O5 ?_
   refine Iu.done _ _ (by kernel_rfl) ?_
   refine Ad ?_
   refine ⟨(b16,b10,b14),?_,GS.trans (GS.cells 2 rfl (aN n)) (GS.trans (GS.perm (List.Perm.cons _ (List.Perm.swap _ _ _))) (GS.weaken ⟨rfl,rfl,trivial⟩ (.refl _)))⟩
   trivial
  ·
   rintro _ _ ⟨b14,rfl,rfl⟩
   refine Iu.eff _ _ 2 _ _ rfl (by kernel_rfl) rfl rfl (Nf (n:=n) Aj rfl rfl rfl rfl rfl rfl rfl (by show 8*n≤_;omega) (by omega)) (fun _ _ _=>trivial) ?_
   rintro _ _ ⟨b10,rfl,rfl⟩
   refine Qn 7 rfl (Ij [_,_]) ?_
   refine Iu.eff _ _ 8 _ _ rfl (by kernel_rfl) rfl rfl (Wc (v:=.agg _) (cs:=[_,_]) rfl rfl (rfl)) (fun _ _ _=>trivial) ?_
   rintro _ _ ⟨b16,rfl,rfl⟩
   refine Qn 9 rfl O5 ?_
   refine Iu.done _ _ (by kernel_rfl) ?_
   refine Ad ?_
   refine ⟨(b16,b10,b14),?_,GS.trans (GS.cells 1 rfl (aN n)) (GS.trans (GS.refl _) (GS.weaken ⟨rfl,rfl,trivial⟩ (.refl _)))⟩
   trivial
 ·
  rintro u _
  refine xZ.seq ?_
  refine AW.region (Qp Aq (Ag ?_))
  refine xZ.seq ?_
  refine Ah (Qp (Qf [Iq _,_]) (Qp B2 (Qp Fb (Qp Az (Ag (AW.block ?_))))))
  refine AW.Aa3 (fun (p:Nat×Ds×Int)=>(⟨[(1,.ptr (Ss (zn n bs))),(4,.val (.pointer (some ⟨u.1,0,none⟩))),(5,.int .i64 p.2.2),(19,.int .i64 ((n:Int)+1)),(20,.int .i64 (p.1:Int))],.box u.1 156 [.val (.slice (some ⟨u.2.1,0,none⟩) n n),.val (.slice (some ⟨u.2.2,0,none⟩) n n)] :: .box u.2.1 3 (bI p.2.1.sums) :: .box u.2.2 3 (bI p.2.1.last)::H,59⟩:St)) (fun (p:Nat×Ds×Int)=>p.1≤n+1∧Cy (zn n bs)=Do bs (n+1-p.1) p.2∧dsOK n ((p.1:Int)*(256*H6)) p.2.1∧(0<p.1→0≤p.2.2)) (fun (p:Nat×Ds×Int)=>n+1-p.1) ((0,⟨List.replicate n 0,Jo n⟩,-1)) ?_ (GS.weaken ⟨rfl,rfl,rfl,rfl,rfl,trivial⟩ (.refl _)) ?_
  · exact ⟨Nat.zero_le _,Ls n bs,by simpa using bK n,fun h=>absurd h (by simp)⟩
  ·
   rintro p hR
   have hd2:=hR.2.2.1
   have hpl:=hR.1
   have hC0:(0:Int)≤(p.1:Int)*(256*H6):=by unfold H6;omega
   have hC2:(p.1:Int)*(256*H6)≤4000000000000000000:=by unfold H6;omega
   have hks:((p.1+1:Nat):Int)*(256*H6)=(p.1:Int)*(256*H6)+256*H6:=by push_cast;rw [Int.add_mul];omega
   refine Ah (Qp Co (Ag (AW.seq (A4 (fun hc1=>?_) fun hc1=>?_))))
   ·
    have hlt:p.1<n+1:=by have:=of_decide_eq_true hc1;omega
    refine Bx (AW.seq (AW.block (Ah (Qp Gn (Qp (C8 [Iq _,_]) ?_)))))
    refine Qe (Ey (by kernel_rfl) rfl rfl (C7.front3 (R:=_) 2 1 0 rfl rfl rfl rfl (wG u.1 u.2.1 u.2.2 n bs hz _ hC0 hC2 p.2.1 hd2 _))) ?_
    rintro _ _ ⟨rfl,rfl⟩
    refine Qp Aq (Dv (Qp Az (Qp Co (Ag (A4 (fun hc2=>?_) fun hc2=>?_)))))
    ·
     have hend:=rB hR.2.1 hlt hc2
     refine Ah (Qp Gn ?_)
     refine Qp (Bc rfl) ?_
     refine Qp Ia ?_
     refine AOL.Aa7 (Am (k:=0) (c:=.val _) Aj rfl rfl rfl rfl) rfl rfl ?_
     refine Qp O5 (Qp O5 (Ag (AW.ret (A6 (Ai (Ai (A6 (Ai ?_))))))))
     refine ⟨.inr rfl,[.val _,.val _],.cons (.tmp _ _ rfl) <| .cons (.tmp _ _ rfl) <| .nil,_,.cons _ (.cons_cons _ (.cons _ (.refl _))),?_⟩
     exact Eq.mpr (if_pos (by rw [hend];exact hc2)) ⟨_,rfl,congrArg (fun q:Ds×Int=>(.box u.2.1 3 (bI q.1.sums)::H:List HO)) hend.symm⟩
    ·
     refine AW.skip (Bn (Ad (AW.region (Qp Fb (Qp Az (Ag ?_))))))
     refine ⟨(p.1+1,I8 bs p.2.1),?_,?_,GS.weaken ⟨rfl,rfl,rfl,rfl,rfl,trivial⟩ (.refl _)⟩
     · exact ⟨hlt,zW hR.2.1 hlt hc2,(aH hz hd2).mono (by simp only [hks];omega),fun _=>by simpa using hc2⟩
     · simp only;omega
   ·
    have hge1:n+1≤p.1:=by have:=of_decide_eq_false hc1;omega
    have hend:=xC hR.2.1 hge1
    have hge:decide ((Cy (zn n bs)).2<0)=false:=by rw [hend];have:=hR.2.2.2 (by omega);simpa using this
    have hws:=fL (hW hge) hend
    have hcy:=hws.2
    refine AW.exit ?_
    refine A2 (A2 (Bo (Ad ?_)))
    refine xZ.seq ?_
    refine Ah (Qp (Qf [Iq _,_]) (Qp B2 (Qp Az (Ag (AW.block ?_)))))
    refine AW.Aa3 (fun (q:Nat×Int)=>(⟨[(1,.ptr (Ss (zn n bs))),(4,.val (.pointer (some ⟨u.1,0,none⟩))),(5,.int .i64 q.2),(33,.int .i64 (n:Int)),(34,.int .i64 (q.1:Int))],.box u.1 156 [.val (.slice (some ⟨u.2.1,0,none⟩) n n),.val (.slice (some ⟨u.2.2,0,none⟩) n n)] :: .box u.2.1 3 (bI p.2.1.sums) :: .box u.2.2 3 (bI p.2.1.last)::H,59⟩:St)) (fun (q:Nat×Int)=>q.1≤n∧Hg bs p.2.1 n p.2.2=Hg bs p.2.1 (n-q.1) q.2∧Kd bs p.2.1 (n-q.1) q.2=true) (fun (q:Nat×Int)=>n-q.1) ((0,p.2.2)) ?_ (GS.weaken ⟨rfl,rfl,rfl,rfl,rfl,trivial⟩ (.refl _)) ?_
    · exact ⟨Nat.zero_le _,rfl,hws.1⟩
    ·
     rintro q hQ
     refine Ah (Qp Co (Ag (AW.seq (A4 (fun hc3=>?_) fun hc3=>?_))))
     ·
      have hlt3:q.1<n:=by have:=of_decide_eq_true hc3;omega
      have hb9:=nF hQ.2.2 hlt3
      refine (T5 hb9.1).elim fun c ok=>?_
      have hdl:=hd2.l
      refine Bx (AW.seq (AW.block ?_))
      refine AW.draw mixed (fun H'=>_∈H'∧_∈H') ⟨(List.mem_of_getElem? (i:=0) rfl),(List.mem_of_getElem? (i:=2) rfl)⟩ (by kernel_rfl) ?_
      refine Qn 0 rfl (Qf [_]) (Qn 1 rfl D1 (Qn 2 rfl Gn ?_))
      refine Qn 3 rfl (Bc rfl) ?_
      refine Qn 4 rfl Ia ?_
      refine Qn 5 rfl (OpP.Aa4 (fun k=>Am (k:=k) (c:=.val _) Aj rfl rfl rfl rfl) (fun _ h=>h.1)) ?_
      refine Qn 6 rfl Az ?_
      refine Qn 7 rfl (B4 (o':=q.2.toNat) Aj rfl rfl rfl rfl rfl (ok.a0) (by have:=ok.al;omega) (aT _)) ?_
      refine Qn 8 rfl (OpP.Aa4 (fun k=>Am (k:=k) (c:=.int .i64 (C5 p.2.1.last q.2)) Aj rfl rfl rfl (Ve ok.a0 ok.al)) (fun _ h=>h.2)) ?_
      refine Qn 9 rfl (Af (c:=[.int .i64 c.x,.int .i64 c.y,.int .i64 c.most]) Aj rfl rfl rfl rfl rfl rfl (ok.l0) (gZ ok.at_)) ?_
      refine Qn 10 rfl (Qf [Iq _,Iq _]) (Qn 11 rfl B2 (Qn 12 rfl Aq ?_))
      refine Iu.done _ _ (by kernel_rfl) ?_
      refine Bn (Ad (AW.region (Qp Fb (Qp Az (Ag ?_)))))
      refine ⟨(q.1+1,c.y),?_,?_,GS.weaken ⟨rfl,rfl,rfl,rfl,rfl,trivial⟩ (.refl _)⟩
      · exact ⟨hlt3,nH hQ.2.1 hlt3 ok,by have:=hb9.2;rw [ok.pred] at this;exact this⟩
      · simp only;omega
     ·
      have hge3:n≤q.1:=by have:=of_decide_eq_false hc3;omega
      have hfr:Hg bs p.2.1 n p.2.2=q.2:=hQ.2.1.trans (by rw [show n-q.1=0 by omega];rfl)
      refine AW.exit ?_
      refine A2 (A2 (Bo (Ad ?_)))
      refine xZ.seq ?_
      refine AW.region ?_
      refine Qe (A0 (l:=[.val (.slice none 0 0)]) (by kernel_rfl)) ?_
      rintro _ _ ⟨b6,rfl,rfl⟩
      refine AOL.ghost (GS.cellRow 0 0 3 1 rfl rfl rfl rfl) ?_
      refine Ag ?_
      refine xZ.assoc ?_
      refine AW.region (Qp Gn (Qp (C8 [Iq _,_]) (Qp Az ?_)))
      refine Qp (Qc rfl (f_back u.1 n bs q.2)) ?_
      refine Ag ?_
      refine xZ.rangeTail Aj (fun H2=>∃v,H2 = .row v ((Hb bs p.2.1 q.2 (n+1) q.2).map cI).length 3 1 :: .box b6 49 [.row v 1 ((Hb bs p.2.1 q.2 (n+1) q.2).map cI)]::(.box u.1 156 [.val (.slice (some ⟨u.2.1,0,none⟩) n n),.val (.slice (some ⟨u.2.2,0,none⟩) n n)] :: .box u.2.1 3 (bI p.2.1.sums) :: .box u.2.2 3 (bI p.2.1.last)::H)) rfl (by kernel_rfl) (fun rec D l hst hpe hps has hbo hsz htm=>?_) (fun D H2 hZ=>?_)
      ·
       have h6:=htm 6 _ rfl
       refine C7.post (C7.perm (List.perm_append_comm.append_right _:(([_,_,_,_] ++ [_,_,_])++H).Perm _) (vS l rec u.1 u.2.1 u.2.2 n bs p.2.1 hz.n64 hd2.l (fun v pre=>.obj l (.loop rec) :: .obj D (.deferred (some [])) :: .row v ((pre.map cI)).length 3 1 :: .box b6 49 [.row v 1 ((pre.map cI))]::H) (by rw [hps];rfl) 0 (fun _ _=>rfl) q.2 (by rw [←hfr];exact hcy) (fun v pre x hpl=>?_) (.slice none 0 0))) ?_
       ·
        refine fO.of (sl:=[(53,.int .i64 x),(6,.val (.pointer (some ⟨b6,0,none⟩)))]) hst hpe hsz (by rw [hps];exact fY hsz rfl h6) ?_
        rw [has,hbo]
        refine AWr.region (by kernel_rfl) ?_
        refine Qp Aq (AOL.nil ?_)
        refine ⟨rfl,3,rfl,?_⟩
        refine AWr.block (AWr.region (by kernel_rfl) ?_)
        refine AOL.Aa7 (Am (k:=6) (c:=.row _ _ _) Aj rfl rfl rfl rfl) rfl rfl ?_
        refine Qp Az ?_
        refine Qp (A3 (es:=[[Iq _]]) Aj rfl rfl rfl rfl rfl rfl rfl rfl rfl) ?_
        refine Qe (Dr (k:=5) Aj rfl rfl rfl rfl rfl rfl rfl rfl (Hw rfl) (F2 fun _=>rfl) (by simp;omega) (by simp [maxLen];omega)) ?_
        rintro _ _ ⟨v57,rfl,rfl⟩
        refine Eu 6 [_] (_::_::_::_::_::_::_::_) ?_
        refine AOL.nil ?_
        exact ⟨rfl,3,rfl,rfl,v57,congrArg (fun es:List (List AV)=>(.box u.1 156 [.val (.slice (some ⟨u.2.1,0,none⟩) n n),.val (.slice (some ⟨u.2.2,0,none⟩) n n)] :: .box u.2.1 3 (bI p.2.1.sums) :: .box u.2.2 3 (bI p.2.1.last) :: .obj l (.loop rec) :: .obj D (.deferred (some [])) :: .row v57 (es).length 3 1 :: .box b6 49 [.row v57 1 (es)]::H:List HO)) (List.map_append (f:=cI) (l₁:=pre) (l₂:=[x])).symm⟩
       ·
        rintro r K ⟨rfl,v,rfl⟩
        exact ⟨_,(List.perm_append_comm.append_right _:(([_,_,_] ++ [_,_,_,_])++H).Perm _),rec,_,rfl,by rw [hst];decide,hpe,v,rfl⟩
      ·
       obtain ⟨v,rfl⟩:=hZ
       refine ⟨_,GS.cell (H2:=_::_::_::_::_::_::_) 2 0 rfl rfl rfl rfl Gt,?_⟩
       refine AWD.draw mixed (fun H'=>_∈H') (List.mem_of_getElem? (i:=2) rfl) (by kernel_rfl) ?_
       refine Qn 0 rfl (OpP.Aa4 (fun k=>Am (k:=k) (c:=.sl _ _) Aj rfl rfl rfl rfl) (fun _ h=>h)) ?_
       refine Qn 1 rfl O5 (Qn 2 rfl Sx ?_)
       refine Iu.done _ _ (by kernel_rfl) ?_
       refine ⟨0,rfl,[_,_],.cons (.tmp _ _ rfl) (.cons (.tmp _ _ rfl) .nil),H,.cons _ (.cons _ (.cons _ (.cons _ (.cons _ (.cons _ (.refl _)))))),?_⟩
       exact Eq.mpr (if_neg (by rw [hge];decide)) ⟨congrArg (fun c:List Int=>AV.tuple [.val (.slice none 0 0),.sl 1 (c.map cI)]) (aR hend hge hfr).symm,rfl⟩

set_option maxHeartbeats 1600000
set_option maxRecDepth 20000

theorem sX (n:Nat)(bs:List Bd)(hm:∀b∈bs,-H6≤b.most∧b.most≤H6)(hW:(De (zn n bs) != 0)=false→decide ((Cy (zn n bs)).2<0)=false→Ky n bs=true)(hE:decide ((Cy (zn n bs)).2<0)=true):A1 Tryz.prog 13 [.agg (Ss (zn n bs))] (.tuple [.bool (Bl (zn n bs)).ok,.sl 1 ((Bl (zn n bs)).values.map cI),.sl 1 ((Bl (zn n bs)).cycle.map cI),.int .i64 (Bl (zn n bs)).err]):=by
 refine A1.body (n:=41) Aj Tryz.func13 rfl rfl rfl fun H=>?_
 refine Ah (Qp (It [Iq _,_]) (Qp Bb (Qp O5 (Qp O5 (Qp Aq (Ag (AW.seq (Ah (Qp (C8 [Iq _,_]) ?_)))))))))
 refine Qp (Qc rfl (Tz (zn n bs))) ?_
 refine Qp Aq (Dv (Qp Az (Qp C1 (Ag (A4 (fun hc1=>?_) fun hc1=>?_)))))
 ·
  refine Ah (Qp Az (Qp Bb ?_))
  refine Qp (Br (z:=1) rfl) ?_
  refine Qp (Br (z:=1) rfl) ?_
  refine Qp Aq (Ag (D4 ?_))
  refine ⟨.inr rfl,[.bool _,.sl _ _,.sl _ _,Iq _],.cons (.tmp _ _ rfl) <| .cons (.tmp _ _ rfl) <| .cons (.tmp _ _ rfl) <| .cons (.tmp _ _ rfl) <| .nil,.refl _,?_⟩
  exact Eq.trans rfl (congrArg (fun q:So=>AV.tuple [.bool q.ok,.sl 1 (q.values.map cI),.sl 1 (q.cycle.map cI),.int .i64 q.err]) (Th hc1)).symm
 ·
  have hz:=cY hc1 hm
  have hn1:=hz.n1
  have hn64:=hz.n64
  have hok:=aO hz
  have hi0:=hok.ix (Int.le_refl 0) (by omega)
  refine Bx (Ah (Qp (C8 [Iq _,_]) ?_))
  refine Qe (Ey (by kernel_rfl) rfl rfl ((kR n bs hz (fun h=>absurd (hE.symm.trans h) (by decide)) _).mono' (fun r K h=>Eq.mp (if_pos hE) h))) ?_
  rintro _ _ ⟨b18,rfl,rfl⟩
  refine Qp Om (Qp Qxv (Qp Qxv (Qp O5 (Qp O5 (Ag (AW.seq (Ah (Qp Gn ?_))))))))
  refine Qp (mI Aj rfl rfl rfl) ?_
  refine Ag (A4 (fun hc2=>?_) fun hc2=>?_)
  ·
   cases hc2
  ·
   refine Bx (Ah (Qp Gn ?_))
   refine Qp (B4 Aj rfl rfl rfl rfl rfl (Int.le_refl 0) (by omega) (rfl)) ?_
   refine AOL.Aa7 (Am (k:=0) (c:=.int .i64 (C5 (Cy (zn n bs)).1.sums 0)) Aj rfl rfl rfl (Ve (Int.le_refl 0) (by rw [hok.s];omega))) rfl rfl ?_
   refine Qp Aq (Ag (AW.seq (Ah (Qp Gn ?_))))
   refine Qp (Yt Aj rfl rfl rfl) ?_
   refine Qp Az (Ag (AW.block ?_))
   refine AW.Aa3 (fun (p:Nat)=>(⟨[(7,.val (.slice (some ⟨b18,0,none⟩) n n)),(9,.int .i64 (C5 (Cy (zn n bs)).1.sums 0)),(28,.int .i64 (n:Int)),(29,.int .i64 (p:Int))],.box b18 3 (bI (Wb (Cy (zn n bs)).1.sums p))::H,41⟩:St)) (fun (p:Nat)=>p≤n) (fun (p:Nat)=>n-p) (0) ?_ (GS.weaken ⟨rfl,rfl,rfl,rfl,trivial⟩ (.refl _)) ?_
   · exact Nat.zero_le _
   ·
    rintro p hR
    refine Ah (Qp Co (Ag (AW.seq (A4 (fun hc3=>?_) fun hc3=>?_))))
    ·
     have hlt:p<n:=by have:=of_decide_eq_true hc3;omega
     have hi1:=hok.ix (k:=(p:Int)) (by omega) (by omega)
     refine Bx (AW.seq (AW.block (Ah (Qp Az (Qp Aq (Ag (AW.region (Qp Gn (Qp Az ?_)))))))))
     refine Qp (B4 (o':=(p:Int).toNat) Aj rfl rfl rfl rfl rfl (by omega) (by omega) (aT _)) ?_
     refine AOL.Aa7 (Am (k:=0) (c:=.int .i64 (C5 (Cy (zn n bs)).1.sums (p:Int))) Aj rfl rfl rfl ((Ve (k:=(p:Int)) (by omega) (by rw [T1 (by rw [hok.s];omega),hok.s];omega)).trans (congrArg (fun v=>some (AV.int .i64 v)) (xQ (by rw [hok.s];exact hlt))))) rfl rfl ?_
     refine Qp Az ?_
     refine Qp (dQ rfl rfl rfl (by constructor <;> omega)) ?_
     refine Qp (B4 (o':=p) Aj rfl rfl rfl rfl rfl (by omega) (by omega) (aT _)) ?_
     refine Qe (Dc (k:=0) (v:=Iq _) (cs':=bI (Wb (Cy (zn n bs)).1.sums (p+1))) (H2:=_::_) Aj rfl rfl rfl rfl rfl rfl (Zu (by rw [T1 (by rw [hok.s];omega),hok.s];exact hlt)) ((Zj (by rw [T1 (by rw [hok.s];omega),hok.s];exact hlt)).trans (congrArg bI (qC (by rw [hok.s];exact hlt)))) rfl) ?_
     rintro _ _ ⟨rfl,rfl⟩
     refine AOL.nil (Bn (Ad (AW.region (Qp Fb (Qp Az (Ag ?_))))))
     refine ⟨p+1,?_,?_,GS.weaken ⟨rfl,rfl,rfl,rfl,trivial⟩ (.refl _)⟩
     · exact hlt
     · omega
    ·
     have hkn:(Cy (zn n bs)).1.sums.length≤p:=by rw [hok.s];have:=of_decide_eq_false hc3;omega
     refine AW.exit ?_
     refine A2 (A2 (Bo (Ad (Ah (Qp Gn (Qp Bb (Qp O5 ?_)))))))
     refine Qp (Br (z:=1) rfl) ?_
     refine Qp Aq ?_
     refine AOL.ghost (GS.freezeSl (t:=3) (z:=1) (es:=((Cy (zn n bs)).1.sums.map (fun v=>v-C5 (Cy (zn n bs)).1.sums 0)).map cI) 0 rfl rfl ((xG _).trans (congrArg bI (mL hkn).symm)) (by rw [List.length_map,List.length_map];exact hok.s.symm) (Nat.le_refl _) (by unfold maxLen;omega) (pC (fun _=>rfl) _) xM) ?_
     refine Ag (AW.ret ?_)
     refine ⟨.inr rfl,[.bool _,.sl _ _,.sl _ _,Iq _],.cons (.tmp _ _ rfl) <| .cons (.tmp _ _ rfl) <| .cons (.tmp _ _ rfl) <| .cons (.tmp _ _ rfl) <| .nil,.refl _,?_⟩
     exact Eq.trans rfl (congrArg (fun q:So=>AV.tuple [.bool q.ok,.sl 1 (q.values.map cI),.sl 1 (q.cycle.map cI),.int .i64 q.err]) (L9 hc1 hE)).symm
theorem rC (n:Nat)(bs:List Bd)(hm:∀b∈bs,-H6≤b.most∧b.most≤H6)(hW:(De (zn n bs) != 0)=false→decide ((Cy (zn n bs)).2<0)=false→Ky n bs=true)(hE:decide ((Cy (zn n bs)).2<0)=false):A1 Tryz.prog 13 [.agg (Ss (zn n bs))] (.tuple [.bool (Bl (zn n bs)).ok,.sl 1 ((Bl (zn n bs)).values.map cI),.sl 1 ((Bl (zn n bs)).cycle.map cI),.int .i64 (Bl (zn n bs)).err]):=by
 refine A1.body (n:=41) Aj Tryz.func13 rfl rfl rfl fun H=>?_
 refine Ah (Qp (It [Iq _,_]) (Qp Bb ?_))
 refine Qp (Br (z:=1) rfl) ?_
 refine Qp (Br (z:=1) rfl) ?_
 refine Qp Aq (Ag (AW.seq (Ah (Qp (C8 [Iq _,_]) ?_))))
 refine Qp (Qc rfl (Tz (zn n bs))) ?_
 refine Qp Aq (Dv (Qp Az (Qp C1 (Ag (A4 (fun hc1=>?_) fun hc1=>?_)))))
 ·
  refine Ah (Qp Az (Qp Bb ?_))
  refine Qp (Br (z:=1) rfl) ?_
  refine Qp (Br (z:=1) rfl) ?_
  refine Qp Aq (Ag (D4 ?_))
  refine ⟨.inr rfl,[.bool _,.sl _ _,.sl _ _,Iq _],.cons (.tmp _ _ rfl) <| .cons (.tmp _ _ rfl) <| .cons (.tmp _ _ rfl) <| .cons (.tmp _ _ rfl) <| .nil,.refl _,?_⟩
  exact Eq.trans rfl (congrArg (fun q:So=>AV.tuple [.bool q.ok,.sl 1 (q.values.map cI),.sl 1 (q.cycle.map cI),.int .i64 q.err]) (Th hc1)).symm
 ·
  have hz:=cY hc1 hm
  refine Bx (Ah (Qp (C8 [Iq _,_]) ?_))
  refine Qe (Ey (by kernel_rfl) rfl rfl ((kR n bs hz (fun h=>hW hc1 h) _).mono' (fun r K h=>Eq.mp (if_neg (by rw [hE];decide)) h))) ?_
  rintro _ _ ⟨rfl,rfl⟩
  refine Qp Om (Qp Qxv (Qp qE (Qp O5 (Qp Sx (Ag (AW.seq (Ah (Qp Dm ?_))))))))
  refine Qp (nA Aj rfl (Aay hE) rfl rfl) ?_
  refine Ag (A4 (fun hc2=>?_) fun hc2=>?_)
  ·
   refine Ah (Qp Dm (Qp Bb ?_))
   refine Qp (Br (z:=1) rfl) ?_
   refine Qp Sx (Qp Aq (Ag (D4 ?_)))
   refine ⟨.inr rfl,[.bool _,.sl _ _,.sl _ _,Iq _],.cons (.tmp _ _ rfl) <| .cons (.tmp _ _ rfl) <| .cons (.tmp _ _ rfl) <| .cons (.tmp _ _ rfl) <| .nil,.refl _,?_⟩
   exact Eq.trans rfl (congrArg (fun q:So=>AV.tuple [.bool q.ok,.sl 1 (q.values.map cI),.sl 1 (q.cycle.map cI),.int .i64 q.err]) (L3 hc1 hE)).symm
  ·
   cases hc2
theorem vP (n:Nat)(bs:List Bd)(hm:∀b∈bs,-H6≤b.most∧b.most≤H6)(hW:(De (zn n bs) != 0)=false→decide ((Cy (zn n bs)).2<0)=false→Ky n bs=true):A1 Tryz.prog 13 [.agg (Ss (zn n bs))] (.tuple [.bool (Bl (zn n bs)).ok,.sl 1 ((Bl (zn n bs)).values.map cI),.sl 1 ((Bl (zn n bs)).cycle.map cI),.int .i64 (Bl (zn n bs)).err]):=by
 cases hE:decide ((Cy (zn n bs)).2<0) with
 | true=>exact sX n bs hm hW hE
 | false=>exact rC n bs hm hW hE

set_option maxHeartbeats 1600000
set_option maxRecDepth 20000

theorem mP (T:List Sc)(V:List Va)(l:List Lit)(hlk:Q9 T V l)(H:List HO):C7 Tryz.prog 94 H [.agg (B9 T V),.sl 9 (l.map Fy)] (fun r H'=>∃m,r = .tuple [.val (.map (some m)),.bool (Id T V l).2]∧H' = .kmap m (wE (Id T V l).1)::H):=by
 refine C7.body (n:=20) Aj Tryz.func94 rfl rfl rfl ?_
 refine Ah (Qp (It [_,_]) ?_)
 refine Qp (X3 (v:=.sl _ _) (cs:=[_]) rfl rfl rfl) ?_
 refine Qp O5 (Qp Bb (Dv ?_))
 refine Qe (Mi) ?_
 rintro _ _ ⟨b9,rfl,rfl⟩
 refine Qe (A0 (l:=[.val (.map none)]) (by kernel_rfl)) ?_
 rintro _ _ ⟨b6,rfl,rfl⟩
 refine Eu 0 [_] (_::_::_) ?_
 refine Dv ?_
 refine Qp (Gr (l:=[]) (l':=[.ptr _,.ptr _,.val _]) rfl rfl) ?_
 refine Qp (Di (v:=.fn _ _ _) rfl) ?_
 refine Dv ?_
 refine Qp (Bk (v:=.fn _ _ _) rfl) ?_
 refine Qp (Gr (l:=[]) (l':=[.val _]) rfl rfl) ?_
 refine Qe (Ib (by kernel_rfl) rfl rfl rfl (C7.front2 (R:=_) 1 0 rfl rfl rfl (uS T V l hlk b6 b9 _))) ?_
 rintro _ _ ⟨rfl,rfl⟩
 refine Qp Bb (Ag (AW.seq ?_))
 refine AW.draw mixed (fun H'=>_∈H') (List.mem_of_getElem? (i:=0) rfl) (by kernel_rfl) ?_
 refine Qn 0 rfl (OpP.Aa4 (fun k=>Am (k:=k) (c:=.val _) Aj rfl rfl rfl rfl) (fun _ h=>h)) ?_
 refine Qn 1 rfl Bt (Qn 2 rfl Bt ?_)
 refine Iu.pure _ _ 3 _ _ rfl (by kernel_rfl) (by kernel_rfl) rfl (.opt _ (.fn _ _ _) [] rfl (nI.all trivial) (fun hG=>Bk (v:=.fn _ _ _) rfl) rfl) ?_
 refine Iu.effg _ _ 4 _ _ [(17,_)] _ _ rfl (by kernel_rfl) rfl rfl (nI.all ⟨Ent.Aa1 _ _,trivial⟩) (fun hG=>Ib (by kernel_rfl) rfl rfl rfl (C7.front2 (R:=_) 1 0 rfl rfl rfl (uW T V l hlk b6 b9 (Jj T V l []).1 (Zy l [] Ze) _))) (fun hG=>rfl) (List.mem_of_getElem? (i:=0) rfl) ?_
 refine Qn 5 rfl G1 (Qn 6 rfl O5 (Qn 7 rfl Bb ?_))
 refine Iu.done _ _ (by kernel_rfl) ?_
 refine Ad (AW.ret ?_)
 refine ⟨.inr rfl,[.val _,.bool _],.cons (.tmp _ _ rfl) <| .cons (.tmp _ _ rfl) <| .nil,_,.cons _ (.refl _),?_⟩
 exact ⟨b9,rfl,rfl⟩
theorem cR (T:List Sc)(V:List Va)(l:List Lit)(hlk:Q9 T V l)(hs:zR T V l):A1 Tryz.prog 13 [.agg (Ss (A7 T V l))] (.tuple [.bool (Bl (A7 T V l)).ok,.sl 1 ((Bl (A7 T V l)).values.map cI),.sl 1 ((Bl (A7 T V l)).cycle.map cI),.int .i64 (Bl (A7 T V l)).err]):=
 vP (zN T V l) (A7 T V l).bs (J5 hlk) hs
theorem wX (T:List Sc)(V:List Va)(l:List Lit)(hlk:Q9 T V l)(hll:l.length≤4096)(hs:zR T V l)(H:List HO):C7 Tryz.prog 65 H [.agg (B9 T V),.sl 9 (l.map Fy)] (fun r H'=>∃m mo,(Ha (A7 T V l)=true→mo=some m)∧r = .tuple [.agg [.ptr (oF T V l),.sl 1 ((Y4 T V l).map cI),.val (.map mo)],.bool (Ov T V l)]∧H' = .kmap m (wE (Id T V l).1)::H):=by
 refine C7.body (n:=45) Aj Tryz.func65 rfl rfl rfl ?_
 refine Ah (Qp (It [_,_]) ?_)
 refine Qe (A0 (l:=[.val (.pointer none),.sl 1 [],.val (.map none)]) (by kernel_rfl)) ?_
 rintro _ _ ⟨b4,rfl,rfl⟩
 refine Qp Bb (Dv (Qp (C8 [_,_]) (Qp Dm ?_)))
 refine Qp (Qc rfl (cA T V l hll hlk)) ?_
 refine Qp Qap (Dv (Qp (C8 [_,_]) (Qp Dm ?_)))
 refine Qe (Ey (by kernel_rfl) rfl rfl (mP T V l hlk _)) ?_
 rintro _ _ ⟨m,rfl,rfl⟩
 refine Qp Om (Qp Qxv (Qp X9 (Qp O5 (Qp Bb (Ag (AW.seq (Ah (Qp tQ ?_))))))))
 refine Qp (Qc rfl (gL T V l)) ?_
 refine Qp Gj (Ag (A4 (fun hc1=>?_) fun hc1=>?_))
 ·
  refine Ah (Qp tQ (Qp (Ij [_,_,_]) ?_))
  refine Eu 1 [_,_,_] (_::_::_) ?_
  refine Qp Bb (Ag (D4 ?_))
  refine ⟨.inr rfl,[.agg [_,_,_],.bool _],.cons (.box _ _ _ 1 _ _ _ _ rfl rfl rfl rfl rfl rfl) <| .cons (.tmp _ _ rfl) <| .nil,_,.cons_cons _ (.cons _ (.refl _)),?_⟩
  exact ⟨m,_,fun h=>absurd ((Bool.not_eq_true' _).mp hc1) (by rw [h];decide),Eq.trans rfl (congrArg (fun q:List Int×Bool=>AV.tuple [.agg [.ptr (oF T V l),.sl 1 (q.1.map cI),.val (.map none)],.bool q.2]) (Prod.ext (Aaj hc1) (Aac hc1):(Y4 T V l,Ov T V l)=([],true))).symm,rfl⟩
 ·
  refine Bx (Ah (Qp tQ ?_))
  refine Qp (Fs rfl) ?_
  refine Qp (Qf [Iq _,_,_,_]) (Qp (C8 [Iq _,_]) ?_)
  refine Qp (Qc rfl (cR T V l hlk hs)) ?_
  refine Qp Om (Qp X9 (Qp qE (Qp qE (Qp Kn (Qp Bb (Qp Sx (Qp Sx (Qp Aq (Dv ?_)))))))))
  refine Qp tQ (Qp Dm (Qp Gn (Qp (Ij [_,_,_]) (Qp Bt (Qp Bt (Qg [] Qw Bt (Qp G1 ?_)))))))
  refine Eu 1 [_,_,_] (_::_::_) ?_
  refine Qp Bb (Ag (AW.ret ?_))
  refine ⟨.inr rfl,[.agg [_,_,_],.bool _],.cons (.box _ _ _ 1 _ _ _ _ rfl rfl rfl rfl rfl rfl) <| .cons (.tmp _ _ rfl) <| .nil,_,.cons_cons _ (.cons _ (.refl _)),?_⟩
  exact ⟨m,_,fun _=>rfl,Eq.trans rfl (congrArg (fun q:List Int×Bool=>AV.tuple [.agg [.ptr (oF T V l),.sl 1 (q.1.map cI),.val (.map (some m))],.bool q.2]) (Prod.ext (qM hc1) (iH hc1):(Y4 T V l,Ov T V l)=(_,_))).symm,rfl⟩
theorem mZ (T:List Sc)(V:List Va)(l:List Lit)(hlk:Q9 T V l)(hll:l.length≤1048576)(v:List Int)(mo:Option Nat):A1 Tryz.prog 66 [.agg (B9 T V),.sl 9 (l.map Fy),.agg [.ptr (oF T V l),.sl 1 (v.map cI),.val (.map mo)]] (.bool (Lh T V l)):=by
 refine A1.body (n:=29) Aj Tryz.func66 rfl rfl rfl fun H=>?_
 refine Ah (Qp (It [_,_]) (Qp (It [_,_,_]) (Qp Bb (Ag (AW.seq (Ah (Qp Dm ?_)))))))
 refine Qp (Al (n:=l.length) Aj rfl rfl rfl (by simp)) ?_
 refine Qp Az (Ag (AW.block ?_))
 refine AW.Aa3 (fun (k:Nat)=>(⟨[(1,.sl 9 (l.map Fy)),(3,.ptr (B9 T V)),(5,.ptr [.ptr (oF T V l),.sl 1 (v.map cI),.val (.map mo)]),(9,.sl 9 (l.map Fy)),(10,.int .i64 l.length),(11,.int .i64 (k:Int))],H,29⟩:St)) (fun (k:Nat)=>k≤l.length∧(l.take k).all (fun c=>Cm T V c.cond)=true) (fun (k:Nat)=>l.length-k) (0) ?_ (GS.weaken ⟨rfl,rfl,rfl,rfl,rfl,rfl,trivial⟩ (.refl _)) ?_
 · simp
 ·
  rintro k hR
  refine Ah (Qp Co (Ag (AW.seq (A4 (fun hc1=>?_) fun hc1=>?_))))
  ·
   obtain ⟨c,hc⟩:=B5 hc1
   have hlt:=Bh hc
   have hcm:=List.mem_of_getElem? hc
   have hck:=(hlk c hcm).1
   have hcs:=Nat.le_trans (hlk c hcm).2 (by decide:64≤1048576)
   refine Bx (AW.seq (AW.block (Ah ?_)))
   refine Qp (Af (c:=[Iq _,_,Iq _,Iq _,Iq _,Iq _,Iq _,.str _,.bool _]) Aj rfl rfl rfl rfl rfl rfl (by omega) (B1 hc)) ?_
   refine Qp (C8 [Iq _,_,Iq _,Iq _,Iq _,Iq _,Iq _,.str _,.bool _]) ?_
   refine Qe (A0 (l:=[.int .i64 0,.sl 8 [],.int .i64 0,.int .i64 0,.int .i64 0,.int .i64 0,.int .i64 0,.str [],.bool false]) (by kernel_rfl)) ?_
   rintro _ _ ⟨b8,rfl,rfl⟩
   refine Eu 0 [Iq _,_,Iq _,Iq _,Iq _,Iq _,Iq _,.str _,.bool _] (_::_) ?_
   refine AOL.ghost (GS.Aa2 (t:=8) 0 rfl rfl) ?_
   refine Dv (Qp (C8 [_,_]) (Qp (Qf [Iq _,_,Iq _,Iq _,Iq _,Iq _,Iq _,.str _,.bool _]) (Qp E2 ?_)))
   refine Qp (Qc rfl (Nx T V c.cond hck hcs)) ?_
   refine Qp Gj (Ag (A4 (fun hc2=>?_) fun hc2=>?_))
   ·
    refine Ah (Qp Bb (Ag (AW.ret (A6 (Ai (Ai (A6 (Ai ?_))))))))
    refine Qr (.bool _) ?_
    exact Eq.trans rfl (congrArg AV.bool (wW hc ((Bool.not_eq_true' _).mp hc2))).symm
   ·
    refine AW.skip (Bn (Ad (AW.region (Qp Fb (Qp Az (Ag ?_))))))
    refine ⟨k+1,?_,?_,GS.weaken ⟨rfl,rfl,rfl,rfl,rfl,rfl,trivial⟩ (.refl _)⟩
    · exact ⟨hlt,by rw [Cx hc,List.all_append,hR.2];simpa using hc2⟩
    · omega
  ·
   have hte:=Cg hc1
   have hall:=hR.2
   rw [hte] at hall
   refine AW.exit ?_
   refine A2 (A2 (Bo (Ad (Ah (Qp (Qf [_,_,_]) (Qp Qlp ?_))))))
   refine Qp (Qc rfl (gL T V l)) ?_
   refine Qp Bt (Qg [] Qw Dm ?_)
   refine AOL.Aa5 (y:=Iq _) _ [(25,_)] rfl (nI.all ⟨Ent.Aa1 _ _,trivial⟩) (fun hG=>Al (n:=l.length) Aj rfl rfl rfl (by simp)) rfl ?_
   refine Qg [(26,_)] Qw Pk (Qp G1 (Qp Bb (Ag (AW.ret ?_))))
   refine Qr (.bool _) ?_
   exact Eq.trans rfl (congrArg AV.bool (pN hall)).symm

set_option maxHeartbeats 1600000
set_option maxRecDepth 20000

theorem lG (T:List Sc)(V:List Va)(bo:Nat)(v:Value)(l:Es)(hev:evOK T V (l.map Prod.fst))(t:Tm)(ht:tmOK T V t)(ho1:t.op=1)(s:Gk)(R:List HO):C7 Tryz.prog 96 (Wn bo v l R) [.agg (G2 t),.str s,.val (.pointer (some ⟨bo,0,none⟩))] (fun r H'=>r = .tuple []∧H'=Wn bo v (l.modify t.v.toNat fun p=>(S8 p.1 t.field.toNat (fun y=>{ y with text:=s }),p.2)) R):=by
 refine C7.body (n:=16) Aj Tryz.func96 rfl rfl rfl ?_
 refine AW.ghostPost ?_
 refine Ah (Qp (It [Iq _,Iq _,Iq _]) (Ag ?_))
 refine (fP hev ht).elim fun e he=>he.elim fun u hu=>?_
 have hj:=hu.1
 have hel:=hu.2.1
 have hll:=hu.2.2
 have hv0:=ht.v0
 have hv1:=ht.v1
 have hfr:=ht.f ho1
 refine (jY ht ho1 hel).elim fun y hy=>?_
 have hyl:=Bh hy
 refine AW.ghost (GS.perm (iG hj)) ?_
 refine AW.unbuf (v:=u) (es:=e.values.map cV) (E:=28) (z:=3) 0 rfl (Vg hy) fun bi capi Ji hui hcapi hcmi hJi hzi=>?_
 subst hui
 refine AW.unbuf (v:=v) (es:=l.map Ck) (E:=66) (z:=5) 1 rfl (Vg hj) fun bb cap J hub hcap hcm hJ hzo=>?_
 subst hub
 have hrow:(l.map Ck)[t.v.toNat]? = some (Ck (e,.slice (some ⟨bi,0,none⟩) (e.values.map cV).length capi)):=by rw [List.getElem?_map,hj];rfl
 refine AW.draw mixed (fun H'=>_∈H'∧_∈H') ⟨(List.mem_of_getElem? (i:=2) rfl),(List.mem_of_getElem? (i:=1) rfl)⟩ (by kernel_rfl) ?_
 refine Qn 0 rfl (OpP.Aa4 (fun k=>Am (k:=k) (c:=.val _) Aj rfl rfl rfl rfl) (fun _ h=>h.1)) ?_
 refine Qn 1 rfl (Qf [Iq _,Iq _]) (Qn 2 rfl B2 ?_)
 refine Qn 3 rfl (B4 (o':=t.v.toNat*5) Aj rfl rfl rfl rfl rfl (hv0) (by rw [List.length_map];omega) (Nat.zero_add _)) ?_
 refine Qn 4 rfl Ia ?_
 refine Qn 5 rfl (OpP.Aa4 (fun k=>Am (k:=k) (c:=.val (.slice (some ⟨bi,0,none⟩) (e.values.map cV).length capi)) Aj rfl rfl rfl (Ul (o:=4) (Ix l) hrow rfl)) (fun _ h=>h.2)) ?_
 refine Qn 6 rfl (Qf [Iq _]) (Qn 7 rfl B2 (Qn 8 rfl aY ?_))
 refine Qn 9 rfl (B4 (o':=t.field.toNat*3) Aj rfl rfl rfl rfl rfl (hfr.1) (by rw [List.length_map];omega) (Nat.zero_add _)) ?_
 refine Qn 10 rfl Ia ?_
 refine Iu.last _ _ 11 _ _ rfl (by kernel_rfl) rfl rfl (Dc (k:=0) (v:=.str _) (cs':=_) (H2:=_::_::_::_) Aj rfl rfl rfl rfl rfl rfl (Rb (o:=2) (Nu _) (by rw [List.getElem?_map,hy];rfl) (by decide)) (Q1 (o:=2) (e:=cV y) (x:=.str s) (Nu _) (by rw [List.getElem?_map,hy];rfl) (by decide)) rfl) (by kernel_rfl) ?_
 rintro _ _ ⟨rfl,rfl⟩
 refine ⟨_,pI hj hy (f:=fun y=>{ y with text:=s }) rfl hcap hcm hJ hcapi hcmi hJi,.inl rfl,[],.nil,_,.refl _,?_⟩
 exact ⟨rfl,rfl⟩

end Go.Proofs.YtjedflcpjlgokaaGreatDoor
