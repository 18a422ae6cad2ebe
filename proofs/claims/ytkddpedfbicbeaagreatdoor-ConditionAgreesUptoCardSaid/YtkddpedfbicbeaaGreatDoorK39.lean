/-
  Several texts in one: Y13, Y6c, Y2. No condition.
-/
import Derived.Test.YtkddpedfbicbeaaGreatDoorAz
import Derived.Test.YtkddpedfbicbeaaGreatDoorK22
import Derived.Test.YtkddpedfbicbeaaGreatDoorK38
import Derived.Test.YtkddpedfbicbeaaGreatDoorY6b
import Derived.KernelRfl
import Derived.Test.YtkddpedfbicbeaaGreatDoorK16
import Derived.Test.YtkddpedfbicbeaaGreatDoorK04
import Derived.Test.YtkddpedfbicbeaaGreatDoorK10
import Derived.Test.YtkddpedfbicbeaaGreatDoorK12
set_option linter.unusedVariables false
set_option linter.unusedSimpArgs false
namespace Go.Proofs.YtkddpedfbicbeaaGreatDoor
open Go Go.Aw
set_option maxHeartbeats 3200000
set_option maxRecDepth 20000

theorem Z7 (T:List Sc)(hst:∀s∈T,I9 s)(V:List Va)(hty:Ln T V)(hvl:V.length≤1048576)(cs:Cs)(hcs:vOK T V cs):Ar Tryz.prog 64 [.agg (Cj T V),.agg (Ea cs)] (.tuple [.int .i64 (Cp T V cs).1,.sl 5 ((Cp T V cs).2.map Pm)]):=by
 refine Ar.body (n:=44) Ai Tryz.func64 rfl rfl rfl fun H=>?_
 refine Ah (Qp (Fx [_,_]) (Qp (Fx [_,.bool _]) (Qp Ap ?_)))
 refine Qp (Bz (z:=5) rfl) ?_
 refine Ag (AW.seq (Ah (Qp (Qf [.bool _]) (Qp jS (Qp Ge (Ag (A2 (fun hc1=>?_) fun hc1=>?_)))))))
 ·
  refine Ah (Qp Ap ?_)
  refine Qp (Bz (z:=5) rfl) ?_
  refine Ag (Dq ?_)
  refine J3 (Iq _) (.sl _ _) ?_
  exact Eq.trans rfl (congrArg (fun q:Int×List Ev=>AV.tuple [.int .i64 q.1,.sl 5 (q.2.map Pm)]) (bJ hc1)).symm
 ·
  refine Bv (Ah (Qp Ap (Ag (AW.seq (Ah (Qp (Qf [_,.bool _]) (Qp Dg ?_)))))))
  refine Qp (Ak (n:=cs.1.length) Ai rfl rfl rfl (by simp)) ?_
  refine Qp Az (Ag (AW.block ?_))
  refine AW.Aau (fun (p:Nat×Int)=>(⟨[(2,.ptr (Cj T V)),(6,.int .i64 p.2),(15,.sl 1 (cs.1.map P2)),(16,.int .i64 cs.1.length),(17,.int .i64 (p.1:Int))],H,44⟩:St)) (fun (p:Nat×Int)=>p.1≤cs.1.length∧Y9 T V 2 cs.1=Y9 T V p.2 (cs.1.drop p.1)) (fun (p:Nat×Int)=>cs.1.length-p.1) ((0,2)) ?_ (GS.weaken ⟨rfl,rfl,rfl,rfl,rfl,trivial⟩ (.refl _)) ?_
  · exact ⟨Nat.zero_le _,rfl⟩
  ·
   rintro p hR
   have hcl9:=hcs.1
   refine Ah (Qp Cf (Ag (AW.seq (A2 (fun hc2=>?_) fun hc2=>?_))))
   ·
    obtain ⟨c,hc⟩:=B1 hc2
    have hlt:=A8 hc
    have hcv:=hcs.2 c (List.mem_of_getElem? hc)
    have hck:=hcv.1
    have hcl:=hcv.2
    have hgo:=hR.2
    rw [A5 hc] at hgo
    refine Bv (AW.seq (AW.block (Ah ?_)))
    refine Qp (Af (c:=[_]) Ai rfl rfl rfl rfl rfl rfl (by omega) (Bg hc)) ?_
    refine Qp Dg (Qp Xa (Db (Qp (Cd [_,_]) (Qp C5 ?_))))
    refine Qe (Fp (by kernel_rfl) rfl rfl (zL T V c hck hcl (tR T V c) _)) ?_
    rintro _ _ ⟨m,mo,hmo,rfl,rfl⟩
    refine Qp Lv ?_
    refine Qp (Ch (v:=.agg [_,_,_]) rfl rfl) ?_
    refine Qp dK ?_
    refine Qe (Aj (l:=[.val (.pointer none),.sl 1 [],.val (.map none)]) (by kernel_rfl)) ?_
    rintro _ _ ⟨b9,rfl,rfl⟩
    refine Cq 0 [_,_,_] (_::_::_) ?_
    refine Qp Bc ?_
    refine AOL.ghost (GS.Aat (t:=9) 0 rfl rfl) ?_
    refine Ag (AW.seq (Ah (Qp Bm (Qp Ge (Qp Bm (Qg [] Qw C5 ?_))))))
    refine AOL.Aav (y:=Iq _) _ [(30,_)] rfl (sB.all ⟨tO.self _ _,trivial⟩) (fun hG=>Ak (n:=c.length) Ai rfl rfl rfl (by simp)) rfl ?_
    refine Qg [(31,_)] Qw Mt (Qp Em (Ag (A2 (fun hc3=>?_) fun hc3=>?_)))
    ·
     refine AW.exit ?_
     refine A3 (Bq (Ae (AW.region (Qp Fu (Qp Az (Ag ?_))))))
     refine ⟨(p.1+1,p.2),?_,?_,GS.weaken ⟨rfl,rfl,rfl,rfl,rfl,trivial⟩ (.cons _ (.refl _))⟩
     · exact ⟨hlt,hgo.trans (fT hc3)⟩
     · simp only;omega
    ·
     refine Bv (AW.seq (Ah (Qp (Cd [_,_]) (Qp C5 (Qp (Cd [_,_,_]) ?_)))))
     refine Qp (Qc rfl (tA T V c hck (by omega) (Lu T V c) mo)) ?_
     refine Ag (A2 (fun hc4=>?_) fun hc4=>?_)
     ·
      have hvs:=wC hck hc3 hc4
      have hmoe:=hmo (P8 hc4).1
      subst hmoe
      refine Ah (Qp (Cd [_,_]) (Qp C5 (Qp (Cd [_,_,_]) ?_)))
      refine Qe (Fp (by kernel_rfl) rfl rfl (xL T V hty hst hvl c hck hcl m _ (mL c) (Lu T V c) hvs _)) ?_
      rintro _ _ ⟨rfl,rfl⟩
      refine Qp Ap (Qp Xa (Ag (Dq (A9 (Al (Al (A9 (Al ?_))))))))
      refine ⟨.inr rfl,[Iq _,.sl _ _],.cons (.tmp _ _ rfl) <| .cons (.tmp _ _ rfl) <| .nil,.cons _ (.refl _),?_⟩
      exact Eq.trans rfl (congrArg (fun q:Int×List Ev=>AV.tuple [.int .i64 q.1,.sl 5 (q.2.map Pm)]) ((Xu hc1).trans (hgo.trans (nN hc3 hc4)))).symm
     ·
      refine Bv (AW.region (Qp Ap (AOL.nil (Bp (Ae (AW.region (Qp Fu (Qp Az (Ag ?_)))))))))
      refine ⟨(p.1+1,0),?_,?_,GS.weaken ⟨rfl,rfl,rfl,rfl,rfl,trivial⟩ (.cons _ (.refl _))⟩
      · exact ⟨hlt,hgo.trans (wM hc3 hc4)⟩
      · simp only;omega
   ·
    have hde:=Df hc2
    have hgo:=hR.2
    rw [hde] at hgo
    refine AW.exit ?_
    refine A3 (A3 (Bq (Ae (Ah (Qp Az (Qp Ap ?_))))))
    refine Qp (Bz (z:=5) rfl) ?_
    refine Ag (AW.ret ?_)
    refine J3 (Iq _) (.sl _ _) ?_
    exact Eq.trans rfl (congrArg (fun q:Int×List Ev=>AV.tuple [.int .i64 q.1,.sl 5 (q.2.map Pm)]) ((Xu hc1).trans hgo)).symm
theorem Sg (T:List Sc)(hl:T.length≤1048576)(hst:∀s∈T,I9 s)(V:List Va)(hvl:V.length≤1048576)(es:List Ex)(hel:es.length≤1048576)(hes:∀e∈es,Av e≤1048576):Ar Tryz.prog 63 [.agg (Cj T V),.sl 8 (es.map Gs)] (.int .i64 (D8 T V es)):=by
 refine Ar.body (n:=30) Ai Tryz.func63 rfl rfl rfl fun H=>?_
 refine Ah (Qp (Fx [_,_]) (Qp Ap (Ag (AW.seq (Ah (Qp (Cd [_,_]) ?_))))))
 refine Qp (Qc rfl (Vf T hl hst V hvl)) ?_
 refine Qp Ap (Db (Qp Az (Qp Ci (Ag (A2 (fun hc1=>?_) fun hc1=>?_)))))
 ·
  refine Ah (Qp Az (Qp Ap (Ag (Dq ?_))))
  refine Qr (Iq _) ?_
  exact Eq.trans rfl (congrArg (fun q:Int=>AV.int .i64 q) (dN hc1)).symm
 ·
  refine Bv (AW.seq (Ah (Qp C5 ?_)))
  refine Qp (Ak (n:=es.length) Ai rfl rfl rfl (by simp)) ?_
  refine Qp Hb (Ag (A2 (fun hc2=>?_) fun hc2=>?_))
  ·
   refine Ah (Qp Ap (Ag (Dq ?_)))
   refine Qr (Iq _) ?_
   exact Eq.trans rfl (congrArg (fun q:Int=>AV.int .i64 q) (oA hc1 hc2)).symm
  ·
   refine Bv (AW.seq (Ah (Qp C5 ?_)))
   refine Qp (Ak (n:=es.length) Ai rfl rfl rfl (by simp)) ?_
   refine Qp Az (Ag (AW.block ?_))
   refine AW.Aau (fun (k:Nat)=>(⟨[(2,.ptr (Cj T V)),(17,.sl 8 (es.map Gs)),(18,.int .i64 es.length),(19,.int .i64 (k:Int))],H,30⟩:St)) (fun (k:Nat)=>k≤es.length∧Aq (Dx T V) (es.take k)=0) (fun (k:Nat)=>es.length-k) (0) ?_ (GS.weaken ⟨rfl,rfl,rfl,rfl,trivial⟩ (.refl _)) ?_
   · exact ⟨Nat.zero_le _,rfl⟩
   ·
    rintro k hR
    refine Ah (Qp Cf (Ag (AW.seq (A2 (fun hc3=>?_) fun hc3=>?_))))
    ·
     obtain ⟨e,he⟩:=B1 hc3
     have hlt:=A8 he
     have hem:=List.mem_of_getElem? he
     refine Bv (AW.seq (AW.block (Ah ?_)))
     refine Qp (Af (c:=[Iq _,_,Iq _,Iq _,Iq _,Iq _,Iq _,.str _]) Ai rfl rfl rfl rfl rfl rfl (by omega) (E0 he)) ?_
     refine Qp Dh ?_
     refine Qe (Aj (l:=[.int .i64 0,.sl 8 [],.int .i64 0,.int .i64 0,.int .i64 0,.int .i64 0,.int .i64 0,.str []]) (by kernel_rfl)) ?_
     rintro _ _ ⟨b7,rfl,rfl⟩
     refine Cq 0 [Iq _,_,Iq _,Iq _,Iq _,Iq _,Iq _,.str _] (_::_) ?_
     refine AOL.ghost (GS.Aat (t:=7) 0 rfl rfl) ?_
     refine Db (Qp (Cd [_,_]) (Qp Dh ?_))
     refine Qp (Qc rfl (Lz T hl hst V hvl e (hes e hem))) ?_
     refine Qp Ap (Db (Qp Az (Qp Ci (Ag (A2 (fun hc4=>?_) fun hc4=>?_)))))
     ·
      refine Ah (Qp Az (Qp Ap (Ag (AW.ret (A9 (Al (Al (A9 (Al ?_)))))))))
      refine Qr (Iq _) ?_
      exact Eq.trans rfl (congrArg (fun q:Int=>AV.int .i64 q) ((dQ hc1 hc2).trans (N4 hR.2 he (by simpa using hc4)))).symm
     ·
      refine AW.skip (Bp (Ae (AW.region (Qp Fu (Qp Az (Ag ?_))))))
      refine ⟨k+1,?_,?_,GS.weaken ⟨rfl,rfl,rfl,rfl,trivial⟩ (.refl _)⟩
      · exact ⟨hlt,Rb hR.2 he (by simpa using hc4)⟩
      · omega
    ·
     have hte:=Cv hc3
     have hall:=hR.2
     rw [hte] at hall
     refine AW.exit ?_
     refine A3 (A3 (Bq (Ae (Ah (Qp Ap (Ag (AW.ret ?_)))))))
     refine Qr (Iq _) ?_
     exact Eq.trans rfl (congrArg (fun q:Int=>AV.int .i64 q) ((dQ hc1 hc2).trans hall)).symm
theorem Zf (T:List Sc)(hl:T.length≤1048576)(hst:∀s∈T,I9 s)(V:List Va)(hvl:V.length≤1048576)(es:List Ex)(hel:es.length≤1048576)(hes:∀e∈es,Av e≤1048576):Ar Tryz.prog 63 [.agg (Cj T V),.sl 8 (es.map cE)] (.int .i64 (D8 T V es)):=by
 have h:=Sg T hl hst V hvl es hel hes
 rw [show es.map Gs=es.map cE from List.map_congr_left fun e _=>K5 e] at h
 exact h
theorem kX (T:List Sc)(hl:T.length≤1048576)(hst:∀s∈T,I9 s)(V:List Va)(hvl:V.length≤1048576)(es:List Ex)(hel:es.length≤60)(hes:∀e∈es,Av e≤1048576):Ar Tryz.prog 30 [.sl 2 (T.map Nf),.sl 2 (V.map Ub),.sl 8 (es.map Gs)] (.tuple [.int .i64 (H9 T V es).1,.sl 5 ((H9 T V es).2.1.map Pm),.int .i64 (H9 T V es).2.2]):=by
 refine Ar.body (n:=47) Ai Tryz.func30 rfl rfl rfl fun H=>?_
 refine Ah (Qp Ap ?_)
 refine Qp (Bz (z:=5) rfl) ?_
 refine Qp Ap (Db (Qp C5 (Qp C5 (Qp (El [_,_]) ?_))))
 refine Qe (Aj (l:=[.sl 2 [],.sl 2 []]) (by kernel_rfl)) ?_
 rintro _ _ ⟨b9,rfl,rfl⟩
 refine Cq 0 [_,_] (_::_) ?_
 refine AOL.ghost (GS.Aat (t:=9) 0 rfl rfl) ?_
 refine Ag (AW.seq (Ah (Qp (Cd [_,_]) (Qp C5 ?_))))
 refine Qp (Qc rfl (Sg T hl hst V hvl es (by omega) hes)) ?_
 refine Qp Ap (Db (Qp Az (Qp Ci (Ag (A2 (fun hc1=>?_) fun hc1=>?_)))))
 ·
  refine Ah (Qp Az (Qp Ap ?_))
  refine Qp (Bz (z:=5) rfl) ?_
  refine Qp Ap (Ag (Dq ?_))
  refine ⟨.inr rfl,[Iq _,.sl _ _,Iq _],.cons (.tmp _ _ rfl) <| .cons (.tmp _ _ rfl) <| .cons (.tmp _ _ rfl) <| .nil,.refl _,?_⟩
  exact Eq.trans rfl (congrArg (fun q:Int×List Ev×Int=>AV.tuple [.int .i64 q.1,.sl 5 (q.2.1.map Pm),.int .i64 q.2.2]) (Poss_1 hc1)).symm
 ·
  have hcz:=Ws hc1
  have hty:=jH hc1
  refine Bv (Ah ?_)
  refine Qp (Di.weakV (A0 (es:=[[_]]) Ai rfl rfl rfl rfl rfl rfl rfl rfl rfl) iB) ?_
  refine Qp (El [_,.bool _]) ?_
  refine Qe (Aj (l:=[.sl 1 [],.bool false]) (by kernel_rfl)) ?_
  rintro _ _ ⟨b11,rfl,rfl⟩
  refine Cq 0 [_,.bool _] (_::_) ?_
  refine Ag (AW.seq (Ah (Qp C5 ?_)))
  refine Qp (Ak (n:=es.length) Ai rfl rfl rfl (by simp)) ?_
  refine Qp Az (Ag (AW.block ?_))
  refine AW.Aau (fun (p:Nat×Cs)=>(⟨[(9,.ptr (Cj T V)),(11,.val (.pointer (some ⟨b11,0,none⟩))),(27,.sl 8 (es.map Gs)),(28,.int .i64 es.length),(29,.int .i64 (p.1:Int))],.box b11 103 (Ea p.2)::H,47⟩:St)) (fun (p:Nat×Cs)=>p.1≤es.length∧eN T V (es.take p.1) ([[]],true)=p.2∧csOK (64*p.1) p.2∧Jf T V 64 p.2) (fun (p:Nat×Cs)=>es.length-p.1) ((0,([[]],true))) ?_ (GS.weaken ⟨rfl,rfl,rfl,rfl,rfl,trivial⟩ (.refl _)) ?_
  · exact ⟨Nat.zero_le _,rfl,uB,sM⟩
  ·
   rintro p hR
   refine Ah (Qp Cf (Ag (AW.seq (A2 (fun hc2=>?_) fun hc2=>?_))))
   ·
    obtain ⟨e,he⟩:=B1 hc2
    have hlt:=A8 he
    have hem:=List.mem_of_getElem? he
    have hke:=(hcz.2 e hem).1
    have hkz:=Ip hke
    refine Bv (AW.seq (AW.block (Ah ?_)))
    refine Qp (Af (c:=[Iq _,_,Iq _,Iq _,Iq _,Iq _,Iq _,.str _]) Ai rfl rfl rfl rfl rfl rfl (by omega) (E0 he)) ?_
    refine Qp Dh ?_
    refine Qe (Aj (l:=[.int .i64 0,.sl 8 [],.int .i64 0,.int .i64 0,.int .i64 0,.int .i64 0,.int .i64 0,.str []]) (by kernel_rfl)) ?_
    rintro _ _ ⟨b13,rfl,rfl⟩
    refine Cq 0 [Iq _,_,Iq _,Iq _,Iq _,Iq _,Iq _,.str _] (_::_::_) ?_
    refine AOL.ghost (GS.Aat (t:=13) 0 rfl rfl) ?_
    refine Ag ?_
    refine AW.draw mixed (fun H'=>_∈H') (List.mem_of_getElem? (i:=0) rfl) (by kernel_rfl) ?_
    refine Qn 0 rfl (OpP.Aax (fun k=>By (k:=k) (l:=[_,.bool _]) Ai rfl rfl rfl rfl rfl) (fun _ h=>h)) ?_
    refine Qn 1 rfl (Cd [_,_]) (Qn 2 rfl Dh ?_)
    refine Qn 3 rfl (Qc rfl (Sl T V e hke.kok (Ip hke) true)) ?_
    refine Qn 4 rfl (Qc rfl (P9 _ _ _ _ hR.2.2.1 (Fm e hke.kok true) (by omega) (by have:=Ip hke;omega))) ?_
    refine Js.last _ _ 5 _ _ rfl (by kernel_rfl) rfl rfl (C6 (k:=0) (v:=.agg _) (cs':=[_,.bool _]) (H2:=_::_) Ai rfl rfl rfl rfl (rfl) rfl rfl rfl rfl) (by kernel_rfl) ?_
    rintro _ _ ⟨rfl,rfl⟩
    refine Bp (Ae (AW.region (Qp Fu (Qp Az (Ag ?_)))))
    refine ⟨(p.1+1,Ee p.2 (C4 T V e true)),?_,?_,GS.weaken ⟨rfl,rfl,rfl,rfl,rfl,trivial⟩ (.refl _)⟩
    · exact ⟨hlt,by unfold eN;rw [Cm he,List.foldl_append];exact congrArg (fun z=>Ee z (C4 T V e true)) hR.2.1,(Kg hR.2.2.1 (Fm e hke.kok true)).mono (by simp only;omega),Mn hR.2.2.2 (Km (Pt e hke.kok true) hkz)⟩
    · simp only;omega
   ·
    have hte:=Cv hc2
    have hpr:=hR.2.1
    rw [hte] at hpr
    have hvo:vOK T V p.2:=uP hR.2.2.1 hR.2.2.2 (by have:=hR.1;omega)
    refine AW.exit ?_
    refine A3 (A3 (Bq (Ae (Ah (Qp (Cd [_,_]) ?_)))))
    refine AOL.Aay (By (k:=0) (l:=[_,.bool _]) Ai rfl rfl rfl rfl rfl) rfl rfl ?_
    refine Qp (Qc rfl (Z7 T hst V hty hvl _ hvo)) ?_
    refine Qp Lv (Qp Ih (Qp Qxs (Qp Ap (Qp Xa (Db (Qp Az (Qp C5 (Qp Ap (Qp Xa ?_)))))))))
    refine Qp Ap (Ag (AW.ret ?_))
    refine ⟨.inr rfl,[Iq _,.sl _ _,Iq _],.cons (.tmp _ _ rfl) <| .cons (.tmp _ _ rfl) <| .cons (.tmp _ _ rfl) <| .nil,.cons _ (.refl _),?_⟩
    exact Eq.trans rfl (congrArg (fun q:Int×List Ev×Int=>AV.tuple [.int .i64 q.1,.sl 5 (q.2.1.map Pm),.int .i64 q.2.2]) (Poss_2 hc1 hpr)).symm
theorem I4 (T:List Sc)(hl:T.length≤1048576)(hst:∀s∈T,I9 s)(V:List Va)(hvl:V.length≤1048576)(a b:Ex)(ha:Av a≤1048576)(hb:Av b≤1048576):Ar Tryz.prog 24 [.sl 2 (T.map Nf),.sl 2 (V.map Ub),.agg (cE a),.agg (cE b)] (.tuple [.int .i64 (Cn T V a b).1,.int .i64 (Cn T V a b).2]):=by
 refine Ar.body (n:=43) Ai Tryz.func24 rfl rfl rfl fun H=>?_
 refine Ah (Qp K3 (Qp K3 (Qp Ap (Qp Ap (Db (Qp C5 (Qp C5 (Qp (El [_,_]) ?_))))))))
 refine Qe (Aj (l:=[.sl 2 [],.sl 2 []]) (by kernel_rfl)) ?_
 rintro _ _ ⟨b10,rfl,rfl⟩
 refine Cq 0 [_,_] (_::_) ?_
 refine AOL.ghost (GS.Aat (t:=10) 0 rfl rfl) ?_
 refine Ag (AW.seq (Ah (Qp (Cd [_,_]) (Qp Dh (Qp Dh ?_)))))
 refine Qp (A0 (es:=[[Iq _,_,Iq _,Iq _,Iq _,Iq _,Iq _,.str _],[Iq _,_,Iq _,Iq _,Iq _,Iq _,Iq _,.str _]]) Ai rfl rfl rfl rfl rfl rfl rfl rfl rfl) ?_
 refine Qp (Qc rfl (Zf T hl hst V hvl [a,b] (by show (2:Nat)≤_;decide) (rK ha hb))) ?_
 refine Qp Ap (Db (Qp Az (Qp Ci (Ag (A2 (fun hc1=>?_) fun hc1=>?_)))))
 ·
  refine Ah (Qp Az (Qp Ap (Qp Ap (Ag (Dq ?_)))))
  refine J3 (Iq _) (Iq _) ?_
  exact Eq.trans rfl (congrArg (fun q:Int×Int=>AV.tuple [.int .i64 q.1,.int .i64 q.2]) (Imp_1 hc1)).symm
 ·
  have hcz:=Ws hc1
  have hty:=jH hc1
  have hka:=(hcz.2 a (List.mem_cons_self ..)).1
  have hkb:=(hcz.2 b (List.mem_cons_of_mem _ (List.mem_cons_self ..))).1
  have hza:=Ip hka
  have hzb:=Ip hkb
  have hvo:vOK T V (Kp T V a b):=uP (Kg (Fm a hka.kok true) (Fm b hkb.kok false)) (Mn (Km (Pt a hka.kok true) hza) (Km (Pt b hkb.kok false) hzb)) (by omega)
  refine Bv (AW.seq ?_)
  refine AW.draw mixed (fun _=>True) trivial (by kernel_rfl) ?_
  refine Qn 0 rfl (Cd [_,_]) (Qn 1 rfl (Cd [_,_]) (Qn 2 rfl Dh ?_))
  refine Qn 3 rfl (Qc rfl (Sl T V a hka.kok (Ip hka) true)) ?_
  refine Qn 4 rfl (Cd [_,_]) (Qn 5 rfl Dh ?_)
  refine Qn 6 rfl (Qc rfl (Sl T V b hkb.kok (Ip hkb) false)) ?_
  refine Qn 7 rfl (Qc rfl (P9 _ _ _ _ (Fm a hka.kok true) (Fm b hkb.kok false) (by have:=Ip hka;omega) (by have:=Ip hkb;omega))) ?_
  refine Qn 8 rfl (Qc rfl (Z7 T hst V hty hvl _ hvo)) ?_
  refine Qn 9 rfl Lv (Qn 10 rfl Ih (Qn 11 rfl Qxs (Qn 12 rfl Ap (Qn 13 rfl Xa ?_))))
  refine Js.done _ _ (by kernel_rfl) ?_
  refine Ae (AW.seq (Ah (Qp Az (Ag (AW.block (Ah (Qp A6 (Qp Bc (Ag (A2 (fun hc2=>?_) fun hc2=>?_))))))))))
  ·
   refine Ah (Qp Ap (Qp Ap (Ag (AW.ret (A9 (Al ?_))))))
   refine J3 (Iq _) (Iq _) ?_
   exact Eq.trans rfl (congrArg (fun q:Int×Int=>AV.tuple [.int .i64 q.1,.int .i64 q.2]) (Imp_2 hc1 hc2)).symm
  ·
   refine Ah (Qp A6 (Qp Bc (Ag (A2 (fun hc3=>?_) fun hc3=>?_))))
   ·
    refine Ah (Qp Ap (Qp Ap (Ag (AW.ret (A9 (Al ?_))))))
    refine J3 (Iq _) (Iq _) ?_
    exact Eq.trans rfl (congrArg (fun q:Int×Int=>AV.tuple [.int .i64 q.1,.int .i64 q.2]) (Imp_3 hc1 hc2 hc3)).symm
   ·
    refine AW.skip (Bp (Ae (Ah (Qp Az (Qp Ap (Qp Ap (Ag (AW.ret ?_))))))))
    refine J3 (Iq _) (Iq _) ?_
    exact Eq.trans rfl (congrArg (fun q:Int×Int=>AV.tuple [.int .i64 q.1,.int .i64 q.2]) (Imp_4 hc1 hc2 hc3)).symm

set_option maxHeartbeats 1600000
set_option maxRecDepth 20000

theorem Wu (a b:List Lit)(ha:a.length≤1048576)(hs:∀x∈a,Av x.cond≤1048576):Ar Tryz.prog 55 [.sl 9 (a.map Gw),.sl 9 (b.map Gw)] (.bool (F2 a b)):=by
 refine Ar.body (n:=42) Ai Tryz.func55 rfl rfl rfl fun H=>?_
 refine Ah (Qp Bc (Ag (AW.seq (Ah (Qp C5 ?_)))))
 refine Qp (Ak (n:=a.length) Ai rfl rfl rfl (by simp)) ?_
 refine Qp C5 ?_
 refine Qp (Ak (n:=b.length) Ai rfl rfl rfl (by simp)) ?_
 refine Qp Ci (Ag (A2 (fun hc1=>?_) fun hc1=>?_))
 ·
  refine Ah (Qp Bc (Ag (Dq ?_)))
  refine Qr (.bool _) ?_
  exact Eq.trans rfl (congrArg (fun q:Bool=>AV.bool q) (cU hc1)).symm
 ·
  have hln:a.length=b.length:=by have h:=eq_of_beq (by simpa [bne] using hc1:((a.length:Int)==(b.length:Int))=true);omega
  refine Bv (AW.seq (Ah (Qp Ap (Ag (AW.block ?_)))))
  refine AW.Aau (fun (k:Nat)=>(⟨[(0,.sl 9 (a.map Gw)),(1,.sl 9 (b.map Gw)),(4,.bool false),(5,.int .i64 (k:Int))],H,42⟩:St)) (fun (k:Nat)=>k≤a.length∧a.take k=b.take k) (fun (k:Nat)=>a.length-k) (0) ?_ (GS.weaken ⟨rfl,rfl,rfl,rfl,trivial⟩ (.refl _)) ?_
  · simp
  ·
   rintro k hR
   refine AW.seq (Ah (Qp Az (Qp C5 ?_)))
   refine Qp (Ak (n:=a.length) Ai rfl rfl rfl (by simp)) ?_
   refine Qp Cf (Ag (A2 (fun hc2=>?_) fun hc2=>?_))
   ·
    obtain ⟨x,hx⟩:=B1 hc2
    have hlx:=A8 hx
    obtain ⟨y,hy⟩:∃y,b[k]? = some y:=⟨_,List.getElem?_eq_getElem (by omega)⟩
    have hly:=A8 hy
    refine Bv (AW.seq (AW.block (AW.seq ?_)))
    refine AW.draw mixed (fun _=>True) trivial (by kernel_rfl) ?_
    refine Qn 0 rfl C5 (Qn 1 rfl Az ?_)
    refine Qn 2 rfl (Af (c:=[Iq _,_,Iq _,Iq _,Iq _,Iq _,Iq _,.str _,.bool _]) Ai rfl rfl rfl rfl rfl rfl (by omega) (Bg hx)) ?_
    refine Qn 3 rfl (Qf [.bool _]) (Qn 4 rfl jS (Qn 5 rfl C5 (Qn 6 rfl Az ?_)))
    refine Qn 7 rfl (Af (c:=[Iq _,_,Iq _,Iq _,Iq _,Iq _,Iq _,.str _,.bool _]) Ai rfl rfl rfl rfl rfl rfl (by omega) (Bg hy)) ?_
    refine Qn 8 rfl (Qf [.bool _]) (Qn 9 rfl jS ?_)
    refine Qn 10 rfl (Q6 Ai rfl rfl rfl rfl) ?_
    refine Qn 11 rfl Bm (Qo 12 rfl [] Qw C5 (Qo 13 rfl [] Qw Az ?_))
    refine Js.pure _ _ 14 _ _ rfl (by kernel_rfl) (by kernel_rfl) rfl (.opt _ (.ptr _) [(29,_),(30,_)] rfl (sB.all ⟨tO.self _ _,tO.self _ _,trivial⟩) (fun hG=>Af (c:=[Iq _,_,Iq _,Iq _,Iq _,Iq _,Iq _,.str _,.bool _]) Ai rfl rfl rfl rfl rfl rfl (by omega) (Bg hx)) rfl) ?_
    refine Qo 15 rfl [(31,_)] Qw (Qf [Iq _,_,Iq _,Iq _,Iq _,Iq _,Iq _,.str _,.bool _]) (Qo 16 rfl [(32,_)] Qw Dh (Qo 17 rfl [] Qw C5 (Qo 18 rfl [] Qw Az ?_)))
    refine Js.pure _ _ 19 _ _ rfl (by kernel_rfl) (by kernel_rfl) rfl (.opt _ (.ptr _) [(34,_),(35,_)] rfl (sB.all ⟨tO.self _ _,tO.self _ _,trivial⟩) (fun hG=>Af (c:=[Iq _,_,Iq _,Iq _,Iq _,Iq _,Iq _,.str _,.bool _]) Ai rfl rfl rfl rfl rfl rfl (by omega) (Bg hy)) rfl) ?_
    refine Qo 20 rfl [(36,_)] Qw (Qf [Iq _,_,Iq _,Iq _,Iq _,Iq _,Iq _,.str _,.bool _]) (Qo 21 rfl [(37,_)] Qw Dh ?_)
    refine Js.pure _ _ 22 _ _ rfl (by kernel_rfl) (by kernel_rfl) rfl (.opt _ (.bool _) [(33,_),(38,_)] rfl (sB.all ⟨tO.self _ _,tO.self _ _,trivial⟩) (fun hG=>Ct (by kernel_rfl) rfl rfl (c20 x.cond y.cond (hs x (List.mem_of_getElem? hx)))) rfl) ?_
    refine Qo 23 rfl [(39,_)] Qw Ge (Qn 24 rfl Ek ?_)
    refine Js.done _ _ (by kernel_rfl) ?_
    refine Ae (A2 (fun hc3=>?_) fun hc3=>?_)
    ·
     refine Ah (Qp Bc (Ag (AW.ret (A9 (Al (Al (A9 (Al ?_))))))))
     refine Qr (.bool _) ?_
     exact Eq.trans rfl (congrArg (fun q:Bool=>AV.bool q) (dH hx hy hc3)).symm
    ·
     refine AW.skip (Bp (Ae (AW.region (Qp Az (Qp Fu (Qp Ap (Ag ?_)))))))
     refine ⟨k+1,?_,?_,GS.weaken ⟨rfl,rfl,rfl,rfl,trivial⟩ (.refl _)⟩
     · exact ⟨hlx,by rw [Cm hx,Cm hy,hR.2,uH hc3]⟩
     · omega
   ·
    have hte:=Cv hc2
    have hall:=hR.2
    rw [hte] at hall
    have htb:b.take k=b:=List.take_of_length_le (by have:¬k<a.length:=(by simpa using hc2);omega)
    rw [htb] at hall
    refine AW.exit ?_
    refine A3 (A3 (Bq (Ae (Ah (Qp Bc (Ag (AW.ret ?_)))))))
    refine Qr (.bool _) ?_
    exact Eq.trans rfl (congrArg (fun q:Bool=>AV.bool q) ((F5 a b).2 hall)).symm
theorem Zg (a b:List (List Lit))(ha:a.length≤1048576)(hal:∀c∈a,c.length≤1048576)(hs:∀c∈a,∀x∈c,Av x.cond≤1048576):Ar Tryz.prog 15 [.sl 1 (a.map P2),.sl 1 (b.map P2)] (.bool (J7 a b)):=by
 refine Ar.body (n:=27) Ai Tryz.func15 rfl rfl rfl fun H=>?_
 refine Ah (Qp Bc (Ag (AW.seq (Ah (Qp C5 ?_)))))
 refine Qp (Ak (n:=a.length) Ai rfl rfl rfl (by simp)) ?_
 refine Qp C5 ?_
 refine Qp (Ak (n:=b.length) Ai rfl rfl rfl (by simp)) ?_
 refine Qp Ci (Ag (A2 (fun hc1=>?_) fun hc1=>?_))
 ·
  refine Ah (Qp Bc (Ag (Dq ?_)))
  refine Qr (.bool _) ?_
  exact Eq.trans rfl (congrArg (fun q:Bool=>AV.bool q) (eU hc1)).symm
 ·
  have hln:a.length=b.length:=by have h:=eq_of_beq (by simpa [bne] using hc1:((a.length:Int)==(b.length:Int))=true);omega
  refine Bv (AW.seq (Ah (Qp Ap (Ag (AW.block ?_)))))
  refine AW.Aau (fun (k:Nat)=>(⟨[(0,.sl 1 (a.map P2)),(1,.sl 1 (b.map P2)),(4,.bool false),(5,.int .i64 (k:Int))],H,27⟩:St)) (fun (k:Nat)=>k≤a.length∧a.take k=b.take k) (fun (k:Nat)=>a.length-k) (0) ?_ (GS.weaken ⟨rfl,rfl,rfl,rfl,trivial⟩ (.refl _)) ?_
  · simp
  ·
   rintro k hR
   refine AW.seq (Ah (Qp Az (Qp C5 ?_)))
   refine Qp (Ak (n:=a.length) Ai rfl rfl rfl (by simp)) ?_
   refine Qp Cf (Ag (A2 (fun hc2=>?_) fun hc2=>?_))
   ·
    obtain ⟨x,hx⟩:=B1 hc2
    have hlx:=A8 hx
    obtain ⟨y,hy⟩:∃y,b[k]? = some y:=⟨_,List.getElem?_eq_getElem (by omega)⟩
    have hly:=A8 hy
    refine Bv (AW.seq (AW.block (AW.seq ?_)))
    refine AW.draw mixed (fun _=>True) trivial (by kernel_rfl) ?_
    refine Qn 0 rfl C5 (Qn 1 rfl Az ?_)
    refine Qn 2 rfl (Af (c:=[_]) Ai rfl rfl rfl rfl rfl rfl (by omega) (Bg hx)) ?_
    refine Qn 3 rfl Dg (Qn 4 rfl C5 (Qn 5 rfl Az ?_))
    refine Qn 6 rfl (Af (c:=[_]) Ai rfl rfl rfl rfl rfl rfl (by omega) (Bg hy)) ?_
    refine Qn 7 rfl Dg ?_
    refine Qn 8 rfl (Qc rfl (Wu x y (hal x (List.mem_of_getElem? hx)) (hs x (List.mem_of_getElem? hx)))) ?_
    refine Qn 9 rfl Ge ?_
    refine Js.done _ _ (by kernel_rfl) ?_
    refine Ae (A2 (fun hc3=>?_) fun hc3=>?_)
    ·
     refine Ah (Qp Bc (Ag (AW.ret (A9 (Al (Al (A9 (Al ?_))))))))
     refine Qr (.bool _) ?_
     exact Eq.trans rfl (congrArg (fun q:Bool=>AV.bool q) (gK hx hy hc3)).symm
    ·
     refine AW.skip (Bp (Ae (AW.region (Qp Az (Qp Fu (Qp Ap (Ag ?_)))))))
     refine ⟨k+1,?_,?_,GS.weaken ⟨rfl,rfl,rfl,rfl,trivial⟩ (.refl _)⟩
     · exact ⟨hlx,by rw [Cm hx,Cm hy,hR.2,vX hc3]⟩
     · omega
   ·
    have hte:=Cv hc2
    have hall:=hR.2
    rw [hte] at hall
    have htb:b.take k=b:=List.take_of_length_le (by have:¬k<a.length:=(by simpa using hc2);omega)
    rw [htb] at hall
    refine AW.exit ?_
    refine A3 (A3 (Bq (Ae (Ah (Qp Bc (Ag (AW.ret ?_)))))))
    refine Qr (.bool _) ?_
    exact Eq.trans rfl (congrArg (fun q:Bool=>AV.bool q) ((Kd a b).2 hall)).symm


end Go.Proofs.YtkddpedfbicbeaaGreatDoor
