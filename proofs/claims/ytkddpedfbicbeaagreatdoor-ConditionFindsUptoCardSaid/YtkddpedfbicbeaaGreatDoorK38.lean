/-
  Several texts in one: Y13, Y6c, Y2. No condition.
-/
import Derived.Test.YtkddpedfbicbeaaGreatDoorAz
import Derived.Test.YtkddpedfbicbeaaGreatDoorK21
import Derived.Test.YtkddpedfbicbeaaGreatDoorK37
import Derived.Test.YtkddpedfbicbeaaGreatDoorY6b
import Derived.KernelRfl
import Derived.Test.YtkddpedfbicbeaaGreatDoorK15
import Derived.Test.YtkddpedfbicbeaaGreatDoorK04
import Derived.Test.YtkddpedfbicbeaaGreatDoorK10
import Derived.Test.YtkddpedfbicbeaaGreatDoorK12
set_option linter.unusedVariables false
set_option linter.unusedSimpArgs false
namespace Go.Proofs.YtkddpedfbicbeaaGreatDoor
open Go Go.Aw
set_option maxHeartbeats 3200000
set_option maxRecDepth 20000

theorem Zk (T:List Sc)(hst:∀s∈T,Jk s)(V:List Va)(hty:Jt T V)(hvl:V.length≤1048576)(cs:Cs)(hcs:vOK T V cs):Av Tryz.prog 64 [.agg (Co T V),.agg (Ej cs)] (.tuple [.int .i64 (B3 T V cs).1,.sl 5 ((B3 T V cs).2.map Ph)]):=by
 refine Av.body (n:=44) Ai Tryz.func64 rfl rfl rfl fun H=>?_
 refine Ah (Qp (F5 [_,_]) (Qp (F5 [_,.bool _]) (Qp At ?_)))
 refine Qp (B0 (z:=5) rfl) ?_
 refine Ag (AW.seq (Ah (Qp (Qf [.bool _]) (Qp jV (Qp Ge (Ag (A3 (fun hc1=>?_) fun hc1=>?_)))))))
 ·
  refine Ah (Qp At ?_)
  refine Qp (B0 (z:=5) rfl) ?_
  refine Ag (Dr ?_)
  refine Km (Iq _) (.sl _ _) ?_
  exact Eq.trans rfl (congrArg (fun q:Int×List Ev=>AV.tuple [.int .i64 q.1,.sl 5 (q.2.map Ph)]) (Yk hc1)).symm
 ·
  refine Bx (Ah (Qp At (Ag (AW.seq (Ah (Qp (Qf [_,.bool _]) (Qp Dk ?_)))))))
  refine Qp (Ak (n:=cs.1.length) Ai rfl rfl rfl (by simp)) ?_
  refine Qp A0 (Ag (AW.block ?_))
  refine AW.Aae (fun (p:Nat×Int)=>(⟨[(2,.ptr (Co T V)),(6,.int .i64 p.2),(15,.sl 1 (cs.1.map Pu)),(16,.int .i64 cs.1.length),(17,.int .i64 (p.1:Int))],H,44⟩:St)) (fun (p:Nat×Int)=>p.1≤cs.1.length∧Yy T V 2 cs.1=Yy T V p.2 (cs.1.drop p.1)) (fun (p:Nat×Int)=>cs.1.length-p.1) ((0,2)) ?_ (GS.weaken ⟨rfl,rfl,rfl,rfl,rfl,trivial⟩ (.refl _)) ?_
  · exact ⟨Nat.zero_le _,rfl⟩
  ·
   rintro p hR
   have hcl9:=hcs.1
   refine Ah (Qp Cj (Ag (AW.seq (A3 (fun hc2=>?_) fun hc2=>?_))))
   ·
    obtain ⟨c,hc⟩:=B2 hc2
    have hlt:=A9 hc
    have hcv:=hcs.2 c (List.mem_of_getElem? hc)
    have hck:=hcv.1
    have hcl:=hcv.2
    have hgo:=hR.2
    rw [A8 hc] at hgo
    refine Bx (AW.seq (AW.block (Ah ?_)))
    refine Qp (Af (c:=[_]) Ai rfl rfl rfl rfl rfl rfl (by omega) (Bh hc)) ?_
    refine Qp Dk (Qp Wj (Df (Qp (Ck [_,_]) (Qp C4 ?_))))
    refine Qe (Fo (by kernel_rfl) rfl rfl (zO T V c hck hcl (xV T V c) _)) ?_
    rintro _ _ ⟨m,mo,hmo,rfl,rfl⟩
    refine Qp Mv ?_
    refine Qp (Cb (v:=.agg [_,_,_]) rfl rfl) ?_
    refine Qp eN ?_
    refine Qe (Al (l:=[.val (.pointer none),.sl 1 [],.val (.map none)]) (by kernel_rfl)) ?_
    rintro _ _ ⟨b9,rfl,rfl⟩
    refine Cm 0 [_,_,_] (_::_::_) ?_
    refine Qp Be ?_
    refine AOL.ghost (GS.Aad (t:=9) 0 rfl rfl) ?_
    refine Ag (AW.seq (Ah (Qp Bp (Qp Ge (Qp Bp (Qg [] Qw C4 ?_))))))
    refine AOL.Aaf (y:=Iq _) _ [(30,_)] rfl (rX.all ⟨Ent.Aac _ _,trivial⟩) (fun hG=>Ak (n:=c.length) Ai rfl rfl rfl (by simp)) rfl ?_
    refine Qg [(31,_)] Qw Nx (Qp E1 (Ag (A3 (fun hc3=>?_) fun hc3=>?_)))
    ·
     refine AW.exit ?_
     refine A6 (Bv (Ae (AW.region (Qp Fv (Qp A0 (Ag ?_))))))
     refine ⟨(p.1+1,p.2),?_,?_,GS.weaken ⟨rfl,rfl,rfl,rfl,rfl,trivial⟩ (.cons _ (.refl _))⟩
     · exact ⟨hlt,hgo.trans (gZ hc3)⟩
     · simp only;omega
    ·
     refine Bx (AW.seq (Ah (Qp (Ck [_,_]) (Qp C4 (Qp (Ck [_,_,_]) ?_)))))
     refine Qp (Qc rfl (tF T V c hck (by omega) (Li T V c) mo)) ?_
     refine Ag (A3 (fun hc4=>?_) fun hc4=>?_)
     ·
      have hvs:=vG hck hc3 hc4
      have hmoe:=hmo (Px hc4).1
      subst hmoe
      refine Ah (Qp (Ck [_,_]) (Qp C4 (Qp (Ck [_,_,_]) ?_)))
      refine Qe (Fo (by kernel_rfl) rfl rfl (xD T V hty hst hvl c hck hcl m _ (lO c) (Li T V c) hvs _)) ?_
      rintro _ _ ⟨rfl,rfl⟩
      refine Qp At (Qp Wj (Ag (Dr (Ba (Aj (Aj (Ba (Aj ?_))))))))
      refine ⟨.inr rfl,[Iq _,.sl _ _],.cons (.tmp _ _ rfl) <| .cons (.tmp _ _ rfl) <| .nil,.cons _ (.refl _),?_⟩
      exact Eq.trans rfl (congrArg (fun q:Int×List Ev=>AV.tuple [.int .i64 q.1,.sl 5 (q.2.map Ph)]) ((bT hc1).trans (hgo.trans (mY hc3 hc4)))).symm
     ·
      refine Bx (AW.region (Qp At (AOL.nil (Bq (Ae (AW.region (Qp Fv (Qp A0 (Ag ?_)))))))))
      refine ⟨(p.1+1,0),?_,?_,GS.weaken ⟨rfl,rfl,rfl,rfl,rfl,trivial⟩ (.cons _ (.refl _))⟩
      · exact ⟨hlt,hgo.trans (xC hc3 hc4)⟩
      · simp only;omega
   ·
    have hde:=Dh hc2
    have hgo:=hR.2
    rw [hde] at hgo
    refine AW.exit ?_
    refine A6 (A6 (Bv (Ae (Ah (Qp A0 (Qp At ?_))))))
    refine Qp (B0 (z:=5) rfl) ?_
    refine Ag (AW.ret ?_)
    refine Km (Iq _) (.sl _ _) ?_
    exact Eq.trans rfl (congrArg (fun q:Int×List Ev=>AV.tuple [.int .i64 q.1,.sl 5 (q.2.map Ph)]) ((bT hc1).trans hgo)).symm
theorem Te (T:List Sc)(hl:T.length≤1048576)(hst:∀s∈T,Jk s)(V:List Va)(hvl:V.length≤1048576)(es:List Ex)(hel:es.length≤1048576)(hes:∀e∈es,Ar e≤1048576):Av Tryz.prog 63 [.agg (Co T V),.sl 8 (es.map Fu)] (.int .i64 (Ed T V es)):=by
 refine Av.body (n:=30) Ai Tryz.func63 rfl rfl rfl fun H=>?_
 refine Ah (Qp (F5 [_,_]) (Qp At (Ag (AW.seq (Ah (Qp (Ck [_,_]) ?_))))))
 refine Qp (Qc rfl (U4 T hl hst V hvl)) ?_
 refine Qp At (Df (Qp A0 (Qp Cr (Ag (A3 (fun hc1=>?_) fun hc1=>?_)))))
 ·
  refine Ah (Qp A0 (Qp At (Ag (Dr ?_))))
  refine Qr (Iq _) ?_
  exact Eq.trans rfl (congrArg (fun q:Int=>AV.int .i64 q) (cC hc1)).symm
 ·
  refine Bx (AW.seq (Ah (Qp C4 ?_)))
  refine Qp (Ak (n:=es.length) Ai rfl rfl rfl (by simp)) ?_
  refine Qp Hg (Ag (A3 (fun hc2=>?_) fun hc2=>?_))
  ·
   refine Ah (Qp At (Ag (Dr ?_)))
   refine Qr (Iq _) ?_
   exact Eq.trans rfl (congrArg (fun q:Int=>AV.int .i64 q) (nR hc1 hc2)).symm
  ·
   refine Bx (AW.seq (Ah (Qp C4 ?_)))
   refine Qp (Ak (n:=es.length) Ai rfl rfl rfl (by simp)) ?_
   refine Qp A0 (Ag (AW.block ?_))
   refine AW.Aae (fun (k:Nat)=>(⟨[(2,.ptr (Co T V)),(17,.sl 8 (es.map Fu)),(18,.int .i64 es.length),(19,.int .i64 (k:Int))],H,30⟩:St)) (fun (k:Nat)=>k≤es.length∧Aq (Eb T V) (es.take k)=0) (fun (k:Nat)=>es.length-k) (0) ?_ (GS.weaken ⟨rfl,rfl,rfl,rfl,trivial⟩ (.refl _)) ?_
   · exact ⟨Nat.zero_le _,rfl⟩
   ·
    rintro k hR
    refine Ah (Qp Cj (Ag (AW.seq (A3 (fun hc3=>?_) fun hc3=>?_))))
    ·
     obtain ⟨e,he⟩:=B2 hc3
     have hlt:=A9 he
     have hem:=List.mem_of_getElem? he
     refine Bx (AW.seq (AW.block (Ah ?_)))
     refine Qp (Af (c:=[Iq _,_,Iq _,Iq _,Iq _,Iq _,Iq _,.str _]) Ai rfl rfl rfl rfl rfl rfl (by omega) (E9 he)) ?_
     refine Qp D0 ?_
     refine Qe (Al (l:=[.int .i64 0,.sl 8 [],.int .i64 0,.int .i64 0,.int .i64 0,.int .i64 0,.int .i64 0,.str []]) (by kernel_rfl)) ?_
     rintro _ _ ⟨b7,rfl,rfl⟩
     refine Cm 0 [Iq _,_,Iq _,Iq _,Iq _,Iq _,Iq _,.str _] (_::_) ?_
     refine AOL.ghost (GS.Aad (t:=7) 0 rfl rfl) ?_
     refine Df (Qp (Ck [_,_]) (Qp D0 ?_))
     refine Qp (Qc rfl (Pf T hl hst V hvl e (hes e hem))) ?_
     refine Qp At (Df (Qp A0 (Qp Cr (Ag (A3 (fun hc4=>?_) fun hc4=>?_)))))
     ·
      refine Ah (Qp A0 (Qp At (Ag (AW.ret (Ba (Aj (Aj (Ba (Aj ?_)))))))))
      refine Qr (Iq _) ?_
      exact Eq.trans rfl (congrArg (fun q:Int=>AV.int .i64 q) ((cP hc1 hc2).trans (Nj hR.2 he (by simpa using hc4)))).symm
     ·
      refine AW.skip (Bq (Ae (AW.region (Qp Fv (Qp A0 (Ag ?_))))))
      refine ⟨k+1,?_,?_,GS.weaken ⟨rfl,rfl,rfl,rfl,trivial⟩ (.refl _)⟩
      · exact ⟨hlt,Rj hR.2 he (by simpa using hc4)⟩
      · omega
    ·
     have hte:=C3 hc3
     have hall:=hR.2
     rw [hte] at hall
     refine AW.exit ?_
     refine A6 (A6 (Bv (Ae (Ah (Qp At (Ag (AW.ret ?_)))))))
     refine Qr (Iq _) ?_
     exact Eq.trans rfl (congrArg (fun q:Int=>AV.int .i64 q) ((cP hc1 hc2).trans hall)).symm
theorem Y7 (T:List Sc)(hl:T.length≤1048576)(hst:∀s∈T,Jk s)(V:List Va)(hvl:V.length≤1048576)(es:List Ex)(hel:es.length≤1048576)(hes:∀e∈es,Ar e≤1048576):Av Tryz.prog 63 [.agg (Co T V),.sl 8 (es.map cE)] (.int .i64 (Ed T V es)):=by
 have h:=Te T hl hst V hvl es hel hes
 rw [show es.map Fu=es.map cE from List.map_congr_left fun e _=>Jg e] at h
 exact h
theorem Wp (T:List Sc)(hl:T.length≤1048576)(hst:∀s∈T,Jk s)(V:List Va)(hvl:V.length≤1048576)(es:List Ex)(hel:es.length≤60)(hes:∀e∈es,Ar e≤1048576):Av Tryz.prog 30 [.sl 2 (T.map Nz),.sl 2 (V.map Un),.sl 8 (es.map Fu)] (.tuple [.int .i64 (B1 T V es).1,.sl 5 ((B1 T V es).2.1.map Ph),.int .i64 (B1 T V es).2.2]):=by
 refine Av.body (n:=47) Ai Tryz.func30 rfl rfl rfl fun H=>?_
 refine Ah (Qp At ?_)
 refine Qp (B0 (z:=5) rfl) ?_
 refine Qp At (Df (Qp C4 (Qp C4 (Qp (Ep [_,_]) ?_))))
 refine Qe (Al (l:=[.sl 2 [],.sl 2 []]) (by kernel_rfl)) ?_
 rintro _ _ ⟨b9,rfl,rfl⟩
 refine Cm 0 [_,_] (_::_) ?_
 refine AOL.ghost (GS.Aad (t:=9) 0 rfl rfl) ?_
 refine Ag (AW.seq (Ah (Qp (Ck [_,_]) (Qp C4 ?_))))
 refine Qp (Qc rfl (Te T hl hst V hvl es (by omega) hes)) ?_
 refine Qp At (Df (Qp A0 (Qp Cr (Ag (A3 (fun hc1=>?_) fun hc1=>?_)))))
 ·
  refine Ah (Qp A0 (Qp At ?_))
  refine Qp (B0 (z:=5) rfl) ?_
  refine Qp At (Ag (Dr ?_))
  refine ⟨.inr rfl,[Iq _,.sl _ _,Iq _],.cons (.tmp _ _ rfl) <| .cons (.tmp _ _ rfl) <| .cons (.tmp _ _ rfl) <| .nil,.refl _,?_⟩
  exact Eq.trans rfl (congrArg (fun q:Int×List Ev×Int=>AV.tuple [.int .i64 q.1,.sl 5 (q.2.1.map Ph),.int .i64 q.2.2]) (Poss_1 hc1)).symm
 ·
  have hcz:=Yo hc1
  have hty:=jI hc1
  refine Bx (Ah ?_)
  refine Qp (Dj.weakV (Az (es:=[[_]]) Ai rfl rfl rfl rfl rfl rfl rfl rfl rfl) fN) ?_
  refine Qp (Ep [_,.bool _]) ?_
  refine Qe (Al (l:=[.sl 1 [],.bool false]) (by kernel_rfl)) ?_
  rintro _ _ ⟨b11,rfl,rfl⟩
  refine Cm 0 [_,.bool _] (_::_) ?_
  refine Ag (AW.seq (Ah (Qp C4 ?_)))
  refine Qp (Ak (n:=es.length) Ai rfl rfl rfl (by simp)) ?_
  refine Qp A0 (Ag (AW.block ?_))
  refine AW.Aae (fun (p:Nat×Cs)=>(⟨[(9,.ptr (Co T V)),(11,.val (.pointer (some ⟨b11,0,none⟩))),(27,.sl 8 (es.map Fu)),(28,.int .i64 es.length),(29,.int .i64 (p.1:Int))],.box b11 103 (Ej p.2)::H,47⟩:St)) (fun (p:Nat×Cs)=>p.1≤es.length∧Ke T V (es.take p.1) ([[]],true)=p.2∧csOK (64*p.1) p.2∧Jm T V 64 p.2) (fun (p:Nat×Cs)=>es.length-p.1) ((0,([[]],true))) ?_ (GS.weaken ⟨rfl,rfl,rfl,rfl,rfl,trivial⟩ (.refl _)) ?_
  · exact ⟨Nat.zero_le _,rfl,wI,qM⟩
  ·
   rintro p hR
   refine Ah (Qp Cj (Ag (AW.seq (A3 (fun hc2=>?_) fun hc2=>?_))))
   ·
    obtain ⟨e,he⟩:=B2 hc2
    have hlt:=A9 he
    have hem:=List.mem_of_getElem? he
    have hke:=(hcz.2 e hem).1
    have hkz:=Is hke
    refine Bx (AW.seq (AW.block (Ah ?_)))
    refine Qp (Af (c:=[Iq _,_,Iq _,Iq _,Iq _,Iq _,Iq _,.str _]) Ai rfl rfl rfl rfl rfl rfl (by omega) (E9 he)) ?_
    refine Qp D0 ?_
    refine Qe (Al (l:=[.int .i64 0,.sl 8 [],.int .i64 0,.int .i64 0,.int .i64 0,.int .i64 0,.int .i64 0,.str []]) (by kernel_rfl)) ?_
    rintro _ _ ⟨b13,rfl,rfl⟩
    refine Cm 0 [Iq _,_,Iq _,Iq _,Iq _,Iq _,Iq _,.str _] (_::_::_) ?_
    refine AOL.ghost (GS.Aad (t:=13) 0 rfl rfl) ?_
    refine Ag ?_
    refine AW.draw mixed (fun H'=>_∈H') (List.mem_of_getElem? (i:=0) rfl) (by kernel_rfl) ?_
    refine Qn 0 rfl (OpP.Aah (fun k=>Bz (k:=k) (l:=[_,.bool _]) Ai rfl rfl rfl rfl rfl) (fun _ h=>h)) ?_
    refine Qn 1 rfl (Ck [_,_]) (Qn 2 rfl D0 ?_)
    refine Qn 3 rfl (Qc rfl (Sd T V e hke.kok (Is hke) true)) ?_
    refine Qn 4 rfl (Qc rfl (Pt _ _ _ _ hR.2.2.1 (Gj e hke.kok true) (by omega) (by have:=Is hke;omega))) ?_
    refine Jv.last _ _ 5 _ _ rfl (by kernel_rfl) rfl rfl (C6 (k:=0) (v:=.agg _) (cs':=[_,.bool _]) (H2:=_::_) Ai rfl rfl rfl rfl (rfl) rfl rfl rfl rfl) (by kernel_rfl) ?_
    rintro _ _ ⟨rfl,rfl⟩
    refine Bq (Ae (AW.region (Qp Fv (Qp A0 (Ag ?_)))))
    refine ⟨(p.1+1,El p.2 (Da T V e true)),?_,?_,GS.weaken ⟨rfl,rfl,rfl,rfl,rfl,trivial⟩ (.refl _)⟩
    · exact ⟨hlt,by unfold Ke;rw [Cq he,List.foldl_append];exact congrArg (fun z=>El z (Da T V e true)) hR.2.1,(Lq hR.2.2.1 (Gj e hke.kok true)).mono (by simp only;omega),L6 hR.2.2.2 (Kg (Py e hke.kok true) hkz)⟩
    · simp only;omega
   ·
    have hte:=C3 hc2
    have hpr:=hR.2.1
    rw [hte] at hpr
    have hvo:vOK T V p.2:=vA hR.2.2.1 hR.2.2.2 (by have:=hR.1;omega)
    refine AW.exit ?_
    refine A6 (A6 (Bv (Ae (Ah (Qp (Ck [_,_]) ?_)))))
    refine AOL.Aai (Bz (k:=0) (l:=[_,.bool _]) Ai rfl rfl rfl rfl rfl) rfl rfl ?_
    refine Qp (Qc rfl (Zk T hst V hty hvl _ hvo)) ?_
    refine Qp Mv (Qp Jn (Qp Qxs (Qp At (Qp Wj (Df (Qp A0 (Qp C4 (Qp At (Qp Wj ?_)))))))))
    refine Qp At (Ag (AW.ret ?_))
    refine ⟨.inr rfl,[Iq _,.sl _ _,Iq _],.cons (.tmp _ _ rfl) <| .cons (.tmp _ _ rfl) <| .cons (.tmp _ _ rfl) <| .nil,.cons _ (.refl _),?_⟩
    exact Eq.trans rfl (congrArg (fun q:Int×List Ev×Int=>AV.tuple [.int .i64 q.1,.sl 5 (q.2.1.map Ph),.int .i64 q.2.2]) (wF hc1 hpr)).symm
theorem Ui (T:List Sc)(hl:T.length≤1048576)(hst:∀s∈T,Jk s)(V:List Va)(hvl:V.length≤1048576)(a b:Ex)(ha:Ar a≤1048576)(hb:Ar b≤1048576):Av Tryz.prog 24 [.sl 2 (T.map Nz),.sl 2 (V.map Un),.agg (cE a),.agg (cE b)] (.tuple [.int .i64 (C9 T V a b).1,.int .i64 (C9 T V a b).2]):=by
 refine Av.body (n:=43) Ai Tryz.func24 rfl rfl rfl fun H=>?_
 refine Ah (Qp K8 (Qp K8 (Qp At (Qp At (Df (Qp C4 (Qp C4 (Qp (Ep [_,_]) ?_))))))))
 refine Qe (Al (l:=[.sl 2 [],.sl 2 []]) (by kernel_rfl)) ?_
 rintro _ _ ⟨b10,rfl,rfl⟩
 refine Cm 0 [_,_] (_::_) ?_
 refine AOL.ghost (GS.Aad (t:=10) 0 rfl rfl) ?_
 refine Ag (AW.seq (Ah (Qp (Ck [_,_]) (Qp D0 (Qp D0 ?_)))))
 refine Qp (Az (es:=[[Iq _,_,Iq _,Iq _,Iq _,Iq _,Iq _,.str _],[Iq _,_,Iq _,Iq _,Iq _,Iq _,Iq _,.str _]]) Ai rfl rfl rfl rfl rfl rfl rfl rfl rfl) ?_
 refine Qp (Qc rfl (Y7 T hl hst V hvl [a,b] (by show (2:Nat)≤_;decide) (rC ha hb))) ?_
 refine Qp At (Df (Qp A0 (Qp Cr (Ag (A3 (fun hc1=>?_) fun hc1=>?_)))))
 ·
  refine Ah (Qp A0 (Qp At (Qp At (Ag (Dr ?_)))))
  refine Km (Iq _) (Iq _) ?_
  exact Eq.trans rfl (congrArg (fun q:Int×Int=>AV.tuple [.int .i64 q.1,.int .i64 q.2]) (Imp_1 hc1)).symm
 ·
  have hcz:=Yo hc1
  have hty:=jI hc1
  have hka:=(hcz.2 a (List.mem_cons_self ..)).1
  have hkb:=(hcz.2 b (List.mem_cons_of_mem _ (List.mem_cons_self ..))).1
  have hza:=Is hka
  have hzb:=Is hkb
  have hvo:vOK T V (K4 T V a b):=vA (Lq (Gj a hka.kok true) (Gj b hkb.kok false)) (L6 (Kg (Py a hka.kok true) hza) (Kg (Py b hkb.kok false) hzb)) (by omega)
  refine Bx (AW.seq ?_)
  refine AW.draw mixed (fun _=>True) trivial (by kernel_rfl) ?_
  refine Qn 0 rfl (Ck [_,_]) (Qn 1 rfl (Ck [_,_]) (Qn 2 rfl D0 ?_))
  refine Qn 3 rfl (Qc rfl (Sd T V a hka.kok (Is hka) true)) ?_
  refine Qn 4 rfl (Ck [_,_]) (Qn 5 rfl D0 ?_)
  refine Qn 6 rfl (Qc rfl (Sd T V b hkb.kok (Is hkb) false)) ?_
  refine Qn 7 rfl (Qc rfl (Pt _ _ _ _ (Gj a hka.kok true) (Gj b hkb.kok false) (by have:=Is hka;omega) (by have:=Is hkb;omega))) ?_
  refine Qn 8 rfl (Qc rfl (Zk T hst V hty hvl _ hvo)) ?_
  refine Qn 9 rfl Mv (Qn 10 rfl Jn (Qn 11 rfl Qxs (Qn 12 rfl At (Qn 13 rfl Wj ?_))))
  refine Jv.done _ _ (by kernel_rfl) ?_
  refine Ae (AW.seq (Ah (Qp A0 (Ag (AW.block (Ah (Qp A5 (Qp Be (Ag (A3 (fun hc2=>?_) fun hc2=>?_))))))))))
  ·
   refine Ah (Qp At (Qp At (Ag (AW.ret (Ba (Aj ?_))))))
   refine Km (Iq _) (Iq _) ?_
   exact Eq.trans rfl (congrArg (fun q:Int×Int=>AV.tuple [.int .i64 q.1,.int .i64 q.2]) (Imp_2 hc1 hc2)).symm
  ·
   refine Ah (Qp A5 (Qp Be (Ag (A3 (fun hc3=>?_) fun hc3=>?_))))
   ·
    refine Ah (Qp At (Qp At (Ag (AW.ret (Ba (Aj ?_))))))
    refine Km (Iq _) (Iq _) ?_
    exact Eq.trans rfl (congrArg (fun q:Int×Int=>AV.tuple [.int .i64 q.1,.int .i64 q.2]) (Imp_3 hc1 hc2 hc3)).symm
   ·
    refine AW.skip (Bq (Ae (Ah (Qp A0 (Qp At (Qp At (Ag (AW.ret ?_))))))))
    refine Km (Iq _) (Iq _) ?_
    exact Eq.trans rfl (congrArg (fun q:Int×Int=>AV.tuple [.int .i64 q.1,.int .i64 q.2]) (Imp_4 hc1 hc2 hc3)).symm

set_option maxHeartbeats 1600000
set_option maxRecDepth 20000

theorem Xs (a b:List Lit)(ha:a.length≤1048576)(hs:∀x∈a,Ar x.cond≤1048576):Av Tryz.prog 55 [.sl 9 (a.map G3),.sl 9 (b.map G3)] (.bool (F1 a b)):=by
 refine Av.body (n:=42) Ai Tryz.func55 rfl rfl rfl fun H=>?_
 refine Ah (Qp Be (Ag (AW.seq (Ah (Qp C4 ?_)))))
 refine Qp (Ak (n:=a.length) Ai rfl rfl rfl (by simp)) ?_
 refine Qp C4 ?_
 refine Qp (Ak (n:=b.length) Ai rfl rfl rfl (by simp)) ?_
 refine Qp Cr (Ag (A3 (fun hc1=>?_) fun hc1=>?_))
 ·
  refine Ah (Qp Be (Ag (Dr ?_)))
  refine Qr (.bool _) ?_
  exact Eq.trans rfl (congrArg (fun q:Bool=>AV.bool q) (dA hc1)).symm
 ·
  have hln:a.length=b.length:=by have h:=eq_of_beq (by simpa [bne] using hc1:((a.length:Int)==(b.length:Int))=true);omega
  refine Bx (AW.seq (Ah (Qp At (Ag (AW.block ?_)))))
  refine AW.Aae (fun (k:Nat)=>(⟨[(0,.sl 9 (a.map G3)),(1,.sl 9 (b.map G3)),(4,.bool false),(5,.int .i64 (k:Int))],H,42⟩:St)) (fun (k:Nat)=>k≤a.length∧a.take k=b.take k) (fun (k:Nat)=>a.length-k) (0) ?_ (GS.weaken ⟨rfl,rfl,rfl,rfl,trivial⟩ (.refl _)) ?_
  · simp
  ·
   rintro k hR
   refine AW.seq (Ah (Qp A0 (Qp C4 ?_)))
   refine Qp (Ak (n:=a.length) Ai rfl rfl rfl (by simp)) ?_
   refine Qp Cj (Ag (A3 (fun hc2=>?_) fun hc2=>?_))
   ·
    obtain ⟨x,hx⟩:=B2 hc2
    have hlx:=A9 hx
    obtain ⟨y,hy⟩:∃y,b[k]? = some y:=⟨_,List.getElem?_eq_getElem (by omega)⟩
    have hly:=A9 hy
    refine Bx (AW.seq (AW.block (AW.seq ?_)))
    refine AW.draw mixed (fun _=>True) trivial (by kernel_rfl) ?_
    refine Qn 0 rfl C4 (Qn 1 rfl A0 ?_)
    refine Qn 2 rfl (Af (c:=[Iq _,_,Iq _,Iq _,Iq _,Iq _,Iq _,.str _,.bool _]) Ai rfl rfl rfl rfl rfl rfl (by omega) (Bh hx)) ?_
    refine Qn 3 rfl (Qf [.bool _]) (Qn 4 rfl jV (Qn 5 rfl C4 (Qn 6 rfl A0 ?_)))
    refine Qn 7 rfl (Af (c:=[Iq _,_,Iq _,Iq _,Iq _,Iq _,Iq _,.str _,.bool _]) Ai rfl rfl rfl rfl rfl rfl (by omega) (Bh hy)) ?_
    refine Qn 8 rfl (Qf [.bool _]) (Qn 9 rfl jV ?_)
    refine Qn 10 rfl (Rn Ai rfl rfl rfl rfl) ?_
    refine Qn 11 rfl Bp (Qo 12 rfl [] Qw C4 (Qo 13 rfl [] Qw A0 ?_))
    refine Jv.pure _ _ 14 _ _ rfl (by kernel_rfl) (by kernel_rfl) rfl (.opt _ (.ptr _) [(29,_),(30,_)] rfl (rX.all ⟨Ent.Aac _ _,Ent.Aac _ _,trivial⟩) (fun hG=>Af (c:=[Iq _,_,Iq _,Iq _,Iq _,Iq _,Iq _,.str _,.bool _]) Ai rfl rfl rfl rfl rfl rfl (by omega) (Bh hx)) rfl) ?_
    refine Qo 15 rfl [(31,_)] Qw (Qf [Iq _,_,Iq _,Iq _,Iq _,Iq _,Iq _,.str _,.bool _]) (Qo 16 rfl [(32,_)] Qw D0 (Qo 17 rfl [] Qw C4 (Qo 18 rfl [] Qw A0 ?_)))
    refine Jv.pure _ _ 19 _ _ rfl (by kernel_rfl) (by kernel_rfl) rfl (.opt _ (.ptr _) [(34,_),(35,_)] rfl (rX.all ⟨Ent.Aac _ _,Ent.Aac _ _,trivial⟩) (fun hG=>Af (c:=[Iq _,_,Iq _,Iq _,Iq _,Iq _,Iq _,.str _,.bool _]) Ai rfl rfl rfl rfl rfl rfl (by omega) (Bh hy)) rfl) ?_
    refine Qo 20 rfl [(36,_)] Qw (Qf [Iq _,_,Iq _,Iq _,Iq _,Iq _,Iq _,.str _,.bool _]) (Qo 21 rfl [(37,_)] Qw D0 ?_)
    refine Jv.pure _ _ 22 _ _ rfl (by kernel_rfl) (by kernel_rfl) rfl (.opt _ (.bool _) [(33,_),(38,_)] rfl (rX.all ⟨Ent.Aac _ _,Ent.Aac _ _,trivial⟩) (fun hG=>C7 (by kernel_rfl) rfl rfl (c20 x.cond y.cond (hs x (List.mem_of_getElem? hx)))) rfl) ?_
    refine Qo 23 rfl [(39,_)] Qw Ge (Qn 24 rfl E2 ?_)
    refine Jv.done _ _ (by kernel_rfl) ?_
    refine Ae (A3 (fun hc3=>?_) fun hc3=>?_)
    ·
     refine Ah (Qp Be (Ag (AW.ret (Ba (Aj (Aj (Ba (Aj ?_))))))))
     refine Qr (.bool _) ?_
     exact Eq.trans rfl (congrArg (fun q:Bool=>AV.bool q) (bG hx hy hc3)).symm
    ·
     refine AW.skip (Bq (Ae (AW.region (Qp A0 (Qp Fv (Qp At (Ag ?_)))))))
     refine ⟨k+1,?_,?_,GS.weaken ⟨rfl,rfl,rfl,rfl,trivial⟩ (.refl _)⟩
     · exact ⟨hlx,by rw [Cq hx,Cq hy,hR.2,vO hc3]⟩
     · omega
   ·
    have hte:=C3 hc2
    have hall:=hR.2
    rw [hte] at hall
    have htb:b.take k=b:=List.take_of_length_le (by have:¬k<a.length:=(by simpa using hc2);omega)
    rw [htb] at hall
    refine AW.exit ?_
    refine A6 (A6 (Bv (Ae (Ah (Qp Be (Ag (AW.ret ?_)))))))
    refine Qr (.bool _) ?_
    exact Eq.trans rfl (congrArg (fun q:Bool=>AV.bool q) ((F2 a b).2 hall)).symm
theorem Y9 (a b:List (List Lit))(ha:a.length≤1048576)(hal:∀c∈a,c.length≤1048576)(hs:∀c∈a,∀x∈c,Ar x.cond≤1048576):Av Tryz.prog 15 [.sl 1 (a.map Pu),.sl 1 (b.map Pu)] (.bool (J5 a b)):=by
 refine Av.body (n:=27) Ai Tryz.func15 rfl rfl rfl fun H=>?_
 refine Ah (Qp Be (Ag (AW.seq (Ah (Qp C4 ?_)))))
 refine Qp (Ak (n:=a.length) Ai rfl rfl rfl (by simp)) ?_
 refine Qp C4 ?_
 refine Qp (Ak (n:=b.length) Ai rfl rfl rfl (by simp)) ?_
 refine Qp Cr (Ag (A3 (fun hc1=>?_) fun hc1=>?_))
 ·
  refine Ah (Qp Be (Ag (Dr ?_)))
  refine Qr (.bool _) ?_
  exact Eq.trans rfl (congrArg (fun q:Bool=>AV.bool q) (gX hc1)).symm
 ·
  have hln:a.length=b.length:=by have h:=eq_of_beq (by simpa [bne] using hc1:((a.length:Int)==(b.length:Int))=true);omega
  refine Bx (AW.seq (Ah (Qp At (Ag (AW.block ?_)))))
  refine AW.Aae (fun (k:Nat)=>(⟨[(0,.sl 1 (a.map Pu)),(1,.sl 1 (b.map Pu)),(4,.bool false),(5,.int .i64 (k:Int))],H,27⟩:St)) (fun (k:Nat)=>k≤a.length∧a.take k=b.take k) (fun (k:Nat)=>a.length-k) (0) ?_ (GS.weaken ⟨rfl,rfl,rfl,rfl,trivial⟩ (.refl _)) ?_
  · simp
  ·
   rintro k hR
   refine AW.seq (Ah (Qp A0 (Qp C4 ?_)))
   refine Qp (Ak (n:=a.length) Ai rfl rfl rfl (by simp)) ?_
   refine Qp Cj (Ag (A3 (fun hc2=>?_) fun hc2=>?_))
   ·
    obtain ⟨x,hx⟩:=B2 hc2
    have hlx:=A9 hx
    obtain ⟨y,hy⟩:∃y,b[k]? = some y:=⟨_,List.getElem?_eq_getElem (by omega)⟩
    have hly:=A9 hy
    refine Bx (AW.seq (AW.block (AW.seq ?_)))
    refine AW.draw mixed (fun _=>True) trivial (by kernel_rfl) ?_
    refine Qn 0 rfl C4 (Qn 1 rfl A0 ?_)
    refine Qn 2 rfl (Af (c:=[_]) Ai rfl rfl rfl rfl rfl rfl (by omega) (Bh hx)) ?_
    refine Qn 3 rfl Dk (Qn 4 rfl C4 (Qn 5 rfl A0 ?_))
    refine Qn 6 rfl (Af (c:=[_]) Ai rfl rfl rfl rfl rfl rfl (by omega) (Bh hy)) ?_
    refine Qn 7 rfl Dk ?_
    refine Qn 8 rfl (Qc rfl (Xs x y (hal x (List.mem_of_getElem? hx)) (hs x (List.mem_of_getElem? hx)))) ?_
    refine Qn 9 rfl Ge ?_
    refine Jv.done _ _ (by kernel_rfl) ?_
    refine Ae (A3 (fun hc3=>?_) fun hc3=>?_)
    ·
     refine Ah (Qp Be (Ag (AW.ret (Ba (Aj (Aj (Ba (Aj ?_))))))))
     refine Qr (.bool _) ?_
     exact Eq.trans rfl (congrArg (fun q:Bool=>AV.bool q) (fY hx hy hc3)).symm
    ·
     refine AW.skip (Bq (Ae (AW.region (Qp A0 (Qp Fv (Qp At (Ag ?_)))))))
     refine ⟨k+1,?_,?_,GS.weaken ⟨rfl,rfl,rfl,rfl,trivial⟩ (.refl _)⟩
     · exact ⟨hlx,by rw [Cq hx,Cq hy,hR.2,zF hc3]⟩
     · omega
   ·
    have hte:=C3 hc2
    have hall:=hR.2
    rw [hte] at hall
    have htb:b.take k=b:=List.take_of_length_le (by have:¬k<a.length:=(by simpa using hc2);omega)
    rw [htb] at hall
    refine AW.exit ?_
    refine A6 (A6 (Bv (Ae (Ah (Qp Be (Ag (AW.ret ?_)))))))
    refine Qr (.bool _) ?_
    exact Eq.trans rfl (congrArg (fun q:Bool=>AV.bool q) ((Kh a b).2 hall)).symm


end Go.Proofs.YtkddpedfbicbeaaGreatDoor
