/-
  Walks of patterns: through all nodes. No condition.
-/
import Derived.Test.YtckhoadldibflaaGreatDoorK01
import Derived.Test.YtckhoadldibflaaGreatDoorK15
import Derived.Test.YtckhoadldibflaaGreatDoorR8w
import Derived.Test.YtckhoadldibflaaGreatDoorK14
import Derived.KernelRfl
namespace Go.Proofs.YtckhoadldibflaaGreatDoor
open Go Go.Aw
set_option maxHeartbeats 6400000
set_option maxRecDepth 20000
set_option linter.unusedVariables false
set_option linter.unusedSimpArgs false

theorem nU (p:Pt)(hp:medP p)(H:List HO):Bw Tryz.prog 186 H [.agg (cPt p)] (fun r H'=>r = .int .i64 (Jg p)∧H'=H):=by
 refine Bw.bodyX (n:=24) tok Tryz.func186 rfl rfl rfl ?_
 refine AWX.seq ?_
 refine AW.region (Qp (Eu [Iq _,_,Iq _,Iq _,Iq _,Iq _,Iq _,_,Iq _,Iq _,Iq _,Iq _,Iq _,.str _]) ?_)
 refine Qe (An (l:=[.int .i64 0]) (by kernel_rfl)) ?_
 rintro _ _ ⟨b2,rfl,rfl⟩
 refine Aa ?_
 refine AWX.seq ?_
 refine AW.region (Qp (B2 [Iq _,_,Iq _,Iq _,Iq _,Iq _,Iq _,_,Iq _,Iq _,Iq _,Iq _,Iq _,.str _]) ?_)
 refine Qp (Qc rfl (tO p hp.n)) ?_
 refine Qp L0 (Qp Jw (Qp Jw (Qp A0 (Qp A0 (Aa ?_)))))
 refine AWX.seq ?_
 refine Ad (Qp A4 (Qp D2 (Aa (Au (fun hc1=>?_) fun hc1=>?_))))
 ·
  refine Ad ?_
  refine B0 0 [Iq _] (_::_) ?_
  refine Aa (Cx ?_)
  refine ⟨.inr rfl,[Iq _],.cons (.boxs _ _ _ 0 _ _ _ rfl _ rfl rfl rfl) <| .nil,_,.cons _ (.refl _),?_⟩
  exact ⟨congrArg (AV.int .i64) (wJ hc1).symm,rfl⟩
 ·
  refine Bl ?_
  refine AWX.seq ?_
  refine Ad (Qp A4 (Qp D2 (Aa (Au (fun hc2=>?_) fun hc2=>?_))))
  ·
   refine Ad ?_
   refine B0 0 [Iq _] (_::_) ?_
   refine Aa (Cx ?_)
   refine ⟨.inr rfl,[Iq _],.cons (.boxs _ _ _ 0 _ _ _ rfl _ rfl rfl rfl) <| .nil,_,.cons _ (.refl _),?_⟩
   exact ⟨congrArg (AV.int .i64) (wA hc1 hc2).symm,rfl⟩
  ·
   refine Bl ?_
   refine AWX.assoc ?_
   refine AW.region (Qp (B2 [Iq _,_,Iq _,Iq _,Iq _,Iq _,Iq _,_,Iq _,Iq _,Iq _,Iq _,Iq _,.str _]) ?_)
   refine Qp (Qc rfl (dJ p)) ?_
   refine Aa ?_
   refine AWX.rangeE tok (fun H2=>Ca Uw (Ga p)=0∧H2 = .box b2 41 [.int .i64 0]::H) (fun H2=>Ca Uw (Ga p)≠0∧H2 = .box b2 41 [.int .i64 (Ca Uw (Ga p))]::H) rfl (by kernel_rfl) (fun rec D l hst hpe hps has hbo hsz htm=>?_) (fun D H2 hZ=>?_) (fun D H2 hY=>?_)
   ·
    refine Bw.post (Yb Int (fun e=>e==0) (fun _ q=>Uw q) (fun _ _=>True) (fun _ _ _ _ _=>trivial) (fun _ _ _ _=>trivial) (fun q=>Cq q.cond≤1048576∧q.args.length≤1048576) (fun e:Int=>(.obj l (.loop (if (e==0)=true then rec else { rec with state:=.done,pending:=some .ret })) :: .obj D (.deferred (some [])) :: .box b2 41 [.int .i64 e]::H:List HO)) l rec (by rw [hps];rfl) (fun e he=>⟨0,by show some (HO.obj l (.loop (if (e==0)=true then rec else { rec with state:=.done,pending:=some .ret })))=_;rw [if_pos he]⟩) (fun e q n he hq _=>?_) p hp.n (hp.len) 0 0 rfl trivial) ?_
    ·
     obtain rfl:e=0:=by simpa using he
     show K5 _ l rec (.obj l (.loop rec) :: .obj D (.deferred (some [])) :: .box b2 41 [.int .i64 0]::H) _ _
     refine K5.ofE2 ((18,.agg (cPt q)) :: [(2,Value.pointer (some ⟨b2,0,none⟩))].map fun p=>(p.1,.val p.2)) hst hpe hsz (by rw [hps];exact xL hsz rfl ⟨htm 2 _ rfl,trivial⟩) has hbo ?_
     refine aZ.region (by kernel_rfl) ?_
     refine Qe (An (l:=[.int .i64 0,.sl 14 [],.int .i64 0,.int .i64 0,.int .i64 0,.int .i64 0,.int .i64 0,.sl 8 [],.int .i64 0,.int .i64 0,.int .i64 0,.int .i64 0,.int .i64 0,.str []]) (by kernel_rfl)) ?_
     rintro _ _ ⟨b5,rfl,rfl⟩
     refine B0 0 [Iq _,_,Iq _,Iq _,Iq _,Iq _,Iq _,_,Iq _,Iq _,Iq _,Iq _,Iq _,.str _] (_::_::_::_::_) ?_
     refine AOL.ghost (GS.freeze (t:=5) 0 rfl rfl) ?_
     refine AOL.nil ?_
     refine ⟨rfl,0,rfl,?_⟩
     refine aZ.block ?_
     refine aZ.seq ?_
     refine aZ.region (by kernel_rfl) ?_
     refine Qp (B2 [Iq _,_,Iq _,Iq _,Iq _,Iq _,Iq _,_,Iq _,Iq _,Iq _,Iq _,Iq _,.str _]) ?_
     refine Qp (Qc rfl (oB q hq.1 hq.2)) ?_
     refine Qp A0 (Aa ?_)
     refine aZ.seq ?_
     refine aZ.region (by kernel_rfl) ?_
     refine Qp A4 (Qp B9 (Aa ?_))
     refine aZ.cond (b:=_) rfl (fun hc3=>?_) (fun hc3=>?_)
     ·
      refine aZ.seq ?_
      refine aZ.region (by kernel_rfl) ?_
      refine Qp A4 ?_
      refine B0 2 [Iq _] (_::_::_::_) ?_
      refine Aa ?_
      refine aZ.ret ?_
      refine Ao ?_
      have h0:(Uw q==0)=false:=by simpa using hc3
      have hH:(fun e:Int=>(.obj l (.loop (if (e==0)=true then rec else { rec with state:=.done,pending:=some .ret })) :: .obj D (.deferred (some [])) :: .box b2 41 [.int .i64 e]::H:List HO)) (Uw q)=(.obj l (.loop { rec with state:=.done,pending:=some .ret }) :: .obj D (.deferred (some [])) :: .box b2 41 [.int .i64 (Uw q)]::H:List HO):=Eq.trans (congrArg (fun r:Loop=>(.obj l (.loop r) :: .obj D (.deferred (some [])) :: .box b2 41 [.int .i64 (Uw q)]::H:List HO)) (if_neg (by rw [h0];decide))) (congrArg (fun v:Int=>(.obj l (.loop { rec with state:=.done,pending:=some .ret }) :: .obj D (.deferred (some [])) :: .box b2 41 [.int .i64 v]::H:List HO)) (rfl))
      exact ⟨0,rfl,Or.inr ⟨rfl,congrArg AV.bool h0.symm,hH.symm⟩⟩
     ·
      refine aZ.skip ?_
      refine Bc ?_
      have h0:Uw q=0:=by simpa using hc3
      exact ⟨0,rfl,Or.inl ⟨rfl,congrArg AV.bool (by rw [h0];rfl),congrArg (fun e:Int=>(.obj l (.loop (if (e==0)=true then rec else { rec with state:=.done,pending:=some .ret })) :: .obj D (.deferred (some [])) :: .box b2 41 [.int .i64 e]::H:List HO)) h0.symm⟩⟩
    ·
     rintro r K ⟨rfl,rfl⟩
     have hfin:=Q8 Uw (Ga p)
     by_cases h0:Ca Uw (Ga p)=0
     · exact ⟨_,List.Perm.refl _,rec,_,congrArg (fun e:Int=>(.obj l (.loop (if (e==0)=true then rec else { rec with state:=.done,pending:=some .ret })) :: .obj D (.deferred (some [])) :: .box b2 41 [.int .i64 e]::H:List HO)) (hfin.trans h0),by rw [hst];decide,Or.inl ⟨hpe,h0,rfl⟩⟩
     · exact ⟨_,List.Perm.refl _,{ rec with state:=.done,pending:=some .ret },.box b2 41 [.int .i64 (Ca Uw (Ga p))]::H,(congrArg (fun e:Int=>(.obj l (.loop (if (e==0)=true then rec else { rec with state:=.done,pending:=some .ret })) :: .obj D (.deferred (some [])) :: .box b2 41 [.int .i64 e]::H:List HO)) hfin).trans (congrArg (fun r:Loop=>(.obj l (.loop r) :: .obj D (.deferred (some [])) :: .box b2 41 [.int .i64 (Ca Uw (Ga p))]::H:List HO)) (if_neg (by simpa using h0))),(fun h=>LoopState.noConfusion h),Or.inr ⟨rfl,h0,rfl⟩⟩
   ·
    obtain ⟨h0,rfl⟩:=hZ
    refine yQ.region ?_
    refine B0 1 [Iq _] (_::_::_) ?_
    refine AOL.nil ?_
    exact ⟨0,rfl,[_],.cons (.boxs _ _ _ 1 _ _ _ rfl _ rfl rfl rfl) .nil,H,.cons _ (.cons _ (.refl _)),congrArg (AV.int .i64) (((jU hc1 hc2).trans h0).symm),rfl⟩
   ·
    obtain ⟨h0,rfl⟩:=hY
    exact ⟨_,GS.refl _,0,rfl,[_],.cons (.boxs _ _ _ 1 _ _ _ rfl _ rfl rfl rfl) .nil,H,.cons _ (.cons _ (.refl _)),congrArg (AV.int .i64) ((jU hc1 hc2).symm),rfl⟩
theorem tY (p:Pt)(hp:medP p):Ap Tryz.prog 186 [.agg (cPt p)] (.int .i64 (Jg p)):=fun H=>nU p hp H
theorem iL (p:Pt)(hp:medP p)(H:List HO):Bw Tryz.prog 114 H [.agg (cPt p)] (fun r H'=>r = .int .i64 (Ml p)∧H'=H):=by
 refine Bw.bodyX (n:=16) tok Tryz.func114 rfl rfl rfl ?_
 refine AWX.seq ?_
 refine AW.region (Qp (Eu [Iq _,_,Iq _,Iq _,Iq _,Iq _,Iq _,_,Iq _,Iq _,Iq _,Iq _,Iq _,.str _]) ?_)
 refine Qe (An (l:=[.int .i64 0]) (by kernel_rfl)) ?_
 rintro _ _ ⟨b2,rfl,rfl⟩
 refine Aa ?_
 refine AWX.seq ?_
 refine Ad (Qp (B2 [Iq _,_,Iq _,Iq _,Iq _,Iq _,Iq _,_,Iq _,Iq _,Iq _,Iq _,Iq _,.str _]) ?_)
 refine Qp (Qc rfl (tY p hp)) ?_
 refine Qp A0 (By (Qp A4 (Qp B9 (Aa (Au (fun hc1=>?_) fun hc1=>?_)))))
 ·
  refine Ad (Qp A4 ?_)
  refine B0 0 [Iq _] (_::_) ?_
  refine Aa (Cx ?_)
  refine ⟨.inr rfl,[Iq _],.cons (.boxs _ _ _ 0 _ _ _ rfl _ rfl rfl rfl) <| .nil,_,.cons _ (.refl _),?_⟩
  exact ⟨congrArg (AV.int .i64) (vP hc1).symm,rfl⟩
 ·
  refine Bl ?_
  refine AWX.assoc ?_
  refine AW.region (Qp (B2 [Iq _,_,Iq _,Iq _,Iq _,Iq _,Iq _,_,Iq _,Iq _,Iq _,Iq _,Iq _,.str _]) ?_)
  refine Qp (Qc rfl (dJ p)) ?_
  refine Aa ?_
  refine AWX.rangeE tok (fun H2=>Ca aT (Ga p)=0∧H2 = .box b2 41 [.int .i64 0]::H) (fun H2=>Ca aT (Ga p)≠0∧H2 = .box b2 41 [.int .i64 (Ca aT (Ga p))]::H) rfl (by kernel_rfl) (fun rec D l hst hpe hps has hbo hsz htm=>?_) (fun D H2 hZ=>?_) (fun D H2 hY=>?_)
  ·
   refine Bw.post (Yb Int (fun e=>e==0) (fun _ q=>aT q) (fun _ _=>True) (fun _ _ _ _ _=>trivial) (fun _ _ _ _=>trivial) (fun q=>True) (fun e:Int=>(.obj l (.loop (if (e==0)=true then rec else { rec with state:=.done,pending:=some .ret })) :: .obj D (.deferred (some [])) :: .box b2 41 [.int .i64 e]::H:List HO)) l rec (by rw [hps];rfl) (fun e he=>⟨0,by show some (HO.obj l (.loop (if (e==0)=true then rec else { rec with state:=.done,pending:=some .ret })))=_;rw [if_pos he]⟩) (fun e q n he hq _=>?_) p hp.n (fun _ _=>trivial) 0 0 rfl trivial) ?_
   ·
    obtain rfl:e=0:=by simpa using he
    show K5 _ l rec (.obj l (.loop rec) :: .obj D (.deferred (some [])) :: .box b2 41 [.int .i64 0]::H) _ _
    refine K5.ofE2 ((12,.agg (cPt q)) :: [(2,Value.pointer (some ⟨b2,0,none⟩))].map fun p=>(p.1,.val p.2)) hst hpe hsz (by rw [hps];exact xL hsz rfl ⟨htm 2 _ rfl,trivial⟩) has hbo ?_
    refine aZ.region (by kernel_rfl) ?_
    refine Qe (An (l:=[.int .i64 0,.sl 14 [],.int .i64 0,.int .i64 0,.int .i64 0,.int .i64 0,.int .i64 0,.sl 8 [],.int .i64 0,.int .i64 0,.int .i64 0,.int .i64 0,.int .i64 0,.str []]) (by kernel_rfl)) ?_
    rintro _ _ ⟨b4,rfl,rfl⟩
    refine B0 0 [Iq _,_,Iq _,Iq _,Iq _,Iq _,Iq _,_,Iq _,Iq _,Iq _,Iq _,Iq _,.str _] (_::_::_::_::_) ?_
    refine AOL.ghost (GS.freeze (t:=4) 0 rfl rfl) ?_
    refine AOL.nil ?_
    refine ⟨rfl,0,rfl,?_⟩
    refine aZ.block ?_
    refine aZ.seq ?_
    refine aZ.region (by kernel_rfl) ?_
    refine Qp (Qf [Iq _,_,Iq _,Iq _,Iq _,Iq _,Iq _,_,Iq _,Iq _,Iq _,Iq _,Iq _,.str _]) (Qp Bt (Qp F6 (Aa ?_)))
    refine aZ.cond (b:=_) rfl (fun hc2=>?_) (fun hc2=>?_)
    ·
     refine aZ.seq ?_
     refine aZ.region (by kernel_rfl) ?_
     refine B0 2 [Iq _] (_::_::_::_) ?_
     refine Aa ?_
     refine aZ.ret ?_
     refine Ao ?_
     have h0:(aT q==0)=false:=by rw [show aT q=1 from if_pos hc2];rfl
     have hH:(fun e:Int=>(.obj l (.loop (if (e==0)=true then rec else { rec with state:=.done,pending:=some .ret })) :: .obj D (.deferred (some [])) :: .box b2 41 [.int .i64 e]::H:List HO)) (aT q)=(.obj l (.loop { rec with state:=.done,pending:=some .ret }) :: .obj D (.deferred (some [])) :: .box b2 41 [.int .i64 (1)]::H:List HO):=Eq.trans (congrArg (fun r:Loop=>(.obj l (.loop r) :: .obj D (.deferred (some [])) :: .box b2 41 [.int .i64 (aT q)]::H:List HO)) (if_neg (by rw [h0];decide))) (congrArg (fun v:Int=>(.obj l (.loop { rec with state:=.done,pending:=some .ret }) :: .obj D (.deferred (some [])) :: .box b2 41 [.int .i64 v]::H:List HO)) ((if_pos hc2:aT q=1)))
     exact ⟨0,rfl,Or.inr ⟨rfl,congrArg AV.bool h0.symm,hH.symm⟩⟩
    ·
     refine aZ.skip ?_
     refine Bc ?_
     have h0:aT q=0:=Bu hc2
     exact ⟨0,rfl,Or.inl ⟨rfl,congrArg AV.bool (by rw [h0];rfl),congrArg (fun e:Int=>(.obj l (.loop (if (e==0)=true then rec else { rec with state:=.done,pending:=some .ret })) :: .obj D (.deferred (some [])) :: .box b2 41 [.int .i64 e]::H:List HO)) h0.symm⟩⟩
   ·
    rintro r K ⟨rfl,rfl⟩
    have hfin:=Q8 aT (Ga p)
    by_cases h0:Ca aT (Ga p)=0
    · exact ⟨_,List.Perm.refl _,rec,_,congrArg (fun e:Int=>(.obj l (.loop (if (e==0)=true then rec else { rec with state:=.done,pending:=some .ret })) :: .obj D (.deferred (some [])) :: .box b2 41 [.int .i64 e]::H:List HO)) (hfin.trans h0),by rw [hst];decide,Or.inl ⟨hpe,h0,rfl⟩⟩
    · exact ⟨_,List.Perm.refl _,{ rec with state:=.done,pending:=some .ret },.box b2 41 [.int .i64 (Ca aT (Ga p))]::H,(congrArg (fun e:Int=>(.obj l (.loop (if (e==0)=true then rec else { rec with state:=.done,pending:=some .ret })) :: .obj D (.deferred (some [])) :: .box b2 41 [.int .i64 e]::H:List HO)) hfin).trans (congrArg (fun r:Loop=>(.obj l (.loop r) :: .obj D (.deferred (some [])) :: .box b2 41 [.int .i64 (Ca aT (Ga p))]::H:List HO)) (if_neg (by simpa using h0))),(fun h=>LoopState.noConfusion h),Or.inr ⟨rfl,h0,rfl⟩⟩
  ·
   obtain ⟨h0,rfl⟩:=hZ
   refine yQ.region ?_
   refine B0 1 [Iq _] (_::_::_) ?_
   refine AOL.nil ?_
   exact ⟨0,rfl,[_],.cons (.boxs _ _ _ 1 _ _ _ rfl _ rfl rfl rfl) .nil,H,.cons _ (.cons _ (.refl _)),congrArg (AV.int .i64) (((vH hc1).trans h0).symm),rfl⟩
  ·
   obtain ⟨h0,rfl⟩:=hY
   exact ⟨_,GS.refl _,0,rfl,[_],.cons (.boxs _ _ _ 1 _ _ _ rfl _ rfl rfl rfl) .nil,H,.cons _ (.cons _ (.refl _)),congrArg (AV.int .i64) ((vH hc1).symm),rfl⟩
theorem lB (p:Pt)(hp:medP p):Ap Tryz.prog 114 [.agg (cPt p)] (.int .i64 (Ml p)):=fun H=>iL p hp H
theorem gI (p:Pt)(hp:medP p)(ho:∀q∈Ga p,mE q)(H:List HO):Bw Tryz.prog 65 H [.agg (cPt p)] (fun r H'=>r = .tuple [.int .i64 (Kg p).vars,.int .i64 (Kg p).scopes,.bool (Kg p).ok]∧H'=H):=by
 refine Bw.bodyX (n:=42) tok Tryz.func65 rfl rfl rfl ?_
 refine AWX.seq ?_
 refine AW.region (Qp (Eu [Iq _,_,Iq _,Iq _,Iq _,Iq _,Iq _,_,Iq _,Iq _,Iq _,Iq _,Iq _,.str _]) (Qp A0 (Qp A0 (Qp A3 (Aa ?_)))))
 refine AWX.seq ?_
 refine AW.region ?_
 refine Qe (An (l:=[.int .i64 0]) (by kernel_rfl)) ?_
 rintro _ _ ⟨b5,rfl,rfl⟩
 refine Qe (An (l:=[.int .i64 0]) (by kernel_rfl)) ?_
 rintro _ _ ⟨b6,rfl,rfl⟩
 refine Qe (An (l:=[.bool false]) (by kernel_rfl)) ?_
 rintro _ _ ⟨b7,rfl,rfl⟩
 refine B0 2 [Iq _] (_::_::_::_) ?_
 refine B0 1 [Iq _] (_::_::_::_) ?_
 refine B0 0 [.bool _] (_::_::_::_) ?_
 refine Aa ?_
 refine AWX.assoc ?_
 refine AW.region (Qp (B2 [Iq _,_,Iq _,Iq _,Iq _,Iq _,Iq _,_,Iq _,Iq _,Iq _,Iq _,Iq _,.str _]) ?_)
 refine Qp (Qc rfl (dJ p)) ?_
 refine Aa ?_
 refine AWX.rangeE tok (fun H2=>H2 = .box b7 4 [.bool (Kg p).ok] :: .box b6 3 [.int .i64 (Kg p).scopes] :: .box b5 3 [.int .i64 (Kg p).vars]::H) (fun H2=>False) rfl (by kernel_rfl) (fun rec D l hst hpe hps has hbo hsz htm=>?_) (fun D H2 hZ=>?_) (fun D H2 hY=>hY.elim)
 ·
  refine Bw.post (Yb Cnt (fun _=>true) Jz Vv pF kF mE (fun c:Cnt=>(.obj l (.loop rec) :: .obj D (.deferred (some [])) :: .box b7 4 [.bool c.ok] :: .box b6 3 [.int .i64 c.scopes] :: .box b5 3 [.int .i64 c.vars]::H:List HO)) l rec (by rw [hps];rfl) (fun e he=>⟨0,rfl⟩) (fun c q n he hq hc=>?_) p hp.n ho ⟨0,0,true⟩ 0 rfl (by have:=hp.n;exact ⟨Int.le_refl _,Int.le_refl _,by simp only;omega,by simp only;omega⟩)) ?_
  ·
   show K5 _ l rec (.obj l (.loop rec) :: .obj D (.deferred (some [])) :: .box b7 4 [.bool c.ok] :: .box b6 3 [.int .i64 c.scopes] :: .box b5 3 [.int .i64 c.vars]::H) _ _
   refine K5.ofE2 ((12,.agg (cPt q)) :: [(5,Value.pointer (some ⟨b5,0,none⟩)),(6,Value.pointer (some ⟨b6,0,none⟩)),(7,Value.pointer (some ⟨b7,0,none⟩))].map fun p=>(p.1,.val p.2)) hst hpe hsz (by rw [hps];exact xL hsz rfl ⟨htm 5 _ rfl,htm 6 _ rfl,htm 7 _ rfl,trivial⟩) has hbo ?_
   obtain ⟨hv0,hs0,hv1,hs1⟩:=hc
   refine (oO hq.1 hq.2).elim fun rest hrest=>?_
   refine aZ.region (by kernel_rfl) ?_
   refine Qe (An (l:=[.int .i64 0,.sl 14 [],.int .i64 0,.int .i64 0,.int .i64 0,.int .i64 0,.int .i64 0,.sl 8 [],.int .i64 0,.int .i64 0,.int .i64 0,.int .i64 0,.int .i64 0,.str []]) (by kernel_rfl)) ?_
   rintro _ _ ⟨b8,rfl,rfl⟩
   refine B0 0 [Iq _,_,Iq _,Iq _,Iq _,Iq _,Iq _,_,Iq _,Iq _,Iq _,Iq _,Iq _,.str _] (_::_::_::_::_::_::_) ?_
   refine AOL.ghost (GS.freeze (t:=8) 0 rfl rfl) ?_
   refine AOL.nil ?_
   refine ⟨rfl,0,rfl,?_⟩
   refine aZ.block ?_
   refine aZ.seq ?_
   refine aZ.region (by kernel_rfl) ?_
   refine Qp (Qf [Iq _,_,Iq _,Iq _,Iq _,Iq _,Iq _,_,Iq _,Iq _,Iq _,Iq _,Iq _,.str _]) (Qp Bt ?_)
   refine Qp (Kj (cs':=yO (Oj q.op)++rest) tok ⟨_,by simp [globals],fun _ h=>h⟩ rfl rfl rfl rfl (hq.1) (hq.2) hrest rfl) ?_
   refine Qp (B2 [Iq _,Iq _,.bool _,.bool _,.bool _,.bool _]) ?_
   refine Qe (An (l:=[.int .i64 0,.int .i64 0,.bool false,.bool false,.bool false,.bool false]) (by kernel_rfl)) ?_
   rintro _ _ ⟨b9,rfl,rfl⟩
   refine B0 0 [Iq _,Iq _,.bool _,.bool _,.bool _,.bool _] (_::_::_::_::_::_::_) ?_
   refine AOL.ghost (GS.freeze (t:=9) 0 rfl rfl) ?_
   refine Aa ?_
   refine aZ.seq ?_
   refine aZ.seq ?_
   refine aZ.region (by kernel_rfl) ?_
   refine Qp (Qf [.bool _,.bool _,.bool _,.bool _]) (Qp Yj (Aa ?_))
   refine aZ.cond (b:=_) rfl (fun hc1=>?_) (fun hc1=>?_)
   ·
    refine aZ.seq ?_
    refine aZ.region (by kernel_rfl) ?_
    refine AOL.Aaq (Aj (k:=2) (c:=.bool _) tok rfl rfl rfl rfl) rfl rfl ?_
    refine Qp Bq (Qg [] Qw (Qf [Iq _,Iq _,Iq _,Iq _,_,Iq _,Iq _,Iq _,Iq _,Iq _,.str _]) (Qg [(21,_)] Qw Bt ?_))
    refine AOL.gk (y:=Iq _) _ [] rfl (iB.all trivial) (fun hG=>Aj (k:=4) (c:=Iq _) tok rfl rfl rfl rfl) rfl rfl ?_
    refine AOL.Aap (y:=.bool _) _ [(22,_),(23,_)] rfl (iB.all ⟨Ent.Aao _ _,Ent.Aao _ _,trivial⟩) (fun hG=>Rv rfl rfl) rfl ?_
    refine Qp Et ?_
    refine B0 2 [.bool _] (_::_::_::_::_::_) ?_
    refine Aa ?_
    refine aZ.region (by kernel_rfl) ?_
    refine AOL.Aaq (Aj (k:=4) (c:=Iq _) tok rfl rfl rfl rfl) rfl rfl ?_
    refine Qp Ei ?_
    refine B0 4 [Iq _] (_::_::_::_::_::_) ?_
    refine Aa ?_
    refine aZ.seq ?_
    refine aZ.region (by kernel_rfl) ?_
    refine Qp (Qf [.bool _,.bool _]) (Qp Yj (Aa ?_))
    refine aZ.cond (b:=_) rfl (fun hc2=>?_) (fun hc2=>?_)
    ·
     refine aZ.seq ?_
     refine aZ.region (by kernel_rfl) ?_
     refine AOL.Aaq (Aj (k:=2) (c:=.bool _) tok rfl rfl rfl rfl) rfl rfl ?_
     refine Qp Bq (Qg [] Qw (Qf [Iq _,Iq _,Iq _,_,Iq _,Iq _,Iq _,Iq _,Iq _,.str _]) (Qg [(32,_)] Qw Bt ?_))
     refine AOL.gk (y:=Iq _) _ [] rfl (iB.all trivial) (fun hG=>Aj (k:=3) (c:=Iq _) tok rfl rfl rfl rfl) rfl rfl ?_
     refine AOL.Aap (y:=.bool _) _ [(33,_),(34,_)] rfl (iB.all ⟨Ent.Aao _ _,Ent.Aao _ _,trivial⟩) (fun hG=>Rv rfl rfl) rfl ?_
     refine Qp Et ?_
     refine B0 2 [.bool _] (_::_::_::_::_::_) ?_
     refine Aa ?_
     refine aZ.region (by kernel_rfl) ?_
     refine AOL.Aaq (Aj (k:=3) (c:=Iq _) tok rfl rfl rfl rfl) rfl rfl ?_
     refine Qp Ei ?_
     refine B0 3 [Iq _] (_::_::_::_::_::_) ?_
     refine AOL.nil (Bc ?_)
     exact ⟨0,rfl,Or.inl ⟨rfl,rfl,congrArg (fun c:Cnt=>(.obj l (.loop rec) :: .obj D (.deferred (some [])) :: .box b7 4 [.bool c.ok] :: .box b6 3 [.int .i64 c.scopes] :: .box b5 3 [.int .i64 c.vars]::H:List HO)) (stp_yy hc1 hc2)⟩⟩
    ·
     refine aZ.skip ?_
     refine Bc ?_
     exact ⟨0,rfl,Or.inl ⟨rfl,rfl,congrArg (fun c:Cnt=>(.obj l (.loop rec) :: .obj D (.deferred (some [])) :: .box b7 4 [.bool c.ok] :: .box b6 3 [.int .i64 c.scopes] :: .box b5 3 [.int .i64 c.vars]::H:List HO)) (yD hc1 hc2)⟩⟩
   ·
    refine aZ.skip ?_
    refine Af ?_
    refine aZ.seq ?_
    refine aZ.region (by kernel_rfl) ?_
    refine Qp (Qf [.bool _,.bool _]) (Qp Yj (Aa ?_))
    refine aZ.cond (b:=_) rfl (fun hc3=>?_) (fun hc3=>?_)
    ·
     refine aZ.seq ?_
     refine aZ.region (by kernel_rfl) ?_
     refine AOL.Aaq (Aj (k:=2) (c:=.bool _) tok rfl rfl rfl rfl) rfl rfl ?_
     refine Qp Bq (Qg [] Qw (Qf [Iq _,Iq _,Iq _,_,Iq _,Iq _,Iq _,Iq _,Iq _,.str _]) (Qg [(32,_)] Qw Bt ?_))
     refine AOL.gk (y:=Iq _) _ [] rfl (iB.all trivial) (fun hG=>Aj (k:=3) (c:=Iq _) tok rfl rfl rfl rfl) rfl rfl ?_
     refine AOL.Aap (y:=.bool _) _ [(33,_),(34,_)] rfl (iB.all ⟨Ent.Aao _ _,Ent.Aao _ _,trivial⟩) (fun hG=>Rv rfl rfl) rfl ?_
     refine Qp Et ?_
     refine B0 2 [.bool _] (_::_::_::_::_::_) ?_
     refine Aa ?_
     refine aZ.region (by kernel_rfl) ?_
     refine AOL.Aaq (Aj (k:=3) (c:=Iq _) tok rfl rfl rfl rfl) rfl rfl ?_
     refine Qp Ei ?_
     refine B0 3 [Iq _] (_::_::_::_::_::_) ?_
     refine AOL.nil (Bc ?_)
     exact ⟨0,rfl,Or.inl ⟨rfl,rfl,congrArg (fun c:Cnt=>(.obj l (.loop rec) :: .obj D (.deferred (some [])) :: .box b7 4 [.bool c.ok] :: .box b6 3 [.int .i64 c.scopes] :: .box b5 3 [.int .i64 c.vars]::H:List HO)) (zU hc1 hc3)⟩⟩
    ·
     refine aZ.skip ?_
     refine Bc ?_
     exact ⟨0,rfl,Or.inl ⟨rfl,rfl,congrArg (fun c:Cnt=>(.obj l (.loop rec) :: .obj D (.deferred (some [])) :: .box b7 4 [.bool c.ok] :: .box b6 3 [.int .i64 c.scopes] :: .box b5 3 [.int .i64 c.vars]::H:List HO)) (Aaa hc1 hc3)⟩⟩
  ·
   rintro r K ⟨rfl,rfl⟩
   exact ⟨_,List.Perm.refl _,rec,_,congrArg (fun c:Cnt=>(.obj l (.loop rec) :: .obj D (.deferred (some [])) :: .box b7 4 [.bool c.ok] :: .box b6 3 [.int .i64 c.scopes] :: .box b5 3 [.int .i64 c.vars]::H:List HO)) (dY (Ga p) ⟨0,0,true⟩:_=Kg p),by rw [hst];decide,Or.inl ⟨hpe,rfl⟩⟩
 ·
  obtain rfl:=hZ
  refine yQ.drawn ?_
  refine AWD.draw mixed (fun H'=>_∈H'∧_∈H'∧_∈H') ⟨(List.mem_of_getElem? (i:=3) rfl),(List.mem_of_getElem? (i:=2) rfl),(List.mem_of_getElem? (i:=1) rfl)⟩ (by kernel_rfl) ?_
  refine Qn 0 rfl (OpP.Aas (fun k=>Aj (k:=k) (c:=Iq _) tok rfl rfl rfl rfl) (fun _ h=>h.1)) ?_
  refine Qn 1 rfl (OpP.Aas (fun k=>Aj (k:=k) (c:=Iq _) tok rfl rfl rfl rfl) (fun _ h=>h.2.1)) ?_
  refine Qn 2 rfl (OpP.Aas (fun k=>Aj (k:=k) (c:=.bool _) tok rfl rfl rfl rfl) (fun _ h=>h.2.2)) ?_
  refine Qn 3 rfl A0 (Qn 4 rfl A0 (Qn 5 rfl A3 ?_))
  refine Hs.done _ _ (by kernel_rfl) ?_
  exact ⟨0,rfl,[_,_,_],.cons (.tmp _ _ rfl) (.cons (.tmp _ _ rfl) (.cons (.tmp _ _ rfl) .nil)),H,.cons _ (.cons _ (.cons _ (.cons _ (.refl _)))),rfl,rfl⟩
theorem nZ (p:Pt)(hp:medP p)(ho:∀q∈Ga p,mE q):Ap Tryz.prog 65 [.agg (cPt p)] (.tuple [.int .i64 (Kg p).vars,.int .i64 (Kg p).scopes,.bool (Kg p).ok]):=fun H=>gI p hp ho H
theorem nJ (p:Pt)(hp:medP p):Ap Tryz.prog 64 [.agg (cPt p)] (.int .i64 (Pv p)):=by
 refine Ap.body (n:=20) tok Tryz.func64 rfl rfl rfl fun H=>?_
 refine Ad (Qp (Eu [Iq _,_,Iq _,Iq _,Iq _,Iq _,Iq _,_,Iq _,Iq _,Iq _,Iq _,Iq _,.str _]) (Qp A0 (Aa (AW.seq (Ad (Qp (B2 [Iq _,_,Iq _,Iq _,Iq _,Iq _,Iq _,_,Iq _,Iq _,Iq _,Iq _,Iq _,.str _]) ?_))))))
 refine Qp (Qc rfl (lB p hp)) ?_
 refine Qp A0 (By (Qp A4 (Qp B9 (Aa (Au (fun hc1=>?_) fun hc1=>?_)))))
 ·
  refine Ad (Qp A4 (Qp A0 (Aa (Cx ?_))))
  refine Qr (Iq _) ?_
  exact Eq.trans rfl (congrArg (fun q:Int=>AV.int .i64 q) (chk_1 hc1)).symm
 ·
  refine Bl (AW.seq (Ad (Qp (B2 [Iq _,_,Iq _,Iq _,Iq _,Iq _,Iq _,_,Iq _,Iq _,Iq _,Iq _,Iq _,.str _]) ?_)))
  refine Qp (Qc rfl (nZ p hp (sW (whl_0 hc1)))) ?_
  refine Qp L0 (Qp Jw (Qp Jw (Qp cF (Qp A0 (Qp A0 (Qp A3 (By (Qp Bq (Qp Fz ?_)))))))))
  refine Aa (Au (fun hc2=>?_) fun hc2=>?_)
  ·
   refine Ad (Qp A0 (Aa (Cx ?_)))
   refine Qr (Iq _) ?_
   exact Eq.trans rfl (congrArg (fun q:Int=>AV.int .i64 q) (chk_2 hc1 hc2)).symm
  ·
   refine Bl (Ad (Qp A0 (Aa (AW.ret ?_))))
   refine Qr (Iq _) ?_
   exact Eq.trans rfl (congrArg (fun q:Int=>AV.int .i64 q) (chk_3 hc1 hc2)).symm
end Go.Proofs.YtckhoadldibflaaGreatDoor
