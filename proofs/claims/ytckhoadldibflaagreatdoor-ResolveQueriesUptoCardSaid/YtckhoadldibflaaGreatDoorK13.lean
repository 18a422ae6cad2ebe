/-
  Several texts in one: R9w, R10w, C13, W13b. No condition.
-/
import Derived.Test.YtckhoadldibflaaGreatDoorK01
import Derived.Test.YtckhoadldibflaaGreatDoorK08
import Derived.Test.YtckhoadldibflaaGreatDoorK12
import Derived.KernelRfl
import Derived.Test.YtckhoadldibflaaGreatDoorK10
import Derived.Test.YtckhoadldibflaaGreatDoorK03
import Derived.Test.YtckhoadldibflaaGreatDoorTab
import Derived.Test.YtckhoadldibflaaGreatDoorAx
import Derived.Lib.ItoaLen
import Derived.Test.YtckhoadldibflaaGreatDoorK06
set_option linter.unusedVariables false
set_option linter.unusedSimpArgs false
namespace Go.Proofs.YtckhoadldibflaaGreatDoor
open Go Go.Aw
set_option maxHeartbeats 6400000
set_option maxRecDepth 20000

theorem vM (p:Pt)(hp:medP p)(H:List HO):B5 Tryz.prog 186 H [.agg (cPt p)] (fun r H'=>r = .int .i64 (J7 p)∧H'=H):=by
 refine B5.bodyX (n:=24) tok Tryz.func186 rfl rfl rfl ?_;refine AWX.seq ?_;refine AW.region (Qp (Ed Cu) (Dt [.int .i64 0] fun b2=>Ae ?_));refine AWX.seq ?_;refine AW.region (Qp (Bo Cu) (Qp (Qc rfl (rp_Size p hp.n)) (Qp Lm (Qp Ib (Qp Ib (Qp Al (Qp Al (Ae ?_))))))));refine AWX.seq ?_;refine Ad (Qp Am (Qp Do (Ae (Ao (fun hc1=>Ad ?_) fun hc1=>A7 ?_))))
 ·
  refine Bt 0 [Iq _] (_::_) (Rc ?_);refine ⟨.inr rfl,[Iq _],.cons (.boxs _ _ _ 0 _ _ _ rfl _ rfl rfl rfl) <| .nil,_,.cons _ (.refl _),?_⟩;exact ⟨congrArg (AV.int .i64) (rst_1 hc1).symm,rfl⟩
 refine AWX.seq ?_;refine Ad (Qp Am (Qp Do (Ae (Ao (fun hc2=>Ad ?_) fun hc2=>A7 ?_))))
 ·
  refine Bt 0 [Iq _] (_::_) (Rc ?_);refine ⟨.inr rfl,[Iq _],.cons (.boxs _ _ _ 0 _ _ _ rfl _ rfl rfl rfl) <| .nil,_,.cons _ (.refl _),?_⟩;exact ⟨congrArg (AV.int .i64) (rst_2 hc1 hc2).symm,rfl⟩
 refine AWX.assoc ?_;refine AW.region (Qp (Bo Cu) (Qp (Qc rfl (oK p)) (Ae ?_)));refine AWX.rangeE tok (fun H2=>B3 X5 (F2 p)=0∧H2 = .box b2 41 [.int .i64 0]::H) (fun H2=>B3 X5 (F2 p)≠0∧H2 = .box b2 41 [.int .i64 (B3 X5 (F2 p))]::H) rfl (by kernel_rfl) (fun rec D l hst hpe hps has hbo hsz htm=>?_) (fun D H2 hZ=>?_) (fun D H2 hY=>?_)
 ·
  refine B5.post (eH Int (fun e=>e==0) (fun _ q=>X5 q) (fun _ _=>True) (fun _ _ _ _ _=>trivial) (fun _ _ _ _=>trivial) (fun q=>Cg q.cond≤1048576∧q.args.length≤1048576) (fun e:Int=>(.obj l (.loop (if (e==0)=true then rec else { rec with state:=.done,pending:=some .ret })) :: .obj D (.deferred (some [])) :: .box b2 41 [.int .i64 e]::H:List HO)) l rec (by rw [hps];rfl) (fun e he=>⟨0,by show some (HO.obj l (.loop (if (e==0)=true then rec else { rec with state:=.done,pending:=some .ret })))=_;rw [if_pos he]⟩) (fun e q n he hq _=>?_) p hp.n (hp.len) 0 0 rfl trivial) ?_
  ·
   obtain rfl:e=0:=by simpa using he
   show On _ l rec (.obj l (.loop rec) :: .obj D (.deferred (some [])) :: .box b2 41 [.int .i64 0]::H) _ _;refine On.ofE2 ((18,.agg (cPt q)) :: [(2,Value.pointer (some ⟨b2,0,none⟩))].map fun p=>(p.1,.val p.2)) hst hpe hsz (by rw [hps];exact par1 hsz rfl ⟨htm 2 _ rfl,trivial⟩) has hbo ?_;refine oF.region (by kernel_rfl) ?_;refine Dt gV fun b5=>?_
   refine Bt 0 Cu (_::_::_::_::_) ?_;refine AOL.ghost (GS.freeze (t:=5) 0 rfl rfl) ?_;refine AOL.nil ?_;refine ⟨rfl,0,rfl,?_⟩;refine oF.block ?_;refine oF.seq ?_;refine oF.region (by kernel_rfl) ?_;refine Qp (Bo Cu) (Qp (Qc rfl (yY q hq.1 hq.2)) (Qp Al (Ae ?_)));refine oF.seq ?_;refine oF.region (by kernel_rfl) ?_;refine Qp Am (Qp Bu (Ae ?_));refine oF.cond (b:=_) rfl (fun hc3=>?_) (fun hc3=>?_)
   ·
    refine oF.seq ?_;refine oF.region (by kernel_rfl) ?_;refine Qp Am ?_;refine Bt 2 [Iq _] (_::_::_::_) (Ae ?_);refine oF.ret ?_;refine B9 ?_;have h0:(X5 q==0)=false:=by simpa using hc3
    have hH:(fun e:Int=>(.obj l (.loop (if (e==0)=true then rec else { rec with state:=.done,pending:=some .ret })) :: .obj D (.deferred (some [])) :: .box b2 41 [.int .i64 e]::H:List HO)) (X5 q)=(.obj l (.loop { rec with state:=.done,pending:=some .ret }) :: .obj D (.deferred (some [])) :: .box b2 41 [.int .i64 (X5 q)]::H:List HO):=Eq.trans (congrArg (fun r:Loop=>(.obj l (.loop r) :: .obj D (.deferred (some [])) :: .box b2 41 [.int .i64 (X5 q)]::H:List HO)) (if_neg (by rw [h0];decide))) (congrArg (fun v:Int=>(.obj l (.loop { rec with state:=.done,pending:=some .ret }) :: .obj D (.deferred (some [])) :: .box b2 41 [.int .i64 v]::H:List HO)) (rfl));exact ⟨0,rfl,Or.inr ⟨rfl,congrArg AV.bool h0.symm,hH.symm⟩⟩
   refine oF.skip ?_;refine Ig ?_;have h0:X5 q=0:=by simpa using hc3
   exact ⟨0,rfl,Or.inl ⟨rfl,congrArg AV.bool (by rw [h0];rfl),congrArg (fun e:Int=>(.obj l (.loop (if (e==0)=true then rec else { rec with state:=.done,pending:=some .ret })) :: .obj D (.deferred (some [])) :: .box b2 41 [.int .i64 e]::H:List HO)) h0.symm⟩⟩
  rintro r K ⟨rfl,rfl⟩;have hfin:=Wb X5 (F2 p);by_cases h0:B3 X5 (F2 p)=0
  · exact ⟨_,List.Perm.refl _,rec,_,congrArg (fun e:Int=>(.obj l (.loop (if (e==0)=true then rec else { rec with state:=.done,pending:=some .ret })) :: .obj D (.deferred (some [])) :: .box b2 41 [.int .i64 e]::H:List HO)) (hfin.trans h0),by rw [hst];decide,Or.inl ⟨hpe,h0,rfl⟩⟩
  exact ⟨_,List.Perm.refl _,{ rec with state:=.done,pending:=some .ret },.box b2 41 [.int .i64 (B3 X5 (F2 p))]::H,(congrArg (fun e:Int=>(.obj l (.loop (if (e==0)=true then rec else { rec with state:=.done,pending:=some .ret })) :: .obj D (.deferred (some [])) :: .box b2 41 [.int .i64 e]::H:List HO)) hfin).trans (congrArg (fun r:Loop=>(.obj l (.loop r) :: .obj D (.deferred (some [])) :: .box b2 41 [.int .i64 (B3 X5 (F2 p))]::H:List HO)) (if_neg (by simpa using h0))),(fun h=>LoopState.noConfusion h),Or.inr ⟨rfl,h0,rfl⟩⟩
 ·
  obtain ⟨h0,rfl⟩:=hZ;refine Tail.region ?_;refine Bt 1 [Iq _] (_::_::_) (AOL.nil ?_);exact ⟨0,rfl,[_],.cons (.boxs _ _ _ 1 _ _ _ rfl _ rfl rfl rfl) .nil,H,.cons _ (.cons _ (.refl _)),congrArg (AV.int .i64) (((zA hc1 hc2).trans h0).symm),rfl⟩
 obtain ⟨h0,rfl⟩:=hY;exact ⟨_,GS.refl _,0,rfl,[_],.cons (.boxs _ _ _ 1 _ _ _ rfl _ rfl rfl rfl) .nil,H,.cons _ (.cons _ (.refl _)),congrArg (AV.int .i64) ((zA hc1 hc2).symm),rfl⟩
theorem rp_rest (p:Pt)(hp:medP p):An Tryz.prog 186 [.agg (cPt p)] (.int .i64 (J7 p)):=fun H=>vM p hp H
theorem sF (p:Pt)(hp:medP p)(H:List HO):B5 Tryz.prog 114 H [.agg (cPt p)] (fun r H'=>r = .int .i64 (Ph p)∧H'=H):=by
 refine B5.bodyX (n:=16) tok Tryz.func114 rfl rfl rfl ?_;refine AWX.seq ?_;refine AW.region (Qp (Ed Cu) (Dt [.int .i64 0] fun b2=>Ae ?_));refine AWX.seq ?_;refine Ad (Qp (Bo Cu) (Qp (Qc rfl (rp_rest p hp)) (Qp Al (Bs (Qp Am (Qp Bu (Ae (Ao (fun hc1=>Ad (Qp Am ?_)) fun hc1=>A7 ?_))))))))
 ·
  refine Bt 0 [Iq _] (_::_) (Rc ?_);refine ⟨.inr rfl,[Iq _],.cons (.boxs _ _ _ 0 _ _ _ rfl _ rfl rfl rfl) <| .nil,_,.cons _ (.refl _),?_⟩;exact ⟨congrArg (AV.int .i64) (whl_1 hc1).symm,rfl⟩
 refine AWX.assoc ?_;refine AW.region (Qp (Bo Cu) (Qp (Qc rfl (oK p)) (Ae ?_)));refine AWX.rangeE tok (fun H2=>B3 mA (F2 p)=0∧H2 = .box b2 41 [.int .i64 0]::H) (fun H2=>B3 mA (F2 p)≠0∧H2 = .box b2 41 [.int .i64 (B3 mA (F2 p))]::H) rfl (by kernel_rfl) (fun rec D l hst hpe hps has hbo hsz htm=>?_) (fun D H2 hZ=>?_) (fun D H2 hY=>?_)
 ·
  refine B5.post (eH Int (fun e=>e==0) (fun _ q=>mA q) (fun _ _=>True) (fun _ _ _ _ _=>trivial) (fun _ _ _ _=>trivial) (fun q=>True) (fun e:Int=>(.obj l (.loop (if (e==0)=true then rec else { rec with state:=.done,pending:=some .ret })) :: .obj D (.deferred (some [])) :: .box b2 41 [.int .i64 e]::H:List HO)) l rec (by rw [hps];rfl) (fun e he=>⟨0,by show some (HO.obj l (.loop (if (e==0)=true then rec else { rec with state:=.done,pending:=some .ret })))=_;rw [if_pos he]⟩) (fun e q n he hq _=>?_) p hp.n (fun _ _=>trivial) 0 0 rfl trivial) ?_
  ·
   obtain rfl:e=0:=by simpa using he
   show On _ l rec (.obj l (.loop rec) :: .obj D (.deferred (some [])) :: .box b2 41 [.int .i64 0]::H) _ _;refine On.ofE2 ((12,.agg (cPt q)) :: [(2,Value.pointer (some ⟨b2,0,none⟩))].map fun p=>(p.1,.val p.2)) hst hpe hsz (by rw [hps];exact par1 hsz rfl ⟨htm 2 _ rfl,trivial⟩) has hbo ?_;refine oF.region (by kernel_rfl) ?_;refine Dt gV fun b4=>?_
   refine Bt 0 Cu (_::_::_::_::_) ?_;refine AOL.ghost (GS.freeze (t:=4) 0 rfl rfl) ?_;refine AOL.nil ?_;refine ⟨rfl,0,rfl,?_⟩;refine oF.block ?_;refine oF.seq ?_;refine oF.region (by kernel_rfl) ?_;refine Qp (Qf Cu) (Qp Bf (Qp Gb (Ae ?_)));refine oF.cond (b:=_) rfl (fun hc2=>?_) (fun hc2=>?_)
   ·
    refine oF.seq ?_;refine oF.region (by kernel_rfl) ?_;refine Bt 2 [Iq _] (_::_::_::_) (Ae ?_);refine oF.ret ?_;refine B9 ?_;have h0:(mA q==0)=false:=by rw [show mA q=1 from if_pos hc2];rfl
    have hH:(fun e:Int=>(.obj l (.loop (if (e==0)=true then rec else { rec with state:=.done,pending:=some .ret })) :: .obj D (.deferred (some [])) :: .box b2 41 [.int .i64 e]::H:List HO)) (mA q)=(.obj l (.loop { rec with state:=.done,pending:=some .ret }) :: .obj D (.deferred (some [])) :: .box b2 41 [.int .i64 (1)]::H:List HO):=Eq.trans (congrArg (fun r:Loop=>(.obj l (.loop r) :: .obj D (.deferred (some [])) :: .box b2 41 [.int .i64 (mA q)]::H:List HO)) (if_neg (by rw [h0];decide))) (congrArg (fun v:Int=>(.obj l (.loop { rec with state:=.done,pending:=some .ret }) :: .obj D (.deferred (some [])) :: .box b2 41 [.int .i64 v]::H:List HO)) ((if_pos hc2:mA q=1)));exact ⟨0,rfl,Or.inr ⟨rfl,congrArg AV.bool h0.symm,hH.symm⟩⟩
   refine oF.skip ?_;refine Ig ?_;have h0:mA q=0:=Bi hc2;exact ⟨0,rfl,Or.inl ⟨rfl,congrArg AV.bool (by rw [h0];rfl),congrArg (fun e:Int=>(.obj l (.loop (if (e==0)=true then rec else { rec with state:=.done,pending:=some .ret })) :: .obj D (.deferred (some [])) :: .box b2 41 [.int .i64 e]::H:List HO)) h0.symm⟩⟩
  rintro r K ⟨rfl,rfl⟩;have hfin:=Wb mA (F2 p);by_cases h0:B3 mA (F2 p)=0
  · exact ⟨_,List.Perm.refl _,rec,_,congrArg (fun e:Int=>(.obj l (.loop (if (e==0)=true then rec else { rec with state:=.done,pending:=some .ret })) :: .obj D (.deferred (some [])) :: .box b2 41 [.int .i64 e]::H:List HO)) (hfin.trans h0),by rw [hst];decide,Or.inl ⟨hpe,h0,rfl⟩⟩
  exact ⟨_,List.Perm.refl _,{ rec with state:=.done,pending:=some .ret },.box b2 41 [.int .i64 (B3 mA (F2 p))]::H,(congrArg (fun e:Int=>(.obj l (.loop (if (e==0)=true then rec else { rec with state:=.done,pending:=some .ret })) :: .obj D (.deferred (some [])) :: .box b2 41 [.int .i64 e]::H:List HO)) hfin).trans (congrArg (fun r:Loop=>(.obj l (.loop r) :: .obj D (.deferred (some [])) :: .box b2 41 [.int .i64 (B3 mA (F2 p))]::H:List HO)) (if_neg (by simpa using h0))),(fun h=>LoopState.noConfusion h),Or.inr ⟨rfl,h0,rfl⟩⟩
 ·
  obtain ⟨h0,rfl⟩:=hZ;refine Tail.region ?_;refine Bt 1 [Iq _] (_::_::_) (AOL.nil ?_);exact ⟨0,rfl,[_],.cons (.boxs _ _ _ 1 _ _ _ rfl _ rfl rfl rfl) .nil,H,.cons _ (.cons _ (.refl _)),congrArg (AV.int .i64) (((whl_2 hc1).trans h0).symm),rfl⟩
 obtain ⟨h0,rfl⟩:=hY;exact ⟨_,GS.refl _,0,rfl,[_],.cons (.boxs _ _ _ 1 _ _ _ rfl _ rfl rfl rfl) .nil,H,.cons _ (.cons _ (.refl _)),congrArg (AV.int .i64) ((whl_2 hc1).symm),rfl⟩
theorem yW (p:Pt)(hp:medP p):An Tryz.prog 114 [.agg (cPt p)] (.int .i64 (Ph p)):=fun H=>sF p hp H
theorem tO (p:Pt)(hp:medP p)(ho:∀q∈F2 p,sY q)(H:List HO):B5 Tryz.prog 65 H [.agg (cPt p)] (fun r H'=>r = .tuple [.int .i64 (Nj p).vars,.int .i64 (Nj p).scopes,.bool (Nj p).ok]∧H'=H):=by
 refine B5.bodyX (n:=42) tok Tryz.func65 rfl rfl rfl ?_;refine AWX.seq ?_;refine AW.region (Qp (Ed Cu) (Qp Al (Qp Al (Qp Au (Ae ?_)))));refine AWX.seq ?_;refine AW.region (Dt [.int .i64 0] fun b5=>Dt [.int .i64 0] fun b6=>Dt [.bool false] fun b7=>?_);refine Bt 2 [Iq _] (_::_::_::_) ?_;refine Bt 1 [Iq _] (_::_::_::_) ?_;refine Bt 0 [.bool _] (_::_::_::_) (Ae ?_);refine AWX.assoc ?_;refine AW.region (Qp (Bo Cu) (Qp (Qc rfl (oK p)) (Ae ?_)));refine AWX.rangeE tok (fun H2=>H2 = .box b7 4 [.bool (Nj p).ok] :: .box b6 3 [.int .i64 (Nj p).scopes] :: .box b5 3 [.int .i64 (Nj p).vars]::H) (fun H2=>False) rfl (by kernel_rfl) (fun rec D l hst hpe hps has hbo hsz htm=>?_) (fun D H2 hZ=>?_) (fun D H2 hY=>hY.elim)
 ·
  refine B5.post (eH Cnt (fun _=>true) Il cC cnt_mono wP sY (fun c:Cnt=>(.obj l (.loop rec) :: .obj D (.deferred (some [])) :: .box b7 4 [.bool c.ok] :: .box b6 3 [.int .i64 c.scopes] :: .box b5 3 [.int .i64 c.vars]::H:List HO)) l rec (by rw [hps];rfl) (fun e he=>⟨0,rfl⟩) (fun c q n he hq hc=>?_) p hp.n ho ⟨0,0,true⟩ 0 rfl (by have:=hp.n;exact ⟨Uh _,Uh _,by simp only;omega,by simp only;omega⟩)) ?_
  ·
   show On _ l rec (.obj l (.loop rec) :: .obj D (.deferred (some [])) :: .box b7 4 [.bool c.ok] :: .box b6 3 [.int .i64 c.scopes] :: .box b5 3 [.int .i64 c.vars]::H) _ _;refine On.ofE2 ((12,.agg (cPt q)) :: [(5,Value.pointer (some ⟨b5,0,none⟩)),(6,Value.pointer (some ⟨b6,0,none⟩)),(7,Value.pointer (some ⟨b7,0,none⟩))].map fun p=>(p.1,.val p.2)) hst hpe hsz (by rw [hps];exact par1 hsz rfl ⟨htm 5 _ rfl,htm 6 _ rfl,htm 7 _ rfl,trivial⟩) has hbo ?_;obtain ⟨hv0,hs0,hv1,hs1⟩:=hc;refine (wN hq.1 hq.2).elim fun rest hrest=>?_
   refine oF.region (by kernel_rfl) ?_;refine Dt gV fun b8=>?_
   refine Bt 0 Cu (_::_::_::_::_::_::_) ?_;refine AOL.ghost (GS.freeze (t:=8) 0 rfl rfl) ?_;refine AOL.nil ?_;refine ⟨rfl,0,rfl,?_⟩;refine oF.block ?_;refine oF.seq ?_;refine oF.region (by kernel_rfl) ?_;refine Qp (Qf Cu) (Qp Bf ?_);refine Qp (Nu (cs':=cShp (M1 q.op)++rest) tok ⟨_,by simp [globals],fun _ h=>h⟩ rfl rfl rfl rfl (hq.1) (hq.2) hrest rfl) ?_;refine Qp (Bo gky) (Dt [.int .i64 0,.int .i64 0,.bool false,.bool false,.bool false,.bool false] fun b9=>?_);refine Bt 0 gky (_::_::_::_::_::_::_) ?_;refine AOL.ghost (GS.freeze (t:=9) 0 rfl rfl) ?_;refine Ae ?_;refine oF.seq ?_;refine oF.seq ?_;refine oF.region (by kernel_rfl) ?_;refine Qp (Qf gjz) (Qp gU (Ae ?_));refine oF.cond (b:=_) rfl (fun hc1=>?_) (fun hc1=>?_)
   ·
    refine oF.seq ?_;refine oF.region (by kernel_rfl) ?_;refine AOL.Aan (Af (k:=2) (c:=.bool _) tok rfl rfl rfl rfl) rfl rfl (Qp A9 (Qg [] Qw (Qf ghz) (Qg [(21,_)] Qw Bf (AOL.gk (y:=Iq _) _ [] rfl (uB.all trivial) (fun hG=>Af (k:=4) (c:=Iq _) tok rfl rfl rfl rfl) rfl rfl ?_))));refine AOL.Aal (y:=.bool _) _ [(22,_),(23,_)] rfl (uB.all ⟨Ent.Aak _ _,Ent.Aak _ _,trivial⟩) (fun hG=>Sy rfl rfl) rfl ?_;refine Qp Ea ?_;refine Bt 2 [.bool _] (_::_::_::_::_::_) (Ae ?_);refine oF.region (by kernel_rfl) ?_;refine AOL.Aan (Af (k:=4) (c:=Iq _) tok rfl rfl rfl rfl) rfl rfl (Qp Dl ?_);refine Bt 4 [Iq _] (_::_::_::_::_::_) (Ae ?_);refine oF.seq ?_;refine oF.region (by kernel_rfl) ?_;refine Qp (Qf [.bool _,.bool _]) (Qp gU (Ae ?_));refine oF.cond (b:=_) rfl (fun hc2=>?_) (fun hc2=>?_)
    ·
     refine oF.seq ?_;refine oF.region (by kernel_rfl) ?_;refine AOL.Aan (Af (k:=2) (c:=.bool _) tok rfl rfl rfl rfl) rfl rfl (Qp A9 (Qg [] Qw (Qf uL) (Qg [(32,_)] Qw Bf (AOL.gk (y:=Iq _) _ [] rfl (uB.all trivial) (fun hG=>Af (k:=3) (c:=Iq _) tok rfl rfl rfl rfl) rfl rfl ?_))));refine AOL.Aal (y:=.bool _) _ [(33,_),(34,_)] rfl (uB.all ⟨Ent.Aak _ _,Ent.Aak _ _,trivial⟩) (fun hG=>Sy rfl rfl) rfl ?_;refine Qp Ea ?_;refine Bt 2 [.bool _] (_::_::_::_::_::_) (Ae ?_);refine oF.region (by kernel_rfl) ?_;refine AOL.Aan (Af (k:=3) (c:=Iq _) tok rfl rfl rfl rfl) rfl rfl (Qp Dl ?_);refine Bt 3 [Iq _] (_::_::_::_::_::_) (AOL.nil (Ig ?_));exact ⟨0,rfl,Or.inl ⟨rfl,rfl,congrArg (fun c:Cnt=>(.obj l (.loop rec) :: .obj D (.deferred (some [])) :: .box b7 4 [.bool c.ok] :: .box b6 3 [.int .i64 c.scopes] :: .box b5 3 [.int .i64 c.vars]::H:List HO)) (stp_yy hc1 hc2)⟩⟩
    refine oF.skip ?_;refine Ig ?_;exact ⟨0,rfl,Or.inl ⟨rfl,rfl,congrArg (fun c:Cnt=>(.obj l (.loop rec) :: .obj D (.deferred (some [])) :: .box b7 4 [.bool c.ok] :: .box b6 3 [.int .i64 c.scopes] :: .box b5 3 [.int .i64 c.vars]::H:List HO)) (stp_yn hc1 hc2)⟩⟩
   refine oF.skip ?_;refine A5 ?_;refine oF.seq ?_;refine oF.region (by kernel_rfl) ?_;refine Qp (Qf [.bool _,.bool _]) (Qp gU (Ae ?_));refine oF.cond (b:=_) rfl (fun hc3=>?_) (fun hc3=>?_)
   ·
    refine oF.seq ?_;refine oF.region (by kernel_rfl) ?_;refine AOL.Aan (Af (k:=2) (c:=.bool _) tok rfl rfl rfl rfl) rfl rfl (Qp A9 (Qg [] Qw (Qf uL) (Qg [(32,_)] Qw Bf (AOL.gk (y:=Iq _) _ [] rfl (uB.all trivial) (fun hG=>Af (k:=3) (c:=Iq _) tok rfl rfl rfl rfl) rfl rfl ?_))));refine AOL.Aal (y:=.bool _) _ [(33,_),(34,_)] rfl (uB.all ⟨Ent.Aak _ _,Ent.Aak _ _,trivial⟩) (fun hG=>Sy rfl rfl) rfl ?_;refine Qp Ea ?_;refine Bt 2 [.bool _] (_::_::_::_::_::_) (Ae ?_);refine oF.region (by kernel_rfl) ?_;refine AOL.Aan (Af (k:=3) (c:=Iq _) tok rfl rfl rfl rfl) rfl rfl (Qp Dl ?_);refine Bt 3 [Iq _] (_::_::_::_::_::_) (AOL.nil (Ig ?_));exact ⟨0,rfl,Or.inl ⟨rfl,rfl,congrArg (fun c:Cnt=>(.obj l (.loop rec) :: .obj D (.deferred (some [])) :: .box b7 4 [.bool c.ok] :: .box b6 3 [.int .i64 c.scopes] :: .box b5 3 [.int .i64 c.vars]::H:List HO)) (stp_ny hc1 hc3)⟩⟩
   refine oF.skip ?_;refine Ig ?_;exact ⟨0,rfl,Or.inl ⟨rfl,rfl,congrArg (fun c:Cnt=>(.obj l (.loop rec) :: .obj D (.deferred (some [])) :: .box b7 4 [.bool c.ok] :: .box b6 3 [.int .i64 c.scopes] :: .box b5 3 [.int .i64 c.vars]::H:List HO)) (stp_nn hc1 hc3)⟩⟩
  rintro r K ⟨rfl,rfl⟩;exact ⟨_,List.Perm.refl _,rec,_,congrArg (fun c:Cnt=>(.obj l (.loop rec) :: .obj D (.deferred (some [])) :: .box b7 4 [.bool c.ok] :: .box b6 3 [.int .i64 c.scopes] :: .box b5 3 [.int .i64 c.vars]::H:List HO)) (qU (F2 p) ⟨0,0,true⟩:_=Nj p),by rw [hst];decide,Or.inl ⟨hpe,rfl⟩⟩
 obtain rfl:=hZ;refine Tail.drawn ?_;refine AWD.draw mixed (fun H'=>_∈H'∧_∈H'∧_∈H') ⟨(B6 (i:=3) rfl),(B6 (i:=2) rfl),(B6 (i:=1) rfl)⟩ (by kernel_rfl) ?_;refine Qn 0 rfl (OpP.Aap (fun k=>Af (k:=k) (c:=Iq _) tok rfl rfl rfl rfl) (fun _ h=>h.1)) ?_;refine Qn 1 rfl (OpP.Aap (fun k=>Af (k:=k) (c:=Iq _) tok rfl rfl rfl rfl) (fun _ h=>h.2.1)) ?_;refine Qn 2 rfl (OpP.Aap (fun k=>Af (k:=k) (c:=.bool _) tok rfl rfl rfl rfl) (fun _ h=>h.2.2)) ?_;refine Qn 3 rfl Al (Qn 4 rfl Al (Qn 5 rfl Au ?_));refine Ej ?_;exact ⟨0,rfl,[_,_,_],.cons (.tmp _ _ rfl) (.cons (.tmp _ _ rfl) (.cons (.tmp _ _ rfl) .nil)),H,.cons _ (.cons _ (.cons _ (.cons _ (.refl _)))),rfl,rfl⟩
theorem yM (p:Pt)(hp:medP p)(ho:∀q∈F2 p,sY q):An Tryz.prog 65 [.agg (cPt p)] (.tuple [.int .i64 (Nj p).vars,.int .i64 (Nj p).scopes,.bool (Nj p).ok]):=fun H=>tO p hp ho H
theorem xS (p:Pt)(hp:medP p):An Tryz.prog 64 [.agg (cPt p)] (.int .i64 (Pc p)):=by
 refine An.body (n:=20) tok Tryz.func64 rfl rfl rfl fun H=>?_
 refine Ad (Qp (Ed Cu) (Qp Al (Ae (Rd (Qp (Bo Cu) (Qp (Qc rfl (yW p hp)) (Qp Al (Bs (Qp Am (Qp Bu (Ae (Ao (fun hc1=>Ad (Qp Am (Qp Al (Rc (Qr (Iq _) ?_))))) fun hc1=>?_))))))))))))
 · exact Eq.trans rfl (congrArg (fun q:Int=>AV.int .i64 q) (chk_1 hc1)).symm
 refine A7 (Rd (Qp (Bo Cu) (Qp (Qc rfl (yM p hp (pX (whl_0 hc1)))) (Qp Lm (Qp Ib (Qp Ib (Qp gX (Qp Al (Qp Al (Qp Au (Bs (Qp A9 (Qp Ew (Ae (Ao (fun hc2=>Ad (Qp Al (Rc (Qr (Iq _) ?_)))) fun hc2=>A7 (Ad (Qp Al (Rb (Qr (Iq _) ?_)))))))))))))))))))
 · exact Eq.trans rfl (congrArg (fun q:Int=>AV.int .i64 q) (chk_2 hc1 hc2)).symm
 exact Eq.trans rfl (congrArg (fun q:Int=>AV.int .i64 q) (chk_3 hc1 hc2)).symm
set_option maxHeartbeats 12800000
set_option maxRecDepth 20000

theorem kN (T:List e8Sc)(hT:TsOK T)(t:Syn)(ht:QryOK t):An Tryz.prog 46 [.sl 2 (T.map F1),.agg (cSyn t)] (.tuple [.agg (cQy (C0 T t).1),.agg (Pz (C0 T t).2)]):=by
 have hl3:=ht.len;have hkl:=E3 ht.m;have hdl:(t.kids.drop 2).length≤1000000:=by rw [Jf];omega
 have hpt:=ht.pat;have hrv:=mP hT (Hj (Bb t 1));have hev:=ht.evl;refine An.body (n:=119) tok Tryz.func46 rfl rfl rfl fun H=>?_
 refine Ad (Qp (Ed Aq) (Dt cL fun b4=>Dt bC fun b5=>Bs (Qp Fh (Qe (Dc rfl (aY T hT.tl hT.nd _)) ?_))));rintro _ _ ⟨b6,s6,rfl,rfl⟩;refine Qp Qk ?_;refine AOL.ghost (GS.cellRow 0 2 50 2 rfl rfl rfl rfl) ?_;refine Ae (Rd (Qp (Qf Ef) (Qp B7 ?_)));refine Qp (Aa (c:=Aq) tok rfl rfl rfl rfl rfl rfl (by decide) (Bz (Cp (by omega)))) ?_;refine Qp (Bo Aq) (Qp (Qc rfl (tQ (Bb t 1) ht.med1 hpt)) (Qp Bw (Qp (B1 (l:=[.val _]) (l':=[]) rfl rfl) ?_)));refine Qe (Dc rfl (B5.front3 (R:=_::_::_) 2 1 0 rfl rfl rfl rfl (yQ T [] (by decide) _ b6 s6 (Hj (Bb t 1)) hev _))) ?_;rintro _ _ ⟨v7,rfl,rfl⟩;refine Dt bC fun b7=>?_
 refine Bt 0 Ga (_::_::_::_::_::_::_) ?_;refine AOL.ghost (GS.freeze (t:=7) 0 rfl rfl) ?_;refine Bs (Qp (Qf [Iq _]) (Qp Bf (Qp Bu (Ae (Ao (fun hc1=>AW.seq ?_) fun hc1=>?_)))))
 ·
  refine Gi ?_;refine Qn 0 rfl (Du Fu) (Qn 1 rfl (Bo Ga) ?_);refine Jj 2 rfl (A6 (k:=4) (v:=.agg _) (cs':=Fu) (H2:=_::_::_::_::_::_) tok rfl rfl rfl rfl (rfl) rfl rfl rfl rfl) ?_;refine Jj 3 rfl (A6 (k:=3) (v:=.agg _) (cs':=Ga) (H2:=_::_::_::_::_::_) tok rfl rfl rfl rfl (rfl) rfl rfl rfl rfl) ?_;refine Ej ?_;refine A5 (Su ?_);refine ⟨.inr rfl,[.agg Fu,.agg Ga],.cons (.box _ _ _ 4 _ _ _ _ rfl rfl rfl rfl rfl rfl) <| .cons (.box _ _ _ 3 _ _ _ _ rfl rfl rfl rfl rfl rfl) <| .nil,.cons _ (.cons _ (.cons _ (.cons _ (.cons _ (.refl _))))),?_⟩;exact Eq.trans rfl (congrArg (fun q:Qy×Fa=>AV.tuple [.agg (cQy q.1),.agg (Pz q.2)]) (qr_1 hc1)).symm
 have hTp:0<T.length:=qN (oW _ hpt) hc1;refine A7 (AW.seq ?_);refine AW.ghost (GS.cell (H2:=_::_::_::_::_::_) 1 2 rfl rfl rfl rfl E9) ?_;refine AW.ghost (GS.freezeSMapCell 2 1 3 rfl rfl rfl rfl rfl) ?_
 skip
 refine AW.draw mixed (fun H'=>_∈H') (B6 (i:=1) rfl) (by kernel_rfl) ?_;refine Qn 0 rfl (Qf Ik) (Qn 1 rfl C9 (Qn 2 rfl Bw (Qn 3 rfl (Aj rfl) (Qn 4 rfl Cc (Qn 5 rfl (OpP.Aap (fun k=>Af (k:=k) (c:=.sl _ _) tok rfl rfl rfl rfl) (fun _ h=>h)) ?_)))));refine Qn 6 rfl (Im (l0:=[.str [],.sl 2 [],.sl 1 [],.int .i64 0,.sl 14 [],.int .i64 0,.int .i64 0,.int .i64 0,.int .i64 0,.int .i64 0,.sl 8 [],.int .i64 0,.int .i64 0,.int .i64 0,.int .i64 0,.int .i64 0,.str [],.val (.slice none 0 0)]) (l:=Fu) tok rfl rfl (by kernel_rfl) rfl) ?_;refine Hb.eff _ _ 7 _ _ rfl (by kernel_rfl) rfl rfl (Jp (l:=cL) (by kernel_rfl)) (by rintro _ _ ⟨b8,rfl,rfl⟩;simp) ?_;rintro _ _ ⟨b8,rfl,rfl⟩;refine Hb.last _ _ 8 _ _ rfl (by kernel_rfl) rfl rfl (A6 (k:=0) (v:=.agg _) (cs':=Fu) (H2:=_::_::_::_::_::_) tok rfl rfl rfl rfl (rfl) rfl rfl rfl rfl) (by kernel_rfl) ?_;rintro _ _ ⟨rfl,rfl⟩;refine A5 ?_;refine AW.Aas (fun (w:List Int)=>(⟨[(3,.ptr (cSyn t)),(4,.val (.pointer (some ⟨b4,0,none⟩))),(5,.val (.pointer (some ⟨b5,0,none⟩))),(6,.val (.pointer (some ⟨b6,0,none⟩))),(8,.val (.pointer (some ⟨b8,0,none⟩)))],.box b8 40 (cQyW ⟨t.text,(Gq T t),w,pt0,[]⟩ (.val (.slice none 0 0))) :: .box b6 159 (Vs T (Gq T t) ⟨0,0⟩) :: .box b5 94 bC :: .box b4 40 cL::H,119⟩:St)) (fun w=>w=(eZ T t (Gq T t)).1∧(!(eZ T t (Gq T t)).2)=false) ?_ ?_
 ·
  refine Ad (Qp (Qf Ef) (Qp B7 ?_));refine Qp (Aa (c:=Aq) tok rfl rfl rfl rfl rfl rfl (by decide) (Bz (Cp (by omega)))) ?_;refine Qp (Bo Aq) (Dt L7 fun b9=>?_);refine Bt 0 Aq (_::_::_::_::_::_::_) ?_;refine AOL.ghost (GS.freeze (t:=9) 0 rfl rfl) ?_;refine Bs (Qp (Qf Ik) (Qp C9 (Qp (Cs rfl rfl) (Ae (Ao (fun hc2=>Ad (Qp Bw (Qp (Qf Ik) (Qp C9 ?_)))) fun hc2=>A7 ?_)))))
  ·
   refine AOL.Aan (Cy (k:=2) (by kernel_rfl) rfl rfl (rf_key T (Gq T t) ⟨0,0⟩ b6 hrv (Bb t 0).text hTp)) rfl rfl ?_;refine Qp Lm (Qp Qxs (Qp gX (Qp Sr (Qp Au (Ae (Rd (Qp A9 (Qp Ew (Ae (Ao (fun hc3=>AW.seq ?_) fun hc3=>A7 (AW.region (Qp Fh (Qp Cc ?_)))))))))))))
   ·
    refine Gi ?_;refine Qn 0 rfl (Du Fu) (Qn 1 rfl (Qf [Iq _]) (Qn 2 rfl Bf (Qn 3 rfl (Du Ga) ?_)));refine Jj 4 rfl (A6 (k:=4) (v:=.agg _) (cs':=Fu) (H2:=_::_::_::_::_::_) tok rfl rfl rfl rfl (rfl) rfl rfl rfl rfl) ?_;refine Jj 5 rfl (A6 (k:=3) (v:=.agg _) (cs':=Ga) (H2:=_::_::_::_::_::_) tok rfl rfl rfl rfl (rfl) rfl rfl rfl rfl) ?_;refine Ej ?_;refine A5 (Su (Av ?_));refine ⟨.inr rfl,[.agg Fu,.agg Ga],.cons (.box _ _ _ 4 _ _ _ _ rfl rfl rfl rfl rfl rfl) <| .cons (.box _ _ _ 3 _ _ _ _ rfl rfl rfl rfl rfl rfl) <| .nil,.cons _ (.cons _ (.cons _ (.cons _ (.cons _ (.refl _))))),?_⟩;exact Eq.trans rfl (congrArg (fun q:Qy×Fa=>AV.tuple [.agg (cQy q.1),.agg (Pz q.2)]) ((bF hc1).trans (qr_2 (by rw [Wx hc2];exact hc3)))).symm
   refine Bt 0 Fu (_::_::_::_::_::_) ?_;refine Ae ?_;refine ⟨(X1 T (Gq T t) (Bb t 0).text).1,?_,GS.weaken ⟨rfl,rfl,rfl,rfl,rfl,trivial⟩ (.cons_cons _ (.cons _ (.refl _)))⟩;exact ⟨by rw [Wx hc2],by rw [Wx hc2];exact hc3⟩
  refine ⟨[],?_,GS.weaken ⟨rfl,rfl,rfl,rfl,rfl,trivial⟩ (.cons_cons _ (.cons _ (.refl _)))⟩;exact ⟨by rw [qP hc2],by rw [qP hc2];rfl⟩
 rintro w hK;obtain ⟨hk1,hk2⟩:=hK;subst hk1;refine Rd (Qp Bw (Qp (Bo Aq) ?_));refine AOL.Aan (Cy (k:=1) (by kernel_rfl) rfl rfl (rf_walk T (Gq T t) ⟨0,0⟩ b6 hrv t ht.m)) rfl rfl ?_;refine Dt bC fun b12=>?_
 refine Bt 0 Ga (_::_::_::_::_::_) ?_;refine AOL.ghost (GS.freeze (t:=12) 0 rfl rfl) ?_;refine Bs (Qp (Qf [Iq _]) (Qp Bf (Qp Bu (Ae (Ao (fun hc4=>AW.seq ?_) fun hc4=>?_)))))
 ·
  refine Gi ?_;refine Qn 0 rfl (Du Fu) (Qn 1 rfl (Bo Ga) ?_);refine Jj 2 rfl (A6 (k:=3) (v:=.agg _) (cs':=Fu) (H2:=_::_::_::_::_) tok rfl rfl rfl rfl (rfl) rfl rfl rfl rfl) ?_;refine Jj 3 rfl (A6 (k:=2) (v:=.agg _) (cs':=Ga) (H2:=_::_::_::_::_) tok rfl rfl rfl rfl (rfl) rfl rfl rfl rfl) ?_;refine Ej ?_;refine A5 (Su ?_);refine ⟨.inr rfl,[.agg Fu,.agg Ga],.cons (.box _ _ _ 3 _ _ _ _ rfl rfl rfl rfl rfl rfl) <| .cons (.box _ _ _ 2 _ _ _ _ rfl rfl rfl rfl rfl rfl) <| .nil,.cons _ (.cons _ (.cons _ (.cons _ (.refl _)))),?_⟩;exact Eq.trans rfl (congrArg (fun q:Qy×Fa=>AV.tuple [.agg (cQy q.1),.agg (Pz q.2)]) ((bF hc1).trans ((jD hk2).trans (qr_3 hc4)))).symm
 have hw0:(D0 T (Gq T t) t).err=0:=by simpa using hc4
 have hw1:=(Eb hw0).2 _ (B6 (Cp (t:=t) (k:=1) (by omega)));refine A7 (Ad (Qp Bw (Qp (Qf Ef) (Qp B7 ?_))));refine Qp (Aa (c:=Aq) tok rfl rfl rfl rfl rfl rfl (by decide) (Bz (Cp (by omega)))) ?_;refine Qp (Bo Aq) ?_;refine Rt (Dc rfl ((oR T (Gq T t) ⟨0,0⟩ b6 hrv (Bb t 1) ht.med1 hpt hw1 ⟨by decide,by decide,by have:=He ht.med1;simp only;omega,by have:=He ht.med1;simp only;omega⟩).at (k:=1) (H2:=_::_::_::_::_) rfl rfl)) ?_;refine Qp Cc ?_;refine Bt 0 Fu (_::_::_::_::_) ?_;refine Ae (Rd (Qp Cc (AOL.Aan (A2 (k:=0) (l:=Cu) tok rfl rfl rfl rfl rfl) rfl rfl (Qp (Qc rfl (xS (ptR T t (Gq T t)) (fD ht.med1 hpt _))) (Qp Al (Bs (Qp Am (Qp Bu (Ae (Ao (fun hc5=>AW.seq ?_) fun hc5=>A7 (AW.seq (AW.seq ?_))))))))))))
 ·
  refine Gi ?_;refine Qn 0 rfl (Du Fu) (Qn 1 rfl (Qf Ef) (Qn 2 rfl B7 ?_));refine Qn 3 rfl (Aa (c:=Aq) tok rfl rfl rfl rfl rfl rfl (by decide) (Bz (Cp (by omega)))) ?_;refine Qn 4 rfl (Qf [Iq _]) (Qn 5 rfl Bf (Qn 6 rfl Am (Qn 7 rfl (Du Ga) ?_)));refine Jj 8 rfl (A6 (k:=3) (v:=.agg _) (cs':=Fu) (H2:=_::_::_::_::_) tok rfl rfl rfl rfl (rfl) rfl rfl rfl rfl) ?_;refine Jj 9 rfl (A6 (k:=2) (v:=.agg _) (cs':=Ga) (H2:=_::_::_::_::_) tok rfl rfl rfl rfl (rfl) rfl rfl rfl rfl) ?_;refine Ej ?_;refine A5 (Su ?_);refine ⟨.inr rfl,[.agg Fu,.agg Ga],.cons (.box _ _ _ 3 _ _ _ _ rfl rfl rfl rfl rfl rfl) <| .cons (.box _ _ _ 2 _ _ _ _ rfl rfl rfl rfl rfl rfl) <| .nil,.cons _ (.cons _ (.cons _ (.cons _ (.refl _)))),?_⟩;exact Eq.trans rfl (congrArg (fun q:Qy×Fa=>AV.tuple [.agg (cQy q.1),.agg (Pz q.2)]) ((bF hc1).trans ((jD hk2).trans ((sE hc4).trans (qr_4 hc5))))).symm
 refine AW.ghost (GS.cellRow 0 17 36 8 rfl rfl rfl rfl) ?_
 skip
 refine AW.region (Qp (Qf Ef) (Qp B7 ?_));refine Qp (It (l:=2) (h:=(t.kids.map Cr).length) tok rfl rfl rfl rfl rfl (⟨_,rfl⟩) (rfl) (by rw [D9];omega) (C6 _) (((congrArg (List.drop 2) bH).trans List.map_drop.symm))) ?_;refine Qp (Ai (n:=(t.kids.drop 2).length) tok rfl rfl rfl (by simp)) ?_;refine Qp Am (Ae (AW.block ?_));refine AW.Aam (fun (q:Nat×List (List AV)×Value)=>(⟨[(3,.ptr (cSyn t)),(4,.val (.pointer (some ⟨b4,0,none⟩))),(5,.val (.pointer (some ⟨b5,0,none⟩))),(6,.val (.pointer (some ⟨b6,0,none⟩))),(8,.val (.pointer (some ⟨b8,0,none⟩))),(92,.sl 6 ((t.kids.drop 2).map Cr)),(93,.int .i64 ((t.kids.drop 2).length:Int)),(94,.int .i64 (q.1:Int))],.row q.2.2 q.2.1.length 36 8 :: .box b8 40 (cQyW ⟨t.text,(Gq T t),(eZ T t (Gq T t)).1,(Ih T (Gq T t) (Bb t 1) ⟨0,0⟩).1,[]⟩ (.row q.2.2 8 q.2.1)) :: .box b6 159 (Vs T (Gq T t) (Ih T (Gq T t) (Bb t 1) ⟨0,0⟩).2) :: .box b5 94 bC :: .box b4 40 cL::H,119⟩:St)) (fun q=>q.1≤(t.kids.drop 2).length∧q.2.1=(((t.kids.drop 2).take q.1).map (Ds T (Gq T t))).map M2∧((t.kids.drop 2).take q.1).any (fun x=>(rtF T (Gq T t) x).err != 0)=false) (fun q=>(t.kids.drop 2).length-q.1) ((0,[],.slice none 0 0)) ?_ Bv ?_
 · exact ⟨Dh _,rfl,rfl⟩
 rintro q hR;refine Ad (Qp Bp (Re (Ao (fun hc6=>?_) fun hc6=>?_)))
 ·
  obtain ⟨a,ha⟩:=By hc6;have hlt:=Bj ha;have hm:=B6 ha;have hsc:∀c∈q.2.1,Bc c=true:=by rw [hR.2.1];exact scE _
  have hmk:a∈t.kids:=List.mem_of_mem_drop hm;have hma:=C4 ht.m hmk;have hwa:=(Eb hw0).2 a hmk;refine A7 (AW.seq (AW.block (Ad ?_)));refine Qp (Aa (c:=Aq) tok rfl rfl rfl rfl rfl rfl (by omega) (Bz ha)) ?_;refine Qp (Bo Aq) (Dt L7 fun b15=>?_);refine Bt 0 Aq (_::_::_::_::_::_::_) ?_;refine AOL.ghost (GS.freeze (t:=15) 0 rfl rfl) ?_;refine Bs (Qp Bw (Qp (Bo Aq) ?_));refine AOL.Aan (Cy (k:=2) (by kernel_rfl) rfl rfl (fV T (Gq T t) (Ih T (Gq T t) (Bb t 1) ⟨0,0⟩).2 b6 hrv a hma hwa)) rfl rfl ?_;refine Dt oB fun b16=>?_
  refine Bt 0 Ft (_::_::_::_::_::_::_) ?_;refine AOL.ghost (GS.freeze (t:=16) 0 rfl rfl) ?_;refine Ae (Rd (Qp Py ?_));refine Qp (Qc rfl (e8c21 (Ds T (Gq T t) a) (by have h:=N7 (T:=T) (V:=(Gq T t)) a;have:=He hma;omega))) ?_;refine Qp Al (Bs (Qp Am (Qp Bu (Ae (Ao (fun hc7=>AW.seq ?_) fun hc7=>A7 (AW.region (Qp Cc (AOL.Aan (Af (k:=1) (c:=.row _ _ _) tok rfl rfl rfl rfl) rfl rfl (Qp Py (Qp (Ak (es:=[Ft]) tok rfl rfl rfl rfl rfl rfl rfl rfl rfl) ?_))))))))))
  ·
   refine Gi ?_;refine Qn 0 rfl (Du Fu) (Qn 1 rfl (Qf [Iq _]) (Qn 2 rfl Bf (Qn 3 rfl Am (Qn 4 rfl (Du Ga) ?_))));refine Jj 5 rfl (A6 (k:=4) (v:=.agg _) (cs':=Fu) (H2:=_::_::_::_::_::_) tok rfl rfl rfl rfl (rfl) rfl rfl rfl rfl) ?_;refine Jj 6 rfl (A6 (k:=3) (v:=.agg _) (cs':=Ga) (H2:=_::_::_::_::_::_) tok rfl rfl rfl rfl (rfl) rfl rfl rfl rfl) ?_;refine Ej ?_;refine A5 (Su (Rj (Av ?_)));refine ⟨.inr rfl,[.agg Fu,.agg Ga],.cons (.box _ _ _ 4 _ _ _ _ rfl rfl rfl rfl rfl rfl) <| .cons (.box _ _ _ 3 _ _ _ _ rfl rfl rfl rfl rfl rfl) <| .nil,.cons _ (.cons _ (.cons _ (.cons _ (.cons _ (.refl _))))),?_⟩;exact Eq.trans rfl (congrArg (fun q:Qy×Fa=>AV.tuple [.agg (cQy q.1),.agg (Pz q.2)]) ((bF hc1).trans ((jD hk2).trans ((sE hc4).trans ((qr_e hc5).trans (qr_5 ha hR.2.2 hc7)))))).symm
  refine Qe (B8 (k:=0) tok rfl rfl rfl rfl rfl rfl rfl rfl (Dy rfl) (hsc) (by have h9:=congrArg List.length hR.2.1;simp only [D9,Lk] at h9;simp;omega) (by have h9:=congrArg List.length hR.2.1;simp only [D9,Lk] at h9;simp [maxLen];omega)) ?_;rintro _ _ ⟨v114,rfl,rfl⟩;refine Qp Cc ?_;refine Bt 1 Fu (_::_::_::_::_::_) ?_;refine Rk (AW.region (Qp Dl (Qp Am (Ae ?_))));refine ⟨(q.1+1,q.2.1 ++ [cE (Ds T (Gq T t) a)],v114),?_,?_,Bv⟩
  · exact ⟨hlt,by simp only;rw [C2 ha,hR.2.1];simp [O6],Gu hR.2.2 ha (by rw [rt_no hc7];rfl)⟩
  simp only;omega
 have hte:=Cn hc6;have hall:=hR.2.1;have hnn:=hR.2.2;rw [hte] at hall hnn;refine AW.exit ?_;refine Bk (Ri (AW.seq ?_));refine AW.ghost (GS.cell (H2:=_::_::_::_::_::_) 1 17 rfl rfl rfl rfl E9) ?_
 skip
 refine AW.draw mixed (fun H'=>_∈H') (B6 (i:=1) rfl) (by kernel_rfl) ?_;refine Qn 0 rfl (OpP.Aap (fun k=>A2 (k:=k) (l:=Fu) tok rfl rfl rfl rfl rfl) (fun _ h=>h)) ?_;refine Qn 1 rfl (Qc rfl (Ms)) ?_;refine Hb.eff _ _ 2 _ _ rfl (by kernel_rfl) rfl rfl (A6 (k:=4) (v:=.agg _) (cs':=Fu) (H2:=_::_::_::_::_::_) tok rfl rfl rfl rfl (rfl) rfl rfl rfl rfl) (by rintro _ _ ⟨rfl,rfl⟩;simp) ?_;rintro _ _ ⟨rfl,rfl⟩;refine Hb.last _ _ 3 _ _ rfl (by kernel_rfl) rfl rfl (A6 (k:=3) (v:=.agg _) (cs':=Ga) (H2:=_::_::_::_::_::_) tok rfl rfl rfl rfl (rfl) rfl rfl rfl rfl) (by kernel_rfl) ?_;rintro _ _ ⟨rfl,rfl⟩;refine A5 (AW.ret ?_);refine ⟨.inr rfl,[.agg Fu,.agg Ga],.cons (.box _ _ _ 4 _ _ _ _ rfl rfl rfl rfl rfl rfl) <| .cons (.box _ _ _ 3 _ _ _ _ rfl rfl rfl rfl rfl rfl) <| .nil,.cons _ (.cons _ (.cons _ (.cons _ (.cons _ (.refl _))))),?_⟩;exact Eq.trans (congrArg (fun l:List (List AV)=>AV.tuple [.agg (cQyW ⟨t.text,(Gq T t),(eZ T t (Gq T t)).1,(Ih T (Gq T t) (Bb t 1) ⟨0,0⟩).1,[]⟩ (.sl 8 l)),.agg (Pz Mt)]) hall) (congrArg (fun q:Qy×Fa=>AV.tuple [.agg (cQy q.1),.agg (Pz q.2)]) ((bF hc1).trans ((jD hk2).trans ((sE hc4).trans ((qr_e hc5).trans (qr_6 hnn)))))).symm
open Go Go.Aw Go.Sort Go.Lib

theorem nO (w:World)(k:Nat)(os:Array Obj):Go.RowKit.Below w.heap.size w (grow (w.drewN k) os):=
 ⟨rfl,rfl,rfl,by (simp [grow];done),fun i hi=>by
  show ((w.drewN k).heap++os)[i]? = _;rw [Array.getElem?_append_left (by show i<w.heap.size;omega)];rfl⟩
theorem pow10_is {g : Gh} {w : World} (h : GlobOK g w) : Lib.TabIs Tryz.prog w "internal/strconv.uint64pow10" .u64 Lib.pow10Tab := by
 obtain ⟨_,T,fr,h2⟩:=h.tabs _ (N6.2 rfl);have e : Tryz.prog.globalNamed "internal/strconv.uint64pow10" = some 7 := by kernel_rfl
 unfold Lib.TabIs World.var?;rw [e];show (match w.heap[7]? with | some (.cells cs _ _)=>some cs | _=>none)=_;rw [h2];rfl
theorem kItoa (n:Int)(h0 : -9223372036854775808≤n)(h1:n≤9223372036854775807):An Tryz.prog 270 [.int .i64 n] (.str (Go.Lib.itoa n)):=
 .of_calls fun g w vs hg ha=>by
  obtain ⟨v,rfl,h2⟩:=ha.inv1;have e1:=h2.inv_int;subst e1;have hl:=Go.Lib.itoa_length_le n h0 h1;refine ⟨.string ⟨(Go.Lib.itoa n).toArray⟩,fun _ _ _=>S9 (by unfold maxLen;omega),(Tryz.strconv_Itoa n h0 h1 w (pow10_is hg)).mono ?_⟩;rintro e w' ⟨rfl,k,os,rfl⟩;exact ⟨rfl,nO w k os⟩
set_option maxHeartbeats 1600000
set_option maxRecDepth 20000

theorem wZ (b TT:Nat)(r:AV)(rest:List AV)(hl:liesAt Tryz.prog Tryz.prog.depth TT ((rest.length+2) / Tryz.prog.cellsOf TT) 0 213 1=true)(R:List HO):B5 Tryz.prog 298 (.box b TT (.val (.pointer none)::r::rest)::R) [.val (.pointer (some ⟨b,0,none⟩))] (fun x H'=>x = .tuple []∧H' = .box b TT (.val (.pointer (some ⟨b,0,none⟩))::r::rest)::R):=by
 refine B5.body (n:=20) tok Tryz.func298 rfl rfl rfl ?_;refine Ad (Qp Bw (Qp (Aj rfl) (Qp Cc (AOL.Aan (Af (k:=0) (c:=.val (.pointer none)) tok rfl rfl rfl (rfl)) rfl rfl (Qp (Zb Tryz.underlying211 rfl rfl) (Ae (Ao (fun hc1=>AW.region (Qp Bw (Qp Bw (AOL.Aan (jL (k:=0) tok Tryz.underlying211 Tryz.underlying307 rfl rfl rfl (rfl)) rfl rfl ?_)))) fun hc1=>?_)))))))
 ·
  refine Qp (nK Tryz.func312 (by kernel_rfl) (by kernel_rfl) (by kernel_rfl) (by kernel_rfl) rfl) ?_;refine AOL.Aan (bO (k:=0) tok Tryz.underlying307 Tryz.underlying211 rfl (rfl) (hl) rfl) rfl rfl (Qp (Aj rfl) (Qp Cc ?_));refine Rt (A6 (k:=0) (v:=.val _) (cs':=(.val (.pointer (some ⟨b,0,none⟩))::r::rest)) (H2:=_::_) tok rfl rfl rfl rfl rfl rfl (Nat.ble_eq_true_of_le (by show 0+1≤rest.length+1+1;omega)) (rfl) rfl) ?_;refine AOL.nil ?_;refine ⟨.inl rfl,[],.nil,_,.refl _,?_⟩;exact ⟨rfl,rfl⟩
 cases hc1
theorem xC (b TT:Nat)(r:AV)(rest:List AV)(hl:liesAt Tryz.prog Tryz.prog.depth TT ((rest.length+2) / Tryz.prog.cellsOf TT) 0 213 1=true)(R:List HO):B5 Tryz.prog 298 (.box b TT (.val (.pointer (some ⟨b,0,none⟩))::r::rest)::R) [.val (.pointer (some ⟨b,0,none⟩))] (fun x H'=>x = .tuple []∧H' = .box b TT (.val (.pointer (some ⟨b,0,none⟩))::r::rest)::R):=by
 refine B5.body (n:=20) tok Tryz.func298 rfl rfl rfl ?_;refine Ad (Qp Bw (Qp (Aj rfl) (Qp Cc (AOL.Aan (Af (k:=0) (c:=.val (.pointer (some ⟨b,0,none⟩))) tok rfl rfl rfl (rfl)) rfl rfl (Qp (Zb Tryz.underlying211 rfl rfl) (Ae (Ao (fun hc1=>?_) fun hc1=>Ad (Qp Bw (Qp (Aj rfl) (Qp Cc (AOL.Aan (Af (k:=0) (c:=.val (.pointer (some ⟨b,0,none⟩))) tok rfl rfl rfl (rfl)) rfl rfl (Qp Bw ?_))))))))))))
 · cases hc1
 refine Qp (zE (z:=2) Tryz.underlying211 (by kernel_rfl) rfl rfl rfl) ?_;refine Ae (Ao (fun hc2=>?_) fun hc2=>AW.skip ?_)
 · cases hc2
 refine ⟨.inl rfl,[],.nil,_,.refl _,?_⟩;exact ⟨rfl,rfl⟩
theorem k_check (b TT:Nat)(p:Option Addr)(hp:p=none∨p=some ⟨b,0,none⟩)(r:AV)(rest:List AV)(hl:liesAt Tryz.prog Tryz.prog.depth TT ((rest.length+2) / Tryz.prog.cellsOf TT) 0 213 1=true)(R:List HO) :
  B5 Tryz.prog 298 (.box b TT (.val (.pointer p)::r::rest)::R) [.val (.pointer (some ⟨b,0,none⟩))] (fun x H'=>x = .tuple []∧H' = .box b TT (.val (.pointer (some ⟨b,0,none⟩))::r::rest)::R):=by
 rcases hp with rfl | rfl
 · exact wZ b TT r rest hl R
 exact xC b TT r rest hl R
theorem yN (b TT:Nat)(p:Option Addr)(hp:p=none∨p=some ⟨b,0,none⟩)(r:AV)(rest:List AV)(hl:liesAt Tryz.prog Tryz.prog.depth TT ((rest.length+2) / Tryz.prog.cellsOf TT) 0 213 1=true) :
 Bl Tryz.prog 298 b TT (.val (.pointer p)::r::rest) (.val (.pointer (some ⟨b,0,none⟩))::r::rest) [.val (.pointer (some ⟨b,0,none⟩))] (.tuple []):=fun R=>k_check b TT p hp r rest hl R
theorem k_write (b TT:Nat)(p:Option Addr)(hp:p=none∨p=some ⟨b,0,none⟩)(v:Value)(t s:A1)(rest:List AV)(hl:liesAt Tryz.prog Tryz.prog.depth TT ((rest.length+2) / Tryz.prog.cellsOf TT) 0 213 1=true)(hb:t.length+s.length≤140737488355328)(R:List HO):B5 Tryz.prog 268 (.row v (F4 t).length 5 1 :: .box b TT (.val (.pointer p) :: .row v 1 (F4 t)::rest)::R) [.val (.pointer (some ⟨b,0,none⟩)),.str s] (fun x H'=>∃v',x = .tuple [.int .i64 (s.length:Int),.val .nilIface]∧H' = .row v' (F4 (t++s)).length 5 1 :: .box b TT (.val (.pointer (some ⟨b,0,none⟩)) :: .row v' 1 (F4 (t++s))::rest)::R):=by
 refine B5.body (n:=19) tok Tryz.func268 rfl rfl rfl ?_;refine Ad (Qp Al (Qp Qk (Bs (Qp Bw (mW ((yN b TT p hp _ rest hl).at (k:=1) (H2:=_::_::_) rfl rfl) (Bs (Qp Bw (Qp Bw (Qp (Aj rfl) (Qp Cc (AOL.Aan (Af (k:=1) (c:=.row _ _ _) tok rfl rfl rfl rfl) rfl rfl (Qp D2 ?_))))))))))));refine Qe (jC (k:=0) tok rfl rfl rfl rfl Tryz.underlying9 rfl rfl rfl rfl (byc_sc _) (by rw [Lo];exact hb)) ?_;rintro _ _ ⟨v14,rfl,rfl⟩;refine Qp (Aj rfl) (Qp Cc ?_);refine Rt (A6 (k:=1) (v:=.row _ _ _) (cs':=(.val (.pointer (some ⟨b,0,none⟩)) :: .row v14 1 (F4 t++F4 s)::rest)) (H2:=_::_::_) tok rfl rfl rfl rfl rfl rfl (Nat.ble_eq_true_of_le (by show 1+1≤rest.length+1+1;omega)) (rfl) rfl) ?_;refine Bs (Qp D2 (Qp (Bx (n:=s.length) tok rfl rfl rfl (rfl)) (Qp Al (Qp Qk (Rb ?_)))));refine ⟨.inr rfl,[Iq _,.val _],.cons (.tmp _ _ rfl) <| .cons (.tmp _ _ rfl) <| .nil,_,.refl _,?_⟩;exact ⟨v14,rfl,congrArg (fun l=>HO.row v14 l.length 5 1::HO.box b TT (.val (.pointer (some ⟨b,0,none⟩)) :: .row v14 1 l::rest)::R) (byc_app t s).symm⟩
theorem k_string (b TT:Nat)(a0:AV)(v:Value)(t:A1)(rest:List AV)(R:List HO):B5 Tryz.prog 152 (.row v (F4 t).length 5 1 :: .box b TT (a0 :: .row v 1 (F4 t)::rest)::R) [.val (.pointer (some ⟨b,0,none⟩))] (fun x H'=>x = .str t∧H' = .row (.slice none 0 0) 0 5 1 :: .box b TT (a0 :: .row v 1 (F4 t)::rest)::R):=by
 refine B5.body (n:=14) tok Tryz.func152 rfl rfl rfl ?_;refine Ad (Qp D1 (Re ?_));refine AW.draw mixed (fun H'=>_∈H') (B6 (i:=1) rfl) (by kernel_rfl) ?_;refine Qn 0 rfl Bw (Qn 1 rfl (Aj rfl) (Qn 2 rfl Cc (Qn 3 rfl (OpP.Aap (fun k=>Af (k:=k) (c:=.row _ _ _) tok rfl rfl rfl rfl) (fun _ h=>h)) ?_)));refine Qn 5 rfl Bw (Qn 6 rfl (Aj rfl) (Qn 7 rfl Cc (Qn 8 rfl (OpP.Aap (fun k=>Af (k:=k) (c:=.row _ _ _) tok rfl rfl rfl rfl) (fun _ h=>h)) ?_)));refine Qn 9 rfl (Ec (n:=t.length) tok rfl rfl rfl (Lo t)) ?_;refine Hb.eff _ _ 4 _ _ rfl (by kernel_rfl) rfl rfl (jZ (k:=0) Tryz.underlying252 rfl rfl) (by rintro _ _ ⟨q7,hq7,rfl,rfl⟩;simp) ?_;rintro _ _ ⟨q7,hq7,rfl,rfl⟩;refine Hb.eff _ _ 10 _ _ rfl (by kernel_rfl) rfl rfl (Yy (k:=0) (kb:=1) (o:=1) Tryz.underlying252 (by kernel_rfl) rfl (rfl) hq7 rfl rfl rfl rfl) (by rintro _ _ ⟨rfl,rfl⟩;simp) ?_;rintro _ _ ⟨rfl,rfl⟩;refine Qn 11 rfl D1 ?_;refine Ej ?_;refine A5 (AW.ret ?_);refine ⟨.inr rfl,[.str _],.cons (.tmp _ _ rfl) <| .nil,_,.refl _,?_⟩;exact ⟨rfl,rfl⟩
theorem k_blen (b TT:Nat)(a0:AV)(v:Value)(t:A1)(rest:List AV)(R:List HO):B5 Tryz.prog 151 (.row v (F4 t).length 5 1 :: .box b TT (a0 :: .row v 1 (F4 t)::rest)::R) [.val (.pointer (some ⟨b,0,none⟩))] (fun x H'=>x = .int .i64 (t.length:Int)∧H' = .row v (F4 t).length 5 1 :: .box b TT (a0 :: .row v 1 (F4 t)::rest)::R):=by
 refine B5.body (n:=8) tok Tryz.func151 rfl rfl rfl ?_;refine Ad (Qp Al (Bs (Qp Bw (Qp (Aj rfl) (Qp Cc (AOL.Aan (Af (k:=1) (c:=.row _ _ _) tok rfl rfl rfl rfl) rfl rfl (Qp (Ec (n:=t.length) tok rfl rfl rfl (Lo t)) (Qp Al (Rb ?_)))))))));refine ⟨.inr rfl,[Iq _],.cons (.tmp _ _ rfl) <| .nil,_,.refl _,?_⟩;exact ⟨rfl,rfl⟩
theorem k_fb0 (c:Bool):An Tryz.prog 300 [.bool c] (.str (if c then Mv else Kx)):=by
 refine An.body (n:=4) tok Tryz.func300 rfl rfl rfl fun H=>?_
 refine Ad (Qp D1 (Ae (Rd (Qp A9 (Ae (Ao (fun hc1=>Ad (Qp D1 (Rc (Qr (.str _) ?_)))) fun hc1=>A7 (Ad (Qp D1 (Rb (Qr (.str _) ?_))))))))))
 ·
  simp only [Ag];rw [if_pos hc1]
 simp only [Ag];rw [Bi hc1]
theorem k_fbool (c:Bool):An Tryz.prog 271 [.bool c] (.str (if c then Mv else Kx)):=by
 refine An.body (n:=5) tok Tryz.func271 rfl rfl rfl fun H=>?_
 refine Ad (Qp D1 (Bs (Qp A9 (Qp (Qc rfl (k_fb0 c)) (Qp D1 (Rb (Qr (.str _) ?_)))))));rfl
def To (b:Nat):List AV:=
  [.fn (.func 207) [] [.ptr [.val (.pointer (some ⟨b,0,none⟩))]],
   .fn (.func 208) [.val (.pointer (some ⟨b,0,none⟩))] [],
   .fn (.func 209) [] [.ptr [.val (.pointer (some ⟨b,0,none⟩))]],
   .fn (.func 211) [.val (.pointer (some ⟨b,0,none⟩))] [],
   .val .nilFunc,
   .fn (.func 212) [.val (.pointer (some ⟨b,0,none⟩))] [],
   .fn (.func 269) [] [.ptr [.val (.pointer (some ⟨b,0,none⟩))],.ptr [.str Sw]],
   .fn (.func 269) [] [.ptr [.val (.pointer (some ⟨b,0,none⟩))],.ptr [.str Sx]],
   .fn (.func 269) [] [.ptr [.val (.pointer (some ⟨b,0,none⟩))],.ptr [.str Sq]],
   .fn (.func 269) [] [.ptr [.val (.pointer (some ⟨b,0,none⟩))],.ptr [.str Mz]],
   .fn (.func 269) [] [.ptr [.val (.pointer (some ⟨b,0,none⟩))],.ptr [.str Kt]],
   .fn (.func 269) [] [.ptr [.val (.pointer (some ⟨b,0,none⟩))],.ptr [.str Hq]],
   .fn (.func 269) [] [.ptr [.val (.pointer (some ⟨b,0,none⟩))],.ptr [.str Ic]],
   .fn (.func 214) [.val (.pointer (some ⟨b,0,none⟩))] [],
   .fn (.func 215) [] [.ptr [.val (.pointer (some ⟨b,0,none⟩))]],
   .fn (.func 216) [] [.ptr [.val (.pointer (some ⟨b,0,none⟩))]],
   .fn (.func 217) [.val (.pointer (some ⟨b,0,none⟩))] [],
   .fn (.func 218) [.val (.pointer (some ⟨b,0,none⟩))] [],
   .fn (.func 219) [] [.ptr [.val (.pointer (some ⟨b,0,none⟩))]]]
def WQ (b:Nat)(o:A1)(R:List HO):AV→List HO→Prop:=fun x H'=>∃v a,x = .tuple []∧(a=none∨a=some ⟨b,0,none⟩)∧H'=(.row v (F4 o).length 5 1 :: .box b 216 (.val (.pointer a) :: .row v 1 (F4 o)::To b)::R)
theorem wq {b:Nat}{o o':A1}{v:Value}{a:Option Addr}{R:List HO}(ha:a=none∨a=some ⟨b,0,none⟩)(e:o=o'):WQ b o' R (.tuple []) (.row v (F4 o).length 5 1 :: .box b 216 (.val (.pointer a) :: .row v 1 (F4 o)::To b)::R):=e▸⟨v,a,rfl,ha,rfl⟩
theorem wlies0:liesAt Tryz.prog Tryz.prog.depth 216 (21 / Tryz.prog.cellsOf 216) 0 213 1=true:=by kernel_rfl
theorem wlies (b:Nat):liesAt Tryz.prog Tryz.prog.depth 216 (((To b).length+2) / Tryz.prog.cellsOf 216) 0 213 1=true:=wlies0
abbrev cD:Nat:=140737488355328
def sc (ws:List A1):List (List AV):=ws.map fun s=>[.str s]
theorem sc_at {l:List A1}{k:Nat}{x:A1}(h:l[k]? = some x):(sc l)[k]? = some [.str x]:=by unfold sc;rw [List.getElem?_map,h];rfl
theorem cO {l:List A1}{k:Nat}{x:A1}(h:l[k]? = some x):(l.take (k+1)).flatten=(l.take k).flatten++x:=by
 rw [List.take_add_one,h];simp
theorem flat_le {l:List A1}{k:Nat}{x:A1}(h:l[k]? = some x):(l.take k).flatten.length+x.length≤l.flatten.length:=by
 have h1:=congrArg List.length (cO h);have h2:=congrArg List.length (congrArg List.flatten (List.take_append_drop (k+1) l));rw [List.flatten_append] at h2;simp only [Cb] at h1 h2;omega
theorem Fb (b:Nat)(o:A1)(v:Value)(a:Option Addr)(ha:a=none∨a=some ⟨b,0,none⟩)(R:List HO)(l:List A1)(hl:l.length≤100)(hb:o.length+l.flatten.length≤cD):B5 Tryz.prog 210 (.row v (F4 o).length 5 1 :: .box b 216 (.val (.pointer a) :: .row v 1 (F4 o)::To b)::R) [.val (.pointer (some ⟨b,0,none⟩)),.sl 1 (sc l)] (WQ b (o++l.flatten) R):=by
 refine B5.body (n:=18) tok Tryz.func210 rfl rfl rfl ?_;refine Ad (Qp Fh ?_);refine Qp (Ai (n:=l.length) tok rfl rfl rfl (by simp [sc])) ?_;refine Qp Am (Ae (AW.block ?_));refine AW.Aam (fun (p:Nat×A1×Value×Option Addr)=>(⟨[(0,.val (.pointer (some ⟨b,0,none⟩))),(6,.sl 1 (sc l)),(7,.int .i64 l.length),(8,.int .i64 (p.1:Int))],(.row p.2.2.1 (F4 p.2.1).length 5 1 :: .box b 216 (.val (.pointer p.2.2.2) :: .row p.2.2.1 1 (F4 p.2.1)::To b)::R),18⟩:St)) (fun p=>p.1≤l.length∧p.2.1=o++(l.take p.1).flatten∧(p.2.2.2=none∨p.2.2.2=some ⟨b,0,none⟩)) (fun p=>l.length-p.1) ((0,o,v,a)) ?_ Bv ?_
 · exact ⟨Dh _,by simp,ha⟩
 rintro p hR;refine Ad (Qp Bp (Re (Ao (fun hc1=>?_) fun hc1=>?_)))
 ·
  obtain ⟨x,hx⟩:=mH (l:=l) (k:=p.1) (by have:=Gv hc1;omega);have hlt:=Mf hx;have hle:=flat_le hx;refine A7 (AW.seq (AW.block (Ad ?_)));refine Qp (Aa (c:=[.str _]) tok rfl rfl rfl rfl rfl rfl (by omega) (sc_at hx)) ?_;refine Qp C9 (Qp D1 (Ae (AW.region (Qp Bw (Qp (Aj rfl) (Qp Cc (Qp D2 ?_)))))));refine Qe (Dc rfl (k_write b 216 p.2.2.2 hR.2.2 p.2.2.1 p.2.1 x (To b) (wlies b) (by rw [hR.2.1,Cb];unfold cD at hb;omega) R)) ?_;rintro _ _ ⟨v16,rfl,rfl⟩;refine Rk (AW.region (Qp Dl (Qp Am (Ae ?_))));refine ⟨(p.1+1,p.2.1++x,v16,some ⟨b,0,none⟩),?_,?_,Bv⟩
  · exact ⟨hlt,by rw [cO hx,←J1,←hR.2.1],.inr rfl⟩
  simp only;omega
 have hk:l.length≤p.1:=by have:=If hc1;omega
 refine AW.exit ?_;refine Bk (Bk (Th ?_));refine ⟨.inl rfl,[],.nil,_,.refl _,?_⟩;exact wq hR.2.2 (by rw [hR.2.1,List.take_of_length_le hk])
end Go.Proofs.YtckhoadldibflaaGreatDoor
