/-
  Several texts in one: Y15, Y16, Y19, Y22, Ac, G11, Ab, B11. No condition.
-/
import Derived.Test.YtkddpedfbicbeaaGreatDoorK01
import Derived.Test.YtkddpedfbicbeaaGreatDoorK19
import Derived.KernelRfl
import Derived.Test.YtkddpedfbicbeaaGreatDoorK13
import Derived.WideShapes
import Derived.Test.YtkddpedfbicbeaaGreatDoorAx
import Derived.Test.YtkddpedfbicbeaaGreatDoorCards
import Derived.Test.YtkddpedfbicbeaaGreatDoorTie
import Derived.Deep.DeepHandedRow
import Derived.Lib.LaidTab
import Derived.OpenShut
import Derived.Test.YtkddpedfbicbeaaGreatDoorRows
import Derived.Test.YtkddpedfbicbeaaGreatDoorK11
import Derived.JoinedCond
import Derived.ProofKit
set_option linter.unusedVariables false
set_option linter.unusedSimpArgs false
namespace Go.Proofs.YtkddpedfbicbeaaGreatDoor
open Go Go.Aw
set_option maxHeartbeats 25600000
set_option maxRecDepth 20000

set_option maxRecDepth 100000
theorem tO:Ax Tryz.prog 13 [.sl 2 (rY.map N1),.sl 2 (tX.map U8),.agg (cE clE)] (.tuple [.sl 1 (clL.map Po),.int .i64 0]):=by
 have h:=tD rY (by decide) iC tX (by decide) clE (Nn _ (by decide))
 rw [ex_cl] at h
 exact h
theorem c_zone:Ax Tryz.prog 43 [.sl 2 (rY.map N1),.sl 2 (tX.map U8),.sl 9 ([⟨N0,true⟩,⟨two 7 (Hu 0) (Hu 1),false⟩].map G5)] (.tuple [.agg (T6 znE),.sl 8 ([Hu 0,Hu 1].map Fv),.int .i64 0]):=by
 have h:=d_Zone rY (by decide) iC tX (by decide) [⟨N0,true⟩,⟨two 7 (Hu 0) (Hu 1),false⟩] (by decide) (fun c hc=>aJ _ (List.mem_cons_self ..) c hc)
 rw [ex_zn] at h
 exact h
theorem c_same:Ax Tryz.prog 15 [.sl 1 (clL.map Po),.sl 1 (clL.map Po)] (.bool true):=by
 have h:=Zc clL clL (by decide) (by decide) aJ
 rw [Aaj] at h
 exact h
theorem c_sameZ:Ax Tryz.prog 44 [.agg (T6 znE),.agg (T6 znE)] (.bool true):=Aan znE (by decide)
theorem Aah:Ax Tryz.prog 45 [.sl 8 ([Hu 0,Hu 1].map Fv),.sl 8 ([Hu 0,Hu 1].map cE)] (.bool true):=by
 have h:=qP [Hu 0,Hu 1] (by decide) (Mj _ (by decide))
 exact h
theorem c_imp1:Ax Tryz.prog 24 [.sl 2 (rY.map N1),.sl 2 (tX.map U8),.agg (cE N0),.agg (cE (two 7 (Hu 0) (Zk 4)))] (.tuple [.int .i64 1,.int .i64 0]):=by
 have h:=Tt rY (by decide) iC tX (by decide) N0 (two 7 (Hu 0) (Zk 4)) (Nn _ (by decide)) (Nn _ (by decide))
 rw [imp_1] at h
 exact h
theorem c_imp2:Ax Tryz.prog 24 [.sl 2 (rY.map N1),.sl 2 (tX.map U8),.agg (cE (two 7 (Hu 0) (Zk 4))),.agg (cE N0)] (.tuple [.int .i64 2,.int .i64 0]):=by
 have h:=Tt rY (by decide) iC tX (by decide) (two 7 (Hu 0) (Zk 4)) N0 (Nn _ (by decide)) (Nn _ (by decide))
 rw [imp_2] at h
 exact h
theorem eE  : Ax Tryz.prog 10 [] (.bool true):=by
 refine Ax.body (n:=179) Ai Tryz.func10 rfl rfl rfl fun H=>?_
 refine Ah (Qp Bg (Dh ?_))
 refine Qp (Qc rfl (Zx)) ?_
 refine Qe (Al (l:=[.sl 2 [],.sl 2 []]) (by kernel_rfl)) ?_
 rintro _ _ ⟨b1,rfl,rfl⟩
 refine Co 0 [_,_] (_::_) ?_
 refine AOL.ghost (GS.Aa4 (t:=1) 0 rfl rfl) ?_
 refine Dh ?_
 refine Qp (Qc rfl (F2 _)) ?_
 refine Qp (Qc rfl (Ot _)) ?_
 refine Qp (Qc rfl (Lv _ _ _)) ?_
 refine Qe (Al (l:=[.int .i64 0,.sl 8 [],.int .i64 0,.int .i64 0,.int .i64 0,.int .i64 0,.int .i64 0,.str []]) (by kernel_rfl)) ?_
 rintro _ _ ⟨b2,rfl,rfl⟩
 refine Co 0 [Iq _,_,Iq _,Iq _,Iq _,Iq _,Iq _,.str _] (_::_) ?_
 refine AOL.ghost (GS.Aa4 (t:=2) 0 rfl rfl) ?_
 refine Ag (AW.seq ?_)
 refine AW.draw mixed (fun _=>True) trivial (by kernel_rfl) ?_
 refine Qn 0 rfl (Qf [_,_]) (Qn 1 rfl Dm (Qn 2 rfl (Qf [_]) (Qn 3 rfl Dm (Qn 4 rfl D1 ?_))))
 refine Qn 5 rfl (Qc rfl (F2 _)) ?_
 refine Qn 6 rfl (Qc rfl (F2 _)) ?_
 refine Qn 7 rfl (Qc rfl (Lv _ _ _)) ?_
 refine Qn 8 rfl (Qc rfl (Lv _ _ _)) ?_
 refine Qn 9 rfl (Qc rfl (l_not _)) ?_
 refine Qn 10 rfl (Qc rfl (tO)) ?_
 refine Qn 11 rfl Mx (Qn 12 rfl Qxs (Qn 13 rfl Jq (Qn 14 rfl Vy (Qn 15 rfl Av ?_))))
 refine Jx.done _ _ (by kernel_rfl) ?_
 refine Ae (Ah (Qp D1 (Qp (Et [Iq _,_,Iq _,Iq _,Iq _,Iq _,Iq _,.str _,.bool _]) ?_)))
 refine Qe (Al (l:=[.int .i64 0,.sl 8 [],.int .i64 0,.int .i64 0,.int .i64 0,.int .i64 0,.int .i64 0,.str [],.bool false]) (by kernel_rfl)) ?_
 rintro _ _ ⟨b5,rfl,rfl⟩
 refine Co 0 [Iq _,_,Iq _,Iq _,Iq _,Iq _,Iq _,.str _,.bool _] (_::_) ?_
 refine AOL.ghost (GS.Aa4 (t:=5) 0 rfl rfl) ?_
 refine Ag (AW.seq (AW.seq ?_))
 refine AW.draw mixed (fun _=>True) trivial (by kernel_rfl) ?_
 refine Qn 0 rfl A2 (Qn 1 rfl Ct (Qn 2 rfl Br (Qo 3 rfl [] Qw C6 (Qo 4 rfl [] Qw (Cm [Iq _,_,Iq _,Iq _,Iq _,Iq _,Iq _,.str _,.bool _]) ?_))))
 refine Qo 5 rfl [] Qw (Qc rfl (F2 _)) ?_
 refine Qo 6 rfl [] Qw (Qc rfl (F2 _)) ?_
 refine Jx.pure _ _ 7 _ _ rfl (by kernel_rfl) (by kernel_rfl) rfl (.opt _ (.agg _) [(43,_),(44,_)] rfl (sF.all ⟨Ent.Aa3 _ _,Ent.Aa3 _ _,trivial⟩) (fun hG=>C8 (by kernel_rfl) rfl rfl (Lv _ _ _)) rfl) ?_
 refine Qo 8 rfl [(45,_)] Qw (Et [Iq _,_,Iq _,Iq _,Iq _,Iq _,Iq _,.str _,.bool _]) ?_
 refine Jx.pure _ _ 9 _ _ rfl (by kernel_rfl) (by kernel_rfl) rfl (.opt _ (.sl _ _) [(42,_),(46,_)] rfl (sF.all ⟨Ent.Aa3 _ _,Ent.Aa3 _ _,trivial⟩) (fun hG=>A1 (es:=[[Iq _,_,Iq _,Iq _,Iq _,Iq _,Iq _,.str _,.bool _],[Iq _,_,Iq _,Iq _,Iq _,Iq _,Iq _,.str _,.bool _]]) Ai rfl rfl rfl rfl rfl rfl rfl rfl rfl) rfl) ?_
 refine Qo 10 rfl [] Qw (Cm [Iq _,_,Iq _,Iq _,Iq _,Iq _,Iq _,.str _,.bool _]) ?_
 refine Qo 11 rfl [] Qw (Qc rfl (F2 _)) ?_
 refine Qo 12 rfl [] Qw (Qc rfl (F2 _)) ?_
 refine Jx.pure _ _ 13 _ _ rfl (by kernel_rfl) (by kernel_rfl) rfl (.opt _ (.agg _) [(49,_),(50,_)] rfl (sF.all ⟨Ent.Aa3 _ _,Ent.Aa3 _ _,trivial⟩) (fun hG=>C8 (by kernel_rfl) rfl rfl (Lv _ _ _)) rfl) ?_
 refine Qo 14 rfl [(51,_)] Qw (Et [Iq _,_,Iq _,Iq _,Iq _,Iq _,Iq _,.str _,.bool _]) ?_
 refine Jx.pure _ _ 15 _ _ rfl (by kernel_rfl) (by kernel_rfl) rfl (.opt _ (.sl _ _) [(48,_),(52,_)] rfl (sF.all ⟨Ent.Aa3 _ _,Ent.Aa3 _ _,trivial⟩) (fun hG=>A1 (es:=[[Iq _,_,Iq _,Iq _,Iq _,Iq _,Iq _,.str _,.bool _],[Iq _,_,Iq _,Iq _,Iq _,Iq _,Iq _,.str _,.bool _]]) Ai rfl rfl rfl rfl rfl rfl rfl rfl rfl) rfl) ?_
 refine Jx.pure _ _ 16 _ _ rfl (by kernel_rfl) (by kernel_rfl) rfl (.opt _ (.sl _ _) [(47,_),(53,_)] rfl (sF.all ⟨Ent.Aa3 _ _,Ent.Aa3 _ _,trivial⟩) (fun hG=>A1 (es:=[[_],[_]]) Ai rfl rfl rfl rfl rfl rfl rfl rfl rfl) rfl) ?_
 refine Jx.pure _ _ 17 _ _ rfl (by kernel_rfl) (by kernel_rfl) rfl (.opt _ (.bool _) [(41,_),(54,_)] rfl (sF.all ⟨Ent.Aa3 _ _,Ent.Aa3 _ _,trivial⟩) (fun hG=>C8 (by kernel_rfl) rfl rfl (c_same)) rfl) ?_
 refine Qo 18 rfl [(55,_)] Qw Gt (Qn 19 rfl E5 ?_)
 refine Jx.done _ _ (by kernel_rfl) ?_
 refine Ae (A5 (fun hc1=>?_) fun hc1=>?_)
 ·
  cases hc1
 ·
  refine Bz (AW.seq ?_)
  refine AW.draw mixed (fun _=>True) trivial (by kernel_rfl) ?_
  refine Qn 0 rfl (Qf [_,_]) (Qn 1 rfl Dm (Qn 2 rfl (Qf [_]) (Qn 3 rfl Dm (Qn 4 rfl C6 ?_))))
  refine Qn 5 rfl (Af (c:=[_]) Ai rfl rfl rfl rfl rfl rfl (by decide) (rfl)) ?_
  refine Qn 6 rfl Dm ?_
  refine Qn 7 rfl (Qc rfl (c_zone)) ?_
  refine Qn 8 rfl Mx ?_
  refine Qn 9 rfl (Cd (v:=.agg [Iq _,_]) rfl rfl) ?_
  refine Qn 10 rfl Qxs (Qn 11 rfl Jq ?_)
  refine Jx.eff _ _ 12 _ _ rfl (by kernel_rfl) rfl rfl (Al (l:=[.int .i64 0,.sl 3 []]) (by kernel_rfl)) (fun _ _ _=>trivial) ?_
  rintro _ _ ⟨b6,rfl,rfl⟩
  refine Jx.eff _ _ 13 _ _ rfl (by kernel_rfl) rfl rfl (C7 (k:=0) (v:=.agg _) (cs':=[Iq _,_]) (H2:=_::_) Ai rfl rfl rfl rfl (rfl) rfl rfl rfl rfl) (fun _ _ _=>trivial) ?_
  rintro _ _ ⟨rfl,rfl⟩
  refine Qn 14 rfl Vy (Qn 15 rfl Av ?_)
  refine Jx.done _ _ (by kernel_rfl) ?_
  refine Ae ?_
  refine AW.ghost (GS.Aa4 (t:=6) 0 rfl rfl) ?_
  refine Ah (Qp (Et [Iq _,Iq _,Iq _]) (Qp (Et [Iq _,Iq _,Iq _]) (Qp (Et [Iq _,Iq _,Iq _]) (Qp (Et [Iq _,Iq _,Iq _]) (Qp (Et [Iq _,Iq _,Iq _]) (Qp (Et [Iq _,Iq _,Iq _]) ?_))))))
  refine Qp (A1 (es:=[[Iq _,Iq _,Iq _],[Iq _,Iq _,Iq _],[Iq _,Iq _,Iq _],[Iq _,Iq _,Iq _],[Iq _,Iq _,Iq _],[Iq _,Iq _,Iq _]]) Ai rfl rfl rfl rfl rfl rfl rfl rfl rfl) ?_
  refine Qp (Et [Iq _,_]) ?_
  refine Qe (Al (l:=[.int .i64 0,.sl 3 []]) (by kernel_rfl)) ?_
  rintro _ _ ⟨b9,rfl,rfl⟩
  refine Co 0 [Iq _,_] (_::_) ?_
  refine AOL.ghost (GS.Aa4 (t:=9) 0 rfl rfl) ?_
  refine Ag (AW.seq (Ah (Qp A2 (Qp Ct (Qp Br (Qg [] Qw (Cm [Iq _,_]) (Qg [] Qw (Cm [Iq _,_]) ?_)))))))
  refine AOL.Aa6 (y:=.bool _) _ [(81,_),(82,_)] rfl (sF.all ⟨Ent.Aa3 _ _,Ent.Aa3 _ _,trivial⟩) (fun hG=>C8 (by kernel_rfl) rfl rfl (c_sameZ)) rfl ?_
  refine Qg [(83,_)] Qw Gt (Qp E5 (Qp Br (Qg [] Qw C6 ?_)))
  refine Qg [] Qw (Qc rfl (F2 _)) ?_
  refine Qg [] Qw (Qc rfl (F2 _)) ?_
  refine AOL.Aa6 (y:=.sl _ _) _ [(88,_),(89,_)] rfl (sF.all ⟨Ent.Aa3 _ _,Ent.Aa3 _ _,trivial⟩) (fun hG=>A1 (es:=[[Iq _,_,Iq _,Iq _,Iq _,Iq _,Iq _,.str _],[Iq _,_,Iq _,Iq _,Iq _,Iq _,Iq _,.str _]]) Ai rfl rfl rfl rfl rfl rfl rfl rfl rfl) rfl ?_
  refine AOL.Aa6 (y:=.bool _) _ [(87,_),(90,_)] rfl (sF.all ⟨Ent.Aa3 _ _,Ent.Aa3 _ _,trivial⟩) (fun hG=>C8 (by kernel_rfl) rfl rfl (Aah)) rfl ?_
  refine Qg [(91,_)] Qw Gt (Qp E5 (Ag (A5 (fun hc2=>?_) fun hc2=>?_)))
  ·
   cases hc2
  ·
   refine Bz (Ah ?_)
   refine Qp (Qc rfl (F2 _)) ?_
   refine Qp (Qc rfl (F2 _)) ?_
   refine Qp (Qc rfl (Lv _ _ _)) ?_
   refine Qe (Al (l:=[.int .i64 0,.sl 8 [],.int .i64 0,.int .i64 0,.int .i64 0,.int .i64 0,.int .i64 0,.str []]) (by kernel_rfl)) ?_
   rintro _ _ ⟨b10,rfl,rfl⟩
   refine Co 0 [Iq _,_,Iq _,Iq _,Iq _,Iq _,Iq _,.str _] (_::_) ?_
   refine AOL.ghost (GS.Aa4 (t:=10) 0 rfl rfl) ?_
   refine Dh ?_
   refine Qp (C3 (v:=.fn _ _ _) rfl) ?_
   refine Dh (Qp (Et [Iq _,Iq _,.str _]) (Qp (Et [Iq _,_,Iq _,Iq _,Iq _,Iq _,Iq _,.str _]) ?_))
   refine Qe (Al (l:=[.int .i64 0,.sl 8 [],.int .i64 0,.int .i64 0,.int .i64 0,.int .i64 0,.int .i64 0,.str []]) (by kernel_rfl)) ?_
   rintro _ _ ⟨b12,rfl,rfl⟩
   refine Co 0 [Iq _,_,Iq _,Iq _,Iq _,Iq _,Iq _,.str _] (_::_) ?_
   refine AOL.ghost (GS.Aa4 (t:=12) 0 rfl rfl) ?_
   refine Dh (Qp (Et [Iq _,_,Iq _,Iq _,Iq _,Iq _,Iq _,.str _]) ?_)
   refine Qp (Qc rfl (Ot _)) ?_
   refine Qp (Qc rfl (Lv 9 ⟨3,[],0,0,0,v0⟩ (Zk 2))) ?_
   refine Qe (Al (l:=[.int .i64 0,.sl 8 [],.int .i64 0,.int .i64 0,.int .i64 0,.int .i64 0,.int .i64 0,.str []]) (by kernel_rfl)) ?_
   rintro _ _ ⟨b13,rfl,rfl⟩
   refine Co 0 [Iq _,_,Iq _,Iq _,Iq _,Iq _,Iq _,.str _] (_::_) ?_
   refine AOL.ghost (GS.Aa4 (t:=13) 0 rfl rfl) ?_
   refine Ag (AW.seq ?_)
   refine AW.draw mixed (fun _=>True) trivial (by kernel_rfl) ?_
   refine Qn 0 rfl (Qf [_,_]) (Qn 1 rfl Dm (Qn 2 rfl (Qf [_]) (Qn 3 rfl Dm (Qn 4 rfl D1 ?_))))
   refine Qn 5 rfl (Qc rfl (F2 _)) ?_
   refine Qn 6 rfl (Qc rfl (Ot _)) ?_
   refine Qn 7 rfl (Qc rfl (Lv _ _ _)) ?_
   refine Qn 8 rfl (Qc rfl (c_imp1)) ?_
   refine Qn 9 rfl Mx (Qn 10 rfl Jq (Qn 11 rfl Jq (Qn 12 rfl Av (Qn 13 rfl Av ?_))))
   refine Jx.done _ _ (by kernel_rfl) ?_
   refine Ae (AW.seq ?_)
   refine AW.draw mixed (fun _=>True) trivial (by kernel_rfl) ?_
   refine Qn 0 rfl (Qf [_,_]) (Qn 1 rfl Dm (Qn 2 rfl (Qf [_]) (Qn 3 rfl Dm ?_)))
   refine Qn 4 rfl (Qc rfl (F2 _)) ?_
   refine Qn 5 rfl (Qc rfl (Ot _)) ?_
   refine Qn 6 rfl (Qc rfl (Lv _ _ _)) ?_
   refine Qn 7 rfl D1 ?_
   refine Qn 8 rfl (Qc rfl (c_imp2)) ?_
   refine Qn 9 rfl Mx (Qn 10 rfl Jq (Qn 11 rfl Jq (Qn 12 rfl Av (Qn 13 rfl Av ?_))))
   refine Jx.done _ _ (by kernel_rfl) ?_
   refine Ae (AW.seq ?_)
   refine AW.draw mixed (fun _=>True) trivial (by kernel_rfl) ?_
   refine Qn 0 rfl D1 ?_
   refine Qn 1 rfl (Bl (v:=.fn _ _ _) rfl) ?_
   refine Qn 2 rfl (D2 (by kernel_rfl) rfl rfl rfl (vA 1)) ?_
   refine Qn 3 rfl (A1 (es:=[[Iq _,_,Iq _,Iq _,Iq _,Iq _,Iq _,.str _],[Iq _,_,Iq _,Iq _,Iq _,Iq _,Iq _,.str _]]) Ai rfl rfl rfl rfl rfl rfl rfl rfl rfl) ?_
   refine Qn 4 rfl (Qc rfl (Lu 2 [upE,gJ 1] (by decide) (Mj _ (by decide)) ver_1)) ?_
   refine Qn 5 rfl Br (Qo 6 rfl [] Qw D1 ?_)
   refine Jx.pure _ _ 7 _ _ rfl (by kernel_rfl) (by kernel_rfl) rfl (.opt _ (.fn _ _ _) [] rfl (sF.all trivial) (fun hG=>Bl (v:=.fn _ _ _) rfl) rfl) ?_
   refine Jx.pure _ _ 8 _ _ rfl (by kernel_rfl) (by kernel_rfl) rfl (.opt _ (.agg _) [(133,_)] rfl (sF.all ⟨Ent.Aa3 _ _,trivial⟩) (fun hG=>D2 (by kernel_rfl) rfl rfl rfl (vA 2)) rfl) ?_
   refine Jx.pure _ _ 9 _ _ rfl (by kernel_rfl) (by kernel_rfl) rfl (.opt _ (.sl _ _) [(132,_),(134,_)] rfl (sF.all ⟨Ent.Aa3 _ _,Ent.Aa3 _ _,trivial⟩) (fun hG=>A1 (es:=[[Iq _,_,Iq _,Iq _,Iq _,Iq _,Iq _,.str _],[Iq _,_,Iq _,Iq _,Iq _,Iq _,Iq _,.str _]]) Ai rfl rfl rfl rfl rfl rfl rfl rfl rfl) rfl) ?_
   refine Qo 10 rfl [(135,_)] Qw (Qc rfl (Lu 1 [upE,gJ 2] (by decide) (Mj _ (by decide)) ver_2)) ?_
   refine Qn 11 rfl E3 (Qn 12 rfl Br ?_)
   refine Qo 13 rfl [] Qw (Qc rfl (Se _)) ?_
   refine Qo 14 rfl [] Qw D1 ?_
   refine Jx.pure _ _ 15 _ _ rfl (by kernel_rfl) (by kernel_rfl) rfl (.opt _ (.agg _) [(139,_),(140,_)] rfl (sF.all ⟨Ent.Aa3 _ _,Ent.Aa3 _ _,trivial⟩) (fun hG=>C8 (by kernel_rfl) rfl rfl (Lv 9 (T1 0) Ye)) rfl) ?_
   refine Qo 16 rfl [] Qw (Qc rfl (Se _)) ?_
   refine Qo 17 rfl [] Qw (Qc rfl (Se _)) ?_
   refine Jx.pure _ _ 18 _ _ rfl (by kernel_rfl) (by kernel_rfl) rfl (.opt _ (.agg _) [(142,_),(143,_)] rfl (sF.all ⟨Ent.Aa3 _ _,Ent.Aa3 _ _,trivial⟩) (fun hG=>C8 (by kernel_rfl) rfl rfl (Lv 9 (T1 1) (T1 0))) rfl) ?_
   refine Qo 19 rfl [] Qw (Qc rfl (Se _)) ?_
   refine Qo 20 rfl [] Qw D1 ?_
   refine Jx.pure _ _ 21 _ _ rfl (by kernel_rfl) (by kernel_rfl) rfl (.opt _ (.agg _) [(145,_),(146,_)] rfl (sF.all ⟨Ent.Aa3 _ _,Ent.Aa3 _ _,trivial⟩) (fun hG=>C8 (by kernel_rfl) rfl rfl (Lv 9 (T1 1) Ye)) rfl) ?_
   refine Qo 22 rfl [(147,_)] Qw (Qc rfl (l_not (two 9 (T1 1) Ye))) ?_
   refine Jx.pure _ _ 23 _ _ rfl (by kernel_rfl) (by kernel_rfl) rfl (.opt _ (.sl _ _) [(141,_),(144,_),(148,_)] rfl (sF.all ⟨Ent.Aa3 _ _,Ent.Aa3 _ _,Ent.Aa3 _ _,trivial⟩) (fun hG=>A1 (es:=[[Iq _,_,Iq _,Iq _,Iq _,Iq _,Iq _,.str _],[Iq _,_,Iq _,Iq _,Iq _,Iq _,Iq _,.str _],[Iq _,_,Iq _,Iq _,Iq _,Iq _,Iq _,.str _]]) Ai rfl rfl rfl rfl rfl rfl rfl rfl rfl) rfl) ?_
   refine Qo 24 rfl [(149,_)] Qw (Qc rfl (Lu 2 [two 9 (T1 0) Ye,two 9 (T1 1) (T1 0),Ow (two 9 (T1 1) Ye)] (by decide) (Mj _ (by decide)) ver_3)) ?_
   refine Qn 25 rfl E3 (Qn 26 rfl Br (Qo 27 rfl [] Qw D1 ?_))
   refine Jx.pure _ _ 28 _ _ rfl (by kernel_rfl) (by kernel_rfl) rfl (.opt _ (.sl _ _) [(153,_)] rfl (sF.all ⟨Ent.Aa3 _ _,trivial⟩) (fun hG=>A1 (es:=[[Iq _,_,Iq _,Iq _,Iq _,Iq _,Iq _,.str _]]) Ai rfl rfl rfl rfl rfl rfl rfl rfl rfl) rfl) ?_
   refine Qo 29 rfl [(154,_)] Qw (Qc rfl (Lu 0 [bW] (by decide) (Mj _ (by decide)) ver_4)) ?_
   refine Qn 30 rfl E3 (Qn 31 rfl Br (Qo 32 rfl [] Qw D1 ?_))
   refine Qo 33 rfl [] Qw (Qc rfl (F2 _)) ?_
   refine Qo 34 rfl [] Qw (Qc rfl (F2 _)) ?_
   refine Jx.pure _ _ 35 _ _ rfl (by kernel_rfl) (by kernel_rfl) rfl (.opt _ (.agg _) [(159,_),(160,_)] rfl (sF.all ⟨Ent.Aa3 _ _,Ent.Aa3 _ _,trivial⟩) (fun hG=>C8 (by kernel_rfl) rfl rfl (Lv _ _ _)) rfl) ?_
   refine Jx.pure _ _ 36 _ _ rfl (by kernel_rfl) (by kernel_rfl) rfl (.opt _ (.sl _ _) [(158,_),(161,_)] rfl (sF.all ⟨Ent.Aa3 _ _,Ent.Aa3 _ _,trivial⟩) (fun hG=>A1 (es:=[[Iq _,_,Iq _,Iq _,Iq _,Iq _,Iq _,.str _],[Iq _,_,Iq _,Iq _,Iq _,Iq _,Iq _,.str _]]) Ai rfl rfl rfl rfl rfl rfl rfl rfl rfl) rfl) ?_
   refine Qo 37 rfl [(162,_)] Qw (Qc rfl (Lu 2 [bW,two 7 (Hu 0) (Hu 0)] (by decide) (Mj _ (by decide)) ver_5)) ?_
   refine Qn 38 rfl E3 (Qn 39 rfl Br (Qo 40 rfl [] Qw A2 (Qo 41 rfl [] Qw A2 ?_)))
   refine Jx.pure _ _ 42 _ _ rfl (by kernel_rfl) (by kernel_rfl) rfl (.opt _ (Iq _) [(166,_),(167,_)] rfl (sF.all ⟨Ent.Aa3 _ _,Ent.Aa3 _ _,trivial⟩) (fun hG=>fF rfl rfl rfl (by constructor <;> omega)) rfl) ?_
   refine Qo 43 rfl [(168,_)] Qw A7 (Qn 44 rfl E3 (Qn 45 rfl Br (Qo 46 rfl [] Qw A2 (Qo 47 rfl [(172,_)] Qw A7 (Qn 48 rfl E3 (Qn 49 rfl Br (Qo 50 rfl [] Qw A2 (Qo 51 rfl [(176,_)] Qw A7 (Qn 52 rfl E3 ?_)))))))))
   refine Qn 53 rfl Bg ?_
   refine Jx.done _ _ (by kernel_rfl) ?_
   refine Ae (AW.ret ?_)
   refine Qr (.bool _) ?_
   rfl


set_option maxRecDepth 100000
theorem gR (e:Ex):At (C2 e).1≤1048576:=by
 unfold C2
 split
 · exact (show At Wc≤1048576 by decide)
 ·
  rename_i h1
  split
  · exact (show At Wc≤1048576 by decide)
  ·
   rename_i h2
   exact Nat.le_trans (Xu (Bool.eq_false_iff.2 h2)) (by decide)
theorem xS {e:Ex}(h:At e≤1048576):∀x∈[e],At x≤1048576:=fun x hx=>by rw [List.mem_singleton.1 hx];exact h
theorem l_fewC (T:List Sc)(hl:T.length≤1048576)(hst:∀s∈T,Jn s)(V:List Va)(hvl:V.length≤1048576)(es:List Ex)(hel:es.length≤1048576)(hes:∀e∈es,At e≤1048576):Ax Tryz.prog 9 [.agg (Cq T V),.sl 8 (es.map cE)] (.bool (iR T V es)):=by
 have h:=l_few T hl hst V hvl es hel hes
 rw [show es.map Fv=es.map cE from List.map_congr_left fun e _=>Jd e] at h
 exact h
set_option maxHeartbeats 3200000
set_option maxRecDepth 20000

theorem pT (T:List Sc)(hl:T.length≤1048576)(hst:∀s∈T,Jn s)(V:List Va)(hvl:V.length≤1048576)(l:List Ev)(hel:l.length≤1048576)(e:Ex)(hs:At e≤1048576):Ax Tryz.prog 23 [.agg (Cq T V),.sl 5 (l.map Oo),.agg (cE e)] (.bool (Pk T V l e)):=by
 refine Ax.body (n:=38) Ai Tryz.func23 rfl rfl rfl fun H=>?_
 refine Ah (Qp (F5 [_,_]) (Qp La (Qp Bg (Dh (Qp (Cm [_,_]) (Qp D1 ?_))))))
 refine Qp (A1 (es:=[[Iq _,_,Iq _,Iq _,Iq _,Iq _,Iq _,.str _]]) Ai rfl rfl rfl rfl rfl rfl rfl rfl rfl) ?_
 refine Qp (Qc rfl (l_fewC T hl hst V hvl [e] (show (1:Nat)≤_ by decide) (xS hs))) ?_
 refine Qp Br (Qg [] Qw C6 ?_)
 refine Qg [(12,_)] Qw (Qc rfl (yH l)) ?_
 refine Qp E3 (Qp Br (Qg [] Qw (Qf [_,_]) (Qg [(16,_)] Qw Dm ?_)))
 refine Qg [(17,_)] Qw (Qc rfl (c59 T hl hst)) ?_
 refine Qg [(18,_)] Qw A7 (Qp E3 (Qp Br (Qg [] Qw (Qf [_,_]) (Qg [(22,_)] Qw Dm (Qg [] Qw (Qf [_]) (Qg [(24,_)] Qw Dm (Qg [] Qw C6 ?_)))))))
 refine AOL.Aa6 (y:=.bool _) _ [(23,_),(25,_),(26,_)] rfl (sF.all ⟨Ent.Aa3 _ _,Ent.Aa3 _ _,Ent.Aa3 _ _,trivial⟩) (fun hG=>C8 (by kernel_rfl) rfl rfl (nN T hl hst V hvl l hel)) rfl ?_
 refine Qp E3 (Qp Br (Qg [] Qw (Qf [_,_]) (Qg [(30,_)] Qw Dm (Qg [] Qw (Qf [_]) (Qg [(32,_)] Qw Dm (Qg [] Qw D1 ?_))))))
 refine AOL.Aa6 (y:=Iq _) _ [(31,_),(33,_),(34,_)] rfl (sF.all ⟨Ent.Aa3 _ _,Ent.Aa3 _ _,Ent.Aa3 _ _,trivial⟩) (fun hG=>C8 (by kernel_rfl) rfl rfl (fC T hl hst V hvl e hs)) rfl ?_
 refine Qg [(35,_)] Qw A7 (Qp E3 (Qp Bg (Ag (AW.ret ?_))))
 refine Qr (.bool _) ?_
 rfl
set_option maxHeartbeats 12800000
set_option maxRecDepth 20000

theorem Aai {a b:Ex}(ha:At a≤1048576)(hb:At b≤1048576):∀e∈[a,b],At e≤1048576:=fun e he=>by
 rcases List.mem_cons.1 he with rfl | he
 · exact ha
 · rw [List.mem_singleton.1 he];exact hb
theorem wM (a b:Ex):cE a++cE b=([a,b].map Fv).flatten:=by
 rw [show [a,b].map Fv = [cE a,cE b] by simp only [List.map_cons,List.map_nil,Jd]];rfl
theorem two_z (a b:Ex):(([a,b].map Fv).all fun e=>Nat.beq e.length 8)=true:=by
 rw [show [a,b].map Fv = [cE a,cE b] by simp only [List.map_cons,List.map_nil,Jd]];rfl
theorem eR (l:List Ev)(hel:l.length≤1048576)(a b:Ex)(ha:At a≤1048576)(hb:At b≤1048576):Ax Tryz.prog 31 [.sl 5 (l.map Oo),.ptr (cE a++cE b)] (.bool (tr2 l a b)):=by
 refine Ax.body (n:=19) Ai Tryz.func31 rfl rfl rfl fun H=>?_
 refine Ah (Qp Bg (Dh (Qp C6 ?_)))
 refine Qp (Qc rfl (r_Bind l hel)) ?_
 refine Qe (Al (l:=[.sl 1 []]) (by kernel_rfl)) ?_
 rintro _ _ ⟨b4,rfl,rfl⟩
 refine Co 0 [_] (_::_) ?_
 refine AOL.ghost (GS.Aa4 (t:=4) 0 rfl rfl) ?_
 refine Dh ?_
 refine Qp (Fj (cs':=cE a++cE b) Ai rfl rfl rfl rfl rfl (by decide) (by decide) (rfl)) ?_
 refine Qp D1 (Qp (Cm [_]) (Qp (Et [Iq _,Iq _,Iq _,Iq _,_]) ?_))
 refine Qp (Qc rfl (c16 (D0 l) (-1) Kn (fX l) a ha)) ?_
 refine Qp Br ?_
 refine AOL.Aa6 (y:=.ptr _) _ [] rfl (sF.all trivial) (fun hG=>Fj (cs':=cE b) Ai rfl rfl rfl rfl rfl (by decide) (by decide) (rfl)) rfl ?_
 refine Qg [(13,_)] Qw D1 (Qg [] Qw (Cm [_]) (Qg [] Qw (Et [Iq _,Iq _,Iq _,Iq _,_]) ?_))
 refine AOL.Aa6 (y:=.bool _) _ [(14,_),(15,_),(16,_)] rfl (sF.all ⟨Ent.Aa3 _ _,Ent.Aa3 _ _,Ent.Aa3 _ _,trivial⟩) (fun hG=>C8 (by kernel_rfl) rfl rfl (c16 (D0 l) (-1) Kn (fX l) b hb)) rfl ?_
 refine Qp E3 (Qp Bg (Ag (AW.ret ?_)))
 refine Qr (.bool _) ?_
 rfl
theorem T8 (T:List Sc)(hl:T.length≤1048576)(hst:∀s∈T,Jn s)(V:List Va)(hvl:V.length≤1048576)(l:List Ev)(hel:l.length≤1048576)(a b:Ex)(ha:At a≤1048576)(hb:At b≤1048576):Ax Tryz.prog 7 [.agg (Cq T V),.sl 5 (l.map Oo),.agg (cE a++cE b)] (.bool true):=by
 refine Ax.body (n:=120) Ai Tryz.func7 rfl rfl rfl fun H=>?_
 refine Ah (Qp (F5 [_,_]) (Qp (F5 [Iq _,_,Iq _,Iq _,Iq _,Iq _,Iq _,.str _,Iq _,_,Iq _,Iq _,Iq _,Iq _,Iq _,.str _]) (Qp Bg (Ag (AW.seq (Ah (Qp (Cm [_,_]) (Qp C6 ?_))))))))
 refine Qp (Fj (cs':=cE a++cE b) Ai rfl rfl rfl rfl rfl (by decide) (by decide) (rfl)) ?_
 refine Qp D1 ?_
 refine Qp (Qc rfl (pT T hl hst V hvl l hel a ha)) ?_
 refine Qp Gt (Qp Br (Qg [] Qw (Cm [_,_]) (Qg [] Qw C6 ?_)))
 refine AOL.Aa6 (y:=.ptr _) _ [] rfl (sF.all trivial) (fun hG=>Fj (cs':=cE b) Ai rfl rfl rfl rfl rfl (by decide) (by decide) (rfl)) rfl ?_
 refine Qg [(24,_)] Qw D1 ?_
 refine AOL.Aa6 (y:=.bool _) _ [(22,_),(23,_),(25,_)] rfl (sF.all ⟨Ent.Aa3 _ _,Ent.Aa3 _ _,Ent.Aa3 _ _,trivial⟩) (fun hG=>C8 (by kernel_rfl) rfl rfl (pT T hl hst V hvl l hel b hb)) rfl ?_
 refine Qg [(26,_)] Qw Gt (Qp E5 (Ag (A5 (fun hc1=>?_) fun hc1=>?_)))
 ·
  refine Ah ?_
  refine Qp (Qc rfl (eE)) ?_
  refine Qp Bg (Ag (Du ?_))
  refine Qr (.bool _) ?_
  rfl
 ·
  have hok:=jH hc1
  refine Bz (AW.seq ?_)
  refine AW.draw mixed (fun _=>True) trivial (by kernel_rfl) ?_
  refine Qn 0 rfl (Qf [_,_]) (Qn 1 rfl Dm (Qn 2 rfl (Qf [_]) (Qn 3 rfl Dm ?_)))
  refine Qn 4 rfl (eH (es:=[a,b].map Fv) Ai rfl (wM a b) rfl rfl rfl rfl rfl rfl (two_z a b) rfl) ?_
  refine Qn 5 rfl (Qc rfl (Xv T hl hst V hvl [a,b] (show 2≤60 by decide) (Aai ha hb))) ?_
  refine Qn 6 rfl Mx (Qn 7 rfl Jq (Qn 8 rfl Qxs (Qn 9 rfl Jq (Qn 10 rfl Av (Qn 11 rfl Vy (Qn 12 rfl Av ?_))))))
  refine Jx.done _ _ (by kernel_rfl) ?_
  refine Ae (AW.seq (Ah (Qp A2 (Qp Ct (Ag (A5 (fun hc2=>?_) fun hc2=>?_))))))
  ·
   exact absurd hc2 (by rw [hok.err];decide)
  ·
   refine Bz (Ah ?_)
   refine Qp (Bf (l:=[]) (l':=[.ptr _]) rfl rfl) ?_
   refine Qp (C3 (v:=.fn _ _ _) rfl) ?_
   refine Ag (AW.seq (Ah (Qp A2 (Qp A7 (Qp Br ?_)))))
   refine AOL.Aa6 (y:=.fn _ _ _) _ [] rfl (sF.all trivial) (fun hG=>Bl (v:=.fn _ _ _) rfl) rfl ?_
   refine Qg [] Qw C6 ?_
   refine AOL.Aa6 (y:=.bool _) _ [(47,_),(46,_)] rfl (sF.all ⟨Ent.Aa3 _ _,Ent.Aa3 _ _,trivial⟩) (fun hG=>D2 (by kernel_rfl) rfl rfl rfl (eR l hel a b ha hb)) rfl ?_
   refine Qp E3 (Qp Br (Qg [] Qw A2 (Qg [(51,_)] Qw A7 (Qg [(52,_)] Qw Br (Qg [] Qw (Qf [_,_]) (Qg [(54,_)] Qw Dm (Qg [] Qw (Qf [_]) (Qg [(56,_)] Qw Dm (Qg [] Qw C6 ?_)))))))))
   refine AOL.Aa6 (y:=.bool _) _ [(55,_),(57,_),(58,_)] rfl (sF.all ⟨Ent.Aa3 _ _,Ent.Aa3 _ _,Ent.Aa3 _ _,trivial⟩) (fun hG=>C8 (by kernel_rfl) rfl rfl (nN T hl hst V hvl _ (Nat.le_trans (eS [a,b]) hvl))) rfl ?_
   refine Qg [(59,_)] Qw Gt (Qg [(60,_)] Qw Br ?_)
   refine AOL.Aa6 (y:=.fn _ _ _) _ [] rfl (sF.all trivial) (fun hG=>Bl (v:=.fn _ _ _) rfl) rfl ?_
   refine Qg [] Qw C6 ?_
   refine AOL.Aa6 (y:=.bool _) _ [(63,_),(62,_)] rfl (sF.all ⟨Ent.Aa3 _ _,Ent.Aa3 _ _,trivial⟩) (fun hG=>D2 (by kernel_rfl) rfl rfl rfl (eR _ (Nat.le_trans (eS [a,b]) hvl) a b ha hb)) rfl ?_
   refine Qg [(64,_)] Qw Gt (Qg [(61,_),(65,_)] Qw E5 (Qg [(53,_),(66,_)] Qw E3 (Qp E5 (Ag (A5 (fun hc3=>?_) fun hc3=>?_)))))
   ·
    exact absurd hc3 (by rw [hok.cond3];decide)
   ·
    refine Bz (Ah ?_)
    refine Qp (Fj (cs':=cE b) Ai rfl rfl rfl rfl rfl (by decide) (by decide) (rfl)) ?_
    refine Qp D1 ?_
    refine Qp (Qc rfl (vM b hb)) ?_
    refine Qp Mx ?_
    refine Qp (Cd (v:=.agg [Iq _,_,Iq _,Iq _,Iq _,Iq _,Iq _,.str _]) rfl rfl) ?_
    refine Qp Jq ?_
    refine Qe (Al (l:=[.int .i64 0,.sl 8 [],.int .i64 0,.int .i64 0,.int .i64 0,.int .i64 0,.int .i64 0,.str []]) (by kernel_rfl)) ?_
    rintro _ _ ⟨b11,rfl,rfl⟩
    refine Co 0 [Iq _,_,Iq _,Iq _,Iq _,Iq _,Iq _,.str _] (_::_) (Qp Av ?_)
    refine AOL.ghost (GS.Aa4 (t:=11) 0 rfl rfl) ?_
    refine Ag (AW.seq (Ah (Qp A2 (Qp Ct (Ag (A5 (fun hc4=>?_) fun hc4=>?_))))))
    ·
     refine Ah (Qp A2 (Qp A7 (Qp Br (Qg [] Qw A2 (Qg [(80,_)] Qw A7 (Qp E5 (Qp Br ?_)))))))
     refine Qg [] Qw (Qc rfl (eE)) ?_
     refine Qp E3 (Qp Bg (Ag (Du ?_)))
     refine Qr (.bool _) ?_
     exact congrArg AV.bool (by rw [hok.negC hc4];rfl)
    ·
     refine Bz (Ah (Qp (Qf [_,_]) (Qp Dm (Qp (Qf [_]) (Qp Dm ?_)))))
     refine Qp (Fj (cs':=cE a++cE b) Ai rfl rfl rfl rfl rfl (by decide) (by decide) (rfl)) ?_
     refine Qp D1 (Qp D1 ?_)
     refine Qp (Qc rfl (Tt T hl hst V hvl a _ ha (gR b))) ?_
     refine Qp Mx (Qp Jq (Qp Jq (Qp Av (Qp Av (Dh ?_)))))
     refine Qp (Qc rfl (eE)) ?_
     refine Qp Br (Qg [] Qw A2 (Qg [(99,_)] Qw A7 (Qp E3 (Qp Br (Qg [] Qw A2 (Qg [(103,_)] Qw A7 (Qg [(104,_)] Qw Br (Qg [] Qw A2 (Qg [(106,_)] Qw A7 ?_)))))))))
     refine Qg [(105,_),(107,_)] Qw E3 (Qg [(108,_)] Qw Gt (Qp E3 (Qp Br (Qg [] Qw A2 (Qg [(112,_)] Qw A7 (Qg [(113,_)] Qw Br (Qg [] Qw A2 (Qg [(115,_)] Qw A7 (Qg [(114,_),(116,_)] Qw E3 ?_)))))))))
     refine Qg [(117,_)] Qw Gt (Qp E3 (Qp Bg (Ag (AW.ret ?_))))
     refine Qr (.bool _) ?_
     exact congrArg AV.bool (hok.last (by simpa using hc4))

end Go.Proofs.YtkddpedfbicbeaaGreatDoor

namespace Go.Aw
open Go
section
variable {P:Program} {w:World} {r:Reach} {base:Nat} {t:TypeId} {v:Value}
theorem dD {n:Nat}{e:TypeId}(ht:P.underlying t=some (.array n e))(h:Value.okWide P w r base t v):∃cs,v = .agg cs∧cs.size=P.cellsOf t:=by
 simp only [Value.okWide,ht] at h
 obtain ⟨cs,h1,h2,_⟩:=h
 exact ⟨cs,h1,h2⟩
end
end Go.Aw

namespace Go.Proofs.YtkddpedfbicbeaaGreatDoor
open Go Go.Aw Go.ChangeShapes Go.WideShapes Go.ChangeAt Go.RowKit
set_option maxRecDepth 100000

theorem laid:laidOutB Tryz.prog=true:=by kernel_rfl
theorem own:ownKnob Tryz.prog.godebug=none:=by kernel_rfl
def Ue:List Int:=[1,10,100,1000,10000,100000,1000000,10000000,100000000,1000000000,10000000000,100000000000,1000000000000,10000000000000,100000000000000,1000000000000000,10000000000000000,100000000000000000,1000000000000000000,10000000000000000000]
theorem pow_of {W : World} (h : laidMet Tryz.prog Rows.conditionKnowsRow.laid W) : Lib.TabIs Tryz.prog W "internal/strconv.uint64pow10" .u64 Ue := by
 obtain ⟨ps,⟨_,_,_,_,_,_,_,_,_,_,⟨_,_,_,_,_,_,_,_,_,_,⟨g',t',cs,fuel,p,q,hg',ht',hvar,hd,_,_⟩,_⟩,_⟩,_⟩:=h
 obtain rfl := Option.some.inj ((show Tryz.prog.globalNamed "internal/strconv.uint64pow10" = some 0 by kernel_rfl).symm.trans hg')
 obtain rfl:=Option.some.inj ((show (Tryz.prog.globals[0]?).map (·.type)=some 266 by kernel_rfl).symm.trans ht')
 have:=Lib.cells_of_tab (k:=.u64) (zs:=Ue) (n:=20) (e:=254) (by kernel_rfl) (by kernel_rfl) (by kernel_rfl) (by kernel_rfl) hd
 unfold Lib.TabIs
 rw [hvar,←this]
theorem xY {W : World} (h : Lib.TabIs Tryz.prog W "internal/strconv.uint64pow10" .u64 Ue) : ∃ T fr, W.heap[0]? = some (.cells (Ue.map fun z => Value.int .u64 z).toArray T fr) := by
 have e : Tryz.prog.globalNamed "internal/strconv.uint64pow10" = some 0 := by kernel_rfl
 unfold Lib.TabIs World.var? at h
 rw [e] at h
 have hk:∀(X:Array Value) (o:Option Obj),(match o with | some (Obj.cells cs _ _)=>some cs | _=>none)=some X→∃T fr,o=some (Obj.cells X T fr):=by
  intro X o h
  match o,h with
  | some (Obj.cells cs T fr),h=>exact ⟨T,fr,by rw [Option.some.inj h]⟩
 exact hk _ _ h
theorem globOK {W:World}(h:laidMet Tryz.prog Rows.conditionKnowsRow.laid W)(hS:W.ShapedOpen Tryz.prog):GlobOK g0 W:=by
  have ht:=pow_of h
  refine ⟨fun p hp=>?_,fun p hp=>?_⟩
  · obtain rfl:=List.mem_singleton.1 hp
    refine ⟨Q8,rfl,?_⟩
    have hcell : ∀ j, W.cell? ⟨0, j, none⟩ = (Ue.map fun z => Value.int .u64 z).toArray[j]? := fun j => World.var?_cell (show Tryz.prog.globalNamed "internal/strconv.uint64pow10" = some 0 by kernel_rfl) ht j
    have hs:Q8=Ue.map fun z=>AV.int .u64 z:=rfl
    rw [hs]
    refine .ptr 0 0 _ (fun j=>Value.int .u64 (Ue.getD j 0)) (fun j x hj=>?_) (fun j x hj=>?_)
    · rw [List.getElem?_map] at hj
      cases hq:Ue[j]? with
      | none=>rw [hq] at hj;cases hj
      | some y=>
        refine ⟨trivial,?_⟩
        rw [Nat.zero_add,hcell j]
        simp [hq,List.getD_eq_getElem?_getD]
    · rw [List.getElem?_map] at hj
      cases hq:Ue[j]? with
      | none=>rw [hq] at hj;cases hj
      | some y=>
        rw [hq] at hj
        simp only [Option.map_some,Option.some.injEq] at hj
        subst hj
        have e:Ue.getD j 0=y:=by rw [List.getD_eq_getElem?_getD,hq];rfl
        rw [e]
        exact .int _ _
  · obtain rfl:=List.mem_singleton.1 hp
    exact ⟨rfl,xY ht⟩
/-- A world for the witness: the D4 one, with the yG as the program's text lays them. -/
def kT (k:IntKind)(l:List Int):Obj→Obj
 | .cells _ t frozen=>.cells (l.map fun z=>Value.int k z).toArray t frozen
 | o=>o
def ofTab (d:DataW Unit):List Int:=match d with
 | .agg l=>l.map fun | .lit (.int _ n)=>n | _=>0
 | _=>[]
noncomputable def laidWorld (os:Os):World:=
 { World.holding Tryz.prog os ⟨#[],#[],[]⟩ with heap:=(((World.holding Tryz.prog os ⟨#[],#[],[]⟩).heap.modify 0 (kT .u64 Ue)).modify 1 (kT .u8 (ofTab Rows.laid_math_bits_deBruijn32tab))).modify 2 (kT .u8 (ofTab Rows.laid_math_bits_deBruijn64tab)) }
end Go.Proofs.YtkddpedfbicbeaaGreatDoor

namespace Go.Aw
open Go
section
variable {H:Type} {enc:TypeId×Value→H} {P:Program} {w:World} {sp:Nat→Bool} {hd:Bool} {B:DataW H→Nat} {BA:List (DataW H)→Nat}
theorem Rd.array' {α:Type}{fuel:Nat}{t e:TypeId}{n:Nat}{ts:List TypeId}{f:α→List AV}{ok:α→Prop}{bk:α→Nat}(h:P.underlying t=some (.array n e))(hB:Bulk B BA)
    (hts:ts=List.replicate n e) (hsz:P.cellsOf t=(ts.map P.cellsOf).sum) (hs:∀m,m<fuel→Rds enc P w sp hd BA m 0 ts f ok bk):Rd enc P w sp hd B fuel t f ok bk:=by
  cases fuel with
  | zero=>exact Rd.zero
  | succ m=>
    intro cs d ps hr
    obtain ⟨xs,m',hn,hx,hl,hxl,hg⟩:=DataW.trod_array h hr
    cases hn
    simp only [Prod.mk.injEq] at hx
    obtain ⟨rfl,rfl⟩:=hx
    subst hts
    obtain ⟨x,h1,h2,h3⟩:=hs m (Nat.lt_succ_self m) cs xs (by omega) (by rw [List.length_replicate];omega) (fun i t' hi=>by
      have hlt:i<n:=by have:=(List.getElem?_eq_some_iff.1 hi).1;simpa using this
      have e1:t'=e:=by
        have:=List.mem_of_getElem? hi
        exact (List.mem_replicate.1 this).2
      subst e1
      have:=hg i hlt
      have hsum:∀k z:Nat,(List.replicate k z).sum=k*z:=fun k z=>by
        induction k with
        | zero=>simp
        | succ k ih=>rw [List.replicate_succ,List.sum_cons,ih,Nat.add_mul];omega
      rw [Nat.zero_add,List.take_replicate,List.map_replicate,hsum,Nat.min_eq_left (Nat.le_of_lt hlt)]
      exact this)
    exact ⟨x,h1,Nat.le_trans h2 (hB.agg _),by simpa using h3⟩
end
end Go.Aw

namespace Go.Proofs.YtkddpedfbicbeaaGreatDoor
open Go Go.Aw
set_option maxRecDepth 20000

theorem G0 {H:Type}:Bulk (Rows.uptoBulk (H:=H)) Rows.uptoBulkAll where
 nil:=by simp [Rows.uptoBulkAll]
 cons:=by intro x r;simp [Rows.uptoBulkAll]
 agg:=by intro ps;simp [Rows.uptoBulk]
 slice:=by intro es sp;simp only [Rows.uptoBulk];omega
 str:=by intro s;simp [Rows.uptoBulk]
 one:=by
  intro d
  cases d with
  | lit l=>cases l <;> simp [Rows.uptoBulk]
  | _=>simp [Rows.uptoBulk]
theorem u_V : Tryz.prog.underlying 28 = some (.struct #[⟨"Kind", 3, 0, false, "", "", 0⟩, ⟨"Num", 3, 1, false, "", "", 8⟩, ⟨"Text", 9, 2, false, "", "", 16⟩]) := by kernel_rfl
theorem z_V:Tryz.prog.cellsOf 28=3:=by kernel_rfl
theorem u_Vs:Tryz.prog.underlying 65=some (.slice 28):=by kernel_rfl
theorem z_Vs:Tryz.prog.cellsOf 65=1:=by kernel_rfl
theorem u_E : Tryz.prog.underlying 30 = some (.struct #[⟨"Op", 3, 0, false, "", "", 0⟩, ⟨"Args", 26, 1, false, "", "", 8⟩, ⟨"Var", 3, 2, false, "", "", 32⟩, ⟨"Field", 3, 3, false, "", "", 40⟩, ⟨"Kind", 3, 4, false, "", "", 48⟩, ⟨"Value", 28, 5, false, "", "", 56⟩]) := by kernel_rfl
theorem z_E:Tryz.prog.cellsOf 30=8:=by kernel_rfl
theorem u_Es:Tryz.prog.underlying 26=some (.slice 30):=by kernel_rfl
theorem z_Es:Tryz.prog.cellsOf 26=1:=by kernel_rfl
theorem u_Ev : Tryz.prog.underlying 67 = some (.struct #[⟨"Source", 3, 0, false, "", "", 0⟩, ⟨"Seq", 3, 1, false, "", "", 8⟩, ⟨"Type", 3, 2, false, "", "", 16⟩, ⟨"Time", 3, 3, false, "", "", 24⟩, ⟨"Values", 65, 4, false, "", "", 32⟩]) := by kernel_rfl
theorem z_Ev:Tryz.prog.cellsOf 67=5:=by kernel_rfl
theorem u_Evs:Tryz.prog.underlying 58=some (.slice 67):=by kernel_rfl
theorem u_Fi : Tryz.prog.underlying 134 = some (.struct #[⟨"Name", 9, 0, false, "", "", 0⟩, ⟨"Kind", 3, 1, false, "", "", 16⟩]) := by kernel_rfl
theorem z_Fi:Tryz.prog.cellsOf 134=2:=by kernel_rfl
theorem u_Fis:Tryz.prog.underlying 123=some (.slice 134):=by kernel_rfl
theorem z_Fis:Tryz.prog.cellsOf 123=1:=by kernel_rfl
theorem u_Sc : Tryz.prog.underlying 125 = some (.struct #[⟨"Name", 9, 0, false, "", "", 0⟩, ⟨"Fields", 123, 1, false, "", "", 16⟩]) := by kernel_rfl
theorem z_Sc:Tryz.prog.cellsOf 125=2:=by kernel_rfl
theorem u_Tys:Tryz.prog.underlying 22=some (.slice 125):=by kernel_rfl
theorem z_Tys:Tryz.prog.cellsOf 22=1:=by kernel_rfl
theorem u_Va : Tryz.prog.underlying 120 = some (.struct #[⟨"Name", 9, 0, false, "", "", 0⟩, ⟨"Type", 3, 1, false, "", "", 16⟩]) := by kernel_rfl
theorem z_Va:Tryz.prog.cellsOf 120=2:=by kernel_rfl
theorem u_Vas:Tryz.prog.underlying 23=some (.slice 120):=by kernel_rfl
theorem z_Vas:Tryz.prog.cellsOf 23=1:=by kernel_rfl
theorem u_Scn : Tryz.prog.underlying 25 = some (.struct #[⟨"Types", 22, 0, false, "", "", 0⟩, ⟨"Vars", 23, 1, false, "", "", 24⟩]) := by kernel_rfl
theorem u_Cs:Tryz.prog.underlying 59=some (.array 2 30):=by kernel_rfl
def I64 (n:Int):Prop:=-9223372036854775808≤n∧n≤9223372036854775807
theorem wf_I64 {n:Int}(h:(Lit.int .i64 n).wf=true):I64 n:=by
 have h1:(decide (-9223372036854775808≤n)&&decide (n≤9223372036854775807))=true:=h
 simp only [Bool.and_eq_true,decide_eq_true_eq] at h1
 exact h1
theorem Pi {α:Type}{f:α→Nat}(h:∀x,1≤f x):∀l:List α,l.length≤(l.map f).sum
 | []=>Nat.le_refl _
 | a::r=>by have:=Pi h r;have:=h a;simp only [List.length_cons,List.map_cons,List.sum_cons];omega
theorem Oe {α:Type}{f:α→Nat}:∀{l:List α} {x:α},x∈l→f x≤(l.map f).sum
  | a::r,x,h=>by
    rcases List.mem_cons.1 h with rfl | h
    · simp only [List.map_cons,List.sum_cons];omega
    · have:=Oe (f:=f) h;simp only [List.map_cons,List.sum_cons];omega
theorem rP {α:Type}(l:List α):(l.map fun _=>1).sum=l.length:=by
 induction l with
 | nil=>rfl
 | cons a r ih=>simp only [List.map_cons,List.sum_cons,List.length_cons,ih];omega
def vN (v:Vl):Nat:=v.text.length+1
def evN (e:Ev):Nat:=(e.values.map vN).sum+1
def evsN (l:List Ev):Nat:=(l.map evN).sum+1
def envN (l:List (List Ev)):Nat:=(l.map evsN).sum+1
def scN (s:Sc):Nat:=s.name.length+(s.fields.map fun f=>f.name.length+1).sum+1
def tysN (l:List Sc):Nat:=(l.map scN).sum+1
structure EvOK8 (e:Ev):Prop where
 len:e.values.length≤1048576
 texts:∀v∈e.values,v.text.length≤1048576
theorem ev_ok {e:Ev}(h:evN e≤1048576):EvOK8 e:=by
 unfold evN at h
 have h1:=Pi (f:=vN) (fun _=>Nat.succ_le_succ (Nat.zero_le _)) e.values
 exact ⟨by omega,fun v hv=>by have:=Oe (f:=vN) hv;unfold vN at this h;omega⟩
theorem evs_ok {l:List Ev}(h:evsN l≤1048576):l.length≤1048576∧∀e∈l,EvOK8 e:=by
 unfold evsN at h
 have h1:=Pi (f:=evN) (fun _=>Nat.succ_le_succ (Nat.zero_le _)) l
 exact ⟨by omega,fun e he=>ev_ok (by have:=Oe (f:=evN) he;omega)⟩
theorem sc_ok {s:Sc}(h:scN s≤1048576):Jn s:=by
 unfold scN at h
 have h1:=Pi (f:=fun f:Fi=>f.name.length+1) (fun _=>Nat.succ_le_succ (Nat.zero_le _)) s.fields
 exact ⟨by omega,by omega,fun f hf=>by have:=Oe (f:=fun f:Fi=>f.name.length+1) hf;have h2:f.name.length+1≤(s.fields.map fun f=>f.name.length+1).sum:=this;omega⟩
theorem zG {l:List Sc}(h:tysN l≤1048576):l.length≤1048576∧∀s∈l,Jn s:=by
 unfold tysN at h
 have h1:=Pi (f:=scN) (fun s=>by unfold scN;omega) l
 exact ⟨by omega,fun s hs=>sc_ok (by have:=Oe (f:=scN) hs;omega)⟩

section
variable {H:Type} {enc:TypeId×Value→H} {w:World} {sp:Nat→Bool} {hd:Bool}
abbrev R (enc:TypeId×Value→H)(w:World)(sp:Nat→Bool)(hd:Bool){α:Type}(fuel:Nat)(t:TypeId)(f:α→List AV)(ok:α→Prop)(bk:α→Nat):Prop:=Rd enc Tryz.prog w sp hd Rows.uptoBulk fuel t f ok bk
theorem rI (fuel:Nat):R enc w sp hd fuel 3 (fun n:Int=>[.int .i64 n]) I64 (fun _=>1):=(Rd.int (k:=.i64) (by kernel_rfl) G0).congr rfl (fun _ h=>wf_I64 h) (fun _=>Nat.le_refl _)
theorem rS (fuel:Nat):R enc w sp hd fuel 9 (fun s:List UInt8=>[.str s]) (fun s=>s.length≤maxLen) (fun s=>s.length+1):=Rd.str (by kernel_rfl) G0
theorem z3:Tryz.prog.cellsOf 3=1:=by kernel_rfl
theorem z9:Tryz.prog.cellsOf 9=1:=by kernel_rfl
theorem rV (fuel:Nat):R enc w sp hd fuel 28 cV (fun v=>I64 v.num) vN:=
 (Rd.struct' u_V G0 rfl (by kernel_rfl) (by kernel_rfl) fun m _=>Rds.cons G0 z3 (rI m) <| Rds.cons G0 z3 (rI m) <| Rds.cons G0 z9 (rS m) Rds.nil).map
  (fun x=>(⟨x.1,x.2.1,x.2.2.1⟩:Vl)) (fun _=>rfl) (fun _ h=>h.2.1) (fun _=>by simp only [vN];omega)
theorem zE:Fv=cE:=funext Jd
theorem rE (fuel:Nat):R enc w sp hd fuel 30 cE (fun _=>True) At:=by
  induction fuel using Nat.strongRecOn with
  | _ n ih=>
    exact (Rd.struct' u_E G0 rfl (by kernel_rfl) (by kernel_rfl) fun m hm=>Rds.cons G0 z3 (rI m) <| Rds.cons G0 z_Es (Rd.slice' (z:=8) u_Es z_E (by decide) G0 fun k hk=>ih k (Nat.lt_trans hk hm)) <|
      Rds.cons G0 z3 (rI m) <| Rds.cons G0 z3 (rI m) <| Rds.cons G0 z3 (rI m) <| Rds.cons G0 z_V (rV m) Rds.nil).map
      (fun x=>(⟨x.1,x.2.1,x.2.2.1,x.2.2.2.1,x.2.2.2.2.1,x.2.2.2.2.2.1⟩:Ex)) (fun x=>by simp [cE,cV,zE]) (fun _ _=>trivial) (fun x=>by rw [D7];simp only;omega)
theorem rEv (fuel:Nat):R enc w sp hd fuel 67 Oo (fun _=>True) evN:=
 (Rd.struct' u_Ev G0 rfl (by kernel_rfl) (by kernel_rfl) fun m _=>Rds.cons G0 z3 (rI m) <| Rds.cons G0 z3 (rI m) <| Rds.cons G0 z3 (rI m) <| Rds.cons G0 z3 (rI m) <|
  Rds.cons G0 z_Vs (Rd.slice' (z:=3) u_Vs z_V (by decide) G0 fun k _=>rV k) Rds.nil).map
  (fun x=>(⟨x.1,x.2.1,x.2.2.1,x.2.2.2.1,x.2.2.2.2.1⟩:Ev)) (fun _=>rfl) (fun _ _=>trivial) (fun _=>by simp only [evN];omega)
theorem rEvs (fuel:Nat):R enc w sp hd fuel 58 rD (fun _=>True) evsN:=
 (Rd.slice' (z:=5) u_Evs z_Ev (by decide) G0 fun k _=>rEv k).congr rfl (fun _ _=>trivial) (fun _=>Nat.le_refl _)
theorem rFi (fuel:Nat):R enc w sp hd fuel 134 cFi (fun _=>True) (fun f=>f.name.length+1):=
 (Rd.struct' u_Fi G0 rfl (by kernel_rfl) (by kernel_rfl) fun m _=>Rds.cons G0 z9 (rS m) <| Rds.cons G0 z3 (rI m) Rds.nil).map
  (fun x=>(⟨x.1,x.2.1⟩:Fi)) (fun _=>rfl) (fun _ _=>trivial) (fun _=>by simp only;omega)
theorem rSc (fuel:Nat):R enc w sp hd fuel 125 N1 (fun _=>True) scN:=
 (Rd.struct' u_Sc G0 rfl (by kernel_rfl) (by kernel_rfl) fun m _=>Rds.cons G0 z9 (rS m) <| Rds.cons G0 z_Fis (Rd.slice' (z:=2) u_Fis z_Fi (by decide) G0 fun k _=>rFi k) Rds.nil).map
  (fun x=>(⟨x.1,x.2.1⟩:Sc)) (fun _=>rfl) (fun _ _=>trivial) (fun _=>by simp only [scN];omega)
theorem rTys (fuel:Nat):R enc w sp hd fuel 22 (fun l:List Sc=>[.sl 2 (l.map N1)]) (fun _=>True) tysN:=
 (Rd.slice' (z:=2) u_Tys z_Sc (by decide) G0 fun k _=>rSc k).congr rfl (fun _ _=>trivial) (fun _=>Nat.le_refl _)
theorem rVa (fuel:Nat):R enc w sp hd fuel 120 U8 (fun _=>True) (fun _=>1):=
 (Rd.struct' u_Va G0 rfl (by kernel_rfl) (by kernel_rfl) fun m _=>Rds.cons G0 z9 (rS m) <| Rds.cons G0 z3 (rI m) Rds.nil).map
  (fun x=>(⟨x.1,x.2.1⟩:Va)) (fun _=>rfl) (fun _ _=>trivial) (fun x=>by show 1≤x.1.length+1+(1+0);omega)
theorem rVas (fuel:Nat):R enc w sp hd fuel 23 (fun l:List Va=>[.sl 2 (l.map U8)]) (fun _=>True) (fun l=>l.length+1):=
 (Rd.slice' (z:=2) u_Vas z_Va (by decide) G0 fun k _=>rVa k).congr rfl (fun _ _=>trivial) (fun l=>by rw [rP];exact Nat.le_refl _)
theorem rScn (fuel:Nat):R enc w sp hd fuel 25 (fun s:List Sc×List Va=>Cq s.1 s.2) (fun _=>True) (fun s=>tysN s.1+s.2.length):=
 (Rd.struct' u_Scn G0 rfl (by kernel_rfl) (by kernel_rfl) fun m _=>Rds.cons G0 z_Tys (rTys m) <| Rds.cons G0 z_Vas (rVas m) Rds.nil).map
  (fun x=>(x.1,x.2.1)) (fun _=>rfl) (fun _ _=>trivial) (fun _=>by simp only;omega)
theorem rCs (fuel:Nat):R enc w sp hd fuel 59 (fun c:Ex×Ex=>cE c.1++cE c.2) (fun _=>True) (fun c=>At c.1+At c.2):=
 (Rd.array' u_Cs G0 rfl (by kernel_rfl) fun m _=>Rds.cons G0 z_E (rE m) <| Rds.cons G0 z_E (rE m) Rds.nil).map
  (fun x=>(x.1,x.2.1)) (fun x=>by simp) (fun _ _=>trivial) (fun _=>by simp only;omega)
end
end Go.Proofs.YtkddpedfbicbeaaGreatDoor
