/-
  Several texts in one: Y15, Y16, Y19, Y22, Ac, G11, Ab. No condition.
-/
import Derived.Test.YtkddpedfbicbeaaGreatDoorAz
import Derived.Test.YtkddpedfbicbeaaGreatDoorK39
import Derived.KernelRfl
import Derived.Test.YtkddpedfbicbeaaGreatDoorK26
import Derived.Test.YtkddpedfbicbeaaGreatDoorK27
import Derived.WideShapes
import Derived.Test.YtkddpedfbicbeaaGreatDoorAx
import Derived.Test.YtkddpedfbicbeaaGreatDoorCards
import Derived.Test.YtkddpedfbicbeaaGreatDoorTie
import Derived.Deep.DeepHandedRow
import Derived.Lib.LaidTab
import Derived.OpenShut
set_option linter.unusedVariables false
set_option linter.unusedSimpArgs false
namespace Go.Proofs.YtkddpedfbicbeaaGreatDoor
open Go Go.Aw
set_option maxHeartbeats 25600000
set_option maxRecDepth 20000

set_option maxRecDepth 100000
theorem sD:Av Tryz.prog 13 [.sl 2 (qW.map Nz),.sl 2 (tN.map Un),.agg (cE clE)] (.tuple [.sl 1 (clL.map Pu),.int .i64 0]):=by
 have h:=qY qW (by decide) gT tN (by decide) clE (Nk _ (by decide))
 rw [ex_cl] at h
 exact h
theorem c_zone:Av Tryz.prog 43 [.sl 2 (qW.map Nz),.sl 2 (tN.map Un),.sl 9 ([⟨N3,true⟩,⟨two 7 (Hq 0) (Hq 1),false⟩].map G3)] (.tuple [.agg (Tw znE),.sl 8 ([Hq 0,Hq 1].map Fu),.int .i64 0]):=by
 have h:=d_Zone qW (by decide) gT tN (by decide) [⟨N3,true⟩,⟨two 7 (Hq 0) (Hq 1),false⟩] (by decide) (fun c hc=>bD _ (List.mem_cons_self ..) c hc)
 rw [ex_zn] at h
 exact h
theorem c_same:Av Tryz.prog 15 [.sl 1 (clL.map Pu),.sl 1 (clL.map Pu)] (.bool true):=by
 have h:=Y9 clL clL (by decide) (by decide) bD
 rw [ex_same] at h
 exact h
theorem c_sameZ:Av Tryz.prog 44 [.agg (Tw znE),.agg (Tw znE)] (.bool true):=r_SameZ znE (by decide)
theorem c_sameA:Av Tryz.prog 45 [.sl 8 ([Hq 0,Hq 1].map Fu),.sl 8 ([Hq 0,Hq 1].map cE)] (.bool true):=by
 have h:=sP [Hq 0,Hq 1] (by decide) (Mp _ (by decide))
 exact h
theorem c_imp1:Av Tryz.prog 24 [.sl 2 (qW.map Nz),.sl 2 (tN.map Un),.agg (cE N3),.agg (cE (two 7 (Hq 0) (Zd 4)))] (.tuple [.int .i64 1,.int .i64 0]):=by
 have h:=Ui qW (by decide) gT tN (by decide) N3 (two 7 (Hq 0) (Zd 4)) (Nk _ (by decide)) (Nk _ (by decide))
 rw [imp_1] at h
 exact h
theorem c_imp2:Av Tryz.prog 24 [.sl 2 (qW.map Nz),.sl 2 (tN.map Un),.agg (cE (two 7 (Hq 0) (Zd 4))),.agg (cE N3)] (.tuple [.int .i64 2,.int .i64 0]):=by
 have h:=Ui qW (by decide) gT tN (by decide) (two 7 (Hq 0) (Zd 4)) N3 (Nk _ (by decide)) (Nk _ (by decide))
 rw [imp_2] at h
 exact h
theorem bV  : Av Tryz.prog 10 [] (.bool true):=by
 refine Av.body (n:=179) Ai Tryz.func10 rfl rfl rfl fun H=>?_
 refine Ah (Qp Be (Df ?_))
 refine Qp (Qc rfl (bA)) ?_
 refine Qe (Al (l:=[.sl 2 [],.sl 2 []]) (by kernel_rfl)) ?_
 rintro _ _ ⟨b1,rfl,rfl⟩
 refine Cm 0 [_,_] (_::_) ?_
 refine AOL.ghost (GS.Aad (t:=1) 0 rfl rfl) ?_
 refine Df ?_
 refine Qp (Qc rfl (Fx _)) ?_
 refine Qp (Qc rfl (Oo _)) ?_
 refine Qp (Qc rfl (Lg _ _ _)) ?_
 refine Qe (Al (l:=[.int .i64 0,.sl 8 [],.int .i64 0,.int .i64 0,.int .i64 0,.int .i64 0,.int .i64 0,.str []]) (by kernel_rfl)) ?_
 rintro _ _ ⟨b2,rfl,rfl⟩
 refine Cm 0 [Iq _,_,Iq _,Iq _,Iq _,Iq _,Iq _,.str _] (_::_) ?_
 refine AOL.ghost (GS.Aad (t:=2) 0 rfl rfl) ?_
 refine Ag (AW.seq ?_)
 refine AW.draw mixed (fun _=>True) trivial (by kernel_rfl) ?_
 refine Qn 0 rfl (Qf [_,_]) (Qn 1 rfl Dk (Qn 2 rfl (Qf [_]) (Qn 3 rfl Dk (Qn 4 rfl D0 ?_))))
 refine Qn 5 rfl (Qc rfl (Fx _)) ?_
 refine Qn 6 rfl (Qc rfl (Fx _)) ?_
 refine Qn 7 rfl (Qc rfl (Lg _ _ _)) ?_
 refine Qn 8 rfl (Qc rfl (Lg _ _ _)) ?_
 refine Qn 9 rfl (Qc rfl (l_not _)) ?_
 refine Qn 10 rfl (Qc rfl (sD)) ?_
 refine Qn 11 rfl Mv (Qn 12 rfl Qxs (Qn 13 rfl Jn (Qn 14 rfl Wj (Qn 15 rfl At ?_))))
 refine Jv.done _ _ (by kernel_rfl) ?_
 refine Ae (Ah (Qp D0 (Qp (Ep [Iq _,_,Iq _,Iq _,Iq _,Iq _,Iq _,.str _,.bool _]) ?_)))
 refine Qe (Al (l:=[.int .i64 0,.sl 8 [],.int .i64 0,.int .i64 0,.int .i64 0,.int .i64 0,.int .i64 0,.str [],.bool false]) (by kernel_rfl)) ?_
 rintro _ _ ⟨b5,rfl,rfl⟩
 refine Cm 0 [Iq _,_,Iq _,Iq _,Iq _,Iq _,Iq _,.str _,.bool _] (_::_) ?_
 refine AOL.ghost (GS.Aad (t:=5) 0 rfl rfl) ?_
 refine Ag (AW.seq (AW.seq ?_))
 refine AW.draw mixed (fun _=>True) trivial (by kernel_rfl) ?_
 refine Qn 0 rfl A0 (Qn 1 rfl Cr (Qn 2 rfl Bp (Qo 3 rfl [] Qw C4 (Qo 4 rfl [] Qw (Ck [Iq _,_,Iq _,Iq _,Iq _,Iq _,Iq _,.str _,.bool _]) ?_))))
 refine Qo 5 rfl [] Qw (Qc rfl (Fx _)) ?_
 refine Qo 6 rfl [] Qw (Qc rfl (Fx _)) ?_
 refine Jv.pure _ _ 7 _ _ rfl (by kernel_rfl) (by kernel_rfl) rfl (.opt _ (.agg _) [(43,_),(44,_)] rfl (rX.all ⟨Ent.Aac _ _,Ent.Aac _ _,trivial⟩) (fun hG=>C7 (by kernel_rfl) rfl rfl (Lg _ _ _)) rfl) ?_
 refine Qo 8 rfl [(45,_)] Qw (Ep [Iq _,_,Iq _,Iq _,Iq _,Iq _,Iq _,.str _,.bool _]) ?_
 refine Jv.pure _ _ 9 _ _ rfl (by kernel_rfl) (by kernel_rfl) rfl (.opt _ (.sl _ _) [(42,_),(46,_)] rfl (rX.all ⟨Ent.Aac _ _,Ent.Aac _ _,trivial⟩) (fun hG=>Az (es:=[[Iq _,_,Iq _,Iq _,Iq _,Iq _,Iq _,.str _,.bool _],[Iq _,_,Iq _,Iq _,Iq _,Iq _,Iq _,.str _,.bool _]]) Ai rfl rfl rfl rfl rfl rfl rfl rfl rfl) rfl) ?_
 refine Qo 10 rfl [] Qw (Ck [Iq _,_,Iq _,Iq _,Iq _,Iq _,Iq _,.str _,.bool _]) ?_
 refine Qo 11 rfl [] Qw (Qc rfl (Fx _)) ?_
 refine Qo 12 rfl [] Qw (Qc rfl (Fx _)) ?_
 refine Jv.pure _ _ 13 _ _ rfl (by kernel_rfl) (by kernel_rfl) rfl (.opt _ (.agg _) [(49,_),(50,_)] rfl (rX.all ⟨Ent.Aac _ _,Ent.Aac _ _,trivial⟩) (fun hG=>C7 (by kernel_rfl) rfl rfl (Lg _ _ _)) rfl) ?_
 refine Qo 14 rfl [(51,_)] Qw (Ep [Iq _,_,Iq _,Iq _,Iq _,Iq _,Iq _,.str _,.bool _]) ?_
 refine Jv.pure _ _ 15 _ _ rfl (by kernel_rfl) (by kernel_rfl) rfl (.opt _ (.sl _ _) [(48,_),(52,_)] rfl (rX.all ⟨Ent.Aac _ _,Ent.Aac _ _,trivial⟩) (fun hG=>Az (es:=[[Iq _,_,Iq _,Iq _,Iq _,Iq _,Iq _,.str _,.bool _],[Iq _,_,Iq _,Iq _,Iq _,Iq _,Iq _,.str _,.bool _]]) Ai rfl rfl rfl rfl rfl rfl rfl rfl rfl) rfl) ?_
 refine Jv.pure _ _ 16 _ _ rfl (by kernel_rfl) (by kernel_rfl) rfl (.opt _ (.sl _ _) [(47,_),(53,_)] rfl (rX.all ⟨Ent.Aac _ _,Ent.Aac _ _,trivial⟩) (fun hG=>Az (es:=[[_],[_]]) Ai rfl rfl rfl rfl rfl rfl rfl rfl rfl) rfl) ?_
 refine Jv.pure _ _ 17 _ _ rfl (by kernel_rfl) (by kernel_rfl) rfl (.opt _ (.bool _) [(41,_),(54,_)] rfl (rX.all ⟨Ent.Aac _ _,Ent.Aac _ _,trivial⟩) (fun hG=>C7 (by kernel_rfl) rfl rfl (c_same)) rfl) ?_
 refine Qo 18 rfl [(55,_)] Qw Ge (Qn 19 rfl E2 ?_)
 refine Jv.done _ _ (by kernel_rfl) ?_
 refine Ae (A3 (fun hc1=>?_) fun hc1=>?_)
 ·
  cases hc1
 ·
  refine Bx (AW.seq ?_)
  refine AW.draw mixed (fun _=>True) trivial (by kernel_rfl) ?_
  refine Qn 0 rfl (Qf [_,_]) (Qn 1 rfl Dk (Qn 2 rfl (Qf [_]) (Qn 3 rfl Dk (Qn 4 rfl C4 ?_))))
  refine Qn 5 rfl (Af (c:=[_]) Ai rfl rfl rfl rfl rfl rfl (by decide) (rfl)) ?_
  refine Qn 6 rfl Dk ?_
  refine Qn 7 rfl (Qc rfl (c_zone)) ?_
  refine Qn 8 rfl Mv ?_
  refine Qn 9 rfl (Cb (v:=.agg [Iq _,_]) rfl rfl) ?_
  refine Qn 10 rfl Qxs (Qn 11 rfl Jn ?_)
  refine Jv.eff _ _ 12 _ _ rfl (by kernel_rfl) rfl rfl (Al (l:=[.int .i64 0,.sl 3 []]) (by kernel_rfl)) (fun _ _ _=>trivial) ?_
  rintro _ _ ⟨b6,rfl,rfl⟩
  refine Jv.eff _ _ 13 _ _ rfl (by kernel_rfl) rfl rfl (C6 (k:=0) (v:=.agg _) (cs':=[Iq _,_]) (H2:=_::_) Ai rfl rfl rfl rfl (rfl) rfl rfl rfl rfl) (fun _ _ _=>trivial) ?_
  rintro _ _ ⟨rfl,rfl⟩
  refine Qn 14 rfl Wj (Qn 15 rfl At ?_)
  refine Jv.done _ _ (by kernel_rfl) ?_
  refine Ae ?_
  refine AW.ghost (GS.Aad (t:=6) 0 rfl rfl) ?_
  refine Ah (Qp (Ep [Iq _,Iq _,Iq _]) (Qp (Ep [Iq _,Iq _,Iq _]) (Qp (Ep [Iq _,Iq _,Iq _]) (Qp (Ep [Iq _,Iq _,Iq _]) (Qp (Ep [Iq _,Iq _,Iq _]) (Qp (Ep [Iq _,Iq _,Iq _]) ?_))))))
  refine Qp (Az (es:=[[Iq _,Iq _,Iq _],[Iq _,Iq _,Iq _],[Iq _,Iq _,Iq _],[Iq _,Iq _,Iq _],[Iq _,Iq _,Iq _],[Iq _,Iq _,Iq _]]) Ai rfl rfl rfl rfl rfl rfl rfl rfl rfl) ?_
  refine Qp (Ep [Iq _,_]) ?_
  refine Qe (Al (l:=[.int .i64 0,.sl 3 []]) (by kernel_rfl)) ?_
  rintro _ _ ⟨b9,rfl,rfl⟩
  refine Cm 0 [Iq _,_] (_::_) ?_
  refine AOL.ghost (GS.Aad (t:=9) 0 rfl rfl) ?_
  refine Ag (AW.seq (Ah (Qp A0 (Qp Cr (Qp Bp (Qg [] Qw (Ck [Iq _,_]) (Qg [] Qw (Ck [Iq _,_]) ?_)))))))
  refine AOL.Aaf (y:=.bool _) _ [(81,_),(82,_)] rfl (rX.all ⟨Ent.Aac _ _,Ent.Aac _ _,trivial⟩) (fun hG=>C7 (by kernel_rfl) rfl rfl (c_sameZ)) rfl ?_
  refine Qg [(83,_)] Qw Ge (Qp E2 (Qp Bp (Qg [] Qw C4 ?_)))
  refine Qg [] Qw (Qc rfl (Fx _)) ?_
  refine Qg [] Qw (Qc rfl (Fx _)) ?_
  refine AOL.Aaf (y:=.sl _ _) _ [(88,_),(89,_)] rfl (rX.all ⟨Ent.Aac _ _,Ent.Aac _ _,trivial⟩) (fun hG=>Az (es:=[[Iq _,_,Iq _,Iq _,Iq _,Iq _,Iq _,.str _],[Iq _,_,Iq _,Iq _,Iq _,Iq _,Iq _,.str _]]) Ai rfl rfl rfl rfl rfl rfl rfl rfl rfl) rfl ?_
  refine AOL.Aaf (y:=.bool _) _ [(87,_),(90,_)] rfl (rX.all ⟨Ent.Aac _ _,Ent.Aac _ _,trivial⟩) (fun hG=>C7 (by kernel_rfl) rfl rfl (c_sameA)) rfl ?_
  refine Qg [(91,_)] Qw Ge (Qp E2 (Ag (A3 (fun hc2=>?_) fun hc2=>?_)))
  ·
   cases hc2
  ·
   refine Bx (Ah ?_)
   refine Qp (Qc rfl (Fx _)) ?_
   refine Qp (Qc rfl (Fx _)) ?_
   refine Qp (Qc rfl (Lg _ _ _)) ?_
   refine Qe (Al (l:=[.int .i64 0,.sl 8 [],.int .i64 0,.int .i64 0,.int .i64 0,.int .i64 0,.int .i64 0,.str []]) (by kernel_rfl)) ?_
   rintro _ _ ⟨b10,rfl,rfl⟩
   refine Cm 0 [Iq _,_,Iq _,Iq _,Iq _,Iq _,Iq _,.str _] (_::_) ?_
   refine AOL.ghost (GS.Aad (t:=10) 0 rfl rfl) ?_
   refine Df ?_
   refine Qp (C2 (v:=.fn _ _ _) rfl) ?_
   refine Df (Qp (Ep [Iq _,Iq _,.str _]) (Qp (Ep [Iq _,_,Iq _,Iq _,Iq _,Iq _,Iq _,.str _]) ?_))
   refine Qe (Al (l:=[.int .i64 0,.sl 8 [],.int .i64 0,.int .i64 0,.int .i64 0,.int .i64 0,.int .i64 0,.str []]) (by kernel_rfl)) ?_
   rintro _ _ ⟨b12,rfl,rfl⟩
   refine Cm 0 [Iq _,_,Iq _,Iq _,Iq _,Iq _,Iq _,.str _] (_::_) ?_
   refine AOL.ghost (GS.Aad (t:=12) 0 rfl rfl) ?_
   refine Df (Qp (Ep [Iq _,_,Iq _,Iq _,Iq _,Iq _,Iq _,.str _]) ?_)
   refine Qp (Qc rfl (Oo _)) ?_
   refine Qp (Qc rfl (Lg 9 ⟨3,[],0,0,0,v0⟩ (Zd 2))) ?_
   refine Qe (Al (l:=[.int .i64 0,.sl 8 [],.int .i64 0,.int .i64 0,.int .i64 0,.int .i64 0,.int .i64 0,.str []]) (by kernel_rfl)) ?_
   rintro _ _ ⟨b13,rfl,rfl⟩
   refine Cm 0 [Iq _,_,Iq _,Iq _,Iq _,Iq _,Iq _,.str _] (_::_) ?_
   refine AOL.ghost (GS.Aad (t:=13) 0 rfl rfl) ?_
   refine Ag (AW.seq ?_)
   refine AW.draw mixed (fun _=>True) trivial (by kernel_rfl) ?_
   refine Qn 0 rfl (Qf [_,_]) (Qn 1 rfl Dk (Qn 2 rfl (Qf [_]) (Qn 3 rfl Dk (Qn 4 rfl D0 ?_))))
   refine Qn 5 rfl (Qc rfl (Fx _)) ?_
   refine Qn 6 rfl (Qc rfl (Oo _)) ?_
   refine Qn 7 rfl (Qc rfl (Lg _ _ _)) ?_
   refine Qn 8 rfl (Qc rfl (c_imp1)) ?_
   refine Qn 9 rfl Mv (Qn 10 rfl Jn (Qn 11 rfl Jn (Qn 12 rfl At (Qn 13 rfl At ?_))))
   refine Jv.done _ _ (by kernel_rfl) ?_
   refine Ae (AW.seq ?_)
   refine AW.draw mixed (fun _=>True) trivial (by kernel_rfl) ?_
   refine Qn 0 rfl (Qf [_,_]) (Qn 1 rfl Dk (Qn 2 rfl (Qf [_]) (Qn 3 rfl Dk ?_)))
   refine Qn 4 rfl (Qc rfl (Fx _)) ?_
   refine Qn 5 rfl (Qc rfl (Oo _)) ?_
   refine Qn 6 rfl (Qc rfl (Lg _ _ _)) ?_
   refine Qn 7 rfl D0 ?_
   refine Qn 8 rfl (Qc rfl (c_imp2)) ?_
   refine Qn 9 rfl Mv (Qn 10 rfl Jn (Qn 11 rfl Jn (Qn 12 rfl At (Qn 13 rfl At ?_))))
   refine Jv.done _ _ (by kernel_rfl) ?_
   refine Ae (AW.seq ?_)
   refine AW.draw mixed (fun _=>True) trivial (by kernel_rfl) ?_
   refine Qn 0 rfl D0 ?_
   refine Qn 1 rfl (Bj (v:=.fn _ _ _) rfl) ?_
   refine Qn 2 rfl (Dz (by kernel_rfl) rfl rfl rfl (yO 1)) ?_
   refine Qn 3 rfl (Az (es:=[[Iq _,_,Iq _,Iq _,Iq _,Iq _,Iq _,.str _],[Iq _,_,Iq _,Iq _,Iq _,Iq _,Iq _,.str _]]) Ai rfl rfl rfl rfl rfl rfl rfl rfl rfl) ?_
   refine Qn 4 rfl (Qc rfl (Lh 2 [upE,fD 1] (by decide) (Mp _ (by decide)) ver_1)) ?_
   refine Qn 5 rfl Bp (Qo 6 rfl [] Qw D0 ?_)
   refine Jv.pure _ _ 7 _ _ rfl (by kernel_rfl) (by kernel_rfl) rfl (.opt _ (.fn _ _ _) [] rfl (rX.all trivial) (fun hG=>Bj (v:=.fn _ _ _) rfl) rfl) ?_
   refine Jv.pure _ _ 8 _ _ rfl (by kernel_rfl) (by kernel_rfl) rfl (.opt _ (.agg _) [(133,_)] rfl (rX.all ⟨Ent.Aac _ _,trivial⟩) (fun hG=>Dz (by kernel_rfl) rfl rfl rfl (yO 2)) rfl) ?_
   refine Jv.pure _ _ 9 _ _ rfl (by kernel_rfl) (by kernel_rfl) rfl (.opt _ (.sl _ _) [(132,_),(134,_)] rfl (rX.all ⟨Ent.Aac _ _,Ent.Aac _ _,trivial⟩) (fun hG=>Az (es:=[[Iq _,_,Iq _,Iq _,Iq _,Iq _,Iq _,.str _],[Iq _,_,Iq _,Iq _,Iq _,Iq _,Iq _,.str _]]) Ai rfl rfl rfl rfl rfl rfl rfl rfl rfl) rfl) ?_
   refine Qo 10 rfl [(135,_)] Qw (Qc rfl (Lh 1 [upE,fD 2] (by decide) (Mp _ (by decide)) ver_2)) ?_
   refine Qn 11 rfl E1 (Qn 12 rfl Bp ?_)
   refine Qo 13 rfl [] Qw (Qc rfl (S2 _)) ?_
   refine Qo 14 rfl [] Qw D0 ?_
   refine Jv.pure _ _ 15 _ _ rfl (by kernel_rfl) (by kernel_rfl) rfl (.opt _ (.agg _) [(139,_),(140,_)] rfl (rX.all ⟨Ent.Aac _ _,Ent.Aac _ _,trivial⟩) (fun hG=>C7 (by kernel_rfl) rfl rfl (Lg 9 (Tq 0) Yl)) rfl) ?_
   refine Qo 16 rfl [] Qw (Qc rfl (S2 _)) ?_
   refine Qo 17 rfl [] Qw (Qc rfl (S2 _)) ?_
   refine Jv.pure _ _ 18 _ _ rfl (by kernel_rfl) (by kernel_rfl) rfl (.opt _ (.agg _) [(142,_),(143,_)] rfl (rX.all ⟨Ent.Aac _ _,Ent.Aac _ _,trivial⟩) (fun hG=>C7 (by kernel_rfl) rfl rfl (Lg 9 (Tq 1) (Tq 0))) rfl) ?_
   refine Qo 19 rfl [] Qw (Qc rfl (S2 _)) ?_
   refine Qo 20 rfl [] Qw D0 ?_
   refine Jv.pure _ _ 21 _ _ rfl (by kernel_rfl) (by kernel_rfl) rfl (.opt _ (.agg _) [(145,_),(146,_)] rfl (rX.all ⟨Ent.Aac _ _,Ent.Aac _ _,trivial⟩) (fun hG=>C7 (by kernel_rfl) rfl rfl (Lg 9 (Tq 1) Yl)) rfl) ?_
   refine Qo 22 rfl [(147,_)] Qw (Qc rfl (l_not (two 9 (Tq 1) Yl))) ?_
   refine Jv.pure _ _ 23 _ _ rfl (by kernel_rfl) (by kernel_rfl) rfl (.opt _ (.sl _ _) [(141,_),(144,_),(148,_)] rfl (rX.all ⟨Ent.Aac _ _,Ent.Aac _ _,Ent.Aac _ _,trivial⟩) (fun hG=>Az (es:=[[Iq _,_,Iq _,Iq _,Iq _,Iq _,Iq _,.str _],[Iq _,_,Iq _,Iq _,Iq _,Iq _,Iq _,.str _],[Iq _,_,Iq _,Iq _,Iq _,Iq _,Iq _,.str _]]) Ai rfl rfl rfl rfl rfl rfl rfl rfl rfl) rfl) ?_
   refine Qo 24 rfl [(149,_)] Qw (Qc rfl (Lh 2 [two 9 (Tq 0) Yl,two 9 (Tq 1) (Tq 0),Ov (two 9 (Tq 1) Yl)] (by decide) (Mp _ (by decide)) ver_3)) ?_
   refine Qn 25 rfl E1 (Qn 26 rfl Bp (Qo 27 rfl [] Qw D0 ?_))
   refine Jv.pure _ _ 28 _ _ rfl (by kernel_rfl) (by kernel_rfl) rfl (.opt _ (.sl _ _) [(153,_)] rfl (rX.all ⟨Ent.Aac _ _,trivial⟩) (fun hG=>Az (es:=[[Iq _,_,Iq _,Iq _,Iq _,Iq _,Iq _,.str _]]) Ai rfl rfl rfl rfl rfl rfl rfl rfl rfl) rfl) ?_
   refine Qo 29 rfl [(154,_)] Qw (Qc rfl (Lh 0 [bK] (by decide) (Mp _ (by decide)) ver_4)) ?_
   refine Qn 30 rfl E1 (Qn 31 rfl Bp (Qo 32 rfl [] Qw D0 ?_))
   refine Qo 33 rfl [] Qw (Qc rfl (Fx _)) ?_
   refine Qo 34 rfl [] Qw (Qc rfl (Fx _)) ?_
   refine Jv.pure _ _ 35 _ _ rfl (by kernel_rfl) (by kernel_rfl) rfl (.opt _ (.agg _) [(159,_),(160,_)] rfl (rX.all ⟨Ent.Aac _ _,Ent.Aac _ _,trivial⟩) (fun hG=>C7 (by kernel_rfl) rfl rfl (Lg _ _ _)) rfl) ?_
   refine Jv.pure _ _ 36 _ _ rfl (by kernel_rfl) (by kernel_rfl) rfl (.opt _ (.sl _ _) [(158,_),(161,_)] rfl (rX.all ⟨Ent.Aac _ _,Ent.Aac _ _,trivial⟩) (fun hG=>Az (es:=[[Iq _,_,Iq _,Iq _,Iq _,Iq _,Iq _,.str _],[Iq _,_,Iq _,Iq _,Iq _,Iq _,Iq _,.str _]]) Ai rfl rfl rfl rfl rfl rfl rfl rfl rfl) rfl) ?_
   refine Qo 37 rfl [(162,_)] Qw (Qc rfl (Lh 2 [bK,two 7 (Hq 0) (Hq 0)] (by decide) (Mp _ (by decide)) ver_5)) ?_
   refine Qn 38 rfl E1 (Qn 39 rfl Bp (Qo 40 rfl [] Qw A0 (Qo 41 rfl [] Qw A0 ?_)))
   refine Jv.pure _ _ 42 _ _ rfl (by kernel_rfl) (by kernel_rfl) rfl (.opt _ (Iq _) [(166,_),(167,_)] rfl (rX.all ⟨Ent.Aac _ _,Ent.Aac _ _,trivial⟩) (fun hG=>gM rfl rfl rfl (by constructor <;> omega)) rfl) ?_
   refine Qo 43 rfl [(168,_)] Qw A5 (Qn 44 rfl E1 (Qn 45 rfl Bp (Qo 46 rfl [] Qw A0 (Qo 47 rfl [(172,_)] Qw A5 (Qn 48 rfl E1 (Qn 49 rfl Bp (Qo 50 rfl [] Qw A0 (Qo 51 rfl [(176,_)] Qw A5 (Qn 52 rfl E1 ?_)))))))))
   refine Qn 53 rfl Be ?_
   refine Jv.done _ _ (by kernel_rfl) ?_
   refine Ae (AW.ret ?_)
   refine Qr (.bool _) ?_
   rfl


set_option maxRecDepth 100000
theorem eT (e:Ex):Ar (Cz e).1≤1048576:=by
 unfold Cz
 split
 · exact (show Ar Wc≤1048576 by decide)
 ·
  rename_i h1
  split
  · exact (show Ar Wc≤1048576 by decide)
  ·
   rename_i h2
   exact Nat.le_trans (Yp (Bool.eq_false_iff.2 h2)) (by decide)
theorem yR {e:Ex}(h:Ar e≤1048576):∀x∈[e],Ar x≤1048576:=fun x hx=>by rw [List.mem_singleton.1 hx];exact h
theorem l_fewC (T:List Sc)(hl:T.length≤1048576)(hst:∀s∈T,Jk s)(V:List Va)(hvl:V.length≤1048576)(es:List Ex)(hel:es.length≤1048576)(hes:∀e∈es,Ar e≤1048576):Av Tryz.prog 9 [.agg (Co T V),.sl 8 (es.map cE)] (.bool (fT T V es)):=by
 have h:=l_few T hl hst V hvl es hel hes
 rw [show es.map Fu=es.map cE from List.map_congr_left fun e _=>Jg e] at h
 exact h
set_option maxHeartbeats 3200000
set_option maxRecDepth 20000

theorem nW (T:List Sc)(hl:T.length≤1048576)(hst:∀s∈T,Jk s)(V:List Va)(hvl:V.length≤1048576)(l:List Ev)(hel:l.length≤1048576)(e:Ex)(hs:Ar e≤1048576):Av Tryz.prog 23 [.agg (Co T V),.sl 5 (l.map Ph),.agg (cE e)] (.bool (O9 T V l e)):=by
 refine Av.body (n:=38) Ai Tryz.func23 rfl rfl rfl fun H=>?_
 refine Ah (Qp (F5 [_,_]) (Qp K8 (Qp Be (Df (Qp (Ck [_,_]) (Qp D0 ?_))))))
 refine Qp (Az (es:=[[Iq _,_,Iq _,Iq _,Iq _,Iq _,Iq _,.str _]]) Ai rfl rfl rfl rfl rfl rfl rfl rfl rfl) ?_
 refine Qp (Qc rfl (l_fewC T hl hst V hvl [e] (show (1:Nat)≤_ by decide) (yR hs))) ?_
 refine Qp Bp (Qg [] Qw C4 ?_)
 refine Qg [(12,_)] Qw (Qc rfl (yT l)) ?_
 refine Qp E1 (Qp Bp (Qg [] Qw (Qf [_,_]) (Qg [(16,_)] Qw Dk ?_)))
 refine Qg [(17,_)] Qw (Qc rfl (c59 T hl hst)) ?_
 refine Qg [(18,_)] Qw A5 (Qp E1 (Qp Bp (Qg [] Qw (Qf [_,_]) (Qg [(22,_)] Qw Dk (Qg [] Qw (Qf [_]) (Qg [(24,_)] Qw Dk (Qg [] Qw C4 ?_)))))))
 refine AOL.Aaf (y:=.bool _) _ [(23,_),(25,_),(26,_)] rfl (rX.all ⟨Ent.Aac _ _,Ent.Aac _ _,Ent.Aac _ _,trivial⟩) (fun hG=>C7 (by kernel_rfl) rfl rfl (pL T hl hst V hvl l hel)) rfl ?_
 refine Qp E1 (Qp Bp (Qg [] Qw (Qf [_,_]) (Qg [(30,_)] Qw Dk (Qg [] Qw (Qf [_]) (Qg [(32,_)] Qw Dk (Qg [] Qw D0 ?_))))))
 refine AOL.Aaf (y:=Iq _) _ [(31,_),(33,_),(34,_)] rfl (rX.all ⟨Ent.Aac _ _,Ent.Aac _ _,Ent.Aac _ _,trivial⟩) (fun hG=>C7 (by kernel_rfl) rfl rfl (gJ T hl hst V hvl e hs)) rfl ?_
 refine Qg [(35,_)] Qw A5 (Qp E1 (Qp Be (Ag (AW.ret ?_))))
 refine Qr (.bool _) ?_
 rfl
set_option maxHeartbeats 12800000
set_option maxRecDepth 20000

theorem two_all {a b:Ex}(ha:Ar a≤1048576)(hb:Ar b≤1048576):∀e∈[a,b],Ar e≤1048576:=fun e he=>by
 rcases List.mem_cons.1 he with rfl | he
 · exact ha
 · rw [List.mem_singleton.1 he];exact hb
theorem uC (a b:Ex):cE a++cE b=([a,b].map Fu).flatten:=by
 rw [show [a,b].map Fu = [cE a,cE b] by simp only [List.map_cons,List.map_nil,Jg]];rfl
theorem two_z (a b:Ex):(([a,b].map Fu).all fun e=>Nat.beq e.length 8)=true:=by
 rw [show [a,b].map Fu = [cE a,cE b] by simp only [List.map_cons,List.map_nil,Jg]];rfl
theorem iD (l:List Ev)(hel:l.length≤1048576)(a b:Ex)(ha:Ar a≤1048576)(hb:Ar b≤1048576):Av Tryz.prog 31 [.sl 5 (l.map Ph),.ptr (cE a++cE b)] (.bool (tr2 l a b)):=by
 refine Av.body (n:=19) Ai Tryz.func31 rfl rfl rfl fun H=>?_
 refine Ah (Qp Be (Df (Qp C4 ?_)))
 refine Qp (Qc rfl (r_Bind l hel)) ?_
 refine Qe (Al (l:=[.sl 1 []]) (by kernel_rfl)) ?_
 rintro _ _ ⟨b4,rfl,rfl⟩
 refine Cm 0 [_] (_::_) ?_
 refine AOL.ghost (GS.Aad (t:=4) 0 rfl rfl) ?_
 refine Df ?_
 refine Qp (Fc (cs':=cE a++cE b) Ai rfl rfl rfl rfl rfl (by decide) (by decide) (rfl)) ?_
 refine Qp D0 (Qp (Ck [_]) (Qp (Ep [Iq _,Iq _,Iq _,Iq _,_]) ?_))
 refine Qp (Qc rfl (c16 (Dy l) (-1) Kl (fZ l) a ha)) ?_
 refine Qp Bp ?_
 refine AOL.Aaf (y:=.ptr _) _ [] rfl (rX.all trivial) (fun hG=>Fc (cs':=cE b) Ai rfl rfl rfl rfl rfl (by decide) (by decide) (rfl)) rfl ?_
 refine Qg [(13,_)] Qw D0 (Qg [] Qw (Ck [_]) (Qg [] Qw (Ep [Iq _,Iq _,Iq _,Iq _,_]) ?_))
 refine AOL.Aaf (y:=.bool _) _ [(14,_),(15,_),(16,_)] rfl (rX.all ⟨Ent.Aac _ _,Ent.Aac _ _,Ent.Aac _ _,trivial⟩) (fun hG=>C7 (by kernel_rfl) rfl rfl (c16 (Dy l) (-1) Kl (fZ l) b hb)) rfl ?_
 refine Qp E1 (Qp Be (Ag (AW.ret ?_)))
 refine Qr (.bool _) ?_
 rfl
theorem T4 (T:List Sc)(hl:T.length≤1048576)(hst:∀s∈T,Jk s)(V:List Va)(hvl:V.length≤1048576)(l:List Ev)(hel:l.length≤1048576)(a b:Ex)(ha:Ar a≤1048576)(hb:Ar b≤1048576):Av Tryz.prog 7 [.agg (Co T V),.sl 5 (l.map Ph),.agg (cE a++cE b)] (.bool true):=by
 refine Av.body (n:=120) Ai Tryz.func7 rfl rfl rfl fun H=>?_
 refine Ah (Qp (F5 [_,_]) (Qp (F5 [Iq _,_,Iq _,Iq _,Iq _,Iq _,Iq _,.str _,Iq _,_,Iq _,Iq _,Iq _,Iq _,Iq _,.str _]) (Qp Be (Ag (AW.seq (Ah (Qp (Ck [_,_]) (Qp C4 ?_))))))))
 refine Qp (Fc (cs':=cE a++cE b) Ai rfl rfl rfl rfl rfl (by decide) (by decide) (rfl)) ?_
 refine Qp D0 ?_
 refine Qp (Qc rfl (nW T hl hst V hvl l hel a ha)) ?_
 refine Qp Ge (Qp Bp (Qg [] Qw (Ck [_,_]) (Qg [] Qw C4 ?_)))
 refine AOL.Aaf (y:=.ptr _) _ [] rfl (rX.all trivial) (fun hG=>Fc (cs':=cE b) Ai rfl rfl rfl rfl rfl (by decide) (by decide) (rfl)) rfl ?_
 refine Qg [(24,_)] Qw D0 ?_
 refine AOL.Aaf (y:=.bool _) _ [(22,_),(23,_),(25,_)] rfl (rX.all ⟨Ent.Aac _ _,Ent.Aac _ _,Ent.Aac _ _,trivial⟩) (fun hG=>C7 (by kernel_rfl) rfl rfl (nW T hl hst V hvl l hel b hb)) rfl ?_
 refine Qg [(26,_)] Qw Ge (Qp E2 (Ag (A3 (fun hc1=>?_) fun hc1=>?_)))
 ·
  refine Ah ?_
  refine Qp (Qc rfl (bV)) ?_
  refine Qp Be (Ag (Dr ?_))
  refine Qr (.bool _) ?_
  rfl
 ·
  have hok:=jB hc1
  refine Bx (AW.seq ?_)
  refine AW.draw mixed (fun _=>True) trivial (by kernel_rfl) ?_
  refine Qn 0 rfl (Qf [_,_]) (Qn 1 rfl Dk (Qn 2 rfl (Qf [_]) (Qn 3 rfl Dk ?_)))
  refine Qn 4 rfl (cU (es:=[a,b].map Fu) Ai rfl (uC a b) rfl rfl rfl rfl rfl rfl (two_z a b) rfl) ?_
  refine Qn 5 rfl (Qc rfl (Wp T hl hst V hvl [a,b] (show 2≤60 by decide) (two_all ha hb))) ?_
  refine Qn 6 rfl Mv (Qn 7 rfl Jn (Qn 8 rfl Qxs (Qn 9 rfl Jn (Qn 10 rfl At (Qn 11 rfl Wj (Qn 12 rfl At ?_))))))
  refine Jv.done _ _ (by kernel_rfl) ?_
  refine Ae (AW.seq (Ah (Qp A0 (Qp Cr (Ag (A3 (fun hc2=>?_) fun hc2=>?_))))))
  ·
   exact absurd hc2 (by rw [hok.err];decide)
  ·
   refine Bx (Ah ?_)
   refine Qp (Bc (l:=[]) (l':=[.ptr _]) rfl rfl) ?_
   refine Qp (C2 (v:=.fn _ _ _) rfl) ?_
   refine Ag (AW.seq (Ah (Qp A0 (Qp A5 (Qp Bp ?_)))))
   refine AOL.Aaf (y:=.fn _ _ _) _ [] rfl (rX.all trivial) (fun hG=>Bj (v:=.fn _ _ _) rfl) rfl ?_
   refine Qg [] Qw C4 ?_
   refine AOL.Aaf (y:=.bool _) _ [(47,_),(46,_)] rfl (rX.all ⟨Ent.Aac _ _,Ent.Aac _ _,trivial⟩) (fun hG=>Dz (by kernel_rfl) rfl rfl rfl (iD l hel a b ha hb)) rfl ?_
   refine Qp E1 (Qp Bp (Qg [] Qw A0 (Qg [(51,_)] Qw A5 (Qg [(52,_)] Qw Bp (Qg [] Qw (Qf [_,_]) (Qg [(54,_)] Qw Dk (Qg [] Qw (Qf [_]) (Qg [(56,_)] Qw Dk (Qg [] Qw C4 ?_)))))))))
   refine AOL.Aaf (y:=.bool _) _ [(55,_),(57,_),(58,_)] rfl (rX.all ⟨Ent.Aac _ _,Ent.Aac _ _,Ent.Aac _ _,trivial⟩) (fun hG=>C7 (by kernel_rfl) rfl rfl (pL T hl hst V hvl _ (Nat.le_trans (gO [a,b]) hvl))) rfl ?_
   refine Qg [(59,_)] Qw Ge (Qg [(60,_)] Qw Bp ?_)
   refine AOL.Aaf (y:=.fn _ _ _) _ [] rfl (rX.all trivial) (fun hG=>Bj (v:=.fn _ _ _) rfl) rfl ?_
   refine Qg [] Qw C4 ?_
   refine AOL.Aaf (y:=.bool _) _ [(63,_),(62,_)] rfl (rX.all ⟨Ent.Aac _ _,Ent.Aac _ _,trivial⟩) (fun hG=>Dz (by kernel_rfl) rfl rfl rfl (iD _ (Nat.le_trans (gO [a,b]) hvl) a b ha hb)) rfl ?_
   refine Qg [(64,_)] Qw Ge (Qg [(61,_),(65,_)] Qw E2 (Qg [(53,_),(66,_)] Qw E1 (Qp E2 (Ag (A3 (fun hc3=>?_) fun hc3=>?_)))))
   ·
    exact absurd hc3 (by rw [hok.cond3];decide)
   ·
    refine Bx (Ah ?_)
    refine Qp (Fc (cs':=cE b) Ai rfl rfl rfl rfl rfl (by decide) (by decide) (rfl)) ?_
    refine Qp D0 ?_
    refine Qp (Qc rfl (uW b hb)) ?_
    refine Qp Mv ?_
    refine Qp (Cb (v:=.agg [Iq _,_,Iq _,Iq _,Iq _,Iq _,Iq _,.str _]) rfl rfl) ?_
    refine Qp Jn ?_
    refine Qe (Al (l:=[.int .i64 0,.sl 8 [],.int .i64 0,.int .i64 0,.int .i64 0,.int .i64 0,.int .i64 0,.str []]) (by kernel_rfl)) ?_
    rintro _ _ ⟨b11,rfl,rfl⟩
    refine Cm 0 [Iq _,_,Iq _,Iq _,Iq _,Iq _,Iq _,.str _] (_::_) ?_
    refine Qp At ?_
    refine AOL.ghost (GS.Aad (t:=11) 0 rfl rfl) ?_
    refine Ag (AW.seq (Ah (Qp A0 (Qp Cr (Ag (A3 (fun hc4=>?_) fun hc4=>?_))))))
    ·
     refine Ah (Qp A0 (Qp A5 (Qp Bp (Qg [] Qw A0 (Qg [(80,_)] Qw A5 (Qp E2 (Qp Bp ?_)))))))
     refine Qg [] Qw (Qc rfl (bV)) ?_
     refine Qp E1 (Qp Be (Ag (Dr ?_)))
     refine Qr (.bool _) ?_
     exact congrArg AV.bool (by rw [hok.negC hc4];rfl)
    ·
     refine Bx (Ah (Qp (Qf [_,_]) (Qp Dk (Qp (Qf [_]) (Qp Dk ?_)))))
     refine Qp (Fc (cs':=cE a++cE b) Ai rfl rfl rfl rfl rfl (by decide) (by decide) (rfl)) ?_
     refine Qp D0 (Qp D0 ?_)
     refine Qp (Qc rfl (Ui T hl hst V hvl a _ ha (eT b))) ?_
     refine Qp Mv (Qp Jn (Qp Jn (Qp At (Qp At (Df ?_)))))
     refine Qp (Qc rfl (bV)) ?_
     refine Qp Bp (Qg [] Qw A0 (Qg [(99,_)] Qw A5 (Qp E1 (Qp Bp (Qg [] Qw A0 (Qg [(103,_)] Qw A5 (Qg [(104,_)] Qw Bp (Qg [] Qw A0 (Qg [(106,_)] Qw A5 ?_)))))))))
     refine Qg [(105,_),(107,_)] Qw E1 (Qg [(108,_)] Qw Ge (Qp E1 (Qp Bp (Qg [] Qw A0 (Qg [(112,_)] Qw A5 (Qg [(113,_)] Qw Bp (Qg [] Qw A0 (Qg [(115,_)] Qw A5 (Qg [(114,_),(116,_)] Qw E1 ?_)))))))))
     refine Qg [(117,_)] Qw Ge (Qp E1 (Qp Be (Ag (AW.ret ?_))))
     refine Qr (.bool _) ?_
     exact congrArg AV.bool (hok.last (by simpa using hc4))

end Go.Proofs.YtkddpedfbicbeaaGreatDoor

namespace Go.Aw
open Go
section
variable {P:Program} {w:World} {r:Reach} {base:Nat} {t:TypeId} {v:Value}
theorem dS {n:Nat}{e:TypeId}(ht:P.underlying t=some (.array n e))(h:Value.okWide P w r base t v):∃cs,v = .agg cs∧cs.size=P.cellsOf t:=by
 simp only [Value.okWide,ht] at h
 obtain ⟨cs,h1,h2,_⟩:=h
 exact ⟨cs,h1,h2⟩
end
end Go.Aw

namespace Go.Proofs.YtkddpedfbicbeaaGreatDoor
open Go Go.Aw Go.ChangeShapes Go.WideShapes Go.ChangeAt Go.RowKit
set_option maxRecDepth 100000

theorem laid:laidOutB Tryz.prog=true:=by kernel_rfl
theorem own:ownKnob Tryz.prog.godebug=none:=by kernel_rfl
def Tp:List Int:=[1,10,100,1000,10000,100000,1000000,10000000,100000000,1000000000,10000000000,100000000000,1000000000000,10000000000000,100000000000000,1000000000000000,10000000000000000,100000000000000000,1000000000000000000,10000000000000000000]
theorem pow_of {W : World} (h : laidMet Tryz.prog Rows.conditionKnowsRow.laid W) : Lib.TabIs Tryz.prog W "internal/strconv.uint64pow10" .u64 Tp := by
 obtain ⟨ps,⟨_,_,_,_,_,_,_,_,_,_,⟨_,_,_,_,_,_,_,_,_,_,⟨g',t',cs,fuel,p,q,hg',ht',hvar,hd,_,_⟩,_⟩,_⟩,_⟩:=h
 obtain rfl := Option.some.inj ((show Tryz.prog.globalNamed "internal/strconv.uint64pow10" = some 0 by kernel_rfl).symm.trans hg')
 obtain rfl:=Option.some.inj ((show (Tryz.prog.globals[0]?).map (·.type)=some 266 by kernel_rfl).symm.trans ht')
 have:=Lib.cells_of_tab (k:=.u64) (zs:=Tp) (n:=20) (e:=254) (by kernel_rfl) (by kernel_rfl) (by kernel_rfl) (by kernel_rfl) hd
 unfold Lib.TabIs
 rw [hvar,←this]
theorem vP {W : World} (h : Lib.TabIs Tryz.prog W "internal/strconv.uint64pow10" .u64 Tp) : ∃ T fr, W.heap[0]? = some (.cells (Tp.map fun z => Value.int .u64 z).toArray T fr) := by
 have e : Tryz.prog.globalNamed "internal/strconv.uint64pow10" = some 0 := by kernel_rfl
 unfold Lib.TabIs World.var? at h
 rw [e] at h
 have hk:∀(X:Array Value) (o:Option Obj),(match o with | some (Obj.cells cs _ _)=>some cs | _=>none)=some X→∃T fr,o=some (Obj.cells X T fr):=by
  intro X o h
  match o,h with
  | some (Obj.cells cs T fr),h=>exact ⟨T,fr,by rw [Option.some.inj h]⟩
 exact hk _ _ h
theorem globOK {W:World}(h:laidMet Tryz.prog Rows.conditionKnowsRow.laid W)(hS:W.ShapedOpen Tryz.prog):GlobOK g0 W:=by
  have ht:=pow_of h
  refine ⟨fun p hp=>?_,fun p hp=>?_⟩
  · obtain rfl:=List.mem_singleton.1 hp
    refine ⟨Ro,rfl,?_⟩
    have hcell : ∀ j, W.cell? ⟨0, j, none⟩ = (Tp.map fun z => Value.int .u64 z).toArray[j]? := fun j => World.var?_cell (show Tryz.prog.globalNamed "internal/strconv.uint64pow10" = some 0 by kernel_rfl) ht j
    have hs:Ro=Tp.map fun z=>AV.int .u64 z:=rfl
    rw [hs]
    refine .ptr 0 0 _ (fun j=>Value.int .u64 (Tp.getD j 0)) (fun j x hj=>?_) (fun j x hj=>?_)
    · rw [List.getElem?_map] at hj
      cases hq:Tp[j]? with
      | none=>rw [hq] at hj;cases hj
      | some y=>
        refine ⟨trivial,?_⟩
        rw [Nat.zero_add,hcell j]
        simp [hq,List.getD_eq_getElem?_getD]
    · rw [List.getElem?_map] at hj
      cases hq:Tp[j]? with
      | none=>rw [hq] at hj;cases hj
      | some y=>
        rw [hq] at hj
        simp only [Option.map_some,Option.some.injEq] at hj
        subst hj
        have e:Tp.getD j 0=y:=by rw [List.getD_eq_getElem?_getD,hq];rfl
        rw [e]
        exact .int _ _
  · obtain rfl:=List.mem_singleton.1 hp
    exact ⟨rfl,vP ht⟩
/-- A world for the witness: the D2 one, with the tX as the program's text lays them. -/
def kW (k:IntKind)(l:List Int):Obj→Obj
 | .cells _ t frozen=>.cells (l.map fun z=>Value.int k z).toArray t frozen
 | o=>o
def ofTab (d:DataW Unit):List Int:=match d with
 | .agg l=>l.map fun | .lit (.int _ n)=>n | _=>0
 | _=>[]
noncomputable def laidWorld (os:Os):World:=
 { World.holding Tryz.prog os ⟨#[],#[],[]⟩ with heap:=(((World.holding Tryz.prog os ⟨#[],#[],[]⟩).heap.modify 0 (kW .u64 Tp)).modify 1 (kW .u8 (ofTab Rows.laid_math_bits_deBruijn32tab))).modify 2 (kW .u8 (ofTab Rows.laid_math_bits_deBruijn64tab)) }
end Go.Proofs.YtkddpedfbicbeaaGreatDoor

namespace Go.Aw
open Go
section
variable {H:Type} {enc:TypeId×Value→H} {P:Program} {w:World} {sp:Nat→Bool} {hd:Bool} {B:DataW H→Nat} {BA:List (DataW H)→Nat}
theorem Rd.array' {α:Type}{fuel:Nat}{t e:TypeId}{n:Nat}{ts:List TypeId}{f:α→List AV}{ok:α→Prop}{bk:α→Nat}(h:P.underlying t=some (.array n e))(hB:Bulk B BA)
    (hts:ts=List.replicate n e) (hsz:P.cellsOf t=(ts.map P.cellsOf).sum) (hs:∀m,m<fuel→Rds enc P w sp hd BA m 0 ts f ok bk):Rd enc P w sp hd B fuel t f ok bk:=by
  cases fuel with
  | zero=>exact Rd.zero
  | succ m=>
    intro cs d ps hr
    obtain ⟨xs,m',hn,hx,hl,hxl,hg⟩:=DataW.trod_array h hr
    cases hn
    simp only [Prod.mk.injEq] at hx
    obtain ⟨rfl,rfl⟩:=hx
    subst hts
    obtain ⟨x,h1,h2,h3⟩:=hs m (Nat.lt_succ_self m) cs xs (by omega) (by rw [List.length_replicate];omega) (fun i t' hi=>by
      have hlt:i<n:=by have:=(List.getElem?_eq_some_iff.1 hi).1;simpa using this
      have e1:t'=e:=by
        have:=List.mem_of_getElem? hi
        exact (List.mem_replicate.1 this).2
      subst e1
      have:=hg i hlt
      have hsum:∀k z:Nat,(List.replicate k z).sum=k*z:=fun k z=>by
        induction k with
        | zero=>simp
        | succ k ih=>rw [List.replicate_succ,List.sum_cons,ih,Nat.add_mul];omega
      rw [Nat.zero_add,List.take_replicate,List.map_replicate,hsum,Nat.min_eq_left (Nat.le_of_lt hlt)]
      exact this)
    exact ⟨x,h1,Nat.le_trans h2 (hB.agg _),by simpa using h3⟩
end
end Go.Aw
