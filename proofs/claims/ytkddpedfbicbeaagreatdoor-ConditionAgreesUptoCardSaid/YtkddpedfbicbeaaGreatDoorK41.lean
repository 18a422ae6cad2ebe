/-
  Several texts in one: Y15, Y16, Y19, Y23, Ac, G11. No condition.
-/
import Derived.Test.YtkddpedfbicbeaaGreatDoorAz
import Derived.Test.YtkddpedfbicbeaaGreatDoorK40
import Derived.KernelRfl
import Derived.Test.YtkddpedfbicbeaaGreatDoorK27
import Derived.Test.YtkddpedfbicbeaaGreatDoorK28
import Derived.WideShapes
import Derived.Test.YtkddpedfbicbeaaGreatDoorAx
import Derived.Test.YtkddpedfbicbeaaGreatDoorCards
import Derived.Test.YtkddpedfbicbeaaGreatDoorTie
import Derived.Deep.DeepHandedRow
import Derived.Lib.LaidTab
set_option linter.unusedVariables false
set_option linter.unusedSimpArgs false
namespace Go.Proofs.YtkddpedfbicbeaaGreatDoor
open Go Go.Aw
set_option maxHeartbeats 25600000
set_option maxRecDepth 20000

set_option maxRecDepth 100000
theorem qI:Ar Tryz.prog 13 [.sl 2 (qV.map Nf),.sl 2 (tM.map Ub),.agg (cE clE)] (.tuple [.sl 1 (clL.map P2),.int .i64 0]):=by
 have h:=rG qV (by decide) fU tM (by decide) clE (Nd _ (by decide))
 rw [ex_cl] at h
 exact h
theorem c_zone:Ar Tryz.prog 43 [.sl 2 (qV.map Nf),.sl 2 (tM.map Ub),.sl 9 ([⟨N9,true⟩,⟨two 7 (Hj 0) (Hj 1),false⟩].map Gw)] (.tuple [.agg (Th znE),.sl 8 ([Hj 0,Hj 1].map Gs),.int .i64 0]):=by
 have h:=d_Zone qV (by decide) fU tM (by decide) [⟨N9,true⟩,⟨two 7 (Hj 0) (Hj 1),false⟩] (by decide) (fun c hc=>Zm _ (List.mem_cons_self ..) c hc)
 rw [ex_zn] at h
 exact h
theorem c_same:Ar Tryz.prog 15 [.sl 1 (clL.map P2),.sl 1 (clL.map P2)] (.bool true):=by
 have h:=Zg clL clL (by decide) (by decide) Zm
 rw [zT] at h
 exact h
theorem c_sameZ:Ar Tryz.prog 44 [.agg (Th znE),.agg (Th znE)] (.bool true):=r_SameZ znE (by decide)
theorem Aaq:Ar Tryz.prog 45 [.sl 8 ([Hj 0,Hj 1].map Gs),.sl 8 ([Hj 0,Hj 1].map cE)] (.bool true):=by
 have h:=qB [Hj 0,Hj 1] (by decide) (Mu _ (by decide))
 exact h
theorem c_imp1:Ar Tryz.prog 24 [.sl 2 (qV.map Nf),.sl 2 (tM.map Ub),.agg (cE N9),.agg (cE (two 7 (Hj 0) (Zj 4)))] (.tuple [.int .i64 1,.int .i64 0]):=by
 have h:=I4 qV (by decide) fU tM (by decide) N9 (two 7 (Hj 0) (Zj 4)) (Nd _ (by decide)) (Nd _ (by decide))
 rw [imp_1] at h
 exact h
theorem c_imp2:Ar Tryz.prog 24 [.sl 2 (qV.map Nf),.sl 2 (tM.map Ub),.agg (cE (two 7 (Hj 0) (Zj 4))),.agg (cE N9)] (.tuple [.int .i64 2,.int .i64 0]):=by
 have h:=I4 qV (by decide) fU tM (by decide) (two 7 (Hj 0) (Zj 4)) N9 (Nd _ (by decide)) (Nd _ (by decide))
 rw [imp_2] at h
 exact h
theorem R1  : Ar Tryz.prog 10 [] (.bool true):=by
 refine Ar.body (n:=179) Ai Tryz.func10 rfl rfl rfl fun H=>?_
 refine Ah (Qp Bc (Db ?_))
 refine Qp (Qc rfl (aJ)) ?_
 refine Qe (Aj (l:=[.sl 2 [],.sl 2 []]) (by kernel_rfl)) ?_
 rintro _ _ ⟨b1,rfl,rfl⟩
 refine Cq 0 [_,_] (_::_) ?_
 refine AOL.ghost (GS.Aat (t:=1) 0 rfl rfl) ?_
 refine Db ?_
 refine Qp (Qc rfl (Fy _)) ?_
 refine Qp (Qc rfl (Pl _)) ?_
 refine Qp (Qc rfl (Kb _ _ _)) ?_
 refine Qe (Aj (l:=[.int .i64 0,.sl 8 [],.int .i64 0,.int .i64 0,.int .i64 0,.int .i64 0,.int .i64 0,.str []]) (by kernel_rfl)) ?_
 rintro _ _ ⟨b2,rfl,rfl⟩
 refine Cq 0 [Iq _,_,Iq _,Iq _,Iq _,Iq _,Iq _,.str _] (_::_) ?_
 refine AOL.ghost (GS.Aat (t:=2) 0 rfl rfl) ?_
 refine Ag (AW.seq ?_)
 refine AW.draw mixed (fun _=>True) trivial (by kernel_rfl) ?_
 refine Qn 0 rfl (Qf [_,_]) (Qn 1 rfl Dg (Qn 2 rfl (Qf [_]) (Qn 3 rfl Dg (Qn 4 rfl Dh ?_))))
 refine Qn 5 rfl (Qc rfl (Fy _)) ?_
 refine Qn 6 rfl (Qc rfl (Fy _)) ?_
 refine Qn 7 rfl (Qc rfl (Kb _ _ _)) ?_
 refine Qn 8 rfl (Qc rfl (Kb _ _ _)) ?_
 refine Qn 9 rfl (Qc rfl (l_not _)) ?_
 refine Qn 10 rfl (Qc rfl (qI)) ?_
 refine Qn 11 rfl Lv (Qn 12 rfl Qxs (Qn 13 rfl Ih (Qn 14 rfl Xa (Qn 15 rfl Ap ?_))))
 refine Js.done _ _ (by kernel_rfl) ?_
 refine Ae (Ah (Qp Dh (Qp (El [Iq _,_,Iq _,Iq _,Iq _,Iq _,Iq _,.str _,.bool _]) ?_)))
 refine Qe (Aj (l:=[.int .i64 0,.sl 8 [],.int .i64 0,.int .i64 0,.int .i64 0,.int .i64 0,.int .i64 0,.str [],.bool false]) (by kernel_rfl)) ?_
 rintro _ _ ⟨b5,rfl,rfl⟩
 refine Cq 0 [Iq _,_,Iq _,Iq _,Iq _,Iq _,Iq _,.str _,.bool _] (_::_) ?_
 refine AOL.ghost (GS.Aat (t:=5) 0 rfl rfl) ?_
 refine Ag (AW.seq (AW.seq ?_))
 refine AW.draw mixed (fun _=>True) trivial (by kernel_rfl) ?_
 refine Qn 0 rfl Az (Qn 1 rfl Ci (Qn 2 rfl Bm (Qo 3 rfl [] Qw C5 (Qo 4 rfl [] Qw (Cd [Iq _,_,Iq _,Iq _,Iq _,Iq _,Iq _,.str _,.bool _]) ?_))))
 refine Qo 5 rfl [] Qw (Qc rfl (Fy _)) ?_
 refine Qo 6 rfl [] Qw (Qc rfl (Fy _)) ?_
 refine Js.pure _ _ 7 _ _ rfl (by kernel_rfl) (by kernel_rfl) rfl (.opt _ (.agg _) [(43,_),(44,_)] rfl (sB.all ⟨tO.self _ _,tO.self _ _,trivial⟩) (fun hG=>Ct (by kernel_rfl) rfl rfl (Kb _ _ _)) rfl) ?_
 refine Qo 8 rfl [(45,_)] Qw (El [Iq _,_,Iq _,Iq _,Iq _,Iq _,Iq _,.str _,.bool _]) ?_
 refine Js.pure _ _ 9 _ _ rfl (by kernel_rfl) (by kernel_rfl) rfl (.opt _ (.sl _ _) [(42,_),(46,_)] rfl (sB.all ⟨tO.self _ _,tO.self _ _,trivial⟩) (fun hG=>A0 (es:=[[Iq _,_,Iq _,Iq _,Iq _,Iq _,Iq _,.str _,.bool _],[Iq _,_,Iq _,Iq _,Iq _,Iq _,Iq _,.str _,.bool _]]) Ai rfl rfl rfl rfl rfl rfl rfl rfl rfl) rfl) ?_
 refine Qo 10 rfl [] Qw (Cd [Iq _,_,Iq _,Iq _,Iq _,Iq _,Iq _,.str _,.bool _]) ?_
 refine Qo 11 rfl [] Qw (Qc rfl (Fy _)) ?_
 refine Qo 12 rfl [] Qw (Qc rfl (Fy _)) ?_
 refine Js.pure _ _ 13 _ _ rfl (by kernel_rfl) (by kernel_rfl) rfl (.opt _ (.agg _) [(49,_),(50,_)] rfl (sB.all ⟨tO.self _ _,tO.self _ _,trivial⟩) (fun hG=>Ct (by kernel_rfl) rfl rfl (Kb _ _ _)) rfl) ?_
 refine Qo 14 rfl [(51,_)] Qw (El [Iq _,_,Iq _,Iq _,Iq _,Iq _,Iq _,.str _,.bool _]) ?_
 refine Js.pure _ _ 15 _ _ rfl (by kernel_rfl) (by kernel_rfl) rfl (.opt _ (.sl _ _) [(48,_),(52,_)] rfl (sB.all ⟨tO.self _ _,tO.self _ _,trivial⟩) (fun hG=>A0 (es:=[[Iq _,_,Iq _,Iq _,Iq _,Iq _,Iq _,.str _,.bool _],[Iq _,_,Iq _,Iq _,Iq _,Iq _,Iq _,.str _,.bool _]]) Ai rfl rfl rfl rfl rfl rfl rfl rfl rfl) rfl) ?_
 refine Js.pure _ _ 16 _ _ rfl (by kernel_rfl) (by kernel_rfl) rfl (.opt _ (.sl _ _) [(47,_),(53,_)] rfl (sB.all ⟨tO.self _ _,tO.self _ _,trivial⟩) (fun hG=>A0 (es:=[[_],[_]]) Ai rfl rfl rfl rfl rfl rfl rfl rfl rfl) rfl) ?_
 refine Js.pure _ _ 17 _ _ rfl (by kernel_rfl) (by kernel_rfl) rfl (.opt _ (.bool _) [(41,_),(54,_)] rfl (sB.all ⟨tO.self _ _,tO.self _ _,trivial⟩) (fun hG=>Ct (by kernel_rfl) rfl rfl (c_same)) rfl) ?_
 refine Qo 18 rfl [(55,_)] Qw Ge (Qn 19 rfl Ek ?_)
 refine Js.done _ _ (by kernel_rfl) ?_
 refine Ae (A2 (fun hc1=>?_) fun hc1=>?_)
 ·
  cases hc1
 ·
  refine Bv (AW.seq ?_)
  refine AW.draw mixed (fun _=>True) trivial (by kernel_rfl) ?_
  refine Qn 0 rfl (Qf [_,_]) (Qn 1 rfl Dg (Qn 2 rfl (Qf [_]) (Qn 3 rfl Dg (Qn 4 rfl C5 ?_))))
  refine Qn 5 rfl (Af (c:=[_]) Ai rfl rfl rfl rfl rfl rfl (by decide) (rfl)) ?_
  refine Qn 6 rfl Dg ?_
  refine Qn 7 rfl (Qc rfl (c_zone)) ?_
  refine Qn 8 rfl Lv ?_
  refine Qn 9 rfl (Ch (v:=.agg [Iq _,_]) rfl rfl) ?_
  refine Qn 10 rfl Qxs (Qn 11 rfl Ih ?_)
  refine Js.eff _ _ 12 _ _ rfl (by kernel_rfl) rfl rfl (Aj (l:=[.int .i64 0,.sl 3 []]) (by kernel_rfl)) (fun _ _ _=>trivial) ?_
  rintro _ _ ⟨b6,rfl,rfl⟩
  refine Js.eff _ _ 13 _ _ rfl (by kernel_rfl) rfl rfl (C6 (k:=0) (v:=.agg _) (cs':=[Iq _,_]) (H2:=_::_) Ai rfl rfl rfl rfl (rfl) rfl rfl rfl rfl) (fun _ _ _=>trivial) ?_
  rintro _ _ ⟨rfl,rfl⟩
  refine Qn 14 rfl Xa (Qn 15 rfl Ap ?_)
  refine Js.done _ _ (by kernel_rfl) ?_
  refine Ae ?_
  refine AW.ghost (GS.Aat (t:=6) 0 rfl rfl) ?_
  refine Ah (Qp (El [Iq _,Iq _,Iq _]) (Qp (El [Iq _,Iq _,Iq _]) (Qp (El [Iq _,Iq _,Iq _]) (Qp (El [Iq _,Iq _,Iq _]) (Qp (El [Iq _,Iq _,Iq _]) (Qp (El [Iq _,Iq _,Iq _]) ?_))))))
  refine Qp (A0 (es:=[[Iq _,Iq _,Iq _],[Iq _,Iq _,Iq _],[Iq _,Iq _,Iq _],[Iq _,Iq _,Iq _],[Iq _,Iq _,Iq _],[Iq _,Iq _,Iq _]]) Ai rfl rfl rfl rfl rfl rfl rfl rfl rfl) ?_
  refine Qp (El [Iq _,_]) ?_
  refine Qe (Aj (l:=[.int .i64 0,.sl 3 []]) (by kernel_rfl)) ?_
  rintro _ _ ⟨b9,rfl,rfl⟩
  refine Cq 0 [Iq _,_] (_::_) ?_
  refine AOL.ghost (GS.Aat (t:=9) 0 rfl rfl) ?_
  refine Ag (AW.seq (Ah (Qp Az (Qp Ci (Qp Bm (Qg [] Qw (Cd [Iq _,_]) (Qg [] Qw (Cd [Iq _,_]) ?_)))))))
  refine AOL.Aav (y:=.bool _) _ [(81,_),(82,_)] rfl (sB.all ⟨tO.self _ _,tO.self _ _,trivial⟩) (fun hG=>Ct (by kernel_rfl) rfl rfl (c_sameZ)) rfl ?_
  refine Qg [(83,_)] Qw Ge (Qp Ek (Qp Bm (Qg [] Qw C5 ?_)))
  refine Qg [] Qw (Qc rfl (Fy _)) ?_
  refine Qg [] Qw (Qc rfl (Fy _)) ?_
  refine AOL.Aav (y:=.sl _ _) _ [(88,_),(89,_)] rfl (sB.all ⟨tO.self _ _,tO.self _ _,trivial⟩) (fun hG=>A0 (es:=[[Iq _,_,Iq _,Iq _,Iq _,Iq _,Iq _,.str _],[Iq _,_,Iq _,Iq _,Iq _,Iq _,Iq _,.str _]]) Ai rfl rfl rfl rfl rfl rfl rfl rfl rfl) rfl ?_
  refine AOL.Aav (y:=.bool _) _ [(87,_),(90,_)] rfl (sB.all ⟨tO.self _ _,tO.self _ _,trivial⟩) (fun hG=>Ct (by kernel_rfl) rfl rfl (Aaq)) rfl ?_
  refine Qg [(91,_)] Qw Ge (Qp Ek (Ag (A2 (fun hc2=>?_) fun hc2=>?_)))
  ·
   cases hc2
  ·
   refine Bv (Ah ?_)
   refine Qp (Qc rfl (Fy _)) ?_
   refine Qp (Qc rfl (Fy _)) ?_
   refine Qp (Qc rfl (Kb _ _ _)) ?_
   refine Qe (Aj (l:=[.int .i64 0,.sl 8 [],.int .i64 0,.int .i64 0,.int .i64 0,.int .i64 0,.int .i64 0,.str []]) (by kernel_rfl)) ?_
   rintro _ _ ⟨b10,rfl,rfl⟩
   refine Cq 0 [Iq _,_,Iq _,Iq _,Iq _,Iq _,Iq _,.str _] (_::_) ?_
   refine AOL.ghost (GS.Aat (t:=10) 0 rfl rfl) ?_
   refine Db ?_
   refine Qp (C8 (v:=.fn _ _ _) rfl) ?_
   refine Db (Qp (El [Iq _,Iq _,.str _]) (Qp (El [Iq _,_,Iq _,Iq _,Iq _,Iq _,Iq _,.str _]) ?_))
   refine Qe (Aj (l:=[.int .i64 0,.sl 8 [],.int .i64 0,.int .i64 0,.int .i64 0,.int .i64 0,.int .i64 0,.str []]) (by kernel_rfl)) ?_
   rintro _ _ ⟨b12,rfl,rfl⟩
   refine Cq 0 [Iq _,_,Iq _,Iq _,Iq _,Iq _,Iq _,.str _] (_::_) ?_
   refine AOL.ghost (GS.Aat (t:=12) 0 rfl rfl) ?_
   refine Db (Qp (El [Iq _,_,Iq _,Iq _,Iq _,Iq _,Iq _,.str _]) ?_)
   refine Qp (Qc rfl (Pl _)) ?_
   refine Qp (Qc rfl (Kb 9 ⟨3,[],0,0,0,v0⟩ (Zj 2))) ?_
   refine Qe (Aj (l:=[.int .i64 0,.sl 8 [],.int .i64 0,.int .i64 0,.int .i64 0,.int .i64 0,.int .i64 0,.str []]) (by kernel_rfl)) ?_
   rintro _ _ ⟨b13,rfl,rfl⟩
   refine Cq 0 [Iq _,_,Iq _,Iq _,Iq _,Iq _,Iq _,.str _] (_::_) ?_
   refine AOL.ghost (GS.Aat (t:=13) 0 rfl rfl) ?_
   refine Ag (AW.seq ?_)
   refine AW.draw mixed (fun _=>True) trivial (by kernel_rfl) ?_
   refine Qn 0 rfl (Qf [_,_]) (Qn 1 rfl Dg (Qn 2 rfl (Qf [_]) (Qn 3 rfl Dg (Qn 4 rfl Dh ?_))))
   refine Qn 5 rfl (Qc rfl (Fy _)) ?_
   refine Qn 6 rfl (Qc rfl (Pl _)) ?_
   refine Qn 7 rfl (Qc rfl (Kb _ _ _)) ?_
   refine Qn 8 rfl (Qc rfl (c_imp1)) ?_
   refine Qn 9 rfl Lv (Qn 10 rfl Ih (Qn 11 rfl Ih (Qn 12 rfl Ap (Qn 13 rfl Ap ?_))))
   refine Js.done _ _ (by kernel_rfl) ?_
   refine Ae (AW.seq ?_)
   refine AW.draw mixed (fun _=>True) trivial (by kernel_rfl) ?_
   refine Qn 0 rfl (Qf [_,_]) (Qn 1 rfl Dg (Qn 2 rfl (Qf [_]) (Qn 3 rfl Dg ?_)))
   refine Qn 4 rfl (Qc rfl (Fy _)) ?_
   refine Qn 5 rfl (Qc rfl (Pl _)) ?_
   refine Qn 6 rfl (Qc rfl (Kb _ _ _)) ?_
   refine Qn 7 rfl Dh ?_
   refine Qn 8 rfl (Qc rfl (c_imp2)) ?_
   refine Qn 9 rfl Lv (Qn 10 rfl Ih (Qn 11 rfl Ih (Qn 12 rfl Ap (Qn 13 rfl Ap ?_))))
   refine Js.done _ _ (by kernel_rfl) ?_
   refine Ae (AW.seq ?_)
   refine AW.draw mixed (fun _=>True) trivial (by kernel_rfl) ?_
   refine Qn 0 rfl Dh ?_
   refine Qn 1 rfl (Bk (v:=.fn _ _ _) rfl) ?_
   refine Qn 2 rfl (D4 (by kernel_rfl) rfl rfl rfl (yJ 1)) ?_
   refine Qn 3 rfl (A0 (es:=[[Iq _,_,Iq _,Iq _,Iq _,Iq _,Iq _,.str _],[Iq _,_,Iq _,Iq _,Iq _,Iq _,Iq _,.str _]]) Ai rfl rfl rfl rfl rfl rfl rfl rfl rfl) ?_
   refine Qn 4 rfl (Qc rfl (Lp 2 [upE,gN 1] (by decide) (Mu _ (by decide)) ver_1)) ?_
   refine Qn 5 rfl Bm (Qo 6 rfl [] Qw Dh ?_)
   refine Js.pure _ _ 7 _ _ rfl (by kernel_rfl) (by kernel_rfl) rfl (.opt _ (.fn _ _ _) [] rfl (sB.all trivial) (fun hG=>Bk (v:=.fn _ _ _) rfl) rfl) ?_
   refine Js.pure _ _ 8 _ _ rfl (by kernel_rfl) (by kernel_rfl) rfl (.opt _ (.agg _) [(133,_)] rfl (sB.all ⟨tO.self _ _,trivial⟩) (fun hG=>D4 (by kernel_rfl) rfl rfl rfl (yJ 2)) rfl) ?_
   refine Js.pure _ _ 9 _ _ rfl (by kernel_rfl) (by kernel_rfl) rfl (.opt _ (.sl _ _) [(132,_),(134,_)] rfl (sB.all ⟨tO.self _ _,tO.self _ _,trivial⟩) (fun hG=>A0 (es:=[[Iq _,_,Iq _,Iq _,Iq _,Iq _,Iq _,.str _],[Iq _,_,Iq _,Iq _,Iq _,Iq _,Iq _,.str _]]) Ai rfl rfl rfl rfl rfl rfl rfl rfl rfl) rfl) ?_
   refine Qo 10 rfl [(135,_)] Qw (Qc rfl (Lp 1 [upE,gN 2] (by decide) (Mu _ (by decide)) ver_2)) ?_
   refine Qn 11 rfl Em (Qn 12 rfl Bm ?_)
   refine Qo 13 rfl [] Qw (Qc rfl (Sv _)) ?_
   refine Qo 14 rfl [] Qw Dh ?_
   refine Js.pure _ _ 15 _ _ rfl (by kernel_rfl) (by kernel_rfl) rfl (.opt _ (.agg _) [(139,_),(140,_)] rfl (sB.all ⟨tO.self _ _,tO.self _ _,trivial⟩) (fun hG=>Ct (by kernel_rfl) rfl rfl (Kb 9 (Ti 0) Xi)) rfl) ?_
   refine Qo 16 rfl [] Qw (Qc rfl (Sv _)) ?_
   refine Qo 17 rfl [] Qw (Qc rfl (Sv _)) ?_
   refine Js.pure _ _ 18 _ _ rfl (by kernel_rfl) (by kernel_rfl) rfl (.opt _ (.agg _) [(142,_),(143,_)] rfl (sB.all ⟨tO.self _ _,tO.self _ _,trivial⟩) (fun hG=>Ct (by kernel_rfl) rfl rfl (Kb 9 (Ti 1) (Ti 0))) rfl) ?_
   refine Qo 19 rfl [] Qw (Qc rfl (Sv _)) ?_
   refine Qo 20 rfl [] Qw Dh ?_
   refine Js.pure _ _ 21 _ _ rfl (by kernel_rfl) (by kernel_rfl) rfl (.opt _ (.agg _) [(145,_),(146,_)] rfl (sB.all ⟨tO.self _ _,tO.self _ _,trivial⟩) (fun hG=>Ct (by kernel_rfl) rfl rfl (Kb 9 (Ti 1) Xi)) rfl) ?_
   refine Qo 22 rfl [(147,_)] Qw (Qc rfl (l_not (two 9 (Ti 1) Xi))) ?_
   refine Js.pure _ _ 23 _ _ rfl (by kernel_rfl) (by kernel_rfl) rfl (.opt _ (.sl _ _) [(141,_),(144,_),(148,_)] rfl (sB.all ⟨tO.self _ _,tO.self _ _,tO.self _ _,trivial⟩) (fun hG=>A0 (es:=[[Iq _,_,Iq _,Iq _,Iq _,Iq _,Iq _,.str _],[Iq _,_,Iq _,Iq _,Iq _,Iq _,Iq _,.str _],[Iq _,_,Iq _,Iq _,Iq _,Iq _,Iq _,.str _]]) Ai rfl rfl rfl rfl rfl rfl rfl rfl rfl) rfl) ?_
   refine Qo 24 rfl [(149,_)] Qw (Qc rfl (Lp 2 [two 9 (Ti 0) Xi,two 9 (Ti 1) (Ti 0),sP (two 9 (Ti 1) Xi)] (by decide) (Mu _ (by decide)) ver_3)) ?_
   refine Qn 25 rfl Em (Qn 26 rfl Bm (Qo 27 rfl [] Qw Dh ?_))
   refine Js.pure _ _ 28 _ _ rfl (by kernel_rfl) (by kernel_rfl) rfl (.opt _ (.sl _ _) [(153,_)] rfl (sB.all ⟨tO.self _ _,trivial⟩) (fun hG=>A0 (es:=[[Iq _,_,Iq _,Iq _,Iq _,Iq _,Iq _,.str _]]) Ai rfl rfl rfl rfl rfl rfl rfl rfl rfl) rfl) ?_
   refine Qo 29 rfl [(154,_)] Qw (Qc rfl (Lp 0 [bH] (by decide) (Mu _ (by decide)) ver_4)) ?_
   refine Qn 30 rfl Em (Qn 31 rfl Bm (Qo 32 rfl [] Qw Dh ?_))
   refine Qo 33 rfl [] Qw (Qc rfl (Fy _)) ?_
   refine Qo 34 rfl [] Qw (Qc rfl (Fy _)) ?_
   refine Js.pure _ _ 35 _ _ rfl (by kernel_rfl) (by kernel_rfl) rfl (.opt _ (.agg _) [(159,_),(160,_)] rfl (sB.all ⟨tO.self _ _,tO.self _ _,trivial⟩) (fun hG=>Ct (by kernel_rfl) rfl rfl (Kb _ _ _)) rfl) ?_
   refine Js.pure _ _ 36 _ _ rfl (by kernel_rfl) (by kernel_rfl) rfl (.opt _ (.sl _ _) [(158,_),(161,_)] rfl (sB.all ⟨tO.self _ _,tO.self _ _,trivial⟩) (fun hG=>A0 (es:=[[Iq _,_,Iq _,Iq _,Iq _,Iq _,Iq _,.str _],[Iq _,_,Iq _,Iq _,Iq _,Iq _,Iq _,.str _]]) Ai rfl rfl rfl rfl rfl rfl rfl rfl rfl) rfl) ?_
   refine Qo 37 rfl [(162,_)] Qw (Qc rfl (Lp 2 [bH,two 7 (Hj 0) (Hj 0)] (by decide) (Mu _ (by decide)) ver_5)) ?_
   refine Qn 38 rfl Em (Qn 39 rfl Bm (Qo 40 rfl [] Qw Az (Qo 41 rfl [] Qw Az ?_)))
   refine Js.pure _ _ 42 _ _ rfl (by kernel_rfl) (by kernel_rfl) rfl (.opt _ (Iq _) [(166,_),(167,_)] rfl (sB.all ⟨tO.self _ _,tO.self _ _,trivial⟩) (fun hG=>jE rfl rfl rfl (by constructor <;> omega)) rfl) ?_
   refine Qo 43 rfl [(168,_)] Qw A6 (Qn 44 rfl Em (Qn 45 rfl Bm (Qo 46 rfl [] Qw Az (Qo 47 rfl [(172,_)] Qw A6 (Qn 48 rfl Em (Qn 49 rfl Bm (Qo 50 rfl [] Qw Az (Qo 51 rfl [(176,_)] Qw A6 (Qn 52 rfl Em ?_)))))))))
   refine Qn 53 rfl Bc ?_
   refine Js.done _ _ (by kernel_rfl) ?_
   refine Ae (AW.ret ?_)
   refine Qr (.bool _) ?_
   rfl


set_option maxRecDepth 100000
theorem vO {e:Ex}(h:Av e≤1048576):∀x∈[e],Av x≤1048576:=fun x hx=>by rw [List.mem_singleton.1 hx];exact h
theorem l_fewC (T:List Sc)(hl:T.length≤1048576)(hst:∀s∈T,I9 s)(V:List Va)(hvl:V.length≤1048576)(es:List Ex)(hel:es.length≤1048576)(hes:∀e∈es,Av e≤1048576):Ar Tryz.prog 9 [.agg (Cj T V),.sl 8 (es.map cE)] (.bool (iF T V es)):=by
 have h:=l_few T hl hst V hvl es hel hes
 rw [show es.map Gs=es.map cE from List.map_congr_left fun e _=>K5 e] at h
 exact h
set_option maxHeartbeats 3200000
set_option maxRecDepth 20000

theorem nK (T:List Sc)(hl:T.length≤1048576)(hst:∀s∈T,I9 s)(V:List Va)(hvl:V.length≤1048576)(l:List Ev)(hel:l.length≤1048576)(e:Ex)(hs:Av e≤1048576):Ar Tryz.prog 23 [.agg (Cj T V),.sl 5 (l.map Pm),.agg (cE e)] (.bool (Om T V l e)):=by
 refine Ar.body (n:=38) Ai Tryz.func23 rfl rfl rfl fun H=>?_
 refine Ah (Qp (Fx [_,_]) (Qp K3 (Qp Bc (Db (Qp (Cd [_,_]) (Qp Dh ?_))))))
 refine Qp (A0 (es:=[[Iq _,_,Iq _,Iq _,Iq _,Iq _,Iq _,.str _]]) Ai rfl rfl rfl rfl rfl rfl rfl rfl rfl) ?_
 refine Qp (Qc rfl (l_fewC T hl hst V hvl [e] (show (1:Nat)≤_ by decide) (vO hs))) ?_
 refine Qp Bm (Qg [] Qw C5 ?_)
 refine Qg [(12,_)] Qw (Qc rfl (wH l)) ?_
 refine Qp Em (Qp Bm (Qg [] Qw (Qf [_,_]) (Qg [(16,_)] Qw Dg ?_)))
 refine Qg [(17,_)] Qw (Qc rfl (c59 T hl hst)) ?_
 refine Qg [(18,_)] Qw A6 (Qp Em (Qp Bm (Qg [] Qw (Qf [_,_]) (Qg [(22,_)] Qw Dg (Qg [] Qw (Qf [_]) (Qg [(24,_)] Qw Dg (Qg [] Qw C5 ?_)))))))
 refine AOL.Aav (y:=.bool _) _ [(23,_),(25,_),(26,_)] rfl (sB.all ⟨tO.self _ _,tO.self _ _,tO.self _ _,trivial⟩) (fun hG=>Ct (by kernel_rfl) rfl rfl (Aao T hl hst V hvl l hel)) rfl ?_
 refine Qp Em (Qp Bm (Qg [] Qw (Qf [_,_]) (Qg [(30,_)] Qw Dg (Qg [] Qw (Qf [_]) (Qg [(32,_)] Qw Dg (Qg [] Qw Dh ?_))))))
 refine AOL.Aav (y:=Iq _) _ [(31,_),(33,_),(34,_)] rfl (sB.all ⟨tO.self _ _,tO.self _ _,tO.self _ _,trivial⟩) (fun hG=>Ct (by kernel_rfl) rfl rfl (iO T hl hst V hvl e hs)) rfl ?_
 refine Qg [(35,_)] Qw A6 (Qp Em (Qp Bc (Ag (AW.ret ?_))))
 refine Qr (.bool _) ?_
 rfl
set_option maxHeartbeats 12800000
set_option maxRecDepth 20000

theorem V0 {a b:Ex}(hab:Av a+Av b<1048576):Av (two 11 a b)≤1048576:=by
 rw [Ef];simp [two];omega
theorem gC (e:Ex)(hs:Av e≤1048576):Ar Tryz.prog 25 [.agg (cE e)] (.bool (decide (((Fc 9 e:Nat):Int)≤8))):=by
 refine Ar.body (n:=6) Ai Tryz.func25 rfl rfl rfl fun H=>?_
 refine Ah (Qp K3 (Qp Bc (Db (Qp Dh ?_))))
 refine Qp (Qc rfl (c48 9 e hs)) ?_
 refine Qp Mt (Qp Bc (Ag (AW.ret ?_)))
 refine Qr (.bool _) ?_
 rfl
theorem R5 (T:List Sc)(hl:T.length≤1048576)(hst:∀s∈T,I9 s)(V:List Va)(hvl:V.length≤1048576)(l:List Ev)(hel:l.length≤1048576)(a b:Ex)(ha:Av a≤1048576)(hb:Av b≤1048576)(hab:Av a+Av b<1048576):Ar Tryz.prog 5 [.agg (Cj T V),.sl 5 (l.map Pm),.agg (cE a++cE b)] (.bool true):=by
 refine Ar.body (n:=135) Ai Tryz.func5 rfl rfl rfl fun H=>?_
 refine Ah (Qp (Fx [_,_]) (Qp (Fx [Iq _,_,Iq _,Iq _,Iq _,Iq _,Iq _,.str _,Iq _,_,Iq _,Iq _,Iq _,Iq _,Iq _,.str _]) (Qp Bc (Ag (AW.seq (Ah (Qp (Cd [_,_]) (Qp C5 ?_))))))))
 refine Qp (H6 (cs':=cE a++cE b) Ai rfl rfl rfl rfl rfl (by decide) (by decide) (rfl)) ?_
 refine Qp Dh ?_
 refine Qp (Qc rfl (nK T hl hst V hvl l hel a ha)) ?_
 refine Qp Ge (Qp Bm (Qg [] Qw (Cd [_,_]) (Qg [] Qw C5 ?_)))
 refine AOL.Aav (y:=.ptr _) _ [] rfl (sB.all trivial) (fun hG=>H6 (cs':=cE b) Ai rfl rfl rfl rfl rfl (by decide) (by decide) (rfl)) rfl ?_
 refine Qg [(28,_)] Qw Dh ?_
 refine AOL.Aav (y:=.bool _) _ [(26,_),(27,_),(29,_)] rfl (sB.all ⟨tO.self _ _,tO.self _ _,tO.self _ _,trivial⟩) (fun hG=>Ct (by kernel_rfl) rfl rfl (nK T hl hst V hvl l hel b hb)) rfl ?_
 refine Qg [(30,_)] Qw Ge (Qp Ek (Ag (A2 (fun hc1=>?_) fun hc1=>?_)))
 ·
  refine Ah ?_
  refine Qp (Qc rfl (R1)) ?_
  refine Qp Bc (Ag (Dq ?_))
  refine Qr (.bool _) ?_
  rfl
 ·
  have hok:=jI hc1
  have hag:=hok.agree1
  have hag2:=hok.agree2
  refine Bv (AW.seq ?_)
  refine AW.draw mixed (fun _=>True) trivial (by kernel_rfl) ?_
  refine Qn 0 rfl (H6 (cs':=cE a++cE b) Ai rfl rfl rfl rfl rfl (by decide) (by decide) (rfl)) ?_
  refine Qn 1 rfl Dh ?_
  refine Qn 2 rfl (H6 (cs':=cE b) Ai rfl rfl rfl rfl rfl (by decide) (by decide) (rfl)) ?_
  refine Qn 3 rfl Dh ?_
  refine Js.two _ _ 4 5 _ _ _ _ rfl rfl (by kernel_rfl) rfl rfl rfl rfl (Aj (l:=[.int .i64 0,.sl 8 [],.int .i64 0,.int .i64 0,.int .i64 0,.int .i64 0,.int .i64 0,.str []]) (by kernel_rfl)) (Aj (l:=[.int .i64 0,.sl 8 [],.int .i64 0,.int .i64 0,.int .i64 0,.int .i64 0,.int .i64 0,.str []]) (by kernel_rfl)) (by rintro _ _ ⟨b7,rfl,rfl⟩;trivial) (by rintro _ _ ⟨b8,rfl,rfl⟩;trivial) ?_ ?_
  ·
   rintro _ _ ⟨b7,rfl,rfl⟩
   refine Js.eff _ _ 5 _ _ rfl (by kernel_rfl) rfl rfl (Aj (l:=[.int .i64 0,.sl 8 [],.int .i64 0,.int .i64 0,.int .i64 0,.int .i64 0,.int .i64 0,.str []]) (by kernel_rfl)) (fun _ _ _=>trivial) ?_
   rintro _ _ ⟨b8,rfl,rfl⟩
   refine Js.eff _ _ 6 _ _ rfl (by kernel_rfl) rfl rfl (C6 (k:=1) (v:=.agg _) (cs':=[Iq _,_,Iq _,Iq _,Iq _,Iq _,Iq _,.str _]) (H2:=_::_::_) Ai rfl rfl rfl rfl (rfl) rfl rfl rfl rfl) (fun _ _ _=>trivial) ?_
   rintro _ _ ⟨rfl,rfl⟩
   refine Js.eff _ _ 7 _ _ rfl (by kernel_rfl) rfl rfl (C6 (k:=0) (v:=.agg _) (cs':=[Iq _,_,Iq _,Iq _,Iq _,Iq _,Iq _,.str _]) (H2:=_::_::_) Ai rfl rfl rfl rfl (rfl) rfl rfl rfl rfl) (fun _ _ _=>trivial) ?_
   rintro _ _ ⟨rfl,rfl⟩
   refine Js.done _ _ (by kernel_rfl) ?_
   refine Ae ?_
   refine AW.ghost (GS.Aat (t:=8) 0 rfl rfl) ?_
   refine AW.ghost (GS.Aat (t:=7) 0 rfl rfl) ?_
   refine Ah (Qp (Qf [_,_]) (Qp Dg (Qp (Qf [_]) (Qp Dg (Qp Dh (Qp Dh ?_))))))
   refine Qp (Qc rfl (I4 T hl hst V hvl a b ha hb)) ?_
   refine Qp Lv (Qp Ih (Qp Ih (Qp Ap (Qp Ap (Db (Qp (Qf [_,_]) (Qp Dg (Qp (Qf [_]) (Qp Dg ?_)))))))))
   refine Qp Dh (Qp Dh ?_)
   refine Qp (Qc rfl (I4 T hl hst V hvl a a ha ha)) ?_
   refine Qp Lv (Qp Ih (Qp Ih (Qp Ap (Qp Ap (Db (Qp (Qf [_,_]) (Qp Dg (Qp (Qf [_]) (Qp Dg ?_)))))))))
   refine Qp Dh ?_
   refine Qp (Qc rfl (nV T hl hst V hvl a ha)) ?_
   refine Qp Lv (Qp dK (Qp Ih (Qp Bc (Qp Ap (Ag (AW.seq (Ah (Qp Az (Qp Ci ?_)))))))))
   refine Qp Bm (Qg [] Qw Az (Qg [(70,_)] Qw Ci (Qp Ek (Qp Bm (Qg [] Qw Az (Qg [(74,_)] Qw Ci (Qp Ek (Qp Bm (Qg [] Qw Az ?_)))))))))
   refine Qg [(78,_)] Qw A6 (Qp Ek (Qp Bm (Qg [] Qw Bm (Qg [(82,_)] Qw Bm (Qg [] Qw Az (Qg [(84,_)] Qw A6 (Qg [(83,_),(85,_)] Qw Em (Qg [(86,_)] Qw Bm (Qg [] Qw Dh ?_)))))))))
   refine Qg [(88,_)] Qw (Qc rfl (gC a ha)) ?_
   refine Qg [(87,_),(89,_)] Qw Em (Qp Ek (Ag (A2 (fun hc2=>?_) fun hc2=>?_)))
   ·
    exact absurd hc2 (by rw [hag.1,hag.2];decide)
   ·
    refine Bv (Ah (Qp C5 ?_))
    refine Qp (Qc rfl (xN l hel)) ?_
    refine Qe (Aj (l:=[.sl 1 []]) (by kernel_rfl)) ?_
    rintro _ _ ⟨b15,rfl,rfl⟩
    refine Cq 0 [_] (_::_) ?_
    refine AOL.ghost (GS.Aat (t:=15) 0 rfl rfl) ?_
    refine Ag (AW.seq (Ah (Qp Az (Qp A6 (Qp Bm (Qg [] Qw Dh (Qg [] Qw (Cd [_]) (Qg [] Qw (El [Iq _,Iq _,Iq _,Iq _,_]) ?_))))))))
    refine AOL.Aav (y:=.bool _) _ [(97,_),(98,_),(99,_)] rfl (sB.all ⟨tO.self _ _,tO.self _ _,tO.self _ _,trivial⟩) (fun hG=>Ct (by kernel_rfl) rfl rfl (c16 (Dw l) (-1) Kn (Rz l) a ha)) rfl ?_
    refine Qp Em (Qp Bm (Qg [] Qw Dh (Qg [] Qw (Cd [_]) (Qg [] Qw (El [Iq _,Iq _,Iq _,Iq _,_]) ?_))))
    refine AOL.Aav (y:=.bool _) _ [(103,_),(104,_),(105,_)] rfl (sB.all ⟨tO.self _ _,tO.self _ _,tO.self _ _,trivial⟩) (fun hG=>Ct (by kernel_rfl) rfl rfl (c16 (Dw l) (-1) Kn (Rz l) b hb)) rfl ?_
    refine Qg [(106,_)] Qw Ge (Qp Em (Ag (A2 (fun hc3=>?_) fun hc3=>?_)))
    ·
     exact absurd hc3 (by rw [hag2];decide)
    ·
     refine Bv (Ah (Qp Dh (Qp Dh ?_)))
     refine Qp (Qc rfl (Kb 11 a b)) ?_
     refine Qe (Aj (l:=[.int .i64 0,.sl 8 [],.int .i64 0,.int .i64 0,.int .i64 0,.int .i64 0,.int .i64 0,.str []]) (by kernel_rfl)) ?_
     rintro _ _ ⟨b16,rfl,rfl⟩
     refine Cq 0 [Iq _,_,Iq _,Iq _,Iq _,Iq _,Iq _,.str _] (_::_) ?_
     refine AOL.ghost (GS.Aat (t:=16) 0 rfl rfl) ?_
     refine Ag (AW.seq (Ah (Qp Dh ?_)))
     refine Qp (Qc rfl (c21 (two 11 a b) (V0 hab))) ?_
     refine Qp Ci (Ag (A2 (fun hc4=>?_) fun hc4=>?_))
     ·
      refine Ah ?_
      refine Qp (Qc rfl (R1)) ?_
      refine Qp Bc (Ag (Dq ?_))
      refine Qr (.bool _) ?_
      rfl
     ·
      have hag3:=hok.agree3 hc4
      refine Bv (Ah (Qp (Qf [_,_]) (Qp Dg (Qp (Qf [_]) (Qp Dg (Qp Dh (Qp Dh ?_)))))))
      refine Qp (Qc rfl (I4 T hl hst V hvl a (two 11 a b) ha (V0 hab))) ?_
      refine Qp Lv (Qp Ih (Qp Ih (Qp Ap (Qp Ap (Db ?_)))))
      refine Qp (Qc rfl (R1)) ?_
      refine Qp Bm (Qg [] Qw Az (Qg [(128,_)] Qw A6 (Qp Em (Qp Bm (Qg [] Qw Az (Qg [(132,_)] Qw Ci (Qp Em (Qp Bc (Ag ?_)))))))))
      refine AW.ret ?_
      refine Qr (.bool _) ?_
      exact congrArg AV.bool (by rw [hag3.1];simpa using hag3.2)
  ·
   rintro _ _ ⟨b8,rfl,rfl⟩
   refine Js.eff _ _ 4 _ _ rfl (by kernel_rfl) rfl rfl (Aj (l:=[.int .i64 0,.sl 8 [],.int .i64 0,.int .i64 0,.int .i64 0,.int .i64 0,.int .i64 0,.str []]) (by kernel_rfl)) (fun _ _ _=>trivial) ?_
   rintro _ _ ⟨b7,rfl,rfl⟩
   refine Js.eff _ _ 6 _ _ rfl (by kernel_rfl) rfl rfl (C6 (k:=0) (v:=.agg _) (cs':=[Iq _,_,Iq _,Iq _,Iq _,Iq _,Iq _,.str _]) (H2:=_::_::_) Ai rfl rfl rfl rfl (rfl) rfl rfl rfl rfl) (fun _ _ _=>trivial) ?_
   rintro _ _ ⟨rfl,rfl⟩
   refine Js.eff _ _ 7 _ _ rfl (by kernel_rfl) rfl rfl (C6 (k:=1) (v:=.agg _) (cs':=[Iq _,_,Iq _,Iq _,Iq _,Iq _,Iq _,.str _]) (H2:=_::_::_) Ai rfl rfl rfl rfl (rfl) rfl rfl rfl rfl) (fun _ _ _=>trivial) ?_
   rintro _ _ ⟨rfl,rfl⟩
   refine Js.done _ _ (by kernel_rfl) ?_
   refine Ae ?_
   refine AW.ghost (GS.Aat (t:=7) 0 rfl rfl) ?_
   refine AW.ghost (GS.Aat (t:=8) 0 rfl rfl) ?_
   refine Ah (Qp (Qf [_,_]) (Qp Dg (Qp (Qf [_]) (Qp Dg (Qp Dh (Qp Dh ?_))))))
   refine Qp (Qc rfl (I4 T hl hst V hvl a b ha hb)) ?_
   refine Qp Lv (Qp Ih (Qp Ih (Qp Ap (Qp Ap (Db (Qp (Qf [_,_]) (Qp Dg (Qp (Qf [_]) (Qp Dg ?_)))))))))
   refine Qp Dh (Qp Dh ?_)
   refine Qp (Qc rfl (I4 T hl hst V hvl a a ha ha)) ?_
   refine Qp Lv (Qp Ih (Qp Ih (Qp Ap (Qp Ap (Db (Qp (Qf [_,_]) (Qp Dg (Qp (Qf [_]) (Qp Dg ?_)))))))))
   refine Qp Dh ?_
   refine Qp (Qc rfl (nV T hl hst V hvl a ha)) ?_
   refine Qp Lv (Qp dK (Qp Ih (Qp Bc (Qp Ap (Ag (AW.seq (Ah (Qp Az (Qp Ci ?_)))))))))
   refine Qp Bm (Qg [] Qw Az (Qg [(70,_)] Qw Ci (Qp Ek (Qp Bm (Qg [] Qw Az (Qg [(74,_)] Qw Ci (Qp Ek (Qp Bm (Qg [] Qw Az ?_)))))))))
   refine Qg [(78,_)] Qw A6 (Qp Ek (Qp Bm (Qg [] Qw Bm (Qg [(82,_)] Qw Bm (Qg [] Qw Az (Qg [(84,_)] Qw A6 (Qg [(83,_),(85,_)] Qw Em (Qg [(86,_)] Qw Bm (Qg [] Qw Dh ?_)))))))))
   refine Qg [(88,_)] Qw (Qc rfl (gC a ha)) ?_
   refine Qg [(87,_),(89,_)] Qw Em (Qp Ek (Ag (A2 (fun hc5=>?_) fun hc5=>?_)))
   ·
    exact absurd hc5 (by rw [hag.1,hag.2];decide)
   ·
    refine Bv (Ah (Qp C5 ?_))
    refine Qp (Qc rfl (xN l hel)) ?_
    refine Qe (Aj (l:=[.sl 1 []]) (by kernel_rfl)) ?_
    rintro _ _ ⟨b15,rfl,rfl⟩
    refine Cq 0 [_] (_::_) ?_
    refine AOL.ghost (GS.Aat (t:=15) 0 rfl rfl) ?_
    refine Ag (AW.seq (Ah (Qp Az (Qp A6 (Qp Bm (Qg [] Qw Dh (Qg [] Qw (Cd [_]) (Qg [] Qw (El [Iq _,Iq _,Iq _,Iq _,_]) ?_))))))))
    refine AOL.Aav (y:=.bool _) _ [(97,_),(98,_),(99,_)] rfl (sB.all ⟨tO.self _ _,tO.self _ _,tO.self _ _,trivial⟩) (fun hG=>Ct (by kernel_rfl) rfl rfl (c16 (Dw l) (-1) Kn (Rz l) a ha)) rfl ?_
    refine Qp Em (Qp Bm (Qg [] Qw Dh (Qg [] Qw (Cd [_]) (Qg [] Qw (El [Iq _,Iq _,Iq _,Iq _,_]) ?_))))
    refine AOL.Aav (y:=.bool _) _ [(103,_),(104,_),(105,_)] rfl (sB.all ⟨tO.self _ _,tO.self _ _,tO.self _ _,trivial⟩) (fun hG=>Ct (by kernel_rfl) rfl rfl (c16 (Dw l) (-1) Kn (Rz l) b hb)) rfl ?_
    refine Qg [(106,_)] Qw Ge (Qp Em (Ag (A2 (fun hc6=>?_) fun hc6=>?_)))
    ·
     exact absurd hc6 (by rw [hag2];decide)
    ·
     refine Bv (Ah (Qp Dh (Qp Dh ?_)))
     refine Qp (Qc rfl (Kb 11 a b)) ?_
     refine Qe (Aj (l:=[.int .i64 0,.sl 8 [],.int .i64 0,.int .i64 0,.int .i64 0,.int .i64 0,.int .i64 0,.str []]) (by kernel_rfl)) ?_
     rintro _ _ ⟨b16,rfl,rfl⟩
     refine Cq 0 [Iq _,_,Iq _,Iq _,Iq _,Iq _,Iq _,.str _] (_::_) ?_
     refine AOL.ghost (GS.Aat (t:=16) 0 rfl rfl) ?_
     refine Ag (AW.seq (Ah (Qp Dh ?_)))
     refine Qp (Qc rfl (c21 (two 11 a b) (V0 hab))) ?_
     refine Qp Ci (Ag (A2 (fun hc7=>?_) fun hc7=>?_))
     ·
      refine Ah ?_
      refine Qp (Qc rfl (R1)) ?_
      refine Qp Bc (Ag (Dq ?_))
      refine Qr (.bool _) ?_
      rfl
     ·
      have hag3:=hok.agree3 hc7
      refine Bv (Ah (Qp (Qf [_,_]) (Qp Dg (Qp (Qf [_]) (Qp Dg (Qp Dh (Qp Dh ?_)))))))
      refine Qp (Qc rfl (I4 T hl hst V hvl a (two 11 a b) ha (V0 hab))) ?_
      refine Qp Lv (Qp Ih (Qp Ih (Qp Ap (Qp Ap (Db ?_)))))
      refine Qp (Qc rfl (R1)) ?_
      refine Qp Bm (Qg [] Qw Az (Qg [(128,_)] Qw A6 (Qp Em (Qp Bm (Qg [] Qw Az (Qg [(132,_)] Qw Ci (Qp Em (Qp Bc (Ag ?_)))))))))
      refine AW.ret ?_
      refine Qr (.bool _) ?_
      exact congrArg AV.bool (by rw [hag3.1];simpa using hag3.2)

end Go.Proofs.YtkddpedfbicbeaaGreatDoor

namespace Go.Aw
open Go
section
variable {P:Program} {w:World} {r:Reach} {base:Nat} {t:TypeId} {v:Value}
theorem cG {n:Nat}{e:TypeId}(ht:P.underlying t=some (.array n e))(h:Value.okWide P w r base t v):∃cs,v = .agg cs∧cs.size=P.cellsOf t:=by
 simp only [Value.okWide,ht] at h
 obtain ⟨cs,h1,h2,_⟩:=h
 exact ⟨cs,h1,h2⟩
end
end Go.Aw

namespace Go.Proofs.YtkddpedfbicbeaaGreatDoor
open Go Go.Aw Go.ChangeShapes Go.WideShapes Go.ChangeAt Go.RowKit
set_option maxRecDepth 100000

theorem laid:laidOutB Tryz.prog=true:=by kernel_rfl
theorem own:ownKnob Tryz.prog.godebug=none:=by kernel_rfl
def Ty:List Int:=[1,10,100,1000,10000,100000,1000000,10000000,100000000,1000000000,10000000000,100000000000,1000000000000,10000000000000,100000000000000,1000000000000000,10000000000000000,100000000000000000,1000000000000000000,10000000000000000000]
theorem pow_of {W : World} (h : laidMet Tryz.prog Rows.conditionKnowsRow.laid W) : Lib.TabIs Tryz.prog W "internal/strconv.uint64pow10" .u64 Ty := by
 obtain ⟨ps,⟨_,_,_,_,_,_,_,_,_,_,⟨_,_,_,_,_,_,_,_,_,_,⟨g',t',cs,fuel,p,q,hg',ht',hvar,hd,_,_⟩,_⟩,_⟩,_⟩:=h
 obtain rfl := Option.some.inj ((show Tryz.prog.globalNamed "internal/strconv.uint64pow10" = some 0 by kernel_rfl).symm.trans hg')
 obtain rfl:=Option.some.inj ((show (Tryz.prog.globals[0]?).map (·.type)=some 266 by kernel_rfl).symm.trans ht')
 have:=Lib.cells_of_tab (k:=.u64) (zs:=Ty) (n:=20) (e:=254) (by kernel_rfl) (by kernel_rfl) (by kernel_rfl) (by kernel_rfl) hd
 unfold Lib.TabIs
 rw [hvar,←this]
theorem yL {W : World} (h : Lib.TabIs Tryz.prog W "internal/strconv.uint64pow10" .u64 Ty) : ∃ T fr, W.heap[0]? = some (.cells (Ty.map fun z => Value.int .u64 z).toArray T fr) := by
 have e : Tryz.prog.globalNamed "internal/strconv.uint64pow10" = some 0 := by kernel_rfl
 unfold Lib.TabIs World.var? at h
 rw [e] at h
 have hk:∀(X:Array Value) (o:Option Obj),(match o with | some (Obj.cells cs _ _)=>some cs | _=>none)=some X→∃T fr,o=some (Obj.cells X T fr):=by
  intro X o h
  match o,h with
  | some (Obj.cells cs T fr),h=>exact ⟨T,fr,by rw [Option.some.inj h]⟩
 exact hk _ _ h
theorem globOK {W:World}(h:laidMet Tryz.prog Rows.conditionKnowsRow.laid W)(hS:W.ShapedOpen Tryz.prog):GlobOK g0 W:=by
  have ht:=pow_of h
  refine ⟨fun p hp=>?_,fun p hp=>?_⟩
  · obtain rfl:=List.mem_singleton.1 hp
    refine ⟨Rg,rfl,?_⟩
    have hcell : ∀ j, W.cell? ⟨0, j, none⟩ = (Ty.map fun z => Value.int .u64 z).toArray[j]? := fun j => World.var?_cell (show Tryz.prog.globalNamed "internal/strconv.uint64pow10" = some 0 by kernel_rfl) ht j
    have hs:Rg=Ty.map fun z=>AV.int .u64 z:=rfl
    rw [hs]
    refine .ptr 0 0 _ (fun j=>Value.int .u64 (Ty.getD j 0)) (fun j x hj=>?_) (fun j x hj=>?_)
    · rw [List.getElem?_map] at hj
      cases hq:Ty[j]? with
      | none=>rw [hq] at hj;cases hj
      | some y=>
        refine ⟨trivial,?_⟩
        rw [Nat.zero_add,hcell j]
        simp [hq,List.getD_eq_getElem?_getD]
    · rw [List.getElem?_map] at hj
      cases hq:Ty[j]? with
      | none=>rw [hq] at hj;cases hj
      | some y=>
        rw [hq] at hj
        simp only [Option.map_some,Option.some.injEq] at hj
        subst hj
        have e:Ty.getD j 0=y:=by rw [List.getD_eq_getElem?_getD,hq];rfl
        rw [e]
        exact .int _ _
  · obtain rfl:=List.mem_singleton.1 hp
    exact ⟨rfl,yL ht⟩
def kZ (k:IntKind)(l:List Int):Obj→Obj
 | .cells _ t frozen=>.cells (l.map fun z=>Value.int k z).toArray t frozen
 | o=>o
def ofTab (d:DataW Unit):List Int:=match d with
 | .agg l=>l.map fun | .lit (.int _ n)=>n | _=>0
 | _=>[]
noncomputable def laidWorld (os:Os):World:=
 { World.holding Tryz.prog os ⟨#[],#[],[]⟩ with heap:=(((World.holding Tryz.prog os ⟨#[],#[],[]⟩).heap.modify 0 (kZ .u64 Ty)).modify 1 (kZ .u8 (ofTab Rows.laid_math_bits_deBruijn32tab))).modify 2 (kZ .u8 (ofTab Rows.laid_math_bits_deBruijn64tab)) }
end Go.Proofs.YtkddpedfbicbeaaGreatDoor
