/-
  Walks of the parser: expressions. No condition.
-/
import Derived.Test.YtabkeeedkhgodaaGreatDoorV5
import Derived.KernelRfl
namespace Go.Proofs.YtabkeeedkhgodaaGreatDoor
open Go Go.Aw
set_option linter.unusedVariables false
set_option linter.unusedSimpArgs false

set_option maxRecDepth 20000 in
set_option maxHeartbeats 400000 in
theorem p_sum (st : PS) (bp : Nat) (D : Int) (hD : 0 ≤ D) (E : PS → Syn × PS) (hFE : Fine E) (hE : ∀ (st : PS) (bp : Nat), okD (D + 1) st → PCallS Tryz.prog 40 bp 70 (cP st) (cP (E st).2) [.val (.pointer (some ⟨bp, 0, none⟩))] (.agg (cSyn (E st).1))) (hO : okD D st) : PCallS Tryz.prog 165 bp 70 (cP st) (cP ((sumP E st).2)) [.val (.pointer (some ⟨bp, 0, none⟩))] (.agg (cSyn (sumP E st).1)) := by
 intro H
 refine ACall.body (n := 8) tok Tryz.func165 rfl rfl rfl ?_
 refine AW.seq (AW.region ?_)
 refine AOL.e (E_alloc (l := [.int .i64 0, .str [], .str [], .int .i64 0, .sl 6 [], .int .i64 0]) (by kernel_rfl)) rfl ?_
 rintro _ _ ⟨b2, rfl, rfl⟩
 refine AOL.nil (thenN ?_)
 refine AW.seq (AW.region ?_)
 refine AOL.p (P_move (v := .val _) rfl) rfl ?_
 refine AOL.p (P_move (v := .val _) rfl) rfl ?_
 refine AOL.p (P_makeFunc (l := [.val _]) (l' := []) rfl rfl) rfl ?_
 refine AOL.p (P_slice_glob (es := sumL.map cSg) tok (⟨fun cs => cs = sumsCells, by simp [globals], fun _ h => h⟩) rfl rfl rfl rfl rfl rfl rfl rfl rfl) rfl ?_
 refine AOL.e (E_callf (by kernel_rfl) rfl rfl ((p_chain st bp D hD 172 (by kernel_rfl) [.val (.pointer (some ⟨bp, 0, none⟩))] [] (unitP E) (fine_unit hFE) (fun s ho => p_unit s bp D hD E hFE hE ho) hO sumL (by decide) (by decide)).at (k := 1) (H2 := _ :: _ :: _) rfl rfl)) rfl ?_
 rintro _ _ ⟨rfl, rfl⟩
 refine AOL.e (E_store (k := 0) (v := .agg _) (cs' := [.int .i64 _, .str _, .str _, .int .i64 _, _, .int .i64 _]) (H2 := _ :: _ :: _) tok rfl rfl rfl rfl rfl rfl rfl rfl rfl) rfl ?_
 rintro _ _ ⟨rfl, rfl⟩
 refine AOL.nil (thenN ?_)
 refine AW.ret ?_
 refine ⟨.inr rfl, [.agg [.int .i64 _, .str _, .str _, .int .i64 _, _, .int .i64 _]], .cons (.box _ _ _ 0 _ _ _ _ rfl rfl rfl rfl rfl rfl) <| .nil, _, .cons _ (.refl _), ?_⟩
 refine ⟨rfl, rfl⟩
set_option maxRecDepth 20000 in
set_option maxHeartbeats 1600000 in
theorem p_compare (st : PS) (bp : Nat) (D : Int) (hD : 0 ≤ D) (E : PS → Syn × PS) (hFE : Fine E) (hE : ∀ (st : PS) (bp : Nat), okD (D + 1) st → PCallS Tryz.prog 40 bp 70 (cP st) (cP (E st).2) [.val (.pointer (some ⟨bp, 0, none⟩))] (.agg (cSyn (E st).1))) (hO : okD D st) : PCallS Tryz.prog 142 bp 70 (cP st) (cP ((cmpP E st).2)) [.val (.pointer (some ⟨bp, 0, none⟩))] (.agg (cSyn (cmpP E st).1)) := by
 intro H
 have hO2 := (fine_sum hFE).okD hD hO
 have hS := hO2.1
 refine ACall.body (n := 65) tok Tryz.func142 rfl rfl rfl ?_
 refine AW.seq (AW.region ?_)
 refine AOL.e (E_alloc (l := [.int .i64 0, .str [], .str [], .int .i64 0, .sl 6 [], .int .i64 0]) (by kernel_rfl)) rfl ?_
 rintro _ _ ⟨b2, rfl, rfl⟩
 refine AOL.nil (thenN ?_)
 refine AW.seq (AW.region ?_)
 refine AOL.p (P_move (v := .val _) rfl) rfl ?_
 refine AOL.e (E_callf (by kernel_rfl) rfl rfl ((p_sum st bp D hD E hFE hE hO).at (k := 1) (H2 := _ :: _ :: _) rfl rfl)) rfl ?_
 rintro _ _ ⟨rfl, rfl⟩
 refine AOL.e (E_alloc (l := [.int .i64 0, .str [], .str [], .int .i64 0, .sl 6 [], .int .i64 0]) (by kernel_rfl)) rfl ?_
 rintro _ _ ⟨b3, rfl, rfl⟩
 refine AOL.e (E_store (k := 0) (v := .agg _) (cs' := [.int .i64 _, .str _, .str _, .int .i64 _, _, .int .i64 _]) (H2 := _ :: _ :: _ :: _) tok rfl rfl rfl rfl rfl rfl rfl rfl rfl) rfl ?_
 rintro _ _ ⟨rfl, rfl⟩
 refine AOL.ghost (GS.freeze (t := 3) 0 rfl rfl) ?_
 refine AOL.nil (thenN ?_)
 refine AW.seq ?_
 refine AW.block ?_
 refine AW.seq (AW.region ?_)
 refine AOL.p (P_move (v := .val _) rfl) rfl ?_
 refine AOL.e (E_callf (by kernel_rfl) rfl rfl ((p_accept _ _ _ (by simpa using hS) (by first | assumption | decide)).at (k := 1) (H2 := _ :: _ :: _) rfl rfl)) rfl ?_
 rintro _ _ ⟨rfl, rfl⟩
 refine AOL.p (P_assign (v := .bool _) rfl) rfl ?_
 refine AOL.nil (thenN ?_)
 refine AW.cond (b := _) rfl (fun hc1 => ?_) (fun hc1 => ?_)
 ·
  try simp only [Bool.not_eq_true', Bool.not_eq_false'] at hc1
  refine AW.ghost (GS.cellsTo (H2 := _ :: _ :: _) 1 rfl (congrArg cP (acc_yes hc1)) rfl) ?_
  refine AW.seq ?_
  refine AW.draw mixed (fun _ => True) trivial (by kernel_rfl) ?_
  refine Canon.pure _ _ 0 _ _ rfl (by kernel_rfl) (by kernel_rfl) rfl (.run rfl (P_load_ptr_agg (l := [.int .i64 _, .str _, .str _, .int .i64 _, _, .int .i64 _]) tok rfl rfl rfl rfl rfl)) ?_
  refine Canon.pure _ _ 1 _ _ rfl (by kernel_rfl) (by kernel_rfl) rfl (.run rfl (P_move (v := .val _) rfl)) ?_
  refine Canon.pure _ _ 3 _ _ rfl (by kernel_rfl) (by kernel_rfl) rfl (.run rfl (P_fieldAddr_ptr (cs' := [.int .i64 _]) tok rfl rfl rfl rfl rfl rfl)) ?_
  refine Canon.pure _ _ 4 _ _ rfl (by kernel_rfl) (by kernel_rfl) rfl (.run rfl (P_load_ptr (c := .int .i64 _) tok rfl rfl rfl)) ?_
  refine Canon.eff _ _ 2 _ _ rfl (by kernel_rfl) rfl rfl (E_callf (by kernel_rfl) rfl rfl ((p_sum (adv (sumP E st).2) bp D hD E hFE hE (by simpa using hO2)).at (k := 1) (H2 := _ :: _ :: _) rfl rfl)) (fun _ _ _ => trivial) ?_
  rintro _ _ ⟨rfl, rfl⟩
  refine Canon.pure _ _ 5 _ _ rfl (by kernel_rfl) (by kernel_rfl) rfl (.run rfl (P_callf (by kernel_rfl) rfl rfl (pp_binary _ _ _ _))) ?_
  refine Canon.eff _ _ 6 _ _ rfl (by kernel_rfl) rfl rfl (E_store (k := 0) (v := .agg _) (cs' := [.int .i64 _, .str _, .str _, .int .i64 _, _, .int .i64 _]) (H2 := _ :: _ :: _) tok rfl rfl rfl rfl rfl rfl rfl rfl rfl) (fun _ _ _ => trivial) ?_
  rintro _ _ ⟨rfl, rfl⟩
  refine Canon.done _ _ (by kernel_rfl) ?_
  refine thenN ?_
  refine AW.ret ?_
  refine blkR ?_
  refine thenR ?_
  refine ⟨.inr rfl, [.agg [.int .i64 _, .str _, .str _, .int .i64 _, _, .int .i64 _]], .cons (.box _ _ _ 0 _ _ _ _ rfl rfl rfl rfl rfl rfl) <| .nil, _, .cons _ (.refl _), ?_⟩
  refine ⟨?_, congrArg (fun c => HO.box bp 70 c :: H) ?_⟩
  ·
   try simp only [resOf, cmpP, cSyn, List.map_cons, List.map_nil, encS_eq, hc1, ↓reduceIte, Bool.false_eq_true, Bool.not_true, Bool.not_false]
   try rfl
  ·
   try simp only [cP, cmpP, hc1, ↓reduceIte, Bool.false_eq_true, Bool.not_true, Bool.not_false]
   try rfl
 ·
  try simp only [Bool.not_eq_true', Bool.not_eq_false'] at hc1
  refine AW.ghost (GS.cellsTo (H2 := _ :: _ :: _) 1 rfl (congrArg cP (acc_no hc1)) rfl) ?_
  refine AW.seq (AW.region ?_)
  refine AOL.p (P_move (v := .val _) rfl) rfl ?_
  refine AOL.e (E_callf (by kernel_rfl) rfl rfl ((p_accept _ _ _ (by simpa using hS) (by first | assumption | decide)).at (k := 1) (H2 := _ :: _ :: _) rfl rfl)) rfl ?_
  rintro _ _ ⟨rfl, rfl⟩
  refine AOL.p (P_assign (v := .bool _) rfl) rfl ?_
  refine AOL.nil (thenN ?_)
  refine AW.cond (b := _) rfl (fun hc2 => ?_) (fun hc2 => ?_)
  ·
   try simp only [Bool.not_eq_true', Bool.not_eq_false'] at hc2
   refine AW.ghost (GS.cellsTo (H2 := _ :: _ :: _) 1 rfl (congrArg cP (acc_yes hc2)) rfl) ?_
   refine AW.seq ?_
   refine AW.draw mixed (fun _ => True) trivial (by kernel_rfl) ?_
   refine Canon.pure _ _ 0 _ _ rfl (by kernel_rfl) (by kernel_rfl) rfl (.run rfl (P_load_ptr_agg (l := [.int .i64 _, .str _, .str _, .int .i64 _, _, .int .i64 _]) tok rfl rfl rfl rfl rfl)) ?_
   refine Canon.pure _ _ 1 _ _ rfl (by kernel_rfl) (by kernel_rfl) rfl (.run rfl (P_move (v := .val _) rfl)) ?_
   refine Canon.pure _ _ 3 _ _ rfl (by kernel_rfl) (by kernel_rfl) rfl (.run rfl (P_fieldAddr_ptr (cs' := [.int .i64 _]) tok rfl rfl rfl rfl rfl rfl)) ?_
   refine Canon.pure _ _ 4 _ _ rfl (by kernel_rfl) (by kernel_rfl) rfl (.run rfl (P_load_ptr (c := .int .i64 _) tok rfl rfl rfl)) ?_
   refine Canon.eff _ _ 2 _ _ rfl (by kernel_rfl) rfl rfl (E_callf (by kernel_rfl) rfl rfl ((p_sum (adv (sumP E st).2) bp D hD E hFE hE (by simpa using hO2)).at (k := 1) (H2 := _ :: _ :: _) rfl rfl)) (fun _ _ _ => trivial) ?_
   rintro _ _ ⟨rfl, rfl⟩
   refine Canon.pure _ _ 5 _ _ rfl (by kernel_rfl) (by kernel_rfl) rfl (.run rfl (P_callf (by kernel_rfl) rfl rfl (pp_binary _ _ _ _))) ?_
   refine Canon.eff _ _ 6 _ _ rfl (by kernel_rfl) rfl rfl (E_store (k := 0) (v := .agg _) (cs' := [.int .i64 _, .str _, .str _, .int .i64 _, _, .int .i64 _]) (H2 := _ :: _ :: _) tok rfl rfl rfl rfl rfl rfl rfl rfl rfl) (fun _ _ _ => trivial) ?_
   rintro _ _ ⟨rfl, rfl⟩
   refine Canon.done _ _ (by kernel_rfl) ?_
   refine thenN ?_
   refine AW.ret ?_
   refine blkR ?_
   refine thenR ?_
   refine ⟨.inr rfl, [.agg [.int .i64 _, .str _, .str _, .int .i64 _, _, .int .i64 _]], .cons (.box _ _ _ 0 _ _ _ _ rfl rfl rfl rfl rfl rfl) <| .nil, _, .cons _ (.refl _), ?_⟩
   refine ⟨?_, congrArg (fun c => HO.box bp 70 c :: H) ?_⟩
   ·
    try simp only [resOf, cmpP, cSyn, List.map_cons, List.map_nil, encS_eq, hc1, hc2, ↓reduceIte, Bool.false_eq_true, Bool.not_true, Bool.not_false]
    try rfl
   ·
    try simp only [cP, cmpP, hc1, hc2, ↓reduceIte, Bool.false_eq_true, Bool.not_true, Bool.not_false]
    try rfl
  ·
   try simp only [Bool.not_eq_true', Bool.not_eq_false'] at hc2
   refine AW.ghost (GS.cellsTo (H2 := _ :: _ :: _) 1 rfl (congrArg cP (acc_no hc2)) rfl) ?_
   refine AW.seq (AW.region ?_)
   refine AOL.p (P_move (v := .val _) rfl) rfl ?_
   refine AOL.e (E_callf (by kernel_rfl) rfl rfl ((p_accept _ _ _ (by simpa using hS) (by first | assumption | decide)).at (k := 1) (H2 := _ :: _ :: _) rfl rfl)) rfl ?_
   rintro _ _ ⟨rfl, rfl⟩
   refine AOL.p (P_assign (v := .bool _) rfl) rfl ?_
   refine AOL.nil (thenN ?_)
   refine AW.cond (b := _) rfl (fun hc3 => ?_) (fun hc3 => ?_)
   ·
    try simp only [Bool.not_eq_true', Bool.not_eq_false'] at hc3
    refine AW.ghost (GS.cellsTo (H2 := _ :: _ :: _) 1 rfl (congrArg cP (acc_yes hc3)) rfl) ?_
    refine AW.seq ?_
    refine AW.draw mixed (fun _ => True) trivial (by kernel_rfl) ?_
    refine Canon.pure _ _ 0 _ _ rfl (by kernel_rfl) (by kernel_rfl) rfl (.run rfl (P_move (v := .val _) rfl)) ?_
    refine Canon.pure _ _ 2 _ _ rfl (by kernel_rfl) (by kernel_rfl) rfl (.run rfl (P_load_ptr_agg (l := [.int .i64 _, .str _, .str _, .int .i64 _, _, .int .i64 _]) tok rfl rfl rfl rfl rfl)) ?_
    refine Canon.pure _ _ 3 _ _ rfl (by kernel_rfl) (by kernel_rfl) rfl (.run rfl (P_fieldAddr_ptr (cs' := [.int .i64 _]) tok rfl rfl rfl rfl rfl rfl)) ?_
    refine Canon.pure _ _ 4 _ _ rfl (by kernel_rfl) (by kernel_rfl) rfl (.run rfl (P_load_ptr (c := .int .i64 _) tok rfl rfl rfl)) ?_
    refine Canon.eff _ _ 1 _ _ rfl (by kernel_rfl) rfl rfl (E_callf (by kernel_rfl) rfl rfl ((p_sum (adv (sumP E st).2) bp D hD E hFE hE (by simpa using hO2)).at (k := 1) (H2 := _ :: _ :: _) rfl rfl)) (fun _ _ _ => trivial) ?_
    rintro _ _ ⟨rfl, rfl⟩
    refine Canon.pure _ _ 5 _ _ rfl (by kernel_rfl) (by kernel_rfl) rfl (.run rfl (P_callf (by kernel_rfl) rfl rfl (pp_binary _ _ _ _))) ?_
    refine Canon.eff _ _ 6 _ _ rfl (by kernel_rfl) rfl rfl (E_store (k := 0) (v := .agg _) (cs' := [.int .i64 _, .str _, .str _, .int .i64 _, _, .int .i64 _]) (H2 := _ :: _ :: _) tok rfl rfl rfl rfl rfl rfl rfl rfl rfl) (fun _ _ _ => trivial) ?_
    rintro _ _ ⟨rfl, rfl⟩
    refine Canon.done _ _ (by kernel_rfl) ?_
    refine thenN ?_
    refine AW.ret ?_
    refine blkR ?_
    refine thenR ?_
    refine ⟨.inr rfl, [.agg [.int .i64 _, .str _, .str _, .int .i64 _, _, .int .i64 _]], .cons (.box _ _ _ 0 _ _ _ _ rfl rfl rfl rfl rfl rfl) <| .nil, _, .cons _ (.refl _), ?_⟩
    refine ⟨?_, congrArg (fun c => HO.box bp 70 c :: H) ?_⟩
    ·
     try simp only [resOf, cmpP, cSyn, List.map_cons, List.map_nil, encS_eq, hc1, hc2, hc3, ↓reduceIte, Bool.false_eq_true, Bool.not_true, Bool.not_false]
     try rfl
    ·
     try simp only [cP, cmpP, hc1, hc2, hc3, ↓reduceIte, Bool.false_eq_true, Bool.not_true, Bool.not_false]
     try rfl
   ·
    try simp only [Bool.not_eq_true', Bool.not_eq_false'] at hc3
    refine AW.ghost (GS.cellsTo (H2 := _ :: _ :: _) 1 rfl (congrArg cP (acc_no hc3)) rfl) ?_
    refine AW.seq (AW.region ?_)
    refine AOL.p (P_move (v := .val _) rfl) rfl ?_
    refine AOL.e (E_callf (by kernel_rfl) rfl rfl ((p_accept _ _ _ (by simpa using hS) (by first | assumption | decide)).at (k := 1) (H2 := _ :: _ :: _) rfl rfl)) rfl ?_
    rintro _ _ ⟨rfl, rfl⟩
    refine AOL.p (P_assign (v := .bool _) rfl) rfl ?_
    refine AOL.nil (thenN ?_)
    refine AW.cond (b := _) rfl (fun hc4 => ?_) (fun hc4 => ?_)
    ·
     try simp only [Bool.not_eq_true', Bool.not_eq_false'] at hc4
     refine AW.ghost (GS.cellsTo (H2 := _ :: _ :: _) 1 rfl (congrArg cP (acc_yes hc4)) rfl) ?_
     refine AW.seq ?_
     refine AW.draw mixed (fun _ => True) trivial (by kernel_rfl) ?_
     refine Canon.pure _ _ 0 _ _ rfl (by kernel_rfl) (by kernel_rfl) rfl (.run rfl (P_move (v := .val _) rfl)) ?_
     refine Canon.pure _ _ 2 _ _ rfl (by kernel_rfl) (by kernel_rfl) rfl (.run rfl (P_load_ptr_agg (l := [.int .i64 _, .str _, .str _, .int .i64 _, _, .int .i64 _]) tok rfl rfl rfl rfl rfl)) ?_
     refine Canon.pure _ _ 3 _ _ rfl (by kernel_rfl) (by kernel_rfl) rfl (.run rfl (P_fieldAddr_ptr (cs' := [.int .i64 _]) tok rfl rfl rfl rfl rfl rfl)) ?_
     refine Canon.pure _ _ 4 _ _ rfl (by kernel_rfl) (by kernel_rfl) rfl (.run rfl (P_load_ptr (c := .int .i64 _) tok rfl rfl rfl)) ?_
     refine Canon.eff _ _ 1 _ _ rfl (by kernel_rfl) rfl rfl (E_callf (by kernel_rfl) rfl rfl ((p_sum (adv (sumP E st).2) bp D hD E hFE hE (by simpa using hO2)).at (k := 1) (H2 := _ :: _ :: _) rfl rfl)) (fun _ _ _ => trivial) ?_
     rintro _ _ ⟨rfl, rfl⟩
     refine Canon.pure _ _ 5 _ _ rfl (by kernel_rfl) (by kernel_rfl) rfl (.run rfl (P_callf (by kernel_rfl) rfl rfl (pp_binary _ _ _ _))) ?_
     refine Canon.eff _ _ 6 _ _ rfl (by kernel_rfl) rfl rfl (E_store (k := 0) (v := .agg _) (cs' := [.int .i64 _, .str _, .str _, .int .i64 _, _, .int .i64 _]) (H2 := _ :: _ :: _) tok rfl rfl rfl rfl rfl rfl rfl rfl rfl) (fun _ _ _ => trivial) ?_
     rintro _ _ ⟨rfl, rfl⟩
     refine Canon.done _ _ (by kernel_rfl) ?_
     refine thenN ?_
     refine AW.ret ?_
     refine blkR ?_
     refine thenR ?_
     refine ⟨.inr rfl, [.agg [.int .i64 _, .str _, .str _, .int .i64 _, _, .int .i64 _]], .cons (.box _ _ _ 0 _ _ _ _ rfl rfl rfl rfl rfl rfl) <| .nil, _, .cons _ (.refl _), ?_⟩
     refine ⟨?_, congrArg (fun c => HO.box bp 70 c :: H) ?_⟩
     ·
      try simp only [resOf, cmpP, cSyn, List.map_cons, List.map_nil, encS_eq, hc1, hc2, hc3, hc4, ↓reduceIte, Bool.false_eq_true, Bool.not_true, Bool.not_false]
      try rfl
     ·
      try simp only [cP, cmpP, hc1, hc2, hc3, hc4, ↓reduceIte, Bool.false_eq_true, Bool.not_true, Bool.not_false]
      try rfl
    ·
     try simp only [Bool.not_eq_true', Bool.not_eq_false'] at hc4
     refine AW.ghost (GS.cellsTo (H2 := _ :: _ :: _) 1 rfl (congrArg cP (acc_no hc4)) rfl) ?_
     refine AW.seq (AW.region ?_)
     refine AOL.p (P_move (v := .val _) rfl) rfl ?_
     refine AOL.e (E_callf (by kernel_rfl) rfl rfl ((p_accept _ _ _ (by simpa using hS) (by first | assumption | decide)).at (k := 1) (H2 := _ :: _ :: _) rfl rfl)) rfl ?_
     rintro _ _ ⟨rfl, rfl⟩
     refine AOL.p (P_assign (v := .bool _) rfl) rfl ?_
     refine AOL.nil (thenN ?_)
     refine AW.cond (b := _) rfl (fun hc5 => ?_) (fun hc5 => ?_)
     ·
      try simp only [Bool.not_eq_true', Bool.not_eq_false'] at hc5
      refine AW.ghost (GS.cellsTo (H2 := _ :: _ :: _) 1 rfl (congrArg cP (acc_yes hc5)) rfl) ?_
      refine AW.seq ?_
      refine AW.draw mixed (fun _ => True) trivial (by kernel_rfl) ?_
      refine Canon.pure _ _ 0 _ _ rfl (by kernel_rfl) (by kernel_rfl) rfl (.run rfl (P_load_ptr_agg (l := [.int .i64 _, .str _, .str _, .int .i64 _, _, .int .i64 _]) tok rfl rfl rfl rfl rfl)) ?_
      refine Canon.pure _ _ 1 _ _ rfl (by kernel_rfl) (by kernel_rfl) rfl (.run rfl (P_move (v := .val _) rfl)) ?_
      refine Canon.pure _ _ 3 _ _ rfl (by kernel_rfl) (by kernel_rfl) rfl (.run rfl (P_fieldAddr_ptr (cs' := [.int .i64 _]) tok rfl rfl rfl rfl rfl rfl)) ?_
      refine Canon.pure _ _ 4 _ _ rfl (by kernel_rfl) (by kernel_rfl) rfl (.run rfl (P_load_ptr (c := .int .i64 _) tok rfl rfl rfl)) ?_
      refine Canon.eff _ _ 2 _ _ rfl (by kernel_rfl) rfl rfl (E_callf (by kernel_rfl) rfl rfl ((p_sum (adv (sumP E st).2) bp D hD E hFE hE (by simpa using hO2)).at (k := 1) (H2 := _ :: _ :: _) rfl rfl)) (fun _ _ _ => trivial) ?_
      rintro _ _ ⟨rfl, rfl⟩
      refine Canon.pure _ _ 5 _ _ rfl (by kernel_rfl) (by kernel_rfl) rfl (.run rfl (P_callf (by kernel_rfl) rfl rfl (pp_binary _ _ _ _))) ?_
      refine Canon.eff _ _ 6 _ _ rfl (by kernel_rfl) rfl rfl (E_store (k := 0) (v := .agg _) (cs' := [.int .i64 _, .str _, .str _, .int .i64 _, _, .int .i64 _]) (H2 := _ :: _ :: _) tok rfl rfl rfl rfl rfl rfl rfl rfl rfl) (fun _ _ _ => trivial) ?_
      rintro _ _ ⟨rfl, rfl⟩
      refine Canon.done _ _ (by kernel_rfl) ?_
      refine thenN ?_
      refine AW.ret ?_
      refine blkR ?_
      refine thenR ?_
      refine ⟨.inr rfl, [.agg [.int .i64 _, .str _, .str _, .int .i64 _, _, .int .i64 _]], .cons (.box _ _ _ 0 _ _ _ _ rfl rfl rfl rfl rfl rfl) <| .nil, _, .cons _ (.refl _), ?_⟩
      refine ⟨?_, congrArg (fun c => HO.box bp 70 c :: H) ?_⟩
      ·
       try simp only [resOf, cmpP, cSyn, List.map_cons, List.map_nil, encS_eq, hc1, hc2, hc3, hc4, hc5, ↓reduceIte, Bool.false_eq_true, Bool.not_true, Bool.not_false]
       try rfl
      ·
       try simp only [cP, cmpP, hc1, hc2, hc3, hc4, hc5, ↓reduceIte, Bool.false_eq_true, Bool.not_true, Bool.not_false]
       try rfl
     ·
      try simp only [Bool.not_eq_true', Bool.not_eq_false'] at hc5
      refine AW.ghost (GS.cellsTo (H2 := _ :: _ :: _) 1 rfl (congrArg cP (acc_no hc5)) rfl) ?_
      refine AW.seq (AW.region ?_)
      refine AOL.p (P_move (v := .val _) rfl) rfl ?_
      refine AOL.e (E_callf (by kernel_rfl) rfl rfl ((p_accept _ _ _ (by simpa using hS) (by first | assumption | decide)).at (k := 1) (H2 := _ :: _ :: _) rfl rfl)) rfl ?_
      rintro _ _ ⟨rfl, rfl⟩
      refine AOL.p (P_assign (v := .bool _) rfl) rfl ?_
      refine AOL.nil (thenN ?_)
      refine AW.cond (b := _) rfl (fun hc6 => ?_) (fun hc6 => ?_)
      ·
       try simp only [Bool.not_eq_true', Bool.not_eq_false'] at hc6
       refine AW.ghost (GS.cellsTo (H2 := _ :: _ :: _) 1 rfl (congrArg cP (acc_yes hc6)) rfl) ?_
       refine AW.seq ?_
       refine AW.draw mixed (fun _ => True) trivial (by kernel_rfl) ?_
       refine Canon.pure _ _ 0 _ _ rfl (by kernel_rfl) (by kernel_rfl) rfl (.run rfl (P_load_ptr_agg (l := [.int .i64 _, .str _, .str _, .int .i64 _, _, .int .i64 _]) tok rfl rfl rfl rfl rfl)) ?_
       refine Canon.pure _ _ 1 _ _ rfl (by kernel_rfl) (by kernel_rfl) rfl (.run rfl (P_move (v := .val _) rfl)) ?_
       refine Canon.pure _ _ 3 _ _ rfl (by kernel_rfl) (by kernel_rfl) rfl (.run rfl (P_fieldAddr_ptr (cs' := [.int .i64 _]) tok rfl rfl rfl rfl rfl rfl)) ?_
       refine Canon.pure _ _ 4 _ _ rfl (by kernel_rfl) (by kernel_rfl) rfl (.run rfl (P_load_ptr (c := .int .i64 _) tok rfl rfl rfl)) ?_
       refine Canon.pure _ _ 7 _ _ rfl (by kernel_rfl) (by kernel_rfl) rfl (.run rfl (P_fieldAddr_ptr (cs' := [.int .i64 _]) tok rfl rfl rfl rfl rfl rfl)) ?_
       refine Canon.pure _ _ 8 _ _ rfl (by kernel_rfl) (by kernel_rfl) rfl (.run rfl (P_load_ptr (c := .int .i64 _) tok rfl rfl rfl)) ?_
       refine Canon.eff _ _ 2 _ _ rfl (by kernel_rfl) rfl rfl (E_callf (by kernel_rfl) rfl rfl ((p_sum (adv (sumP E st).2) bp D hD E hFE hE (by simpa using hO2)).at (k := 1) (H2 := _ :: _ :: _) rfl rfl)) (fun _ _ _ => trivial) ?_
       rintro _ _ ⟨rfl, rfl⟩
       refine Canon.pure _ _ 5 _ _ rfl (by kernel_rfl) (by kernel_rfl) rfl (.run rfl (P_callf (by kernel_rfl) rfl rfl (pp_binary _ _ _ _))) ?_
       refine Canon.pure _ _ 6 _ _ rfl (by kernel_rfl) (by kernel_rfl) rfl (.run rfl (P_buildSlice (es := [[.int .i64 _, .str _, .str _, .int .i64 _, _, .int .i64 _]]) tok rfl rfl rfl rfl rfl rfl rfl rfl rfl)) ?_
       refine Canon.pure _ _ 9 _ _ rfl (by kernel_rfl) (by kernel_rfl) rfl (.run rfl (P_build (l := [.int .i64 _, .str _, .str _, .int .i64 _, _, .int .i64 _]) tok rfl rfl rfl)) ?_
       refine Canon.eff _ _ 10 _ _ rfl (by kernel_rfl) rfl rfl (E_store (k := 0) (v := .agg _) (cs' := [.int .i64 _, .str _, .str _, .int .i64 _, _, .int .i64 _]) (H2 := _ :: _ :: _) tok rfl rfl rfl rfl rfl rfl rfl rfl rfl) (fun _ _ _ => trivial) ?_
       rintro _ _ ⟨rfl, rfl⟩
       refine Canon.done _ _ (by kernel_rfl) ?_
       refine thenN ?_
       refine AW.ret ?_
       refine blkR ?_
       refine thenR ?_
       refine ⟨.inr rfl, [.agg [.int .i64 _, .str _, .str _, .int .i64 _, _, .int .i64 _]], .cons (.box _ _ _ 0 _ _ _ _ rfl rfl rfl rfl rfl rfl) <| .nil, _, .cons _ (.refl _), ?_⟩
       refine ⟨?_, congrArg (fun c => HO.box bp 70 c :: H) ?_⟩
       ·
        try simp only [resOf, cmpP, cSyn, List.map_cons, List.map_nil, encS_eq, hc1, hc2, hc3, hc4, hc5, hc6, ↓reduceIte, Bool.false_eq_true, Bool.not_true, Bool.not_false]
        try rfl
       ·
        try simp only [cP, cmpP, hc1, hc2, hc3, hc4, hc5, hc6, ↓reduceIte, Bool.false_eq_true, Bool.not_true, Bool.not_false]
        try rfl
      ·
       try simp only [Bool.not_eq_true', Bool.not_eq_false'] at hc6
       refine AW.ghost (GS.cellsTo (H2 := _ :: _ :: _) 1 rfl (congrArg cP (acc_no hc6)) rfl) ?_
       refine AW.skip ?_
       refine blkN ?_
       refine thenN ?_
       refine AW.seq (AW.region ?_)
       refine AOL.p (P_load_ptr_agg (l := [.int .i64 _, .str _, .str _, .int .i64 _, _, .int .i64 _]) tok rfl rfl rfl rfl rfl) rfl ?_
       refine AOL.e (E_store (k := 0) (v := .agg _) (cs' := [.int .i64 _, .str _, .str _, .int .i64 _, _, .int .i64 _]) (H2 := _ :: _ :: _) tok rfl rfl rfl rfl rfl rfl rfl rfl rfl) rfl ?_
       rintro _ _ ⟨rfl, rfl⟩
       refine AOL.nil (thenN ?_)
       refine AW.ret ?_
       refine ⟨.inr rfl, [.agg [.int .i64 _, .str _, .str _, .int .i64 _, _, .int .i64 _]], .cons (.box _ _ _ 0 _ _ _ _ rfl rfl rfl rfl rfl rfl) <| .nil, _, .cons _ (.refl _), ?_⟩
       refine ⟨?_, congrArg (fun c => HO.box bp 70 c :: H) ?_⟩
       ·
        try simp only [resOf, cmpP, cSyn, List.map_cons, List.map_nil, encS_eq, hc1, hc2, hc3, hc4, hc5, hc6, ↓reduceIte, Bool.false_eq_true, Bool.not_true, Bool.not_false]
        try rfl
       ·
        try simp only [cP, cmpP, hc1, hc2, hc3, hc4, hc5, hc6, ↓reduceIte, Bool.false_eq_true, Bool.not_true, Bool.not_false]
        try rfl
set_option maxRecDepth 20000 in
set_option maxHeartbeats 400000 in
theorem p_not_1 (st : PS) (bp : Nat) (z : Syn) (bo : Nat) (R : List HO) (D : Int) (hD : 0 ≤ D) (E : PS → Syn × PS) (hFE : Fine E) (hE : ∀ (st : PS) (bp : Nat), okD (D + 1) st → PCallS Tryz.prog 40 bp 70 (cP st) (cP (E st).2) [.val (.pointer (some ⟨bp, 0, none⟩))] (.agg (cSyn (E st).1))) (N : PS → Syn × PS) (hFN : Fine N) (hN : ∀ (st : PS) (bp : Nat), okD (D + 1) st → PCallS Tryz.prog 110 bp 70 (cP st) (cP (N st).2) [.val (.pointer (some ⟨bp, 0, none⟩))] (.agg (cSyn (N st).1))) (hO : okD (D + 1) st) : ACall Tryz.prog 143 (.box bp 70 (cP st) :: .box bo 24 (cSyn z) :: R) [.ptr [.val (.pointer (some ⟨bp, 0, none⟩))], .val (.pointer (some ⟨bo, 0, none⟩))] (fun r H' => r = .tuple [] ∧ H' = .box bp 70 (cP (N st).2) :: .box bo 24 (cSyn { z with kids := [(N st).1] }) :: R) := by
 refine ACall.body (n := 6) tok Tryz.func143 rfl rfl rfl ?_
 refine AW.region ?_
 refine AOL.p (P_load_ptr (c := .val _) tok rfl rfl rfl) rfl ?_
 refine AOL.e (E_callf (by kernel_rfl) rfl rfl ((hN st bp hO).at (k := 0) (H2 := _ :: _ :: _) rfl rfl)) rfl ?_
 rintro _ _ ⟨rfl, rfl⟩
 refine AOL.p (P_buildSlice (es := [[.int .i64 _, .str _, .str _, .int .i64 _, _, .int .i64 _]]) tok rfl rfl rfl rfl rfl rfl rfl rfl rfl) rfl ?_
 refine AOL.p (P_fieldAddr_val tok rfl rfl rfl rfl rfl rfl) rfl ?_
 refine AOL.e (E_store (k := 1) (v := .sl _ _) (cs' := [.int .i64 _, .str _, .str _, .int .i64 _, _, .int .i64 _]) (H2 := _ :: _ :: _) tok rfl rfl rfl rfl rfl rfl rfl rfl rfl) rfl ?_
 rintro _ _ ⟨rfl, rfl⟩
 refine AOL.nil ?_
 refine ⟨.inl rfl, [], .nil, _, .refl _, ?_⟩
 exact ⟨rfl, congrArg (fun l => HO.box bp 70 (cP (N st).2) :: HO.box bo 24 [.int .i64 z.kind, .str z.text, .str z.name, .int .i64 z.num, .sl 6 l, .int .i64 z.pos] :: R) (by rw [List.map_cons, List.map_nil, encS_eq])⟩
set_option maxRecDepth 20000 in
set_option maxHeartbeats 800000 in
theorem p_not (st : PS) (bp : Nat) (D : Int) (hD : 0 ≤ D) (E : PS → Syn × PS) (hFE : Fine E) (hE : ∀ (st : PS) (bp : Nat), okD (D + 1) st → PCallS Tryz.prog 40 bp 70 (cP st) (cP (E st).2) [.val (.pointer (some ⟨bp, 0, none⟩))] (.agg (cSyn (E st).1))) (N : PS → Syn × PS) (hFN : Fine N) (hN : ∀ (st : PS) (bp : Nat), okD (D + 1) st → PCallS Tryz.prog 110 bp 70 (cP st) (cP (N st).2) [.val (.pointer (some ⟨bp, 0, none⟩))] (.agg (cSyn (N st).1))) (hO : okD D st) : PCallS Tryz.prog 110 bp 70 (cP st) (cP ((notP E N st).2)) [.val (.pointer (some ⟨bp, 0, none⟩))] (.agg (cSyn (notP E N st).1)) := by
 intro H
 have hS := hO.1
 refine ACall.body (n := 16) tok Tryz.func110 rfl rfl rfl ?_
 refine AW.seq (AW.region ?_)
 refine AOL.p (P_box (v := .val _) (cs := [_]) rfl rfl rfl) rfl ?_
 refine AOL.e (E_alloc (l := [.int .i64 0, .str [], .str [], .int .i64 0, .sl 6 [], .int .i64 0]) (by kernel_rfl)) rfl ?_
 rintro _ _ ⟨b2, rfl, rfl⟩
 refine AOL.nil (thenN ?_)
 refine AW.seq ?_
 refine AW.seq (AW.region ?_)
 refine AOL.p (P_load_ptr (c := .val _) tok rfl rfl rfl) rfl ?_
 refine AOL.pk (P_callf_k (k := 1) (by kernel_rfl) rfl rfl (p_is _ _ _ (by simpa using hS) (by first | assumption | decide))) rfl rfl ?_
 refine AOL.p (P_not rfl) rfl ?_
 refine AOL.nil (thenN ?_)
 refine AW.cond (b := _) rfl (fun hc1 => ?_) (fun hc1 => ?_)
 ·
  try simp only [Bool.not_eq_true', Bool.not_eq_false'] at hc1
  refine AW.seq (AW.region ?_)
  refine AOL.p (P_load_ptr (c := .val _) tok rfl rfl rfl) rfl ?_
  refine AOL.e (E_callf (by kernel_rfl) rfl rfl ((p_compare st bp D hD E hFE hE hO).at (k := 1) (H2 := _ :: _ :: _) rfl rfl)) rfl ?_
  rintro _ _ ⟨rfl, rfl⟩
  refine AOL.e (E_store (k := 0) (v := .agg _) (cs' := [.int .i64 _, .str _, .str _, .int .i64 _, _, .int .i64 _]) (H2 := _ :: _ :: _) tok rfl rfl rfl rfl rfl rfl rfl rfl rfl) rfl ?_
  rintro _ _ ⟨rfl, rfl⟩
  refine AOL.nil (thenN ?_)
  refine AW.ret ?_
  refine thenR ?_
  refine ⟨.inr rfl, [.agg [.int .i64 _, .str _, .str _, .int .i64 _, _, .int .i64 _]], .cons (.box _ _ _ 0 _ _ _ _ rfl rfl rfl rfl rfl rfl) <| .nil, _, .cons _ (.refl _), ?_⟩
  refine ⟨?_, congrArg (fun c => HO.box bp 70 c :: H) ?_⟩
  ·
   try simp only [resOf, notP, cSyn, List.map_cons, List.map_nil, encS_eq, hc1, ↓reduceIte, Bool.false_eq_true, Bool.not_true, Bool.not_false]
   try rfl
  ·
   try simp only [cP, notP, hc1, ↓reduceIte, Bool.false_eq_true, Bool.not_true, Bool.not_false]
   try rfl
 ·
  try simp only [Bool.not_eq_true', Bool.not_eq_false'] at hc1
  refine AW.skip ?_
  refine thenN ?_
  refine AW.seq (AW.region ?_)
  refine AOL.p (P_load_ptr (c := .val _) tok rfl rfl rfl) rfl ?_
  refine AOL.pk (P_callf_k (k := 1) (by kernel_rfl) rfl rfl (p_offset _ _)) rfl rfl ?_
  refine AOL.p (P_build (l := [.int .i64 _, .str _, .str _, .int .i64 _, _, .int .i64 _]) tok rfl rfl rfl) rfl ?_
  refine AOL.e (E_alloc (l := [.int .i64 0, .str [], .str [], .int .i64 0, .sl 6 [], .int .i64 0]) (by kernel_rfl)) rfl ?_
  rintro _ _ ⟨b3, rfl, rfl⟩
  refine AOL.e (E_store (k := 0) (v := .agg _) (cs' := [.int .i64 _, .str _, .str _, .int .i64 _, _, .int .i64 _]) (H2 := _ :: _ :: _ :: _) tok rfl rfl rfl rfl rfl rfl rfl rfl rfl) rfl ?_
  rintro _ _ ⟨rfl, rfl⟩
  refine AOL.nil (thenN ?_)
  refine AW.seq (AW.region ?_)
  refine AOL.p (P_load_ptr (c := .val _) tok rfl rfl rfl) rfl ?_
  refine AOL.p (P_makeFunc (l := []) (l' := [.ptr _, .val _]) rfl rfl) rfl ?_
  refine AOL.e (E_callf (by kernel_rfl) rfl rfl (ACall.front2 (R := _ :: _) 0 1 rfl rfl rfl (nest_call (fun z s => ({ z with kids := [(N s).1] }, (N s).2)) ⟨18, [], [], 0, [], offS st⟩ st bp b3 _ 143 (by kernel_rfl) [] [.ptr [.val (.pointer (some ⟨bp, 0, none⟩))], .val (.pointer (some ⟨b3, 0, none⟩))] (is_lt hc1) hS (fun hb => p_not_1 _ bp ⟨18, [], [], 0, [], offS st⟩ b3 _ D hD E hFE hE N hFN hN (okD_deep hD hO hb))))) rfl ?_
  rintro _ _ ⟨rfl, rfl⟩
  refine AOL.nil (thenN ?_)
  refine AW.seq (AW.region ?_)
  refine AOL.pk (P_load_box_agg (k := 1) (l := [.int .i64 _, .str _, .str _, .int .i64 _, _, .int .i64 _]) tok rfl rfl rfl rfl rfl) rfl rfl ?_
  refine AOL.e (E_store (k := 2) (v := .agg _) (cs' := [.int .i64 _, .str _, .str _, .int .i64 _, _, .int .i64 _]) (H2 := _ :: _ :: _ :: _) tok rfl rfl rfl rfl rfl rfl rfl rfl rfl) rfl ?_
  rintro _ _ ⟨rfl, rfl⟩
  refine AOL.nil (thenN ?_)
  refine AW.ret ?_
  refine ⟨.inr rfl, [.agg [.int .i64 _, .str _, .str _, .int .i64 _, _, .int .i64 _]], .cons (.box _ _ _ 2 _ _ _ _ rfl rfl rfl rfl rfl rfl) <| .nil, _, .cons_cons _ (.cons _ (.cons _ (.refl _))), ?_⟩
  refine ⟨?_, congrArg (fun c => HO.box bp 70 c :: H) ?_⟩
  ·
   try simp only [resOf, notP, cSyn, List.map_cons, List.map_nil, encS_eq, hc1, ↓reduceIte, Bool.false_eq_true, Bool.not_true, Bool.not_false]
   try rfl
  ·
   try simp only [cP, notP, hc1, ↓reduceIte, Bool.false_eq_true, Bool.not_true, Bool.not_false]
   try rfl
set_option maxRecDepth 20000 in
set_option maxHeartbeats 400000 in
theorem p_and (st : PS) (bp : Nat) (D : Int) (hD : 0 ≤ D) (E : PS → Syn × PS) (hFE : Fine E) (hE : ∀ (st : PS) (bp : Nat), okD (D + 1) st → PCallS Tryz.prog 40 bp 70 (cP st) (cP (E st).2) [.val (.pointer (some ⟨bp, 0, none⟩))] (.agg (cSyn (E st).1))) (N : PS → Syn × PS) (hFN : Fine N) (hN : ∀ (st : PS) (bp : Nat), okD (D + 1) st → PCallS Tryz.prog 110 bp 70 (cP st) (cP (N st).2) [.val (.pointer (some ⟨bp, 0, none⟩))] (.agg (cSyn (N st).1))) (hO : okD D st) : PCallS Tryz.prog 61 bp 70 (cP st) (cP ((andP E N st).2)) [.val (.pointer (some ⟨bp, 0, none⟩))] (.agg (cSyn (andP E N st).1)) := by
 intro H
 refine ACall.body (n := 8) tok Tryz.func61 rfl rfl rfl ?_
 refine AW.seq (AW.region ?_)
 refine AOL.e (E_alloc (l := [.int .i64 0, .str [], .str [], .int .i64 0, .sl 6 [], .int .i64 0]) (by kernel_rfl)) rfl ?_
 rintro _ _ ⟨b2, rfl, rfl⟩
 refine AOL.nil (thenN ?_)
 refine AW.seq (AW.region ?_)
 refine AOL.p (P_move (v := .val _) rfl) rfl ?_
 refine AOL.p (P_move (v := .val _) rfl) rfl ?_
 refine AOL.p (P_makeFunc (l := [.val _]) (l' := []) rfl rfl) rfl ?_
 refine AOL.p (P_slice_glob (es := andL.map cSg) tok (⟨fun cs => cs = andsCells, by simp [globals], fun _ h => h⟩) rfl rfl rfl rfl rfl rfl rfl rfl rfl) rfl ?_
 refine AOL.e (E_callf (by kernel_rfl) rfl rfl ((p_chain st bp D hD 110 (by kernel_rfl) [.val (.pointer (some ⟨bp, 0, none⟩))] [] (notP E N) (fine_not hFE hFN) (fun s ho => p_not s bp D hD E hFE hE N hFN hN ho) hO andL (by decide) (by decide)).at (k := 1) (H2 := _ :: _ :: _) rfl rfl)) rfl ?_
 rintro _ _ ⟨rfl, rfl⟩
 refine AOL.e (E_store (k := 0) (v := .agg _) (cs' := [.int .i64 _, .str _, .str _, .int .i64 _, _, .int .i64 _]) (H2 := _ :: _ :: _) tok rfl rfl rfl rfl rfl rfl rfl rfl rfl) rfl ?_
 rintro _ _ ⟨rfl, rfl⟩
 refine AOL.nil (thenN ?_)
 refine AW.ret ?_
 refine ⟨.inr rfl, [.agg [.int .i64 _, .str _, .str _, .int .i64 _, _, .int .i64 _]], .cons (.box _ _ _ 0 _ _ _ _ rfl rfl rfl rfl rfl rfl) <| .nil, _, .cons _ (.refl _), ?_⟩
 refine ⟨rfl, rfl⟩
set_option maxRecDepth 20000 in
set_option maxHeartbeats 400000 in
theorem p_expr (st : PS) (bp : Nat) (D : Int) (hD : 0 ≤ D) (E : PS → Syn × PS) (hFE : Fine E) (hE : ∀ (st : PS) (bp : Nat), okD (D + 1) st → PCallS Tryz.prog 40 bp 70 (cP st) (cP (E st).2) [.val (.pointer (some ⟨bp, 0, none⟩))] (.agg (cSyn (E st).1))) (N : PS → Syn × PS) (hFN : Fine N) (hN : ∀ (st : PS) (bp : Nat), okD (D + 1) st → PCallS Tryz.prog 110 bp 70 (cP st) (cP (N st).2) [.val (.pointer (some ⟨bp, 0, none⟩))] (.agg (cSyn (N st).1))) (hO : okD D st) : PCallS Tryz.prog 40 bp 70 (cP st) (cP ((orP E N st).2)) [.val (.pointer (some ⟨bp, 0, none⟩))] (.agg (cSyn (orP E N st).1)) := by
 intro H
 refine ACall.body (n := 8) tok Tryz.func40 rfl rfl rfl ?_
 refine AW.seq (AW.region ?_)
 refine AOL.e (E_alloc (l := [.int .i64 0, .str [], .str [], .int .i64 0, .sl 6 [], .int .i64 0]) (by kernel_rfl)) rfl ?_
 rintro _ _ ⟨b2, rfl, rfl⟩
 refine AOL.nil (thenN ?_)
 refine AW.seq (AW.region ?_)
 refine AOL.p (P_move (v := .val _) rfl) rfl ?_
 refine AOL.p (P_move (v := .val _) rfl) rfl ?_
 refine AOL.p (P_makeFunc (l := [.val _]) (l' := []) rfl rfl) rfl ?_
 refine AOL.p (P_slice_glob (es := orL.map cSg) tok (⟨fun cs => cs = orsCells, by simp [globals], fun _ h => h⟩) rfl rfl rfl rfl rfl rfl rfl rfl rfl) rfl ?_
 refine AOL.e (E_callf (by kernel_rfl) rfl rfl ((p_chain st bp D hD 61 (by kernel_rfl) [.val (.pointer (some ⟨bp, 0, none⟩))] [] (andP E N) (fine_chain (fine_not hFE hFN) andL) (fun s ho => p_and s bp D hD E hFE hE N hFN hN ho) hO orL (by decide) (by decide)).at (k := 1) (H2 := _ :: _ :: _) rfl rfl)) rfl ?_
 rintro _ _ ⟨rfl, rfl⟩
 refine AOL.e (E_store (k := 0) (v := .agg _) (cs' := [.int .i64 _, .str _, .str _, .int .i64 _, _, .int .i64 _]) (H2 := _ :: _ :: _) tok rfl rfl rfl rfl rfl rfl rfl rfl rfl) rfl ?_
 rintro _ _ ⟨rfl, rfl⟩
 refine AOL.nil (thenN ?_)
 refine AW.ret ?_
 refine ⟨.inr rfl, [.agg [.int .i64 _, .str _, .str _, .int .i64 _, _, .int .i64 _]], .cons (.box _ _ _ 0 _ _ _ _ rfl rfl rfl rfl rfl rfl) <| .nil, _, .cons _ (.refl _), ?_⟩
 refine ⟨rfl, rfl⟩
theorem okD_void {st : PS} (h : okD (64 + 1) st) : False := by have := h.2.1; have := h.2.2; omega
theorem neg_all : ∀ (n : Nat), n ≤ 64 → (∀ (st : PS) (bp : Nat), okD (64 - (n : Int)) st → PCallS Tryz.prog 110 bp 70 (cP st) (cP ((negN n).1 st).2) [.val (.pointer (some ⟨bp, 0, none⟩))] (.agg (cSyn ((negN n).1 st).1))) ∧ (∀ (st : PS) (bp : Nat), okD (64 - (n : Int)) st → PCallS Tryz.prog 40 bp 70 (cP st) (cP ((negN n).2 st).2) [.val (.pointer (some ⟨bp, 0, none⟩))] (.agg (cSyn ((negN n).2 st).1)))
  | 0, _ => ⟨fun st bp hO => p_not st bp 64 (by decide) dullP fine_dull (fun _ _ h => (okD_void h).elim) dullP fine_dull (fun _ _ h => (okD_void h).elim) hO, fun st bp hO => p_expr st bp 64 (by decide) dullP fine_dull (fun _ _ h => (okD_void h).elim) dullP fine_dull (fun _ _ h => (okD_void h).elim) hO⟩
  | n + 1, hn => by
    have ih := neg_all n (by omega)
    have e : ∀ st, okD (64 - ((n + 1 : Nat) : Int) + 1) st → okD (64 - (n : Int)) st := fun st h => ⟨h.1, by have := h.2.1; omega, h.2.2⟩
    have hD : 0 ≤ 64 - ((n + 1 : Nat) : Int) := by omega
    exact ⟨fun st bp hO => p_not st bp _ hD (negN n).2 (fine_neg n).2 (fun s b h => ih.2 s b (e s h)) (negN n).1 (fine_neg n).1 (fun s b h => ih.1 s b (e s h)) hO, fun st bp hO => p_expr st bp _ hD (negN n).2 (fine_neg n).2 (fun s b h => ih.2 s b (e s h)) (negN n).1 (fine_neg n).1 (fun s b h => ih.1 s b (e s h)) hO⟩

end Go.Proofs.YtabkeeedkhgodaaGreatDoor
