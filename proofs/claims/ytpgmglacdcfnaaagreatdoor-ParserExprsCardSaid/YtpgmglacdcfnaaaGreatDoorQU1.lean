/-
  Walks of the reference: its first steps. No condition.
-/
import Derived.Test.YtpgmglacdcfnaaaGreatDoorQV10
import Derived.KernelRfl
namespace Go.Proofs.YtpgmglacdcfnaaaGreatDoor
open Go Go.Aw
set_option linter.unusedVariables false
set_option linter.unusedSimpArgs false

theorem isR_lt {w : Str} {st : PS} (h : isR w st = true) : st.pos < st.toks.length := by
  unfold isR at h
  cases he : endP st with
  | true => rw [he] at h; cases h
  | false => exact not_end he
theorem nxtR_lt {k : Int} {st : PS} (h : nxtR k st = true) : st.pos < st.toks.length := by
  unfold nxtR at h
  cases he : endP st with
  | true => rw [he] at h; cases h
  | false => exact not_end he
theorem accR_no {w : Str} {st : PS} (h : isR w st = false) : accR w st = st := by unfold accR; rw [h]; rfl
theorem accR_yes {w : Str} {st : PS} (h : isR w st = true) : accR w st = adv st := by unfold accR; rw [h]; rfl
theorem txtR_le {k : Int} {st : PS} (h : okS st) : (txtR k st).length ≤ 1048576 := by
  unfold txtR
  cases hn : nxtR k st with
  | true => exact okS_text h (nxtR_lt hn)
  | false => exact Nat.zero_le _
theorem goesR_acc (w : Str) (st : PS) : Goes st (accR w st) := by unfold accR; split; exact .adv _; exact .refl _
theorem goesR_exp (w : Str) (st : PS) : Goes st (expR w st) := by unfold expR; split; exact .adv _; exact .fail _ _
theorem goesR_tok (k : Int) (st : PS) : Goes st (tokR k st) := by unfold tokR; split; exact .adv _; exact .fail _ _
theorem toks_openR (st : PS) : (openR st).toks = st.toks := by unfold openR; show (if decide (64 ≤ st.depth) then failP 12 st else st).toks = st.toks; split; exact toks_failP _ _; rfl
theorem pos_openR (st : PS) : (openR st).pos = st.pos := by unfold openR; show (if decide (64 ≤ st.depth) then failP 12 st else st).pos = st.pos; split; exact pos_failP _ _; rfl
@[simp] theorem okS_accR (w : Str) (st : PS) : okS (accR w st) ↔ okS st := okS_of (goesR_acc _ _).1
@[simp] theorem okS_expR (w : Str) (st : PS) : okS (expR w st) ↔ okS st := okS_of (goesR_exp _ _).1
@[simp] theorem okS_tokR (k : Int) (st : PS) : okS (tokR k st) ↔ okS st := okS_of (goesR_tok _ _).1
@[simp] theorem okS_openR (st : PS) : okS (openR st) ↔ okS st := okS_of (toks_openR _)

set_option maxRecDepth 20000 in
set_option maxHeartbeats 400000 in
theorem r_offset (st : PS) (bp : Nat) : PCallS Tryz.prog 44 bp 60 (cP st) (cP (st)) [.val (.pointer (some ⟨bp, 0, none⟩))] (.int .i64 (offS st)) := by
  intro H
  refine ACall.body (n := 28) tok Tryz.func44 rfl rfl rfl ?_
  refine AW.seq ?_
  refine AW.region ?_
  refine AOL.p (P_assign (v := .int .i64 _) rfl) rfl ?_
  refine AOL.nil ?_
  refine thenN ?_
  refine AW.seq ?_
  refine AW.seq ?_
  refine AW.draw mixed (fun H' => _ ∈ H') (List.mem_of_getElem? (i := 0) rfl) (by kernel_rfl) ?_
  refine Canon.pure _ _ 0 _ _ rfl (by kernel_rfl) (by kernel_rfl) rfl (.run rfl (P_move (v := .val _) rfl)) ?_
  refine Canon.pure _ _ 1 _ _ rfl (by kernel_rfl) (by kernel_rfl) rfl (.run rfl (P_nilCheck rfl)) ?_
  refine Canon.pure _ _ 2 _ _ rfl (by kernel_rfl) (by kernel_rfl) rfl (.run rfl (P_fieldAddr_val tok rfl rfl rfl rfl rfl rfl)) ?_
  refine Canon.pure _ _ 3 _ _ rfl (by kernel_rfl) (by kernel_rfl) rfl (.run rfl (OpP.mem (fun k => P_load_box (k := k) (c := .int .i64 _) tok rfl rfl rfl rfl) (fun _ h => h))) ?_
  refine Canon.pure _ _ 4 _ _ rfl (by kernel_rfl) (by kernel_rfl) rfl (.run rfl (P_move (v := .val _) rfl)) ?_
  refine Canon.pure _ _ 5 _ _ rfl (by kernel_rfl) (by kernel_rfl) rfl (.run rfl (P_nilCheck rfl)) ?_
  refine Canon.pure _ _ 6 _ _ rfl (by kernel_rfl) (by kernel_rfl) rfl (.run rfl (P_fieldAddr_val tok rfl rfl rfl rfl rfl rfl)) ?_
  refine Canon.pure _ _ 7 _ _ rfl (by kernel_rfl) (by kernel_rfl) rfl (.run rfl (OpP.mem (fun k => P_load_box (k := k) (c := .sl _ _) tok rfl rfl rfl rfl) (fun _ h => h))) ?_
  refine Canon.pure _ _ 8 _ _ rfl (by kernel_rfl) (by kernel_rfl) rfl (.run rfl (P_len_sl (n := st.toks.length) tok rfl rfl rfl (by simp))) ?_
  refine Canon.pure _ _ 9 _ _ rfl (by kernel_rfl) (by kernel_rfl) rfl (.run rfl (P_lss rfl rfl)) ?_
  refine Canon.done _ _ (by kernel_rfl) ?_
  refine thenN ?_
  refine AW.cond (b := _) rfl (fun hc1 => ?_) (fun hc1 => ?_)
  · skip
    try simp only [Bool.not_eq_true', Bool.not_eq_false'] at hc1
    have hlt : st.pos < st.toks.length := by simpa using hc1
    refine AW.seq ?_
    refine AW.draw mixed (fun H' => _ ∈ H') (List.mem_of_getElem? (i := 0) rfl) (by kernel_rfl) ?_
    refine Canon.pure _ _ 0 _ _ rfl (by kernel_rfl) (by kernel_rfl) rfl (.run rfl (P_move (v := .val _) rfl)) ?_
    refine Canon.pure _ _ 1 _ _ rfl (by kernel_rfl) (by kernel_rfl) rfl (.run rfl (P_nilCheck rfl)) ?_
    refine Canon.pure _ _ 2 _ _ rfl (by kernel_rfl) (by kernel_rfl) rfl (.run rfl (P_fieldAddr_val tok rfl rfl rfl rfl rfl rfl)) ?_
    refine Canon.pure _ _ 3 _ _ rfl (by kernel_rfl) (by kernel_rfl) rfl (.run rfl (OpP.mem (fun k => P_load_box (k := k) (c := .sl _ _) tok rfl rfl rfl rfl) (fun _ h => h))) ?_
    refine Canon.pure _ _ 4 _ _ rfl (by kernel_rfl) (by kernel_rfl) rfl (.run rfl (P_move (v := .val _) rfl)) ?_
    refine Canon.pure _ _ 5 _ _ rfl (by kernel_rfl) (by kernel_rfl) rfl (.run rfl (P_nilCheck rfl)) ?_
    refine Canon.pure _ _ 6 _ _ rfl (by kernel_rfl) (by kernel_rfl) rfl (.run rfl (P_fieldAddr_val tok rfl rfl rfl rfl rfl rfl)) ?_
    refine Canon.pure _ _ 7 _ _ rfl (by kernel_rfl) (by kernel_rfl) rfl (.run rfl (OpP.mem (fun k => P_load_box (k := k) (c := .int .i64 _) tok rfl rfl rfl rfl) (fun _ h => h))) ?_
    refine Canon.pure _ _ 8 _ _ rfl (by kernel_rfl) (by kernel_rfl) rfl (.run rfl (P_indexAddr (c := [.int .i64 _, .str _, .int .i64 _]) tok rfl rfl rfl rfl rfl rfl (by omega) (at_cells hlt))) ?_
    refine Canon.pure _ _ 9 _ _ rfl (by kernel_rfl) (by kernel_rfl) rfl (.run rfl (P_fieldAddr_ptr (cs' := [.int .i64 _]) tok rfl rfl rfl rfl rfl rfl)) ?_
    refine Canon.pure _ _ 10 _ _ rfl (by kernel_rfl) (by kernel_rfl) rfl (.run rfl (P_load_ptr (c := .int .i64 _) tok rfl rfl rfl)) ?_
    refine Canon.pure _ _ 11 _ _ rfl (by kernel_rfl) (by kernel_rfl) rfl (.run rfl (P_assign (v := .int .i64 _) rfl)) ?_
    refine Canon.done _ _ (by kernel_rfl) ?_
    refine thenN ?_
    refine AW.ret ?_
    refine thenR ?_
    refine ⟨.inr rfl, [.int .i64 _], .cons (.tmp _ _ rfl) <| .nil, _, .refl _, ?_⟩
    refine ⟨?_, congrArg (fun c => HO.box bp 60 c :: H) ?_⟩
    · try simp only [resOf, offS, cSyn, List.map_cons, List.map_nil, encS_eq, hc1, ↓reduceIte, Bool.false_eq_true, Bool.not_true, Bool.not_false]
      try rfl
    · try simp only [cP, offS, hc1, ↓reduceIte, Bool.false_eq_true, Bool.not_true, Bool.not_false]
      try rfl
  · skip
    try simp only [Bool.not_eq_true', Bool.not_eq_false'] at hc1
    refine AW.skip ?_
    refine thenN ?_
    refine AW.seq ?_
    refine AW.region ?_
    refine AOL.p (P_move (v := .val _) rfl) rfl ?_
    refine AOL.p (P_nilCheck rfl) rfl ?_
    refine AOL.p (P_fieldAddr_val tok rfl rfl rfl rfl rfl rfl) rfl ?_
    refine AOL.pk (P_load_box (k := 0) (c := .int .i64 _) tok rfl rfl rfl rfl) rfl rfl ?_
    refine AOL.p (P_assign (v := .int .i64 _) rfl) rfl ?_
    refine AOL.nil ?_
    refine thenN ?_
    refine AW.ret ?_
    refine ⟨.inr rfl, [.int .i64 _], .cons (.tmp _ _ rfl) <| .nil, _, .refl _, ?_⟩
    refine ⟨?_, congrArg (fun c => HO.box bp 60 c :: H) ?_⟩
    · try simp only [resOf, offS, cSyn, List.map_cons, List.map_nil, encS_eq, hc1, ↓reduceIte, Bool.false_eq_true, Bool.not_true, Bool.not_false]
      try rfl
    · try simp only [cP, offS, hc1, ↓reduceIte, Bool.false_eq_true, Bool.not_true, Bool.not_false]
      try rfl
set_option maxRecDepth 20000 in
set_option maxHeartbeats 400000 in
theorem r_is (st : PS) (bp : Nat) (w : Str) : PCallS Tryz.prog 62 bp 60 (cP st) (cP (st)) [.val (.pointer (some ⟨bp, 0, none⟩)), .str w] (.bool (isR w st)) := by
  intro H
  refine ACall.body (n := 47) tok Tryz.func62 rfl rfl rfl ?_
  refine AW.seq ?_
  refine AW.region ?_
  refine AOL.p (P_assign (v := .bool _) rfl) rfl ?_
  refine AOL.nil ?_
  refine thenN ?_
  refine AW.seq ?_
  refine AW.seq ?_
  refine AW.draw mixed (fun H' => _ ∈ H') (List.mem_of_getElem? (i := 0) rfl) (by kernel_rfl) ?_
  refine Canon.pure _ _ 0 _ _ rfl (by kernel_rfl) (by kernel_rfl) rfl (.run rfl (P_move (v := .val _) rfl)) ?_
  refine Canon.pure _ _ 1 _ _ rfl (by kernel_rfl) (by kernel_rfl) rfl (.run rfl (P_nilCheck rfl)) ?_
  refine Canon.pure _ _ 2 _ _ rfl (by kernel_rfl) (by kernel_rfl) rfl (.run rfl (P_fieldAddr_val tok rfl rfl rfl rfl rfl rfl)) ?_
  refine Canon.pure _ _ 3 _ _ rfl (by kernel_rfl) (by kernel_rfl) rfl (.run rfl (OpP.mem (fun k => P_load_box (k := k) (c := .int .i64 _) tok rfl rfl rfl rfl) (fun _ h => h))) ?_
  refine Canon.pure _ _ 4 _ _ rfl (by kernel_rfl) (by kernel_rfl) rfl (.run rfl (P_neq rfl rfl)) ?_
  refine Canon.pure _ _ 5 _ _ rfl (by kernel_rfl) (by kernel_rfl) rfl (.run rfl (P_move (v := .bool _) rfl)) ?_
  refine Canon.pure _ _ 6 _ _ rfl (by kernel_rfl) (by kernel_rfl) rfl (.opt _ (.val _) [] rfl (EntL.all trivial) (fun hG => P_move (v := .val _) rfl) rfl) ?_
  refine Canon.pure _ _ 7 _ _ rfl (by kernel_rfl) (by kernel_rfl) rfl (.opt _ (.val _) [(12, _)] rfl (EntL.all ⟨Ent.self _ _, trivial⟩) (fun hG => P_nilCheck rfl) rfl) ?_
  refine Canon.pure _ _ 8 _ _ rfl (by kernel_rfl) (by kernel_rfl) rfl (.opt _ (.val _) [(13, _)] rfl (EntL.all ⟨Ent.self _ _, trivial⟩) (fun hG => P_fieldAddr_val tok rfl rfl rfl rfl rfl rfl) rfl) ?_
  refine Canon.pure _ _ 9 _ _ rfl (by kernel_rfl) (by kernel_rfl) rfl (.opt _ (.int .i64 _) [(14, _)] rfl (EntL.all ⟨Ent.self _ _, trivial⟩) (fun hG => OpP.mem (fun k => P_load_box (k := k) (c := .int .i64 _) tok rfl rfl rfl rfl) (fun _ h => h)) rfl) ?_
  refine Canon.pure _ _ 10 _ _ rfl (by kernel_rfl) (by kernel_rfl) rfl (.opt _ (.val _) [] rfl (EntL.all trivial) (fun hG => P_move (v := .val _) rfl) rfl) ?_
  refine Canon.pure _ _ 11 _ _ rfl (by kernel_rfl) (by kernel_rfl) rfl (.opt _ (.val _) [(16, _)] rfl (EntL.all ⟨Ent.self _ _, trivial⟩) (fun hG => P_nilCheck rfl) rfl) ?_
  refine Canon.pure _ _ 12 _ _ rfl (by kernel_rfl) (by kernel_rfl) rfl (.opt _ (.val _) [(17, _)] rfl (EntL.all ⟨Ent.self _ _, trivial⟩) (fun hG => P_fieldAddr_val tok rfl rfl rfl rfl rfl rfl) rfl) ?_
  refine Canon.pure _ _ 13 _ _ rfl (by kernel_rfl) (by kernel_rfl) rfl (.opt _ (.sl _ _) [(18, _)] rfl (EntL.all ⟨Ent.self _ _, trivial⟩) (fun hG => OpP.mem (fun k => P_load_box (k := k) (c := .sl _ _) tok rfl rfl rfl rfl) (fun _ h => h)) rfl) ?_
  refine Canon.pure _ _ 14 _ _ rfl (by kernel_rfl) (by kernel_rfl) rfl (.opt _ (.int .i64 _) [(19, _)] rfl (EntL.all ⟨Ent.self _ _, trivial⟩) (fun hG => P_len_sl (n := st.toks.length) tok rfl rfl rfl (by simp)) rfl) ?_
  refine Canon.pure _ _ 15 _ _ rfl (by kernel_rfl) (by kernel_rfl) rfl (.opt _ (.bool _) [(15, _), (20, _)] rfl (EntL.all ⟨Ent.self _ _, Ent.self _ _, trivial⟩) (fun hG => P_geq rfl rfl) rfl) ?_
  refine Canon.pure _ _ 16 _ _ rfl (by kernel_rfl) (by kernel_rfl) rfl (.run rfl (P_pick_or rfl rfl rfl)) ?_
  refine Canon.done _ _ (by kernel_rfl) ?_
  refine thenN ?_
  refine AW.cond (b := _) rfl (fun hc1 => ?_) (fun hc1 => ?_)
  · skip
    try simp only [Bool.not_eq_true', Bool.not_eq_false'] at hc1
    refine AW.seq ?_
    refine AW.region ?_
    refine AOL.p (P_assign (v := .bool _) rfl) rfl ?_
    refine AOL.nil ?_
    refine thenN ?_
    refine AW.ret ?_
    refine thenR ?_
    refine ⟨.inr rfl, [.bool _], .cons (.tmp _ _ rfl) <| .nil, _, .refl _, ?_⟩
    refine ⟨?_, congrArg (fun c => HO.box bp 60 c :: H) ?_⟩
    · try simp only [resOf, isR, endP, cSyn, List.map_cons, List.map_nil, encS_eq, hc1, ↓reduceIte, Bool.false_eq_true, Bool.not_true, Bool.not_false]
      try rfl
    · try simp only [cP, isR, endP, hc1, ↓reduceIte, Bool.false_eq_true, Bool.not_true, Bool.not_false]
      try rfl
  · skip
    try simp only [Bool.not_eq_true', Bool.not_eq_false'] at hc1
    have hlt := not_end (st := st) hc1
    refine AW.skip ?_
    refine thenN ?_
    refine AW.seq ?_
    refine AW.draw mixed (fun H' => _ ∈ H') (List.mem_of_getElem? (i := 0) rfl) (by kernel_rfl) ?_
    refine Canon.pure _ _ 0 _ _ rfl (by kernel_rfl) (by kernel_rfl) rfl (.run rfl (P_move (v := .val _) rfl)) ?_
    refine Canon.pure _ _ 1 _ _ rfl (by kernel_rfl) (by kernel_rfl) rfl (.run rfl (P_nilCheck rfl)) ?_
    refine Canon.pure _ _ 2 _ _ rfl (by kernel_rfl) (by kernel_rfl) rfl (.run rfl (P_fieldAddr_val tok rfl rfl rfl rfl rfl rfl)) ?_
    refine Canon.pure _ _ 3 _ _ rfl (by kernel_rfl) (by kernel_rfl) rfl (.run rfl (OpP.mem (fun k => P_load_box (k := k) (c := .sl _ _) tok rfl rfl rfl rfl) (fun _ h => h))) ?_
    refine Canon.pure _ _ 4 _ _ rfl (by kernel_rfl) (by kernel_rfl) rfl (.run rfl (P_move (v := .val _) rfl)) ?_
    refine Canon.pure _ _ 5 _ _ rfl (by kernel_rfl) (by kernel_rfl) rfl (.run rfl (P_nilCheck rfl)) ?_
    refine Canon.pure _ _ 6 _ _ rfl (by kernel_rfl) (by kernel_rfl) rfl (.run rfl (P_fieldAddr_val tok rfl rfl rfl rfl rfl rfl)) ?_
    refine Canon.pure _ _ 7 _ _ rfl (by kernel_rfl) (by kernel_rfl) rfl (.run rfl (OpP.mem (fun k => P_load_box (k := k) (c := .int .i64 _) tok rfl rfl rfl rfl) (fun _ h => h))) ?_
    refine Canon.pure _ _ 8 _ _ rfl (by kernel_rfl) (by kernel_rfl) rfl (.run rfl (P_indexAddr (c := [.int .i64 _, .str _, .int .i64 _]) tok rfl rfl rfl rfl rfl rfl (by omega) (at_cells hlt))) ?_
    refine Canon.pure _ _ 9 _ _ rfl (by kernel_rfl) (by kernel_rfl) rfl (.run rfl (P_load_ptr_agg (l := [.int .i64 _, .str _, .int .i64 _]) tok rfl rfl rfl rfl rfl)) ?_
    refine Canon.eff _ _ 10 _ _ rfl (by kernel_rfl) rfl rfl (E_alloc (l := [.int .i64 0, .str [], .int .i64 0]) (by kernel_rfl)) (by rintro _ _ ⟨b5, rfl, rfl⟩; simp) ?_
    rintro _ _ ⟨b5, rfl, rfl⟩
    refine Canon.last _ _ 11 _ _ rfl (by kernel_rfl) rfl rfl (E_store (k := 0) (v := .agg _) (cs' := [.int .i64 _, .str _, .int .i64 _]) (H2 := _ :: _ :: _) tok rfl rfl rfl rfl rfl rfl rfl rfl rfl) (by kernel_rfl) ?_
    rintro _ _ ⟨rfl, rfl⟩
    refine thenN ?_
    refine AW.ghost (GS.freeze (t := 5) 0 rfl rfl) ?_
    refine AW.seq ?_
    refine AW.region ?_
    refine AOL.p (P_fieldAddr_ptr (cs' := [.str _, .int .i64 _]) tok rfl rfl rfl rfl rfl rfl) rfl ?_
    refine AOL.p (P_load_ptr (c := .str _) tok rfl rfl rfl) rfl ?_
    refine AOL.p (P_move (v := .str _) rfl) rfl ?_
    refine AOL.p (P_eql_str rfl rfl) rfl ?_
    refine AOL.p (P_move (v := .bool _) rfl) rfl ?_
    refine AOL.g (y := .ptr _) _ [] rfl (EntL.all trivial) (fun hG => P_fieldAddr_ptr (cs' := [.int .i64 _, .str _, .int .i64 _]) tok rfl rfl rfl rfl rfl rfl) rfl ?_
    refine AOL.g (y := .int .i64 _) _ [(38, _)] rfl (EntL.all ⟨Ent.self _ _, trivial⟩) (fun hG => P_load_ptr (c := .int .i64 _) tok rfl rfl rfl) rfl ?_
    refine AOL.g (y := .bool _) _ [(39, _)] rfl (EntL.all ⟨Ent.self _ _, trivial⟩) (fun hG => P_eql rfl rfl) rfl ?_
    refine AOL.g (y := .bool _) _ [(40, _)] rfl (EntL.all ⟨Ent.self _ _, trivial⟩) (fun hG => P_move (v := .bool _) rfl) rfl ?_
    refine AOL.g (y := .ptr _) _ [] rfl (EntL.all trivial) (fun hG => P_fieldAddr_ptr (cs' := [.int .i64 _, .str _, .int .i64 _]) tok rfl rfl rfl rfl rfl rfl) rfl ?_
    refine AOL.g (y := .int .i64 _) _ [(42, _)] rfl (EntL.all ⟨Ent.self _ _, trivial⟩) (fun hG => P_load_ptr (c := .int .i64 _) tok rfl rfl rfl) rfl ?_
    refine AOL.g (y := .bool _) _ [(43, _)] rfl (EntL.all ⟨Ent.self _ _, trivial⟩) (fun hG => P_eql rfl rfl) rfl ?_
    refine AOL.g (y := .bool _) _ [(41, _), (44, _)] rfl (EntL.all ⟨Ent.self _ _, Ent.suf _ _ _, trivial⟩) (fun hG => P_pick_or rfl rfl rfl) rfl ?_
    refine AOL.p (P_pick_and rfl rfl rfl) rfl ?_
    refine AOL.p (P_assign (v := .bool _) rfl) rfl ?_
    refine AOL.nil ?_
    refine thenN ?_
    refine AW.ret ?_
    refine ⟨.inr rfl, [.bool _], .cons (.tmp _ _ rfl) <| .nil, _, .refl _, ?_⟩
    refine ⟨?_, congrArg (fun c => HO.box bp 60 c :: H) ?_⟩
    · try simp only [resOf, isR, endP, cSyn, List.map_cons, List.map_nil, encS_eq, hc1, ↓reduceIte, Bool.false_eq_true, Bool.not_true, Bool.not_false]
      try rfl
    · try simp only [cP, isR, endP, hc1, ↓reduceIte, Bool.false_eq_true, Bool.not_true, Bool.not_false]
      try rfl
set_option maxRecDepth 20000 in
set_option maxHeartbeats 400000 in
theorem r_accept (st : PS) (bp : Nat) (w : Str) (hS : okS st) : PCallS Tryz.prog 47 bp 60 (cP st) (cP (accR w st)) [.val (.pointer (some ⟨bp, 0, none⟩)), .str w] (.bool (isR w st)) := by
  intro H
  refine ACall.body (n := 15) tok Tryz.func47 rfl rfl rfl ?_
  refine AW.seq ?_
  refine AW.region ?_
  refine AOL.p (P_assign (v := .bool _) rfl) rfl ?_
  refine AOL.nil ?_
  refine thenN ?_
  refine AW.seq ?_
  refine AW.seq ?_
  refine AW.region ?_
  refine AOL.p (P_move (v := .val _) rfl) rfl ?_
  refine AOL.p (P_move (v := .str _) rfl) rfl ?_
  refine AOL.pk (P_callf_k (k := 0) (by kernel_rfl) rfl rfl (r_is _ _ _)) rfl rfl ?_
  refine AOL.nil ?_
  refine thenN ?_
  refine AW.cond (b := _) rfl (fun hc1 => ?_) (fun hc1 => ?_)
  · skip
    try simp only [Bool.not_eq_true', Bool.not_eq_false'] at hc1
    have hlt := isR_lt (w := w) (st := st) hc1
    have hml := hS.1
    refine AW.seq ?_
    refine AW.region ?_
    refine AOL.p (P_move (v := .val _) rfl) rfl ?_
    refine AOL.p (P_nilCheck rfl) rfl ?_
    refine AOL.p (P_fieldAddr_val tok rfl rfl rfl rfl rfl rfl) rfl ?_
    refine AOL.pk (P_load_box (k := 0) (c := .int .i64 _) tok rfl rfl rfl rfl) rfl rfl ?_
    refine AOL.p (P_add rfl rfl rfl (by constructor <;> omega)) rfl ?_
    refine AOL.p (P_nilCheck rfl) rfl ?_
    refine AOL.p (P_fieldAddr_val tok rfl rfl rfl rfl rfl rfl) rfl ?_
    refine AOL.e (E_store (k := 0) (v := .int .i64 _) (cs' := [_, .int .i64 _, .int .i64 _, .int .i64 _, .int .i64 _, .int .i64 _]) (H2 := _ :: _) tok rfl rfl rfl rfl rfl rfl rfl rfl rfl) rfl ?_
    rintro _ _ ⟨rfl, rfl⟩
    refine AOL.nil ?_
    refine thenN ?_
    refine AW.seq ?_
    refine AW.region ?_
    refine AOL.p (P_assign (v := .bool _) rfl) rfl ?_
    refine AOL.nil ?_
    refine thenN ?_
    refine AW.ret ?_
    refine thenR ?_
    refine ⟨.inr rfl, [.bool _], .cons (.tmp _ _ rfl) <| .nil, _, .refl _, ?_⟩
    refine ⟨?_, congrArg (fun c => HO.box bp 60 c :: H) ?_⟩
    · try simp only [resOf, accR, cSyn, List.map_cons, List.map_nil, encS_eq, hc1, ↓reduceIte, Bool.false_eq_true, Bool.not_true, Bool.not_false]
      try rfl
    · try simp only [cP, accR, hc1, ↓reduceIte, Bool.false_eq_true, Bool.not_true, Bool.not_false]
      try rfl
  · skip
    try simp only [Bool.not_eq_true', Bool.not_eq_false'] at hc1
    refine AW.skip ?_
    refine thenN ?_
    refine AW.seq ?_
    refine AW.region ?_
    refine AOL.p (P_assign (v := .bool _) rfl) rfl ?_
    refine AOL.nil ?_
    refine thenN ?_
    refine AW.ret ?_
    refine ⟨.inr rfl, [.bool _], .cons (.tmp _ _ rfl) <| .nil, _, .refl _, ?_⟩
    refine ⟨?_, congrArg (fun c => HO.box bp 60 c :: H) ?_⟩
    · try simp only [resOf, accR, cSyn, List.map_cons, List.map_nil, encS_eq, hc1, ↓reduceIte, Bool.false_eq_true, Bool.not_true, Bool.not_false]
      try rfl
    · try simp only [cP, accR, hc1, ↓reduceIte, Bool.false_eq_true, Bool.not_true, Bool.not_false]
      try rfl
set_option maxRecDepth 20000 in
set_option maxHeartbeats 400000 in
theorem r_fail (st : PS) (bp : Nat) (e : Int) : PCallS Tryz.prog 43 bp 60 (cP st) (cP (failP e st)) [.val (.pointer (some ⟨bp, 0, none⟩)), .int .i64 e] (.tuple []) := by
  intro H
  refine ACall.body (n := 18) tok Tryz.func43 rfl rfl rfl ?_
  refine AW.seq ?_
  refine AW.region ?_
  refine AOL.p (P_move (v := .val _) rfl) rfl ?_
  refine AOL.p (P_nilCheck rfl) rfl ?_
  refine AOL.p (P_fieldAddr_val tok rfl rfl rfl rfl rfl rfl) rfl ?_
  refine AOL.pk (P_load_box (k := 0) (c := .int .i64 _) tok rfl rfl rfl rfl) rfl rfl ?_
  refine AOL.p (P_eql rfl rfl) rfl ?_
  refine AOL.nil ?_
  refine thenN ?_
  refine AW.cond (b := _) rfl (fun hc1 => ?_) (fun hc1 => ?_)
  · skip
    try simp only [Bool.not_eq_true', Bool.not_eq_false'] at hc1
    refine AW.region ?_
    refine AOL.p (P_move (v := .val _) rfl) rfl ?_
    refine AOL.p (P_move (v := .val _) rfl) rfl ?_
    refine AOL.p (P_move (v := .int .i64 _) rfl) rfl ?_
    refine AOL.p (P_move (v := .val _) rfl) rfl ?_
    refine AOL.pk (P_callf_k (k := 0) (by kernel_rfl) rfl rfl (r_offset _ _)) rfl rfl ?_
    refine AOL.p (P_nilCheck rfl) rfl ?_
    refine AOL.p (P_fieldAddr_val tok rfl rfl rfl rfl rfl rfl) rfl ?_
    refine AOL.e (E_store (k := 0) (v := .int .i64 _) (cs' := [_, .int .i64 _, .int .i64 _, .int .i64 _, .int .i64 _, .int .i64 _]) (H2 := _ :: _) tok rfl rfl rfl rfl rfl rfl rfl rfl rfl) rfl ?_
    rintro _ _ ⟨rfl, rfl⟩
    refine AOL.p (P_nilCheck rfl) rfl ?_
    refine AOL.p (P_fieldAddr_val tok rfl rfl rfl rfl rfl rfl) rfl ?_
    refine AOL.e (E_store (k := 0) (v := .int .i64 _) (cs' := [_, .int .i64 _, .int .i64 _, .int .i64 _, .int .i64 _, .int .i64 _]) (H2 := _ :: _) tok rfl rfl rfl rfl rfl rfl rfl rfl rfl) rfl ?_
    rintro _ _ ⟨rfl, rfl⟩
    refine AOL.nil ?_
    refine ⟨.inl rfl, [], .nil, _, .refl _, ?_⟩
    refine ⟨?_, congrArg (fun c => HO.box bp 60 c :: H) ?_⟩
    · try simp only [resOf, failP, cSyn, List.map_cons, List.map_nil, encS_eq, hc1, ↓reduceIte, Bool.false_eq_true, Bool.not_true, Bool.not_false]
      try rfl
    · try simp only [cP, failP, hc1, ↓reduceIte, Bool.false_eq_true, Bool.not_true, Bool.not_false]
      try rfl
  · skip
    try simp only [Bool.not_eq_true', Bool.not_eq_false'] at hc1
    refine AW.skip ?_
    refine ⟨.inl rfl, [], .nil, _, .refl _, ?_⟩
    refine ⟨?_, congrArg (fun c => HO.box bp 60 c :: H) ?_⟩
    · try simp only [resOf, failP, cSyn, List.map_cons, List.map_nil, encS_eq, hc1, ↓reduceIte, Bool.false_eq_true, Bool.not_true, Bool.not_false]
      try rfl
    · try simp only [cP, failP, hc1, ↓reduceIte, Bool.false_eq_true, Bool.not_true, Bool.not_false]
      try rfl
set_option maxRecDepth 20000 in
set_option maxHeartbeats 400000 in
theorem r_expect (st : PS) (bp : Nat) (w : Str) (hS : okS st) : PCallS Tryz.prog 45 bp 60 (cP st) (cP (expR w st)) [.val (.pointer (some ⟨bp, 0, none⟩)), .str w] (.tuple []) := by
  intro H
  refine ACall.body (n := 10) tok Tryz.func45 rfl rfl rfl ?_
  refine AW.seq ?_
  refine AW.region ?_
  refine AOL.p (P_move (v := .val _) rfl) rfl ?_
  refine AOL.p (P_move (v := .str _) rfl) rfl ?_
  refine AOL.e (E_callf (by kernel_rfl) rfl rfl ((r_accept _ _ _ (by simpa using hS)).at (k := 0) (H2 := _ :: _) rfl rfl)) rfl ?_
  rintro _ _ ⟨rfl, rfl⟩
  refine AOL.p (P_not rfl) rfl ?_
  refine AOL.nil ?_
  refine thenN ?_
  refine AW.cond (b := _) rfl (fun hc1 => ?_) (fun hc1 => ?_)
  · skip
    try simp only [Bool.not_eq_true', Bool.not_eq_false'] at hc1
    refine AW.ghost (GS.cellsTo (H2 := _ :: _) 0 rfl (congrArg cP (accR_no hc1)) rfl) ?_
    refine AW.region ?_
    refine AOL.p (P_move (v := .val _) rfl) rfl ?_
    refine AOL.e (E_callf (by kernel_rfl) rfl rfl ((r_fail _ _ _).at (k := 0) (H2 := _ :: _) rfl rfl)) rfl ?_
    rintro _ _ ⟨rfl, rfl⟩
    refine AOL.nil ?_
    refine ⟨.inl rfl, [], .nil, _, .refl _, ?_⟩
    refine ⟨?_, congrArg (fun c => HO.box bp 60 c :: H) ?_⟩
    · try simp only [resOf, expR, cSyn, List.map_cons, List.map_nil, encS_eq, hc1, ↓reduceIte, Bool.false_eq_true, Bool.not_true, Bool.not_false]
      try rfl
    · try simp only [cP, expR, hc1, ↓reduceIte, Bool.false_eq_true, Bool.not_true, Bool.not_false]
      try rfl
  · skip
    try simp only [Bool.not_eq_true', Bool.not_eq_false'] at hc1
    refine AW.ghost (GS.cellsTo (H2 := _ :: _) 0 rfl (congrArg cP (accR_yes hc1)) rfl) ?_
    refine AW.skip ?_
    refine ⟨.inl rfl, [], .nil, _, .refl _, ?_⟩
    refine ⟨?_, congrArg (fun c => HO.box bp 60 c :: H) ?_⟩
    · try simp only [resOf, expR, cSyn, List.map_cons, List.map_nil, encS_eq, hc1, ↓reduceIte, Bool.false_eq_true, Bool.not_true, Bool.not_false]
      try rfl
    · try simp only [cP, expR, hc1, ↓reduceIte, Bool.false_eq_true, Bool.not_true, Bool.not_false]
      try rfl
set_option maxRecDepth 20000 in
set_option maxHeartbeats 400000 in
theorem r_kind (st : PS) (bp : Nat) (k : Int) (hS : okS st) : PCallS Tryz.prog 69 bp 60 (cP st) (cP (st)) [.val (.pointer (some ⟨bp, 0, none⟩)), .int .i64 k] (.bool (nxtR k st)) := by
  intro H
  refine ACall.body (n := 47) tok Tryz.func69 rfl rfl rfl ?_
  refine AW.seq ?_
  refine AW.region ?_
  refine AOL.p (P_assign (v := .bool _) rfl) rfl ?_
  refine AOL.nil ?_
  refine thenN ?_
  refine AW.seq ?_
  refine AW.seq ?_
  refine AW.draw mixed (fun H' => _ ∈ H') (List.mem_of_getElem? (i := 0) rfl) (by kernel_rfl) ?_
  refine Canon.pure _ _ 0 _ _ rfl (by kernel_rfl) (by kernel_rfl) rfl (.run rfl (P_move (v := .val _) rfl)) ?_
  refine Canon.pure _ _ 1 _ _ rfl (by kernel_rfl) (by kernel_rfl) rfl (.run rfl (P_nilCheck rfl)) ?_
  refine Canon.pure _ _ 2 _ _ rfl (by kernel_rfl) (by kernel_rfl) rfl (.run rfl (P_fieldAddr_val tok rfl rfl rfl rfl rfl rfl)) ?_
  refine Canon.pure _ _ 3 _ _ rfl (by kernel_rfl) (by kernel_rfl) rfl (.run rfl (OpP.mem (fun k => P_load_box (k := k) (c := .int .i64 _) tok rfl rfl rfl rfl) (fun _ h => h))) ?_
  refine Canon.pure _ _ 4 _ _ rfl (by kernel_rfl) (by kernel_rfl) rfl (.run rfl (P_neq rfl rfl)) ?_
  refine Canon.pure _ _ 5 _ _ rfl (by kernel_rfl) (by kernel_rfl) rfl (.run rfl (P_move (v := .bool _) rfl)) ?_
  refine Canon.pure _ _ 6 _ _ rfl (by kernel_rfl) (by kernel_rfl) rfl (.opt _ (.val _) [] rfl (EntL.all trivial) (fun hG => P_move (v := .val _) rfl) rfl) ?_
  refine Canon.pure _ _ 7 _ _ rfl (by kernel_rfl) (by kernel_rfl) rfl (.opt _ (.val _) [(12, _)] rfl (EntL.all ⟨Ent.self _ _, trivial⟩) (fun hG => P_nilCheck rfl) rfl) ?_
  refine Canon.pure _ _ 8 _ _ rfl (by kernel_rfl) (by kernel_rfl) rfl (.opt _ (.val _) [(13, _)] rfl (EntL.all ⟨Ent.self _ _, trivial⟩) (fun hG => P_fieldAddr_val tok rfl rfl rfl rfl rfl rfl) rfl) ?_
  refine Canon.pure _ _ 9 _ _ rfl (by kernel_rfl) (by kernel_rfl) rfl (.opt _ (.int .i64 _) [(14, _)] rfl (EntL.all ⟨Ent.self _ _, trivial⟩) (fun hG => OpP.mem (fun k => P_load_box (k := k) (c := .int .i64 _) tok rfl rfl rfl rfl) (fun _ h => h)) rfl) ?_
  refine Canon.pure _ _ 10 _ _ rfl (by kernel_rfl) (by kernel_rfl) rfl (.opt _ (.val _) [] rfl (EntL.all trivial) (fun hG => P_move (v := .val _) rfl) rfl) ?_
  refine Canon.pure _ _ 11 _ _ rfl (by kernel_rfl) (by kernel_rfl) rfl (.opt _ (.val _) [(16, _)] rfl (EntL.all ⟨Ent.self _ _, trivial⟩) (fun hG => P_nilCheck rfl) rfl) ?_
  refine Canon.pure _ _ 12 _ _ rfl (by kernel_rfl) (by kernel_rfl) rfl (.opt _ (.val _) [(17, _)] rfl (EntL.all ⟨Ent.self _ _, trivial⟩) (fun hG => P_fieldAddr_val tok rfl rfl rfl rfl rfl rfl) rfl) ?_
  refine Canon.pure _ _ 13 _ _ rfl (by kernel_rfl) (by kernel_rfl) rfl (.opt _ (.sl _ _) [(18, _)] rfl (EntL.all ⟨Ent.self _ _, trivial⟩) (fun hG => OpP.mem (fun k => P_load_box (k := k) (c := .sl _ _) tok rfl rfl rfl rfl) (fun _ h => h)) rfl) ?_
  refine Canon.pure _ _ 14 _ _ rfl (by kernel_rfl) (by kernel_rfl) rfl (.opt _ (.int .i64 _) [(19, _)] rfl (EntL.all ⟨Ent.self _ _, trivial⟩) (fun hG => P_len_sl (n := st.toks.length) tok rfl rfl rfl (by simp)) rfl) ?_
  refine Canon.pure _ _ 15 _ _ rfl (by kernel_rfl) (by kernel_rfl) rfl (.opt _ (.bool _) [(15, _), (20, _)] rfl (EntL.all ⟨Ent.self _ _, Ent.self _ _, trivial⟩) (fun hG => P_geq rfl rfl) rfl) ?_
  refine Canon.pure _ _ 16 _ _ rfl (by kernel_rfl) (by kernel_rfl) rfl (.run rfl (P_pick_or rfl rfl rfl)) ?_
  refine Canon.done _ _ (by kernel_rfl) ?_
  refine thenN ?_
  refine AW.cond (b := _) rfl (fun hc1 => ?_) (fun hc1 => ?_)
  · skip
    try simp only [Bool.not_eq_true', Bool.not_eq_false'] at hc1
    refine AW.seq ?_
    refine AW.region ?_
    refine AOL.p (P_assign (v := .bool _) rfl) rfl ?_
    refine AOL.nil ?_
    refine thenN ?_
    refine AW.ret ?_
    refine thenR ?_
    refine ⟨.inr rfl, [.bool _], .cons (.tmp _ _ rfl) <| .nil, _, .refl _, ?_⟩
    refine ⟨?_, congrArg (fun c => HO.box bp 60 c :: H) ?_⟩
    · try simp only [resOf, nxtR, endP, cSyn, List.map_cons, List.map_nil, encS_eq, hc1, ↓reduceIte, Bool.false_eq_true, Bool.not_true, Bool.not_false]
      try rfl
    · try simp only [cP, nxtR, endP, hc1, ↓reduceIte, Bool.false_eq_true, Bool.not_true, Bool.not_false]
      try rfl
  · skip
    try simp only [Bool.not_eq_true', Bool.not_eq_false'] at hc1
    have hlt := not_end (st := st) hc1
    refine AW.skip ?_
    refine thenN ?_
    refine AW.seq ?_
    refine AW.draw mixed (fun H' => _ ∈ H') (List.mem_of_getElem? (i := 0) rfl) (by kernel_rfl) ?_
    refine Canon.pure _ _ 0 _ _ rfl (by kernel_rfl) (by kernel_rfl) rfl (.run rfl (P_move (v := .val _) rfl)) ?_
    refine Canon.pure _ _ 1 _ _ rfl (by kernel_rfl) (by kernel_rfl) rfl (.run rfl (P_nilCheck rfl)) ?_
    refine Canon.pure _ _ 2 _ _ rfl (by kernel_rfl) (by kernel_rfl) rfl (.run rfl (P_fieldAddr_val tok rfl rfl rfl rfl rfl rfl)) ?_
    refine Canon.pure _ _ 3 _ _ rfl (by kernel_rfl) (by kernel_rfl) rfl (.run rfl (OpP.mem (fun k => P_load_box (k := k) (c := .sl _ _) tok rfl rfl rfl rfl) (fun _ h => h))) ?_
    refine Canon.pure _ _ 4 _ _ rfl (by kernel_rfl) (by kernel_rfl) rfl (.run rfl (P_move (v := .val _) rfl)) ?_
    refine Canon.pure _ _ 5 _ _ rfl (by kernel_rfl) (by kernel_rfl) rfl (.run rfl (P_nilCheck rfl)) ?_
    refine Canon.pure _ _ 6 _ _ rfl (by kernel_rfl) (by kernel_rfl) rfl (.run rfl (P_fieldAddr_val tok rfl rfl rfl rfl rfl rfl)) ?_
    refine Canon.pure _ _ 7 _ _ rfl (by kernel_rfl) (by kernel_rfl) rfl (.run rfl (OpP.mem (fun k => P_load_box (k := k) (c := .int .i64 _) tok rfl rfl rfl rfl) (fun _ h => h))) ?_
    refine Canon.pure _ _ 8 _ _ rfl (by kernel_rfl) (by kernel_rfl) rfl (.run rfl (P_indexAddr (c := [.int .i64 _, .str _, .int .i64 _]) tok rfl rfl rfl rfl rfl rfl (by omega) (at_cells hlt))) ?_
    refine Canon.pure _ _ 9 _ _ rfl (by kernel_rfl) (by kernel_rfl) rfl (.run rfl (P_load_ptr_agg (l := [.int .i64 _, .str _, .int .i64 _]) tok rfl rfl rfl rfl rfl)) ?_
    refine Canon.eff _ _ 10 _ _ rfl (by kernel_rfl) rfl rfl (E_alloc (l := [.int .i64 0, .str [], .int .i64 0]) (by kernel_rfl)) (by rintro _ _ ⟨b5, rfl, rfl⟩; simp) ?_
    rintro _ _ ⟨b5, rfl, rfl⟩
    refine Canon.last _ _ 11 _ _ rfl (by kernel_rfl) rfl rfl (E_store (k := 0) (v := .agg _) (cs' := [.int .i64 _, .str _, .int .i64 _]) (H2 := _ :: _ :: _) tok rfl rfl rfl rfl rfl rfl rfl rfl rfl) (by kernel_rfl) ?_
    rintro _ _ ⟨rfl, rfl⟩
    refine thenN ?_
    refine AW.ghost (GS.freeze (t := 5) 0 rfl rfl) ?_
    refine AW.seq ?_
    refine AW.region ?_
    refine AOL.p (P_fieldAddr_ptr (cs' := [.int .i64 _, .str _, .int .i64 _]) tok rfl rfl rfl rfl rfl rfl) rfl ?_
    refine AOL.p (P_load_ptr (c := .int .i64 _) tok rfl rfl rfl) rfl ?_
    refine AOL.p (P_move (v := .int .i64 _) rfl) rfl ?_
    refine AOL.p (P_eql rfl rfl) rfl ?_
    refine AOL.p (P_move (v := .bool _) rfl) rfl ?_
    refine AOL.g (y := .int .i64 _) _ [] rfl (EntL.all trivial) (fun hG => P_move (v := .int .i64 _) rfl) rfl ?_
    refine AOL.g (y := .bool _) _ [(38, _)] rfl (EntL.all ⟨Ent.self _ _, trivial⟩) (fun hG => P_neq rfl rfl) rfl ?_
    refine AOL.g (y := .bool _) _ [(39, _)] rfl (EntL.all ⟨Ent.self _ _, trivial⟩) (fun hG => P_move (v := .bool _) rfl) rfl ?_
    refine AOL.g (y := .ptr _) _ [] rfl (EntL.all trivial) (fun hG => P_fieldAddr_ptr (cs' := [.str _, .int .i64 _]) tok rfl rfl rfl rfl rfl rfl) rfl ?_
    refine AOL.g (y := .str _) _ [(41, _)] rfl (EntL.all ⟨Ent.self _ _, trivial⟩) (fun hG => P_load_ptr (c := .str _) tok rfl rfl rfl) rfl ?_
    refine AOL.g (y := .bool _) _ [(42, _)] rfl (EntL.all ⟨Ent.self _ _, trivial⟩) (fun hG => P_callf (by kernel_rfl) rfl rfl (c23 _)) rfl ?_
    refine AOL.g (y := .bool _) _ [(43, _)] rfl (EntL.all ⟨Ent.self _ _, trivial⟩) (fun hG => P_not rfl) rfl ?_
    refine AOL.g (y := .bool _) _ [(40, _), (44, _)] rfl (EntL.all ⟨Ent.self _ _, Ent.suf _ _ _, trivial⟩) (fun hG => P_pick_or rfl rfl rfl) rfl ?_
    refine AOL.p (P_pick_and rfl rfl rfl) rfl ?_
    refine AOL.p (P_assign (v := .bool _) rfl) rfl ?_
    refine AOL.nil ?_
    refine thenN ?_
    refine AW.ret ?_
    refine ⟨.inr rfl, [.bool _], .cons (.tmp _ _ rfl) <| .nil, _, .refl _, ?_⟩
    refine ⟨?_, congrArg (fun c => HO.box bp 60 c :: H) ?_⟩
    · try simp only [resOf, nxtR, endP, cSyn, List.map_cons, List.map_nil, encS_eq, hc1, ↓reduceIte, Bool.false_eq_true, Bool.not_true, Bool.not_false]
      try rfl
    · try simp only [cP, nxtR, endP, hc1, ↓reduceIte, Bool.false_eq_true, Bool.not_true, Bool.not_false]
      try rfl
set_option maxRecDepth 20000 in
set_option maxHeartbeats 400000 in
theorem r_take (st : PS) (bp : Nat) (k : Int) (hS : okS st) : PCallS Tryz.prog 46 bp 60 (cP st) (cP (tokR k st)) [.val (.pointer (some ⟨bp, 0, none⟩)), .int .i64 k] (.str (txtR k st)) := by
  intro H
  refine ACall.body (n := 31) tok Tryz.func46 rfl rfl rfl ?_
  refine AW.seq ?_
  refine AW.region ?_
  refine AOL.p (P_assign (v := .str _) rfl) rfl ?_
  refine AOL.nil ?_
  refine thenN ?_
  refine AW.seq ?_
  refine AW.seq ?_
  refine AW.region ?_
  refine AOL.p (P_move (v := .val _) rfl) rfl ?_
  refine AOL.p (P_move (v := .int .i64 _) rfl) rfl ?_
  refine AOL.pk (P_callf_k (k := 0) (by kernel_rfl) rfl rfl (r_kind _ _ _ (by simpa using hS))) rfl rfl ?_
  refine AOL.p (P_not rfl) rfl ?_
  refine AOL.nil ?_
  refine thenN ?_
  refine AW.cond (b := _) rfl (fun hc1 => ?_) (fun hc1 => ?_)
  · skip
    try simp only [Bool.not_eq_true', Bool.not_eq_false'] at hc1
    refine AW.seq ?_
    refine AW.region ?_
    refine AOL.p (P_move (v := .val _) rfl) rfl ?_
    refine AOL.e (E_callf (by kernel_rfl) rfl rfl ((r_fail _ _ _).at (k := 0) (H2 := _ :: _) rfl rfl)) rfl ?_
    rintro _ _ ⟨rfl, rfl⟩
    refine AOL.nil ?_
    refine thenN ?_
    refine AW.seq ?_
    refine AW.region ?_
    refine AOL.p (P_assign (v := .str _) rfl) rfl ?_
    refine AOL.nil ?_
    refine thenN ?_
    refine AW.ret ?_
    refine thenR ?_
    refine ⟨.inr rfl, [.str _], .cons (.tmp _ _ rfl) <| .nil, _, .refl _, ?_⟩
    refine ⟨?_, congrArg (fun c => HO.box bp 60 c :: H) ?_⟩
    · try simp only [resOf, tokR, txtR, cSyn, List.map_cons, List.map_nil, encS_eq, hc1, ↓reduceIte, Bool.false_eq_true, Bool.not_true, Bool.not_false]
      try rfl
    · try simp only [cP, tokR, txtR, hc1, ↓reduceIte, Bool.false_eq_true, Bool.not_true, Bool.not_false]
      try rfl
  · skip
    try simp only [Bool.not_eq_true', Bool.not_eq_false'] at hc1
    have hlt := nxtR_lt (k := k) (st := st) hc1
    have hml := hS.1
    refine AW.skip ?_
    refine thenN ?_
    refine AW.seq ?_
    refine AW.draw mixed (fun H' => _ ∈ H') (List.mem_of_getElem? (i := 0) rfl) (by kernel_rfl) ?_
    refine Canon.pure _ _ 0 _ _ rfl (by kernel_rfl) (by kernel_rfl) rfl (.run rfl (P_move (v := .val _) rfl)) ?_
    refine Canon.pure _ _ 1 _ _ rfl (by kernel_rfl) (by kernel_rfl) rfl (.run rfl (P_nilCheck rfl)) ?_
    refine Canon.pure _ _ 2 _ _ rfl (by kernel_rfl) (by kernel_rfl) rfl (.run rfl (P_fieldAddr_val tok rfl rfl rfl rfl rfl rfl)) ?_
    refine Canon.pure _ _ 3 _ _ rfl (by kernel_rfl) (by kernel_rfl) rfl (.run rfl (OpP.mem (fun k => P_load_box (k := k) (c := .sl _ _) tok rfl rfl rfl rfl) (fun _ h => h))) ?_
    refine Canon.pure _ _ 4 _ _ rfl (by kernel_rfl) (by kernel_rfl) rfl (.run rfl (P_move (v := .val _) rfl)) ?_
    refine Canon.pure _ _ 5 _ _ rfl (by kernel_rfl) (by kernel_rfl) rfl (.run rfl (P_nilCheck rfl)) ?_
    refine Canon.pure _ _ 6 _ _ rfl (by kernel_rfl) (by kernel_rfl) rfl (.run rfl (P_fieldAddr_val tok rfl rfl rfl rfl rfl rfl)) ?_
    refine Canon.pure _ _ 7 _ _ rfl (by kernel_rfl) (by kernel_rfl) rfl (.run rfl (OpP.mem (fun k => P_load_box (k := k) (c := .int .i64 _) tok rfl rfl rfl rfl) (fun _ h => h))) ?_
    refine Canon.pure _ _ 8 _ _ rfl (by kernel_rfl) (by kernel_rfl) rfl (.run rfl (P_indexAddr (c := [.int .i64 _, .str _, .int .i64 _]) tok rfl rfl rfl rfl rfl rfl (by omega) (at_cells hlt))) ?_
    refine Canon.pure _ _ 9 _ _ rfl (by kernel_rfl) (by kernel_rfl) rfl (.run rfl (P_fieldAddr_ptr (cs' := [.str _, .int .i64 _]) tok rfl rfl rfl rfl rfl rfl)) ?_
    refine Canon.pure _ _ 10 _ _ rfl (by kernel_rfl) (by kernel_rfl) rfl (.run rfl (P_load_ptr (c := .str _) tok rfl rfl rfl)) ?_
    refine Canon.pure _ _ 11 _ _ rfl (by kernel_rfl) (by kernel_rfl) rfl (.run rfl (P_assign (v := .str _) rfl)) ?_
    refine Canon.done _ _ (by kernel_rfl) ?_
    refine thenN ?_
    refine AW.seq ?_
    refine AW.region ?_
    refine AOL.p (P_move (v := .val _) rfl) rfl ?_
    refine AOL.p (P_nilCheck rfl) rfl ?_
    refine AOL.p (P_fieldAddr_val tok rfl rfl rfl rfl rfl rfl) rfl ?_
    refine AOL.pk (P_load_box (k := 0) (c := .int .i64 _) tok rfl rfl rfl rfl) rfl rfl ?_
    refine AOL.p (P_add rfl rfl rfl (by constructor <;> omega)) rfl ?_
    refine AOL.p (P_nilCheck rfl) rfl ?_
    refine AOL.p (P_fieldAddr_val tok rfl rfl rfl rfl rfl rfl) rfl ?_
    refine AOL.e (E_store (k := 0) (v := .int .i64 _) (cs' := [_, .int .i64 _, .int .i64 _, .int .i64 _, .int .i64 _, .int .i64 _]) (H2 := _ :: _) tok rfl rfl rfl rfl rfl rfl rfl rfl rfl) rfl ?_
    rintro _ _ ⟨rfl, rfl⟩
    refine AOL.nil ?_
    refine thenN ?_
    refine AW.seq ?_
    refine AW.region ?_
    refine AOL.p (P_move (v := .str _) rfl) rfl ?_
    refine AOL.p (P_assign (v := .str _) rfl) rfl ?_
    refine AOL.nil ?_
    refine thenN ?_
    refine AW.ret ?_
    refine ⟨.inr rfl, [.str _], .cons (.tmp _ _ rfl) <| .nil, _, .refl _, ?_⟩
    refine ⟨?_, congrArg (fun c => HO.box bp 60 c :: H) ?_⟩
    · try simp only [resOf, tokR, txtR, cSyn, List.map_cons, List.map_nil, encS_eq, hc1, ↓reduceIte, Bool.false_eq_true, Bool.not_true, Bool.not_false]
      try rfl
    · try simp only [cP, tokR, txtR, hc1, ↓reduceIte, Bool.false_eq_true, Bool.not_true, Bool.not_false]
      try rfl
set_option maxRecDepth 20000 in
set_option maxHeartbeats 400000 in
theorem r_open (st : PS) (bp : Nat) : PCallS Tryz.prog 55 bp 60 (cP st) (cP (openR st)) [.val (.pointer (some ⟨bp, 0, none⟩))] (.tuple []) := by
  intro H
  refine ACall.body (n := 16) tok Tryz.func55 rfl rfl rfl ?_
  refine AW.seq ?_
  refine AW.seq ?_
  refine AW.region ?_
  refine AOL.p (P_move (v := .val _) rfl) rfl ?_
  refine AOL.p (P_nilCheck rfl) rfl ?_
  refine AOL.p (P_fieldAddr_val tok rfl rfl rfl rfl rfl rfl) rfl ?_
  refine AOL.pk (P_load_box (k := 0) (c := .int .i64 _) tok rfl rfl rfl rfl) rfl rfl ?_
  refine AOL.p (P_geq rfl rfl) rfl ?_
  refine AOL.nil ?_
  refine thenN ?_
  refine AW.cond (b := _) rfl (fun hc1 => ?_) (fun hc1 => ?_)
  · skip
    try simp only [Bool.not_eq_true', Bool.not_eq_false'] at hc1
    refine AW.region ?_
    refine AOL.p (P_move (v := .val _) rfl) rfl ?_
    refine AOL.e (E_callf (by kernel_rfl) rfl rfl ((r_fail _ _ _).at (k := 0) (H2 := _ :: _) rfl rfl)) rfl ?_
    rintro _ _ ⟨rfl, rfl⟩
    refine AOL.nil ?_
    refine thenN ?_
    refine AW.region ?_
    refine AOL.p (P_move (v := .val _) rfl) rfl ?_
    refine AOL.p (P_nilCheck rfl) rfl ?_
    refine AOL.p (P_fieldAddr_val tok rfl rfl rfl rfl rfl rfl) rfl ?_
    refine AOL.pk (P_load_box (k := 0) (c := .int .i64 _) tok rfl rfl rfl rfl) rfl rfl ?_
    refine AOL.p (P_addw rfl rfl) rfl ?_
    refine AOL.p (P_nilCheck rfl) rfl ?_
    refine AOL.p (P_fieldAddr_val tok rfl rfl rfl rfl rfl rfl) rfl ?_
    refine AOL.e (E_store (k := 0) (v := .int .i64 _) (cs' := [_, .int .i64 _, .int .i64 _, .int .i64 _, .int .i64 _, .int .i64 _]) (H2 := _ :: _) tok rfl rfl rfl rfl rfl rfl rfl rfl rfl) rfl ?_
    rintro _ _ ⟨rfl, rfl⟩
    refine AOL.nil ?_
    refine ⟨.inl rfl, [], .nil, _, .refl _, ?_⟩
    refine ⟨?_, congrArg (fun c => HO.box bp 60 c :: H) ?_⟩
    · try simp only [resOf, openR, deep, cSyn, List.map_cons, List.map_nil, encS_eq, hc1, ↓reduceIte, Bool.false_eq_true, Bool.not_true, Bool.not_false]
      try rfl
    · try simp only [cP, openR, deep, hc1, ↓reduceIte, Bool.false_eq_true, Bool.not_true, Bool.not_false]
      try rfl
  · skip
    try simp only [Bool.not_eq_true', Bool.not_eq_false'] at hc1
    refine AW.skip ?_
    refine thenN ?_
    refine AW.region ?_
    refine AOL.p (P_move (v := .val _) rfl) rfl ?_
    refine AOL.p (P_nilCheck rfl) rfl ?_
    refine AOL.p (P_fieldAddr_val tok rfl rfl rfl rfl rfl rfl) rfl ?_
    refine AOL.pk (P_load_box (k := 0) (c := .int .i64 _) tok rfl rfl rfl rfl) rfl rfl ?_
    refine AOL.p (P_addw rfl rfl) rfl ?_
    refine AOL.p (P_nilCheck rfl) rfl ?_
    refine AOL.p (P_fieldAddr_val tok rfl rfl rfl rfl rfl rfl) rfl ?_
    refine AOL.e (E_store (k := 0) (v := .int .i64 _) (cs' := [_, .int .i64 _, .int .i64 _, .int .i64 _, .int .i64 _, .int .i64 _]) (H2 := _ :: _) tok rfl rfl rfl rfl rfl rfl rfl rfl rfl) rfl ?_
    rintro _ _ ⟨rfl, rfl⟩
    refine AOL.nil ?_
    refine ⟨.inl rfl, [], .nil, _, .refl _, ?_⟩
    refine ⟨?_, congrArg (fun c => HO.box bp 60 c :: H) ?_⟩
    · try simp only [resOf, openR, deep, cSyn, List.map_cons, List.map_nil, encS_eq, hc1, ↓reduceIte, Bool.false_eq_true, Bool.not_true, Bool.not_false]
      try rfl
    · try simp only [cP, openR, deep, hc1, ↓reduceIte, Bool.false_eq_true, Bool.not_true, Bool.not_false]
      try rfl
set_option maxRecDepth 20000 in
set_option maxHeartbeats 400000 in
theorem r_number (st : PS) (bp : Nat)  (hS : okS st) : PCallS Tryz.prog 56 bp 60 (cP st) (cP (tokR 1 st)) [.val (.pointer (some ⟨bp, 0, none⟩))] (.int .i64 (numRR st)) := by
  intro H
  refine ACall.body (n := 12) tok Tryz.func56 rfl rfl rfl ?_
  refine AW.seq ?_
  refine AW.region ?_
  refine AOL.p (P_assign (v := .int .i64 _) rfl) rfl ?_
  refine AOL.nil ?_
  refine thenN ?_
  refine AW.seq ?_
  refine AW.region ?_
  refine AOL.p (P_move (v := .val _) rfl) rfl ?_
  refine AOL.e (E_callf (by kernel_rfl) rfl rfl ((r_take _ _ _ (by simpa using hS)).at (k := 0) (H2 := _ :: _) rfl rfl)) rfl ?_
  rintro _ _ ⟨rfl, rfl⟩
  refine AOL.p (P_callf (by kernel_rfl) rfl rfl (c19 _ (txtR_le hS))) rfl ?_
  refine AOL.p (P_move (v := .tuple _) rfl) rfl ?_
  refine AOL.p (P_extract (v := .int .i64 _) rfl rfl) rfl ?_
  refine AOL.p (P_extract (v := .int .i64 _) rfl rfl) rfl ?_
  refine AOL.p (P_assign (v := .int .i64 _) rfl) rfl ?_
  refine AOL.p (P_assign (v := .int .i64 _) rfl) rfl ?_
  refine AOL.nil ?_
  refine thenN ?_
  refine AW.seq ?_
  refine AW.region ?_
  refine AOL.p (P_move (v := .int .i64 _) rfl) rfl ?_
  refine AOL.p (P_assign (v := .int .i64 _) rfl) rfl ?_
  refine AOL.nil ?_
  refine thenN ?_
  refine AW.ret ?_
  refine ⟨.inr rfl, [.int .i64 _], .cons (.tmp _ _ rfl) <| .nil, _, .refl _, ?_⟩
  refine ⟨?_, congrArg (fun c => HO.box bp 60 c :: H) ?_⟩
  · try simp only [resOf, numRR, cSyn, List.map_cons, List.map_nil, encS_eq, ↓reduceIte, Bool.false_eq_true, Bool.not_true, Bool.not_false]
    try rfl
  · try simp only [cP, numRR, ↓reduceIte, Bool.false_eq_true, Bool.not_true, Bool.not_false]
    try rfl

end Go.Proofs.YtpgmglacdcfnaaaGreatDoor
