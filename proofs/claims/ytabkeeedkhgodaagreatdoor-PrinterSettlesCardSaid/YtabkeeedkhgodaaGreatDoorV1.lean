/-
  Walks of the parser: its first steps. No condition.
-/
import Derived.Test.YtabkeeedkhgodaaGreatDoorW9
import Derived.Test.YtabkeeedkhgodaaGreatDoorM12
import Derived.KernelRfl
namespace Go.Proofs.YtabkeeedkhgodaaGreatDoor
open Go Go.Aw
set_option linter.unusedVariables false
set_option linter.unusedSimpArgs false

def okT (l : List Tok) : Prop := l.length ≤ 1048576 ∧ ∀ t ∈ l, t.text.length ≤ 1048576
def okS (st : PS) : Prop := okT st.toks
theorem at_get {st : PS} (h : st.pos < st.toks.length) : st.toks[st.pos]? = some (tkS st) := by
  simp [tkS, List.getD_eq_getElem?_getD, List.getElem?_eq_getElem h]
theorem at_cells {st : PS} (h : st.pos < st.toks.length) : (st.toks.map mTok)[st.pos]? = some (cTok (tkS st)) := by rw [List.getElem?_map, at_get h]; rfl
theorem okS_text {st : PS} (h : okS st) (hp : st.pos < st.toks.length) : (tkS st).text.length ≤ 1048576 := h.2 _ (List.mem_of_getElem? (at_get hp))
theorem not_end {st : PS} (h : endP st = false) : st.pos < st.toks.length := by
  unfold endP at h
  rw [Bool.or_eq_false_iff, decide_eq_false_iff_not] at h
  omega
theorem is_lt {w : Str} {st : PS} (h : isP w st = true) : st.pos < st.toks.length := by
  unfold isP at h
  cases he : endP st with
  | true => rw [he] at h; cases h
  | false => exact not_end he
theorem nxt_lt {k : Int} {st : PS} (h : nxtP k st = true) : st.pos < st.toks.length := by
  unfold nxtP at h
  cases he : endP st with
  | true => rw [he] at h; cases h
  | false => exact not_end he
theorem acc_bad {w : Str} {st : PS} (h : ¬ allG [((st.bad == 0), true)]) : st = accP w st := by
  have hb : (st.bad == 0) = false := by
    cases hq : (st.bad == 0) with
    | false => rfl
    | true => exact absurd (fun p hp => by simp only [List.mem_singleton] at hp; subst hp; exact hq) h
  have : isP w st = false := by
    unfold isP endP
    have : (st.bad != 0) = true := by simp only [bne, hb]; rfl
    rw [this]; rfl
  unfold accP; rw [this]; rfl
theorem acc_no {w : Str} {st : PS} (h : isP w st = false) : accP w st = st := by unfold accP; rw [h]; rfl
theorem and_snd {a b : Bool} (h : (a && b) = true) : b = true := by rw [Bool.and_eq_true] at h; exact h.2
theorem txt_le {k : Int} {st : PS} (h : okS st) : (txtP k st).length ≤ 1048576 := by
  unfold txtP
  cases hn : nxtP k st with
  | true => exact okS_text h (nxt_lt hn)
  | false => exact Nat.zero_le _
theorem toks_adv (st : PS) : (adv st).toks = st.toks := rfl
theorem toks_deep (st : PS) : (deep st).toks = st.toks := rfl
theorem toks_shallow (st : PS) : (shallow st).toks = st.toks := rfl
theorem toks_failP (e : Int) (st : PS) : (failP e st).toks = st.toks := by unfold failP; split <;> rfl
theorem toks_accP (w : Str) (st : PS) : (accP w st).toks = st.toks := by unfold accP; split <;> rfl
theorem toks_expP (w : Str) (st : PS) : (expP w st).toks = st.toks := by unfold expP; split; exact toks_failP _ _; exact toks_accP _ _
theorem toks_tokP (k : Int) (st : PS) : (tokP k st).toks = st.toks := by unfold tokP; split; rfl; exact toks_failP _ _
theorem okS_of {a b : PS} (h : a.toks = b.toks) : okS a ↔ okS b := by unfold okS; rw [h]
@[simp] theorem okS_adv (st : PS) : okS (adv st) ↔ okS st := okS_of rfl
@[simp] theorem okS_deep (st : PS) : okS (deep st) ↔ okS st := okS_of rfl
@[simp] theorem okS_shallow (st : PS) : okS (shallow st) ↔ okS st := okS_of rfl
@[simp] theorem okS_failP (e : Int) (st : PS) : okS (failP e st) ↔ okS st := okS_of (toks_failP _ _)
@[simp] theorem okS_accP (w : Str) (st : PS) : okS (accP w st) ↔ okS st := okS_of (toks_accP _ _)
@[simp] theorem okS_expP (w : Str) (st : PS) : okS (expP w st) ↔ okS st := okS_of (toks_expP _ _)
@[simp] theorem okS_tokP (k : Int) (st : PS) : okS (tokP k st) ↔ okS st := okS_of (toks_tokP _ _)

set_option maxRecDepth 20000 in
set_option maxHeartbeats 400000 in
theorem p_offset (st : PS) (bp : Nat) : PCallS Tryz.prog 101 bp 70 (cP st) (cP (st)) [.val (.pointer (some ⟨bp, 0, none⟩))] (.int .i64 (offS st)) := by
 intro H
 refine ACall.body (n := 28) tok Tryz.func101 rfl rfl rfl ?_
 refine AW.seq (AW.region ?_)
 refine AOL.p (P_assign (v := .int .i64 _) rfl) rfl ?_
 refine AOL.nil (thenN ?_)
 refine AW.seq ?_
 refine AW.seq ?_
 refine AW.draw mixed (fun H' => _ ∈ H') (List.mem_of_getElem? (i := 0) rfl) (by kernel_rfl) ?_
 refine Canon.pure _ _ 0 _ _ rfl (by kernel_rfl) (by kernel_rfl) rfl (.run rfl (P_move (v := .val _) rfl)) ?_
 refine Canon.pure _ _ 1 _ _ rfl (by kernel_rfl) (by kernel_rfl) rfl (.run rfl (P_nilCheck rfl)) ?_
 refine Canon.pure _ _ 2 _ _ rfl (by kernel_rfl) (by kernel_rfl) rfl (.run rfl (P_fieldAddr_val tok rfl rfl rfl rfl rfl rfl)) ?_
 refine Canon.pure _ _ 3 _ _ rfl (by kernel_rfl) (by kernel_rfl) rfl (.run rfl (OpP.mem (fun k => P_load_box (k := k) (c := .int .i64 _) tok rfl rfl rfl rfl) (fun _ h => h))) ?_
 refine Canon.pure _ _ 4 _ _ rfl (by kernel_rfl) (by kernel_rfl) rfl (.run rfl (P_move (v := .val _) rfl)) ?_
 refine Canon.pure _ _ 5 _ _ rfl (by kernel_rfl) (by kernel_rfl) rfl (.run rfl (P_nilCheck rfl)) ?_
 refine Canon.pure _ _ 6 _ _ rfl (by kernel_rfl) (by kernel_rfl) rfl (.run rfl (P_fieldAddr_val tok rfl rfl rfl rfl rfl rfl)) ?_
 refine Canon.pure _ _ 7 _ _ rfl (by kernel_rfl) (by kernel_rfl) rfl (.run rfl (OpP.mem (fun k => P_load_box (k := k) (c := .sl _ _) tok rfl rfl rfl rfl) (fun _ h => h))) ?_
 refine Canon.pure _ _ 8 _ _ rfl (by kernel_rfl) (by kernel_rfl) rfl (.run rfl (P_len_sl (n := st.toks.length) tok rfl rfl rfl (by simp))) ?_
 refine Canon.pure _ _ 9 _ _ rfl (by kernel_rfl) (by kernel_rfl) rfl (.run rfl (P_lss rfl rfl)) ?_
 refine Canon.done _ _ (by kernel_rfl) ?_
 refine thenN ?_
 refine AW.cond (b := _) rfl (fun hc1 => ?_) (fun hc1 => ?_)
 ·
  try simp only [Bool.not_eq_true', Bool.not_eq_false'] at hc1
  have hlt : st.pos < st.toks.length := by simpa using hc1
  refine AW.seq ?_
  refine AW.draw mixed (fun H' => _ ∈ H') (List.mem_of_getElem? (i := 0) rfl) (by kernel_rfl) ?_
  refine Canon.pure _ _ 0 _ _ rfl (by kernel_rfl) (by kernel_rfl) rfl (.run rfl (P_move (v := .val _) rfl)) ?_
  refine Canon.pure _ _ 1 _ _ rfl (by kernel_rfl) (by kernel_rfl) rfl (.run rfl (P_nilCheck rfl)) ?_
  refine Canon.pure _ _ 2 _ _ rfl (by kernel_rfl) (by kernel_rfl) rfl (.run rfl (P_fieldAddr_val tok rfl rfl rfl rfl rfl rfl)) ?_
  refine Canon.pure _ _ 3 _ _ rfl (by kernel_rfl) (by kernel_rfl) rfl (.run rfl (OpP.mem (fun k => P_load_box (k := k) (c := .sl _ _) tok rfl rfl rfl rfl) (fun _ h => h))) ?_
  refine Canon.pure _ _ 4 _ _ rfl (by kernel_rfl) (by kernel_rfl) rfl (.run rfl (P_move (v := .val _) rfl)) ?_
  refine Canon.pure _ _ 5 _ _ rfl (by kernel_rfl) (by kernel_rfl) rfl (.run rfl (P_nilCheck rfl)) ?_
  refine Canon.pure _ _ 6 _ _ rfl (by kernel_rfl) (by kernel_rfl) rfl (.run rfl (P_fieldAddr_val tok rfl rfl rfl rfl rfl rfl)) ?_
  refine Canon.pure _ _ 7 _ _ rfl (by kernel_rfl) (by kernel_rfl) rfl (.run rfl (OpP.mem (fun k => P_load_box (k := k) (c := .int .i64 _) tok rfl rfl rfl rfl) (fun _ h => h))) ?_
  refine Canon.pure _ _ 8 _ _ rfl (by kernel_rfl) (by kernel_rfl) rfl (.run rfl (P_indexAddr (c := [.int .i64 _, .str _, .int .i64 _]) tok rfl rfl rfl rfl rfl rfl (by omega) (at_cells hlt))) ?_
  refine Canon.pure _ _ 9 _ _ rfl (by kernel_rfl) (by kernel_rfl) rfl (.run rfl (P_fieldAddr_ptr (cs' := [.int .i64 _]) tok rfl rfl rfl rfl rfl rfl)) ?_
  refine Canon.pure _ _ 10 _ _ rfl (by kernel_rfl) (by kernel_rfl) rfl (.run rfl (P_load_ptr (c := .int .i64 _) tok rfl rfl rfl)) ?_
  refine Canon.pure _ _ 11 _ _ rfl (by kernel_rfl) (by kernel_rfl) rfl (.run rfl (P_assign (v := .int .i64 _) rfl)) ?_
  refine Canon.done _ _ (by kernel_rfl) ?_
  refine thenN ?_
  refine AW.ret ?_
  refine thenR ?_
  refine ⟨.inr rfl, [.int .i64 _], .cons (.tmp _ _ rfl) <| .nil, _, .refl _, ?_⟩
  refine ⟨?_, congrArg (fun c => HO.box bp 70 c :: H) ?_⟩
  ·
   try simp only [resOf, offS, cSyn, List.map_cons, List.map_nil, encS_eq, hc1, ↓reduceIte, Bool.false_eq_true, Bool.not_true, Bool.not_false]
   try rfl
  ·
   try simp only [cP, offS, hc1, ↓reduceIte, Bool.false_eq_true, Bool.not_true, Bool.not_false]
   try rfl
 ·
  try simp only [Bool.not_eq_true', Bool.not_eq_false'] at hc1
  refine AW.skip ?_
  refine thenN ?_
  refine AW.seq (AW.region ?_)
  refine AOL.p (P_move (v := .val _) rfl) rfl ?_
  refine AOL.p (P_nilCheck rfl) rfl ?_
  refine AOL.p (P_fieldAddr_val tok rfl rfl rfl rfl rfl rfl) rfl ?_
  refine AOL.pk (P_load_box (k := 0) (c := .int .i64 _) tok rfl rfl rfl rfl) rfl rfl ?_
  refine AOL.p (P_assign (v := .int .i64 _) rfl) rfl ?_
  refine AOL.nil (thenN ?_)
  refine AW.ret ?_
  refine ⟨.inr rfl, [.int .i64 _], .cons (.tmp _ _ rfl) <| .nil, _, .refl _, ?_⟩
  refine ⟨?_, congrArg (fun c => HO.box bp 70 c :: H) ?_⟩
  ·
   try simp only [resOf, offS, cSyn, List.map_cons, List.map_nil, encS_eq, hc1, ↓reduceIte, Bool.false_eq_true, Bool.not_true, Bool.not_false]
   try rfl
  ·
   try simp only [cP, offS, hc1, ↓reduceIte, Bool.false_eq_true, Bool.not_true, Bool.not_false]
   try rfl
set_option maxRecDepth 20000 in
set_option maxHeartbeats 400000 in
theorem p_is (st : PS) (bp : Nat) (w : Str) (hS : okS st) (hw : w.length ≤ 1048576) : PCallS Tryz.prog 56 bp 70 (cP st) (cP (st)) [.val (.pointer (some ⟨bp, 0, none⟩)), .str w] (.bool (isP w st)) := by
 intro H
 refine ACall.body (n := 51) tok Tryz.func56 rfl rfl rfl ?_
 refine AW.seq (AW.region ?_)
 refine AOL.p (P_assign (v := .bool _) rfl) rfl ?_
 refine AOL.nil (thenN ?_)
 refine AW.seq ?_
 refine AW.seq ?_
 refine AW.draw mixed (fun H' => _ ∈ H') (List.mem_of_getElem? (i := 0) rfl) (by kernel_rfl) ?_
 refine Canon.pure _ _ 0 _ _ rfl (by kernel_rfl) (by kernel_rfl) rfl (.run rfl (P_move (v := .val _) rfl)) ?_
 refine Canon.pure _ _ 1 _ _ rfl (by kernel_rfl) (by kernel_rfl) rfl (.run rfl (P_nilCheck rfl)) ?_
 refine Canon.pure _ _ 2 _ _ rfl (by kernel_rfl) (by kernel_rfl) rfl (.run rfl (P_fieldAddr_val tok rfl rfl rfl rfl rfl rfl)) ?_
 refine Canon.pure _ _ 3 _ _ rfl (by kernel_rfl) (by kernel_rfl) rfl (.run rfl (OpP.mem (fun k => P_load_box (k := k) (c := .int .i64 _) tok rfl rfl rfl rfl) (fun _ h => h))) ?_
 refine Canon.pure _ _ 4 _ _ rfl (by kernel_rfl) (by kernel_rfl) rfl (.run rfl (P_neq rfl rfl)) ?_
 refine Canon.pure _ _ 5 _ _ rfl (by kernel_rfl) (by kernel_rfl) rfl (.run rfl (P_move (v := .bool _) rfl)) ?_
 refine Canon.pure _ _ 6 _ _ rfl (by kernel_rfl) (by kernel_rfl) rfl (.opt _ (.val _) [] rfl (EntL.all trivial) (fun hG => P_move (v := .val _) rfl) rfl) ?_
 refine Canon.pure _ _ 7 _ _ rfl (by kernel_rfl) (by kernel_rfl) rfl (.opt _ (.val _) [(12, _)] rfl (EntL.all ⟨Ent.self _ _, trivial⟩) (fun hG => P_nilCheck rfl) rfl) ?_
 refine Canon.pure _ _ 8 _ _ rfl (by kernel_rfl) (by kernel_rfl) rfl (.opt _ (.val _) [(13, _)] rfl (EntL.all ⟨Ent.self _ _, trivial⟩) (fun hG => P_fieldAddr_val tok rfl rfl rfl rfl rfl rfl) rfl) ?_
 refine Canon.pure _ _ 9 _ _ rfl (by kernel_rfl) (by kernel_rfl) rfl (.opt _ (.int .i64 _) [(14, _)] rfl (EntL.all ⟨Ent.self _ _, trivial⟩) (fun hG => OpP.mem (fun k => P_load_box (k := k) (c := .int .i64 _) tok rfl rfl rfl rfl) (fun _ h => h)) rfl) ?_
 refine Canon.pure _ _ 10 _ _ rfl (by kernel_rfl) (by kernel_rfl) rfl (.opt _ (.val _) [] rfl (EntL.all trivial) (fun hG => P_move (v := .val _) rfl) rfl) ?_
 refine Canon.pure _ _ 11 _ _ rfl (by kernel_rfl) (by kernel_rfl) rfl (.opt _ (.val _) [(16, _)] rfl (EntL.all ⟨Ent.self _ _, trivial⟩) (fun hG => P_nilCheck rfl) rfl) ?_
 refine Canon.pure _ _ 12 _ _ rfl (by kernel_rfl) (by kernel_rfl) rfl (.opt _ (.val _) [(17, _)] rfl (EntL.all ⟨Ent.self _ _, trivial⟩) (fun hG => P_fieldAddr_val tok rfl rfl rfl rfl rfl rfl) rfl) ?_
 refine Canon.pure _ _ 13 _ _ rfl (by kernel_rfl) (by kernel_rfl) rfl (.opt _ (.sl _ _) [(18, _)] rfl (EntL.all ⟨Ent.self _ _, trivial⟩) (fun hG => OpP.mem (fun k => P_load_box (k := k) (c := .sl _ _) tok rfl rfl rfl rfl) (fun _ h => h)) rfl) ?_
 refine Canon.pure _ _ 14 _ _ rfl (by kernel_rfl) (by kernel_rfl) rfl (.opt _ (.int .i64 _) [(19, _)] rfl (EntL.all ⟨Ent.self _ _, trivial⟩) (fun hG => P_len_sl (n := st.toks.length) tok rfl rfl rfl (by simp)) rfl) ?_
 refine Canon.pure _ _ 15 _ _ rfl (by kernel_rfl) (by kernel_rfl) rfl (.opt _ (.bool _) [(15, _), (20, _)] rfl (EntL.all ⟨Ent.self _ _, Ent.self _ _, trivial⟩) (fun hG => P_geq rfl rfl) rfl) ?_
 refine Canon.pure _ _ 16 _ _ rfl (by kernel_rfl) (by kernel_rfl) rfl (.run rfl (P_pick_or rfl rfl rfl)) ?_
 refine Canon.done _ _ (by kernel_rfl) ?_
 refine thenN ?_
 refine AW.cond (b := _) rfl (fun hc1 => ?_) (fun hc1 => ?_)
 ·
  try simp only [Bool.not_eq_true', Bool.not_eq_false'] at hc1
  refine AW.seq (AW.region ?_)
  refine AOL.p (P_assign (v := .bool _) rfl) rfl ?_
  refine AOL.nil (thenN ?_)
  refine AW.ret ?_
  refine thenR ?_
  refine ⟨.inr rfl, [.bool _], .cons (.tmp _ _ rfl) <| .nil, _, .refl _, ?_⟩
  refine ⟨?_, congrArg (fun c => HO.box bp 70 c :: H) ?_⟩
  ·
   try simp only [resOf, isP, endP, cSyn, List.map_cons, List.map_nil, encS_eq, hc1, ↓reduceIte, Bool.false_eq_true, Bool.not_true, Bool.not_false]
   try rfl
  ·
   try simp only [cP, isP, endP, hc1, ↓reduceIte, Bool.false_eq_true, Bool.not_true, Bool.not_false]
   try rfl
 ·
  try simp only [Bool.not_eq_true', Bool.not_eq_false'] at hc1
  have hlt := not_end (st := st) hc1
  refine AW.skip ?_
  refine thenN ?_
  refine AW.seq ?_
  refine AW.draw mixed (fun H' => _ ∈ H') (List.mem_of_getElem? (i := 0) rfl) (by kernel_rfl) ?_
  refine Canon.pure _ _ 0 _ _ rfl (by kernel_rfl) (by kernel_rfl) rfl (.run rfl (P_move (v := .val _) rfl)) ?_
  refine Canon.pure _ _ 1 _ _ rfl (by kernel_rfl) (by kernel_rfl) rfl (.run rfl (P_nilCheck rfl)) ?_
  refine Canon.pure _ _ 2 _ _ rfl (by kernel_rfl) (by kernel_rfl) rfl (.run rfl (P_fieldAddr_val tok rfl rfl rfl rfl rfl rfl)) ?_
  refine Canon.pure _ _ 3 _ _ rfl (by kernel_rfl) (by kernel_rfl) rfl (.run rfl (OpP.mem (fun k => P_load_box (k := k) (c := .sl _ _) tok rfl rfl rfl rfl) (fun _ h => h))) ?_
  refine Canon.pure _ _ 4 _ _ rfl (by kernel_rfl) (by kernel_rfl) rfl (.run rfl (P_move (v := .val _) rfl)) ?_
  refine Canon.pure _ _ 5 _ _ rfl (by kernel_rfl) (by kernel_rfl) rfl (.run rfl (P_nilCheck rfl)) ?_
  refine Canon.pure _ _ 6 _ _ rfl (by kernel_rfl) (by kernel_rfl) rfl (.run rfl (P_fieldAddr_val tok rfl rfl rfl rfl rfl rfl)) ?_
  refine Canon.pure _ _ 7 _ _ rfl (by kernel_rfl) (by kernel_rfl) rfl (.run rfl (OpP.mem (fun k => P_load_box (k := k) (c := .int .i64 _) tok rfl rfl rfl rfl) (fun _ h => h))) ?_
  refine Canon.pure _ _ 8 _ _ rfl (by kernel_rfl) (by kernel_rfl) rfl (.run rfl (P_indexAddr (c := [.int .i64 _, .str _, .int .i64 _]) tok rfl rfl rfl rfl rfl rfl (by omega) (at_cells hlt))) ?_
  refine Canon.pure _ _ 9 _ _ rfl (by kernel_rfl) (by kernel_rfl) rfl (.run rfl (P_load_ptr_agg (l := [.int .i64 _, .str _, .int .i64 _]) tok rfl rfl rfl rfl rfl)) ?_
  refine Canon.eff _ _ 10 _ _ rfl (by kernel_rfl) rfl rfl (E_alloc (l := [.int .i64 0, .str [], .int .i64 0]) (by kernel_rfl)) (by rintro _ _ ⟨b5, rfl, rfl⟩; simp) ?_
  rintro _ _ ⟨b5, rfl, rfl⟩
  refine Canon.last _ _ 11 _ _ rfl (by kernel_rfl) rfl rfl (E_store (k := 0) (v := .agg _) (cs' := [.int .i64 _, .str _, .int .i64 _]) (H2 := _ :: _ :: _) tok rfl rfl rfl rfl rfl rfl rfl rfl rfl) (by kernel_rfl) ?_
  rintro _ _ ⟨rfl, rfl⟩
  refine thenN ?_
  refine AW.ghost (GS.freeze (t := 5) 0 rfl rfl) ?_
  refine AW.seq (AW.region ?_)
  refine AOL.p (P_fieldAddr_ptr (cs' := [.str _, .int .i64 _]) tok rfl rfl rfl rfl rfl rfl) rfl ?_
  refine AOL.p (P_load_ptr (c := .str _) tok rfl rfl rfl) rfl ?_
  refine AOL.p (P_move (v := .str _) rfl) rfl ?_
  refine AOL.p (P_eql_str rfl rfl) rfl ?_
  refine AOL.p (P_move (v := .bool _) rfl) rfl ?_
  refine AOL.g (y := .ptr _) _ [] rfl (EntL.all trivial) (fun hG => P_fieldAddr_ptr (cs' := [.int .i64 _, .str _, .int .i64 _]) tok rfl rfl rfl rfl rfl rfl) rfl ?_
  refine AOL.g (y := .int .i64 _) _ [(38, _)] rfl (EntL.all ⟨Ent.self _ _, trivial⟩) (fun hG => P_load_ptr (c := .int .i64 _) tok rfl rfl rfl) rfl ?_
  refine AOL.g (y := .bool _) _ [(39, _)] rfl (EntL.all ⟨Ent.self _ _, trivial⟩) (fun hG => P_eql rfl rfl) rfl ?_
  refine AOL.g (y := .bool _) _ [(40, _)] rfl (EntL.all ⟨Ent.self _ _, trivial⟩) (fun hG => P_move (v := .bool _) rfl) rfl ?_
  refine AOL.g (y := .ptr _) _ [] rfl (EntL.all trivial) (fun hG => P_fieldAddr_ptr (cs' := [.int .i64 _, .str _, .int .i64 _]) tok rfl rfl rfl rfl rfl rfl) rfl ?_
  refine AOL.g (y := .int .i64 _) _ [(42, _)] rfl (EntL.all ⟨Ent.self _ _, trivial⟩) (fun hG => P_load_ptr (c := .int .i64 _) tok rfl rfl rfl) rfl ?_
  refine AOL.g (y := .bool _) _ [(43, _)] rfl (EntL.all ⟨Ent.self _ _, trivial⟩) (fun hG => P_eql rfl rfl) rfl ?_
  refine AOL.g (y := .bool _) _ [(44, _)] rfl (EntL.all ⟨Ent.self _ _, trivial⟩) (fun hG => P_move (v := .bool _) rfl) rfl ?_
  refine AOL.g (y := .str _) _ [] rfl (EntL.all trivial) (fun hG => P_move (v := .str _) rfl) rfl ?_
  refine AOL.g (y := .bool _) _ [(46, _)] rfl (EntL.all ⟨Ent.self _ _, trivial⟩) (fun hG => P_callf (by kernel_rfl) rfl rfl (c22 w hw)) rfl ?_
  refine AOL.g (y := .bool _) _ [(45, _), (47, _)] rfl (EntL.all ⟨Ent.self _ _, Ent.suf _ _ _, trivial⟩) (fun hG => P_pick_and rfl rfl rfl) rfl ?_
  refine AOL.g (y := .bool _) _ [(41, _), (48, _)] rfl (EntL.all ⟨Ent.self _ _, Ent.suf _ _ _, trivial⟩) (fun hG => P_pick_or rfl rfl rfl) rfl ?_
  refine AOL.p (P_pick_and rfl rfl rfl) rfl ?_
  refine AOL.p (P_assign (v := .bool _) rfl) rfl ?_
  refine AOL.nil (thenN ?_)
  refine AW.ret ?_
  refine ⟨.inr rfl, [.bool _], .cons (.tmp _ _ rfl) <| .nil, _, .refl _, ?_⟩
  refine ⟨?_, congrArg (fun c => HO.box bp 70 c :: H) ?_⟩
  ·
   try simp only [resOf, isP, endP, cSyn, List.map_cons, List.map_nil, encS_eq, hc1, ↓reduceIte, Bool.false_eq_true, Bool.not_true, Bool.not_false]
   try rfl
  ·
   try simp only [cP, isP, endP, hc1, ↓reduceIte, Bool.false_eq_true, Bool.not_true, Bool.not_false]
   try rfl
set_option maxRecDepth 20000 in
set_option maxHeartbeats 400000 in
theorem p_accept (st : PS) (bp : Nat) (w : Str) (hS : okS st) (hw : w.length ≤ 1048576) : PCallS Tryz.prog 107 bp 70 (cP st) (cP (accP w st)) [.val (.pointer (some ⟨bp, 0, none⟩)), .str w] (.bool (isP w st)) := by
 intro H
 refine ACall.body (n := 16) tok Tryz.func107 rfl rfl rfl ?_
 refine AW.seq (AW.region ?_)
 refine AOL.p (P_assign (v := .bool _) rfl) rfl ?_
 refine AOL.nil (thenN ?_)
 refine AW.seq ?_
 refine AW.seq (AW.region ?_)
 refine AOL.p (P_move (v := .val _) rfl) rfl ?_
 refine AOL.p (P_move (v := .str _) rfl) rfl ?_
 refine AOL.pk (P_callf_k (k := 0) (by kernel_rfl) rfl rfl (p_is _ _ _ (by simpa using hS) (by first | assumption | decide))) rfl rfl ?_
 refine AOL.p (P_not rfl) rfl ?_
 refine AOL.nil (thenN ?_)
 refine AW.cond (b := _) rfl (fun hc1 => ?_) (fun hc1 => ?_)
 ·
  try simp only [Bool.not_eq_true', Bool.not_eq_false'] at hc1
  refine AW.seq (AW.region ?_)
  refine AOL.p (P_assign (v := .bool _) rfl) rfl ?_
  refine AOL.nil (thenN ?_)
  refine AW.ret ?_
  refine thenR ?_
  refine ⟨.inr rfl, [.bool _], .cons (.tmp _ _ rfl) <| .nil, _, .refl _, ?_⟩
  refine ⟨?_, congrArg (fun c => HO.box bp 70 c :: H) ?_⟩
  ·
   try simp only [resOf, accP, cSyn, List.map_cons, List.map_nil, encS_eq, hc1, ↓reduceIte, Bool.false_eq_true, Bool.not_true, Bool.not_false]
   try rfl
  ·
   try simp only [cP, accP, hc1, ↓reduceIte, Bool.false_eq_true, Bool.not_true, Bool.not_false]
   try rfl
 ·
  try simp only [Bool.not_eq_true', Bool.not_eq_false'] at hc1
  have hlt := is_lt (w := w) (st := st) hc1
  have hml := hS.1
  refine AW.skip ?_
  refine thenN ?_
  refine AW.seq (AW.region ?_)
  refine AOL.p (P_move (v := .val _) rfl) rfl ?_
  refine AOL.p (P_nilCheck rfl) rfl ?_
  refine AOL.p (P_fieldAddr_val tok rfl rfl rfl rfl rfl rfl) rfl ?_
  refine AOL.pk (P_load_box (k := 0) (c := .int .i64 _) tok rfl rfl rfl rfl) rfl rfl ?_
  refine AOL.p (P_add rfl rfl rfl (by constructor <;> omega)) rfl ?_
  refine AOL.p (P_nilCheck rfl) rfl ?_
  refine AOL.p (P_fieldAddr_val tok rfl rfl rfl rfl rfl rfl) rfl ?_
  refine AOL.e (E_store (k := 0) (v := .int .i64 _) (cs' := [_, .int .i64 _, .int .i64 _, .int .i64 _, .int .i64 _, .int .i64 _]) (H2 := _ :: _) tok rfl rfl rfl rfl rfl rfl rfl rfl rfl) rfl ?_
  rintro _ _ ⟨rfl, rfl⟩
  refine AOL.nil (thenN ?_)
  refine AW.seq (AW.region ?_)
  refine AOL.p (P_assign (v := .bool _) rfl) rfl ?_
  refine AOL.nil (thenN ?_)
  refine AW.ret ?_
  refine ⟨.inr rfl, [.bool _], .cons (.tmp _ _ rfl) <| .nil, _, .refl _, ?_⟩
  refine ⟨?_, congrArg (fun c => HO.box bp 70 c :: H) ?_⟩
  ·
   try simp only [resOf, accP, cSyn, List.map_cons, List.map_nil, encS_eq, hc1, ↓reduceIte, Bool.false_eq_true, Bool.not_true, Bool.not_false]
   try rfl
  ·
   try simp only [cP, accP, hc1, ↓reduceIte, Bool.false_eq_true, Bool.not_true, Bool.not_false]
   try rfl
set_option maxRecDepth 20000 in
set_option maxHeartbeats 400000 in
theorem p_fail (st : PS) (bp : Nat) (e : Int) : PCallS Tryz.prog 55 bp 70 (cP st) (cP (failP e st)) [.val (.pointer (some ⟨bp, 0, none⟩)), .int .i64 e] (.tuple []) := by
 intro H
 refine ACall.body (n := 18) tok Tryz.func55 rfl rfl rfl ?_
 refine AW.seq (AW.region ?_)
 refine AOL.p (P_move (v := .val _) rfl) rfl ?_
 refine AOL.p (P_nilCheck rfl) rfl ?_
 refine AOL.p (P_fieldAddr_val tok rfl rfl rfl rfl rfl rfl) rfl ?_
 refine AOL.pk (P_load_box (k := 0) (c := .int .i64 _) tok rfl rfl rfl rfl) rfl rfl ?_
 refine AOL.p (P_eql rfl rfl) rfl ?_
 refine AOL.nil (thenN ?_)
 refine AW.cond (b := _) rfl (fun hc1 => ?_) (fun hc1 => ?_)
 ·
  try simp only [Bool.not_eq_true', Bool.not_eq_false'] at hc1
  refine AW.region ?_
  refine AOL.p (P_move (v := .val _) rfl) rfl ?_
  refine AOL.p (P_move (v := .val _) rfl) rfl ?_
  refine AOL.p (P_move (v := .int .i64 _) rfl) rfl ?_
  refine AOL.p (P_move (v := .val _) rfl) rfl ?_
  refine AOL.pk (P_callf_k (k := 0) (by kernel_rfl) rfl rfl (p_offset _ _)) rfl rfl ?_
  refine AOL.p (P_nilCheck rfl) rfl ?_
  refine AOL.p (P_fieldAddr_val tok rfl rfl rfl rfl rfl rfl) rfl ?_
  refine AOL.e (E_store (k := 0) (v := .int .i64 _) (cs' := [_, .int .i64 _, .int .i64 _, .int .i64 _, .int .i64 _, .int .i64 _]) (H2 := _ :: _) tok rfl rfl rfl rfl rfl rfl rfl rfl rfl) rfl ?_
  rintro _ _ ⟨rfl, rfl⟩
  refine AOL.p (P_nilCheck rfl) rfl ?_
  refine AOL.p (P_fieldAddr_val tok rfl rfl rfl rfl rfl rfl) rfl ?_
  refine AOL.e (E_store (k := 0) (v := .int .i64 _) (cs' := [_, .int .i64 _, .int .i64 _, .int .i64 _, .int .i64 _, .int .i64 _]) (H2 := _ :: _) tok rfl rfl rfl rfl rfl rfl rfl rfl rfl) rfl ?_
  rintro _ _ ⟨rfl, rfl⟩
  refine AOL.nil ?_
  refine ⟨.inl rfl, [], .nil, _, .refl _, ?_⟩
  refine ⟨?_, congrArg (fun c => HO.box bp 70 c :: H) ?_⟩
  ·
   try simp only [resOf, failP, cSyn, List.map_cons, List.map_nil, encS_eq, hc1, ↓reduceIte, Bool.false_eq_true, Bool.not_true, Bool.not_false]
   try rfl
  ·
   try simp only [cP, failP, hc1, ↓reduceIte, Bool.false_eq_true, Bool.not_true, Bool.not_false]
   try rfl
 ·
  try simp only [Bool.not_eq_true', Bool.not_eq_false'] at hc1
  refine AW.skip ?_
  refine ⟨.inl rfl, [], .nil, _, .refl _, ?_⟩
  refine ⟨?_, congrArg (fun c => HO.box bp 70 c :: H) ?_⟩
  ·
   try simp only [resOf, failP, cSyn, List.map_cons, List.map_nil, encS_eq, hc1, ↓reduceIte, Bool.false_eq_true, Bool.not_true, Bool.not_false]
   try rfl
  ·
   try simp only [cP, failP, hc1, ↓reduceIte, Bool.false_eq_true, Bool.not_true, Bool.not_false]
   try rfl
set_option maxRecDepth 20000 in
set_option maxHeartbeats 400000 in
theorem p_expect (st : PS) (bp : Nat) (w : Str) (hS : okS st) (hw : w.length ≤ 1048576) : PCallS Tryz.prog 103 bp 70 (cP st) (cP (expP w st)) [.val (.pointer (some ⟨bp, 0, none⟩)), .str w] (.tuple []) := by
 intro H
 refine ACall.body (n := 17) tok Tryz.func103 rfl rfl rfl ?_
 refine AW.seq (AW.region ?_)
 refine AOL.p (P_move (v := .val _) rfl) rfl ?_
 refine AOL.p (P_nilCheck rfl) rfl ?_
 refine AOL.p (P_fieldAddr_val tok rfl rfl rfl rfl rfl rfl) rfl ?_
 refine AOL.pk (P_load_box (k := 0) (c := .int .i64 _) tok rfl rfl rfl rfl) rfl rfl ?_
 refine AOL.p (P_eql rfl rfl) rfl ?_
 refine AOL.p (P_move (v := .bool _) rfl) rfl ?_
 refine AOL.g (y := .val _) _ [] rfl (EntL.all trivial) (fun hG => P_move (v := .val _) rfl) rfl ?_
 refine AOL.g (y := .str _) _ [] rfl (EntL.all trivial) (fun hG => P_move (v := .str _) rfl) rfl ?_
 refine AOL.ge _ [(10, _), (11, _)] rfl (EntL.all ⟨Ent.self _ _, Ent.self _ _, trivial⟩) (fun hG => E_callf (by kernel_rfl) rfl rfl ((p_accept _ _ _ (by simpa using hS) (by first | assumption | decide)).at (k := 0) (H2 := _ :: _) rfl rfl)) (fun hG => congrArg (fun s => HO.box bp 70 (cP s) :: H) (acc_bad hG)) rfl ?_
 refine AOL.g (y := .bool _) _ [(12, _)] rfl (EntL.all ⟨Ent.self _ _, trivial⟩) (fun hG => P_not rfl) rfl ?_
 refine AOL.p (P_pick_and rfl rfl rfl) rfl ?_
 refine AOL.nil (thenN ?_)
 refine AW.cond (b := _) rfl (fun hc1 => ?_) (fun hc1 => ?_)
 ·
  try simp only [Bool.not_eq_true', Bool.not_eq_false'] at hc1
  refine AW.region ?_
  refine AOL.p (P_move (v := .val _) rfl) rfl ?_
  refine AOL.e (E_callf (by kernel_rfl) rfl rfl ((p_fail _ _ _).at (k := 0) (H2 := _ :: _) rfl rfl)) rfl ?_
  rintro _ _ ⟨rfl, rfl⟩
  refine AOL.nil ?_
  refine ⟨.inl rfl, [], .nil, _, .refl _, ?_⟩
  refine ⟨?_, congrArg (fun c => HO.box bp 70 c :: H) ?_⟩
  ·
   try simp only [resOf, expP, cSyn, List.map_cons, List.map_nil, encS_eq, hc1, ↓reduceIte, Bool.false_eq_true, Bool.not_true, Bool.not_false]
   try rfl
  ·
   try simp only [cP, expP, acc_no (by simpa using and_snd hc1), hc1, ↓reduceIte, Bool.false_eq_true, Bool.not_true, Bool.not_false]
   try rfl
 ·
  try simp only [Bool.not_eq_true', Bool.not_eq_false'] at hc1
  refine AW.skip ?_
  refine ⟨.inl rfl, [], .nil, _, .refl _, ?_⟩
  refine ⟨?_, congrArg (fun c => HO.box bp 70 c :: H) ?_⟩
  ·
   try simp only [resOf, expP, cSyn, List.map_cons, List.map_nil, encS_eq, hc1, ↓reduceIte, Bool.false_eq_true, Bool.not_true, Bool.not_false]
   try rfl
  ·
   try simp only [cP, expP, hc1, ↓reduceIte, Bool.false_eq_true, Bool.not_true, Bool.not_false]
   try rfl
set_option maxRecDepth 20000 in
set_option maxHeartbeats 400000 in
theorem p_next (st : PS) (bp : Nat) (k : Int) (hS : okS st) : PCallS Tryz.prog 158 bp 70 (cP st) (cP (st)) [.val (.pointer (some ⟨bp, 0, none⟩)), .int .i64 k] (.bool (nxtP k st)) := by
 intro H
 refine ACall.body (n := 47) tok Tryz.func158 rfl rfl rfl ?_
 refine AW.seq (AW.region ?_)
 refine AOL.p (P_assign (v := .bool _) rfl) rfl ?_
 refine AOL.nil (thenN ?_)
 refine AW.seq ?_
 refine AW.seq ?_
 refine AW.draw mixed (fun H' => _ ∈ H') (List.mem_of_getElem? (i := 0) rfl) (by kernel_rfl) ?_
 refine Canon.pure _ _ 0 _ _ rfl (by kernel_rfl) (by kernel_rfl) rfl (.run rfl (P_move (v := .val _) rfl)) ?_
 refine Canon.pure _ _ 1 _ _ rfl (by kernel_rfl) (by kernel_rfl) rfl (.run rfl (P_nilCheck rfl)) ?_
 refine Canon.pure _ _ 2 _ _ rfl (by kernel_rfl) (by kernel_rfl) rfl (.run rfl (P_fieldAddr_val tok rfl rfl rfl rfl rfl rfl)) ?_
 refine Canon.pure _ _ 3 _ _ rfl (by kernel_rfl) (by kernel_rfl) rfl (.run rfl (OpP.mem (fun k => P_load_box (k := k) (c := .int .i64 _) tok rfl rfl rfl rfl) (fun _ h => h))) ?_
 refine Canon.pure _ _ 4 _ _ rfl (by kernel_rfl) (by kernel_rfl) rfl (.run rfl (P_neq rfl rfl)) ?_
 refine Canon.pure _ _ 5 _ _ rfl (by kernel_rfl) (by kernel_rfl) rfl (.run rfl (P_move (v := .bool _) rfl)) ?_
 refine Canon.pure _ _ 6 _ _ rfl (by kernel_rfl) (by kernel_rfl) rfl (.opt _ (.val _) [] rfl (EntL.all trivial) (fun hG => P_move (v := .val _) rfl) rfl) ?_
 refine Canon.pure _ _ 7 _ _ rfl (by kernel_rfl) (by kernel_rfl) rfl (.opt _ (.val _) [(12, _)] rfl (EntL.all ⟨Ent.self _ _, trivial⟩) (fun hG => P_nilCheck rfl) rfl) ?_
 refine Canon.pure _ _ 8 _ _ rfl (by kernel_rfl) (by kernel_rfl) rfl (.opt _ (.val _) [(13, _)] rfl (EntL.all ⟨Ent.self _ _, trivial⟩) (fun hG => P_fieldAddr_val tok rfl rfl rfl rfl rfl rfl) rfl) ?_
 refine Canon.pure _ _ 9 _ _ rfl (by kernel_rfl) (by kernel_rfl) rfl (.opt _ (.int .i64 _) [(14, _)] rfl (EntL.all ⟨Ent.self _ _, trivial⟩) (fun hG => OpP.mem (fun k => P_load_box (k := k) (c := .int .i64 _) tok rfl rfl rfl rfl) (fun _ h => h)) rfl) ?_
 refine Canon.pure _ _ 10 _ _ rfl (by kernel_rfl) (by kernel_rfl) rfl (.opt _ (.val _) [] rfl (EntL.all trivial) (fun hG => P_move (v := .val _) rfl) rfl) ?_
 refine Canon.pure _ _ 11 _ _ rfl (by kernel_rfl) (by kernel_rfl) rfl (.opt _ (.val _) [(16, _)] rfl (EntL.all ⟨Ent.self _ _, trivial⟩) (fun hG => P_nilCheck rfl) rfl) ?_
 refine Canon.pure _ _ 12 _ _ rfl (by kernel_rfl) (by kernel_rfl) rfl (.opt _ (.val _) [(17, _)] rfl (EntL.all ⟨Ent.self _ _, trivial⟩) (fun hG => P_fieldAddr_val tok rfl rfl rfl rfl rfl rfl) rfl) ?_
 refine Canon.pure _ _ 13 _ _ rfl (by kernel_rfl) (by kernel_rfl) rfl (.opt _ (.sl _ _) [(18, _)] rfl (EntL.all ⟨Ent.self _ _, trivial⟩) (fun hG => OpP.mem (fun k => P_load_box (k := k) (c := .sl _ _) tok rfl rfl rfl rfl) (fun _ h => h)) rfl) ?_
 refine Canon.pure _ _ 14 _ _ rfl (by kernel_rfl) (by kernel_rfl) rfl (.opt _ (.int .i64 _) [(19, _)] rfl (EntL.all ⟨Ent.self _ _, trivial⟩) (fun hG => P_len_sl (n := st.toks.length) tok rfl rfl rfl (by simp)) rfl) ?_
 refine Canon.pure _ _ 15 _ _ rfl (by kernel_rfl) (by kernel_rfl) rfl (.opt _ (.bool _) [(15, _), (20, _)] rfl (EntL.all ⟨Ent.self _ _, Ent.self _ _, trivial⟩) (fun hG => P_geq rfl rfl) rfl) ?_
 refine Canon.pure _ _ 16 _ _ rfl (by kernel_rfl) (by kernel_rfl) rfl (.run rfl (P_pick_or rfl rfl rfl)) ?_
 refine Canon.done _ _ (by kernel_rfl) ?_
 refine thenN ?_
 refine AW.cond (b := _) rfl (fun hc1 => ?_) (fun hc1 => ?_)
 ·
  try simp only [Bool.not_eq_true', Bool.not_eq_false'] at hc1
  refine AW.seq (AW.region ?_)
  refine AOL.p (P_assign (v := .bool _) rfl) rfl ?_
  refine AOL.nil (thenN ?_)
  refine AW.ret ?_
  refine thenR ?_
  refine ⟨.inr rfl, [.bool _], .cons (.tmp _ _ rfl) <| .nil, _, .refl _, ?_⟩
  refine ⟨?_, congrArg (fun c => HO.box bp 70 c :: H) ?_⟩
  ·
   try simp only [resOf, nxtP, endP, cSyn, List.map_cons, List.map_nil, encS_eq, hc1, ↓reduceIte, Bool.false_eq_true, Bool.not_true, Bool.not_false]
   try rfl
  ·
   try simp only [cP, nxtP, endP, hc1, ↓reduceIte, Bool.false_eq_true, Bool.not_true, Bool.not_false]
   try rfl
 ·
  try simp only [Bool.not_eq_true', Bool.not_eq_false'] at hc1
  have hlt := not_end (st := st) hc1
  refine AW.skip ?_
  refine thenN ?_
  refine AW.seq ?_
  refine AW.draw mixed (fun H' => _ ∈ H') (List.mem_of_getElem? (i := 0) rfl) (by kernel_rfl) ?_
  refine Canon.pure _ _ 0 _ _ rfl (by kernel_rfl) (by kernel_rfl) rfl (.run rfl (P_move (v := .val _) rfl)) ?_
  refine Canon.pure _ _ 1 _ _ rfl (by kernel_rfl) (by kernel_rfl) rfl (.run rfl (P_nilCheck rfl)) ?_
  refine Canon.pure _ _ 2 _ _ rfl (by kernel_rfl) (by kernel_rfl) rfl (.run rfl (P_fieldAddr_val tok rfl rfl rfl rfl rfl rfl)) ?_
  refine Canon.pure _ _ 3 _ _ rfl (by kernel_rfl) (by kernel_rfl) rfl (.run rfl (OpP.mem (fun k => P_load_box (k := k) (c := .sl _ _) tok rfl rfl rfl rfl) (fun _ h => h))) ?_
  refine Canon.pure _ _ 4 _ _ rfl (by kernel_rfl) (by kernel_rfl) rfl (.run rfl (P_move (v := .val _) rfl)) ?_
  refine Canon.pure _ _ 5 _ _ rfl (by kernel_rfl) (by kernel_rfl) rfl (.run rfl (P_nilCheck rfl)) ?_
  refine Canon.pure _ _ 6 _ _ rfl (by kernel_rfl) (by kernel_rfl) rfl (.run rfl (P_fieldAddr_val tok rfl rfl rfl rfl rfl rfl)) ?_
  refine Canon.pure _ _ 7 _ _ rfl (by kernel_rfl) (by kernel_rfl) rfl (.run rfl (OpP.mem (fun k => P_load_box (k := k) (c := .int .i64 _) tok rfl rfl rfl rfl) (fun _ h => h))) ?_
  refine Canon.pure _ _ 8 _ _ rfl (by kernel_rfl) (by kernel_rfl) rfl (.run rfl (P_indexAddr (c := [.int .i64 _, .str _, .int .i64 _]) tok rfl rfl rfl rfl rfl rfl (by omega) (at_cells hlt))) ?_
  refine Canon.pure _ _ 9 _ _ rfl (by kernel_rfl) (by kernel_rfl) rfl (.run rfl (P_load_ptr_agg (l := [.int .i64 _, .str _, .int .i64 _]) tok rfl rfl rfl rfl rfl)) ?_
  refine Canon.eff _ _ 10 _ _ rfl (by kernel_rfl) rfl rfl (E_alloc (l := [.int .i64 0, .str [], .int .i64 0]) (by kernel_rfl)) (by rintro _ _ ⟨b5, rfl, rfl⟩; simp) ?_
  rintro _ _ ⟨b5, rfl, rfl⟩
  refine Canon.last _ _ 11 _ _ rfl (by kernel_rfl) rfl rfl (E_store (k := 0) (v := .agg _) (cs' := [.int .i64 _, .str _, .int .i64 _]) (H2 := _ :: _ :: _) tok rfl rfl rfl rfl rfl rfl rfl rfl rfl) (by kernel_rfl) ?_
  rintro _ _ ⟨rfl, rfl⟩
  refine thenN ?_
  refine AW.ghost (GS.freeze (t := 5) 0 rfl rfl) ?_
  refine AW.seq (AW.region ?_)
  refine AOL.p (P_fieldAddr_ptr (cs' := [.int .i64 _, .str _, .int .i64 _]) tok rfl rfl rfl rfl rfl rfl) rfl ?_
  refine AOL.p (P_load_ptr (c := .int .i64 _) tok rfl rfl rfl) rfl ?_
  refine AOL.p (P_move (v := .int .i64 _) rfl) rfl ?_
  refine AOL.p (P_eql rfl rfl) rfl ?_
  refine AOL.p (P_move (v := .bool _) rfl) rfl ?_
  refine AOL.g (y := .int .i64 _) _ [] rfl (EntL.all trivial) (fun hG => P_move (v := .int .i64 _) rfl) rfl ?_
  refine AOL.g (y := .bool _) _ [(38, _)] rfl (EntL.all ⟨Ent.self _ _, trivial⟩) (fun hG => P_neq rfl rfl) rfl ?_
  refine AOL.g (y := .bool _) _ [(39, _)] rfl (EntL.all ⟨Ent.self _ _, trivial⟩) (fun hG => P_move (v := .bool _) rfl) rfl ?_
  refine AOL.g (y := .ptr _) _ [] rfl (EntL.all trivial) (fun hG => P_fieldAddr_ptr (cs' := [.str _, .int .i64 _]) tok rfl rfl rfl rfl rfl rfl) rfl ?_
  refine AOL.g (y := .str _) _ [(41, _)] rfl (EntL.all ⟨Ent.self _ _, trivial⟩) (fun hG => P_load_ptr (c := .str _) tok rfl rfl rfl) rfl ?_
  refine AOL.g (y := .bool _) _ [(42, _)] rfl (EntL.all ⟨Ent.self _ _, trivial⟩) (fun hG => P_callf (by kernel_rfl) rfl rfl (c22 (tkS st).text (okS_text hS hlt))) rfl ?_
  refine AOL.g (y := .bool _) _ [(43, _)] rfl (EntL.all ⟨Ent.self _ _, trivial⟩) (fun hG => P_not rfl) rfl ?_
  refine AOL.g (y := .bool _) _ [(40, _), (44, _)] rfl (EntL.all ⟨Ent.self _ _, Ent.suf _ _ _, trivial⟩) (fun hG => P_pick_or rfl rfl rfl) rfl ?_
  refine AOL.p (P_pick_and rfl rfl rfl) rfl ?_
  refine AOL.p (P_assign (v := .bool _) rfl) rfl ?_
  refine AOL.nil (thenN ?_)
  refine AW.ret ?_
  refine ⟨.inr rfl, [.bool _], .cons (.tmp _ _ rfl) <| .nil, _, .refl _, ?_⟩
  refine ⟨?_, congrArg (fun c => HO.box bp 70 c :: H) ?_⟩
  ·
   try simp only [resOf, nxtP, endP, cSyn, List.map_cons, List.map_nil, encS_eq, hc1, ↓reduceIte, Bool.false_eq_true, Bool.not_true, Bool.not_false]
   try rfl
  ·
   try simp only [cP, nxtP, endP, hc1, ↓reduceIte, Bool.false_eq_true, Bool.not_true, Bool.not_false]
   try rfl
set_option maxRecDepth 20000 in
set_option maxHeartbeats 400000 in
theorem p_token (st : PS) (bp : Nat) (k : Int) (hS : okS st) : PCallS Tryz.prog 137 bp 70 (cP st) (cP (tokP k st)) [.val (.pointer (some ⟨bp, 0, none⟩)), .int .i64 k] (.tuple [.str (txtP k st), .bool (nxtP k st)]) := by
 intro H
 refine ACall.body (n := 31) tok Tryz.func137 rfl rfl rfl ?_
 refine AW.seq (AW.region ?_)
 refine AOL.p (P_assign (v := .str _) rfl) rfl ?_
 refine AOL.p (P_assign (v := .bool _) rfl) rfl ?_
 refine AOL.nil (thenN ?_)
 refine AW.seq ?_
 refine AW.seq (AW.region ?_)
 refine AOL.p (P_move (v := .val _) rfl) rfl ?_
 refine AOL.p (P_move (v := .int .i64 _) rfl) rfl ?_
 refine AOL.pk (P_callf_k (k := 0) (by kernel_rfl) rfl rfl (p_next _ _ _ (by simpa using hS))) rfl rfl ?_
 refine AOL.p (P_not rfl) rfl ?_
 refine AOL.nil (thenN ?_)
 refine AW.cond (b := _) rfl (fun hc1 => ?_) (fun hc1 => ?_)
 ·
  try simp only [Bool.not_eq_true', Bool.not_eq_false'] at hc1
  refine AW.seq (AW.region ?_)
  refine AOL.p (P_move (v := .val _) rfl) rfl ?_
  refine AOL.e (E_callf (by kernel_rfl) rfl rfl ((p_fail _ _ _).at (k := 0) (H2 := _ :: _) rfl rfl)) rfl ?_
  rintro _ _ ⟨rfl, rfl⟩
  refine AOL.nil (thenN ?_)
  refine AW.seq (AW.region ?_)
  refine AOL.p (P_assign (v := .str _) rfl) rfl ?_
  refine AOL.p (P_assign (v := .bool _) rfl) rfl ?_
  refine AOL.nil (thenN ?_)
  refine AW.ret ?_
  refine thenR ?_
  refine ⟨.inr rfl, [.str _, .bool _], .cons (.tmp _ _ rfl) <| .cons (.tmp _ _ rfl) <| .nil, _, .refl _, ?_⟩
  refine ⟨?_, congrArg (fun c => HO.box bp 70 c :: H) ?_⟩
  ·
   try simp only [resOf, tokP, txtP, cSyn, List.map_cons, List.map_nil, encS_eq, hc1, ↓reduceIte, Bool.false_eq_true, Bool.not_true, Bool.not_false]
   try rfl
  ·
   try simp only [cP, tokP, txtP, hc1, ↓reduceIte, Bool.false_eq_true, Bool.not_true, Bool.not_false]
   try rfl
 ·
  try simp only [Bool.not_eq_true', Bool.not_eq_false'] at hc1
  have hlt := nxt_lt (k := k) (st := st) hc1
  have hml := hS.1
  refine AW.skip ?_
  refine thenN ?_
  refine AW.seq (AW.region ?_)
  refine AOL.p (P_move (v := .val _) rfl) rfl ?_
  refine AOL.p (P_nilCheck rfl) rfl ?_
  refine AOL.p (P_fieldAddr_val tok rfl rfl rfl rfl rfl rfl) rfl ?_
  refine AOL.pk (P_load_box (k := 0) (c := .int .i64 _) tok rfl rfl rfl rfl) rfl rfl ?_
  refine AOL.p (P_add rfl rfl rfl (by constructor <;> omega)) rfl ?_
  refine AOL.p (P_nilCheck rfl) rfl ?_
  refine AOL.p (P_fieldAddr_val tok rfl rfl rfl rfl rfl rfl) rfl ?_
  refine AOL.e (E_store (k := 0) (v := .int .i64 _) (cs' := [_, .int .i64 _, .int .i64 _, .int .i64 _, .int .i64 _, .int .i64 _]) (H2 := _ :: _) tok rfl rfl rfl rfl rfl rfl rfl rfl rfl) rfl ?_
  rintro _ _ ⟨rfl, rfl⟩
  refine AOL.nil (thenN ?_)
  refine AW.seq ?_
  refine AW.draw mixed (fun H' => _ ∈ H') (List.mem_of_getElem? (i := 0) rfl) (by kernel_rfl) ?_
  refine Canon.pure _ _ 0 _ _ rfl (by kernel_rfl) (by kernel_rfl) rfl (.run rfl (P_move (v := .val _) rfl)) ?_
  refine Canon.pure _ _ 1 _ _ rfl (by kernel_rfl) (by kernel_rfl) rfl (.run rfl (P_nilCheck rfl)) ?_
  refine Canon.pure _ _ 2 _ _ rfl (by kernel_rfl) (by kernel_rfl) rfl (.run rfl (P_fieldAddr_val tok rfl rfl rfl rfl rfl rfl)) ?_
  refine Canon.pure _ _ 3 _ _ rfl (by kernel_rfl) (by kernel_rfl) rfl (.run rfl (OpP.mem (fun k => P_load_box (k := k) (c := .sl _ _) tok rfl rfl rfl rfl) (fun _ h => h))) ?_
  refine Canon.pure _ _ 4 _ _ rfl (by kernel_rfl) (by kernel_rfl) rfl (.run rfl (P_move (v := .val _) rfl)) ?_
  refine Canon.pure _ _ 5 _ _ rfl (by kernel_rfl) (by kernel_rfl) rfl (.run rfl (P_nilCheck rfl)) ?_
  refine Canon.pure _ _ 6 _ _ rfl (by kernel_rfl) (by kernel_rfl) rfl (.run rfl (P_fieldAddr_val tok rfl rfl rfl rfl rfl rfl)) ?_
  refine Canon.pure _ _ 7 _ _ rfl (by kernel_rfl) (by kernel_rfl) rfl (.run rfl (OpP.mem (fun k => P_load_box (k := k) (c := .int .i64 _) tok rfl rfl rfl rfl) (fun _ h => h))) ?_
  refine Canon.pure _ _ 8 _ _ rfl (by kernel_rfl) (by kernel_rfl) rfl (.run rfl (P_sub rfl rfl rfl (by constructor <;> omega))) ?_
  refine Canon.pure _ _ 9 _ _ rfl (by kernel_rfl) (by kernel_rfl) rfl (.run rfl (P_indexAddr (c := [.int .i64 _, .str _, .int .i64 _]) tok rfl rfl rfl rfl rfl rfl (by omega) (by rw [show ((st.pos : Int) + 1 - 1).toNat = st.pos by omega]; exact at_cells hlt))) ?_
  refine Canon.pure _ _ 10 _ _ rfl (by kernel_rfl) (by kernel_rfl) rfl (.run rfl (P_fieldAddr_ptr (cs' := [.str _, .int .i64 _]) tok rfl rfl rfl rfl rfl rfl)) ?_
  refine Canon.pure _ _ 11 _ _ rfl (by kernel_rfl) (by kernel_rfl) rfl (.run rfl (P_load_ptr (c := .str _) tok rfl rfl rfl)) ?_
  refine Canon.pure _ _ 12 _ _ rfl (by kernel_rfl) (by kernel_rfl) rfl (.run rfl (P_assign (v := .str _) rfl)) ?_
  refine Canon.pure _ _ 13 _ _ rfl (by kernel_rfl) (by kernel_rfl) rfl (.run rfl (P_assign (v := .bool _) rfl)) ?_
  refine Canon.done _ _ (by kernel_rfl) ?_
  refine thenN ?_
  refine AW.ret ?_
  refine ⟨.inr rfl, [.str _, .bool _], .cons (.tmp _ _ rfl) <| .cons (.tmp _ _ rfl) <| .nil, _, .refl _, ?_⟩
  refine ⟨?_, congrArg (fun c => HO.box bp 70 c :: H) ?_⟩
  ·
   try simp only [resOf, tokP, txtP, cSyn, List.map_cons, List.map_nil, encS_eq, hc1, ↓reduceIte, Bool.false_eq_true, Bool.not_true, Bool.not_false]
   try rfl
  ·
   try simp only [cP, tokP, txtP, hc1, ↓reduceIte, Bool.false_eq_true, Bool.not_true, Bool.not_false]
   try rfl
set_option maxRecDepth 20000 in
set_option maxHeartbeats 400000 in
theorem p_name (st : PS) (bp : Nat)  (hS : okS st) : PCallS Tryz.prog 104 bp 70 (cP st) (cP (tokP 0 st)) [.val (.pointer (some ⟨bp, 0, none⟩))] (.str (txtP 0 st)) := by
 intro H
 refine ACall.body (n := 11) tok Tryz.func104 rfl rfl rfl ?_
 refine AW.seq (AW.region ?_)
 refine AOL.p (P_assign (v := .str _) rfl) rfl ?_
 refine AOL.nil (thenN ?_)
 refine AW.seq (AW.region ?_)
 refine AOL.p (P_move (v := .val _) rfl) rfl ?_
 refine AOL.e (E_callf (by kernel_rfl) rfl rfl ((p_token _ _ _ (by simpa using hS)).at (k := 0) (H2 := _ :: _) rfl rfl)) rfl ?_
 rintro _ _ ⟨rfl, rfl⟩
 refine AOL.p (P_move (v := .tuple _) rfl) rfl ?_
 refine AOL.p (P_extract (v := .str _) rfl rfl) rfl ?_
 refine AOL.p (P_extract (v := .bool _) rfl rfl) rfl ?_
 refine AOL.p (P_assign (v := .str _) rfl) rfl ?_
 refine AOL.p (P_assign (v := .bool _) rfl) rfl ?_
 refine AOL.nil (thenN ?_)
 refine AW.seq (AW.region ?_)
 refine AOL.p (P_move (v := .str _) rfl) rfl ?_
 refine AOL.p (P_assign (v := .str _) rfl) rfl ?_
 refine AOL.nil (thenN ?_)
 refine AW.ret ?_
 refine ⟨.inr rfl, [.str _], .cons (.tmp _ _ rfl) <| .nil, _, .refl _, ?_⟩
 refine ⟨?_, congrArg (fun c => HO.box bp 70 c :: H) ?_⟩
 ·
  try simp only [resOf, cSyn, List.map_cons, List.map_nil, encS_eq, ↓reduceIte, Bool.false_eq_true, Bool.not_true, Bool.not_false]
  try rfl
 ·
  try simp only [cP, ↓reduceIte, Bool.false_eq_true, Bool.not_true, Bool.not_false]
  try rfl
set_option maxRecDepth 20000 in
set_option maxHeartbeats 400000 in
theorem p_number (st : PS) (bp : Nat)  (hS : okS st) : PCallS Tryz.prog 163 bp 70 (cP st) (cP (tokP 1 st)) [.val (.pointer (some ⟨bp, 0, none⟩))] (.int .i64 (numP st)) := by
 intro H
 refine ACall.body (n := 20) tok Tryz.func163 rfl rfl rfl ?_
 refine AW.seq (AW.region ?_)
 refine AOL.p (P_assign (v := .int .i64 _) rfl) rfl ?_
 refine AOL.nil (thenN ?_)
 refine AW.seq (AW.region ?_)
 refine AOL.p (P_move (v := .val _) rfl) rfl ?_
 refine AOL.e (E_callf (by kernel_rfl) rfl rfl ((p_token _ _ _ (by simpa using hS)).at (k := 0) (H2 := _ :: _) rfl rfl)) rfl ?_
 rintro _ _ ⟨rfl, rfl⟩
 refine AOL.p (P_move (v := .tuple _) rfl) rfl ?_
 refine AOL.p (P_extract (v := .str _) rfl rfl) rfl ?_
 refine AOL.p (P_extract (v := .bool _) rfl rfl) rfl ?_
 refine AOL.p (P_assign (v := .str _) rfl) rfl ?_
 refine AOL.p (P_assign (v := .bool _) rfl) rfl ?_
 refine AOL.nil (thenN ?_)
 refine AW.seq ?_
 refine AW.seq (AW.region ?_)
 refine AOL.p (P_move (v := .bool _) rfl) rfl ?_
 refine AOL.p (P_not rfl) rfl ?_
 refine AOL.nil (thenN ?_)
 refine AW.cond (b := _) rfl (fun hc1 => ?_) (fun hc1 => ?_)
 ·
  try simp only [Bool.not_eq_true', Bool.not_eq_false'] at hc1
  refine AW.seq (AW.region ?_)
  refine AOL.p (P_assign (v := .int .i64 _) rfl) rfl ?_
  refine AOL.nil (thenN ?_)
  refine AW.ret ?_
  refine thenR ?_
  refine ⟨.inr rfl, [.int .i64 _], .cons (.tmp _ _ rfl) <| .nil, _, .refl _, ?_⟩
  refine ⟨?_, congrArg (fun c => HO.box bp 70 c :: H) ?_⟩
  ·
   try simp only [resOf, numP, txtP, cSyn, List.map_cons, List.map_nil, encS_eq, hc1, ↓reduceIte, Bool.false_eq_true, Bool.not_true, Bool.not_false]
   try rfl
  ·
   try simp only [cP, numP, txtP, hc1, ↓reduceIte, Bool.false_eq_true, Bool.not_true, Bool.not_false]
   try rfl
 ·
  try simp only [Bool.not_eq_true', Bool.not_eq_false'] at hc1
  refine AW.skip ?_
  refine thenN ?_
  refine AW.seq (AW.region ?_)
  refine AOL.p (P_move (v := .str _) rfl) rfl ?_
  refine AOL.p (P_callf (by kernel_rfl) rfl rfl (c18 _ (txt_le hS))) rfl ?_
  refine AOL.p (P_move (v := .tuple _) rfl) rfl ?_
  refine AOL.p (P_extract (v := .int .i64 _) rfl rfl) rfl ?_
  refine AOL.p (P_extract (v := .int .i64 _) rfl rfl) rfl ?_
  refine AOL.p (P_assign (v := .int .i64 _) rfl) rfl ?_
  refine AOL.p (P_assign (v := .int .i64 _) rfl) rfl ?_
  refine AOL.nil (thenN ?_)
  refine AW.seq (AW.region ?_)
  refine AOL.p (P_move (v := .int .i64 _) rfl) rfl ?_
  refine AOL.p (P_assign (v := .int .i64 _) rfl) rfl ?_
  refine AOL.nil (thenN ?_)
  refine AW.ret ?_
  refine ⟨.inr rfl, [.int .i64 _], .cons (.tmp _ _ rfl) <| .nil, _, .refl _, ?_⟩
  refine ⟨?_, congrArg (fun c => HO.box bp 70 c :: H) ?_⟩
  ·
   try simp only [resOf, numP, txtP, cSyn, List.map_cons, List.map_nil, encS_eq, hc1, ↓reduceIte, Bool.false_eq_true, Bool.not_true, Bool.not_false]
   try rfl
  ·
   try simp only [cP, numP, txtP, hc1, ↓reduceIte, Bool.false_eq_true, Bool.not_true, Bool.not_false]
   try rfl

end Go.Proofs.YtabkeeedkhgodaaGreatDoor
