/-
  Walks: the checks of the reference of the printer. No condition.
-/
import Derived.Test.YtabkeeedkhgodaaGreatDoorW13i
import Derived.Test.YtabkeeedkhgodaaGreatDoorP5
import Derived.KernelRfl
namespace Go.Proofs.YtabkeeedkhgodaaGreatDoor
open Go Go.Aw
set_option linter.unusedVariables false
set_option linter.unusedSimpArgs false

def nmR (s : Str) : Bool := nameR s == 0
theorem nmR_eq (s : Str) : nmR s = nmS s := by unfold nmR nmS; rw [name_eq]
def standsR (k r : Int) : Bool :=
  if (r == 5) then isPat k else if (r == 7) then isExp k else if (r == 6) then (k == 5) else if (r == 8) then (k == 13) else if (r == 0) then (k == 0) else if (r == 1) then (k == 1) else if (r == 2) then (k == 2) else if (r == 3) then (k == 3) else (k == 4)
theorem stands_eq {p : Pl} (h : p.ok) (k : Int) : standsR k p.role = p.at k := by
  cases p with
  | pats => rfl
  | exps => rfl
  | only n => rcases h with rfl | rfl | rfl | rfl | rfl | rfl | rfl <;> rfl
def shapeR (t : Syn) : Bool :=
  if (t.kind == 0) || (t.kind == 1) then true
  else if (t.kind == 3) then decide (3 ≤ (t.kids.length : Int))
  else if (t.kind == 5) then decide ((t.kids.length : Int) ≤ 1)
  else if ((t.kind == 6) || (t.kind == 7)) || (t.kind == 8) then decide (2 ≤ (t.kids.length : Int))
  else if ((t.kind == 9) || (t.kind == 11)) || (t.kind == 18) then ((t.kids.length : Int) == 1)
  else if ((t.kind == 10) || (t.kind == 12)) || (t.kind == 17) then ((t.kids.length : Int) == 2)
  else if (t.kind == 16) then (((t.kids.length : Int) == 1) && (t.num != 1)) || (((t.kids.length : Int) == 0) && (t.num == 1))
  else ((t.kids.length : Int) == 0)
theorem shape_eq (t : Syn) : shapeR t = shapeC t := by
  have e : ((((t.kids.length : Int) == 1) && (t.num != 1)) || (((t.kids.length : Int) == 0) && (t.num == 1))) = if (t.num == 1) then ((t.kids.length : Int) == 0) else ((t.kids.length : Int) == 1) := by
    cases h : (t.num == 1) <;> simp [bne, h]
  unfold shapeR shapeC
  rw [e]
def namesR (t : Syn) : Bool :=
  if (((t.kind == 1) || (t.kind == 2)) || (t.kind == 3)) || (t.kind == 15) then nmS t.text
  else if (t.kind == 4) then (t.text == []) || nmS t.text
  else if (t.kind == 5) || (t.kind == 16) then nmS t.text && nmS t.name
  else if (t.kind == 14) then nmS t.text && ((t.name == w_ttime) || nmS t.name)
  else true
theorem kind_cases (k : Int) : (k = 0 ∨ k = 1 ∨ k = 2 ∨ k = 3 ∨ k = 4 ∨ k = 5 ∨ k = 6 ∨ k = 7 ∨ k = 8 ∨ k = 9 ∨ k = 10 ∨ k = 11 ∨ k = 12 ∨ k = 13 ∨ k = 14 ∨ k = 15 ∨ k = 16 ∨ k = 17 ∨ k = 18) ∨ (∀ n : Int, 0 ≤ n → n ≤ 18 → (k == n) = false) := by
  by_cases h : 0 ≤ k ∧ k ≤ 18
  · left; omega
  · right; intro n h0 h1; simp only [beq_eq_false_iff_ne]; omega
theorem names_eq (t : Syn) : namesR t = namedC t := by
  unfold namesR namedC usesC
  rcases kind_cases t.kind with h | h
  · rcases h with h | h | h | h | h | h | h | h | h | h | h | h | h | h | h | h | h | h | h <;> rw [h] <;> cases h1 : nmS t.text <;> cases h2 : nmS t.name <;> cases h3 : (t.text == []) <;> cases h4 : (t.name == w_ttime) <;> rfl
  · rw [h 1 (by decide) (by decide), h 2 (by decide) (by decide), h 3 (by decide) (by decide), h 4 (by decide) (by decide), h 5 (by decide) (by decide), h 14 (by decide) (by decide), h 15 (by decide) (by decide), h 16 (by decide) (by decide)]
    rfl
def constR' (t : Syn) : Int :=
  if (t.name == w_tint) then if (decide (t.num < -1099511627776) || decide (1099511627776 < t.num)) then 2 else if !(t.text == []) then 3 else 0
  else if (t.name == w_tbool) then if ((t.num != 0) && (t.num != 1)) then 2 else if !(t.text == []) then 3 else 0
  else if (t.name == w_tstring) then if decide (64 < (t.text.length : Int)) then 13 else if (t.num != 0) then 3 else 0
  else 1
theorem const_eq' (t : Syn) : constR' t = constC t := by
  have e : ((t.num != 0) && (t.num != 1)) = (decide (t.num < 0) || decide (1 < t.num)) := by
    rw [Bool.eq_iff_iff]
    simp only [Bool.and_eq_true, bne_iff_ne, Bool.or_eq_true, decide_eq_true_eq]
    omega
  unfold constR' constC
  rw [e]
def textU (k : Int) : Bool := (((((((k == 1) || (k == 2)) || (k == 3)) || (k == 4)) || (k == 5)) || (k == 14)) || (k == 15)) || (k == 16)
def nameU (k : Int) : Bool := ((k == 5) || (k == 14)) || (k == 16)
def tailR (t : Syn) (u : Int) : Int := if ((u != 0) || (!(textU t.kind) && !(t.text == []))) || (!(nameU t.kind) && !(t.name == [])) then 3 else 0
def numberR (t : Syn) : Int :=
  if (t.kind == 13) then constC t
  else if (t.kind == 2) then if (decide (t.num < 0) || decide (2 < t.num)) then 1 else tailR t 0
  else if (t.kind == 16) then if (decide (t.num < 1) || decide (5 < t.num)) then 1 else tailR t 0
  else if (t.kind == 17) then if (decide (t.num < 5) || decide (11 < t.num)) then 1 else tailR t 0
  else if (t.kind == 11) then if (decide (t.num < 0) || decide (1099511627776 < t.num)) then 2 else tailR t 0
  else tailR t t.num
theorem uses_eq (k : Int) : usesC k = (textU k, nameU k) := by
  unfold usesC textU nameU
  rcases kind_cases k with h | h
  · rcases h with h | h | h | h | h | h | h | h | h | h | h | h | h | h | h | h | h | h | h <;> rw [h] <;> rfl
  · rw [h 1 (by decide) (by decide), h 2 (by decide) (by decide), h 3 (by decide) (by decide), h 4 (by decide) (by decide), h 5 (by decide) (by decide), h 14 (by decide) (by decide), h 15 (by decide) (by decide), h 16 (by decide) (by decide)]
    rfl
theorem number_eq (t : Syn) : numberR t = fieldsC t := by
  unfold numberR fieldsC numC tailR
  rw [uses_eq]
  have e : (decide (t.num < 0) || decide (0 < t.num)) = (t.num != 0) := by
    rw [Bool.eq_iff_iff]
    simp only [bne_iff_ne, Bool.or_eq_true, decide_eq_true_eq]
    omega
  rw [e]
  cases h13 : (t.kind == 13)
  · cases h2 : (t.kind == 2)
    · cases h16 : (t.kind == 16)
      · cases h17 : (t.kind == 17)
        · cases h11 : (t.kind == 11)
          · cases hn : (t.num != 0) <;> simp
          · cases hn : (decide (t.num < 0) || decide (1099511627776 < t.num)) <;> simp
        · cases hn : (decide (t.num < 5) || decide (11 < t.num)) <;> simp
      · cases hn : (decide (t.num < 1) || decide (5 < t.num)) <;> simp
    · cases hn : (decide (t.num < 0) || decide (2 < t.num)) <;> simp
  · simp
def kidR (t : Syn) (i : Nat) : Int :=
  if (t.kind == 0) then if ((kidN t i).kind == 1) && (((i : Int) == 0) || ((kidN t (i - 1)).kind == 1)) then 1 else 3
  else if (t.kind == 1) then 2
  else if (t.kind == 3) then if decide ((i : Int) < 2) then 4 + (i : Int) else 7
  else if (t.kind == 10) then if ((i : Int) == 1) then 6 else 5
  else if (t.kind == 12) then if ((i : Int) == 1) then 7 else 5
  else if (t.kind == 16) then 8
  else if ((t.kind == 5) || (t.kind == 17)) || (t.kind == 18) then 7
  else 5
def closedR (p k : Int) : Bool := ((k == 17) && ((p == 17) || (p == 18))) || ((k == 18) && (p == 17))
theorem closed_eq (p k : Int) : closedR p k = closedC p k := by
  unfold closedR closedC
  cases h1 : (p == 17)
  · cases h2 : (p == 18) <;> cases (k == 17) <;> cases (k == 18) <;> rfl
  · have h2 : (p == 18) = false := by
      have : p = 17 := by simpa using h1
      rw [this]; rfl
    rw [h2]
    cases (k == 17) <;> cases (k == 18) <;> rfl
theorem kid_role (t : Syn) (i : Nat) : kidR t i = (kidC t i).role := by
  have e : (if decide ((i : Int) < 2) then 4 + (i : Int) else 7) = (if ((i : Int) == 0) then Pl.only 4 else if ((i : Int) == 1) then Pl.pats else Pl.exps).role := by
    match i with
    | 0 => rfl
    | 1 => rfl
    | n + 2 =>
      have h1 : decide (((n + 2 : Nat) : Int) < 2) = false := by simp; omega
      have h2 : (((n + 2 : Nat) : Int) == 0) = false := by simp; omega
      have h3 : (((n + 2 : Nat) : Int) == 1) = false := by simp; omega
      rw [h1, h2, h3]; rfl
  unfold kidR kidC
  rw [e]
  repeat' split
  all_goals rfl
theorem kid_fine (t : Syn) (i : Nat) : (kidC t i).ok := by
  unfold kidC
  repeat' split
  all_goals simp [Pl.ok]

set_option maxRecDepth 20000 in
set_option maxHeartbeats 400000 in
theorem r_isPat (k : Int) : APure Tryz.prog 88 [.int .i64 k] (.bool (isPat k)) := by
 refine APure.body (n := 9) tok Tryz.func88 rfl rfl rfl fun H => ?_
 refine AW.seq (AW.region ?_)
 refine AOL.p (P_assign (v := .bool _) rfl) rfl ?_
 refine AOL.nil (thenN ?_)
 refine AW.seq (AW.region ?_)
 refine AOL.p (P_move (v := .int .i64 _) rfl) rfl ?_
 refine AOL.p (P_geq rfl rfl) rfl ?_
 refine AOL.p (P_move (v := .bool _) rfl) rfl ?_
 refine AOL.g (y := .int .i64 _) _ [] rfl (EntL.all trivial) (fun hG => P_move (v := .int .i64 _) rfl) rfl ?_
 refine AOL.g (y := .bool _) _ [(6, _)] rfl (EntL.all ⟨Ent.self _ _, trivial⟩) (fun hG => P_leq rfl rfl) rfl ?_
 refine AOL.p (P_pick_and rfl rfl rfl) rfl ?_
 refine AOL.p (P_assign (v := .bool _) rfl) rfl ?_
 refine AOL.nil (thenN ?_)
 refine AW.ret ?_
 refine ⟨.inr rfl, [.bool _], .cons (.tmp _ _ rfl) <| .nil, .refl _, ?_⟩
 rfl
set_option maxRecDepth 20000 in
set_option maxHeartbeats 400000 in
theorem r_isExp (k : Int) : APure Tryz.prog 126 [.int .i64 k] (.bool (isExp k)) := by
 refine APure.body (n := 9) tok Tryz.func126 rfl rfl rfl fun H => ?_
 refine AW.seq (AW.region ?_)
 refine AOL.p (P_assign (v := .bool _) rfl) rfl ?_
 refine AOL.nil (thenN ?_)
 refine AW.seq (AW.region ?_)
 refine AOL.p (P_move (v := .int .i64 _) rfl) rfl ?_
 refine AOL.p (P_geq rfl rfl) rfl ?_
 refine AOL.p (P_move (v := .bool _) rfl) rfl ?_
 refine AOL.g (y := .int .i64 _) _ [] rfl (EntL.all trivial) (fun hG => P_move (v := .int .i64 _) rfl) rfl ?_
 refine AOL.g (y := .bool _) _ [(6, _)] rfl (EntL.all ⟨Ent.self _ _, trivial⟩) (fun hG => P_leq rfl rfl) rfl ?_
 refine AOL.p (P_pick_and rfl rfl rfl) rfl ?_
 refine AOL.p (P_assign (v := .bool _) rfl) rfl ?_
 refine AOL.nil (thenN ?_)
 refine AW.ret ?_
 refine ⟨.inr rfl, [.bool _], .cons (.tmp _ _ rfl) <| .nil, .refl _, ?_⟩
 rfl
set_option maxRecDepth 20000 in
set_option maxHeartbeats 400000 in
theorem r_stands (k r : Int) : APure Tryz.prog 82 [.int .i64 k, .int .i64 r] (.bool (standsR k r)) := by
 refine APure.body (n := 40) tok Tryz.func82 rfl rfl rfl fun H => ?_
 refine AW.seq (AW.region ?_)
 refine AOL.p (P_assign (v := .bool _) rfl) rfl ?_
 refine AOL.nil (thenN ?_)
 refine AW.seq ?_
 refine AW.seq (AW.region ?_)
 refine AOL.p (P_move (v := .int .i64 _) rfl) rfl ?_
 refine AOL.nil (thenN ?_)
 refine AW.block ?_
 refine AW.seq (AW.region ?_)
 refine AOL.p (P_eql rfl rfl) rfl ?_
 refine AOL.p (P_assign (v := .bool _) rfl) rfl ?_
 refine AOL.nil (thenN ?_)
 refine AW.cond (b := _) rfl (fun hc1 => ?_) (fun hc1 => ?_)
 ·
  refine AW.seq (AW.region ?_)
  refine AOL.p (P_move (v := .int .i64 _) rfl) rfl ?_
  refine AOL.p (P_callf (by kernel_rfl) rfl rfl (r_isPat k)) rfl ?_
  refine AOL.p (P_assign (v := .bool _) rfl) rfl ?_
  refine AOL.nil (thenN ?_)
  refine AW.ret ?_
  refine blkR ?_
  refine thenR ?_
  refine ⟨.inr rfl, [.bool _], .cons (.tmp _ _ rfl) <| .nil, .refl _, ?_⟩
  simp only [resOf, standsR, hc1, ↓reduceIte, Bool.false_eq_true]
 ·
  refine AW.seq (AW.region ?_)
  refine AOL.p (P_eql rfl rfl) rfl ?_
  refine AOL.p (P_assign (v := .bool _) rfl) rfl ?_
  refine AOL.nil (thenN ?_)
  refine AW.cond (b := _) rfl (fun hc2 => ?_) (fun hc2 => ?_)
  ·
   refine AW.seq (AW.region ?_)
   refine AOL.p (P_move (v := .int .i64 _) rfl) rfl ?_
   refine AOL.p (P_callf (by kernel_rfl) rfl rfl (r_isExp k)) rfl ?_
   refine AOL.p (P_assign (v := .bool _) rfl) rfl ?_
   refine AOL.nil (thenN ?_)
   refine AW.ret ?_
   refine blkR ?_
   refine thenR ?_
   refine ⟨.inr rfl, [.bool _], .cons (.tmp _ _ rfl) <| .nil, .refl _, ?_⟩
   simp only [resOf, standsR, hc1, hc2, ↓reduceIte, Bool.false_eq_true]
  ·
   refine AW.seq (AW.region ?_)
   refine AOL.p (P_eql rfl rfl) rfl ?_
   refine AOL.p (P_assign (v := .bool _) rfl) rfl ?_
   refine AOL.nil (thenN ?_)
   refine AW.cond (b := _) rfl (fun hc3 => ?_) (fun hc3 => ?_)
   ·
    refine AW.seq (AW.region ?_)
    refine AOL.p (P_move (v := .int .i64 _) rfl) rfl ?_
    refine AOL.p (P_eql rfl rfl) rfl ?_
    refine AOL.p (P_assign (v := .bool _) rfl) rfl ?_
    refine AOL.nil (thenN ?_)
    refine AW.ret ?_
    refine blkR ?_
    refine thenR ?_
    refine ⟨.inr rfl, [.bool _], .cons (.tmp _ _ rfl) <| .nil, .refl _, ?_⟩
    simp only [resOf, standsR, hc1, hc2, hc3, ↓reduceIte, Bool.false_eq_true]
   ·
    refine AW.seq (AW.region ?_)
    refine AOL.p (P_eql rfl rfl) rfl ?_
    refine AOL.p (P_assign (v := .bool _) rfl) rfl ?_
    refine AOL.nil (thenN ?_)
    refine AW.cond (b := _) rfl (fun hc4 => ?_) (fun hc4 => ?_)
    ·
     refine AW.seq (AW.region ?_)
     refine AOL.p (P_move (v := .int .i64 _) rfl) rfl ?_
     refine AOL.p (P_eql rfl rfl) rfl ?_
     refine AOL.p (P_assign (v := .bool _) rfl) rfl ?_
     refine AOL.nil (thenN ?_)
     refine AW.ret ?_
     refine blkR ?_
     refine thenR ?_
     refine ⟨.inr rfl, [.bool _], .cons (.tmp _ _ rfl) <| .nil, .refl _, ?_⟩
     simp only [resOf, standsR, hc1, hc2, hc3, hc4, ↓reduceIte, Bool.false_eq_true]
    ·
     refine AW.seq (AW.region ?_)
     refine AOL.p (P_eql rfl rfl) rfl ?_
     refine AOL.p (P_assign (v := .bool _) rfl) rfl ?_
     refine AOL.nil (thenN ?_)
     refine AW.cond (b := _) rfl (fun hc5 => ?_) (fun hc5 => ?_)
     ·
      refine AW.seq (AW.region ?_)
      refine AOL.p (P_move (v := .int .i64 _) rfl) rfl ?_
      refine AOL.p (P_eql rfl rfl) rfl ?_
      refine AOL.p (P_assign (v := .bool _) rfl) rfl ?_
      refine AOL.nil (thenN ?_)
      refine AW.ret ?_
      refine blkR ?_
      refine thenR ?_
      refine ⟨.inr rfl, [.bool _], .cons (.tmp _ _ rfl) <| .nil, .refl _, ?_⟩
      simp only [resOf, standsR, hc1, hc2, hc3, hc4, hc5, ↓reduceIte, Bool.false_eq_true]
     ·
      refine AW.seq (AW.region ?_)
      refine AOL.p (P_eql rfl rfl) rfl ?_
      refine AOL.p (P_assign (v := .bool _) rfl) rfl ?_
      refine AOL.nil (thenN ?_)
      refine AW.cond (b := _) rfl (fun hc6 => ?_) (fun hc6 => ?_)
      ·
       refine AW.seq (AW.region ?_)
       refine AOL.p (P_move (v := .int .i64 _) rfl) rfl ?_
       refine AOL.p (P_eql rfl rfl) rfl ?_
       refine AOL.p (P_assign (v := .bool _) rfl) rfl ?_
       refine AOL.nil (thenN ?_)
       refine AW.ret ?_
       refine blkR ?_
       refine thenR ?_
       refine ⟨.inr rfl, [.bool _], .cons (.tmp _ _ rfl) <| .nil, .refl _, ?_⟩
       simp only [resOf, standsR, hc1, hc2, hc3, hc4, hc5, hc6, ↓reduceIte, Bool.false_eq_true]
      ·
       refine AW.seq (AW.region ?_)
       refine AOL.p (P_eql rfl rfl) rfl ?_
       refine AOL.p (P_assign (v := .bool _) rfl) rfl ?_
       refine AOL.nil (thenN ?_)
       refine AW.cond (b := _) rfl (fun hc7 => ?_) (fun hc7 => ?_)
       ·
        refine AW.seq (AW.region ?_)
        refine AOL.p (P_move (v := .int .i64 _) rfl) rfl ?_
        refine AOL.p (P_eql rfl rfl) rfl ?_
        refine AOL.p (P_assign (v := .bool _) rfl) rfl ?_
        refine AOL.nil (thenN ?_)
        refine AW.ret ?_
        refine blkR ?_
        refine thenR ?_
        refine ⟨.inr rfl, [.bool _], .cons (.tmp _ _ rfl) <| .nil, .refl _, ?_⟩
        simp only [resOf, standsR, hc1, hc2, hc3, hc4, hc5, hc6, hc7, ↓reduceIte, Bool.false_eq_true]
       ·
        refine AW.seq (AW.region ?_)
        refine AOL.p (P_eql rfl rfl) rfl ?_
        refine AOL.p (P_assign (v := .bool _) rfl) rfl ?_
        refine AOL.nil (thenN ?_)
        refine AW.cond (b := _) rfl (fun hc8 => ?_) (fun hc8 => ?_)
        ·
         refine AW.seq (AW.region ?_)
         refine AOL.p (P_move (v := .int .i64 _) rfl) rfl ?_
         refine AOL.p (P_eql rfl rfl) rfl ?_
         refine AOL.p (P_assign (v := .bool _) rfl) rfl ?_
         refine AOL.nil (thenN ?_)
         refine AW.ret ?_
         refine blkR ?_
         refine thenR ?_
         refine ⟨.inr rfl, [.bool _], .cons (.tmp _ _ rfl) <| .nil, .refl _, ?_⟩
         simp only [resOf, standsR, hc1, hc2, hc3, hc4, hc5, hc6, hc7, hc8, ↓reduceIte, Bool.false_eq_true]
        ·
         refine AW.skip ?_
         refine blkN ?_
         refine thenN ?_
         refine AW.seq (AW.region ?_)
         refine AOL.p (P_move (v := .int .i64 _) rfl) rfl ?_
         refine AOL.p (P_eql rfl rfl) rfl ?_
         refine AOL.p (P_assign (v := .bool _) rfl) rfl ?_
         refine AOL.nil (thenN ?_)
         refine AW.ret ?_
         refine ⟨.inr rfl, [.bool _], .cons (.tmp _ _ rfl) <| .nil, .refl _, ?_⟩
         simp only [resOf, standsR, hc1, hc2, hc3, hc4, hc5, hc6, hc7, hc8, ↓reduceIte, Bool.false_eq_true]
set_option maxRecDepth 20000 in
set_option maxHeartbeats 1600000 in
theorem r_shape (t : Syn) : APure Tryz.prog 83 [.agg (cSyn t)] (.bool (shapeR t)) := by
 refine APure.body (n := 58) tok Tryz.func83 rfl rfl rfl fun H => ?_
 refine AW.seq (AW.region ?_)
 refine AOL.p (P_box (v := .agg _) (cs := [.int .i64 _, .str _, .str _, .int .i64 _, _, .int .i64 _]) rfl rfl rfl) rfl ?_
 refine AOL.p (P_assign (v := .bool _) rfl) rfl ?_
 refine AOL.nil (thenN ?_)
 refine AW.seq (AW.region ?_)
 refine AOL.p (P_fieldAddr_ptr (cs' := [_, .int .i64 _]) tok rfl rfl rfl rfl rfl rfl) rfl ?_
 refine AOL.p (P_load_ptr (c := .sl _ _) tok rfl rfl rfl) rfl ?_
 refine AOL.p (P_len_sl (n := t.kids.length) tok rfl rfl rfl (by simp)) rfl ?_
 refine AOL.p (P_assign (v := .int .i64 _) rfl) rfl ?_
 refine AOL.nil (thenN ?_)
 refine AW.seq ?_
 refine AW.seq (AW.region ?_)
 refine AOL.p (P_fieldAddr_ptr (cs' := [.int .i64 _, .str _, .str _, .int .i64 _, _, .int .i64 _]) tok rfl rfl rfl rfl rfl rfl) rfl ?_
 refine AOL.p (P_load_ptr (c := .int .i64 _) tok rfl rfl rfl) rfl ?_
 refine AOL.nil (thenN ?_)
 refine AW.block ?_
 refine AW.cut (fun (_ : Unit) => (⟨[(1, .ptr (cSyn t)), (3, .int .i64 (t.kids.length : Int)), (8, .int .i64 t.kind), (9, .bool (((t.kind == 0) || (t.kind == 1))))], H, 58⟩ : St)) (fun (_ : Unit) => True) ?_ ?_
 ·
  refine AW.seq (AW.region ?_)
  refine AOL.p (P_eql rfl rfl) rfl ?_
  refine AOL.p (P_assign (v := .bool _) rfl) rfl ?_
  refine AOL.nil (thenN ?_)
  refine AW.cond (b := _) rfl (fun hc1 => ?_) (fun hc1 => ?_)
  ·
   refine AW.skip ?_
   refine thenN ?_
   refine ⟨(), ?_, GS.weaken ⟨rfl, rfl, rfl, congrArg AV.bool (by simp [*]), trivial⟩ (.refl _)⟩
   trivial
  ·
   refine AW.region ?_
   refine AOL.p (P_eql rfl rfl) rfl ?_
   refine AOL.p (P_assign (v := .bool _) rfl) rfl ?_
   refine AOL.nil (thenN ?_)
   refine ⟨(), ?_, GS.weaken ⟨rfl, rfl, rfl, congrArg AV.bool (by simp [*]), trivial⟩ (.refl _)⟩
   trivial
 ·
  rintro _ _
  refine AW.cond (b := _) rfl (fun hc2 => ?_) (fun hc2 => ?_)
  ·
   refine AW.seq (AW.region ?_)
   refine AOL.p (P_assign (v := .bool _) rfl) rfl ?_
   refine AOL.nil (thenN ?_)
   refine AW.ret ?_
   refine blkR ?_
   refine thenR ?_
   refine ⟨.inr rfl, [.bool _], .cons (.tmp _ _ rfl) <| .nil, .refl _, ?_⟩
   simp only [resOf, shapeR, hc2, ↓reduceIte, Bool.false_eq_true]
  ·
   refine AW.seq (AW.region ?_)
   refine AOL.p (P_eql rfl rfl) rfl ?_
   refine AOL.p (P_assign (v := .bool _) rfl) rfl ?_
   refine AOL.nil (thenN ?_)
   refine AW.cond (b := _) rfl (fun hc3 => ?_) (fun hc3 => ?_)
   ·
    refine AW.seq (AW.region ?_)
    refine AOL.p (P_move (v := .int .i64 _) rfl) rfl ?_
    refine AOL.p (P_geq rfl rfl) rfl ?_
    refine AOL.p (P_assign (v := .bool _) rfl) rfl ?_
    refine AOL.nil (thenN ?_)
    refine AW.ret ?_
    refine blkR ?_
    refine thenR ?_
    refine ⟨.inr rfl, [.bool _], .cons (.tmp _ _ rfl) <| .nil, .refl _, ?_⟩
    simp only [resOf, shapeR, hc2, hc3, ↓reduceIte, Bool.false_eq_true]
   ·
    refine AW.seq (AW.region ?_)
    refine AOL.p (P_eql rfl rfl) rfl ?_
    refine AOL.p (P_assign (v := .bool _) rfl) rfl ?_
    refine AOL.nil (thenN ?_)
    refine AW.cond (b := _) rfl (fun hc4 => ?_) (fun hc4 => ?_)
    ·
     refine AW.seq (AW.region ?_)
     refine AOL.p (P_move (v := .int .i64 _) rfl) rfl ?_
     refine AOL.p (P_leq rfl rfl) rfl ?_
     refine AOL.p (P_assign (v := .bool _) rfl) rfl ?_
     refine AOL.nil (thenN ?_)
     refine AW.ret ?_
     refine blkR ?_
     refine thenR ?_
     refine ⟨.inr rfl, [.bool _], .cons (.tmp _ _ rfl) <| .nil, .refl _, ?_⟩
     simp only [resOf, shapeR, hc2, hc3, hc4, ↓reduceIte, Bool.false_eq_true]
    ·
     refine AW.cut (fun (_ : Unit) => (⟨[(1, .ptr (cSyn t)), (3, .int .i64 (t.kids.length : Int)), (8, .int .i64 t.kind), (20, .bool ((((t.kind == 6) || (t.kind == 7)) || (t.kind == 8))))], H, 58⟩ : St)) (fun (_ : Unit) => True) ?_ ?_
     ·
      refine AW.seq (AW.region ?_)
      refine AOL.p (P_eql rfl rfl) rfl ?_
      refine AOL.p (P_assign (v := .bool _) rfl) rfl ?_
      refine AOL.nil (thenN ?_)
      refine AW.cond (b := _) rfl (fun hc5 => ?_) (fun hc5 => ?_)
      ·
       refine AW.skip ?_
       refine thenN ?_
       refine ⟨(), ?_, GS.weaken ⟨rfl, rfl, rfl, congrArg AV.bool (by simp [*]), trivial⟩ (.refl _)⟩
       trivial
      ·
       refine AW.seq (AW.region ?_)
       refine AOL.p (P_eql rfl rfl) rfl ?_
       refine AOL.p (P_assign (v := .bool _) rfl) rfl ?_
       refine AOL.nil (thenN ?_)
       refine AW.cond (b := _) rfl (fun hc6 => ?_) (fun hc6 => ?_)
       ·
        refine AW.skip ?_
        refine thenN ?_
        refine ⟨(), ?_, GS.weaken ⟨rfl, rfl, rfl, congrArg AV.bool (by simp [*]), trivial⟩ (.refl _)⟩
        trivial
       ·
        refine AW.region ?_
        refine AOL.p (P_eql rfl rfl) rfl ?_
        refine AOL.p (P_assign (v := .bool _) rfl) rfl ?_
        refine AOL.nil (thenN ?_)
        refine ⟨(), ?_, GS.weaken ⟨rfl, rfl, rfl, congrArg AV.bool (by simp [*]), trivial⟩ (.refl _)⟩
        trivial
     ·
      rintro _ _
      refine AW.cond (b := _) rfl (fun hc7 => ?_) (fun hc7 => ?_)
      ·
       refine AW.seq (AW.region ?_)
       refine AOL.p (P_move (v := .int .i64 _) rfl) rfl ?_
       refine AOL.p (P_geq rfl rfl) rfl ?_
       refine AOL.p (P_assign (v := .bool _) rfl) rfl ?_
       refine AOL.nil (thenN ?_)
       refine AW.ret ?_
       refine blkR ?_
       refine thenR ?_
       refine ⟨.inr rfl, [.bool _], .cons (.tmp _ _ rfl) <| .nil, .refl _, ?_⟩
       simp only [resOf, shapeR, hc2, hc3, hc4, hc7, ↓reduceIte, Bool.false_eq_true]
      ·
       refine AW.cut (fun (_ : Unit) => (⟨[(1, .ptr (cSyn t)), (3, .int .i64 (t.kids.length : Int)), (8, .int .i64 t.kind), (26, .bool ((((t.kind == 9) || (t.kind == 11)) || (t.kind == 18))))], H, 58⟩ : St)) (fun (_ : Unit) => True) ?_ ?_
       ·
        refine AW.seq (AW.region ?_)
        refine AOL.p (P_eql rfl rfl) rfl ?_
        refine AOL.p (P_assign (v := .bool _) rfl) rfl ?_
        refine AOL.nil (thenN ?_)
        refine AW.cond (b := _) rfl (fun hc8 => ?_) (fun hc8 => ?_)
        ·
         refine AW.skip ?_
         refine thenN ?_
         refine ⟨(), ?_, GS.weaken ⟨rfl, rfl, rfl, congrArg AV.bool (by simp [*]), trivial⟩ (.refl _)⟩
         trivial
        ·
         refine AW.seq (AW.region ?_)
         refine AOL.p (P_eql rfl rfl) rfl ?_
         refine AOL.p (P_assign (v := .bool _) rfl) rfl ?_
         refine AOL.nil (thenN ?_)
         refine AW.cond (b := _) rfl (fun hc9 => ?_) (fun hc9 => ?_)
         ·
          refine AW.skip ?_
          refine thenN ?_
          refine ⟨(), ?_, GS.weaken ⟨rfl, rfl, rfl, congrArg AV.bool (by simp [*]), trivial⟩ (.refl _)⟩
          trivial
         ·
          refine AW.region ?_
          refine AOL.p (P_eql rfl rfl) rfl ?_
          refine AOL.p (P_assign (v := .bool _) rfl) rfl ?_
          refine AOL.nil (thenN ?_)
          refine ⟨(), ?_, GS.weaken ⟨rfl, rfl, rfl, congrArg AV.bool (by simp [*]), trivial⟩ (.refl _)⟩
          trivial
       ·
        rintro _ _
        refine AW.cond (b := _) rfl (fun hc10 => ?_) (fun hc10 => ?_)
        ·
         refine AW.seq (AW.region ?_)
         refine AOL.p (P_move (v := .int .i64 _) rfl) rfl ?_
         refine AOL.p (P_eql rfl rfl) rfl ?_
         refine AOL.p (P_assign (v := .bool _) rfl) rfl ?_
         refine AOL.nil (thenN ?_)
         refine AW.ret ?_
         refine blkR ?_
         refine thenR ?_
         refine ⟨.inr rfl, [.bool _], .cons (.tmp _ _ rfl) <| .nil, .refl _, ?_⟩
         simp only [resOf, shapeR, hc2, hc3, hc4, hc7, hc10, ↓reduceIte, Bool.false_eq_true]
        ·
         refine AW.cut (fun (_ : Unit) => (⟨[(1, .ptr (cSyn t)), (3, .int .i64 (t.kids.length : Int)), (8, .int .i64 t.kind), (32, .bool ((((t.kind == 10) || (t.kind == 12)) || (t.kind == 17))))], H, 58⟩ : St)) (fun (_ : Unit) => True) ?_ ?_
         ·
          refine AW.seq (AW.region ?_)
          refine AOL.p (P_eql rfl rfl) rfl ?_
          refine AOL.p (P_assign (v := .bool _) rfl) rfl ?_
          refine AOL.nil (thenN ?_)
          refine AW.cond (b := _) rfl (fun hc11 => ?_) (fun hc11 => ?_)
          ·
           refine AW.skip ?_
           refine thenN ?_
           refine ⟨(), ?_, GS.weaken ⟨rfl, rfl, rfl, congrArg AV.bool (by simp [*]), trivial⟩ (.refl _)⟩
           trivial
          ·
           refine AW.seq (AW.region ?_)
           refine AOL.p (P_eql rfl rfl) rfl ?_
           refine AOL.p (P_assign (v := .bool _) rfl) rfl ?_
           refine AOL.nil (thenN ?_)
           refine AW.cond (b := _) rfl (fun hc12 => ?_) (fun hc12 => ?_)
           ·
            refine AW.skip ?_
            refine thenN ?_
            refine ⟨(), ?_, GS.weaken ⟨rfl, rfl, rfl, congrArg AV.bool (by simp [*]), trivial⟩ (.refl _)⟩
            trivial
           ·
            refine AW.region ?_
            refine AOL.p (P_eql rfl rfl) rfl ?_
            refine AOL.p (P_assign (v := .bool _) rfl) rfl ?_
            refine AOL.nil (thenN ?_)
            refine ⟨(), ?_, GS.weaken ⟨rfl, rfl, rfl, congrArg AV.bool (by simp [*]), trivial⟩ (.refl _)⟩
            trivial
         ·
          rintro _ _
          refine AW.cond (b := _) rfl (fun hc13 => ?_) (fun hc13 => ?_)
          ·
           refine AW.seq (AW.region ?_)
           refine AOL.p (P_move (v := .int .i64 _) rfl) rfl ?_
           refine AOL.p (P_eql rfl rfl) rfl ?_
           refine AOL.p (P_assign (v := .bool _) rfl) rfl ?_
           refine AOL.nil (thenN ?_)
           refine AW.ret ?_
           refine blkR ?_
           refine thenR ?_
           refine ⟨.inr rfl, [.bool _], .cons (.tmp _ _ rfl) <| .nil, .refl _, ?_⟩
           simp only [resOf, shapeR, hc2, hc3, hc4, hc7, hc10, hc13, ↓reduceIte, Bool.false_eq_true]
          ·
           refine AW.seq (AW.region ?_)
           refine AOL.p (P_eql rfl rfl) rfl ?_
           refine AOL.p (P_assign (v := .bool _) rfl) rfl ?_
           refine AOL.nil (thenN ?_)
           refine AW.cond (b := _) rfl (fun hc14 => ?_) (fun hc14 => ?_)
           ·
            refine AW.seq (AW.region ?_)
            refine AOL.p (P_move (v := .int .i64 _) rfl) rfl ?_
            refine AOL.p (P_eql rfl rfl) rfl ?_
            refine AOL.p (P_move (v := .bool _) rfl) rfl ?_
            refine AOL.g (y := .ptr _) _ [] rfl (EntL.all trivial) (fun hG => P_fieldAddr_ptr (cs' := [.int .i64 _, _, .int .i64 _]) tok rfl rfl rfl rfl rfl rfl) rfl ?_
            refine AOL.g (y := .int .i64 _) _ [(43, _)] rfl (EntL.all ⟨Ent.self _ _, trivial⟩) (fun hG => P_load_ptr (c := .int .i64 _) tok rfl rfl rfl) rfl ?_
            refine AOL.g (y := .bool _) _ [(44, _)] rfl (EntL.all ⟨Ent.self _ _, trivial⟩) (fun hG => P_neq rfl rfl) rfl ?_
            refine AOL.p (P_pick_and rfl rfl rfl) rfl ?_
            refine AOL.p (P_move (v := .bool _) rfl) rfl ?_
            refine AOL.g (y := .int .i64 _) _ [] rfl (EntL.all trivial) (fun hG => P_move (v := .int .i64 _) rfl) rfl ?_
            refine AOL.g (y := .bool _) _ [(48, _)] rfl (EntL.all ⟨Ent.self _ _, trivial⟩) (fun hG => P_eql rfl rfl) rfl ?_
            refine AOL.g (y := .bool _) _ [(49, _)] rfl (EntL.all ⟨Ent.self _ _, trivial⟩) (fun hG => P_move (v := .bool _) rfl) rfl ?_
            refine AOL.g (y := .ptr _) _ [] rfl (EntL.all trivial) (fun hG => P_fieldAddr_ptr (cs' := [.int .i64 _, _, .int .i64 _]) tok rfl rfl rfl rfl rfl rfl) rfl ?_
            refine AOL.g (y := .int .i64 _) _ [(51, _)] rfl (EntL.all ⟨Ent.self _ _, trivial⟩) (fun hG => P_load_ptr (c := .int .i64 _) tok rfl rfl rfl) rfl ?_
            refine AOL.g (y := .bool _) _ [(52, _)] rfl (EntL.all ⟨Ent.self _ _, trivial⟩) (fun hG => P_eql rfl rfl) rfl ?_
            refine AOL.g (y := .bool _) _ [(50, _), (53, _)] rfl (EntL.all ⟨Ent.self _ _, Ent.suf _ _ _, trivial⟩) (fun hG => P_pick_and rfl rfl rfl) rfl ?_
            refine AOL.p (P_pick_or rfl rfl rfl) rfl ?_
            refine AOL.p (P_assign (v := .bool _) rfl) rfl ?_
            refine AOL.nil (thenN ?_)
            refine AW.ret ?_
            refine blkR ?_
            refine thenR ?_
            refine ⟨.inr rfl, [.bool _], .cons (.tmp _ _ rfl) <| .nil, .refl _, ?_⟩
            simp only [resOf, shapeR, hc2, hc3, hc4, hc7, hc10, hc13, hc14, ↓reduceIte, Bool.false_eq_true]
           ·
            refine AW.skip ?_
            refine blkN ?_
            refine thenN ?_
            refine AW.seq (AW.region ?_)
            refine AOL.p (P_move (v := .int .i64 _) rfl) rfl ?_
            refine AOL.p (P_eql rfl rfl) rfl ?_
            refine AOL.p (P_assign (v := .bool _) rfl) rfl ?_
            refine AOL.nil (thenN ?_)
            refine AW.ret ?_
            refine ⟨.inr rfl, [.bool _], .cons (.tmp _ _ rfl) <| .nil, .refl _, ?_⟩
            simp only [resOf, shapeR, hc2, hc3, hc4, hc7, hc10, hc13, hc14, ↓reduceIte, Bool.false_eq_true]
set_option maxRecDepth 20000 in
set_option maxHeartbeats 400000 in
theorem r_name (s : Str) (hl : s.length ≤ 1048576) : APure Tryz.prog 127 [.str s] (.bool (nmS s)) := by
 refine APure.body (n := 6) tok Tryz.func127 rfl rfl rfl fun H => ?_
 refine AW.seq (AW.region ?_)
 refine AOL.p (P_assign (v := .bool _) rfl) rfl ?_
 refine AOL.nil (thenN ?_)
 refine AW.seq (AW.region ?_)
 refine AOL.p (P_move (v := .str _) rfl) rfl ?_
 refine AOL.p (P_callf (by kernel_rfl) rfl rfl (c21 s hl)) rfl ?_
 refine AOL.p (P_eql rfl rfl) rfl ?_
 refine AOL.p (P_assign (v := .bool _) rfl) rfl ?_
 refine AOL.nil (thenN ?_)
 refine AW.ret ?_
 refine ⟨.inr rfl, [.bool _], .cons (.tmp _ _ rfl) <| .nil, .refl _, ?_⟩
 rw [← nmR_eq]; rfl
set_option maxRecDepth 20000 in
set_option maxHeartbeats 1600000 in
theorem r_names (t : Syn) (ht : t.text.length ≤ 1048576) (hn : t.name.length ≤ 1048576) : APure Tryz.prog 84 [.agg (cSyn t)] (.bool (namesR t)) := by
 refine APure.body (n := 49) tok Tryz.func84 rfl rfl rfl fun H => ?_
 refine AW.seq (AW.region ?_)
 refine AOL.p (P_box (v := .agg _) (cs := [.int .i64 _, .str _, .str _, .int .i64 _, _, .int .i64 _]) rfl rfl rfl) rfl ?_
 refine AOL.p (P_assign (v := .bool _) rfl) rfl ?_
 refine AOL.nil (thenN ?_)
 refine AW.seq ?_
 refine AW.seq (AW.region ?_)
 refine AOL.p (P_fieldAddr_ptr (cs' := [.int .i64 _, .str _, .str _, .int .i64 _, _, .int .i64 _]) tok rfl rfl rfl rfl rfl rfl) rfl ?_
 refine AOL.p (P_load_ptr (c := .int .i64 _) tok rfl rfl rfl) rfl ?_
 refine AOL.nil (thenN ?_)
 refine AW.block ?_
 refine AW.cut (fun (_ : Unit) => (⟨[(1, .ptr (cSyn t)), (4, .int .i64 t.kind), (5, .bool (((((t.kind == 1) || (t.kind == 2)) || (t.kind == 3)) || (t.kind == 15))))], H, 49⟩ : St)) (fun (_ : Unit) => True) ?_ ?_
 ·
  refine AW.seq (AW.region ?_)
  refine AOL.p (P_eql rfl rfl) rfl ?_
  refine AOL.p (P_assign (v := .bool _) rfl) rfl ?_
  refine AOL.nil (thenN ?_)
  refine AW.cond (b := _) rfl (fun hc1 => ?_) (fun hc1 => ?_)
  ·
   refine AW.skip ?_
   refine thenN ?_
   refine ⟨(), ?_, GS.weaken ⟨rfl, rfl, congrArg AV.bool (by simp [*]), trivial⟩ (.refl _)⟩
   trivial
  ·
   refine AW.seq (AW.region ?_)
   refine AOL.p (P_eql rfl rfl) rfl ?_
   refine AOL.p (P_assign (v := .bool _) rfl) rfl ?_
   refine AOL.nil (thenN ?_)
   refine AW.cond (b := _) rfl (fun hc2 => ?_) (fun hc2 => ?_)
   ·
    refine AW.skip ?_
    refine thenN ?_
    refine ⟨(), ?_, GS.weaken ⟨rfl, rfl, congrArg AV.bool (by simp [*]), trivial⟩ (.refl _)⟩
    trivial
   ·
    refine AW.seq (AW.region ?_)
    refine AOL.p (P_eql rfl rfl) rfl ?_
    refine AOL.p (P_assign (v := .bool _) rfl) rfl ?_
    refine AOL.nil (thenN ?_)
    refine AW.cond (b := _) rfl (fun hc3 => ?_) (fun hc3 => ?_)
    ·
     refine AW.skip ?_
     refine thenN ?_
     refine ⟨(), ?_, GS.weaken ⟨rfl, rfl, congrArg AV.bool (by simp [*]), trivial⟩ (.refl _)⟩
     trivial
    ·
     refine AW.region ?_
     refine AOL.p (P_eql rfl rfl) rfl ?_
     refine AOL.p (P_assign (v := .bool _) rfl) rfl ?_
     refine AOL.nil (thenN ?_)
     refine ⟨(), ?_, GS.weaken ⟨rfl, rfl, congrArg AV.bool (by simp [*]), trivial⟩ (.refl _)⟩
     trivial
 ·
  rintro _ _
  refine AW.cond (b := _) rfl (fun hc4 => ?_) (fun hc4 => ?_)
  ·
   refine AW.seq (AW.region ?_)
   refine AOL.p (P_fieldAddr_ptr (cs' := [.str _, .str _, .int .i64 _, _, .int .i64 _]) tok rfl rfl rfl rfl rfl rfl) rfl ?_
   refine AOL.p (P_load_ptr (c := .str _) tok rfl rfl rfl) rfl ?_
   refine AOL.p (P_callf (by kernel_rfl) rfl rfl (r_name _ (by assumption))) rfl ?_
   refine AOL.p (P_assign (v := .bool _) rfl) rfl ?_
   refine AOL.nil (thenN ?_)
   refine AW.ret ?_
   refine blkR ?_
   refine thenR ?_
   refine ⟨.inr rfl, [.bool _], .cons (.tmp _ _ rfl) <| .nil, .refl _, ?_⟩
   simp only [resOf, namesR, hc4, ↓reduceIte, Bool.false_eq_true]
  ·
   refine AW.seq (AW.region ?_)
   refine AOL.p (P_eql rfl rfl) rfl ?_
   refine AOL.p (P_assign (v := .bool _) rfl) rfl ?_
   refine AOL.nil (thenN ?_)
   refine AW.cond (b := _) rfl (fun hc5 => ?_) (fun hc5 => ?_)
   ·
    refine AW.seq (AW.region ?_)
    refine AOL.p (P_fieldAddr_ptr (cs' := [.str _, .str _, .int .i64 _, _, .int .i64 _]) tok rfl rfl rfl rfl rfl rfl) rfl ?_
    refine AOL.p (P_load_ptr (c := .str _) tok rfl rfl rfl) rfl ?_
    refine AOL.p (P_eql_str rfl rfl) rfl ?_
    refine AOL.p (P_move (v := .bool _) rfl) rfl ?_
    refine AOL.g (y := .ptr _) _ [] rfl (EntL.all trivial) (fun hG => P_fieldAddr_ptr (cs' := [.str _, .str _, .int .i64 _, _, .int .i64 _]) tok rfl rfl rfl rfl rfl rfl) rfl ?_
    refine AOL.g (y := .str _) _ [(19, _)] rfl (EntL.all ⟨Ent.self _ _, trivial⟩) (fun hG => P_load_ptr (c := .str _) tok rfl rfl rfl) rfl ?_
    refine AOL.g (y := .bool _) _ [(20, _)] rfl (EntL.all ⟨Ent.self _ _, trivial⟩) (fun hG => P_callf (by kernel_rfl) rfl rfl (r_name _ (by assumption))) rfl ?_
    refine AOL.p (P_pick_or rfl rfl rfl) rfl ?_
    refine AOL.p (P_assign (v := .bool _) rfl) rfl ?_
    refine AOL.nil (thenN ?_)
    refine AW.ret ?_
    refine blkR ?_
    refine thenR ?_
    refine ⟨.inr rfl, [.bool _], .cons (.tmp _ _ rfl) <| .nil, .refl _, ?_⟩
    simp only [resOf, namesR, hc4, hc5, ↓reduceIte, Bool.false_eq_true]
   ·
    refine AW.cut (fun (_ : Unit) => (⟨[(1, .ptr (cSyn t)), (4, .int .i64 t.kind), (23, .bool (((t.kind == 5) || (t.kind == 16))))], H, 49⟩ : St)) (fun (_ : Unit) => True) ?_ ?_
    ·
     refine AW.seq (AW.region ?_)
     refine AOL.p (P_eql rfl rfl) rfl ?_
     refine AOL.p (P_assign (v := .bool _) rfl) rfl ?_
     refine AOL.nil (thenN ?_)
     refine AW.cond (b := _) rfl (fun hc6 => ?_) (fun hc6 => ?_)
     ·
      refine AW.skip ?_
      refine thenN ?_
      refine ⟨(), ?_, GS.weaken ⟨rfl, rfl, congrArg AV.bool (by simp [*]), trivial⟩ (.refl _)⟩
      trivial
     ·
      refine AW.region ?_
      refine AOL.p (P_eql rfl rfl) rfl ?_
      refine AOL.p (P_assign (v := .bool _) rfl) rfl ?_
      refine AOL.nil (thenN ?_)
      refine ⟨(), ?_, GS.weaken ⟨rfl, rfl, congrArg AV.bool (by simp [*]), trivial⟩ (.refl _)⟩
      trivial
    ·
     rintro _ _
     refine AW.cond (b := _) rfl (fun hc7 => ?_) (fun hc7 => ?_)
     ·
      refine AW.seq (AW.region ?_)
      refine AOL.p (P_fieldAddr_ptr (cs' := [.str _, .str _, .int .i64 _, _, .int .i64 _]) tok rfl rfl rfl rfl rfl rfl) rfl ?_
      refine AOL.p (P_load_ptr (c := .str _) tok rfl rfl rfl) rfl ?_
      refine AOL.p (P_callf (by kernel_rfl) rfl rfl (r_name _ (by assumption))) rfl ?_
      refine AOL.p (P_move (v := .bool _) rfl) rfl ?_
      refine AOL.g (y := .ptr _) _ [] rfl (EntL.all trivial) (fun hG => P_fieldAddr_ptr (cs' := [.str _, .int .i64 _, _, .int .i64 _]) tok rfl rfl rfl rfl rfl rfl) rfl ?_
      refine AOL.g (y := .str _) _ [(30, _)] rfl (EntL.all ⟨Ent.self _ _, trivial⟩) (fun hG => P_load_ptr (c := .str _) tok rfl rfl rfl) rfl ?_
      refine AOL.g (y := .bool _) _ [(31, _)] rfl (EntL.all ⟨Ent.self _ _, trivial⟩) (fun hG => P_callf (by kernel_rfl) rfl rfl (r_name _ (by assumption))) rfl ?_
      refine AOL.p (P_pick_and rfl rfl rfl) rfl ?_
      refine AOL.p (P_assign (v := .bool _) rfl) rfl ?_
      refine AOL.nil (thenN ?_)
      refine AW.ret ?_
      refine blkR ?_
      refine thenR ?_
      refine ⟨.inr rfl, [.bool _], .cons (.tmp _ _ rfl) <| .nil, .refl _, ?_⟩
      simp only [resOf, namesR, hc4, hc5, hc7, ↓reduceIte, Bool.false_eq_true]
     ·
      refine AW.seq (AW.region ?_)
      refine AOL.p (P_eql rfl rfl) rfl ?_
      refine AOL.p (P_assign (v := .bool _) rfl) rfl ?_
      refine AOL.nil (thenN ?_)
      refine AW.cond (b := _) rfl (fun hc8 => ?_) (fun hc8 => ?_)
      ·
       refine AW.seq (AW.region ?_)
       refine AOL.p (P_fieldAddr_ptr (cs' := [.str _, .str _, .int .i64 _, _, .int .i64 _]) tok rfl rfl rfl rfl rfl rfl) rfl ?_
       refine AOL.p (P_load_ptr (c := .str _) tok rfl rfl rfl) rfl ?_
       refine AOL.p (P_callf (by kernel_rfl) rfl rfl (r_name _ (by assumption))) rfl ?_
       refine AOL.p (P_move (v := .bool _) rfl) rfl ?_
       refine AOL.g (y := .ptr _) _ [] rfl (EntL.all trivial) (fun hG => P_fieldAddr_ptr (cs' := [.str _, .int .i64 _, _, .int .i64 _]) tok rfl rfl rfl rfl rfl rfl) rfl ?_
       refine AOL.g (y := .str _) _ [(40, _)] rfl (EntL.all ⟨Ent.self _ _, trivial⟩) (fun hG => P_load_ptr (c := .str _) tok rfl rfl rfl) rfl ?_
       refine AOL.g (y := .bool _) _ [(41, _)] rfl (EntL.all ⟨Ent.self _ _, trivial⟩) (fun hG => P_eql_str rfl rfl) rfl ?_
       refine AOL.g (y := .bool _) _ [(42, _)] rfl (EntL.all ⟨Ent.self _ _, trivial⟩) (fun hG => P_move (v := .bool _) rfl) rfl ?_
       refine AOL.g (y := .ptr _) _ [] rfl (EntL.all trivial) (fun hG => P_fieldAddr_ptr (cs' := [.str _, .int .i64 _, _, .int .i64 _]) tok rfl rfl rfl rfl rfl rfl) rfl ?_
       refine AOL.g (y := .str _) _ [(44, _)] rfl (EntL.all ⟨Ent.self _ _, trivial⟩) (fun hG => P_load_ptr (c := .str _) tok rfl rfl rfl) rfl ?_
       refine AOL.g (y := .bool _) _ [(45, _)] rfl (EntL.all ⟨Ent.self _ _, trivial⟩) (fun hG => P_callf (by kernel_rfl) rfl rfl (r_name _ (by assumption))) rfl ?_
       refine AOL.g (y := .bool _) _ [(43, _), (46, _)] rfl (EntL.all ⟨Ent.self _ _, Ent.suf _ _ _, trivial⟩) (fun hG => P_pick_or rfl rfl rfl) rfl ?_
       refine AOL.p (P_pick_and rfl rfl rfl) rfl ?_
       refine AOL.p (P_assign (v := .bool _) rfl) rfl ?_
       refine AOL.nil (thenN ?_)
       refine AW.ret ?_
       refine blkR ?_
       refine thenR ?_
       refine ⟨.inr rfl, [.bool _], .cons (.tmp _ _ rfl) <| .nil, .refl _, ?_⟩
       simp only [resOf, namesR, hc4, hc5, hc7, hc8, ↓reduceIte, Bool.false_eq_true]
      ·
       refine AW.skip ?_
       refine blkN ?_
       refine thenN ?_
       refine AW.seq (AW.region ?_)
       refine AOL.p (P_assign (v := .bool _) rfl) rfl ?_
       refine AOL.nil (thenN ?_)
       refine AW.ret ?_
       refine ⟨.inr rfl, [.bool _], .cons (.tmp _ _ rfl) <| .nil, .refl _, ?_⟩
       simp only [resOf, namesR, hc4, hc5, hc7, hc8, ↓reduceIte, Bool.false_eq_true]
set_option maxRecDepth 20000 in
set_option maxHeartbeats 1600000 in
theorem r_const (t : Syn) : APure Tryz.prog 128 [.agg (cSyn t)] ((.int .i64 (constR' t))) := by
 refine APure.body (n := 40) tok Tryz.func128 rfl rfl rfl fun H => ?_
 refine AW.seq (AW.region ?_)
 refine AOL.p (P_box (v := .agg _) (cs := [.int .i64 _, .str _, .str _, .int .i64 _, _, .int .i64 _]) rfl rfl rfl) rfl ?_
 refine AOL.p (P_assign (v := .int .i64 _) rfl) rfl ?_
 refine AOL.nil (thenN ?_)
 refine AW.seq ?_
 refine AW.seq (AW.region ?_)
 refine AOL.p (P_fieldAddr_ptr (cs' := [.str _, .int .i64 _, _, .int .i64 _]) tok rfl rfl rfl rfl rfl rfl) rfl ?_
 refine AOL.p (P_load_ptr (c := .str _) tok rfl rfl rfl) rfl ?_
 refine AOL.nil (thenN ?_)
 refine AW.block ?_
 refine AW.seq (AW.region ?_)
 refine AOL.p (P_eql_str rfl rfl) rfl ?_
 refine AOL.p (P_assign (v := .bool _) rfl) rfl ?_
 refine AOL.nil (thenN ?_)
 refine AW.cond (b := _) rfl (fun hc1 => ?_) (fun hc1 => ?_)
 ·
  refine AW.seq ?_
  refine AW.seq (AW.region ?_)
  refine AOL.p (P_fieldAddr_ptr (cs' := [.int .i64 _, _, .int .i64 _]) tok rfl rfl rfl rfl rfl rfl) rfl ?_
  refine AOL.p (P_load_ptr (c := .int .i64 _) tok rfl rfl rfl) rfl ?_
  refine AOL.p (P_lss rfl rfl) rfl ?_
  refine AOL.p (P_move (v := .bool _) rfl) rfl ?_
  refine AOL.g (y := .ptr _) _ [] rfl (EntL.all trivial) (fun hG => P_fieldAddr_ptr (cs' := [.int .i64 _, _, .int .i64 _]) tok rfl rfl rfl rfl rfl rfl) rfl ?_
  refine AOL.g (y := .int .i64 _) _ [(11, _)] rfl (EntL.all ⟨Ent.self _ _, trivial⟩) (fun hG => P_load_ptr (c := .int .i64 _) tok rfl rfl rfl) rfl ?_
  refine AOL.g (y := .bool _) _ [(12, _)] rfl (EntL.all ⟨Ent.self _ _, trivial⟩) (fun hG => P_gtr rfl rfl) rfl ?_
  refine AOL.p (P_pick_or rfl rfl rfl) rfl ?_
  refine AOL.nil (thenN ?_)
  refine AW.cond (b := _) rfl (fun hc2 => ?_) (fun hc2 => ?_)
  ·
   refine AW.seq (AW.region ?_)
   refine AOL.p (P_assign (v := .int .i64 _) rfl) rfl ?_
   refine AOL.nil (thenN ?_)
   refine AW.ret ?_
   refine thenR ?_
   refine blkR ?_
   refine thenR ?_
   refine ⟨.inr rfl, [.int .i64 _], .cons (.tmp _ _ rfl) <| .nil, .refl _, ?_⟩
   simp only [resOf, constR']
   rw [if_pos hc1, if_pos hc2]
  ·
   refine AW.skip ?_
   refine thenN ?_
   refine AW.seq (AW.region ?_)
   refine AOL.p (P_fieldAddr_ptr (cs' := [.str _, .str _, .int .i64 _, _, .int .i64 _]) tok rfl rfl rfl rfl rfl rfl) rfl ?_
   refine AOL.p (P_load_ptr (c := .str _) tok rfl rfl rfl) rfl ?_
   refine AOL.p (P_neq_str rfl rfl) rfl ?_
   refine AOL.nil (thenN ?_)
   refine AW.cond (b := _) rfl (fun hc3 => ?_) (fun hc3 => ?_)
   ·
    refine AW.seq (AW.region ?_)
    refine AOL.p (P_assign (v := .int .i64 _) rfl) rfl ?_
    refine AOL.nil (thenN ?_)
    refine AW.ret ?_
    refine blkR ?_
    refine thenR ?_
    refine ⟨.inr rfl, [.int .i64 _], .cons (.tmp _ _ rfl) <| .nil, .refl _, ?_⟩
    simp only [resOf, constR']
    rw [if_pos hc1, ifF hc2, if_pos hc3]
   ·
    refine AW.skip ?_
    refine blkN ?_
    refine thenN ?_
    refine AW.seq (AW.region ?_)
    refine AOL.p (P_assign (v := .int .i64 _) rfl) rfl ?_
    refine AOL.nil (thenN ?_)
    refine AW.ret ?_
    refine ⟨.inr rfl, [.int .i64 _], .cons (.tmp _ _ rfl) <| .nil, .refl _, ?_⟩
    simp only [resOf, constR']
    rw [if_pos hc1, ifF hc2, ifF hc3]
 ·
  refine AW.seq (AW.region ?_)
  refine AOL.p (P_eql_str rfl rfl) rfl ?_
  refine AOL.p (P_assign (v := .bool _) rfl) rfl ?_
  refine AOL.nil (thenN ?_)
  refine AW.cond (b := _) rfl (fun hc4 => ?_) (fun hc4 => ?_)
  ·
   refine AW.seq ?_
   refine AW.seq (AW.region ?_)
   refine AOL.p (P_fieldAddr_ptr (cs' := [.int .i64 _, _, .int .i64 _]) tok rfl rfl rfl rfl rfl rfl) rfl ?_
   refine AOL.p (P_load_ptr (c := .int .i64 _) tok rfl rfl rfl) rfl ?_
   refine AOL.p (P_neq rfl rfl) rfl ?_
   refine AOL.p (P_move (v := .bool _) rfl) rfl ?_
   refine AOL.g (y := .ptr _) _ [] rfl (EntL.all trivial) (fun hG => P_fieldAddr_ptr (cs' := [.int .i64 _, _, .int .i64 _]) tok rfl rfl rfl rfl rfl rfl) rfl ?_
   refine AOL.g (y := .int .i64 _) _ [(24, _)] rfl (EntL.all ⟨Ent.self _ _, trivial⟩) (fun hG => P_load_ptr (c := .int .i64 _) tok rfl rfl rfl) rfl ?_
   refine AOL.g (y := .bool _) _ [(25, _)] rfl (EntL.all ⟨Ent.self _ _, trivial⟩) (fun hG => P_neq rfl rfl) rfl ?_
   refine AOL.p (P_pick_and rfl rfl rfl) rfl ?_
   refine AOL.nil (thenN ?_)
   refine AW.cond (b := _) rfl (fun hc5 => ?_) (fun hc5 => ?_)
   ·
    refine AW.seq (AW.region ?_)
    refine AOL.p (P_assign (v := .int .i64 _) rfl) rfl ?_
    refine AOL.nil (thenN ?_)
    refine AW.ret ?_
    refine thenR ?_
    refine blkR ?_
    refine thenR ?_
    refine ⟨.inr rfl, [.int .i64 _], .cons (.tmp _ _ rfl) <| .nil, .refl _, ?_⟩
    simp only [resOf, constR']
    rw [ifF hc1, if_pos hc4, if_pos hc5]
   ·
    refine AW.skip ?_
    refine thenN ?_
    refine AW.seq (AW.region ?_)
    refine AOL.p (P_fieldAddr_ptr (cs' := [.str _, .str _, .int .i64 _, _, .int .i64 _]) tok rfl rfl rfl rfl rfl rfl) rfl ?_
    refine AOL.p (P_load_ptr (c := .str _) tok rfl rfl rfl) rfl ?_
    refine AOL.p (P_neq_str rfl rfl) rfl ?_
    refine AOL.nil (thenN ?_)
    refine AW.cond (b := _) rfl (fun hc6 => ?_) (fun hc6 => ?_)
    ·
     refine AW.seq (AW.region ?_)
     refine AOL.p (P_assign (v := .int .i64 _) rfl) rfl ?_
     refine AOL.nil (thenN ?_)
     refine AW.ret ?_
     refine blkR ?_
     refine thenR ?_
     refine ⟨.inr rfl, [.int .i64 _], .cons (.tmp _ _ rfl) <| .nil, .refl _, ?_⟩
     simp only [resOf, constR']
     rw [ifF hc1, if_pos hc4, ifF hc5, if_pos hc6]
    ·
     refine AW.skip ?_
     refine blkN ?_
     refine thenN ?_
     refine AW.seq (AW.region ?_)
     refine AOL.p (P_assign (v := .int .i64 _) rfl) rfl ?_
     refine AOL.nil (thenN ?_)
     refine AW.ret ?_
     refine ⟨.inr rfl, [.int .i64 _], .cons (.tmp _ _ rfl) <| .nil, .refl _, ?_⟩
     simp only [resOf, constR']
     rw [ifF hc1, if_pos hc4, ifF hc5, ifF hc6]
  ·
   refine AW.seq (AW.region ?_)
   refine AOL.p (P_eql_str rfl rfl) rfl ?_
   refine AOL.p (P_assign (v := .bool _) rfl) rfl ?_
   refine AOL.nil (thenN ?_)
   refine AW.cond (b := _) rfl (fun hc7 => ?_) (fun hc7 => ?_)
   ·
    refine AW.seq ?_
    refine AW.seq (AW.region ?_)
    refine AOL.p (P_fieldAddr_ptr (cs' := [.str _, .str _, .int .i64 _, _, .int .i64 _]) tok rfl rfl rfl rfl rfl rfl) rfl ?_
    refine AOL.p (P_load_ptr (c := .str _) tok rfl rfl rfl) rfl ?_
    refine AOL.p (P_len_str tok rfl rfl rfl rfl) rfl ?_
    refine AOL.p (P_gtr rfl rfl) rfl ?_
    refine AOL.nil (thenN ?_)
    refine AW.cond (b := _) rfl (fun hc8 => ?_) (fun hc8 => ?_)
    ·
     refine AW.seq (AW.region ?_)
     refine AOL.p (P_assign (v := .int .i64 _) rfl) rfl ?_
     refine AOL.nil (thenN ?_)
     refine AW.ret ?_
     refine thenR ?_
     refine blkR ?_
     refine thenR ?_
     refine ⟨.inr rfl, [.int .i64 _], .cons (.tmp _ _ rfl) <| .nil, .refl _, ?_⟩
     simp only [resOf, constR']
     rw [ifF hc1, ifF hc4, if_pos hc7, if_pos hc8]
    ·
     refine AW.skip ?_
     refine thenN ?_
     refine AW.seq (AW.region ?_)
     refine AOL.p (P_fieldAddr_ptr (cs' := [.int .i64 _, _, .int .i64 _]) tok rfl rfl rfl rfl rfl rfl) rfl ?_
     refine AOL.p (P_load_ptr (c := .int .i64 _) tok rfl rfl rfl) rfl ?_
     refine AOL.p (P_neq rfl rfl) rfl ?_
     refine AOL.nil (thenN ?_)
     refine AW.cond (b := _) rfl (fun hc9 => ?_) (fun hc9 => ?_)
     ·
      refine AW.seq (AW.region ?_)
      refine AOL.p (P_assign (v := .int .i64 _) rfl) rfl ?_
      refine AOL.nil (thenN ?_)
      refine AW.ret ?_
      refine blkR ?_
      refine thenR ?_
      refine ⟨.inr rfl, [.int .i64 _], .cons (.tmp _ _ rfl) <| .nil, .refl _, ?_⟩
      simp only [resOf, constR']
      rw [ifF hc1, ifF hc4, if_pos hc7, ifF hc8, if_pos hc9]
     ·
      refine AW.skip ?_
      refine blkN ?_
      refine thenN ?_
      refine AW.seq (AW.region ?_)
      refine AOL.p (P_assign (v := .int .i64 _) rfl) rfl ?_
      refine AOL.nil (thenN ?_)
      refine AW.ret ?_
      refine ⟨.inr rfl, [.int .i64 _], .cons (.tmp _ _ rfl) <| .nil, .refl _, ?_⟩
      simp only [resOf, constR']
      rw [ifF hc1, ifF hc4, if_pos hc7, ifF hc8, ifF hc9]
   ·
    refine AW.seq (AW.region ?_)
    refine AOL.p (P_assign (v := .int .i64 _) rfl) rfl ?_
    refine AOL.nil (thenN ?_)
    refine AW.ret ?_
    refine blkR ?_
    refine thenR ?_
    refine ⟨.inr rfl, [.int .i64 _], .cons (.tmp _ _ rfl) <| .nil, .refl _, ?_⟩
    simp only [resOf, constR']
    rw [ifF hc1, ifF hc4, ifF hc7]
set_option maxRecDepth 20000 in
set_option maxHeartbeats 3200000 in
theorem r_number (t : Syn) : APure Tryz.prog 85 [.agg (cSyn t)] (.int .i64 (numberR t)) := by
 refine APure.body (n := 125) tok Tryz.func85 rfl rfl rfl fun H => ?_
 refine AW.seq (AW.region ?_)
 refine AOL.p (P_box (v := .agg _) (cs := [.int .i64 _, .str _, .str _, .int .i64 _, _, .int .i64 _]) rfl rfl rfl) rfl ?_
 refine AOL.p (P_assign (v := .int .i64 _) rfl) rfl ?_
 refine AOL.nil (thenN ?_)
 refine AW.seq (AW.region ?_)
 refine AOL.p (P_fieldAddr_ptr (cs' := [.int .i64 _, _, .int .i64 _]) tok rfl rfl rfl rfl rfl rfl) rfl ?_
 refine AOL.p (P_load_ptr (c := .int .i64 _) tok rfl rfl rfl) rfl ?_
 refine AOL.p (P_assign (v := .int .i64 _) rfl) rfl ?_
 refine AOL.nil (thenN ?_)
 refine AW.cut (fun (u : Int) => (⟨[(1, .ptr (cSyn t)), (3, .int .i64 u)], H, 125⟩ : St)) (fun (u : Int) => numberR t = tailR t u) ?_ ?_
 ·
  refine AW.seq (AW.region ?_)
  refine AOL.p (P_fieldAddr_ptr (cs' := [.int .i64 _, .str _, .str _, .int .i64 _, _, .int .i64 _]) tok rfl rfl rfl rfl rfl rfl) rfl ?_
  refine AOL.p (P_load_ptr (c := .int .i64 _) tok rfl rfl rfl) rfl ?_
  refine AOL.nil (thenN ?_)
  refine AW.block ?_
  refine AW.seq (AW.region ?_)
  refine AOL.p (P_eql rfl rfl) rfl ?_
  refine AOL.p (P_assign (v := .bool _) rfl) rfl ?_
  refine AOL.nil (thenN ?_)
  refine AW.cond (b := _) rfl (fun hc1 => ?_) (fun hc1 => ?_)
  ·
   refine AW.seq (AW.region ?_)
   refine AOL.p (P_load_ptr_agg (l := [.int .i64 _, .str _, .str _, .int .i64 _, _, .int .i64 _]) tok rfl rfl rfl rfl rfl) rfl ?_
   refine AOL.p (P_callf (by kernel_rfl) rfl rfl ((const_eq' t ▸ r_const t))) rfl ?_
   refine AOL.p (P_assign (v := .int .i64 _) rfl) rfl ?_
   refine AOL.nil (thenN ?_)
   refine AW.ret ?_
   refine blkR ?_
   refine thenR ?_
   refine ⟨.inr rfl, [.int .i64 _], .cons (.tmp _ _ rfl) <| .nil, .refl _, ?_⟩
   have h9 : numberR t = constC t := if_pos hc1
   rw [h9]; rfl
  ·
   refine AW.seq (AW.region ?_)
   refine AOL.p (P_eql rfl rfl) rfl ?_
   refine AOL.p (P_assign (v := .bool _) rfl) rfl ?_
   refine AOL.nil (thenN ?_)
   refine AW.cond (b := _) rfl (fun hc2 => ?_) (fun hc2 => ?_)
   ·
    have h8 : numberR t = if (decide (t.num < 0) || decide (2 < t.num)) then 1 else tailR t 0 := (ifF hc1).trans (if_pos hc2)
    refine AW.seq ?_
    refine AW.seq (AW.region ?_)
    refine AOL.p (P_fieldAddr_ptr (cs' := [.int .i64 _, _, .int .i64 _]) tok rfl rfl rfl rfl rfl rfl) rfl ?_
    refine AOL.p (P_load_ptr (c := .int .i64 _) tok rfl rfl rfl) rfl ?_
    refine AOL.p (P_lss rfl rfl) rfl ?_
    refine AOL.p (P_move (v := .bool _) rfl) rfl ?_
    refine AOL.g (y := .ptr _) _ [] rfl (EntL.all trivial) (fun hG => P_fieldAddr_ptr (cs' := [.int .i64 _, _, .int .i64 _]) tok rfl rfl rfl rfl rfl rfl) rfl ?_
    refine AOL.g (y := .int .i64 _) _ [(20, _)] rfl (EntL.all ⟨Ent.self _ _, trivial⟩) (fun hG => P_load_ptr (c := .int .i64 _) tok rfl rfl rfl) rfl ?_
    refine AOL.g (y := .bool _) _ [(21, _)] rfl (EntL.all ⟨Ent.self _ _, trivial⟩) (fun hG => P_gtr rfl rfl) rfl ?_
    refine AOL.p (P_pick_or rfl rfl rfl) rfl ?_
    refine AOL.nil (thenN ?_)
    refine AW.cond (b := _) rfl (fun hc3 => ?_) (fun hc3 => ?_)
    ·
     refine AW.seq (AW.region ?_)
     refine AOL.p (P_assign (v := .int .i64 _) rfl) rfl ?_
     refine AOL.nil (thenN ?_)
     refine AW.ret ?_
     refine thenR ?_
     refine blkR ?_
     refine thenR ?_
     refine ⟨.inr rfl, [.int .i64 _], .cons (.tmp _ _ rfl) <| .nil, .refl _, ?_⟩
     rw [h8, if_pos hc3]; rfl
    ·
     refine AW.skip ?_
     refine thenN ?_
     refine AW.region ?_
     refine AOL.p (P_assign (v := .int .i64 _) rfl) rfl ?_
     refine AOL.nil ?_
     refine blkN ?_
     refine thenN ?_
     refine ⟨0, ?_, GS.weaken ⟨rfl, rfl, trivial⟩ (.refl _)⟩
     exact h8.trans (ifF hc3)
   ·
    refine AW.seq (AW.region ?_)
    refine AOL.p (P_eql rfl rfl) rfl ?_
    refine AOL.p (P_assign (v := .bool _) rfl) rfl ?_
    refine AOL.nil (thenN ?_)
    refine AW.cond (b := _) rfl (fun hc4 => ?_) (fun hc4 => ?_)
    ·
     have h8 : numberR t = if (decide (t.num < 1) || decide (5 < t.num)) then 1 else tailR t 0 := ((ifF hc1).trans (ifF hc2)).trans (if_pos hc4)
     refine AW.seq ?_
     refine AW.seq (AW.region ?_)
     refine AOL.p (P_fieldAddr_ptr (cs' := [.int .i64 _, _, .int .i64 _]) tok rfl rfl rfl rfl rfl rfl) rfl ?_
     refine AOL.p (P_load_ptr (c := .int .i64 _) tok rfl rfl rfl) rfl ?_
     refine AOL.p (P_lss rfl rfl) rfl ?_
     refine AOL.p (P_move (v := .bool _) rfl) rfl ?_
     refine AOL.g (y := .ptr _) _ [] rfl (EntL.all trivial) (fun hG => P_fieldAddr_ptr (cs' := [.int .i64 _, _, .int .i64 _]) tok rfl rfl rfl rfl rfl rfl) rfl ?_
     refine AOL.g (y := .int .i64 _) _ [(30, _)] rfl (EntL.all ⟨Ent.self _ _, trivial⟩) (fun hG => P_load_ptr (c := .int .i64 _) tok rfl rfl rfl) rfl ?_
     refine AOL.g (y := .bool _) _ [(31, _)] rfl (EntL.all ⟨Ent.self _ _, trivial⟩) (fun hG => P_gtr rfl rfl) rfl ?_
     refine AOL.p (P_pick_or rfl rfl rfl) rfl ?_
     refine AOL.nil (thenN ?_)
     refine AW.cond (b := _) rfl (fun hc5 => ?_) (fun hc5 => ?_)
     ·
      refine AW.seq (AW.region ?_)
      refine AOL.p (P_assign (v := .int .i64 _) rfl) rfl ?_
      refine AOL.nil (thenN ?_)
      refine AW.ret ?_
      refine thenR ?_
      refine blkR ?_
      refine thenR ?_
      refine ⟨.inr rfl, [.int .i64 _], .cons (.tmp _ _ rfl) <| .nil, .refl _, ?_⟩
      rw [h8, if_pos hc5]; rfl
     ·
      refine AW.skip ?_
      refine thenN ?_
      refine AW.region ?_
      refine AOL.p (P_assign (v := .int .i64 _) rfl) rfl ?_
      refine AOL.nil ?_
      refine blkN ?_
      refine thenN ?_
      refine ⟨0, ?_, GS.weaken ⟨rfl, rfl, trivial⟩ (.refl _)⟩
      exact h8.trans (ifF hc5)
    ·
     refine AW.seq (AW.region ?_)
     refine AOL.p (P_eql rfl rfl) rfl ?_
     refine AOL.p (P_assign (v := .bool _) rfl) rfl ?_
     refine AOL.nil (thenN ?_)
     refine AW.cond (b := _) rfl (fun hc6 => ?_) (fun hc6 => ?_)
     ·
      have h8 : numberR t = if (decide (t.num < 5) || decide (11 < t.num)) then 1 else tailR t 0 := (((ifF hc1).trans (ifF hc2)).trans (ifF hc4)).trans (if_pos hc6)
      refine AW.seq ?_
      refine AW.seq (AW.region ?_)
      refine AOL.p (P_fieldAddr_ptr (cs' := [.int .i64 _, _, .int .i64 _]) tok rfl rfl rfl rfl rfl rfl) rfl ?_
      refine AOL.p (P_load_ptr (c := .int .i64 _) tok rfl rfl rfl) rfl ?_
      refine AOL.p (P_lss rfl rfl) rfl ?_
      refine AOL.p (P_move (v := .bool _) rfl) rfl ?_
      refine AOL.g (y := .ptr _) _ [] rfl (EntL.all trivial) (fun hG => P_fieldAddr_ptr (cs' := [.int .i64 _, _, .int .i64 _]) tok rfl rfl rfl rfl rfl rfl) rfl ?_
      refine AOL.g (y := .int .i64 _) _ [(40, _)] rfl (EntL.all ⟨Ent.self _ _, trivial⟩) (fun hG => P_load_ptr (c := .int .i64 _) tok rfl rfl rfl) rfl ?_
      refine AOL.g (y := .bool _) _ [(41, _)] rfl (EntL.all ⟨Ent.self _ _, trivial⟩) (fun hG => P_gtr rfl rfl) rfl ?_
      refine AOL.p (P_pick_or rfl rfl rfl) rfl ?_
      refine AOL.nil (thenN ?_)
      refine AW.cond (b := _) rfl (fun hc7 => ?_) (fun hc7 => ?_)
      ·
       refine AW.seq (AW.region ?_)
       refine AOL.p (P_assign (v := .int .i64 _) rfl) rfl ?_
       refine AOL.nil (thenN ?_)
       refine AW.ret ?_
       refine thenR ?_
       refine blkR ?_
       refine thenR ?_
       refine ⟨.inr rfl, [.int .i64 _], .cons (.tmp _ _ rfl) <| .nil, .refl _, ?_⟩
       rw [h8, if_pos hc7]; rfl
      ·
       refine AW.skip ?_
       refine thenN ?_
       refine AW.region ?_
       refine AOL.p (P_assign (v := .int .i64 _) rfl) rfl ?_
       refine AOL.nil ?_
       refine blkN ?_
       refine thenN ?_
       refine ⟨0, ?_, GS.weaken ⟨rfl, rfl, trivial⟩ (.refl _)⟩
       exact h8.trans (ifF hc7)
     ·
      refine AW.seq (AW.region ?_)
      refine AOL.p (P_eql rfl rfl) rfl ?_
      refine AOL.p (P_assign (v := .bool _) rfl) rfl ?_
      refine AOL.nil (thenN ?_)
      refine AW.cond (b := _) rfl (fun hc8 => ?_) (fun hc8 => ?_)
      ·
       have h8 : numberR t = if (decide (t.num < 0) || decide (1099511627776 < t.num)) then 2 else tailR t 0 := ((((ifF hc1).trans (ifF hc2)).trans (ifF hc4)).trans (ifF hc6)).trans (if_pos hc8)
       refine AW.seq ?_
       refine AW.seq (AW.region ?_)
       refine AOL.p (P_fieldAddr_ptr (cs' := [.int .i64 _, _, .int .i64 _]) tok rfl rfl rfl rfl rfl rfl) rfl ?_
       refine AOL.p (P_load_ptr (c := .int .i64 _) tok rfl rfl rfl) rfl ?_
       refine AOL.p (P_lss rfl rfl) rfl ?_
       refine AOL.p (P_move (v := .bool _) rfl) rfl ?_
       refine AOL.g (y := .ptr _) _ [] rfl (EntL.all trivial) (fun hG => P_fieldAddr_ptr (cs' := [.int .i64 _, _, .int .i64 _]) tok rfl rfl rfl rfl rfl rfl) rfl ?_
       refine AOL.g (y := .int .i64 _) _ [(50, _)] rfl (EntL.all ⟨Ent.self _ _, trivial⟩) (fun hG => P_load_ptr (c := .int .i64 _) tok rfl rfl rfl) rfl ?_
       refine AOL.g (y := .bool _) _ [(51, _)] rfl (EntL.all ⟨Ent.self _ _, trivial⟩) (fun hG => P_gtr rfl rfl) rfl ?_
       refine AOL.p (P_pick_or rfl rfl rfl) rfl ?_
       refine AOL.nil (thenN ?_)
       refine AW.cond (b := _) rfl (fun hc9 => ?_) (fun hc9 => ?_)
       ·
        refine AW.seq (AW.region ?_)
        refine AOL.p (P_assign (v := .int .i64 _) rfl) rfl ?_
        refine AOL.nil (thenN ?_)
        refine AW.ret ?_
        refine thenR ?_
        refine blkR ?_
        refine thenR ?_
        refine ⟨.inr rfl, [.int .i64 _], .cons (.tmp _ _ rfl) <| .nil, .refl _, ?_⟩
        rw [h8, if_pos hc9]; rfl
       ·
        refine AW.skip ?_
        refine thenN ?_
        refine AW.region ?_
        refine AOL.p (P_assign (v := .int .i64 _) rfl) rfl ?_
        refine AOL.nil ?_
        refine blkN ?_
        refine thenN ?_
        refine ⟨0, ?_, GS.weaken ⟨rfl, rfl, trivial⟩ (.refl _)⟩
        exact h8.trans (ifF hc9)
      ·
       have h8 : numberR t = tailR t t.num := ((((ifF hc1).trans (ifF hc2)).trans (ifF hc4)).trans (ifF hc6)).trans (ifF hc8)
       refine AW.skip ?_
       refine blkN ?_
       refine thenN ?_
       refine ⟨t.num, ?_, GS.weaken ⟨rfl, rfl, trivial⟩ (.refl _)⟩
       exact h8
 ·
  rintro u hR
  refine AW.seq (AW.region ?_)
  refine AOL.p (P_fieldAddr_ptr (cs' := [.int .i64 _, .str _, .str _, .int .i64 _, _, .int .i64 _]) tok rfl rfl rfl rfl rfl rfl) rfl ?_
  refine AOL.p (P_load_ptr (c := .int .i64 _) tok rfl rfl rfl) rfl ?_
  refine AOL.p (P_eql rfl rfl) rfl ?_
  refine AOL.p (P_move (v := .bool _) rfl) rfl ?_
  refine AOL.g (y := .ptr _) _ [] rfl (EntL.all trivial) (fun hG => P_fieldAddr_ptr (cs' := [.int .i64 _, .str _, .str _, .int .i64 _, _, .int .i64 _]) tok rfl rfl rfl rfl rfl rfl) rfl ?_
  refine AOL.g (y := .int .i64 _) _ [(58, _)] rfl (EntL.all ⟨Ent.self _ _, trivial⟩) (fun hG => P_load_ptr (c := .int .i64 _) tok rfl rfl rfl) rfl ?_
  refine AOL.g (y := .bool _) _ [(59, _)] rfl (EntL.all ⟨Ent.self _ _, trivial⟩) (fun hG => P_eql rfl rfl) rfl ?_
  refine AOL.p (P_pick_or rfl rfl rfl) rfl ?_
  refine AOL.p (P_move (v := .bool _) rfl) rfl ?_
  refine AOL.g (y := .ptr _) _ [] rfl (EntL.all trivial) (fun hG => P_fieldAddr_ptr (cs' := [.int .i64 _, .str _, .str _, .int .i64 _, _, .int .i64 _]) tok rfl rfl rfl rfl rfl rfl) rfl ?_
  refine AOL.g (y := .int .i64 _) _ [(63, _)] rfl (EntL.all ⟨Ent.self _ _, trivial⟩) (fun hG => P_load_ptr (c := .int .i64 _) tok rfl rfl rfl) rfl ?_
  refine AOL.g (y := .bool _) _ [(64, _)] rfl (EntL.all ⟨Ent.self _ _, trivial⟩) (fun hG => P_eql rfl rfl) rfl ?_
  refine AOL.p (P_pick_or rfl rfl rfl) rfl ?_
  refine AOL.p (P_move (v := .bool _) rfl) rfl ?_
  refine AOL.g (y := .ptr _) _ [] rfl (EntL.all trivial) (fun hG => P_fieldAddr_ptr (cs' := [.int .i64 _, .str _, .str _, .int .i64 _, _, .int .i64 _]) tok rfl rfl rfl rfl rfl rfl) rfl ?_
  refine AOL.g (y := .int .i64 _) _ [(68, _)] rfl (EntL.all ⟨Ent.self _ _, trivial⟩) (fun hG => P_load_ptr (c := .int .i64 _) tok rfl rfl rfl) rfl ?_
  refine AOL.g (y := .bool _) _ [(69, _)] rfl (EntL.all ⟨Ent.self _ _, trivial⟩) (fun hG => P_eql rfl rfl) rfl ?_
  refine AOL.p (P_pick_or rfl rfl rfl) rfl ?_
  refine AOL.p (P_move (v := .bool _) rfl) rfl ?_
  refine AOL.g (y := .ptr _) _ [] rfl (EntL.all trivial) (fun hG => P_fieldAddr_ptr (cs' := [.int .i64 _, .str _, .str _, .int .i64 _, _, .int .i64 _]) tok rfl rfl rfl rfl rfl rfl) rfl ?_
  refine AOL.g (y := .int .i64 _) _ [(73, _)] rfl (EntL.all ⟨Ent.self _ _, trivial⟩) (fun hG => P_load_ptr (c := .int .i64 _) tok rfl rfl rfl) rfl ?_
  refine AOL.g (y := .bool _) _ [(74, _)] rfl (EntL.all ⟨Ent.self _ _, trivial⟩) (fun hG => P_eql rfl rfl) rfl ?_
  refine AOL.p (P_pick_or rfl rfl rfl) rfl ?_
  refine AOL.p (P_move (v := .bool _) rfl) rfl ?_
  refine AOL.g (y := .ptr _) _ [] rfl (EntL.all trivial) (fun hG => P_fieldAddr_ptr (cs' := [.int .i64 _, .str _, .str _, .int .i64 _, _, .int .i64 _]) tok rfl rfl rfl rfl rfl rfl) rfl ?_
  refine AOL.g (y := .int .i64 _) _ [(78, _)] rfl (EntL.all ⟨Ent.self _ _, trivial⟩) (fun hG => P_load_ptr (c := .int .i64 _) tok rfl rfl rfl) rfl ?_
  refine AOL.g (y := .bool _) _ [(79, _)] rfl (EntL.all ⟨Ent.self _ _, trivial⟩) (fun hG => P_eql rfl rfl) rfl ?_
  refine AOL.p (P_pick_or rfl rfl rfl) rfl ?_
  refine AOL.p (P_move (v := .bool _) rfl) rfl ?_
  refine AOL.g (y := .ptr _) _ [] rfl (EntL.all trivial) (fun hG => P_fieldAddr_ptr (cs' := [.int .i64 _, .str _, .str _, .int .i64 _, _, .int .i64 _]) tok rfl rfl rfl rfl rfl rfl) rfl ?_
  refine AOL.g (y := .int .i64 _) _ [(83, _)] rfl (EntL.all ⟨Ent.self _ _, trivial⟩) (fun hG => P_load_ptr (c := .int .i64 _) tok rfl rfl rfl) rfl ?_
  refine AOL.g (y := .bool _) _ [(84, _)] rfl (EntL.all ⟨Ent.self _ _, trivial⟩) (fun hG => P_eql rfl rfl) rfl ?_
  refine AOL.p (P_pick_or rfl rfl rfl) rfl ?_
  refine AOL.p (P_move (v := .bool _) rfl) rfl ?_
  refine AOL.g (y := .ptr _) _ [] rfl (EntL.all trivial) (fun hG => P_fieldAddr_ptr (cs' := [.int .i64 _, .str _, .str _, .int .i64 _, _, .int .i64 _]) tok rfl rfl rfl rfl rfl rfl) rfl ?_
  refine AOL.g (y := .int .i64 _) _ [(88, _)] rfl (EntL.all ⟨Ent.self _ _, trivial⟩) (fun hG => P_load_ptr (c := .int .i64 _) tok rfl rfl rfl) rfl ?_
  refine AOL.g (y := .bool _) _ [(89, _)] rfl (EntL.all ⟨Ent.self _ _, trivial⟩) (fun hG => P_eql rfl rfl) rfl ?_
  refine AOL.p (P_pick_or rfl rfl rfl) rfl ?_
  refine AOL.p (P_assign (v := .bool _) rfl) rfl ?_
  refine AOL.nil (thenN ?_)
  refine AW.seq (AW.region ?_)
  refine AOL.p (P_fieldAddr_ptr (cs' := [.int .i64 _, .str _, .str _, .int .i64 _, _, .int .i64 _]) tok rfl rfl rfl rfl rfl rfl) rfl ?_
  refine AOL.p (P_load_ptr (c := .int .i64 _) tok rfl rfl rfl) rfl ?_
  refine AOL.p (P_eql rfl rfl) rfl ?_
  refine AOL.p (P_move (v := .bool _) rfl) rfl ?_
  refine AOL.g (y := .ptr _) _ [] rfl (EntL.all trivial) (fun hG => P_fieldAddr_ptr (cs' := [.int .i64 _, .str _, .str _, .int .i64 _, _, .int .i64 _]) tok rfl rfl rfl rfl rfl rfl) rfl ?_
  refine AOL.g (y := .int .i64 _) _ [(96, _)] rfl (EntL.all ⟨Ent.self _ _, trivial⟩) (fun hG => P_load_ptr (c := .int .i64 _) tok rfl rfl rfl) rfl ?_
  refine AOL.g (y := .bool _) _ [(97, _)] rfl (EntL.all ⟨Ent.self _ _, trivial⟩) (fun hG => P_eql rfl rfl) rfl ?_
  refine AOL.p (P_pick_or rfl rfl rfl) rfl ?_
  refine AOL.p (P_move (v := .bool _) rfl) rfl ?_
  refine AOL.g (y := .ptr _) _ [] rfl (EntL.all trivial) (fun hG => P_fieldAddr_ptr (cs' := [.int .i64 _, .str _, .str _, .int .i64 _, _, .int .i64 _]) tok rfl rfl rfl rfl rfl rfl) rfl ?_
  refine AOL.g (y := .int .i64 _) _ [(101, _)] rfl (EntL.all ⟨Ent.self _ _, trivial⟩) (fun hG => P_load_ptr (c := .int .i64 _) tok rfl rfl rfl) rfl ?_
  refine AOL.g (y := .bool _) _ [(102, _)] rfl (EntL.all ⟨Ent.self _ _, trivial⟩) (fun hG => P_eql rfl rfl) rfl ?_
  refine AOL.p (P_pick_or rfl rfl rfl) rfl ?_
  refine AOL.p (P_assign (v := .bool _) rfl) rfl ?_
  refine AOL.nil (thenN ?_)
  refine AW.seq ?_
  refine AW.seq (AW.region ?_)
  refine AOL.p (P_move (v := .int .i64 _) rfl) rfl ?_
  refine AOL.p (P_neq rfl rfl) rfl ?_
  refine AOL.p (P_move (v := .bool _) rfl) rfl ?_
  refine AOL.g (y := .bool _) _ [] rfl (EntL.all trivial) (fun hG => P_move (v := .bool _) rfl) rfl ?_
  refine AOL.g (y := .bool _) _ [(108, _)] rfl (EntL.all ⟨Ent.self _ _, trivial⟩) (fun hG => P_not rfl) rfl ?_
  refine AOL.g (y := .bool _) _ [(109, _)] rfl (EntL.all ⟨Ent.self _ _, trivial⟩) (fun hG => P_move (v := .bool _) rfl) rfl ?_
  refine AOL.g (y := .ptr _) _ [] rfl (EntL.all trivial) (fun hG => P_fieldAddr_ptr (cs' := [.str _, .str _, .int .i64 _, _, .int .i64 _]) tok rfl rfl rfl rfl rfl rfl) rfl ?_
  refine AOL.g (y := .str _) _ [(111, _)] rfl (EntL.all ⟨Ent.self _ _, trivial⟩) (fun hG => P_load_ptr (c := .str _) tok rfl rfl rfl) rfl ?_
  refine AOL.g (y := .bool _) _ [(112, _)] rfl (EntL.all ⟨Ent.self _ _, trivial⟩) (fun hG => P_neq_str rfl rfl) rfl ?_
  refine AOL.g (y := .bool _) _ [(110, _), (113, _)] rfl (EntL.all ⟨Ent.self _ _, Ent.suf _ _ _, trivial⟩) (fun hG => P_pick_and rfl rfl rfl) rfl ?_
  refine AOL.p (P_pick_or rfl rfl rfl) rfl ?_
  refine AOL.p (P_move (v := .bool _) rfl) rfl ?_
  refine AOL.g (y := .bool _) _ [] rfl (EntL.all trivial) (fun hG => P_move (v := .bool _) rfl) rfl ?_
  refine AOL.g (y := .bool _) _ [(117, _)] rfl (EntL.all ⟨Ent.self _ _, trivial⟩) (fun hG => P_not rfl) rfl ?_
  refine AOL.g (y := .bool _) _ [(118, _)] rfl (EntL.all ⟨Ent.self _ _, trivial⟩) (fun hG => P_move (v := .bool _) rfl) rfl ?_
  refine AOL.g (y := .ptr _) _ [] rfl (EntL.all trivial) (fun hG => P_fieldAddr_ptr (cs' := [.str _, .int .i64 _, _, .int .i64 _]) tok rfl rfl rfl rfl rfl rfl) rfl ?_
  refine AOL.g (y := .str _) _ [(120, _)] rfl (EntL.all ⟨Ent.self _ _, trivial⟩) (fun hG => P_load_ptr (c := .str _) tok rfl rfl rfl) rfl ?_
  refine AOL.g (y := .bool _) _ [(121, _)] rfl (EntL.all ⟨Ent.self _ _, trivial⟩) (fun hG => P_neq_str rfl rfl) rfl ?_
  refine AOL.g (y := .bool _) _ [(119, _), (122, _)] rfl (EntL.all ⟨Ent.self _ _, Ent.suf _ _ _, trivial⟩) (fun hG => P_pick_and rfl rfl rfl) rfl ?_
  refine AOL.p (P_pick_or rfl rfl rfl) rfl ?_
  refine AOL.nil (thenN ?_)
  refine AW.cond (b := _) rfl (fun hc10 => ?_) (fun hc10 => ?_)
  ·
   refine AW.seq (AW.region ?_)
   refine AOL.p (P_assign (v := .int .i64 _) rfl) rfl ?_
   refine AOL.nil (thenN ?_)
   refine AW.ret ?_
   refine thenR ?_
   refine ⟨.inr rfl, [.int .i64 _], .cons (.tmp _ _ rfl) <| .nil, .refl _, ?_⟩
   have h9 : numberR t = 3 := hR.trans (if_pos hc10)
   rw [h9]; rfl
  ·
   refine AW.skip ?_
   refine thenN ?_
   refine AW.seq (AW.region ?_)
   refine AOL.p (P_assign (v := .int .i64 _) rfl) rfl ?_
   refine AOL.nil (thenN ?_)
   refine AW.ret ?_
   refine ⟨.inr rfl, [.int .i64 _], .cons (.tmp _ _ rfl) <| .nil, .refl _, ?_⟩
   have h9 : numberR t = 0 := hR.trans (ifF hc10)
   rw [h9]; rfl
set_option maxRecDepth 20000 in
set_option maxHeartbeats 3200000 in
theorem r_kid (t : Syn) (i : Nat) (hi : i < t.kids.length) (hl : t.kids.length ≤ 1048576) : APure Tryz.prog 86 [.agg (cSyn t), .int .i64 (i : Int)] (.int .i64 (kidR t i)) := by
 refine APure.body (n := 52) tok Tryz.func86 rfl rfl rfl fun H => ?_
 refine AW.seq (AW.region ?_)
 refine AOL.p (P_box (v := .agg _) (cs := [.int .i64 _, .str _, .str _, .int .i64 _, _, .int .i64 _]) rfl rfl rfl) rfl ?_
 refine AOL.p (P_assign (v := .int .i64 _) rfl) rfl ?_
 refine AOL.nil (thenN ?_)
 refine AW.seq ?_
 refine AW.seq (AW.region ?_)
 refine AOL.p (P_fieldAddr_ptr (cs' := [.int .i64 _, .str _, .str _, .int .i64 _, _, .int .i64 _]) tok rfl rfl rfl rfl rfl rfl) rfl ?_
 refine AOL.p (P_load_ptr (c := .int .i64 _) tok rfl rfl rfl) rfl ?_
 refine AOL.nil (thenN ?_)
 refine AW.block ?_
 refine AW.seq (AW.region ?_)
 refine AOL.p (P_eql rfl rfl) rfl ?_
 refine AOL.p (P_assign (v := .bool _) rfl) rfl ?_
 refine AOL.nil (thenN ?_)
 refine AW.cond (b := _) rfl (fun hc1 => ?_) (fun hc1 => ?_)
 ·
  refine AW.seq ?_
  refine AW.seq (AW.region ?_)
  refine AOL.p (P_fieldAddr_ptr (cs' := [_, .int .i64 _]) tok rfl rfl rfl rfl rfl rfl) rfl ?_
  refine AOL.p (P_load_ptr (c := .sl _ _) tok rfl rfl rfl) rfl ?_
  refine AOL.p (P_move (v := .int .i64 _) rfl) rfl ?_
  refine AOL.p (P_indexAddr (c := cSyn (kidN t i)) tok rfl rfl rfl rfl rfl rfl (by omega) (encS_at (kid_has hi))) rfl ?_
  refine AOL.p (P_fieldAddr_ptr (cs' := [.int .i64 _, .str _, .str _, .int .i64 _, _, .int .i64 _]) tok rfl rfl rfl rfl rfl rfl) rfl ?_
  refine AOL.p (P_load_ptr (c := .int .i64 _) tok rfl rfl rfl) rfl ?_
  refine AOL.p (P_eql rfl rfl) rfl ?_
  refine AOL.p (P_move (v := .bool _) rfl) rfl ?_
  refine AOL.g (y := .int .i64 _) _ [] rfl (EntL.all trivial) (fun hG => P_move (v := .int .i64 _) rfl) rfl ?_
  refine AOL.g (y := .bool _) _ [(17, _)] rfl (EntL.all ⟨Ent.self _ _, trivial⟩) (fun hG => P_eql rfl rfl) rfl ?_
  refine AOL.g (y := .bool _) _ [(18, _)] rfl (EntL.all ⟨Ent.self _ _, trivial⟩) (fun hG => P_move (v := .bool _) rfl) rfl ?_
  refine AOL.g (y := .ptr _) _ [] rfl (EntL.all trivial) (fun hG => P_fieldAddr_ptr (cs' := [_, .int .i64 _]) tok rfl rfl rfl rfl rfl rfl) rfl ?_
  refine AOL.g (y := .sl _ _) _ [(20, _)] rfl (EntL.all ⟨Ent.self _ _, trivial⟩) (fun hG => P_load_ptr (c := .sl _ _) tok rfl rfl rfl) rfl ?_
  refine AOL.g (y := .int .i64 _) _ [] rfl (EntL.all trivial) (fun hG => P_move (v := .int .i64 _) rfl) rfl ?_
  refine AOL.g (y := .int .i64 _) _ [(22, _)] rfl (EntL.all ⟨Ent.self _ _, trivial⟩) (fun hG => P_sub rfl rfl rfl (by constructor <;> omega)) rfl ?_
  refine AOL.g (y := .ptr _) _ [(21, _), (23, _)] rfl (EntL.all ⟨Ent.self _ _, Ent.self _ _, trivial⟩) (fun hG => P_indexAddr (c := cSyn (kidN t (i - 1))) tok rfl rfl rfl rfl rfl rfl ((kid_prev hi hG).1) ((kid_prev hi hG).2)) rfl ?_
  refine AOL.g (y := .ptr _) _ [(24, _)] rfl (EntL.all ⟨Ent.self _ _, trivial⟩) (fun hG => P_fieldAddr_ptr (cs' := [.int .i64 _, .str _, .str _, .int .i64 _, _, .int .i64 _]) tok rfl rfl rfl rfl rfl rfl) rfl ?_
  refine AOL.g (y := .int .i64 _) _ [(25, _)] rfl (EntL.all ⟨Ent.self _ _, trivial⟩) (fun hG => P_load_ptr (c := .int .i64 _) tok rfl rfl rfl) rfl ?_
  refine AOL.g (y := .bool _) _ [(26, _)] rfl (EntL.all ⟨Ent.self _ _, trivial⟩) (fun hG => P_eql rfl rfl) rfl ?_
  refine AOL.g (y := .bool _) _ [(19, _), (27, _)] rfl (EntL.all ⟨Ent.self _ _, Ent.suf _ _ _, trivial⟩) (fun hG => P_pick_or rfl rfl rfl) rfl ?_
  refine AOL.p (P_pick_and rfl rfl rfl) rfl ?_
  refine AOL.nil (thenN ?_)
  refine AW.cond (b := _) rfl (fun hc2 => ?_) (fun hc2 => ?_)
  ·
   refine AW.seq (AW.region ?_)
   refine AOL.p (P_assign (v := .int .i64 _) rfl) rfl ?_
   refine AOL.nil (thenN ?_)
   refine AW.ret ?_
   refine thenR ?_
   refine blkR ?_
   refine thenR ?_
   refine ⟨.inr rfl, [.int .i64 _], .cons (.tmp _ _ rfl) <| .nil, .refl _, ?_⟩
   simp only [resOf, kidR, hc1, hc2, ↓reduceIte, Bool.false_eq_true]
  ·
   refine AW.skip ?_
   refine thenN ?_
   refine AW.seq (AW.region ?_)
   refine AOL.p (P_assign (v := .int .i64 _) rfl) rfl ?_
   refine AOL.nil (thenN ?_)
   refine AW.ret ?_
   refine blkR ?_
   refine thenR ?_
   refine ⟨.inr rfl, [.int .i64 _], .cons (.tmp _ _ rfl) <| .nil, .refl _, ?_⟩
   simp only [resOf, kidR, hc1, hc2, ↓reduceIte, Bool.false_eq_true]
 ·
  refine AW.seq (AW.region ?_)
  refine AOL.p (P_eql rfl rfl) rfl ?_
  refine AOL.p (P_assign (v := .bool _) rfl) rfl ?_
  refine AOL.nil (thenN ?_)
  refine AW.cond (b := _) rfl (fun hc3 => ?_) (fun hc3 => ?_)
  ·
   refine AW.seq (AW.region ?_)
   refine AOL.p (P_assign (v := .int .i64 _) rfl) rfl ?_
   refine AOL.nil (thenN ?_)
   refine AW.ret ?_
   refine blkR ?_
   refine thenR ?_
   refine ⟨.inr rfl, [.int .i64 _], .cons (.tmp _ _ rfl) <| .nil, .refl _, ?_⟩
   simp only [resOf, kidR, hc1, hc3, ↓reduceIte, Bool.false_eq_true]
  ·
   refine AW.seq (AW.region ?_)
   refine AOL.p (P_eql rfl rfl) rfl ?_
   refine AOL.p (P_assign (v := .bool _) rfl) rfl ?_
   refine AOL.nil (thenN ?_)
   refine AW.cond (b := _) rfl (fun hc4 => ?_) (fun hc4 => ?_)
   ·
    refine AW.seq ?_
    refine AW.seq (AW.region ?_)
    refine AOL.p (P_move (v := .int .i64 _) rfl) rfl ?_
    refine AOL.p (P_lss rfl rfl) rfl ?_
    refine AOL.nil (thenN ?_)
    refine AW.cond (b := _) rfl (fun hc5 => ?_) (fun hc5 => ?_)
    ·
     refine AW.seq (AW.region ?_)
     refine AOL.p (P_move (v := .int .i64 _) rfl) rfl ?_
     refine AOL.p (P_add rfl rfl rfl (by constructor <;> omega)) rfl ?_
     refine AOL.p (P_assign (v := .int .i64 _) rfl) rfl ?_
     refine AOL.nil (thenN ?_)
     refine AW.ret ?_
     refine thenR ?_
     refine blkR ?_
     refine thenR ?_
     refine ⟨.inr rfl, [.int .i64 _], .cons (.tmp _ _ rfl) <| .nil, .refl _, ?_⟩
     simp only [resOf, kidR, hc1, hc3, hc4, hc5, ↓reduceIte, Bool.false_eq_true]
    ·
     refine AW.skip ?_
     refine thenN ?_
     refine AW.seq (AW.region ?_)
     refine AOL.p (P_assign (v := .int .i64 _) rfl) rfl ?_
     refine AOL.nil (thenN ?_)
     refine AW.ret ?_
     refine blkR ?_
     refine thenR ?_
     refine ⟨.inr rfl, [.int .i64 _], .cons (.tmp _ _ rfl) <| .nil, .refl _, ?_⟩
     simp only [resOf, kidR, hc1, hc3, hc4, hc5, ↓reduceIte, Bool.false_eq_true]
   ·
    refine AW.seq (AW.region ?_)
    refine AOL.p (P_eql rfl rfl) rfl ?_
    refine AOL.p (P_assign (v := .bool _) rfl) rfl ?_
    refine AOL.nil (thenN ?_)
    refine AW.cond (b := _) rfl (fun hc6 => ?_) (fun hc6 => ?_)
    ·
     refine AW.seq ?_
     refine AW.seq (AW.region ?_)
     refine AOL.p (P_move (v := .int .i64 _) rfl) rfl ?_
     refine AOL.p (P_eql rfl rfl) rfl ?_
     refine AOL.nil (thenN ?_)
     refine AW.cond (b := _) rfl (fun hc7 => ?_) (fun hc7 => ?_)
     ·
      refine AW.seq (AW.region ?_)
      refine AOL.p (P_assign (v := .int .i64 _) rfl) rfl ?_
      refine AOL.nil (thenN ?_)
      refine AW.ret ?_
      refine thenR ?_
      refine blkR ?_
      refine thenR ?_
      refine ⟨.inr rfl, [.int .i64 _], .cons (.tmp _ _ rfl) <| .nil, .refl _, ?_⟩
      simp only [resOf, kidR, hc1, hc3, hc4, hc6, hc7, ↓reduceIte, Bool.false_eq_true]
     ·
      refine AW.skip ?_
      refine thenN ?_
      refine AW.seq (AW.region ?_)
      refine AOL.p (P_assign (v := .int .i64 _) rfl) rfl ?_
      refine AOL.nil (thenN ?_)
      refine AW.ret ?_
      refine blkR ?_
      refine thenR ?_
      refine ⟨.inr rfl, [.int .i64 _], .cons (.tmp _ _ rfl) <| .nil, .refl _, ?_⟩
      simp only [resOf, kidR, hc1, hc3, hc4, hc6, hc7, ↓reduceIte, Bool.false_eq_true]
    ·
     refine AW.seq (AW.region ?_)
     refine AOL.p (P_eql rfl rfl) rfl ?_
     refine AOL.p (P_assign (v := .bool _) rfl) rfl ?_
     refine AOL.nil (thenN ?_)
     refine AW.cond (b := _) rfl (fun hc8 => ?_) (fun hc8 => ?_)
     ·
      refine AW.seq ?_
      refine AW.seq (AW.region ?_)
      refine AOL.p (P_move (v := .int .i64 _) rfl) rfl ?_
      refine AOL.p (P_eql rfl rfl) rfl ?_
      refine AOL.nil (thenN ?_)
      refine AW.cond (b := _) rfl (fun hc9 => ?_) (fun hc9 => ?_)
      ·
       refine AW.seq (AW.region ?_)
       refine AOL.p (P_assign (v := .int .i64 _) rfl) rfl ?_
       refine AOL.nil (thenN ?_)
       refine AW.ret ?_
       refine thenR ?_
       refine blkR ?_
       refine thenR ?_
       refine ⟨.inr rfl, [.int .i64 _], .cons (.tmp _ _ rfl) <| .nil, .refl _, ?_⟩
       simp only [resOf, kidR, hc1, hc3, hc4, hc6, hc8, hc9, ↓reduceIte, Bool.false_eq_true]
      ·
       refine AW.skip ?_
       refine thenN ?_
       refine AW.seq (AW.region ?_)
       refine AOL.p (P_assign (v := .int .i64 _) rfl) rfl ?_
       refine AOL.nil (thenN ?_)
       refine AW.ret ?_
       refine blkR ?_
       refine thenR ?_
       refine ⟨.inr rfl, [.int .i64 _], .cons (.tmp _ _ rfl) <| .nil, .refl _, ?_⟩
       simp only [resOf, kidR, hc1, hc3, hc4, hc6, hc8, hc9, ↓reduceIte, Bool.false_eq_true]
     ·
      refine AW.seq (AW.region ?_)
      refine AOL.p (P_eql rfl rfl) rfl ?_
      refine AOL.p (P_assign (v := .bool _) rfl) rfl ?_
      refine AOL.nil (thenN ?_)
      refine AW.cond (b := _) rfl (fun hc10 => ?_) (fun hc10 => ?_)
      ·
       refine AW.seq (AW.region ?_)
       refine AOL.p (P_assign (v := .int .i64 _) rfl) rfl ?_
       refine AOL.nil (thenN ?_)
       refine AW.ret ?_
       refine blkR ?_
       refine thenR ?_
       refine ⟨.inr rfl, [.int .i64 _], .cons (.tmp _ _ rfl) <| .nil, .refl _, ?_⟩
       simp only [resOf, kidR, hc1, hc3, hc4, hc6, hc8, hc10, ↓reduceIte, Bool.false_eq_true]
      ·
       refine AW.cut (fun (_ : Unit) => (⟨[(2, .ptr (cSyn t)), (48, .bool ((((t.kind == 5) || (t.kind == 17)) || (t.kind == 18))))], H, 52⟩ : St)) (fun (_ : Unit) => True) ?_ ?_
       ·
        refine AW.seq (AW.region ?_)
        refine AOL.p (P_eql rfl rfl) rfl ?_
        refine AOL.p (P_assign (v := .bool _) rfl) rfl ?_
        refine AOL.nil (thenN ?_)
        refine AW.cond (b := _) rfl (fun hc11 => ?_) (fun hc11 => ?_)
        ·
         refine AW.skip ?_
         refine thenN ?_
         refine ⟨(), ?_, GS.weaken ⟨rfl, congrArg AV.bool (by simp [*]), trivial⟩ (.refl _)⟩
         trivial
        ·
         refine AW.seq (AW.region ?_)
         refine AOL.p (P_eql rfl rfl) rfl ?_
         refine AOL.p (P_assign (v := .bool _) rfl) rfl ?_
         refine AOL.nil (thenN ?_)
         refine AW.cond (b := _) rfl (fun hc12 => ?_) (fun hc12 => ?_)
         ·
          refine AW.skip ?_
          refine thenN ?_
          refine ⟨(), ?_, GS.weaken ⟨rfl, congrArg AV.bool (by simp [*]), trivial⟩ (.refl _)⟩
          trivial
         ·
          refine AW.region ?_
          refine AOL.p (P_eql rfl rfl) rfl ?_
          refine AOL.p (P_assign (v := .bool _) rfl) rfl ?_
          refine AOL.nil (thenN ?_)
          refine ⟨(), ?_, GS.weaken ⟨rfl, congrArg AV.bool (by simp [*]), trivial⟩ (.refl _)⟩
          trivial
       ·
        rintro _ _
        refine AW.cond (b := _) rfl (fun hc13 => ?_) (fun hc13 => ?_)
        ·
         refine AW.seq (AW.region ?_)
         refine AOL.p (P_assign (v := .int .i64 _) rfl) rfl ?_
         refine AOL.nil (thenN ?_)
         refine AW.ret ?_
         refine blkR ?_
         refine thenR ?_
         refine ⟨.inr rfl, [.int .i64 _], .cons (.tmp _ _ rfl) <| .nil, .refl _, ?_⟩
         simp only [resOf, kidR, hc1, hc3, hc4, hc6, hc8, hc10, hc13, ↓reduceIte, Bool.false_eq_true]
        ·
         refine AW.skip ?_
         refine blkN ?_
         refine thenN ?_
         refine AW.seq (AW.region ?_)
         refine AOL.p (P_assign (v := .int .i64 _) rfl) rfl ?_
         refine AOL.nil (thenN ?_)
         refine AW.ret ?_
         refine ⟨.inr rfl, [.int .i64 _], .cons (.tmp _ _ rfl) <| .nil, .refl _, ?_⟩
         simp only [resOf, kidR, hc1, hc3, hc4, hc6, hc8, hc10, hc13, ↓reduceIte, Bool.false_eq_true]
set_option maxRecDepth 20000 in
set_option maxHeartbeats 3200000 in
theorem r_check (t : Syn) (p : Pl) (hp : p.ok) (hfew : fewC t = true) : APure Tryz.prog 51 [.agg (cSyn t), .int .i64 p.role] (.int .i64 (checkC t p)) := by
 revert p hp hfew
 induction t using Syn.ind
 rename_i t ih
 intro p hp hfew
 have hkl := few_len hfew
 have htx := few_text hfew
 refine APure.body (n := 43) tok Tryz.func51 rfl rfl rfl fun H => ?_
 refine AW.seq (AW.region ?_)
 refine AOL.p (P_box (v := .agg _) (cs := [.int .i64 _, .str _, .str _, .int .i64 _, _, .int .i64 _]) rfl rfl rfl) rfl ?_
 refine AOL.p (P_assign (v := .int .i64 _) rfl) rfl ?_
 refine AOL.nil (thenN ?_)
 refine AW.seq ?_
 refine AW.seq (AW.region ?_)
 refine AOL.p (P_fieldAddr_ptr (cs' := [.int .i64 _, .str _, .str _, .int .i64 _, _, .int .i64 _]) tok rfl rfl rfl rfl rfl rfl) rfl ?_
 refine AOL.p (P_load_ptr (c := .int .i64 _) tok rfl rfl rfl) rfl ?_
 refine AOL.p (P_move (v := .int .i64 _) rfl) rfl ?_
 refine AOL.p (P_callf (by kernel_rfl) rfl rfl ((stands_eq hp t.kind ▸ r_stands t.kind p.role))) rfl ?_
 refine AOL.p (P_not rfl) rfl ?_
 refine AOL.nil (thenN ?_)
 refine AW.cond (b := _) rfl (fun hc1 => ?_) (fun hc1 => ?_)
 ·
  refine AW.seq (AW.region ?_)
  refine AOL.p (P_assign (v := .int .i64 _) rfl) rfl ?_
  refine AOL.nil (thenN ?_)
  refine AW.ret ?_
  refine thenR ?_
  refine ⟨.inr rfl, [.int .i64 _], .cons (.tmp _ _ rfl) <| .nil, .refl _, ?_⟩
  have h9 : checkC t p = 1 := check_own (if_pos hc1) (by decide)
  rw [h9]; rfl
 ·
  refine AW.skip ?_
  refine thenN ?_
  refine AW.seq ?_
  refine AW.seq (AW.region ?_)
  refine AOL.p (P_load_ptr_agg (l := [.int .i64 _, .str _, .str _, .int .i64 _, _, .int .i64 _]) tok rfl rfl rfl rfl rfl) rfl ?_
  refine AOL.p (P_callf (by kernel_rfl) rfl rfl ((shape_eq t ▸ r_shape t))) rfl ?_
  refine AOL.p (P_not rfl) rfl ?_
  refine AOL.nil (thenN ?_)
  refine AW.cond (b := _) rfl (fun hc2 => ?_) (fun hc2 => ?_)
  ·
   refine AW.seq (AW.region ?_)
   refine AOL.p (P_assign (v := .int .i64 _) rfl) rfl ?_
   refine AOL.nil (thenN ?_)
   refine AW.ret ?_
   refine thenR ?_
   refine ⟨.inr rfl, [.int .i64 _], .cons (.tmp _ _ rfl) <| .nil, .refl _, ?_⟩
   have h9 : checkC t p = 15 := check_own ((ifF hc1).trans (if_pos hc2)) (by decide)
   rw [h9]; rfl
  ·
   refine AW.skip ?_
   refine thenN ?_
   refine AW.seq ?_
   refine AW.seq (AW.region ?_)
   refine AOL.p (P_load_ptr_agg (l := [.int .i64 _, .str _, .str _, .int .i64 _, _, .int .i64 _]) tok rfl rfl rfl rfl rfl) rfl ?_
   refine AOL.p (P_callf (by kernel_rfl) rfl rfl ((names_eq t ▸ r_names t htx.1 htx.2))) rfl ?_
   refine AOL.p (P_not rfl) rfl ?_
   refine AOL.nil (thenN ?_)
   refine AW.cond (b := _) rfl (fun hc3 => ?_) (fun hc3 => ?_)
   ·
    refine AW.seq (AW.region ?_)
    refine AOL.p (P_assign (v := .int .i64 _) rfl) rfl ?_
    refine AOL.nil (thenN ?_)
    refine AW.ret ?_
    refine thenR ?_
    refine ⟨.inr rfl, [.int .i64 _], .cons (.tmp _ _ rfl) <| .nil, .refl _, ?_⟩
    have h9 : checkC t p = 8 := check_own (((ifF hc1).trans (ifF hc2)).trans (if_pos hc3)) (by decide)
    rw [h9]; rfl
   ·
    refine AW.skip ?_
    refine thenN ?_
    refine AW.seq ?_
    refine AW.seq (AW.region ?_)
    refine AOL.p (P_load_ptr_agg (l := [.int .i64 _, .str _, .str _, .int .i64 _, _, .int .i64 _]) tok rfl rfl rfl rfl rfl) rfl ?_
    refine AOL.p (P_callf (by kernel_rfl) rfl rfl ((number_eq t ▸ r_number t))) rfl ?_
    refine AOL.p (P_assign (v := .int .i64 _) rfl) rfl ?_
    refine AOL.nil (thenN ?_)
    refine AW.seq (AW.region ?_)
    refine AOL.p (P_move (v := .int .i64 _) rfl) rfl ?_
    refine AOL.p (P_neq rfl rfl) rfl ?_
    refine AOL.nil (thenN ?_)
    refine AW.cond (b := _) rfl (fun hc4 => ?_) (fun hc4 => ?_)
    ·
     refine AW.seq (AW.region ?_)
     refine AOL.p (P_move (v := .int .i64 _) rfl) rfl ?_
     refine AOL.p (P_assign (v := .int .i64 _) rfl) rfl ?_
     refine AOL.nil (thenN ?_)
     refine AW.ret ?_
     refine thenR ?_
     refine ⟨.inr rfl, [.int .i64 _], .cons (.tmp _ _ rfl) <| .nil, .refl _, ?_⟩
     have h9 : checkC t p = fieldsC t := check_own (((ifF hc1).trans (ifF hc2)).trans (ifF hc3)) (by simpa using hc4)
     rw [h9]; rfl
    ·
     have h0 : ownC p t = 0 := by unfold ownC; rw [ifF hc1, ifF hc2, ifF hc3]; simpa using hc4
     refine AW.skip ?_
     refine thenN ?_
     refine AW.seq ?_
     refine AW.seq (AW.region ?_)
     refine AOL.p (P_assign (v := .int .i64 _) rfl) rfl ?_
     refine AOL.nil (thenN ?_)
     refine AW.block ?_
     refine AW.loopS (fun (k : Nat) => (⟨[(2, .ptr (cSyn t)), (6, .int .i64 (k : Int))], H, 43⟩ : St)) (fun (k : Nat) => k ≤ t.kids.length ∧ checkC t p = kidsE t k (t.kids.drop k)) (fun (k : Nat) => t.kids.length - k) (0) ?_ (GS.weaken ⟨rfl, rfl, trivial⟩ (.refl _)) ?_
     · exact ⟨Nat.zero_le _, check_kids h0⟩
     ·
      rintro k hR
      refine AW.seq ?_
      refine AW.seq (AW.region ?_)
      refine AOL.p (P_move (v := .int .i64 _) rfl) rfl ?_
      refine AOL.p (P_fieldAddr_ptr (cs' := [_, .int .i64 _]) tok rfl rfl rfl rfl rfl rfl) rfl ?_
      refine AOL.p (P_load_ptr (c := .sl _ _) tok rfl rfl rfl) rfl ?_
      refine AOL.p (P_len_sl (n := t.kids.length) tok rfl rfl rfl (by simp)) rfl ?_
      refine AOL.p (P_lss rfl rfl) rfl ?_
      refine AOL.nil (thenN ?_)
      refine AW.cond (b := _) rfl (fun hc5 => ?_) (fun hc5 => ?_)
      ·
       obtain ⟨x, hx⟩ := gt2 (l := t.kids) (k := k) (by have := of_decide_eq_true hc5; omega)
       have hlt := gt_lt hx
       have hm := List.mem_of_getElem? hx
       refine AW.skip ?_
       refine thenN ?_
       refine AW.seq ?_
       refine AW.block ?_
       refine AW.seq ?_
       refine AW.draw mixed (fun _ => True) trivial (by kernel_rfl) ?_
       refine Canon.pure _ _ 0 _ _ rfl (by kernel_rfl) (by kernel_rfl) rfl (.run rfl (P_fieldAddr_ptr (cs' := [_, .int .i64 _]) tok rfl rfl rfl rfl rfl rfl)) ?_
       refine Canon.pure _ _ 1 _ _ rfl (by kernel_rfl) (by kernel_rfl) rfl (.run rfl (P_load_ptr (c := .sl _ _) tok rfl rfl rfl)) ?_
       refine Canon.pure _ _ 2 _ _ rfl (by kernel_rfl) (by kernel_rfl) rfl (.run rfl (P_move (v := .int .i64 _) rfl)) ?_
       refine Canon.pure _ _ 3 _ _ rfl (by kernel_rfl) (by kernel_rfl) rfl (.run rfl (P_indexAddr (c := [.int .i64 _, .str _, .str _, .int .i64 _, _, .int .i64 _]) tok rfl rfl rfl rfl rfl rfl (by omega) (encS_at hx))) ?_
       refine Canon.pure _ _ 4 _ _ rfl (by kernel_rfl) (by kernel_rfl) rfl (.run rfl (P_load_ptr_agg (l := [.int .i64 _, .str _, .str _, .int .i64 _, _, .int .i64 _]) tok rfl rfl rfl rfl rfl)) ?_
       refine Canon.pure _ _ 5 _ _ rfl (by kernel_rfl) (by kernel_rfl) rfl (.run rfl (P_load_ptr_agg (l := [.int .i64 _, .str _, .str _, .int .i64 _, _, .int .i64 _]) tok rfl rfl rfl rfl rfl)) ?_
       refine Canon.pure _ _ 6 _ _ rfl (by kernel_rfl) (by kernel_rfl) rfl (.run rfl (P_move (v := .int .i64 _) rfl)) ?_
       refine Canon.pure _ _ 7 _ _ rfl (by kernel_rfl) (by kernel_rfl) rfl (.run rfl (P_callf (by kernel_rfl) rfl rfl ((kid_role t k ▸ r_kid t k hlt (by omega))))) ?_
       refine Canon.pure _ _ 8 _ _ rfl (by kernel_rfl) (by kernel_rfl) rfl (.run rfl (P_callf (by kernel_rfl) rfl rfl (ih x hm (kidC t k) (kid_fine t k) (few_kid hfew hm)))) ?_
       refine Canon.pure _ _ 9 _ _ rfl (by kernel_rfl) (by kernel_rfl) rfl (.run rfl (P_assign (v := .int .i64 _) rfl)) ?_
       refine Canon.done _ _ (by kernel_rfl) ?_
       refine thenN ?_
       refine AW.seq (AW.region ?_)
       refine AOL.p (P_move (v := .int .i64 _) rfl) rfl ?_
       refine AOL.p (P_neq rfl rfl) rfl ?_
       refine AOL.nil (thenN ?_)
       refine AW.cond (b := _) rfl (fun hc6 => ?_) (fun hc6 => ?_)
       ·
        refine AW.seq (AW.region ?_)
        refine AOL.p (P_move (v := .int .i64 _) rfl) rfl ?_
        refine AOL.p (P_assign (v := .int .i64 _) rfl) rfl ?_
        refine AOL.nil (thenN ?_)
        refine AW.ret ?_
        refine blkR ?_
        refine thenR ?_
        refine thenR ?_
        refine blkR ?_
        refine thenR ?_
        refine ⟨.inr rfl, [.int .i64 _], .cons (.tmp _ _ rfl) <| .nil, .refl _, ?_⟩
        have h9 : checkC t p = checkC x (kidC t k) := by rw [hR.2, kidsE_drop hx, if_pos hc6]
        rw [h9]; rfl
       ·
        refine AW.skip ?_
        refine blkN ?_
        refine thenN ?_
        refine AW.region ?_
        refine AOL.p (P_move (v := .int .i64 _) rfl) rfl ?_
        refine AOL.p (P_add rfl rfl rfl (by constructor <;> omega)) rfl ?_
        refine AOL.p (P_assign (v := .int .i64 _) rfl) rfl ?_
        refine AOL.nil (thenN ?_)
        refine ⟨k + 1, ?_, ?_, GS.weaken ⟨rfl, rfl, trivial⟩ (.refl _)⟩
        · exact ⟨hlt, by rw [hR.2, kidsE_drop hx, ifF hc6]⟩
        · omega
      ·
       have hk : t.kids.length ≤ k := by have := of_decide_eq_false hc5; omega
       refine AW.exit ?_
       refine thenE ?_
       refine thenE ?_
       refine blkHit ?_
       refine thenN ?_
       refine AW.seq (AW.region ?_)
       refine AOL.p (P_assign (v := .int .i64 _) rfl) rfl ?_
       refine AOL.nil (thenN ?_)
       refine AW.ret ?_
       refine ⟨.inr rfl, [.int .i64 _], .cons (.tmp _ _ rfl) <| .nil, .refl _, ?_⟩
       have h9 : checkC t p = 0 := by rw [hR.2, List.drop_eq_nil_of_le hk, kidsE]
       rw [h9]; rfl
set_option maxRecDepth 20000 in
set_option maxHeartbeats 1600000 in
theorem r_closed (p t : Syn) : APure Tryz.prog 87 [.agg (cSyn p), .agg (cSyn t)] (.bool (closedC p.kind t.kind)) := by
 refine APure.body (n := 28) tok Tryz.func87 rfl rfl rfl fun H => ?_
 refine AW.seq (AW.region ?_)
 refine AOL.p (P_box (v := .agg _) (cs := [.int .i64 _, .str _, .str _, .int .i64 _, _, .int .i64 _]) rfl rfl rfl) rfl ?_
 refine AOL.p (P_box (v := .agg _) (cs := [.int .i64 _, .str _, .str _, .int .i64 _, _, .int .i64 _]) rfl rfl rfl) rfl ?_
 refine AOL.p (P_assign (v := .bool _) rfl) rfl ?_
 refine AOL.nil (thenN ?_)
 refine AW.seq (AW.region ?_)
 refine AOL.p (P_fieldAddr_ptr (cs' := [.int .i64 _, .str _, .str _, .int .i64 _, _, .int .i64 _]) tok rfl rfl rfl rfl rfl rfl) rfl ?_
 refine AOL.p (P_load_ptr (c := .int .i64 _) tok rfl rfl rfl) rfl ?_
 refine AOL.p (P_eql rfl rfl) rfl ?_
 refine AOL.p (P_move (v := .bool _) rfl) rfl ?_
 refine AOL.g (y := .ptr _) _ [] rfl (EntL.all trivial) (fun hG => P_fieldAddr_ptr (cs' := [.int .i64 _, .str _, .str _, .int .i64 _, _, .int .i64 _]) tok rfl rfl rfl rfl rfl rfl) rfl ?_
 refine AOL.g (y := .int .i64 _) _ [(9, _)] rfl (EntL.all ⟨Ent.self _ _, trivial⟩) (fun hG => P_load_ptr (c := .int .i64 _) tok rfl rfl rfl) rfl ?_
 refine AOL.g (y := .bool _) _ [(10, _)] rfl (EntL.all ⟨Ent.self _ _, trivial⟩) (fun hG => P_eql rfl rfl) rfl ?_
 refine AOL.g (y := .bool _) _ [(11, _)] rfl (EntL.all ⟨Ent.self _ _, trivial⟩) (fun hG => P_move (v := .bool _) rfl) rfl ?_
 refine AOL.g (y := .ptr _) _ [] rfl (EntL.all trivial) (fun hG => P_fieldAddr_ptr (cs' := [.int .i64 _, .str _, .str _, .int .i64 _, _, .int .i64 _]) tok rfl rfl rfl rfl rfl rfl) rfl ?_
 refine AOL.g (y := .int .i64 _) _ [(13, _)] rfl (EntL.all ⟨Ent.self _ _, trivial⟩) (fun hG => P_load_ptr (c := .int .i64 _) tok rfl rfl rfl) rfl ?_
 refine AOL.g (y := .bool _) _ [(14, _)] rfl (EntL.all ⟨Ent.self _ _, trivial⟩) (fun hG => P_eql rfl rfl) rfl ?_
 refine AOL.g (y := .bool _) _ [(12, _), (15, _)] rfl (EntL.all ⟨Ent.self _ _, Ent.suf _ _ _, trivial⟩) (fun hG => P_pick_or rfl rfl rfl) rfl ?_
 refine AOL.p (P_pick_and rfl rfl rfl) rfl ?_
 refine AOL.p (P_move (v := .bool _) rfl) rfl ?_
 refine AOL.g (y := .ptr _) _ [] rfl (EntL.all trivial) (fun hG => P_fieldAddr_ptr (cs' := [.int .i64 _, .str _, .str _, .int .i64 _, _, .int .i64 _]) tok rfl rfl rfl rfl rfl rfl) rfl ?_
 refine AOL.g (y := .int .i64 _) _ [(19, _)] rfl (EntL.all ⟨Ent.self _ _, trivial⟩) (fun hG => P_load_ptr (c := .int .i64 _) tok rfl rfl rfl) rfl ?_
 refine AOL.g (y := .bool _) _ [(20, _)] rfl (EntL.all ⟨Ent.self _ _, trivial⟩) (fun hG => P_eql rfl rfl) rfl ?_
 refine AOL.g (y := .bool _) _ [(21, _)] rfl (EntL.all ⟨Ent.self _ _, trivial⟩) (fun hG => P_move (v := .bool _) rfl) rfl ?_
 refine AOL.g (y := .ptr _) _ [] rfl (EntL.all trivial) (fun hG => P_fieldAddr_ptr (cs' := [.int .i64 _, .str _, .str _, .int .i64 _, _, .int .i64 _]) tok rfl rfl rfl rfl rfl rfl) rfl ?_
 refine AOL.g (y := .int .i64 _) _ [(23, _)] rfl (EntL.all ⟨Ent.self _ _, trivial⟩) (fun hG => P_load_ptr (c := .int .i64 _) tok rfl rfl rfl) rfl ?_
 refine AOL.g (y := .bool _) _ [(24, _)] rfl (EntL.all ⟨Ent.self _ _, trivial⟩) (fun hG => P_eql rfl rfl) rfl ?_
 refine AOL.g (y := .bool _) _ [(22, _), (25, _)] rfl (EntL.all ⟨Ent.self _ _, Ent.suf _ _ _, trivial⟩) (fun hG => P_pick_and rfl rfl rfl) rfl ?_
 refine AOL.p (P_pick_or rfl rfl rfl) rfl ?_
 refine AOL.p (P_assign (v := .bool _) rfl) rfl ?_
 refine AOL.nil (thenN ?_)
 refine AW.ret ?_
 refine ⟨.inr rfl, [.bool _], .cons (.tmp _ _ rfl) <| .nil, .refl _, ?_⟩
 rw [← closed_eq]; rfl
set_option maxRecDepth 20000 in
set_option maxHeartbeats 3200000 in
theorem r_nesting (t : Syn) (hfew : fewC t = true) : APure Tryz.prog 52 [.agg (cSyn t)] (.int .i64 (depthC t : Int)) := by
 revert hfew
 induction t using Syn.ind
 rename_i t ih
 intro hfew
 have hkl := few_len hfew
 refine APure.body (n := 47) tok Tryz.func52 rfl rfl rfl fun H => ?_
 refine AW.seq (AW.region ?_)
 refine AOL.p (P_box (v := .agg _) (cs := [.int .i64 _, .str _, .str _, .int .i64 _, _, .int .i64 _]) rfl rfl rfl) rfl ?_
 refine AOL.p (P_assign (v := .int .i64 _) rfl) rfl ?_
 refine AOL.nil (thenN ?_)
 refine AW.seq (AW.region ?_)
 refine AOL.p (P_assign (v := .int .i64 _) rfl) rfl ?_
 refine AOL.nil (thenN ?_)
 refine AW.seq ?_
 refine AW.seq (AW.region ?_)
 refine AOL.p (P_assign (v := .int .i64 _) rfl) rfl ?_
 refine AOL.nil (thenN ?_)
 refine AW.block ?_
 refine AW.loopS (fun (p : Nat × Nat) => (⟨[(1, .ptr (cSyn t)), (3, .int .i64 (p.2 : Int)), (4, .int .i64 (p.1 : Int))], H, 47⟩ : St)) (fun (p : Nat × Nat) => p.1 ≤ t.kids.length ∧ depthL t.kind t.kids = max p.2 (depthL t.kind (t.kids.drop p.1)) ∧ p.2 ≤ 1000) (fun (p : Nat × Nat) => t.kids.length - p.1) ((0, 0)) ?_ (GS.weaken ⟨rfl, rfl, rfl, trivial⟩ (.refl _)) ?_
 · exact ⟨Nat.zero_le _, by simp, Nat.zero_le _⟩
 ·
  rintro p hR
  refine AW.seq ?_
  refine AW.seq (AW.region ?_)
  refine AOL.p (P_move (v := .int .i64 _) rfl) rfl ?_
  refine AOL.p (P_fieldAddr_ptr (cs' := [_, .int .i64 _]) tok rfl rfl rfl rfl rfl rfl) rfl ?_
  refine AOL.p (P_load_ptr (c := .sl _ _) tok rfl rfl rfl) rfl ?_
  refine AOL.p (P_len_sl (n := t.kids.length) tok rfl rfl rfl (by simp)) rfl ?_
  refine AOL.p (P_lss rfl rfl) rfl ?_
  refine AOL.nil (thenN ?_)
  refine AW.cond (b := _) rfl (fun hc1 => ?_) (fun hc1 => ?_)
  ·
   obtain ⟨x, hx⟩ := gt2 (l := t.kids) (k := p.1) (by have := of_decide_eq_true hc1; omega)
   have hlt := gt_lt hx
   have hm := List.mem_of_getElem? hx
   have hdx := few_depth (few_kid hfew hm)
   have hd2 := depthL_drop hx
   refine AW.skip ?_
   refine thenN ?_
   refine AW.seq ?_
   refine AW.block ?_
   refine AW.seq (AW.region ?_)
   refine AOL.p (P_fieldAddr_ptr (cs' := [_, .int .i64 _]) tok rfl rfl rfl rfl rfl rfl) rfl ?_
   refine AOL.p (P_load_ptr (c := .sl _ _) tok rfl rfl rfl) rfl ?_
   refine AOL.p (P_move (v := .int .i64 _) rfl) rfl ?_
   refine AOL.p (P_indexAddr (c := [.int .i64 _, .str _, .str _, .int .i64 _, _, .int .i64 _]) tok rfl rfl rfl rfl rfl rfl (by omega) (encS_at hx)) rfl ?_
   refine AOL.p (P_load_ptr_agg (l := [.int .i64 _, .str _, .str _, .int .i64 _, _, .int .i64 _]) tok rfl rfl rfl rfl rfl) rfl ?_
   refine AOL.p (P_callf (by kernel_rfl) rfl rfl (ih x hm (few_kid hfew hm))) rfl ?_
   refine AOL.p (P_assign (v := .int .i64 _) rfl) rfl ?_
   refine AOL.nil (thenN ?_)
   refine AW.seq ?_
   refine AW.seq ?_
   refine AW.draw mixed (fun _ => True) trivial (by kernel_rfl) ?_
   refine Canon.pure _ _ 0 _ _ rfl (by kernel_rfl) (by kernel_rfl) rfl (.run rfl (P_load_ptr_agg (l := [.int .i64 _, .str _, .str _, .int .i64 _, _, .int .i64 _]) tok rfl rfl rfl rfl rfl)) ?_
   refine Canon.pure _ _ 1 _ _ rfl (by kernel_rfl) (by kernel_rfl) rfl (.run rfl (P_fieldAddr_ptr (cs' := [_, .int .i64 _]) tok rfl rfl rfl rfl rfl rfl)) ?_
   refine Canon.pure _ _ 2 _ _ rfl (by kernel_rfl) (by kernel_rfl) rfl (.run rfl (P_load_ptr (c := .sl _ _) tok rfl rfl rfl)) ?_
   refine Canon.pure _ _ 3 _ _ rfl (by kernel_rfl) (by kernel_rfl) rfl (.run rfl (P_move (v := .int .i64 _) rfl)) ?_
   refine Canon.pure _ _ 4 _ _ rfl (by kernel_rfl) (by kernel_rfl) rfl (.run rfl (P_indexAddr (c := [.int .i64 _, .str _, .str _, .int .i64 _, _, .int .i64 _]) tok rfl rfl rfl rfl rfl rfl (by omega) (encS_at hx))) ?_
   refine Canon.pure _ _ 5 _ _ rfl (by kernel_rfl) (by kernel_rfl) rfl (.run rfl (P_load_ptr_agg (l := [.int .i64 _, .str _, .str _, .int .i64 _, _, .int .i64 _]) tok rfl rfl rfl rfl rfl)) ?_
   refine Canon.pure _ _ 6 _ _ rfl (by kernel_rfl) (by kernel_rfl) rfl (.run rfl (P_callf (by kernel_rfl) rfl rfl (r_closed t x))) ?_
   refine Canon.done _ _ (by kernel_rfl) ?_
   refine thenN ?_
   refine AW.cond (b := _) rfl (fun hc2 => ?_) (fun hc2 => ?_)
   ·
    rw [if_pos hc2] at hd2
    refine AW.region ?_
    refine AOL.p (P_move (v := .int .i64 _) rfl) rfl ?_
    refine AOL.p (P_add rfl rfl rfl (by constructor <;> omega)) rfl ?_
    refine AOL.p (P_assign (v := .int .i64 _) rfl) rfl ?_
    refine AOL.nil (thenN ?_)
    refine AW.region ?_
    refine AOL.p (P_move (v := .int .i64 _) rfl) rfl ?_
    refine AOL.p (P_move (v := .int .i64 _) rfl) rfl ?_
    refine AOL.p (P_max rfl rfl) rfl ?_
    refine AOL.p (P_assign (v := .int .i64 _) rfl) rfl ?_
    refine AOL.nil ?_
    refine blkN ?_
    refine thenN ?_
    refine AW.region ?_
    refine AOL.p (P_move (v := .int .i64 _) rfl) rfl ?_
    refine AOL.p (P_add rfl rfl rfl (by constructor <;> omega)) rfl ?_
    refine AOL.p (P_assign (v := .int .i64 _) rfl) rfl ?_
    refine AOL.nil (thenN ?_)
    refine ⟨(p.1 + 1, max p.2 (depthC x + 1)), ?_, ?_, GS.weaken ⟨rfl, congrArg (AV.int .i64) (by simp only; omega), rfl, trivial⟩ (.refl _)⟩
    · exact ⟨hlt, by simp only; omega, by simp only; omega⟩
    · simp only; omega
   ·
    rw [ifF hc2] at hd2
    refine AW.skip ?_
    refine thenN ?_
    refine AW.region ?_
    refine AOL.p (P_move (v := .int .i64 _) rfl) rfl ?_
    refine AOL.p (P_move (v := .int .i64 _) rfl) rfl ?_
    refine AOL.p (P_max rfl rfl) rfl ?_
    refine AOL.p (P_assign (v := .int .i64 _) rfl) rfl ?_
    refine AOL.nil ?_
    refine blkN ?_
    refine thenN ?_
    refine AW.region ?_
    refine AOL.p (P_move (v := .int .i64 _) rfl) rfl ?_
    refine AOL.p (P_add rfl rfl rfl (by constructor <;> omega)) rfl ?_
    refine AOL.p (P_assign (v := .int .i64 _) rfl) rfl ?_
    refine AOL.nil (thenN ?_)
    refine ⟨(p.1 + 1, max p.2 (depthC x)), ?_, ?_, GS.weaken ⟨rfl, congrArg (AV.int .i64) (by simp only; omega), rfl, trivial⟩ (.refl _)⟩
    · exact ⟨hlt, by simp only; omega, by simp only; omega⟩
    · simp only; omega
  ·
   have hk : t.kids.length ≤ p.1 := by have := of_decide_eq_false hc1; omega
   have he := hR.2.1
   rw [List.drop_eq_nil_of_le hk, depthL] at he
   have hfd := few_depth hfew
   have hde := depthC_eq t
   refine AW.exit ?_
   refine thenE ?_
   refine thenE ?_
   refine blkHit ?_
   refine thenN ?_
   refine AW.seq ?_
   refine AW.seq (AW.region ?_)
   refine AOL.p (P_fieldAddr_ptr (cs' := [.int .i64 _, .str _, .str _, .int .i64 _, _, .int .i64 _]) tok rfl rfl rfl rfl rfl rfl) rfl ?_
   refine AOL.p (P_load_ptr (c := .int .i64 _) tok rfl rfl rfl) rfl ?_
   refine AOL.p (P_eql rfl rfl) rfl ?_
   refine AOL.p (P_move (v := .bool _) rfl) rfl ?_
   refine AOL.g (y := .ptr _) _ [] rfl (EntL.all trivial) (fun hG => P_fieldAddr_ptr (cs' := [.int .i64 _, .str _, .str _, .int .i64 _, _, .int .i64 _]) tok rfl rfl rfl rfl rfl rfl) rfl ?_
   refine AOL.g (y := .int .i64 _) _ [(35, _)] rfl (EntL.all ⟨Ent.self _ _, trivial⟩) (fun hG => P_load_ptr (c := .int .i64 _) tok rfl rfl rfl) rfl ?_
   refine AOL.g (y := .bool _) _ [(36, _)] rfl (EntL.all ⟨Ent.self _ _, trivial⟩) (fun hG => P_callf (by kernel_rfl) rfl rfl (r_isPat t.kind)) rfl ?_
   refine AOL.g (y := .bool _) _ [(37, _)] rfl (EntL.all ⟨Ent.self _ _, trivial⟩) (fun hG => P_move (v := .bool _) rfl) rfl ?_
   refine AOL.g (y := .ptr _) _ [] rfl (EntL.all trivial) (fun hG => P_fieldAddr_ptr (cs' := [.int .i64 _, .str _, .str _, .int .i64 _, _, .int .i64 _]) tok rfl rfl rfl rfl rfl rfl) rfl ?_
   refine AOL.g (y := .int .i64 _) _ [(39, _)] rfl (EntL.all ⟨Ent.self _ _, trivial⟩) (fun hG => P_load_ptr (c := .int .i64 _) tok rfl rfl rfl) rfl ?_
   refine AOL.g (y := .bool _) _ [(40, _)] rfl (EntL.all ⟨Ent.self _ _, trivial⟩) (fun hG => P_neq rfl rfl) rfl ?_
   refine AOL.g (y := .bool _) _ [(38, _), (41, _)] rfl (EntL.all ⟨Ent.self _ _, Ent.suf _ _ _, trivial⟩) (fun hG => P_pick_and rfl rfl rfl) rfl ?_
   refine AOL.p (P_pick_or rfl rfl rfl) rfl ?_
   refine AOL.nil (thenN ?_)
   refine AW.cond (b := _) rfl (fun hc3 => ?_) (fun hc3 => ?_)
   ·
    refine AW.region ?_
    refine AOL.p (P_move (v := .int .i64 _) rfl) rfl ?_
    refine AOL.p (P_add rfl rfl rfl (by constructor <;> omega)) rfl ?_
    refine AOL.p (P_assign (v := .int .i64 _) rfl) rfl ?_
    refine AOL.nil (thenN ?_)
    refine AW.seq (AW.region ?_)
    refine AOL.p (P_move (v := .int .i64 _) rfl) rfl ?_
    refine AOL.p (P_assign (v := .int .i64 _) rfl) rfl ?_
    refine AOL.nil (thenN ?_)
    refine AW.ret ?_
    refine ⟨.inr rfl, [.int .i64 _], .cons (.tmp _ _ rfl) <| .nil, .refl _, ?_⟩
    have h9 : depthC t = p.2 + 1 := by rw [hde, if_pos hc3]; omega
    rw [h9]; rfl
   ·
    refine AW.skip ?_
    refine thenN ?_
    refine AW.seq (AW.region ?_)
    refine AOL.p (P_move (v := .int .i64 _) rfl) rfl ?_
    refine AOL.p (P_assign (v := .int .i64 _) rfl) rfl ?_
    refine AOL.nil (thenN ?_)
    refine AW.ret ?_
    refine ⟨.inr rfl, [.int .i64 _], .cons (.tmp _ _ rfl) <| .nil, .refl _, ?_⟩
    have h9 : depthC t = p.2 := by rw [hde, ifF hc3]; omega
    rw [h9]; rfl

end Go.Proofs.YtabkeeedkhgodaaGreatDoor
