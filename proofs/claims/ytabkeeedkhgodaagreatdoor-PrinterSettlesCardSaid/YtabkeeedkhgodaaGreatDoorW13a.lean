/-
  Walks: the checks of the printer. No condition.
-/
import Derived.Test.YtabkeeedkhgodaaGreatDoorM13
import Derived.Test.YtabkeeedkhgodaaGreatDoorW9
import Derived.Test.YtabkeeedkhgodaaGreatDoorF12
import Derived.KernelRfl
namespace Go.Proofs.YtabkeeedkhgodaaGreatDoor
open Go Go.Aw
set_option linter.unusedVariables false
set_option linter.unusedSimpArgs false

theorem ifF {α : Type} {c : Bool} {a b : α} (h : c = false) : (if c = true then a else b) = b := if_neg (Bool.eq_false_iff.mp h)
theorem gt2 {α : Type} {l : List α} {k : Nat} (h : k < l.length) : ∃ x, l[k]? = some x := ⟨_, List.getElem?_eq_getElem h⟩
theorem gt_lt {α : Type} {l : List α} {k : Nat} {x : α} (h : l[k]? = some x) : k < l.length := (List.getElem?_eq_some_iff.1 h).1
theorem kid_has {t : Syn} {k : Nat} (h : k < t.kids.length) : t.kids[k]? = some (kidN t k) := by simp [kidN, List.getD_eq_getElem?_getD, List.getElem?_eq_getElem h]
theorem kid_prev {t : Syn} {i : Nat} {x : Bool} (hi : i < t.kids.length) (hG : allG [(x, true), ((((i : Int) == 0)), false)]) : 0 ≤ (i : Int) - 1 ∧ (t.kids.map encS)[((i : Int) - 1).toNat]? = some (cSyn (kidN t (i - 1))) := by
  have h0 : ((i : Int) == 0) = false := hG (((i : Int) == 0), false) (by simp)
  have h1 : i ≠ 0 := by intro e; subst e; cases h0
  have hw : (i : Int) - 1 = ((i - 1 : Nat) : Int) := by omega
  rw [hw, Int.toNat_natCast]
  exact ⟨by omega, encS_at (kid_has (by omega))⟩
/-- Places as values. -/
def plV : Pl → AV
  | .only k => .fn (.func 59) [] [.ptr [.int .i64 k]]
  | .pats => .fn (.func 34) [] []
  | .exps => .fn (.func 36) [] []

set_option maxRecDepth 20000 in
set_option maxHeartbeats 400000 in
theorem w_pats (k : Int) : APure Tryz.prog 34 [.int .i64 k] (.bool (isPat k)) := by
 refine APure.body (n := 9) tok Tryz.func34 rfl rfl rfl fun H => ?_
 refine AW.seq (AW.region ?_)
 refine AOL.p (P_assign (v := .bool _) rfl) rfl ?_
 refine AOL.nil (thenN ?_)
 refine AW.seq (AW.region ?_)
 refine AOL.p (P_move (v := .int .i64 _) rfl) rfl ?_
 refine AOL.p (P_geq rfl rfl) rfl ?_
 refine AOL.p (P_move (v := .bool _) rfl) rfl ?_
 refine AOL.g (y := .int .i64 _) _ [] rfl (EntL.all trivial) (fun hG => P_move (v := .int .i64 _) rfl) rfl ?_
 refine AOL.g (y := .bool _) _ [(6, _)] rfl (EntL.all ⟨Ent.self _ _, trivial⟩) (fun hG => P_leq rfl rfl) rfl ?_
 refine AOL.p (P_pick_and rfl rfl rfl) rfl ?_
 refine AOL.p (P_assign (v := .bool _) rfl) rfl ?_
 refine AOL.nil (thenN ?_)
 refine AW.ret ?_
 refine ⟨.inr rfl, [.bool _], .cons (.tmp _ _ rfl) <| .nil, .refl _, ?_⟩
 rfl
set_option maxRecDepth 20000 in
set_option maxHeartbeats 400000 in
theorem w_exps (k : Int) : APure Tryz.prog 36 [.int .i64 k] (.bool (isExp k)) := by
 refine APure.body (n := 9) tok Tryz.func36 rfl rfl rfl fun H => ?_
 refine AW.seq (AW.region ?_)
 refine AOL.p (P_assign (v := .bool _) rfl) rfl ?_
 refine AOL.nil (thenN ?_)
 refine AW.seq (AW.region ?_)
 refine AOL.p (P_move (v := .int .i64 _) rfl) rfl ?_
 refine AOL.p (P_geq rfl rfl) rfl ?_
 refine AOL.p (P_move (v := .bool _) rfl) rfl ?_
 refine AOL.g (y := .int .i64 _) _ [] rfl (EntL.all trivial) (fun hG => P_move (v := .int .i64 _) rfl) rfl ?_
 refine AOL.g (y := .bool _) _ [(6, _)] rfl (EntL.all ⟨Ent.self _ _, trivial⟩) (fun hG => P_leq rfl rfl) rfl ?_
 refine AOL.p (P_pick_and rfl rfl rfl) rfl ?_
 refine AOL.p (P_assign (v := .bool _) rfl) rfl ?_
 refine AOL.nil (thenN ?_)
 refine AW.ret ?_
 refine ⟨.inr rfl, [.bool _], .cons (.tmp _ _ rfl) <| .nil, .refl _, ?_⟩
 rfl
set_option maxRecDepth 20000 in
set_option maxHeartbeats 400000 in
theorem w_only (k : Int) : APure Tryz.prog 39 [.int .i64 k] (plV (.only k)) := by
 refine APure.body (n := 4) tok Tryz.func39 rfl rfl rfl fun H => ?_
 refine AW.seq (AW.region ?_)
 refine AOL.p (P_box (v := .int .i64 _) (cs := [.int .i64 _]) rfl rfl rfl) rfl ?_
 refine AOL.p (P_assign (v := .val _) rfl) rfl ?_
 refine AOL.nil (thenN ?_)
 refine AW.seq (AW.region ?_)
 refine AOL.p (P_makeFunc (l := []) (l' := [.ptr _]) rfl rfl) rfl ?_
 refine AOL.p (P_assign (v := .fn _ _ _) rfl) rfl ?_
 refine AOL.nil (thenN ?_)
 refine AW.ret ?_
 refine ⟨.inr rfl, [.fn _ _ _], .cons (.tmp _ _ rfl) <| .nil, .refl _, ?_⟩
 rfl
set_option maxRecDepth 20000 in
set_option maxHeartbeats 400000 in
theorem w_only1 (k x : Int) : APure Tryz.prog 59 [.int .i64 x, .ptr [.int .i64 k]] (.bool (x == k)) := by
 refine APure.body (n := 7) tok Tryz.func59 rfl rfl rfl fun H => ?_
 refine AW.seq (AW.region ?_)
 refine AOL.p (P_assign (v := .bool _) rfl) rfl ?_
 refine AOL.nil (thenN ?_)
 refine AW.seq (AW.region ?_)
 refine AOL.p (P_move (v := .int .i64 _) rfl) rfl ?_
 refine AOL.p (P_load_ptr (c := .int .i64 _) tok rfl rfl rfl) rfl ?_
 refine AOL.p (P_eql rfl rfl) rfl ?_
 refine AOL.p (P_assign (v := .bool _) rfl) rfl ?_
 refine AOL.nil (thenN ?_)
 refine AW.ret ?_
 refine ⟨.inr rfl, [.bool _], .cons (.tmp _ _ rfl) <| .nil, .refl _, ?_⟩
 rfl
set_option maxRecDepth 20000 in
set_option maxHeartbeats 400000 in
theorem w_closed (p k : Int) : APure Tryz.prog 67 [.int .i64 p, .int .i64 k] (.bool (closedC p k)) := by
 refine APure.body (n := 18) tok Tryz.func67 rfl rfl rfl fun H => ?_
 refine AW.seq (AW.region ?_)
 refine AOL.p (P_assign (v := .bool _) rfl) rfl ?_
 refine AOL.nil (thenN ?_)
 refine AW.seq ?_
 refine AW.seq (AW.region ?_)
 refine AOL.p (P_move (v := .int .i64 _) rfl) rfl ?_
 refine AOL.nil (thenN ?_)
 refine AW.block ?_
 refine AW.seq (AW.region ?_)
 refine AOL.p (P_eql rfl rfl) rfl ?_
 refine AOL.p (P_assign (v := .bool _) rfl) rfl ?_
 refine AOL.nil (thenN ?_)
 refine AW.cond (b := _) rfl (fun hc1 => ?_) (fun hc1 => ?_)
 ·
  refine AW.seq (AW.region ?_)
  refine AOL.p (P_move (v := .int .i64 _) rfl) rfl ?_
  refine AOL.p (P_eql rfl rfl) rfl ?_
  refine AOL.p (P_move (v := .bool _) rfl) rfl ?_
  refine AOL.g (y := .int .i64 _) _ [] rfl (EntL.all trivial) (fun hG => P_move (v := .int .i64 _) rfl) rfl ?_
  refine AOL.g (y := .bool _) _ [(11, _)] rfl (EntL.all ⟨Ent.self _ _, trivial⟩) (fun hG => P_eql rfl rfl) rfl ?_
  refine AOL.p (P_pick_or rfl rfl rfl) rfl ?_
  refine AOL.p (P_assign (v := .bool _) rfl) rfl ?_
  refine AOL.nil (thenN ?_)
  refine AW.ret ?_
  refine blkR ?_
  refine thenR ?_
  refine ⟨.inr rfl, [.bool _], .cons (.tmp _ _ rfl) <| .nil, .refl _, ?_⟩
  simp only [resOf, closedC, hc1, ↓reduceIte, Bool.false_eq_true]
 ·
  refine AW.seq (AW.region ?_)
  refine AOL.p (P_eql rfl rfl) rfl ?_
  refine AOL.p (P_assign (v := .bool _) rfl) rfl ?_
  refine AOL.nil (thenN ?_)
  refine AW.cond (b := _) rfl (fun hc2 => ?_) (fun hc2 => ?_)
  ·
   refine AW.seq (AW.region ?_)
   refine AOL.p (P_move (v := .int .i64 _) rfl) rfl ?_
   refine AOL.p (P_eql rfl rfl) rfl ?_
   refine AOL.p (P_assign (v := .bool _) rfl) rfl ?_
   refine AOL.nil (thenN ?_)
   refine AW.ret ?_
   refine blkR ?_
   refine thenR ?_
   refine ⟨.inr rfl, [.bool _], .cons (.tmp _ _ rfl) <| .nil, .refl _, ?_⟩
   simp only [resOf, closedC, hc1, hc2, ↓reduceIte, Bool.false_eq_true]
  ·
   refine AW.skip ?_
   refine blkN ?_
   refine thenN ?_
   refine AW.seq (AW.region ?_)
   refine AOL.p (P_assign (v := .bool _) rfl) rfl ?_
   refine AOL.nil (thenN ?_)
   refine AW.ret ?_
   refine ⟨.inr rfl, [.bool _], .cons (.tmp _ _ rfl) <| .nil, .refl _, ?_⟩
   simp only [resOf, closedC, hc1, hc2, ↓reduceIte, Bool.false_eq_true]
theorem pl_fn (p : Pl) : ∃ f first cap, plV p = .fn (.func f) first cap ∧ fnB Tryz.prog f = true ∧ ∀ k, APure Tryz.prog f (first ++ [.int .i64 k] ++ cap) (.bool (p.at k)) := by
  cases p with
  | only k => exact ⟨_, _, _, rfl, by kernel_rfl, fun x => w_only1 k x⟩
  | pats => exact ⟨_, _, _, rfl, by kernel_rfl, fun x => w_pats x⟩
  | exps => exact ⟨_, _, _, rfl, by kernel_rfl, fun x => w_exps x⟩
set_option maxRecDepth 20000 in
set_option maxHeartbeats 1600000 in
theorem w_shaped (t : Syn) : APure Tryz.prog 63 [.agg (cSyn t)] (.bool (shapeC t)) := by
 refine APure.body (n := 49) tok Tryz.func63 rfl rfl rfl fun H => ?_
 refine AW.seq (AW.region ?_)
 refine AOL.p (P_box (v := .agg _) (cs := [.int .i64 _, .str _, .str _, .int .i64 _, _, .int .i64 _]) rfl rfl rfl) rfl ?_
 refine AOL.p (P_assign (v := .bool _) rfl) rfl ?_
 refine AOL.nil (thenN ?_)
 refine AW.seq (AW.region ?_)
 refine AOL.p (P_fieldAddr_ptr (cs' := [_, .int .i64 _]) tok rfl rfl rfl rfl rfl rfl) rfl ?_
 refine AOL.p (P_load_ptr (c := .sl _ _) tok rfl rfl rfl) rfl ?_
 refine AOL.p (P_len_sl (n := t.kids.length) tok rfl rfl rfl (by simp)) rfl ?_
 refine AOL.p (P_assign (v := .int .i64 _) rfl) rfl ?_
 refine AOL.nil (thenN ?_)
 refine AW.seq ?_
 refine AW.seq (AW.region ?_)
 refine AOL.p (P_fieldAddr_ptr (cs' := [.int .i64 _, .str _, .str _, .int .i64 _, _, .int .i64 _]) tok rfl rfl rfl rfl rfl rfl) rfl ?_
 refine AOL.p (P_load_ptr (c := .int .i64 _) tok rfl rfl rfl) rfl ?_
 refine AOL.nil (thenN ?_)
 refine AW.block ?_
 refine AW.cut (fun (_ : Unit) => (⟨[(1, .ptr (cSyn t)), (3, .int .i64 (t.kids.length : Int)), (8, .int .i64 t.kind), (9, .bool (((t.kind == 0) || (t.kind == 1))))], H, 49⟩ : St)) (fun (_ : Unit) => True) ?_ ?_
 ·
  refine AW.seq (AW.region ?_)
  refine AOL.p (P_eql rfl rfl) rfl ?_
  refine AOL.p (P_assign (v := .bool _) rfl) rfl ?_
  refine AOL.nil (thenN ?_)
  refine AW.cond (b := _) rfl (fun hc1 => ?_) (fun hc1 => ?_)
  ·
   refine AW.skip ?_
   refine thenN ?_
   refine ⟨(), ?_, GS.weaken ⟨rfl, rfl, rfl, congrArg AV.bool (by simp [*]), trivial⟩ (.refl _)⟩
   trivial
  ·
   refine AW.region ?_
   refine AOL.p (P_eql rfl rfl) rfl ?_
   refine AOL.p (P_assign (v := .bool _) rfl) rfl ?_
   refine AOL.nil (thenN ?_)
   refine ⟨(), ?_, GS.weaken ⟨rfl, rfl, rfl, congrArg AV.bool (by simp [*]), trivial⟩ (.refl _)⟩
   trivial
 ·
  rintro _ _
  refine AW.cond (b := _) rfl (fun hc2 => ?_) (fun hc2 => ?_)
  ·
   refine AW.seq (AW.region ?_)
   refine AOL.p (P_assign (v := .bool _) rfl) rfl ?_
   refine AOL.nil (thenN ?_)
   refine AW.ret ?_
   refine blkR ?_
   refine thenR ?_
   refine ⟨.inr rfl, [.bool _], .cons (.tmp _ _ rfl) <| .nil, .refl _, ?_⟩
   simp only [resOf, shapeC, hc2, ↓reduceIte, Bool.false_eq_true]
  ·
   refine AW.seq (AW.region ?_)
   refine AOL.p (P_eql rfl rfl) rfl ?_
   refine AOL.p (P_assign (v := .bool _) rfl) rfl ?_
   refine AOL.nil (thenN ?_)
   refine AW.cond (b := _) rfl (fun hc3 => ?_) (fun hc3 => ?_)
   ·
    refine AW.seq (AW.region ?_)
    refine AOL.p (P_move (v := .int .i64 _) rfl) rfl ?_
    refine AOL.p (P_geq rfl rfl) rfl ?_
    refine AOL.p (P_assign (v := .bool _) rfl) rfl ?_
    refine AOL.nil (thenN ?_)
    refine AW.ret ?_
    refine blkR ?_
    refine thenR ?_
    refine ⟨.inr rfl, [.bool _], .cons (.tmp _ _ rfl) <| .nil, .refl _, ?_⟩
    simp only [resOf, shapeC, hc2, hc3, ↓reduceIte, Bool.false_eq_true]
   ·
    refine AW.seq (AW.region ?_)
    refine AOL.p (P_eql rfl rfl) rfl ?_
    refine AOL.p (P_assign (v := .bool _) rfl) rfl ?_
    refine AOL.nil (thenN ?_)
    refine AW.cond (b := _) rfl (fun hc4 => ?_) (fun hc4 => ?_)
    ·
     refine AW.seq (AW.region ?_)
     refine AOL.p (P_move (v := .int .i64 _) rfl) rfl ?_
     refine AOL.p (P_leq rfl rfl) rfl ?_
     refine AOL.p (P_assign (v := .bool _) rfl) rfl ?_
     refine AOL.nil (thenN ?_)
     refine AW.ret ?_
     refine blkR ?_
     refine thenR ?_
     refine ⟨.inr rfl, [.bool _], .cons (.tmp _ _ rfl) <| .nil, .refl _, ?_⟩
     simp only [resOf, shapeC, hc2, hc3, hc4, ↓reduceIte, Bool.false_eq_true]
    ·
     refine AW.cut (fun (_ : Unit) => (⟨[(1, .ptr (cSyn t)), (3, .int .i64 (t.kids.length : Int)), (8, .int .i64 t.kind), (20, .bool ((((t.kind == 6) || (t.kind == 7)) || (t.kind == 8))))], H, 49⟩ : St)) (fun (_ : Unit) => True) ?_ ?_
     ·
      refine AW.seq (AW.region ?_)
      refine AOL.p (P_eql rfl rfl) rfl ?_
      refine AOL.p (P_assign (v := .bool _) rfl) rfl ?_
      refine AOL.nil (thenN ?_)
      refine AW.cond (b := _) rfl (fun hc5 => ?_) (fun hc5 => ?_)
      ·
       refine AW.skip ?_
       refine thenN ?_
       refine ⟨(), ?_, GS.weaken ⟨rfl, rfl, rfl, congrArg AV.bool (by simp [*]), trivial⟩ (.refl _)⟩
       trivial
      ·
       refine AW.seq (AW.region ?_)
       refine AOL.p (P_eql rfl rfl) rfl ?_
       refine AOL.p (P_assign (v := .bool _) rfl) rfl ?_
       refine AOL.nil (thenN ?_)
       refine AW.cond (b := _) rfl (fun hc6 => ?_) (fun hc6 => ?_)
       ·
        refine AW.skip ?_
        refine thenN ?_
        refine ⟨(), ?_, GS.weaken ⟨rfl, rfl, rfl, congrArg AV.bool (by simp [*]), trivial⟩ (.refl _)⟩
        trivial
       ·
        refine AW.region ?_
        refine AOL.p (P_eql rfl rfl) rfl ?_
        refine AOL.p (P_assign (v := .bool _) rfl) rfl ?_
        refine AOL.nil (thenN ?_)
        refine ⟨(), ?_, GS.weaken ⟨rfl, rfl, rfl, congrArg AV.bool (by simp [*]), trivial⟩ (.refl _)⟩
        trivial
     ·
      rintro _ _
      refine AW.cond (b := _) rfl (fun hc7 => ?_) (fun hc7 => ?_)
      ·
       refine AW.seq (AW.region ?_)
       refine AOL.p (P_move (v := .int .i64 _) rfl) rfl ?_
       refine AOL.p (P_geq rfl rfl) rfl ?_
       refine AOL.p (P_assign (v := .bool _) rfl) rfl ?_
       refine AOL.nil (thenN ?_)
       refine AW.ret ?_
       refine blkR ?_
       refine thenR ?_
       refine ⟨.inr rfl, [.bool _], .cons (.tmp _ _ rfl) <| .nil, .refl _, ?_⟩
       simp only [resOf, shapeC, hc2, hc3, hc4, hc7, ↓reduceIte, Bool.false_eq_true]
      ·
       refine AW.cut (fun (_ : Unit) => (⟨[(1, .ptr (cSyn t)), (3, .int .i64 (t.kids.length : Int)), (8, .int .i64 t.kind), (26, .bool ((((t.kind == 9) || (t.kind == 11)) || (t.kind == 18))))], H, 49⟩ : St)) (fun (_ : Unit) => True) ?_ ?_
       ·
        refine AW.seq (AW.region ?_)
        refine AOL.p (P_eql rfl rfl) rfl ?_
        refine AOL.p (P_assign (v := .bool _) rfl) rfl ?_
        refine AOL.nil (thenN ?_)
        refine AW.cond (b := _) rfl (fun hc8 => ?_) (fun hc8 => ?_)
        ·
         refine AW.skip ?_
         refine thenN ?_
         refine ⟨(), ?_, GS.weaken ⟨rfl, rfl, rfl, congrArg AV.bool (by simp [*]), trivial⟩ (.refl _)⟩
         trivial
        ·
         refine AW.seq (AW.region ?_)
         refine AOL.p (P_eql rfl rfl) rfl ?_
         refine AOL.p (P_assign (v := .bool _) rfl) rfl ?_
         refine AOL.nil (thenN ?_)
         refine AW.cond (b := _) rfl (fun hc9 => ?_) (fun hc9 => ?_)
         ·
          refine AW.skip ?_
          refine thenN ?_
          refine ⟨(), ?_, GS.weaken ⟨rfl, rfl, rfl, congrArg AV.bool (by simp [*]), trivial⟩ (.refl _)⟩
          trivial
         ·
          refine AW.region ?_
          refine AOL.p (P_eql rfl rfl) rfl ?_
          refine AOL.p (P_assign (v := .bool _) rfl) rfl ?_
          refine AOL.nil (thenN ?_)
          refine ⟨(), ?_, GS.weaken ⟨rfl, rfl, rfl, congrArg AV.bool (by simp [*]), trivial⟩ (.refl _)⟩
          trivial
       ·
        rintro _ _
        refine AW.cond (b := _) rfl (fun hc10 => ?_) (fun hc10 => ?_)
        ·
         refine AW.seq (AW.region ?_)
         refine AOL.p (P_move (v := .int .i64 _) rfl) rfl ?_
         refine AOL.p (P_eql rfl rfl) rfl ?_
         refine AOL.p (P_assign (v := .bool _) rfl) rfl ?_
         refine AOL.nil (thenN ?_)
         refine AW.ret ?_
         refine blkR ?_
         refine thenR ?_
         refine ⟨.inr rfl, [.bool _], .cons (.tmp _ _ rfl) <| .nil, .refl _, ?_⟩
         simp only [resOf, shapeC, hc2, hc3, hc4, hc7, hc10, ↓reduceIte, Bool.false_eq_true]
        ·
         refine AW.cut (fun (_ : Unit) => (⟨[(1, .ptr (cSyn t)), (3, .int .i64 (t.kids.length : Int)), (8, .int .i64 t.kind), (32, .bool ((((t.kind == 10) || (t.kind == 12)) || (t.kind == 17))))], H, 49⟩ : St)) (fun (_ : Unit) => True) ?_ ?_
         ·
          refine AW.seq (AW.region ?_)
          refine AOL.p (P_eql rfl rfl) rfl ?_
          refine AOL.p (P_assign (v := .bool _) rfl) rfl ?_
          refine AOL.nil (thenN ?_)
          refine AW.cond (b := _) rfl (fun hc11 => ?_) (fun hc11 => ?_)
          ·
           refine AW.skip ?_
           refine thenN ?_
           refine ⟨(), ?_, GS.weaken ⟨rfl, rfl, rfl, congrArg AV.bool (by simp [*]), trivial⟩ (.refl _)⟩
           trivial
          ·
           refine AW.seq (AW.region ?_)
           refine AOL.p (P_eql rfl rfl) rfl ?_
           refine AOL.p (P_assign (v := .bool _) rfl) rfl ?_
           refine AOL.nil (thenN ?_)
           refine AW.cond (b := _) rfl (fun hc12 => ?_) (fun hc12 => ?_)
           ·
            refine AW.skip ?_
            refine thenN ?_
            refine ⟨(), ?_, GS.weaken ⟨rfl, rfl, rfl, congrArg AV.bool (by simp [*]), trivial⟩ (.refl _)⟩
            trivial
           ·
            refine AW.region ?_
            refine AOL.p (P_eql rfl rfl) rfl ?_
            refine AOL.p (P_assign (v := .bool _) rfl) rfl ?_
            refine AOL.nil (thenN ?_)
            refine ⟨(), ?_, GS.weaken ⟨rfl, rfl, rfl, congrArg AV.bool (by simp [*]), trivial⟩ (.refl _)⟩
            trivial
         ·
          rintro _ _
          refine AW.cond (b := _) rfl (fun hc13 => ?_) (fun hc13 => ?_)
          ·
           refine AW.seq (AW.region ?_)
           refine AOL.p (P_move (v := .int .i64 _) rfl) rfl ?_
           refine AOL.p (P_eql rfl rfl) rfl ?_
           refine AOL.p (P_assign (v := .bool _) rfl) rfl ?_
           refine AOL.nil (thenN ?_)
           refine AW.ret ?_
           refine blkR ?_
           refine thenR ?_
           refine ⟨.inr rfl, [.bool _], .cons (.tmp _ _ rfl) <| .nil, .refl _, ?_⟩
           simp only [resOf, shapeC, hc2, hc3, hc4, hc7, hc10, hc13, ↓reduceIte, Bool.false_eq_true]
          ·
           refine AW.seq (AW.region ?_)
           refine AOL.p (P_eql rfl rfl) rfl ?_
           refine AOL.p (P_assign (v := .bool _) rfl) rfl ?_
           refine AOL.nil (thenN ?_)
           refine AW.cond (b := _) rfl (fun hc14 => ?_) (fun hc14 => ?_)
           ·
            refine AW.seq ?_
            refine AW.seq (AW.region ?_)
            refine AOL.p (P_fieldAddr_ptr (cs' := [.int .i64 _, _, .int .i64 _]) tok rfl rfl rfl rfl rfl rfl) rfl ?_
            refine AOL.p (P_load_ptr (c := .int .i64 _) tok rfl rfl rfl) rfl ?_
            refine AOL.p (P_eql rfl rfl) rfl ?_
            refine AOL.nil (thenN ?_)
            refine AW.cond (b := _) rfl (fun hc15 => ?_) (fun hc15 => ?_)
            ·
             refine AW.seq (AW.region ?_)
             refine AOL.p (P_move (v := .int .i64 _) rfl) rfl ?_
             refine AOL.p (P_eql rfl rfl) rfl ?_
             refine AOL.p (P_assign (v := .bool _) rfl) rfl ?_
             refine AOL.nil (thenN ?_)
             refine AW.ret ?_
             refine thenR ?_
             refine blkR ?_
             refine thenR ?_
             refine ⟨.inr rfl, [.bool _], .cons (.tmp _ _ rfl) <| .nil, .refl _, ?_⟩
             simp only [resOf, shapeC, hc2, hc3, hc4, hc7, hc10, hc13, hc14, hc15, ↓reduceIte, Bool.false_eq_true]
            ·
             refine AW.skip ?_
             refine thenN ?_
             refine AW.seq (AW.region ?_)
             refine AOL.p (P_move (v := .int .i64 _) rfl) rfl ?_
             refine AOL.p (P_eql rfl rfl) rfl ?_
             refine AOL.p (P_assign (v := .bool _) rfl) rfl ?_
             refine AOL.nil (thenN ?_)
             refine AW.ret ?_
             refine blkR ?_
             refine thenR ?_
             refine ⟨.inr rfl, [.bool _], .cons (.tmp _ _ rfl) <| .nil, .refl _, ?_⟩
             simp only [resOf, shapeC, hc2, hc3, hc4, hc7, hc10, hc13, hc14, hc15, ↓reduceIte, Bool.false_eq_true]
           ·
            refine AW.skip ?_
            refine blkN ?_
            refine thenN ?_
            refine AW.seq (AW.region ?_)
            refine AOL.p (P_move (v := .int .i64 _) rfl) rfl ?_
            refine AOL.p (P_eql rfl rfl) rfl ?_
            refine AOL.p (P_assign (v := .bool _) rfl) rfl ?_
            refine AOL.nil (thenN ?_)
            refine AW.ret ?_
            refine ⟨.inr rfl, [.bool _], .cons (.tmp _ _ rfl) <| .nil, .refl _, ?_⟩
            simp only [resOf, shapeC, hc2, hc3, hc4, hc7, hc10, hc13, hc14, ↓reduceIte, Bool.false_eq_true]
set_option maxRecDepth 20000 in
set_option maxHeartbeats 400000 in
theorem w_uses (k : Int) : APure Tryz.prog 117 [.int .i64 k] (.tuple [.bool (usesC k).1, .bool (usesC k).2]) := by
 refine APure.body (n := 15) tok Tryz.func117 rfl rfl rfl fun H => ?_
 refine AW.seq (AW.region ?_)
 refine AOL.p (P_assign (v := .bool _) rfl) rfl ?_
 refine AOL.p (P_assign (v := .bool _) rfl) rfl ?_
 refine AOL.nil (thenN ?_)
 refine AW.seq ?_
 refine AW.seq (AW.region ?_)
 refine AOL.p (P_move (v := .int .i64 _) rfl) rfl ?_
 refine AOL.nil (thenN ?_)
 refine AW.block ?_
 refine AW.cut (fun (_ : Unit) => (⟨[(4, .int .i64 k), (5, .bool ((((k == 5) || (k == 14)) || (k == 16))))], H, 15⟩ : St)) (fun (_ : Unit) => True) ?_ ?_
 ·
  refine AW.seq (AW.region ?_)
  refine AOL.p (P_eql rfl rfl) rfl ?_
  refine AOL.p (P_assign (v := .bool _) rfl) rfl ?_
  refine AOL.nil (thenN ?_)
  refine AW.cond (b := _) rfl (fun hc1 => ?_) (fun hc1 => ?_)
  ·
   refine AW.skip ?_
   refine thenN ?_
   refine ⟨(), ?_, GS.weaken ⟨rfl, congrArg AV.bool (by simp [*]), trivial⟩ (.refl _)⟩
   trivial
  ·
   refine AW.seq (AW.region ?_)
   refine AOL.p (P_eql rfl rfl) rfl ?_
   refine AOL.p (P_assign (v := .bool _) rfl) rfl ?_
   refine AOL.nil (thenN ?_)
   refine AW.cond (b := _) rfl (fun hc2 => ?_) (fun hc2 => ?_)
   ·
    refine AW.skip ?_
    refine thenN ?_
    refine ⟨(), ?_, GS.weaken ⟨rfl, congrArg AV.bool (by simp [*]), trivial⟩ (.refl _)⟩
    trivial
   ·
    refine AW.region ?_
    refine AOL.p (P_eql rfl rfl) rfl ?_
    refine AOL.p (P_assign (v := .bool _) rfl) rfl ?_
    refine AOL.nil (thenN ?_)
    refine ⟨(), ?_, GS.weaken ⟨rfl, congrArg AV.bool (by simp [*]), trivial⟩ (.refl _)⟩
    trivial
 ·
  rintro _ _
  refine AW.cond (b := _) rfl (fun hc3 => ?_) (fun hc3 => ?_)
  ·
   refine AW.seq (AW.region ?_)
   refine AOL.p (P_assign (v := .bool _) rfl) rfl ?_
   refine AOL.p (P_assign (v := .bool _) rfl) rfl ?_
   refine AOL.nil (thenN ?_)
   refine AW.ret ?_
   refine blkR ?_
   refine thenR ?_
   refine ⟨.inr rfl, [.bool _, .bool _], .cons (.tmp _ _ rfl) <| .cons (.tmp _ _ rfl) <| .nil, .refl _, ?_⟩
   simp only [resOf, usesC, hc3, ↓reduceIte, Bool.false_eq_true]
  ·
   refine AW.cut (fun (_ : Unit) => (⟨[(4, .int .i64 k), (9, .bool ((((((k == 1) || (k == 2)) || (k == 3)) || (k == 4)) || (k == 15))))], H, 15⟩ : St)) (fun (_ : Unit) => True) ?_ ?_
   ·
    refine AW.seq (AW.region ?_)
    refine AOL.p (P_eql rfl rfl) rfl ?_
    refine AOL.p (P_assign (v := .bool _) rfl) rfl ?_
    refine AOL.nil (thenN ?_)
    refine AW.cond (b := _) rfl (fun hc4 => ?_) (fun hc4 => ?_)
    ·
     refine AW.skip ?_
     refine thenN ?_
     refine ⟨(), ?_, GS.weaken ⟨rfl, congrArg AV.bool (by simp [*]), trivial⟩ (.refl _)⟩
     trivial
    ·
     refine AW.seq (AW.region ?_)
     refine AOL.p (P_eql rfl rfl) rfl ?_
     refine AOL.p (P_assign (v := .bool _) rfl) rfl ?_
     refine AOL.nil (thenN ?_)
     refine AW.cond (b := _) rfl (fun hc5 => ?_) (fun hc5 => ?_)
     ·
      refine AW.skip ?_
      refine thenN ?_
      refine ⟨(), ?_, GS.weaken ⟨rfl, congrArg AV.bool (by simp [*]), trivial⟩ (.refl _)⟩
      trivial
     ·
      refine AW.seq (AW.region ?_)
      refine AOL.p (P_eql rfl rfl) rfl ?_
      refine AOL.p (P_assign (v := .bool _) rfl) rfl ?_
      refine AOL.nil (thenN ?_)
      refine AW.cond (b := _) rfl (fun hc6 => ?_) (fun hc6 => ?_)
      ·
       refine AW.skip ?_
       refine thenN ?_
       refine ⟨(), ?_, GS.weaken ⟨rfl, congrArg AV.bool (by simp [*]), trivial⟩ (.refl _)⟩
       trivial
      ·
       refine AW.seq (AW.region ?_)
       refine AOL.p (P_eql rfl rfl) rfl ?_
       refine AOL.p (P_assign (v := .bool _) rfl) rfl ?_
       refine AOL.nil (thenN ?_)
       refine AW.cond (b := _) rfl (fun hc7 => ?_) (fun hc7 => ?_)
       ·
        refine AW.skip ?_
        refine thenN ?_
        refine ⟨(), ?_, GS.weaken ⟨rfl, congrArg AV.bool (by simp [*]), trivial⟩ (.refl _)⟩
        trivial
       ·
        refine AW.region ?_
        refine AOL.p (P_eql rfl rfl) rfl ?_
        refine AOL.p (P_assign (v := .bool _) rfl) rfl ?_
        refine AOL.nil (thenN ?_)
        refine ⟨(), ?_, GS.weaken ⟨rfl, congrArg AV.bool (by simp [*]), trivial⟩ (.refl _)⟩
        trivial
   ·
    rintro _ _
    refine AW.cond (b := _) rfl (fun hc8 => ?_) (fun hc8 => ?_)
    ·
     refine AW.seq (AW.region ?_)
     refine AOL.p (P_assign (v := .bool _) rfl) rfl ?_
     refine AOL.p (P_assign (v := .bool _) rfl) rfl ?_
     refine AOL.nil (thenN ?_)
     refine AW.ret ?_
     refine blkR ?_
     refine thenR ?_
     refine ⟨.inr rfl, [.bool _, .bool _], .cons (.tmp _ _ rfl) <| .cons (.tmp _ _ rfl) <| .nil, .refl _, ?_⟩
     simp only [resOf, usesC, hc3, hc8, ↓reduceIte, Bool.false_eq_true]
    ·
     refine AW.skip ?_
     refine blkN ?_
     refine thenN ?_
     refine AW.seq (AW.region ?_)
     refine AOL.p (P_assign (v := .bool _) rfl) rfl ?_
     refine AOL.p (P_assign (v := .bool _) rfl) rfl ?_
     refine AOL.nil (thenN ?_)
     refine AW.ret ?_
     refine ⟨.inr rfl, [.bool _, .bool _], .cons (.tmp _ _ rfl) <| .cons (.tmp _ _ rfl) <| .nil, .refl _, ?_⟩
     simp only [resOf, usesC, hc3, hc8, ↓reduceIte, Bool.false_eq_true]
set_option maxRecDepth 20000 in
set_option maxHeartbeats 400000 in
theorem w_is (s : Str) (hl : s.length ≤ 1048576) : APure Tryz.prog 115 [.str s] (.bool (nmS s)) := by
 refine APure.body (n := 6) tok Tryz.func115 rfl rfl rfl fun H => ?_
 refine AW.seq (AW.region ?_)
 refine AOL.p (P_assign (v := .bool _) rfl) rfl ?_
 refine AOL.nil (thenN ?_)
 refine AW.seq (AW.region ?_)
 refine AOL.p (P_move (v := .str _) rfl) rfl ?_
 refine AOL.p (P_callf (by kernel_rfl) rfl rfl (c20 s hl)) rfl ?_
 refine AOL.p (P_eql rfl rfl) rfl ?_
 refine AOL.p (P_assign (v := .bool _) rfl) rfl ?_
 refine AOL.nil (thenN ?_)
 refine AW.ret ?_
 refine ⟨.inr rfl, [.bool _], .cons (.tmp _ _ rfl) <| .nil, .refl _, ?_⟩
 rfl
set_option maxRecDepth 20000 in
set_option maxHeartbeats 1600000 in
theorem w_named (t : Syn) (ht : t.text.length ≤ 1048576) (hn : t.name.length ≤ 1048576) : APure Tryz.prog 64 [.agg (cSyn t)] (.bool (namedC t)) := by
 refine APure.body (n := 48) tok Tryz.func64 rfl rfl rfl fun H => ?_
 refine AW.seq (AW.region ?_)
 refine AOL.p (P_box (v := .agg _) (cs := [.int .i64 _, .str _, .str _, .int .i64 _, _, .int .i64 _]) rfl rfl rfl) rfl ?_
 refine AOL.p (P_assign (v := .bool _) rfl) rfl ?_
 refine AOL.nil (thenN ?_)
 refine AW.seq (AW.region ?_)
 refine AOL.p (P_assign (v := .fn _ _ _) rfl) rfl ?_
 refine AOL.nil (thenN ?_)
 refine AW.seq (AW.region ?_)
 refine AOL.p (P_fieldAddr_ptr (cs' := [.int .i64 _, .str _, .str _, .int .i64 _, _, .int .i64 _]) tok rfl rfl rfl rfl rfl rfl) rfl ?_
 refine AOL.p (P_load_ptr (c := .int .i64 _) tok rfl rfl rfl) rfl ?_
 refine AOL.p (P_callf (by kernel_rfl) rfl rfl (w_uses t.kind)) rfl ?_
 refine AOL.p (P_move (v := .tuple _) rfl) rfl ?_
 refine AOL.p (P_extract (v := .bool _) rfl rfl) rfl ?_
 refine AOL.p (P_extract (v := .bool _) rfl rfl) rfl ?_
 refine AOL.p (P_assign (v := .bool _) rfl) rfl ?_
 refine AOL.p (P_assign (v := .bool _) rfl) rfl ?_
 refine AOL.nil (thenN ?_)
 refine AW.seq ?_
 refine AW.seq (AW.region ?_)
 refine AOL.p (P_move (v := .bool _) rfl) rfl ?_
 refine AOL.p (P_move (v := .bool _) rfl) rfl ?_
 refine AOL.g (y := .fn _ _ _) _ [] rfl (EntL.all trivial) (fun hG => P_move (v := .fn _ _ _) rfl) rfl ?_
 refine AOL.g (y := .ptr _) _ [] rfl (EntL.all trivial) (fun hG => P_fieldAddr_ptr (cs' := [.str _, .str _, .int .i64 _, _, .int .i64 _]) tok rfl rfl rfl rfl rfl rfl) rfl ?_
 refine AOL.g (y := .str _) _ [(15, _)] rfl (EntL.all ⟨Ent.self _ _, trivial⟩) (fun hG => P_load_ptr (c := .str _) tok rfl rfl rfl) rfl ?_
 refine AOL.g (y := .bool _) _ [(16, _), (14, _)] rfl (EntL.all ⟨Ent.self _ _, Ent.self _ _, trivial⟩) (fun hG => P_call (by kernel_rfl) rfl rfl rfl (w_is t.text ht)) rfl ?_
 refine AOL.g (y := .bool _) _ [(17, _)] rfl (EntL.all ⟨Ent.self _ _, trivial⟩) (fun hG => P_not rfl) rfl ?_
 refine AOL.p (P_pick_and rfl rfl rfl) rfl ?_
 refine AOL.p (P_move (v := .bool _) rfl) rfl ?_
 refine AOL.g (y := .ptr _) _ [] rfl (EntL.all trivial) (fun hG => P_fieldAddr_ptr (cs' := [.int .i64 _, .str _, .str _, .int .i64 _, _, .int .i64 _]) tok rfl rfl rfl rfl rfl rfl) rfl ?_
 refine AOL.g (y := .int .i64 _) _ [(21, _)] rfl (EntL.all ⟨Ent.self _ _, trivial⟩) (fun hG => P_load_ptr (c := .int .i64 _) tok rfl rfl rfl) rfl ?_
 refine AOL.g (y := .bool _) _ [(22, _)] rfl (EntL.all ⟨Ent.self _ _, trivial⟩) (fun hG => P_neq rfl rfl) rfl ?_
 refine AOL.g (y := .bool _) _ [(23, _)] rfl (EntL.all ⟨Ent.self _ _, trivial⟩) (fun hG => P_move (v := .bool _) rfl) rfl ?_
 refine AOL.g (y := .ptr _) _ [] rfl (EntL.all trivial) (fun hG => P_fieldAddr_ptr (cs' := [.str _, .str _, .int .i64 _, _, .int .i64 _]) tok rfl rfl rfl rfl rfl rfl) rfl ?_
 refine AOL.g (y := .str _) _ [(25, _)] rfl (EntL.all ⟨Ent.self _ _, trivial⟩) (fun hG => P_load_ptr (c := .str _) tok rfl rfl rfl) rfl ?_
 refine AOL.g (y := .bool _) _ [(26, _)] rfl (EntL.all ⟨Ent.self _ _, trivial⟩) (fun hG => P_neq_str rfl rfl) rfl ?_
 refine AOL.g (y := .bool _) _ [(24, _), (27, _)] rfl (EntL.all ⟨Ent.self _ _, Ent.suf _ _ _, trivial⟩) (fun hG => P_pick_or rfl rfl rfl) rfl ?_
 refine AOL.p (P_pick_and rfl rfl rfl) rfl ?_
 refine AOL.nil (thenN ?_)
 refine AW.cond (b := _) rfl (fun hc1 => ?_) (fun hc1 => ?_)
 ·
  refine AW.seq (AW.region ?_)
  refine AOL.p (P_assign (v := .bool _) rfl) rfl ?_
  refine AOL.nil (thenN ?_)
  refine AW.ret ?_
  refine thenR ?_
  refine ⟨.inr rfl, [.bool _], .cons (.tmp _ _ rfl) <| .nil, .refl _, ?_⟩
  simp only [resOf, namedC]
  rw [if_pos hc1]
 ·
  refine AW.skip ?_
  refine thenN ?_
  refine AW.seq (AW.region ?_)
  refine AOL.p (P_move (v := .bool _) rfl) rfl ?_
  refine AOL.p (P_not rfl) rfl ?_
  refine AOL.p (P_move (v := .bool _) rfl) rfl ?_
  refine AOL.g (y := .fn _ _ _) _ [] rfl (EntL.all trivial) (fun hG => P_move (v := .fn _ _ _) rfl) rfl ?_
  refine AOL.g (y := .ptr _) _ [] rfl (EntL.all trivial) (fun hG => P_fieldAddr_ptr (cs' := [.str _, .int .i64 _, _, .int .i64 _]) tok rfl rfl rfl rfl rfl rfl) rfl ?_
  refine AOL.g (y := .str _) _ [(34, _)] rfl (EntL.all ⟨Ent.self _ _, trivial⟩) (fun hG => P_load_ptr (c := .str _) tok rfl rfl rfl) rfl ?_
  refine AOL.g (y := .bool _) _ [(35, _), (33, _)] rfl (EntL.all ⟨Ent.self _ _, Ent.self _ _, trivial⟩) (fun hG => P_call (by kernel_rfl) rfl rfl rfl (w_is t.name hn)) rfl ?_
  refine AOL.p (P_pick_or rfl rfl rfl) rfl ?_
  refine AOL.p (P_move (v := .bool _) rfl) rfl ?_
  refine AOL.g (y := .ptr _) _ [] rfl (EntL.all trivial) (fun hG => P_fieldAddr_ptr (cs' := [.int .i64 _, .str _, .str _, .int .i64 _, _, .int .i64 _]) tok rfl rfl rfl rfl rfl rfl) rfl ?_
  refine AOL.g (y := .int .i64 _) _ [(39, _)] rfl (EntL.all ⟨Ent.self _ _, trivial⟩) (fun hG => P_load_ptr (c := .int .i64 _) tok rfl rfl rfl) rfl ?_
  refine AOL.g (y := .bool _) _ [(40, _)] rfl (EntL.all ⟨Ent.self _ _, trivial⟩) (fun hG => P_eql rfl rfl) rfl ?_
  refine AOL.g (y := .bool _) _ [(41, _)] rfl (EntL.all ⟨Ent.self _ _, trivial⟩) (fun hG => P_move (v := .bool _) rfl) rfl ?_
  refine AOL.g (y := .ptr _) _ [] rfl (EntL.all trivial) (fun hG => P_fieldAddr_ptr (cs' := [.str _, .int .i64 _, _, .int .i64 _]) tok rfl rfl rfl rfl rfl rfl) rfl ?_
  refine AOL.g (y := .str _) _ [(43, _)] rfl (EntL.all ⟨Ent.self _ _, trivial⟩) (fun hG => P_load_ptr (c := .str _) tok rfl rfl rfl) rfl ?_
  refine AOL.g (y := .bool _) _ [(44, _)] rfl (EntL.all ⟨Ent.self _ _, trivial⟩) (fun hG => P_eql_str rfl rfl) rfl ?_
  refine AOL.g (y := .bool _) _ [(42, _), (45, _)] rfl (EntL.all ⟨Ent.self _ _, Ent.suf _ _ _, trivial⟩) (fun hG => P_pick_and rfl rfl rfl) rfl ?_
  refine AOL.p (P_pick_or rfl rfl rfl) rfl ?_
  refine AOL.p (P_assign (v := .bool _) rfl) rfl ?_
  refine AOL.nil (thenN ?_)
  refine AW.ret ?_
  refine ⟨.inr rfl, [.bool _], .cons (.tmp _ _ rfl) <| .nil, .refl _, ?_⟩
  simp only [resOf, namedC]
  rw [ifF hc1]
set_option maxRecDepth 20000 in
set_option maxHeartbeats 1600000 in
theorem w_const (t : Syn) : APure Tryz.prog 118 [.agg (cSyn t)] (.int .i64 (constC t)) := by
 refine APure.body (n := 37) tok Tryz.func118 rfl rfl rfl fun H => ?_
 refine AW.seq (AW.region ?_)
 refine AOL.p (P_box (v := .agg _) (cs := [.int .i64 _, .str _, .str _, .int .i64 _, _, .int .i64 _]) rfl rfl rfl) rfl ?_
 refine AOL.p (P_assign (v := .int .i64 _) rfl) rfl ?_
 refine AOL.nil (thenN ?_)
 refine AW.seq (AW.region ?_)
 refine AOL.p (P_assign (v := .int .i64 _) rfl) rfl ?_
 refine AOL.p (P_assign (v := .int .i64 _) rfl) rfl ?_
 refine AOL.nil (thenN ?_)
 refine AW.seq ?_
 refine AW.seq (AW.region ?_)
 refine AOL.p (P_fieldAddr_ptr (cs' := [.str _, .int .i64 _, _, .int .i64 _]) tok rfl rfl rfl rfl rfl rfl) rfl ?_
 refine AOL.p (P_load_ptr (c := .str _) tok rfl rfl rfl) rfl ?_
 refine AOL.nil (thenN ?_)
 refine AW.block ?_
 refine AW.seq (AW.region ?_)
 refine AOL.p (P_eql_str rfl rfl) rfl ?_
 refine AOL.p (P_assign (v := .bool _) rfl) rfl ?_
 refine AOL.nil (thenN ?_)
 refine AW.cond (b := _) rfl (fun hc1 => ?_) (fun hc1 => ?_)
 ·
  refine AW.skip ?_
  refine blkN ?_
  refine thenN ?_
  refine AW.seq ?_
  refine AW.block ?_
  refine AW.seq (AW.region ?_)
  refine AOL.p (P_fieldAddr_ptr (cs' := [.int .i64 _, _, .int .i64 _]) tok rfl rfl rfl rfl rfl rfl) rfl ?_
  refine AOL.p (P_load_ptr (c := .int .i64 _) tok rfl rfl rfl) rfl ?_
  refine AOL.p (P_move (v := .int .i64 _) rfl) rfl ?_
  refine AOL.p (P_lss rfl rfl) rfl ?_
  refine AOL.p (P_move (v := .bool _) rfl) rfl ?_
  refine AOL.g (y := .ptr _) _ [] rfl (EntL.all trivial) (fun hG => P_fieldAddr_ptr (cs' := [.int .i64 _, _, .int .i64 _]) tok rfl rfl rfl rfl rfl rfl) rfl ?_
  refine AOL.g (y := .int .i64 _) _ [(28, _)] rfl (EntL.all ⟨Ent.self _ _, trivial⟩) (fun hG => P_load_ptr (c := .int .i64 _) tok rfl rfl rfl) rfl ?_
  refine AOL.g (y := .int .i64 _) _ [] rfl (EntL.all trivial) (fun hG => P_move (v := .int .i64 _) rfl) rfl ?_
  refine AOL.g (y := .bool _) _ [(29, _), (30, _)] rfl (EntL.all ⟨Ent.self _ _, Ent.self _ _, trivial⟩) (fun hG => P_gtr rfl rfl) rfl ?_
  refine AOL.p (P_pick_or rfl rfl rfl) rfl ?_
  refine AOL.p (P_assign (v := .bool _) rfl) rfl ?_
  refine AOL.nil (thenN ?_)
  refine AW.cond (b := _) rfl (fun hc2 => ?_) (fun hc2 => ?_)
  ·
   refine AW.seq (AW.region ?_)
   refine AOL.p (P_assign (v := .int .i64 _) rfl) rfl ?_
   refine AOL.nil (thenN ?_)
   refine AW.ret ?_
   refine blkR ?_
   refine thenR ?_
   refine ⟨.inr rfl, [.int .i64 _], .cons (.tmp _ _ rfl) <| .nil, .refl _, ?_⟩
   simp only [resOf, constC]
   rw [if_pos hc1, if_pos hc2]
  ·
   refine AW.seq (AW.region ?_)
   refine AOL.p (P_fieldAddr_ptr (cs' := [.str _, .str _, .int .i64 _, _, .int .i64 _]) tok rfl rfl rfl rfl rfl rfl) rfl ?_
   refine AOL.p (P_load_ptr (c := .str _) tok rfl rfl rfl) rfl ?_
   refine AOL.p (P_neq_str rfl rfl) rfl ?_
   refine AOL.p (P_assign (v := .bool _) rfl) rfl ?_
   refine AOL.nil (thenN ?_)
   refine AW.cond (b := _) rfl (fun hc3 => ?_) (fun hc3 => ?_)
   ·
    refine AW.seq (AW.region ?_)
    refine AOL.p (P_assign (v := .int .i64 _) rfl) rfl ?_
    refine AOL.nil (thenN ?_)
    refine AW.ret ?_
    refine blkR ?_
    refine thenR ?_
    refine ⟨.inr rfl, [.int .i64 _], .cons (.tmp _ _ rfl) <| .nil, .refl _, ?_⟩
    simp only [resOf, constC]
    rw [if_pos hc1, ifF hc2, if_pos hc3]
   ·
    refine AW.skip ?_
    refine blkN ?_
    refine thenN ?_
    refine AW.seq (AW.region ?_)
    refine AOL.p (P_assign (v := .int .i64 _) rfl) rfl ?_
    refine AOL.nil (thenN ?_)
    refine AW.ret ?_
    refine ⟨.inr rfl, [.int .i64 _], .cons (.tmp _ _ rfl) <| .nil, .refl _, ?_⟩
    simp only [resOf, constC]
    rw [if_pos hc1, ifF hc2, ifF hc3]
 ·
  refine AW.seq (AW.region ?_)
  refine AOL.p (P_eql_str rfl rfl) rfl ?_
  refine AOL.p (P_assign (v := .bool _) rfl) rfl ?_
  refine AOL.nil (thenN ?_)
  refine AW.cond (b := _) rfl (fun hc4 => ?_) (fun hc4 => ?_)
  ·
   refine AW.region ?_
   refine AOL.p (P_assign (v := .int .i64 _) rfl) rfl ?_
   refine AOL.p (P_assign (v := .int .i64 _) rfl) rfl ?_
   refine AOL.nil ?_
   refine blkN ?_
   refine thenN ?_
   refine AW.seq ?_
   refine AW.block ?_
   refine AW.seq (AW.region ?_)
   refine AOL.p (P_fieldAddr_ptr (cs' := [.int .i64 _, _, .int .i64 _]) tok rfl rfl rfl rfl rfl rfl) rfl ?_
   refine AOL.p (P_load_ptr (c := .int .i64 _) tok rfl rfl rfl) rfl ?_
   refine AOL.p (P_move (v := .int .i64 _) rfl) rfl ?_
   refine AOL.p (P_lss rfl rfl) rfl ?_
   refine AOL.p (P_move (v := .bool _) rfl) rfl ?_
   refine AOL.g (y := .ptr _) _ [] rfl (EntL.all trivial) (fun hG => P_fieldAddr_ptr (cs' := [.int .i64 _, _, .int .i64 _]) tok rfl rfl rfl rfl rfl rfl) rfl ?_
   refine AOL.g (y := .int .i64 _) _ [(28, _)] rfl (EntL.all ⟨Ent.self _ _, trivial⟩) (fun hG => P_load_ptr (c := .int .i64 _) tok rfl rfl rfl) rfl ?_
   refine AOL.g (y := .int .i64 _) _ [] rfl (EntL.all trivial) (fun hG => P_move (v := .int .i64 _) rfl) rfl ?_
   refine AOL.g (y := .bool _) _ [(29, _), (30, _)] rfl (EntL.all ⟨Ent.self _ _, Ent.self _ _, trivial⟩) (fun hG => P_gtr rfl rfl) rfl ?_
   refine AOL.p (P_pick_or rfl rfl rfl) rfl ?_
   refine AOL.p (P_assign (v := .bool _) rfl) rfl ?_
   refine AOL.nil (thenN ?_)
   refine AW.cond (b := _) rfl (fun hc5 => ?_) (fun hc5 => ?_)
   ·
    refine AW.seq (AW.region ?_)
    refine AOL.p (P_assign (v := .int .i64 _) rfl) rfl ?_
    refine AOL.nil (thenN ?_)
    refine AW.ret ?_
    refine blkR ?_
    refine thenR ?_
    refine ⟨.inr rfl, [.int .i64 _], .cons (.tmp _ _ rfl) <| .nil, .refl _, ?_⟩
    simp only [resOf, constC]
    rw [ifF hc1, if_pos hc4, if_pos hc5]
   ·
    refine AW.seq (AW.region ?_)
    refine AOL.p (P_fieldAddr_ptr (cs' := [.str _, .str _, .int .i64 _, _, .int .i64 _]) tok rfl rfl rfl rfl rfl rfl) rfl ?_
    refine AOL.p (P_load_ptr (c := .str _) tok rfl rfl rfl) rfl ?_
    refine AOL.p (P_neq_str rfl rfl) rfl ?_
    refine AOL.p (P_assign (v := .bool _) rfl) rfl ?_
    refine AOL.nil (thenN ?_)
    refine AW.cond (b := _) rfl (fun hc6 => ?_) (fun hc6 => ?_)
    ·
     refine AW.seq (AW.region ?_)
     refine AOL.p (P_assign (v := .int .i64 _) rfl) rfl ?_
     refine AOL.nil (thenN ?_)
     refine AW.ret ?_
     refine blkR ?_
     refine thenR ?_
     refine ⟨.inr rfl, [.int .i64 _], .cons (.tmp _ _ rfl) <| .nil, .refl _, ?_⟩
     simp only [resOf, constC]
     rw [ifF hc1, if_pos hc4, ifF hc5, if_pos hc6]
    ·
     refine AW.skip ?_
     refine blkN ?_
     refine thenN ?_
     refine AW.seq (AW.region ?_)
     refine AOL.p (P_assign (v := .int .i64 _) rfl) rfl ?_
     refine AOL.nil (thenN ?_)
     refine AW.ret ?_
     refine ⟨.inr rfl, [.int .i64 _], .cons (.tmp _ _ rfl) <| .nil, .refl _, ?_⟩
     simp only [resOf, constC]
     rw [ifF hc1, if_pos hc4, ifF hc5, ifF hc6]
  ·
   refine AW.seq (AW.region ?_)
   refine AOL.p (P_eql_str rfl rfl) rfl ?_
   refine AOL.p (P_assign (v := .bool _) rfl) rfl ?_
   refine AOL.nil (thenN ?_)
   refine AW.cond (b := _) rfl (fun hc7 => ?_) (fun hc7 => ?_)
   ·
    refine AW.seq ?_
    refine AW.block ?_
    refine AW.seq (AW.region ?_)
    refine AOL.p (P_fieldAddr_ptr (cs' := [.str _, .str _, .int .i64 _, _, .int .i64 _]) tok rfl rfl rfl rfl rfl rfl) rfl ?_
    refine AOL.p (P_load_ptr (c := .str _) tok rfl rfl rfl) rfl ?_
    refine AOL.p (P_len_str tok rfl rfl rfl rfl) rfl ?_
    refine AOL.p (P_gtr rfl rfl) rfl ?_
    refine AOL.p (P_assign (v := .bool _) rfl) rfl ?_
    refine AOL.nil (thenN ?_)
    refine AW.cond (b := _) rfl (fun hc8 => ?_) (fun hc8 => ?_)
    ·
     refine AW.seq (AW.region ?_)
     refine AOL.p (P_assign (v := .int .i64 _) rfl) rfl ?_
     refine AOL.nil (thenN ?_)
     refine AW.ret ?_
     refine blkR ?_
     refine thenR ?_
     refine blkR ?_
     refine thenR ?_
     refine ⟨.inr rfl, [.int .i64 _], .cons (.tmp _ _ rfl) <| .nil, .refl _, ?_⟩
     simp only [resOf, constC]
     rw [ifF hc1, ifF hc4, if_pos hc7, if_pos hc8]
    ·
     refine AW.seq (AW.region ?_)
     refine AOL.p (P_fieldAddr_ptr (cs' := [.int .i64 _, _, .int .i64 _]) tok rfl rfl rfl rfl rfl rfl) rfl ?_
     refine AOL.p (P_load_ptr (c := .int .i64 _) tok rfl rfl rfl) rfl ?_
     refine AOL.p (P_neq rfl rfl) rfl ?_
     refine AOL.p (P_assign (v := .bool _) rfl) rfl ?_
     refine AOL.nil (thenN ?_)
     refine AW.cond (b := _) rfl (fun hc9 => ?_) (fun hc9 => ?_)
     ·
      refine AW.seq (AW.region ?_)
      refine AOL.p (P_assign (v := .int .i64 _) rfl) rfl ?_
      refine AOL.nil (thenN ?_)
      refine AW.ret ?_
      refine blkR ?_
      refine thenR ?_
      refine blkR ?_
      refine thenR ?_
      refine ⟨.inr rfl, [.int .i64 _], .cons (.tmp _ _ rfl) <| .nil, .refl _, ?_⟩
      simp only [resOf, constC]
      rw [ifF hc1, ifF hc4, if_pos hc7, ifF hc8, if_pos hc9]
     ·
      refine AW.skip ?_
      refine blkN ?_
      refine thenN ?_
      refine AW.seq (AW.region ?_)
      refine AOL.p (P_assign (v := .int .i64 _) rfl) rfl ?_
      refine AOL.nil (thenN ?_)
      refine AW.ret ?_
      refine blkR ?_
      refine thenR ?_
      refine ⟨.inr rfl, [.int .i64 _], .cons (.tmp _ _ rfl) <| .nil, .refl _, ?_⟩
      simp only [resOf, constC]
      rw [ifF hc1, ifF hc4, if_pos hc7, ifF hc8, ifF hc9]
   ·
    refine AW.seq (AW.region ?_)
    refine AOL.p (P_assign (v := .int .i64 _) rfl) rfl ?_
    refine AOL.nil (thenN ?_)
    refine AW.ret ?_
    refine blkR ?_
    refine thenR ?_
    refine ⟨.inr rfl, [.int .i64 _], .cons (.tmp _ _ rfl) <| .nil, .refl _, ?_⟩
    simp only [resOf, constC]
    rw [ifF hc1, ifF hc4, ifF hc7]
set_option maxRecDepth 20000 in
set_option maxHeartbeats 1600000 in
theorem w_number (t : Syn) : APure Tryz.prog 119 [.agg (cSyn t)] (.int .i64 (numC t)) := by
 refine APure.body (n := 27) tok Tryz.func119 rfl rfl rfl fun H => ?_
 refine AW.seq (AW.region ?_)
 refine AOL.p (P_box (v := .agg _) (cs := [.int .i64 _, .str _, .str _, .int .i64 _, _, .int .i64 _]) rfl rfl rfl) rfl ?_
 refine AOL.p (P_assign (v := .int .i64 _) rfl) rfl ?_
 refine AOL.nil (thenN ?_)
 refine AW.seq (AW.region ?_)
 refine AOL.p (P_assign (v := .int .i64 _) rfl) rfl ?_
 refine AOL.p (P_assign (v := .int .i64 _) rfl) rfl ?_
 refine AOL.p (P_assign (v := .int .i64 _) rfl) rfl ?_
 refine AOL.nil (thenN ?_)
 refine AW.seq ?_
 refine AW.seq (AW.region ?_)
 refine AOL.p (P_fieldAddr_ptr (cs' := [.int .i64 _, .str _, .str _, .int .i64 _, _, .int .i64 _]) tok rfl rfl rfl rfl rfl rfl) rfl ?_
 refine AOL.p (P_load_ptr (c := .int .i64 _) tok rfl rfl rfl) rfl ?_
 refine AOL.nil (thenN ?_)
 refine AW.block ?_
 refine AW.seq (AW.region ?_)
 refine AOL.p (P_eql rfl rfl) rfl ?_
 refine AOL.p (P_assign (v := .bool _) rfl) rfl ?_
 refine AOL.nil (thenN ?_)
 refine AW.cond (b := _) rfl (fun hc1 => ?_) (fun hc1 => ?_)
 ·
  refine AW.region ?_
  refine AOL.p (P_assign (v := .int .i64 _) rfl) rfl ?_
  refine AOL.p (P_assign (v := .int .i64 _) rfl) rfl ?_
  refine AOL.p (P_assign (v := .int .i64 _) rfl) rfl ?_
  refine AOL.nil ?_
  refine blkN ?_
  refine thenN ?_
  refine AW.seq ?_
  refine AW.seq (AW.region ?_)
  refine AOL.p (P_fieldAddr_ptr (cs' := [.int .i64 _, _, .int .i64 _]) tok rfl rfl rfl rfl rfl rfl) rfl ?_
  refine AOL.p (P_load_ptr (c := .int .i64 _) tok rfl rfl rfl) rfl ?_
  refine AOL.p (P_move (v := .int .i64 _) rfl) rfl ?_
  refine AOL.p (P_lss rfl rfl) rfl ?_
  refine AOL.p (P_move (v := .bool _) rfl) rfl ?_
  refine AOL.g (y := .ptr _) _ [] rfl (EntL.all trivial) (fun hG => P_fieldAddr_ptr (cs' := [.int .i64 _, _, .int .i64 _]) tok rfl rfl rfl rfl rfl rfl) rfl ?_
  refine AOL.g (y := .int .i64 _) _ [(21, _)] rfl (EntL.all ⟨Ent.self _ _, trivial⟩) (fun hG => P_load_ptr (c := .int .i64 _) tok rfl rfl rfl) rfl ?_
  refine AOL.g (y := .int .i64 _) _ [] rfl (EntL.all trivial) (fun hG => P_move (v := .int .i64 _) rfl) rfl ?_
  refine AOL.g (y := .bool _) _ [(22, _), (23, _)] rfl (EntL.all ⟨Ent.self _ _, Ent.self _ _, trivial⟩) (fun hG => P_gtr rfl rfl) rfl ?_
  refine AOL.p (P_pick_or rfl rfl rfl) rfl ?_
  refine AOL.nil (thenN ?_)
  refine AW.cond (b := _) rfl (fun hc2 => ?_) (fun hc2 => ?_)
  ·
   refine AW.seq (AW.region ?_)
   refine AOL.p (P_move (v := .int .i64 _) rfl) rfl ?_
   refine AOL.p (P_assign (v := .int .i64 _) rfl) rfl ?_
   refine AOL.nil (thenN ?_)
   refine AW.ret ?_
   refine thenR ?_
   refine ⟨.inr rfl, [.int .i64 _], .cons (.tmp _ _ rfl) <| .nil, .refl _, ?_⟩
   simp only [resOf, numC, hc1, hc2, ↓reduceIte, Bool.false_eq_true]
  ·
   refine AW.skip ?_
   refine thenN ?_
   refine AW.seq (AW.region ?_)
   refine AOL.p (P_assign (v := .int .i64 _) rfl) rfl ?_
   refine AOL.nil (thenN ?_)
   refine AW.ret ?_
   refine ⟨.inr rfl, [.int .i64 _], .cons (.tmp _ _ rfl) <| .nil, .refl _, ?_⟩
   simp only [resOf, numC, hc1, hc2, ↓reduceIte, Bool.false_eq_true]
 ·
  refine AW.seq (AW.region ?_)
  refine AOL.p (P_eql rfl rfl) rfl ?_
  refine AOL.p (P_assign (v := .bool _) rfl) rfl ?_
  refine AOL.nil (thenN ?_)
  refine AW.cond (b := _) rfl (fun hc3 => ?_) (fun hc3 => ?_)
  ·
   refine AW.region ?_
   refine AOL.p (P_assign (v := .int .i64 _) rfl) rfl ?_
   refine AOL.p (P_assign (v := .int .i64 _) rfl) rfl ?_
   refine AOL.p (P_assign (v := .int .i64 _) rfl) rfl ?_
   refine AOL.nil ?_
   refine blkN ?_
   refine thenN ?_
   refine AW.seq ?_
   refine AW.seq (AW.region ?_)
   refine AOL.p (P_fieldAddr_ptr (cs' := [.int .i64 _, _, .int .i64 _]) tok rfl rfl rfl rfl rfl rfl) rfl ?_
   refine AOL.p (P_load_ptr (c := .int .i64 _) tok rfl rfl rfl) rfl ?_
   refine AOL.p (P_move (v := .int .i64 _) rfl) rfl ?_
   refine AOL.p (P_lss rfl rfl) rfl ?_
   refine AOL.p (P_move (v := .bool _) rfl) rfl ?_
   refine AOL.g (y := .ptr _) _ [] rfl (EntL.all trivial) (fun hG => P_fieldAddr_ptr (cs' := [.int .i64 _, _, .int .i64 _]) tok rfl rfl rfl rfl rfl rfl) rfl ?_
   refine AOL.g (y := .int .i64 _) _ [(21, _)] rfl (EntL.all ⟨Ent.self _ _, trivial⟩) (fun hG => P_load_ptr (c := .int .i64 _) tok rfl rfl rfl) rfl ?_
   refine AOL.g (y := .int .i64 _) _ [] rfl (EntL.all trivial) (fun hG => P_move (v := .int .i64 _) rfl) rfl ?_
   refine AOL.g (y := .bool _) _ [(22, _), (23, _)] rfl (EntL.all ⟨Ent.self _ _, Ent.self _ _, trivial⟩) (fun hG => P_gtr rfl rfl) rfl ?_
   refine AOL.p (P_pick_or rfl rfl rfl) rfl ?_
   refine AOL.nil (thenN ?_)
   refine AW.cond (b := _) rfl (fun hc4 => ?_) (fun hc4 => ?_)
   ·
    refine AW.seq (AW.region ?_)
    refine AOL.p (P_move (v := .int .i64 _) rfl) rfl ?_
    refine AOL.p (P_assign (v := .int .i64 _) rfl) rfl ?_
    refine AOL.nil (thenN ?_)
    refine AW.ret ?_
    refine thenR ?_
    refine ⟨.inr rfl, [.int .i64 _], .cons (.tmp _ _ rfl) <| .nil, .refl _, ?_⟩
    simp only [resOf, numC, hc1, hc3, hc4, ↓reduceIte, Bool.false_eq_true]
   ·
    refine AW.skip ?_
    refine thenN ?_
    refine AW.seq (AW.region ?_)
    refine AOL.p (P_assign (v := .int .i64 _) rfl) rfl ?_
    refine AOL.nil (thenN ?_)
    refine AW.ret ?_
    refine ⟨.inr rfl, [.int .i64 _], .cons (.tmp _ _ rfl) <| .nil, .refl _, ?_⟩
    simp only [resOf, numC, hc1, hc3, hc4, ↓reduceIte, Bool.false_eq_true]
  ·
   refine AW.seq (AW.region ?_)
   refine AOL.p (P_eql rfl rfl) rfl ?_
   refine AOL.p (P_assign (v := .bool _) rfl) rfl ?_
   refine AOL.nil (thenN ?_)
   refine AW.cond (b := _) rfl (fun hc5 => ?_) (fun hc5 => ?_)
   ·
    refine AW.region ?_
    refine AOL.p (P_assign (v := .int .i64 _) rfl) rfl ?_
    refine AOL.p (P_assign (v := .int .i64 _) rfl) rfl ?_
    refine AOL.p (P_assign (v := .int .i64 _) rfl) rfl ?_
    refine AOL.nil ?_
    refine blkN ?_
    refine thenN ?_
    refine AW.seq ?_
    refine AW.seq (AW.region ?_)
    refine AOL.p (P_fieldAddr_ptr (cs' := [.int .i64 _, _, .int .i64 _]) tok rfl rfl rfl rfl rfl rfl) rfl ?_
    refine AOL.p (P_load_ptr (c := .int .i64 _) tok rfl rfl rfl) rfl ?_
    refine AOL.p (P_move (v := .int .i64 _) rfl) rfl ?_
    refine AOL.p (P_lss rfl rfl) rfl ?_
    refine AOL.p (P_move (v := .bool _) rfl) rfl ?_
    refine AOL.g (y := .ptr _) _ [] rfl (EntL.all trivial) (fun hG => P_fieldAddr_ptr (cs' := [.int .i64 _, _, .int .i64 _]) tok rfl rfl rfl rfl rfl rfl) rfl ?_
    refine AOL.g (y := .int .i64 _) _ [(21, _)] rfl (EntL.all ⟨Ent.self _ _, trivial⟩) (fun hG => P_load_ptr (c := .int .i64 _) tok rfl rfl rfl) rfl ?_
    refine AOL.g (y := .int .i64 _) _ [] rfl (EntL.all trivial) (fun hG => P_move (v := .int .i64 _) rfl) rfl ?_
    refine AOL.g (y := .bool _) _ [(22, _), (23, _)] rfl (EntL.all ⟨Ent.self _ _, Ent.self _ _, trivial⟩) (fun hG => P_gtr rfl rfl) rfl ?_
    refine AOL.p (P_pick_or rfl rfl rfl) rfl ?_
    refine AOL.nil (thenN ?_)
    refine AW.cond (b := _) rfl (fun hc6 => ?_) (fun hc6 => ?_)
    ·
     refine AW.seq (AW.region ?_)
     refine AOL.p (P_move (v := .int .i64 _) rfl) rfl ?_
     refine AOL.p (P_assign (v := .int .i64 _) rfl) rfl ?_
     refine AOL.nil (thenN ?_)
     refine AW.ret ?_
     refine thenR ?_
     refine ⟨.inr rfl, [.int .i64 _], .cons (.tmp _ _ rfl) <| .nil, .refl _, ?_⟩
     simp only [resOf, numC, hc1, hc3, hc5, hc6, ↓reduceIte, Bool.false_eq_true]
    ·
     refine AW.skip ?_
     refine thenN ?_
     refine AW.seq (AW.region ?_)
     refine AOL.p (P_assign (v := .int .i64 _) rfl) rfl ?_
     refine AOL.nil (thenN ?_)
     refine AW.ret ?_
     refine ⟨.inr rfl, [.int .i64 _], .cons (.tmp _ _ rfl) <| .nil, .refl _, ?_⟩
     simp only [resOf, numC, hc1, hc3, hc5, hc6, ↓reduceIte, Bool.false_eq_true]
   ·
    refine AW.seq (AW.region ?_)
    refine AOL.p (P_eql rfl rfl) rfl ?_
    refine AOL.p (P_assign (v := .bool _) rfl) rfl ?_
    refine AOL.nil (thenN ?_)
    refine AW.cond (b := _) rfl (fun hc7 => ?_) (fun hc7 => ?_)
    ·
     refine AW.region ?_
     refine AOL.p (P_assign (v := .int .i64 _) rfl) rfl ?_
     refine AOL.p (P_assign (v := .int .i64 _) rfl) rfl ?_
     refine AOL.nil ?_
     refine blkN ?_
     refine thenN ?_
     refine AW.seq ?_
     refine AW.seq (AW.region ?_)
     refine AOL.p (P_fieldAddr_ptr (cs' := [.int .i64 _, _, .int .i64 _]) tok rfl rfl rfl rfl rfl rfl) rfl ?_
     refine AOL.p (P_load_ptr (c := .int .i64 _) tok rfl rfl rfl) rfl ?_
     refine AOL.p (P_move (v := .int .i64 _) rfl) rfl ?_
     refine AOL.p (P_lss rfl rfl) rfl ?_
     refine AOL.p (P_move (v := .bool _) rfl) rfl ?_
     refine AOL.g (y := .ptr _) _ [] rfl (EntL.all trivial) (fun hG => P_fieldAddr_ptr (cs' := [.int .i64 _, _, .int .i64 _]) tok rfl rfl rfl rfl rfl rfl) rfl ?_
     refine AOL.g (y := .int .i64 _) _ [(21, _)] rfl (EntL.all ⟨Ent.self _ _, trivial⟩) (fun hG => P_load_ptr (c := .int .i64 _) tok rfl rfl rfl) rfl ?_
     refine AOL.g (y := .int .i64 _) _ [] rfl (EntL.all trivial) (fun hG => P_move (v := .int .i64 _) rfl) rfl ?_
     refine AOL.g (y := .bool _) _ [(22, _), (23, _)] rfl (EntL.all ⟨Ent.self _ _, Ent.self _ _, trivial⟩) (fun hG => P_gtr rfl rfl) rfl ?_
     refine AOL.p (P_pick_or rfl rfl rfl) rfl ?_
     refine AOL.nil (thenN ?_)
     refine AW.cond (b := _) rfl (fun hc8 => ?_) (fun hc8 => ?_)
     ·
      refine AW.seq (AW.region ?_)
      refine AOL.p (P_move (v := .int .i64 _) rfl) rfl ?_
      refine AOL.p (P_assign (v := .int .i64 _) rfl) rfl ?_
      refine AOL.nil (thenN ?_)
      refine AW.ret ?_
      refine thenR ?_
      refine ⟨.inr rfl, [.int .i64 _], .cons (.tmp _ _ rfl) <| .nil, .refl _, ?_⟩
      simp only [resOf, numC, hc1, hc3, hc5, hc7, hc8, ↓reduceIte, Bool.false_eq_true]
     ·
      refine AW.skip ?_
      refine thenN ?_
      refine AW.seq (AW.region ?_)
      refine AOL.p (P_assign (v := .int .i64 _) rfl) rfl ?_
      refine AOL.nil (thenN ?_)
      refine AW.ret ?_
      refine ⟨.inr rfl, [.int .i64 _], .cons (.tmp _ _ rfl) <| .nil, .refl _, ?_⟩
      simp only [resOf, numC, hc1, hc3, hc5, hc7, hc8, ↓reduceIte, Bool.false_eq_true]
    ·
     refine AW.skip ?_
     refine blkN ?_
     refine thenN ?_
     refine AW.seq ?_
     refine AW.seq (AW.region ?_)
     refine AOL.p (P_fieldAddr_ptr (cs' := [.int .i64 _, _, .int .i64 _]) tok rfl rfl rfl rfl rfl rfl) rfl ?_
     refine AOL.p (P_load_ptr (c := .int .i64 _) tok rfl rfl rfl) rfl ?_
     refine AOL.p (P_move (v := .int .i64 _) rfl) rfl ?_
     refine AOL.p (P_lss rfl rfl) rfl ?_
     refine AOL.p (P_move (v := .bool _) rfl) rfl ?_
     refine AOL.g (y := .ptr _) _ [] rfl (EntL.all trivial) (fun hG => P_fieldAddr_ptr (cs' := [.int .i64 _, _, .int .i64 _]) tok rfl rfl rfl rfl rfl rfl) rfl ?_
     refine AOL.g (y := .int .i64 _) _ [(21, _)] rfl (EntL.all ⟨Ent.self _ _, trivial⟩) (fun hG => P_load_ptr (c := .int .i64 _) tok rfl rfl rfl) rfl ?_
     refine AOL.g (y := .int .i64 _) _ [] rfl (EntL.all trivial) (fun hG => P_move (v := .int .i64 _) rfl) rfl ?_
     refine AOL.g (y := .bool _) _ [(22, _), (23, _)] rfl (EntL.all ⟨Ent.self _ _, Ent.self _ _, trivial⟩) (fun hG => P_gtr rfl rfl) rfl ?_
     refine AOL.p (P_pick_or rfl rfl rfl) rfl ?_
     refine AOL.nil (thenN ?_)
     refine AW.cond (b := _) rfl (fun hc9 => ?_) (fun hc9 => ?_)
     ·
      refine AW.seq (AW.region ?_)
      refine AOL.p (P_move (v := .int .i64 _) rfl) rfl ?_
      refine AOL.p (P_assign (v := .int .i64 _) rfl) rfl ?_
      refine AOL.nil (thenN ?_)
      refine AW.ret ?_
      refine thenR ?_
      refine ⟨.inr rfl, [.int .i64 _], .cons (.tmp _ _ rfl) <| .nil, .refl _, ?_⟩
      simp only [resOf, numC, hc1, hc3, hc5, hc7, hc9, ↓reduceIte, Bool.false_eq_true]
     ·
      refine AW.skip ?_
      refine thenN ?_
      refine AW.seq (AW.region ?_)
      refine AOL.p (P_assign (v := .int .i64 _) rfl) rfl ?_
      refine AOL.nil (thenN ?_)
      refine AW.ret ?_
      refine ⟨.inr rfl, [.int .i64 _], .cons (.tmp _ _ rfl) <| .nil, .refl _, ?_⟩
      simp only [resOf, numC, hc1, hc3, hc5, hc7, hc9, ↓reduceIte, Bool.false_eq_true]
set_option maxRecDepth 20000 in
set_option maxHeartbeats 1600000 in
theorem w_fields (t : Syn) : APure Tryz.prog 65 [.agg (cSyn t)] (.int .i64 (fieldsC t)) := by
 refine APure.body (n := 38) tok Tryz.func65 rfl rfl rfl fun H => ?_
 refine AW.seq (AW.region ?_)
 refine AOL.p (P_box (v := .agg _) (cs := [.int .i64 _, .str _, .str _, .int .i64 _, _, .int .i64 _]) rfl rfl rfl) rfl ?_
 refine AOL.p (P_assign (v := .int .i64 _) rfl) rfl ?_
 refine AOL.nil (thenN ?_)
 refine AW.seq ?_
 refine AW.seq (AW.region ?_)
 refine AOL.p (P_fieldAddr_ptr (cs' := [.int .i64 _, .str _, .str _, .int .i64 _, _, .int .i64 _]) tok rfl rfl rfl rfl rfl rfl) rfl ?_
 refine AOL.p (P_load_ptr (c := .int .i64 _) tok rfl rfl rfl) rfl ?_
 refine AOL.p (P_eql rfl rfl) rfl ?_
 refine AOL.nil (thenN ?_)
 refine AW.cond (b := _) rfl (fun hc1 => ?_) (fun hc1 => ?_)
 ·
  refine AW.seq (AW.region ?_)
  refine AOL.p (P_load_ptr_agg (l := [.int .i64 _, .str _, .str _, .int .i64 _, _, .int .i64 _]) tok rfl rfl rfl rfl rfl) rfl ?_
  refine AOL.p (P_callf (by kernel_rfl) rfl rfl (w_const t)) rfl ?_
  refine AOL.p (P_assign (v := .int .i64 _) rfl) rfl ?_
  refine AOL.nil (thenN ?_)
  refine AW.ret ?_
  refine thenR ?_
  refine ⟨.inr rfl, [.int .i64 _], .cons (.tmp _ _ rfl) <| .nil, .refl _, ?_⟩
  simp only [resOf, fieldsC]
  rw [if_pos hc1]
 ·
  refine AW.skip ?_
  refine thenN ?_
  refine AW.seq ?_
  refine AW.seq (AW.region ?_)
  refine AOL.p (P_load_ptr_agg (l := [.int .i64 _, .str _, .str _, .int .i64 _, _, .int .i64 _]) tok rfl rfl rfl rfl rfl) rfl ?_
  refine AOL.p (P_callf (by kernel_rfl) rfl rfl (w_number t)) rfl ?_
  refine AOL.p (P_assign (v := .int .i64 _) rfl) rfl ?_
  refine AOL.nil (thenN ?_)
  refine AW.seq (AW.region ?_)
  refine AOL.p (P_move (v := .int .i64 _) rfl) rfl ?_
  refine AOL.p (P_neq rfl rfl) rfl ?_
  refine AOL.nil (thenN ?_)
  refine AW.cond (b := _) rfl (fun hc2 => ?_) (fun hc2 => ?_)
  ·
   refine AW.seq (AW.region ?_)
   refine AOL.p (P_move (v := .int .i64 _) rfl) rfl ?_
   refine AOL.p (P_assign (v := .int .i64 _) rfl) rfl ?_
   refine AOL.nil (thenN ?_)
   refine AW.ret ?_
   refine thenR ?_
   refine ⟨.inr rfl, [.int .i64 _], .cons (.tmp _ _ rfl) <| .nil, .refl _, ?_⟩
   simp only [resOf, fieldsC]
   rw [ifF hc1, if_pos hc2]
  ·
   refine AW.skip ?_
   refine thenN ?_
   refine AW.seq ?_
   refine AW.seq (AW.region ?_)
   refine AOL.p (P_fieldAddr_ptr (cs' := [.int .i64 _, .str _, .str _, .int .i64 _, _, .int .i64 _]) tok rfl rfl rfl rfl rfl rfl) rfl ?_
   refine AOL.p (P_load_ptr (c := .int .i64 _) tok rfl rfl rfl) rfl ?_
   refine AOL.p (P_callf (by kernel_rfl) rfl rfl (w_uses t.kind)) rfl ?_
   refine AOL.p (P_move (v := .tuple _) rfl) rfl ?_
   refine AOL.p (P_extract (v := .bool _) rfl rfl) rfl ?_
   refine AOL.p (P_extract (v := .bool _) rfl rfl) rfl ?_
   refine AOL.p (P_assign (v := .bool _) rfl) rfl ?_
   refine AOL.p (P_assign (v := .bool _) rfl) rfl ?_
   refine AOL.nil (thenN ?_)
   refine AW.seq (AW.region ?_)
   refine AOL.p (P_move (v := .bool _) rfl) rfl ?_
   refine AOL.p (P_not rfl) rfl ?_
   refine AOL.p (P_move (v := .bool _) rfl) rfl ?_
   refine AOL.g (y := .ptr _) _ [] rfl (EntL.all trivial) (fun hG => P_fieldAddr_ptr (cs' := [.str _, .str _, .int .i64 _, _, .int .i64 _]) tok rfl rfl rfl rfl rfl rfl) rfl ?_
   refine AOL.g (y := .str _) _ [(25, _)] rfl (EntL.all ⟨Ent.self _ _, trivial⟩) (fun hG => P_load_ptr (c := .str _) tok rfl rfl rfl) rfl ?_
   refine AOL.g (y := .bool _) _ [(26, _)] rfl (EntL.all ⟨Ent.self _ _, trivial⟩) (fun hG => P_neq_str rfl rfl) rfl ?_
   refine AOL.p (P_pick_and rfl rfl rfl) rfl ?_
   refine AOL.p (P_move (v := .bool _) rfl) rfl ?_
   refine AOL.g (y := .bool _) _ [] rfl (EntL.all trivial) (fun hG => P_move (v := .bool _) rfl) rfl ?_
   refine AOL.g (y := .bool _) _ [(30, _)] rfl (EntL.all ⟨Ent.self _ _, trivial⟩) (fun hG => P_not rfl) rfl ?_
   refine AOL.g (y := .bool _) _ [(31, _)] rfl (EntL.all ⟨Ent.self _ _, trivial⟩) (fun hG => P_move (v := .bool _) rfl) rfl ?_
   refine AOL.g (y := .ptr _) _ [] rfl (EntL.all trivial) (fun hG => P_fieldAddr_ptr (cs' := [.str _, .int .i64 _, _, .int .i64 _]) tok rfl rfl rfl rfl rfl rfl) rfl ?_
   refine AOL.g (y := .str _) _ [(33, _)] rfl (EntL.all ⟨Ent.self _ _, trivial⟩) (fun hG => P_load_ptr (c := .str _) tok rfl rfl rfl) rfl ?_
   refine AOL.g (y := .bool _) _ [(34, _)] rfl (EntL.all ⟨Ent.self _ _, trivial⟩) (fun hG => P_neq_str rfl rfl) rfl ?_
   refine AOL.g (y := .bool _) _ [(32, _), (35, _)] rfl (EntL.all ⟨Ent.self _ _, Ent.suf _ _ _, trivial⟩) (fun hG => P_pick_and rfl rfl rfl) rfl ?_
   refine AOL.p (P_pick_or rfl rfl rfl) rfl ?_
   refine AOL.nil (thenN ?_)
   refine AW.cond (b := _) rfl (fun hc3 => ?_) (fun hc3 => ?_)
   ·
    refine AW.seq (AW.region ?_)
    refine AOL.p (P_assign (v := .int .i64 _) rfl) rfl ?_
    refine AOL.nil (thenN ?_)
    refine AW.ret ?_
    refine thenR ?_
    refine ⟨.inr rfl, [.int .i64 _], .cons (.tmp _ _ rfl) <| .nil, .refl _, ?_⟩
    simp only [resOf, fieldsC]
    rw [ifF hc1, ifF hc2, if_pos hc3]
   ·
    refine AW.skip ?_
    refine thenN ?_
    refine AW.seq (AW.region ?_)
    refine AOL.p (P_assign (v := .int .i64 _) rfl) rfl ?_
    refine AOL.nil (thenN ?_)
    refine AW.ret ?_
    refine ⟨.inr rfl, [.int .i64 _], .cons (.tmp _ _ rfl) <| .nil, .refl _, ?_⟩
    simp only [resOf, fieldsC]
    rw [ifF hc1, ifF hc2, ifF hc3]
set_option maxRecDepth 20000 in
set_option maxHeartbeats 3200000 in
theorem w_kid (t : Syn) (i : Nat) (hi : i < t.kids.length) (hl : t.kids.length ≤ 1048576) : APure Tryz.prog 66 [.agg (cSyn t), .int .i64 (i : Int)] (plV (kidC t i)) := by
 refine APure.body (n := 59) tok Tryz.func66 rfl rfl rfl fun H => ?_
 refine AW.seq (AW.region ?_)
 refine AOL.p (P_box (v := .agg _) (cs := [.int .i64 _, .str _, .str _, .int .i64 _, _, .int .i64 _]) rfl rfl rfl) rfl ?_
 refine AOL.p (P_assign (v := .val _) rfl) rfl ?_
 refine AOL.nil (thenN ?_)
 refine AW.seq ?_
 refine AW.seq (AW.region ?_)
 refine AOL.p (P_fieldAddr_ptr (cs' := [.int .i64 _, .str _, .str _, .int .i64 _, _, .int .i64 _]) tok rfl rfl rfl rfl rfl rfl) rfl ?_
 refine AOL.p (P_load_ptr (c := .int .i64 _) tok rfl rfl rfl) rfl ?_
 refine AOL.nil (thenN ?_)
 refine AW.block ?_
 refine AW.seq (AW.region ?_)
 refine AOL.p (P_eql rfl rfl) rfl ?_
 refine AOL.p (P_assign (v := .bool _) rfl) rfl ?_
 refine AOL.nil (thenN ?_)
 refine AW.cond (b := _) rfl (fun hc1 => ?_) (fun hc1 => ?_)
 ·
  refine AW.seq ?_
  refine AW.seq (AW.region ?_)
  refine AOL.p (P_fieldAddr_ptr (cs' := [_, .int .i64 _]) tok rfl rfl rfl rfl rfl rfl) rfl ?_
  refine AOL.p (P_load_ptr (c := .sl _ _) tok rfl rfl rfl) rfl ?_
  refine AOL.p (P_move (v := .int .i64 _) rfl) rfl ?_
  refine AOL.p (P_indexAddr (c := cSyn (kidN t i)) tok rfl rfl rfl rfl rfl rfl (by omega) (encS_at (kid_has hi))) rfl ?_
  refine AOL.p (P_fieldAddr_ptr (cs' := [.int .i64 _, .str _, .str _, .int .i64 _, _, .int .i64 _]) tok rfl rfl rfl rfl rfl rfl) rfl ?_
  refine AOL.p (P_load_ptr (c := .int .i64 _) tok rfl rfl rfl) rfl ?_
  refine AOL.p (P_eql rfl rfl) rfl ?_
  refine AOL.p (P_move (v := .bool _) rfl) rfl ?_
  refine AOL.g (y := .int .i64 _) _ [] rfl (EntL.all trivial) (fun hG => P_move (v := .int .i64 _) rfl) rfl ?_
  refine AOL.g (y := .bool _) _ [(17, _)] rfl (EntL.all ⟨Ent.self _ _, trivial⟩) (fun hG => P_eql rfl rfl) rfl ?_
  refine AOL.g (y := .bool _) _ [(18, _)] rfl (EntL.all ⟨Ent.self _ _, trivial⟩) (fun hG => P_move (v := .bool _) rfl) rfl ?_
  refine AOL.g (y := .ptr _) _ [] rfl (EntL.all trivial) (fun hG => P_fieldAddr_ptr (cs' := [_, .int .i64 _]) tok rfl rfl rfl rfl rfl rfl) rfl ?_
  refine AOL.g (y := .sl _ _) _ [(20, _)] rfl (EntL.all ⟨Ent.self _ _, trivial⟩) (fun hG => P_load_ptr (c := .sl _ _) tok rfl rfl rfl) rfl ?_
  refine AOL.g (y := .int .i64 _) _ [] rfl (EntL.all trivial) (fun hG => P_move (v := .int .i64 _) rfl) rfl ?_
  refine AOL.g (y := .int .i64 _) _ [(22, _)] rfl (EntL.all ⟨Ent.self _ _, trivial⟩) (fun hG => P_sub rfl rfl rfl (by constructor <;> omega)) rfl ?_
  refine AOL.g (y := .ptr _) _ [(21, _), (23, _)] rfl (EntL.all ⟨Ent.self _ _, Ent.self _ _, trivial⟩) (fun hG => P_indexAddr (c := cSyn (kidN t (i - 1))) tok rfl rfl rfl rfl rfl rfl ((kid_prev hi hG).1) ((kid_prev hi hG).2)) rfl ?_
  refine AOL.g (y := .ptr _) _ [(24, _)] rfl (EntL.all ⟨Ent.self _ _, trivial⟩) (fun hG => P_fieldAddr_ptr (cs' := [.int .i64 _, .str _, .str _, .int .i64 _, _, .int .i64 _]) tok rfl rfl rfl rfl rfl rfl) rfl ?_
  refine AOL.g (y := .int .i64 _) _ [(25, _)] rfl (EntL.all ⟨Ent.self _ _, trivial⟩) (fun hG => P_load_ptr (c := .int .i64 _) tok rfl rfl rfl) rfl ?_
  refine AOL.g (y := .bool _) _ [(26, _)] rfl (EntL.all ⟨Ent.self _ _, trivial⟩) (fun hG => P_eql rfl rfl) rfl ?_
  refine AOL.g (y := .bool _) _ [(19, _), (27, _)] rfl (EntL.all ⟨Ent.self _ _, Ent.suf _ _ _, trivial⟩) (fun hG => P_pick_or rfl rfl rfl) rfl ?_
  refine AOL.p (P_pick_and rfl rfl rfl) rfl ?_
  refine AOL.nil (thenN ?_)
  refine AW.cond (b := _) rfl (fun hc2 => ?_) (fun hc2 => ?_)
  ·
   refine AW.seq (AW.region ?_)
   refine AOL.p (P_callf (by kernel_rfl) rfl rfl (w_only _)) rfl ?_
   refine AOL.p (P_assign (v := .fn _ _ _) rfl) rfl ?_
   refine AOL.nil (thenN ?_)
   refine AW.ret ?_
   refine thenR ?_
   refine blkR ?_
   refine thenR ?_
   refine ⟨.inr rfl, [.fn _ _ _], .cons (.tmp _ _ rfl) <| .nil, .refl _, ?_⟩
   simp only [resOf, kidC, plV, hc1, hc2, ↓reduceIte, Bool.false_eq_true]
  ·
   refine AW.skip ?_
   refine thenN ?_
   refine AW.seq (AW.region ?_)
   refine AOL.p (P_callf (by kernel_rfl) rfl rfl (w_only _)) rfl ?_
   refine AOL.p (P_assign (v := .fn _ _ _) rfl) rfl ?_
   refine AOL.nil (thenN ?_)
   refine AW.ret ?_
   refine blkR ?_
   refine thenR ?_
   refine ⟨.inr rfl, [.fn _ _ _], .cons (.tmp _ _ rfl) <| .nil, .refl _, ?_⟩
   simp only [resOf, kidC, plV, hc1, hc2, ↓reduceIte, Bool.false_eq_true]
 ·
  refine AW.seq (AW.region ?_)
  refine AOL.p (P_eql rfl rfl) rfl ?_
  refine AOL.p (P_assign (v := .bool _) rfl) rfl ?_
  refine AOL.nil (thenN ?_)
  refine AW.cond (b := _) rfl (fun hc3 => ?_) (fun hc3 => ?_)
  ·
   refine AW.seq (AW.region ?_)
   refine AOL.p (P_callf (by kernel_rfl) rfl rfl (w_only _)) rfl ?_
   refine AOL.p (P_assign (v := .fn _ _ _) rfl) rfl ?_
   refine AOL.nil (thenN ?_)
   refine AW.ret ?_
   refine blkR ?_
   refine thenR ?_
   refine ⟨.inr rfl, [.fn _ _ _], .cons (.tmp _ _ rfl) <| .nil, .refl _, ?_⟩
   simp only [resOf, kidC, plV, hc1, hc3, ↓reduceIte, Bool.false_eq_true]
  ·
   refine AW.seq (AW.region ?_)
   refine AOL.p (P_eql rfl rfl) rfl ?_
   refine AOL.p (P_assign (v := .bool _) rfl) rfl ?_
   refine AOL.nil (thenN ?_)
   refine AW.cond (b := _) rfl (fun hc4 => ?_) (fun hc4 => ?_)
   ·
    refine AW.seq ?_
    refine AW.seq (AW.region ?_)
    refine AOL.p (P_move (v := .int .i64 _) rfl) rfl ?_
    refine AOL.nil (thenN ?_)
    refine AW.block ?_
    refine AW.seq (AW.region ?_)
    refine AOL.p (P_eql rfl rfl) rfl ?_
    refine AOL.p (P_assign (v := .bool _) rfl) rfl ?_
    refine AOL.nil (thenN ?_)
    refine AW.cond (b := _) rfl (fun hc5 => ?_) (fun hc5 => ?_)
    ·
     refine AW.seq (AW.region ?_)
     refine AOL.p (P_callf (by kernel_rfl) rfl rfl (w_only _)) rfl ?_
     refine AOL.p (P_assign (v := .fn _ _ _) rfl) rfl ?_
     refine AOL.nil (thenN ?_)
     refine AW.ret ?_
     refine blkR ?_
     refine thenR ?_
     refine blkR ?_
     refine thenR ?_
     refine ⟨.inr rfl, [.fn _ _ _], .cons (.tmp _ _ rfl) <| .nil, .refl _, ?_⟩
     simp only [resOf, kidC, plV, hc1, hc3, hc4, hc5, ↓reduceIte, Bool.false_eq_true]
    ·
     refine AW.seq (AW.region ?_)
     refine AOL.p (P_eql rfl rfl) rfl ?_
     refine AOL.p (P_assign (v := .bool _) rfl) rfl ?_
     refine AOL.nil (thenN ?_)
     refine AW.cond (b := _) rfl (fun hc6 => ?_) (fun hc6 => ?_)
     ·
      refine AW.seq (AW.region ?_)
      refine AOL.p (P_assign (v := .fn _ _ _) rfl) rfl ?_
      refine AOL.nil (thenN ?_)
      refine AW.ret ?_
      refine blkR ?_
      refine thenR ?_
      refine blkR ?_
      refine thenR ?_
      refine ⟨.inr rfl, [.fn _ _ _], .cons (.tmp _ _ rfl) <| .nil, .refl _, ?_⟩
      simp only [resOf, kidC, plV, hc1, hc3, hc4, hc5, hc6, ↓reduceIte, Bool.false_eq_true]
     ·
      refine AW.skip ?_
      refine blkN ?_
      refine thenN ?_
      refine AW.seq (AW.region ?_)
      refine AOL.p (P_assign (v := .fn _ _ _) rfl) rfl ?_
      refine AOL.nil (thenN ?_)
      refine AW.ret ?_
      refine blkR ?_
      refine thenR ?_
      refine ⟨.inr rfl, [.fn _ _ _], .cons (.tmp _ _ rfl) <| .nil, .refl _, ?_⟩
      simp only [resOf, kidC, plV, hc1, hc3, hc4, hc5, hc6, ↓reduceIte, Bool.false_eq_true]
   ·
    refine AW.seq (AW.region ?_)
    refine AOL.p (P_eql rfl rfl) rfl ?_
    refine AOL.p (P_assign (v := .bool _) rfl) rfl ?_
    refine AOL.nil (thenN ?_)
    refine AW.cond (b := _) rfl (fun hc7 => ?_) (fun hc7 => ?_)
    ·
     refine AW.seq (AW.region ?_)
     refine AOL.p (P_move (v := .int .i64 _) rfl) rfl ?_
     refine AOL.p (P_eql rfl rfl) rfl ?_
     refine AOL.nil (thenN ?_)
     refine AW.cond (b := _) rfl (fun hc8 => ?_) (fun hc8 => ?_)
     ·
      refine AW.seq (AW.region ?_)
      refine AOL.p (P_callf (by kernel_rfl) rfl rfl (w_only _)) rfl ?_
      refine AOL.p (P_assign (v := .fn _ _ _) rfl) rfl ?_
      refine AOL.nil (thenN ?_)
      refine AW.ret ?_
      refine blkR ?_
      refine thenR ?_
      refine ⟨.inr rfl, [.fn _ _ _], .cons (.tmp _ _ rfl) <| .nil, .refl _, ?_⟩
      simp only [resOf, kidC, plV, hc1, hc3, hc4, hc7, hc8, ↓reduceIte, Bool.false_eq_true]
     ·
      refine AW.skip ?_
      refine blkN ?_
      refine thenN ?_
      refine AW.seq (AW.region ?_)
      refine AOL.p (P_assign (v := .fn _ _ _) rfl) rfl ?_
      refine AOL.nil (thenN ?_)
      refine AW.ret ?_
      refine ⟨.inr rfl, [.fn _ _ _], .cons (.tmp _ _ rfl) <| .nil, .refl _, ?_⟩
      simp only [resOf, kidC, plV, hc1, hc3, hc4, hc7, hc8, ↓reduceIte, Bool.false_eq_true]
    ·
     refine AW.seq (AW.region ?_)
     refine AOL.p (P_eql rfl rfl) rfl ?_
     refine AOL.p (P_assign (v := .bool _) rfl) rfl ?_
     refine AOL.nil (thenN ?_)
     refine AW.cond (b := _) rfl (fun hc9 => ?_) (fun hc9 => ?_)
     ·
      refine AW.seq (AW.region ?_)
      refine AOL.p (P_move (v := .int .i64 _) rfl) rfl ?_
      refine AOL.p (P_eql rfl rfl) rfl ?_
      refine AOL.nil (thenN ?_)
      refine AW.cond (b := _) rfl (fun hc10 => ?_) (fun hc10 => ?_)
      ·
       refine AW.seq (AW.region ?_)
       refine AOL.p (P_assign (v := .fn _ _ _) rfl) rfl ?_
       refine AOL.nil (thenN ?_)
       refine AW.ret ?_
       refine blkR ?_
       refine thenR ?_
       refine ⟨.inr rfl, [.fn _ _ _], .cons (.tmp _ _ rfl) <| .nil, .refl _, ?_⟩
       simp only [resOf, kidC, plV, hc1, hc3, hc4, hc7, hc9, hc10, ↓reduceIte, Bool.false_eq_true]
      ·
       refine AW.skip ?_
       refine blkN ?_
       refine thenN ?_
       refine AW.seq (AW.region ?_)
       refine AOL.p (P_assign (v := .fn _ _ _) rfl) rfl ?_
       refine AOL.nil (thenN ?_)
       refine AW.ret ?_
       refine ⟨.inr rfl, [.fn _ _ _], .cons (.tmp _ _ rfl) <| .nil, .refl _, ?_⟩
       simp only [resOf, kidC, plV, hc1, hc3, hc4, hc7, hc9, hc10, ↓reduceIte, Bool.false_eq_true]
     ·
      refine AW.seq (AW.region ?_)
      refine AOL.p (P_eql rfl rfl) rfl ?_
      refine AOL.p (P_assign (v := .bool _) rfl) rfl ?_
      refine AOL.nil (thenN ?_)
      refine AW.cond (b := _) rfl (fun hc11 => ?_) (fun hc11 => ?_)
      ·
       refine AW.seq (AW.region ?_)
       refine AOL.p (P_callf (by kernel_rfl) rfl rfl (w_only _)) rfl ?_
       refine AOL.p (P_assign (v := .fn _ _ _) rfl) rfl ?_
       refine AOL.nil (thenN ?_)
       refine AW.ret ?_
       refine blkR ?_
       refine thenR ?_
       refine ⟨.inr rfl, [.fn _ _ _], .cons (.tmp _ _ rfl) <| .nil, .refl _, ?_⟩
       simp only [resOf, kidC, plV, hc1, hc3, hc4, hc7, hc9, hc11, ↓reduceIte, Bool.false_eq_true]
      ·
       refine AW.cut (fun (_ : Unit) => (⟨[(2, .ptr (cSyn t)), (55, .bool ((((t.kind == 5) || (t.kind == 17)) || (t.kind == 18))))], H, 59⟩ : St)) (fun (_ : Unit) => True) ?_ ?_
       ·
        refine AW.seq (AW.region ?_)
        refine AOL.p (P_eql rfl rfl) rfl ?_
        refine AOL.p (P_assign (v := .bool _) rfl) rfl ?_
        refine AOL.nil (thenN ?_)
        refine AW.cond (b := _) rfl (fun hc12 => ?_) (fun hc12 => ?_)
        ·
         refine AW.skip ?_
         refine thenN ?_
         refine ⟨(), ?_, GS.weaken ⟨rfl, congrArg AV.bool (by simp [*]), trivial⟩ (.refl _)⟩
         trivial
        ·
         refine AW.seq (AW.region ?_)
         refine AOL.p (P_eql rfl rfl) rfl ?_
         refine AOL.p (P_assign (v := .bool _) rfl) rfl ?_
         refine AOL.nil (thenN ?_)
         refine AW.cond (b := _) rfl (fun hc13 => ?_) (fun hc13 => ?_)
         ·
          refine AW.skip ?_
          refine thenN ?_
          refine ⟨(), ?_, GS.weaken ⟨rfl, congrArg AV.bool (by simp [*]), trivial⟩ (.refl _)⟩
          trivial
         ·
          refine AW.region ?_
          refine AOL.p (P_eql rfl rfl) rfl ?_
          refine AOL.p (P_assign (v := .bool _) rfl) rfl ?_
          refine AOL.nil (thenN ?_)
          refine ⟨(), ?_, GS.weaken ⟨rfl, congrArg AV.bool (by simp [*]), trivial⟩ (.refl _)⟩
          trivial
       ·
        rintro _ _
        refine AW.cond (b := _) rfl (fun hc14 => ?_) (fun hc14 => ?_)
        ·
         refine AW.seq (AW.region ?_)
         refine AOL.p (P_assign (v := .fn _ _ _) rfl) rfl ?_
         refine AOL.nil (thenN ?_)
         refine AW.ret ?_
         refine blkR ?_
         refine thenR ?_
         refine ⟨.inr rfl, [.fn _ _ _], .cons (.tmp _ _ rfl) <| .nil, .refl _, ?_⟩
         simp only [resOf, kidC, plV, hc1, hc3, hc4, hc7, hc9, hc11, hc14, ↓reduceIte, Bool.false_eq_true]
        ·
         refine AW.skip ?_
         refine blkN ?_
         refine thenN ?_
         refine AW.seq (AW.region ?_)
         refine AOL.p (P_assign (v := .fn _ _ _) rfl) rfl ?_
         refine AOL.nil (thenN ?_)
         refine AW.ret ?_
         refine ⟨.inr rfl, [.fn _ _ _], .cons (.tmp _ _ rfl) <| .nil, .refl _, ?_⟩
         simp only [resOf, kidC, plV, hc1, hc3, hc4, hc7, hc9, hc11, hc14, ↓reduceIte, Bool.false_eq_true]

end Go.Proofs.YtabkeeedkhgodaaGreatDoor
