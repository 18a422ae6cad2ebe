/-
  Walks: the texts of the reference of the printer. No condition.
-/
import Derived.Test.YtabkeeedkhgodaaGreatDoorW13r
import Derived.KernelRfl
namespace Go.Proofs.YtabkeeedkhgodaaGreatDoor
open Go Go.Aw
set_option linter.unusedVariables false
set_option linter.unusedSimpArgs false

theorem enc_dig {n : Nat} (h : n < 10) : (Utf8.encode (48 + (n : Int))).data.toList = [UInt8.ofNat (48 + n)] := by
  have : n = 0 ∨ n = 1 ∨ n = 2 ∨ n = 3 ∨ n = 4 ∨ n = 5 ∨ n = 6 ∨ n = 7 ∨ n = 8 ∨ n = 9 := by omega
  rcases this with rfl | rfl | rfl | rfl | rfl | rfl | rfl | rfl | rfl | rfl <;> first | rfl | decide
theorem i32_dig {n : Nat} (h : n < 10) : IntKind.i32.wrap (48 + (n : Int)) = 48 + (n : Int) := by
  have : n = 0 ∨ n = 1 ∨ n = 2 ∨ n = 3 ∨ n = 4 ∨ n = 5 ∨ n = 6 ∨ n = 7 ∨ n = 8 ∨ n = 9 := by omega
  rcases this with rfl | rfl | rfl | rfl | rfl | rfl | rfl | rfl | rfl | rfl <;> first | rfl | decide
theorem i64_small {n m : Int} (h : n = m) (h2 : -1099511627776 ≤ m ∧ m ≤ 1099511627776) : IntKind.i64.wrap n = m := by
  subst h
  unfold IntKind.wrap IntKind.signed IntKind.bits
  simp only [↓reduceIte, Bool.true_and, decide_eq_true_eq, ge_iff_le]
  split <;> omega
theorem dec_len {n : Nat} (h : n ≤ 1099511627776) : (Lib.decDigits n).length ≤ 21 := by
  have := Lib.itoa_length_le (n : Int) (by omega) (by omega)
  rwa [show Lib.itoa (n : Int) = Lib.decDigits n by unfold Lib.itoa; rw [if_neg (by omega), Int.toNat_natCast]] at this
theorem only_bool {s : Str} (hk : s = w_tint ∨ s = w_tbool ∨ s = w_tstring) (h1 : s ≠ w_tint) (h2 : s ≠ w_tstring) : s = w_tbool := by
  rcases hk with h | h | h
  · exact absurd h h1
  · exact h
  · exact absurd h h2
/-- The text of a tree is short. -/
def WOK (t : Syn) : Prop := APure Tryz.prog 53 [.agg (cSyn t)] (.str (writeC t)) ∧ (writeC t).length ≤ 100000

set_option maxRecDepth 20000 in
set_option maxHeartbeats 1600000 in
theorem r_dec (n : Nat) (hn : n ≤ 1099511627776) : APure Tryz.prog 92 [.int .i64 (n : Int)] (.str (Lib.decDigits n)) := by
 revert hn
 induction n using Nat.strongRecOn
 rename_i n ih
 intro hn
 refine APure.body (n := 24) tok Tryz.func92 rfl rfl rfl fun H => ?_
 refine AW.seq (AW.region ?_)
 refine AOL.p (P_assign (v := .str _) rfl) rfl ?_
 refine AOL.nil (thenN ?_)
 refine AW.seq ?_
 refine AW.seq (AW.region ?_)
 refine AOL.p (P_move (v := .int .i64 _) rfl) rfl ?_
 refine AOL.p (P_lss rfl rfl) rfl ?_
 refine AOL.nil (thenN ?_)
 refine AW.cond (b := _) rfl (fun hc1 => ?_) (fun hc1 => ?_)
 ·
  exfalso
  have := of_decide_eq_true hc1
  omega
 ·
  refine AW.skip ?_
  refine thenN ?_
  refine AW.seq ?_
  refine AW.seq (AW.region ?_)
  refine AOL.p (P_move (v := .int .i64 _) rfl) rfl ?_
  refine AOL.p (P_lss rfl rfl) rfl ?_
  refine AOL.nil (thenN ?_)
  refine AW.cond (b := _) rfl (fun hc2 => ?_) (fun hc2 => ?_)
  ·
   have h10 : n < 10 := by have := of_decide_eq_true hc2; omega
   refine AW.seq (AW.region ?_)
   refine AOL.p (P_move (v := .int .i64 _) rfl) rfl ?_
   refine AOL.p (P_add rfl rfl rfl (by constructor <;> omega)) rfl ?_
   refine AOL.p (P_conv (m := (48 + (n : Int))) tok rfl rfl rfl rfl rfl (i32_dig h10)) rfl ?_
   refine AOL.p (P_convStr tok rfl rfl rfl rfl rfl rfl (by rw [enc_dig h10]; simp [maxLen])) rfl ?_
   refine AOL.p (P_assign (v := .str _) rfl) rfl ?_
   refine AOL.nil (thenN ?_)
   refine AW.ret ?_
   refine thenR ?_
   refine ⟨.inr rfl, [.str _], .cons (.tmp _ _ rfl) <| .nil, .refl _, ?_⟩
   have h9 : Lib.decDigits n = [UInt8.ofNat (48 + n)] := by rw [Lib.decDigits, dif_pos h10]
   rw [h9, enc_dig h10]; rfl
  ·
   have h10 : ¬ n < 10 := by have := of_decide_eq_false hc2; omega
   have hm10 : n % 10 < 10 := Nat.mod_lt _ (by decide)
   have hq : IntKind.i64.wrap (((n : Int)).tdiv 10) = ((n / 10 : Nat) : Int) := by rw [Int.tdiv_eq_ediv_of_nonneg (by omega)]; exact i64_small (by omega) (by omega)
   have hih := ih (n / 10) (by omega) (by omega)
   rw [← hq] at hih
   have hdl := dec_len (n := n / 10) (by omega)
   have henc := congrArg List.length (enc_dig hm10)
   have hr : ((n : Int)).tmod 10 = ((n % 10 : Nat) : Int) := by rw [Int.tmod_eq_emod_of_nonneg (by omega)]; omega
   refine AW.skip ?_
   refine thenN ?_
   refine AW.seq (AW.region ?_)
   refine AOL.p (P_move (v := .int .i64 _) rfl) rfl ?_
   refine AOL.p (P_quow rfl rfl (by omega)) rfl ?_
   refine AOL.p (P_callf (by kernel_rfl) rfl rfl (hih)) rfl ?_
   refine AOL.p (P_move (v := .int .i64 _) rfl) rfl ?_
   refine AOL.p (P_rem rfl rfl (by omega)) rfl ?_
   refine AOL.p (P_add rfl rfl rfl (by constructor <;> omega)) rfl ?_
   refine AOL.p (P_conv (m := (48 + ((n % 10 : Nat) : Int))) tok rfl rfl rfl rfl rfl (by rw [hr]; exact i32_dig hm10)) rfl ?_
   refine AOL.p (P_convStr tok rfl rfl rfl rfl rfl rfl (by rw [enc_dig hm10]; simp [maxLen])) rfl ?_
   refine AOL.p (P_add_str rfl rfl rfl (by unfold maxLen; (try simp only [List.length_append, List.length_cons, List.length_nil] at *); omega)) rfl ?_
   refine AOL.p (P_assign (v := .str _) rfl) rfl ?_
   refine AOL.nil (thenN ?_)
   refine AW.ret ?_
   refine ⟨.inr rfl, [.str _], .cons (.tmp _ _ rfl) <| .nil, .refl _, ?_⟩
   have h9 : Lib.decDigits n = Lib.decDigits (n / 10) ++ [UInt8.ofNat (48 + n % 10)] := by rw [Lib.decDigits, dif_neg h10]
   rw [h9, enc_dig hm10]; rfl
set_option maxRecDepth 20000 in
set_option maxHeartbeats 1600000 in
theorem r_decN (n : Int) (hn : -1099511627776 ≤ n ∧ n < 0) : APure Tryz.prog 92 [.int .i64 n] (.str (Lib.itoa n)) := by
 refine APure.body (n := 24) tok Tryz.func92 rfl rfl rfl fun H => ?_
 refine AW.seq (AW.region ?_)
 refine AOL.p (P_assign (v := .str _) rfl) rfl ?_
 refine AOL.nil (thenN ?_)
 refine AW.seq ?_
 refine AW.seq (AW.region ?_)
 refine AOL.p (P_move (v := .int .i64 _) rfl) rfl ?_
 refine AOL.p (P_lss rfl rfl) rfl ?_
 refine AOL.nil (thenN ?_)
 refine AW.cond (b := _) rfl (fun hc1 => ?_) (fun hc1 => ?_)
 ·
  have hneg : 0 - n = ((n.natAbs : Nat) : Int) := by omega
  have hih := r_dec n.natAbs (by omega)
  rw [← hneg] at hih
  have hdl := dec_len (n := n.natAbs) (by omega)
  refine AW.seq (AW.region ?_)
  refine AOL.p (P_move (v := .int .i64 _) rfl) rfl ?_
  refine AOL.p (P_neg rfl rfl (by constructor <;> omega)) rfl ?_
  refine AOL.p (P_callf (by kernel_rfl) rfl rfl (hih)) rfl ?_
  refine AOL.p (P_add_str rfl rfl rfl (by unfold maxLen; (try simp only [List.length_append, List.length_cons, List.length_nil] at *); omega)) rfl ?_
  refine AOL.p (P_assign (v := .str _) rfl) rfl ?_
  refine AOL.nil (thenN ?_)
  refine AW.ret ?_
  refine thenR ?_
  refine ⟨.inr rfl, [.str _], .cons (.tmp _ _ rfl) <| .nil, .refl _, ?_⟩
  have h9 : Lib.itoa n = 45 :: Lib.decDigits n.natAbs := by unfold Lib.itoa; rw [if_pos hn.2]
  rw [h9]; rfl
 ·
  exfalso
  have := of_decide_eq_false hc1
  omega
theorem r_decimal (n : Int) (hn : -1099511627776 ≤ n ∧ n ≤ 1099511627776) : APure Tryz.prog 92 [.int .i64 n] (.str (Lib.itoa n)) := by
  by_cases h : n < 0
  · exact r_decN n ⟨hn.1, h⟩
  · have h1 := r_dec n.toNat (by omega)
    have h2 : ((n.toNat : Nat) : Int) = n := by omega
    rw [h2] at h1
    have h3 : Lib.itoa n = Lib.decDigits n.toNat := by unfold Lib.itoa; rw [if_neg h]
    rw [h3]; exact h1
set_option maxRecDepth 20000 in
set_option maxHeartbeats 400000 in
theorem r_kindName (n : Int) : APure Tryz.prog 90 [.int .i64 n] (.str (kindT n)) := by
 refine APure.body (n := 8) tok Tryz.func90 rfl rfl rfl fun H => ?_
 refine AW.seq (AW.region ?_)
 refine AOL.p (P_assign (v := .str _) rfl) rfl ?_
 refine AOL.nil (thenN ?_)
 refine AW.seq ?_
 refine AW.seq (AW.region ?_)
 refine AOL.p (P_move (v := .int .i64 _) rfl) rfl ?_
 refine AOL.nil (thenN ?_)
 refine AW.block ?_
 refine AW.seq (AW.region ?_)
 refine AOL.p (P_eql rfl rfl) rfl ?_
 refine AOL.p (P_assign (v := .bool _) rfl) rfl ?_
 refine AOL.nil (thenN ?_)
 refine AW.cond (b := _) rfl (fun hc1 => ?_) (fun hc1 => ?_)
 ·
  refine AW.seq (AW.region ?_)
  refine AOL.p (P_assign (v := .str _) rfl) rfl ?_
  refine AOL.nil (thenN ?_)
  refine AW.ret ?_
  refine blkR ?_
  refine thenR ?_
  refine ⟨.inr rfl, [.str _], .cons (.tmp _ _ rfl) <| .nil, .refl _, ?_⟩
  simp only [resOf, kindT, hc1, ↓reduceIte, Bool.false_eq_true]
 ·
  refine AW.seq (AW.region ?_)
  refine AOL.p (P_eql rfl rfl) rfl ?_
  refine AOL.p (P_assign (v := .bool _) rfl) rfl ?_
  refine AOL.nil (thenN ?_)
  refine AW.cond (b := _) rfl (fun hc2 => ?_) (fun hc2 => ?_)
  ·
   refine AW.seq (AW.region ?_)
   refine AOL.p (P_assign (v := .str _) rfl) rfl ?_
   refine AOL.nil (thenN ?_)
   refine AW.ret ?_
   refine blkR ?_
   refine thenR ?_
   refine ⟨.inr rfl, [.str _], .cons (.tmp _ _ rfl) <| .nil, .refl _, ?_⟩
   simp only [resOf, kindT, hc1, hc2, ↓reduceIte, Bool.false_eq_true]
  ·
   refine AW.skip ?_
   refine blkN ?_
   refine thenN ?_
   refine AW.seq (AW.region ?_)
   refine AOL.p (P_assign (v := .str _) rfl) rfl ?_
   refine AOL.nil (thenN ?_)
   refine AW.ret ?_
   refine ⟨.inr rfl, [.str _], .cons (.tmp _ _ rfl) <| .nil, .refl _, ?_⟩
   simp only [resOf, kindT, hc1, hc2, ↓reduceIte, Bool.false_eq_true]
set_option maxRecDepth 20000 in
set_option maxHeartbeats 400000 in
theorem r_operator (n : Int) : APure Tryz.prog 96 [.int .i64 n] (.str (operT n)) := by
 refine APure.body (n := 16) tok Tryz.func96 rfl rfl rfl fun H => ?_
 refine AW.seq (AW.region ?_)
 refine AOL.p (P_assign (v := .str _) rfl) rfl ?_
 refine AOL.nil (thenN ?_)
 refine AW.seq ?_
 refine AW.seq (AW.region ?_)
 refine AOL.p (P_move (v := .int .i64 _) rfl) rfl ?_
 refine AOL.nil (thenN ?_)
 refine AW.block ?_
 refine AW.seq (AW.region ?_)
 refine AOL.p (P_eql rfl rfl) rfl ?_
 refine AOL.p (P_assign (v := .bool _) rfl) rfl ?_
 refine AOL.nil (thenN ?_)
 refine AW.cond (b := _) rfl (fun hc1 => ?_) (fun hc1 => ?_)
 ·
  refine AW.seq (AW.region ?_)
  refine AOL.p (P_assign (v := .str _) rfl) rfl ?_
  refine AOL.nil (thenN ?_)
  refine AW.ret ?_
  refine blkR ?_
  refine thenR ?_
  refine ⟨.inr rfl, [.str _], .cons (.tmp _ _ rfl) <| .nil, .refl _, ?_⟩
  simp only [resOf, operT, hc1, ↓reduceIte, Bool.false_eq_true]
 ·
  refine AW.seq (AW.region ?_)
  refine AOL.p (P_eql rfl rfl) rfl ?_
  refine AOL.p (P_assign (v := .bool _) rfl) rfl ?_
  refine AOL.nil (thenN ?_)
  refine AW.cond (b := _) rfl (fun hc2 => ?_) (fun hc2 => ?_)
  ·
   refine AW.seq (AW.region ?_)
   refine AOL.p (P_assign (v := .str _) rfl) rfl ?_
   refine AOL.nil (thenN ?_)
   refine AW.ret ?_
   refine blkR ?_
   refine thenR ?_
   refine ⟨.inr rfl, [.str _], .cons (.tmp _ _ rfl) <| .nil, .refl _, ?_⟩
   simp only [resOf, operT, hc1, hc2, ↓reduceIte, Bool.false_eq_true]
  ·
   refine AW.seq (AW.region ?_)
   refine AOL.p (P_eql rfl rfl) rfl ?_
   refine AOL.p (P_assign (v := .bool _) rfl) rfl ?_
   refine AOL.nil (thenN ?_)
   refine AW.cond (b := _) rfl (fun hc3 => ?_) (fun hc3 => ?_)
   ·
    refine AW.seq (AW.region ?_)
    refine AOL.p (P_assign (v := .str _) rfl) rfl ?_
    refine AOL.nil (thenN ?_)
    refine AW.ret ?_
    refine blkR ?_
    refine thenR ?_
    refine ⟨.inr rfl, [.str _], .cons (.tmp _ _ rfl) <| .nil, .refl _, ?_⟩
    simp only [resOf, operT, hc1, hc2, hc3, ↓reduceIte, Bool.false_eq_true]
   ·
    refine AW.seq (AW.region ?_)
    refine AOL.p (P_eql rfl rfl) rfl ?_
    refine AOL.p (P_assign (v := .bool _) rfl) rfl ?_
    refine AOL.nil (thenN ?_)
    refine AW.cond (b := _) rfl (fun hc4 => ?_) (fun hc4 => ?_)
    ·
     refine AW.seq (AW.region ?_)
     refine AOL.p (P_assign (v := .str _) rfl) rfl ?_
     refine AOL.nil (thenN ?_)
     refine AW.ret ?_
     refine blkR ?_
     refine thenR ?_
     refine ⟨.inr rfl, [.str _], .cons (.tmp _ _ rfl) <| .nil, .refl _, ?_⟩
     simp only [resOf, operT, hc1, hc2, hc3, hc4, ↓reduceIte, Bool.false_eq_true]
    ·
     refine AW.seq (AW.region ?_)
     refine AOL.p (P_eql rfl rfl) rfl ?_
     refine AOL.p (P_assign (v := .bool _) rfl) rfl ?_
     refine AOL.nil (thenN ?_)
     refine AW.cond (b := _) rfl (fun hc5 => ?_) (fun hc5 => ?_)
     ·
      refine AW.seq (AW.region ?_)
      refine AOL.p (P_assign (v := .str _) rfl) rfl ?_
      refine AOL.nil (thenN ?_)
      refine AW.ret ?_
      refine blkR ?_
      refine thenR ?_
      refine ⟨.inr rfl, [.str _], .cons (.tmp _ _ rfl) <| .nil, .refl _, ?_⟩
      simp only [resOf, operT, hc1, hc2, hc3, hc4, hc5, ↓reduceIte, Bool.false_eq_true]
     ·
      refine AW.seq (AW.region ?_)
      refine AOL.p (P_eql rfl rfl) rfl ?_
      refine AOL.p (P_assign (v := .bool _) rfl) rfl ?_
      refine AOL.nil (thenN ?_)
      refine AW.cond (b := _) rfl (fun hc6 => ?_) (fun hc6 => ?_)
      ·
       refine AW.seq (AW.region ?_)
       refine AOL.p (P_assign (v := .str _) rfl) rfl ?_
       refine AOL.nil (thenN ?_)
       refine AW.ret ?_
       refine blkR ?_
       refine thenR ?_
       refine ⟨.inr rfl, [.str _], .cons (.tmp _ _ rfl) <| .nil, .refl _, ?_⟩
       simp only [resOf, operT, hc1, hc2, hc3, hc4, hc5, hc6, ↓reduceIte, Bool.false_eq_true]
      ·
       refine AW.skip ?_
       refine blkN ?_
       refine thenN ?_
       refine AW.seq (AW.region ?_)
       refine AOL.p (P_assign (v := .str _) rfl) rfl ?_
       refine AOL.nil (thenN ?_)
       refine AW.ret ?_
       refine ⟨.inr rfl, [.str _], .cons (.tmp _ _ rfl) <| .nil, .refl _, ?_⟩
       simp only [resOf, operT, hc1, hc2, hc3, hc4, hc5, hc6, ↓reduceIte, Bool.false_eq_true]
set_option maxRecDepth 20000 in
set_option maxHeartbeats 400000 in
theorem r_aggregate (n : Int) : APure Tryz.prog 94 [.int .i64 n] (.str (aggT n)) := by
 refine APure.body (n := 12) tok Tryz.func94 rfl rfl rfl fun H => ?_
 refine AW.seq (AW.region ?_)
 refine AOL.p (P_assign (v := .str _) rfl) rfl ?_
 refine AOL.nil (thenN ?_)
 refine AW.seq ?_
 refine AW.seq (AW.region ?_)
 refine AOL.p (P_move (v := .int .i64 _) rfl) rfl ?_
 refine AOL.nil (thenN ?_)
 refine AW.block ?_
 refine AW.seq (AW.region ?_)
 refine AOL.p (P_eql rfl rfl) rfl ?_
 refine AOL.p (P_assign (v := .bool _) rfl) rfl ?_
 refine AOL.nil (thenN ?_)
 refine AW.cond (b := _) rfl (fun hc1 => ?_) (fun hc1 => ?_)
 ·
  refine AW.seq (AW.region ?_)
  refine AOL.p (P_assign (v := .str _) rfl) rfl ?_
  refine AOL.nil (thenN ?_)
  refine AW.ret ?_
  refine blkR ?_
  refine thenR ?_
  refine ⟨.inr rfl, [.str _], .cons (.tmp _ _ rfl) <| .nil, .refl _, ?_⟩
  simp only [resOf, aggT, hc1, ↓reduceIte, Bool.false_eq_true]
 ·
  refine AW.seq (AW.region ?_)
  refine AOL.p (P_eql rfl rfl) rfl ?_
  refine AOL.p (P_assign (v := .bool _) rfl) rfl ?_
  refine AOL.nil (thenN ?_)
  refine AW.cond (b := _) rfl (fun hc2 => ?_) (fun hc2 => ?_)
  ·
   refine AW.seq (AW.region ?_)
   refine AOL.p (P_assign (v := .str _) rfl) rfl ?_
   refine AOL.nil (thenN ?_)
   refine AW.ret ?_
   refine blkR ?_
   refine thenR ?_
   refine ⟨.inr rfl, [.str _], .cons (.tmp _ _ rfl) <| .nil, .refl _, ?_⟩
   simp only [resOf, aggT, hc1, hc2, ↓reduceIte, Bool.false_eq_true]
  ·
   refine AW.seq (AW.region ?_)
   refine AOL.p (P_eql rfl rfl) rfl ?_
   refine AOL.p (P_assign (v := .bool _) rfl) rfl ?_
   refine AOL.nil (thenN ?_)
   refine AW.cond (b := _) rfl (fun hc3 => ?_) (fun hc3 => ?_)
   ·
    refine AW.seq (AW.region ?_)
    refine AOL.p (P_assign (v := .str _) rfl) rfl ?_
    refine AOL.nil (thenN ?_)
    refine AW.ret ?_
    refine blkR ?_
    refine thenR ?_
    refine ⟨.inr rfl, [.str _], .cons (.tmp _ _ rfl) <| .nil, .refl _, ?_⟩
    simp only [resOf, aggT, hc1, hc2, hc3, ↓reduceIte, Bool.false_eq_true]
   ·
    refine AW.seq (AW.region ?_)
    refine AOL.p (P_eql rfl rfl) rfl ?_
    refine AOL.p (P_assign (v := .bool _) rfl) rfl ?_
    refine AOL.nil (thenN ?_)
    refine AW.cond (b := _) rfl (fun hc4 => ?_) (fun hc4 => ?_)
    ·
     refine AW.seq (AW.region ?_)
     refine AOL.p (P_assign (v := .str _) rfl) rfl ?_
     refine AOL.nil (thenN ?_)
     refine AW.ret ?_
     refine blkR ?_
     refine thenR ?_
     refine ⟨.inr rfl, [.str _], .cons (.tmp _ _ rfl) <| .nil, .refl _, ?_⟩
     simp only [resOf, aggT, hc1, hc2, hc3, hc4, ↓reduceIte, Bool.false_eq_true]
    ·
     refine AW.skip ?_
     refine blkN ?_
     refine thenN ?_
     refine AW.seq (AW.region ?_)
     refine AOL.p (P_assign (v := .str _) rfl) rfl ?_
     refine AOL.nil (thenN ?_)
     refine AW.ret ?_
     refine ⟨.inr rfl, [.str _], .cons (.tmp _ _ rfl) <| .nil, .refl _, ?_⟩
     simp only [resOf, aggT, hc1, hc2, hc3, hc4, ↓reduceIte, Bool.false_eq_true]
set_option maxRecDepth 20000 in
set_option maxHeartbeats 400000 in
theorem r_keyword (n : Int) : APure Tryz.prog 97 [.int .i64 n] (.str (callT n)) := by
 refine APure.body (n := 16) tok Tryz.func97 rfl rfl rfl fun H => ?_
 refine AW.seq (AW.region ?_)
 refine AOL.p (P_assign (v := .str _) rfl) rfl ?_
 refine AOL.nil (thenN ?_)
 refine AW.seq ?_
 refine AW.seq (AW.region ?_)
 refine AOL.p (P_move (v := .int .i64 _) rfl) rfl ?_
 refine AOL.nil (thenN ?_)
 refine AW.block ?_
 refine AW.seq (AW.region ?_)
 refine AOL.p (P_eql rfl rfl) rfl ?_
 refine AOL.p (P_assign (v := .bool _) rfl) rfl ?_
 refine AOL.nil (thenN ?_)
 refine AW.cond (b := _) rfl (fun hc1 => ?_) (fun hc1 => ?_)
 ·
  refine AW.seq (AW.region ?_)
  refine AOL.p (P_assign (v := .str _) rfl) rfl ?_
  refine AOL.nil (thenN ?_)
  refine AW.ret ?_
  refine blkR ?_
  refine thenR ?_
  refine ⟨.inr rfl, [.str _], .cons (.tmp _ _ rfl) <| .nil, .refl _, ?_⟩
  simp only [resOf, callT, hc1, ↓reduceIte, Bool.false_eq_true]
 ·
  refine AW.seq (AW.region ?_)
  refine AOL.p (P_eql rfl rfl) rfl ?_
  refine AOL.p (P_assign (v := .bool _) rfl) rfl ?_
  refine AOL.nil (thenN ?_)
  refine AW.cond (b := _) rfl (fun hc2 => ?_) (fun hc2 => ?_)
  ·
   refine AW.seq (AW.region ?_)
   refine AOL.p (P_assign (v := .str _) rfl) rfl ?_
   refine AOL.nil (thenN ?_)
   refine AW.ret ?_
   refine blkR ?_
   refine thenR ?_
   refine ⟨.inr rfl, [.str _], .cons (.tmp _ _ rfl) <| .nil, .refl _, ?_⟩
   simp only [resOf, callT, hc1, hc2, ↓reduceIte, Bool.false_eq_true]
  ·
   refine AW.seq (AW.region ?_)
   refine AOL.p (P_eql rfl rfl) rfl ?_
   refine AOL.p (P_assign (v := .bool _) rfl) rfl ?_
   refine AOL.nil (thenN ?_)
   refine AW.cond (b := _) rfl (fun hc3 => ?_) (fun hc3 => ?_)
   ·
    refine AW.seq (AW.region ?_)
    refine AOL.p (P_assign (v := .str _) rfl) rfl ?_
    refine AOL.nil (thenN ?_)
    refine AW.ret ?_
    refine blkR ?_
    refine thenR ?_
    refine ⟨.inr rfl, [.str _], .cons (.tmp _ _ rfl) <| .nil, .refl _, ?_⟩
    simp only [resOf, callT, hc1, hc2, hc3, ↓reduceIte, Bool.false_eq_true]
   ·
    refine AW.seq (AW.region ?_)
    refine AOL.p (P_eql rfl rfl) rfl ?_
    refine AOL.p (P_assign (v := .bool _) rfl) rfl ?_
    refine AOL.nil (thenN ?_)
    refine AW.cond (b := _) rfl (fun hc4 => ?_) (fun hc4 => ?_)
    ·
     refine AW.seq (AW.region ?_)
     refine AOL.p (P_assign (v := .str _) rfl) rfl ?_
     refine AOL.nil (thenN ?_)
     refine AW.ret ?_
     refine blkR ?_
     refine thenR ?_
     refine ⟨.inr rfl, [.str _], .cons (.tmp _ _ rfl) <| .nil, .refl _, ?_⟩
     simp only [resOf, callT, hc1, hc2, hc3, hc4, ↓reduceIte, Bool.false_eq_true]
    ·
     refine AW.seq (AW.region ?_)
     refine AOL.p (P_eql rfl rfl) rfl ?_
     refine AOL.p (P_assign (v := .bool _) rfl) rfl ?_
     refine AOL.nil (thenN ?_)
     refine AW.cond (b := _) rfl (fun hc5 => ?_) (fun hc5 => ?_)
     ·
      refine AW.seq (AW.region ?_)
      refine AOL.p (P_assign (v := .str _) rfl) rfl ?_
      refine AOL.nil (thenN ?_)
      refine AW.ret ?_
      refine blkR ?_
      refine thenR ?_
      refine ⟨.inr rfl, [.str _], .cons (.tmp _ _ rfl) <| .nil, .refl _, ?_⟩
      simp only [resOf, callT, hc1, hc2, hc3, hc4, hc5, ↓reduceIte, Bool.false_eq_true]
     ·
      refine AW.seq (AW.region ?_)
      refine AOL.p (P_eql rfl rfl) rfl ?_
      refine AOL.p (P_assign (v := .bool _) rfl) rfl ?_
      refine AOL.nil (thenN ?_)
      refine AW.cond (b := _) rfl (fun hc6 => ?_) (fun hc6 => ?_)
      ·
       refine AW.seq (AW.region ?_)
       refine AOL.p (P_assign (v := .str _) rfl) rfl ?_
       refine AOL.nil (thenN ?_)
       refine AW.ret ?_
       refine blkR ?_
       refine thenR ?_
       refine ⟨.inr rfl, [.str _], .cons (.tmp _ _ rfl) <| .nil, .refl _, ?_⟩
       simp only [resOf, callT, hc1, hc2, hc3, hc4, hc5, hc6, ↓reduceIte, Bool.false_eq_true]
      ·
       refine AW.skip ?_
       refine blkN ?_
       refine thenN ?_
       refine AW.seq (AW.region ?_)
       refine AOL.p (P_assign (v := .str _) rfl) rfl ?_
       refine AOL.nil (thenN ?_)
       refine AW.ret ?_
       refine ⟨.inr rfl, [.str _], .cons (.tmp _ _ rfl) <| .nil, .refl _, ?_⟩
       simp only [resOf, callT, hc1, hc2, hc3, hc4, hc5, hc6, ↓reduceIte, Bool.false_eq_true]
set_option maxRecDepth 20000 in
set_option maxHeartbeats 1600000 in
theorem r_literal (t : Syn) (hn : -1099511627776 ≤ t.num ∧ t.num ≤ 1099511627776) (hx : t.text.length ≤ 1048576) (hk : t.name = w_tint ∨ t.name = w_tbool ∨ t.name = w_tstring) : APure Tryz.prog 93 [.agg (cSyn t)] (.str (litT t)) := by
 refine APure.body (n := 24) tok Tryz.func93 rfl rfl rfl fun H => ?_
 refine AW.seq (AW.region ?_)
 refine AOL.p (P_box (v := .agg _) (cs := [.int .i64 _, .str _, .str _, .int .i64 _, _, .int .i64 _]) rfl rfl rfl) rfl ?_
 refine AOL.p (P_assign (v := .str _) rfl) rfl ?_
 refine AOL.nil (thenN ?_)
 refine AW.seq ?_
 refine AW.seq (AW.region ?_)
 refine AOL.p (P_fieldAddr_ptr (cs' := [.str _, .int .i64 _, _, .int .i64 _]) tok rfl rfl rfl rfl rfl rfl) rfl ?_
 refine AOL.p (P_load_ptr (c := .str _) tok rfl rfl rfl) rfl ?_
 refine AOL.p (P_eql_str rfl rfl) rfl ?_
 refine AOL.nil (thenN ?_)
 refine AW.cond (b := _) rfl (fun hc1 => ?_) (fun hc1 => ?_)
 ·
  have hs : t.name = w_tstring := by simpa using hc1
  have e : litT t = (quoteR t.text).1 := by unfold litT; rw [hs, quote_eq]; rfl
  refine AW.seq (AW.region ?_)
  refine AOL.p (P_fieldAddr_ptr (cs' := [.str _, .str _, .int .i64 _, _, .int .i64 _]) tok rfl rfl rfl rfl rfl rfl) rfl ?_
  refine AOL.p (P_load_ptr (c := .str _) tok rfl rfl rfl) rfl ?_
  refine AOL.p (P_callf (by kernel_rfl) rfl rfl (c25 t.text hx)) rfl ?_
  refine AOL.p (P_move (v := .tuple _) rfl) rfl ?_
  refine AOL.p (P_extract (v := .str _) rfl rfl) rfl ?_
  refine AOL.p (P_extract (v := .int .i64 _) rfl rfl) rfl ?_
  refine AOL.p (P_assign (v := .str _) rfl) rfl ?_
  refine AOL.p (P_assign (v := .int .i64 _) rfl) rfl ?_
  refine AOL.nil (thenN ?_)
  refine AW.seq (AW.region ?_)
  refine AOL.p (P_move (v := .str _) rfl) rfl ?_
  refine AOL.p (P_assign (v := .str _) rfl) rfl ?_
  refine AOL.nil (thenN ?_)
  refine AW.ret ?_
  refine thenR ?_
  refine ⟨.inr rfl, [.str _], .cons (.tmp _ _ rfl) <| .nil, .refl _, ?_⟩
  rw [e]; rfl
 ·
  have hs : t.name ≠ w_tstring := by simpa using hc1
  refine AW.skip ?_
  refine thenN ?_
  refine AW.seq ?_
  refine AW.seq (AW.region ?_)
  refine AOL.p (P_fieldAddr_ptr (cs' := [.str _, .int .i64 _, _, .int .i64 _]) tok rfl rfl rfl rfl rfl rfl) rfl ?_
  refine AOL.p (P_load_ptr (c := .str _) tok rfl rfl rfl) rfl ?_
  refine AOL.p (P_eql_str rfl rfl) rfl ?_
  refine AOL.nil (thenN ?_)
  refine AW.cond (b := _) rfl (fun hc2 => ?_) (fun hc2 => ?_)
  ·
   have e : litT t = Lib.itoa t.num := if_pos hc2
   refine AW.seq (AW.region ?_)
   refine AOL.p (P_fieldAddr_ptr (cs' := [.int .i64 _, _, .int .i64 _]) tok rfl rfl rfl rfl rfl rfl) rfl ?_
   refine AOL.p (P_load_ptr (c := .int .i64 _) tok rfl rfl rfl) rfl ?_
   refine AOL.p (P_callf (by kernel_rfl) rfl rfl (r_decimal t.num hn)) rfl ?_
   refine AOL.p (P_assign (v := .str _) rfl) rfl ?_
   refine AOL.nil (thenN ?_)
   refine AW.ret ?_
   refine thenR ?_
   refine ⟨.inr rfl, [.str _], .cons (.tmp _ _ rfl) <| .nil, .refl _, ?_⟩
   rw [e]; rfl
  ·
   have hb : t.name = w_tbool := only_bool hk (by simpa using hc2) hs
   have e : litT t = if t.num == 1 then w_ttrue else w_tfalse := by unfold litT; rw [hb]; rfl
   refine AW.skip ?_
   refine thenN ?_
   refine AW.seq ?_
   refine AW.seq (AW.region ?_)
   refine AOL.p (P_fieldAddr_ptr (cs' := [.int .i64 _, _, .int .i64 _]) tok rfl rfl rfl rfl rfl rfl) rfl ?_
   refine AOL.p (P_load_ptr (c := .int .i64 _) tok rfl rfl rfl) rfl ?_
   refine AOL.p (P_eql rfl rfl) rfl ?_
   refine AOL.nil (thenN ?_)
   refine AW.cond (b := _) rfl (fun hc3 => ?_) (fun hc3 => ?_)
   ·
    refine AW.seq (AW.region ?_)
    refine AOL.p (P_assign (v := .str _) rfl) rfl ?_
    refine AOL.nil (thenN ?_)
    refine AW.ret ?_
    refine thenR ?_
    refine ⟨.inr rfl, [.str _], .cons (.tmp _ _ rfl) <| .nil, .refl _, ?_⟩
    rw [e, if_pos hc3]; rfl
   ·
    refine AW.skip ?_
    refine thenN ?_
    refine AW.seq (AW.region ?_)
    refine AOL.p (P_assign (v := .str _) rfl) rfl ?_
    refine AOL.nil (thenN ?_)
    refine AW.ret ?_
    refine ⟨.inr rfl, [.str _], .cons (.tmp _ _ rfl) <| .nil, .refl _, ?_⟩
    rw [e, ifF hc3]; rfl
set_option maxRecDepth 20000 in
set_option maxHeartbeats 3200000 in
theorem r_list (t : Syn) (f : Nat) (hf : f ≤ 2) (hl : t.kids.length ≤ 1000) (hn : ∀ x ∈ t.kids.drop f, WOK x) (hb : (joinC ((t.kids.drop f).map writeC)).length ≤ 100000) : APure Tryz.prog 98 [.agg (cSyn t), .int .i64 (f : Int)] (.str (joinC ((t.kids.drop f).map writeC))) := by
 refine APure.body (n := 29) tok Tryz.func98 rfl rfl rfl fun H => ?_
 refine AW.seq (AW.region ?_)
 refine AOL.p (P_box (v := .agg _) (cs := [.int .i64 _, .str _, .str _, .int .i64 _, _, .int .i64 _]) rfl rfl rfl) rfl ?_
 refine AOL.p (P_assign (v := .str _) rfl) rfl ?_
 refine AOL.nil (thenN ?_)
 refine AW.seq (AW.region ?_)
 refine AOL.p (P_assign (v := .str _) rfl) rfl ?_
 refine AOL.nil (thenN ?_)
 refine AW.seq ?_
 refine AW.seq (AW.region ?_)
 refine AOL.p (P_move (v := .int .i64 _) rfl) rfl ?_
 refine AOL.p (P_assign (v := .int .i64 _) rfl) rfl ?_
 refine AOL.nil (thenN ?_)
 refine AW.block ?_
 refine AW.loopS (fun (p : Nat × Str) => (⟨[(1, .int .i64 (f : Int)), (2, .ptr (cSyn t)), (5, .str p.2), (6, .int .i64 ((f + p.1 : Nat) : Int))], H, 29⟩ : St)) (fun (p : Nat × Str) => p.1 ≤ t.kids.length ∧ p.2 ++ restC p.1 ((t.kids.drop f).map writeC) = joinC ((t.kids.drop f).map writeC)) (fun (p : Nat × Str) => t.kids.length - (f + p.1)) ((0, [])) ?_ (GS.weaken ⟨rfl, rfl, rfl, rfl, trivial⟩ (.refl _)) ?_
 · exact ⟨Nat.zero_le _, rfl⟩
 ·
  rintro p hR
  refine AW.seq ?_
  refine AW.seq (AW.region ?_)
  refine AOL.p (P_move (v := .int .i64 _) rfl) rfl ?_
  refine AOL.p (P_fieldAddr_ptr (cs' := [_, .int .i64 _]) tok rfl rfl rfl rfl rfl rfl) rfl ?_
  refine AOL.p (P_load_ptr (c := .sl _ _) tok rfl rfl rfl) rfl ?_
  refine AOL.p (P_len_sl (n := t.kids.length) tok rfl rfl rfl (by simp)) rfl ?_
  refine AOL.p (P_lss rfl rfl) rfl ?_
  refine AOL.nil (thenN ?_)
  refine AW.cond (b := _) rfl (fun hc1 => ?_) (fun hc1 => ?_)
  ·
   obtain ⟨x, hx⟩ := gt2 (l := t.kids) (k := f + p.1) (by have := of_decide_eq_true hc1; omega)
   have hlt := gt_lt hx
   have hxd : (t.kids.drop f)[p.1]? = some x := by rw [List.getElem?_drop]; exact hx
   have hnx := hn x (List.mem_of_getElem? hxd)
   have hle := congrArg List.length hR.2
   simp only [List.length_append] at hle
   have hwx := hnx.2
   refine AW.skip ?_
   refine thenN ?_
   refine AW.seq ?_
   refine AW.block ?_
   refine AW.seq ?_
   refine AW.seq (AW.region ?_)
   refine AOL.p (P_move (v := .int .i64 _) rfl) rfl ?_
   refine AOL.p (P_move (v := .int .i64 _) rfl) rfl ?_
   refine AOL.p (P_gtr rfl rfl) rfl ?_
   refine AOL.nil (thenN ?_)
   refine AW.cond (b := _) rfl (fun hc2 => ?_) (fun hc2 => ?_)
   ·
    have hr := restC_s (wm_at hxd) (by have := of_decide_eq_true hc2; omega)
    rw [hr] at hle
    simp only [List.length_append, List.length_cons, List.length_nil] at hle
    refine AW.region ?_
    refine AOL.p (P_move (v := .str _) rfl) rfl ?_
    refine AOL.p (P_add_str rfl rfl rfl (by unfold maxLen; (try simp only [List.length_append, List.length_cons, List.length_nil] at *); omega)) rfl ?_
    refine AOL.p (P_assign (v := .str _) rfl) rfl ?_
    refine AOL.nil (thenN ?_)
    refine AW.region ?_
    refine AOL.p (P_move (v := .str _) rfl) rfl ?_
    refine AOL.p (P_fieldAddr_ptr (cs' := [_, .int .i64 _]) tok rfl rfl rfl rfl rfl rfl) rfl ?_
    refine AOL.p (P_load_ptr (c := .sl _ _) tok rfl rfl rfl) rfl ?_
    refine AOL.p (P_move (v := .int .i64 _) rfl) rfl ?_
    refine AOL.p (P_indexAddr (c := [.int .i64 _, .str _, .str _, .int .i64 _, _, .int .i64 _]) tok rfl rfl rfl rfl rfl rfl (by omega) (encS_at hx)) rfl ?_
    refine AOL.p (P_load_ptr_agg (l := [.int .i64 _, .str _, .str _, .int .i64 _, _, .int .i64 _]) tok rfl rfl rfl rfl rfl) rfl ?_
    refine AOL.p (P_callf (by kernel_rfl) rfl rfl (hnx.1)) rfl ?_
    refine AOL.p (P_add_str rfl rfl rfl (by unfold maxLen; (try simp only [List.length_append, List.length_cons, List.length_nil] at *); omega)) rfl ?_
    refine AOL.p (P_assign (v := .str _) rfl) rfl ?_
    refine AOL.nil ?_
    refine blkN ?_
    refine thenN ?_
    refine AW.region ?_
    refine AOL.p (P_move (v := .int .i64 _) rfl) rfl ?_
    refine AOL.p (P_add rfl rfl rfl (by constructor <;> omega)) rfl ?_
    refine AOL.p (P_assign (v := .int .i64 _) rfl) rfl ?_
    refine AOL.nil (thenN ?_)
    refine ⟨(p.1 + 1, (p.2 ++ [44, 32]) ++ writeC x), ?_, ?_, GS.weaken ⟨rfl, rfl, rfl, rfl, trivial⟩ (.refl _)⟩
    · exact ⟨by omega, by rw [← hR.2, hr]; simp⟩
    · simp only; omega
   ·
    have h0 : p.1 = 0 := by have := of_decide_eq_false hc2; omega
    have hr := restC_0 (ws := (t.kids.drop f).map writeC) (by have := wm_at hxd; rwa [h0] at this)
    rw [h0, hr] at hle
    simp only [List.length_append] at hle
    refine AW.skip ?_
    refine thenN ?_
    refine AW.region ?_
    refine AOL.p (P_move (v := .str _) rfl) rfl ?_
    refine AOL.p (P_fieldAddr_ptr (cs' := [_, .int .i64 _]) tok rfl rfl rfl rfl rfl rfl) rfl ?_
    refine AOL.p (P_load_ptr (c := .sl _ _) tok rfl rfl rfl) rfl ?_
    refine AOL.p (P_move (v := .int .i64 _) rfl) rfl ?_
    refine AOL.p (P_indexAddr (c := [.int .i64 _, .str _, .str _, .int .i64 _, _, .int .i64 _]) tok rfl rfl rfl rfl rfl rfl (by omega) (encS_at hx)) rfl ?_
    refine AOL.p (P_load_ptr_agg (l := [.int .i64 _, .str _, .str _, .int .i64 _, _, .int .i64 _]) tok rfl rfl rfl rfl rfl) rfl ?_
    refine AOL.p (P_callf (by kernel_rfl) rfl rfl (hnx.1)) rfl ?_
    refine AOL.p (P_add_str rfl rfl rfl (by unfold maxLen; (try simp only [List.length_append, List.length_cons, List.length_nil] at *); omega)) rfl ?_
    refine AOL.p (P_assign (v := .str _) rfl) rfl ?_
    refine AOL.nil ?_
    refine blkN ?_
    refine thenN ?_
    refine AW.region ?_
    refine AOL.p (P_move (v := .int .i64 _) rfl) rfl ?_
    refine AOL.p (P_add rfl rfl rfl (by constructor <;> omega)) rfl ?_
    refine AOL.p (P_assign (v := .int .i64 _) rfl) rfl ?_
    refine AOL.nil (thenN ?_)
    refine ⟨(p.1 + 1, p.2 ++ writeC x), ?_, ?_, GS.weaken ⟨rfl, rfl, rfl, rfl, trivial⟩ (.refl _)⟩
    · exact ⟨by omega, by rw [← hR.2, h0, hr]; simp⟩
    · simp only; omega
  ·
   have hk : ((t.kids.drop f).map writeC).length ≤ p.1 := by have := of_decide_eq_false hc1; rw [List.length_map, List.length_drop]; omega
   refine AW.exit ?_
   refine thenE ?_
   refine thenE ?_
   refine blkHit ?_
   refine thenN ?_
   refine AW.seq (AW.region ?_)
   refine AOL.p (P_move (v := .str _) rfl) rfl ?_
   refine AOL.p (P_assign (v := .str _) rfl) rfl ?_
   refine AOL.nil (thenN ?_)
   refine AW.ret ?_
   refine ⟨.inr rfl, [.str _], .cons (.tmp _ _ rfl) <| .nil, .refl _, ?_⟩
   have h9 : joinC ((t.kids.drop f).map writeC) = p.2 := by rw [← hR.2, restC_end hk, List.append_nil]
   rw [h9]; rfl
set_option maxRecDepth 20000 in
set_option maxHeartbeats 1600000 in
theorem r_operand (p t : Syn) (ht : WOK t) : APure Tryz.prog 95 [.agg (cSyn p), .agg (cSyn t)] (.str (wrapT p t (writeC t))) := by
 have hwx := ht.2
 refine APure.body (n := 15) tok Tryz.func95 rfl rfl rfl fun H => ?_
 refine AW.seq (AW.region ?_)
 refine AOL.p (P_box (v := .agg _) (cs := [.int .i64 _, .str _, .str _, .int .i64 _, _, .int .i64 _]) rfl rfl rfl) rfl ?_
 refine AOL.p (P_box (v := .agg _) (cs := [.int .i64 _, .str _, .str _, .int .i64 _, _, .int .i64 _]) rfl rfl rfl) rfl ?_
 refine AOL.p (P_assign (v := .str _) rfl) rfl ?_
 refine AOL.nil (thenN ?_)
 refine AW.seq (AW.region ?_)
 refine AOL.p (P_load_ptr_agg (l := [.int .i64 _, .str _, .str _, .int .i64 _, _, .int .i64 _]) tok rfl rfl rfl rfl rfl) rfl ?_
 refine AOL.p (P_callf (by kernel_rfl) rfl rfl (ht.1)) rfl ?_
 refine AOL.p (P_assign (v := .str _) rfl) rfl ?_
 refine AOL.nil (thenN ?_)
 refine AW.seq ?_
 refine AW.seq (AW.region ?_)
 refine AOL.p (P_load_ptr_agg (l := [.int .i64 _, .str _, .str _, .int .i64 _, _, .int .i64 _]) tok rfl rfl rfl rfl rfl) rfl ?_
 refine AOL.p (P_load_ptr_agg (l := [.int .i64 _, .str _, .str _, .int .i64 _, _, .int .i64 _]) tok rfl rfl rfl rfl rfl) rfl ?_
 refine AOL.p (P_callf (by kernel_rfl) rfl rfl (r_closed p t)) rfl ?_
 refine AOL.nil (thenN ?_)
 refine AW.cond (b := _) rfl (fun hc1 => ?_) (fun hc1 => ?_)
 ·
  refine AW.seq (AW.region ?_)
  refine AOL.p (P_move (v := .str _) rfl) rfl ?_
  refine AOL.p (P_add_str rfl rfl rfl (by unfold maxLen; (try simp only [List.length_append, List.length_cons, List.length_nil] at *); omega)) rfl ?_
  refine AOL.p (P_add_str rfl rfl rfl (by unfold maxLen; (try simp only [List.length_append, List.length_cons, List.length_nil] at *); omega)) rfl ?_
  refine AOL.p (P_assign (v := .str _) rfl) rfl ?_
  refine AOL.nil (thenN ?_)
  refine AW.ret ?_
  refine thenR ?_
  refine ⟨.inr rfl, [.str _], .cons (.tmp _ _ rfl) <| .nil, .refl _, ?_⟩
  have h9 : wrapT p t (writeC t) = [40] ++ writeC t ++ [41] := if_pos hc1
  rw [h9]; rfl
 ·
  refine AW.skip ?_
  refine thenN ?_
  refine AW.seq (AW.region ?_)
  refine AOL.p (P_move (v := .str _) rfl) rfl ?_
  refine AOL.p (P_assign (v := .str _) rfl) rfl ?_
  refine AOL.nil (thenN ?_)
  refine AW.ret ?_
  refine ⟨.inr rfl, [.str _], .cons (.tmp _ _ rfl) <| .nil, .refl _, ?_⟩
  have h9 : wrapT p t (writeC t) = writeC t := ifF hc1
  rw [h9]; rfl

end Go.Proofs.YtabkeeedkhgodaaGreatDoor
