/-
  Walks of layer 23: numbers as texts. No condition.
-/
import Derived.Test.YtoolcpnahmgnnaaGreatDoorW16
import Derived.Test.YtoolcpnahmgnnaaGreatDoorP8
import Derived.KernelRfl
namespace Go.Proofs.YtoolcpnahmgnnaaGreatDoor
open Go Go.Aw
set_option linter.unusedVariables false
set_option linter.unusedSimpArgs false

def digs : Str := [48, 49, 50, 51, 52, 53, 54, 55, 56, 57]
theorem digs_at : ∀ d : Nat, d < 10 → (digs.take (d + 1)).drop d = [UInt8.ofNat (48 + d)]
  | 0, _ => rfl
  | 1, _ => rfl
  | 2, _ => rfl
  | 3, _ => rfl
  | 4, _ => rfl
  | 5, _ => rfl
  | 6, _ => rfl
  | 7, _ => rfl
  | 8, _ => rfl
  | 9, _ => rfl
  | d + 10, h => absurd h (by omega)
theorem dec_one {u : Nat} (h : u < 10) : Lib.decDigits u = [UInt8.ofNat (48 + u)] := by rw [Lib.decDigits, dif_pos h]
theorem dec_more {u : Nat} (h : ¬ u < 10) : Lib.decDigits u = Lib.decDigits (u / 10) ++ [UInt8.ofNat (48 + u % 10)] := by rw [Lib.decDigits, dif_neg h]
/-- The last digit of a number below 0, of one from 0 on. -/
theorem ndig {n : Int} (h : n < 0) : 0 - n.tmod 10 = ((n.natAbs % 10 : Nat) : Int) ∧ n.natAbs % 10 < 10 := by
  refine ⟨?_, by omega⟩
  have h1 : n.tmod 10 = -((-n).tmod 10) := by rw [Int.neg_tmod, Int.neg_neg]
  have h2 : (-n).tmod 10 = (-n) % 10 := Int.tmod_eq_emod_of_nonneg (by omega)
  omega
theorem pdig {n : Int} (h : 0 ≤ n) : n.tmod 10 = ((n.toNat % 10 : Nat) : Int) ∧ n.toNat % 10 < 10 := by
  refine ⟨?_, by omega⟩
  rw [Int.tmod_eq_emod_of_nonneg h]; omega
theorem ndiv {n : Int} (h : n ≤ -10) : n.tdiv 10 < 0 ∧ (n.tdiv 10).natAbs = n.natAbs / 10 := by
  have h1 : n.tdiv 10 = -((-n).tdiv 10) := by rw [Int.neg_tdiv, Int.neg_neg]
  have h2 : (-n).tdiv 10 = (-n) / 10 := Int.tdiv_eq_ediv_of_nonneg (by omega)
  omega
theorem pdiv {n : Int} (h : 10 ≤ n) : 0 ≤ n.tdiv 10 ∧ (n.tdiv 10).toNat = n.toNat / 10 := by
  rw [Int.tdiv_eq_ediv_of_nonneg (by omega)]; omega
theorem itoa_neg {n : Int} (h : n < 0) : Lib.itoa n = 45 :: Lib.decDigits n.natAbs := if_pos h
theorem itoa_pos {n : Int} (h : 0 ≤ n) : Lib.itoa n = Lib.decDigits n.toNat := if_neg (by omega)
theorem itoa_n1 {n : Int} (h : n < 0) (k : -10 < n) : Lib.itoa n = 45 :: [UInt8.ofNat (48 + n.natAbs % 10)] := by
  rw [itoa_neg h, dec_one (by omega), show n.natAbs % 10 = n.natAbs by omega]
theorem itoa_n2 {n : Int} (k : n ≤ -10) : Lib.itoa n = Lib.itoa (n.tdiv 10) ++ [UInt8.ofNat (48 + n.natAbs % 10)] := by
  have hd := ndiv k
  rw [itoa_neg (by omega), itoa_neg hd.1, hd.2, dec_more (by omega)]; rfl
theorem itoa_p1 {n : Int} (h : 0 ≤ n) (k : n < 10) : Lib.itoa n = [UInt8.ofNat (48 + n.toNat)] := by rw [itoa_pos h, dec_one (by omega)]
theorem itoa_p2 {n : Int} (k : 10 ≤ n) : Lib.itoa n = Lib.itoa (n.tdiv 10) ++ [UInt8.ofNat (48 + n.toNat % 10)] := by
  have hd := pdiv k
  rw [itoa_pos (by omega), itoa_pos hd.1, hd.2, dec_more (by omega)]
theorem div_i64 {n : Int} (h : I64 n) : I64 (n.tdiv 10) := by
  unfold I64 at h ⊢
  by_cases h0 : 0 ≤ n
  · rw [Int.tdiv_eq_ediv_of_nonneg h0]; omega
  · have h1 : n.tdiv 10 = -((-n).tdiv 10) := by rw [Int.neg_tdiv, Int.neg_neg]
    have h2 : (-n).tdiv 10 = (-n) / 10 := Int.tdiv_eq_ediv_of_nonneg (by omega)
    omega
theorem P_quo10 {d : Option Nat} {x y : Operand} {t yt ty : TypeId} {pos : String} {aft : Array Edge} {gd : Option (Nat × Bool)} {ρ : Operand → AV} {K : List HO → Prop} {n : Int} (hx : ρ x = .int .i64 n) (hy : ρ y = .int .i64 10) (h : I64 n) :
    OpP Tryz.prog ⟨d, .binOp .quo t x y yt, ty, pos, aft, gd⟩ ρ K (.int .i64 (n.tdiv 10)) := by
  have h1 := P_quow (P := Tryz.prog) (d := d) (ty := ty) (pos := pos) (aft := aft) (gd := gd) (K := K) (t := t) (yt := yt) hx hy (by decide)
  rwa [show IntKind.wrap .i64 (n.tdiv 10) = n.tdiv 10 from IntWalk.i64_in _ (div_i64 h)] at h1
set_option maxRecDepth 20000 in
set_option maxHeartbeats 1600000 in
theorem r_Decimal (n : Int) (h : I64 n) : APure Tryz.prog 53 [.int .i64 n] (.str (Lib.itoa n)) := by
  have key : ∀ m (n : Int), I64 n → n.natAbs ≤ m → APure Tryz.prog 53 [.int .i64 n] (.str (Lib.itoa n)) := ?_
  exact key _ n h (Nat.le_refl _)
  clear h n
  intro m
  induction m using Nat.strongRecOn with
  | ind m ih =>
  intro n h hm
  have hh := h
  unfold I64 at hh
  refine APure.body (n := 39) tok Tryz.func53 rfl rfl rfl fun H => ?_
  refine AW.seq ?_
  refine AW.region ?_
  refine AOL.p (P_assign (v := .str _) rfl) rfl ?_
  refine AOL.nil ?_
  refine thenN ?_
  refine AW.seq ?_
  refine AW.seq ?_
  refine AW.region ?_
  refine AOL.p (P_move (v := .int .i64 _) rfl) rfl ?_
  refine AOL.p (P_lss rfl rfl) rfl ?_
  refine AOL.nil ?_
  refine thenN ?_
  refine AW.cond (b := _) rfl (fun hc1 => ?_) (fun hc1 => ?_)
  · skip
    have hn := of_decide_eq_true hc1
    refine AW.seq ?_
    refine AW.region ?_
    refine AOL.p (P_move (v := .int .i64 _) rfl) rfl ?_
    refine AOL.p (P_rem rfl rfl (by omega)) rfl ?_
    refine AOL.p (P_neg rfl rfl (by have := (ndig (of_decide_eq_true hc1)).1; omega)) rfl ?_
    refine AOL.p (P_move (v := .int .i64 _) rfl) rfl ?_
    refine AOL.p (P_rem rfl rfl (by omega)) rfl ?_
    refine AOL.p (P_neg rfl rfl (by have := (ndig (of_decide_eq_true hc1)).1; omega)) rfl ?_
    refine AOL.p (P_add rfl rfl rfl (by have := (ndig (of_decide_eq_true hc1)).1; omega)) rfl ?_
    refine AOL.p (P_slice_str (l := n.natAbs % 10) (h := n.natAbs % 10 + 1) tok rfl rfl rfl (⟨_, congrArg (AV.int .i64) (ndig (of_decide_eq_true hc1)).1⟩) (⟨_, congrArg (AV.int .i64) (show 0 - n.tmod 10 + 1 = _ by rw [(ndig (of_decide_eq_true hc1)).1]; rfl)⟩) (by omega) (by show _ ≤ 10; omega) (digs_at _ (by omega))) rfl ?_
    refine AOL.p (P_assign (v := .str _) rfl) rfl ?_
    refine AOL.nil ?_
    refine thenN ?_
    refine AW.seq ?_
    refine AW.seq ?_
    refine AW.region ?_
    refine AOL.p (P_move (v := .int .i64 _) rfl) rfl ?_
    refine AOL.p (P_gtr rfl rfl) rfl ?_
    refine AOL.nil ?_
    refine thenN ?_
    refine AW.cond (b := _) rfl (fun hc2 => ?_) (fun hc2 => ?_)
    · skip
      have hq := of_decide_eq_true hc2
      refine AW.seq ?_
      refine AW.region ?_
      refine AOL.p (P_move (v := .str _) rfl) rfl ?_
      refine AOL.p (P_add_str rfl rfl rfl (by simp [maxLen])) rfl ?_
      refine AOL.p (P_assign (v := .str _) rfl) rfl ?_
      refine AOL.nil ?_
      refine thenN ?_
      refine AW.ret ?_
      refine thenR ?_
      refine thenR ?_
      refine ⟨.inr rfl, [.str _], .cons (.tmp _ _ rfl) <| .nil, .refl _, ?_⟩
      rw [itoa_n1 hn hq]; rfl
    · skip
      have hq : n ≤ -10 := by have := of_decide_eq_false hc2; omega
      refine AW.skip ?_
      refine thenN ?_
      refine AW.seq ?_
      refine AW.region ?_
      refine AOL.p (P_move (v := .int .i64 _) rfl) rfl ?_
      refine AOL.p (P_quo10 rfl rfl h) rfl ?_
      refine AOL.p (P_callf (by kernel_rfl) rfl rfl (ih (n.tdiv 10).natAbs (by have := (ndiv hq).2; omega) (n.tdiv 10) (div_i64 h) (Nat.le_refl _))) rfl ?_
      refine AOL.p (P_move (v := .str _) rfl) rfl ?_
      refine AOL.p (P_add_str rfl rfl rfl (by have := itoa_le (div_i64 h); simp only [List.length_append, List.length_cons, List.length_nil]; unfold maxLen; omega)) rfl ?_
      refine AOL.p (P_assign (v := .str _) rfl) rfl ?_
      refine AOL.nil ?_
      refine thenN ?_
      refine AW.ret ?_
      refine thenR ?_
      refine ⟨.inr rfl, [.str _], .cons (.tmp _ _ rfl) <| .nil, .refl _, ?_⟩
      rw [itoa_n2 hq]; rfl
  · skip
    have hp : 0 ≤ n := by have := of_decide_eq_false hc1; omega
    refine AW.skip ?_
    refine thenN ?_
    refine AW.seq ?_
    refine AW.seq ?_
    refine AW.region ?_
    refine AOL.p (P_move (v := .int .i64 _) rfl) rfl ?_
    refine AOL.p (P_lss rfl rfl) rfl ?_
    refine AOL.nil ?_
    refine thenN ?_
    refine AW.cond (b := _) rfl (fun hc3 => ?_) (fun hc3 => ?_)
    · skip
      have hq := of_decide_eq_true hc3
      refine AW.seq ?_
      refine AW.region ?_
      refine AOL.p (P_move (v := .int .i64 _) rfl) rfl ?_
      refine AOL.p (P_move (v := .int .i64 _) rfl) rfl ?_
      refine AOL.p (P_add rfl rfl rfl (by omega)) rfl ?_
      refine AOL.p (P_slice_str (l := n.toNat) (h := n.toNat + 1) tok rfl rfl rfl (⟨_, congrArg (AV.int .i64) (show n = (n.toNat : Int) by omega)⟩) (⟨_, congrArg (AV.int .i64) (show n + 1 = ((n.toNat + 1 : Nat) : Int) by omega)⟩) (by omega) (by show _ ≤ 10; omega) (digs_at _ (by omega))) rfl ?_
      refine AOL.p (P_assign (v := .str _) rfl) rfl ?_
      refine AOL.nil ?_
      refine thenN ?_
      refine AW.ret ?_
      refine thenR ?_
      refine ⟨.inr rfl, [.str _], .cons (.tmp _ _ rfl) <| .nil, .refl _, ?_⟩
      rw [itoa_p1 hp hq]; rfl
    · skip
      have hq : 10 ≤ n := by have := of_decide_eq_false hc3; omega
      refine AW.skip ?_
      refine thenN ?_
      refine AW.seq ?_
      refine AW.draw mixed (fun _ => True) trivial (by kernel_rfl) ?_
      refine Canon.pure _ _ 0 _ _ rfl (by kernel_rfl) (by kernel_rfl) rfl (.run rfl (P_move (v := .int .i64 _) rfl)) ?_
      refine Canon.pure _ _ 1 _ _ rfl (by kernel_rfl) (by kernel_rfl) rfl (.run rfl (P_quo10 rfl rfl h)) ?_
      refine Canon.pure _ _ 2 _ _ rfl (by kernel_rfl) (by kernel_rfl) rfl (.run rfl (P_callf (by kernel_rfl) rfl rfl (ih (n.tdiv 10).toNat (by have := (pdiv hq).2; omega) (n.tdiv 10) (div_i64 h) (by have := (pdiv hq).1; omega)))) ?_
      refine Canon.pure _ _ 3 _ _ rfl (by kernel_rfl) (by kernel_rfl) rfl (.run rfl (P_move (v := .int .i64 _) rfl)) ?_
      refine Canon.pure _ _ 4 _ _ rfl (by kernel_rfl) (by kernel_rfl) rfl (.run rfl (P_rem rfl rfl (by omega))) ?_
      refine Canon.pure _ _ 5 _ _ rfl (by kernel_rfl) (by kernel_rfl) rfl (.run rfl (P_move (v := .int .i64 _) rfl)) ?_
      refine Canon.pure _ _ 6 _ _ rfl (by kernel_rfl) (by kernel_rfl) rfl (.run rfl (P_rem rfl rfl (by omega))) ?_
      refine Canon.pure _ _ 7 _ _ rfl (by kernel_rfl) (by kernel_rfl) rfl (.run rfl (P_add rfl rfl rfl (by have := (pdig hp).1; omega))) ?_
      refine Canon.pure _ _ 8 _ _ rfl (by kernel_rfl) (by kernel_rfl) rfl (.run rfl (P_slice_str (l := n.toNat % 10) (h := n.toNat % 10 + 1) tok rfl rfl rfl (⟨_, congrArg (AV.int .i64) (pdig hp).1⟩) (⟨_, congrArg (AV.int .i64) (show n.tmod 10 + 1 = _ by rw [(pdig hp).1]; rfl)⟩) (by omega) (by show _ ≤ 10; omega) (digs_at _ (by omega)))) ?_
      refine Canon.pure _ _ 9 _ _ rfl (by kernel_rfl) (by kernel_rfl) rfl (.run rfl (P_add_str rfl rfl rfl (by have := itoa_le (div_i64 h); simp only [List.length_append, List.length_cons, List.length_nil]; unfold maxLen; omega))) ?_
      refine Canon.pure _ _ 10 _ _ rfl (by kernel_rfl) (by kernel_rfl) rfl (.run rfl (P_assign (v := .str _) rfl)) ?_
      refine Canon.done _ _ (by kernel_rfl) ?_
      refine thenN ?_
      refine AW.ret ?_
      refine ⟨.inr rfl, [.str _], .cons (.tmp _ _ rfl) <| .nil, .refl _, ?_⟩
      rw [itoa_p2 hq]; rfl
set_option maxRecDepth 20000 in
set_option maxHeartbeats 1600000 in
theorem r_numbers (w : Str) (ns : List Int) (hi : ∀ x ∈ ns, I64 x) (hw : w.length ≤ 6) (hl : ns.length ≤ 100000000) : APure Tryz.prog 54 [.str w, .sl 1 (ns.map cI)] (.str (numbersT w ns)) := by
  refine APure.body (n := 27) tok Tryz.func54 rfl rfl rfl fun H => ?_
  refine AW.seq ?_
  refine AW.region ?_
  refine AOL.p (P_assign (v := .str _) rfl) rfl ?_
  refine AOL.nil ?_
  refine thenN ?_
  refine AW.seq ?_
  refine AW.seq ?_
  refine AW.region ?_
  refine AOL.p (P_move (v := .sl _ _) rfl) rfl ?_
  refine AOL.p (P_len_sl (n := ns.length) tok rfl rfl rfl (by simp)) rfl ?_
  refine AOL.p (P_eql rfl rfl) rfl ?_
  refine AOL.nil ?_
  refine thenN ?_
  refine AW.cond (b := _) rfl (fun hc1 => ?_) (fun hc1 => ?_)
  · skip
    have h9 : numbersT w ns = [] := if_pos hc1
    refine AW.seq ?_
    refine AW.region ?_
    refine AOL.p (P_assign (v := .str _) rfl) rfl ?_
    refine AOL.nil ?_
    refine thenN ?_
    refine AW.ret ?_
    refine thenR ?_
    refine ⟨.inr rfl, [.str _], .cons (.tmp _ _ rfl) <| .nil, .refl _, ?_⟩
    rw [h9]; rfl
  · skip
    have h9 : numbersT w ns = (32 :: w) ++ numT ns := if_neg (Bool.eq_false_iff.mp hc1)
    refine AW.skip ?_
    refine thenN ?_
    refine AW.seq ?_
    refine AW.region ?_
    refine AOL.p (P_move (v := .str _) rfl) rfl ?_
    refine AOL.p (P_add_str rfl rfl rfl (by simp only [List.length_append, List.length_cons, List.length_nil]; unfold maxLen; omega)) rfl ?_
    refine AOL.p (P_assign (v := .str _) rfl) rfl ?_
    refine AOL.nil ?_
    refine thenN ?_
    refine AW.seq ?_
    refine AW.seq ?_
    refine AW.region ?_
    refine AOL.p (P_assign (v := .int .i64 _) rfl) rfl ?_
    refine AOL.nil ?_
    refine thenN ?_
    refine AW.block ?_
    refine AW.loopS (fun (k : Nat) => (⟨[(1, .sl 1 (ns.map cI)), (5, .str ((32 :: w) ++ numT (ns.take k))), (6, .int .i64 (k : Int))], H, 27⟩ : St)) (fun (k : Nat) => k ≤ ns.length) (fun (k : Nat) => ns.length - k) (0) ?_ (GS.weaken ⟨rfl, congrArg AV.str (List.append_nil (32 :: w)).symm, rfl, trivial⟩ (.refl _)) ?_
    · exact Nat.zero_le _
    · rintro k hR
      refine AW.seq ?_
      refine AW.seq ?_
      refine AW.region ?_
      refine AOL.p (P_move (v := .int .i64 _) rfl) rfl ?_
      refine AOL.p (P_move (v := .sl _ _) rfl) rfl ?_
      refine AOL.p (P_len_sl (n := ns.length) tok rfl rfl rfl (by simp)) rfl ?_
      refine AOL.p (P_lss rfl rfl) rfl ?_
      refine AOL.nil ?_
      refine thenN ?_
      refine AW.cond (b := _) rfl (fun hc2 => ?_) (fun hc2 => ?_)
      · skip
        obtain ⟨x, hx⟩ := get_lt2 (l := ns) (k := k) (by have := of_decide_eq_true hc2; omega)
        have hltx := get_lt' hx
        have hmx := List.mem_of_getElem? hx
        have hxl := itoa_le (hi x hmx)
        have htl := numT_len (l := ns.take k) fun y hy => hi y (List.mem_of_mem_take hy)
        rw [List.length_take] at htl
        refine AW.skip ?_
        refine thenN ?_
        refine AW.seq ?_
        refine AW.block ?_
        refine AW.region ?_
        refine AOL.p (P_move (v := .str _) rfl) rfl ?_
        refine AOL.p (P_move (v := .sl _ _) rfl) rfl ?_
        refine AOL.p (P_move (v := .int .i64 _) rfl) rfl ?_
        refine AOL.p (P_indexAddr (c := [.int .i64 _]) tok rfl rfl rfl rfl rfl rfl (by omega) (cI_at hx)) rfl ?_
        refine AOL.p (P_load_ptr (c := .int .i64 _) tok rfl rfl rfl) rfl ?_
        refine AOL.p (P_callf (by kernel_rfl) rfl rfl (r_Decimal x (hi x hmx))) rfl ?_
        refine AOL.p (P_add_str rfl rfl rfl (by simp only [List.length_append, List.length_cons, List.length_nil]; unfold maxLen; omega)) rfl ?_
        refine AOL.p (P_add_str rfl rfl rfl (by simp only [List.length_append, List.length_cons, List.length_nil]; unfold maxLen; omega)) rfl ?_
        refine AOL.p (P_assign (v := .str _) rfl) rfl ?_
        refine AOL.nil ?_
        refine blkN ?_
        refine thenN ?_
        refine AW.region ?_
        refine AOL.p (P_move (v := .int .i64 _) rfl) rfl ?_
        refine AOL.p (P_add rfl rfl rfl (by constructor <;> omega)) rfl ?_
        refine AOL.p (P_assign (v := .int .i64 _) rfl) rfl ?_
        refine AOL.nil ?_
        refine thenN ?_
        refine ⟨k + 1, ?_, ?_, GS.weaken ⟨rfl, congrArg AV.str (by rw [take_get hx, numT_app, List.append_assoc]; simp [numT]), rfl, trivial⟩ (.refl _)⟩
        · exact hltx
        · omega
      · skip
        have hk2 : ns.length ≤ k := by have := of_decide_eq_false hc2; omega
        refine AW.exit ?_
        refine thenE ?_
        refine thenE ?_
        refine blkHit ?_
        refine thenN ?_
        refine AW.seq ?_
        refine AW.region ?_
        refine AOL.p (P_move (v := .str _) rfl) rfl ?_
        refine AOL.p (P_assign (v := .str _) rfl) rfl ?_
        refine AOL.nil ?_
        refine thenN ?_
        refine AW.ret ?_
        refine ⟨.inr rfl, [.str _], .cons (.tmp _ _ rfl) <| .nil, .refl _, ?_⟩
        rw [h9, List.take_of_length_le hk2]; rfl

end Go.Proofs.YtoolcpnahmgnnaaGreatDoor
