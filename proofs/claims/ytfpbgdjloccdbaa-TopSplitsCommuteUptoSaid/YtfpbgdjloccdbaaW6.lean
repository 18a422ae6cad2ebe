/-
  Walks of sorting in place, for at most twelve elements. No condition.
-/
import Derived.Test.YtfpbgdjloccdbaaW5
import Derived.KernelRfl
namespace Go.Proofs.Ytfpbgdjloccdbaa
open Go Go.Aw
set_option linter.unusedVariables false
set_option linter.unusedSimpArgs false

def flat {α : Type} (c : α → List AV) (l : List α) : List AV := (l.map c).flatten
theorem flat_len {α : Type} {c : α → List AV} {z : Nat} (hz : ∀ x, (c x).length = z) (l : List α) : (flat c l).length = l.length * z := by
  unfold flat
  rw [flatten_len (z := z) (by intro e he; obtain ⟨x, _, rfl⟩ := List.mem_map.1 he; exact hz x), List.length_map]
theorem flat_cons {α : Type} (c : α → List AV) (x : α) (l : List α) : flat c (x :: l) = c x ++ flat c l := rfl
theorem flat_at {α : Type} {c : α → List AV} {z : Nat} (hz : ∀ x, (c x).length = z) (d : α) (J : List AV) : ∀ (l : List α) (k : Nat), k < l.length → ((flat c l ++ J).drop (k * z)).take z = c ((l[k]?).getD d)
  | [], k, h => by simp at h
  | x :: l, 0, h => by
    rw [Nat.zero_mul, List.drop_zero, flat_cons, List.append_assoc]
    exact List.take_left' (hz x)
  | x :: l, k + 1, h => by
    have ih := flat_at hz d J l k (by simpa using h)
    rw [flat_cons, List.append_assoc, Nat.add_mul, Nat.one_mul, Nat.add_comm, ← List.drop_drop, List.drop_left' (hz x)]
    simpa using ih
theorem setSeg_flat {α : Type} {c : α → List AV} {z : Nat} (hz : ∀ x, (c x).length = z) (J : List AV) (y : α) : ∀ (l : List α) (k : Nat), k < l.length → setSeg (flat c l ++ J) (k * z) (c y) = flat c (l.set k y) ++ J
  | [], k, h => by simp at h
  | x :: l, 0, h => by
    unfold setSeg
    rw [Nat.zero_mul, Nat.zero_add, hz y, List.take_zero, List.nil_append, flat_cons, List.append_assoc, List.drop_left' (hz x), List.set_cons_zero, flat_cons, List.append_assoc]
  | x :: l, k + 1, h => by
    have ih := setSeg_flat hz J y l k (by simpa using h)
    have e1 : (k + 1) * z = z + k * z := by rw [Nat.add_mul, Nat.one_mul, Nat.add_comm]
    have e2 : flat c ((x :: l).set (k + 1) y) ++ J = c x ++ (flat c (l.set k y) ++ J) := by rw [List.set_cons_succ, flat_cons, List.append_assoc]
    have e3 : flat c (x :: l) ++ J = c x ++ (flat c l ++ J) := by rw [flat_cons, List.append_assoc]
    rw [e2, ← ih, e3, e1]
    unfold setSeg
    rw [List.take_add, List.take_left' (hz x), List.drop_left' (hz x), hz y, Nat.add_assoc, ← List.drop_drop, List.drop_left' (hz x)]
    simp only [List.append_assoc]
theorem ble_flat {α : Type} {c : α → List AV} {z : Nat} (hz : ∀ x, (c x).length = z) (J : List AV) {l : List α} {k : Nat} (h : k < l.length) : Nat.ble (k * z + z) (flat c l ++ J).length = true := by
  rw [Nat.ble_eq, List.length_append, flat_len hz]
  have : (k + 1) * z ≤ l.length * z := Nat.mul_le_mul_right z h
  rw [Nat.add_mul, Nat.one_mul] at this
  omega
theorem cEv_len (e : Ev) : (cEv e).length = 5 := rfl
theorem cV_len (v : Vl) : (cV v).length = 3 := rfl
theorem guard_one {b : Bool} (h : allG [(b, true)]) : b = true := h _ (List.mem_singleton.2 rfl)
theorem sw_len {α : Type} (d : α) (l : List α) (j : Nat) : (swS d l j).length = l.length := by unfold swS; simp
theorem inner_stop {α : Type} {d : α} {lt : α → α → Bool} {l : List α} {j : Nat} (h : 0 < j → lt ((l[j]?).getD d) ((l[j - 1]?).getD d) = false) : innerS d lt j l = l := by
  cases j with
  | zero => rfl
  | succ j => rw [innerS, ifF (by simpa using h (by omega))]
theorem inner_step {α : Type} {d : α} {lt : α → α → Bool} {l : List α} {j : Nat} (h0 : 0 < j) (h : lt ((l[j]?).getD d) ((l[j - 1]?).getD d) = true) : innerS d lt j l = innerS d lt (j - 1) (swS d l j) := by
  cases j with
  | zero => omega
  | succ j => rw [innerS, if_pos (by simpa using h)]; rfl
theorem inner_len {α : Type} {d : α} {lt : α → α → Bool} : ∀ (j : Nat) (l : List α), (innerS d lt j l).length = l.length
  | 0, l => rfl
  | j + 1, l => by
    rw [innerS]
    split
    · rw [inner_len, sw_len]
    · rfl
theorem outer_step {α : Type} {d : α} {lt : α → α → Bool} {l : List α} {n i : Nat} (h : i < n) : outerS d lt (n - i) i l = outerS d lt (n - (i + 1)) (i + 1) (innerS d lt i l) := by
  have : n - i = (n - (i + 1)) + 1 := by omega
  rw [this, outerS]
theorem outer_stop {α : Type} {d : α} {lt : α → α → Bool} {l : List α} {n i : Nat} (h : n ≤ i) : outerS d lt (n - i) i l = l := by
  have : n - i = 0 := by omega
  rw [this]; rfl
def l8 (n : Nat) : UInt8 := if n = 0 then 0 else if n = 1 then 1 else if n ≤ 3 then 2 else if n ≤ 7 then 3 else 4
theorem le12 {n : Nat} (h : n ≤ 12) : n = 0 ∨ n = 1 ∨ n = 2 ∨ n = 3 ∨ n = 4 ∨ n = 5 ∨ n = 6 ∨ n = 7 ∨ n = 8 ∨ n = 9 ∨ n = 10 ∨ n = 11 ∨ n = 12 := by omega
theorem l8_lt (n : Nat) : (l8 n).toNat < 256 := (l8 n).toNat_lt

set_option maxRecDepth 20000 in
set_option maxHeartbeats 400000 in
theorem k_Len64 (n : Nat) (hn : n ≤ 12) : APure Try.prog 66 [.int .u64 (n : Int)] (.int .i64 ((l8 n).toNat : Int)) := by
  refine APure.body (n := 25) tok Try.func66 rfl rfl rfl fun H => ?_
  refine AW.seq ?_
  refine AW.region ?_
  refine AOL.p (P_assign (v := .int .i64 _) rfl) rfl ?_
  refine AOL.nil ?_
  refine thenN ?_
  refine AW.seq ?_
  refine AW.seq ?_
  refine AW.region ?_
  refine AOL.p (P_move (v := .int .u64 _) rfl) rfl ?_
  refine AOL.p (P_geq rfl rfl) rfl ?_
  refine AOL.nil ?_
  refine thenN ?_
  refine AW.cond (b := _) rfl (fun hc1 => ?_) (fun hc1 => ?_)
  · skip
    have := of_decide_eq_true hc1; omega
  · skip
    refine AW.skip ?_
    refine thenN ?_
    refine AW.seq ?_
    refine AW.seq ?_
    refine AW.region ?_
    refine AOL.p (P_move (v := .int .u64 _) rfl) rfl ?_
    refine AOL.p (P_geq rfl rfl) rfl ?_
    refine AOL.nil ?_
    refine thenN ?_
    refine AW.cond (b := _) rfl (fun hc2 => ?_) (fun hc2 => ?_)
    · skip
      have := of_decide_eq_true hc2; omega
    · skip
      refine AW.skip ?_
      refine thenN ?_
      refine AW.seq ?_
      refine AW.seq ?_
      refine AW.region ?_
      refine AOL.p (P_move (v := .int .u64 _) rfl) rfl ?_
      refine AOL.p (P_geq rfl rfl) rfl ?_
      refine AOL.nil ?_
      refine thenN ?_
      refine AW.cond (b := _) rfl (fun hc3 => ?_) (fun hc3 => ?_)
      · skip
        have := of_decide_eq_true hc3; omega
      · skip
        refine AW.skip ?_
        refine thenN ?_
        refine AW.seq ?_
        refine AW.region ?_
        refine AOL.p (P_move (v := .int .i64 _) rfl) rfl ?_
        refine AOL.p (P_move (v := .int .u64 _) rfl) rfl ?_
        refine AOL.p (P_conv (m := (n : Int)) tok rfl rfl rfl rfl rfl (by rcases le12 hn with rfl | rfl | rfl | rfl | rfl | rfl | rfl | rfl | rfl | rfl | rfl | rfl | rfl <;> rfl)) rfl ?_
        refine AOL.p (P_index_str (b := l8 n) tok rfl rfl rfl rfl (by omega) (by rcases le12 hn with rfl | rfl | rfl | rfl | rfl | rfl | rfl | rfl | rfl | rfl | rfl | rfl | rfl <;> rfl)) rfl ?_
        refine AOL.p (P_conv (m := ((l8 n).toNat : Int)) tok rfl rfl rfl rfl rfl (by rw [IntKind.wrap_i64]; have := l8_lt n; omega)) rfl ?_
        refine AOL.p (P_add rfl rfl rfl (by have := l8_lt n; constructor <;> omega)) rfl ?_
        refine AOL.p (P_assign (v := .int .i64 _) rfl) rfl ?_
        refine AOL.nil ?_
        refine thenN ?_
        refine AW.ret ?_
        refine ⟨.inr rfl, [.int .i64 _], .cons (.tmp _ _ rfl) <| .nil, .refl _, ?_⟩
        exact congrArg (AV.int .i64) (by omega)
set_option maxRecDepth 20000 in
set_option maxHeartbeats 400000 in
theorem k_Len (n : Nat) (hn : n ≤ 12) : APure Try.prog 43 [.int .u64 (n : Int)] (.int .i64 ((l8 n).toNat : Int)) := by
  refine APure.body (n := 8) tok Try.func43 rfl rfl rfl fun H => ?_
  refine AW.seq ?_
  refine AW.region ?_
  refine AOL.p (P_assign (v := .int .i64 _) rfl) rfl ?_
  refine AOL.nil ?_
  refine thenN ?_
  refine AW.seq ?_
  refine AW.cond (b := _) rfl (fun hc1 => ?_) (fun hc1 => ?_)
  · skip
    cases hc1
  · skip
    refine AW.skip ?_
    refine thenN ?_
    refine AW.seq ?_
    refine AW.region ?_
    refine AOL.p (P_move (v := .int .u64 _) rfl) rfl ?_
    refine AOL.p (P_callf (by kernel_rfl) rfl rfl (k_Len64 n hn)) rfl ?_
    refine AOL.p (P_assign (v := .int .i64 _) rfl) rfl ?_
    refine AOL.nil ?_
    refine thenN ?_
    refine AW.ret ?_
    refine ⟨.inr rfl, [.int .i64 _], .cons (.tmp _ _ rfl) <| .nil, .refl _, ?_⟩
    rfl
set_option maxRecDepth 20000 in
set_option maxHeartbeats 3200000 in
theorem s_sortE_ins (bo cap : Nat) (J : List AV) (F : Nat) (hfn : fnB Try.prog F = true) (cmp : Ev → Ev → Int) (hf : ∀ x y : Ev, APure Try.prog F [.agg (cEv x), .agg (cEv y)] (.int .i64 (cmp x y))) (l : List Ev) (hl : l.length ≤ 12) : PCallS Try.prog 72 bo 30 (flat cEv l ++ J) (flat cEv (sortS ev0 (fun x y => decide (cmp x y < 0)) l) ++ J) [.val (.slice (some ⟨bo, 0, none⟩) l.length cap), .int .i64 0, .int .i64 l.length, .fn (.func F) [] []] (.tuple []) := by
  intro H
  refine ACall.body (n := 53) tok Try.func72 rfl rfl rfl ?_
  refine AW.ghostPost ?_
  refine AW.seq ?_
  refine AW.region ?_
  refine AOL.p (P_move (v := .int .i64 _) rfl) rfl ?_
  refine AOL.p (P_add rfl rfl rfl (by constructor <;> omega)) rfl ?_
  refine AOL.p (P_assign (v := .int .i64 _) rfl) rfl ?_
  refine AOL.nil ?_
  refine thenN ?_
  refine AW.block ?_
  refine AW.loopS (fun (p : Nat × List Ev) => (⟨[(0, .val (.slice (some ⟨bo, 0, none⟩) l.length cap)), (1, .int .i64 0), (2, .int .i64 l.length), (3, .fn (.func F) [] []), (8, .int .i64 (p.1 : Int))], .box bo 30 (flat cEv p.2 ++ J) :: H, 53⟩ : St)) (fun (p : Nat × List Ev) => 1 ≤ p.1 ∧ p.2.length = l.length ∧ outerS ev0 (fun x y => decide (cmp x y < 0)) (l.length - p.1) p.1 p.2 = sortS ev0 (fun x y => decide (cmp x y < 0)) l) (fun (p : Nat × List Ev) => l.length - p.1) ((1, l)) ?_ (GS.weaken ⟨rfl, rfl, rfl, rfl, rfl, trivial⟩ (.refl _)) ?_
  · exact ⟨Nat.le_refl _, rfl, rfl⟩
  · rintro p hR
    refine AW.seq ?_
    refine AW.seq ?_
    refine AW.region ?_
    refine AOL.p (P_move (v := .int .i64 _) rfl) rfl ?_
    refine AOL.p (P_move (v := .int .i64 _) rfl) rfl ?_
    refine AOL.p (P_lss rfl rfl) rfl ?_
    refine AOL.nil ?_
    refine thenN ?_
    refine AW.cond (b := _) rfl (fun hc1 => ?_) (fun hc1 => ?_)
    · skip
      have hpi := of_decide_eq_true hc1
      refine AW.skip ?_
      refine thenN ?_
      refine AW.seq ?_
      refine AW.block ?_
      refine AW.seq ?_
      refine AW.region ?_
      refine AOL.p (P_move (v := .int .i64 _) rfl) rfl ?_
      refine AOL.p (P_assign (v := .int .i64 _) rfl) rfl ?_
      refine AOL.nil ?_
      refine thenN ?_
      refine AW.block ?_
      refine AW.loopS (fun (q : Nat × List Ev) => (⟨[(0, .val (.slice (some ⟨bo, 0, none⟩) l.length cap)), (1, .int .i64 0), (2, .int .i64 l.length), (3, .fn (.func F) [] []), (8, .int .i64 (p.1 : Int)), (9, .int .i64 (q.1 : Int))], .box bo 30 (flat cEv q.2 ++ J) :: H, 53⟩ : St)) (fun (q : Nat × List Ev) => q.2.length = l.length ∧ q.1 < l.length ∧ innerS ev0 (fun x y => decide (cmp x y < 0)) q.1 q.2 = innerS ev0 (fun x y => decide (cmp x y < 0)) p.1 p.2) (fun (q : Nat × List Ev) => q.1) ((p.1, p.2)) ?_ (GS.weaken ⟨rfl, rfl, rfl, rfl, rfl, rfl, trivial⟩ (.refl _)) ?_
      · exact ⟨hR.2.1, by simp only; omega, rfl⟩
      · rintro q hQ
        have hql := hQ.1
        refine AW.seq ?_
        refine AW.seq ?_
        refine AW.draw mixed (fun H' => _ ∈ H') (List.mem_of_getElem? (i := 0) rfl) (by kernel_rfl) ?_
        refine Canon.pure _ _ 0 _ _ rfl (by kernel_rfl) (by kernel_rfl) rfl (.run rfl (P_move (v := .int .i64 _) rfl)) ?_
        refine Canon.pure _ _ 1 _ _ rfl (by kernel_rfl) (by kernel_rfl) rfl (.run rfl (P_move (v := .int .i64 _) rfl)) ?_
        refine Canon.pure _ _ 2 _ _ rfl (by kernel_rfl) (by kernel_rfl) rfl (.run rfl (P_gtr rfl rfl)) ?_
        refine Canon.pure _ _ 3 _ _ rfl (by kernel_rfl) (by kernel_rfl) rfl (.run rfl (P_move (v := .bool _) rfl)) ?_
        refine Canon.pure _ _ 4 _ _ rfl (by kernel_rfl) (by kernel_rfl) rfl (.opt _ (.fn _ _ _) [] rfl (EntL.all trivial) (fun hG => P_move (v := .fn _ _ _) rfl) rfl) ?_
        refine Canon.pure _ _ 5 _ _ rfl (by kernel_rfl) (by kernel_rfl) rfl (.opt _ (.val _) [] rfl (EntL.all trivial) (fun hG => P_move (v := .val _) rfl) rfl) ?_
        refine Canon.pure _ _ 6 _ _ rfl (by kernel_rfl) (by kernel_rfl) rfl (.opt _ (.int .i64 _) [] rfl (EntL.all trivial) (fun hG => P_move (v := .int .i64 _) rfl) rfl) ?_
        refine Canon.pure _ _ 7 _ _ rfl (by kernel_rfl) (by kernel_rfl) rfl (.opt _ (.val _) [(23, _), (24, _)] rfl (EntL.all ⟨Ent.self _ _, Ent.self _ _, trivial⟩) (fun hG => P_indexAddr_val (o' := q.1 * 5) tok rfl rfl rfl rfl rfl (by omega) (by omega) (by show 0 + (q.1 : Int).toNat * 5 = (q.1) * 5; rw [show (q.1 : Int).toNat = q.1 from by omega, Nat.zero_add])) rfl) ?_
        refine Canon.pure _ _ 8 _ _ rfl (by kernel_rfl) (by kernel_rfl) rfl (.opt _ (.agg _) [(25, _)] rfl (EntL.all ⟨Ent.self _ _, trivial⟩) (fun hG => OpP.mem (fun k => P_load_box_agg (k := k) (l := cEv ((q.2[q.1]?).getD ev0)) tok rfl rfl rfl (flat_at (c := cEv) (z := 5) cEv_len ev0 J q.2 (q.1) (by omega)) rfl) (fun _ h => h)) rfl) ?_
        refine Canon.pure _ _ 9 _ _ rfl (by kernel_rfl) (by kernel_rfl) rfl (.opt _ (.val _) [] rfl (EntL.all trivial) (fun hG => P_move (v := .val _) rfl) rfl) ?_
        refine Canon.pure _ _ 10 _ _ rfl (by kernel_rfl) (by kernel_rfl) rfl (.opt _ (.int .i64 _) [] rfl (EntL.all trivial) (fun hG => P_move (v := .int .i64 _) rfl) rfl) ?_
        refine Canon.pure _ _ 11 _ _ rfl (by kernel_rfl) (by kernel_rfl) rfl (.opt _ (.int .i64 _) [(28, _)] rfl (EntL.all ⟨Ent.self _ _, trivial⟩) (fun hG => P_sub rfl rfl rfl (by constructor <;> omega)) rfl) ?_
        refine Canon.pure _ _ 12 _ _ rfl (by kernel_rfl) (by kernel_rfl) rfl (.opt _ (.val _) [(27, _), (29, _)] rfl (EntL.all ⟨Ent.self _ _, Ent.self _ _, trivial⟩) (fun hG => P_indexAddr_val (o' := (q.1 - 1) * 5) tok rfl rfl rfl rfl rfl (by have h9 := of_decide_eq_true (guard_one hG); omega) (by have h9 := of_decide_eq_true (guard_one hG); omega) (by have h9 := of_decide_eq_true (guard_one hG); show 0 + ((q.1 : Int) - 1).toNat * 5 = (q.1 - 1) * 5; rw [show ((q.1 : Int) - 1).toNat = q.1 - 1 from by omega, Nat.zero_add])) rfl) ?_
        refine Canon.pure _ _ 13 _ _ rfl (by kernel_rfl) (by kernel_rfl) rfl (.opt _ (.agg _) [(30, _)] rfl (EntL.all ⟨Ent.self _ _, trivial⟩) (fun hG => OpP.mem (fun k => P_load_box_agg (k := k) (l := cEv ((q.2[q.1 - 1]?).getD ev0)) tok rfl rfl rfl (flat_at (c := cEv) (z := 5) cEv_len ev0 J q.2 (q.1 - 1) (by omega)) rfl) (fun _ h => h)) rfl) ?_
        refine Canon.pure _ _ 14 _ _ rfl (by kernel_rfl) (by kernel_rfl) rfl (.opt _ (.int .i64 _) [(26, _), (31, _), (22, _)] rfl (EntL.all ⟨Ent.self _ _, Ent.self _ _, Ent.self _ _, trivial⟩) (fun hG => P_call hfn rfl rfl rfl (hf _ _)) rfl) ?_
        refine Canon.pure _ _ 15 _ _ rfl (by kernel_rfl) (by kernel_rfl) rfl (.opt _ (.bool _) [(32, _)] rfl (EntL.all ⟨Ent.self _ _, trivial⟩) (fun hG => P_lss rfl rfl) rfl) ?_
        refine Canon.pure _ _ 16 _ _ rfl (by kernel_rfl) (by kernel_rfl) rfl (.run rfl (P_pick_and rfl rfl rfl)) ?_
        refine Canon.done _ _ (by kernel_rfl) ?_
        refine thenN ?_
        refine AW.cond (b := _) rfl (fun hc2 => ?_) (fun hc2 => ?_)
        · skip
          have hj0 : 0 < q.1 := by rw [Bool.and_eq_true] at hc2; have := of_decide_eq_true hc2.1; omega
          have hlt : (fun x y => decide (cmp x y < 0)) ((q.2[q.1]?).getD ev0) ((q.2[q.1 - 1]?).getD ev0) = true := by rw [Bool.and_eq_true] at hc2; exact hc2.2
          refine AW.skip ?_
          refine thenN ?_
          refine AW.seq ?_
          refine AW.block ?_
          refine AW.drawI mixed (fun j H' => (j == 9 || j == 13) = true → _ ∈ H') (fun _ _ => (List.mem_of_getElem? (i := 0) rfl)) (by kernel_rfl) ?_
          refine CanonI.pure _ _ 0 _ _ rfl (by kernel_rfl) (by kernel_rfl) rfl (.run rfl (P_move (v := .val _) rfl)) ?_
          refine CanonI.pure _ _ 1 _ _ rfl (by kernel_rfl) (by kernel_rfl) rfl (.run rfl (P_move (v := .int .i64 _) rfl)) ?_
          refine CanonI.pure _ _ 2 _ _ rfl (by kernel_rfl) (by kernel_rfl) rfl (.run rfl (P_move (v := .val _) rfl)) ?_
          refine CanonI.pure _ _ 3 _ _ rfl (by kernel_rfl) (by kernel_rfl) rfl (.run rfl (P_move (v := .int .i64 _) rfl)) ?_
          refine CanonI.pure _ _ 4 _ _ rfl (by kernel_rfl) (by kernel_rfl) rfl (.run rfl (P_sub rfl rfl rfl (by constructor <;> omega))) ?_
          refine CanonI.pure _ _ 5 _ _ rfl (by kernel_rfl) (by kernel_rfl) rfl (.run rfl (P_move (v := .val _) rfl)) ?_
          refine CanonI.pure _ _ 6 _ _ rfl (by kernel_rfl) (by kernel_rfl) rfl (.run rfl (P_move (v := .int .i64 _) rfl)) ?_
          refine CanonI.pure _ _ 7 _ _ rfl (by kernel_rfl) (by kernel_rfl) rfl (.run rfl (P_sub rfl rfl rfl (by constructor <;> omega))) ?_
          refine CanonI.pure _ _ 8 _ _ rfl (by kernel_rfl) (by kernel_rfl) rfl (.run rfl (P_indexAddr_val (o' := (q.1 - 1) * 5) tok rfl rfl rfl rfl rfl (by omega) (by omega) (by show 0 + ((q.1 : Int) - 1).toNat * 5 = (q.1 - 1) * 5; rw [show ((q.1 : Int) - 1).toNat = q.1 - 1 from by omega, Nat.zero_add]))) ?_
          refine CanonI.pure _ _ 9 _ _ rfl (by kernel_rfl) (by kernel_rfl) rfl (.run rfl (OpP.mem (fun k => P_load_box_agg (k := k) (l := cEv ((q.2[q.1 - 1]?).getD ev0)) tok rfl rfl rfl (flat_at (c := cEv) (z := 5) cEv_len ev0 J q.2 (q.1 - 1) (by omega)) rfl) (fun _ h => h rfl))) ?_
          refine CanonI.pure _ _ 10 _ _ rfl (by kernel_rfl) (by kernel_rfl) rfl (.run rfl (P_move (v := .val _) rfl)) ?_
          refine CanonI.pure _ _ 11 _ _ rfl (by kernel_rfl) (by kernel_rfl) rfl (.run rfl (P_move (v := .int .i64 _) rfl)) ?_
          refine CanonI.pure _ _ 12 _ _ rfl (by kernel_rfl) (by kernel_rfl) rfl (.run rfl (P_indexAddr_val (o' := q.1 * 5) tok rfl rfl rfl rfl rfl (by omega) (by omega) (by show 0 + (q.1 : Int).toNat * 5 = (q.1) * 5; rw [show (q.1 : Int).toNat = q.1 from by omega, Nat.zero_add]))) ?_
          refine CanonI.pure _ _ 13 _ _ rfl (by kernel_rfl) (by kernel_rfl) rfl (.run rfl (OpP.mem (fun k => P_load_box_agg (k := k) (l := cEv ((q.2[q.1]?).getD ev0)) tok rfl rfl rfl (flat_at (c := cEv) (z := 5) cEv_len ev0 J q.2 (q.1) (by omega)) rfl) (fun _ h => h rfl))) ?_
          refine CanonI.pure _ _ 14 _ _ rfl (by kernel_rfl) (by kernel_rfl) rfl (.run rfl (P_indexAddr_val (o' := q.1 * 5) tok rfl rfl rfl rfl rfl (by omega) (by omega) (by show 0 + (q.1 : Int).toNat * 5 = (q.1) * 5; rw [show (q.1 : Int).toNat = q.1 from by omega, Nat.zero_add]))) ?_
          refine CanonI.phase (fun _ _ => True) _ _ 15 _ _ rfl (by kernel_rfl) rfl rfl (E_store (k := 0) (v := .agg _) (cs' := _) (H2 := _ :: _) tok rfl rfl rfl rfl rfl rfl (ble_flat (c := cEv) (z := 5) cEv_len J (by first | omega | (simp only [List.length_set]; omega))) (setSeg_flat (c := cEv) (z := 5) cEv_len J _ _ (q.1) (by first | omega | (simp only [List.length_set]; omega))) rfl) (fun j _ _ hr _ _ hj => ?_) (fun _ _ _ _ => trivial) ?_
          · rcases (by simpa only [Bool.or_eq_true, beq_iff_eq, or_assoc] using hj : j = 9 ∨ j = 13) with rfl | rfl
            · exact Bool.noConfusion ((show reachB _ 7 _ 9 = true by kernel_rfl).symm.trans hr)
            · exact Bool.noConfusion ((show reachB _ 7 _ 13 = true by kernel_rfl).symm.trans hr)
          rintro _ _ ⟨rfl, rfl⟩
          refine CanonI.pure _ _ 16 _ _ rfl (by kernel_rfl) (by kernel_rfl) rfl (.run rfl (P_indexAddr_val (o' := (q.1 - 1) * 5) tok rfl rfl rfl rfl rfl (by omega) (by omega) (by show 0 + ((q.1 : Int) - 1).toNat * 5 = (q.1 - 1) * 5; rw [show ((q.1 : Int) - 1).toNat = q.1 - 1 from by omega, Nat.zero_add]))) ?_
          refine CanonI.eff _ _ 17 _ _ rfl (by kernel_rfl) rfl rfl (E_store (k := 0) (v := .agg _) (cs' := _) (H2 := _ :: _) tok rfl rfl rfl rfl rfl rfl (ble_flat (c := cEv) (z := 5) cEv_len J (by first | omega | (simp only [List.length_set]; omega))) (setSeg_flat (c := cEv) (z := 5) cEv_len J _ _ (q.1 - 1) (by first | omega | (simp only [List.length_set]; omega))) rfl) (fun _ _ _ _ => trivial) ?_
          rintro _ _ ⟨rfl, rfl⟩
          refine CanonI.done _ _ (by kernel_rfl) ?_
          refine blkN ?_
          refine thenN ?_
          refine AW.region ?_
          refine AOL.p (P_move (v := .int .i64 _) rfl) rfl ?_
          refine AOL.p (P_sub rfl rfl rfl (by constructor <;> omega)) rfl ?_
          refine AOL.p (P_assign (v := .int .i64 _) rfl) rfl ?_
          refine AOL.nil ?_
          refine thenN ?_
          refine ⟨(q.1 - 1, swS ev0 q.2 q.1), ?_, ?_, GS.trans (GS.cellsTo (H2 := _ :: _) 0 rfl ((by first | rfl | exact congrArg (fun x => flat cEv x ++ J) (List.set_comm _ _ (by omega)))) rfl) (GS.weaken ⟨rfl, rfl, rfl, rfl, rfl, congrArg (AV.int .i64) (by simp only; omega), trivial⟩ (.refl _))⟩
          · exact ⟨by rw [sw_len]; exact hQ.1, by simp only; omega, by rw [← hQ.2.2, inner_step hj0 hlt]⟩
          · simp only; omega
        · skip
          have hin : innerS ev0 (fun x y => decide (cmp x y < 0)) q.1 q.2 = q.2 := inner_stop fun h0 => by rw [Bool.and_eq_false_iff] at hc2; exact hc2.resolve_left (by rw [decide_eq_true (by omega)]; decide)
          refine AW.exit ?_
          refine thenE ?_
          refine thenE ?_
          refine blkHit ?_
          refine blkN ?_
          refine thenN ?_
          refine AW.region ?_
          refine AOL.p (P_move (v := .int .i64 _) rfl) rfl ?_
          refine AOL.p (P_add rfl rfl rfl (by constructor <;> omega)) rfl ?_
          refine AOL.p (P_assign (v := .int .i64 _) rfl) rfl ?_
          refine AOL.nil ?_
          refine thenN ?_
          refine ⟨(p.1 + 1, q.2), ?_, ?_, GS.weaken ⟨rfl, rfl, rfl, rfl, rfl, trivial⟩ (.refl _)⟩
          · exact ⟨by simp only; omega, hQ.1, by simp only; rw [← hR.2.2]; rw [outer_step (l := p.2) (i := p.1) (by omega), ← hQ.2.2, hin]⟩
          · simp only; omega
    · skip
      have hpi := of_decide_eq_false hc1
      have hend := hR.2.2
      rw [outer_stop (by omega)] at hend
      refine AW.exit ?_
      refine thenE ?_
      refine thenE ?_
      refine blkHit ?_
      refine ⟨_, GS.cellsTo (H2 := _ :: _) 0 rfl ((congrArg (fun x => flat cEv x ++ J) hend)) rfl, .inl rfl, [], .nil, _, .refl _, ?_⟩
      exact ⟨rfl, rfl⟩
set_option maxRecDepth 20000 in
set_option maxHeartbeats 1600000 in
theorem s_sortE_pdq (bo cap : Nat) (J : List AV) (F : Nat) (hfn : fnB Try.prog F = true) (cmp : Ev → Ev → Int) (hf : ∀ x y : Ev, APure Try.prog F [.agg (cEv x), .agg (cEv y)] (.int .i64 (cmp x y))) (l : List Ev) (hl : l.length ≤ 12) (n : Int) : PCallS Try.prog 56 bo 30 (flat cEv l ++ J) (flat cEv (sortS ev0 (fun x y => decide (cmp x y < 0)) l) ++ J) [.val (.slice (some ⟨bo, 0, none⟩) l.length cap), .int .i64 0, .int .i64 l.length, .int .i64 n, .fn (.func F) [] []] (.tuple []) := by
  intro H
  refine ACall.body (n := 148) tok Try.func56 rfl rfl rfl ?_
  refine AW.seq ?_
  refine AW.region ?_
  refine AOL.p (P_assign (v := .bool _) rfl) rfl ?_
  refine AOL.nil ?_
  refine thenN ?_
  refine AW.seq ?_
  refine AW.region ?_
  refine AOL.p (P_assign (v := .bool _) rfl) rfl ?_
  refine AOL.nil ?_
  refine thenN ?_
  refine AW.block ?_
  refine AW.loopS (fun (_ : Unit) => (⟨[(0, .val (.slice (some ⟨bo, 0, none⟩) l.length cap)), (1, .int .i64 0), (2, .int .i64 l.length), (4, .fn (.func F) [] [])], .box bo 30 (flat cEv l ++ J) :: H, 148⟩ : St)) (fun (_ : Unit) => True) (fun (_ : Unit) => 0) (()) ?_ (GS.weaken ⟨rfl, rfl, rfl, rfl, trivial⟩ (.refl _)) ?_
  · trivial
  · rintro _ _
    refine AW.block ?_
    refine AW.seq ?_
    refine AW.region ?_
    refine AOL.p (P_move (v := .int .i64 _) rfl) rfl ?_
    refine AOL.p (P_move (v := .int .i64 _) rfl) rfl ?_
    refine AOL.p (P_sub rfl rfl rfl (by constructor <;> omega)) rfl ?_
    refine AOL.p (P_assign (v := .int .i64 _) rfl) rfl ?_
    refine AOL.nil ?_
    refine thenN ?_
    refine AW.seq ?_
    refine AW.seq ?_
    refine AW.region ?_
    refine AOL.p (P_move (v := .int .i64 _) rfl) rfl ?_
    refine AOL.p (P_leq rfl rfl) rfl ?_
    refine AOL.nil ?_
    refine thenN ?_
    refine AW.cond (b := _) rfl (fun hc1 => ?_) (fun hc1 => ?_)
    · skip
      refine AW.seq ?_
      refine AW.region ?_
      refine AOL.p (P_move (v := .val _) rfl) rfl ?_
      refine AOL.p (P_move (v := .int .i64 _) rfl) rfl ?_
      refine AOL.p (P_move (v := .int .i64 _) rfl) rfl ?_
      refine AOL.p (P_move (v := .fn _ _ _) rfl) rfl ?_
      refine AOL.e (E_callf (by kernel_rfl) rfl rfl ((s_sortE_ins bo cap J F hfn cmp hf l hl).at (k := 0) (H2 := _ :: _) rfl rfl)) rfl ?_
      rintro _ _ ⟨rfl, rfl⟩
      refine AOL.nil ?_
      refine thenN ?_
      refine AW.ret ?_
      refine thenR ?_
      refine blkR ?_
      refine thenR ?_
      refine blkR ?_
      refine ⟨.inr rfl, [], .nil, _, .refl _, ?_⟩
      exact ⟨rfl, rfl⟩
    · skip
      have := of_decide_eq_false hc1; omega
set_option maxRecDepth 20000 in
set_option maxHeartbeats 1600000 in
theorem s_sortE_box (bo cap : Nat) (J : List AV) (F : Nat) (hfn : fnB Try.prog F = true) (cmp : Ev → Ev → Int) (hf : ∀ x y : Ev, APure Try.prog F [.agg (cEv x), .agg (cEv y)] (.int .i64 (cmp x y))) (l : List Ev) (hl : l.length ≤ 12) : PCallS Try.prog 40 bo 30 (flat cEv l ++ J) (flat cEv (sortS ev0 (fun x y => decide (cmp x y < 0)) l) ++ J) [.val (.slice (some ⟨bo, 0, none⟩) l.length cap), .fn (.func F) [] []] (.tuple []) := by
  intro H
  refine ACall.body (n := 14) tok Try.func40 rfl rfl rfl ?_
  refine AW.seq ?_
  refine AW.region ?_
  refine AOL.p (P_move (v := .val _) rfl) rfl ?_
  refine AOL.p (P_len_val tok rfl rfl rfl) rfl ?_
  refine AOL.p (P_assign (v := .int .i64 _) rfl) rfl ?_
  refine AOL.nil ?_
  refine thenN ?_
  refine AW.region ?_
  refine AOL.p (P_move (v := .val _) rfl) rfl ?_
  refine AOL.p (P_move (v := .int .i64 _) rfl) rfl ?_
  refine AOL.p (P_move (v := .int .i64 _) rfl) rfl ?_
  refine AOL.p (P_conv (m := (l.length : Int)) tok rfl rfl rfl rfl rfl (by rcases le12 hl with h | h | h | h | h | h | h | h | h | h | h | h | h <;> (rw [h]; rfl))) rfl ?_
  refine AOL.p (P_callf (by kernel_rfl) rfl rfl (k_Len l.length hl)) rfl ?_
  refine AOL.p (P_move (v := .fn _ _ _) rfl) rfl ?_
  refine AOL.e (E_callf (by kernel_rfl) rfl rfl ((s_sortE_pdq bo cap J F hfn cmp hf l hl _).at (k := 0) (H2 := _ :: _) rfl rfl)) rfl ?_
  rintro _ _ ⟨rfl, rfl⟩
  refine AOL.nil ?_
  refine ⟨.inl rfl, [], .nil, _, .refl _, ?_⟩
  exact ⟨rfl, rfl⟩
set_option maxRecDepth 20000 in
set_option maxHeartbeats 3200000 in
theorem s_sortV_ins (bo cap : Nat) (J : List AV) (F : Nat) (hfn : fnB Try.prog F = true) (cmp : Vl → Vl → Int) (hf : ∀ x y : Vl, APure Try.prog F [.agg (cV x), .agg (cV y)] (.int .i64 (cmp x y))) (l : List Vl) (hl : l.length ≤ 12) : PCallS Try.prog 57 bo 39 (flat cV l ++ J) (flat cV (sortS v0 (fun x y => decide (cmp x y < 0)) l) ++ J) [.val (.slice (some ⟨bo, 0, none⟩) l.length cap), .int .i64 0, .int .i64 l.length, .fn (.func F) [] []] (.tuple []) := by
  intro H
  refine ACall.body (n := 53) tok Try.func57 rfl rfl rfl ?_
  refine AW.ghostPost ?_
  refine AW.seq ?_
  refine AW.region ?_
  refine AOL.p (P_move (v := .int .i64 _) rfl) rfl ?_
  refine AOL.p (P_add rfl rfl rfl (by constructor <;> omega)) rfl ?_
  refine AOL.p (P_assign (v := .int .i64 _) rfl) rfl ?_
  refine AOL.nil ?_
  refine thenN ?_
  refine AW.block ?_
  refine AW.loopS (fun (p : Nat × List Vl) => (⟨[(0, .val (.slice (some ⟨bo, 0, none⟩) l.length cap)), (1, .int .i64 0), (2, .int .i64 l.length), (3, .fn (.func F) [] []), (8, .int .i64 (p.1 : Int))], .box bo 39 (flat cV p.2 ++ J) :: H, 53⟩ : St)) (fun (p : Nat × List Vl) => 1 ≤ p.1 ∧ p.2.length = l.length ∧ outerS v0 (fun x y => decide (cmp x y < 0)) (l.length - p.1) p.1 p.2 = sortS v0 (fun x y => decide (cmp x y < 0)) l) (fun (p : Nat × List Vl) => l.length - p.1) ((1, l)) ?_ (GS.weaken ⟨rfl, rfl, rfl, rfl, rfl, trivial⟩ (.refl _)) ?_
  · exact ⟨Nat.le_refl _, rfl, rfl⟩
  · rintro p hR
    refine AW.seq ?_
    refine AW.seq ?_
    refine AW.region ?_
    refine AOL.p (P_move (v := .int .i64 _) rfl) rfl ?_
    refine AOL.p (P_move (v := .int .i64 _) rfl) rfl ?_
    refine AOL.p (P_lss rfl rfl) rfl ?_
    refine AOL.nil ?_
    refine thenN ?_
    refine AW.cond (b := _) rfl (fun hc1 => ?_) (fun hc1 => ?_)
    · skip
      have hpi := of_decide_eq_true hc1
      refine AW.skip ?_
      refine thenN ?_
      refine AW.seq ?_
      refine AW.block ?_
      refine AW.seq ?_
      refine AW.region ?_
      refine AOL.p (P_move (v := .int .i64 _) rfl) rfl ?_
      refine AOL.p (P_assign (v := .int .i64 _) rfl) rfl ?_
      refine AOL.nil ?_
      refine thenN ?_
      refine AW.block ?_
      refine AW.loopS (fun (q : Nat × List Vl) => (⟨[(0, .val (.slice (some ⟨bo, 0, none⟩) l.length cap)), (1, .int .i64 0), (2, .int .i64 l.length), (3, .fn (.func F) [] []), (8, .int .i64 (p.1 : Int)), (9, .int .i64 (q.1 : Int))], .box bo 39 (flat cV q.2 ++ J) :: H, 53⟩ : St)) (fun (q : Nat × List Vl) => q.2.length = l.length ∧ q.1 < l.length ∧ innerS v0 (fun x y => decide (cmp x y < 0)) q.1 q.2 = innerS v0 (fun x y => decide (cmp x y < 0)) p.1 p.2) (fun (q : Nat × List Vl) => q.1) ((p.1, p.2)) ?_ (GS.weaken ⟨rfl, rfl, rfl, rfl, rfl, rfl, trivial⟩ (.refl _)) ?_
      · exact ⟨hR.2.1, by simp only; omega, rfl⟩
      · rintro q hQ
        have hql := hQ.1
        refine AW.seq ?_
        refine AW.seq ?_
        refine AW.draw mixed (fun H' => _ ∈ H') (List.mem_of_getElem? (i := 0) rfl) (by kernel_rfl) ?_
        refine Canon.pure _ _ 0 _ _ rfl (by kernel_rfl) (by kernel_rfl) rfl (.run rfl (P_move (v := .int .i64 _) rfl)) ?_
        refine Canon.pure _ _ 1 _ _ rfl (by kernel_rfl) (by kernel_rfl) rfl (.run rfl (P_move (v := .int .i64 _) rfl)) ?_
        refine Canon.pure _ _ 2 _ _ rfl (by kernel_rfl) (by kernel_rfl) rfl (.run rfl (P_gtr rfl rfl)) ?_
        refine Canon.pure _ _ 3 _ _ rfl (by kernel_rfl) (by kernel_rfl) rfl (.run rfl (P_move (v := .bool _) rfl)) ?_
        refine Canon.pure _ _ 4 _ _ rfl (by kernel_rfl) (by kernel_rfl) rfl (.opt _ (.fn _ _ _) [] rfl (EntL.all trivial) (fun hG => P_move (v := .fn _ _ _) rfl) rfl) ?_
        refine Canon.pure _ _ 5 _ _ rfl (by kernel_rfl) (by kernel_rfl) rfl (.opt _ (.val _) [] rfl (EntL.all trivial) (fun hG => P_move (v := .val _) rfl) rfl) ?_
        refine Canon.pure _ _ 6 _ _ rfl (by kernel_rfl) (by kernel_rfl) rfl (.opt _ (.int .i64 _) [] rfl (EntL.all trivial) (fun hG => P_move (v := .int .i64 _) rfl) rfl) ?_
        refine Canon.pure _ _ 7 _ _ rfl (by kernel_rfl) (by kernel_rfl) rfl (.opt _ (.val _) [(23, _), (24, _)] rfl (EntL.all ⟨Ent.self _ _, Ent.self _ _, trivial⟩) (fun hG => P_indexAddr_val (o' := q.1 * 3) tok rfl rfl rfl rfl rfl (by omega) (by omega) (by show 0 + (q.1 : Int).toNat * 3 = (q.1) * 3; rw [show (q.1 : Int).toNat = q.1 from by omega, Nat.zero_add])) rfl) ?_
        refine Canon.pure _ _ 8 _ _ rfl (by kernel_rfl) (by kernel_rfl) rfl (.opt _ (.agg _) [(25, _)] rfl (EntL.all ⟨Ent.self _ _, trivial⟩) (fun hG => OpP.mem (fun k => P_load_box_agg (k := k) (l := cV ((q.2[q.1]?).getD v0)) tok rfl rfl rfl (flat_at (c := cV) (z := 3) cV_len v0 J q.2 (q.1) (by omega)) rfl) (fun _ h => h)) rfl) ?_
        refine Canon.pure _ _ 9 _ _ rfl (by kernel_rfl) (by kernel_rfl) rfl (.opt _ (.val _) [] rfl (EntL.all trivial) (fun hG => P_move (v := .val _) rfl) rfl) ?_
        refine Canon.pure _ _ 10 _ _ rfl (by kernel_rfl) (by kernel_rfl) rfl (.opt _ (.int .i64 _) [] rfl (EntL.all trivial) (fun hG => P_move (v := .int .i64 _) rfl) rfl) ?_
        refine Canon.pure _ _ 11 _ _ rfl (by kernel_rfl) (by kernel_rfl) rfl (.opt _ (.int .i64 _) [(28, _)] rfl (EntL.all ⟨Ent.self _ _, trivial⟩) (fun hG => P_sub rfl rfl rfl (by constructor <;> omega)) rfl) ?_
        refine Canon.pure _ _ 12 _ _ rfl (by kernel_rfl) (by kernel_rfl) rfl (.opt _ (.val _) [(27, _), (29, _)] rfl (EntL.all ⟨Ent.self _ _, Ent.self _ _, trivial⟩) (fun hG => P_indexAddr_val (o' := (q.1 - 1) * 3) tok rfl rfl rfl rfl rfl (by have h9 := of_decide_eq_true (guard_one hG); omega) (by have h9 := of_decide_eq_true (guard_one hG); omega) (by have h9 := of_decide_eq_true (guard_one hG); show 0 + ((q.1 : Int) - 1).toNat * 3 = (q.1 - 1) * 3; rw [show ((q.1 : Int) - 1).toNat = q.1 - 1 from by omega, Nat.zero_add])) rfl) ?_
        refine Canon.pure _ _ 13 _ _ rfl (by kernel_rfl) (by kernel_rfl) rfl (.opt _ (.agg _) [(30, _)] rfl (EntL.all ⟨Ent.self _ _, trivial⟩) (fun hG => OpP.mem (fun k => P_load_box_agg (k := k) (l := cV ((q.2[q.1 - 1]?).getD v0)) tok rfl rfl rfl (flat_at (c := cV) (z := 3) cV_len v0 J q.2 (q.1 - 1) (by omega)) rfl) (fun _ h => h)) rfl) ?_
        refine Canon.pure _ _ 14 _ _ rfl (by kernel_rfl) (by kernel_rfl) rfl (.opt _ (.int .i64 _) [(26, _), (31, _), (22, _)] rfl (EntL.all ⟨Ent.self _ _, Ent.self _ _, Ent.self _ _, trivial⟩) (fun hG => P_call hfn rfl rfl rfl (hf _ _)) rfl) ?_
        refine Canon.pure _ _ 15 _ _ rfl (by kernel_rfl) (by kernel_rfl) rfl (.opt _ (.bool _) [(32, _)] rfl (EntL.all ⟨Ent.self _ _, trivial⟩) (fun hG => P_lss rfl rfl) rfl) ?_
        refine Canon.pure _ _ 16 _ _ rfl (by kernel_rfl) (by kernel_rfl) rfl (.run rfl (P_pick_and rfl rfl rfl)) ?_
        refine Canon.done _ _ (by kernel_rfl) ?_
        refine thenN ?_
        refine AW.cond (b := _) rfl (fun hc2 => ?_) (fun hc2 => ?_)
        · skip
          have hj0 : 0 < q.1 := by rw [Bool.and_eq_true] at hc2; have := of_decide_eq_true hc2.1; omega
          have hlt : (fun x y => decide (cmp x y < 0)) ((q.2[q.1]?).getD v0) ((q.2[q.1 - 1]?).getD v0) = true := by rw [Bool.and_eq_true] at hc2; exact hc2.2
          refine AW.skip ?_
          refine thenN ?_
          refine AW.seq ?_
          refine AW.block ?_
          refine AW.drawI mixed (fun j H' => (j == 9 || j == 13) = true → _ ∈ H') (fun _ _ => (List.mem_of_getElem? (i := 0) rfl)) (by kernel_rfl) ?_
          refine CanonI.pure _ _ 0 _ _ rfl (by kernel_rfl) (by kernel_rfl) rfl (.run rfl (P_move (v := .val _) rfl)) ?_
          refine CanonI.pure _ _ 1 _ _ rfl (by kernel_rfl) (by kernel_rfl) rfl (.run rfl (P_move (v := .int .i64 _) rfl)) ?_
          refine CanonI.pure _ _ 2 _ _ rfl (by kernel_rfl) (by kernel_rfl) rfl (.run rfl (P_move (v := .val _) rfl)) ?_
          refine CanonI.pure _ _ 3 _ _ rfl (by kernel_rfl) (by kernel_rfl) rfl (.run rfl (P_move (v := .int .i64 _) rfl)) ?_
          refine CanonI.pure _ _ 4 _ _ rfl (by kernel_rfl) (by kernel_rfl) rfl (.run rfl (P_sub rfl rfl rfl (by constructor <;> omega))) ?_
          refine CanonI.pure _ _ 5 _ _ rfl (by kernel_rfl) (by kernel_rfl) rfl (.run rfl (P_move (v := .val _) rfl)) ?_
          refine CanonI.pure _ _ 6 _ _ rfl (by kernel_rfl) (by kernel_rfl) rfl (.run rfl (P_move (v := .int .i64 _) rfl)) ?_
          refine CanonI.pure _ _ 7 _ _ rfl (by kernel_rfl) (by kernel_rfl) rfl (.run rfl (P_sub rfl rfl rfl (by constructor <;> omega))) ?_
          refine CanonI.pure _ _ 8 _ _ rfl (by kernel_rfl) (by kernel_rfl) rfl (.run rfl (P_indexAddr_val (o' := (q.1 - 1) * 3) tok rfl rfl rfl rfl rfl (by omega) (by omega) (by show 0 + ((q.1 : Int) - 1).toNat * 3 = (q.1 - 1) * 3; rw [show ((q.1 : Int) - 1).toNat = q.1 - 1 from by omega, Nat.zero_add]))) ?_
          refine CanonI.pure _ _ 9 _ _ rfl (by kernel_rfl) (by kernel_rfl) rfl (.run rfl (OpP.mem (fun k => P_load_box_agg (k := k) (l := cV ((q.2[q.1 - 1]?).getD v0)) tok rfl rfl rfl (flat_at (c := cV) (z := 3) cV_len v0 J q.2 (q.1 - 1) (by omega)) rfl) (fun _ h => h rfl))) ?_
          refine CanonI.pure _ _ 10 _ _ rfl (by kernel_rfl) (by kernel_rfl) rfl (.run rfl (P_move (v := .val _) rfl)) ?_
          refine CanonI.pure _ _ 11 _ _ rfl (by kernel_rfl) (by kernel_rfl) rfl (.run rfl (P_move (v := .int .i64 _) rfl)) ?_
          refine CanonI.pure _ _ 12 _ _ rfl (by kernel_rfl) (by kernel_rfl) rfl (.run rfl (P_indexAddr_val (o' := q.1 * 3) tok rfl rfl rfl rfl rfl (by omega) (by omega) (by show 0 + (q.1 : Int).toNat * 3 = (q.1) * 3; rw [show (q.1 : Int).toNat = q.1 from by omega, Nat.zero_add]))) ?_
          refine CanonI.pure _ _ 13 _ _ rfl (by kernel_rfl) (by kernel_rfl) rfl (.run rfl (OpP.mem (fun k => P_load_box_agg (k := k) (l := cV ((q.2[q.1]?).getD v0)) tok rfl rfl rfl (flat_at (c := cV) (z := 3) cV_len v0 J q.2 (q.1) (by omega)) rfl) (fun _ h => h rfl))) ?_
          refine CanonI.pure _ _ 14 _ _ rfl (by kernel_rfl) (by kernel_rfl) rfl (.run rfl (P_indexAddr_val (o' := q.1 * 3) tok rfl rfl rfl rfl rfl (by omega) (by omega) (by show 0 + (q.1 : Int).toNat * 3 = (q.1) * 3; rw [show (q.1 : Int).toNat = q.1 from by omega, Nat.zero_add]))) ?_
          refine CanonI.phase (fun _ _ => True) _ _ 15 _ _ rfl (by kernel_rfl) rfl rfl (E_store (k := 0) (v := .agg _) (cs' := _) (H2 := _ :: _) tok rfl rfl rfl rfl rfl rfl (ble_flat (c := cV) (z := 3) cV_len J (by first | omega | (simp only [List.length_set]; omega))) (setSeg_flat (c := cV) (z := 3) cV_len J _ _ (q.1) (by first | omega | (simp only [List.length_set]; omega))) rfl) (fun j _ _ hr _ _ hj => ?_) (fun _ _ _ _ => trivial) ?_
          · rcases (by simpa only [Bool.or_eq_true, beq_iff_eq, or_assoc] using hj : j = 9 ∨ j = 13) with rfl | rfl
            · exact Bool.noConfusion ((show reachB _ 7 _ 9 = true by kernel_rfl).symm.trans hr)
            · exact Bool.noConfusion ((show reachB _ 7 _ 13 = true by kernel_rfl).symm.trans hr)
          rintro _ _ ⟨rfl, rfl⟩
          refine CanonI.pure _ _ 16 _ _ rfl (by kernel_rfl) (by kernel_rfl) rfl (.run rfl (P_indexAddr_val (o' := (q.1 - 1) * 3) tok rfl rfl rfl rfl rfl (by omega) (by omega) (by show 0 + ((q.1 : Int) - 1).toNat * 3 = (q.1 - 1) * 3; rw [show ((q.1 : Int) - 1).toNat = q.1 - 1 from by omega, Nat.zero_add]))) ?_
          refine CanonI.eff _ _ 17 _ _ rfl (by kernel_rfl) rfl rfl (E_store (k := 0) (v := .agg _) (cs' := _) (H2 := _ :: _) tok rfl rfl rfl rfl rfl rfl (ble_flat (c := cV) (z := 3) cV_len J (by first | omega | (simp only [List.length_set]; omega))) (setSeg_flat (c := cV) (z := 3) cV_len J _ _ (q.1 - 1) (by first | omega | (simp only [List.length_set]; omega))) rfl) (fun _ _ _ _ => trivial) ?_
          rintro _ _ ⟨rfl, rfl⟩
          refine CanonI.done _ _ (by kernel_rfl) ?_
          refine blkN ?_
          refine thenN ?_
          refine AW.region ?_
          refine AOL.p (P_move (v := .int .i64 _) rfl) rfl ?_
          refine AOL.p (P_sub rfl rfl rfl (by constructor <;> omega)) rfl ?_
          refine AOL.p (P_assign (v := .int .i64 _) rfl) rfl ?_
          refine AOL.nil ?_
          refine thenN ?_
          refine ⟨(q.1 - 1, swS v0 q.2 q.1), ?_, ?_, GS.trans (GS.cellsTo (H2 := _ :: _) 0 rfl ((by first | rfl | exact congrArg (fun x => flat cV x ++ J) (List.set_comm _ _ (by omega)))) rfl) (GS.weaken ⟨rfl, rfl, rfl, rfl, rfl, congrArg (AV.int .i64) (by simp only; omega), trivial⟩ (.refl _))⟩
          · exact ⟨by rw [sw_len]; exact hQ.1, by simp only; omega, by rw [← hQ.2.2, inner_step hj0 hlt]⟩
          · simp only; omega
        · skip
          have hin : innerS v0 (fun x y => decide (cmp x y < 0)) q.1 q.2 = q.2 := inner_stop fun h0 => by rw [Bool.and_eq_false_iff] at hc2; exact hc2.resolve_left (by rw [decide_eq_true (by omega)]; decide)
          refine AW.exit ?_
          refine thenE ?_
          refine thenE ?_
          refine blkHit ?_
          refine blkN ?_
          refine thenN ?_
          refine AW.region ?_
          refine AOL.p (P_move (v := .int .i64 _) rfl) rfl ?_
          refine AOL.p (P_add rfl rfl rfl (by constructor <;> omega)) rfl ?_
          refine AOL.p (P_assign (v := .int .i64 _) rfl) rfl ?_
          refine AOL.nil ?_
          refine thenN ?_
          refine ⟨(p.1 + 1, q.2), ?_, ?_, GS.weaken ⟨rfl, rfl, rfl, rfl, rfl, trivial⟩ (.refl _)⟩
          · exact ⟨by simp only; omega, hQ.1, by simp only; rw [← hR.2.2]; rw [outer_step (l := p.2) (i := p.1) (by omega), ← hQ.2.2, hin]⟩
          · simp only; omega
    · skip
      have hpi := of_decide_eq_false hc1
      have hend := hR.2.2
      rw [outer_stop (by omega)] at hend
      refine AW.exit ?_
      refine thenE ?_
      refine thenE ?_
      refine blkHit ?_
      refine ⟨_, GS.cellsTo (H2 := _ :: _) 0 rfl ((congrArg (fun x => flat cV x ++ J) hend)) rfl, .inl rfl, [], .nil, _, .refl _, ?_⟩
      exact ⟨rfl, rfl⟩
set_option maxRecDepth 20000 in
set_option maxHeartbeats 1600000 in
theorem s_sortV_pdq (bo cap : Nat) (J : List AV) (F : Nat) (hfn : fnB Try.prog F = true) (cmp : Vl → Vl → Int) (hf : ∀ x y : Vl, APure Try.prog F [.agg (cV x), .agg (cV y)] (.int .i64 (cmp x y))) (l : List Vl) (hl : l.length ≤ 12) (n : Int) : PCallS Try.prog 42 bo 39 (flat cV l ++ J) (flat cV (sortS v0 (fun x y => decide (cmp x y < 0)) l) ++ J) [.val (.slice (some ⟨bo, 0, none⟩) l.length cap), .int .i64 0, .int .i64 l.length, .int .i64 n, .fn (.func F) [] []] (.tuple []) := by
  intro H
  refine ACall.body (n := 148) tok Try.func42 rfl rfl rfl ?_
  refine AW.seq ?_
  refine AW.region ?_
  refine AOL.p (P_assign (v := .bool _) rfl) rfl ?_
  refine AOL.nil ?_
  refine thenN ?_
  refine AW.seq ?_
  refine AW.region ?_
  refine AOL.p (P_assign (v := .bool _) rfl) rfl ?_
  refine AOL.nil ?_
  refine thenN ?_
  refine AW.block ?_
  refine AW.loopS (fun (_ : Unit) => (⟨[(0, .val (.slice (some ⟨bo, 0, none⟩) l.length cap)), (1, .int .i64 0), (2, .int .i64 l.length), (4, .fn (.func F) [] [])], .box bo 39 (flat cV l ++ J) :: H, 148⟩ : St)) (fun (_ : Unit) => True) (fun (_ : Unit) => 0) (()) ?_ (GS.weaken ⟨rfl, rfl, rfl, rfl, trivial⟩ (.refl _)) ?_
  · trivial
  · rintro _ _
    refine AW.block ?_
    refine AW.seq ?_
    refine AW.region ?_
    refine AOL.p (P_move (v := .int .i64 _) rfl) rfl ?_
    refine AOL.p (P_move (v := .int .i64 _) rfl) rfl ?_
    refine AOL.p (P_sub rfl rfl rfl (by constructor <;> omega)) rfl ?_
    refine AOL.p (P_assign (v := .int .i64 _) rfl) rfl ?_
    refine AOL.nil ?_
    refine thenN ?_
    refine AW.seq ?_
    refine AW.seq ?_
    refine AW.region ?_
    refine AOL.p (P_move (v := .int .i64 _) rfl) rfl ?_
    refine AOL.p (P_leq rfl rfl) rfl ?_
    refine AOL.nil ?_
    refine thenN ?_
    refine AW.cond (b := _) rfl (fun hc1 => ?_) (fun hc1 => ?_)
    · skip
      refine AW.seq ?_
      refine AW.region ?_
      refine AOL.p (P_move (v := .val _) rfl) rfl ?_
      refine AOL.p (P_move (v := .int .i64 _) rfl) rfl ?_
      refine AOL.p (P_move (v := .int .i64 _) rfl) rfl ?_
      refine AOL.p (P_move (v := .fn _ _ _) rfl) rfl ?_
      refine AOL.e (E_callf (by kernel_rfl) rfl rfl ((s_sortV_ins bo cap J F hfn cmp hf l hl).at (k := 0) (H2 := _ :: _) rfl rfl)) rfl ?_
      rintro _ _ ⟨rfl, rfl⟩
      refine AOL.nil ?_
      refine thenN ?_
      refine AW.ret ?_
      refine thenR ?_
      refine blkR ?_
      refine thenR ?_
      refine blkR ?_
      refine ⟨.inr rfl, [], .nil, _, .refl _, ?_⟩
      exact ⟨rfl, rfl⟩
    · skip
      have := of_decide_eq_false hc1; omega
set_option maxRecDepth 20000 in
set_option maxHeartbeats 1600000 in
theorem s_sortV_box (bo cap : Nat) (J : List AV) (F : Nat) (hfn : fnB Try.prog F = true) (cmp : Vl → Vl → Int) (hf : ∀ x y : Vl, APure Try.prog F [.agg (cV x), .agg (cV y)] (.int .i64 (cmp x y))) (l : List Vl) (hl : l.length ≤ 12) : PCallS Try.prog 23 bo 39 (flat cV l ++ J) (flat cV (sortS v0 (fun x y => decide (cmp x y < 0)) l) ++ J) [.val (.slice (some ⟨bo, 0, none⟩) l.length cap), .fn (.func F) [] []] (.tuple []) := by
  intro H
  refine ACall.body (n := 14) tok Try.func23 rfl rfl rfl ?_
  refine AW.seq ?_
  refine AW.region ?_
  refine AOL.p (P_move (v := .val _) rfl) rfl ?_
  refine AOL.p (P_len_val tok rfl rfl rfl) rfl ?_
  refine AOL.p (P_assign (v := .int .i64 _) rfl) rfl ?_
  refine AOL.nil ?_
  refine thenN ?_
  refine AW.region ?_
  refine AOL.p (P_move (v := .val _) rfl) rfl ?_
  refine AOL.p (P_move (v := .int .i64 _) rfl) rfl ?_
  refine AOL.p (P_move (v := .int .i64 _) rfl) rfl ?_
  refine AOL.p (P_conv (m := (l.length : Int)) tok rfl rfl rfl rfl rfl (by rcases le12 hl with h | h | h | h | h | h | h | h | h | h | h | h | h <;> (rw [h]; rfl))) rfl ?_
  refine AOL.p (P_callf (by kernel_rfl) rfl rfl (k_Len l.length hl)) rfl ?_
  refine AOL.p (P_move (v := .fn _ _ _) rfl) rfl ?_
  refine AOL.e (E_callf (by kernel_rfl) rfl rfl ((s_sortV_pdq bo cap J F hfn cmp hf l hl _).at (k := 0) (H2 := _ :: _) rfl rfl)) rfl ?_
  rintro _ _ ⟨rfl, rfl⟩
  refine AOL.nil ?_
  refine ⟨.inl rfl, [], .nil, _, .refl _, ?_⟩
  exact ⟨rfl, rfl⟩

end Go.Proofs.Ytfpbgdjloccdbaa
