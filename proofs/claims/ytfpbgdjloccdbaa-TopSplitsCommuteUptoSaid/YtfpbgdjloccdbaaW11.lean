/-
  Walks of streams: joined, merged, inversions. No condition.
-/
import Derived.Test.YtfpbgdjloccdbaaW10
import Derived.KernelRfl
namespace Go.Proofs.Ytfpbgdjloccdbaa
open Go Go.Aw
set_option linter.unusedVariables false
set_option linter.unusedSimpArgs false

set_option maxRecDepth 20000 in
set_option maxHeartbeats 1600000 in
theorem k_Concat (ls : List (List Ev)) (hs : (ls.map List.length).sum ≤ 1048576) : APure Try.prog 47 [.sl 1 (ls.map cLs)] (.sl 5 (ls.flatten.map cEv)) := by
  refine APure.body (n := 36) tok Try.func47 rfl rfl rfl fun H => ?_
  refine AW.seq ?_
  refine AW.region ?_
  refine AOL.p (P_assign_nil (z := 5) rfl) rfl ?_
  refine AOL.nil ?_
  refine thenN ?_
  refine AW.seq ?_
  refine AW.region ?_
  refine AOL.p (P_assign (v := .int .i64 _) rfl) rfl ?_
  refine AOL.nil ?_
  refine thenN ?_
  refine AW.seq ?_
  refine AW.seq ?_
  refine AW.region ?_
  refine AOL.p (P_move (v := .sl _ _) rfl) rfl ?_
  refine AOL.p (P_len_sl (n := ls.length) tok rfl rfl rfl (by simp)) rfl ?_
  refine AOL.p (P_move (v := .int .i64 _) rfl) rfl ?_
  refine AOL.nil ?_
  refine thenN ?_
  refine AW.block ?_
  refine AW.sllen 9 rfl fun hlen => ?_
  simp only [List.length_map, maxLen] at hlen
  refine AW.loopS (fun (k : Nat) => (⟨[(0, .sl 1 (ls.map cLs)), (3, .int .i64 ((((ls.take k).map List.length).sum : Nat) : Int)), (9, .sl 1 (ls.map cLs)), (10, .int .i64 ls.length), (11, .int .i64 (k : Int))], H, 36⟩ : St)) (fun (k : Nat) => k ≤ ls.length) (fun (k : Nat) => ls.length - k) (0) ?_ (GS.weaken ⟨rfl, rfl, rfl, rfl, rfl, trivial⟩ (.refl _)) ?_
  · exact Nat.zero_le _
  · rintro k hk
    refine AW.seq ?_
    refine AW.region ?_
    refine AOL.p (P_lss rfl rfl) rfl ?_
    refine AOL.nil ?_
    refine thenN ?_
    refine AW.seq ?_
    refine AW.cond (b := _) rfl (fun hc1 => ?_) (fun hc1 => ?_)
    · skip
      obtain ⟨a, ha⟩ := get_lt hc1
      have hlt := get_lt' ha
      have hm := List.mem_of_getElem? ha
      have hst := sum_take ha
      have hsl := sum_le (ls := ls) (k + 1)
      refine AW.skip ?_
      refine thenN ?_
      refine AW.seq ?_
      refine AW.block ?_
      refine AW.seq ?_
      refine AW.region ?_
      refine AOL.p (P_indexAddr (c := [_]) tok rfl rfl rfl rfl rfl rfl (by omega) (map_at ha)) rfl ?_
      refine AOL.p (P_load_ptr (c := .sl _ _) tok rfl rfl rfl) rfl ?_
      refine AOL.p (P_assign (v := .sl _ _) rfl) rfl ?_
      refine AOL.nil ?_
      refine thenN ?_
      refine AW.seq ?_
      refine AW.region ?_
      refine AOL.p (P_move (v := .int .i64 _) rfl) rfl ?_
      refine AOL.p (P_move (v := .sl _ _) rfl) rfl ?_
      refine AOL.p (P_len_sl (n := a.length) tok rfl rfl rfl (by simp)) rfl ?_
      refine AOL.p (P_add rfl rfl rfl (by constructor <;> omega)) rfl ?_
      refine AOL.p (P_assign (v := .int .i64 _) rfl) rfl ?_
      refine AOL.nil ?_
      refine thenN ?_
      refine AW.seq ?_
      refine AW.region ?_
      refine AOL.p (P_move (v := .int .i64 _) rfl) rfl ?_
      refine AOL.p (P_lss rfl rfl) rfl ?_
      refine AOL.nil ?_
      refine thenN ?_
      refine AW.cond (b := _) rfl (fun hc2 => ?_) (fun hc2 => ?_)
      · skip
        have := of_decide_eq_true hc2; omega
      · skip
        refine AW.skip ?_
        refine blkN ?_
        refine thenN ?_
        refine AW.region ?_
        refine AOL.p (P_add rfl rfl rfl (by constructor <;> omega)) rfl ?_
        refine AOL.p (P_move (v := .int .i64 _) rfl) rfl ?_
        refine AOL.nil ?_
        refine thenN ?_
        refine ⟨k + 1, ?_, ?_, GS.weaken ⟨rfl, congrArg (AV.int .i64) (by rw [hst]; rfl), rfl, rfl, rfl, trivial⟩ (.refl _)⟩
        · exact hlt
        · omega
    · skip
      have hsl := sum_le (ls := ls) k
      refine AW.exit ?_
      refine thenE ?_
      refine thenE ?_
      refine blkHit ?_
      refine thenN ?_
      refine AW.seq ?_
      refine AW.region ?_
      refine AOL.p (P_move (v := .int .i64 _) rfl) rfl ?_
      refine AOL.e (E_callf (by kernel_rfl) rfl rfl (k_Grow ((ls.take k).map List.length).sum (by omega) _)) rfl ?_
      rintro _ _ ⟨v9, rfl, rfl⟩
      refine AOL.p (P_assign (v := .row _ _ _) rfl) rfl ?_
      refine AOL.nil ?_
      refine thenN ?_
      refine AW.seq ?_
      refine AW.seq ?_
      refine AW.region ?_
      refine AOL.p (P_move (v := .sl _ _) rfl) rfl ?_
      refine AOL.p (P_len_sl (n := ls.length) tok rfl rfl rfl (by simp)) rfl ?_
      refine AOL.p (P_move (v := .int .i64 _) rfl) rfl ?_
      refine AOL.nil ?_
      refine thenN ?_
      refine AW.block ?_
      refine AW.sllen 25 rfl fun hlen => ?_
      simp only [List.length_map, maxLen] at hlen
      refine AW.loopS (fun (p : Nat × List (List AV) × Value) => (⟨[(6, .row p.2.2 5 p.2.1), (25, .sl 1 (ls.map cLs)), (26, .int .i64 ls.length), (27, .int .i64 (p.1 : Int))], .row p.2.2 p.2.1.length 30 5 :: H, 36⟩ : St)) (fun (p : Nat × List (List AV) × Value) => p.1 ≤ ls.length ∧ p.2.1 = ((ls.take p.1).flatten).map cEv) (fun (p : Nat × List (List AV) × Value) => ls.length - p.1) ((0, [], v9)) ?_ (GS.weaken ⟨rfl, rfl, rfl, rfl, trivial⟩ (.refl _)) ?_
      · exact ⟨Nat.zero_le _, rfl⟩
      · rintro p hR
        have hsc : ∀ c ∈ p.2.1, scalars c = true := by rw [hR.2]; exact sc_map fun _ => rfl
        have hel : p.2.1.length = ((ls.take p.1).map List.length).sum := by rw [hR.2, List.length_map, List.length_flatten]
        have hsl0 := sum_le (ls := ls) p.1
        refine AW.seq ?_
        refine AW.region ?_
        refine AOL.p (P_lss rfl rfl) rfl ?_
        refine AOL.nil ?_
        refine thenN ?_
        refine AW.seq ?_
        refine AW.cond (b := _) rfl (fun hc3 => ?_) (fun hc3 => ?_)
        · skip
          obtain ⟨a, ha⟩ := get_lt hc3
          have hlt := get_lt' ha
          have hm := List.mem_of_getElem? ha
          have hst := sum_take ha
          have hsl := sum_le (ls := ls) (p.1 + 1)
          refine AW.skip ?_
          refine thenN ?_
          refine AW.seq ?_
          refine AW.block ?_
          refine AW.seq ?_
          refine AW.region ?_
          refine AOL.p (P_indexAddr (c := [_]) tok rfl rfl rfl rfl rfl rfl (by omega) (map_at ha)) rfl ?_
          refine AOL.p (P_load_ptr (c := .sl _ _) tok rfl rfl rfl) rfl ?_
          refine AOL.p (P_assign (v := .sl _ _) rfl) rfl ?_
          refine AOL.nil ?_
          refine thenN ?_
          refine AW.region ?_
          refine AOL.p (P_move (v := .row _ _ _) rfl) rfl ?_
          refine AOL.p (P_move (v := .sl _ _) rfl) rfl ?_
          refine AOL.e (E_append (k := 0) tok rfl rfl rfl rfl rfl rfl rfl rfl (sc_map fun _ => rfl) (hsc) (by simp; omega) (by simp [maxLen]; omega)) rfl ?_
          rintro _ _ ⟨v33, rfl, rfl⟩
          refine AOL.p (P_assign (v := .row _ _ _) rfl) rfl ?_
          refine AOL.nil ?_
          refine blkN ?_
          refine thenN ?_
          refine AW.region ?_
          refine AOL.p (P_add rfl rfl rfl (by constructor <;> omega)) rfl ?_
          refine AOL.p (P_move (v := .int .i64 _) rfl) rfl ?_
          refine AOL.nil ?_
          refine thenN ?_
          refine ⟨(p.1 + 1, p.2.1 ++ a.map cEv, v33), ?_, ?_, GS.weaken ⟨rfl, rfl, rfl, rfl, trivial⟩ (.refl _)⟩
          · exact ⟨hlt, by simp only; rw [flat_take ha, List.map_append, hR.2]⟩
          · simp only; omega
        · skip
          have hd : ls.take p.1 = ls := take_end hc3
          refine AW.exit ?_
          refine thenE ?_
          refine thenE ?_
          refine blkHit ?_
          refine thenN ?_
          refine AW.seq ?_
          refine AW.region ?_
          refine AOL.ghost (GS.unrow 6 rfl) ?_
          refine AOL.p (P_move (v := .sl _ _) rfl) rfl ?_
          refine AOL.p (P_assign (v := .sl _ _) rfl) rfl ?_
          refine AOL.nil ?_
          refine thenN ?_
          refine AW.ret ?_
          refine ⟨.inr rfl, [.sl _ _], .cons (.tmp _ _ rfl) <| .nil, .cons _ (.refl _), ?_⟩
          rw [hd] at hR
          exact congrArg (AV.sl 5) hR.2
theorem k_Concat2 (a b : List Ev) (h : a.length + b.length ≤ 1048576) : APure Try.prog 47 [.sl 1 [[.sl 5 (a.map cEv)], [.sl 5 (b.map cEv)]]] (.sl 5 ((a ++ b).map cEv)) := by
  have := k_Concat [a, b] (by simpa using h)
  have e : [a, b].flatten = a ++ b := by simp
  rw [e] at this
  exact this
set_option maxRecDepth 20000 in
set_option maxHeartbeats 800000 in
theorem s_joined (a b : List Ev) (hl : a.length + b.length ≤ 12) (hv : ∀ e ∈ a ++ b, e.values.length ≤ 1048576) : APure Try.prog 26 [.sl 5 (a.map cEv), .sl 5 (b.map cEv)] (.tuple [.sl 5 ((concE a b).1.map cEv), .int .i64 (concE a b).2]) := by
  refine APure.body (n := 24) tok Try.func26 rfl rfl rfl fun H => ?_
  refine AW.seq ?_
  refine AW.region ?_
  refine AOL.p (P_assign_nil (z := 5) rfl) rfl ?_
  refine AOL.p (P_assign (v := .int .i64 _) rfl) rfl ?_
  refine AOL.nil ?_
  refine thenN ?_
  refine AW.seq ?_
  refine AW.region ?_
  refine AOL.p (P_move (v := .sl _ _) rfl) rfl ?_
  refine AOL.p (P_move (v := .sl _ _) rfl) rfl ?_
  refine AOL.p (P_buildSlice (es := [[_], [_]]) tok rfl rfl rfl rfl rfl rfl rfl rfl rfl) rfl ?_
  refine AOL.p (P_callf (by kernel_rfl) rfl rfl (k_Concat2 a b (by omega))) rfl ?_
  refine AOL.p (P_callf (by kernel_rfl) rfl rfl (s_sorted (a ++ b) (by rw [List.length_append]; omega) hv)) rfl ?_
  refine AOL.p (P_move (v := .tuple _) rfl) rfl ?_
  refine AOL.p (P_extract (v := .sl _ _) rfl rfl) rfl ?_
  refine AOL.p (P_extract (v := .bool _) rfl rfl) rfl ?_
  refine AOL.p (P_assign (v := .sl _ _) rfl) rfl ?_
  refine AOL.p (P_assign (v := .bool _) rfl) rfl ?_
  refine AOL.nil ?_
  refine thenN ?_
  refine AW.seq ?_
  refine AW.block ?_
  refine AW.seq ?_
  refine AW.region ?_
  refine AOL.p (P_move (v := .bool _) rfl) rfl ?_
  refine AOL.p (P_not rfl) rfl ?_
  refine AOL.p (P_assign (v := .bool _) rfl) rfl ?_
  refine AOL.nil ?_
  refine thenN ?_
  refine AW.cond (b := _) rfl (fun hc1 => ?_) (fun hc1 => ?_)
  · skip
    refine AW.seq ?_
    refine AW.region ?_
    refine AOL.p (P_assign_nil (z := 5) rfl) rfl ?_
    refine AOL.p (P_assign (v := .int .i64 _) rfl) rfl ?_
    refine AOL.nil ?_
    refine thenN ?_
    refine AW.ret ?_
    refine blkR ?_
    refine thenR ?_
    refine ⟨.inr rfl, [.sl _ _, .int .i64 _], .cons (.tmp _ _ rfl) <| .cons (.tmp _ _ rfl) <| .nil, .refl _, ?_⟩
    rw [conc_no hc1]; rfl
  · skip
    refine AW.seq ?_
    refine AW.region ?_
    refine AOL.p (P_move (v := .sl _ _) rfl) rfl ?_
    refine AOL.p (P_len_sl (n := (sortedR (a ++ b)).1.length) tok rfl rfl rfl (by simp)) rfl ?_
    refine AOL.p (P_gtr rfl rfl) rfl ?_
    refine AOL.p (P_assign (v := .bool _) rfl) rfl ?_
    refine AOL.nil ?_
    refine thenN ?_
    refine AW.cond (b := _) rfl (fun hc2 => ?_) (fun hc2 => ?_)
    · skip
      refine AW.seq ?_
      refine AW.region ?_
      refine AOL.p (P_assign_nil (z := 5) rfl) rfl ?_
      refine AOL.p (P_assign (v := .int .i64 _) rfl) rfl ?_
      refine AOL.nil ?_
      refine thenN ?_
      refine AW.ret ?_
      refine blkR ?_
      refine thenR ?_
      refine ⟨.inr rfl, [.sl _ _, .int .i64 _], .cons (.tmp _ _ rfl) <| .cons (.tmp _ _ rfl) <| .nil, .refl _, ?_⟩
      rw [conc_many hc1 hc2]; rfl
    · skip
      refine AW.skip ?_
      refine blkN ?_
      refine thenN ?_
      refine AW.seq ?_
      refine AW.region ?_
      refine AOL.p (P_move (v := .sl _ _) rfl) rfl ?_
      refine AOL.p (P_assign (v := .sl _ _) rfl) rfl ?_
      refine AOL.p (P_assign (v := .int .i64 _) rfl) rfl ?_
      refine AOL.nil ?_
      refine thenN ?_
      refine AW.ret ?_
      refine ⟨.inr rfl, [.sl _ _, .int .i64 _], .cons (.tmp _ _ rfl) <| .cons (.tmp _ _ rfl) <| .nil, .refl _, ?_⟩
      rw [conc_yes hc1 hc2]; rfl
set_option maxRecDepth 20000 in
set_option maxHeartbeats 800000 in
theorem s_Merge (a b : List Ev) (hl : a.length + b.length ≤ 12) (hv : ∀ e ∈ a ++ b, e.values.length ≤ 1048576) : APure Try.prog 12 [.sl 5 (a.map cEv), .sl 5 (b.map cEv)] (.tuple [.sl 5 ((mergeE a b).1.map cEv), .int .i64 (mergeE a b).2]) := by
  refine APure.body (n := 23) tok Try.func12 rfl rfl rfl fun H => ?_
  refine AW.seq ?_
  refine AW.region ?_
  refine AOL.p (P_assign_nil (z := 5) rfl) rfl ?_
  refine AOL.p (P_assign (v := .int .i64 _) rfl) rfl ?_
  refine AOL.nil ?_
  refine thenN ?_
  refine AW.seq ?_
  refine AW.seq ?_
  refine AW.region ?_
  refine AOL.p (P_move (v := .sl _ _) rfl) rfl ?_
  refine AOL.p (P_callf (by kernel_rfl) rfl rfl (s_Check a)) rfl ?_
  refine AOL.p (P_assign (v := .int .i64 _) rfl) rfl ?_
  refine AOL.nil ?_
  refine thenN ?_
  refine AW.seq ?_
  refine AW.region ?_
  refine AOL.p (P_move (v := .int .i64 _) rfl) rfl ?_
  refine AOL.p (P_neq rfl rfl) rfl ?_
  refine AOL.nil ?_
  refine thenN ?_
  refine AW.cond (b := _) rfl (fun hc1 => ?_) (fun hc1 => ?_)
  · skip
    refine AW.seq ?_
    refine AW.region ?_
    refine AOL.p (P_move (v := .int .i64 _) rfl) rfl ?_
    refine AOL.p (P_assign_nil (z := 5) rfl) rfl ?_
    refine AOL.p (P_assign (v := .int .i64 _) rfl) rfl ?_
    refine AOL.nil ?_
    refine thenN ?_
    refine AW.ret ?_
    refine thenR ?_
    refine ⟨.inr rfl, [.sl _ _, .int .i64 _], .cons (.tmp _ _ rfl) <| .cons (.tmp _ _ rfl) <| .nil, .refl _, ?_⟩
    rw [mergeE_eq, if_pos hc1]; rfl
  · skip
    refine AW.skip ?_
    refine thenN ?_
    refine AW.seq ?_
    refine AW.seq ?_
    refine AW.region ?_
    refine AOL.p (P_move (v := .sl _ _) rfl) rfl ?_
    refine AOL.p (P_callf (by kernel_rfl) rfl rfl (s_Check b)) rfl ?_
    refine AOL.p (P_assign (v := .int .i64 _) rfl) rfl ?_
    refine AOL.nil ?_
    refine thenN ?_
    refine AW.seq ?_
    refine AW.region ?_
    refine AOL.p (P_move (v := .int .i64 _) rfl) rfl ?_
    refine AOL.p (P_neq rfl rfl) rfl ?_
    refine AOL.nil ?_
    refine thenN ?_
    refine AW.cond (b := _) rfl (fun hc2 => ?_) (fun hc2 => ?_)
    · skip
      refine AW.seq ?_
      refine AW.region ?_
      refine AOL.p (P_move (v := .int .i64 _) rfl) rfl ?_
      refine AOL.p (P_assign_nil (z := 5) rfl) rfl ?_
      refine AOL.p (P_assign (v := .int .i64 _) rfl) rfl ?_
      refine AOL.nil ?_
      refine thenN ?_
      refine AW.ret ?_
      refine thenR ?_
      refine ⟨.inr rfl, [.sl _ _, .int .i64 _], .cons (.tmp _ _ rfl) <| .cons (.tmp _ _ rfl) <| .nil, .refl _, ?_⟩
      rw [mergeE_eq, ifF hc1, if_pos hc2]; rfl
    · skip
      refine AW.skip ?_
      refine thenN ?_
      refine AW.seq ?_
      refine AW.region ?_
      refine AOL.p (P_move (v := .sl _ _) rfl) rfl ?_
      refine AOL.p (P_move (v := .sl _ _) rfl) rfl ?_
      refine AOL.p (P_callf (by kernel_rfl) rfl rfl (s_joined a b hl hv)) rfl ?_
      refine AOL.p (P_extract (v := .sl _ _) rfl rfl) rfl ?_
      refine AOL.p (P_extract (v := .int .i64 _) rfl rfl) rfl ?_
      refine AOL.p (P_assign (v := .sl _ _) rfl) rfl ?_
      refine AOL.p (P_assign (v := .int .i64 _) rfl) rfl ?_
      refine AOL.nil ?_
      refine thenN ?_
      refine AW.ret ?_
      refine ⟨.inr rfl, [.sl _ _, .int .i64 _], .cons (.tmp _ _ rfl) <| .cons (.tmp _ _ rfl) <| .nil, .refl _, ?_⟩
      rw [mergeE_eq, ifF hc1, ifF hc2]; rfl
theorem inv_drop {l : List Ev} {k : Nat} {a : Ev} (ha : l[k]? = some a) : invGo (l.take k) (l.drop k) = ((l.take k).filter fun x => decide (0 < evCmp x a)).length + invGo (l.take (k + 1)) (l.drop (k + 1)) := by
  rw [drop_cons ha, invGo, take_get ha]
theorem takeTake {l : List Ev} {j k : Nat} (h : j ≤ k) : (l.take k).take j = l.take j := by rw [List.take_take, Nat.min_eq_left h]
theorem inv_in {l : List Ev} {j : Nat} {c a : Ev} (hc : l[j]? = some c) (h : decide (0 < evCmp c a) = true) : ((l.take (j + 1)).filter fun x => decide (0 < evCmp x a)).length = ((l.take j).filter fun x => decide (0 < evCmp x a)).length + 1 := by rw [filt_take _ hc, if_pos h]
theorem inv_out {l : List Ev} {j : Nat} {c a : Ev} (hc : l[j]? = some c) (h : decide (0 < evCmp c a) = false) : ((l.take (j + 1)).filter fun x => decide (0 < evCmp x a)).length = ((l.take j).filter fun x => decide (0 < evCmp x a)).length := by rw [filt_take _ hc, ifF h]; rfl
theorem get_take2 {l : List Ev} {j k : Nat} {c : Ev} (h : (l.take k)[j]? = some c) : l[j]? = some c := by
  rw [List.getElem?_take] at h
  split at h
  · exact h
  · cases h

set_option maxRecDepth 20000 in
set_option maxHeartbeats 1600000 in
theorem s_Inversions (l : List Ev) (hl : l.length ≤ 12) : APure Try.prog 13 [.sl 5 (l.map cEv)] (.tuple [.int .i64 (invR l).1, .int .i64 (invR l).2]) := by
  refine APure.body (n := 39) tok Try.func13 rfl rfl rfl fun H => ?_
  refine AW.seq ?_
  refine AW.region ?_
  refine AOL.p (P_assign (v := .int .i64 _) rfl) rfl ?_
  refine AOL.p (P_assign (v := .int .i64 _) rfl) rfl ?_
  refine AOL.nil ?_
  refine thenN ?_
  refine AW.seq ?_
  refine AW.seq ?_
  refine AW.region ?_
  refine AOL.p (P_move (v := .sl _ _) rfl) rfl ?_
  refine AOL.p (P_callf (by kernel_rfl) rfl rfl (s_all l)) rfl ?_
  refine AOL.p (P_assign (v := .int .i64 _) rfl) rfl ?_
  refine AOL.nil ?_
  refine thenN ?_
  refine AW.seq ?_
  refine AW.region ?_
  refine AOL.p (P_move (v := .int .i64 _) rfl) rfl ?_
  refine AOL.p (P_neq rfl rfl) rfl ?_
  refine AOL.nil ?_
  refine thenN ?_
  refine AW.cond (b := _) rfl (fun hc1 => ?_) (fun hc1 => ?_)
  · skip
    refine AW.seq ?_
    refine AW.region ?_
    refine AOL.p (P_move (v := .int .i64 _) rfl) rfl ?_
    refine AOL.p (P_assign (v := .int .i64 _) rfl) rfl ?_
    refine AOL.p (P_assign (v := .int .i64 _) rfl) rfl ?_
    refine AOL.nil ?_
    refine thenN ?_
    refine AW.ret ?_
    refine thenR ?_
    refine ⟨.inr rfl, [.int .i64 _, .int .i64 _], .cons (.tmp _ _ rfl) <| .cons (.tmp _ _ rfl) <| .nil, .refl _, ?_⟩
    rw [show invR l = (0, allS l) by unfold invR; rw [if_pos hc1]]; rfl
  · skip
    refine AW.skip ?_
    refine thenN ?_
    refine AW.seq ?_
    refine AW.region ?_
    refine AOL.p (P_assign (v := .int .i64 _) rfl) rfl ?_
    refine AOL.nil ?_
    refine thenN ?_
    refine AW.seq ?_
    refine AW.seq ?_
    refine AW.region ?_
    refine AOL.p (P_move (v := .sl _ _) rfl) rfl ?_
    refine AOL.p (P_len_sl (n := l.length) tok rfl rfl rfl (by simp)) rfl ?_
    refine AOL.p (P_move (v := .int .i64 _) rfl) rfl ?_
    refine AOL.nil ?_
    refine thenN ?_
    refine AW.block ?_
    refine AW.sllen 15 rfl fun hlen => ?_
    simp only [List.length_map, maxLen] at hlen
    refine AW.loopS (fun (p : Nat × Nat) => (⟨[(0, .sl 5 (l.map cEv)), (5, .int .i64 (p.2 : Int)), (15, .sl 5 (l.map cEv)), (16, .int .i64 l.length), (17, .int .i64 (p.1 : Int))], H, 39⟩ : St)) (fun (p : Nat × Nat) => p.1 ≤ l.length ∧ invGo [] l = p.2 + invGo (l.take p.1) (l.drop p.1) ∧ p.2 ≤ p.1 * 12) (fun (p : Nat × Nat) => l.length - p.1) ((0, 0)) ?_ (GS.weaken ⟨rfl, rfl, rfl, rfl, rfl, trivial⟩ (.refl _)) ?_
    · exact ⟨Nat.zero_le _, by simp, Nat.zero_le _⟩
    · rintro p hR
      refine AW.seq ?_
      refine AW.region ?_
      refine AOL.p (P_lss rfl rfl) rfl ?_
      refine AOL.nil ?_
      refine thenN ?_
      refine AW.seq ?_
      refine AW.cond (b := _) rfl (fun hc2 => ?_) (fun hc2 => ?_)
      · skip
        obtain ⟨a, ha⟩ := get_lt hc2
        have hlt := get_lt' ha
        have hm := List.mem_of_getElem? ha
        have hdr := inv_drop ha
        refine AW.skip ?_
        refine thenN ?_
        refine AW.seq ?_
        refine AW.block ?_
        refine AW.seq ?_
        refine AW.region ?_
        refine AOL.p (P_move (v := .int .i64 _) rfl) rfl ?_
        refine AOL.p (P_indexAddr (c := [.int .i64 _, .int .i64 _, .int .i64 _, .int .i64 _, _]) tok rfl rfl rfl rfl rfl rfl (by omega) (map_at ha)) rfl ?_
        refine AOL.p (P_load_ptr_agg (l := [.int .i64 _, .int .i64 _, .int .i64 _, .int .i64 _, _]) tok rfl rfl rfl rfl rfl) rfl ?_
        refine AOL.e (E_alloc (l := [.int .i64 0, .int .i64 0, .int .i64 0, .int .i64 0, .sl 3 []]) (by kernel_rfl)) rfl ?_
        rintro _ _ ⟨b7, rfl, rfl⟩
        refine AOL.p (P_assign (v := .int .i64 _) rfl) rfl ?_
        refine AOL.e (E_store (k := 0) (v := .agg _) (cs' := [.int .i64 _, .int .i64 _, .int .i64 _, .int .i64 _, _]) (H2 := _ :: _) tok rfl rfl rfl rfl rfl rfl rfl rfl rfl) rfl ?_
        rintro _ _ ⟨rfl, rfl⟩
        refine AOL.ghost (GS.freeze (t := 7) 0 rfl rfl) ?_
        refine AOL.nil ?_
        refine thenN ?_
        refine AW.seq ?_
        refine AW.region ?_
        refine AOL.p (P_move (v := .sl _ _) rfl) rfl ?_
        refine AOL.p (P_move (v := .int .i64 _) rfl) rfl ?_
        refine AOL.p (P_slice_sl (l := 0) (h := p.1) tok rfl rfl rfl rfl rfl (rfl) (⟨_, rfl⟩) (by omega) (by simp; omega) (List.drop_zero.trans List.map_take.symm)) rfl ?_
        refine AOL.p (P_len_sl (n := p.1) tok rfl rfl rfl (by simp; omega)) rfl ?_
        refine AOL.p (P_move (v := .int .i64 _) rfl) rfl ?_
        refine AOL.nil ?_
        refine thenN ?_
        refine AW.block ?_
        refine AW.loopS (fun (q : Nat × Nat) => (⟨[(0, .sl 5 (l.map cEv)), (5, .int .i64 (q.2 : Int)), (7, .ptr (cEv a)), (15, .sl 5 (l.map cEv)), (16, .int .i64 l.length), (17, .int .i64 (p.1 : Int)), (24, .sl 5 ((l.take p.1).map cEv)), (25, .int .i64 (p.1 : Int)), (26, .int .i64 (q.1 : Int))], H, 39⟩ : St)) (fun (q : Nat × Nat) => q.1 ≤ p.1 ∧ q.2 = p.2 + ((l.take q.1).filter fun x => decide (0 < evCmp x a)).length ∧ q.2 ≤ p.2 + q.1) (fun (q : Nat × Nat) => p.1 - q.1) ((0, p.2)) ?_ (GS.weaken ⟨rfl, rfl, rfl, rfl, rfl, rfl, rfl, rfl, rfl, trivial⟩ (.refl _)) ?_
        · exact ⟨Nat.zero_le _, by simp, Nat.le_refl _⟩
        · rintro q hQ
          refine AW.seq ?_
          refine AW.region ?_
          refine AOL.p (P_lss rfl rfl) rfl ?_
          refine AOL.nil ?_
          refine thenN ?_
          refine AW.seq ?_
          refine AW.cond (b := _) rfl (fun hc3 => ?_) (fun hc3 => ?_)
          · skip
            have hq1 : q.1 < p.1 := by have := of_decide_eq_true hc3; omega
            obtain ⟨c, hc⟩ := get_lt2 (l := l.take p.1) (k := q.1) (by rw [List.length_take]; omega)
            have hc9 := get_take2 hc
            refine AW.skip ?_
            refine thenN ?_
            refine AW.seq ?_
            refine AW.block ?_
            refine AW.seq ?_
            refine AW.region ?_
            refine AOL.p (P_indexAddr (c := [.int .i64 _, .int .i64 _, .int .i64 _, .int .i64 _, _]) tok rfl rfl rfl rfl rfl rfl (by omega) (map_at hc)) rfl ?_
            refine AOL.p (P_load_ptr_agg (l := [.int .i64 _, .int .i64 _, .int .i64 _, .int .i64 _, _]) tok rfl rfl rfl rfl rfl) rfl ?_
            refine AOL.e (E_alloc (l := [.int .i64 0, .int .i64 0, .int .i64 0, .int .i64 0, .sl 3 []]) (by kernel_rfl)) rfl ?_
            rintro _ _ ⟨b9, rfl, rfl⟩
            refine AOL.e (E_store (k := 0) (v := .agg _) (cs' := [.int .i64 _, .int .i64 _, .int .i64 _, .int .i64 _, _]) (H2 := _ :: _) tok rfl rfl rfl rfl rfl rfl rfl rfl rfl) rfl ?_
            rintro _ _ ⟨rfl, rfl⟩
            refine AOL.ghost (GS.freeze (t := 9) 0 rfl rfl) ?_
            refine AOL.nil ?_
            refine thenN ?_
            refine AW.seq ?_
            refine AW.region ?_
            refine AOL.p (P_load_ptr_agg (l := [.int .i64 _, .int .i64 _, .int .i64 _, .int .i64 _, _]) tok rfl rfl rfl rfl rfl) rfl ?_
            refine AOL.p (P_load_ptr_agg (l := [.int .i64 _, .int .i64 _, .int .i64 _, .int .i64 _, _]) tok rfl rfl rfl rfl rfl) rfl ?_
            refine AOL.p (P_callf (by kernel_rfl) rfl rfl (e_Compare c a)) rfl ?_
            refine AOL.p (P_gtr rfl rfl) rfl ?_
            refine AOL.nil ?_
            refine thenN ?_
            refine AW.cond (b := _) rfl (fun hc4 => ?_) (fun hc4 => ?_)
            · skip
              refine AW.region ?_
              refine AOL.p (P_move (v := .int .i64 _) rfl) rfl ?_
              refine AOL.p (P_add rfl rfl rfl (by constructor <;> omega)) rfl ?_
              refine AOL.p (P_assign (v := .int .i64 _) rfl) rfl ?_
              refine AOL.nil ?_
              refine blkN ?_
              refine thenN ?_
              refine AW.region ?_
              refine AOL.p (P_add rfl rfl rfl (by constructor <;> omega)) rfl ?_
              refine AOL.p (P_move (v := .int .i64 _) rfl) rfl ?_
              refine AOL.nil ?_
              refine thenN ?_
              refine ⟨(q.1 + 1, q.2 + 1), ?_, ?_, GS.weaken ⟨rfl, rfl, rfl, rfl, rfl, rfl, rfl, rfl, rfl, trivial⟩ (.refl _)⟩
              · exact ⟨by simp only; omega, by simp only; rw [inv_in hc9 hc4]; have := hQ.2.1; omega, by simp only; omega⟩
              · simp only; omega
            · skip
              refine AW.skip ?_
              refine blkN ?_
              refine thenN ?_
              refine AW.region ?_
              refine AOL.p (P_add rfl rfl rfl (by constructor <;> omega)) rfl ?_
              refine AOL.p (P_move (v := .int .i64 _) rfl) rfl ?_
              refine AOL.nil ?_
              refine thenN ?_
              refine ⟨(q.1 + 1, q.2), ?_, ?_, GS.weaken ⟨rfl, rfl, rfl, rfl, rfl, rfl, rfl, rfl, rfl, trivial⟩ (.refl _)⟩
              · exact ⟨by simp only; omega, by simp only; rw [inv_out hc9 hc4]; exact hQ.2.1, by simp only; omega⟩
              · simp only; omega
          · skip
            have hq1 : p.1 ≤ q.1 := by have := of_decide_eq_false hc3; omega
            refine AW.exit ?_
            refine thenE ?_
            refine thenE ?_
            refine blkHit ?_
            refine blkN ?_
            refine thenN ?_
            refine AW.region ?_
            refine AOL.p (P_add rfl rfl rfl (by constructor <;> omega)) rfl ?_
            refine AOL.p (P_move (v := .int .i64 _) rfl) rfl ?_
            refine AOL.nil ?_
            refine thenN ?_
            refine ⟨(p.1 + 1, q.2), ?_, ?_, GS.weaken ⟨rfl, rfl, rfl, rfl, rfl, trivial⟩ (.refl _)⟩
            · exact ⟨hlt, by simp only; rw [hR.2.1, hdr, hQ.2.1]; rw [show q.1 = p.1 by omega]; omega, by simp only; omega⟩
            · simp only; omega
      · skip
        have hd := get_end hc2
        refine AW.exit ?_
        refine thenE ?_
        refine thenE ?_
        refine blkHit ?_
        refine thenN ?_
        refine AW.seq ?_
        refine AW.region ?_
        refine AOL.p (P_move (v := .int .i64 _) rfl) rfl ?_
        refine AOL.p (P_assign (v := .int .i64 _) rfl) rfl ?_
        refine AOL.p (P_assign (v := .int .i64 _) rfl) rfl ?_
        refine AOL.nil ?_
        refine thenN ?_
        refine AW.ret ?_
        refine ⟨.inr rfl, [.int .i64 _, .int .i64 _], .cons (.tmp _ _ rfl) <| .cons (.tmp _ _ rfl) <| .nil, .refl _, ?_⟩
        have h9 : invR l = (((p.2 : Nat) : Int), 0) := by
          unfold invR; rw [ifF hc1, hR.2.1, hd]; rfl
        rw [h9]; rfl

end Go.Proofs.Ytfpbgdjloccdbaa
