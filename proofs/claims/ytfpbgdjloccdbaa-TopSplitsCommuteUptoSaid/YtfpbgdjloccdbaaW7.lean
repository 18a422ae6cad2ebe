/-
  Walks of sorting of slices that have grown. No condition.
-/
import Derived.Test.YtfpbgdjloccdbaaW6
import Derived.KernelRfl
namespace Go.Proofs.Ytfpbgdjloccdbaa
open Go Go.Aw
set_option linter.unusedVariables false
set_option linter.unusedSimpArgs false

theorem outer_len {α : Type} {d : α} {lt : α → α → Bool} : ∀ (n i : Nat) (l : List α), (outerS d lt n i l).length = l.length
  | 0, _, _ => rfl
  | n + 1, i, l => by rw [outerS, outer_len n, inner_len]
theorem sort_len {α : Type} {d : α} {lt : α → α → Bool} (l : List α) : (sortS d lt l).length = l.length := outer_len ..
set_option maxRecDepth 20000 in
set_option maxHeartbeats 400000 in
theorem s_sortE_ins0 (F : Nat) : APure Try.prog 72 [.val (.slice none 0 0), .int .i64 0, .int .i64 0, .fn (.func F) [] []] (.tuple []) := by
  refine APure.body (n := 53) tok Try.func72 rfl rfl rfl fun H => ?_
  refine AW.seq ?_
  refine AW.region ?_
  refine AOL.p (P_move (v := .int .i64 _) rfl) rfl ?_
  refine AOL.p (P_add rfl rfl rfl (by constructor <;> omega)) rfl ?_
  refine AOL.p (P_assign (v := .int .i64 _) rfl) rfl ?_
  refine AOL.nil ?_
  refine thenN ?_
  refine AW.block ?_
  refine AW.loopS (fun (_ : Unit) => (⟨[(2, .int .i64 0), (8, .int .i64 1)], H, 53⟩ : St)) (fun (_ : Unit) => True) (fun (_ : Unit) => 0) (()) ?_ (GS.weaken ⟨rfl, rfl, trivial⟩ (.refl _)) ?_
  · trivial
  · rintro _ _
    refine AW.seq ?_
    refine AW.seq ?_
    refine AW.region ?_
    refine AOL.p (P_move (v := .int .i64 _) rfl) rfl ?_
    refine AOL.p (P_move (v := .int .i64 _) rfl) rfl ?_
    refine AOL.p (P_lss rfl rfl) rfl ?_
    refine AOL.nil ?_
    refine thenN ?_
    refine AW.cond (b := _) rfl (fun hc1 => ?_) (fun hc1 => ?_)
    · skip
      cases hc1
    · skip
      refine AW.exit ?_
      refine thenE ?_
      refine thenE ?_
      refine blkHit ?_
      refine ⟨.inl rfl, [], .nil, .refl _, ?_⟩
      rfl
set_option maxRecDepth 20000 in
set_option maxHeartbeats 400000 in
theorem s_sortE_pdq0 (F : Nat) (n : Int) : APure Try.prog 56 [.val (.slice none 0 0), .int .i64 0, .int .i64 0, .int .i64 n, .fn (.func F) [] []] (.tuple []) := by
  refine APure.body (n := 148) tok Try.func56 rfl rfl rfl fun H => ?_
  refine AW.seq ?_
  refine AW.region ?_
  refine AOL.p (P_assign (v := .bool _) rfl) rfl ?_
  refine AOL.nil ?_
  refine thenN ?_
  refine AW.seq ?_
  refine AW.region ?_
  refine AOL.p (P_assign (v := .bool _) rfl) rfl ?_
  refine AOL.nil ?_
  refine thenN ?_
  refine AW.block ?_
  refine AW.loopS (fun (_ : Unit) => (⟨[(0, .val (.slice none 0 0)), (1, .int .i64 0), (2, .int .i64 0), (4, .fn (.func F) [] [])], H, 148⟩ : St)) (fun (_ : Unit) => True) (fun (_ : Unit) => 0) (()) ?_ (GS.weaken ⟨rfl, rfl, rfl, rfl, trivial⟩ (.refl _)) ?_
  · trivial
  · rintro _ _
    refine AW.block ?_
    refine AW.seq ?_
    refine AW.region ?_
    refine AOL.p (P_move (v := .int .i64 _) rfl) rfl ?_
    refine AOL.p (P_move (v := .int .i64 _) rfl) rfl ?_
    refine AOL.p (P_sub rfl rfl rfl (by constructor <;> omega)) rfl ?_
    refine AOL.p (P_assign (v := .int .i64 _) rfl) rfl ?_
    refine AOL.nil ?_
    refine thenN ?_
    refine AW.seq ?_
    refine AW.seq ?_
    refine AW.region ?_
    refine AOL.p (P_move (v := .int .i64 _) rfl) rfl ?_
    refine AOL.p (P_leq rfl rfl) rfl ?_
    refine AOL.nil ?_
    refine thenN ?_
    refine AW.cond (b := _) rfl (fun hc1 => ?_) (fun hc1 => ?_)
    · skip
      refine AW.seq ?_
      refine AW.region ?_
      refine AOL.p (P_move (v := .val _) rfl) rfl ?_
      refine AOL.p (P_move (v := .int .i64 _) rfl) rfl ?_
      refine AOL.p (P_move (v := .int .i64 _) rfl) rfl ?_
      refine AOL.p (P_move (v := .fn _ _ _) rfl) rfl ?_
      refine AOL.p (P_callf (by kernel_rfl) rfl rfl (s_sortE_ins0 F)) rfl ?_
      refine AOL.nil ?_
      refine thenN ?_
      refine AW.ret ?_
      refine thenR ?_
      refine blkR ?_
      refine thenR ?_
      refine blkR ?_
      refine ⟨.inr rfl, [], .nil, .refl _, ?_⟩
      rfl
    · skip
      cases hc1
set_option maxRecDepth 20000 in
set_option maxHeartbeats 400000 in
theorem s_sortE_nil (F : Nat) : APure Try.prog 40 [.val (.slice none 0 0), .fn (.func F) [] []] (.tuple []) := by
  refine APure.body (n := 14) tok Try.func40 rfl rfl rfl fun H => ?_
  refine AW.seq ?_
  refine AW.region ?_
  refine AOL.p (P_move (v := .val _) rfl) rfl ?_
  refine AOL.p (P_len_val tok rfl rfl rfl) rfl ?_
  refine AOL.p (P_assign (v := .int .i64 _) rfl) rfl ?_
  refine AOL.nil ?_
  refine thenN ?_
  refine AW.region ?_
  refine AOL.p (P_move (v := .val _) rfl) rfl ?_
  refine AOL.p (P_move (v := .int .i64 _) rfl) rfl ?_
  refine AOL.p (P_move (v := .int .i64 _) rfl) rfl ?_
  refine AOL.p (P_conv (m := ((0 : Nat) : Int)) tok rfl rfl rfl rfl rfl (rfl)) rfl ?_
  refine AOL.p (P_callf (by kernel_rfl) rfl rfl (k_Len 0 (by omega))) rfl ?_
  refine AOL.p (P_move (v := .fn _ _ _) rfl) rfl ?_
  refine AOL.p (P_callf (by kernel_rfl) rfl rfl (s_sortE_pdq0 F _)) rfl ?_
  refine AOL.nil ?_
  refine ⟨.inl rfl, [], .nil, .refl _, ?_⟩
  rfl
theorem s_sortE (F : Nat) (hfn : fnB Try.prog F = true) (cmp : Ev → Ev → Int) (hf : ∀ x y : Ev, APure Try.prog F [.agg (cEv x), .agg (cEv y)] (.int .i64 (cmp x y))) (l : List Ev) (hl : l.length ≤ 12) (v : Value) (H : List HO) :
    ACall Try.prog 40 (.buf v (l.map cEv) 30 5 :: H) [.val v, .fn (.func F) [] []] (fun r H' => r = .tuple [] ∧ H' = .buf v ((sortS ev0 (fun x y => decide (cmp x y < 0)) l).map cEv) 30 5 :: H) := by
  refine ACall.buf ?_ ?_
  · rintro rfl he
    have hl0 : l = [] := by simpa using he
    subst hl0
    exact ACall.ofPure (s_sortE_nil F) ⟨rfl, rfl⟩
  · rintro b cap J rfl hc
    rw [List.length_map]
    refine ((s_sortE_box b cap J F hfn cmp hf l hl) H).mono' ?_
    rintro r H' ⟨rfl, rfl⟩
    refine ⟨(sortS ev0 (fun x y => decide (cmp x y < 0)) l).map cEv, rfl, ?_, ?_, rfl, rfl⟩
    · rw [List.length_map, sort_len]
    · intro e he
      obtain ⟨x, _, rfl⟩ := List.mem_map.1 he
      rfl
set_option maxRecDepth 20000 in
set_option maxHeartbeats 400000 in
theorem s_sortV_ins0 (F : Nat) : APure Try.prog 57 [.val (.slice none 0 0), .int .i64 0, .int .i64 0, .fn (.func F) [] []] (.tuple []) := by
  refine APure.body (n := 53) tok Try.func57 rfl rfl rfl fun H => ?_
  refine AW.seq ?_
  refine AW.region ?_
  refine AOL.p (P_move (v := .int .i64 _) rfl) rfl ?_
  refine AOL.p (P_add rfl rfl rfl (by constructor <;> omega)) rfl ?_
  refine AOL.p (P_assign (v := .int .i64 _) rfl) rfl ?_
  refine AOL.nil ?_
  refine thenN ?_
  refine AW.block ?_
  refine AW.loopS (fun (_ : Unit) => (⟨[(2, .int .i64 0), (8, .int .i64 1)], H, 53⟩ : St)) (fun (_ : Unit) => True) (fun (_ : Unit) => 0) (()) ?_ (GS.weaken ⟨rfl, rfl, trivial⟩ (.refl _)) ?_
  · trivial
  · rintro _ _
    refine AW.seq ?_
    refine AW.seq ?_
    refine AW.region ?_
    refine AOL.p (P_move (v := .int .i64 _) rfl) rfl ?_
    refine AOL.p (P_move (v := .int .i64 _) rfl) rfl ?_
    refine AOL.p (P_lss rfl rfl) rfl ?_
    refine AOL.nil ?_
    refine thenN ?_
    refine AW.cond (b := _) rfl (fun hc1 => ?_) (fun hc1 => ?_)
    · skip
      cases hc1
    · skip
      refine AW.exit ?_
      refine thenE ?_
      refine thenE ?_
      refine blkHit ?_
      refine ⟨.inl rfl, [], .nil, .refl _, ?_⟩
      rfl
set_option maxRecDepth 20000 in
set_option maxHeartbeats 400000 in
theorem s_sortV_pdq0 (F : Nat) (n : Int) : APure Try.prog 42 [.val (.slice none 0 0), .int .i64 0, .int .i64 0, .int .i64 n, .fn (.func F) [] []] (.tuple []) := by
  refine APure.body (n := 148) tok Try.func42 rfl rfl rfl fun H => ?_
  refine AW.seq ?_
  refine AW.region ?_
  refine AOL.p (P_assign (v := .bool _) rfl) rfl ?_
  refine AOL.nil ?_
  refine thenN ?_
  refine AW.seq ?_
  refine AW.region ?_
  refine AOL.p (P_assign (v := .bool _) rfl) rfl ?_
  refine AOL.nil ?_
  refine thenN ?_
  refine AW.block ?_
  refine AW.loopS (fun (_ : Unit) => (⟨[(0, .val (.slice none 0 0)), (1, .int .i64 0), (2, .int .i64 0), (4, .fn (.func F) [] [])], H, 148⟩ : St)) (fun (_ : Unit) => True) (fun (_ : Unit) => 0) (()) ?_ (GS.weaken ⟨rfl, rfl, rfl, rfl, trivial⟩ (.refl _)) ?_
  · trivial
  · rintro _ _
    refine AW.block ?_
    refine AW.seq ?_
    refine AW.region ?_
    refine AOL.p (P_move (v := .int .i64 _) rfl) rfl ?_
    refine AOL.p (P_move (v := .int .i64 _) rfl) rfl ?_
    refine AOL.p (P_sub rfl rfl rfl (by constructor <;> omega)) rfl ?_
    refine AOL.p (P_assign (v := .int .i64 _) rfl) rfl ?_
    refine AOL.nil ?_
    refine thenN ?_
    refine AW.seq ?_
    refine AW.seq ?_
    refine AW.region ?_
    refine AOL.p (P_move (v := .int .i64 _) rfl) rfl ?_
    refine AOL.p (P_leq rfl rfl) rfl ?_
    refine AOL.nil ?_
    refine thenN ?_
    refine AW.cond (b := _) rfl (fun hc1 => ?_) (fun hc1 => ?_)
    · skip
      refine AW.seq ?_
      refine AW.region ?_
      refine AOL.p (P_move (v := .val _) rfl) rfl ?_
      refine AOL.p (P_move (v := .int .i64 _) rfl) rfl ?_
      refine AOL.p (P_move (v := .int .i64 _) rfl) rfl ?_
      refine AOL.p (P_move (v := .fn _ _ _) rfl) rfl ?_
      refine AOL.p (P_callf (by kernel_rfl) rfl rfl (s_sortV_ins0 F)) rfl ?_
      refine AOL.nil ?_
      refine thenN ?_
      refine AW.ret ?_
      refine thenR ?_
      refine blkR ?_
      refine thenR ?_
      refine blkR ?_
      refine ⟨.inr rfl, [], .nil, .refl _, ?_⟩
      rfl
    · skip
      cases hc1
set_option maxRecDepth 20000 in
set_option maxHeartbeats 400000 in
theorem s_sortV_nil (F : Nat) : APure Try.prog 23 [.val (.slice none 0 0), .fn (.func F) [] []] (.tuple []) := by
  refine APure.body (n := 14) tok Try.func23 rfl rfl rfl fun H => ?_
  refine AW.seq ?_
  refine AW.region ?_
  refine AOL.p (P_move (v := .val _) rfl) rfl ?_
  refine AOL.p (P_len_val tok rfl rfl rfl) rfl ?_
  refine AOL.p (P_assign (v := .int .i64 _) rfl) rfl ?_
  refine AOL.nil ?_
  refine thenN ?_
  refine AW.region ?_
  refine AOL.p (P_move (v := .val _) rfl) rfl ?_
  refine AOL.p (P_move (v := .int .i64 _) rfl) rfl ?_
  refine AOL.p (P_move (v := .int .i64 _) rfl) rfl ?_
  refine AOL.p (P_conv (m := ((0 : Nat) : Int)) tok rfl rfl rfl rfl rfl (rfl)) rfl ?_
  refine AOL.p (P_callf (by kernel_rfl) rfl rfl (k_Len 0 (by omega))) rfl ?_
  refine AOL.p (P_move (v := .fn _ _ _) rfl) rfl ?_
  refine AOL.p (P_callf (by kernel_rfl) rfl rfl (s_sortV_pdq0 F _)) rfl ?_
  refine AOL.nil ?_
  refine ⟨.inl rfl, [], .nil, .refl _, ?_⟩
  rfl
theorem s_sortV (F : Nat) (hfn : fnB Try.prog F = true) (cmp : Vl → Vl → Int) (hf : ∀ x y : Vl, APure Try.prog F [.agg (cV x), .agg (cV y)] (.int .i64 (cmp x y))) (l : List Vl) (hl : l.length ≤ 12) (v : Value) (H : List HO) :
    ACall Try.prog 23 (.buf v (l.map cV) 39 3 :: H) [.val v, .fn (.func F) [] []] (fun r H' => r = .tuple [] ∧ H' = .buf v ((sortS v0 (fun x y => decide (cmp x y < 0)) l).map cV) 39 3 :: H) := by
  refine ACall.buf ?_ ?_
  · rintro rfl he
    have hl0 : l = [] := by simpa using he
    subst hl0
    exact ACall.ofPure (s_sortV_nil F) ⟨rfl, rfl⟩
  · rintro b cap J rfl hc
    rw [List.length_map]
    refine ((s_sortV_box b cap J F hfn cmp hf l hl) H).mono' ?_
    rintro r H' ⟨rfl, rfl⟩
    refine ⟨(sortS v0 (fun x y => decide (cmp x y < 0)) l).map cV, rfl, ?_, ?_, rfl, rfl⟩
    · rw [List.length_map, sort_len]
    · intro e he
      obtain ⟨x, _, rfl⟩ := List.mem_map.1 he
      rfl
set_option maxRecDepth 20000 in
set_option maxHeartbeats 400000 in
theorem v_c1 (x y : Vl) : APure Try.prog 28 [.agg (cV x), .agg (cV y)] (.int .i64 (cmpI x.kind y.kind)) := by
  refine APure.body (n := 10) tok Try.func28 rfl rfl rfl fun H => ?_
  refine AW.seq ?_
  refine AW.region ?_
  refine AOL.p (P_box (v := .agg _) (cs := [.int .i64 _, .int .i64 _, .str _]) rfl rfl rfl) rfl ?_
  refine AOL.p (P_box (v := .agg _) (cs := [.int .i64 _, .int .i64 _, .str _]) rfl rfl rfl) rfl ?_
  refine AOL.p (P_assign (v := .int .i64 _) rfl) rfl ?_
  refine AOL.nil ?_
  refine thenN ?_
  refine AW.seq ?_
  refine AW.region ?_
  refine AOL.p (P_fieldAddr_ptr (cs' := [.int .i64 _, .int .i64 _, .str _]) tok rfl rfl rfl rfl rfl rfl) rfl ?_
  refine AOL.p (P_load_ptr (c := .int .i64 _) tok rfl rfl rfl) rfl ?_
  refine AOL.p (P_fieldAddr_ptr (cs' := [.int .i64 _, .int .i64 _, .str _]) tok rfl rfl rfl rfl rfl rfl) rfl ?_
  refine AOL.p (P_load_ptr (c := .int .i64 _) tok rfl rfl rfl) rfl ?_
  refine AOL.p (P_callf (by kernel_rfl) rfl rfl (k_cmp _ _)) rfl ?_
  refine AOL.p (P_assign (v := .int .i64 _) rfl) rfl ?_
  refine AOL.nil ?_
  refine thenN ?_
  refine AW.ret ?_
  refine ⟨.inr rfl, [.int .i64 _], .cons (.tmp _ _ rfl) <| .nil, .refl _, ?_⟩
  rfl
set_option maxRecDepth 20000 in
set_option maxHeartbeats 400000 in
theorem v_c2 (x y : Vl) : APure Try.prog 30 [.agg (cV x), .agg (cV y)] (.int .i64 (cmpI x.num y.num)) := by
  refine APure.body (n := 10) tok Try.func30 rfl rfl rfl fun H => ?_
  refine AW.seq ?_
  refine AW.region ?_
  refine AOL.p (P_box (v := .agg _) (cs := [.int .i64 _, .int .i64 _, .str _]) rfl rfl rfl) rfl ?_
  refine AOL.p (P_box (v := .agg _) (cs := [.int .i64 _, .int .i64 _, .str _]) rfl rfl rfl) rfl ?_
  refine AOL.p (P_assign (v := .int .i64 _) rfl) rfl ?_
  refine AOL.nil ?_
  refine thenN ?_
  refine AW.seq ?_
  refine AW.region ?_
  refine AOL.p (P_fieldAddr_ptr (cs' := [.int .i64 _, .str _]) tok rfl rfl rfl rfl rfl rfl) rfl ?_
  refine AOL.p (P_load_ptr (c := .int .i64 _) tok rfl rfl rfl) rfl ?_
  refine AOL.p (P_fieldAddr_ptr (cs' := [.int .i64 _, .str _]) tok rfl rfl rfl rfl rfl rfl) rfl ?_
  refine AOL.p (P_load_ptr (c := .int .i64 _) tok rfl rfl rfl) rfl ?_
  refine AOL.p (P_callf (by kernel_rfl) rfl rfl (k_cmp _ _)) rfl ?_
  refine AOL.p (P_assign (v := .int .i64 _) rfl) rfl ?_
  refine AOL.nil ?_
  refine thenN ?_
  refine AW.ret ?_
  refine ⟨.inr rfl, [.int .i64 _], .cons (.tmp _ _ rfl) <| .nil, .refl _, ?_⟩
  rfl
set_option maxRecDepth 20000 in
set_option maxHeartbeats 400000 in
theorem k_cmpS (x y : List UInt8) : APure Try.prog 51 [.str x, .str y] (.int .i64 (cmpT x y)) := by
  refine APure.body (n := 8) tok Try.func51 rfl rfl rfl fun H => ?_
  refine AW.seq ?_
  refine AW.region ?_
  refine AOL.p (P_assign (v := .int .i64 _) rfl) rfl ?_
  refine AOL.nil ?_
  refine thenN ?_
  refine AW.seq ?_
  refine AW.region ?_
  refine AOL.p (P_move (v := .str _) rfl) rfl ?_
  refine AOL.p (P_move (v := .str _) rfl) rfl ?_
  refine AOL.p (P_cmpstr Try.func70 (by kernel_rfl) (by kernel_rfl) (by kernel_rfl) rfl rfl rfl) rfl ?_
  refine AOL.p (P_assign (v := .int .i64 _) rfl) rfl ?_
  refine AOL.nil ?_
  refine thenN ?_
  refine AW.ret ?_
  refine ⟨.inr rfl, [.int .i64 _], .cons (.tmp _ _ rfl) <| .nil, .refl _, ?_⟩
  rfl
set_option maxRecDepth 20000 in
set_option maxHeartbeats 400000 in
theorem k_cmpT (x y : List UInt8) : APure Try.prog 31 [.str x, .str y] (.int .i64 (cmpT x y)) := by
  refine APure.body (n := 8) tok Try.func31 rfl rfl rfl fun H => ?_
  refine AW.seq ?_
  refine AW.region ?_
  refine AOL.p (P_assign (v := .int .i64 _) rfl) rfl ?_
  refine AOL.nil ?_
  refine thenN ?_
  refine AW.seq ?_
  refine AW.region ?_
  refine AOL.p (P_move (v := .str _) rfl) rfl ?_
  refine AOL.p (P_move (v := .str _) rfl) rfl ?_
  refine AOL.p (P_callf (by kernel_rfl) rfl rfl (k_cmpS x y)) rfl ?_
  refine AOL.p (P_assign (v := .int .i64 _) rfl) rfl ?_
  refine AOL.nil ?_
  refine thenN ?_
  refine AW.ret ?_
  refine ⟨.inr rfl, [.int .i64 _], .cons (.tmp _ _ rfl) <| .nil, .refl _, ?_⟩
  rfl
def vf (k : Nat) : Nat := if k = 0 then 28 else 30
def vpart (k : Nat) (x y : Vl) : Int := if k = 0 then cmpI x.kind y.kind else cmpI x.num y.num
theorem vf_call (k : Nat) (x y : Vl) : APure Try.prog (vf k) [.agg (cV x), .agg (cV y)] (.int .i64 (vpart k x y)) := by
  unfold vf vpart
  split
  · exact v_c1 x y
  · exact v_c2 x y
theorem vf_fn (k : Nat) : fnB Try.prog (vf k) = true := by
  unfold vf
  split <;> kernel_rfl
theorem vf_at {k : Nat} (h : k < 2) : ([[.fn (.func 28) [] []], [.fn (.func 30) [] []]] : List (List AV))[(k : Int).toNat]? = some [.fn (.func (vf k)) [] []] := by
  have : k = 0 ∨ k = 1 := by omega
  rcases this with rfl | rfl <;> rfl
theorem vcmp_hit {k : Nat} {x y : Vl} (hk : k < 2) (h : ∀ i, i < k → (vpart i x y != 0) = false) (h2 : (vpart k x y != 0) = true) : vCmp x y = vpart k x y := by
  have : k = 0 ∨ k = 1 := by omega
  unfold vCmp
  rcases this with rfl | rfl
  · have h3 : (cmpI x.kind y.kind != 0) = true := h2
    rw [if_pos h3]; rfl
  · have h3 : (cmpI x.kind y.kind != 0) = false := h 0 (by omega)
    have h4 : (cmpI x.num y.num != 0) = true := h2
    rw [ifF h3, if_pos h4]; rfl
theorem vcmp_end {k : Nat} {x y : Vl} (hk : 2 ≤ k) (h : ∀ i, i < k → (vpart i x y != 0) = false) : vCmp x y = cmpT x.text y.text := by
  have h3 : (cmpI x.kind y.kind != 0) = false := h 0 (by omega)
  have h4 : (cmpI x.num y.num != 0) = false := h 1 (by omega)
  unfold vCmp
  rw [ifF h3, ifF h4]
theorem below_succ {k : Nat} {p : Nat → Prop} (h : ∀ i, i < k → p i) (hk : p k) : ∀ i, i < k + 1 → p i := fun i hi => by
  by_cases e : i = k
  · subst e; exact hk
  · exact h i (by omega)
set_option maxRecDepth 20000 in
set_option maxHeartbeats 1600000 in
theorem v_Compare (x y : Vl) : APure Try.prog 14 [.agg (cV x), .agg (cV y)] (.int .i64 (vCmp x y)) := by
  refine APure.body (n := 27) tok Try.func14 rfl rfl rfl fun H => ?_
  refine AW.seq ?_
  refine AW.region ?_
  refine AOL.p (P_box (v := .agg _) (cs := [.int .i64 _, .int .i64 _, .str _]) rfl rfl rfl) rfl ?_
  refine AOL.p (P_box (v := .agg _) (cs := [.int .i64 _, .int .i64 _, .str _]) rfl rfl rfl) rfl ?_
  refine AOL.p (P_assign (v := .int .i64 _) rfl) rfl ?_
  refine AOL.nil ?_
  refine thenN ?_
  refine AW.seq ?_
  refine AW.seq ?_
  refine AW.region ?_
  refine AOL.p (P_buildSlice (es := [[_], [_]]) tok rfl rfl rfl rfl rfl rfl rfl rfl rfl) rfl ?_
  refine AOL.p (P_len_sl (n := 2) tok rfl rfl rfl (rfl)) rfl ?_
  refine AOL.p (P_move (v := .int .i64 _) rfl) rfl ?_
  refine AOL.nil ?_
  refine thenN ?_
  refine AW.block ?_
  refine AW.loopS (fun (k : Nat) => (⟨[(2, .ptr (cV x)), (3, .ptr (cV y)), (8, .sl 1 [[.fn (.func 28) [] []], [.fn (.func 30) [] []]]), (9, .int .i64 2), (10, .int .i64 (k : Int))], H, 27⟩ : St)) (fun (k : Nat) => ∀ i, i < k → (vpart i x y != 0) = false) (fun (k : Nat) => 2 - k) (0) ?_ (GS.weaken ⟨rfl, rfl, rfl, rfl, rfl, trivial⟩ (.refl _)) ?_
  · exact fun i hi => by omega
  · rintro k hR
    refine AW.seq ?_
    refine AW.region ?_
    refine AOL.p (P_lss rfl rfl) rfl ?_
    refine AOL.nil ?_
    refine thenN ?_
    refine AW.seq ?_
    refine AW.cond (b := _) rfl (fun hc1 => ?_) (fun hc1 => ?_)
    · skip
      have hk2 : k < 2 := by have := of_decide_eq_true hc1; omega
      refine AW.skip ?_
      refine thenN ?_
      refine AW.seq ?_
      refine AW.block ?_
      refine AW.seq ?_
      refine AW.region ?_
      refine AOL.p (P_indexAddr (c := [.fn (.func (vf k)) [] []]) tok rfl rfl rfl rfl rfl rfl (by omega) (vf_at hk2)) rfl ?_
      refine AOL.p (P_load_ptr (c := .fn _ _ _) tok rfl rfl rfl) rfl ?_
      refine AOL.p (P_assign (v := .fn _ _ _) rfl) rfl ?_
      refine AOL.nil ?_
      refine thenN ?_
      refine AW.seq ?_
      refine AW.region ?_
      refine AOL.p (P_move (v := .fn _ _ _) rfl) rfl ?_
      refine AOL.p (P_load_ptr_agg (l := [.int .i64 _, .int .i64 _, .str _]) tok rfl rfl rfl rfl rfl) rfl ?_
      refine AOL.p (P_load_ptr_agg (l := [.int .i64 _, .int .i64 _, .str _]) tok rfl rfl rfl rfl rfl) rfl ?_
      refine AOL.p (P_call (vf_fn k) rfl rfl rfl (vf_call k x y)) rfl ?_
      refine AOL.p (P_assign (v := .int .i64 _) rfl) rfl ?_
      refine AOL.nil ?_
      refine thenN ?_
      refine AW.seq ?_
      refine AW.region ?_
      refine AOL.p (P_move (v := .int .i64 _) rfl) rfl ?_
      refine AOL.p (P_neq rfl rfl) rfl ?_
      refine AOL.nil ?_
      refine thenN ?_
      refine AW.cond (b := _) rfl (fun hc2 => ?_) (fun hc2 => ?_)
      · skip
        refine AW.seq ?_
        refine AW.region ?_
        refine AOL.p (P_move (v := .int .i64 _) rfl) rfl ?_
        refine AOL.p (P_assign (v := .int .i64 _) rfl) rfl ?_
        refine AOL.nil ?_
        refine thenN ?_
        refine AW.ret ?_
        refine blkR ?_
        refine thenR ?_
        refine thenR ?_
        refine blkR ?_
        refine thenR ?_
        refine ⟨.inr rfl, [.int .i64 _], .cons (.tmp _ _ rfl) <| .nil, .refl _, ?_⟩
        exact congrArg (AV.int .i64) (vcmp_hit hk2 hR hc2).symm
      · skip
        refine AW.skip ?_
        refine blkN ?_
        refine thenN ?_
        refine AW.region ?_
        refine AOL.p (P_add rfl rfl rfl (by constructor <;> omega)) rfl ?_
        refine AOL.p (P_move (v := .int .i64 _) rfl) rfl ?_
        refine AOL.nil ?_
        refine thenN ?_
        refine ⟨k + 1, ?_, ?_, GS.weaken ⟨rfl, rfl, rfl, rfl, rfl, trivial⟩ (.refl _)⟩
        · exact below_succ hR hc2
        · omega
    · skip
      have hk2 : 2 ≤ k := by have := of_decide_eq_false hc1; omega
      refine AW.exit ?_
      refine thenE ?_
      refine thenE ?_
      refine blkHit ?_
      refine thenN ?_
      refine AW.seq ?_
      refine AW.region ?_
      refine AOL.p (P_fieldAddr_ptr (cs' := [.str _]) tok rfl rfl rfl rfl rfl rfl) rfl ?_
      refine AOL.p (P_load_ptr (c := .str _) tok rfl rfl rfl) rfl ?_
      refine AOL.p (P_fieldAddr_ptr (cs' := [.str _]) tok rfl rfl rfl rfl rfl rfl) rfl ?_
      refine AOL.p (P_load_ptr (c := .str _) tok rfl rfl rfl) rfl ?_
      refine AOL.p (P_callf (by kernel_rfl) rfl rfl (k_cmpT x.text y.text)) rfl ?_
      refine AOL.p (P_assign (v := .int .i64 _) rfl) rfl ?_
      refine AOL.nil ?_
      refine thenN ?_
      refine AW.ret ?_
      refine ⟨.inr rfl, [.int .i64 _], .cons (.tmp _ _ rfl) <| .nil, .refl _, ?_⟩
      exact congrArg (AV.int .i64) (vcmp_end hk2 hR).symm

end Go.Proofs.Ytfpbgdjloccdbaa
