/-
  Walks of layer 23: pairing of states. No condition.
-/
import Derived.Test.YtoolcpnahmgnnaaDoorW12
import Derived.Test.YtoolcpnahmgnnaaDoorC23
import Derived.KernelRfl
namespace Go.Proofs.YtoolcpnahmgnnaaDoor
open Go Go.Aw
set_option linter.unusedVariables false
set_option linter.unusedSimpArgs false

def repL (n k : Nat) : List Int := List.replicate k (-1) ++ List.replicate (n - k) 0
theorem repL_len {n k : Nat} (h : k ≤ n) : (repL n k).length = n := by unfold repL; simp; omega
theorem repL_full (n : Nat) : repL n n = none1 n := by unfold repL none1; simp
theorem bI_sc (l : List Int) : scalars (bI l) = true := by
  induction l with
  | nil => rfl
  | cons a r ih => exact ih
theorem bI_app (l m : List Int) : bI (l ++ m) = bI l ++ bI m := List.map_append ..
theorem bI_take (l : List Int) (k : Nat) : (bI l).take k = bI (l.take k) := (List.map_take ..).symm
theorem bI_drop (l : List Int) (k : Nat) : (bI l).drop k = bI (l.drop k) := (List.map_drop ..).symm
theorem repL_copy {n k m : Nat} (hk : k + m ≤ n) (hm : m ≤ k) : setSeg (bI (repL n k)) k (((bI (repL n k)).drop 0).take m) = bI (repL n (k + m)) := by
  rw [List.drop_zero, bI_take]
  have h1 : (repL n k).take m = List.replicate m (-1) := by
    unfold repL
    rw [List.take_append_of_le_length (by rw [List.length_replicate]; exact hm), List.take_replicate, Nat.min_eq_left hm]
  have h2 : (repL n k).take k = List.replicate k (-1) := by
    unfold repL
    rw [List.take_append_of_le_length (by rw [List.length_replicate]; omega), List.take_replicate, Nat.min_self]
  have h3 : (repL n k).drop (k + m) = List.replicate (n - (k + m)) 0 := by
    unfold repL
    rw [List.drop_append, List.length_replicate, List.drop_of_length_le (by rw [List.length_replicate]; omega), List.nil_append, List.drop_replicate]
    congr 1; omega
  unfold setSeg
  rw [h1, bI_len, List.length_replicate, bI_take, bI_drop, h2, h3, ← bI_app, ← bI_app]
  congr 1
  unfold repL
  rw [List.replicate_append_replicate]
theorem repL_first {n : Nat} (hn : 0 < n) : setSeg (bI (repL n 0)) 0 ((([[AV.int .i64 (-1)]] : List (List AV)).flatten).take 1) = bI (repL n 1) := by
  unfold repL
  obtain ⟨m, rfl⟩ : ∃ m, n = m + 1 := ⟨n - 1, by omega⟩
  simp [setSeg, bI, List.replicate_succ]
theorem kMul1 (n : Nat) (hn : n ≤ 1048576) : APure Tryd.prog 66 [.int .u64 1, .int .u64 (n : Int)] (.tuple [.int .u64 0, .int .u64 (n : Int)]) := by
  have h := kMul 1 n (by decide) (by omega)
  rw [Nat.one_mul, Nat.div_eq_of_lt (by omega), Nat.mod_eq_of_lt (by omega)] at h
  exact h
theorem u64_in {n : Nat} (h : n ≤ 1048576) : IntKind.wrap .u64 (n : Int) = (n : Int) := by
  unfold IntKind.wrap
  simp [IntKind.bits, IntKind.signed]
  omega
theorem i64_in {n : Nat} (h : n ≤ 1048576) : IntKind.wrap .i64 (n : Int) = (n : Int) := IntWalk.i64_in _ (by omega)
set_option maxRecDepth 20000 in
set_option maxHeartbeats 3200000 in
theorem s_repeat (H : List HO) (n : Nat) (h0 : 0 < n) (hn : n ≤ 1048576) : ACall Tryd.prog 46 H [.sl 1 [[.int .i64 (-1)]], .int .i64 (n : Int)] (fun r H' => ∃ b, r = .val (.slice (some ⟨b, 0, none⟩) n n) ∧ H' = .box b 3 (bI (none1 n)) :: H) := by
  have hmx : 1048576 ≤ maxLen := by decide
  refine ACall.body (n := 48) tok Tryd.func46 rfl rfl rfl ?_
  refine AW.seq ?_
  refine AW.region ?_
  refine AOL.p (P_assign_nil (z := 1) rfl) rfl ?_
  refine AOL.nil ?_
  refine thenN ?_
  refine AW.seq ?_
  refine AW.seq ?_
  refine AW.region ?_
  refine AOL.p (P_move (v := .int .i64 _) rfl) rfl ?_
  refine AOL.p (P_lss rfl rfl) rfl ?_
  refine AOL.nil ?_
  refine thenN ?_
  refine AW.cond (b := _) rfl (fun hc1 => ?_) (fun hc1 => ?_)
  · skip
    have := of_decide_eq_true hc1
    omega
  · skip
    refine AW.skip ?_
    refine thenN ?_
    refine AW.seq ?_
    refine AW.region ?_
    refine AOL.p (P_move (v := .sl _ _) rfl) rfl ?_
    refine AOL.p (P_len_sl (n := 1) tok rfl rfl rfl (rfl)) rfl ?_
    refine AOL.p (P_conv (m := 1) tok rfl rfl rfl rfl rfl (rfl)) rfl ?_
    refine AOL.p (P_move (v := .int .i64 _) rfl) rfl ?_
    refine AOL.p (P_conv (m := (n : Int)) tok rfl rfl rfl rfl rfl (u64_in hn)) rfl ?_
    refine AOL.p (P_callf (by kernel_rfl) rfl rfl (kMul1 n hn)) rfl ?_
    refine AOL.p (P_move (v := .tuple _) rfl) rfl ?_
    refine AOL.p (P_extract (v := .int .u64 _) rfl rfl) rfl ?_
    refine AOL.p (P_extract (v := .int .u64 _) rfl rfl) rfl ?_
    refine AOL.p (P_assign (v := .int .u64 _) rfl) rfl ?_
    refine AOL.p (P_assign (v := .int .u64 _) rfl) rfl ?_
    refine AOL.nil ?_
    refine thenN ?_
    refine AW.seq ?_
    refine AW.seq ?_
    refine AW.region ?_
    refine AOL.p (P_move (v := .int .u64 _) rfl) rfl ?_
    refine AOL.p (P_gtr rfl rfl) rfl ?_
    refine AOL.p (P_move (v := .bool _) rfl) rfl ?_
    refine AOL.g (y := .int .u64 _) _ [] rfl (EntL.all trivial) (fun hG => P_move (v := .int .u64 _) rfl) rfl ?_
    refine AOL.g (y := .bool _) _ [(24, _)] rfl (EntL.all ⟨Ent.self _ _, trivial⟩) (fun hG => P_gtr rfl rfl) rfl ?_
    refine AOL.p (P_pick_or rfl rfl rfl) rfl ?_
    refine AOL.nil ?_
    refine thenN ?_
    refine AW.cond (b := _) rfl (fun hc2 => ?_) (fun hc2 => ?_)
    · skip
      exact absurd hc2 (by simp; omega)
    · skip
      refine AW.skip ?_
      refine thenN ?_
      refine AW.seq ?_
      refine AW.region ?_
      refine AOL.p (P_move (v := .int .u64 _) rfl) rfl ?_
      refine AOL.p (P_conv (m := (n : Int)) tok rfl rfl rfl rfl rfl (i64_in hn)) rfl ?_
      refine AOL.e (E_makeSlice (n := n) tok rfl rfl rfl rfl rfl rfl rfl (by show 8 * n ≤ _; omega) (by omega)) rfl ?_
      rintro _ _ ⟨b30, rfl, rfl⟩
      refine AOL.p (P_assign (v := .val _) rfl) rfl ?_
      refine AOL.ghost (GS.cells 0 rfl ((bI_zero n).trans (congrArg bI (show List.replicate n 0 = repL n 0 by simp [repL])))) ?_
      refine AOL.nil ?_
      refine thenN ?_
      refine AW.seq ?_
      refine AW.region ?_
      refine AOL.p (P_move (v := .val _) rfl) rfl ?_
      refine AOL.p (P_move (v := .sl _ _) rfl) rfl ?_
      refine AOL.e (E_copySl (k := 0) (m := 1) (cs' := bI (repL n 1)) (H2 := _ :: _) tok rfl rfl rfl rfl rfl rfl rfl (by simp) (sc_one rfl) (Nat.min_eq_left (by show 1 ≤ n; omega)) (by rw [bI_len, repL_len (by omega)]; omega) (repL_first h0) rfl) rfl ?_
      rintro _ _ ⟨rfl, rfl⟩
      refine AOL.p (P_assign (v := .int .i64 _) rfl) rfl ?_
      refine AOL.nil ?_
      refine thenN ?_
      refine AW.seq ?_
      refine AW.block ?_
      refine AW.loopS (fun (k : Nat) => (⟨[(7, .val (.slice (some ⟨b30, 0, none⟩) n n)), (8, .int .i64 (k : Int))], .box b30 3 (bI (repL n k)) :: H, 48⟩ : St)) (fun (k : Nat) => 1 ≤ k ∧ k ≤ n) (fun (k : Nat) => n - k) (1) ?_ (GS.weaken ⟨rfl, rfl, trivial⟩ (.refl _)) ?_
      · exact ⟨Nat.le_refl _, h0⟩
      · rintro k hR
        refine AW.seq ?_
        refine AW.seq ?_
        refine AW.region ?_
        refine AOL.p (P_move (v := .int .i64 _) rfl) rfl ?_
        refine AOL.p (P_move (v := .val _) rfl) rfl ?_
        refine AOL.p (P_len_val tok rfl rfl rfl) rfl ?_
        refine AOL.p (P_lss rfl rfl) rfl ?_
        refine AOL.nil ?_
        refine thenN ?_
        refine AW.cond (b := _) rfl (fun hc3 => ?_) (fun hc3 => ?_)
        · skip
          have hlt : k < n := by have := of_decide_eq_true hc3; omega
          refine AW.skip ?_
          refine thenN ?_
          refine AW.block ?_
          refine AW.draw mixed (fun _ => True) trivial (by kernel_rfl) ?_
          refine Canon.pure _ _ 0 _ _ rfl (by kernel_rfl) (by kernel_rfl) rfl (.run rfl (P_move (v := .int .i64 _) rfl)) ?_
          refine Canon.pure _ _ 1 _ _ rfl (by kernel_rfl) (by kernel_rfl) rfl (.run rfl (P_move (v := .val _) rfl)) ?_
          refine Canon.pure _ _ 2 _ _ rfl (by kernel_rfl) (by kernel_rfl) rfl (.run rfl (P_move (v := .int .i64 _) rfl)) ?_
          refine Canon.pure _ _ 3 _ _ rfl (by kernel_rfl) (by kernel_rfl) rfl (.run rfl (P_slice_val (l := k) (h := n) (o' := k) tok rfl rfl rfl rfl rfl (⟨_, rfl⟩) (rfl) (by omega) (by omega) (by omega) (by omega) (by simp))) ?_
          refine Canon.pure _ _ 4 _ _ rfl (by kernel_rfl) (by kernel_rfl) rfl (.run rfl (P_move (v := .val _) rfl)) ?_
          refine Canon.pure _ _ 5 _ _ rfl (by kernel_rfl) (by kernel_rfl) rfl (.run rfl (P_move (v := .int .i64 _) rfl)) ?_
          refine Canon.pure _ _ 6 _ _ rfl (by kernel_rfl) (by kernel_rfl) rfl (.run rfl (P_slice_val (l := 0) (h := k) (o' := 0) tok rfl rfl rfl rfl rfl (rfl) (⟨_, rfl⟩) (by omega) (by omega) (by omega) (by omega) (rfl))) ?_
          refine Canon.eff _ _ 7 _ _ rfl (by kernel_rfl) rfl rfl (E_copyVal (k := 0) (m := min k (n - k)) (cs' := bI (repL n (k + min k (n - k)))) (H2 := _ :: _) tok rfl rfl rfl rfl rfl rfl rfl (bI_sc _) (by first | rfl | (simp only [Nat.sub_zero]; done) | (simp only [Nat.sub_zero]; rfl)) (by rw [bI_len, repL_len hR.2]; omega) (by rw [bI_len, repL_len hR.2]; omega) (repL_copy (by omega) (by omega)) rfl) (fun _ _ _ => trivial) ?_
          rintro _ _ ⟨rfl, rfl⟩
          refine Canon.pure _ _ 8 _ _ rfl (by kernel_rfl) (by kernel_rfl) rfl (.run rfl (P_add rfl rfl rfl (by constructor <;> omega))) ?_
          refine Canon.pure _ _ 9 _ _ rfl (by kernel_rfl) (by kernel_rfl) rfl (.run rfl (P_assign (v := .int .i64 _) rfl)) ?_
          refine Canon.done _ _ (by kernel_rfl) ?_
          refine blkN ?_
          refine thenN ?_
          refine ⟨k + min k (n - k), ?_, ?_, GS.weaken ⟨rfl, rfl, trivial⟩ (.refl _)⟩
          · omega
          · omega
        · skip
          have hkn : k = n := by have := of_decide_eq_false hc3; omega
          refine AW.exit ?_
          refine thenE ?_
          refine thenE ?_
          refine blkHit ?_
          refine thenN ?_
          refine AW.seq ?_
          refine AW.region ?_
          refine AOL.p (P_move (v := .val _) rfl) rfl ?_
          refine AOL.p (P_assign (v := .val _) rfl) rfl ?_
          refine AOL.nil ?_
          refine thenN ?_
          refine AW.ret ?_
          refine ⟨.inr rfl, [.val _], .cons (.tmp _ _ rfl) <| .nil, _, .refl _, ?_⟩
          exact ⟨b30, rfl, congrArg (fun l => HO.box b30 3 (bI l) :: H) ((congrArg (repL n) hkn).trans (repL_full n))⟩
theorem n0 {s : Int} (h : decide (s < 0) = false) : 0 ≤ s := by have := of_decide_eq_false h; omega
theorem wf1 {b w : Bool} {G : List (Bool × Bool)} (h : allG ((b, w) :: G)) : b = w := h _ (List.mem_cons_self ..)
def stepD (pr : Pg → Int → Int → Bool × Pg) (q : Pg) (x y : Ed) : Pg := if sameEd x y then (pr q x.dst y.dst).2 else q
theorem stepD_yes {pr : Pg → Int → Int → Bool × Pg} {q : Pg} {x y : Ed} (h : sameEd x y = true) : stepD pr q x y = (pr q x.dst y.dst).2 := by unfold stepD; rw [if_pos h]
theorem stepD_no {pr : Pg → Int → Int → Bool × Pg} {q : Pg} {x y : Ed} (h : sameEd x y = false) : stepD pr q x y = q := by unfold stepD; rw [if_neg (by rw [h]; decide)]
theorem pairL_step {pr : Pg → Int → Int → Bool × Pg} {x y : Ed} {l m : List Ed} {k : Nat} {p : Pg} (hx : l[k]? = some x) (hy : m[k]? = some y) : pairL pr (l.drop k) (m.drop k) p =
    if !(sameEd x y) || !((pr p x.dst y.dst).1) then (false, stepD pr p x y) else pairL pr (l.drop (k + 1)) (m.drop (k + 1)) (stepD pr p x y) := by
  rw [drop_cons hx, drop_cons hy, pairL]
  unfold stepD
  cases h : sameEd x y <;> simp
theorem pairL_end {pr : Pg → Int → Int → Bool × Pg} {l m : List Ed} {k : Nat} {p : Pg} (h : l.length ≤ k) : pairL pr (l.drop k) (m.drop k) p = (true, p) := by
  rw [List.drop_eq_nil_of_le h]
  unfold pairL
  cases m.drop k <;> rfl
theorem neg_of {v : Int} (h : decide (0 ≤ v) = false) : v < 0 := by have := of_decide_eq_false h; omega
theorem not_gf {b : Bool} (h : ¬ allG [(!b, false)]) : b = false := by
  cases b with
  | false => rfl
  | true => exact absurd (fun p hp => by rw [List.mem_singleton.1 hp]; rfl) h
theorem both_in {s t : Int} (h : (decide (s < 0) != decide (t < 0)) = false) (h0 : 0 ≤ s) : 0 ≤ t := by
  rw [bne_eq_false_iff_eq, decide_eq_decide] at h; omega
set_option maxRecDepth 20000 in
set_option maxHeartbeats 12800000 in
theorem a_pair (bT bK : Nat) (a b : Au) (sa : Sm a) (sb : Sm b) (ha : EdR a.states.length a.edges) (hb : EdR b.states.length b.edges) (R : List HO) (f : Nat) (p : Pg) (s t : Int) (iv : Inv a b p) (hs : 0 ≤ s → InR a.states.length s) (ht : 0 ≤ t → InR b.states.length t) (hu : unp p.1 < f) : ACall Tryd.prog 47 (.box bT 3 (bI p.1) :: .box bK 3 (bI p.2) :: R) [.ptr [.int .i64 a.vars, .int .i64 a.scopes, .sl 1 (a.states.map cSt), .sl 17 (a.edges.map cEd), .int .i64 b.vars, .int .i64 b.scopes, .sl 1 (b.states.map cSt), .sl 17 (b.edges.map cEd), .val (.slice (some ⟨bT, 0, none⟩) a.states.length a.states.length), .val (.slice (some ⟨bK, 0, none⟩) b.states.length b.states.length)], .int .i64 s, .int .i64 t] (fun r H' => r = .bool (pairD a b f p s t).1 ∧ H' = .box bT 3 (bI (pairD a b f p s t).2.1) :: .box bK 3 (bI (pairD a b f p s t).2.2) :: R) := by
  induction f generalizing p s t
  · exact absurd hu (Nat.not_lt_zero _)
  rename_i f ih
  refine ACall.body (n := 169) tok Tryd.func47 rfl rfl rfl ?_
  refine AW.seq ?_
  refine AW.region ?_
  refine AOL.p (P_assign (v := .bool _) rfl) rfl ?_
  refine AOL.nil ?_
  refine thenN ?_
  refine AW.seq ?_
  refine AW.seq ?_
  refine AW.region ?_
  refine AOL.p (P_move (v := .int .i64 _) rfl) rfl ?_
  refine AOL.p (P_lss rfl rfl) rfl ?_
  refine AOL.p (P_move (v := .int .i64 _) rfl) rfl ?_
  refine AOL.p (P_lss rfl rfl) rfl ?_
  refine AOL.p (P_neq_bool tok rfl rfl rfl rfl) rfl ?_
  refine AOL.nil ?_
  refine thenN ?_
  refine AW.cond (b := _) rfl (fun hc1 => ?_) (fun hc1 => ?_)
  · skip
    have h9 : (pairD a b (f + 1) p s t) = (false, p) := by rw [pairD]; exact (if_pos hc1)
    refine AW.seq ?_
    refine AW.region ?_
    refine AOL.p (P_assign (v := .bool _) rfl) rfl ?_
    refine AOL.nil ?_
    refine thenN ?_
    refine AW.ret ?_
    refine thenR ?_
    refine ⟨.inr rfl, [.bool _], .cons (.tmp _ _ rfl) <| .nil, _, .refl _, ?_⟩
    exact ⟨congrArg (fun x : Bool × Pg => AV.bool x.1) (h9).symm, congrArg (fun x : Bool × Pg => HO.box bT 3 (bI x.2.1) :: HO.box bK 3 (bI x.2.2) :: R) (h9).symm⟩
  · skip
    refine AW.skip ?_
    refine thenN ?_
    refine AW.seq ?_
    refine AW.seq ?_
    refine AW.region ?_
    refine AOL.p (P_move (v := .int .i64 _) rfl) rfl ?_
    refine AOL.p (P_lss rfl rfl) rfl ?_
    refine AOL.p (P_move (v := .bool _) rfl) rfl ?_
    refine AOL.g (y := .ptr _) _ [] rfl (EntL.all trivial) (fun hG => P_move (v := .ptr _) rfl) rfl ?_
    refine AOL.g (y := .ptr _) _ [(18, _)] rfl (EntL.all ⟨Ent.self _ _, trivial⟩) (fun hG => P_nilCheck_ptr rfl) rfl ?_
    refine AOL.g (y := .ptr _) _ [(19, _)] rfl (EntL.all ⟨Ent.self _ _, trivial⟩) (fun hG => P_fieldAddr_ptr (cs' := [_, _]) tok rfl rfl rfl rfl rfl rfl) rfl ?_
    refine AOL.g (y := .val _) _ [(20, _)] rfl (EntL.all ⟨Ent.self _ _, trivial⟩) (fun hG => P_load_ptr (c := .val _) tok rfl rfl rfl) rfl ?_
    refine AOL.g (y := .int .i64 _) _ [] rfl (EntL.all trivial) (fun hG => P_move (v := .int .i64 _) rfl) rfl ?_
    refine AOL.g (y := .val _) _ [(21, _), (22, _)] rfl (EntL.all ⟨Ent.self _ _, Ent.self _ _, trivial⟩) (fun hG => P_indexAddr_val tok rfl rfl rfl rfl rfl ((hs (n0 (wf1 hG))).1) ((hs (n0 (wf1 hG))).lt) (off1 _)) rfl ?_
    refine AOL.gk (y := .int .i64 _) _ [(23, _)] rfl (EntL.all ⟨Ent.self _ _, trivial⟩) (fun hG => P_load_box (k := 0) (c := .int .i64 (toS p.1 s)) tok rfl rfl rfl (bI_get (by rw [iv.l1]; exact (hs (n0 (wf1 hG))).2))) rfl rfl ?_
    refine AOL.g (y := .int .i64 _) _ [] rfl (EntL.all trivial) (fun hG => P_move (v := .int .i64 _) rfl) rfl ?_
    refine AOL.g (y := .bool _) _ [(24, _), (25, _)] rfl (EntL.all ⟨Ent.self _ _, Ent.self _ _, trivial⟩) (fun hG => P_eql rfl rfl) rfl ?_
    refine AOL.g (y := .bool _) _ [(26, _)] rfl (EntL.all ⟨Ent.self _ _, trivial⟩) (fun hG => P_move (v := .bool _) rfl) rfl ?_
    refine AOL.g (y := .ptr _) _ [] rfl (EntL.all trivial) (fun hG => P_move (v := .ptr _) rfl) rfl ?_
    refine AOL.g (y := .ptr _) _ [(28, _)] rfl (EntL.all ⟨Ent.self _ _, trivial⟩) (fun hG => P_nilCheck_ptr rfl) rfl ?_
    refine AOL.g (y := .ptr _) _ [(29, _)] rfl (EntL.all ⟨Ent.self _ _, trivial⟩) (fun hG => P_fieldAddr_ptr (cs' := [_]) tok rfl rfl rfl rfl rfl rfl) rfl ?_
    refine AOL.g (y := .val _) _ [(30, _)] rfl (EntL.all ⟨Ent.self _ _, trivial⟩) (fun hG => P_load_ptr (c := .val _) tok rfl rfl rfl) rfl ?_
    refine AOL.g (y := .int .i64 _) _ [] rfl (EntL.all trivial) (fun hG => P_move (v := .int .i64 _) rfl) rfl ?_
    refine AOL.g (y := .val _) _ [(31, _), (32, _)] rfl (EntL.all ⟨Ent.self _ _, Ent.self _ _, trivial⟩) (fun hG => P_indexAddr_val tok rfl rfl rfl rfl rfl ((ht (both_in hc1 (n0 (wf1 hG)))).1) ((ht (both_in hc1 (n0 (wf1 hG)))).lt) (off1 _)) rfl ?_
    refine AOL.gk (y := .int .i64 _) _ [(33, _)] rfl (EntL.all ⟨Ent.self _ _, trivial⟩) (fun hG => P_load_box (k := 1) (c := .int .i64 (toS p.2 t)) tok rfl rfl rfl (bI_get (by rw [iv.l2]; exact (ht (both_in hc1 (n0 (wf1 hG)))).2))) rfl rfl ?_
    refine AOL.g (y := .int .i64 _) _ [] rfl (EntL.all trivial) (fun hG => P_move (v := .int .i64 _) rfl) rfl ?_
    refine AOL.g (y := .bool _) _ [(34, _), (35, _)] rfl (EntL.all ⟨Ent.self _ _, Ent.self _ _, trivial⟩) (fun hG => P_eql rfl rfl) rfl ?_
    refine AOL.g (y := .bool _) _ [(27, _), (36, _)] rfl (EntL.all ⟨Ent.self _ _, Ent.suf _ _ _, trivial⟩) (fun hG => P_pick_and rfl rfl rfl) rfl ?_
    refine AOL.p (P_pick_or rfl rfl rfl) rfl ?_
    refine AOL.nil ?_
    refine thenN ?_
    refine AW.cond (b := _) rfl (fun hc2 => ?_) (fun hc2 => ?_)
    · skip
      have h9 : (pairD a b (f + 1) p s t) = (true, p) := by rw [pairD]; exact ((if_neg (Bool.eq_false_iff.mp hc1)).trans (if_pos hc2))
      refine AW.seq ?_
      refine AW.region ?_
      refine AOL.p (P_assign (v := .bool _) rfl) rfl ?_
      refine AOL.nil ?_
      refine thenN ?_
      refine AW.ret ?_
      refine thenR ?_
      refine ⟨.inr rfl, [.bool _], .cons (.tmp _ _ rfl) <| .nil, _, .refl _, ?_⟩
      exact ⟨congrArg (fun x : Bool × Pg => AV.bool x.1) (h9).symm, congrArg (fun x : Bool × Pg => HO.box bT 3 (bI x.2.1) :: HO.box bK 3 (bI x.2.2) :: R) (h9).symm⟩
    · skip
      have h0 : decide (s < 0) = false := (Bool.or_eq_false_iff.1 hc2).1
      have hs1 := hs (n0 h0)
      have ht1 := ht (both_in hc1 (n0 h0))
      have hga := stS_at hs1
      have hgb := stS_at ht1
      have hgs := sa.g _ (List.mem_of_getElem? hga)
      refine AW.skip ?_
      refine thenN ?_
      refine AW.seq ?_
      refine AW.seq ?_
      refine AW.draw mixed (fun H' => _ ∈ H' ∧ _ ∈ H') ⟨(List.mem_of_getElem? (i := 0) rfl), (List.mem_of_getElem? (i := 1) rfl)⟩ (by kernel_rfl) ?_
      refine Canon.pure _ _ 0 _ _ rfl (by kernel_rfl) (by kernel_rfl) rfl (.run rfl (P_move (v := .ptr _) rfl)) ?_
      refine Canon.pure _ _ 1 _ _ rfl (by kernel_rfl) (by kernel_rfl) rfl (.run rfl (P_nilCheck_ptr rfl)) ?_
      refine Canon.pure _ _ 2 _ _ rfl (by kernel_rfl) (by kernel_rfl) rfl (.run rfl (P_fieldAddr_ptr (cs' := [_, _]) tok rfl rfl rfl rfl rfl rfl)) ?_
      refine Canon.pure _ _ 3 _ _ rfl (by kernel_rfl) (by kernel_rfl) rfl (.run rfl (P_load_ptr (c := .val _) tok rfl rfl rfl)) ?_
      refine Canon.pure _ _ 4 _ _ rfl (by kernel_rfl) (by kernel_rfl) rfl (.run rfl (P_move (v := .int .i64 _) rfl)) ?_
      refine Canon.pure _ _ 5 _ _ rfl (by kernel_rfl) (by kernel_rfl) rfl (.run rfl (P_indexAddr_val tok rfl rfl rfl rfl rfl (hs1.1) (hs1.lt) (off1 _))) ?_
      refine Canon.pure _ _ 6 _ _ rfl (by kernel_rfl) (by kernel_rfl) rfl (.run rfl (OpP.mem (fun k => P_load_box (k := k) (c := .int .i64 (toS p.1 s)) tok rfl rfl rfl (bI_get (by rw [iv.l1]; exact hs1.2))) (fun _ h => h.1))) ?_
      refine Canon.pure _ _ 7 _ _ rfl (by kernel_rfl) (by kernel_rfl) rfl (.run rfl (P_geq rfl rfl)) ?_
      refine Canon.pure _ _ 8 _ _ rfl (by kernel_rfl) (by kernel_rfl) rfl (.run rfl (P_move (v := .bool _) rfl)) ?_
      refine Canon.pure _ _ 9 _ _ rfl (by kernel_rfl) (by kernel_rfl) rfl (.opt _ (.ptr _) [] rfl (EntL.all trivial) (fun hG => P_move (v := .ptr _) rfl) rfl) ?_
      refine Canon.pure _ _ 10 _ _ rfl (by kernel_rfl) (by kernel_rfl) rfl (.opt _ (.ptr _) [(48, _)] rfl (EntL.all ⟨Ent.self _ _, trivial⟩) (fun hG => P_nilCheck_ptr rfl) rfl) ?_
      refine Canon.pure _ _ 11 _ _ rfl (by kernel_rfl) (by kernel_rfl) rfl (.opt _ (.ptr _) [(49, _)] rfl (EntL.all ⟨Ent.self _ _, trivial⟩) (fun hG => P_fieldAddr_ptr (cs' := [_]) tok rfl rfl rfl rfl rfl rfl) rfl) ?_
      refine Canon.pure _ _ 12 _ _ rfl (by kernel_rfl) (by kernel_rfl) rfl (.opt _ (.val _) [(50, _)] rfl (EntL.all ⟨Ent.self _ _, trivial⟩) (fun hG => P_load_ptr (c := .val _) tok rfl rfl rfl) rfl) ?_
      refine Canon.pure _ _ 13 _ _ rfl (by kernel_rfl) (by kernel_rfl) rfl (.opt _ (.int .i64 _) [] rfl (EntL.all trivial) (fun hG => P_move (v := .int .i64 _) rfl) rfl) ?_
      refine Canon.pure _ _ 14 _ _ rfl (by kernel_rfl) (by kernel_rfl) rfl (.opt _ (.val _) [(51, _), (52, _)] rfl (EntL.all ⟨Ent.self _ _, Ent.self _ _, trivial⟩) (fun hG => P_indexAddr_val tok rfl rfl rfl rfl rfl (ht1.1) (ht1.lt) (off1 _)) rfl) ?_
      refine Canon.pure _ _ 15 _ _ rfl (by kernel_rfl) (by kernel_rfl) rfl (.opt _ (.int .i64 _) [(53, _)] rfl (EntL.all ⟨Ent.self _ _, trivial⟩) (fun hG => OpP.mem (fun k => P_load_box (k := k) (c := .int .i64 (toS p.2 t)) tok rfl rfl rfl (bI_get (by rw [iv.l2]; exact ht1.2))) (fun _ h => h.2)) rfl) ?_
      refine Canon.pure _ _ 16 _ _ rfl (by kernel_rfl) (by kernel_rfl) rfl (.opt _ (.bool _) [(54, _)] rfl (EntL.all ⟨Ent.self _ _, trivial⟩) (fun hG => P_geq rfl rfl) rfl) ?_
      refine Canon.pure _ _ 17 _ _ rfl (by kernel_rfl) (by kernel_rfl) rfl (.run rfl (P_pick_or rfl rfl rfl)) ?_
      refine Canon.pure _ _ 18 _ _ rfl (by kernel_rfl) (by kernel_rfl) rfl (.run rfl (P_move (v := .bool _) rfl)) ?_
      refine Canon.pure _ _ 19 _ _ rfl (by kernel_rfl) (by kernel_rfl) rfl (.opt _ (.ptr _) [] rfl (EntL.all trivial) (fun hG => P_move (v := .ptr _) rfl) rfl) ?_
      refine Canon.pure _ _ 20 _ _ rfl (by kernel_rfl) (by kernel_rfl) rfl (.opt _ (.ptr _) [(58, _)] rfl (EntL.all ⟨Ent.self _ _, trivial⟩) (fun hG => P_nilCheck_ptr rfl) rfl) ?_
      refine Canon.pure _ _ 21 _ _ rfl (by kernel_rfl) (by kernel_rfl) rfl (.opt _ (.ptr _) [(59, _)] rfl (EntL.all ⟨Ent.self _ _, trivial⟩) (fun hG => P_fieldAddr_ptr (cs' := [.int .i64 _, .int .i64 _, _, _, .int .i64 _, .int .i64 _, _, _, _, _]) tok rfl rfl rfl rfl rfl rfl) rfl) ?_
      refine Canon.pure _ _ 22 _ _ rfl (by kernel_rfl) (by kernel_rfl) rfl (.opt _ (.ptr _) [(60, _)] rfl (EntL.all ⟨Ent.self _ _, trivial⟩) (fun hG => P_fieldAddr_ptr (cs' := [_, _, .int .i64 _, .int .i64 _, _, _, _, _]) tok rfl rfl rfl rfl rfl rfl) rfl) ?_
      refine Canon.pure _ _ 23 _ _ rfl (by kernel_rfl) (by kernel_rfl) rfl (.opt _ (.sl _ _) [(61, _)] rfl (EntL.all ⟨Ent.self _ _, trivial⟩) (fun hG => P_load_ptr (c := .sl _ _) tok rfl rfl rfl) rfl) ?_
      refine Canon.pure _ _ 24 _ _ rfl (by kernel_rfl) (by kernel_rfl) rfl (.opt _ (.int .i64 _) [] rfl (EntL.all trivial) (fun hG => P_move (v := .int .i64 _) rfl) rfl) ?_
      refine Canon.pure _ _ 25 _ _ rfl (by kernel_rfl) (by kernel_rfl) rfl (.opt _ (.ptr _) [(62, _), (63, _)] rfl (EntL.all ⟨Ent.self _ _, Ent.self _ _, trivial⟩) (fun hG => P_indexAddr (c := [_]) tok rfl rfl rfl rfl rfl rfl (hs1.1) (cSt_at hga)) rfl) ?_
      refine Canon.pure _ _ 26 _ _ rfl (by kernel_rfl) (by kernel_rfl) rfl (.opt _ (.ptr _) [(64, _)] rfl (EntL.all ⟨Ent.self _ _, trivial⟩) (fun hG => P_fieldAddr_ptr (cs' := [_]) tok rfl rfl rfl rfl rfl rfl) rfl) ?_
      refine Canon.pure _ _ 27 _ _ rfl (by kernel_rfl) (by kernel_rfl) rfl (.opt _ (.sl _ _) [(65, _)] rfl (EntL.all ⟨Ent.self _ _, trivial⟩) (fun hG => P_load_ptr (c := .sl _ _) tok rfl rfl rfl) rfl) ?_
      refine Canon.pure _ _ 28 _ _ rfl (by kernel_rfl) (by kernel_rfl) rfl (.opt _ (.ptr _) [] rfl (EntL.all trivial) (fun hG => P_move (v := .ptr _) rfl) rfl) ?_
      refine Canon.pure _ _ 29 _ _ rfl (by kernel_rfl) (by kernel_rfl) rfl (.opt _ (.ptr _) [(67, _)] rfl (EntL.all ⟨Ent.self _ _, trivial⟩) (fun hG => P_nilCheck_ptr rfl) rfl) ?_
      refine Canon.pure _ _ 30 _ _ rfl (by kernel_rfl) (by kernel_rfl) rfl (.opt _ (.ptr _) [(68, _)] rfl (EntL.all ⟨Ent.self _ _, trivial⟩) (fun hG => P_fieldAddr_ptr (cs' := [.int .i64 _, .int .i64 _, _, _, _, _]) tok rfl rfl rfl rfl rfl rfl) rfl) ?_
      refine Canon.pure _ _ 31 _ _ rfl (by kernel_rfl) (by kernel_rfl) rfl (.opt _ (.ptr _) [(69, _)] rfl (EntL.all ⟨Ent.self _ _, trivial⟩) (fun hG => P_fieldAddr_ptr (cs' := [_, _, _, _]) tok rfl rfl rfl rfl rfl rfl) rfl) ?_
      refine Canon.pure _ _ 32 _ _ rfl (by kernel_rfl) (by kernel_rfl) rfl (.opt _ (.sl _ _) [(70, _)] rfl (EntL.all ⟨Ent.self _ _, trivial⟩) (fun hG => P_load_ptr (c := .sl _ _) tok rfl rfl rfl) rfl) ?_
      refine Canon.pure _ _ 33 _ _ rfl (by kernel_rfl) (by kernel_rfl) rfl (.opt _ (.int .i64 _) [] rfl (EntL.all trivial) (fun hG => P_move (v := .int .i64 _) rfl) rfl) ?_
      refine Canon.pure _ _ 34 _ _ rfl (by kernel_rfl) (by kernel_rfl) rfl (.opt _ (.ptr _) [(71, _), (72, _)] rfl (EntL.all ⟨Ent.self _ _, Ent.self _ _, trivial⟩) (fun hG => P_indexAddr (c := [_]) tok rfl rfl rfl rfl rfl rfl (ht1.1) (cSt_at hgb)) rfl) ?_
      refine Canon.pure _ _ 35 _ _ rfl (by kernel_rfl) (by kernel_rfl) rfl (.opt _ (.ptr _) [(73, _)] rfl (EntL.all ⟨Ent.self _ _, trivial⟩) (fun hG => P_fieldAddr_ptr (cs' := [_]) tok rfl rfl rfl rfl rfl rfl) rfl) ?_
      refine Canon.pure _ _ 36 _ _ rfl (by kernel_rfl) (by kernel_rfl) rfl (.opt _ (.sl _ _) [(74, _)] rfl (EntL.all ⟨Ent.self _ _, trivial⟩) (fun hG => P_load_ptr (c := .sl _ _) tok rfl rfl rfl) rfl) ?_
      refine Canon.pure _ _ 37 _ _ rfl (by kernel_rfl) (by kernel_rfl) rfl (.opt _ (.bool _) [(66, _), (75, _)] rfl (EntL.all ⟨Ent.self _ _, Ent.self _ _, trivial⟩) (fun hG => P_callf (by kernel_rfl) rfl rfl (a_sameGuards (stS a s) (stS b t) hgs)) rfl) ?_
      refine Canon.pure _ _ 38 _ _ rfl (by kernel_rfl) (by kernel_rfl) rfl (.opt _ (.bool _) [(76, _)] rfl (EntL.all ⟨Ent.self _ _, trivial⟩) (fun hG => P_not rfl) rfl) ?_
      refine Canon.pure _ _ 39 _ _ rfl (by kernel_rfl) (by kernel_rfl) rfl (.run rfl (P_pick_or rfl rfl rfl)) ?_
      refine Canon.done _ _ (by kernel_rfl) ?_
      refine thenN ?_
      refine AW.cond (b := _) rfl (fun hc3 => ?_) (fun hc3 => ?_)
      · skip
        have h9 : (pairD a b (f + 1) p s t) = (false, p) := by rw [pairD]; exact ((if_neg (Bool.eq_false_iff.mp hc1)).trans ((if_neg (Bool.eq_false_iff.mp hc2)).trans (if_pos hc3)))
        refine AW.seq ?_
        refine AW.region ?_
        refine AOL.p (P_assign (v := .bool _) rfl) rfl ?_
        refine AOL.nil ?_
        refine thenN ?_
        refine AW.ret ?_
        refine thenR ?_
        refine ⟨.inr rfl, [.bool _], .cons (.tmp _ _ rfl) <| .nil, _, .refl _, ?_⟩
        exact ⟨congrArg (fun x : Bool × Pg => AV.bool x.1) (h9).symm, congrArg (fun x : Bool × Pg => HO.box bT 3 (bI x.2.1) :: HO.box bK 3 (bI x.2.2) :: R) (h9).symm⟩
      · skip
        have h3 := Bool.or_eq_false_iff.1 hc3
        have h31 := Bool.or_eq_false_iff.1 h3.1
        have hn1 := neg_of h31.1
        have hn2 := neg_of h31.2
        have iv1 := (put_ok iv hs1 ht1 hn1 hn2).1
        have hu1 : unp (putS' p.1 s t) < f := by have h := unp_put (l := p.1) (i := s.toNat) (v := t) hn1 ht1.1; unfold putS'; omega
        have hLl : (fromS a.edges s).length ≤ 1048576 := Nat.le_trans (List.length_filter_le ..) sa.m
        refine AW.skip ?_
        refine thenN ?_
        refine AW.cut (fun (_ : Unit) => (⟨[(0, .ptr [.int .i64 a.vars, .int .i64 a.scopes, .sl 1 (a.states.map cSt), .sl 17 (a.edges.map cEd), .int .i64 b.vars, .int .i64 b.scopes, .sl 1 (b.states.map cSt), .sl 17 (b.edges.map cEd), .val (.slice (some ⟨bT, 0, none⟩) a.states.length a.states.length), .val (.slice (some ⟨bK, 0, none⟩) b.states.length b.states.length)]), (1, .int .i64 s), (2, .int .i64 t)], .box bT 3 (bI (putS' p.1 s t, putS' p.2 t s).1) :: .box bK 3 (bI (putS' p.1 s t, putS' p.2 t s).2) :: R, 169⟩ : St)) (fun (_ : Unit) => True) ?_ ?_
        · skip
          refine AW.draw mixed (fun _ => True) trivial (by kernel_rfl) ?_
          refine Canon.pure _ _ 0 _ _ rfl (by kernel_rfl) (by kernel_rfl) rfl (.run rfl (P_move (v := .ptr _) rfl)) ?_
          refine Canon.pure _ _ 1 _ _ rfl (by kernel_rfl) (by kernel_rfl) rfl (.run rfl (P_nilCheck_ptr rfl)) ?_
          refine Canon.pure _ _ 2 _ _ rfl (by kernel_rfl) (by kernel_rfl) rfl (.run rfl (P_fieldAddr_ptr (cs' := [_, _]) tok rfl rfl rfl rfl rfl rfl)) ?_
          refine Canon.pure _ _ 3 _ _ rfl (by kernel_rfl) (by kernel_rfl) rfl (.run rfl (P_load_ptr (c := .val _) tok rfl rfl rfl)) ?_
          refine Canon.pure _ _ 4 _ _ rfl (by kernel_rfl) (by kernel_rfl) rfl (.run rfl (P_move (v := .int .i64 _) rfl)) ?_
          refine Canon.pure _ _ 5 _ _ rfl (by kernel_rfl) (by kernel_rfl) rfl (.run rfl (P_move (v := .ptr _) rfl)) ?_
          refine Canon.pure _ _ 6 _ _ rfl (by kernel_rfl) (by kernel_rfl) rfl (.run rfl (P_nilCheck_ptr rfl)) ?_
          refine Canon.pure _ _ 7 _ _ rfl (by kernel_rfl) (by kernel_rfl) rfl (.run rfl (P_fieldAddr_ptr (cs' := [_]) tok rfl rfl rfl rfl rfl rfl)) ?_
          refine Canon.pure _ _ 8 _ _ rfl (by kernel_rfl) (by kernel_rfl) rfl (.run rfl (P_load_ptr (c := .val _) tok rfl rfl rfl)) ?_
          refine Canon.pure _ _ 9 _ _ rfl (by kernel_rfl) (by kernel_rfl) rfl (.run rfl (P_move (v := .int .i64 _) rfl)) ?_
          refine Canon.pure _ _ 10 _ _ rfl (by kernel_rfl) (by kernel_rfl) rfl (.run rfl (P_move (v := .int .i64 _) rfl)) ?_
          refine Canon.pure _ _ 11 _ _ rfl (by kernel_rfl) (by kernel_rfl) rfl (.run rfl (P_move (v := .int .i64 _) rfl)) ?_
          refine Canon.pure _ _ 12 _ _ rfl (by kernel_rfl) (by kernel_rfl) rfl (.run rfl (P_indexAddr_val tok rfl rfl rfl rfl rfl (hs1.1) (hs1.lt) (off1 _))) ?_
          refine Canon.eff _ _ 13 _ _ rfl (by kernel_rfl) rfl rfl (E_store (k := 0) (v := .int .i64 _) (cs' := bI (putS' p.1 s t)) (H2 := _ :: _ :: _) tok rfl rfl rfl rfl rfl rfl (by rw [bI_len, iv.l1]; exact Nat.ble_eq_true_of_le (by show s.toNat + 1 ≤ _; exact hs1.2)) (bI_put (by rw [iv.l1]; exact hs1.2)) rfl) (fun _ _ _ => trivial) ?_
          rintro _ _ ⟨rfl, rfl⟩
          refine Canon.pure _ _ 14 _ _ rfl (by kernel_rfl) (by kernel_rfl) rfl (.run rfl (P_indexAddr_val tok rfl rfl rfl rfl rfl (ht1.1) (ht1.lt) (off1 _))) ?_
          refine Canon.eff _ _ 15 _ _ rfl (by kernel_rfl) rfl rfl (E_store (k := 1) (v := .int .i64 _) (cs' := bI (putS' p.2 t s)) (H2 := _ :: _ :: _) tok rfl rfl rfl rfl rfl rfl (by rw [bI_len, iv.l2]; exact Nat.ble_eq_true_of_le (by show t.toNat + 1 ≤ _; exact ht1.2)) (bI_put (by rw [iv.l2]; exact ht1.2)) rfl) (fun _ _ _ => trivial) ?_
          rintro _ _ ⟨rfl, rfl⟩
          refine Canon.done _ _ (by kernel_rfl) ?_
          refine thenN ?_
          refine ⟨(), ?_, GS.weaken ⟨rfl, rfl, rfl, trivial⟩ (.refl _)⟩
          trivial
        · rintro _ _
          refine AW.seq ?_
          refine AW.draw mixed (fun _ => True) trivial (by kernel_rfl) ?_
          refine Canon.pure _ _ 0 _ _ rfl (by kernel_rfl) (by kernel_rfl) rfl (.run rfl (P_move (v := .ptr _) rfl)) ?_
          refine Canon.pure _ _ 1 _ _ rfl (by kernel_rfl) (by kernel_rfl) rfl (.run rfl (P_nilCheck_ptr rfl)) ?_
          refine Canon.pure _ _ 2 _ _ rfl (by kernel_rfl) (by kernel_rfl) rfl (.run rfl (P_fieldAddr_ptr (cs' := [.int .i64 _, .int .i64 _, _, _, .int .i64 _, .int .i64 _, _, _, _, _]) tok rfl rfl rfl rfl rfl rfl)) ?_
          refine Canon.pure _ _ 3 _ _ rfl (by kernel_rfl) (by kernel_rfl) rfl (.run rfl (P_load_ptr_agg (l := [.int .i64 _, .int .i64 _, _, _]) tok rfl rfl rfl rfl rfl)) ?_
          refine Canon.pure _ _ 4 _ _ rfl (by kernel_rfl) (by kernel_rfl) rfl (.run rfl (P_move (v := .int .i64 _) rfl)) ?_
          refine Canon.pure _ _ 5 _ _ rfl (by kernel_rfl) (by kernel_rfl) rfl (.run rfl (P_callf (by kernel_rfl) rfl rfl (a_leaving a s sa.m))) ?_
          refine Canon.pure _ _ 6 _ _ rfl (by kernel_rfl) (by kernel_rfl) rfl (.run rfl (P_move (v := .ptr _) rfl)) ?_
          refine Canon.pure _ _ 7 _ _ rfl (by kernel_rfl) (by kernel_rfl) rfl (.run rfl (P_nilCheck_ptr rfl)) ?_
          refine Canon.pure _ _ 8 _ _ rfl (by kernel_rfl) (by kernel_rfl) rfl (.run rfl (P_fieldAddr_ptr (cs' := [.int .i64 _, .int .i64 _, _, _, _, _]) tok rfl rfl rfl rfl rfl rfl)) ?_
          refine Canon.pure _ _ 9 _ _ rfl (by kernel_rfl) (by kernel_rfl) rfl (.run rfl (P_load_ptr_agg (l := [.int .i64 _, .int .i64 _, _, _]) tok rfl rfl rfl rfl rfl)) ?_
          refine Canon.pure _ _ 10 _ _ rfl (by kernel_rfl) (by kernel_rfl) rfl (.run rfl (P_move (v := .int .i64 _) rfl)) ?_
          refine Canon.pure _ _ 11 _ _ rfl (by kernel_rfl) (by kernel_rfl) rfl (.run rfl (P_callf (by kernel_rfl) rfl rfl (a_leaving b t sb.m))) ?_
          refine Canon.pure _ _ 12 _ _ rfl (by kernel_rfl) (by kernel_rfl) rfl (.run rfl (P_assign (v := .sl _ _) rfl)) ?_
          refine Canon.pure _ _ 13 _ _ rfl (by kernel_rfl) (by kernel_rfl) rfl (.run rfl (P_assign (v := .sl _ _) rfl)) ?_
          refine Canon.done _ _ (by kernel_rfl) ?_
          refine thenN ?_
          refine AW.seq ?_
          refine AW.seq ?_
          refine AW.region ?_
          refine AOL.p (P_move (v := .sl _ _) rfl) rfl ?_
          refine AOL.p (P_len_sl (n := (fromS a.edges s).length) tok rfl rfl rfl (by rw [List.length_map]; exact leave_len s 0 a.edges)) rfl ?_
          refine AOL.p (P_move (v := .sl _ _) rfl) rfl ?_
          refine AOL.p (P_len_sl (n := (fromS b.edges t).length) tok rfl rfl rfl (by rw [List.length_map]; exact leave_len t 0 b.edges)) rfl ?_
          refine AOL.p (P_neq rfl rfl) rfl ?_
          refine AOL.nil ?_
          refine thenN ?_
          refine AW.cond (b := _) rfl (fun hc4 => ?_) (fun hc4 => ?_)
          · skip
            have h9 : (pairD a b (f + 1) p s t) = (false, (putS' p.1 s t, putS' p.2 t s)) := by rw [pairD]; exact ((if_neg (Bool.eq_false_iff.mp hc1)).trans ((if_neg (Bool.eq_false_iff.mp hc2)).trans ((if_neg (Bool.eq_false_iff.mp hc3)).trans (if_pos hc4))))
            refine AW.seq ?_
            refine AW.region ?_
            refine AOL.p (P_assign (v := .bool _) rfl) rfl ?_
            refine AOL.nil ?_
            refine thenN ?_
            refine AW.ret ?_
            refine thenR ?_
            refine ⟨.inr rfl, [.bool _], .cons (.tmp _ _ rfl) <| .nil, _, .refl _, ?_⟩
            exact ⟨congrArg (fun x : Bool × Pg => AV.bool x.1) (h9).symm, congrArg (fun x : Bool × Pg => HO.box bT 3 (bI x.2.1) :: HO.box bK 3 (bI x.2.2) :: R) (h9).symm⟩
          · skip
            have h9 : (pairD a b (f + 1) p s t) = pairL (pairD a b f) (fromS a.edges s) (fromS b.edges t) (putS' p.1 s t, putS' p.2 t s) := by rw [pairD]; exact ((if_neg (Bool.eq_false_iff.mp hc1)).trans ((if_neg (Bool.eq_false_iff.mp hc2)).trans ((if_neg (Bool.eq_false_iff.mp hc3)).trans (if_neg (Bool.eq_false_iff.mp hc4)))))
            have hlm := eq_len hc4
            refine AW.skip ?_
            refine thenN ?_
            refine AW.seq ?_
            refine AW.seq ?_
            refine AW.region ?_
            refine AOL.p (P_move (v := .sl _ _) rfl) rfl ?_
            refine AOL.p (P_len_sl (n := (fromS a.edges s).length) tok rfl rfl rfl (by rw [List.length_map]; exact leave_len s 0 a.edges)) rfl ?_
            refine AOL.p (P_move (v := .int .i64 _) rfl) rfl ?_
            refine AOL.nil ?_
            refine thenN ?_
            refine AW.block ?_
            refine AW.loopS (fun (q : Nat × Pg) => (⟨[(0, .ptr [.int .i64 a.vars, .int .i64 a.scopes, .sl 1 (a.states.map cSt), .sl 17 (a.edges.map cEd), .int .i64 b.vars, .int .i64 b.scopes, .sl 1 (b.states.map cSt), .sl 17 (b.edges.map cEd), .val (.slice (some ⟨bT, 0, none⟩) a.states.length a.states.length), .val (.slice (some ⟨bK, 0, none⟩) b.states.length b.states.length)]), (7, .sl 1 ((leaveS a.edges s).map cI)), (8, .sl 1 ((leaveS b.edges t).map cI)), (111, .int .i64 (fromS a.edges s).length), (112, .int .i64 (q.1 : Int))], .box bT 3 (bI q.2.1) :: .box bK 3 (bI q.2.2) :: R, 169⟩ : St)) (fun (q : Nat × Pg) => q.1 ≤ (fromS a.edges s).length ∧ Inv a b q.2 ∧ unp q.2.1 < f ∧ (pairD a b (f + 1) p s t) = pairL (pairD a b f) ((fromS a.edges s).drop q.1) ((fromS b.edges t).drop q.1) q.2) (fun (q : Nat × Pg) => (fromS a.edges s).length - q.1) ((0, (putS' p.1 s t, putS' p.2 t s))) ?_ (GS.weaken ⟨rfl, rfl, rfl, rfl, rfl, trivial⟩ (.refl _)) ?_
            · exact ⟨Nat.zero_le _, iv1, hu1, h9⟩
            · rintro q hR
              refine AW.seq ?_
              refine AW.region ?_
              refine AOL.p (P_lss rfl rfl) rfl ?_
              refine AOL.nil ?_
              refine thenN ?_
              refine AW.seq ?_
              refine AW.cond (b := _) rfl (fun hc5 => ?_) (fun hc5 => ?_)
              · skip
                obtain ⟨i, hi⟩ := get_lt2 (l := leaveS a.edges s) (k := q.1) (by have := of_decide_eq_true hc5; have := leave_len s 0 a.edges; unfold leaveS; omega)
                have hi9 := leave_at hi
                have hi0 := hi9.1
                refine hi9.2.elim fun x hx9 => ?_
                have hex := hx9.1
                have hx := hx9.2.1
                have hltx := get_lt' hx
                have hme := List.mem_of_getElem? hex
                obtain ⟨j, hj⟩ := get_lt2 (l := leaveS b.edges t) (k := q.1) (by have := leave_len t 0 b.edges; unfold leaveS; omega)
                have hj9 := leave_at hj
                have hj0 := hj9.1
                refine hj9.2.elim fun y hy9 => ?_
                have hey := hy9.1
                have hy := hy9.2.1
                have hmy := List.mem_of_getElem? hey
                have hg := hR.2.2.2
                rw [pairL_step hx hy] at hg
                have hxi := (ha x hme).2
                have hyi := (hb y hmy).2
                have ihS : ∀ h : sameEd x y = true, ACall Tryd.prog 47 (.box bT 3 (bI q.2.1) :: .box bK 3 (bI q.2.2) :: R) [.ptr [.int .i64 a.vars, .int .i64 a.scopes, .sl 1 (a.states.map cSt), .sl 17 (a.edges.map cEd), .int .i64 b.vars, .int .i64 b.scopes, .sl 1 (b.states.map cSt), .sl 17 (b.edges.map cEd), .val (.slice (some ⟨bT, 0, none⟩) a.states.length a.states.length), .val (.slice (some ⟨bK, 0, none⟩) b.states.length b.states.length)], .int .i64 x.dst, .int .i64 y.dst] (fun r H' => r = .bool ((pairD a b f) q.2 x.dst y.dst).1 ∧ H' = .box bT 3 (bI (stepD (pairD a b f) q.2 x y).1) :: .box bK 3 (bI (stepD (pairD a b f) q.2 x y).2) :: R) := fun h => by rw [stepD_yes h]; exact ih q.2 x.dst y.dst hR.2.1 hxi hyi hR.2.2.1
                refine AW.skip ?_
                refine thenN ?_
                refine AW.seq ?_
                refine AW.block ?_
                refine AW.seq ?_
                refine AW.region ?_
                refine AOL.p (P_move (v := .int .i64 _) rfl) rfl ?_
                refine AOL.p (P_assign (v := .int .i64 _) rfl) rfl ?_
                refine AOL.nil ?_
                refine thenN ?_
                refine AW.seq ?_
                refine AW.draw mixed (fun _ => True) trivial (by kernel_rfl) ?_
                refine Canon.pure _ _ 0 _ _ rfl (by kernel_rfl) (by kernel_rfl) rfl (.run rfl (P_move (v := .ptr _) rfl)) ?_
                refine Canon.pure _ _ 1 _ _ rfl (by kernel_rfl) (by kernel_rfl) rfl (.run rfl (P_nilCheck_ptr rfl)) ?_
                refine Canon.pure _ _ 2 _ _ rfl (by kernel_rfl) (by kernel_rfl) rfl (.run rfl (P_fieldAddr_ptr (cs' := [.int .i64 _, .int .i64 _, _, _, .int .i64 _, .int .i64 _, _, _, _, _]) tok rfl rfl rfl rfl rfl rfl)) ?_
                refine Canon.pure _ _ 3 _ _ rfl (by kernel_rfl) (by kernel_rfl) rfl (.run rfl (P_fieldAddr_ptr (cs' := [_, .int .i64 _, .int .i64 _, _, _, _, _]) tok rfl rfl rfl rfl rfl rfl)) ?_
                refine Canon.pure _ _ 4 _ _ rfl (by kernel_rfl) (by kernel_rfl) rfl (.run rfl (P_load_ptr (c := .sl _ _) tok rfl rfl rfl)) ?_
                refine Canon.pure _ _ 5 _ _ rfl (by kernel_rfl) (by kernel_rfl) rfl (.run rfl (P_move (v := .sl _ _) rfl)) ?_
                refine Canon.pure _ _ 6 _ _ rfl (by kernel_rfl) (by kernel_rfl) rfl (.run rfl (P_move (v := .int .i64 _) rfl)) ?_
                refine Canon.pure _ _ 7 _ _ rfl (by kernel_rfl) (by kernel_rfl) rfl (.run rfl (P_indexAddr (c := [.int .i64 _]) tok rfl rfl rfl rfl rfl rfl (by omega) (cI_at hi))) ?_
                refine Canon.pure _ _ 8 _ _ rfl (by kernel_rfl) (by kernel_rfl) rfl (.run rfl (P_load_ptr (c := .int .i64 _) tok rfl rfl rfl)) ?_
                refine Canon.pure _ _ 9 _ _ rfl (by kernel_rfl) (by kernel_rfl) rfl (.run rfl (P_indexAddr (c := [.int .i64 _, .int .i64 _, .int .i64 _, .int .i64 _, .int .i64 _, _, .int .i64 _, .int .i64 _, .int .i64 _, .int .i64 _, .int .i64 _, .str _, _, _, _, _, _]) tok rfl rfl rfl rfl rfl rfl (hi0) (cEd_at hex))) ?_
                refine Canon.pure _ _ 10 _ _ rfl (by kernel_rfl) (by kernel_rfl) rfl (.run rfl (P_load_ptr_agg (l := [.int .i64 _, .int .i64 _, .int .i64 _, .int .i64 _, .int .i64 _, _, .int .i64 _, .int .i64 _, .int .i64 _, .int .i64 _, .int .i64 _, .str _, _, _, _, _, _]) tok rfl rfl rfl rfl rfl)) ?_
                refine Canon.pure _ _ 11 _ _ rfl (by kernel_rfl) (by kernel_rfl) rfl (.run rfl (P_move (v := .ptr _) rfl)) ?_
                refine Canon.pure _ _ 12 _ _ rfl (by kernel_rfl) (by kernel_rfl) rfl (.run rfl (P_nilCheck_ptr rfl)) ?_
                refine Canon.pure _ _ 13 _ _ rfl (by kernel_rfl) (by kernel_rfl) rfl (.run rfl (P_fieldAddr_ptr (cs' := [.int .i64 _, .int .i64 _, _, _, _, _]) tok rfl rfl rfl rfl rfl rfl)) ?_
                refine Canon.pure _ _ 14 _ _ rfl (by kernel_rfl) (by kernel_rfl) rfl (.run rfl (P_fieldAddr_ptr (cs' := [_, _, _]) tok rfl rfl rfl rfl rfl rfl)) ?_
                refine Canon.pure _ _ 15 _ _ rfl (by kernel_rfl) (by kernel_rfl) rfl (.run rfl (P_load_ptr (c := .sl _ _) tok rfl rfl rfl)) ?_
                refine Canon.pure _ _ 16 _ _ rfl (by kernel_rfl) (by kernel_rfl) rfl (.run rfl (P_move (v := .sl _ _) rfl)) ?_
                refine Canon.pure _ _ 17 _ _ rfl (by kernel_rfl) (by kernel_rfl) rfl (.run rfl (P_move (v := .int .i64 _) rfl)) ?_
                refine Canon.pure _ _ 18 _ _ rfl (by kernel_rfl) (by kernel_rfl) rfl (.run rfl (P_indexAddr (c := [.int .i64 _]) tok rfl rfl rfl rfl rfl rfl (by omega) (cI_at hj))) ?_
                refine Canon.pure _ _ 19 _ _ rfl (by kernel_rfl) (by kernel_rfl) rfl (.run rfl (P_load_ptr (c := .int .i64 _) tok rfl rfl rfl)) ?_
                refine Canon.pure _ _ 20 _ _ rfl (by kernel_rfl) (by kernel_rfl) rfl (.run rfl (P_indexAddr (c := [.int .i64 _, .int .i64 _, .int .i64 _, .int .i64 _, .int .i64 _, _, .int .i64 _, .int .i64 _, .int .i64 _, .int .i64 _, .int .i64 _, .str _, _, _, _, _, _]) tok rfl rfl rfl rfl rfl rfl (hj0) (cEd_at hey))) ?_
                refine Canon.pure _ _ 21 _ _ rfl (by kernel_rfl) (by kernel_rfl) rfl (.run rfl (P_load_ptr_agg (l := [.int .i64 _, .int .i64 _, .int .i64 _, .int .i64 _, .int .i64 _, _, .int .i64 _, .int .i64 _, .int .i64 _, .int .i64 _, .int .i64 _, .str _, _, _, _, _, _]) tok rfl rfl rfl rfl rfl)) ?_
                refine Canon.pure _ _ 22 _ _ rfl (by kernel_rfl) (by kernel_rfl) rfl (.run rfl (P_callf (by kernel_rfl) rfl rfl (a_sameEdge x y (sa.e x hme)))) ?_
                refine Canon.pure _ _ 23 _ _ rfl (by kernel_rfl) (by kernel_rfl) rfl (.run rfl (P_not rfl)) ?_
                refine Canon.pure _ _ 24 _ _ rfl (by kernel_rfl) (by kernel_rfl) rfl (.run rfl (P_move (v := .bool _) rfl)) ?_
                refine Canon.pure _ _ 25 _ _ rfl (by kernel_rfl) (by kernel_rfl) rfl (.opt _ (.ptr _) [] rfl (EntL.all trivial) (fun hG => P_move (v := .ptr _) rfl) rfl) ?_
                refine Canon.pure _ _ 26 _ _ rfl (by kernel_rfl) (by kernel_rfl) rfl (.opt _ (.ptr _) [] rfl (EntL.all trivial) (fun hG => P_move (v := .ptr _) rfl) rfl) ?_
                refine Canon.pure _ _ 27 _ _ rfl (by kernel_rfl) (by kernel_rfl) rfl (.opt _ (.ptr _) [(141, _)] rfl (EntL.all ⟨Ent.self _ _, trivial⟩) (fun hG => P_nilCheck_ptr rfl) rfl) ?_
                refine Canon.pure _ _ 28 _ _ rfl (by kernel_rfl) (by kernel_rfl) rfl (.opt _ (.ptr _) [(142, _)] rfl (EntL.all ⟨Ent.self _ _, trivial⟩) (fun hG => P_fieldAddr_ptr (cs' := [.int .i64 _, .int .i64 _, _, _, .int .i64 _, .int .i64 _, _, _, _, _]) tok rfl rfl rfl rfl rfl rfl) rfl) ?_
                refine Canon.pure _ _ 29 _ _ rfl (by kernel_rfl) (by kernel_rfl) rfl (.opt _ (.ptr _) [(143, _)] rfl (EntL.all ⟨Ent.self _ _, trivial⟩) (fun hG => P_fieldAddr_ptr (cs' := [_, .int .i64 _, .int .i64 _, _, _, _, _]) tok rfl rfl rfl rfl rfl rfl) rfl) ?_
                refine Canon.pure _ _ 30 _ _ rfl (by kernel_rfl) (by kernel_rfl) rfl (.opt _ (.sl _ _) [(144, _)] rfl (EntL.all ⟨Ent.self _ _, trivial⟩) (fun hG => P_load_ptr (c := .sl _ _) tok rfl rfl rfl) rfl) ?_
                refine Canon.pure _ _ 31 _ _ rfl (by kernel_rfl) (by kernel_rfl) rfl (.opt _ (.sl _ _) [] rfl (EntL.all trivial) (fun hG => P_move (v := .sl _ _) rfl) rfl) ?_
                refine Canon.pure _ _ 32 _ _ rfl (by kernel_rfl) (by kernel_rfl) rfl (.opt _ (.int .i64 _) [] rfl (EntL.all trivial) (fun hG => P_move (v := .int .i64 _) rfl) rfl) ?_
                refine Canon.pure _ _ 33 _ _ rfl (by kernel_rfl) (by kernel_rfl) rfl (.opt _ (.ptr _) [(146, _), (147, _)] rfl (EntL.all ⟨Ent.self _ _, Ent.self _ _, trivial⟩) (fun hG => P_indexAddr (c := [.int .i64 _]) tok rfl rfl rfl rfl rfl rfl (by omega) (cI_at hi)) rfl) ?_
                refine Canon.pure _ _ 34 _ _ rfl (by kernel_rfl) (by kernel_rfl) rfl (.opt _ (.int .i64 _) [(148, _)] rfl (EntL.all ⟨Ent.self _ _, trivial⟩) (fun hG => P_load_ptr (c := .int .i64 _) tok rfl rfl rfl) rfl) ?_
                refine Canon.pure _ _ 35 _ _ rfl (by kernel_rfl) (by kernel_rfl) rfl (.opt _ (.ptr _) [(145, _), (149, _)] rfl (EntL.all ⟨Ent.self _ _, Ent.self _ _, trivial⟩) (fun hG => P_indexAddr (c := [.int .i64 _, .int .i64 _, .int .i64 _, .int .i64 _, .int .i64 _, _, .int .i64 _, .int .i64 _, .int .i64 _, .int .i64 _, .int .i64 _, .str _, _, _, _, _, _]) tok rfl rfl rfl rfl rfl rfl (hi0) (cEd_at hex)) rfl) ?_
                refine Canon.pure _ _ 36 _ _ rfl (by kernel_rfl) (by kernel_rfl) rfl (.opt _ (.ptr _) [(150, _)] rfl (EntL.all ⟨Ent.self _ _, trivial⟩) (fun hG => P_fieldAddr_ptr (cs' := [.int .i64 _, .int .i64 _, .int .i64 _, .int .i64 _, _, .int .i64 _, .int .i64 _, .int .i64 _, .int .i64 _, .int .i64 _, .str _, _, _, _, _, _]) tok rfl rfl rfl rfl rfl rfl) rfl) ?_
                refine Canon.pure _ _ 37 _ _ rfl (by kernel_rfl) (by kernel_rfl) rfl (.opt _ (.int .i64 _) [(151, _)] rfl (EntL.all ⟨Ent.self _ _, trivial⟩) (fun hG => P_load_ptr (c := .int .i64 _) tok rfl rfl rfl) rfl) ?_
                refine Canon.pure _ _ 38 _ _ rfl (by kernel_rfl) (by kernel_rfl) rfl (.opt _ (.ptr _) [] rfl (EntL.all trivial) (fun hG => P_move (v := .ptr _) rfl) rfl) ?_
                refine Canon.pure _ _ 39 _ _ rfl (by kernel_rfl) (by kernel_rfl) rfl (.opt _ (.ptr _) [(153, _)] rfl (EntL.all ⟨Ent.self _ _, trivial⟩) (fun hG => P_nilCheck_ptr rfl) rfl) ?_
                refine Canon.pure _ _ 40 _ _ rfl (by kernel_rfl) (by kernel_rfl) rfl (.opt _ (.ptr _) [(154, _)] rfl (EntL.all ⟨Ent.self _ _, trivial⟩) (fun hG => P_fieldAddr_ptr (cs' := [.int .i64 _, .int .i64 _, _, _, _, _]) tok rfl rfl rfl rfl rfl rfl) rfl) ?_
                refine Canon.pure _ _ 41 _ _ rfl (by kernel_rfl) (by kernel_rfl) rfl (.opt _ (.ptr _) [(155, _)] rfl (EntL.all ⟨Ent.self _ _, trivial⟩) (fun hG => P_fieldAddr_ptr (cs' := [_, _, _]) tok rfl rfl rfl rfl rfl rfl) rfl) ?_
                refine Canon.pure _ _ 42 _ _ rfl (by kernel_rfl) (by kernel_rfl) rfl (.opt _ (.sl _ _) [(156, _)] rfl (EntL.all ⟨Ent.self _ _, trivial⟩) (fun hG => P_load_ptr (c := .sl _ _) tok rfl rfl rfl) rfl) ?_
                refine Canon.pure _ _ 43 _ _ rfl (by kernel_rfl) (by kernel_rfl) rfl (.opt _ (.sl _ _) [] rfl (EntL.all trivial) (fun hG => P_move (v := .sl _ _) rfl) rfl) ?_
                refine Canon.pure _ _ 44 _ _ rfl (by kernel_rfl) (by kernel_rfl) rfl (.opt _ (.int .i64 _) [] rfl (EntL.all trivial) (fun hG => P_move (v := .int .i64 _) rfl) rfl) ?_
                refine Canon.pure _ _ 45 _ _ rfl (by kernel_rfl) (by kernel_rfl) rfl (.opt _ (.ptr _) [(158, _), (159, _)] rfl (EntL.all ⟨Ent.self _ _, Ent.self _ _, trivial⟩) (fun hG => P_indexAddr (c := [.int .i64 _]) tok rfl rfl rfl rfl rfl rfl (by omega) (cI_at hj)) rfl) ?_
                refine Canon.pure _ _ 46 _ _ rfl (by kernel_rfl) (by kernel_rfl) rfl (.opt _ (.int .i64 _) [(160, _)] rfl (EntL.all ⟨Ent.self _ _, trivial⟩) (fun hG => P_load_ptr (c := .int .i64 _) tok rfl rfl rfl) rfl) ?_
                refine Canon.pure _ _ 47 _ _ rfl (by kernel_rfl) (by kernel_rfl) rfl (.opt _ (.ptr _) [(157, _), (161, _)] rfl (EntL.all ⟨Ent.self _ _, Ent.self _ _, trivial⟩) (fun hG => P_indexAddr (c := [.int .i64 _, .int .i64 _, .int .i64 _, .int .i64 _, .int .i64 _, _, .int .i64 _, .int .i64 _, .int .i64 _, .int .i64 _, .int .i64 _, .str _, _, _, _, _, _]) tok rfl rfl rfl rfl rfl rfl (hj0) (cEd_at hey)) rfl) ?_
                refine Canon.pure _ _ 48 _ _ rfl (by kernel_rfl) (by kernel_rfl) rfl (.opt _ (.ptr _) [(162, _)] rfl (EntL.all ⟨Ent.self _ _, trivial⟩) (fun hG => P_fieldAddr_ptr (cs' := [.int .i64 _, .int .i64 _, .int .i64 _, .int .i64 _, _, .int .i64 _, .int .i64 _, .int .i64 _, .int .i64 _, .int .i64 _, .str _, _, _, _, _, _]) tok rfl rfl rfl rfl rfl rfl) rfl) ?_
                refine Canon.pure _ _ 49 _ _ rfl (by kernel_rfl) (by kernel_rfl) rfl (.opt _ (.int .i64 _) [(163, _)] rfl (EntL.all ⟨Ent.self _ _, trivial⟩) (fun hG => P_load_ptr (c := .int .i64 _) tok rfl rfl rfl) rfl) ?_
                refine Canon.effg _ _ 50 _ _ [(140, _), (152, _), (164, _)] _ _ rfl (by kernel_rfl) rfl rfl (EntL.all ⟨Ent.self _ _, Ent.self _ _, Ent.self _ _, trivial⟩) (fun hG => E_callf (by kernel_rfl) rfl rfl (ihS (by have := wf1 hG; simpa using this))) (fun hG => congrArg (fun q : Pg => HO.box bT 3 (bI q.1) :: HO.box bK 3 (bI q.2) :: R) (stepD_no (not_gf hG)).symm) trivial ?_
                refine Canon.pure _ _ 51 _ _ rfl (by kernel_rfl) (by kernel_rfl) rfl (.opt _ (.bool _) [(165, _)] rfl (EntL.all ⟨Ent.self _ _, trivial⟩) (fun hG => P_not rfl) rfl) ?_
                refine Canon.pure _ _ 52 _ _ rfl (by kernel_rfl) (by kernel_rfl) rfl (.run rfl (P_pick_or rfl rfl rfl)) ?_
                refine Canon.done _ _ (by kernel_rfl) ?_
                refine thenN ?_
                refine AW.cond (b := _) rfl (fun hc6 => ?_) (fun hc6 => ?_)
                · skip
                  replace hg := hg.trans (if_pos hc6)
                  refine AW.seq ?_
                  refine AW.region ?_
                  refine AOL.p (P_assign (v := .bool _) rfl) rfl ?_
                  refine AOL.nil ?_
                  refine thenN ?_
                  refine AW.ret ?_
                  refine blkR ?_
                  refine thenR ?_
                  refine thenR ?_
                  refine blkR ?_
                  refine thenR ?_
                  refine ⟨.inr rfl, [.bool _], .cons (.tmp _ _ rfl) <| .nil, _, .refl _, ?_⟩
                  exact ⟨congrArg (fun x : Bool × Pg => AV.bool x.1) (hg).symm, congrArg (fun x : Bool × Pg => HO.box bT 3 (bI x.2.1) :: HO.box bK 3 (bI x.2.2) :: R) (hg).symm⟩
                · skip
                  replace hg := hg.trans (if_neg (Bool.eq_false_iff.mp hc6))
                  have h6 := Bool.or_eq_false_iff.1 hc6
                  have hse : sameEd x y = true := by simpa using h6.1
                  have hpr : ((pairD a b f) q.2 x.dst y.dst).1 = true := by simpa using h6.2
                  have hok := (pairD_ok ha hb f q.2 x.dst y.dst hR.2.1 hxi hyi hR.2.2.1).1 hpr
                  have hst := stepD_yes (pr := (pairD a b f)) (q := q.2) hse
                  refine AW.skip ?_
                  refine blkN ?_
                  refine thenN ?_
                  refine AW.region ?_
                  refine AOL.p (P_add rfl rfl rfl (by constructor <;> omega)) rfl ?_
                  refine AOL.p (P_move (v := .int .i64 _) rfl) rfl ?_
                  refine AOL.nil ?_
                  refine thenN ?_
                  refine ⟨(q.1 + 1, stepD (pairD a b f) q.2 x y), ?_, ?_, GS.weaken ⟨rfl, rfl, rfl, rfl, rfl, trivial⟩ (.refl _)⟩
                  · exact ⟨hltx, by rw [hst]; exact hok.1, by rw [hst]; exact Nat.lt_of_le_of_lt (hok.2.1.unp hR.2.1 hok.1) hR.2.2.1, hg⟩
                  · simp only; omega
              · skip
                have hk : (fromS a.edges s).length ≤ q.1 := by have := of_decide_eq_false hc5; omega
                have hg := hR.2.2.2
                rw [pairL_end hk] at hg
                refine AW.exit ?_
                refine thenE ?_
                refine thenE ?_
                refine blkHit ?_
                refine thenN ?_
                refine AW.seq ?_
                refine AW.region ?_
                refine AOL.p (P_assign (v := .bool _) rfl) rfl ?_
                refine AOL.nil ?_
                refine thenN ?_
                refine AW.ret ?_
                refine ⟨.inr rfl, [.bool _], .cons (.tmp _ _ rfl) <| .nil, _, .refl _, ?_⟩
                exact ⟨congrArg (fun x : Bool × Pg => AV.bool x.1) (hg).symm, congrArg (fun x : Bool × Pg => HO.box bT 3 (bI x.2.1) :: HO.box bK 3 (bI x.2.2) :: R) (hg).symm⟩

end Go.Proofs.YtoolcpnahmgnnaaDoor
