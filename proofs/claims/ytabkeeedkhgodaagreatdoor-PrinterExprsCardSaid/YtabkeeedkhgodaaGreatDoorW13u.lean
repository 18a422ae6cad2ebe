/-
  Walks: the reference of the printer. No condition.
-/
import Derived.Test.YtabkeeedkhgodaaGreatDoorW13t
import Derived.Test.YtabkeeedkhgodaaGreatDoorW13d
import Derived.KernelRfl
namespace Go.Proofs.YtabkeeedkhgodaaGreatDoor
open Go Go.Aw
set_option linter.unusedVariables false
set_option linter.unusedSimpArgs false

theorem beq_i {a b : Int} (h : (a == b) = true) : a = b := by simpa using h
theorem bne_i {a b : Int} (h : (a == b) = false) : a ≠ b := by simpa using h
set_option maxRecDepth 20000 in
set_option maxHeartbeats 12800000 in
theorem r_write (t : Syn) (p : Pl) (h : checkC t p = 0) (hf : fewC t = true) (k0 : 0 ≤ t.kind) (k18 : t.kind ≤ 18) (k4 : t.kind ≠ 4) : APure Tryz.prog 53 [.agg (cSyn t)] (.str (writeC t)) := by
 revert h hf k0 k18 k4 p
 refine Syn.ind (P := fun t => ∀ p, checkC t p = 0 → fewC t = true → 0 ≤ t.kind → t.kind ≤ 18 → t.kind ≠ 4 → APure Tryz.prog 53 [.agg (cSyn t)] (.str (writeC t))) (fun t ih p h hf k0 k18 k4 => ?_) t
 have hi := ok_num h
 have hx : t.text.length ≤ 80 := (few_parts hf).1
 have hnm : t.name.length ≤ 80 := (few_parts hf).2.1
 have hkl := few_len hf
 have hbig := write_big h hf
 have ho := (ok_own h).1
 have hs := (own_at ho).2.1
 have hfl := (own_at ho).2.2.2
 have kid : ∀ (j : Nat) a, t.kids[j]? = some a → a.kind ≠ 4 → WOK a := fun j a ha h4 => by
  have ck := kid_ok h ha
  have kk := kid_kind ck.2
  have hfa := few_kid hf (List.mem_of_getElem? ha)
  exact ⟨ih a (List.mem_of_getElem? ha) _ ck.1 hfa (by omega) kk.2 h4, write_big ck.1 hfa⟩
 have kids : t.kind ≠ 3 → ∀ a ∈ t.kids, WOK a := fun h3 a ha => by
  obtain ⟨j, hj⟩ := List.mem_iff_getElem?.1 ha
  refine kid j a hj ?_
  have k := (kid_ok h hj).2
  unfold kidC at k
  rw [if_neg (show ¬ (t.kind == 3) = true by simpa using h3)] at k
  repeat' split at k
  all_goals first | (have := only_at k; omega) | (have := exp_at k; omega) | (have := pat_at k; omega)
 have wl := words_len
 have wl1 := wl.1 t.num
 have wl2 := wl.2.1 t.num
 have wl3 := wl.2.2.1 t.num
 have wl4 := wl.2.2.2 t.kind
 have hil := Lib.itoa_length_le t.num (by omega) (by omega)
 refine APure.body (n := 165) tok Tryz.func53 rfl rfl rfl fun H => ?_
 refine AW.seq (AW.region ?_)
 refine AOL.p (P_box (v := .agg _) (cs := [.int .i64 _, .str _, .str _, .int .i64 _, _, .int .i64 _]) rfl rfl rfl) rfl ?_
 refine AOL.p (P_assign (v := .str _) rfl) rfl ?_
 refine AOL.nil (thenN ?_)
 refine AW.seq ?_
 refine AW.seq (AW.region ?_)
 refine AOL.p (P_fieldAddr_ptr (cs' := [.int .i64 _, .str _, .str _, .int .i64 _, _, .int .i64 _]) tok rfl rfl rfl rfl rfl rfl) rfl ?_
 refine AOL.p (P_load_ptr (c := .int .i64 _) tok rfl rfl rfl) rfl ?_
 refine AOL.nil (thenN ?_)
 refine AW.block ?_
 refine AW.seq (AW.region ?_)
 refine AOL.p (P_eql rfl rfl) rfl ?_
 refine AOL.p (P_assign (v := .bool _) rfl) rfl ?_
 refine AOL.nil (thenN ?_)
 refine AW.cond (b := _) rfl (fun hc1 => ?_) (fun hc1 => ?_)
 ·
  have hk := beq_i hc1
  have e : writeC t = (t.kids.map writeC).flatten := by rw [writeC_eq]; unfold nodeT; rw [hk]; rfl
  refine AW.seq (AW.region ?_)
  refine AOL.p (P_assign (v := .str _) rfl) rfl ?_
  refine AOL.nil (thenN ?_)
  refine AW.seq ?_
  refine AW.seq (AW.region ?_)
  refine AOL.p (P_assign (v := .int .i64 _) rfl) rfl ?_
  refine AOL.nil (thenN ?_)
  refine AW.block ?_
  refine AW.loopS (fun (p : Nat × Str) => (⟨[(1, .ptr (cSyn t)), (3, .str p.2), (4, .int .i64 (p.1 : Int))], H, 165⟩ : St)) (fun (p : Nat × Str) => p.1 ≤ t.kids.length ∧ p.2 ++ ((t.kids.map writeC).drop p.1).flatten = writeC t) (fun (p : Nat × Str) => t.kids.length - p.1) ((0, [])) ?_ (GS.weaken ⟨rfl, rfl, rfl, trivial⟩ (.refl _)) ?_
  · exact ⟨Nat.zero_le _, by rw [e]; rfl⟩
  ·
   rintro p hR
   refine AW.seq ?_
   refine AW.seq (AW.region ?_)
   refine AOL.p (P_move (v := .int .i64 _) rfl) rfl ?_
   refine AOL.p (P_fieldAddr_ptr (cs' := [_, .int .i64 _]) tok rfl rfl rfl rfl rfl rfl) rfl ?_
   refine AOL.p (P_load_ptr (c := .sl _ _) tok rfl rfl rfl) rfl ?_
   refine AOL.p (P_len_sl (n := t.kids.length) tok rfl rfl rfl (by simp)) rfl ?_
   refine AOL.p (P_lss rfl rfl) rfl ?_
   refine AOL.nil (thenN ?_)
   refine AW.cond (b := _) rfl (fun hc2 => ?_) (fun hc2 => ?_)
   ·
    obtain ⟨x, hxk⟩ := gt2 (l := t.kids) (k := p.1) (by have := of_decide_eq_true hc2; omega)
    have hlt := gt_lt hxk
    have hwx := kids (by omega) x (List.mem_of_getElem? hxk)
    have hr := flat_at hxk
    have hle := congrArg List.length hR.2
    rw [hr] at hle
    simp only [List.length_append] at hle
    refine AW.skip ?_
    refine thenN ?_
    refine AW.seq ?_
    refine AW.block ?_
    refine AW.region ?_
    refine AOL.p (P_move (v := .str _) rfl) rfl ?_
    refine AOL.p (P_fieldAddr_ptr (cs' := [_, .int .i64 _]) tok rfl rfl rfl rfl rfl rfl) rfl ?_
    refine AOL.p (P_load_ptr (c := .sl _ _) tok rfl rfl rfl) rfl ?_
    refine AOL.p (P_move (v := .int .i64 _) rfl) rfl ?_
    refine AOL.p (P_indexAddr (c := [.int .i64 _, .str _, .str _, .int .i64 _, _, .int .i64 _]) tok rfl rfl rfl rfl rfl rfl (by omega) (encS_at hxk)) rfl ?_
    refine AOL.p (P_load_ptr_agg (l := [.int .i64 _, .str _, .str _, .int .i64 _, _, .int .i64 _]) tok rfl rfl rfl rfl rfl) rfl ?_
    refine AOL.p (P_callf (by kernel_rfl) rfl rfl (hwx.1)) rfl ?_
    refine AOL.p (P_add_str rfl rfl rfl (by unfold maxLen; (try simp only [List.length_append, List.length_cons, List.length_nil]); omega)) rfl ?_
    refine AOL.p (P_assign (v := .str _) rfl) rfl ?_
    refine AOL.nil ?_
    refine blkN ?_
    refine thenN ?_
    refine AW.region ?_
    refine AOL.p (P_move (v := .int .i64 _) rfl) rfl ?_
    refine AOL.p (P_add rfl rfl rfl (by constructor <;> omega)) rfl ?_
    refine AOL.p (P_assign (v := .int .i64 _) rfl) rfl ?_
    refine AOL.nil (thenN ?_)
    refine ⟨(p.1 + 1, p.2 ++ writeC x), ?_, ?_, GS.weaken ⟨rfl, rfl, rfl, trivial⟩ (.refl _)⟩
    · exact ⟨by omega, by rw [← hR.2, hr]; simp⟩
    · simp only; omega
   ·
    have hkk : (t.kids.map writeC).length ≤ p.1 := by have := of_decide_eq_false hc2; rw [List.length_map]; omega
    have he := hR.2
    rw [List.drop_eq_nil_of_le hkk, List.flatten_nil, List.append_nil] at he
    refine AW.exit ?_
    refine thenE ?_
    refine thenE ?_
    refine blkHit ?_
    refine thenN ?_
    refine AW.seq (AW.region ?_)
    refine AOL.p (P_move (v := .str _) rfl) rfl ?_
    refine AOL.p (P_assign (v := .str _) rfl) rfl ?_
    refine AOL.nil (thenN ?_)
    refine AW.ret ?_
    refine blkR ?_
    refine thenR ?_
    refine ⟨.inr rfl, [.str _], .cons (.tmp _ _ rfl) <| .nil, .refl _, ?_⟩
    rw [← he]; rfl
 ·
  refine AW.seq (AW.region ?_)
  refine AOL.p (P_eql rfl rfl) rfl ?_
  refine AOL.p (P_assign (v := .bool _) rfl) rfl ?_
  refine AOL.nil (thenN ?_)
  refine AW.cond (b := _) rfl (fun hc3 => ?_) (fun hc3 => ?_)
  ·
   have hk := beq_i hc3
   refine AW.seq (AW.region ?_)
   refine AOL.p (P_load_ptr_agg (l := [.int .i64 _, .str _, .str _, .int .i64 _, _, .int .i64 _]) tok rfl rfl rfl rfl rfl) rfl ?_
   refine AOL.p (P_callf (by kernel_rfl) rfl rfl (r_declared t hk (by omega) hx (kids (by omega)) hbig)) rfl ?_
   refine AOL.p (P_assign (v := .str _) rfl) rfl ?_
   refine AOL.nil (thenN ?_)
   refine AW.ret ?_
   refine blkR ?_
   refine thenR ?_
   refine ⟨.inr rfl, [.str _], .cons (.tmp _ _ rfl) <| .nil, .refl _, ?_⟩
   rfl
  ·
   refine AW.seq (AW.region ?_)
   refine AOL.p (P_eql rfl rfl) rfl ?_
   refine AOL.p (P_assign (v := .bool _) rfl) rfl ?_
   refine AOL.nil (thenN ?_)
   refine AW.cond (b := _) rfl (fun hc4 => ?_) (fun hc4 => ?_)
   ·
    have hk := beq_i hc4
    have e : writeC t = t.text ++ [58, 32] ++ kindT t.num := by rw [writeC_eq]; unfold nodeT; rw [hk]; rfl
    refine AW.seq ?_
    refine AW.draw mixed (fun _ => True) trivial (by kernel_rfl) ?_
    refine Canon.pure _ _ 0 _ _ rfl (by kernel_rfl) (by kernel_rfl) rfl (.run rfl (P_fieldAddr_ptr (cs' := [.str _, .str _, .int .i64 _, _, .int .i64 _]) tok rfl rfl rfl rfl rfl rfl)) ?_
    refine Canon.pure _ _ 1 _ _ rfl (by kernel_rfl) (by kernel_rfl) rfl (.run rfl (P_load_ptr (c := .str _) tok rfl rfl rfl)) ?_
    refine Canon.pure _ _ 2 _ _ rfl (by kernel_rfl) (by kernel_rfl) rfl (.run rfl (P_add_str rfl rfl rfl (by unfold maxLen; (try simp only [List.length_append, List.length_cons, List.length_nil]); omega))) ?_
    refine Canon.pure _ _ 3 _ _ rfl (by kernel_rfl) (by kernel_rfl) rfl (.run rfl (P_fieldAddr_ptr (cs' := [.int .i64 _, _, .int .i64 _]) tok rfl rfl rfl rfl rfl rfl)) ?_
    refine Canon.pure _ _ 4 _ _ rfl (by kernel_rfl) (by kernel_rfl) rfl (.run rfl (P_load_ptr (c := .int .i64 _) tok rfl rfl rfl)) ?_
    refine Canon.pure _ _ 5 _ _ rfl (by kernel_rfl) (by kernel_rfl) rfl (.run rfl (P_callf (by kernel_rfl) rfl rfl (r_kindName t.num))) ?_
    refine Canon.pure _ _ 6 _ _ rfl (by kernel_rfl) (by kernel_rfl) rfl (.run rfl (P_add_str rfl rfl rfl (by unfold maxLen; (try simp only [List.length_append, List.length_cons, List.length_nil]); omega))) ?_
    refine Canon.pure _ _ 7 _ _ rfl (by kernel_rfl) (by kernel_rfl) rfl (.run rfl (P_assign (v := .str _) rfl)) ?_
    refine Canon.done _ _ (by kernel_rfl) ?_
    refine thenN ?_
    refine AW.ret ?_
    refine blkR ?_
    refine thenR ?_
    refine ⟨.inr rfl, [.str _], .cons (.tmp _ _ rfl) <| .nil, .refl _, ?_⟩
    rw [e]
    try rfl
   ·
    refine AW.seq (AW.region ?_)
    refine AOL.p (P_eql rfl rfl) rfl ?_
    refine AOL.p (P_assign (v := .bool _) rfl) rfl ?_
    refine AOL.nil (thenN ?_)
    refine AW.cond (b := _) rfl (fun hc5 => ?_) (fun hc5 => ?_)
    ·
     have hk := beq_i hc5
     obtain ⟨q0, q1, r, hq⟩ : ∃ q0 q1 r, t.kids = q0 :: q1 :: r := by
      unfold shapeC at hs
      rw [hk] at hs
      replace hs : decide (3 ≤ (t.kids.length : Int)) = true := hs
      simp only [decide_eq_true_eq] at hs
      match hq : t.kids with
      | [] => rw [hq] at hs; simp at hs
      | [x] => rw [hq] at hs; simp at hs
      | x :: y :: r => exact ⟨x, y, r, rfl⟩
     have no4 : ∀ (j : Nat) x, 1 ≤ j → t.kids[j]? = some x → x.kind ≠ 4 := fun j x hj hx => by
      have k := (kid_ok h hx).2
      unfold kidC at k
      rw [hk] at k
      have e3 : ((j : Int) == 0) = false := by simp; omega
      simp only [e3] at k
      replace k : (if ((j : Int) == 1) = true then Pl.pats else Pl.exps).at x.kind = true := k
      split at k
      · have := pat_at k; omega
      · have := exp_at k; omega
     have hq1 : WOK q1 := kid 1 q1 (by rw [hq]; rfl) (no4 1 q1 (Nat.le_refl _) (by rw [hq]; rfl))
     have hqr : ∀ x ∈ r, WOK x := fun x hx => by
      obtain ⟨j, hj⟩ := List.mem_iff_getElem?.1 hx
      have hj2 : t.kids[j + 2]? = some x := by rw [hq]; simpa using hj
      exact kid (j + 2) x hj2 (no4 (j + 2) x (by omega) hj2)
     have hx0 : q0.text.length ≤ 80 := (few_parts (few_kid hf (by rw [hq]; simp))).1
     refine AW.seq (AW.region ?_)
     refine AOL.p (P_load_ptr_agg (l := [.int .i64 _, .str _, .str _, .int .i64 _, _, .int .i64 _]) tok rfl rfl rfl rfl rfl) rfl ?_
     refine AOL.p (P_callf (by kernel_rfl) rfl rfl (r_asked t q0 q1 r hk hq (by omega) hx hx0 hq1 hqr hbig)) rfl ?_
     refine AOL.p (P_assign (v := .str _) rfl) rfl ?_
     refine AOL.nil (thenN ?_)
     refine AW.ret ?_
     refine blkR ?_
     refine thenR ?_
     refine ⟨.inr rfl, [.str _], .cons (.tmp _ _ rfl) <| .nil, .refl _, ?_⟩
     rfl
    ·
     refine AW.seq (AW.region ?_)
     refine AOL.p (P_eql rfl rfl) rfl ?_
     refine AOL.p (P_assign (v := .bool _) rfl) rfl ?_
     refine AOL.nil (thenN ?_)
     refine AW.cond (b := _) rfl (fun hc6 => ?_) (fun hc6 => ?_)
     ·
      have hk := beq_i hc6
      refine AW.seq ?_
      refine AW.seq (AW.region ?_)
      refine AOL.p (P_fieldAddr_ptr (cs' := [_, .int .i64 _]) tok rfl rfl rfl rfl rfl rfl) rfl ?_
      refine AOL.p (P_load_ptr (c := .sl _ _) tok rfl rfl rfl) rfl ?_
      refine AOL.p (P_len_sl (n := t.kids.length) tok rfl rfl rfl (by simp)) rfl ?_
      refine AOL.p (P_eql rfl rfl) rfl ?_
      refine AOL.nil (thenN ?_)
      refine AW.cond (b := _) rfl (fun hc7 => ?_) (fun hc7 => ?_)
      ·
       have e := wt_ev0 hk (len_zero hc7)
       refine AW.seq (AW.region ?_)
       refine AOL.p (P_fieldAddr_ptr (cs' := [.str _, .str _, .int .i64 _, _, .int .i64 _]) tok rfl rfl rfl rfl rfl rfl) rfl ?_
       refine AOL.p (P_load_ptr (c := .str _) tok rfl rfl rfl) rfl ?_
       refine AOL.p (P_add_str rfl rfl rfl (by unfold maxLen; (try simp only [List.length_append, List.length_cons, List.length_nil]); omega)) rfl ?_
       refine AOL.p (P_fieldAddr_ptr (cs' := [.str _, .int .i64 _, _, .int .i64 _]) tok rfl rfl rfl rfl rfl rfl) rfl ?_
       refine AOL.p (P_load_ptr (c := .str _) tok rfl rfl rfl) rfl ?_
       refine AOL.p (P_add_str rfl rfl rfl (by unfold maxLen; (try simp only [List.length_append, List.length_cons, List.length_nil]); omega)) rfl ?_
       refine AOL.p (P_assign (v := .str _) rfl) rfl ?_
       refine AOL.nil (thenN ?_)
       refine AW.ret ?_
       refine thenR ?_
       refine blkR ?_
       refine thenR ?_
       refine ⟨.inr rfl, [.str _], .cons (.tmp _ _ rfl) <| .nil, .refl _, ?_⟩
       rw [e]
       try rfl
      ·
       have hp := len_pos hc7
       refine (gt2 hp).elim fun x0 h0 => ?_
       have hw0 := kids (by omega) x0 (List.mem_of_getElem? h0)
       have hw2 := hw0.2
       have e := wt_ev1 hk h0
       refine AW.skip ?_
       refine thenN ?_
       refine AW.seq ?_
       refine AW.draw mixed (fun _ => True) trivial (by kernel_rfl) ?_
       refine Canon.pure _ _ 0 _ _ rfl (by kernel_rfl) (by kernel_rfl) rfl (.run rfl (P_fieldAddr_ptr (cs' := [.str _, .str _, .int .i64 _, _, .int .i64 _]) tok rfl rfl rfl rfl rfl rfl)) ?_
       refine Canon.pure _ _ 1 _ _ rfl (by kernel_rfl) (by kernel_rfl) rfl (.run rfl (P_load_ptr (c := .str _) tok rfl rfl rfl)) ?_
       refine Canon.pure _ _ 2 _ _ rfl (by kernel_rfl) (by kernel_rfl) rfl (.run rfl (P_add_str rfl rfl rfl (by unfold maxLen; (try simp only [List.length_append, List.length_cons, List.length_nil]); omega))) ?_
       refine Canon.pure _ _ 3 _ _ rfl (by kernel_rfl) (by kernel_rfl) rfl (.run rfl (P_fieldAddr_ptr (cs' := [.str _, .int .i64 _, _, .int .i64 _]) tok rfl rfl rfl rfl rfl rfl)) ?_
       refine Canon.pure _ _ 4 _ _ rfl (by kernel_rfl) (by kernel_rfl) rfl (.run rfl (P_load_ptr (c := .str _) tok rfl rfl rfl)) ?_
       refine Canon.pure _ _ 5 _ _ rfl (by kernel_rfl) (by kernel_rfl) rfl (.run rfl (P_add_str rfl rfl rfl (by unfold maxLen; (try simp only [List.length_append, List.length_cons, List.length_nil]); omega))) ?_
       refine Canon.pure _ _ 6 _ _ rfl (by kernel_rfl) (by kernel_rfl) rfl (.run rfl (P_add_str rfl rfl rfl (by unfold maxLen; (try simp only [List.length_append, List.length_cons, List.length_nil]); omega))) ?_
       refine Canon.pure _ _ 7 _ _ rfl (by kernel_rfl) (by kernel_rfl) rfl (.run rfl (P_fieldAddr_ptr (cs' := [_, .int .i64 _]) tok rfl rfl rfl rfl rfl rfl)) ?_
       refine Canon.pure _ _ 8 _ _ rfl (by kernel_rfl) (by kernel_rfl) rfl (.run rfl (P_load_ptr (c := .sl _ _) tok rfl rfl rfl)) ?_
       refine Canon.pure _ _ 9 _ _ rfl (by kernel_rfl) (by kernel_rfl) rfl (.run rfl (P_indexAddr (c := [.int .i64 _, .str _, .str _, .int .i64 _, _, .int .i64 _]) tok rfl rfl rfl rfl rfl rfl (by decide) (encS_at h0))) ?_
       refine Canon.pure _ _ 10 _ _ rfl (by kernel_rfl) (by kernel_rfl) rfl (.run rfl (P_load_ptr_agg (l := [.int .i64 _, .str _, .str _, .int .i64 _, _, .int .i64 _]) tok rfl rfl rfl rfl rfl)) ?_
       refine Canon.pure _ _ 11 _ _ rfl (by kernel_rfl) (by kernel_rfl) rfl (.run rfl (P_callf (by kernel_rfl) rfl rfl (hw0.1))) ?_
       refine Canon.pure _ _ 12 _ _ rfl (by kernel_rfl) (by kernel_rfl) rfl (.run rfl (P_add_str rfl rfl rfl (by unfold maxLen; (try simp only [List.length_append, List.length_cons, List.length_nil]); omega))) ?_
       refine Canon.pure _ _ 13 _ _ rfl (by kernel_rfl) (by kernel_rfl) rfl (.run rfl (P_assign (v := .str _) rfl)) ?_
       refine Canon.done _ _ (by kernel_rfl) ?_
       refine thenN ?_
       refine AW.ret ?_
       refine blkR ?_
       refine thenR ?_
       refine ⟨.inr rfl, [.str _], .cons (.tmp _ _ rfl) <| .nil, .refl _, ?_⟩
       rw [e]
       try rfl
     ·
      refine AW.seq (AW.region ?_)
      refine AOL.p (P_eql rfl rfl) rfl ?_
      refine AOL.p (P_assign (v := .bool _) rfl) rfl ?_
      refine AOL.nil (thenN ?_)
      refine AW.cond (b := _) rfl (fun hc8 => ?_) (fun hc8 => ?_)
      ·
       have hk := beq_i hc8
       unfold shapeC at hs
       rw [hk] at hs
       replace hs : ((t.kids.length : Int) == 1) = true := hs
       refine (kids_one (t := t) (beq_i hs)).elim fun x0 hq => ?_
       have h0 : t.kids[0]? = some x0 := by rw [hq]; rfl
       have hw0 := kids (by omega) x0 (List.mem_of_getElem? h0)
       have hw2 := hw0.2
       have e := wt_within hk hq
       refine AW.seq ?_
       refine AW.draw mixed (fun _ => True) trivial (by kernel_rfl) ?_
       refine Canon.pure _ _ 0 _ _ rfl (by kernel_rfl) (by kernel_rfl) rfl (.run rfl (P_fieldAddr_ptr (cs' := [_, .int .i64 _]) tok rfl rfl rfl rfl rfl rfl)) ?_
       refine Canon.pure _ _ 1 _ _ rfl (by kernel_rfl) (by kernel_rfl) rfl (.run rfl (P_load_ptr (c := .sl _ _) tok rfl rfl rfl)) ?_
       refine Canon.pure _ _ 2 _ _ rfl (by kernel_rfl) (by kernel_rfl) rfl (.run rfl (P_indexAddr (c := [.int .i64 _, .str _, .str _, .int .i64 _, _, .int .i64 _]) tok rfl rfl rfl rfl rfl rfl (by decide) (encS_at h0))) ?_
       refine Canon.pure _ _ 3 _ _ rfl (by kernel_rfl) (by kernel_rfl) rfl (.run rfl (P_load_ptr_agg (l := [.int .i64 _, .str _, .str _, .int .i64 _, _, .int .i64 _]) tok rfl rfl rfl rfl rfl)) ?_
       refine Canon.pure _ _ 4 _ _ rfl (by kernel_rfl) (by kernel_rfl) rfl (.run rfl (P_callf (by kernel_rfl) rfl rfl (hw0.1))) ?_
       refine Canon.pure _ _ 5 _ _ rfl (by kernel_rfl) (by kernel_rfl) rfl (.run rfl (P_add_str rfl rfl rfl (by unfold maxLen; (try simp only [List.length_append, List.length_cons, List.length_nil]); omega))) ?_
       refine Canon.pure _ _ 6 _ _ rfl (by kernel_rfl) (by kernel_rfl) rfl (.run rfl (P_add_str rfl rfl rfl (by unfold maxLen; (try simp only [List.length_append, List.length_cons, List.length_nil]); omega))) ?_
       refine Canon.pure _ _ 7 _ _ rfl (by kernel_rfl) (by kernel_rfl) rfl (.run rfl (P_fieldAddr_ptr (cs' := [.int .i64 _, _, .int .i64 _]) tok rfl rfl rfl rfl rfl rfl)) ?_
       refine Canon.pure _ _ 8 _ _ rfl (by kernel_rfl) (by kernel_rfl) rfl (.run rfl (P_load_ptr (c := .int .i64 _) tok rfl rfl rfl)) ?_
       refine Canon.pure _ _ 9 _ _ rfl (by kernel_rfl) (by kernel_rfl) rfl (.run rfl (P_callf (by kernel_rfl) rfl rfl (r_decimal t.num hi))) ?_
       refine Canon.pure _ _ 10 _ _ rfl (by kernel_rfl) (by kernel_rfl) rfl (.run rfl (P_add_str rfl rfl rfl (by unfold maxLen; (try simp only [List.length_append, List.length_cons, List.length_nil]); omega))) ?_
       refine Canon.pure _ _ 11 _ _ rfl (by kernel_rfl) (by kernel_rfl) rfl (.run rfl (P_add_str rfl rfl rfl (by unfold maxLen; (try simp only [List.length_append, List.length_cons, List.length_nil]); omega))) ?_
       refine Canon.pure _ _ 12 _ _ rfl (by kernel_rfl) (by kernel_rfl) rfl (.run rfl (P_assign (v := .str _) rfl)) ?_
       refine Canon.done _ _ (by kernel_rfl) ?_
       refine thenN ?_
       refine AW.ret ?_
       refine blkR ?_
       refine thenR ?_
       refine ⟨.inr rfl, [.str _], .cons (.tmp _ _ rfl) <| .nil, .refl _, ?_⟩
       rw [e]
       try rfl
      ·
       refine AW.seq (AW.region ?_)
       refine AOL.p (P_eql rfl rfl) rfl ?_
       refine AOL.p (P_assign (v := .bool _) rfl) rfl ?_
       refine AOL.nil (thenN ?_)
       refine AW.cond (b := _) rfl (fun hc9 => ?_) (fun hc9 => ?_)
       ·
        have hk := beq_i hc9
        have e := wt_lit hk
        have hnames := lit_names hfl hk
        refine AW.seq (AW.region ?_)
        refine AOL.p (P_load_ptr_agg (l := [.int .i64 _, .str _, .str _, .int .i64 _, _, .int .i64 _]) tok rfl rfl rfl rfl rfl) rfl ?_
        refine AOL.p (P_callf (by kernel_rfl) rfl rfl (r_literal t hi (by omega) hnames)) rfl ?_
        refine AOL.p (P_assign (v := .str _) rfl) rfl ?_
        refine AOL.nil (thenN ?_)
        refine AW.ret ?_
        refine blkR ?_
        refine thenR ?_
        refine ⟨.inr rfl, [.str _], .cons (.tmp _ _ rfl) <| .nil, .refl _, ?_⟩
        rw [e]
        try rfl
       ·
        refine AW.seq (AW.region ?_)
        refine AOL.p (P_eql rfl rfl) rfl ?_
        refine AOL.p (P_assign (v := .bool _) rfl) rfl ?_
        refine AOL.nil (thenN ?_)
        refine AW.cond (b := _) rfl (fun hc10 => ?_) (fun hc10 => ?_)
        ·
         have hk := beq_i hc10
         have e : writeC t = t.text ++ [46] ++ t.name := by rw [writeC_eq]; unfold nodeT; rw [hk]; rfl
         refine AW.seq (AW.region ?_)
         refine AOL.p (P_fieldAddr_ptr (cs' := [.str _, .str _, .int .i64 _, _, .int .i64 _]) tok rfl rfl rfl rfl rfl rfl) rfl ?_
         refine AOL.p (P_load_ptr (c := .str _) tok rfl rfl rfl) rfl ?_
         refine AOL.p (P_add_str rfl rfl rfl (by unfold maxLen; (try simp only [List.length_append, List.length_cons, List.length_nil]); omega)) rfl ?_
         refine AOL.p (P_fieldAddr_ptr (cs' := [.str _, .int .i64 _, _, .int .i64 _]) tok rfl rfl rfl rfl rfl rfl) rfl ?_
         refine AOL.p (P_load_ptr (c := .str _) tok rfl rfl rfl) rfl ?_
         refine AOL.p (P_add_str rfl rfl rfl (by unfold maxLen; (try simp only [List.length_append, List.length_cons, List.length_nil]); omega)) rfl ?_
         refine AOL.p (P_assign (v := .str _) rfl) rfl ?_
         refine AOL.nil (thenN ?_)
         refine AW.ret ?_
         refine blkR ?_
         refine thenR ?_
         refine ⟨.inr rfl, [.str _], .cons (.tmp _ _ rfl) <| .nil, .refl _, ?_⟩
         rw [e]
         try rfl
        ·
         refine AW.seq (AW.region ?_)
         refine AOL.p (P_eql rfl rfl) rfl ?_
         refine AOL.p (P_assign (v := .bool _) rfl) rfl ?_
         refine AOL.nil (thenN ?_)
         refine AW.cond (b := _) rfl (fun hc11 => ?_) (fun hc11 => ?_)
         ·
          have hk := beq_i hc11
          have e : writeC t = [99, 111, 117, 110, 116, 40] ++ t.text ++ [41] := by rw [writeC_eq]; unfold nodeT; rw [hk]; rfl
          refine AW.seq (AW.region ?_)
          refine AOL.p (P_fieldAddr_ptr (cs' := [.str _, .str _, .int .i64 _, _, .int .i64 _]) tok rfl rfl rfl rfl rfl rfl) rfl ?_
          refine AOL.p (P_load_ptr (c := .str _) tok rfl rfl rfl) rfl ?_
          refine AOL.p (P_add_str rfl rfl rfl (by unfold maxLen; (try simp only [List.length_append, List.length_cons, List.length_nil]); omega)) rfl ?_
          refine AOL.p (P_add_str rfl rfl rfl (by unfold maxLen; (try simp only [List.length_append, List.length_cons, List.length_nil]); omega)) rfl ?_
          refine AOL.p (P_assign (v := .str _) rfl) rfl ?_
          refine AOL.nil (thenN ?_)
          refine AW.ret ?_
          refine blkR ?_
          refine thenR ?_
          refine ⟨.inr rfl, [.str _], .cons (.tmp _ _ rfl) <| .nil, .refl _, ?_⟩
          rw [e]
          try rfl
         ·
          refine AW.seq (AW.region ?_)
          refine AOL.p (P_eql rfl rfl) rfl ?_
          refine AOL.p (P_assign (v := .bool _) rfl) rfl ?_
          refine AOL.nil (thenN ?_)
          refine AW.cond (b := _) rfl (fun hc12 => ?_) (fun hc12 => ?_)
          ·
           have hk := beq_i hc12
           refine AW.seq ?_
           refine AW.draw mixed (fun _ => True) trivial (by kernel_rfl) ?_
           refine Canon.pure _ _ 0 _ _ rfl (by kernel_rfl) (by kernel_rfl) rfl (.run rfl (P_fieldAddr_ptr (cs' := [.int .i64 _, _, .int .i64 _]) tok rfl rfl rfl rfl rfl rfl)) ?_
           refine Canon.pure _ _ 1 _ _ rfl (by kernel_rfl) (by kernel_rfl) rfl (.run rfl (P_load_ptr (c := .int .i64 _) tok rfl rfl rfl)) ?_
           refine Canon.pure _ _ 2 _ _ rfl (by kernel_rfl) (by kernel_rfl) rfl (.run rfl (P_callf (by kernel_rfl) rfl rfl (r_aggregate t.num))) ?_
           refine Canon.pure _ _ 3 _ _ rfl (by kernel_rfl) (by kernel_rfl) rfl (.run rfl (P_add_str rfl rfl rfl (by unfold maxLen; (try simp only [List.length_append, List.length_cons, List.length_nil]); omega))) ?_
           refine Canon.pure _ _ 4 _ _ rfl (by kernel_rfl) (by kernel_rfl) rfl (.run rfl (P_fieldAddr_ptr (cs' := [.str _, .str _, .int .i64 _, _, .int .i64 _]) tok rfl rfl rfl rfl rfl rfl)) ?_
           refine Canon.pure _ _ 5 _ _ rfl (by kernel_rfl) (by kernel_rfl) rfl (.run rfl (P_load_ptr (c := .str _) tok rfl rfl rfl)) ?_
           refine Canon.pure _ _ 6 _ _ rfl (by kernel_rfl) (by kernel_rfl) rfl (.run rfl (P_add_str rfl rfl rfl (by unfold maxLen; (try simp only [List.length_append, List.length_cons, List.length_nil]); omega))) ?_
           refine Canon.pure _ _ 7 _ _ rfl (by kernel_rfl) (by kernel_rfl) rfl (.run rfl (P_add_str rfl rfl rfl (by unfold maxLen; (try simp only [List.length_append, List.length_cons, List.length_nil]); omega))) ?_
           refine Canon.pure _ _ 8 _ _ rfl (by kernel_rfl) (by kernel_rfl) rfl (.run rfl (P_fieldAddr_ptr (cs' := [.str _, .int .i64 _, _, .int .i64 _]) tok rfl rfl rfl rfl rfl rfl)) ?_
           refine Canon.pure _ _ 9 _ _ rfl (by kernel_rfl) (by kernel_rfl) rfl (.run rfl (P_load_ptr (c := .str _) tok rfl rfl rfl)) ?_
           refine Canon.pure _ _ 10 _ _ rfl (by kernel_rfl) (by kernel_rfl) rfl (.run rfl (P_add_str rfl rfl rfl (by unfold maxLen; (try simp only [List.length_append, List.length_cons, List.length_nil]); omega))) ?_
           refine Canon.pure _ _ 11 _ _ rfl (by kernel_rfl) (by kernel_rfl) rfl (.run rfl (P_assign (v := .str _) rfl)) ?_
           refine Canon.done _ _ (by kernel_rfl) ?_
           refine thenN ?_
           refine AW.seq ?_
           refine AW.seq (AW.region ?_)
           refine AOL.p (P_fieldAddr_ptr (cs' := [_, .int .i64 _]) tok rfl rfl rfl rfl rfl rfl) rfl ?_
           refine AOL.p (P_load_ptr (c := .sl _ _) tok rfl rfl rfl) rfl ?_
           refine AOL.p (P_len_sl (n := t.kids.length) tok rfl rfl rfl (by simp)) rfl ?_
           refine AOL.p (P_gtr rfl rfl) rfl ?_
           refine AOL.nil (thenN ?_)
           refine AW.cond (b := _) rfl (fun hc13 => ?_) (fun hc13 => ?_)
           ·
            have hp : 0 < t.kids.length := by have := of_decide_eq_true hc13; omega
            refine (gt2 hp).elim fun x0 h0 => ?_
            have hw0 := kids (by omega) x0 (List.mem_of_getElem? h0)
            have hw2 := hw0.2
            have hk0 := kid_ok h h0
            have hk13 : x0.kind = 13 := only_at (n := 13) (by have e0 : kidC t 0 = .only 13 := by { unfold kidC; rw [hk]; rfl }; have := hk0.2; rwa [e0] at this)
            have hfx := (own_at (ok_own hk0.1).1).2.2.2
            have hnames := lit_names hfx hk13
            have e := wt_tot1 hk h0
            have e2 := wt_lit hk13
            have hix := ok_num hk0.1
            have htx := (few_text (few_kid hf (List.mem_of_getElem? h0))).1
            rw [e2] at e hw2
            refine AW.region ?_
            refine AOL.p (P_move (v := .str _) rfl) rfl ?_
            refine AOL.p (P_fieldAddr_ptr (cs' := [_, .int .i64 _]) tok rfl rfl rfl rfl rfl rfl) rfl ?_
            refine AOL.p (P_load_ptr (c := .sl _ _) tok rfl rfl rfl) rfl ?_
            refine AOL.p (P_indexAddr (c := [.int .i64 _, .str _, .str _, .int .i64 _, _, .int .i64 _]) tok rfl rfl rfl rfl rfl rfl (by decide) (encS_at h0)) rfl ?_
            refine AOL.p (P_load_ptr_agg (l := [.int .i64 _, .str _, .str _, .int .i64 _, _, .int .i64 _]) tok rfl rfl rfl rfl rfl) rfl ?_
            refine AOL.p (P_callf (by kernel_rfl) rfl rfl (r_literal x0 hix htx hnames)) rfl ?_
            refine AOL.p (P_add_str rfl rfl rfl (by unfold maxLen; (try simp only [List.length_append, List.length_cons, List.length_nil]); omega)) rfl ?_
            refine AOL.p (P_add_str rfl rfl rfl (by unfold maxLen; (try simp only [List.length_append, List.length_cons, List.length_nil]); omega)) rfl ?_
            refine AOL.p (P_assign (v := .str _) rfl) rfl ?_
            refine AOL.nil (thenN ?_)
            refine AW.seq (AW.region ?_)
            refine AOL.p (P_move (v := .str _) rfl) rfl ?_
            refine AOL.p (P_add_str rfl rfl rfl (by unfold maxLen; (try simp only [List.length_append, List.length_cons, List.length_nil]); omega)) rfl ?_
            refine AOL.p (P_assign (v := .str _) rfl) rfl ?_
            refine AOL.nil (thenN ?_)
            refine AW.ret ?_
            refine blkR ?_
            refine thenR ?_
            refine ⟨.inr rfl, [.str _], .cons (.tmp _ _ rfl) <| .nil, .refl _, ?_⟩
            rw [e]
            try rfl
           ·
            have hp : ¬ 0 < t.kids.length := by have := of_decide_eq_false hc13; omega
            have e := wt_tot0 hk hp
            refine AW.skip ?_
            refine thenN ?_
            refine AW.seq (AW.region ?_)
            refine AOL.p (P_move (v := .str _) rfl) rfl ?_
            refine AOL.p (P_add_str rfl rfl rfl (by unfold maxLen; (try simp only [List.length_append, List.length_cons, List.length_nil]); omega)) rfl ?_
            refine AOL.p (P_assign (v := .str _) rfl) rfl ?_
            refine AOL.nil (thenN ?_)
            refine AW.ret ?_
            refine blkR ?_
            refine thenR ?_
            refine ⟨.inr rfl, [.str _], .cons (.tmp _ _ rfl) <| .nil, .refl _, ?_⟩
            rw [e]
            try rfl
          ·
           refine AW.seq (AW.region ?_)
           refine AOL.p (P_eql rfl rfl) rfl ?_
           refine AOL.p (P_assign (v := .bool _) rfl) rfl ?_
           refine AOL.nil (thenN ?_)
           refine AW.cond (b := _) rfl (fun hc14 => ?_) (fun hc14 => ?_)
           ·
            have hk := beq_i hc14
            unfold shapeC at hs
            rw [hk] at hs
            replace hs : ((t.kids.length : Int) == 2) = true := hs
            refine (kids_two (t := t) (beq_i hs)).elim fun x0 hx1 => ?_
            refine hx1.elim fun x1 hq => ?_
            have h0 : t.kids[0]? = some x0 := by rw [hq]; rfl
            have h1 : t.kids[1]? = some x1 := by rw [hq]; rfl
            have hw0 := kids (by omega) x0 (List.mem_of_getElem? h0)
            have hw1 := kids (by omega) x1 (List.mem_of_getElem? h1)
            have hl0 := wrap_len t x0 (writeC x0)
            have hl1 := wrap_len t x1 (writeC x1)
            have hw2 := hw0.2
            have hw3 := hw1.2
            have e := wt_bin hk hq
            refine AW.seq ?_
            refine AW.draw mixed (fun _ => True) trivial (by kernel_rfl) ?_
            refine Canon.pure _ _ 0 _ _ rfl (by kernel_rfl) (by kernel_rfl) rfl (.run rfl (P_load_ptr_agg (l := [.int .i64 _, .str _, .str _, .int .i64 _, _, .int .i64 _]) tok rfl rfl rfl rfl rfl)) ?_
            refine Canon.pure _ _ 1 _ _ rfl (by kernel_rfl) (by kernel_rfl) rfl (.run rfl (P_fieldAddr_ptr (cs' := [_, .int .i64 _]) tok rfl rfl rfl rfl rfl rfl)) ?_
            refine Canon.pure _ _ 2 _ _ rfl (by kernel_rfl) (by kernel_rfl) rfl (.run rfl (P_load_ptr (c := .sl _ _) tok rfl rfl rfl)) ?_
            refine Canon.pure _ _ 3 _ _ rfl (by kernel_rfl) (by kernel_rfl) rfl (.run rfl (P_indexAddr (c := [.int .i64 _, .str _, .str _, .int .i64 _, _, .int .i64 _]) tok rfl rfl rfl rfl rfl rfl (by decide) (encS_at h0))) ?_
            refine Canon.pure _ _ 4 _ _ rfl (by kernel_rfl) (by kernel_rfl) rfl (.run rfl (P_load_ptr_agg (l := [.int .i64 _, .str _, .str _, .int .i64 _, _, .int .i64 _]) tok rfl rfl rfl rfl rfl)) ?_
            refine Canon.pure _ _ 5 _ _ rfl (by kernel_rfl) (by kernel_rfl) rfl (.run rfl (P_callf (by kernel_rfl) rfl rfl (r_operand t x0 hw0))) ?_
            refine Canon.pure _ _ 6 _ _ rfl (by kernel_rfl) (by kernel_rfl) rfl (.run rfl (P_add_str rfl rfl rfl (by unfold maxLen; (try simp only [List.length_append, List.length_cons, List.length_nil]); omega))) ?_
            refine Canon.pure _ _ 7 _ _ rfl (by kernel_rfl) (by kernel_rfl) rfl (.run rfl (P_fieldAddr_ptr (cs' := [.int .i64 _, _, .int .i64 _]) tok rfl rfl rfl rfl rfl rfl)) ?_
            refine Canon.pure _ _ 8 _ _ rfl (by kernel_rfl) (by kernel_rfl) rfl (.run rfl (P_load_ptr (c := .int .i64 _) tok rfl rfl rfl)) ?_
            refine Canon.pure _ _ 9 _ _ rfl (by kernel_rfl) (by kernel_rfl) rfl (.run rfl (P_callf (by kernel_rfl) rfl rfl (r_operator t.num))) ?_
            refine Canon.pure _ _ 10 _ _ rfl (by kernel_rfl) (by kernel_rfl) rfl (.run rfl (P_add_str rfl rfl rfl (by unfold maxLen; (try simp only [List.length_append, List.length_cons, List.length_nil]); omega))) ?_
            refine Canon.pure _ _ 11 _ _ rfl (by kernel_rfl) (by kernel_rfl) rfl (.run rfl (P_add_str rfl rfl rfl (by unfold maxLen; (try simp only [List.length_append, List.length_cons, List.length_nil]); omega))) ?_
            refine Canon.pure _ _ 12 _ _ rfl (by kernel_rfl) (by kernel_rfl) rfl (.run rfl (P_load_ptr_agg (l := [.int .i64 _, .str _, .str _, .int .i64 _, _, .int .i64 _]) tok rfl rfl rfl rfl rfl)) ?_
            refine Canon.pure _ _ 13 _ _ rfl (by kernel_rfl) (by kernel_rfl) rfl (.run rfl (P_fieldAddr_ptr (cs' := [_, .int .i64 _]) tok rfl rfl rfl rfl rfl rfl)) ?_
            refine Canon.pure _ _ 14 _ _ rfl (by kernel_rfl) (by kernel_rfl) rfl (.run rfl (P_load_ptr (c := .sl _ _) tok rfl rfl rfl)) ?_
            refine Canon.pure _ _ 15 _ _ rfl (by kernel_rfl) (by kernel_rfl) rfl (.run rfl (P_indexAddr (c := [.int .i64 _, .str _, .str _, .int .i64 _, _, .int .i64 _]) tok rfl rfl rfl rfl rfl rfl (by decide) (encS_at h1))) ?_
            refine Canon.pure _ _ 16 _ _ rfl (by kernel_rfl) (by kernel_rfl) rfl (.run rfl (P_load_ptr_agg (l := [.int .i64 _, .str _, .str _, .int .i64 _, _, .int .i64 _]) tok rfl rfl rfl rfl rfl)) ?_
            refine Canon.pure _ _ 17 _ _ rfl (by kernel_rfl) (by kernel_rfl) rfl (.run rfl (P_callf (by kernel_rfl) rfl rfl (r_operand t x1 hw1))) ?_
            refine Canon.pure _ _ 18 _ _ rfl (by kernel_rfl) (by kernel_rfl) rfl (.run rfl (P_add_str rfl rfl rfl (by unfold maxLen; (try simp only [List.length_append, List.length_cons, List.length_nil]); omega))) ?_
            refine Canon.pure _ _ 19 _ _ rfl (by kernel_rfl) (by kernel_rfl) rfl (.run rfl (P_assign (v := .str _) rfl)) ?_
            refine Canon.done _ _ (by kernel_rfl) ?_
            refine thenN ?_
            refine AW.ret ?_
            refine blkR ?_
            refine thenR ?_
            refine ⟨.inr rfl, [.str _], .cons (.tmp _ _ rfl) <| .nil, .refl _, ?_⟩
            rw [e]
            try rfl
           ·
            refine AW.seq (AW.region ?_)
            refine AOL.p (P_eql rfl rfl) rfl ?_
            refine AOL.p (P_assign (v := .bool _) rfl) rfl ?_
            refine AOL.nil (thenN ?_)
            refine AW.cond (b := _) rfl (fun hc15 => ?_) (fun hc15 => ?_)
            ·
             have hk := beq_i hc15
             unfold shapeC at hs
             rw [hk] at hs
             replace hs : ((t.kids.length : Int) == 1) = true := hs
             refine (kids_one (t := t) (beq_i hs)).elim fun x0 hq => ?_
             have h0 : t.kids[0]? = some x0 := by rw [hq]; rfl
             have hw0 := kids (by omega) x0 (List.mem_of_getElem? h0)
             have hl0 := wrap_len t x0 (writeC x0)
             have hw2 := hw0.2
             have e := wt_not hk hq
             refine AW.seq ?_
             refine AW.draw mixed (fun _ => True) trivial (by kernel_rfl) ?_
             refine Canon.pure _ _ 0 _ _ rfl (by kernel_rfl) (by kernel_rfl) rfl (.run rfl (P_load_ptr_agg (l := [.int .i64 _, .str _, .str _, .int .i64 _, _, .int .i64 _]) tok rfl rfl rfl rfl rfl)) ?_
             refine Canon.pure _ _ 1 _ _ rfl (by kernel_rfl) (by kernel_rfl) rfl (.run rfl (P_fieldAddr_ptr (cs' := [_, .int .i64 _]) tok rfl rfl rfl rfl rfl rfl)) ?_
             refine Canon.pure _ _ 2 _ _ rfl (by kernel_rfl) (by kernel_rfl) rfl (.run rfl (P_load_ptr (c := .sl _ _) tok rfl rfl rfl)) ?_
             refine Canon.pure _ _ 3 _ _ rfl (by kernel_rfl) (by kernel_rfl) rfl (.run rfl (P_indexAddr (c := [.int .i64 _, .str _, .str _, .int .i64 _, _, .int .i64 _]) tok rfl rfl rfl rfl rfl rfl (by decide) (encS_at h0))) ?_
             refine Canon.pure _ _ 4 _ _ rfl (by kernel_rfl) (by kernel_rfl) rfl (.run rfl (P_load_ptr_agg (l := [.int .i64 _, .str _, .str _, .int .i64 _, _, .int .i64 _]) tok rfl rfl rfl rfl rfl)) ?_
             refine Canon.pure _ _ 5 _ _ rfl (by kernel_rfl) (by kernel_rfl) rfl (.run rfl (P_callf (by kernel_rfl) rfl rfl (r_operand t x0 hw0))) ?_
             refine Canon.pure _ _ 6 _ _ rfl (by kernel_rfl) (by kernel_rfl) rfl (.run rfl (P_add_str rfl rfl rfl (by unfold maxLen; (try simp only [List.length_append, List.length_cons, List.length_nil]); omega))) ?_
             refine Canon.pure _ _ 7 _ _ rfl (by kernel_rfl) (by kernel_rfl) rfl (.run rfl (P_assign (v := .str _) rfl)) ?_
             refine Canon.done _ _ (by kernel_rfl) ?_
             refine thenN ?_
             refine AW.ret ?_
             refine blkR ?_
             refine thenR ?_
             refine ⟨.inr rfl, [.str _], .cons (.tmp _ _ rfl) <| .nil, .refl _, ?_⟩
             rw [e]
             try rfl
            ·
             have e := wt_call k0 k18 ⟨bne_i hc1, bne_i hc3, bne_i hc4, bne_i hc5, bne_i hc6, bne_i hc8, bne_i hc9, bne_i hc10, bne_i hc11, bne_i hc12, bne_i hc14, bne_i hc15⟩
             have hb2 := hbig
             rw [e] at hb2
             simp only [List.length_append, List.length_cons, List.length_nil] at hb2
             have hn5 := bne_i hc5
             refine AW.skip ?_
             refine blkN ?_
             refine thenN ?_
             refine AW.seq ?_
             refine AW.draw mixed (fun _ => True) trivial (by kernel_rfl) ?_
             refine Canon.pure _ _ 0 _ _ rfl (by kernel_rfl) (by kernel_rfl) rfl (.run rfl (P_fieldAddr_ptr (cs' := [.int .i64 _, .str _, .str _, .int .i64 _, _, .int .i64 _]) tok rfl rfl rfl rfl rfl rfl)) ?_
             refine Canon.pure _ _ 1 _ _ rfl (by kernel_rfl) (by kernel_rfl) rfl (.run rfl (P_load_ptr (c := .int .i64 _) tok rfl rfl rfl)) ?_
             refine Canon.pure _ _ 2 _ _ rfl (by kernel_rfl) (by kernel_rfl) rfl (.run rfl (P_callf (by kernel_rfl) rfl rfl (r_keyword t.kind))) ?_
             refine Canon.pure _ _ 3 _ _ rfl (by kernel_rfl) (by kernel_rfl) rfl (.run rfl (P_add_str rfl rfl rfl (by unfold maxLen; (try simp only [List.length_append, List.length_cons, List.length_nil]); omega))) ?_
             refine Canon.pure _ _ 4 _ _ rfl (by kernel_rfl) (by kernel_rfl) rfl (.run rfl (P_load_ptr_agg (l := [.int .i64 _, .str _, .str _, .int .i64 _, _, .int .i64 _]) tok rfl rfl rfl rfl rfl)) ?_
             refine Canon.pure _ _ 5 _ _ rfl (by kernel_rfl) (by kernel_rfl) rfl (.run rfl (P_callf (by kernel_rfl) rfl rfl (r_list0 t (by omega) (kids hn5) (by omega)))) ?_
             refine Canon.pure _ _ 6 _ _ rfl (by kernel_rfl) (by kernel_rfl) rfl (.run rfl (P_add_str rfl rfl rfl (by unfold maxLen; (try simp only [List.length_append, List.length_cons, List.length_nil]); omega))) ?_
             refine Canon.pure _ _ 7 _ _ rfl (by kernel_rfl) (by kernel_rfl) rfl (.run rfl (P_add_str rfl rfl rfl (by unfold maxLen; (try simp only [List.length_append, List.length_cons, List.length_nil]); omega))) ?_
             refine Canon.pure _ _ 8 _ _ rfl (by kernel_rfl) (by kernel_rfl) rfl (.run rfl (P_assign (v := .str _) rfl)) ?_
             refine Canon.done _ _ (by kernel_rfl) ?_
             refine thenN ?_
             refine AW.ret ?_
             refine ⟨.inr rfl, [.str _], .cons (.tmp _ _ rfl) <| .nil, .refl _, ?_⟩
             rw [e]
             try rfl
set_option maxRecDepth 20000 in
set_option maxHeartbeats 3200000 in
theorem r_written (t : Syn) (p : Pl) (hfew : fewC t = true) (hp : p.fine) (ho : p.ok) : APure Tryz.prog 35 [.agg (cSyn t), .int .i64 p.role] (.tuple [.str (writtenC t p).1, .int .i64 (writtenC t p).2]) := by
 refine APure.body (n := 23) tok Tryz.func35 rfl rfl rfl fun H => ?_
 refine AW.seq (AW.region ?_)
 refine AOL.p (P_box (v := .agg _) (cs := [.int .i64 _, .str _, .str _, .int .i64 _, _, .int .i64 _]) rfl rfl rfl) rfl ?_
 refine AOL.p (P_assign (v := .str _) rfl) rfl ?_
 refine AOL.p (P_assign (v := .int .i64 _) rfl) rfl ?_
 refine AOL.nil (thenN ?_)
 refine AW.seq ?_
 refine AW.seq (AW.region ?_)
 refine AOL.p (P_load_ptr_agg (l := [.int .i64 _, .str _, .str _, .int .i64 _, _, .int .i64 _]) tok rfl rfl rfl rfl rfl) rfl ?_
 refine AOL.p (P_move (v := .int .i64 _) rfl) rfl ?_
 refine AOL.p (P_callf (by kernel_rfl) rfl rfl (r_check t p ho hfew)) rfl ?_
 refine AOL.p (P_assign (v := .int .i64 _) rfl) rfl ?_
 refine AOL.nil (thenN ?_)
 refine AW.seq (AW.region ?_)
 refine AOL.p (P_move (v := .int .i64 _) rfl) rfl ?_
 refine AOL.p (P_neq rfl rfl) rfl ?_
 refine AOL.nil (thenN ?_)
 refine AW.cond (b := _) rfl (fun hc1 => ?_) (fun hc1 => ?_)
 ·
  refine AW.seq (AW.region ?_)
  refine AOL.p (P_move (v := .int .i64 _) rfl) rfl ?_
  refine AOL.p (P_assign (v := .str _) rfl) rfl ?_
  refine AOL.p (P_assign (v := .int .i64 _) rfl) rfl ?_
  refine AOL.nil (thenN ?_)
  refine AW.ret ?_
  refine thenR ?_
  refine ⟨.inr rfl, [.str _, .int .i64 _], .cons (.tmp _ _ rfl) <| .cons (.tmp _ _ rfl) <| .nil, .refl _, ?_⟩
  have h9 : writtenC t p = ([], checkC t p) := if_pos hc1
  rw [h9]; rfl
 ·
  have h0 : checkC t p = 0 := by simpa using hc1
  have hkd := hp _ (own_at (ok_own h0).1).1
  have hwl := write_big h0 hfew
  refine AW.skip ?_
  refine thenN ?_
  refine AW.seq ?_
  refine AW.seq (AW.region ?_)
  refine AOL.p (P_load_ptr_agg (l := [.int .i64 _, .str _, .str _, .int .i64 _, _, .int .i64 _]) tok rfl rfl rfl rfl rfl) rfl ?_
  refine AOL.p (P_callf (by kernel_rfl) rfl rfl (r_nesting t hfew)) rfl ?_
  refine AOL.p (P_gtr rfl rfl) rfl ?_
  refine AOL.nil (thenN ?_)
  refine AW.cond (b := _) rfl (fun hc2 => ?_) (fun hc2 => ?_)
  ·
   refine AW.seq (AW.region ?_)
   refine AOL.p (P_assign (v := .str _) rfl) rfl ?_
   refine AOL.p (P_assign (v := .int .i64 _) rfl) rfl ?_
   refine AOL.nil (thenN ?_)
   refine AW.ret ?_
   refine thenR ?_
   refine ⟨.inr rfl, [.str _, .int .i64 _], .cons (.tmp _ _ rfl) <| .cons (.tmp _ _ rfl) <| .nil, .refl _, ?_⟩
   have h9 : writtenC t p = ([], 12) := (ifF hc1).trans (if_pos hc2)
   rw [h9]; rfl
  ·
   refine AW.skip ?_
   refine thenN ?_
   refine AW.seq (AW.region ?_)
   refine AOL.p (P_load_ptr_agg (l := [.int .i64 _, .str _, .str _, .int .i64 _, _, .int .i64 _]) tok rfl rfl rfl rfl rfl) rfl ?_
   refine AOL.p (P_callf (by kernel_rfl) rfl rfl (r_write t p h0 hfew hkd.1 hkd.2.1 hkd.2.2)) rfl ?_
   refine AOL.p (P_assign (v := .str _) rfl) rfl ?_
   refine AOL.nil (thenN ?_)
   refine AW.seq ?_
   refine AW.seq (AW.region ?_)
   refine AOL.p (P_move (v := .str _) rfl) rfl ?_
   refine AOL.p (P_len_str tok rfl rfl rfl rfl) rfl ?_
   refine AOL.p (P_gtr rfl rfl) rfl ?_
   refine AOL.nil (thenN ?_)
   refine AW.cond (b := _) rfl (fun hc3 => ?_) (fun hc3 => ?_)
   ·
    refine AW.seq (AW.region ?_)
    refine AOL.p (P_assign (v := .str _) rfl) rfl ?_
    refine AOL.p (P_assign (v := .int .i64 _) rfl) rfl ?_
    refine AOL.nil (thenN ?_)
    refine AW.ret ?_
    refine thenR ?_
    refine ⟨.inr rfl, [.str _, .int .i64 _], .cons (.tmp _ _ rfl) <| .cons (.tmp _ _ rfl) <| .nil, .refl _, ?_⟩
    have h9 : writtenC t p = ([], 13) := ((ifF hc1).trans (ifF hc2)).trans (if_pos hc3)
    rw [h9]; rfl
   ·
    refine AW.skip ?_
    refine thenN ?_
    refine AW.seq (AW.region ?_)
    refine AOL.p (P_move (v := .str _) rfl) rfl ?_
    refine AOL.p (P_assign (v := .str _) rfl) rfl ?_
    refine AOL.p (P_assign (v := .int .i64 _) rfl) rfl ?_
    refine AOL.nil (thenN ?_)
    refine AW.ret ?_
    refine ⟨.inr rfl, [.str _, .int .i64 _], .cons (.tmp _ _ rfl) <| .cons (.tmp _ _ rfl) <| .nil, .refl _, ?_⟩
    have h9 : writtenC t p = (writeC t, 0) := ((ifF hc1).trans (ifF hc2)).trans (ifF hc3)
    rw [h9]; rfl
set_option maxRecDepth 20000 in
set_option maxHeartbeats 400000 in
theorem r_Format (t : Syn) (hfew : fewC t = true) : APure Tryz.prog 23 [.agg (cSyn t)] (.tuple [.str (writtenC t (.only 0)).1, .int .i64 (writtenC t (.only 0)).2]) := by
 refine APure.body (n := 8) tok Tryz.func23 rfl rfl rfl fun H => ?_
 refine AW.seq (AW.region ?_)
 refine AOL.p (P_box (v := .agg _) (cs := [.int .i64 _, .str _, .str _, .int .i64 _, _, .int .i64 _]) rfl rfl rfl) rfl ?_
 refine AOL.p (P_assign (v := .str _) rfl) rfl ?_
 refine AOL.p (P_assign (v := .int .i64 _) rfl) rfl ?_
 refine AOL.nil (thenN ?_)
 refine AW.seq (AW.region ?_)
 refine AOL.p (P_load_ptr_agg (l := [.int .i64 _, .str _, .str _, .int .i64 _, _, .int .i64 _]) tok rfl rfl rfl rfl rfl) rfl ?_
 refine AOL.p (P_callf (by kernel_rfl) rfl rfl (r_written t (.only 0) hfew fine_program (.inl rfl))) rfl ?_
 refine AOL.p (P_extract (v := .str _) rfl rfl) rfl ?_
 refine AOL.p (P_extract (v := .int .i64 _) rfl rfl) rfl ?_
 refine AOL.p (P_assign (v := .str _) rfl) rfl ?_
 refine AOL.p (P_assign (v := .int .i64 _) rfl) rfl ?_
 refine AOL.nil (thenN ?_)
 refine AW.ret ?_
 refine ⟨.inr rfl, [.str _, .int .i64 _], .cons (.tmp _ _ rfl) <| .cons (.tmp _ _ rfl) <| .nil, .refl _, ?_⟩
 rfl
set_option maxRecDepth 20000 in
set_option maxHeartbeats 400000 in
theorem r_Query (t : Syn) (hfew : fewC t = true) : APure Tryz.prog 22 [.agg (cSyn t)] (.tuple [.str (writtenC t (.only 3)).1, .int .i64 (writtenC t (.only 3)).2]) := by
 refine APure.body (n := 8) tok Tryz.func22 rfl rfl rfl fun H => ?_
 refine AW.seq (AW.region ?_)
 refine AOL.p (P_box (v := .agg _) (cs := [.int .i64 _, .str _, .str _, .int .i64 _, _, .int .i64 _]) rfl rfl rfl) rfl ?_
 refine AOL.p (P_assign (v := .str _) rfl) rfl ?_
 refine AOL.p (P_assign (v := .int .i64 _) rfl) rfl ?_
 refine AOL.nil (thenN ?_)
 refine AW.seq (AW.region ?_)
 refine AOL.p (P_load_ptr_agg (l := [.int .i64 _, .str _, .str _, .int .i64 _, _, .int .i64 _]) tok rfl rfl rfl rfl rfl) rfl ?_
 refine AOL.p (P_callf (by kernel_rfl) rfl rfl (r_written t (.only 3) hfew fine_query3 (.inr (.inr (.inr (.inl rfl)))))) rfl ?_
 refine AOL.p (P_extract (v := .str _) rfl rfl) rfl ?_
 refine AOL.p (P_extract (v := .int .i64 _) rfl rfl) rfl ?_
 refine AOL.p (P_assign (v := .str _) rfl) rfl ?_
 refine AOL.p (P_assign (v := .int .i64 _) rfl) rfl ?_
 refine AOL.nil (thenN ?_)
 refine AW.ret ?_
 refine ⟨.inr rfl, [.str _, .int .i64 _], .cons (.tmp _ _ rfl) <| .cons (.tmp _ _ rfl) <| .nil, .refl _, ?_⟩
 rfl
set_option maxRecDepth 20000 in
set_option maxHeartbeats 400000 in
theorem r_Pattern (t : Syn) (hfew : fewC t = true) : APure Tryz.prog 14 [.agg (cSyn t)] (.tuple [.str (writtenC t (.pats)).1, .int .i64 (writtenC t (.pats)).2]) := by
 refine APure.body (n := 8) tok Tryz.func14 rfl rfl rfl fun H => ?_
 refine AW.seq (AW.region ?_)
 refine AOL.p (P_box (v := .agg _) (cs := [.int .i64 _, .str _, .str _, .int .i64 _, _, .int .i64 _]) rfl rfl rfl) rfl ?_
 refine AOL.p (P_assign (v := .str _) rfl) rfl ?_
 refine AOL.p (P_assign (v := .int .i64 _) rfl) rfl ?_
 refine AOL.nil (thenN ?_)
 refine AW.seq (AW.region ?_)
 refine AOL.p (P_load_ptr_agg (l := [.int .i64 _, .str _, .str _, .int .i64 _, _, .int .i64 _]) tok rfl rfl rfl rfl rfl) rfl ?_
 refine AOL.p (P_callf (by kernel_rfl) rfl rfl (r_written t (.pats) hfew fine_pats trivial)) rfl ?_
 refine AOL.p (P_extract (v := .str _) rfl rfl) rfl ?_
 refine AOL.p (P_extract (v := .int .i64 _) rfl rfl) rfl ?_
 refine AOL.p (P_assign (v := .str _) rfl) rfl ?_
 refine AOL.p (P_assign (v := .int .i64 _) rfl) rfl ?_
 refine AOL.nil (thenN ?_)
 refine AW.ret ?_
 refine ⟨.inr rfl, [.str _, .int .i64 _], .cons (.tmp _ _ rfl) <| .cons (.tmp _ _ rfl) <| .nil, .refl _, ?_⟩
 rfl
set_option maxRecDepth 20000 in
set_option maxHeartbeats 400000 in
theorem r_Expr (t : Syn) (hfew : fewC t = true) : APure Tryz.prog 16 [.agg (cSyn t)] (.tuple [.str (writtenC t (.exps)).1, .int .i64 (writtenC t (.exps)).2]) := by
 refine APure.body (n := 8) tok Tryz.func16 rfl rfl rfl fun H => ?_
 refine AW.seq (AW.region ?_)
 refine AOL.p (P_box (v := .agg _) (cs := [.int .i64 _, .str _, .str _, .int .i64 _, _, .int .i64 _]) rfl rfl rfl) rfl ?_
 refine AOL.p (P_assign (v := .str _) rfl) rfl ?_
 refine AOL.p (P_assign (v := .int .i64 _) rfl) rfl ?_
 refine AOL.nil (thenN ?_)
 refine AW.seq (AW.region ?_)
 refine AOL.p (P_load_ptr_agg (l := [.int .i64 _, .str _, .str _, .int .i64 _, _, .int .i64 _]) tok rfl rfl rfl rfl rfl) rfl ?_
 refine AOL.p (P_callf (by kernel_rfl) rfl rfl (r_written t (.exps) hfew fine_exps trivial)) rfl ?_
 refine AOL.p (P_extract (v := .str _) rfl rfl) rfl ?_
 refine AOL.p (P_extract (v := .int .i64 _) rfl rfl) rfl ?_
 refine AOL.p (P_assign (v := .str _) rfl) rfl ?_
 refine AOL.p (P_assign (v := .int .i64 _) rfl) rfl ?_
 refine AOL.nil (thenN ?_)
 refine AW.ret ?_
 refine ⟨.inr rfl, [.str _, .int .i64 _], .cons (.tmp _ _ rfl) <| .cons (.tmp _ _ rfl) <| .nil, .refl _, ?_⟩
 rfl
set_option maxRecDepth 20000 in
set_option maxHeartbeats 400000 in
theorem r_Check (t : Syn) (hfew : fewC t = true) : APure Tryz.prog 25 [.agg (cSyn t)] (.int .i64 (writtenC t (.only 0)).2) := by
 refine APure.body (n := 11) tok Tryz.func25 rfl rfl rfl fun H => ?_
 refine AW.seq (AW.region ?_)
 refine AOL.p (P_box (v := .agg _) (cs := [.int .i64 _, .str _, .str _, .int .i64 _, _, .int .i64 _]) rfl rfl rfl) rfl ?_
 refine AOL.p (P_assign (v := .int .i64 _) rfl) rfl ?_
 refine AOL.nil (thenN ?_)
 refine AW.seq (AW.region ?_)
 refine AOL.p (P_load_ptr_agg (l := [.int .i64 _, .str _, .str _, .int .i64 _, _, .int .i64 _]) tok rfl rfl rfl rfl rfl) rfl ?_
 refine AOL.p (P_callf (by kernel_rfl) rfl rfl (r_written t (.only 0) hfew fine_program (.inl rfl))) rfl ?_
 refine AOL.p (P_move (v := .tuple _) rfl) rfl ?_
 refine AOL.p (P_extract (v := .str _) rfl rfl) rfl ?_
 refine AOL.p (P_extract (v := .int .i64 _) rfl rfl) rfl ?_
 refine AOL.p (P_assign (v := .str _) rfl) rfl ?_
 refine AOL.p (P_assign (v := .int .i64 _) rfl) rfl ?_
 refine AOL.nil (thenN ?_)
 refine AW.seq (AW.region ?_)
 refine AOL.p (P_move (v := .int .i64 _) rfl) rfl ?_
 refine AOL.p (P_assign (v := .int .i64 _) rfl) rfl ?_
 refine AOL.nil (thenN ?_)
 refine AW.ret ?_
 refine ⟨.inr rfl, [.int .i64 _], .cons (.tmp _ _ rfl) <| .nil, .refl _, ?_⟩
 rfl

end Go.Proofs.YtabkeeedkhgodaaGreatDoor
