/-
  Walks: the printer, and the guard. No condition.
-/
import Derived.Test.YtabkeeedkhgodaaGreatDoorW13h
import Derived.KernelRfl
namespace Go.Proofs.YtabkeeedkhgodaaGreatDoor
open Go Go.Aw
set_option linter.unusedVariables false
set_option linter.unusedSimpArgs false

/-- What the places of whole texts allow. -/
def Pl.fine (p : Pl) : Prop := ∀ k, p.at k = true → 0 ≤ k ∧ k ≤ 18 ∧ k ≠ 4
theorem fine_program : Pl.fine (.only 0) := fun k h => by have := only_at h; omega
theorem fine_pats : Pl.fine .pats := fun k h => by have := pat_at h; omega
theorem fine_exps : Pl.fine .exps := fun k h => by have := exp_at h; omega
set_option maxRecDepth 20000 in
set_option maxHeartbeats 3200000 in
theorem w_written (t : Syn) (p : Pl) (hfew : medC t) (hp : p.fine) : APure Tryz.prog 33 [.agg (cSyn t), plV p] (.tuple [.str (writtenC t p).1, .int .i64 (writtenC t p).2]) := by
 obtain ⟨f, first, cap, hv, hfn, hP⟩ := pl_fn p
 have hck := w_check t p hfew
 rw [hv] at hck ⊢
 refine APure.body (n := 30) tok Tryz.func33 rfl rfl rfl fun H => ?_
 refine AW.seq (AW.region ?_)
 refine AOL.p (P_box (v := .agg _) (cs := [.int .i64 _, .str _, .str _, .int .i64 _, _, .int .i64 _]) rfl rfl rfl) rfl ?_
 refine AOL.p (P_assign (v := .str _) rfl) rfl ?_
 refine AOL.p (P_assign (v := .int .i64 _) rfl) rfl ?_
 refine AOL.nil (thenN ?_)
 refine AW.seq ?_
 refine AW.seq (AW.region ?_)
 refine AOL.p (P_load_ptr_agg (l := [.int .i64 _, .str _, .str _, .int .i64 _, _, .int .i64 _]) tok rfl rfl rfl rfl rfl) rfl ?_
 refine AOL.p (P_move (v := .fn _ _ _) rfl) rfl ?_
 refine AOL.p (P_callf (by kernel_rfl) rfl rfl (hck)) rfl ?_
 refine AOL.p (P_assign (v := .int .i64 _) rfl) rfl ?_
 refine AOL.nil (thenN ?_)
 refine AW.seq (AW.region ?_)
 refine AOL.p (P_move (v := .int .i64 _) rfl) rfl ?_
 refine AOL.p (P_neq rfl rfl) rfl ?_
 refine AOL.nil (thenN ?_)
 refine AW.cond (b := _) rfl (fun hc1 => ?_) (fun hc1 => ?_)
 ·
  refine AW.seq (AW.region ?_)
  refine AOL.p (P_move (v := .int .i64 _) rfl) rfl ?_
  refine AOL.p (P_assign (v := .str _) rfl) rfl ?_
  refine AOL.p (P_assign (v := .int .i64 _) rfl) rfl ?_
  refine AOL.nil (thenN ?_)
  refine AW.ret ?_
  refine thenR ?_
  refine ⟨.inr rfl, [.str _, .int .i64 _], .cons (.tmp _ _ rfl) <| .cons (.tmp _ _ rfl) <| .nil, .refl _, ?_⟩
  have h9 : writtenC t p = ([], checkC t p) := if_pos hc1
  rw [h9]; rfl
 ·
  have h0 : checkC t p = 0 := by simpa using hc1
  have hkd := hp _ (own_at (ok_own h0).1).1
  have hwl := med_big h0 hfew
  refine AW.skip ?_
  refine thenN ?_
  refine AW.seq ?_
  refine AW.seq (AW.region ?_)
  refine AOL.p (P_load_ptr_agg (l := [.int .i64 _, .str _, .str _, .int .i64 _, _, .int .i64 _]) tok rfl rfl rfl rfl rfl) rfl ?_
  refine AOL.p (P_callf (by kernel_rfl) rfl rfl (w_depth t hfew)) rfl ?_
  refine AOL.p (P_gtr rfl rfl) rfl ?_
  refine AOL.nil (thenN ?_)
  refine AW.cond (b := _) rfl (fun hc2 => ?_) (fun hc2 => ?_)
  ·
   refine AW.seq (AW.region ?_)
   refine AOL.p (P_assign (v := .str _) rfl) rfl ?_
   refine AOL.p (P_assign (v := .int .i64 _) rfl) rfl ?_
   refine AOL.nil (thenN ?_)
   refine AW.ret ?_
   refine thenR ?_
   refine ⟨.inr rfl, [.str _, .int .i64 _], .cons (.tmp _ _ rfl) <| .cons (.tmp _ _ rfl) <| .nil, .refl _, ?_⟩
   have h9 : writtenC t p = ([], 12) := (ifF hc1).trans (if_pos hc2)
   rw [h9]; rfl
  ·
   refine AW.skip ?_
   refine thenN ?_
   refine AW.seq (AW.region ?_)
   refine AOL.e (E_callf (by kernel_rfl) rfl rfl (w_new _)) rfl ?_
   rintro _ _ ⟨b17, rfl, rfl⟩
   refine AOL.p (P_assign (v := .val _) rfl) rfl ?_
   refine AOL.nil (thenN ?_)
   refine AW.seq (AW.region ?_)
   refine AOL.p (P_move (v := .val _) rfl) rfl ?_
   refine AOL.p (P_load_ptr_agg (l := [.int .i64 _, .str _, .str _, .int .i64 _, _, .int .i64 _]) tok rfl rfl rfl rfl rfl) rfl ?_
   refine AOL.e (E_callf (by kernel_rfl) rfl rfl (node_ok b17 t p h0 hfew hkd.1 hkd.2.1 hkd.2.2 [] _ _ (.inl rfl) _ (by show 0 + (writeC t).length ≤ big; unfold big; omega))) rfl ?_
   rintro _ _ ⟨v20, a20, rfl, ha20, rfl⟩
   refine AOL.nil (thenN ?_)
   refine AW.seq ?_
   refine AW.seq (AW.region ?_)
   refine AOL.p (P_move (v := .val _) rfl) rfl ?_
   refine AOL.p (P_nilCheck rfl) rfl ?_
   refine AOL.p (P_fieldAddr_val tok rfl rfl rfl rfl rfl rfl) rfl ?_
   refine AOL.e (E_callf (by kernel_rfl) rfl rfl (k_blen b17 62 _ _ _ _ _)) rfl ?_
   rintro _ _ ⟨rfl, rfl⟩
   refine AOL.p (P_gtr rfl rfl) rfl ?_
   refine AOL.nil (thenN ?_)
   refine AW.cond (b := _) rfl (fun hc3 => ?_) (fun hc3 => ?_)
   ·
    refine AW.seq (AW.region ?_)
    refine AOL.p (P_assign (v := .str _) rfl) rfl ?_
    refine AOL.p (P_assign (v := .int .i64 _) rfl) rfl ?_
    refine AOL.nil (thenN ?_)
    refine AW.ret ?_
    refine thenR ?_
    refine ⟨.inr rfl, [.str _, .int .i64 _], .cons (.tmp _ _ rfl) <| .cons (.tmp _ _ rfl) <| .nil, .cons _ (.cons _ (.refl _)), ?_⟩
    have h9 : writtenC t p = ([], 13) := ((ifF hc1).trans (ifF hc2)).trans (if_pos hc3)
    rw [h9]; rfl
   ·
    refine AW.skip ?_
    refine thenN ?_
    refine AW.seq (AW.region ?_)
    refine AOL.p (P_move (v := .val _) rfl) rfl ?_
    refine AOL.p (P_nilCheck rfl) rfl ?_
    refine AOL.p (P_fieldAddr_val tok rfl rfl rfl rfl rfl rfl) rfl ?_
    refine AOL.e (E_callf (by kernel_rfl) rfl rfl (k_string b17 62 _ _ _ _ _)) rfl ?_
    rintro _ _ ⟨rfl, rfl⟩
    refine AOL.p (P_assign (v := .str _) rfl) rfl ?_
    refine AOL.p (P_assign (v := .int .i64 _) rfl) rfl ?_
    refine AOL.nil (thenN ?_)
    refine AW.ret ?_
    refine ⟨.inr rfl, [.str _, .int .i64 _], .cons (.tmp _ _ rfl) <| .cons (.tmp _ _ rfl) <| .nil, .cons _ (.cons _ (.refl _)), ?_⟩
    have h9 : writtenC t p = (writeC t, 0) := ((ifF hc1).trans (ifF hc2)).trans (ifF hc3)
    rw [h9]; rfl
set_option maxRecDepth 20000 in
set_option maxHeartbeats 400000 in
theorem m_Format (t : Syn) (hfew : medC t) : APure Tryz.prog 18 [.agg (cSyn t)] (.tuple [.str (writtenC t (.only 0)).1, .int .i64 (writtenC t (.only 0)).2]) := by
 refine APure.body (n := 9) tok Tryz.func18 rfl rfl rfl fun H => ?_
 refine AW.seq (AW.region ?_)
 refine AOL.p (P_box (v := .agg _) (cs := [.int .i64 _, .str _, .str _, .int .i64 _, _, .int .i64 _]) rfl rfl rfl) rfl ?_
 refine AOL.p (P_assign (v := .str _) rfl) rfl ?_
 refine AOL.p (P_assign (v := .int .i64 _) rfl) rfl ?_
 refine AOL.nil (thenN ?_)
 refine AW.seq ?_
 refine AW.draw mixed (fun _ => True) trivial (by kernel_rfl) ?_
 refine Canon.pure _ _ 0 _ _ rfl (by kernel_rfl) (by kernel_rfl) rfl (.run rfl (P_load_ptr_agg (l := [.int .i64 _, .str _, .str _, .int .i64 _, _, .int .i64 _]) tok rfl rfl rfl rfl rfl)) ?_
 refine Canon.pure _ _ 1 _ _ rfl (by kernel_rfl) (by kernel_rfl) rfl (.run rfl (P_callf (by kernel_rfl) rfl rfl (w_only _))) ?_
 refine Canon.pure _ _ 2 _ _ rfl (by kernel_rfl) (by kernel_rfl) rfl (.run rfl (P_callf (by kernel_rfl) rfl rfl (w_written t (.only 0) hfew fine_program))) ?_
 refine Canon.pure _ _ 3 _ _ rfl (by kernel_rfl) (by kernel_rfl) rfl (.run rfl (P_extract (v := .str _) rfl rfl)) ?_
 refine Canon.pure _ _ 4 _ _ rfl (by kernel_rfl) (by kernel_rfl) rfl (.run rfl (P_extract (v := .int .i64 _) rfl rfl)) ?_
 refine Canon.pure _ _ 5 _ _ rfl (by kernel_rfl) (by kernel_rfl) rfl (.run rfl (P_assign (v := .str _) rfl)) ?_
 refine Canon.pure _ _ 6 _ _ rfl (by kernel_rfl) (by kernel_rfl) rfl (.run rfl (P_assign (v := .int .i64 _) rfl)) ?_
 refine Canon.done _ _ (by kernel_rfl) ?_
 refine thenN ?_
 refine AW.ret ?_
 refine ⟨.inr rfl, [.str _, .int .i64 _], .cons (.tmp _ _ rfl) <| .cons (.tmp _ _ rfl) <| .nil, .refl _, ?_⟩
 rfl
theorem w_Format (t : Syn) (hfew : fewC t = true) : APure Tryz.prog 18 [.agg (cSyn t)] (.tuple [.str (writtenC t (.only 0)).1, .int .i64 (writtenC t (.only 0)).2]) := m_Format t (few_med hfew)
set_option maxRecDepth 20000 in
set_option maxHeartbeats 400000 in
theorem m_Pattern (t : Syn) (hfew : medC t) : APure Tryz.prog 13 [.agg (cSyn t)] (.tuple [.str (writtenC t (.pats)).1, .int .i64 (writtenC t (.pats)).2]) := by
 refine APure.body (n := 8) tok Tryz.func13 rfl rfl rfl fun H => ?_
 refine AW.seq (AW.region ?_)
 refine AOL.p (P_box (v := .agg _) (cs := [.int .i64 _, .str _, .str _, .int .i64 _, _, .int .i64 _]) rfl rfl rfl) rfl ?_
 refine AOL.p (P_assign (v := .str _) rfl) rfl ?_
 refine AOL.p (P_assign (v := .int .i64 _) rfl) rfl ?_
 refine AOL.nil (thenN ?_)
 refine AW.seq (AW.region ?_)
 refine AOL.p (P_load_ptr_agg (l := [.int .i64 _, .str _, .str _, .int .i64 _, _, .int .i64 _]) tok rfl rfl rfl rfl rfl) rfl ?_
 refine AOL.p (P_callf (by kernel_rfl) rfl rfl (w_written t (.pats) hfew fine_pats)) rfl ?_
 refine AOL.p (P_extract (v := .str _) rfl rfl) rfl ?_
 refine AOL.p (P_extract (v := .int .i64 _) rfl rfl) rfl ?_
 refine AOL.p (P_assign (v := .str _) rfl) rfl ?_
 refine AOL.p (P_assign (v := .int .i64 _) rfl) rfl ?_
 refine AOL.nil (thenN ?_)
 refine AW.ret ?_
 refine ⟨.inr rfl, [.str _, .int .i64 _], .cons (.tmp _ _ rfl) <| .cons (.tmp _ _ rfl) <| .nil, .refl _, ?_⟩
 rfl
theorem w_Pattern (t : Syn) (hfew : fewC t = true) : APure Tryz.prog 13 [.agg (cSyn t)] (.tuple [.str (writtenC t (.pats)).1, .int .i64 (writtenC t (.pats)).2]) := m_Pattern t (few_med hfew)
set_option maxRecDepth 20000 in
set_option maxHeartbeats 400000 in
theorem m_Expr (t : Syn) (hfew : medC t) : APure Tryz.prog 15 [.agg (cSyn t)] (.tuple [.str (writtenC t (.exps)).1, .int .i64 (writtenC t (.exps)).2]) := by
 refine APure.body (n := 8) tok Tryz.func15 rfl rfl rfl fun H => ?_
 refine AW.seq (AW.region ?_)
 refine AOL.p (P_box (v := .agg _) (cs := [.int .i64 _, .str _, .str _, .int .i64 _, _, .int .i64 _]) rfl rfl rfl) rfl ?_
 refine AOL.p (P_assign (v := .str _) rfl) rfl ?_
 refine AOL.p (P_assign (v := .int .i64 _) rfl) rfl ?_
 refine AOL.nil (thenN ?_)
 refine AW.seq (AW.region ?_)
 refine AOL.p (P_load_ptr_agg (l := [.int .i64 _, .str _, .str _, .int .i64 _, _, .int .i64 _]) tok rfl rfl rfl rfl rfl) rfl ?_
 refine AOL.p (P_callf (by kernel_rfl) rfl rfl (w_written t (.exps) hfew fine_exps)) rfl ?_
 refine AOL.p (P_extract (v := .str _) rfl rfl) rfl ?_
 refine AOL.p (P_extract (v := .int .i64 _) rfl rfl) rfl ?_
 refine AOL.p (P_assign (v := .str _) rfl) rfl ?_
 refine AOL.p (P_assign (v := .int .i64 _) rfl) rfl ?_
 refine AOL.nil (thenN ?_)
 refine AW.ret ?_
 refine ⟨.inr rfl, [.str _, .int .i64 _], .cons (.tmp _ _ rfl) <| .cons (.tmp _ _ rfl) <| .nil, .refl _, ?_⟩
 rfl
theorem w_Expr (t : Syn) (hfew : fewC t = true) : APure Tryz.prog 15 [.agg (cSyn t)] (.tuple [.str (writtenC t (.exps)).1, .int .i64 (writtenC t (.exps)).2]) := m_Expr t (few_med hfew)
end Go.Proofs.YtabkeeedkhgodaaGreatDoor
