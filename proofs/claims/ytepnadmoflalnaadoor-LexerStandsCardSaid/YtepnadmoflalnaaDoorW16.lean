/-
  The law LexerStands, walked. No condition.
-/
import Derived.Test.YtepnadmoflalnaaDoorW15
import Derived.KernelRfl
namespace Go.Proofs.YtepnadmoflalnaaDoor
open Go Go.Aw
set_option linter.unusedVariables false
set_option linter.unusedSimpArgs false

theorem drop_get {α : Type} {l : List α} {k : Nat} {x : α} (h : l[k]? = some x) : l.drop k = x :: l.drop (k + 1) := by
  obtain ⟨hk, rfl⟩ := List.getElem?_eq_some_iff.1 h
  exact List.drop_eq_getElem_cons hk
theorem stands_no {s : Str} {x : Tok} (h : OkTok s x) : ((((x.kind == 2) && (((bt s x.pos.toNat).toNat : Int) != 34))) || ((x.kind != 2) && ((x.text == []) || !(Lib.hasPrefix (s.drop x.pos.toNat) x.text)))) = false := by
  by_cases hk : x.kind = 2
  · have e1 : (x.kind == 2) = true := by simpa using hk
    have e2 : (x.kind != 2) = false := by simpa using hk
    rw [e1, e2, h.2.2.1 hk]; rfl
  · have e1 : (x.kind == 2) = false := by simpa using hk
    have e2 : (x.kind != 2) = true := by simpa using hk
    have h2 := h.2.2.2 hk
    have e3 : (x.text == []) = false := by simpa using h2.1
    rw [e1, e2, h2.2, e3]; rfl

set_option maxRecDepth 20000 in
set_option maxHeartbeats 1600000 in
theorem c8 (s : Str) : APure Tryd.prog 8 [.str s] (.bool true) := by
  refine APure.body (n := 81) tok Tryd.func8 rfl rfl rfl fun H => ?_
  refine AW.seq ?_
  refine AW.region ?_
  refine AOL.p (P_assign (v := .bool _) rfl) rfl ?_
  refine AOL.nil ?_
  refine thenN ?_
  refine AW.seq ?_
  refine AW.seq ?_
  refine AW.region ?_
  refine AOL.p (P_move (v := .str _) rfl) rfl ?_
  refine AOL.p (P_len_str tok rfl rfl rfl rfl) rfl ?_
  refine AOL.p (P_gtr rfl rfl) rfl ?_
  refine AOL.nil ?_
  refine thenN ?_
  refine AW.cond (b := _) rfl (fun hc1 => ?_) (fun hc1 => ?_)
  · skip
    refine AW.seq ?_
    refine AW.region ?_
    refine AOL.p (P_callf (by kernel_rfl) rfl rfl (c12)) rfl ?_
    refine AOL.p (P_assign (v := .bool _) rfl) rfl ?_
    refine AOL.nil ?_
    refine thenN ?_
    refine AW.ret ?_
    refine thenR ?_
    refine ⟨.inr rfl, [.bool _], .cons (.tmp _ _ rfl) <| .nil, .refl _, ?_⟩
    rfl
  · skip
    have hl := le600' hc1
    refine AW.skip ?_
    refine thenN ?_
    refine AW.seq ?_
    refine AW.region ?_
    refine AOL.p (P_move (v := .str _) rfl) rfl ?_
    refine AOL.p (P_callf (by kernel_rfl) rfl rfl (c13 s (by omega))) rfl ?_
    refine AOL.p (P_move (v := .tuple _) rfl) rfl ?_
    refine AOL.p (P_extract (v := .sl _ _) rfl rfl) rfl ?_
    refine AOL.p (P_extract (v := .int .i64 _) rfl rfl) rfl ?_
    refine AOL.p (P_extract (v := .int .i64 _) rfl rfl) rfl ?_
    refine AOL.p (P_assign (v := .sl _ _) rfl) rfl ?_
    refine AOL.p (P_assign (v := .int .i64 _) rfl) rfl ?_
    refine AOL.p (P_assign (v := .int .i64 _) rfl) rfl ?_
    refine AOL.nil ?_
    refine thenN ?_
    refine AW.seq ?_
    refine AW.seq ?_
    refine AW.region ?_
    refine AOL.p (P_move (v := .int .i64 _) rfl) rfl ?_
    refine AOL.p (P_neq rfl rfl) rfl ?_
    refine AOL.nil ?_
    refine thenN ?_
    refine AW.cond (b := _) rfl (fun hc2 => ?_) (fun hc2 => ?_)
    · skip
      have h9 := scan_err (err_yes hc2)
      refine AW.seq ?_
      refine AW.region ?_
      refine AOL.p (P_callf (by kernel_rfl) rfl rfl (c12)) rfl ?_
      refine AOL.p (P_move (v := .bool _) rfl) rfl ?_
      refine AOL.g (y := .sl _ _) _ [] rfl (EntL.all trivial) (fun hG => P_move (v := .sl _ _) rfl) rfl ?_
      refine AOL.g (y := .int .i64 _) _ [(23, _)] rfl (EntL.all ⟨Ent.self _ _, trivial⟩) (fun hG => P_len_sl (n := (scanS s).1.length) tok rfl rfl rfl (by simp)) rfl ?_
      refine AOL.g (y := .bool _) _ [(24, _)] rfl (EntL.all ⟨Ent.self _ _, trivial⟩) (fun hG => P_eql rfl rfl) rfl ?_
      refine AOL.p (P_pick_and rfl rfl rfl) rfl ?_
      refine AOL.p (P_assign (v := .bool _) rfl) rfl ?_
      refine AOL.nil ?_
      refine thenN ?_
      refine AW.ret ?_
      refine thenR ?_
      refine ⟨.inr rfl, [.bool _], .cons (.tmp _ _ rfl) <| .nil, .refl _, ?_⟩
      simp [resOf, h9]
    · skip
      have he := err_no hc2
      have hnl := toks_le he
      have hst := (scan_sc he).2.stands (-1) (by decide)
      refine AW.skip ?_
      refine thenN ?_
      refine AW.seq ?_
      refine AW.region ?_
      refine AOL.p (P_assign (v := .int .i64 _) rfl) rfl ?_
      refine AOL.nil ?_
      refine thenN ?_
      refine AW.seq ?_
      refine AW.seq ?_
      refine AW.region ?_
      refine AOL.p (P_assign (v := .int .i64 _) rfl) rfl ?_
      refine AOL.nil ?_
      refine thenN ?_
      refine AW.block ?_
      refine AW.loopS (fun (p : Nat × Int) => (⟨[(0, .str s), (3, .sl 3 ((scanS s).1.map mTok)), (6, .int .i64 p.2), (7, .int .i64 (p.1 : Int))], H, 81⟩ : St)) (fun (p : Nat × Int) => p.1 ≤ (scanS s).1.length ∧ Asc p.2 ((scanS s).1.drop p.1)) (fun (p : Nat × Int) => (scanS s).1.length - p.1) ((0, -1)) ?_ (GS.weaken ⟨rfl, rfl, rfl, rfl, trivial⟩ (.refl _)) ?_
      · exact ⟨Nat.zero_le _, hst.1⟩
      · rintro p hR
        refine AW.seq ?_
        refine AW.seq ?_
        refine AW.region ?_
        refine AOL.p (P_move (v := .int .i64 _) rfl) rfl ?_
        refine AOL.p (P_move (v := .sl _ _) rfl) rfl ?_
        refine AOL.p (P_len_sl (n := (scanS s).1.length) tok rfl rfl rfl (by simp)) rfl ?_
        refine AOL.p (P_lss rfl rfl) rfl ?_
        refine AOL.nil ?_
        refine thenN ?_
        refine AW.cond (b := _) rfl (fun hc3 => ?_) (fun hc3 => ?_)
        · skip
          have hk : p.1 < (scanS s).1.length := by simp at hc3; omega
          refine (get_ex hk).elim fun x hx => ?_
          have hox := hst.2 x (List.mem_of_getElem? hx)
          have hx1 := hox.1
          have hx4 := hox.2.1
          have hx2 : x.pos.toNat < s.length := by omega
          have hx3 : x.pos = (x.pos.toNat : Int) := by omega
          have has : Asc p.2 (x :: (scanS s).1.drop (p.1 + 1)) := by rw [← drop_get hx]; exact hR.2
          have h8 : (decide (x.pos ≤ p.2) || decide ((s.length : Int) ≤ x.pos)) = false := by rw [decide_eq_false (show ¬ x.pos ≤ p.2 by have := has.1; omega), decide_eq_false (show ¬ (s.length : Int) ≤ x.pos by omega)]; rfl
          refine AW.skip ?_
          refine thenN ?_
          refine AW.seq ?_
          refine AW.block ?_
          refine AW.seq ?_
          refine AW.region ?_
          refine AOL.p (P_move (v := .sl _ _) rfl) rfl ?_
          refine AOL.p (P_move (v := .int .i64 _) rfl) rfl ?_
          refine AOL.p (P_indexAddr (c := [.int .i64 _, .str _, .int .i64 _]) tok rfl rfl rfl rfl rfl rfl (by omega) (tk_get hx)) rfl ?_
          refine AOL.p (P_load_ptr_agg (l := [.int .i64 _, .str _, .int .i64 _]) tok rfl rfl rfl rfl rfl) rfl ?_
          refine AOL.e (E_alloc (l := [.int .i64 0, .str [], .int .i64 0]) (by kernel_rfl)) rfl ?_
          rintro _ _ ⟨b8, rfl, rfl⟩
          refine AOL.e (E_store (k := 0) (v := .agg _) (cs' := [.int .i64 _, .str _, .int .i64 _]) (H2 := _ :: _) tok rfl rfl rfl rfl rfl rfl rfl rfl rfl) rfl ?_
          rintro _ _ ⟨rfl, rfl⟩
          refine AOL.ghost (GS.freeze (t := 8) 0 rfl rfl) ?_
          refine AOL.nil ?_
          refine thenN ?_
          refine AW.seq ?_
          refine AW.seq ?_
          refine AW.region ?_
          refine AOL.p (P_fieldAddr_ptr (cs' := [.int .i64 _]) tok rfl rfl rfl rfl rfl rfl) rfl ?_
          refine AOL.p (P_load_ptr (c := .int .i64 _) tok rfl rfl rfl) rfl ?_
          refine AOL.p (P_move (v := .int .i64 _) rfl) rfl ?_
          refine AOL.p (P_leq rfl rfl) rfl ?_
          refine AOL.p (P_move (v := .bool _) rfl) rfl ?_
          refine AOL.g (y := .ptr _) _ [] rfl (EntL.all trivial) (fun hG => P_fieldAddr_ptr (cs' := [.int .i64 _]) tok rfl rfl rfl rfl rfl rfl) rfl ?_
          refine AOL.g (y := .int .i64 _) _ [(42, _)] rfl (EntL.all ⟨Ent.self _ _, trivial⟩) (fun hG => P_load_ptr (c := .int .i64 _) tok rfl rfl rfl) rfl ?_
          refine AOL.g (y := .str _) _ [] rfl (EntL.all trivial) (fun hG => P_move (v := .str _) rfl) rfl ?_
          refine AOL.g (y := .int .i64 _) _ [(44, _)] rfl (EntL.all ⟨Ent.self _ _, trivial⟩) (fun hG => P_len_str tok rfl rfl rfl rfl) rfl ?_
          refine AOL.g (y := .bool _) _ [(43, _), (45, _)] rfl (EntL.all ⟨Ent.self _ _, Ent.self _ _, trivial⟩) (fun hG => P_geq rfl rfl) rfl ?_
          refine AOL.p (P_pick_or rfl rfl rfl) rfl ?_
          refine AOL.nil ?_
          refine thenN ?_
          refine AW.cond (b := _) rfl (fun hc4 => ?_) (fun hc4 => ?_)
          · skip
            exact absurd (hc4.symm.trans h8) (by decide)
          · skip
            refine AW.skip ?_
            refine thenN ?_
            refine AW.seq ?_
            refine AW.region ?_
            refine AOL.p (P_fieldAddr_ptr (cs' := [.int .i64 _]) tok rfl rfl rfl rfl rfl rfl) rfl ?_
            refine AOL.p (P_load_ptr (c := .int .i64 _) tok rfl rfl rfl) rfl ?_
            refine AOL.p (P_assign (v := .int .i64 _) rfl) rfl ?_
            refine AOL.nil ?_
            refine thenN ?_
            refine AW.seq ?_
            refine AW.draw mixed (fun _ => True) trivial (by kernel_rfl) ?_
            refine Canon.pure _ _ 0 _ _ rfl (by kernel_rfl) (by kernel_rfl) rfl (.run rfl (P_fieldAddr_ptr (cs' := [.int .i64 _, .str _, .int .i64 _]) tok rfl rfl rfl rfl rfl rfl)) ?_
            refine Canon.pure _ _ 1 _ _ rfl (by kernel_rfl) (by kernel_rfl) rfl (.run rfl (P_load_ptr (c := .int .i64 _) tok rfl rfl rfl)) ?_
            refine Canon.pure _ _ 2 _ _ rfl (by kernel_rfl) (by kernel_rfl) rfl (.run rfl (P_eql rfl rfl)) ?_
            refine Canon.pure _ _ 3 _ _ rfl (by kernel_rfl) (by kernel_rfl) rfl (.run rfl (P_move (v := .bool _) rfl)) ?_
            refine Canon.pure _ _ 4 _ _ rfl (by kernel_rfl) (by kernel_rfl) rfl (.opt _ (.str _) [] rfl (EntL.all trivial) (fun hG => P_move (v := .str _) rfl) rfl) ?_
            refine Canon.pure _ _ 5 _ _ rfl (by kernel_rfl) (by kernel_rfl) rfl (.opt _ (.ptr _) [] rfl (EntL.all trivial) (fun hG => P_fieldAddr_ptr (cs' := [.int .i64 _]) tok rfl rfl rfl rfl rfl rfl) rfl) ?_
            refine Canon.pure _ _ 6 _ _ rfl (by kernel_rfl) (by kernel_rfl) rfl (.opt _ (.int .i64 _) [(55, _)] rfl (EntL.all ⟨Ent.self _ _, trivial⟩) (fun hG => P_load_ptr (c := .int .i64 _) tok rfl rfl rfl) rfl) ?_
            refine Canon.pure _ _ 7 _ _ rfl (by kernel_rfl) (by kernel_rfl) rfl (.opt _ (.int .u8 _) [(54, _), (56, _)] rfl (EntL.all ⟨Ent.self _ _, Ent.self _ _, trivial⟩) (fun hG => P_index_str tok rfl rfl rfl rfl (hx1) (bt_get (i := x.pos.toNat) hx2)) rfl) ?_
            refine Canon.pure _ _ 8 _ _ rfl (by kernel_rfl) (by kernel_rfl) rfl (.opt _ (.bool _) [(57, _)] rfl (EntL.all ⟨Ent.self _ _, trivial⟩) (fun hG => P_neq rfl rfl) rfl) ?_
            refine Canon.pure _ _ 9 _ _ rfl (by kernel_rfl) (by kernel_rfl) rfl (.run rfl (P_pick_and rfl rfl rfl)) ?_
            refine Canon.pure _ _ 10 _ _ rfl (by kernel_rfl) (by kernel_rfl) rfl (.run rfl (P_move (v := .bool _) rfl)) ?_
            refine Canon.pure _ _ 11 _ _ rfl (by kernel_rfl) (by kernel_rfl) rfl (.opt _ (.ptr _) [] rfl (EntL.all trivial) (fun hG => P_fieldAddr_ptr (cs' := [.int .i64 _, .str _, .int .i64 _]) tok rfl rfl rfl rfl rfl rfl) rfl) ?_
            refine Canon.pure _ _ 12 _ _ rfl (by kernel_rfl) (by kernel_rfl) rfl (.opt _ (.int .i64 _) [(61, _)] rfl (EntL.all ⟨Ent.self _ _, trivial⟩) (fun hG => P_load_ptr (c := .int .i64 _) tok rfl rfl rfl) rfl) ?_
            refine Canon.pure _ _ 13 _ _ rfl (by kernel_rfl) (by kernel_rfl) rfl (.opt _ (.bool _) [(62, _)] rfl (EntL.all ⟨Ent.self _ _, trivial⟩) (fun hG => P_neq rfl rfl) rfl) ?_
            refine Canon.pure _ _ 14 _ _ rfl (by kernel_rfl) (by kernel_rfl) rfl (.opt _ (.bool _) [(63, _)] rfl (EntL.all ⟨Ent.self _ _, trivial⟩) (fun hG => P_move (v := .bool _) rfl) rfl) ?_
            refine Canon.pure _ _ 15 _ _ rfl (by kernel_rfl) (by kernel_rfl) rfl (.opt _ (.ptr _) [] rfl (EntL.all trivial) (fun hG => P_fieldAddr_ptr (cs' := [.str _, .int .i64 _]) tok rfl rfl rfl rfl rfl rfl) rfl) ?_
            refine Canon.pure _ _ 16 _ _ rfl (by kernel_rfl) (by kernel_rfl) rfl (.opt _ (.str _) [(65, _)] rfl (EntL.all ⟨Ent.self _ _, trivial⟩) (fun hG => P_load_ptr (c := .str _) tok rfl rfl rfl) rfl) ?_
            refine Canon.pure _ _ 17 _ _ rfl (by kernel_rfl) (by kernel_rfl) rfl (.opt _ (.bool _) [(66, _)] rfl (EntL.all ⟨Ent.self _ _, trivial⟩) (fun hG => P_eql_str rfl rfl) rfl) ?_
            refine Canon.pure _ _ 18 _ _ rfl (by kernel_rfl) (by kernel_rfl) rfl (.opt _ (.bool _) [(67, _)] rfl (EntL.all ⟨Ent.self _ _, trivial⟩) (fun hG => P_move (v := .bool _) rfl) rfl) ?_
            refine Canon.pure _ _ 19 _ _ rfl (by kernel_rfl) (by kernel_rfl) rfl (.opt _ (.str _) [] rfl (EntL.all trivial) (fun hG => P_move (v := .str _) rfl) rfl) ?_
            refine Canon.pure _ _ 20 _ _ rfl (by kernel_rfl) (by kernel_rfl) rfl (.opt _ (.ptr _) [] rfl (EntL.all trivial) (fun hG => P_fieldAddr_ptr (cs' := [.int .i64 _]) tok rfl rfl rfl rfl rfl rfl) rfl) ?_
            refine Canon.pure _ _ 21 _ _ rfl (by kernel_rfl) (by kernel_rfl) rfl (.opt _ (.int .i64 _) [(70, _)] rfl (EntL.all ⟨Ent.self _ _, trivial⟩) (fun hG => P_load_ptr (c := .int .i64 _) tok rfl rfl rfl) rfl) ?_
            refine Canon.pure _ _ 22 _ _ rfl (by kernel_rfl) (by kernel_rfl) rfl (.opt _ (.str _) [(69, _), (71, _)] rfl (EntL.all ⟨Ent.self _ _, Ent.self _ _, trivial⟩) (fun hG => P_slice_str (l := x.pos.toNat) (h := s.length) tok rfl rfl rfl (⟨.i64, congrArg (AV.int .i64) hx3⟩) (rfl) (by omega) (Nat.le_refl _) (congrArg (List.drop _) List.take_length)) rfl) ?_
            refine Canon.pure _ _ 23 _ _ rfl (by kernel_rfl) (by kernel_rfl) rfl (.opt _ (.ptr _) [] rfl (EntL.all trivial) (fun hG => P_fieldAddr_ptr (cs' := [.str _, .int .i64 _]) tok rfl rfl rfl rfl rfl rfl) rfl) ?_
            refine Canon.pure _ _ 24 _ _ rfl (by kernel_rfl) (by kernel_rfl) rfl (.opt _ (.str _) [(73, _)] rfl (EntL.all ⟨Ent.self _ _, trivial⟩) (fun hG => P_load_ptr (c := .str _) tok rfl rfl rfl) rfl) ?_
            refine Canon.pure _ _ 25 _ _ rfl (by kernel_rfl) (by kernel_rfl) rfl (.opt _ (.bool _) [(72, _), (74, _)] rfl (EntL.all ⟨Ent.self _ _, Ent.self _ _, trivial⟩) (fun hG => P_callf (by kernel_rfl) rfl rfl (k28 _ _)) rfl) ?_
            refine Canon.pure _ _ 26 _ _ rfl (by kernel_rfl) (by kernel_rfl) rfl (.opt _ (.bool _) [(75, _)] rfl (EntL.all ⟨Ent.self _ _, trivial⟩) (fun hG => P_not rfl) rfl) ?_
            refine Canon.pure _ _ 27 _ _ rfl (by kernel_rfl) (by kernel_rfl) rfl (.opt _ (.bool _) [(68, _), (76, _)] rfl (EntL.all ⟨Ent.self _ _, Ent.suf _ _ _, trivial⟩) (fun hG => P_pick_or rfl rfl rfl) rfl) ?_
            refine Canon.pure _ _ 28 _ _ rfl (by kernel_rfl) (by kernel_rfl) rfl (.opt _ (.bool _) [(64, _), (77, _)] rfl (EntL.all ⟨Ent.self _ _, Ent.suf _ _ _, trivial⟩) (fun hG => P_pick_and rfl rfl rfl) rfl) ?_
            refine Canon.pure _ _ 29 _ _ rfl (by kernel_rfl) (by kernel_rfl) rfl (.run rfl (P_pick_or rfl rfl rfl)) ?_
            refine Canon.done _ _ (by kernel_rfl) ?_
            refine thenN ?_
            refine AW.cond (b := _) rfl (fun hc5 => ?_) (fun hc5 => ?_)
            · skip
              exact absurd (hc5.symm.trans (stands_no hox)) (by decide)
            · skip
              refine AW.skip ?_
              refine blkN ?_
              refine thenN ?_
              refine AW.region ?_
              refine AOL.p (P_move (v := .int .i64 _) rfl) rfl ?_
              refine AOL.p (P_add rfl rfl rfl (by constructor <;> omega)) rfl ?_
              refine AOL.p (P_assign (v := .int .i64 _) rfl) rfl ?_
              refine AOL.nil ?_
              refine thenN ?_
              refine ⟨(p.1 + 1, x.pos), ?_, ?_, GS.weaken ⟨rfl, rfl, rfl, rfl, trivial⟩ (.refl _)⟩
              · exact ⟨hk, has.2⟩
              · simp only; omega
        · skip
          refine AW.exit ?_
          refine thenE ?_
          refine thenE ?_
          refine blkHit ?_
          refine thenN ?_
          refine AW.seq ?_
          refine AW.region ?_
          refine AOL.p (P_callf (by kernel_rfl) rfl rfl (c12)) rfl ?_
          refine AOL.p (P_assign (v := .bool _) rfl) rfl ?_
          refine AOL.nil ?_
          refine thenN ?_
          refine AW.ret ?_
          refine ⟨.inr rfl, [.bool _], .cons (.tmp _ _ rfl) <| .nil, .refl _, ?_⟩
          rfl

end Go.Proofs.YtepnadmoflalnaaDoor
