/-
  The law LexerReturns, walked. No condition.
-/
import Derived.Test.YtepnadmoflalnaaDoorP8
import Derived.KernelRfl
namespace Go.Proofs.YtepnadmoflalnaaDoor
open Go Go.Aw
set_option linter.unusedVariables false
set_option linter.unusedSimpArgs false

theorem le600' {s : Str} (h : decide (600 < (s.length : Int)) = false) : s.length ≤ 600 := by
  simp at h; omega
theorem strs_nextf {f : Tok → Str} {l : List Tok} {k : Nat} {x : Tok} {es : List (List AV)} (h : l[k]? = some x) (he : es = strs ((l.take k).map f)) : es ++ [[AV.str (f x)]] = strs ((l.take (k + 1)).map f) := by
  rw [take_next h, he, List.map_append, strs, strs, List.map_append]; rfl
theorem err_no {n : Int} (h : (n != 0) = false) : n = 0 := by simpa using h
theorem err_yes {n : Int} (h : (n != 0) = true) : n ≠ 0 := by simpa using h
theorem kt_get {l m : List Tok} (h : m.map kt = l.map kt) {k : Nat} {x : Tok} (hx : l[k]? = some x) : ∃ y, m[k]? = some y ∧ y.kind = x.kind ∧ y.text = x.text := by
  have h1 : (m.map kt)[k]? = (l.map kt)[k]? := by rw [h]
  rw [List.getElem?_map, List.getElem?_map, hx] at h1
  cases hm : m[k]? with
  | none => rw [hm] at h1; cases h1
  | some y =>
    rw [hm] at h1
    have h2 : kt y = kt x := Option.some.inj h1
    exact ⟨y, rfl, congrArg Prod.fst h2, congrArg Prod.snd h2⟩

set_option maxRecDepth 20000 in
set_option maxHeartbeats 1600000 in
theorem c7 (s : Str) : APure Tryd.prog 7 [.str s] (.bool true) := by
  refine APure.body (n := 91) tok Tryd.func7 rfl rfl rfl fun H => ?_
  refine AW.seq ?_
  refine AW.region ?_
  refine AOL.p (P_assign (v := .bool _) rfl) rfl ?_
  refine AOL.nil ?_
  refine thenN ?_
  refine AW.seq ?_
  refine AW.seq ?_
  refine AW.region ?_
  refine AOL.p (P_move (v := .str _) rfl) rfl ?_
  refine AOL.p (P_len_str tok rfl rfl rfl rfl) rfl ?_
  refine AOL.p (P_gtr rfl rfl) rfl ?_
  refine AOL.nil ?_
  refine thenN ?_
  refine AW.cond (b := _) rfl (fun hc1 => ?_) (fun hc1 => ?_)
  · skip
    refine AW.seq ?_
    refine AW.region ?_
    refine AOL.p (P_callf (by kernel_rfl) rfl rfl (c12)) rfl ?_
    refine AOL.p (P_assign (v := .bool _) rfl) rfl ?_
    refine AOL.nil ?_
    refine thenN ?_
    refine AW.ret ?_
    refine thenR ?_
    refine ⟨.inr rfl, [.bool _], .cons (.tmp _ _ rfl) <| .nil, .refl _, ?_⟩
    rfl
  · skip
    have hl := le600' hc1
    refine AW.skip ?_
    refine thenN ?_
    refine AW.seq ?_
    refine AW.region ?_
    refine AOL.p (P_move (v := .str _) rfl) rfl ?_
    refine AOL.p (P_callf (by kernel_rfl) rfl rfl (c13 s (by omega))) rfl ?_
    refine AOL.p (P_move (v := .tuple _) rfl) rfl ?_
    refine AOL.p (P_extract (v := .sl _ _) rfl rfl) rfl ?_
    refine AOL.p (P_extract (v := .int .i64 _) rfl rfl) rfl ?_
    refine AOL.p (P_extract (v := .int .i64 _) rfl rfl) rfl ?_
    refine AOL.p (P_assign (v := .sl _ _) rfl) rfl ?_
    refine AOL.p (P_assign (v := .int .i64 _) rfl) rfl ?_
    refine AOL.p (P_assign (v := .int .i64 _) rfl) rfl ?_
    refine AOL.nil ?_
    refine thenN ?_
    refine AW.seq ?_
    refine AW.seq ?_
    refine AW.region ?_
    refine AOL.p (P_move (v := .int .i64 _) rfl) rfl ?_
    refine AOL.p (P_neq rfl rfl) rfl ?_
    refine AOL.nil ?_
    refine thenN ?_
    refine AW.cond (b := _) rfl (fun hc2 => ?_) (fun hc2 => ?_)
    · skip
      have h9 := scan_err (err_yes hc2)
      refine AW.seq ?_
      refine AW.region ?_
      refine AOL.p (P_callf (by kernel_rfl) rfl rfl (c12)) rfl ?_
      refine AOL.p (P_move (v := .bool _) rfl) rfl ?_
      refine AOL.g (y := .sl _ _) _ [] rfl (EntL.all trivial) (fun hG => P_move (v := .sl _ _) rfl) rfl ?_
      refine AOL.g (y := .int .i64 _) _ [(26, _)] rfl (EntL.all ⟨Ent.self _ _, trivial⟩) (fun hG => P_len_sl (n := (scanS s).1.length) tok rfl rfl rfl (by simp)) rfl ?_
      refine AOL.g (y := .bool _) _ [(27, _)] rfl (EntL.all ⟨Ent.self _ _, trivial⟩) (fun hG => P_eql rfl rfl) rfl ?_
      refine AOL.p (P_pick_and rfl rfl rfl) rfl ?_
      refine AOL.p (P_assign (v := .bool _) rfl) rfl ?_
      refine AOL.nil ?_
      refine thenN ?_
      refine AW.ret ?_
      refine thenR ?_
      refine ⟨.inr rfl, [.bool _], .cons (.tmp _ _ rfl) <| .nil, .refl _, ?_⟩
      simp [resOf, h9]
    · skip
      have he := err_no hc2
      have hr := returns hl he
      have hnl := toks_le he
      refine AW.skip ?_
      refine thenN ?_
      refine AW.seq ?_
      refine AW.region ?_
      refine AOL.p (P_assign (v := .val _) rfl) rfl ?_
      refine AOL.ghost (GS.row (t := 6) 9 1 rfl) ?_
      refine AOL.nil ?_
      refine thenN ?_
      refine AW.seq ?_
      refine AW.seq ?_
      refine AW.region ?_
      refine AOL.p (P_assign (v := .int .i64 _) rfl) rfl ?_
      refine AOL.nil ?_
      refine thenN ?_
      refine AW.block ?_
      refine AW.loopS (fun (p : Nat × List (List AV) × Value) => (⟨[(0, .str s), (3, .sl 3 ((scanS s).1.map mTok)), (6, .row p.2.2 1 p.2.1), (7, .int .i64 (p.1 : Int))], .row p.2.2 p.2.1.length 9 1 :: H, 91⟩ : St)) (fun (p : Nat × List (List AV) × Value) => p.1 ≤ (scanS s).1.length ∧ p.2.1 = strs (((scanS s).1.take p.1).map writtenS)) (fun (p : Nat × List (List AV) × Value) => (scanS s).1.length - p.1) ((0, [], .slice none 0 0)) ?_ (GS.weaken ⟨rfl, rfl, rfl, rfl, trivial⟩ (.refl _)) ?_
      · exact ⟨Nat.zero_le _, rfl⟩
      · rintro p hR
        have hsc : ∀ c ∈ p.2.1, scalars c = true := by rw [hR.2]; exact sc_strs _
        have hle := hR.1
        have hel : p.2.1.length ≤ (scanS s).1.length := by rw [hR.2, List.length_map, List.length_map, List.length_take]; omega
        refine AW.seq ?_
        refine AW.seq ?_
        refine AW.region ?_
        refine AOL.p (P_move (v := .int .i64 _) rfl) rfl ?_
        refine AOL.p (P_move (v := .sl _ _) rfl) rfl ?_
        refine AOL.p (P_len_sl (n := (scanS s).1.length) tok rfl rfl rfl (by simp)) rfl ?_
        refine AOL.p (P_lss rfl rfl) rfl ?_
        refine AOL.nil ?_
        refine thenN ?_
        refine AW.cond (b := _) rfl (fun hc3 => ?_) (fun hc3 => ?_)
        · skip
          have hk : p.1 < (scanS s).1.length := by simp at hc3; omega
          refine (get_ex hk).elim fun x hx => ?_
          refine AW.skip ?_
          refine thenN ?_
          refine AW.seq ?_
          refine AW.block ?_
          refine AW.region ?_
          refine AOL.p (P_move (v := .row _ _ _) rfl) rfl ?_
          refine AOL.p (P_move (v := .sl _ _) rfl) rfl ?_
          refine AOL.p (P_move (v := .int .i64 _) rfl) rfl ?_
          refine AOL.p (P_indexAddr (c := [.int .i64 _, .str _, .int .i64 _]) tok rfl rfl rfl rfl rfl rfl (by omega) (tk_get hx)) rfl ?_
          refine AOL.p (P_load_ptr_agg (l := [.int .i64 _, .str _, .int .i64 _]) tok rfl rfl rfl rfl rfl) rfl ?_
          refine AOL.p (P_callf (by kernel_rfl) rfl rfl (c26 x (by have := text_le he (List.mem_of_getElem? hx); omega))) rfl ?_
          refine AOL.p (P_buildSlice (es := [[.str _]]) tok rfl rfl rfl rfl rfl rfl rfl rfl rfl) rfl ?_
          refine AOL.e (E_append (k := 0) tok rfl rfl rfl rfl rfl rfl rfl rfl (sc_one rfl) (hsc) (by simp; omega) (by simp [maxLen]; omega)) rfl ?_
          rintro _ _ ⟨v43, rfl, rfl⟩
          refine AOL.p (P_assign (v := .row _ _ _) rfl) rfl ?_
          refine AOL.nil ?_
          refine blkN ?_
          refine thenN ?_
          refine AW.region ?_
          refine AOL.p (P_move (v := .int .i64 _) rfl) rfl ?_
          refine AOL.p (P_add rfl rfl rfl (by constructor <;> omega)) rfl ?_
          refine AOL.p (P_assign (v := .int .i64 _) rfl) rfl ?_
          refine AOL.nil ?_
          refine thenN ?_
          refine ⟨(p.1 + 1, p.2.1 ++ [[.str (writtenS x)]], v43), ?_, ?_, GS.weaken ⟨rfl, rfl, rfl, rfl, trivial⟩ (.refl _)⟩
          · exact ⟨hk, strs_nextf hx hR.2⟩
          · simp only; omega
        · skip
          have hes : p.2.1 = strs ((scanS s).1.map writtenS) := by rw [hR.2, List.take_of_length_le (by simp at hc3; omega)]
          refine AW.exit ?_
          refine thenE ?_
          refine thenE ?_
          refine blkHit ?_
          refine thenN ?_
          refine AW.seq ?_
          refine AW.region ?_
          refine AOL.ghost (GS.unrow 6 rfl) ?_
          refine AOL.p (P_move (v := .sl _ _) rfl) rfl ?_
          refine AOL.p (P_callf (by kernel_rfl) rfl rfl (k27e ((scanS s).1.map writtenS) [32] _ hes (by rw [List.length_map]; omega) (Nat.le_trans hr.1 (by decide)))) rfl ?_
          refine AOL.p (P_callf (by kernel_rfl) rfl rfl (c13 (wj (scanS s).1) (Nat.le_trans hr.1 (by decide)))) rfl ?_
          refine AOL.p (P_move (v := .tuple _) rfl) rfl ?_
          refine AOL.p (P_extract (v := .sl _ _) rfl rfl) rfl ?_
          refine AOL.p (P_extract (v := .int .i64 _) rfl rfl) rfl ?_
          refine AOL.p (P_extract (v := .int .i64 _) rfl rfl) rfl ?_
          refine AOL.p (P_assign (v := .sl _ _) rfl) rfl ?_
          refine AOL.p (P_assign (v := .int .i64 _) rfl) rfl ?_
          refine AOL.p (P_assign (v := .int .i64 _) rfl) rfl ?_
          refine AOL.nil ?_
          refine thenN ?_
          refine AW.seq ?_
          refine AW.seq ?_
          refine AW.region ?_
          refine AOL.p (P_move (v := .int .i64 _) rfl) rfl ?_
          refine AOL.p (P_neq rfl rfl) rfl ?_
          refine AOL.p (P_move (v := .bool _) rfl) rfl ?_
          refine AOL.g (y := .sl _ _) _ [] rfl (EntL.all trivial) (fun hG => P_move (v := .sl _ _) rfl) rfl ?_
          refine AOL.g (y := .int .i64 _) _ [(54, _)] rfl (EntL.all ⟨Ent.self _ _, trivial⟩) (fun hG => P_len_sl tok rfl rfl rfl rfl) rfl ?_
          refine AOL.g (y := .sl _ _) _ [] rfl (EntL.all trivial) (fun hG => P_move (v := .sl _ _) rfl) rfl ?_
          refine AOL.g (y := .int .i64 _) _ [(56, _)] rfl (EntL.all ⟨Ent.self _ _, trivial⟩) (fun hG => P_len_sl tok rfl rfl rfl rfl) rfl ?_
          refine AOL.g (y := .bool _) _ [(55, _), (57, _)] rfl (EntL.all ⟨Ent.self _ _, Ent.self _ _, trivial⟩) (fun hG => P_neq rfl rfl) rfl ?_
          refine AOL.p (P_pick_or rfl rfl rfl) rfl ?_
          refine AOL.nil ?_
          refine thenN ?_
          refine AW.cond (b := _) rfl (fun hc4 => ?_) (fun hc4 => ?_)
          · skip
            have hlen : (scanS (wj (scanS s).1)).1.length = (scanS s).1.length := by have := congrArg List.length hr.2.2; simpa using this
            have h9 : (((scanS (wj (scanS s).1)).2.2 != 0) || (((scanS s).1.length : Int) != ((scanS (wj (scanS s).1)).1.length : Int))) = false := by rw [hr.2.1, hlen]; simp
            simp only [List.length_map] at hc4
            exact absurd (hc4.symm.trans h9) (by decide)
          · skip
            refine AW.skip ?_
            refine thenN ?_
            refine AW.seq ?_
            refine AW.seq ?_
            refine AW.region ?_
            refine AOL.p (P_assign (v := .int .i64 _) rfl) rfl ?_
            refine AOL.nil ?_
            refine thenN ?_
            refine AW.block ?_
            refine AW.loopS (fun (k : Nat) => (⟨[(3, .sl 3 ((scanS s).1.map mTok)), (8, .sl 3 ((scanS (wj (scanS s).1)).1.map mTok)), (11, .int .i64 (k : Int))], H, 91⟩ : St)) (fun (k : Nat) => k ≤ (scanS s).1.length) (fun (k : Nat) => (scanS s).1.length - k) (0) ?_ (GS.weaken ⟨rfl, rfl, rfl, trivial⟩ (.cons _ (.refl _))) ?_
            · exact Nat.zero_le _
            · rintro k hR
              refine AW.seq ?_
              refine AW.seq ?_
              refine AW.region ?_
              refine AOL.p (P_move (v := .int .i64 _) rfl) rfl ?_
              refine AOL.p (P_move (v := .sl _ _) rfl) rfl ?_
              refine AOL.p (P_len_sl (n := (scanS s).1.length) tok rfl rfl rfl (by simp)) rfl ?_
              refine AOL.p (P_lss rfl rfl) rfl ?_
              refine AOL.nil ?_
              refine thenN ?_
              refine AW.cond (b := _) rfl (fun hc5 => ?_) (fun hc5 => ?_)
              · skip
                have hk : k < (scanS s).1.length := by simp at hc5; omega
                refine (get_ex hk).elim fun x hx => ?_
                refine (kt_get hr.2.2 hx).elim fun y hy3 => ?_
                have hy := hy3.1
                refine AW.skip ?_
                refine thenN ?_
                refine AW.seq ?_
                refine AW.block ?_
                refine AW.seq ?_
                refine AW.draw mixed (fun _ => True) trivial (by kernel_rfl) ?_
                refine Canon.pure _ _ 0 _ _ rfl (by kernel_rfl) (by kernel_rfl) rfl (.run rfl (P_move (v := .sl _ _) rfl)) ?_
                refine Canon.pure _ _ 1 _ _ rfl (by kernel_rfl) (by kernel_rfl) rfl (.run rfl (P_move (v := .int .i64 _) rfl)) ?_
                refine Canon.pure _ _ 2 _ _ rfl (by kernel_rfl) (by kernel_rfl) rfl (.run rfl (P_indexAddr (c := [.int .i64 _, .str _, .int .i64 _]) tok rfl rfl rfl rfl rfl rfl (by omega) (tk_get hx))) ?_
                refine Canon.pure _ _ 3 _ _ rfl (by kernel_rfl) (by kernel_rfl) rfl (.run rfl (P_fieldAddr_ptr (cs' := [.int .i64 _, .str _, .int .i64 _]) tok rfl rfl rfl rfl rfl rfl)) ?_
                refine Canon.pure _ _ 4 _ _ rfl (by kernel_rfl) (by kernel_rfl) rfl (.run rfl (P_load_ptr (c := .int .i64 _) tok rfl rfl rfl)) ?_
                refine Canon.pure _ _ 5 _ _ rfl (by kernel_rfl) (by kernel_rfl) rfl (.run rfl (P_move (v := .sl _ _) rfl)) ?_
                refine Canon.pure _ _ 6 _ _ rfl (by kernel_rfl) (by kernel_rfl) rfl (.run rfl (P_move (v := .int .i64 _) rfl)) ?_
                refine Canon.pure _ _ 7 _ _ rfl (by kernel_rfl) (by kernel_rfl) rfl (.run rfl (P_indexAddr (c := [.int .i64 _, .str _, .int .i64 _]) tok rfl rfl rfl rfl rfl rfl (by omega) (tk_get hy))) ?_
                refine Canon.pure _ _ 8 _ _ rfl (by kernel_rfl) (by kernel_rfl) rfl (.run rfl (P_fieldAddr_ptr (cs' := [.int .i64 _, .str _, .int .i64 _]) tok rfl rfl rfl rfl rfl rfl)) ?_
                refine Canon.pure _ _ 9 _ _ rfl (by kernel_rfl) (by kernel_rfl) rfl (.run rfl (P_load_ptr (c := .int .i64 _) tok rfl rfl rfl)) ?_
                refine Canon.pure _ _ 10 _ _ rfl (by kernel_rfl) (by kernel_rfl) rfl (.run rfl (P_neq rfl rfl)) ?_
                refine Canon.pure _ _ 11 _ _ rfl (by kernel_rfl) (by kernel_rfl) rfl (.run rfl (P_move (v := .bool _) rfl)) ?_
                refine Canon.pure _ _ 12 _ _ rfl (by kernel_rfl) (by kernel_rfl) rfl (.opt _ (.sl _ _) [] rfl (EntL.all trivial) (fun hG => P_move (v := .sl _ _) rfl) rfl) ?_
                refine Canon.pure _ _ 13 _ _ rfl (by kernel_rfl) (by kernel_rfl) rfl (.opt _ (.int .i64 _) [] rfl (EntL.all trivial) (fun hG => P_move (v := .int .i64 _) rfl) rfl) ?_
                refine Canon.pure _ _ 14 _ _ rfl (by kernel_rfl) (by kernel_rfl) rfl (.opt _ (.ptr _) [(78, _), (79, _)] rfl (EntL.all ⟨Ent.self _ _, Ent.self _ _, trivial⟩) (fun hG => P_indexAddr (c := [.int .i64 _, .str _, .int .i64 _]) tok rfl rfl rfl rfl rfl rfl (by omega) (tk_get hx)) rfl) ?_
                refine Canon.pure _ _ 15 _ _ rfl (by kernel_rfl) (by kernel_rfl) rfl (.opt _ (.ptr _) [(80, _)] rfl (EntL.all ⟨Ent.self _ _, trivial⟩) (fun hG => P_fieldAddr_ptr (cs' := [.str _, .int .i64 _]) tok rfl rfl rfl rfl rfl rfl) rfl) ?_
                refine Canon.pure _ _ 16 _ _ rfl (by kernel_rfl) (by kernel_rfl) rfl (.opt _ (.str _) [(81, _)] rfl (EntL.all ⟨Ent.self _ _, trivial⟩) (fun hG => P_load_ptr (c := .str _) tok rfl rfl rfl) rfl) ?_
                refine Canon.pure _ _ 17 _ _ rfl (by kernel_rfl) (by kernel_rfl) rfl (.opt _ (.sl _ _) [] rfl (EntL.all trivial) (fun hG => P_move (v := .sl _ _) rfl) rfl) ?_
                refine Canon.pure _ _ 18 _ _ rfl (by kernel_rfl) (by kernel_rfl) rfl (.opt _ (.int .i64 _) [] rfl (EntL.all trivial) (fun hG => P_move (v := .int .i64 _) rfl) rfl) ?_
                refine Canon.pure _ _ 19 _ _ rfl (by kernel_rfl) (by kernel_rfl) rfl (.opt _ (.ptr _) [(83, _), (84, _)] rfl (EntL.all ⟨Ent.self _ _, Ent.self _ _, trivial⟩) (fun hG => P_indexAddr (c := [.int .i64 _, .str _, .int .i64 _]) tok rfl rfl rfl rfl rfl rfl (by omega) (tk_get hy)) rfl) ?_
                refine Canon.pure _ _ 20 _ _ rfl (by kernel_rfl) (by kernel_rfl) rfl (.opt _ (.ptr _) [(85, _)] rfl (EntL.all ⟨Ent.self _ _, trivial⟩) (fun hG => P_fieldAddr_ptr (cs' := [.str _, .int .i64 _]) tok rfl rfl rfl rfl rfl rfl) rfl) ?_
                refine Canon.pure _ _ 21 _ _ rfl (by kernel_rfl) (by kernel_rfl) rfl (.opt _ (.str _) [(86, _)] rfl (EntL.all ⟨Ent.self _ _, trivial⟩) (fun hG => P_load_ptr (c := .str _) tok rfl rfl rfl) rfl) ?_
                refine Canon.pure _ _ 22 _ _ rfl (by kernel_rfl) (by kernel_rfl) rfl (.opt _ (.bool _) [(82, _), (87, _)] rfl (EntL.all ⟨Ent.self _ _, Ent.self _ _, trivial⟩) (fun hG => P_neq_str rfl rfl) rfl) ?_
                refine Canon.pure _ _ 23 _ _ rfl (by kernel_rfl) (by kernel_rfl) rfl (.run rfl (P_pick_or rfl rfl rfl)) ?_
                refine Canon.done _ _ (by kernel_rfl) ?_
                refine thenN ?_
                refine AW.cond (b := _) rfl (fun hc6 => ?_) (fun hc6 => ?_)
                · skip
                  have h9 : ((x.kind != y.kind) || (x.text != y.text)) = false := by rw [hy3.2.1, hy3.2.2]; simp
                  exact absurd (hc6.symm.trans h9) (by decide)
                · skip
                  refine AW.skip ?_
                  refine blkN ?_
                  refine thenN ?_
                  refine AW.region ?_
                  refine AOL.p (P_move (v := .int .i64 _) rfl) rfl ?_
                  refine AOL.p (P_add rfl rfl rfl (by constructor <;> omega)) rfl ?_
                  refine AOL.p (P_assign (v := .int .i64 _) rfl) rfl ?_
                  refine AOL.nil ?_
                  refine thenN ?_
                  refine ⟨k + 1, ?_, ?_, GS.weaken ⟨rfl, rfl, rfl, trivial⟩ (.refl _)⟩
                  · exact hk
                  · omega
              · skip
                refine AW.exit ?_
                refine thenE ?_
                refine thenE ?_
                refine blkHit ?_
                refine thenN ?_
                refine AW.seq ?_
                refine AW.region ?_
                refine AOL.p (P_callf (by kernel_rfl) rfl rfl (c12)) rfl ?_
                refine AOL.p (P_assign (v := .bool _) rfl) rfl ?_
                refine AOL.nil ?_
                refine thenN ?_
                refine AW.ret ?_
                refine ⟨.inr rfl, [.bool _], .cons (.tmp _ _ rfl) <| .nil, .refl _, ?_⟩
                rfl

end Go.Proofs.YtepnadmoflalnaaDoor
