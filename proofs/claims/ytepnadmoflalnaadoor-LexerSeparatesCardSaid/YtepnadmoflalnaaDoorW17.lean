/-
  The law LexerSeparates, walked. No condition.
-/
import Derived.Test.YtepnadmoflalnaaDoorW16
import Derived.KernelRfl
namespace Go.Proofs.YtepnadmoflalnaaDoor
open Go Go.Aw
set_option linter.unusedVariables false
set_option linter.unusedSimpArgs false

theorem sep_get {l m : List Tok} {d k : Nat} {x : Tok} (h : (l ++ m.map (shT d))[k]? = some x) :
    (k < l.length → l[k]? = some x) ∧ (l.length ≤ k → ∃ y, m[((k : Int) - (l.length : Int)).toNat]? = some y ∧ y.kind = x.kind ∧ y.text = x.text ∧ x.pos = y.pos + (d : Int)) := by
  constructor
  · intro hk; rwa [List.getElem?_append_left hk] at h
  · intro hk
    rw [List.getElem?_append_right hk, List.getElem?_map] at h
    have e : ((k : Int) - (l.length : Int)).toNat = k - l.length := by omega
    rw [e]
    cases hm : m[k - l.length]? with
    | none => rw [hm] at h; cases h
    | some y =>
      rw [hm] at h
      obtain rfl := Option.some.inj h
      exact ⟨y, rfl, rfl, rfl, rfl⟩
theorem sep_no {x y : Tok} {d : Int} (h : y.kind = x.kind ∧ y.text = x.text ∧ x.pos = y.pos + d) : (((x.kind != y.kind) || (x.text != y.text)) || (x.pos != y.pos + d)) = false := by
  rw [h.1, h.2.1, h.2.2]; simp
theorem or_no {a b : Bool} (h : (a || b) = false) : a = false ∧ b = false := by
  rw [Bool.or_eq_false_iff] at h; exact h

set_option maxRecDepth 20000 in
set_option maxHeartbeats 1600000 in
theorem c9 (a c : Str) (kind : Int) : APure Tryd.prog 9 [.str a, .str c, .int .u8 kind] (.bool true) := by
  refine APure.body (n := 138) tok Tryd.func9 rfl rfl rfl fun H => ?_
  refine AW.seq ?_
  refine AW.region ?_
  refine AOL.p (P_assign (v := .bool _) rfl) rfl ?_
  refine AOL.nil ?_
  refine thenN ?_
  refine AW.seq ?_
  refine AW.seq ?_
  refine AW.region ?_
  refine AOL.p (P_move (v := .str _) rfl) rfl ?_
  refine AOL.p (P_len_str tok rfl rfl rfl rfl) rfl ?_
  refine AOL.p (P_gtr rfl rfl) rfl ?_
  refine AOL.p (P_move (v := .bool _) rfl) rfl ?_
  refine AOL.g (y := .str _) _ [] rfl (EntL.all trivial) (fun hG => P_move (v := .str _) rfl) rfl ?_
  refine AOL.g (y := .int .i64 _) _ [(24, _)] rfl (EntL.all ⟨Ent.self _ _, trivial⟩) (fun hG => P_len_str tok rfl rfl rfl rfl) rfl ?_
  refine AOL.g (y := .bool _) _ [(25, _)] rfl (EntL.all ⟨Ent.self _ _, trivial⟩) (fun hG => P_gtr rfl rfl) rfl ?_
  refine AOL.p (P_pick_or rfl rfl rfl) rfl ?_
  refine AOL.nil ?_
  refine thenN ?_
  refine AW.cond (b := _) rfl (fun hc1 => ?_) (fun hc1 => ?_)
  · skip
    refine AW.seq ?_
    refine AW.region ?_
    refine AOL.p (P_callf (by kernel_rfl) rfl rfl (c12)) rfl ?_
    refine AOL.p (P_assign (v := .bool _) rfl) rfl ?_
    refine AOL.nil ?_
    refine thenN ?_
    refine AW.ret ?_
    refine thenR ?_
    refine ⟨.inr rfl, [.bool _], .cons (.tmp _ _ rfl) <| .nil, .refl _, ?_⟩
    rfl
  · skip
    have hla : a.length ≤ 300 := by simp at hc1; omega
    have hlc : c.length ≤ 300 := by simp at hc1; omega
    refine AW.skip ?_
    refine thenN ?_
    refine AW.seq ?_
    refine AW.region ?_
    refine AOL.p (P_move (v := .str _) rfl) rfl ?_
    refine AOL.p (P_callf (by kernel_rfl) rfl rfl (c13 a (by omega))) rfl ?_
    refine AOL.p (P_move (v := .tuple _) rfl) rfl ?_
    refine AOL.p (P_extract (v := .sl _ _) rfl rfl) rfl ?_
    refine AOL.p (P_extract (v := .int .i64 _) rfl rfl) rfl ?_
    refine AOL.p (P_extract (v := .int .i64 _) rfl rfl) rfl ?_
    refine AOL.p (P_assign (v := .sl _ _) rfl) rfl ?_
    refine AOL.p (P_assign (v := .int .i64 _) rfl) rfl ?_
    refine AOL.p (P_assign (v := .int .i64 _) rfl) rfl ?_
    refine AOL.nil ?_
    refine thenN ?_
    refine AW.seq ?_
    refine AW.region ?_
    refine AOL.p (P_move (v := .str _) rfl) rfl ?_
    refine AOL.p (P_callf (by kernel_rfl) rfl rfl (c13 c (by omega))) rfl ?_
    refine AOL.p (P_move (v := .tuple _) rfl) rfl ?_
    refine AOL.p (P_extract (v := .sl _ _) rfl rfl) rfl ?_
    refine AOL.p (P_extract (v := .int .i64 _) rfl rfl) rfl ?_
    refine AOL.p (P_extract (v := .int .i64 _) rfl rfl) rfl ?_
    refine AOL.p (P_assign (v := .sl _ _) rfl) rfl ?_
    refine AOL.p (P_assign (v := .int .i64 _) rfl) rfl ?_
    refine AOL.p (P_assign (v := .int .i64 _) rfl) rfl ?_
    refine AOL.nil ?_
    refine thenN ?_
    refine AW.seq ?_
    refine AW.seq ?_
    refine AW.region ?_
    refine AOL.p (P_move (v := .int .i64 _) rfl) rfl ?_
    refine AOL.p (P_neq rfl rfl) rfl ?_
    refine AOL.p (P_move (v := .bool _) rfl) rfl ?_
    refine AOL.g (y := .int .i64 _) _ [] rfl (EntL.all trivial) (fun hG => P_move (v := .int .i64 _) rfl) rfl ?_
    refine AOL.g (y := .bool _) _ [(44, _)] rfl (EntL.all ⟨Ent.self _ _, trivial⟩) (fun hG => P_neq rfl rfl) rfl ?_
    refine AOL.p (P_pick_or rfl rfl rfl) rfl ?_
    refine AOL.p (P_move (v := .bool _) rfl) rfl ?_
    refine AOL.g (y := .str _) _ [] rfl (EntL.all trivial) (fun hG => P_move (v := .str _) rfl) rfl ?_
    refine AOL.g (y := .bool _) _ [(48, _)] rfl (EntL.all ⟨Ent.self _ _, trivial⟩) (fun hG => P_callf (by kernel_rfl) rfl rfl (k29 a [35] (by omega))) rfl ?_
    refine AOL.p (P_pick_or rfl rfl rfl) rfl ?_
    refine AOL.nil ?_
    refine thenN ?_
    refine AW.cond (b := _) rfl (fun hc2 => ?_) (fun hc2 => ?_)
    · skip
      refine AW.seq ?_
      refine AW.region ?_
      refine AOL.p (P_callf (by kernel_rfl) rfl rfl (c12)) rfl ?_
      refine AOL.p (P_assign (v := .bool _) rfl) rfl ?_
      refine AOL.nil ?_
      refine thenN ?_
      refine AW.ret ?_
      refine thenR ?_
      refine ⟨.inr rfl, [.bool _], .cons (.tmp _ _ rfl) <| .nil, .refl _, ?_⟩
      rfl
    · skip
      have ea := err_no (or_no (or_no hc2).1).1
      have ec := err_no (or_no (or_no hc2).1).2
      have hn := (or_no hc2).2
      refine AW.skip ?_
      refine thenN ?_
      refine AW.seq ?_
      refine AW.region ?_
      refine AOL.p (P_assign (v := .str _) rfl) rfl ?_
      refine AOL.nil ?_
      refine thenN ?_
      refine AW.cut (fun (w : Str) => (⟨[(0, .str a), (1, .str c), (2, .int .u8 kind), (7, .sl 3 ((scanS a).1.map mTok)), (10, .sl 3 ((scanS c).1.map mTok)), (13, .str w)], H, 138⟩ : St)) (fun (w : Str) => w = bw1 ∨ w = bw2) ?_ ?_
      · skip
        refine AW.seq ?_
        refine AW.region ?_
        refine AOL.p (P_move (v := .int .u8 _) rfl) rfl ?_
        refine AOL.p (P_rem rfl rfl (by omega)) rfl ?_
        refine AOL.p (P_eql rfl rfl) rfl ?_
        refine AOL.nil ?_
        refine thenN ?_
        refine AW.cond (b := _) rfl (fun hc3 => ?_) (fun hc3 => ?_)
        · skip
          refine AW.region ?_
          refine AOL.p (P_assign (v := .str _) rfl) rfl ?_
          refine AOL.nil ?_
          refine thenN ?_
          refine ⟨bw2, ?_, GS.weaken ⟨rfl, rfl, rfl, rfl, rfl, rfl, trivial⟩ (.refl _)⟩
          exact .inr rfl
        · skip
          refine AW.skip ?_
          refine thenN ?_
          refine ⟨bw1, ?_, GS.weaken ⟨rfl, rfl, rfl, rfl, rfl, rfl, trivial⟩ (.refl _)⟩
          exact .inl rfl
      · rintro w0 hw0
        refine AW.cut (fun (w : Str) => (⟨[(0, .str a), (1, .str c), (7, .sl 3 ((scanS a).1.map mTok)), (10, .sl 3 ((scanS c).1.map mTok)), (13, .str w)], H, 138⟩ : St)) (fun (w : Str) => w = bw1 ∨ w = bw2 ∨ w = bw3) ?_ ?_
        · skip
          refine AW.seq ?_
          refine AW.region ?_
          refine AOL.p (P_move (v := .int .u8 _) rfl) rfl ?_
          refine AOL.p (P_rem rfl rfl (by omega)) rfl ?_
          refine AOL.p (P_eql rfl rfl) rfl ?_
          refine AOL.nil ?_
          refine thenN ?_
          refine AW.cond (b := _) rfl (fun hc4 => ?_) (fun hc4 => ?_)
          · skip
            refine AW.region ?_
            refine AOL.p (P_assign (v := .str _) rfl) rfl ?_
            refine AOL.nil ?_
            refine thenN ?_
            refine ⟨bw3, ?_, GS.weaken ⟨rfl, rfl, rfl, rfl, rfl, trivial⟩ (.refl _)⟩
            exact .inr (.inr rfl)
          · skip
            refine AW.skip ?_
            refine thenN ?_
            refine ⟨w0, ?_, GS.weaken ⟨rfl, rfl, rfl, rfl, rfl, trivial⟩ (.refl _)⟩
            exact hw0.elim .inl (fun h => .inr (.inl h))
        · rintro w hw
          have hmx : 1000 ≤ maxLen := by decide
          have lm1 : ((scanS a).1.map mTok).length = (scanS a).1.length := List.length_map ..
          have lm2 : ((scanS c).1.map mTok).length = (scanS c).1.length := List.length_map ..
          have lm3 : ((scanS (a ++ w ++ c)).1.map mTok).length = (scanS (a ++ w ++ c)).1.length := List.length_map ..
          have hwl : w.length ≤ 9 := by rcases hw with rfl | rfl | rfl <;> decide
          have hS := separates hw hla hlc ea ec hn
          have la := toks_le ea
          have lc := toks_le ec
          have hlw : (a ++ w ++ c).length ≤ 609 := by simp only [List.length_append]; omega
          have en : (scanS (a ++ w ++ c)).2.2 = 0 := by rw [hS]
          have hst := (scan_sc en).2.stands (-1) (by decide)
          have lw := toks_le en
          refine AW.seq ?_
          refine AW.region ?_
          refine AOL.p (P_move (v := .str _) rfl) rfl ?_
          refine AOL.p (P_move (v := .str _) rfl) rfl ?_
          refine AOL.p (P_add_str rfl rfl rfl (by simp; omega)) rfl ?_
          refine AOL.p (P_move (v := .str _) rfl) rfl ?_
          refine AOL.p (P_add_str rfl rfl rfl (by simp; omega)) rfl ?_
          refine AOL.p (P_callf (by kernel_rfl) rfl rfl (c13 (a ++ w ++ c) (by simp only [List.length_append]; omega))) rfl ?_
          refine AOL.p (P_move (v := .tuple _) rfl) rfl ?_
          refine AOL.p (P_extract (v := .sl _ _) rfl rfl) rfl ?_
          refine AOL.p (P_extract (v := .int .i64 _) rfl rfl) rfl ?_
          refine AOL.p (P_extract (v := .int .i64 _) rfl rfl) rfl ?_
          refine AOL.p (P_assign (v := .sl _ _) rfl) rfl ?_
          refine AOL.p (P_assign (v := .int .i64 _) rfl) rfl ?_
          refine AOL.p (P_assign (v := .int .i64 _) rfl) rfl ?_
          refine AOL.nil ?_
          refine thenN ?_
          refine AW.seq ?_
          refine AW.seq ?_
          refine AW.region ?_
          refine AOL.p (P_move (v := .int .i64 _) rfl) rfl ?_
          refine AOL.p (P_neq rfl rfl) rfl ?_
          refine AOL.p (P_move (v := .bool _) rfl) rfl ?_
          refine AOL.g (y := .sl _ _) _ [] rfl (EntL.all trivial) (fun hG => P_move (v := .sl _ _) rfl) rfl ?_
          refine AOL.g (y := .int .i64 _) _ [(71, _)] rfl (EntL.all ⟨Ent.self _ _, trivial⟩) (fun hG => P_len_sl tok rfl rfl rfl rfl) rfl ?_
          refine AOL.g (y := .sl _ _) _ [] rfl (EntL.all trivial) (fun hG => P_move (v := .sl _ _) rfl) rfl ?_
          refine AOL.g (y := .int .i64 _) _ [(73, _)] rfl (EntL.all ⟨Ent.self _ _, trivial⟩) (fun hG => P_len_sl tok rfl rfl rfl rfl) rfl ?_
          refine AOL.g (y := .sl _ _) _ [] rfl (EntL.all trivial) (fun hG => P_move (v := .sl _ _) rfl) rfl ?_
          refine AOL.g (y := .int .i64 _) _ [(75, _)] rfl (EntL.all ⟨Ent.self _ _, trivial⟩) (fun hG => P_len_sl tok rfl rfl rfl rfl) rfl ?_
          refine AOL.g (y := .int .i64 _) _ [(74, _), (76, _)] rfl (EntL.all ⟨Ent.self _ _, Ent.self _ _, trivial⟩) (fun hG => P_add rfl rfl rfl (by constructor <;> omega)) rfl ?_
          refine AOL.g (y := .bool _) _ [(72, _), (77, _)] rfl (EntL.all ⟨Ent.self _ _, Ent.self _ _, trivial⟩) (fun hG => P_neq rfl rfl) rfl ?_
          refine AOL.p (P_pick_or rfl rfl rfl) rfl ?_
          refine AOL.nil ?_
          refine thenN ?_
          refine AW.cond (b := _) rfl (fun hc5 => ?_) (fun hc5 => ?_)
          · skip
            have h9 : (((scanS (a ++ w ++ c)).2.2 != 0) || (((scanS (a ++ w ++ c)).1.length : Int) != ((scanS a).1.length : Int) + ((scanS c).1.length : Int))) = false := by rw [hS]; simp
            simp only [List.length_map] at hc5
            exact absurd (hc5.symm.trans h9) (by decide)
          · skip
            refine AW.skip ?_
            refine thenN ?_
            refine AW.seq ?_
            refine AW.seq ?_
            refine AW.region ?_
            refine AOL.p (P_assign (v := .int .i64 _) rfl) rfl ?_
            refine AOL.nil ?_
            refine thenN ?_
            refine AW.block ?_
            refine AW.loopS (fun (k : Nat) => (⟨[(0, .str a), (1, .str c), (7, .sl 3 ((scanS a).1.map mTok)), (10, .sl 3 ((scanS c).1.map mTok)), (13, .str w), (14, .sl 3 ((scanS (a ++ w ++ c)).1.map mTok)), (17, .int .i64 (k : Int))], H, 138⟩ : St)) (fun (k : Nat) => k ≤ (scanS (a ++ w ++ c)).1.length) (fun (k : Nat) => (scanS (a ++ w ++ c)).1.length - k) (0) ?_ (GS.weaken ⟨rfl, rfl, rfl, rfl, rfl, rfl, rfl, trivial⟩ (.refl _)) ?_
            · exact Nat.zero_le _
            · rintro k hR
              refine AW.seq ?_
              refine AW.seq ?_
              refine AW.region ?_
              refine AOL.p (P_move (v := .int .i64 _) rfl) rfl ?_
              refine AOL.p (P_move (v := .sl _ _) rfl) rfl ?_
              refine AOL.p (P_len_sl (n := (scanS (a ++ w ++ c)).1.length) tok rfl rfl rfl (by simp)) rfl ?_
              refine AOL.p (P_lss rfl rfl) rfl ?_
              refine AOL.nil ?_
              refine thenN ?_
              refine AW.cond (b := _) rfl (fun hc6 => ?_) (fun hc6 => ?_)
              · skip
                have hk : k < (scanS (a ++ w ++ c)).1.length := by have := of_decide_eq_true hc6; omega
                refine (get_ex hk).elim fun x hx => ?_
                have hx2 := sep_get (l := (scanS a).1) (m := (scanS c).1) (d := a.length + w.length) (k := k) (x := x) (by rw [hS] at hx; exact hx)
                have hxp := hst.2 x (List.mem_of_getElem? hx)
                have hxp1 := hxp.1
                have hxp2 := hxp.2.1
                refine AW.skip ?_
                refine thenN ?_
                refine AW.seq ?_
                refine AW.block ?_
                refine AW.seq ?_
                refine AW.region ?_
                refine AOL.p (P_build (l := [.int .i64 _, .str _, .int .i64 _]) tok rfl rfl rfl) rfl ?_
                refine AOL.e (E_alloc (l := [.int .i64 0, .str [], .int .i64 0]) (by kernel_rfl)) rfl ?_
                rintro _ _ ⟨b18, rfl, rfl⟩
                refine AOL.e (E_store (k := 0) (v := .agg _) (cs' := [.int .i64 _, .str _, .int .i64 _]) (H2 := _ :: _) tok rfl rfl rfl rfl rfl rfl rfl rfl rfl) rfl ?_
                rintro _ _ ⟨rfl, rfl⟩
                refine AOL.p (P_assign (v := .int .i64 _) rfl) rfl ?_
                refine AOL.nil ?_
                refine thenN ?_
                refine AW.cut (fun (q : Tok × Int) => (⟨[(0, .str a), (1, .str c), (7, .sl 3 ((scanS a).1.map mTok)), (10, .sl 3 ((scanS c).1.map mTok)), (13, .str w), (14, .sl 3 ((scanS (a ++ w ++ c)).1.map mTok)), (17, .int .i64 (k : Int)), (18, .val (.pointer (some ⟨b18, 0, none⟩))), (19, .int .i64 q.2)], .box b18 47 (cTok q.1) :: H, 138⟩ : St)) (fun (q : Tok × Int) => q.1.kind = x.kind ∧ q.1.text = x.text ∧ x.pos = q.1.pos + q.2) ?_ ?_
                · skip
                  refine AW.seq ?_
                  refine AW.region ?_
                  refine AOL.p (P_move (v := .int .i64 _) rfl) rfl ?_
                  refine AOL.p (P_move (v := .sl _ _) rfl) rfl ?_
                  refine AOL.p (P_len_sl (n := (scanS a).1.length) tok rfl rfl rfl (by simp)) rfl ?_
                  refine AOL.p (P_lss rfl rfl) rfl ?_
                  refine AOL.nil ?_
                  refine thenN ?_
                  refine AW.cond (b := _) rfl (fun hc7 => ?_) (fun hc7 => ?_)
                  · skip
                    have hkl : k < (scanS a).1.length := by simp at hc7; omega
                    refine AW.region ?_
                    refine AOL.p (P_move (v := .sl _ _) rfl) rfl ?_
                    refine AOL.p (P_move (v := .int .i64 _) rfl) rfl ?_
                    refine AOL.p (P_indexAddr (c := [.int .i64 _, .str _, .int .i64 _]) tok rfl rfl rfl rfl rfl rfl (by omega) (tk_get (hx2.1 hkl))) rfl ?_
                    refine AOL.p (P_load_ptr_agg (l := [.int .i64 _, .str _, .int .i64 _]) tok rfl rfl rfl rfl rfl) rfl ?_
                    refine AOL.e (E_store (k := 0) (v := .agg _) (cs' := [.int .i64 _, .str _, .int .i64 _]) (H2 := _ :: _) tok rfl rfl rfl rfl rfl rfl rfl rfl rfl) rfl ?_
                    rintro _ _ ⟨rfl, rfl⟩
                    refine AOL.nil ?_
                    refine thenN ?_
                    refine ⟨(x, 0), ?_, GS.weaken ⟨rfl, rfl, rfl, rfl, rfl, rfl, rfl, rfl, rfl, trivial⟩ (.refl _)⟩
                    exact ⟨rfl, rfl, by simp⟩
                  · skip
                    have hkl : (scanS a).1.length ≤ k := by simp at hc7; omega
                    refine (hx2.2 hkl).elim fun y hy => ?_
                    refine AW.region ?_
                    refine AOL.p (P_move (v := .sl _ _) rfl) rfl ?_
                    refine AOL.p (P_move (v := .int .i64 _) rfl) rfl ?_
                    refine AOL.p (P_move (v := .sl _ _) rfl) rfl ?_
                    refine AOL.p (P_len_sl (n := (scanS a).1.length) tok rfl rfl rfl (by simp)) rfl ?_
                    refine AOL.p (P_sub rfl rfl rfl (by constructor <;> omega)) rfl ?_
                    refine AOL.p (P_indexAddr (c := [.int .i64 _, .str _, .int .i64 _]) tok rfl rfl rfl rfl rfl rfl (by omega) (tk_get hy.1)) rfl ?_
                    refine AOL.p (P_load_ptr_agg (l := [.int .i64 _, .str _, .int .i64 _]) tok rfl rfl rfl rfl rfl) rfl ?_
                    refine AOL.p (P_move (v := .str _) rfl) rfl ?_
                    refine AOL.p (P_len_str tok rfl rfl rfl rfl) rfl ?_
                    refine AOL.p (P_move (v := .str _) rfl) rfl ?_
                    refine AOL.p (P_len_str tok rfl rfl rfl rfl) rfl ?_
                    refine AOL.p (P_add rfl rfl rfl (by constructor <;> omega)) rfl ?_
                    refine AOL.e (E_store (k := 0) (v := .agg _) (cs' := [.int .i64 _, .str _, .int .i64 _]) (H2 := _ :: _) tok rfl rfl rfl rfl rfl rfl rfl rfl rfl) rfl ?_
                    rintro _ _ ⟨rfl, rfl⟩
                    refine AOL.p (P_assign (v := .int .i64 _) rfl) rfl ?_
                    refine AOL.nil ?_
                    refine thenN ?_
                    refine ⟨(y, (a.length : Int) + (w.length : Int)), ?_, GS.weaken ⟨rfl, rfl, rfl, rfl, rfl, rfl, rfl, rfl, rfl, trivial⟩ (.refl _)⟩
                    exact hy.2
                · rintro q hq
                  have hq3 := hq.2.2
                  refine AW.seq ?_
                  refine AW.draw mixed (fun H' => _ ∈ H') (List.mem_of_getElem? (i := 0) rfl) (by kernel_rfl) ?_
                  refine Canon.pure _ _ 0 _ _ rfl (by kernel_rfl) (by kernel_rfl) rfl (.run rfl (P_move (v := .sl _ _) rfl)) ?_
                  refine Canon.pure _ _ 1 _ _ rfl (by kernel_rfl) (by kernel_rfl) rfl (.run rfl (P_move (v := .int .i64 _) rfl)) ?_
                  refine Canon.pure _ _ 2 _ _ rfl (by kernel_rfl) (by kernel_rfl) rfl (.run rfl (P_indexAddr (c := [.int .i64 _, .str _, .int .i64 _]) tok rfl rfl rfl rfl rfl rfl (by omega) (tk_get hx))) ?_
                  refine Canon.pure _ _ 3 _ _ rfl (by kernel_rfl) (by kernel_rfl) rfl (.run rfl (P_fieldAddr_ptr (cs' := [.int .i64 _, .str _, .int .i64 _]) tok rfl rfl rfl rfl rfl rfl)) ?_
                  refine Canon.pure _ _ 4 _ _ rfl (by kernel_rfl) (by kernel_rfl) rfl (.run rfl (P_load_ptr (c := .int .i64 _) tok rfl rfl rfl)) ?_
                  refine Canon.pure _ _ 5 _ _ rfl (by kernel_rfl) (by kernel_rfl) rfl (.run rfl (P_fieldAddr_val tok rfl rfl rfl rfl rfl rfl)) ?_
                  refine Canon.pure _ _ 6 _ _ rfl (by kernel_rfl) (by kernel_rfl) rfl (.run rfl (OpP.mem (fun k => P_load_box (k := k) (c := .int .i64 _) tok rfl rfl rfl rfl) (fun _ h => h))) ?_
                  refine Canon.pure _ _ 7 _ _ rfl (by kernel_rfl) (by kernel_rfl) rfl (.run rfl (P_neq rfl rfl)) ?_
                  refine Canon.pure _ _ 8 _ _ rfl (by kernel_rfl) (by kernel_rfl) rfl (.run rfl (P_move (v := .bool _) rfl)) ?_
                  refine Canon.pure _ _ 9 _ _ rfl (by kernel_rfl) (by kernel_rfl) rfl (.opt _ (.sl _ _) [] rfl (EntL.all trivial) (fun hG => P_move (v := .sl _ _) rfl) rfl) ?_
                  refine Canon.pure _ _ 10 _ _ rfl (by kernel_rfl) (by kernel_rfl) rfl (.opt _ (.int .i64 _) [] rfl (EntL.all trivial) (fun hG => P_move (v := .int .i64 _) rfl) rfl) ?_
                  refine Canon.pure _ _ 11 _ _ rfl (by kernel_rfl) (by kernel_rfl) rfl (.opt _ (.ptr _) [(116, _), (117, _)] rfl (EntL.all ⟨Ent.self _ _, Ent.self _ _, trivial⟩) (fun hG => P_indexAddr (c := [.int .i64 _, .str _, .int .i64 _]) tok rfl rfl rfl rfl rfl rfl (by omega) (tk_get hx)) rfl) ?_
                  refine Canon.pure _ _ 12 _ _ rfl (by kernel_rfl) (by kernel_rfl) rfl (.opt _ (.ptr _) [(118, _)] rfl (EntL.all ⟨Ent.self _ _, trivial⟩) (fun hG => P_fieldAddr_ptr (cs' := [.str _, .int .i64 _]) tok rfl rfl rfl rfl rfl rfl) rfl) ?_
                  refine Canon.pure _ _ 13 _ _ rfl (by kernel_rfl) (by kernel_rfl) rfl (.opt _ (.str _) [(119, _)] rfl (EntL.all ⟨Ent.self _ _, trivial⟩) (fun hG => P_load_ptr (c := .str _) tok rfl rfl rfl) rfl) ?_
                  refine Canon.pure _ _ 14 _ _ rfl (by kernel_rfl) (by kernel_rfl) rfl (.opt _ (.val _) [] rfl (EntL.all trivial) (fun hG => P_fieldAddr_val tok rfl rfl rfl rfl rfl rfl) rfl) ?_
                  refine Canon.pure _ _ 15 _ _ rfl (by kernel_rfl) (by kernel_rfl) rfl (.opt _ (.str _) [(121, _)] rfl (EntL.all ⟨Ent.self _ _, trivial⟩) (fun hG => OpP.mem (fun k => P_load_box (k := k) (c := .str _) tok rfl rfl rfl rfl) (fun _ h => h)) rfl) ?_
                  refine Canon.pure _ _ 16 _ _ rfl (by kernel_rfl) (by kernel_rfl) rfl (.opt _ (.bool _) [(120, _), (122, _)] rfl (EntL.all ⟨Ent.self _ _, Ent.self _ _, trivial⟩) (fun hG => P_neq_str rfl rfl) rfl) ?_
                  refine Canon.pure _ _ 17 _ _ rfl (by kernel_rfl) (by kernel_rfl) rfl (.run rfl (P_pick_or rfl rfl rfl)) ?_
                  refine Canon.pure _ _ 18 _ _ rfl (by kernel_rfl) (by kernel_rfl) rfl (.run rfl (P_move (v := .bool _) rfl)) ?_
                  refine Canon.pure _ _ 19 _ _ rfl (by kernel_rfl) (by kernel_rfl) rfl (.opt _ (.sl _ _) [] rfl (EntL.all trivial) (fun hG => P_move (v := .sl _ _) rfl) rfl) ?_
                  refine Canon.pure _ _ 20 _ _ rfl (by kernel_rfl) (by kernel_rfl) rfl (.opt _ (.int .i64 _) [] rfl (EntL.all trivial) (fun hG => P_move (v := .int .i64 _) rfl) rfl) ?_
                  refine Canon.pure _ _ 21 _ _ rfl (by kernel_rfl) (by kernel_rfl) rfl (.opt _ (.ptr _) [(126, _), (127, _)] rfl (EntL.all ⟨Ent.self _ _, Ent.self _ _, trivial⟩) (fun hG => P_indexAddr (c := [.int .i64 _, .str _, .int .i64 _]) tok rfl rfl rfl rfl rfl rfl (by omega) (tk_get hx)) rfl) ?_
                  refine Canon.pure _ _ 22 _ _ rfl (by kernel_rfl) (by kernel_rfl) rfl (.opt _ (.ptr _) [(128, _)] rfl (EntL.all ⟨Ent.self _ _, trivial⟩) (fun hG => P_fieldAddr_ptr (cs' := [.int .i64 _]) tok rfl rfl rfl rfl rfl rfl) rfl) ?_
                  refine Canon.pure _ _ 23 _ _ rfl (by kernel_rfl) (by kernel_rfl) rfl (.opt _ (.int .i64 _) [(129, _)] rfl (EntL.all ⟨Ent.self _ _, trivial⟩) (fun hG => P_load_ptr (c := .int .i64 _) tok rfl rfl rfl) rfl) ?_
                  refine Canon.pure _ _ 24 _ _ rfl (by kernel_rfl) (by kernel_rfl) rfl (.opt _ (.val _) [] rfl (EntL.all trivial) (fun hG => P_fieldAddr_val tok rfl rfl rfl rfl rfl rfl) rfl) ?_
                  refine Canon.pure _ _ 25 _ _ rfl (by kernel_rfl) (by kernel_rfl) rfl (.opt _ (.int .i64 _) [(131, _)] rfl (EntL.all ⟨Ent.self _ _, trivial⟩) (fun hG => OpP.mem (fun k => P_load_box (k := k) (c := .int .i64 _) tok rfl rfl rfl rfl) (fun _ h => h)) rfl) ?_
                  refine Canon.pure _ _ 26 _ _ rfl (by kernel_rfl) (by kernel_rfl) rfl (.opt _ (.int .i64 _) [] rfl (EntL.all trivial) (fun hG => P_move (v := .int .i64 _) rfl) rfl) ?_
                  refine Canon.pure _ _ 27 _ _ rfl (by kernel_rfl) (by kernel_rfl) rfl (.opt _ (.int .i64 _) [(132, _), (133, _)] rfl (EntL.all ⟨Ent.self _ _, Ent.self _ _, trivial⟩) (fun hG => P_add rfl rfl rfl (by constructor <;> omega)) rfl) ?_
                  refine Canon.pure _ _ 28 _ _ rfl (by kernel_rfl) (by kernel_rfl) rfl (.opt _ (.bool _) [(130, _), (134, _)] rfl (EntL.all ⟨Ent.self _ _, Ent.self _ _, trivial⟩) (fun hG => P_neq rfl rfl) rfl) ?_
                  refine Canon.pure _ _ 29 _ _ rfl (by kernel_rfl) (by kernel_rfl) rfl (.run rfl (P_pick_or rfl rfl rfl)) ?_
                  refine Canon.done _ _ (by kernel_rfl) ?_
                  refine thenN ?_
                  refine AW.cond (b := _) rfl (fun hc8 => ?_) (fun hc8 => ?_)
                  · skip
                    exact absurd (hc8.symm.trans (sep_no hq)) (by decide)
                  · skip
                    refine AW.skip ?_
                    refine blkN ?_
                    refine thenN ?_
                    refine AW.region ?_
                    refine AOL.p (P_move (v := .int .i64 _) rfl) rfl ?_
                    refine AOL.p (P_add rfl rfl rfl (by constructor <;> omega)) rfl ?_
                    refine AOL.p (P_assign (v := .int .i64 _) rfl) rfl ?_
                    refine AOL.nil ?_
                    refine thenN ?_
                    refine ⟨k + 1, ?_, ?_, GS.weaken ⟨rfl, rfl, rfl, rfl, rfl, rfl, rfl, trivial⟩ (.cons _ (.refl _))⟩
                    · exact hk
                    · omega
              · skip
                refine AW.exit ?_
                refine thenE ?_
                refine thenE ?_
                refine blkHit ?_
                refine thenN ?_
                refine AW.seq ?_
                refine AW.region ?_
                refine AOL.p (P_callf (by kernel_rfl) rfl rfl (c12)) rfl ?_
                refine AOL.p (P_assign (v := .bool _) rfl) rfl ?_
                refine AOL.nil ?_
                refine thenN ?_
                refine AW.ret ?_
                refine ⟨.inr rfl, [.bool _], .cons (.tmp _ _ rfl) <| .nil, .refl _, ?_⟩
                rfl

end Go.Proofs.YtepnadmoflalnaaDoor
