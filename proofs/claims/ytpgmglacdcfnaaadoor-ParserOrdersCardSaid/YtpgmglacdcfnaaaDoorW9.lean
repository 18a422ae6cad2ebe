/-
  Walks: all tokens of the reference; equality of lists of tokens. No condition.
-/
import Derived.Test.YtpgmglacdcfnaaaDoorW8
import Derived.KernelRfl
namespace Go.Proofs.YtpgmglacdcfnaaaDoor
open Go Go.Aw
set_option linter.unusedVariables false
set_option linter.unusedSimpArgs false

theorem scanGoR_eq {s : Str} {n i : Nat} {c : Bool} {out : List Tok} (h : 0 < n) : scanGoR s n i c out =
    if decide ((i : Int) < (s.length : Int)) then
      if ((c || spaceR (bt s i)) || (((bt s i).toNat : Int) == 35)) then scanGoR s (n - 1) (i + 1) ((c || (((bt s i).toNat : Int) == 35)) && (((bt s i).toNat : Int) != 10)) out
      else if ((tokenR s i).2.2 != 0) then (([], (tokenR s i).2.1, (tokenR s i).2.2) : List Tok × Int × Int)
      else scanGoR s (n - 1) (tokenR s i).2.1.toNat false (out ++ [(tokenR s i).1])
    else (out, 0, 0) := by
  cases n with
  | zero => omega
  | succ n => rfl
theorem get_ex {α : Type} {l : List α} {k : Nat} (h : k < l.length) : ∃ x, l[k]? = some x := ⟨_, List.getElem?_eq_getElem h⟩
theorem tk_get {l : List Tok} {k : Nat} {x : Tok} (h : l[k]? = some x) : (l.map mTok)[k]? = some [.int .i64 x.kind, .str x.text, .int .i64 x.pos] := by rw [List.getElem?_map, h]; rfl
theorem take_next {l : List Tok} {k : Nat} {x : Tok} (h : l[k]? = some x) : l.take (k + 1) = l.take k ++ [x] := by rw [List.take_add_one, h]; rfl
theorem tok_eq {x y : Tok} (h : (!((x.kind == y.kind) && ((x.text == y.text) && ((x.pos == y.pos) && true)))) = false) : x = y := by
  cases x; cases y; simp at h; simp [h]
theorem tok_ne {x y : Tok} (h : (!((x.kind == y.kind) && ((x.text == y.text) && ((x.pos == y.pos) && true)))) = true) : x ≠ y := by
  rintro rfl; simp at h
def sameS (a b : List Tok) : Bool := decide (a = b)

set_option maxRecDepth 20000 in
set_option maxHeartbeats 800000 in
theorem c14 (s : Str) (hl : s.length ≤ 1048576) : APure Tryd.prog 17 [.str s] (cScan (scanR s)) := by
  refine APure.body (n := 59) tok Tryd.func17 rfl rfl rfl fun H => ?_
  refine AW.seq ?_
  refine AW.region ?_
  refine AOL.p (P_assign_nil (z := 3) rfl) rfl ?_
  refine AOL.p (P_assign (v := .int .i64 _) rfl) rfl ?_
  refine AOL.p (P_assign (v := .int .i64 _) rfl) rfl ?_
  refine AOL.nil ?_
  refine thenN ?_
  refine AW.seq ?_
  refine AW.seq ?_
  refine AW.region ?_
  refine AOL.p (P_move (v := .str _) rfl) rfl ?_
  refine AOL.p (P_len_str tok rfl rfl rfl rfl) rfl ?_
  refine AOL.p (P_gtr rfl rfl) rfl ?_
  refine AOL.nil ?_
  refine thenN ?_
  refine AW.cond (b := _) rfl (fun hc1 => ?_) (fun hc1 => ?_)
  · skip
    refine AW.seq ?_
    refine AW.region ?_
    refine AOL.p (P_assign_nil (z := 3) rfl) rfl ?_
    refine AOL.p (P_assign (v := .int .i64 _) rfl) rfl ?_
    refine AOL.p (P_assign (v := .int .i64 _) rfl) rfl ?_
    refine AOL.nil ?_
    refine thenN ?_
    refine AW.ret ?_
    refine thenR ?_
    refine ⟨.inr rfl, [.sl _ _, .int .i64 _, .int .i64 _], .cons (.tmp _ _ rfl) <| .cons (.tmp _ _ rfl) <| .cons (.tmp _ _ rfl) <| .nil, .refl _, ?_⟩
    have h9 : scanR s = ([], 0, 13) := by unfold scanR; rw [if_pos hc1]
    rw [h9]; rfl
  · skip
    refine AW.skip ?_
    refine thenN ?_
    refine AW.seq ?_
    refine AW.region ?_
    refine AOL.p (P_assign (v := .val _) rfl) rfl ?_
    refine AOL.ghost (GS.row (t := 5) 37 3 rfl) ?_
    refine AOL.nil ?_
    refine thenN ?_
    refine AW.seq ?_
    refine AW.region ?_
    refine AOL.p (P_assign (v := .bool _) rfl) rfl ?_
    refine AOL.nil ?_
    refine thenN ?_
    refine AW.seq ?_
    refine AW.seq ?_
    refine AW.region ?_
    refine AOL.p (P_assign (v := .int .i64 _) rfl) rfl ?_
    refine AOL.nil ?_
    refine thenN ?_
    refine AW.block ?_
    refine AW.loopS (fun (p : Nat × Nat × Bool × List Tok × List (List AV) × Value) => (⟨[(0, .str s), (5, .row p.2.2.2.2.2 3 p.2.2.2.2.1), (6, .bool p.2.2.1), (7, .int .i64 (p.2.1 : Int))], .row p.2.2.2.2.2 p.2.2.2.2.1.length 37 3 :: H, 59⟩ : St)) (fun (p : Nat × Nat × Bool × List Tok × List (List AV) × Value) => p.2.1 ≤ s.length ∧ s.length < p.1 + p.2.1 ∧ p.2.2.2.2.1 = p.2.2.2.1.map mTok ∧ p.2.2.2.1.length ≤ p.2.1 ∧ scanGoR s (s.length + 1) 0 false [] = scanGoR s p.1 p.2.1 p.2.2.1 p.2.2.2.1) (fun (p : Nat × Nat × Bool × List Tok × List (List AV) × Value) => p.1) ((s.length + 1, 0, false, [], [], .slice none 0 0)) ?_ (GS.weaken ⟨rfl, rfl, rfl, rfl, trivial⟩ (.refl _)) ?_
    · exact ⟨Nat.zero_le _, by simp only; omega, rfl, Nat.zero_le _, rfl⟩
    · rintro p hR
      have hle : p.2.1 ≤ s.length := hR.1
      have hfu : s.length < p.1 + p.2.1 := hR.2.1
      have hes : p.2.2.2.2.1 = p.2.2.2.1.map mTok := hR.2.2.1
      have hbl : p.2.2.2.1.length ≤ p.2.1 := hR.2.2.2.1
      have hn : 0 < p.1 := by omega
      have hsc : ∀ c ∈ p.2.2.2.2.1, scalars c = true := by rw [hes]; exact sc_tok _
      have hel : p.2.2.2.2.1.length ≤ s.length := by rw [hes, List.length_map]; omega
      refine AW.seq ?_
      refine AW.seq ?_
      refine AW.region ?_
      refine AOL.p (P_move (v := .int .i64 _) rfl) rfl ?_
      refine AOL.p (P_move (v := .str _) rfl) rfl ?_
      refine AOL.p (P_len_str tok rfl rfl rfl rfl) rfl ?_
      refine AOL.p (P_lss rfl rfl) rfl ?_
      refine AOL.nil ?_
      refine thenN ?_
      refine AW.cond (b := _) rfl (fun hc2 => ?_) (fun hc2 => ?_)
      · skip
        have hi : p.2.1 < s.length := by simp at hc2; omega
        refine AW.skip ?_
        refine thenN ?_
        refine AW.block ?_
        refine AW.seq ?_
        refine AW.region ?_
        refine AOL.p (P_move (v := .str _) rfl) rfl ?_
        refine AOL.p (P_move (v := .int .i64 _) rfl) rfl ?_
        refine AOL.p (P_index_str tok rfl rfl rfl rfl (by omega) (bt_get (i := p.2.1) hi)) rfl ?_
        refine AOL.p (P_assign (v := .int .u8 _) rfl) rfl ?_
        refine AOL.nil ?_
        refine thenN ?_
        refine AW.seq ?_
        refine AW.seq ?_
        refine AW.region ?_
        refine AOL.p (P_move (v := .bool _) rfl) rfl ?_
        refine AOL.p (P_move (v := .bool _) rfl) rfl ?_
        refine AOL.g (y := .int .u8 _) _ [] rfl (EntL.all trivial) (fun hG => P_move (v := .int .u8 _) rfl) rfl ?_
        refine AOL.g (y := .bool _) _ [(24, _)] rfl (EntL.all ⟨Ent.self _ _, trivial⟩) (fun hG => P_callf (by kernel_rfl) rfl rfl (c34 _)) rfl ?_
        refine AOL.p (P_pick_or rfl rfl rfl) rfl ?_
        refine AOL.p (P_move (v := .bool _) rfl) rfl ?_
        refine AOL.g (y := .int .u8 _) _ [] rfl (EntL.all trivial) (fun hG => P_move (v := .int .u8 _) rfl) rfl ?_
        refine AOL.g (y := .bool _) _ [(28, _)] rfl (EntL.all ⟨Ent.self _ _, trivial⟩) (fun hG => P_eql rfl rfl) rfl ?_
        refine AOL.p (P_pick_or rfl rfl rfl) rfl ?_
        refine AOL.nil ?_
        refine thenN ?_
        refine AW.cond (b := _) rfl (fun hc3 => ?_) (fun hc3 => ?_)
        · skip
          refine AW.seq ?_
          refine AW.region ?_
          refine AOL.p (P_move (v := .bool _) rfl) rfl ?_
          refine AOL.p (P_move (v := .bool _) rfl) rfl ?_
          refine AOL.g (y := .int .u8 _) _ [] rfl (EntL.all trivial) (fun hG => P_move (v := .int .u8 _) rfl) rfl ?_
          refine AOL.g (y := .bool _) _ [(33, _)] rfl (EntL.all ⟨Ent.self _ _, trivial⟩) (fun hG => P_eql rfl rfl) rfl ?_
          refine AOL.p (P_pick_or rfl rfl rfl) rfl ?_
          refine AOL.p (P_move (v := .bool _) rfl) rfl ?_
          refine AOL.g (y := .int .u8 _) _ [] rfl (EntL.all trivial) (fun hG => P_move (v := .int .u8 _) rfl) rfl ?_
          refine AOL.g (y := .bool _) _ [(37, _)] rfl (EntL.all ⟨Ent.self _ _, trivial⟩) (fun hG => P_neq rfl rfl) rfl ?_
          refine AOL.p (P_pick_and rfl rfl rfl) rfl ?_
          refine AOL.p (P_assign (v := .bool _) rfl) rfl ?_
          refine AOL.nil ?_
          refine thenN ?_
          refine AW.seq ?_
          refine AW.region ?_
          refine AOL.p (P_move (v := .int .i64 _) rfl) rfl ?_
          refine AOL.p (P_add rfl rfl rfl (by constructor <;> omega)) rfl ?_
          refine AOL.p (P_assign (v := .int .i64 _) rfl) rfl ?_
          refine AOL.nil ?_
          refine thenN ?_
          refine AW.exit ?_
          refine thenE ?_
          refine blkHit ?_
          refine thenN ?_
          refine ⟨(p.1 - 1, p.2.1 + 1, ((p.2.2.1 || (((bt s p.2.1).toNat : Int) == 35)) && (((bt s p.2.1).toNat : Int) != 10)), p.2.2.2.1, p.2.2.2.2.1, p.2.2.2.2.2), ?_, ?_, GS.weaken ⟨rfl, rfl, rfl, rfl, trivial⟩ (.refl _)⟩
          · exact ⟨by simp only; omega, by simp only; omega, hes, by simp only; omega, hR.2.2.2.2.trans (by rw [scanGoR_eq hn, if_pos hc2, if_pos hc3])⟩
          · simp only; omega
        · skip
          have hcm : p.2.2.1 = false := by simp at hc3; exact hc3.1.1
          refine AW.skip ?_
          refine thenN ?_
          refine AW.seq ?_
          refine AW.region ?_
          refine AOL.p (P_move (v := .str _) rfl) rfl ?_
          refine AOL.p (P_move (v := .int .i64 _) rfl) rfl ?_
          refine AOL.p (P_callf (by kernel_rfl) rfl rfl (c35 s hl p.2.1 hi)) rfl ?_
          refine AOL.p (P_move (v := .tuple _) rfl) rfl ?_
          refine AOL.p (P_extract (v := .agg [.int .i64 _, .str _, .int .i64 _]) rfl rfl) rfl ?_
          refine AOL.p (P_extract (v := .int .i64 _) rfl rfl) rfl ?_
          refine AOL.p (P_extract (v := .int .i64 _) rfl rfl) rfl ?_
          refine AOL.e (E_alloc (l := [.int .i64 0, .str [], .int .i64 0]) (by kernel_rfl)) rfl ?_
          rintro _ _ ⟨b9, rfl, rfl⟩
          refine AOL.e (E_store (k := 0) (v := .agg _) (cs' := [.int .i64 _, .str _, .int .i64 _]) (H2 := _ :: _ :: _) tok rfl rfl rfl rfl rfl rfl rfl rfl rfl) rfl ?_
          rintro _ _ ⟨rfl, rfl⟩
          refine AOL.p (P_assign (v := .int .i64 _) rfl) rfl ?_
          refine AOL.p (P_assign (v := .int .i64 _) rfl) rfl ?_
          refine AOL.ghost (GS.freeze (t := 9) 0 rfl rfl) ?_
          refine AOL.nil ?_
          refine thenN ?_
          refine AW.seq ?_
          refine AW.seq ?_
          refine AW.region ?_
          refine AOL.p (P_move (v := .int .i64 _) rfl) rfl ?_
          refine AOL.p (P_neq rfl rfl) rfl ?_
          refine AOL.nil ?_
          refine thenN ?_
          refine AW.cond (b := _) rfl (fun hc4 => ?_) (fun hc4 => ?_)
          · skip
            refine AW.seq ?_
            refine AW.region ?_
            refine AOL.p (P_move (v := .int .i64 _) rfl) rfl ?_
            refine AOL.p (P_move (v := .int .i64 _) rfl) rfl ?_
            refine AOL.p (P_assign_nil (z := 3) rfl) rfl ?_
            refine AOL.p (P_assign (v := .int .i64 _) rfl) rfl ?_
            refine AOL.p (P_assign (v := .int .i64 _) rfl) rfl ?_
            refine AOL.nil ?_
            refine thenN ?_
            refine AW.ret ?_
            refine thenR ?_
            refine blkR ?_
            refine thenR ?_
            refine blkR ?_
            refine thenR ?_
            refine ⟨.inr rfl, [.sl _ _, .int .i64 _, .int .i64 _], .cons (.tmp _ _ rfl) <| .cons (.tmp _ _ rfl) <| .cons (.tmp _ _ rfl) <| .nil, .cons _ (.refl _), ?_⟩
            have h9 : scanR s = ([], (tokenR s p.2.1).2.1, (tokenR s p.2.1).2.2) := by
              unfold scanR
              rw [if_neg (Bool.eq_false_iff.mp hc1), hR.2.2.2.2, scanGoR_eq hn, if_pos hc2, if_neg (Bool.eq_false_iff.mp hc3), if_pos hc4]
            rw [h9]; first | done | rfl
          · skip
            have htl := tokenR_le hi (by simpa using hc4)
            have htn : (tokenR s p.2.1).2.1 = ((tokenR s p.2.1).2.1.toNat : Int) := by omega
            refine AW.skip ?_
            refine thenN ?_
            refine AW.seq ?_
            refine AW.region ?_
            refine AOL.p (P_move (v := .row _ _ _) rfl) rfl ?_
            refine AOL.p (P_load_ptr_agg (l := [.int .i64 _, .str _, .int .i64 _]) tok rfl rfl rfl rfl rfl) rfl ?_
            refine AOL.p (P_buildSlice (es := [[.int .i64 _, .str _, .int .i64 _]]) tok rfl rfl rfl rfl rfl rfl rfl rfl rfl) rfl ?_
            refine AOL.e (E_append (k := 0) tok rfl rfl rfl rfl rfl rfl rfl rfl (sc_one rfl) (hsc) (by simp; omega) (by simp [maxLen]; omega)) rfl ?_
            rintro _ _ ⟨v56, rfl, rfl⟩
            refine AOL.p (P_assign (v := .row _ _ _) rfl) rfl ?_
            refine AOL.nil ?_
            refine thenN ?_
            refine AW.region ?_
            refine AOL.p (P_move (v := .int .i64 _) rfl) rfl ?_
            refine AOL.p (P_assign (v := .int .i64 _) rfl) rfl ?_
            refine AOL.nil ?_
            refine blkN ?_
            refine thenN ?_
            refine ⟨(p.1 - 1, (tokenR s p.2.1).2.1.toNat, p.2.2.1, p.2.2.2.1 ++ [(tokenR s p.2.1).1], p.2.2.2.2.1 ++ [[.int .i64 (tokenR s p.2.1).1.kind, .str (tokenR s p.2.1).1.text, .int .i64 (tokenR s p.2.1).1.pos]], v56), ?_, ?_, GS.weaken ⟨rfl, rfl, rfl, congrArg (AV.int .i64) htn, trivial⟩ (.refl _)⟩
            · exact ⟨by simp only; omega, by simp only; omega, tok_next hes (tokenR s p.2.1).1, by simp only [List.length_append, List.length_cons, List.length_nil]; omega, hR.2.2.2.2.trans (by rw [scanGoR_eq hn, if_pos hc2, if_neg (Bool.eq_false_iff.mp hc3), if_neg (Bool.eq_false_iff.mp hc4)]; simp only [hcm])⟩
            · simp only; omega
      · skip
        refine AW.exit ?_
        refine thenE ?_
        refine thenE ?_
        refine blkHit ?_
        refine thenN ?_
        refine AW.seq ?_
        refine AW.region ?_
        refine AOL.ghost (GS.unrow 5 rfl) ?_
        refine AOL.p (P_move (v := .sl _ _) rfl) rfl ?_
        refine AOL.p (P_assign (v := .sl _ _) rfl) rfl ?_
        refine AOL.p (P_assign (v := .int .i64 _) rfl) rfl ?_
        refine AOL.p (P_assign (v := .int .i64 _) rfl) rfl ?_
        refine AOL.nil ?_
        refine thenN ?_
        refine AW.ret ?_
        refine ⟨.inr rfl, [.sl _ _, .int .i64 _, .int .i64 _], .cons (.tmp _ _ rfl) <| .cons (.tmp _ _ rfl) <| .cons (.tmp _ _ rfl) <| .nil, .cons _ (.refl _), ?_⟩
        have h9 : scanR s = (p.2.2.2.1, 0, 0) := by
          unfold scanR
          rw [if_neg (Bool.eq_false_iff.mp hc1), hR.2.2.2.2, scanGoR_eq hn, if_neg (Bool.eq_false_iff.mp hc2)]
        rw [h9]
        simp only [resOf, cScan, hes]

end Go.Proofs.YtpgmglacdcfnaaaDoor
