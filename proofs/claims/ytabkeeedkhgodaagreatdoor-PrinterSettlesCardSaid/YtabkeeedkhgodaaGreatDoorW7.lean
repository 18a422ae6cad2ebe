/-
  Walks: all tokens. No condition.
-/
import Derived.Test.YtabkeeedkhgodaaGreatDoorW6
import Derived.KernelRfl
namespace Go.Proofs.YtabkeeedkhgodaaGreatDoor
open Go Go.Aw
set_option linter.unusedVariables false
set_option linter.unusedSimpArgs false

theorem sep_le (t : Str) : 0 ≤ sepS t ∧ (0 < t.length → sepS t ≤ t.length) := by
  unfold sepS
  have := span_le lineS t
  split
  · omega
  · split <;> omega
theorem sign_le (t : Str) : ∀ l : List Str, (∀ x ∈ l, 0 < x.length) → (signGo t l).err = 4 ∧ (signGo t l).pos = 0 ∧ (signGo t l).bytes = 0 ∨ (signGo t l).err = 0 ∧ (signGo t l).pos = 0 ∧ 0 < (signGo t l).bytes ∧ (signGo t l).bytes ≤ t.length
  | [], _ => .inl ⟨rfl, rfl, rfl⟩
  | x :: r, h => by
    unfold signGo
    split
    · rename_i hp
      right
      have hpre : x.isPrefixOf t = true := hp
      have := (List.isPrefixOf_iff_prefix.1 hpre).length_le
      have h2 := h x (by simp)
      exact ⟨rfl, rfl, by show (0 : Int) < (x.length : Int); omega, by show (x.length : Int) ≤ _; omega⟩
    · exact sign_le t r fun y hy => h y (by simp [hy])
theorem litGo_le (s : Str) : ∀ (n i : Nat) (b : Str), i ≤ s.length → 0 ≤ (litGo s n i b).pos ∧ (litGo s n i b).pos ≤ s.length ∧ 0 ≤ (litGo s n i b).bytes ∧ (litGo s n i b).bytes ≤ s.length
  | 0, i, b, _ => by simp [litGo, foE]
  | n + 1, i, b, hi => by
    unfold litGo
    split
    · rename_i h; simp at h
      split
      · split
        · simp [foE]
        · simp [foT]; omega
      · split
        · split
          · simp [foE]; omega
          · rename_i h3
            have he := esc_le (s.drop i)
            rw [List.length_drop] at he
            exact litGo_le s n _ _ (by omega)
        · split
          · simp [foE]; omega
          · exact litGo_le s n _ _ (by omega)
    · simp [foE]
theorem next_le (t : Str) (h0 : 0 < t.length) : 0 ≤ (nextF t).pos ∧ (nextF t).pos ≤ t.length ∧ 0 ≤ (nextF t).bytes ∧ (nextF t).bytes ≤ t.length ∧ ((nextF t).err = 0 → 0 < (nextF t).bytes) := by
  have hit : ∀ f : Fo, hitF f = true → (f.err = 0 → 0 < f.bytes) := fun f h e => by
    unfold hitF at h
    rw [e] at h
    simpa using h
  unfold nextF
  split
  · rename_i h
    have := span_le wordS t
    refine ⟨?_, ?_, ?_, ?_, hit _ h⟩ <;> (unfold nameF; split <;> (try split) <;> simp [foZ, foE, foT, tokZ] <;> omega)
  · split
    · rename_i h
      have := span_le digitS t
      refine ⟨?_, ?_, ?_, ?_, hit _ h⟩ <;> (unfold numberF; split <;> (try split) <;> (try split) <;> simp [foZ, foE, foT, tokZ] <;> omega)
    · split
      · rename_i h
        have hl : 0 ≤ (litF t).pos ∧ (litF t).pos ≤ t.length ∧ 0 ≤ (litF t).bytes ∧ (litF t).bytes ≤ t.length := by
          unfold litF
          split
          · simp [foZ]
          · exact litGo_le t _ _ _ (by omega)
        exact ⟨hl.1, hl.2.1, hl.2.2.1, hl.2.2.2, hit _ h⟩
      · rcases sign_le t signL (by decide) with h | h
        · unfold signF; rw [h.1, h.2.1, h.2.2]; simp
        · unfold signF; rw [h.1, h.2.1]; omega
theorem scanGo_eq {s : Str} {n i : Nat} {out : List Tok} (h : 0 < n) : scanGo s n i out =
    if decide ((i : Int) < (s.length : Int)) then
      if decide (0 < sepS (s.drop i)) then scanGo s (n - 1) (i + (sepS (s.drop i)).toNat) out
      else if ((nextF (s.drop i)).err != 0) then (([], (i : Int) + (nextF (s.drop i)).pos, (nextF (s.drop i)).err) : List Tok × Int × Int)
      else scanGo s (n - 1) (i + (nextF (s.drop i)).bytes.toNat) (out ++ [⟨(nextF (s.drop i)).tok.kind, (nextF (s.drop i)).tok.text, i⟩])
    else (out, 0, 0) := by
  cases n with
  | zero => omega
  | succ n => rfl
theorem tok_next {es : List (List AV)} {out : List Tok} (h : es = out.map mTok) (t : Tok) : es ++ [[AV.int .i64 t.kind, .str t.text, .int .i64 t.pos]] = (out ++ [t]).map mTok := by rw [h, List.map_append]; rfl
theorem sc_tok (l : List Tok) : ∀ x ∈ l.map mTok, scalars x = true := sc_map fun _ => rfl
def cScan (p : List Tok × Int × Int) : AV := .tuple [.sl 3 (p.1.map mTok), .int .i64 p.2.1, .int .i64 p.2.2]

set_option maxRecDepth 20000 in
set_option maxHeartbeats 800000 in
theorem c13 (s : Str) (hl : s.length ≤ 1048576) : APure Tryz.prog 54 [.str s] (cScan (scanS s)) := by
 refine APure.body (n := 51) tok Tryz.func54 rfl rfl rfl fun H => ?_
 refine AW.seq (AW.region ?_)
 refine AOL.p (P_assign_nil (z := 3) rfl) rfl ?_
 refine AOL.p (P_assign (v := .int .i64 _) rfl) rfl ?_
 refine AOL.p (P_assign (v := .int .i64 _) rfl) rfl ?_
 refine AOL.nil (thenN ?_)
 refine AW.seq ?_
 refine AW.seq (AW.region ?_)
 refine AOL.p (P_move (v := .str _) rfl) rfl ?_
 refine AOL.p (P_len_str tok rfl rfl rfl rfl) rfl ?_
 refine AOL.p (P_gtr rfl rfl) rfl ?_
 refine AOL.nil (thenN ?_)
 refine AW.cond (b := _) rfl (fun hc1 => ?_) (fun hc1 => ?_)
 ·
  refine AW.seq (AW.region ?_)
  refine AOL.p (P_assign_nil (z := 3) rfl) rfl ?_
  refine AOL.p (P_assign (v := .int .i64 _) rfl) rfl ?_
  refine AOL.p (P_assign (v := .int .i64 _) rfl) rfl ?_
  refine AOL.nil (thenN ?_)
  refine AW.ret ?_
  refine thenR ?_
  refine ⟨.inr rfl, [.sl _ _, .int .i64 _, .int .i64 _], .cons (.tmp _ _ rfl) <| .cons (.tmp _ _ rfl) <| .cons (.tmp _ _ rfl) <| .nil, .refl _, ?_⟩
  have h9 : scanS s = ([], 0, 13) := by unfold scanS; rw [if_pos hc1]
  rw [h9]; rfl
 ·
  refine AW.skip ?_
  refine thenN ?_
  refine AW.seq (AW.region ?_)
  refine AOL.p (P_assign (v := .val _) rfl) rfl ?_
  refine AOL.ghost (GS.row (t := 5) 89 3 rfl) ?_
  refine AOL.nil (thenN ?_)
  refine AW.seq ?_
  refine AW.seq (AW.region ?_)
  refine AOL.p (P_assign (v := .int .i64 _) rfl) rfl ?_
  refine AOL.nil (thenN ?_)
  refine AW.block ?_
  refine AW.loopS (fun (p : Nat × Nat × List Tok × List (List AV) × Value) => (⟨[(0, .str s), (5, .row p.2.2.2.2 3 p.2.2.2.1), (6, .int .i64 (p.2.1 : Int))], .row p.2.2.2.2 p.2.2.2.1.length 89 3 :: H, 51⟩ : St)) (fun (p : Nat × Nat × List Tok × List (List AV) × Value) => p.2.1 ≤ s.length ∧ s.length < p.1 + p.2.1 ∧ p.2.2.2.1 = p.2.2.1.map mTok ∧ p.2.2.1.length ≤ p.2.1 ∧ scanGo s (s.length + 1) 0 [] = scanGo s p.1 p.2.1 p.2.2.1) (fun (p : Nat × Nat × List Tok × List (List AV) × Value) => p.1) ((s.length + 1, 0, [], [], .slice none 0 0)) ?_ (GS.weaken ⟨rfl, rfl, rfl, trivial⟩ (.refl _)) ?_
  · exact ⟨Nat.zero_le _, by simp only; omega, rfl, Nat.zero_le _, rfl⟩
  ·
   rintro p hR
   have hle : p.2.1 ≤ s.length := hR.1
   have hfu : s.length < p.1 + p.2.1 := hR.2.1
   have hes : p.2.2.2.1 = p.2.2.1.map mTok := hR.2.2.1
   have hbl : p.2.2.1.length ≤ p.2.1 := hR.2.2.2.1
   have hn : 0 < p.1 := by omega
   have hsc : ∀ c ∈ p.2.2.2.1, scalars c = true := by rw [hes]; exact sc_tok _
   have hel : p.2.2.2.1.length ≤ s.length := by rw [hes, List.length_map]; omega
   refine AW.seq ?_
   refine AW.seq (AW.region ?_)
   refine AOL.p (P_move (v := .int .i64 _) rfl) rfl ?_
   refine AOL.p (P_move (v := .str _) rfl) rfl ?_
   refine AOL.p (P_len_str tok rfl rfl rfl rfl) rfl ?_
   refine AOL.p (P_lss rfl rfl) rfl ?_
   refine AOL.nil (thenN ?_)
   refine AW.cond (b := _) rfl (fun hc2 => ?_) (fun hc2 => ?_)
   ·
    have hi : p.2.1 < s.length := by simp at hc2; omega
    have hsp := sep_le (s.drop p.2.1)
    have hnx := next_le (s.drop p.2.1) (by rw [List.length_drop]; omega)
    rw [List.length_drop] at hsp hnx
    have hsp1 := hsp.1
    have hsp2 := hsp.2 (by omega)
    have hn1 := hnx.1
    have hn2 := hnx.2.1
    have hn3 := hnx.2.2.1
    have hn4 := hnx.2.2.2.1
    refine AW.skip ?_
    refine thenN ?_
    refine AW.block ?_
    refine AW.seq ?_
    refine AW.seq (AW.region ?_)
    refine AOL.p (P_move (v := .str _) rfl) rfl ?_
    refine AOL.p (P_move (v := .int .i64 _) rfl) rfl ?_
    refine AOL.p (P_slice_str (l := p.2.1) (h := s.length) tok rfl rfl rfl (⟨_, rfl⟩) (rfl) (hle) (Nat.le_refl _) (congrArg (List.drop _) List.take_length)) rfl ?_
    refine AOL.p (P_callf (by kernel_rfl) rfl rfl (c32 (s.drop p.2.1) (by rw [List.length_drop]; omega) (by rw [List.length_drop]; omega))) rfl ?_
    refine AOL.p (P_assign (v := .int .i64 _) rfl) rfl ?_
    refine AOL.nil (thenN ?_)
    refine AW.seq (AW.region ?_)
    refine AOL.p (P_move (v := .int .i64 _) rfl) rfl ?_
    refine AOL.p (P_gtr rfl rfl) rfl ?_
    refine AOL.nil (thenN ?_)
    refine AW.cond (b := _) rfl (fun hc3 => ?_) (fun hc3 => ?_)
    ·
     have hpos : 0 < (sepS (s.drop p.2.1)) := by simpa using hc3
     refine AW.seq (AW.region ?_)
     refine AOL.p (P_move (v := .int .i64 _) rfl) rfl ?_
     refine AOL.p (P_move (v := .int .i64 _) rfl) rfl ?_
     refine AOL.p (P_add rfl rfl rfl (by constructor <;> omega)) rfl ?_
     refine AOL.p (P_assign (v := .int .i64 _) rfl) rfl ?_
     refine AOL.nil (thenN ?_)
     refine AW.exit ?_
     refine thenE ?_
     refine blkHit ?_
     refine thenN ?_
     refine ⟨(p.1 - 1, p.2.1 + (sepS (s.drop p.2.1)).toNat, p.2.2.1, p.2.2.2.1, p.2.2.2.2), ?_, ?_, GS.weaken ⟨rfl, rfl, congrArg (AV.int .i64) (by simp only; omega), trivial⟩ (.refl _)⟩
     · exact ⟨by simp only; omega, by simp only; omega, hes, by simp only; omega, hR.2.2.2.2.trans (by rw [scanGo_eq hn, if_pos hc2, if_pos hc3])⟩
     · simp only; omega
    ·
     refine AW.skip ?_
     refine thenN ?_
     refine AW.seq (AW.region ?_)
     refine AOL.p (P_move (v := .str _) rfl) rfl ?_
     refine AOL.p (P_move (v := .int .i64 _) rfl) rfl ?_
     refine AOL.p (P_slice_str (l := p.2.1) (h := s.length) tok rfl rfl rfl (⟨_, rfl⟩) (rfl) (hle) (Nat.le_refl _) (congrArg (List.drop _) List.take_length)) rfl ?_
     refine AOL.p (P_callf (by kernel_rfl) rfl rfl (c33 (s.drop p.2.1) (by rw [List.length_drop]; omega) (by rw [List.length_drop]; omega))) rfl ?_
     refine AOL.e (E_alloc (l := [.int .i64 0, .str [], .int .i64 0, .int .i64 0, .int .i64 0, .int .i64 0]) (by kernel_rfl)) rfl ?_
     rintro _ _ ⟨b8, rfl, rfl⟩
     refine AOL.e (E_store (k := 0) (v := .agg _) (cs' := [.int .i64 _, .str _, .int .i64 _, .int .i64 _, .int .i64 _, .int .i64 _]) (H2 := _ :: _ :: _) tok rfl rfl rfl rfl rfl rfl rfl rfl rfl) rfl ?_
     rintro _ _ ⟨rfl, rfl⟩
     refine AOL.nil (thenN ?_)
     refine AW.seq ?_
     refine AW.seq (AW.region ?_)
     refine AOL.p (P_fieldAddr_val tok rfl rfl rfl rfl rfl rfl) rfl ?_
     refine AOL.pk (P_load_box (k := 0) (c := .int .i64 _) tok rfl rfl rfl rfl) rfl rfl ?_
     refine AOL.p (P_neq rfl rfl) rfl ?_
     refine AOL.nil (thenN ?_)
     refine AW.cond (b := _) rfl (fun hc4 => ?_) (fun hc4 => ?_)
     ·
      refine AW.seq ?_
      refine AW.draw mixed (fun H' => _ ∈ H') (List.mem_of_getElem? (i := 0) rfl) (by kernel_rfl) ?_
      refine Canon.pure _ _ 0 _ _ rfl (by kernel_rfl) (by kernel_rfl) rfl (.run rfl (P_move (v := .int .i64 _) rfl)) ?_
      refine Canon.pure _ _ 1 _ _ rfl (by kernel_rfl) (by kernel_rfl) rfl (.run rfl (P_fieldAddr_val tok rfl rfl rfl rfl rfl rfl)) ?_
      refine Canon.pure _ _ 2 _ _ rfl (by kernel_rfl) (by kernel_rfl) rfl (.run rfl (OpP.mem (fun k => P_load_box (k := k) (c := .int .i64 _) tok rfl rfl rfl rfl) (fun _ h => h))) ?_
      refine Canon.pure _ _ 3 _ _ rfl (by kernel_rfl) (by kernel_rfl) rfl (.run rfl (P_add rfl rfl rfl (by constructor <;> omega))) ?_
      refine Canon.pure _ _ 4 _ _ rfl (by kernel_rfl) (by kernel_rfl) rfl (.run rfl (P_fieldAddr_val tok rfl rfl rfl rfl rfl rfl)) ?_
      refine Canon.pure _ _ 5 _ _ rfl (by kernel_rfl) (by kernel_rfl) rfl (.run rfl (OpP.mem (fun k => P_load_box (k := k) (c := .int .i64 _) tok rfl rfl rfl rfl) (fun _ h => h))) ?_
      refine Canon.pure _ _ 6 _ _ rfl (by kernel_rfl) (by kernel_rfl) rfl (.run rfl (P_assign_nil (z := 3) rfl)) ?_
      refine Canon.pure _ _ 7 _ _ rfl (by kernel_rfl) (by kernel_rfl) rfl (.run rfl (P_assign (v := .int .i64 _) rfl)) ?_
      refine Canon.pure _ _ 8 _ _ rfl (by kernel_rfl) (by kernel_rfl) rfl (.run rfl (P_assign (v := .int .i64 _) rfl)) ?_
      refine Canon.done _ _ (by kernel_rfl) ?_
      refine thenN ?_
      refine AW.ret ?_
      refine thenR ?_
      refine blkR ?_
      refine thenR ?_
      refine blkR ?_
      refine thenR ?_
      refine ⟨.inr rfl, [.sl _ _, .int .i64 _, .int .i64 _], .cons (.tmp _ _ rfl) <| .cons (.tmp _ _ rfl) <| .cons (.tmp _ _ rfl) <| .nil, .cons _ (.cons _ (.refl _)), ?_⟩
      have h9 : scanS s = ([], (p.2.1 : Int) + (nextF (s.drop p.2.1)).pos, (nextF (s.drop p.2.1)).err) := by
       unfold scanS
       rw [if_neg (Bool.eq_false_iff.mp hc1), hR.2.2.2.2, scanGo_eq hn, if_pos hc2, if_neg (Bool.eq_false_iff.mp hc3), if_pos hc4]
      rw [h9]; first | done | rfl
     ·
      have hpos := hnx.2.2.2.2 (by simpa using hc4)
      refine AW.skip ?_
      refine thenN ?_
      refine AW.seq (AW.region ?_)
      refine AOL.p (P_move (v := .int .i64 _) rfl) rfl ?_
      refine AOL.p (P_fieldAddr_val tok rfl rfl rfl rfl rfl rfl) rfl ?_
      refine AOL.p (P_fieldAddr_val tok rfl rfl rfl rfl rfl rfl) rfl ?_
      refine AOL.e (E_store (k := 0) (v := .int .i64 _) (cs' := [.int .i64 _, .str _, .int .i64 _, .int .i64 _, .int .i64 _, .int .i64 _]) (H2 := _ :: _ :: _) tok rfl rfl rfl rfl rfl rfl rfl rfl rfl) rfl ?_
      rintro _ _ ⟨rfl, rfl⟩
      refine AOL.nil (thenN ?_)
      refine AW.seq (AW.region ?_)
      refine AOL.p (P_move (v := .row _ _ _) rfl) rfl ?_
      refine AOL.p (P_fieldAddr_val tok rfl rfl rfl rfl rfl rfl) rfl ?_
      refine AOL.pk (P_load_box_agg (k := 0) (l := [.int .i64 _, .str _, .int .i64 _]) tok rfl rfl rfl rfl rfl) rfl rfl ?_
      refine AOL.p (P_buildSlice (es := [[.int .i64 _, .str _, .int .i64 _]]) tok rfl rfl rfl rfl rfl rfl rfl rfl rfl) rfl ?_
      refine AOL.e (E_append (k := 1) tok rfl rfl rfl rfl rfl rfl rfl rfl (sc_one rfl) (hsc) (by simp; omega) (by simp [maxLen]; omega)) rfl ?_
      rintro _ _ ⟨v45, rfl, rfl⟩
      refine AOL.p (P_assign (v := .row _ _ _) rfl) rfl ?_
      refine AOL.nil (thenN ?_)
      refine AW.region ?_
      refine AOL.p (P_move (v := .int .i64 _) rfl) rfl ?_
      refine AOL.p (P_fieldAddr_val tok rfl rfl rfl rfl rfl rfl) rfl ?_
      refine AOL.pk (P_load_box (k := 0) (c := .int .i64 _) tok rfl rfl rfl rfl) rfl rfl ?_
      refine AOL.p (P_add rfl rfl rfl (by constructor <;> omega)) rfl ?_
      refine AOL.p (P_assign (v := .int .i64 _) rfl) rfl ?_
      refine AOL.nil ?_
      refine blkN ?_
      refine thenN ?_
      refine ⟨(p.1 - 1, p.2.1 + (nextF (s.drop p.2.1)).bytes.toNat, p.2.2.1 ++ [⟨(nextF (s.drop p.2.1)).tok.kind, (nextF (s.drop p.2.1)).tok.text, p.2.1⟩], p.2.2.2.1 ++ [[.int .i64 (nextF (s.drop p.2.1)).tok.kind, .str (nextF (s.drop p.2.1)).tok.text, .int .i64 (p.2.1 : Int)]], v45), ?_, ?_, GS.weaken ⟨rfl, rfl, congrArg (AV.int .i64) (by simp only; omega), trivial⟩ (.cons _ (.refl _))⟩
      · exact ⟨by simp only; omega, by simp only; omega, tok_next hes ⟨(nextF (s.drop p.2.1)).tok.kind, (nextF (s.drop p.2.1)).tok.text, p.2.1⟩, by simp only [List.length_append, List.length_cons, List.length_nil]; omega, hR.2.2.2.2.trans (by rw [scanGo_eq hn, if_pos hc2, if_neg (Bool.eq_false_iff.mp hc3), if_neg (Bool.eq_false_iff.mp hc4)])⟩
      · simp only; omega
   ·
    refine AW.exit ?_
    refine thenE ?_
    refine thenE ?_
    refine blkHit ?_
    refine thenN ?_
    refine AW.seq (AW.region ?_)
    refine AOL.ghost (GS.unrow 5 rfl) ?_
    refine AOL.p (P_move (v := .sl _ _) rfl) rfl ?_
    refine AOL.p (P_assign (v := .sl _ _) rfl) rfl ?_
    refine AOL.p (P_assign (v := .int .i64 _) rfl) rfl ?_
    refine AOL.p (P_assign (v := .int .i64 _) rfl) rfl ?_
    refine AOL.nil (thenN ?_)
    refine AW.ret ?_
    refine ⟨.inr rfl, [.sl _ _, .int .i64 _, .int .i64 _], .cons (.tmp _ _ rfl) <| .cons (.tmp _ _ rfl) <| .cons (.tmp _ _ rfl) <| .nil, .cons _ (.refl _), ?_⟩
    have h9 : scanS s = (p.2.2.1, 0, 0) := by
     unfold scanS
     rw [if_neg (Bool.eq_false_iff.mp hc1), hR.2.2.2.2, scanGo_eq hn, if_neg (Bool.eq_false_iff.mp hc2)]
    rw [h9]
    simp only [resOf, cScan, hes]

end Go.Proofs.YtabkeeedkhgodaaGreatDoor
