/-
  Walks of events with a key, and of room for a slice. No condition.
-/
import Derived.Test.YtfpbgdjloccdbaaW9
import Derived.KernelRfl
namespace Go.Proofs.Ytfpbgdjloccdbaa
open Go Go.Aw
set_option linter.unusedVariables false
set_option linter.unusedSimpArgs false

def wants (types : List Sc) (key : List Int) (w : Vl) (e : Ev) : Bool := (evKey types key e).2.1 && eqV (evKey types key e).1 w
def badKey (types : List Sc) (key : List Int) (e : Ev) : Bool := (evKey types key e).2.2 != 0
theorem caseK_bad {types : List Sc} {key : List Int} {l : List Ev} {w : Vl} {k : Nat} {a : Ev} (ha : l[k]? = some a) (h : badKey types key a = true) : caseKeyedS types key l w = ([], false) := by
  unfold caseKeyedS
  have : (l.any fun e => (evKey types key e).2.2 != 0) = true := List.any_eq_true.2 ⟨a, List.mem_of_getElem? ha, h⟩
  rw [if_pos this]
theorem caseK_ok {types : List Sc} {key : List Int} {l : List Ev} {w : Vl} (h : l.any (badKey types key) = false) : caseKeyedS types key l w = (l.filter (wants types key w), true) := by
  unfold caseKeyedS
  have : (l.any fun e => (evKey types key e).2.2 != 0) = false := h
  rw [ifF this]; rfl
theorem filter_take {l : List Ev} {k : Nat} {a : Ev} (f : Ev → Bool) (h : l[k]? = some a) : (l.take (k + 1)).filter f = (l.take k).filter f ++ if f a then [a] else [] := by
  rw [take_get h, List.filter_append]
  cases hf : f a <;> simp [hf]

set_option maxRecDepth 20000 in
set_option maxHeartbeats 1600000 in
theorem t_keyed (types : List Sc) (htl : types.length ≤ 1048576) (hs : ∀ s ∈ types, scOK s) (key : List Int) (l : List Ev) (hl : l.length ≤ 12) (w : Vl) : APure Try.prog 10 [.sl 2 (types.map cSc), .sl 1 (key.map cI), .sl 5 (l.map cEv), .agg (cV w)] (.tuple [.sl 5 ((caseKeyedS types key l w).1.map cEv), .bool (caseKeyedS types key l w).2]) := by
  have hll := hl
  refine APure.body (n := 44) tok Try.func10 rfl rfl rfl fun H => ?_
  refine AW.seq ?_
  refine AW.region ?_
  refine AOL.p (P_box (v := .agg _) (cs := [.int .i64 _, .int .i64 _, .str _]) rfl rfl rfl) rfl ?_
  refine AOL.p (P_assign_nil (z := 5) rfl) rfl ?_
  refine AOL.p (P_assign (v := .bool _) rfl) rfl ?_
  refine AOL.nil ?_
  refine thenN ?_
  refine AW.seq ?_
  refine AW.region ?_
  refine AOL.p (P_assign (v := .val _) rfl) rfl ?_
  refine AOL.ghost (GS.row (t := 10) 30 5 rfl) ?_
  refine AOL.nil ?_
  refine thenN ?_
  refine AW.seq ?_
  refine AW.seq ?_
  refine AW.region ?_
  refine AOL.p (P_move (v := .sl _ _) rfl) rfl ?_
  refine AOL.p (P_len_sl (n := l.length) tok rfl rfl rfl (by simp)) rfl ?_
  refine AOL.p (P_move (v := .int .i64 _) rfl) rfl ?_
  refine AOL.nil ?_
  refine thenN ?_
  refine AW.block ?_
  refine AW.sllen 16 rfl fun hlen => ?_
  simp only [List.length_map, maxLen] at hlen
  refine AW.loopS (fun (p : Nat × List (List AV) × Value) => (⟨[(0, .sl 2 (types.map cSc)), (1, .sl 1 (key.map cI)), (7, .ptr (cV w)), (10, .row p.2.2 5 p.2.1), (16, .sl 5 (l.map cEv)), (17, .int .i64 l.length), (18, .int .i64 (p.1 : Int))], .row p.2.2 p.2.1.length 30 5 :: H, 44⟩ : St)) (fun (p : Nat × List (List AV) × Value) => p.1 ≤ l.length ∧ (l.take p.1).any (badKey types key) = false ∧ p.2.1 = ((l.take p.1).filter (wants types key w)).map cEv) (fun (p : Nat × List (List AV) × Value) => l.length - p.1) ((0, [], .slice none 0 0)) ?_ (GS.weaken ⟨rfl, rfl, rfl, rfl, rfl, rfl, rfl, trivial⟩ (.refl _)) ?_
  · exact ⟨Nat.zero_le _, rfl, rfl⟩
  · rintro p hR
    have hsc : ∀ c ∈ p.2.1, scalars c = true := by rw [hR.2.2]; exact sc_map fun _ => rfl
    have hel : p.2.1.length ≤ p.1 := by rw [hR.2.2, List.length_map]; have h1 := List.length_filter_le (wants types key w) (l.take p.1); rw [List.length_take] at h1; omega
    have hlb := hll
    refine AW.seq ?_
    refine AW.region ?_
    refine AOL.p (P_lss rfl rfl) rfl ?_
    refine AOL.nil ?_
    refine thenN ?_
    refine AW.seq ?_
    refine AW.cond (b := _) rfl (fun hc1 => ?_) (fun hc1 => ?_)
    · skip
      obtain ⟨a, ha⟩ := get_lt hc1
      have hlt := get_lt' ha
      have hm := List.mem_of_getElem? ha
      refine AW.skip ?_
      refine thenN ?_
      refine AW.seq ?_
      refine AW.block ?_
      refine AW.seq ?_
      refine AW.region ?_
      refine AOL.p (P_indexAddr (c := [.int .i64 _, .int .i64 _, .int .i64 _, .int .i64 _, _]) tok rfl rfl rfl rfl rfl rfl (by omega) (map_at ha)) rfl ?_
      refine AOL.p (P_load_ptr_agg (l := [.int .i64 _, .int .i64 _, .int .i64 _, .int .i64 _, _]) tok rfl rfl rfl rfl rfl) rfl ?_
      refine AOL.e (E_alloc (l := [.int .i64 0, .int .i64 0, .int .i64 0, .int .i64 0, .sl 3 []]) (by kernel_rfl)) rfl ?_
      rintro _ _ ⟨b12, rfl, rfl⟩
      refine AOL.e (E_store (k := 0) (v := .agg _) (cs' := [.int .i64 _, .int .i64 _, .int .i64 _, .int .i64 _, _]) (H2 := _ :: _ :: _) tok rfl rfl rfl rfl rfl rfl rfl rfl rfl) rfl ?_
      rintro _ _ ⟨rfl, rfl⟩
      refine AOL.ghost (GS.freeze (t := 12) 0 rfl rfl) ?_
      refine AOL.nil ?_
      refine thenN ?_
      refine AW.seq ?_
      refine AW.region ?_
      refine AOL.p (P_move (v := .sl _ _) rfl) rfl ?_
      refine AOL.p (P_move (v := .sl _ _) rfl) rfl ?_
      refine AOL.p (P_load_ptr_agg (l := [.int .i64 _, .int .i64 _, .int .i64 _, .int .i64 _, _]) tok rfl rfl rfl rfl rfl) rfl ?_
      refine AOL.p (P_callf (by kernel_rfl) rfl rfl (e_Key types htl hs key a)) rfl ?_
      refine AOL.p (P_move (v := .tuple _) rfl) rfl ?_
      refine AOL.p (P_extract (v := .agg [.int .i64 _, .int .i64 _, .str _]) rfl rfl) rfl ?_
      refine AOL.p (P_extract (v := .bool _) rfl rfl) rfl ?_
      refine AOL.p (P_extract (v := .int .i64 _) rfl rfl) rfl ?_
      refine AOL.e (E_alloc (l := [.int .i64 0, .int .i64 0, .str []]) (by kernel_rfl)) rfl ?_
      rintro _ _ ⟨b13, rfl, rfl⟩
      refine AOL.e (E_store (k := 0) (v := .agg _) (cs' := [.int .i64 _, .int .i64 _, .str _]) (H2 := _ :: _ :: _) tok rfl rfl rfl rfl rfl rfl rfl rfl rfl) rfl ?_
      rintro _ _ ⟨rfl, rfl⟩
      refine AOL.p (P_assign (v := .bool _) rfl) rfl ?_
      refine AOL.p (P_assign (v := .int .i64 _) rfl) rfl ?_
      refine AOL.ghost (GS.freeze (t := 13) 0 rfl rfl) ?_
      refine AOL.nil ?_
      refine thenN ?_
      refine AW.seq ?_
      refine AW.seq ?_
      refine AW.region ?_
      refine AOL.p (P_move (v := .int .i64 _) rfl) rfl ?_
      refine AOL.p (P_neq rfl rfl) rfl ?_
      refine AOL.nil ?_
      refine thenN ?_
      refine AW.cond (b := _) rfl (fun hc2 => ?_) (fun hc2 => ?_)
      · skip
        refine AW.seq ?_
        refine AW.region ?_
        refine AOL.p (P_assign_nil (z := 5) rfl) rfl ?_
        refine AOL.p (P_assign (v := .bool _) rfl) rfl ?_
        refine AOL.nil ?_
        refine thenN ?_
        refine AW.ret ?_
        refine thenR ?_
        refine blkR ?_
        refine thenR ?_
        refine thenR ?_
        refine blkR ?_
        refine thenR ?_
        refine ⟨.inr rfl, [.sl _ _, .bool _], .cons (.tmp _ _ rfl) <| .cons (.tmp _ _ rfl) <| .nil, .cons _ (.refl _), ?_⟩
        rw [caseK_bad ha hc2]; rfl
      · skip
        refine AW.skip ?_
        refine thenN ?_
        refine AW.seq ?_
        refine AW.region ?_
        refine AOL.p (P_move (v := .bool _) rfl) rfl ?_
        refine AOL.p (P_move (v := .bool _) rfl) rfl ?_
        refine AOL.g (y := .agg _) _ [] rfl (EntL.all trivial) (fun hG => P_load_ptr_agg (l := [.int .i64 _, .int .i64 _, .str _]) tok rfl rfl rfl rfl rfl) rfl ?_
        refine AOL.g (y := .agg _) _ [] rfl (EntL.all trivial) (fun hG => P_load_ptr_agg (l := [.int .i64 _, .int .i64 _, .str _]) tok rfl rfl rfl rfl rfl) rfl ?_
        refine AOL.g (y := .bool _) _ [(34, _), (35, _)] rfl (EntL.all ⟨Ent.self _ _, Ent.self _ _, trivial⟩) (fun hG => P_eql_agg tok rfl rfl rfl rfl rfl) rfl ?_
        refine AOL.p (P_pick_and rfl rfl rfl) rfl ?_
        refine AOL.nil ?_
        refine thenN ?_
        refine AW.cond (b := _) rfl (fun hc3 => ?_) (fun hc3 => ?_)
        · skip
          have hw : wants types key w a = true := by unfold wants; simpa only [Bool.and_true] using hc3
          refine AW.region ?_
          refine AOL.p (P_move (v := .row _ _ _) rfl) rfl ?_
          refine AOL.p (P_load_ptr_agg (l := [.int .i64 _, .int .i64 _, .int .i64 _, .int .i64 _, _]) tok rfl rfl rfl rfl rfl) rfl ?_
          refine AOL.p (P_buildSlice (es := [[.int .i64 _, .int .i64 _, .int .i64 _, .int .i64 _, _]]) tok rfl rfl rfl rfl rfl rfl rfl rfl rfl) rfl ?_
          refine AOL.e (E_append (k := 0) tok rfl rfl rfl rfl rfl rfl rfl rfl (sc_one rfl) (hsc) (by simp; omega) (by simp [maxLen]; omega)) rfl ?_
          rintro _ _ ⟨v41, rfl, rfl⟩
          refine AOL.p (P_assign (v := .row _ _ _) rfl) rfl ?_
          refine AOL.nil ?_
          refine blkN ?_
          refine thenN ?_
          refine AW.region ?_
          refine AOL.p (P_add rfl rfl rfl (by constructor <;> omega)) rfl ?_
          refine AOL.p (P_move (v := .int .i64 _) rfl) rfl ?_
          refine AOL.nil ?_
          refine thenN ?_
          refine ⟨(p.1 + 1, p.2.1 ++ [cEv a], v41), ?_, ?_, GS.weaken ⟨rfl, rfl, rfl, rfl, rfl, rfl, rfl, trivial⟩ (.refl _)⟩
          · exact ⟨hlt, by rw [any_take _ ha, hR.2.1, show badKey types key a = false from hc2]; rfl, by simp only; rw [filter_take _ ha, if_pos hw, List.map_append, hR.2.2]; rfl⟩
          · simp only; omega
        · skip
          have hw : wants types key w a = false := by unfold wants; simpa only [Bool.and_true] using hc3
          refine AW.skip ?_
          refine blkN ?_
          refine thenN ?_
          refine AW.region ?_
          refine AOL.p (P_add rfl rfl rfl (by constructor <;> omega)) rfl ?_
          refine AOL.p (P_move (v := .int .i64 _) rfl) rfl ?_
          refine AOL.nil ?_
          refine thenN ?_
          refine ⟨(p.1 + 1, p.2.1, p.2.2), ?_, ?_, GS.weaken ⟨rfl, rfl, rfl, rfl, rfl, rfl, rfl, trivial⟩ (.refl _)⟩
          · exact ⟨hlt, by rw [any_take _ ha, hR.2.1, show badKey types key a = false from hc2]; rfl, by simp only; rw [filter_take _ ha, ifF hw, List.append_nil, hR.2.2]⟩
          · simp only; omega
    · skip
      have hd : l.take p.1 = l := take_end hc1
      refine AW.exit ?_
      refine thenE ?_
      refine thenE ?_
      refine blkHit ?_
      refine thenN ?_
      refine AW.seq ?_
      refine AW.region ?_
      refine AOL.ghost (GS.unrow 10 rfl) ?_
      refine AOL.p (P_move (v := .sl _ _) rfl) rfl ?_
      refine AOL.p (P_assign (v := .sl _ _) rfl) rfl ?_
      refine AOL.p (P_assign (v := .bool _) rfl) rfl ?_
      refine AOL.nil ?_
      refine thenN ?_
      refine AW.ret ?_
      refine ⟨.inr rfl, [.sl _ _, .bool _], .cons (.tmp _ _ rfl) <| .cons (.tmp _ _ rfl) <| .nil, .cons _ (.refl _), ?_⟩
      rw [hd] at hR
      rw [caseK_ok hR.2.1, hR.2.2]; rfl
theorem nsub (n : Nat) : AV.int .i64 ((n : Int) - (0 - 0)) = .int .i64 (n : Int) := by
  have : (n : Int) - (0 - 0) = (n : Int) := by omega
  rw [this]
set_option maxRecDepth 20000 in
set_option maxHeartbeats 400000 in
theorem k_Grow (n : Nat) (hn : n ≤ 1048576) (H : List HO) : ACall Try.prog 69 H [.val (.slice none 0 0), .int .i64 (n : Int)] (fun r H' => ∃ v, r = .row v 5 [] ∧ H' = .row v 0 30 5 :: H) := by
  refine ACall.body (n := 27) tok Try.func69 rfl rfl rfl ?_
  refine AW.ghostPost ?_
  refine AW.seq ?_
  refine AW.region ?_
  refine AOL.p (P_assign_nil (z := 5) rfl) rfl ?_
  refine AOL.nil ?_
  refine thenN ?_
  refine AW.seq ?_
  refine AW.seq ?_
  refine AW.region ?_
  refine AOL.p (P_move (v := .int .i64 _) rfl) rfl ?_
  refine AOL.p (P_lss rfl rfl) rfl ?_
  refine AOL.nil ?_
  refine thenN ?_
  refine AW.cond (b := _) rfl (fun hc1 => ?_) (fun hc1 => ?_)
  · skip
    have := of_decide_eq_true hc1; omega
  · skip
    refine AW.skip ?_
    refine thenN ?_
    refine AW.seq ?_
    refine AW.seq ?_
    refine AW.region ?_
    refine AOL.p (P_move (v := .int .i64 _) rfl) rfl ?_
    refine AOL.p (P_move (v := .val _) rfl) rfl ?_
    refine AOL.p (P_cap_nil tok rfl rfl rfl) rfl ?_
    refine AOL.p (P_move (v := .val _) rfl) rfl ?_
    refine AOL.p (P_len_val tok rfl rfl rfl) rfl ?_
    refine AOL.p (P_sub rfl rfl rfl (by constructor <;> omega)) rfl ?_
    refine AOL.p (P_sub rfl rfl rfl (by constructor <;> omega)) rfl ?_
    refine AOL.p (P_assign (v := .int .i64 _) rfl) rfl ?_
    refine AOL.nil ?_
    refine thenN ?_
    refine AW.seq ?_
    refine AW.region ?_
    refine AOL.p (P_move (v := .int .i64 _) rfl) rfl ?_
    refine AOL.p (P_gtr rfl rfl) rfl ?_
    refine AOL.nil ?_
    refine thenN ?_
    refine AW.cond (b := _) rfl (fun hc2 => ?_) (fun hc2 => ?_)
    · skip
      have hn0 : 0 < n := by have := of_decide_eq_true hc2; omega
      refine AW.region ?_
      refine AOL.p (P_move (v := .val _) rfl) rfl ?_
      refine AOL.p (P_move (v := .val _) rfl) rfl ?_
      refine AOL.p (P_cap_nil tok rfl rfl rfl) rfl ?_
      refine AOL.p (P_slice_nil tok rfl rfl rfl rfl rfl) rfl ?_
      refine AOL.p (P_move (v := .int .i64 _) rfl) rfl ?_
      refine AOL.e (E_appendMake (n := n) tok rfl (nsub n) rfl rfl Try.underlying3 rfl rfl rfl hn0 hn (by show n * 56 ≤ _; omega)) rfl ?_
      rintro _ _ ⟨bm, cm, hcm, rfl, rfl⟩
      refine AOL.p (P_move (v := .val _) rfl) rfl ?_
      refine AOL.p (P_len_val tok rfl rfl rfl) rfl ?_
      refine AOL.p (P_slice_val (l := 0) (h := 0) (o' := 0) tok rfl rfl rfl rfl rfl rfl ⟨_, rfl⟩ (by omega) (by omega) hcm (by omega) rfl) rfl ?_
      refine AOL.p (P_assign (v := .val _) rfl) rfl ?_
      refine AOL.nil ?_
      refine thenN ?_
      refine AW.seq ?_
      refine AW.region ?_
      refine AOL.p (P_move (v := .val _) rfl) rfl ?_
      refine AOL.p (P_assign (v := .val _) rfl) rfl ?_
      refine AOL.nil ?_
      refine thenN ?_
      refine AW.ret ?_
      refine ⟨_, GS.rowOf (t := 4) 0 rfl rfl, .inr rfl, [.row _ _ _], .cons (.tmp _ _ rfl) <| .nil, _, .refl _, ?_⟩
      exact ⟨_, rfl, rfl⟩
    · skip
      refine AW.skip ?_
      refine thenN ?_
      refine AW.seq ?_
      refine AW.region ?_
      refine AOL.p (P_move (v := .val _) rfl) rfl ?_
      refine AOL.p (P_assign (v := .val _) rfl) rfl ?_
      refine AOL.nil ?_
      refine thenN ?_
      refine AW.ret ?_
      refine ⟨_, GS.row (t := 4) 30 5 rfl, .inr rfl, [.row _ _ _], .cons (.tmp _ _ rfl) <| .nil, _, .refl _, ?_⟩
      exact ⟨_, rfl, rfl⟩

end Go.Proofs.Ytfpbgdjloccdbaa
