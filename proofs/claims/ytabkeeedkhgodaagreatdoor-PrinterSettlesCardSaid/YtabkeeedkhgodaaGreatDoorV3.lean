/-
  Walks of the parser: chains of operations. No condition.
-/
import Derived.Test.YtabkeeedkhgodaaGreatDoorV2
import Derived.KernelRfl
namespace Go.Proofs.YtabkeeedkhgodaaGreatDoor
open Go Go.Aw
set_option linter.unusedVariables false
set_option linter.unusedSimpArgs false

abbrev cSg (s : Str × Int) : List AV := [.str s.1, .int .i64 s.2]
theorem sg_at {sg : List (Str × Int)} {k : Nat} {s : Str × Int} (h : sg[k]? = some s) : (sg.map cSg)[k]? = some [.str s.1, .int .i64 s.2] := by rw [List.getElem?_map, h]; rfl
theorem find_hit {α : Type} {p : α → Bool} : ∀ {l : List α} {k : Nat} {x : α}, (∀ j y, j < k → l[j]? = some y → p y = false) → l[k]? = some x → p x = true → l.find? p = some x
  | [], k, x, _, h, _ => by simp at h
  | a :: l, 0, x, _, h, hp => by
    simp only [List.getElem?_cons_zero, Option.some.injEq] at h; subst h
    rw [List.find?_cons, hp]
  | a :: l, k + 1, x, hn, h, hp => by
    rw [List.find?_cons, hn 0 a (by omega) rfl]
    exact find_hit (l := l) (k := k) (fun j y hj hy => hn (j + 1) y (by omega) hy) h hp
theorem find_none {α : Type} {p : α → Bool} {l : List α} (hn : ∀ j y, j < l.length → l[j]? = some y → p y = false) : l.find? p = none := by
  rw [List.find?_eq_none]
  intro x hx
  obtain ⟨k, hk⟩ := List.getElem?_of_mem hx
  have := hn k x (List.getElem?_eq_some_iff.1 hk).1 hk
  rw [this]; decide
theorem chainGo_pos {F : PS → Syn × PS} {sg : List (Str × Int)} {n : Nat} {st : PS} {out : Syn} (h : 0 < n) : chainGo F sg n st out = match sg.find? (fun s => isP s.1 st) with
    | some s => chainGo F sg (n - 1) (F (adv st)).2 (binS s.2 out (F (adv st)).1 out.pos)
    | none => (out, st) := by
  obtain ⟨m, rfl⟩ : ∃ m, n = m + 1 := ⟨n - 1, by omega⟩
  rfl

set_option maxRecDepth 20000 in
set_option maxHeartbeats 400000 in
theorem pp_binary (op : Int) (x y : Syn) (k : Int) : APure Tryz.prog 109 [.int .i64 op, .agg (cSyn x), .agg (cSyn y), .int .i64 k] (.agg (cSyn (binS op x y k))) := by
 refine APure.body (n := 15) tok Tryz.func109 rfl rfl rfl fun H => ?_
 refine AW.seq (AW.region ?_)
 refine AOL.p (P_box (v := .agg _) (cs := [.int .i64 _, .str _, .str _, .int .i64 _, _, .int .i64 _]) rfl rfl rfl) rfl ?_
 refine AOL.p (P_box (v := .agg _) (cs := [.int .i64 _, .str _, .str _, .int .i64 _, _, .int .i64 _]) rfl rfl rfl) rfl ?_
 refine AOL.e (E_alloc (l := [.int .i64 0, .str [], .str [], .int .i64 0, .sl 6 [], .int .i64 0]) (by kernel_rfl)) rfl ?_
 rintro _ _ ⟨b8, rfl, rfl⟩
 refine AOL.nil (thenN ?_)
 refine AW.seq (AW.region ?_)
 refine AOL.p (P_move (v := .int .i64 _) rfl) rfl ?_
 refine AOL.p (P_load_ptr_agg (l := [.int .i64 _, .str _, .str _, .int .i64 _, _, .int .i64 _]) tok rfl rfl rfl rfl rfl) rfl ?_
 refine AOL.p (P_load_ptr_agg (l := [.int .i64 _, .str _, .str _, .int .i64 _, _, .int .i64 _]) tok rfl rfl rfl rfl rfl) rfl ?_
 refine AOL.p (P_buildSlice (es := [[.int .i64 _, .str _, .str _, .int .i64 _, _, .int .i64 _], [.int .i64 _, .str _, .str _, .int .i64 _, _, .int .i64 _]]) tok rfl rfl rfl rfl rfl rfl rfl rfl rfl) rfl ?_
 refine AOL.p (P_move (v := .int .i64 _) rfl) rfl ?_
 refine AOL.p (P_build (l := [.int .i64 _, .str _, .str _, .int .i64 _, _, .int .i64 _]) tok rfl rfl rfl) rfl ?_
 refine AOL.e (E_store (k := 0) (v := .agg _) (cs' := [.int .i64 _, .str _, .str _, .int .i64 _, _, .int .i64 _]) (H2 := _ :: _) tok rfl rfl rfl rfl rfl rfl rfl rfl rfl) rfl ?_
 rintro _ _ ⟨rfl, rfl⟩
 refine AOL.nil (thenN ?_)
 refine AW.ret ?_
 refine ⟨.inr rfl, [.agg [.int .i64 _, .str _, .str _, .int .i64 _, _, .int .i64 _]], .cons (.box _ _ _ 0 _ _ _ _ rfl rfl rfl rfl rfl rfl) <| .nil, .cons _ (.refl _), ?_⟩
 exact congrArg (fun l => AV.agg [.int .i64 17, .str [], .str [], .int .i64 op, .sl 6 l, .int .i64 k]) (by rw [List.map_cons, List.map_cons, List.map_nil, encS_eq, encS_eq] : [cSyn x, cSyn y] = [x, y].map encS)
set_option maxRecDepth 20000 in
set_option maxHeartbeats 1600000 in
theorem p_chain (st : PS) (bp : Nat) (D : Int) (hD : 0 ≤ D) (f : Nat) (hf : fnB Tryz.prog f = true) (first cap : List AV) (F : PS → Syn × PS) (hF : Fine F) (hc : ∀ st, okD D st → PCallS Tryz.prog f bp 70 (cP st) (cP (F st).2) (first ++ [] ++ cap) (.agg (cSyn (F st).1))) (hO : okD D st) (sg : List (Str × Int)) (hsg : ∀ s ∈ sg, s.1.length ≤ 1048576) (hsl : sg.length ≤ 100) : PCallS Tryz.prog 60 bp 70 (cP st) (cP ((chainP F sg st).2)) [.val (.pointer (some ⟨bp, 0, none⟩)), .fn (.func f) first cap, .sl 2 (sg.map cSg)] (.agg (cSyn (chainP F sg st).1)) := by
 intro H
 refine ACall.body (n := 34) tok Tryz.func60 rfl rfl rfl ?_
 refine AW.seq (AW.region ?_)
 refine AOL.e (E_alloc (l := [.int .i64 0, .str [], .str [], .int .i64 0, .sl 6 [], .int .i64 0]) (by kernel_rfl)) rfl ?_
 rintro _ _ ⟨b6, rfl, rfl⟩
 refine AOL.nil (thenN ?_)
 refine AW.seq (AW.region ?_)
 refine AOL.p (P_move (v := .fn _ _ _) rfl) rfl ?_
 refine AOL.e (E_call (hf) rfl rfl rfl ((hc st hO).at (k := 1) (H2 := _ :: _ :: _) rfl rfl)) rfl ?_
 rintro _ _ ⟨rfl, rfl⟩
 refine AOL.e (E_alloc (l := [.int .i64 0, .str [], .str [], .int .i64 0, .sl 6 [], .int .i64 0]) (by kernel_rfl)) rfl ?_
 rintro _ _ ⟨b7, rfl, rfl⟩
 refine AOL.e (E_store (k := 0) (v := .agg _) (cs' := [.int .i64 _, .str _, .str _, .int .i64 _, _, .int .i64 _]) (H2 := _ :: _ :: _ :: _) tok rfl rfl rfl rfl rfl rfl rfl rfl rfl) rfl ?_
 rintro _ _ ⟨rfl, rfl⟩
 refine AOL.nil (thenN ?_)
 refine AW.seq ?_
 refine AW.seq (AW.region ?_)
 refine AOL.p (P_assign (v := .bool _) rfl) rfl ?_
 refine AOL.nil (thenN ?_)
 refine AW.block ?_
 refine AW.loopS (fun (p : Nat × PS × Syn × Bool) => (⟨[(0, .val (.pointer (some ⟨bp, 0, none⟩))), (1, .fn (.func f) first cap), (2, .sl 2 (sg.map cSg)), (6, .val (.pointer (some ⟨b6, 0, none⟩))), (7, .val (.pointer (some ⟨b7, 0, none⟩))), (8, .bool p.2.2.2)], .box b7 24 (cSyn p.2.2.1) :: .box b6 24 (cSyn synZ) :: .box bp 70 (cP p.2.1) :: H, 34⟩ : St)) (fun (p : Nat × PS × Syn × Bool) => okD D p.2.1 ∧ fuel p.2.1 ≤ p.1 ∧ (p.2.2.2 = true → chainP F sg st = chainGo F sg p.1 p.2.1 p.2.2.1) ∧ (p.2.2.2 = false → chainP F sg st = (p.2.2.1, p.2.1))) (fun (p : Nat × PS × Syn × Bool) => (if p.2.2.2 then p.1 + 1 else 0)) ((fuel (F st).2, (F st).2, (F st).1, true)) ?_ (GS.weaken ⟨rfl, rfl, rfl, rfl, rfl, rfl, trivial⟩ (.refl _)) ?_
 · exact ⟨hF.okD hD hO, Nat.le_refl _, fun _ => rfl, fun h => (by cases h)⟩
 ·
  rintro p hR
  have hO2 : okD D p.2.1 := hR.1
  have hS := hO2.1
  have hfu : fuel p.2.1 ≤ p.1 := hR.2.1
  have hn : 0 < p.1 := by unfold fuel at hfu; omega
  refine AW.seq ?_
  refine AW.seq (AW.region ?_)
  refine AOL.p (P_move (v := .bool _) rfl) rfl ?_
  refine AOL.nil (thenN ?_)
  refine AW.cond (b := _) rfl (fun hc1 => ?_) (fun hc1 => ?_)
  ·
   try simp only [Bool.not_eq_true', Bool.not_eq_false'] at hc1
   refine AW.skip ?_
   refine thenN ?_
   refine AW.block ?_
   refine AW.seq (AW.region ?_)
   refine AOL.p (P_assign (v := .bool _) rfl) rfl ?_
   refine AOL.nil (thenN ?_)
   refine AW.seq (AW.region ?_)
   refine AOL.p (P_move (v := .sl _ _) rfl) rfl ?_
   refine AOL.p (P_len_sl (n := sg.length) tok rfl rfl rfl (by simp)) rfl ?_
   refine AOL.p (P_move (v := .int .i64 _) rfl) rfl ?_
   refine AOL.nil (thenN ?_)
   refine AW.block ?_
   refine AW.loopS (fun (k : Nat) => (⟨[(0, .val (.pointer (some ⟨bp, 0, none⟩))), (1, .fn (.func f) first cap), (2, .sl 2 (sg.map cSg)), (6, .val (.pointer (some ⟨b6, 0, none⟩))), (7, .val (.pointer (some ⟨b7, 0, none⟩))), (8, .bool false), (14, .sl 2 (sg.map cSg)), (15, .int .i64 (sg.length : Int)), (16, .int .i64 (k : Int))], .box b7 24 (cSyn p.2.2.1) :: .box b6 24 (cSyn synZ) :: .box bp 70 (cP p.2.1) :: H, 34⟩ : St)) (fun (k : Nat) => k ≤ sg.length ∧ ∀ j y, j < k → sg[j]? = some y → isP y.1 p.2.1 = false) (fun (k : Nat) => sg.length - k) (0) ?_ (GS.weaken ⟨rfl, rfl, rfl, rfl, rfl, rfl, rfl, rfl, rfl, trivial⟩ (.refl _)) ?_
   · exact ⟨Nat.zero_le _, fun j y hj => absurd hj (Nat.not_lt_zero _)⟩
   ·
    rintro k hK
    refine AW.seq (AW.region ?_)
    refine AOL.p (P_lss rfl rfl) rfl ?_
    refine AOL.nil (thenN ?_)
    refine AW.seq ?_
    refine AW.cond (b := _) rfl (fun hc2 => ?_) (fun hc2 => ?_)
    ·
     try simp only [Bool.not_eq_true', Bool.not_eq_false'] at hc2
     have hk : k < sg.length := by simpa using hc2
     refine (get_ex hk).elim fun x hx => ?_
     have hwx : x.1.length ≤ 1048576 := hsg x (List.mem_of_getElem? hx)
     refine AW.skip ?_
     refine thenN ?_
     refine AW.seq ?_
     refine AW.block ?_
     refine AW.seq (AW.region ?_)
     refine AOL.p (P_indexAddr (c := [.str _, .int .i64 _]) tok rfl rfl rfl rfl rfl rfl (by omega) (sg_at hx)) rfl ?_
     refine AOL.p (P_load_ptr_agg (l := [.str _, .int .i64 _]) tok rfl rfl rfl rfl rfl) rfl ?_
     refine AOL.e (E_alloc (l := [.str [], .int .i64 0]) (by kernel_rfl)) rfl ?_
     rintro _ _ ⟨b10, rfl, rfl⟩
     refine AOL.e (E_store (k := 0) (v := .agg _) (cs' := [.str _, .int .i64 _]) (H2 := _ :: _ :: _ :: _ :: _) tok rfl rfl rfl rfl rfl rfl rfl rfl rfl) rfl ?_
     rintro _ _ ⟨rfl, rfl⟩
     refine AOL.ghost (GS.freeze (t := 10) 0 rfl rfl) ?_
     refine AOL.nil (thenN ?_)
     refine AW.seq (AW.region ?_)
     refine AOL.p (P_move (v := .val _) rfl) rfl ?_
     refine AOL.p (P_fieldAddr_ptr (cs' := [.str _, .int .i64 _]) tok rfl rfl rfl rfl rfl rfl) rfl ?_
     refine AOL.p (P_load_ptr (c := .str _) tok rfl rfl rfl) rfl ?_
     refine AOL.e (E_callf (by kernel_rfl) rfl rfl ((p_accept _ _ _ (by simpa using hS) (by first | assumption | decide)).at (k := 2) (H2 := _ :: _ :: _ :: _) rfl rfl)) rfl ?_
     rintro _ _ ⟨rfl, rfl⟩
     refine AOL.nil (thenN ?_)
     refine AW.cond (b := _) rfl (fun hc3 => ?_) (fun hc3 => ?_)
     ·
      try simp only [Bool.not_eq_true', Bool.not_eq_false'] at hc3
      have hfd : sg.find? (fun s => isP s.1 p.2.1) = some x := find_hit hK.2 hx hc3
      have hlt := is_lt hc3
      have hml := hS.1
      have hFa := hF (adv p.2.1) (by have := hO2.2.1; show (0 : Int) ≤ p.2.1.depth; omega) hO2.2.2
      have hps : p.2.1.pos + 1 ≤ (F (adv p.2.1)).2.pos := hFa.2.1
      have hts : (F (adv p.2.1)).2.toks = p.2.1.toks := hFa.1
      refine AW.ghost (GS.cellsTo (H2 := _ :: _ :: _ :: _) 2 rfl (congrArg cP (acc_yes hc3)) rfl) ?_
      refine AW.seq ?_
      refine AW.draw mixed (fun H' => _ ∈ H') (List.mem_of_getElem? (i := 0) rfl) (by kernel_rfl) ?_
      refine Canon.pure _ _ 0 _ _ rfl (by kernel_rfl) (by kernel_rfl) rfl (.run rfl (P_fieldAddr_ptr (cs' := [.int .i64 _]) tok rfl rfl rfl rfl rfl rfl)) ?_
      refine Canon.pure _ _ 1 _ _ rfl (by kernel_rfl) (by kernel_rfl) rfl (.run rfl (P_load_ptr (c := .int .i64 _) tok rfl rfl rfl)) ?_
      refine Canon.pure _ _ 2 _ _ rfl (by kernel_rfl) (by kernel_rfl) rfl (.run rfl (OpP.mem (fun k => P_load_box_agg (k := k) (l := [.int .i64 _, .str _, .str _, .int .i64 _, _, .int .i64 _]) tok rfl rfl rfl rfl rfl) (fun _ h => h))) ?_
      refine Canon.pure _ _ 3 _ _ rfl (by kernel_rfl) (by kernel_rfl) rfl (.run rfl (P_move (v := .fn _ _ _) rfl)) ?_
      refine Canon.pure _ _ 5 _ _ rfl (by kernel_rfl) (by kernel_rfl) rfl (.run rfl (P_fieldAddr_val tok rfl rfl rfl rfl rfl rfl)) ?_
      refine Canon.pure _ _ 6 _ _ rfl (by kernel_rfl) (by kernel_rfl) rfl (.run rfl (OpP.mem (fun k => P_load_box (k := k) (c := .int .i64 _) tok rfl rfl rfl rfl) (fun _ h => h))) ?_
      refine Canon.eff _ _ 4 _ _ rfl (by kernel_rfl) rfl rfl (E_call (hf) rfl rfl rfl ((hc _ (by simpa using hO2)).at (k := 2) (H2 := _ :: _ :: _ :: _) rfl rfl)) (by rintro _ _ ⟨rfl, rfl⟩; simp) ?_
      rintro _ _ ⟨rfl, rfl⟩
      refine Canon.pure _ _ 7 _ _ rfl (by kernel_rfl) (by kernel_rfl) rfl (.run rfl (P_callf (by kernel_rfl) rfl rfl (pp_binary _ _ _ _))) ?_
      refine Canon.last _ _ 8 _ _ rfl (by kernel_rfl) rfl rfl (E_store (k := 0) (v := .agg _) (cs' := [.int .i64 _, .str _, .str _, .int .i64 _, _, .int .i64 _]) (H2 := _ :: _ :: _ :: _) tok rfl rfl rfl rfl rfl rfl rfl rfl rfl) (by kernel_rfl) ?_
      rintro _ _ ⟨rfl, rfl⟩
      refine thenN ?_
      refine AW.seq (AW.region ?_)
      refine AOL.p (P_assign (v := .bool _) rfl) rfl ?_
      refine AOL.nil (thenN ?_)
      refine AW.exit ?_
      refine blkMiss rfl ?_
      refine thenE ?_
      refine thenE ?_
      refine blkHit ?_
      refine blkN ?_
      refine thenN ?_
      refine ⟨(p.1 - 1, (F (adv p.2.1)).2, binS x.2 p.2.2.1 (F (adv p.2.1)).1 p.2.2.1.pos, true), ?_, ?_, GS.weaken ⟨rfl, rfl, rfl, rfl, rfl, rfl, trivial⟩ (.refl _)⟩
      · exact ⟨hF.okD hD (by simpa using hO2), by unfold fuel at hfu ⊢; rw [hts]; simp only; omega, fun _ => (hR.2.2.1 hc1).trans (by rw [chainGo_pos hn, hfd]), fun h => (by cases h)⟩
      · simp only [hc1, ↓reduceIte, Bool.false_eq_true]; omega
     ·
      try simp only [Bool.not_eq_true', Bool.not_eq_false'] at hc3
      refine AW.ghost (GS.cellsTo (H2 := _ :: _ :: _ :: _) 2 rfl (congrArg cP (acc_no hc3)) rfl) ?_
      refine AW.skip ?_
      refine blkN ?_
      refine thenN ?_
      refine AW.region ?_
      refine AOL.p (P_add rfl rfl rfl (by constructor <;> omega)) rfl ?_
      refine AOL.p (P_move (v := .int .i64 _) rfl) rfl ?_
      refine AOL.nil (thenN ?_)
      refine ⟨k + 1, ?_, ?_, GS.weaken ⟨rfl, rfl, rfl, rfl, rfl, rfl, rfl, rfl, rfl, trivial⟩ (.refl _)⟩
      · exact ⟨hk, fun j y hj hy => by rcases Nat.lt_succ_iff_lt_or_eq.1 hj with h | rfl; exact hK.2 j y h hy; rw [hx] at hy; cases hy; exact hc3⟩
      · omega
    ·
     try simp only [Bool.not_eq_true', Bool.not_eq_false'] at hc2
     have hkn : ¬ k < sg.length := by simpa using hc2
     have hfd : sg.find? (fun s => isP s.1 p.2.1) = none := find_none fun j y hj hy => hK.2 j y (by omega) hy
     refine AW.exit ?_
     refine thenE ?_
     refine thenE ?_
     refine blkHit ?_
     refine blkN ?_
     refine thenN ?_
     refine ⟨(p.1, p.2.1, p.2.2.1, false), ?_, ?_, GS.weaken ⟨rfl, rfl, rfl, rfl, rfl, rfl, trivial⟩ (.refl _)⟩
     · exact ⟨hO2, hfu, fun h => (by cases h), fun _ => (hR.2.2.1 hc1).trans (by rw [chainGo_pos hn, hfd])⟩
     · simp only [hc1, ↓reduceIte, Bool.false_eq_true]; omega
  ·
   try simp only [Bool.not_eq_true', Bool.not_eq_false'] at hc1
   refine AW.exit ?_
   refine thenE ?_
   refine thenE ?_
   refine blkHit ?_
   refine thenN ?_
   refine AW.seq (AW.region ?_)
   refine AOL.pk (P_load_box_agg (k := 0) (l := [.int .i64 _, .str _, .str _, .int .i64 _, _, .int .i64 _]) tok rfl rfl rfl rfl rfl) rfl rfl ?_
   refine AOL.e (E_store (k := 1) (v := .agg _) (cs' := [.int .i64 _, .str _, .str _, .int .i64 _, _, .int .i64 _]) (H2 := _ :: _ :: _ :: _) tok rfl rfl rfl rfl rfl rfl rfl rfl rfl) rfl ?_
   rintro _ _ ⟨rfl, rfl⟩
   refine AOL.nil (thenN ?_)
   refine AW.ret ?_
   refine ⟨.inr rfl, [.agg [.int .i64 _, .str _, .str _, .int .i64 _, _, .int .i64 _]], .cons (.box _ _ _ 1 _ _ _ _ rfl rfl rfl rfl rfl rfl) <| .nil, _, .cons _ (.cons _ (.refl _)), ?_⟩
   have h9 := hR.2.2.2 hc1
   exact ⟨by rw [h9]; rfl, congrArg (fun s => HO.box bp 70 (cP s) :: H) (by rw [h9])⟩

end Go.Proofs.YtabkeeedkhgodaaGreatDoor
