/-
  Walks of the parser: queries, programs, whole texts. No condition.
-/
import Derived.Test.YtabkeeedkhgodaaGreatDoorV8
import Derived.KernelRfl
namespace Go.Proofs.YtabkeeedkhgodaaGreatDoor
open Go Go.Aw
set_option linter.unusedVariables false
set_option linter.unusedSimpArgs false

theorem litGo_text (s : Str) : ∀ (n i : Nat) (b : Str), b.length ≤ i → i ≤ s.length → (litGo s n i b).tok.text.length ≤ s.length
  | 0, i, b, h1, h2 => by simp [litGo, foE, tokZ]
  | n + 1, i, b, h1, h2 => by
    unfold litGo
    split
    · rename_i hi
      simp only [decide_eq_true_eq] at hi
      split
      · split
        · simp [foE, tokZ]
        · simp only [foT]; omega
      · split
        · split
          · simp [foE, tokZ]
          · rename_i he
            have hp := esc_le (s.drop i)
            rw [List.length_drop] at hp
            have hz : (escS (s.drop i)).2 ≠ 0 := by simpa using he
            exact litGo_text s n _ _ (by rw [List.length_append, List.length_singleton]; omega) (by omega)
        · split
          · simp [foE, tokZ]
          · exact litGo_text s n _ _ (by rw [List.length_append, List.length_singleton]; omega) (by omega)
    · simp [foE, tokZ]
theorem signGo_text (s : Str) : ∀ l : List Str, (∀ x ∈ l, x.length ≤ 2) → (signGo s l).tok.text.length ≤ 2
  | [], _ => by simp [signGo, foE, tokZ]
  | x :: r, h => by
    unfold signGo
    split
    · exact h x (List.mem_cons_self ..)
    · exact signGo_text s r fun y hy => h y (List.mem_cons_of_mem _ hy)
theorem next_text (t : Str) (h0 : 0 < t.length) : (nextF t).tok.text.length ≤ t.length + 2 := by
  have hn : (nameF t).tok.text.length ≤ t.length := by
    unfold nameF
    split
    · simp [foZ, tokZ]
    · split
      · simp [foE, tokZ]
      · simp only [foT, List.length_take]; omega
  have hm : (numberF t).tok.text.length ≤ t.length := by
    unfold numberF
    split
    · simp [foZ, tokZ]
    · split
      · simp [foE, tokZ]
      · split
        · simp [foE, tokZ]
        · simp only [foT, List.length_take]; omega
  have hl : (litF t).tok.text.length ≤ t.length := by
    unfold litF
    split
    · simp [foZ, tokZ]
    · exact litGo_text t _ 1 [] (Nat.zero_le _) h0
  have hs := signGo_text t signL (by decide)
  unfold nextF
  split
  · omega
  · split
    · omega
    · split
      · omega
      · exact Nat.le_trans hs (by omega)
theorem scan_okT (s : Str) (hl : s.length ≤ 100000) : okT (scanS s).1 := by
  have key : ∀ (n i : Nat) (out : List Tok), i ≤ s.length → out.length ≤ i → (∀ t ∈ out, t.text.length ≤ s.length + 2) → (scanGo s n i out).1.length ≤ s.length ∧ ∀ t ∈ (scanGo s n i out).1, t.text.length ≤ s.length + 2 := by
    intro n
    induction n with
    | zero => intro i out h1 h2 h3; exact ⟨Nat.zero_le _, fun t h => by cases h⟩
    | succ n ih =>
      intro i out h1 h2 h3
      unfold scanGo
      split
      · rename_i hi
        simp only [decide_eq_true_eq] at hi
        have hs := sep_le (s.drop i)
        have hn := next_le (s.drop i) (by rw [List.length_drop]; omega)
        have ht := next_text (s.drop i) (by rw [List.length_drop]; omega)
        rw [List.length_drop] at hs hn ht
        have hs2 := hs.2 (by omega)
        split
        · exact ih _ _ (by omega) (by omega) h3
        · split
          · exact ⟨Nat.zero_le _, fun t h => by cases h⟩
          · rename_i h4
            have hp := hn.2.2.2.2 (by simpa using h4)
            refine ih _ _ (by omega) (by rw [List.length_append, List.length_singleton]; omega) fun t h => ?_
            rcases List.mem_append.1 h with h | h
            · exact h3 t h
            · rw [List.mem_singleton] at h; subst h; simp only; omega
      · exact ⟨Nat.le_trans h2 h1, h3⟩
  unfold scanS
  split
  · exact ⟨Nat.zero_le _, fun t h => by cases h⟩
  · have := key (s.length + 1) 0 [] (Nat.zero_le _) (Nat.le_refl _) (fun t h => by cases h)
    exact ⟨by omega, fun t h => by have := this.2 t h; omega⟩
theorem begin_okD (s : Str) (hl : s.length ≤ 100000) : okD 0 (beginS (scanS s).1 s.length) := ⟨scan_okT s hl, Int.le_refl _, (by decide : (0 : Int) ≤ 64)⟩

set_option maxRecDepth 20000 in
set_option maxHeartbeats 800000 in
theorem p_kind (st : PS) (bp : Nat)  (hO : okD 0 st) : PCallS Tryz.prog 57 bp 70 (cP st) (cP ((kindP st).2)) [.val (.pointer (some ⟨bp, 0, none⟩))] (.agg (cSyn (kindP st).1)) := by
 intro H
 have hS := hO.1
 have hO2 : okD 0 (expP w_lbrace (tokP 0 (expP w_ttype st))) := by simpa using hO
 refine ACall.body (n := 32) tok Tryz.func57 rfl rfl rfl ?_
 refine AW.seq (AW.region ?_)
 refine AOL.e (E_alloc (l := [.int .i64 0, .str [], .str [], .int .i64 0, .sl 6 [], .int .i64 0]) (by kernel_rfl)) rfl ?_
 rintro _ _ ⟨b2, rfl, rfl⟩
 refine AOL.nil (thenN ?_)
 refine AW.seq (AW.region ?_)
 refine AOL.p (P_move (v := .val _) rfl) rfl ?_
 refine AOL.pk (P_callf_k (k := 1) (by kernel_rfl) rfl rfl (p_offset _ _)) rfl rfl ?_
 refine AOL.p (P_build (l := [.int .i64 _, .str _, .str _, .int .i64 _, _, .int .i64 _]) tok rfl rfl rfl) rfl ?_
 refine AOL.e (E_alloc (l := [.int .i64 0, .str [], .str [], .int .i64 0, .sl 6 [], .int .i64 0]) (by kernel_rfl)) rfl ?_
 rintro _ _ ⟨b3, rfl, rfl⟩
 refine AOL.e (E_store (k := 0) (v := .agg _) (cs' := [.int .i64 _, .str _, .str _, .int .i64 _, _, .int .i64 _]) (H2 := _ :: _ :: _ :: _) tok rfl rfl rfl rfl rfl rfl rfl rfl rfl) rfl ?_
 rintro _ _ ⟨rfl, rfl⟩
 refine AOL.nil (thenN ?_)
 refine AW.seq (AW.region ?_)
 refine AOL.p (P_move (v := .val _) rfl) rfl ?_
 refine AOL.e (E_callf (by kernel_rfl) rfl rfl ((p_expect _ _ _ (by simpa using hS) (by first | assumption | decide)).at (k := 2) (H2 := _ :: _ :: _ :: _) rfl rfl)) rfl ?_
 rintro _ _ ⟨rfl, rfl⟩
 refine AOL.nil (thenN ?_)
 refine AW.seq (AW.region ?_)
 refine AOL.p (P_move (v := .val _) rfl) rfl ?_
 refine AOL.e (E_callf (by kernel_rfl) rfl rfl ((p_name _ _ (by simpa using hS)).at (k := 2) (H2 := _ :: _ :: _ :: _) rfl rfl)) rfl ?_
 rintro _ _ ⟨rfl, rfl⟩
 refine AOL.p (P_fieldAddr_val tok rfl rfl rfl rfl rfl rfl) rfl ?_
 refine AOL.e (E_store (k := 0) (v := .str _) (cs' := [.int .i64 _, .str _, .str _, .int .i64 _, _, .int .i64 _]) (H2 := _ :: _ :: _ :: _) tok rfl rfl rfl rfl rfl rfl rfl rfl rfl) rfl ?_
 rintro _ _ ⟨rfl, rfl⟩
 refine AOL.nil (thenN ?_)
 refine AW.seq (AW.region ?_)
 refine AOL.p (P_move (v := .val _) rfl) rfl ?_
 refine AOL.e (E_callf (by kernel_rfl) rfl rfl ((p_expect _ _ _ (by simpa using hS) (by first | assumption | decide)).at (k := 2) (H2 := _ :: _ :: _ :: _) rfl rfl)) rfl ?_
 rintro _ _ ⟨rfl, rfl⟩
 refine AOL.nil (thenN ?_)
 refine AW.seq ?_
 refine AW.seq (AW.region ?_)
 refine AOL.p (P_move (v := .val _) rfl) rfl ?_
 refine AOL.p (P_nilCheck rfl) rfl ?_
 refine AOL.p (P_fieldAddr_val tok rfl rfl rfl rfl rfl rfl) rfl ?_
 refine AOL.pk (P_load_box (k := 2) (c := .int .i64 _) tok rfl rfl rfl rfl) rfl rfl ?_
 refine AOL.p (P_eql rfl rfl) rfl ?_
 refine AOL.p (P_move (v := .bool _) rfl) rfl ?_
 refine AOL.g (y := .val _) _ [] rfl (EntL.all trivial) (fun hG => P_move (v := .val _) rfl) rfl ?_
 refine AOL.gk (y := .bool _) _ [(20, _)] rfl (EntL.all ⟨Ent.self _ _, trivial⟩) (fun hG => P_callf_k (k := 2) (by kernel_rfl) rfl rfl (p_is _ _ _ (by simpa using hS) (by first | assumption | decide))) rfl rfl ?_
 refine AOL.g (y := .bool _) _ [(21, _)] rfl (EntL.all ⟨Ent.self _ _, trivial⟩) (fun hG => P_not rfl) rfl ?_
 refine AOL.p (P_pick_and rfl rfl rfl) rfl ?_
 refine AOL.nil (thenN ?_)
 refine AW.cond (b := _) rfl (fun hc1 => ?_) (fun hc1 => ?_)
 ·
  try simp only [Bool.not_eq_true', Bool.not_eq_false'] at hc1
  have hS := (okD_goes hO2 (goes_list fine_field (okD_rng (Int.le_refl _) hO2))).1
  refine AW.region ?_
  refine AOL.p (P_move (v := .val _) rfl) rfl ?_
  refine AOL.p (P_move (v := .val _) rfl) rfl ?_
  refine AOL.p (P_makeFunc (l := [.val _]) (l' := []) rfl rfl) rfl ?_
  refine AOL.e (E_callf (by kernel_rfl) rfl rfl ((p_list (expP w_lbrace (tokP 0 (expP w_ttype st))) bp 0 (by decide) 106 (by kernel_rfl) [.val (.pointer (some ⟨bp, 0, none⟩))] [] fieldP fine_field (fun s ho => p_field s bp ho.1) hO2).at (k := 2) (H2 := _ :: _ :: _ :: _) rfl rfl)) rfl ?_
  rintro _ _ ⟨rfl, rfl⟩
  refine AOL.p (P_fieldAddr_val tok rfl rfl rfl rfl rfl rfl) rfl ?_
  refine AOL.e (E_store (k := 0) (v := .sl _ _) (cs' := [.int .i64 _, .str _, .str _, .int .i64 _, _, .int .i64 _]) (H2 := _ :: _ :: _ :: _) tok rfl rfl rfl rfl rfl rfl rfl rfl rfl) rfl ?_
  rintro _ _ ⟨rfl, rfl⟩
  refine AOL.nil (thenN ?_)
  refine AW.seq (AW.region ?_)
  refine AOL.p (P_move (v := .val _) rfl) rfl ?_
  refine AOL.e (E_callf (by kernel_rfl) rfl rfl ((p_expect _ _ _ (by simpa using hS) (by first | assumption | decide)).at (k := 2) (H2 := _ :: _ :: _ :: _) rfl rfl)) rfl ?_
  rintro _ _ ⟨rfl, rfl⟩
  refine AOL.nil (thenN ?_)
  refine AW.seq (AW.region ?_)
  refine AOL.pk (P_load_box_agg (k := 0) (l := [.int .i64 _, .str _, .str _, .int .i64 _, _, .int .i64 _]) tok rfl rfl rfl rfl rfl) rfl rfl ?_
  refine AOL.e (E_store (k := 1) (v := .agg _) (cs' := [.int .i64 _, .str _, .str _, .int .i64 _, _, .int .i64 _]) (H2 := _ :: _ :: _ :: _) tok rfl rfl rfl rfl rfl rfl rfl rfl rfl) rfl ?_
  rintro _ _ ⟨rfl, rfl⟩
  refine AOL.nil (thenN ?_)
  refine AW.ret ?_
  refine ⟨.inr rfl, [.agg [.int .i64 _, .str _, .str _, .int .i64 _, _, .int .i64 _]], .cons (.box _ _ _ 1 _ _ _ _ rfl rfl rfl rfl rfl rfl) <| .nil, _, .cons _ (.cons _ (.refl _)), ?_⟩
  refine ⟨?_, congrArg (fun c => HO.box bp 70 c :: H) ?_⟩
  ·
   try simp only [resOf, kindP, cSyn, List.map_cons, List.map_nil, encS_eq, hc1, ↓reduceIte, Bool.false_eq_true, Bool.not_true, Bool.not_false]
   try rfl
  ·
   try simp only [cP, kindP, hc1, ↓reduceIte, Bool.false_eq_true, Bool.not_true, Bool.not_false]
   try rfl
 ·
  try simp only [Bool.not_eq_true', Bool.not_eq_false'] at hc1
  refine AW.skip ?_
  refine thenN ?_
  refine AW.seq (AW.region ?_)
  refine AOL.p (P_move (v := .val _) rfl) rfl ?_
  refine AOL.e (E_callf (by kernel_rfl) rfl rfl ((p_expect _ _ _ (by simpa using hS) (by first | assumption | decide)).at (k := 2) (H2 := _ :: _ :: _ :: _) rfl rfl)) rfl ?_
  rintro _ _ ⟨rfl, rfl⟩
  refine AOL.nil (thenN ?_)
  refine AW.seq (AW.region ?_)
  refine AOL.pk (P_load_box_agg (k := 0) (l := [.int .i64 _, .str _, .str _, .int .i64 _, _, .int .i64 _]) tok rfl rfl rfl rfl rfl) rfl rfl ?_
  refine AOL.e (E_store (k := 1) (v := .agg _) (cs' := [.int .i64 _, .str _, .str _, .int .i64 _, _, .int .i64 _]) (H2 := _ :: _ :: _ :: _) tok rfl rfl rfl rfl rfl rfl rfl rfl rfl) rfl ?_
  rintro _ _ ⟨rfl, rfl⟩
  refine AOL.nil (thenN ?_)
  refine AW.ret ?_
  refine ⟨.inr rfl, [.agg [.int .i64 _, .str _, .str _, .int .i64 _, _, .int .i64 _]], .cons (.box _ _ _ 1 _ _ _ _ rfl rfl rfl rfl rfl rfl) <| .nil, _, .cons _ (.cons _ (.refl _)), ?_⟩
  refine ⟨?_, congrArg (fun c => HO.box bp 70 c :: H) ?_⟩
  ·
   try simp only [resOf, kindP, cSyn, List.map_cons, List.map_nil, encS_eq, hc1, ↓reduceIte, Bool.false_eq_true, Bool.not_true, Bool.not_false]
   try rfl
  ·
   try simp only [cP, kindP, hc1, ↓reduceIte, Bool.false_eq_true, Bool.not_true, Bool.not_false]
   try rfl
theorem sc_pair (x y : Syn) : ∀ c ∈ [cSyn x, cSyn y], scalars c = true := by
  intro c hc
  simp only [List.mem_cons, List.not_mem_nil, or_false] at hc
  rcases hc with rfl | rfl <;> rfl
abbrev q1 (st : PS) : PS := expP w_tquery st
abbrev q2 (st : PS) : Syn × PS := keyP (tokP 0 (q1 st)) (offS st)
abbrev q3 (T : PS → Syn × PS) (st : PS) : Syn × PS := T (expP w_tmatch (q2 st).2)
abbrev q4 (T : PS → Syn × PS) (st : PS) : PS := expP w_treturn (q3 T st).2
theorem list_len {F : PS → Syn × PS} (hF : Fine F) {st : PS} (h : okD 0 st) : (listP F st).1.length ≤ 1048600 := by
  have key : ∀ (n : Nat) (st : PS) (out : List Syn), okD 0 st → out.length ≤ st.pos + 1 → out.length ≤ 1048580 → (listGo F n st out).1.length ≤ 1048600 := by
    intro n
    induction n with
    | zero => intro st out _ _ h; exact Nat.le_trans h (by decide)
    | succ n ih =>
      intro st out hO h1 h2
      unfold listGo
      split
      · rename_i hi
        have hlt := is_lt hi
        have hg := hF.goes (a := adv st) (okD_rng (Int.le_refl _) hO)
        have hp : st.pos + 1 ≤ (F (adv st)).2.pos := hg.2.1
        have hml := hO.1.1
        exact ih _ _ (okD_goes hO ((Goes.adv st).trans hg)) (by rw [List.length_append, List.length_singleton]; omega) (by rw [List.length_append, List.length_singleton]; omega)
      · exact Nat.le_trans h2 (by decide)
  exact key _ _ _ (okD_goes h (hF.goes (okD_rng (Int.le_refl _) h))) (by simp) (by simp)

set_option maxRecDepth 20000 in
set_option maxHeartbeats 3200000 in
theorem p_query (st : PS) (bp : Nat) (E : PS → Syn × PS) (hFE : Fine E) (hE : ∀ (st : PS) (bp : Nat), okD 0 st → PCallS Tryz.prog 40 bp 70 (cP st) (cP (E st).2) [.val (.pointer (some ⟨bp, 0, none⟩))] (.agg (cSyn (E st).1))) (T : PS → Syn × PS) (hFT : Fine T) (hT : ∀ (st : PS) (bp : Nat), okD 0 st → PCallS Tryz.prog 108 bp 70 (cP st) (cP (T st).2) [.val (.pointer (some ⟨bp, 0, none⟩))] (.agg (cSyn (T st).1))) (hO : okD 0 st) : PCallS Tryz.prog 58 bp 70 (cP st) (cP ((queryP E T st).2)) [.val (.pointer (some ⟨bp, 0, none⟩))] (.agg (cSyn (queryP E T st).1)) := by
 intro H
 have hS := hO.1
 have hO2 : okD 0 (q2 st).2 := okD_goes (a := tokP 0 (q1 st)) (by simpa using hO) (goes_key _ _)
 have hO3 : okD 0 (q3 T st).2 := hFT.okD (Int.le_refl _) (by simpa using hO2)
 have hO4 : okD 0 (q4 T st) := by simpa using hO3
 have hO5 := okD_goes hO4 (goes_list hFE (okD_rng (Int.le_refl _) hO4))
 have hll := list_len hFE hO4
 refine ACall.body (n := 44) tok Tryz.func58 rfl rfl rfl ?_
 refine AW.seq (AW.region ?_)
 refine AOL.e (E_alloc (l := [.int .i64 0, .str [], .str [], .int .i64 0, .sl 6 [], .int .i64 0]) (by kernel_rfl)) rfl ?_
 rintro _ _ ⟨b2, rfl, rfl⟩
 refine AOL.nil (thenN ?_)
 refine AW.seq (AW.region ?_)
 refine AOL.p (P_move (v := .val _) rfl) rfl ?_
 refine AOL.pk (P_callf_k (k := 1) (by kernel_rfl) rfl rfl (p_offset _ _)) rfl rfl ?_
 refine AOL.p (P_build (l := [.int .i64 _, .str _, .str _, .int .i64 _, _, .int .i64 _]) tok rfl rfl rfl) rfl ?_
 refine AOL.e (E_alloc (l := [.int .i64 0, .str [], .str [], .int .i64 0, .sl 6 [], .int .i64 0]) (by kernel_rfl)) rfl ?_
 rintro _ _ ⟨b3, rfl, rfl⟩
 refine AOL.e (E_store (k := 0) (v := .agg _) (cs' := [.int .i64 _, .str _, .str _, .int .i64 _, _, .int .i64 _]) (H2 := _ :: _ :: _ :: _) tok rfl rfl rfl rfl rfl rfl rfl rfl rfl) rfl ?_
 rintro _ _ ⟨rfl, rfl⟩
 refine AOL.nil (thenN ?_)
 refine AW.seq (AW.region ?_)
 refine AOL.p (P_move (v := .val _) rfl) rfl ?_
 refine AOL.e (E_callf (by kernel_rfl) rfl rfl ((p_expect _ _ _ (by simpa using hS) (by first | assumption | decide)).at (k := 2) (H2 := _ :: _ :: _ :: _) rfl rfl)) rfl ?_
 rintro _ _ ⟨rfl, rfl⟩
 refine AOL.nil (thenN ?_)
 refine AW.seq (AW.region ?_)
 refine AOL.p (P_move (v := .val _) rfl) rfl ?_
 refine AOL.e (E_callf (by kernel_rfl) rfl rfl ((p_name _ _ (by simpa using hS)).at (k := 2) (H2 := _ :: _ :: _ :: _) rfl rfl)) rfl ?_
 rintro _ _ ⟨rfl, rfl⟩
 refine AOL.p (P_fieldAddr_val tok rfl rfl rfl rfl rfl rfl) rfl ?_
 refine AOL.e (E_store (k := 0) (v := .str _) (cs' := [.int .i64 _, .str _, .str _, .int .i64 _, _, .int .i64 _]) (H2 := _ :: _ :: _ :: _) tok rfl rfl rfl rfl rfl rfl rfl rfl rfl) rfl ?_
 rintro _ _ ⟨rfl, rfl⟩
 refine AOL.nil (thenN ?_)
 refine AW.seq (AW.region ?_)
 refine AOL.p (P_fieldAddr_val tok rfl rfl rfl rfl rfl rfl) rfl ?_
 refine AOL.pk (P_load_box (k := 0) (c := .int .i64 _) tok rfl rfl rfl rfl) rfl rfl ?_
 refine AOL.p (P_build (l := [.int .i64 _, .str _, .str _, .int .i64 _, _, .int .i64 _]) tok rfl rfl rfl) rfl ?_
 refine AOL.e (E_alloc (l := [.int .i64 0, .str [], .str [], .int .i64 0, .sl 6 [], .int .i64 0]) (by kernel_rfl)) rfl ?_
 rintro _ _ ⟨b4, rfl, rfl⟩
 refine AOL.e (E_store (k := 0) (v := .agg _) (cs' := [.int .i64 _, .str _, .str _, .int .i64 _, _, .int .i64 _]) (H2 := _ :: _ :: _ :: _ :: _) tok rfl rfl rfl rfl rfl rfl rfl rfl rfl) rfl ?_
 rintro _ _ ⟨rfl, rfl⟩
 refine AOL.nil (thenN ?_)
 refine AW.cut (fun (k : Syn × PS) => (⟨[(0, .val (.pointer (some ⟨bp, 0, none⟩))), (2, .val (.pointer (some ⟨b2, 0, none⟩))), (3, .val (.pointer (some ⟨b3, 0, none⟩))), (4, .val (.pointer (some ⟨b4, 0, none⟩)))], .box b4 24 (cSyn k.1) :: .box b3 24 [.int .i64 3, .str (txtP 0 (q1 st)), .str [], .int .i64 0, .sl 6 [], .int .i64 (offS st)] :: .box b2 24 (cSyn synZ) :: .box bp 70 (cP k.2) :: H, 44⟩ : St)) (fun (k : Syn × PS) => k = q2 st) ?_ ?_
 ·
  refine AW.seq (AW.region ?_)
  refine AOL.p (P_move (v := .val _) rfl) rfl ?_
  refine AOL.e (E_callf (by kernel_rfl) rfl rfl ((p_accept _ _ _ (by simpa using hS) (by first | assumption | decide)).at (k := 3) (H2 := _ :: _ :: _ :: _ :: _) rfl rfl)) rfl ?_
  rintro _ _ ⟨rfl, rfl⟩
  refine AOL.nil (thenN ?_)
  refine AW.cond (b := _) rfl (fun hc1 => ?_) (fun hc1 => ?_)
  ·
   try simp only [Bool.not_eq_true', Bool.not_eq_false'] at hc1
   refine AW.ghost (GS.cellsTo (H2 := _ :: _ :: _ :: _ :: _) 3 rfl (congrArg cP (acc_yes hc1)) rfl) ?_
   refine AW.seq (AW.region ?_)
   refine AOL.p (P_move (v := .val _) rfl) rfl ?_
   refine AOL.pk (P_callf_k (k := 3) (by kernel_rfl) rfl rfl (p_offset _ _)) rfl rfl ?_
   refine AOL.p (P_fieldAddr_val tok rfl rfl rfl rfl rfl rfl) rfl ?_
   refine AOL.e (E_store (k := 0) (v := .int .i64 _) (cs' := [.int .i64 _, .str _, .str _, .int .i64 _, _, .int .i64 _]) (H2 := _ :: _ :: _ :: _ :: _) tok rfl rfl rfl rfl rfl rfl rfl rfl rfl) rfl ?_
   rintro _ _ ⟨rfl, rfl⟩
   refine AOL.nil (thenN ?_)
   refine AW.region ?_
   refine AOL.p (P_move (v := .val _) rfl) rfl ?_
   refine AOL.e (E_callf (by kernel_rfl) rfl rfl ((p_name _ _ (by simpa using hS)).at (k := 3) (H2 := _ :: _ :: _ :: _ :: _) rfl rfl)) rfl ?_
   rintro _ _ ⟨rfl, rfl⟩
   refine AOL.p (P_fieldAddr_val tok rfl rfl rfl rfl rfl rfl) rfl ?_
   refine AOL.e (E_store (k := 0) (v := .str _) (cs' := [.int .i64 _, .str _, .str _, .int .i64 _, _, .int .i64 _]) (H2 := _ :: _ :: _ :: _ :: _) tok rfl rfl rfl rfl rfl rfl rfl rfl rfl) rfl ?_
   rintro _ _ ⟨rfl, rfl⟩
   refine AOL.nil (thenN ?_)
   refine ⟨(⟨4, txtP 0 (adv (tokP 0 (q1 st))), [], 0, [], offS (adv (tokP 0 (q1 st)))⟩, tokP 0 (adv (tokP 0 (q1 st)))), ?_, GS.weaken ⟨rfl, rfl, rfl, rfl, trivial⟩ (.refl _)⟩
   exact (by unfold q2 keyP; rw [if_pos (show isP w_by (tokP 0 (q1 st)) = true from hc1)])
  ·
   try simp only [Bool.not_eq_true', Bool.not_eq_false'] at hc1
   refine AW.ghost (GS.cellsTo (H2 := _ :: _ :: _ :: _ :: _) 3 rfl (congrArg cP (acc_no hc1)) rfl) ?_
   refine AW.skip ?_
   refine thenN ?_
   refine ⟨(⟨4, [], [], 0, [], offS st⟩, tokP 0 (q1 st)), ?_, GS.weaken ⟨rfl, rfl, rfl, rfl, trivial⟩ (.refl _)⟩
   exact (by unfold q2 keyP; rw [if_neg (Bool.eq_false_iff.mp (show isP w_by (tokP 0 (q1 st)) = false from hc1))])
 ·
  rintro k rfl
  have hS := hO2.1
  refine AW.seq (AW.region ?_)
  refine AOL.p (P_move (v := .val _) rfl) rfl ?_
  refine AOL.e (E_callf (by kernel_rfl) rfl rfl ((p_expect _ _ _ (by simpa using hS) (by first | assumption | decide)).at (k := 3) (H2 := _ :: _ :: _ :: _ :: _) rfl rfl)) rfl ?_
  rintro _ _ ⟨rfl, rfl⟩
  refine AOL.nil (thenN ?_)
  refine AW.seq ?_
  refine AW.draw mixed (fun H' => _ ∈ H') (List.mem_of_getElem? (i := 0) rfl) (by kernel_rfl) ?_
  refine Canon.pure _ _ 0 _ _ rfl (by kernel_rfl) (by kernel_rfl) rfl (.run rfl (OpP.mem (fun k => P_load_box_agg (k := k) (l := [.int .i64 _, .str _, .str _, .int .i64 _, _, .int .i64 _]) tok rfl rfl rfl rfl rfl) (fun _ h => h))) ?_
  refine Canon.pure _ _ 1 _ _ rfl (by kernel_rfl) (by kernel_rfl) rfl (.run rfl (P_move (v := .val _) rfl)) ?_
  refine Canon.eff _ _ 2 _ _ rfl (by kernel_rfl) rfl rfl (E_callf (by kernel_rfl) rfl rfl ((hT (expP w_tmatch (q2 st).2) bp (by simpa using hO2)).at (k := 3) (H2 := _ :: _ :: _ :: _ :: _) rfl rfl)) (by rintro _ _ ⟨rfl, rfl⟩; simp) ?_
  rintro _ _ ⟨rfl, rfl⟩
  have hS := hO3.1
  refine Canon.eff _ _ 3 _ _ rfl (by kernel_rfl) rfl rfl (E_buildSlice (es := [[.int .i64 _, .str _, .str _, .int .i64 _, _, .int .i64 _], [.int .i64 _, .str _, .str _, .int .i64 _, _, .int .i64 _]]) tok rfl rfl rfl rfl rfl rfl rfl rfl rfl) (by rintro _ _ ⟨v29, rfl, rfl⟩; simp) ?_
  rintro _ _ ⟨v29, rfl, rfl⟩
  refine Canon.pure _ _ 4 _ _ rfl (by kernel_rfl) (by kernel_rfl) rfl (.run rfl (P_fieldAddr_val tok rfl rfl rfl rfl rfl rfl)) ?_
  refine Canon.last _ _ 5 _ _ rfl (by kernel_rfl) rfl rfl (E_store (k := 2) (v := .row _ _ _) (cs' := [.int .i64 _, .str _, .str _, .int .i64 _, _, .int .i64 _]) (H2 := _ :: _ :: _ :: _ :: _ :: _) tok rfl rfl rfl rfl rfl rfl rfl rfl rfl) (by kernel_rfl) ?_
  rintro _ _ ⟨rfl, rfl⟩
  refine thenN ?_
  refine AW.seq (AW.region ?_)
  refine AOL.p (P_move (v := .val _) rfl) rfl ?_
  refine AOL.e (E_callf (by kernel_rfl) rfl rfl ((p_expect _ _ _ (by simpa using hS) (by first | assumption | decide)).at (k := 4) (H2 := _ :: _ :: _ :: _ :: _ :: _) rfl rfl)) rfl ?_
  rintro _ _ ⟨rfl, rfl⟩
  refine AOL.nil (thenN ?_)
  refine AW.seq ?_
  refine AW.draw mixed (fun H' => _ ∈ H') (List.mem_of_getElem? (i := 2) rfl) (by kernel_rfl) ?_
  refine Canon.pure _ _ 0 _ _ rfl (by kernel_rfl) (by kernel_rfl) rfl (.run rfl (P_fieldAddr_val tok rfl rfl rfl rfl rfl rfl)) ?_
  refine Canon.pure _ _ 1 _ _ rfl (by kernel_rfl) (by kernel_rfl) rfl (.run rfl (OpP.mem (fun k => P_load_box (k := k) (c := .row _ _ _) tok rfl rfl rfl rfl) (fun _ h => h))) ?_
  refine Canon.pure _ _ 2 _ _ rfl (by kernel_rfl) (by kernel_rfl) rfl (.run rfl (P_move (v := .val _) rfl)) ?_
  refine Canon.pure _ _ 3 _ _ rfl (by kernel_rfl) (by kernel_rfl) rfl (.run rfl (P_move (v := .val _) rfl)) ?_
  refine Canon.pure _ _ 4 _ _ rfl (by kernel_rfl) (by kernel_rfl) rfl (.run rfl (P_makeFunc (l := [.val _]) (l' := []) rfl rfl)) ?_
  refine Canon.eff _ _ 5 _ _ rfl (by kernel_rfl) rfl rfl (E_callf (by kernel_rfl) rfl rfl ((p_list (q4 T st) bp 0 (by decide) 40 (by kernel_rfl) [.val (.pointer (some ⟨bp, 0, none⟩))] [] E hFE (fun s ho => hE s bp ho) hO4).at (k := 4) (H2 := _ :: _ :: _ :: _ :: _ :: _) rfl rfl)) (by rintro _ _ ⟨rfl, rfl⟩; simp) ?_
  rintro _ _ ⟨rfl, rfl⟩
  have hS := hO5.1
  refine Canon.eff _ _ 6 _ _ rfl (by kernel_rfl) rfl rfl (E_append (k := 0) tok rfl rfl rfl rfl rfl rfl rfl rfl (sc_syn _) (sc_pair _ _) (by simp; omega) (by simp [maxLen]; omega)) (by rintro _ _ ⟨v39, rfl, rfl⟩; simp) ?_
  rintro _ _ ⟨v39, rfl, rfl⟩
  refine Canon.pure _ _ 7 _ _ rfl (by kernel_rfl) (by kernel_rfl) rfl (.run rfl (P_fieldAddr_val tok rfl rfl rfl rfl rfl rfl)) ?_
  refine Canon.last _ _ 8 _ _ rfl (by kernel_rfl) rfl rfl (E_store (k := 2) (v := .row _ _ _) (cs' := [.int .i64 _, .str _, .str _, .int .i64 _, _, .int .i64 _]) (H2 := _ :: _ :: _ :: _ :: _ :: _) tok rfl rfl rfl rfl rfl rfl rfl rfl rfl) (by kernel_rfl) ?_
  rintro _ _ ⟨rfl, rfl⟩
  refine thenN ?_
  refine AW.seq (AW.region ?_)
  refine AOL.p (P_move (v := .val _) rfl) rfl ?_
  refine AOL.e (E_callf (by kernel_rfl) rfl rfl ((p_expect _ _ _ (by simpa using hS) (by first | assumption | decide)).at (k := 4) (H2 := _ :: _ :: _ :: _ :: _ :: _) rfl rfl)) rfl ?_
  rintro _ _ ⟨rfl, rfl⟩
  refine AOL.nil (thenN ?_)
  refine AW.seq (AW.region ?_)
  refine AOL.ghost (GS.cell (H2 := _ :: _ :: _ :: _ :: _ :: _) 2 4 rfl rfl rfl rfl unrow_cell) ?_
  refine AOL.pk (P_load_box_agg (k := 2) (l := [.int .i64 _, .str _, .str _, .int .i64 _, _, .int .i64 _]) tok rfl rfl rfl rfl rfl) rfl rfl ?_
  refine AOL.e (E_store (k := 3) (v := .agg _) (cs' := [.int .i64 _, .str _, .str _, .int .i64 _, _, .int .i64 _]) (H2 := _ :: _ :: _ :: _ :: _ :: _) tok rfl rfl rfl rfl rfl rfl rfl rfl rfl) rfl ?_
  rintro _ _ ⟨rfl, rfl⟩
  refine AOL.nil (thenN ?_)
  refine AW.ret ?_
  refine ⟨.inr rfl, [.agg [.int .i64 _, .str _, .str _, .int .i64 _, _, .int .i64 _]], .cons (.box _ _ _ 3 _ _ _ _ rfl rfl rfl rfl rfl rfl) <| .nil, _, .cons _ (.cons _ (.cons _ (.cons _ (.refl _)))), ?_⟩
  exact ⟨congrArg (fun l => AV.agg [.int .i64 3, .str (txtP 0 (q1 st)), .str [], .int .i64 0, .sl 6 l, .int .i64 (offS st)]) (by unfold queryP; simp only [List.map_append, List.map_cons, List.map_nil, encS_eq]), rfl⟩

end Go.Proofs.YtabkeeedkhgodaaGreatDoor
