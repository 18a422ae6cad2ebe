/-
  The offset of a node is at most that of each of its kids, and lies in the text. No program in sight. No condition.
-/
import Derived.Test.YtpgmglacdcfnaaaDoorB12
import Derived.Test.YtpgmglacdcfnaaaDoorP7
namespace Go.Proofs.YtpgmglacdcfnaaaDoor
open Go Go.Aw
set_option linter.unusedVariables false
set_option linter.unusedSimpArgs false

mutual
def ordS : Syn → Int → Int → Bool
  | ⟨k, t, n, m, ks, p⟩, f, e => if decide (p < f) || decide (e < p) then false else ordSs ks p e
def ordSs : List Syn → Int → Int → Bool
  | [], _, _ => true
  | a :: r, p, e => if !(ordS a p e) then false else ordSs r p e
end
theorem ordS_eq (t : Syn) (f e : Int) : ordS t f e = if decide (t.pos < f) || decide (e < t.pos) then false else ordSs t.kids t.pos e := by cases t; simp only [ordS]
theorem ordSs_all (p e : Int) : ∀ l : List Syn, ordSs l p e = true ↔ ∀ a ∈ l, ordS a p e = true
  | [] => by simp [ordSs]
  | a :: r => by
    rw [ordSs]
    cases h : ordS a p e with
    | false => simp [h]
    | true => simp [h, ordSs_all p e r]
theorem ordSs_at {l : List Syn} {k : Nat} {x : Syn} {p e : Int} (hx : l[k]? = some x) : ordSs (l.drop k) p e = if !(ordS x p e) then false else ordSs (l.drop (k + 1)) p e := by
  obtain ⟨h1, rfl⟩ := List.getElem?_eq_some_iff.1 hx
  rw [List.drop_eq_getElem_cons h1, ordSs]
theorem ordSs_end {l : List Syn} {k : Nat} {p e : Int} (h : l.length ≤ k) : ordSs (l.drop k) p e = true := by
  rw [List.drop_eq_nil_of_le h, ordSs]
def OrdT (f e : Int) (t : Syn) : Prop := ordS t f e = true
theorem ordT_iff {f e : Int} {t : Syn} : OrdT f e t ↔ f ≤ t.pos ∧ t.pos ≤ e ∧ ∀ a ∈ t.kids, OrdT t.pos e a := by
  unfold OrdT
  rw [ordS_eq]
  by_cases h : (decide (t.pos < f) || decide (e < t.pos)) = true
  · rw [if_pos h]
    rw [Bool.or_eq_true, decide_eq_true_eq, decide_eq_true_eq] at h
    exact ⟨fun h => absurd h (by decide), fun ⟨h1, h2, _⟩ => by omega⟩
  · rw [if_neg h, ordSs_all]
    rw [Bool.or_eq_true, decide_eq_true_eq, decide_eq_true_eq, not_or] at h
    exact ⟨fun k => ⟨by omega, by omega, k⟩, fun ⟨_, _, k⟩ => k⟩
theorem OrdT.mono {f f' e : Int} {t : Syn} (h : OrdT f e t) (k : f' ≤ f) : OrdT f' e t := by
  rw [ordT_iff] at h ⊢
  exact ⟨by omega, h.2⟩
theorem OrdT.self {f e : Int} {t : Syn} (h : OrdT f e t) : OrdT t.pos e t := by
  rw [ordT_iff] at h ⊢
  exact ⟨Int.le_refl _, h.2⟩
theorem OrdT.lo {f e : Int} {t : Syn} (h : OrdT f e t) : f ≤ t.pos := (ordT_iff.1 h).1
theorem OrdT.hi {f e : Int} {t : Syn} (h : OrdT f e t) : t.pos ≤ e := (ordT_iff.1 h).2.1

/-! Offsets of states. -/
def offAt (l : List Tok) (e : Int) (n : Nat) : Int := if decide ((n : Int) < (l.length : Int)) then (l.getD n tokZ).pos else e
/-- The offsets of a list of tokens ascend, up to the text's length. -/
def Srt (l : List Tok) (e : Int) : Prop := ∀ n m, n ≤ m → offAt l e n ≤ offAt l e m ∧ offAt l e m ≤ e
def At (l : List Tok) (e d : Int) (st : PS) : Prop := st.toks = l ∧ st.fin = e ∧ st.depth = d ∧ 0 ≤ d ∧ d ≤ 64
variable {l : List Tok} {e d : Int} {a b st : PS}
theorem At.off (h : At l e d st) : offS st = offAt l e st.pos := by unfold offS offAt tkS; rw [h.1, h.2.1]
theorem At.next (h : At l e d a) (k : Bo a b) : At l e d b := ⟨k.toks.trans h.1, k.fin.trans h.2.1, (k.dep (by unfold Rng; rw [h.2.2.1]; exact h.2.2.2)).trans h.2.2.1, h.2.2.2⟩
theorem At.le (hS : Srt l e) (h : At l e d a) (k : Bo a b) : offS a ≤ offS b := by
  rw [h.off, (h.next k).off]
  exact (hS _ _ k.pos).1
theorem At.top (hS : Srt l e) (h : At l e d a) : offS a ≤ e := by rw [h.off]; exact (hS _ _ (Nat.le_refl _)).2
/-- What is read has ordered offsets. -/
def Gdo (l : List Tok) (e : Int) (st : PS) (r : Syn × PS) : Prop := r.2.bad = 0 → OrdT (offS st) e r.1 ∧ r.1.pos ≤ offS r.2
def OrdF (l : List Tok) (e d : Int) (F : PS → Syn × PS) : Prop := ∀ st, At l e d st → Gdo l e st (F st)
theorem Bo.good (h : Bo a b) (hb : b.bad = 0) : a.bad = 0 := Classical.byContradiction fun e => e ((h.bad e).symm.trans hb)
theorem node_ord (hS : Srt l e) (h : At l e d st) {s : PS} (k : Bo st s) {i m : Int} {t n : Str} {ks : List Syn} (hk : s.bad = 0 → ∀ x ∈ ks, OrdT (offS st) e x) : Gdo l e st (⟨i, t, n, m, ks, offS st⟩, s) := fun hb =>
  ⟨ordT_iff.2 ⟨Int.le_refl _, h.top hS, hk hb⟩, h.le hS k⟩
theorem leaf_ord (hS : Srt l e) (h : At l e d st) {s : PS} (k : Bo st s) {i m : Int} {t n : Str} : Gdo l e st (⟨i, t, n, m, [], offS st⟩, s) := node_ord hS h k (fun _ x hx => (List.not_mem_nil hx).elim)
/-- A reader behind a step. -/
theorem Gdo.later (hS : Srt l e) (h : At l e d a) (k : Bo a b) {r : Syn × PS} (g : Gdo l e b r) : Gdo l e a r := fun hb => ⟨(g hb).1.mono (h.le hS k), (g hb).2⟩
/-- A step behind a reader. -/
theorem Gdo.then (hS : Srt l e) (h : At l e d a) {t : Syn} {s s' : PS} (ks : Bo a s) (k : Bo s s') (g : Gdo l e a (t, s)) : Gdo l e a (t, s') := fun hb => by
  obtain ⟨g1, g2⟩ := g (k.good hb)
  exact ⟨g1, Int.le_trans g2 ((h.next ks).le hS k)⟩
theorem one_mem {α : Type} {P : α → Prop} {y : α} (h : P y) : ∀ x ∈ [y], P x := fun x hx => by
  rw [List.mem_singleton] at hx; rw [hx]; exact h
theorem app_mem {α : Type} {P : α → Prop} {l m : List α} (h : ∀ x ∈ l, P x) (k : ∀ x ∈ m, P x) : ∀ x ∈ l ++ m, P x := fun x hx => (List.mem_append.1 hx).elim (h x) (k x)

theorem ord_field (hS : Srt l e) : OrdF l e d fieldP := fun st h => by
  have k : Bo st (expP w_colon (tokP 0 st)) := (Bo.tok _ _).trans (.exp _ _)
  unfold fieldP
  split
  · exact leaf_ord hS h (k.trans (.adv _))
  · split
    · exact leaf_ord hS h (k.trans (.adv _))
    · split
      · exact leaf_ord hS h (k.trans (.adv _))
      · exact leaf_ord hS h (k.trans (.fail _ _))
theorem ord_listGo (hS : Srt l e) {F : PS → Syn × PS} (sF : Bof F) (hF : OrdF l e d F) {f : Int} : ∀ (n : Nat) (st : PS) (out : List Syn), At l e d st → f ≤ offS st → (∀ x ∈ out, OrdT f e x) → (listGo F n st out).2.bad = 0 → ∀ x ∈ (listGo F n st out).1, OrdT f e x
  | 0, st, out, _, _, ho, _ => ho
  | n + 1, st, out, h, hf, ho, hb => by
    unfold listGo at hb ⊢
    split
    · rename_i hi
      rw [if_pos hi] at hb
      have k := (Bo.adv st).trans (sF (adv st))
      have hb2 := (bo_listGo sF n (F (adv st)).2 (out ++ [(F (adv st)).1]) trivial).good hb
      have g := Gdo.later hS h (.adv st) (hF (adv st) (h.next (.adv st))) hb2
      exact ord_listGo hS sF hF n _ _ (h.next k) (Int.le_trans hf (h.le hS k)) (app_mem ho (one_mem (g.1.mono hf))) hb
    · exact ho
theorem ord_list (hS : Srt l e) {F : PS → Syn × PS} (sF : Bof F) (hF : OrdF l e d F) (h : At l e d st) (hb : (listP F st).2.bad = 0) : ∀ x ∈ (listP F st).1, OrdT (offS st) e x := by
  unfold listP at hb ⊢
  have hb2 := (bo_listGo sF (fuel (F st).2) (F st).2 [(F st).1] trivial).good hb
  exact ord_listGo hS sF hF _ _ _ (h.next (sF st)) (h.le hS (sF st)) (one_mem (hF st h hb2).1) hb
theorem ord_kind (hS : Srt l e) : OrdF l e d kindP := fun st h => by
  have k : Bo st (expP w_lbrace (tokP 0 (expP w_ttype st))) := ((Bo.exp _ _).trans (.tok _ _)).trans (.exp _ _)
  unfold kindP
  simp only
  split
  · refine node_ord hS h ((k.trans (bo_list bof_field trivial)).trans (.exp _ _)) (fun hb x hx => ?_)
    exact (ord_list hS bof_field (ord_field hS) (h.next k) ((Bo.exp _ _).good hb) x hx).mono (h.le hS k)
  · exact leaf_ord hS h (k.trans (.exp _ _))
theorem ord_const (hS : Srt l e) : OrdF l e d constP := fun st h => by
  unfold constP
  split
  · exact leaf_ord hS h ((Bo.adv _).trans (.tok _ _))
  · split
    · exact leaf_ord hS h (.tok _ _)
    · split
      · exact leaf_ord hS h (.adv _)
      · split
        · exact leaf_ord hS h (.adv _)
        · exact leaf_ord hS h (.tok _ _)
theorem nest_bad (st : PS) : ((nestF st).bad != 0) = true ∨ nestF st = st ∧ st.bad = 0 := by
  cases h : ((nestF st).bad != 0) with
  | true => exact .inl rfl
  | false =>
    refine .inr ?_
    have h0 : (nestF st).bad = 0 := by simpa using h
    unfold nestF at h0 ⊢
    split
    · rename_i hd
      rw [if_pos hd] at h0
      exact absurd (fail_bad (e := 12) (by decide) st) (by rw [h0]; decide)
    · rename_i hd
      rw [if_neg hd] at h0
      exact ⟨rfl, h0⟩
theorem At.deep (h : At l e d st) (hd : d < 64) : At l e (d + 1) (deep st) := ⟨h.1, h.2.1, by
  show IntKind.i64.wrap (st.depth + 1) = d + 1
  have := h.2.2.2
  rw [h.2.2.1]; exact wrap_id (by omega) (by omega), by have := h.2.2.2; omega, by omega⟩
theorem ord_nest (hS : Srt l e) (h : At l e d st) {read : Syn → PS → Syn × PS} {z : Syn} (hr : d < 64 → Gdo l e st (read z (adv (Go.Proofs.YtpgmglacdcfnaaaDoor.deep st)))) : Gdo l e st (nestP read z st) := by
  rw [nestP_eq']
  rcases nest_bad st with hn | ⟨hn, h0⟩
  · rw [if_pos hn]
    exact fun hb => absurd hb (by simpa using hn)
  · rw [hn, if_neg (by rw [h0]; decide)]
    refine hr ?_
    by_cases hd : d < 64
    · exact hd
    · exfalso
      unfold nestF at hn
      rw [if_pos (decide_eq_true (show 64 ≤ st.depth by rw [h.2.2.1]; omega))] at hn
      have := fail_bad (e := 12) (by decide) st
      rw [hn, h0] at this
      exact absurd this (by decide)
theorem ord_unit (hS : Srt l e) {E : PS → Syn × PS} (sE : Bof E) (hE : d < 64 → OrdF l e (d + 1) E) : OrdF l e d (unitP E) := fun st h => by
  unfold unitP
  split
  · refine ord_nest hS h (fun hd => ?_)
    have ha := h.deep hd
    have kd : Bo (deep st) (adv (deep st)) := .adv _
    exact Gdo.then hS ha (kd.trans (sE _)) (.exp _ _) (Gdo.later hS ha kd (hE hd _ (ha.next kd)))
  · split
    · rename_i s hs
      simp only
      have k1 : Bo st (expP w_comma (insP (adv st)).2) := ((Bo.adv _).trans (bo_ins _)).trans (.exp _ _)
      refine node_ord hS h ((k1.trans (bo_const _)).trans (.exp _ _)) (fun hb => one_mem ?_)
      exact (ord_const hS _ (h.next k1) ((Bo.exp _ _).good hb)).1.mono (h.le hS k1)
    · split
      · exact leaf_ord hS h (((Bo.adv _).trans (bo_ins _)).trans (.exp _ _))
      · split
        · exact leaf_ord hS h ((((Bo.adv _).trans (.exp _ _)).trans (.tok _ _)).trans (.exp _ _))
        · split
          · simp only
            split
            · exact leaf_ord hS h (((Bo.tok _ _).trans (.exp _ _)).trans (.adv _))
            · exact leaf_ord hS h (((Bo.tok _ _).trans (.exp _ _)).trans (.tok _ _))
          · exact ord_const hS st h
theorem bin_ord {f : Int} {op : Int} {x y : Syn} {p : Int} (hf : f ≤ p) (hp : p ≤ e) (hx : OrdT p e x) (hy : OrdT p e y) : OrdT f e (binS op x y p) := ordT_iff.2 ⟨hf, hp, fun z hz => by
  rcases List.mem_cons.1 hz with rfl | hz
  · exact hx
  · rw [List.mem_singleton.1 hz]; exact hy⟩
theorem ord_chainGo (hS : Srt l e) {F : PS → Syn × PS} (sF : Bof F) (hF : OrdF l e d F) {sg : List (Str × Int)} {f : Int} : ∀ (n : Nat) (st : PS) (out : Syn), At l e d st → OrdT f e out → out.pos ≤ offS st → (chainGo F sg n st out).2.bad = 0 → OrdT f e (chainGo F sg n st out).1 ∧ (chainGo F sg n st out).1.pos ≤ offS (chainGo F sg n st out).2
  | 0, st, out, h, ho, hp, hb => ⟨ho, hp⟩
  | n + 1, st, out, h, ho, hp, hb => by
    unfold chainGo at hb ⊢
    split
    · rename_i s hs
      rw [hs] at hb
      simp only at hb
      have k := (Bo.adv st).trans (sF (adv st))
      have hb2 := (bo_chainGo sF n (F (adv st)).2 (binS s.2 out (F (adv st)).1 out.pos) trivial).good hb
      have g := Gdo.later hS h (.adv st) (hF (adv st) (h.next (.adv st))) hb2
      exact ord_chainGo hS sF hF n _ _ (h.next k) (bin_ord ho.lo ho.hi ho.self (g.1.mono hp)) (Int.le_trans hp (h.le hS k)) hb
    · exact ⟨ho, hp⟩
theorem ord_chain (hS : Srt l e) {F : PS → Syn × PS} (sF : Bof F) (hF : OrdF l e d F) (sg : List (Str × Int)) : OrdF l e d (chainP F sg) := fun st h hb => by
  unfold chainP at hb ⊢
  have hb2 := (bo_chainGo sF (fuel (F st).2) (F st).2 (F st).1 trivial).good hb
  have g := hF st h hb2
  exact ord_chainGo hS sF hF _ _ _ (h.next (sF st)) g.1 g.2 hb
theorem ord_sum (hS : Srt l e) {E : PS → Syn × PS} (sE : Bof E) (hE : d < 64 → OrdF l e (d + 1) E) : OrdF l e d (sumP E) := ord_chain hS (bof_unit sE) (ord_unit hS sE hE) sumL
theorem ord_cmp (hS : Srt l e) {E : PS → Syn × PS} (sE : Bof E) (hE : d < 64 → OrdF l e (d + 1) E) : OrdF l e d (cmpP E) := fun st h => by
  have hs := ord_sum hS sE hE
  have b1 := bof_sum sE st
  have b2 := (Bo.adv (sumP E st).2).trans (bof_sum sE (adv (sumP E st).2))
  have key : (sumP E (adv (sumP E st).2)).2.bad = 0 → (OrdT (offS st) e (sumP E st).1 ∧ OrdT (sumP E st).1.pos e (sumP E (adv (sumP E st).2)).1) ∧ (sumP E st).1.pos ≤ offS (sumP E (adv (sumP E st).2)).2 := fun hb => by
    have g1 := hs st h (b2.good hb)
    have h2 := h.next b1
    have g2 := Gdo.later hS h2 (.adv _) (hs _ (h2.next (.adv _))) hb
    exact ⟨⟨g1.1, g2.1.mono g1.2⟩, Int.le_trans g1.2 (h2.le hS b2)⟩
  have K : ∀ (op : Int), Gdo l e st (binS op (sumP E st).1 (sumP E (adv (sumP E st).2)).1 (sumP E st).1.pos, (sumP E (adv (sumP E st).2)).2) := fun op hb => by
    obtain ⟨⟨k1, k2⟩, k3⟩ := key hb
    exact ⟨bin_ord k1.lo k1.hi k1.self k2, k3⟩
  have K2 : ∀ (op : Int), Gdo l e st (binS op (sumP E (adv (sumP E st).2)).1 (sumP E st).1 (sumP E st).1.pos, (sumP E (adv (sumP E st).2)).2) := fun op hb => by
    obtain ⟨⟨k1, k2⟩, k3⟩ := key hb
    exact ⟨bin_ord k1.lo k1.hi k2 k1.self, k3⟩
  unfold cmpP
  simp only
  split
  · exact K 7
  · split
    · exact K 8
    · split
      · exact K2 7
      · split
        · exact K2 8
        · split
          · exact K 9
          · split
            · intro hb
              obtain ⟨k1, k2⟩ := K 9 hb
              exact ⟨ordT_iff.2 ⟨k1.lo, k1.hi, one_mem k1.self⟩, k2⟩
            · exact hs st h
theorem ord_not (hS : Srt l e) {E N : PS → Syn × PS} (sE : Bof E) (hE : d < 64 → OrdF l e (d + 1) E) (sN : Bof N) (hN : d < 64 → OrdF l e (d + 1) N) : OrdF l e d (notP E N) := fun st h => by
  unfold notP
  split
  · exact ord_cmp hS sE hE st h
  · refine ord_nest hS h (fun hd => ?_)
    have ha := h.deep hd
    have kd : Bo (deep st) (adv (deep st)) := .adv _
    exact node_ord hS ha (kd.trans (sN _)) (fun hb => one_mem (Gdo.later hS ha kd (hN hd _ (ha.next kd)) hb).1)
theorem ord_or (hS : Srt l e) {E N : PS → Syn × PS} (sE : Bof E) (hE : d < 64 → OrdF l e (d + 1) E) (sN : Bof N) (hN : d < 64 → OrdF l e (d + 1) N) : OrdF l e d (orP E N) :=
  ord_chain hS (bof_chain (bof_not sE sN) andL) (ord_chain hS (bof_not sE sN) (ord_not hS sE hE sN hN) andL) orL
theorem ord_neg (hS : Srt l e) : ∀ (n : Nat) (d : Int), 64 ≤ (n : Int) + d → OrdF l e d (negN n).1 ∧ OrdF l e d (negN n).2
  | 0, d, h => ⟨ord_not hS bof_dull (fun hd => by omega) bof_dull (fun hd => by omega), ord_or hS bof_dull (fun hd => by omega) bof_dull (fun hd => by omega)⟩
  | n + 1, d, h => by
    obtain ⟨i1, i2⟩ := ord_neg hS n (d + 1) (by omega)
    exact ⟨ord_not hS (bof_neg n).2 (fun _ => i2) (bof_neg n).1 (fun _ => i1), ord_or hS (bof_neg n).2 (fun _ => i2) (bof_neg n).1 (fun _ => i1)⟩
theorem ord_EE (hS : Srt l e) (hd : 0 ≤ d) : OrdF l e d EE := (ord_neg hS 64 d (by omega)).2
theorem ord_event (hS : Srt l e) {E : PS → Syn × PS} (sE : Bof E) (hE : OrdF l e d E) : OrdF l e d (eventP E) := fun st h => by
  have k : Bo st (tokP 0 (tokP 0 st)) := (Bo.tok _ _).trans (.tok _ _)
  unfold eventP
  simp only
  split
  · have k2 := k.trans (.adv _)
    exact node_ord hS h (k2.trans (sE _)) (fun hb => one_mem (Gdo.later hS h k2 (hE _ (h.next k2)) hb).1)
  · exact leaf_ord hS h k
/-- What follows the first pattern in parentheses. -/
theorem ord_rest (hS : Srt l e) {E T : PS → Syn × PS} (sE : Bof E) (hE : OrdF l e d E) (sT : Bof T) (hT : OrdF l e d T) {f : Int} (k : Int) (z : Syn) (h : At l e d st) (hf : f ≤ offS st) (hz : ∀ x ∈ z.kids, OrdT f e x) (hb : (restP E T k z st).2.bad = 0) :
    (restP E T k z st).1.pos = z.pos ∧ ∀ x ∈ (restP E T k z st).1.kids, OrdT f e x := by
  have kc : Bo st (expP w_comma st) := .exp _ _
  have hc := h.next kc
  have hfc : f ≤ offS (expP w_comma st) := Int.le_trans hf (h.le hS kc)
  unfold restP at hb ⊢
  split
  · rename_i h1
    rw [if_pos h1] at hb
    unfold sevP at hb ⊢
    refine ⟨rfl, ?_⟩
    have k2 := sT (expP w_comma st)
    have hb2 := (bo_listGo sT (fuel (T (expP w_comma st)).2) (T (expP w_comma st)).2 (z.kids ++ [(T (expP w_comma st)).1]) trivial).good hb
    exact ord_listGo hS sT hT _ _ _ (hc.next k2) (Int.le_trans hfc (hc.le hS k2)) (app_mem hz (one_mem ((hT _ hc hb2).1.mono hfc))) hb
  · rename_i h1
    rw [if_neg h1] at hb
    split
    · exact ⟨rfl, hz⟩
    · rename_i h2
      rw [if_neg h2] at hb
      split
      · rename_i h3
        rw [if_pos h3] at hb
        exact ⟨rfl, app_mem hz (one_mem ((ord_event hS sE hE _ hc hb).1.mono hfc))⟩
      · rename_i h3
        rw [if_neg h3] at hb
        split
        · exact ⟨rfl, hz⟩
        · rename_i h4
          rw [if_neg h4] at hb
          exact ⟨rfl, app_mem hz (one_mem ((hE _ hc hb).1.mono hfc))⟩
theorem ord_pat (hS : Srt l e) {E T : PS → Syn × PS} (sE : Bof E) (hE : ∀ d, 0 ≤ d → OrdF l e d E) (sT : Bof T) (hT : d < 64 → OrdF l e (d + 1) T) : OrdF l e d (patP E T) := fun st h => by
  unfold patP
  split
  · rename_i f hf
    refine ord_nest hS h (fun hd => ?_)
    have ha := h.deep hd
    have h0 := h.2.2.2.1
    have kl : Bo (deep st) (expP w_lpar (adv (deep st))) := (Bo.adv _).trans (.exp _ _)
    have hl := ha.next kl
    have kt := sT (expP w_lpar (adv (deep st)))
    have kr := bo_rest sE sT f.2 (⟨f.2, [], [], 0, [(T (expP w_lpar (adv (deep st)))).1], offS st⟩ : Syn) (st := (T (expP w_lpar (adv (deep st)))).2) trivial
    have ht := hl.next kt
    intro hb
    have hb2 := (Bo.exp w_rpar _).good hb
    have g1 := (Gdo.later hS ha kl (hT hd _ hl) (kr.good hb2)).1
    have g2 := ord_rest (f := offS st) hS sE (hE _ (by omega)) sT (hT hd) f.2 (⟨f.2, [], [], 0, [(T (expP w_lpar (adv (deep st)))).1], offS st⟩ : Syn) ht (show offS (deep st) ≤ _ from ha.le hS (kl.trans kt)) (one_mem g1) hb2
    refine ⟨ordT_iff.2 ⟨Int.le_of_eq g2.1.symm, Int.le_trans (Int.le_of_eq g2.1) (h.top hS), fun x hx => ?_⟩, Int.le_trans (Int.le_of_eq g2.1) (show offS (deep st) ≤ _ from ha.le hS (((kl.trans kt).trans kr).trans (.exp _ _)))⟩
    have := g2.2 x hx
    rw [g2.1]; exact this
  · exact ord_event hS sE (hE d h.2.2.2.1) st h
theorem ord_patN (hS : Srt l e) {E : PS → Syn × PS} (sE : Bof E) (hE : ∀ d, 0 ≤ d → OrdF l e d E) : ∀ (n : Nat) (d : Int), 64 ≤ (n : Int) + d → OrdF l e d (patN E n)
  | 0, d, h => ord_pat hS sE hE bof_dull (fun hd => by omega)
  | n + 1, d, h => ord_pat hS sE hE (bof_patN sE n) (fun _ => ord_patN hS sE hE n (d + 1) (by omega))
theorem ord_TT (hS : Srt l e) (hd : 0 ≤ d) : OrdF l e d TT := ord_patN hS bof_EE (fun d hd => ord_EE hS hd) 64 d (by omega)
theorem ord_query (hS : Srt l e) {E T : PS → Syn × PS} (sE : Bof E) (hE : OrdF l e d E) (sT : Bof T) (hT : OrdF l e d T) : OrdF l e d (queryP E T) := fun st h => by
  have k1 : Bo st (tokP 0 (expP w_tquery st)) := (Bo.exp _ _).trans (.tok _ _)
  have h1 := h.next k1
  have k2 := bo_key (tokP 0 (expP w_tquery st)) (offS st)
  have kk : OrdT (offS st) e (keyP (tokP 0 (expP w_tquery st)) (offS st)).1 := by
    unfold keyP
    split
    · have k3 := k1.trans (.adv _)
      exact ordT_iff.2 ⟨h.le hS k3, (h.next k3).top hS, fun x hx => (List.not_mem_nil hx).elim⟩
    · exact ordT_iff.2 ⟨Int.le_refl _, h.top hS, fun x hx => (List.not_mem_nil hx).elim⟩
  have k4 : Bo st (expP w_tmatch (keyP (tokP 0 (expP w_tquery st)) (offS st)).2) := (k1.trans k2).trans (.exp _ _)
  have k5 := sT (expP w_tmatch (keyP (tokP 0 (expP w_tquery st)) (offS st)).2)
  have k6 := (k4.trans k5).trans (.exp w_treturn _)
  have k7 : Bo _ (listP E (expP w_treturn (T (expP w_tmatch (keyP (tokP 0 (expP w_tquery st)) (offS st)).2)).2)).2 := bo_list sE trivial
  have h4 := h.next k4
  have h6 := h.next k6
  unfold queryP
  simp only
  refine node_ord hS h ((k6.trans k7).trans (.exp _ _)) (fun hb => ?_)
  have hb2 := (Bo.exp w_semi _).good hb
  refine app_mem (fun x hx => ?_) (fun x hx => (ord_list hS sE hE h6 hb2 x hx).mono (h.le hS k6))
  rcases List.mem_cons.1 hx with rfl | hx
  · exact kk
  · rw [List.mem_singleton.1 hx]
    exact (Gdo.later hS h k4 (hT _ h4) (((Bo.exp w_treturn _).trans k7).good hb2)).1
theorem ord_progGo (hS : Srt l e) {w : Str} {F : PS → Syn × PS} (sF : Bof F) (hF : OrdF l e d F) {f : Int} : ∀ (n : Nat) (st : PS) (out : List Syn), At l e d st → f ≤ offS st → (∀ x ∈ out, OrdT f e x) → (progGo w F n st out).2.bad = 0 → ∀ x ∈ (progGo w F n st out).1, OrdT f e x
  | 0, st, out, _, _, ho, _ => ho
  | n + 1, st, out, h, hf, ho, hb => by
    unfold progGo at hb ⊢
    split
    · rename_i hi
      rw [if_pos hi] at hb
      have k := sF st
      have hb2 := (bo_progGo (w := w) sF n (F st).2 (out ++ [(F st).1])).good hb
      exact ord_progGo hS sF hF n _ _ (h.next k) (Int.le_trans hf (h.le hS k)) (app_mem ho (one_mem ((hF st h hb2).1.mono hf))) hb
    · exact ho
theorem ord_prog (hS : Srt l e) (h0 : 0 ≤ e) (h : At l e d st) (hf : 0 ≤ offS st) (hb : (progP EE TT st).2.bad = 0) : OrdT 0 e (progP EE TT st).1 := by
  unfold progP at hb ⊢
  simp only at hb ⊢
  have hd := h.2.2.2.1
  have k1 : Bo st (progGo w_ttype kindP (fuel st) st []).2 := bo_progGo bof_kind _ _ _
  have sq := bof_query bof_EE bof_TT
  have hb2 := (bo_progGo (w := w_tquery) sq (fuel (progGo w_ttype kindP (fuel st) st []).2) (progGo w_ttype kindP (fuel st) st []).2 (progGo w_ttype kindP (fuel st) st []).1).good hb
  have g1 := ord_progGo (w := w_ttype) (f := 0) hS bof_kind (ord_kind hS) (fuel st) st [] h hf (fun x hx => (List.not_mem_nil hx).elim) hb2
  have g2 := ord_progGo (w := w_tquery) (f := 0) hS sq (ord_query hS bof_EE (ord_EE hS hd) bof_TT (ord_TT hS hd)) _ _ _ (h.next k1) (Int.le_trans hf (h.le hS k1)) g1 hb
  exact ordT_iff.2 ⟨Int.le_refl _, h0, g2⟩

/-! Whole texts. -/
theorem asc_lt : ∀ (l : List Tok) (x : Int), Asc x l → ∀ n, n < l.length → x < (l.getD n tokZ).pos
  | [], _, _, n, h => absurd h (Nat.not_lt_zero _)
  | t :: r, x, h, 0, _ => h.1
  | t :: r, x, h, n + 1, hn => Int.lt_trans h.1 (asc_lt r t.pos h.2 n (by simpa using hn))
theorem asc_mono : ∀ (l : List Tok) (x : Int), Asc x l → ∀ n m, n ≤ m → m < l.length → (l.getD n tokZ).pos ≤ (l.getD m tokZ).pos
  | [], _, _, n, m, _, h => absurd h (Nat.not_lt_zero _)
  | t :: r, x, h, 0, 0, _, _ => Int.le_refl _
  | t :: r, x, h, 0, m + 1, _, hm => Int.le_of_lt (asc_lt r t.pos h.2 m (by simpa using hm))
  | t :: r, x, h, n + 1, m + 1, hn, hm => asc_mono r t.pos h.2 n m (by omega) (by simpa using hm)
theorem asc_srt {l : List Tok} {x e : Int} (h : Asc x l) (hx : ∀ t ∈ l, t.pos ≤ e) : Srt l e := by
  have top : ∀ m, offAt l e m ≤ e := fun m => by
    unfold offAt
    split
    · rename_i hm
      have hm := of_decide_eq_true hm
      have h2 : m < l.length := by omega
      have e1 : l.getD m tokZ = l[m] := by simp [List.getD_eq_getElem?_getD, List.getElem?_eq_getElem h2]
      rw [e1]; exact hx _ (List.getElem_mem h2)
    · exact Int.le_refl _
  intro n m hnm
  refine ⟨?_, top m⟩
  by_cases hm : m < l.length
  · unfold offAt
    rw [if_pos (decide_eq_true (by omega)), if_pos (decide_eq_true (by omega))]
    exact asc_mono l x h n m hnm hm
  · have : offAt l e m = e := by unfold offAt; rw [if_neg (by simp only [decide_eq_true_eq]; omega)]
    rw [this]; exact top n
theorem scan_srt {s : Str} (h : (scanS s).2.2 = 0) : Srt (scanS s).1 s.length ∧ ∀ t ∈ (scanS s).1, 0 ≤ t.pos ∧ t.pos ≤ (s.length : Int) := by
  have hs := (scan_sc h).2.stands (-1) (by decide)
  have hp : ∀ t ∈ (scanS s).1, 0 ≤ t.pos ∧ t.pos ≤ (s.length : Int) := fun t ht => ⟨(hs.2 t ht).1, Int.le_of_lt (hs.2 t ht).2.1⟩
  exact ⟨asc_srt hs.1 fun t ht => (hp t ht).2, hp⟩
theorem begin_wn {s : Str} (h : (scanS s).2.2 = 0) : Wn (beginS (scanS s).1 s.length) := ⟨(scan_srt h).2, Int.natCast_nonneg _, Int.le_refl _, Int.natCast_nonneg _⟩
/-- Offsets of errors of the lexer. -/
theorem scanGo_off (s : Str) : ∀ (n i : Nat) (out : List Tok), i ≤ s.length → 0 ≤ (scanGo s n i out).2.1 ∧ (scanGo s n i out).2.1 ≤ (s.length : Int)
  | 0, i, out, _ => ⟨Int.le_refl _, Int.natCast_nonneg _⟩
  | n + 1, i, out, hi => by
    rw [scanGo_succ]
    split
    · rename_i h1
      have h1 := of_decide_eq_true h1
      have hi2 : i < s.length := by omega
      have hs := sep_le (s.drop i)
      have hn := next_le (s.drop i) (by rw [List.length_drop]; omega)
      rw [List.length_drop] at hs hn
      have hs2 := hs.2 (by omega)
      split
      · exact scanGo_off s n _ out (by omega)
      · split
        · exact ⟨by have := hn.1; have := hn.2.1; have := hn.2.2.1; have := hn.2.2.2.1; simp only; omega, by have := hn.1; have := hn.2.1; have := hn.2.2.1; have := hn.2.2.2.1; simp only; omega⟩
        · exact scanGo_off s n _ _ (by have := hn.1; have := hn.2.1; have := hn.2.2.1; have := hn.2.2.2.1; omega)
    · exact ⟨Int.le_refl _, Int.natCast_nonneg _⟩
theorem scan_off (s : Str) : 0 ≤ (scanS s).2.1 ∧ (scanS s).2.1 ≤ (s.length : Int) := by
  unfold scanS
  split
  · exact ⟨Int.le_refl _, Int.natCast_nonneg _⟩
  · exact scanGo_off s _ _ _ (Nat.zero_le _)
/-- The offset of an error lies in the text. -/
theorem parse_off {F : PS → Syn × PS} (sF : Bof F) (s : Str) : 0 ≤ (parseP F s).2.1 ∧ (parseP F s).2.1 ≤ (s.length : Int) := by
  unfold parseP
  split
  · exact scan_off s
  · rename_i h
    have h0 : (scanS s).2.2 = 0 := by simpa using h
    have k := sF (beginS (scanS s).1 s.length)
    have w := k.wn (begin_wn h0)
    have w2 := (Bo.fail 4 (F (beginS (scanS s).1 s.length)).2).wn w
    have ef : (F (beginS (scanS s).1 s.length)).2.fin = (s.length : Int) := k.fin
    have ef2 : (failP 4 (F (beginS (scanS s).1 s.length)).2).fin = (s.length : Int) := (Bo.fail 4 _).fin.trans ef
    unfold doneP
    simp only
    split
    · split
      · exact ⟨w2.2.2.1, by have := w2.2.2.2; rw [ef2] at this; exact this⟩
      · exact ⟨Int.le_refl _, Int.natCast_nonneg _⟩
    · split
      · exact ⟨w.2.2.1, by have := w.2.2.2; rw [ef] at this; exact this⟩
      · exact ⟨Int.le_refl _, Int.natCast_nonneg _⟩
/-- What a text that is read gives. -/
theorem parse_good {F : PS → Syn × PS} {s : Str} (h : (parseP F s).2.2 = 0) : (scanS s).2.2 = 0 ∧ (F (beginS (scanS s).1 s.length)).2.bad = 0 ∧ (F (beginS (scanS s).1 s.length)).2.toks.length ≤ (F (beginS (scanS s).1 s.length)).2.pos ∧ parseP F s = ((F (beginS (scanS s).1 s.length)).1, 0, 0) := by
  unfold parseP at h ⊢
  by_cases h1 : ((scanS s).2.2 != 0) = true
  · rw [if_pos h1] at h
    exact absurd h (by simpa using h1)
  · rw [if_neg h1] at h ⊢
    refine ⟨by simpa using h1, ?_⟩
    generalize F (beginS (scanS s).1 s.length) = r at h ⊢
    unfold doneP at h ⊢
    simp only at h ⊢
    by_cases h2 : decide ((r.2.pos : Int) < (r.2.toks.length : Int)) = true
    · rw [if_pos h2, fail_bad (by decide), if_pos rfl] at h
      exact absurd h (by have := fail_bad (e := 4) (by decide) r.2; simpa using this)
    · rw [if_neg h2] at h ⊢
      by_cases h3 : (r.2.bad != 0) = true
      · rw [if_pos h3] at h
        exact absurd h (by simpa using h3)
      · rw [if_neg h3]
        refine ⟨by simpa using h3, ?_, rfl⟩
        simp only [decide_eq_true_eq] at h2
        omega
theorem orders {s : Str} (h : (parseP (progP EE TT) s).2.2 = 0) : ordS (parseP (progP EE TT) s).1 0 s.length = true := by
  obtain ⟨h1, h2, _, h4⟩ := parse_good h
  rw [h4]
  have w := begin_wn h1
  exact ord_prog (d := 0) (scan_srt h1).1 (Int.natCast_nonneg _) ⟨rfl, rfl, rfl, by decide, by decide⟩ w.off.1 h2
end Go.Proofs.YtpgmglacdcfnaaaDoor
