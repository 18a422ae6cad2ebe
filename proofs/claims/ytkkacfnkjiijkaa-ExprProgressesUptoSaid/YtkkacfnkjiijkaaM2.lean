/-
  Plain laws of layer 7: the reference's way to fold values is the program's. No condition.
-/
import Derived.Test.YtkkacfnkjiijkaaM
import Derived.IntWalk
namespace Go.Proofs.Ytkkacfnkjiijkaa
open Go Go.Aw
set_option linter.unusedVariables false
set_option linter.unusedSimpArgs false

def rwrongS (k : Int) (v : Vl) : Int := if vcheckS v != 0 then vcheckS v else if !rsuitsS k v then 9 else 0
theorem rwrong_eq (k : Int) (v : Vl) (h : knownS k = true) : rwrongS k v = wrongS k v := by
  unfold rwrongS wrongS; rw [suits_eq k v h]

theorem acheck_known {a : Ac} (h : acheckS a = 0) : knownS a.kind = true := by
  unfold acheckS at h
  cases hk : knownS a.kind with
  | true => rfl
  | false => simp [hk] at h

def rresultS (a : Ac) (o : Vl) : Vl × Int :=
  if acheckS a != 0 then (v0, acheckS a)
  else if rwrongS a.kind o != 0 then (v0, rwrongS a.kind o)
  else if a.kind == 0 then (⟨0, a.count, []⟩, 0)
  else if a.count == 0 && a.kind != 1 then (o, 0)
  else (a.val, 0)
theorem rresult_eq (a : Ac) (o : Vl) : rresultS a o = resultS a o := by
  unfold rresultS resultS
  by_cases h : acheckS a = 0
  · rw [rwrong_eq _ _ (acheck_known h)]
  · simp [h]

def addS (a : Ac) (v : Vl) : Ac × Int :=
  if acheckS a != 0 then (ac0, acheckS a)
  else if rwrongS a.kind v != 0 then (ac0, rwrongS a.kind v)
  else if a.count == 4096 then (ac0, 5)
  else if a.kind == 0 then (⟨a.kind, IntKind.i64.wrap (a.count + 1), v0⟩, 0)
  else if decide (0 < a.count) then (⟨a.kind, IntKind.i64.wrap (a.count + 1), combS a.kind a.val v⟩, 0)
  else (⟨a.kind, IntKind.i64.wrap (a.count + 1), v⟩, 0)

theorem vcheck_bound {v : Vl} (h : vcheckS v = 0) (hk : v.kind = 0) : v.text = [] ∧ -1099511627776 ≤ v.num ∧ v.num ≤ 1099511627776 := by
  unfold vcheckS vsizeS at h
  by_cases ht : v.text = []
  · simp [hk, ht] at h
    exact ⟨ht, by omega⟩
  · simp [hk, ht] at h

theorem ac_count {a : Ac} (h : acheckS a = 0) : 0 ≤ a.count ∧ a.count ≤ 4096 := by
  have hk := acheck_known h
  unfold acheckS at h
  simp only [hk, Bool.not_true, Bool.false_eq_true, if_false] at h
  by_cases hc : (decide (a.count < 0) || decide (4096 < a.count)) = true
  · rw [if_pos hc] at h; cases h
  · simp at hc; omega

theorem step_ok {k : Int} {a : Ac} {v : Vl} (h : acheckS a = 0) (hk : a.kind = k) (hv : wrongS k v = 0) (hc : a.count < 4096) :
    acheckS (stepS k a v) = 0 ∧ (stepS k a v).kind = k ∧ (stepS k a v).count = a.count + 1 ∧ addS a v = (stepS k a v, 0) := by
  have hkn := acheck_known h
  have hcc := ac_count h
  have hw : IntKind.i64.wrap (a.count + 1) = a.count + 1 := IntWalk.i64_in _ (by omega)
  have hadd : addS a v = if a.kind == 0 then (⟨a.kind, a.count + 1, v0⟩, 0) else if decide (0 < a.count) then (⟨a.kind, a.count + 1, combS a.kind a.val v⟩, 0) else (⟨a.kind, a.count + 1, v⟩, 0) := by
    unfold addS
    rw [hw, rwrong_eq _ _ hkn, h, hk, hv]
    have : (a.count == 4096) = false := by simp; omega
    simp [this]
  have hvc : vcheckS v = 0 := by
    unfold wrongS at hv
    by_cases e : vcheckS v = 0
    · exact e
    · simp [e] at hv
  have hvs : asuitsS k v = true := by
    unfold wrongS at hv
    simp [hvc] at hv; exact hv
  rw [hadd]
  obtain ⟨ak, ac, av⟩ := a
  simp only at hk hkn hc hcc h hw ⊢
  subst hk
  have h2 := h
  unfold acheckS at h2
  simp only [hkn, Bool.not_true, Bool.false_eq_true, if_false] at h2
  have hn1 : (decide (ac < 0) || decide (4096 < ac)) = false := by simp; omega
  simp only [hn1, Bool.false_eq_true, if_false] at h2
  simp only [knownS, Bool.and_eq_true, decide_eq_true_eq] at hkn
  have hn2 : (decide (ac + 1 < 0) || decide (4096 < ac + 1)) = false := by simp; omega
  have hk01 : ak = 0 ∨ ak = 1 ∨ ak = 2 ∨ ak = 3 ∨ ak = 4 ∨ ak = 5 := by omega
  by_cases h0 : ac = 0
  · subst h0
    have hvi : ak = 1 → v.kind = 0 := by
      intro e; subst e; simpa [asuitsS] using hvs
    rcases hk01 with rfl | rfl | rfl | rfl | rfl | rfl
    · refine ⟨by rfl, rfl, rfl, rfl⟩
    · have hb := vcheck_bound hvc (hvi rfl)
      refine ⟨?_, rfl, rfl, rfl⟩
      simp [stepS, mergedS, singleS, acheckS, knownS, hvi rfl, hb.1, hb.2]
    all_goals
      refine ⟨?_, rfl, rfl, rfl⟩
      simp [stepS, mergedS, singleS, acheckS, knownS, hvc, hvs]
  · have hpos : 0 < ac := by omega
    have e0 : (ac == 0) = false := by simp [h0]
    have hst : stepS ak ⟨ak, ac, av⟩ v = ⟨ak, ac + 1, combS ak av (singleS ak v)⟩ := by
      simp [stepS, mergedS, h0, hw]
    rw [hst]
    refine ⟨?_, rfl, rfl, ?_⟩
    · unfold acheckS
      have hkk : knownS ak = true := by simp [knownS]; omega
      have e1 : (ac + 1 == 0) = false := by simp; omega
      simp only [hkk, Bool.not_true, hn2, Bool.false_eq_true, if_false, e1, Bool.false_or]
      simp only [e0, Bool.false_or] at h2
      rcases hk01 with rfl | rfl | rfl | rfl | rfl | rfl
      · rfl
      · have hvi : v.kind = 0 := by simpa [asuitsS] using hvs
        have hb := vcheck_bound hvc hvi
        simp at h2
        have : IntKind.i64.wrap (av.num + v.num) = av.num + v.num := IntWalk.i64_in _ (by omega)
        simp [combS, singleS, this]
        omega
      · have hvi : v.kind = 0 := by simpa [asuitsS] using hvs
        have hb := vcheck_bound hvc hvi
        simp at h2
        have hai : av.kind = 0 := by simpa [asuitsS] using h2.2
        have hba := vcheck_bound h2.1 hai
        have hm : -1099511627776 ≤ min av.num v.num ∧ min av.num v.num ≤ 1099511627776 := by omega
        simp [combS, singleS, vcheckS, vsizeS, asuitsS]
        omega
      · have hvi : v.kind = 0 := by simpa [asuitsS] using hvs
        have hb := vcheck_bound hvc hvi
        simp at h2
        have hai : av.kind = 0 := by simpa [asuitsS] using h2.2
        have hba := vcheck_bound h2.1 hai
        have hm : -1099511627776 ≤ max av.num v.num ∧ max av.num v.num ≤ 1099511627776 := by omega
        simp [combS, singleS, vcheckS, vsizeS, asuitsS]
        omega
      · simpa [combS] using h2
      · simp [combS, singleS, hvc, hvs]
    · have hd : decide (0 < ac) = true := by simp [hpos]
      rcases hk01 with rfl | rfl | rfl | rfl | rfl | rfl <;> simp [hd, combS, singleS]

theorem fold_ok {k : Int} : ∀ (l : List Vl) (a : Ac), acheckS a = 0 → a.kind = k → firstS (wrongS k) l = 0 → a.count + l.length ≤ 4096 → acheckS (l.foldl (stepS k) a) = 0
  | [], a, h, _, _, _ => h
  | v :: r, a, h, hk, hf, hc => by
    simp only [firstS] at hf
    simp only [List.length_cons, Int.natCast_add, Int.cast_ofNat_Int] at hc
    by_cases hv : wrongS k v = 0
    · rw [if_neg (by simp [hv])] at hf
      obtain ⟨h1, h2, h3, _⟩ := step_ok h hk hv (by omega)
      exact fold_ok r _ h1 h2 hf (by rw [h3]; omega)
    · rw [if_pos (by simp [hv])] at hf; exact absurd hf hv

end Go.Proofs.Ytkkacfnkjiijkaa
