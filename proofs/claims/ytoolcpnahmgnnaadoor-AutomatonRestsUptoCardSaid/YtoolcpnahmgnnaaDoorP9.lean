/-
  The examples of the chapter, reckoned. No program in sight. No condition.
-/
import Derived.Test.YtoolcpnahmgnnaaDoorP8
import Derived.KernelRfl
namespace Go.Proofs.YtoolcpnahmgnnaaDoor
open Go Go.Aw
set_option linter.unusedVariables false
set_option linter.unusedSimpArgs false

def truthE : Ex := ⟨0, [], 0, 0, 0, flagS true⟩
def edA : Ed := ⟨0, 1, 0, 0, truthE, [], [], [], [], []⟩
def edB : Ed := ⟨1, -1, 1, 0, truthE, [], [], [], [], []⟩
def edC : Ed := ⟨0, 2, 2, 0, truthE, [], [], [], [], []⟩
def edT : Ed := ⟨0, 1, 0, 0, truthE, [0, 0], [], [], [], []⟩
def edY : Ed := ⟨0, 1, 0, 0, truthE, [1], [], [], [], []⟩
def exA (n : Nat) (more : List Ed) : Au := ⟨3, 1, List.replicate n [], edA :: (more ++ [edB])⟩
def textA : Str := [115, 116, 97, 116, 101, 32, 48, 10, 101, 100, 103, 101, 32, 48, 32, 48, 32, 116, 111, 32, 49, 10, 115, 116, 97, 116, 101, 32, 49, 10, 101, 100, 103, 101, 32, 49, 32, 48, 32, 116, 111, 32, 45, 49, 10]
theorem check_a : checkA (exA 2 []) = 0 := by kernel_rfl
theorem check_t : checkA (exA 2 [edT]) = 7 := by kernel_rfl
theorem check_y : checkA (exA 2 [edY]) = 2 := by kernel_rfl
theorem reach_b : reachableS (exA 3 [edC]) = ([0, 1, 2], 0) := by kernel_rfl
theorem useful_b : usefulS (exA 3 [edC]) = ([0, 1], 0) := by kernel_rfl
theorem trim_b : trimS (exA 3 [edC]) = (exA 2 [], 0) := by kernel_rfl
theorem iso_a : isoS (exA 2 []) (exA 2 []) = ([0, 1], true, 0) := by kernel_rfl
theorem dig1 {n : Int} (h : 0 ≤ n) (k : n < 10) : Lib.itoa n = [UInt8.ofNat (48 + n.toNat)] := by
  rw [show Lib.itoa n = Lib.decDigits n.toNat from if_neg (by omega), Lib.decDigits, dif_pos (by omega)]
theorem dig0 : Lib.itoa 0 = [48] := dig1 (by decide) (by decide)
theorem digOne : Lib.itoa 1 = [49] := dig1 (by decide) (by decide)
theorem digNeg : Lib.itoa (-1) = [45, 49] := by
  rw [show Lib.itoa (-1) = 45 :: Lib.decDigits (-1 : Int).natAbs from if_pos (by decide), Lib.decDigits, dif_pos (by decide)]; rfl
theorem format_a : formatS (exA 2 []) = (textA, 0) := by
  rw [format_ok (by rw [check_a]; rfl)]
  congr 1
  have h1 : stateT 0 [] = [115, 116, 97, 116, 101, 32, 48, 10] := by
    rw [stateT_eq]; show (sState ++ 32 :: Lib.itoa 0) ++ [] ++ [10] = _; rw [dig0]; rfl
  have h2 : stateT 1 [] = [115, 116, 97, 116, 101, 32, 49, 10] := by
    rw [stateT_eq]; show (sState ++ 32 :: Lib.itoa 1) ++ [] ++ [10] = _; rw [digOne]; rfl
  have h3 : edgeT edA = [101, 100, 103, 101, 32, 48, 32, 48, 32, 116, 111, 32, 49, 10] := by
    rw [edgeT_eq]; show (sEdge ++ ((32 :: Lib.itoa 0) ++ ((32 :: Lib.itoa 0) ++ [])) ++ (32 :: sTo) ++ ((32 :: Lib.itoa 1) ++ [])) ++ ([] ++ [] ++ [] ++ []) ++ [] ++ [10] = _; rw [dig0, digOne]; rfl
  have h4 : edgeT edB = [101, 100, 103, 101, 32, 49, 32, 48, 32, 116, 111, 32, 45, 49, 10] := by
    rw [edgeT_eq]; show (sEdge ++ ((32 :: Lib.itoa 1) ++ ((32 :: Lib.itoa 0) ++ [])) ++ (32 :: sTo) ++ ((32 :: Lib.itoa (-1)) ++ [])) ++ ([] ++ [] ++ [] ++ []) ++ [] ++ [10] = _; rw [dig0, digOne, digNeg]; rfl
  show (stateT 0 [] ++ (edgeT edA ++ [])) ++ ((stateT 1 [] ++ (edgeT edB ++ [])) ++ []) = _
  rw [h1, h2, h3, h4]; rfl
theorem sizeN_truth : sizeN truthE = 1 := by kernel_rfl
theorem sm_ed {x : Ed} (hc : x.cond = truthE) (h1 : x.checks = []) (h2 : x.closes = []) (h3 : x.inside = []) (h4 : x.limits = []) (h5 : x.opens.length ≤ 2) : EdSm x :=
  ⟨by rw [hc, sizeN_truth]; decide, by rw [h1]; simp, by omega, by rw [h2]; simp, by rw [h3]; simp, by rw [h4]; simp, by rw [h1]; simp⟩
theorem sm_ex {n : Nat} (hn : n ≤ 3) {more : List Ed} (hl : more.length ≤ 1) (h : ∀ x ∈ more, EdSm x) : Sm (exA n more) := by
  refine ⟨by unfold exA; rw [List.length_replicate]; omega, by unfold exA; simp; omega, fun s hs => ?_, fun x hx => ?_⟩
  · have : s = [] := List.eq_of_mem_replicate hs
    subst this; exact ⟨by simp, by simp⟩
  · unfold exA at hx
    simp only [List.mem_cons, List.mem_append, List.not_mem_nil, or_false] at hx
    rcases hx with rfl | hx | rfl
    · exact sm_ed rfl rfl rfl rfl rfl (by decide)
    · exact h x hx
    · exact sm_ed rfl rfl rfl rfl rfl (by decide)
theorem sm_a : Sm (exA 2 []) := sm_ex (by decide) (by decide) (by simp)
theorem sm_b : Sm (exA 3 [edC]) := sm_ex (by decide) (by decide) (by intro x hx; rw [List.mem_singleton.1 hx]; exact sm_ed rfl rfl rfl rfl rfl (by decide))
theorem sm_t : Sm (exA 2 [edT]) := sm_ex (by decide) (by decide) (by intro x hx; rw [List.mem_singleton.1 hx]; exact sm_ed rfl rfl rfl rfl rfl (by decide))
theorem sm_y : Sm (exA 2 [edY]) := sm_ex (by decide) (by decide) (by intro x hx; rw [List.mem_singleton.1 hx]; exact sm_ed rfl rfl rfl rfl rfl (by decide))
theorem im_a : Im (exA 2 []) := by
  refine ⟨fun x hx => ?_, fun s hs g hg => ?_⟩
  · unfold exA at hx
    simp only [List.mem_cons, List.mem_append, List.not_mem_nil, or_false, false_or] at hx
    rcases hx with rfl | rfl
    · exact ⟨⟨by decide, by decide⟩, ⟨by decide, by decide⟩, ⟨by decide, by decide⟩, (fun v hv => by cases hv), (fun v hv => by cases hv), (fun v hv => by cases hv), (fun v hv => by cases hv)⟩
    · exact ⟨⟨by decide, by decide⟩, ⟨by decide, by decide⟩, ⟨by decide, by decide⟩, (fun v hv => by cases hv), (fun v hv => by cases hv), (fun v hv => by cases hv), (fun v hv => by cases hv)⟩
  · have : s = [] := List.eq_of_mem_replicate hs
    subst this; cases hg
end Go.Proofs.YtoolcpnahmgnnaaDoor
