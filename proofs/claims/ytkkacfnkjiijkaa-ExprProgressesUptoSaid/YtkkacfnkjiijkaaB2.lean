/-
  How more arguments of this seat read: lists of integers. No condition.
-/
import Derived.Test.YtkkacfnkjiijkaaB
import Derived.Test.YtkkacfnkjiijkaaW18
namespace Go.Proofs.Ytkkacfnkjiijkaa
open Go Go.Aw
set_option linter.unusedVariables false
set_option linter.unusedSimpArgs false
set_option maxRecDepth 20000

theorem sum_ones {α : Type} (l : List α) : (l.map fun _ => 1).sum = l.length := by
  induction l with
  | nil => rfl
  | cons a r ih => simp only [List.map_cons, List.sum_cons, List.length_cons, ih]; omega

theorem rTo {H : Type} {enc : TypeId × Value → H} {w : World} {sp : Nat → Bool} {hd : Bool} (fuel : Nat) : R enc w sp hd fuel 55 (fun l : List Int => [.sl 1 (cTo l)]) (fun _ => True) (fun l => l.length + 1) :=
  (Rd.slice' (z := 1) Try.underlying55 (by kernel_rfl) (by decide) bulk fun k _ => rI k).congr rfl (fun _ _ => trivial) (fun l => by rw [sum_ones]; exact Nat.le_refl _)

theorem rU8 {H : Type} {enc : TypeId × Value → H} {w : World} {sp : Nat → Bool} {hd : Bool} (fuel : Nat) : R enc w sp hd fuel 5 (fun n : Int => [.int .u8 n]) (fun n => (Lit.int .u8 n).wf = true) (fun _ => 1) := Rd.int Try.underlying5 bulk

end Go.Proofs.Ytkkacfnkjiijkaa
