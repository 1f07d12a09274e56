/- Contracts: wide numbers multiplied. No condition. -/
import Derived.Test.YtaphhpphfffnfaaGreatDoorLfh
set_option linter.unusedSimpArgs false
namespace Go.DI
open Go.Proofs Go.RowKit

theorem WF.set {l : List Int} (h : WF l) {j : Nat} {x : Int} (h1 : 0 ≤ x) (h2 : x < 1000000000) : WF (l.set j x) := by
  intro d hd
  rcases List.mem_or_eq_of_mem_set hd with k | k
  · exact h d k
  · subst k; exact ⟨h1, h2⟩

end Go.DI

