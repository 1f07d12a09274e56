/- Contracts: the greatest common divisor of wide numbers; ratios. No condition. -/
import Derived.Test.YtaphhpphfffnfaaGreatDoorLfj
set_option linter.unusedSimpArgs false
namespace Go.DI
open Go.Proofs Go.RowKit

/-- Have its parts few digits? -/
def Fw (k : Nat) (q : Rat) : Prop := q.num.natAbs < 1000000000 ^ k ∧ q.den < 1000000000 ^ k

theorem Fw.num {k : Nat} {q : Rat} (h : Fw k q) (hk : k ≤ 100000) : Few q.num := few_of k hk h.1
theorem Fw.den {k : Nat} {q : Rat} (h : Fw k q) (hk : k ≤ 100000) : Few (q.den : Int) := few_of k hk h.2
theorem Fw.le {k m : Nat} {q : Rat} (h : Fw k q) (hk : k ≤ m) : Fw m q := by
  have := Nat.pow_le_pow_right (show 1000000000 > 0 by omega) hk
  exact ⟨Nat.lt_of_lt_of_le h.1 this, Nat.lt_of_lt_of_le h.2 this⟩

end Go.DI

