/- Contracts: wide numbers added, subtracted, compared, multiplied. No condition. -/
import Derived.Test.YtaphhpphfffnfaaGreatDoorLfg
set_option linter.unusedSimpArgs false
namespace Go.DI
open Go.Proofs Go.RowKit

/-- Has it few digits? -/
def Few (z : Int) : Prop := (digs z.natAbs).length ≤ 100000

theorem few_of {z : Int} (k : Nat) (hk : k ≤ 100000) (h : z.natAbs < 1000000000 ^ k) : Few z := Nat.le_trans (digs_length_le k _ h) hk

end Go.DI

