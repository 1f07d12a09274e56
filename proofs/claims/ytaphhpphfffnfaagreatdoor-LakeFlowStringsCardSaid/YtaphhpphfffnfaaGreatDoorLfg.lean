/- Contracts: digits compared, added, subtracted. No condition. -/
import Derived.Test.YtaphhpphfffnfaaGreatDoorLff
set_option linter.unusedSimpArgs false
namespace Go.DI
open Go.Proofs Go.RowKit

end Go.DI

