/- Contracts: making wide numbers. No condition. -/
import Derived.Test.YtaphhpphfffnfaaGreatDoorLfe
set_option linter.unusedSimpArgs false
namespace Go.DI
open Go.Proofs Go.RowKit

end Go.DI

