/- Contracts: wide numbers divided. No condition. -/
import Derived.Test.YtaphhpphfffnfaaGreatDoorLfi
set_option linter.unusedSimpArgs false
namespace Go.DI
open Go.Proofs Go.RowKit

end Go.DI

