/- Contracts: the reference's tables of lakes. No condition. -/
import Derived.Test.YtaphhpphfffnfaaGreatDoorLfw
import Derived.Test.YtaphhpphfffnfaaGreatDoorLfx
import Derived.Test.YtaphhpphfffnfaaGreatDoorLfy
set_option linter.unusedSimpArgs false
namespace Go.DI
open Go.Proofs Go.RowKit Lk

end Go.DI

