/- Fractions: order, rounding; plain arithmetic, no program in sight. -/
import Derived.Test.YtaphhpphfffnfaaGreatDoorLfl
import Derived.Test.YtaphhpphfffnfaaGreatDoorLfr
namespace Go.DI
open Lk

end Go.DI

