/- Fractions: order, rounding; plain arithmetic, no program in sight. -/
import Derived.Test.YtaphhpphfffnfaaGreatDoorLfl
import Derived.Test.YtaphhpphfffnfaaGreatDoorLtr
namespace Go.DI
open Lk

end Go.DI

