/- The reference's functions of bounds and waits, as data. No condition. -/
import Derived.Test.YtaphhpphfffnfaaGreatDoorTwo
namespace Go.DI
open Go.Proofs Go.RowKit
end Go.DI

