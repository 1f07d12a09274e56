/- The functions of pressures, flows and energies, as data. No condition. -/
import Derived.Test.YtadmimjaelodkaaSmGe
import Derived.Test.YtadmimjaelodkaaProg
import Derived.KernelRfl
namespace Go.DI
open Go.Proofs Go.RowKit
end Go.DI

