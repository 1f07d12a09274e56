/- The statement WaveStates, as a contract. No condition. -/
import Derived.Test.YtadmimjaelodkaaWgj
import Derived.Test.YtadmimjaelodkaaSmg
set_option linter.unusedSimpArgs false
set_option maxRecDepth 100000
namespace Go.DI
open Go.Proofs Go.RowKit

/-- The admittance of each cell. -/
def admL : List Pp → List Int
 | [] => []
 | p :: r => List.replicate p.1.toNat p.2 ++ admL r
end Go.DI

