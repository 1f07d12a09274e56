/- Contracts: all laws of a length, and the fastest law, in the reference. No condition. -/
import Derived.Test.YtadmimjaelodkaaWil
set_option linter.unusedSimpArgs false
set_option maxRecDepth 100000
set_option maxHeartbeats 1000000
namespace Go.DI
open Go.Proofs Go.RowKit

end Go.DI

