/- The statement WaveTicks, as a contract; states and ticks in the reference. No condition. -/
import Derived.Test.YtadmimjaelodkaaWkf
set_option linter.unusedSimpArgs false
set_option maxRecDepth 100000
namespace Go.DI
open Go.Proofs Go.RowKit

end Go.DI

