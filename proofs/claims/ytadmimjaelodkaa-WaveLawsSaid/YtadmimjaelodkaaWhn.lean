/- The statement WaveTasks, as a contract. No condition. -/
import Derived.Test.YtadmimjaelodkaaWhm
import Derived.Test.YtadmimjaelodkaaWhg
set_option linter.unusedSimpArgs false
set_option maxRecDepth 100000
namespace Go.DI
open Go.Proofs Go.RowKit

end Go.DI

