/- Contracts: whole complex numbers, matrices in the reference. No condition. -/
import Derived.Test.YtadmimjaelodkaaWgm
import Derived.Test.YtadmimjaelodkaaWgn
set_option linter.unusedSimpArgs false
set_option maxRecDepth 100000
namespace Go.DI
open Go.Proofs Go.RowKit

end Go.DI

