/- Steps and boxes: monotone, enclosed. No condition. -/
import Derived.Test.YtdpfjbghiahbeaaKvGf
import Derived.Test.YtdpfjbghiahbeaaKuGj
/- Steps as plain data: never crossing. No condition. -/
namespace Go.DI.Sg

end Go.DI.Sg

/- Boxes as plain data: enclosed. No condition. -/
namespace Go.DI
open Sg

end Go.DI

/- The statement SurgeEnclosed, as a contract. No condition. -/
set_option linter.unusedSimpArgs false
set_option maxRecDepth 20000
namespace Go.DI
open Go.Proofs Go.RowKit Sg

end Go.DI

