/- Contracts of witnesses. No condition. -/
import Derived.Test.YtdpfjbghiahbeaaKgGm
/- The reference's functions of witnesses, as data. No condition. -/
namespace Go.DI
open Go.Proofs Go.RowKit
end Go.DI

/- Contracts: witnesses, of the program and of the reference. No condition. -/
set_option linter.unusedSimpArgs false
set_option maxRecDepth 20000
namespace Go.DI
open Go.Proofs Go.RowKit Sg

end Go.DI

/- The statement SurgeWitnesses, as a contract. No condition. -/
set_option linter.unusedSimpArgs false
set_option maxRecDepth 20000
namespace Go.DI
open Go.Proofs Go.RowKit Sg

end Go.DI

