/- Contracts of the reference: plans, orders, loads. No condition. -/
import Derived.Test.YtdpfjbghiahbeaaKtGl
/- The reference's functions of plans, as data. No condition. -/
namespace Go.DI
open Go.Proofs Go.RowKit
end Go.DI

/- Contracts: the reference's orders. No condition. -/
set_option linter.unusedSimpArgs false
namespace Go.DI
open Go.Proofs Go.RowKit Sg

end Go.DI

/- Contracts: the reference's plans, orders and loads. No condition. -/
set_option linter.unusedSimpArgs false
namespace Go.DI
open Go.Proofs Go.RowKit Sg

end Go.DI

/- The statement SurgePlans, as a contract. No condition. -/
set_option linter.unusedSimpArgs false
set_option maxRecDepth 20000
namespace Go.DI
open Go.Proofs Go.RowKit Sg

end Go.DI

