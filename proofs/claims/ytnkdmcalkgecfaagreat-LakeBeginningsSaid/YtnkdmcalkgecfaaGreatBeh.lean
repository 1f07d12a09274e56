/- The statement LakePermitted, on data. No condition. -/
import Derived.Test.YtnkdmcalkgecfaaGreatBee
import Derived.Test.YtnkdmcalkgecfaaGreatBeg
set_option linter.unusedSimpArgs false
namespace Go.DI
open Go.Proofs Go.RowKit Lk

end Go.DI

