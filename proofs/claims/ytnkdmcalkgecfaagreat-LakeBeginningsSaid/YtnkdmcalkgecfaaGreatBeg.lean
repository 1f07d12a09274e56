/- The statement LakeLimits, on data. No condition. -/
import Derived.Test.YtnkdmcalkgecfaaGreatBeGo
import Derived.Test.YtnkdmcalkgecfaaGreatPef
set_option linter.unusedSimpArgs false
namespace Go.DI
open Go.Proofs Go.RowKit Lk

end Go.DI

