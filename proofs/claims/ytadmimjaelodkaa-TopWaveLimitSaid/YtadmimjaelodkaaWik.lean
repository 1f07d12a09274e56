/- Ticks make no energy; what bounds the numbers of a run. No condition. -/
import Derived.Test.YtadmimjaelodkaaWij
set_option linter.unusedSimpArgs false
namespace Go.DI

end Go.DI

