/- Sums of states on plain lines. No condition. -/
import Derived.Test.YtadmimjaelodkaaWgy
set_option linter.unusedSimpArgs false
namespace Go.DI

end Go.DI

