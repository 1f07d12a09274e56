/- The energy of a line in plain numbers. No condition. -/
import Derived.Test.YtadmimjaelodkaaWic
set_option linter.unusedSimpArgs false
namespace Go.DI

end Go.DI

