/- The energy of a tick. No condition. -/
import Derived.Test.YtadmimjaelodkaaWii
import Derived.Test.YtadmimjaelodkaaWid
set_option linter.unusedSimpArgs false
namespace Go.DI

end Go.DI

