/- Laws, one by one, as plain data. No condition. -/
import Derived.Test.YtadmimjaelodkaaWoGf
set_option linter.unusedSimpArgs false
namespace Go.DI

end Go.DI

