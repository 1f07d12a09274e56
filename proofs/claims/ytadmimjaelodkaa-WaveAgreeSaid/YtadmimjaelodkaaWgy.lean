/- What bounds the numbers of the run of a law. No condition. -/
import Derived.Test.YtadmimjaelodkaaWgx
set_option linter.unusedSimpArgs false
namespace Go.DI

end Go.DI

