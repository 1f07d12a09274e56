/- Matrices and impedances in lowest terms. No condition. -/
import Derived.Test.YtadmimjaelodkaaWge
set_option linter.unusedSimpArgs false
namespace Go.DI

def gsc (g : Int) (u : Ga) : Ga := (g * u.1, g * u.2)
/-- Are the parts of a complex number so small? -/
def GB (n : Int) (u : Ga) : Prop := (-n ≤ u.1 ∧ u.1 ≤ n) ∧ -n ≤ u.2 ∧ u.2 ≤ n
end Go.DI

