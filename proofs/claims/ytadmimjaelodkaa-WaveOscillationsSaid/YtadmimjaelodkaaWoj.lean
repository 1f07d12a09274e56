/- The statement WaveTicks, as a contract. No condition. -/
import Derived.Test.YtadmimjaelodkaaWob
set_option linter.unusedSimpArgs false
set_option maxRecDepth 100000
namespace Go.DI
open Go.Proofs Go.RowKit

def emptyS : Ws := ⟨[], [], []⟩
theorem few_empty : FewS emptyS := ⟨by decide, by decide, by decide⟩
end Go.DI

