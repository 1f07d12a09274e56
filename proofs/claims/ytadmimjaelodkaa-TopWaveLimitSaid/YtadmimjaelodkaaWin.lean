/- The statement WaveTasks, as a contract. No condition. -/
import Derived.Test.YtadmimjaelodkaaWim
import Derived.Test.YtadmimjaelodkaaWig
set_option linter.unusedSimpArgs false
set_option maxRecDepth 100000
namespace Go.DI
open Go.Proofs Go.RowKit

def fastZ (x : Ln) (t : Tk) : List Int := if fastE x t = 0 then fast (opn x) t else []
def fastW (x : Ln) (t : Tk) : Int := if fastE x t = 0 then (if fast (opn x) t = [] then 12 else 0) else fastE x t
theorem w_FastestLaw' {x : Ln} {t : Tk} (hx : Few x) : Contract Try.prog 56 [lnI x, tkI t] (.tup [nI (fastZ x t), .int .i64 (fastW x t)]) := by
  have h := w_FastestLaw (t := t) hx
  unfold fastZ fastW
  split at h
  · rename_i h0; rw [if_pos h0, if_pos h0]; exact h
  · rename_i h0; rw [if_neg h0, if_neg h0]; exact h

end Go.DI

