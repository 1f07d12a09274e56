/- The statement WaveTasks, as a contract. No condition. -/
import Derived.Test.YtadmimjaelodkaaWdg
import Derived.Test.YtadmimjaelodkaaWde
set_option linter.unusedSimpArgs false
set_option maxRecDepth 100000
namespace Go.DI
open Go.Proofs Go.RowKit

def fbZ (x : Ln) (law : List Int) (t : Tk) : Int := if fbE x law t = 0 then (if beyN (opn x) law t = t.ti then 0 else beyN (opn x) law t) else 0
def fbW (x : Ln) (law : List Int) (t : Tk) : Int := if fbE x law t = 0 then (if beyN (opn x) law t = t.ti then 12 else 0) else fbE x law t
theorem w_FirstBeyond' {x : Ln} {law : List Int} {t : Tk} (hx : Few x) (hl : law.length ≤ 1000000) : Contract Try.prog 62 [lnI x, nI law, tkI t] (e2I (fbZ x law t, fbW x law t)) := by
  have h := w_FirstBeyond (t := t) hx hl
  unfold fbZ fbW
  split at h
  · rename_i h0
    rw [if_pos h0, if_pos h0]
    split at h
    · rename_i h1; rw [if_pos h1, if_pos h1]; exact h
    · rename_i h1; rw [if_neg h1, if_neg h1]; exact h
  · rename_i h0; rw [if_neg h0, if_neg h0]; exact h
def fastZ (x : Ln) (t : Tk) : List Int := if fastE x t = 0 then fast (opn x) t else []
def fastW (x : Ln) (t : Tk) : Int := if fastE x t = 0 then (if fast (opn x) t = [] then 12 else 0) else fastE x t
theorem w_FastestLaw' {x : Ln} {t : Tk} (hx : Few x) : Contract Try.prog 56 [lnI x, tkI t] (.tup [nI (fastZ x t), .int .i64 (fastW x t)]) := by
  have h := w_FastestLaw (t := t) hx
  unfold fastZ fastW
  split at h
  · rename_i h0; rw [if_pos h0, if_pos h0]; exact h
  · rename_i h0; rw [if_neg h0, if_neg h0]; exact h

end Go.DI

