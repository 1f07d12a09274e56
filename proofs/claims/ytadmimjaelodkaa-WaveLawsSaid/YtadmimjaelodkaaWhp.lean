/- The statement WaveEveryLaw, as a contract. No condition. -/
import Derived.Test.YtadmimjaelodkaaWho
import Derived.Test.YtadmimjaelodkaaWhc
set_option linter.unusedSimpArgs false
set_option maxRecDepth 100000
namespace Go.DI
open Go.Proofs Go.RowKit

theorem asc_bd : ∀ {l : List Int} {a : Int} {j : Nat}, Asc a l → j < l.length → 0 ≤ l.getD j 0 ∧ l.getD j 0 ≤ 1000
  | n :: r, a, 0, h, _ => h.1.1
  | n :: r, a, j + 1, h, hj => by
    rw [List.getD_cons_succ]
    exact asc_bd h.2 (by simpa using hj)
theorem atL_rng {law : List Int} (h : Asc 0 law) (t : Nat) : 0 ≤ atL law t ∧ atL law t ≤ 1000 := by
  unfold atL
  by_cases h0 : law.length = 0
  · have : law = [] := List.length_eq_zero_iff.1 h0
    subst this; simp
  · exact asc_bd h (by omega)
end Go.DI

