/- The statement WaveEveryLaw, as a contract. No condition. -/
import Derived.Test.YtadmimjaelodkaaWio
import Derived.Test.YtadmimjaelodkaaWic
set_option linter.unusedSimpArgs false
set_option maxRecDepth 100000
namespace Go.DI
open Go.Proofs Go.RowKit

theorem asc_mono : ∀ {l : List Int} {a : Int} {i j : Nat}, Asc a l → i ≤ j → j < l.length → l.getD i 0 ≤ l.getD j 0
  | n :: r, a, 0, 0, h, _, _ => Int.le_refl _
  | n :: r, a, 0, j + 1, h, _, hj => by
    have := asc_le (j := j) h.2 (by simpa using hj)
    rw [List.getD_cons_succ]
    exact this
  | n :: r, a, i + 1, j + 1, h, hij, hj => by
    rw [List.getD_cons_succ, List.getD_cons_succ]
    exact asc_mono h.2 (by omega) (by simpa using hj)
  | n :: r, a, i + 1, 0, h, hij, hj => by omega
theorem asc_bd : ∀ {l : List Int} {a : Int} {j : Nat}, Asc a l → j < l.length → 0 ≤ l.getD j 0 ∧ l.getD j 0 ≤ 1000
  | n :: r, a, 0, h, _ => h.1.1
  | n :: r, a, j + 1, h, hj => by
    rw [List.getD_cons_succ]
    exact asc_bd h.2 (by simpa using hj)
theorem atL_rng {law : List Int} (h : Asc 0 law) (t : Nat) : 0 ≤ atL law t ∧ atL law t ≤ 1000 := by
  unfold atL
  by_cases h0 : law.length = 0
  · have : law = [] := List.length_eq_zero_iff.1 h0
    subst this; simp
  · exact asc_bd h (by omega)
theorem atL_mono {law : List Int} (h : Asc 0 law) (s t : Nat) (hst : s ≤ t) : atL law s ≤ atL law t := by
  unfold atL
  by_cases h0 : law.length = 0
  · have : law = [] := List.length_eq_zero_iff.1 h0
    subst this; simp
  · exact asc_mono h (by omega) (by omega)

end Go.DI

