/- Plain lines: waves only travel. No condition. -/
import Derived.Test.YtadmimjaelodkaaWhb
set_option linter.unusedSimpArgs false
namespace Go.DI

theorem mul_bd {y a M : Int} {k : Int} (hy : 0 ≤ y ∧ y ≤ k) (hM : 0 ≤ M) (ha : -M ≤ a ∧ a ≤ M) : -(k * M) ≤ y * a ∧ y * a ≤ k * M := by
  have h1 : y * a ≤ y * M := Int.mul_le_mul_of_nonneg_left ha.2 hy.1
  have h2 : y * (-M) ≤ y * a := Int.mul_le_mul_of_nonneg_left ha.1 hy.1
  have h3 : y * M ≤ k * M := Int.mul_le_mul_of_nonneg_right hy.2 hM
  rw [Int.mul_neg] at h2
  omega
end Go.DI

