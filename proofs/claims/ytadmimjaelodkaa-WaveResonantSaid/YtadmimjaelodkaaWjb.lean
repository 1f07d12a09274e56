/- Plain lines: waves only travel. No condition. -/
import Derived.Test.YtadmimjaelodkaaWeb
set_option linter.unusedSimpArgs false
namespace Go.DI

theorem mul_bd {y a M : Int} {k : Int} (hy : 0 ≤ y ∧ y ≤ k) (hM : 0 ≤ M) (ha : -M ≤ a ∧ a ≤ M) : -(k * M) ≤ y * a ∧ y * a ≤ k * M := by
  have h1 : y * a ≤ y * M := Int.mul_le_mul_of_nonneg_left ha.2 hy.1
  have h2 : y * (-M) ≤ y * a := Int.mul_le_mul_of_nonneg_left ha.1 hy.1
  have h3 : y * M ≤ k * M := Int.mul_le_mul_of_nonneg_right hy.2 hM
  rw [Int.mul_neg] at h2
  omega
theorem plain_at {x : Ln} (hx : LineOk x) (hp : plainL x = true) : ∃ y, (1 ≤ y ∧ y ≤ 10) ∧ (∀ j, j < x.pp.length → (x.pp.getD j default).2 = y) ∧ ∀ j, x.ar.getD j 0 = 0 := by
  have h := plainL_iff.1 hp
  have hl := hx.len
  refine ⟨(x.pp.getD 0 default).2, (hx.pip _ (getD_mem (by omega))).2, fun j hj => h.1 _ (getD_mem hj), fun j => ?_⟩
  by_cases hj : j < x.ar.length
  · exact h.2 _ (getD_mem hj)
  · simp [List.getD_eq_getElem?_getD, Nat.le_of_not_lt hj]
end Go.DI

