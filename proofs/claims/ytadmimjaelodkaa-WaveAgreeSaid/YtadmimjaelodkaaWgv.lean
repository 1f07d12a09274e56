/- The energy of a line in plain numbers. No condition. -/
import Derived.Test.YtadmimjaelodkaaWgd
set_option linter.unusedSimpArgs false
namespace Go.DI

theorem tdiv_split {N D : Int} (hD : 0 < D) : ∃ r, N = D * N.tdiv D + r ∧ (-D < r ∧ r < D) ∧ 0 ≤ N.tdiv D * r := by
 refine ⟨N.tmod D, (Int.mul_tdiv_add_tmod N D).symm, ⟨?_, Int.tmod_lt_of_pos _ hD⟩, ?_⟩
 ·have := Int.tmod_lt_of_pos (-N) hD
  rw [Int.neg_tmod] at this
  omega
 ·by_cases h : 0 ≤ N
  ·exact Int.mul_nonneg (Int.tdiv_nonneg h (by omega)) (Int.tmod_nonneg _ h)
  ·have h1 := Int.tdiv_nonneg (a := -N) (b := D) (by omega) (by omega)
   have h2 := Int.tmod_nonneg (a := -N) D (by omega)
   rw [Int.neg_tdiv] at h1
   rw [Int.neg_tmod] at h2
   have h3 := Int.mul_nonneg h1 h2
   rw [Int.neg_mul_neg] at h3
   exact h3
/-- The pressure at a junction, without an end of numbers. -/
def jI (y w A a c L : Int) : Int := (2 * y * a + 2 * w * c + A * L).tdiv (y + w + A)
theorem jI_bd {y w A a c L M : Int} (hy : 1 ≤ y) (hw : 1 ≤ w) (hA : 0 ≤ A) (ha : -M ≤ a ∧ a ≤ M) (hc : -M ≤ c ∧ c ≤ M) (hL : -(2 * M) ≤ L ∧ L ≤ 2 * M) : -(2 * M) ≤ jI y w A a c L ∧ jI y w A a c L ≤ 2 * M := by
 obtain ⟨r, h1, h2, _⟩ := tdiv_split (N := 2 * y * a + 2 * w * c + A * L) (D := y + w + A) (by omega)
 unfold jI
 generalize (2 * y * a + 2 * w * c + A * L).tdiv (y + w + A) = p at *
 have e1 : y * a ≤ y * M := Int.mul_le_mul_of_nonneg_left ha.2 (by omega)
 have e2 : y * (-M) ≤ y * a := Int.mul_le_mul_of_nonneg_left ha.1 (by omega)
 have e3 : w * c ≤ w * M := Int.mul_le_mul_of_nonneg_left hc.2 (by omega)
 have e4 : w * (-M) ≤ w * c := Int.mul_le_mul_of_nonneg_left hc.1 (by omega)
 have e5 : A * L ≤ A * (2 * M) := Int.mul_le_mul_of_nonneg_left hL.2 hA
 have e6 : A * (-(2 * M)) ≤ A * L := Int.mul_le_mul_of_nonneg_left hL.1 hA
 constructor
 ·refine Int.not_lt.1 fun h => ?_
  have : (y + w + A) * p ≤ (y + w + A) * (-(2 * M) - 1) := Int.mul_le_mul_of_nonneg_left (by omega) (by omega)
  grind
 ·refine Int.not_lt.1 fun h => ?_
  have : (y + w + A) * (2 * M + 1) ≤ (y + w + A) * p := Int.mul_le_mul_of_nonneg_left (by omega) (by omega)
  grind
theorem jP_jI {y w A a c L : Int} (hy : 1 ≤ y ∧ y ≤ 10) (hw : 1 ≤ w ∧ w ≤ 10) (hA : 0 ≤ A ∧ A ≤ 20) (ha : -10000000 ≤ a ∧ a ≤ 10000000) (hc : -10000000 ≤ c ∧ c ≤ 10000000) (hL : -20000000 ≤ L ∧ L ≤ 20000000) : jP y w A a c L = jI y w A a c L := by
 have hb := jI_bd (M := 10000000) hy.1 hw.1 hA.1 ha hc hL
 have h1 := mul_bd (y := 2 * y) (k := 20) (by omega) (by decide) ha
 have h2 := mul_bd (y := 2 * w) (k := 20) (by omega) (by decide) hc
 have h3 := mul_bd (y := A) (k := 20) (by omega) (by decide) hL
 unfold jP
 unfold jI at hb ⊢
 rw [w6 (n := 2 * y) (by omega) (by omega), w6 (n := 2 * w) (by omega) (by omega), w6 (n := 2 * y * a) (by omega) (by omega), w6 (n := 2 * w * c) (by omega) (by omega), w6 (n := A * L) (by omega) (by omega), w6 (n := 2 * y * a + 2 * w * c) (by omega) (by omega),
  w6 (n := 2 * y * a + 2 * w * c + A * L) (by omega) (by omega), w6 (n := y + w) (by omega) (by omega), w6 (n := y + w + A) (by omega) (by omega), w6 (by omega) (by omega)]
end Go.DI

