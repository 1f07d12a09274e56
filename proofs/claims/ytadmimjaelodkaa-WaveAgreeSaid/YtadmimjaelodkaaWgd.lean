/- Plain lines: waves only travel. No condition. -/
import Derived.Test.YtadmimjaelodkaaWoc
set_option linter.unusedSimpArgs false
namespace Go.DI

theorem eq_getD {α : Type} (d : α) {l m : List α} (h : l.length = m.length) (k : ∀ j, j < l.length → l.getD j d = m.getD j d) : l = m := by
 refine List.ext_getElem h fun j h1 h2 => ?_
 have := k j h1
 rwa [List.getD_eq_getElem?_getD, List.getD_eq_getElem?_getD, List.getElem?_eq_getElem h1, List.getElem?_eq_getElem h2, Option.getD_some, Option.getD_some] at this
/-- Is each pressure of a state so small? -/
def BdS (M : Int) (s : Ws) : Prop := ∀ i, (-M ≤ s.F.getD i 0 ∧ s.F.getD i 0 ≤ M) ∧ -M ≤ s.B.getD i 0 ∧ s.B.getD i 0 ≤ M
theorem w6 {n : Int} (h1 : -9223372036854775808 ≤ n) (h2 : n ≤ 9223372036854775807) : W6 n = n := wrap64 h1 h2
theorem mul_bd {y a M : Int} {k : Int} (hy : 0 ≤ y ∧ y ≤ k) (hM : 0 ≤ M) (ha : -M ≤ a ∧ a ≤ M) : -(k * M) ≤ y * a ∧ y * a ≤ k * M := by
 have h1 : y * a ≤ y * M := Int.mul_le_mul_of_nonneg_left ha.2 hy.1
 have h2 : y * (-M) ≤ y * a := Int.mul_le_mul_of_nonneg_left ha.1 hy.1
 have h3 : y * M ≤ k * M := Int.mul_le_mul_of_nonneg_right hy.2 hM
 rw [Int.mul_neg] at h2
 omega
theorem getD_out {l : List Int} {i : Nat} (h : l.length ≤ i) : l.getD i 0 = 0 := by simp [List.getD_eq_getElem?_getD, h]
end Go.DI

