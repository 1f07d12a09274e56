/- The energy of a line in plain numbers. No condition. -/
import Derived.Test.YtadmimjaelodkaaWhc
set_option linter.unusedSimpArgs false
namespace Go.DI

def sumN : Nat → (Nat → Int) → Int
  | 0, _ => 0
  | k + 1, f => sumN k f + f k
theorem sumN_succ {k : Nat} {f : Nat → Int} : sumN (k + 1) f = sumN k f + f k := rfl
theorem sumN_congr {f g : Nat → Int} : ∀ {k : Nat}, (∀ i, i < k → f i = g i) → sumN k f = sumN k g
  | 0, _ => rfl
  | k + 1, h => by unfold sumN; rw [sumN_congr fun i hi => h i (by omega), h k (by omega)]
theorem sumN_add {f g : Nat → Int} : ∀ {k : Nat}, sumN k (fun i => f i + g i) = sumN k f + sumN k g
  | 0 => rfl
  | k + 1 => by simp only [sumN_succ]; rw [sumN_add]; omega
theorem sumN_sub {f g : Nat → Int} : ∀ {k : Nat}, sumN k (fun i => f i - g i) = sumN k f - sumN k g
  | 0 => rfl
  | k + 1 => by simp only [sumN_succ]; rw [sumN_sub]; omega
theorem sumN_shift {f : Nat → Int} : ∀ {k : Nat}, sumN (k + 1) f = f 0 + sumN k (fun i => f (i + 1))
  | 0 => by simp [sumN]
  | k + 1 => by
    rw [sumN_succ, sumN_shift, sumN_succ]
    omega
theorem sumN_zero {f : Nat → Int} : ∀ {k : Nat}, (∀ i, i < k → f i = 0) → sumN k f = 0
  | 0, _ => rfl
  | k + 1, h => by unfold sumN; rw [sumN_zero fun i hi => h i (by omega), h k (by omega)]; rfl
theorem sumN_nonneg {f : Nat → Int} : ∀ {k : Nat}, (∀ i, i < k → 0 ≤ f i) → 0 ≤ sumN k f
  | 0, _ => Int.le_refl _
  | k + 1, h => by
    have := sumN_nonneg fun i hi => h i (Nat.lt_succ_of_lt hi)
    have := h k (by omega)
    unfold sumN; omega
theorem sumN_nonpos {f : Nat → Int} : ∀ {k : Nat}, (∀ i, i < k → f i ≤ 0) → sumN k f ≤ 0
  | 0, _ => Int.le_refl _
  | k + 1, h => by
    have := sumN_nonpos fun i hi => h i (Nat.lt_succ_of_lt hi)
    have := h k (by omega)
    unfold sumN; omega
theorem sumN_term {f : Nat → Int} : ∀ {k i : Nat}, (∀ i, i < k → 0 ≤ f i) → i < k → f i ≤ sumN k f
  | 0, i, _, h => by omega
  | k + 1, i, h, hi => by
    have h0 := sumN_nonneg fun i hi => h i (Nat.lt_succ_of_lt hi)
    have h1 := h k (by omega)
    unfold sumN
    by_cases e : i = k
    · subst e; omega
    · have := sumN_term (fun i hi => h i (Nat.lt_succ_of_lt hi)) (show i < k by omega)
      omega
theorem sumN_take {f : Nat → Int} {b : Nat} : ∀ {k : Nat}, b < k → sumN k f = f b + sumN k (fun i => if i = b then 0 else f i)
  | 0, h => by omega
  | k + 1, h => by
    simp only [sumN_succ]
    by_cases e : k = b
    · subst e
      rw [if_pos rfl, sumN_congr (f := fun i => if i = k then 0 else f i) (g := f) fun i hi => if_neg (by omega)]
      omega
    · rw [sumN_take (show b < k by omega), if_neg e]; omega
theorem sumN_sparse {N : Nat} {b : Nat → Nat} : ∀ {m : Nat} {f : Nat → Int}, (∀ j, j < m → b j < N) → (∀ i j, i < j → j < m → b i ≠ b j) → (∀ i, i < N → (∀ j, j < m → b j ≠ i) → f i = 0) → sumN N f = sumN m (fun j => f (b j))
  | 0, f, _, _, h => by rw [sumN_zero fun i hi => h i hi fun j hj => by omega]; rfl
  | m + 1, f, hb, hi, h => by
    rw [sumN_take (b := b m) (hb m (by omega)), sumN_succ]
    rw [sumN_sparse (m := m) (fun j hj => hb j (by omega)) (fun i j h1 h2 => hi i j h1 (by omega)) fun i h1 h2 => by
      by_cases e : i = b m
      · rw [if_pos e]
      · rw [if_neg e]
        refine h i h1 fun j hj => ?_
        by_cases e2 : j = m
        · subst e2; exact fun k => e k.symm
        · exact h2 j (by omega)]
    rw [sumN_congr (g := fun j => f (b j)) fun j hj => if_neg (hi j m hj (by omega))]
    omega

theorem tdiv_split {N D : Int} (hD : 0 < D) : ∃ r, N = D * N.tdiv D + r ∧ (-D < r ∧ r < D) ∧ 0 ≤ N.tdiv D * r := by
  refine ⟨N.tmod D, (Int.mul_tdiv_add_tmod N D).symm, ⟨?_, Int.tmod_lt_of_pos _ hD⟩, ?_⟩
  · have := Int.tmod_lt_of_pos (-N) hD
    rw [Int.neg_tmod] at this
    omega
  · by_cases h : 0 ≤ N
    · exact Int.mul_nonneg (Int.tdiv_nonneg h (by omega)) (Int.tmod_nonneg _ h)
    · have h1 := Int.tdiv_nonneg (a := -N) (b := D) (by omega) (by omega)
      have h2 := Int.tmod_nonneg (a := -N) D (by omega)
      rw [Int.neg_tdiv] at h1
      rw [Int.neg_tmod] at h2
      have h3 := Int.mul_nonneg h1 h2
      rw [Int.neg_mul_neg] at h3
      exact h3
/-- The pressure at a junction, without an end of numbers. -/
def jI (y w A a c L : Int) : Int := (2 * y * a + 2 * w * c + A * L).tdiv (y + w + A)
theorem jI_bd {y w A a c L M : Int} (hy : 1 ≤ y) (hw : 1 ≤ w) (hA : 0 ≤ A) (ha : -M ≤ a ∧ a ≤ M) (hc : -M ≤ c ∧ c ≤ M) (hL : -(2 * M) ≤ L ∧ L ≤ 2 * M) : -(2 * M) ≤ jI y w A a c L ∧ jI y w A a c L ≤ 2 * M := by
  obtain ⟨r, h1, h2, _⟩ := tdiv_split (N := 2 * y * a + 2 * w * c + A * L) (D := y + w + A) (by omega)
  unfold jI
  generalize (2 * y * a + 2 * w * c + A * L).tdiv (y + w + A) = p at *
  have e1 : y * a ≤ y * M := Int.mul_le_mul_of_nonneg_left ha.2 (by omega)
  have e2 : y * (-M) ≤ y * a := Int.mul_le_mul_of_nonneg_left ha.1 (by omega)
  have e3 : w * c ≤ w * M := Int.mul_le_mul_of_nonneg_left hc.2 (by omega)
  have e4 : w * (-M) ≤ w * c := Int.mul_le_mul_of_nonneg_left hc.1 (by omega)
  have e5 : A * L ≤ A * (2 * M) := Int.mul_le_mul_of_nonneg_left hL.2 hA
  have e6 : A * (-(2 * M)) ≤ A * L := Int.mul_le_mul_of_nonneg_left hL.1 hA
  constructor
  · refine Int.not_lt.1 fun h => ?_
    have : (y + w + A) * p ≤ (y + w + A) * (-(2 * M) - 1) := Int.mul_le_mul_of_nonneg_left (by omega) (by omega)
    grind
  · refine Int.not_lt.1 fun h => ?_
    have : (y + w + A) * (2 * M + 1) ≤ (y + w + A) * p := Int.mul_le_mul_of_nonneg_left (by omega) (by omega)
    grind
/-- A junction makes no energy. -/
theorem jI_energy {y w A a c L : Int} (hy : 1 ≤ y) (hw : 1 ≤ w) (hA : 0 ≤ A) :
    2 * w * ((jI y w A a c L - c) * (jI y w A a c L - c)) + 2 * y * ((jI y w A a c L - a) * (jI y w A a c L - a)) - 2 * y * (a * a) - 2 * w * (c * c) + A * (jI y w A a c L * jI y w A a c L - L * L) ≤ 0 := by
  obtain ⟨r, h1, h2, h3⟩ := tdiv_split (N := 2 * y * a + 2 * w * c + A * L) (D := y + w + A) (by omega)
  unfold jI
  generalize (2 * y * a + 2 * w * c + A * L).tdiv (y + w + A) = p at *
  have h4 : 0 ≤ A * ((p - L) * (p - L)) := Int.mul_nonneg hA (by
    rcases Int.le_total 0 (p - L) with h | h
    · exact Int.mul_nonneg h h
    · exact Int.mul_nonneg_of_nonpos_of_nonpos h h)
  have e : 2 * w * ((p - c) * (p - c)) + 2 * y * ((p - a) * (p - a)) - 2 * y * (a * a) - 2 * w * (c * c) + A * (p * p - L * L) = 2 * p * ((y + w + A) * p - (2 * y * a + 2 * w * c + A * L)) - A * ((p - L) * (p - L)) := by grind
  rw [e, h1]
  have e2 : 2 * p * ((y + w + A) * p - ((y + w + A) * p + r)) = -(2 * (p * r)) := by grind
  rw [e2]
  omega
theorem jP_jI {y w A a c L : Int} (hy : 1 ≤ y ∧ y ≤ 10) (hw : 1 ≤ w ∧ w ≤ 10) (hA : 0 ≤ A ∧ A ≤ 20) (ha : -10000000 ≤ a ∧ a ≤ 10000000) (hc : -10000000 ≤ c ∧ c ≤ 10000000) (hL : -20000000 ≤ L ∧ L ≤ 20000000) : jP y w A a c L = jI y w A a c L := by
  have hb := jI_bd (M := 10000000) hy.1 hw.1 hA.1 ha hc hL
  have h1 := mul_bd (y := 2 * y) (k := 20) (by omega) (by decide) ha
  have h2 := mul_bd (y := 2 * w) (k := 20) (by omega) (by decide) hc
  have h3 := mul_bd (y := A) (k := 20) (by omega) (by decide) hL
  unfold jP
  unfold jI at hb ⊢
  rw [w6 (n := 2 * y) (by omega) (by omega), w6 (n := 2 * w) (by omega) (by omega), w6 (n := 2 * y * a) (by omega) (by omega), w6 (n := 2 * w * c) (by omega) (by omega), w6 (n := A * L) (by omega) (by omega), w6 (n := 2 * y * a + 2 * w * c) (by omega) (by omega),
    w6 (n := 2 * y * a + 2 * w * c + A * L) (by omega) (by omega), w6 (n := y + w) (by omega) (by omega), w6 (n := y + w + A) (by omega) (by omega), w6 (by omega) (by omega)]
end Go.DI

