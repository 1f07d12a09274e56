/- Matrices and impedances in lowest terms. No condition. -/
import Derived.Test.YtadmimjaelodkaaWkc
set_option linter.unusedSimpArgs false
namespace Go.DI

theorem gcdE_dvd (a b : Int) : gcdE a b ∣ a ∧ gcdE a b ∣ b := by
  unfold gcdE
  exact ⟨Int.ofNat_dvd_left.2 (Nat.gcd_dvd_left _ _), Int.ofNat_dvd_left.2 (Nat.gcd_dvd_right _ _)⟩
theorem gcdL_dvd : ∀ (l : List Int) (a : Int), gcdL a l ∣ a ∧ ∀ n ∈ l, gcdL a l ∣ n
  | [], a => ⟨Int.dvd_refl _, fun n h => by cases h⟩
  | b :: r, a => by
    obtain ⟨h1, h2⟩ := gcdL_dvd r (gcdE a b)
    obtain ⟨h3, h4⟩ := gcdE_dvd a b
    refine ⟨Int.dvd_trans h1 h3, fun n hn => ?_⟩
    rcases List.mem_cons.1 hn with rfl | hn
    · exact Int.dvd_trans h1 h4
    · exact h2 n hn
theorem gcdS_dvd (l : List Int) : ∀ n ∈ l, gcdS l ∣ n := (gcdL_dvd l 0).2
def dvdG (g : Int) (u : Ga) : Prop := g ∣ u.1 ∧ g ∣ u.2
def gsc (g : Int) (u : Ga) : Ga := (g * u.1, g * u.2)
theorem govr_dvd {g : Int} {u : Ga} (h : dvdG g u) : gsc g (govr u g) = u := by
  unfold gsc govr
  rw [Int.mul_tdiv_cancel' h.1, Int.mul_tdiv_cancel' h.2]
structure RedOk (m : Mx) : Prop where
  a : dvdG (redG m) m.a
  b : dvdG (redG m) m.b
  c : dvdG (redG m) m.c
  d : dvdG (redG m) m.d
  den : redG m ∣ m.den
theorem red_ok (m : Mx) : RedOk m := by
  have h4 := gcdS_dvd [redG3 m, m.d.1, m.d.2]
  have h3 := gcdS_dvd [redG2 m, m.c.1, m.c.2]
  have h2 := gcdS_dvd [redG1 m, m.b.1, m.b.2]
  have h1 := gcdS_dvd [m.den, m.a.1, m.a.2]
  have k3 : redG m ∣ redG3 m := h4 _ (by simp)
  have k2 : redG m ∣ redG2 m := Int.dvd_trans k3 (h3 _ (by simp))
  have k1 : redG m ∣ redG1 m := Int.dvd_trans k2 (h2 _ (by simp))
  exact ⟨⟨Int.dvd_trans k1 (h1 _ (by simp)), Int.dvd_trans k1 (h1 _ (by simp))⟩, ⟨Int.dvd_trans k2 (h2 _ (by simp)), Int.dvd_trans k2 (h2 _ (by simp))⟩, ⟨Int.dvd_trans k3 (h3 _ (by simp)), Int.dvd_trans k3 (h3 _ (by simp))⟩, ⟨h4 _ (by simp), h4 _ (by simp)⟩, Int.dvd_trans k1 (h1 _ (by simp))⟩
/-- Are the parts of a complex number so small? -/
def GB (n : Int) (u : Ga) : Prop := (-n ≤ u.1 ∧ u.1 ≤ n) ∧ -n ≤ u.2 ∧ u.2 ≤ n
theorem quot_le {g q a n : Int} (hg : g ≠ 0) (h : g * q = a) (ha : -n ≤ a ∧ a ≤ n) : -n ≤ q ∧ q ≤ n := by
  have h1 : a.natAbs = g.natAbs * q.natAbs := by rw [← h, Int.natAbs_mul]
  have h2 : 1 * q.natAbs ≤ g.natAbs * q.natAbs := Nat.mul_le_mul_right _ (by omega)
  omega
theorem gsc_GB {g n : Int} {u v : Ga} (hg : g ≠ 0) (h : gsc g u = v) (hv : GB n v) : GB n u := by
  subst h
  exact ⟨quot_le hg rfl hv.1, quot_le hg rfl hv.2⟩
theorem nrm_GB {u : Ga} {n : Nat} {k : Int} (h : nrm u ≤ n) (hk : (n : Int) ≤ k) : GB k u := by
  unfold nrm at h
  exact ⟨by omega, by omega⟩
structure LowOk (m : Mx) : Prop where
  a : GB 12500000 m.a
  b : GB 12500000 m.b
  c : GB 12500000 m.c
  d : GB 12500000 m.d
  den : 1 ≤ m.den ∧ m.den ≤ 10000
  det : detM m = (m.den * m.den, 0)
theorem low_ok {x : Ow} {h : Int} (hx : OwOk x) : LowOk (lowM (lineMat x h)) ∧ ((lowM (lineMat x h)).d = (0, 0) ↔ (lineMat x h).d = (0, 0)) := by
  obtain ⟨_, hd1, hd2⟩ := lineMat_bd (h := h) hx
  have ht := lineMat_TB (h := h) hx
  have hdet : detM (lineMat x h) = ((lineMat x h).den * (lineMat x h).den, 0) := det_line _
  have hr := red_ok (lineMat x h)
  have hg := (redG_bd (m := lineMat x h) hd1).2.2.2
  have ea := govr_dvd hr.a
  have eb := govr_dvd hr.b
  have ec := govr_dvd hr.c
  have ed := govr_dvd hr.d
  have en := Int.mul_tdiv_cancel' hr.den
  have ht1 := ht.a; have ht2 := ht.b; have ht3 := ht.c; have ht4 := ht.d
  generalize lineMat x h = m at *
  unfold lowM
  generalize redG m = g at *
  have hg0 : g ≠ 0 := by omega
  refine ⟨⟨gsc_GB hg0 ea (nrm_GB ht1 (by decide)), gsc_GB hg0 eb (nrm_GB (show nrm m.b ≤ 1250000 by omega) (by decide)), gsc_GB hg0 ec (nrm_GB ht3 (by decide)), gsc_GB hg0 ed (nrm_GB ht4 (by decide)), ?_, ?_⟩, ?_⟩
  · show 1 ≤ m.den.tdiv g ∧ m.den.tdiv g ≤ 10000
    have h2 := quot_le hg0 en (n := 10000) (by omega)
    refine ⟨?_, h2.2⟩
    refine Int.not_lt.1 fun hlt => ?_
    have : g * m.den.tdiv g ≤ g * 0 := Int.mul_le_mul_of_nonneg_left (by omega) (by omega)
    omega
  · unfold detM at hdet
    rw [← ea, ← eb, ← ec, ← ed, ← en] at hdet
    unfold gsub gmul gsc at hdet
    simp only [Prod.mk.injEq] at hdet
    unfold detM gsub gmul
    simp only [Prod.mk.injEq]
    generalize govr m.a g = A at *
    generalize govr m.b g = B at *
    generalize govr m.c g = C at *
    generalize govr m.d g = D at *
    generalize m.den.tdiv g = n at *
    have hgg : g * g ≠ 0 := Int.mul_ne_zero hg0 hg0
    constructor
    · refine Int.eq_of_mul_eq_mul_left hgg ?_
      have := hdet.1
      grind
    · refine Int.eq_of_mul_eq_mul_left hgg ?_
      have := hdet.2
      grind
  · show govr m.d g = (0, 0) ↔ m.d = (0, 0)
    constructor
    · intro h
      rw [h] at ed
      rw [← ed]; simp [gsc]
    · intro h
      rw [h]; simp [govr]
end Go.DI

