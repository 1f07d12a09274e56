/- What bounds the numbers of the run of a law. No condition. -/
import Derived.Test.YtadmimjaelodkaaWhk
set_option linter.unusedSimpArgs false
namespace Go.DI

theorem rest_get {x : Ow} {i : Nat} : (restS x).F.getD i 0 = 0 ∧ (restS x).B.getD i 0 = 0 ∧ (restS x).L.getD i 0 = 0 := by
  have hz : ∀ n i : Nat, (zeros n).getD i 0 = 0 := fun n i => by
    by_cases h : i < n
    · simp [zeros, List.getD_eq_getElem?_getD, h]
    · exact getD_out (by rw [zeros_len]; omega)
  exact ⟨hz _ _, hz _ _, hz _ _⟩
theorem law_gd {x : Ln} {law : List Int} (hx : LineOk x) (h0 : ∀ t, 0 ≤ atL law t) (h1 : ∀ t, atL law t ≤ 1000) : ∀ t : Nat, t ≤ 200 → Gd 632456 (lawS (opn x) law t) ∧ EnI x (lawS (opn x) law t) ≤ 20000000 * ((t : Int) * t)
  | 0, _ => by
    have hg := fun i => rest_get (x := opn x) (i := i)
    refine ⟨⟨fun i => ?_, fun j => ?_⟩, ?_⟩
    · show (-632456 ≤ (restS (opn x)).F.getD i 0 ∧ _) ∧ _
      simp only [lawS, (hg i).1, (hg i).2.1]; decide
    · show -(2 * 632456) ≤ (restS (opn x)).L.getD j 0 ∧ _
      simp only [lawS, (hg j).2.2]; decide
    · unfold EnI
      rw [sumN_zero fun i _ => by simp only [lawS, enF, (hg i).1, (hg i).2.1]; simp, sumN_zero fun j _ => by simp only [lawS, (hg j).2.2]; simp]
      decide
  | t + 1, ht => by
    obtain ⟨hg, he⟩ := law_gd hx h0 h1 t (by omega)
    have hn := (opn_ok hx).nb
    obtain ⟨N, hN⟩ : ∃ N, (opn x).n.toNat = N + 1 := ⟨(opn x).n.toNat - 1, by omega⟩
    have hsh := sh_law hn.1 (law := law) t
    have c0 := h0 t
    have c1 := h1 t
    have hat := stp_at (c := atL law t) hx hsh hg (by decide) (by omega) hN
    have hle := en_le hx hN hat
    have hcl := (en_cell (s := lawS (opn x) law t) hx (i := N) (by omega)).1
    have hy := adm_bd hx (i := N) (by omega)
    show Gd 632456 (stp (opn x) (lawS (opn x) law t) (atL law t)) ∧ EnI x (stp (opn x) (lawS (opn x) law t) (atL law t)) ≤ _
    have key : EnI x (stp (opn x) (lawS (opn x) law t) (atL law t)) ≤ 20000000 * (((t + 1 : Nat) : Int) * ((t + 1 : Nat) : Int)) := by
      generalize (lawS (opn x) law t).F.getD N 0 = F at *
      generalize (admL x.pp).getD N 0 = y at *
      generalize atL law t = c at *
      have hT : (0 : Int) ≤ (t : Int) := Int.natCast_nonneg t
      generalize hTT : (t : Int) = T at *
      have e1 : y * (F * F) ≤ 10000000 * (T * T) := by
        have : 2 * y * (F * F) = 2 * (y * (F * F)) := Int.mul_assoc _ _ _
        omega
      have e2 : y * (y * (F * F)) ≤ 10 * (10000000 * (T * T)) := by
        have k1 : y * (y * (F * F)) ≤ y * (10000000 * (T * T)) := Int.mul_le_mul_of_nonneg_left e1 (by omega)
        have k2 : y * (10000000 * (T * T)) ≤ 10 * (10000000 * (T * T)) := Int.mul_le_mul_of_nonneg_right hy.2 (Int.mul_nonneg (by decide) (Int.mul_nonneg hT hT))
        omega
      have e3 := sq_le (a := y * F) (b := 10000 * T) (by omega) (by
        have a1 : y * F * (y * F) = y * (y * (F * F)) := by grind
        have a2 : 10000 * T * (10000 * T) = 10 * (10000000 * (T * T)) := by grind
        rw [a1, a2]; exact e2)
      have e4 : y * F * c ≤ 10000 * T * 1000 := by
        have k1 : y * F * c ≤ 10000 * T * c := Int.mul_le_mul_of_nonneg_right e3.2 c0
        have k2 : 10000 * T * c ≤ 10000 * T * 1000 := Int.mul_le_mul_of_nonneg_left c1 (by omega)
        omega
      have e5 : y * (c * c) ≤ 10 * 1000000 := by
        have k0 := sq_bd (a := c) (M := 1000) (by omega)
        have k1 : y * (c * c) ≤ 10 * (c * c) := Int.mul_le_mul_of_nonneg_right hy.2 (sq_nonneg c)
        omega
      have e6 : 2 * y * (2 * F * c + c * c) = 4 * (y * F * c) + 2 * (y * (c * c)) := by grind
      have e7 : ((t + 1 : Nat) : Int) * ((t + 1 : Nat) : Int) = T * T + 2 * T + 1 := by
        rw [Int.natCast_succ, hTT]; grind
      rw [e7]
      rw [e6] at hle
      omega
    refine ⟨gd_step hx hsh hg (by decide) (by omega) hN (Int.le_trans key ?_), key⟩
    have : ((t + 1 : Nat) : Int) * ((t + 1 : Nat) : Int) ≤ 200 * 200 := Int.mul_le_mul (by omega) (by omega) (by omega) (by decide)
    omega
end Go.DI

