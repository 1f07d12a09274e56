/- Steps as plain data: never crossing. No condition. -/
import Derived.Test.YtdpfjbghiahbeaaKf
namespace Go.DI.Sg

theorem tdiv_step {x d c : Int} (h0 : 0 ≤ d) (h : d ≤ c) : x.tdiv 1000 ≤ (x + d).tdiv 1000 ∧ 1000 * (x + d).tdiv 1000 ≤ 1000 * x.tdiv 1000 + c + 999 := by
  have e : ∀ y : Int, y.tdiv 1000 = if 0 ≤ y then y / 1000 else -((-y) / 1000) := by
    intro y
    split
    · rename_i h; exact Int.tdiv_eq_ediv_of_nonneg h
    · rename_i h
      have h2 := Int.neg_tdiv (a := -y) (b := 1000)
      rw [Int.neg_neg] at h2
      rw [h2, Int.tdiv_eq_ediv_of_nonneg (by omega)]
  rw [e, e]
  constructor <;> split <;> split <;> omega

theorem sq_step {n : Int} {m : Int} (h : -m ≤ n ∧ n < m) : 0 ≤ sq (n + 1) - sq n ∧ sq (n + 1) - sq n ≤ 2 * m + 1 := by
  have e : ∀ y : Int, sq y = if 0 ≤ y then y * y else -(y * y) := by
    intro y
    unfold sq
    split
    · rw [show max y (-y) = y by omega]
    · rw [show max y (-y) = -y by omega, Int.mul_neg]
  have e2 : (n + 1) * (n + 1) = n * n + 2 * n + 1 := by rw [Int.add_mul, Int.mul_add]; omega
  rw [e, e]
  by_cases h1 : 0 ≤ n
  · rw [if_pos h1, if_pos (by omega), e2]; omega
  · rw [if_neg h1]
    by_cases h2 : 0 ≤ n + 1
    · have : n = -1 := by omega
      subst this
      rw [if_pos h2]; omega
    · rw [if_neg h2, e2]; omega

theorem ediv_mono {a b c : Int} (h : a ≤ b) (hc : 0 < c) : a / c ≤ b / c := Int.ediv_le_ediv hc h
/-- A quotient by at least one grows no faster than what is divided. -/
theorem ediv_lip {a d c : Int} (hd : 0 ≤ d) (hc : 1 ≤ c) : (a + d) / c ≤ a / c + d := by
  have h1 : (a + d) / c ≤ (a + d * c) / c := ediv_mono (by
    have := Int.mul_le_mul_of_nonneg_left hc hd
    omega) (by omega)
  rw [Int.add_mul_ediv_right _ _ (by omega)] at h1
  exact h1

theorem stp_L {r : Ru} (hr : Good r) {L L2 F load k : Int} (h : L ≤ L2) :
    (stp r ⟨L, F⟩ load k).L ≤ (stp r ⟨L2, F⟩ load k).L ∧ (stp r ⟨L2, F⟩ load k).F ≤ (stp r ⟨L, F⟩ load k).F := by
  have r1 := hr.I; have r2 := hr.A
  unfold stp
  dsimp only
  have h1 := ediv_mono (c := r.I) (show L + (k * sq F).tdiv 1000 + (r.T * sq (F - load)).tdiv 1000 ≤ L2 + (k * sq F).tdiv 1000 + (r.T * sq (F - load)).tdiv 1000 by omega) (by omega)
  have h2 := ediv_lip (a := L + (k * sq F).tdiv 1000 + (r.T * sq (F - load)).tdiv 1000) (d := L2 - L) (c := r.I) (by omega) (by omega)
  rw [show L + (k * sq F).tdiv 1000 + (r.T * sq (F - load)).tdiv 1000 + (L2 - L) = L2 + (k * sq F).tdiv 1000 + (r.T * sq (F - load)).tdiv 1000 by omega] at h2
  generalize (L + (k * sq F).tdiv 1000 + (r.T * sq (F - load)).tdiv 1000) / r.I = q1 at *
  generalize (L2 + (k * sq F).tdiv 1000 + (r.T * sq (F - load)).tdiv 1000) / r.I = q2 at *
  generalize hf1 : min 1000 (max (-1000) (F - q1)) = f1
  generalize hf2 : min 1000 (max (-1000) (F - q2)) = f2
  have h3 : f2 ≤ f1 ∧ f1 ≤ f2 + (L2 - L) := by omega
  have h4 := ediv_lip (a := f2 - load) (d := L2 - L) (c := r.A) (by omega) (by omega)
  have h5 := ediv_mono (c := r.A) (show f1 - load ≤ f2 - load + (L2 - L) by omega) (by omega)
  constructor <;> omega

theorem stp_F1 {r : Ru} (hr : Good r) {L F load k : Int} (hk : 0 ≤ k ∧ k ≤ r.hi) (hl : 0 ≤ load ∧ load ≤ 1000) (hF : -1000 ≤ F ∧ F < 1000) : (stp r ⟨L, F⟩ load k).F ≤ (stp r ⟨L, F + 1⟩ load k).F := by
  have r1 := hr.I; have r3 := hr.T; have r4 := hr.wide
  unfold stp
  dsimp only
  have s1 := sq_step (n := F) (m := 1000) (by omega)
  have s2 := sq_step (n := F - load) (m := 2000) (by omega)
  have d1 : 0 ≤ k * (sq (F + 1) - sq F) := Int.mul_nonneg hk.1 s1.1
  have d2 : k * (sq (F + 1) - sq F) ≤ k * 2001 := Int.mul_le_mul_of_nonneg_left s1.2 hk.1
  have d3 : 0 ≤ r.T * (sq (F - load + 1) - sq (F - load)) := Int.mul_nonneg r3.1 s2.1
  have d4 : r.T * (sq (F - load + 1) - sq (F - load)) ≤ r.T * 4001 := Int.mul_le_mul_of_nonneg_left s2.2 r3.1
  have t1 := tdiv_step (x := k * sq F) d1 d2
  have t2 := tdiv_step (x := r.T * sq (F - load)) d3 d4
  rw [← Int.mul_add, show sq F + (sq (F + 1) - sq F) = sq (F + 1) by omega] at t1
  rw [← Int.mul_add, show sq (F - load) + (sq (F - load + 1) - sq (F - load)) = sq (F - load + 1) by omega, show F - load + 1 = F + 1 - load by omega] at t2
  have h1 := ediv_mono (c := r.I) (show L + (k * sq (F + 1)).tdiv 1000 + (r.T * sq (F + 1 - load)).tdiv 1000 ≤ L + (k * sq F).tdiv 1000 + (r.T * sq (F - load)).tdiv 1000 + 1 * r.I by omega) (by omega)
  rw [Int.add_mul_ediv_right _ _ (by omega)] at h1
  omega

theorem stp_F {r : Ru} (hr : Good r) {L load k : Int} (hk : 0 ≤ k ∧ k ≤ r.hi) (hl : 0 ≤ load ∧ load ≤ 1000) : ∀ (n : Nat) {F : Int}, -1000 ≤ F → F + n ≤ 1000 → (stp r ⟨L, F⟩ load k).F ≤ (stp r ⟨L, F + n⟩ load k).F
  | 0, F, _, _ => by simp
  | n + 1, F, h1, h2 => by
    have a := stp_F1 hr (L := L) hk hl (F := F) ⟨h1, by omega⟩
    have b := stp_F hr (L := L) hk hl n (F := F + 1) (by omega) (by omega)
    rw [show F + 1 + (n : Int) = F + ((n + 1 : Nat) : Int) by omega] at b
    omega
theorem stp_Fmono {r : Ru} (hr : Good r) {L load k F F2 : Int} (hk : 0 ≤ k ∧ k ≤ r.hi) (hl : 0 ≤ load ∧ load ≤ 1000) (h1 : -1000 ≤ F) (h : F ≤ F2) (h2 : F2 ≤ 1000) :
    (stp r ⟨L, F⟩ load k).L ≤ (stp r ⟨L, F2⟩ load k).L ∧ (stp r ⟨L, F⟩ load k).F ≤ (stp r ⟨L, F2⟩ load k).F := by
  have r2 := hr.A
  have a := stp_F hr (L := L) hk hl (F2 - F).toNat h1 (by omega)
  rw [show F + (((F2 - F).toNat : Nat) : Int) = F2 by omega] at a
  refine ⟨?_, a⟩
  unfold stp at a ⊢
  dsimp only at a ⊢
  have := ediv_mono (c := r.A) (show _ - load ≤ _ - load from Int.sub_le_sub_right a load) (by omega)
  omega

theorem tdiv_mono {a b : Int} (h : a ≤ b) : a.tdiv 1000 ≤ b.tdiv 1000 := by
  have := (tdiv_step (x := a) (d := b - a) (c := b - a) (by omega) (by omega)).1
  rwa [show a + (b - a) = b by omega] at this

/-- At a corner. -/
theorem stp_corner {r : Ru} (hr : Good r) {load k L1 L2 F1 F2 : Int} (hk : 0 ≤ k ∧ k ≤ r.hi) (hl : 0 ≤ load ∧ load ≤ 1000) (hL : L1 ≤ L2) (hF1 : -1000 ≤ F1) (hF : F1 ≤ F2) (hF2 : F2 ≤ 1000) :
    (stp r ⟨L1, F1⟩ load k).L ≤ (stp r ⟨L2, F2⟩ load k).L ∧ (stp r ⟨L2, F1⟩ load k).F ≤ (stp r ⟨L1, F2⟩ load k).F := by
  have a := stp_L hr (F := F1) (load := load) (k := k) hL
  have b := stp_Fmono hr (L := L2) hk hl hF1 hF hF2
  have c := stp_Fmono hr (L := L1) hk hl hF1 hF hF2
  constructor <;> omega

theorem stp_k1 {r : Ru} (hr : Good r) {s : Sta} {load k k2 : Int} (h : k * sq s.F ≤ k2 * sq s.F) :
    (stp r s load k2).L ≤ (stp r s load k).L ∧ (stp r s load k2).F ≤ (stp r s load k).F := by
  have r1 := hr.I; have r2 := hr.A
  unfold stp
  dsimp only
  have h1 := tdiv_mono h
  have h2 := ediv_mono (c := r.I) (show s.L + (k * sq s.F).tdiv 1000 + (r.T * sq (s.F - load)).tdiv 1000 ≤ s.L + (k2 * sq s.F).tdiv 1000 + (r.T * sq (s.F - load)).tdiv 1000 by omega) (by omega)
  generalize (s.L + (k * sq s.F).tdiv 1000 + (r.T * sq (s.F - load)).tdiv 1000) / r.I = q1 at *
  generalize (s.L + (k2 * sq s.F).tdiv 1000 + (r.T * sq (s.F - load)).tdiv 1000) / r.I = q2 at *
  have h3 := ediv_mono (c := r.A) (show min 1000 (max (-1000) (s.F - q2)) - load ≤ min 1000 (max (-1000) (s.F - q1)) - load by omega) (by omega)
  constructor <;> omega

/-- Between the ends of the frictions. -/
theorem stp_k {r : Ru} (hr : Good r) {s : Sta} {load k : Int} (hk : r.lo ≤ k ∧ k ≤ r.hi) :
    (min (stp r s load r.lo).L (stp r s load r.hi).L ≤ (stp r s load k).L ∧ (stp r s load k).L ≤ max (stp r s load r.lo).L (stp r s load r.hi).L) ∧
    (min (stp r s load r.lo).F (stp r s load r.hi).F ≤ (stp r s load k).F ∧ (stp r s load k).F ≤ max (stp r s load r.lo).F (stp r s load r.hi).F) := by
  by_cases h : 0 ≤ sq s.F
  · have a := stp_k1 hr (s := s) (load := load) (Int.mul_le_mul_of_nonneg_right hk.1 h)
    have b := stp_k1 hr (s := s) (load := load) (Int.mul_le_mul_of_nonneg_right hk.2 h)
    omega
  · have a := stp_k1 hr (s := s) (load := load) (Int.mul_le_mul_of_nonpos_right hk.1 (by omega))
    have b := stp_k1 hr (s := s) (load := load) (Int.mul_le_mul_of_nonpos_right hk.2 (by omega))
    omega
end Go.DI.Sg

