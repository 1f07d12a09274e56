/- Ticks make no energy; what bounds the numbers of a run. No condition. -/
import Derived.Test.YtadmimjaelodkaaWhj
set_option linter.unusedSimpArgs false
namespace Go.DI

def enF (y F B : Nat → Int) (i : Nat) : Int := 2 * y i * (F i * F i + B i * B i)
/-- The energy of a state, without an end of numbers. -/
def EnI (x : Ln) (s : Ws) : Int := sumN (opn x).n.toNat (enF (fun i => (admL x.pp).getD i 0) (fun i => s.F.getD i 0) (fun i => s.B.getD i 0)) + sumN x.ar.length (fun j => x.ar.getD j 0 * (s.L.getD j 0 * s.L.getD j 0))
theorem enF_out {y F B : Nat → Int} {N : Nat} : sumN (N + 1) (enF y F B) = sumN N (fun i => 2 * y (i + 1) * (F (i + 1) * F (i + 1)) + 2 * y i * (B i * B i)) + 2 * y 0 * (F 0 * F 0) + 2 * y N * (B N * B N) := by
  rw [sumN_congr (k := N + 1) (g := fun i => 2 * y i * (F i * F i) + 2 * y i * (B i * B i)) (fun i _ => by unfold enF; grind), sumN_add, sumN_shift, sumN_succ (f := fun i => 2 * y i * (B i * B i)), sumN_add]
  omega
theorem enF_in {y F B : Nat → Int} {N : Nat} : sumN (N + 1) (enF y F B) = sumN N (fun i => 2 * y i * (F i * F i) + 2 * y (i + 1) * (B (i + 1) * B (i + 1))) + 2 * y N * (F N * F N) + 2 * y 0 * (B 0 * B 0) := by
  rw [sumN_congr (k := N + 1) (g := fun i => 2 * y i * (F i * F i) + 2 * y i * (B i * B i)) (fun i _ => by unfold enF; grind), sumN_add, sumN_shift (f := fun i => 2 * y i * (B i * B i)), sumN_succ (f := fun i => 2 * y i * (F i * F i)), sumN_add]
  omega
theorem getD_take {l : List Int} {i k : Nat} (h : i < k) : (l.take k).getD i 0 = l.getD i 0 := by
  simp only [List.getD_eq_getElem?_getD]
  rw [List.getElem?_take_of_lt h]
theorem base_F0 {x : Ow} {s : Ws} {c : Int} : (baseS x s c).F.getD 0 0 = W6 (0 - s.B.getD 0 0) := rfl
theorem base_Fi {x : Ow} {s : Ws} {c : Int} {i : Nat} (h : i + 1 < x.n.toNat) : (baseS x s c).F.getD (i + 1) 0 = s.F.getD i 0 := by
  unfold baseS
  simp only [List.getD_cons_succ]
  exact getD_take (by omega)
theorem base_Bi {x : Ow} {s : Ws} {c : Int} {i : Nat} (hB : (s.B.length : Int) = x.n) (h : i + 1 < x.n.toNat) : (baseS x s c).B.getD i 0 = s.B.getD (i + 1) 0 := by
  unfold baseS
  simp only [List.getD_eq_getElem?_getD]
  rw [List.getElem?_append_left (by rw [List.length_drop]; omega), List.getElem?_drop, Nat.add_comm]
theorem base_BN {x : Ow} {s : Ws} {c : Int} {N : Nat} (hB : (s.B.length : Int) = x.n) (h : x.n.toNat = N + 1) : (baseS x s c).B.getD N 0 = W6 (s.F.getD N 0 + c) := by
  unfold baseS
  simp only [List.getD_eq_getElem?_getD]
  rw [List.getElem?_append_right (by rw [List.length_drop]; omega), List.length_drop, show N - (s.B.length - 1) = 0 by omega, show x.n.toNat - 1 = N by omega]
  rfl
structure StpAt (x : Ln) (s : Ws) (c : Int) (N : Nat) (s' : Ws) : Prop where
  f0 : s'.F.getD 0 0 = -(s.B.getD 0 0)
  bN : s'.B.getD N 0 = s.F.getD N 0 + c
  fi : ∀ i, i < N → (∀ j, j < x.ar.length → bJ x j ≠ i) → s'.F.getD (i + 1) 0 = s.F.getD i 0 ∧ s'.B.getD i 0 = s.B.getD (i + 1) 0
  fj : ∀ j, j < x.ar.length → s'.F.getD (bJ x j + 1) 0 = pJ x s j - s.B.getD (bJ x j + 1) 0 ∧ s'.B.getD (bJ x j) 0 = pJ x s j - s.F.getD (bJ x j) 0 ∧ s'.L.getD j 0 = pJ x s j
theorem stp_at {x : Ln} {s : Ws} {c M : Int} {N : Nat} (hx : LineOk x) (hs : Sh (opn x) s) (hg : Gd M s) (hM : M ≤ 10000000) (hc : -10000000 ≤ c ∧ c ≤ 10000000) (hN : (opn x).n.toNat = N + 1) : StpAt x s c N (stp (opn x) s c) := by
  have hn := (opn_ok hx).nb
  have hB := hs.b
  obtain ⟨h1, h2, h3⟩ := jncs_at (o := baseS (opn x) s c) hx hg hM (sh_base hs hn.1) x.ar.length (Nat.le_refl _)
  have b0 := (hg.b 0).2
  have bN := (hg.b N).1
  refine ⟨?_, ?_, fun i hi hj => ⟨?_, ?_⟩, h1⟩
  · show (jncs (opn x) s x.ar.length (baseS (opn x) s c)).F.getD 0 0 = _
    rw [h2 0 fun j _ => by omega, base_F0, w6 (by omega) (by omega)]; omega
  · show (jncs (opn x) s x.ar.length (baseS (opn x) s c)).B.getD N 0 = _
    rw [h3 N fun j hj => by have := (j_ok hx hj).lt; omega, base_BN hB hN, w6 (by omega) (by omega)]
  · show (jncs (opn x) s x.ar.length (baseS (opn x) s c)).F.getD (i + 1) 0 = _
    rw [h2 (i + 1) fun j hk => by have := hj j hk; omega, base_Fi (by omega)]
  · show (jncs (opn x) s x.ar.length (baseS (opn x) s c)).B.getD i 0 = _
    rw [h3 i hj, base_Bi hB (by omega)]
/-- What a tick adds to the energy. -/
theorem en_step {x : Ln} {s s' : Ws} {c : Int} {N : Nat} (hx : LineOk x) (hN : (opn x).n.toNat = N + 1) (h : StpAt x s c N s') :
    EnI x s' = EnI x s + 2 * (admL x.pp).getD N 0 * (2 * s.F.getD N 0 * c + c * c) + sumN x.ar.length (fun j => 2 * (admL x.pp).getD (bJ x j + 1) 0 * ((pJ x s j - s.B.getD (bJ x j + 1) 0) * (pJ x s j - s.B.getD (bJ x j + 1) 0)) + 2 * (admL x.pp).getD (bJ x j) 0 * ((pJ x s j - s.F.getD (bJ x j) 0) * (pJ x s j - s.F.getD (bJ x j) 0)) - 2 * (admL x.pp).getD (bJ x j) 0 * (s.F.getD (bJ x j) 0 * s.F.getD (bJ x j) 0) - 2 * (admL x.pp).getD (bJ x j + 1) 0 * (s.B.getD (bJ x j + 1) 0 * s.B.getD (bJ x j + 1) 0) + x.ar.getD j 0 * (pJ x s j * pJ x s j - s.L.getD j 0 * s.L.getD j 0)) := by
  unfold EnI
  rw [hN, enF_out (F := fun i => s'.F.getD i 0), enF_in (F := fun i => s.F.getD i 0)]
  simp only [h.f0, h.bN]
  have hsp := sumN_sparse (N := N) (b := bJ x) (m := x.ar.length)
    (f := fun i => (2 * (admL x.pp).getD (i + 1) 0 * (s'.F.getD (i + 1) 0 * s'.F.getD (i + 1) 0) + 2 * (admL x.pp).getD i 0 * (s'.B.getD i 0 * s'.B.getD i 0)) - (2 * (admL x.pp).getD i 0 * (s.F.getD i 0 * s.F.getD i 0) + 2 * (admL x.pp).getD (i + 1) 0 * (s.B.getD (i + 1) 0 * s.B.getD (i + 1) 0)))
    (fun j hj => by have := (j_ok hx hj).lt; omega) (fun i j hi hj => bJ_inj hx hi hj) (fun i hi hj => by
      obtain ⟨e1, e2⟩ := h.fi i hi hj
      have e3 := no_junction hx (i := i) (by omega) hj
      simp only [e1, e2, e3]
      omega)
  have hcg : sumN x.ar.length (fun j => 2 * (admL x.pp).getD (bJ x j + 1) 0 * ((pJ x s j - s.B.getD (bJ x j + 1) 0) * (pJ x s j - s.B.getD (bJ x j + 1) 0)) + 2 * (admL x.pp).getD (bJ x j) 0 * ((pJ x s j - s.F.getD (bJ x j) 0) * (pJ x s j - s.F.getD (bJ x j) 0)) - 2 * (admL x.pp).getD (bJ x j) 0 * (s.F.getD (bJ x j) 0 * s.F.getD (bJ x j) 0) - 2 * (admL x.pp).getD (bJ x j + 1) 0 * (s.B.getD (bJ x j + 1) 0 * s.B.getD (bJ x j + 1) 0) + x.ar.getD j 0 * (pJ x s j * pJ x s j - s.L.getD j 0 * s.L.getD j 0)) =
      sumN x.ar.length (fun j => ((2 * (admL x.pp).getD (bJ x j + 1) 0 * (s'.F.getD (bJ x j + 1) 0 * s'.F.getD (bJ x j + 1) 0) + 2 * (admL x.pp).getD (bJ x j) 0 * (s'.B.getD (bJ x j) 0 * s'.B.getD (bJ x j) 0)) - (2 * (admL x.pp).getD (bJ x j) 0 * (s.F.getD (bJ x j) 0 * s.F.getD (bJ x j) 0) + 2 * (admL x.pp).getD (bJ x j + 1) 0 * (s.B.getD (bJ x j + 1) 0 * s.B.getD (bJ x j + 1) 0))) + (x.ar.getD j 0 * (s'.L.getD j 0 * s'.L.getD j 0) - x.ar.getD j 0 * (s.L.getD j 0 * s.L.getD j 0))) := by
    refine sumN_congr fun j hj => ?_
    obtain ⟨e1, e2, e3⟩ := h.fj j hj
    simp only [e1, e2, e3, Int.mul_sub]
    omega
  have hT := hcg.trans (sumN_add (f := fun j => (2 * (admL x.pp).getD (bJ x j + 1) 0 * (s'.F.getD (bJ x j + 1) 0 * s'.F.getD (bJ x j + 1) 0) + 2 * (admL x.pp).getD (bJ x j) 0 * (s'.B.getD (bJ x j) 0 * s'.B.getD (bJ x j) 0)) - (2 * (admL x.pp).getD (bJ x j) 0 * (s.F.getD (bJ x j) 0 * s.F.getD (bJ x j) 0) + 2 * (admL x.pp).getD (bJ x j + 1) 0 * (s.B.getD (bJ x j + 1) 0 * s.B.getD (bJ x j + 1) 0))) (g := fun j => x.ar.getD j 0 * (s'.L.getD j 0 * s'.L.getD j 0) - x.ar.getD j 0 * (s.L.getD j 0 * s.L.getD j 0)))
  rw [hT, ← hsp, sumN_sub (k := N), sumN_sub (k := x.ar.length)]
  generalize sumN N _ = S1 at *
  generalize sumN N _ = S2 at *
  generalize sumN x.ar.length _ = S3
  generalize sumN x.ar.length _ = S4
  rw [Int.neg_mul_neg]
  grind
theorem en_le {x : Ln} {s s' : Ws} {c : Int} {N : Nat} (hx : LineOk x) (hN : (opn x).n.toNat = N + 1) (h : StpAt x s c N s') :
    EnI x s' ≤ EnI x s + 2 * (admL x.pp).getD N 0 * (2 * s.F.getD N 0 * c + c * c) := by
  have h1 := en_step hx hN h
  have h2 := sumN_nonpos (k := x.ar.length) (f := fun j => 2 * (admL x.pp).getD (bJ x j + 1) 0 * ((pJ x s j - s.B.getD (bJ x j + 1) 0) * (pJ x s j - s.B.getD (bJ x j + 1) 0)) + 2 * (admL x.pp).getD (bJ x j) 0 * ((pJ x s j - s.F.getD (bJ x j) 0) * (pJ x s j - s.F.getD (bJ x j) 0)) - 2 * (admL x.pp).getD (bJ x j) 0 * (s.F.getD (bJ x j) 0 * s.F.getD (bJ x j) 0) - 2 * (admL x.pp).getD (bJ x j + 1) 0 * (s.B.getD (bJ x j + 1) 0 * s.B.getD (bJ x j + 1) 0) + x.ar.getD j 0 * (pJ x s j * pJ x s j - s.L.getD j 0 * s.L.getD j 0)) (fun j hj => by
    have hlt := (j_ok hx hj).lt
    exact jI_energy (adm_bd hx (by omega)).1 (adm_bd hx (by omega)).1 (ar_bd hx j).1)
  omega
theorem enF_nonneg {x : Ln} {s : Ws} (hx : LineOk x) {i : Nat} (hi : i < (opn x).n.toNat) : 0 ≤ enF (fun i => (admL x.pp).getD i 0) (fun i => s.F.getD i 0) (fun i => s.B.getD i 0) i := by
  have := adm_bd hx hi
  show 0 ≤ 2 * (admL x.pp).getD i 0 * (s.F.getD i 0 * s.F.getD i 0 + s.B.getD i 0 * s.B.getD i 0)
  exact Int.mul_nonneg (by omega) (Int.add_nonneg (sq_nonneg _) (sq_nonneg _))
theorem enL_nonneg {x : Ln} {s : Ws} (hx : LineOk x) (j : Nat) : 0 ≤ x.ar.getD j 0 * (s.L.getD j 0 * s.L.getD j 0) := Int.mul_nonneg (ar_bd hx j).1 (sq_nonneg _)
/-- The energy bounds each pressure. -/
theorem en_cell {x : Ln} {s : Ws} (hx : LineOk x) {i : Nat} (hi : i < (opn x).n.toNat) : 2 * (admL x.pp).getD i 0 * (s.F.getD i 0 * s.F.getD i 0) ≤ EnI x s ∧ 2 * (admL x.pp).getD i 0 * (s.B.getD i 0 * s.B.getD i 0) ≤ EnI x s := by
  have h1 := sumN_term (k := (opn x).n.toNat) (f := enF (fun i => (admL x.pp).getD i 0) (fun i => s.F.getD i 0) (fun i => s.B.getD i 0)) (fun i hi => enF_nonneg (s := s) hx hi) hi
  have h2 := sumN_nonneg (k := x.ar.length) fun j _ => enL_nonneg (s := s) hx j
  have hy := adm_bd hx hi
  have e1 := Int.mul_nonneg (show 0 ≤ 2 * (admL x.pp).getD i 0 by omega) (sq_nonneg (s.F.getD i 0))
  have e2 := Int.mul_nonneg (show 0 ≤ 2 * (admL x.pp).getD i 0 by omega) (sq_nonneg (s.B.getD i 0))
  unfold enF at h1
  simp only [Int.mul_add] at h1
  unfold EnI
  unfold enF
  simp only [Int.mul_add]
  omega
theorem en_bd {x : Ln} {s : Ws} {M : Int} (hx : LineOk x) (hs : Sh (opn x) s) (hM : 0 ≤ M) (h : EnI x s ≤ 2 * (M * M)) : BdS M s := by
  intro i
  by_cases hi : i < (opn x).n.toNat
  · obtain ⟨h1, h2⟩ := en_cell (s := s) hx hi
    have hy := adm_bd hx hi
    have k1 : 2 * (s.F.getD i 0 * s.F.getD i 0) ≤ 2 * (admL x.pp).getD i 0 * (s.F.getD i 0 * s.F.getD i 0) := Int.mul_le_mul_of_nonneg_right (by omega) (sq_nonneg _)
    have k2 : 2 * (s.B.getD i 0 * s.B.getD i 0) ≤ 2 * (admL x.pp).getD i 0 * (s.B.getD i 0 * s.B.getD i 0) := Int.mul_le_mul_of_nonneg_right (by omega) (sq_nonneg _)
    exact ⟨sq_le hM (by omega), sq_le hM (by omega)⟩
  · have hF := hs.f
    have hB := hs.b
    rw [getD_out (by omega), getD_out (by omega)]
    omega
/-- A state after a tick: as small as its energy says. -/
theorem gd_step {x : Ln} {s : Ws} {c M : Int} {N : Nat} (hx : LineOk x) (hs : Sh (opn x) s) (hg : Gd M s) (hM : 0 ≤ M ∧ M ≤ 10000000) (hc : -10000000 ≤ c ∧ c ≤ 10000000) (hN : (opn x).n.toNat = N + 1) (h : EnI x (stp (opn x) s c) ≤ 2 * (M * M)) : Gd M (stp (opn x) s c) := by
  have hn := (opn_ok hx).nb
  have hat := stp_at hx hs hg hM.2 hc hN
  have hsh := sh_stp (c := c) hs hn.1
  refine ⟨en_bd hx hsh hM.1 h, fun j => ?_⟩
  by_cases hj : j < x.ar.length
  · rw [(hat.fj j hj).2.2]
    exact pJ_bd hx hg hj
  · have hL := hsh.l
    rw [getD_out (by rw [hL]; exact Nat.le_of_not_lt hj)]
    omega
end Go.DI

