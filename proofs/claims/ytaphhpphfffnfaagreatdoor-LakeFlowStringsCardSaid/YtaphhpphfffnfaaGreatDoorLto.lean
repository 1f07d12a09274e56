/- Lakes as plain data: the volume at a level, the level at a volume. -/
import Derived.Test.YtaphhpphfffnfaaGreatDoorLtn
namespace Go.DI.Lk

def dh (l : List Kn) (i : Nat) : Int := (kn l i).1 - (kn l (i - 1)).1
def dv (l : List Kn) (i : Nat) : Int := (kn l i).2 - (kn l (i - 1)).2
/-- Rounded up. -/
def cdiv (n d : Int) : Int := -(-n / d)

theorem le_ediv {x n d : Int} (hd : 0 < d) : x ≤ n / d ↔ x * d ≤ n := Int.le_ediv_iff_mul_le hd
theorem cdiv_le {x n d : Int} (hd : 0 < d) : cdiv n d ≤ x ↔ n ≤ x * d := by
  unfold cdiv
  have := @le_ediv (-x) (-n) d hd
  rw [Int.neg_mul] at this
  omega
theorem cdiv_eq {n d : Int} (hd : 0 < d) : cdiv n d = n / d + min (n % d) 1 := by
  have h1 := Int.emod_nonneg n (show d ≠ 0 by omega)
  have h2 := Int.emod_lt_of_pos n hd
  have h3 := Int.mul_ediv_add_emod n d
  by_cases h : n % d = 0
  · rw [h, show min (0:Int) 1 = 0 from rfl, Int.add_zero]
    apply Int.le_antisymm
    · rw [cdiv_le hd, Int.mul_comm]; omega
    · rcases Int.lt_or_le (cdiv n d) (n / d) with k | k
      · exfalso
        have : cdiv n d ≤ n / d - 1 := by omega
        rw [cdiv_le hd, Int.sub_mul, Int.mul_comm] at this
        omega
      · exact k
  · rw [show min (n % d) 1 = 1 by omega]
    apply Int.le_antisymm
    · rw [cdiv_le hd, Int.add_mul, Int.mul_comm (n / d)]; omega
    · rcases Int.lt_or_le (cdiv n d) (n / d + 1) with k | k
      · exfalso
        have : cdiv n d ≤ n / d := by omega
        rw [cdiv_le hd, Int.mul_comm] at this
        omega
      · exact k

def volLo (l : List Kn) (x : Int) : Int := (kn l (atL l x - 1)).2 + ((x - (kn l (atL l x - 1)).1) * dv l (atL l x)) / dh l (atL l x)
def volHi (l : List Kn) (x : Int) : Int := (kn l (atL l x - 1)).2 + cdiv ((x - (kn l (atL l x - 1)).1) * dv l (atL l x)) (dh l (atL l x))
def levLo (l : List Kn) (v : Int) : Int := (kn l (atV l v - 1)).1 + ((v - (kn l (atV l v - 1)).2) * dh l (atV l v)) / dv l (atV l v)
def levHi (l : List Kn) (v : Int) : Int := (kn l (atV l v - 1)).1 + cdiv ((v - (kn l (atV l v - 1)).2) * dh l (atV l v)) (dv l (atV l v))

def isL (l : List Kn) (x : Int) : Prop := Wi x (bot l).1 (top l).1
def isV (l : List Kn) (v : Int) : Prop := Wi v (bot l).2 (top l).2
instance (l : List Kn) (x : Int) : Decidable (isL l x) := inferInstanceAs (Decidable (Wi _ _ _))
instance (l : List Kn) (x : Int) : Decidable (isV l x) := inferInstanceAs (Decidable (Wi _ _ _))

theorem dh_pos {l : List Kn} (h : Valid l) {i : Nat} (h0 : 0 < i) (hi : i < l.length) : 0 < dh l i ∧ dh l i ≤ 1000000 := by
  have := h.up h0 hi
  have := h.range hi
  have := h.range (i := i - 1) (by omega)
  unfold dh; omega
theorem dv_pos {l : List Kn} (h : Valid l) {i : Nat} (h0 : 0 < i) (hi : i < l.length) : 0 < dv l i ∧ dv l i ≤ 1000000000 := by
  have := h.up h0 hi
  have := h.range hi
  have := h.range (i := i - 1) (by omega)
  unfold dv; omega

/-- The piece at a volume: between its knots. -/
theorem at_volume {l : List Kn} (h : Valid l) {v : Int} (hv : isV l v) : ∃ i, atV l v = i ∧ 0 < i ∧ i < l.length ∧ (kn l (i - 1)).2 ≤ v ∧ v ≤ (kn l i).2 ∧ (1 < i → (kn l (i - 1)).2 < v) := by
  obtain ⟨h1, h2, h3, h4⟩ := atV_spec h hv.2
  refine ⟨_, rfl, h1, h2, ?_, h3, h4⟩
  by_cases k : 1 < atV l v
  · have := h4 k; omega
  · have e : atV l v - 1 = 0 := by omega
    rw [e]; exact hv.1
theorem at_level {l : List Kn} (h : Valid l) {v : Int} (hv : isL l v) : ∃ i, atL l v = i ∧ 0 < i ∧ i < l.length ∧ (kn l (i - 1)).1 ≤ v ∧ v ≤ (kn l i).1 ∧ (1 < i → (kn l (i - 1)).1 < v) := by
  obtain ⟨h1, h2, h3, h4⟩ := atL_spec h hv.2
  refine ⟨_, rfl, h1, h2, ?_, h3, h4⟩
  by_cases k : 1 < atL l v
  · have := h4 k; omega
  · have e : atL l v - 1 = 0 := by omega
    rw [e]; exact hv.1

/-- A share of a piece lies in it. -/
theorem share {n d e : Int} (hd : 0 < d) (h0 : 0 ≤ n) (h1 : n ≤ d) (he : 0 < e) : 0 ≤ n * e ∧ n * e ≤ d * e ∧ 0 ≤ n * e / d ∧ n * e / d ≤ e ∧ 0 ≤ cdiv (n * e) d ∧ cdiv (n * e) d ≤ e ∧ n * e / d ≤ cdiv (n * e) d ∧ cdiv (n * e) d ≤ n * e / d + 1 := by
  have a1 : 0 ≤ n * e := Int.mul_nonneg h0 (by omega)
  have a2 : n * e ≤ d * e := Int.mul_le_mul_of_nonneg_right h1 (by omega)
  have a3 : 0 ≤ n * e / d := Int.ediv_nonneg a1 (by omega)
  have a4 : n * e / d ≤ e := by
    rcases Int.lt_or_le e (n * e / d) with k | k
    · have : e + 1 ≤ n * e / d := by omega
      rw [le_ediv hd, Int.add_mul, Int.mul_comm e d] at this
      omega
    · exact k
  have a5 : cdiv (n * e) d ≤ e := by rw [cdiv_le hd, Int.mul_comm e]; omega
  have a6 := cdiv_eq (n := n * e) hd
  have a7 := Int.emod_nonneg (n * e) (show d ≠ 0 by omega)
  refine ⟨a1, a2, a3, a4, by omega, a5, by omega, by omega⟩

theorem level_in {l : List Kn} (h : Valid l) {v : Int} (hv : isV l v) {i : Nat} (hi : atV l v = i) : (kn l (i - 1)).1 ≤ levLo l v ∧ levLo l v ≤ levHi l v ∧ levHi l v ≤ (kn l i).1 ∧ levHi l v ≤ levLo l v + 1 := by
  obtain ⟨j, hj, h1, h2, h3, h4, h5⟩ := at_volume h hv
  have : i = j := by omega
  subst this
  have := share (n := v - (kn l (i - 1)).2) (d := dv l i) (e := dh l i) (dv_pos h h1 h2).1 (by omega) (by unfold dv; omega) (dh_pos h h1 h2).1
  unfold levLo levHi
  rw [hi]
  have e : dh l i = (kn l i).1 - (kn l (i - 1)).1 := rfl
  omega
theorem volume_in {l : List Kn} (h : Valid l) {v : Int} (hv : isL l v) {i : Nat} (hi : atL l v = i) : (kn l (i - 1)).2 ≤ volLo l v ∧ volLo l v ≤ volHi l v ∧ volHi l v ≤ (kn l i).2 ∧ volHi l v ≤ volLo l v + 1 := by
  obtain ⟨j, hj, h1, h2, h3, h4, h5⟩ := at_level h hv
  have : i = j := by omega
  subst this
  have := share (n := v - (kn l (i - 1)).1) (d := dh l i) (e := dv l i) (dh_pos h h1 h2).1 (by omega) (by unfold dh; omega) (dv_pos h h1 h2).1
  unfold volLo volHi
  rw [hi]
  have e : dv l i = (kn l i).2 - (kn l (i - 1)).2 := rfl
  omega

/-- What evaporates, a step. -/
def evap (l : List Kn) (rate v : Int) : Int := min (rate * dv l (atV l v) / (1000 * dh l (atV l v))) (v - (bot l).2)

theorem evap_in {l : List Kn} (h : Valid l) {v rate : Int} (hv : isV l v) (hr : 0 ≤ rate) : 0 ≤ evap l rate v ∧ evap l rate v ≤ v - (bot l).2 := by
  obtain ⟨i, hi, i1, i2, i3, i4, i5⟩ := at_volume h hv
  have dp := dh_pos h i1 i2
  have dq := dv_pos h i1 i2
  unfold evap
  rw [hi]
  have : 0 ≤ rate * dv l i / (1000 * dh l i) := Int.ediv_nonneg (Int.mul_nonneg hr (by omega)) (by omega)
  have := hv.1
  omega
structure Flow where
  up : Int
  low : Int
  ex : Int
structure Pair where
  u : List Kn
  l : List Kn
  rate : Int
abbrev Sta := Int × Int

/-- One lake of a step: the volume behind it, what is spilled; none: it is not possible. -/
def lakeStep (l : List Kn) (rate v grow : Int) : Option (Int × Int × Int) :=
  let w := v + grow - evap l rate v
  if w < (bot l).2 then none else some (w - max 0 (w - (top l).2), evap l rate v, max 0 (w - (top l).2))

def step (p : Pair) (s : Sta) (x : Flow) : Option (Sta × Int × Int) :=
  match lakeStep p.u p.rate s.1 (x.up + x.ex), lakeStep p.l p.rate s.2 (x.low - x.ex) with
  | some (a, e, f), some (b, g, k) => some ((a, b), e + g, f + k)
  | _, _ => none

def flowOk (x : Flow) : Prop := Wi x.up 0 10000000 ∧ Wi x.low 0 10000000 ∧ Wi x.ex (-10000000) 10000000
instance (x : Flow) : Decidable (flowOk x) := inferInstanceAs (Decidable (_ ∧ _))

end Go.DI.Lk

