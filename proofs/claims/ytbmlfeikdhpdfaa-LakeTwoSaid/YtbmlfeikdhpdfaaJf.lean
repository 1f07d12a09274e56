/- Lakes and fractions as plain data. No condition. -/
import Derived.Test.YtbmlfeikdhpdfaaJe
/- Lakes as plain data: tables, levels, volumes; no program in sight. -/
namespace Go.DI.Lk

abbrev Kn := Int × Int
def Wi (n lo hi : Int) : Prop := lo ≤ n ∧ n ≤ hi
instance (n lo hi : Int) : Decidable (Wi n lo hi) := inferInstanceAs (Decidable (_ ∧ _))

/-- The first place at which f is not 0, and f there. -/
def firstE (f : Nat → Int) : Nat → Nat → Int × Int
  | 0, _ => (0, 0)
  | m + 1, i => if f i = 0 then firstE f m (i + 1) else ((i : Int), f i)

theorem firstE_ok {f : Nat → Int} : ∀ {m i : Nat}, (firstE f m i).2 = 0 ↔ ∀ j, i ≤ j → j < i + m → f j = 0
  | 0, i => by simp [firstE]; intro j h1 h2; omega
  | m + 1, i => by
    unfold firstE
    split
    · rename_i h
      rw [firstE_ok]
      constructor
      · intro k j h1 h2
        by_cases e : j = i
        · subst e; exact h
        · exact k j (by omega) (by omega)
      · intro k j h1 h2; exact k j (by omega) (by omega)
    · rename_i h
      constructor
      · intro k; exact absurd k h
      · intro k; exact absurd (k i (by omega) (by omega)) h

theorem firstE_pair {f : Nat → Int} : ∀ {m i : Nat}, (firstE f m i).2 = 0 → firstE f m i = (0, 0)
  | 0, i, _ => rfl
  | m + 1, i, h => by
    unfold firstE at h ⊢
    split
    · rename_i k; rw [if_pos k] at h; exact firstE_pair h
    · rename_i k; rw [if_neg k] at h; exact absurd h k

def kn (l : List Kn) (i : Nat) : Kn := l.getD i default

def knotErr (l : List Kn) (i : Nat) : Int :=
  if ¬ (Wi (kn l i).1 0 1000000 ∧ Wi (kn l i).2 0 1000000000) then 2
  else if i = 0 then 0
  else if (kn l i).1 ≤ (kn l (i - 1)).1 ∨ (kn l i).2 ≤ (kn l (i - 1)).2 then 9
  else if 1 < i ∧ ((kn l i).2 - (kn l (i - 1)).2) * ((kn l (i - 1)).1 - (kn l (i - 2)).1) < ((kn l (i - 1)).2 - (kn l (i - 2)).2) * ((kn l i).1 - (kn l (i - 1)).1) then 22
  else 0

def chkT (l : List Kn) : Int × Int :=
  if l.length < 2 then (0, 10) else if 10 < l.length then (0, 8) else firstE (knotErr l) l.length 0

structure Valid (l : List Kn) : Prop where
  two : 2 ≤ l.length
  ten : l.length ≤ 10
  ok : ∀ i, i < l.length → knotErr l i = 0

theorem chkT_ok {l : List Kn} : (chkT l).2 = 0 ↔ Valid l := by
  unfold chkT
  split
  · constructor
    · intro h; cases h
    · intro h; have := h.two; omega
  · split
    · constructor
      · intro h; cases h
      · intro h; have := h.ten; omega
    · rw [firstE_ok]
      constructor
      · intro h; exact ⟨by omega, by omega, fun i hi => h i (by omega) (by omega)⟩
      · intro h j h1 h2; exact h.ok j (by omega)

theorem chkT_valid {l : List Kn} (h : Valid l) : chkT l = (0, 0) := by
  have h2 := chkT_ok.2 h
  unfold chkT at h2 ⊢
  rw [if_neg (by have := h.two; omega), if_neg (by have := h.ten; omega)] at h2 ⊢
  exact firstE_pair h2

theorem Valid.range {l : List Kn} (h : Valid l) {i : Nat} (hi : i < l.length) : 0 ≤ (kn l i).1 ∧ (kn l i).1 ≤ 1000000 ∧ 0 ≤ (kn l i).2 ∧ (kn l i).2 ≤ 1000000000 := by
  have := h.ok i hi
  unfold knotErr at this
  split at this
  · omega
  · rename_i k; simp only [Decidable.not_not, Wi] at k; omega

theorem Valid.up {l : List Kn} (h : Valid l) {i : Nat} (h0 : 0 < i) (hi : i < l.length) : (kn l (i - 1)).1 < (kn l i).1 ∧ (kn l (i - 1)).2 < (kn l i).2 := by
  have := h.ok i hi
  unfold knotErr at this
  split at this
  · omega
  · split at this
    · omega
    · split at this
      · omega
      · omega

theorem Valid.wider {l : List Kn} (h : Valid l) {i : Nat} (h0 : 1 < i) (hi : i < l.length) :
    ((kn l (i - 1)).2 - (kn l (i - 2)).2) * ((kn l i).1 - (kn l (i - 1)).1) ≤ ((kn l i).2 - (kn l (i - 1)).2) * ((kn l (i - 1)).1 - (kn l (i - 2)).1) := by
  have := h.ok i hi
  unfold knotErr at this
  split at this
  · omega
  · split at this
    · omega
    · split at this
      · omega
      · split at this
        · omega
        · omega

theorem Valid.le {l : List Kn} (h : Valid l) {j : Nat} (hj : j < l.length) : ∀ {i : Nat}, i ≤ j → (kn l i).1 ≤ (kn l j).1 ∧ (kn l i).2 ≤ (kn l j).2 := by
  induction j with
  | zero => intro i hi; have : i = 0 := by omega
            subst this; omega
  | succ j ih =>
    intro i hi
    by_cases e : i = j + 1
    · subst e; omega
    · have h1 := @ih (by omega) i (by omega)
      have h2 := h.up (i := j + 1) (by omega) hj
      simp only [Nat.add_sub_cancel] at h2
      omega

theorem Valid.lt {l : List Kn} (h : Valid l) {i j : Nat} (hj : j < l.length) (hij : i < j) : (kn l i).1 < (kn l j).1 ∧ (kn l i).2 < (kn l j).2 := by
  have h1 := h.le (j := j - 1) (by omega) (i := i) (by omega)
  have h2 := h.up (i := j) (by omega) hj
  omega

def bot (l : List Kn) : Kn := kn l 0
def top (l : List Kn) : Kn := kn l (l.length - 1)

/-- The first place from i on at which a knot is high enough. -/
def idx (p : Kn → Bool) (l : List Kn) : Nat → Nat → Nat
  | 0, i => i
  | m + 1, i => if p (kn l i) then i else idx p l m (i + 1)

theorem idx_spec {p : Kn → Bool} {l : List Kn} : ∀ {m i : Nat}, i ≤ idx p l m i ∧ idx p l m i ≤ i + m ∧ (∀ j, i ≤ j → j < idx p l m i → p (kn l j) = false) ∧ (idx p l m i < i + m → p (kn l (idx p l m i)) = true)
  | 0, i => by unfold idx; exact ⟨by omega, by omega, fun j h1 h2 => by omega, fun h => by omega⟩
  | m + 1, i => by
    unfold idx
    split
    · rename_i h; exact ⟨by omega, by omega, fun j h1 h2 => by omega, fun _ => h⟩
    · rename_i h
      obtain ⟨h1, h2, h3, h4⟩ := @idx_spec p l m (i + 1)
      refine ⟨by omega, by omega, fun j k1 k2 => ?_, fun k => h4 (by omega)⟩
      by_cases e : j = i
      · subst e; simpa using h
      · exact h3 j (by omega) k2

/-- The piece of a volume, the piece of a level: its upper knot. -/
def atV (l : List Kn) (v : Int) : Nat := idx (fun k => decide (v ≤ k.2)) l (l.length - 1) 1
def atL (l : List Kn) (v : Int) : Nat := idx (fun k => decide (v ≤ k.1)) l (l.length - 1) 1

theorem atV_spec {l : List Kn} {v : Int} (h : Valid l) (hv : v ≤ (top l).2) : 1 ≤ atV l v ∧ atV l v < l.length ∧ v ≤ (kn l (atV l v)).2 ∧ (1 < atV l v → (kn l (atV l v - 1)).2 < v) := by
  have h2 := h.two
  obtain ⟨h1, h3, h4, h5⟩ := @idx_spec (fun k => decide (v ≤ k.2)) l (l.length - 1) 1
  unfold atV
  generalize idx (fun k => decide (v ≤ k.2)) l (l.length - 1) 1 = i at *
  have hi : i < l.length := by
    apply Decidable.byContradiction
    intro hn
    have := h4 (l.length - 1) (by omega) (by omega)
    simp at this
    unfold top at hv
    omega
  refine ⟨h1, hi, ?_, fun hk => ?_⟩
  · simpa using h5 (by omega)
  · have := h4 (i - 1) (by omega) (by omega)
    simpa using this

theorem atL_spec {l : List Kn} {v : Int} (h : Valid l) (hv : v ≤ (top l).1) : 1 ≤ atL l v ∧ atL l v < l.length ∧ v ≤ (kn l (atL l v)).1 ∧ (1 < atL l v → (kn l (atL l v - 1)).1 < v) := by
  have h2 := h.two
  obtain ⟨h1, h3, h4, h5⟩ := @idx_spec (fun k => decide (v ≤ k.1)) l (l.length - 1) 1
  unfold atL
  generalize idx (fun k => decide (v ≤ k.1)) l (l.length - 1) 1 = i at *
  have hi : i < l.length := by
    apply Decidable.byContradiction
    intro hn
    have := h4 (l.length - 1) (by omega) (by omega)
    simp at this
    unfold top at hv
    omega
  refine ⟨h1, hi, ?_, fun hk => ?_⟩
  · simpa using h5 (by omega)
  · have := h4 (i - 1) (by omega) (by omega)
    simpa using this

end Go.DI.Lk

/- Lakes as plain data: the volume at a level, the level at a volume. -/
namespace Go.DI.Lk

def dh (l : List Kn) (i : Nat) : Int := (kn l i).1 - (kn l (i - 1)).1
def dv (l : List Kn) (i : Nat) : Int := (kn l i).2 - (kn l (i - 1)).2
/-- Rounded up. -/
def cdiv (n d : Int) : Int := -(-n / d)

theorem le_ediv {x n d : Int} (hd : 0 < d) : x ≤ n / d ↔ x * d ≤ n := Int.le_ediv_iff_mul_le hd
theorem cdiv_le {x n d : Int} (hd : 0 < d) : cdiv n d ≤ x ↔ n ≤ x * d := by
  unfold cdiv
  have := @le_ediv (-x) (-n) d hd
  rw [Int.neg_mul] at this
  omega
theorem cdiv_eq {n d : Int} (hd : 0 < d) : cdiv n d = n / d + min (n % d) 1 := by
  have h1 := Int.emod_nonneg n (show d ≠ 0 by omega)
  have h2 := Int.emod_lt_of_pos n hd
  have h3 := Int.mul_ediv_add_emod n d
  by_cases h : n % d = 0
  · rw [h, show min (0:Int) 1 = 0 from rfl, Int.add_zero]
    apply Int.le_antisymm
    · rw [cdiv_le hd, Int.mul_comm]; omega
    · rcases Int.lt_or_le (cdiv n d) (n / d) with k | k
      · exfalso
        have : cdiv n d ≤ n / d - 1 := by omega
        rw [cdiv_le hd, Int.sub_mul, Int.mul_comm] at this
        omega
      · exact k
  · rw [show min (n % d) 1 = 1 by omega]
    apply Int.le_antisymm
    · rw [cdiv_le hd, Int.add_mul, Int.mul_comm (n / d)]; omega
    · rcases Int.lt_or_le (cdiv n d) (n / d + 1) with k | k
      · exfalso
        have : cdiv n d ≤ n / d := by omega
        rw [cdiv_le hd, Int.mul_comm] at this
        omega
      · exact k

def volLo (l : List Kn) (x : Int) : Int := (kn l (atL l x - 1)).2 + ((x - (kn l (atL l x - 1)).1) * dv l (atL l x)) / dh l (atL l x)
def volHi (l : List Kn) (x : Int) : Int := (kn l (atL l x - 1)).2 + cdiv ((x - (kn l (atL l x - 1)).1) * dv l (atL l x)) (dh l (atL l x))
def levLo (l : List Kn) (v : Int) : Int := (kn l (atV l v - 1)).1 + ((v - (kn l (atV l v - 1)).2) * dh l (atV l v)) / dv l (atV l v)
def levHi (l : List Kn) (v : Int) : Int := (kn l (atV l v - 1)).1 + cdiv ((v - (kn l (atV l v - 1)).2) * dh l (atV l v)) (dv l (atV l v))

def isL (l : List Kn) (x : Int) : Prop := Wi x (bot l).1 (top l).1
def isV (l : List Kn) (v : Int) : Prop := Wi v (bot l).2 (top l).2
instance (l : List Kn) (x : Int) : Decidable (isL l x) := inferInstanceAs (Decidable (Wi _ _ _))
instance (l : List Kn) (x : Int) : Decidable (isV l x) := inferInstanceAs (Decidable (Wi _ _ _))

theorem dh_pos {l : List Kn} (h : Valid l) {i : Nat} (h0 : 0 < i) (hi : i < l.length) : 0 < dh l i ∧ dh l i ≤ 1000000 := by
  have := h.up h0 hi
  have := h.range hi
  have := h.range (i := i - 1) (by omega)
  unfold dh; omega
theorem dv_pos {l : List Kn} (h : Valid l) {i : Nat} (h0 : 0 < i) (hi : i < l.length) : 0 < dv l i ∧ dv l i ≤ 1000000000 := by
  have := h.up h0 hi
  have := h.range hi
  have := h.range (i := i - 1) (by omega)
  unfold dv; omega

/-- The piece at a volume: between its knots. -/
theorem at_volume {l : List Kn} (h : Valid l) {v : Int} (hv : isV l v) : ∃ i, atV l v = i ∧ 0 < i ∧ i < l.length ∧ (kn l (i - 1)).2 ≤ v ∧ v ≤ (kn l i).2 ∧ (1 < i → (kn l (i - 1)).2 < v) := by
  obtain ⟨h1, h2, h3, h4⟩ := atV_spec h hv.2
  refine ⟨_, rfl, h1, h2, ?_, h3, h4⟩
  by_cases k : 1 < atV l v
  · have := h4 k; omega
  · have e : atV l v - 1 = 0 := by omega
    rw [e]; exact hv.1
theorem at_level {l : List Kn} (h : Valid l) {v : Int} (hv : isL l v) : ∃ i, atL l v = i ∧ 0 < i ∧ i < l.length ∧ (kn l (i - 1)).1 ≤ v ∧ v ≤ (kn l i).1 ∧ (1 < i → (kn l (i - 1)).1 < v) := by
  obtain ⟨h1, h2, h3, h4⟩ := atL_spec h hv.2
  refine ⟨_, rfl, h1, h2, ?_, h3, h4⟩
  by_cases k : 1 < atL l v
  · have := h4 k; omega
  · have e : atL l v - 1 = 0 := by omega
    rw [e]; exact hv.1

/-- A share of a piece lies in it. -/
theorem share {n d e : Int} (hd : 0 < d) (h0 : 0 ≤ n) (h1 : n ≤ d) (he : 0 < e) : 0 ≤ n * e ∧ n * e ≤ d * e ∧ 0 ≤ n * e / d ∧ n * e / d ≤ e ∧ 0 ≤ cdiv (n * e) d ∧ cdiv (n * e) d ≤ e ∧ n * e / d ≤ cdiv (n * e) d ∧ cdiv (n * e) d ≤ n * e / d + 1 := by
  have a1 : 0 ≤ n * e := Int.mul_nonneg h0 (by omega)
  have a2 : n * e ≤ d * e := Int.mul_le_mul_of_nonneg_right h1 (by omega)
  have a3 : 0 ≤ n * e / d := Int.ediv_nonneg a1 (by omega)
  have a4 : n * e / d ≤ e := by
    rcases Int.lt_or_le e (n * e / d) with k | k
    · have : e + 1 ≤ n * e / d := by omega
      rw [le_ediv hd, Int.add_mul, Int.mul_comm e d] at this
      omega
    · exact k
  have a5 : cdiv (n * e) d ≤ e := by rw [cdiv_le hd, Int.mul_comm e]; omega
  have a6 := cdiv_eq (n := n * e) hd
  have a7 := Int.emod_nonneg (n * e) (show d ≠ 0 by omega)
  refine ⟨a1, a2, a3, a4, by omega, a5, by omega, by omega⟩

theorem level_in {l : List Kn} (h : Valid l) {v : Int} (hv : isV l v) {i : Nat} (hi : atV l v = i) : (kn l (i - 1)).1 ≤ levLo l v ∧ levLo l v ≤ levHi l v ∧ levHi l v ≤ (kn l i).1 ∧ levHi l v ≤ levLo l v + 1 := by
  obtain ⟨j, hj, h1, h2, h3, h4, h5⟩ := at_volume h hv
  have : i = j := by omega
  subst this
  have := share (n := v - (kn l (i - 1)).2) (d := dv l i) (e := dh l i) (dv_pos h h1 h2).1 (by omega) (by unfold dv; omega) (dh_pos h h1 h2).1
  unfold levLo levHi
  rw [hi]
  have e : dh l i = (kn l i).1 - (kn l (i - 1)).1 := rfl
  omega
theorem volume_in {l : List Kn} (h : Valid l) {v : Int} (hv : isL l v) {i : Nat} (hi : atL l v = i) : (kn l (i - 1)).2 ≤ volLo l v ∧ volLo l v ≤ volHi l v ∧ volHi l v ≤ (kn l i).2 ∧ volHi l v ≤ volLo l v + 1 := by
  obtain ⟨j, hj, h1, h2, h3, h4, h5⟩ := at_level h hv
  have : i = j := by omega
  subst this
  have := share (n := v - (kn l (i - 1)).1) (d := dh l i) (e := dv l i) (dh_pos h h1 h2).1 (by omega) (by unfold dh; omega) (dv_pos h h1 h2).1
  unfold volLo volHi
  rw [hi]
  have e : dv l i = (kn l i).2 - (kn l (i - 1)).2 := rfl
  omega

/-- A level is reached exactly where its volume is. -/
theorem reach {l : List Kn} (h : Valid l) {x v : Int} (hx : isL l x) (hv : isV l v) : x ≤ levLo l v ↔ volHi l x ≤ v := by
  obtain ⟨i, hi, i1, i2, i3, i4, i5⟩ := at_volume h hv
  obtain ⟨j, hj, j1, j2, j3, j4, j5⟩ := at_level h hx
  have hl := level_in h hv hi
  have hw := volume_in h hx hj
  rcases Nat.lt_trichotomy i j with k | k | k
  · have a1 := h.le (j := j - 1) (by omega) (i := i) (by omega)
    have a2 := h.up j1 j2
    have := j5 (by omega)
    constructor
    · intro q; omega
    · intro q
      exfalso
      have e : volHi l x = (kn l (j - 1)).2 := by omega
      have dp := dh_pos h j1 j2
      have dq := dv_pos h j1 j2
      unfold volHi at e
      rw [hj] at e
      have c : cdiv ((x - (kn l (j - 1)).1) * dv l j) (dh l j) ≤ 0 := by omega
      rw [cdiv_le dp.1, Int.zero_mul] at c
      have : 0 < (x - (kn l (j - 1)).1) * dv l j := Int.mul_pos (by omega) dq.1
      omega
  · subst k
    have dp := dh_pos h i1 i2
    have dq := dv_pos h i1 i2
    unfold levLo volHi
    rw [hi, hj]
    have e1 := @le_ediv (x - (kn l (i - 1)).1) ((v - (kn l (i - 1)).2) * dh l i) (dv l i) dq.1
    have e2 := @cdiv_le (v - (kn l (i - 1)).2) ((x - (kn l (i - 1)).1) * dv l i) (dh l i) dp.1
    omega
  · have a1 := h.le (j := i - 1) (by omega) (i := j) (by omega)
    omega

theorem reach' {l : List Kn} (h : Valid l) {x v : Int} (hx : isL l x) (hv : isV l v) : levHi l v ≤ x ↔ v ≤ volLo l x := by
  obtain ⟨i, hi, i1, i2, i3, i4, i5⟩ := at_volume h hv
  obtain ⟨j, hj, j1, j2, j3, j4, j5⟩ := at_level h hx
  have hl := level_in h hv hi
  have hw := volume_in h hx hj
  rcases Nat.lt_trichotomy i j with k | k | k
  · have a1 := h.le (j := j - 1) (by omega) (i := i) (by omega)
    omega
  · subst k
    have dp := dh_pos h i1 i2
    have dq := dv_pos h i1 i2
    unfold levHi volLo
    rw [hi, hj]
    have e1 := @cdiv_le (x - (kn l (i - 1)).1) ((v - (kn l (i - 1)).2) * dh l i) (dv l i) dq.1
    have e2 := @le_ediv (v - (kn l (i - 1)).2) ((x - (kn l (i - 1)).1) * dv l i) (dh l i) dp.1
    omega
  · have a1 := h.le (j := i - 1) (by omega) (i := j) (by omega)
    have a2 := h.up i1 i2
    have := i5 (by omega)
    constructor
    · intro q
      exfalso
      have e : levHi l v = (kn l (i - 1)).1 := by omega
      have dp := dh_pos h i1 i2
      have dq := dv_pos h i1 i2
      unfold levHi at e
      rw [hi] at e
      have c : cdiv ((v - (kn l (i - 1)).2) * dh l i) (dv l i) ≤ 0 := by omega
      rw [cdiv_le dq.1, Int.zero_mul] at c
      have : 0 < (v - (kn l (i - 1)).2) * dh l i := Int.mul_pos (by omega) dp.1
      omega
    · intro q; omega

/-- What evaporates, a step. -/
def evap (l : List Kn) (rate v : Int) : Int := min (rate * dv l (atV l v) / (1000 * dh l (atV l v))) (v - (bot l).2)

theorem evap_in {l : List Kn} (h : Valid l) {v rate : Int} (hv : isV l v) (hr : 0 ≤ rate) : 0 ≤ evap l rate v ∧ evap l rate v ≤ v - (bot l).2 := by
  obtain ⟨i, hi, i1, i2, i3, i4, i5⟩ := at_volume h hv
  have dp := dh_pos h i1 i2
  have dq := dv_pos h i1 i2
  unfold evap
  rw [hi]
  have : 0 ≤ rate * dv l i / (1000 * dh l i) := Int.ediv_nonneg (Int.mul_nonneg hr (by omega)) (by omega)
  have := hv.1
  omega
theorem evap_dry {l : List Kn} {v : Int} (hv : isV l v) : evap l 0 v = 0 := by
  unfold evap
  have := hv.1
  rw [Int.zero_mul, Int.zero_ediv]
  omega

structure Flow where
  up : Int
  low : Int
  ex : Int
structure Pair where
  u : List Kn
  l : List Kn
  rate : Int
abbrev Sta := Int × Int

/-- One lake of a step: the volume behind it, what is spilled; none: it is not possible. -/
def lakeStep (l : List Kn) (rate v grow : Int) : Option (Int × Int × Int) :=
  let w := v + grow - evap l rate v
  if w < (bot l).2 then none else some (w - max 0 (w - (top l).2), evap l rate v, max 0 (w - (top l).2))

def step (p : Pair) (s : Sta) (x : Flow) : Option (Sta × Int × Int) :=
  match lakeStep p.u p.rate s.1 (x.up + x.ex), lakeStep p.l p.rate s.2 (x.low - x.ex) with
  | some (a, e, f), some (b, g, k) => some ((a, b), e + g, f + k)
  | _, _ => none

def flowOk (x : Flow) : Prop := Wi x.up 0 10000000 ∧ Wi x.low 0 10000000 ∧ Wi x.ex (-10000000) 10000000
instance (x : Flow) : Decidable (flowOk x) := inferInstanceAs (Decidable (_ ∧ _))

end Go.DI.Lk

/- Lakes as plain data: levels and volumes at knots, in order; areas in order; readings. -/
namespace Go.DI.Lk

theorem isL_in {l : List Kn} (h : Valid l) {i : Nat} {x : Int} (h0 : 0 < i) (hi : i < l.length) (h1 : (kn l (i - 1)).1 ≤ x) (h2 : x ≤ (kn l i).1) : isL l x := by
  have a := h.le (j := i - 1) (by omega) (i := 0) (by omega)
  have b := h.le (j := l.length - 1) (by omega) (i := i) (by omega)
  unfold isL Wi bot top
  omega
theorem isV_in {l : List Kn} (h : Valid l) {i : Nat} {x : Int} (h0 : 0 < i) (hi : i < l.length) (h1 : (kn l (i - 1)).2 ≤ x) (h2 : x ≤ (kn l i).2) : isV l x := by
  have a := h.le (j := i - 1) (by omega) (i := 0) (by omega)
  have b := h.le (j := l.length - 1) (by omega) (i := i) (by omega)
  unfold isV Wi bot top
  omega

theorem level_isL {l : List Kn} (h : Valid l) {v : Int} (hv : isV l v) : isL l (levLo l v) ∧ isL l (levHi l v) ∧ levLo l v ≤ levHi l v ∧ levHi l v ≤ levLo l v + 1 := by
  obtain ⟨i, hi, i1, i2, i3, i4, i5⟩ := at_volume h hv
  have := level_in h hv hi
  exact ⟨isL_in h i1 i2 (by omega) (by omega), isL_in h i1 i2 (by omega) (by omega), by omega, by omega⟩
theorem volume_isV {l : List Kn} (h : Valid l) {x : Int} (hx : isL l x) : isV l (volLo l x) ∧ isV l (volHi l x) ∧ volLo l x ≤ volHi l x ∧ volHi l x ≤ volLo l x + 1 := by
  obtain ⟨i, hi, i1, i2, i3, i4, i5⟩ := at_level h hx
  have := volume_in h hx hi
  exact ⟨isV_in h i1 i2 (by omega) (by omega), isV_in h i1 i2 (by omega) (by omega), by omega, by omega⟩

theorem enclose {l : List Kn} (h : Valid l) {v : Int} (hv : isV l v) : volLo l (levLo l v) ≤ v ∧ v ≤ volHi l (levHi l v) := by
  have a := level_isL h hv
  have b := (reach h a.1 hv).1 (Int.le_refl _)
  have c := (reach' h a.2.1 hv).1 (Int.le_refl _)
  have d := volume_isV h a.1
  have e := volume_isV h a.2.1
  omega
theorem level_mono {l : List Kn} (h : Valid l) {v w : Int} (hv : isV l v) (hw : isV l w) (hvw : v ≤ w) : levLo l v ≤ levLo l w ∧ levHi l v ≤ levHi l w := by
  have a := level_isL h hv
  have b := (reach h a.1 hv).1 (Int.le_refl _)
  have a' := level_isL h hw
  have c := (reach' h a'.2.1 hw).1 (Int.le_refl _)
  exact ⟨(reach h a.1 hw).2 (by omega), (reach' h a'.2.1 hv).2 (by omega)⟩

theorem cdiv_self {d e : Int} (hd : 0 < d) : cdiv (d * e) d = e := by
  unfold cdiv
  rw [show -(d * e) = d * (-e) from (Int.mul_neg d e).symm, Int.mul_ediv_cancel_left _ (by omega)]
  omega
theorem cdiv_zero {d : Int} : cdiv 0 d = 0 := by unfold cdiv; simp

theorem at_knot {l : List Kn} (h : Valid l) {i : Nat} (hi : i < l.length) : isV l (kn l i).2 ∧ isL l (kn l i).1 ∧ levLo l (kn l i).2 = (kn l i).1 ∧ levHi l (kn l i).2 = (kn l i).1 ∧ volLo l (kn l i).1 = (kn l i).2 ∧ volHi l (kn l i).1 = (kn l i).2 := by
  have h2 := h.two
  have hv : isV l (kn l i).2 := ⟨(h.le hi (Nat.zero_le _)).2, (h.le (j := l.length - 1) (by omega) (i := i) (by omega)).2⟩
  have hl : isL l (kn l i).1 := ⟨(h.le hi (Nat.zero_le _)).1, (h.le (j := l.length - 1) (by omega) (i := i) (by omega)).1⟩
  obtain ⟨j, hj, j1, j2, j3, j4, j5⟩ := at_volume h hv
  obtain ⟨k, hk, k1, k2, k3, k4, k5⟩ := at_level h hl
  refine ⟨hv, hl, ?_⟩
  unfold levLo levHi volLo volHi
  rw [hj, hk]
  have dp := dh_pos h j1 j2
  have dq := dv_pos h j1 j2
  have dp' := dh_pos h k1 k2
  have dq' := dv_pos h k1 k2
  have ej : i = j ∨ i = 0 ∧ j = 1 := by
    by_cases e : i = j
    · exact .inl e
    · right
      rcases Nat.lt_or_ge i j with q | q
      · have := h.le (j := j - 1) (by omega) (i := i) (by omega)
        have : ¬ 1 < j := fun z => by have := j5 z; omega
        omega
      · have := h.lt hi (show j < i by omega)
        omega
  have ek : i = k ∨ i = 0 ∧ k = 1 := by
    by_cases e : i = k
    · exact .inl e
    · right
      rcases Nat.lt_or_ge i k with q | q
      · have := h.le (j := k - 1) (by omega) (i := i) (by omega)
        have : ¬ 1 < k := fun z => by have := k5 z; omega
        omega
      · have := h.lt hi (show k < i by omega)
        omega
  constructor
  · rcases ej with e | ⟨e, e'⟩
    · subst e
      rw [show (kn l i).2 - (kn l (i - 1)).2 = dv l i from rfl, Int.mul_ediv_cancel_left _ (by omega)]
      unfold dh; omega
    · subst e; subst e'; simp
  constructor
  · rcases ej with e | ⟨e, e'⟩
    · subst e
      rw [show (kn l i).2 - (kn l (i - 1)).2 = dv l i from rfl, cdiv_self dq.1]
      unfold dh; omega
    · subst e; subst e'; simp [cdiv_zero]
  constructor
  · rcases ek with e | ⟨e, e'⟩
    · subst e
      rw [show (kn l i).1 - (kn l (i - 1)).1 = dh l i from rfl, Int.mul_ediv_cancel_left _ (by omega)]
      unfold dv; omega
    · subst e; subst e'; simp
  · rcases ek with e | ⟨e, e'⟩
    · subst e
      rw [show (kn l i).1 - (kn l (i - 1)).1 = dh l i from rfl, cdiv_self dp'.1]
      unfold dv; omega
    · subst e; subst e'; simp [cdiv_zero]

/-- Areas do not fall. -/
theorem area_mono {l : List Kn} (h : Valid l) {i j : Nat} (h0 : 0 < i) (hij : i ≤ j) (hj : j < l.length) : dv l i * dh l j ≤ dv l j * dh l i := by
  induction j with
  | zero => omega
  | succ j ih =>
    by_cases e : i = j + 1
    · subst e; exact Int.le_refl _
    · have h1 := ih (by omega) (by omega)
      have h2 := h.wider (i := j + 1) (by omega) hj
      have e1 : j + 1 - 2 = j - 1 := by omega
      have e2 : j + 1 - 1 = j := by omega
      rw [e1, e2] at h2
      have h3 : dv l j * dh l (j + 1) ≤ dv l (j + 1) * dh l j := h2
      have pj := dh_pos h (i := j) (by omega) (by omega)
      have pi := dh_pos h h0 (show i < l.length by omega)
      have pk := dh_pos h (i := j + 1) (by omega) hj
      have h4 := Int.mul_le_mul_of_nonneg_right h1 (show 0 ≤ dh l (j + 1) by omega)
      have h5 := Int.mul_le_mul_of_nonneg_right h3 (show 0 ≤ dh l i by omega)
      apply Int.le_of_mul_le_mul_right (a := dh l j) _ pj.1
      grind

theorem atV_mono {l : List Kn} (h : Valid l) {v w : Int} (hv : isV l v) (hw : isV l w) (hvw : v ≤ w) : atV l v ≤ atV l w := by
  obtain ⟨j, hj, j1, j2, j3, j4, j5⟩ := at_volume h hv
  obtain ⟨k, hk, k1, k2, k3, k4, k5⟩ := at_volume h hw
  rw [hj, hk]
  rcases Nat.lt_or_ge k j with q | q
  · have := h.le (j := j - 1) (by omega) (i := k) (by omega)
    have := j5 (by omega)
    omega
  · exact q

end Go.DI.Lk

/- Lakes as plain data: readings; ranges that contradict each other. -/
namespace Go.DI.Lk

abbrev Rn := Int × Int
def rn (rs : List Rn) (i : Nat) : Rn := rs.getD i default
def meet (a b : Rn) : Rn := (max a.1 b.1, min a.2 b.2)

/-- What the ranges up to a place have in common. -/
def meets (rs : List Rn) : Nat → Rn
  | 0 => rn rs 0
  | n + 1 => meet (meets rs n) (rn rs (n + 1))

def findN (p : Nat → Bool) : Nat → Nat → Option Nat
  | 0, _ => none
  | m + 1, i => if p i then some i else findN p m (i + 1)

theorem findN_none {p : Nat → Bool} : ∀ {m i : Nat}, findN p m i = none ↔ ∀ j, i ≤ j → j < i + m → p j = false
  | 0, i => by simp [findN]; intro j h1 h2; omega
  | m + 1, i => by
    unfold findN
    split
    · rename_i h
      constructor
      · intro k; cases k
      · intro k; rw [k i (by omega) (by omega)] at h; cases h
    · rename_i h
      rw [findN_none]
      constructor
      · intro k j h1 h2
        by_cases e : j = i
        · subst e; simpa using h
        · exact k j (by omega) (by omega)
      · intro k j h1 h2; exact k j (by omega) (by omega)

theorem findN_some {p : Nat → Bool} : ∀ {m i k : Nat}, findN p m i = some k → i ≤ k ∧ k < i + m ∧ p k = true
  | 0, i, k, h => by cases h
  | m + 1, i, k, h => by
    unfold findN at h
    split at h
    · rename_i q; cases h; exact ⟨by omega, by omega, q⟩
    · have := findN_some h; exact ⟨by omega, by omega, this.2.2⟩

def find2 (q : Nat → Nat → Bool) (n : Nat) : Nat → Nat → Option (Nat × Nat)
  | 0, _ => none
  | m + 1, i => match findN (q i) (n - (i + 1)) (i + 1) with
    | some k => some (i, k)
    | none => find2 q n m (i + 1)

theorem find2_none {q : Nat → Nat → Bool} {n : Nat} : ∀ {m i : Nat}, find2 q n m i = none ↔ ∀ j, i ≤ j → j < i + m → ∀ k, j < k → k < n → q j k = false
  | 0, i => by simp [find2]; intro j h1 h2; omega
  | m + 1, i => by
    unfold find2
    split
    · rename_i k hk
      have := findN_some hk
      constructor
      · intro z; cases z
      · intro z; have := z i (by omega) (by omega) k (by omega) (by omega); simp_all
    · rename_i hk
      rw [findN_none] at hk
      rw [find2_none]
      constructor
      · intro z j h1 h2 k h3 h4
        by_cases e : j = i
        · subst e; exact hk k (by omega) (by omega)
        · exact z j (by omega) (by omega) k h3 h4
      · intro z j h1 h2; exact z j (by omega) (by omega)

theorem find2_some {q : Nat → Nat → Bool} {n : Nat} : ∀ {m i : Nat} {r : Nat × Nat}, find2 q n m i = some r → i ≤ r.1 ∧ r.1 < i + m ∧ r.1 < r.2 ∧ r.2 < n ∧ q r.1 r.2 = true
  | 0, i, r, h => by cases h
  | m + 1, i, r, h => by
    unfold find2 at h
    split at h
    · rename_i k hk
      have := findN_some hk
      cases h
      dsimp only
      exact ⟨by omega, by omega, by omega, by omega, this.2.2⟩
    · have := find2_some h
      exact ⟨by omega, by omega, this.2.2⟩

def empty1 (rs : List Rn) (i : Nat) : Bool := decide ((rn rs i).2 < (rn rs i).1)
def empty2 (rs : List Rn) (i k : Nat) : Bool := decide ((meet (rn rs i) (rn rs k)).2 < (meet (rn rs i) (rn rs k)).1)

/-- The least set of ranges that contradict each other. -/
def contra (rs : List Rn) : List Nat :=
  match findN (empty1 rs) rs.length 0 with
  | some i => [i]
  | none => match find2 (empty2 rs) rs.length rs.length 0 with
    | some (i, k) => [i, k]
    | none => []

theorem meets_spec (rs : List Rn) : ∀ n, (∀ i, i ≤ n → (rn rs i).1 ≤ (meets rs n).1 ∧ (meets rs n).2 ≤ (rn rs i).2) ∧ (∃ i, i ≤ n ∧ (meets rs n).1 = (rn rs i).1) ∧ (∃ i, i ≤ n ∧ (meets rs n).2 = (rn rs i).2)
  | 0 => ⟨fun i hi => by have : i = 0 := by omega
                         subst this; exact ⟨Int.le_refl _, Int.le_refl _⟩, ⟨0, by omega, rfl⟩, ⟨0, by omega, rfl⟩⟩
  | n + 1 => by
    obtain ⟨h1, ⟨a, ha, ea⟩, ⟨b, hb, eb⟩⟩ := meets_spec rs n
    refine ⟨fun i hi => ?_, ?_, ?_⟩
    · unfold meets meet
      by_cases e : i = n + 1
      · subst e; dsimp only; omega
      · have := h1 i (by omega); dsimp only; omega
    · unfold meets meet
      by_cases q : (meets rs n).1 ≤ (rn rs (n + 1)).1
      · exact ⟨n + 1, by omega, by dsimp only; omega⟩
      · exact ⟨a, by omega, by dsimp only; omega⟩
    · unfold meets meet
      by_cases q : (rn rs (n + 1)).2 ≤ (meets rs n).2
      · exact ⟨n + 1, by omega, by dsimp only; omega⟩
      · exact ⟨b, by omega, by dsimp only; omega⟩

/-- Two of them, or one. -/
theorem helly {rs : List Rn} (h0 : 0 < rs.length) : contra rs = [] ↔ (meets rs (rs.length - 1)).1 ≤ (meets rs (rs.length - 1)).2 := by
  obtain ⟨h1, ⟨a, ha, ea⟩, ⟨b, hb, eb⟩⟩ := meets_spec rs (rs.length - 1)
  unfold contra
  constructor
  · intro h
    split at h
    · cases h
    · rename_i k1
      split at h
      · cases h
      · rename_i k2
        rw [findN_none] at k1
        rw [find2_none] at k2
        rw [ea, eb]
        rcases Nat.lt_trichotomy a b with q | q | q
        · have := k2 a (by omega) (by omega) b q (by omega)
          unfold empty2 meet at this
          simp only [decide_eq_false_iff_not] at this
          omega
        · subst q
          have := k1 a (by omega) (by omega)
          unfold empty1 at this
          simp only [decide_eq_false_iff_not] at this
          omega
        · have := k2 b (by omega) (by omega) a q (by omega)
          unfold empty2 meet at this
          simp only [decide_eq_false_iff_not] at this
          omega
  · intro h
    split
    · rename_i i hi
      have q := findN_some hi
      have := h1 i (by omega)
      unfold empty1 at q
      simp only [decide_eq_true_eq] at q
      omega
    · split
      · rename_i i k hik
        have q := find2_some hik
        dsimp only at q
        have a1 := h1 i (by omega)
        have a2 := h1 k (by omega)
        unfold empty2 meet at q
        simp only [decide_eq_true_eq] at q
        omega
      · rfl

structure Rdg where
  tick : Int
  lo : Int
  hi : Int
instance : Inhabited Rdg := ⟨⟨0, 0, 0⟩⟩

def sumTo (net : List Int) : Nat → Int
  | 0 => 0
  | n + 1 => sumTo net n + net.getD n 0

def perm (l : List Kn) (net : List Int) (r : Rdg) : Rn := (volHi l r.lo - sumTo net r.tick.toNat, volLo l r.hi - sumTo net r.tick.toNat)

def rdgErr (l : List Kn) (n : Int) (r : Rdg) : Int :=
  if ¬ (Wi r.tick 0 n ∧ isL l r.lo ∧ isL l r.hi) then 2 else if r.hi < r.lo then 9 else 0

theorem rdgErr_ok {l : List Kn} {n : Int} {r : Rdg} (h : rdgErr l n r = 0) : (0 ≤ r.tick ∧ r.tick ≤ n) ∧ isL l r.lo ∧ isL l r.hi ∧ r.lo ≤ r.hi := by
  unfold rdgErr at h
  split at h
  · omega
  · rename_i k
    split at h
    · omega
    · rename_i k2
      simp only [Decidable.not_not] at k
      exact ⟨k.1, k.2.1, k.2.2, by omega⟩

/-- A volume agrees with a reading exactly if its level after the net flows does. -/
theorem perm_iff {l : List Kn} (h : Valid l) {net : List Int} {r : Rdg} (h1 : isL l r.lo) (h2 : isL l r.hi) (v : Int) :
    ((perm l net r).1 ≤ v ∧ v ≤ (perm l net r).2) ↔ (isV l (v + sumTo net r.tick.toNat) ∧ r.lo ≤ levLo l (v + sumTo net r.tick.toNat) ∧ levHi l (v + sumTo net r.tick.toNat) ≤ r.hi) := by
  have a1 := volume_isV h h1
  have a2 := volume_isV h h2
  unfold perm
  dsimp only
  generalize sumTo net r.tick.toNat = z
  constructor
  · intro q
    have hv : isV l (v + z) := by
      unfold isV Wi at *
      omega
    exact ⟨hv, (reach h h1 hv).2 (by omega), (reach' h h2 hv).2 (by omega)⟩
  · rintro ⟨hv, q1, q2⟩
    have := (reach h h1 hv).1 q1
    have := (reach' h h2 hv).1 q2
    omega

end Go.DI.Lk

/- Lakes as plain data: steps and runs. -/
namespace Go.DI.Lk

deriving instance DecidableEq for Flow
instance : Inhabited Flow := ⟨⟨0, 0, 0⟩⟩

structure VPair (p : Pair) : Prop where
  u : Valid p.u
  l : Valid p.l
  r : Wi p.rate 0 1000

def stOk (p : Pair) (s : Sta) : Prop := isV p.u s.1 ∧ isV p.l s.2
instance (p : Pair) (s : Sta) : Decidable (stOk p s) := inferInstanceAs (Decidable (_ ∧ _))

theorem lakeStep_some {l : List Kn} (h : Valid l) {rate v g a e f : Int} (hv : isV l v) (hr : 0 ≤ rate) (hs : lakeStep l rate v g = some (a, e, f)) :
    isV l a ∧ a + e + f = v + g ∧ 0 ≤ e ∧ e ≤ 1000000000 ∧ 0 ≤ f ∧ (f ≤ g ∨ f = 0) := by
  have h2 := h.two
  have ev := evap_in h hv hr
  have b := h.range (i := 0) (by omega)
  have t := h.range (i := l.length - 1) (by omega)
  have bt := h.le (j := l.length - 1) (by omega) (i := 0) (by omega)
  unfold lakeStep at hs
  dsimp only at hs
  split at hs
  · cases hs
  · rename_i k
    simp only [Option.some.injEq, Prod.mk.injEq] at hs
    obtain ⟨rfl, rfl, rfl⟩ := hs
    unfold isV Wi at *
    unfold top bot at *
    omega

theorem step_some {p : Pair} (h : VPair p) {s t : Sta} {x : Flow} {e f : Int} (hv : stOk p s) (hx : flowOk x) (hs : step p s x = some (t, e, f)) :
    stOk p t ∧ t.1 + t.2 + e + f = s.1 + s.2 + x.up + x.low ∧ 0 ≤ e ∧ e ≤ 2000000000 ∧ 0 ≤ f ∧ f ≤ 2000000000 := by
  unfold step at hs
  split at hs
  · rename_i a e1 f1 b e2 f2 h1 h2
    simp only [Option.some.injEq, Prod.mk.injEq] at hs
    obtain ⟨rfl, rfl, rfl⟩ := hs
    have q1 := lakeStep_some h.u hv.1 h.r.1 h1
    have q2 := lakeStep_some h.l hv.2 h.r.1 h2
    unfold flowOk Wi at hx
    refine ⟨⟨q1.1, q2.1⟩, ?_⟩
    dsimp only
    omega
  · cases hs

/-- The states of a run as far as it is possible, what is lost, and whether all of it is possible. -/
def runP (p : Pair) (s : Sta) : List Flow → List Sta × (Int × Int) × Bool
  | [] => ([], (0, 0), true)
  | x :: r => match step p s x with
    | none => ([], (0, 0), false)
    | some (t, e, f) => (t :: (runP p t r).1, (e + (runP p t r).2.1.1, f + (runP p t r).2.1.2), (runP p t r).2.2)

theorem runP_none {p : Pair} {s : Sta} {x : Flow} {r : List Flow} (h : step p s x = none) : runP p s (x :: r) = ([], (0, 0), false) := by
  simp only [runP, h]
theorem runP_some {p : Pair} {s t : Sta} {x : Flow} {r : List Flow} {e f : Int} (h : step p s x = some (t, e, f)) :
    runP p s (x :: r) = (t :: (runP p t r).1, (e + (runP p t r).2.1.1, f + (runP p t r).2.1.2), (runP p t r).2.2) := by
  simp only [runP, h]

theorem runP_len {p : Pair} : ∀ {s : Sta} {l : List Flow}, (runP p s l).1.length ≤ l.length ∧ ((runP p s l).2.2 = true → (runP p s l).1.length = l.length)
  | s, [] => by simp [runP]
  | s, x :: r => by
    cases h : step p s x with
    | none => rw [runP_none h]; simp
    | some q =>
      obtain ⟨t, e, f⟩ := q
      rw [runP_some h]
      have := @runP_len p t r
      simp only [List.length_cons]
      exact ⟨by omega, fun k => by have := this.2 k; omega⟩

/-- The state behind a run. -/
def lastS (s : Sta) : List Sta → Sta
  | [] => s
  | t :: r => lastS t r

theorem lastS_append (s : Sta) : ∀ (a : List Sta) (t : Sta), lastS s (a ++ [t]) = t
  | [], t => rfl
  | x :: a, t => by simp only [List.cons_append, lastS]; exact lastS_append x a t

theorem runP_spec {p : Pair} (h : VPair p) : ∀ {s : Sta} {l : List Flow}, stOk p s → (∀ x ∈ l, flowOk x) →
    (∀ t ∈ (runP p s l).1, stOk p t) ∧ 0 ≤ (runP p s l).2.1.1 ∧ (runP p s l).2.1.1 ≤ 2000000000 * l.length ∧ 0 ≤ (runP p s l).2.1.2 ∧ (runP p s l).2.1.2 ≤ 2000000000 * l.length
  | s, [], hs, hl => by simp [runP]
  | s, x :: r, hs, hl => by
    cases h' : step p s x with
    | none => rw [runP_none h']; simp; omega
    | some q =>
      obtain ⟨t, e, f⟩ := q
      have a := step_some h hs (hl x (by simp)) h'
      have b := @runP_spec p h t r a.1 (fun y hy => hl y (by simp [hy]))
      rw [runP_some h']
      simp only [List.mem_cons, List.length_cons]
      refine ⟨fun z hz => ?_, by omega, by omega, by omega, by omega⟩
      rcases hz with rfl | hz
      · exact a.1
      · exact b.1 z hz

theorem runP_append {p : Pair} : ∀ {s : Sta} {a b : List Flow}, (runP p s a).2.2 = true →
    runP p s (a ++ b) = ((runP p s a).1 ++ (runP p (lastS s (runP p s a).1) b).1, ((runP p s a).2.1.1 + (runP p (lastS s (runP p s a).1) b).2.1.1, (runP p s a).2.1.2 + (runP p (lastS s (runP p s a).1) b).2.1.2), (runP p (lastS s (runP p s a).1) b).2.2)
  | s, [], b, h => by simp [runP, lastS]
  | s, x :: a, b, h => by
    rw [List.cons_append]
    cases h' : step p s x with
    | none => rw [runP_none h'] at h; cases h
    | some q =>
      obtain ⟨t, e, f⟩ := q
      rw [runP_some h'] at h ⊢
      rw [runP_some h', runP_append h]
      simp only [lastS, List.cons_append, Int.add_assoc]

theorem runP_fail {p : Pair} : ∀ {s : Sta} {a b : List Flow}, (runP p s a).2.2 = false → (runP p s (a ++ b)).2.2 = false
  | s, [], b, h => by cases h
  | s, x :: a, b, h => by
    rw [List.cons_append]
    cases h' : step p s x with
    | none => rw [runP_none h']
    | some q =>
      obtain ⟨t, e, f⟩ := q
      rw [runP_some h'] at h ⊢
      exact runP_fail h

/-- Two runs, one behind the other. -/
theorem runP_split {p : Pair} {s : Sta} {l : List Flow} (h : (runP p s l).2.2 = true) (n : Nat) (hn : n ≤ l.length) :
    (runP p s (l.take n)).2.2 = true ∧ (runP p s (l.take n)).1 = (runP p s l).1.take n ∧
    (runP p (lastS s ((runP p s l).1.take n)) (l.drop n)).2.2 = true ∧ (runP p (lastS s ((runP p s l).1.take n)) (l.drop n)).1 = (runP p s l).1.drop n ∧
    (runP p s l).2.1 = ((runP p s (l.take n)).2.1.1 + (runP p (lastS s ((runP p s l).1.take n)) (l.drop n)).2.1.1, (runP p s (l.take n)).2.1.2 + (runP p (lastS s ((runP p s l).1.take n)) (l.drop n)).2.1.2) := by
  have h1 : (runP p s (l.take n)).2.2 = true := by
    cases k : (runP p s (l.take n)).2.2 with
    | true => rfl
    | false =>
      have := runP_fail (b := l.drop n) k
      rw [List.take_append_drop, h] at this
      cases this
  have e := runP_append (b := l.drop n) h1
  rw [List.take_append_drop] at e
  have hlen := (runP_len (p := p) (s := s) (l := l.take n)).2 h1
  rw [List.length_take, Nat.min_eq_left hn] at hlen
  have e1 : (runP p s l).1.take n = (runP p s (l.take n)).1 := by
    rw [e]
    dsimp only
    rw [List.take_append_of_le_length (by omega), List.take_of_length_le (by omega)]
  have e2 : (runP p s l).1.drop n = (runP p (lastS s (runP p s (l.take n)).1) (l.drop n)).1 := by
    rw [e]
    dsimp only
    rw [List.drop_append_of_le_length (by omega), List.drop_of_length_le (by omega), List.nil_append]
  rw [e1, e2]
  refine ⟨h1, rfl, ?_, rfl, ?_⟩
  · have := congrArg (fun q => q.2.2) e
    dsimp only at this
    rw [h] at this
    exact this.symm
  · have := congrArg (fun q => q.2.1) e
    exact this

end Go.DI.Lk

/- Fractions: order, rounding; plain arithmetic, no program in sight. -/
namespace Go.DI
open Lk

theorem rle {a b c d : Int} (hb : 0 < b) (hd : 0 < d) : Rat.divInt a b ≤ Rat.divInt c d ↔ a * d ≤ c * b := by
  rw [Rat.le_iff_sub_nonneg, Rat.divInt_sub_divInt _ _ (by omega) (by omega), Rat.divInt_nonneg_iff_of_pos_right (Int.mul_pos hd hb)]
  omega
theorem rlt {a b c d : Int} (hb : 0 < b) (hd : 0 < d) : Rat.divInt a b < Rat.divInt c d ↔ a * d < c * b := by
  rw [← Rat.not_le, rle hd hb]
  omega
theorem rint (n : Int) : (n : Rat) = Rat.divInt n 1 := by
  exact (Rat.num_divInt_den (n : Rat)).symm

theorem floor_divInt {n d : Int} (hd : 0 < d) : (Rat.divInt n d).floor = n / d := by
  have key : ∀ x : Int, x ≤ (Rat.divInt n d).floor ↔ x ≤ n / d := by
    intro x
    rw [Rat.le_floor_iff, rint, rle (by omega) hd, Int.mul_one, le_ediv hd]
  have h1 := (key (Rat.divInt n d).floor).1 (Int.le_refl _)
  have h2 := (key (n / d)).2 (Int.le_refl _)
  omega
theorem ceil_divInt {n d : Int} (hd : 0 < d) : (Rat.divInt n d).ceil = cdiv n d := by
  rw [Rat.ceil_eq_neg_floor_neg, Rat.neg_divInt, floor_divInt hd]
  rfl

theorem add_int_mul {a n v h : Int} (hh : 0 < h) : (a : Rat) + (n : Rat) * Rat.divInt v h = Rat.divInt (a * h + n * v) h := by
  rw [rint a, rint n, Rat.divInt_mul_divInt, Rat.divInt_add_divInt _ _ (by omega) (by omega), Int.one_mul, Int.one_mul, Int.mul_one]
theorem int_mul {n v h : Int} : (n : Rat) * Rat.divInt v h = Rat.divInt (n * v) h := by
  rw [rint n, Rat.divInt_mul_divInt, Int.one_mul]
theorem int_div {n v h : Int} : (n : Rat) / Rat.divInt v h = Rat.divInt (n * h) v := by
  rw [rint n, Rat.div_def, Rat.inv_divInt, Rat.divInt_mul_divInt, Int.one_mul]
theorem div_int {n v h : Int} : Rat.divInt v h / (n : Rat) = Rat.divInt v (h * n) := by
  rw [rint n, Rat.div_def, Rat.inv_divInt, Rat.divInt_mul_divInt, Int.mul_one]
theorem add_int {a v h : Int} (hh : 0 < h) : (a : Rat) + Rat.divInt v h = Rat.divInt (a * h + v) h := by
  rw [rint a, Rat.divInt_add_divInt _ _ (by omega) (by omega), Int.one_mul, Int.mul_one]

theorem shift_floor {a n d : Int} (hd : 0 < d) : (a * d + n) / d = a + n / d := by
  rw [Int.add_comm, Int.add_mul_ediv_right _ _ (by omega)]; omega
theorem shift_ceil {a n d : Int} (hd : 0 < d) : cdiv (a * d + n) d = a + cdiv n d := by
  unfold cdiv
  have e : -(a * d + n) = (-a) * d + -n := by rw [Int.neg_add, Int.neg_mul]
  rw [e, shift_floor hd]
  omega
end Go.DI

