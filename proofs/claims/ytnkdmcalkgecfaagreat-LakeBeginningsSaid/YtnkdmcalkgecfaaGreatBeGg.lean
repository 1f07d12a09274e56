/- Lakes and fractions as plain data. No condition. -/
import Derived.Test.YtnkdmcalkgecfaaGreatBeGf
/- Lakes as plain data: tables, levels, volumes; no program in sight. -/
namespace Go.DI.Lk

abbrev Kn := Int × Int
def Wi (n lo hi : Int) : Prop := lo ≤ n ∧ n ≤ hi
instance (n lo hi : Int) : Decidable (Wi n lo hi) := inferInstanceAs (Decidable (_ ∧ _))

def firstE (f : Nat → Int) : Nat → Nat → Int × Int
  | 0, _ => (0, 0)
  | m + 1, i => if f i = 0 then firstE f m (i + 1) else ((i : Int), f i)

theorem firstE_ok {f : Nat → Int} : ∀ {m i : Nat}, (firstE f m i).2 = 0 ↔ ∀ j, i ≤ j → j < i + m → f j = 0
  | 0, i => by simp [firstE]; intro j h1 h2; omega
  | m + 1, i => by
    unfold firstE
    split
    · rename_i h
      rw [firstE_ok]
      constructor
      · intro k j h1 h2
        by_cases e : j = i
        · subst e; exact h
        · exact k j (by omega) (by omega)
      · intro k j h1 h2; exact k j (by omega) (by omega)
    · rename_i h
      constructor
      · intro k; exact absurd k h
      · intro k; exact absurd (k i (by omega) (by omega)) h

def kn (l : List Kn) (i : Nat) : Kn := l.getD i default

def knotErr (l : List Kn) (i : Nat) : Int :=
  if ¬ (Wi (kn l i).1 0 1000000 ∧ Wi (kn l i).2 0 1000000000) then 2
  else if i = 0 then 0
  else if (kn l i).1 ≤ (kn l (i - 1)).1 ∨ (kn l i).2 ≤ (kn l (i - 1)).2 then 9
  else if 1 < i ∧ ((kn l i).2 - (kn l (i - 1)).2) * ((kn l (i - 1)).1 - (kn l (i - 2)).1) < ((kn l (i - 1)).2 - (kn l (i - 2)).2) * ((kn l i).1 - (kn l (i - 1)).1) then 22
  else 0

def chkT (l : List Kn) : Int × Int :=
  if l.length < 2 then (0, 10) else if 10 < l.length then (0, 8) else firstE (knotErr l) l.length 0

structure Valid (l : List Kn) : Prop where
  two : 2 ≤ l.length
  ten : l.length ≤ 10
  ok : ∀ i, i < l.length → knotErr l i = 0

theorem chkT_ok {l : List Kn} : (chkT l).2 = 0 ↔ Valid l := by
  unfold chkT
  split
  · constructor
    · intro h; cases h
    · intro h; have := h.two; omega
  · split
    · constructor
      · intro h; cases h
      · intro h; have := h.ten; omega
    · rw [firstE_ok]
      constructor
      · intro h; exact ⟨by omega, by omega, fun i hi => h i (by omega) (by omega)⟩
      · intro h j h1 h2; exact h.ok j (by omega)

theorem Valid.range {l : List Kn} (h : Valid l) {i : Nat} (hi : i < l.length) : 0 ≤ (kn l i).1 ∧ (kn l i).1 ≤ 1000000 ∧ 0 ≤ (kn l i).2 ∧ (kn l i).2 ≤ 1000000000 := by
  have := h.ok i hi
  unfold knotErr at this
  split at this
  · omega
  · rename_i k; simp only [Decidable.not_not, Wi] at k; omega

theorem Valid.up {l : List Kn} (h : Valid l) {i : Nat} (h0 : 0 < i) (hi : i < l.length) : (kn l (i - 1)).1 < (kn l i).1 ∧ (kn l (i - 1)).2 < (kn l i).2 := by
  have := h.ok i hi
  unfold knotErr at this
  split at this
  · omega
  · split at this
    · omega
    · split at this
      · omega
      · omega

theorem Valid.wider {l : List Kn} (h : Valid l) {i : Nat} (h0 : 1 < i) (hi : i < l.length) :
    ((kn l (i - 1)).2 - (kn l (i - 2)).2) * ((kn l i).1 - (kn l (i - 1)).1) ≤ ((kn l i).2 - (kn l (i - 1)).2) * ((kn l (i - 1)).1 - (kn l (i - 2)).1) := by
  have := h.ok i hi
  unfold knotErr at this
  split at this
  · omega
  · split at this
    · omega
    · split at this
      · omega
      · split at this
        · omega
        · omega

theorem Valid.le {l : List Kn} (h : Valid l) {j : Nat} (hj : j < l.length) : ∀ {i : Nat}, i ≤ j → (kn l i).1 ≤ (kn l j).1 ∧ (kn l i).2 ≤ (kn l j).2 := by
  induction j with
  | zero => intro i hi; have : i = 0 := by omega
            subst this; omega
  | succ j ih =>
    intro i hi
    by_cases e : i = j + 1
    · subst e; omega
    · have h1 := @ih (by omega) i (by omega)
      have h2 := h.up (i := j + 1) (by omega) hj
      simp only [Nat.add_sub_cancel] at h2
      omega

theorem Valid.lt {l : List Kn} (h : Valid l) {i j : Nat} (hj : j < l.length) (hij : i < j) : (kn l i).1 < (kn l j).1 ∧ (kn l i).2 < (kn l j).2 := by
  have h1 := h.le (j := j - 1) (by omega) (i := i) (by omega)
  have h2 := h.up (i := j) (by omega) hj
  omega

def bot (l : List Kn) : Kn := kn l 0
def top (l : List Kn) : Kn := kn l (l.length - 1)

def idx (p : Kn → Bool) (l : List Kn) : Nat → Nat → Nat
  | 0, i => i
  | m + 1, i => if p (kn l i) then i else idx p l m (i + 1)

theorem idx_spec {p : Kn → Bool} {l : List Kn} : ∀ {m i : Nat}, i ≤ idx p l m i ∧ idx p l m i ≤ i + m ∧ (∀ j, i ≤ j → j < idx p l m i → p (kn l j) = false) ∧ (idx p l m i < i + m → p (kn l (idx p l m i)) = true)
  | 0, i => by unfold idx; exact ⟨by omega, by omega, fun j h1 h2 => by omega, fun h => by omega⟩
  | m + 1, i => by
    unfold idx
    split
    · rename_i h; exact ⟨by omega, by omega, fun j h1 h2 => by omega, fun _ => h⟩
    · rename_i h
      obtain ⟨h1, h2, h3, h4⟩ := @idx_spec p l m (i + 1)
      refine ⟨by omega, by omega, fun j k1 k2 => ?_, fun k => h4 (by omega)⟩
      by_cases e : j = i
      · subst e; simpa using h
      · exact h3 j (by omega) k2

def atV (l : List Kn) (v : Int) : Nat := idx (fun k => decide (v ≤ k.2)) l (l.length - 1) 1
def atL (l : List Kn) (v : Int) : Nat := idx (fun k => decide (v ≤ k.1)) l (l.length - 1) 1

theorem atV_spec {l : List Kn} {v : Int} (h : Valid l) (hv : v ≤ (top l).2) : 1 ≤ atV l v ∧ atV l v < l.length ∧ v ≤ (kn l (atV l v)).2 ∧ (1 < atV l v → (kn l (atV l v - 1)).2 < v) := by
  have h2 := h.two
  obtain ⟨h1, h3, h4, h5⟩ := @idx_spec (fun k => decide (v ≤ k.2)) l (l.length - 1) 1
  unfold atV
  generalize idx (fun k => decide (v ≤ k.2)) l (l.length - 1) 1 = i at *
  have hi : i < l.length := by
    apply Decidable.byContradiction
    intro hn
    have := h4 (l.length - 1) (by omega) (by omega)
    simp at this
    unfold top at hv
    omega
  refine ⟨h1, hi, ?_, fun hk => ?_⟩
  · simpa using h5 (by omega)
  · have := h4 (i - 1) (by omega) (by omega)
    simpa using this

theorem atL_spec {l : List Kn} {v : Int} (h : Valid l) (hv : v ≤ (top l).1) : 1 ≤ atL l v ∧ atL l v < l.length ∧ v ≤ (kn l (atL l v)).1 ∧ (1 < atL l v → (kn l (atL l v - 1)).1 < v) := by
  have h2 := h.two
  obtain ⟨h1, h3, h4, h5⟩ := @idx_spec (fun k => decide (v ≤ k.1)) l (l.length - 1) 1
  unfold atL
  generalize idx (fun k => decide (v ≤ k.1)) l (l.length - 1) 1 = i at *
  have hi : i < l.length := by
    apply Decidable.byContradiction
    intro hn
    have := h4 (l.length - 1) (by omega) (by omega)
    simp at this
    unfold top at hv
    omega
  refine ⟨h1, hi, ?_, fun hk => ?_⟩
  · simpa using h5 (by omega)
  · have := h4 (i - 1) (by omega) (by omega)
    simpa using this

end Go.DI.Lk

/- Lakes as plain data: the volume at a level, the level at a volume. -/
namespace Go.DI.Lk

def dh (l : List Kn) (i : Nat) : Int := (kn l i).1 - (kn l (i - 1)).1
def dv (l : List Kn) (i : Nat) : Int := (kn l i).2 - (kn l (i - 1)).2
def cdiv (n d : Int) : Int := -(-n / d)

theorem le_ediv {x n d : Int} (hd : 0 < d) : x ≤ n / d ↔ x * d ≤ n := Int.le_ediv_iff_mul_le hd
theorem cdiv_le {x n d : Int} (hd : 0 < d) : cdiv n d ≤ x ↔ n ≤ x * d := by
  unfold cdiv
  have := @le_ediv (-x) (-n) d hd
  rw [Int.neg_mul] at this
  omega
theorem cdiv_eq {n d : Int} (hd : 0 < d) : cdiv n d = n / d + min (n % d) 1 := by
  have h1 := Int.emod_nonneg n (show d ≠ 0 by omega)
  have h2 := Int.emod_lt_of_pos n hd
  have h3 := Int.mul_ediv_add_emod n d
  by_cases h : n % d = 0
  · rw [h, show min (0:Int) 1 = 0 from rfl, Int.add_zero]
    apply Int.le_antisymm
    · rw [cdiv_le hd, Int.mul_comm]; omega
    · rcases Int.lt_or_le (cdiv n d) (n / d) with k | k
      · exfalso
        have : cdiv n d ≤ n / d - 1 := by omega
        rw [cdiv_le hd, Int.sub_mul, Int.mul_comm] at this
        omega
      · exact k
  · rw [show min (n % d) 1 = 1 by omega]
    apply Int.le_antisymm
    · rw [cdiv_le hd, Int.add_mul, Int.mul_comm (n / d)]; omega
    · rcases Int.lt_or_le (cdiv n d) (n / d + 1) with k | k
      · exfalso
        have : cdiv n d ≤ n / d := by omega
        rw [cdiv_le hd, Int.mul_comm] at this
        omega
      · exact k

def volLo (l : List Kn) (x : Int) : Int := (kn l (atL l x - 1)).2 + ((x - (kn l (atL l x - 1)).1) * dv l (atL l x)) / dh l (atL l x)
def volHi (l : List Kn) (x : Int) : Int := (kn l (atL l x - 1)).2 + cdiv ((x - (kn l (atL l x - 1)).1) * dv l (atL l x)) (dh l (atL l x))
def levLo (l : List Kn) (v : Int) : Int := (kn l (atV l v - 1)).1 + ((v - (kn l (atV l v - 1)).2) * dh l (atV l v)) / dv l (atV l v)
def levHi (l : List Kn) (v : Int) : Int := (kn l (atV l v - 1)).1 + cdiv ((v - (kn l (atV l v - 1)).2) * dh l (atV l v)) (dv l (atV l v))

def isL (l : List Kn) (x : Int) : Prop := Wi x (bot l).1 (top l).1
def isV (l : List Kn) (v : Int) : Prop := Wi v (bot l).2 (top l).2
instance (l : List Kn) (x : Int) : Decidable (isL l x) := inferInstanceAs (Decidable (Wi _ _ _))
instance (l : List Kn) (x : Int) : Decidable (isV l x) := inferInstanceAs (Decidable (Wi _ _ _))

theorem dh_pos {l : List Kn} (h : Valid l) {i : Nat} (h0 : 0 < i) (hi : i < l.length) : 0 < dh l i ∧ dh l i ≤ 1000000 := by
  have := h.up h0 hi
  have := h.range hi
  have := h.range (i := i - 1) (by omega)
  unfold dh; omega
theorem dv_pos {l : List Kn} (h : Valid l) {i : Nat} (h0 : 0 < i) (hi : i < l.length) : 0 < dv l i ∧ dv l i ≤ 1000000000 := by
  have := h.up h0 hi
  have := h.range hi
  have := h.range (i := i - 1) (by omega)
  unfold dv; omega

theorem at_volume {l : List Kn} (h : Valid l) {v : Int} (hv : isV l v) : ∃ i, atV l v = i ∧ 0 < i ∧ i < l.length ∧ (kn l (i - 1)).2 ≤ v ∧ v ≤ (kn l i).2 ∧ (1 < i → (kn l (i - 1)).2 < v) := by
  obtain ⟨h1, h2, h3, h4⟩ := atV_spec h hv.2
  refine ⟨_, rfl, h1, h2, ?_, h3, h4⟩
  by_cases k : 1 < atV l v
  · have := h4 k; omega
  · have e : atV l v - 1 = 0 := by omega
    rw [e]; exact hv.1
theorem at_level {l : List Kn} (h : Valid l) {v : Int} (hv : isL l v) : ∃ i, atL l v = i ∧ 0 < i ∧ i < l.length ∧ (kn l (i - 1)).1 ≤ v ∧ v ≤ (kn l i).1 ∧ (1 < i → (kn l (i - 1)).1 < v) := by
  obtain ⟨h1, h2, h3, h4⟩ := atL_spec h hv.2
  refine ⟨_, rfl, h1, h2, ?_, h3, h4⟩
  by_cases k : 1 < atL l v
  · have := h4 k; omega
  · have e : atL l v - 1 = 0 := by omega
    rw [e]; exact hv.1

theorem share {n d e : Int} (hd : 0 < d) (h0 : 0 ≤ n) (h1 : n ≤ d) (he : 0 < e) : 0 ≤ n * e ∧ n * e ≤ d * e ∧ 0 ≤ n * e / d ∧ n * e / d ≤ e ∧ 0 ≤ cdiv (n * e) d ∧ cdiv (n * e) d ≤ e ∧ n * e / d ≤ cdiv (n * e) d ∧ cdiv (n * e) d ≤ n * e / d + 1 := by
  have a1 : 0 ≤ n * e := Int.mul_nonneg h0 (by omega)
  have a2 : n * e ≤ d * e := Int.mul_le_mul_of_nonneg_right h1 (by omega)
  have a3 : 0 ≤ n * e / d := Int.ediv_nonneg a1 (by omega)
  have a4 : n * e / d ≤ e := by
    rcases Int.lt_or_le e (n * e / d) with k | k
    · have : e + 1 ≤ n * e / d := by omega
      rw [le_ediv hd, Int.add_mul, Int.mul_comm e d] at this
      omega
    · exact k
  have a5 : cdiv (n * e) d ≤ e := by rw [cdiv_le hd, Int.mul_comm e]; omega
  have a6 := cdiv_eq (n := n * e) hd
  have a7 := Int.emod_nonneg (n * e) (show d ≠ 0 by omega)
  refine ⟨a1, a2, a3, a4, by omega, a5, by omega, by omega⟩

theorem level_in {l : List Kn} (h : Valid l) {v : Int} (hv : isV l v) {i : Nat} (hi : atV l v = i) : (kn l (i - 1)).1 ≤ levLo l v ∧ levLo l v ≤ levHi l v ∧ levHi l v ≤ (kn l i).1 ∧ levHi l v ≤ levLo l v + 1 := by
  obtain ⟨j, hj, h1, h2, h3, h4, h5⟩ := at_volume h hv
  have : i = j := by omega
  subst this
  have := share (n := v - (kn l (i - 1)).2) (d := dv l i) (e := dh l i) (dv_pos h h1 h2).1 (by omega) (by unfold dv; omega) (dh_pos h h1 h2).1
  unfold levLo levHi
  rw [hi]
  have e : dh l i = (kn l i).1 - (kn l (i - 1)).1 := rfl
  omega
theorem volume_in {l : List Kn} (h : Valid l) {v : Int} (hv : isL l v) {i : Nat} (hi : atL l v = i) : (kn l (i - 1)).2 ≤ volLo l v ∧ volLo l v ≤ volHi l v ∧ volHi l v ≤ (kn l i).2 ∧ volHi l v ≤ volLo l v + 1 := by
  obtain ⟨j, hj, h1, h2, h3, h4, h5⟩ := at_level h hv
  have : i = j := by omega
  subst this
  have := share (n := v - (kn l (i - 1)).1) (d := dh l i) (e := dv l i) (dh_pos h h1 h2).1 (by omega) (by unfold dh; omega) (dv_pos h h1 h2).1
  unfold volLo volHi
  rw [hi]
  have e : dv l i = (kn l i).2 - (kn l (i - 1)).2 := rfl
  omega

def evap (l : List Kn) (rate v : Int) : Int := min (rate * dv l (atV l v) / (1000 * dh l (atV l v))) (v - (bot l).2)

theorem evap_in {l : List Kn} (h : Valid l) {v rate : Int} (hv : isV l v) (hr : 0 ≤ rate) : 0 ≤ evap l rate v ∧ evap l rate v ≤ v - (bot l).2 := by
  obtain ⟨i, hi, i1, i2, i3, i4, i5⟩ := at_volume h hv
  have dp := dh_pos h i1 i2
  have dq := dv_pos h i1 i2
  unfold evap
  rw [hi]
  have : 0 ≤ rate * dv l i / (1000 * dh l i) := Int.ediv_nonneg (Int.mul_nonneg hr (by omega)) (by omega)
  have := hv.1
  omega
structure Flow where
  up : Int
  low : Int
  ex : Int
structure Pair where
  u : List Kn
  l : List Kn
  rate : Int
abbrev Sta := Int × Int

def lakeStep (l : List Kn) (rate v grow : Int) : Option (Int × Int × Int) :=
  let w := v + grow - evap l rate v
  if w < (bot l).2 then none else some (w - max 0 (w - (top l).2), evap l rate v, max 0 (w - (top l).2))

def step (p : Pair) (s : Sta) (x : Flow) : Option (Sta × Int × Int) :=
  match lakeStep p.u p.rate s.1 (x.up + x.ex), lakeStep p.l p.rate s.2 (x.low - x.ex) with
  | some (a, e, f), some (b, g, k) => some ((a, b), e + g, f + k)
  | _, _ => none

def flowOk (x : Flow) : Prop := Wi x.up 0 10000000 ∧ Wi x.low 0 10000000 ∧ Wi x.ex (-10000000) 10000000
instance (x : Flow) : Decidable (flowOk x) := inferInstanceAs (Decidable (_ ∧ _))

end Go.DI.Lk

/- Lakes as plain data: levels and volumes at knots, in order; areas in order; readings. -/
namespace Go.DI.Lk

theorem isV_in {l : List Kn} (h : Valid l) {i : Nat} {x : Int} (h0 : 0 < i) (hi : i < l.length) (h1 : (kn l (i - 1)).2 ≤ x) (h2 : x ≤ (kn l i).2) : isV l x := by
  have a := h.le (j := i - 1) (by omega) (i := 0) (by omega)
  have b := h.le (j := l.length - 1) (by omega) (i := i) (by omega)
  unfold isV Wi bot top
  omega

theorem volume_isV {l : List Kn} (h : Valid l) {x : Int} (hx : isL l x) : isV l (volLo l x) ∧ isV l (volHi l x) ∧ volLo l x ≤ volHi l x ∧ volHi l x ≤ volLo l x + 1 := by
  obtain ⟨i, hi, i1, i2, i3, i4, i5⟩ := at_level h hx
  have := volume_in h hx hi
  exact ⟨isV_in h i1 i2 (by omega) (by omega), isV_in h i1 i2 (by omega) (by omega), by omega, by omega⟩

end Go.DI.Lk

/- Lakes as plain data: readings; ranges that contradict each other. -/
namespace Go.DI.Lk

abbrev Rn := Int × Int
def rn (rs : List Rn) (i : Nat) : Rn := rs.getD i default
def meet (a b : Rn) : Rn := (max a.1 b.1, min a.2 b.2)

def meets (rs : List Rn) : Nat → Rn
  | 0 => rn rs 0
  | n + 1 => meet (meets rs n) (rn rs (n + 1))

structure Rdg where
  tick : Int
  lo : Int
  hi : Int
instance : Inhabited Rdg := ⟨⟨0, 0, 0⟩⟩

def sumTo (net : List Int) : Nat → Int
  | 0 => 0
  | n + 1 => sumTo net n + net.getD n 0

def perm (l : List Kn) (net : List Int) (r : Rdg) : Rn := (volHi l r.lo - sumTo net r.tick.toNat, volLo l r.hi - sumTo net r.tick.toNat)

def rdgErr (l : List Kn) (n : Int) (r : Rdg) : Int :=
  if ¬ (Wi r.tick 0 n ∧ isL l r.lo ∧ isL l r.hi) then 2 else if r.hi < r.lo then 9 else 0

theorem rdgErr_ok {l : List Kn} {n : Int} {r : Rdg} (h : rdgErr l n r = 0) : (0 ≤ r.tick ∧ r.tick ≤ n) ∧ isL l r.lo ∧ isL l r.hi ∧ r.lo ≤ r.hi := by
  unfold rdgErr at h
  split at h
  · omega
  · rename_i k
    split at h
    · omega
    · rename_i k2
      simp only [Decidable.not_not] at k
      exact ⟨k.1, k.2.1, k.2.2, by omega⟩

end Go.DI.Lk

/- Lakes as plain data: steps and runs. -/
namespace Go.DI.Lk

deriving instance DecidableEq for Flow
instance : Inhabited Flow := ⟨⟨0, 0, 0⟩⟩

structure VPair (p : Pair) : Prop where
  u : Valid p.u
  l : Valid p.l
  r : Wi p.rate 0 1000

def stOk (p : Pair) (s : Sta) : Prop := isV p.u s.1 ∧ isV p.l s.2
instance (p : Pair) (s : Sta) : Decidable (stOk p s) := inferInstanceAs (Decidable (_ ∧ _))

theorem lakeStep_some {l : List Kn} (h : Valid l) {rate v g a e f : Int} (hv : isV l v) (hr : 0 ≤ rate) (hs : lakeStep l rate v g = some (a, e, f)) :
    isV l a ∧ a + e + f = v + g ∧ 0 ≤ e ∧ e ≤ 1000000000 ∧ 0 ≤ f ∧ (f ≤ g ∨ f = 0) := by
  have h2 := h.two
  have ev := evap_in h hv hr
  have b := h.range (i := 0) (by omega)
  have t := h.range (i := l.length - 1) (by omega)
  have bt := h.le (j := l.length - 1) (by omega) (i := 0) (by omega)
  unfold lakeStep at hs
  dsimp only at hs
  split at hs
  · cases hs
  · rename_i k
    simp only [Option.some.injEq, Prod.mk.injEq] at hs
    obtain ⟨rfl, rfl, rfl⟩ := hs
    unfold isV Wi at *
    unfold top bot at *
    omega

theorem step_some {p : Pair} (h : VPair p) {s t : Sta} {x : Flow} {e f : Int} (hv : stOk p s) (hx : flowOk x) (hs : step p s x = some (t, e, f)) :
    stOk p t ∧ t.1 + t.2 + e + f = s.1 + s.2 + x.up + x.low ∧ 0 ≤ e ∧ e ≤ 2000000000 ∧ 0 ≤ f ∧ f ≤ 2000000000 := by
  unfold step at hs
  split at hs
  · rename_i a e1 f1 b e2 f2 h1 h2
    simp only [Option.some.injEq, Prod.mk.injEq] at hs
    obtain ⟨rfl, rfl, rfl⟩ := hs
    have q1 := lakeStep_some h.u hv.1 h.r.1 h1
    have q2 := lakeStep_some h.l hv.2 h.r.1 h2
    unfold flowOk Wi at hx
    refine ⟨⟨q1.1, q2.1⟩, ?_⟩
    dsimp only
    omega
  · cases hs

end Go.DI.Lk

/- Fractions: order, rounding; plain arithmetic, no program in sight. -/
namespace Go.DI
open Lk

theorem rle {a b c d : Int} (hb : 0 < b) (hd : 0 < d) : Rat.divInt a b ≤ Rat.divInt c d ↔ a * d ≤ c * b := by
  rw [Rat.le_iff_sub_nonneg, Rat.divInt_sub_divInt _ _ (by omega) (by omega), Rat.divInt_nonneg_iff_of_pos_right (Int.mul_pos hd hb)]
  omega
theorem rlt {a b c d : Int} (hb : 0 < b) (hd : 0 < d) : Rat.divInt a b < Rat.divInt c d ↔ a * d < c * b := by
  rw [← Rat.not_le, rle hd hb]
  omega
end Go.DI

