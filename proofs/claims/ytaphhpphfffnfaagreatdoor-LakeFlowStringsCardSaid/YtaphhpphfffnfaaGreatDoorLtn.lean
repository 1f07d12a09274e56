/- Lakes as plain data: tables, levels, volumes; no program in sight. -/
namespace Go.DI.Lk

abbrev Kn := Int × Int
def Wi (n lo hi : Int) : Prop := lo ≤ n ∧ n ≤ hi
instance (n lo hi : Int) : Decidable (Wi n lo hi) := inferInstanceAs (Decidable (_ ∧ _))

/-- The first place at which f is not 0, and f there. -/
def firstE (f : Nat → Int) : Nat → Nat → Int × Int
  | 0, _ => (0, 0)
  | m + 1, i => if f i = 0 then firstE f m (i + 1) else ((i : Int), f i)

theorem firstE_ok {f : Nat → Int} : ∀ {m i : Nat}, (firstE f m i).2 = 0 ↔ ∀ j, i ≤ j → j < i + m → f j = 0
  | 0, i => by simp [firstE]; intro j h1 h2; omega
  | m + 1, i => by
    unfold firstE
    split
    · rename_i h
      rw [firstE_ok]
      constructor
      · intro k j h1 h2
        by_cases e : j = i
        · subst e; exact h
        · exact k j (by omega) (by omega)
      · intro k j h1 h2; exact k j (by omega) (by omega)
    · rename_i h
      constructor
      · intro k; exact absurd k h
      · intro k; exact absurd (k i (by omega) (by omega)) h

def kn (l : List Kn) (i : Nat) : Kn := l.getD i default

def knotErr (l : List Kn) (i : Nat) : Int :=
  if ¬ (Wi (kn l i).1 0 1000000 ∧ Wi (kn l i).2 0 1000000000) then 2
  else if i = 0 then 0
  else if (kn l i).1 ≤ (kn l (i - 1)).1 ∨ (kn l i).2 ≤ (kn l (i - 1)).2 then 9
  else if 1 < i ∧ ((kn l i).2 - (kn l (i - 1)).2) * ((kn l (i - 1)).1 - (kn l (i - 2)).1) < ((kn l (i - 1)).2 - (kn l (i - 2)).2) * ((kn l i).1 - (kn l (i - 1)).1) then 22
  else 0

def chkT (l : List Kn) : Int × Int :=
  if l.length < 2 then (0, 10) else if 10 < l.length then (0, 8) else firstE (knotErr l) l.length 0

structure Valid (l : List Kn) : Prop where
  two : 2 ≤ l.length
  ten : l.length ≤ 10
  ok : ∀ i, i < l.length → knotErr l i = 0

theorem chkT_ok {l : List Kn} : (chkT l).2 = 0 ↔ Valid l := by
  unfold chkT
  split
  · constructor
    · intro h; cases h
    · intro h; have := h.two; omega
  · split
    · constructor
      · intro h; cases h
      · intro h; have := h.ten; omega
    · rw [firstE_ok]
      constructor
      · intro h; exact ⟨by omega, by omega, fun i hi => h i (by omega) (by omega)⟩
      · intro h j h1 h2; exact h.ok j (by omega)

theorem Valid.range {l : List Kn} (h : Valid l) {i : Nat} (hi : i < l.length) : 0 ≤ (kn l i).1 ∧ (kn l i).1 ≤ 1000000 ∧ 0 ≤ (kn l i).2 ∧ (kn l i).2 ≤ 1000000000 := by
  have := h.ok i hi
  unfold knotErr at this
  split at this
  · omega
  · rename_i k; simp only [Decidable.not_not, Wi] at k; omega

theorem Valid.up {l : List Kn} (h : Valid l) {i : Nat} (h0 : 0 < i) (hi : i < l.length) : (kn l (i - 1)).1 < (kn l i).1 ∧ (kn l (i - 1)).2 < (kn l i).2 := by
  have := h.ok i hi
  unfold knotErr at this
  split at this
  · omega
  · split at this
    · omega
    · split at this
      · omega
      · omega

theorem Valid.le {l : List Kn} (h : Valid l) {j : Nat} (hj : j < l.length) : ∀ {i : Nat}, i ≤ j → (kn l i).1 ≤ (kn l j).1 ∧ (kn l i).2 ≤ (kn l j).2 := by
  induction j with
  | zero => intro i hi; have : i = 0 := by omega
            subst this; omega
  | succ j ih =>
    intro i hi
    by_cases e : i = j + 1
    · subst e; omega
    · have h1 := @ih (by omega) i (by omega)
      have h2 := h.up (i := j + 1) (by omega) hj
      simp only [Nat.add_sub_cancel] at h2
      omega

theorem Valid.lt {l : List Kn} (h : Valid l) {i j : Nat} (hj : j < l.length) (hij : i < j) : (kn l i).1 < (kn l j).1 ∧ (kn l i).2 < (kn l j).2 := by
  have h1 := h.le (j := j - 1) (by omega) (i := i) (by omega)
  have h2 := h.up (i := j) (by omega) hj
  omega

def bot (l : List Kn) : Kn := kn l 0
def top (l : List Kn) : Kn := kn l (l.length - 1)

/-- The first place from i on at which a knot is high enough. -/
def idx (p : Kn → Bool) (l : List Kn) : Nat → Nat → Nat
  | 0, i => i
  | m + 1, i => if p (kn l i) then i else idx p l m (i + 1)

theorem idx_spec {p : Kn → Bool} {l : List Kn} : ∀ {m i : Nat}, i ≤ idx p l m i ∧ idx p l m i ≤ i + m ∧ (∀ j, i ≤ j → j < idx p l m i → p (kn l j) = false) ∧ (idx p l m i < i + m → p (kn l (idx p l m i)) = true)
  | 0, i => by unfold idx; exact ⟨by omega, by omega, fun j h1 h2 => by omega, fun h => by omega⟩
  | m + 1, i => by
    unfold idx
    split
    · rename_i h; exact ⟨by omega, by omega, fun j h1 h2 => by omega, fun _ => h⟩
    · rename_i h
      obtain ⟨h1, h2, h3, h4⟩ := @idx_spec p l m (i + 1)
      refine ⟨by omega, by omega, fun j k1 k2 => ?_, fun k => h4 (by omega)⟩
      by_cases e : j = i
      · subst e; simpa using h
      · exact h3 j (by omega) k2

/-- The piece of a volume, the piece of a level: its upper knot. -/
def atV (l : List Kn) (v : Int) : Nat := idx (fun k => decide (v ≤ k.2)) l (l.length - 1) 1
def atL (l : List Kn) (v : Int) : Nat := idx (fun k => decide (v ≤ k.1)) l (l.length - 1) 1

theorem atV_spec {l : List Kn} {v : Int} (h : Valid l) (hv : v ≤ (top l).2) : 1 ≤ atV l v ∧ atV l v < l.length ∧ v ≤ (kn l (atV l v)).2 ∧ (1 < atV l v → (kn l (atV l v - 1)).2 < v) := by
  have h2 := h.two
  obtain ⟨h1, h3, h4, h5⟩ := @idx_spec (fun k => decide (v ≤ k.2)) l (l.length - 1) 1
  unfold atV
  generalize idx (fun k => decide (v ≤ k.2)) l (l.length - 1) 1 = i at *
  have hi : i < l.length := by
    apply Decidable.byContradiction
    intro hn
    have := h4 (l.length - 1) (by omega) (by omega)
    simp at this
    unfold top at hv
    omega
  refine ⟨h1, hi, ?_, fun hk => ?_⟩
  · simpa using h5 (by omega)
  · have := h4 (i - 1) (by omega) (by omega)
    simpa using this

theorem atL_spec {l : List Kn} {v : Int} (h : Valid l) (hv : v ≤ (top l).1) : 1 ≤ atL l v ∧ atL l v < l.length ∧ v ≤ (kn l (atL l v)).1 ∧ (1 < atL l v → (kn l (atL l v - 1)).1 < v) := by
  have h2 := h.two
  obtain ⟨h1, h3, h4, h5⟩ := @idx_spec (fun k => decide (v ≤ k.1)) l (l.length - 1) 1
  unfold atL
  generalize idx (fun k => decide (v ≤ k.1)) l (l.length - 1) 1 = i at *
  have hi : i < l.length := by
    apply Decidable.byContradiction
    intro hn
    have := h4 (l.length - 1) (by omega) (by omega)
    simp at this
    unfold top at hv
    omega
  refine ⟨h1, hi, ?_, fun hk => ?_⟩
  · simpa using h5 (by omega)
  · have := h4 (i - 1) (by omega) (by omega)
    simpa using this

end Go.DI.Lk

