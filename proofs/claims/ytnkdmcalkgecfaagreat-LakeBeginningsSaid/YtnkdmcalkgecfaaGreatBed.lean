/- Lakes as plain data: for how many ticks flows are permitted; the beginnings of a run; wider limits. No condition. -/
import Derived.Test.YtnkdmcalkgecfaaGreatBeGn
namespace Go.DI.Lk

/-- For how many ticks nothing is violated. -/
def permL (p : Pair) (L : Lims) : List Sta → Sta → List Flow → Nat
  | _, _, [] => 0
  | ss, s, x :: r => match step p s x with
    | none => 0
    | some (t, _, _) => match vAt p L (nth (ss ++ [t])) ss.length with
      | some _ => 0
      | none => permL p L (ss ++ [t]) t r + 1
def permW : List (Bool × Option Vio) → Nat
  | (true, none) :: r => permW r + 1
  | _ => 0
theorem permW_wat {p : Pair} {L : Lims} : ∀ {l : List Flow} {ss : List Sta} {s : Sta}, permW (wat p L ss s l) = permL p L ss s l
  | [], _, _ => rfl
  | x :: r, ss, s => by
    unfold wat permL
    cases hs : step p s x with
    | none => rfl
    | some q =>
      obtain ⟨t, e, f⟩ := q
      dsimp only
      cases hv : vAt p L (nth (ss ++ [t])) ss.length with
      | none => show permW _ + 1 = _; rw [permW_wat]
      | some q => rfl
theorem permL_le {p : Pair} {L : Lims} : ∀ {l : List Flow} {ss : List Sta} {s : Sta}, permL p L ss s l ≤ l.length
  | [], _, _ => Nat.le_refl _
  | x :: r, ss, s => by
    unfold permL
    cases hs : step p s x with
    | none => exact Nat.zero_le _
    | some q =>
      obtain ⟨t, e, f⟩ := q
      dsimp only
      cases hv : vAt p L (nth (ss ++ [t])) ss.length with
      | none => exact Nat.succ_le_succ permL_le
      | some q => exact Nat.zero_le _
/-- A run's codes. -/
theorem vio_code {p : Pair} {L : Lims} : ∀ {l : List Flow} {ss : List Sta} {s : Sta}, (∃ v, vio p L ss s l = (some v, 0)) ∨ vio p L ss s l = (none, 12) ∨ vio p L ss s l = (none, 22)
  | [], _, _ => .inr (.inl rfl)
  | x :: r, ss, s => by
    unfold vio
    cases hs : step p s x with
    | none => exact .inr (.inr rfl)
    | some q =>
      obtain ⟨t, e, f⟩ := q
      dsimp only
      cases hv : vAt p L (nth (ss ++ [t])) ss.length with
      | none => exact vio_code
      | some q => exact .inl ⟨_, rfl⟩
theorem kind_lt {x : Lim} {a b : Rat} {k : Nat} (h : kindOf x a b = some k) : k ≤ 3 := by
  unfold kindOf at h
  split at h
  · cases h; decide
  · split at h
    · cases h; decide
    · split at h
      · cases h; decide
      · split at h
        · cases h; decide
        · cases h
theorem vAt_lt {p : Pair} {L : Lims} {f : Nat → Sta} {t : Nat} {q : Nat × Nat} (h : vAt p L f t = some q) : q.1 ≤ 1 ∧ q.2 ≤ 3 := by
  unfold vAt at h
  split at h
  · rename_i k hk
    cases h
    exact ⟨Nat.zero_le _, kind_lt hk⟩
  · rw [Option.map_eq_some_iff] at h
    obtain ⟨k, hk, rfl⟩ := h
    exact ⟨Nat.le_refl _, kind_lt hk⟩
/-- The first violation: what comes before it violates nothing. -/
theorem vio_cut {p : Pair} {L : Lims} : ∀ {l : List Flow} {ss : List Sta} {s : Sta} {v : Vio}, vio p L ss s l = (some v, 0) →
    ∃ i, v.1 = ss.length + i ∧ i < l.length ∧ (v.2.1 ≤ 1 ∧ v.2.2 ≤ 3) ∧ vio p L ss s (l.take i) = (none, 12) ∧ vio p L ss s (l.take (i + 1)) = (some v, 0)
  | [], _, _, v, h => by cases h
  | x :: r, ss, s, v, h => by
    unfold vio at h
    cases hs : step p s x with
    | none => rw [hs] at h; cases h
    | some q =>
      obtain ⟨t, e, f⟩ := q
      rw [hs] at h
      dsimp only at h
      cases hv : vAt p L (nth (ss ++ [t])) ss.length with
      | some q =>
        rw [hv] at h
        cases h
        refine ⟨0, rfl, by simp, vAt_lt hv, rfl, ?_⟩
        rw [Nat.zero_add, List.take_succ_cons, List.take_zero]
        unfold vio
        rw [hs]
        dsimp only
        rw [hv]
      | none =>
        rw [hv] at h
        dsimp only at h
        obtain ⟨i, h1, h2, h3, h4, h5⟩ := vio_cut h
        refine ⟨i + 1, by rw [h1, List.length_append, List.length_singleton]; omega, by simpa using h2, h3, ?_, ?_⟩
        · rw [List.take_succ_cons]
          unfold vio
          rw [hs]
          dsimp only
          rw [hv]
          exact h4
        · rw [List.take_succ_cons]
          unfold vio
          rw [hs]
          dsimp only
          rw [hv]
          exact h5
/-- For so many ticks nothing is violated, one tick longer something is, or the flows are impossible. -/
theorem perm_cut {p : Pair} {L : Lims} : ∀ {l : List Flow} {ss : List Sta} {s : Sta}, vio p L ss s (l.take (permL p L ss s l)) = (none, 12) ∧
    (permL p L ss s l < l.length → (∃ v, vio p L ss s (l.take (permL p L ss s l + 1)) = (some v, 0)) ∨ vio p L ss s (l.take (permL p L ss s l + 1)) = (none, 22))
  | [], _, _ => ⟨rfl, fun h => by cases h⟩
  | x :: r, ss, s => by
    cases hs : step p s x with
    | none =>
      have e : permL p L ss s (x :: r) = 0 := by unfold permL; rw [hs]
      rw [e]
      refine ⟨rfl, fun _ => .inr ?_⟩
      rw [Nat.zero_add, List.take_succ_cons]
      unfold vio
      rw [hs]
    | some q =>
      obtain ⟨t, e, f⟩ := q
      cases hv : vAt p L (nth (ss ++ [t])) ss.length with
      | some q =>
        have e : permL p L ss s (x :: r) = 0 := by unfold permL; rw [hs]; dsimp only; rw [hv]
        rw [e]
        refine ⟨rfl, fun _ => .inl ⟨(ss.length, q), ?_⟩⟩
        rw [Nat.zero_add, List.take_succ_cons]
        unfold vio
        rw [hs]
        dsimp only
        rw [hv]
      | none =>
        have e : permL p L ss s (x :: r) = permL p L (ss ++ [t]) t r + 1 := by conv => lhs; unfold permL; rw [hs]; dsimp only; rw [hv]
        obtain ⟨h1, h2⟩ := perm_cut (p := p) (L := L) (l := r) (ss := ss ++ [t]) (s := t)
        have key : ∀ n, vio p L ss s ((x :: r).take (n + 1)) = vio p L (ss ++ [t]) t (r.take n) := fun n => by
          rw [List.take_succ_cons]
          conv => lhs; unfold vio; rw [hs]; dsimp only; rw [hv]
        rw [e, key, key]
        exact ⟨h1, fun h => h2 (by simpa using h)⟩

/-- Limits that are as wide, or wider. -/
structure Wider (a b : Lim) : Prop where
  lo : b.lo ≤ a.lo
  hi : a.hi ≤ b.hi
  fall : a.fall ≤ b.fall
  rise : a.rise ≤ b.rise
  win : a.win = b.win
theorem kind_wide {a b : Lim} (h : Wider a b) {x y : Rat} (hk : kindOf a x y = none) : kindOf b x y = none := by
  have h1 : (b.lo : Rat) ≤ (a.lo : Rat) := by exact_mod_cast h.lo
  have h2 : (a.hi : Rat) ≤ (b.hi : Rat) := by exact_mod_cast h.hi
  have h3 : (a.fall : Rat) ≤ (b.fall : Rat) := by exact_mod_cast h.fall
  have h4 : (a.rise : Rat) ≤ (b.rise : Rat) := by exact_mod_cast h.rise
  unfold kindOf at hk ⊢
  split at hk
  · cases hk
  split at hk
  · cases hk
  split at hk
  · cases hk
  split at hk
  · cases hk
  rename_i k1 k2 k3 k4
  rw [if_neg (by grind), if_neg (by grind), if_neg (by grind), if_neg (by grind)]
theorem vLake_wide {l : List Kn} {a b : Lim} (h : Wider a b) {f : Nat → Int} {t : Nat} (hk : vLake l a f t = none) : vLake l b f t = none := by
  unfold vLake at hk ⊢
  rw [← h.win]
  exact kind_wide h hk
theorem vAt_wide {p : Pair} {A B : Lims} (h1 : Wider A.u B.u) (h2 : Wider A.l B.l) {f : Nat → Sta} {t : Nat} (hk : vAt p A f t = none) : vAt p B f t = none := by
  unfold vAt at hk ⊢
  split at hk
  · cases hk
  rename_i k1
  rw [vLake_wide h1 k1]
  rw [Option.map_eq_none_iff] at hk
  rw [vLake_wide h2 hk]
  rfl
/-- With wider limits nothing is violated earlier. -/
theorem vio_wide {p : Pair} {A B : Lims} (h1 : Wider A.u B.u) (h2 : Wider A.l B.l) : ∀ {l : List Flow} {ss : List Sta} {s : Sta} {v w : Vio}, vio p A ss s l = (some v, 0) → vio p B ss s l = (some w, 0) → v.1 ≤ w.1
  | [], _, _, v, w, h, _ => by cases h
  | x :: r, ss, s, v, w, h, k => by
    cases hs : step p s x with
    | none => unfold vio at h; rw [hs] at h; cases h
    | some q =>
      obtain ⟨t, e, f⟩ := q
      unfold vio at h k
      rw [hs] at h k
      dsimp only at h k
      cases hv : vAt p A (nth (ss ++ [t])) ss.length with
      | some q =>
        rw [hv] at h
        cases h
        dsimp only
        cases hw : vAt p B (nth (ss ++ [t])) ss.length with
        | some q => rw [hw] at k; cases k; exact Nat.le_refl _
        | none =>
          rw [hw] at k
          obtain ⟨i, hi, _⟩ := vio_cut k
          rw [hi, List.length_append]
          omega
      | none =>
        rw [hv] at h
        rw [vAt_wide h1 h2 hv] at k
        exact vio_wide h1 h2 h k
end Go.DI.Lk

