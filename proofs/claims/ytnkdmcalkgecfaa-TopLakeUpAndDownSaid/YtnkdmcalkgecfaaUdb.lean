/- Lakes as plain data: up and down again. No condition. -/
import Derived.Test.YtnkdmcalkgecfaaUdGn
namespace Go.DI.Lk

def dryF (e : Int) : Flow := ⟨0, 0, e⟩
def dryP (p : Pair) : Pair := ⟨p.u, p.l, 0⟩

theorem dryP_ok {p : Pair} (h : VPair p) : VPair (dryP p) := ⟨h.u, h.l, ⟨by show (0 : Int) ≤ 0; omega, by show (0 : Int) ≤ 1000; omega⟩⟩
theorem dry_lk {l : List Kn} {v g : Int} (hv : isV l v) : lakeStep l 0 v g = if v + g < (bot l).2 then none else some (v + g - max 0 (v + g - (top l).2), 0, max 0 (v + g - (top l).2)) := by
  unfold lakeStep
  rw [evap_dry hv]
  simp only [Int.sub_zero]
theorem dry_st {p : Pair} {s : Sta} {e : Int} (hs : stOk p s) : step (dryP p) s (dryF e) =
    if s.1 + e < (bot p.u).2 ∨ s.2 - e < (bot p.l).2 then none
    else some ((s.1 + e - max 0 (s.1 + e - (top p.u).2), s.2 - e - max 0 (s.2 - e - (top p.l).2)), 0, max 0 (s.1 + e - (top p.u).2) + max 0 (s.2 - e - (top p.l).2)) := by
  unfold step dryP dryF
  dsimp only
  rw [dry_lk hs.1, dry_lk hs.2, Int.zero_add, Int.zero_sub, ← Int.sub_eq_add_neg]
  by_cases h1 : s.1 + e < (bot p.u).2
  · rw [if_pos h1, if_pos (Or.inl h1)]
  · rw [if_neg h1]
    by_cases h2 : s.2 - e < (bot p.l).2
    · rw [if_pos h2, if_pos (Or.inr h2)]
    · rw [if_neg h2, if_neg (by omega)]
      simp

/-- A step without losses, and back. -/
theorem dry_back {p : Pair} {s t : Sta} {e a b : Int} (hs : stOk p s) (h : step (dryP p) s (dryF e) = some (t, a, b)) :
    a = 0 ∧ 0 ≤ b ∧ (b = 0 → stOk p t ∧ step (dryP p) t (dryF (-e)) = some (s, 0, 0)) := by
  rw [dry_st hs] at h
  split at h
  · cases h
  · rename_i hn
    simp only [Option.some.injEq, Prod.mk.injEq] at h
    obtain ⟨rfl, rfl, rfl⟩ := h
    have s1 := hs.1
    have s2 := hs.2
    unfold isV Wi at s1 s2
    refine ⟨rfl, by omega, fun hb => ?_⟩
    have e1 : max 0 (s.1 + e - (top p.u).2) = 0 := by omega
    have e2 : max 0 (s.2 - e - (top p.l).2) = 0 := by omega
    have ht : stOk p (s.1 + e - max 0 (s.1 + e - (top p.u).2), s.2 - e - max 0 (s.2 - e - (top p.l).2)) := by
      unfold stOk isV Wi
      dsimp only
      omega
    refine ⟨ht, ?_⟩
    rw [dry_st ht, if_neg (by dsimp only; omega)]
    dsimp only
    congr 1
    refine Prod.ext (Prod.ext ?_ ?_) (Prod.ext rfl ?_)
    · dsimp only; omega
    · dsimp only; omega
    · dsimp only; omega

theorem dry_flow {e : Int} (h : -10000000 ≤ e ∧ e ≤ 10000000) : flowOk (dryF e) := ⟨⟨by show (0 : Int) ≤ 0; omega, by show (0 : Int) ≤ 10000000; omega⟩, ⟨by show (0 : Int) ≤ 0; omega, by show (0 : Int) ≤ 10000000; omega⟩, h⟩
theorem lastS_back {t : Sta} {r : List Sta} : lastS (lastS t r) (t :: r).dropLast.reverse = t := by
  cases r with
  | nil => rfl
  | cons x r =>
    rw [List.dropLast_cons_of_ne_nil (by simp), List.reverse_cons]
    exact lastS_append _ _ _

theorem dry_run {p : Pair} (hp : VPair p) : ∀ {es : List Int} {s : Sta}, (∀ e ∈ es, -10000000 ≤ e ∧ e ≤ 10000000) → stOk p s → (runP (dryP p) s (es.map dryF)).2.2 = true → (runP (dryP p) s (es.map dryF)).2.1.2 = 0 →
    (∀ t ∈ (runP (dryP p) s (es.map dryF)).1, stOk p t) ∧
      runP (dryP p) (lastS s (runP (dryP p) s (es.map dryF)).1) (es.reverse.map fun e => dryF (-e)) = ((s :: (runP (dryP p) s (es.map dryF)).1).dropLast.reverse, (0, 0), true)
  | [], s, _, hs, _, _ => ⟨by simp [runP], rfl⟩
  | e :: r, s, he, hs, h1, h2 => by
    rw [List.map_cons] at h1 h2 ⊢
    cases hst : step (dryP p) s (dryF e) with
    | none => rw [runP_none hst] at h1; cases h1
    | some q =>
      obtain ⟨t, a, b⟩ := q
      rw [runP_some hst] at h1 h2 ⊢
      dsimp only at h1 h2 ⊢
      obtain ⟨ha, hb, hbk⟩ := dry_back hs hst
      have hts := (step_some (dryP_ok hp) (s := s) hs (dry_flow (he e (by simp))) hst).1
      have hnn := (runP_spec (dryP_ok hp) (s := t) (l := r.map dryF) hts (fun x hx => by obtain ⟨e', h', rfl⟩ := List.mem_map.1 hx; exact dry_flow (he e' (by simp [h'])))).2.2.2.1
      have hb0 : b = 0 := by omega
      obtain ⟨ht, hback⟩ := hbk hb0
      have ih := dry_run hp (es := r) (fun e' h' => he e' (by simp [h'])) ht h1 (by omega)
      refine ⟨fun z hz => ?_, ?_⟩
      · rcases List.mem_cons.1 hz with rfl | hz
        · exact ht
        · exact ih.1 z hz
      · rw [List.reverse_cons, List.map_append]
        generalize (runP (dryP p) t (r.map dryF)).1 = run at *
        have h2 := ih.2
        show runP (dryP p) (lastS t run) _ = _
        rw [runP_append (by rw [h2]), h2]
        dsimp only
        rw [lastS_back]
        have e3 : [e].map (fun e => dryF (-e)) = [dryF (-e)] := rfl
        rw [e3, runP_some hback]
        rw [show (s :: t :: run).dropLast = s :: (t :: run).dropLast from rfl, List.reverse_cons]
        simp [runP]

theorem dry_evap {p : Pair} : ∀ {es : List Int} {s : Sta}, VPair p → (∀ e ∈ es, -10000000 ≤ e ∧ e ≤ 10000000) → stOk p s → (runP (dryP p) s (es.map dryF)).2.1.1 = 0
  | [], s, _, _, _ => rfl
  | e :: r, s, hp, he, hs => by
    rw [List.map_cons]
    cases hst : step (dryP p) s (dryF e) with
    | none => rw [runP_none hst]
    | some q =>
      obtain ⟨t, a, b⟩ := q
      rw [runP_some hst]
      have ha := (dry_back hs hst).1
      have hts := (step_some (dryP_ok hp) (s := s) hs (dry_flow (he e (by simp))) hst).1
      have ih := dry_evap (es := r) (s := t) hp (fun e' h' => he e' (by simp [h'])) hts
      dsimp only
      omega

/-- Levels alone. -/
def widL (L : Lims) : Lims := ⟨⟨L.u.lo, L.u.hi, 1000000, 1000000, L.u.win⟩, ⟨L.l.lo, L.l.hi, 1000000, 1000000, L.l.win⟩⟩
def badK (x : Lim) (now : Rat) : Option Nat := if now < (x.lo : Rat) then some 0 else if (x.hi : Rat) < now then some 1 else none
def badV (p : Pair) (L : Lims) (s : Sta) : Option (Nat × Nat) := match badK L.u (lvl p.u s.1) with | some k => some (0, k) | none => (badK L.l (lvl p.l s.2)).map fun k => (1, k)

theorem lvl_bd {l : List Kn} {v : Int} (h : Valid l) (hv : isV l v) : (0 : Rat) ≤ lvl l v ∧ lvl l v ≤ ((1000000 : Int) : Rat) := by
  obtain ⟨i, hi, i1, i2, i3, i4, i5⟩ := at_volume h hv
  have ra := h.range i2
  have rb := h.range (i := i - 1) (by omega)
  have dp := dh_pos h i1 i2
  have dq := dv_pos h i1 i2
  have bd := share (n := v - (kn l (i - 1)).2) (d := dv l i) (e := dh l i) dq.1 (by omega) (by unfold dv; omega) dp.1
  unfold lvl
  rw [hi, Rat.divInt_eq_div]
  have hd : (0 : Rat) < (dv l i : Rat) := by exact_mod_cast dq.1
  have e1 : (kn l i).1 = (kn l (i - 1)).1 + dh l i := by unfold dh; omega
  have h0 : 0 ≤ (kn l (i - 1)).1 * dv l i := Int.mul_nonneg (by omega) (by omega)
  have h1 : ((kn l (i - 1)).1 + dh l i) * dv l i ≤ 1000000 * dv l i := Int.mul_le_mul_of_nonneg_right (by omega) (by omega)
  rw [Int.add_mul] at h1
  have h2 : dv l i * dh l i = dh l i * dv l i := Int.mul_comm _ _
  constructor
  · refine Rat.not_lt.1 fun k => ?_
    rw [Rat.div_lt_iff hd, Rat.zero_mul] at k
    have k' : (kn l (i - 1)).1 * dv l i + (v - (kn l (i - 1)).2) * dh l i < 0 := by exact_mod_cast k
    omega
  · refine Rat.not_lt.1 fun k => ?_
    rw [Rat.lt_div_iff hd] at k
    have k' : ∀ m : Int, (m : Rat) * (dv l i : Rat) < (((kn l (i - 1)).1 * dv l i + (v - (kn l (i - 1)).2) * dh l i : Int) : Rat) → m * dv l i < (kn l (i - 1)).1 * dv l i + (v - (kn l (i - 1)).2) * dh l i := fun m q => by exact_mod_cast q
    have k'' := k' 1000000 k
    omega

theorem kindOf_wid {lo hi w : Int} {now before : Rat} (h1 : (0 : Rat) ≤ now ∧ now ≤ ((1000000 : Int) : Rat)) (h2 : (0 : Rat) ≤ before ∧ before ≤ ((1000000 : Int) : Rat)) :
    kindOf ⟨lo, hi, 1000000, 1000000, w⟩ now before = badK ⟨lo, hi, 1000000, 1000000, w⟩ now := by
  unfold kindOf badK
  have n1 : ¬ (((1000000 : Int) : Rat) < before - now) := by
    intro k
    generalize ((1000000 : Int) : Rat) = m at *
    grind
  have n2 : ¬ (((1000000 : Int) : Rat) < now - before) := by
    intro k
    generalize ((1000000 : Int) : Rat) = m at *
    grind
  rw [if_neg n1, if_neg n2]

theorem vAt_wid {p : Pair} (hp : VPair p) {L : Lims} {f : Nat → Sta} {t : Nat} (h : ∀ i, i ≤ t → stOk p (f i)) : vAt p (widL L) f t = badV p (widL L) (f t) := by
  have b := fun i hi => lvl_bd hp.u (h i hi).1
  have c := fun i hi => lvl_bd hp.l (h i hi).2
  unfold vAt vLake badV widL
  dsimp only
  rw [kindOf_wid (b _ (Nat.le_refl _)) (b _ (Nat.sub_le ..)), kindOf_wid (c _ (Nat.le_refl _)) (c _ (Nat.sub_le ..))]
  rfl
theorem badV_le {p : Pair} {L : Lims} {s : Sta} {a k : Nat} (h : badV p L s = some (a, k)) : a ≤ 1 ∧ k ≤ 1 := by
  unfold badV badK at h
  split at h
  · rename_i k' hk
    simp only [Option.some.injEq, Prod.mk.injEq] at h
    split at hk
    · simp only [Option.some.injEq] at hk; omega
    · split at hk
      · simp only [Option.some.injEq] at hk; omega
      · cases hk
  · simp only [Option.map_eq_some_iff, Prod.mk.injEq] at h
    obtain ⟨k', hk, h1, h2⟩ := h
    split at hk
    · simp only [Option.some.injEq] at hk; omega
    · split at hk
      · simp only [Option.some.injEq] at hk; omega
      · cases hk

theorem scan_none {p : Pair} {L : Lims} {f : Nat → Sta} : ∀ {m t : Nat}, scan p L f m t = none ↔ ∀ i, t ≤ i → i < t + m → vAt p L f i = none
  | 0, t => by unfold scan; simp; omega
  | m + 1, t => by
    unfold scan
    cases hv : vAt p L f t with
    | some q => simp; exact ⟨t, by omega, by omega, by rw [hv]; simp⟩
    | none =>
      dsimp only
      rw [scan_none]
      constructor
      · intro h i h1 h2
        by_cases hi : i = t
        · rw [hi]; exact hv
        · exact h i (by omega) (by omega)
      · intro h i h1 h2
        exact h i (by omega) (by omega)
theorem scan_some {p : Pair} {L : Lims} {f : Nat → Sta} : ∀ {m t i a k : Nat}, scan p L f m t = some (i, a, k) → t ≤ i ∧ i < t + m ∧ vAt p L f i = some (a, k) ∧ ∀ j, t ≤ j → j < i → vAt p L f j = none
  | 0, t, i, a, k, h => by cases h
  | m + 1, t, i, a, k, h => by
    unfold scan at h
    cases hv : vAt p L f t with
    | some q =>
      rw [hv] at h
      simp only [Option.some.injEq, Prod.mk.injEq] at h
      obtain ⟨rfl, h⟩ := h
      exact ⟨by omega, by omega, by rw [hv, h], fun j h1 h2 => by omega⟩
    | none =>
      rw [hv] at h
      obtain ⟨h1, h2, h3, h4⟩ := scan_some h
      refine ⟨by omega, by omega, h3, fun j h5 h6 => ?_⟩
      by_cases hj : j = t
      · rw [hj]; exact hv
      · exact h4 j (by omega) h6

theorem lastS_kn {s : Sta} : ∀ {r : List Sta}, r ≠ [] → lastS s r = kn r (r.length - 1)
  | [], h => absurd rfl h
  | [t], _ => rfl
  | t :: u :: r, _ => by
    have ih := lastS_kn (s := t) (r := u :: r) (by simp)
    show lastS t (u :: r) = _
    rw [ih]
    unfold kn
    simp
theorem back_kn {s : Sta} {r : List Sta} {i : Nat} (h : i < r.length) : kn (s :: r).dropLast.reverse i = kn (s :: r) (r.length - 1 - i) := by
  unfold kn
  rw [List.getD_eq_getElem?_getD, List.getD_eq_getElem?_getD, List.getElem?_reverse (by simpa using h), List.getElem?_dropLast]
  simp only [List.length_dropLast, List.length_cons, Nat.add_sub_cancel]
  rw [if_pos (by omega)]
theorem nth_back {s : Sta} {r : List Sta} {i : Nat} (h : i ≤ r.length) (h0 : r ≠ []) : nth (lastS s r :: (s :: r).dropLast.reverse) i = nth (s :: r) (r.length - i) := by
  have hp := List.length_pos_iff.2 h0
  cases i with
  | zero =>
    rw [lastS_kn h0]
    show kn r (r.length - 1) = kn (s :: r) (r.length - 0)
    unfold kn
    rw [List.getD_eq_getElem?_getD, List.getD_eq_getElem?_getD, show r.length - 0 = (r.length - 1) + 1 by omega, List.getElem?_cons_succ]
  | succ i =>
    show kn (s :: r).dropLast.reverse i = kn (s :: r) (r.length - (i + 1))
    rw [back_kn (by omega)]
    congr 1
    omega

/-- What is found on the way up, and on the way back. -/
theorem up_back {p : Pair} (hp : VPair p) {L : Lims} {es : List Int} {s : Sta} (he : ∀ e ∈ es, -10000000 ≤ e ∧ e ≤ 10000000) (hs : stOk p s) (h0 : es ≠ [])
    (h1 : (runP (dryP p) s (es.map dryF)).2.2 = true) (h2 : (runP (dryP p) s (es.map dryF)).2.1.2 = 0) :
    (vio (dryP p) (widL L) [s] s (es.map dryF) = (none, 12) ∧
      ((vio (dryP p) (widL L) [lastS s (runP (dryP p) s (es.map dryF)).1] (lastS s (runP (dryP p) s (es.map dryF)).1) (es.reverse.map fun e => dryF (-e))).2 = 12 ∨
        (vio (dryP p) (widL L) [lastS s (runP (dryP p) s (es.map dryF)).1] (lastS s (runP (dryP p) s (es.map dryF)).1) (es.reverse.map fun e => dryF (-e))).2 = 0)) ∨
    ∃ t a k, vio (dryP p) (widL L) [s] s (es.map dryF) = (some (t, a, k), 0) ∧ 1 ≤ t ∧ t ≤ es.length ∧ k ≤ 1 ∧
      (t = es.length ∨ (vio (dryP p) (widL L) [lastS s (runP (dryP p) s (es.map dryF)).1] (lastS s (runP (dryP p) s (es.map dryF)).1) (es.reverse.map fun e => dryF (-e))).2 = 0) := by
  obtain ⟨hall, hbk⟩ := dry_run hp he hs h1 h2
  have s1 := scan_vio (p := dryP p) (L := widL L) (l := es.map dryF) (ss := [s]) (s := s)
  have s2 := scan_vio (p := dryP p) (L := widL L) (l := es.reverse.map fun e => dryF (-e)) (ss := [lastS s (runP (dryP p) s (es.map dryF)).1]) (s := lastS s (runP (dryP p) s (es.map dryF)).1)
  have hlen := (runP_len (p := dryP p) (s := s) (l := es.map dryF)).2 h1
  rw [hbk] at s2
  rw [h1] at s1
  rw [List.length_map] at hlen
  generalize (runP (dryP p) s (es.map dryF)).1 = run at *
  have hrn : run ≠ [] := by
    intro h
    rw [h] at hlen
    exact h0 (List.length_eq_zero_iff.1 hlen.symm)
  have e1 : [s] ++ run = s :: run := rfl
  have e2 : [lastS s run] ++ (s :: run).dropLast.reverse = lastS s run :: (s :: run).dropLast.reverse := rfl
  dsimp only at s2
  rw [e1] at s1
  rw [e2] at s2
  simp only [List.length_reverse, List.length_dropLast, List.length_cons, Nat.add_sub_cancel, if_true] at s1 s2
  rw [← s1, ← s2]
  have hok : ∀ i, stOk p (nth (s :: run) i) ∨ run.length < i := by
    intro i
    by_cases hi : i ≤ run.length
    · left
      unfold nth
      rw [List.getD_eq_getElem?_getD]
      have hm : (s :: run)[i]?.getD (0, 0) ∈ s :: run := by simp [show i < run.length + 1 by omega]
      rcases List.mem_cons.1 hm with h | h
      · rw [h]; exact hs
      · exact hall _ h
    · right; omega
  have ok1 : ∀ t, t ≤ run.length → vAt (dryP p) (widL L) (nth (s :: run)) t = badV (dryP p) (widL L) (nth (s :: run) t) :=
    fun t ht => vAt_wid (dryP_ok hp) fun i hi => (hok i).elim id fun h => by omega
  have ok2 : ∀ t, t ≤ run.length → vAt (dryP p) (widL L) (nth (lastS s run :: (s :: run).dropLast.reverse)) t = badV (dryP p) (widL L) (nth (lastS s run :: (s :: run).dropLast.reverse) t) :=
    fun t ht => vAt_wid (dryP_ok hp) fun i hi => by
      rw [nth_back (by omega) hrn]
      exact (hok _).elim id fun h => by omega
  cases hsc : scan (dryP p) (widL L) (nth (s :: run)) run.length 1 with
  | none =>
    left
    refine ⟨rfl, ?_⟩
    cases scan (dryP p) (widL L) (nth (lastS s run :: (s :: run).dropLast.reverse)) run.length 1 with
    | none => exact Or.inl rfl
    | some q => exact Or.inr rfl
  | some q =>
    obtain ⟨t, a, k⟩ := q
    obtain ⟨c1, c2, c3, _⟩ := scan_some hsc
    right
    refine ⟨t, a, k, rfl, c1, by omega, ?_, ?_⟩
    · rw [ok1 t (by omega)] at c3
      exact (badV_le c3).2
    · by_cases htl : t = es.length
      · exact Or.inl htl
      · right
        cases hsc2 : scan (dryP p) (widL L) (nth (lastS s run :: (s :: run).dropLast.reverse)) run.length 1 with
        | some q => rfl
        | none =>
          have hz := scan_none.1 hsc2 (run.length - t) (by omega) (by omega)
          rw [ok2 _ (by omega), nth_back (by omega) hrn, show run.length - (run.length - t) = t by omega, ← ok1 t (by omega), c3] at hz
          cases hz
end Go.DI.Lk

