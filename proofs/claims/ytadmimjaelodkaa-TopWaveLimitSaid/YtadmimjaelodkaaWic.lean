/- Plain lines: waves only travel. No condition. -/
import Derived.Test.YtadmimjaelodkaaWib
set_option linter.unusedSimpArgs false
namespace Go.DI

theorem eq_getD {α : Type} (d : α) {l m : List α} (h : l.length = m.length) (k : ∀ j, j < l.length → l.getD j d = m.getD j d) : l = m := by
  refine List.ext_getElem h fun j h1 h2 => ?_
  have := k j h1
  rwa [List.getD_eq_getElem?_getD, List.getD_eq_getElem?_getD, List.getElem?_eq_getElem h1, List.getElem?_eq_getElem h2, Option.getD_some, Option.getD_some] at this
/-- Is each pressure of a state so small? -/
def BdS (M : Int) (s : Ws) : Prop := ∀ i, (-M ≤ s.F.getD i 0 ∧ s.F.getD i 0 ≤ M) ∧ -M ≤ s.B.getD i 0 ∧ s.B.getD i 0 ≤ M
theorem w6 {n : Int} (h1 : -9223372036854775808 ≤ n) (h2 : n ≤ 9223372036854775807) : W6 n = n := wrap64 h1 h2
theorem mul_bd {y a M : Int} {k : Int} (hy : 0 ≤ y ∧ y ≤ k) (hM : 0 ≤ M) (ha : -M ≤ a ∧ a ≤ M) : -(k * M) ≤ y * a ∧ y * a ≤ k * M := by
  have h1 : y * a ≤ y * M := Int.mul_le_mul_of_nonneg_left ha.2 hy.1
  have h2 : y * (-M) ≤ y * a := Int.mul_le_mul_of_nonneg_left ha.1 hy.1
  have h3 : y * M ≤ k * M := Int.mul_le_mul_of_nonneg_right hy.2 hM
  rw [Int.mul_neg] at h2
  omega
theorem jP_plain {y a c L : Int} (hy : 1 ≤ y ∧ y ≤ 10) (ha : -10000000 ≤ a ∧ a ≤ 10000000) (hc : -10000000 ≤ c ∧ c ≤ 10000000) : jP y y 0 a c L = a + c := by
  unfold jP
  have h1 := mul_bd (y := 2 * y) (k := 20) (by omega) (by decide) ha
  have h2 := mul_bd (y := 2 * y) (k := 20) (by omega) (by decide) hc
  rw [w6 (n := 2 * y) (by omega) (by omega), w6 (n := 2 * y * a) (by omega) (by omega), w6 (n := 2 * y * c) (by omega) (by omega), w6 (n := 2 * y * a + 2 * y * c) (by omega) (by omega),
    Int.zero_mul, w6 (n := 0) (by omega) (by omega), Int.add_zero, w6 (n := 2 * y * a + 2 * y * c) (by omega) (by omega), w6 (n := y + y) (by omega) (by omega), Int.add_zero, w6 (n := y + y) (by omega) (by omega),
    ← Int.mul_add, show y + y = 2 * y by omega, Int.mul_tdiv_cancel_left _ (by omega), w6 (by omega) (by omega)]
theorem plain_at {x : Ln} (hx : LineOk x) (hp : plainL x = true) : ∃ y, (1 ≤ y ∧ y ≤ 10) ∧ (∀ j, j < x.pp.length → (x.pp.getD j default).2 = y) ∧ ∀ j, x.ar.getD j 0 = 0 := by
  have h := plainL_iff.1 hp
  have hl := hx.len
  refine ⟨(x.pp.getD 0 default).2, (hx.pip _ (getD_mem (by omega))).2, fun j hj => h.1 _ (getD_mem hj), fun j => ?_⟩
  by_cases hj : j < x.ar.length
  · exact h.2 _ (getD_mem hj)
  · simp [List.getD_eq_getElem?_getD, Nat.le_of_not_lt hj]
theorem getD_set_same {l : List Int} {i : Nat} {v : Int} (h : l.getD i 0 = v) : l.set i v = l := by
  refine eq_getD 0 (List.length_set) fun j hj => ?_
  simp only [List.getD_eq_getElem?_getD, List.getElem?_set] at h ⊢
  split
  · rename_i e; subst e
    rw [List.length_set] at hj
    rw [if_pos hj, ← h]
    rfl
  · rfl
/-- A junction of a plain line changes no pressure. -/
theorem plain_jncs {x : Ln} {s : Ws} {c : Int} (hx : LineOk x) (hp : plainL x = true) (hs : Sh (opn x) s) (hb : BdS 10000000 s) : ∀ k, k ≤ x.ar.length →
    (jncs (opn x) s k (baseS (opn x) s c)).F = (baseS (opn x) s c).F ∧ (jncs (opn x) s k (baseS (opn x) s c)).B = (baseS (opn x) s c).B
  | 0, _ => ⟨rfl, rfl⟩
  | k + 1, hk => by
    obtain ⟨e1, e2⟩ := plain_jncs (c := c) hx hp hs hb k (by omega)
    obtain ⟨y, hy, hpp, har⟩ := plain_at hx hp
    have hat := (opn_ok hx).at (j := k) (by show k < x.ar.length; omega)
    have hars := hx.ars
    have b1 := (hb (((opn x).be.getD (k + 1) 0).toNat - 1)).1
    have b2 := (hb ((opn x).be.getD (k + 1) 0).toNat).2
    have hj : jP ((opn x).pp.getD k default).2 ((opn x).pp.getD (k + 1) default).2 ((opn x).ar.getD k 0) (s.F.getD (((opn x).be.getD (k + 1) 0).toNat - 1) 0) (s.B.getD ((opn x).be.getD (k + 1) 0).toNat 0) (s.L.getD k 0) =
        s.F.getD (((opn x).be.getD (k + 1) 0).toNat - 1) 0 + s.B.getD ((opn x).be.getD (k + 1) 0).toNat 0 := by
      rw [show (opn x).ar.getD k 0 = 0 from har k, show ((opn x).pp.getD k default).2 = y from hpp k (by omega), show ((opn x).pp.getD (k + 1) default).2 = y from hpp (k + 1) (by omega)]
      exact jP_plain hy b1 b2
    have hF := hs.f
    have hB := hs.b
    unfold jncs jnc
    simp only [hj, e1, e2]
    constructor
    · refine getD_set_same ?_
      rw [show s.F.getD (((opn x).be.getD (k + 1) 0).toNat - 1) 0 + s.B.getD ((opn x).be.getD (k + 1) 0).toNat 0 - s.B.getD ((opn x).be.getD (k + 1) 0).toNat 0 = s.F.getD (((opn x).be.getD (k + 1) 0).toNat - 1) 0 by omega, w6 (by omega) (by omega)]
      generalize hm : ((opn x).be.getD (k + 1) 0).toNat = m at *
      obtain ⟨m', rfl⟩ : ∃ m', m = m' + 1 := ⟨m - 1, by omega⟩
      unfold baseS
      simp only [List.getD_cons_succ, Nat.add_sub_cancel]
      simp only [List.getD_eq_getElem?_getD]
      rw [List.getElem?_take_of_lt (by omega)]
    · refine getD_set_same ?_
      rw [show s.F.getD (((opn x).be.getD (k + 1) 0).toNat - 1) 0 + s.B.getD ((opn x).be.getD (k + 1) 0).toNat 0 - s.F.getD (((opn x).be.getD (k + 1) 0).toNat - 1) 0 = s.B.getD ((opn x).be.getD (k + 1) 0).toNat 0 by omega, w6 (by omega) (by omega)]
      generalize hm : ((opn x).be.getD (k + 1) 0).toNat = m at *
      obtain ⟨m', rfl⟩ : ∃ m', m = m' + 1 := ⟨m - 1, by omega⟩
      unfold baseS
      simp only [Nat.add_sub_cancel]
      simp only [List.getD_eq_getElem?_getD]
      rw [List.getElem?_append_left (by rw [List.length_drop]; omega), List.getElem?_drop, Nat.add_comm]
theorem plain_stp {x : Ln} {s : Ws} {c : Int} (hx : LineOk x) (hp : plainL x = true) (hs : Sh (opn x) s) (hb : BdS 10000000 s) :
    (stp (opn x) s c).F = (baseS (opn x) s c).F ∧ (stp (opn x) s c).B = (baseS (opn x) s c).B := plain_jncs hx hp hs hb _ (Nat.le_refl _)

/-- What the valve sends back at a tick, on a plain line of n cells. -/
def eV (f : Nat → Int) (n : Nat) (t : Nat) : Int := if _h : 0 < n ∧ 2 * n ≤ t then f t - eV f n (t - 2 * n) else f t
termination_by t
theorem eV_lo {f : Nat → Int} {n t : Nat} (h : t < 2 * n) : eV f n t = f t := by
  rw [eV, dif_neg (by omega)]
theorem eV_hi {f : Nat → Int} {n t : Nat} (hn : 0 < n) (h : 2 * n ≤ t) : eV f n t = f t - eV f n (t - 2 * n) := by
  rw [eV, dif_pos ⟨hn, h⟩]
theorem eV_bd {f : Nat → Int} {n : Nat} (hn : 0 < n) (h0 : ∀ t, 0 ≤ f t) (hm : ∀ s t, s ≤ t → f s ≤ f t) : ∀ k t, t ≤ k → 0 ≤ eV f n t ∧ eV f n t ≤ f t
  | k, t, hk => by
    by_cases h : t < 2 * n
    · rw [eV_lo h]; exact ⟨h0 t, Int.le_refl _⟩
    · rw [eV_hi hn (by omega)]
      cases k with
      | zero => omega
      | succ k =>
        have h1 := eV_bd hn h0 hm k (t - 2 * n) (by omega)
        have h2 := hm (t - 2 * n) t (by omega)
        omega
def plF (f : Nat → Int) (n t : Nat) : List Int := (List.range n).map fun i => if n + 1 + i ≤ t then -(eV f n (t - 1 - i - n)) else 0
def plB (f : Nat → Int) (n t : Nat) : List Int := (List.range n).map fun i => if n ≤ t + i then eV f n (t + i - n) else 0
theorem plF_get {f : Nat → Int} {n t i : Nat} (h : i < n) : (plF f n t).getD i 0 = if n + 1 + i ≤ t then -(eV f n (t - 1 - i - n)) else 0 := by
  simp [plF, List.getD_eq_getElem?_getD, h]
theorem plB_get {f : Nat → Int} {n t i : Nat} (h : i < n) : (plB f n t).getD i 0 = if n ≤ t + i then eV f n (t + i - n) else 0 := by
  simp [plB, List.getD_eq_getElem?_getD, h]
theorem getD_out {l : List Int} {i : Nat} (h : l.length ≤ i) : l.getD i 0 = 0 := by simp [List.getD_eq_getElem?_getD, h]
theorem plain_law {x : Ln} {law : List Int} {M : Int} (hx : LineOk x) (hp : plainL x = true) (hM : M ≤ 10000) (h0 : ∀ t, 0 ≤ atL law t) (h1 : ∀ t, atL law t ≤ M) (hm : ∀ s t, s ≤ t → atL law s ≤ atL law t) :
    ∀ t, (lawS (opn x) law t).F = plF (atL law) (opn x).n.toNat t ∧ (lawS (opn x) law t).B = plB (atL law) (opn x).n.toNat t
  | 0 => by
    have hn := (opn_ok hx).nb
    constructor
    · refine eq_getD 0 (by simp [lawS, restS, plF, zeros]) fun j hj => ?_
      have hj : j < (opn x).n.toNat := by simpa [lawS, restS, zeros] using hj
      rw [plF_get hj, if_neg (by omega)]
      simp [lawS, restS, zeros, List.getD_eq_getElem?_getD, hj]
    · refine eq_getD 0 (by simp [lawS, restS, plB, zeros]) fun j hj => ?_
      have hj : j < (opn x).n.toNat := by simpa [lawS, restS, zeros] using hj
      rw [plB_get hj, if_neg (by omega)]
      simp [lawS, restS, zeros, List.getD_eq_getElem?_getD, hj]
  | t + 1 => by
    have hn := (opn_ok hx).nb
    obtain ⟨eF, eB⟩ := plain_law hx hp hM h0 h1 hm t
    have hbd := fun k => eV_bd (f := atL law) (n := (opn x).n.toNat) (by omega) h0 hm k k (Nat.le_refl _)
    have hsh := sh_law hn.1 (law := law) t
    have hb : BdS 10000000 (lawS (opn x) law t) := by
      intro i
      rw [eF, eB]
      by_cases hi : i < (opn x).n.toNat
      · rw [plF_get hi, plB_get hi]
        constructor
        · split
          · have := hbd (t - 1 - i - (opn x).n.toNat)
            have := h1 (t - 1 - i - (opn x).n.toNat)
            omega
          · omega
        · split
          · have := hbd (t + i - (opn x).n.toNat)
            have := h1 (t + i - (opn x).n.toNat)
            omega
          · omega
      · rw [getD_out (by simp [plF]; omega), getD_out (by simp [plB]; omega)]
        omega
    obtain ⟨k1, k2⟩ := plain_stp (c := atL law t) hx hp hsh hb
    have hF := hsh.f
    have hB := hsh.b
    show (stp (opn x) (lawS (opn x) law t) (atL law t)).F = _ ∧ (stp (opn x) (lawS (opn x) law t) (atL law t)).B = _
    rw [k1, k2]
    constructor
    · refine eq_getD 0 (by simp only [baseS, List.length_cons, List.length_take, plF, List.length_map, List.length_range]; omega) fun j hj => ?_
      have hj : j < (opn x).n.toNat := by simp only [baseS, List.length_cons, List.length_take] at hj; omega
      rw [plF_get hj]
      cases j with
      | zero =>
        show W6 (0 - (lawS (opn x) law t).B.getD 0 0) = _
        rw [eB, plB_get (by omega)]
        by_cases hc : (opn x).n.toNat ≤ t
        · have := hbd (t - (opn x).n.toNat)
          have := h1 (t - (opn x).n.toNat)
          rw [if_pos (by omega), if_pos (by omega), show t + 0 - (opn x).n.toNat = t - (opn x).n.toNat by omega, show t + 1 - 1 - 0 - (opn x).n.toNat = t - (opn x).n.toNat by omega, w6 (by omega) (by omega)]
          omega
        · rw [if_neg (by omega), if_neg (by omega)]
          rfl
      | succ j =>
        have : (baseS (opn x) (lawS (opn x) law t) (atL law t)).F.getD (j + 1) 0 = (lawS (opn x) law t).F.getD j 0 := by
          unfold baseS
          simp only [List.getD_eq_getElem?_getD]
          rw [List.getElem?_cons_succ, List.getElem?_take_of_lt (by omega)]
        rw [this, eF, plF_get (by omega)]
        by_cases hc : (opn x).n.toNat + 1 + j ≤ t
        · rw [if_pos hc, if_pos (by omega), show t + 1 - 1 - (j + 1) - (opn x).n.toNat = t - 1 - j - (opn x).n.toNat by omega]
        · rw [if_neg hc, if_neg (by omega)]
    · refine eq_getD 0 (by simp only [baseS, List.length_append, List.length_drop, List.length_cons, List.length_nil, plB, List.length_map, List.length_range]; omega) fun j hj => ?_
      have hj : j < (opn x).n.toNat := by simp only [baseS, List.length_append, List.length_drop, List.length_cons, List.length_nil] at hj; omega
      rw [plB_get hj]
      by_cases hl : j + 1 < (opn x).n.toNat
      · have : (baseS (opn x) (lawS (opn x) law t) (atL law t)).B.getD j 0 = (lawS (opn x) law t).B.getD (j + 1) 0 := by
          unfold baseS
          simp only [List.getD_eq_getElem?_getD]
          rw [List.getElem?_append_left (by rw [List.length_drop]; omega), List.getElem?_drop, Nat.add_comm]
        rw [this, eB, plB_get hl, show t + (j + 1) = t + 1 + j by omega]
      · have hje : j = (opn x).n.toNat - 1 := by omega
        have : (baseS (opn x) (lawS (opn x) law t) (atL law t)).B.getD j 0 = W6 ((lawS (opn x) law t).F.getD ((opn x).n.toNat - 1) 0 + atL law t) := by
          unfold baseS
          simp only [List.getD_eq_getElem?_getD]
          rw [List.getElem?_append_right (by rw [List.length_drop]; omega), List.length_drop, show j - ((lawS (opn x) law t).B.length - 1) = 0 by omega]
          rfl
        rw [this, eF, plF_get (by omega), if_pos (show (opn x).n.toNat ≤ t + 1 + j by omega), show t + 1 + j - (opn x).n.toNat = t by omega]
        have b0 := h0 t
        have b1 := h1 t
        by_cases hc : 2 * (opn x).n.toNat ≤ t
        · have := hbd (t - 2 * (opn x).n.toNat)
          have := h1 (t - 2 * (opn x).n.toNat)
          rw [if_pos (by omega), eV_hi (by omega) hc, show t - 1 - ((opn x).n.toNat - 1) - (opn x).n.toNat = t - 2 * (opn x).n.toNat by omega, w6 (by omega) (by omega)]
          omega
        · rw [if_neg (by omega), eV_lo (by omega), w6 (by omega) (by omega)]
          omega
/-- The pressure at the valve of a plain line. -/
theorem plain_valve {x : Ln} {law : List Int} {M : Int} (hx : LineOk x) (hp : plainL x = true) (hM : M ≤ 10000) (h0 : ∀ t, 0 ≤ atL law t) (h1 : ∀ t, atL law t ≤ M) (hm : ∀ s t, s ≤ t → atL law s ≤ atL law t) (t : Nat) :
    valve (opn x) law t = if 2 * (opn x).n.toNat ≤ t then atL law t - 2 * eV (atL law) (opn x).n.toNat (t - 2 * (opn x).n.toNat) else atL law t := by
  have hn := (opn_ok hx).nb
  obtain ⟨eF, _⟩ := plain_law hx hp hM h0 h1 hm t
  have b0 := h0 t
  have b1 := h1 t
  unfold valve
  rw [eF, plF_get (by omega)]
  by_cases hc : 2 * (opn x).n.toNat ≤ t
  · have := eV_bd (f := atL law) (n := (opn x).n.toNat) (by omega) h0 hm (t - 2 * (opn x).n.toNat) _ (Nat.le_refl _)
    have := h1 (t - 2 * (opn x).n.toNat)
    rw [if_pos (by omega), if_pos hc, show t - 1 - ((opn x).n.toNat - 1) - (opn x).n.toNat = t - 2 * (opn x).n.toNat by omega, w6 (n := 2 * _) (by omega) (by omega), w6 (by omega) (by omega)]
    omega
  · rw [if_neg (by omega), if_neg hc]
    show W6 (0 + _) = _
    rw [w6 (by omega) (by omega)]
    omega
end Go.DI

