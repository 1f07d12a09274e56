/- Amplitudes through a line are the columns of its matrix. No condition. -/
import Derived.Test.YtadmimjaelodkaaWkd
set_option linter.unusedSimpArgs false
namespace Go.DI

def prodP : List Pp → Int
  | [] => 1
  | p :: r => p.2 * prodP r
theorem prodP_bd : ∀ (l : List Pp), (∀ p ∈ l, 1 ≤ p.2 ∧ p.2 ≤ 10) → 1 ≤ prodP l ∧ prodP l ≤ 10 ^ l.length
  | [], _ => by simp [prodP]
  | p :: r, h => by
    have h1 := h p (by simp)
    obtain ⟨h2, h3⟩ := prodP_bd r fun q hq => h q (by simp [hq])
    have e1 := Int.mul_le_mul h1.1 h2 (by decide) (by omega)
    have e2 := Int.mul_le_mul h1.2 h3 (by omega) (by decide)
    refine ⟨by simpa [prodP] using e1, ?_⟩
    show p.2 * prodP r ≤ 10 ^ (r.length + 1)
    rw [Int.pow_succ, Int.mul_comm (10 ^ r.length) 10]
    exact e2
def idM : Mx := ⟨(1, 0), (0, 0), (0, 0), (1, 0), 1⟩
/-- The matrix ahead of a pipe. -/
def preM (x : Ow) (h : Int) : Nat → Mx
  | 0 => idM
  | k + 1 => mtimes (chamM (x.ar.getD k 0) h) (lineM x h k)
theorem lineM_pre {x : Ow} {h : Int} : ∀ k, lineM x h k = mtimes (rotM (x.pp.getD k default).2 (h * (x.pp.getD k default).1)) (preM x h k)
  | 0 => by
    show pipeM (x.pp.getD 0 default) h = _
    rw [pipeM_rot]
    unfold preM idM mtimes rotM gmul gadd
    simp
  | k + 1 => by
    show mtimes (pipeM (x.pp.getD (k + 1) default) h) _ = _
    rw [pipeM_rot]
    rfl
theorem TB.mono {m : Mx} {N K : Nat} (h : TB m N) (hk : N ≤ K) : TB m K := by
  have h1 := h.a; have h2 := h.b; have h3 := h.c; have h4 := h.d
  exact ⟨by omega, by omega, by omega, by omega⟩
theorem line_TB {x : Ow} {h : Int} (hx : OwOk x) {k : Nat} (hk : k < x.pp.length) : TB (lineM x h k) 1250000 := by
  have hl := hx.len
  refine (lineM_TB (h := h) hx k hk).mono ?_
  have : k = 0 ∨ k = 1 ∨ k = 2 ∨ k = 3 := by omega
  rcases this with rfl | rfl | rfl | rfl <;> decide
theorem pre_TB {x : Ow} {h : Int} (hx : OwOk x) {k : Nat} (hk : k < x.pp.length) : TB (preM x h k) 1250000 := by
  have hl := hx.len
  cases k with
  | zero =>
    show TB idM 1250000
    exact ⟨by decide, by decide, by decide, by decide⟩
  | succ k =>
    have ha := hx.are _ (getD_mem (l := x.ar) (d := 0) (show k < x.ar.length by have := hx.ars; omega))
    refine (cham_TB (h := h) ha (lineM_TB (h := h) hx k (by omega))).mono ?_
    have : k = 0 ∨ k = 1 ∨ k = 2 := by omega
    rcases this with rfl | rfl | rfl <;> decide
/-- A column of a matrix. -/
def colM (b : Bool) (m : Mx) : Ga × Ga := if b then (m.a, m.c) else (m.b, m.d)
def ampG (R : Int) (u : Ga × Ga) : Ga × Ga := (gsc R u.1, gsc R u.2)
def thrA (y T : Int) (a : Ga × Ga) : Ga × Ga :=
  (gadd (gsc (turnG T).1 a.1) (gsc (turnG T).2 (gmul (turnG 3) (govr a.2 y))), gadd (gsc (turnG T).1 a.2) (gsc (turnG T).2 (gmul (turnG 3) (gsc y a.1))))
def byA (area h : Int) (a : Ga × Ga) : Ga × Ga := (a.1, gsub a.2 (gsc area (gmul (gsub (1, 0) (gmul (turnG (-h)) (1, 0))) a.1)))
theorem govr_gsc {y R : Int} {v : Ga} (hy : y ≠ 0) : govr (gsc (y * R) v) y = gsc R v := by
  unfold govr gsc
  rw [Int.mul_assoc, Int.mul_assoc, Int.mul_tdiv_cancel_left _ hy, Int.mul_tdiv_cancel_left _ hy]
theorem thr_col {y T R : Int} {m : Mx} {b : Bool} (hy : y ≠ 0) : thrA y T (ampG (y * R) (colM b m)) = ampG R (colM b (mtimes (rotM y T) m)) := by
  have h3 : turnG 3 = (0, -1) := rfl
  unfold thrA ampG
  rw [govr_gsc hy, h3]
  cases b
  · unfold colM mtimes rotM gmul gadd gsc
    simp only [Bool.false_eq_true, if_false, Prod.mk.injEq]
    refine ⟨⟨?_, ?_⟩, ⟨?_, ?_⟩⟩ <;> grind
  · unfold colM mtimes rotM gmul gadd gsc
    simp only [if_true, Prod.mk.injEq]
    refine ⟨⟨?_, ?_⟩, ⟨?_, ?_⟩⟩ <;> grind
theorem by_col {area h R : Int} {m : Mx} {b : Bool} : byA area h (ampG R (colM b m)) = ampG R (colM b (mtimes (chamM area h) m)) := by
  unfold byA ampG
  cases b
  · unfold colM mtimes chamM gmul gadd gsc gneg gsub
    simp only [Bool.false_eq_true, if_false, Prod.mk.injEq]
    refine ⟨⟨?_, ?_⟩, ⟨?_, ?_⟩⟩ <;> grind
  · unfold colM mtimes chamM gmul gadd gsc gneg gsub
    simp only [if_true, Prod.mk.injEq]
    refine ⟨⟨?_, ?_⟩, ⟨?_, ?_⟩⟩ <;> grind
theorem prod_step {l : List Pp} {k : Nat} (h : k < l.length) : prodP (l.drop k) = (l.getD k default).2 * prodP (l.drop (k + 1)) := by
  rw [idxF_drop h]; rfl
theorem prod_bd {x : Ow} (hx : OwOk x) (k : Nat) : 1 ≤ prodP (x.pp.drop k) ∧ prodP (x.pp.drop k) ≤ 10000 := by
  obtain ⟨h1, h2⟩ := prodP_bd (x.pp.drop k) fun p hp => (hx.pip p (List.mem_of_mem_drop hp)).2
  have hl := hx.len
  have : (x.pp.drop k).length = 0 ∨ (x.pp.drop k).length = 1 ∨ (x.pp.drop k).length = 2 ∨ (x.pp.drop k).length = 3 ∨ (x.pp.drop k).length = 4 := by rw [List.length_drop]; omega
  refine ⟨h1, ?_⟩
  rcases this with e | e | e | e | e <;> rw [e] at h2 <;> omega
theorem den_prod {x : Ow} {h : Int} (hx : OwOk x) : ∀ k, k < x.pp.length → (lineM x h k).den * prodP (x.pp.drop (k + 1)) = prodP x.pp
  | 0, hk => by
    have := prod_step hk
    rw [List.drop_zero] at this
    rw [this]; rfl
  | k + 1, hk => by
    have ih := den_prod (h := h) hx k (by omega)
    rw [prod_step hk] at ih
    show (x.pp.getD (k + 1) default).2 * (1 * (lineM x h k).den) * prodP (x.pp.drop (k + 1 + 1)) = _
    rw [← ih]
    grind
theorem den_line {x : Ow} {h : Int} (hx : OwOk x) : (lineMat x h).den = prodP x.pp := by
  have hars := hx.ars
  have := den_prod (h := h) hx x.ar.length (by omega)
  rw [List.drop_of_length_le (by omega)] at this
  unfold lineMat
  rw [← this]
  simp [prodP]
theorem col_GB {m : Mx} {R : Int} {b : Bool} (hm : TB m 1250000) (hR : 1 ≤ R ∧ R ≤ 10000) : GB 1000000000000 (ampG R (colM b m)).1 ∧ GB 1000000000000 (ampG R (colM b m)).2 := by
  have key : ∀ u : Ga, nrm u ≤ 12500000 → GB 1000000000000 (gsc R u) := by
    intro u hu
    have h1 := nrm_GB (k := 12500000) hu (by decide)
    have e1 := mul_bd (y := R) (k := 10000) (M := 12500000) (by omega) (by decide) h1.1
    have e2 := mul_bd (y := R) (k := 10000) (M := 12500000) (by omega) (by decide) h1.2
    exact ⟨by show -1000000000000 ≤ R * u.1 ∧ R * u.1 ≤ 1000000000000; omega, by show -1000000000000 ≤ R * u.2 ∧ R * u.2 ≤ 1000000000000; omega⟩
  have h1 := hm.a; have h2 := hm.b; have h3 := hm.c; have h4 := hm.d
  cases b
  · exact ⟨key m.b (by omega), key m.d (by omega)⟩
  · exact ⟨key m.a (by omega), key m.c (by omega)⟩
end Go.DI

