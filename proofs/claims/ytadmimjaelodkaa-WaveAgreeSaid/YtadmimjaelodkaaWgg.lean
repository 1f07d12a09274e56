/- Amplitudes through a line are the columns of its matrix. No condition. -/
import Derived.Test.YtadmimjaelodkaaWgf
set_option linter.unusedSimpArgs false
namespace Go.DI

def prodP : List Pp → Int
 | [] => 1
 | p :: r => p.2 * prodP r
theorem prodP_bd : ∀ (l : List Pp), (∀ p ∈ l, 1 ≤ p.2 ∧ p.2 ≤ 10) → 1 ≤ prodP l ∧ prodP l ≤ 10 ^ l.length
 | [], _ => by simp [prodP]
 | p :: r, h => by
  have h1 := h p (by simp)
  obtain ⟨h2, h3⟩ := prodP_bd r fun q hq => h q (by simp [hq])
  have e1 := Int.mul_le_mul h1.1 h2 (by decide) (by omega)
  have e2 := Int.mul_le_mul h1.2 h3 (by omega) (by decide)
  refine ⟨by simpa [prodP] using e1, ?_⟩
  show p.2 * prodP r ≤ 10 ^ (r.length + 1)
  rw [Int.pow_succ, Int.mul_comm (10 ^ r.length) 10]
  exact e2
def idM : Mx := ⟨(1, 0), (0, 0), (0, 0), (1, 0), 1⟩
/-- The matrix ahead of a pipe. -/
def preM (x : Ow) (h : Int) : Nat → Mx
 | 0 => idM
 | k + 1 => mtimes (chamM (x.ar.getD k 0) h) (lineM x h k)
theorem lineM_pre {x : Ow} {h : Int} : ∀ k, lineM x h k = mtimes (rotM (x.pp.getD k default).2 (h * (x.pp.getD k default).1)) (preM x h k)
 | 0 => by
  show pipeM (x.pp.getD 0 default) h = _
  rw [pipeM_rot]
  unfold preM idM mtimes rotM gmul gadd
  simp
 | k + 1 => by
  show mtimes (pipeM (x.pp.getD (k + 1) default) h) _ = _
  rw [pipeM_rot]
  rfl
theorem TB.mono {m : Mx} {N K : Nat} (h : TB m N) (hk : N ≤ K) : TB m K := by
 have h1 := h.a; have h2 := h.b; have h3 := h.c; have h4 := h.d
 exact ⟨by omega, by omega, by omega, by omega⟩
theorem line_TB {x : Ow} {h : Int} (hx : OwOk x) {k : Nat} (hk : k < x.pp.length) : TB (lineM x h k) 1250000 := by
 have hl := hx.len
 refine (lineM_TB (h := h) hx k hk).mono ?_
 have : k = 0 ∨ k = 1 ∨ k = 2 ∨ k = 3 := by omega
 rcases this with rfl | rfl | rfl | rfl <;> decide
theorem pre_TB {x : Ow} {h : Int} (hx : OwOk x) {k : Nat} (hk : k < x.pp.length) : TB (preM x h k) 1250000 := by
 have hl := hx.len
 cases k with
 | zero =>
  show TB idM 1250000
  exact ⟨by decide, by decide, by decide, by decide⟩
 | succ k =>
  have ha := hx.are _ (getD_mem (l := x.ar) (d := 0) (show k < x.ar.length by have := hx.ars; omega))
  refine (cham_TB (h := h) ha (lineM_TB (h := h) hx k (by omega))).mono ?_
  have : k = 0 ∨ k = 1 ∨ k = 2 := by omega
  rcases this with rfl | rfl | rfl <;> decide
def ampG (R : Int) (u : Ga × Ga) : Ga × Ga := (gsc R u.1, gsc R u.2)
def thrA (y T : Int) (a : Ga × Ga) : Ga × Ga :=
 (gadd (gsc (turnG T).1 a.1) (gsc (turnG T).2 (gmul (turnG 3) (govr a.2 y))), gadd (gsc (turnG T).1 a.2) (gsc (turnG T).2 (gmul (turnG 3) (gsc y a.1))))
def byA (area h : Int) (a : Ga × Ga) : Ga × Ga := (a.1, gsub a.2 (gsc area (gmul (gsub (1, 0) (gmul (turnG (-h)) (1, 0))) a.1)))
theorem govr_gsc {y R : Int} {v : Ga} (hy : y ≠ 0) : govr (gsc (y * R) v) y = gsc R v := by
 unfold govr gsc
 rw [Int.mul_assoc, Int.mul_assoc, Int.mul_tdiv_cancel_left _ hy, Int.mul_tdiv_cancel_left _ hy]
theorem prod_step {l : List Pp} {k : Nat} (h : k < l.length) : prodP (l.drop k) = (l.getD k default).2 * prodP (l.drop (k + 1)) := by
 rw [idxF_drop h]; rfl
theorem prod_bd {x : Ow} (hx : OwOk x) (k : Nat) : 1 ≤ prodP (x.pp.drop k) ∧ prodP (x.pp.drop k) ≤ 10000 := by
 obtain ⟨h1, h2⟩ := prodP_bd (x.pp.drop k) fun p hp => (hx.pip p (List.mem_of_mem_drop hp)).2
 have hl := hx.len
 have : (x.pp.drop k).length = 0 ∨ (x.pp.drop k).length = 1 ∨ (x.pp.drop k).length = 2 ∨ (x.pp.drop k).length = 3 ∨ (x.pp.drop k).length = 4 := by rw [List.length_drop]; omega
 refine ⟨h1, ?_⟩
 rcases this with e | e | e | e | e <;> rw [e] at h2 <;> omega
end Go.DI

