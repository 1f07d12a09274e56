/- Matrices of lines: how great, their determinants, those of plain lines. No condition. -/
import Derived.Test.YtadmimjaelodkaaWeGi
import Derived.Test.YtadmimjaelodkaaWjb
set_option linter.unusedSimpArgs false
namespace Go.DI

theorem turn_cases (p : Int) : turnG p = (1, 0) ∨ turnG p = (0, 1) ∨ turnG p = (-1, 0) ∨ turnG p = (0, -1) := by
  unfold turnG
  split
  · exact .inl rfl
  · split
    · exact .inr (.inl rfl)
    · split
      · exact .inr (.inr (.inl rfl))
      · exact .inr (.inr (.inr rfl))
/-- A pipe with an admittance and an angle. -/
def rotM (y T : Int) : Mx := ⟨((turnG T).1 * y, 0), (0, -(turnG T).2), (0, -((turnG T).2 * y * y)), ((turnG T).1 * y, 0), y⟩
theorem pipeM_rot (p : Pp) (h : Int) : pipeM p h = rotM p.2 (h * p.1) := by
  unfold pipeM rotM cosG sinG gmul
  simp [Int.neg_mul]
theorem nrm_dot2 (A B C D : Ga) : nrm (gadd (gadd (0, 0) (gmul A B)) (gmul C D)) ≤ nrm A * nrm B + nrm C * nrm D := by
  have e1 := nrm_mul A B
  have e2 := nrm_mul C D
  have e3 := nrm_add (0, 0) (gmul A B)
  have e4 := nrm_add (gadd (0, 0) (gmul A B)) (gmul C D)
  rw [show nrm (0, 0) = 0 from rfl] at e3
  omega
theorem rotM_nrm {y T : Int} {k : Nat} (hy : y.natAbs = k) : (nrm (rotM y T).a = k ∧ nrm (rotM y T).b = 0 ∧ nrm (rotM y T).c = 0 ∧ nrm (rotM y T).d = k) ∨ (nrm (rotM y T).a = 0 ∧ nrm (rotM y T).b = 1 ∧ nrm (rotM y T).c = k * k ∧ nrm (rotM y T).d = 0) := by
  subst hy
  unfold rotM nrm
  rcases turn_cases T with h | h | h | h <;> rw [h] <;> simp [Int.natAbs_mul]
/-- How great the parts of a matrix are. -/
structure TB (m : Mx) (N : Nat) : Prop where
  a : nrm m.a ≤ N
  b : 10 * nrm m.b ≤ N
  c : nrm m.c ≤ 10 * N
  d : nrm m.d ≤ N
theorem rot_TB {y T : Int} {m : Mx} {N : Nat} (hy : 1 ≤ y ∧ y ≤ 10) (h : TB m N) : TB (mtimes (rotM y T) m) (10 * N) := by
  obtain ⟨k, hk⟩ : ∃ k, y.natAbs = k := ⟨_, rfl⟩
  have hk10 : k ≤ 10 := by omega
  have h1 := h.a; have h2 := h.b; have h3 := h.c; have h4 := h.d
  have d1 := nrm_dot2 (rotM y T).a m.a (rotM y T).b m.c
  have d2 := nrm_dot2 (rotM y T).a m.b (rotM y T).b m.d
  have d3 := nrm_dot2 (rotM y T).c m.a (rotM y T).d m.c
  have d4 := nrm_dot2 (rotM y T).c m.b (rotM y T).d m.d
  have m1 : k * nrm m.a ≤ 10 * nrm m.a := Nat.mul_le_mul_right _ hk10
  have m2 : k * nrm m.b ≤ 10 * nrm m.b := Nat.mul_le_mul_right _ hk10
  have m3 : k * nrm m.c ≤ 10 * nrm m.c := Nat.mul_le_mul_right _ hk10
  have m4 : k * nrm m.d ≤ 10 * nrm m.d := Nat.mul_le_mul_right _ hk10
  have hkk : k * k ≤ 100 := Nat.mul_le_mul hk10 hk10
  have m5 : k * k * nrm m.a ≤ 100 * nrm m.a := Nat.mul_le_mul_right _ hkk
  have m6 : k * k * nrm m.b ≤ 100 * nrm m.b := Nat.mul_le_mul_right _ hkk
  rcases rotM_nrm (T := T) hk with ⟨q1, q2, q3, q4⟩ | ⟨q1, q2, q3, q4⟩ <;> rw [q1, q2] at d1 d2 <;> rw [q3, q4] at d3 d4 <;>
    exact ⟨by show nrm (mtimes _ _).a ≤ _; unfold mtimes; dsimp only; omega, by show 10 * nrm (mtimes _ _).b ≤ _; unfold mtimes; dsimp only; omega, by show nrm (mtimes _ _).c ≤ _; unfold mtimes; dsimp only; omega, by show nrm (mtimes _ _).d ≤ _; unfold mtimes; dsimp only; omega⟩
theorem cham_TB {a h : Int} {m : Mx} {N : Nat} (ha : 0 ≤ a ∧ a ≤ 20) (k : TB m N) : TB (mtimes (chamM a h) m) (5 * N) := by
  obtain ⟨q1, q2, q3, q4⟩ := chamM_bd (h := h) ha
  have h1 := k.a; have h2 := k.b; have h3 := k.c; have h4 := k.d
  have d1 := nrm_dot2 (chamM a h).a m.a (chamM a h).b m.c
  have d2 := nrm_dot2 (chamM a h).a m.b (chamM a h).b m.d
  have d3 := nrm_dot2 (chamM a h).c m.a (chamM a h).d m.c
  have d4 := nrm_dot2 (chamM a h).c m.b (chamM a h).d m.d
  have m1 := Nat.mul_le_mul_right (nrm m.a) q1
  have m2 := Nat.mul_le_mul_right (nrm m.c) q2
  have m3 := Nat.mul_le_mul_right (nrm m.b) q1
  have m4 := Nat.mul_le_mul_right (nrm m.d) q2
  have m5 := Nat.mul_le_mul_right (nrm m.a) q3
  have m6 := Nat.mul_le_mul_right (nrm m.c) q4
  have m7 := Nat.mul_le_mul_right (nrm m.b) q3
  have m8 := Nat.mul_le_mul_right (nrm m.d) q4
  exact ⟨by show nrm (mtimes _ _).a ≤ _; unfold mtimes; dsimp only; omega, by show 10 * nrm (mtimes _ _).b ≤ _; unfold mtimes; dsimp only; omega, by show nrm (mtimes _ _).c ≤ _; unfold mtimes; dsimp only; omega, by show nrm (mtimes _ _).d ≤ _; unfold mtimes; dsimp only; omega⟩
theorem lineM_TB {x : Ow} {h : Int} (hx : OwOk x) : ∀ (k : Nat), k < x.pp.length → TB (lineM x h k) (10 * 50 ^ k)
  | 0, hk => by
    have hp := hx.pip _ (getD_mem (d := default) hk)
    show TB (pipeM _ h) _
    rw [pipeM_rot]
    generalize (x.pp.getD 0 default).2 = y at hp
    obtain ⟨k, hk⟩ : ∃ k, y.natAbs = k := ⟨_, rfl⟩
    have hk10 : k ≤ 10 := by omega
    have hkk : k * k ≤ 100 := Nat.mul_le_mul hk10 hk10
    rcases rotM_nrm (T := h * (x.pp.getD 0 default).1) hk with ⟨q1, q2, q3, q4⟩ | ⟨q1, q2, q3, q4⟩ <;> exact ⟨by omega, by omega, by omega, by omega⟩
  | k + 1, hk => by
    have hp := hx.pip _ (getD_mem (d := default) hk)
    have ha := hx.are _ (getD_mem (l := x.ar) (d := 0) (show k < x.ar.length by have := hx.ars; omega))
    have ih := lineM_TB (h := h) hx k (by omega)
    show TB (mtimes (pipeM _ h) _) _
    rw [pipeM_rot]
    have := rot_TB (T := h * (x.pp.getD (k + 1) default).1) hp.2 (cham_TB (h := h) ha ih)
    rw [show 10 * 50 ^ (k + 1) = 10 * (5 * (10 * 50 ^ k)) by rw [Nat.pow_succ]; omega]
    exact this
theorem lineMat_TB {x : Ow} {h : Int} (hx : OwOk x) : TB (lineMat x h) 1250000 := by
  have hl := hx.len; have ha := hx.ars
  have h1 := lineM_TB (h := h) hx x.ar.length (by omega)
  have : x.ar.length = 0 ∨ x.ar.length = 1 ∨ x.ar.length = 2 ∨ x.ar.length = 3 := by omega
  unfold lineMat
  have h2 := h1.a; have h3 := h1.b; have h4 := h1.c; have h5 := h1.d
  rcases this with e | e | e | e <;> rw [e] at h2 h3 h4 h5 ⊢ <;> exact ⟨by omega, by omega, by omega, by omega⟩

def detM (m : Mx) : Ga := gsub (gmul m.a m.d) (gmul m.b m.c)
theorem det_times (m n : Mx) : detM (mtimes m n) = gmul (detM m) (detM n) := by
  unfold detM mtimes gmul gadd gsub
  simp only [Prod.mk.injEq]
  constructor <;> grind
theorem det_rot (y T : Int) : detM (rotM y T) = (y * y, 0) := by
  unfold detM rotM gmul gsub
  rcases turn_cases T with h | h | h | h <;> rw [h] <;> simp <;> grind
theorem det_cham (a h : Int) : detM (chamM a h) = (1, 0) := by
  unfold detM chamM gmul gsub
  simp
theorem det_line {x : Ow} {h : Int} : ∀ k : Nat, detM (lineM x h k) = ((lineM x h k).den * (lineM x h k).den, 0)
  | 0 => by
    show detM (pipeM _ h) = ((pipeM _ h).den * (pipeM _ h).den, 0)
    rw [pipeM_rot, det_rot]; rfl
  | k + 1 => by
    show detM (mtimes (pipeM _ h) _) = _
    rw [pipeM_rot, det_times, det_times, det_rot, det_cham, det_line k]
    show _ = ((x.pp.getD (k + 1) default).2 * (1 * (lineM x h k).den) * ((x.pp.getD (k + 1) default).2 * (1 * (lineM x h k).den)), 0)
    unfold gmul
    simp only [Prod.mk.injEq]
    constructor <;> grind

theorem turn_add (S T : Int) : turnG (S + T) = gmul (turnG S) (turnG T) := by
  have h : ∀ P : Int, P % 4 = 0 ∨ P % 4 = 1 ∨ P % 4 = 2 ∨ P % 4 = 3 := fun P => by omega
  have e := Int.add_emod S T 4
  unfold turnG
  rw [e]
  rcases h S with h1 | h1 | h1 | h1 <;> rcases h T with h2 | h2 | h2 | h2 <;> rw [h1, h2] <;> rfl
theorem cham_zero (h : Int) (m : Mx) : mtimes (chamM 0 h) m = m := by
  unfold mtimes chamM gmul gadd gneg gsub
  simp
theorem plain_line {x : Ln} {h : Int} (hx : LineOk x) (hp : plainL x = true) : ∃ y, 1 ≤ y ∧ ∀ k : Nat, k < x.pp.length → ∃ s : Int, s ≠ 0 ∧ (lineM (opn x) h k).a = (s * (turnG (h * cellsN (x.pp.take (k + 1)))).1 * y, 0) ∧ (lineM (opn x) h k).b = (0, -(s * (turnG (h * cellsN (x.pp.take (k + 1)))).2)) ∧ (lineM (opn x) h k).c = (0, -(s * (turnG (h * cellsN (x.pp.take (k + 1)))).2 * y * y)) ∧ (lineM (opn x) h k).d = (s * (turnG (h * cellsN (x.pp.take (k + 1)))).1 * y, 0) := by
  obtain ⟨y, hy, hpp, har⟩ := plain_at hx hp
  refine ⟨y, hy.1, fun k => ?_⟩
  induction k with
  | zero =>
    intro hk
    refine ⟨1, by decide, ?_⟩
    have hc : cellsN (x.pp.take (0 + 1)) = (x.pp.getD 0 default).1 := by
      rw [cellsN_step hk]; simp [cellsN]
    rw [hc]
    show (pipeM (x.pp.getD 0 default) h).a = _ ∧ (pipeM (x.pp.getD 0 default) h).b = _ ∧ (pipeM (x.pp.getD 0 default) h).c = _ ∧ (pipeM (x.pp.getD 0 default) h).d = _
    rw [pipeM_rot, hpp 0 hk]
    unfold rotM
    simp
  | succ k ih =>
    intro hk
    obtain ⟨s, hs, e1, e2, e3, e4⟩ := ih (by omega)
    refine ⟨s * y, Int.mul_ne_zero hs (by omega), ?_⟩
    have hc : h * cellsN (x.pp.take (k + 1 + 1)) = h * (x.pp.getD (k + 1) default).1 + h * cellsN (x.pp.take (k + 1)) := by
      rw [cellsN_step hk, Int.mul_add, Int.add_comm]
    rw [hc, turn_add]
    have hm : lineM (opn x) h (k + 1) = mtimes (rotM y (h * (x.pp.getD (k + 1) default).1)) (lineM (opn x) h k) := by
      show mtimes (pipeM (x.pp.getD (k + 1) default) h) (mtimes (chamM (x.ar.getD k 0) h) (lineM (opn x) h k)) = _
      rw [har k, cham_zero, pipeM_rot, hpp (k + 1) hk]
    rw [hm]
    unfold mtimes rotM
    dsimp only
    rw [e1, e2, e3, e4]
    unfold gmul gadd
    generalize turnG (h * (x.pp.getD (k + 1) default).1) = u
    generalize turnG (h * cellsN (x.pp.take (k + 1))) = v
    simp only [Prod.mk.injEq]
    refine ⟨⟨?_, ?_⟩, ⟨?_, ?_⟩, ⟨?_, ?_⟩, ⟨?_, ?_⟩⟩ <;> grind
theorem cos_zero (T : Int) : (turnG T).1 = 0 ↔ T % 2 = 1 := by
  have h : T % 4 = 0 ∨ T % 4 = 1 ∨ T % 4 = 2 ∨ T % 4 = 3 := by omega
  unfold turnG
  rcases h with h | h | h | h <;> simp [h] <;> omega
theorem plain_res {x : Ln} (hx : LineOk x) (hp : plainL x = true) : resL (opn x) = if (opn x).n % 2 = 1 then [1, 3] else [] := by
  have hars := hx.ars
  have hz : ∀ h : Int, (lineMat (opn x) h).d = (0, 0) ↔ (h * (opn x).n) % 2 = 1 := by
    intro h
    obtain ⟨y, hy, hk⟩ := plain_line (h := h) hx hp
    obtain ⟨s, hs, _, _, _, e⟩ := hk x.ar.length (by omega)
    have hc : cellsN (x.pp.take (x.ar.length + 1)) = (opn x).n := by
      rw [List.take_of_length_le (by omega)]; rfl
    rw [hc] at e
    show (lineM (opn x) h x.ar.length).d = (0, 0) ↔ _
    rw [e, ← cos_zero]
    simp only [Prod.mk.injEq, and_true, Int.mul_eq_zero]
    constructor
    · rintro ((h1 | h1) | h1)
      · exact absurd h1 hs
      · exact h1
      · omega
    · intro h1; exact .inl (.inr h1)
  unfold resL
  simp only [hz]
  generalize (opn x).n = n
  by_cases hn : n % 2 = 1
  · rw [if_pos hn]
    simp only [List.filter_cons, List.filter_nil]
    rw [if_neg (by simp), if_pos (by first | (simp; done) | (simp; omega)), if_neg (by first | (simp; done) | (simp; omega)), if_pos (by first | (simp; done) | (simp; omega))]
  · rw [if_neg hn]
    simp only [List.filter_cons, List.filter_nil]
    rw [if_neg (by simp), if_neg (by first | (simp; done) | (simp; omega)), if_neg (by first | (simp; done) | (simp; omega)), if_neg (by first | (simp; done) | (simp; omega))]
end Go.DI

