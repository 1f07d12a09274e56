/- Matrices of lines: how great, their determinants, those of plain lines. No condition. -/
import Derived.Test.YtadmimjaelodkaaWoGi
import Derived.Test.YtadmimjaelodkaaWgd
set_option linter.unusedSimpArgs false
namespace Go.DI

theorem turn_cases (p : Int) : turnG p = (1, 0) ∨ turnG p = (0, 1) ∨ turnG p = (-1, 0) ∨ turnG p = (0, -1) := by
 unfold turnG
 split
 ·exact .inl rfl
 ·split
  ·exact .inr (.inl rfl)
  ·split
   ·exact .inr (.inr (.inl rfl))
   ·exact .inr (.inr (.inr rfl))
/-- A pipe with an admittance and an angle. -/
def rotM (y T : Int) : Mx := ⟨((turnG T).1 * y, 0), (0, -(turnG T).2), (0, -((turnG T).2 * y * y)), ((turnG T).1 * y, 0), y⟩
theorem pipeM_rot (p : Pp) (h : Int) : pipeM p h = rotM p.2 (h * p.1) := by
 unfold pipeM rotM cosG sinG gmul
 simp [Int.neg_mul]
theorem nrm_dot2 (A B C D : Ga) : nrm (gadd (gadd (0, 0) (gmul A B)) (gmul C D)) ≤ nrm A * nrm B + nrm C * nrm D := by
 have e1 := nrm_mul A B
 have e2 := nrm_mul C D
 have e3 := nrm_add (0, 0) (gmul A B)
 have e4 := nrm_add (gadd (0, 0) (gmul A B)) (gmul C D)
 rw [show nrm (0, 0) = 0 from rfl] at e3
 omega
theorem rotM_nrm {y T : Int} {k : Nat} (hy : y.natAbs = k) : (nrm (rotM y T).a = k ∧ nrm (rotM y T).b = 0 ∧ nrm (rotM y T).c = 0 ∧ nrm (rotM y T).d = k) ∨ (nrm (rotM y T).a = 0 ∧ nrm (rotM y T).b = 1 ∧ nrm (rotM y T).c = k * k ∧ nrm (rotM y T).d = 0) := by
 subst hy
 unfold rotM nrm
 rcases turn_cases T with h | h | h | h <;> rw [h] <;> simp [Int.natAbs_mul]
/-- How great the parts of a matrix are. -/
structure TB (m : Mx) (N : Nat) : Prop where
 a : nrm m.a ≤ N
 b : 10 * nrm m.b ≤ N
 c : nrm m.c ≤ 10 * N
 d : nrm m.d ≤ N
theorem rot_TB {y T : Int} {m : Mx} {N : Nat} (hy : 1 ≤ y ∧ y ≤ 10) (h : TB m N) : TB (mtimes (rotM y T) m) (10 * N) := by
 obtain ⟨k, hk⟩ : ∃ k, y.natAbs = k := ⟨_, rfl⟩
 have hk10 : k ≤ 10 := by omega
 have h1 := h.a; have h2 := h.b; have h3 := h.c; have h4 := h.d
 have d1 := nrm_dot2 (rotM y T).a m.a (rotM y T).b m.c
 have d2 := nrm_dot2 (rotM y T).a m.b (rotM y T).b m.d
 have d3 := nrm_dot2 (rotM y T).c m.a (rotM y T).d m.c
 have d4 := nrm_dot2 (rotM y T).c m.b (rotM y T).d m.d
 have m1 : k * nrm m.a ≤ 10 * nrm m.a := Nat.mul_le_mul_right _ hk10
 have m2 : k * nrm m.b ≤ 10 * nrm m.b := Nat.mul_le_mul_right _ hk10
 have m3 : k * nrm m.c ≤ 10 * nrm m.c := Nat.mul_le_mul_right _ hk10
 have m4 : k * nrm m.d ≤ 10 * nrm m.d := Nat.mul_le_mul_right _ hk10
 have hkk : k * k ≤ 100 := Nat.mul_le_mul hk10 hk10
 have m5 : k * k * nrm m.a ≤ 100 * nrm m.a := Nat.mul_le_mul_right _ hkk
 have m6 : k * k * nrm m.b ≤ 100 * nrm m.b := Nat.mul_le_mul_right _ hkk
 rcases rotM_nrm (T := T) hk with ⟨q1, q2, q3, q4⟩ | ⟨q1, q2, q3, q4⟩ <;> rw [q1, q2] at d1 d2 <;> rw [q3, q4] at d3 d4 <;>
  exact ⟨by show nrm (mtimes _ _).a ≤ _; unfold mtimes; dsimp only; omega, by show 10 * nrm (mtimes _ _).b ≤ _; unfold mtimes; dsimp only; omega, by show nrm (mtimes _ _).c ≤ _; unfold mtimes; dsimp only; omega, by show nrm (mtimes _ _).d ≤ _; unfold mtimes; dsimp only; omega⟩
theorem cham_TB {a h : Int} {m : Mx} {N : Nat} (ha : 0 ≤ a ∧ a ≤ 20) (k : TB m N) : TB (mtimes (chamM a h) m) (5 * N) := by
 obtain ⟨q1, q2, q3, q4⟩ := chamM_bd (h := h) ha
 have h1 := k.a; have h2 := k.b; have h3 := k.c; have h4 := k.d
 have d1 := nrm_dot2 (chamM a h).a m.a (chamM a h).b m.c
 have d2 := nrm_dot2 (chamM a h).a m.b (chamM a h).b m.d
 have d3 := nrm_dot2 (chamM a h).c m.a (chamM a h).d m.c
 have d4 := nrm_dot2 (chamM a h).c m.b (chamM a h).d m.d
 have m1 := Nat.mul_le_mul_right (nrm m.a) q1
 have m2 := Nat.mul_le_mul_right (nrm m.c) q2
 have m3 := Nat.mul_le_mul_right (nrm m.b) q1
 have m4 := Nat.mul_le_mul_right (nrm m.d) q2
 have m5 := Nat.mul_le_mul_right (nrm m.a) q3
 have m6 := Nat.mul_le_mul_right (nrm m.c) q4
 have m7 := Nat.mul_le_mul_right (nrm m.b) q3
 have m8 := Nat.mul_le_mul_right (nrm m.d) q4
 exact ⟨by show nrm (mtimes _ _).a ≤ _; unfold mtimes; dsimp only; omega, by show 10 * nrm (mtimes _ _).b ≤ _; unfold mtimes; dsimp only; omega, by show nrm (mtimes _ _).c ≤ _; unfold mtimes; dsimp only; omega, by show nrm (mtimes _ _).d ≤ _; unfold mtimes; dsimp only; omega⟩
theorem lineM_TB {x : Ow} {h : Int} (hx : OwOk x) : ∀ (k : Nat), k < x.pp.length → TB (lineM x h k) (10 * 50 ^ k)
 | 0, hk => by
  have hp := hx.pip _ (getD_mem (d := default) hk)
  show TB (pipeM _ h) _
  rw [pipeM_rot]
  generalize (x.pp.getD 0 default).2 = y at hp
  obtain ⟨k, hk⟩ : ∃ k, y.natAbs = k := ⟨_, rfl⟩
  have hk10 : k ≤ 10 := by omega
  have hkk : k * k ≤ 100 := Nat.mul_le_mul hk10 hk10
  rcases rotM_nrm (T := h * (x.pp.getD 0 default).1) hk with ⟨q1, q2, q3, q4⟩ | ⟨q1, q2, q3, q4⟩ <;> exact ⟨by omega, by omega, by omega, by omega⟩
 | k + 1, hk => by
  have hp := hx.pip _ (getD_mem (d := default) hk)
  have ha := hx.are _ (getD_mem (l := x.ar) (d := 0) (show k < x.ar.length by have := hx.ars; omega))
  have ih := lineM_TB (h := h) hx k (by omega)
  show TB (mtimes (pipeM _ h) _) _
  rw [pipeM_rot]
  have := rot_TB (T := h * (x.pp.getD (k + 1) default).1) hp.2 (cham_TB (h := h) ha ih)
  rw [show 10 * 50 ^ (k + 1) = 10 * (5 * (10 * 50 ^ k)) by rw [Nat.pow_succ]; omega]
  exact this
theorem turn_add (S T : Int) : turnG (S + T) = gmul (turnG S) (turnG T) := by
 have h : ∀ P : Int, P % 4 = 0 ∨ P % 4 = 1 ∨ P % 4 = 2 ∨ P % 4 = 3 := fun P => by omega
 have e := Int.add_emod S T 4
 unfold turnG
 rw [e]
 rcases h S with h1 | h1 | h1 | h1 <;> rcases h T with h2 | h2 | h2 | h2 <;> rw [h1, h2] <;> rfl
end Go.DI

