/- Numbers of whatever size, as digits to the base of a thousand million: plain arithmetic, no program in sight. -/
import Derived.Test.YtaphhpphfffnfaaGreatDoorLfd
namespace Go.DI

def WF (l : List Int) : Prop := ∀ d ∈ l, 0 ≤ d ∧ d < 1000000000

theorem WF.nil : WF [] := by intro d h; cases h
theorem WF.cons {d : Int} {l : List Int} (h1 : 0 ≤ d) (h2 : d < 1000000000) (h : WF l) : WF (d :: l) := by
  intro x hx
  rcases List.mem_cons.1 hx with rfl | k
  · exact ⟨h1, h2⟩
  · exact h x k
theorem WF.tail {d : Int} {l : List Int} (h : WF (d :: l)) : WF l := fun x hx => h x (List.mem_cons_of_mem _ hx)
theorem WF.head {d : Int} {l : List Int} (h : WF (d :: l)) : 0 ≤ d ∧ d < 1000000000 := h d (by simp)
theorem WF.append {l m : List Int} (h : WF l) (h' : WF m) : WF (l ++ m) := by
  intro x hx
  rcases List.mem_append.1 hx with k | k
  · exact h x k
  · exact h' x k
theorem WF.take {l : List Int} (h : WF l) (n : Nat) : WF (l.take n) := fun x hx => h x (List.mem_of_mem_take hx)
theorem WF.getD {l : List Int} (h : WF l) (i : Nat) : 0 ≤ l.getD i 0 ∧ l.getD i 0 < 1000000000 := by
  rw [List.getD_eq_getElem?_getD]
  cases hi : l[i]? with
  | none => simp
  | some d => simpa using h d (List.mem_of_getElem? hi)

def digs (n : Nat) : List Int := if n = 0 then [] else ((n % 1000000000 : Nat) : Int) :: digs (n / 1000000000)
termination_by n
decreasing_by omega

theorem digs_zero : digs 0 = [] := by unfold digs; simp
theorem digs_pos {n : Nat} (h : n ≠ 0) : digs n = ((n % 1000000000 : Nat) : Int) :: digs (n / 1000000000) := by
  rw [digs, if_neg h]
theorem digs_length_le : ∀ (k n : Nat), n < 1000000000 ^ k → (digs n).length ≤ k
  | 0, n, h => by
    have : n = 0 := by simpa using h
    subst this; simp [digs_zero]
  | k + 1, n, h => by
    by_cases h0 : n = 0
    · subst h0; simp [digs_zero]
    · rw [digs_pos h0, List.length_cons]
      have := digs_length_le k (n / 1000000000) (by
        rw [Nat.pow_succ] at h
        omega)
      omega

/-- A number as the program has it. -/
def wide (z : Int) : IV := .agg [.int .i64 z.sign, .slc 1 ((digs z.natAbs).map (.int .i64))]

end Go.DI

