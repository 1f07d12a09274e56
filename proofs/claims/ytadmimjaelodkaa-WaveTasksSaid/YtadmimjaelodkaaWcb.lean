/- Laws, one by one, as plain data. No condition. -/
import Derived.Test.YtadmimjaelodkaaWcGf
set_option linter.unusedSimpArgs false
namespace Go.DI

/-- All laws of m + 1 numbers from one on, whose last one is given. -/
def refL (g : Int) : Nat → Int → List (List Int)
  | 0, _ => [[g]]
  | m + 1, n => (List.range (g + 1 - n).toNat).flatMap fun (i : Nat) => (refL g m (n + (i : Int))).map ((n + (i : Int)) :: ·)
theorem atL_last (law : List Int) (n : Int) : atL (law ++ [n]) (law ++ [n]).length = n := by
  unfold atL
  simp [List.getD_eq_getElem?_getD]
theorem lawsL_ref (g : Int) : ∀ (m : Nat) (law : List Int), lawsL g m law = (refL g m (atL law law.length)).map (law ++ ·)
  | 0, law => by simp [lawsL, refL]
  | m + 1, law => by
    unfold lawsL refL
    rw [List.map_flatMap]
    congr 1
    funext i
    rw [lawsL_ref g m, atL_last, List.map_map]
    congr 1
    funext l
    simp
theorem lawsL_nil (g : Int) (m : Nat) : lawsL g m [] = refL g m 0 := by
  rw [lawsL_ref]
  show (refL g m 0).map ([] ++ ·) = _
  simp
/-- … from a next number on. -/
def refR (g : Int) (m : Nat) (a n : Int) : List (List Int) := (List.range (n - a).toNat).flatMap fun (i : Nat) => (refL g m (a + (i : Int))).map ((a + (i : Int)) :: ·)
theorem refR_step {g : Int} {m : Nat} {a n : Int} (h : a ≤ n) : refR g m a (n + 1) = refR g m a n ++ (refL g m n).map (n :: ·) := by
  unfold refR
  rw [show (n + 1 - a).toNat = (n - a).toNat + 1 by omega, List.range_succ, List.flatMap_append, List.flatMap_singleton, show a + ((n - a).toNat : Int) = n by omega]
theorem refR_end {g : Int} {m : Nat} {a : Int} : refR g m a (g + 1) = refL g (m + 1) a := rfl
theorem refL_length {g : Int} (hg : 0 ≤ g) : ∀ (m : Nat) (a : Int), 0 ≤ a → (refL g m a).length ≤ (g.toNat + 1) ^ m
  | 0, a, _ => by simp [refL]
  | m + 1, a, ha => by
    have key : ∀ (k : Nat), ((List.range k).flatMap fun (i : Nat) => (refL g m (a + (i : Int))).map ((a + (i : Int)) :: ·)).length ≤ k * (g.toNat + 1) ^ m := by
      intro k
      induction k with
      | zero => simp
      | succ k ih =>
        rw [List.range_succ, List.flatMap_append, List.flatMap_singleton, List.length_append, List.length_map, Nat.succ_mul]
        have := refL_length hg m (a + (k : Int)) (by omega)
        omega
    unfold refL
    refine Nat.le_trans (key _) ?_
    rw [Nat.pow_succ, Nat.mul_comm]
    exact Nat.mul_le_mul_left _ (by omega)
theorem refR_length {g : Int} (hg : 0 ≤ g) {m : Nat} {a n : Int} (ha : 0 ≤ a) (hn : n ≤ g + 1) : (refR g m a n).length ≤ (g.toNat + 1) ^ (m + 1) := by
  have key : ∀ (k : Nat), ((List.range k).flatMap fun (i : Nat) => (refL g m (a + (i : Int))).map ((a + (i : Int)) :: ·)).length ≤ k * (g.toNat + 1) ^ m := by
    intro k
    induction k with
    | zero => simp
    | succ k ih =>
      rw [List.range_succ, List.flatMap_append, List.flatMap_singleton, List.length_append, List.length_map, Nat.succ_mul]
      have := refL_length hg m (a + (k : Int)) (by omega)
      omega
  unfold refR
  refine Nat.le_trans (key _) ?_
  rw [Nat.pow_succ, Nat.mul_comm]
  exact Nat.mul_le_mul_left _ (by omega)
theorem refL_elem {g : Int} : ∀ (m : Nat) (a : Int), ∀ l ∈ refL g m a, l.length = m + 1
  | 0, a, l, h => by simp [refL] at h; rw [h]; rfl
  | m + 1, a, l, h => by
    unfold refL at h
    obtain ⟨i, _, h⟩ := List.mem_flatMap.1 h
    obtain ⟨l', h', rfl⟩ := List.mem_map.1 h
    rw [List.length_cons, refL_elem m _ l' h']
theorem keeps_iff {x : Ow} {t : Tk} {law : List Int} (ht : 0 ≤ t.ti) : keeps x t law = true ↔ idxF (outP t.lo t.hi) (valveL x law t.ti.toNat) = -1 := by
  unfold keeps beyN
  have hr := idxF_range (p := outP t.lo t.hi) (valveL x law t.ti.toNat)
  rw [valveL_length] at hr
  rw [decide_eq_true_eq]
  split
  · rename_i h; simp [h]
  · rename_i h
    constructor
    · intro k; omega
    · intro k; exact absurd k h
end Go.DI

