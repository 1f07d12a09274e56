/- Laws, one by one, as plain data. No condition. -/
import Derived.Test.YtadmimjaelodkaaWcGf
set_option linter.unusedSimpArgs false
namespace Go.DI

/-- All laws of m + 1 numbers from one on, whose last one is given. -/
def refL (g : Int) : Nat → Int → List (List Int)
  | 0, _ => [[g]]
  | m + 1, n => (List.range (g + 1 - n).toNat).flatMap fun (i : Nat) => (refL g m (n + (i : Int))).map ((n + (i : Int)) :: ·)
theorem atL_last (law : List Int) (n : Int) : atL (law ++ [n]) (law ++ [n]).length = n := by
  unfold atL
  simp [List.getD_eq_getElem?_getD]
theorem lawsL_ref (g : Int) : ∀ (m : Nat) (law : List Int), lawsL g m law = (refL g m (atL law law.length)).map (law ++ ·)
  | 0, law => by simp [lawsL, refL]
  | m + 1, law => by
    unfold lawsL refL
    rw [List.map_flatMap]
    congr 1
    funext i
    rw [lawsL_ref g m, atL_last, List.map_map]
    congr 1
    funext l
    simp
theorem lawsL_nil (g : Int) (m : Nat) : lawsL g m [] = refL g m 0 := by
  rw [lawsL_ref]
  show (refL g m 0).map ([] ++ ·) = _
  simp
theorem refL_elem {g : Int} : ∀ (m : Nat) (a : Int), ∀ l ∈ refL g m a, l.length = m + 1
  | 0, a, l, h => by simp [refL] at h; rw [h]; rfl
  | m + 1, a, l, h => by
    unfold refL at h
    obtain ⟨i, _, h⟩ := List.mem_flatMap.1 h
    obtain ⟨l', h', rfl⟩ := List.mem_map.1 h
    rw [List.length_cons, refL_elem m _ l' h']
end Go.DI

