/- Contracts: the statements' examples and limits. No condition. -/
import Derived.Test.YtaphhpphfffnfaaGreatDoorLfzd
import Derived.Test.YtaphhpphfffnfaaGreatDoorLfzi
set_option linter.unusedSimpArgs false
namespace Go.DI
open Go.Proofs Go.RowKit Lk

def tabA : List Kn := [(0, 0), (100, 1000), (200, 3000)]
def pairA : Pair := ⟨tabA, tabA, 500⟩

theorem l_Table : Contract Tryz.prog 112 [] (tabI tabA) := by
  refine contract_run Tryz.func112 k112 rfl ?_
  simp only [body112, b112, res112, lkE, ↓reduceIte, reduceCtorEq, Nat.reduceEqDiff, Nat.reduceAdd, Nat.reduceMul, Nat.reduceSub, Nat.reduceLeDiff, Nat.reduceBEq, Int.reduceToNat, Int.reduceLE, Int.reduceLT, Int.reduceEq, Int.reduceNe, di]
  rfl
theorem l_Pair : Contract Tryz.prog 114 [] (lpI pairA) := by
  refine contract_run Tryz.func114 k114 rfl ?_
  simp only [body114, b114, res114, lkE, ↓reduceIte, reduceCtorEq, Nat.reduceEqDiff, Nat.reduceAdd, Nat.reduceMul, Nat.reduceSub, Nat.reduceLeDiff, Nat.reduceBEq, Int.reduceToNat, Int.reduceLE, Int.reduceLT, Int.reduceEq, Int.reduceNe, di]
  refine calls_of l_Table ?_; simp only [lkE, res114, ↓reduceIte, reduceCtorEq, Nat.reduceEqDiff, Nat.reduceAdd, Nat.reduceMul, Nat.reduceSub, Nat.reduceLeDiff, Nat.reduceBEq, Int.reduceToNat, Int.reduceLE, Int.reduceLT, Int.reduceEq, Int.reduceNe, di]
  refine calls_of l_Table ?_; simp only [lkE, res114, ↓reduceIte, reduceCtorEq, Nat.reduceEqDiff, Nat.reduceAdd, Nat.reduceMul, Nat.reduceSub, Nat.reduceLeDiff, Nat.reduceBEq, Int.reduceToNat, Int.reduceLE, Int.reduceLT, Int.reduceEq, Int.reduceNe, di]
  rfl

theorem l_short {n : Int} : Contract Tryz.prog 34 [.int .i64 n] (.bool (decide (n ≤ 24 ∨ 200 < n ∧ n ≤ 202))) := by
  refine contract_run Tryz.func34 k34 rfl ?_
  simp only [body34, b34, res34, lkE, ↓reduceIte, reduceCtorEq, Nat.reduceEqDiff, Nat.reduceAdd, Nat.reduceMul, Nat.reduceSub, Nat.reduceLeDiff, Nat.reduceBEq, Int.reduceToNat, Int.reduceLE, Int.reduceLT, Int.reduceEq, Int.reduceNe, di]
  split
  · rename_i h
    simp [h]
  · rename_i h
    split
    · rename_i h2; simp [h, h2]
    · rename_i h2; simp [h, h2]

theorem sm_A : Sm pairA := ⟨by decide, by decide⟩

theorem l_awake : Contract Tryz.prog 25 [] (.bool true) := by
  have h1 : Contract Tryz.prog 49 [tabI tabA, .int .i64 1501] (.tup [.agg [.int .i64 125, .int .i64 126], .int .i64 0]) := by
    have h := p_LevelAt (l := tabA) (v := 1501) (by decide)
    rw [if_pos (by decide), if_pos (by decide), show levLo tabA 1501 = 125 by decide, show levHi tabA 1501 = 126 by decide] at h
    exact h
  have h2 : Contract Tryz.prog 113 [lpI pairA, stI (2950, 500), flI ⟨0, 0, 200⟩] (.tup [.agg [.int .i64 3000, .int .i64 295], .agg [.int .i64 15, .int .i64 140], .int .i64 0]) := by
    have h := p_Step (p := pairA) (s := (2950, 500)) (x := ⟨0, 0, 200⟩) sm_A
    rw [show stepO pairA (2950, 500) ⟨0, 0, 200⟩ = ((3000, 295), (15, 140), 0) by decide] at h
    exact h
  have h3 : Contract Tryz.prog 115 [lpI pairA, stI (2950, 500)] (.tup [.agg [.int .i64 2500, .int .i64 50], .int .i64 0]) := by
    have h := p_Usable (p := pairA) (s := (2950, 500)) sm_A
    rw [if_pos (by decide)] at h
    exact h
  have h4 : Contract Tryz.prog 51 [tabI tabA, .slc 1 [.int .i64 10, .int .i64 20], .slc 3 [.agg [.int .i64 0, .int .i64 50, .int .i64 52], .agg [.int .i64 2, .int .i64 54, .int .i64 55]]] (.tup [.agg [.int .i64 510, .int .i64 520], .int .i64 0]) := by
    have h := p_AgreedOf (l := tabA) (net := [10, 20]) (rs := [⟨0, 50, 52⟩, ⟨2, 54, 55⟩]) (by decide) (by decide)
    rw [if_pos (by decide), if_pos (by decide), show meets ([(⟨0, 50, 52⟩ : Rdg), ⟨2, 54, 55⟩].map (perm tabA [10, 20])) ([(⟨0, 50, 52⟩ : Rdg), ⟨2, 54, 55⟩].length - 1) = (510, 520) by decide] at h
    exact h
  refine contract_run Tryz.func25 k25 rfl ?_
  simp only [body25, b25, res25, lkE, ↓reduceIte, reduceCtorEq, Nat.reduceEqDiff, Nat.reduceAdd, Nat.reduceMul, Nat.reduceSub, Nat.reduceLeDiff, Nat.reduceBEq, Int.reduceToNat, Int.reduceLE, Int.reduceLT, Int.reduceEq, Int.reduceNe, di]
  refine calls_of l_Table ?_; simp only [lkE, res25, ↓reduceIte, reduceCtorEq, Nat.reduceEqDiff, Nat.reduceAdd, Nat.reduceMul, Nat.reduceSub, Nat.reduceLeDiff, Nat.reduceBEq, Int.reduceToNat, Int.reduceLE, Int.reduceLT, Int.reduceEq, Int.reduceNe, di]
  refine calls_of h1 ?_; simp only [lkE, res25, ↓reduceIte, reduceCtorEq, Nat.reduceEqDiff, Nat.reduceAdd, Nat.reduceMul, Nat.reduceSub, Nat.reduceLeDiff, Nat.reduceBEq, Int.reduceToNat, Int.reduceLE, Int.reduceLT, Int.reduceEq, Int.reduceNe, di]
  refine calls_of l_Pair ?_; simp only [lkE, res25, ↓reduceIte, reduceCtorEq, Nat.reduceEqDiff, Nat.reduceAdd, Nat.reduceMul, Nat.reduceSub, Nat.reduceLeDiff, Nat.reduceBEq, Int.reduceToNat, Int.reduceLE, Int.reduceLT, Int.reduceEq, Int.reduceNe, di]
  refine calls_of h2 ?_; simp only [lkE, res25, ↓reduceIte, reduceCtorEq, Nat.reduceEqDiff, Nat.reduceAdd, Nat.reduceMul, Nat.reduceSub, Nat.reduceLeDiff, Nat.reduceBEq, Int.reduceToNat, Int.reduceLE, Int.reduceLT, Int.reduceEq, Int.reduceNe, di]
  refine calls_of l_Pair ?_; simp only [lkE, res25, ↓reduceIte, reduceCtorEq, Nat.reduceEqDiff, Nat.reduceAdd, Nat.reduceMul, Nat.reduceSub, Nat.reduceLeDiff, Nat.reduceBEq, Int.reduceToNat, Int.reduceLE, Int.reduceLT, Int.reduceEq, Int.reduceNe, di]
  refine calls_of h3 ?_; simp only [lkE, res25, ↓reduceIte, reduceCtorEq, Nat.reduceEqDiff, Nat.reduceAdd, Nat.reduceMul, Nat.reduceSub, Nat.reduceLeDiff, Nat.reduceBEq, Int.reduceToNat, Int.reduceLE, Int.reduceLT, Int.reduceEq, Int.reduceNe, di]
  refine calls_of l_Table ?_; simp only [lkE, res25, ↓reduceIte, reduceCtorEq, Nat.reduceEqDiff, Nat.reduceAdd, Nat.reduceMul, Nat.reduceSub, Nat.reduceLeDiff, Nat.reduceBEq, Int.reduceToNat, Int.reduceLE, Int.reduceLT, Int.reduceEq, Int.reduceNe, di]
  refine calls_of h4 ?_; simp only [lkE, res25, ↓reduceIte, reduceCtorEq, Nat.reduceEqDiff, Nat.reduceAdd, Nat.reduceMul, Nat.reduceSub, Nat.reduceLeDiff, Nat.reduceBEq, Int.reduceToNat, Int.reduceLE, Int.reduceLT, Int.reduceEq, Int.reduceNe, di]
end Go.DI

