/- Contracts: what the reference and the statements share; the examples. No condition. -/
import Derived.Test.YtaphhpphfffnfaaGreatDoorWsd
import Derived.Test.YtaphhpphfffnfaaGreatDoorWsk
import Derived.Test.YtaphhpphfffnfaaGreatDoorWsq
set_option linter.unusedSimpArgs false
set_option maxRecDepth 100000
namespace Go.DI
open Go.Proofs Go.RowKit

theorem eq_of_getD {α : Type} (d : α) {l m : List α} (h : l.length = m.length) (k : ∀ j, j < l.length → l.getD j d = m.getD j d) : l = m := by
 apply List.ext_getElem h
 intro j h1 h2
 have := k j h1
 simpa [List.getD_eq_getElem?_getD, h1, h2] using this
theorem c_Within {x lo hi : Int} : Contract Tryz.prog 47 [.int .i64 x, .int .i64 lo, .int .i64 hi] (.bool (decide (lo ≤ x ∧ x ≤ hi))) := by
 refine contract_run Tryz.func47 k47 rfl ?_
 simp only [body47, b47, res47, ↓reduceIte, reduceCtorEq, Nat.reduceEqDiff, Nat.reduceAdd, Nat.reduceMul, Nat.reduceSub, Nat.reduceLeDiff, Nat.reduceBEq, Int.reduceToNat, Int.reduceLE, Int.reduceLT, Int.reduceEq, Int.reduceNe, di]
 split
 ·rename_i h; simp [h]
 ·rename_i h; simp [h]
theorem c_Ints {a b : List Int} (ha : a.length ≤ 1000000000000) : Contract Tryz.prog 93 [nI a, nI b] (.bool (decide (a = b))) := by
 refine contract_run Tryz.func93 k93 rfl ?_
 simp only [body93, b93, res93, b93k0, b93k1, b93k2, b93k3, vaE, ↓reduceIte, reduceCtorEq, Nat.reduceEqDiff, Nat.reduceAdd, Nat.reduceMul, Nat.reduceSub, Nat.reduceLeDiff, Nat.reduceBEq, Int.reduceToNat, Int.reduceLE, Int.reduceLT, Int.reduceEq, Int.reduceNe, di]
 split
 ·rename_i hl
  have hl : a.length = b.length := by omega
  refine loop_keep (α := Nat) rfl (fun i => a.length - i) (fun i => i ≤ a.length ∧ ∀ j, j < i → a.getD j 0 = b.getD j 0)
   (fun i => [(0, .imm (nI a)), (1, .imm (nI b)), (5, .imm (.int .i64 i))]) (fun _ => []) 0 ⟨Nat.zero_le _, fun j hj => by omega⟩ (by simp only [vaE, ↓reduceIte, reduceCtorEq, Nat.reduceEqDiff, Nat.reduceAdd, Nat.reduceMul, Nat.reduceSub, Nat.reduceLeDiff, Nat.reduceBEq, Int.reduceToNat, Int.reduceLE, Int.reduceLT, Int.reduceEq, Int.reduceNe, di] <;> rfl) ?_
  intro i ⟨hi, he⟩ ih
  simp only [res93, b93k0, b93k1, b93k2, b93k3, vaE, ↓reduceIte, reduceCtorEq, Nat.reduceEqDiff, Nat.reduceAdd, Nat.reduceMul, Nat.reduceSub, Nat.reduceLeDiff, Nat.reduceBEq, Int.reduceToNat, Int.reduceLE, Int.reduceLT, Int.reduceEq, Int.reduceNe, di]
  split
  ·rename_i h
   repeat (refine And.intro (by omega) ?_)
   split
   ·rename_i h2
    rw [wrap64 (by omega) (by omega)]
    refine ih (i + 1) _ _ (by omega) ⟨by omega, fun j hj => ?_⟩ (by simp only [vaE, ↓reduceIte, reduceCtorEq, Nat.reduceEqDiff, Nat.reduceAdd, Nat.reduceMul, Nat.reduceSub, Nat.reduceLeDiff, Nat.reduceBEq, Int.reduceToNat, Int.reduceLE, Int.reduceLT, Int.reduceEq, Int.reduceNe, di] <;> rfl)
    by_cases e : j = i
    ·subst e; exact h2
    ·exact he j (by omega)
   ·rename_i h2
    have : ¬ a = b := fun k => h2 (by rw [k])
    rw [decide_eq_false this]
  ·rename_i h
   have : a = b := eq_of_getD 0 hl (fun j hj => he j (by omega))
   rw [decide_eq_true this]
 ·rename_i hl
  have : ¬ a = b := fun k => hl (by rw [k])
  rw [decide_eq_false this]
theorem c_CopyInts {a : List Int} (ha : a.length ≤ 1000000000000) : Contract Tryz.prog 52 [nI a] (nI a) := by
 refine contract_run Tryz.func52 k52 rfl ?_
 simp only [body52, b52, res52, vaE, ↓reduceIte, reduceCtorEq, Nat.reduceEqDiff, Nat.reduceAdd, Nat.reduceMul, Nat.reduceSub, Nat.reduceLeDiff, Nat.reduceBEq, Int.reduceToNat, Int.reduceLE, Int.reduceLT, Int.reduceEq, Int.reduceNe, di]
 omega
theorem r_CopyLine {x : Ln} (hx : Few x) : Contract Tryz.prog 13 [lnI x] (lnI x) := by
 refine contract_run Tryz.func13 k13 rfl ?_
 simp only [body13, b13, res13, vaE, ↓reduceIte, reduceCtorEq, Nat.reduceEqDiff, Nat.reduceAdd, Nat.reduceMul, Nat.reduceSub, Nat.reduceLeDiff, Nat.reduceBEq, Int.reduceToNat, Int.reduceLE, Int.reduceLT, Int.reduceEq, Int.reduceNe, di]
 have h1 := hx.1
 repeat (refine And.intro (by first | omega | exact all_int _ | (simp only [zeros_len, List.length_append, List.length_take, List.length_drop, List.length_set, List.length_cons, List.length_nil, List.length_map]; omega)) ?_)
 refine calls_of (c_CopyInts (a := x.ar) (by have := hx.2; omega)) ?_; simp only [vaE, res13, ↓reduceIte, reduceCtorEq, Nat.reduceEqDiff, Nat.reduceAdd, Nat.reduceMul, Nat.reduceSub, Nat.reduceLeDiff, Nat.reduceBEq, Int.reduceToNat, Int.reduceLE, Int.reduceLT, Int.reduceEq, Int.reduceNe, di]
theorem r_SameState {a b : Ws} (hs : FewS a) : Contract Tryz.prog 94 [wsI a, wsI b] (.bool (decide (a = b))) := by
 have key : (a = b) ↔ (a.F = b.F ∧ a.B = b.B) ∧ a.L = b.L := by
  cases a; cases b; simp [and_assoc]
 refine contract_run Tryz.func94 k94 rfl ?_
 simp only [body94, b94, res94, vaE, ↓reduceIte, reduceCtorEq, Nat.reduceEqDiff, Nat.reduceAdd, Nat.reduceMul, Nat.reduceSub, Nat.reduceLeDiff, Nat.reduceBEq, Int.reduceToNat, Int.reduceLE, Int.reduceLT, Int.reduceEq, Int.reduceNe, di]
 refine calls_of (c_Ints (a := a.F) (b := b.F) (by have := hs.1; omega)) ?_; simp only [vaE, res94, ↓reduceIte, reduceCtorEq, Nat.reduceEqDiff, Nat.reduceAdd, Nat.reduceMul, Nat.reduceSub, Nat.reduceLeDiff, Nat.reduceBEq, Int.reduceToNat, Int.reduceLE, Int.reduceLT, Int.reduceEq, Int.reduceNe, di]
 by_cases h1 : a.F = b.F
 rotate_left
 ·simp only [h1, vaE, ↓reduceIte, reduceCtorEq, Nat.reduceEqDiff, Nat.reduceAdd, Nat.reduceMul, Nat.reduceSub, Nat.reduceLeDiff, Nat.reduceBEq, Int.reduceToNat, Int.reduceLE, Int.reduceLT, Int.reduceEq, Int.reduceNe, di]
  rw [decide_eq_false (fun k => h1 (key.1 k).1.1)]
 simp only [h1, vaE, ↓reduceIte, reduceCtorEq, Nat.reduceEqDiff, Nat.reduceAdd, Nat.reduceMul, Nat.reduceSub, Nat.reduceLeDiff, Nat.reduceBEq, Int.reduceToNat, Int.reduceLE, Int.reduceLT, Int.reduceEq, Int.reduceNe, di]
 refine calls_of (c_Ints (a := a.B) (b := b.B) (by have := hs.2.1; omega)) ?_; simp only [vaE, res94, ↓reduceIte, reduceCtorEq, Nat.reduceEqDiff, Nat.reduceAdd, Nat.reduceMul, Nat.reduceSub, Nat.reduceLeDiff, Nat.reduceBEq, Int.reduceToNat, Int.reduceLE, Int.reduceLT, Int.reduceEq, Int.reduceNe, di]
 by_cases h2 : a.B = b.B
 rotate_left
 ·simp only [h2, vaE, ↓reduceIte, reduceCtorEq, Nat.reduceEqDiff, Nat.reduceAdd, Nat.reduceMul, Nat.reduceSub, Nat.reduceLeDiff, Nat.reduceBEq, Int.reduceToNat, Int.reduceLE, Int.reduceLT, Int.reduceEq, Int.reduceNe, di]
  rw [decide_eq_false (fun k => h2 (key.1 k).1.2)]
 simp only [h2, vaE, ↓reduceIte, reduceCtorEq, Nat.reduceEqDiff, Nat.reduceAdd, Nat.reduceMul, Nat.reduceSub, Nat.reduceLeDiff, Nat.reduceBEq, Int.reduceToNat, Int.reduceLE, Int.reduceLT, Int.reduceEq, Int.reduceNe, di]
 refine calls_of (c_Ints (a := a.L) (b := b.L) (by have := hs.2.2; omega)) ?_; simp only [vaE, res94, ↓reduceIte, reduceCtorEq, Nat.reduceEqDiff, Nat.reduceAdd, Nat.reduceMul, Nat.reduceSub, Nat.reduceLeDiff, Nat.reduceBEq, Int.reduceToNat, Int.reduceLE, Int.reduceLT, Int.reduceEq, Int.reduceNe, di]
 congr 2
 rw [decide_eq_decide, key]
 exact ⟨fun k => ⟨⟨h1, h2⟩, k⟩, fun k => k.2⟩

def pipeX : Ln := ⟨[(2, 3)], []⟩
def lineX : Ln := ⟨[(1, 1), (1, 3)], [2]⟩
theorem l_Pipe : Contract Tryz.prog 89 [] (lnI pipeX) := by
 refine contract_run Tryz.func89 k89 rfl ?_
 simp only [body89, b89, res89, pipeX, vaE, ↓reduceIte, reduceCtorEq, Nat.reduceEqDiff, Nat.reduceAdd, Nat.reduceMul, Nat.reduceSub, Nat.reduceLeDiff, Nat.reduceBEq, Int.reduceToNat, Int.reduceLE, Int.reduceLT, Int.reduceEq, Int.reduceNe, di]
theorem l_Line : Contract Tryz.prog 90 [] (lnI lineX) := by
 refine contract_run Tryz.func90 k90 rfl ?_
 simp only [body90, b90, res90, lineX, vaE, ↓reduceIte, reduceCtorEq, Nat.reduceEqDiff, Nat.reduceAdd, Nat.reduceMul, Nat.reduceSub, Nat.reduceLeDiff, Nat.reduceBEq, Int.reduceToNat, Int.reduceLE, Int.reduceLT, Int.reduceEq, Int.reduceNe, di]
theorem few_pipe : Few pipeX := ⟨by decide, by decide⟩
theorem few_line : Few lineX := ⟨by decide, by decide⟩
theorem a_1 : Contract Tryz.prog 88 [lnI pipeX, nI [5], .int .i64 9] (.tup [nI [5, 5, 5, 5, -5, -5, -5, -5, 5], .int .i64 0]) := by
 have h := w_ValvePressures (x := pipeX) (law := [5]) (t := 9) few_pipe (by decide)
 rwa [if_pos (by decide), show valveL (opn pipeX) [5] (9 : Int).toNat = [5, 5, 5, 5, -5, -5, -5, -5, 5] by decide] at h
theorem a_2 : Contract Tryz.prog 63 [lnI lineX, wsI ⟨[7, 0], [0, 0], [3]⟩, .int .i64 0] (.tup [wsI ⟨[0, 3], [-4, 0], [3]⟩, .int .i64 0]) := by
 have h := w_Stepped (x := lineX) (s := ⟨[7, 0], [0, 0], [3]⟩) (c := 0) few_line ⟨by decide, by decide, by decide⟩
 rwa [if_pos (by decide), show stp (opn lineX) ⟨[7, 0], [0, 0], [3]⟩ 0 = ⟨[0, 3], [-4, 0], [3]⟩ by decide] at h
theorem a_3 : Contract Tryz.prog 91 [lnI pipeX, tkI ⟨4, 7, 20, -2, 2⟩] (.tup [nI [1, 1, 1, 1, 4], .int .i64 0]) := by
 have h := w_FastestLaw (x := pipeX) (t := ⟨4, 7, 20, -2, 2⟩) few_pipe
 rwa [if_pos (by decide), show fast (opn pipeX) ⟨4, 7, 20, -2, 2⟩ = [1, 1, 1, 1, 4] by kernel_rfl] at h
theorem a_4 : Contract Tryz.prog 65 [lnI lineX, .int .i64 1] (.tup [ratI ((-2, -2), (9, 0)), .int .i64 0]) := by
 have h := w_ImpedanceAt (x := lineX) (h := 1) few_line
 rwa [if_pos (by decide), if_neg (by decide), show impL (lowM (lineMat (opn lineX) 1)) = ((-2, -2), (9, 0)) by decide] at h
def pipeZ : Ln := ⟨[(1, 3)], []⟩
theorem a_5 : Contract Tryz.prog 92 [lnI pipeZ] (.tup [nI [1, 3], .int .i64 0]) := by
 have h := w_ResonancesOf (x := pipeZ) ⟨by decide, by decide⟩
 rwa [if_pos (by decide), show resL (opn pipeZ) = [1, 3] by decide] at h
theorem l_awake : Contract Tryz.prog 10 [] (.bool true) := by
 refine contract_run Tryz.func10 k10 rfl ?_
 simp only [body10, b10, res10, vaE, ↓reduceIte, reduceCtorEq, Nat.reduceEqDiff, Nat.reduceAdd, Nat.reduceMul, Nat.reduceSub, Nat.reduceLeDiff, Nat.reduceBEq, Int.reduceToNat, Int.reduceLE, Int.reduceLT, Int.reduceEq, Int.reduceNe, di]
 refine calls_of l_Pipe ?_; simp only [vaE, res10, ↓reduceIte, reduceCtorEq, Nat.reduceEqDiff, Nat.reduceAdd, Nat.reduceMul, Nat.reduceSub, Nat.reduceLeDiff, Nat.reduceBEq, Int.reduceToNat, Int.reduceLE, Int.reduceLT, Int.reduceEq, Int.reduceNe, di]
 simp only [pipeX, vaE, ↓reduceIte, reduceCtorEq, Nat.reduceEqDiff, Nat.reduceAdd, Nat.reduceMul, Nat.reduceSub, Nat.reduceLeDiff, Nat.reduceBEq, Int.reduceToNat, Int.reduceLE, Int.reduceLT, Int.reduceEq, Int.reduceNe, di]
 refine calls_of a_1 ?_; simp only [vaE, res10, ↓reduceIte, reduceCtorEq, Nat.reduceEqDiff, Nat.reduceAdd, Nat.reduceMul, Nat.reduceSub, Nat.reduceLeDiff, Nat.reduceBEq, Int.reduceToNat, Int.reduceLE, Int.reduceLT, Int.reduceEq, Int.reduceNe, di]
 refine calls_of l_Line ?_; simp only [vaE, res10, ↓reduceIte, reduceCtorEq, Nat.reduceEqDiff, Nat.reduceAdd, Nat.reduceMul, Nat.reduceSub, Nat.reduceLeDiff, Nat.reduceBEq, Int.reduceToNat, Int.reduceLE, Int.reduceLT, Int.reduceEq, Int.reduceNe, di]
 refine calls_of a_2 ?_; simp only [vaE, res10, ↓reduceIte, reduceCtorEq, Nat.reduceEqDiff, Nat.reduceAdd, Nat.reduceMul, Nat.reduceSub, Nat.reduceLeDiff, Nat.reduceBEq, Int.reduceToNat, Int.reduceLE, Int.reduceLT, Int.reduceEq, Int.reduceNe, di]
 refine calls_of l_Pipe ?_; simp only [vaE, res10, ↓reduceIte, reduceCtorEq, Nat.reduceEqDiff, Nat.reduceAdd, Nat.reduceMul, Nat.reduceSub, Nat.reduceLeDiff, Nat.reduceBEq, Int.reduceToNat, Int.reduceLE, Int.reduceLT, Int.reduceEq, Int.reduceNe, di]
 refine calls_of a_3 ?_; simp only [vaE, res10, ↓reduceIte, reduceCtorEq, Nat.reduceEqDiff, Nat.reduceAdd, Nat.reduceMul, Nat.reduceSub, Nat.reduceLeDiff, Nat.reduceBEq, Int.reduceToNat, Int.reduceLE, Int.reduceLT, Int.reduceEq, Int.reduceNe, di]
 refine calls_of l_Line ?_; simp only [vaE, res10, ↓reduceIte, reduceCtorEq, Nat.reduceEqDiff, Nat.reduceAdd, Nat.reduceMul, Nat.reduceSub, Nat.reduceLeDiff, Nat.reduceBEq, Int.reduceToNat, Int.reduceLE, Int.reduceLT, Int.reduceEq, Int.reduceNe, di]
 refine calls_of a_4 ?_; simp only [vaE, res10, ↓reduceIte, reduceCtorEq, Nat.reduceEqDiff, Nat.reduceAdd, Nat.reduceMul, Nat.reduceSub, Nat.reduceLeDiff, Nat.reduceBEq, Int.reduceToNat, Int.reduceLE, Int.reduceLT, Int.reduceEq, Int.reduceNe, di]
 simp only [ratI, vaE, ↓reduceIte, reduceCtorEq, Nat.reduceEqDiff, Nat.reduceAdd, Nat.reduceMul, Nat.reduceSub, Nat.reduceLeDiff, Nat.reduceBEq, Int.reduceToNat, Int.reduceLE, Int.reduceLT, Int.reduceEq, Int.reduceNe, di]
 refine calls_of a_5 ?_; simp only [vaE, res10, ↓reduceIte, reduceCtorEq, Nat.reduceEqDiff, Nat.reduceAdd, Nat.reduceMul, Nat.reduceSub, Nat.reduceLeDiff, Nat.reduceBEq, Int.reduceToNat, Int.reduceLE, Int.reduceLT, Int.reduceEq, Int.reduceNe, di]
 refine calls_of (c_Ints (a := [5, 5, 5, 5, -5, -5, -5, -5, 5]) (b := [5, 5, 5, 5, -5, -5, -5, -5, 5]) (by decide)) ?_; simp only [vaE, res10, ↓reduceIte, reduceCtorEq, Nat.reduceEqDiff, Nat.reduceAdd, Nat.reduceMul, Nat.reduceSub, Nat.reduceLeDiff, Nat.reduceBEq, Int.reduceToNat, Int.reduceLE, Int.reduceLT, Int.reduceEq, Int.reduceNe, di]
 refine calls_of (r_SameState (a := ⟨[0, 3], [-4, 0], [3]⟩) (b := ⟨[0, 3], [-4, 0], [3]⟩) ⟨by decide, by decide, by decide⟩) ?_; simp only [vaE, res10, ↓reduceIte, reduceCtorEq, Nat.reduceEqDiff, Nat.reduceAdd, Nat.reduceMul, Nat.reduceSub, Nat.reduceLeDiff, Nat.reduceBEq, Int.reduceToNat, Int.reduceLE, Int.reduceLT, Int.reduceEq, Int.reduceNe, di]
 refine calls_of (c_Ints (a := [1, 1, 1, 1, 4]) (b := [1, 1, 1, 1, 4]) (by decide)) ?_; simp only [vaE, res10, ↓reduceIte, reduceCtorEq, Nat.reduceEqDiff, Nat.reduceAdd, Nat.reduceMul, Nat.reduceSub, Nat.reduceLeDiff, Nat.reduceBEq, Int.reduceToNat, Int.reduceLE, Int.reduceLT, Int.reduceEq, Int.reduceNe, di]
 refine calls_of (c_Ints (a := [1, 3]) (b := [1, 3]) (by decide)) ?_; simp only [vaE, res10, ↓reduceIte, reduceCtorEq, Nat.reduceEqDiff, Nat.reduceAdd, Nat.reduceMul, Nat.reduceSub, Nat.reduceLeDiff, Nat.reduceBEq, Int.reduceToNat, Int.reduceLE, Int.reduceLT, Int.reduceEq, Int.reduceNe, di]

theorem l_few {x : Ln} : Contract Tryz.prog 11 [lnI x] (.bool (decide (x.pp.length ≤ 6 ∧ x.ar.length ≤ 6))) := by
 refine contract_run Tryz.func11 k11 rfl ?_
 simp only [body11, b11, res11, vaE, ↓reduceIte, reduceCtorEq, Nat.reduceEqDiff, Nat.reduceAdd, Nat.reduceMul, Nat.reduceSub, Nat.reduceLeDiff, Nat.reduceBEq, Int.reduceToNat, Int.reduceLE, Int.reduceLT, Int.reduceEq, Int.reduceNe, di]
 by_cases h1 : (x.pp.length : Int) ≤ 6
 ·rw [if_pos h1]
  congr 2
  rw [decide_eq_decide]
  omega
 ·rw [if_neg h1, decide_eq_false (by omega)]
end Go.DI

