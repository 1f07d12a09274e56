/- Contracts: the reference's pairs, steps and runs; copies. No condition. -/
import Derived.Test.YtaphhpphfffnfaaGreatDoorLfza
set_option linter.unusedSimpArgs false
namespace Go.DI
open Go.Proofs Go.RowKit Lk

theorem r_FlowsErr {x : Flow} : Contract Tryz.prog 121 [flI x] (.int .i64 (flowErr x)) := by
  unfold flowErr
  refine contract_run Tryz.func121 k121 rfl ?_
  simp only [body121, b121, res121, b121k0, lkE, ↓reduceIte, reduceCtorEq, Nat.reduceEqDiff, Nat.reduceAdd, Nat.reduceMul, Nat.reduceSub, Nat.reduceLeDiff, Nat.reduceBEq, Int.reduceToNat, Int.reduceLE, Int.reduceLT, Int.reduceEq, Int.reduceNe, di]
  refine calls_of c_Within ?_; simp only [lkE, res121, b121k0, ↓reduceIte, reduceCtorEq, Nat.reduceEqDiff, Nat.reduceAdd, Nat.reduceMul, Nat.reduceSub, Nat.reduceLeDiff, Nat.reduceBEq, Int.reduceToNat, Int.reduceLE, Int.reduceLT, Int.reduceEq, Int.reduceNe, di]
  split
  · rename_i h1
    refine calls_of c_Within ?_; simp only [lkE, res121, b121k0, ↓reduceIte, reduceCtorEq, Nat.reduceEqDiff, Nat.reduceAdd, Nat.reduceMul, Nat.reduceSub, Nat.reduceLeDiff, Nat.reduceBEq, Int.reduceToNat, Int.reduceLE, Int.reduceLT, Int.reduceEq, Int.reduceNe, di]
    split
    · rename_i h2
      refine calls_of c_Within ?_; simp only [lkE, res121, b121k0, ↓reduceIte, reduceCtorEq, Nat.reduceEqDiff, Nat.reduceAdd, Nat.reduceMul, Nat.reduceSub, Nat.reduceLeDiff, Nat.reduceBEq, Int.reduceToNat, Int.reduceLE, Int.reduceLT, Int.reduceEq, Int.reduceNe, di]
      split
      · rename_i h3; rw [if_pos (show flowOk x from ⟨h1, h2, h3⟩)]
      · rename_i h3; rw [if_neg (show ¬ flowOk x from fun k => h3 k.2.2)]
    · rename_i h2
      rw [if_neg (show ¬ flowOk x from fun k => h2 k.2.1)]
  · rename_i h1
    rw [if_neg (show ¬ flowOk x from fun k => h1 k.1)]

theorem r_ListErr {l : List Flow} (hl : l.length ≤ 1000000000000) : Contract Tryz.prog 41 [.slc 3 (l.map flI)] (.int .i64 (listErr l)) := by
  unfold listErr
  refine contract_run Tryz.func41 k41 rfl ?_
  simp only [body41, b41, res41, b41k0, b41k1, b41k2, b41k3, ↓reduceIte, reduceCtorEq, Nat.reduceEqDiff, Nat.reduceAdd, Nat.reduceMul, Nat.reduceSub, Nat.reduceLeDiff, Nat.reduceBEq, Int.reduceToNat, Int.reduceLE, Int.reduceLT, Int.reduceEq, Int.reduceNe, di]
  split
  · rename_i h
    rw [if_pos (by omega)]
  · rename_i h
    rw [if_neg (by omega)]
    refine loop_keep (α := Nat) rfl (fun i => l.length - i) (fun i => i ≤ l.length ∧ (firstE (fun i => flowErr (l.getD i default)) (l.length - i) i).2 = (firstE (fun i => flowErr (l.getD i default)) l.length 0).2)
      (fun i => [(0, .imm (.slc 3 (l.map flI))), (3, .imm (.int .i64 i))]) (fun _ => []) 0 ⟨Nat.zero_le _, rfl⟩ (by simp only [↓reduceIte, reduceCtorEq, Nat.reduceEqDiff, Nat.reduceAdd, Nat.reduceMul, Nat.reduceSub, Nat.reduceLeDiff, Nat.reduceBEq, Int.reduceToNat, Int.reduceLE, Int.reduceLT, Int.reduceEq, Int.reduceNe, di] <;> rfl) ?_
    intro i ⟨hi, he⟩ ih
    simp only [res41, b41k0, b41k1, b41k2, b41k3, lkE, ↓reduceIte, reduceCtorEq, Nat.reduceEqDiff, Nat.reduceAdd, Nat.reduceMul, Nat.reduceSub, Nat.reduceLeDiff, Nat.reduceBEq, Int.reduceToNat, Int.reduceLE, Int.reduceLT, Int.reduceEq, Int.reduceNe, di]
    split
    · rename_i h1
      rw [show l.length - i = (l.length - (i + 1)) + 1 by omega, firstE_succ] at he
      repeat (refine And.intro (by omega) ?_)
      have hc := r_FlowsErr (x := l.getD i default)
      refine calls_of hc ?_; simp only [lkE, res41, b41k0, b41k1, b41k2, b41k3, ↓reduceIte, reduceCtorEq, Nat.reduceEqDiff, Nat.reduceAdd, Nat.reduceMul, Nat.reduceSub, Nat.reduceLeDiff, Nat.reduceBEq, Int.reduceToNat, Int.reduceLE, Int.reduceLT, Int.reduceEq, Int.reduceNe, di]
      split
      · rename_i h2
        rw [if_pos h2] at he
        rw [wrap64 (by omega) (by omega)]
        exact ih (i + 1) _ _ (by omega) ⟨by omega, he⟩ (by simp only [↓reduceIte, reduceCtorEq, Nat.reduceEqDiff, Nat.reduceAdd, Nat.reduceMul, Nat.reduceSub, Nat.reduceLeDiff, Nat.reduceBEq, Int.reduceToNat, Int.reduceLE, Int.reduceLT, Int.reduceEq, Int.reduceNe, di] <;> rfl)
      · rename_i h2
        rw [if_neg h2] at he
        rw [← he]
    · rename_i h1
      rw [show l.length - i = 0 by omega] at he
      rw [← he]
      rfl

theorem r_CopyList {l : List Flow} (hl : l.length ≤ 1000000000) : Contract Tryz.prog 36 [.slc 3 (l.map flI)] (.slc 3 (l.map flI)) := by
  refine contract_run Tryz.func36 k36 rfl ?_
  simp only [body36, b36, res36, lkE, ↓reduceIte, reduceCtorEq, Nat.reduceEqDiff, Nat.reduceAdd, Nat.reduceMul, Nat.reduceSub, Nat.reduceLeDiff, Nat.reduceBEq, Int.reduceToNat, Int.reduceLE, Int.reduceLT, Int.reduceEq, Int.reduceNe, di]
  omega
end Go.DI

