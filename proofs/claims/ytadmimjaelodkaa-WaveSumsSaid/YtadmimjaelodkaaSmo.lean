/- Contracts: copies of numbers that may be written. No condition. -/
import Derived.Test.YtadmimjaelodkaaSmn
set_option linter.unusedSimpArgs false
set_option maxRecDepth 100000
namespace Go.DI
open Go.Proofs Go.RowKit

theorem b_CopyInts1 {l : List Int} (hl : l.length ≤ 1000000000) (hne : l.length ≠ 0) : BC Try.prog 24 [.imm (.slc 1 (l.map (IV.int .i64)))] (lookR []) fun r R' => r = .vec 1000 0 l.length ∧ R' = lookR [(1000, .arr (l.map (IV.int .i64)))] := by
  refine bc_run Try.func24 k1024 rfl rfl ?_
  simp only [body1024, b1024, res1024, ↓reduceIte, reduceCtorEq, Nat.reduceEqDiff, Nat.reduceAdd, Nat.reduceMul, Nat.reduceSub, Nat.reduceLeDiff, Nat.reduceBEq, Int.reduceToNat, Int.reduceLE, Int.reduceLT, Int.reduceEq, Int.reduceNe, di]
  refine ⟨by omega, by omega, by simp [IV.isAgg], ?_⟩
  rw [if_neg hne, Nat.zero_add]
  refine run_ren rfl (by first | decide | rfl) (by first | decide | rfl) (by first | decide | rfl) ?_
  simp only [↓reduceIte, reduceCtorEq, Nat.reduceEqDiff, Nat.reduceAdd, Nat.reduceMul, Nat.reduceSub, Nat.reduceLeDiff, Nat.reduceBEq, Int.reduceToNat, Int.reduceLE, Int.reduceLT, Int.reduceEq, Int.reduceNe, di]
  rw [outD_one res1024, getD_tmp]
  exact ⟨_, rfl, rfl, rfl⟩
theorem b_CopyInts2 {l : List Int} (hl : l.length ≤ 1000000000) (hne : l.length ≠ 0) : BC Try.prog 24 [.imm (.slc 1 (l.map (IV.int .i64)))] (lookR []) fun r R' => r = .vec 1001 0 l.length ∧ R' = lookR [(1001, .arr (l.map (IV.int .i64)))] := by
  refine bc_run Try.func24 k2024 rfl rfl ?_
  simp only [body2024, b2024, res2024, ↓reduceIte, reduceCtorEq, Nat.reduceEqDiff, Nat.reduceAdd, Nat.reduceMul, Nat.reduceSub, Nat.reduceLeDiff, Nat.reduceBEq, Int.reduceToNat, Int.reduceLE, Int.reduceLT, Int.reduceEq, Int.reduceNe, di]
  refine ⟨by omega, by omega, by simp [IV.isAgg], ?_⟩
  rw [if_neg hne, Nat.zero_add]
  refine run_ren rfl (by first | decide | rfl) (by first | decide | rfl) (by first | decide | rfl) ?_
  simp only [↓reduceIte, reduceCtorEq, Nat.reduceEqDiff, Nat.reduceAdd, Nat.reduceMul, Nat.reduceSub, Nat.reduceLeDiff, Nat.reduceBEq, Int.reduceToNat, Int.reduceLE, Int.reduceLT, Int.reduceEq, Int.reduceNe, di]
  rw [outD_one res2024, getD_tmp]
  exact ⟨_, rfl, rfl, rfl⟩
theorem b_CopyInts3 {l : List Int} (hl : l.length ≤ 1000000000) (hne : l.length ≠ 0) : BC Try.prog 24 [.imm (.slc 1 (l.map (IV.int .i64)))] (lookR []) fun r R' => r = .vec 1002 0 l.length ∧ R' = lookR [(1002, .arr (l.map (IV.int .i64)))] := by
  refine bc_run Try.func24 k3024 rfl rfl ?_
  simp only [body3024, b3024, res3024, ↓reduceIte, reduceCtorEq, Nat.reduceEqDiff, Nat.reduceAdd, Nat.reduceMul, Nat.reduceSub, Nat.reduceLeDiff, Nat.reduceBEq, Int.reduceToNat, Int.reduceLE, Int.reduceLT, Int.reduceEq, Int.reduceNe, di]
  refine ⟨by omega, by omega, by simp [IV.isAgg], ?_⟩
  rw [if_neg hne, Nat.zero_add]
  refine run_ren rfl (by first | decide | rfl) (by first | decide | rfl) (by first | decide | rfl) ?_
  simp only [↓reduceIte, reduceCtorEq, Nat.reduceEqDiff, Nat.reduceAdd, Nat.reduceMul, Nat.reduceSub, Nat.reduceLeDiff, Nat.reduceBEq, Int.reduceToNat, Int.reduceLE, Int.reduceLT, Int.reduceEq, Int.reduceNe, di]
  rw [outD_one res3024, getD_tmp]
  exact ⟨_, rfl, rfl, rfl⟩
theorem b_CopyInts3z {l : List Int} (hz : l.length = 0) : BC Try.prog 24 [.imm (.slc 1 (l.map (IV.int .i64)))] (lookR []) fun r R' => r = .cap0 1 [] ∧ R' = lookR [] := by
  refine bc_run Try.func24 k3024 rfl rfl ?_
  simp only [body3024, b3024, res3024, ↓reduceIte, reduceCtorEq, Nat.reduceEqDiff, Nat.reduceAdd, Nat.reduceMul, Nat.reduceSub, Nat.reduceLeDiff, Nat.reduceBEq, Int.reduceToNat, Int.reduceLE, Int.reduceLT, Int.reduceEq, Int.reduceNe, di]
  refine ⟨by omega, by omega, by simp [IV.isAgg], ?_⟩
  rw [if_pos hz]
  refine run_ren rfl (by first | decide | rfl) (by first | decide | rfl) (by first | decide | rfl) ?_
  simp only [↓reduceIte, reduceCtorEq, Nat.reduceEqDiff, Nat.reduceAdd, Nat.reduceMul, Nat.reduceSub, Nat.reduceLeDiff, Nat.reduceBEq, Int.reduceToNat, Int.reduceLE, Int.reduceLT, Int.reduceEq, Int.reduceNe, di]
  rw [outD_one res3024, getD_tmp]
  exact ⟨_, rfl, rfl, rfl⟩
end Go.DI

