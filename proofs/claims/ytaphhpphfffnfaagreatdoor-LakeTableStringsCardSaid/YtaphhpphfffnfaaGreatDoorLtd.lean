/- Contracts of the base's small functions. No condition. -/
import Derived.Test.YtaphhpphfffnfaaGreatDoorLtc
import Derived.IntWalk
set_option linter.unusedSimpArgs false
namespace Go.DI
open Go.Proofs Go.RowKit

theorem wrap64 {n : Int} (h1 : -9223372036854775808 ≤ n) (h2 : n ≤ 9223372036854775807) : IntKind.wrap .i64 n = n := IntWalk.i64_in n ⟨h1, h2⟩

theorem c_Size {n : Int} (h1 : -9223372036854775807 ≤ n) (h2 : n ≤ 9223372036854775807) : Contract Tryz.prog 200 [.int .i64 n] (.int .i64 n.natAbs) := by
  refine contract_run Tryz.func200 k200 rfl ?_
  simp only [body200, b200, res200, ↓reduceIte, reduceCtorEq, Nat.reduceEqDiff, Nat.reduceAdd, Nat.reduceMul, Nat.reduceSub, Nat.reduceLeDiff, Nat.reduceBEq, Int.reduceToNat, Int.reduceLE, Int.reduceLT, Int.reduceEq, Int.reduceNe, di]
  rw [wrap64 (by omega) (by omega)]
  congr 2
  omega

theorem c_Within {x lo hi : Int} : Contract Tryz.prog 47 [.int .i64 x, .int .i64 lo, .int .i64 hi] (.bool (decide (lo ≤ x ∧ x ≤ hi))) := by
  refine contract_run Tryz.func47 k47 rfl ?_
  simp only [body47, b47, res47, ↓reduceIte, reduceCtorEq, Nat.reduceEqDiff, Nat.reduceAdd, Nat.reduceMul, Nat.reduceSub, Nat.reduceLeDiff, Nat.reduceBEq, Int.reduceToNat, Int.reduceLE, Int.reduceLT, Int.reduceEq, Int.reduceNe, di]
  split
  · rename_i h; simp [h]
  · rename_i h; simp [h]

theorem c_digit {l : List Int} {i : Int} (hi : 0 ≤ i) : Contract Tryz.prog 336 [.slc 1 (l.map (.int .i64)), .int .i64 i] (.int .i64 (l.getD i.toNat 0)) := by
  refine contract_run Tryz.func336 k336 rfl ?_
  simp only [body336, b336, res336, b336k0, ↓reduceIte, reduceCtorEq, Nat.reduceEqDiff, Nat.reduceAdd, Nat.reduceMul, Nat.reduceSub, Nat.reduceLeDiff, Nat.reduceBEq, Int.reduceToNat, Int.reduceLE, Int.reduceLT, Int.reduceEq, Int.reduceNe, di]
  split
  · rename_i h; exact ⟨hi, h⟩
  · rename_i h; rw [List.getD_eq_getElem?_getD, List.getElem?_eq_none (by omega)]
    simp

/-- How many digits are left, when zeros at the end are left away. -/
def trimLen (l : List Int) : Nat → Nat
  | 0 => 0
  | n + 1 => if l.getD n 0 = 0 then trimLen l n else n + 1
def trim (l : List Int) : List Int := l.take (trimLen l l.length)

theorem trimLen_succ (l : List Int) (n : Nat) : trimLen l (n + 1) = if l.getD n 0 = 0 then trimLen l n else n + 1 := rfl
theorem trimLen_le (l : List Int) : ∀ n, trimLen l n ≤ n
  | 0 => Nat.le_refl _
  | n + 1 => by
    unfold trimLen
    split
    · exact Nat.le_succ_of_le (trimLen_le l n)
    · exact Nat.le_refl _

theorem c_trimmed {l : List Int} (hl : l.length ≤ 9223372036854775807) : Contract Tryz.prog 326 [.slc 1 (l.map (.int .i64))] (.slc 1 ((trim l).map (.int .i64))) := by
  refine contract_run Tryz.func326 k326 rfl ?_
  simp only [body326, b326, res326, b326k0, b326k1, ↓reduceIte, reduceCtorEq, Nat.reduceEqDiff, Nat.reduceAdd, Nat.reduceMul, Nat.reduceSub, Nat.reduceLeDiff, Nat.reduceBEq, Int.reduceToNat, Int.reduceLE, Int.reduceLT, Int.reduceEq, Int.reduceNe, di]
  refine loop_keep (α := Nat) rfl (fun n => n) (fun n => n ≤ l.length ∧ trimLen l n = trimLen l l.length)
    (fun n => [(0, .imm (.slc 1 (l.map (.int .i64)))), (3, .imm (.int .i64 n))]) (fun _ => []) l.length ⟨Nat.le_refl _, rfl⟩ (by simp only [↓reduceIte, reduceCtorEq, Nat.reduceEqDiff, Nat.reduceAdd, Nat.reduceMul, Nat.reduceSub, Nat.reduceLeDiff, Nat.reduceBEq, Int.reduceToNat, Int.reduceLE, Int.reduceLT, Int.reduceEq, Int.reduceNe, di]) ?_
  intro n ⟨hn, ht⟩ ih
  have fin : trimLen l n = n → l.take n = trim l := fun h => by unfold trim; rw [← ht, h]
  simp only [res326, b326k0, b326k1, ↓reduceIte, reduceCtorEq, Nat.reduceEqDiff, Nat.reduceAdd, Nat.reduceMul, Nat.reduceSub, Nat.reduceLeDiff, Nat.reduceBEq, Int.reduceToNat, Int.reduceLE, Int.reduceLT, Int.reduceEq, Int.reduceNe, di]
  cases n with
  | zero =>
    rw [if_neg (by omega)]
    have := fin rfl
    refine ⟨by omega, ?_⟩
    rw [← this]
  | succ m =>
    rw [if_pos (by omega), wrap64 (by omega) (by omega)]
    have e : (((m + 1 : Nat) : Int) - 1) = m := by omega
    rw [e]
    refine ⟨by omega, by omega, ?_⟩
    split
    · rename_i h
      refine ih m _ _ (by omega) ⟨by omega, ?_⟩ (by simp only [↓reduceIte, reduceCtorEq, Nat.reduceEqDiff, Nat.reduceAdd, Nat.reduceMul, Nat.reduceSub, Nat.reduceLeDiff, Nat.reduceBEq, Int.reduceToNat, Int.reduceLE, Int.reduceLT, Int.reduceEq, Int.reduceNe, di])
      rw [← ht, trimLen_succ, if_pos (by simpa using h)]
    · rename_i h
      have := fin (by rw [trimLen_succ, if_neg (by simpa using h)])
      refine ⟨by omega, ?_⟩
      rw [← this]
end Go.DI

