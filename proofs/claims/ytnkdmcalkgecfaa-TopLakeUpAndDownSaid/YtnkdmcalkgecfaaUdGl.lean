/- Contracts of the statements' examples. No condition. -/
import Derived.Test.YtnkdmcalkgecfaaUdGe
import Derived.Test.YtnkdmcalkgecfaaProg
import Derived.KernelRfl
import Derived.Test.YtnkdmcalkgecfaaUdGk
/- The functions of the statements, as data. No condition. -/
namespace Go.DI
open Go.Proofs Go.RowKit
def b5 : DCode :=
 (.seq
  (.region [⟨(some 1), .box, [.t 0], none, []⟩,
    ⟨(some 2), .mov, [.c (.bool false)], none, []⟩] false)
  (.seq
   (.region [⟨(some 3), (.faddr 0 true 1), [.t 1], none, []⟩,
     ⟨(some 4), (.load true 1), [.t 3], none, [0]⟩,
     ⟨(some 5), .call, [.f 17, .t 4], none, [1]⟩,
     ⟨(some 6), .mov, [.t 5], none, [2, 2]⟩,
     ⟨(some 7), (.faddr 1 true 1), [.t 1], (some (6, true)), [3]⟩,
     ⟨(some 8), (.load true 1), [.t 7], (some (6, true)), [4, 3]⟩,
     ⟨(some 9), .call, [.f 17, .t 8], (some (6, true)), [5, 3, 3]⟩,
     ⟨(some 10), .pick, [.t 6, .t 9, .c (.bool false)], none, [3, 6]⟩,
     ⟨(some 2), .mov, [.t 10], none, [7, 6, 0, 1, 2, 3, 4, 5, 6, 7]⟩] false)
   .ret))
def d5 : DFn := ⟨1, 11, [.tmp 2], b5⟩
theorem body5 : d5.body = b5 := rfl
theorem res5 : d5.res = [.tmp 2] := rfl
theorem k5 : chkFn Try.prog Try.f5 d5 = true := by kernel_rfl

def b17 : DCode :=
 (.seq
  (.region [⟨(some 1), .box, [.t 0], none, []⟩,
    ⟨(some 2), .mov, [.c (.bool false)], none, []⟩] false)
  (.seq
   (.region [⟨(some 3), (.faddr 0 false 1), [.t 1], none, []⟩,
     ⟨(some 4), (.load false 1), [.t 3], none, [0]⟩,
     ⟨(some 5), .len, [.t 4], none, [1]⟩,
     ⟨(some 6), (.bin .leq), [.t 5, .c (.int .i64 12)], none, [2]⟩,
     ⟨(some 2), .mov, [.t 6], none, [3, 0, 1, 2, 3]⟩] false)
   .ret))
def d17 : DFn := ⟨1, 7, [.tmp 2], b17⟩
theorem body17 : d17.body = b17 := rfl
theorem res17 : d17.res = [.tmp 2] := rfl
theorem k17 : chkFn Try.prog Try.f17 d17 = true := by kernel_rfl

def b16 : DCode :=
 (.seq
  (.region [⟨(some 0), (.alloc [(.imm (.slc 2 []))]), [], none, []⟩] false)
  (.seq
   (.region [⟨(some 1), (.build [(.imm (.int .i64 0)), (.imm (.int .i64 0))] []), [], none, []⟩,
     ⟨(some 2), (.build [(.imm (.int .i64 0)), (.imm (.int .i64 0))] [(0, 1), (1, 1)]), [.c (.int .i64 100), .c (.int .i64 1000)], none, []⟩,
     ⟨(some 3), (.build [(.imm (.int .i64 0)), (.imm (.int .i64 0))] [(0, 1), (1, 1)]), [.c (.int .i64 200), .c (.int .i64 3000)], none, []⟩,
     ⟨(some 4), (.bsl 2), [.t 1, .t 2, .t 3], none, [0, 1, 2]⟩,
     ⟨(some 5), (.build [(.imm (.slc 2 []))] [(0, 1)]), [.t 4], none, [3]⟩,
     ⟨none, (.store 1), [.t 0, .t 5], none, [4, 0, 1, 2, 3, 4]⟩] false)
   .ret))
def d16 : DFn := ⟨0, 6, [.cell 0 true 1], b16⟩
theorem body16 : d16.body = b16 := rfl
theorem res16 : d16.res = [.cell 0 true 1] := rfl
theorem k16 : chkFn Try.prog Try.f16 d16 = true := by kernel_rfl

def b14 : DCode :=
 (.seq
  (.region [⟨(some 0), (.alloc [(.imm (.slc 2 [])), (.imm (.slc 2 [])), (.imm (.int .i64 0))]), [], none, []⟩] false)
  (.seq
   (.region [⟨(some 1), .call, [.f 16], none, []⟩,
     ⟨(some 2), .call, [.f 16], none, [0]⟩,
     ⟨(some 3), (.build [(.imm (.slc 2 [])), (.imm (.slc 2 [])), (.imm (.int .i64 0))] [(0, 1), (1, 1), (2, 1)]), [.t 1, .t 2, .c (.int .i64 500)], none, [0, 1]⟩,
     ⟨none, (.store 3), [.t 0, .t 3], none, [2, 1, 0, 1, 2]⟩] false)
   .ret))
def d14 : DFn := ⟨0, 4, [.cell 0 true 3], b14⟩
theorem body14 : d14.body = b14 := rfl
theorem res14 : d14.res = [.cell 0 true 3] := rfl
theorem k14 : chkFn Try.prog Try.f14 d14 = true := by kernel_rfl

end Go.DI

/- Contracts: the statements' examples and limits. No condition. -/
set_option linter.unusedSimpArgs false
namespace Go.DI
open Go.Proofs Go.RowKit Lk

def tabA : List Kn := [(0, 0), (100, 1000), (200, 3000)]
def pairA : Pair := ⟨tabA, tabA, 500⟩

theorem l_Table : Contract Try.prog 16 [] (tabI tabA) := by
  refine contract_run Try.func16 k16 rfl ?_
  simp only [body16, b16, res16, lkE, ↓reduceIte, reduceCtorEq, Nat.reduceEqDiff, Nat.reduceAdd, Nat.reduceMul, Nat.reduceSub, Nat.reduceLeDiff, Nat.reduceBEq, Int.reduceToNat, Int.reduceLE, Int.reduceLT, Int.reduceEq, Int.reduceNe, di]
  rfl
theorem l_Pair : Contract Try.prog 14 [] (lpI pairA) := by
  refine contract_run Try.func14 k14 rfl ?_
  simp only [body14, b14, res14, lkE, ↓reduceIte, reduceCtorEq, Nat.reduceEqDiff, Nat.reduceAdd, Nat.reduceMul, Nat.reduceSub, Nat.reduceLeDiff, Nat.reduceBEq, Int.reduceToNat, Int.reduceLE, Int.reduceLT, Int.reduceEq, Int.reduceNe, di]
  refine calls_of l_Table ?_; simp only [lkE, res14, ↓reduceIte, reduceCtorEq, Nat.reduceEqDiff, Nat.reduceAdd, Nat.reduceMul, Nat.reduceSub, Nat.reduceLeDiff, Nat.reduceBEq, Int.reduceToNat, Int.reduceLE, Int.reduceLT, Int.reduceEq, Int.reduceNe, di]
  refine calls_of l_Table ?_; simp only [lkE, res14, ↓reduceIte, reduceCtorEq, Nat.reduceEqDiff, Nat.reduceAdd, Nat.reduceMul, Nat.reduceSub, Nat.reduceLeDiff, Nat.reduceBEq, Int.reduceToNat, Int.reduceLE, Int.reduceLT, Int.reduceEq, Int.reduceNe, di]
  rfl

theorem l_Few {l : List Kn} : Contract Try.prog 17 [tabI l] (.bool (decide (l.length ≤ 12))) := by
  refine contract_run Try.func17 k17 rfl ?_
  simp only [body17, b17, res17, lkE, ↓reduceIte, reduceCtorEq, Nat.reduceEqDiff, Nat.reduceAdd, Nat.reduceMul, Nat.reduceSub, Nat.reduceLeDiff, Nat.reduceBEq, Int.reduceToNat, Int.reduceLE, Int.reduceLT, Int.reduceEq, Int.reduceNe, di]
  congr 3
  apply propext; omega
theorem l_FewPair {p : Pair} : Contract Try.prog 5 [lpI p] (.bool (decide (p.u.length ≤ 12 ∧ p.l.length ≤ 12))) := by
  refine contract_run Try.func5 k5 rfl ?_
  simp only [body5, b5, res5, lkE, ↓reduceIte, reduceCtorEq, Nat.reduceEqDiff, Nat.reduceAdd, Nat.reduceMul, Nat.reduceSub, Nat.reduceLeDiff, Nat.reduceBEq, Int.reduceToNat, Int.reduceLE, Int.reduceLT, Int.reduceEq, Int.reduceNe, di]
  refine calls_of l_Few ?_; simp only [lkE, res5, ↓reduceIte, reduceCtorEq, Nat.reduceEqDiff, Nat.reduceAdd, Nat.reduceMul, Nat.reduceSub, Nat.reduceLeDiff, Nat.reduceBEq, Int.reduceToNat, Int.reduceLE, Int.reduceLT, Int.reduceEq, Int.reduceNe, di]
  split
  · rename_i h
    refine calls_of l_Few ?_; simp only [lkE, res5, ↓reduceIte, reduceCtorEq, Nat.reduceEqDiff, Nat.reduceAdd, Nat.reduceMul, Nat.reduceSub, Nat.reduceLeDiff, Nat.reduceBEq, Int.reduceToNat, Int.reduceLE, Int.reduceLT, Int.reduceEq, Int.reduceNe, di]
    simp [h]
  · rename_i h
    simp [h]
end Go.DI

