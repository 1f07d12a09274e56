/- Contracts of witnesses. No condition. -/
import Derived.Test.YtdpfjbghiahbeaaKsGm
/- The reference's functions of witnesses, as data. No condition. -/
namespace Go.DI
open Go.Proofs Go.RowKit
/-- guidevane/guidevanelaw04.few -/
def b29 : DCode :=
 (.seq
  (.region [⟨(some 1), .box, [.t 0], none, []⟩,
    ⟨(some 2), .mov, [.c (.bool false)], none, []⟩] false)
  (.seq
   (.region [⟨(some 3), (.faddr 0 false 1), [.t 1], none, []⟩,
     ⟨(some 4), (.load false 1), [.t 3], none, [0]⟩,
     ⟨(some 5), .len, [.t 4], none, [1]⟩,
     ⟨(some 6), (.bin .leq), [.t 5, .c (.int .i64 6)], none, [2]⟩,
     ⟨(some 7), .mov, [.t 6], none, [3]⟩,
     ⟨(some 8), (.faddr 0 false 1), [.t 1], (some (7, false)), [4]⟩,
     ⟨(some 9), (.load false 1), [.t 8], (some (7, false)), [5, 4]⟩,
     ⟨(some 10), .len, [.t 9], (some (7, false)), [6, 4]⟩,
     ⟨(some 11), (.bin .gtr), [.t 10, .c (.int .i64 40)], (some (7, false)), [7, 4]⟩,
     ⟨(some 12), .mov, [.t 11], (some (7, false)), [8, 4, 4]⟩,
     ⟨(some 13), (.faddr 0 false 1), [.t 1], (some (12, true)), [9]⟩,
     ⟨(some 14), (.load false 1), [.t 13], (some (12, true)), [10, 9]⟩,
     ⟨(some 15), .len, [.t 14], (some (12, true)), [11, 9]⟩,
     ⟨(some 16), (.bin .leq), [.t 15, .c (.int .i64 42)], (some (12, true)), [12, 9]⟩,
     ⟨(some 17), .pick, [.t 12, .t 16, .c (.bool false)], (some (7, false)), [9, 13, 4]⟩,
     ⟨(some 18), .pick, [.t 7, .c (.bool true), .t 17], none, [4, 14]⟩,
     ⟨(some 19), .mov, [.t 18], none, [15, 9]⟩,
     ⟨(some 20), (.faddr 1 true 5), [.t 1], (some (19, true)), [16]⟩,
     ⟨(some 21), (.faddr 0 false 1), [.t 20], (some (19, true)), [17, 16]⟩,
     ⟨(some 22), (.load false 1), [.t 21], (some (19, true)), [18, 16]⟩,
     ⟨(some 23), .len, [.t 22], (some (19, true)), [19, 16]⟩,
     ⟨(some 24), (.bin .leq), [.t 23, .c (.int .i64 10)], (some (19, true)), [20, 16]⟩,
     ⟨(some 25), .pick, [.t 19, .t 24, .c (.bool false)], none, [16, 21]⟩,
     ⟨(some 26), .mov, [.t 25], none, [22, 16]⟩,
     ⟨(some 27), (.faddr 6 false 1), [.t 1], (some (26, true)), [23]⟩,
     ⟨(some 28), (.load false 1), [.t 27], (some (26, true)), [24, 23]⟩,
     ⟨(some 29), .len, [.t 28], (some (26, true)), [25, 23]⟩,
     ⟨(some 30), (.bin .leq), [.t 29, .c (.int .i64 6)], (some (26, true)), [26, 23]⟩,
     ⟨(some 31), .mov, [.t 30], (some (26, true)), [27, 23, 23]⟩,
     ⟨(some 32), (.faddr 6 false 1), [.t 1], (some (31, false)), [28]⟩,
     ⟨(some 33), (.load false 1), [.t 32], (some (31, false)), [29, 28]⟩,
     ⟨(some 34), .len, [.t 33], (some (31, false)), [30, 28]⟩,
     ⟨(some 35), (.bin .gtr), [.t 34, .c (.int .i64 64)], (some (31, false)), [31, 28]⟩,
     ⟨(some 36), .mov, [.t 35], (some (31, false)), [32, 28, 28]⟩,
     ⟨(some 37), (.faddr 6 false 1), [.t 1], (some (36, true)), [33]⟩,
     ⟨(some 38), (.load false 1), [.t 37], (some (36, true)), [34, 33]⟩,
     ⟨(some 39), .len, [.t 38], (some (36, true)), [35, 33]⟩,
     ⟨(some 40), (.bin .leq), [.t 39, .c (.int .i64 66)], (some (36, true)), [36, 33]⟩,
     ⟨(some 41), .pick, [.t 36, .t 40, .c (.bool false)], (some (31, false)), [33, 37, 28]⟩,
     ⟨(some 42), .pick, [.t 31, .c (.bool true), .t 41], (some (26, true)), [28, 38, 23]⟩,
     ⟨(some 43), .pick, [.t 26, .t 42, .c (.bool false)], none, [23, 39]⟩,
     ⟨(some 2), .mov, [.t 43], none, [40, 33, 0, 1, 2, 3, 4, 5, 6, 7, 8, 9, 10, 11, 12, 13, 14, 15, 16, 17, 18, 19, 20, 21, 22, 23, 24, 25, 26, 27, 28, 29, 30, 31, 32, 33, 34, 35, 36, 37, 38, 39, 40]⟩] false)
   .ret))
def d29 : DFn := ⟨1, 44, [.tmp 2], b29⟩
theorem body29 : d29.body = b29 := rfl
theorem res29 : d29.res = [.tmp 2] := rfl
theorem k29 : chkFn Try.prog Try.f29 d29 = true := by kernel_rfl

end Go.DI

/- Contracts: witnesses, of the program and of the reference. No condition. -/
set_option linter.unusedSimpArgs false
set_option maxRecDepth 20000
namespace Go.DI
open Go.Proofs Go.RowKit Sg

def wZ : Wt := ⟨[], ⟨0, 0⟩, 0, 0⟩
end Go.DI

/- The statement SurgeWitnesses, as a contract. No condition. -/
set_option linter.unusedSimpArgs false
set_option maxRecDepth 20000
namespace Go.DI
open Go.Proofs Go.RowKit Sg

def clI (ss : List Sta) (w : Wt) (bs : List Bx) : IV := .agg [.slc 2 (ss.map ssI), snI w.ord, .int .i64 w.st.L, .int .i64 w.st.F, .int .i64 w.k, .int .i64 w.lev, .slc 4 (bs.map sbI)]
def fewC (ss : List Sta) (w : Wt) (bs : List Bx) : Prop := (ss.length ≤ 6 ∨ (40 < ss.length ∧ ss.length ≤ 42)) ∧ w.ord.length ≤ 10 ∧ (bs.length ≤ 6 ∨ (64 < bs.length ∧ bs.length ≤ 66))
instance (ss : List Sta) (w : Wt) (bs : List Bx) : Decidable (fewC ss w bs) := inferInstanceAs (Decidable (_ ∧ _))
theorem l_few {ss : List Sta} {w : Wt} {bs : List Bx} : Contract Try.prog 29 [clI ss w bs] (.bool (decide (fewC ss w bs))) := by
  refine contract_run Try.func29 k29 rfl ?_
  simp only [body29, b29, res29, clI, ruI, ssI, sbI, spI, swI, scI, stI, srI, saI, snI, ↓reduceIte, reduceCtorEq, Nat.reduceEqDiff, Nat.reduceAdd, Nat.reduceMul, Nat.reduceSub, Nat.reduceLeDiff, Nat.reduceBEq, Int.reduceToNat, Int.reduceLE, Int.reduceLT, Int.reduceEq, Int.reduceNe, di0, di1, di2, di3, di4, di5, di6, di7, di8, di9, postX_ret, postX_normal, ex_some]
  by_cases a1 : (ss.length : Int) ≤ 6 <;> by_cases a2 : (40 : Int) < (ss.length : Int) <;> by_cases a3 : (ss.length : Int) ≤ 42 <;> by_cases a4 : (w.ord.length : Int) ≤ 10 <;> by_cases a5 : (bs.length : Int) ≤ 6 <;> by_cases a6 : (64 : Int) < (bs.length : Int) <;> by_cases a7 : (bs.length : Int) ≤ 66 <;>
    simp only [a1, a2, a3, a4, a5, a6, a7, ruI, ssI, sbI, spI, swI, scI, stI, srI, saI, snI, ↓reduceIte, reduceCtorEq, Nat.reduceEqDiff, Nat.reduceAdd, Nat.reduceMul, Nat.reduceSub, Nat.reduceLeDiff, Nat.reduceBEq, Int.reduceToNat, Int.reduceLE, Int.reduceLT, Int.reduceEq, Int.reduceNe, di0, di1, di2, di3, di4, di5, di6, di7, di8, di9, postX_ret, postX_normal, ex_some] <;> first | (exfalso; omega) | rw [decide_eq_true (show fewC ss w bs by unfold fewC; omega)] | rw [decide_eq_false (show ¬ fewC ss w bs by unfold fewC; omega)]

end Go.DI

