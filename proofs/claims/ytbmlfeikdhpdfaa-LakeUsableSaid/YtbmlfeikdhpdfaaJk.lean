/- Contracts of the statements' examples. No condition. -/
import Derived.Test.YtbmlfeikdhpdfaaJd
import Derived.Test.YtbmlfeikdhpdfaaProg
import Derived.KernelRfl
import Derived.Test.YtbmlfeikdhpdfaaJj
/- The functions of the statements, as data. No condition. -/
namespace Go.DI
open Go.Proofs Go.RowKit
/-- guidevane/guidevanelaw01.awake -/
def b12 : DCode :=
 (.seq
  (.region [⟨(some 0), .mov, [.c (.bool false)], none, []⟩] false)
  (.seq
   (.region [⟨(some 11), .call, [.f 59], none, []⟩,
     ⟨(some 12), .call, [.f 36, .t 11, .c (.int .i64 1501)], none, [0, 0]⟩,
     ⟨(some 10), .mov, [.t 12], none, [1]⟩,
     ⟨(some 13), (.ext 0), [.t 10], none, [2]⟩,
     ⟨(some 14), (.ext 1), [.t 10], none, [2]⟩,
     ⟨(some 1), (.alloc [(.imm (.int .i64 0)), (.imm (.int .i64 0))]), [], none, []⟩,
     ⟨none, (.store 2), [.t 1, .t 13], none, [5, 3, 1, 0, 1, 2, 3, 5]⟩,
     ⟨(some 2), .mov, [.t 14], none, [4, 6, 0, 1, 2, 3, 4, 5, 6]⟩] false)
   (.seq
    (.region [⟨(some 16), .call, [.f 60], none, []⟩,
      ⟨(some 17), (.build [(.imm (.int .i64 0)), (.imm (.int .i64 0))] [(0, 1), (1, 1)]), [.c (.int .i64 2950), .c (.int .i64 500)], none, []⟩,
      ⟨(some 18), (.build [(.imm (.int .i64 0)), (.imm (.int .i64 0)), (.imm (.int .i64 0))] [(2, 1)]), [.c (.int .i64 200)], none, []⟩,
      ⟨(some 19), .call, [.f 18, .t 16, .t 17, .t 18], none, [0, 1, 2, 0]⟩,
      ⟨(some 15), .mov, [.t 19], none, [3]⟩,
      ⟨(some 20), (.ext 0), [.t 15], none, [4]⟩,
      ⟨(some 21), (.ext 1), [.t 15], none, [4]⟩,
      ⟨(some 22), (.ext 2), [.t 15], none, [4]⟩,
      ⟨(some 3), (.alloc [(.imm (.int .i64 0)), (.imm (.int .i64 0))]), [], none, []⟩,
      ⟨(some 4), (.alloc [(.imm (.int .i64 0)), (.imm (.int .i64 0))]), [], none, []⟩,
      ⟨none, (.store 2), [.t 3, .t 20], none, [8, 5, 3, 0, 1, 2, 3, 4, 5, 8, 9]⟩,
      ⟨none, (.store 2), [.t 4, .t 21], none, [9, 6, 10, 0, 1, 2, 3, 4, 5, 6, 8, 9, 10]⟩,
      ⟨(some 5), .mov, [.t 22], none, [7, 11, 0, 1, 2, 3, 4, 5, 6, 7, 8, 9, 10, 11]⟩] false)
    (.seq
     (.region [⟨(some 24), .call, [.f 60], none, []⟩,
       ⟨(some 25), (.build [(.imm (.int .i64 0)), (.imm (.int .i64 0))] [(0, 1), (1, 1)]), [.c (.int .i64 2950), .c (.int .i64 500)], none, []⟩,
       ⟨(some 26), .call, [.f 17, .t 24, .t 25], none, [0, 1, 0]⟩,
       ⟨(some 23), .mov, [.t 26], none, [2]⟩,
       ⟨(some 27), (.ext 0), [.t 23], none, [3]⟩,
       ⟨(some 28), (.ext 1), [.t 23], none, [3]⟩,
       ⟨(some 6), (.alloc [(.imm (.int .i64 0)), (.imm (.int .i64 0))]), [], none, []⟩,
       ⟨none, (.store 2), [.t 6, .t 27], none, [6, 4, 2, 0, 1, 2, 3, 4, 6]⟩,
       ⟨(some 7), .mov, [.t 28], none, [5, 7, 0, 1, 2, 3, 4, 5, 6, 7]⟩] false)
     (.seq
      (.region [⟨(some 30), .call, [.f 59], none, []⟩,
        ⟨(some 31), (.bsl 1), [.c (.int .i64 10), .c (.int .i64 20)], none, []⟩,
        ⟨(some 32), (.build [(.imm (.int .i64 0)), (.imm (.int .i64 0))] [(0, 1), (1, 1)]), [.c (.int .i64 50), .c (.int .i64 52)], none, []⟩,
        ⟨(some 33), (.build [(.imm (.int .i64 0)), (.imm (.int .i64 0)), (.imm (.int .i64 0))] [(1, 2)]), [.t 32], none, [2]⟩,
        ⟨(some 34), (.build [(.imm (.int .i64 0)), (.imm (.int .i64 0))] [(0, 1), (1, 1)]), [.c (.int .i64 54), .c (.int .i64 55)], none, []⟩,
        ⟨(some 35), (.build [(.imm (.int .i64 0)), (.imm (.int .i64 0)), (.imm (.int .i64 0))] [(0, 1), (1, 2)]), [.c (.int .i64 2), .t 34], none, [4]⟩,
        ⟨(some 36), (.bsl 3), [.t 33, .t 35], none, [3, 5]⟩,
        ⟨(some 37), .call, [.f 27, .t 30, .t 31, .t 36], none, [0, 1, 6, 0]⟩,
        ⟨(some 29), .mov, [.t 37], none, [7]⟩,
        ⟨(some 38), (.ext 0), [.t 29], none, [8]⟩,
        ⟨(some 39), (.ext 1), [.t 29], none, [8]⟩,
        ⟨(some 8), (.alloc [(.imm (.int .i64 0)), (.imm (.int .i64 0))]), [], none, []⟩,
        ⟨none, (.store 2), [.t 8, .t 38], none, [11, 9, 7, 0, 1, 2, 3, 4, 5, 6, 7, 8, 9, 11]⟩,
        ⟨(some 9), .mov, [.t 39], none, [10, 12, 0, 1, 2, 3, 4, 5, 6, 7, 8, 9, 10, 11, 12]⟩] false)
      (.seq
       (.region [⟨(some 40), .mov, [.t 2], none, []⟩,
         ⟨(some 41), (.bin .eql), [.t 40, .c (.int .i64 0)], none, [0]⟩,
         ⟨(some 42), .mov, [.t 41], none, [1]⟩,
         ⟨(some 43), (.load true 2), [.t 1], (some (42, true)), [2]⟩,
         ⟨(some 44), (.build [(.imm (.int .i64 0)), (.imm (.int .i64 0))] [(0, 1), (1, 1)]), [.c (.int .i64 125), .c (.int .i64 126)], (some (42, true)), [2]⟩,
         ⟨(some 45), (.eqs [false, false] false), [.t 43, .t 44], (some (42, true)), [3, 4, 2]⟩,
         ⟨(some 46), .pick, [.t 42, .t 45, .c (.bool false)], none, [2, 5]⟩,
         ⟨(some 47), .mov, [.t 46], none, [6, 2]⟩,
         ⟨(some 48), .mov, [.t 5], (some (47, true)), [7]⟩,
         ⟨(some 49), (.bin .eql), [.t 48, .c (.int .i64 0)], (some (47, true)), [8, 7]⟩,
         ⟨(some 50), .pick, [.t 47, .t 49, .c (.bool false)], none, [7, 9]⟩,
         ⟨(some 51), .mov, [.t 50], none, [10, 7]⟩,
         ⟨(some 52), (.load true 2), [.t 3], (some (51, true)), [11]⟩,
         ⟨(some 53), (.build [(.imm (.int .i64 0)), (.imm (.int .i64 0))] [(0, 1), (1, 1)]), [.c (.int .i64 3000), .c (.int .i64 295)], (some (51, true)), [11]⟩,
         ⟨(some 54), (.eqs [false, false] false), [.t 52, .t 53], (some (51, true)), [12, 13, 11]⟩,
         ⟨(some 55), .pick, [.t 51, .t 54, .c (.bool false)], none, [11, 14]⟩,
         ⟨(some 56), .mov, [.t 55], none, [15, 11]⟩,
         ⟨(some 57), (.load true 2), [.t 4], (some (56, true)), [16]⟩,
         ⟨(some 58), (.build [(.imm (.int .i64 0)), (.imm (.int .i64 0))] [(0, 1), (1, 1)]), [.c (.int .i64 15), .c (.int .i64 140)], (some (56, true)), [16]⟩,
         ⟨(some 59), (.eqs [false, false] false), [.t 57, .t 58], (some (56, true)), [17, 18, 16]⟩,
         ⟨(some 60), .pick, [.t 56, .t 59, .c (.bool false)], none, [16, 19]⟩,
         ⟨(some 61), .mov, [.t 60], none, [20, 16]⟩,
         ⟨(some 62), .mov, [.t 7], (some (61, true)), [21]⟩,
         ⟨(some 63), (.bin .eql), [.t 62, .c (.int .i64 0)], (some (61, true)), [22, 21]⟩,
         ⟨(some 64), .pick, [.t 61, .t 63, .c (.bool false)], none, [21, 23]⟩,
         ⟨(some 65), .mov, [.t 64], none, [24, 21]⟩,
         ⟨(some 66), (.load true 2), [.t 6], (some (65, true)), [25]⟩,
         ⟨(some 67), (.build [(.imm (.int .i64 0)), (.imm (.int .i64 0))] [(0, 1), (1, 1)]), [.c (.int .i64 2500), .c (.int .i64 50)], (some (65, true)), [25]⟩,
         ⟨(some 68), (.eqs [false, false] false), [.t 66, .t 67], (some (65, true)), [26, 27, 25]⟩,
         ⟨(some 69), .pick, [.t 65, .t 68, .c (.bool false)], none, [25, 28]⟩,
         ⟨(some 70), .mov, [.t 69], none, [29, 25]⟩,
         ⟨(some 71), .mov, [.t 9], (some (70, true)), [30]⟩,
         ⟨(some 72), (.bin .eql), [.t 71, .c (.int .i64 0)], (some (70, true)), [31, 30]⟩,
         ⟨(some 73), .pick, [.t 70, .t 72, .c (.bool false)], none, [30, 32]⟩,
         ⟨(some 74), .mov, [.t 73], none, [33, 30]⟩,
         ⟨(some 75), (.load true 2), [.t 8], (some (74, true)), [34]⟩,
         ⟨(some 76), (.build [(.imm (.int .i64 0)), (.imm (.int .i64 0))] [(0, 1), (1, 1)]), [.c (.int .i64 510), .c (.int .i64 520)], (some (74, true)), [34]⟩,
         ⟨(some 77), (.eqs [false, false] false), [.t 75, .t 76], (some (74, true)), [35, 36, 34]⟩,
         ⟨(some 78), .pick, [.t 74, .t 77, .c (.bool false)], none, [34, 37]⟩,
         ⟨(some 0), .mov, [.t 78], none, [38, 34, 0, 1, 2, 3, 4, 5, 6, 7, 8, 9, 10, 11, 12, 13, 14, 15, 16, 17, 18, 19, 20, 21, 22, 23, 24, 25, 26, 27, 28, 29, 30, 31, 32, 33, 34, 35, 36, 37, 38]⟩] false)
       .ret))))))
def d12 : DFn := ⟨0, 79, [.tmp 0], b12⟩
theorem body12 : d12.body = b12 := rfl
theorem res12 : d12.res = [.tmp 0] := rfl
theorem k12 : chkFn Try.prog Try.f12 d12 = true := by kernel_rfl

/-- guidevane/guidevanelaw01.FewPair -/
def b13 : DCode :=
 (.seq
  (.region [⟨(some 1), .box, [.t 0], none, []⟩,
    ⟨(some 2), .mov, [.c (.bool false)], none, []⟩] false)
  (.seq
   (.region [⟨(some 3), (.faddr 0 true 1), [.t 1], none, []⟩,
     ⟨(some 4), (.load true 1), [.t 3], none, [0]⟩,
     ⟨(some 5), .call, [.f 25, .t 4], none, [1]⟩,
     ⟨(some 6), .mov, [.t 5], none, [2, 2]⟩,
     ⟨(some 7), (.faddr 1 true 1), [.t 1], (some (6, true)), [3]⟩,
     ⟨(some 8), (.load true 1), [.t 7], (some (6, true)), [4, 3]⟩,
     ⟨(some 9), .call, [.f 25, .t 8], (some (6, true)), [5, 3, 3]⟩,
     ⟨(some 10), .pick, [.t 6, .t 9, .c (.bool false)], none, [3, 6]⟩,
     ⟨(some 2), .mov, [.t 10], none, [7, 6, 0, 1, 2, 3, 4, 5, 6, 7]⟩] false)
   .ret))
def d13 : DFn := ⟨1, 11, [.tmp 2], b13⟩
theorem body13 : d13.body = b13 := rfl
theorem res13 : d13.res = [.tmp 2] := rfl
theorem k13 : chkFn Try.prog Try.f13 d13 = true := by kernel_rfl

/-- guidevane/guidevanelaw01.Few -/
def b25 : DCode :=
 (.seq
  (.region [⟨(some 1), .box, [.t 0], none, []⟩,
    ⟨(some 2), .mov, [.c (.bool false)], none, []⟩] false)
  (.seq
   (.region [⟨(some 3), (.faddr 0 false 1), [.t 1], none, []⟩,
     ⟨(some 4), (.load false 1), [.t 3], none, [0]⟩,
     ⟨(some 5), .len, [.t 4], none, [1]⟩,
     ⟨(some 6), (.bin .leq), [.t 5, .c (.int .i64 12)], none, [2]⟩,
     ⟨(some 2), .mov, [.t 6], none, [3, 0, 1, 2, 3]⟩] false)
   .ret))
def d25 : DFn := ⟨1, 7, [.tmp 2], b25⟩
theorem body25 : d25.body = b25 := rfl
theorem res25 : d25.res = [.tmp 2] := rfl
theorem k25 : chkFn Try.prog Try.f25 d25 = true := by kernel_rfl

/-- guidevane/guidevanelaw01.short -/
def b26 : DCode :=
 (.seq
  (.region [⟨(some 2), .mov, [.c (.bool false)], none, []⟩] false)
  (.seq
   (.region [⟨(some 3), .mov, [.t 0], none, []⟩,
     ⟨(some 4), (.bin .leq), [.t 3, .c (.int .i64 24)], none, [0]⟩,
     ⟨(some 5), .mov, [.t 4], none, [1]⟩,
     ⟨(some 6), .mov, [.t 0], (some (5, false)), [2]⟩,
     ⟨(some 7), (.bin .gtr), [.t 6, .c (.int .i64 200)], (some (5, false)), [3, 2]⟩,
     ⟨(some 8), .mov, [.t 7], (some (5, false)), [4, 2, 2]⟩,
     ⟨(some 9), .mov, [.t 0], (some (8, true)), [5]⟩,
     ⟨(some 10), (.bin .leq), [.t 9, .c (.int .i64 202)], (some (8, true)), [6, 5]⟩,
     ⟨(some 11), .pick, [.t 8, .t 10, .c (.bool false)], (some (5, false)), [5, 7, 2]⟩,
     ⟨(some 12), .pick, [.t 5, .c (.bool true), .t 11], none, [2, 8]⟩,
     ⟨(some 2), .mov, [.t 12], none, [9, 5, 0, 1, 2, 3, 4, 5, 6, 7, 8, 9]⟩] false)
   .ret))
def d26 : DFn := ⟨1, 13, [.tmp 2], b26⟩
theorem body26 : d26.body = b26 := rfl
theorem res26 : d26.res = [.tmp 2] := rfl
theorem k26 : chkFn Try.prog Try.f26 d26 = true := by kernel_rfl

/-- guidevane/guidevanelaw01.small -/
def b48 : DCode :=
 (.seq
  (.region [⟨(some 1), .box, [.t 0], none, []⟩,
    ⟨(some 2), .mov, [.c (.bool false)], none, []⟩] false)
  (.seq
   (.region [⟨(some 3), (.load true 2), [.t 1], none, []⟩,
     ⟨(some 4), .call, [.f 92, .t 3], none, [0]⟩,
     ⟨(some 5), .mov, [.t 4], none, [1, 1]⟩,
     ⟨(some 6), (.load true 2), [.t 1], (some (5, true)), [2]⟩,
     ⟨(some 7), .call, [.f 93, .t 6], (some (5, true)), [3, 2, 2]⟩,
     ⟨(some 8), .pick, [.t 5, .t 7, .c (.bool false)], none, [2, 4]⟩,
     ⟨(some 2), .mov, [.t 8], none, [5, 4, 0, 1, 2, 3, 4, 5]⟩] false)
   .ret))
def d48 : DFn := ⟨1, 9, [.tmp 2], b48⟩
theorem body48 : d48.body = b48 := rfl
theorem res48 : d48.res = [.tmp 2] := rfl
theorem k48 : chkFn Try.prog Try.f48 d48 = true := by kernel_rfl

/-- guidevane/guidevanelaw01.Table -/
def b59 : DCode :=
 (.seq
  (.region [⟨(some 0), (.alloc [(.imm (.slc 2 []))]), [], none, []⟩] false)
  (.seq
   (.region [⟨(some 1), (.build [(.imm (.int .i64 0)), (.imm (.int .i64 0))] []), [], none, []⟩,
     ⟨(some 2), (.build [(.imm (.int .i64 0)), (.imm (.int .i64 0))] [(0, 1), (1, 1)]), [.c (.int .i64 100), .c (.int .i64 1000)], none, []⟩,
     ⟨(some 3), (.build [(.imm (.int .i64 0)), (.imm (.int .i64 0))] [(0, 1), (1, 1)]), [.c (.int .i64 200), .c (.int .i64 3000)], none, []⟩,
     ⟨(some 4), (.bsl 2), [.t 1, .t 2, .t 3], none, [0, 1, 2]⟩,
     ⟨(some 5), (.build [(.imm (.slc 2 []))] [(0, 1)]), [.t 4], none, [3]⟩,
     ⟨none, (.store 1), [.t 0, .t 5], none, [4, 0, 1, 2, 3, 4]⟩] false)
   .ret))
def d59 : DFn := ⟨0, 6, [.cell 0 true 1], b59⟩
theorem body59 : d59.body = b59 := rfl
theorem res59 : d59.res = [.cell 0 true 1] := rfl
theorem k59 : chkFn Try.prog Try.f59 d59 = true := by kernel_rfl

/-- guidevane/guidevanelaw01.Pair -/
def b60 : DCode :=
 (.seq
  (.region [⟨(some 0), (.alloc [(.imm (.slc 2 [])), (.imm (.slc 2 [])), (.imm (.int .i64 0))]), [], none, []⟩] false)
  (.seq
   (.region [⟨(some 1), .call, [.f 59], none, []⟩,
     ⟨(some 2), .call, [.f 59], none, [0]⟩,
     ⟨(some 3), (.build [(.imm (.slc 2 [])), (.imm (.slc 2 [])), (.imm (.int .i64 0))] [(0, 1), (1, 1), (2, 1)]), [.t 1, .t 2, .c (.int .i64 500)], none, [0, 1]⟩,
     ⟨none, (.store 3), [.t 0, .t 3], none, [2, 1, 0, 1, 2]⟩] false)
   .ret))
def d60 : DFn := ⟨0, 4, [.cell 0 true 3], b60⟩
theorem body60 : d60.body = b60 := rfl
theorem res60 : d60.res = [.cell 0 true 3] := rfl
theorem k60 : chkFn Try.prog Try.f60 d60 = true := by kernel_rfl

end Go.DI

/- Contracts: the statements' examples and limits. No condition. -/
set_option linter.unusedSimpArgs false
namespace Go.DI
open Go.Proofs Go.RowKit Lk

def tabA : List Kn := [(0, 0), (100, 1000), (200, 3000)]
def pairA : Pair := ⟨tabA, tabA, 500⟩

theorem l_Table : Contract Try.prog 59 [] (tabI tabA) := by
  refine contract_run Try.func59 k59 rfl ?_
  simp only [body59, b59, res59, knI, tabI, pieceI, pairI, lpI, stI, flI, rdI, rnI, getD_kn, ↓reduceIte, reduceCtorEq, Nat.reduceEqDiff, Nat.reduceAdd, Nat.reduceMul, Nat.reduceSub, Nat.reduceLeDiff, Nat.reduceBEq, Int.reduceToNat, Int.reduceLE, Int.reduceLT, Int.reduceEq, Int.reduceNe, di0, di1, di2, di3, di4, di5, di6, di7, di8, di9, postX_ret, postX_normal, ex_some]
  rfl
theorem l_Pair : Contract Try.prog 60 [] (lpI pairA) := by
  refine contract_run Try.func60 k60 rfl ?_
  simp only [body60, b60, res60, knI, tabI, pieceI, pairI, lpI, stI, flI, rdI, rnI, getD_kn, ↓reduceIte, reduceCtorEq, Nat.reduceEqDiff, Nat.reduceAdd, Nat.reduceMul, Nat.reduceSub, Nat.reduceLeDiff, Nat.reduceBEq, Int.reduceToNat, Int.reduceLE, Int.reduceLT, Int.reduceEq, Int.reduceNe, di0, di1, di2, di3, di4, di5, di6, di7, di8, di9, postX_ret, postX_normal, ex_some]
  refine calls_of l_Table ?_; simp only [knI, tabI, pieceI, pairI, lpI, stI, flI, rdI, rnI, getD_kn, res60, ↓reduceIte, reduceCtorEq, Nat.reduceEqDiff, Nat.reduceAdd, Nat.reduceMul, Nat.reduceSub, Nat.reduceLeDiff, Nat.reduceBEq, Int.reduceToNat, Int.reduceLE, Int.reduceLT, Int.reduceEq, Int.reduceNe, di0, di1, di2, di3, di4, di5, di6, di7, di8, di9, postX_ret, postX_normal, ex_some]
  refine calls_of l_Table ?_; simp only [knI, tabI, pieceI, pairI, lpI, stI, flI, rdI, rnI, getD_kn, res60, ↓reduceIte, reduceCtorEq, Nat.reduceEqDiff, Nat.reduceAdd, Nat.reduceMul, Nat.reduceSub, Nat.reduceLeDiff, Nat.reduceBEq, Int.reduceToNat, Int.reduceLE, Int.reduceLT, Int.reduceEq, Int.reduceNe, di0, di1, di2, di3, di4, di5, di6, di7, di8, di9, postX_ret, postX_normal, ex_some]
  rfl

theorem l_Few {l : List Kn} : Contract Try.prog 25 [tabI l] (.bool (decide (l.length ≤ 12))) := by
  refine contract_run Try.func25 k25 rfl ?_
  simp only [body25, b25, res25, knI, tabI, pieceI, pairI, lpI, stI, flI, rdI, rnI, getD_kn, ↓reduceIte, reduceCtorEq, Nat.reduceEqDiff, Nat.reduceAdd, Nat.reduceMul, Nat.reduceSub, Nat.reduceLeDiff, Nat.reduceBEq, Int.reduceToNat, Int.reduceLE, Int.reduceLT, Int.reduceEq, Int.reduceNe, di0, di1, di2, di3, di4, di5, di6, di7, di8, di9, postX_ret, postX_normal, ex_some]
  congr 3
  apply propext; omega
theorem l_FewPair {p : Pair} : Contract Try.prog 13 [lpI p] (.bool (decide (p.u.length ≤ 12 ∧ p.l.length ≤ 12))) := by
  refine contract_run Try.func13 k13 rfl ?_
  simp only [body13, b13, res13, knI, tabI, pieceI, pairI, lpI, stI, flI, rdI, rnI, getD_kn, ↓reduceIte, reduceCtorEq, Nat.reduceEqDiff, Nat.reduceAdd, Nat.reduceMul, Nat.reduceSub, Nat.reduceLeDiff, Nat.reduceBEq, Int.reduceToNat, Int.reduceLE, Int.reduceLT, Int.reduceEq, Int.reduceNe, di0, di1, di2, di3, di4, di5, di6, di7, di8, di9, postX_ret, postX_normal, ex_some]
  refine calls_of l_Few ?_; simp only [knI, tabI, pieceI, pairI, lpI, stI, flI, rdI, rnI, getD_kn, res13, ↓reduceIte, reduceCtorEq, Nat.reduceEqDiff, Nat.reduceAdd, Nat.reduceMul, Nat.reduceSub, Nat.reduceLeDiff, Nat.reduceBEq, Int.reduceToNat, Int.reduceLE, Int.reduceLT, Int.reduceEq, Int.reduceNe, di0, di1, di2, di3, di4, di5, di6, di7, di8, di9, postX_ret, postX_normal, ex_some]
  split
  · rename_i h
    refine calls_of l_Few ?_; simp only [knI, tabI, pieceI, pairI, lpI, stI, flI, rdI, rnI, getD_kn, res13, ↓reduceIte, reduceCtorEq, Nat.reduceEqDiff, Nat.reduceAdd, Nat.reduceMul, Nat.reduceSub, Nat.reduceLeDiff, Nat.reduceBEq, Int.reduceToNat, Int.reduceLE, Int.reduceLT, Int.reduceEq, Int.reduceNe, di0, di1, di2, di3, di4, di5, di6, di7, di8, di9, postX_ret, postX_normal, ex_some]
    simp [h]
  · rename_i h
    simp [h]
theorem l_short {n : Int} : Contract Try.prog 26 [.int .i64 n] (.bool (decide (n ≤ 24 ∨ 200 < n ∧ n ≤ 202))) := by
  refine contract_run Try.func26 k26 rfl ?_
  simp only [body26, b26, res26, knI, tabI, pieceI, pairI, lpI, stI, flI, rdI, rnI, getD_kn, ↓reduceIte, reduceCtorEq, Nat.reduceEqDiff, Nat.reduceAdd, Nat.reduceMul, Nat.reduceSub, Nat.reduceLeDiff, Nat.reduceBEq, Int.reduceToNat, Int.reduceLE, Int.reduceLT, Int.reduceEq, Int.reduceNe, di0, di1, di2, di3, di4, di5, di6, di7, di8, di9, postX_ret, postX_normal, ex_some]
  split
  · rename_i h
    simp [h]
  · rename_i h
    split
    · rename_i h2; simp [h, h2]
    · rename_i h2; simp [h, h2]

theorem sm_A : Sm pairA := ⟨by decide, by decide⟩

theorem l_awake : Contract Try.prog 12 [] (.bool true) := by
  have h1 : Contract Try.prog 36 [tabI tabA, .int .i64 1501] (.tup [.agg [.int .i64 125, .int .i64 126], .int .i64 0]) := by
    have h := p_LevelAt (l := tabA) (v := 1501) (by decide)
    rw [if_pos (by decide), if_pos (by decide), show levLo tabA 1501 = 125 by decide, show levHi tabA 1501 = 126 by decide] at h
    exact h
  have h2 : Contract Try.prog 18 [lpI pairA, stI (2950, 500), flI ⟨0, 0, 200⟩] (.tup [.agg [.int .i64 3000, .int .i64 295], .agg [.int .i64 15, .int .i64 140], .int .i64 0]) := by
    have h := p_Step (p := pairA) (s := (2950, 500)) (x := ⟨0, 0, 200⟩) sm_A
    rw [show stepO pairA (2950, 500) ⟨0, 0, 200⟩ = ((3000, 295), (15, 140), 0) by decide] at h
    exact h
  have h3 : Contract Try.prog 17 [lpI pairA, stI (2950, 500)] (.tup [.agg [.int .i64 2500, .int .i64 50], .int .i64 0]) := by
    have h := p_Usable (p := pairA) (s := (2950, 500)) sm_A
    rw [if_pos (by decide)] at h
    exact h
  have h4 : Contract Try.prog 27 [tabI tabA, .slc 1 [.int .i64 10, .int .i64 20], .slc 3 [.agg [.int .i64 0, .int .i64 50, .int .i64 52], .agg [.int .i64 2, .int .i64 54, .int .i64 55]]] (.tup [.agg [.int .i64 510, .int .i64 520], .int .i64 0]) := by
    have h := p_AgreedOf (l := tabA) (net := [10, 20]) (rs := [⟨0, 50, 52⟩, ⟨2, 54, 55⟩]) (by decide) (by decide)
    rw [if_pos (by decide), if_pos (by decide), show meets ([(⟨0, 50, 52⟩ : Rdg), ⟨2, 54, 55⟩].map (perm tabA [10, 20])) ([(⟨0, 50, 52⟩ : Rdg), ⟨2, 54, 55⟩].length - 1) = (510, 520) by decide] at h
    exact h
  refine contract_run Try.func12 k12 rfl ?_
  simp only [body12, b12, res12, knI, tabI, pieceI, pairI, lpI, stI, flI, rdI, rnI, getD_kn, ↓reduceIte, reduceCtorEq, Nat.reduceEqDiff, Nat.reduceAdd, Nat.reduceMul, Nat.reduceSub, Nat.reduceLeDiff, Nat.reduceBEq, Int.reduceToNat, Int.reduceLE, Int.reduceLT, Int.reduceEq, Int.reduceNe, di0, di1, di2, di3, di4, di5, di6, di7, di8, di9, postX_ret, postX_normal, ex_some]
  refine calls_of l_Table ?_; simp only [knI, tabI, pieceI, pairI, lpI, stI, flI, rdI, rnI, getD_kn, res12, ↓reduceIte, reduceCtorEq, Nat.reduceEqDiff, Nat.reduceAdd, Nat.reduceMul, Nat.reduceSub, Nat.reduceLeDiff, Nat.reduceBEq, Int.reduceToNat, Int.reduceLE, Int.reduceLT, Int.reduceEq, Int.reduceNe, di0, di1, di2, di3, di4, di5, di6, di7, di8, di9, postX_ret, postX_normal, ex_some]
  refine calls_of h1 ?_; simp only [knI, tabI, pieceI, pairI, lpI, stI, flI, rdI, rnI, getD_kn, res12, ↓reduceIte, reduceCtorEq, Nat.reduceEqDiff, Nat.reduceAdd, Nat.reduceMul, Nat.reduceSub, Nat.reduceLeDiff, Nat.reduceBEq, Int.reduceToNat, Int.reduceLE, Int.reduceLT, Int.reduceEq, Int.reduceNe, di0, di1, di2, di3, di4, di5, di6, di7, di8, di9, postX_ret, postX_normal, ex_some]
  refine calls_of l_Pair ?_; simp only [knI, tabI, pieceI, pairI, lpI, stI, flI, rdI, rnI, getD_kn, res12, ↓reduceIte, reduceCtorEq, Nat.reduceEqDiff, Nat.reduceAdd, Nat.reduceMul, Nat.reduceSub, Nat.reduceLeDiff, Nat.reduceBEq, Int.reduceToNat, Int.reduceLE, Int.reduceLT, Int.reduceEq, Int.reduceNe, di0, di1, di2, di3, di4, di5, di6, di7, di8, di9, postX_ret, postX_normal, ex_some]
  refine calls_of h2 ?_; simp only [knI, tabI, pieceI, pairI, lpI, stI, flI, rdI, rnI, getD_kn, res12, ↓reduceIte, reduceCtorEq, Nat.reduceEqDiff, Nat.reduceAdd, Nat.reduceMul, Nat.reduceSub, Nat.reduceLeDiff, Nat.reduceBEq, Int.reduceToNat, Int.reduceLE, Int.reduceLT, Int.reduceEq, Int.reduceNe, di0, di1, di2, di3, di4, di5, di6, di7, di8, di9, postX_ret, postX_normal, ex_some]
  refine calls_of l_Pair ?_; simp only [knI, tabI, pieceI, pairI, lpI, stI, flI, rdI, rnI, getD_kn, res12, ↓reduceIte, reduceCtorEq, Nat.reduceEqDiff, Nat.reduceAdd, Nat.reduceMul, Nat.reduceSub, Nat.reduceLeDiff, Nat.reduceBEq, Int.reduceToNat, Int.reduceLE, Int.reduceLT, Int.reduceEq, Int.reduceNe, di0, di1, di2, di3, di4, di5, di6, di7, di8, di9, postX_ret, postX_normal, ex_some]
  refine calls_of h3 ?_; simp only [knI, tabI, pieceI, pairI, lpI, stI, flI, rdI, rnI, getD_kn, res12, ↓reduceIte, reduceCtorEq, Nat.reduceEqDiff, Nat.reduceAdd, Nat.reduceMul, Nat.reduceSub, Nat.reduceLeDiff, Nat.reduceBEq, Int.reduceToNat, Int.reduceLE, Int.reduceLT, Int.reduceEq, Int.reduceNe, di0, di1, di2, di3, di4, di5, di6, di7, di8, di9, postX_ret, postX_normal, ex_some]
  refine calls_of l_Table ?_; simp only [knI, tabI, pieceI, pairI, lpI, stI, flI, rdI, rnI, getD_kn, res12, ↓reduceIte, reduceCtorEq, Nat.reduceEqDiff, Nat.reduceAdd, Nat.reduceMul, Nat.reduceSub, Nat.reduceLeDiff, Nat.reduceBEq, Int.reduceToNat, Int.reduceLE, Int.reduceLT, Int.reduceEq, Int.reduceNe, di0, di1, di2, di3, di4, di5, di6, di7, di8, di9, postX_ret, postX_normal, ex_some]
  refine calls_of h4 ?_; simp only [knI, tabI, pieceI, pairI, lpI, stI, flI, rdI, rnI, getD_kn, res12, ↓reduceIte, reduceCtorEq, Nat.reduceEqDiff, Nat.reduceAdd, Nat.reduceMul, Nat.reduceSub, Nat.reduceLeDiff, Nat.reduceBEq, Int.reduceToNat, Int.reduceLE, Int.reduceLT, Int.reduceEq, Int.reduceNe, di0, di1, di2, di3, di4, di5, di6, di7, di8, di9, postX_ret, postX_normal, ex_some]
end Go.DI

