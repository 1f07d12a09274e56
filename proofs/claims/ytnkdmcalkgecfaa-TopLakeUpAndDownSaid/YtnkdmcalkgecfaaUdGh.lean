/- The functions of the lakes, as data. No condition. -/
import Derived.Test.YtnkdmcalkgecfaaUdGe
import Derived.Test.YtnkdmcalkgecfaaProg
import Derived.KernelRfl
/- The functions of the lakes, of their reference and of the statements, as data. No condition. -/
namespace Go.DI
open Go.Proofs Go.RowKit
def b13k0 : DCode :=
 (.seq
  (.region [⟨(some 31), (.load true 3), [.t 9], none, []⟩,
    ⟨(some 32), (.load true 2), [.t 4], none, []⟩,
    ⟨(some 33), (.load true 3), [.t 5], none, []⟩,
    ⟨(some 34), .call, [.f 25, .t 31, .t 32, .t 33], none, [0, 1, 2]⟩,
    ⟨(some 30), .mov, [.t 34], none, [3]⟩,
    ⟨(some 35), (.ext 0), [.t 30], none, [4]⟩,
    ⟨(some 36), (.ext 1), [.t 30], none, [4]⟩,
    ⟨(some 37), (.ext 2), [.t 30], none, [4]⟩,
    ⟨(some 11), (.alloc [(.imm (.int .i64 0)), (.imm (.int .i64 0))]), [], none, []⟩,
    ⟨(some 12), (.alloc [(.imm (.int .i64 0)), (.imm (.int .i64 0))]), [], none, []⟩,
    ⟨none, (.store 2), [.t 11, .t 35], none, [8, 5, 3, 0, 1, 2, 3, 4, 5, 8, 9]⟩,
    ⟨none, (.store 2), [.t 12, .t 36], none, [9, 6, 10, 0, 1, 2, 3, 4, 5, 6, 8, 9, 10]⟩,
    ⟨(some 13), .mov, [.t 37], none, [7, 11, 0, 1, 2, 3, 4, 5, 6, 7, 8, 9, 10, 11]⟩] false)
  (.seq
   (.region [⟨(some 38), (.loadf true 2 [11]), [.t 11], none, []⟩,
     ⟨(some 39), (.loadf true 2 [12]), [.t 12], none, []⟩,
     ⟨(some 40), .mov, [.t 13], none, []⟩,
     ⟨(some 41), .call, [.f 31, .t 40, .c (.int .i64 22)], none, [2]⟩,
     ⟨none, (.storef 2 [6]), [.t 6, .t 38], none, [0, 3, 0]⟩,
     ⟨none, (.storef 2 [7]), [.t 7, .t 39], none, [1, 4, 0, 1, 4]⟩,
     ⟨(some 8), .mov, [.t 41], none, [3, 5, 0, 1, 2, 3, 4, 5]⟩] true)
   .ret))
def b13 : DCode :=
 (.seq
  (.region [⟨(some 3), .box, [.t 0], none, []⟩,
    ⟨(some 4), .box, [.t 1], none, []⟩,
    ⟨(some 5), .box, [.t 2], none, []⟩,
    ⟨(some 6), (.alloc [(.imm (.int .i64 0)), (.imm (.int .i64 0))]), [], none, []⟩,
    ⟨(some 7), (.alloc [(.imm (.int .i64 0)), (.imm (.int .i64 0))]), [], none, []⟩,
    ⟨(some 8), .mov, [.c (.int .i64 0)], none, []⟩] false)
  (.seq
   (.region [⟨(some 15), (.load true 3), [.t 3], none, []⟩,
     ⟨(some 16), (.load true 2), [.t 4], none, []⟩,
     ⟨(some 17), .call, [.f 22, .t 15, .t 16], none, [0, 1]⟩,
     ⟨(some 14), .mov, [.t 17], none, [2]⟩,
     ⟨(some 18), (.ext 0), [.t 14], none, [3]⟩,
     ⟨(some 19), (.ext 1), [.t 14], none, [3]⟩,
     ⟨(some 9), (.alloc [(.imm (.slc 2 [])), (.imm (.slc 2 [])), (.imm (.int .i64 0))]), [], none, []⟩,
     ⟨none, (.store 3), [.t 9, .t 18], none, [6, 4, 2, 0, 1, 2, 3, 4, 6]⟩,
     ⟨(some 10), .mov, [.t 19], none, [5, 7, 0, 1, 2, 3, 4, 5, 6, 7]⟩] false)
   (.seq
    (.seq
     (.region [⟨(some 20), .mov, [.t 10], none, []⟩,
       ⟨(some 21), (.load true 3), [.t 5], none, []⟩,
       ⟨(some 22), .call, [.f 30, .t 21], none, [1]⟩,
       ⟨(some 23), (.bsl 1), [.t 20, .t 22], none, [0, 2]⟩,
       ⟨(some 24), .call, [.f 23, .t 23], none, [3, 2]⟩,
       ⟨(some 10), .mov, [.t 24], none, [4, 4, 0, 1, 2, 3, 4]⟩] false)
     (.seq
      (.region [⟨(some 25), .mov, [.t 10], none, []⟩,
        ⟨(some 26), (.bin .neq), [.t 25, .c (.int .i64 0)], none, [0]⟩] false)
      (.cond (.t 26)
       (.seq
        (.region [⟨(some 27), (.build [(.imm (.int .i64 0)), (.imm (.int .i64 0))] []), [], none, []⟩,
          ⟨(some 28), (.build [(.imm (.int .i64 0)), (.imm (.int .i64 0))] []), [], none, []⟩,
          ⟨(some 29), .mov, [.t 10], none, []⟩,
          ⟨none, (.store 2), [.t 6, .t 27], none, [0, 0]⟩,
          ⟨none, (.store 2), [.t 7, .t 28], none, [1, 3, 0, 1, 3]⟩,
          ⟨(some 8), .mov, [.t 29], none, [2, 4, 0, 1, 2, 3, 4]⟩] false)
        .ret)
       .skip)))
    (.keep [4, 5, 6, 7, 9] [4, 5, 6, 7, 9] b13k0))))
def d13 : DFn := ⟨3, 42, [.cell 6 true 2, .cell 7 true 2, .tmp 8], b13⟩
theorem body13 : d13.body = b13 := rfl
theorem res13 : d13.res = [.cell 6 true 2, .cell 7 true 2, .tmp 8] := rfl
theorem k13 : chkFn Try.prog Try.f13 d13 = true := by kernel_rfl

def b58 : DCode :=
 (.seq
  (.region [⟨(some 1), .box, [.t 0], none, []⟩,
    ⟨(some 2), .mov, [.c (.int .i64 0)], none, []⟩] false)
  (.seq
   (.region [⟨(some 3), (.faddr 0 true 1), [.t 1], none, []⟩,
     ⟨(some 4), (.load true 1), [.t 3], none, [0]⟩,
     ⟨(some 5), .call, [.f 49, .t 4], none, [1]⟩,
     ⟨(some 6), (.faddr 1 true 1), [.t 1], none, []⟩,
     ⟨(some 7), (.load true 1), [.t 6], none, [3]⟩,
     ⟨(some 8), .call, [.f 49, .t 7], none, [4, 2]⟩,
     ⟨(some 9), (.faddr 2 false 1), [.t 1], none, []⟩,
     ⟨(some 10), (.load false 1), [.t 9], none, [6]⟩,
     ⟨(some 11), .call, [.f 48, .t 10, .c (.int .i64 0), .c (.int .i64 1000)], none, [7, 5]⟩,
     ⟨(some 12), .call, [.f 31, .t 11, .c (.int .i64 2)], none, [8, 8]⟩,
     ⟨(some 13), (.bsl 1), [.t 5, .t 8, .t 12], none, [2, 5, 9]⟩,
     ⟨(some 14), .call, [.f 23, .t 13], none, [10, 9]⟩,
     ⟨(some 2), .mov, [.t 14], none, [11, 11, 0, 1, 2, 3, 4, 5, 6, 7, 8, 9, 10, 11]⟩] true)
   .ret))
def d58 : DFn := ⟨1, 15, [.tmp 2], b58⟩
theorem body58 : d58.body = b58 := rfl
theorem res58 : d58.res = [.tmp 2] := rfl
theorem k58 : chkFn Try.prog Try.f58 d58 = true := by kernel_rfl

def b15k0 : DCode :=
 (.seq
  (.region [⟨(some 19), (.load true 1), [.t 6], none, []⟩,
    ⟨(some 20), .mov, [.t 1], none, []⟩,
    ⟨(some 21), .call, [.f 33, .t 19, .t 20], none, [0, 1]⟩,
    ⟨(some 8), (.alloc [(.imm (.int .i64 0)), (.imm (.int .i64 0)), (.imm (.int .i64 0))]), [], none, []⟩,
    ⟨none, (.store 3), [.t 8, .t 21], none, [3, 2, 2, 0, 1, 2, 3]⟩] false)
  (.seq
   (.region [⟨(some 22), (.faddr 0 false 1), [.t 8], none, []⟩,
     ⟨(some 23), (.load false 1), [.t 22], none, [0]⟩,
     ⟨(some 24), (.faddr 0 false 1), [.t 8], none, []⟩,
     ⟨(some 25), (.load false 1), [.t 24], none, [2]⟩,
     ⟨(some 26), (.faddr 1 false 1), [.t 8], none, []⟩,
     ⟨(some 27), (.load false 1), [.t 26], none, [4]⟩,
     ⟨(some 28), (.mm false), [.t 27, .c (.int .i64 1)], none, [5]⟩,
     ⟨(some 29), (.bin .add), [.t 25, .t 28], none, [3, 6]⟩,
     ⟨(some 30), (.build [(.imm (.int .i64 0)), (.imm (.int .i64 0))] [(0, 1), (1, 1)]), [.t 23, .t 29], none, [1, 7]⟩,
     ⟨none, (.store 2), [.t 4, .t 30], none, [8, 0, 1, 2, 3, 4, 5, 6, 7, 8]⟩,
     ⟨(some 5), .mov, [.c (.int .i64 0)], none, [9, 0, 1, 2, 3, 4, 5, 6, 7, 8, 9]⟩] false)
   .ret))
def b15 : DCode :=
 (.seq
  (.region [⟨(some 2), .box, [.t 0], none, []⟩,
    ⟨(some 4), (.alloc [(.imm (.int .i64 0)), (.imm (.int .i64 0))]), [], none, []⟩,
    ⟨(some 5), .mov, [.c (.int .i64 0)], none, []⟩] false)
  (.seq
   (.region [⟨(some 10), (.load true 1), [.t 2], none, []⟩,
     ⟨(some 11), .mov, [.t 1], none, []⟩,
     ⟨(some 12), .call, [.f 32, .t 10, .t 11], none, [0, 1]⟩,
     ⟨(some 9), .mov, [.t 12], none, [2]⟩,
     ⟨(some 13), (.ext 0), [.t 9], none, [3]⟩,
     ⟨(some 14), (.ext 1), [.t 9], none, [3]⟩,
     ⟨(some 6), (.alloc [(.imm (.slc 2 []))]), [], none, []⟩,
     ⟨none, (.store 1), [.t 6, .t 13], none, [6, 4, 2, 0, 1, 2, 3, 4, 6]⟩,
     ⟨(some 7), .mov, [.t 14], none, [5, 7, 0, 1, 2, 3, 4, 5, 6, 7]⟩] false)
   (.seq
    (.seq
     (.region [⟨(some 15), .mov, [.t 7], none, []⟩,
       ⟨(some 16), (.bin .neq), [.t 15, .c (.int .i64 0)], none, [0]⟩] false)
     (.cond (.t 16)
      (.seq
       (.region [⟨(some 17), (.build [(.imm (.int .i64 0)), (.imm (.int .i64 0))] []), [], none, []⟩,
         ⟨(some 18), .mov, [.t 7], none, []⟩,
         ⟨none, (.store 2), [.t 4, .t 17], none, [0, 0]⟩,
         ⟨(some 5), .mov, [.t 18], none, [1, 2, 0, 1, 2]⟩] false)
       .ret)
      .skip))
    (.keep [1, 4, 6] [4, 6] b15k0))))
def d15 : DFn := ⟨2, 31, [.cell 4 true 2, .tmp 5], b15⟩
theorem body15 : d15.body = b15 := rfl
theorem res15 : d15.res = [.cell 4 true 2, .tmp 5] := rfl
theorem k15 : chkFn Try.prog Try.f15 d15 = true := by kernel_rfl

def b63k0 : DCode :=
 (.seq
  (.region [⟨(some 61), .mov, [.t 5], none, []⟩,
    ⟨(some 62), (.bin .gtr), [.t 61, .c (.int .i64 1)], none, [0]⟩,
    ⟨(some 63), .mov, [.t 62], none, [1]⟩,
    ⟨(some 64), (.load true 4), [.t 7], (some (63, true)), [2]⟩,
    ⟨(some 65), (.faddr 0 false 1), [.t 1], (some (63, true)), [2]⟩,
    ⟨(some 66), (.load false 1), [.t 65], (some (63, true)), [4, 2]⟩,
    ⟨(some 67), .mov, [.t 5], (some (63, true)), [2]⟩,
    ⟨(some 68), (.bin .sub), [.t 67, .c (.int .i64 2)], (some (63, true)), [6, 2]⟩,
    ⟨(some 69), (.iaddr 2), [.t 66, .t 68], (some (63, true)), [5, 7, 2]⟩,
    ⟨(some 70), (.load true 2), [.t 69], (some (63, true)), [8, 2]⟩,
    ⟨(some 71), (.faddr 0 false 1), [.t 1], (some (63, true)), [2]⟩,
    ⟨(some 72), (.load false 1), [.t 71], (some (63, true)), [10, 2]⟩,
    ⟨(some 73), .mov, [.t 5], (some (63, true)), [2]⟩,
    ⟨(some 74), (.bin .sub), [.t 73, .c (.int .i64 1)], (some (63, true)), [12, 2]⟩,
    ⟨(some 75), (.iaddr 2), [.t 72, .t 74], (some (63, true)), [11, 13, 2]⟩,
    ⟨(some 76), (.load true 2), [.t 75], (some (63, true)), [14, 2]⟩,
    ⟨(some 77), (.build [(.imm (.int .i64 0)), (.imm (.int .i64 0)), (.imm (.int .i64 0)), (.imm (.int .i64 0))] [(0, 2), (2, 2)]), [.t 70, .t 76], (some (63, true)), [9, 15, 2]⟩,
    ⟨(some 78), .call, [.f 70, .t 64, .t 77], (some (63, true)), [3, 16, 2, 2]⟩,
    ⟨(some 79), .pick, [.t 63, .t 78, .c (.bool false)], none, [2, 17]⟩] true)
  (.cond (.t 79)
   (.seq
    (.region [⟨(some 80), .mov, [.t 5], none, []⟩,
      ⟨(some 2), .mov, [.t 80], none, [0, 0]⟩,
      ⟨(some 3), .mov, [.c (.int .i64 22)], none, [1, 0, 1]⟩] false)
    .ret)
   .skip))
def b63k1 : DCode :=
 (.seq
  (.region [⟨(some 44), (.faddr 0 false 1), [.t 1], none, []⟩,
    ⟨(some 45), (.load false 1), [.t 44], none, [0]⟩,
    ⟨(some 46), .mov, [.t 5], none, []⟩,
    ⟨(some 47), (.bin .sub), [.t 46, .c (.int .i64 1)], none, [2]⟩,
    ⟨(some 48), (.iaddr 2), [.t 45, .t 47], none, [1, 3]⟩,
    ⟨(some 49), (.load true 2), [.t 48], none, [4]⟩,
    ⟨(some 50), (.load true 2), [.t 6], none, []⟩,
    ⟨(some 51), (.build [(.imm (.int .i64 0)), (.imm (.int .i64 0)), (.imm (.int .i64 0)), (.imm (.int .i64 0))] [(0, 2), (2, 2)]), [.t 49, .t 50], none, [5, 6]⟩,
    ⟨(some 7), (.alloc [(.imm (.int .i64 0)), (.imm (.int .i64 0)), (.imm (.int .i64 0)), (.imm (.int .i64 0))]), [], none, []⟩,
    ⟨none, (.store 4), [.t 7, .t 51], none, [8, 7, 0, 1, 2, 3, 4, 5, 6, 7, 8]⟩] true)
  (.seq
   (.seq
    (.region [⟨(some 52), (.load true 4), [.t 7], none, []⟩,
      ⟨(some 53), .call, [.f 52, .t 52], none, [0]⟩,
      ⟨(some 54), (.bin .leq), [.t 53, .c (.int .i64 0)], none, [1]⟩,
      ⟨(some 55), .mov, [.t 54], none, [2, 1]⟩,
      ⟨(some 56), (.load true 4), [.t 7], (some (55, false)), [3]⟩,
      ⟨(some 57), .call, [.f 53, .t 56], (some (55, false)), [4, 3, 3]⟩,
      ⟨(some 58), (.bin .leq), [.t 57, .c (.int .i64 0)], (some (55, false)), [5, 3]⟩,
      ⟨(some 59), .pick, [.t 55, .c (.bool true), .t 58], none, [3, 6]⟩] false)
    (.cond (.t 59)
     (.seq
      (.region [⟨(some 60), .mov, [.t 5], none, []⟩,
        ⟨(some 2), .mov, [.t 60], none, [0, 0]⟩,
        ⟨(some 3), .mov, [.c (.int .i64 9)], none, [1, 0, 1]⟩] false)
      .ret)
     .skip))
   (.keep [1, 5, 7, 24, 25, 26] [1, 7] b63k0)))
def b63k2 : DCode :=
 (.seq
  (.seq
   (.region [⟨(some 42), .mov, [.t 5], none, []⟩,
     ⟨(some 43), (.bin .eql), [.t 42, .c (.int .i64 0)], none, [0]⟩] false)
   (.cond (.t 43)
    (.exit 1)
    .skip))
  (.keep [1, 5, 6, 24, 25, 26] [1, 6] b63k1))
def b63k3 : DCode :=
 (.region [⟨(some 81), (.bin .add), [.t 26, .c (.int .i64 1)], none, []⟩,
   ⟨(some 26), .mov, [.t 81], none, [0]⟩] false)
def b63k4 : DCode :=
 (.seq
  (.block 1
   (.seq
    (.region [⟨(some 28), .mov, [.t 26], none, []⟩,
      ⟨(some 29), (.iaddr 2), [.t 24, .t 26], none, []⟩,
      ⟨(some 30), (.load true 2), [.t 29], none, [1]⟩,
      ⟨(some 6), (.alloc [(.imm (.int .i64 0)), (.imm (.int .i64 0))]), [], none, []⟩,
      ⟨(some 5), .mov, [.t 28], none, [0, 0, 1, 2, 3]⟩,
      ⟨none, (.store 2), [.t 6, .t 30], none, [3, 2, 4, 0, 1, 2, 3, 4]⟩] false)
    (.seq
     (.seq
      (.region [⟨(some 31), (.faddr 0 false 1), [.t 6], none, []⟩,
        ⟨(some 32), (.load false 1), [.t 31], none, [0]⟩,
        ⟨(some 33), .call, [.f 48, .t 32, .c (.int .i64 0), .c (.int .i64 1000000)], none, [1]⟩,
        ⟨(some 34), (.un .not), [.t 33], none, [2]⟩,
        ⟨(some 35), .mov, [.t 34], none, [3, 2]⟩,
        ⟨(some 36), (.faddr 1 false 1), [.t 6], (some (35, false)), [4]⟩,
        ⟨(some 37), (.load false 1), [.t 36], (some (35, false)), [5, 4]⟩,
        ⟨(some 38), .call, [.f 48, .t 37, .c (.int .i64 0), .c (.int .i64 1000000000)], (some (35, false)), [6, 4, 4]⟩,
        ⟨(some 39), (.un .not), [.t 38], (some (35, false)), [7, 4]⟩,
        ⟨(some 40), .pick, [.t 35, .c (.bool true), .t 39], none, [4, 8]⟩] false)
      (.cond (.t 40)
       (.seq
        (.region [⟨(some 41), .mov, [.t 5], none, []⟩,
          ⟨(some 2), .mov, [.t 41], none, [0, 0]⟩,
          ⟨(some 3), .mov, [.c (.int .i64 2)], none, [1, 0, 1]⟩] false)
        .ret)
       .skip))
     (.keep [1, 5, 6, 24, 25, 26] [1, 6] b63k2))))
  (.keep [1, 24, 25, 26] [1] b63k3))
def b63l0 : DCode := .keep [1, 24, 25, 26] [1]
  (.seq
   (.region [⟨(some 27), (.bin .lss), [.t 26, .t 25], none, []⟩] false)
   (.seq
    (.cond (.t 27)
     .skip
     (.exit 0))
    (.keep [1, 24, 25, 26] [1] b63k4)))
def b63k5 : DCode :=
 (.seq
  (.region [⟨(some 2), .mov, [.c (.int .i64 0)], none, []⟩,
    ⟨(some 3), .mov, [.c (.int .i64 0)], none, [0, 0]⟩] false)
  .ret)
def b63k6 : DCode :=
 (.seq
  (.seq
   (.region [⟨(some 23), (.faddr 0 false 1), [.t 1], none, []⟩,
     ⟨(some 24), (.load false 1), [.t 23], none, [0]⟩,
     ⟨(some 25), .len, [.t 24], none, [1]⟩,
     ⟨(some 26), .mov, [.c (.int .i64 0)], none, []⟩] false)
   (.block 0
    (.loop b63l0)))
  (.keep [] [] b63k5))
def b63 : DCode :=
 (.seq
  (.region [⟨(some 1), .box, [.t 0], none, []⟩,
    ⟨(some 2), .mov, [.c (.int .i64 0)], none, []⟩,
    ⟨(some 3), .mov, [.c (.int .i64 0)], none, [1]⟩] false)
  (.seq
   (.seq
    (.region [⟨(some 8), (.faddr 0 false 1), [.t 1], none, []⟩,
      ⟨(some 9), (.load false 1), [.t 8], none, [0]⟩,
      ⟨(some 10), .len, [.t 9], none, [1]⟩,
      ⟨(some 11), (.bin .gtr), [.t 10, .c (.int .i64 1)], none, [2]⟩,
      ⟨(some 12), .call, [.f 31, .t 11, .c (.int .i64 10)], none, [3]⟩,
      ⟨(some 13), (.faddr 0 false 1), [.t 1], none, []⟩,
      ⟨(some 14), (.load false 1), [.t 13], none, [5]⟩,
      ⟨(some 15), .len, [.t 14], none, [6]⟩,
      ⟨(some 16), (.bin .leq), [.t 15, .c (.int .i64 10)], none, [7]⟩,
      ⟨(some 17), .call, [.f 31, .t 16, .c (.int .i64 8)], none, [8, 4]⟩,
      ⟨(some 18), (.bsl 1), [.t 12, .t 17], none, [4, 9]⟩,
      ⟨(some 19), .call, [.f 23, .t 18], none, [10, 9]⟩,
      ⟨(some 4), .mov, [.t 19], none, [11, 11, 0, 1, 2, 3, 4, 5, 6, 7, 8, 9, 10, 11]⟩] true)
    (.seq
     (.region [⟨(some 20), .mov, [.t 4], none, []⟩,
       ⟨(some 21), (.bin .neq), [.t 20, .c (.int .i64 0)], none, [0]⟩] false)
     (.cond (.t 21)
      (.seq
       (.region [⟨(some 22), .mov, [.t 4], none, []⟩,
         ⟨(some 2), .mov, [.c (.int .i64 0)], none, []⟩,
         ⟨(some 3), .mov, [.t 22], none, [0, 1, 0, 1]⟩] false)
       .ret)
      .skip)))
   (.keep [1] [1] b63k6)))
def d63 : DFn := ⟨1, 82, [.tmp 2, .tmp 3], b63⟩
theorem body63 : d63.body = b63 := rfl
theorem res63 : d63.res = [.tmp 2, .tmp 3] := rfl
theorem k63 : chkFn Try.prog Try.f63 d63 = true := by kernel_rfl

def b8k0 : DCode :=
 (.seq
  (.region [⟨(some 50), .mov, [.t 11], none, []⟩,
    ⟨(some 51), (.load true 2), [.t 15], none, []⟩,
    ⟨(some 52), (.bsl 2), [.t 51], none, [1]⟩,
    ⟨(some 53), (.append 2 16 false), [.t 50, .t 52], none, [0, 2]⟩,
    ⟨(some 11), .mov, [.t 53], none, [3, 3, 0, 1, 2, 3]⟩] false)
  (.seq
   (.region [⟨(some 54), (.faddr 0 false 1), [.t 12], none, []⟩,
     ⟨(some 55), (.load false 1), [.t 54], none, [0]⟩,
     ⟨(some 56), (.faddr 0 false 1), [.t 16], none, []⟩,
     ⟨(some 57), (.load false 1), [.t 56], none, [2]⟩,
     ⟨(some 58), (.bin .add), [.t 55, .t 57], none, [1, 3]⟩,
     ⟨(some 59), (.faddr 1 false 1), [.t 12], none, []⟩,
     ⟨(some 60), (.load false 1), [.t 59], none, [5]⟩,
     ⟨(some 61), (.faddr 1 false 1), [.t 16], none, []⟩,
     ⟨(some 62), (.load false 1), [.t 61], none, [7]⟩,
     ⟨(some 63), (.bin .add), [.t 60, .t 62], none, [6, 8]⟩,
     ⟨(some 64), (.build [(.imm (.int .i64 0)), (.imm (.int .i64 0))] [(0, 1), (1, 1)]), [.t 58, .t 63], none, [4, 9]⟩,
     ⟨none, (.store 2), [.t 12, .t 64], none, [10, 0, 1, 2, 3, 4, 5, 6, 7, 8, 9, 10]⟩] false)
   (.region [⟨(some 65), (.load true 2), [.t 15], none, []⟩,
     ⟨none, (.store 2), [.t 4, .t 65], none, [0, 0]⟩] false)))
def b8k1 : DCode :=
 (.region [⟨(some 66), (.bin .add), [.t 35, .c (.int .i64 1)], none, []⟩,
   ⟨(some 35), .mov, [.t 66], none, [0]⟩] false)
def b8k2 : DCode :=
 (.seq
  (.block 1
   (.seq
    (.region [⟨(some 37), (.iaddr 3), [.t 33, .t 35], none, []⟩,
      ⟨(some 38), (.load true 3), [.t 37], none, [0]⟩,
      ⟨(some 14), (.alloc [(.imm (.int .i64 0)), (.imm (.int .i64 0)), (.imm (.int .i64 0))]), [], none, []⟩,
      ⟨none, (.store 3), [.t 14, .t 38], none, [2, 1, 0, 1, 2]⟩] false)
    (.seq
     (.region [⟨(some 40), (.load true 3), [.t 9], none, []⟩,
       ⟨(some 41), (.load true 2), [.t 4], none, []⟩,
       ⟨(some 42), (.load true 3), [.t 14], none, []⟩,
       ⟨(some 43), .call, [.f 25, .t 40, .t 41, .t 42], none, [0, 1, 2]⟩,
       ⟨(some 39), .mov, [.t 43], none, [3]⟩,
       ⟨(some 44), (.ext 0), [.t 39], none, [4]⟩,
       ⟨(some 45), (.ext 1), [.t 39], none, [4]⟩,
       ⟨(some 46), (.ext 2), [.t 39], none, [4]⟩,
       ⟨(some 15), (.alloc [(.imm (.int .i64 0)), (.imm (.int .i64 0))]), [], none, []⟩,
       ⟨(some 16), (.alloc [(.imm (.int .i64 0)), (.imm (.int .i64 0))]), [], none, []⟩,
       ⟨none, (.store 2), [.t 15, .t 44], none, [8, 5, 3, 0, 1, 2, 3, 4, 5, 8, 9]⟩,
       ⟨none, (.store 2), [.t 16, .t 45], none, [9, 6, 10, 0, 1, 2, 3, 4, 5, 6, 8, 9, 10]⟩,
       ⟨(some 17), .mov, [.t 46], none, [7, 11, 0, 1, 2, 3, 4, 5, 6, 7, 8, 9, 10, 11]⟩] false)
     (.seq
      (.seq
       (.region [⟨(some 47), .mov, [.t 17], none, []⟩,
         ⟨(some 48), (.un .not), [.t 47], none, [0]⟩] false)
       (.cond (.t 48)
        (.seq
         (.region [⟨(some 49), (.build [(.imm (.int .i64 0)), (.imm (.int .i64 0))] []), [], none, []⟩,
           ⟨(some 6), .mov, [.c (.slc 2 [])], none, []⟩,
           ⟨none, (.store 2), [.t 7, .t 49], none, [0, 1, 0, 1]⟩,
           ⟨(some 8), .mov, [.c (.int .i64 22)], none, [2, 0, 1, 2]⟩] false)
         .ret)
        .skip))
      (.keep [4, 7, 9, 11, 12, 15, 16, 33, 34, 35] [4, 7, 9, 11, 12, 15, 16, 53] b8k0)))))
  (.keep [4, 7, 9, 11, 12, 33, 34, 35] [4, 7, 9, 11, 12, 53] b8k1))
def b8l0 : DCode := .keep [4, 7, 9, 11, 12, 33, 34, 35] [4, 7, 9, 11, 12, 53]
  (.seq
   (.region [⟨(some 36), (.bin .lss), [.t 35, .t 34], none, []⟩] false)
   (.seq
    (.cond (.t 36)
     .skip
     (.exit 0))
    (.keep [4, 7, 9, 11, 12, 33, 34, 35] [4, 7, 9, 11, 12, 53] b8k2)))
def b8k3 : DCode :=
 (.seq
  (.region [⟨(some 67), .movv, [.t 11], none, []⟩,
    ⟨(some 68), (.load true 2), [.t 12], none, []⟩,
    ⟨(some 6), .movv, [.t 67], none, [0, 0]⟩,
    ⟨none, (.store 2), [.t 7, .t 68], none, [1, 2, 0, 1, 2]⟩,
    ⟨(some 8), .mov, [.c (.int .i64 0)], none, [3, 0, 1, 2, 3]⟩] true)
  .ret)
def b8k4 : DCode :=
 (.seq
  (.region [⟨(some 11), (.ntok 2), [.c (.slc 2 [])], none, []⟩] false)
  (.seq
   (.region [⟨(some 12), (.alloc [(.imm (.int .i64 0)), (.imm (.int .i64 0))]), [], none, []⟩] false)
   (.seq
    (.seq
     (.region [⟨(some 33), .movv, [.t 2], none, []⟩,
       ⟨(some 34), .len, [.t 33], none, [0]⟩,
       ⟨(some 35), .mov, [.c (.int .i64 0)], none, []⟩] false)
     (.block 0
      (.loop b8l0)))
    (.keep [7, 11, 12] [7, 11, 12, 53] b8k3))))
def b8 : DCode :=
 (.seq
  (.region [⟨(some 3), .box, [.t 0], none, []⟩,
    ⟨(some 4), .box, [.t 1], none, []⟩,
    ⟨(some 6), .mov, [.c (.slc 2 [])], none, []⟩,
    ⟨(some 7), (.alloc [(.imm (.int .i64 0)), (.imm (.int .i64 0))]), [], none, []⟩,
    ⟨(some 8), .mov, [.c (.int .i64 0)], none, [2]⟩] false)
  (.seq
   (.region [⟨(some 19), (.load true 3), [.t 3], none, []⟩,
     ⟨(some 20), (.load true 2), [.t 4], none, []⟩,
     ⟨(some 21), .call, [.f 22, .t 19, .t 20], none, [0, 1]⟩,
     ⟨(some 18), .mov, [.t 21], none, [2]⟩,
     ⟨(some 22), (.ext 0), [.t 18], none, [3]⟩,
     ⟨(some 23), (.ext 1), [.t 18], none, [3]⟩,
     ⟨(some 9), (.alloc [(.imm (.slc 2 [])), (.imm (.slc 2 [])), (.imm (.int .i64 0))]), [], none, []⟩,
     ⟨none, (.store 3), [.t 9, .t 22], none, [6, 4, 2, 0, 1, 2, 3, 4, 6]⟩,
     ⟨(some 10), .mov, [.t 23], none, [5, 7, 0, 1, 2, 3, 4, 5, 6, 7]⟩] false)
   (.seq
    (.seq
     (.region [⟨(some 24), .mov, [.t 10], none, []⟩,
       ⟨(some 25), .movv, [.t 2], none, []⟩,
       ⟨(some 26), .call, [.f 24, .t 25], none, [1]⟩,
       ⟨(some 27), (.bsl 1), [.t 24, .t 26], none, [0, 2]⟩,
       ⟨(some 28), .call, [.f 23, .t 27], none, [3, 2]⟩,
       ⟨(some 10), .mov, [.t 28], none, [4, 4, 0, 1, 2, 3, 4]⟩] false)
     (.seq
      (.region [⟨(some 29), .mov, [.t 10], none, []⟩,
        ⟨(some 30), (.bin .neq), [.t 29, .c (.int .i64 0)], none, [0]⟩] false)
      (.cond (.t 30)
       (.seq
        (.region [⟨(some 31), (.build [(.imm (.int .i64 0)), (.imm (.int .i64 0))] []), [], none, []⟩,
          ⟨(some 32), .mov, [.t 10], none, []⟩,
          ⟨(some 6), .mov, [.c (.slc 2 [])], none, []⟩,
          ⟨none, (.store 2), [.t 7, .t 31], none, [0, 2, 0, 2]⟩,
          ⟨(some 8), .mov, [.t 32], none, [1, 3, 0, 1, 2, 3]⟩] false)
        .ret)
       .skip)))
    (.keep [2, 4, 7, 9] [4, 7, 9] b8k4))))
def d8 : DFn := ⟨3, 69, [.tmp 6, .cell 7 true 2, .tmp 8], b8⟩
theorem body8 : d8.body = b8 := rfl
theorem res8 : d8.res = [.tmp 6, .cell 7 true 2, .tmp 8] := rfl
theorem k8 : chkFn Try.prog Try.f8 d8 = true := by kernel_rfl

def b22k0 : DCode :=
 (.seq
  (.region [⟨(some 18), (.load true 3), [.t 6], none, []⟩,
    ⟨(some 19), .mov, [.t 7], none, []⟩,
    ⟨none, (.store 3), [.t 4, .t 18], none, [0, 0]⟩,
    ⟨(some 5), .mov, [.t 19], none, [1, 2, 0, 1, 2]⟩] false)
  .ret)
def b22 : DCode :=
 (.seq
  (.region [⟨(some 2), .box, [.t 0], none, []⟩,
    ⟨(some 3), .box, [.t 1], none, []⟩,
    ⟨(some 4), (.alloc [(.imm (.slc 2 [])), (.imm (.slc 2 [])), (.imm (.int .i64 0))]), [], none, []⟩,
    ⟨(some 5), .mov, [.c (.int .i64 0)], none, []⟩] false)
  (.seq
   (.region [⟨(some 9), (.load true 3), [.t 2], none, []⟩,
     ⟨(some 10), .call, [.f 38, .t 9], none, [0]⟩,
     ⟨(some 8), .mov, [.t 10], none, [1]⟩,
     ⟨(some 11), (.ext 0), [.t 8], none, [2]⟩,
     ⟨(some 12), (.ext 1), [.t 8], none, [2]⟩,
     ⟨(some 6), (.alloc [(.imm (.slc 2 [])), (.imm (.slc 2 [])), (.imm (.int .i64 0))]), [], none, []⟩,
     ⟨none, (.store 3), [.t 6, .t 11], none, [5, 3, 1, 0, 1, 2, 3, 5]⟩,
     ⟨(some 7), .mov, [.t 12], none, [4, 6, 0, 1, 2, 3, 4, 5, 6]⟩] false)
   (.seq
    (.seq
     (.region [⟨(some 13), .mov, [.t 7], none, []⟩,
       ⟨(some 14), (.bin .eql), [.t 13, .c (.int .i64 0)], none, [0]⟩] false)
     (.cond (.t 14)
      (.region [⟨(some 15), (.load true 3), [.t 6], none, []⟩,
        ⟨(some 16), (.load true 2), [.t 3], none, []⟩,
        ⟨(some 17), .call, [.f 39, .t 15, .t 16], none, [0, 1]⟩,
        ⟨(some 7), .mov, [.t 17], none, [2, 2, 0, 1, 2]⟩] false)
      .skip))
    (.keep [4, 6, 7] [4, 6] b22k0))))
def d22 : DFn := ⟨2, 20, [.cell 4 true 3, .tmp 5], b22⟩
theorem body22 : d22.body = b22 := rfl
theorem res22 : d22.res = [.cell 4 true 3, .tmp 5] := rfl
theorem k22 : chkFn Try.prog Try.f22 d22 = true := by kernel_rfl

def b41 : DCode :=
 (.seq
  (.region [⟨(some 1), .box, [.t 0], none, []⟩,
    ⟨(some 2), (.alloc [(.imm (.int .i64 0)), (.imm (.int .i64 0))]), [], none, []⟩] false)
  (.seq
   (.region [⟨(some 3), (.faddr 0 true 1), [.t 1], none, []⟩,
     ⟨(some 4), (.faddr 0 false 1), [.t 3], none, [0]⟩,
     ⟨(some 5), (.load false 1), [.t 4], none, [1]⟩,
     ⟨(some 6), (.iaddr 2), [.t 5, .c (.int .i64 0)], none, [2]⟩,
     ⟨(some 7), (.load true 2), [.t 6], none, [3]⟩,
     ⟨none, (.store 2), [.t 2, .t 7], none, [4, 0, 1, 2, 3, 4]⟩] false)
   .ret))
def d41 : DFn := ⟨1, 8, [.cell 2 true 2], b41⟩
theorem body41 : d41.body = b41 := rfl
theorem res41 : d41.res = [.cell 2 true 2] := rfl
theorem k41 : chkFn Try.prog Try.f41 d41 = true := by kernel_rfl

def b42 : DCode :=
 (.seq
  (.region [⟨(some 1), .box, [.t 0], none, []⟩,
    ⟨(some 2), (.alloc [(.imm (.int .i64 0)), (.imm (.int .i64 0))]), [], none, []⟩] false)
  (.seq
   (.region [⟨(some 3), (.faddr 0 true 1), [.t 1], none, []⟩,
     ⟨(some 4), (.faddr 0 false 1), [.t 3], none, [0]⟩,
     ⟨(some 5), (.load false 1), [.t 4], none, [1]⟩,
     ⟨(some 6), (.faddr 0 true 1), [.t 1], none, []⟩,
     ⟨(some 7), (.faddr 0 false 1), [.t 6], none, [3]⟩,
     ⟨(some 8), (.load false 1), [.t 7], none, [4]⟩,
     ⟨(some 9), .len, [.t 8], none, [5]⟩,
     ⟨(some 10), (.bin .sub), [.t 9, .c (.int .i64 1)], none, [6]⟩,
     ⟨(some 11), (.iaddr 2), [.t 5, .t 10], none, [2, 7]⟩,
     ⟨(some 12), (.load true 2), [.t 11], none, [8]⟩,
     ⟨none, (.store 2), [.t 2, .t 12], none, [9, 0, 1, 2, 3, 4, 5, 6, 7, 8, 9]⟩] false)
   .ret))
def d42 : DFn := ⟨1, 13, [.cell 2 true 2], b42⟩
theorem body42 : d42.body = b42 := rfl
theorem res42 : d42.res = [.cell 2 true 2] := rfl
theorem k42 : chkFn Try.prog Try.f42 d42 = true := by kernel_rfl

def b23k0 : DCode :=
 (.region [⟨(some 14), (.bin .add), [.t 7, .c (.int .i64 1)], none, []⟩,
   ⟨(some 7), .mov, [.t 14], none, [0]⟩] false)
def b23k1 : DCode :=
 (.seq
  (.block 1
   (.seq
    (.region [⟨(some 9), (.iaddr 1), [.t 5, .t 7], none, []⟩,
      ⟨(some 10), (.load false 1), [.t 9], none, [0]⟩,
      ⟨(some 4), .mov, [.t 10], none, [1, 0, 1]⟩] false)
    (.seq
     (.region [⟨(some 11), .mov, [.t 4], none, []⟩,
       ⟨(some 12), (.bin .neq), [.t 11, .c (.int .i64 0)], none, [0]⟩] false)
     (.cond (.t 12)
      (.seq
       (.region [⟨(some 13), .mov, [.t 4], none, []⟩,
         ⟨(some 2), .mov, [.t 13], none, [0, 0]⟩] false)
       .ret)
      .skip))))
  (.keep [5, 6, 7] [] b23k0))
def b23l0 : DCode := .keep [5, 6, 7] []
  (.seq
   (.region [⟨(some 8), (.bin .lss), [.t 7, .t 6], none, []⟩] false)
   (.seq
    (.cond (.t 8)
     .skip
     (.exit 0))
    (.keep [5, 6, 7] [] b23k1)))
def b23k2 : DCode :=
 (.seq
  (.region [⟨(some 2), .mov, [.c (.int .i64 0)], none, []⟩] false)
  .ret)
def b23 : DCode :=
 (.seq
  (.region [⟨(some 2), .mov, [.c (.int .i64 0)], none, []⟩] false)
  (.seq
   (.seq
    (.region [⟨(some 5), .movv, [.t 0], none, []⟩,
      ⟨(some 6), .len, [.t 5], none, [0]⟩,
      ⟨(some 7), .mov, [.c (.int .i64 0)], none, []⟩] false)
    (.block 0
     (.loop b23l0)))
   (.keep [] [] b23k2)))
def d23 : DFn := ⟨1, 15, [.tmp 2], b23⟩
theorem body23 : d23.body = b23 := rfl
theorem res23 : d23.res = [.tmp 2] := rfl
theorem k23 : chkFn Try.prog Try.f23 d23 = true := by kernel_rfl

def b30 : DCode :=
 (.seq
  (.region [⟨(some 1), .box, [.t 0], none, []⟩,
    ⟨(some 2), .mov, [.c (.int .i64 0)], none, []⟩] false)
  (.seq
   (.region [⟨(some 3), .mov, [.f 47], none, []⟩] false)
   (.seq
    (.region [⟨(some 4), .mov, [.t 3], none, []⟩,
      ⟨(some 5), (.faddr 0 false 1), [.t 1], none, []⟩,
      ⟨(some 6), (.load false 1), [.t 5], none, [1]⟩,
      ⟨(some 7), .call, [.t 4, .t 6], none, [0, 2]⟩,
      ⟨(some 8), .mov, [.t 7], none, [3, 3]⟩,
      ⟨(some 9), .mov, [.t 3], (some (8, true)), [4]⟩,
      ⟨(some 10), (.faddr 1 false 1), [.t 1], (some (8, true)), [4]⟩,
      ⟨(some 11), (.load false 1), [.t 10], (some (8, true)), [6, 4]⟩,
      ⟨(some 12), .call, [.t 9, .t 11], (some (8, true)), [5, 7, 4, 4]⟩,
      ⟨(some 13), .pick, [.t 8, .t 12, .c (.bool false)], none, [4, 8]⟩,
      ⟨(some 14), .mov, [.t 13], none, [9, 8]⟩,
      ⟨(some 15), (.faddr 2 false 1), [.t 1], (some (14, true)), [10]⟩,
      ⟨(some 16), (.load false 1), [.t 15], (some (14, true)), [11, 10]⟩,
      ⟨(some 17), .call, [.f 48, .t 16, .c (.int .i64 (-10000000)), .c (.int .i64 10000000)], (some (14, true)), [12, 10, 10]⟩,
      ⟨(some 18), .pick, [.t 14, .t 17, .c (.bool false)], none, [10, 13]⟩,
      ⟨(some 19), .call, [.f 31, .t 18, .c (.int .i64 2)], none, [14, 13]⟩,
      ⟨(some 2), .mov, [.t 19], none, [15, 15, 0, 1, 2, 3, 4, 5, 6, 7, 8, 9, 10, 11, 12, 13, 14, 15]⟩] false)
    .ret)))
def d30 : DFn := ⟨1, 20, [.tmp 2], b30⟩
theorem body30 : d30.body = b30 := rfl
theorem res30 : d30.res = [.tmp 2] := rfl
theorem k30 : chkFn Try.prog Try.f30 d30 = true := by kernel_rfl

def b25k0 : DCode :=
 (.seq
  (.region [⟨(some 69), .mov, [.t 12], none, []⟩,
    ⟨(some 70), (.iarr 2 1 false), [.t 9, .t 69], none, [0]⟩,
    ⟨(some 71), (.load false 1), [.t 70], none, [1]⟩,
    ⟨(some 72), (.load true 1), [.t 13], none, []⟩,
    ⟨(some 73), .call, [.f 42, .t 72], none, [3]⟩,
    ⟨(some 74), (.field 1 false 1), [.t 73], none, [4]⟩,
    ⟨(some 75), (.bin .sub), [.t 71, .t 74], none, [2, 5]⟩,
    ⟨(some 76), (.mm true), [.c (.int .i64 0), .t 75], none, [6]⟩,
    ⟨(some 15), .mov, [.t 76], none, [7, 4, 0, 1, 2, 3, 4, 5, 6, 7]⟩] true)
  (.seq
   (.region [⟨(some 77), (.faddr 1 false 1), [.t 11], none, []⟩,
     ⟨(some 78), (.load false 1), [.t 77], none, [0]⟩,
     ⟨(some 79), .mov, [.t 15], none, []⟩,
     ⟨(some 80), (.bin .add), [.t 78, .t 79], none, [1, 2]⟩,
     ⟨(some 81), (.faddr 1 false 1), [.t 11], none, [0, 1, 2, 3]⟩,
     ⟨none, (.store 1), [.t 81, .t 80], none, [4, 3, 0, 1, 2, 3]⟩] false)
   (.region [⟨(some 82), .mov, [.t 12], none, []⟩,
     ⟨(some 83), (.iarr 2 1 false), [.t 9, .t 82], none, [0]⟩,
     ⟨(some 84), (.load false 1), [.t 83], none, [1]⟩,
     ⟨(some 85), .mov, [.t 15], none, []⟩,
     ⟨(some 86), (.bin .sub), [.t 84, .t 85], none, [2, 3]⟩,
     ⟨(some 87), (.iarr 2 1 false), [.t 9, .t 82], none, [0, 0, 1, 2, 3, 4]⟩,
     ⟨none, (.store 1), [.t 87, .t 86], none, [5, 4, 0, 1, 2, 3, 4]⟩] false)))
def b25k1 : DCode :=
 (.region [⟨(some 88), (.bin .add), [.t 34, .c (.int .i64 1)], none, []⟩,
   ⟨(some 34), .mov, [.t 88], none, [0]⟩] false)
def b25k2 : DCode :=
 (.seq
  (.block 1
   (.seq
    (.region [⟨(some 36), .mov, [.t 34], none, []⟩,
      ⟨(some 37), (.index 2 1 true), [.t 33, .t 34], none, []⟩,
      ⟨(some 13), (.alloc [(.imm (.slc 2 []))]), [], none, []⟩,
      ⟨(some 12), .mov, [.t 36], none, [0, 0, 1, 2]⟩,
      ⟨none, (.store 1), [.t 13, .t 37], none, [2, 1, 3, 0, 1, 2, 3]⟩] false)
    (.seq
     (.region [⟨(some 38), (.load true 1), [.t 13], none, []⟩,
       ⟨(some 39), .mov, [.t 12], none, []⟩,
       ⟨(some 40), (.iarr 2 1 false), [.t 9, .t 39], none, [1]⟩,
       ⟨(some 41), (.load false 1), [.t 40], none, [2]⟩,
       ⟨(some 42), (.faddr 2 false 1), [.t 3], none, []⟩,
       ⟨(some 43), (.load false 1), [.t 42], none, [4]⟩,
       ⟨(some 44), .call, [.f 40, .t 38, .t 41, .t 43], none, [0, 3, 5]⟩,
       ⟨(some 14), .mov, [.t 44], none, [6, 6, 0, 1, 2, 3, 4, 5, 6]⟩] true)
     (.seq
      (.region [⟨(some 45), (.faddr 0 false 1), [.t 11], none, []⟩,
        ⟨(some 46), (.load false 1), [.t 45], none, [0]⟩,
        ⟨(some 47), .mov, [.t 14], none, []⟩,
        ⟨(some 48), (.bin .add), [.t 46, .t 47], none, [1, 2]⟩,
        ⟨(some 49), (.faddr 0 false 1), [.t 11], none, [0, 1, 2, 3]⟩,
        ⟨none, (.store 1), [.t 49, .t 48], none, [4, 3, 0, 1, 2, 3]⟩] false)
      (.seq
       (.region [⟨(some 50), .mov, [.t 12], none, []⟩,
         ⟨(some 51), (.iarr 2 1 false), [.t 9, .t 50], none, [0]⟩,
         ⟨(some 52), (.load false 1), [.t 51], none, [1]⟩,
         ⟨(some 53), .mov, [.t 12], none, []⟩,
         ⟨(some 54), (.iarr 2 1 false), [.t 10, .t 53], none, [3]⟩,
         ⟨(some 55), (.load false 1), [.t 54], none, [4]⟩,
         ⟨(some 56), .mov, [.t 14], none, []⟩,
         ⟨(some 57), (.bin .sub), [.t 55, .t 56], none, [5, 6]⟩,
         ⟨(some 58), (.bin .add), [.t 52, .t 57], none, [2, 7]⟩,
         ⟨(some 59), (.iarr 2 1 false), [.t 9, .t 50], none, [0, 0, 1, 2, 3, 4, 5, 6, 7, 8]⟩,
         ⟨none, (.store 1), [.t 59, .t 58], none, [9, 8, 0, 1, 2, 3, 4, 5, 6, 7, 8]⟩] true)
       (.seq
        (.seq
         (.region [⟨(some 60), .mov, [.t 12], none, []⟩,
           ⟨(some 61), (.iarr 2 1 false), [.t 9, .t 60], none, [0]⟩,
           ⟨(some 62), (.load false 1), [.t 61], none, [1]⟩,
           ⟨(some 63), (.load true 1), [.t 13], none, []⟩,
           ⟨(some 64), .call, [.f 41, .t 63], none, [3]⟩,
           ⟨(some 65), (.field 1 false 1), [.t 64], none, [4]⟩,
           ⟨(some 66), (.bin .lss), [.t 62, .t 65], none, [2, 5]⟩] true)
         (.cond (.t 66)
          (.seq
           (.region [⟨(some 67), (.build [(.imm (.int .i64 0)), (.imm (.int .i64 0))] []), [], none, []⟩,
             ⟨(some 68), (.build [(.imm (.int .i64 0)), (.imm (.int .i64 0))] []), [], none, []⟩,
             ⟨none, (.store 2), [.t 6, .t 67], none, [0, 0]⟩,
             ⟨none, (.store 2), [.t 7, .t 68], none, [1, 2, 0, 1, 2]⟩,
             ⟨(some 8), .mov, [.c (.bool false)], none, [3, 0, 1, 2, 3]⟩] false)
           .ret)
          .skip))
        (.keep [3, 6, 7, 9, 10, 11, 12, 13, 33, 34] [3, 6, 7, 9, 10, 11, 13] b25k0)))))))
  (.keep [3, 6, 7, 9, 10, 11, 33, 34] [3, 6, 7, 9, 10, 11] b25k1))
def b25l0 : DCode := .keep [3, 6, 7, 9, 10, 11, 33, 34] [3, 6, 7, 9, 10, 11]
  (.seq
   (.region [⟨(some 35), (.bin .lss), [.t 34, .c (.int .i64 2)], none, []⟩] false)
   (.seq
    (.cond (.t 35)
     .skip
     (.exit 0))
    (.keep [3, 6, 7, 9, 10, 11, 33, 34] [3, 6, 7, 9, 10, 11] b25k2)))
def b25k3 : DCode :=
 (.seq
  (.region [⟨(some 89), (.iarr 2 1 false), [.t 9, .c (.int .i64 0)], none, []⟩,
    ⟨(some 90), (.loadf false 1 [9]), [.t 89], none, [0]⟩,
    ⟨(some 91), (.iarr 2 1 false), [.t 9, .c (.int .i64 1)], none, []⟩,
    ⟨(some 92), (.loadf false 1 [9]), [.t 91], none, [2]⟩,
    ⟨(some 93), (.build [(.imm (.int .i64 0)), (.imm (.int .i64 0))] [(0, 1), (1, 1)]), [.t 90, .t 92], none, [1, 3]⟩,
    ⟨(some 94), (.loadf true 2 [11]), [.t 11], none, []⟩,
    ⟨none, (.storef 2 [6]), [.t 6, .t 93], none, [4, 0, 1, 2, 3, 4]⟩,
    ⟨none, (.storef 2 [7]), [.t 7, .t 94], none, [5, 6, 0, 1, 2, 3, 4, 5, 6]⟩,
    ⟨(some 8), .mov, [.c (.bool true)], none, [7, 0, 1, 2, 3, 4, 5, 6, 7]⟩] true)
  .ret)
def b25 : DCode :=
 (.seq
  (.region [⟨(some 3), .box, [.t 0], none, []⟩,
    ⟨(some 4), .box, [.t 1], none, []⟩,
    ⟨(some 5), .box, [.t 2], none, []⟩,
    ⟨(some 6), (.alloc [(.imm (.int .i64 0)), (.imm (.int .i64 0))]), [], none, []⟩,
    ⟨(some 7), (.alloc [(.imm (.int .i64 0)), (.imm (.int .i64 0))]), [], none, []⟩,
    ⟨(some 8), .mov, [.c (.bool false)], none, []⟩] false)
  (.seq
   (.region [⟨(some 16), (.faddr 0 false 1), [.t 4], none, []⟩,
     ⟨(some 17), (.load false 1), [.t 16], none, [0]⟩,
     ⟨(some 18), (.faddr 1 false 1), [.t 4], none, []⟩,
     ⟨(some 19), (.load false 1), [.t 18], none, [2]⟩,
     ⟨(some 20), (.build [(.imm (.int .i64 0)), (.imm (.int .i64 0))] [(0, 1), (1, 1)]), [.t 17, .t 19], none, [1, 3]⟩,
     ⟨(some 9), (.alloc [(.imm (.int .i64 0)), (.imm (.int .i64 0))]), [], none, []⟩,
     ⟨none, (.store 2), [.t 9, .t 20], none, [5, 4, 0, 1, 2, 3, 4, 5]⟩] false)
   (.seq
    (.region [⟨(some 21), (.faddr 0 false 1), [.t 5], none, []⟩,
      ⟨(some 22), (.load false 1), [.t 21], none, [0]⟩,
      ⟨(some 23), (.faddr 2 false 1), [.t 5], none, []⟩,
      ⟨(some 24), (.load false 1), [.t 23], none, [2]⟩,
      ⟨(some 25), (.bin .add), [.t 22, .t 24], none, [1, 3]⟩,
      ⟨(some 26), (.faddr 1 false 1), [.t 5], none, []⟩,
      ⟨(some 27), (.load false 1), [.t 26], none, [5]⟩,
      ⟨(some 28), (.faddr 2 false 1), [.t 5], none, []⟩,
      ⟨(some 29), (.load false 1), [.t 28], none, [7]⟩,
      ⟨(some 30), (.bin .sub), [.t 27, .t 29], none, [6, 8]⟩,
      ⟨(some 31), (.build [(.imm (.int .i64 0)), (.imm (.int .i64 0))] [(0, 1), (1, 1)]), [.t 25, .t 30], none, [4, 9]⟩,
      ⟨(some 10), (.alloc [(.imm (.int .i64 0)), (.imm (.int .i64 0))]), [], none, []⟩,
      ⟨none, (.store 2), [.t 10, .t 31], none, [11, 10, 0, 1, 2, 3, 4, 5, 6, 7, 8, 9, 10, 11]⟩] false)
    (.seq
     (.region [⟨(some 11), (.alloc [(.imm (.int .i64 0)), (.imm (.int .i64 0))]), [], none, []⟩] false)
     (.seq
      (.seq
       (.region [⟨(some 32), (.faddr 0 true 2), [.t 3], none, []⟩,
         ⟨(some 33), (.load true 2), [.t 32], none, [0]⟩,
         ⟨(some 34), .mov, [.c (.int .i64 0)], none, []⟩] false)
       (.block 0
        (.loop b25l0)))
      (.keep [6, 7, 9, 11] [6, 7, 9, 11] b25k3))))))
def d25 : DFn := ⟨3, 95, [.cell 6 true 2, .cell 7 true 2, .tmp 8], b25⟩
theorem body25 : d25.body = b25 := rfl
theorem res25 : d25.res = [.cell 6 true 2, .cell 7 true 2, .tmp 8] := rfl
theorem k25 : chkFn Try.prog Try.f25 d25 = true := by kernel_rfl

def b31k0 : DCode :=
 (.seq
  (.region [⟨(some 6), .mov, [.t 1], none, []⟩,
    ⟨(some 4), .mov, [.t 6], none, [0, 0]⟩] false)
  .ret)
def b31 : DCode :=
 (.seq
  (.region [⟨(some 4), .mov, [.c (.int .i64 0)], none, []⟩] false)
  (.seq
   (.seq
    (.region [⟨(some 5), .mov, [.t 0], none, []⟩] false)
    (.cond (.t 5)
     (.seq
      (.region [⟨(some 4), .mov, [.c (.int .i64 0)], none, []⟩] false)
      .ret)
     .skip))
   (.keep [1] [] b31k0)))
def d31 : DFn := ⟨2, 7, [.tmp 4], b31⟩
theorem body31 : d31.body = b31 := rfl
theorem res31 : d31.res = [.tmp 4] := rfl
theorem k31 : chkFn Try.prog Try.f31 d31 = true := by kernel_rfl

def b49 : DCode :=
 (.seq
  (.region [⟨(some 1), .box, [.t 0], none, []⟩,
    ⟨(some 2), .mov, [.c (.int .i64 0)], none, []⟩] false)
  (.seq
   (.region [⟨(some 6), (.load true 1), [.t 1], none, []⟩,
     ⟨(some 7), .call, [.f 63, .t 6], none, [0]⟩,
     ⟨(some 5), .mov, [.t 7], none, [1]⟩,
     ⟨(some 8), (.ext 0), [.t 5], none, [2]⟩,
     ⟨(some 9), (.ext 1), [.t 5], none, [2]⟩,
     ⟨(some 3), .mov, [.t 8], none, [3, 1, 0, 1, 2, 3]⟩,
     ⟨(some 4), .mov, [.t 9], none, [4, 5, 0, 1, 2, 3, 4, 5]⟩] false)
   (.seq
    (.region [⟨(some 10), .mov, [.t 4], none, []⟩,
      ⟨(some 2), .mov, [.t 10], none, [0, 0]⟩] false)
    .ret)))
def d49 : DFn := ⟨1, 11, [.tmp 2], b49⟩
theorem body49 : d49.body = b49 := rfl
theorem res49 : d49.res = [.tmp 2] := rfl
theorem k49 : chkFn Try.prog Try.f49 d49 = true := by kernel_rfl

def b48 : DCode :=
 (.seq
  (.region [⟨(some 6), .mov, [.c (.bool false)], none, []⟩] false)
  (.seq
   (.region [⟨(some 7), .mov, [.t 1], none, []⟩,
     ⟨(some 8), .mov, [.t 0], none, []⟩,
     ⟨(some 9), (.bin .leq), [.t 7, .t 8], none, [0, 1]⟩,
     ⟨(some 10), .mov, [.t 9], none, [2]⟩,
     ⟨(some 11), .mov, [.t 0], (some (10, true)), [3]⟩,
     ⟨(some 12), .mov, [.t 2], (some (10, true)), [3]⟩,
     ⟨(some 13), (.bin .leq), [.t 11, .t 12], (some (10, true)), [4, 5, 3]⟩,
     ⟨(some 14), .pick, [.t 10, .t 13, .c (.bool false)], none, [3, 6]⟩,
     ⟨(some 6), .mov, [.t 14], none, [7, 3, 0, 1, 2, 3, 4, 5, 6, 7]⟩] false)
   .ret))
def d48 : DFn := ⟨3, 15, [.tmp 6], b48⟩
theorem body48 : d48.body = b48 := rfl
theorem res48 : d48.res = [.tmp 6] := rfl
theorem k48 : chkFn Try.prog Try.f48 d48 = true := by kernel_rfl

def b32k0 : DCode :=
 (.seq
  (.region [⟨(some 14), (.load true 1), [.t 2], none, []⟩,
    ⟨(some 15), (.build [(.imm (.slc 2 []))] [(0, 1)]), [.t 14], none, [0]⟩,
    ⟨(some 7), (.alloc [(.imm (.slc 2 []))]), [], none, []⟩,
    ⟨none, (.store 1), [.t 7, .t 15], none, [2, 1, 0, 1, 2]⟩] false)
  (.seq
   (.region [⟨(some 16), (.load true 1), [.t 7], none, []⟩,
     ⟨(some 17), (.load true 1), [.t 7], none, []⟩,
     ⟨(some 18), .mov, [.t 1], none, []⟩,
     ⟨(some 19), .call, [.f 50, .t 17, .t 18], none, [1, 2]⟩,
     ⟨(some 20), .call, [.f 31, .t 19, .c (.int .i64 2)], none, [3, 3]⟩,
     ⟨none, (.store 1), [.t 4, .t 16], none, [0, 4, 0]⟩,
     ⟨(some 5), .mov, [.t 20], none, [4, 5, 0, 1, 2, 3, 4, 5]⟩] true)
   .ret))
def b32 : DCode :=
 (.seq
  (.region [⟨(some 2), .box, [.t 0], none, []⟩,
    ⟨(some 4), (.alloc [(.imm (.slc 2 []))]), [], none, []⟩,
    ⟨(some 5), .mov, [.c (.int .i64 0)], none, []⟩] false)
  (.seq
   (.seq
    (.region [⟨(some 8), (.load true 1), [.t 2], none, []⟩,
      ⟨(some 9), .call, [.f 49, .t 8], none, [0]⟩,
      ⟨(some 6), .mov, [.t 9], none, [1, 1, 0, 1]⟩] false)
    (.seq
     (.region [⟨(some 10), .mov, [.t 6], none, []⟩,
       ⟨(some 11), (.bin .neq), [.t 10, .c (.int .i64 0)], none, [0]⟩] false)
     (.cond (.t 11)
      (.seq
       (.region [⟨(some 12), (.build [(.imm (.slc 2 []))] []), [], none, []⟩,
         ⟨(some 13), .mov, [.t 6], none, []⟩,
         ⟨none, (.store 1), [.t 4, .t 12], none, [0, 0]⟩,
         ⟨(some 5), .mov, [.t 13], none, [1, 2, 0, 1, 2]⟩] false)
       .ret)
      .skip)))
   (.keep [1, 2, 4] [2, 4] b32k0)))
def d32 : DFn := ⟨2, 21, [.cell 4 true 1, .tmp 5], b32⟩
theorem body32 : d32.body = b32 := rfl
theorem res32 : d32.res = [.cell 4 true 1, .tmp 5] := rfl
theorem k32 : chkFn Try.prog Try.f32 d32 = true := by kernel_rfl

def b33 : DCode :=
 (.seq
  (.region [⟨(some 2), .box, [.t 0], none, []⟩,
    ⟨(some 4), (.alloc [(.imm (.int .i64 0)), (.imm (.int .i64 0)), (.imm (.int .i64 0))]), [], none, []⟩] false)
  (.seq
   (.region [⟨(some 7), (.load true 1), [.t 2], none, []⟩,
     ⟨(some 8), .mov, [.t 1], none, []⟩,
     ⟨(some 9), .call, [.f 51, .t 7, .t 8], none, [0, 1]⟩,
     ⟨(some 5), (.alloc [(.imm (.int .i64 0)), (.imm (.int .i64 0)), (.imm (.int .i64 0)), (.imm (.int .i64 0))]), [], none, []⟩,
     ⟨none, (.store 4), [.t 5, .t 9], none, [3, 2, 2, 0, 1, 2, 3]⟩] false)
   (.seq
    (.region [⟨(some 10), .mov, [.t 1], none, []⟩,
      ⟨(some 11), (.faddr 0 true 2), [.t 5], none, []⟩,
      ⟨(some 12), (.faddr 1 false 1), [.t 11], none, [1]⟩,
      ⟨(some 13), (.load false 1), [.t 12], none, [2]⟩,
      ⟨(some 14), (.bin .sub), [.t 10, .t 13], none, [0, 3]⟩,
      ⟨(some 15), (.load true 4), [.t 5], none, []⟩,
      ⟨(some 16), .call, [.f 52, .t 15], none, [5]⟩,
      ⟨(some 17), (.bin .mul), [.t 14, .t 16], none, [4, 6]⟩,
      ⟨(some 6), .mov, [.t 17], none, [7, 6, 0, 1, 2, 3, 4, 5, 6, 7]⟩] true)
    (.seq
     (.region [⟨(some 18), (.faddr 0 true 2), [.t 5], none, []⟩,
       ⟨(some 19), (.faddr 0 false 1), [.t 18], none, [0]⟩,
       ⟨(some 20), (.load false 1), [.t 19], none, [1]⟩,
       ⟨(some 21), .mov, [.t 6], none, []⟩,
       ⟨(some 22), (.load true 4), [.t 5], none, []⟩,
       ⟨(some 23), .call, [.f 53, .t 22], none, [4]⟩,
       ⟨(some 24), (.bin .quo), [.t 21, .t 23], none, [3, 5]⟩,
       ⟨(some 25), (.bin .add), [.t 20, .t 24], none, [2, 6]⟩,
       ⟨(some 26), .mov, [.t 6], none, []⟩,
       ⟨(some 27), (.load true 4), [.t 5], none, []⟩,
       ⟨(some 28), .call, [.f 53, .t 27], none, [9, 5]⟩,
       ⟨(some 29), (.bin .rem), [.t 26, .t 28], none, [8, 10]⟩,
       ⟨(some 30), (.load true 4), [.t 5], none, []⟩,
       ⟨(some 31), .call, [.f 53, .t 30], none, [12, 10]⟩,
       ⟨(some 32), (.build [(.imm (.int .i64 0)), (.imm (.int .i64 0)), (.imm (.int .i64 0))] [(0, 1), (1, 1), (2, 1)]), [.t 25, .t 29, .t 31], none, [7, 11, 13]⟩,
       ⟨none, (.store 3), [.t 4, .t 32], none, [14, 13, 0, 1, 2, 3, 4, 5, 6, 7, 8, 9, 10, 11, 12, 13, 14]⟩] true)
     .ret))))
def d33 : DFn := ⟨2, 33, [.cell 4 true 3], b33⟩
theorem body33 : d33.body = b33 := rfl
theorem res33 : d33.res = [.cell 4 true 3] := rfl
theorem k33 : chkFn Try.prog Try.f33 d33 = true := by kernel_rfl

def b52 : DCode :=
 (.seq
  (.region [⟨(some 1), .box, [.t 0], none, []⟩,
    ⟨(some 2), .mov, [.c (.int .i64 0)], none, []⟩] false)
  (.seq
   (.region [⟨(some 3), (.faddr 2 true 2), [.t 1], none, []⟩,
     ⟨(some 4), (.faddr 0 false 1), [.t 3], none, [0]⟩,
     ⟨(some 5), (.load false 1), [.t 4], none, [1]⟩,
     ⟨(some 6), (.faddr 0 true 2), [.t 1], none, []⟩,
     ⟨(some 7), (.faddr 0 false 1), [.t 6], none, [3]⟩,
     ⟨(some 8), (.load false 1), [.t 7], none, [4]⟩,
     ⟨(some 9), (.bin .sub), [.t 5, .t 8], none, [2, 5]⟩,
     ⟨(some 2), .mov, [.t 9], none, [6, 0, 1, 2, 3, 4, 5, 6]⟩] false)
   .ret))
def d52 : DFn := ⟨1, 10, [.tmp 2], b52⟩
theorem body52 : d52.body = b52 := rfl
theorem res52 : d52.res = [.tmp 2] := rfl
theorem k52 : chkFn Try.prog Try.f52 d52 = true := by kernel_rfl

def b53 : DCode :=
 (.seq
  (.region [⟨(some 1), .box, [.t 0], none, []⟩,
    ⟨(some 2), .mov, [.c (.int .i64 0)], none, []⟩] false)
  (.seq
   (.region [⟨(some 3), (.faddr 2 true 2), [.t 1], none, []⟩,
     ⟨(some 4), (.faddr 1 false 1), [.t 3], none, [0]⟩,
     ⟨(some 5), (.load false 1), [.t 4], none, [1]⟩,
     ⟨(some 6), (.faddr 0 true 2), [.t 1], none, []⟩,
     ⟨(some 7), (.faddr 1 false 1), [.t 6], none, [3]⟩,
     ⟨(some 8), (.load false 1), [.t 7], none, [4]⟩,
     ⟨(some 9), (.bin .sub), [.t 5, .t 8], none, [2, 5]⟩,
     ⟨(some 2), .mov, [.t 9], none, [6, 0, 1, 2, 3, 4, 5, 6]⟩] false)
   .ret))
def d53 : DFn := ⟨1, 10, [.tmp 2], b53⟩
theorem body53 : d53.body = b53 := rfl
theorem res53 : d53.res = [.tmp 2] := rfl
theorem k53 : chkFn Try.prog Try.f53 d53 = true := by kernel_rfl

def b70 : DCode :=
 (.seq
  (.region [⟨(some 2), .box, [.t 0], none, []⟩,
    ⟨(some 3), .box, [.t 1], none, []⟩,
    ⟨(some 4), .mov, [.c (.bool false)], none, []⟩] false)
  (.seq
   (.region [⟨(some 5), (.load true 4), [.t 2], none, []⟩,
     ⟨(some 6), .call, [.f 53, .t 5], none, [0]⟩,
     ⟨(some 7), (.load true 4), [.t 3], none, []⟩,
     ⟨(some 8), .call, [.f 52, .t 7], none, [2, 1]⟩,
     ⟨(some 9), (.bin .mul), [.t 6, .t 8], none, [1, 3]⟩,
     ⟨(some 10), (.load true 4), [.t 3], none, []⟩,
     ⟨(some 11), .call, [.f 53, .t 10], none, [5, 3]⟩,
     ⟨(some 12), (.load true 4), [.t 2], none, []⟩,
     ⟨(some 13), .call, [.f 52, .t 12], none, [7, 6]⟩,
     ⟨(some 14), (.bin .mul), [.t 11, .t 13], none, [6, 8]⟩,
     ⟨(some 15), (.bin .lss), [.t 9, .t 14], none, [4, 9]⟩,
     ⟨(some 4), .mov, [.t 15], none, [10, 8, 0, 1, 2, 3, 4, 5, 6, 7, 8, 9, 10]⟩] true)
   .ret))
def d70 : DFn := ⟨2, 16, [.tmp 4], b70⟩
theorem body70 : d70.body = b70 := rfl
theorem res70 : d70.res = [.tmp 4] := rfl
theorem k70 : chkFn Try.prog Try.f70 d70 = true := by kernel_rfl

def b51 : DCode :=
 (.seq
  (.region [⟨(some 2), .box, [.t 0], none, []⟩,
    ⟨(some 3), .box, [.t 1], none, []⟩,
    ⟨(some 4), (.alloc [(.imm (.int .i64 0)), (.imm (.int .i64 0)), (.imm (.int .i64 0)), (.imm (.int .i64 0))]), [], none, []⟩] false)
  (.seq
   (.freeze [3]
    (.region [⟨(some 5), (.load true 1), [.t 2], none, []⟩,
      ⟨(some 6), (.mkfn 65 0), [.t 3], none, []⟩,
      ⟨(some 7), .call, [.f 64, .t 5, .t 6], none, [0, 1]⟩,
      ⟨none, (.store 4), [.t 4, .t 7], none, [2, 2, 0, 1, 2]⟩] false))
   .ret))
def d51 : DFn := ⟨2, 8, [.cell 4 true 4], b51⟩
theorem body51 : d51.body = b51 := rfl
theorem res51 : d51.res = [.cell 4 true 4] := rfl
theorem k51 : chkFn Try.prog Try.f51 d51 = true := by kernel_rfl

def b24k0 : DCode :=
 (.region [⟨(some 20), (.bin .add), [.t 11, .c (.int .i64 1)], none, []⟩,
   ⟨(some 11), .mov, [.t 20], none, [0]⟩] false)
def b24k1 : DCode :=
 (.seq
  (.block 1
   (.seq
    (.region [⟨(some 13), (.iaddr 3), [.t 9, .t 11], none, []⟩,
      ⟨(some 14), (.load true 3), [.t 13], none, [0]⟩,
      ⟨(some 4), (.alloc [(.imm (.int .i64 0)), (.imm (.int .i64 0)), (.imm (.int .i64 0))]), [], none, []⟩,
      ⟨none, (.store 3), [.t 4, .t 14], none, [2, 1, 0, 1, 2]⟩] false)
    (.seq
     (.region [⟨(some 15), (.load true 3), [.t 4], none, []⟩,
       ⟨(some 16), .call, [.f 30, .t 15], none, [0]⟩,
       ⟨(some 5), .mov, [.t 16], none, [1, 1, 0, 1]⟩] false)
     (.seq
      (.region [⟨(some 17), .mov, [.t 5], none, []⟩,
        ⟨(some 18), (.bin .neq), [.t 17, .c (.int .i64 0)], none, [0]⟩] false)
      (.cond (.t 18)
       (.seq
        (.region [⟨(some 19), .mov, [.t 5], none, []⟩,
          ⟨(some 2), .mov, [.t 19], none, [0, 0]⟩] false)
        .ret)
       .skip)))))
  (.keep [9, 10, 11] [] b24k0))
def b24l0 : DCode := .keep [9, 10, 11] []
  (.seq
   (.region [⟨(some 12), (.bin .lss), [.t 11, .t 10], none, []⟩] false)
   (.seq
    (.cond (.t 12)
     .skip
     (.exit 0))
    (.keep [9, 10, 11] [] b24k1)))
def b24k2 : DCode :=
 (.seq
  (.region [⟨(some 2), .mov, [.c (.int .i64 0)], none, []⟩] false)
  .ret)
def b24k3 : DCode :=
 (.seq
  (.seq
   (.region [⟨(some 9), .movv, [.t 0], none, []⟩,
     ⟨(some 10), .len, [.t 9], none, [0]⟩,
     ⟨(some 11), .mov, [.c (.int .i64 0)], none, []⟩] false)
   (.block 0
    (.loop b24l0)))
  (.keep [] [] b24k2))
def b24 : DCode :=
 (.seq
  (.region [⟨(some 2), .mov, [.c (.int .i64 0)], none, []⟩] false)
  (.seq
   (.seq
    (.region [⟨(some 6), .movv, [.t 0], none, []⟩,
      ⟨(some 7), .len, [.t 6], none, [0]⟩,
      ⟨(some 8), (.bin .gtr), [.t 7, .c (.int .i64 200)], none, [1]⟩] false)
    (.cond (.t 8)
     (.seq
      (.region [⟨(some 2), .mov, [.c (.int .i64 8)], none, []⟩] false)
      .ret)
     .skip))
   (.keep [0] [] b24k3)))
def d24 : DFn := ⟨1, 21, [.tmp 2], b24⟩
theorem body24 : d24.body = b24 := rfl
theorem res24 : d24.res = [.tmp 2] := rfl
theorem k24 : chkFn Try.prog Try.f24 d24 = true := by kernel_rfl

def b38 : DCode :=
 (.seq
  (.region [⟨(some 1), .box, [.t 0], none, []⟩,
    ⟨(some 2), (.alloc [(.imm (.slc 2 [])), (.imm (.slc 2 [])), (.imm (.int .i64 0))]), [], none, []⟩,
    ⟨(some 3), .mov, [.c (.int .i64 0)], none, []⟩] false)
  (.seq
   (.region [⟨(some 4), (.faddr 0 true 1), [.t 1], none, []⟩,
     ⟨(some 5), (.load true 1), [.t 4], none, [0]⟩,
     ⟨(some 6), (.build [(.imm (.slc 2 []))] [(0, 1)]), [.t 5], none, [1]⟩,
     ⟨(some 7), (.faddr 1 true 1), [.t 1], none, []⟩,
     ⟨(some 8), (.load true 1), [.t 7], none, [3]⟩,
     ⟨(some 9), (.build [(.imm (.slc 2 []))] [(0, 1)]), [.t 8], none, [4]⟩,
     ⟨(some 10), (.build [(.imm (.slc 2 [])), (.imm (.slc 2 []))] [(0, 1), (1, 1)]), [.t 6, .t 9], none, [2, 5]⟩,
     ⟨(some 11), (.faddr 2 false 1), [.t 1], none, []⟩,
     ⟨(some 12), (.load false 1), [.t 11], none, [7]⟩,
     ⟨(some 13), (.build [(.imm (.slc 2 [])), (.imm (.slc 2 [])), (.imm (.int .i64 0))] [(0, 2), (2, 1)]), [.t 10, .t 12], none, [6, 8]⟩,
     ⟨(some 14), (.load true 3), [.t 1], none, []⟩,
     ⟨(some 15), .call, [.f 58, .t 14], none, [10]⟩,
     ⟨none, (.store 3), [.t 2, .t 13], none, [9, 11, 0, 1, 2, 3, 4, 5, 6, 7, 8, 9]⟩,
     ⟨(some 3), .mov, [.t 15], none, [11, 12, 0, 1, 2, 3, 4, 5, 6, 7, 8, 9, 10, 11, 12]⟩] true)
   .ret))
def d38 : DFn := ⟨1, 16, [.cell 2 true 3, .tmp 3], b38⟩
theorem body38 : d38.body = b38 := rfl
theorem res38 : d38.res = [.cell 2 true 3, .tmp 3] := rfl
theorem k38 : chkFn Try.prog Try.f38 d38 = true := by kernel_rfl

def b39 : DCode :=
 (.seq
  (.region [⟨(some 2), .box, [.t 0], none, []⟩,
    ⟨(some 3), .box, [.t 1], none, []⟩,
    ⟨(some 4), .mov, [.c (.int .i64 0)], none, []⟩] false)
  (.seq
   (.region [⟨(some 5), (.faddr 0 true 2), [.t 2], none, []⟩,
     ⟨(some 6), (.iarr 2 1 true), [.t 5, .c (.int .i64 0)], none, [0]⟩,
     ⟨(some 7), (.load true 1), [.t 6], none, [1]⟩,
     ⟨(some 8), (.faddr 0 false 1), [.t 3], none, []⟩,
     ⟨(some 9), (.load false 1), [.t 8], none, [3]⟩,
     ⟨(some 10), .call, [.f 50, .t 7, .t 9], none, [2, 4]⟩,
     ⟨(some 11), .mov, [.t 10], none, [5, 5]⟩,
     ⟨(some 12), (.faddr 0 true 2), [.t 2], (some (11, true)), [6]⟩,
     ⟨(some 13), (.iarr 2 1 true), [.t 12, .c (.int .i64 1)], (some (11, true)), [7, 6]⟩,
     ⟨(some 14), (.load true 1), [.t 13], (some (11, true)), [8, 6]⟩,
     ⟨(some 15), (.faddr 1 false 1), [.t 3], (some (11, true)), [6]⟩,
     ⟨(some 16), (.load false 1), [.t 15], (some (11, true)), [10, 6]⟩,
     ⟨(some 17), .call, [.f 50, .t 14, .t 16], (some (11, true)), [9, 11, 6, 6]⟩,
     ⟨(some 18), .pick, [.t 11, .t 17, .c (.bool false)], none, [6, 12]⟩,
     ⟨(some 19), .call, [.f 31, .t 18, .c (.int .i64 2)], none, [13, 12]⟩,
     ⟨(some 4), .mov, [.t 19], none, [14, 14, 0, 1, 2, 3, 4, 5, 6, 7, 8, 9, 10, 11, 12, 13, 14]⟩] false)
   .ret))
def d39 : DFn := ⟨2, 20, [.tmp 4], b39⟩
theorem body39 : d39.body = b39 := rfl
theorem res39 : d39.res = [.tmp 4] := rfl
theorem k39 : chkFn Try.prog Try.f39 d39 = true := by kernel_rfl

def b47 : DCode :=
 (.seq
  (.region [⟨(some 2), .mov, [.c (.bool false)], none, []⟩] false)
  (.seq
   (.region [⟨(some 3), .mov, [.t 0], none, []⟩,
     ⟨(some 4), .call, [.f 48, .t 3, .c (.int .i64 0), .c (.int .i64 10000000)], none, [0]⟩,
     ⟨(some 2), .mov, [.t 4], none, [1, 1, 0, 1]⟩] false)
   .ret))
def d47 : DFn := ⟨1, 5, [.tmp 2], b47⟩
theorem body47 : d47.body = b47 := rfl
theorem res47 : d47.res = [.tmp 2] := rfl
theorem k47 : chkFn Try.prog Try.f47 d47 = true := by kernel_rfl

def b40 : DCode :=
 (.seq
  (.region [⟨(some 3), .box, [.t 0], none, []⟩,
    ⟨(some 6), .mov, [.c (.int .i64 0)], none, []⟩] false)
  (.seq
   (.region [⟨(some 8), (.load true 1), [.t 3], none, []⟩,
     ⟨(some 9), .mov, [.t 1], none, []⟩,
     ⟨(some 10), .call, [.f 51, .t 8, .t 9], none, [0, 1]⟩,
     ⟨(some 7), (.alloc [(.imm (.int .i64 0)), (.imm (.int .i64 0)), (.imm (.int .i64 0)), (.imm (.int .i64 0))]), [], none, []⟩,
     ⟨none, (.store 4), [.t 7, .t 10], none, [3, 2, 2, 0, 1, 2, 3]⟩] false)
   (.seq
    (.region [⟨(some 11), .mov, [.t 2], none, []⟩,
      ⟨(some 12), (.load true 4), [.t 7], none, []⟩,
      ⟨(some 13), .call, [.f 53, .t 12], none, [1]⟩,
      ⟨(some 14), (.bin .mul), [.t 11, .t 13], none, [0, 2]⟩,
      ⟨(some 15), (.load true 4), [.t 7], none, []⟩,
      ⟨(some 16), .call, [.f 52, .t 15], none, [4, 2]⟩,
      ⟨(some 17), (.bin .mul), [.c (.int .i64 1000), .t 16], none, [5]⟩,
      ⟨(some 18), (.bin .quo), [.t 14, .t 17], none, [3, 6]⟩,
      ⟨(some 19), .mov, [.t 1], none, []⟩,
      ⟨(some 20), (.load true 1), [.t 3], none, []⟩,
      ⟨(some 21), .call, [.f 41, .t 20], none, [9, 5]⟩,
      ⟨(some 22), (.field 1 false 1), [.t 21], none, [10]⟩,
      ⟨(some 23), (.bin .sub), [.t 19, .t 22], none, [8, 11]⟩,
      ⟨(some 24), (.mm false), [.t 18, .t 23], none, [7, 12]⟩,
      ⟨(some 6), .mov, [.t 24], none, [13, 10, 0, 1, 2, 3, 4, 5, 6, 7, 8, 9, 10, 11, 12, 13]⟩] true)
    .ret)))
def d40 : DFn := ⟨3, 25, [.tmp 6], b40⟩
theorem body40 : d40.body = b40 := rfl
theorem res40 : d40.res = [.tmp 6] := rfl
theorem k40 : chkFn Try.prog Try.f40 d40 = true := by kernel_rfl

def b50 : DCode :=
 (.seq
  (.region [⟨(some 2), .box, [.t 0], none, []⟩,
    ⟨(some 4), .mov, [.c (.bool false)], none, []⟩] false)
  (.seq
   (.region [⟨(some 5), .mov, [.t 1], none, []⟩,
     ⟨(some 6), (.load true 1), [.t 2], none, []⟩,
     ⟨(some 7), .call, [.f 41, .t 6], none, [1]⟩,
     ⟨(some 8), (.field 1 false 1), [.t 7], none, [2]⟩,
     ⟨(some 9), (.load true 1), [.t 2], none, []⟩,
     ⟨(some 10), .call, [.f 42, .t 9], none, [4, 2]⟩,
     ⟨(some 11), (.field 1 false 1), [.t 10], none, [5]⟩,
     ⟨(some 12), .call, [.f 48, .t 5, .t 8, .t 11], none, [0, 3, 6, 5]⟩,
     ⟨(some 4), .mov, [.t 12], none, [7, 7, 0, 1, 2, 3, 4, 5, 6, 7]⟩] true)
   .ret))
def d50 : DFn := ⟨2, 13, [.tmp 4], b50⟩
theorem body50 : d50.body = b50 := rfl
theorem res50 : d50.res = [.tmp 4] := rfl
theorem k50 : chkFn Try.prog Try.f50 d50 = true := by kernel_rfl

def b64 : DCode :=
 (.seq
  (.region [⟨(some 2), .box, [.t 0], none, []⟩,
    ⟨(some 4), (.alloc [(.imm (.int .i64 0)), (.imm (.int .i64 0)), (.imm (.int .i64 0)), (.imm (.int .i64 0))]), [], none, []⟩] false)
  (.seq
   (.region [⟨(some 6), (.faddr 0 true 1), [.t 2], none, []⟩,
     ⟨(some 7), (.faddr 0 false 1), [.t 6], none, [0]⟩,
     ⟨(some 8), (.load false 1), [.t 7], none, [1]⟩,
     ⟨(some 9), (.slice 2 true false), [.t 8, .c (.int .i64 1)], none, [2]⟩,
     ⟨(some 10), .mov, [.t 1], none, []⟩,
     ⟨(some 11), .call, [.f 71, .t 9, .t 10], none, [3, 4]⟩,
     ⟨(some 12), (.bin .add), [.c (.int .i64 1), .t 11], none, [5]⟩,
     ⟨(some 5), .mov, [.t 12], none, [6, 5, 0, 1, 2, 3, 4, 5, 6]⟩] false)
   (.seq
    (.region [⟨(some 13), (.faddr 0 true 1), [.t 2], none, []⟩,
      ⟨(some 14), (.faddr 0 false 1), [.t 13], none, [0]⟩,
      ⟨(some 15), (.load false 1), [.t 14], none, [1]⟩,
      ⟨(some 16), .mov, [.t 5], none, []⟩,
      ⟨(some 17), (.bin .sub), [.t 16, .c (.int .i64 1)], none, [3]⟩,
      ⟨(some 18), (.iaddr 2), [.t 15, .t 17], none, [2, 4]⟩,
      ⟨(some 19), (.load true 2), [.t 18], none, [5]⟩,
      ⟨(some 20), (.faddr 0 true 1), [.t 2], none, []⟩,
      ⟨(some 21), (.faddr 0 false 1), [.t 20], none, [7]⟩,
      ⟨(some 22), (.load false 1), [.t 21], none, [8]⟩,
      ⟨(some 23), .mov, [.t 5], none, []⟩,
      ⟨(some 24), (.iaddr 2), [.t 22, .t 23], none, [9, 10]⟩,
      ⟨(some 25), (.load true 2), [.t 24], none, [11]⟩,
      ⟨(some 26), (.build [(.imm (.int .i64 0)), (.imm (.int .i64 0)), (.imm (.int .i64 0)), (.imm (.int .i64 0))] [(0, 2), (2, 2)]), [.t 19, .t 25], none, [6, 12]⟩,
      ⟨none, (.store 4), [.t 4, .t 26], none, [13, 0, 1, 2, 3, 4, 5, 6, 7, 8, 9, 10, 11, 12, 13]⟩] true)
    .ret)))
def d64 : DFn := ⟨2, 27, [.cell 4 true 4], b64⟩
theorem body64 : d64.body = b64 := rfl
theorem res64 : d64.res = [.cell 4 true 4] := rfl
theorem k64 : chkFn Try.prog Try.f64 d64 = true := by kernel_rfl

def b65 : DCode :=
 (.seq
  (.region [⟨(some 2), .box, [.t 0], none, []⟩,
    ⟨(some 3), .mov, [.c (.bool false)], none, []⟩] false)
  (.seq
   (.region [⟨(some 4), (.faddr 1 false 1), [.t 2], none, []⟩,
     ⟨(some 5), (.load false 1), [.t 4], none, [0]⟩,
     ⟨(some 6), (.load false 1), [.t 1], none, []⟩,
     ⟨(some 7), (.bin .geq), [.t 5, .t 6], none, [1, 2]⟩,
     ⟨(some 3), .mov, [.t 7], none, [3, 0, 1, 2, 3]⟩] false)
   .ret))
def d65 : DFn := ⟨2, 8, [.tmp 3], b65⟩
theorem body65 : d65.body = b65 := rfl
theorem res65 : d65.res = [.tmp 3] := rfl
theorem k65 : chkFn Try.prog Try.f65 d65 = true := by kernel_rfl

def b71k0 : DCode :=
 (.region [⟨(some 18), (.bin .add), [.t 8, .c (.int .i64 1)], none, []⟩,
   ⟨(some 8), .mov, [.t 18], none, [0]⟩] false)
def b71k1 : DCode :=
 (.seq
  (.block 1
   (.seq
    (.region [⟨(some 10), .mov, [.t 8], none, []⟩,
      ⟨(some 5), .mov, [.t 10], none, [0, 0]⟩] false)
    (.seq
     (.region [⟨(some 11), .mov, [.t 1], none, []⟩,
       ⟨(some 12), .movv, [.t 0], none, []⟩,
       ⟨(some 13), .mov, [.t 5], none, []⟩,
       ⟨(some 14), (.iaddr 2), [.t 12, .t 13], none, [1, 2]⟩,
       ⟨(some 15), (.load true 2), [.t 14], none, [3]⟩,
       ⟨(some 16), .call, [.t 11, .t 15], none, [0, 4]⟩] false)
     (.cond (.t 16)
      (.seq
       (.region [⟨(some 17), .mov, [.t 5], none, []⟩,
         ⟨(some 4), .mov, [.t 17], none, [0, 0]⟩] false)
       .ret)
      .skip))))
  (.keep [0, 1, 7, 8] [] b71k0))
def b71l0 : DCode := .keep [0, 1, 7, 8] []
  (.seq
   (.region [⟨(some 9), (.bin .lss), [.t 8, .t 7], none, []⟩] false)
   (.seq
    (.cond (.t 9)
     .skip
     (.exit 0))
    (.keep [0, 1, 7, 8] [] b71k1)))
def b71k2 : DCode :=
 (.seq
  (.region [⟨(some 4), .mov, [.c (.int .i64 (-1))], none, []⟩] false)
  .ret)
def b71 : DCode :=
 (.seq
  (.region [⟨(some 4), .mov, [.c (.int .i64 0)], none, []⟩] false)
  (.seq
   (.seq
    (.region [⟨(some 6), .movv, [.t 0], none, []⟩,
      ⟨(some 7), .len, [.t 6], none, [0]⟩,
      ⟨(some 8), .mov, [.c (.int .i64 0)], none, []⟩] false)
    (.block 0
     (.loop b71l0)))
   (.keep [] [] b71k2)))
def d71 : DFn := ⟨2, 19, [.tmp 4], b71⟩
theorem body71 : d71.body = b71 := rfl
theorem res71 : d71.res = [.tmp 4] := rfl
theorem k71 : chkFn Try.prog Try.f71 d71 = true := by kernel_rfl

end Go.DI

