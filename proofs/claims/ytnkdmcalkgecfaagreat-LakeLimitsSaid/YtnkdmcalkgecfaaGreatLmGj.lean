/- The functions of the reference, as data. No condition. -/
import Derived.Test.YtnkdmcalkgecfaaGreatLmGe
import Derived.Test.YtnkdmcalkgecfaaGreatProg
import Derived.KernelRfl
/- The functions of the lakes' reference and of the statements, as data. No condition. -/
namespace Go.DI
open Go.Proofs Go.RowKit
def b15k0 : DCode :=
 (.seq
  (.region [⟨(some 11), (.load true 3), [.t 2], none, []⟩,
    ⟨(some 12), (.load true 2), [.t 3], none, []⟩,
    ⟨(some 13), .call, [.f 38, .t 11, .t 12], none, [0, 1]⟩,
    ⟨(some 4), .mov, [.t 13], none, [2, 2, 0, 1, 2]⟩] false)
  .ret)
def b15 : DCode :=
 (.seq
  (.region [⟨(some 2), .box, [.t 0], none, []⟩,
    ⟨(some 3), .box, [.t 1], none, []⟩,
    ⟨(some 4), .mov, [.c (.int .i64 0)], none, []⟩] false)
  (.seq
   (.seq
    (.region [⟨(some 6), (.load true 3), [.t 2], none, []⟩,
      ⟨(some 7), .call, [.f 12, .t 6], none, [0]⟩,
      ⟨(some 5), .mov, [.t 7], none, [1, 1, 0, 1]⟩] false)
    (.seq
     (.region [⟨(some 8), .mov, [.t 5], none, []⟩,
       ⟨(some 9), (.bin .neq), [.t 8, .c (.int .i64 0)], none, [0]⟩] false)
     (.cond (.t 9)
      (.seq
       (.region [⟨(some 10), .mov, [.t 5], none, []⟩,
         ⟨(some 4), .mov, [.t 10], none, [0, 0]⟩] false)
       .ret)
      .skip)))
   (.keep [2, 3] [2, 3] b15k0)))
def d15 : DFn := ⟨2, 14, [.tmp 4], b15⟩
theorem body15 : d15.body = b15 := rfl
theorem res15 : d15.res = [.tmp 4] := rfl
theorem k15 : chkFn Tryz.prog Tryz.f15 d15 = true := by kernel_rfl

def b10 : DCode :=
 (.seq
  (.region [⟨(some 1), .box, [.t 0], none, []⟩,
    ⟨(some 2), (.alloc [(.imm (.slc 2 [])), (.imm (.slc 2 [])), (.imm (.int .i64 0))]), [], none, []⟩] false)
  (.seq
   (.region [⟨(some 3), (.faddr 0 true 1), [.t 1], none, []⟩,
     ⟨(some 4), (.load true 1), [.t 3], none, [0]⟩,
     ⟨(some 5), .call, [.f 33, .t 4], none, [1]⟩,
     ⟨(some 6), (.faddr 1 true 1), [.t 1], none, []⟩,
     ⟨(some 7), (.load true 1), [.t 6], none, [3]⟩,
     ⟨(some 8), .call, [.f 33, .t 7], none, [4, 2]⟩,
     ⟨(some 9), (.faddr 2 false 1), [.t 1], none, []⟩,
     ⟨(some 10), (.load false 1), [.t 9], none, [6]⟩,
     ⟨(some 11), (.build [(.imm (.slc 2 [])), (.imm (.slc 2 [])), (.imm (.int .i64 0))] [(0, 1), (1, 1), (2, 1)]), [.t 5, .t 8, .t 10], none, [2, 5, 7]⟩,
     ⟨none, (.store 3), [.t 2, .t 11], none, [8, 5, 0, 1, 2, 3, 4, 5, 6, 7, 8]⟩] true)
   .ret))
def d10 : DFn := ⟨1, 12, [.cell 2 true 3], b10⟩
theorem body10 : d10.body = b10 := rfl
theorem res10 : d10.res = [.cell 2 true 3] := rfl
theorem k10 : chkFn Tryz.prog Tryz.f10 d10 = true := by kernel_rfl

def b12k0 : DCode :=
 (.seq
  (.region [⟨(some 2), .mov, [.c (.int .i64 0)], none, []⟩] false)
  .ret)
def b12k1 : DCode :=
 (.seq
  (.seq
   (.region [⟨(some 17), (.faddr 2 false 1), [.t 1], none, []⟩,
     ⟨(some 18), (.load false 1), [.t 17], none, [0]⟩,
     ⟨(some 19), .call, [.f 20, .t 18, .c (.int .i64 0), .c (.int .i64 1000)], none, [1]⟩,
     ⟨(some 20), (.un .not), [.t 19], none, [2]⟩] false)
   (.cond (.t 20)
    (.seq
     (.region [⟨(some 2), .mov, [.c (.int .i64 2)], none, []⟩] false)
     .ret)
    .skip))
  (.keep [] [] b12k0))
def b12k2 : DCode :=
 (.seq
  (.seq
   (.region [⟨(some 11), (.faddr 1 true 1), [.t 1], none, []⟩,
     ⟨(some 12), (.load true 1), [.t 11], none, [0]⟩,
     ⟨(some 13), .call, [.f 34, .t 12], none, [1]⟩,
     ⟨(some 4), .mov, [.t 13], none, [2, 2, 0, 1, 2]⟩] false)
   (.seq
    (.region [⟨(some 14), .mov, [.t 4], none, []⟩,
      ⟨(some 15), (.bin .neq), [.t 14, .c (.int .i64 0)], none, [0]⟩] false)
    (.cond (.t 15)
     (.seq
      (.region [⟨(some 16), .mov, [.t 4], none, []⟩,
        ⟨(some 2), .mov, [.t 16], none, [0, 0]⟩] false)
      .ret)
     .skip)))
  (.keep [1] [1] b12k1))
def b12 : DCode :=
 (.seq
  (.region [⟨(some 1), .box, [.t 0], none, []⟩,
    ⟨(some 2), .mov, [.c (.int .i64 0)], none, []⟩] false)
  (.seq
   (.seq
    (.region [⟨(some 5), (.faddr 0 true 1), [.t 1], none, []⟩,
      ⟨(some 6), (.load true 1), [.t 5], none, [0]⟩,
      ⟨(some 7), .call, [.f 34, .t 6], none, [1]⟩,
      ⟨(some 3), .mov, [.t 7], none, [2, 2, 0, 1, 2]⟩] false)
    (.seq
     (.region [⟨(some 8), .mov, [.t 3], none, []⟩,
       ⟨(some 9), (.bin .neq), [.t 8, .c (.int .i64 0)], none, [0]⟩] false)
     (.cond (.t 9)
      (.seq
       (.region [⟨(some 10), .mov, [.t 3], none, []⟩,
         ⟨(some 2), .mov, [.t 10], none, [0, 0]⟩] false)
       .ret)
      .skip)))
   (.keep [1] [1] b12k2)))
def d12 : DFn := ⟨1, 21, [.tmp 2], b12⟩
theorem body12 : d12.body = b12 := rfl
theorem res12 : d12.res = [.tmp 2] := rfl
theorem k12 : chkFn Tryz.prog Tryz.f12 d12 = true := by kernel_rfl

def b65k0 : DCode :=
 (.seq
  (.region [⟨(some 2), .mov, [.c (.int .i64 0)], none, []⟩] false)
  .ret)
def b65 : DCode :=
 (.seq
  (.region [⟨(some 1), .box, [.t 0], none, []⟩,
    ⟨(some 2), .mov, [.c (.int .i64 0)], none, []⟩] false)
  (.seq
   (.seq
    (.region [⟨(some 3), (.faddr 0 false 1), [.t 1], none, []⟩,
      ⟨(some 4), (.load false 1), [.t 3], none, [0]⟩,
      ⟨(some 5), .call, [.f 20, .t 4, .c (.int .i64 0), .c (.int .i64 10000000)], none, [1]⟩,
      ⟨(some 6), (.un .not), [.t 5], none, [2]⟩,
      ⟨(some 7), .mov, [.t 6], none, [3, 2]⟩,
      ⟨(some 8), (.faddr 1 false 1), [.t 1], (some (7, false)), [4]⟩,
      ⟨(some 9), (.load false 1), [.t 8], (some (7, false)), [5, 4]⟩,
      ⟨(some 10), .call, [.f 20, .t 9, .c (.int .i64 0), .c (.int .i64 10000000)], (some (7, false)), [6, 4, 4]⟩,
      ⟨(some 11), (.un .not), [.t 10], (some (7, false)), [7, 4]⟩,
      ⟨(some 12), .pick, [.t 7, .c (.bool true), .t 11], none, [4, 8]⟩,
      ⟨(some 13), .mov, [.t 12], none, [9, 7]⟩,
      ⟨(some 14), (.faddr 2 false 1), [.t 1], (some (13, false)), [10]⟩,
      ⟨(some 15), (.load false 1), [.t 14], (some (13, false)), [11, 10]⟩,
      ⟨(some 16), .call, [.f 20, .t 15, .c (.int .i64 (-10000000)), .c (.int .i64 10000000)], (some (13, false)), [12, 10, 10]⟩,
      ⟨(some 17), (.un .not), [.t 16], (some (13, false)), [13, 10]⟩,
      ⟨(some 18), .pick, [.t 13, .c (.bool true), .t 17], none, [10, 14]⟩] false)
    (.cond (.t 18)
     (.seq
      (.region [⟨(some 2), .mov, [.c (.int .i64 2)], none, []⟩] false)
      .ret)
     .skip))
   (.keep [] [] b65k0)))
def d65 : DFn := ⟨1, 19, [.tmp 2], b65⟩
theorem body65 : d65.body = b65 := rfl
theorem res65 : d65.res = [.tmp 2] := rfl
theorem k65 : chkFn Tryz.prog Tryz.f65 d65 = true := by kernel_rfl

def b66k0 : DCode :=
 (.seq
  (.region [⟨(some 65), .mov, [.t 11], none, []⟩,
    ⟨(some 66), (.faddr 0 true 1), [.t 3], none, []⟩,
    ⟨(some 67), (.load true 1), [.t 66], none, [1]⟩,
    ⟨(some 68), .call, [.f 46, .t 67], none, [2]⟩,
    ⟨(some 69), (.field 1 false 1), [.t 68], none, [3]⟩,
    ⟨(some 70), (.bin .sub), [.t 65, .t 69], none, [0, 4]⟩,
    ⟨(some 71), (.mm true), [.c (.int .i64 0), .t 70], none, [5]⟩,
    ⟨(some 72), .mov, [.t 12], none, []⟩,
    ⟨(some 73), (.faddr 1 true 1), [.t 3], none, []⟩,
    ⟨(some 74), (.load true 1), [.t 73], none, [8]⟩,
    ⟨(some 75), .call, [.f 46, .t 74], none, [9, 3]⟩,
    ⟨(some 76), (.field 1 false 1), [.t 75], none, [10]⟩,
    ⟨(some 77), (.bin .sub), [.t 72, .t 76], none, [7, 11]⟩,
    ⟨(some 78), (.mm true), [.c (.int .i64 0), .t 77], none, [12]⟩,
    ⟨(some 13), .mov, [.t 71], none, [6, 10, 0, 1, 2, 3, 4, 5, 6]⟩,
    ⟨(some 14), .mov, [.t 78], none, [13, 14, 0, 1, 2, 3, 4, 5, 6, 7, 8, 9, 10, 11, 12, 13, 14]⟩] true)
  (.seq
   (.region [⟨(some 79), .mov, [.t 11], none, []⟩,
     ⟨(some 80), .mov, [.t 13], none, []⟩,
     ⟨(some 81), (.bin .sub), [.t 79, .t 80], none, [0, 1]⟩,
     ⟨(some 82), .mov, [.t 12], none, []⟩,
     ⟨(some 83), .mov, [.t 14], none, []⟩,
     ⟨(some 84), (.bin .sub), [.t 82, .t 83], none, [3, 4]⟩,
     ⟨(some 85), (.build [(.imm (.int .i64 0)), (.imm (.int .i64 0))] [(0, 1), (1, 1)]), [.t 81, .t 84], none, [2, 5]⟩,
     ⟨(some 86), .mov, [.t 9], none, []⟩,
     ⟨(some 87), .mov, [.t 10], none, []⟩,
     ⟨(some 88), (.bin .add), [.t 86, .t 87], none, [7, 8]⟩,
     ⟨(some 89), .mov, [.t 13], none, []⟩,
     ⟨(some 90), .mov, [.t 14], none, []⟩,
     ⟨(some 91), (.bin .add), [.t 89, .t 90], none, [10, 11]⟩,
     ⟨(some 92), (.build [(.imm (.int .i64 0)), (.imm (.int .i64 0))] [(0, 1), (1, 1)]), [.t 88, .t 91], none, [9, 12]⟩,
     ⟨none, (.store 2), [.t 6, .t 85], none, [6, 0, 1, 2, 3, 4, 5, 6]⟩,
     ⟨none, (.store 2), [.t 7, .t 92], none, [13, 14, 0, 1, 2, 3, 4, 5, 6, 7, 8, 9, 10, 11, 12, 13, 14]⟩,
     ⟨(some 8), .mov, [.c (.bool true)], none, [15, 0, 1, 2, 3, 4, 5, 6, 7, 8, 9, 10, 11, 12, 13, 14, 15]⟩] false)
   .ret))
def b66 : DCode :=
 (.seq
  (.region [⟨(some 3), .box, [.t 0], none, []⟩,
    ⟨(some 4), .box, [.t 1], none, []⟩,
    ⟨(some 5), .box, [.t 2], none, []⟩,
    ⟨(some 6), (.alloc [(.imm (.int .i64 0)), (.imm (.int .i64 0))]), [], none, []⟩,
    ⟨(some 7), (.alloc [(.imm (.int .i64 0)), (.imm (.int .i64 0))]), [], none, []⟩,
    ⟨(some 8), .mov, [.c (.bool false)], none, []⟩] false)
  (.seq
   (.region [⟨(some 15), (.faddr 0 true 1), [.t 3], none, []⟩,
     ⟨(some 16), (.load true 1), [.t 15], none, [0]⟩,
     ⟨(some 17), (.faddr 2 false 1), [.t 3], none, []⟩,
     ⟨(some 18), (.load false 1), [.t 17], none, [2]⟩,
     ⟨(some 19), (.faddr 0 false 1), [.t 4], none, []⟩,
     ⟨(some 20), (.load false 1), [.t 19], none, [4]⟩,
     ⟨(some 21), .call, [.f 93, .t 16, .t 18, .t 20], none, [1, 3, 5]⟩,
     ⟨(some 22), (.faddr 1 true 1), [.t 3], none, []⟩,
     ⟨(some 23), (.load true 1), [.t 22], none, [7]⟩,
     ⟨(some 24), (.faddr 2 false 1), [.t 3], none, []⟩,
     ⟨(some 25), (.load false 1), [.t 24], none, [9]⟩,
     ⟨(some 26), (.faddr 1 false 1), [.t 4], none, []⟩,
     ⟨(some 27), (.load false 1), [.t 26], none, [11]⟩,
     ⟨(some 28), .call, [.f 93, .t 23, .t 25, .t 27], none, [8, 10, 12, 6]⟩,
     ⟨(some 9), .mov, [.t 21], none, [6, 13, 0, 1, 2, 3, 4, 5, 6]⟩,
     ⟨(some 10), .mov, [.t 28], none, [13, 14, 0, 1, 2, 3, 4, 5, 6, 7, 8, 9, 10, 11, 12, 13, 14]⟩] true)
   (.seq
    (.region [⟨(some 29), (.faddr 0 false 1), [.t 4], none, []⟩,
      ⟨(some 30), (.load false 1), [.t 29], none, [0]⟩,
      ⟨(some 31), .mov, [.t 9], none, []⟩,
      ⟨(some 32), (.bin .sub), [.t 30, .t 31], none, [1, 2]⟩,
      ⟨(some 33), (.faddr 0 false 1), [.t 5], none, []⟩,
      ⟨(some 34), (.load false 1), [.t 33], none, [4]⟩,
      ⟨(some 35), (.bin .add), [.t 32, .t 34], none, [3, 5]⟩,
      ⟨(some 36), (.faddr 2 false 1), [.t 5], none, []⟩,
      ⟨(some 37), (.load false 1), [.t 36], none, [7]⟩,
      ⟨(some 38), (.bin .add), [.t 35, .t 37], none, [6, 8]⟩,
      ⟨(some 39), (.faddr 1 false 1), [.t 4], none, []⟩,
      ⟨(some 40), (.load false 1), [.t 39], none, [10]⟩,
      ⟨(some 41), .mov, [.t 10], none, []⟩,
      ⟨(some 42), (.bin .sub), [.t 40, .t 41], none, [11, 12]⟩,
      ⟨(some 43), (.faddr 1 false 1), [.t 5], none, []⟩,
      ⟨(some 44), (.load false 1), [.t 43], none, [14]⟩,
      ⟨(some 45), (.bin .add), [.t 42, .t 44], none, [13, 15]⟩,
      ⟨(some 46), (.faddr 2 false 1), [.t 5], none, []⟩,
      ⟨(some 47), (.load false 1), [.t 46], none, [17]⟩,
      ⟨(some 48), (.bin .sub), [.t 45, .t 47], none, [16, 18]⟩,
      ⟨(some 11), .mov, [.t 38], none, [9, 0, 1, 2, 3, 4, 5, 6, 7, 8, 9]⟩,
      ⟨(some 12), .mov, [.t 48], none, [19, 20, 0, 1, 2, 3, 4, 5, 6, 7, 8, 9, 10, 11, 12, 13, 14, 15, 16, 17, 18, 19, 20]⟩] true)
    (.seq
     (.seq
      (.region [⟨(some 49), .mov, [.t 11], none, []⟩,
        ⟨(some 50), (.faddr 0 true 1), [.t 3], none, []⟩,
        ⟨(some 51), (.load true 1), [.t 50], none, [1]⟩,
        ⟨(some 52), .call, [.f 45, .t 51], none, [2]⟩,
        ⟨(some 53), (.field 1 false 1), [.t 52], none, [3]⟩,
        ⟨(some 54), (.bin .lss), [.t 49, .t 53], none, [0, 4]⟩,
        ⟨(some 55), .mov, [.t 54], none, [5, 3]⟩,
        ⟨(some 56), .mov, [.t 12], (some (55, false)), [6]⟩,
        ⟨(some 57), (.faddr 1 true 1), [.t 3], (some (55, false)), [6]⟩,
        ⟨(some 58), (.load true 1), [.t 57], (some (55, false)), [8, 6]⟩,
        ⟨(some 59), .call, [.f 45, .t 58], (some (55, false)), [9, 6, 6]⟩,
        ⟨(some 60), (.field 1 false 1), [.t 59], (some (55, false)), [10, 6]⟩,
        ⟨(some 61), (.bin .lss), [.t 56, .t 60], (some (55, false)), [7, 11, 6]⟩,
        ⟨(some 62), .pick, [.t 55, .c (.bool true), .t 61], none, [6, 12]⟩] false)
      (.cond (.t 62)
       (.seq
        (.region [⟨(some 63), (.build [(.imm (.int .i64 0)), (.imm (.int .i64 0))] []), [], none, []⟩,
          ⟨(some 64), (.build [(.imm (.int .i64 0)), (.imm (.int .i64 0))] []), [], none, []⟩,
          ⟨none, (.store 2), [.t 6, .t 63], none, [0, 0]⟩,
          ⟨none, (.store 2), [.t 7, .t 64], none, [1, 2, 0, 1, 2]⟩,
          ⟨(some 8), .mov, [.c (.bool false)], none, [3, 0, 1, 2, 3]⟩] false)
        .ret)
       .skip))
     (.keep [3, 6, 7, 9, 10, 11, 12] [3, 6, 7] b66k0)))))
def d66 : DFn := ⟨3, 93, [.cell 6 true 2, .cell 7 true 2, .tmp 8], b66⟩
theorem body66 : d66.body = b66 := rfl
theorem res66 : d66.res = [.cell 6 true 2, .cell 7 true 2, .tmp 8] := rfl
theorem k66 : chkFn Tryz.prog Tryz.f66 d66 = true := by kernel_rfl

def b33 : DCode :=
 (.seq
  (.region [⟨(some 1), .box, [.t 0], none, []⟩,
    ⟨(some 2), (.alloc [(.imm (.slc 2 []))]), [], none, []⟩] false)
  (.seq
   (.region [⟨(some 3), (.bsl 2), [], none, []⟩,
     ⟨(some 4), (.faddr 0 false 1), [.t 1], none, []⟩,
     ⟨(some 5), (.load false 1), [.t 4], none, [1]⟩,
     ⟨(some 6), (.append 2 16 false), [.t 3, .t 5], none, [0, 2]⟩,
     ⟨(some 7), (.build [(.imm (.slc 2 []))] [(0, 1)]), [.t 6], none, [3]⟩,
     ⟨none, (.store 1), [.t 2, .t 7], none, [4, 3, 0, 1, 2, 3, 4]⟩] false)
   .ret))
def d33 : DFn := ⟨1, 8, [.cell 2 true 1], b33⟩
theorem body33 : d33.body = b33 := rfl
theorem res33 : d33.res = [.cell 2 true 1] := rfl
theorem k33 : chkFn Tryz.prog Tryz.f33 d33 = true := by kernel_rfl

def b60k0 : DCode :=
 (.seq
  (.region [⟨(some 62), .mov, [.t 4], none, []⟩,
    ⟨(some 63), (.bin .gtr), [.t 62, .c (.int .i64 1)], none, [0]⟩,
    ⟨(some 64), .mov, [.t 63], none, [1]⟩,
    ⟨(some 65), (.load true 1), [.t 1], (some (64, true)), [2]⟩,
    ⟨(some 66), .mov, [.t 4], (some (64, true)), [2]⟩,
    ⟨(some 67), .call, [.f 90, .t 65, .t 66], (some (64, true)), [3, 4, 2, 2]⟩,
    ⟨(some 68), (.load true 1), [.t 1], (some (64, true)), [2]⟩,
    ⟨(some 69), .mov, [.t 4], (some (64, true)), [2]⟩,
    ⟨(some 70), (.bin .sub), [.t 69, .c (.int .i64 1)], (some (64, true)), [7, 2]⟩,
    ⟨(some 71), .call, [.f 90, .t 68, .t 70], (some (64, true)), [6, 8, 5, 2]⟩,
    ⟨(some 72), .call, [.f 71, .t 67, .t 71], (some (64, true)), [5, 9, 9, 2]⟩,
    ⟨(some 73), (.bin .lss), [.t 72, .c (.int .i64 0)], (some (64, true)), [10, 2]⟩,
    ⟨(some 74), .pick, [.t 64, .t 73, .c (.bool false)], none, [2, 11]⟩] true)
  (.cond (.t 74)
   (.seq
    (.region [⟨(some 75), .mov, [.t 4], none, []⟩,
      ⟨(some 2), .mov, [.t 75], none, [0, 0]⟩,
      ⟨(some 3), .mov, [.c (.int .i64 22)], none, [1, 0, 1]⟩] false)
    .ret)
   .skip))
def b60k1 : DCode :=
 (.seq
  (.seq
   (.region [⟨(some 39), (.faddr 0 false 1), [.t 5], none, []⟩,
     ⟨(some 40), (.load false 1), [.t 39], none, [0]⟩,
     ⟨(some 41), (.faddr 0 false 1), [.t 1], none, []⟩,
     ⟨(some 42), (.load false 1), [.t 41], none, [2]⟩,
     ⟨(some 43), .mov, [.t 4], none, []⟩,
     ⟨(some 44), (.bin .sub), [.t 43, .c (.int .i64 1)], none, [4]⟩,
     ⟨(some 45), (.iaddr 2), [.t 42, .t 44], none, [3, 5]⟩,
     ⟨(some 46), (.faddr 0 false 1), [.t 45], none, [6]⟩,
     ⟨(some 47), (.load false 1), [.t 46], none, [7]⟩,
     ⟨(some 48), (.bin .leq), [.t 40, .t 47], none, [1, 8]⟩,
     ⟨(some 49), .mov, [.t 48], none, [9]⟩,
     ⟨(some 50), (.faddr 1 false 1), [.t 5], (some (49, false)), [10]⟩,
     ⟨(some 51), (.load false 1), [.t 50], (some (49, false)), [11, 10]⟩,
     ⟨(some 52), (.faddr 0 false 1), [.t 1], (some (49, false)), [10]⟩,
     ⟨(some 53), (.load false 1), [.t 52], (some (49, false)), [13, 10]⟩,
     ⟨(some 54), .mov, [.t 4], (some (49, false)), [10]⟩,
     ⟨(some 55), (.bin .sub), [.t 54, .c (.int .i64 1)], (some (49, false)), [15, 10]⟩,
     ⟨(some 56), (.iaddr 2), [.t 53, .t 55], (some (49, false)), [14, 16, 10]⟩,
     ⟨(some 57), (.faddr 1 false 1), [.t 56], (some (49, false)), [17, 10]⟩,
     ⟨(some 58), (.load false 1), [.t 57], (some (49, false)), [18, 10]⟩,
     ⟨(some 59), (.bin .leq), [.t 51, .t 58], (some (49, false)), [12, 19, 10]⟩,
     ⟨(some 60), .pick, [.t 49, .c (.bool true), .t 59], none, [10, 20]⟩] true)
   (.cond (.t 60)
    (.seq
     (.region [⟨(some 61), .mov, [.t 4], none, []⟩,
       ⟨(some 2), .mov, [.t 61], none, [0, 0]⟩,
       ⟨(some 3), .mov, [.c (.int .i64 9)], none, [1, 0, 1]⟩] false)
     .ret)
    .skip))
  (.keep [1, 4] [1] b60k0))
def b60k2 : DCode :=
 (.seq
  (.seq
   (.region [⟨(some 37), .mov, [.t 4], none, []⟩,
     ⟨(some 38), (.bin .eql), [.t 37, .c (.int .i64 0)], none, [0]⟩] false)
   (.cond (.t 38)
    (.exit 1)
    .skip))
  (.keep [1, 4, 5] [1, 5] b60k1))
def b60k3 : DCode :=
 (.region [⟨(some 19), .mov, [.t 4], none, []⟩,
   ⟨(some 20), (.bin .add), [.t 19, .c (.int .i64 1)], none, [0]⟩,
   ⟨(some 4), .mov, [.t 20], none, [1, 0, 1]⟩] false)
def b60k4 : DCode :=
 (.seq
  (.block 1
   (.seq
    (.region [⟨(some 21), (.faddr 0 false 1), [.t 1], none, []⟩,
      ⟨(some 22), (.load false 1), [.t 21], none, [0]⟩,
      ⟨(some 23), .mov, [.t 4], none, []⟩,
      ⟨(some 24), (.iaddr 2), [.t 22, .t 23], none, [1, 2]⟩,
      ⟨(some 25), (.load true 2), [.t 24], none, [3]⟩,
      ⟨(some 5), (.alloc [(.imm (.int .i64 0)), (.imm (.int .i64 0))]), [], none, []⟩,
      ⟨none, (.store 2), [.t 5, .t 25], none, [5, 4, 0, 1, 2, 3, 4, 5]⟩] false)
    (.seq
     (.seq
      (.region [⟨(some 26), (.faddr 0 false 1), [.t 5], none, []⟩,
        ⟨(some 27), (.load false 1), [.t 26], none, [0]⟩,
        ⟨(some 28), .call, [.f 20, .t 27, .c (.int .i64 0), .c (.int .i64 1000000)], none, [1]⟩,
        ⟨(some 29), (.un .not), [.t 28], none, [2]⟩,
        ⟨(some 30), .mov, [.t 29], none, [3, 2]⟩,
        ⟨(some 31), (.faddr 1 false 1), [.t 5], (some (30, false)), [4]⟩,
        ⟨(some 32), (.load false 1), [.t 31], (some (30, false)), [5, 4]⟩,
        ⟨(some 33), .call, [.f 20, .t 32, .c (.int .i64 0), .c (.int .i64 1000000000)], (some (30, false)), [6, 4, 4]⟩,
        ⟨(some 34), (.un .not), [.t 33], (some (30, false)), [7, 4]⟩,
        ⟨(some 35), .pick, [.t 30, .c (.bool true), .t 34], none, [4, 8]⟩] false)
      (.cond (.t 35)
       (.seq
        (.region [⟨(some 36), .mov, [.t 4], none, []⟩,
          ⟨(some 2), .mov, [.t 36], none, [0, 0]⟩,
          ⟨(some 3), .mov, [.c (.int .i64 2)], none, [1, 0, 1]⟩] false)
        .ret)
       .skip))
     (.keep [1, 4, 5] [1, 5] b60k2))))
  (.keep [1, 4] [1] b60k3))
def b60l0 : DCode := .keep [1, 4] [1]
  (.seq
   (.seq
    (.region [⟨(some 14), .mov, [.t 4], none, []⟩,
      ⟨(some 15), (.faddr 0 false 1), [.t 1], none, []⟩,
      ⟨(some 16), (.load false 1), [.t 15], none, [1]⟩,
      ⟨(some 17), .len, [.t 16], none, [2]⟩,
      ⟨(some 18), (.bin .lss), [.t 14, .t 17], none, [0, 3]⟩] false)
    (.cond (.t 18)
     .skip
     (.exit 0)))
   (.keep [1, 4] [1] b60k4))
def b60k5 : DCode :=
 (.seq
  (.region [⟨(some 2), .mov, [.c (.int .i64 0)], none, []⟩,
    ⟨(some 3), .mov, [.c (.int .i64 0)], none, [0, 0]⟩] false)
  .ret)
def b60k6 : DCode :=
 (.seq
  (.seq
   (.region [⟨(some 4), .mov, [.c (.int .i64 0)], none, []⟩] false)
   (.block 0
    (.loop b60l0)))
  (.keep [] [] b60k5))
def b60k7 : DCode :=
 (.seq
  (.seq
   (.region [⟨(some 10), (.faddr 0 false 1), [.t 1], none, []⟩,
     ⟨(some 11), (.load false 1), [.t 10], none, [0]⟩,
     ⟨(some 12), .len, [.t 11], none, [1]⟩,
     ⟨(some 13), (.bin .gtr), [.t 12, .c (.int .i64 10)], none, [2]⟩] false)
   (.cond (.t 13)
    (.seq
     (.region [⟨(some 2), .mov, [.c (.int .i64 0)], none, []⟩,
       ⟨(some 3), .mov, [.c (.int .i64 8)], none, [0, 0]⟩] false)
     .ret)
    .skip))
  (.keep [1] [1] b60k6))
def b60 : DCode :=
 (.seq
  (.region [⟨(some 1), .box, [.t 0], none, []⟩,
    ⟨(some 2), .mov, [.c (.int .i64 0)], none, []⟩,
    ⟨(some 3), .mov, [.c (.int .i64 0)], none, [1]⟩] false)
  (.seq
   (.seq
    (.region [⟨(some 6), (.faddr 0 false 1), [.t 1], none, []⟩,
      ⟨(some 7), (.load false 1), [.t 6], none, [0]⟩,
      ⟨(some 8), .len, [.t 7], none, [1]⟩,
      ⟨(some 9), (.bin .lss), [.t 8, .c (.int .i64 2)], none, [2]⟩] false)
    (.cond (.t 9)
     (.seq
      (.region [⟨(some 2), .mov, [.c (.int .i64 0)], none, []⟩,
        ⟨(some 3), .mov, [.c (.int .i64 10)], none, [0, 0]⟩] false)
      .ret)
     .skip))
   (.keep [1] [1] b60k7)))
def d60 : DFn := ⟨1, 76, [.tmp 2, .tmp 3], b60⟩
theorem body60 : d60.body = b60 := rfl
theorem res60 : d60.res = [.tmp 2, .tmp 3] := rfl
theorem k60 : chkFn Tryz.prog Tryz.f60 d60 = true := by kernel_rfl

def b61 : DCode :=
 (.seq
  (.region [⟨(some 2), .box, [.t 0], none, []⟩,
    ⟨(some 4), .mov, [.c (.bool false)], none, []⟩] false)
  (.seq
   (.region [⟨(some 5), .mov, [.t 1], none, []⟩,
     ⟨(some 6), (.load true 1), [.t 2], none, []⟩,
     ⟨(some 7), .call, [.f 45, .t 6], none, [1]⟩,
     ⟨(some 8), (.field 0 false 1), [.t 7], none, [2]⟩,
     ⟨(some 9), (.load true 1), [.t 2], none, []⟩,
     ⟨(some 10), .call, [.f 46, .t 9], none, [4, 2]⟩,
     ⟨(some 11), (.field 0 false 1), [.t 10], none, [5]⟩,
     ⟨(some 12), .call, [.f 20, .t 5, .t 8, .t 11], none, [0, 3, 6, 5]⟩,
     ⟨(some 4), .mov, [.t 12], none, [7, 7, 0, 1, 2, 3, 4, 5, 6, 7]⟩] true)
   .ret))
def d61 : DFn := ⟨2, 13, [.tmp 4], b61⟩
theorem body61 : d61.body = b61 := rfl
theorem res61 : d61.res = [.tmp 4] := rfl
theorem k61 : chkFn Tryz.prog Tryz.f61 d61 = true := by kernel_rfl

def b64 : DCode :=
 (.seq
  (.region [⟨(some 2), .box, [.t 0], none, []⟩,
    ⟨(some 4), .mov, [.c (.bool false)], none, []⟩] false)
  (.seq
   (.region [⟨(some 5), .mov, [.t 1], none, []⟩,
     ⟨(some 6), (.load true 1), [.t 2], none, []⟩,
     ⟨(some 7), .call, [.f 45, .t 6], none, [1]⟩,
     ⟨(some 8), (.field 1 false 1), [.t 7], none, [2]⟩,
     ⟨(some 9), (.load true 1), [.t 2], none, []⟩,
     ⟨(some 10), .call, [.f 46, .t 9], none, [4, 2]⟩,
     ⟨(some 11), (.field 1 false 1), [.t 10], none, [5]⟩,
     ⟨(some 12), .call, [.f 20, .t 5, .t 8, .t 11], none, [0, 3, 6, 5]⟩,
     ⟨(some 4), .mov, [.t 12], none, [7, 7, 0, 1, 2, 3, 4, 5, 6, 7]⟩] true)
   .ret))
def d64 : DFn := ⟨2, 13, [.tmp 4], b64⟩
theorem body64 : d64.body = b64 := rfl
theorem res64 : d64.res = [.tmp 4] := rfl
theorem k64 : chkFn Tryz.prog Tryz.f64 d64 = true := by kernel_rfl

def b34 : DCode :=
 (.seq
  (.region [⟨(some 1), .box, [.t 0], none, []⟩,
    ⟨(some 2), .mov, [.c (.int .i64 0)], none, []⟩] false)
  (.seq
   (.region [⟨(some 6), (.load true 1), [.t 1], none, []⟩,
     ⟨(some 7), .call, [.f 60, .t 6], none, [0]⟩,
     ⟨(some 5), .mov, [.t 7], none, [1]⟩,
     ⟨(some 8), (.ext 0), [.t 5], none, [2]⟩,
     ⟨(some 9), (.ext 1), [.t 5], none, [2]⟩,
     ⟨(some 3), .mov, [.t 8], none, [3, 1, 0, 1, 2, 3]⟩,
     ⟨(some 4), .mov, [.t 9], none, [4, 5, 0, 1, 2, 3, 4, 5]⟩] false)
   (.seq
    (.region [⟨(some 10), .mov, [.t 4], none, []⟩,
      ⟨(some 2), .mov, [.t 10], none, [0, 0]⟩] false)
    .ret)))
def d34 : DFn := ⟨1, 11, [.tmp 2], b34⟩
theorem body34 : d34.body = b34 := rfl
theorem res34 : d34.res = [.tmp 2] := rfl
theorem k34 : chkFn Tryz.prog Tryz.f34 d34 = true := by kernel_rfl

def b46 : DCode :=
 (.seq
  (.region [⟨(some 1), .box, [.t 0], none, []⟩,
    ⟨(some 2), (.alloc [(.imm (.int .i64 0)), (.imm (.int .i64 0))]), [], none, []⟩] false)
  (.seq
   (.region [⟨(some 3), (.faddr 0 false 1), [.t 1], none, []⟩,
     ⟨(some 4), (.load false 1), [.t 3], none, [0]⟩,
     ⟨(some 5), (.faddr 0 false 1), [.t 1], none, []⟩,
     ⟨(some 6), (.load false 1), [.t 5], none, [2]⟩,
     ⟨(some 7), .len, [.t 6], none, [3]⟩,
     ⟨(some 8), (.bin .sub), [.t 7, .c (.int .i64 1)], none, [4]⟩,
     ⟨(some 9), (.iaddr 2), [.t 4, .t 8], none, [1, 5]⟩,
     ⟨(some 10), (.load true 2), [.t 9], none, [6]⟩,
     ⟨none, (.store 2), [.t 2, .t 10], none, [7, 0, 1, 2, 3, 4, 5, 6, 7]⟩] false)
   .ret))
def d46 : DFn := ⟨1, 11, [.cell 2 true 2], b46⟩
theorem body46 : d46.body = b46 := rfl
theorem res46 : d46.res = [.cell 2 true 2] := rfl
theorem k46 : chkFn Tryz.prog Tryz.f46 d46 = true := by kernel_rfl

def b21 : DCode :=
 (.seq
  (.region [⟨(some 2), .mov, [.c (.slc 3 [])], none, []⟩] false)
  (.seq
   (.region [⟨(some 3), (.bsl 3), [], none, []⟩,
     ⟨(some 4), .movv, [.t 0], none, []⟩,
     ⟨(some 5), (.append 3 24 false), [.t 3, .t 4], none, [0, 1]⟩,
     ⟨(some 2), .movv, [.t 5], none, [2, 2, 0, 1, 2]⟩] false)
   .ret))
def d21 : DFn := ⟨1, 6, [.tmp 2], b21⟩
theorem body21 : d21.body = b21 := rfl
theorem res21 : d21.res = [.tmp 2] := rfl
theorem k21 : chkFn Tryz.prog Tryz.f21 d21 = true := by kernel_rfl

def b39k0 : DCode :=
 (.region [⟨(some 12), .mov, [.t 3], none, []⟩,
   ⟨(some 13), (.bin .add), [.t 12, .c (.int .i64 1)], none, [0]⟩,
   ⟨(some 3), .mov, [.t 13], none, [1, 0, 1]⟩] false)
def b39k1 : DCode :=
 (.seq
  (.block 1
   (.seq
    (.region [⟨(some 14), .movv, [.t 0], none, []⟩,
      ⟨(some 15), .mov, [.t 3], none, []⟩,
      ⟨(some 16), (.iaddr 3), [.t 14, .t 15], none, [0, 1]⟩,
      ⟨(some 17), (.load true 3), [.t 16], none, [2]⟩,
      ⟨(some 18), .call, [.f 65, .t 17], none, [3]⟩,
      ⟨(some 4), .mov, [.t 18], none, [4, 4, 0, 1, 2, 3, 4]⟩] false)
    (.seq
     (.region [⟨(some 19), .mov, [.t 4], none, []⟩,
       ⟨(some 20), (.bin .neq), [.t 19, .c (.int .i64 0)], none, [0]⟩] false)
     (.cond (.t 20)
      (.seq
       (.region [⟨(some 21), .mov, [.t 4], none, []⟩,
         ⟨(some 2), .mov, [.t 21], none, [0, 0]⟩] false)
       .ret)
      .skip))))
  (.keep [0, 3] [] b39k0))
def b39l0 : DCode := .keep [0, 3] []
  (.seq
   (.seq
    (.region [⟨(some 8), .mov, [.t 3], none, []⟩,
      ⟨(some 9), .movv, [.t 0], none, []⟩,
      ⟨(some 10), .len, [.t 9], none, [1]⟩,
      ⟨(some 11), (.bin .lss), [.t 8, .t 10], none, [0, 2]⟩] false)
    (.cond (.t 11)
     .skip
     (.exit 0)))
   (.keep [0, 3] [] b39k1))
def b39k2 : DCode :=
 (.seq
  (.region [⟨(some 2), .mov, [.c (.int .i64 0)], none, []⟩] false)
  .ret)
def b39k3 : DCode :=
 (.seq
  (.seq
   (.region [⟨(some 3), .mov, [.c (.int .i64 0)], none, []⟩] false)
   (.block 0
    (.loop b39l0)))
  (.keep [] [] b39k2))
def b39 : DCode :=
 (.seq
  (.region [⟨(some 2), .mov, [.c (.int .i64 0)], none, []⟩] false)
  (.seq
   (.seq
    (.region [⟨(some 5), .movv, [.t 0], none, []⟩,
      ⟨(some 6), .len, [.t 5], none, [0]⟩,
      ⟨(some 7), (.bin .gtr), [.t 6, .c (.int .i64 200)], none, [1]⟩] false)
    (.cond (.t 7)
     (.seq
      (.region [⟨(some 2), .mov, [.c (.int .i64 8)], none, []⟩] false)
      .ret)
     .skip))
   (.keep [0] [] b39k3)))
def d39 : DFn := ⟨1, 22, [.tmp 2], b39⟩
theorem body39 : d39.body = b39 := rfl
theorem res39 : d39.res = [.tmp 2] := rfl
theorem k39 : chkFn Tryz.prog Tryz.f39 d39 = true := by kernel_rfl

def b40k0 : DCode :=
 (.seq
  (.region [⟨(some 36), (.load true 2), [.t 12], none, []⟩,
    ⟨none, (.store 2), [.t 4, .t 36], none, [0, 0]⟩] false)
  (.seq
   (.region [⟨(some 37), .mov, [.t 9], none, []⟩,
     ⟨(some 38), (.load true 2), [.t 4], none, []⟩,
     ⟨(some 39), (.bsl 2), [.t 38], none, [1]⟩,
     ⟨(some 40), (.append 2 16 false), [.t 37, .t 39], none, [0, 2]⟩,
     ⟨(some 9), .mov, [.t 40], none, [3, 3, 0, 1, 2, 3]⟩] false)
   (.region [⟨(some 41), (.faddr 0 false 1), [.t 10], none, []⟩,
     ⟨(some 42), (.load false 1), [.t 41], none, [0]⟩,
     ⟨(some 43), (.faddr 0 false 1), [.t 13], none, []⟩,
     ⟨(some 44), (.load false 1), [.t 43], none, [2]⟩,
     ⟨(some 45), (.bin .add), [.t 42, .t 44], none, [1, 3]⟩,
     ⟨(some 46), (.faddr 1 false 1), [.t 10], none, []⟩,
     ⟨(some 47), (.load false 1), [.t 46], none, [5]⟩,
     ⟨(some 48), (.faddr 1 false 1), [.t 13], none, []⟩,
     ⟨(some 49), (.load false 1), [.t 48], none, [7]⟩,
     ⟨(some 50), (.bin .add), [.t 47, .t 49], none, [6, 8]⟩,
     ⟨(some 51), (.build [(.imm (.int .i64 0)), (.imm (.int .i64 0))] [(0, 1), (1, 1)]), [.t 45, .t 50], none, [4, 9]⟩,
     ⟨none, (.store 2), [.t 10, .t 51], none, [10, 0, 1, 2, 3, 4, 5, 6, 7, 8, 9, 10]⟩] false)))
def b40k1 : DCode :=
 (.region [⟨(some 19), .mov, [.t 11], none, []⟩,
   ⟨(some 20), (.bin .add), [.t 19, .c (.int .i64 1)], none, [0]⟩,
   ⟨(some 11), .mov, [.t 20], none, [1, 0, 1]⟩] false)
def b40k2 : DCode :=
 (.seq
  (.block 1
   (.seq
    (.region [⟨(some 22), (.load true 3), [.t 3], none, []⟩,
      ⟨(some 23), (.load true 2), [.t 4], none, []⟩,
      ⟨(some 24), .movv, [.t 2], none, []⟩,
      ⟨(some 25), .mov, [.t 11], none, []⟩,
      ⟨(some 26), (.iaddr 3), [.t 24, .t 25], none, [2, 3]⟩,
      ⟨(some 27), (.load true 3), [.t 26], none, [4]⟩,
      ⟨(some 28), .call, [.f 66, .t 22, .t 23, .t 27], none, [0, 1, 5]⟩,
      ⟨(some 21), .mov, [.t 28], none, [6]⟩,
      ⟨(some 29), (.ext 0), [.t 21], none, [7]⟩,
      ⟨(some 30), (.ext 1), [.t 21], none, [7]⟩,
      ⟨(some 31), (.ext 2), [.t 21], none, [7]⟩,
      ⟨(some 12), (.alloc [(.imm (.int .i64 0)), (.imm (.int .i64 0))]), [], none, []⟩,
      ⟨(some 13), (.alloc [(.imm (.int .i64 0)), (.imm (.int .i64 0))]), [], none, []⟩,
      ⟨none, (.store 2), [.t 12, .t 29], none, [11, 8, 6, 0, 1, 2, 3, 4, 5, 6, 7, 8, 11, 12]⟩,
      ⟨none, (.store 2), [.t 13, .t 30], none, [12, 9, 13, 0, 1, 2, 3, 4, 5, 6, 7, 8, 9, 11, 12, 13]⟩,
      ⟨(some 14), .mov, [.t 31], none, [10, 14, 0, 1, 2, 3, 4, 5, 6, 7, 8, 9, 10, 11, 12, 13, 14]⟩] true)
    (.seq
     (.seq
      (.region [⟨(some 32), .mov, [.t 14], none, []⟩,
        ⟨(some 33), (.un .not), [.t 32], none, [0]⟩] false)
      (.cond (.t 33)
       (.seq
        (.region [⟨(some 34), .movv, [.t 9], none, []⟩,
          ⟨(some 35), (.load true 2), [.t 10], none, []⟩,
          ⟨(some 6), .movv, [.t 34], none, [0, 0]⟩,
          ⟨none, (.store 2), [.t 7, .t 35], none, [1, 2, 0, 1, 2]⟩,
          ⟨(some 8), .mov, [.c (.bool false)], none, [3, 0, 1, 2, 3]⟩] true)
        .ret)
       .skip))
     (.keep [2, 3, 4, 7, 9, 10, 11, 12, 13] [3, 4, 7, 9, 10, 12, 13, 40] b40k0))))
  (.keep [2, 3, 4, 7, 9, 10, 11] [3, 4, 7, 9, 10, 40] b40k1))
def b40l0 : DCode := .keep [2, 3, 4, 7, 9, 10, 11] [3, 4, 7, 9, 10, 40]
  (.seq
   (.seq
    (.region [⟨(some 15), .mov, [.t 11], none, []⟩,
      ⟨(some 16), .movv, [.t 2], none, []⟩,
      ⟨(some 17), .len, [.t 16], none, [1]⟩,
      ⟨(some 18), (.bin .lss), [.t 15, .t 17], none, [0, 2]⟩] false)
    (.cond (.t 18)
     .skip
     (.exit 0)))
   (.keep [2, 3, 4, 7, 9, 10, 11] [3, 4, 7, 9, 10, 40] b40k2))
def b40k3 : DCode :=
 (.seq
  (.region [⟨(some 52), .movv, [.t 9], none, []⟩,
    ⟨(some 53), (.load true 2), [.t 10], none, []⟩,
    ⟨(some 6), .movv, [.t 52], none, [0, 0]⟩,
    ⟨none, (.store 2), [.t 7, .t 53], none, [1, 2, 0, 1, 2]⟩,
    ⟨(some 8), .mov, [.c (.bool true)], none, [3, 0, 1, 2, 3]⟩] true)
  .ret)
def b40 : DCode :=
 (.seq
  (.region [⟨(some 3), .box, [.t 0], none, []⟩,
    ⟨(some 4), .box, [.t 1], none, []⟩,
    ⟨(some 6), .mov, [.c (.slc 2 [])], none, []⟩,
    ⟨(some 7), (.alloc [(.imm (.int .i64 0)), (.imm (.int .i64 0))]), [], none, []⟩,
    ⟨(some 8), .mov, [.c (.bool false)], none, [2]⟩] false)
  (.seq
   (.region [⟨(some 9), (.ntok 2), [.c (.slc 2 [])], none, []⟩] false)
   (.seq
    (.region [⟨(some 10), (.alloc [(.imm (.int .i64 0)), (.imm (.int .i64 0))]), [], none, []⟩] false)
    (.seq
     (.seq
      (.region [⟨(some 11), .mov, [.c (.int .i64 0)], none, []⟩] false)
      (.block 0
       (.loop b40l0)))
     (.keep [7, 9, 10] [7, 9, 10, 40] b40k3)))))
def d40 : DFn := ⟨3, 54, [.tmp 6, .cell 7 true 2, .tmp 8], b40⟩
theorem body40 : d40.body = b40 := rfl
theorem res40 : d40.res = [.tmp 6, .cell 7 true 2, .tmp 8] := rfl
theorem k40 : chkFn Tryz.prog Tryz.f40 d40 = true := by kernel_rfl

def b38k0 : DCode :=
 (.seq
  (.region [⟨(some 4), .mov, [.c (.int .i64 0)], none, []⟩] false)
  .ret)
def b38 : DCode :=
 (.seq
  (.region [⟨(some 2), .box, [.t 0], none, []⟩,
    ⟨(some 3), .box, [.t 1], none, []⟩,
    ⟨(some 4), .mov, [.c (.int .i64 0)], none, []⟩] false)
  (.seq
   (.seq
    (.region [⟨(some 5), (.faddr 0 true 1), [.t 2], none, []⟩,
      ⟨(some 6), (.load true 1), [.t 5], none, [0]⟩,
      ⟨(some 7), (.faddr 0 false 1), [.t 3], none, []⟩,
      ⟨(some 8), (.load false 1), [.t 7], none, [2]⟩,
      ⟨(some 9), .call, [.f 64, .t 6, .t 8], none, [1, 3]⟩,
      ⟨(some 10), (.un .not), [.t 9], none, [4]⟩,
      ⟨(some 11), .mov, [.t 10], none, [5, 4]⟩,
      ⟨(some 12), (.faddr 1 true 1), [.t 2], (some (11, false)), [6]⟩,
      ⟨(some 13), (.load true 1), [.t 12], (some (11, false)), [7, 6]⟩,
      ⟨(some 14), (.faddr 1 false 1), [.t 3], (some (11, false)), [6]⟩,
      ⟨(some 15), (.load false 1), [.t 14], (some (11, false)), [9, 6]⟩,
      ⟨(some 16), .call, [.f 64, .t 13, .t 15], (some (11, false)), [8, 10, 6, 6]⟩,
      ⟨(some 17), (.un .not), [.t 16], (some (11, false)), [11, 6]⟩,
      ⟨(some 18), .pick, [.t 11, .c (.bool true), .t 17], none, [6, 12]⟩] false)
    (.cond (.t 18)
     (.seq
      (.region [⟨(some 4), .mov, [.c (.int .i64 2)], none, []⟩] false)
      .ret)
     .skip))
   (.keep [] [] b38k0)))
def d38 : DFn := ⟨2, 19, [.tmp 4], b38⟩
theorem body38 : d38.body = b38 := rfl
theorem res38 : d38.res = [.tmp 4] := rfl
theorem k38 : chkFn Tryz.prog Tryz.f38 d38 = true := by kernel_rfl

def b45 : DCode :=
 (.seq
  (.region [⟨(some 1), .box, [.t 0], none, []⟩,
    ⟨(some 2), (.alloc [(.imm (.int .i64 0)), (.imm (.int .i64 0))]), [], none, []⟩] false)
  (.seq
   (.region [⟨(some 3), (.faddr 0 false 1), [.t 1], none, []⟩,
     ⟨(some 4), (.load false 1), [.t 3], none, [0]⟩,
     ⟨(some 5), (.iaddr 2), [.t 4, .c (.int .i64 0)], none, [1]⟩,
     ⟨(some 6), (.load true 2), [.t 5], none, [2]⟩,
     ⟨none, (.store 2), [.t 2, .t 6], none, [3, 0, 1, 2, 3]⟩] false)
   .ret))
def d45 : DFn := ⟨1, 7, [.cell 2 true 2], b45⟩
theorem body45 : d45.body = b45 := rfl
theorem res45 : d45.res = [.cell 2 true 2] := rfl
theorem k45 : chkFn Tryz.prog Tryz.f45 d45 = true := by kernel_rfl

def b93 : DCode :=
 (.seq
  (.region [⟨(some 3), .box, [.t 0], none, []⟩,
    ⟨(some 6), .mov, [.c (.int .i64 0)], none, []⟩] false)
  (.seq
   (.region [⟨(some 9), (.load true 1), [.t 3], none, []⟩,
     ⟨(some 10), .mov, [.t 2], none, []⟩,
     ⟨(some 11), .call, [.f 94, .t 9, .t 10], none, [0, 1]⟩,
     ⟨(some 7), .mov, [.t 11], none, [2, 2, 0, 1, 2]⟩] false)
   (.seq
    (.region [⟨(some 12), .mov, [.t 1], none, []⟩,
      ⟨(some 13), .call, [.f 72, .t 12], none, [0]⟩,
      ⟨(some 14), (.load true 1), [.t 3], none, []⟩,
      ⟨(some 15), .mov, [.t 7], none, []⟩,
      ⟨(some 16), .call, [.f 90, .t 14, .t 15], none, [2, 3, 1]⟩,
      ⟨(some 17), .call, [.f 114, .t 13, .t 16], none, [1, 4, 4]⟩,
      ⟨(some 18), .call, [.f 72, .c (.int .i64 1000)], none, [5]⟩,
      ⟨(some 19), .call, [.f 96, .t 17, .t 18], none, [5, 6, 6]⟩,
      ⟨(some 20), .call, [.f 113, .t 19], none, [7, 7]⟩,
      ⟨(some 8), (.alloc [(.imm (.int .i64 0)), (.imm (.int .i64 0))]), [], none, []⟩,
      ⟨none, (.store 2), [.t 8, .t 20], none, [9, 8, 8, 0, 1, 2, 3, 4, 5, 6, 7, 8, 9]⟩] true)
    (.seq
     (.region [⟨(some 21), (.faddr 0 false 1), [.t 8], none, []⟩,
       ⟨(some 22), (.load false 1), [.t 21], none, [0]⟩,
       ⟨(some 23), .mov, [.t 2], none, []⟩,
       ⟨(some 24), (.load true 1), [.t 3], none, []⟩,
       ⟨(some 25), .call, [.f 45, .t 24], none, [3]⟩,
       ⟨(some 26), (.field 1 false 1), [.t 25], none, [4]⟩,
       ⟨(some 27), (.bin .sub), [.t 23, .t 26], none, [2, 5]⟩,
       ⟨(some 28), (.mm false), [.t 22, .t 27], none, [1, 6]⟩,
       ⟨(some 6), .mov, [.t 28], none, [7, 4, 0, 1, 2, 3, 4, 5, 6, 7]⟩] true)
     .ret))))
def d93 : DFn := ⟨3, 29, [.tmp 6], b93⟩
theorem body93 : d93.body = b93 := rfl
theorem res93 : d93.res = [.tmp 6] := rfl
theorem k93 : chkFn Tryz.prog Tryz.f93 d93 = true := by kernel_rfl

def b90 : DCode :=
 (.seq
  (.region [⟨(some 2), .box, [.t 0], none, []⟩,
    ⟨(some 4), (.alloc [(.imm (.int .i64 0)), (.imm (.slc 1 [])), (.imm (.int .i64 0)), (.imm (.slc 1 []))]), [], none, []⟩] false)
  (.seq
   (.region [⟨(some 7), (.faddr 0 false 1), [.t 2], none, []⟩,
     ⟨(some 8), (.loadf false 1 [2]), [.t 7], none, [0]⟩,
     ⟨(some 9), .mov, [.t 1], none, []⟩,
     ⟨(some 10), (.bin .sub), [.t 9, .c (.int .i64 1)], none, [2]⟩,
     ⟨(some 11), (.iaddr 2), [.t 8, .t 10], none, [1, 3]⟩,
     ⟨(some 12), (.loadf true 2 []), [.t 11], none, [4]⟩,
     ⟨(some 13), (.faddr 0 false 1), [.t 2], none, []⟩,
     ⟨(some 14), (.loadf false 1 [2]), [.t 13], none, [6]⟩,
     ⟨(some 15), .mov, [.t 1], none, []⟩,
     ⟨(some 16), (.iaddr 2), [.t 14, .t 15], none, [7, 8]⟩,
     ⟨(some 17), (.loadf true 2 []), [.t 16], none, [9]⟩,
     ⟨(some 5), (.alloc [(.imm (.int .i64 0)), (.imm (.int .i64 0))]), [], none, []⟩,
     ⟨(some 6), (.alloc [(.imm (.int .i64 0)), (.imm (.int .i64 0))]), [], none, []⟩,
     ⟨none, (.storef 2 [5]), [.t 5, .t 12], none, [11, 5, 0, 1, 2, 3, 4, 5, 11, 12]⟩,
     ⟨none, (.storef 2 [6]), [.t 6, .t 17], none, [12, 10, 13, 0, 1, 2, 3, 4, 5, 6, 7, 8, 9, 10, 11, 12, 13]⟩] true)
   (.seq
    (.region [⟨(some 18), (.faddr 1 false 1), [.t 6], none, []⟩,
      ⟨(some 19), (.load false 1), [.t 18], none, [0]⟩,
      ⟨(some 20), (.faddr 1 false 1), [.t 5], none, []⟩,
      ⟨(some 21), (.load false 1), [.t 20], none, [2]⟩,
      ⟨(some 22), (.bin .sub), [.t 19, .t 21], none, [1, 3]⟩,
      ⟨(some 23), (.faddr 0 false 1), [.t 6], none, []⟩,
      ⟨(some 24), (.load false 1), [.t 23], none, [5]⟩,
      ⟨(some 25), (.faddr 0 false 1), [.t 5], none, []⟩,
      ⟨(some 26), (.load false 1), [.t 25], none, [7]⟩,
      ⟨(some 27), (.bin .sub), [.t 24, .t 26], none, [6, 8]⟩,
      ⟨(some 28), .call, [.f 112, .t 22, .t 27], none, [4, 9]⟩,
      ⟨none, (.store 4), [.t 4, .t 28], none, [10, 10, 0, 1, 2, 3, 4, 5, 6, 7, 8, 9, 10]⟩] false)
    .ret)))
def d90 : DFn := ⟨2, 29, [.cell 4 true 4], b90⟩
theorem body90 : d90.body = b90 := rfl
theorem res90 : d90.res = [.cell 4 true 4] := rfl
theorem k90 : chkFn Tryz.prog Tryz.f90 d90 = true := by kernel_rfl

def b113 : DCode :=
 (.seq
  (.region [⟨(some 1), .box, [.t 0], none, []⟩,
    ⟨(some 2), (.alloc [(.imm (.int .i64 0)), (.imm (.int .i64 0))]), [], none, []⟩] false)
  (.seq
   (.region [⟨(some 8), (.load true 4), [.t 1], none, []⟩,
     ⟨(some 9), .call, [.f 125, .t 8], none, [0]⟩,
     ⟨(some 10), .call, [.f 124, .t 9], none, [1, 1]⟩,
     ⟨(some 7), .mov, [.t 10], none, [2]⟩,
     ⟨(some 11), (.ext 0), [.t 7], none, [3]⟩,
     ⟨(some 12), (.ext 1), [.t 7], none, [3]⟩,
     ⟨(some 3), .mov, [.t 11], none, [4, 2, 0, 1, 2, 3, 4]⟩,
     ⟨(some 4), .mov, [.t 12], none, [5, 6, 0, 1, 2, 3, 4, 5, 6]⟩] false)
   (.seq
    (.region [⟨(some 14), (.load true 4), [.t 1], none, []⟩,
      ⟨(some 15), .call, [.f 126, .t 14], none, [0]⟩,
      ⟨(some 16), .call, [.f 124, .t 15], none, [1, 1]⟩,
      ⟨(some 13), .mov, [.t 16], none, [2]⟩,
      ⟨(some 17), (.ext 0), [.t 13], none, [3]⟩,
      ⟨(some 18), (.ext 1), [.t 13], none, [3]⟩,
      ⟨(some 5), .mov, [.t 17], none, [4, 2, 0, 1, 2, 3, 4]⟩,
      ⟨(some 6), .mov, [.t 18], none, [5, 6, 0, 1, 2, 3, 4, 5, 6]⟩] false)
    (.seq
     (.region [⟨(some 19), .mov, [.t 3], none, []⟩,
       ⟨(some 20), .mov, [.t 5], none, []⟩,
       ⟨(some 21), (.build [(.imm (.int .i64 0)), (.imm (.int .i64 0))] [(0, 1), (1, 1)]), [.t 19, .t 20], none, [0, 1]⟩,
       ⟨none, (.store 2), [.t 2, .t 21], none, [2, 0, 1, 2]⟩] false)
     .ret))))
def d113 : DFn := ⟨1, 22, [.cell 2 true 2], b113⟩
theorem body113 : d113.body = b113 := rfl
theorem res113 : d113.res = [.cell 2 true 2] := rfl
theorem k113 : chkFn Tryz.prog Tryz.f113 d113 = true := by kernel_rfl

def b69 : DCode :=
 (.seq
  (.region [⟨(some 2), .box, [.t 0], none, []⟩,
    ⟨(some 4), (.alloc [(.imm (.int .i64 0)), (.imm (.slc 1 [])), (.imm (.int .i64 0)), (.imm (.slc 1 []))]), [], none, []⟩] false)
  (.seq
   (.region [⟨(some 7), (.load true 1), [.t 2], none, []⟩,
     ⟨(some 8), .mov, [.t 1], none, []⟩,
     ⟨(some 9), .call, [.f 94, .t 7, .t 8], none, [0, 1]⟩,
     ⟨(some 5), .mov, [.t 9], none, [2, 2, 0, 1, 2]⟩] false)
   (.seq
    (.region [⟨(some 10), (.faddr 0 false 1), [.t 2], none, []⟩,
      ⟨(some 11), (.load false 1), [.t 10], none, [0]⟩,
      ⟨(some 12), .mov, [.t 5], none, []⟩,
      ⟨(some 13), (.bin .sub), [.t 12, .c (.int .i64 1)], none, [2]⟩,
      ⟨(some 14), (.iaddr 2), [.t 11, .t 13], none, [1, 3]⟩,
      ⟨(some 15), (.load true 2), [.t 14], none, [4]⟩,
      ⟨(some 6), (.alloc [(.imm (.int .i64 0)), (.imm (.int .i64 0))]), [], none, []⟩,
      ⟨none, (.store 2), [.t 6, .t 15], none, [6, 5, 0, 1, 2, 3, 4, 5, 6]⟩] false)
    (.seq
     (.region [⟨(some 16), (.faddr 0 false 1), [.t 6], none, []⟩,
       ⟨(some 17), (.load false 1), [.t 16], none, [0]⟩,
       ⟨(some 18), .call, [.f 72, .t 17], none, [1]⟩,
       ⟨(some 19), .mov, [.t 1], none, []⟩,
       ⟨(some 20), (.faddr 1 false 1), [.t 6], none, []⟩,
       ⟨(some 21), (.load false 1), [.t 20], none, [4]⟩,
       ⟨(some 22), (.bin .sub), [.t 19, .t 21], none, [3, 5]⟩,
       ⟨(some 23), .call, [.f 72, .t 22], none, [6, 2]⟩,
       ⟨(some 24), (.load true 1), [.t 2], none, []⟩,
       ⟨(some 25), .mov, [.t 5], none, []⟩,
       ⟨(some 26), .call, [.f 90, .t 24, .t 25], none, [8, 9, 7]⟩,
       ⟨(some 27), .call, [.f 96, .t 23, .t 26], none, [7, 10, 10]⟩,
       ⟨(some 28), .call, [.f 95, .t 18, .t 27], none, [2, 11, 11]⟩,
       ⟨none, (.store 4), [.t 4, .t 28], none, [12, 12, 0, 1, 2, 3, 4, 5, 6, 7, 8, 9, 10, 11, 12]⟩] true)
     .ret))))
def d69 : DFn := ⟨2, 29, [.cell 4 true 4], b69⟩
theorem body69 : d69.body = b69 := rfl
theorem res69 : d69.res = [.cell 4 true 4] := rfl
theorem k69 : chkFn Tryz.prog Tryz.f69 d69 = true := by kernel_rfl

def b94k0 : DCode :=
 (.block 1
  (.region [⟨(some 14), .mov, [.t 5], none, []⟩,
    ⟨(some 15), (.bin .add), [.t 14, .c (.int .i64 1)], none, [0]⟩,
    ⟨(some 5), .mov, [.t 15], none, [1, 0, 1]⟩] false))
def b94l0 : DCode := .keep [1, 2, 5] [2]
  (.seq
   (.seq
    (.region [⟨(some 6), (.faddr 0 false 1), [.t 2], none, []⟩,
      ⟨(some 7), (.load false 1), [.t 6], none, [0]⟩,
      ⟨(some 8), .mov, [.t 5], none, []⟩,
      ⟨(some 9), (.iaddr 2), [.t 7, .t 8], none, [1, 2]⟩,
      ⟨(some 10), (.faddr 1 false 1), [.t 9], none, [3]⟩,
      ⟨(some 11), (.load false 1), [.t 10], none, [4]⟩,
      ⟨(some 12), .mov, [.t 1], none, []⟩,
      ⟨(some 13), (.bin .lss), [.t 11, .t 12], none, [5, 6]⟩] false)
    (.cond (.t 13)
     .skip
     (.exit 0)))
   (.keep [1, 2, 5] [2] b94k0))
def b94k1 : DCode :=
 (.seq
  (.region [⟨(some 16), .mov, [.t 5], none, []⟩,
    ⟨(some 4), .mov, [.t 16], none, [0, 0]⟩] false)
  .ret)
def b94 : DCode :=
 (.seq
  (.region [⟨(some 2), .box, [.t 0], none, []⟩,
    ⟨(some 4), .mov, [.c (.int .i64 0)], none, []⟩] false)
  (.seq
   (.region [⟨(some 5), .mov, [.c (.int .i64 1)], none, []⟩] false)
   (.seq
    (.block 0
     (.loop b94l0))
    (.keep [5] [] b94k1))))
def d94 : DFn := ⟨2, 17, [.tmp 4], b94⟩
theorem body94 : d94.body = b94 := rfl
theorem res94 : d94.res = [.tmp 4] := rfl
theorem k94 : chkFn Tryz.prog Tryz.f94 d94 = true := by kernel_rfl

end Go.DI

