/- The functions of the reference, as data. No condition. -/
import Derived.Test.YtnkdmcalkgecfaaUdGe
import Derived.Test.YtnkdmcalkgecfaaProg
import Derived.KernelRfl
/- The functions of the lakes' reference and of the statements, as data. No condition. -/
namespace Go.DI
open Go.Proofs Go.RowKit
def b6k0 : DCode :=
 (.seq
  (.region [⟨(some 11), (.load true 3), [.t 2], none, []⟩,
    ⟨(some 12), (.load true 2), [.t 3], none, []⟩,
    ⟨(some 13), .call, [.f 19, .t 11, .t 12], none, [0, 1]⟩,
    ⟨(some 4), .mov, [.t 13], none, [2, 2, 0, 1, 2]⟩] false)
  .ret)
def b6 : DCode :=
 (.seq
  (.region [⟨(some 2), .box, [.t 0], none, []⟩,
    ⟨(some 3), .box, [.t 1], none, []⟩,
    ⟨(some 4), .mov, [.c (.int .i64 0)], none, []⟩] false)
  (.seq
   (.seq
    (.region [⟨(some 6), (.load true 3), [.t 2], none, []⟩,
      ⟨(some 7), .call, [.f 18, .t 6], none, [0]⟩,
      ⟨(some 5), .mov, [.t 7], none, [1, 1, 0, 1]⟩] false)
    (.seq
     (.region [⟨(some 8), .mov, [.t 5], none, []⟩,
       ⟨(some 9), (.bin .neq), [.t 8, .c (.int .i64 0)], none, [0]⟩] false)
     (.cond (.t 9)
      (.seq
       (.region [⟨(some 10), .mov, [.t 5], none, []⟩,
         ⟨(some 4), .mov, [.t 10], none, [0, 0]⟩] false)
       .ret)
      .skip)))
   (.keep [2, 3] [2, 3] b6k0)))
def d6 : DFn := ⟨2, 14, [.tmp 4], b6⟩
theorem body6 : d6.body = b6 := rfl
theorem res6 : d6.res = [.tmp 4] := rfl
theorem k6 : chkFn Try.prog Try.f6 d6 = true := by kernel_rfl

def b9 : DCode :=
 (.seq
  (.region [⟨(some 1), .box, [.t 0], none, []⟩,
    ⟨(some 2), (.alloc [(.imm (.slc 2 [])), (.imm (.slc 2 [])), (.imm (.int .i64 0))]), [], none, []⟩] false)
  (.seq
   (.region [⟨(some 3), (.faddr 0 true 1), [.t 1], none, []⟩,
     ⟨(some 4), (.load true 1), [.t 3], none, [0]⟩,
     ⟨(some 5), .call, [.f 26, .t 4], none, [1]⟩,
     ⟨(some 6), (.faddr 1 true 1), [.t 1], none, []⟩,
     ⟨(some 7), (.load true 1), [.t 6], none, [3]⟩,
     ⟨(some 8), .call, [.f 26, .t 7], none, [4, 2]⟩,
     ⟨(some 9), (.faddr 2 false 1), [.t 1], none, []⟩,
     ⟨(some 10), (.load false 1), [.t 9], none, [6]⟩,
     ⟨(some 11), (.build [(.imm (.slc 2 [])), (.imm (.slc 2 [])), (.imm (.int .i64 0))] [(0, 1), (1, 1), (2, 1)]), [.t 5, .t 8, .t 10], none, [2, 5, 7]⟩,
     ⟨none, (.store 3), [.t 2, .t 11], none, [8, 5, 0, 1, 2, 3, 4, 5, 6, 7, 8]⟩] true)
   .ret))
def d9 : DFn := ⟨1, 12, [.cell 2 true 3], b9⟩
theorem body9 : d9.body = b9 := rfl
theorem res9 : d9.res = [.cell 2 true 3] := rfl
theorem k9 : chkFn Try.prog Try.f9 d9 = true := by kernel_rfl

def b18k0 : DCode :=
 (.seq
  (.region [⟨(some 2), .mov, [.c (.int .i64 0)], none, []⟩] false)
  .ret)
def b18k1 : DCode :=
 (.seq
  (.seq
   (.region [⟨(some 17), (.faddr 2 false 1), [.t 1], none, []⟩,
     ⟨(some 18), (.load false 1), [.t 17], none, [0]⟩,
     ⟨(some 19), .call, [.f 11, .t 18, .c (.int .i64 0), .c (.int .i64 1000)], none, [1]⟩,
     ⟨(some 20), (.un .not), [.t 19], none, [2]⟩] false)
   (.cond (.t 20)
    (.seq
     (.region [⟨(some 2), .mov, [.c (.int .i64 2)], none, []⟩] false)
     .ret)
    .skip))
  (.keep [] [] b18k0))
def b18k2 : DCode :=
 (.seq
  (.seq
   (.region [⟨(some 11), (.faddr 1 true 1), [.t 1], none, []⟩,
     ⟨(some 12), (.load true 1), [.t 11], none, [0]⟩,
     ⟨(some 13), .call, [.f 34, .t 12], none, [1]⟩,
     ⟨(some 4), .mov, [.t 13], none, [2, 2, 0, 1, 2]⟩] false)
   (.seq
    (.region [⟨(some 14), .mov, [.t 4], none, []⟩,
      ⟨(some 15), (.bin .neq), [.t 14, .c (.int .i64 0)], none, [0]⟩] false)
    (.cond (.t 15)
     (.seq
      (.region [⟨(some 16), .mov, [.t 4], none, []⟩,
        ⟨(some 2), .mov, [.t 16], none, [0, 0]⟩] false)
      .ret)
     .skip)))
  (.keep [1] [1] b18k1))
def b18 : DCode :=
 (.seq
  (.region [⟨(some 1), .box, [.t 0], none, []⟩,
    ⟨(some 2), .mov, [.c (.int .i64 0)], none, []⟩] false)
  (.seq
   (.seq
    (.region [⟨(some 5), (.faddr 0 true 1), [.t 1], none, []⟩,
      ⟨(some 6), (.load true 1), [.t 5], none, [0]⟩,
      ⟨(some 7), .call, [.f 34, .t 6], none, [1]⟩,
      ⟨(some 3), .mov, [.t 7], none, [2, 2, 0, 1, 2]⟩] false)
    (.seq
     (.region [⟨(some 8), .mov, [.t 3], none, []⟩,
       ⟨(some 9), (.bin .neq), [.t 8, .c (.int .i64 0)], none, [0]⟩] false)
     (.cond (.t 9)
      (.seq
       (.region [⟨(some 10), .mov, [.t 3], none, []⟩,
         ⟨(some 2), .mov, [.t 10], none, [0, 0]⟩] false)
       .ret)
      .skip)))
   (.keep [1] [1] b18k2)))
def d18 : DFn := ⟨1, 21, [.tmp 2], b18⟩
theorem body18 : d18.body = b18 := rfl
theorem res18 : d18.res = [.tmp 2] := rfl
theorem k18 : chkFn Try.prog Try.f18 d18 = true := by kernel_rfl

def b37k0 : DCode :=
 (.seq
  (.region [⟨(some 2), .mov, [.c (.int .i64 0)], none, []⟩] false)
  .ret)
def b37 : DCode :=
 (.seq
  (.region [⟨(some 1), .box, [.t 0], none, []⟩,
    ⟨(some 2), .mov, [.c (.int .i64 0)], none, []⟩] false)
  (.seq
   (.seq
    (.region [⟨(some 3), (.faddr 0 false 1), [.t 1], none, []⟩,
      ⟨(some 4), (.load false 1), [.t 3], none, [0]⟩,
      ⟨(some 5), .call, [.f 11, .t 4, .c (.int .i64 0), .c (.int .i64 10000000)], none, [1]⟩,
      ⟨(some 6), (.un .not), [.t 5], none, [2]⟩,
      ⟨(some 7), .mov, [.t 6], none, [3, 2]⟩,
      ⟨(some 8), (.faddr 1 false 1), [.t 1], (some (7, false)), [4]⟩,
      ⟨(some 9), (.load false 1), [.t 8], (some (7, false)), [5, 4]⟩,
      ⟨(some 10), .call, [.f 11, .t 9, .c (.int .i64 0), .c (.int .i64 10000000)], (some (7, false)), [6, 4, 4]⟩,
      ⟨(some 11), (.un .not), [.t 10], (some (7, false)), [7, 4]⟩,
      ⟨(some 12), .pick, [.t 7, .c (.bool true), .t 11], none, [4, 8]⟩,
      ⟨(some 13), .mov, [.t 12], none, [9, 7]⟩,
      ⟨(some 14), (.faddr 2 false 1), [.t 1], (some (13, false)), [10]⟩,
      ⟨(some 15), (.load false 1), [.t 14], (some (13, false)), [11, 10]⟩,
      ⟨(some 16), .call, [.f 11, .t 15, .c (.int .i64 (-10000000)), .c (.int .i64 10000000)], (some (13, false)), [12, 10, 10]⟩,
      ⟨(some 17), (.un .not), [.t 16], (some (13, false)), [13, 10]⟩,
      ⟨(some 18), .pick, [.t 13, .c (.bool true), .t 17], none, [10, 14]⟩] false)
    (.cond (.t 18)
     (.seq
      (.region [⟨(some 2), .mov, [.c (.int .i64 2)], none, []⟩] false)
      .ret)
     .skip))
   (.keep [] [] b37k0)))
def d37 : DFn := ⟨1, 19, [.tmp 2], b37⟩
theorem body37 : d37.body = b37 := rfl
theorem res37 : d37.res = [.tmp 2] := rfl
theorem k37 : chkFn Try.prog Try.f37 d37 = true := by kernel_rfl

def b26 : DCode :=
 (.seq
  (.region [⟨(some 1), .box, [.t 0], none, []⟩,
    ⟨(some 2), (.alloc [(.imm (.slc 2 []))]), [], none, []⟩] false)
  (.seq
   (.region [⟨(some 3), (.bsl 2), [], none, []⟩,
     ⟨(some 4), (.faddr 0 false 1), [.t 1], none, []⟩,
     ⟨(some 5), (.load false 1), [.t 4], none, [1]⟩,
     ⟨(some 6), (.append 2 16 false), [.t 3, .t 5], none, [0, 2]⟩,
     ⟨(some 7), (.build [(.imm (.slc 2 []))] [(0, 1)]), [.t 6], none, [3]⟩,
     ⟨none, (.store 1), [.t 2, .t 7], none, [4, 3, 0, 1, 2, 3, 4]⟩] false)
   .ret))
def d26 : DFn := ⟨1, 8, [.cell 2 true 1], b26⟩
theorem body26 : d26.body = b26 := rfl
theorem res26 : d26.res = [.cell 2 true 1] := rfl
theorem k26 : chkFn Try.prog Try.f26 d26 = true := by kernel_rfl

def b54k0 : DCode :=
 (.seq
  (.region [⟨(some 62), .mov, [.t 4], none, []⟩,
    ⟨(some 63), (.bin .gtr), [.t 62, .c (.int .i64 1)], none, [0]⟩,
    ⟨(some 64), .mov, [.t 63], none, [1]⟩,
    ⟨(some 65), (.load true 1), [.t 1], (some (64, true)), [2]⟩,
    ⟨(some 66), .mov, [.t 4], (some (64, true)), [2]⟩,
    ⟨(some 67), .call, [.f 67, .t 65, .t 66], (some (64, true)), [3, 4, 2, 2]⟩,
    ⟨(some 68), (.load true 1), [.t 1], (some (64, true)), [2]⟩,
    ⟨(some 69), .mov, [.t 4], (some (64, true)), [2]⟩,
    ⟨(some 70), (.bin .sub), [.t 69, .c (.int .i64 1)], (some (64, true)), [7, 2]⟩,
    ⟨(some 71), .call, [.f 67, .t 68, .t 70], (some (64, true)), [6, 8, 5, 2]⟩,
    ⟨(some 72), .call, [.f 66, .t 67, .t 71], (some (64, true)), [5, 9, 9, 2]⟩,
    ⟨(some 73), (.bin .lss), [.t 72, .c (.int .i64 0)], (some (64, true)), [10, 2]⟩,
    ⟨(some 74), .pick, [.t 64, .t 73, .c (.bool false)], none, [2, 11]⟩] true)
  (.cond (.t 74)
   (.seq
    (.region [⟨(some 75), .mov, [.t 4], none, []⟩,
      ⟨(some 2), .mov, [.t 75], none, [0, 0]⟩,
      ⟨(some 3), .mov, [.c (.int .i64 22)], none, [1, 0, 1]⟩] false)
    .ret)
   .skip))
def b54k1 : DCode :=
 (.seq
  (.seq
   (.region [⟨(some 39), (.faddr 0 false 1), [.t 5], none, []⟩,
     ⟨(some 40), (.load false 1), [.t 39], none, [0]⟩,
     ⟨(some 41), (.faddr 0 false 1), [.t 1], none, []⟩,
     ⟨(some 42), (.load false 1), [.t 41], none, [2]⟩,
     ⟨(some 43), .mov, [.t 4], none, []⟩,
     ⟨(some 44), (.bin .sub), [.t 43, .c (.int .i64 1)], none, [4]⟩,
     ⟨(some 45), (.iaddr 2), [.t 42, .t 44], none, [3, 5]⟩,
     ⟨(some 46), (.faddr 0 false 1), [.t 45], none, [6]⟩,
     ⟨(some 47), (.load false 1), [.t 46], none, [7]⟩,
     ⟨(some 48), (.bin .leq), [.t 40, .t 47], none, [1, 8]⟩,
     ⟨(some 49), .mov, [.t 48], none, [9]⟩,
     ⟨(some 50), (.faddr 1 false 1), [.t 5], (some (49, false)), [10]⟩,
     ⟨(some 51), (.load false 1), [.t 50], (some (49, false)), [11, 10]⟩,
     ⟨(some 52), (.faddr 0 false 1), [.t 1], (some (49, false)), [10]⟩,
     ⟨(some 53), (.load false 1), [.t 52], (some (49, false)), [13, 10]⟩,
     ⟨(some 54), .mov, [.t 4], (some (49, false)), [10]⟩,
     ⟨(some 55), (.bin .sub), [.t 54, .c (.int .i64 1)], (some (49, false)), [15, 10]⟩,
     ⟨(some 56), (.iaddr 2), [.t 53, .t 55], (some (49, false)), [14, 16, 10]⟩,
     ⟨(some 57), (.faddr 1 false 1), [.t 56], (some (49, false)), [17, 10]⟩,
     ⟨(some 58), (.load false 1), [.t 57], (some (49, false)), [18, 10]⟩,
     ⟨(some 59), (.bin .leq), [.t 51, .t 58], (some (49, false)), [12, 19, 10]⟩,
     ⟨(some 60), .pick, [.t 49, .c (.bool true), .t 59], none, [10, 20]⟩] true)
   (.cond (.t 60)
    (.seq
     (.region [⟨(some 61), .mov, [.t 4], none, []⟩,
       ⟨(some 2), .mov, [.t 61], none, [0, 0]⟩,
       ⟨(some 3), .mov, [.c (.int .i64 9)], none, [1, 0, 1]⟩] false)
     .ret)
    .skip))
  (.keep [1, 4] [1] b54k0))
def b54k2 : DCode :=
 (.seq
  (.seq
   (.region [⟨(some 37), .mov, [.t 4], none, []⟩,
     ⟨(some 38), (.bin .eql), [.t 37, .c (.int .i64 0)], none, [0]⟩] false)
   (.cond (.t 38)
    (.exit 1)
    .skip))
  (.keep [1, 4, 5] [1, 5] b54k1))
def b54k3 : DCode :=
 (.region [⟨(some 19), .mov, [.t 4], none, []⟩,
   ⟨(some 20), (.bin .add), [.t 19, .c (.int .i64 1)], none, [0]⟩,
   ⟨(some 4), .mov, [.t 20], none, [1, 0, 1]⟩] false)
def b54k4 : DCode :=
 (.seq
  (.block 1
   (.seq
    (.region [⟨(some 21), (.faddr 0 false 1), [.t 1], none, []⟩,
      ⟨(some 22), (.load false 1), [.t 21], none, [0]⟩,
      ⟨(some 23), .mov, [.t 4], none, []⟩,
      ⟨(some 24), (.iaddr 2), [.t 22, .t 23], none, [1, 2]⟩,
      ⟨(some 25), (.load true 2), [.t 24], none, [3]⟩,
      ⟨(some 5), (.alloc [(.imm (.int .i64 0)), (.imm (.int .i64 0))]), [], none, []⟩,
      ⟨none, (.store 2), [.t 5, .t 25], none, [5, 4, 0, 1, 2, 3, 4, 5]⟩] false)
    (.seq
     (.seq
      (.region [⟨(some 26), (.faddr 0 false 1), [.t 5], none, []⟩,
        ⟨(some 27), (.load false 1), [.t 26], none, [0]⟩,
        ⟨(some 28), .call, [.f 11, .t 27, .c (.int .i64 0), .c (.int .i64 1000000)], none, [1]⟩,
        ⟨(some 29), (.un .not), [.t 28], none, [2]⟩,
        ⟨(some 30), .mov, [.t 29], none, [3, 2]⟩,
        ⟨(some 31), (.faddr 1 false 1), [.t 5], (some (30, false)), [4]⟩,
        ⟨(some 32), (.load false 1), [.t 31], (some (30, false)), [5, 4]⟩,
        ⟨(some 33), .call, [.f 11, .t 32, .c (.int .i64 0), .c (.int .i64 1000000000)], (some (30, false)), [6, 4, 4]⟩,
        ⟨(some 34), (.un .not), [.t 33], (some (30, false)), [7, 4]⟩,
        ⟨(some 35), .pick, [.t 30, .c (.bool true), .t 34], none, [4, 8]⟩] false)
      (.cond (.t 35)
       (.seq
        (.region [⟨(some 36), .mov, [.t 4], none, []⟩,
          ⟨(some 2), .mov, [.t 36], none, [0, 0]⟩,
          ⟨(some 3), .mov, [.c (.int .i64 2)], none, [1, 0, 1]⟩] false)
        .ret)
       .skip))
     (.keep [1, 4, 5] [1, 5] b54k2))))
  (.keep [1, 4] [1] b54k3))
def b54l0 : DCode := .keep [1, 4] [1]
  (.seq
   (.seq
    (.region [⟨(some 14), .mov, [.t 4], none, []⟩,
      ⟨(some 15), (.faddr 0 false 1), [.t 1], none, []⟩,
      ⟨(some 16), (.load false 1), [.t 15], none, [1]⟩,
      ⟨(some 17), .len, [.t 16], none, [2]⟩,
      ⟨(some 18), (.bin .lss), [.t 14, .t 17], none, [0, 3]⟩] false)
    (.cond (.t 18)
     .skip
     (.exit 0)))
   (.keep [1, 4] [1] b54k4))
def b54k5 : DCode :=
 (.seq
  (.region [⟨(some 2), .mov, [.c (.int .i64 0)], none, []⟩,
    ⟨(some 3), .mov, [.c (.int .i64 0)], none, [0, 0]⟩] false)
  .ret)
def b54k6 : DCode :=
 (.seq
  (.seq
   (.region [⟨(some 4), .mov, [.c (.int .i64 0)], none, []⟩] false)
   (.block 0
    (.loop b54l0)))
  (.keep [] [] b54k5))
def b54k7 : DCode :=
 (.seq
  (.seq
   (.region [⟨(some 10), (.faddr 0 false 1), [.t 1], none, []⟩,
     ⟨(some 11), (.load false 1), [.t 10], none, [0]⟩,
     ⟨(some 12), .len, [.t 11], none, [1]⟩,
     ⟨(some 13), (.bin .gtr), [.t 12, .c (.int .i64 10)], none, [2]⟩] false)
   (.cond (.t 13)
    (.seq
     (.region [⟨(some 2), .mov, [.c (.int .i64 0)], none, []⟩,
       ⟨(some 3), .mov, [.c (.int .i64 8)], none, [0, 0]⟩] false)
     .ret)
    .skip))
  (.keep [1] [1] b54k6))
def b54 : DCode :=
 (.seq
  (.region [⟨(some 1), .box, [.t 0], none, []⟩,
    ⟨(some 2), .mov, [.c (.int .i64 0)], none, []⟩,
    ⟨(some 3), .mov, [.c (.int .i64 0)], none, [1]⟩] false)
  (.seq
   (.seq
    (.region [⟨(some 6), (.faddr 0 false 1), [.t 1], none, []⟩,
      ⟨(some 7), (.load false 1), [.t 6], none, [0]⟩,
      ⟨(some 8), .len, [.t 7], none, [1]⟩,
      ⟨(some 9), (.bin .lss), [.t 8, .c (.int .i64 2)], none, [2]⟩] false)
    (.cond (.t 9)
     (.seq
      (.region [⟨(some 2), .mov, [.c (.int .i64 0)], none, []⟩,
        ⟨(some 3), .mov, [.c (.int .i64 10)], none, [0, 0]⟩] false)
      .ret)
     .skip))
   (.keep [1] [1] b54k7)))
def d54 : DFn := ⟨1, 76, [.tmp 2, .tmp 3], b54⟩
theorem body54 : d54.body = b54 := rfl
theorem res54 : d54.res = [.tmp 2, .tmp 3] := rfl
theorem k54 : chkFn Try.prog Try.f54 d54 = true := by kernel_rfl

def b57 : DCode :=
 (.seq
  (.region [⟨(some 2), .box, [.t 0], none, []⟩,
    ⟨(some 4), .mov, [.c (.bool false)], none, []⟩] false)
  (.seq
   (.region [⟨(some 5), .mov, [.t 1], none, []⟩,
     ⟨(some 6), (.load true 1), [.t 2], none, []⟩,
     ⟨(some 7), .call, [.f 55, .t 6], none, [1]⟩,
     ⟨(some 8), (.field 0 false 1), [.t 7], none, [2]⟩,
     ⟨(some 9), (.load true 1), [.t 2], none, []⟩,
     ⟨(some 10), .call, [.f 56, .t 9], none, [4, 2]⟩,
     ⟨(some 11), (.field 0 false 1), [.t 10], none, [5]⟩,
     ⟨(some 12), .call, [.f 11, .t 5, .t 8, .t 11], none, [0, 3, 6, 5]⟩,
     ⟨(some 4), .mov, [.t 12], none, [7, 7, 0, 1, 2, 3, 4, 5, 6, 7]⟩] true)
   .ret))
def d57 : DFn := ⟨2, 13, [.tmp 4], b57⟩
theorem body57 : d57.body = b57 := rfl
theorem res57 : d57.res = [.tmp 4] := rfl
theorem k57 : chkFn Try.prog Try.f57 d57 = true := by kernel_rfl

def b35 : DCode :=
 (.seq
  (.region [⟨(some 2), .box, [.t 0], none, []⟩,
    ⟨(some 4), .mov, [.c (.bool false)], none, []⟩] false)
  (.seq
   (.region [⟨(some 5), .mov, [.t 1], none, []⟩,
     ⟨(some 6), (.load true 1), [.t 2], none, []⟩,
     ⟨(some 7), .call, [.f 55, .t 6], none, [1]⟩,
     ⟨(some 8), (.field 1 false 1), [.t 7], none, [2]⟩,
     ⟨(some 9), (.load true 1), [.t 2], none, []⟩,
     ⟨(some 10), .call, [.f 56, .t 9], none, [4, 2]⟩,
     ⟨(some 11), (.field 1 false 1), [.t 10], none, [5]⟩,
     ⟨(some 12), .call, [.f 11, .t 5, .t 8, .t 11], none, [0, 3, 6, 5]⟩,
     ⟨(some 4), .mov, [.t 12], none, [7, 7, 0, 1, 2, 3, 4, 5, 6, 7]⟩] true)
   .ret))
def d35 : DFn := ⟨2, 13, [.tmp 4], b35⟩
theorem body35 : d35.body = b35 := rfl
theorem res35 : d35.res = [.tmp 4] := rfl
theorem k35 : chkFn Try.prog Try.f35 d35 = true := by kernel_rfl

def b34 : DCode :=
 (.seq
  (.region [⟨(some 1), .box, [.t 0], none, []⟩,
    ⟨(some 2), .mov, [.c (.int .i64 0)], none, []⟩] false)
  (.seq
   (.region [⟨(some 6), (.load true 1), [.t 1], none, []⟩,
     ⟨(some 7), .call, [.f 54, .t 6], none, [0]⟩,
     ⟨(some 5), .mov, [.t 7], none, [1]⟩,
     ⟨(some 8), (.ext 0), [.t 5], none, [2]⟩,
     ⟨(some 9), (.ext 1), [.t 5], none, [2]⟩,
     ⟨(some 3), .mov, [.t 8], none, [3, 1, 0, 1, 2, 3]⟩,
     ⟨(some 4), .mov, [.t 9], none, [4, 5, 0, 1, 2, 3, 4, 5]⟩] false)
   (.seq
    (.region [⟨(some 10), .mov, [.t 4], none, []⟩,
      ⟨(some 2), .mov, [.t 10], none, [0, 0]⟩] false)
    .ret)))
def d34 : DFn := ⟨1, 11, [.tmp 2], b34⟩
theorem body34 : d34.body = b34 := rfl
theorem res34 : d34.res = [.tmp 2] := rfl
theorem k34 : chkFn Try.prog Try.f34 d34 = true := by kernel_rfl

def b56 : DCode :=
 (.seq
  (.region [⟨(some 1), .box, [.t 0], none, []⟩,
    ⟨(some 2), (.alloc [(.imm (.int .i64 0)), (.imm (.int .i64 0))]), [], none, []⟩] false)
  (.seq
   (.region [⟨(some 3), (.faddr 0 false 1), [.t 1], none, []⟩,
     ⟨(some 4), (.load false 1), [.t 3], none, [0]⟩,
     ⟨(some 5), (.faddr 0 false 1), [.t 1], none, []⟩,
     ⟨(some 6), (.load false 1), [.t 5], none, [2]⟩,
     ⟨(some 7), .len, [.t 6], none, [3]⟩,
     ⟨(some 8), (.bin .sub), [.t 7, .c (.int .i64 1)], none, [4]⟩,
     ⟨(some 9), (.iaddr 2), [.t 4, .t 8], none, [1, 5]⟩,
     ⟨(some 10), (.load true 2), [.t 9], none, [6]⟩,
     ⟨none, (.store 2), [.t 2, .t 10], none, [7, 0, 1, 2, 3, 4, 5, 6, 7]⟩] false)
   .ret))
def d56 : DFn := ⟨1, 11, [.cell 2 true 2], b56⟩
theorem body56 : d56.body = b56 := rfl
theorem res56 : d56.res = [.cell 2 true 2] := rfl
theorem k56 : chkFn Try.prog Try.f56 d56 = true := by kernel_rfl

def b10 : DCode :=
 (.seq
  (.region [⟨(some 2), .mov, [.c (.slc 3 [])], none, []⟩] false)
  (.seq
   (.region [⟨(some 3), (.bsl 3), [], none, []⟩,
     ⟨(some 4), .movv, [.t 0], none, []⟩,
     ⟨(some 5), (.append 3 24 false), [.t 3, .t 4], none, [0, 1]⟩,
     ⟨(some 2), .movv, [.t 5], none, [2, 2, 0, 1, 2]⟩] false)
   .ret))
def d10 : DFn := ⟨1, 6, [.tmp 2], b10⟩
theorem body10 : d10.body = b10 := rfl
theorem res10 : d10.res = [.tmp 2] := rfl
theorem k10 : chkFn Try.prog Try.f10 d10 = true := by kernel_rfl

def b21k0 : DCode :=
 (.region [⟨(some 12), .mov, [.t 3], none, []⟩,
   ⟨(some 13), (.bin .add), [.t 12, .c (.int .i64 1)], none, [0]⟩,
   ⟨(some 3), .mov, [.t 13], none, [1, 0, 1]⟩] false)
def b21k1 : DCode :=
 (.seq
  (.block 1
   (.seq
    (.region [⟨(some 14), .movv, [.t 0], none, []⟩,
      ⟨(some 15), .mov, [.t 3], none, []⟩,
      ⟨(some 16), (.iaddr 3), [.t 14, .t 15], none, [0, 1]⟩,
      ⟨(some 17), (.load true 3), [.t 16], none, [2]⟩,
      ⟨(some 18), .call, [.f 37, .t 17], none, [3]⟩,
      ⟨(some 4), .mov, [.t 18], none, [4, 4, 0, 1, 2, 3, 4]⟩] false)
    (.seq
     (.region [⟨(some 19), .mov, [.t 4], none, []⟩,
       ⟨(some 20), (.bin .neq), [.t 19, .c (.int .i64 0)], none, [0]⟩] false)
     (.cond (.t 20)
      (.seq
       (.region [⟨(some 21), .mov, [.t 4], none, []⟩,
         ⟨(some 2), .mov, [.t 21], none, [0, 0]⟩] false)
       .ret)
      .skip))))
  (.keep [0, 3] [] b21k0))
def b21l0 : DCode := .keep [0, 3] []
  (.seq
   (.seq
    (.region [⟨(some 8), .mov, [.t 3], none, []⟩,
      ⟨(some 9), .movv, [.t 0], none, []⟩,
      ⟨(some 10), .len, [.t 9], none, [1]⟩,
      ⟨(some 11), (.bin .lss), [.t 8, .t 10], none, [0, 2]⟩] false)
    (.cond (.t 11)
     .skip
     (.exit 0)))
   (.keep [0, 3] [] b21k1))
def b21k2 : DCode :=
 (.seq
  (.region [⟨(some 2), .mov, [.c (.int .i64 0)], none, []⟩] false)
  .ret)
def b21k3 : DCode :=
 (.seq
  (.seq
   (.region [⟨(some 3), .mov, [.c (.int .i64 0)], none, []⟩] false)
   (.block 0
    (.loop b21l0)))
  (.keep [] [] b21k2))
def b21 : DCode :=
 (.seq
  (.region [⟨(some 2), .mov, [.c (.int .i64 0)], none, []⟩] false)
  (.seq
   (.seq
    (.region [⟨(some 5), .movv, [.t 0], none, []⟩,
      ⟨(some 6), .len, [.t 5], none, [0]⟩,
      ⟨(some 7), (.bin .gtr), [.t 6, .c (.int .i64 200)], none, [1]⟩] false)
    (.cond (.t 7)
     (.seq
      (.region [⟨(some 2), .mov, [.c (.int .i64 8)], none, []⟩] false)
      .ret)
     .skip))
   (.keep [0] [] b21k3)))
def d21 : DFn := ⟨1, 22, [.tmp 2], b21⟩
theorem body21 : d21.body = b21 := rfl
theorem res21 : d21.res = [.tmp 2] := rfl
theorem k21 : chkFn Try.prog Try.f21 d21 = true := by kernel_rfl

def b19k0 : DCode :=
 (.seq
  (.region [⟨(some 4), .mov, [.c (.int .i64 0)], none, []⟩] false)
  .ret)
def b19 : DCode :=
 (.seq
  (.region [⟨(some 2), .box, [.t 0], none, []⟩,
    ⟨(some 3), .box, [.t 1], none, []⟩,
    ⟨(some 4), .mov, [.c (.int .i64 0)], none, []⟩] false)
  (.seq
   (.seq
    (.region [⟨(some 5), (.faddr 0 true 1), [.t 2], none, []⟩,
      ⟨(some 6), (.load true 1), [.t 5], none, [0]⟩,
      ⟨(some 7), (.faddr 0 false 1), [.t 3], none, []⟩,
      ⟨(some 8), (.load false 1), [.t 7], none, [2]⟩,
      ⟨(some 9), .call, [.f 35, .t 6, .t 8], none, [1, 3]⟩,
      ⟨(some 10), (.un .not), [.t 9], none, [4]⟩,
      ⟨(some 11), .mov, [.t 10], none, [5, 4]⟩,
      ⟨(some 12), (.faddr 1 true 1), [.t 2], (some (11, false)), [6]⟩,
      ⟨(some 13), (.load true 1), [.t 12], (some (11, false)), [7, 6]⟩,
      ⟨(some 14), (.faddr 1 false 1), [.t 3], (some (11, false)), [6]⟩,
      ⟨(some 15), (.load false 1), [.t 14], (some (11, false)), [9, 6]⟩,
      ⟨(some 16), .call, [.f 35, .t 13, .t 15], (some (11, false)), [8, 10, 6, 6]⟩,
      ⟨(some 17), (.un .not), [.t 16], (some (11, false)), [11, 6]⟩,
      ⟨(some 18), .pick, [.t 11, .c (.bool true), .t 17], none, [6, 12]⟩] false)
    (.cond (.t 18)
     (.seq
      (.region [⟨(some 4), .mov, [.c (.int .i64 2)], none, []⟩] false)
      .ret)
     .skip))
   (.keep [] [] b19k0)))
def d19 : DFn := ⟨2, 19, [.tmp 4], b19⟩
theorem body19 : d19.body = b19 := rfl
theorem res19 : d19.res = [.tmp 4] := rfl
theorem k19 : chkFn Try.prog Try.f19 d19 = true := by kernel_rfl

def b55 : DCode :=
 (.seq
  (.region [⟨(some 1), .box, [.t 0], none, []⟩,
    ⟨(some 2), (.alloc [(.imm (.int .i64 0)), (.imm (.int .i64 0))]), [], none, []⟩] false)
  (.seq
   (.region [⟨(some 3), (.faddr 0 false 1), [.t 1], none, []⟩,
     ⟨(some 4), (.load false 1), [.t 3], none, [0]⟩,
     ⟨(some 5), (.iaddr 2), [.t 4, .c (.int .i64 0)], none, [1]⟩,
     ⟨(some 6), (.load true 2), [.t 5], none, [2]⟩,
     ⟨none, (.store 2), [.t 2, .t 6], none, [3, 0, 1, 2, 3]⟩] false)
   .ret))
def d55 : DFn := ⟨1, 7, [.cell 2 true 2], b55⟩
theorem body55 : d55.body = b55 := rfl
theorem res55 : d55.res = [.cell 2 true 2] := rfl
theorem k55 : chkFn Try.prog Try.f55 d55 = true := by kernel_rfl

def b67 : DCode :=
 (.seq
  (.region [⟨(some 2), .box, [.t 0], none, []⟩,
    ⟨(some 4), (.alloc [(.imm (.int .i64 0)), (.imm (.slc 1 [])), (.imm (.int .i64 0)), (.imm (.slc 1 []))]), [], none, []⟩] false)
  (.seq
   (.region [⟨(some 7), (.faddr 0 false 1), [.t 2], none, []⟩,
     ⟨(some 8), (.loadf false 1 [2]), [.t 7], none, [0]⟩,
     ⟨(some 9), .mov, [.t 1], none, []⟩,
     ⟨(some 10), (.bin .sub), [.t 9, .c (.int .i64 1)], none, [2]⟩,
     ⟨(some 11), (.iaddr 2), [.t 8, .t 10], none, [1, 3]⟩,
     ⟨(some 12), (.loadf true 2 []), [.t 11], none, [4]⟩,
     ⟨(some 13), (.faddr 0 false 1), [.t 2], none, []⟩,
     ⟨(some 14), (.loadf false 1 [2]), [.t 13], none, [6]⟩,
     ⟨(some 15), .mov, [.t 1], none, []⟩,
     ⟨(some 16), (.iaddr 2), [.t 14, .t 15], none, [7, 8]⟩,
     ⟨(some 17), (.loadf true 2 []), [.t 16], none, [9]⟩,
     ⟨(some 5), (.alloc [(.imm (.int .i64 0)), (.imm (.int .i64 0))]), [], none, []⟩,
     ⟨(some 6), (.alloc [(.imm (.int .i64 0)), (.imm (.int .i64 0))]), [], none, []⟩,
     ⟨none, (.storef 2 [5]), [.t 5, .t 12], none, [11, 5, 0, 1, 2, 3, 4, 5, 11, 12]⟩,
     ⟨none, (.storef 2 [6]), [.t 6, .t 17], none, [12, 10, 13, 0, 1, 2, 3, 4, 5, 6, 7, 8, 9, 10, 11, 12, 13]⟩] true)
   (.seq
    (.region [⟨(some 18), (.faddr 1 false 1), [.t 6], none, []⟩,
      ⟨(some 19), (.load false 1), [.t 18], none, [0]⟩,
      ⟨(some 20), (.faddr 1 false 1), [.t 5], none, []⟩,
      ⟨(some 21), (.load false 1), [.t 20], none, [2]⟩,
      ⟨(some 22), (.bin .sub), [.t 19, .t 21], none, [1, 3]⟩,
      ⟨(some 23), (.faddr 0 false 1), [.t 6], none, []⟩,
      ⟨(some 24), (.load false 1), [.t 23], none, [5]⟩,
      ⟨(some 25), (.faddr 0 false 1), [.t 5], none, []⟩,
      ⟨(some 26), (.load false 1), [.t 25], none, [7]⟩,
      ⟨(some 27), (.bin .sub), [.t 24, .t 26], none, [6, 8]⟩,
      ⟨(some 28), .call, [.f 74, .t 22, .t 27], none, [4, 9]⟩,
      ⟨none, (.store 4), [.t 4, .t 28], none, [10, 10, 0, 1, 2, 3, 4, 5, 6, 7, 8, 9, 10]⟩] false)
    .ret)))
def d67 : DFn := ⟨2, 29, [.cell 4 true 4], b67⟩
theorem body67 : d67.body = b67 := rfl
theorem res67 : d67.res = [.cell 4 true 4] := rfl
theorem k67 : chkFn Try.prog Try.f67 d67 = true := by kernel_rfl

end Go.DI

