/- Contracts of the statements' examples. No condition. -/
import Derived.Test.YtadmimjaelodkaaWeGe
import Derived.Test.YtadmimjaelodkaaProg
import Derived.KernelRfl
import Derived.Test.YtadmimjaelodkaaWiGh
import Derived.Test.YtadmimjaelodkaaWiGj
/- The functions of the reference and of the statements about waves, as data. No condition. -/
namespace Go.DI
open Go.Proofs Go.RowKit
def b34 : DCode :=
 (.seq
  (.region [⟨(some 6), .mov, [.c (.bool false)], none, []⟩] false)
  (.seq
   (.region [⟨(some 7), .mov, [.t 1], none, []⟩,
     ⟨(some 8), .mov, [.t 0], none, []⟩,
     ⟨(some 9), (.bin .leq), [.t 7, .t 8], none, [0, 1]⟩,
     ⟨(some 10), .mov, [.t 9], none, [2]⟩,
     ⟨(some 11), .mov, [.t 0], (some (10, true)), [3]⟩,
     ⟨(some 12), .mov, [.t 2], (some (10, true)), [3]⟩,
     ⟨(some 13), (.bin .leq), [.t 11, .t 12], (some (10, true)), [4, 5, 3]⟩,
     ⟨(some 14), .pick, [.t 10, .t 13, .c (.bool false)], none, [3, 6]⟩,
     ⟨(some 6), .mov, [.t 14], none, [7, 3, 0, 1, 2, 3, 4, 5, 6, 7]⟩] false)
   .ret))
def d34 : DFn := ⟨3, 15, [.tmp 6], b34⟩
theorem body34 : d34.body = b34 := rfl
theorem res34 : d34.res = [.tmp 6] := rfl
theorem k34 : chkFn Try.prog Try.f34 d34 = true := by kernel_rfl

def b45k0 : DCode :=
 (.region [⟨(some 15), .mov, [.t 5], none, []⟩,
   ⟨(some 16), (.bin .add), [.t 15, .c (.int .i64 1)], none, [0]⟩,
   ⟨(some 5), .mov, [.t 16], none, [1, 0, 1]⟩] false)
def b45k1 : DCode :=
 (.seq
  (.block 1
   (.seq
    (.region [⟨(some 17), .movv, [.t 0], none, []⟩,
      ⟨(some 18), .mov, [.t 5], none, []⟩,
      ⟨(some 19), (.iaddr 1), [.t 17, .t 18], none, [0, 1]⟩,
      ⟨(some 20), (.load false 1), [.t 19], none, [2]⟩,
      ⟨(some 21), .movv, [.t 1], none, []⟩,
      ⟨(some 22), .mov, [.t 5], none, []⟩,
      ⟨(some 23), (.iaddr 1), [.t 21, .t 22], none, [4, 5]⟩,
      ⟨(some 24), (.load false 1), [.t 23], none, [6]⟩,
      ⟨(some 25), (.bin .neq), [.t 20, .t 24], none, [3, 7]⟩] true)
    (.cond (.t 25)
     (.seq
      (.region [⟨(some 4), .mov, [.c (.bool false)], none, []⟩] false)
      .ret)
     .skip)))
  (.keep [0, 1, 5] [] b45k0))
def b45l0 : DCode := .keep [0, 1, 5] []
  (.seq
   (.seq
    (.region [⟨(some 11), .mov, [.t 5], none, []⟩,
      ⟨(some 12), .movv, [.t 0], none, []⟩,
      ⟨(some 13), .len, [.t 12], none, [1]⟩,
      ⟨(some 14), (.bin .lss), [.t 11, .t 13], none, [0, 2]⟩] false)
    (.cond (.t 14)
     .skip
     (.exit 0)))
   (.keep [0, 1, 5] [] b45k1))
def b45k2 : DCode :=
 (.seq
  (.region [⟨(some 4), .mov, [.c (.bool true)], none, []⟩] false)
  .ret)
def b45k3 : DCode :=
 (.seq
  (.seq
   (.region [⟨(some 5), .mov, [.c (.int .i64 0)], none, []⟩] false)
   (.block 0
    (.loop b45l0)))
  (.keep [] [] b45k2))
def b45 : DCode :=
 (.seq
  (.region [⟨(some 4), .mov, [.c (.bool false)], none, []⟩] false)
  (.seq
   (.seq
    (.region [⟨(some 6), .movv, [.t 0], none, []⟩,
      ⟨(some 7), .len, [.t 6], none, [0]⟩,
      ⟨(some 8), .movv, [.t 1], none, []⟩,
      ⟨(some 9), .len, [.t 8], none, [2]⟩,
      ⟨(some 10), (.bin .neq), [.t 7, .t 9], none, [1, 3]⟩] false)
    (.cond (.t 10)
     (.seq
      (.region [⟨(some 4), .mov, [.c (.bool false)], none, []⟩] false)
      .ret)
     .skip))
   (.keep [0, 1] [] b45k3)))
def d45 : DFn := ⟨2, 26, [.tmp 4], b45⟩
theorem body45 : d45.body = b45 := rfl
theorem res45 : d45.res = [.tmp 4] := rfl
theorem k45 : chkFn Try.prog Try.f45 d45 = true := by kernel_rfl

def b24 : DCode :=
 (.seq
  (.region [⟨(some 2), .mov, [.c (.slc 1 [])], none, []⟩] false)
  (.seq
   (.region [⟨(some 3), (.bsl 1), [], none, []⟩,
     ⟨(some 4), .movv, [.t 0], none, []⟩,
     ⟨(some 5), (.append 1 8 false), [.t 3, .t 4], none, [0, 1]⟩,
     ⟨(some 2), .movv, [.t 5], none, [2, 2, 0, 1, 2]⟩] false)
   .ret))
def d24 : DFn := ⟨1, 6, [.tmp 2], b24⟩
theorem body24 : d24.body = b24 := rfl
theorem res24 : d24.res = [.tmp 2] := rfl
theorem k24 : chkFn Try.prog Try.f24 d24 = true := by kernel_rfl

def b22 : DCode :=
 (.seq
  (.region [⟨(some 1), .box, [.t 0], none, []⟩,
    ⟨(some 2), (.alloc [(.imm (.slc 2 [])), (.imm (.slc 1 []))]), [], none, []⟩] false)
  (.seq
   (.region [⟨(some 3), (.bsl 2), [], none, []⟩,
     ⟨(some 4), (.faddr 0 false 1), [.t 1], none, []⟩,
     ⟨(some 5), (.load false 1), [.t 4], none, [1]⟩,
     ⟨(some 6), (.appq 2 16), [.t 3, .t 5], none, [0, 2]⟩,
     ⟨(some 7), (.faddr 1 false 1), [.t 1], none, []⟩,
     ⟨(some 8), (.load false 1), [.t 7], none, [4]⟩,
     ⟨(some 9), .call, [.f 24, .t 8], none, [5, 3]⟩,
     ⟨(some 10), (.build [(.imm (.slc 2 [])), (.imm (.slc 1 []))] [(0, 1), (1, 1)]), [.t 6, .t 9], none, [3, 6]⟩,
     ⟨none, (.store 2), [.t 2, .t 10], none, [7, 6, 0, 1, 2, 3, 4, 5, 6, 7]⟩] true)
   .ret))
def d22 : DFn := ⟨1, 11, [.cell 2 true 2], b22⟩
theorem body22 : d22.body = b22 := rfl
theorem res22 : d22.res = [.cell 2 true 2] := rfl
theorem k22 : chkFn Try.prog Try.f22 d22 = true := by kernel_rfl

def b32k0 : DCode :=
 (.region [⟨(some 9), .mov, [.t 3], none, []⟩,
   ⟨(some 10), (.bin .add), [.t 9, .c (.int .i64 1)], none, [0]⟩,
   ⟨(some 3), .mov, [.t 10], none, [1, 0, 1]⟩] false)
def b32k1 : DCode :=
 (.seq
  (.block 1
   (.seq
    (.region [⟨(some 11), (.faddr 0 false 1), [.t 1], none, []⟩,
      ⟨(some 12), (.load false 1), [.t 11], none, [0]⟩,
      ⟨(some 13), .mov, [.t 3], none, []⟩,
      ⟨(some 14), (.iaddr 2), [.t 12, .t 13], none, [1, 2]⟩,
      ⟨(some 15), (.faddr 1 false 1), [.t 14], none, [3]⟩,
      ⟨(some 16), (.load false 1), [.t 15], none, [4]⟩,
      ⟨(some 17), (.faddr 0 false 1), [.t 1], none, []⟩,
      ⟨(some 18), (.load false 1), [.t 17], none, [6]⟩,
      ⟨(some 19), (.iaddr 2), [.t 18, .c (.int .i64 0)], none, [7]⟩,
      ⟨(some 20), (.faddr 1 false 1), [.t 19], none, [8]⟩,
      ⟨(some 21), (.load false 1), [.t 20], none, [9]⟩,
      ⟨(some 22), (.bin .neq), [.t 16, .t 21], none, [5, 10]⟩,
      ⟨(some 23), .mov, [.t 22], none, [11]⟩,
      ⟨(some 24), .mov, [.t 3], (some (23, false)), [12]⟩,
      ⟨(some 25), (.bin .gtr), [.t 24, .c (.int .i64 0)], (some (23, false)), [13, 12]⟩,
      ⟨(some 26), .mov, [.t 25], (some (23, false)), [14, 12, 12]⟩,
      ⟨(some 27), (.faddr 1 false 1), [.t 1], (some (26, true)), [15]⟩,
      ⟨(some 28), (.load false 1), [.t 27], (some (26, true)), [16, 15]⟩,
      ⟨(some 29), .mov, [.t 3], (some (26, true)), [15]⟩,
      ⟨(some 30), (.bin .sub), [.t 29, .c (.int .i64 1)], (some (26, true)), [18, 15]⟩,
      ⟨(some 31), (.iaddr 1), [.t 28, .t 30], (some (26, true)), [17, 19, 15]⟩,
      ⟨(some 32), (.load false 1), [.t 31], (some (26, true)), [20, 15]⟩,
      ⟨(some 33), (.bin .neq), [.t 32, .c (.int .i64 0)], (some (26, true)), [21, 15]⟩,
      ⟨(some 34), .pick, [.t 26, .t 33, .c (.bool false)], (some (23, false)), [15, 22, 12]⟩,
      ⟨(some 35), .pick, [.t 23, .c (.bool true), .t 34], none, [12, 23]⟩] true)
    (.cond (.t 35)
     (.seq
      (.region [⟨(some 2), .mov, [.c (.bool false)], none, []⟩] false)
      .ret)
     .skip)))
  (.keep [1, 3] [1] b32k0))
def b32l0 : DCode := .keep [1, 3] [1]
  (.seq
   (.seq
    (.region [⟨(some 4), .mov, [.t 3], none, []⟩,
      ⟨(some 5), (.faddr 0 false 1), [.t 1], none, []⟩,
      ⟨(some 6), (.load false 1), [.t 5], none, [1]⟩,
      ⟨(some 7), .len, [.t 6], none, [2]⟩,
      ⟨(some 8), (.bin .lss), [.t 4, .t 7], none, [0, 3]⟩] false)
    (.cond (.t 8)
     .skip
     (.exit 0)))
   (.keep [1, 3] [1] b32k1))
def b32k2 : DCode :=
 (.seq
  (.region [⟨(some 2), .mov, [.c (.bool true)], none, []⟩] false)
  .ret)
def b32 : DCode :=
 (.seq
  (.region [⟨(some 1), .box, [.t 0], none, []⟩,
    ⟨(some 2), .mov, [.c (.bool false)], none, []⟩] false)
  (.seq
   (.seq
    (.region [⟨(some 3), .mov, [.c (.int .i64 0)], none, []⟩] false)
    (.block 0
     (.loop b32l0)))
   (.keep [] [] b32k2)))
def d32 : DFn := ⟨1, 36, [.tmp 2], b32⟩
theorem body32 : d32.body = b32 := rfl
theorem res32 : d32.res = [.tmp 2] := rfl
theorem k32 : chkFn Try.prog Try.f32 d32 = true := by kernel_rfl

def b37 : DCode :=
 (.seq
  (.region [⟨(some 1), .box, [.t 0], none, []⟩,
    ⟨(some 2), .mov, [.c (.int .i64 0)], none, []⟩] false)
  (.seq
   (.region [⟨(some 6), (.load true 2), [.t 1], none, []⟩,
     ⟨(some 7), .call, [.f 61, .t 6], none, [0]⟩,
     ⟨(some 5), .mov, [.t 7], none, [1]⟩,
     ⟨(some 8), (.ext 0), [.t 5], none, [2]⟩,
     ⟨(some 9), (.ext 1), [.t 5], none, [2]⟩,
     ⟨(some 3), .mov, [.t 8], none, [3, 1, 0, 1, 2, 3]⟩,
     ⟨(some 4), .mov, [.t 9], none, [4, 5, 0, 1, 2, 3, 4, 5]⟩] false)
   (.seq
    (.region [⟨(some 10), .mov, [.t 4], none, []⟩,
      ⟨(some 2), .mov, [.t 10], none, [0, 0]⟩] false)
    .ret)))
def d37 : DFn := ⟨1, 11, [.tmp 2], b37⟩
theorem body37 : d37.body = b37 := rfl
theorem res37 : d37.res = [.tmp 2] := rfl
theorem k37 : chkFn Try.prog Try.f37 d37 = true := by kernel_rfl

def b38 : DCode :=
 (.seq
  (.region [⟨(some 2), .mov, [.c (.int .i64 0)], none, []⟩] false)
  (.seq
   (.region [⟨(some 6), .movv, [.t 0], none, []⟩,
     ⟨(some 7), .call, [.f 67, .t 6], none, [0]⟩,
     ⟨(some 5), .mov, [.t 7], none, [1]⟩,
     ⟨(some 8), (.ext 0), [.t 5], none, [2]⟩,
     ⟨(some 9), (.ext 1), [.t 5], none, [2]⟩,
     ⟨(some 3), .mov, [.t 8], none, [3, 1, 0, 1, 2, 3]⟩,
     ⟨(some 4), .mov, [.t 9], none, [4, 5, 0, 1, 2, 3, 4, 5]⟩] false)
   (.seq
    (.region [⟨(some 10), .mov, [.t 4], none, []⟩,
      ⟨(some 2), .mov, [.t 10], none, [0, 0]⟩] false)
    .ret)))
def d38 : DFn := ⟨1, 11, [.tmp 2], b38⟩
theorem body38 : d38.body = b38 := rfl
theorem res38 : d38.res = [.tmp 2] := rfl
theorem k38 : chkFn Try.prog Try.f38 d38 = true := by kernel_rfl

def b55k0 : DCode :=
 (.seq
  (.region [⟨(some 2), .mov, [.c (.int .i64 0)], none, []⟩] false)
  .ret)
def b55k1 : DCode :=
 (.seq
  (.seq
   (.region [⟨(some 32), (.faddr 3 true 2), [.t 1], none, []⟩,
     ⟨(some 33), (.faddr 0 false 1), [.t 32], none, [0]⟩,
     ⟨(some 34), (.load false 1), [.t 33], none, [1]⟩,
     ⟨(some 35), (.faddr 3 true 2), [.t 1], none, []⟩,
     ⟨(some 36), (.faddr 1 false 1), [.t 35], none, [3]⟩,
     ⟨(some 37), (.load false 1), [.t 36], none, [4]⟩,
     ⟨(some 38), (.bin .gtr), [.t 34, .t 37], none, [2, 5]⟩] false)
   (.cond (.t 38)
    (.seq
     (.region [⟨(some 2), .mov, [.c (.int .i64 9)], none, []⟩] false)
     .ret)
    .skip))
  (.keep [] [] b55k0))
def b55k2 : DCode :=
 (.seq
  (.seq
   (.region [⟨(some 20), (.faddr 3 true 2), [.t 1], none, []⟩,
     ⟨(some 21), (.faddr 0 false 1), [.t 20], none, [0]⟩,
     ⟨(some 22), (.load false 1), [.t 21], none, [1]⟩,
     ⟨(some 23), .call, [.f 34, .t 22, .c (.int .i64 (-1000000)), .c (.int .i64 1000000)], none, [2]⟩,
     ⟨(some 24), (.un .not), [.t 23], none, [3]⟩,
     ⟨(some 25), .mov, [.t 24], none, [4, 3]⟩,
     ⟨(some 26), (.faddr 3 true 2), [.t 1], (some (25, false)), [5]⟩,
     ⟨(some 27), (.faddr 1 false 1), [.t 26], (some (25, false)), [6, 5]⟩,
     ⟨(some 28), (.load false 1), [.t 27], (some (25, false)), [7, 5]⟩,
     ⟨(some 29), .call, [.f 34, .t 28, .c (.int .i64 (-1000000)), .c (.int .i64 1000000)], (some (25, false)), [8, 5, 5]⟩,
     ⟨(some 30), (.un .not), [.t 29], (some (25, false)), [9, 5]⟩,
     ⟨(some 31), .pick, [.t 25, .c (.bool true), .t 30], none, [5, 10]⟩] false)
   (.cond (.t 31)
    (.seq
     (.region [⟨(some 2), .mov, [.c (.int .i64 2)], none, []⟩] false)
     .ret)
    .skip))
  (.keep [1] [1] b55k1))
def b55k3 : DCode :=
 (.seq
  (.seq
   (.region [⟨(some 14), (.faddr 2 false 1), [.t 1], none, []⟩,
     ⟨(some 15), (.load false 1), [.t 14], none, [0]⟩,
     ⟨(some 16), .call, [.f 68, .t 15], none, [1]⟩,
     ⟨(some 3), .mov, [.t 16], none, [2, 2, 0, 1, 2]⟩] false)
   (.seq
    (.region [⟨(some 17), .mov, [.t 3], none, []⟩,
      ⟨(some 18), (.bin .neq), [.t 17, .c (.int .i64 0)], none, [0]⟩] false)
    (.cond (.t 18)
     (.seq
      (.region [⟨(some 19), .mov, [.t 3], none, []⟩,
        ⟨(some 2), .mov, [.t 19], none, [0, 0]⟩] false)
      .ret)
     .skip)))
  (.keep [1] [1] b55k2))
def b55 : DCode :=
 (.seq
  (.region [⟨(some 1), .box, [.t 0], none, []⟩,
    ⟨(some 2), .mov, [.c (.int .i64 0)], none, []⟩] false)
  (.seq
   (.seq
    (.region [⟨(some 4), (.faddr 0 false 1), [.t 1], none, []⟩,
      ⟨(some 5), (.load false 1), [.t 4], none, [0]⟩,
      ⟨(some 6), .call, [.f 34, .t 5, .c (.int .i64 0), .c (.int .i64 5)], none, [1]⟩,
      ⟨(some 7), (.un .not), [.t 6], none, [2]⟩,
      ⟨(some 8), .mov, [.t 7], none, [3, 2]⟩,
      ⟨(some 9), (.faddr 1 false 1), [.t 1], (some (8, false)), [4]⟩,
      ⟨(some 10), (.load false 1), [.t 9], (some (8, false)), [5, 4]⟩,
      ⟨(some 11), .call, [.f 34, .t 10, .c (.int .i64 1), .c (.int .i64 7)], (some (8, false)), [6, 4, 4]⟩,
      ⟨(some 12), (.un .not), [.t 11], (some (8, false)), [7, 4]⟩,
      ⟨(some 13), .pick, [.t 8, .c (.bool true), .t 12], none, [4, 8]⟩] false)
    (.cond (.t 13)
     (.seq
      (.region [⟨(some 2), .mov, [.c (.int .i64 2)], none, []⟩] false)
      .ret)
     .skip))
   (.keep [1] [1] b55k3)))
def d55 : DFn := ⟨1, 39, [.tmp 2], b55⟩
theorem body55 : d55.body = b55 := rfl
theorem res55 : d55.res = [.tmp 2] := rfl
theorem k55 : chkFn Try.prog Try.f55 d55 = true := by kernel_rfl

def b61k0 : DCode :=
 (.region [⟨(some 27), .mov, [.t 4], none, []⟩,
   ⟨(some 28), (.bin .add), [.t 27, .c (.int .i64 1)], none, [0]⟩,
   ⟨(some 4), .mov, [.t 28], none, [1, 0, 1]⟩] false)
def b61k1 : DCode :=
 (.seq
  (.block 1
   (.seq
    (.region [⟨(some 29), (.faddr 0 false 1), [.t 1], none, []⟩,
      ⟨(some 30), (.load false 1), [.t 29], none, [0]⟩,
      ⟨(some 31), .mov, [.t 4], none, []⟩,
      ⟨(some 32), (.iaddr 2), [.t 30, .t 31], none, [1, 2]⟩,
      ⟨(some 33), (.faddr 0 false 1), [.t 32], none, [3]⟩,
      ⟨(some 34), (.load false 1), [.t 33], none, [4]⟩,
      ⟨(some 35), .call, [.f 34, .t 34, .c (.int .i64 1), .c (.int .i64 6)], none, [5]⟩,
      ⟨(some 36), (.un .not), [.t 35], none, [6]⟩,
      ⟨(some 37), .mov, [.t 36], none, [7, 6]⟩,
      ⟨(some 38), (.faddr 0 false 1), [.t 1], (some (37, false)), [8]⟩,
      ⟨(some 39), (.load false 1), [.t 38], (some (37, false)), [9, 8]⟩,
      ⟨(some 40), .mov, [.t 4], (some (37, false)), [8]⟩,
      ⟨(some 41), (.iaddr 2), [.t 39, .t 40], (some (37, false)), [10, 11, 8]⟩,
      ⟨(some 42), (.faddr 1 false 1), [.t 41], (some (37, false)), [12, 8]⟩,
      ⟨(some 43), (.load false 1), [.t 42], (some (37, false)), [13, 8]⟩,
      ⟨(some 44), .call, [.f 34, .t 43, .c (.int .i64 1), .c (.int .i64 10)], (some (37, false)), [14, 8, 8]⟩,
      ⟨(some 45), (.un .not), [.t 44], (some (37, false)), [15, 8]⟩,
      ⟨(some 46), .pick, [.t 37, .c (.bool true), .t 45], none, [8, 16]⟩] false)
    (.cond (.t 46)
     (.seq
      (.region [⟨(some 47), .mov, [.t 4], none, []⟩,
        ⟨(some 2), .mov, [.t 47], none, [0, 0]⟩,
        ⟨(some 3), .mov, [.c (.int .i64 2)], none, [1, 0, 1]⟩] false)
      .ret)
     .skip)))
  (.keep [1, 4] [1] b61k0))
def b61l0 : DCode := .keep [1, 4] [1]
  (.seq
   (.seq
    (.region [⟨(some 22), .mov, [.t 4], none, []⟩,
      ⟨(some 23), (.faddr 0 false 1), [.t 1], none, []⟩,
      ⟨(some 24), (.load false 1), [.t 23], none, [1]⟩,
      ⟨(some 25), .len, [.t 24], none, [2]⟩,
      ⟨(some 26), (.bin .lss), [.t 22, .t 25], none, [0, 3]⟩] false)
    (.cond (.t 26)
     .skip
     (.exit 0)))
   (.keep [1, 4] [1] b61k1))
def b61k2 : DCode :=
 (.region [⟨(some 53), .mov, [.t 5], none, []⟩,
   ⟨(some 54), (.bin .add), [.t 53, .c (.int .i64 1)], none, [0]⟩,
   ⟨(some 5), .mov, [.t 54], none, [1, 0, 1]⟩] false)
def b61k3 : DCode :=
 (.seq
  (.block 3
   (.seq
    (.region [⟨(some 55), (.faddr 1 false 1), [.t 1], none, []⟩,
      ⟨(some 56), (.load false 1), [.t 55], none, [0]⟩,
      ⟨(some 57), .mov, [.t 5], none, []⟩,
      ⟨(some 58), (.iaddr 1), [.t 56, .t 57], none, [1, 2]⟩,
      ⟨(some 59), (.load false 1), [.t 58], none, [3]⟩,
      ⟨(some 60), .call, [.f 34, .t 59, .c (.int .i64 0), .c (.int .i64 20)], none, [4]⟩,
      ⟨(some 61), (.un .not), [.t 60], none, [5]⟩] false)
    (.cond (.t 61)
     (.seq
      (.region [⟨(some 62), .mov, [.t 5], none, []⟩,
        ⟨(some 2), .mov, [.t 62], none, [0, 0]⟩,
        ⟨(some 3), .mov, [.c (.int .i64 2)], none, [1, 0, 1]⟩] false)
      .ret)
     .skip)))
  (.keep [1, 5] [1] b61k2))
def b61l1 : DCode := .keep [1, 5] [1]
  (.seq
   (.seq
    (.region [⟨(some 48), .mov, [.t 5], none, []⟩,
      ⟨(some 49), (.faddr 1 false 1), [.t 1], none, []⟩,
      ⟨(some 50), (.load false 1), [.t 49], none, [1]⟩,
      ⟨(some 51), .len, [.t 50], none, [2]⟩,
      ⟨(some 52), (.bin .lss), [.t 48, .t 51], none, [0, 3]⟩] false)
    (.cond (.t 52)
     .skip
     (.exit 2)))
   (.keep [1, 5] [1] b61k3))
def b61k4 : DCode :=
 (.seq
  (.region [⟨(some 2), .mov, [.c (.int .i64 0)], none, []⟩,
    ⟨(some 3), .mov, [.c (.int .i64 0)], none, [0, 0]⟩] false)
  .ret)
def b61k5 : DCode :=
 (.seq
  (.seq
   (.region [⟨(some 5), .mov, [.c (.int .i64 0)], none, []⟩] false)
   (.block 2
    (.loop b61l1)))
  (.keep [] [] b61k4))
def b61k6 : DCode :=
 (.seq
  (.seq
   (.region [⟨(some 4), .mov, [.c (.int .i64 0)], none, []⟩] false)
   (.block 0
    (.loop b61l0)))
  (.keep [1] [1] b61k5))
def b61k7 : DCode :=
 (.seq
  (.seq
   (.region [⟨(some 14), (.faddr 1 false 1), [.t 1], none, []⟩,
     ⟨(some 15), (.load false 1), [.t 14], none, [0]⟩,
     ⟨(some 16), .len, [.t 15], none, [1]⟩,
     ⟨(some 17), (.faddr 0 false 1), [.t 1], none, []⟩,
     ⟨(some 18), (.load false 1), [.t 17], none, [3]⟩,
     ⟨(some 19), .len, [.t 18], none, [4]⟩,
     ⟨(some 20), (.bin .sub), [.t 19, .c (.int .i64 1)], none, [5]⟩,
     ⟨(some 21), (.bin .neq), [.t 16, .t 20], none, [2, 6]⟩] false)
   (.cond (.t 21)
    (.seq
     (.region [⟨(some 2), .mov, [.c (.int .i64 0)], none, []⟩,
       ⟨(some 3), .mov, [.c (.int .i64 10)], none, [0, 0]⟩] false)
     .ret)
    .skip))
  (.keep [1] [1] b61k6))
def b61k8 : DCode :=
 (.seq
  (.seq
   (.region [⟨(some 10), (.faddr 0 false 1), [.t 1], none, []⟩,
     ⟨(some 11), (.load false 1), [.t 10], none, [0]⟩,
     ⟨(some 12), .len, [.t 11], none, [1]⟩,
     ⟨(some 13), (.bin .gtr), [.t 12, .c (.int .i64 4)], none, [2]⟩] false)
   (.cond (.t 13)
    (.seq
     (.region [⟨(some 2), .mov, [.c (.int .i64 0)], none, []⟩,
       ⟨(some 3), .mov, [.c (.int .i64 8)], none, [0, 0]⟩] false)
     .ret)
    .skip))
  (.keep [1] [1] b61k7))
def b61 : DCode :=
 (.seq
  (.region [⟨(some 1), .box, [.t 0], none, []⟩,
    ⟨(some 2), .mov, [.c (.int .i64 0)], none, []⟩,
    ⟨(some 3), .mov, [.c (.int .i64 0)], none, [1]⟩] false)
  (.seq
   (.seq
    (.region [⟨(some 6), (.faddr 0 false 1), [.t 1], none, []⟩,
      ⟨(some 7), (.load false 1), [.t 6], none, [0]⟩,
      ⟨(some 8), .len, [.t 7], none, [1]⟩,
      ⟨(some 9), (.bin .eql), [.t 8, .c (.int .i64 0)], none, [2]⟩] false)
    (.cond (.t 9)
     (.seq
      (.region [⟨(some 2), .mov, [.c (.int .i64 0)], none, []⟩,
        ⟨(some 3), .mov, [.c (.int .i64 10)], none, [0, 0]⟩] false)
      .ret)
     .skip))
   (.keep [1] [1] b61k8)))
def d61 : DFn := ⟨1, 63, [.tmp 2, .tmp 3], b61⟩
theorem body61 : d61.body = b61 := rfl
theorem res61 : d61.res = [.tmp 2, .tmp 3] := rfl
theorem k61 : chkFn Try.prog Try.f61 d61 = true := by kernel_rfl

def b67k0 : DCode :=
 (.seq
  (.region [⟨(some 21), .mov, [.t 4], none, []⟩,
    ⟨(some 22), (.bin .gtr), [.t 21, .c (.int .i64 0)], none, [0]⟩,
    ⟨(some 23), .mov, [.t 22], none, [1]⟩,
    ⟨(some 24), .movv, [.t 0], (some (23, true)), [2]⟩,
    ⟨(some 25), .mov, [.t 4], (some (23, true)), [2]⟩,
    ⟨(some 26), (.iaddr 1), [.t 24, .t 25], (some (23, true)), [3, 4, 2]⟩,
    ⟨(some 27), (.load false 1), [.t 26], (some (23, true)), [5, 2]⟩,
    ⟨(some 28), .movv, [.t 0], (some (23, true)), [2]⟩,
    ⟨(some 29), .mov, [.t 4], (some (23, true)), [2]⟩,
    ⟨(some 30), (.bin .sub), [.t 29, .c (.int .i64 1)], (some (23, true)), [8, 2]⟩,
    ⟨(some 31), (.iaddr 1), [.t 28, .t 30], (some (23, true)), [7, 9, 2]⟩,
    ⟨(some 32), (.load false 1), [.t 31], (some (23, true)), [10, 2]⟩,
    ⟨(some 33), (.bin .lss), [.t 27, .t 32], (some (23, true)), [6, 11, 2]⟩,
    ⟨(some 34), .pick, [.t 23, .t 33, .c (.bool false)], none, [2, 12]⟩] true)
  (.cond (.t 34)
   (.seq
    (.region [⟨(some 35), .mov, [.t 4], none, []⟩,
      ⟨(some 2), .mov, [.t 35], none, [0, 0]⟩,
      ⟨(some 3), .mov, [.c (.int .i64 9)], none, [1, 0, 1]⟩] false)
    .ret)
   .skip))
def b67k1 : DCode :=
 (.region [⟨(some 12), .mov, [.t 4], none, []⟩,
   ⟨(some 13), (.bin .add), [.t 12, .c (.int .i64 1)], none, [0]⟩,
   ⟨(some 4), .mov, [.t 13], none, [1, 0, 1]⟩] false)
def b67k2 : DCode :=
 (.seq
  (.block 1
   (.seq
    (.seq
     (.region [⟨(some 14), .movv, [.t 0], none, []⟩,
       ⟨(some 15), .mov, [.t 4], none, []⟩,
       ⟨(some 16), (.iaddr 1), [.t 14, .t 15], none, [0, 1]⟩,
       ⟨(some 17), (.load false 1), [.t 16], none, [2]⟩,
       ⟨(some 18), .call, [.f 34, .t 17, .c (.int .i64 0), .c (.int .i64 1000)], none, [3]⟩,
       ⟨(some 19), (.un .not), [.t 18], none, [4]⟩] false)
     (.cond (.t 19)
      (.seq
       (.region [⟨(some 20), .mov, [.t 4], none, []⟩,
         ⟨(some 2), .mov, [.t 20], none, [0, 0]⟩,
         ⟨(some 3), .mov, [.c (.int .i64 2)], none, [1, 0, 1]⟩] false)
       .ret)
      .skip))
    (.keep [0, 4] [] b67k0)))
  (.keep [0, 4] [] b67k1))
def b67l0 : DCode := .keep [0, 4] []
  (.seq
   (.seq
    (.region [⟨(some 8), .mov, [.t 4], none, []⟩,
      ⟨(some 9), .movv, [.t 0], none, []⟩,
      ⟨(some 10), .len, [.t 9], none, [1]⟩,
      ⟨(some 11), (.bin .lss), [.t 8, .t 10], none, [0, 2]⟩] false)
    (.cond (.t 11)
     .skip
     (.exit 0)))
   (.keep [0, 4] [] b67k2))
def b67k3 : DCode :=
 (.seq
  (.region [⟨(some 2), .mov, [.c (.int .i64 0)], none, []⟩,
    ⟨(some 3), .mov, [.c (.int .i64 0)], none, [0, 0]⟩] false)
  .ret)
def b67k4 : DCode :=
 (.seq
  (.seq
   (.region [⟨(some 4), .mov, [.c (.int .i64 0)], none, []⟩] false)
   (.block 0
    (.loop b67l0)))
  (.keep [] [] b67k3))
def b67 : DCode :=
 (.seq
  (.region [⟨(some 2), .mov, [.c (.int .i64 0)], none, []⟩,
    ⟨(some 3), .mov, [.c (.int .i64 0)], none, [0]⟩] false)
  (.seq
   (.seq
    (.region [⟨(some 5), .movv, [.t 0], none, []⟩,
      ⟨(some 6), .len, [.t 5], none, [0]⟩,
      ⟨(some 7), (.bin .gtr), [.t 6, .c (.int .i64 60)], none, [1]⟩] false)
    (.cond (.t 7)
     (.seq
      (.region [⟨(some 2), .mov, [.c (.int .i64 0)], none, []⟩,
        ⟨(some 3), .mov, [.c (.int .i64 8)], none, [0, 0]⟩] false)
      .ret)
     .skip))
   (.keep [0] [] b67k4)))
def d67 : DFn := ⟨1, 36, [.tmp 2, .tmp 3], b67⟩
theorem body67 : d67.body = b67 := rfl
theorem res67 : d67.res = [.tmp 2, .tmp 3] := rfl
theorem k67 : chkFn Try.prog Try.f67 d67 = true := by kernel_rfl

def b68k0 : DCode :=
 (.seq
  (.region [⟨(some 2), .mov, [.c (.int .i64 0)], none, []⟩] false)
  .ret)
def b68 : DCode :=
 (.seq
  (.region [⟨(some 2), .mov, [.c (.int .i64 0)], none, []⟩] false)
  (.seq
   (.seq
    (.region [⟨(some 3), .mov, [.t 0], none, []⟩,
      ⟨(some 4), .call, [.f 34, .t 3, .c (.int .i64 1), .c (.int .i64 200)], none, [0]⟩,
      ⟨(some 5), (.un .not), [.t 4], none, [1]⟩] false)
    (.cond (.t 5)
     (.seq
      (.region [⟨(some 2), .mov, [.c (.int .i64 2)], none, []⟩] false)
      .ret)
     .skip))
   (.keep [] [] b68k0)))
def d68 : DFn := ⟨1, 6, [.tmp 2], b68⟩
theorem body68 : d68.body = b68 := rfl
theorem res68 : d68.res = [.tmp 2] := rfl
theorem k68 : chkFn Try.prog Try.f68 d68 = true := by kernel_rfl

def b86 : DCode :=
 (.seq
  (.region [⟨(some 0), (.alloc [(.imm (.slc 2 [])), (.imm (.slc 1 []))]), [], none, []⟩] false)
  (.seq
   (.region [⟨(some 1), (.build [(.imm (.int .i64 0)), (.imm (.int .i64 0))] [(0, 1), (1, 1)]), [.c (.int .i64 2), .c (.int .i64 3)], none, []⟩,
     ⟨(some 2), (.bsl 2), [.t 1], none, [0]⟩,
     ⟨(some 3), (.build [(.imm (.slc 2 [])), (.imm (.slc 1 []))] [(0, 1)]), [.t 2], none, [1]⟩,
     ⟨none, (.store 2), [.t 0, .t 3], none, [2, 0, 1, 2]⟩] false)
   .ret))
def d86 : DFn := ⟨0, 4, [.cell 0 true 2], b86⟩
theorem body86 : d86.body = b86 := rfl
theorem res86 : d86.res = [.cell 0 true 2] := rfl
theorem k86 : chkFn Try.prog Try.f86 d86 = true := by kernel_rfl

def b87 : DCode :=
 (.seq
  (.region [⟨(some 0), (.alloc [(.imm (.slc 2 [])), (.imm (.slc 1 []))]), [], none, []⟩] false)
  (.seq
   (.region [⟨(some 1), (.build [(.imm (.int .i64 0)), (.imm (.int .i64 0))] [(0, 1), (1, 1)]), [.c (.int .i64 1), .c (.int .i64 1)], none, []⟩,
     ⟨(some 2), (.build [(.imm (.int .i64 0)), (.imm (.int .i64 0))] [(0, 1), (1, 1)]), [.c (.int .i64 1), .c (.int .i64 3)], none, []⟩,
     ⟨(some 3), (.bsl 2), [.t 1, .t 2], none, [0, 1]⟩,
     ⟨(some 4), (.bsl 1), [.c (.int .i64 2)], none, []⟩,
     ⟨(some 5), (.build [(.imm (.slc 2 [])), (.imm (.slc 1 []))] [(0, 1), (1, 1)]), [.t 3, .t 4], none, [2, 3]⟩,
     ⟨none, (.store 2), [.t 0, .t 5], none, [4, 0, 1, 2, 3, 4]⟩] false)
   .ret))
def d87 : DFn := ⟨0, 6, [.cell 0 true 2], b87⟩
theorem body87 : d87.body = b87 := rfl
theorem res87 : d87.res = [.cell 0 true 2] := rfl
theorem k87 : chkFn Try.prog Try.f87 d87 = true := by kernel_rfl

def b3k0 : DCode :=
 (.seq
  (.region [⟨(some 121), .mov, [.t 8], none, []⟩,
    ⟨(some 122), (.bin .eql), [.t 121, .c (.int .i64 0)], none, [0]⟩,
    ⟨(some 123), .mov, [.t 122], none, [1]⟩,
    ⟨(some 124), (.load true 3), [.t 7], (some (123, true)), [2]⟩,
    ⟨(some 125), (.load true 2), [.t 3], (some (123, true)), [2]⟩,
    ⟨(some 126), (.load true 3), [.t 4], (some (123, true)), [2]⟩,
    ⟨(some 127), .movv, [.t 2], (some (123, true)), [2]⟩,
    ⟨(some 128), .call, [.f 31, .t 125, .t 126, .t 127], (some (123, true)), [4, 5, 6, 2, 2]⟩,
    ⟨(some 129), .call, [.f 27, .t 124, .t 128], (some (123, true)), [3, 7, 7, 2]⟩,
    ⟨(some 130), .pick, [.t 123, .t 129, .c (.bool false)], none, [2, 8]⟩,
    ⟨(some 6), .mov, [.t 130], none, [9, 8, 0, 1, 2, 3, 4, 5, 6, 7, 8, 9]⟩] true)
  .ret)
def b3k1 : DCode :=
 (.seq
  (.seq
   (.region [⟨(some 109), .movv, [.t 2], none, []⟩,
     ⟨(some 110), .call, [.f 30, .t 109], none, [0]⟩,
     ⟨(some 12), .mov, [.t 110], none, [1, 1, 0, 1]⟩] false)
   (.seq
    (.region [⟨(some 111), .mov, [.t 12], none, []⟩,
      ⟨(some 112), (.bin .neq), [.t 111, .c (.int .i64 0)], none, [0]⟩] false)
    (.cond (.t 112)
     (.seq
      (.region [⟨(some 113), .mov, [.t 8], none, []⟩,
        ⟨(some 114), .mov, [.t 12], none, []⟩,
        ⟨(some 115), (.bin .eql), [.t 113, .t 114], none, [0, 1]⟩,
        ⟨(some 116), .mov, [.t 115], none, [2]⟩,
        ⟨(some 117), (.load true 3), [.t 7], (some (116, true)), [3]⟩,
        ⟨(some 118), (.build [(.imm (.slc 1 [])), (.imm (.slc 1 [])), (.imm (.slc 1 []))] []), [], (some (116, true)), [3]⟩,
        ⟨(some 119), .call, [.f 27, .t 117, .t 118], (some (116, true)), [4, 5, 3, 3]⟩,
        ⟨(some 120), .pick, [.t 116, .t 119, .c (.bool false)], none, [3, 6]⟩,
        ⟨(some 6), .mov, [.t 120], none, [7, 6, 0, 1, 2, 3, 4, 5, 6, 7]⟩] false)
      .ret)
     .skip)))
  (.keep [2, 3, 4, 7, 8] [3, 4, 7] b3k0))
def b3k2 : DCode :=
 (.seq
  (.seq
   (.region [⟨(some 77), .mov, [.t 9], none, []⟩,
     ⟨(some 78), .call, [.f 28, .t 77], none, [0]⟩,
     ⟨(some 13), .mov, [.t 78], none, [1, 1, 0, 1]⟩] false)
   (.seq
    (.region [⟨(some 79), .mov, [.t 13], none, []⟩,
      ⟨(some 80), (.bin .neq), [.t 79, .c (.int .i64 0)], none, [0]⟩,
      ⟨(some 81), .mov, [.t 80], none, [1]⟩,
      ⟨(some 82), .mov, [.t 11], (some (81, true)), [2]⟩,
      ⟨(some 83), .mov, [.t 13], (some (81, true)), [2]⟩,
      ⟨(some 84), (.bin .neq), [.t 82, .t 83], (some (81, true)), [3, 4, 2]⟩,
      ⟨(some 85), .mov, [.t 84], (some (81, true)), [5, 2, 2]⟩,
      ⟨(some 86), (.load true 3), [.t 10], (some (85, false)), [6]⟩,
      ⟨(some 87), (.build [(.imm (.slc 1 [])), (.imm (.slc 1 [])), (.imm (.slc 1 []))] []), [], (some (85, false)), [6]⟩,
      ⟨(some 88), .call, [.f 27, .t 86, .t 87], (some (85, false)), [7, 8, 6, 6]⟩,
      ⟨(some 89), (.un .not), [.t 88], (some (85, false)), [9, 6]⟩,
      ⟨(some 90), .pick, [.t 85, .c (.bool true), .t 89], (some (81, true)), [6, 10, 2]⟩,
      ⟨(some 91), .pick, [.t 81, .t 90, .c (.bool false)], none, [2, 11]⟩,
      ⟨(some 92), .mov, [.t 91], none, [12, 9]⟩,
      ⟨(some 93), .mov, [.t 13], (some (92, false)), [13]⟩,
      ⟨(some 94), (.bin .eql), [.t 93, .c (.int .i64 0)], (some (92, false)), [14, 13]⟩,
      ⟨(some 95), .mov, [.t 94], (some (92, false)), [15, 13, 13]⟩,
      ⟨(some 96), .mov, [.t 11], (some (95, true)), [16]⟩,
      ⟨(some 97), (.bin .neq), [.t 96, .c (.int .i64 0)], (some (95, true)), [17, 16]⟩,
      ⟨(some 98), .mov, [.t 97], (some (95, true)), [18, 16, 16]⟩,
      ⟨(some 99), (.load true 3), [.t 10], (some (98, false)), [19]⟩,
      ⟨(some 100), (.load true 2), [.t 3], (some (98, false)), [19]⟩,
      ⟨(some 101), (.load true 3), [.t 4], (some (98, false)), [19]⟩,
      ⟨(some 102), .mov, [.t 9], (some (98, false)), [19]⟩,
      ⟨(some 103), .call, [.f 29, .t 100, .t 101, .t 102], (some (98, false)), [21, 22, 23, 19, 19]⟩,
      ⟨(some 104), .call, [.f 27, .t 99, .t 103], (some (98, false)), [20, 24, 24, 19]⟩,
      ⟨(some 105), (.un .not), [.t 104], (some (98, false)), [25, 19]⟩,
      ⟨(some 106), .pick, [.t 98, .c (.bool true), .t 105], (some (95, true)), [19, 26, 16]⟩,
      ⟨(some 107), .pick, [.t 95, .t 106, .c (.bool false)], (some (92, false)), [16, 27, 13]⟩,
      ⟨(some 108), .pick, [.t 92, .c (.bool true), .t 107], none, [13, 28]⟩] true)
    (.cond (.t 108)
     (.seq
      (.region [⟨(some 6), .mov, [.c (.bool false)], none, []⟩] false)
      .ret)
     .skip)))
  (.keep [2, 3, 4, 7, 8] [3, 4, 7] b3k1))
def b3k3 : DCode :=
 (.seq
  (.region [⟨(some 46), (.load true 2), [.t 3], none, []⟩,
    ⟨(some 47), .call, [.f 22, .t 46], none, [0]⟩,
    ⟨(some 48), (.load true 3), [.t 4], none, []⟩,
    ⟨(some 49), .call, [.f 23, .t 48], none, [2, 1]⟩,
    ⟨(some 50), .mov, [.t 9], none, []⟩,
    ⟨(some 51), .call, [.f 25, .t 47, .t 49, .t 50], none, [1, 3, 4, 3]⟩,
    ⟨(some 45), .mov, [.t 51], none, [5]⟩,
    ⟨(some 52), (.ext 0), [.t 45], none, [6]⟩,
    ⟨(some 53), (.ext 1), [.t 45], none, [6]⟩,
    ⟨(some 10), (.alloc [(.imm (.slc 1 [])), (.imm (.slc 1 [])), (.imm (.slc 1 []))]), [], none, []⟩,
    ⟨none, (.store 3), [.t 10, .t 52], none, [9, 7, 5, 0, 1, 2, 3, 4, 5, 6, 7, 9]⟩,
    ⟨(some 11), .mov, [.t 53], none, [8, 10, 0, 1, 2, 3, 4, 5, 6, 7, 8, 9, 10]⟩] true)
  (.seq
   (.region [⟨(some 54), (.load true 2), [.t 3], none, []⟩,
     ⟨(some 55), (.load true 3), [.t 4], none, []⟩,
     ⟨(some 56), .call, [.f 26, .t 54, .t 55], none, [0, 1]⟩,
     ⟨(some 12), .mov, [.t 56], none, [2, 2, 0, 1, 2]⟩] false)
   (.seq
    (.seq
     (.region [⟨(some 57), .mov, [.t 12], none, []⟩,
       ⟨(some 58), (.bin .neq), [.t 57, .c (.int .i64 0)], none, [0]⟩] false)
     (.cond (.t 58)
      (.seq
       (.region [⟨(some 59), .mov, [.t 8], none, []⟩,
         ⟨(some 60), .mov, [.t 12], none, []⟩,
         ⟨(some 61), (.bin .eql), [.t 59, .t 60], none, [0, 1]⟩,
         ⟨(some 62), .mov, [.t 61], none, [2]⟩,
         ⟨(some 63), .mov, [.t 11], (some (62, true)), [3]⟩,
         ⟨(some 64), .mov, [.t 12], (some (62, true)), [3]⟩,
         ⟨(some 65), (.bin .eql), [.t 63, .t 64], (some (62, true)), [4, 5, 3]⟩,
         ⟨(some 66), .pick, [.t 62, .t 65, .c (.bool false)], none, [3, 6]⟩,
         ⟨(some 67), .mov, [.t 66], none, [7, 3]⟩,
         ⟨(some 68), (.load true 3), [.t 7], (some (67, true)), [8]⟩,
         ⟨(some 69), (.build [(.imm (.slc 1 [])), (.imm (.slc 1 [])), (.imm (.slc 1 []))] []), [], (some (67, true)), [8]⟩,
         ⟨(some 70), .call, [.f 27, .t 68, .t 69], (some (67, true)), [9, 10, 8, 8]⟩,
         ⟨(some 71), .pick, [.t 67, .t 70, .c (.bool false)], none, [8, 11]⟩,
         ⟨(some 72), .mov, [.t 71], none, [12, 11]⟩,
         ⟨(some 73), (.load true 3), [.t 10], (some (72, true)), [13]⟩,
         ⟨(some 74), (.build [(.imm (.slc 1 [])), (.imm (.slc 1 [])), (.imm (.slc 1 []))] []), [], (some (72, true)), [13]⟩,
         ⟨(some 75), .call, [.f 27, .t 73, .t 74], (some (72, true)), [14, 15, 13, 13]⟩,
         ⟨(some 76), .pick, [.t 72, .t 75, .c (.bool false)], none, [13, 16]⟩,
         ⟨(some 6), .mov, [.t 76], none, [17, 16, 0, 1, 2, 3, 4, 5, 6, 7, 8, 9, 10, 11, 12, 13, 14, 15, 16, 17]⟩] false)
       .ret)
      .skip))
    (.keep [2, 3, 4, 7, 8, 9, 10, 11] [3, 4, 7, 10] b3k2))))
def b3k4 : DCode :=
 (.seq
  (.region [⟨(some 30), (.load true 2), [.t 3], none, []⟩,
    ⟨(some 31), .call, [.f 22, .t 30], none, [0]⟩,
    ⟨(some 32), (.load true 3), [.t 4], none, []⟩,
    ⟨(some 33), .call, [.f 23, .t 32], none, [2, 1]⟩,
    ⟨(some 34), .movv, [.t 2], none, []⟩,
    ⟨(some 35), .call, [.f 24, .t 34], none, [4, 3]⟩,
    ⟨(some 36), .call, [.f 21, .t 31, .t 33, .t 35], none, [1, 3, 5, 5]⟩,
    ⟨(some 29), .mov, [.t 36], none, [6]⟩,
    ⟨(some 37), (.ext 0), [.t 29], none, [7]⟩,
    ⟨(some 38), (.ext 1), [.t 29], none, [7]⟩,
    ⟨(some 7), (.alloc [(.imm (.slc 1 [])), (.imm (.slc 1 [])), (.imm (.slc 1 []))]), [], none, []⟩,
    ⟨none, (.store 3), [.t 7, .t 37], none, [10, 8, 6, 0, 1, 2, 3, 4, 5, 6, 7, 8, 10]⟩,
    ⟨(some 8), .mov, [.t 38], none, [9, 11, 0, 1, 2, 3, 4, 5, 6, 7, 8, 9, 10, 11]⟩] true)
  (.seq
   (.region [⟨(some 9), .mov, [.c (.int .i64 0)], none, []⟩] false)
   (.seq
    (.seq
     (.region [⟨(some 39), .movv, [.t 2], none, []⟩,
       ⟨(some 40), .len, [.t 39], none, [0]⟩,
       ⟨(some 41), (.bin .gtr), [.t 40, .c (.int .i64 0)], none, [1]⟩] false)
     (.cond (.t 41)
      (.region [⟨(some 42), .movv, [.t 2], none, []⟩,
        ⟨(some 43), (.iaddr 1), [.t 42, .c (.int .i64 0)], none, [0]⟩,
        ⟨(some 44), (.load false 1), [.t 43], none, [1]⟩,
        ⟨(some 9), .mov, [.t 44], none, [2, 0, 1, 2]⟩] false)
      .skip))
    (.keep [2, 3, 4, 7, 8, 9] [3, 4, 7] b3k3))))
def b3k5 : DCode :=
 (.seq
  (.seq
   (.region [⟨(some 16), (.load true 2), [.t 3], none, []⟩,
     ⟨(some 17), .call, [.f 18, .t 16], none, [0]⟩,
     ⟨(some 18), (.un .not), [.t 17], none, [1]⟩,
     ⟨(some 19), .mov, [.t 18], none, [2, 1]⟩,
     ⟨(some 20), (.load true 3), [.t 4], (some (19, false)), [3]⟩,
     ⟨(some 21), .call, [.f 19, .t 20], (some (19, false)), [4, 3, 3]⟩,
     ⟨(some 22), (.un .not), [.t 21], (some (19, false)), [5, 3]⟩,
     ⟨(some 23), .pick, [.t 19, .c (.bool true), .t 22], none, [3, 6]⟩,
     ⟨(some 24), .mov, [.t 23], none, [7, 5]⟩,
     ⟨(some 25), .movv, [.t 2], (some (24, false)), [8]⟩,
     ⟨(some 26), .call, [.f 20, .t 25], (some (24, false)), [9, 8, 8]⟩,
     ⟨(some 27), (.un .not), [.t 26], (some (24, false)), [10, 8]⟩,
     ⟨(some 28), .pick, [.t 24, .c (.bool true), .t 27], none, [8, 11]⟩] false)
   (.cond (.t 28)
    (.seq
     (.region [⟨(some 6), .mov, [.c (.bool true)], none, []⟩] false)
     .ret)
    .skip))
  (.keep [2, 3, 4] [3, 4] b3k4))
def b3 : DCode :=
 (.seq
  (.region [⟨(some 3), .box, [.t 0], none, []⟩,
    ⟨(some 4), .box, [.t 1], none, []⟩,
    ⟨(some 6), .mov, [.c (.bool false)], none, []⟩] false)
  (.seq
   (.seq
    (.region [⟨(some 14), .call, [.f 17], none, []⟩,
      ⟨(some 15), (.un .not), [.t 14], none, [0]⟩] false)
    (.cond (.t 15)
     (.seq
      (.region [⟨(some 6), .mov, [.c (.bool false)], none, []⟩] false)
      .ret)
     .skip))
   (.keep [2, 3, 4] [3, 4] b3k5)))
def d3 : DFn := ⟨3, 131, [.tmp 6], b3⟩
theorem k3 : chkFn Try.prog Try.f3 d3 = true := by kernel_rfl

end Go.DI

/- Contracts: what the reference and the statements share; the examples. No condition. -/
set_option linter.unusedSimpArgs false
set_option maxRecDepth 100000
namespace Go.DI
open Go.Proofs Go.RowKit

theorem eq_of_getD {α : Type} (d : α) {l m : List α} (h : l.length = m.length) (k : ∀ j, j < l.length → l.getD j d = m.getD j d) : l = m := by
  apply List.ext_getElem h
  intro j h1 h2
  have := k j h1
  simpa [List.getD_eq_getElem?_getD, h1, h2] using this
theorem c_Within {x lo hi : Int} : Contract Try.prog 34 [.int .i64 x, .int .i64 lo, .int .i64 hi] (.bool (decide (lo ≤ x ∧ x ≤ hi))) := by
  refine contract_run Try.func34 k34 rfl ?_
  simp only [body34, b34, res34, ↓reduceIte, reduceCtorEq, Nat.reduceEqDiff, Nat.reduceAdd, Nat.reduceMul, Nat.reduceSub, Nat.reduceLeDiff, Nat.reduceBEq, Int.reduceToNat, Int.reduceLE, Int.reduceLT, Int.reduceEq, Int.reduceNe, di]
  split
  · rename_i h; simp [h]
  · rename_i h; simp [h]
theorem c_Ints {a b : List Int} (ha : a.length ≤ 1000000000000) : Contract Try.prog 45 [nI a, nI b] (.bool (decide (a = b))) := by
  refine contract_run Try.func45 k45 rfl ?_
  simp only [body45, b45, res45, b45k0, b45k1, b45k2, b45k3, vaE, ↓reduceIte, reduceCtorEq, Nat.reduceEqDiff, Nat.reduceAdd, Nat.reduceMul, Nat.reduceSub, Nat.reduceLeDiff, Nat.reduceBEq, Int.reduceToNat, Int.reduceLE, Int.reduceLT, Int.reduceEq, Int.reduceNe, di]
  split
  · rename_i hl
    have hl : a.length = b.length := by omega
    refine loop_keep (α := Nat) rfl (fun i => a.length - i) (fun i => i ≤ a.length ∧ ∀ j, j < i → a.getD j 0 = b.getD j 0)
      (fun i => [(0, .imm (nI a)), (1, .imm (nI b)), (5, .imm (.int .i64 i))]) (fun _ => []) 0 ⟨Nat.zero_le _, fun j hj => by omega⟩ (by simp only [vaE, ↓reduceIte, reduceCtorEq, Nat.reduceEqDiff, Nat.reduceAdd, Nat.reduceMul, Nat.reduceSub, Nat.reduceLeDiff, Nat.reduceBEq, Int.reduceToNat, Int.reduceLE, Int.reduceLT, Int.reduceEq, Int.reduceNe, di] <;> rfl) ?_
    intro i ⟨hi, he⟩ ih
    simp only [res45, b45k0, b45k1, b45k2, b45k3, vaE, ↓reduceIte, reduceCtorEq, Nat.reduceEqDiff, Nat.reduceAdd, Nat.reduceMul, Nat.reduceSub, Nat.reduceLeDiff, Nat.reduceBEq, Int.reduceToNat, Int.reduceLE, Int.reduceLT, Int.reduceEq, Int.reduceNe, di]
    split
    · rename_i h
      repeat (refine And.intro (by omega) ?_)
      split
      · rename_i h2
        rw [wrap64 (by omega) (by omega)]
        refine ih (i + 1) _ _ (by omega) ⟨by omega, fun j hj => ?_⟩ (by simp only [vaE, ↓reduceIte, reduceCtorEq, Nat.reduceEqDiff, Nat.reduceAdd, Nat.reduceMul, Nat.reduceSub, Nat.reduceLeDiff, Nat.reduceBEq, Int.reduceToNat, Int.reduceLE, Int.reduceLT, Int.reduceEq, Int.reduceNe, di] <;> rfl)
        by_cases e : j = i
        · subst e; exact h2
        · exact he j (by omega)
      · rename_i h2
        have : ¬ a = b := fun k => h2 (by rw [k])
        rw [decide_eq_false this]
    · rename_i h
      have : a = b := eq_of_getD 0 hl (fun j hj => he j (by omega))
      rw [decide_eq_true this]
  · rename_i hl
    have : ¬ a = b := fun k => hl (by rw [k])
    rw [decide_eq_false this]
theorem c_CopyInts {a : List Int} (ha : a.length ≤ 1000000000000) : Contract Try.prog 24 [nI a] (nI a) := by
  refine contract_run Try.func24 k24 rfl ?_
  simp only [body24, b24, res24, vaE, ↓reduceIte, reduceCtorEq, Nat.reduceEqDiff, Nat.reduceAdd, Nat.reduceMul, Nat.reduceSub, Nat.reduceLeDiff, Nat.reduceBEq, Int.reduceToNat, Int.reduceLE, Int.reduceLT, Int.reduceEq, Int.reduceNe, di]
  omega
theorem r_CopyLine {x : Ln} (hx : Few x) : Contract Try.prog 22 [lnI x] (lnI x) := by
  refine contract_run Try.func22 k22 rfl ?_
  simp only [body22, b22, res22, vaE, ↓reduceIte, reduceCtorEq, Nat.reduceEqDiff, Nat.reduceAdd, Nat.reduceMul, Nat.reduceSub, Nat.reduceLeDiff, Nat.reduceBEq, Int.reduceToNat, Int.reduceLE, Int.reduceLT, Int.reduceEq, Int.reduceNe, di]
  have h1 := hx.1
  repeat (refine And.intro (by first | omega | exact all_int _ | (simp only [zeros_len, List.length_append, List.length_take, List.length_drop, List.length_set, List.length_cons, List.length_nil, List.length_map]; omega)) ?_)
  refine calls_of (c_CopyInts (a := x.ar) (by have := hx.2; omega)) ?_; simp only [vaE, res22, ↓reduceIte, reduceCtorEq, Nat.reduceEqDiff, Nat.reduceAdd, Nat.reduceMul, Nat.reduceSub, Nat.reduceLeDiff, Nat.reduceBEq, Int.reduceToNat, Int.reduceLE, Int.reduceLT, Int.reduceEq, Int.reduceNe, di]
def pipeX : Ln := ⟨[(2, 3)], []⟩
def lineX : Ln := ⟨[(1, 1), (1, 3)], [2]⟩
theorem l_Pipe : Contract Try.prog 86 [] (lnI pipeX) := by
  refine contract_run Try.func86 k86 rfl ?_
  simp only [body86, b86, res86, pipeX, vaE, ↓reduceIte, reduceCtorEq, Nat.reduceEqDiff, Nat.reduceAdd, Nat.reduceMul, Nat.reduceSub, Nat.reduceLeDiff, Nat.reduceBEq, Int.reduceToNat, Int.reduceLE, Int.reduceLT, Int.reduceEq, Int.reduceNe, di]
theorem l_Line : Contract Try.prog 87 [] (lnI lineX) := by
  refine contract_run Try.func87 k87 rfl ?_
  simp only [body87, b87, res87, lineX, vaE, ↓reduceIte, reduceCtorEq, Nat.reduceEqDiff, Nat.reduceAdd, Nat.reduceMul, Nat.reduceSub, Nat.reduceLeDiff, Nat.reduceBEq, Int.reduceToNat, Int.reduceLE, Int.reduceLT, Int.reduceEq, Int.reduceNe, di]
theorem few_pipe : Few pipeX := ⟨by decide, by decide⟩
theorem few_line : Few lineX := ⟨by decide, by decide⟩
theorem a_4 : Contract Try.prog 43 [lnI lineX, .int .i64 1] (.tup [ratI ((-2, -2), (9, 0)), .int .i64 0]) := by
  have h := w_ImpedanceAt (x := lineX) (h := 1) few_line
  rwa [if_pos (by decide), if_neg (by decide), show impL (lowM (lineMat (opn lineX) 1)) = ((-2, -2), (9, 0)) by decide] at h
end Go.DI

