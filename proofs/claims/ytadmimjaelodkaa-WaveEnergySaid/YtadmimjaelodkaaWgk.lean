/- The functions of the statement about energies, as data. No condition. -/
import Derived.Test.YtadmimjaelodkaaWeGe
import Derived.Test.YtadmimjaelodkaaProg
import Derived.KernelRfl
namespace Go.DI
open Go.Proofs Go.RowKit
/-- guidevane/guidevanelaw03.small -/
def b33k0 : DCode :=
 (.region [⟨(some 19), .mov, [.t 4], none, []⟩,
   ⟨(some 20), (.bin .add), [.t 19, .c (.int .i64 1)], none, [0]⟩,
   ⟨(some 4), .mov, [.t 20], none, [1, 0, 1]⟩] false)
def b33k1 : DCode :=
 (.seq
  (.block 1
   (.seq
    (.region [⟨(some 21), .movv, [.t 3], none, []⟩,
      ⟨(some 22), .mov, [.t 4], none, []⟩,
      ⟨(some 23), (.iaddr 1), [.t 21, .t 22], none, [0, 1]⟩,
      ⟨(some 24), (.load false 1), [.t 23], none, [2]⟩,
      ⟨(some 25), .call, [.f 34, .t 24, .c (.int .i64 (-10000)), .c (.int .i64 10000)], none, [3]⟩,
      ⟨(some 26), (.un .not), [.t 25], none, [4]⟩] false)
    (.cond (.t 26)
     (.seq
      (.region [⟨(some 2), .mov, [.c (.bool false)], none, []⟩] false)
      .ret)
     .skip)))
  (.keep [3, 4] [8, 11, 14] b33k0))
def b33l0 : DCode := .keep [3, 4] [8, 11, 14]
  (.seq
   (.seq
    (.region [⟨(some 15), .mov, [.t 4], none, []⟩,
      ⟨(some 16), .movv, [.t 3], none, []⟩,
      ⟨(some 17), .len, [.t 16], none, [1]⟩,
      ⟨(some 18), (.bin .lss), [.t 15, .t 17], none, [0, 2]⟩] false)
    (.cond (.t 18)
     .skip
     (.exit 0)))
   (.keep [3, 4] [8, 11, 14] b33k1))
def b33k2 : DCode :=
 (.seq
  (.region [⟨(some 2), .mov, [.c (.bool true)], none, []⟩] false)
  .ret)
def b33 : DCode :=
 (.seq
  (.settle [1]
   (.region [⟨(some 1), .box, [.t 0], none, []⟩,
     ⟨(some 2), .mov, [.c (.bool false)], none, []⟩] false))
  (.seq
   (.region [⟨(some 5), (.bsl 1), [], none, []⟩,
     ⟨(some 6), (.faddrp 0 false 1), [.t 1], none, []⟩,
     ⟨(some 7), (.loadf false 1 []), [.t 6], none, [1]⟩,
     ⟨(some 8), (.append 1 8 false), [.t 5, .t 7], none, [0, 2]⟩,
     ⟨(some 9), (.faddrp 1 false 1), [.t 1], none, []⟩,
     ⟨(some 10), (.loadf false 1 []), [.t 9], none, [4]⟩,
     ⟨(some 11), (.append 1 8 false), [.t 8, .t 10], none, [3, 5, 3]⟩,
     ⟨(some 12), (.faddrp 2 false 1), [.t 1], none, []⟩,
     ⟨(some 13), (.loadf false 1 []), [.t 12], none, [7]⟩,
     ⟨(some 14), (.append 1 8 false), [.t 11, .t 13], none, [6, 8, 6]⟩,
     ⟨(some 3), .movv, [.t 14], none, [9, 9, 0, 1, 2, 3, 4, 5, 6, 7, 8, 9]⟩] true)
   (.seq
    (.seq
     (.region [⟨(some 4), .mov, [.c (.int .i64 0)], none, []⟩] false)
     (.block 0
      (.loop b33l0)))
    (.keep [] [] b33k2))))
def d33 : DFn := ⟨1, 27, [.tmp 2], b33⟩
theorem body33 : d33.body = b33 := rfl
theorem res33 : d33.res = [.tmp 2] := rfl
theorem k33 : chkFn Try.prog Try.f33 d33 = true := by kernel_rfl

/-- guidevane/guidevanelaw03.WaveEnergy -/
def b12k0 : DCode :=
 (.region [⟨(some 99), (.load true 3), [.t 11], none, []⟩,
   ⟨(some 100), .call, [.f 23, .t 99], none, [0]⟩,
   ⟨(some 101), .mov, [.t 13], none, []⟩,
   ⟨none, (.store 3), [.t 4, .t 100], none, [1, 1, 0, 1]⟩,
   ⟨(some 8), .mov, [.t 101], none, [2, 3, 0, 1, 2, 3]⟩] false)
def b12k1 : DCode :=
 (.seq
  (.region [⟨(some 73), (.load true 2), [.t 3], none, []⟩,
    ⟨(some 74), .call, [.f 22, .t 73], none, [0]⟩,
    ⟨(some 75), (.load true 3), [.t 11], none, []⟩,
    ⟨(some 76), .call, [.f 23, .t 75], none, [2, 1]⟩,
    ⟨(some 77), .call, [.f 65, .t 74, .t 76], none, [1, 3, 3]⟩,
    ⟨(some 72), .mov, [.t 77], none, [4]⟩,
    ⟨(some 78), (.ext 0), [.t 72], none, [5]⟩,
    ⟨(some 79), (.ext 1), [.t 72], none, [5]⟩,
    ⟨(some 13), .mov, [.t 78], none, [6, 4, 0, 1, 2, 3, 4, 5, 6]⟩,
    ⟨(some 14), .mov, [.t 79], none, [7, 8, 0, 1, 2, 3, 4, 5, 6, 7, 8]⟩] true)
  (.seq
   (.seq
    (.region [⟨(some 80), .mov, [.t 14], none, []⟩,
      ⟨(some 81), (.bin .neq), [.t 80, .c (.int .i64 0)], none, [0]⟩,
      ⟨(some 82), .mov, [.t 81], none, [1]⟩,
      ⟨(some 83), .mov, [.t 13], (some (82, false)), [2]⟩,
      ⟨(some 84), (.bin .lss), [.t 83, .c (.int .i64 0)], (some (82, false)), [3, 2]⟩,
      ⟨(some 85), .pick, [.t 82, .c (.bool true), .t 84], none, [2, 4]⟩,
      ⟨(some 86), .mov, [.t 85], none, [5, 2]⟩,
      ⟨(some 87), .mov, [.t 13], (some (86, false)), [6]⟩,
      ⟨(some 88), .mov, [.t 8], (some (86, false)), [6]⟩,
      ⟨(some 89), (.bin .gtr), [.t 87, .t 88], (some (86, false)), [7, 8, 6]⟩,
      ⟨(some 90), .pick, [.t 86, .c (.bool true), .t 89], none, [6, 9]⟩,
      ⟨(some 91), .mov, [.t 90], none, [10, 6]⟩,
      ⟨(some 92), .mov, [.t 7], (some (91, false)), [11]⟩,
      ⟨(some 93), .mov, [.t 92], (some (91, false)), [12, 11, 11]⟩,
      ⟨(some 94), .mov, [.t 13], (some (93, true)), [13]⟩,
      ⟨(some 95), .mov, [.t 8], (some (93, true)), [13]⟩,
      ⟨(some 96), (.bin .neq), [.t 94, .t 95], (some (93, true)), [14, 15, 13]⟩,
      ⟨(some 97), .pick, [.t 93, .t 96, .c (.bool false)], (some (91, false)), [13, 16, 11]⟩,
      ⟨(some 98), .pick, [.t 91, .c (.bool true), .t 97], none, [11, 17]⟩] false)
    (.cond (.t 98)
     (.seq
      (.region [⟨(some 6), .mov, [.c (.bool false)], none, []⟩] false)
      .ret)
     .skip))
   (.keep [2, 3, 4, 7, 10, 11, 13] [3, 4, 11] b12k0)))
def b12k2 : DCode :=
 (.region [⟨(some 54), .mov, [.t 10], none, []⟩,
   ⟨(some 55), (.bin .add), [.t 54, .c (.int .i64 1)], none, [0]⟩,
   ⟨(some 10), .mov, [.t 55], none, [1, 0, 1]⟩] false)
def b12k3 : DCode :=
 (.seq
  (.block 1
   (.seq
    (.region [⟨(some 57), (.load true 2), [.t 3], none, []⟩,
      ⟨(some 58), .call, [.f 22, .t 57], none, [0]⟩,
      ⟨(some 59), (.load true 3), [.t 4], none, []⟩,
      ⟨(some 60), .call, [.f 23, .t 59], none, [2, 1]⟩,
      ⟨(some 61), .call, [.f 25, .t 58, .t 60, .c (.int .i64 0)], none, [1, 3, 3]⟩,
      ⟨(some 56), .mov, [.t 61], none, [4]⟩,
      ⟨(some 62), (.ext 0), [.t 56], none, [5]⟩,
      ⟨(some 63), (.ext 1), [.t 56], none, [5]⟩,
      ⟨(some 11), (.alloc [(.imm (.slc 1 [])), (.imm (.slc 1 [])), (.imm (.slc 1 []))]), [], none, []⟩,
      ⟨none, (.store 3), [.t 11, .t 62], none, [8, 6, 4, 0, 1, 2, 3, 4, 5, 6, 8]⟩,
      ⟨(some 12), .mov, [.t 63], none, [7, 9, 0, 1, 2, 3, 4, 5, 6, 7, 8, 9]⟩] true)
    (.seq
     (.seq
      (.region [⟨(some 64), .mov, [.t 12], none, []⟩,
        ⟨(some 65), (.bin .neq), [.t 64, .c (.int .i64 0)], none, [0]⟩,
        ⟨(some 66), .mov, [.t 65], none, [1]⟩,
        ⟨(some 67), (.load true 2), [.t 3], (some (66, false)), [2]⟩,
        ⟨(some 68), (.load true 3), [.t 11], (some (66, false)), [2]⟩,
        ⟨(some 69), .call, [.f 26, .t 67, .t 68], (some (66, false)), [3, 4, 2, 2]⟩,
        ⟨(some 70), (.bin .neq), [.t 69, .c (.int .i64 0)], (some (66, false)), [5, 2]⟩,
        ⟨(some 71), .pick, [.t 66, .c (.bool true), .t 70], none, [2, 6]⟩] false)
      (.cond (.t 71)
       (.seq
        (.region [⟨(some 6), .mov, [.c (.bool false)], none, []⟩] false)
        .ret)
       .skip))
     (.keep [2, 3, 4, 7, 8, 10, 11] [3, 4, 11] b12k1))))
  (.keep [2, 3, 4, 7, 8, 10] [3, 4] b12k2))
def b12l0 : DCode := .keep [2, 3, 4, 7, 8, 10] [3, 4]
  (.seq
   (.seq
    (.region [⟨(some 51), .mov, [.t 10], none, []⟩,
      ⟨(some 52), .mov, [.t 2], none, []⟩,
      ⟨(some 53), (.bin .lss), [.t 51, .t 52], none, [0, 1]⟩] false)
    (.cond (.t 53)
     .skip
     (.exit 0)))
   (.keep [2, 3, 4, 7, 8, 10] [3, 4] b12k3))
def b12k4 : DCode :=
 (.seq
  (.region [⟨(some 6), .mov, [.c (.bool true)], none, []⟩] false)
  .ret)
def b12k5 : DCode :=
 (.seq
  (.seq
   (.region [⟨(some 10), .mov, [.c (.int .i64 0)], none, []⟩] false)
   (.block 0
    (.loop b12l0)))
  (.keep [] [] b12k4))
def b12k6 : DCode :=
 (.seq
  (.region [⟨(some 39), (.load true 2), [.t 3], none, []⟩,
    ⟨(some 40), .call, [.f 32, .t 39], none, [0]⟩,
    ⟨(some 7), .mov, [.t 40], none, [1, 1, 0, 1]⟩] false)
  (.seq
   (.region [⟨(some 42), (.load true 2), [.t 3], none, []⟩,
     ⟨(some 43), .call, [.f 22, .t 42], none, [0]⟩,
     ⟨(some 44), (.load true 3), [.t 4], none, []⟩,
     ⟨(some 45), .call, [.f 23, .t 44], none, [2, 1]⟩,
     ⟨(some 46), .call, [.f 65, .t 43, .t 45], none, [1, 3, 3]⟩,
     ⟨(some 41), .mov, [.t 46], none, [4]⟩,
     ⟨(some 47), (.ext 0), [.t 41], none, [5]⟩,
     ⟨(some 48), (.ext 1), [.t 41], none, [5]⟩,
     ⟨(some 8), .mov, [.t 47], none, [6, 4, 0, 1, 2, 3, 4, 5, 6]⟩,
     ⟨(some 9), .mov, [.t 48], none, [7, 8, 0, 1, 2, 3, 4, 5, 6, 7, 8]⟩] true)
   (.seq
    (.seq
     (.region [⟨(some 49), .mov, [.t 9], none, []⟩,
       ⟨(some 50), (.bin .neq), [.t 49, .c (.int .i64 0)], none, [0]⟩] false)
     (.cond (.t 50)
      (.seq
       (.region [⟨(some 6), .mov, [.c (.bool false)], none, []⟩] false)
       .ret)
      .skip))
    (.keep [2, 3, 4, 7, 8] [3, 4] b12k5))))
def b12k7 : DCode :=
 (.seq
  (.seq
   (.region [⟨(some 36), (.load true 3), [.t 4], none, []⟩,
     ⟨(some 37), .call, [.f 33, .t 36], none, [0]⟩,
     ⟨(some 38), (.un .not), [.t 37], none, [1]⟩] false)
   (.cond (.t 38)
    (.seq
     (.region [⟨(some 6), .mov, [.c (.bool true)], none, []⟩] false)
     .ret)
    .skip))
  (.keep [2, 3, 4] [3, 4] b12k6))
def b12k8 : DCode :=
 (.seq
  (.seq
   (.region [⟨(some 17), (.load true 2), [.t 3], none, []⟩,
     ⟨(some 18), .call, [.f 18, .t 17], none, [0]⟩,
     ⟨(some 19), (.un .not), [.t 18], none, [1]⟩,
     ⟨(some 20), .mov, [.t 19], none, [2, 1]⟩,
     ⟨(some 21), (.load true 3), [.t 4], (some (20, false)), [3]⟩,
     ⟨(some 22), .call, [.f 19, .t 21], (some (20, false)), [4, 3, 3]⟩,
     ⟨(some 23), (.un .not), [.t 22], (some (20, false)), [5, 3]⟩,
     ⟨(some 24), .pick, [.t 20, .c (.bool true), .t 23], none, [3, 6]⟩,
     ⟨(some 25), .mov, [.t 24], none, [7, 5]⟩,
     ⟨(some 26), (.load true 2), [.t 3], (some (25, false)), [8]⟩,
     ⟨(some 27), (.load true 3), [.t 4], (some (25, false)), [8]⟩,
     ⟨(some 28), .call, [.f 26, .t 26, .t 27], (some (25, false)), [9, 10, 8, 8]⟩,
     ⟨(some 29), (.bin .neq), [.t 28, .c (.int .i64 0)], (some (25, false)), [11, 8]⟩,
     ⟨(some 30), .pick, [.t 25, .c (.bool true), .t 29], none, [8, 12]⟩,
     ⟨(some 31), .mov, [.t 30], none, [13, 11]⟩,
     ⟨(some 32), .mov, [.t 2], (some (31, false)), [14]⟩,
     ⟨(some 33), .call, [.f 34, .t 32, .c (.int .i64 1), .c (.int .i64 30)], (some (31, false)), [15, 14, 14]⟩,
     ⟨(some 34), (.un .not), [.t 33], (some (31, false)), [16, 14]⟩,
     ⟨(some 35), .pick, [.t 31, .c (.bool true), .t 34], none, [14, 17]⟩] false)
   (.cond (.t 35)
    (.seq
     (.region [⟨(some 6), .mov, [.c (.bool true)], none, []⟩] false)
     .ret)
    .skip))
  (.keep [2, 3, 4] [3, 4] b12k7))
def b12 : DCode :=
 (.seq
  (.region [⟨(some 3), .box, [.t 0], none, []⟩,
    ⟨(some 4), .box, [.t 1], none, []⟩,
    ⟨(some 6), .mov, [.c (.bool false)], none, []⟩] false)
  (.seq
   (.seq
    (.region [⟨(some 15), .call, [.f 17], none, []⟩,
      ⟨(some 16), (.un .not), [.t 15], none, [0]⟩] false)
    (.cond (.t 16)
     (.seq
      (.region [⟨(some 6), .mov, [.c (.bool false)], none, []⟩] false)
      .ret)
     .skip))
   (.keep [2, 3, 4] [3, 4] b12k8)))
def d12 : DFn := ⟨3, 102, [.tmp 6], b12⟩
theorem body12 : d12.body = b12 := rfl
theorem res12 : d12.res = [.tmp 6] := rfl
theorem k12 : chkFn Try.prog Try.f12 d12 = true := by kernel_rfl

end Go.DI

