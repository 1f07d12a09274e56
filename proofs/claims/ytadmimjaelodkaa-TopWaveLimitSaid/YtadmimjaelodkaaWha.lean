/- The functions of laws in the reference and in the statements, as data. No condition. -/
import Derived.Test.YtadmimjaelodkaaWeGe
import Derived.Test.YtadmimjaelodkaaProg
import Derived.KernelRfl
namespace Go.DI
open Go.Proofs Go.RowKit
/-- guidevane/guidevanelaw03.WaveEveryLaw -/
def b5k0 : DCode :=
 (.seq
  (.region [⟨(some 87), .mov, [.t 10], none, []⟩,
    ⟨(some 88), .mov, [.t 9], none, []⟩,
    ⟨(some 89), (.bin .geq), [.t 87, .t 88], none, [0, 1]⟩,
    ⟨(some 90), .mov, [.t 89], none, [2]⟩,
    ⟨(some 91), .movv, [.t 7], (some (90, true)), [3]⟩,
    ⟨(some 92), .mov, [.t 10], (some (90, true)), [3]⟩,
    ⟨(some 93), (.iaddr 1), [.t 91, .t 92], (some (90, true)), [4, 5, 3]⟩,
    ⟨(some 94), (.load false 1), [.t 93], (some (90, true)), [6, 3]⟩,
    ⟨(some 95), .movv, [.t 7], (some (90, true)), [3]⟩,
    ⟨(some 96), .mov, [.t 10], (some (90, true)), [3]⟩,
    ⟨(some 97), .mov, [.t 9], (some (90, true)), [3]⟩,
    ⟨(some 98), (.bin .sub), [.t 96, .t 97], (some (90, true)), [9, 10, 3]⟩,
    ⟨(some 99), (.iaddr 1), [.t 95, .t 98], (some (90, true)), [8, 11, 3]⟩,
    ⟨(some 100), (.load false 1), [.t 99], (some (90, true)), [12, 3]⟩,
    ⟨(some 101), (.bin .add), [.t 94, .t 100], (some (90, true)), [7, 13, 3]⟩,
    ⟨(some 102), .mov, [.t 11], (some (90, true)), [3]⟩,
    ⟨(some 103), .movv, [.t 1], (some (90, true)), [3]⟩,
    ⟨(some 104), .mov, [.t 10], (some (90, true)), [3]⟩,
    ⟨(some 105), .mov, [.t 9], (some (90, true)), [3]⟩,
    ⟨(some 106), (.bin .sub), [.t 104, .t 105], (some (90, true)), [17, 18, 3]⟩,
    ⟨(some 107), .call, [.f 41, .t 103, .t 106], (some (90, true)), [16, 19, 3, 3]⟩,
    ⟨(some 108), (.bin .sub), [.t 102, .t 107], (some (90, true)), [15, 20, 3]⟩,
    ⟨(some 109), (.bin .neq), [.t 101, .t 108], (some (90, true)), [14, 21, 3]⟩,
    ⟨(some 110), .pick, [.t 90, .t 109, .c (.bool false)], none, [3, 22]⟩] true)
  (.cond (.t 110)
   (.seq
    (.region [⟨(some 6), .mov, [.c (.bool false)], none, []⟩] false)
    .ret)
   .skip))
def b5k1 : DCode :=
 (.region [⟨(some 60), .mov, [.t 10], none, []⟩,
   ⟨(some 61), (.bin .add), [.t 60, .c (.int .i64 1)], none, [0]⟩,
   ⟨(some 10), .mov, [.t 61], none, [1, 0, 1]⟩] false)
def b5k2 : DCode :=
 (.seq
  (.block 1
   (.seq
    (.region [⟨(some 62), .movv, [.t 1], none, []⟩,
      ⟨(some 63), .mov, [.t 10], none, []⟩,
      ⟨(some 64), .call, [.f 41, .t 62, .t 63], none, [0, 1]⟩,
      ⟨(some 11), .mov, [.t 64], none, [2, 2, 0, 1, 2]⟩] false)
    (.seq
     (.seq
      (.region [⟨(some 65), .movv, [.t 7], none, []⟩,
        ⟨(some 66), .mov, [.t 10], none, []⟩,
        ⟨(some 67), (.iaddr 1), [.t 65, .t 66], none, [0, 1]⟩,
        ⟨(some 68), (.load false 1), [.t 67], none, [2]⟩,
        ⟨(some 69), .mov, [.t 11], none, []⟩,
        ⟨(some 70), (.un .neg), [.t 69], none, [4]⟩,
        ⟨(some 71), .mov, [.t 11], none, []⟩,
        ⟨(some 72), .call, [.f 34, .t 68, .t 70, .t 71], none, [3, 5, 6]⟩,
        ⟨(some 73), (.un .not), [.t 72], none, [7]⟩,
        ⟨(some 74), .mov, [.t 73], none, [8, 7]⟩,
        ⟨(some 75), .mov, [.t 10], (some (74, false)), [9]⟩,
        ⟨(some 76), .mov, [.t 9], (some (74, false)), [9]⟩,
        ⟨(some 77), (.bin .lss), [.t 75, .t 76], (some (74, false)), [10, 11, 9]⟩,
        ⟨(some 78), .mov, [.t 77], (some (74, false)), [12, 9, 9]⟩,
        ⟨(some 79), .movv, [.t 7], (some (78, true)), [13]⟩,
        ⟨(some 80), .mov, [.t 10], (some (78, true)), [13]⟩,
        ⟨(some 81), (.iaddr 1), [.t 79, .t 80], (some (78, true)), [14, 15, 13]⟩,
        ⟨(some 82), (.load false 1), [.t 81], (some (78, true)), [16, 13]⟩,
        ⟨(some 83), .mov, [.t 11], (some (78, true)), [13]⟩,
        ⟨(some 84), (.bin .neq), [.t 82, .t 83], (some (78, true)), [17, 18, 13]⟩,
        ⟨(some 85), .pick, [.t 78, .t 84, .c (.bool false)], (some (74, false)), [13, 19, 9]⟩,
        ⟨(some 86), .pick, [.t 74, .c (.bool true), .t 85], none, [9, 20]⟩] false)
      (.cond (.t 86)
       (.seq
        (.region [⟨(some 6), .mov, [.c (.bool false)], none, []⟩] false)
        .ret)
       .skip))
     (.keep [1, 2, 7, 9, 10, 11] [] b5k0))))
  (.keep [1, 2, 7, 9, 10] [] b5k1))
def b5l0 : DCode := .keep [1, 2, 7, 9, 10] []
  (.seq
   (.seq
    (.region [⟨(some 57), .mov, [.t 10], none, []⟩,
      ⟨(some 58), .mov, [.t 2], none, []⟩,
      ⟨(some 59), (.bin .lss), [.t 57, .t 58], none, [0, 1]⟩] false)
    (.cond (.t 59)
     .skip
     (.exit 0)))
   (.keep [1, 2, 7, 9, 10] [] b5k2))
def b5k3 : DCode :=
 (.seq
  (.region [⟨(some 6), .mov, [.c (.bool true)], none, []⟩] false)
  .ret)
def b5k4 : DCode :=
 (.seq
  (.region [⟨(some 54), (.load true 2), [.t 3], none, []⟩,
    ⟨(some 55), .call, [.f 40, .t 54], none, [0]⟩,
    ⟨(some 56), (.bin .mul), [.c (.int .i64 2), .t 55], none, [1]⟩,
    ⟨(some 9), .mov, [.t 56], none, [2, 1, 0, 1, 2]⟩] false)
  (.seq
   (.seq
    (.region [⟨(some 10), .mov, [.c (.int .i64 0)], none, []⟩] false)
    (.block 0
     (.loop b5l0)))
   (.keep [] [] b5k3)))
def b5k5 : DCode :=
 (.seq
  (.region [⟨(some 38), (.load true 2), [.t 3], none, []⟩,
    ⟨(some 39), .call, [.f 22, .t 38], none, [0]⟩,
    ⟨(some 40), .movv, [.t 1], none, []⟩,
    ⟨(some 41), .call, [.f 24, .t 40], none, [2, 1]⟩,
    ⟨(some 42), .mov, [.t 2], none, []⟩,
    ⟨(some 43), .call, [.f 39, .t 39, .t 41, .t 42], none, [1, 3, 4, 3]⟩,
    ⟨(some 37), .mov, [.t 43], none, [5]⟩,
    ⟨(some 44), (.ext 0), [.t 37], none, [6]⟩,
    ⟨(some 45), (.ext 1), [.t 37], none, [6]⟩,
    ⟨(some 7), .movv, [.t 44], none, [7, 5, 0, 1, 2, 3, 4, 5, 6, 7]⟩,
    ⟨(some 8), .mov, [.t 45], none, [8, 9, 0, 1, 2, 3, 4, 5, 6, 7, 8, 9]⟩] false)
  (.seq
   (.seq
    (.region [⟨(some 46), .mov, [.t 8], none, []⟩,
      ⟨(some 47), (.bin .neq), [.t 46, .c (.int .i64 0)], none, [0]⟩,
      ⟨(some 48), .mov, [.t 47], none, [1]⟩,
      ⟨(some 49), .movv, [.t 7], (some (48, false)), [2]⟩,
      ⟨(some 50), .len, [.t 49], (some (48, false)), [3, 2]⟩,
      ⟨(some 51), .mov, [.t 2], (some (48, false)), [2]⟩,
      ⟨(some 52), (.bin .neq), [.t 50, .t 51], (some (48, false)), [4, 5, 2]⟩,
      ⟨(some 53), .pick, [.t 48, .c (.bool true), .t 52], none, [2, 6]⟩] false)
    (.cond (.t 53)
     (.seq
      (.region [⟨(some 6), .mov, [.c (.bool false)], none, []⟩] false)
      .ret)
     .skip))
   (.keep [1, 2, 3, 7] [3] b5k4)))
def b5k6 : DCode :=
 (.seq
  (.seq
   (.region [⟨(some 14), (.load true 2), [.t 3], none, []⟩,
     ⟨(some 15), .call, [.f 18, .t 14], none, [0]⟩,
     ⟨(some 16), (.un .not), [.t 15], none, [1]⟩,
     ⟨(some 17), .mov, [.t 16], none, [2, 1]⟩,
     ⟨(some 18), (.load true 2), [.t 3], (some (17, false)), [3]⟩,
     ⟨(some 19), .call, [.f 37, .t 18], (some (17, false)), [4, 3, 3]⟩,
     ⟨(some 20), (.bin .neq), [.t 19, .c (.int .i64 0)], (some (17, false)), [5, 3]⟩,
     ⟨(some 21), .pick, [.t 17, .c (.bool true), .t 20], none, [3, 6]⟩,
     ⟨(some 22), .mov, [.t 21], none, [7, 5]⟩,
     ⟨(some 23), (.load true 2), [.t 3], (some (22, false)), [8]⟩,
     ⟨(some 24), .call, [.f 32, .t 23], (some (22, false)), [9, 8, 8]⟩,
     ⟨(some 25), (.un .not), [.t 24], (some (22, false)), [10, 8]⟩,
     ⟨(some 26), .pick, [.t 22, .c (.bool true), .t 25], none, [8, 11]⟩,
     ⟨(some 27), .mov, [.t 26], none, [12, 10]⟩,
     ⟨(some 28), .movv, [.t 1], (some (27, false)), [13]⟩,
     ⟨(some 29), .call, [.f 38, .t 28], (some (27, false)), [14, 13, 13]⟩,
     ⟨(some 30), (.bin .neq), [.t 29, .c (.int .i64 0)], (some (27, false)), [15, 13]⟩,
     ⟨(some 31), .pick, [.t 27, .c (.bool true), .t 30], none, [13, 16]⟩,
     ⟨(some 32), .mov, [.t 31], none, [17, 15]⟩,
     ⟨(some 33), .mov, [.t 2], (some (32, false)), [18]⟩,
     ⟨(some 34), .call, [.f 34, .t 33, .c (.int .i64 1), .c (.int .i64 60)], (some (32, false)), [19, 18, 18]⟩,
     ⟨(some 35), (.un .not), [.t 34], (some (32, false)), [20, 18]⟩,
     ⟨(some 36), .pick, [.t 32, .c (.bool true), .t 35], none, [18, 21]⟩] false)
   (.cond (.t 36)
    (.seq
     (.region [⟨(some 6), .mov, [.c (.bool true)], none, []⟩] false)
     .ret)
    .skip))
  (.keep [1, 2, 3] [3] b5k5))
def b5 : DCode :=
 (.seq
  (.region [⟨(some 3), .box, [.t 0], none, []⟩,
    ⟨(some 6), .mov, [.c (.bool false)], none, []⟩] false)
  (.seq
   (.seq
    (.region [⟨(some 12), .call, [.f 17], none, []⟩,
      ⟨(some 13), (.un .not), [.t 12], none, [0]⟩] false)
    (.cond (.t 13)
     (.seq
      (.region [⟨(some 6), .mov, [.c (.bool false)], none, []⟩] false)
      .ret)
     .skip))
   (.keep [1, 2, 3] [3] b5k6)))
def d5 : DFn := ⟨3, 111, [.tmp 6], b5⟩
theorem k5 : chkFn Try.prog Try.f5 d5 = true := by kernel_rfl

end Go.DI

