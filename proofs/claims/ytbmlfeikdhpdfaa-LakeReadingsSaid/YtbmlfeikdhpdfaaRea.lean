/- The functions of the statement LakeReadings, as data. No condition. -/
import Derived.Test.YtbmlfeikdhpdfaaJd
import Derived.Test.YtbmlfeikdhpdfaaProg
import Derived.KernelRfl
namespace Go.DI
open Go.Proofs Go.RowKit
/-- guidevane/guidevanelaw01.LakeReadings -/
def b5k0 : DCode :=
 (.seq
  (.region [⟨(some 101), (.load true 1), [.t 3], none, []⟩,
    ⟨(some 102), .movv, [.t 1], none, []⟩,
    ⟨(some 103), .movv, [.t 2], none, []⟩,
    ⟨(some 104), .call, [.f 34, .t 101, .t 102, .t 103], none, [0, 1, 2]⟩,
    ⟨(some 100), .mov, [.t 104], none, [3]⟩,
    ⟨(some 105), (.ext 0), [.t 100], none, [4]⟩,
    ⟨(some 106), (.ext 1), [.t 100], none, [4]⟩,
    ⟨(some 14), .movv, [.t 105], none, [5, 3, 0, 1, 2, 3, 4, 5]⟩,
    ⟨(some 15), .mov, [.t 106], none, [6, 7, 0, 1, 2, 3, 4, 5, 6, 7]⟩] false)
  (.seq
   (.region [⟨(some 107), .mov, [.t 8], none, []⟩,
     ⟨(some 108), (.bin .eql), [.t 107, .c (.int .i64 13)], none, [0]⟩,
     ⟨(some 109), .mov, [.t 108], none, [1]⟩,
     ⟨(some 110), (.load true 2), [.t 7], (some (109, true)), [2]⟩,
     ⟨(some 111), (.build [(.imm (.int .i64 0)), (.imm (.int .i64 0))] []), [], (some (109, true)), [2]⟩,
     ⟨(some 112), (.eqs [false, false] false), [.t 110, .t 111], (some (109, true)), [3, 4, 2]⟩,
     ⟨(some 113), .pick, [.t 109, .t 112, .c (.bool false)], none, [2, 5]⟩,
     ⟨(some 114), .mov, [.t 113], none, [6, 2]⟩,
     ⟨(some 115), .mov, [.t 10], (some (114, true)), [7]⟩,
     ⟨(some 116), (.bin .eql), [.t 115, .c (.int .i64 0)], (some (114, true)), [8, 7]⟩,
     ⟨(some 117), .pick, [.t 114, .t 116, .c (.bool false)], none, [7, 9]⟩,
     ⟨(some 118), .mov, [.t 117], none, [10, 7]⟩,
     ⟨(some 119), .movv, [.t 9], (some (118, true)), [11]⟩,
     ⟨(some 120), .movv, [.t 14], (some (118, true)), [11]⟩,
     ⟨(some 121), .call, [.f 35, .t 119, .t 120], (some (118, true)), [12, 13, 11, 11]⟩,
     ⟨(some 122), .pick, [.t 118, .t 121, .c (.bool false)], none, [11, 14]⟩,
     ⟨(some 6), .mov, [.t 122], none, [15, 14, 0, 1, 2, 3, 4, 5, 6, 7, 8, 9, 10, 11, 12, 13, 14, 15]⟩] false)
   .ret))
def b5k1 : DCode :=
 (.seq
  (.region [⟨(some 77), (.load true 1), [.t 3], none, []⟩,
    ⟨(some 78), .movv, [.t 1], none, []⟩,
    ⟨(some 79), .movv, [.t 2], none, []⟩,
    ⟨(some 80), .call, [.f 33, .t 77, .t 78, .t 79], none, [0, 1, 2]⟩,
    ⟨(some 76), .mov, [.t 80], none, [3]⟩,
    ⟨(some 81), (.ext 0), [.t 76], none, [4]⟩,
    ⟨(some 82), (.ext 1), [.t 76], none, [4]⟩,
    ⟨(some 12), (.alloc [(.imm (.int .i64 0)), (.imm (.int .i64 0))]), [], none, []⟩,
    ⟨none, (.store 2), [.t 12, .t 81], none, [7, 5, 3, 0, 1, 2, 3, 4, 5, 7]⟩,
    ⟨(some 13), .mov, [.t 82], none, [6, 8, 0, 1, 2, 3, 4, 5, 6, 7, 8]⟩] false)
  (.seq
   (.seq
    (.region [⟨(some 83), .mov, [.t 13], none, []⟩] false)
    (.cond (.t 83)
     (.seq
      (.region [⟨(some 84), .mov, [.t 8], none, []⟩,
        ⟨(some 85), (.bin .eql), [.t 84, .c (.int .i64 0)], none, [0]⟩,
        ⟨(some 86), .mov, [.t 85], none, [1]⟩,
        ⟨(some 87), (.load true 2), [.t 7], (some (86, true)), [2]⟩,
        ⟨(some 88), (.load true 2), [.t 12], (some (86, true)), [2]⟩,
        ⟨(some 89), (.eqs [false, false] false), [.t 87, .t 88], (some (86, true)), [3, 4, 2]⟩,
        ⟨(some 90), .pick, [.t 86, .t 89, .c (.bool false)], none, [2, 5]⟩,
        ⟨(some 91), .mov, [.t 90], none, [6, 2]⟩,
        ⟨(some 92), .mov, [.t 10], (some (91, true)), [7]⟩,
        ⟨(some 93), (.bin .eql), [.t 92, .c (.int .i64 12)], (some (91, true)), [8, 7]⟩,
        ⟨(some 94), .pick, [.t 91, .t 93, .c (.bool false)], none, [7, 9]⟩,
        ⟨(some 95), .mov, [.t 94], none, [10, 7]⟩,
        ⟨(some 96), .movv, [.t 9], (some (95, true)), [11]⟩,
        ⟨(some 97), .len, [.t 96], (some (95, true)), [12, 11]⟩,
        ⟨(some 98), (.bin .eql), [.t 97, .c (.int .i64 0)], (some (95, true)), [13, 11]⟩,
        ⟨(some 99), .pick, [.t 95, .t 98, .c (.bool false)], none, [11, 14]⟩,
        ⟨(some 6), .mov, [.t 99], none, [15, 11, 0, 1, 2, 3, 4, 5, 6, 7, 8, 9, 10, 11, 12, 13, 14, 15]⟩] false)
      .ret)
     .skip))
   (.keep [1, 2, 3, 7, 8, 9, 10] [3, 7] b5k0)))
def b5k2 : DCode :=
 (.seq
  (.region [⟨(some 33), (.load true 1), [.t 3], none, []⟩,
    ⟨(some 34), .call, [.f 28, .t 33], none, [0]⟩,
    ⟨(some 35), .movv, [.t 1], none, []⟩,
    ⟨(some 36), .call, [.f 29, .t 35], none, [2, 1]⟩,
    ⟨(some 37), .movv, [.t 2], none, []⟩,
    ⟨(some 38), .call, [.f 30, .t 37], none, [4, 3]⟩,
    ⟨(some 39), .call, [.f 27, .t 34, .t 36, .t 38], none, [1, 3, 5, 5]⟩,
    ⟨(some 32), .mov, [.t 39], none, [6]⟩,
    ⟨(some 40), (.ext 0), [.t 32], none, [7]⟩,
    ⟨(some 41), (.ext 1), [.t 32], none, [7]⟩,
    ⟨(some 7), (.alloc [(.imm (.int .i64 0)), (.imm (.int .i64 0))]), [], none, []⟩,
    ⟨none, (.store 2), [.t 7, .t 40], none, [10, 8, 6, 0, 1, 2, 3, 4, 5, 6, 7, 8, 10]⟩,
    ⟨(some 8), .mov, [.t 41], none, [9, 11, 0, 1, 2, 3, 4, 5, 6, 7, 8, 9, 10, 11]⟩] false)
  (.seq
   (.region [⟨(some 43), (.load true 1), [.t 3], none, []⟩,
     ⟨(some 44), .call, [.f 28, .t 43], none, [0]⟩,
     ⟨(some 45), .movv, [.t 1], none, []⟩,
     ⟨(some 46), .call, [.f 29, .t 45], none, [2, 1]⟩,
     ⟨(some 47), .movv, [.t 2], none, []⟩,
     ⟨(some 48), .call, [.f 30, .t 47], none, [4, 3]⟩,
     ⟨(some 49), .call, [.f 31, .t 44, .t 46, .t 48], none, [1, 3, 5, 5]⟩,
     ⟨(some 42), .mov, [.t 49], none, [6]⟩,
     ⟨(some 50), (.ext 0), [.t 42], none, [7]⟩,
     ⟨(some 51), (.ext 1), [.t 42], none, [7]⟩,
     ⟨(some 9), .movv, [.t 50], none, [8, 6, 0, 1, 2, 3, 4, 5, 6, 7, 8]⟩,
     ⟨(some 10), .mov, [.t 51], none, [9, 10, 0, 1, 2, 3, 4, 5, 6, 7, 8, 9, 10]⟩] false)
   (.seq
    (.seq
     (.region [⟨(some 52), (.load true 1), [.t 3], none, []⟩,
       ⟨(some 53), .movv, [.t 1], none, []⟩,
       ⟨(some 54), .movv, [.t 2], none, []⟩,
       ⟨(some 55), .call, [.f 32, .t 52, .t 53, .t 54], none, [0, 1, 2]⟩,
       ⟨(some 11), .mov, [.t 55], none, [3, 3, 0, 1, 2, 3]⟩] false)
     (.seq
      (.region [⟨(some 56), .mov, [.t 11], none, []⟩,
        ⟨(some 57), (.bin .neq), [.t 56, .c (.int .i64 0)], none, [0]⟩] false)
      (.cond (.t 57)
       (.seq
        (.region [⟨(some 58), .mov, [.t 8], none, []⟩,
          ⟨(some 59), .mov, [.t 11], none, []⟩,
          ⟨(some 60), (.bin .eql), [.t 58, .t 59], none, [0, 1]⟩,
          ⟨(some 61), .mov, [.t 60], none, [2]⟩,
          ⟨(some 62), .mov, [.t 10], (some (61, true)), [3]⟩,
          ⟨(some 63), .mov, [.t 11], (some (61, true)), [3]⟩,
          ⟨(some 64), (.bin .eql), [.t 62, .t 63], (some (61, true)), [4, 5, 3]⟩,
          ⟨(some 65), .pick, [.t 61, .t 64, .c (.bool false)], none, [3, 6]⟩,
          ⟨(some 66), .mov, [.t 65], none, [7, 3]⟩,
          ⟨(some 67), (.load true 2), [.t 7], (some (66, true)), [8]⟩,
          ⟨(some 68), (.build [(.imm (.int .i64 0)), (.imm (.int .i64 0))] []), [], (some (66, true)), [8]⟩,
          ⟨(some 69), (.eqs [false, false] false), [.t 67, .t 68], (some (66, true)), [9, 10, 8]⟩,
          ⟨(some 70), .pick, [.t 66, .t 69, .c (.bool false)], none, [8, 11]⟩,
          ⟨(some 71), .mov, [.t 70], none, [12, 8]⟩,
          ⟨(some 72), .movv, [.t 9], (some (71, true)), [13]⟩,
          ⟨(some 73), .len, [.t 72], (some (71, true)), [14, 13]⟩,
          ⟨(some 74), (.bin .eql), [.t 73, .c (.int .i64 0)], (some (71, true)), [15, 13]⟩,
          ⟨(some 75), .pick, [.t 71, .t 74, .c (.bool false)], none, [13, 16]⟩,
          ⟨(some 6), .mov, [.t 75], none, [17, 13, 0, 1, 2, 3, 4, 5, 6, 7, 8, 9, 10, 11, 12, 13, 14, 15, 16, 17]⟩] false)
        .ret)
       .skip)))
    (.keep [1, 2, 3, 7, 8, 9, 10] [3, 7] b5k1))))
def b5k3 : DCode :=
 (.seq
  (.seq
   (.region [⟨(some 18), (.load true 1), [.t 3], none, []⟩,
     ⟨(some 19), .call, [.f 25, .t 18], none, [0]⟩,
     ⟨(some 20), (.un .not), [.t 19], none, [1]⟩,
     ⟨(some 21), .mov, [.t 20], none, [2, 1]⟩,
     ⟨(some 22), .movv, [.t 1], (some (21, false)), [3]⟩,
     ⟨(some 23), .len, [.t 22], (some (21, false)), [4, 3]⟩,
     ⟨(some 24), .call, [.f 26, .t 23], (some (21, false)), [5, 3, 3]⟩,
     ⟨(some 25), (.un .not), [.t 24], (some (21, false)), [6, 3]⟩,
     ⟨(some 26), .pick, [.t 21, .c (.bool true), .t 25], none, [3, 7]⟩,
     ⟨(some 27), .mov, [.t 26], none, [8, 6]⟩,
     ⟨(some 28), .movv, [.t 2], (some (27, false)), [9]⟩,
     ⟨(some 29), .len, [.t 28], (some (27, false)), [10, 9]⟩,
     ⟨(some 30), (.bin .gtr), [.t 29, .c (.int .i64 12)], (some (27, false)), [11, 9]⟩,
     ⟨(some 31), .pick, [.t 27, .c (.bool true), .t 30], none, [9, 12]⟩] false)
   (.cond (.t 31)
    (.seq
     (.region [⟨(some 6), .mov, [.c (.bool true)], none, []⟩] false)
     .ret)
    .skip))
  (.keep [1, 2, 3] [3] b5k2))
def b5 : DCode :=
 (.seq
  (.region [⟨(some 3), .box, [.t 0], none, []⟩,
    ⟨(some 6), .mov, [.c (.bool false)], none, []⟩] false)
  (.seq
   (.seq
    (.region [⟨(some 16), .call, [.f 12], none, []⟩,
      ⟨(some 17), (.un .not), [.t 16], none, [0]⟩] false)
    (.cond (.t 17)
     (.seq
      (.region [⟨(some 6), .mov, [.c (.bool false)], none, []⟩] false)
      .ret)
     .skip))
   (.keep [1, 2, 3] [3] b5k3)))
def d5 : DFn := ⟨3, 123, [.tmp 6], b5⟩
theorem body5 : d5.body = b5 := rfl
theorem res5 : d5.res = [.tmp 6] := rfl
theorem k5 : chkFn Try.prog Try.f5 d5 = true := by kernel_rfl

end Go.DI

