/- The functions of the statement LakeSteps, as data. No condition. -/
import Derived.Test.YtbmlfeikdhpdfaaJd
import Derived.Test.YtbmlfeikdhpdfaaProg
import Derived.KernelRfl
namespace Go.DI
open Go.Proofs Go.RowKit
/-- guidevane/guidevanelaw01.LakeSteps -/
def b4k0 : DCode :=
 (.seq
  (.region [⟨(some 129), .mov, [.t 9], none, []⟩,
    ⟨(some 130), (.bin .eql), [.t 129, .c (.int .i64 0)], none, [0]⟩,
    ⟨(some 131), .mov, [.t 130], none, [1]⟩,
    ⟨(some 132), (.load true 2), [.t 7], (some (131, true)), [2]⟩,
    ⟨(some 133), (.load true 2), [.t 14], (some (131, true)), [2]⟩,
    ⟨(some 134), (.eqs [false, false] false), [.t 132, .t 133], (some (131, true)), [3, 4, 2]⟩,
    ⟨(some 135), .pick, [.t 131, .t 134, .c (.bool false)], none, [2, 5]⟩,
    ⟨(some 136), .mov, [.t 135], none, [6, 2]⟩,
    ⟨(some 137), (.load true 2), [.t 8], (some (136, true)), [7]⟩,
    ⟨(some 138), (.load true 2), [.t 15], (some (136, true)), [7]⟩,
    ⟨(some 139), (.eqs [false, false] false), [.t 137, .t 138], (some (136, true)), [8, 9, 7]⟩,
    ⟨(some 140), .pick, [.t 136, .t 139, .c (.bool false)], none, [7, 10]⟩,
    ⟨(some 6), .mov, [.t 140], none, [11, 7, 0, 1, 2, 3, 4, 5, 6, 7, 8, 9, 10, 11]⟩] false)
  .ret)
def b4k1 : DCode :=
 (.seq
  (.region [⟨(some 108), (.load true 3), [.t 3], none, []⟩,
    ⟨(some 109), (.load true 2), [.t 4], none, []⟩,
    ⟨(some 110), (.load true 3), [.t 5], none, []⟩,
    ⟨(some 111), .call, [.f 24, .t 108, .t 109, .t 110], none, [0, 1, 2]⟩,
    ⟨(some 107), .mov, [.t 111], none, [3]⟩,
    ⟨(some 112), (.ext 0), [.t 107], none, [4]⟩,
    ⟨(some 113), (.ext 1), [.t 107], none, [4]⟩,
    ⟨(some 114), (.ext 2), [.t 107], none, [4]⟩,
    ⟨(some 14), (.alloc [(.imm (.int .i64 0)), (.imm (.int .i64 0))]), [], none, []⟩,
    ⟨(some 15), (.alloc [(.imm (.int .i64 0)), (.imm (.int .i64 0))]), [], none, []⟩,
    ⟨none, (.store 2), [.t 14, .t 112], none, [8, 5, 3, 0, 1, 2, 3, 4, 5, 8, 9]⟩,
    ⟨none, (.store 2), [.t 15, .t 113], none, [9, 6, 10, 0, 1, 2, 3, 4, 5, 6, 8, 9, 10]⟩,
    ⟨(some 16), .mov, [.t 114], none, [7, 11, 0, 1, 2, 3, 4, 5, 6, 7, 8, 9, 10, 11]⟩] false)
  (.seq
   (.seq
    (.region [⟨(some 115), .mov, [.t 16], none, []⟩,
      ⟨(some 116), (.un .not), [.t 115], none, [0]⟩] false)
    (.cond (.t 116)
     (.seq
      (.region [⟨(some 117), .mov, [.t 9], none, []⟩,
        ⟨(some 118), (.bin .eql), [.t 117, .c (.int .i64 22)], none, [0]⟩,
        ⟨(some 119), .mov, [.t 118], none, [1]⟩,
        ⟨(some 120), (.load true 2), [.t 7], (some (119, true)), [2]⟩,
        ⟨(some 121), (.load true 2), [.t 13], (some (119, true)), [2]⟩,
        ⟨(some 122), (.eqs [false, false] false), [.t 120, .t 121], (some (119, true)), [3, 4, 2]⟩,
        ⟨(some 123), .pick, [.t 119, .t 122, .c (.bool false)], none, [2, 5]⟩,
        ⟨(some 124), .mov, [.t 123], none, [6, 2]⟩,
        ⟨(some 125), (.load true 2), [.t 8], (some (124, true)), [7]⟩,
        ⟨(some 126), (.build [(.imm (.int .i64 0)), (.imm (.int .i64 0))] []), [], (some (124, true)), [7]⟩,
        ⟨(some 127), (.eqs [false, false] false), [.t 125, .t 126], (some (124, true)), [8, 9, 7]⟩,
        ⟨(some 128), .pick, [.t 124, .t 127, .c (.bool false)], none, [7, 10]⟩,
        ⟨(some 6), .mov, [.t 128], none, [11, 7, 0, 1, 2, 3, 4, 5, 6, 7, 8, 9, 10, 11]⟩] false)
      .ret)
     .skip))
   (.keep [7, 8, 9, 14, 15] [7, 8, 14, 15] b4k0)))
def b4k2 : DCode :=
 (.seq
  (.seq
   (.region [⟨(some 90), (.load true 3), [.t 5], none, []⟩,
     ⟨(some 91), .call, [.f 23, .t 90], none, [0]⟩,
     ⟨(some 12), .mov, [.t 91], none, [1, 1, 0, 1]⟩] false)
   (.seq
    (.region [⟨(some 92), .mov, [.t 12], none, []⟩,
      ⟨(some 93), (.bin .neq), [.t 92, .c (.int .i64 0)], none, [0]⟩] false)
    (.cond (.t 93)
     (.seq
      (.region [⟨(some 94), .mov, [.t 9], none, []⟩,
        ⟨(some 95), .mov, [.t 12], none, []⟩,
        ⟨(some 96), (.bin .eql), [.t 94, .t 95], none, [0, 1]⟩,
        ⟨(some 97), .mov, [.t 96], none, [2]⟩,
        ⟨(some 98), (.load true 2), [.t 7], (some (97, true)), [3]⟩,
        ⟨(some 99), (.load true 2), [.t 13], (some (97, true)), [3]⟩,
        ⟨(some 100), (.eqs [false, false] false), [.t 98, .t 99], (some (97, true)), [4, 5, 3]⟩,
        ⟨(some 101), .pick, [.t 97, .t 100, .c (.bool false)], none, [3, 6]⟩,
        ⟨(some 102), .mov, [.t 101], none, [7, 3]⟩,
        ⟨(some 103), (.load true 2), [.t 8], (some (102, true)), [8]⟩,
        ⟨(some 104), (.build [(.imm (.int .i64 0)), (.imm (.int .i64 0))] []), [], (some (102, true)), [8]⟩,
        ⟨(some 105), (.eqs [false, false] false), [.t 103, .t 104], (some (102, true)), [9, 10, 8]⟩,
        ⟨(some 106), .pick, [.t 102, .t 105, .c (.bool false)], none, [8, 11]⟩,
        ⟨(some 6), .mov, [.t 106], none, [12, 8, 0, 1, 2, 3, 4, 5, 6, 7, 8, 9, 10, 11, 12]⟩] false)
      .ret)
     .skip)))
  (.keep [3, 4, 5, 7, 8, 9, 13] [3, 4, 5, 7, 8, 13] b4k1))
def b4k3 : DCode :=
 (.seq
  (.seq
   (.region [⟨(some 81), .mov, [.t 11], none, []⟩,
     ⟨(some 82), (.bin .neq), [.t 81, .c (.int .i64 0)], none, [0]⟩,
     ⟨(some 83), .mov, [.t 82], none, [1]⟩,
     ⟨(some 84), (.load true 2), [.t 10], (some (83, false)), [2]⟩,
     ⟨(some 85), (.load true 3), [.t 3], (some (83, false)), [2]⟩,
     ⟨(some 86), (.load true 2), [.t 4], (some (83, false)), [2]⟩,
     ⟨(some 87), .call, [.f 22, .t 85, .t 86], (some (83, false)), [4, 5, 2, 2]⟩,
     ⟨(some 88), (.eqs [false, false] true), [.t 84, .t 87], (some (83, false)), [3, 6, 2]⟩,
     ⟨(some 89), .pick, [.t 83, .c (.bool true), .t 88], none, [2, 7]⟩] true)
   (.cond (.t 89)
    (.seq
     (.region [⟨(some 6), .mov, [.c (.bool false)], none, []⟩] false)
     .ret)
    .skip))
  (.keep [3, 4, 5, 7, 8, 9, 13] [3, 4, 5, 7, 8, 13] b4k2))
def b4k4 : DCode :=
 (.seq
  (.region [⟨(some 55), (.build [(.imm (.int .i64 0)), (.imm (.int .i64 0))] []), [], none, []⟩,
    ⟨(some 13), (.alloc [(.imm (.int .i64 0)), (.imm (.int .i64 0))]), [], none, []⟩,
    ⟨none, (.store 2), [.t 13, .t 55], none, [1, 0, 0, 1]⟩] false)
  (.seq
   (.seq
    (.region [⟨(some 56), .mov, [.t 12], none, []⟩,
      ⟨(some 57), (.bin .neq), [.t 56, .c (.int .i64 0)], none, [0]⟩] false)
    (.cond (.t 57)
     (.seq
      (.region [⟨(some 58), .mov, [.t 9], none, []⟩,
        ⟨(some 59), .mov, [.t 12], none, []⟩,
        ⟨(some 60), (.bin .eql), [.t 58, .t 59], none, [0, 1]⟩,
        ⟨(some 61), .mov, [.t 60], none, [2]⟩,
        ⟨(some 62), .mov, [.t 11], (some (61, true)), [3]⟩,
        ⟨(some 63), .mov, [.t 12], (some (61, true)), [3]⟩,
        ⟨(some 64), (.bin .eql), [.t 62, .t 63], (some (61, true)), [4, 5, 3]⟩,
        ⟨(some 65), .pick, [.t 61, .t 64, .c (.bool false)], none, [3, 6]⟩,
        ⟨(some 66), .mov, [.t 65], none, [7, 3]⟩,
        ⟨(some 67), (.load true 2), [.t 7], (some (66, true)), [8]⟩,
        ⟨(some 68), (.load true 2), [.t 13], (some (66, true)), [8]⟩,
        ⟨(some 69), (.eqs [false, false] false), [.t 67, .t 68], (some (66, true)), [9, 10, 8]⟩,
        ⟨(some 70), .pick, [.t 66, .t 69, .c (.bool false)], none, [8, 11]⟩,
        ⟨(some 71), .mov, [.t 70], none, [12, 8]⟩,
        ⟨(some 72), (.load true 2), [.t 8], (some (71, true)), [13]⟩,
        ⟨(some 73), (.build [(.imm (.int .i64 0)), (.imm (.int .i64 0))] []), [], (some (71, true)), [13]⟩,
        ⟨(some 74), (.eqs [false, false] false), [.t 72, .t 73], (some (71, true)), [14, 15, 13]⟩,
        ⟨(some 75), .pick, [.t 71, .t 74, .c (.bool false)], none, [13, 16]⟩,
        ⟨(some 76), .mov, [.t 75], none, [17, 13]⟩,
        ⟨(some 77), (.load true 2), [.t 10], (some (76, true)), [18]⟩,
        ⟨(some 78), (.load true 2), [.t 13], (some (76, true)), [18]⟩,
        ⟨(some 79), (.eqs [false, false] false), [.t 77, .t 78], (some (76, true)), [19, 20, 18]⟩,
        ⟨(some 80), .pick, [.t 76, .t 79, .c (.bool false)], none, [18, 21]⟩,
        ⟨(some 6), .mov, [.t 80], none, [22, 18, 0, 1, 2, 3, 4, 5, 6, 7, 8, 9, 10, 11, 12, 13, 14, 15, 16, 17, 18, 19, 20, 21, 22]⟩] false)
      .ret)
     .skip))
   (.keep [3, 4, 5, 7, 8, 9, 10, 11, 13] [3, 4, 5, 7, 8, 10, 13] b4k3)))
def b4k5 : DCode :=
 (.seq
  (.region [⟨(some 23), (.load true 3), [.t 3], none, []⟩,
    ⟨(some 24), .call, [.f 16, .t 23], none, [0]⟩,
    ⟨(some 25), (.load true 2), [.t 4], none, []⟩,
    ⟨(some 26), (.load true 3), [.t 5], none, []⟩,
    ⟨(some 27), .call, [.f 18, .t 24, .t 25, .t 26], none, [1, 2, 3, 1]⟩,
    ⟨(some 22), .mov, [.t 27], none, [4]⟩,
    ⟨(some 28), (.ext 0), [.t 22], none, [5]⟩,
    ⟨(some 29), (.ext 1), [.t 22], none, [5]⟩,
    ⟨(some 30), (.ext 2), [.t 22], none, [5]⟩,
    ⟨(some 7), (.alloc [(.imm (.int .i64 0)), (.imm (.int .i64 0))]), [], none, []⟩,
    ⟨(some 8), (.alloc [(.imm (.int .i64 0)), (.imm (.int .i64 0))]), [], none, []⟩,
    ⟨none, (.store 2), [.t 7, .t 28], none, [9, 6, 4, 0, 1, 2, 3, 4, 5, 6, 9, 10]⟩,
    ⟨none, (.store 2), [.t 8, .t 29], none, [10, 7, 11, 0, 1, 2, 3, 4, 5, 6, 7, 9, 10, 11]⟩,
    ⟨(some 9), .mov, [.t 30], none, [8, 12, 0, 1, 2, 3, 4, 5, 6, 7, 8, 9, 10, 11, 12]⟩] true)
  (.seq
   (.region [⟨(some 32), (.load true 3), [.t 3], none, []⟩,
     ⟨(some 33), .call, [.f 16, .t 32], none, [0]⟩,
     ⟨(some 34), (.load true 2), [.t 4], none, []⟩,
     ⟨(some 35), .call, [.f 17, .t 33, .t 34], none, [1, 2, 1]⟩,
     ⟨(some 31), .mov, [.t 35], none, [3]⟩,
     ⟨(some 36), (.ext 0), [.t 31], none, [4]⟩,
     ⟨(some 37), (.ext 1), [.t 31], none, [4]⟩,
     ⟨(some 10), (.alloc [(.imm (.int .i64 0)), (.imm (.int .i64 0))]), [], none, []⟩,
     ⟨none, (.store 2), [.t 10, .t 36], none, [7, 5, 3, 0, 1, 2, 3, 4, 5, 7]⟩,
     ⟨(some 11), .mov, [.t 37], none, [6, 8, 0, 1, 2, 3, 4, 5, 6, 7, 8]⟩] true)
   (.seq
    (.region [⟨(some 38), (.load true 3), [.t 3], none, []⟩,
      ⟨(some 39), (.load true 2), [.t 4], none, []⟩,
      ⟨(some 40), .call, [.f 14, .t 38, .t 39], none, [0, 1]⟩,
      ⟨(some 12), .mov, [.t 40], none, [2, 2, 0, 1, 2]⟩] false)
    (.seq
     (.seq
      (.region [⟨(some 41), (.load true 3), [.t 3], none, []⟩,
        ⟨(some 42), .call, [.f 16, .t 41], none, [0]⟩,
        ⟨(some 43), .call, [.f 19, .t 42], none, [1, 1]⟩,
        ⟨(some 44), (.load true 3), [.t 3], none, []⟩,
        ⟨(some 45), .call, [.f 20, .t 44], none, [3, 2]⟩,
        ⟨(some 46), (.bin .neq), [.t 43, .t 45], none, [2, 4]⟩,
        ⟨(some 47), .mov, [.t 46], none, [5, 4]⟩,
        ⟨(some 48), (.load true 3), [.t 3], (some (47, false)), [6]⟩,
        ⟨(some 49), .call, [.f 16, .t 48], (some (47, false)), [7, 6, 6]⟩,
        ⟨(some 50), (.load true 2), [.t 4], (some (47, false)), [6]⟩,
        ⟨(some 51), .call, [.f 21, .t 49, .t 50], (some (47, false)), [8, 9, 8, 6]⟩,
        ⟨(some 52), .mov, [.t 12], (some (47, false)), [6]⟩,
        ⟨(some 53), (.bin .neq), [.t 51, .t 52], (some (47, false)), [10, 11, 6]⟩,
        ⟨(some 54), .pick, [.t 47, .c (.bool true), .t 53], none, [6, 12]⟩] true)
      (.cond (.t 54)
       (.seq
        (.region [⟨(some 6), .mov, [.c (.bool false)], none, []⟩] false)
        .ret)
       .skip))
     (.keep [3, 4, 5, 7, 8, 9, 10, 11, 12] [3, 4, 5, 7, 8, 10] b4k4)))))
def b4k6 : DCode :=
 (.seq
  (.seq
   (.region [⟨(some 19), (.load true 3), [.t 3], none, []⟩,
     ⟨(some 20), .call, [.f 13, .t 19], none, [0]⟩,
     ⟨(some 21), (.un .not), [.t 20], none, [1]⟩] false)
   (.cond (.t 21)
    (.seq
     (.region [⟨(some 6), .mov, [.c (.bool true)], none, []⟩] false)
     .ret)
    .skip))
  (.keep [3, 4, 5] [3, 4, 5] b4k5))
def b4 : DCode :=
 (.seq
  (.region [⟨(some 3), .box, [.t 0], none, []⟩,
    ⟨(some 4), .box, [.t 1], none, []⟩,
    ⟨(some 5), .box, [.t 2], none, []⟩,
    ⟨(some 6), .mov, [.c (.bool false)], none, []⟩] false)
  (.seq
   (.seq
    (.region [⟨(some 17), .call, [.f 12], none, []⟩,
      ⟨(some 18), (.un .not), [.t 17], none, [0]⟩] false)
    (.cond (.t 18)
     (.seq
      (.region [⟨(some 6), .mov, [.c (.bool false)], none, []⟩] false)
      .ret)
     .skip))
   (.keep [3, 4, 5] [3, 4, 5] b4k6)))
def d4 : DFn := ⟨3, 141, [.tmp 6], b4⟩
theorem body4 : d4.body = b4 := rfl
theorem res4 : d4.res = [.tmp 6] := rfl
theorem k4 : chkFn Try.prog Try.f4 d4 = true := by kernel_rfl

end Go.DI

