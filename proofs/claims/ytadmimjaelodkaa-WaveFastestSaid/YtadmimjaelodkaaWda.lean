/- The functions of laws in the reference and in the statements, as data. No condition. -/
import Derived.Test.YtadmimjaelodkaaWaGe
import Derived.Test.YtadmimjaelodkaaProg
import Derived.KernelRfl
namespace Go.DI
open Go.Proofs Go.RowKit
/-- guidevane/guidevanelaw03.WaveFastest -/
def b11k0 : DCode :=
 (.seq
  (.region [⟨(some 145), (.load true 2), [.t 3], none, []⟩,
    ⟨(some 146), .call, [.f 22, .t 145], none, [0]⟩,
    ⟨(some 147), .movv, [.t 7], none, []⟩,
    ⟨(some 148), .call, [.f 24, .t 147], none, [2, 1]⟩,
    ⟨(some 149), (.load true 5), [.t 4], none, []⟩,
    ⟨(some 150), .call, [.f 62, .t 146, .t 148, .t 149], none, [1, 3, 4, 3]⟩,
    ⟨(some 144), .mov, [.t 150], none, [5]⟩,
    ⟨(some 151), (.ext 0), [.t 144], none, [6]⟩,
    ⟨(some 152), (.ext 1), [.t 144], none, [6]⟩,
    ⟨(some 12), .mov, [.t 151], none, [7, 5, 0, 1, 2, 3, 4, 5, 6, 7]⟩,
    ⟨(some 13), .mov, [.t 152], none, [8, 9, 0, 1, 2, 3, 4, 5, 6, 7, 8, 9]⟩] true)
  (.seq
   (.region [⟨(some 153), .mov, [.t 13], none, []⟩,
     ⟨(some 154), (.bin .eql), [.t 153, .c (.int .i64 12)], none, [0]⟩,
     ⟨(some 6), .mov, [.t 154], none, [1, 0, 1]⟩] false)
   .ret))
def b11k1 : DCode :=
 (.seq
  (.seq
   (.region [⟨(some 108), .movv, [.t 7], none, []⟩,
     ⟨(some 109), .len, [.t 108], none, [0]⟩,
     ⟨(some 110), (.bin .eql), [.t 109, .c (.int .i64 0)], none, [1]⟩,
     ⟨(some 111), .mov, [.t 110], none, [2]⟩,
     ⟨(some 112), .movv, [.t 7], (some (111, false)), [3]⟩,
     ⟨(some 113), .len, [.t 112], (some (111, false)), [4, 3]⟩,
     ⟨(some 114), (.faddr 1 false 1), [.t 4], (some (111, false)), [3]⟩,
     ⟨(some 115), (.load false 1), [.t 114], (some (111, false)), [6, 3]⟩,
     ⟨(some 116), (.bin .gtr), [.t 113, .t 115], (some (111, false)), [5, 7, 3]⟩,
     ⟨(some 117), .pick, [.t 111, .c (.bool true), .t 116], none, [3, 8]⟩,
     ⟨(some 118), .mov, [.t 117], none, [9, 3]⟩,
     ⟨(some 119), .movv, [.t 7], (some (118, false)), [10]⟩,
     ⟨(some 120), .call, [.f 38, .t 119], (some (118, false)), [11, 10, 10]⟩,
     ⟨(some 121), (.bin .neq), [.t 120, .c (.int .i64 0)], (some (118, false)), [12, 10]⟩,
     ⟨(some 122), .pick, [.t 118, .c (.bool true), .t 121], none, [10, 13]⟩,
     ⟨(some 123), .mov, [.t 122], none, [14, 12]⟩,
     ⟨(some 124), .movv, [.t 7], (some (123, false)), [15]⟩,
     ⟨(some 125), .movv, [.t 7], (some (123, false)), [15]⟩,
     ⟨(some 126), .len, [.t 125], (some (123, false)), [17, 15]⟩,
     ⟨(some 127), (.bin .sub), [.t 126, .c (.int .i64 1)], (some (123, false)), [18, 15]⟩,
     ⟨(some 128), (.iaddr 1), [.t 124, .t 127], (some (123, false)), [16, 19, 15]⟩,
     ⟨(some 129), (.load false 1), [.t 128], (some (123, false)), [20, 15]⟩,
     ⟨(some 130), (.faddr 0 false 1), [.t 4], (some (123, false)), [15]⟩,
     ⟨(some 131), (.load false 1), [.t 130], (some (123, false)), [22, 15]⟩,
     ⟨(some 132), (.bin .neq), [.t 129, .t 131], (some (123, false)), [21, 23, 15]⟩,
     ⟨(some 133), .pick, [.t 123, .c (.bool true), .t 132], none, [15, 24]⟩,
     ⟨(some 134), .mov, [.t 133], none, [25, 15]⟩,
     ⟨(some 135), .mov, [.t 11], (some (134, false)), [26]⟩,
     ⟨(some 136), .mov, [.t 135], (some (134, false)), [27, 26, 26]⟩,
     ⟨(some 137), .movv, [.t 2], (some (136, true)), [28]⟩,
     ⟨(some 138), .len, [.t 137], (some (136, true)), [29, 28]⟩,
     ⟨(some 139), .movv, [.t 7], (some (136, true)), [28]⟩,
     ⟨(some 140), .len, [.t 139], (some (136, true)), [31, 28]⟩,
     ⟨(some 141), (.bin .lss), [.t 138, .t 140], (some (136, true)), [30, 32, 28]⟩,
     ⟨(some 142), .pick, [.t 136, .t 141, .c (.bool false)], (some (134, false)), [28, 33, 26]⟩,
     ⟨(some 143), .pick, [.t 134, .c (.bool true), .t 142], none, [26, 34]⟩] true)
   (.cond (.t 143)
    (.seq
     (.region [⟨(some 6), .mov, [.c (.bool false)], none, []⟩] false)
     .ret)
    .skip))
  (.keep [3, 4, 7] [3, 4] b11k0))
def b11k2 : DCode :=
 (.seq
  (.region [⟨(some 60), (.load true 2), [.t 3], none, []⟩,
    ⟨(some 61), .call, [.f 22, .t 60], none, [0]⟩,
    ⟨(some 62), (.load true 5), [.t 4], none, []⟩,
    ⟨(some 63), .call, [.f 56, .t 61, .t 62], none, [1, 2, 1]⟩,
    ⟨(some 59), .mov, [.t 63], none, [3]⟩,
    ⟨(some 64), (.ext 0), [.t 59], none, [4]⟩,
    ⟨(some 65), (.ext 1), [.t 59], none, [4]⟩,
    ⟨(some 7), .movv, [.t 64], none, [5, 3, 0, 1, 2, 3, 4, 5]⟩,
    ⟨(some 8), .mov, [.t 65], none, [6, 7, 0, 1, 2, 3, 4, 5, 6, 7]⟩] true)
  (.seq
   (.region [⟨(some 67), (.load true 2), [.t 3], none, []⟩,
     ⟨(some 68), .call, [.f 22, .t 67], none, [0]⟩,
     ⟨(some 69), .movv, [.t 2], none, []⟩,
     ⟨(some 70), .call, [.f 24, .t 69], none, [2, 1]⟩,
     ⟨(some 71), (.load true 5), [.t 4], none, []⟩,
     ⟨(some 72), .call, [.f 62, .t 68, .t 70, .t 71], none, [1, 3, 4, 3]⟩,
     ⟨(some 66), .mov, [.t 72], none, [5]⟩,
     ⟨(some 73), (.ext 0), [.t 66], none, [6]⟩,
     ⟨(some 74), (.ext 1), [.t 66], none, [6]⟩,
     ⟨(some 9), .mov, [.t 73], none, [7, 5, 0, 1, 2, 3, 4, 5, 6, 7]⟩,
     ⟨(some 10), .mov, [.t 74], none, [8, 9, 0, 1, 2, 3, 4, 5, 6, 7, 8, 9]⟩] true)
   (.seq
    (.region [⟨(some 75), .mov, [.t 10], none, []⟩,
      ⟨(some 76), (.bin .eql), [.t 75, .c (.int .i64 12)], none, [0]⟩,
      ⟨(some 77), .mov, [.t 76], none, [1]⟩,
      ⟨(some 78), .movv, [.t 2], (some (77, true)), [2]⟩,
      ⟨(some 79), .movv, [.t 2], (some (77, true)), [2]⟩,
      ⟨(some 80), .len, [.t 79], (some (77, true)), [4, 2]⟩,
      ⟨(some 81), (.bin .sub), [.t 80, .c (.int .i64 1)], (some (77, true)), [5, 2]⟩,
      ⟨(some 82), (.iaddr 1), [.t 78, .t 81], (some (77, true)), [3, 6, 2]⟩,
      ⟨(some 83), (.load false 1), [.t 82], (some (77, true)), [7, 2]⟩,
      ⟨(some 84), (.faddr 0 false 1), [.t 4], (some (77, true)), [2]⟩,
      ⟨(some 85), (.load false 1), [.t 84], (some (77, true)), [9, 2]⟩,
      ⟨(some 86), (.bin .eql), [.t 83, .t 85], (some (77, true)), [8, 10, 2]⟩,
      ⟨(some 87), .pick, [.t 77, .t 86, .c (.bool false)], none, [2, 11]⟩,
      ⟨(some 88), .mov, [.t 87], none, [12, 2]⟩,
      ⟨(some 89), .movv, [.t 2], (some (88, true)), [13]⟩,
      ⟨(some 90), .len, [.t 89], (some (88, true)), [14, 13]⟩,
      ⟨(some 91), (.faddr 1 false 1), [.t 4], (some (88, true)), [13]⟩,
      ⟨(some 92), (.load false 1), [.t 91], (some (88, true)), [16, 13]⟩,
      ⟨(some 93), (.bin .leq), [.t 90, .t 92], (some (88, true)), [15, 17, 13]⟩,
      ⟨(some 94), .pick, [.t 88, .t 93, .c (.bool false)], none, [13, 18]⟩,
      ⟨(some 11), .mov, [.t 94], none, [19, 13, 0, 1, 2, 3, 4, 5, 6, 7, 8, 9, 10, 11, 12, 13, 14, 15, 16, 17, 18, 19]⟩] true)
    (.seq
     (.seq
      (.region [⟨(some 95), .mov, [.t 8], none, []⟩,
        ⟨(some 96), (.bin .neq), [.t 95, .c (.int .i64 0)], none, [0]⟩] false)
      (.cond (.t 96)
       (.seq
        (.region [⟨(some 97), .mov, [.t 8], none, []⟩,
          ⟨(some 98), (.bin .eql), [.t 97, .c (.int .i64 12)], none, [0]⟩,
          ⟨(some 99), .mov, [.t 98], none, [1]⟩,
          ⟨(some 100), .movv, [.t 7], (some (99, true)), [2]⟩,
          ⟨(some 101), .len, [.t 100], (some (99, true)), [3, 2]⟩,
          ⟨(some 102), (.bin .eql), [.t 101, .c (.int .i64 0)], (some (99, true)), [4, 2]⟩,
          ⟨(some 103), .pick, [.t 99, .t 102, .c (.bool false)], none, [2, 5]⟩,
          ⟨(some 104), .mov, [.t 103], none, [6, 2]⟩,
          ⟨(some 105), .mov, [.t 11], (some (104, true)), [7]⟩,
          ⟨(some 106), (.un .not), [.t 105], (some (104, true)), [8, 7]⟩,
          ⟨(some 107), .pick, [.t 104, .t 106, .c (.bool false)], none, [7, 9]⟩,
          ⟨(some 6), .mov, [.t 107], none, [10, 7, 0, 1, 2, 3, 4, 5, 6, 7, 8, 9, 10]⟩] false)
        .ret)
       .skip))
     (.keep [2, 3, 4, 7, 11] [3, 4] b11k1)))))
def b11k3 : DCode :=
 (.seq
  (.seq
   (.region [⟨(some 16), (.load true 2), [.t 3], none, []⟩,
     ⟨(some 17), .call, [.f 18, .t 16], none, [0]⟩,
     ⟨(some 18), (.un .not), [.t 17], none, [1]⟩,
     ⟨(some 19), .mov, [.t 18], none, [2, 1]⟩,
     ⟨(some 20), (.load true 2), [.t 3], (some (19, false)), [3]⟩,
     ⟨(some 21), .call, [.f 37, .t 20], (some (19, false)), [4, 3, 3]⟩,
     ⟨(some 22), (.bin .neq), [.t 21, .c (.int .i64 0)], (some (19, false)), [5, 3]⟩,
     ⟨(some 23), .pick, [.t 19, .c (.bool true), .t 22], none, [3, 6]⟩,
     ⟨(some 24), .mov, [.t 23], none, [7, 5]⟩,
     ⟨(some 25), (.load true 5), [.t 4], (some (24, false)), [8]⟩,
     ⟨(some 26), .call, [.f 55, .t 25], (some (24, false)), [9, 8, 8]⟩,
     ⟨(some 27), (.bin .neq), [.t 26, .c (.int .i64 0)], (some (24, false)), [10, 8]⟩,
     ⟨(some 28), .pick, [.t 24, .c (.bool true), .t 27], none, [8, 11]⟩,
     ⟨(some 29), .mov, [.t 28], none, [12, 10]⟩,
     ⟨(some 30), (.faddr 2 false 1), [.t 4], (some (29, false)), [13]⟩,
     ⟨(some 31), (.load false 1), [.t 30], (some (29, false)), [14, 13]⟩,
     ⟨(some 32), (.bin .gtr), [.t 31, .c (.int .i64 40)], (some (29, false)), [15, 13]⟩,
     ⟨(some 33), .pick, [.t 29, .c (.bool true), .t 32], none, [13, 16]⟩,
     ⟨(some 34), .mov, [.t 33], none, [17, 13]⟩,
     ⟨(some 35), (.faddr 0 false 1), [.t 4], (some (34, false)), [18]⟩,
     ⟨(some 36), (.load false 1), [.t 35], (some (34, false)), [19, 18]⟩,
     ⟨(some 37), (.bin .gtr), [.t 36, .c (.int .i64 4)], (some (34, false)), [20, 18]⟩,
     ⟨(some 38), .pick, [.t 34, .c (.bool true), .t 37], none, [18, 21]⟩,
     ⟨(some 39), .mov, [.t 38], none, [22, 18]⟩,
     ⟨(some 40), (.faddr 1 false 1), [.t 4], (some (39, false)), [23]⟩,
     ⟨(some 41), (.load false 1), [.t 40], (some (39, false)), [24, 23]⟩,
     ⟨(some 42), (.bin .gtr), [.t 41, .c (.int .i64 6)], (some (39, false)), [25, 23]⟩,
     ⟨(some 43), .pick, [.t 39, .c (.bool true), .t 42], none, [23, 26]⟩,
     ⟨(some 44), .mov, [.t 43], none, [27, 23]⟩,
     ⟨(some 45), .movv, [.t 2], (some (44, false)), [28]⟩,
     ⟨(some 46), .len, [.t 45], (some (44, false)), [29, 28]⟩,
     ⟨(some 47), (.bin .eql), [.t 46, .c (.int .i64 0)], (some (44, false)), [30, 28]⟩,
     ⟨(some 48), .pick, [.t 44, .c (.bool true), .t 47], none, [28, 31]⟩,
     ⟨(some 49), .mov, [.t 48], none, [32, 28]⟩,
     ⟨(some 50), .movv, [.t 2], (some (49, false)), [33]⟩,
     ⟨(some 51), .len, [.t 50], (some (49, false)), [34, 33]⟩,
     ⟨(some 52), (.bin .gtr), [.t 51, .c (.int .i64 10)], (some (49, false)), [35, 33]⟩,
     ⟨(some 53), .pick, [.t 49, .c (.bool true), .t 52], none, [33, 36]⟩,
     ⟨(some 54), .mov, [.t 53], none, [37, 33]⟩,
     ⟨(some 55), .movv, [.t 2], (some (54, false)), [38]⟩,
     ⟨(some 56), .call, [.f 38, .t 55], (some (54, false)), [39, 38, 38]⟩,
     ⟨(some 57), (.bin .neq), [.t 56, .c (.int .i64 0)], (some (54, false)), [40, 38]⟩,
     ⟨(some 58), .pick, [.t 54, .c (.bool true), .t 57], none, [38, 41]⟩] false)
   (.cond (.t 58)
    (.seq
     (.region [⟨(some 6), .mov, [.c (.bool true)], none, []⟩] false)
     .ret)
    .skip))
  (.keep [2, 3, 4] [3, 4] b11k2))
def b11 : DCode :=
 (.seq
  (.region [⟨(some 3), .box, [.t 0], none, []⟩,
    ⟨(some 4), .box, [.t 1], none, []⟩,
    ⟨(some 6), .mov, [.c (.bool false)], none, []⟩] false)
  (.seq
   (.seq
    (.region [⟨(some 14), .call, [.f 17], none, []⟩,
      ⟨(some 15), (.un .not), [.t 14], none, [0]⟩] false)
    (.cond (.t 15)
     (.seq
      (.region [⟨(some 6), .mov, [.c (.bool false)], none, []⟩] false)
      .ret)
     .skip))
   (.keep [2, 3, 4] [3, 4] b11k3)))
def d11 : DFn := ⟨3, 155, [.tmp 6], b11⟩
theorem body11 : d11.body = b11 := rfl
theorem res11 : d11.res = [.tmp 6] := rfl
theorem k11 : chkFn Try.prog Try.f11 d11 = true := by kernel_rfl

/-- guidevane/guidevanelaw03.WaveEveryLaw -/
def b5k0 : DCode :=
 (.seq
  (.region [⟨(some 87), .mov, [.t 10], none, []⟩,
    ⟨(some 88), .mov, [.t 9], none, []⟩,
    ⟨(some 89), (.bin .geq), [.t 87, .t 88], none, [0, 1]⟩,
    ⟨(some 90), .mov, [.t 89], none, [2]⟩,
    ⟨(some 91), .movv, [.t 7], (some (90, true)), [3]⟩,
    ⟨(some 92), .mov, [.t 10], (some (90, true)), [3]⟩,
    ⟨(some 93), (.iaddr 1), [.t 91, .t 92], (some (90, true)), [4, 5, 3]⟩,
    ⟨(some 94), (.load false 1), [.t 93], (some (90, true)), [6, 3]⟩,
    ⟨(some 95), .movv, [.t 7], (some (90, true)), [3]⟩,
    ⟨(some 96), .mov, [.t 10], (some (90, true)), [3]⟩,
    ⟨(some 97), .mov, [.t 9], (some (90, true)), [3]⟩,
    ⟨(some 98), (.bin .sub), [.t 96, .t 97], (some (90, true)), [9, 10, 3]⟩,
    ⟨(some 99), (.iaddr 1), [.t 95, .t 98], (some (90, true)), [8, 11, 3]⟩,
    ⟨(some 100), (.load false 1), [.t 99], (some (90, true)), [12, 3]⟩,
    ⟨(some 101), (.bin .add), [.t 94, .t 100], (some (90, true)), [7, 13, 3]⟩,
    ⟨(some 102), .mov, [.t 11], (some (90, true)), [3]⟩,
    ⟨(some 103), .movv, [.t 1], (some (90, true)), [3]⟩,
    ⟨(some 104), .mov, [.t 10], (some (90, true)), [3]⟩,
    ⟨(some 105), .mov, [.t 9], (some (90, true)), [3]⟩,
    ⟨(some 106), (.bin .sub), [.t 104, .t 105], (some (90, true)), [17, 18, 3]⟩,
    ⟨(some 107), .call, [.f 41, .t 103, .t 106], (some (90, true)), [16, 19, 3, 3]⟩,
    ⟨(some 108), (.bin .sub), [.t 102, .t 107], (some (90, true)), [15, 20, 3]⟩,
    ⟨(some 109), (.bin .neq), [.t 101, .t 108], (some (90, true)), [14, 21, 3]⟩,
    ⟨(some 110), .pick, [.t 90, .t 109, .c (.bool false)], none, [3, 22]⟩] true)
  (.cond (.t 110)
   (.seq
    (.region [⟨(some 6), .mov, [.c (.bool false)], none, []⟩] false)
    .ret)
   .skip))
def b5k1 : DCode :=
 (.region [⟨(some 60), .mov, [.t 10], none, []⟩,
   ⟨(some 61), (.bin .add), [.t 60, .c (.int .i64 1)], none, [0]⟩,
   ⟨(some 10), .mov, [.t 61], none, [1, 0, 1]⟩] false)
def b5k2 : DCode :=
 (.seq
  (.block 1
   (.seq
    (.region [⟨(some 62), .movv, [.t 1], none, []⟩,
      ⟨(some 63), .mov, [.t 10], none, []⟩,
      ⟨(some 64), .call, [.f 41, .t 62, .t 63], none, [0, 1]⟩,
      ⟨(some 11), .mov, [.t 64], none, [2, 2, 0, 1, 2]⟩] false)
    (.seq
     (.seq
      (.region [⟨(some 65), .movv, [.t 7], none, []⟩,
        ⟨(some 66), .mov, [.t 10], none, []⟩,
        ⟨(some 67), (.iaddr 1), [.t 65, .t 66], none, [0, 1]⟩,
        ⟨(some 68), (.load false 1), [.t 67], none, [2]⟩,
        ⟨(some 69), .mov, [.t 11], none, []⟩,
        ⟨(some 70), (.un .neg), [.t 69], none, [4]⟩,
        ⟨(some 71), .mov, [.t 11], none, []⟩,
        ⟨(some 72), .call, [.f 34, .t 68, .t 70, .t 71], none, [3, 5, 6]⟩,
        ⟨(some 73), (.un .not), [.t 72], none, [7]⟩,
        ⟨(some 74), .mov, [.t 73], none, [8, 7]⟩,
        ⟨(some 75), .mov, [.t 10], (some (74, false)), [9]⟩,
        ⟨(some 76), .mov, [.t 9], (some (74, false)), [9]⟩,
        ⟨(some 77), (.bin .lss), [.t 75, .t 76], (some (74, false)), [10, 11, 9]⟩,
        ⟨(some 78), .mov, [.t 77], (some (74, false)), [12, 9, 9]⟩,
        ⟨(some 79), .movv, [.t 7], (some (78, true)), [13]⟩,
        ⟨(some 80), .mov, [.t 10], (some (78, true)), [13]⟩,
        ⟨(some 81), (.iaddr 1), [.t 79, .t 80], (some (78, true)), [14, 15, 13]⟩,
        ⟨(some 82), (.load false 1), [.t 81], (some (78, true)), [16, 13]⟩,
        ⟨(some 83), .mov, [.t 11], (some (78, true)), [13]⟩,
        ⟨(some 84), (.bin .neq), [.t 82, .t 83], (some (78, true)), [17, 18, 13]⟩,
        ⟨(some 85), .pick, [.t 78, .t 84, .c (.bool false)], (some (74, false)), [13, 19, 9]⟩,
        ⟨(some 86), .pick, [.t 74, .c (.bool true), .t 85], none, [9, 20]⟩] false)
      (.cond (.t 86)
       (.seq
        (.region [⟨(some 6), .mov, [.c (.bool false)], none, []⟩] false)
        .ret)
       .skip))
     (.keep [1, 2, 7, 9, 10, 11] [] b5k0))))
  (.keep [1, 2, 7, 9, 10] [] b5k1))
def b5l0 : DCode := .keep [1, 2, 7, 9, 10] []
  (.seq
   (.seq
    (.region [⟨(some 57), .mov, [.t 10], none, []⟩,
      ⟨(some 58), .mov, [.t 2], none, []⟩,
      ⟨(some 59), (.bin .lss), [.t 57, .t 58], none, [0, 1]⟩] false)
    (.cond (.t 59)
     .skip
     (.exit 0)))
   (.keep [1, 2, 7, 9, 10] [] b5k2))
def b5k3 : DCode :=
 (.seq
  (.region [⟨(some 6), .mov, [.c (.bool true)], none, []⟩] false)
  .ret)
def b5k4 : DCode :=
 (.seq
  (.region [⟨(some 54), (.load true 2), [.t 3], none, []⟩,
    ⟨(some 55), .call, [.f 40, .t 54], none, [0]⟩,
    ⟨(some 56), (.bin .mul), [.c (.int .i64 2), .t 55], none, [1]⟩,
    ⟨(some 9), .mov, [.t 56], none, [2, 1, 0, 1, 2]⟩] false)
  (.seq
   (.seq
    (.region [⟨(some 10), .mov, [.c (.int .i64 0)], none, []⟩] false)
    (.block 0
     (.loop b5l0)))
   (.keep [] [] b5k3)))
def b5k5 : DCode :=
 (.seq
  (.region [⟨(some 38), (.load true 2), [.t 3], none, []⟩,
    ⟨(some 39), .call, [.f 22, .t 38], none, [0]⟩,
    ⟨(some 40), .movv, [.t 1], none, []⟩,
    ⟨(some 41), .call, [.f 24, .t 40], none, [2, 1]⟩,
    ⟨(some 42), .mov, [.t 2], none, []⟩,
    ⟨(some 43), .call, [.f 39, .t 39, .t 41, .t 42], none, [1, 3, 4, 3]⟩,
    ⟨(some 37), .mov, [.t 43], none, [5]⟩,
    ⟨(some 44), (.ext 0), [.t 37], none, [6]⟩,
    ⟨(some 45), (.ext 1), [.t 37], none, [6]⟩,
    ⟨(some 7), .movv, [.t 44], none, [7, 5, 0, 1, 2, 3, 4, 5, 6, 7]⟩,
    ⟨(some 8), .mov, [.t 45], none, [8, 9, 0, 1, 2, 3, 4, 5, 6, 7, 8, 9]⟩] false)
  (.seq
   (.seq
    (.region [⟨(some 46), .mov, [.t 8], none, []⟩,
      ⟨(some 47), (.bin .neq), [.t 46, .c (.int .i64 0)], none, [0]⟩,
      ⟨(some 48), .mov, [.t 47], none, [1]⟩,
      ⟨(some 49), .movv, [.t 7], (some (48, false)), [2]⟩,
      ⟨(some 50), .len, [.t 49], (some (48, false)), [3, 2]⟩,
      ⟨(some 51), .mov, [.t 2], (some (48, false)), [2]⟩,
      ⟨(some 52), (.bin .neq), [.t 50, .t 51], (some (48, false)), [4, 5, 2]⟩,
      ⟨(some 53), .pick, [.t 48, .c (.bool true), .t 52], none, [2, 6]⟩] false)
    (.cond (.t 53)
     (.seq
      (.region [⟨(some 6), .mov, [.c (.bool false)], none, []⟩] false)
      .ret)
     .skip))
   (.keep [1, 2, 3, 7] [3] b5k4)))
def b5k6 : DCode :=
 (.seq
  (.seq
   (.region [⟨(some 14), (.load true 2), [.t 3], none, []⟩,
     ⟨(some 15), .call, [.f 18, .t 14], none, [0]⟩,
     ⟨(some 16), (.un .not), [.t 15], none, [1]⟩,
     ⟨(some 17), .mov, [.t 16], none, [2, 1]⟩,
     ⟨(some 18), (.load true 2), [.t 3], (some (17, false)), [3]⟩,
     ⟨(some 19), .call, [.f 37, .t 18], (some (17, false)), [4, 3, 3]⟩,
     ⟨(some 20), (.bin .neq), [.t 19, .c (.int .i64 0)], (some (17, false)), [5, 3]⟩,
     ⟨(some 21), .pick, [.t 17, .c (.bool true), .t 20], none, [3, 6]⟩,
     ⟨(some 22), .mov, [.t 21], none, [7, 5]⟩,
     ⟨(some 23), (.load true 2), [.t 3], (some (22, false)), [8]⟩,
     ⟨(some 24), .call, [.f 32, .t 23], (some (22, false)), [9, 8, 8]⟩,
     ⟨(some 25), (.un .not), [.t 24], (some (22, false)), [10, 8]⟩,
     ⟨(some 26), .pick, [.t 22, .c (.bool true), .t 25], none, [8, 11]⟩,
     ⟨(some 27), .mov, [.t 26], none, [12, 10]⟩,
     ⟨(some 28), .movv, [.t 1], (some (27, false)), [13]⟩,
     ⟨(some 29), .call, [.f 38, .t 28], (some (27, false)), [14, 13, 13]⟩,
     ⟨(some 30), (.bin .neq), [.t 29, .c (.int .i64 0)], (some (27, false)), [15, 13]⟩,
     ⟨(some 31), .pick, [.t 27, .c (.bool true), .t 30], none, [13, 16]⟩,
     ⟨(some 32), .mov, [.t 31], none, [17, 15]⟩,
     ⟨(some 33), .mov, [.t 2], (some (32, false)), [18]⟩,
     ⟨(some 34), .call, [.f 34, .t 33, .c (.int .i64 1), .c (.int .i64 60)], (some (32, false)), [19, 18, 18]⟩,
     ⟨(some 35), (.un .not), [.t 34], (some (32, false)), [20, 18]⟩,
     ⟨(some 36), .pick, [.t 32, .c (.bool true), .t 35], none, [18, 21]⟩] false)
   (.cond (.t 36)
    (.seq
     (.region [⟨(some 6), .mov, [.c (.bool true)], none, []⟩] false)
     .ret)
    .skip))
  (.keep [1, 2, 3] [3] b5k5))
def b5 : DCode :=
 (.seq
  (.region [⟨(some 3), .box, [.t 0], none, []⟩,
    ⟨(some 6), .mov, [.c (.bool false)], none, []⟩] false)
  (.seq
   (.seq
    (.region [⟨(some 12), .call, [.f 17], none, []⟩,
      ⟨(some 13), (.un .not), [.t 12], none, [0]⟩] false)
    (.cond (.t 13)
     (.seq
      (.region [⟨(some 6), .mov, [.c (.bool false)], none, []⟩] false)
      .ret)
     .skip))
   (.keep [1, 2, 3] [3] b5k6)))
def d5 : DFn := ⟨3, 111, [.tmp 6], b5⟩
theorem k5 : chkFn Try.prog Try.f5 d5 = true := by kernel_rfl

end Go.DI

