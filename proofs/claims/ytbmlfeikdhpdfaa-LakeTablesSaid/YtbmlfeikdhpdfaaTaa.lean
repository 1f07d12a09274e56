/- The functions of the statement LakeTables, as data. No condition. -/
import Derived.Test.YtbmlfeikdhpdfaaJd
import Derived.Test.YtbmlfeikdhpdfaaProg
import Derived.KernelRfl
namespace Go.DI
open Go.Proofs Go.RowKit
/-- guidevane/guidevanelaw01.LakeTables -/
def b7k0 : DCode :=
 (.seq
  (.region [⟨(some 141), .mov, [.t 12], none, []⟩,
    ⟨(some 142), (.bin .eql), [.t 141, .c (.int .i64 0)], none, [0]⟩,
    ⟨(some 143), .mov, [.t 142], none, [1]⟩,
    ⟨(some 144), (.load true 2), [.t 11], (some (143, true)), [2]⟩,
    ⟨(some 145), (.load true 1), [.t 3], (some (143, true)), [2]⟩,
    ⟨(some 146), .mov, [.t 2], (some (143, true)), [2]⟩,
    ⟨(some 147), .call, [.f 44, .t 145, .t 146], (some (143, true)), [4, 5, 2, 2]⟩,
    ⟨(some 148), (.eqs [false, false] false), [.t 144, .t 147], (some (143, true)), [3, 6, 2]⟩,
    ⟨(some 149), .pick, [.t 143, .t 148, .c (.bool false)], none, [2, 7]⟩,
    ⟨(some 150), .mov, [.t 149], none, [8, 6]⟩,
    ⟨(some 151), .mov, [.t 14], (some (150, true)), [9]⟩,
    ⟨(some 152), (.bin .eql), [.t 151, .c (.int .i64 0)], (some (150, true)), [10, 9]⟩,
    ⟨(some 153), .pick, [.t 150, .t 152, .c (.bool false)], none, [9, 11]⟩,
    ⟨(some 154), .mov, [.t 153], none, [12, 9]⟩,
    ⟨(some 155), (.load true 2), [.t 13], (some (154, true)), [13]⟩,
    ⟨(some 156), (.load true 1), [.t 3], (some (154, true)), [13]⟩,
    ⟨(some 157), .mov, [.t 2], (some (154, true)), [13]⟩,
    ⟨(some 158), .call, [.f 45, .t 156, .t 157], (some (154, true)), [15, 16, 13, 13]⟩,
    ⟨(some 159), (.eqs [false, false] false), [.t 155, .t 158], (some (154, true)), [14, 17, 13]⟩,
    ⟨(some 160), .pick, [.t 154, .t 159, .c (.bool false)], none, [13, 18]⟩,
    ⟨(some 6), .mov, [.t 160], none, [19, 17, 0, 1, 2, 3, 4, 5, 6, 7, 8, 9, 10, 11, 12, 13, 14, 15, 16, 17, 18, 19]⟩] true)
  .ret)
def b7k1 : DCode :=
 (.seq
  (.seq
   (.region [⟨(some 121), (.load true 1), [.t 3], none, []⟩,
     ⟨(some 122), .mov, [.t 2], none, []⟩,
     ⟨(some 123), .call, [.f 43, .t 121, .t 122], none, [0, 1]⟩,
     ⟨(some 124), (.un .not), [.t 123], none, [2]⟩] false)
   (.cond (.t 124)
    (.seq
     (.region [⟨(some 125), .mov, [.t 12], none, []⟩,
       ⟨(some 126), (.bin .eql), [.t 125, .c (.int .i64 2)], none, [0]⟩,
       ⟨(some 127), .mov, [.t 126], none, [1]⟩,
       ⟨(some 128), .mov, [.t 14], (some (127, true)), [2]⟩,
       ⟨(some 129), (.bin .eql), [.t 128, .c (.int .i64 2)], (some (127, true)), [3, 2]⟩,
       ⟨(some 130), .pick, [.t 127, .t 129, .c (.bool false)], none, [2, 4]⟩,
       ⟨(some 131), .mov, [.t 130], none, [5, 2]⟩,
       ⟨(some 132), (.load true 2), [.t 11], (some (131, true)), [6]⟩,
       ⟨(some 133), (.build [(.imm (.int .i64 0)), (.imm (.int .i64 0))] []), [], (some (131, true)), [6]⟩,
       ⟨(some 134), (.eqs [false, false] false), [.t 132, .t 133], (some (131, true)), [7, 8, 6]⟩,
       ⟨(some 135), .pick, [.t 131, .t 134, .c (.bool false)], none, [6, 9]⟩,
       ⟨(some 136), .mov, [.t 135], none, [10, 6]⟩,
       ⟨(some 137), (.load true 2), [.t 13], (some (136, true)), [11]⟩,
       ⟨(some 138), (.build [(.imm (.int .i64 0)), (.imm (.int .i64 0))] []), [], (some (136, true)), [11]⟩,
       ⟨(some 139), (.eqs [false, false] false), [.t 137, .t 138], (some (136, true)), [12, 13, 11]⟩,
       ⟨(some 140), .pick, [.t 136, .t 139, .c (.bool false)], none, [11, 14]⟩,
       ⟨(some 6), .mov, [.t 140], none, [15, 11, 0, 1, 2, 3, 4, 5, 6, 7, 8, 9, 10, 11, 12, 13, 14, 15]⟩] false)
     .ret)
    .skip))
  (.keep [2, 3, 11, 12, 13, 14] [3, 11, 13] b7k0))
def b7k2 : DCode :=
 (.seq
  (.seq
   (.region [⟨(some 92), (.load true 1), [.t 3], none, []⟩,
     ⟨(some 93), .mov, [.t 1], none, []⟩,
     ⟨(some 94), .call, [.f 41, .t 92, .t 93], none, [0, 1]⟩,
     ⟨(some 95), .mov, [.t 94], none, [2, 2]⟩,
     ⟨(some 96), .mov, [.t 10], (some (95, true)), [3]⟩,
     ⟨(some 97), (.bin .neq), [.t 96, .c (.int .i64 0)], (some (95, true)), [4, 3]⟩,
     ⟨(some 98), .mov, [.t 97], (some (95, true)), [5, 3, 3]⟩,
     ⟨(some 99), (.load true 2), [.t 9], (some (98, false)), [6]⟩,
     ⟨(some 100), (.load true 1), [.t 3], (some (98, false)), [6]⟩,
     ⟨(some 101), .mov, [.t 1], (some (98, false)), [6]⟩,
     ⟨(some 102), .call, [.f 42, .t 100, .t 101], (some (98, false)), [8, 9, 6, 6]⟩,
     ⟨(some 103), (.eqs [false, false] true), [.t 99, .t 102], (some (98, false)), [7, 10, 6]⟩,
     ⟨(some 104), .pick, [.t 98, .c (.bool true), .t 103], (some (95, true)), [6, 11, 3]⟩,
     ⟨(some 105), .pick, [.t 95, .t 104, .c (.bool false)], none, [3, 12]⟩,
     ⟨(some 106), .mov, [.t 105], none, [13, 10]⟩,
     ⟨(some 107), (.load true 1), [.t 3], (some (106, false)), [14]⟩,
     ⟨(some 108), .mov, [.t 1], (some (106, false)), [14]⟩,
     ⟨(some 109), .call, [.f 41, .t 107, .t 108], (some (106, false)), [15, 16, 14, 14]⟩,
     ⟨(some 110), (.un .not), [.t 109], (some (106, false)), [17, 14]⟩,
     ⟨(some 111), .mov, [.t 110], (some (106, false)), [18, 17, 14]⟩,
     ⟨(some 112), .mov, [.t 10], (some (111, true)), [19]⟩,
     ⟨(some 113), (.bin .neq), [.t 112, .c (.int .i64 2)], (some (111, true)), [20, 19]⟩,
     ⟨(some 114), .mov, [.t 113], (some (111, true)), [21, 19, 19]⟩,
     ⟨(some 115), (.load true 2), [.t 9], (some (114, false)), [22]⟩,
     ⟨(some 116), (.build [(.imm (.int .i64 0)), (.imm (.int .i64 0))] []), [], (some (114, false)), [22]⟩,
     ⟨(some 117), (.eqs [false, false] true), [.t 115, .t 116], (some (114, false)), [23, 24, 22]⟩,
     ⟨(some 118), .pick, [.t 114, .c (.bool true), .t 117], (some (111, true)), [22, 25, 19]⟩,
     ⟨(some 119), .pick, [.t 111, .t 118, .c (.bool false)], (some (106, false)), [19, 26, 14]⟩,
     ⟨(some 120), .pick, [.t 106, .c (.bool true), .t 119], none, [14, 27]⟩] true)
   (.cond (.t 120)
    (.seq
     (.region [⟨(some 6), .mov, [.c (.bool false)], none, []⟩] false)
     .ret)
    .skip))
  (.keep [2, 3, 11, 12, 13, 14] [3, 11, 13] b7k1))
def b7k3 : DCode :=
 (.seq
  (.seq
   (.region [⟨(some 62), .mov, [.t 16], none, []⟩,
     ⟨(some 63), (.bin .neq), [.t 62, .c (.int .i64 0)], none, [0]⟩] false)
   (.cond (.t 63)
    (.seq
     (.region [⟨(some 64), .mov, [.t 10], none, []⟩,
       ⟨(some 65), .mov, [.t 16], none, []⟩,
       ⟨(some 66), (.bin .eql), [.t 64, .t 65], none, [0, 1]⟩,
       ⟨(some 67), .mov, [.t 66], none, [2]⟩,
       ⟨(some 68), .mov, [.t 12], (some (67, true)), [3]⟩,
       ⟨(some 69), .mov, [.t 16], (some (67, true)), [3]⟩,
       ⟨(some 70), (.bin .eql), [.t 68, .t 69], (some (67, true)), [4, 5, 3]⟩,
       ⟨(some 71), .pick, [.t 67, .t 70, .c (.bool false)], none, [3, 6]⟩,
       ⟨(some 72), .mov, [.t 71], none, [7, 3]⟩,
       ⟨(some 73), .mov, [.t 14], (some (72, true)), [8]⟩,
       ⟨(some 74), .mov, [.t 16], (some (72, true)), [8]⟩,
       ⟨(some 75), (.bin .eql), [.t 73, .t 74], (some (72, true)), [9, 10, 8]⟩,
       ⟨(some 76), .pick, [.t 72, .t 75, .c (.bool false)], none, [8, 11]⟩,
       ⟨(some 77), .mov, [.t 76], none, [12, 8]⟩,
       ⟨(some 78), (.load true 2), [.t 9], (some (77, true)), [13]⟩,
       ⟨(some 79), (.build [(.imm (.int .i64 0)), (.imm (.int .i64 0))] []), [], (some (77, true)), [13]⟩,
       ⟨(some 80), (.eqs [false, false] false), [.t 78, .t 79], (some (77, true)), [14, 15, 13]⟩,
       ⟨(some 81), .pick, [.t 77, .t 80, .c (.bool false)], none, [13, 16]⟩,
       ⟨(some 82), .mov, [.t 81], none, [17, 13]⟩,
       ⟨(some 83), (.load true 2), [.t 11], (some (82, true)), [18]⟩,
       ⟨(some 84), (.build [(.imm (.int .i64 0)), (.imm (.int .i64 0))] []), [], (some (82, true)), [18]⟩,
       ⟨(some 85), (.eqs [false, false] false), [.t 83, .t 84], (some (82, true)), [19, 20, 18]⟩,
       ⟨(some 86), .pick, [.t 82, .t 85, .c (.bool false)], none, [18, 21]⟩,
       ⟨(some 87), .mov, [.t 86], none, [22, 18]⟩,
       ⟨(some 88), (.load true 2), [.t 13], (some (87, true)), [23]⟩,
       ⟨(some 89), (.build [(.imm (.int .i64 0)), (.imm (.int .i64 0))] []), [], (some (87, true)), [23]⟩,
       ⟨(some 90), (.eqs [false, false] false), [.t 88, .t 89], (some (87, true)), [24, 25, 23]⟩,
       ⟨(some 91), .pick, [.t 87, .t 90, .c (.bool false)], none, [23, 26]⟩,
       ⟨(some 6), .mov, [.t 91], none, [27, 23, 0, 1, 2, 3, 4, 5, 6, 7, 8, 9, 10, 11, 12, 13, 14, 15, 16, 17, 18, 19, 20, 21, 22, 23, 24, 25, 26, 27]⟩] false)
     .ret)
    .skip))
  (.keep [1, 2, 3, 9, 10, 11, 12, 13, 14] [3, 9, 11, 13] b7k2))
def b7k4 : DCode :=
 (.seq
  (.region [⟨(some 23), (.load true 1), [.t 3], none, []⟩,
    ⟨(some 24), .call, [.f 28, .t 23], none, [0]⟩,
    ⟨(some 25), .call, [.f 37, .t 24], none, [1, 1]⟩,
    ⟨(some 22), .mov, [.t 25], none, [2]⟩,
    ⟨(some 26), (.ext 0), [.t 22], none, [3]⟩,
    ⟨(some 27), (.ext 1), [.t 22], none, [3]⟩,
    ⟨(some 7), .mov, [.t 26], none, [4, 2, 0, 1, 2, 3, 4]⟩,
    ⟨(some 8), .mov, [.t 27], none, [5, 6, 0, 1, 2, 3, 4, 5, 6]⟩] false)
  (.seq
   (.region [⟨(some 29), (.load true 1), [.t 3], none, []⟩,
     ⟨(some 30), .call, [.f 28, .t 29], none, [0]⟩,
     ⟨(some 31), .mov, [.t 1], none, []⟩,
     ⟨(some 32), .call, [.f 38, .t 30, .t 31], none, [1, 2, 1]⟩,
     ⟨(some 28), .mov, [.t 32], none, [3]⟩,
     ⟨(some 33), (.ext 0), [.t 28], none, [4]⟩,
     ⟨(some 34), (.ext 1), [.t 28], none, [4]⟩,
     ⟨(some 9), (.alloc [(.imm (.int .i64 0)), (.imm (.int .i64 0))]), [], none, []⟩,
     ⟨none, (.store 2), [.t 9, .t 33], none, [7, 5, 3, 0, 1, 2, 3, 4, 5, 7]⟩,
     ⟨(some 10), .mov, [.t 34], none, [6, 8, 0, 1, 2, 3, 4, 5, 6, 7, 8]⟩] false)
   (.seq
    (.region [⟨(some 36), (.load true 1), [.t 3], none, []⟩,
      ⟨(some 37), .call, [.f 28, .t 36], none, [0]⟩,
      ⟨(some 38), .mov, [.t 2], none, []⟩,
      ⟨(some 39), .call, [.f 36, .t 37, .t 38], none, [1, 2, 1]⟩,
      ⟨(some 35), .mov, [.t 39], none, [3]⟩,
      ⟨(some 40), (.ext 0), [.t 35], none, [4]⟩,
      ⟨(some 41), (.ext 1), [.t 35], none, [4]⟩,
      ⟨(some 11), (.alloc [(.imm (.int .i64 0)), (.imm (.int .i64 0))]), [], none, []⟩,
      ⟨none, (.store 2), [.t 11, .t 40], none, [7, 5, 3, 0, 1, 2, 3, 4, 5, 7]⟩,
      ⟨(some 12), .mov, [.t 41], none, [6, 8, 0, 1, 2, 3, 4, 5, 6, 7, 8]⟩] false)
    (.seq
     (.region [⟨(some 43), (.load true 1), [.t 3], none, []⟩,
       ⟨(some 44), .call, [.f 28, .t 43], none, [0]⟩,
       ⟨(some 45), .mov, [.t 2], none, []⟩,
       ⟨(some 46), .call, [.f 39, .t 44, .t 45], none, [1, 2, 1]⟩,
       ⟨(some 42), .mov, [.t 46], none, [3]⟩,
       ⟨(some 47), (.ext 0), [.t 42], none, [4]⟩,
       ⟨(some 48), (.ext 1), [.t 42], none, [4]⟩,
       ⟨(some 13), (.alloc [(.imm (.int .i64 0)), (.imm (.int .i64 0))]), [], none, []⟩,
       ⟨none, (.store 2), [.t 13, .t 47], none, [7, 5, 3, 0, 1, 2, 3, 4, 5, 7]⟩,
       ⟨(some 14), .mov, [.t 48], none, [6, 8, 0, 1, 2, 3, 4, 5, 6, 7, 8]⟩] false)
     (.seq
      (.region [⟨(some 50), (.load true 1), [.t 3], none, []⟩,
        ⟨(some 51), .call, [.f 40, .t 50], none, [0]⟩,
        ⟨(some 49), .mov, [.t 51], none, [1]⟩,
        ⟨(some 52), (.ext 0), [.t 49], none, [2]⟩,
        ⟨(some 53), (.ext 1), [.t 49], none, [2]⟩,
        ⟨(some 15), .mov, [.t 52], none, [3, 1, 0, 1, 2, 3]⟩,
        ⟨(some 16), .mov, [.t 53], none, [4, 5, 0, 1, 2, 3, 4, 5]⟩] false)
      (.seq
       (.seq
        (.region [⟨(some 54), .mov, [.t 8], none, []⟩,
          ⟨(some 55), .mov, [.t 16], none, []⟩,
          ⟨(some 56), (.bin .neq), [.t 54, .t 55], none, [0, 1]⟩,
          ⟨(some 57), .mov, [.t 56], none, [2]⟩,
          ⟨(some 58), .mov, [.t 7], (some (57, false)), [3]⟩,
          ⟨(some 59), .mov, [.t 15], (some (57, false)), [3]⟩,
          ⟨(some 60), (.bin .neq), [.t 58, .t 59], (some (57, false)), [4, 5, 3]⟩,
          ⟨(some 61), .pick, [.t 57, .c (.bool true), .t 60], none, [3, 6]⟩] false)
        (.cond (.t 61)
         (.seq
          (.region [⟨(some 6), .mov, [.c (.bool false)], none, []⟩] false)
          .ret)
         .skip))
       (.keep [1, 2, 3, 9, 10, 11, 12, 13, 14, 16] [3, 9, 11, 13] b7k3)))))))
def b7k5 : DCode :=
 (.seq
  (.seq
   (.region [⟨(some 19), (.load true 1), [.t 3], none, []⟩,
     ⟨(some 20), .call, [.f 25, .t 19], none, [0]⟩,
     ⟨(some 21), (.un .not), [.t 20], none, [1]⟩] false)
   (.cond (.t 21)
    (.seq
     (.region [⟨(some 6), .mov, [.c (.bool true)], none, []⟩] false)
     .ret)
    .skip))
  (.keep [1, 2, 3] [3] b7k4))
def b7 : DCode :=
 (.seq
  (.region [⟨(some 3), .box, [.t 0], none, []⟩,
    ⟨(some 6), .mov, [.c (.bool false)], none, []⟩] false)
  (.seq
   (.seq
    (.region [⟨(some 17), .call, [.f 12], none, []⟩,
      ⟨(some 18), (.un .not), [.t 17], none, [0]⟩] false)
    (.cond (.t 18)
     (.seq
      (.region [⟨(some 6), .mov, [.c (.bool false)], none, []⟩] false)
      .ret)
     .skip))
   (.keep [1, 2, 3] [3] b7k5)))
def d7 : DFn := ⟨3, 161, [.tmp 6], b7⟩
theorem body7 : d7.body = b7 := rfl
theorem res7 : d7.res = [.tmp 6] := rfl
theorem k7 : chkFn Try.prog Try.f7 d7 = true := by kernel_rfl

end Go.DI

