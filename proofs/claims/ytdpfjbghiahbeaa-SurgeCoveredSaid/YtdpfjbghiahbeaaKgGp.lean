/- Contracts of bounds and waits. No condition. -/
import Derived.Test.YtdpfjbghiahbeaaKgGo
/- The reference's functions of bounds and waits, as data. No condition. -/
namespace Go.DI
open Go.Proofs Go.RowKit
/-- guidevane/guidevanelaw04.SurgeCovered -/
def b14k0 : DCode :=
 (.seq
  (.block 1
   (.region [⟨(some 98), .mov, [.t 11], none, []⟩,
     ⟨(some 99), .movv, [.t 7], none, []⟩,
     ⟨(some 100), .mov, [.t 12], none, []⟩,
     ⟨(some 101), (.iaddr 4), [.t 99, .t 100], none, [1, 2]⟩,
     ⟨(some 102), (.load true 4), [.t 101], none, [3]⟩,
     ⟨(some 103), .call, [.f 80, .t 102], none, [4]⟩,
     ⟨(some 104), (.bin .add), [.t 98, .t 103], none, [0, 5]⟩,
     ⟨(some 11), .mov, [.t 104], none, [6, 5, 0, 1, 2, 3, 4, 5, 6]⟩] false))
  (.region [⟨(some 96), .mov, [.t 12], none, []⟩,
    ⟨(some 97), (.bin .add), [.t 96, .c (.int .i64 1)], none, [0]⟩,
    ⟨(some 12), .mov, [.t 97], none, [1, 0, 1]⟩] false))
def b14l0 : DCode := .keep [3, 4, 5, 7, 11, 12] [3, 4, 5]
  (.seq
   (.seq
    (.region [⟨(some 92), .mov, [.t 12], none, []⟩,
      ⟨(some 93), .movv, [.t 7], none, []⟩,
      ⟨(some 94), .len, [.t 93], none, [1]⟩,
      ⟨(some 95), (.bin .lss), [.t 92, .t 94], none, [0, 2]⟩] false)
    (.cond (.t 95)
     .skip
     (.exit 0)))
   (.keep [3, 4, 5, 7, 11, 12] [3, 4, 5] b14k0))
def b14k1 : DCode :=
 (.seq
  (.region [⟨(some 172), (.faddr 0 false 1), [.t 15], none, []⟩,
    ⟨(some 173), (.load false 1), [.t 172], none, [0]⟩,
    ⟨(some 174), (.faddr 0 false 1), [.t 17], none, []⟩,
    ⟨(some 175), (.load false 1), [.t 174], none, [2]⟩,
    ⟨(some 176), (.bin .leq), [.t 173, .t 175], none, [1, 3]⟩,
    ⟨(some 177), .mov, [.t 176], none, [4]⟩,
    ⟨(some 178), (.faddr 1 false 1), [.t 17], (some (177, true)), [5]⟩,
    ⟨(some 179), (.load false 1), [.t 178], (some (177, true)), [6, 5]⟩,
    ⟨(some 180), (.faddr 1 false 1), [.t 15], (some (177, true)), [5]⟩,
    ⟨(some 181), (.load false 1), [.t 180], (some (177, true)), [8, 5]⟩,
    ⟨(some 182), (.bin .leq), [.t 179, .t 181], (some (177, true)), [7, 9, 5]⟩,
    ⟨(some 183), .pick, [.t 177, .t 182, .c (.bool false)], none, [5, 10]⟩,
    ⟨(some 184), .mov, [.t 183], none, [11, 5]⟩,
    ⟨(some 185), (.faddr 0 false 1), [.t 19], (some (184, true)), [12]⟩,
    ⟨(some 186), (.load false 1), [.t 185], (some (184, true)), [13, 12]⟩,
    ⟨(some 187), (.faddr 0 false 1), [.t 15], (some (184, true)), [12]⟩,
    ⟨(some 188), (.load false 1), [.t 187], (some (184, true)), [15, 12]⟩,
    ⟨(some 189), (.bin .leq), [.t 186, .t 188], (some (184, true)), [14, 16, 12]⟩,
    ⟨(some 190), .pick, [.t 184, .t 189, .c (.bool false)], none, [12, 17]⟩,
    ⟨(some 191), .mov, [.t 190], none, [18, 12]⟩,
    ⟨(some 192), (.faddr 1 false 1), [.t 15], (some (191, true)), [19]⟩,
    ⟨(some 193), (.load false 1), [.t 192], (some (191, true)), [20, 19]⟩,
    ⟨(some 194), (.faddr 1 false 1), [.t 19], (some (191, true)), [19]⟩,
    ⟨(some 195), (.load false 1), [.t 194], (some (191, true)), [22, 19]⟩,
    ⟨(some 196), (.bin .leq), [.t 193, .t 195], (some (191, true)), [21, 23, 19]⟩,
    ⟨(some 197), .pick, [.t 191, .t 196, .c (.bool false)], none, [19, 24]⟩,
    ⟨(some 6), .mov, [.t 197], none, [25, 19, 0, 1, 2, 3, 4, 5, 6, 7, 8, 9, 10, 11, 12, 13, 14, 15, 16, 17, 18, 19, 20, 21, 22, 23, 24, 25]⟩] false)
  .ret)
def b14k2 : DCode :=
 (.seq
  (.seq
   (.region [⟨(some 168), .mov, [.t 16], none, []⟩,
     ⟨(some 169), (.bin .neq), [.t 168, .c (.int .i64 0)], none, [0]⟩] false)
   (.cond (.t 169)
    (.seq
     (.region [⟨(some 170), .mov, [.t 16], none, []⟩,
       ⟨(some 171), (.bin .eql), [.t 170, .c (.int .i64 12)], none, [0]⟩,
       ⟨(some 6), .mov, [.t 171], none, [1, 0, 1]⟩] false)
     .ret)
    .skip))
  (.keep [15, 17, 19] [15, 17, 19] b14k1))
def b14k3 : DCode :=
 (.seq
  (.region [⟨(some 132), (.load true 5), [.t 3], none, []⟩,
    ⟨(some 133), (.load true 4), [.t 4], none, []⟩,
    ⟨(some 134), .call, [.f 31, .t 133], none, [1]⟩,
    ⟨(some 135), .movv, [.t 7], none, []⟩,
    ⟨(some 136), .call, [.f 61, .t 135], none, [3, 2]⟩,
    ⟨(some 137), .call, [.f 60, .t 132, .t 134, .t 136], none, [0, 2, 4, 4]⟩,
    ⟨(some 131), .mov, [.t 137], none, [5]⟩,
    ⟨(some 138), (.ext 0), [.t 131], none, [6]⟩,
    ⟨(some 139), (.ext 1), [.t 131], none, [6]⟩,
    ⟨(some 15), (.alloc [(.imm (.int .i64 0)), (.imm (.int .i64 0))]), [], none, []⟩,
    ⟨none, (.store 2), [.t 15, .t 138], none, [9, 7, 5, 0, 1, 2, 3, 4, 5, 6, 7, 9]⟩,
    ⟨(some 16), .mov, [.t 139], none, [8, 10, 0, 1, 2, 3, 4, 5, 6, 7, 8, 9, 10]⟩] true)
  (.seq
   (.region [⟨(some 141), (.load true 5), [.t 3], none, []⟩,
     ⟨(some 142), (.load true 4), [.t 4], none, []⟩,
     ⟨(some 143), .call, [.f 31, .t 142], none, [1]⟩,
     ⟨(some 144), .movv, [.t 7], none, []⟩,
     ⟨(some 145), (.slice 4 true false), [.t 144, .c (.int .i64 1)], none, [3]⟩,
     ⟨(some 146), .call, [.f 61, .t 145], none, [4, 2]⟩,
     ⟨(some 147), .call, [.f 60, .t 141, .t 143, .t 146], none, [0, 2, 5, 5]⟩,
     ⟨(some 140), .mov, [.t 147], none, [6]⟩,
     ⟨(some 148), (.ext 0), [.t 140], none, [7]⟩,
     ⟨(some 149), (.ext 1), [.t 140], none, [7]⟩,
     ⟨(some 17), (.alloc [(.imm (.int .i64 0)), (.imm (.int .i64 0))]), [], none, []⟩,
     ⟨none, (.store 2), [.t 17, .t 148], none, [10, 8, 6, 0, 1, 2, 3, 4, 5, 6, 7, 8, 10]⟩,
     ⟨(some 18), .mov, [.t 149], none, [9, 11, 0, 1, 2, 3, 4, 5, 6, 7, 8, 9, 10, 11]⟩] true)
   (.seq
    (.region [⟨(some 151), (.load true 5), [.t 3], none, []⟩,
      ⟨(some 152), (.load true 4), [.t 4], none, []⟩,
      ⟨(some 153), .call, [.f 31, .t 152], none, [1]⟩,
      ⟨(some 154), (.faddr 0 true 4), [.t 5], none, []⟩,
      ⟨(some 155), (.load true 4), [.t 154], none, [3]⟩,
      ⟨(some 156), (.bsl 4), [.t 155], none, [4]⟩,
      ⟨(some 157), .call, [.f 60, .t 151, .t 153, .t 156], none, [0, 2, 5, 2]⟩,
      ⟨(some 150), .mov, [.t 157], none, [6]⟩,
      ⟨(some 158), (.ext 0), [.t 150], none, [7]⟩,
      ⟨(some 159), (.ext 1), [.t 150], none, [7]⟩,
      ⟨(some 19), (.alloc [(.imm (.int .i64 0)), (.imm (.int .i64 0))]), [], none, []⟩,
      ⟨none, (.store 2), [.t 19, .t 158], none, [10, 8, 6, 0, 1, 2, 3, 4, 5, 6, 7, 8, 10]⟩,
      ⟨(some 20), .mov, [.t 159], none, [9, 11, 0, 1, 2, 3, 4, 5, 6, 7, 8, 9, 10, 11]⟩] true)
    (.seq
     (.seq
      (.region [⟨(some 160), .mov, [.t 16], none, []⟩,
        ⟨(some 161), .mov, [.t 18], none, []⟩,
        ⟨(some 162), (.bin .neq), [.t 160, .t 161], none, [0, 1]⟩,
        ⟨(some 163), .mov, [.t 162], none, [2]⟩,
        ⟨(some 164), .mov, [.t 16], (some (163, false)), [3]⟩,
        ⟨(some 165), .mov, [.t 20], (some (163, false)), [3]⟩,
        ⟨(some 166), (.bin .neq), [.t 164, .t 165], (some (163, false)), [4, 5, 3]⟩,
        ⟨(some 167), .pick, [.t 163, .c (.bool true), .t 166], none, [3, 6]⟩] false)
      (.cond (.t 167)
       (.seq
        (.region [⟨(some 6), .mov, [.c (.bool false)], none, []⟩] false)
        .ret)
       .skip))
     (.keep [15, 16, 17, 19] [15, 17, 19] b14k2)))))
def b14k4 : DCode :=
 (.seq
  (.seq
   (.region [⟨(some 120), (.load true 5), [.t 3], none, []⟩,
     ⟨(some 121), (.faddr 0 true 4), [.t 5], none, []⟩,
     ⟨(some 122), (.load true 4), [.t 121], none, [1]⟩,
     ⟨(some 123), .movv, [.t 7], none, []⟩,
     ⟨(some 124), (.slice 4 true false), [.t 123, .c (.int .i64 1)], none, [3]⟩,
     ⟨(some 125), .call, [.f 61, .t 124], none, [4]⟩,
     ⟨(some 126), .call, [.f 81, .t 120, .t 122, .t 125], none, [0, 2, 5, 5]⟩,
     ⟨(some 119), .mov, [.t 126], none, [6]⟩,
     ⟨(some 127), (.ext 0), [.t 119], none, [7]⟩,
     ⟨(some 128), (.ext 1), [.t 119], none, [7]⟩,
     ⟨(some 13), (.alloc [(.imm (.int .i64 0)), (.imm (.int .i64 0))]), [], none, []⟩,
     ⟨none, (.store 2), [.t 13, .t 127], none, [10, 8, 6, 0, 1, 2, 3, 4, 5, 6, 7, 8, 10]⟩,
     ⟨(some 14), .mov, [.t 128], none, [9, 11, 0, 1, 2, 3, 4, 5, 6, 7, 8, 9, 10, 11]⟩] true)
   (.seq
    (.region [⟨(some 129), .mov, [.t 14], none, []⟩,
      ⟨(some 130), (.bin .neq), [.t 129, .c (.int .i64 14)], none, [0]⟩] false)
    (.cond (.t 130)
     (.seq
      (.region [⟨(some 6), .mov, [.c (.bool false)], none, []⟩] false)
      .ret)
     .skip)))
  (.keep [3, 4, 5, 7] [3, 4, 5] b14k3))
def b14k5 : DCode :=
 (.seq
  (.seq
   (.region [⟨(some 110), .movv, [.t 7], none, []⟩,
     ⟨(some 111), .len, [.t 110], none, [0]⟩,
     ⟨(some 112), (.bin .eql), [.t 111, .c (.int .i64 1)], none, [1]⟩] false)
   (.cond (.t 112)
    (.seq
     (.region [⟨(some 113), .movv, [.t 7], none, []⟩,
       ⟨(some 114), (.iaddr 4), [.t 113, .c (.int .i64 0)], none, [0]⟩,
       ⟨(some 115), (.load true 4), [.t 114], none, [1]⟩,
       ⟨(some 116), (.faddr 0 true 4), [.t 5], none, []⟩,
       ⟨(some 117), (.load true 4), [.t 116], none, [3]⟩,
       ⟨(some 118), (.eqs [false, false, false, false] false), [.t 115, .t 117], none, [2, 4]⟩,
       ⟨(some 6), .mov, [.t 118], none, [5, 0, 1, 2, 3, 4, 5]⟩] true)
     .ret)
    .skip))
  (.keep [3, 4, 5, 7] [3, 4, 5] b14k4))
def b14k6 : DCode :=
 (.seq
  (.seq
   (.region [⟨(some 105), .mov, [.t 11], none, []⟩,
     ⟨(some 106), (.faddr 0 true 4), [.t 5], none, []⟩,
     ⟨(some 107), (.load true 4), [.t 106], none, [1]⟩,
     ⟨(some 108), .call, [.f 80, .t 107], none, [2]⟩,
     ⟨(some 109), (.bin .neq), [.t 105, .t 108], none, [0, 3]⟩] false)
   (.cond (.t 109)
    (.seq
     (.region [⟨(some 6), .mov, [.c (.bool false)], none, []⟩] false)
     .ret)
    .skip))
  (.keep [3, 4, 5, 7] [3, 4, 5] b14k5))
def b14k7 : DCode :=
 (.seq
  (.region [⟨(some 11), .mov, [.c (.int .i64 0)], none, []⟩] false)
  (.seq
   (.seq
    (.region [⟨(some 12), .mov, [.c (.int .i64 0)], none, []⟩] false)
    (.block 0
     (.loop b14l0)))
   (.keep [3, 4, 5, 7, 11] [3, 4, 5] b14k6)))
def b14k8 : DCode :=
 (.seq
  (.seq
   (.region [⟨(some 77), (.load true 5), [.t 3], none, []⟩,
     ⟨(some 78), (.faddr 0 true 4), [.t 5], none, []⟩,
     ⟨(some 79), (.load true 4), [.t 78], none, [1]⟩,
     ⟨(some 80), .movv, [.t 7], none, []⟩,
     ⟨(some 81), .call, [.f 61, .t 80], none, [3]⟩,
     ⟨(some 82), .call, [.f 81, .t 77, .t 79, .t 81], none, [0, 2, 4, 4]⟩,
     ⟨(some 76), .mov, [.t 82], none, [5]⟩,
     ⟨(some 83), (.ext 0), [.t 76], none, [6]⟩,
     ⟨(some 84), (.ext 1), [.t 76], none, [6]⟩,
     ⟨(some 9), (.alloc [(.imm (.int .i64 0)), (.imm (.int .i64 0))]), [], none, []⟩,
     ⟨none, (.store 2), [.t 9, .t 83], none, [9, 7, 5, 0, 1, 2, 3, 4, 5, 6, 7, 9]⟩,
     ⟨(some 10), .mov, [.t 84], none, [8, 10, 0, 1, 2, 3, 4, 5, 6, 7, 8, 9, 10]⟩] true)
   (.seq
    (.region [⟨(some 85), .mov, [.t 10], none, []⟩,
      ⟨(some 86), (.bin .neq), [.t 85, .c (.int .i64 0)], none, [0]⟩,
      ⟨(some 87), .mov, [.t 86], none, [1]⟩,
      ⟨(some 88), (.load true 2), [.t 9], (some (87, false)), [2]⟩,
      ⟨(some 89), (.build [(.imm (.int .i64 0)), (.imm (.int .i64 0))] []), [], (some (87, false)), [2]⟩,
      ⟨(some 90), (.eqs [false, false] true), [.t 88, .t 89], (some (87, false)), [3, 4, 2]⟩,
      ⟨(some 91), .pick, [.t 87, .c (.bool true), .t 90], none, [2, 5]⟩] false)
    (.cond (.t 91)
     (.seq
      (.region [⟨(some 6), .mov, [.c (.bool false)], none, []⟩] false)
      .ret)
     .skip)))
  (.keep [3, 4, 5, 7] [3, 4, 5] b14k7))
def b14k9 : DCode :=
 (.seq
  (.region [⟨(some 54), (.load true 5), [.t 3], none, []⟩,
    ⟨(some 55), (.load true 7), [.t 5], none, []⟩,
    ⟨(some 56), .call, [.f 79, .t 54, .t 55], none, [0, 1]⟩,
    ⟨(some 53), .mov, [.t 56], none, [2]⟩,
    ⟨(some 57), (.ext 0), [.t 53], none, [3]⟩,
    ⟨(some 58), (.ext 1), [.t 53], none, [3]⟩,
    ⟨(some 7), .movv, [.t 57], none, [4, 2, 0, 1, 2, 3, 4]⟩,
    ⟨(some 8), .mov, [.t 58], none, [5, 6, 0, 1, 2, 3, 4, 5, 6]⟩] false)
  (.seq
   (.seq
    (.region [⟨(some 59), .mov, [.t 8], none, []⟩,
      ⟨(some 60), (.bin .neq), [.t 59, .c (.int .i64 0)], none, [0]⟩,
      ⟨(some 61), .mov, [.t 60], none, [1]⟩,
      ⟨(some 62), .movv, [.t 7], (some (61, false)), [2]⟩,
      ⟨(some 63), .len, [.t 62], (some (61, false)), [3, 2]⟩,
      ⟨(some 64), (.bin .eql), [.t 63, .c (.int .i64 0)], (some (61, false)), [4, 2]⟩,
      ⟨(some 65), .pick, [.t 61, .c (.bool true), .t 64], none, [2, 5]⟩,
      ⟨(some 66), .mov, [.t 65], none, [6, 2]⟩,
      ⟨(some 67), .movv, [.t 7], (some (66, false)), [7]⟩,
      ⟨(some 68), .len, [.t 67], (some (66, false)), [8, 7]⟩,
      ⟨(some 69), (.bin .gtr), [.t 68, .c (.int .i64 9)], (some (66, false)), [9, 7]⟩,
      ⟨(some 70), .pick, [.t 66, .c (.bool true), .t 69], none, [7, 10]⟩,
      ⟨(some 71), .mov, [.t 70], none, [11, 7]⟩,
      ⟨(some 72), .movv, [.t 7], (some (71, false)), [12]⟩,
      ⟨(some 73), .call, [.f 59, .t 72], (some (71, false)), [13, 12, 12]⟩,
      ⟨(some 74), (.bin .neq), [.t 73, .c (.int .i64 0)], (some (71, false)), [14, 12]⟩,
      ⟨(some 75), .pick, [.t 71, .c (.bool true), .t 74], none, [12, 15]⟩] false)
    (.cond (.t 75)
     (.seq
      (.region [⟨(some 6), .mov, [.c (.bool false)], none, []⟩] false)
      .ret)
     .skip))
   (.keep [3, 4, 5, 7] [3, 4, 5] b14k8)))
def b14k10 : DCode :=
 (.seq
  (.seq
   (.region [⟨(some 23), (.load true 4), [.t 4], none, []⟩,
     ⟨(some 24), .call, [.f 28, .t 23], none, [0]⟩,
     ⟨(some 25), (.un .not), [.t 24], none, [1]⟩,
     ⟨(some 26), .mov, [.t 25], none, [2, 1]⟩,
     ⟨(some 27), (.faddr 3 false 1), [.t 4], (some (26, false)), [3]⟩,
     ⟨(some 28), (.load false 1), [.t 27], (some (26, false)), [4, 3]⟩,
     ⟨(some 29), (.bin .gtr), [.t 28, .c (.int .i64 20)], (some (26, false)), [5, 3]⟩,
     ⟨(some 30), .pick, [.t 26, .c (.bool true), .t 29], none, [3, 6]⟩,
     ⟨(some 31), .mov, [.t 30], none, [7, 3]⟩,
     ⟨(some 32), (.load true 5), [.t 3], (some (31, false)), [8]⟩,
     ⟨(some 33), (.load true 4), [.t 4], (some (31, false)), [8]⟩,
     ⟨(some 34), .call, [.f 35, .t 32, .t 33], (some (31, false)), [9, 10, 8, 8]⟩,
     ⟨(some 35), (.bin .neq), [.t 34, .c (.int .i64 0)], (some (31, false)), [11, 8]⟩,
     ⟨(some 36), .pick, [.t 31, .c (.bool true), .t 35], none, [8, 12]⟩,
     ⟨(some 37), .mov, [.t 36], none, [13, 11]⟩,
     ⟨(some 38), (.load true 7), [.t 5], (some (37, false)), [14]⟩,
     ⟨(some 39), .call, [.f 76, .t 38], (some (37, false)), [15, 14, 14]⟩,
     ⟨(some 40), (.bin .neq), [.t 39, .c (.int .i64 0)], (some (37, false)), [16, 14]⟩,
     ⟨(some 41), .pick, [.t 37, .c (.bool true), .t 40], none, [14, 17]⟩,
     ⟨(some 42), .mov, [.t 41], none, [18, 16]⟩,
     ⟨(some 43), (.faddr 4 false 1), [.t 5], (some (42, false)), [19]⟩,
     ⟨(some 44), (.load false 1), [.t 43], (some (42, false)), [20, 19]⟩,
     ⟨(some 45), (.bin .gtr), [.t 44, .c (.int .i64 3)], (some (42, false)), [21, 19]⟩,
     ⟨(some 46), .pick, [.t 42, .c (.bool true), .t 45], none, [19, 22]⟩,
     ⟨(some 47), .mov, [.t 46], none, [23, 19]⟩,
     ⟨(some 48), (.faddr 0 true 4), [.t 5], (some (47, false)), [24]⟩,
     ⟨(some 49), (.load true 4), [.t 48], (some (47, false)), [25, 24]⟩,
     ⟨(some 50), .call, [.f 80, .t 49], (some (47, false)), [26, 24, 24]⟩,
     ⟨(some 51), (.bin .gtr), [.t 50, .c (.int .i64 300)], (some (47, false)), [27, 24]⟩,
     ⟨(some 52), .pick, [.t 47, .c (.bool true), .t 51], none, [24, 28]⟩] false)
   (.cond (.t 52)
    (.seq
     (.region [⟨(some 6), .mov, [.c (.bool true)], none, []⟩] false)
     .ret)
    .skip))
  (.keep [3, 4, 5] [3, 4, 5] b14k9))
def b14 : DCode :=
 (.seq
  (.region [⟨(some 3), .box, [.t 0], none, []⟩,
    ⟨(some 4), .box, [.t 1], none, []⟩,
    ⟨(some 5), .box, [.t 2], none, []⟩,
    ⟨(some 6), .mov, [.c (.bool false)], none, []⟩] false)
  (.seq
   (.seq
    (.region [⟨(some 21), .call, [.f 15], none, []⟩,
      ⟨(some 22), (.un .not), [.t 21], none, [0]⟩] false)
    (.cond (.t 22)
     (.seq
      (.region [⟨(some 6), .mov, [.c (.bool false)], none, []⟩] false)
      .ret)
     .skip))
   (.keep [3, 4, 5] [3, 4, 5] b14k10)))
def d14 : DFn := ⟨3, 198, [.tmp 6], b14⟩
theorem body14 : d14.body = b14 := rfl
theorem res14 : d14.res = [.tmp 6] := rfl
theorem k14 : chkFn Try.prog Try.f14 d14 = true := by kernel_rfl

end Go.DI

/- Contracts: bounds and waits, of the program and of the reference. No condition. -/
set_option linter.unusedSimpArgs false
set_option maxRecDepth 20000
namespace Go.DI
open Go.Proofs Go.RowKit Sg

theorem divL_mem {lo hi c : Int} (h : DivOk lo hi c) {x : Int × Int} (hx : x ∈ divL lo hi c) : lo ≤ x.1 ∧ x.1 ≤ x.2 ∧ x.2 ≤ hi := by
  unfold divL divR at hx
  rw [List.drop_zero, List.mem_flatMap] at hx
  obtain ⟨i, hi', hx⟩ := hx
  rw [List.mem_range] at hi'
  have a1 := h.a1; have a2 := h.a2; have a3 := h.a3; have a4 := h.a4
  have b1 := div_bd h (i := i) (by omega)
  unfold oneD at hx
  split at hx
  · rename_i hle
    rw [List.mem_singleton] at hx
    subst hx
    refine ⟨?_, hle, ?_⟩
    · unfold divP; dsimp only; omega
    · unfold divP
      dsimp only
      have : (((i : Int) + 1) * (hi - lo + 1)) / c ≤ hi - lo + 1 := by
        have h1 : ((i : Int) + 1) * (hi - lo + 1) ≤ (hi - lo + 1) * c := by
          rw [Int.mul_comm (hi - lo + 1) c]
          exact Int.mul_le_mul_of_nonneg_right (by omega) (by omega)
        exact Int.ediv_le_of_le_mul (by omega) h1
      omega
  · cases hx

theorem cover_ok {v : Cv} (hv : coverE v = 0) : (coverL v).length ≤ 64 ∧ ∀ b ∈ coverL v, boxErr b = 0 := by
  obtain ⟨hb, hp, -⟩ := coverE_zero.1 hv
  rw [boxErr_zero] at hb
  have d1 : DivOk v.b.ll v.b.lh v.parts := ⟨by omega, by omega, by omega, hp⟩
  have d2 : DivOk v.b.fl v.b.fh v.parts := ⟨by omega, by omega, by omega, hp⟩
  constructor
  · have h1 := length_flat (l := divL v.b.ll v.b.lh v.parts) (m := 8) (g := fun x => (divL v.b.fl v.b.fh v.parts).map fun y => bxOf x y) fun x _ => by
      rw [List.length_map]
      have := divR_length (lo := v.b.fl) (hi := v.b.fh) (c := v.parts) (i := 0)
      unfold divL
      omega
    have h2 := divR_length (lo := v.b.ll) (hi := v.b.lh) (c := v.parts) (i := 0)
    unfold coverL
    unfold divL at h1 ⊢
    omega
  · intro b hbm
    unfold coverL at hbm
    rw [List.mem_flatMap] at hbm
    obtain ⟨x, hx, hbm⟩ := hbm
    rw [List.mem_map] at hbm
    obtain ⟨y, hy, rfl⟩ := hbm
    have h1 := divL_mem d1 hx
    have h2 := divL_mem d2 hy
    rw [boxErr_zero]
    unfold bxOf
    dsimp only
    omega

end Go.DI

/- Contracts: the shortest wait; the statement SurgeBounds. No condition. -/
set_option linter.unusedSimpArgs false
set_option maxRecDepth 20000
namespace Go.DI
open Go.Proofs Go.RowKit Sg

theorem bfold_true : ∀ {l : List Bx} {y : Bool × Int × Int}, y.1 = true → (l.foldl bStp y).1 = true
  | [], _, h => h
  | b :: l, y, _ => bfold_true (l := l) (y := bStp y b) rfl
end Go.DI

