/- The functions of the statement LakeBetween, as data. No condition. -/
import Derived.Test.YtbmlfeikdhpdfaaJd
import Derived.Test.YtbmlfeikdhpdfaaProg
import Derived.KernelRfl
namespace Go.DI
open Go.Proofs Go.RowKit
/-- guidevane/guidevanelaw01.LakeBetween -/
def b8k0 : DCode :=
 (.region [⟨(some 118), .mov, [.t 13], none, []⟩,
   ⟨(some 119), (.bin .add), [.t 118, .c (.int .i64 1)], none, [0]⟩,
   ⟨(some 13), .mov, [.t 119], none, [1, 0, 1]⟩] false)
def b8k1 : DCode :=
 (.seq
  (.block 1
   (.seq
    (.region [⟨(some 120), (.faddr 0 false 1), [.t 3], none, []⟩,
      ⟨(some 121), (.load false 1), [.t 120], none, [0]⟩,
      ⟨(some 122), .mov, [.t 13], none, []⟩,
      ⟨(some 123), (.iaddr 2), [.t 121, .t 122], none, [1, 2]⟩,
      ⟨(some 124), (.load true 2), [.t 123], none, [3]⟩,
      ⟨(some 14), (.alloc [(.imm (.int .i64 0)), (.imm (.int .i64 0))]), [], none, []⟩,
      ⟨none, (.store 2), [.t 14, .t 124], none, [5, 4, 0, 1, 2, 3, 4, 5]⟩] false)
    (.seq
     (.region [⟨(some 126), (.load true 1), [.t 3], none, []⟩,
       ⟨(some 127), .call, [.f 28, .t 126], none, [0]⟩,
       ⟨(some 128), (.faddr 1 false 1), [.t 14], none, []⟩,
       ⟨(some 129), (.load false 1), [.t 128], none, [2]⟩,
       ⟨(some 130), .call, [.f 36, .t 127, .t 129], none, [1, 3, 1]⟩,
       ⟨(some 125), .mov, [.t 130], none, [4]⟩,
       ⟨(some 131), (.ext 0), [.t 125], none, [5]⟩,
       ⟨(some 132), (.ext 1), [.t 125], none, [5]⟩,
       ⟨(some 15), (.alloc [(.imm (.int .i64 0)), (.imm (.int .i64 0))]), [], none, []⟩,
       ⟨none, (.store 2), [.t 15, .t 131], none, [8, 6, 4, 0, 1, 2, 3, 4, 5, 6, 8]⟩,
       ⟨(some 16), .mov, [.t 132], none, [7, 9, 0, 1, 2, 3, 4, 5, 6, 7, 8, 9]⟩] true)
     (.seq
      (.region [⟨(some 134), (.load true 1), [.t 3], none, []⟩,
        ⟨(some 135), .call, [.f 28, .t 134], none, [0]⟩,
        ⟨(some 136), (.faddr 0 false 1), [.t 14], none, []⟩,
        ⟨(some 137), (.load false 1), [.t 136], none, [2]⟩,
        ⟨(some 138), .call, [.f 38, .t 135, .t 137], none, [1, 3, 1]⟩,
        ⟨(some 133), .mov, [.t 138], none, [4]⟩,
        ⟨(some 139), (.ext 0), [.t 133], none, [5]⟩,
        ⟨(some 140), (.ext 1), [.t 133], none, [5]⟩,
        ⟨(some 17), (.alloc [(.imm (.int .i64 0)), (.imm (.int .i64 0))]), [], none, []⟩,
        ⟨none, (.store 2), [.t 17, .t 139], none, [8, 6, 4, 0, 1, 2, 3, 4, 5, 6, 8]⟩,
        ⟨(some 18), .mov, [.t 140], none, [7, 9, 0, 1, 2, 3, 4, 5, 6, 7, 8, 9]⟩] true)
      (.seq
       (.region [⟨(some 141), .mov, [.t 16], none, []⟩,
         ⟨(some 142), (.bin .neq), [.t 141, .c (.int .i64 0)], none, [0]⟩,
         ⟨(some 143), .mov, [.t 142], none, [1]⟩,
         ⟨(some 144), .mov, [.t 18], (some (143, false)), [2]⟩,
         ⟨(some 145), (.bin .neq), [.t 144, .c (.int .i64 0)], (some (143, false)), [3, 2]⟩,
         ⟨(some 146), .pick, [.t 143, .c (.bool true), .t 145], none, [2, 4]⟩,
         ⟨(some 147), .mov, [.t 146], none, [5, 2]⟩,
         ⟨(some 148), (.load true 2), [.t 15], (some (147, false)), [6]⟩,
         ⟨(some 149), (.faddr 0 false 1), [.t 14], (some (147, false)), [6]⟩,
         ⟨(some 150), (.load false 1), [.t 149], (some (147, false)), [8, 6]⟩,
         ⟨(some 151), (.faddr 0 false 1), [.t 14], (some (147, false)), [6]⟩,
         ⟨(some 152), (.load false 1), [.t 151], (some (147, false)), [10, 6]⟩,
         ⟨(some 153), (.build [(.imm (.int .i64 0)), (.imm (.int .i64 0))] [(0, 1), (1, 1)]), [.t 150, .t 152], (some (147, false)), [9, 11, 6]⟩,
         ⟨(some 154), (.eqs [false, false] true), [.t 148, .t 153], (some (147, false)), [7, 12, 6]⟩,
         ⟨(some 155), .pick, [.t 147, .c (.bool true), .t 154], none, [6, 13]⟩,
         ⟨(some 156), .mov, [.t 155], none, [14, 6]⟩,
         ⟨(some 157), (.load true 2), [.t 17], (some (156, false)), [15]⟩,
         ⟨(some 158), (.faddr 1 false 1), [.t 14], (some (156, false)), [15]⟩,
         ⟨(some 159), (.load false 1), [.t 158], (some (156, false)), [17, 15]⟩,
         ⟨(some 160), (.faddr 1 false 1), [.t 14], (some (156, false)), [15]⟩,
         ⟨(some 161), (.load false 1), [.t 160], (some (156, false)), [19, 15]⟩,
         ⟨(some 162), (.build [(.imm (.int .i64 0)), (.imm (.int .i64 0))] [(0, 1), (1, 1)]), [.t 159, .t 161], (some (156, false)), [18, 20, 15]⟩,
         ⟨(some 163), (.eqs [false, false] true), [.t 157, .t 162], (some (156, false)), [16, 21, 15]⟩,
         ⟨(some 164), .pick, [.t 156, .c (.bool true), .t 163], none, [15, 22]⟩] false)
       (.cond (.t 164)
        (.seq
         (.region [⟨(some 6), .mov, [.c (.bool false)], none, []⟩] false)
         .ret)
        .skip))))))
  (.keep [1, 2, 3, 7, 13] [3, 7] b8k0))
def b8l0 : DCode := .keep [1, 2, 3, 7, 13] [3, 7]
  (.seq
   (.seq
    (.region [⟨(some 113), .mov, [.t 13], none, []⟩,
      ⟨(some 114), (.faddr 0 false 1), [.t 3], none, []⟩,
      ⟨(some 115), (.load false 1), [.t 114], none, [1]⟩,
      ⟨(some 116), .len, [.t 115], none, [2]⟩,
      ⟨(some 117), (.bin .lss), [.t 113, .t 116], none, [0, 3]⟩] false)
    (.cond (.t 117)
     .skip
     (.exit 0)))
   (.keep [1, 2, 3, 7, 13] [3, 7] b8k1))
def b8k2 : DCode :=
 (.seq
  (.region [⟨(some 165), .mov, [.t 1], none, []⟩,
    ⟨(some 166), .mov, [.t 2], none, []⟩,
    ⟨(some 167), (.bin .add), [.t 165, .t 166], none, [0, 1]⟩,
    ⟨(some 168), (.load true 1), [.t 3], none, []⟩,
    ⟨(some 169), .call, [.f 47, .t 168], none, [3]⟩,
    ⟨(some 170), (.field 1 false 1), [.t 169], none, [4]⟩,
    ⟨(some 171), (.mm false), [.t 167, .t 170], none, [2, 5]⟩,
    ⟨(some 19), .mov, [.t 171], none, [6, 4, 0, 1, 2, 3, 4, 5, 6]⟩] false)
  (.seq
   (.region [⟨(some 173), (.load true 1), [.t 3], none, []⟩,
     ⟨(some 174), .call, [.f 28, .t 173], none, [0]⟩,
     ⟨(some 175), .mov, [.t 19], none, []⟩,
     ⟨(some 176), .call, [.f 36, .t 174, .t 175], none, [1, 2, 1]⟩,
     ⟨(some 172), .mov, [.t 176], none, [3]⟩,
     ⟨(some 177), (.ext 0), [.t 172], none, [4]⟩,
     ⟨(some 178), (.ext 1), [.t 172], none, [4]⟩,
     ⟨(some 20), (.alloc [(.imm (.int .i64 0)), (.imm (.int .i64 0))]), [], none, []⟩,
     ⟨none, (.store 2), [.t 20, .t 177], none, [7, 5, 3, 0, 1, 2, 3, 4, 5, 7]⟩,
     ⟨(some 21), .mov, [.t 178], none, [6, 8, 0, 1, 2, 3, 4, 5, 6, 7, 8]⟩] false)
   (.seq
    (.region [⟨(some 180), (.load true 1), [.t 3], none, []⟩,
      ⟨(some 181), .call, [.f 28, .t 180], none, [0]⟩,
      ⟨(some 182), .mov, [.t 1], none, []⟩,
      ⟨(some 183), .call, [.f 39, .t 181, .t 182], none, [1, 2, 1]⟩,
      ⟨(some 179), .mov, [.t 183], none, [3]⟩,
      ⟨(some 184), (.ext 0), [.t 179], none, [4]⟩,
      ⟨(some 185), (.ext 1), [.t 179], none, [4]⟩,
      ⟨(some 22), (.alloc [(.imm (.int .i64 0)), (.imm (.int .i64 0))]), [], none, []⟩,
      ⟨none, (.store 2), [.t 22, .t 184], none, [7, 5, 3, 0, 1, 2, 3, 4, 5, 7]⟩,
      ⟨(some 23), .mov, [.t 185], none, [6, 8, 0, 1, 2, 3, 4, 5, 6, 7, 8]⟩] false)
    (.seq
     (.region [⟨(some 187), (.load true 1), [.t 3], none, []⟩,
       ⟨(some 188), .call, [.f 28, .t 187], none, [0]⟩,
       ⟨(some 189), .mov, [.t 19], none, []⟩,
       ⟨(some 190), .call, [.f 39, .t 188, .t 189], none, [1, 2, 1]⟩,
       ⟨(some 186), .mov, [.t 190], none, [3]⟩,
       ⟨(some 191), (.ext 0), [.t 186], none, [4]⟩,
       ⟨(some 192), (.ext 1), [.t 186], none, [4]⟩,
       ⟨(some 24), (.alloc [(.imm (.int .i64 0)), (.imm (.int .i64 0))]), [], none, []⟩,
       ⟨none, (.store 2), [.t 24, .t 191], none, [7, 5, 3, 0, 1, 2, 3, 4, 5, 7]⟩,
       ⟨(some 25), .mov, [.t 192], none, [6, 8, 0, 1, 2, 3, 4, 5, 6, 7, 8]⟩] false)
     (.seq
      (.region [⟨(some 193), .mov, [.t 21], none, []⟩,
        ⟨(some 194), (.bin .eql), [.t 193, .c (.int .i64 0)], none, [0]⟩,
        ⟨(some 195), .mov, [.t 194], none, [1]⟩,
        ⟨(some 196), (.faddr 0 false 1), [.t 20], (some (195, true)), [2]⟩,
        ⟨(some 197), (.load false 1), [.t 196], (some (195, true)), [3, 2]⟩,
        ⟨(some 198), (.faddr 0 false 1), [.t 7], (some (195, true)), [2]⟩,
        ⟨(some 199), (.load false 1), [.t 198], (some (195, true)), [5, 2]⟩,
        ⟨(some 200), (.bin .geq), [.t 197, .t 199], (some (195, true)), [4, 6, 2]⟩,
        ⟨(some 201), .pick, [.t 195, .t 200, .c (.bool false)], none, [2, 7]⟩,
        ⟨(some 202), .mov, [.t 201], none, [8, 2]⟩,
        ⟨(some 203), (.faddr 1 false 1), [.t 20], (some (202, true)), [9]⟩,
        ⟨(some 204), (.load false 1), [.t 203], (some (202, true)), [10, 9]⟩,
        ⟨(some 205), (.faddr 1 false 1), [.t 7], (some (202, true)), [9]⟩,
        ⟨(some 206), (.load false 1), [.t 205], (some (202, true)), [12, 9]⟩,
        ⟨(some 207), (.bin .geq), [.t 204, .t 206], (some (202, true)), [11, 13, 9]⟩,
        ⟨(some 208), .pick, [.t 202, .t 207, .c (.bool false)], none, [9, 14]⟩,
        ⟨(some 209), .mov, [.t 208], none, [15, 9]⟩,
        ⟨(some 210), .mov, [.t 23], (some (209, true)), [16]⟩,
        ⟨(some 211), (.bin .eql), [.t 210, .c (.int .i64 0)], (some (209, true)), [17, 16]⟩,
        ⟨(some 212), .pick, [.t 209, .t 211, .c (.bool false)], none, [16, 18]⟩,
        ⟨(some 213), .mov, [.t 212], none, [19, 16]⟩,
        ⟨(some 214), .mov, [.t 25], (some (213, true)), [20]⟩,
        ⟨(some 215), (.bin .eql), [.t 214, .c (.int .i64 0)], (some (213, true)), [21, 20]⟩,
        ⟨(some 216), .pick, [.t 213, .t 215, .c (.bool false)], none, [20, 22]⟩,
        ⟨(some 217), .mov, [.t 216], none, [23, 20]⟩,
        ⟨(some 218), (.load true 2), [.t 22], (some (217, true)), [24]⟩,
        ⟨(some 219), .call, [.f 48, .t 218], (some (217, true)), [25, 24, 24]⟩,
        ⟨(some 220), .pick, [.t 217, .t 219, .c (.bool false)], none, [24, 26]⟩,
        ⟨(some 221), .mov, [.t 220], none, [27, 26]⟩,
        ⟨(some 222), (.load true 2), [.t 24], (some (221, true)), [28]⟩,
        ⟨(some 223), .call, [.f 48, .t 222], (some (221, true)), [29, 28, 28]⟩,
        ⟨(some 224), .pick, [.t 221, .t 223, .c (.bool false)], none, [28, 30]⟩,
        ⟨(some 225), .mov, [.t 224], none, [31, 30]⟩,
        ⟨(some 226), (.load true 2), [.t 22], (some (225, true)), [32]⟩,
        ⟨(some 227), (.load true 2), [.t 24], (some (225, true)), [32]⟩,
        ⟨(some 228), .call, [.f 49, .t 226, .t 227], (some (225, true)), [33, 34, 32, 32]⟩,
        ⟨(some 229), (.bin .leq), [.t 228, .c (.int .i64 0)], (some (225, true)), [35, 32]⟩,
        ⟨(some 230), .pick, [.t 225, .t 229, .c (.bool false)], none, [32, 36]⟩,
        ⟨(some 6), .mov, [.t 230], none, [37, 35, 0, 1, 2, 3, 4, 5, 6, 7, 8, 9, 10, 11, 12, 13, 14, 15, 16, 17, 18, 19, 20, 21, 22, 23, 24, 25, 26, 27, 28, 29, 30, 31, 32, 33, 34, 35, 36, 37]⟩] false)
      .ret)))))
def b8k3 : DCode :=
 (.seq
  (.seq
   (.region [⟨(some 13), .mov, [.c (.int .i64 0)], none, []⟩] false)
   (.block 0
    (.loop b8l0)))
  (.keep [1, 2, 3, 7] [3, 7] b8k2))
def b8k4 : DCode :=
 (.seq
  (.region [⟨(some 80), (.load true 1), [.t 3], none, []⟩,
    ⟨(some 81), .call, [.f 28, .t 80], none, [0]⟩,
    ⟨(some 82), (.faddr 0 false 1), [.t 7], none, []⟩,
    ⟨(some 83), (.load false 1), [.t 82], none, [2]⟩,
    ⟨(some 84), .call, [.f 38, .t 81, .t 83], none, [1, 3, 1]⟩,
    ⟨(some 79), .mov, [.t 84], none, [4]⟩,
    ⟨(some 85), (.ext 0), [.t 79], none, [5]⟩,
    ⟨(some 86), (.ext 1), [.t 79], none, [5]⟩,
    ⟨(some 9), (.alloc [(.imm (.int .i64 0)), (.imm (.int .i64 0))]), [], none, []⟩,
    ⟨none, (.store 2), [.t 9, .t 85], none, [8, 6, 4, 0, 1, 2, 3, 4, 5, 6, 8]⟩,
    ⟨(some 10), .mov, [.t 86], none, [7, 9, 0, 1, 2, 3, 4, 5, 6, 7, 8, 9]⟩] true)
  (.seq
   (.region [⟨(some 88), (.load true 1), [.t 3], none, []⟩,
     ⟨(some 89), .call, [.f 28, .t 88], none, [0]⟩,
     ⟨(some 90), (.faddr 1 false 1), [.t 7], none, []⟩,
     ⟨(some 91), (.load false 1), [.t 90], none, [2]⟩,
     ⟨(some 92), .call, [.f 38, .t 89, .t 91], none, [1, 3, 1]⟩,
     ⟨(some 87), .mov, [.t 92], none, [4]⟩,
     ⟨(some 93), (.ext 0), [.t 87], none, [5]⟩,
     ⟨(some 94), (.ext 1), [.t 87], none, [5]⟩,
     ⟨(some 11), (.alloc [(.imm (.int .i64 0)), (.imm (.int .i64 0))]), [], none, []⟩,
     ⟨none, (.store 2), [.t 11, .t 93], none, [8, 6, 4, 0, 1, 2, 3, 4, 5, 6, 8]⟩,
     ⟨(some 12), .mov, [.t 94], none, [7, 9, 0, 1, 2, 3, 4, 5, 6, 7, 8, 9]⟩] true)
   (.seq
    (.seq
     (.region [⟨(some 95), .mov, [.t 10], none, []⟩,
       ⟨(some 96), (.bin .neq), [.t 95, .c (.int .i64 0)], none, [0]⟩,
       ⟨(some 97), .mov, [.t 96], none, [1]⟩,
       ⟨(some 98), .mov, [.t 12], (some (97, false)), [2]⟩,
       ⟨(some 99), (.bin .neq), [.t 98, .c (.int .i64 0)], (some (97, false)), [3, 2]⟩,
       ⟨(some 100), .pick, [.t 97, .c (.bool true), .t 99], none, [2, 4]⟩,
       ⟨(some 101), .mov, [.t 100], none, [5, 2]⟩,
       ⟨(some 102), (.faddr 0 false 1), [.t 9], (some (101, false)), [6]⟩,
       ⟨(some 103), (.load false 1), [.t 102], (some (101, false)), [7, 6]⟩,
       ⟨(some 104), .mov, [.t 1], (some (101, false)), [6]⟩,
       ⟨(some 105), (.bin .gtr), [.t 103, .t 104], (some (101, false)), [8, 9, 6]⟩,
       ⟨(some 106), .pick, [.t 101, .c (.bool true), .t 105], none, [6, 10]⟩,
       ⟨(some 107), .mov, [.t 106], none, [11, 6]⟩,
       ⟨(some 108), (.faddr 1 false 1), [.t 11], (some (107, false)), [12]⟩,
       ⟨(some 109), (.load false 1), [.t 108], (some (107, false)), [13, 12]⟩,
       ⟨(some 110), .mov, [.t 1], (some (107, false)), [12]⟩,
       ⟨(some 111), (.bin .lss), [.t 109, .t 110], (some (107, false)), [14, 15, 12]⟩,
       ⟨(some 112), .pick, [.t 107, .c (.bool true), .t 111], none, [12, 16]⟩] false)
     (.cond (.t 112)
      (.seq
       (.region [⟨(some 6), .mov, [.c (.bool false)], none, []⟩] false)
       .ret)
      .skip))
    (.keep [1, 2, 3, 7] [3, 7] b8k3))))
def b8k5 : DCode :=
 (.seq
  (.region [⟨(some 48), (.load true 1), [.t 3], none, []⟩,
    ⟨(some 49), .call, [.f 28, .t 48], none, [0]⟩,
    ⟨(some 50), .mov, [.t 1], none, []⟩,
    ⟨(some 51), .call, [.f 36, .t 49, .t 50], none, [1, 2, 1]⟩,
    ⟨(some 47), .mov, [.t 51], none, [3]⟩,
    ⟨(some 52), (.ext 0), [.t 47], none, [4]⟩,
    ⟨(some 53), (.ext 1), [.t 47], none, [4]⟩,
    ⟨(some 7), (.alloc [(.imm (.int .i64 0)), (.imm (.int .i64 0))]), [], none, []⟩,
    ⟨none, (.store 2), [.t 7, .t 52], none, [7, 5, 3, 0, 1, 2, 3, 4, 5, 7]⟩,
    ⟨(some 8), .mov, [.t 53], none, [6, 8, 0, 1, 2, 3, 4, 5, 6, 7, 8]⟩] false)
  (.seq
   (.seq
    (.region [⟨(some 54), .mov, [.t 8], none, []⟩,
      ⟨(some 55), (.bin .neq), [.t 54, .c (.int .i64 0)], none, [0]⟩,
      ⟨(some 56), .mov, [.t 55], none, [1]⟩,
      ⟨(some 57), (.load true 1), [.t 3], (some (56, false)), [2]⟩,
      ⟨(some 58), (.faddr 0 false 1), [.t 7], (some (56, false)), [2]⟩,
      ⟨(some 59), (.load false 1), [.t 58], (some (56, false)), [4, 2]⟩,
      ⟨(some 60), .call, [.f 41, .t 57, .t 59], (some (56, false)), [3, 5, 2, 2]⟩,
      ⟨(some 61), (.un .not), [.t 60], (some (56, false)), [6, 2]⟩,
      ⟨(some 62), .pick, [.t 56, .c (.bool true), .t 61], none, [2, 7]⟩,
      ⟨(some 63), .mov, [.t 62], none, [8, 6]⟩,
      ⟨(some 64), (.load true 1), [.t 3], (some (63, false)), [9]⟩,
      ⟨(some 65), (.faddr 1 false 1), [.t 7], (some (63, false)), [9]⟩,
      ⟨(some 66), (.load false 1), [.t 65], (some (63, false)), [11, 9]⟩,
      ⟨(some 67), .call, [.f 41, .t 64, .t 66], (some (63, false)), [10, 12, 9, 9]⟩,
      ⟨(some 68), (.un .not), [.t 67], (some (63, false)), [13, 9]⟩,
      ⟨(some 69), .pick, [.t 63, .c (.bool true), .t 68], none, [9, 14]⟩,
      ⟨(some 70), .mov, [.t 69], none, [15, 13]⟩,
      ⟨(some 71), (.faddr 1 false 1), [.t 7], (some (70, false)), [16]⟩,
      ⟨(some 72), (.load false 1), [.t 71], (some (70, false)), [17, 16]⟩,
      ⟨(some 73), (.faddr 0 false 1), [.t 7], (some (70, false)), [16]⟩,
      ⟨(some 74), (.load false 1), [.t 73], (some (70, false)), [19, 16]⟩,
      ⟨(some 75), (.bin .sub), [.t 72, .t 74], (some (70, false)), [18, 20, 16]⟩,
      ⟨(some 76), .call, [.f 15, .t 75, .c (.int .i64 0), .c (.int .i64 1)], (some (70, false)), [21, 16, 16]⟩,
      ⟨(some 77), (.un .not), [.t 76], (some (70, false)), [22, 16]⟩,
      ⟨(some 78), .pick, [.t 70, .c (.bool true), .t 77], none, [16, 23]⟩] false)
    (.cond (.t 78)
     (.seq
      (.region [⟨(some 6), .mov, [.c (.bool false)], none, []⟩] false)
      .ret)
     .skip))
   (.keep [1, 2, 3, 7] [3, 7] b8k4)))
def b8k6 : DCode :=
 (.seq
  (.seq
   (.region [⟨(some 28), (.load true 1), [.t 3], none, []⟩,
     ⟨(some 29), .call, [.f 25, .t 28], none, [0]⟩,
     ⟨(some 30), (.un .not), [.t 29], none, [1]⟩,
     ⟨(some 31), .mov, [.t 30], none, [2, 1]⟩,
     ⟨(some 32), (.load true 1), [.t 3], (some (31, false)), [3]⟩,
     ⟨(some 33), .call, [.f 46, .t 32], (some (31, false)), [4, 3, 3]⟩,
     ⟨(some 34), (.bin .neq), [.t 33, .c (.int .i64 0)], (some (31, false)), [5, 3]⟩,
     ⟨(some 35), .pick, [.t 31, .c (.bool true), .t 34], none, [3, 6]⟩,
     ⟨(some 36), .mov, [.t 35], none, [7, 5]⟩,
     ⟨(some 37), (.load true 1), [.t 3], (some (36, false)), [8]⟩,
     ⟨(some 38), .mov, [.t 1], (some (36, false)), [8]⟩,
     ⟨(some 39), .call, [.f 43, .t 37, .t 38], (some (36, false)), [9, 10, 8, 8]⟩,
     ⟨(some 40), (.un .not), [.t 39], (some (36, false)), [11, 8]⟩,
     ⟨(some 41), .pick, [.t 36, .c (.bool true), .t 40], none, [8, 12]⟩,
     ⟨(some 42), .mov, [.t 41], none, [13, 11]⟩,
     ⟨(some 43), .mov, [.t 2], (some (42, false)), [14]⟩,
     ⟨(some 44), .call, [.f 15, .t 43, .c (.int .i64 0), .c (.int .i64 1000000000)], (some (42, false)), [15, 14, 14]⟩,
     ⟨(some 45), (.un .not), [.t 44], (some (42, false)), [16, 14]⟩,
     ⟨(some 46), .pick, [.t 42, .c (.bool true), .t 45], none, [14, 17]⟩] false)
   (.cond (.t 46)
    (.seq
     (.region [⟨(some 6), .mov, [.c (.bool true)], none, []⟩] false)
     .ret)
    .skip))
  (.keep [1, 2, 3] [3] b8k5))
def b8 : DCode :=
 (.seq
  (.region [⟨(some 3), .box, [.t 0], none, []⟩,
    ⟨(some 6), .mov, [.c (.bool false)], none, []⟩] false)
  (.seq
   (.seq
    (.region [⟨(some 26), .call, [.f 12], none, []⟩,
      ⟨(some 27), (.un .not), [.t 26], none, [0]⟩] false)
    (.cond (.t 27)
     (.seq
      (.region [⟨(some 6), .mov, [.c (.bool false)], none, []⟩] false)
      .ret)
     .skip))
   (.keep [1, 2, 3] [3] b8k6)))
def d8 : DFn := ⟨3, 231, [.tmp 6], b8⟩
theorem body8 : d8.body = b8 := rfl
theorem res8 : d8.res = [.tmp 6] := rfl
theorem k8 : chkFn Try.prog Try.f8 d8 = true := by kernel_rfl

end Go.DI

