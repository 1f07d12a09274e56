/- The functions of the statement LakeKept, as data. No condition. -/
import Derived.Test.YtbmlfeikdhpdfaaJd
import Derived.Test.YtbmlfeikdhpdfaaProg
import Derived.KernelRfl
namespace Go.DI
open Go.Proofs Go.RowKit
/-- guidevane/guidevanelaw01.LakeKept -/
def b11k0 : DCode :=
 (.seq
  (.region [⟨(some 124), (.loadf true 2 [14]), [.t 14], none, []⟩,
    ⟨(some 125), .mov, [.t 11], none, []⟩,
    ⟨(some 126), .movv, [.t 2], none, []⟩,
    ⟨(some 127), .mov, [.t 13], none, []⟩,
    ⟨(some 128), (.iaddr 3), [.t 126, .t 127], none, [2, 3]⟩,
    ⟨(some 129), (.faddr 0 false 1), [.t 128], none, [4]⟩,
    ⟨(some 130), (.loadf false 1 []), [.t 129], none, [5]⟩,
    ⟨(some 131), (.bin .add), [.t 125, .t 130], none, [1, 6]⟩,
    ⟨(some 132), .movv, [.t 2], none, []⟩,
    ⟨(some 133), .mov, [.t 13], none, []⟩,
    ⟨(some 134), (.iaddr 3), [.t 132, .t 133], none, [8, 9]⟩,
    ⟨(some 135), (.faddr 1 false 1), [.t 134], none, [10]⟩,
    ⟨(some 136), (.loadf false 1 []), [.t 135], none, [11]⟩,
    ⟨(some 137), (.bin .add), [.t 131, .t 136], none, [7, 12]⟩,
    ⟨none, (.storef 2 [10]), [.t 10, .t 124], none, [0, 0]⟩,
    ⟨(some 11), .mov, [.t 137], none, [13, 14, 0, 1, 2, 3, 4, 5, 6, 7, 8, 9, 10, 11, 12, 13, 14]⟩] true)
  (.region [⟨(some 138), (.faddr 0 false 1), [.t 12], none, []⟩,
    ⟨(some 139), (.load false 1), [.t 138], none, [0]⟩,
    ⟨(some 140), (.faddr 0 false 1), [.t 15], none, []⟩,
    ⟨(some 141), (.load false 1), [.t 140], none, [2]⟩,
    ⟨(some 142), (.bin .add), [.t 139, .t 141], none, [1, 3]⟩,
    ⟨(some 143), (.faddr 1 false 1), [.t 12], none, []⟩,
    ⟨(some 144), (.load false 1), [.t 143], none, [5]⟩,
    ⟨(some 145), (.faddr 1 false 1), [.t 15], none, []⟩,
    ⟨(some 146), (.load false 1), [.t 145], none, [7]⟩,
    ⟨(some 147), (.bin .add), [.t 144, .t 146], none, [6, 8]⟩,
    ⟨(some 148), (.build [(.imm (.int .i64 0)), (.imm (.int .i64 0))] [(0, 1), (1, 1)]), [.t 142, .t 147], none, [4, 9]⟩,
    ⟨none, (.store 2), [.t 12, .t 148], none, [10, 0, 1, 2, 3, 4, 5, 6, 7, 8, 9, 10]⟩] false))
def b11k1 : DCode :=
 (.region [⟨(some 82), .mov, [.t 13], none, []⟩,
   ⟨(some 83), (.bin .add), [.t 82, .c (.int .i64 1)], none, [0]⟩,
   ⟨(some 13), .mov, [.t 83], none, [1, 0, 1]⟩] false)
def b11k2 : DCode :=
 (.seq
  (.block 1
   (.seq
    (.region [⟨(some 85), (.load true 3), [.t 3], none, []⟩,
      ⟨(some 86), .call, [.f 16, .t 85], none, [0]⟩,
      ⟨(some 87), (.load true 2), [.t 10], none, []⟩,
      ⟨(some 88), .movv, [.t 2], none, []⟩,
      ⟨(some 89), .mov, [.t 13], none, []⟩,
      ⟨(some 90), (.iaddr 3), [.t 88, .t 89], none, [3, 4]⟩,
      ⟨(some 91), (.load true 3), [.t 90], none, [5]⟩,
      ⟨(some 92), .call, [.f 18, .t 86, .t 87, .t 91], none, [1, 2, 6, 1]⟩,
      ⟨(some 84), .mov, [.t 92], none, [7]⟩,
      ⟨(some 93), (.ext 0), [.t 84], none, [8]⟩,
      ⟨(some 94), (.ext 1), [.t 84], none, [8]⟩,
      ⟨(some 95), (.ext 2), [.t 84], none, [8]⟩,
      ⟨(some 14), (.alloc [(.imm (.int .i64 0)), (.imm (.int .i64 0))]), [], none, []⟩,
      ⟨(some 15), (.alloc [(.imm (.int .i64 0)), (.imm (.int .i64 0))]), [], none, []⟩,
      ⟨none, (.store 2), [.t 14, .t 93], none, [12, 9, 7, 0, 1, 2, 3, 4, 5, 6, 7, 8, 9, 12, 13]⟩,
      ⟨none, (.store 2), [.t 15, .t 94], none, [13, 10, 14, 0, 1, 2, 3, 4, 5, 6, 7, 8, 9, 10, 12, 13, 14]⟩,
      ⟨(some 16), .mov, [.t 95], none, [11, 15, 0, 1, 2, 3, 4, 5, 6, 7, 8, 9, 10, 11, 12, 13, 14, 15]⟩] true)
    (.seq
     (.seq
      (.region [⟨(some 96), .mov, [.t 16], none, []⟩,
        ⟨(some 97), (.bin .neq), [.t 96, .c (.int .i64 0)], none, [0]⟩,
        ⟨(some 98), .mov, [.t 97], none, [1]⟩,
        ⟨(some 99), (.load true 2), [.t 14], (some (98, false)), [2]⟩,
        ⟨(some 100), .movv, [.t 7], (some (98, false)), [2]⟩,
        ⟨(some 101), .mov, [.t 13], (some (98, false)), [2]⟩,
        ⟨(some 102), (.iaddr 2), [.t 100, .t 101], (some (98, false)), [4, 5, 2]⟩,
        ⟨(some 103), (.load true 2), [.t 102], (some (98, false)), [6, 2]⟩,
        ⟨(some 104), (.eqs [false, false] true), [.t 99, .t 103], (some (98, false)), [3, 7, 2]⟩,
        ⟨(some 105), .pick, [.t 98, .c (.bool true), .t 104], none, [2, 8]⟩,
        ⟨(some 106), .mov, [.t 105], none, [9, 2]⟩,
        ⟨(some 107), (.load true 3), [.t 3], (some (106, false)), [10]⟩,
        ⟨(some 108), (.load true 2), [.t 14], (some (106, false)), [10]⟩,
        ⟨(some 109), .call, [.f 58, .t 107, .t 108], (some (106, false)), [11, 12, 10, 10]⟩,
        ⟨(some 110), (.bin .neq), [.t 109, .c (.int .i64 0)], (some (106, false)), [13, 10]⟩,
        ⟨(some 111), .pick, [.t 106, .c (.bool true), .t 110], none, [10, 14]⟩,
        ⟨(some 112), .mov, [.t 111], none, [15, 13]⟩,
        ⟨(some 113), (.faddr 0 false 1), [.t 15], (some (112, false)), [16]⟩,
        ⟨(some 114), (.load false 1), [.t 113], (some (112, false)), [17, 16]⟩,
        ⟨(some 115), .call, [.f 15, .t 114, .c (.int .i64 0), .c (.int .i64 2000000000)], (some (112, false)), [18, 16, 16]⟩,
        ⟨(some 116), (.un .not), [.t 115], (some (112, false)), [19, 16]⟩,
        ⟨(some 117), .pick, [.t 112, .c (.bool true), .t 116], none, [16, 20]⟩,
        ⟨(some 118), .mov, [.t 117], none, [21, 19]⟩,
        ⟨(some 119), (.faddr 1 false 1), [.t 15], (some (118, false)), [22]⟩,
        ⟨(some 120), (.load false 1), [.t 119], (some (118, false)), [23, 22]⟩,
        ⟨(some 121), .call, [.f 15, .t 120, .c (.int .i64 0), .c (.int .i64 2000000000)], (some (118, false)), [24, 22, 22]⟩,
        ⟨(some 122), (.un .not), [.t 121], (some (118, false)), [25, 22]⟩,
        ⟨(some 123), .pick, [.t 118, .c (.bool true), .t 122], none, [22, 26]⟩] true)
      (.cond (.t 123)
       (.seq
        (.region [⟨(some 6), .mov, [.c (.bool false)], none, []⟩] false)
        .ret)
       .skip))
     (.keep [2, 3, 4, 7, 8, 10, 11, 12, 13, 14, 15] [3, 4, 8, 10, 12, 14, 15] b11k0))))
  (.keep [2, 3, 4, 7, 8, 10, 11, 12, 13] [3, 4, 8, 10, 12] b11k1))
def b11l0 : DCode := .keep [2, 3, 4, 7, 8, 10, 11, 12, 13] [3, 4, 8, 10, 12]
  (.seq
   (.seq
    (.region [⟨(some 78), .mov, [.t 13], none, []⟩,
      ⟨(some 79), .movv, [.t 2], none, []⟩,
      ⟨(some 80), .len, [.t 79], none, [1]⟩,
      ⟨(some 81), (.bin .lss), [.t 78, .t 80], none, [0, 2]⟩] false)
    (.cond (.t 81)
     .skip
     (.exit 0)))
   (.keep [2, 3, 4, 7, 8, 10, 11, 12, 13] [3, 4, 8, 10, 12] b11k2))
def b11k3 : DCode :=
 (.seq
  (.region [⟨(some 197), (.load true 3), [.t 3], none, []⟩,
    ⟨(some 198), .call, [.f 16, .t 197], none, [0]⟩,
    ⟨(some 199), (.load true 2), [.t 21], none, []⟩,
    ⟨(some 200), .movv, [.t 2], none, []⟩,
    ⟨(some 201), .mov, [.t 17], none, []⟩,
    ⟨(some 202), (.slice 3 true false), [.t 200, .t 201], none, [3, 4]⟩,
    ⟨(some 203), .call, [.f 54, .t 202], none, [5, 1]⟩,
    ⟨(some 204), .call, [.f 53, .t 198, .t 199, .t 203], none, [1, 2, 6, 6]⟩,
    ⟨(some 196), .mov, [.t 204], none, [7]⟩,
    ⟨(some 205), (.ext 0), [.t 196], none, [8]⟩,
    ⟨(some 206), (.ext 1), [.t 196], none, [8]⟩,
    ⟨(some 207), (.ext 2), [.t 196], none, [8]⟩,
    ⟨(some 23), (.alloc [(.imm (.int .i64 0)), (.imm (.int .i64 0))]), [], none, []⟩,
    ⟨(some 22), .movv, [.t 205], none, [9, 7, 0, 1, 2, 3, 4, 5, 6, 7, 8, 9, 12]⟩,
    ⟨none, (.store 2), [.t 23, .t 206], none, [12, 10, 13, 0, 1, 2, 3, 4, 5, 6, 7, 8, 9, 10, 12, 13]⟩,
    ⟨(some 24), .mov, [.t 207], none, [11, 14, 0, 1, 2, 3, 4, 5, 6, 7, 8, 9, 10, 11, 12, 13, 14]⟩] true)
  (.seq
   (.region [⟨(some 208), .mov, [.t 20], none, []⟩,
     ⟨(some 209), (.bin .eql), [.t 208, .c (.int .i64 0)], none, [0]⟩,
     ⟨(some 210), .mov, [.t 209], none, [1]⟩,
     ⟨(some 211), .mov, [.t 24], (some (210, true)), [2]⟩,
     ⟨(some 212), (.bin .eql), [.t 211, .c (.int .i64 0)], (some (210, true)), [3, 2]⟩,
     ⟨(some 213), .pick, [.t 210, .t 212, .c (.bool false)], none, [2, 4]⟩,
     ⟨(some 214), .mov, [.t 213], none, [5, 2]⟩,
     ⟨(some 215), .movv, [.t 18], (some (214, true)), [6]⟩,
     ⟨(some 216), .movv, [.t 7], (some (214, true)), [6]⟩,
     ⟨(some 217), .mov, [.t 17], (some (214, true)), [6]⟩,
     ⟨(some 218), (.slice 2 false true), [.t 216, .t 217], (some (214, true)), [8, 9, 6]⟩,
     ⟨(some 219), .call, [.f 57, .t 215, .t 218], (some (214, true)), [7, 10, 6, 6]⟩,
     ⟨(some 220), .pick, [.t 214, .t 219, .c (.bool false)], none, [6, 11]⟩,
     ⟨(some 221), .mov, [.t 220], none, [12, 11]⟩,
     ⟨(some 222), .movv, [.t 22], (some (221, true)), [13]⟩,
     ⟨(some 223), .movv, [.t 7], (some (221, true)), [13]⟩,
     ⟨(some 224), .mov, [.t 17], (some (221, true)), [13]⟩,
     ⟨(some 225), (.slice 2 true false), [.t 223, .t 224], (some (221, true)), [15, 16, 13]⟩,
     ⟨(some 226), .call, [.f 57, .t 222, .t 225], (some (221, true)), [14, 17, 13, 13]⟩,
     ⟨(some 227), .pick, [.t 221, .t 226, .c (.bool false)], none, [13, 18]⟩,
     ⟨(some 228), .mov, [.t 227], none, [19, 18]⟩,
     ⟨(some 229), (.faddr 0 false 1), [.t 19], (some (228, true)), [20]⟩,
     ⟨(some 230), (.load false 1), [.t 229], (some (228, true)), [21, 20]⟩,
     ⟨(some 231), (.faddr 0 false 1), [.t 8], (some (228, true)), [20]⟩,
     ⟨(some 232), (.load false 1), [.t 231], (some (228, true)), [23, 20]⟩,
     ⟨(some 233), .call, [.f 15, .t 230, .c (.int .i64 0), .t 232], (some (228, true)), [22, 24, 20, 20]⟩,
     ⟨(some 234), .pick, [.t 228, .t 233, .c (.bool false)], none, [20, 25]⟩,
     ⟨(some 235), .mov, [.t 234], none, [26, 25]⟩,
     ⟨(some 236), (.faddr 1 false 1), [.t 19], (some (235, true)), [27]⟩,
     ⟨(some 237), (.load false 1), [.t 236], (some (235, true)), [28, 27]⟩,
     ⟨(some 238), (.faddr 1 false 1), [.t 8], (some (235, true)), [27]⟩,
     ⟨(some 239), (.load false 1), [.t 238], (some (235, true)), [30, 27]⟩,
     ⟨(some 240), .call, [.f 15, .t 237, .c (.int .i64 0), .t 239], (some (235, true)), [29, 31, 27, 27]⟩,
     ⟨(some 241), .pick, [.t 235, .t 240, .c (.bool false)], none, [27, 32]⟩,
     ⟨(some 242), .mov, [.t 241], none, [33, 32]⟩,
     ⟨(some 243), (.load true 2), [.t 8], (some (242, true)), [34]⟩,
     ⟨(some 244), (.faddr 0 false 1), [.t 19], (some (242, true)), [34]⟩,
     ⟨(some 245), (.load false 1), [.t 244], (some (242, true)), [36, 34]⟩,
     ⟨(some 246), (.faddr 0 false 1), [.t 23], (some (242, true)), [34]⟩,
     ⟨(some 247), (.load false 1), [.t 246], (some (242, true)), [38, 34]⟩,
     ⟨(some 248), (.bin .add), [.t 245, .t 247], (some (242, true)), [37, 39, 34]⟩,
     ⟨(some 249), (.faddr 1 false 1), [.t 19], (some (242, true)), [34]⟩,
     ⟨(some 250), (.load false 1), [.t 249], (some (242, true)), [41, 34]⟩,
     ⟨(some 251), (.faddr 1 false 1), [.t 23], (some (242, true)), [34]⟩,
     ⟨(some 252), (.load false 1), [.t 251], (some (242, true)), [43, 34]⟩,
     ⟨(some 253), (.bin .add), [.t 250, .t 252], (some (242, true)), [42, 44, 34]⟩,
     ⟨(some 254), (.build [(.imm (.int .i64 0)), (.imm (.int .i64 0))] [(0, 1), (1, 1)]), [.t 248, .t 253], (some (242, true)), [40, 45, 34]⟩,
     ⟨(some 255), (.eqs [false, false] false), [.t 243, .t 254], (some (242, true)), [35, 46, 34]⟩,
     ⟨(some 256), .pick, [.t 242, .t 255, .c (.bool false)], none, [34, 47]⟩,
     ⟨(some 6), .mov, [.t 256], none, [48, 34, 0, 1, 2, 3, 4, 5, 6, 7, 8, 9, 10, 11, 12, 13, 14, 15, 16, 17, 18, 19, 20, 21, 22, 23, 24, 25, 26, 27, 28, 29, 30, 31, 32, 33, 34, 35, 36, 37, 38, 39, 40, 41, 42, 43, 44, 45, 46, 47, 48]⟩] false)
   .ret))
def b11k4 : DCode :=
 (.seq
  (.region [⟨(some 173), .movv, [.t 2], none, []⟩,
    ⟨(some 174), .len, [.t 173], none, [0]⟩,
    ⟨(some 175), (.bin .quo), [.t 174, .c (.int .i64 2)], none, [1]⟩,
    ⟨(some 17), .mov, [.t 175], none, [2, 0, 1, 2]⟩] false)
  (.seq
   (.region [⟨(some 177), (.load true 3), [.t 3], none, []⟩,
     ⟨(some 178), .call, [.f 16, .t 177], none, [0]⟩,
     ⟨(some 179), (.load true 2), [.t 4], none, []⟩,
     ⟨(some 180), .movv, [.t 2], none, []⟩,
     ⟨(some 181), .mov, [.t 17], none, []⟩,
     ⟨(some 182), (.slice 3 false true), [.t 180, .t 181], none, [3, 4]⟩,
     ⟨(some 183), .call, [.f 54, .t 182], none, [5, 1]⟩,
     ⟨(some 184), .call, [.f 53, .t 178, .t 179, .t 183], none, [1, 2, 6, 6]⟩,
     ⟨(some 176), .mov, [.t 184], none, [7]⟩,
     ⟨(some 185), (.ext 0), [.t 176], none, [8]⟩,
     ⟨(some 186), (.ext 1), [.t 176], none, [8]⟩,
     ⟨(some 187), (.ext 2), [.t 176], none, [8]⟩,
     ⟨(some 19), (.alloc [(.imm (.int .i64 0)), (.imm (.int .i64 0))]), [], none, []⟩,
     ⟨(some 18), .movv, [.t 185], none, [9, 7, 0, 1, 2, 3, 4, 5, 6, 7, 8, 9, 12]⟩,
     ⟨none, (.store 2), [.t 19, .t 186], none, [12, 10, 13, 0, 1, 2, 3, 4, 5, 6, 7, 8, 9, 10, 12, 13]⟩,
     ⟨(some 20), .mov, [.t 187], none, [11, 14, 0, 1, 2, 3, 4, 5, 6, 7, 8, 9, 10, 11, 12, 13, 14]⟩] true)
   (.seq
    (.region [⟨(some 188), (.load true 2), [.t 4], none, []⟩,
      ⟨(some 21), (.alloc [(.imm (.int .i64 0)), (.imm (.int .i64 0))]), [], none, []⟩,
      ⟨none, (.store 2), [.t 21, .t 188], none, [1, 0, 0, 1]⟩] false)
    (.seq
     (.seq
      (.region [⟨(some 189), .mov, [.t 17], none, []⟩,
        ⟨(some 190), (.bin .gtr), [.t 189, .c (.int .i64 0)], none, [0]⟩] false)
      (.cond (.t 190)
       (.region [⟨(some 191), .movv, [.t 7], none, []⟩,
         ⟨(some 192), .mov, [.t 17], none, []⟩,
         ⟨(some 193), (.bin .sub), [.t 192, .c (.int .i64 1)], none, [1]⟩,
         ⟨(some 194), (.iaddr 2), [.t 191, .t 193], none, [0, 2]⟩,
         ⟨(some 195), (.load true 2), [.t 194], none, [3]⟩,
         ⟨none, (.store 2), [.t 21, .t 195], none, [4, 0, 1, 2, 3, 4]⟩] false)
       .skip))
     (.keep [2, 3, 7, 8, 17, 18, 19, 20, 21] [3, 8, 19, 21] b11k3)))))
def b11k5 : DCode :=
 (.seq
  (.seq
   (.region [⟨(some 149), (.load true 2), [.t 12], none, []⟩,
     ⟨(some 150), (.load true 2), [.t 8], none, []⟩,
     ⟨(some 151), (.eqs [false, false] true), [.t 149, .t 150], none, [0, 1]⟩,
     ⟨(some 152), .mov, [.t 151], none, [2]⟩,
     ⟨(some 153), (.faddr 0 false 1), [.t 10], (some (152, false)), [3]⟩,
     ⟨(some 154), (.load false 1), [.t 153], (some (152, false)), [4, 3]⟩,
     ⟨(some 155), (.faddr 1 false 1), [.t 10], (some (152, false)), [3]⟩,
     ⟨(some 156), (.load false 1), [.t 155], (some (152, false)), [6, 3]⟩,
     ⟨(some 157), (.bin .add), [.t 154, .t 156], (some (152, false)), [5, 7, 3]⟩,
     ⟨(some 158), (.faddr 0 false 1), [.t 8], (some (152, false)), [3]⟩,
     ⟨(some 159), (.load false 1), [.t 158], (some (152, false)), [9, 3]⟩,
     ⟨(some 160), (.bin .add), [.t 157, .t 159], (some (152, false)), [8, 10, 3]⟩,
     ⟨(some 161), (.faddr 1 false 1), [.t 8], (some (152, false)), [3]⟩,
     ⟨(some 162), (.load false 1), [.t 161], (some (152, false)), [12, 3]⟩,
     ⟨(some 163), (.bin .add), [.t 160, .t 162], (some (152, false)), [11, 13, 3]⟩,
     ⟨(some 164), (.faddr 0 false 1), [.t 4], (some (152, false)), [3]⟩,
     ⟨(some 165), (.load false 1), [.t 164], (some (152, false)), [15, 3]⟩,
     ⟨(some 166), (.faddr 1 false 1), [.t 4], (some (152, false)), [3]⟩,
     ⟨(some 167), (.load false 1), [.t 166], (some (152, false)), [17, 3]⟩,
     ⟨(some 168), (.bin .add), [.t 165, .t 167], (some (152, false)), [16, 18, 3]⟩,
     ⟨(some 169), .mov, [.t 11], (some (152, false)), [3]⟩,
     ⟨(some 170), (.bin .add), [.t 168, .t 169], (some (152, false)), [19, 20, 3]⟩,
     ⟨(some 171), (.bin .neq), [.t 163, .t 170], (some (152, false)), [14, 21, 3]⟩,
     ⟨(some 172), .pick, [.t 152, .c (.bool true), .t 171], none, [3, 22]⟩] false)
   (.cond (.t 172)
    (.seq
     (.region [⟨(some 6), .mov, [.c (.bool false)], none, []⟩] false)
     .ret)
    .skip))
  (.keep [2, 3, 4, 7, 8] [3, 4, 8] b11k4))
def b11k6 : DCode :=
 (.seq
  (.region [⟨(some 77), (.load true 2), [.t 4], none, []⟩,
    ⟨(some 10), (.alloc [(.imm (.int .i64 0)), (.imm (.int .i64 0))]), [], none, []⟩,
    ⟨none, (.store 2), [.t 10, .t 77], none, [1, 0, 0, 1]⟩,
    ⟨(some 11), .mov, [.c (.int .i64 0)], none, [2, 0, 1, 2]⟩] false)
  (.seq
   (.region [⟨(some 12), (.alloc [(.imm (.int .i64 0)), (.imm (.int .i64 0))]), [], none, []⟩] false)
   (.seq
    (.seq
     (.region [⟨(some 13), .mov, [.c (.int .i64 0)], none, []⟩] false)
     (.block 0
      (.loop b11l0)))
    (.keep [2, 3, 4, 7, 8, 10, 11, 12] [3, 4, 8, 10, 12] b11k5))))
def b11k7 : DCode :=
 (.seq
  (.seq
   (.region [⟨(some 60), .movv, [.t 7], none, []⟩,
     ⟨(some 61), .len, [.t 60], none, [0]⟩,
     ⟨(some 62), .movv, [.t 2], none, []⟩,
     ⟨(some 63), .len, [.t 62], none, [2]⟩,
     ⟨(some 64), (.bin .neq), [.t 61, .t 63], none, [1, 3]⟩,
     ⟨(some 65), .mov, [.t 64], none, [4]⟩,
     ⟨(some 66), (.faddr 0 false 1), [.t 8], (some (65, false)), [5]⟩,
     ⟨(some 67), (.load false 1), [.t 66], (some (65, false)), [6, 5]⟩,
     ⟨(some 68), .call, [.f 15, .t 67, .c (.int .i64 0), .c (.int .i64 48000000000)], (some (65, false)), [7, 5, 5]⟩,
     ⟨(some 69), (.un .not), [.t 68], (some (65, false)), [8, 5]⟩,
     ⟨(some 70), .pick, [.t 65, .c (.bool true), .t 69], none, [5, 9]⟩,
     ⟨(some 71), .mov, [.t 70], none, [10, 8]⟩,
     ⟨(some 72), (.faddr 1 false 1), [.t 8], (some (71, false)), [11]⟩,
     ⟨(some 73), (.load false 1), [.t 72], (some (71, false)), [12, 11]⟩,
     ⟨(some 74), .call, [.f 15, .t 73, .c (.int .i64 0), .c (.int .i64 48000000000)], (some (71, false)), [13, 11, 11]⟩,
     ⟨(some 75), (.un .not), [.t 74], (some (71, false)), [14, 11]⟩,
     ⟨(some 76), .pick, [.t 71, .c (.bool true), .t 75], none, [11, 15]⟩] false)
   (.cond (.t 76)
    (.seq
     (.region [⟨(some 6), .mov, [.c (.bool false)], none, []⟩] false)
     .ret)
    .skip))
  (.keep [2, 3, 4, 7, 8] [3, 4, 8] b11k6))
def b11k8 : DCode :=
 (.seq
  (.region [⟨(some 47), (.load true 3), [.t 3], none, []⟩,
    ⟨(some 48), .call, [.f 16, .t 47], none, [0]⟩,
    ⟨(some 49), (.load true 2), [.t 4], none, []⟩,
    ⟨(some 50), .movv, [.t 2], none, []⟩,
    ⟨(some 51), .call, [.f 54, .t 50], none, [3, 1]⟩,
    ⟨(some 52), .call, [.f 53, .t 48, .t 49, .t 51], none, [1, 2, 4, 4]⟩,
    ⟨(some 46), .mov, [.t 52], none, [5]⟩,
    ⟨(some 53), (.ext 0), [.t 46], none, [6]⟩,
    ⟨(some 54), (.ext 1), [.t 46], none, [6]⟩,
    ⟨(some 55), (.ext 2), [.t 46], none, [6]⟩,
    ⟨(some 8), (.alloc [(.imm (.int .i64 0)), (.imm (.int .i64 0))]), [], none, []⟩,
    ⟨(some 7), .movv, [.t 53], none, [7, 5, 0, 1, 2, 3, 4, 5, 6, 7, 10]⟩,
    ⟨none, (.store 2), [.t 8, .t 54], none, [10, 8, 11, 0, 1, 2, 3, 4, 5, 6, 7, 8, 10, 11]⟩,
    ⟨(some 9), .mov, [.t 55], none, [9, 12, 0, 1, 2, 3, 4, 5, 6, 7, 8, 9, 10, 11, 12]⟩] true)
  (.seq
   (.seq
    (.region [⟨(some 56), .mov, [.t 9], none, []⟩,
      ⟨(some 57), (.bin .neq), [.t 56, .c (.int .i64 0)], none, [0]⟩] false)
    (.cond (.t 57)
     (.seq
      (.region [⟨(some 58), .mov, [.t 9], none, []⟩,
        ⟨(some 59), (.bin .eql), [.t 58, .c (.int .i64 22)], none, [0]⟩,
        ⟨(some 6), .mov, [.t 59], none, [1, 0, 1]⟩] false)
      .ret)
     .skip))
   (.keep [2, 3, 4, 7, 8] [3, 4, 8] b11k7)))
def b11k9 : DCode :=
 (.seq
  (.seq
   (.region [⟨(some 27), (.load true 3), [.t 3], none, []⟩,
     ⟨(some 28), .call, [.f 13, .t 27], none, [0]⟩,
     ⟨(some 29), (.un .not), [.t 28], none, [1]⟩,
     ⟨(some 30), .mov, [.t 29], none, [2, 1]⟩,
     ⟨(some 31), .movv, [.t 2], (some (30, false)), [3]⟩,
     ⟨(some 32), .len, [.t 31], (some (30, false)), [4, 3]⟩,
     ⟨(some 33), (.bin .gtr), [.t 32, .c (.int .i64 24)], (some (30, false)), [5, 3]⟩,
     ⟨(some 34), .pick, [.t 30, .c (.bool true), .t 33], none, [3, 6]⟩,
     ⟨(some 35), .mov, [.t 34], none, [7, 3]⟩,
     ⟨(some 36), (.load true 3), [.t 3], (some (35, false)), [8]⟩,
     ⟨(some 37), (.load true 2), [.t 4], (some (35, false)), [8]⟩,
     ⟨(some 38), .call, [.f 14, .t 36, .t 37], (some (35, false)), [9, 10, 8, 8]⟩,
     ⟨(some 39), (.bin .neq), [.t 38, .c (.int .i64 0)], (some (35, false)), [11, 8]⟩,
     ⟨(some 40), .pick, [.t 35, .c (.bool true), .t 39], none, [8, 12]⟩,
     ⟨(some 41), .mov, [.t 40], none, [13, 11]⟩,
     ⟨(some 42), .movv, [.t 2], (some (41, false)), [14]⟩,
     ⟨(some 43), .call, [.f 55, .t 42], (some (41, false)), [15, 14, 14]⟩,
     ⟨(some 44), (.bin .neq), [.t 43, .c (.int .i64 0)], (some (41, false)), [16, 14]⟩,
     ⟨(some 45), .pick, [.t 41, .c (.bool true), .t 44], none, [14, 17]⟩] false)
   (.cond (.t 45)
    (.seq
     (.region [⟨(some 6), .mov, [.c (.bool true)], none, []⟩] false)
     .ret)
    .skip))
  (.keep [2, 3, 4] [3, 4] b11k8))
def b11 : DCode :=
 (.seq
  (.region [⟨(some 3), .box, [.t 0], none, []⟩,
    ⟨(some 4), .box, [.t 1], none, []⟩,
    ⟨(some 6), .mov, [.c (.bool false)], none, []⟩] false)
  (.seq
   (.seq
    (.region [⟨(some 25), .call, [.f 12], none, []⟩,
      ⟨(some 26), (.un .not), [.t 25], none, [0]⟩] false)
    (.cond (.t 26)
     (.seq
      (.region [⟨(some 6), .mov, [.c (.bool false)], none, []⟩] false)
      .ret)
     .skip))
   (.keep [2, 3, 4] [3, 4] b11k9)))
def d11 : DFn := ⟨3, 257, [.tmp 6], b11⟩
theorem body11 : d11.body = b11 := rfl
theorem res11 : d11.res = [.tmp 6] := rfl
theorem k11 : chkFn Try.prog Try.f11 d11 = true := by kernel_rfl

end Go.DI

