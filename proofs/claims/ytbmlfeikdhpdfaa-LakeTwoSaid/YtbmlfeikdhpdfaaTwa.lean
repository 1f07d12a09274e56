/- The functions of the statement LakeTwo, as data. No condition. -/
import Derived.Test.YtbmlfeikdhpdfaaJd
import Derived.Test.YtbmlfeikdhpdfaaProg
import Derived.KernelRfl
namespace Go.DI
open Go.Proofs Go.RowKit
/-- guidevane/guidevanelaw01.LakeTwo -/
def b6k0 : DCode :=
 (.seq
  (.region [⟨(some 121), .mov, [.t 11], none, []⟩,
    ⟨(some 122), (.faddr 0 false 1), [.t 5], none, []⟩,
    ⟨(some 123), (.load false 1), [.t 122], none, [1]⟩,
    ⟨(some 124), .movv, [.t 9], none, []⟩,
    ⟨(some 125), .mov, [.t 12], none, []⟩,
    ⟨(some 126), (.iaddr 1), [.t 124, .t 125], none, [3, 4]⟩,
    ⟨(some 127), (.load false 1), [.t 126], none, [5]⟩,
    ⟨(some 128), (.iaddr 3), [.t 123, .t 127], none, [2, 6]⟩,
    ⟨(some 129), (.load true 3), [.t 128], none, [7]⟩,
    ⟨(some 130), (.bsl 3), [.t 129], none, [8]⟩,
    ⟨(some 131), (.append 3 24 false), [.t 121, .t 130], none, [0, 9]⟩,
    ⟨(some 11), .mov, [.t 131], none, [10, 10, 0, 1, 2, 3, 4, 5, 6, 7, 8, 9, 10]⟩] true)
  (.seq
   (.region [⟨(some 133), (.load true 1), [.t 3], none, []⟩,
     ⟨(some 134), .call, [.f 28, .t 133], none, [0]⟩,
     ⟨(some 135), .movv, [.t 1], none, []⟩,
     ⟨(some 136), .call, [.f 29, .t 135], none, [2, 1]⟩,
     ⟨(some 137), (.faddr 0 false 1), [.t 5], none, []⟩,
     ⟨(some 138), (.load false 1), [.t 137], none, [4]⟩,
     ⟨(some 139), .movv, [.t 9], none, []⟩,
     ⟨(some 140), .mov, [.t 12], none, []⟩,
     ⟨(some 141), (.iaddr 1), [.t 139, .t 140], none, [6, 7]⟩,
     ⟨(some 142), (.load false 1), [.t 141], none, [8]⟩,
     ⟨(some 143), (.iaddr 3), [.t 138, .t 142], none, [5, 9]⟩,
     ⟨(some 144), (.load true 3), [.t 143], none, [10]⟩,
     ⟨(some 145), (.bsl 3), [.t 144], none, [11]⟩,
     ⟨(some 146), .call, [.f 27, .t 134, .t 136, .t 145], none, [1, 3, 12, 3]⟩,
     ⟨(some 132), .mov, [.t 146], none, [13]⟩,
     ⟨(some 147), (.ext 0), [.t 132], none, [14]⟩,
     ⟨(some 148), (.ext 1), [.t 132], none, [14]⟩,
     ⟨(some 13), (.alloc [(.imm (.int .i64 0)), (.imm (.int .i64 0))]), [], none, []⟩,
     ⟨none, (.store 2), [.t 13, .t 147], none, [17, 15, 13, 0, 1, 2, 3, 4, 5, 6, 7, 8, 9, 10, 11, 12, 13, 14, 15, 17]⟩,
     ⟨(some 14), .mov, [.t 148], none, [16, 18, 0, 1, 2, 3, 4, 5, 6, 7, 8, 9, 10, 11, 12, 13, 14, 15, 16, 17, 18]⟩] true)
   (.seq
    (.region [⟨(some 149), .mov, [.t 14], none, []⟩,
      ⟨(some 150), (.bin .eql), [.t 149, .c (.int .i64 13)], none, [0]⟩,
      ⟨(some 151), .movv, [.t 9], none, []⟩,
      ⟨(some 152), .len, [.t 151], none, [2]⟩,
      ⟨(some 153), (.bin .eql), [.t 152, .c (.int .i64 1)], none, [3]⟩,
      ⟨(some 154), (.beq true), [.t 150, .t 153], none, [1, 4]⟩] false)
    (.cond (.t 154)
     (.seq
      (.region [⟨(some 6), .mov, [.c (.bool false)], none, []⟩] false)
      .ret)
     .skip))))
def b6k1 : DCode :=
 (.region [⟨(some 93), .mov, [.t 12], none, []⟩,
   ⟨(some 94), (.bin .add), [.t 93, .c (.int .i64 1)], none, [0]⟩,
   ⟨(some 12), .mov, [.t 94], none, [1, 0, 1]⟩] false)
def b6k2 : DCode :=
 (.seq
  (.block 1
   (.seq
    (.seq
     (.region [⟨(some 95), .movv, [.t 9], none, []⟩,
       ⟨(some 96), .mov, [.t 12], none, []⟩,
       ⟨(some 97), (.iaddr 1), [.t 95, .t 96], none, [0, 1]⟩,
       ⟨(some 98), (.load false 1), [.t 97], none, [2]⟩,
       ⟨(some 99), (.faddr 0 false 1), [.t 5], none, []⟩,
       ⟨(some 100), (.load false 1), [.t 99], none, [4]⟩,
       ⟨(some 101), .len, [.t 100], none, [5]⟩,
       ⟨(some 102), (.bin .sub), [.t 101, .c (.int .i64 1)], none, [6]⟩,
       ⟨(some 103), .call, [.f 15, .t 98, .c (.int .i64 0), .t 102], none, [3, 7]⟩,
       ⟨(some 104), (.un .not), [.t 103], none, [8]⟩,
       ⟨(some 105), .mov, [.t 104], none, [9, 8]⟩,
       ⟨(some 106), .mov, [.t 12], (some (105, false)), [10]⟩,
       ⟨(some 107), (.bin .gtr), [.t 106, .c (.int .i64 0)], (some (105, false)), [11, 10]⟩,
       ⟨(some 108), .mov, [.t 107], (some (105, false)), [12, 10, 10]⟩,
       ⟨(some 109), .movv, [.t 9], (some (108, true)), [13]⟩,
       ⟨(some 110), .mov, [.t 12], (some (108, true)), [13]⟩,
       ⟨(some 111), (.iaddr 1), [.t 109, .t 110], (some (108, true)), [14, 15, 13]⟩,
       ⟨(some 112), (.load false 1), [.t 111], (some (108, true)), [16, 13]⟩,
       ⟨(some 113), .movv, [.t 9], (some (108, true)), [13]⟩,
       ⟨(some 114), .mov, [.t 12], (some (108, true)), [13]⟩,
       ⟨(some 115), (.bin .sub), [.t 114, .c (.int .i64 1)], (some (108, true)), [19, 13]⟩,
       ⟨(some 116), (.iaddr 1), [.t 113, .t 115], (some (108, true)), [18, 20, 13]⟩,
       ⟨(some 117), (.load false 1), [.t 116], (some (108, true)), [21, 13]⟩,
       ⟨(some 118), (.bin .leq), [.t 112, .t 117], (some (108, true)), [17, 22, 13]⟩,
       ⟨(some 119), .pick, [.t 108, .t 118, .c (.bool false)], (some (105, false)), [13, 23, 10]⟩,
       ⟨(some 120), .pick, [.t 105, .c (.bool true), .t 119], none, [10, 24]⟩] true)
     (.cond (.t 120)
      (.seq
       (.region [⟨(some 6), .mov, [.c (.bool false)], none, []⟩] false)
       .ret)
      .skip))
    (.keep [1, 3, 5, 9, 11, 12] [3, 5, 11, 131] b6k0)))
  (.keep [1, 3, 5, 9, 11, 12] [3, 5, 11, 131] b6k1))
def b6l0 : DCode := .keep [1, 3, 5, 9, 11, 12] [3, 5, 11, 131]
  (.seq
   (.seq
    (.region [⟨(some 89), .mov, [.t 12], none, []⟩,
      ⟨(some 90), .movv, [.t 9], none, []⟩,
      ⟨(some 91), .len, [.t 90], none, [1]⟩,
      ⟨(some 92), (.bin .lss), [.t 89, .t 91], none, [0, 2]⟩] false)
    (.cond (.t 92)
     .skip
     (.exit 0)))
   (.keep [1, 3, 5, 9, 11, 12] [3, 5, 11, 131] b6k2))
def b6k3 : DCode :=
 (.seq
  (.region [⟨(some 156), (.load true 1), [.t 3], none, []⟩,
    ⟨(some 157), .call, [.f 28, .t 156], none, [0]⟩,
    ⟨(some 158), .movv, [.t 1], none, []⟩,
    ⟨(some 159), .call, [.f 29, .t 158], none, [2, 1]⟩,
    ⟨(some 160), .movv, [.t 11], none, []⟩,
    ⟨(some 161), .call, [.f 27, .t 157, .t 159, .t 160], none, [1, 3, 4, 3]⟩,
    ⟨(some 155), .mov, [.t 161], none, [5]⟩,
    ⟨(some 162), (.ext 0), [.t 155], none, [6]⟩,
    ⟨(some 163), (.ext 1), [.t 155], none, [6]⟩,
    ⟨(some 15), (.alloc [(.imm (.int .i64 0)), (.imm (.int .i64 0))]), [], none, []⟩,
    ⟨none, (.store 2), [.t 15, .t 162], none, [9, 7, 5, 0, 1, 2, 3, 4, 5, 6, 7, 9]⟩,
    ⟨(some 16), .mov, [.t 163], none, [8, 10, 0, 1, 2, 3, 4, 5, 6, 7, 8, 9, 10]⟩] false)
  (.seq
   (.region [⟨(some 164), .mov, [.t 16], none, []⟩,
     ⟨(some 165), (.bin .eql), [.t 164, .c (.int .i64 13)], none, [0]⟩,
     ⟨(some 6), .mov, [.t 165], none, [1, 0, 1]⟩] false)
   .ret))
def b6k4 : DCode :=
 (.seq
  (.region [⟨(some 11), (.ntok 3), [.c (.slc 3 [])], none, []⟩] false)
  (.seq
   (.seq
    (.region [⟨(some 12), .mov, [.c (.int .i64 0)], none, []⟩] false)
    (.block 0
     (.loop b6l0)))
   (.keep [1, 3, 11] [3, 11, 131] b6k3)))
def b6k5 : DCode :=
 (.seq
  (.block 5
   (.region [⟨(some 194), .mov, [.t 19], none, []⟩,
     ⟨(some 195), .movv, [.t 1], none, []⟩,
     ⟨(some 196), .mov, [.t 20], none, []⟩,
     ⟨(some 197), (.iaddr 1), [.t 195, .t 196], none, [1, 2]⟩,
     ⟨(some 198), (.load false 1), [.t 197], none, [3]⟩,
     ⟨(some 199), (.bin .add), [.t 194, .t 198], none, [0, 4]⟩,
     ⟨(some 19), .mov, [.t 199], none, [5, 0, 1, 2, 3, 4, 5]⟩] false))
  (.region [⟨(some 192), .mov, [.t 20], none, []⟩,
    ⟨(some 193), (.bin .add), [.t 192, .c (.int .i64 1)], none, [0]⟩,
    ⟨(some 20), .mov, [.t 193], none, [1, 0, 1]⟩] false))
def b6l1 : DCode := .keep [1, 3, 5, 7, 17, 18, 19, 20] [3, 5, 7]
  (.seq
   (.seq
    (.region [⟨(some 184), .mov, [.t 20], none, []⟩,
      ⟨(some 185), (.faddr 0 false 1), [.t 5], none, []⟩,
      ⟨(some 186), (.load false 1), [.t 185], none, [1]⟩,
      ⟨(some 187), .mov, [.t 18], none, []⟩,
      ⟨(some 188), (.iaddr 3), [.t 186, .t 187], none, [2, 3]⟩,
      ⟨(some 189), (.faddr 0 false 1), [.t 188], none, [4]⟩,
      ⟨(some 190), (.load false 1), [.t 189], none, [5]⟩,
      ⟨(some 191), (.bin .lss), [.t 184, .t 190], none, [0, 6]⟩] false)
    (.cond (.t 191)
     .skip
     (.exit 4)))
   (.keep [1, 3, 5, 7, 17, 18, 19, 20] [3, 5, 7] b6k5))
def b6k6 : DCode :=
 (.region [⟨(some 213), .mov, [.t 17], none, []⟩,
   ⟨(some 214), .mov, [.t 213], none, [0]⟩,
   ⟨(some 215), .mov, [.t 22], (some (214, true)), [1]⟩,
   ⟨(some 216), (.bin .eql), [.t 215, .c (.int .i64 0)], (some (214, true)), [2, 1]⟩,
   ⟨(some 217), .pick, [.t 214, .t 216, .c (.bool false)], none, [1, 3]⟩,
   ⟨(some 218), .mov, [.t 217], none, [4, 1]⟩,
   ⟨(some 219), (.faddr 0 false 1), [.t 21], (some (218, true)), [5]⟩,
   ⟨(some 220), (.load false 1), [.t 219], (some (218, true)), [6, 5]⟩,
   ⟨(some 221), (.faddr 0 false 1), [.t 5], (some (218, true)), [5]⟩,
   ⟨(some 222), (.load false 1), [.t 221], (some (218, true)), [8, 5]⟩,
   ⟨(some 223), .mov, [.t 18], (some (218, true)), [5]⟩,
   ⟨(some 224), (.iaddr 3), [.t 222, .t 223], (some (218, true)), [9, 10, 5]⟩,
   ⟨(some 225), (.faddr 1 true 2), [.t 224], (some (218, true)), [11, 5]⟩,
   ⟨(some 226), (.faddr 0 false 1), [.t 225], (some (218, true)), [12, 5]⟩,
   ⟨(some 227), (.load false 1), [.t 226], (some (218, true)), [13, 5]⟩,
   ⟨(some 228), (.bin .geq), [.t 220, .t 227], (some (218, true)), [7, 14, 5]⟩,
   ⟨(some 229), .pick, [.t 218, .t 228, .c (.bool false)], none, [5, 15]⟩,
   ⟨(some 230), .mov, [.t 229], none, [16, 5]⟩,
   ⟨(some 231), (.faddr 1 false 1), [.t 21], (some (230, true)), [17]⟩,
   ⟨(some 232), (.load false 1), [.t 231], (some (230, true)), [18, 17]⟩,
   ⟨(some 233), (.faddr 0 false 1), [.t 5], (some (230, true)), [17]⟩,
   ⟨(some 234), (.load false 1), [.t 233], (some (230, true)), [20, 17]⟩,
   ⟨(some 235), .mov, [.t 18], (some (230, true)), [17]⟩,
   ⟨(some 236), (.iaddr 3), [.t 234, .t 235], (some (230, true)), [21, 22, 17]⟩,
   ⟨(some 237), (.faddr 1 true 2), [.t 236], (some (230, true)), [23, 17]⟩,
   ⟨(some 238), (.faddr 1 false 1), [.t 237], (some (230, true)), [24, 17]⟩,
   ⟨(some 239), (.load false 1), [.t 238], (some (230, true)), [25, 17]⟩,
   ⟨(some 240), (.bin .leq), [.t 232, .t 239], (some (230, true)), [19, 26, 17]⟩,
   ⟨(some 241), .pick, [.t 230, .t 240, .c (.bool false)], none, [17, 27]⟩,
   ⟨(some 17), .mov, [.t 241], none, [28, 17, 0, 1, 2, 3, 4, 5, 6, 7, 8, 9, 10, 11, 12, 13, 14, 15, 16, 17, 18, 19, 20, 21, 22, 23, 24, 25, 26, 27, 28]⟩] true)
def b6k7 : DCode :=
 (.seq
  (.region [⟨(some 201), (.load true 1), [.t 3], none, []⟩,
    ⟨(some 202), .call, [.f 28, .t 201], none, [0]⟩,
    ⟨(some 203), .mov, [.t 19], none, []⟩,
    ⟨(some 204), .call, [.f 36, .t 202, .t 203], none, [1, 2, 1]⟩,
    ⟨(some 200), .mov, [.t 204], none, [3]⟩,
    ⟨(some 205), (.ext 0), [.t 200], none, [4]⟩,
    ⟨(some 206), (.ext 1), [.t 200], none, [4]⟩,
    ⟨(some 21), (.alloc [(.imm (.int .i64 0)), (.imm (.int .i64 0))]), [], none, []⟩,
    ⟨none, (.store 2), [.t 21, .t 205], none, [7, 5, 3, 0, 1, 2, 3, 4, 5, 7]⟩,
    ⟨(some 22), .mov, [.t 206], none, [6, 8, 0, 1, 2, 3, 4, 5, 6, 7, 8]⟩] false)
  (.seq
   (.seq
    (.region [⟨(some 207), .mov, [.t 22], none, []⟩,
      ⟨(some 208), (.bin .neq), [.t 207, .c (.int .i64 0)], none, [0]⟩,
      ⟨(some 209), .mov, [.t 208], none, [1]⟩,
      ⟨(some 210), .mov, [.t 22], (some (209, true)), [2]⟩,
      ⟨(some 211), (.bin .neq), [.t 210, .c (.int .i64 2)], (some (209, true)), [3, 2]⟩,
      ⟨(some 212), .pick, [.t 209, .t 211, .c (.bool false)], none, [2, 4]⟩] false)
    (.cond (.t 212)
     (.seq
      (.region [⟨(some 6), .mov, [.c (.bool false)], none, []⟩] false)
      .ret)
     .skip))
   (.keep [1, 3, 5, 7, 17, 18, 21, 22] [3, 5, 7, 21] b6k6)))
def b6k8 : DCode :=
 (.region [⟨(some 180), .mov, [.t 18], none, []⟩,
   ⟨(some 181), (.bin .add), [.t 180, .c (.int .i64 1)], none, [0]⟩,
   ⟨(some 18), .mov, [.t 181], none, [1, 0, 1]⟩] false)
def b6k9 : DCode :=
 (.seq
  (.block 3
   (.seq
    (.region [⟨(some 182), (.faddr 1 false 1), [.t 5], none, []⟩,
      ⟨(some 183), (.load false 1), [.t 182], none, [0]⟩,
      ⟨(some 19), .mov, [.t 183], none, [1, 0, 1]⟩] false)
    (.seq
     (.seq
      (.region [⟨(some 20), .mov, [.c (.int .i64 0)], none, []⟩] false)
      (.block 4
       (.loop b6l1)))
     (.keep [1, 3, 5, 7, 17, 18, 19] [3, 5, 7] b6k7))))
  (.keep [1, 3, 5, 7, 17, 18] [3, 5, 7] b6k8))
def b6l2 : DCode := .keep [1, 3, 5, 7, 17, 18] [3, 5, 7]
  (.seq
   (.seq
    (.region [⟨(some 175), .mov, [.t 18], none, []⟩,
      ⟨(some 176), (.faddr 0 false 1), [.t 5], none, []⟩,
      ⟨(some 177), (.load false 1), [.t 176], none, [1]⟩,
      ⟨(some 178), .len, [.t 177], none, [2]⟩,
      ⟨(some 179), (.bin .lss), [.t 175, .t 178], none, [0, 3]⟩] false)
    (.cond (.t 179)
     .skip
     (.exit 2)))
   (.keep [1, 3, 5, 7, 17, 18] [3, 5, 7] b6k9))
def b6k10 : DCode :=
 (.seq
  (.region [⟨(some 242), .mov, [.t 17], none, []⟩,
    ⟨(some 243), (.faddr 1 false 1), [.t 5], none, []⟩,
    ⟨(some 244), (.load false 1), [.t 243], none, [1]⟩,
    ⟨(some 245), (.faddr 0 false 1), [.t 7], none, []⟩,
    ⟨(some 246), (.load false 1), [.t 245], none, [3]⟩,
    ⟨(some 247), (.faddr 1 false 1), [.t 7], none, []⟩,
    ⟨(some 248), (.load false 1), [.t 247], none, [5]⟩,
    ⟨(some 249), .call, [.f 15, .t 244, .t 246, .t 248], none, [2, 4, 6]⟩,
    ⟨(some 250), (.beq false), [.t 242, .t 249], none, [0, 7]⟩,
    ⟨(some 6), .mov, [.t 250], none, [8, 7, 0, 1, 2, 3, 4, 5, 6, 7, 8]⟩] false)
  .ret)
def b6k11 : DCode :=
 (.seq
  (.region [⟨(some 17), .mov, [.c (.bool true)], none, []⟩] false)
  (.seq
   (.seq
    (.region [⟨(some 18), .mov, [.c (.int .i64 0)], none, []⟩] false)
    (.block 2
     (.loop b6l2)))
   (.keep [5, 7, 17] [5, 7] b6k10)))
def b6k12 : DCode :=
 (.seq
  (.seq
   (.region [⟨(some 166), .mov, [.t 10], none, []⟩,
     ⟨(some 167), (.bin .neq), [.t 166, .c (.int .i64 12)], none, [0]⟩,
     ⟨(some 168), .mov, [.t 167], none, [1]⟩,
     ⟨(some 169), (.faddr 0 false 1), [.t 7], (some (168, false)), [2]⟩,
     ⟨(some 170), (.load false 1), [.t 169], (some (168, false)), [3, 2]⟩,
     ⟨(some 171), (.faddr 1 false 1), [.t 7], (some (168, false)), [2]⟩,
     ⟨(some 172), (.load false 1), [.t 171], (some (168, false)), [5, 2]⟩,
     ⟨(some 173), (.bin .gtr), [.t 170, .t 172], (some (168, false)), [4, 6, 2]⟩,
     ⟨(some 174), .pick, [.t 168, .c (.bool true), .t 173], none, [2, 7]⟩] false)
   (.cond (.t 174)
    (.seq
     (.region [⟨(some 6), .mov, [.c (.bool false)], none, []⟩] false)
     .ret)
    .skip))
  (.keep [1, 3, 5, 7] [3, 5, 7] b6k11))
def b6k13 : DCode :=
 (.seq
  (.region [⟨(some 54), (.load true 1), [.t 3], none, []⟩,
    ⟨(some 55), .call, [.f 28, .t 54], none, [0]⟩,
    ⟨(some 56), .movv, [.t 1], none, []⟩,
    ⟨(some 57), .call, [.f 29, .t 56], none, [2, 1]⟩,
    ⟨(some 58), (.faddr 0 false 1), [.t 5], none, []⟩,
    ⟨(some 59), (.load false 1), [.t 58], none, [4]⟩,
    ⟨(some 60), .call, [.f 30, .t 59], none, [5, 3]⟩,
    ⟨(some 61), .call, [.f 27, .t 55, .t 57, .t 60], none, [1, 3, 6, 6]⟩,
    ⟨(some 53), .mov, [.t 61], none, [7]⟩,
    ⟨(some 62), (.ext 0), [.t 53], none, [8]⟩,
    ⟨(some 63), (.ext 1), [.t 53], none, [8]⟩,
    ⟨(some 7), (.alloc [(.imm (.int .i64 0)), (.imm (.int .i64 0))]), [], none, []⟩,
    ⟨none, (.store 2), [.t 7, .t 62], none, [11, 9, 7, 0, 1, 2, 3, 4, 5, 6, 7, 8, 9, 11]⟩,
    ⟨(some 8), .mov, [.t 63], none, [10, 12, 0, 1, 2, 3, 4, 5, 6, 7, 8, 9, 10, 11, 12]⟩] true)
  (.seq
   (.region [⟨(some 65), (.load true 1), [.t 3], none, []⟩,
     ⟨(some 66), .call, [.f 28, .t 65], none, [0]⟩,
     ⟨(some 67), .movv, [.t 1], none, []⟩,
     ⟨(some 68), .call, [.f 29, .t 67], none, [2, 1]⟩,
     ⟨(some 69), (.faddr 0 false 1), [.t 5], none, []⟩,
     ⟨(some 70), (.load false 1), [.t 69], none, [4]⟩,
     ⟨(some 71), .call, [.f 30, .t 70], none, [5, 3]⟩,
     ⟨(some 72), .call, [.f 31, .t 66, .t 68, .t 71], none, [1, 3, 6, 6]⟩,
     ⟨(some 64), .mov, [.t 72], none, [7]⟩,
     ⟨(some 73), (.ext 0), [.t 64], none, [8]⟩,
     ⟨(some 74), (.ext 1), [.t 64], none, [8]⟩,
     ⟨(some 9), .movv, [.t 73], none, [9, 7, 0, 1, 2, 3, 4, 5, 6, 7, 8, 9]⟩,
     ⟨(some 10), .mov, [.t 74], none, [10, 11, 0, 1, 2, 3, 4, 5, 6, 7, 8, 9, 10, 11]⟩] true)
   (.seq
    (.seq
     (.region [⟨(some 75), .mov, [.t 8], none, []⟩,
       ⟨(some 76), (.bin .neq), [.t 75, .c (.int .i64 0)], none, [0]⟩] false)
     (.cond (.t 76)
      (.seq
       (.seq
        (.region [⟨(some 77), .mov, [.t 8], none, []⟩,
          ⟨(some 78), (.bin .neq), [.t 77, .c (.int .i64 13)], none, [0]⟩,
          ⟨(some 79), .mov, [.t 78], none, [1]⟩,
          ⟨(some 80), .mov, [.t 10], (some (79, false)), [2]⟩,
          ⟨(some 81), (.bin .neq), [.t 80, .c (.int .i64 0)], (some (79, false)), [3, 2]⟩,
          ⟨(some 82), .pick, [.t 79, .c (.bool true), .t 81], none, [2, 4]⟩,
          ⟨(some 83), .mov, [.t 82], none, [5, 2]⟩,
          ⟨(some 84), .movv, [.t 9], (some (83, false)), [6]⟩,
          ⟨(some 85), .len, [.t 84], (some (83, false)), [7, 6]⟩,
          ⟨(some 86), .call, [.f 15, .t 85, .c (.int .i64 1), .c (.int .i64 2)], (some (83, false)), [8, 6, 6]⟩,
          ⟨(some 87), (.un .not), [.t 86], (some (83, false)), [9, 6]⟩,
          ⟨(some 88), .pick, [.t 83, .c (.bool true), .t 87], none, [6, 10]⟩] false)
        (.cond (.t 88)
         (.seq
          (.region [⟨(some 6), .mov, [.c (.bool false)], none, []⟩] false)
          .ret)
         .skip))
       (.keep [1, 3, 5, 9] [3, 5] b6k4))
      .skip))
    (.keep [1, 3, 5, 7, 10] [3, 5, 7] b6k12))))
def b6k14 : DCode :=
 (.seq
  (.seq
   (.region [⟨(some 25), (.load true 1), [.t 3], none, []⟩,
     ⟨(some 26), .call, [.f 25, .t 25], none, [0]⟩,
     ⟨(some 27), (.un .not), [.t 26], none, [1]⟩,
     ⟨(some 28), .mov, [.t 27], none, [2, 1]⟩,
     ⟨(some 29), .movv, [.t 1], (some (28, false)), [3]⟩,
     ⟨(some 30), .len, [.t 29], (some (28, false)), [4, 3]⟩,
     ⟨(some 31), (.bin .gtr), [.t 30, .c (.int .i64 24)], (some (28, false)), [5, 3]⟩,
     ⟨(some 32), .pick, [.t 28, .c (.bool true), .t 31], none, [3, 6]⟩,
     ⟨(some 33), .mov, [.t 32], none, [7, 3]⟩,
     ⟨(some 34), (.faddr 0 false 1), [.t 5], (some (33, false)), [8]⟩,
     ⟨(some 35), (.load false 1), [.t 34], (some (33, false)), [9, 8]⟩,
     ⟨(some 36), .len, [.t 35], (some (33, false)), [10, 8]⟩,
     ⟨(some 37), (.bin .gtr), [.t 36, .c (.int .i64 10)], (some (33, false)), [11, 8]⟩,
     ⟨(some 38), .pick, [.t 33, .c (.bool true), .t 37], none, [8, 12]⟩,
     ⟨(some 39), .mov, [.t 38], none, [13, 8]⟩,
     ⟨(some 40), (.load true 1), [.t 3], (some (39, false)), [14]⟩,
     ⟨(some 41), .movv, [.t 1], (some (39, false)), [14]⟩,
     ⟨(some 42), (.faddr 0 false 1), [.t 5], (some (39, false)), [14]⟩,
     ⟨(some 43), (.load false 1), [.t 42], (some (39, false)), [17, 14]⟩,
     ⟨(some 44), .call, [.f 32, .t 40, .t 41, .t 43], (some (39, false)), [15, 16, 18, 14, 14]⟩,
     ⟨(some 45), (.bin .neq), [.t 44, .c (.int .i64 0)], (some (39, false)), [19, 14]⟩,
     ⟨(some 46), .pick, [.t 39, .c (.bool true), .t 45], none, [14, 20]⟩,
     ⟨(some 47), .mov, [.t 46], none, [21, 19]⟩,
     ⟨(some 48), (.faddr 1 false 1), [.t 5], (some (47, false)), [22]⟩,
     ⟨(some 49), (.load false 1), [.t 48], (some (47, false)), [23, 22]⟩,
     ⟨(some 50), .call, [.f 15, .t 49, .c (.int .i64 (-1000000000)), .c (.int .i64 2000000000)], (some (47, false)), [24, 22, 22]⟩,
     ⟨(some 51), (.un .not), [.t 50], (some (47, false)), [25, 22]⟩,
     ⟨(some 52), .pick, [.t 47, .c (.bool true), .t 51], none, [22, 26]⟩] false)
   (.cond (.t 52)
    (.seq
     (.region [⟨(some 6), .mov, [.c (.bool true)], none, []⟩] false)
     .ret)
    .skip))
  (.keep [1, 3, 5] [3, 5] b6k13))
def b6 : DCode :=
 (.seq
  (.region [⟨(some 3), .box, [.t 0], none, []⟩,
    ⟨(some 5), .box, [.t 2], none, []⟩,
    ⟨(some 6), .mov, [.c (.bool false)], none, []⟩] false)
  (.seq
   (.seq
    (.region [⟨(some 23), .call, [.f 12], none, []⟩,
      ⟨(some 24), (.un .not), [.t 23], none, [0]⟩] false)
    (.cond (.t 24)
     (.seq
      (.region [⟨(some 6), .mov, [.c (.bool false)], none, []⟩] false)
      .ret)
     .skip))
   (.keep [1, 3, 5] [3, 5] b6k14)))
def d6 : DFn := ⟨3, 251, [.tmp 6], b6⟩
theorem body6 : d6.body = b6 := rfl
theorem res6 : d6.res = [.tmp 6] := rfl
theorem k6 : chkFn Try.prog Try.f6 d6 = true := by kernel_rfl

end Go.DI

