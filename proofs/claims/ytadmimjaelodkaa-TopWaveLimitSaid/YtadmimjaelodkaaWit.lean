/- The functions of the statement about closings, as data. No condition. -/
import Derived.Test.YtadmimjaelodkaaWeGe
import Derived.Test.YtadmimjaelodkaaProg
import Derived.KernelRfl
namespace Go.DI
open Go.Proofs Go.RowKit
/-- guidevane/guidevanetop.waveShown -/
def b54 : DCode :=
 (.seq
  (.region [⟨(some 0), .mov, [.c (.bool false)], none, []⟩] false)
  (.seq
   (.region [⟨(some 6), .call, [.f 86], none, []⟩,
     ⟨(some 7), (.bsl 1), [.c (.int .i64 5)], none, []⟩,
     ⟨(some 8), .call, [.f 39, .t 6, .t 7, .c (.int .i64 5)], none, [0, 1, 0]⟩,
     ⟨(some 5), .mov, [.t 8], none, [2]⟩,
     ⟨(some 9), (.ext 0), [.t 5], none, [3]⟩,
     ⟨(some 10), (.ext 1), [.t 5], none, [3]⟩,
     ⟨(some 1), .movv, [.t 9], none, [4, 2, 0, 1, 2, 3, 4]⟩,
     ⟨(some 2), .mov, [.t 10], none, [5, 6, 0, 1, 2, 3, 4, 5, 6]⟩] false)
   (.seq
    (.region [⟨(some 12), .call, [.f 87], none, []⟩,
      ⟨(some 13), .call, [.f 43, .t 12, .c (.int .i64 1)], none, [0, 0]⟩,
      ⟨(some 11), .mov, [.t 13], none, [1]⟩,
      ⟨(some 14), (.ext 0), [.t 11], none, [2]⟩,
      ⟨(some 15), (.ext 1), [.t 11], none, [2]⟩,
      ⟨(some 3), (.alloc [(.imm (.int .i64 0)), (.imm (.int .i64 0)), (.imm (.int .i64 0)), (.imm (.int .i64 0))]), [], none, []⟩,
      ⟨none, (.store 4), [.t 3, .t 14], none, [5, 3, 1, 0, 1, 2, 3, 5]⟩,
      ⟨(some 4), .mov, [.t 15], none, [4, 6, 0, 1, 2, 3, 4, 5, 6]⟩] false)
    (.seq
     (.region [⟨(some 16), .mov, [.t 2], none, []⟩,
       ⟨(some 17), (.bin .eql), [.t 16, .c (.int .i64 0)], none, [0]⟩,
       ⟨(some 18), .mov, [.t 17], none, [1]⟩,
       ⟨(some 19), .movv, [.t 1], (some (18, true)), [2]⟩,
       ⟨(some 20), (.bsl 1), [.c (.int .i64 5), .c (.int .i64 5), .c (.int .i64 5), .c (.int .i64 5), .c (.int .i64 (-5))], (some (18, true)), [2]⟩,
       ⟨(some 21), .call, [.f 45, .t 19, .t 20], (some (18, true)), [3, 4, 2, 2]⟩,
       ⟨(some 22), .pick, [.t 18, .t 21, .c (.bool false)], none, [2, 5]⟩,
       ⟨(some 23), .mov, [.t 22], none, [6, 5]⟩,
       ⟨(some 24), .mov, [.t 4], (some (23, true)), [7]⟩,
       ⟨(some 25), (.bin .eql), [.t 24, .c (.int .i64 0)], (some (23, true)), [8, 7]⟩,
       ⟨(some 26), .pick, [.t 23, .t 25, .c (.bool false)], none, [7, 9]⟩,
       ⟨(some 27), .mov, [.t 26], none, [10, 7]⟩,
       ⟨(some 28), (.load true 4), [.t 3], (some (27, true)), [11]⟩,
       ⟨(some 29), (.build [(.imm (.int .i64 0)), (.imm (.int .i64 0))] [(0, 1), (1, 1)]), [.c (.int .i64 (-2)), .c (.int .i64 (-2))], (some (27, true)), [11]⟩,
       ⟨(some 30), (.build [(.imm (.int .i64 0)), (.imm (.int .i64 0))] [(0, 1)]), [.c (.int .i64 9)], (some (27, true)), [11]⟩,
       ⟨(some 31), (.build [(.imm (.int .i64 0)), (.imm (.int .i64 0)), (.imm (.int .i64 0)), (.imm (.int .i64 0))] [(0, 2), (2, 2)]), [.t 29, .t 30], (some (27, true)), [13, 14, 11]⟩,
       ⟨(some 32), (.eqs [false, false, false, false] false), [.t 28, .t 31], (some (27, true)), [12, 15, 11]⟩,
       ⟨(some 33), .pick, [.t 27, .t 32, .c (.bool false)], none, [11, 16]⟩,
       ⟨(some 0), .mov, [.t 33], none, [17, 11, 0, 1, 2, 3, 4, 5, 6, 7, 8, 9, 10, 11, 12, 13, 14, 15, 16, 17]⟩] false)
     .ret))))
def d54 : DFn := ⟨0, 34, [.tmp 0], b54⟩
theorem body54 : d54.body = b54 := rfl
theorem res54 : d54.res = [.tmp 0] := rfl
theorem k54 : chkFn Try.prog Try.f54 d54 = true := by kernel_rfl

/-- guidevane/guidevanetop.TopWaveLimit -/
def b8k0 : DCode :=
 (.region [⟨(some 196), .mov, [.t 17], none, []⟩,
   ⟨(some 197), (.bin .add), [.t 196, .c (.int .i64 1)], none, [0]⟩,
   ⟨(some 17), .mov, [.t 197], none, [1, 0, 1]⟩] false)
def b8k1 : DCode :=
 (.seq
  (.block 1
   (.seq
    (.region [⟨(some 198), .movv, [.t 15], none, []⟩,
      ⟨(some 199), .mov, [.t 17], none, []⟩,
      ⟨(some 200), (.iaddr 1), [.t 198, .t 199], none, [0, 1]⟩,
      ⟨(some 201), (.load false 1), [.t 200], none, [2]⟩,
      ⟨(some 202), (.faddr 3 true 2), [.t 4], none, []⟩,
      ⟨(some 203), (.faddr 0 false 1), [.t 202], none, [4]⟩,
      ⟨(some 204), (.load false 1), [.t 203], none, [5]⟩,
      ⟨(some 205), (.faddr 3 true 2), [.t 4], none, []⟩,
      ⟨(some 206), (.faddr 1 false 1), [.t 205], none, [7]⟩,
      ⟨(some 207), (.load false 1), [.t 206], none, [8]⟩,
      ⟨(some 208), .call, [.f 34, .t 201, .t 204, .t 207], none, [3, 6, 9]⟩,
      ⟨(some 209), (.un .not), [.t 208], none, [10]⟩] true)
    (.cond (.t 209)
     (.seq
      (.region [⟨(some 6), .mov, [.c (.bool false)], none, []⟩] false)
      .ret)
     .skip)))
  (.keep [3, 4, 8, 15, 17] [3, 4] b8k0))
def b8l0 : DCode := .keep [3, 4, 8, 15, 17] [3, 4]
  (.seq
   (.seq
    (.region [⟨(some 192), .mov, [.t 17], none, []⟩,
      ⟨(some 193), .movv, [.t 15], none, []⟩,
      ⟨(some 194), .len, [.t 193], none, [1]⟩,
      ⟨(some 195), (.bin .lss), [.t 192, .t 194], none, [0, 2]⟩] false)
    (.cond (.t 195)
     .skip
     (.exit 0)))
   (.keep [3, 4, 8, 15, 17] [3, 4] b8k1))
def b8k2 : DCode :=
 (.seq
  (.region [⟨(some 243), (.load true 2), [.t 3], none, []⟩,
    ⟨(some 244), .call, [.f 32, .t 243], none, [0]⟩,
    ⟨(some 245), (.un .not), [.t 244], none, [1]⟩,
    ⟨(some 246), .mov, [.t 245], none, [2, 1]⟩,
    ⟨(some 247), (.faddr 0 false 1), [.t 18], (some (246, false)), [3]⟩,
    ⟨(some 248), (.load false 1), [.t 247], (some (246, false)), [4, 3]⟩,
    ⟨(some 249), (.faddr 0 false 1), [.t 4], (some (246, false)), [3]⟩,
    ⟨(some 250), (.load false 1), [.t 249], (some (246, false)), [6, 3]⟩,
    ⟨(some 251), (.bin .mul), [.c (.int .i64 2), .t 250], (some (246, false)), [7, 3]⟩,
    ⟨(some 252), (.bin .leq), [.t 248, .t 251], (some (246, false)), [5, 8, 3]⟩,
    ⟨(some 253), .mov, [.t 252], (some (246, false)), [9, 3, 3]⟩,
    ⟨(some 254), (.faddr 0 false 1), [.t 20], (some (253, true)), [10]⟩,
    ⟨(some 255), (.load false 1), [.t 254], (some (253, true)), [11, 10]⟩,
    ⟨(some 256), (.faddr 0 false 1), [.t 4], (some (253, true)), [10]⟩,
    ⟨(some 257), (.load false 1), [.t 256], (some (253, true)), [13, 10]⟩,
    ⟨(some 258), (.bin .mul), [.c (.int .i64 (-2)), .t 257], (some (253, true)), [14, 10]⟩,
    ⟨(some 259), (.bin .geq), [.t 255, .t 258], (some (253, true)), [12, 15, 10]⟩,
    ⟨(some 260), .pick, [.t 253, .t 259, .c (.bool false)], (some (246, false)), [10, 16, 3]⟩,
    ⟨(some 261), .pick, [.t 246, .c (.bool true), .t 260], none, [3, 17]⟩,
    ⟨(some 6), .mov, [.t 261], none, [18, 10, 0, 1, 2, 3, 4, 5, 6, 7, 8, 9, 10, 11, 12, 13, 14, 15, 16, 17, 18]⟩] false)
  .ret)
def b8k3 : DCode :=
 (.seq
  (.region [⟨(some 211), (.load true 2), [.t 3], none, []⟩,
    ⟨(some 212), .call, [.f 22, .t 211], none, [0]⟩,
    ⟨(some 213), .movv, [.t 8], none, []⟩,
    ⟨(some 214), .call, [.f 24, .t 213], none, [2, 1]⟩,
    ⟨(some 215), (.faddr 2 false 1), [.t 4], none, []⟩,
    ⟨(some 216), (.load false 1), [.t 215], none, [4]⟩,
    ⟨(some 217), .call, [.f 57, .t 212, .t 214, .t 216], none, [1, 3, 5, 3]⟩,
    ⟨(some 210), .mov, [.t 217], none, [6]⟩,
    ⟨(some 218), (.ext 0), [.t 210], none, [7]⟩,
    ⟨(some 219), (.ext 1), [.t 210], none, [7]⟩,
    ⟨(some 18), (.alloc [(.imm (.int .i64 0)), (.imm (.int .i64 0)), (.imm (.int .i64 0))]), [], none, []⟩,
    ⟨none, (.store 3), [.t 18, .t 218], none, [10, 8, 6, 0, 1, 2, 3, 4, 5, 6, 7, 8, 10]⟩,
    ⟨(some 19), .mov, [.t 219], none, [9, 11, 0, 1, 2, 3, 4, 5, 6, 7, 8, 9, 10, 11]⟩] true)
  (.seq
   (.region [⟨(some 221), (.load true 2), [.t 3], none, []⟩,
     ⟨(some 222), .call, [.f 22, .t 221], none, [0]⟩,
     ⟨(some 223), .movv, [.t 8], none, []⟩,
     ⟨(some 224), .call, [.f 24, .t 223], none, [2, 1]⟩,
     ⟨(some 225), (.faddr 2 false 1), [.t 4], none, []⟩,
     ⟨(some 226), (.load false 1), [.t 225], none, [4]⟩,
     ⟨(some 227), .call, [.f 58, .t 222, .t 224, .t 226], none, [1, 3, 5, 3]⟩,
     ⟨(some 220), .mov, [.t 227], none, [6]⟩,
     ⟨(some 228), (.ext 0), [.t 220], none, [7]⟩,
     ⟨(some 229), (.ext 1), [.t 220], none, [7]⟩,
     ⟨(some 20), (.alloc [(.imm (.int .i64 0)), (.imm (.int .i64 0)), (.imm (.int .i64 0))]), [], none, []⟩,
     ⟨none, (.store 3), [.t 20, .t 228], none, [10, 8, 6, 0, 1, 2, 3, 4, 5, 6, 7, 8, 10]⟩,
     ⟨(some 21), .mov, [.t 229], none, [9, 11, 0, 1, 2, 3, 4, 5, 6, 7, 8, 9, 10, 11]⟩] true)
   (.seq
    (.seq
     (.region [⟨(some 230), .mov, [.t 19], none, []⟩,
       ⟨(some 231), (.bin .neq), [.t 230, .c (.int .i64 0)], none, [0]⟩,
       ⟨(some 232), .mov, [.t 231], none, [1]⟩,
       ⟨(some 233), .mov, [.t 21], (some (232, false)), [2]⟩,
       ⟨(some 234), (.bin .neq), [.t 233, .c (.int .i64 0)], (some (232, false)), [3, 2]⟩,
       ⟨(some 235), .pick, [.t 232, .c (.bool true), .t 234], none, [2, 4]⟩,
       ⟨(some 236), .mov, [.t 235], none, [5, 2]⟩,
       ⟨(some 237), (.faddr 0 false 1), [.t 20], (some (236, false)), [6]⟩,
       ⟨(some 238), (.load false 1), [.t 237], (some (236, false)), [7, 6]⟩,
       ⟨(some 239), (.faddr 0 false 1), [.t 18], (some (236, false)), [6]⟩,
       ⟨(some 240), (.load false 1), [.t 239], (some (236, false)), [9, 6]⟩,
       ⟨(some 241), (.bin .gtr), [.t 238, .t 240], (some (236, false)), [8, 10, 6]⟩,
       ⟨(some 242), .pick, [.t 236, .c (.bool true), .t 241], none, [6, 11]⟩] false)
     (.cond (.t 242)
      (.seq
       (.region [⟨(some 6), .mov, [.c (.bool false)], none, []⟩] false)
       .ret)
      .skip))
    (.keep [3, 4, 18, 20] [3, 4, 18, 20] b8k2))))
def b8k4 : DCode :=
 (.seq
  (.seq
   (.region [⟨(some 17), .mov, [.c (.int .i64 0)], none, []⟩] false)
   (.block 0
    (.loop b8l0)))
  (.keep [3, 4, 8] [3, 4] b8k3))
def b8k5 : DCode :=
 (.seq
  (.region [⟨(some 174), (.load true 2), [.t 3], none, []⟩,
    ⟨(some 175), .call, [.f 22, .t 174], none, [0]⟩,
    ⟨(some 176), .movv, [.t 8], none, []⟩,
    ⟨(some 177), .call, [.f 24, .t 176], none, [2, 1]⟩,
    ⟨(some 178), (.faddr 2 false 1), [.t 4], none, []⟩,
    ⟨(some 179), (.load false 1), [.t 178], none, [4]⟩,
    ⟨(some 180), .call, [.f 39, .t 175, .t 177, .t 179], none, [1, 3, 5, 3]⟩,
    ⟨(some 173), .mov, [.t 180], none, [6]⟩,
    ⟨(some 181), (.ext 0), [.t 173], none, [7]⟩,
    ⟨(some 182), (.ext 1), [.t 173], none, [7]⟩,
    ⟨(some 15), .movv, [.t 181], none, [8, 6, 0, 1, 2, 3, 4, 5, 6, 7, 8]⟩,
    ⟨(some 16), .mov, [.t 182], none, [9, 10, 0, 1, 2, 3, 4, 5, 6, 7, 8, 9, 10]⟩] true)
  (.seq
   (.seq
    (.region [⟨(some 183), .mov, [.t 16], none, []⟩,
      ⟨(some 184), (.bin .neq), [.t 183, .c (.int .i64 0)], none, [0]⟩,
      ⟨(some 185), .mov, [.t 184], none, [1]⟩,
      ⟨(some 186), .movv, [.t 15], (some (185, false)), [2]⟩,
      ⟨(some 187), .len, [.t 186], (some (185, false)), [3, 2]⟩,
      ⟨(some 188), (.faddr 2 false 1), [.t 4], (some (185, false)), [2]⟩,
      ⟨(some 189), (.load false 1), [.t 188], (some (185, false)), [5, 2]⟩,
      ⟨(some 190), (.bin .neq), [.t 187, .t 189], (some (185, false)), [4, 6, 2]⟩,
      ⟨(some 191), .pick, [.t 185, .c (.bool true), .t 190], none, [2, 7]⟩] false)
    (.cond (.t 191)
     (.seq
      (.region [⟨(some 6), .mov, [.c (.bool false)], none, []⟩] false)
      .ret)
     .skip))
   (.keep [3, 4, 8, 15] [3, 4] b8k4)))
def b8k6 : DCode :=
 (.seq
  (.seq
   (.region [⟨(some 163), .movv, [.t 8], none, []⟩,
     ⟨(some 164), .call, [.f 38, .t 163], none, [0]⟩,
     ⟨(some 165), (.bin .neq), [.t 164, .c (.int .i64 0)], none, [1]⟩,
     ⟨(some 166), .mov, [.t 165], none, [2, 1]⟩,
     ⟨(some 167), .movv, [.t 8], (some (166, false)), [3]⟩,
     ⟨(some 168), .len, [.t 167], (some (166, false)), [4, 3]⟩,
     ⟨(some 169), (.faddr 1 false 1), [.t 4], (some (166, false)), [3]⟩,
     ⟨(some 170), (.load false 1), [.t 169], (some (166, false)), [6, 3]⟩,
     ⟨(some 171), (.bin .gtr), [.t 168, .t 170], (some (166, false)), [5, 7, 3]⟩,
     ⟨(some 172), .pick, [.t 166, .c (.bool true), .t 171], none, [3, 8]⟩] false)
   (.cond (.t 172)
    (.seq
     (.region [⟨(some 6), .mov, [.c (.bool false)], none, []⟩] false)
     .ret)
    .skip))
  (.keep [3, 4, 8] [3, 4] b8k5))
def b8k7 : DCode :=
 (.seq
  (.seq
   (.region [⟨(some 161), .mov, [.t 9], none, []⟩,
     ⟨(some 162), (.bin .neq), [.t 161, .c (.int .i64 0)], none, [0]⟩] false)
   (.cond (.t 162)
    (.seq
     (.region [⟨(some 6), .mov, [.c (.bool true)], none, []⟩] false)
     .ret)
    .skip))
  (.keep [3, 4, 8] [3, 4] b8k6))
def b8k8 : DCode :=
 (.seq
  (.seq
   (.region [⟨(some 134), (.load true 2), [.t 3], none, []⟩,
     ⟨(some 135), .call, [.f 32, .t 134], none, [0]⟩] false)
   (.cond (.t 135)
    (.seq
     (.region [⟨(some 136), (.load true 5), [.t 4], none, []⟩,
       ⟨(some 12), (.alloc [(.imm (.int .i64 0)), (.imm (.int .i64 0)), (.imm (.int .i64 0)), (.imm (.int .i64 0)), (.imm (.int .i64 0))]), [], none, []⟩,
       ⟨none, (.store 5), [.t 12, .t 136], none, [1, 0, 0, 1]⟩] false)
     (.seq
      (.region [⟨(some 137), (.faddr 0 false 1), [.t 4], none, []⟩,
        ⟨(some 138), (.load false 1), [.t 137], none, [0]⟩,
        ⟨(some 139), (.un .neg), [.t 138], none, [1]⟩,
        ⟨(some 140), (.faddr 0 false 1), [.t 4], none, []⟩,
        ⟨(some 141), (.load false 1), [.t 140], none, [3]⟩,
        ⟨(some 142), (.build [(.imm (.int .i64 0)), (.imm (.int .i64 0))] [(0, 1), (1, 1)]), [.t 139, .t 141], none, [2, 4]⟩,
        ⟨(some 143), (.faddr 3 true 2), [.t 12], none, [0, 1, 2, 3, 4, 5]⟩,
        ⟨none, (.store 2), [.t 143, .t 142], none, [6, 5, 0, 1, 2, 3, 4, 5]⟩] false)
      (.seq
       (.region [⟨(some 145), (.load true 2), [.t 3], none, []⟩,
         ⟨(some 146), .call, [.f 22, .t 145], none, [0]⟩,
         ⟨(some 147), (.load true 5), [.t 12], none, []⟩,
         ⟨(some 148), .call, [.f 56, .t 146, .t 147], none, [1, 2, 1]⟩,
         ⟨(some 144), .mov, [.t 148], none, [3]⟩,
         ⟨(some 149), (.ext 0), [.t 144], none, [4]⟩,
         ⟨(some 150), (.ext 1), [.t 144], none, [4]⟩,
         ⟨(some 13), .movv, [.t 149], none, [5, 3, 0, 1, 2, 3, 4, 5]⟩,
         ⟨(some 14), .mov, [.t 150], none, [6, 7, 0, 1, 2, 3, 4, 5, 6, 7]⟩] true)
       (.seq
        (.region [⟨(some 151), .mov, [.t 14], none, []⟩,
          ⟨(some 152), (.bin .neq), [.t 151, .c (.int .i64 0)], none, [0]⟩,
          ⟨(some 153), .mov, [.t 152], none, [1]⟩,
          ⟨(some 154), .movv, [.t 13], (some (153, false)), [2]⟩,
          ⟨(some 155), (.faddr 0 false 1), [.t 4], (some (153, false)), [2]⟩,
          ⟨(some 156), (.load false 1), [.t 155], (some (153, false)), [4, 2]⟩,
          ⟨(some 157), (.bsl 1), [.t 156], (some (153, false)), [5, 2]⟩,
          ⟨(some 158), .call, [.f 45, .t 154, .t 157], (some (153, false)), [3, 6, 2, 2]⟩,
          ⟨(some 159), (.un .not), [.t 158], (some (153, false)), [7, 2]⟩,
          ⟨(some 160), .pick, [.t 153, .c (.bool true), .t 159], none, [2, 8]⟩] false)
        (.cond (.t 160)
         (.seq
          (.region [⟨(some 6), .mov, [.c (.bool false)], none, []⟩] false)
          .ret)
         .skip)))))
    .skip))
  (.keep [3, 4, 8, 9] [3, 4] b8k7))
def b8k9 : DCode :=
 (.seq
  (.region [⟨(some 78), (.load true 5), [.t 4], none, []⟩,
    ⟨(some 7), (.alloc [(.imm (.int .i64 0)), (.imm (.int .i64 0)), (.imm (.int .i64 0)), (.imm (.int .i64 0)), (.imm (.int .i64 0))]), [], none, []⟩,
    ⟨none, (.store 5), [.t 7, .t 78], none, [1, 0, 0, 1]⟩] false)
  (.seq
   (.region [⟨(some 79), (.faddr 3 true 2), [.t 4], none, []⟩,
     ⟨(some 80), (.faddr 0 false 1), [.t 79], none, [0]⟩,
     ⟨(some 81), (.load false 1), [.t 80], none, [1]⟩,
     ⟨(some 82), .mov, [.t 2], none, []⟩,
     ⟨(some 83), (.bin .sub), [.t 81, .t 82], none, [2, 3]⟩,
     ⟨(some 84), (.faddr 3 true 2), [.t 4], none, []⟩,
     ⟨(some 85), (.faddr 1 false 1), [.t 84], none, [5]⟩,
     ⟨(some 86), (.load false 1), [.t 85], none, [6]⟩,
     ⟨(some 87), .mov, [.t 2], none, []⟩,
     ⟨(some 88), (.bin .add), [.t 86, .t 87], none, [7, 8]⟩,
     ⟨(some 89), (.build [(.imm (.int .i64 0)), (.imm (.int .i64 0))] [(0, 1), (1, 1)]), [.t 83, .t 88], none, [4, 9]⟩,
     ⟨(some 90), (.faddr 3 true 2), [.t 7], none, [0, 1, 2, 3, 4, 5, 6, 7, 8, 9, 10]⟩,
     ⟨none, (.store 2), [.t 90, .t 89], none, [11, 10, 0, 1, 2, 3, 4, 5, 6, 7, 8, 9, 10]⟩] false)
   (.seq
    (.region [⟨(some 92), (.load true 2), [.t 3], none, []⟩,
      ⟨(some 93), .call, [.f 22, .t 92], none, [0]⟩,
      ⟨(some 94), (.load true 5), [.t 4], none, []⟩,
      ⟨(some 95), .call, [.f 56, .t 93, .t 94], none, [1, 2, 1]⟩,
      ⟨(some 91), .mov, [.t 95], none, [3]⟩,
      ⟨(some 96), (.ext 0), [.t 91], none, [4]⟩,
      ⟨(some 97), (.ext 1), [.t 91], none, [4]⟩,
      ⟨(some 8), .movv, [.t 96], none, [5, 3, 0, 1, 2, 3, 4, 5]⟩,
      ⟨(some 9), .mov, [.t 97], none, [6, 7, 0, 1, 2, 3, 4, 5, 6, 7]⟩] true)
    (.seq
     (.region [⟨(some 99), (.load true 2), [.t 3], none, []⟩,
       ⟨(some 100), .call, [.f 22, .t 99], none, [0]⟩,
       ⟨(some 101), (.load true 5), [.t 7], none, []⟩,
       ⟨(some 102), .call, [.f 56, .t 100, .t 101], none, [1, 2, 1]⟩,
       ⟨(some 98), .mov, [.t 102], none, [3]⟩,
       ⟨(some 103), (.ext 0), [.t 98], none, [4]⟩,
       ⟨(some 104), (.ext 1), [.t 98], none, [4]⟩,
       ⟨(some 10), .movv, [.t 103], none, [5, 3, 0, 1, 2, 3, 4, 5]⟩,
       ⟨(some 11), .mov, [.t 104], none, [6, 7, 0, 1, 2, 3, 4, 5, 6, 7]⟩] true)
     (.seq
      (.seq
       (.region [⟨(some 105), .mov, [.t 9], none, []⟩,
         ⟨(some 106), (.bin .eql), [.t 105, .c (.int .i64 0)], none, [0]⟩,
         ⟨(some 107), .mov, [.t 106], none, [1]⟩,
         ⟨(some 108), .mov, [.t 11], (some (107, true)), [2]⟩,
         ⟨(some 109), (.bin .neq), [.t 108, .c (.int .i64 0)], (some (107, true)), [3, 2]⟩,
         ⟨(some 110), .mov, [.t 109], (some (107, true)), [4, 2, 2]⟩,
         ⟨(some 111), .movv, [.t 10], (some (110, false)), [5]⟩,
         ⟨(some 112), .len, [.t 111], (some (110, false)), [6, 5]⟩,
         ⟨(some 113), .movv, [.t 8], (some (110, false)), [5]⟩,
         ⟨(some 114), .len, [.t 113], (some (110, false)), [8, 5]⟩,
         ⟨(some 115), (.bin .gtr), [.t 112, .t 114], (some (110, false)), [7, 9, 5]⟩,
         ⟨(some 116), .pick, [.t 110, .c (.bool true), .t 115], (some (107, true)), [5, 10, 2]⟩,
         ⟨(some 117), .pick, [.t 107, .t 116, .c (.bool false)], none, [2, 11]⟩,
         ⟨(some 118), .mov, [.t 117], none, [12, 5]⟩,
         ⟨(some 119), .mov, [.t 9], (some (118, false)), [13]⟩,
         ⟨(some 120), (.bin .neq), [.t 119, .c (.int .i64 0)], (some (118, false)), [14, 13]⟩,
         ⟨(some 121), .mov, [.t 120], (some (118, false)), [15, 13, 13]⟩,
         ⟨(some 122), .mov, [.t 9], (some (121, true)), [16]⟩,
         ⟨(some 123), (.bin .neq), [.t 122, .c (.int .i64 12)], (some (121, true)), [17, 16]⟩,
         ⟨(some 124), .pick, [.t 121, .t 123, .c (.bool false)], (some (118, false)), [16, 18, 13]⟩,
         ⟨(some 125), .pick, [.t 118, .c (.bool true), .t 124], none, [13, 19]⟩,
         ⟨(some 126), .mov, [.t 125], none, [20, 16]⟩,
         ⟨(some 127), .mov, [.t 11], (some (126, false)), [21]⟩,
         ⟨(some 128), (.bin .neq), [.t 127, .c (.int .i64 0)], (some (126, false)), [22, 21]⟩,
         ⟨(some 129), .mov, [.t 128], (some (126, false)), [23, 21, 21]⟩,
         ⟨(some 130), .mov, [.t 11], (some (129, true)), [24]⟩,
         ⟨(some 131), (.bin .neq), [.t 130, .c (.int .i64 12)], (some (129, true)), [25, 24]⟩,
         ⟨(some 132), .pick, [.t 129, .t 131, .c (.bool false)], (some (126, false)), [24, 26, 21]⟩,
         ⟨(some 133), .pick, [.t 126, .c (.bool true), .t 132], none, [21, 27]⟩] false)
       (.cond (.t 133)
        (.seq
         (.region [⟨(some 6), .mov, [.c (.bool false)], none, []⟩] false)
         .ret)
        .skip))
      (.keep [3, 4, 8, 9] [3, 4] b8k8))))))
def b8k10 : DCode :=
 (.seq
  (.seq
   (.region [⟨(some 24), (.faddr 0 false 1), [.t 3], none, []⟩,
     ⟨(some 25), (.load false 1), [.t 24], none, [0]⟩,
     ⟨(some 26), .len, [.t 25], none, [1]⟩,
     ⟨(some 27), (.bin .gtr), [.t 26, .c (.int .i64 4)], none, [2]⟩,
     ⟨(some 28), .mov, [.t 27], none, [3]⟩,
     ⟨(some 29), (.faddr 1 false 1), [.t 3], (some (28, false)), [4]⟩,
     ⟨(some 30), (.load false 1), [.t 29], (some (28, false)), [5, 4]⟩,
     ⟨(some 31), .len, [.t 30], (some (28, false)), [6, 4]⟩,
     ⟨(some 32), (.bin .gtr), [.t 31, .c (.int .i64 4)], (some (28, false)), [7, 4]⟩,
     ⟨(some 33), .pick, [.t 28, .c (.bool true), .t 32], none, [4, 8]⟩,
     ⟨(some 34), .mov, [.t 33], none, [9, 4]⟩,
     ⟨(some 35), (.load true 2), [.t 3], (some (34, false)), [10]⟩,
     ⟨(some 36), .call, [.f 37, .t 35], (some (34, false)), [11, 10, 10]⟩,
     ⟨(some 37), (.bin .neq), [.t 36, .c (.int .i64 0)], (some (34, false)), [12, 10]⟩,
     ⟨(some 38), .pick, [.t 34, .c (.bool true), .t 37], none, [10, 13]⟩,
     ⟨(some 39), .mov, [.t 38], none, [14, 12]⟩,
     ⟨(some 40), (.load true 5), [.t 4], (some (39, false)), [15]⟩,
     ⟨(some 41), .call, [.f 55, .t 40], (some (39, false)), [16, 15, 15]⟩,
     ⟨(some 42), (.bin .neq), [.t 41, .c (.int .i64 0)], (some (39, false)), [17, 15]⟩,
     ⟨(some 43), .pick, [.t 39, .c (.bool true), .t 42], none, [15, 18]⟩,
     ⟨(some 44), .mov, [.t 43], none, [19, 17]⟩,
     ⟨(some 45), (.faddr 0 false 1), [.t 4], (some (44, false)), [20]⟩,
     ⟨(some 46), (.load false 1), [.t 45], (some (44, false)), [21, 20]⟩,
     ⟨(some 47), (.bin .gtr), [.t 46, .c (.int .i64 4)], (some (44, false)), [22, 20]⟩,
     ⟨(some 48), .pick, [.t 44, .c (.bool true), .t 47], none, [20, 23]⟩,
     ⟨(some 49), .mov, [.t 48], none, [24, 20]⟩,
     ⟨(some 50), (.faddr 1 false 1), [.t 4], (some (49, false)), [25]⟩,
     ⟨(some 51), (.load false 1), [.t 50], (some (49, false)), [26, 25]⟩,
     ⟨(some 52), (.bin .gtr), [.t 51, .c (.int .i64 6)], (some (49, false)), [27, 25]⟩,
     ⟨(some 53), .pick, [.t 49, .c (.bool true), .t 52], none, [25, 28]⟩,
     ⟨(some 54), .mov, [.t 53], none, [29, 25]⟩,
     ⟨(some 55), (.faddr 2 false 1), [.t 4], (some (54, false)), [30]⟩,
     ⟨(some 56), (.load false 1), [.t 55], (some (54, false)), [31, 30]⟩,
     ⟨(some 57), (.bin .gtr), [.t 56, .c (.int .i64 30)], (some (54, false)), [32, 30]⟩,
     ⟨(some 58), .pick, [.t 54, .c (.bool true), .t 57], none, [30, 33]⟩,
     ⟨(some 59), .mov, [.t 58], none, [34, 30]⟩,
     ⟨(some 60), .mov, [.t 2], (some (59, false)), [35]⟩,
     ⟨(some 61), .call, [.f 34, .t 60, .c (.int .i64 0), .c (.int .i64 10)], (some (59, false)), [36, 35, 35]⟩,
     ⟨(some 62), (.un .not), [.t 61], (some (59, false)), [37, 35]⟩,
     ⟨(some 63), .pick, [.t 59, .c (.bool true), .t 62], none, [35, 38]⟩,
     ⟨(some 64), .mov, [.t 63], none, [39, 37]⟩,
     ⟨(some 65), (.faddr 3 true 2), [.t 4], (some (64, false)), [40]⟩,
     ⟨(some 66), (.faddr 0 false 1), [.t 65], (some (64, false)), [41, 40]⟩,
     ⟨(some 67), (.load false 1), [.t 66], (some (64, false)), [42, 40]⟩,
     ⟨(some 68), .call, [.f 34, .t 67, .c (.int .i64 (-1000)), .c (.int .i64 1000)], (some (64, false)), [43, 40, 40]⟩,
     ⟨(some 69), (.un .not), [.t 68], (some (64, false)), [44, 40]⟩,
     ⟨(some 70), .pick, [.t 64, .c (.bool true), .t 69], none, [40, 45]⟩,
     ⟨(some 71), .mov, [.t 70], none, [46, 44]⟩,
     ⟨(some 72), (.faddr 3 true 2), [.t 4], (some (71, false)), [47]⟩,
     ⟨(some 73), (.faddr 1 false 1), [.t 72], (some (71, false)), [48, 47]⟩,
     ⟨(some 74), (.load false 1), [.t 73], (some (71, false)), [49, 47]⟩,
     ⟨(some 75), .call, [.f 34, .t 74, .c (.int .i64 (-1000)), .c (.int .i64 1000)], (some (71, false)), [50, 47, 47]⟩,
     ⟨(some 76), (.un .not), [.t 75], (some (71, false)), [51, 47]⟩,
     ⟨(some 77), .pick, [.t 71, .c (.bool true), .t 76], none, [47, 52]⟩] false)
   (.cond (.t 77)
    (.seq
     (.region [⟨(some 6), .mov, [.c (.bool true)], none, []⟩] false)
     .ret)
    .skip))
  (.keep [2, 3, 4] [3, 4] b8k9))
def b8 : DCode :=
 (.seq
  (.region [⟨(some 3), .box, [.t 0], none, []⟩,
    ⟨(some 4), .box, [.t 1], none, []⟩,
    ⟨(some 6), .mov, [.c (.bool false)], none, []⟩] false)
  (.seq
   (.seq
    (.region [⟨(some 22), .call, [.f 54], none, []⟩,
      ⟨(some 23), (.un .not), [.t 22], none, [0]⟩] false)
    (.cond (.t 23)
     (.seq
      (.region [⟨(some 6), .mov, [.c (.bool false)], none, []⟩] false)
      .ret)
     .skip))
   (.keep [2, 3, 4] [3, 4] b8k10)))
def d8 : DFn := ⟨3, 262, [.tmp 6], b8⟩
theorem body8 : d8.body = b8 := rfl
theorem res8 : d8.res = [.tmp 6] := rfl
theorem k8 : chkFn Try.prog Try.f8 d8 = true := by kernel_rfl

end Go.DI

