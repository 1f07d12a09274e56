/- Contracts of bounds and waits. No condition. -/
import Derived.Test.YtdpfjbghiahbeaaKhGo
/- The reference's functions of bounds and waits, as data. No condition. -/
namespace Go.DI
open Go.Proofs Go.RowKit
/-- guidevane/guidevanelaw04.SurgeGap -/
def b9k0 : DCode :=
 (.seq
  (.block 1
   (.region [⟨(some 144), .mov, [.t 13], none, []⟩,
     ⟨(some 145), .mov, [.t 144], none, [0]⟩,
     ⟨(some 146), (.faddr 0 false 1), [.t 5], (some (145, false)), [1]⟩,
     ⟨(some 147), (.load false 1), [.t 146], (some (145, false)), [2, 1]⟩,
     ⟨(some 148), .mov, [.t 14], (some (145, false)), [1]⟩,
     ⟨(some 149), (.iaddr 2), [.t 147, .t 148], (some (145, false)), [3, 4, 1]⟩,
     ⟨(some 150), (.load true 2), [.t 149], (some (145, false)), [5, 1]⟩,
     ⟨(some 151), (.faddr 1 true 2), [.t 7], (some (145, false)), [1]⟩,
     ⟨(some 152), (.load true 2), [.t 151], (some (145, false)), [7, 1]⟩,
     ⟨(some 153), (.eqs [false, false] false), [.t 150, .t 152], (some (145, false)), [6, 8, 1]⟩,
     ⟨(some 154), .pick, [.t 145, .c (.bool true), .t 153], none, [1, 9]⟩,
     ⟨(some 13), .mov, [.t 154], none, [10, 1, 0, 1, 2, 3, 4, 5, 6, 7, 8, 9, 10]⟩] true))
  (.region [⟨(some 142), .mov, [.t 14], none, []⟩,
    ⟨(some 143), (.bin .add), [.t 142, .c (.int .i64 1)], none, [0]⟩,
    ⟨(some 14), .mov, [.t 143], none, [1, 0, 1]⟩] false))
def b9l0 : DCode := .keep [3, 4, 5, 7, 9, 13, 14] [3, 4, 5, 7, 9]
  (.seq
   (.seq
    (.region [⟨(some 137), .mov, [.t 14], none, []⟩,
      ⟨(some 138), (.faddr 0 false 1), [.t 5], none, []⟩,
      ⟨(some 139), (.load false 1), [.t 138], none, [1]⟩,
      ⟨(some 140), .len, [.t 139], none, [2]⟩,
      ⟨(some 141), (.bin .lss), [.t 137, .t 140], none, [0, 3]⟩] false)
    (.cond (.t 141)
     .skip
     (.exit 0)))
   (.keep [3, 4, 5, 7, 9, 13, 14] [3, 4, 5, 7, 9] b9k0))
def b9k1 : DCode :=
 (.region [⟨(some 173), .mov, [.t 16], none, []⟩,
   ⟨(some 174), (.bin .add), [.t 173, .c (.int .i64 1)], none, [0]⟩,
   ⟨(some 16), .mov, [.t 174], none, [1, 0, 1]⟩] false)
def b9k2 : DCode :=
 (.seq
  (.block 3
   (.seq
    (.region [⟨(some 175), (.faddr 1 true 2), [.t 15], none, []⟩,
      ⟨(some 176), (.load true 2), [.t 175], none, [0]⟩,
      ⟨(some 177), (.faddr 0 false 1), [.t 5], none, []⟩,
      ⟨(some 178), (.load false 1), [.t 177], none, [2]⟩,
      ⟨(some 179), .mov, [.t 16], none, []⟩,
      ⟨(some 180), (.iaddr 2), [.t 178, .t 179], none, [3, 4]⟩,
      ⟨(some 181), (.load true 2), [.t 180], none, [5]⟩,
      ⟨(some 182), (.eqs [false, false] false), [.t 176, .t 181], none, [1, 6]⟩,
      ⟨(some 183), .mov, [.t 182], none, [7]⟩,
      ⟨(some 184), (.faddr 3 false 1), [.t 15], (some (183, true)), [8]⟩,
      ⟨(some 185), (.load false 1), [.t 184], (some (183, true)), [9, 8]⟩,
      ⟨(some 186), (.faddr 2 true 2), [.t 3], (some (183, true)), [8]⟩,
      ⟨(some 187), (.faddr 0 false 1), [.t 186], (some (183, true)), [11, 8]⟩,
      ⟨(some 188), (.load false 1), [.t 187], (some (183, true)), [12, 8]⟩,
      ⟨(some 189), (.bin .eql), [.t 185, .t 188], (some (183, true)), [10, 13, 8]⟩,
      ⟨(some 190), .mov, [.t 189], (some (183, true)), [14, 8, 8]⟩,
      ⟨(some 191), (.faddr 3 false 1), [.t 15], (some (190, false)), [15]⟩,
      ⟨(some 192), (.load false 1), [.t 191], (some (190, false)), [16, 15]⟩,
      ⟨(some 193), (.faddr 2 true 2), [.t 3], (some (190, false)), [15]⟩,
      ⟨(some 194), (.faddr 1 false 1), [.t 193], (some (190, false)), [18, 15]⟩,
      ⟨(some 195), (.load false 1), [.t 194], (some (190, false)), [19, 15]⟩,
      ⟨(some 196), (.bin .eql), [.t 192, .t 195], (some (190, false)), [17, 20, 15]⟩,
      ⟨(some 197), .pick, [.t 190, .c (.bool true), .t 196], (some (183, true)), [15, 21, 8]⟩,
      ⟨(some 198), .pick, [.t 183, .t 197, .c (.bool false)], none, [8, 22]⟩,
      ⟨(some 199), .mov, [.t 198], none, [23, 15]⟩,
      ⟨(some 200), (.faddr 4 false 1), [.t 15], (some (199, true)), [24]⟩,
      ⟨(some 201), (.load false 1), [.t 200], (some (199, true)), [25, 24]⟩,
      ⟨(some 202), (.faddr 4 false 1), [.t 7], (some (199, true)), [24]⟩,
      ⟨(some 203), (.load false 1), [.t 202], (some (199, true)), [27, 24]⟩,
      ⟨(some 204), (.bin .gtr), [.t 201, .t 203], (some (199, true)), [26, 28, 24]⟩,
      ⟨(some 205), .pick, [.t 199, .t 204, .c (.bool false)], none, [24, 29]⟩] true)
    (.cond (.t 205)
     (.seq
      (.region [⟨(some 6), .mov, [.c (.bool false)], none, []⟩] false)
      .ret)
     .skip)))
  (.keep [3, 5, 7, 9, 15, 16] [3, 5, 7, 9, 15] b9k1))
def b9l1 : DCode := .keep [3, 5, 7, 9, 15, 16] [3, 5, 7, 9, 15]
  (.seq
   (.seq
    (.region [⟨(some 168), .mov, [.t 16], none, []⟩,
      ⟨(some 169), (.faddr 0 false 1), [.t 5], none, []⟩,
      ⟨(some 170), (.load false 1), [.t 169], none, [1]⟩,
      ⟨(some 171), .len, [.t 170], none, [2]⟩,
      ⟨(some 172), (.bin .lss), [.t 168, .t 171], none, [0, 3]⟩] false)
    (.cond (.t 172)
     .skip
     (.exit 2)))
   (.keep [3, 5, 7, 9, 15, 16] [3, 5, 7, 9, 15] b9k2))
def b9k3 : DCode :=
 (.region [⟨(some 211), .mov, [.t 17], none, []⟩,
   ⟨(some 212), (.bin .add), [.t 211, .c (.int .i64 1)], none, [0]⟩,
   ⟨(some 17), .mov, [.t 212], none, [1, 0, 1]⟩] false)
def b9k4 : DCode :=
 (.seq
  (.block 5
   (.seq
    (.region [⟨(some 213), (.faddr 6 false 1), [.t 5], none, []⟩,
      ⟨(some 214), (.load false 1), [.t 213], none, [0]⟩,
      ⟨(some 215), .mov, [.t 17], none, []⟩,
      ⟨(some 216), (.iaddr 4), [.t 214, .t 215], none, [1, 2]⟩,
      ⟨(some 217), (.load true 4), [.t 216], none, [3]⟩,
      ⟨(some 218), (.faddr 1 true 2), [.t 15], none, []⟩,
      ⟨(some 219), (.load true 2), [.t 218], none, [5]⟩,
      ⟨(some 220), .call, [.f 26, .t 217, .t 219], none, [4, 6]⟩,
      ⟨(some 221), .mov, [.t 220], none, [7, 7]⟩,
      ⟨(some 222), (.faddr 4 false 1), [.t 15], (some (221, true)), [8]⟩,
      ⟨(some 223), (.load false 1), [.t 222], (some (221, true)), [9, 8]⟩,
      ⟨(some 224), (.faddr 0 false 1), [.t 9], (some (221, true)), [8]⟩,
      ⟨(some 225), (.load false 1), [.t 224], (some (221, true)), [11, 8]⟩,
      ⟨(some 226), (.faddr 1 false 1), [.t 9], (some (221, true)), [8]⟩,
      ⟨(some 227), (.load false 1), [.t 226], (some (221, true)), [13, 8]⟩,
      ⟨(some 228), .call, [.f 27, .t 223, .t 225, .t 227], (some (221, true)), [10, 12, 14, 8, 8]⟩,
      ⟨(some 229), (.un .not), [.t 228], (some (221, true)), [15, 8]⟩,
      ⟨(some 230), .pick, [.t 221, .t 229, .c (.bool false)], none, [8, 16]⟩,
      ⟨(some 231), .mov, [.t 230], none, [17, 15]⟩,
      ⟨(some 232), (.faddr 6 false 1), [.t 5], (some (231, false)), [18]⟩,
      ⟨(some 233), (.load false 1), [.t 232], (some (231, false)), [19, 18]⟩,
      ⟨(some 234), .mov, [.t 17], (some (231, false)), [18]⟩,
      ⟨(some 235), (.iaddr 4), [.t 233, .t 234], (some (231, false)), [20, 21, 18]⟩,
      ⟨(some 236), (.load true 4), [.t 235], (some (231, false)), [22, 18]⟩,
      ⟨(some 237), (.faddr 1 true 2), [.t 7], (some (231, false)), [18]⟩,
      ⟨(some 238), (.load true 2), [.t 237], (some (231, false)), [24, 18]⟩,
      ⟨(some 239), .call, [.f 26, .t 236, .t 238], (some (231, false)), [23, 25, 18, 18]⟩,
      ⟨(some 240), .mov, [.t 239], (some (231, false)), [26, 26, 18]⟩,
      ⟨(some 241), (.faddr 4 false 1), [.t 7], (some (240, true)), [27]⟩,
      ⟨(some 242), (.load false 1), [.t 241], (some (240, true)), [28, 27]⟩,
      ⟨(some 243), (.faddr 0 false 1), [.t 9], (some (240, true)), [27]⟩,
      ⟨(some 244), (.load false 1), [.t 243], (some (240, true)), [30, 27]⟩,
      ⟨(some 245), (.faddr 1 false 1), [.t 9], (some (240, true)), [27]⟩,
      ⟨(some 246), (.load false 1), [.t 245], (some (240, true)), [32, 27]⟩,
      ⟨(some 247), .call, [.f 27, .t 242, .t 244, .t 246], (some (240, true)), [29, 31, 33, 27, 27]⟩,
      ⟨(some 248), (.un .not), [.t 247], (some (240, true)), [34, 27]⟩,
      ⟨(some 249), .pick, [.t 240, .t 248, .c (.bool false)], (some (231, false)), [27, 35, 18]⟩,
      ⟨(some 250), .pick, [.t 231, .c (.bool true), .t 249], none, [18, 36]⟩] true)
    (.cond (.t 250)
     (.seq
      (.region [⟨(some 6), .mov, [.c (.bool false)], none, []⟩] false)
      .ret)
     .skip)))
  (.keep [5, 7, 9, 15, 17] [5, 7, 9, 15] b9k3))
def b9l2 : DCode := .keep [5, 7, 9, 15, 17] [5, 7, 9, 15]
  (.seq
   (.seq
    (.region [⟨(some 206), .mov, [.t 17], none, []⟩,
      ⟨(some 207), (.faddr 6 false 1), [.t 5], none, []⟩,
      ⟨(some 208), (.load false 1), [.t 207], none, [1]⟩,
      ⟨(some 209), .len, [.t 208], none, [2]⟩,
      ⟨(some 210), (.bin .lss), [.t 206, .t 209], none, [0, 3]⟩] false)
    (.cond (.t 210)
     .skip
     (.exit 4)))
   (.keep [5, 7, 9, 15, 17] [5, 7, 9, 15] b9k4))
def b9k5 : DCode :=
 (.seq
  (.region [⟨(some 6), .mov, [.c (.bool true)], none, []⟩] false)
  .ret)
def b9k6 : DCode :=
 (.seq
  (.seq
   (.region [⟨(some 17), .mov, [.c (.int .i64 0)], none, []⟩] false)
   (.block 4
    (.loop b9l2)))
  (.keep [] [] b9k5))
def b9k7 : DCode :=
 (.seq
  (.seq
   (.region [⟨(some 16), .mov, [.c (.int .i64 0)], none, []⟩] false)
   (.block 2
    (.loop b9l1)))
  (.keep [5, 7, 9, 15] [5, 7, 9, 15] b9k6))
def b9k8 : DCode :=
 (.seq
  (.region [⟨(some 157), (.faddr 1 true 5), [.t 5], none, []⟩,
    ⟨(some 158), (.load true 5), [.t 157], none, [0]⟩,
    ⟨(some 15), (.alloc [(.imm (.slc 1 [])), (.imm (.int .i64 0)), (.imm (.int .i64 0)), (.imm (.int .i64 0)), (.imm (.int .i64 0))]), [], none, []⟩,
    ⟨none, (.store 5), [.t 15, .t 158], none, [2, 1, 0, 1, 2]⟩] false)
  (.seq
   (.seq
    (.region [⟨(some 159), (.load true 5), [.t 3], none, []⟩,
      ⟨(some 160), (.load true 4), [.t 4], none, []⟩,
      ⟨(some 161), .call, [.f 31, .t 160], none, [1]⟩,
      ⟨(some 162), (.load true 5), [.t 15], none, []⟩,
      ⟨(some 163), .call, [.f 34, .t 162], none, [3, 2]⟩,
      ⟨(some 164), .call, [.f 33, .t 159, .t 161, .t 163], none, [0, 2, 4, 4]⟩,
      ⟨(some 165), (.bin .neq), [.t 164, .c (.int .i64 0)], none, [5]⟩] true)
    (.cond (.t 165)
     (.region [⟨(some 166), (.load true 5), [.t 7], none, []⟩,
       ⟨(some 167), .call, [.f 34, .t 166], none, [0]⟩,
       ⟨none, (.store 5), [.t 15, .t 167], none, [1, 1, 0, 1]⟩] false)
     .skip))
   (.keep [3, 5, 7, 9, 15] [3, 5, 7, 9, 15] b9k7)))
def b9k9 : DCode :=
 (.seq
  (.seq
   (.region [⟨(some 155), .mov, [.t 13], none, []⟩,
     ⟨(some 156), (.un .not), [.t 155], none, [0]⟩] false)
   (.cond (.t 156)
    (.seq
     (.region [⟨(some 6), .mov, [.c (.bool false)], none, []⟩] false)
     .ret)
    .skip))
  (.keep [3, 4, 5, 7, 9] [3, 4, 5, 7, 9] b9k8))
def b9k10 : DCode :=
 (.seq
  (.region [⟨(some 13), .mov, [.c (.bool false)], none, []⟩] false)
  (.seq
   (.seq
    (.region [⟨(some 14), .mov, [.c (.int .i64 0)], none, []⟩] false)
    (.block 0
     (.loop b9l0)))
   (.keep [3, 4, 5, 7, 9, 13] [3, 4, 5, 7, 9] b9k9)))
def b9k11 : DCode :=
 (.seq
  (.seq
   (.region [⟨(some 90), .mov, [.t 10], none, []⟩,
     ⟨(some 91), (.bin .neq), [.t 90, .c (.int .i64 0)], none, [0]⟩,
     ⟨(some 92), .mov, [.t 91], none, [1]⟩,
     ⟨(some 93), .mov, [.t 12], (some (92, false)), [2]⟩,
     ⟨(some 94), (.bin .neq), [.t 93, .c (.int .i64 0)], (some (92, false)), [3, 2]⟩,
     ⟨(some 95), .pick, [.t 92, .c (.bool true), .t 94], none, [2, 4]⟩,
     ⟨(some 96), .mov, [.t 95], none, [5, 2]⟩,
     ⟨(some 97), .movv, [.t 11], (some (96, false)), [6]⟩,
     ⟨(some 98), .len, [.t 97], (some (96, false)), [7, 6]⟩,
     ⟨(some 99), (.bin .eql), [.t 98, .c (.int .i64 0)], (some (96, false)), [8, 6]⟩,
     ⟨(some 100), .pick, [.t 96, .c (.bool true), .t 99], none, [6, 9]⟩,
     ⟨(some 101), .mov, [.t 100], none, [10, 6]⟩,
     ⟨(some 102), .movv, [.t 11], (some (101, false)), [11]⟩,
     ⟨(some 103), .len, [.t 102], (some (101, false)), [12, 11]⟩,
     ⟨(some 104), (.bin .gtr), [.t 103, .c (.int .i64 24)], (some (101, false)), [13, 11]⟩,
     ⟨(some 105), .pick, [.t 101, .c (.bool true), .t 104], none, [11, 14]⟩,
     ⟨(some 106), .mov, [.t 105], none, [15, 11]⟩,
     ⟨(some 107), (.load true 5), [.t 7], (some (106, false)), [16]⟩,
     ⟨(some 108), (.build [(.imm (.slc 2 [])), (.imm (.slc 1 [])), (.imm (.int .i64 0)), (.imm (.int .i64 0)), (.imm (.int .i64 0)), (.imm (.int .i64 0)), (.imm (.slc 4 []))] [(1, 5)]), [.t 107], (some (106, false)), [17, 16]⟩,
     ⟨(some 109), .call, [.f 29, .t 108], (some (106, false)), [18, 16, 16]⟩,
     ⟨(some 110), (.un .not), [.t 109], (some (106, false)), [19, 16]⟩,
     ⟨(some 111), .pick, [.t 106, .c (.bool true), .t 110], none, [16, 20]⟩,
     ⟨(some 112), .mov, [.t 111], none, [21, 19]⟩,
     ⟨(some 113), (.load true 5), [.t 3], (some (112, false)), [22]⟩,
     ⟨(some 114), (.load true 4), [.t 4], (some (112, false)), [22]⟩,
     ⟨(some 115), .call, [.f 31, .t 114], (some (112, false)), [24, 22, 22]⟩,
     ⟨(some 116), (.load true 5), [.t 7], (some (112, false)), [22]⟩,
     ⟨(some 117), .call, [.f 34, .t 116], (some (112, false)), [26, 25, 22]⟩,
     ⟨(some 118), .call, [.f 33, .t 113, .t 115, .t 117], (some (112, false)), [23, 25, 27, 27, 22]⟩,
     ⟨(some 119), (.bin .neq), [.t 118, .c (.int .i64 0)], (some (112, false)), [28, 22]⟩,
     ⟨(some 120), .pick, [.t 112, .c (.bool true), .t 119], none, [22, 29]⟩,
     ⟨(some 121), .mov, [.t 120], none, [30, 28]⟩,
     ⟨(some 122), (.faddr 3 false 1), [.t 7], (some (121, false)), [31]⟩,
     ⟨(some 123), (.load false 1), [.t 122], (some (121, false)), [32, 31]⟩,
     ⟨(some 124), (.faddr 2 true 2), [.t 3], (some (121, false)), [31]⟩,
     ⟨(some 125), (.faddr 0 false 1), [.t 124], (some (121, false)), [34, 31]⟩,
     ⟨(some 126), (.load false 1), [.t 125], (some (121, false)), [35, 31]⟩,
     ⟨(some 127), (.bin .neq), [.t 123, .t 126], (some (121, false)), [33, 36, 31]⟩,
     ⟨(some 128), .mov, [.t 127], (some (121, false)), [37, 31, 31]⟩,
     ⟨(some 129), (.faddr 3 false 1), [.t 7], (some (128, true)), [38]⟩,
     ⟨(some 130), (.load false 1), [.t 129], (some (128, true)), [39, 38]⟩,
     ⟨(some 131), (.faddr 2 true 2), [.t 3], (some (128, true)), [38]⟩,
     ⟨(some 132), (.faddr 1 false 1), [.t 131], (some (128, true)), [41, 38]⟩,
     ⟨(some 133), (.load false 1), [.t 132], (some (128, true)), [42, 38]⟩,
     ⟨(some 134), (.bin .neq), [.t 130, .t 133], (some (128, true)), [40, 43, 38]⟩,
     ⟨(some 135), .pick, [.t 128, .t 134, .c (.bool false)], (some (121, false)), [38, 44, 31]⟩,
     ⟨(some 136), .pick, [.t 121, .c (.bool true), .t 135], none, [31, 45]⟩] true)
   (.cond (.t 136)
    (.seq
     (.region [⟨(some 6), .mov, [.c (.bool false)], none, []⟩] false)
     .ret)
    .skip))
  (.keep [3, 4, 5, 7, 9] [3, 4, 5, 7, 9] b9k10))
def b9k12 : DCode :=
 (.seq
  (.region [⟨(some 47), (.load true 5), [.t 3], none, []⟩,
    ⟨(some 48), (.load true 4), [.t 4], none, []⟩,
    ⟨(some 49), .call, [.f 31, .t 48], none, [1]⟩,
    ⟨(some 50), (.faddr 0 false 1), [.t 5], none, []⟩,
    ⟨(some 51), (.load false 1), [.t 50], none, [3]⟩,
    ⟨(some 52), .call, [.f 32, .t 51], none, [4, 2]⟩,
    ⟨(some 53), .call, [.f 30, .t 47, .t 49, .t 52], none, [0, 2, 5, 5]⟩,
    ⟨(some 46), .mov, [.t 53], none, [6]⟩,
    ⟨(some 54), (.ext 0), [.t 46], none, [7]⟩,
    ⟨(some 55), (.ext 1), [.t 46], none, [7]⟩,
    ⟨(some 7), (.alloc [(.imm (.slc 1 [])), (.imm (.int .i64 0)), (.imm (.int .i64 0)), (.imm (.int .i64 0)), (.imm (.int .i64 0))]), [], none, []⟩,
    ⟨none, (.store 5), [.t 7, .t 54], none, [10, 8, 6, 0, 1, 2, 3, 4, 5, 6, 7, 8, 10]⟩,
    ⟨(some 8), .mov, [.t 55], none, [9, 11, 0, 1, 2, 3, 4, 5, 6, 7, 8, 9, 10, 11]⟩] true)
  (.seq
   (.region [⟨(some 57), (.load true 5), [.t 3], none, []⟩,
     ⟨(some 58), (.load true 4), [.t 4], none, []⟩,
     ⟨(some 59), .call, [.f 31, .t 58], none, [1]⟩,
     ⟨(some 60), (.faddr 6 false 1), [.t 5], none, []⟩,
     ⟨(some 61), (.load false 1), [.t 60], none, [3]⟩,
     ⟨(some 62), .call, [.f 61, .t 61], none, [4, 2]⟩,
     ⟨(some 63), .call, [.f 60, .t 57, .t 59, .t 62], none, [0, 2, 5, 5]⟩,
     ⟨(some 56), .mov, [.t 63], none, [6]⟩,
     ⟨(some 64), (.ext 0), [.t 56], none, [7]⟩,
     ⟨(some 65), (.ext 1), [.t 56], none, [7]⟩,
     ⟨(some 9), (.alloc [(.imm (.int .i64 0)), (.imm (.int .i64 0))]), [], none, []⟩,
     ⟨none, (.store 2), [.t 9, .t 64], none, [10, 8, 6, 0, 1, 2, 3, 4, 5, 6, 7, 8, 10]⟩,
     ⟨(some 10), .mov, [.t 65], none, [9, 11, 0, 1, 2, 3, 4, 5, 6, 7, 8, 9, 10, 11]⟩] true)
   (.seq
    (.region [⟨(some 67), (.load true 5), [.t 3], none, []⟩,
      ⟨(some 68), (.load true 4), [.t 4], none, []⟩,
      ⟨(some 69), .call, [.f 31, .t 68], none, [1]⟩,
      ⟨(some 70), .call, [.f 41, .t 67, .t 69], none, [0, 2, 2]⟩,
      ⟨(some 66), .mov, [.t 70], none, [3]⟩,
      ⟨(some 71), (.ext 0), [.t 66], none, [4]⟩,
      ⟨(some 72), (.ext 1), [.t 66], none, [4]⟩,
      ⟨(some 11), .movv, [.t 71], none, [5, 3, 0, 1, 2, 3, 4, 5]⟩,
      ⟨(some 12), .mov, [.t 72], none, [6, 7, 0, 1, 2, 3, 4, 5, 6, 7]⟩] true)
    (.seq
     (.seq
      (.region [⟨(some 73), .mov, [.t 8], none, []⟩,
        ⟨(some 74), (.bin .neq), [.t 73, .c (.int .i64 0)], none, [0]⟩] false)
      (.cond (.t 74)
       (.seq
        (.region [⟨(some 75), .mov, [.t 8], none, []⟩,
          ⟨(some 76), (.bin .eql), [.t 75, .c (.int .i64 12)], none, [0]⟩,
          ⟨(some 77), .mov, [.t 76], none, [1]⟩,
          ⟨(some 78), .mov, [.t 10], (some (77, true)), [2]⟩,
          ⟨(some 79), (.bin .eql), [.t 78, .c (.int .i64 12)], (some (77, true)), [3, 2]⟩,
          ⟨(some 80), .pick, [.t 77, .t 79, .c (.bool false)], none, [2, 4]⟩,
          ⟨(some 81), .mov, [.t 80], none, [5, 2]⟩,
          ⟨(some 82), .mov, [.t 12], (some (81, true)), [6]⟩,
          ⟨(some 83), (.bin .eql), [.t 82, .c (.int .i64 12)], (some (81, true)), [7, 6]⟩,
          ⟨(some 84), .pick, [.t 81, .t 83, .c (.bool false)], none, [6, 8]⟩,
          ⟨(some 85), .mov, [.t 84], none, [9, 6]⟩,
          ⟨(some 86), (.load true 5), [.t 7], (some (85, true)), [10]⟩,
          ⟨(some 87), (.build [(.imm (.slc 1 [])), (.imm (.int .i64 0)), (.imm (.int .i64 0)), (.imm (.int .i64 0)), (.imm (.int .i64 0))] []), [], (some (85, true)), [10]⟩,
          ⟨(some 88), .call, [.f 36, .t 86, .t 87], (some (85, true)), [11, 12, 10, 10]⟩,
          ⟨(some 89), .pick, [.t 85, .t 88, .c (.bool false)], none, [10, 13]⟩,
          ⟨(some 6), .mov, [.t 89], none, [14, 13, 0, 1, 2, 3, 4, 5, 6, 7, 8, 9, 10, 11, 12, 13, 14]⟩] false)
        .ret)
       .skip))
     (.keep [3, 4, 5, 7, 9, 10, 11, 12] [3, 4, 5, 7, 9] b9k11)))))
def b9k13 : DCode :=
 (.seq
  (.seq
   (.region [⟨(some 20), (.load true 4), [.t 4], none, []⟩,
     ⟨(some 21), .call, [.f 28, .t 20], none, [0]⟩,
     ⟨(some 22), (.un .not), [.t 21], none, [1]⟩,
     ⟨(some 23), .mov, [.t 22], none, [2, 1]⟩,
     ⟨(some 24), (.load true 7), [.t 5], (some (23, false)), [3]⟩,
     ⟨(some 25), .call, [.f 29, .t 24], (some (23, false)), [4, 3, 3]⟩,
     ⟨(some 26), (.un .not), [.t 25], (some (23, false)), [5, 3]⟩,
     ⟨(some 27), .pick, [.t 23, .c (.bool true), .t 26], none, [3, 6]⟩,
     ⟨(some 28), .mov, [.t 27], none, [7, 5]⟩,
     ⟨(some 29), (.load true 5), [.t 3], (some (28, false)), [8]⟩,
     ⟨(some 30), (.load true 4), [.t 4], (some (28, false)), [8]⟩,
     ⟨(some 31), .call, [.f 35, .t 29, .t 30], (some (28, false)), [9, 10, 8, 8]⟩,
     ⟨(some 32), (.bin .neq), [.t 31, .c (.int .i64 0)], (some (28, false)), [11, 8]⟩,
     ⟨(some 33), .pick, [.t 28, .c (.bool true), .t 32], none, [8, 12]⟩,
     ⟨(some 34), .mov, [.t 33], none, [13, 11]⟩,
     ⟨(some 35), (.faddr 0 false 1), [.t 5], (some (34, false)), [14]⟩,
     ⟨(some 36), (.load false 1), [.t 35], (some (34, false)), [15, 14]⟩,
     ⟨(some 37), .call, [.f 38, .t 36], (some (34, false)), [16, 14, 14]⟩,
     ⟨(some 38), (.bin .neq), [.t 37, .c (.int .i64 0)], (some (34, false)), [17, 14]⟩,
     ⟨(some 39), .pick, [.t 34, .c (.bool true), .t 38], none, [14, 18]⟩,
     ⟨(some 40), .mov, [.t 39], none, [19, 17]⟩,
     ⟨(some 41), (.faddr 6 false 1), [.t 5], (some (40, false)), [20]⟩,
     ⟨(some 42), (.load false 1), [.t 41], (some (40, false)), [21, 20]⟩,
     ⟨(some 43), .call, [.f 59, .t 42], (some (40, false)), [22, 20, 20]⟩,
     ⟨(some 44), (.bin .neq), [.t 43, .c (.int .i64 0)], (some (40, false)), [23, 20]⟩,
     ⟨(some 45), .pick, [.t 40, .c (.bool true), .t 44], none, [20, 24]⟩] false)
   (.cond (.t 45)
    (.seq
     (.region [⟨(some 6), .mov, [.c (.bool true)], none, []⟩] false)
     .ret)
    .skip))
  (.keep [3, 4, 5] [3, 4, 5] b9k12))
def b9 : DCode :=
 (.seq
  (.region [⟨(some 3), .box, [.t 0], none, []⟩,
    ⟨(some 4), .box, [.t 1], none, []⟩,
    ⟨(some 5), .box, [.t 2], none, []⟩,
    ⟨(some 6), .mov, [.c (.bool false)], none, []⟩] false)
  (.seq
   (.seq
    (.region [⟨(some 18), .call, [.f 15], none, []⟩,
      ⟨(some 19), (.un .not), [.t 18], none, [0]⟩] false)
    (.cond (.t 19)
     (.seq
      (.region [⟨(some 6), .mov, [.c (.bool false)], none, []⟩] false)
      .ret)
     .skip))
   (.keep [3, 4, 5] [3, 4, 5] b9k13)))
def d9 : DFn := ⟨3, 251, [.tmp 6], b9⟩
theorem body9 : d9.body = b9 := rfl
theorem res9 : d9.res = [.tmp 6] := rfl
theorem k9 : chkFn Try.prog Try.f9 d9 = true := by kernel_rfl

end Go.DI

/- Contracts: bounds and waits, of the program and of the reference. No condition. -/
set_option linter.unusedSimpArgs false
set_option maxRecDepth 20000
namespace Go.DI
open Go.Proofs Go.RowKit Sg

end Go.DI

/- Contracts: the shortest wait; the statement SurgeBounds. No condition. -/
set_option linter.unusedSimpArgs false
set_option maxRecDepth 20000
namespace Go.DI
open Go.Proofs Go.RowKit Sg

theorem bfold_true : ∀ {l : List Bx} {y : Bool × Int × Int}, y.1 = true → (l.foldl bStp y).1 = true
  | [], _, h => h
  | b :: l, y, _ => bfold_true (l := l) (y := bStp y b) rfl
end Go.DI

