/- The functions of the statement TopLakeUpAndDown, as data. No condition. -/
import Derived.Test.YtnkdmcalkgecfaaUdGe
import Derived.Test.YtnkdmcalkgecfaaProg
import Derived.KernelRfl
namespace Go.DI
open Go.Proofs Go.RowKit
/-- guidevane/guidevanetop.TopLakeUpAndDown -/
def b3k0 : DCode :=
 (.seq
  (.block 1
   (.seq
    (.region [⟨(some 59), .mov, [.t 7], none, []⟩,
      ⟨(some 60), (.faddr 10 false 1), [.t 5], none, []⟩,
      ⟨(some 61), (.load false 1), [.t 60], none, [1]⟩,
      ⟨(some 62), .mov, [.t 9], none, []⟩,
      ⟨(some 63), (.iaddr 3), [.t 61, .t 62], none, [2, 3]⟩,
      ⟨(some 64), (.faddr 2 false 1), [.t 63], none, [4]⟩,
      ⟨(some 65), (.load false 1), [.t 64], none, [5]⟩,
      ⟨(some 66), (.build [(.imm (.int .i64 0)), (.imm (.int .i64 0)), (.imm (.int .i64 0))] [(2, 1)]), [.t 65], none, [6]⟩,
      ⟨(some 67), (.bsl 3), [.t 66], none, [7]⟩,
      ⟨(some 68), (.append 3 24 false), [.t 59, .t 67], none, [0, 8]⟩,
      ⟨(some 7), .mov, [.t 68], none, [9, 9, 0, 1, 2, 3, 4, 5, 6, 7, 8, 9]⟩] false)
    (.region [⟨(some 69), .mov, [.t 8], none, []⟩,
      ⟨(some 70), (.faddr 10 false 1), [.t 5], none, []⟩,
      ⟨(some 71), (.load false 1), [.t 70], none, [1]⟩,
      ⟨(some 72), (.faddr 10 false 1), [.t 5], none, []⟩,
      ⟨(some 73), (.load false 1), [.t 72], none, [3]⟩,
      ⟨(some 74), .len, [.t 73], none, [4]⟩,
      ⟨(some 75), (.bin .sub), [.t 74, .c (.int .i64 1)], none, [5]⟩,
      ⟨(some 76), .mov, [.t 9], none, []⟩,
      ⟨(some 77), (.bin .sub), [.t 75, .t 76], none, [6, 7]⟩,
      ⟨(some 78), (.iaddr 3), [.t 71, .t 77], none, [2, 8]⟩,
      ⟨(some 79), (.faddr 2 false 1), [.t 78], none, [9]⟩,
      ⟨(some 80), (.load false 1), [.t 79], none, [10]⟩,
      ⟨(some 81), (.un .neg), [.t 80], none, [11]⟩,
      ⟨(some 82), (.build [(.imm (.int .i64 0)), (.imm (.int .i64 0)), (.imm (.int .i64 0))] [(2, 1)]), [.t 81], none, [12]⟩,
      ⟨(some 83), (.bsl 3), [.t 82], none, [13]⟩,
      ⟨(some 84), (.append 3 24 false), [.t 69, .t 83], none, [0, 14]⟩,
      ⟨(some 8), .mov, [.t 84], none, [15, 15, 0, 1, 2, 3, 4, 5, 6, 7, 8, 9, 10, 11, 12, 13, 14, 15]⟩] false)))
  (.region [⟨(some 57), .mov, [.t 9], none, []⟩,
    ⟨(some 58), (.bin .add), [.t 57, .c (.int .i64 1)], none, [0]⟩,
    ⟨(some 9), .mov, [.t 58], none, [1, 0, 1]⟩] false))
def b3l0 : DCode := .keep [3, 4, 5, 7, 8, 9] [3, 4, 5, 7, 8, 68, 84]
  (.seq
   (.seq
    (.region [⟨(some 52), .mov, [.t 9], none, []⟩,
      ⟨(some 53), (.faddr 10 false 1), [.t 5], none, []⟩,
      ⟨(some 54), (.load false 1), [.t 53], none, [1]⟩,
      ⟨(some 55), .len, [.t 54], none, [2]⟩,
      ⟨(some 56), (.bin .lss), [.t 52, .t 55], none, [0, 3]⟩] false)
    (.cond (.t 56)
     .skip
     (.exit 0)))
   (.keep [3, 4, 5, 7, 8, 9] [3, 4, 5, 7, 8, 68, 84] b3k0))
def b3k1 : DCode :=
 (.region [⟨(some 158), .mov, [.t 16], none, []⟩,
   ⟨(some 159), (.bin .add), [.t 158, .c (.int .i64 1)], none, [0]⟩,
   ⟨(some 16), .mov, [.t 159], none, [1, 0, 1]⟩] false)
def b3k2 : DCode :=
 (.seq
  (.block 3
   (.seq
    (.region [⟨(some 160), .movv, [.t 14], none, []⟩,
      ⟨(some 161), .mov, [.t 16], none, []⟩,
      ⟨(some 162), (.iaddr 2), [.t 160, .t 161], none, [0, 1]⟩,
      ⟨(some 163), (.load true 2), [.t 162], none, [2]⟩,
      ⟨(some 164), .movv, [.t 10], none, []⟩,
      ⟨(some 165), .movv, [.t 10], none, []⟩,
      ⟨(some 166), .len, [.t 165], none, [5]⟩,
      ⟨(some 167), (.bin .sub), [.t 166, .c (.int .i64 2)], none, [6]⟩,
      ⟨(some 168), .mov, [.t 16], none, []⟩,
      ⟨(some 169), (.bin .sub), [.t 167, .t 168], none, [7, 8]⟩,
      ⟨(some 170), (.iaddr 2), [.t 164, .t 169], none, [4, 9]⟩,
      ⟨(some 171), (.load true 2), [.t 170], none, [10]⟩,
      ⟨(some 172), (.eqs [false, false] true), [.t 163, .t 171], none, [3, 11]⟩] true)
    (.cond (.t 172)
     (.seq
      (.region [⟨(some 6), .mov, [.c (.bool false)], none, []⟩] false)
      .ret)
     .skip)))
  (.keep [3, 4, 5, 7, 8, 10, 13, 14, 16] [3, 4, 5, 7, 8, 13, 68, 84] b3k1))
def b3l1 : DCode := .keep [3, 4, 5, 7, 8, 10, 13, 14, 16] [3, 4, 5, 7, 8, 13, 68, 84]
  (.seq
   (.seq
    (.region [⟨(some 153), .mov, [.t 16], none, []⟩,
      ⟨(some 154), (.bin .add), [.t 153, .c (.int .i64 1)], none, [0]⟩,
      ⟨(some 155), .movv, [.t 10], none, []⟩,
      ⟨(some 156), .len, [.t 155], none, [2]⟩,
      ⟨(some 157), (.bin .lss), [.t 154, .t 156], none, [1, 3]⟩] false)
    (.cond (.t 157)
     .skip
     (.exit 2)))
   (.keep [3, 4, 5, 7, 8, 10, 13, 14, 16] [3, 4, 5, 7, 8, 13, 68, 84] b3k2))
def b3k3 : DCode :=
 (.seq
  (.region [⟨(some 213), .mov, [.t 19], none, []⟩,
    ⟨(some 214), (.bin .eql), [.t 213, .c (.int .i64 0)], none, [0]⟩,
    ⟨(some 215), .mov, [.t 214], none, [1]⟩,
    ⟨(some 216), (.faddr 0 false 1), [.t 18], (some (215, true)), [2]⟩,
    ⟨(some 217), (.load false 1), [.t 216], (some (215, true)), [3, 2]⟩,
    ⟨(some 218), .movv, [.t 7], (some (215, true)), [2]⟩,
    ⟨(some 219), .len, [.t 218], (some (215, true)), [5, 2]⟩,
    ⟨(some 220), .call, [.f 11, .t 217, .c (.int .i64 1), .t 219], (some (215, true)), [4, 6, 2, 2]⟩,
    ⟨(some 221), .pick, [.t 215, .t 220, .c (.bool false)], none, [2, 7]⟩,
    ⟨(some 222), .mov, [.t 221], none, [8, 7]⟩,
    ⟨(some 223), (.faddr 2 false 1), [.t 18], (some (222, true)), [9]⟩,
    ⟨(some 224), (.load false 1), [.t 223], (some (222, true)), [10, 9]⟩,
    ⟨(some 225), (.bin .leq), [.t 224, .c (.int .i64 1)], (some (222, true)), [11, 9]⟩,
    ⟨(some 226), .pick, [.t 222, .t 225, .c (.bool false)], none, [9, 12]⟩,
    ⟨(some 227), .mov, [.t 226], none, [13, 9]⟩,
    ⟨(some 228), (.faddr 0 false 1), [.t 18], (some (227, true)), [14]⟩,
    ⟨(some 229), (.load false 1), [.t 228], (some (227, true)), [15, 14]⟩,
    ⟨(some 230), .movv, [.t 7], (some (227, true)), [14]⟩,
    ⟨(some 231), .len, [.t 230], (some (227, true)), [17, 14]⟩,
    ⟨(some 232), (.bin .eql), [.t 229, .t 231], (some (227, true)), [16, 18, 14]⟩,
    ⟨(some 233), .mov, [.t 232], (some (227, true)), [19, 14, 14]⟩,
    ⟨(some 234), .mov, [.t 21], (some (233, false)), [20]⟩,
    ⟨(some 235), (.bin .eql), [.t 234, .c (.int .i64 0)], (some (233, false)), [21, 20]⟩,
    ⟨(some 236), .pick, [.t 233, .c (.bool true), .t 235], (some (227, true)), [20, 22, 14]⟩,
    ⟨(some 237), .pick, [.t 227, .t 236, .c (.bool false)], none, [14, 23]⟩,
    ⟨(some 6), .mov, [.t 237], none, [24, 20, 0, 1, 2, 3, 4, 5, 6, 7, 8, 9, 10, 11, 12, 13, 14, 15, 16, 17, 18, 19, 20, 21, 22, 23, 24]⟩] false)
  .ret)
def b3k4 : DCode :=
 (.seq
  (.region [⟨(some 173), (.faddr 0 true 10), [.t 5], none, []⟩,
    ⟨(some 174), (.load true 10), [.t 173], none, [0]⟩,
    ⟨(some 17), (.alloc [(.imm (.int .i64 0)), (.imm (.int .i64 0)), (.imm (.int .i64 0)), (.imm (.int .i64 0)), (.imm (.int .i64 0)), (.imm (.int .i64 0)), (.imm (.int .i64 0)), (.imm (.int .i64 0)), (.imm (.int .i64 0)), (.imm (.int .i64 0))]), [], none, []⟩,
    ⟨none, (.store 10), [.t 17, .t 174], none, [2, 1, 0, 1, 2]⟩] false)
  (.seq
   (.region [⟨(some 175), (.faddr 0 true 5), [.t 17], none, []⟩,
     ⟨(some 176), (.faddr 2 false 1), [.t 175], none, [0]⟩,
     ⟨none, (.store 1), [.t 176, .c (.int .i64 1000000)], none, [1]⟩,
     ⟨(some 177), (.faddr 0 true 5), [.t 17], none, [0, 1, 2]⟩,
     ⟨(some 178), (.faddr 3 false 1), [.t 177], none, [3, 0, 1, 2]⟩,
     ⟨none, (.store 1), [.t 178, .c (.int .i64 1000000)], none, [4, 2, 0, 1, 2]⟩] false)
   (.seq
    (.region [⟨(some 179), (.faddr 5 true 5), [.t 17], none, []⟩,
      ⟨(some 180), (.faddr 2 false 1), [.t 179], none, [0]⟩,
      ⟨none, (.store 1), [.t 180, .c (.int .i64 1000000)], none, [1]⟩,
      ⟨(some 181), (.faddr 5 true 5), [.t 17], none, [0, 1, 2]⟩,
      ⟨(some 182), (.faddr 3 false 1), [.t 181], none, [3, 0, 1, 2]⟩,
      ⟨none, (.store 1), [.t 182, .c (.int .i64 1000000)], none, [4, 2, 0, 1, 2]⟩] false)
    (.seq
     (.region [⟨(some 184), (.load true 3), [.t 3], none, []⟩,
       ⟨(some 185), .call, [.f 9, .t 184], none, [0]⟩,
       ⟨(some 186), (.load true 2), [.t 4], none, []⟩,
       ⟨(some 187), (.load true 10), [.t 17], none, []⟩,
       ⟨(some 188), .movv, [.t 7], none, []⟩,
       ⟨(some 189), .call, [.f 10, .t 188], none, [4, 1]⟩,
       ⟨(some 190), (.build [(.imm (.int .i64 0)), (.imm (.int .i64 0)), (.imm (.int .i64 0)), (.imm (.int .i64 0)), (.imm (.int .i64 0)), (.imm (.int .i64 0)), (.imm (.int .i64 0)), (.imm (.int .i64 0)), (.imm (.int .i64 0)), (.imm (.int .i64 0)), (.imm (.slc 3 []))] [(0, 10), (10, 1)]), [.t 187, .t 189], none, [3, 5]⟩,
       ⟨(some 191), .call, [.f 12, .t 185, .t 186, .t 190], none, [1, 2, 6, 5]⟩,
       ⟨(some 183), .mov, [.t 191], none, [7]⟩,
       ⟨(some 192), (.ext 0), [.t 183], none, [8]⟩,
       ⟨(some 193), (.ext 1), [.t 183], none, [8]⟩,
       ⟨(some 18), (.alloc [(.imm (.int .i64 0)), (.imm (.int .i64 0)), (.imm (.int .i64 0))]), [], none, []⟩,
       ⟨none, (.store 3), [.t 18, .t 192], none, [11, 9, 7, 0, 1, 2, 3, 4, 5, 6, 7, 8, 9, 11]⟩,
       ⟨(some 19), .mov, [.t 193], none, [10, 12, 0, 1, 2, 3, 4, 5, 6, 7, 8, 9, 10, 11, 12]⟩] true)
     (.seq
      (.region [⟨(some 195), (.load true 3), [.t 3], none, []⟩,
        ⟨(some 196), .call, [.f 9, .t 195], none, [0]⟩,
        ⟨(some 197), (.load true 2), [.t 13], none, []⟩,
        ⟨(some 198), (.load true 10), [.t 17], none, []⟩,
        ⟨(some 199), .movv, [.t 8], none, []⟩,
        ⟨(some 200), .call, [.f 10, .t 199], none, [4, 1]⟩,
        ⟨(some 201), (.build [(.imm (.int .i64 0)), (.imm (.int .i64 0)), (.imm (.int .i64 0)), (.imm (.int .i64 0)), (.imm (.int .i64 0)), (.imm (.int .i64 0)), (.imm (.int .i64 0)), (.imm (.int .i64 0)), (.imm (.int .i64 0)), (.imm (.int .i64 0)), (.imm (.slc 3 []))] [(0, 10), (10, 1)]), [.t 198, .t 200], none, [3, 5]⟩,
        ⟨(some 202), .call, [.f 12, .t 196, .t 197, .t 201], none, [1, 2, 6, 5]⟩,
        ⟨(some 194), .mov, [.t 202], none, [7]⟩,
        ⟨(some 203), (.ext 0), [.t 194], none, [8]⟩,
        ⟨(some 204), (.ext 1), [.t 194], none, [8]⟩,
        ⟨(some 20), (.alloc [(.imm (.int .i64 0)), (.imm (.int .i64 0)), (.imm (.int .i64 0))]), [], none, []⟩,
        ⟨none, (.store 3), [.t 20, .t 203], none, [11, 9, 7, 0, 1, 2, 3, 4, 5, 6, 7, 8, 9, 11]⟩,
        ⟨(some 21), .mov, [.t 204], none, [10, 12, 0, 1, 2, 3, 4, 5, 6, 7, 8, 9, 10, 11, 12]⟩] true)
      (.seq
       (.seq
        (.region [⟨(some 205), .mov, [.t 19], none, []⟩,
          ⟨(some 206), (.bin .eql), [.t 205, .c (.int .i64 12)], none, [0]⟩] false)
        (.cond (.t 206)
         (.seq
          (.region [⟨(some 207), .mov, [.t 21], none, []⟩,
            ⟨(some 208), (.bin .eql), [.t 207, .c (.int .i64 12)], none, [0]⟩,
            ⟨(some 209), .mov, [.t 208], none, [1]⟩,
            ⟨(some 210), .mov, [.t 21], (some (209, false)), [2]⟩,
            ⟨(some 211), (.bin .eql), [.t 210, .c (.int .i64 0)], (some (209, false)), [3, 2]⟩,
            ⟨(some 212), .pick, [.t 209, .c (.bool true), .t 211], none, [2, 4]⟩,
            ⟨(some 6), .mov, [.t 212], none, [5, 2, 0, 1, 2, 3, 4, 5]⟩] false)
          .ret)
         .skip))
       (.keep [7, 18, 19, 21] [7, 18, 68] b3k3)))))))
def b3k5 : DCode :=
 (.seq
  (.seq
   (.region [⟨(some 16), .mov, [.c (.int .i64 0)], none, []⟩] false)
   (.block 2
    (.loop b3l1)))
  (.keep [3, 4, 5, 7, 8, 13] [3, 4, 5, 7, 8, 13, 68, 84] b3k4))
def b3k6 : DCode :=
 (.seq
  (.region [⟨(some 113), .movv, [.t 10], none, []⟩,
    ⟨(some 114), .movv, [.t 10], none, []⟩,
    ⟨(some 115), .len, [.t 114], none, [1]⟩,
    ⟨(some 116), (.bin .sub), [.t 115, .c (.int .i64 1)], none, [2]⟩,
    ⟨(some 117), (.iaddr 2), [.t 113, .t 116], none, [0, 3]⟩,
    ⟨(some 118), (.load true 2), [.t 117], none, [4]⟩,
    ⟨(some 13), (.alloc [(.imm (.int .i64 0)), (.imm (.int .i64 0))]), [], none, []⟩,
    ⟨none, (.store 2), [.t 13, .t 118], none, [6, 5, 0, 1, 2, 3, 4, 5, 6]⟩] false)
  (.seq
   (.region [⟨(some 120), (.load true 3), [.t 3], none, []⟩,
     ⟨(some 121), .call, [.f 9, .t 120], none, [0]⟩,
     ⟨(some 122), (.load true 2), [.t 13], none, []⟩,
     ⟨(some 123), .movv, [.t 8], none, []⟩,
     ⟨(some 124), .call, [.f 10, .t 123], none, [3, 1]⟩,
     ⟨(some 125), .call, [.f 8, .t 121, .t 122, .t 124], none, [1, 2, 4, 4]⟩,
     ⟨(some 119), .mov, [.t 125], none, [5]⟩,
     ⟨(some 126), (.ext 0), [.t 119], none, [6]⟩,
     ⟨(some 127), (.ext 1), [.t 119], none, [6]⟩,
     ⟨(some 128), (.ext 2), [.t 119], none, [6]⟩,
     ⟨(some 15), (.alloc [(.imm (.int .i64 0)), (.imm (.int .i64 0))]), [], none, []⟩,
     ⟨(some 14), .movv, [.t 126], none, [7, 5, 0, 1, 2, 3, 4, 5, 6, 7, 10]⟩,
     ⟨none, (.store 2), [.t 15, .t 127], none, [10, 8, 11, 0, 1, 2, 3, 4, 5, 6, 7, 8, 10, 11]⟩,
     ⟨(some 12), .mov, [.t 128], none, [9, 12, 0, 1, 2, 3, 4, 5, 6, 7, 8, 9, 10, 11, 12]⟩] true)
   (.seq
    (.seq
     (.region [⟨(some 129), .mov, [.t 12], none, []⟩,
       ⟨(some 130), (.bin .neq), [.t 129, .c (.int .i64 0)], none, [0]⟩,
       ⟨(some 131), .mov, [.t 130], none, [1]⟩,
       ⟨(some 132), (.load true 2), [.t 15], (some (131, false)), [2]⟩,
       ⟨(some 133), (.build [(.imm (.int .i64 0)), (.imm (.int .i64 0))] []), [], (some (131, false)), [2]⟩,
       ⟨(some 134), (.eqs [false, false] true), [.t 132, .t 133], (some (131, false)), [3, 4, 2]⟩,
       ⟨(some 135), .pick, [.t 131, .c (.bool true), .t 134], none, [2, 5]⟩,
       ⟨(some 136), .mov, [.t 135], none, [6, 2]⟩,
       ⟨(some 137), .movv, [.t 14], (some (136, false)), [7]⟩,
       ⟨(some 138), .len, [.t 137], (some (136, false)), [8, 7]⟩,
       ⟨(some 139), .movv, [.t 7], (some (136, false)), [7]⟩,
       ⟨(some 140), .len, [.t 139], (some (136, false)), [10, 7]⟩,
       ⟨(some 141), (.bin .neq), [.t 138, .t 140], (some (136, false)), [9, 11, 7]⟩,
       ⟨(some 142), .pick, [.t 136, .c (.bool true), .t 141], none, [7, 12]⟩,
       ⟨(some 143), .mov, [.t 142], none, [13, 7]⟩,
       ⟨(some 144), .movv, [.t 14], (some (143, false)), [14]⟩,
       ⟨(some 145), .movv, [.t 14], (some (143, false)), [14]⟩,
       ⟨(some 146), .len, [.t 145], (some (143, false)), [16, 14]⟩,
       ⟨(some 147), (.bin .sub), [.t 146, .c (.int .i64 1)], (some (143, false)), [17, 14]⟩,
       ⟨(some 148), (.iaddr 2), [.t 144, .t 147], (some (143, false)), [15, 18, 14]⟩,
       ⟨(some 149), (.load true 2), [.t 148], (some (143, false)), [19, 14]⟩,
       ⟨(some 150), (.load true 2), [.t 4], (some (143, false)), [14]⟩,
       ⟨(some 151), (.eqs [false, false] true), [.t 149, .t 150], (some (143, false)), [20, 21, 14]⟩,
       ⟨(some 152), .pick, [.t 143, .c (.bool true), .t 151], none, [14, 22]⟩] true)
     (.cond (.t 152)
      (.seq
       (.region [⟨(some 6), .mov, [.c (.bool false)], none, []⟩] false)
       .ret)
      .skip))
    (.keep [3, 4, 5, 7, 8, 10, 13, 14] [3, 4, 5, 7, 8, 13, 68, 84] b3k5))))
def b3k7 : DCode :=
 (.seq
  (.seq
   (.region [⟨(some 110), (.load true 2), [.t 11], none, []⟩,
     ⟨(some 111), (.build [(.imm (.int .i64 0)), (.imm (.int .i64 0))] []), [], none, []⟩,
     ⟨(some 112), (.eqs [false, false] true), [.t 110, .t 111], none, [0, 1]⟩] false)
   (.cond (.t 112)
    (.seq
     (.region [⟨(some 6), .mov, [.c (.bool true)], none, []⟩] false)
     .ret)
    .skip))
  (.keep [3, 4, 5, 7, 8, 10] [3, 4, 5, 7, 8, 68, 84] b3k6))
def b3k8 : DCode :=
 (.seq
  (.seq
   (.region [⟨(some 99), .movv, [.t 10], none, []⟩,
     ⟨(some 100), .len, [.t 99], none, [0]⟩,
     ⟨(some 101), .movv, [.t 7], none, []⟩,
     ⟨(some 102), .len, [.t 101], none, [2]⟩,
     ⟨(some 103), (.bin .neq), [.t 100, .t 102], none, [1, 3]⟩,
     ⟨(some 104), .mov, [.t 103], none, [4]⟩,
     ⟨(some 105), (.faddr 1 false 1), [.t 11], (some (104, false)), [5]⟩,
     ⟨(some 106), (.load false 1), [.t 105], (some (104, false)), [6, 5]⟩,
     ⟨(some 107), .call, [.f 11, .t 106, .c (.int .i64 0), .c (.int .i64 16000000000)], (some (104, false)), [7, 5, 5]⟩,
     ⟨(some 108), (.un .not), [.t 107], (some (104, false)), [8, 5]⟩,
     ⟨(some 109), .pick, [.t 104, .c (.bool true), .t 108], none, [5, 9]⟩] false)
   (.cond (.t 109)
    (.seq
     (.region [⟨(some 6), .mov, [.c (.bool false)], none, []⟩] false)
     .ret)
    .skip))
  (.keep [3, 4, 5, 7, 8, 10, 11] [3, 4, 5, 7, 8, 11, 68, 84] b3k7))
def b3k9 : DCode :=
 (.seq
  (.region [⟨(some 86), (.load true 3), [.t 3], none, []⟩,
    ⟨(some 87), .call, [.f 9, .t 86], none, [0]⟩,
    ⟨(some 88), (.load true 2), [.t 4], none, []⟩,
    ⟨(some 89), .movv, [.t 7], none, []⟩,
    ⟨(some 90), .call, [.f 10, .t 89], none, [3, 1]⟩,
    ⟨(some 91), .call, [.f 8, .t 87, .t 88, .t 90], none, [1, 2, 4, 4]⟩,
    ⟨(some 85), .mov, [.t 91], none, [5]⟩,
    ⟨(some 92), (.ext 0), [.t 85], none, [6]⟩,
    ⟨(some 93), (.ext 1), [.t 85], none, [6]⟩,
    ⟨(some 94), (.ext 2), [.t 85], none, [6]⟩,
    ⟨(some 11), (.alloc [(.imm (.int .i64 0)), (.imm (.int .i64 0))]), [], none, []⟩,
    ⟨(some 10), .movv, [.t 92], none, [7, 5, 0, 1, 2, 3, 4, 5, 6, 7, 10]⟩,
    ⟨none, (.store 2), [.t 11, .t 93], none, [10, 8, 11, 0, 1, 2, 3, 4, 5, 6, 7, 8, 10, 11]⟩,
    ⟨(some 12), .mov, [.t 94], none, [9, 12, 0, 1, 2, 3, 4, 5, 6, 7, 8, 9, 10, 11, 12]⟩] true)
  (.seq
   (.seq
    (.region [⟨(some 95), .mov, [.t 12], none, []⟩,
      ⟨(some 96), (.bin .neq), [.t 95, .c (.int .i64 0)], none, [0]⟩] false)
    (.cond (.t 96)
     (.seq
      (.region [⟨(some 97), .mov, [.t 12], none, []⟩,
        ⟨(some 98), (.bin .eql), [.t 97, .c (.int .i64 22)], none, [0]⟩,
        ⟨(some 6), .mov, [.t 98], none, [1, 0, 1]⟩] false)
      .ret)
     .skip))
   (.keep [3, 4, 5, 7, 8, 10, 11] [3, 4, 5, 7, 8, 11, 68, 84] b3k8)))
def b3k10 : DCode :=
 (.seq
  (.region [⟨(some 51), (.faddr 2 false 1), [.t 3], none, []⟩,
    ⟨none, (.store 1), [.t 51, .c (.int .i64 0)], none, [0]⟩] false)
  (.seq
   (.region [⟨(some 7), (.ntok 3), [.c (.slc 3 [])], none, []⟩,
     ⟨(some 8), (.ntok 3), [.c (.slc 3 [])], none, [0]⟩] false)
   (.seq
    (.seq
     (.region [⟨(some 9), .mov, [.c (.int .i64 0)], none, []⟩] false)
     (.block 0
      (.loop b3l0)))
    (.keep [3, 4, 5, 7, 8] [3, 4, 5, 7, 8, 68, 84] b3k9))))
def b3k11 : DCode :=
 (.seq
  (.seq
   (.region [⟨(some 24), (.load true 3), [.t 3], none, []⟩,
     ⟨(some 25), .call, [.f 5, .t 24], none, [0]⟩,
     ⟨(some 26), (.un .not), [.t 25], none, [1]⟩,
     ⟨(some 27), .mov, [.t 26], none, [2, 1]⟩,
     ⟨(some 28), (.faddr 10 false 1), [.t 5], (some (27, false)), [3]⟩,
     ⟨(some 29), (.load false 1), [.t 28], (some (27, false)), [4, 3]⟩,
     ⟨(some 30), .len, [.t 29], (some (27, false)), [5, 3]⟩,
     ⟨(some 31), (.bin .eql), [.t 30, .c (.int .i64 0)], (some (27, false)), [6, 3]⟩,
     ⟨(some 32), .pick, [.t 27, .c (.bool true), .t 31], none, [3, 7]⟩,
     ⟨(some 33), .mov, [.t 32], none, [8, 3]⟩,
     ⟨(some 34), (.faddr 10 false 1), [.t 5], (some (33, false)), [9]⟩,
     ⟨(some 35), (.load false 1), [.t 34], (some (33, false)), [10, 9]⟩,
     ⟨(some 36), .len, [.t 35], (some (33, false)), [11, 9]⟩,
     ⟨(some 37), (.bin .gtr), [.t 36, .c (.int .i64 8)], (some (33, false)), [12, 9]⟩,
     ⟨(some 38), .pick, [.t 33, .c (.bool true), .t 37], none, [9, 13]⟩,
     ⟨(some 39), .mov, [.t 38], none, [14, 9]⟩,
     ⟨(some 40), (.load true 3), [.t 3], (some (39, false)), [15]⟩,
     ⟨(some 41), (.load true 2), [.t 4], (some (39, false)), [15]⟩,
     ⟨(some 42), .call, [.f 6, .t 40, .t 41], (some (39, false)), [16, 17, 15, 15]⟩,
     ⟨(some 43), (.bin .neq), [.t 42, .c (.int .i64 0)], (some (39, false)), [18, 15]⟩,
     ⟨(some 44), .pick, [.t 39, .c (.bool true), .t 43], none, [15, 19]⟩,
     ⟨(some 45), .mov, [.t 44], none, [20, 18]⟩,
     ⟨(some 46), (.load true 3), [.t 3], (some (45, false)), [21]⟩,
     ⟨(some 47), (.load true 11), [.t 5], (some (45, false)), [21]⟩,
     ⟨(some 48), .call, [.f 7, .t 46, .t 47], (some (45, false)), [22, 23, 21, 21]⟩,
     ⟨(some 49), (.bin .neq), [.t 48, .c (.int .i64 0)], (some (45, false)), [24, 21]⟩,
     ⟨(some 50), .pick, [.t 45, .c (.bool true), .t 49], none, [21, 25]⟩] false)
   (.cond (.t 50)
    (.seq
     (.region [⟨(some 6), .mov, [.c (.bool true)], none, []⟩] false)
     .ret)
    .skip))
  (.keep [3, 4, 5] [3, 4, 5] b3k10))
def b3 : DCode :=
 (.seq
  (.region [⟨(some 3), .box, [.t 0], none, []⟩,
    ⟨(some 4), .box, [.t 1], none, []⟩,
    ⟨(some 5), .box, [.t 2], none, []⟩,
    ⟨(some 6), .mov, [.c (.bool false)], none, []⟩] false)
  (.seq
   (.seq
    (.region [⟨(some 22), .call, [.f 4], none, []⟩,
      ⟨(some 23), (.un .not), [.t 22], none, [0]⟩] false)
    (.cond (.t 23)
     (.seq
      (.region [⟨(some 6), .mov, [.c (.bool false)], none, []⟩] false)
      .ret)
     .skip))
   (.keep [3, 4, 5] [3, 4, 5] b3k11)))
def d3 : DFn := ⟨3, 238, [.tmp 6], b3⟩
theorem body3 : d3.body = b3 := rfl
theorem res3 : d3.res = [.tmp 6] := rfl
theorem k3 : chkFn Try.prog Try.f3 d3 = true := by kernel_rfl

/-- guidevane/guidevanetop.lakeShown -/
def b4 : DCode :=
 (.seq
  (.region [⟨(some 0), .mov, [.c (.bool false)], none, []⟩] false)
  (.seq
   (.region [⟨(some 7), .call, [.f 14], none, []⟩,
     ⟨(some 8), (.build [(.imm (.int .i64 0)), (.imm (.int .i64 0))] [(0, 1), (1, 1)]), [.c (.int .i64 2950), .c (.int .i64 500)], none, []⟩,
     ⟨(some 9), (.build [(.imm (.int .i64 0)), (.imm (.int .i64 0)), (.imm (.int .i64 0))] [(2, 1)]), [.c (.int .i64 200)], none, []⟩,
     ⟨(some 10), .call, [.f 13, .t 7, .t 8, .t 9], none, [0, 1, 2, 0]⟩,
     ⟨(some 6), .mov, [.t 10], none, [3]⟩,
     ⟨(some 11), (.ext 0), [.t 6], none, [4]⟩,
     ⟨(some 12), (.ext 1), [.t 6], none, [4]⟩,
     ⟨(some 13), (.ext 2), [.t 6], none, [4]⟩,
     ⟨(some 1), (.alloc [(.imm (.int .i64 0)), (.imm (.int .i64 0))]), [], none, []⟩,
     ⟨(some 2), (.alloc [(.imm (.int .i64 0)), (.imm (.int .i64 0))]), [], none, []⟩,
     ⟨none, (.store 2), [.t 1, .t 11], none, [8, 5, 3, 0, 1, 2, 3, 4, 5, 8, 9]⟩,
     ⟨none, (.store 2), [.t 2, .t 12], none, [9, 6, 10, 0, 1, 2, 3, 4, 5, 6, 8, 9, 10]⟩,
     ⟨(some 3), .mov, [.t 13], none, [7, 11, 0, 1, 2, 3, 4, 5, 6, 7, 8, 9, 10, 11]⟩] false)
   (.seq
    (.region [⟨(some 15), .call, [.f 16], none, []⟩,
      ⟨(some 16), .call, [.f 15, .t 15, .c (.int .i64 1501)], none, [0, 0]⟩,
      ⟨(some 14), .mov, [.t 16], none, [1]⟩,
      ⟨(some 17), (.ext 0), [.t 14], none, [2]⟩,
      ⟨(some 18), (.ext 1), [.t 14], none, [2]⟩,
      ⟨(some 4), (.alloc [(.imm (.int .i64 0)), (.imm (.int .i64 0))]), [], none, []⟩,
      ⟨none, (.store 2), [.t 4, .t 17], none, [5, 3, 1, 0, 1, 2, 3, 5]⟩,
      ⟨(some 5), .mov, [.t 18], none, [4, 6, 0, 1, 2, 3, 4, 5, 6]⟩] false)
    (.seq
     (.region [⟨(some 19), .mov, [.t 3], none, []⟩,
       ⟨(some 20), (.bin .eql), [.t 19, .c (.int .i64 0)], none, [0]⟩,
       ⟨(some 21), .mov, [.t 20], none, [1]⟩,
       ⟨(some 22), (.load true 2), [.t 1], (some (21, true)), [2]⟩,
       ⟨(some 23), (.build [(.imm (.int .i64 0)), (.imm (.int .i64 0))] [(0, 1), (1, 1)]), [.c (.int .i64 3000), .c (.int .i64 295)], (some (21, true)), [2]⟩,
       ⟨(some 24), (.eqs [false, false] false), [.t 22, .t 23], (some (21, true)), [3, 4, 2]⟩,
       ⟨(some 25), .pick, [.t 21, .t 24, .c (.bool false)], none, [2, 5]⟩,
       ⟨(some 26), .mov, [.t 25], none, [6, 2]⟩,
       ⟨(some 27), (.load true 2), [.t 2], (some (26, true)), [7]⟩,
       ⟨(some 28), (.build [(.imm (.int .i64 0)), (.imm (.int .i64 0))] [(0, 1), (1, 1)]), [.c (.int .i64 15), .c (.int .i64 140)], (some (26, true)), [7]⟩,
       ⟨(some 29), (.eqs [false, false] false), [.t 27, .t 28], (some (26, true)), [8, 9, 7]⟩,
       ⟨(some 30), .pick, [.t 26, .t 29, .c (.bool false)], none, [7, 10]⟩,
       ⟨(some 31), .mov, [.t 30], none, [11, 7]⟩,
       ⟨(some 32), .mov, [.t 5], (some (31, true)), [12]⟩,
       ⟨(some 33), (.bin .eql), [.t 32, .c (.int .i64 0)], (some (31, true)), [13, 12]⟩,
       ⟨(some 34), .pick, [.t 31, .t 33, .c (.bool false)], none, [12, 14]⟩,
       ⟨(some 35), .mov, [.t 34], none, [15, 12]⟩,
       ⟨(some 36), (.load true 2), [.t 4], (some (35, true)), [16]⟩,
       ⟨(some 37), (.build [(.imm (.int .i64 0)), (.imm (.int .i64 0))] [(0, 1), (1, 1)]), [.c (.int .i64 125), .c (.int .i64 126)], (some (35, true)), [16]⟩,
       ⟨(some 38), (.eqs [false, false] false), [.t 36, .t 37], (some (35, true)), [17, 18, 16]⟩,
       ⟨(some 39), .pick, [.t 35, .t 38, .c (.bool false)], none, [16, 19]⟩,
       ⟨(some 0), .mov, [.t 39], none, [20, 16, 0, 1, 2, 3, 4, 5, 6, 7, 8, 9, 10, 11, 12, 13, 14, 15, 16, 17, 18, 19, 20]⟩] false)
     .ret))))
def d4 : DFn := ⟨0, 40, [.tmp 0], b4⟩
theorem body4 : d4.body = b4 := rfl
theorem res4 : d4.res = [.tmp 0] := rfl
theorem k4 : chkFn Try.prog Try.f4 d4 = true := by kernel_rfl

end Go.DI

