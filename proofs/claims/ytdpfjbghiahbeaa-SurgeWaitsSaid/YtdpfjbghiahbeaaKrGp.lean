/- Contracts of bounds and waits. No condition. -/
import Derived.Test.YtdpfjbghiahbeaaKrGo
/- The reference's functions of bounds and waits, as data. No condition. -/
namespace Go.DI
open Go.Proofs Go.RowKit
/-- guidevane/guidevanelaw04.SurgeWaits -/
def b12k0 : DCode :=
 (.seq
  (.region [⟨(some 190), .mov, [.t 18], none, []⟩] false)
  (.cond (.t 190)
   (.seq
    (.region [⟨(some 6), .mov, [.c (.bool false)], none, []⟩] false)
    .ret)
   .skip))
def b12k1 : DCode :=
 (.seq
  (.region [⟨(some 168), (.faddr 0 false 1), [.t 16], none, []⟩,
    ⟨(some 169), (.load false 1), [.t 168], none, [0]⟩,
    ⟨(some 170), (.faddr 5 true 2), [.t 5], none, []⟩,
    ⟨(some 171), (.faddr 0 false 1), [.t 170], none, [2]⟩,
    ⟨(some 172), (.load false 1), [.t 171], none, [3]⟩,
    ⟨(some 173), (.bin .geq), [.t 169, .t 172], none, [1, 4]⟩,
    ⟨(some 174), .mov, [.t 173], none, [5]⟩,
    ⟨(some 175), (.faddr 1 false 1), [.t 16], (some (174, true)), [6]⟩,
    ⟨(some 176), (.load false 1), [.t 175], (some (174, true)), [7, 6]⟩,
    ⟨(some 177), (.faddr 5 true 2), [.t 5], (some (174, true)), [6]⟩,
    ⟨(some 178), (.faddr 1 false 1), [.t 177], (some (174, true)), [9, 6]⟩,
    ⟨(some 179), (.load false 1), [.t 178], (some (174, true)), [10, 6]⟩,
    ⟨(some 180), (.bin .leq), [.t 176, .t 179], (some (174, true)), [8, 11, 6]⟩,
    ⟨(some 181), .pick, [.t 174, .t 180, .c (.bool false)], none, [6, 12]⟩,
    ⟨(some 18), .mov, [.t 181], none, [13, 6, 0, 1, 2, 3, 4, 5, 6, 7, 8, 9, 10, 11, 12, 13]⟩] false)
  (.seq
   (.seq
    (.region [⟨(some 182), .mov, [.t 8], none, []⟩,
      ⟨(some 183), (.bin .eql), [.t 182, .c (.int .i64 0)], none, [0]⟩,
      ⟨(some 184), .mov, [.t 183], none, [1]⟩,
      ⟨(some 185), .mov, [.t 14], (some (184, true)), [2]⟩,
      ⟨(some 186), .mov, [.t 7], (some (184, true)), [2]⟩,
      ⟨(some 187), (.bin .eql), [.t 185, .t 186], (some (184, true)), [3, 4, 2]⟩,
      ⟨(some 188), .pick, [.t 184, .t 187, .c (.bool false)], none, [2, 5]⟩] false)
    (.cond (.t 188)
     (.seq
      (.region [⟨(some 189), .mov, [.t 18], none, []⟩,
        ⟨(some 6), .mov, [.t 189], none, [0, 0]⟩] false)
      .ret)
     .skip))
   (.keep [3, 4, 5, 7, 8, 12, 14, 18] [3, 4, 5] b12k0)))
def b12k2 : DCode :=
 (.region [⟨(some 146), .mov, [.t 14], none, []⟩,
   ⟨(some 147), (.bin .add), [.t 146, .c (.int .i64 1)], none, [0]⟩,
   ⟨(some 14), .mov, [.t 147], none, [1, 0, 1]⟩] false)
def b12k3 : DCode :=
 (.seq
  (.block 1
   (.seq
    (.region [⟨(some 148), (.load true 4), [.t 4], none, []⟩,
      ⟨(some 149), .call, [.f 31, .t 148], none, [0]⟩,
      ⟨(some 15), (.alloc [(.imm (.int .i64 0)), (.imm (.slc 1 [])), (.imm (.int .i64 0)), (.imm (.int .i64 0))]), [], none, []⟩,
      ⟨none, (.store 4), [.t 15, .t 149], none, [2, 1, 1, 0, 1, 2]⟩] false)
    (.seq
     (.region [⟨(some 150), .mov, [.t 14], none, []⟩,
       ⟨(some 151), (.faddr 2 false 1), [.t 15], none, [0]⟩,
       ⟨none, (.store 1), [.t 151, .t 150], none, [1, 0, 0]⟩] false)
     (.seq
      (.region [⟨(some 153), (.load true 5), [.t 3], none, []⟩,
        ⟨(some 154), (.load true 4), [.t 15], none, []⟩,
        ⟨(some 155), .movv, [.t 12], none, []⟩,
        ⟨(some 156), .call, [.f 61, .t 155], none, [2]⟩,
        ⟨(some 157), .call, [.f 60, .t 153, .t 154, .t 156], none, [0, 1, 3, 3]⟩,
        ⟨(some 152), .mov, [.t 157], none, [4]⟩,
        ⟨(some 158), (.ext 0), [.t 152], none, [5]⟩,
        ⟨(some 159), (.ext 1), [.t 152], none, [5]⟩,
        ⟨(some 16), (.alloc [(.imm (.int .i64 0)), (.imm (.int .i64 0))]), [], none, []⟩,
        ⟨none, (.store 2), [.t 16, .t 158], none, [8, 6, 4, 0, 1, 2, 3, 4, 5, 6, 8]⟩,
        ⟨(some 17), .mov, [.t 159], none, [7, 9, 0, 1, 2, 3, 4, 5, 6, 7, 8, 9]⟩] true)
      (.seq
       (.seq
        (.region [⟨(some 160), .mov, [.t 17], none, []⟩,
          ⟨(some 161), (.bin .neq), [.t 160, .c (.int .i64 0)], none, [0]⟩] false)
        (.cond (.t 161)
         (.seq
          (.region [⟨(some 162), .mov, [.t 17], none, []⟩,
            ⟨(some 163), (.bin .eql), [.t 162, .c (.int .i64 12)], none, [0]⟩,
            ⟨(some 164), .mov, [.t 163], none, [1]⟩,
            ⟨(some 165), .mov, [.t 8], (some (164, true)), [2]⟩,
            ⟨(some 166), (.bin .eql), [.t 165, .c (.int .i64 12)], (some (164, true)), [3, 2]⟩,
            ⟨(some 167), .pick, [.t 164, .t 166, .c (.bool false)], none, [2, 4]⟩,
            ⟨(some 6), .mov, [.t 167], none, [5, 2, 0, 1, 2, 3, 4, 5]⟩] false)
          .ret)
         .skip))
       (.keep [3, 4, 5, 7, 8, 12, 14, 16] [3, 4, 5, 16] b12k1))))))
  (.keep [3, 4, 5, 7, 8, 12, 14] [3, 4, 5] b12k2))
def b12l0 : DCode := .keep [3, 4, 5, 7, 8, 12, 14] [3, 4, 5]
  (.seq
   (.seq
    (.region [⟨(some 144), .mov, [.t 14], none, []⟩,
      ⟨(some 145), (.bin .leq), [.t 144, .c (.int .i64 20)], none, [0]⟩] false)
    (.cond (.t 145)
     .skip
     (.exit 0)))
   (.keep [3, 4, 5, 7, 8, 12, 14] [3, 4, 5] b12k3))
def b12k4 : DCode :=
 (.seq
  (.region [⟨(some 191), .mov, [.t 8], none, []⟩,
    ⟨(some 192), (.bin .eql), [.t 191, .c (.int .i64 12)], none, [0]⟩,
    ⟨(some 6), .mov, [.t 192], none, [1, 0, 1]⟩] false)
  .ret)
def b12k5 : DCode :=
 (.seq
  (.seq
   (.region [⟨(some 14), .mov, [.c (.int .i64 1)], none, []⟩] false)
   (.block 0
    (.loop b12l0)))
  (.keep [8] [] b12k4))
def b12k6 : DCode :=
 (.seq
  (.region [⟨(some 61), (.load true 5), [.t 3], none, []⟩,
    ⟨(some 62), (.load true 4), [.t 4], none, []⟩,
    ⟨(some 63), .call, [.f 31, .t 62], none, [1]⟩,
    ⟨(some 64), (.load true 7), [.t 5], none, []⟩,
    ⟨(some 65), .call, [.f 77, .t 61, .t 63, .t 64], none, [0, 2, 3, 2]⟩,
    ⟨(some 60), .mov, [.t 65], none, [4]⟩,
    ⟨(some 66), (.ext 0), [.t 60], none, [5]⟩,
    ⟨(some 67), (.ext 1), [.t 60], none, [5]⟩,
    ⟨(some 7), .mov, [.t 66], none, [6, 4, 0, 1, 2, 3, 4, 5, 6]⟩,
    ⟨(some 8), .mov, [.t 67], none, [7, 8, 0, 1, 2, 3, 4, 5, 6, 7, 8]⟩] true)
  (.seq
   (.region [⟨(some 68), (.load true 7), [.t 5], none, []⟩,
     ⟨(some 9), (.alloc [(.imm (.int .i64 0)), (.imm (.int .i64 0)), (.imm (.int .i64 0)), (.imm (.int .i64 0)), (.imm (.int .i64 0)), (.imm (.int .i64 0)), (.imm (.int .i64 0))]), [], none, []⟩,
     ⟨none, (.store 7), [.t 9, .t 68], none, [1, 0, 0, 1]⟩] false)
   (.seq
    (.region [⟨(some 69), (.faddr 5 true 2), [.t 5], none, []⟩,
      ⟨(some 70), (.faddr 0 false 1), [.t 69], none, [0]⟩,
      ⟨(some 71), (.load false 1), [.t 70], none, [1]⟩,
      ⟨(some 72), (.bin .sub), [.t 71, .c (.int .i64 5)], none, [2]⟩,
      ⟨(some 73), (.faddr 5 true 2), [.t 5], none, []⟩,
      ⟨(some 74), (.faddr 1 false 1), [.t 73], none, [4]⟩,
      ⟨(some 75), (.load false 1), [.t 74], none, [5]⟩,
      ⟨(some 76), (.bin .add), [.t 75, .c (.int .i64 5)], none, [6]⟩,
      ⟨(some 77), (.build [(.imm (.int .i64 0)), (.imm (.int .i64 0))] [(0, 1), (1, 1)]), [.t 72, .t 76], none, [3, 7]⟩,
      ⟨(some 78), (.faddr 5 true 2), [.t 9], none, [0, 1, 2, 3, 4, 5, 6, 7, 8]⟩,
      ⟨none, (.store 2), [.t 78, .t 77], none, [9, 8, 0, 1, 2, 3, 4, 5, 6, 7, 8]⟩] false)
    (.seq
     (.region [⟨(some 80), (.load true 5), [.t 3], none, []⟩,
       ⟨(some 81), (.load true 4), [.t 4], none, []⟩,
       ⟨(some 82), .call, [.f 31, .t 81], none, [1]⟩,
       ⟨(some 83), (.load true 7), [.t 9], none, []⟩,
       ⟨(some 84), .call, [.f 77, .t 80, .t 82, .t 83], none, [0, 2, 3, 2]⟩,
       ⟨(some 79), .mov, [.t 84], none, [4]⟩,
       ⟨(some 85), (.ext 0), [.t 79], none, [5]⟩,
       ⟨(some 86), (.ext 1), [.t 79], none, [5]⟩,
       ⟨(some 10), .mov, [.t 85], none, [6, 4, 0, 1, 2, 3, 4, 5, 6]⟩,
       ⟨(some 11), .mov, [.t 86], none, [7, 8, 0, 1, 2, 3, 4, 5, 6, 7, 8]⟩] true)
     (.seq
      (.region [⟨(some 88), (.load true 5), [.t 3], none, []⟩,
        ⟨(some 89), (.load true 7), [.t 5], none, []⟩,
        ⟨(some 90), .call, [.f 79, .t 88, .t 89], none, [0, 1]⟩,
        ⟨(some 87), .mov, [.t 90], none, [2]⟩,
        ⟨(some 91), (.ext 0), [.t 87], none, [3]⟩,
        ⟨(some 92), (.ext 1), [.t 87], none, [3]⟩,
        ⟨(some 12), .movv, [.t 91], none, [4, 2, 0, 1, 2, 3, 4]⟩,
        ⟨(some 13), .mov, [.t 92], none, [5, 6, 0, 1, 2, 3, 4, 5, 6]⟩] false)
      (.seq
       (.seq
        (.region [⟨(some 93), .mov, [.t 13], none, []⟩,
          ⟨(some 94), (.bin .neq), [.t 93, .c (.int .i64 0)], none, [0]⟩,
          ⟨(some 95), .mov, [.t 94], none, [1]⟩,
          ⟨(some 96), .movv, [.t 12], (some (95, false)), [2]⟩,
          ⟨(some 97), .len, [.t 96], (some (95, false)), [3, 2]⟩,
          ⟨(some 98), (.bin .eql), [.t 97, .c (.int .i64 0)], (some (95, false)), [4, 2]⟩,
          ⟨(some 99), .pick, [.t 95, .c (.bool true), .t 98], none, [2, 5]⟩,
          ⟨(some 100), .mov, [.t 99], none, [6, 2]⟩,
          ⟨(some 101), .movv, [.t 12], (some (100, false)), [7]⟩,
          ⟨(some 102), .len, [.t 101], (some (100, false)), [8, 7]⟩,
          ⟨(some 103), (.bin .gtr), [.t 102, .c (.int .i64 4)], (some (100, false)), [9, 7]⟩,
          ⟨(some 104), .pick, [.t 100, .c (.bool true), .t 103], none, [7, 10]⟩,
          ⟨(some 105), .mov, [.t 104], none, [11, 7]⟩,
          ⟨(some 106), .movv, [.t 12], (some (105, false)), [12]⟩,
          ⟨(some 107), .call, [.f 59, .t 106], (some (105, false)), [13, 12, 12]⟩,
          ⟨(some 108), (.bin .neq), [.t 107, .c (.int .i64 0)], (some (105, false)), [14, 12]⟩,
          ⟨(some 109), .pick, [.t 105, .c (.bool true), .t 108], none, [12, 15]⟩,
          ⟨(some 110), .mov, [.t 109], none, [16, 14]⟩,
          ⟨(some 111), .mov, [.t 8], (some (110, false)), [17]⟩,
          ⟨(some 112), (.bin .neq), [.t 111, .c (.int .i64 0)], (some (110, false)), [18, 17]⟩,
          ⟨(some 113), .mov, [.t 112], (some (110, false)), [19, 17, 17]⟩,
          ⟨(some 114), .mov, [.t 8], (some (113, true)), [20]⟩,
          ⟨(some 115), (.bin .neq), [.t 114, .c (.int .i64 12)], (some (113, true)), [21, 20]⟩,
          ⟨(some 116), .pick, [.t 113, .t 115, .c (.bool false)], (some (110, false)), [20, 22, 17]⟩,
          ⟨(some 117), .pick, [.t 110, .c (.bool true), .t 116], none, [17, 23]⟩,
          ⟨(some 118), .mov, [.t 117], none, [24, 20]⟩,
          ⟨(some 119), .mov, [.t 11], (some (118, false)), [25]⟩,
          ⟨(some 120), (.bin .neq), [.t 119, .c (.int .i64 0)], (some (118, false)), [26, 25]⟩,
          ⟨(some 121), .mov, [.t 120], (some (118, false)), [27, 25, 25]⟩,
          ⟨(some 122), .mov, [.t 11], (some (121, true)), [28]⟩,
          ⟨(some 123), (.bin .neq), [.t 122, .c (.int .i64 12)], (some (121, true)), [29, 28]⟩,
          ⟨(some 124), .pick, [.t 121, .t 123, .c (.bool false)], (some (118, false)), [28, 30, 25]⟩,
          ⟨(some 125), .pick, [.t 118, .c (.bool true), .t 124], none, [25, 31]⟩,
          ⟨(some 126), .mov, [.t 125], none, [32, 28]⟩,
          ⟨(some 127), .mov, [.t 8], (some (126, false)), [33]⟩,
          ⟨(some 128), (.bin .eql), [.t 127, .c (.int .i64 0)], (some (126, false)), [34, 33]⟩,
          ⟨(some 129), .mov, [.t 128], (some (126, false)), [35, 33, 33]⟩,
          ⟨(some 130), .mov, [.t 11], (some (129, true)), [36]⟩,
          ⟨(some 131), (.bin .neq), [.t 130, .c (.int .i64 0)], (some (129, true)), [37, 36]⟩,
          ⟨(some 132), .mov, [.t 131], (some (129, true)), [38, 36, 36]⟩,
          ⟨(some 133), .mov, [.t 10], (some (132, false)), [39]⟩,
          ⟨(some 134), .mov, [.t 7], (some (132, false)), [39]⟩,
          ⟨(some 135), (.bin .gtr), [.t 133, .t 134], (some (132, false)), [40, 41, 39]⟩,
          ⟨(some 136), .pick, [.t 132, .c (.bool true), .t 135], (some (129, true)), [39, 42, 36]⟩,
          ⟨(some 137), .mov, [.t 136], (some (129, true)), [43, 39, 36]⟩,
          ⟨(some 138), .mov, [.t 7], (some (137, false)), [44]⟩,
          ⟨(some 139), .call, [.f 27, .t 138, .c (.int .i64 1), .c (.int .i64 20)], (some (137, false)), [45, 44, 44]⟩,
          ⟨(some 140), (.un .not), [.t 139], (some (137, false)), [46, 44]⟩,
          ⟨(some 141), .pick, [.t 137, .c (.bool true), .t 140], (some (129, true)), [44, 47, 36]⟩,
          ⟨(some 142), .pick, [.t 129, .t 141, .c (.bool false)], (some (126, false)), [36, 48, 33]⟩,
          ⟨(some 143), .pick, [.t 126, .c (.bool true), .t 142], none, [33, 49]⟩] false)
        (.cond (.t 143)
         (.seq
          (.region [⟨(some 6), .mov, [.c (.bool false)], none, []⟩] false)
          .ret)
         .skip))
       (.keep [3, 4, 5, 7, 8, 12] [3, 4, 5] b12k5)))))))
def b12k7 : DCode :=
 (.seq
  (.seq
   (.region [⟨(some 21), (.load true 5), [.t 3], none, []⟩,
     ⟨(some 22), (.load true 4), [.t 4], none, []⟩,
     ⟨(some 23), .call, [.f 35, .t 21, .t 22], none, [0, 1]⟩,
     ⟨(some 24), (.bin .neq), [.t 23, .c (.int .i64 0)], none, [2]⟩,
     ⟨(some 25), .mov, [.t 24], none, [3, 2]⟩,
     ⟨(some 26), (.load true 7), [.t 5], (some (25, false)), [4]⟩,
     ⟨(some 27), .call, [.f 76, .t 26], (some (25, false)), [5, 4, 4]⟩,
     ⟨(some 28), (.bin .neq), [.t 27, .c (.int .i64 0)], (some (25, false)), [6, 4]⟩,
     ⟨(some 29), .pick, [.t 25, .c (.bool true), .t 28], none, [4, 7]⟩,
     ⟨(some 30), .mov, [.t 29], none, [8, 6]⟩,
     ⟨(some 31), (.faddr 4 false 1), [.t 5], (some (30, false)), [9]⟩,
     ⟨(some 32), (.load false 1), [.t 31], (some (30, false)), [10, 9]⟩,
     ⟨(some 33), (.bin .gtr), [.t 32, .c (.int .i64 2)], (some (30, false)), [11, 9]⟩,
     ⟨(some 34), .pick, [.t 30, .c (.bool true), .t 33], none, [9, 12]⟩,
     ⟨(some 35), .mov, [.t 34], none, [13, 9]⟩,
     ⟨(some 36), (.faddr 1 false 1), [.t 4], (some (35, false)), [14]⟩,
     ⟨(some 37), (.load false 1), [.t 36], (some (35, false)), [15, 14]⟩,
     ⟨(some 38), .len, [.t 37], (some (35, false)), [16, 14]⟩,
     ⟨(some 39), (.bin .gtr), [.t 38, .c (.int .i64 2)], (some (35, false)), [17, 14]⟩,
     ⟨(some 40), .pick, [.t 35, .c (.bool true), .t 39], none, [14, 18]⟩,
     ⟨(some 41), .mov, [.t 40], none, [19, 14]⟩,
     ⟨(some 42), (.faddr 3 false 1), [.t 4], (some (41, false)), [20]⟩,
     ⟨(some 43), (.load false 1), [.t 42], (some (41, false)), [21, 20]⟩,
     ⟨(some 44), (.bin .gtr), [.t 43, .c (.int .i64 12)], (some (41, false)), [22, 20]⟩,
     ⟨(some 45), .pick, [.t 41, .c (.bool true), .t 44], none, [20, 23]⟩,
     ⟨(some 46), .mov, [.t 45], none, [24, 20]⟩,
     ⟨(some 47), (.faddr 5 true 2), [.t 5], (some (46, false)), [25]⟩,
     ⟨(some 48), (.faddr 0 false 1), [.t 47], (some (46, false)), [26, 25]⟩,
     ⟨(some 49), (.load false 1), [.t 48], (some (46, false)), [27, 25]⟩,
     ⟨(some 50), .call, [.f 27, .t 49, .c (.int .i64 (-90000)), .c (.int .i64 90000)], (some (46, false)), [28, 25, 25]⟩,
     ⟨(some 51), (.un .not), [.t 50], (some (46, false)), [29, 25]⟩,
     ⟨(some 52), .pick, [.t 46, .c (.bool true), .t 51], none, [25, 30]⟩,
     ⟨(some 53), .mov, [.t 52], none, [31, 29]⟩,
     ⟨(some 54), (.faddr 5 true 2), [.t 5], (some (53, false)), [32]⟩,
     ⟨(some 55), (.faddr 1 false 1), [.t 54], (some (53, false)), [33, 32]⟩,
     ⟨(some 56), (.load false 1), [.t 55], (some (53, false)), [34, 32]⟩,
     ⟨(some 57), .call, [.f 27, .t 56, .c (.int .i64 (-90000)), .c (.int .i64 90000)], (some (53, false)), [35, 32, 32]⟩,
     ⟨(some 58), (.un .not), [.t 57], (some (53, false)), [36, 32]⟩,
     ⟨(some 59), .pick, [.t 53, .c (.bool true), .t 58], none, [32, 37]⟩] false)
   (.cond (.t 59)
    (.seq
     (.region [⟨(some 6), .mov, [.c (.bool true)], none, []⟩] false)
     .ret)
    .skip))
  (.keep [3, 4, 5] [3, 4, 5] b12k6))
def b12 : DCode :=
 (.seq
  (.region [⟨(some 3), .box, [.t 0], none, []⟩,
    ⟨(some 4), .box, [.t 1], none, []⟩,
    ⟨(some 5), .box, [.t 2], none, []⟩,
    ⟨(some 6), .mov, [.c (.bool false)], none, []⟩] false)
  (.seq
   (.seq
    (.region [⟨(some 19), .call, [.f 15], none, []⟩,
      ⟨(some 20), (.un .not), [.t 19], none, [0]⟩] false)
    (.cond (.t 20)
     (.seq
      (.region [⟨(some 6), .mov, [.c (.bool false)], none, []⟩] false)
      .ret)
     .skip))
   (.keep [3, 4, 5] [3, 4, 5] b12k7)))
def d12 : DFn := ⟨3, 193, [.tmp 6], b12⟩
theorem body12 : d12.body = b12 := rfl
theorem res12 : d12.res = [.tmp 6] := rfl
theorem k12 : chkFn Try.prog Try.f12 d12 = true := by kernel_rfl

end Go.DI

/- Contracts: bounds and waits, of the program and of the reference. No condition. -/
set_option linter.unusedSimpArgs false
set_option maxRecDepth 20000
namespace Go.DI
open Go.Proofs Go.RowKit Sg

theorem divL_mem {lo hi c : Int} (h : DivOk lo hi c) {x : Int × Int} (hx : x ∈ divL lo hi c) : lo ≤ x.1 ∧ x.1 ≤ x.2 ∧ x.2 ≤ hi := by
  unfold divL divR at hx
  rw [List.drop_zero, List.mem_flatMap] at hx
  obtain ⟨i, hi', hx⟩ := hx
  rw [List.mem_range] at hi'
  have a1 := h.a1; have a2 := h.a2; have a3 := h.a3; have a4 := h.a4
  have b1 := div_bd h (i := i) (by omega)
  unfold oneD at hx
  split at hx
  · rename_i hle
    rw [List.mem_singleton] at hx
    subst hx
    refine ⟨?_, hle, ?_⟩
    · unfold divP; dsimp only; omega
    · unfold divP
      dsimp only
      have : (((i : Int) + 1) * (hi - lo + 1)) / c ≤ hi - lo + 1 := by
        have h1 : ((i : Int) + 1) * (hi - lo + 1) ≤ (hi - lo + 1) * c := by
          rw [Int.mul_comm (hi - lo + 1) c]
          exact Int.mul_le_mul_of_nonneg_right (by omega) (by omega)
        exact Int.ediv_le_of_le_mul (by omega) h1
      omega
  · cases hx

theorem cover_ok {v : Cv} (hv : coverE v = 0) : (coverL v).length ≤ 64 ∧ ∀ b ∈ coverL v, boxErr b = 0 := by
  obtain ⟨hb, hp, -⟩ := coverE_zero.1 hv
  rw [boxErr_zero] at hb
  have d1 : DivOk v.b.ll v.b.lh v.parts := ⟨by omega, by omega, by omega, hp⟩
  have d2 : DivOk v.b.fl v.b.fh v.parts := ⟨by omega, by omega, by omega, hp⟩
  constructor
  · have h1 := length_flat (l := divL v.b.ll v.b.lh v.parts) (m := 8) (g := fun x => (divL v.b.fl v.b.fh v.parts).map fun y => bxOf x y) fun x _ => by
      rw [List.length_map]
      have := divR_length (lo := v.b.fl) (hi := v.b.fh) (c := v.parts) (i := 0)
      unfold divL
      omega
    have h2 := divR_length (lo := v.b.ll) (hi := v.b.lh) (c := v.parts) (i := 0)
    unfold coverL
    unfold divL at h1 ⊢
    omega
  · intro b hbm
    unfold coverL at hbm
    rw [List.mem_flatMap] at hbm
    obtain ⟨x, hx, hbm⟩ := hbm
    rw [List.mem_map] at hbm
    obtain ⟨y, hy, rfl⟩ := hbm
    have h1 := divL_mem d1 hx
    have h2 := divL_mem d2 hy
    rw [boxErr_zero]
    unfold bxOf
    dsimp only
    omega

end Go.DI

/- Contracts: the shortest wait; the statement SurgeBounds. No condition. -/
set_option linter.unusedSimpArgs false
set_option maxRecDepth 20000
namespace Go.DI
open Go.Proofs Go.RowKit Sg

def setW (p : Pl) (w : Int) : Pl := ⟨p.load, p.ch, w, p.ticks⟩
theorem setW_ok {p : Pl} {w : Int} (hp : PlanOk p) (h : 1 ≤ w ∧ w ≤ 20) : PlanOk (setW p w) := ⟨hp.load, hp.len, hp.ch, h, hp.ticks⟩
/-- With a wait, the bound of the cover lies in the limits. -/
def keepsW (r : Ru) (p : Pl) (v : Cv) (w : Int) : Prop := ((boundP r (setW p w) (coverL v)).1 = true ∧ v.lo ≤ (boundP r (setW p w) (coverL v)).2.1) ∧ (boundP r (setW p w) (coverL v)).2.2 ≤ v.hi
instance (r : Ru) (p : Pl) (v : Cv) (w : Int) : Decidable (keepsW r p v w) := inferInstanceAs (Decidable (_ ∧ _))
def shortF (r : Ru) (p : Pl) (v : Cv) : Nat → Int → Option Int
  | 0, _ => none
  | n + 1, w => if keepsW r p v w then some w else shortF r p v n (w + 1)
def shortP (r : Ru) (p : Pl) (v : Cv) : Option Int := shortF r p v 20 1
theorem shortF_cons {r : Ru} {p : Pl} {v : Cv} {n : Nat} {w : Int} : shortF r p v (n + 1) w = if keepsW r p v w then some w else shortF r p v n (w + 1) := rfl
def optW : Option Int → Int | none => 0 | some w => w
def optE : Option Int → Int | none => 12 | some _ => 0
def waitE (r : Ru) (p : Pl) (v : Cv) : Int := fstE (planEr r p).2 (coverE v)

theorem s_ShortestWait {r : Ru} {p : Pl} {v : Cv} (hl : p.ch.length ≤ 1000000000) : Contract Try.prog 77 [ruI r, spI p, scI v]
    (if waitE r p v = 0 then .tup [.int .i64 (optW (shortP r p v)), .int .i64 (optE (shortP r p v))] else .tup [.int .i64 0, .int .i64 (waitE r p v)]) := by
  refine contract_run Try.func77 k77 rfl ?_
  simp only [body77, b77, res77, b77k0, b77k1, b77k2, b77k3, ruI, ssI, sbI, spI, swI, scI, stI, srI, saI, snI, ↓reduceIte, reduceCtorEq, Nat.reduceEqDiff, Nat.reduceAdd, Nat.reduceMul, Nat.reduceSub, Nat.reduceLeDiff, Nat.reduceBEq, Int.reduceToNat, Int.reduceLE, Int.reduceLT, Int.reduceEq, Int.reduceNe, di0, di1, di2, di3, di4, di5, di6, di7, di8, di9, postX_ret, postX_normal, ex_some]
  refine calls_of (s_open hl) ?_; simp only [ruI, ssI, sbI, spI, swI, scI, stI, srI, saI, snI, res77, b77k0, b77k1, b77k2, b77k3, ↓reduceIte, reduceCtorEq, Nat.reduceEqDiff, Nat.reduceAdd, Nat.reduceMul, Nat.reduceSub, Nat.reduceLeDiff, Nat.reduceBEq, Int.reduceToNat, Int.reduceLE, Int.reduceLT, Int.reduceEq, Int.reduceNe, di0, di1, di2, di3, di4, di5, di6, di7, di8, di9, postX_ret, postX_normal, ex_some]
  refine calls_of (s_coverErr (v := v)) ?_; simp only [ruI, ssI, sbI, spI, swI, scI, stI, srI, saI, snI, res77, b77k0, b77k1, b77k2, b77k3, ↓reduceIte, reduceCtorEq, Nat.reduceEqDiff, Nat.reduceAdd, Nat.reduceMul, Nat.reduceSub, Nat.reduceLeDiff, Nat.reduceBEq, Int.reduceToNat, Int.reduceLE, Int.reduceLT, Int.reduceEq, Int.reduceNe, di0, di1, di2, di3, di4, di5, di6, di7, di8, di9, postX_ret, postX_normal, ex_some]
  refine calls_of (s_first (l := [(planEr r p).2, coverE v]) (by simp)) ?_; simp only [ruI, ssI, sbI, spI, swI, scI, stI, srI, saI, snI, res77, b77k0, b77k1, b77k2, b77k3, ↓reduceIte, reduceCtorEq, Nat.reduceEqDiff, Nat.reduceAdd, Nat.reduceMul, Nat.reduceSub, Nat.reduceLeDiff, Nat.reduceBEq, Int.reduceToNat, Int.reduceLE, Int.reduceLT, Int.reduceEq, Int.reduceNe, di0, di1, di2, di3, di4, di5, di6, di7, di8, di9, postX_ret, postX_normal, ex_some]
  rw [firstNZ_two]
  rw [show fstE (planEr r p).2 (coverE v) = waitE r p v from rfl]
  by_cases h : waitE r p v = 0
  case neg => simp only [h, ruI, ssI, sbI, spI, swI, scI, stI, srI, saI, snI, ↓reduceIte, reduceCtorEq, Nat.reduceEqDiff, Nat.reduceAdd, Nat.reduceMul, Nat.reduceSub, Nat.reduceLeDiff, Nat.reduceBEq, Int.reduceToNat, Int.reduceLE, Int.reduceLT, Int.reduceEq, Int.reduceNe, di0, di1, di2, di3, di4, di5, di6, di7, di8, di9, postX_ret, postX_normal, ex_some]
  simp only [h, ruI, ssI, sbI, spI, swI, scI, stI, srI, saI, snI, ↓reduceIte, reduceCtorEq, Nat.reduceEqDiff, Nat.reduceAdd, Nat.reduceMul, Nat.reduceSub, Nat.reduceLeDiff, Nat.reduceBEq, Int.reduceToNat, Int.reduceLE, Int.reduceLT, Int.reduceEq, Int.reduceNe, di0, di1, di2, di3, di4, di5, di6, di7, di8, di9, postX_ret, postX_normal, ex_some]
  unfold waitE at h
  rw [fstE_zero, planEr_zero] at h
  obtain ⟨⟨hr, hp⟩, hv⟩ := h
  obtain ⟨hcl, hcb⟩ := cover_ok hv
  refine calls_of (s_cover hv) ?_; simp only [ruI, ssI, sbI, spI, swI, scI, stI, srI, saI, snI, res77, b77k0, b77k1, b77k2, b77k3, ↓reduceIte, reduceCtorEq, Nat.reduceEqDiff, Nat.reduceAdd, Nat.reduceMul, Nat.reduceSub, Nat.reduceLeDiff, Nat.reduceBEq, Int.reduceToNat, Int.reduceLE, Int.reduceLT, Int.reduceEq, Int.reduceNe, di0, di1, di2, di3, di4, di5, di6, di7, di8, di9, postX_ret, postX_normal, ex_some]
  refine loop_keep (α := Int × Int) rfl (fun q => (21 - q.1).toNat) (fun q => (1 ≤ q.1 ∧ q.1 ≤ 21) ∧ shortP r p v = shortF r p v (21 - q.1).toNat q.1)
    (fun q => [(5, .ref 5 0), (8, .ref 8 0), (10, .imm (.slc 4 ((coverL v).map sbI))), (11, .imm (.int .i64 q.1))])
    (fun q => [(5, .box (scCells v)), (8, .box [.imm (.int .i64 r.I), .imm (.int .i64 r.A), .imm (.int .i64 r.lo), .imm (.int .i64 r.hi), .imm (.int .i64 r.T), .imm (.int .i64 p.load), .imm (snI p.ch), .imm (.int .i64 q.2), .imm (.int .i64 p.ticks)])]) (1, p.wait) ⟨⟨by omega, by omega⟩, rfl⟩ (by simp only [scCells, ruI, ssI, sbI, spI, swI, scI, stI, srI, saI, snI, ↓reduceIte, reduceCtorEq, Nat.reduceEqDiff, Nat.reduceAdd, Nat.reduceMul, Nat.reduceSub, Nat.reduceLeDiff, Nat.reduceBEq, Int.reduceToNat, Int.reduceLE, Int.reduceLT, Int.reduceEq, Int.reduceNe, di0, di1, di2, di3, di4, di5, di6, di7, di8, di9, postX_ret, postX_normal, ex_some] <;> rfl) ?_
  rintro ⟨w, w0⟩ ⟨hw, he⟩ ih
  dsimp only at hw he ⊢
  simp only [res77, b77k0, b77k1, b77k2, b77k3, scCells, ruI, ssI, sbI, spI, swI, scI, stI, srI, saI, snI, ↓reduceIte, reduceCtorEq, Nat.reduceEqDiff, Nat.reduceAdd, Nat.reduceMul, Nat.reduceSub, Nat.reduceLeDiff, Nat.reduceBEq, Int.reduceToNat, Int.reduceLE, Int.reduceLT, Int.reduceEq, Int.reduceNe, di0, di1, di2, di3, di4, di5, di6, di7, di8, di9, postX_ret, postX_normal, ex_some]
  split
  case isFalse h1 =>
    rw [show (21 - w).toNat = 0 by omega] at he
    simp only [shortF] at he
    rw [he]
    rfl
  rename_i h1
  rw [show (21 - w).toNat = (21 - (w + 1)).toNat + 1 by omega, shortF_cons] at he
  have hb := s_bound (r := r) (p := setW p w) (bs := coverL v) hr (setW_ok hp ⟨hw.1, h1⟩) (by omega) hcb
  simp only [setW] at hb
  refine calls_of hb ?_; simp only [ruI, ssI, sbI, spI, swI, scI, stI, srI, saI, snI, res77, b77k0, b77k1, b77k2, b77k3, ↓reduceIte, reduceCtorEq, Nat.reduceEqDiff, Nat.reduceAdd, Nat.reduceMul, Nat.reduceSub, Nat.reduceLeDiff, Nat.reduceBEq, Int.reduceToNat, Int.reduceLE, Int.reduceLT, Int.reduceEq, Int.reduceNe, di0, di1, di2, di3, di4, di5, di6, di7, di8, di9, postX_ret, postX_normal, ex_some]
  have hk : keepsW r p v w = (((boundP r ⟨p.load, p.ch, w, p.ticks⟩ (coverL v)).1 = true ∧ v.lo ≤ (boundP r ⟨p.load, p.ch, w, p.ticks⟩ (coverL v)).2.1) ∧ (boundP r ⟨p.load, p.ch, w, p.ticks⟩ (coverL v)).2.2 ≤ v.hi) := rfl
  generalize boundP r ⟨p.load, p.ch, w, p.ticks⟩ (coverL v) = B at hk
  obtain ⟨Bf, B1, B2⟩ := B
  dsimp only at hk ⊢
  cases Bf
  · rw [if_neg (by rw [hk]; simp)] at he
    simp only [ruI, ssI, sbI, spI, swI, scI, stI, srI, saI, snI, ↓reduceIte, reduceCtorEq, Nat.reduceEqDiff, Nat.reduceAdd, Nat.reduceMul, Nat.reduceSub, Nat.reduceLeDiff, Nat.reduceBEq, Int.reduceToNat, Int.reduceLE, Int.reduceLT, Int.reduceEq, Int.reduceNe, di0, di1, di2, di3, di4, di5, di6, di7, di8, di9, postX_ret, postX_normal, ex_some]
    simp only [show IntKind.wrap .i64 (w + 1) = w + 1 from wrap64 (by omega) (by omega)]
    refine ih (w + 1, w) _ _ (by dsimp only; omega) ⟨by dsimp only; omega, he⟩ (by simp only [scCells, ruI, ssI, sbI, spI, swI, scI, stI, srI, saI, snI, ↓reduceIte, reduceCtorEq, Nat.reduceEqDiff, Nat.reduceAdd, Nat.reduceMul, Nat.reduceSub, Nat.reduceLeDiff, Nat.reduceBEq, Int.reduceToNat, Int.reduceLE, Int.reduceLT, Int.reduceEq, Int.reduceNe, di0, di1, di2, di3, di4, di5, di6, di7, di8, di9, postX_ret, postX_normal, ex_some] <;> rfl)
  · simp only [ruI, ssI, sbI, spI, swI, scI, stI, srI, saI, snI, ↓reduceIte, reduceCtorEq, Nat.reduceEqDiff, Nat.reduceAdd, Nat.reduceMul, Nat.reduceSub, Nat.reduceLeDiff, Nat.reduceBEq, Int.reduceToNat, Int.reduceLE, Int.reduceLT, Int.reduceEq, Int.reduceNe, di0, di1, di2, di3, di4, di5, di6, di7, di8, di9, postX_ret, postX_normal, ex_some]
    by_cases k1 : v.lo ≤ B1
    case neg =>
      rw [if_neg (by rw [hk]; simp [k1])] at he
      simp only [k1, ruI, ssI, sbI, spI, swI, scI, stI, srI, saI, snI, ↓reduceIte, reduceCtorEq, Nat.reduceEqDiff, Nat.reduceAdd, Nat.reduceMul, Nat.reduceSub, Nat.reduceLeDiff, Nat.reduceBEq, Int.reduceToNat, Int.reduceLE, Int.reduceLT, Int.reduceEq, Int.reduceNe, di0, di1, di2, di3, di4, di5, di6, di7, di8, di9, postX_ret, postX_normal, ex_some]
      simp only [show IntKind.wrap .i64 (w + 1) = w + 1 from wrap64 (by omega) (by omega)]
      refine ih (w + 1, w) _ _ (by dsimp only; omega) ⟨by dsimp only; omega, he⟩ (by simp only [scCells, ruI, ssI, sbI, spI, swI, scI, stI, srI, saI, snI, ↓reduceIte, reduceCtorEq, Nat.reduceEqDiff, Nat.reduceAdd, Nat.reduceMul, Nat.reduceSub, Nat.reduceLeDiff, Nat.reduceBEq, Int.reduceToNat, Int.reduceLE, Int.reduceLT, Int.reduceEq, Int.reduceNe, di0, di1, di2, di3, di4, di5, di6, di7, di8, di9, postX_ret, postX_normal, ex_some] <;> rfl)
    simp only [k1, ruI, ssI, sbI, spI, swI, scI, stI, srI, saI, snI, ↓reduceIte, reduceCtorEq, Nat.reduceEqDiff, Nat.reduceAdd, Nat.reduceMul, Nat.reduceSub, Nat.reduceLeDiff, Nat.reduceBEq, Int.reduceToNat, Int.reduceLE, Int.reduceLT, Int.reduceEq, Int.reduceNe, di0, di1, di2, di3, di4, di5, di6, di7, di8, di9, postX_ret, postX_normal, ex_some]
    by_cases k2 : B2 ≤ v.hi
    case neg =>
      rw [if_neg (by rw [hk]; simp [k2])] at he
      simp only [k2, ruI, ssI, sbI, spI, swI, scI, stI, srI, saI, snI, ↓reduceIte, reduceCtorEq, Nat.reduceEqDiff, Nat.reduceAdd, Nat.reduceMul, Nat.reduceSub, Nat.reduceLeDiff, Nat.reduceBEq, Int.reduceToNat, Int.reduceLE, Int.reduceLT, Int.reduceEq, Int.reduceNe, di0, di1, di2, di3, di4, di5, di6, di7, di8, di9, postX_ret, postX_normal, ex_some]
      simp only [show IntKind.wrap .i64 (w + 1) = w + 1 from wrap64 (by omega) (by omega)]
      refine ih (w + 1, w) _ _ (by dsimp only; omega) ⟨by dsimp only; omega, he⟩ (by simp only [scCells, ruI, ssI, sbI, spI, swI, scI, stI, srI, saI, snI, ↓reduceIte, reduceCtorEq, Nat.reduceEqDiff, Nat.reduceAdd, Nat.reduceMul, Nat.reduceSub, Nat.reduceLeDiff, Nat.reduceBEq, Int.reduceToNat, Int.reduceLE, Int.reduceLT, Int.reduceEq, Int.reduceNe, di0, di1, di2, di3, di4, di5, di6, di7, di8, di9, postX_ret, postX_normal, ex_some] <;> rfl)
    rw [if_pos (by rw [hk]; exact ⟨⟨rfl, k1⟩, k2⟩)] at he
    simp only [k2, ruI, ssI, sbI, spI, swI, scI, stI, srI, saI, snI, ↓reduceIte, reduceCtorEq, Nat.reduceEqDiff, Nat.reduceAdd, Nat.reduceMul, Nat.reduceSub, Nat.reduceLeDiff, Nat.reduceBEq, Int.reduceToNat, Int.reduceLE, Int.reduceLT, Int.reduceEq, Int.reduceNe, di0, di1, di2, di3, di4, di5, di6, di7, di8, di9, postX_ret, postX_normal, ex_some]
    rw [he]
    rfl

theorem bfold_true : ∀ {l : List Bx} {y : Bool × Int × Int}, y.1 = true → (l.foldl bStp y).1 = true
  | [], _, h => h
  | b :: l, y, _ => bfold_true (l := l) (y := bStp y b) rfl
end Go.DI

