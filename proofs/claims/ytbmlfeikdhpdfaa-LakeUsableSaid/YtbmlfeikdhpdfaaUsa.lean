/- The functions of the statement LakeUsable, as data. No condition. -/
import Derived.Test.YtbmlfeikdhpdfaaJd
import Derived.Test.YtbmlfeikdhpdfaaProg
import Derived.KernelRfl
namespace Go.DI
open Go.Proofs Go.RowKit
/-- guidevane/guidevanelaw01.LakeUsable -/
def b3k0 : DCode :=
 (.seq
  (.region [⟨(some 92), (.load true 3), [.t 7], none, []⟩,
    ⟨(some 93), (.load true 2), [.t 10], none, []⟩,
    ⟨(some 94), .mov, [.t 2], none, []⟩,
    ⟨(some 95), (.un .neg), [.t 94], none, [2]⟩,
    ⟨(some 96), (.build [(.imm (.int .i64 0)), (.imm (.int .i64 0)), (.imm (.int .i64 0))] [(2, 1)]), [.t 95], none, [3]⟩,
    ⟨(some 97), .call, [.f 18, .t 92, .t 93, .t 96], none, [0, 1, 4]⟩,
    ⟨(some 91), .mov, [.t 97], none, [5]⟩,
    ⟨(some 98), (.ext 0), [.t 91], none, [6]⟩,
    ⟨(some 99), (.ext 1), [.t 91], none, [6]⟩,
    ⟨(some 100), (.ext 2), [.t 91], none, [6]⟩,
    ⟨(some 14), (.alloc [(.imm (.int .i64 0)), (.imm (.int .i64 0))]), [], none, []⟩,
    ⟨(some 15), (.alloc [(.imm (.int .i64 0)), (.imm (.int .i64 0))]), [], none, []⟩,
    ⟨none, (.store 2), [.t 14, .t 98], none, [10, 7, 5, 0, 1, 2, 3, 4, 5, 6, 7, 10, 11]⟩,
    ⟨none, (.store 2), [.t 15, .t 99], none, [11, 8, 12, 0, 1, 2, 3, 4, 5, 6, 7, 8, 10, 11, 12]⟩,
    ⟨(some 16), .mov, [.t 100], none, [9, 13, 0, 1, 2, 3, 4, 5, 6, 7, 8, 9, 10, 11, 12, 13]⟩] false)
  (.seq
   (.region [⟨(some 101), .mov, [.t 16], none, []⟩,
     ⟨(some 102), (.bin .eql), [.t 101, .c (.int .i64 0)], none, [0]⟩,
     ⟨(some 103), .mov, [.t 102], none, [1]⟩,
     ⟨(some 104), (.load true 2), [.t 14], (some (103, true)), [2]⟩,
     ⟨(some 105), (.load true 2), [.t 4], (some (103, true)), [2]⟩,
     ⟨(some 106), (.eqs [false, false] false), [.t 104, .t 105], (some (103, true)), [3, 4, 2]⟩,
     ⟨(some 107), .pick, [.t 103, .t 106, .c (.bool false)], none, [2, 5]⟩,
     ⟨(some 108), .mov, [.t 107], none, [6, 2]⟩,
     ⟨(some 109), (.load true 2), [.t 15], (some (108, true)), [7]⟩,
     ⟨(some 110), (.build [(.imm (.int .i64 0)), (.imm (.int .i64 0))] []), [], (some (108, true)), [7]⟩,
     ⟨(some 111), (.eqs [false, false] false), [.t 109, .t 110], (some (108, true)), [8, 9, 7]⟩,
     ⟨(some 112), .pick, [.t 108, .t 111, .c (.bool false)], none, [7, 10]⟩,
     ⟨(some 6), .mov, [.t 112], none, [11, 7, 0, 1, 2, 3, 4, 5, 6, 7, 8, 9, 10, 11]⟩] false)
   .ret))
def b3k1 : DCode :=
 (.seq
  (.seq
   (.region [⟨(some 89), .mov, [.t 13], none, []⟩,
     ⟨(some 90), (.un .not), [.t 89], none, [0]⟩] false)
   (.cond (.t 90)
    (.seq
     (.region [⟨(some 6), .mov, [.c (.bool true)], none, []⟩] false)
     .ret)
    .skip))
  (.keep [2, 4, 7, 10] [4, 7, 10] b3k0))
def b3k2 : DCode :=
 (.seq
  (.region [⟨(some 73), .mov, [.t 12], none, []⟩,
    ⟨(some 74), (.bin .eql), [.t 73, .c (.int .i64 0)], none, [0]⟩,
    ⟨(some 75), .mov, [.t 74], none, [1]⟩,
    ⟨(some 76), (.load true 2), [.t 11], (some (75, true)), [2]⟩,
    ⟨(some 77), (.build [(.imm (.int .i64 0)), (.imm (.int .i64 0))] []), [], (some (75, true)), [2]⟩,
    ⟨(some 78), (.eqs [false, false] false), [.t 76, .t 77], (some (75, true)), [3, 4, 2]⟩,
    ⟨(some 79), .pick, [.t 75, .t 78, .c (.bool false)], none, [2, 5]⟩,
    ⟨(some 13), .mov, [.t 79], none, [6, 2, 0, 1, 2, 3, 4, 5, 6]⟩] false)
  (.seq
   (.seq
    (.region [⟨(some 80), .mov, [.t 13], none, []⟩,
      ⟨(some 81), .mov, [.t 2], none, []⟩,
      ⟨(some 82), (.faddr 0 false 1), [.t 8], none, []⟩,
      ⟨(some 83), (.load false 1), [.t 82], none, [2]⟩,
      ⟨(some 84), (.un .neg), [.t 83], none, [3]⟩,
      ⟨(some 85), (.faddr 1 false 1), [.t 8], none, []⟩,
      ⟨(some 86), (.load false 1), [.t 85], none, [5]⟩,
      ⟨(some 87), .call, [.f 15, .t 81, .t 84, .t 86], none, [1, 4, 6]⟩,
      ⟨(some 88), (.beq true), [.t 80, .t 87], none, [0, 7]⟩] false)
    (.cond (.t 88)
     (.seq
      (.region [⟨(some 6), .mov, [.c (.bool false)], none, []⟩] false)
      .ret)
     .skip))
   (.keep [2, 4, 7, 10, 13] [4, 7, 10] b3k1)))
def b3k3 : DCode :=
 (.seq
  (.region [⟨(some 58), (.load true 3), [.t 7], none, []⟩,
    ⟨(some 59), .call, [.f 16, .t 58], none, [0]⟩,
    ⟨(some 60), (.load true 2), [.t 4], none, []⟩,
    ⟨(some 61), .mov, [.t 2], none, []⟩,
    ⟨(some 62), (.build [(.imm (.int .i64 0)), (.imm (.int .i64 0)), (.imm (.int .i64 0))] [(2, 1)]), [.t 61], none, [3]⟩,
    ⟨(some 63), .call, [.f 18, .t 59, .t 60, .t 62], none, [1, 2, 4, 1]⟩,
    ⟨(some 57), .mov, [.t 63], none, [5]⟩,
    ⟨(some 64), (.ext 0), [.t 57], none, [6]⟩,
    ⟨(some 65), (.ext 1), [.t 57], none, [6]⟩,
    ⟨(some 66), (.ext 2), [.t 57], none, [6]⟩,
    ⟨(some 10), (.alloc [(.imm (.int .i64 0)), (.imm (.int .i64 0))]), [], none, []⟩,
    ⟨(some 11), (.alloc [(.imm (.int .i64 0)), (.imm (.int .i64 0))]), [], none, []⟩,
    ⟨none, (.store 2), [.t 10, .t 64], none, [10, 7, 5, 0, 1, 2, 3, 4, 5, 6, 7, 10, 11]⟩,
    ⟨none, (.store 2), [.t 11, .t 65], none, [11, 8, 12, 0, 1, 2, 3, 4, 5, 6, 7, 8, 10, 11, 12]⟩,
    ⟨(some 12), .mov, [.t 66], none, [9, 13, 0, 1, 2, 3, 4, 5, 6, 7, 8, 9, 10, 11, 12, 13]⟩] true)
  (.seq
   (.seq
    (.region [⟨(some 67), .mov, [.t 12], none, []⟩,
      ⟨(some 68), (.bin .neq), [.t 67, .c (.int .i64 0)], none, [0]⟩,
      ⟨(some 69), .mov, [.t 68], none, [1]⟩,
      ⟨(some 70), .mov, [.t 12], (some (69, true)), [2]⟩,
      ⟨(some 71), (.bin .neq), [.t 70, .c (.int .i64 22)], (some (69, true)), [3, 2]⟩,
      ⟨(some 72), .pick, [.t 69, .t 71, .c (.bool false)], none, [2, 4]⟩] false)
    (.cond (.t 72)
     (.seq
      (.region [⟨(some 6), .mov, [.c (.bool false)], none, []⟩] false)
      .ret)
     .skip))
   (.keep [2, 4, 7, 8, 10, 11, 12] [4, 7, 8, 10, 11] b3k2)))
def b3k4 : DCode :=
 (.seq
  (.region [⟨(some 33), (.load true 3), [.t 3], none, []⟩,
    ⟨(some 34), .call, [.f 16, .t 33], none, [0]⟩,
    ⟨(some 7), (.alloc [(.imm (.slc 2 [])), (.imm (.slc 2 [])), (.imm (.int .i64 0))]), [], none, []⟩,
    ⟨none, (.store 3), [.t 7, .t 34], none, [2, 1, 1, 0, 1, 2]⟩] false)
  (.seq
   (.region [⟨(some 35), (.faddr 2 false 1), [.t 7], none, []⟩,
     ⟨none, (.store 1), [.t 35, .c (.int .i64 0)], none, [0]⟩] false)
   (.seq
    (.region [⟨(some 37), (.load true 3), [.t 7], none, []⟩,
      ⟨(some 38), .call, [.f 16, .t 37], none, [0]⟩,
      ⟨(some 39), (.load true 2), [.t 4], none, []⟩,
      ⟨(some 40), .call, [.f 17, .t 38, .t 39], none, [1, 2, 1]⟩,
      ⟨(some 36), .mov, [.t 40], none, [3]⟩,
      ⟨(some 41), (.ext 0), [.t 36], none, [4]⟩,
      ⟨(some 42), (.ext 1), [.t 36], none, [4]⟩,
      ⟨(some 8), (.alloc [(.imm (.int .i64 0)), (.imm (.int .i64 0))]), [], none, []⟩,
      ⟨none, (.store 2), [.t 8, .t 41], none, [7, 5, 3, 0, 1, 2, 3, 4, 5, 7]⟩,
      ⟨(some 9), .mov, [.t 42], none, [6, 8, 0, 1, 2, 3, 4, 5, 6, 7, 8]⟩] true)
    (.seq
     (.seq
      (.region [⟨(some 43), .mov, [.t 9], none, []⟩,
        ⟨(some 44), (.bin .neq), [.t 43, .c (.int .i64 0)], none, [0]⟩,
        ⟨(some 45), .mov, [.t 44], none, [1]⟩,
        ⟨(some 46), (.faddr 0 false 1), [.t 8], (some (45, false)), [2]⟩,
        ⟨(some 47), (.load false 1), [.t 46], (some (45, false)), [3, 2]⟩,
        ⟨(some 48), .call, [.f 15, .t 47, .c (.int .i64 0), .c (.int .i64 1000000000)], (some (45, false)), [4, 2, 2]⟩,
        ⟨(some 49), (.un .not), [.t 48], (some (45, false)), [5, 2]⟩,
        ⟨(some 50), .pick, [.t 45, .c (.bool true), .t 49], none, [2, 6]⟩,
        ⟨(some 51), .mov, [.t 50], none, [7, 5]⟩,
        ⟨(some 52), (.faddr 1 false 1), [.t 8], (some (51, false)), [8]⟩,
        ⟨(some 53), (.load false 1), [.t 52], (some (51, false)), [9, 8]⟩,
        ⟨(some 54), .call, [.f 15, .t 53, .c (.int .i64 0), .c (.int .i64 1000000000)], (some (51, false)), [10, 8, 8]⟩,
        ⟨(some 55), (.un .not), [.t 54], (some (51, false)), [11, 8]⟩,
        ⟨(some 56), .pick, [.t 51, .c (.bool true), .t 55], none, [8, 12]⟩] false)
      (.cond (.t 56)
       (.seq
        (.region [⟨(some 6), .mov, [.c (.bool false)], none, []⟩] false)
        .ret)
       .skip))
     (.keep [2, 4, 7, 8] [4, 7, 8] b3k3)))))
def b3k5 : DCode :=
 (.seq
  (.seq
   (.region [⟨(some 19), (.load true 3), [.t 3], none, []⟩,
     ⟨(some 20), .call, [.f 13, .t 19], none, [0]⟩,
     ⟨(some 21), (.un .not), [.t 20], none, [1]⟩,
     ⟨(some 22), .mov, [.t 21], none, [2, 1]⟩,
     ⟨(some 23), (.load true 3), [.t 3], (some (22, false)), [3]⟩,
     ⟨(some 24), (.load true 2), [.t 4], (some (22, false)), [3]⟩,
     ⟨(some 25), .call, [.f 14, .t 23, .t 24], (some (22, false)), [4, 5, 3, 3]⟩,
     ⟨(some 26), (.bin .neq), [.t 25, .c (.int .i64 0)], (some (22, false)), [6, 3]⟩,
     ⟨(some 27), .pick, [.t 22, .c (.bool true), .t 26], none, [3, 7]⟩,
     ⟨(some 28), .mov, [.t 27], none, [8, 6]⟩,
     ⟨(some 29), .mov, [.t 2], (some (28, false)), [9]⟩,
     ⟨(some 30), .call, [.f 15, .t 29, .c (.int .i64 (-10000000)), .c (.int .i64 10000000)], (some (28, false)), [10, 9, 9]⟩,
     ⟨(some 31), (.un .not), [.t 30], (some (28, false)), [11, 9]⟩,
     ⟨(some 32), .pick, [.t 28, .c (.bool true), .t 31], none, [9, 12]⟩] false)
   (.cond (.t 32)
    (.seq
     (.region [⟨(some 6), .mov, [.c (.bool true)], none, []⟩] false)
     .ret)
    .skip))
  (.keep [2, 3, 4] [3, 4] b3k4))
def b3 : DCode :=
 (.seq
  (.region [⟨(some 3), .box, [.t 0], none, []⟩,
    ⟨(some 4), .box, [.t 1], none, []⟩,
    ⟨(some 6), .mov, [.c (.bool false)], none, []⟩] false)
  (.seq
   (.seq
    (.region [⟨(some 17), .call, [.f 12], none, []⟩,
      ⟨(some 18), (.un .not), [.t 17], none, [0]⟩] false)
    (.cond (.t 18)
     (.seq
      (.region [⟨(some 6), .mov, [.c (.bool false)], none, []⟩] false)
      .ret)
     .skip))
   (.keep [2, 3, 4] [3, 4] b3k5)))
def d3 : DFn := ⟨3, 113, [.tmp 6], b3⟩
theorem body3 : d3.body = b3 := rfl
theorem res3 : d3.res = [.tmp 6] := rfl
theorem k3 : chkFn Try.prog Try.f3 d3 = true := by kernel_rfl

end Go.DI

