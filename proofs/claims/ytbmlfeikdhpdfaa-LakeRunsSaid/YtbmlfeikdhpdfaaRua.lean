/- The functions of the statement LakeRuns, as data. No condition. -/
import Derived.Test.YtbmlfeikdhpdfaaJd
import Derived.Test.YtbmlfeikdhpdfaaProg
import Derived.KernelRfl
namespace Go.DI
open Go.Proofs Go.RowKit
/-- guidevane/guidevanelaw01.LakeRuns -/
def b10k0 : DCode :=
 (.seq
  (.region [⟨(some 79), .mov, [.t 9], none, []⟩,
    ⟨(some 80), (.bin .eql), [.t 79, .c (.int .i64 0)], none, [0]⟩,
    ⟨(some 81), .mov, [.t 80], none, [1]⟩,
    ⟨(some 82), .movv, [.t 7], (some (81, true)), [2]⟩,
    ⟨(some 83), .movv, [.t 11], (some (81, true)), [2]⟩,
    ⟨(some 84), .call, [.f 57, .t 82, .t 83], (some (81, true)), [3, 4, 2, 2]⟩,
    ⟨(some 85), .pick, [.t 81, .t 84, .c (.bool false)], none, [2, 5]⟩,
    ⟨(some 86), .mov, [.t 85], none, [6, 5]⟩,
    ⟨(some 87), (.load true 2), [.t 8], (some (86, true)), [7]⟩,
    ⟨(some 88), (.load true 2), [.t 12], (some (86, true)), [7]⟩,
    ⟨(some 89), (.eqs [false, false] false), [.t 87, .t 88], (some (86, true)), [8, 9, 7]⟩,
    ⟨(some 90), .pick, [.t 86, .t 89, .c (.bool false)], none, [7, 10]⟩,
    ⟨(some 6), .mov, [.t 90], none, [11, 7, 0, 1, 2, 3, 4, 5, 6, 7, 8, 9, 10, 11]⟩] false)
  .ret)
def b10k1 : DCode :=
 (.seq
  (.region [⟨(some 58), (.load true 3), [.t 3], none, []⟩,
    ⟨(some 59), (.load true 2), [.t 4], none, []⟩,
    ⟨(some 60), .movv, [.t 2], none, []⟩,
    ⟨(some 61), .call, [.f 56, .t 58, .t 59, .t 60], none, [0, 1, 2]⟩,
    ⟨(some 57), .mov, [.t 61], none, [3]⟩,
    ⟨(some 62), (.ext 0), [.t 57], none, [4]⟩,
    ⟨(some 63), (.ext 1), [.t 57], none, [4]⟩,
    ⟨(some 64), (.ext 2), [.t 57], none, [4]⟩,
    ⟨(some 12), (.alloc [(.imm (.int .i64 0)), (.imm (.int .i64 0))]), [], none, []⟩,
    ⟨(some 11), .movv, [.t 62], none, [5, 3, 0, 1, 2, 3, 4, 5, 8]⟩,
    ⟨none, (.store 2), [.t 12, .t 63], none, [8, 6, 9, 0, 1, 2, 3, 4, 5, 6, 8, 9]⟩,
    ⟨(some 13), .mov, [.t 64], none, [7, 10, 0, 1, 2, 3, 4, 5, 6, 7, 8, 9, 10]⟩] false)
  (.seq
   (.seq
    (.region [⟨(some 65), .mov, [.t 13], none, []⟩,
      ⟨(some 66), (.un .not), [.t 65], none, [0]⟩] false)
    (.cond (.t 66)
     (.seq
      (.region [⟨(some 67), .mov, [.t 9], none, []⟩,
        ⟨(some 68), (.bin .eql), [.t 67, .c (.int .i64 22)], none, [0]⟩,
        ⟨(some 69), .mov, [.t 68], none, [1]⟩,
        ⟨(some 70), .movv, [.t 7], (some (69, true)), [2]⟩,
        ⟨(some 71), .len, [.t 70], (some (69, true)), [3, 2]⟩,
        ⟨(some 72), (.bin .eql), [.t 71, .c (.int .i64 0)], (some (69, true)), [4, 2]⟩,
        ⟨(some 73), .pick, [.t 69, .t 72, .c (.bool false)], none, [2, 5]⟩,
        ⟨(some 74), .mov, [.t 73], none, [6, 2]⟩,
        ⟨(some 75), (.load true 2), [.t 8], (some (74, true)), [7]⟩,
        ⟨(some 76), (.build [(.imm (.int .i64 0)), (.imm (.int .i64 0))] []), [], (some (74, true)), [7]⟩,
        ⟨(some 77), (.eqs [false, false] false), [.t 75, .t 76], (some (74, true)), [8, 9, 7]⟩,
        ⟨(some 78), .pick, [.t 74, .t 77, .c (.bool false)], none, [7, 10]⟩,
        ⟨(some 6), .mov, [.t 78], none, [11, 7, 0, 1, 2, 3, 4, 5, 6, 7, 8, 9, 10, 11]⟩] false)
      .ret)
     .skip))
   (.keep [7, 8, 9, 11, 12] [8, 12] b10k0)))
def b10k2 : DCode :=
 (.seq
  (.seq
   (.region [⟨(some 42), .mov, [.t 10], none, []⟩,
     ⟨(some 43), (.bin .neq), [.t 42, .c (.int .i64 0)], none, [0]⟩] false)
   (.cond (.t 43)
    (.seq
     (.region [⟨(some 44), .mov, [.t 9], none, []⟩,
       ⟨(some 45), .mov, [.t 10], none, []⟩,
       ⟨(some 46), (.bin .eql), [.t 44, .t 45], none, [0, 1]⟩,
       ⟨(some 47), .mov, [.t 46], none, [2]⟩,
       ⟨(some 48), .movv, [.t 7], (some (47, true)), [3]⟩,
       ⟨(some 49), .len, [.t 48], (some (47, true)), [4, 3]⟩,
       ⟨(some 50), (.bin .eql), [.t 49, .c (.int .i64 0)], (some (47, true)), [5, 3]⟩,
       ⟨(some 51), .pick, [.t 47, .t 50, .c (.bool false)], none, [3, 6]⟩,
       ⟨(some 52), .mov, [.t 51], none, [7, 3]⟩,
       ⟨(some 53), (.load true 2), [.t 8], (some (52, true)), [8]⟩,
       ⟨(some 54), (.build [(.imm (.int .i64 0)), (.imm (.int .i64 0))] []), [], (some (52, true)), [8]⟩,
       ⟨(some 55), (.eqs [false, false] false), [.t 53, .t 54], (some (52, true)), [9, 10, 8]⟩,
       ⟨(some 56), .pick, [.t 52, .t 55, .c (.bool false)], none, [8, 11]⟩,
       ⟨(some 6), .mov, [.t 56], none, [12, 8, 0, 1, 2, 3, 4, 5, 6, 7, 8, 9, 10, 11, 12]⟩] false)
     .ret)
    .skip))
  (.keep [2, 3, 4, 7, 8, 9] [3, 4, 8] b10k1))
def b10k3 : DCode :=
 (.seq
  (.region [⟨(some 26), (.load true 3), [.t 3], none, []⟩,
    ⟨(some 27), .call, [.f 16, .t 26], none, [0]⟩,
    ⟨(some 28), (.load true 2), [.t 4], none, []⟩,
    ⟨(some 29), .movv, [.t 2], none, []⟩,
    ⟨(some 30), .call, [.f 54, .t 29], none, [3, 1]⟩,
    ⟨(some 31), .call, [.f 53, .t 27, .t 28, .t 30], none, [1, 2, 4, 4]⟩,
    ⟨(some 25), .mov, [.t 31], none, [5]⟩,
    ⟨(some 32), (.ext 0), [.t 25], none, [6]⟩,
    ⟨(some 33), (.ext 1), [.t 25], none, [6]⟩,
    ⟨(some 34), (.ext 2), [.t 25], none, [6]⟩,
    ⟨(some 8), (.alloc [(.imm (.int .i64 0)), (.imm (.int .i64 0))]), [], none, []⟩,
    ⟨(some 7), .movv, [.t 32], none, [7, 5, 0, 1, 2, 3, 4, 5, 6, 7, 10]⟩,
    ⟨none, (.store 2), [.t 8, .t 33], none, [10, 8, 11, 0, 1, 2, 3, 4, 5, 6, 7, 8, 10, 11]⟩,
    ⟨(some 9), .mov, [.t 34], none, [9, 12, 0, 1, 2, 3, 4, 5, 6, 7, 8, 9, 10, 11, 12]⟩] true)
  (.seq
   (.region [⟨(some 35), (.load true 3), [.t 3], none, []⟩,
     ⟨(some 36), (.load true 2), [.t 4], none, []⟩,
     ⟨(some 37), .call, [.f 14, .t 35, .t 36], none, [0, 1]⟩,
     ⟨(some 10), .mov, [.t 37], none, [2, 2, 0, 1, 2]⟩] false)
   (.seq
    (.seq
     (.region [⟨(some 38), .mov, [.t 10], none, []⟩,
       ⟨(some 39), (.bin .eql), [.t 38, .c (.int .i64 0)], none, [0]⟩] false)
     (.cond (.t 39)
      (.region [⟨(some 40), .movv, [.t 2], none, []⟩,
        ⟨(some 41), .call, [.f 55, .t 40], none, [0]⟩,
        ⟨(some 10), .mov, [.t 41], none, [1, 1, 0, 1]⟩] false)
      .skip))
    (.keep [2, 3, 4, 7, 8, 9, 10] [3, 4, 8] b10k2))))
def b10k4 : DCode :=
 (.seq
  (.seq
   (.region [⟨(some 16), (.load true 3), [.t 3], none, []⟩,
     ⟨(some 17), .call, [.f 13, .t 16], none, [0]⟩,
     ⟨(some 18), (.un .not), [.t 17], none, [1]⟩,
     ⟨(some 19), .mov, [.t 18], none, [2, 1]⟩,
     ⟨(some 20), .movv, [.t 2], (some (19, false)), [3]⟩,
     ⟨(some 21), .len, [.t 20], (some (19, false)), [4, 3]⟩,
     ⟨(some 22), .call, [.f 26, .t 21], (some (19, false)), [5, 3, 3]⟩,
     ⟨(some 23), (.un .not), [.t 22], (some (19, false)), [6, 3]⟩,
     ⟨(some 24), .pick, [.t 19, .c (.bool true), .t 23], none, [3, 7]⟩] false)
   (.cond (.t 24)
    (.seq
     (.region [⟨(some 6), .mov, [.c (.bool true)], none, []⟩] false)
     .ret)
    .skip))
  (.keep [2, 3, 4] [3, 4] b10k3))
def b10 : DCode :=
 (.seq
  (.region [⟨(some 3), .box, [.t 0], none, []⟩,
    ⟨(some 4), .box, [.t 1], none, []⟩,
    ⟨(some 6), .mov, [.c (.bool false)], none, []⟩] false)
  (.seq
   (.seq
    (.region [⟨(some 14), .call, [.f 12], none, []⟩,
      ⟨(some 15), (.un .not), [.t 14], none, [0]⟩] false)
    (.cond (.t 15)
     (.seq
      (.region [⟨(some 6), .mov, [.c (.bool false)], none, []⟩] false)
      .ret)
     .skip))
   (.keep [2, 3, 4] [3, 4] b10k4)))
def d10 : DFn := ⟨3, 91, [.tmp 6], b10⟩
theorem body10 : d10.body = b10 := rfl
theorem res10 : d10.res = [.tmp 6] := rfl
theorem k10 : chkFn Try.prog Try.f10 d10 = true := by kernel_rfl

end Go.DI

