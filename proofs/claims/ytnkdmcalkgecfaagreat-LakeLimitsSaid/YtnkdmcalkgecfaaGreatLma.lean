/- The function of the statement LakeLimits, as data. No condition. -/
import Derived.Test.YtnkdmcalkgecfaaGreatLmGe
import Derived.Test.YtnkdmcalkgecfaaGreatProg
import Derived.KernelRfl
namespace Go.DI
open Go.Proofs Go.RowKit
/-- guidevane/guidevanelaw01.LakeLimits -/
def b3k0 : DCode :=
 (.seq
  (.region [⟨(some 67), (.load true 3), [.t 3], none, []⟩,
    ⟨(some 68), (.load true 2), [.t 4], none, []⟩,
    ⟨(some 69), (.load true 11), [.t 5], none, []⟩,
    ⟨(some 70), .call, [.f 17, .t 67, .t 68, .t 69], none, [0, 1, 2]⟩,
    ⟨(some 66), .mov, [.t 70], none, [3]⟩,
    ⟨(some 71), (.ext 0), [.t 66], none, [4]⟩,
    ⟨(some 72), (.ext 1), [.t 66], none, [4]⟩,
    ⟨(some 10), (.alloc [(.imm (.int .i64 0)), (.imm (.int .i64 0)), (.imm (.int .i64 0))]), [], none, []⟩,
    ⟨none, (.store 3), [.t 10, .t 71], none, [7, 5, 3, 0, 1, 2, 3, 4, 5, 7]⟩,
    ⟨(some 11), .mov, [.t 72], none, [6, 8, 0, 1, 2, 3, 4, 5, 6, 7, 8]⟩] false)
  (.seq
   (.region [⟨(some 73), .mov, [.t 8], none, []⟩,
     ⟨(some 74), .mov, [.t 11], none, []⟩,
     ⟨(some 75), (.bin .eql), [.t 73, .t 74], none, [0, 1]⟩,
     ⟨(some 76), .mov, [.t 75], none, [2]⟩,
     ⟨(some 77), (.load true 3), [.t 7], (some (76, true)), [3]⟩,
     ⟨(some 78), (.load true 3), [.t 10], (some (76, true)), [3]⟩,
     ⟨(some 79), (.eqs [false, false, false] false), [.t 77, .t 78], (some (76, true)), [4, 5, 3]⟩,
     ⟨(some 80), .pick, [.t 76, .t 79, .c (.bool false)], none, [3, 6]⟩,
     ⟨(some 6), .mov, [.t 80], none, [7, 3, 0, 1, 2, 3, 4, 5, 6, 7]⟩] false)
   .ret))
def b3k1 : DCode :=
 (.seq
  (.seq
   (.region [⟨(some 56), .mov, [.t 9], none, []⟩,
     ⟨(some 57), (.bin .neq), [.t 56, .c (.int .i64 0)], none, [0]⟩] false)
   (.cond (.t 57)
    (.seq
     (.region [⟨(some 58), .mov, [.t 8], none, []⟩,
       ⟨(some 59), .mov, [.t 9], none, []⟩,
       ⟨(some 60), (.bin .eql), [.t 58, .t 59], none, [0, 1]⟩,
       ⟨(some 61), .mov, [.t 60], none, [2]⟩,
       ⟨(some 62), (.load true 3), [.t 7], (some (61, true)), [3]⟩,
       ⟨(some 63), (.build [(.imm (.int .i64 0)), (.imm (.int .i64 0)), (.imm (.int .i64 0))] []), [], (some (61, true)), [3]⟩,
       ⟨(some 64), (.eqs [false, false, false] false), [.t 62, .t 63], (some (61, true)), [4, 5, 3]⟩,
       ⟨(some 65), .pick, [.t 61, .t 64, .c (.bool false)], none, [3, 6]⟩,
       ⟨(some 6), .mov, [.t 65], none, [7, 3, 0, 1, 2, 3, 4, 5, 6, 7]⟩] false)
     .ret)
    .skip))
  (.keep [3, 4, 5, 7, 8] [3, 4, 5, 7] b3k0))
def b3k2 : DCode :=
 (.seq
  (.seq
   (.region [⟨(some 48), (.load true 3), [.t 3], none, []⟩,
     ⟨(some 49), (.load true 2), [.t 4], none, []⟩,
     ⟨(some 50), .call, [.f 15, .t 48, .t 49], none, [0, 1]⟩,
     ⟨(some 9), .mov, [.t 50], none, [2, 2, 0, 1, 2]⟩] false)
   (.seq
    (.region [⟨(some 51), .mov, [.t 9], none, []⟩,
      ⟨(some 52), (.bin .eql), [.t 51, .c (.int .i64 0)], none, [0]⟩] false)
    (.cond (.t 52)
     (.region [⟨(some 53), (.load true 3), [.t 3], none, []⟩,
       ⟨(some 54), (.load true 11), [.t 5], none, []⟩,
       ⟨(some 55), .call, [.f 16, .t 53, .t 54], none, [0, 1]⟩,
       ⟨(some 9), .mov, [.t 55], none, [2, 2, 0, 1, 2]⟩] false)
     .skip)))
  (.keep [3, 4, 5, 7, 8, 9] [3, 4, 5, 7] b3k1))
def b3k3 : DCode :=
 (.seq
  (.seq
   (.region [⟨(some 41), (.load true 3), [.t 3], none, []⟩,
     ⟨(some 42), .call, [.f 10, .t 41], none, [0]⟩,
     ⟨(some 43), (.faddr 0 true 10), [.t 5], none, []⟩,
     ⟨(some 44), (.load true 10), [.t 43], none, [2]⟩,
     ⟨(some 45), .call, [.f 14, .t 42, .t 44], none, [1, 3, 1]⟩,
     ⟨(some 46), .mov, [.t 9], none, []⟩,
     ⟨(some 47), (.bin .neq), [.t 45, .t 46], none, [4, 5]⟩] true)
   (.cond (.t 47)
    (.seq
     (.region [⟨(some 6), .mov, [.c (.bool false)], none, []⟩] false)
     .ret)
    .skip))
  (.keep [3, 4, 5, 7, 8] [3, 4, 5, 7] b3k2))
def b3k4 : DCode :=
 (.seq
  (.region [⟨(some 25), (.load true 3), [.t 3], none, []⟩,
    ⟨(some 26), .call, [.f 10, .t 25], none, [0]⟩,
    ⟨(some 27), (.load true 2), [.t 4], none, []⟩,
    ⟨(some 28), (.load true 11), [.t 5], none, []⟩,
    ⟨(some 29), .call, [.f 11, .t 28], none, [3, 1]⟩,
    ⟨(some 30), .call, [.f 9, .t 26, .t 27, .t 29], none, [1, 2, 4, 4]⟩,
    ⟨(some 24), .mov, [.t 30], none, [5]⟩,
    ⟨(some 31), (.ext 0), [.t 24], none, [6]⟩,
    ⟨(some 32), (.ext 1), [.t 24], none, [6]⟩,
    ⟨(some 7), (.alloc [(.imm (.int .i64 0)), (.imm (.int .i64 0)), (.imm (.int .i64 0))]), [], none, []⟩,
    ⟨none, (.store 3), [.t 7, .t 31], none, [9, 7, 5, 0, 1, 2, 3, 4, 5, 6, 7, 9]⟩,
    ⟨(some 8), .mov, [.t 32], none, [8, 10, 0, 1, 2, 3, 4, 5, 6, 7, 8, 9, 10]⟩] true)
  (.seq
   (.region [⟨(some 33), (.load true 3), [.t 3], none, []⟩,
     ⟨(some 34), .call, [.f 12, .t 33], none, [0]⟩,
     ⟨(some 9), .mov, [.t 34], none, [1, 1, 0, 1]⟩] false)
   (.seq
    (.seq
     (.region [⟨(some 35), .mov, [.t 9], none, []⟩,
       ⟨(some 36), (.bin .eql), [.t 35, .c (.int .i64 0)], none, [0]⟩] false)
     (.cond (.t 36)
      (.region [⟨(some 37), (.load true 3), [.t 3], none, []⟩,
        ⟨(some 38), (.faddr 0 true 10), [.t 5], none, []⟩,
        ⟨(some 39), (.load true 10), [.t 38], none, [1]⟩,
        ⟨(some 40), .call, [.f 13, .t 37, .t 39], none, [0, 2]⟩,
        ⟨(some 9), .mov, [.t 40], none, [3, 3, 0, 1, 2, 3]⟩] false)
      .skip))
    (.keep [3, 4, 5, 7, 8, 9] [3, 4, 5, 7] b3k3))))
def b3k5 : DCode :=
 (.seq
  (.seq
   (.region [⟨(some 14), (.load true 3), [.t 3], none, []⟩,
     ⟨(some 15), .call, [.f 7, .t 14], none, [0]⟩,
     ⟨(some 16), (.un .not), [.t 15], none, [1]⟩,
     ⟨(some 17), .mov, [.t 16], none, [2, 1]⟩,
     ⟨(some 18), (.faddr 10 false 1), [.t 5], (some (17, false)), [3]⟩,
     ⟨(some 19), (.load false 1), [.t 18], (some (17, false)), [4, 3]⟩,
     ⟨(some 20), .len, [.t 19], (some (17, false)), [5, 3]⟩,
     ⟨(some 21), .call, [.f 8, .t 20], (some (17, false)), [6, 3, 3]⟩,
     ⟨(some 22), (.un .not), [.t 21], (some (17, false)), [7, 3]⟩,
     ⟨(some 23), .pick, [.t 17, .c (.bool true), .t 22], none, [3, 8]⟩] false)
   (.cond (.t 23)
    (.seq
     (.region [⟨(some 6), .mov, [.c (.bool true)], none, []⟩] false)
     .ret)
    .skip))
  (.keep [3, 4, 5] [3, 4, 5] b3k4))
def b3 : DCode :=
 (.seq
  (.region [⟨(some 3), .box, [.t 0], none, []⟩,
    ⟨(some 4), .box, [.t 1], none, []⟩,
    ⟨(some 5), .box, [.t 2], none, []⟩,
    ⟨(some 6), .mov, [.c (.bool false)], none, []⟩] false)
  (.seq
   (.seq
    (.region [⟨(some 12), .call, [.f 6], none, []⟩,
      ⟨(some 13), (.un .not), [.t 12], none, [0]⟩] false)
    (.cond (.t 13)
     (.seq
      (.region [⟨(some 6), .mov, [.c (.bool false)], none, []⟩] false)
      .ret)
     .skip))
   (.keep [3, 4, 5] [3, 4, 5] b3k5)))
def d3 : DFn := ⟨3, 81, [.tmp 6], b3⟩
theorem body3 : d3.body = b3 := rfl
theorem res3 : d3.res = [.tmp 6] := rfl
theorem k3 : chkFn Tryz.prog Tryz.f3 d3 = true := by kernel_rfl

end Go.DI

