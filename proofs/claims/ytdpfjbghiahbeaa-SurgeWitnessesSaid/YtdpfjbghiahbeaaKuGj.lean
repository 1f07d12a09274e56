/- Contracts of the reference: rules, states, steps. No condition. -/
import Derived.Test.YtdpfjbghiahbeaaKuGh
/- The reference's functions of rules, states and steps, and the laws of steps, as data. No condition. -/
namespace Go.DI
open Go.Proofs Go.RowKit
/-- guidevane/guidevaneref04.loss -/
def b95 : DCode :=
 (.seq
  (.region [⟨(some 4), .mov, [.c (.int .i64 0)], none, []⟩] false)
  (.seq
   (.region [⟨(some 5), .mov, [.t 0], none, []⟩,
     ⟨(some 6), .mov, [.t 1], none, []⟩,
     ⟨(some 7), (.bin .mul), [.t 5, .t 6], none, [0, 1]⟩,
     ⟨(some 8), .mov, [.t 1], none, []⟩,
     ⟨(some 9), .call, [.f 144, .t 8], none, [3]⟩,
     ⟨(some 10), (.bin .mul), [.t 7, .t 9], none, [2, 4]⟩,
     ⟨(some 11), (.bin .quo), [.t 10, .c (.int .i64 1000)], none, [5]⟩,
     ⟨(some 4), .mov, [.t 11], none, [6, 4, 0, 1, 2, 3, 4, 5, 6]⟩] false)
   .ret))
def d95 : DFn := ⟨2, 12, [.tmp 4], b95⟩
theorem body95 : d95.body = b95 := rfl
theorem res95 : d95.res = [.tmp 4] := rfl
theorem k95 : chkFn Try.prog Try.f95 d95 = true := by kernel_rfl

/-- guidevane/guidevaneref04.RulesErr -/
def b17k0 : DCode :=
 (.region [⟨(some 18), .mov, [.t 4], none, []⟩,
   ⟨(some 19), (.bin .add), [.t 18, .c (.int .i64 1)], none, [0]⟩,
   ⟨(some 4), .mov, [.t 19], none, [1, 0, 1]⟩] false)
def b17k1 : DCode :=
 (.seq
  (.block 1
   (.seq
    (.region [⟨(some 20), .movv, [.t 3], none, []⟩,
      ⟨(some 21), .mov, [.t 4], none, []⟩,
      ⟨(some 22), (.iaddr 1), [.t 20, .t 21], none, [0, 1]⟩,
      ⟨(some 23), (.load false 1), [.t 22], none, [2]⟩,
      ⟨(some 24), .call, [.f 27, .t 23, .c (.int .i64 0), .c (.int .i64 100)], none, [3]⟩,
      ⟨(some 25), (.un .not), [.t 24], none, [4]⟩] false)
    (.cond (.t 25)
     (.seq
      (.region [⟨(some 2), .mov, [.c (.int .i64 2)], none, []⟩] false)
      .ret)
     .skip)))
  (.keep [1, 3, 4] [1] b17k0))
def b17l0 : DCode := .keep [1, 3, 4] [1]
  (.seq
   (.seq
    (.region [⟨(some 14), .mov, [.t 4], none, []⟩,
      ⟨(some 15), .movv, [.t 3], none, []⟩,
      ⟨(some 16), .len, [.t 15], none, [1]⟩,
      ⟨(some 17), (.bin .lss), [.t 14, .t 16], none, [0, 2]⟩] false)
    (.cond (.t 17)
     .skip
     (.exit 0)))
   (.keep [1, 3, 4] [1] b17k1))
def b17k2 : DCode :=
 (.seq
  (.region [⟨(some 2), .mov, [.c (.int .i64 0)], none, []⟩] false)
  .ret)
def b17k3 : DCode :=
 (.seq
  (.seq
   (.region [⟨(some 43), (.faddr 2 true 2), [.t 1], none, []⟩,
     ⟨(some 44), (.faddr 1 false 1), [.t 43], none, [0]⟩,
     ⟨(some 45), (.load false 1), [.t 44], none, [1]⟩,
     ⟨(some 46), (.bin .mul), [.c (.int .i64 2001), .t 45], none, [2]⟩,
     ⟨(some 47), (.faddr 4 false 1), [.t 1], none, []⟩,
     ⟨(some 48), (.load false 1), [.t 47], none, [4]⟩,
     ⟨(some 49), (.bin .mul), [.c (.int .i64 4001), .t 48], none, [5]⟩,
     ⟨(some 50), (.bin .add), [.t 46, .t 49], none, [3, 6]⟩,
     ⟨(some 51), (.bin .add), [.t 50, .c (.int .i64 2000)], none, [7]⟩,
     ⟨(some 52), (.faddr 0 false 1), [.t 1], none, []⟩,
     ⟨(some 53), (.load false 1), [.t 52], none, [9]⟩,
     ⟨(some 54), (.bin .mul), [.c (.int .i64 1000), .t 53], none, [10]⟩,
     ⟨(some 55), (.bin .gtr), [.t 51, .t 54], none, [8, 11]⟩] false)
   (.cond (.t 55)
    (.seq
     (.region [⟨(some 2), .mov, [.c (.int .i64 13)], none, []⟩] false)
     .ret)
    .skip))
  (.keep [] [] b17k2))
def b17k4 : DCode :=
 (.seq
  (.seq
   (.region [⟨(some 36), (.faddr 2 true 2), [.t 1], none, []⟩,
     ⟨(some 37), (.faddr 0 false 1), [.t 36], none, [0]⟩,
     ⟨(some 38), (.load false 1), [.t 37], none, [1]⟩,
     ⟨(some 39), (.faddr 2 true 2), [.t 1], none, []⟩,
     ⟨(some 40), (.faddr 1 false 1), [.t 39], none, [3]⟩,
     ⟨(some 41), (.load false 1), [.t 40], none, [4]⟩,
     ⟨(some 42), (.bin .gtr), [.t 38, .t 41], none, [2, 5]⟩] false)
   (.cond (.t 42)
    (.seq
     (.region [⟨(some 2), .mov, [.c (.int .i64 9)], none, []⟩] false)
     .ret)
    .skip))
  (.keep [1] [1] b17k3))
def b17k5 : DCode :=
 (.seq
  (.seq
   (.region [⟨(some 26), (.faddr 0 false 1), [.t 1], none, []⟩,
     ⟨(some 27), (.load false 1), [.t 26], none, [0]⟩,
     ⟨(some 28), .call, [.f 27, .t 27, .c (.int .i64 1), .c (.int .i64 1000)], none, [1]⟩,
     ⟨(some 29), (.un .not), [.t 28], none, [2]⟩,
     ⟨(some 30), .mov, [.t 29], none, [3, 2]⟩,
     ⟨(some 31), (.faddr 1 false 1), [.t 1], (some (30, false)), [4]⟩,
     ⟨(some 32), (.load false 1), [.t 31], (some (30, false)), [5, 4]⟩,
     ⟨(some 33), .call, [.f 27, .t 32, .c (.int .i64 1), .c (.int .i64 1000)], (some (30, false)), [6, 4, 4]⟩,
     ⟨(some 34), (.un .not), [.t 33], (some (30, false)), [7, 4]⟩,
     ⟨(some 35), .pick, [.t 30, .c (.bool true), .t 34], none, [4, 8]⟩] false)
   (.cond (.t 35)
    (.seq
     (.region [⟨(some 2), .mov, [.c (.int .i64 2)], none, []⟩] false)
     .ret)
    .skip))
  (.keep [1] [1] b17k4))
def b17 : DCode :=
 (.seq
  (.region [⟨(some 1), .box, [.t 0], none, []⟩,
    ⟨(some 2), .mov, [.c (.int .i64 0)], none, []⟩] false)
  (.seq
   (.region [⟨(some 5), (.faddr 2 true 2), [.t 1], none, []⟩,
     ⟨(some 6), (.faddr 0 false 1), [.t 5], none, [0]⟩,
     ⟨(some 7), (.load false 1), [.t 6], none, [1]⟩,
     ⟨(some 8), (.faddr 2 true 2), [.t 1], none, []⟩,
     ⟨(some 9), (.faddr 1 false 1), [.t 8], none, [3]⟩,
     ⟨(some 10), (.load false 1), [.t 9], none, [4]⟩,
     ⟨(some 11), (.faddr 4 false 1), [.t 1], none, []⟩,
     ⟨(some 12), (.load false 1), [.t 11], none, [6]⟩,
     ⟨(some 13), (.bsl 1), [.t 7, .t 10, .t 12], none, [2, 5, 7]⟩,
     ⟨(some 3), .movv, [.t 13], none, [8, 0, 1, 2, 3, 4, 5, 6, 7, 8]⟩] false)
   (.seq
    (.seq
     (.region [⟨(some 4), .mov, [.c (.int .i64 0)], none, []⟩] false)
     (.block 0
      (.loop b17l0)))
    (.keep [1] [1] b17k5))))
def d17 : DFn := ⟨1, 56, [.tmp 2], b17⟩
theorem body17 : d17.body = b17 := rfl
theorem res17 : d17.res = [.tmp 2] := rfl
theorem k17 : chkFn Try.prog Try.f17 d17 = true := by kernel_rfl

/-- guidevane/guidevaneref04.StateErr -/
def b19k0 : DCode :=
 (.seq
  (.region [⟨(some 2), .mov, [.c (.int .i64 0)], none, []⟩] false)
  .ret)
def b19 : DCode :=
 (.seq
  (.region [⟨(some 1), .box, [.t 0], none, []⟩,
    ⟨(some 2), .mov, [.c (.int .i64 0)], none, []⟩] false)
  (.seq
   (.seq
    (.region [⟨(some 3), (.faddr 0 false 1), [.t 1], none, []⟩,
      ⟨(some 4), (.load false 1), [.t 3], none, [0]⟩,
      ⟨(some 5), .call, [.f 27, .t 4, .c (.int .i64 (-100000)), .c (.int .i64 100000)], none, [1]⟩,
      ⟨(some 6), (.un .not), [.t 5], none, [2]⟩,
      ⟨(some 7), .mov, [.t 6], none, [3, 2]⟩,
      ⟨(some 8), (.faddr 1 false 1), [.t 1], (some (7, false)), [4]⟩,
      ⟨(some 9), (.load false 1), [.t 8], (some (7, false)), [5, 4]⟩,
      ⟨(some 10), .call, [.f 27, .t 9, .c (.int .i64 (-1000)), .c (.int .i64 1000)], (some (7, false)), [6, 4, 4]⟩,
      ⟨(some 11), (.un .not), [.t 10], (some (7, false)), [7, 4]⟩,
      ⟨(some 12), .pick, [.t 7, .c (.bool true), .t 11], none, [4, 8]⟩] false)
    (.cond (.t 12)
     (.seq
      (.region [⟨(some 2), .mov, [.c (.int .i64 2)], none, []⟩] false)
      .ret)
     .skip))
   (.keep [] [] b19k0)))
def d19 : DFn := ⟨1, 13, [.tmp 2], b19⟩
theorem body19 : d19.body = b19 := rfl
theorem res19 : d19.res = [.tmp 2] := rfl
theorem k19 : chkFn Try.prog Try.f19 d19 = true := by kernel_rfl

/-- guidevane/guidevaneref04.LoadErr -/
def b21k0 : DCode :=
 (.seq
  (.region [⟨(some 2), .mov, [.c (.int .i64 0)], none, []⟩] false)
  .ret)
def b21 : DCode :=
 (.seq
  (.region [⟨(some 2), .mov, [.c (.int .i64 0)], none, []⟩] false)
  (.seq
   (.seq
    (.region [⟨(some 3), .mov, [.t 0], none, []⟩,
      ⟨(some 4), .call, [.f 27, .t 3, .c (.int .i64 0), .c (.int .i64 1000)], none, [0]⟩,
      ⟨(some 5), (.un .not), [.t 4], none, [1]⟩] false)
    (.cond (.t 5)
     (.seq
      (.region [⟨(some 2), .mov, [.c (.int .i64 2)], none, []⟩] false)
      .ret)
     .skip))
   (.keep [] [] b21k0)))
def d21 : DFn := ⟨1, 6, [.tmp 2], b21⟩
theorem body21 : d21.body = b21 := rfl
theorem res21 : d21.res = [.tmp 2] := rfl
theorem k21 : chkFn Try.prog Try.f21 d21 = true := by kernel_rfl

/-- guidevane/guidevaneref04.FrictionErr -/
def b22k0 : DCode :=
 (.seq
  (.region [⟨(some 4), .mov, [.c (.int .i64 0)], none, []⟩] false)
  .ret)
def b22 : DCode :=
 (.seq
  (.region [⟨(some 2), .box, [.t 0], none, []⟩,
    ⟨(some 4), .mov, [.c (.int .i64 0)], none, []⟩] false)
  (.seq
   (.seq
    (.region [⟨(some 5), .mov, [.t 1], none, []⟩,
      ⟨(some 6), (.faddr 2 true 2), [.t 2], none, []⟩,
      ⟨(some 7), (.faddr 0 false 1), [.t 6], none, [1]⟩,
      ⟨(some 8), (.load false 1), [.t 7], none, [2]⟩,
      ⟨(some 9), (.faddr 2 true 2), [.t 2], none, []⟩,
      ⟨(some 10), (.faddr 1 false 1), [.t 9], none, [4]⟩,
      ⟨(some 11), (.load false 1), [.t 10], none, [5]⟩,
      ⟨(some 12), .call, [.f 27, .t 5, .t 8, .t 11], none, [0, 3, 6]⟩,
      ⟨(some 13), (.un .not), [.t 12], none, [7]⟩] false)
    (.cond (.t 13)
     (.seq
      (.region [⟨(some 4), .mov, [.c (.int .i64 2)], none, []⟩] false)
      .ret)
     .skip))
   (.keep [] [] b22k0)))
def d22 : DFn := ⟨2, 14, [.tmp 4], b22⟩
theorem body22 : d22.body = b22 := rfl
theorem res22 : d22.res = [.tmp 4] := rfl
theorem k22 : chkFn Try.prog Try.f22 d22 = true := by kernel_rfl

/-- guidevane/guidevaneref04.Step -/
def b23 : DCode :=
 (.seq
  (.region [⟨(some 4), .box, [.t 0], none, []⟩,
    ⟨(some 5), .box, [.t 1], none, []⟩,
    ⟨(some 8), (.alloc [(.imm (.int .i64 0)), (.imm (.int .i64 0))]), [], none, []⟩] false)
  (.seq
   (.region [⟨(some 11), (.faddr 0 false 1), [.t 5], none, []⟩,
     ⟨(some 12), (.load false 1), [.t 11], none, [0]⟩,
     ⟨(some 13), .mov, [.t 3], none, []⟩,
     ⟨(some 14), (.faddr 1 false 1), [.t 5], none, []⟩,
     ⟨(some 15), (.load false 1), [.t 14], none, [3]⟩,
     ⟨(some 16), .call, [.f 95, .t 13, .t 15], none, [2, 4]⟩,
     ⟨(some 17), (.bin .add), [.t 12, .t 16], none, [1, 5]⟩,
     ⟨(some 18), (.faddr 4 false 1), [.t 4], none, []⟩,
     ⟨(some 19), (.load false 1), [.t 18], none, [7]⟩,
     ⟨(some 20), (.faddr 1 false 1), [.t 5], none, []⟩,
     ⟨(some 21), (.load false 1), [.t 20], none, [9]⟩,
     ⟨(some 22), .mov, [.t 2], none, []⟩,
     ⟨(some 23), (.bin .sub), [.t 21, .t 22], none, [10, 11]⟩,
     ⟨(some 24), .call, [.f 95, .t 19, .t 23], none, [8, 12, 5]⟩,
     ⟨(some 25), (.bin .add), [.t 17, .t 24], none, [6, 13]⟩,
     ⟨(some 9), .mov, [.t 25], none, [14, 13, 0, 1, 2, 3, 4, 5, 6, 7, 8, 9, 10, 11, 12, 13, 14]⟩] true)
   (.seq
    (.region [⟨(some 26), (.faddr 1 false 1), [.t 5], none, []⟩,
      ⟨(some 27), (.load false 1), [.t 26], none, [0]⟩,
      ⟨(some 28), .mov, [.t 9], none, []⟩,
      ⟨(some 29), (.faddr 0 false 1), [.t 4], none, []⟩,
      ⟨(some 30), (.load false 1), [.t 29], none, [3]⟩,
      ⟨(some 31), .call, [.f 96, .t 28, .t 30], none, [2, 4]⟩,
      ⟨(some 32), (.bin .sub), [.t 27, .t 31], none, [1, 5]⟩,
      ⟨(some 10), .mov, [.t 32], none, [6, 5, 0, 1, 2, 3, 4, 5, 6]⟩] true)
    (.seq
     (.region [⟨(some 33), .mov, [.t 10], none, []⟩,
       ⟨(some 34), (.mm false), [.c (.int .i64 1000), .t 33], none, [0]⟩,
       ⟨(some 35), (.mm true), [.c (.int .i64 (-1000)), .t 34], none, [1]⟩,
       ⟨(some 10), .mov, [.t 35], none, [2, 0, 1, 2]⟩] false)
     (.seq
      (.region [⟨(some 36), (.faddr 0 false 1), [.t 5], none, []⟩,
        ⟨(some 37), (.load false 1), [.t 36], none, [0]⟩,
        ⟨(some 38), .mov, [.t 10], none, []⟩,
        ⟨(some 39), .mov, [.t 2], none, []⟩,
        ⟨(some 40), (.bin .sub), [.t 38, .t 39], none, [2, 3]⟩,
        ⟨(some 41), (.faddr 1 false 1), [.t 4], none, []⟩,
        ⟨(some 42), (.load false 1), [.t 41], none, [5]⟩,
        ⟨(some 43), .call, [.f 96, .t 40, .t 42], none, [4, 6]⟩,
        ⟨(some 44), (.bin .add), [.t 37, .t 43], none, [1, 7]⟩,
        ⟨(some 45), .mov, [.t 10], none, []⟩,
        ⟨(some 46), (.build [(.imm (.int .i64 0)), (.imm (.int .i64 0))] [(0, 1), (1, 1)]), [.t 44, .t 45], none, [8, 9]⟩,
        ⟨none, (.store 2), [.t 8, .t 46], none, [10, 7, 0, 1, 2, 3, 4, 5, 6, 7, 8, 9, 10]⟩] true)
      .ret)))))
def d23 : DFn := ⟨4, 47, [.cell 8 true 2], b23⟩
theorem body23 : d23.body = b23 := rfl
theorem res23 : d23.res = [.cell 8 true 2] := rfl
theorem k23 : chkFn Try.prog Try.f23 d23 = true := by kernel_rfl

/-- guidevane/guidevanelaw04.SurgeSteps -/
def b3k0 : DCode :=
 (.seq
  (.region [⟨(some 55), .mov, [.t 8], none, []⟩,
    ⟨(some 56), (.bin .eql), [.t 55, .c (.int .i64 0)], none, [0]⟩,
    ⟨(some 57), .mov, [.t 56], none, [1]⟩,
    ⟨(some 58), (.load true 2), [.t 7], (some (57, true)), [2]⟩,
    ⟨(some 59), (.load true 5), [.t 3], (some (57, true)), [2]⟩,
    ⟨(some 60), (.load true 2), [.t 4], (some (57, true)), [2]⟩,
    ⟨(some 61), (.faddr 0 false 1), [.t 5], (some (57, true)), [2]⟩,
    ⟨(some 62), (.load false 1), [.t 61], (some (57, true)), [6, 2]⟩,
    ⟨(some 63), (.faddr 1 false 1), [.t 5], (some (57, true)), [2]⟩,
    ⟨(some 64), (.load false 1), [.t 63], (some (57, true)), [8, 2]⟩,
    ⟨(some 65), .call, [.f 23, .t 59, .t 60, .t 62, .t 64], (some (57, true)), [4, 5, 7, 9, 2, 2]⟩,
    ⟨(some 66), (.eqs [false, false] false), [.t 58, .t 65], (some (57, true)), [3, 10, 2]⟩,
    ⟨(some 67), .pick, [.t 57, .t 66, .c (.bool false)], none, [2, 11]⟩,
    ⟨(some 6), .mov, [.t 67], none, [12, 10, 0, 1, 2, 3, 4, 5, 6, 7, 8, 9, 10, 11, 12]⟩] true)
  .ret)
def b3k1 : DCode :=
 (.seq
  (.seq
   (.region [⟨(some 45), .mov, [.t 9], none, []⟩,
     ⟨(some 46), (.bin .neq), [.t 45, .c (.int .i64 0)], none, [0]⟩] false)
   (.cond (.t 46)
    (.seq
     (.region [⟨(some 47), .mov, [.t 8], none, []⟩,
       ⟨(some 48), .mov, [.t 9], none, []⟩,
       ⟨(some 49), (.bin .eql), [.t 47, .t 48], none, [0, 1]⟩,
       ⟨(some 50), .mov, [.t 49], none, [2]⟩,
       ⟨(some 51), (.load true 2), [.t 7], (some (50, true)), [3]⟩,
       ⟨(some 52), (.build [(.imm (.int .i64 0)), (.imm (.int .i64 0))] []), [], (some (50, true)), [3]⟩,
       ⟨(some 53), (.eqs [false, false] false), [.t 51, .t 52], (some (50, true)), [4, 5, 3]⟩,
       ⟨(some 54), .pick, [.t 50, .t 53, .c (.bool false)], none, [3, 6]⟩,
       ⟨(some 6), .mov, [.t 54], none, [7, 3, 0, 1, 2, 3, 4, 5, 6, 7]⟩] false)
     .ret)
    .skip))
  (.keep [3, 4, 5, 7, 8] [3, 4, 5, 7] b3k0))
def b3k2 : DCode :=
 (.seq
  (.seq
   (.region [⟨(some 39), .mov, [.t 9], none, []⟩,
     ⟨(some 40), (.bin .eql), [.t 39, .c (.int .i64 0)], none, [0]⟩] false)
   (.cond (.t 40)
    (.region [⟨(some 41), (.load true 5), [.t 3], none, []⟩,
      ⟨(some 42), (.faddr 1 false 1), [.t 5], none, []⟩,
      ⟨(some 43), (.load false 1), [.t 42], none, [1]⟩,
      ⟨(some 44), .call, [.f 22, .t 41, .t 43], none, [0, 2]⟩,
      ⟨(some 9), .mov, [.t 44], none, [3, 3, 0, 1, 2, 3]⟩] false)
    .skip))
  (.keep [3, 4, 5, 7, 8, 9] [3, 4, 5, 7] b3k1))
def b3k3 : DCode :=
 (.seq
  (.seq
   (.region [⟨(some 34), .mov, [.t 9], none, []⟩,
     ⟨(some 35), (.bin .eql), [.t 34, .c (.int .i64 0)], none, [0]⟩] false)
   (.cond (.t 35)
    (.region [⟨(some 36), (.faddr 0 false 1), [.t 5], none, []⟩,
      ⟨(some 37), (.load false 1), [.t 36], none, [0]⟩,
      ⟨(some 38), .call, [.f 21, .t 37], none, [1]⟩,
      ⟨(some 9), .mov, [.t 38], none, [2, 2, 0, 1, 2]⟩] false)
    .skip))
  (.keep [3, 4, 5, 7, 8, 9] [3, 4, 5, 7] b3k2))
def b3k4 : DCode :=
 (.seq
  (.seq
   (.region [⟨(some 29), (.load true 5), [.t 3], none, []⟩,
     ⟨(some 30), (.load true 2), [.t 4], none, []⟩,
     ⟨(some 31), .call, [.f 20, .t 29, .t 30], none, [0, 1]⟩,
     ⟨(some 32), .mov, [.t 9], none, []⟩,
     ⟨(some 33), (.bin .neq), [.t 31, .t 32], none, [2, 3]⟩] false)
   (.cond (.t 33)
    (.seq
     (.region [⟨(some 6), .mov, [.c (.bool false)], none, []⟩] false)
     .ret)
    .skip))
  (.keep [3, 4, 5, 7, 8, 9] [3, 4, 5, 7] b3k3))
def b3k5 : DCode :=
 (.seq
  (.seq
   (.region [⟨(some 25), .mov, [.t 9], none, []⟩,
     ⟨(some 26), (.bin .eql), [.t 25, .c (.int .i64 0)], none, [0]⟩] false)
   (.cond (.t 26)
    (.region [⟨(some 27), (.load true 2), [.t 4], none, []⟩,
      ⟨(some 28), .call, [.f 19, .t 27], none, [0]⟩,
      ⟨(some 9), .mov, [.t 28], none, [1, 1, 0, 1]⟩] false)
    .skip))
  (.keep [3, 4, 5, 7, 8, 9] [3, 4, 5, 7] b3k4))
def b3k6 : DCode :=
 (.seq
  (.region [⟨(some 13), (.load true 5), [.t 3], none, []⟩,
    ⟨(some 14), (.load true 2), [.t 4], none, []⟩,
    ⟨(some 15), (.load true 2), [.t 5], none, []⟩,
    ⟨(some 16), .call, [.f 16, .t 13, .t 14, .t 15], none, [0, 1, 2]⟩,
    ⟨(some 12), .mov, [.t 16], none, [3]⟩,
    ⟨(some 17), (.ext 0), [.t 12], none, [4]⟩,
    ⟨(some 18), (.ext 1), [.t 12], none, [4]⟩,
    ⟨(some 7), (.alloc [(.imm (.int .i64 0)), (.imm (.int .i64 0))]), [], none, []⟩,
    ⟨none, (.store 2), [.t 7, .t 17], none, [7, 5, 3, 0, 1, 2, 3, 4, 5, 7]⟩,
    ⟨(some 8), .mov, [.t 18], none, [6, 8, 0, 1, 2, 3, 4, 5, 6, 7, 8]⟩] false)
  (.seq
   (.region [⟨(some 19), (.load true 5), [.t 3], none, []⟩,
     ⟨(some 20), .call, [.f 17, .t 19], none, [0]⟩,
     ⟨(some 9), .mov, [.t 20], none, [1, 1, 0, 1]⟩] false)
   (.seq
    (.seq
     (.region [⟨(some 21), (.load true 5), [.t 3], none, []⟩,
       ⟨(some 22), .call, [.f 18, .t 21], none, [0]⟩,
       ⟨(some 23), .mov, [.t 9], none, []⟩,
       ⟨(some 24), (.bin .neq), [.t 22, .t 23], none, [1, 2]⟩] false)
     (.cond (.t 24)
      (.seq
       (.region [⟨(some 6), .mov, [.c (.bool false)], none, []⟩] false)
       .ret)
      .skip))
    (.keep [3, 4, 5, 7, 8, 9] [3, 4, 5, 7] b3k5))))
def b3 : DCode :=
 (.seq
  (.region [⟨(some 3), .box, [.t 0], none, []⟩,
    ⟨(some 4), .box, [.t 1], none, []⟩,
    ⟨(some 5), .box, [.t 2], none, []⟩,
    ⟨(some 6), .mov, [.c (.bool false)], none, []⟩] false)
  (.seq
   (.seq
    (.region [⟨(some 10), .call, [.f 15], none, []⟩,
      ⟨(some 11), (.un .not), [.t 10], none, [0]⟩] false)
    (.cond (.t 11)
     (.seq
      (.region [⟨(some 6), .mov, [.c (.bool false)], none, []⟩] false)
      .ret)
     .skip))
   (.keep [3, 4, 5] [3, 4, 5] b3k6)))
def d3 : DFn := ⟨3, 68, [.tmp 6], b3⟩
theorem k3 : chkFn Try.prog Try.f3 d3 = true := by kernel_rfl

/-- guidevane/guidevanelaw04.SurgeNeverCross -/
def b4k0 : DCode :=
 (.seq
  (.region [⟨(some 112), (.faddr 0 false 1), [.t 13], none, []⟩,
    ⟨(some 113), (.load false 1), [.t 112], none, [0]⟩,
    ⟨(some 114), (.faddr 0 false 1), [.t 11], none, []⟩,
    ⟨(some 115), (.load false 1), [.t 114], none, [2]⟩,
    ⟨(some 116), (.bin .geq), [.t 113, .t 115], none, [1, 3]⟩,
    ⟨(some 117), .mov, [.t 116], none, [4]⟩,
    ⟨(some 118), (.faddr 1 false 1), [.t 13], (some (117, true)), [5]⟩,
    ⟨(some 119), (.load false 1), [.t 118], (some (117, true)), [6, 5]⟩,
    ⟨(some 120), (.faddr 1 false 1), [.t 11], (some (117, true)), [5]⟩,
    ⟨(some 121), (.load false 1), [.t 120], (some (117, true)), [8, 5]⟩,
    ⟨(some 122), (.bin .leq), [.t 119, .t 121], (some (117, true)), [7, 9, 5]⟩,
    ⟨(some 123), .pick, [.t 117, .t 122, .c (.bool false)], none, [5, 10]⟩,
    ⟨(some 124), .mov, [.t 123], none, [11, 5]⟩,
    ⟨(some 125), (.faddr 0 false 1), [.t 15], (some (124, true)), [12]⟩,
    ⟨(some 126), (.load false 1), [.t 125], (some (124, true)), [13, 12]⟩,
    ⟨(some 127), (.faddr 0 false 1), [.t 11], (some (124, true)), [12]⟩,
    ⟨(some 128), (.load false 1), [.t 127], (some (124, true)), [15, 12]⟩,
    ⟨(some 129), (.bin .geq), [.t 126, .t 128], (some (124, true)), [14, 16, 12]⟩,
    ⟨(some 130), .pick, [.t 124, .t 129, .c (.bool false)], none, [12, 17]⟩,
    ⟨(some 131), .mov, [.t 130], none, [18, 12]⟩,
    ⟨(some 132), (.faddr 1 false 1), [.t 15], (some (131, true)), [19]⟩,
    ⟨(some 133), (.load false 1), [.t 132], (some (131, true)), [20, 19]⟩,
    ⟨(some 134), (.faddr 1 false 1), [.t 11], (some (131, true)), [19]⟩,
    ⟨(some 135), (.load false 1), [.t 134], (some (131, true)), [22, 19]⟩,
    ⟨(some 136), (.bin .geq), [.t 133, .t 135], (some (131, true)), [21, 23, 19]⟩,
    ⟨(some 137), .pick, [.t 131, .t 136, .c (.bool false)], none, [19, 24]⟩,
    ⟨(some 6), .mov, [.t 137], none, [25, 19, 0, 1, 2, 3, 4, 5, 6, 7, 8, 9, 10, 11, 12, 13, 14, 15, 16, 17, 18, 19, 20, 21, 22, 23, 24, 25]⟩] false)
  .ret)
def b4k1 : DCode :=
 (.seq
  (.region [⟨(some 47), (.iarr 2 2 true), [.t 4, .c (.int .i64 0)], none, []⟩,
    ⟨(some 48), (.faddr 0 false 1), [.t 47], none, [0]⟩,
    ⟨(some 49), (.load false 1), [.t 48], none, [1]⟩,
    ⟨(some 50), (.iarr 2 2 true), [.t 4, .c (.int .i64 1)], none, []⟩,
    ⟨(some 51), (.faddr 0 false 1), [.t 50], none, [3]⟩,
    ⟨(some 52), (.load false 1), [.t 51], none, [4]⟩,
    ⟨(some 53), (.mm false), [.t 49, .t 52], none, [2, 5]⟩,
    ⟨(some 54), (.iarr 2 2 true), [.t 4, .c (.int .i64 0)], none, []⟩,
    ⟨(some 55), (.faddr 0 false 1), [.t 54], none, [7]⟩,
    ⟨(some 56), (.load false 1), [.t 55], none, [8]⟩,
    ⟨(some 57), (.iarr 2 2 true), [.t 4, .c (.int .i64 1)], none, []⟩,
    ⟨(some 58), (.faddr 0 false 1), [.t 57], none, [10]⟩,
    ⟨(some 59), (.load false 1), [.t 58], none, [11]⟩,
    ⟨(some 60), (.mm true), [.t 56, .t 59], none, [9, 12]⟩,
    ⟨(some 7), .mov, [.t 53], none, [6, 0, 1, 2, 3, 4, 5, 6]⟩,
    ⟨(some 8), .mov, [.t 60], none, [13, 14, 0, 1, 2, 3, 4, 5, 6, 7, 8, 9, 10, 11, 12, 13, 14]⟩] true)
  (.seq
   (.region [⟨(some 61), (.iarr 2 2 true), [.t 4, .c (.int .i64 0)], none, []⟩,
     ⟨(some 62), (.faddr 1 false 1), [.t 61], none, [0]⟩,
     ⟨(some 63), (.load false 1), [.t 62], none, [1]⟩,
     ⟨(some 64), (.iarr 2 2 true), [.t 4, .c (.int .i64 1)], none, []⟩,
     ⟨(some 65), (.faddr 1 false 1), [.t 64], none, [3]⟩,
     ⟨(some 66), (.load false 1), [.t 65], none, [4]⟩,
     ⟨(some 67), (.mm false), [.t 63, .t 66], none, [2, 5]⟩,
     ⟨(some 68), (.iarr 2 2 true), [.t 4, .c (.int .i64 0)], none, []⟩,
     ⟨(some 69), (.faddr 1 false 1), [.t 68], none, [7]⟩,
     ⟨(some 70), (.load false 1), [.t 69], none, [8]⟩,
     ⟨(some 71), (.iarr 2 2 true), [.t 4, .c (.int .i64 1)], none, []⟩,
     ⟨(some 72), (.faddr 1 false 1), [.t 71], none, [10]⟩,
     ⟨(some 73), (.load false 1), [.t 72], none, [11]⟩,
     ⟨(some 74), (.mm true), [.t 70, .t 73], none, [9, 12]⟩,
     ⟨(some 9), .mov, [.t 67], none, [6, 0, 1, 2, 3, 4, 5, 6]⟩,
     ⟨(some 10), .mov, [.t 74], none, [13, 14, 0, 1, 2, 3, 4, 5, 6, 7, 8, 9, 10, 11, 12, 13, 14]⟩] true)
   (.seq
    (.region [⟨(some 76), (.load true 5), [.t 3], none, []⟩,
      ⟨(some 77), .mov, [.t 7], none, []⟩,
      ⟨(some 78), .mov, [.t 9], none, []⟩,
      ⟨(some 79), (.build [(.imm (.int .i64 0)), (.imm (.int .i64 0))] [(0, 1), (1, 1)]), [.t 77, .t 78], none, [1, 2]⟩,
      ⟨(some 80), (.load true 2), [.t 5], none, []⟩,
      ⟨(some 81), .call, [.f 16, .t 76, .t 79, .t 80], none, [0, 3, 4]⟩,
      ⟨(some 75), .mov, [.t 81], none, [5]⟩,
      ⟨(some 82), (.ext 0), [.t 75], none, [6]⟩,
      ⟨(some 83), (.ext 1), [.t 75], none, [6]⟩,
      ⟨(some 11), (.alloc [(.imm (.int .i64 0)), (.imm (.int .i64 0))]), [], none, []⟩,
      ⟨none, (.store 2), [.t 11, .t 82], none, [9, 7, 5, 0, 1, 2, 3, 4, 5, 6, 7, 9]⟩,
      ⟨(some 12), .mov, [.t 83], none, [8, 10, 0, 1, 2, 3, 4, 5, 6, 7, 8, 9, 10]⟩] false)
    (.seq
     (.region [⟨(some 85), (.load true 5), [.t 3], none, []⟩,
       ⟨(some 86), .mov, [.t 8], none, []⟩,
       ⟨(some 87), .mov, [.t 9], none, []⟩,
       ⟨(some 88), (.build [(.imm (.int .i64 0)), (.imm (.int .i64 0))] [(0, 1), (1, 1)]), [.t 86, .t 87], none, [1, 2]⟩,
       ⟨(some 89), (.load true 2), [.t 5], none, []⟩,
       ⟨(some 90), .call, [.f 16, .t 85, .t 88, .t 89], none, [0, 3, 4]⟩,
       ⟨(some 84), .mov, [.t 90], none, [5]⟩,
       ⟨(some 91), (.ext 0), [.t 84], none, [6]⟩,
       ⟨(some 92), (.ext 1), [.t 84], none, [6]⟩,
       ⟨(some 13), (.alloc [(.imm (.int .i64 0)), (.imm (.int .i64 0))]), [], none, []⟩,
       ⟨none, (.store 2), [.t 13, .t 91], none, [9, 7, 5, 0, 1, 2, 3, 4, 5, 6, 7, 9]⟩,
       ⟨(some 14), .mov, [.t 92], none, [8, 10, 0, 1, 2, 3, 4, 5, 6, 7, 8, 9, 10]⟩] false)
     (.seq
      (.region [⟨(some 94), (.load true 5), [.t 3], none, []⟩,
        ⟨(some 95), .mov, [.t 7], none, []⟩,
        ⟨(some 96), .mov, [.t 10], none, []⟩,
        ⟨(some 97), (.build [(.imm (.int .i64 0)), (.imm (.int .i64 0))] [(0, 1), (1, 1)]), [.t 95, .t 96], none, [1, 2]⟩,
        ⟨(some 98), (.load true 2), [.t 5], none, []⟩,
        ⟨(some 99), .call, [.f 16, .t 94, .t 97, .t 98], none, [0, 3, 4]⟩,
        ⟨(some 93), .mov, [.t 99], none, [5]⟩,
        ⟨(some 100), (.ext 0), [.t 93], none, [6]⟩,
        ⟨(some 101), (.ext 1), [.t 93], none, [6]⟩,
        ⟨(some 15), (.alloc [(.imm (.int .i64 0)), (.imm (.int .i64 0))]), [], none, []⟩,
        ⟨none, (.store 2), [.t 15, .t 100], none, [9, 7, 5, 0, 1, 2, 3, 4, 5, 6, 7, 9]⟩,
        ⟨(some 16), .mov, [.t 101], none, [8, 10, 0, 1, 2, 3, 4, 5, 6, 7, 8, 9, 10]⟩] false)
      (.seq
       (.seq
        (.region [⟨(some 102), .mov, [.t 12], none, []⟩,
          ⟨(some 103), (.bin .neq), [.t 102, .c (.int .i64 0)], none, [0]⟩,
          ⟨(some 104), .mov, [.t 103], none, [1]⟩,
          ⟨(some 105), .mov, [.t 14], (some (104, false)), [2]⟩,
          ⟨(some 106), (.bin .neq), [.t 105, .c (.int .i64 0)], (some (104, false)), [3, 2]⟩,
          ⟨(some 107), .pick, [.t 104, .c (.bool true), .t 106], none, [2, 4]⟩,
          ⟨(some 108), .mov, [.t 107], none, [5, 2]⟩,
          ⟨(some 109), .mov, [.t 16], (some (108, false)), [6]⟩,
          ⟨(some 110), (.bin .neq), [.t 109, .c (.int .i64 0)], (some (108, false)), [7, 6]⟩,
          ⟨(some 111), .pick, [.t 108, .c (.bool true), .t 110], none, [6, 8]⟩] false)
        (.cond (.t 111)
         (.seq
          (.region [⟨(some 6), .mov, [.c (.bool false)], none, []⟩] false)
          .ret)
         .skip))
       (.keep [11, 13, 15] [11, 13, 15] b4k0)))))))
def b4k2 : DCode :=
 (.seq
  (.seq
   (.region [⟨(some 19), (.load true 5), [.t 3], none, []⟩,
     ⟨(some 20), .call, [.f 17, .t 19], none, [0]⟩,
     ⟨(some 21), (.bin .neq), [.t 20, .c (.int .i64 0)], none, [1]⟩,
     ⟨(some 22), .mov, [.t 21], none, [2, 1]⟩,
     ⟨(some 23), (.iarr 2 2 true), [.t 4, .c (.int .i64 0)], (some (22, false)), [3]⟩,
     ⟨(some 24), (.load true 2), [.t 23], (some (22, false)), [4, 3]⟩,
     ⟨(some 25), .call, [.f 19, .t 24], (some (22, false)), [5, 3, 3]⟩,
     ⟨(some 26), (.bin .neq), [.t 25, .c (.int .i64 0)], (some (22, false)), [6, 3]⟩,
     ⟨(some 27), .pick, [.t 22, .c (.bool true), .t 26], none, [3, 7]⟩,
     ⟨(some 28), .mov, [.t 27], none, [8, 6]⟩,
     ⟨(some 29), (.iarr 2 2 true), [.t 4, .c (.int .i64 1)], (some (28, false)), [9]⟩,
     ⟨(some 30), (.load true 2), [.t 29], (some (28, false)), [10, 9]⟩,
     ⟨(some 31), .call, [.f 19, .t 30], (some (28, false)), [11, 9, 9]⟩,
     ⟨(some 32), (.bin .neq), [.t 31, .c (.int .i64 0)], (some (28, false)), [12, 9]⟩,
     ⟨(some 33), .pick, [.t 28, .c (.bool true), .t 32], none, [9, 13]⟩,
     ⟨(some 34), .mov, [.t 33], none, [14, 12]⟩,
     ⟨(some 35), (.faddr 0 false 1), [.t 5], (some (34, false)), [15]⟩,
     ⟨(some 36), (.load false 1), [.t 35], (some (34, false)), [16, 15]⟩,
     ⟨(some 37), .call, [.f 21, .t 36], (some (34, false)), [17, 15, 15]⟩,
     ⟨(some 38), (.bin .neq), [.t 37, .c (.int .i64 0)], (some (34, false)), [18, 15]⟩,
     ⟨(some 39), .pick, [.t 34, .c (.bool true), .t 38], none, [15, 19]⟩,
     ⟨(some 40), .mov, [.t 39], none, [20, 18]⟩,
     ⟨(some 41), (.load true 5), [.t 3], (some (40, false)), [21]⟩,
     ⟨(some 42), (.faddr 1 false 1), [.t 5], (some (40, false)), [21]⟩,
     ⟨(some 43), (.load false 1), [.t 42], (some (40, false)), [23, 21]⟩,
     ⟨(some 44), .call, [.f 22, .t 41, .t 43], (some (40, false)), [22, 24, 21, 21]⟩,
     ⟨(some 45), (.bin .neq), [.t 44, .c (.int .i64 0)], (some (40, false)), [25, 21]⟩,
     ⟨(some 46), .pick, [.t 40, .c (.bool true), .t 45], none, [21, 26]⟩] false)
   (.cond (.t 46)
    (.seq
     (.region [⟨(some 6), .mov, [.c (.bool true)], none, []⟩] false)
     .ret)
    .skip))
  (.keep [3, 4, 5] [3, 4, 5] b4k1))
def b4 : DCode :=
 (.seq
  (.region [⟨(some 3), .box, [.t 0], none, []⟩,
    ⟨(some 4), .box, [.t 1], none, []⟩,
    ⟨(some 5), .box, [.t 2], none, []⟩,
    ⟨(some 6), .mov, [.c (.bool false)], none, []⟩] false)
  (.seq
   (.seq
    (.region [⟨(some 17), .call, [.f 15], none, []⟩,
      ⟨(some 18), (.un .not), [.t 17], none, [0]⟩] false)
    (.cond (.t 18)
     (.seq
      (.region [⟨(some 6), .mov, [.c (.bool false)], none, []⟩] false)
      .ret)
     .skip))
   (.keep [3, 4, 5] [3, 4, 5] b4k2)))
def d4 : DFn := ⟨3, 138, [.tmp 6], b4⟩
theorem k4 : chkFn Try.prog Try.f4 d4 = true := by kernel_rfl

/-- guidevane/guidevanelaw04.SurgeEnclosed -/
def b5k0 : DCode :=
 (.region [⟨(some 209), (.loadf true 2 [11]), [.t 11], none, []⟩,
   ⟨(some 210), (.loadf true 4 [13]), [.t 13], none, []⟩,
   ⟨(some 211), (.loadf true 4 [15]), [.t 15], none, []⟩,
   ⟨none, (.storef 2 [8]), [.t 8, .t 209], none, [0, 0]⟩,
   ⟨none, (.storef 4 [7]), [.t 7, .t 210], none, [1, 3, 0, 1, 3]⟩,
   ⟨none, (.storef 4 [9]), [.t 9, .t 211], none, [2, 4, 0, 1, 2, 3, 4]⟩] true)
def b5k1 : DCode :=
 (.seq
  (.seq
   (.region [⟨(some 184), (.load true 2), [.t 11], none, []⟩,
     ⟨(some 185), .call, [.f 19, .t 184], none, [0]⟩,
     ⟨(some 186), (.bin .neq), [.t 185, .c (.int .i64 0)], none, [1]⟩,
     ⟨(some 187), .mov, [.t 186], none, [2, 1]⟩,
     ⟨(some 188), (.load true 4), [.t 13], (some (187, false)), [3]⟩,
     ⟨(some 189), .call, [.f 24, .t 188], (some (187, false)), [4, 3, 3]⟩,
     ⟨(some 190), (.bin .neq), [.t 189, .c (.int .i64 0)], (some (187, false)), [5, 3]⟩,
     ⟨(some 191), .pick, [.t 187, .c (.bool true), .t 190], none, [3, 6]⟩,
     ⟨(some 192), .mov, [.t 191], none, [7, 5]⟩,
     ⟨(some 193), (.load true 4), [.t 15], (some (192, false)), [8]⟩,
     ⟨(some 194), .call, [.f 24, .t 193], (some (192, false)), [9, 8, 8]⟩,
     ⟨(some 195), (.bin .neq), [.t 194, .c (.int .i64 0)], (some (192, false)), [10, 8]⟩,
     ⟨(some 196), .pick, [.t 192, .c (.bool true), .t 195], none, [8, 11]⟩] false)
   (.cond (.t 196)
    (.seq
     (.region [⟨(some 197), (.faddr 0 true 2), [.t 13], none, []⟩,
       ⟨(some 198), (.faddr 0 false 1), [.t 197], none, [0]⟩,
       ⟨(some 199), (.load false 1), [.t 198], none, [1]⟩,
       ⟨(some 200), .call, [.f 27, .t 199, .c (.int .i64 (-100000)), .c (.int .i64 100000)], none, [2]⟩,
       ⟨(some 201), (.un .not), [.t 200], none, [3]⟩,
       ⟨(some 202), .mov, [.t 201], none, [4, 3]⟩,
       ⟨(some 203), (.faddr 0 true 2), [.t 13], (some (202, false)), [5]⟩,
       ⟨(some 204), (.faddr 1 false 1), [.t 203], (some (202, false)), [6, 5]⟩,
       ⟨(some 205), (.load false 1), [.t 204], (some (202, false)), [7, 5]⟩,
       ⟨(some 206), .call, [.f 27, .t 205, .c (.int .i64 (-100000)), .c (.int .i64 100000)], (some (202, false)), [8, 5, 5]⟩,
       ⟨(some 207), (.un .not), [.t 206], (some (202, false)), [9, 5]⟩,
       ⟨(some 208), .pick, [.t 202, .c (.bool true), .t 207], none, [5, 10]⟩,
       ⟨(some 6), .mov, [.t 208], none, [11, 9, 0, 1, 2, 3, 4, 5, 6, 7, 8, 9, 10, 11]⟩] false)
     .ret)
    .skip))
  (.keep [2, 3, 7, 8, 9, 10, 11, 13, 15] [3, 7, 8, 9, 11, 13, 15] b5k0))
def b5k2 : DCode :=
 (.seq
  (.region [⟨(some 95), (.load true 5), [.t 3], none, []⟩,
    ⟨(some 96), (.load true 2), [.t 8], none, []⟩,
    ⟨(some 97), .movv, [.t 2], none, []⟩,
    ⟨(some 98), .mov, [.t 10], none, []⟩,
    ⟨(some 99), (.iaddr 2), [.t 97, .t 98], none, [2, 3]⟩,
    ⟨(some 100), (.load true 2), [.t 99], none, [4]⟩,
    ⟨(some 101), .call, [.f 16, .t 95, .t 96, .t 100], none, [0, 1, 5]⟩,
    ⟨(some 94), .mov, [.t 101], none, [6]⟩,
    ⟨(some 102), (.ext 0), [.t 94], none, [7]⟩,
    ⟨(some 103), (.ext 1), [.t 94], none, [7]⟩,
    ⟨(some 11), (.alloc [(.imm (.int .i64 0)), (.imm (.int .i64 0))]), [], none, []⟩,
    ⟨none, (.store 2), [.t 11, .t 102], none, [10, 8, 6, 0, 1, 2, 3, 4, 5, 6, 7, 8, 10]⟩,
    ⟨(some 12), .mov, [.t 103], none, [9, 11, 0, 1, 2, 3, 4, 5, 6, 7, 8, 9, 10, 11]⟩] true)
  (.seq
   (.region [⟨(some 105), (.load true 5), [.t 3], none, []⟩,
     ⟨(some 106), (.load true 4), [.t 7], none, []⟩,
     ⟨(some 107), .movv, [.t 2], none, []⟩,
     ⟨(some 108), .mov, [.t 10], none, []⟩,
     ⟨(some 109), (.iaddr 2), [.t 107, .t 108], none, [2, 3]⟩,
     ⟨(some 110), (.faddr 0 false 1), [.t 109], none, [4]⟩,
     ⟨(some 111), (.load false 1), [.t 110], none, [5]⟩,
     ⟨(some 112), .call, [.f 25, .t 105, .t 106, .t 111], none, [0, 1, 6]⟩,
     ⟨(some 104), .mov, [.t 112], none, [7]⟩,
     ⟨(some 113), (.ext 0), [.t 104], none, [8]⟩,
     ⟨(some 114), (.ext 1), [.t 104], none, [8]⟩,
     ⟨(some 13), (.alloc [(.imm (.int .i64 0)), (.imm (.int .i64 0)), (.imm (.int .i64 0)), (.imm (.int .i64 0))]), [], none, []⟩,
     ⟨none, (.store 4), [.t 13, .t 113], none, [11, 9, 7, 0, 1, 2, 3, 4, 5, 6, 7, 8, 9, 11]⟩,
     ⟨(some 14), .mov, [.t 114], none, [10, 12, 0, 1, 2, 3, 4, 5, 6, 7, 8, 9, 10, 11, 12]⟩] true)
   (.seq
    (.region [⟨(some 116), (.load true 5), [.t 3], none, []⟩,
      ⟨(some 117), (.load true 4), [.t 9], none, []⟩,
      ⟨(some 118), .movv, [.t 2], none, []⟩,
      ⟨(some 119), .mov, [.t 10], none, []⟩,
      ⟨(some 120), (.iaddr 2), [.t 118, .t 119], none, [2, 3]⟩,
      ⟨(some 121), (.faddr 0 false 1), [.t 120], none, [4]⟩,
      ⟨(some 122), (.load false 1), [.t 121], none, [5]⟩,
      ⟨(some 123), .call, [.f 25, .t 116, .t 117, .t 122], none, [0, 1, 6]⟩,
      ⟨(some 115), .mov, [.t 123], none, [7]⟩,
      ⟨(some 124), (.ext 0), [.t 115], none, [8]⟩,
      ⟨(some 125), (.ext 1), [.t 115], none, [8]⟩,
      ⟨(some 15), (.alloc [(.imm (.int .i64 0)), (.imm (.int .i64 0)), (.imm (.int .i64 0)), (.imm (.int .i64 0))]), [], none, []⟩,
      ⟨none, (.store 4), [.t 15, .t 124], none, [11, 9, 7, 0, 1, 2, 3, 4, 5, 6, 7, 8, 9, 11]⟩,
      ⟨(some 16), .mov, [.t 125], none, [10, 12, 0, 1, 2, 3, 4, 5, 6, 7, 8, 9, 10, 11, 12]⟩] true)
    (.seq
     (.seq
      (.region [⟨(some 126), .mov, [.t 12], none, []⟩,
        ⟨(some 127), (.bin .neq), [.t 126, .c (.int .i64 0)], none, [0]⟩,
        ⟨(some 128), .mov, [.t 127], none, [1]⟩,
        ⟨(some 129), .mov, [.t 14], (some (128, false)), [2]⟩,
        ⟨(some 130), (.bin .neq), [.t 129, .c (.int .i64 0)], (some (128, false)), [3, 2]⟩,
        ⟨(some 131), .pick, [.t 128, .c (.bool true), .t 130], none, [2, 4]⟩,
        ⟨(some 132), .mov, [.t 131], none, [5, 2]⟩,
        ⟨(some 133), .mov, [.t 16], (some (132, false)), [6]⟩,
        ⟨(some 134), (.bin .neq), [.t 133, .c (.int .i64 0)], (some (132, false)), [7, 6]⟩,
        ⟨(some 135), .pick, [.t 132, .c (.bool true), .t 134], none, [6, 8]⟩,
        ⟨(some 136), .mov, [.t 135], none, [9, 6]⟩,
        ⟨(some 137), (.load true 4), [.t 13], (some (136, false)), [10]⟩,
        ⟨(some 138), (.load true 2), [.t 11], (some (136, false)), [10]⟩,
        ⟨(some 139), .call, [.f 26, .t 137, .t 138], (some (136, false)), [11, 12, 10, 10]⟩,
        ⟨(some 140), (.un .not), [.t 139], (some (136, false)), [13, 10]⟩,
        ⟨(some 141), .pick, [.t 136, .c (.bool true), .t 140], none, [10, 14]⟩,
        ⟨(some 142), .mov, [.t 141], none, [15, 13]⟩,
        ⟨(some 143), (.load true 4), [.t 15], (some (142, false)), [16]⟩,
        ⟨(some 144), (.load true 2), [.t 11], (some (142, false)), [16]⟩,
        ⟨(some 145), .call, [.f 26, .t 143, .t 144], (some (142, false)), [17, 18, 16, 16]⟩,
        ⟨(some 146), (.un .not), [.t 145], (some (142, false)), [19, 16]⟩,
        ⟨(some 147), .pick, [.t 142, .c (.bool true), .t 146], none, [16, 20]⟩,
        ⟨(some 148), .mov, [.t 147], none, [21, 19]⟩,
        ⟨(some 149), (.faddr 0 true 2), [.t 15], (some (148, false)), [22]⟩,
        ⟨(some 150), (.faddr 0 false 1), [.t 149], (some (148, false)), [23, 22]⟩,
        ⟨(some 151), (.load false 1), [.t 150], (some (148, false)), [24, 22]⟩,
        ⟨(some 152), (.faddr 0 true 2), [.t 13], (some (148, false)), [22]⟩,
        ⟨(some 153), (.faddr 0 false 1), [.t 152], (some (148, false)), [26, 22]⟩,
        ⟨(some 154), (.load false 1), [.t 153], (some (148, false)), [27, 22]⟩,
        ⟨(some 155), (.bin .lss), [.t 151, .t 154], (some (148, false)), [25, 28, 22]⟩,
        ⟨(some 156), .pick, [.t 148, .c (.bool true), .t 155], none, [22, 29]⟩,
        ⟨(some 157), .mov, [.t 156], none, [30, 22]⟩,
        ⟨(some 158), (.faddr 0 true 2), [.t 15], (some (157, false)), [31]⟩,
        ⟨(some 159), (.faddr 1 false 1), [.t 158], (some (157, false)), [32, 31]⟩,
        ⟨(some 160), (.load false 1), [.t 159], (some (157, false)), [33, 31]⟩,
        ⟨(some 161), (.faddr 0 true 2), [.t 13], (some (157, false)), [31]⟩,
        ⟨(some 162), (.faddr 1 false 1), [.t 161], (some (157, false)), [35, 31]⟩,
        ⟨(some 163), (.load false 1), [.t 162], (some (157, false)), [36, 31]⟩,
        ⟨(some 164), (.bin .gtr), [.t 160, .t 163], (some (157, false)), [34, 37, 31]⟩,
        ⟨(some 165), .pick, [.t 157, .c (.bool true), .t 164], none, [31, 38]⟩,
        ⟨(some 166), .mov, [.t 165], none, [39, 31]⟩,
        ⟨(some 167), (.faddr 2 true 2), [.t 15], (some (166, false)), [40]⟩,
        ⟨(some 168), (.faddr 0 false 1), [.t 167], (some (166, false)), [41, 40]⟩,
        ⟨(some 169), (.load false 1), [.t 168], (some (166, false)), [42, 40]⟩,
        ⟨(some 170), (.faddr 2 true 2), [.t 13], (some (166, false)), [40]⟩,
        ⟨(some 171), (.faddr 0 false 1), [.t 170], (some (166, false)), [44, 40]⟩,
        ⟨(some 172), (.load false 1), [.t 171], (some (166, false)), [45, 40]⟩,
        ⟨(some 173), (.bin .lss), [.t 169, .t 172], (some (166, false)), [43, 46, 40]⟩,
        ⟨(some 174), .pick, [.t 166, .c (.bool true), .t 173], none, [40, 47]⟩,
        ⟨(some 175), .mov, [.t 174], none, [48, 40]⟩,
        ⟨(some 176), (.faddr 2 true 2), [.t 15], (some (175, false)), [49]⟩,
        ⟨(some 177), (.faddr 1 false 1), [.t 176], (some (175, false)), [50, 49]⟩,
        ⟨(some 178), (.load false 1), [.t 177], (some (175, false)), [51, 49]⟩,
        ⟨(some 179), (.faddr 2 true 2), [.t 13], (some (175, false)), [49]⟩,
        ⟨(some 180), (.faddr 1 false 1), [.t 179], (some (175, false)), [53, 49]⟩,
        ⟨(some 181), (.load false 1), [.t 180], (some (175, false)), [54, 49]⟩,
        ⟨(some 182), (.bin .gtr), [.t 178, .t 181], (some (175, false)), [52, 55, 49]⟩,
        ⟨(some 183), .pick, [.t 175, .c (.bool true), .t 182], none, [49, 56]⟩] false)
      (.cond (.t 183)
       (.seq
        (.region [⟨(some 6), .mov, [.c (.bool false)], none, []⟩] false)
        .ret)
       .skip))
     (.keep [2, 3, 7, 8, 9, 10, 11, 13, 15] [3, 7, 8, 9, 11, 13, 15] b5k1)))))
def b5k3 : DCode :=
 (.region [⟨(some 75), .mov, [.t 10], none, []⟩,
   ⟨(some 76), (.bin .add), [.t 75, .c (.int .i64 1)], none, [0]⟩,
   ⟨(some 10), .mov, [.t 76], none, [1, 0, 1]⟩] false)
def b5k4 : DCode :=
 (.seq
  (.block 1
   (.seq
    (.seq
     (.region [⟨(some 77), .movv, [.t 2], none, []⟩,
       ⟨(some 78), .mov, [.t 10], none, []⟩,
       ⟨(some 79), (.iaddr 2), [.t 77, .t 78], none, [0, 1]⟩,
       ⟨(some 80), (.faddr 0 false 1), [.t 79], none, [2]⟩,
       ⟨(some 81), (.load false 1), [.t 80], none, [3]⟩,
       ⟨(some 82), .call, [.f 21, .t 81], none, [4]⟩,
       ⟨(some 83), (.bin .neq), [.t 82, .c (.int .i64 0)], none, [5]⟩,
       ⟨(some 84), .mov, [.t 83], none, [6, 5]⟩,
       ⟨(some 85), (.load true 5), [.t 3], (some (84, false)), [7]⟩,
       ⟨(some 86), .movv, [.t 2], (some (84, false)), [7]⟩,
       ⟨(some 87), .mov, [.t 10], (some (84, false)), [7]⟩,
       ⟨(some 88), (.iaddr 2), [.t 86, .t 87], (some (84, false)), [9, 10, 7]⟩,
       ⟨(some 89), (.faddr 1 false 1), [.t 88], (some (84, false)), [11, 7]⟩,
       ⟨(some 90), (.load false 1), [.t 89], (some (84, false)), [12, 7]⟩,
       ⟨(some 91), .call, [.f 22, .t 85, .t 90], (some (84, false)), [8, 13, 7, 7]⟩,
       ⟨(some 92), (.bin .neq), [.t 91, .c (.int .i64 0)], (some (84, false)), [14, 7]⟩,
       ⟨(some 93), .pick, [.t 84, .c (.bool true), .t 92], none, [7, 15]⟩] true)
     (.cond (.t 93)
      (.seq
       (.region [⟨(some 6), .mov, [.c (.bool true)], none, []⟩] false)
       .ret)
      .skip))
    (.keep [2, 3, 7, 8, 9, 10] [3, 7, 8, 9] b5k2)))
  (.keep [2, 3, 7, 8, 9, 10] [3, 7, 8, 9] b5k3))
def b5l0 : DCode := .keep [2, 3, 7, 8, 9, 10] [3, 7, 8, 9]
  (.seq
   (.seq
    (.region [⟨(some 71), .mov, [.t 10], none, []⟩,
      ⟨(some 72), .movv, [.t 2], none, []⟩,
      ⟨(some 73), .len, [.t 72], none, [1]⟩,
      ⟨(some 74), (.bin .lss), [.t 71, .t 73], none, [0, 2]⟩] false)
    (.cond (.t 74)
     .skip
     (.exit 0)))
   (.keep [2, 3, 7, 8, 9, 10] [3, 7, 8, 9] b5k4))
def b5k5 : DCode :=
 (.seq
  (.region [⟨(some 6), .mov, [.c (.bool true)], none, []⟩] false)
  .ret)
def b5k6 : DCode :=
 (.seq
  (.region [⟨(some 36), (.faddr 0 true 2), [.t 7], none, []⟩,
    ⟨(some 37), (.faddr 1 false 1), [.t 36], none, [0]⟩,
    ⟨(some 38), (.loadf false 1 [7]), [.t 37], none, [1]⟩,
    ⟨(some 39), (.faddr 0 true 2), [.t 7], none, []⟩,
    ⟨(some 40), (.faddr 0 false 1), [.t 39], none, [3]⟩,
    ⟨(some 41), (.loadf false 1 [7]), [.t 40], none, [4]⟩,
    ⟨(some 42), (.faddr 0 false 1), [.t 8], none, []⟩,
    ⟨(some 43), (.loadf false 1 [8]), [.t 42], none, [6]⟩,
    ⟨(some 44), (.mm true), [.t 41, .t 43], none, [5, 7]⟩,
    ⟨(some 45), (.mm false), [.t 38, .t 44], none, [2, 8]⟩,
    ⟨(some 46), (.faddr 2 true 2), [.t 7], none, []⟩,
    ⟨(some 47), (.faddr 1 false 1), [.t 46], none, [10]⟩,
    ⟨(some 48), (.loadf false 1 [7]), [.t 47], none, [11]⟩,
    ⟨(some 49), (.faddr 2 true 2), [.t 7], none, []⟩,
    ⟨(some 50), (.faddr 0 false 1), [.t 49], none, [13]⟩,
    ⟨(some 51), (.loadf false 1 [7]), [.t 50], none, [14]⟩,
    ⟨(some 52), (.faddr 1 false 1), [.t 8], none, []⟩,
    ⟨(some 53), (.loadf false 1 [8]), [.t 52], none, [16]⟩,
    ⟨(some 54), (.mm true), [.t 51, .t 53], none, [15, 17]⟩,
    ⟨(some 55), (.mm false), [.t 48, .t 54], none, [12, 18]⟩,
    ⟨(some 56), (.faddr 0 false 1), [.t 8], none, [0, 1, 2, 3, 4, 5, 6, 7, 8, 9, 16, 17]⟩,
    ⟨none, (.storef 1 [8]), [.t 56, .t 45], none, [20, 9, 0, 1, 2, 3, 4, 5, 6, 7, 8, 9, 16, 17]⟩,
    ⟨(some 57), (.faddr 1 false 1), [.t 8], none, [0, 1, 2, 3, 4, 5, 6, 7, 8, 9, 10, 11, 12, 13, 14, 15, 16, 17, 18, 19, 20, 21]⟩,
    ⟨none, (.storef 1 [8]), [.t 57, .t 55], none, [22, 19, 21, 0, 1, 2, 3, 4, 5, 6, 7, 8, 9, 10, 11, 12, 13, 14, 15, 16, 17, 18, 19, 20, 21]⟩] true)
  (.seq
   (.region [⟨(some 58), (.faddr 0 true 2), [.t 7], none, []⟩,
     ⟨(some 59), (.faddr 0 false 1), [.t 58], none, [0]⟩,
     ⟨(some 60), (.load false 1), [.t 59], none, [1]⟩,
     ⟨(some 61), (.faddr 0 false 1), [.t 8], none, []⟩,
     ⟨(some 62), (.load false 1), [.t 61], none, [3]⟩,
     ⟨(some 63), (.build [(.imm (.int .i64 0)), (.imm (.int .i64 0))] [(0, 1), (1, 1)]), [.t 60, .t 62], none, [2, 4]⟩,
     ⟨(some 64), (.faddr 1 false 1), [.t 8], none, []⟩,
     ⟨(some 65), (.load false 1), [.t 64], none, [6]⟩,
     ⟨(some 66), (.faddr 2 true 2), [.t 7], none, []⟩,
     ⟨(some 67), (.faddr 1 false 1), [.t 66], none, [8]⟩,
     ⟨(some 68), (.load false 1), [.t 67], none, [9]⟩,
     ⟨(some 69), (.build [(.imm (.int .i64 0)), (.imm (.int .i64 0))] [(0, 1), (1, 1)]), [.t 65, .t 68], none, [7, 10]⟩,
     ⟨(some 70), (.build [(.imm (.int .i64 0)), (.imm (.int .i64 0)), (.imm (.int .i64 0)), (.imm (.int .i64 0))] [(0, 2), (2, 2)]), [.t 63, .t 69], none, [5, 11]⟩,
     ⟨(some 9), (.alloc [(.imm (.int .i64 0)), (.imm (.int .i64 0)), (.imm (.int .i64 0)), (.imm (.int .i64 0))]), [], none, []⟩,
     ⟨none, (.store 4), [.t 9, .t 70], none, [13, 12, 0, 1, 2, 3, 4, 5, 6, 7, 8, 9, 10, 11, 12, 13]⟩] false)
   (.seq
    (.seq
     (.region [⟨(some 10), .mov, [.c (.int .i64 0)], none, []⟩] false)
     (.block 0
      (.loop b5l0)))
    (.keep [] [] b5k5))))
def b5k7 : DCode :=
 (.seq
  (.region [⟨(some 19), (.faddr 0 true 4), [.t 4], none, []⟩,
    ⟨(some 20), (.loadf true 4 [4]), [.t 19], none, [0]⟩,
    ⟨(some 21), (.faddr 4 true 2), [.t 4], none, []⟩,
    ⟨(some 22), (.loadf true 2 [4]), [.t 21], none, [2]⟩,
    ⟨(some 7), (.alloc [(.imm (.int .i64 0)), (.imm (.int .i64 0)), (.imm (.int .i64 0)), (.imm (.int .i64 0))]), [], none, []⟩,
    ⟨(some 8), (.alloc [(.imm (.int .i64 0)), (.imm (.int .i64 0))]), [], none, []⟩,
    ⟨none, (.storef 4 [7]), [.t 7, .t 20], none, [4, 1, 0, 1, 4, 5]⟩,
    ⟨none, (.storef 2 [8]), [.t 8, .t 22], none, [5, 3, 6, 0, 1, 2, 3, 4, 5, 6]⟩] true)
  (.seq
   (.seq
    (.region [⟨(some 23), (.load true 5), [.t 3], none, []⟩,
      ⟨(some 24), .call, [.f 17, .t 23], none, [0]⟩,
      ⟨(some 25), (.bin .neq), [.t 24, .c (.int .i64 0)], none, [1]⟩,
      ⟨(some 26), .mov, [.t 25], none, [2, 1]⟩,
      ⟨(some 27), (.load true 4), [.t 7], (some (26, false)), [3]⟩,
      ⟨(some 28), .call, [.f 24, .t 27], (some (26, false)), [4, 3, 3]⟩,
      ⟨(some 29), (.bin .neq), [.t 28, .c (.int .i64 0)], (some (26, false)), [5, 3]⟩,
      ⟨(some 30), .pick, [.t 26, .c (.bool true), .t 29], none, [3, 6]⟩,
      ⟨(some 31), .mov, [.t 30], none, [7, 5]⟩,
      ⟨(some 32), .movv, [.t 2], (some (31, false)), [8]⟩,
      ⟨(some 33), .len, [.t 32], (some (31, false)), [9, 8]⟩,
      ⟨(some 34), (.bin .gtr), [.t 33, .c (.int .i64 20)], (some (31, false)), [10, 8]⟩,
      ⟨(some 35), .pick, [.t 31, .c (.bool true), .t 34], none, [8, 11]⟩] false)
    (.cond (.t 35)
     (.seq
      (.region [⟨(some 6), .mov, [.c (.bool true)], none, []⟩] false)
      .ret)
     .skip))
   (.keep [2, 3, 7, 8] [3, 7, 8] b5k6)))
def b5 : DCode :=
 (.seq
  (.region [⟨(some 3), .box, [.t 0], none, []⟩,
    ⟨(some 4), .box, [.t 1], none, []⟩,
    ⟨(some 6), .mov, [.c (.bool false)], none, []⟩] false)
  (.seq
   (.seq
    (.region [⟨(some 17), .call, [.f 15], none, []⟩,
      ⟨(some 18), (.un .not), [.t 17], none, [0]⟩] false)
    (.cond (.t 18)
     (.seq
      (.region [⟨(some 6), .mov, [.c (.bool false)], none, []⟩] false)
      .ret)
     .skip))
   (.keep [2, 3, 4] [3, 4] b5k7)))
def d5 : DFn := ⟨3, 212, [.tmp 6], b5⟩
theorem k5 : chkFn Try.prog Try.f5 d5 = true := by kernel_rfl

end Go.DI

/- Contracts: the reference's rules, states and steps. No condition. -/
set_option linter.unusedSimpArgs false
namespace Go.DI
open Go.Proofs Go.RowKit Sg

theorem c_Floor {n d : Int} (hd : 0 < d) (h : -1000000000000000000 ≤ n ∧ n ≤ 1000000000000000000) : Contract Try.prog 96 [.int .i64 n, .int .i64 d] (.int .i64 (n / d)) := by
  have hb := ediv_bd h hd
  have hf := floor_eq (n := n) hd
  refine contract_run Try.func96 k96 rfl ?_
  simp only [body96, b96, res96, b96k0, ↓reduceIte, reduceCtorEq, Nat.reduceEqDiff, Nat.reduceAdd, Nat.reduceMul, Nat.reduceSub, Nat.reduceLeDiff, Nat.reduceBEq, Int.reduceToNat, Int.reduceLE, Int.reduceLT, Int.reduceEq, Int.reduceNe, di0, di1, di2, di3, di4, di5, di6, di7, di8, di9, postX_ret, postX_normal, ex_some]
  have ht : -1000000000000000001 ≤ n.tdiv d ∧ n.tdiv d ≤ 1000000000000000001 := by
    split at hf <;> omega
  simp only [show IntKind.wrap .i64 (n.tdiv d) = n.tdiv d from wrap64 (by omega) (by omega)]
  repeat (refine And.intro (by omega) ?_)
  split
  · rename_i h2
    rw [if_pos h2] at hf
    simp only [show IntKind.wrap .i64 (n.tdiv d - 1) = n.tdiv d - 1 from wrap64 (by omega) (by omega)]
    rw [hf]
  · rename_i h2
    rw [if_neg h2] at hf
    rw [hf]

theorem r_loss {k f : Int} (hk : 0 ≤ k ∧ k ≤ 100) (hf : -2000 ≤ f ∧ f ≤ 2000) : Contract Try.prog 95 [.int .i64 k, .int .i64 f] (.int .i64 ((k * sq f).tdiv 1000)) := by
  have q2 := sq_bd (n := f) (m := 2000) (by omega)
  have q4 := mul_bd (a := k) (A := 100) (by omega) q2
  have q6 := tdiv1000_bd (a := k * sq f) (A := 400000) (by omega)
  have q1 := mul_bd (a := k) (b := f) (A := 100) (B := 2000) (by omega) (by omega)
  refine contract_run Try.func95 k95 rfl ?_
  simp only [body95, b95, res95, ↓reduceIte, reduceCtorEq, Nat.reduceEqDiff, Nat.reduceAdd, Nat.reduceMul, Nat.reduceSub, Nat.reduceLeDiff, Nat.reduceBEq, Int.reduceToNat, Int.reduceLE, Int.reduceLT, Int.reduceEq, Int.reduceNe, di0, di1, di2, di3, di4, di5, di6, di7, di8, di9, postX_ret, postX_normal, ex_some]
  simp only [show IntKind.wrap .i64 (k * f) = k * f from wrap64 (by omega) (by omega)]
  refine calls_of (c_Size (n := f) (by omega) (by omega)) ?_; simp only [ruI, ssI, sbI, spI, swI, scI, stI, srI, saI, snI, res95, ↓reduceIte, reduceCtorEq, Nat.reduceEqDiff, Nat.reduceAdd, Nat.reduceMul, Nat.reduceSub, Nat.reduceLeDiff, Nat.reduceBEq, Int.reduceToNat, Int.reduceLE, Int.reduceLT, Int.reduceEq, Int.reduceNe, di0, di1, di2, di3, di4, di5, di6, di7, di8, di9, postX_ret, postX_normal, ex_some]
  rw [show k * f * (f.natAbs : Int) = k * sq f by unfold sq; rw [Int.mul_assoc, show ((f.natAbs : Nat) : Int) = max f (-f) by omega]]
  simp only [show IntKind.wrap .i64 (k * sq f) = k * sq f from wrap64 (by omega) (by omega)]
  simp only [show IntKind.wrap .i64 ((k * sq f).tdiv 1000) = (k * sq f).tdiv 1000 from wrap64 (by omega) (by omega)]

theorem r_Step {r : Ru} {s : Sta} {load k : Int} (hr : Sg.Good r) (h : Near r s load k) : Contract Try.prog 23 [ruI r, ssI s, .int .i64 load, .int .i64 k] (ssI (stp r s load k)) := by
  have h1 := h.L; have h2 := h.F; have h3 := h.load; have h4 := h.k
  have r1 := hr.I; have r2 := hr.A; have r3 := hr.T
  have q1 := sq_bd h2
  have q2 := sq_bd (n := s.F - load) (m := 2000) (by omega)
  have q3 := mul_bd (a := k) (A := 100) (by omega) q1
  have q4 := mul_bd (a := r.T) (A := 100) (by omega) q2
  have q5 := tdiv1000_bd (a := k * sq s.F) (A := 100000) (by omega)
  have q6 := tdiv1000_bd (a := r.T * sq (s.F - load)) (A := 400000) (by omega)
  have q7 := ediv_bd (a := s.L + (k * sq s.F).tdiv 1000 + (r.T * sq (s.F - load)).tdiv 1000) (b := r.I) (A := 1000500000) (by omega) (by omega)
  have q8 := stp_bd (k := k) hr (m := 1000000000) h1 h3
  refine contract_run Try.func23 k23 rfl ?_
  simp only [body23, b23, res23, ruI, ssI, sbI, spI, swI, scI, stI, srI, saI, snI, ↓reduceIte, reduceCtorEq, Nat.reduceEqDiff, Nat.reduceAdd, Nat.reduceMul, Nat.reduceSub, Nat.reduceLeDiff, Nat.reduceBEq, Int.reduceToNat, Int.reduceLE, Int.reduceLT, Int.reduceEq, Int.reduceNe, di0, di1, di2, di3, di4, di5, di6, di7, di8, di9, postX_ret, postX_normal, ex_some]
  refine calls_of (r_loss (by omega) (by omega)) ?_; simp only [ruI, ssI, sbI, spI, swI, scI, stI, srI, saI, snI, res23, ↓reduceIte, reduceCtorEq, Nat.reduceEqDiff, Nat.reduceAdd, Nat.reduceMul, Nat.reduceSub, Nat.reduceLeDiff, Nat.reduceBEq, Int.reduceToNat, Int.reduceLE, Int.reduceLT, Int.reduceEq, Int.reduceNe, di0, di1, di2, di3, di4, di5, di6, di7, di8, di9, postX_ret, postX_normal, ex_some]
  simp only [show IntKind.wrap .i64 (s.L + (k * sq s.F).tdiv 1000) = s.L + (k * sq s.F).tdiv 1000 from wrap64 (by omega) (by omega)]
  simp only [show IntKind.wrap .i64 (s.F - load) = s.F - load from wrap64 (by omega) (by omega)]
  refine calls_of (r_loss (by omega) (by omega)) ?_; simp only [ruI, ssI, sbI, spI, swI, scI, stI, srI, saI, snI, res23, ↓reduceIte, reduceCtorEq, Nat.reduceEqDiff, Nat.reduceAdd, Nat.reduceMul, Nat.reduceSub, Nat.reduceLeDiff, Nat.reduceBEq, Int.reduceToNat, Int.reduceLE, Int.reduceLT, Int.reduceEq, Int.reduceNe, di0, di1, di2, di3, di4, di5, di6, di7, di8, di9, postX_ret, postX_normal, ex_some]
  simp only [show IntKind.wrap .i64 (s.L + (k * sq s.F).tdiv 1000 + (r.T * sq (s.F - load)).tdiv 1000) = s.L + (k * sq s.F).tdiv 1000 + (r.T * sq (s.F - load)).tdiv 1000 from wrap64 (by omega) (by omega)]
  refine calls_of (c_Floor (by omega) (by omega)) ?_; simp only [ruI, ssI, sbI, spI, swI, scI, stI, srI, saI, snI, res23, ↓reduceIte, reduceCtorEq, Nat.reduceEqDiff, Nat.reduceAdd, Nat.reduceMul, Nat.reduceSub, Nat.reduceLeDiff, Nat.reduceBEq, Int.reduceToNat, Int.reduceLE, Int.reduceLT, Int.reduceEq, Int.reduceNe, di0, di1, di2, di3, di4, di5, di6, di7, di8, di9, postX_ret, postX_normal, ex_some]
  simp only [show IntKind.wrap .i64 (s.F - (s.L + (k * sq s.F).tdiv 1000 + (r.T * sq (s.F - load)).tdiv 1000) / r.I) = s.F - (s.L + (k * sq s.F).tdiv 1000 + (r.T * sq (s.F - load)).tdiv 1000) / r.I from wrap64 (by omega) (by omega)]
  generalize hf : max (-1000) (min 1000 (s.F - (s.L + (k * sq s.F).tdiv 1000 + (r.T * sq (s.F - load)).tdiv 1000) / r.I)) = f
  have e0 : min 1000 (max (-1000) (s.F - (s.L + (k * sq s.F).tdiv 1000 + (r.T * sq (s.F - load)).tdiv 1000) / r.I)) = f := by omega
  have e1 : (stp r s load k).L = s.L + (f - load) / r.A := by unfold stp; rw [e0]
  have e2 : (stp r s load k).F = f := by unfold stp; rw [e0]
  rw [e1, e2] at q8
  simp only [show IntKind.wrap .i64 (f - load) = f - load from wrap64 (by omega) (by omega)]
  refine calls_of (c_Floor (by omega) (by omega)) ?_; simp only [ruI, ssI, sbI, spI, swI, scI, stI, srI, saI, snI, res23, ↓reduceIte, reduceCtorEq, Nat.reduceEqDiff, Nat.reduceAdd, Nat.reduceMul, Nat.reduceSub, Nat.reduceLeDiff, Nat.reduceBEq, Int.reduceToNat, Int.reduceLE, Int.reduceLT, Int.reduceEq, Int.reduceNe, di0, di1, di2, di3, di4, di5, di6, di7, di8, di9, postX_ret, postX_normal, ex_some]
  simp only [show IntKind.wrap .i64 (s.L + (f - load) / r.A) = s.L + (f - load) / r.A from wrap64 (by omega) (by omega)]
  rw [e1, e2]

theorem c_Wi {x lo hi : Int} : Contract Try.prog 27 [.int .i64 x, .int .i64 lo, .int .i64 hi] (.bool (decide (Wi x lo hi))) := c_Within
theorem r_StateErr {s : Sta} : Contract Try.prog 19 [ssI s] (.int .i64 (stateErr s)) := by
  unfold stateErr
  refine contract_run Try.func19 k19 rfl ?_
  simp only [body19, b19, res19, b19k0, ruI, ssI, sbI, spI, swI, scI, stI, srI, saI, snI, ↓reduceIte, reduceCtorEq, Nat.reduceEqDiff, Nat.reduceAdd, Nat.reduceMul, Nat.reduceSub, Nat.reduceLeDiff, Nat.reduceBEq, Int.reduceToNat, Int.reduceLE, Int.reduceLT, Int.reduceEq, Int.reduceNe, di0, di1, di2, di3, di4, di5, di6, di7, di8, di9, postX_ret, postX_normal, ex_some]
  refine calls_of c_Wi ?_; simp only [ruI, ssI, sbI, spI, swI, scI, stI, srI, saI, snI, res19, b19k0, ↓reduceIte, reduceCtorEq, Nat.reduceEqDiff, Nat.reduceAdd, Nat.reduceMul, Nat.reduceSub, Nat.reduceLeDiff, Nat.reduceBEq, Int.reduceToNat, Int.reduceLE, Int.reduceLT, Int.reduceEq, Int.reduceNe, di0, di1, di2, di3, di4, di5, di6, di7, di8, di9, postX_ret, postX_normal, ex_some]
  split
  · rename_i h
    refine calls_of c_Wi ?_; simp only [ruI, ssI, sbI, spI, swI, scI, stI, srI, saI, snI, res19, b19k0, ↓reduceIte, reduceCtorEq, Nat.reduceEqDiff, Nat.reduceAdd, Nat.reduceMul, Nat.reduceSub, Nat.reduceLeDiff, Nat.reduceBEq, Int.reduceToNat, Int.reduceLE, Int.reduceLT, Int.reduceEq, Int.reduceNe, di0, di1, di2, di3, di4, di5, di6, di7, di8, di9, postX_ret, postX_normal, ex_some]
    split
    · rename_i h2; rw [if_pos ⟨h, h2⟩]
    · rename_i h2; rw [if_neg (fun k => h2 k.2)]
  · rename_i h
    rw [if_neg (fun k => h k.1)]
theorem r_LoadErr {n : Int} : Contract Try.prog 21 [.int .i64 n] (.int .i64 (loadErr n)) := by
  unfold loadErr
  refine contract_run Try.func21 k21 rfl ?_
  simp only [body21, b21, res21, b21k0, ruI, ssI, sbI, spI, swI, scI, stI, srI, saI, snI, ↓reduceIte, reduceCtorEq, Nat.reduceEqDiff, Nat.reduceAdd, Nat.reduceMul, Nat.reduceSub, Nat.reduceLeDiff, Nat.reduceBEq, Int.reduceToNat, Int.reduceLE, Int.reduceLT, Int.reduceEq, Int.reduceNe, di0, di1, di2, di3, di4, di5, di6, di7, di8, di9, postX_ret, postX_normal, ex_some]
  refine calls_of c_Wi ?_; simp only [ruI, ssI, sbI, spI, swI, scI, stI, srI, saI, snI, res21, b21k0, ↓reduceIte, reduceCtorEq, Nat.reduceEqDiff, Nat.reduceAdd, Nat.reduceMul, Nat.reduceSub, Nat.reduceLeDiff, Nat.reduceBEq, Int.reduceToNat, Int.reduceLE, Int.reduceLT, Int.reduceEq, Int.reduceNe, di0, di1, di2, di3, di4, di5, di6, di7, di8, di9, postX_ret, postX_normal, ex_some]
  split <;> rfl
theorem r_FrictionErr {r : Ru} {k : Int} : Contract Try.prog 22 [ruI r, .int .i64 k] (.int .i64 (fricErr r k)) := by
  unfold fricErr
  refine contract_run Try.func22 k22 rfl ?_
  simp only [body22, b22, res22, b22k0, ruI, ssI, sbI, spI, swI, scI, stI, srI, saI, snI, ↓reduceIte, reduceCtorEq, Nat.reduceEqDiff, Nat.reduceAdd, Nat.reduceMul, Nat.reduceSub, Nat.reduceLeDiff, Nat.reduceBEq, Int.reduceToNat, Int.reduceLE, Int.reduceLT, Int.reduceEq, Int.reduceNe, di0, di1, di2, di3, di4, di5, di6, di7, di8, di9, postX_ret, postX_normal, ex_some]
  refine calls_of c_Wi ?_; simp only [ruI, ssI, sbI, spI, swI, scI, stI, srI, saI, snI, res22, b22k0, ↓reduceIte, reduceCtorEq, Nat.reduceEqDiff, Nat.reduceAdd, Nat.reduceMul, Nat.reduceSub, Nat.reduceLeDiff, Nat.reduceBEq, Int.reduceToNat, Int.reduceLE, Int.reduceLT, Int.reduceEq, Int.reduceNe, di0, di1, di2, di3, di4, di5, di6, di7, di8, di9, postX_ret, postX_normal, ex_some]
  split <;> rfl

theorem r_RulesErr {r : Ru} : Contract Try.prog 17 [ruI r] (.int .i64 (rulesErr r)) := by
  refine contract_run Try.func17 k17 rfl ?_
  simp only [body17, b17, res17, b17k0, b17k1, b17k2, b17k3, b17k4, b17k5, ruI, ssI, sbI, spI, swI, scI, stI, srI, saI, snI, ↓reduceIte, reduceCtorEq, Nat.reduceEqDiff, Nat.reduceAdd, Nat.reduceMul, Nat.reduceSub, Nat.reduceLeDiff, Nat.reduceBEq, Int.reduceToNat, Int.reduceLE, Int.reduceLT, Int.reduceEq, Int.reduceNe, di0, di1, di2, di3, di4, di5, di6, di7, di8, di9, postX_ret, postX_normal, ex_some]
  refine loop_keep (α := Nat) rfl (fun i => 3 - i) (fun i => i ≤ 3 ∧ ∀ j, j < i → Wi ([r.lo, r.hi, r.T].getD j 0) 0 100)
    (fun i => [(1, .ref 1 0), (3, .imm (snI [r.lo, r.hi, r.T])), (4, .imm (.int .i64 i))]) (fun _ => [(1, .box [.imm (.int .i64 r.I), .imm (.int .i64 r.A), .imm (.int .i64 r.lo), .imm (.int .i64 r.hi), .imm (.int .i64 r.T)])]) 0 ⟨by omega, fun j hj => by omega⟩ (by simp only [ruI, ssI, sbI, spI, swI, scI, stI, srI, saI, snI, ↓reduceIte, reduceCtorEq, Nat.reduceEqDiff, Nat.reduceAdd, Nat.reduceMul, Nat.reduceSub, Nat.reduceLeDiff, Nat.reduceBEq, Int.reduceToNat, Int.reduceLE, Int.reduceLT, Int.reduceEq, Int.reduceNe, di0, di1, di2, di3, di4, di5, di6, di7, di8, di9, postX_ret, postX_normal, ex_some] <;> rfl) ?_
  intro i ⟨hi, he⟩ ih
  simp only [res17, b17k0, b17k1, b17k2, b17k3, b17k4, b17k5, ruI, ssI, sbI, spI, swI, scI, stI, srI, saI, snI, ↓reduceIte, reduceCtorEq, Nat.reduceEqDiff, Nat.reduceAdd, Nat.reduceMul, Nat.reduceSub, Nat.reduceLeDiff, Nat.reduceBEq, Int.reduceToNat, Int.reduceLE, Int.reduceLT, Int.reduceEq, Int.reduceNe, di0, di1, di2, di3, di4, di5, di6, di7, di8, di9, postX_ret, postX_normal, ex_some]
  split
  · rename_i h
    have h3 : i = 0 ∨ i = 1 ∨ i = 2 := by simp at h; omega
    repeat (refine And.intro (by omega) ?_)
    have step : ∀ (x : Int) (j : Nat), [r.lo, r.hi, r.T].getD j 0 = x → j < 3 → ¬ Wi x 0 100 → rulesErr r = 2 := by
      intro x j hx hj hw
      unfold rulesErr
      rw [if_pos]
      have : j = 0 ∨ j = 1 ∨ j = 2 := by omega
      rcases this with rfl | rfl | rfl <;> simp only [List.getD_cons_zero, List.getD_cons_succ] at hx <;> subst hx <;> simp only [hw, and_false, false_and, not_false_eq_true]
    have go : ∀ x, [r.lo, r.hi, r.T].getD i 0 = x → Wi x 0 100 → ∀ j, j < i + 1 → Wi ([r.lo, r.hi, r.T].getD j 0) 0 100 := by
      intro x hx hw j hj
      by_cases e : j = i
      · subst e; rw [hx]; exact hw
      · exact he j (by omega)
    have fin : ∀ x, [r.lo, r.hi, r.T].getD i 0 = x → i < 3 → [IV.int IntKind.i64 r.lo, IV.int IntKind.i64 r.hi, IV.int IntKind.i64 r.T].getD i IV.nilp = .int .i64 x := by
      intro x hx hj
      rcases h3 with rfl | rfl | rfl <;> simp only [List.getD_cons_zero, List.getD_cons_succ] at hx ⊢ <;> rw [hx]
    have hi3 : i < 3 := by omega
    generalize hx : [r.lo, r.hi, r.T].getD i 0 = x at step go fin
    rw [fin x rfl hi3]
    simp only [ruI, ssI, sbI, spI, swI, scI, stI, srI, saI, snI, ↓reduceIte, reduceCtorEq, Nat.reduceEqDiff, Nat.reduceAdd, Nat.reduceMul, Nat.reduceSub, Nat.reduceLeDiff, Nat.reduceBEq, Int.reduceToNat, Int.reduceLE, Int.reduceLT, Int.reduceEq, Int.reduceNe, di0, di1, di2, di3, di4, di5, di6, di7, di8, di9, postX_ret, postX_normal, ex_some]
    refine calls_of c_Wi ?_; simp only [ruI, ssI, sbI, spI, swI, scI, stI, srI, saI, snI, res17, b17k0, b17k1, b17k2, b17k3, b17k4, b17k5, ↓reduceIte, reduceCtorEq, Nat.reduceEqDiff, Nat.reduceAdd, Nat.reduceMul, Nat.reduceSub, Nat.reduceLeDiff, Nat.reduceBEq, Int.reduceToNat, Int.reduceLE, Int.reduceLT, Int.reduceEq, Int.reduceNe, di0, di1, di2, di3, di4, di5, di6, di7, di8, di9, postX_ret, postX_normal, ex_some]
    by_cases hw : Wi x 0 100
    · simp only [hw, decide_true, ruI, ssI, sbI, spI, swI, scI, stI, srI, saI, snI, ↓reduceIte, reduceCtorEq, Nat.reduceEqDiff, Nat.reduceAdd, Nat.reduceMul, Nat.reduceSub, Nat.reduceLeDiff, Nat.reduceBEq, Int.reduceToNat, Int.reduceLE, Int.reduceLT, Int.reduceEq, Int.reduceNe, di0, di1, di2, di3, di4, di5, di6, di7, di8, di9, postX_ret, postX_normal, ex_some]
      rw [wrap64 (by omega) (by omega)]
      exact ih (i + 1) _ _ (by omega) ⟨by omega, go x rfl hw⟩ (by simp only [ruI, ssI, sbI, spI, swI, scI, stI, srI, saI, snI, ↓reduceIte, reduceCtorEq, Nat.reduceEqDiff, Nat.reduceAdd, Nat.reduceMul, Nat.reduceSub, Nat.reduceLeDiff, Nat.reduceBEq, Int.reduceToNat, Int.reduceLE, Int.reduceLT, Int.reduceEq, Int.reduceNe, di0, di1, di2, di3, di4, di5, di6, di7, di8, di9, postX_ret, postX_normal, ex_some] <;> rfl)
    · simp only [hw, decide_false, ruI, ssI, sbI, spI, swI, scI, stI, srI, saI, snI, ↓reduceIte, reduceCtorEq, Nat.reduceEqDiff, Nat.reduceAdd, Nat.reduceMul, Nat.reduceSub, Nat.reduceLeDiff, Nat.reduceBEq, Int.reduceToNat, Int.reduceLE, Int.reduceLT, Int.reduceEq, Int.reduceNe, di0, di1, di2, di3, di4, di5, di6, di7, di8, di9, postX_ret, postX_normal, ex_some]
      rw [step x i hx hi3 hw]
  · rename_i h
    have h3 : i = 3 := by simp at h; omega
    subst h3
    have e0 := he 0 (by omega)
    have e1 := he 1 (by omega)
    have e2 := he 2 (by omega)
    simp only [List.getD_cons_zero, List.getD_cons_succ] at e0 e1 e2
    unfold rulesErr
    refine calls_of c_Wi ?_; simp only [ruI, ssI, sbI, spI, swI, scI, stI, srI, saI, snI, res17, b17k0, b17k1, b17k2, b17k3, b17k4, b17k5, ↓reduceIte, reduceCtorEq, Nat.reduceEqDiff, Nat.reduceAdd, Nat.reduceMul, Nat.reduceSub, Nat.reduceLeDiff, Nat.reduceBEq, Int.reduceToNat, Int.reduceLE, Int.reduceLT, Int.reduceEq, Int.reduceNe, di0, di1, di2, di3, di4, di5, di6, di7, di8, di9, postX_ret, postX_normal, ex_some]
    by_cases hI : Wi r.I 1 1000
    case neg => simp only [hI, false_and, not_false_eq_true, ruI, ssI, sbI, spI, swI, scI, stI, srI, saI, snI, ↓reduceIte, reduceCtorEq, Nat.reduceEqDiff, Nat.reduceAdd, Nat.reduceMul, Nat.reduceSub, Nat.reduceLeDiff, Nat.reduceBEq, Int.reduceToNat, Int.reduceLE, Int.reduceLT, Int.reduceEq, Int.reduceNe, di0, di1, di2, di3, di4, di5, di6, di7, di8, di9, postX_ret, postX_normal, ex_some]
    simp only [hI, decide_true, ruI, ssI, sbI, spI, swI, scI, stI, srI, saI, snI, ↓reduceIte, reduceCtorEq, Nat.reduceEqDiff, Nat.reduceAdd, Nat.reduceMul, Nat.reduceSub, Nat.reduceLeDiff, Nat.reduceBEq, Int.reduceToNat, Int.reduceLE, Int.reduceLT, Int.reduceEq, Int.reduceNe, di0, di1, di2, di3, di4, di5, di6, di7, di8, di9, postX_ret, postX_normal, ex_some]
    refine calls_of c_Wi ?_; simp only [ruI, ssI, sbI, spI, swI, scI, stI, srI, saI, snI, res17, b17k0, b17k1, b17k2, b17k3, b17k4, b17k5, ↓reduceIte, reduceCtorEq, Nat.reduceEqDiff, Nat.reduceAdd, Nat.reduceMul, Nat.reduceSub, Nat.reduceLeDiff, Nat.reduceBEq, Int.reduceToNat, Int.reduceLE, Int.reduceLT, Int.reduceEq, Int.reduceNe, di0, di1, di2, di3, di4, di5, di6, di7, di8, di9, postX_ret, postX_normal, ex_some]
    by_cases hA : Wi r.A 1 1000
    case neg => simp only [hA, false_and, and_false, not_false_eq_true, decide_false, ruI, ssI, sbI, spI, swI, scI, stI, srI, saI, snI, ↓reduceIte, reduceCtorEq, Nat.reduceEqDiff, Nat.reduceAdd, Nat.reduceMul, Nat.reduceSub, Nat.reduceLeDiff, Nat.reduceBEq, Int.reduceToNat, Int.reduceLE, Int.reduceLT, Int.reduceEq, Int.reduceNe, di0, di1, di2, di3, di4, di5, di6, di7, di8, di9, postX_ret, postX_normal, ex_some]
    simp only [hA, e0, e1, e2, decide_true, and_self, not_true_eq_false, ruI, ssI, sbI, spI, swI, scI, stI, srI, saI, snI, ↓reduceIte, reduceCtorEq, Nat.reduceEqDiff, Nat.reduceAdd, Nat.reduceMul, Nat.reduceSub, Nat.reduceLeDiff, Nat.reduceBEq, Int.reduceToNat, Int.reduceLE, Int.reduceLT, Int.reduceEq, Int.reduceNe, di0, di1, di2, di3, di4, di5, di6, di7, di8, di9, postX_ret, postX_normal, ex_some]
    unfold Wi at e0 e1 e2 hI hA
    simp only [show IntKind.wrap .i64 (2001 * r.hi) = 2001 * r.hi from wrap64 (by omega) (by omega)]
    simp only [show IntKind.wrap .i64 (4001 * r.T) = 4001 * r.T from wrap64 (by omega) (by omega)]
    simp only [show IntKind.wrap .i64 (1000 * r.I) = 1000 * r.I from wrap64 (by omega) (by omega)]
    simp only [show IntKind.wrap .i64 (2001 * r.hi + 4001 * r.T) = 2001 * r.hi + 4001 * r.T from wrap64 (by omega) (by omega)]
    simp only [show IntKind.wrap .i64 (2001 * r.hi + 4001 * r.T + 2000) = 2001 * r.hi + 4001 * r.T + 2000 from wrap64 (by omega) (by omega)]
    split
    · rfl
    · split <;> rfl

end Go.DI

