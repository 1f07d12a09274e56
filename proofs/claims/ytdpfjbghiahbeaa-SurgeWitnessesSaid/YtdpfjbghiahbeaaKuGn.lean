/- Contracts of witnesses. No condition. -/
import Derived.Test.YtdpfjbghiahbeaaKuGm
/- The reference's functions of witnesses, as data. No condition. -/
namespace Go.DI
open Go.Proofs Go.RowKit
/-- guidevane/guidevaneref04.CopyStates -/
def b32 : DCode :=
 (.seq
  (.region [⟨(some 2), .mov, [.c (.slc 2 [])], none, []⟩] false)
  (.seq
   (.region [⟨(some 3), (.bsl 2), [], none, []⟩,
     ⟨(some 4), .movv, [.t 0], none, []⟩,
     ⟨(some 5), (.append 2 16 false), [.t 3, .t 4], none, [0, 1]⟩,
     ⟨(some 2), .movv, [.t 5], none, [2, 2, 0, 1, 2]⟩] false)
   .ret))
def d32 : DFn := ⟨1, 6, [.tmp 2], b32⟩
theorem body32 : d32.body = b32 := rfl
theorem res32 : d32.res = [.tmp 2] := rfl
theorem k32 : chkFn Try.prog Try.f32 d32 = true := by kernel_rfl

/-- guidevane/guidevaneref04.CopyWitness -/
def b34 : DCode :=
 (.seq
  (.region [⟨(some 1), .box, [.t 0], none, []⟩,
    ⟨(some 2), (.alloc [(.imm (.slc 1 [])), (.imm (.int .i64 0)), (.imm (.int .i64 0)), (.imm (.int .i64 0)), (.imm (.int .i64 0))]), [], none, []⟩] false)
  (.seq
   (.region [⟨(some 3), (.faddr 0 false 1), [.t 1], none, []⟩,
     ⟨(some 4), (.load false 1), [.t 3], none, [0]⟩,
     ⟨(some 5), .call, [.f 43, .t 4], none, [1]⟩,
     ⟨(some 6), (.faddr 0 false 1), [.t 1], none, [0, 1, 2]⟩,
     ⟨none, (.store 1), [.t 6, .t 5], none, [3, 2, 2, 0, 1, 2]⟩] false)
   (.seq
    (.region [⟨(some 7), (.load true 5), [.t 1], none, []⟩,
      ⟨none, (.store 5), [.t 2, .t 7], none, [0, 0]⟩] false)
    .ret)))
def d34 : DFn := ⟨1, 8, [.cell 2 true 5], b34⟩
theorem body34 : d34.body = b34 := rfl
theorem res34 : d34.res = [.cell 2 true 5] := rfl
theorem k34 : chkFn Try.prog Try.f34 d34 = true := by kernel_rfl

/-- guidevane/guidevaneref04.SameWitness -/
def b36 : DCode :=
 (.seq
  (.region [⟨(some 2), .box, [.t 0], none, []⟩,
    ⟨(some 3), .box, [.t 1], none, []⟩,
    ⟨(some 4), .mov, [.c (.bool false)], none, []⟩] false)
  (.seq
   (.region [⟨(some 5), (.faddr 0 false 1), [.t 2], none, []⟩,
     ⟨(some 6), (.load false 1), [.t 5], none, [0]⟩,
     ⟨(some 7), (.faddr 0 false 1), [.t 3], none, []⟩,
     ⟨(some 8), (.load false 1), [.t 7], none, [2]⟩,
     ⟨(some 9), .call, [.f 46, .t 6, .t 8], none, [1, 3]⟩,
     ⟨(some 10), .mov, [.t 9], none, [4, 4]⟩,
     ⟨(some 11), (.faddr 1 true 2), [.t 2], (some (10, true)), [5]⟩,
     ⟨(some 12), (.load true 2), [.t 11], (some (10, true)), [6, 5]⟩,
     ⟨(some 13), (.faddr 1 true 2), [.t 3], (some (10, true)), [5]⟩,
     ⟨(some 14), (.load true 2), [.t 13], (some (10, true)), [8, 5]⟩,
     ⟨(some 15), (.eqs [false, false] false), [.t 12, .t 14], (some (10, true)), [7, 9, 5]⟩,
     ⟨(some 16), .pick, [.t 10, .t 15, .c (.bool false)], none, [5, 10]⟩,
     ⟨(some 17), .mov, [.t 16], none, [11, 5]⟩,
     ⟨(some 18), (.faddr 3 false 1), [.t 2], (some (17, true)), [12]⟩,
     ⟨(some 19), (.load false 1), [.t 18], (some (17, true)), [13, 12]⟩,
     ⟨(some 20), (.faddr 3 false 1), [.t 3], (some (17, true)), [12]⟩,
     ⟨(some 21), (.load false 1), [.t 20], (some (17, true)), [15, 12]⟩,
     ⟨(some 22), (.bin .eql), [.t 19, .t 21], (some (17, true)), [14, 16, 12]⟩,
     ⟨(some 23), .pick, [.t 17, .t 22, .c (.bool false)], none, [12, 17]⟩,
     ⟨(some 24), .mov, [.t 23], none, [18, 12]⟩,
     ⟨(some 25), (.faddr 4 false 1), [.t 2], (some (24, true)), [19]⟩,
     ⟨(some 26), (.load false 1), [.t 25], (some (24, true)), [20, 19]⟩,
     ⟨(some 27), (.faddr 4 false 1), [.t 3], (some (24, true)), [19]⟩,
     ⟨(some 28), (.load false 1), [.t 27], (some (24, true)), [22, 19]⟩,
     ⟨(some 29), (.bin .eql), [.t 26, .t 28], (some (24, true)), [21, 23, 19]⟩,
     ⟨(some 30), .pick, [.t 24, .t 29, .c (.bool false)], none, [19, 24]⟩,
     ⟨(some 4), .mov, [.t 30], none, [25, 19, 0, 1, 2, 3, 4, 5, 6, 7, 8, 9, 10, 11, 12, 13, 14, 15, 16, 17, 18, 19, 20, 21, 22, 23, 24, 25]⟩] false)
   .ret))
def d36 : DFn := ⟨2, 31, [.tmp 4], b36⟩
theorem body36 : d36.body = b36 := rfl
theorem res36 : d36.res = [.tmp 4] := rfl
theorem k36 : chkFn Try.prog Try.f36 d36 = true := by kernel_rfl

/-- guidevane/guidevaneref04.WitnessErr -/
def b37k0 : DCode :=
 (.seq
  (.region [⟨(some 6), .mov, [.c (.int .i64 0)], none, []⟩] false)
  .ret)
def b37k1 : DCode :=
 (.seq
  (.seq
   (.region [⟨(some 30), (.load true 5), [.t 3], none, []⟩,
     ⟨(some 31), (.faddr 1 true 2), [.t 5], none, []⟩,
     ⟨(some 32), (.load true 2), [.t 31], none, [1]⟩,
     ⟨(some 33), (.load true 4), [.t 4], none, []⟩,
     ⟨(some 34), (.faddr 0 false 1), [.t 5], none, []⟩,
     ⟨(some 35), (.load false 1), [.t 34], none, [4]⟩,
     ⟨(some 36), .call, [.f 48, .t 33, .t 35], none, [3, 5]⟩,
     ⟨(some 37), (.faddr 3 false 1), [.t 5], none, []⟩,
     ⟨(some 38), (.load false 1), [.t 37], none, [7]⟩,
     ⟨(some 39), .call, [.f 107, .t 30, .t 32, .t 36, .t 38], none, [0, 2, 6, 8, 6]⟩,
     ⟨(some 40), (.faddr 4 false 1), [.t 5], none, []⟩,
     ⟨(some 41), (.load false 1), [.t 40], none, [10]⟩,
     ⟨(some 42), (.bin .neq), [.t 39, .t 41], none, [9, 11]⟩] true)
   (.cond (.t 42)
    (.seq
     (.region [⟨(some 6), .mov, [.c (.int .i64 19)], none, []⟩] false)
     .ret)
    .skip))
  (.keep [] [] b37k0))
def b37k2 : DCode :=
 (.seq
  (.seq
   (.region [⟨(some 23), (.load true 5), [.t 3], none, []⟩,
     ⟨(some 24), (.faddr 3 false 1), [.t 5], none, []⟩,
     ⟨(some 25), (.load false 1), [.t 24], none, [1]⟩,
     ⟨(some 26), .call, [.f 22, .t 23, .t 25], none, [0, 2]⟩,
     ⟨(some 9), .mov, [.t 26], none, [3, 3, 0, 1, 2, 3]⟩] false)
   (.seq
    (.region [⟨(some 27), .mov, [.t 9], none, []⟩,
      ⟨(some 28), (.bin .neq), [.t 27, .c (.int .i64 0)], none, [0]⟩] false)
    (.cond (.t 28)
     (.seq
      (.region [⟨(some 29), .mov, [.t 9], none, []⟩,
        ⟨(some 6), .mov, [.t 29], none, [0, 0]⟩] false)
      .ret)
     .skip)))
  (.keep [3, 4, 5] [3, 4, 5] b37k1))
def b37k3 : DCode :=
 (.seq
  (.seq
   (.region [⟨(some 17), (.faddr 1 true 2), [.t 5], none, []⟩,
     ⟨(some 18), (.load true 2), [.t 17], none, [0]⟩,
     ⟨(some 19), .call, [.f 19, .t 18], none, [1]⟩,
     ⟨(some 8), .mov, [.t 19], none, [2, 2, 0, 1, 2]⟩] false)
   (.seq
    (.region [⟨(some 20), .mov, [.t 8], none, []⟩,
      ⟨(some 21), (.bin .neq), [.t 20, .c (.int .i64 0)], none, [0]⟩] false)
    (.cond (.t 21)
     (.seq
      (.region [⟨(some 22), .mov, [.t 8], none, []⟩,
        ⟨(some 6), .mov, [.t 22], none, [0, 0]⟩] false)
      .ret)
     .skip)))
  (.keep [3, 4, 5] [3, 4, 5] b37k2))
def b37 : DCode :=
 (.seq
  (.region [⟨(some 3), .box, [.t 0], none, []⟩,
    ⟨(some 4), .box, [.t 1], none, []⟩,
    ⟨(some 5), .box, [.t 2], none, []⟩,
    ⟨(some 6), .mov, [.c (.int .i64 0)], none, []⟩] false)
  (.seq
   (.seq
    (.region [⟨(some 10), (.load true 4), [.t 4], none, []⟩,
      ⟨(some 11), (.faddr 0 false 1), [.t 5], none, []⟩,
      ⟨(some 12), (.load false 1), [.t 11], none, [1]⟩,
      ⟨(some 13), .call, [.f 47, .t 10, .t 12], none, [0, 2]⟩,
      ⟨(some 7), .mov, [.t 13], none, [3, 3, 0, 1, 2, 3]⟩] false)
    (.seq
     (.region [⟨(some 14), .mov, [.t 7], none, []⟩,
       ⟨(some 15), (.bin .neq), [.t 14, .c (.int .i64 0)], none, [0]⟩] false)
     (.cond (.t 15)
      (.seq
       (.region [⟨(some 16), .mov, [.t 7], none, []⟩,
         ⟨(some 6), .mov, [.t 16], none, [0, 0]⟩] false)
       .ret)
      .skip)))
   (.keep [3, 4, 5] [3, 4, 5] b37k3)))
def d37 : DFn := ⟨3, 43, [.tmp 6], b37⟩
theorem body37 : d37.body = b37 := rfl
theorem res37 : d37.res = [.tmp 6] := rfl
theorem k37 : chkFn Try.prog Try.f37 d37 = true := by kernel_rfl

/-- guidevane/guidevaneref04.StartsErr -/
def b38k0 : DCode :=
 (.region [⟨(some 15), .mov, [.t 3], none, []⟩,
   ⟨(some 16), (.bin .add), [.t 15, .c (.int .i64 1)], none, [0]⟩,
   ⟨(some 3), .mov, [.t 16], none, [1, 0, 1]⟩] false)
def b38k1 : DCode :=
 (.seq
  (.block 1
   (.seq
    (.region [⟨(some 17), .movv, [.t 0], none, []⟩,
      ⟨(some 18), .mov, [.t 3], none, []⟩,
      ⟨(some 19), (.iaddr 2), [.t 17, .t 18], none, [0, 1]⟩,
      ⟨(some 20), (.load true 2), [.t 19], none, [2]⟩,
      ⟨(some 21), .call, [.f 19, .t 20], none, [3]⟩,
      ⟨(some 4), .mov, [.t 21], none, [4, 4, 0, 1, 2, 3, 4]⟩] false)
    (.seq
     (.region [⟨(some 22), .mov, [.t 4], none, []⟩,
       ⟨(some 23), (.bin .neq), [.t 22, .c (.int .i64 0)], none, [0]⟩] false)
     (.cond (.t 23)
      (.seq
       (.region [⟨(some 24), .mov, [.t 4], none, []⟩,
         ⟨(some 2), .mov, [.t 24], none, [0, 0]⟩] false)
       .ret)
      .skip))))
  (.keep [0, 3] [] b38k0))
def b38l0 : DCode := .keep [0, 3] []
  (.seq
   (.seq
    (.region [⟨(some 11), .mov, [.t 3], none, []⟩,
      ⟨(some 12), .movv, [.t 0], none, []⟩,
      ⟨(some 13), .len, [.t 12], none, [1]⟩,
      ⟨(some 14), (.bin .lss), [.t 11, .t 13], none, [0, 2]⟩] false)
    (.cond (.t 14)
     .skip
     (.exit 0)))
   (.keep [0, 3] [] b38k1))
def b38k2 : DCode :=
 (.seq
  (.region [⟨(some 2), .mov, [.c (.int .i64 0)], none, []⟩] false)
  .ret)
def b38k3 : DCode :=
 (.seq
  (.seq
   (.region [⟨(some 3), .mov, [.c (.int .i64 0)], none, []⟩] false)
   (.block 0
    (.loop b38l0)))
  (.keep [] [] b38k2))
def b38k4 : DCode :=
 (.seq
  (.seq
   (.region [⟨(some 8), .movv, [.t 0], none, []⟩,
     ⟨(some 9), .len, [.t 8], none, [0]⟩,
     ⟨(some 10), (.bin .gtr), [.t 9, .c (.int .i64 40)], none, [1]⟩] false)
   (.cond (.t 10)
    (.seq
     (.region [⟨(some 2), .mov, [.c (.int .i64 8)], none, []⟩] false)
     .ret)
    .skip))
  (.keep [0] [] b38k3))
def b38 : DCode :=
 (.seq
  (.region [⟨(some 2), .mov, [.c (.int .i64 0)], none, []⟩] false)
  (.seq
   (.seq
    (.region [⟨(some 5), .movv, [.t 0], none, []⟩,
      ⟨(some 6), .len, [.t 5], none, [0]⟩,
      ⟨(some 7), (.bin .eql), [.t 6, .c (.int .i64 0)], none, [1]⟩] false)
    (.cond (.t 7)
     (.seq
      (.region [⟨(some 2), .mov, [.c (.int .i64 10)], none, []⟩] false)
      .ret)
     .skip))
   (.keep [0] [] b38k4)))
def d38 : DFn := ⟨1, 25, [.tmp 2], b38⟩
theorem body38 : d38.body = b38 := rfl
theorem res38 : d38.res = [.tmp 2] := rfl
theorem k38 : chkFn Try.prog Try.f38 d38 = true := by kernel_rfl

/-- guidevane/guidevaneref04.Highest -/
def b107k0 : DCode :=
 (.seq
  (.block 1
   (.region [⟨(some 27), .mov, [.t 10], none, []⟩,
     ⟨(some 28), .movv, [.t 9], none, []⟩,
     ⟨(some 29), .mov, [.t 11], none, []⟩,
     ⟨(some 30), (.iaddr 2), [.t 28, .t 29], none, [1, 2]⟩,
     ⟨(some 31), (.faddr 0 false 1), [.t 30], none, [3]⟩,
     ⟨(some 32), (.load false 1), [.t 31], none, [4]⟩,
     ⟨(some 33), (.mm true), [.t 27, .t 32], none, [0, 5]⟩,
     ⟨(some 10), .mov, [.t 33], none, [6, 0, 1, 2, 3, 4, 5, 6]⟩] false))
  (.region [⟨(some 25), .mov, [.t 11], none, []⟩,
    ⟨(some 26), (.bin .add), [.t 25, .c (.int .i64 1)], none, [0]⟩,
    ⟨(some 11), .mov, [.t 26], none, [1, 0, 1]⟩] false))
def b107l0 : DCode := .keep [9, 10, 11] []
  (.seq
   (.seq
    (.region [⟨(some 21), .mov, [.t 11], none, []⟩,
      ⟨(some 22), .movv, [.t 9], none, []⟩,
      ⟨(some 23), .len, [.t 22], none, [1]⟩,
      ⟨(some 24), (.bin .lss), [.t 21, .t 23], none, [0, 2]⟩] false)
    (.cond (.t 24)
     .skip
     (.exit 0)))
   (.keep [9, 10, 11] [] b107k0))
def b107k1 : DCode :=
 (.seq
  (.region [⟨(some 34), .mov, [.t 10], none, []⟩,
    ⟨(some 8), .mov, [.t 34], none, [0, 0]⟩] false)
  .ret)
def b107 : DCode :=
 (.seq
  (.region [⟨(some 4), .box, [.t 0], none, []⟩,
    ⟨(some 5), .box, [.t 1], none, []⟩,
    ⟨(some 8), .mov, [.c (.int .i64 0)], none, []⟩] false)
  (.seq
   (.region [⟨(some 12), (.load true 5), [.t 4], none, []⟩,
     ⟨(some 13), (.load true 2), [.t 5], none, []⟩,
     ⟨(some 14), .movv, [.t 2], none, []⟩,
     ⟨(some 15), .mov, [.t 3], none, []⟩,
     ⟨(some 16), .call, [.f 54, .t 12, .t 13, .t 14, .t 15], none, [0, 1, 2, 3]⟩,
     ⟨(some 9), .movv, [.t 16], none, [4, 4, 0, 1, 2, 3, 4]⟩] false)
   (.seq
    (.region [⟨(some 17), .movv, [.t 9], none, []⟩,
      ⟨(some 18), (.iaddr 2), [.t 17, .c (.int .i64 0)], none, [0]⟩,
      ⟨(some 19), (.faddr 0 false 1), [.t 18], none, [1]⟩,
      ⟨(some 20), (.load false 1), [.t 19], none, [2]⟩,
      ⟨(some 10), .mov, [.t 20], none, [3, 0, 1, 2, 3]⟩] false)
    (.seq
     (.seq
      (.region [⟨(some 11), .mov, [.c (.int .i64 0)], none, []⟩] false)
      (.block 0
       (.loop b107l0)))
     (.keep [10] [] b107k1)))))
def d107 : DFn := ⟨4, 35, [.tmp 8], b107⟩
theorem body107 : d107.body = b107 := rfl
theorem res107 : d107.res = [.tmp 8] := rfl
theorem k107 : chkFn Try.prog Try.f107 d107 = true := by kernel_rfl

/-- guidevane/guidevaneref04.Worst -/
def b39k0 : DCode :=
 (.region [⟨(some 39), .mov, [.t 14], none, []⟩,
   ⟨(some 40), (.bin .add), [.t 39, .c (.int .i64 1)], none, [0]⟩,
   ⟨(some 14), .mov, [.t 40], none, [1, 0, 1]⟩] false)
def b39k1 : DCode :=
 (.seq
  (.block 5
   (.seq
    (.region [⟨(some 41), (.load true 5), [.t 3], none, []⟩,
      ⟨(some 42), .movv, [.t 2], none, []⟩,
      ⟨(some 43), .mov, [.t 13], none, []⟩,
      ⟨(some 44), (.iaddr 2), [.t 42, .t 43], none, [1, 2]⟩,
      ⟨(some 45), (.load true 2), [.t 44], none, [3]⟩,
      ⟨(some 46), (.load true 4), [.t 4], none, []⟩,
      ⟨(some 47), .movv, [.t 10], none, []⟩,
      ⟨(some 48), .mov, [.t 12], none, []⟩,
      ⟨(some 49), (.iaddr 1), [.t 47, .t 48], none, [6, 7]⟩,
      ⟨(some 50), (.load false 1), [.t 49], none, [8]⟩,
      ⟨(some 51), .call, [.f 48, .t 46, .t 50], none, [5, 9]⟩,
      ⟨(some 52), .movv, [.t 11], none, []⟩,
      ⟨(some 53), .mov, [.t 14], none, []⟩,
      ⟨(some 54), (.iaddr 1), [.t 52, .t 53], none, [11, 12]⟩,
      ⟨(some 55), (.load false 1), [.t 54], none, [13]⟩,
      ⟨(some 56), .call, [.f 107, .t 41, .t 45, .t 51, .t 55], none, [0, 4, 10, 14, 10]⟩,
      ⟨(some 15), .mov, [.t 56], none, [15, 15, 0, 1, 2, 3, 4, 5, 6, 7, 8, 9, 10, 11, 12, 13, 14, 15]⟩] true)
    (.seq
     (.region [⟨(some 57), .mov, [.t 9], none, []⟩,
       ⟨(some 58), (.un .not), [.t 57], none, [0]⟩,
       ⟨(some 59), .mov, [.t 58], none, [1]⟩,
       ⟨(some 60), .mov, [.t 15], (some (59, false)), [2]⟩,
       ⟨(some 61), (.faddr 4 false 1), [.t 8], (some (59, false)), [2]⟩,
       ⟨(some 62), (.load false 1), [.t 61], (some (59, false)), [4, 2]⟩,
       ⟨(some 63), (.bin .gtr), [.t 60, .t 62], (some (59, false)), [3, 5, 2]⟩,
       ⟨(some 64), .pick, [.t 59, .c (.bool true), .t 63], none, [2, 6]⟩] false)
     (.cond (.t 64)
      (.region [⟨(some 65), .movv, [.t 10], none, []⟩,
        ⟨(some 66), .mov, [.t 12], none, []⟩,
        ⟨(some 67), (.iaddr 1), [.t 65, .t 66], none, [0, 1]⟩,
        ⟨(some 68), (.load false 1), [.t 67], none, [2]⟩,
        ⟨(some 69), .movv, [.t 2], none, []⟩,
        ⟨(some 70), .mov, [.t 13], none, []⟩,
        ⟨(some 71), (.iaddr 2), [.t 69, .t 70], none, [4, 5]⟩,
        ⟨(some 72), (.load true 2), [.t 71], none, [6]⟩,
        ⟨(some 73), .movv, [.t 11], none, []⟩,
        ⟨(some 74), .mov, [.t 14], none, []⟩,
        ⟨(some 75), (.iaddr 1), [.t 73, .t 74], none, [8, 9]⟩,
        ⟨(some 76), (.load false 1), [.t 75], none, [10]⟩,
        ⟨(some 77), .mov, [.t 15], none, []⟩,
        ⟨(some 78), (.build [(.imm (.slc 1 [])), (.imm (.int .i64 0)), (.imm (.int .i64 0)), (.imm (.int .i64 0)), (.imm (.int .i64 0))] [(0, 1), (1, 2), (3, 1), (4, 1)]), [.t 68, .t 72, .t 76, .t 77], none, [3, 7, 11, 12]⟩,
        ⟨none, (.store 5), [.t 8, .t 78], none, [13, 0, 1, 2, 3, 4, 5, 6, 7, 8, 9, 10, 11, 12, 13]⟩,
        ⟨(some 9), .mov, [.c (.bool true)], none, [14, 0, 1, 2, 3, 4, 5, 6, 7, 8, 9, 10, 11, 12, 13, 14]⟩] true)
      .skip))))
  (.keep [2, 3, 4, 6, 8, 9, 10, 11, 12, 13, 14] [3, 4, 6, 8] b39k0))
def b39l0 : DCode := .keep [2, 3, 4, 6, 8, 9, 10, 11, 12, 13, 14] [3, 4, 6, 8]
  (.seq
   (.seq
    (.region [⟨(some 37), .mov, [.t 14], none, []⟩,
      ⟨(some 38), (.bin .lss), [.t 37, .c (.int .i64 2)], none, [0]⟩] false)
    (.cond (.t 38)
     .skip
     (.exit 4)))
   (.keep [2, 3, 4, 6, 8, 9, 10, 11, 12, 13, 14] [3, 4, 6, 8] b39k1))
def b39k2 : DCode :=
 (.region [⟨(some 35), .mov, [.t 13], none, []⟩,
   ⟨(some 36), (.bin .add), [.t 35, .c (.int .i64 1)], none, [0]⟩,
   ⟨(some 13), .mov, [.t 36], none, [1, 0, 1]⟩] false)
def b39k3 : DCode :=
 (.seq
  (.block 3
   (.seq
    (.region [⟨(some 14), .mov, [.c (.int .i64 0)], none, []⟩] false)
    (.block 4
     (.loop b39l0))))
  (.keep [2, 3, 4, 6, 8, 9, 10, 11, 12, 13] [3, 4, 6, 8] b39k2))
def b39l1 : DCode := .keep [2, 3, 4, 6, 8, 9, 10, 11, 12, 13] [3, 4, 6, 8]
  (.seq
   (.seq
    (.region [⟨(some 31), .mov, [.t 13], none, []⟩,
      ⟨(some 32), .movv, [.t 2], none, []⟩,
      ⟨(some 33), .len, [.t 32], none, [1]⟩,
      ⟨(some 34), (.bin .lss), [.t 31, .t 33], none, [0, 2]⟩] false)
    (.cond (.t 34)
     .skip
     (.exit 2)))
   (.keep [2, 3, 4, 6, 8, 9, 10, 11, 12, 13] [3, 4, 6, 8] b39k3))
def b39k4 : DCode :=
 (.region [⟨(some 29), .mov, [.t 12], none, []⟩,
   ⟨(some 30), (.bin .add), [.t 29, .c (.int .i64 1)], none, [0]⟩,
   ⟨(some 12), .mov, [.t 30], none, [1, 0, 1]⟩] false)
def b39k5 : DCode :=
 (.seq
  (.block 1
   (.seq
    (.region [⟨(some 13), .mov, [.c (.int .i64 0)], none, []⟩] false)
    (.block 2
     (.loop b39l1))))
  (.keep [2, 3, 4, 6, 8, 9, 10, 11, 12] [3, 4, 6, 8] b39k4))
def b39l2 : DCode := .keep [2, 3, 4, 6, 8, 9, 10, 11, 12] [3, 4, 6, 8]
  (.seq
   (.seq
    (.region [⟨(some 25), .mov, [.t 12], none, []⟩,
      ⟨(some 26), .movv, [.t 10], none, []⟩,
      ⟨(some 27), .len, [.t 26], none, [1]⟩,
      ⟨(some 28), (.bin .lss), [.t 25, .t 27], none, [0, 2]⟩] false)
    (.cond (.t 28)
     .skip
     (.exit 0)))
   (.keep [2, 3, 4, 6, 8, 9, 10, 11, 12] [3, 4, 6, 8] b39k5))
def b39k6 : DCode :=
 (.seq
  (.region [⟨(some 79), (.load true 5), [.t 8], none, []⟩,
    ⟨(some 80), .mov, [.t 9], none, []⟩,
    ⟨none, (.store 5), [.t 6, .t 79], none, [0, 0]⟩,
    ⟨(some 7), .mov, [.t 80], none, [1, 2, 0, 1, 2]⟩] false)
  .ret)
def b39 : DCode :=
 (.seq
  (.region [⟨(some 3), .box, [.t 0], none, []⟩,
    ⟨(some 4), .box, [.t 1], none, []⟩,
    ⟨(some 6), (.alloc [(.imm (.slc 1 [])), (.imm (.int .i64 0)), (.imm (.int .i64 0)), (.imm (.int .i64 0)), (.imm (.int .i64 0))]), [], none, []⟩,
    ⟨(some 7), .mov, [.c (.bool false)], none, []⟩] false)
  (.seq
   (.region [⟨(some 8), (.alloc [(.imm (.slc 1 [])), (.imm (.int .i64 0)), (.imm (.int .i64 0)), (.imm (.int .i64 0)), (.imm (.int .i64 0))]), [], none, []⟩] false)
   (.seq
    (.region [⟨(some 9), .mov, [.c (.bool false)], none, []⟩] false)
    (.seq
     (.region [⟨(some 16), (.load true 4), [.t 4], none, []⟩,
       ⟨(some 17), .call, [.f 45, .t 16], none, [0]⟩,
       ⟨(some 10), .movv, [.t 17], none, [1, 1, 0, 1]⟩] false)
     (.seq
      (.region [⟨(some 18), (.faddr 2 true 2), [.t 3], none, []⟩,
        ⟨(some 19), (.faddr 0 false 1), [.t 18], none, [0]⟩,
        ⟨(some 20), (.load false 1), [.t 19], none, [1]⟩,
        ⟨(some 21), (.faddr 2 true 2), [.t 3], none, []⟩,
        ⟨(some 22), (.faddr 1 false 1), [.t 21], none, [3]⟩,
        ⟨(some 23), (.load false 1), [.t 22], none, [4]⟩,
        ⟨(some 24), (.bsl 1), [.t 20, .t 23], none, [2, 5]⟩,
        ⟨(some 11), .movv, [.t 24], none, [6, 0, 1, 2, 3, 4, 5, 6]⟩] false)
      (.seq
       (.seq
        (.region [⟨(some 12), .mov, [.c (.int .i64 0)], none, []⟩] false)
        (.block 0
         (.loop b39l2)))
       (.keep [6, 8, 9] [6, 8] b39k6)))))))
def d39 : DFn := ⟨3, 81, [.cell 6 true 5, .tmp 7], b39⟩
theorem body39 : d39.body = b39 := rfl
theorem res39 : d39.res = [.cell 6 true 5, .tmp 7] := rfl
theorem k39 : chkFn Try.prog Try.f39 d39 = true := by kernel_rfl

/-- guidevane/guidevanelaw04.few -/
def b29 : DCode :=
 (.seq
  (.region [⟨(some 1), .box, [.t 0], none, []⟩,
    ⟨(some 2), .mov, [.c (.bool false)], none, []⟩] false)
  (.seq
   (.region [⟨(some 3), (.faddr 0 false 1), [.t 1], none, []⟩,
     ⟨(some 4), (.load false 1), [.t 3], none, [0]⟩,
     ⟨(some 5), .len, [.t 4], none, [1]⟩,
     ⟨(some 6), (.bin .leq), [.t 5, .c (.int .i64 6)], none, [2]⟩,
     ⟨(some 7), .mov, [.t 6], none, [3]⟩,
     ⟨(some 8), (.faddr 0 false 1), [.t 1], (some (7, false)), [4]⟩,
     ⟨(some 9), (.load false 1), [.t 8], (some (7, false)), [5, 4]⟩,
     ⟨(some 10), .len, [.t 9], (some (7, false)), [6, 4]⟩,
     ⟨(some 11), (.bin .gtr), [.t 10, .c (.int .i64 40)], (some (7, false)), [7, 4]⟩,
     ⟨(some 12), .mov, [.t 11], (some (7, false)), [8, 4, 4]⟩,
     ⟨(some 13), (.faddr 0 false 1), [.t 1], (some (12, true)), [9]⟩,
     ⟨(some 14), (.load false 1), [.t 13], (some (12, true)), [10, 9]⟩,
     ⟨(some 15), .len, [.t 14], (some (12, true)), [11, 9]⟩,
     ⟨(some 16), (.bin .leq), [.t 15, .c (.int .i64 42)], (some (12, true)), [12, 9]⟩,
     ⟨(some 17), .pick, [.t 12, .t 16, .c (.bool false)], (some (7, false)), [9, 13, 4]⟩,
     ⟨(some 18), .pick, [.t 7, .c (.bool true), .t 17], none, [4, 14]⟩,
     ⟨(some 19), .mov, [.t 18], none, [15, 9]⟩,
     ⟨(some 20), (.faddr 1 true 5), [.t 1], (some (19, true)), [16]⟩,
     ⟨(some 21), (.faddr 0 false 1), [.t 20], (some (19, true)), [17, 16]⟩,
     ⟨(some 22), (.load false 1), [.t 21], (some (19, true)), [18, 16]⟩,
     ⟨(some 23), .len, [.t 22], (some (19, true)), [19, 16]⟩,
     ⟨(some 24), (.bin .leq), [.t 23, .c (.int .i64 10)], (some (19, true)), [20, 16]⟩,
     ⟨(some 25), .pick, [.t 19, .t 24, .c (.bool false)], none, [16, 21]⟩,
     ⟨(some 26), .mov, [.t 25], none, [22, 16]⟩,
     ⟨(some 27), (.faddr 6 false 1), [.t 1], (some (26, true)), [23]⟩,
     ⟨(some 28), (.load false 1), [.t 27], (some (26, true)), [24, 23]⟩,
     ⟨(some 29), .len, [.t 28], (some (26, true)), [25, 23]⟩,
     ⟨(some 30), (.bin .leq), [.t 29, .c (.int .i64 6)], (some (26, true)), [26, 23]⟩,
     ⟨(some 31), .mov, [.t 30], (some (26, true)), [27, 23, 23]⟩,
     ⟨(some 32), (.faddr 6 false 1), [.t 1], (some (31, false)), [28]⟩,
     ⟨(some 33), (.load false 1), [.t 32], (some (31, false)), [29, 28]⟩,
     ⟨(some 34), .len, [.t 33], (some (31, false)), [30, 28]⟩,
     ⟨(some 35), (.bin .gtr), [.t 34, .c (.int .i64 64)], (some (31, false)), [31, 28]⟩,
     ⟨(some 36), .mov, [.t 35], (some (31, false)), [32, 28, 28]⟩,
     ⟨(some 37), (.faddr 6 false 1), [.t 1], (some (36, true)), [33]⟩,
     ⟨(some 38), (.load false 1), [.t 37], (some (36, true)), [34, 33]⟩,
     ⟨(some 39), .len, [.t 38], (some (36, true)), [35, 33]⟩,
     ⟨(some 40), (.bin .leq), [.t 39, .c (.int .i64 66)], (some (36, true)), [36, 33]⟩,
     ⟨(some 41), .pick, [.t 36, .t 40, .c (.bool false)], (some (31, false)), [33, 37, 28]⟩,
     ⟨(some 42), .pick, [.t 31, .c (.bool true), .t 41], (some (26, true)), [28, 38, 23]⟩,
     ⟨(some 43), .pick, [.t 26, .t 42, .c (.bool false)], none, [23, 39]⟩,
     ⟨(some 2), .mov, [.t 43], none, [40, 33, 0, 1, 2, 3, 4, 5, 6, 7, 8, 9, 10, 11, 12, 13, 14, 15, 16, 17, 18, 19, 20, 21, 22, 23, 24, 25, 26, 27, 28, 29, 30, 31, 32, 33, 34, 35, 36, 37, 38, 39, 40]⟩] false)
   .ret))
def d29 : DFn := ⟨1, 44, [.tmp 2], b29⟩
theorem body29 : d29.body = b29 := rfl
theorem res29 : d29.res = [.tmp 2] := rfl
theorem k29 : chkFn Try.prog Try.f29 d29 = true := by kernel_rfl

/-- guidevane/guidevanelaw04.SurgeWitnesses -/
def b6k0 : DCode :=
 (.seq
  (.region [⟨(some 95), .mov, [.t 8], none, []⟩,
    ⟨(some 96), (.bin .eql), [.t 95, .c (.int .i64 0)], none, [0]⟩,
    ⟨(some 97), .mov, [.t 96], none, [1]⟩,
    ⟨(some 98), (.load true 5), [.t 7], (some (97, true)), [2]⟩,
    ⟨(some 99), (.load true 5), [.t 11], (some (97, true)), [2]⟩,
    ⟨(some 100), .call, [.f 36, .t 98, .t 99], (some (97, true)), [3, 4, 2, 2]⟩,
    ⟨(some 101), .pick, [.t 97, .t 100, .c (.bool false)], none, [2, 5]⟩,
    ⟨(some 6), .mov, [.t 101], none, [6, 5, 0, 1, 2, 3, 4, 5, 6]⟩] false)
  .ret)
def b6k1 : DCode :=
 (.seq
  (.region [⟨(some 79), (.load true 5), [.t 3], none, []⟩,
    ⟨(some 80), (.load true 4), [.t 4], none, []⟩,
    ⟨(some 81), (.faddr 0 false 1), [.t 5], none, []⟩,
    ⟨(some 82), (.load false 1), [.t 81], none, [2]⟩,
    ⟨(some 83), .call, [.f 39, .t 79, .t 80, .t 82], none, [0, 1, 3]⟩,
    ⟨(some 78), .mov, [.t 83], none, [4]⟩,
    ⟨(some 84), (.ext 0), [.t 78], none, [5]⟩,
    ⟨(some 85), (.ext 1), [.t 78], none, [5]⟩,
    ⟨(some 11), (.alloc [(.imm (.slc 1 [])), (.imm (.int .i64 0)), (.imm (.int .i64 0)), (.imm (.int .i64 0)), (.imm (.int .i64 0))]), [], none, []⟩,
    ⟨none, (.store 5), [.t 11, .t 84], none, [8, 6, 4, 0, 1, 2, 3, 4, 5, 6, 8]⟩,
    ⟨(some 12), .mov, [.t 85], none, [7, 9, 0, 1, 2, 3, 4, 5, 6, 7, 8, 9]⟩] false)
  (.seq
   (.seq
    (.region [⟨(some 86), .mov, [.t 12], none, []⟩,
      ⟨(some 87), (.un .not), [.t 86], none, [0]⟩] false)
    (.cond (.t 87)
     (.seq
      (.region [⟨(some 88), .mov, [.t 8], none, []⟩,
        ⟨(some 89), (.bin .eql), [.t 88, .c (.int .i64 12)], none, [0]⟩,
        ⟨(some 90), .mov, [.t 89], none, [1]⟩,
        ⟨(some 91), (.load true 5), [.t 7], (some (90, true)), [2]⟩,
        ⟨(some 92), (.build [(.imm (.slc 1 [])), (.imm (.int .i64 0)), (.imm (.int .i64 0)), (.imm (.int .i64 0)), (.imm (.int .i64 0))] []), [], (some (90, true)), [2]⟩,
        ⟨(some 93), .call, [.f 36, .t 91, .t 92], (some (90, true)), [3, 4, 2, 2]⟩,
        ⟨(some 94), .pick, [.t 90, .t 93, .c (.bool false)], none, [2, 5]⟩,
        ⟨(some 6), .mov, [.t 94], none, [6, 5, 0, 1, 2, 3, 4, 5, 6]⟩] false)
      .ret)
     .skip))
   (.keep [7, 8, 11] [7, 11] b6k0)))
def b6k2 : DCode :=
 (.seq
  (.seq
   (.region [⟨(some 65), (.faddr 0 false 1), [.t 5], none, []⟩,
     ⟨(some 66), (.load false 1), [.t 65], none, [0]⟩,
     ⟨(some 67), .call, [.f 38, .t 66], none, [1]⟩,
     ⟨(some 10), .mov, [.t 67], none, [2, 2, 0, 1, 2]⟩] false)
   (.seq
    (.region [⟨(some 68), .mov, [.t 10], none, []⟩,
      ⟨(some 69), (.bin .neq), [.t 68, .c (.int .i64 0)], none, [0]⟩] false)
    (.cond (.t 69)
     (.seq
      (.region [⟨(some 70), .mov, [.t 8], none, []⟩,
        ⟨(some 71), .mov, [.t 10], none, []⟩,
        ⟨(some 72), (.bin .eql), [.t 70, .t 71], none, [0, 1]⟩,
        ⟨(some 73), .mov, [.t 72], none, [2]⟩,
        ⟨(some 74), (.load true 5), [.t 7], (some (73, true)), [3]⟩,
        ⟨(some 75), (.build [(.imm (.slc 1 [])), (.imm (.int .i64 0)), (.imm (.int .i64 0)), (.imm (.int .i64 0)), (.imm (.int .i64 0))] []), [], (some (73, true)), [3]⟩,
        ⟨(some 76), .call, [.f 36, .t 74, .t 75], (some (73, true)), [4, 5, 3, 3]⟩,
        ⟨(some 77), .pick, [.t 73, .t 76, .c (.bool false)], none, [3, 6]⟩,
        ⟨(some 6), .mov, [.t 77], none, [7, 6, 0, 1, 2, 3, 4, 5, 6, 7]⟩] false)
      .ret)
     .skip)))
  (.keep [3, 4, 5, 7, 8] [3, 4, 5, 7] b6k1))
def b6k3 : DCode :=
 (.seq
  (.seq
   (.region [⟨(some 58), .mov, [.t 9], none, []⟩,
     ⟨(some 59), (.load true 5), [.t 3], none, []⟩,
     ⟨(some 60), (.load true 4), [.t 4], none, []⟩,
     ⟨(some 61), (.faddr 1 true 5), [.t 5], none, []⟩,
     ⟨(some 62), (.load true 5), [.t 61], none, [3]⟩,
     ⟨(some 63), .call, [.f 37, .t 59, .t 60, .t 62], none, [1, 2, 4]⟩,
     ⟨(some 64), (.bin .neq), [.t 58, .t 63], none, [0, 5]⟩] false)
   (.cond (.t 64)
    (.seq
     (.region [⟨(some 6), .mov, [.c (.bool false)], none, []⟩] false)
     .ret)
    .skip))
  (.keep [3, 4, 5, 7, 8] [3, 4, 5, 7] b6k2))
def b6k4 : DCode :=
 (.seq
  (.region [⟨(some 24), (.load true 5), [.t 3], none, []⟩,
    ⟨(some 25), (.load true 4), [.t 4], none, []⟩,
    ⟨(some 26), .call, [.f 31, .t 25], none, [1]⟩,
    ⟨(some 27), (.faddr 0 false 1), [.t 5], none, []⟩,
    ⟨(some 28), (.load false 1), [.t 27], none, [3]⟩,
    ⟨(some 29), .call, [.f 32, .t 28], none, [4, 2]⟩,
    ⟨(some 30), .call, [.f 30, .t 24, .t 26, .t 29], none, [0, 2, 5, 5]⟩,
    ⟨(some 23), .mov, [.t 30], none, [6]⟩,
    ⟨(some 31), (.ext 0), [.t 23], none, [7]⟩,
    ⟨(some 32), (.ext 1), [.t 23], none, [7]⟩,
    ⟨(some 7), (.alloc [(.imm (.slc 1 [])), (.imm (.int .i64 0)), (.imm (.int .i64 0)), (.imm (.int .i64 0)), (.imm (.int .i64 0))]), [], none, []⟩,
    ⟨none, (.store 5), [.t 7, .t 31], none, [10, 8, 6, 0, 1, 2, 3, 4, 5, 6, 7, 8, 10]⟩,
    ⟨(some 8), .mov, [.t 32], none, [9, 11, 0, 1, 2, 3, 4, 5, 6, 7, 8, 9, 10, 11]⟩] true)
  (.seq
   (.region [⟨(some 33), (.load true 5), [.t 3], none, []⟩,
     ⟨(some 34), (.load true 4), [.t 4], none, []⟩,
     ⟨(some 35), .call, [.f 31, .t 34], none, [1]⟩,
     ⟨(some 36), (.faddr 1 true 5), [.t 5], none, []⟩,
     ⟨(some 37), (.load true 5), [.t 36], none, [3]⟩,
     ⟨(some 38), .call, [.f 34, .t 37], none, [4, 2]⟩,
     ⟨(some 39), .call, [.f 33, .t 33, .t 35, .t 38], none, [0, 2, 5, 5]⟩,
     ⟨(some 9), .mov, [.t 39], none, [6, 6, 0, 1, 2, 3, 4, 5, 6]⟩] true)
   (.seq
    (.region [⟨(some 40), (.load true 5), [.t 3], none, []⟩,
      ⟨(some 41), (.load true 4), [.t 4], none, []⟩,
      ⟨(some 42), .call, [.f 35, .t 40, .t 41], none, [0, 1]⟩,
      ⟨(some 10), .mov, [.t 42], none, [2, 2, 0, 1, 2]⟩] false)
    (.seq
     (.seq
      (.region [⟨(some 43), .mov, [.t 10], none, []⟩,
        ⟨(some 44), (.bin .neq), [.t 43, .c (.int .i64 0)], none, [0]⟩] false)
      (.cond (.t 44)
       (.seq
        (.region [⟨(some 45), .mov, [.t 8], none, []⟩,
          ⟨(some 46), .mov, [.t 10], none, []⟩,
          ⟨(some 47), (.bin .eql), [.t 45, .t 46], none, [0, 1]⟩,
          ⟨(some 48), .mov, [.t 47], none, [2]⟩,
          ⟨(some 49), .mov, [.t 9], (some (48, true)), [3]⟩,
          ⟨(some 50), .mov, [.t 10], (some (48, true)), [3]⟩,
          ⟨(some 51), (.bin .eql), [.t 49, .t 50], (some (48, true)), [4, 5, 3]⟩,
          ⟨(some 52), .pick, [.t 48, .t 51, .c (.bool false)], none, [3, 6]⟩,
          ⟨(some 53), .mov, [.t 52], none, [7, 3]⟩,
          ⟨(some 54), (.load true 5), [.t 7], (some (53, true)), [8]⟩,
          ⟨(some 55), (.build [(.imm (.slc 1 [])), (.imm (.int .i64 0)), (.imm (.int .i64 0)), (.imm (.int .i64 0)), (.imm (.int .i64 0))] []), [], (some (53, true)), [8]⟩,
          ⟨(some 56), .call, [.f 36, .t 54, .t 55], (some (53, true)), [9, 10, 8, 8]⟩,
          ⟨(some 57), .pick, [.t 53, .t 56, .c (.bool false)], none, [8, 11]⟩,
          ⟨(some 6), .mov, [.t 57], none, [12, 11, 0, 1, 2, 3, 4, 5, 6, 7, 8, 9, 10, 11, 12]⟩] false)
        .ret)
       .skip))
     (.keep [3, 4, 5, 7, 8, 9] [3, 4, 5, 7] b6k3)))))
def b6k5 : DCode :=
 (.seq
  (.seq
   (.region [⟨(some 15), (.load true 4), [.t 4], none, []⟩,
     ⟨(some 16), .call, [.f 28, .t 15], none, [0]⟩,
     ⟨(some 17), (.un .not), [.t 16], none, [1]⟩,
     ⟨(some 18), .mov, [.t 17], none, [2, 1]⟩,
     ⟨(some 19), (.load true 7), [.t 5], (some (18, false)), [3]⟩,
     ⟨(some 20), .call, [.f 29, .t 19], (some (18, false)), [4, 3, 3]⟩,
     ⟨(some 21), (.un .not), [.t 20], (some (18, false)), [5, 3]⟩,
     ⟨(some 22), .pick, [.t 18, .c (.bool true), .t 21], none, [3, 6]⟩] false)
   (.cond (.t 22)
    (.seq
     (.region [⟨(some 6), .mov, [.c (.bool true)], none, []⟩] false)
     .ret)
    .skip))
  (.keep [3, 4, 5] [3, 4, 5] b6k4))
def b6 : DCode :=
 (.seq
  (.region [⟨(some 3), .box, [.t 0], none, []⟩,
    ⟨(some 4), .box, [.t 1], none, []⟩,
    ⟨(some 5), .box, [.t 2], none, []⟩,
    ⟨(some 6), .mov, [.c (.bool false)], none, []⟩] false)
  (.seq
   (.seq
    (.region [⟨(some 13), .call, [.f 15], none, []⟩,
      ⟨(some 14), (.un .not), [.t 13], none, [0]⟩] false)
    (.cond (.t 14)
     (.seq
      (.region [⟨(some 6), .mov, [.c (.bool false)], none, []⟩] false)
      .ret)
     .skip))
   (.keep [3, 4, 5] [3, 4, 5] b6k5)))
def d6 : DFn := ⟨3, 102, [.tmp 6], b6⟩
theorem body6 : d6.body = b6 := rfl
theorem res6 : d6.res = [.tmp 6] := rfl
theorem k6 : chkFn Try.prog Try.f6 d6 = true := by kernel_rfl

end Go.DI

/- Contracts: witnesses, of the program and of the reference. No condition. -/
set_option linter.unusedSimpArgs false
set_option maxRecDepth 20000
namespace Go.DI
open Go.Proofs Go.RowKit Sg

theorem loads_ne {p : Pl} {o : List Int} (hp : PlanOk p) : loadsP p o ≠ [] := by
  intro h
  have h1 := loadsF_length (p := p) (o := o) p.ticks.toNat 0 p.load
  have h2 := hp.ticks
  unfold loadsP at h
  rw [h] at h1
  simp at h1
  omega

/-- The error of a witness for a valid plan. -/
def witE (r : Ru) (p : Pl) (w : Wt) : Int :=
  fstE (orderE p w.ord) (fstE (stateErr w.st) (fstE (fricErr r w.k) (if highL r w.st (loadsP p w.ord) w.k = w.lev then 0 else 19)))
def chkW (r : Ru) (p : Pl) (w : Wt) : Int := fstE (planEr r p).2 (witE r p w)

theorem s_CheckWitness {r : Ru} {p : Pl} {w : Wt} (hl : p.ch.length ≤ 1000000000) : Contract Try.prog 33 [ruI r, spI p, swI w] (.int .i64 (chkW r p w)) := by
  refine contract_run Try.func33 k33 rfl ?_
  simp only [body33, b33, res33, b33k0, b33k1, ruI, ssI, sbI, spI, swI, scI, stI, srI, saI, snI, ↓reduceIte, reduceCtorEq, Nat.reduceEqDiff, Nat.reduceAdd, Nat.reduceMul, Nat.reduceSub, Nat.reduceLeDiff, Nat.reduceBEq, Int.reduceToNat, Int.reduceLE, Int.reduceLT, Int.reduceEq, Int.reduceNe, di0, di1, di2, di3, di4, di5, di6, di7, di8, di9, postX_ret, postX_normal, ex_some]
  refine calls_of (s_open hl) ?_; simp only [ruI, ssI, sbI, spI, swI, scI, stI, srI, saI, snI, res33, b33k0, b33k1, ↓reduceIte, reduceCtorEq, Nat.reduceEqDiff, Nat.reduceAdd, Nat.reduceMul, Nat.reduceSub, Nat.reduceLeDiff, Nat.reduceBEq, Int.reduceToNat, Int.reduceLE, Int.reduceLT, Int.reduceEq, Int.reduceNe, di0, di1, di2, di3, di4, di5, di6, di7, di8, di9, postX_ret, postX_normal, ex_some]
  unfold chkW fstE
  by_cases hE : (planEr r p).2 = 0
  case neg =>
    simp only [hE, ruI, ssI, sbI, spI, swI, scI, stI, srI, saI, snI, ↓reduceIte, reduceCtorEq, Nat.reduceEqDiff, Nat.reduceAdd, Nat.reduceMul, Nat.reduceSub, Nat.reduceLeDiff, Nat.reduceBEq, Int.reduceToNat, Int.reduceLE, Int.reduceLT, Int.reduceEq, Int.reduceNe, di0, di1, di2, di3, di4, di5, di6, di7, di8, di9, postX_ret, postX_normal, ex_some]
  obtain ⟨hr, hp⟩ := planEr_zero.1 hE
  simp only [hE, ruI, ssI, sbI, spI, swI, scI, stI, srI, saI, snI, ↓reduceIte, reduceCtorEq, Nat.reduceEqDiff, Nat.reduceAdd, Nat.reduceMul, Nat.reduceSub, Nat.reduceLeDiff, Nat.reduceBEq, Int.reduceToNat, Int.reduceLE, Int.reduceLT, Int.reduceEq, Int.reduceNe, di0, di1, di2, di3, di4, di5, di6, di7, di8, di9, postX_ret, postX_normal, ex_some]
  refine calls_of (s_orderErr hp) ?_; simp only [ruI, ssI, sbI, spI, swI, scI, stI, srI, saI, snI, res33, b33k0, b33k1, ↓reduceIte, reduceCtorEq, Nat.reduceEqDiff, Nat.reduceAdd, Nat.reduceMul, Nat.reduceSub, Nat.reduceLeDiff, Nat.reduceBEq, Int.reduceToNat, Int.reduceLE, Int.reduceLT, Int.reduceEq, Int.reduceNe, di0, di1, di2, di3, di4, di5, di6, di7, di8, di9, postX_ret, postX_normal, ex_some]
  refine calls_of s_stateErr ?_; simp only [ruI, ssI, sbI, spI, swI, scI, stI, srI, saI, snI, res33, b33k0, b33k1, ↓reduceIte, reduceCtorEq, Nat.reduceEqDiff, Nat.reduceAdd, Nat.reduceMul, Nat.reduceSub, Nat.reduceLeDiff, Nat.reduceBEq, Int.reduceToNat, Int.reduceLE, Int.reduceLT, Int.reduceEq, Int.reduceNe, di0, di1, di2, di3, di4, di5, di6, di7, di8, di9, postX_ret, postX_normal, ex_some]
  refine calls_of s_fricErr ?_; simp only [ruI, ssI, sbI, spI, swI, scI, stI, srI, saI, snI, res33, b33k0, b33k1, ↓reduceIte, reduceCtorEq, Nat.reduceEqDiff, Nat.reduceAdd, Nat.reduceMul, Nat.reduceSub, Nat.reduceLeDiff, Nat.reduceBEq, Int.reduceToNat, Int.reduceLE, Int.reduceLT, Int.reduceEq, Int.reduceNe, di0, di1, di2, di3, di4, di5, di6, di7, di8, di9, postX_ret, postX_normal, ex_some]
  refine calls_of (s_first (l := [orderE p w.ord, stateErr w.st, fricErr r w.k]) (by simp)) ?_; simp only [ruI, ssI, sbI, spI, swI, scI, stI, srI, saI, snI, res33, b33k0, b33k1, ↓reduceIte, reduceCtorEq, Nat.reduceEqDiff, Nat.reduceAdd, Nat.reduceMul, Nat.reduceSub, Nat.reduceLeDiff, Nat.reduceBEq, Int.reduceToNat, Int.reduceLE, Int.reduceLT, Int.reduceEq, Int.reduceNe, di0, di1, di2, di3, di4, di5, di6, di7, di8, di9, postX_ret, postX_normal, ex_some]
  rw [firstNZ_three]
  unfold witE
  by_cases h : fstE (orderE p w.ord) (fstE (stateErr w.st) (fricErr r w.k)) = 0
  case neg =>
    simp only [h, ruI, ssI, sbI, spI, swI, scI, stI, srI, saI, snI, ↓reduceIte, reduceCtorEq, Nat.reduceEqDiff, Nat.reduceAdd, Nat.reduceMul, Nat.reduceSub, Nat.reduceLeDiff, Nat.reduceBEq, Int.reduceToNat, Int.reduceLE, Int.reduceLT, Int.reduceEq, Int.reduceNe, di0, di1, di2, di3, di4, di5, di6, di7, di8, di9, postX_ret, postX_normal, ex_some]
    unfold fstE at h ⊢
    congr 2
    by_cases h1 : orderE p w.ord = 0
    · rw [if_pos h1, if_pos h1] at *
      by_cases h2 : stateErr w.st = 0
      · rw [if_pos h2, if_pos h2] at *
        rw [if_neg h]
      · rw [if_neg h2, if_neg h2]
    · rw [if_neg h1, if_neg h1]
  simp only [h, ruI, ssI, sbI, spI, swI, scI, stI, srI, saI, snI, ↓reduceIte, reduceCtorEq, Nat.reduceEqDiff, Nat.reduceAdd, Nat.reduceMul, Nat.reduceSub, Nat.reduceLeDiff, Nat.reduceBEq, Int.reduceToNat, Int.reduceLE, Int.reduceLT, Int.reduceEq, Int.reduceNe, di0, di1, di2, di3, di4, di5, di6, di7, di8, di9, postX_ret, postX_normal, ex_some]
  rw [fstE_zero, fstE_zero] at h
  obtain ⟨h1, h2, h3⟩ := h
  obtain ⟨k1, k2, k3⟩ := orderE_zero h1
  have hix := orderE_idx hp k1 k2
  have hst := stateErr_zero.1 h2
  have hk := fricErr_zero.1 h3
  have g1 := hr.lo; have g2 := hr.hi
  refine calls_of (s_loads (r := r) hp hix) ?_; simp only [ruI, ssI, sbI, spI, swI, scI, stI, srI, saI, snI, res33, b33k0, b33k1, ↓reduceIte, reduceCtorEq, Nat.reduceEqDiff, Nat.reduceAdd, Nat.reduceMul, Nat.reduceSub, Nat.reduceLeDiff, Nat.reduceBEq, Int.reduceToNat, Int.reduceLE, Int.reduceLT, Int.reduceEq, Int.reduceNe, di0, di1, di2, di3, di4, di5, di6, di7, di8, di9, postX_ret, postX_normal, ex_some]
  refine calls_of (s_highest (s := w.st) (k := w.k) hr (by omega) (loads_ok hp k3) (by omega) (loads_ne hp)) ?_; simp only [ruI, ssI, sbI, spI, swI, scI, stI, srI, saI, snI, res33, b33k0, b33k1, ↓reduceIte, reduceCtorEq, Nat.reduceEqDiff, Nat.reduceAdd, Nat.reduceMul, Nat.reduceSub, Nat.reduceLeDiff, Nat.reduceBEq, Int.reduceToNat, Int.reduceLE, Int.reduceLT, Int.reduceEq, Int.reduceNe, di0, di1, di2, di3, di4, di5, di6, di7, di8, di9, postX_ret, postX_normal, ex_some]
  refine calls_of s_unless ?_; simp only [ruI, ssI, sbI, spI, swI, scI, stI, srI, saI, snI, res33, b33k0, b33k1, ↓reduceIte, reduceCtorEq, Nat.reduceEqDiff, Nat.reduceAdd, Nat.reduceMul, Nat.reduceSub, Nat.reduceLeDiff, Nat.reduceBEq, Int.reduceToNat, Int.reduceLE, Int.reduceLT, Int.reduceEq, Int.reduceNe, di0, di1, di2, di3, di4, di5, di6, di7, di8, di9, postX_ret, postX_normal, ex_some]
  unfold fstE
  rw [if_pos h1, if_pos h2, if_pos h3]

theorem r_CopyStates {l : List Sta} (hl : l.length ≤ 1000000000) : Contract Try.prog 32 [.slc 2 (l.map ssI)] (.slc 2 (l.map ssI)) := by
  refine contract_run Try.func32 k32 rfl ?_
  simp only [body32, b32, res32, ruI, ssI, sbI, spI, swI, scI, stI, srI, saI, snI, ↓reduceIte, reduceCtorEq, Nat.reduceEqDiff, Nat.reduceAdd, Nat.reduceMul, Nat.reduceSub, Nat.reduceLeDiff, Nat.reduceBEq, Int.reduceToNat, Int.reduceLE, Int.reduceLT, Int.reduceEq, Int.reduceNe, di0, di1, di2, di3, di4, di5, di6, di7, di8, di9, postX_ret, postX_normal, ex_some]
  omega

theorem r_CopyWitness {w : Wt} (hl : w.ord.length ≤ 1000000000) : Contract Try.prog 34 [swI w] (swI w) := by
  refine contract_run Try.func34 k34 rfl ?_
  simp only [body34, b34, res34, ruI, ssI, sbI, spI, swI, scI, stI, srI, saI, snI, ↓reduceIte, reduceCtorEq, Nat.reduceEqDiff, Nat.reduceAdd, Nat.reduceMul, Nat.reduceSub, Nat.reduceLeDiff, Nat.reduceBEq, Int.reduceToNat, Int.reduceLE, Int.reduceLT, Int.reduceEq, Int.reduceNe, di0, di1, di2, di3, di4, di5, di6, di7, di8, di9, postX_ret, postX_normal, ex_some]
  refine calls_of (c_CopyInts (a := w.ord) (by omega)) ?_; simp only [ruI, ssI, sbI, spI, swI, scI, stI, srI, saI, snI, res34, ↓reduceIte, reduceCtorEq, Nat.reduceEqDiff, Nat.reduceAdd, Nat.reduceMul, Nat.reduceSub, Nat.reduceLeDiff, Nat.reduceBEq, Int.reduceToNat, Int.reduceLE, Int.reduceLT, Int.reduceEq, Int.reduceNe, di0, di1, di2, di3, di4, di5, di6, di7, di8, di9, postX_ret, postX_normal, ex_some]

theorem r_SameWitness {v w : Wt} (hl : v.ord.length ≤ 1000000000) : Contract Try.prog 36 [swI v, swI w] (.bool (decide (v.ord = w.ord ∧ v.st = w.st ∧ v.k = w.k ∧ v.lev = w.lev))) := by
  refine contract_run Try.func36 k36 rfl ?_
  simp only [body36, b36, res36, ruI, ssI, sbI, spI, swI, scI, stI, srI, saI, snI, ↓reduceIte, reduceCtorEq, Nat.reduceEqDiff, Nat.reduceAdd, Nat.reduceMul, Nat.reduceSub, Nat.reduceLeDiff, Nat.reduceBEq, Int.reduceToNat, Int.reduceLE, Int.reduceLT, Int.reduceEq, Int.reduceNe, di0, di1, di2, di3, di4, di5, di6, di7, di8, di9, postX_ret, postX_normal, ex_some]
  refine calls_of (c_Ints (a := v.ord) (b := w.ord) (by omega)) ?_; simp only [ruI, ssI, sbI, spI, swI, scI, stI, srI, saI, snI, res36, ↓reduceIte, reduceCtorEq, Nat.reduceEqDiff, Nat.reduceAdd, Nat.reduceMul, Nat.reduceSub, Nat.reduceLeDiff, Nat.reduceBEq, Int.reduceToNat, Int.reduceLE, Int.reduceLT, Int.reduceEq, Int.reduceNe, di0, di1, di2, di3, di4, di5, di6, di7, di8, di9, postX_ret, postX_normal, ex_some]
  by_cases h1 : v.ord = w.ord
  case neg =>
    simp only [h1, ruI, ssI, sbI, spI, swI, scI, stI, srI, saI, snI, ↓reduceIte, reduceCtorEq, Nat.reduceEqDiff, Nat.reduceAdd, Nat.reduceMul, Nat.reduceSub, Nat.reduceLeDiff, Nat.reduceBEq, Int.reduceToNat, Int.reduceLE, Int.reduceLT, Int.reduceEq, Int.reduceNe, di0, di1, di2, di3, di4, di5, di6, di7, di8, di9, postX_ret, postX_normal, ex_some]
    simp
  simp only [h1, ruI, ssI, sbI, spI, swI, scI, stI, srI, saI, snI, ↓reduceIte, reduceCtorEq, Nat.reduceEqDiff, Nat.reduceAdd, Nat.reduceMul, Nat.reduceSub, Nat.reduceLeDiff, Nat.reduceBEq, Int.reduceToNat, Int.reduceLE, Int.reduceLT, Int.reduceEq, Int.reduceNe, di0, di1, di2, di3, di4, di5, di6, di7, di8, di9, postX_ret, postX_normal, ex_some]
  have e : (v.st.L = w.st.L ∧ v.st.F = w.st.F) ↔ v.st = w.st := by
    constructor
    · intro h; cases hv : v.st; cases hw : w.st; rw [hv, hw] at h; simpa using h
    · intro h; rw [h]; exact ⟨rfl, rfl⟩
  simp only [e]
  by_cases h2 : v.st = w.st
  case neg => simp only [h2, ruI, ssI, sbI, spI, swI, scI, stI, srI, saI, snI, ↓reduceIte, reduceCtorEq, Nat.reduceEqDiff, Nat.reduceAdd, Nat.reduceMul, Nat.reduceSub, Nat.reduceLeDiff, Nat.reduceBEq, Int.reduceToNat, Int.reduceLE, Int.reduceLT, Int.reduceEq, Int.reduceNe, di0, di1, di2, di3, di4, di5, di6, di7, di8, di9, postX_ret, postX_normal, ex_some]; simp
  simp only [h2, ruI, ssI, sbI, spI, swI, scI, stI, srI, saI, snI, ↓reduceIte, reduceCtorEq, Nat.reduceEqDiff, Nat.reduceAdd, Nat.reduceMul, Nat.reduceSub, Nat.reduceLeDiff, Nat.reduceBEq, Int.reduceToNat, Int.reduceLE, Int.reduceLT, Int.reduceEq, Int.reduceNe, di0, di1, di2, di3, di4, di5, di6, di7, di8, di9, postX_ret, postX_normal, ex_some]
  by_cases h4 : v.k = w.k
  case neg => simp only [h4, ruI, ssI, sbI, spI, swI, scI, stI, srI, saI, snI, ↓reduceIte, reduceCtorEq, Nat.reduceEqDiff, Nat.reduceAdd, Nat.reduceMul, Nat.reduceSub, Nat.reduceLeDiff, Nat.reduceBEq, Int.reduceToNat, Int.reduceLE, Int.reduceLT, Int.reduceEq, Int.reduceNe, di0, di1, di2, di3, di4, di5, di6, di7, di8, di9, postX_ret, postX_normal, ex_some]; simp
  simp only [h4, ruI, ssI, sbI, spI, swI, scI, stI, srI, saI, snI, ↓reduceIte, reduceCtorEq, Nat.reduceEqDiff, Nat.reduceAdd, Nat.reduceMul, Nat.reduceSub, Nat.reduceLeDiff, Nat.reduceBEq, Int.reduceToNat, Int.reduceLE, Int.reduceLT, Int.reduceEq, Int.reduceNe, di0, di1, di2, di3, di4, di5, di6, di7, di8, di9, postX_ret, postX_normal, ex_some]

theorem maxL_eq {l : List Int} (h : l ≠ []) : maxL l (l.getD 0 0) = maxL (l.drop 1) (l.getD 0 0) := by
  cases l with
  | nil => exact (h rfl).elim
  | cons x r =>
    show maxL r (max x x) = maxL r x
    rw [Int.max_self]

theorem r_Highest {r : Ru} {s : Sta} {ls : List Int} {k : Int} (hr : Sg.Good r) (hs : (-1000000 ≤ s.L ∧ s.L ≤ 1000000) ∧ -1000 ≤ s.F ∧ s.F ≤ 1000) (hl : Loads ls) (hk : 0 ≤ k ∧ k ≤ 100) (h0 : ls ≠ []) :
    Contract Try.prog 107 [ruI r, ssI s, snI ls, .int .i64 k] (.int .i64 (highL r s ls k)) := by
  have hlen := runL_length (r := r) (k := k) ls s
  have hl1 := hl.1
  have hne : (runL r k s ls).map (·.L) ≠ [] := by
    intro h
    rw [List.map_eq_nil_iff] at h
    rw [h] at hlen
    exact h0 (List.length_eq_zero_iff.1 hlen.symm)
  have hpos : 0 < (runL r k s ls).length := by
    have := List.length_pos_iff.2 hne
    simpa using this
  have hhi : highL r s ls k = maxL ((runL r k s ls).map (·.L)) (((runL r k s ls).map (·.L)).getD 0 0) := by
    unfold highL
    rw [maxL_eq hne]
  rw [hhi]
  refine contract_run Try.func107 k107 rfl ?_
  simp only [body107, b107, res107, b107k0, b107k1, ruI, ssI, sbI, spI, swI, scI, stI, srI, saI, snI, ↓reduceIte, reduceCtorEq, Nat.reduceEqDiff, Nat.reduceAdd, Nat.reduceMul, Nat.reduceSub, Nat.reduceLeDiff, Nat.reduceBEq, Int.reduceToNat, Int.reduceLE, Int.reduceLT, Int.reduceEq, Int.reduceNe, di0, di1, di2, di3, di4, di5, di6, di7, di8, di9, postX_ret, postX_normal, ex_some]
  refine calls_of (r_Run hr hs hl hk) ?_; simp only [ruI, ssI, sbI, spI, swI, scI, stI, srI, saI, snI, res107, b107k0, b107k1, ↓reduceIte, reduceCtorEq, Nat.reduceEqDiff, Nat.reduceAdd, Nat.reduceMul, Nat.reduceSub, Nat.reduceLeDiff, Nat.reduceBEq, Int.reduceToNat, Int.reduceLE, Int.reduceLT, Int.reduceEq, Int.reduceNe, di0, di1, di2, di3, di4, di5, di6, di7, di8, di9, postX_ret, postX_normal, ex_some]
  generalize runL r k s ls = R at hpos hlen
  have hg0 : (R.getD 0 default).L = (R.map (·.L)).getD 0 0 := by
    cases R with
    | nil => simp at hpos
    | cons a b => rfl
  repeat (refine And.intro (by omega) ?_)
  rw [hg0]
  refine loop_keep (α := Nat × Int) rfl (fun q => R.length - q.1) (fun q => q.1 ≤ R.length ∧ maxL ((R.map (·.L)).drop q.1) q.2 = maxL (R.map (·.L)) ((R.map (·.L)).getD 0 0))
    (fun q => [(9, .imm (.slc 2 (R.map ssI))), (10, .imm (.int .i64 q.2)), (11, .imm (.int .i64 q.1))]) (fun _ => []) (0, (R.map (·.L)).getD 0 0) ⟨Nat.zero_le _, rfl⟩ (by simp only [ruI, ssI, sbI, spI, swI, scI, stI, srI, saI, snI, ↓reduceIte, reduceCtorEq, Nat.reduceEqDiff, Nat.reduceAdd, Nat.reduceMul, Nat.reduceSub, Nat.reduceLeDiff, Nat.reduceBEq, Int.reduceToNat, Int.reduceLE, Int.reduceLT, Int.reduceEq, Int.reduceNe, di0, di1, di2, di3, di4, di5, di6, di7, di8, di9, postX_ret, postX_normal, ex_some] <;> rfl) ?_
  rintro ⟨i, m⟩ ⟨hi, he⟩ ih
  dsimp only at hi he ⊢
  simp only [res107, b107k0, b107k1, ruI, ssI, sbI, spI, swI, scI, stI, srI, saI, snI, ↓reduceIte, reduceCtorEq, Nat.reduceEqDiff, Nat.reduceAdd, Nat.reduceMul, Nat.reduceSub, Nat.reduceLeDiff, Nat.reduceBEq, Int.reduceToNat, Int.reduceLE, Int.reduceLT, Int.reduceEq, Int.reduceNe, di0, di1, di2, di3, di4, di5, di6, di7, di8, di9, postX_ret, postX_normal, ex_some]
  split
  · rename_i h
    have hlt : i < R.length := by omega
    repeat (refine And.intro (by omega) ?_)
    have hd : (R.map (·.L)).drop i = (R.getD i default).L :: (R.map (·.L)).drop (i + 1) := by
      rw [List.drop_eq_getElem_cons (by simpa using hlt), List.getElem_map, List.getD_eq_getElem?_getD]
      simp [hlt]
    rw [hd] at he
    rw [wrap64 (by omega) (by omega)]
    refine ih (i + 1, max m (R.getD i default).L) _ _ (by dsimp only; omega) ⟨by dsimp only; omega, he⟩ (by simp only [ruI, ssI, sbI, spI, swI, scI, stI, srI, saI, snI, ↓reduceIte, reduceCtorEq, Nat.reduceEqDiff, Nat.reduceAdd, Nat.reduceMul, Nat.reduceSub, Nat.reduceLeDiff, Nat.reduceBEq, Int.reduceToNat, Int.reduceLE, Int.reduceLT, Int.reduceEq, Int.reduceNe, di0, di1, di2, di3, di4, di5, di6, di7, di8, di9, postX_ret, postX_normal, ex_some] <;> rfl)
  · rename_i h
    have : i = R.length := by omega
    subst this
    rw [← he, List.drop_of_length_le (by simp)]
    rfl

theorem r_WitnessErr {r : Ru} {p : Pl} {w : Wt} (hr : Sg.Good r) (hp : PlanOk p) : Contract Try.prog 37 [ruI r, spI p, swI w] (.int .i64 (witE r p w)) := by
  have hpl := hp.len
  refine contract_run Try.func37 k37 rfl ?_
  simp only [body37, b37, res37, b37k0, b37k1, b37k2, b37k3, ruI, ssI, sbI, spI, swI, scI, stI, srI, saI, snI, ↓reduceIte, reduceCtorEq, Nat.reduceEqDiff, Nat.reduceAdd, Nat.reduceMul, Nat.reduceSub, Nat.reduceLeDiff, Nat.reduceBEq, Int.reduceToNat, Int.reduceLE, Int.reduceLT, Int.reduceEq, Int.reduceNe, di0, di1, di2, di3, di4, di5, di6, di7, di8, di9, postX_ret, postX_normal, ex_some]
  refine calls_of (r_OrderErr (o := w.ord) hp) ?_; simp only [ruI, ssI, sbI, spI, swI, scI, stI, srI, saI, snI, res37, b37k0, b37k1, b37k2, b37k3, ↓reduceIte, reduceCtorEq, Nat.reduceEqDiff, Nat.reduceAdd, Nat.reduceMul, Nat.reduceSub, Nat.reduceLeDiff, Nat.reduceBEq, Int.reduceToNat, Int.reduceLE, Int.reduceLT, Int.reduceEq, Int.reduceNe, di0, di1, di2, di3, di4, di5, di6, di7, di8, di9, postX_ret, postX_normal, ex_some]
  unfold witE
  by_cases h1 : orderE p w.ord = 0
  case neg =>
    unfold fstE
    simp only [h1, ruI, ssI, sbI, spI, swI, scI, stI, srI, saI, snI, ↓reduceIte, reduceCtorEq, Nat.reduceEqDiff, Nat.reduceAdd, Nat.reduceMul, Nat.reduceSub, Nat.reduceLeDiff, Nat.reduceBEq, Int.reduceToNat, Int.reduceLE, Int.reduceLT, Int.reduceEq, Int.reduceNe, di0, di1, di2, di3, di4, di5, di6, di7, di8, di9, postX_ret, postX_normal, ex_some]
  rw [show fstE (orderE p w.ord) _ = _ from if_pos h1]
  simp only [h1, ruI, ssI, sbI, spI, swI, scI, stI, srI, saI, snI, ↓reduceIte, reduceCtorEq, Nat.reduceEqDiff, Nat.reduceAdd, Nat.reduceMul, Nat.reduceSub, Nat.reduceLeDiff, Nat.reduceBEq, Int.reduceToNat, Int.reduceLE, Int.reduceLT, Int.reduceEq, Int.reduceNe, di0, di1, di2, di3, di4, di5, di6, di7, di8, di9, postX_ret, postX_normal, ex_some]
  refine calls_of r_StateErr ?_; simp only [ruI, ssI, sbI, spI, swI, scI, stI, srI, saI, snI, res37, b37k0, b37k1, b37k2, b37k3, ↓reduceIte, reduceCtorEq, Nat.reduceEqDiff, Nat.reduceAdd, Nat.reduceMul, Nat.reduceSub, Nat.reduceLeDiff, Nat.reduceBEq, Int.reduceToNat, Int.reduceLE, Int.reduceLT, Int.reduceEq, Int.reduceNe, di0, di1, di2, di3, di4, di5, di6, di7, di8, di9, postX_ret, postX_normal, ex_some]
  by_cases h2 : stateErr w.st = 0
  case neg =>
    unfold fstE
    simp only [h2, ruI, ssI, sbI, spI, swI, scI, stI, srI, saI, snI, ↓reduceIte, reduceCtorEq, Nat.reduceEqDiff, Nat.reduceAdd, Nat.reduceMul, Nat.reduceSub, Nat.reduceLeDiff, Nat.reduceBEq, Int.reduceToNat, Int.reduceLE, Int.reduceLT, Int.reduceEq, Int.reduceNe, di0, di1, di2, di3, di4, di5, di6, di7, di8, di9, postX_ret, postX_normal, ex_some]
  rw [show fstE (stateErr w.st) _ = _ from if_pos h2]
  simp only [h2, ruI, ssI, sbI, spI, swI, scI, stI, srI, saI, snI, ↓reduceIte, reduceCtorEq, Nat.reduceEqDiff, Nat.reduceAdd, Nat.reduceMul, Nat.reduceSub, Nat.reduceLeDiff, Nat.reduceBEq, Int.reduceToNat, Int.reduceLE, Int.reduceLT, Int.reduceEq, Int.reduceNe, di0, di1, di2, di3, di4, di5, di6, di7, di8, di9, postX_ret, postX_normal, ex_some]
  refine calls_of r_FrictionErr ?_; simp only [ruI, ssI, sbI, spI, swI, scI, stI, srI, saI, snI, res37, b37k0, b37k1, b37k2, b37k3, ↓reduceIte, reduceCtorEq, Nat.reduceEqDiff, Nat.reduceAdd, Nat.reduceMul, Nat.reduceSub, Nat.reduceLeDiff, Nat.reduceBEq, Int.reduceToNat, Int.reduceLE, Int.reduceLT, Int.reduceEq, Int.reduceNe, di0, di1, di2, di3, di4, di5, di6, di7, di8, di9, postX_ret, postX_normal, ex_some]
  by_cases h3 : fricErr r w.k = 0
  case neg =>
    unfold fstE
    simp only [h3, ruI, ssI, sbI, spI, swI, scI, stI, srI, saI, snI, ↓reduceIte, reduceCtorEq, Nat.reduceEqDiff, Nat.reduceAdd, Nat.reduceMul, Nat.reduceSub, Nat.reduceLeDiff, Nat.reduceBEq, Int.reduceToNat, Int.reduceLE, Int.reduceLT, Int.reduceEq, Int.reduceNe, di0, di1, di2, di3, di4, di5, di6, di7, di8, di9, postX_ret, postX_normal, ex_some]
  rw [show fstE (fricErr r w.k) _ = _ from if_pos h3]
  simp only [h3, ruI, ssI, sbI, spI, swI, scI, stI, srI, saI, snI, ↓reduceIte, reduceCtorEq, Nat.reduceEqDiff, Nat.reduceAdd, Nat.reduceMul, Nat.reduceSub, Nat.reduceLeDiff, Nat.reduceBEq, Int.reduceToNat, Int.reduceLE, Int.reduceLT, Int.reduceEq, Int.reduceNe, di0, di1, di2, di3, di4, di5, di6, di7, di8, di9, postX_ret, postX_normal, ex_some]
  obtain ⟨k1, k2, k3⟩ := orderE_zero h1
  have hix := orderE_idx hp k1 k2
  have hst := stateErr_zero.1 h2
  have hk := fricErr_zero.1 h3
  have g1 := hr.lo; have g2 := hr.hi
  refine calls_of (r_Loads hp hix (by omega)) ?_; simp only [ruI, ssI, sbI, spI, swI, scI, stI, srI, saI, snI, res37, b37k0, b37k1, b37k2, b37k3, ↓reduceIte, reduceCtorEq, Nat.reduceEqDiff, Nat.reduceAdd, Nat.reduceMul, Nat.reduceSub, Nat.reduceLeDiff, Nat.reduceBEq, Int.reduceToNat, Int.reduceLE, Int.reduceLT, Int.reduceEq, Int.reduceNe, di0, di1, di2, di3, di4, di5, di6, di7, di8, di9, postX_ret, postX_normal, ex_some]
  refine calls_of (r_Highest (s := w.st) (k := w.k) hr (by omega) (loads_ok hp k3) (by omega) (loads_ne hp)) ?_; simp only [ruI, ssI, sbI, spI, swI, scI, stI, srI, saI, snI, res37, b37k0, b37k1, b37k2, b37k3, ↓reduceIte, reduceCtorEq, Nat.reduceEqDiff, Nat.reduceAdd, Nat.reduceMul, Nat.reduceSub, Nat.reduceLeDiff, Nat.reduceBEq, Int.reduceToNat, Int.reduceLE, Int.reduceLT, Int.reduceEq, Int.reduceNe, di0, di1, di2, di3, di4, di5, di6, di7, di8, di9, postX_ret, postX_normal, ex_some]
  by_cases h4 : highL r w.st (loadsP p w.ord) w.k = w.lev
  · simp only [h4, ruI, ssI, sbI, spI, swI, scI, stI, srI, saI, snI, ↓reduceIte, reduceCtorEq, Nat.reduceEqDiff, Nat.reduceAdd, Nat.reduceMul, Nat.reduceSub, Nat.reduceLeDiff, Nat.reduceBEq, Int.reduceToNat, Int.reduceLE, Int.reduceLT, Int.reduceEq, Int.reduceNe, di0, di1, di2, di3, di4, di5, di6, di7, di8, di9, postX_ret, postX_normal, ex_some]
  · simp only [h4, ruI, ssI, sbI, spI, swI, scI, stI, srI, saI, snI, ↓reduceIte, reduceCtorEq, Nat.reduceEqDiff, Nat.reduceAdd, Nat.reduceMul, Nat.reduceSub, Nat.reduceLeDiff, Nat.reduceBEq, Int.reduceToNat, Int.reduceLE, Int.reduceLT, Int.reduceEq, Int.reduceNe, di0, di1, di2, di3, di4, di5, di6, di7, di8, di9, postX_ret, postX_normal, ex_some]

/-- The error of starts. -/
def startsE (ss : List Sta) : Int := fstE (if 0 < ss.length then 0 else 10) (fstE (if ss.length ≤ 40 then 0 else 8) (if (ss.any fun s => !decide (stateErr s = 0)) = true then 2 else 0))
theorem stateErr_two {s : Sta} (h : ¬ stateErr s = 0) : stateErr s = 2 := by
  unfold stateErr at h ⊢
  split
  · rename_i k; rw [if_pos k] at h; exact (h rfl).elim
  · rfl

theorem r_StartsErr {ss : List Sta} (hn : ss.length ≤ 1000000000) : Contract Try.prog 38 [.slc 2 (ss.map ssI)] (.int .i64 (startsE ss)) := by
  refine contract_run Try.func38 k38 rfl ?_
  simp only [body38, b38, res38, b38k0, b38k1, b38k2, b38k3, b38k4, ruI, ssI, sbI, spI, swI, scI, stI, srI, saI, snI, ↓reduceIte, reduceCtorEq, Nat.reduceEqDiff, Nat.reduceAdd, Nat.reduceMul, Nat.reduceSub, Nat.reduceLeDiff, Nat.reduceBEq, Int.reduceToNat, Int.reduceLE, Int.reduceLT, Int.reduceEq, Int.reduceNe, di0, di1, di2, di3, di4, di5, di6, di7, di8, di9, postX_ret, postX_normal, ex_some]
  unfold startsE fstE
  by_cases h1 : ss.length = 0
  · rw [if_pos (by omega), if_neg (show ¬ 0 < ss.length by omega)]
    rfl
  rw [if_neg (by omega), if_pos (show 0 < ss.length by omega), if_pos rfl]
  by_cases h2 : ss.length ≤ 40
  case neg =>
    rw [if_pos (by omega), if_neg h2]
    rfl
  rw [if_neg (by omega), if_pos h2, if_pos rfl]
  refine loop_keep (α := Nat) rfl (fun i => ss.length - i) (fun i => i ≤ ss.length ∧ (ss.any fun s => !decide (stateErr s = 0)) = ((ss.drop i).any fun s => !decide (stateErr s = 0)))
    (fun i => [(0, .imm (.slc 2 (ss.map ssI))), (3, .imm (.int .i64 i))]) (fun _ => []) 0 ⟨Nat.zero_le _, rfl⟩ (by simp only [ruI, ssI, sbI, spI, swI, scI, stI, srI, saI, snI, ↓reduceIte, reduceCtorEq, Nat.reduceEqDiff, Nat.reduceAdd, Nat.reduceMul, Nat.reduceSub, Nat.reduceLeDiff, Nat.reduceBEq, Int.reduceToNat, Int.reduceLE, Int.reduceLT, Int.reduceEq, Int.reduceNe, di0, di1, di2, di3, di4, di5, di6, di7, di8, di9, postX_ret, postX_normal, ex_some] <;> rfl) ?_
  intro i ⟨hi, he⟩ ih
  simp only [res38, b38k0, b38k1, b38k2, b38k3, b38k4, ruI, ssI, sbI, spI, swI, scI, stI, srI, saI, snI, ↓reduceIte, reduceCtorEq, Nat.reduceEqDiff, Nat.reduceAdd, Nat.reduceMul, Nat.reduceSub, Nat.reduceLeDiff, Nat.reduceBEq, Int.reduceToNat, Int.reduceLE, Int.reduceLT, Int.reduceEq, Int.reduceNe, di0, di1, di2, di3, di4, di5, di6, di7, di8, di9, postX_ret, postX_normal, ex_some]
  split
  case isFalse h =>
    rw [List.drop_of_length_le (by omega), List.any_nil] at he
    rw [he]
    rfl
  rename_i h
  have hlt : i < ss.length := by omega
  have hd : ss.drop i = ss.getD i default :: ss.drop (i + 1) := by
    rw [List.drop_eq_getElem_cons hlt, List.getD_eq_getElem?_getD]
    simp [hlt]
  rw [hd, List.any_cons] at he
  repeat (refine And.intro (by omega) ?_)
  generalize ss.getD i default = s at he
  refine calls_of (r_StateErr (s := s)) ?_
  simp only [res38, b38k0, b38k1, b38k2, b38k3, b38k4, ruI, ssI, sbI, spI, swI, scI, stI, srI, saI, snI, ↓reduceIte, reduceCtorEq, Nat.reduceEqDiff, Nat.reduceAdd, Nat.reduceMul, Nat.reduceSub, Nat.reduceLeDiff, Nat.reduceBEq, Int.reduceToNat, Int.reduceLE, Int.reduceLT, Int.reduceEq, Int.reduceNe, di0, di1, di2, di3, di4, di5, di6, di7, di8, di9, postX_ret, postX_normal, ex_some]
  by_cases h3 : stateErr s = 0
  · simp only [h3, ruI, ssI, sbI, spI, swI, scI, stI, srI, saI, snI, ↓reduceIte, reduceCtorEq, Nat.reduceEqDiff, Nat.reduceAdd, Nat.reduceMul, Nat.reduceSub, Nat.reduceLeDiff, Nat.reduceBEq, Int.reduceToNat, Int.reduceLE, Int.reduceLT, Int.reduceEq, Int.reduceNe, di0, di1, di2, di3, di4, di5, di6, di7, di8, di9, postX_ret, postX_normal, ex_some]
    rw [wrap64 (by omega) (by omega)]
    exact ih (i + 1) _ _ (by omega) ⟨by omega, by rw [he]; simp [h3]⟩ (by simp only [ruI, ssI, sbI, spI, swI, scI, stI, srI, saI, snI, ↓reduceIte, reduceCtorEq, Nat.reduceEqDiff, Nat.reduceAdd, Nat.reduceMul, Nat.reduceSub, Nat.reduceLeDiff, Nat.reduceBEq, Int.reduceToNat, Int.reduceLE, Int.reduceLT, Int.reduceEq, Int.reduceNe, di0, di1, di2, di3, di4, di5, di6, di7, di8, di9, postX_ret, postX_normal, ex_some] <;> rfl)
  · simp only [h3, ruI, ssI, sbI, spI, swI, scI, stI, srI, saI, snI, ↓reduceIte, reduceCtorEq, Nat.reduceEqDiff, Nat.reduceAdd, Nat.reduceMul, Nat.reduceSub, Nat.reduceLeDiff, Nat.reduceBEq, Int.reduceToNat, Int.reduceLE, Int.reduceLT, Int.reduceEq, Int.reduceNe, di0, di1, di2, di3, di4, di5, di6, di7, di8, di9, postX_ret, postX_normal, ex_some]
    rw [he]
    simp [h3, stateErr_two h3]

def wZ : Wt := ⟨[], ⟨0, 0⟩, 0, 0⟩
def wV : Option Wt → Wt | none => wZ | some w => w
def wCells (w : Wt) : List DV := [.imm (snI w.ord), .imm (.int .i64 w.st.L), .imm (.int .i64 w.st.F), .imm (.int .i64 w.k), .imm (.int .i64 w.lev)]
def wR (r : Ru) (p : Pl) (y : Option Wt) : List (Nat × Res) :=
  [(3, .box [.imm (.int .i64 r.I), .imm (.int .i64 r.A), .imm (.int .i64 r.lo), .imm (.int .i64 r.hi), .imm (.int .i64 r.T)]), (4, .box [.imm (.int .i64 p.load), .imm (snI p.ch), .imm (.int .i64 p.wait), .imm (.int .i64 p.ticks)]),
    (6, .box (wCells wZ)), (8, .box (wCells (wV y)))]

theorem r_Worst {r : Ru} {p : Pl} {ss : List Sta} (hr : Sg.Good r) (hp : PlanOk p) (hn : ss.length ≤ 1000000000) (hss : ∀ s ∈ ss, stateErr s = 0) : Contract Try.prog 39 [ruI r, spI p, .slc 2 (ss.map ssI)] (.tup [swI (wV (worstP r p ss)), .bool (worstP r p ss).isSome]) := by
  have holen := orders_length hp
  have hpl := hp.len
  have k1 := hr.lo; have k2 := hr.le; have k3 := hr.hi
  refine contract_run Try.func39 k39 rfl ?_
  simp only [body39, b39, res39, b39k0, b39k1, b39k2, b39k3, b39k4, b39k5, b39k6, ruI, ssI, sbI, spI, swI, scI, stI, srI, saI, snI, ↓reduceIte, reduceCtorEq, Nat.reduceEqDiff, Nat.reduceAdd, Nat.reduceMul, Nat.reduceSub, Nat.reduceLeDiff, Nat.reduceBEq, Int.reduceToNat, Int.reduceLE, Int.reduceLT, Int.reduceEq, Int.reduceNe, di0, di1, di2, di3, di4, di5, di6, di7, di8, di9, postX_ret, postX_normal, ex_some]
  refine calls_of (r_Orders hp) ?_; simp only [ruI, ssI, sbI, spI, swI, scI, stI, srI, saI, snI, res39, b39k0, b39k1, b39k2, b39k3, b39k4, b39k5, b39k6, ↓reduceIte, reduceCtorEq, Nat.reduceEqDiff, Nat.reduceAdd, Nat.reduceMul, Nat.reduceSub, Nat.reduceLeDiff, Nat.reduceBEq, Int.reduceToNat, Int.reduceLE, Int.reduceLT, Int.reduceEq, Int.reduceNe, di0, di1, di2, di3, di4, di5, di6, di7, di8, di9, postX_ret, postX_normal, ex_some]
  refine loop_keep (α := Nat × Option Wt) rfl (fun q => (ordersP p).length - q.1) (fun q => q.1 ≤ (ordersP p).length ∧ ((ordersP p).drop q.1).foldl (wOrd r p ss) q.2 = worstP r p ss)
    (fun q => [(2, .imm (.slc 2 (ss.map ssI))), (3, .ref 3 0), (4, .ref 4 0), (6, .ref 6 0), (8, .ref 8 0), (9, .imm (.bool q.2.isSome)), (10, .imm (.slc 1 ((ordersP p).map snI))), (11, .imm (snI [r.lo, r.hi])), (12, .imm (.int .i64 q.1))])
    (fun q => wR r p q.2) (0, none) ⟨Nat.zero_le _, rfl⟩ (by simp only [wR, wCells, wV, wZ, Option.isSome, List.map_cons, List.map_nil, ruI, ssI, sbI, spI, swI, scI, stI, srI, saI, snI, ↓reduceIte, reduceCtorEq, Nat.reduceEqDiff, Nat.reduceAdd, Nat.reduceMul, Nat.reduceSub, Nat.reduceLeDiff, Nat.reduceBEq, Int.reduceToNat, Int.reduceLE, Int.reduceLT, Int.reduceEq, Int.reduceNe, di0, di1, di2, di3, di4, di5, di6, di7, di8, di9, postX_ret, postX_normal, ex_some] <;> rfl) ?_
  rintro ⟨i, y⟩ ⟨hi, he⟩ ih
  dsimp only at hi he ⊢
  simp only [res39, b39k0, b39k1, b39k2, b39k3, b39k4, b39k5, b39k6, wR, wCells, ruI, ssI, sbI, spI, swI, scI, stI, srI, saI, snI, ↓reduceIte, reduceCtorEq, Nat.reduceEqDiff, Nat.reduceAdd, Nat.reduceMul, Nat.reduceSub, Nat.reduceLeDiff, Nat.reduceBEq, Int.reduceToNat, Int.reduceLE, Int.reduceLT, Int.reduceEq, Int.reduceNe, di0, di1, di2, di3, di4, di5, di6, di7, di8, di9, postX_ret, postX_normal, ex_some]
  split
  case isFalse h =>
    rw [List.drop_of_length_le (by omega), List.foldl_nil] at he
    subst he
    simp only [ruI, ssI, sbI, spI, swI, scI, stI, srI, saI, snI, ↓reduceIte, reduceCtorEq, Nat.reduceEqDiff, Nat.reduceAdd, Nat.reduceMul, Nat.reduceSub, Nat.reduceLeDiff, Nat.reduceBEq, Int.reduceToNat, Int.reduceLE, Int.reduceLT, Int.reduceEq, Int.reduceNe, di0, di1, di2, di3, di4, di5, di6, di7, di8, di9, postX_ret, postX_normal, ex_some]
  rename_i h
  have hlt : i < (ordersP p).length := by omega
  have hd : (ordersP p).drop i = (ordersP p).getD i default :: (ordersP p).drop (i + 1) := by
    rw [List.drop_eq_getElem_cons hlt, List.getD_eq_getElem?_getD]
    simp [hlt]
  have hmem : (ordersP p).getD i default ∈ ordersP p := by rw [List.getD_eq_getElem?_getD]; simp [hlt]
  rw [hd, List.foldl_cons] at he
  have hoi := orders_idx hp hmem
  have hlo := loads_ok hp (orders_perm hmem)
  have hol : ((ordersP p).getD i default).length ≤ 1000 := by rw [(orders_mem hmem).1]; omega
  have hso : (ordersP p).getD i default = (ordersP p).getD i [] := rfl
  refine loop_keep (α := Nat × Option Wt) rfl (fun q => ss.length - q.1) (fun q => q.1 ≤ ss.length ∧ (ss.drop q.1).foldl (wSta r p ((ordersP p).getD i default)) q.2 = wOrd r p ss y ((ordersP p).getD i default))
    (fun q => [(2, .imm (.slc 2 (ss.map ssI))), (3, .ref 3 0), (4, .ref 4 0), (6, .ref 6 0), (8, .ref 8 0), (9, .imm (.bool q.2.isSome)), (10, .imm (.slc 1 ((ordersP p).map snI))), (11, .imm (snI [r.lo, r.hi])), (12, .imm (.int .i64 i)), (13, .imm (.int .i64 q.1))])
    (fun q => wR r p q.2) (0, y) ⟨Nat.zero_le _, rfl⟩ (by simp only [wR, wCells, List.map_cons, List.map_nil, ruI, ssI, sbI, spI, swI, scI, stI, srI, saI, snI, ↓reduceIte, reduceCtorEq, Nat.reduceEqDiff, Nat.reduceAdd, Nat.reduceMul, Nat.reduceSub, Nat.reduceLeDiff, Nat.reduceBEq, Int.reduceToNat, Int.reduceLE, Int.reduceLT, Int.reduceEq, Int.reduceNe, di0, di1, di2, di3, di4, di5, di6, di7, di8, di9, postX_ret, postX_normal, ex_some] <;> rfl) ?_
  rintro ⟨j, y1⟩ ⟨hj, he1⟩ ih1
  dsimp only at hj he1 ⊢
  simp only [res39, b39k0, b39k1, b39k2, b39k3, b39k4, b39k5, b39k6, wR, wCells, ruI, ssI, sbI, spI, swI, scI, stI, srI, saI, snI, ↓reduceIte, reduceCtorEq, Nat.reduceEqDiff, Nat.reduceAdd, Nat.reduceMul, Nat.reduceSub, Nat.reduceLeDiff, Nat.reduceBEq, Int.reduceToNat, Int.reduceLE, Int.reduceLT, Int.reduceEq, Int.reduceNe, di0, di1, di2, di3, di4, di5, di6, di7, di8, di9, postX_ret, postX_normal, ex_some]
  split
  case isFalse h1 =>
    rw [List.drop_of_length_le (by omega), List.foldl_nil] at he1
    subst he1
    rw [wrap64 (by omega) (by omega)]
    refine ih (i + 1, wOrd r p ss y ((ordersP p).getD i default)) _ _ (by dsimp only; omega) ⟨by dsimp only; omega, he⟩ (by simp only [wR, wCells, List.map_cons, List.map_nil, ruI, ssI, sbI, spI, swI, scI, stI, srI, saI, snI, ↓reduceIte, reduceCtorEq, Nat.reduceEqDiff, Nat.reduceAdd, Nat.reduceMul, Nat.reduceSub, Nat.reduceLeDiff, Nat.reduceBEq, Int.reduceToNat, Int.reduceLE, Int.reduceLT, Int.reduceEq, Int.reduceNe, di0, di1, di2, di3, di4, di5, di6, di7, di8, di9, postX_ret, postX_normal, ex_some] <;> rfl)
  rename_i h1
  have hlt1 : j < ss.length := by omega
  have hd1 : ss.drop j = ss.getD j default :: ss.drop (j + 1) := by
    rw [List.drop_eq_getElem_cons hlt1, List.getD_eq_getElem?_getD]
    simp [hlt1]
  have hm1 : ss.getD j default ∈ ss := by rw [List.getD_eq_getElem?_getD]; simp [hlt1]
  rw [hd1, List.foldl_cons] at he1
  have hs := stateErr_zero.1 (hss _ hm1)
  refine loop_keep (α := Nat × Option Wt) rfl (fun q => 2 - q.1) (fun q => q.1 ≤ 2 ∧ ([r.lo, r.hi].drop q.1).foldl (wStp r p ((ordersP p).getD i default) (ss.getD j default)) q.2 = wSta r p ((ordersP p).getD i default) y1 (ss.getD j default))
    (fun q => [(2, .imm (.slc 2 (ss.map ssI))), (3, .ref 3 0), (4, .ref 4 0), (6, .ref 6 0), (8, .ref 8 0), (9, .imm (.bool q.2.isSome)), (10, .imm (.slc 1 ((ordersP p).map snI))), (11, .imm (snI [r.lo, r.hi])), (12, .imm (.int .i64 i)), (13, .imm (.int .i64 j)), (14, .imm (.int .i64 q.1))])
    (fun q => wR r p q.2) (0, y1) ⟨by omega, rfl⟩ (by simp only [wR, wCells, List.map_cons, List.map_nil, ruI, ssI, sbI, spI, swI, scI, stI, srI, saI, snI, ↓reduceIte, reduceCtorEq, Nat.reduceEqDiff, Nat.reduceAdd, Nat.reduceMul, Nat.reduceSub, Nat.reduceLeDiff, Nat.reduceBEq, Int.reduceToNat, Int.reduceLE, Int.reduceLT, Int.reduceEq, Int.reduceNe, di0, di1, di2, di3, di4, di5, di6, di7, di8, di9, postX_ret, postX_normal, ex_some] <;> rfl) ?_
  rintro ⟨n, y2⟩ ⟨hn2, he2⟩ ih2
  dsimp only at hn2 he2 ⊢
  simp only [res39, b39k0, b39k1, b39k2, b39k3, b39k4, b39k5, b39k6, wR, wCells, ruI, ssI, sbI, spI, swI, scI, stI, srI, saI, snI, ↓reduceIte, reduceCtorEq, Nat.reduceEqDiff, Nat.reduceAdd, Nat.reduceMul, Nat.reduceSub, Nat.reduceLeDiff, Nat.reduceBEq, Int.reduceToNat, Int.reduceLE, Int.reduceLT, Int.reduceEq, Int.reduceNe, di0, di1, di2, di3, di4, di5, di6, di7, di8, di9, postX_ret, postX_normal, ex_some]
  split
  case isFalse h2 =>
    have : n = 2 := by omega
    subst this
    simp only [List.drop_succ_cons, List.drop_zero, List.foldl_nil] at he2
    subst he2
    rw [wrap64 (by omega) (by omega)]
    refine ih1 (j + 1, wSta r p ((ordersP p).getD i default) y1 (ss.getD j default)) _ _ (by dsimp only; omega) ⟨by dsimp only; omega, he1⟩ (by simp only [wR, wCells, List.map_cons, List.map_nil, ruI, ssI, sbI, spI, swI, scI, stI, srI, saI, snI, ↓reduceIte, reduceCtorEq, Nat.reduceEqDiff, Nat.reduceAdd, Nat.reduceMul, Nat.reduceSub, Nat.reduceLeDiff, Nat.reduceBEq, Int.reduceToNat, Int.reduceLE, Int.reduceLT, Int.reduceEq, Int.reduceNe, di0, di1, di2, di3, di4, di5, di6, di7, di8, di9, postX_ret, postX_normal, ex_some] <;> rfl)
  rename_i h2
  have h01 : n = 0 ∨ n = 1 := by omega
  rcases h01 with rfl | rfl
  · simp only [List.drop_succ_cons, List.drop_zero, List.foldl_cons] at he2
    repeat (refine And.intro (by omega) ?_)
    refine calls_of (r_Loads hp hoi hol) ?_
    simp only [res39, b39k0, b39k1, b39k2, b39k3, b39k4, b39k5, b39k6, ruI, ssI, sbI, spI, swI, scI, stI, srI, saI, snI, ↓reduceIte, reduceCtorEq, Nat.reduceEqDiff, Nat.reduceAdd, Nat.reduceMul, Nat.reduceSub, Nat.reduceLeDiff, Nat.reduceBEq, Int.reduceToNat, Int.reduceLE, Int.reduceLT, Int.reduceEq, Int.reduceNe, di0, di1, di2, di3, di4, di5, di6, di7, di8, di9, postX_ret, postX_normal, ex_some]
    repeat (refine And.intro (by omega) ?_)
    simp only [List.getD_cons_zero, List.getD_cons_succ, ruI, ssI, sbI, spI, swI, scI, stI, srI, saI, snI, ↓reduceIte, reduceCtorEq, Nat.reduceEqDiff, Nat.reduceAdd, Nat.reduceMul, Nat.reduceSub, Nat.reduceLeDiff, Nat.reduceBEq, Int.reduceToNat, Int.reduceLE, Int.reduceLT, Int.reduceEq, Int.reduceNe, di0, di1, di2, di3, di4, di5, di6, di7, di8, di9, postX_ret, postX_normal, ex_some]
    refine calls_of (r_Highest (s := ss.getD j default) (k := r.lo) hr (by omega) hlo (by omega) (loads_ne hp)) ?_
    simp only [res39, b39k0, b39k1, b39k2, b39k3, b39k4, b39k5, b39k6, ruI, ssI, sbI, spI, swI, scI, stI, srI, saI, snI, ↓reduceIte, reduceCtorEq, Nat.reduceEqDiff, Nat.reduceAdd, Nat.reduceMul, Nat.reduceSub, Nat.reduceLeDiff, Nat.reduceBEq, Int.reduceToNat, Int.reduceLE, Int.reduceLT, Int.reduceEq, Int.reduceNe, di0, di1, di2, di3, di4, di5, di6, di7, di8, di9, postX_ret, postX_normal, ex_some]
    cases y2 with
    | none =>
      simp only [wV, wZ, Option.isSome, ruI, ssI, sbI, spI, swI, scI, stI, srI, saI, snI, ↓reduceIte, reduceCtorEq, Nat.reduceEqDiff, Nat.reduceAdd, Nat.reduceMul, Nat.reduceSub, Nat.reduceLeDiff, Nat.reduceBEq, Int.reduceToNat, Int.reduceLE, Int.reduceLT, Int.reduceEq, Int.reduceNe, di0, di1, di2, di3, di4, di5, di6, di7, di8, di9, postX_ret, postX_normal, ex_some]
      repeat (refine And.intro (by omega) ?_)
      simp only [List.getD_cons_zero, List.getD_cons_succ, ruI, ssI, sbI, spI, swI, scI, stI, srI, saI, snI, ↓reduceIte, reduceCtorEq, Nat.reduceEqDiff, Nat.reduceAdd, Nat.reduceMul, Nat.reduceSub, Nat.reduceLeDiff, Nat.reduceBEq, Int.reduceToNat, Int.reduceLE, Int.reduceLT, Int.reduceEq, Int.reduceNe, di0, di1, di2, di3, di4, di5, di6, di7, di8, di9, postX_ret, postX_normal, ex_some]
      rw [wrap64 (by omega) (by omega)]
      refine ih2 (0 + 1, some ⟨(ordersP p).getD i default, ss.getD j default, r.lo, highL r (ss.getD j default) (loadsP p ((ordersP p).getD i default)) r.lo⟩) _ _ (by dsimp only; omega) ⟨by dsimp only; omega, by rw [← he2]; rfl⟩ (by simp only [wR, wCells, wV, List.map_cons, List.map_nil, Option.isSome, ruI, ssI, sbI, spI, swI, scI, stI, srI, saI, snI, ↓reduceIte, reduceCtorEq, Nat.reduceEqDiff, Nat.reduceAdd, Nat.reduceMul, Nat.reduceSub, Nat.reduceLeDiff, Nat.reduceBEq, Int.reduceToNat, Int.reduceLE, Int.reduceLT, Int.reduceEq, Int.reduceNe, di0, di1, di2, di3, di4, di5, di6, di7, di8, di9, postX_ret, postX_normal, ex_some] <;> rfl)
    | some v =>
      simp only [wV, Option.isSome, ruI, ssI, sbI, spI, swI, scI, stI, srI, saI, snI, ↓reduceIte, reduceCtorEq, Nat.reduceEqDiff, Nat.reduceAdd, Nat.reduceMul, Nat.reduceSub, Nat.reduceLeDiff, Nat.reduceBEq, Int.reduceToNat, Int.reduceLE, Int.reduceLT, Int.reduceEq, Int.reduceNe, di0, di1, di2, di3, di4, di5, di6, di7, di8, di9, postX_ret, postX_normal, ex_some]
      split
      · rename_i h3
        repeat (refine And.intro (by omega) ?_)
        simp only [List.getD_cons_zero, List.getD_cons_succ, ruI, ssI, sbI, spI, swI, scI, stI, srI, saI, snI, ↓reduceIte, reduceCtorEq, Nat.reduceEqDiff, Nat.reduceAdd, Nat.reduceMul, Nat.reduceSub, Nat.reduceLeDiff, Nat.reduceBEq, Int.reduceToNat, Int.reduceLE, Int.reduceLT, Int.reduceEq, Int.reduceNe, di0, di1, di2, di3, di4, di5, di6, di7, di8, di9, postX_ret, postX_normal, ex_some]
        rw [wrap64 (by omega) (by omega)]
        refine ih2 (0 + 1, some ⟨(ordersP p).getD i default, ss.getD j default, r.lo, highL r (ss.getD j default) (loadsP p ((ordersP p).getD i default)) r.lo⟩) _ _ (by dsimp only; omega) ⟨by dsimp only; omega, by rw [← he2, show wStp r p ((ordersP p).getD i default) (ss.getD j default) (some v) r.lo = some ⟨(ordersP p).getD i default, ss.getD j default, r.lo, highL r (ss.getD j default) (loadsP p ((ordersP p).getD i default)) r.lo⟩ from if_pos h3]; rfl⟩ (by simp only [wR, wCells, wV, List.map_cons, List.map_nil, Option.isSome, ruI, ssI, sbI, spI, swI, scI, stI, srI, saI, snI, ↓reduceIte, reduceCtorEq, Nat.reduceEqDiff, Nat.reduceAdd, Nat.reduceMul, Nat.reduceSub, Nat.reduceLeDiff, Nat.reduceBEq, Int.reduceToNat, Int.reduceLE, Int.reduceLT, Int.reduceEq, Int.reduceNe, di0, di1, di2, di3, di4, di5, di6, di7, di8, di9, postX_ret, postX_normal, ex_some] <;> rfl)
      · rename_i h3
        rw [wrap64 (by omega) (by omega)]
        refine ih2 (0 + 1, some v) _ _ (by dsimp only; omega) ⟨by dsimp only; omega, by rw [← he2, show wStp r p ((ordersP p).getD i default) (ss.getD j default) (some v) r.lo = some v from if_neg h3]; rfl⟩ (by simp only [wR, wCells, wV, List.map_cons, List.map_nil, Option.isSome, ruI, ssI, sbI, spI, swI, scI, stI, srI, saI, snI, ↓reduceIte, reduceCtorEq, Nat.reduceEqDiff, Nat.reduceAdd, Nat.reduceMul, Nat.reduceSub, Nat.reduceLeDiff, Nat.reduceBEq, Int.reduceToNat, Int.reduceLE, Int.reduceLT, Int.reduceEq, Int.reduceNe, di0, di1, di2, di3, di4, di5, di6, di7, di8, di9, postX_ret, postX_normal, ex_some] <;> rfl)
  · simp only [List.drop_succ_cons, List.drop_zero, List.foldl_cons] at he2
    repeat (refine And.intro (by omega) ?_)
    refine calls_of (r_Loads hp hoi hol) ?_
    simp only [res39, b39k0, b39k1, b39k2, b39k3, b39k4, b39k5, b39k6, ruI, ssI, sbI, spI, swI, scI, stI, srI, saI, snI, ↓reduceIte, reduceCtorEq, Nat.reduceEqDiff, Nat.reduceAdd, Nat.reduceMul, Nat.reduceSub, Nat.reduceLeDiff, Nat.reduceBEq, Int.reduceToNat, Int.reduceLE, Int.reduceLT, Int.reduceEq, Int.reduceNe, di0, di1, di2, di3, di4, di5, di6, di7, di8, di9, postX_ret, postX_normal, ex_some]
    repeat (refine And.intro (by omega) ?_)
    simp only [List.getD_cons_zero, List.getD_cons_succ, ruI, ssI, sbI, spI, swI, scI, stI, srI, saI, snI, ↓reduceIte, reduceCtorEq, Nat.reduceEqDiff, Nat.reduceAdd, Nat.reduceMul, Nat.reduceSub, Nat.reduceLeDiff, Nat.reduceBEq, Int.reduceToNat, Int.reduceLE, Int.reduceLT, Int.reduceEq, Int.reduceNe, di0, di1, di2, di3, di4, di5, di6, di7, di8, di9, postX_ret, postX_normal, ex_some]
    refine calls_of (r_Highest (s := ss.getD j default) (k := r.hi) hr (by omega) hlo (by omega) (loads_ne hp)) ?_
    simp only [res39, b39k0, b39k1, b39k2, b39k3, b39k4, b39k5, b39k6, ruI, ssI, sbI, spI, swI, scI, stI, srI, saI, snI, ↓reduceIte, reduceCtorEq, Nat.reduceEqDiff, Nat.reduceAdd, Nat.reduceMul, Nat.reduceSub, Nat.reduceLeDiff, Nat.reduceBEq, Int.reduceToNat, Int.reduceLE, Int.reduceLT, Int.reduceEq, Int.reduceNe, di0, di1, di2, di3, di4, di5, di6, di7, di8, di9, postX_ret, postX_normal, ex_some]
    cases y2 with
    | none =>
      simp only [wV, wZ, Option.isSome, ruI, ssI, sbI, spI, swI, scI, stI, srI, saI, snI, ↓reduceIte, reduceCtorEq, Nat.reduceEqDiff, Nat.reduceAdd, Nat.reduceMul, Nat.reduceSub, Nat.reduceLeDiff, Nat.reduceBEq, Int.reduceToNat, Int.reduceLE, Int.reduceLT, Int.reduceEq, Int.reduceNe, di0, di1, di2, di3, di4, di5, di6, di7, di8, di9, postX_ret, postX_normal, ex_some]
      repeat (refine And.intro (by omega) ?_)
      simp only [List.getD_cons_zero, List.getD_cons_succ, ruI, ssI, sbI, spI, swI, scI, stI, srI, saI, snI, ↓reduceIte, reduceCtorEq, Nat.reduceEqDiff, Nat.reduceAdd, Nat.reduceMul, Nat.reduceSub, Nat.reduceLeDiff, Nat.reduceBEq, Int.reduceToNat, Int.reduceLE, Int.reduceLT, Int.reduceEq, Int.reduceNe, di0, di1, di2, di3, di4, di5, di6, di7, di8, di9, postX_ret, postX_normal, ex_some]
      rw [wrap64 (by omega) (by omega)]
      refine ih2 (1 + 1, some ⟨(ordersP p).getD i default, ss.getD j default, r.hi, highL r (ss.getD j default) (loadsP p ((ordersP p).getD i default)) r.hi⟩) _ _ (by dsimp only; omega) ⟨by dsimp only; omega, by rw [← he2]; rfl⟩ (by simp only [wR, wCells, wV, List.map_cons, List.map_nil, Option.isSome, ruI, ssI, sbI, spI, swI, scI, stI, srI, saI, snI, ↓reduceIte, reduceCtorEq, Nat.reduceEqDiff, Nat.reduceAdd, Nat.reduceMul, Nat.reduceSub, Nat.reduceLeDiff, Nat.reduceBEq, Int.reduceToNat, Int.reduceLE, Int.reduceLT, Int.reduceEq, Int.reduceNe, di0, di1, di2, di3, di4, di5, di6, di7, di8, di9, postX_ret, postX_normal, ex_some] <;> rfl)
    | some v =>
      simp only [wV, Option.isSome, ruI, ssI, sbI, spI, swI, scI, stI, srI, saI, snI, ↓reduceIte, reduceCtorEq, Nat.reduceEqDiff, Nat.reduceAdd, Nat.reduceMul, Nat.reduceSub, Nat.reduceLeDiff, Nat.reduceBEq, Int.reduceToNat, Int.reduceLE, Int.reduceLT, Int.reduceEq, Int.reduceNe, di0, di1, di2, di3, di4, di5, di6, di7, di8, di9, postX_ret, postX_normal, ex_some]
      split
      · rename_i h3
        repeat (refine And.intro (by omega) ?_)
        simp only [List.getD_cons_zero, List.getD_cons_succ, ruI, ssI, sbI, spI, swI, scI, stI, srI, saI, snI, ↓reduceIte, reduceCtorEq, Nat.reduceEqDiff, Nat.reduceAdd, Nat.reduceMul, Nat.reduceSub, Nat.reduceLeDiff, Nat.reduceBEq, Int.reduceToNat, Int.reduceLE, Int.reduceLT, Int.reduceEq, Int.reduceNe, di0, di1, di2, di3, di4, di5, di6, di7, di8, di9, postX_ret, postX_normal, ex_some]
        rw [wrap64 (by omega) (by omega)]
        refine ih2 (1 + 1, some ⟨(ordersP p).getD i default, ss.getD j default, r.hi, highL r (ss.getD j default) (loadsP p ((ordersP p).getD i default)) r.hi⟩) _ _ (by dsimp only; omega) ⟨by dsimp only; omega, by rw [← he2, show wStp r p ((ordersP p).getD i default) (ss.getD j default) (some v) r.hi = some ⟨(ordersP p).getD i default, ss.getD j default, r.hi, highL r (ss.getD j default) (loadsP p ((ordersP p).getD i default)) r.hi⟩ from if_pos h3]; rfl⟩ (by simp only [wR, wCells, wV, List.map_cons, List.map_nil, Option.isSome, ruI, ssI, sbI, spI, swI, scI, stI, srI, saI, snI, ↓reduceIte, reduceCtorEq, Nat.reduceEqDiff, Nat.reduceAdd, Nat.reduceMul, Nat.reduceSub, Nat.reduceLeDiff, Nat.reduceBEq, Int.reduceToNat, Int.reduceLE, Int.reduceLT, Int.reduceEq, Int.reduceNe, di0, di1, di2, di3, di4, di5, di6, di7, di8, di9, postX_ret, postX_normal, ex_some] <;> rfl)
      · rename_i h3
        rw [wrap64 (by omega) (by omega)]
        refine ih2 (1 + 1, some v) _ _ (by dsimp only; omega) ⟨by dsimp only; omega, by rw [← he2, show wStp r p ((ordersP p).getD i default) (ss.getD j default) (some v) r.hi = some v from if_neg h3]; rfl⟩ (by simp only [wR, wCells, wV, List.map_cons, List.map_nil, Option.isSome, ruI, ssI, sbI, spI, swI, scI, stI, srI, saI, snI, ↓reduceIte, reduceCtorEq, Nat.reduceEqDiff, Nat.reduceAdd, Nat.reduceMul, Nat.reduceSub, Nat.reduceLeDiff, Nat.reduceBEq, Int.reduceToNat, Int.reduceLE, Int.reduceLT, Int.reduceEq, Int.reduceNe, di0, di1, di2, di3, di4, di5, di6, di7, di8, di9, postX_ret, postX_normal, ex_some] <;> rfl)
end Go.DI

/- The statement SurgeWitnesses, as a contract. No condition. -/
set_option linter.unusedSimpArgs false
set_option maxRecDepth 20000
namespace Go.DI
open Go.Proofs Go.RowKit Sg

def clI (ss : List Sta) (w : Wt) (bs : List Bx) : IV := .agg [.slc 2 (ss.map ssI), snI w.ord, .int .i64 w.st.L, .int .i64 w.st.F, .int .i64 w.k, .int .i64 w.lev, .slc 4 (bs.map sbI)]
def fewC (ss : List Sta) (w : Wt) (bs : List Bx) : Prop := (ss.length ≤ 6 ∨ (40 < ss.length ∧ ss.length ≤ 42)) ∧ w.ord.length ≤ 10 ∧ (bs.length ≤ 6 ∨ (64 < bs.length ∧ bs.length ≤ 66))
instance (ss : List Sta) (w : Wt) (bs : List Bx) : Decidable (fewC ss w bs) := inferInstanceAs (Decidable (_ ∧ _))
theorem l_few {ss : List Sta} {w : Wt} {bs : List Bx} : Contract Try.prog 29 [clI ss w bs] (.bool (decide (fewC ss w bs))) := by
  refine contract_run Try.func29 k29 rfl ?_
  simp only [body29, b29, res29, clI, ruI, ssI, sbI, spI, swI, scI, stI, srI, saI, snI, ↓reduceIte, reduceCtorEq, Nat.reduceEqDiff, Nat.reduceAdd, Nat.reduceMul, Nat.reduceSub, Nat.reduceLeDiff, Nat.reduceBEq, Int.reduceToNat, Int.reduceLE, Int.reduceLT, Int.reduceEq, Int.reduceNe, di0, di1, di2, di3, di4, di5, di6, di7, di8, di9, postX_ret, postX_normal, ex_some]
  by_cases a1 : (ss.length : Int) ≤ 6 <;> by_cases a2 : (40 : Int) < (ss.length : Int) <;> by_cases a3 : (ss.length : Int) ≤ 42 <;> by_cases a4 : (w.ord.length : Int) ≤ 10 <;> by_cases a5 : (bs.length : Int) ≤ 6 <;> by_cases a6 : (64 : Int) < (bs.length : Int) <;> by_cases a7 : (bs.length : Int) ≤ 66 <;>
    simp only [a1, a2, a3, a4, a5, a6, a7, ruI, ssI, sbI, spI, swI, scI, stI, srI, saI, snI, ↓reduceIte, reduceCtorEq, Nat.reduceEqDiff, Nat.reduceAdd, Nat.reduceMul, Nat.reduceSub, Nat.reduceLeDiff, Nat.reduceBEq, Int.reduceToNat, Int.reduceLE, Int.reduceLT, Int.reduceEq, Int.reduceNe, di0, di1, di2, di3, di4, di5, di6, di7, di8, di9, postX_ret, postX_normal, ex_some] <;> first | (exfalso; omega) | rw [decide_eq_true (show fewC ss w bs by unfold fewC; omega)] | rw [decide_eq_false (show ¬ fewC ss w bs by unfold fewC; omega)]

/-- The best one of those seen. -/
def Best (r : Ru) (p : Pl) (L : List (List Int × Sta × Int)) : Option Wt → Prop
  | none => L = []
  | some v => (v.ord, v.st, v.k) ∈ L ∧ v.lev = highL r v.st (loadsP p v.ord) v.k ∧ ∀ t ∈ L, highL r t.2.1 (loadsP p t.1) t.2.2 ≤ v.lev
theorem best_stp {r : Ru} {p : Pl} {L : List (List Int × Sta × Int)} {y : Option Wt} {o : List Int} {s : Sta} {k : Int} (h : Best r p L y) : Best r p (L ++ [(o, s, k)]) (wStp r p o s y k) := by
  cases y with
  | none =>
    have h : L = [] := h
    subst h
    exact ⟨by simp, rfl, fun t ht => by simp at ht; subst ht; exact Int.le_refl _⟩
  | some v =>
    obtain ⟨h1, h2, h3⟩ := h
    unfold wStp
    dsimp only
    split
    · rename_i h4
      refine ⟨by simp, rfl, fun t ht => ?_⟩
      rcases List.mem_append.1 ht with ht | ht
      · have := h3 t ht; dsimp only; omega
      · simp at ht; subst ht; exact Int.le_refl _
    · rename_i h4
      refine ⟨by simp [h1], h2, fun t ht => ?_⟩
      rcases List.mem_append.1 ht with ht | ht
      · exact h3 t ht
      · simp at ht; subst ht; dsimp only; omega
theorem best_fold {α : Type} {r : Ru} {p : Pl} {f : Option Wt → α → Option Wt} {g : α → List (List Int × Sta × Int)} (hf : ∀ L y x, Best r p L y → Best r p (L ++ g x) (f y x)) : ∀ (xs : List α) (L : List (List Int × Sta × Int)) (y : Option Wt), Best r p L y → Best r p (L ++ xs.flatMap g) (xs.foldl f y)
  | [], L, y, h => by simpa using h
  | x :: xs, L, y, h => by
    have := best_fold hf xs (L ++ g x) (f y x) (hf L y x h)
    simpa using this
def triples (r : Ru) (p : Pl) (ss : List Sta) : List (List Int × Sta × Int) := (ordersP p).flatMap fun o => ss.flatMap fun s => [r.lo, r.hi].flatMap fun k => [(o, s, k)]
theorem worstP_Best {r : Ru} {p : Pl} {ss : List Sta} : Best r p (triples r p ss) (worstP r p ss) :=
  best_fold (g := fun o => ss.flatMap fun s => [r.lo, r.hi].flatMap fun k => [(o, s, k)]) (fun L y o h =>
    best_fold (g := fun s => [r.lo, r.hi].flatMap fun k => [(o, s, k)]) (fun L y s h => best_fold (g := fun k => [(o, s, k)]) (fun _ _ _ h => best_stp h) [r.lo, r.hi] L y h) ss L y h) (ordersP p) [] none rfl
theorem worstP_best {r : Ru} {p : Pl} {ss : List Sta} {v : Wt} (h : worstP r p ss = some v) : (∃ o ∈ ordersP p, ∃ s ∈ ss, ∃ k, (k = r.lo ∨ k = r.hi) ∧ v.ord = o ∧ v.st = s ∧ v.k = k ∧ v.lev = highL r s (loadsP p o) k) ∧
    ∀ o ∈ ordersP p, ∀ s ∈ ss, ∀ k, (k = r.lo ∨ k = r.hi) → highL r s (loadsP p o) k ≤ v.lev := by
  have hb := worstP_Best (r := r) (p := p) (ss := ss)
  rw [h] at hb
  obtain ⟨h1, h2, h3⟩ := hb
  constructor
  · simp only [triples, List.mem_flatMap, List.mem_cons, List.not_mem_nil, or_false, Prod.mk.injEq] at h1
    obtain ⟨o, ho, s, hs, k, hk, e1, e2, e3⟩ := h1
    subst e1; subst e2; subst e3
    exact ⟨_, ho, _, hs, _, hk, rfl, rfl, rfl, h2⟩
  · intro o ho s hs k hk
    refine h3 (o, s, k) ?_
    simp only [triples, List.mem_flatMap, List.mem_cons, List.not_mem_nil, or_false, Prod.mk.injEq]
    exact ⟨o, ho, s, hs, k, hk, rfl, rfl, rfl⟩
theorem worstR_plan {r : Ru} {p : Pl} {ss : List Sta} (h : ¬ (planEr r p).2 = 0) : worstR r p ss = (wZ, (planEr r p).2) := by
  have e : worstE r p ss.length = (planEr r p).2 := by unfold worstE fstE; rw [if_neg h]
  unfold worstR
  rw [e, if_pos h]
  rfl
theorem worstR_starts {r : Ru} {p : Pl} {ss : List Sta} (h : (planEr r p).2 = 0) : worstR r p ss = if startsE ss = 0 then (match worstP r p ss with | none => (wZ, 12) | some w => (w, 0)) else (wZ, startsE ss) := by
  unfold worstR worstE startsE
  rw [show fstE (planEr r p).2 (fstE (if 0 < ss.length then 0 else 10) (if ss.length ≤ 40 then 0 else 8)) = fstE (if 0 < ss.length then 0 else 10) (if ss.length ≤ 40 then 0 else 8) from if_pos h]
  unfold fstE
  by_cases h1 : 0 < ss.length
  case neg =>
    rw [if_neg h1, if_neg (show ¬ (10 : Int) = 0 by decide), if_neg (show ¬ (10 : Int) = 0 by decide), if_pos (show (10 : Int) ≠ 0 by decide), if_neg (show ¬ (10 : Int) = 0 by decide)]
    rfl
  rw [if_pos h1, if_pos rfl, if_pos rfl]
  by_cases h2 : ss.length ≤ 40
  case neg =>
    rw [if_neg h2, if_neg (show ¬ (8 : Int) = 0 by decide), if_pos (show (8 : Int) ≠ 0 by decide), if_neg (show ¬ (8 : Int) = 0 by decide)]
    rfl
  rw [if_pos h2, if_pos rfl, if_neg (show ¬ (0 : Int) ≠ 0 by decide)]
  cases hB : (ss.any fun s => !decide (stateErr s = 0)) <;> rfl
theorem startsE_ok {ss : List Sta} (h : startsE ss = 0) : (0 < ss.length ∧ ss.length ≤ 40) ∧ ∀ s ∈ ss, stateErr s = 0 := by
  unfold startsE at h
  rw [fstE_zero, fstE_zero] at h
  obtain ⟨h1, h2, h3⟩ := h
  have h3' : (ss.any fun s => !decide (stateErr s = 0)) = false := by
    cases hB : (ss.any fun s => !decide (stateErr s = 0))
    · rfl
    · rw [hB, if_pos rfl] at h3; cases h3
  refine ⟨⟨?_, ?_⟩, fun s hs => ?_⟩
  · by_cases k : 0 < ss.length
    · exact k
    · rw [if_neg k] at h1; cases h1
  · by_cases k : ss.length ≤ 40
    · exact k
    · rw [if_neg k] at h2; cases h2
  · have := List.any_eq_false.1 h3' s hs
    simpa using this

theorem l_SurgeWitnesses {r : Ru} {p : Pl} {ss : List Sta} {w : Wt} {bs : List Bx} : Contract Try.prog 6 [ruI r, spI p, clI ss w bs] (.bool true) := by
  refine contract_run Try.func6 k6 rfl ?_
  simp only [body6, b6, res6, b6k0, b6k1, b6k2, b6k3, b6k4, b6k5, clI, ruI, ssI, sbI, spI, swI, scI, stI, srI, saI, snI, ↓reduceIte, reduceCtorEq, Nat.reduceEqDiff, Nat.reduceAdd, Nat.reduceMul, Nat.reduceSub, Nat.reduceLeDiff, Nat.reduceBEq, Int.reduceToNat, Int.reduceLE, Int.reduceLT, Int.reduceEq, Int.reduceNe, di0, di1, di2, di3, di4, di5, di6, di7, di8, di9, postX_ret, postX_normal, ex_some]
  refine calls_of s_awake ?_; simp only [ruI, ssI, sbI, spI, swI, scI, stI, srI, saI, snI, res6, b6k0, b6k1, b6k2, b6k3, b6k4, b6k5, ↓reduceIte, reduceCtorEq, Nat.reduceEqDiff, Nat.reduceAdd, Nat.reduceMul, Nat.reduceSub, Nat.reduceLeDiff, Nat.reduceBEq, Int.reduceToNat, Int.reduceLE, Int.reduceLT, Int.reduceEq, Int.reduceNe, di0, di1, di2, di3, di4, di5, di6, di7, di8, di9, postX_ret, postX_normal, ex_some]
  refine calls_of l_Few ?_; simp only [ruI, ssI, sbI, spI, swI, scI, stI, srI, saI, snI, res6, b6k0, b6k1, b6k2, b6k3, b6k4, b6k5, ↓reduceIte, reduceCtorEq, Nat.reduceEqDiff, Nat.reduceAdd, Nat.reduceMul, Nat.reduceSub, Nat.reduceLeDiff, Nat.reduceBEq, Int.reduceToNat, Int.reduceLE, Int.reduceLT, Int.reduceEq, Int.reduceNe, di0, di1, di2, di3, di4, di5, di6, di7, di8, di9, postX_ret, postX_normal, ex_some]
  by_cases hf : FewP p
  case neg => simp only [hf, ruI, ssI, sbI, spI, swI, scI, stI, srI, saI, snI, ↓reduceIte, reduceCtorEq, Nat.reduceEqDiff, Nat.reduceAdd, Nat.reduceMul, Nat.reduceSub, Nat.reduceLeDiff, Nat.reduceBEq, Int.reduceToNat, Int.reduceLE, Int.reduceLT, Int.reduceEq, Int.reduceNe, di0, di1, di2, di3, di4, di5, di6, di7, di8, di9, postX_ret, postX_normal, ex_some]
  simp only [hf, ruI, ssI, sbI, spI, swI, scI, stI, srI, saI, snI, ↓reduceIte, reduceCtorEq, Nat.reduceEqDiff, Nat.reduceAdd, Nat.reduceMul, Nat.reduceSub, Nat.reduceLeDiff, Nat.reduceBEq, Int.reduceToNat, Int.reduceLE, Int.reduceLT, Int.reduceEq, Int.reduceNe, di0, di1, di2, di3, di4, di5, di6, di7, di8, di9, postX_ret, postX_normal, ex_some]
  have lf := l_few (ss := ss) (w := w) (bs := bs)
  unfold clI at lf
  refine calls_of lf ?_; simp only [ruI, ssI, sbI, spI, swI, scI, stI, srI, saI, snI, res6, b6k0, b6k1, b6k2, b6k3, b6k4, b6k5, ↓reduceIte, reduceCtorEq, Nat.reduceEqDiff, Nat.reduceAdd, Nat.reduceMul, Nat.reduceSub, Nat.reduceLeDiff, Nat.reduceBEq, Int.reduceToNat, Int.reduceLE, Int.reduceLT, Int.reduceEq, Int.reduceNe, di0, di1, di2, di3, di4, di5, di6, di7, di8, di9, postX_ret, postX_normal, ex_some]
  by_cases hc : fewC ss w bs
  case neg => simp only [hc, ruI, ssI, sbI, spI, swI, scI, stI, srI, saI, snI, ↓reduceIte, reduceCtorEq, Nat.reduceEqDiff, Nat.reduceAdd, Nat.reduceMul, Nat.reduceSub, Nat.reduceLeDiff, Nat.reduceBEq, Int.reduceToNat, Int.reduceLE, Int.reduceLT, Int.reduceEq, Int.reduceNe, di0, di1, di2, di3, di4, di5, di6, di7, di8, di9, postX_ret, postX_normal, ex_some]
  simp only [hc, ruI, ssI, sbI, spI, swI, scI, stI, srI, saI, snI, ↓reduceIte, reduceCtorEq, Nat.reduceEqDiff, Nat.reduceAdd, Nat.reduceMul, Nat.reduceSub, Nat.reduceLeDiff, Nat.reduceBEq, Int.reduceToNat, Int.reduceLE, Int.reduceLT, Int.reduceEq, Int.reduceNe, di0, di1, di2, di3, di4, di5, di6, di7, di8, di9, postX_ret, postX_normal, ex_some]
  have hpl : p.ch.length ≤ 6 := hf.1
  have hsl : ss.length ≤ 42 := by have := hc.1; omega
  have hwl : w.ord.length ≤ 10 := hc.2.1
  have cp := r_CopyPlan (p := p) (by omega)
  have cs := r_CopyStates (l := ss) (by omega)
  have cw := r_CopyWitness (w := w) (by omega)
  have s1 := s_WorstOf (r := r) (p := p) (ss := ss) (by omega) (by omega)
  have s2 := s_CheckWitness (r := r) (p := p) (w := w) (by omega)
  have rp := r_PlanErr (r := r) (p := p) (by omega)
  have zz := r_SameWitness (v := wZ) (w := wZ) (by decide)
  simp only [wZ, List.map_nil] at zz
  refine calls_of cp ?_; simp only [ruI, ssI, sbI, spI, swI, scI, stI, srI, saI, snI, res6, b6k0, b6k1, b6k2, b6k3, b6k4, b6k5, ↓reduceIte, reduceCtorEq, Nat.reduceEqDiff, Nat.reduceAdd, Nat.reduceMul, Nat.reduceSub, Nat.reduceLeDiff, Nat.reduceBEq, Int.reduceToNat, Int.reduceLE, Int.reduceLT, Int.reduceEq, Int.reduceNe, di0, di1, di2, di3, di4, di5, di6, di7, di8, di9, postX_ret, postX_normal, ex_some]
  refine calls_of cs ?_; simp only [ruI, ssI, sbI, spI, swI, scI, stI, srI, saI, snI, res6, b6k0, b6k1, b6k2, b6k3, b6k4, b6k5, ↓reduceIte, reduceCtorEq, Nat.reduceEqDiff, Nat.reduceAdd, Nat.reduceMul, Nat.reduceSub, Nat.reduceLeDiff, Nat.reduceBEq, Int.reduceToNat, Int.reduceLE, Int.reduceLT, Int.reduceEq, Int.reduceNe, di0, di1, di2, di3, di4, di5, di6, di7, di8, di9, postX_ret, postX_normal, ex_some]
  by_cases hE : (planEr r p).2 = 0
  case neg =>
    have hch : chkW r p w = (planEr r p).2 := by unfold chkW fstE; rw [if_neg hE]
    rw [worstR_plan hE] at s1
    rw [hch] at s2
    refine calls_of s1 ?_; simp only [ruI, ssI, sbI, spI, swI, scI, stI, srI, saI, snI, res6, b6k0, b6k1, b6k2, b6k3, b6k4, b6k5, ↓reduceIte, reduceCtorEq, Nat.reduceEqDiff, Nat.reduceAdd, Nat.reduceMul, Nat.reduceSub, Nat.reduceLeDiff, Nat.reduceBEq, Int.reduceToNat, Int.reduceLE, Int.reduceLT, Int.reduceEq, Int.reduceNe, di0, di1, di2, di3, di4, di5, di6, di7, di8, di9, postX_ret, postX_normal, ex_some]
    refine calls_of cp ?_; simp only [ruI, ssI, sbI, spI, swI, scI, stI, srI, saI, snI, res6, b6k0, b6k1, b6k2, b6k3, b6k4, b6k5, ↓reduceIte, reduceCtorEq, Nat.reduceEqDiff, Nat.reduceAdd, Nat.reduceMul, Nat.reduceSub, Nat.reduceLeDiff, Nat.reduceBEq, Int.reduceToNat, Int.reduceLE, Int.reduceLT, Int.reduceEq, Int.reduceNe, di0, di1, di2, di3, di4, di5, di6, di7, di8, di9, postX_ret, postX_normal, ex_some]
    refine calls_of cw ?_; simp only [ruI, ssI, sbI, spI, swI, scI, stI, srI, saI, snI, res6, b6k0, b6k1, b6k2, b6k3, b6k4, b6k5, ↓reduceIte, reduceCtorEq, Nat.reduceEqDiff, Nat.reduceAdd, Nat.reduceMul, Nat.reduceSub, Nat.reduceLeDiff, Nat.reduceBEq, Int.reduceToNat, Int.reduceLE, Int.reduceLT, Int.reduceEq, Int.reduceNe, di0, di1, di2, di3, di4, di5, di6, di7, di8, di9, postX_ret, postX_normal, ex_some]
    refine calls_of s2 ?_; simp only [ruI, ssI, sbI, spI, swI, scI, stI, srI, saI, snI, res6, b6k0, b6k1, b6k2, b6k3, b6k4, b6k5, ↓reduceIte, reduceCtorEq, Nat.reduceEqDiff, Nat.reduceAdd, Nat.reduceMul, Nat.reduceSub, Nat.reduceLeDiff, Nat.reduceBEq, Int.reduceToNat, Int.reduceLE, Int.reduceLT, Int.reduceEq, Int.reduceNe, di0, di1, di2, di3, di4, di5, di6, di7, di8, di9, postX_ret, postX_normal, ex_some]
    refine calls_of rp ?_; simp only [ruI, ssI, sbI, spI, swI, scI, stI, srI, saI, snI, res6, b6k0, b6k1, b6k2, b6k3, b6k4, b6k5, ↓reduceIte, reduceCtorEq, Nat.reduceEqDiff, Nat.reduceAdd, Nat.reduceMul, Nat.reduceSub, Nat.reduceLeDiff, Nat.reduceBEq, Int.reduceToNat, Int.reduceLE, Int.reduceLT, Int.reduceEq, Int.reduceNe, di0, di1, di2, di3, di4, di5, di6, di7, di8, di9, postX_ret, postX_normal, ex_some]
    simp only [hE, wZ, List.map_nil, ruI, ssI, sbI, spI, swI, scI, stI, srI, saI, snI, ↓reduceIte, reduceCtorEq, Nat.reduceEqDiff, Nat.reduceAdd, Nat.reduceMul, Nat.reduceSub, Nat.reduceLeDiff, Nat.reduceBEq, Int.reduceToNat, Int.reduceLE, Int.reduceLT, Int.reduceEq, Int.reduceNe, di0, di1, di2, di3, di4, di5, di6, di7, di8, di9, postX_ret, postX_normal, ex_some]
    refine calls_of zz ?_; simp only [ruI, ssI, sbI, spI, swI, scI, stI, srI, saI, snI, res6, b6k0, b6k1, b6k2, b6k3, b6k4, b6k5, ↓reduceIte, reduceCtorEq, Nat.reduceEqDiff, Nat.reduceAdd, Nat.reduceMul, Nat.reduceSub, Nat.reduceLeDiff, Nat.reduceBEq, Int.reduceToNat, Int.reduceLE, Int.reduceLT, Int.reduceEq, Int.reduceNe, di0, di1, di2, di3, di4, di5, di6, di7, di8, di9, postX_ret, postX_normal, ex_some]
  obtain ⟨hr, hp⟩ := planEr_zero.1 hE
  have hch : chkW r p w = witE r p w := by unfold chkW fstE; rw [if_pos hE]
  rw [hch] at s2
  rw [hE] at rp
  rw [worstR_starts hE] at s1
  have rw1 := r_WitnessErr (r := r) (p := p) (w := w) hr hp
  have rs := r_StartsErr (ss := ss) (by omega)
  by_cases hS : startsE ss = 0
  case neg =>
    rw [if_neg hS] at s1
    refine calls_of s1 ?_; simp only [ruI, ssI, sbI, spI, swI, scI, stI, srI, saI, snI, res6, b6k0, b6k1, b6k2, b6k3, b6k4, b6k5, ↓reduceIte, reduceCtorEq, Nat.reduceEqDiff, Nat.reduceAdd, Nat.reduceMul, Nat.reduceSub, Nat.reduceLeDiff, Nat.reduceBEq, Int.reduceToNat, Int.reduceLE, Int.reduceLT, Int.reduceEq, Int.reduceNe, di0, di1, di2, di3, di4, di5, di6, di7, di8, di9, postX_ret, postX_normal, ex_some]
    refine calls_of cp ?_; simp only [ruI, ssI, sbI, spI, swI, scI, stI, srI, saI, snI, res6, b6k0, b6k1, b6k2, b6k3, b6k4, b6k5, ↓reduceIte, reduceCtorEq, Nat.reduceEqDiff, Nat.reduceAdd, Nat.reduceMul, Nat.reduceSub, Nat.reduceLeDiff, Nat.reduceBEq, Int.reduceToNat, Int.reduceLE, Int.reduceLT, Int.reduceEq, Int.reduceNe, di0, di1, di2, di3, di4, di5, di6, di7, di8, di9, postX_ret, postX_normal, ex_some]
    refine calls_of cw ?_; simp only [ruI, ssI, sbI, spI, swI, scI, stI, srI, saI, snI, res6, b6k0, b6k1, b6k2, b6k3, b6k4, b6k5, ↓reduceIte, reduceCtorEq, Nat.reduceEqDiff, Nat.reduceAdd, Nat.reduceMul, Nat.reduceSub, Nat.reduceLeDiff, Nat.reduceBEq, Int.reduceToNat, Int.reduceLE, Int.reduceLT, Int.reduceEq, Int.reduceNe, di0, di1, di2, di3, di4, di5, di6, di7, di8, di9, postX_ret, postX_normal, ex_some]
    refine calls_of s2 ?_; simp only [ruI, ssI, sbI, spI, swI, scI, stI, srI, saI, snI, res6, b6k0, b6k1, b6k2, b6k3, b6k4, b6k5, ↓reduceIte, reduceCtorEq, Nat.reduceEqDiff, Nat.reduceAdd, Nat.reduceMul, Nat.reduceSub, Nat.reduceLeDiff, Nat.reduceBEq, Int.reduceToNat, Int.reduceLE, Int.reduceLT, Int.reduceEq, Int.reduceNe, di0, di1, di2, di3, di4, di5, di6, di7, di8, di9, postX_ret, postX_normal, ex_some]
    refine calls_of rp ?_; simp only [ruI, ssI, sbI, spI, swI, scI, stI, srI, saI, snI, res6, b6k0, b6k1, b6k2, b6k3, b6k4, b6k5, ↓reduceIte, reduceCtorEq, Nat.reduceEqDiff, Nat.reduceAdd, Nat.reduceMul, Nat.reduceSub, Nat.reduceLeDiff, Nat.reduceBEq, Int.reduceToNat, Int.reduceLE, Int.reduceLT, Int.reduceEq, Int.reduceNe, di0, di1, di2, di3, di4, di5, di6, di7, di8, di9, postX_ret, postX_normal, ex_some]
    refine calls_of rw1 ?_; simp only [ruI, ssI, sbI, spI, swI, scI, stI, srI, saI, snI, res6, b6k0, b6k1, b6k2, b6k3, b6k4, b6k5, ↓reduceIte, reduceCtorEq, Nat.reduceEqDiff, Nat.reduceAdd, Nat.reduceMul, Nat.reduceSub, Nat.reduceLeDiff, Nat.reduceBEq, Int.reduceToNat, Int.reduceLE, Int.reduceLT, Int.reduceEq, Int.reduceNe, di0, di1, di2, di3, di4, di5, di6, di7, di8, di9, postX_ret, postX_normal, ex_some]
    refine calls_of rs ?_; simp only [ruI, ssI, sbI, spI, swI, scI, stI, srI, saI, snI, res6, b6k0, b6k1, b6k2, b6k3, b6k4, b6k5, ↓reduceIte, reduceCtorEq, Nat.reduceEqDiff, Nat.reduceAdd, Nat.reduceMul, Nat.reduceSub, Nat.reduceLeDiff, Nat.reduceBEq, Int.reduceToNat, Int.reduceLE, Int.reduceLT, Int.reduceEq, Int.reduceNe, di0, di1, di2, di3, di4, di5, di6, di7, di8, di9, postX_ret, postX_normal, ex_some]
    simp only [hS, wZ, List.map_nil, ruI, ssI, sbI, spI, swI, scI, stI, srI, saI, snI, ↓reduceIte, reduceCtorEq, Nat.reduceEqDiff, Nat.reduceAdd, Nat.reduceMul, Nat.reduceSub, Nat.reduceLeDiff, Nat.reduceBEq, Int.reduceToNat, Int.reduceLE, Int.reduceLT, Int.reduceEq, Int.reduceNe, di0, di1, di2, di3, di4, di5, di6, di7, di8, di9, postX_ret, postX_normal, ex_some]
    refine calls_of zz ?_; simp only [ruI, ssI, sbI, spI, swI, scI, stI, srI, saI, snI, res6, b6k0, b6k1, b6k2, b6k3, b6k4, b6k5, ↓reduceIte, reduceCtorEq, Nat.reduceEqDiff, Nat.reduceAdd, Nat.reduceMul, Nat.reduceSub, Nat.reduceLeDiff, Nat.reduceBEq, Int.reduceToNat, Int.reduceLE, Int.reduceLT, Int.reduceEq, Int.reduceNe, di0, di1, di2, di3, di4, di5, di6, di7, di8, di9, postX_ret, postX_normal, ex_some]
  obtain ⟨_, hss⟩ := startsE_ok hS
  rw [hS] at rs
  rw [if_pos hS] at s1
  have wo := r_Worst hr hp (by omega) hss
  cases hw : worstP r p ss with
  | none =>
    rw [hw] at s1 wo
    refine calls_of s1 ?_; simp only [ruI, ssI, sbI, spI, swI, scI, stI, srI, saI, snI, res6, b6k0, b6k1, b6k2, b6k3, b6k4, b6k5, ↓reduceIte, reduceCtorEq, Nat.reduceEqDiff, Nat.reduceAdd, Nat.reduceMul, Nat.reduceSub, Nat.reduceLeDiff, Nat.reduceBEq, Int.reduceToNat, Int.reduceLE, Int.reduceLT, Int.reduceEq, Int.reduceNe, di0, di1, di2, di3, di4, di5, di6, di7, di8, di9, postX_ret, postX_normal, ex_some]
    refine calls_of cp ?_; simp only [ruI, ssI, sbI, spI, swI, scI, stI, srI, saI, snI, res6, b6k0, b6k1, b6k2, b6k3, b6k4, b6k5, ↓reduceIte, reduceCtorEq, Nat.reduceEqDiff, Nat.reduceAdd, Nat.reduceMul, Nat.reduceSub, Nat.reduceLeDiff, Nat.reduceBEq, Int.reduceToNat, Int.reduceLE, Int.reduceLT, Int.reduceEq, Int.reduceNe, di0, di1, di2, di3, di4, di5, di6, di7, di8, di9, postX_ret, postX_normal, ex_some]
    refine calls_of cw ?_; simp only [ruI, ssI, sbI, spI, swI, scI, stI, srI, saI, snI, res6, b6k0, b6k1, b6k2, b6k3, b6k4, b6k5, ↓reduceIte, reduceCtorEq, Nat.reduceEqDiff, Nat.reduceAdd, Nat.reduceMul, Nat.reduceSub, Nat.reduceLeDiff, Nat.reduceBEq, Int.reduceToNat, Int.reduceLE, Int.reduceLT, Int.reduceEq, Int.reduceNe, di0, di1, di2, di3, di4, di5, di6, di7, di8, di9, postX_ret, postX_normal, ex_some]
    refine calls_of s2 ?_; simp only [ruI, ssI, sbI, spI, swI, scI, stI, srI, saI, snI, res6, b6k0, b6k1, b6k2, b6k3, b6k4, b6k5, ↓reduceIte, reduceCtorEq, Nat.reduceEqDiff, Nat.reduceAdd, Nat.reduceMul, Nat.reduceSub, Nat.reduceLeDiff, Nat.reduceBEq, Int.reduceToNat, Int.reduceLE, Int.reduceLT, Int.reduceEq, Int.reduceNe, di0, di1, di2, di3, di4, di5, di6, di7, di8, di9, postX_ret, postX_normal, ex_some]
    refine calls_of rp ?_; simp only [ruI, ssI, sbI, spI, swI, scI, stI, srI, saI, snI, res6, b6k0, b6k1, b6k2, b6k3, b6k4, b6k5, ↓reduceIte, reduceCtorEq, Nat.reduceEqDiff, Nat.reduceAdd, Nat.reduceMul, Nat.reduceSub, Nat.reduceLeDiff, Nat.reduceBEq, Int.reduceToNat, Int.reduceLE, Int.reduceLT, Int.reduceEq, Int.reduceNe, di0, di1, di2, di3, di4, di5, di6, di7, di8, di9, postX_ret, postX_normal, ex_some]
    refine calls_of rw1 ?_; simp only [ruI, ssI, sbI, spI, swI, scI, stI, srI, saI, snI, res6, b6k0, b6k1, b6k2, b6k3, b6k4, b6k5, ↓reduceIte, reduceCtorEq, Nat.reduceEqDiff, Nat.reduceAdd, Nat.reduceMul, Nat.reduceSub, Nat.reduceLeDiff, Nat.reduceBEq, Int.reduceToNat, Int.reduceLE, Int.reduceLT, Int.reduceEq, Int.reduceNe, di0, di1, di2, di3, di4, di5, di6, di7, di8, di9, postX_ret, postX_normal, ex_some]
    refine calls_of rs ?_; simp only [ruI, ssI, sbI, spI, swI, scI, stI, srI, saI, snI, res6, b6k0, b6k1, b6k2, b6k3, b6k4, b6k5, ↓reduceIte, reduceCtorEq, Nat.reduceEqDiff, Nat.reduceAdd, Nat.reduceMul, Nat.reduceSub, Nat.reduceLeDiff, Nat.reduceBEq, Int.reduceToNat, Int.reduceLE, Int.reduceLT, Int.reduceEq, Int.reduceNe, di0, di1, di2, di3, di4, di5, di6, di7, di8, di9, postX_ret, postX_normal, ex_some]
    refine calls_of wo ?_; simp only [ruI, ssI, sbI, spI, swI, scI, stI, srI, saI, snI, res6, b6k0, b6k1, b6k2, b6k3, b6k4, b6k5, ↓reduceIte, reduceCtorEq, Nat.reduceEqDiff, Nat.reduceAdd, Nat.reduceMul, Nat.reduceSub, Nat.reduceLeDiff, Nat.reduceBEq, Int.reduceToNat, Int.reduceLE, Int.reduceLT, Int.reduceEq, Int.reduceNe, di0, di1, di2, di3, di4, di5, di6, di7, di8, di9, postX_ret, postX_normal, ex_some]
    simp only [wV, wZ, List.map_nil, ruI, ssI, sbI, spI, swI, scI, stI, srI, saI, snI, ↓reduceIte, reduceCtorEq, Nat.reduceEqDiff, Nat.reduceAdd, Nat.reduceMul, Nat.reduceSub, Nat.reduceLeDiff, Nat.reduceBEq, Int.reduceToNat, Int.reduceLE, Int.reduceLT, Int.reduceEq, Int.reduceNe, di0, di1, di2, di3, di4, di5, di6, di7, di8, di9, postX_ret, postX_normal, ex_some]
    refine calls_of zz ?_; simp only [ruI, ssI, sbI, spI, swI, scI, stI, srI, saI, snI, res6, b6k0, b6k1, b6k2, b6k3, b6k4, b6k5, ↓reduceIte, reduceCtorEq, Nat.reduceEqDiff, Nat.reduceAdd, Nat.reduceMul, Nat.reduceSub, Nat.reduceLeDiff, Nat.reduceBEq, Int.reduceToNat, Int.reduceLE, Int.reduceLT, Int.reduceEq, Int.reduceNe, di0, di1, di2, di3, di4, di5, di6, di7, di8, di9, postX_ret, postX_normal, ex_some]
  | some v =>
    rw [hw] at s1 wo
    refine calls_of s1 ?_; simp only [ruI, ssI, sbI, spI, swI, scI, stI, srI, saI, snI, res6, b6k0, b6k1, b6k2, b6k3, b6k4, b6k5, ↓reduceIte, reduceCtorEq, Nat.reduceEqDiff, Nat.reduceAdd, Nat.reduceMul, Nat.reduceSub, Nat.reduceLeDiff, Nat.reduceBEq, Int.reduceToNat, Int.reduceLE, Int.reduceLT, Int.reduceEq, Int.reduceNe, di0, di1, di2, di3, di4, di5, di6, di7, di8, di9, postX_ret, postX_normal, ex_some]
    refine calls_of cp ?_; simp only [ruI, ssI, sbI, spI, swI, scI, stI, srI, saI, snI, res6, b6k0, b6k1, b6k2, b6k3, b6k4, b6k5, ↓reduceIte, reduceCtorEq, Nat.reduceEqDiff, Nat.reduceAdd, Nat.reduceMul, Nat.reduceSub, Nat.reduceLeDiff, Nat.reduceBEq, Int.reduceToNat, Int.reduceLE, Int.reduceLT, Int.reduceEq, Int.reduceNe, di0, di1, di2, di3, di4, di5, di6, di7, di8, di9, postX_ret, postX_normal, ex_some]
    refine calls_of cw ?_; simp only [ruI, ssI, sbI, spI, swI, scI, stI, srI, saI, snI, res6, b6k0, b6k1, b6k2, b6k3, b6k4, b6k5, ↓reduceIte, reduceCtorEq, Nat.reduceEqDiff, Nat.reduceAdd, Nat.reduceMul, Nat.reduceSub, Nat.reduceLeDiff, Nat.reduceBEq, Int.reduceToNat, Int.reduceLE, Int.reduceLT, Int.reduceEq, Int.reduceNe, di0, di1, di2, di3, di4, di5, di6, di7, di8, di9, postX_ret, postX_normal, ex_some]
    refine calls_of s2 ?_; simp only [ruI, ssI, sbI, spI, swI, scI, stI, srI, saI, snI, res6, b6k0, b6k1, b6k2, b6k3, b6k4, b6k5, ↓reduceIte, reduceCtorEq, Nat.reduceEqDiff, Nat.reduceAdd, Nat.reduceMul, Nat.reduceSub, Nat.reduceLeDiff, Nat.reduceBEq, Int.reduceToNat, Int.reduceLE, Int.reduceLT, Int.reduceEq, Int.reduceNe, di0, di1, di2, di3, di4, di5, di6, di7, di8, di9, postX_ret, postX_normal, ex_some]
    refine calls_of rp ?_; simp only [ruI, ssI, sbI, spI, swI, scI, stI, srI, saI, snI, res6, b6k0, b6k1, b6k2, b6k3, b6k4, b6k5, ↓reduceIte, reduceCtorEq, Nat.reduceEqDiff, Nat.reduceAdd, Nat.reduceMul, Nat.reduceSub, Nat.reduceLeDiff, Nat.reduceBEq, Int.reduceToNat, Int.reduceLE, Int.reduceLT, Int.reduceEq, Int.reduceNe, di0, di1, di2, di3, di4, di5, di6, di7, di8, di9, postX_ret, postX_normal, ex_some]
    refine calls_of rw1 ?_; simp only [ruI, ssI, sbI, spI, swI, scI, stI, srI, saI, snI, res6, b6k0, b6k1, b6k2, b6k3, b6k4, b6k5, ↓reduceIte, reduceCtorEq, Nat.reduceEqDiff, Nat.reduceAdd, Nat.reduceMul, Nat.reduceSub, Nat.reduceLeDiff, Nat.reduceBEq, Int.reduceToNat, Int.reduceLE, Int.reduceLT, Int.reduceEq, Int.reduceNe, di0, di1, di2, di3, di4, di5, di6, di7, di8, di9, postX_ret, postX_normal, ex_some]
    refine calls_of rs ?_; simp only [ruI, ssI, sbI, spI, swI, scI, stI, srI, saI, snI, res6, b6k0, b6k1, b6k2, b6k3, b6k4, b6k5, ↓reduceIte, reduceCtorEq, Nat.reduceEqDiff, Nat.reduceAdd, Nat.reduceMul, Nat.reduceSub, Nat.reduceLeDiff, Nat.reduceBEq, Int.reduceToNat, Int.reduceLE, Int.reduceLT, Int.reduceEq, Int.reduceNe, di0, di1, di2, di3, di4, di5, di6, di7, di8, di9, postX_ret, postX_normal, ex_some]
    refine calls_of wo ?_; simp only [ruI, ssI, sbI, spI, swI, scI, stI, srI, saI, snI, res6, b6k0, b6k1, b6k2, b6k3, b6k4, b6k5, ↓reduceIte, reduceCtorEq, Nat.reduceEqDiff, Nat.reduceAdd, Nat.reduceMul, Nat.reduceSub, Nat.reduceLeDiff, Nat.reduceBEq, Int.reduceToNat, Int.reduceLE, Int.reduceLT, Int.reduceEq, Int.reduceNe, di0, di1, di2, di3, di4, di5, di6, di7, di8, di9, postX_ret, postX_normal, ex_some]
    obtain ⟨⟨o, ho, _, _, _, _, he, _⟩, _⟩ := worstP_best (r := r) (p := p) (ss := ss) hw
    have hvl : v.ord.length ≤ 1000000000 := by rw [he, (orders_mem ho).1]; omega
    simp only [wV, Option.isSome, ruI, ssI, sbI, spI, swI, scI, stI, srI, saI, snI, ↓reduceIte, reduceCtorEq, Nat.reduceEqDiff, Nat.reduceAdd, Nat.reduceMul, Nat.reduceSub, Nat.reduceLeDiff, Nat.reduceBEq, Int.reduceToNat, Int.reduceLE, Int.reduceLT, Int.reduceEq, Int.reduceNe, di0, di1, di2, di3, di4, di5, di6, di7, di8, di9, postX_ret, postX_normal, ex_some]
    refine calls_of (r_SameWitness (v := v) (w := v) hvl) ?_; simp only [ruI, ssI, sbI, spI, swI, scI, stI, srI, saI, snI, res6, b6k0, b6k1, b6k2, b6k3, b6k4, b6k5, ↓reduceIte, reduceCtorEq, Nat.reduceEqDiff, Nat.reduceAdd, Nat.reduceMul, Nat.reduceSub, Nat.reduceLeDiff, Nat.reduceBEq, Int.reduceToNat, Int.reduceLE, Int.reduceLT, Int.reduceEq, Int.reduceNe, di0, di1, di2, di3, di4, di5, di6, di7, di8, di9, postX_ret, postX_normal, ex_some]
end Go.DI

