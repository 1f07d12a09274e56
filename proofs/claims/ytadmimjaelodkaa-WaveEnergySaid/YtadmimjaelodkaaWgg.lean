/- The functions of pressures, flows and energies, as data. No condition. -/
import Derived.Test.YtadmimjaelodkaaWeGe
import Derived.Test.YtadmimjaelodkaaProg
import Derived.KernelRfl
namespace Go.DI
open Go.Proofs Go.RowKit
/-- guidevane/wave.EnergyOf -/
def b65a0 : DCode :=
 (.seq
  (.region [⟨(some 9), .mov, [.t 24], none, []⟩] false)
  (.region [⟨(some 10), .mov, [.t 25], none, []⟩] false))
def b65r0 : DCode :=
 (.block 1
  (.region [⟨(some 26), (.load false 1), [.t 8], none, []⟩,
    ⟨(some 27), .mov, [.t 10], none, []⟩,
    ⟨(some 28), (.bin .mul), [.c (.int .i64 2), .t 27], none, [1]⟩,
    ⟨(some 29), (.faddr 0 false 1), [.t 3], none, []⟩,
    ⟨(some 30), (.load false 1), [.t 29], none, [3]⟩,
    ⟨(some 31), .mov, [.t 9], none, []⟩,
    ⟨(some 32), (.iaddr 1), [.t 30, .t 31], none, [4, 5]⟩,
    ⟨(some 33), (.load false 1), [.t 32], none, [6]⟩,
    ⟨(some 34), (.faddr 0 false 1), [.t 3], none, []⟩,
    ⟨(some 35), (.load false 1), [.t 34], none, [8]⟩,
    ⟨(some 36), .mov, [.t 9], none, []⟩,
    ⟨(some 37), (.iaddr 1), [.t 35, .t 36], none, [9, 10]⟩,
    ⟨(some 38), (.load false 1), [.t 37], none, [11]⟩,
    ⟨(some 39), (.bin .mul), [.t 33, .t 38], none, [7, 12]⟩,
    ⟨(some 40), (.faddr 1 false 1), [.t 3], none, []⟩,
    ⟨(some 41), (.load false 1), [.t 40], none, [14]⟩,
    ⟨(some 42), .mov, [.t 9], none, []⟩,
    ⟨(some 43), (.iaddr 1), [.t 41, .t 42], none, [15, 16]⟩,
    ⟨(some 44), (.load false 1), [.t 43], none, [17]⟩,
    ⟨(some 45), (.faddr 1 false 1), [.t 3], none, []⟩,
    ⟨(some 46), (.load false 1), [.t 45], none, [19]⟩,
    ⟨(some 47), .mov, [.t 9], none, []⟩,
    ⟨(some 48), (.iaddr 1), [.t 46, .t 47], none, [20, 21]⟩,
    ⟨(some 49), (.load false 1), [.t 48], none, [22]⟩,
    ⟨(some 50), (.bin .mul), [.t 44, .t 49], none, [18, 23]⟩,
    ⟨(some 51), (.bin .add), [.t 39, .t 50], none, [13, 24]⟩,
    ⟨(some 52), (.bin .mul), [.t 28, .t 51], none, [2, 25]⟩,
    ⟨(some 53), (.bin .add), [.t 26, .t 52], none, [0, 26]⟩,
    ⟨none, (.store 1), [.t 8, .t 53], none, [27, 0, 1, 2, 3, 4, 5, 6, 7, 8, 9, 10, 11, 12, 13, 14, 15, 16, 17, 18, 19, 20, 21, 22, 23, 24, 25, 26, 27]⟩] true))
def b65k0 : DCode :=
 (.seq
  (.block 3
   (.seq
    (.region [⟨(some 59), .mov, [.t 57], none, []⟩,
      ⟨(some 60), (.iaddr 1), [.t 55, .t 57], none, []⟩,
      ⟨(some 61), (.load false 1), [.t 60], none, [1]⟩,
      ⟨(some 11), .mov, [.t 59], none, [0, 0, 1, 2]⟩,
      ⟨(some 12), .mov, [.t 61], none, [2, 3, 0, 1, 2, 3]⟩] false)
    (.region [⟨(some 62), (.load false 1), [.t 8], none, []⟩,
      ⟨(some 63), (.faddr 1 false 1), [.t 2], none, []⟩,
      ⟨(some 64), (.load false 1), [.t 63], none, [1]⟩,
      ⟨(some 65), .mov, [.t 11], none, []⟩,
      ⟨(some 66), (.iaddr 1), [.t 64, .t 65], none, [2, 3]⟩,
      ⟨(some 67), (.load false 1), [.t 66], none, [4]⟩,
      ⟨(some 68), .mov, [.t 12], none, []⟩,
      ⟨(some 69), (.bin .mul), [.t 67, .t 68], none, [5, 6]⟩,
      ⟨(some 70), .mov, [.t 12], none, []⟩,
      ⟨(some 71), (.bin .mul), [.t 69, .t 70], none, [7, 8]⟩,
      ⟨(some 72), (.bin .add), [.t 62, .t 71], none, [0, 9]⟩,
      ⟨none, (.store 1), [.t 8, .t 72], none, [10, 0, 1, 2, 3, 4, 5, 6, 7, 8, 9, 10]⟩] true)))
  (.region [⟨(some 73), (.bin .add), [.t 57, .c (.int .i64 1)], none, []⟩,
    ⟨(some 57), .mov, [.t 73], none, [0]⟩] false))
def b65l1 : DCode := .keep [2, 8, 55, 56, 57] [2, 8]
  (.seq
   (.region [⟨(some 58), (.bin .lss), [.t 57, .t 56], none, []⟩] false)
   (.seq
    (.cond (.t 58)
     .skip
     (.exit 2))
    (.keep [2, 8, 55, 56, 57] [2, 8] b65k0)))
def b65k1 : DCode :=
 (.seq
  (.region [⟨(some 74), (.load false 1), [.t 8], none, []⟩,
    ⟨(some 4), .mov, [.t 74], none, [0, 0]⟩,
    ⟨(some 5), .mov, [.c (.int .i64 0)], none, [1, 0, 1]⟩] false)
  .ret)
def b65k2 : DCode :=
 (.seq
  (.seq
   (.region [⟨(some 54), (.faddr 2 false 1), [.t 3], none, []⟩,
     ⟨(some 55), (.load false 1), [.t 54], none, [0]⟩,
     ⟨(some 56), .len, [.t 55], none, [1]⟩,
     ⟨(some 57), .mov, [.c (.int .i64 0)], none, []⟩] false)
   (.block 2
    (.loop b65l1)))
  (.keep [8] [8] b65k1))
def b65k3 : DCode :=
 (.seq
  (.region [⟨(some 8), (.alloc [(.imm (.int .i64 0))]), [], none, []⟩,
    ⟨none, (.store 1), [.t 8, .c (.int .i64 0)], none, [0, 0]⟩] false)
  (.seq
   (.seq
    (.region [⟨(some 22), (.load true 4), [.t 6], none, []⟩,
      ⟨(some 23), (.mkfn 124 1), [.t 22], none, [0]⟩] false)
    (.block 0
     (.rangeF (.t 23) [24, 25] [2, 3, 8] [2, 3, 8] [] [2, 3, 8] b65a0 b65r0)))
   (.keep [2, 3, 8] [2, 3, 8] b65k2)))
def b65 : DCode :=
 (.seq
  (.region [⟨(some 2), .box, [.t 0], none, []⟩,
    ⟨(some 3), .box, [.t 1], none, []⟩,
    ⟨(some 4), .mov, [.c (.int .i64 0)], none, []⟩,
    ⟨(some 5), .mov, [.c (.int .i64 0)], none, [2]⟩] false)
  (.seq
   (.region [⟨(some 14), (.load true 2), [.t 2], none, []⟩,
     ⟨(some 15), (.load true 3), [.t 3], none, []⟩,
     ⟨(some 16), .call, [.f 88, .t 14, .t 15], none, [0, 1]⟩,
     ⟨(some 13), .mov, [.t 16], none, [2]⟩,
     ⟨(some 17), (.ext 0), [.t 13], none, [3]⟩,
     ⟨(some 18), (.ext 1), [.t 13], none, [3]⟩,
     ⟨(some 6), (.alloc [(.imm (.slc 2 [])), (.imm (.slc 1 [])), (.imm (.slc 1 [])), (.imm (.int .i64 0))]), [], none, []⟩,
     ⟨none, (.store 4), [.t 6, .t 17], none, [6, 4, 2, 0, 1, 2, 3, 4, 6]⟩,
     ⟨(some 7), .mov, [.t 18], none, [5, 7, 0, 1, 2, 3, 4, 5, 6, 7]⟩] false)
   (.seq
    (.seq
     (.region [⟨(some 19), .mov, [.t 7], none, []⟩,
       ⟨(some 20), (.bin .neq), [.t 19, .c (.int .i64 0)], none, [0]⟩] false)
     (.cond (.t 20)
      (.seq
       (.region [⟨(some 21), .mov, [.t 7], none, []⟩,
         ⟨(some 4), .mov, [.c (.int .i64 0)], none, []⟩,
         ⟨(some 5), .mov, [.t 21], none, [0, 1, 0, 1]⟩] false)
       .ret)
      .skip))
    (.keep [2, 3, 6] [2, 3, 6] b65k3))))
def d65 : DFn := ⟨2, 75, [.tmp 4, .tmp 5], b65⟩
theorem body65 : d65.body = b65 := rfl
theorem res65 : d65.res = [.tmp 4, .tmp 5] := rfl
theorem k65 : chkFn Try.prog Try.f65 d65 = true := by kernel_rfl

/-- (guidevane/wave.line).admittances -/
def b124k0 : DCode :=
 (.region [⟨(some 25), .mov, [.t 4], none, []⟩,
   ⟨(some 26), (.bin .add), [.t 25, .c (.int .i64 1)], none, [0]⟩,
   ⟨(some 4), .mov, [.t 26], none, [1, 0, 1]⟩] false)
def b124k1 : DCode :=
 (.region [⟨(some 27), (.bin .add), [.t 17, .c (.int .i64 1)], none, []⟩,
   ⟨(some 17), .mov, [.t 27], none, [0]⟩] false)
def b124k2 : DCode :=
 (.seq
  (.block 3
   (.seq
    (.seq
     (.region [⟨(some 19), .mov, [.t 1], none, []⟩,
       ⟨(some 20), .mov, [.t 4], none, []⟩,
       ⟨(some 21), (.faddr 1 false 1), [.t 6], none, []⟩,
       ⟨(some 22), (.load false 1), [.t 21], none, [2]⟩,
       ⟨(some 23), .yield, [.t 19, .t 20, .t 22], none, [0, 1, 3]⟩,
       ⟨(some 24), (.un .not), [.t 23], none, [4]⟩] false)
     (.cond (.t 24)
      .ret
      .skip))
    (.keep [1, 4, 6, 9, 10, 11, 16, 17] [0, 6] b124k0)))
  (.keep [1, 4, 6, 9, 10, 11, 16, 17] [0, 6] b124k1))
def b124l0 : DCode := .keep [1, 4, 6, 9, 10, 11, 16, 17] [0, 6]
  (.seq
   (.region [⟨(some 18), (.bin .lss), [.t 17, .t 16], none, []⟩] false)
   (.seq
    (.cond (.t 18)
     .skip
     (.exit 2))
    (.keep [1, 4, 6, 9, 10, 11, 16, 17] [0, 6] b124k2)))
def b124k3 : DCode :=
 (.region [⟨(some 28), (.bin .add), [.t 11, .c (.int .i64 1)], none, []⟩,
   ⟨(some 11), .mov, [.t 28], none, [0]⟩] false)
def b124k4 : DCode :=
 (.seq
  (.block 1
   (.seq
    (.region [⟨(some 13), (.iaddr 2), [.t 9, .t 11], none, []⟩,
      ⟨(some 14), (.load true 2), [.t 13], none, [0]⟩,
      ⟨(some 6), (.alloc [(.imm (.int .i64 0)), (.imm (.int .i64 0))]), [], none, []⟩,
      ⟨none, (.store 2), [.t 6, .t 14], none, [2, 1, 0, 1, 2]⟩] false)
    (.seq
     (.region [⟨(some 15), (.faddr 0 false 1), [.t 6], none, []⟩,
       ⟨(some 16), (.load false 1), [.t 15], none, [0]⟩,
       ⟨(some 17), .mov, [.c (.int .i64 0)], none, []⟩] false)
     (.block 2
      (.loop b124l0)))))
  (.keep [1, 4, 9, 10, 11] [0] b124k3))
def b124l1 : DCode := .keep [1, 4, 9, 10, 11] [0]
  (.seq
   (.region [⟨(some 12), (.bin .lss), [.t 11, .t 10], none, []⟩] false)
   (.seq
    (.cond (.t 12)
     .skip
     (.exit 0))
    (.keep [1, 4, 9, 10, 11] [0] b124k4)))
def b124 : DCode :=
 (.seq
  (.region [⟨(some 2), .box, [.t 0], none, []⟩] false)
  (.seq
   (.region [⟨(some 4), .mov, [.c (.int .i64 0)], none, []⟩] false)
   (.seq
    (.region [⟨(some 7), (.faddr 0 true 2), [.t 2], none, []⟩,
      ⟨(some 8), (.faddr 0 false 1), [.t 7], none, [0]⟩,
      ⟨(some 9), (.load false 1), [.t 8], none, [1]⟩,
      ⟨(some 10), .len, [.t 9], none, [2]⟩,
      ⟨(some 11), .mov, [.c (.int .i64 0)], none, []⟩] false)
    (.block 0
     (.loop b124l1)))))
def d124 : DFn := ⟨2, 29, [], b124⟩
theorem body124 : d124.body = b124 := rfl
theorem res124 : d124.res = [] := rfl
theorem k124 : chkFnB Try.prog Try.f124 d124 [0] [0] = true := by kernel_rfl

end Go.DI

