/- The functions of pressures, flows and energies, as data. No condition. -/
import Derived.Test.YtadmimjaelodkaaWeGe
import Derived.Test.YtadmimjaelodkaaProg
import Derived.KernelRfl
namespace Go.DI
open Go.Proofs Go.RowKit
/-- guidevane/wave.pressures -/
def b126k0 : DCode :=
 (.seq
  (.block 1
   (.seq
    (.region [⟨(some 11), .mov, [.t 9], none, []⟩,
      ⟨(some 12), (.iaddr 1), [.t 7, .t 9], none, []⟩,
      ⟨(some 13), (.load false 1), [.t 12], none, [1]⟩,
      ⟨(some 4), .mov, [.t 11], none, [0, 0, 1, 2]⟩,
      ⟨(some 5), .mov, [.t 13], none, [2, 3, 0, 1, 2, 3]⟩] false)
    (.region [⟨(some 14), .mov, [.t 3], none, []⟩,
      ⟨(some 15), .mov, [.t 5], none, []⟩,
      ⟨(some 16), (.faddr 1 false 1), [.t 1], none, []⟩,
      ⟨(some 17), (.load false 1), [.t 16], none, [2]⟩,
      ⟨(some 18), .mov, [.t 4], none, []⟩,
      ⟨(some 19), (.iaddr 1), [.t 17, .t 18], none, [3, 4]⟩,
      ⟨(some 20), (.load false 1), [.t 19], none, [5]⟩,
      ⟨(some 21), (.bin .add), [.t 15, .t 20], none, [1, 6]⟩,
      ⟨(some 22), (.bsl 1), [.t 21], none, [7]⟩,
      ⟨(some 23), (.append 1 8 false), [.t 14, .t 22], none, [0, 8]⟩,
      ⟨(some 3), .mov, [.t 23], none, [9, 9, 0, 1, 2, 3, 4, 5, 6, 7, 8, 9]⟩] false)))
  (.region [⟨(some 24), (.bin .add), [.t 9, .c (.int .i64 1)], none, []⟩,
    ⟨(some 9), .mov, [.t 24], none, [0]⟩] false))
def b126l0 : DCode := .keep [1, 3, 7, 8, 9] [1, 3, 23]
  (.seq
   (.region [⟨(some 10), (.bin .lss), [.t 9, .t 8], none, []⟩] false)
   (.seq
    (.cond (.t 10)
     .skip
     (.exit 0))
    (.keep [1, 3, 7, 8, 9] [1, 3, 23] b126k0)))
def b126k1 : DCode :=
 (.seq
  (.region [⟨(some 25), .movv, [.t 3], none, []⟩,
    ⟨(some 2), .movv, [.t 25], none, [0, 0]⟩] false)
  .ret)
def b126 : DCode :=
 (.seq
  (.region [⟨(some 1), .box, [.t 0], none, []⟩,
    ⟨(some 2), .mov, [.c (.slc 1 [])], none, []⟩] false)
  (.seq
   (.region [⟨(some 3), (.ntok 1), [.c (.slc 1 [])], none, []⟩] false)
   (.seq
    (.seq
     (.region [⟨(some 6), (.faddr 0 false 1), [.t 1], none, []⟩,
       ⟨(some 7), (.load false 1), [.t 6], none, [0]⟩,
       ⟨(some 8), .len, [.t 7], none, [1]⟩,
       ⟨(some 9), .mov, [.c (.int .i64 0)], none, []⟩] false)
     (.block 0
      (.loop b126l0)))
    (.keep [3] [3, 23] b126k1))))
def d126 : DFn := ⟨1, 26, [.tmp 2], b126⟩
theorem body126 : d126.body = b126 := rfl
theorem res126 : d126.res = [.tmp 2] := rfl
theorem k126 : chkFn Try.prog Try.f126 d126 = true := by kernel_rfl

/-- guidevane/wave.PressuresOf -/
def b72k0 : DCode :=
 (.seq
  (.region [⟨(some 17), (.load true 3), [.t 3], none, []⟩,
    ⟨(some 18), .call, [.f 126, .t 17], none, [0]⟩,
    ⟨(some 4), .movv, [.t 18], none, [1, 1, 0, 1]⟩,
    ⟨(some 5), .mov, [.c (.int .i64 0)], none, [2, 0, 1, 2]⟩] false)
  .ret)
def b72 : DCode :=
 (.seq
  (.region [⟨(some 2), .box, [.t 0], none, []⟩,
    ⟨(some 3), .box, [.t 1], none, []⟩,
    ⟨(some 4), .mov, [.c (.slc 1 [])], none, []⟩,
    ⟨(some 5), .mov, [.c (.int .i64 0)], none, [2]⟩] false)
  (.seq
   (.seq
    (.region [⟨(some 9), (.load true 2), [.t 2], none, []⟩,
      ⟨(some 10), (.load true 3), [.t 3], none, []⟩,
      ⟨(some 11), .call, [.f 88, .t 9, .t 10], none, [0, 1]⟩,
      ⟨(some 8), .mov, [.t 11], none, [2]⟩,
      ⟨(some 12), (.ext 0), [.t 8], none, [3]⟩,
      ⟨(some 13), (.ext 1), [.t 8], none, [3]⟩,
      ⟨(some 6), (.alloc [(.imm (.slc 2 [])), (.imm (.slc 1 [])), (.imm (.slc 1 [])), (.imm (.int .i64 0))]), [], none, []⟩,
      ⟨none, (.store 4), [.t 6, .t 12], none, [6, 4, 2, 0, 1, 2, 3, 4, 6]⟩,
      ⟨(some 7), .mov, [.t 13], none, [5, 7, 0, 1, 2, 3, 4, 5, 6, 7]⟩] false)
    (.seq
     (.region [⟨(some 14), .mov, [.t 7], none, []⟩,
       ⟨(some 15), (.bin .neq), [.t 14, .c (.int .i64 0)], none, [0]⟩] false)
     (.cond (.t 15)
      (.seq
       (.region [⟨(some 16), .mov, [.t 7], none, []⟩,
         ⟨(some 4), .mov, [.c (.slc 1 [])], none, []⟩,
         ⟨(some 5), .mov, [.t 16], none, [0, 1, 0, 1]⟩] false)
       .ret)
      .skip)))
   (.keep [3] [3] b72k0)))
def d72 : DFn := ⟨2, 19, [.tmp 4, .tmp 5], b72⟩
theorem body72 : d72.body = b72 := rfl
theorem res72 : d72.res = [.tmp 4, .tmp 5] := rfl
theorem k72 : chkFn Try.prog Try.f72 d72 = true := by kernel_rfl

/-- guidevane/wave.FlowsOf -/
def b73a0 : DCode :=
 (.seq
  (.region [⟨(some 9), .mov, [.t 22], none, []⟩] false)
  (.region [⟨(some 10), .mov, [.t 23], none, []⟩] false))
def b73r0 : DCode :=
 (.block 1
  (.region [⟨(some 24), (.load false 1), [.t 8], none, []⟩,
    ⟨(some 25), .mov, [.t 10], none, []⟩,
    ⟨(some 26), (.faddr 0 false 1), [.t 3], none, []⟩,
    ⟨(some 27), (.load false 1), [.t 26], none, [2]⟩,
    ⟨(some 28), .mov, [.t 9], none, []⟩,
    ⟨(some 29), (.iaddr 1), [.t 27, .t 28], none, [3, 4]⟩,
    ⟨(some 30), (.load false 1), [.t 29], none, [5]⟩,
    ⟨(some 31), (.faddr 1 false 1), [.t 3], none, []⟩,
    ⟨(some 32), (.load false 1), [.t 31], none, [7]⟩,
    ⟨(some 33), .mov, [.t 9], none, []⟩,
    ⟨(some 34), (.iaddr 1), [.t 32, .t 33], none, [8, 9]⟩,
    ⟨(some 35), (.load false 1), [.t 34], none, [10]⟩,
    ⟨(some 36), (.bin .sub), [.t 30, .t 35], none, [6, 11]⟩,
    ⟨(some 37), (.bin .mul), [.t 25, .t 36], none, [1, 12]⟩,
    ⟨(some 38), (.bsl 1), [.t 37], none, [13]⟩,
    ⟨(some 39), (.append 1 8 false), [.t 24, .t 38], none, [0, 14]⟩,
    ⟨none, (.store 1), [.t 8, .t 39], none, [15, 15, 0, 1, 2, 3, 4, 5, 6, 7, 8, 9, 10, 11, 12, 13, 14, 15]⟩] true))
def b73k0 : DCode :=
 (.seq
  (.region [⟨(some 40), (.load false 1), [.t 8], none, []⟩,
    ⟨(some 4), .movv, [.t 40], none, [0, 0]⟩,
    ⟨(some 5), .mov, [.c (.int .i64 0)], none, [1, 0, 1]⟩] false)
  .ret)
def b73k1 : DCode :=
 (.seq
  (.region [⟨(some 8), (.alloc [(.cap0 1 [])]), [], none, []⟩] false)
  (.mktok 8 0 1008 1
   (.seq
    (.seq
     (.region [⟨(some 20), (.load true 4), [.t 6], none, []⟩,
       ⟨(some 21), (.mkfn 124 1), [.t 20], none, [0]⟩] false)
     (.block 0
      (.rangeF (.t 21) [22, 23] [3, 8] [3, 8] [] [3, 8, 39, 1008] b73a0 b73r0)))
    (.keep [8] [8, 39, 1008] b73k0))))
def b73 : DCode :=
 (.seq
  (.region [⟨(some 2), .box, [.t 0], none, []⟩,
    ⟨(some 3), .box, [.t 1], none, []⟩,
    ⟨(some 4), .mov, [.c (.slc 1 [])], none, []⟩,
    ⟨(some 5), .mov, [.c (.int .i64 0)], none, [2]⟩] false)
  (.seq
   (.region [⟨(some 12), (.load true 2), [.t 2], none, []⟩,
     ⟨(some 13), (.load true 3), [.t 3], none, []⟩,
     ⟨(some 14), .call, [.f 88, .t 12, .t 13], none, [0, 1]⟩,
     ⟨(some 11), .mov, [.t 14], none, [2]⟩,
     ⟨(some 15), (.ext 0), [.t 11], none, [3]⟩,
     ⟨(some 16), (.ext 1), [.t 11], none, [3]⟩,
     ⟨(some 6), (.alloc [(.imm (.slc 2 [])), (.imm (.slc 1 [])), (.imm (.slc 1 [])), (.imm (.int .i64 0))]), [], none, []⟩,
     ⟨none, (.store 4), [.t 6, .t 15], none, [6, 4, 2, 0, 1, 2, 3, 4, 6]⟩,
     ⟨(some 7), .mov, [.t 16], none, [5, 7, 0, 1, 2, 3, 4, 5, 6, 7]⟩] false)
   (.seq
    (.seq
     (.region [⟨(some 17), .mov, [.t 7], none, []⟩,
       ⟨(some 18), (.bin .neq), [.t 17, .c (.int .i64 0)], none, [0]⟩] false)
     (.cond (.t 18)
      (.seq
       (.region [⟨(some 19), .mov, [.t 7], none, []⟩,
         ⟨(some 4), .mov, [.c (.slc 1 [])], none, []⟩,
         ⟨(some 5), .mov, [.t 19], none, [0, 1, 0, 1]⟩] false)
       .ret)
      .skip))
    (.keep [3, 6] [3, 6] b73k1))))
def d73 : DFn := ⟨2, 41, [.tmp 4, .tmp 5], b73⟩
theorem body73 : d73.body = b73 := rfl
theorem res73 : d73.res = [.tmp 4, .tmp 5] := rfl
theorem k73 : chkFn Try.prog Try.f73 d73 = true := by kernel_rfl

/-- guidevane/wave.EnergyOf -/
def b65a0 : DCode :=
 (.seq
  (.region [⟨(some 9), .mov, [.t 24], none, []⟩] false)
  (.region [⟨(some 10), .mov, [.t 25], none, []⟩] false))
def b65r0 : DCode :=
 (.block 1
  (.region [⟨(some 26), (.load false 1), [.t 8], none, []⟩,
    ⟨(some 27), .mov, [.t 10], none, []⟩,
    ⟨(some 28), (.bin .mul), [.c (.int .i64 2), .t 27], none, [1]⟩,
    ⟨(some 29), (.faddr 0 false 1), [.t 3], none, []⟩,
    ⟨(some 30), (.load false 1), [.t 29], none, [3]⟩,
    ⟨(some 31), .mov, [.t 9], none, []⟩,
    ⟨(some 32), (.iaddr 1), [.t 30, .t 31], none, [4, 5]⟩,
    ⟨(some 33), (.load false 1), [.t 32], none, [6]⟩,
    ⟨(some 34), (.faddr 0 false 1), [.t 3], none, []⟩,
    ⟨(some 35), (.load false 1), [.t 34], none, [8]⟩,
    ⟨(some 36), .mov, [.t 9], none, []⟩,
    ⟨(some 37), (.iaddr 1), [.t 35, .t 36], none, [9, 10]⟩,
    ⟨(some 38), (.load false 1), [.t 37], none, [11]⟩,
    ⟨(some 39), (.bin .mul), [.t 33, .t 38], none, [7, 12]⟩,
    ⟨(some 40), (.faddr 1 false 1), [.t 3], none, []⟩,
    ⟨(some 41), (.load false 1), [.t 40], none, [14]⟩,
    ⟨(some 42), .mov, [.t 9], none, []⟩,
    ⟨(some 43), (.iaddr 1), [.t 41, .t 42], none, [15, 16]⟩,
    ⟨(some 44), (.load false 1), [.t 43], none, [17]⟩,
    ⟨(some 45), (.faddr 1 false 1), [.t 3], none, []⟩,
    ⟨(some 46), (.load false 1), [.t 45], none, [19]⟩,
    ⟨(some 47), .mov, [.t 9], none, []⟩,
    ⟨(some 48), (.iaddr 1), [.t 46, .t 47], none, [20, 21]⟩,
    ⟨(some 49), (.load false 1), [.t 48], none, [22]⟩,
    ⟨(some 50), (.bin .mul), [.t 44, .t 49], none, [18, 23]⟩,
    ⟨(some 51), (.bin .add), [.t 39, .t 50], none, [13, 24]⟩,
    ⟨(some 52), (.bin .mul), [.t 28, .t 51], none, [2, 25]⟩,
    ⟨(some 53), (.bin .add), [.t 26, .t 52], none, [0, 26]⟩,
    ⟨none, (.store 1), [.t 8, .t 53], none, [27, 0, 1, 2, 3, 4, 5, 6, 7, 8, 9, 10, 11, 12, 13, 14, 15, 16, 17, 18, 19, 20, 21, 22, 23, 24, 25, 26, 27]⟩] true))
def b65k0 : DCode :=
 (.seq
  (.block 3
   (.seq
    (.region [⟨(some 59), .mov, [.t 57], none, []⟩,
      ⟨(some 60), (.iaddr 1), [.t 55, .t 57], none, []⟩,
      ⟨(some 61), (.load false 1), [.t 60], none, [1]⟩,
      ⟨(some 11), .mov, [.t 59], none, [0, 0, 1, 2]⟩,
      ⟨(some 12), .mov, [.t 61], none, [2, 3, 0, 1, 2, 3]⟩] false)
    (.region [⟨(some 62), (.load false 1), [.t 8], none, []⟩,
      ⟨(some 63), (.faddr 1 false 1), [.t 2], none, []⟩,
      ⟨(some 64), (.load false 1), [.t 63], none, [1]⟩,
      ⟨(some 65), .mov, [.t 11], none, []⟩,
      ⟨(some 66), (.iaddr 1), [.t 64, .t 65], none, [2, 3]⟩,
      ⟨(some 67), (.load false 1), [.t 66], none, [4]⟩,
      ⟨(some 68), .mov, [.t 12], none, []⟩,
      ⟨(some 69), (.bin .mul), [.t 67, .t 68], none, [5, 6]⟩,
      ⟨(some 70), .mov, [.t 12], none, []⟩,
      ⟨(some 71), (.bin .mul), [.t 69, .t 70], none, [7, 8]⟩,
      ⟨(some 72), (.bin .add), [.t 62, .t 71], none, [0, 9]⟩,
      ⟨none, (.store 1), [.t 8, .t 72], none, [10, 0, 1, 2, 3, 4, 5, 6, 7, 8, 9, 10]⟩] true)))
  (.region [⟨(some 73), (.bin .add), [.t 57, .c (.int .i64 1)], none, []⟩,
    ⟨(some 57), .mov, [.t 73], none, [0]⟩] false))
def b65l1 : DCode := .keep [2, 8, 55, 56, 57] [2, 8]
  (.seq
   (.region [⟨(some 58), (.bin .lss), [.t 57, .t 56], none, []⟩] false)
   (.seq
    (.cond (.t 58)
     .skip
     (.exit 2))
    (.keep [2, 8, 55, 56, 57] [2, 8] b65k0)))
def b65k1 : DCode :=
 (.seq
  (.region [⟨(some 74), (.load false 1), [.t 8], none, []⟩,
    ⟨(some 4), .mov, [.t 74], none, [0, 0]⟩,
    ⟨(some 5), .mov, [.c (.int .i64 0)], none, [1, 0, 1]⟩] false)
  .ret)
def b65k2 : DCode :=
 (.seq
  (.seq
   (.region [⟨(some 54), (.faddr 2 false 1), [.t 3], none, []⟩,
     ⟨(some 55), (.load false 1), [.t 54], none, [0]⟩,
     ⟨(some 56), .len, [.t 55], none, [1]⟩,
     ⟨(some 57), .mov, [.c (.int .i64 0)], none, []⟩] false)
   (.block 2
    (.loop b65l1)))
  (.keep [8] [8] b65k1))
def b65k3 : DCode :=
 (.seq
  (.region [⟨(some 8), (.alloc [(.imm (.int .i64 0))]), [], none, []⟩,
    ⟨none, (.store 1), [.t 8, .c (.int .i64 0)], none, [0, 0]⟩] false)
  (.seq
   (.seq
    (.region [⟨(some 22), (.load true 4), [.t 6], none, []⟩,
      ⟨(some 23), (.mkfn 124 1), [.t 22], none, [0]⟩] false)
    (.block 0
     (.rangeF (.t 23) [24, 25] [2, 3, 8] [2, 3, 8] [] [2, 3, 8] b65a0 b65r0)))
   (.keep [2, 3, 8] [2, 3, 8] b65k2)))
def b65 : DCode :=
 (.seq
  (.region [⟨(some 2), .box, [.t 0], none, []⟩,
    ⟨(some 3), .box, [.t 1], none, []⟩,
    ⟨(some 4), .mov, [.c (.int .i64 0)], none, []⟩,
    ⟨(some 5), .mov, [.c (.int .i64 0)], none, [2]⟩] false)
  (.seq
   (.region [⟨(some 14), (.load true 2), [.t 2], none, []⟩,
     ⟨(some 15), (.load true 3), [.t 3], none, []⟩,
     ⟨(some 16), .call, [.f 88, .t 14, .t 15], none, [0, 1]⟩,
     ⟨(some 13), .mov, [.t 16], none, [2]⟩,
     ⟨(some 17), (.ext 0), [.t 13], none, [3]⟩,
     ⟨(some 18), (.ext 1), [.t 13], none, [3]⟩,
     ⟨(some 6), (.alloc [(.imm (.slc 2 [])), (.imm (.slc 1 [])), (.imm (.slc 1 [])), (.imm (.int .i64 0))]), [], none, []⟩,
     ⟨none, (.store 4), [.t 6, .t 17], none, [6, 4, 2, 0, 1, 2, 3, 4, 6]⟩,
     ⟨(some 7), .mov, [.t 18], none, [5, 7, 0, 1, 2, 3, 4, 5, 6, 7]⟩] false)
   (.seq
    (.seq
     (.region [⟨(some 19), .mov, [.t 7], none, []⟩,
       ⟨(some 20), (.bin .neq), [.t 19, .c (.int .i64 0)], none, [0]⟩] false)
     (.cond (.t 20)
      (.seq
       (.region [⟨(some 21), .mov, [.t 7], none, []⟩,
         ⟨(some 4), .mov, [.c (.int .i64 0)], none, []⟩,
         ⟨(some 5), .mov, [.t 21], none, [0, 1, 0, 1]⟩] false)
       .ret)
      .skip))
    (.keep [2, 3, 6] [2, 3, 6] b65k3))))
def d65 : DFn := ⟨2, 75, [.tmp 4, .tmp 5], b65⟩
theorem body65 : d65.body = b65 := rfl
theorem res65 : d65.res = [.tmp 4, .tmp 5] := rfl
theorem k65 : chkFn Try.prog Try.f65 d65 = true := by kernel_rfl

/-- (guidevane/wave.line).admittances -/
def b124k0 : DCode :=
 (.region [⟨(some 25), .mov, [.t 4], none, []⟩,
   ⟨(some 26), (.bin .add), [.t 25, .c (.int .i64 1)], none, [0]⟩,
   ⟨(some 4), .mov, [.t 26], none, [1, 0, 1]⟩] false)
def b124k1 : DCode :=
 (.region [⟨(some 27), (.bin .add), [.t 17, .c (.int .i64 1)], none, []⟩,
   ⟨(some 17), .mov, [.t 27], none, [0]⟩] false)
def b124k2 : DCode :=
 (.seq
  (.block 3
   (.seq
    (.seq
     (.region [⟨(some 19), .mov, [.t 1], none, []⟩,
       ⟨(some 20), .mov, [.t 4], none, []⟩,
       ⟨(some 21), (.faddr 1 false 1), [.t 6], none, []⟩,
       ⟨(some 22), (.load false 1), [.t 21], none, [2]⟩,
       ⟨(some 23), .yield, [.t 19, .t 20, .t 22], none, [0, 1, 3]⟩,
       ⟨(some 24), (.un .not), [.t 23], none, [4]⟩] false)
     (.cond (.t 24)
      .ret
      .skip))
    (.keep [1, 4, 6, 9, 10, 11, 16, 17] [0, 6] b124k0)))
  (.keep [1, 4, 6, 9, 10, 11, 16, 17] [0, 6] b124k1))
def b124l0 : DCode := .keep [1, 4, 6, 9, 10, 11, 16, 17] [0, 6]
  (.seq
   (.region [⟨(some 18), (.bin .lss), [.t 17, .t 16], none, []⟩] false)
   (.seq
    (.cond (.t 18)
     .skip
     (.exit 2))
    (.keep [1, 4, 6, 9, 10, 11, 16, 17] [0, 6] b124k2)))
def b124k3 : DCode :=
 (.region [⟨(some 28), (.bin .add), [.t 11, .c (.int .i64 1)], none, []⟩,
   ⟨(some 11), .mov, [.t 28], none, [0]⟩] false)
def b124k4 : DCode :=
 (.seq
  (.block 1
   (.seq
    (.region [⟨(some 13), (.iaddr 2), [.t 9, .t 11], none, []⟩,
      ⟨(some 14), (.load true 2), [.t 13], none, [0]⟩,
      ⟨(some 6), (.alloc [(.imm (.int .i64 0)), (.imm (.int .i64 0))]), [], none, []⟩,
      ⟨none, (.store 2), [.t 6, .t 14], none, [2, 1, 0, 1, 2]⟩] false)
    (.seq
     (.region [⟨(some 15), (.faddr 0 false 1), [.t 6], none, []⟩,
       ⟨(some 16), (.load false 1), [.t 15], none, [0]⟩,
       ⟨(some 17), .mov, [.c (.int .i64 0)], none, []⟩] false)
     (.block 2
      (.loop b124l0)))))
  (.keep [1, 4, 9, 10, 11] [0] b124k3))
def b124l1 : DCode := .keep [1, 4, 9, 10, 11] [0]
  (.seq
   (.region [⟨(some 12), (.bin .lss), [.t 11, .t 10], none, []⟩] false)
   (.seq
    (.cond (.t 12)
     .skip
     (.exit 0))
    (.keep [1, 4, 9, 10, 11] [0] b124k4)))
def b124 : DCode :=
 (.seq
  (.region [⟨(some 2), .box, [.t 0], none, []⟩] false)
  (.seq
   (.region [⟨(some 4), .mov, [.c (.int .i64 0)], none, []⟩] false)
   (.seq
    (.region [⟨(some 7), (.faddr 0 true 2), [.t 2], none, []⟩,
      ⟨(some 8), (.faddr 0 false 1), [.t 7], none, [0]⟩,
      ⟨(some 9), (.load false 1), [.t 8], none, [1]⟩,
      ⟨(some 10), .len, [.t 9], none, [2]⟩,
      ⟨(some 11), .mov, [.c (.int .i64 0)], none, []⟩] false)
    (.block 0
     (.loop b124l1)))))
def d124 : DFn := ⟨2, 29, [], b124⟩
theorem body124 : d124.body = b124 := rfl
theorem res124 : d124.res = [] := rfl
theorem k124 : chkFnB Try.prog Try.f124 d124 [0] [0] = true := by kernel_rfl

/-- guidevane/guidevaneref03.Pressures -/
def b75k0 : DCode :=
 (.seq
  (.block 1
   (.region [⟨(some 14), .mov, [.t 5], none, []⟩,
     ⟨(some 15), (.faddr 0 false 1), [.t 3], none, []⟩,
     ⟨(some 16), (.load false 1), [.t 15], none, [1]⟩,
     ⟨(some 17), .mov, [.t 6], none, []⟩,
     ⟨(some 18), (.iaddr 1), [.t 16, .t 17], none, [2, 3]⟩,
     ⟨(some 19), (.load false 1), [.t 18], none, [4]⟩,
     ⟨(some 20), (.faddr 1 false 1), [.t 3], none, []⟩,
     ⟨(some 21), (.load false 1), [.t 20], none, [6]⟩,
     ⟨(some 22), .mov, [.t 6], none, []⟩,
     ⟨(some 23), (.iaddr 1), [.t 21, .t 22], none, [7, 8]⟩,
     ⟨(some 24), (.load false 1), [.t 23], none, [9]⟩,
     ⟨(some 25), (.bin .add), [.t 19, .t 24], none, [5, 10]⟩,
     ⟨(some 26), (.bsl 1), [.t 25], none, [11]⟩,
     ⟨(some 27), (.append 1 8 false), [.t 14, .t 26], none, [0, 12]⟩,
     ⟨(some 5), .mov, [.t 27], none, [13, 13, 0, 1, 2, 3, 4, 5, 6, 7, 8, 9, 10, 11, 12, 13]⟩] true))
  (.region [⟨(some 12), .mov, [.t 6], none, []⟩,
    ⟨(some 13), (.bin .add), [.t 12, .c (.int .i64 1)], none, [0]⟩,
    ⟨(some 6), .mov, [.t 13], none, [1, 0, 1]⟩] false))
def b75l0 : DCode := .keep [3, 5, 6] [3, 5, 27]
  (.seq
   (.seq
    (.region [⟨(some 7), .mov, [.t 6], none, []⟩,
      ⟨(some 8), (.faddr 0 false 1), [.t 3], none, []⟩,
      ⟨(some 9), (.load false 1), [.t 8], none, [1]⟩,
      ⟨(some 10), .len, [.t 9], none, [2]⟩,
      ⟨(some 11), (.bin .lss), [.t 7, .t 10], none, [0, 3]⟩] false)
    (.cond (.t 11)
     .skip
     (.exit 0)))
   (.keep [3, 5, 6] [3, 5, 27] b75k0))
def b75k1 : DCode :=
 (.seq
  (.region [⟨(some 28), .movv, [.t 5], none, []⟩,
    ⟨(some 4), .movv, [.t 28], none, [0, 0]⟩] false)
  .ret)
def b75 : DCode :=
 (.seq
  (.region [⟨(some 2), .box, [.t 0], none, []⟩,
    ⟨(some 3), .box, [.t 1], none, []⟩,
    ⟨(some 4), .mov, [.c (.slc 1 [])], none, []⟩] false)
  (.seq
   (.region [⟨(some 5), (.ntok 1), [.c (.slc 1 [])], none, []⟩] false)
   (.seq
    (.seq
     (.region [⟨(some 6), .mov, [.c (.int .i64 0)], none, []⟩] false)
     (.block 0
      (.loop b75l0)))
    (.keep [5] [5, 27] b75k1))))
def d75 : DFn := ⟨2, 29, [.tmp 4], b75⟩
theorem body75 : d75.body = b75 := rfl
theorem res75 : d75.res = [.tmp 4] := rfl
theorem k75 : chkFn Try.prog Try.f75 d75 = true := by kernel_rfl

/-- guidevane/guidevaneref03.Flows -/
def b76k0 : DCode :=
 (.seq
  (.block 1
   (.region [⟨(some 17), .mov, [.t 6], none, []⟩,
     ⟨(some 18), (.faddr 0 false 1), [.t 2], none, []⟩,
     ⟨(some 19), (.load false 1), [.t 18], none, [1]⟩,
     ⟨(some 20), .movv, [.t 5], none, []⟩,
     ⟨(some 21), .mov, [.t 7], none, []⟩,
     ⟨(some 22), (.iaddr 1), [.t 20, .t 21], none, [3, 4]⟩,
     ⟨(some 23), (.load false 1), [.t 22], none, [5]⟩,
     ⟨(some 24), (.iaddr 2), [.t 19, .t 23], none, [2, 6]⟩,
     ⟨(some 25), (.faddr 1 false 1), [.t 24], none, [7]⟩,
     ⟨(some 26), (.load false 1), [.t 25], none, [8]⟩,
     ⟨(some 27), (.faddr 0 false 1), [.t 3], none, []⟩,
     ⟨(some 28), (.load false 1), [.t 27], none, [10]⟩,
     ⟨(some 29), .mov, [.t 7], none, []⟩,
     ⟨(some 30), (.iaddr 1), [.t 28, .t 29], none, [11, 12]⟩,
     ⟨(some 31), (.load false 1), [.t 30], none, [13]⟩,
     ⟨(some 32), (.faddr 1 false 1), [.t 3], none, []⟩,
     ⟨(some 33), (.load false 1), [.t 32], none, [15]⟩,
     ⟨(some 34), .mov, [.t 7], none, []⟩,
     ⟨(some 35), (.iaddr 1), [.t 33, .t 34], none, [16, 17]⟩,
     ⟨(some 36), (.load false 1), [.t 35], none, [18]⟩,
     ⟨(some 37), (.bin .sub), [.t 31, .t 36], none, [14, 19]⟩,
     ⟨(some 38), (.bin .mul), [.t 26, .t 37], none, [9, 20]⟩,
     ⟨(some 39), (.bsl 1), [.t 38], none, [21]⟩,
     ⟨(some 40), (.append 1 8 false), [.t 17, .t 39], none, [0, 22]⟩,
     ⟨(some 6), .mov, [.t 40], none, [23, 23, 0, 1, 2, 3, 4, 5, 6, 7, 8, 9, 10, 11, 12, 13, 14, 15, 16, 17, 18, 19, 20, 21, 22, 23]⟩] true))
  (.region [⟨(some 15), .mov, [.t 7], none, []⟩,
    ⟨(some 16), (.bin .add), [.t 15, .c (.int .i64 1)], none, [0]⟩,
    ⟨(some 7), .mov, [.t 16], none, [1, 0, 1]⟩] false))
def b76l0 : DCode := .keep [2, 3, 5, 6, 7] [2, 3, 6, 40]
  (.seq
   (.seq
    (.region [⟨(some 10), .mov, [.t 7], none, []⟩,
      ⟨(some 11), (.faddr 0 false 1), [.t 3], none, []⟩,
      ⟨(some 12), (.load false 1), [.t 11], none, [1]⟩,
      ⟨(some 13), .len, [.t 12], none, [2]⟩,
      ⟨(some 14), (.bin .lss), [.t 10, .t 13], none, [0, 3]⟩] false)
    (.cond (.t 14)
     .skip
     (.exit 0)))
   (.keep [2, 3, 5, 6, 7] [2, 3, 6, 40] b76k0))
def b76k1 : DCode :=
 (.seq
  (.region [⟨(some 41), .movv, [.t 6], none, []⟩,
    ⟨(some 4), .movv, [.t 41], none, [0, 0]⟩] false)
  .ret)
def b76 : DCode :=
 (.seq
  (.region [⟨(some 2), .box, [.t 0], none, []⟩,
    ⟨(some 3), .box, [.t 1], none, []⟩,
    ⟨(some 4), .mov, [.c (.slc 1 [])], none, []⟩] false)
  (.seq
   (.region [⟨(some 8), (.load true 2), [.t 2], none, []⟩,
     ⟨(some 9), .call, [.f 97, .t 8], none, [0]⟩,
     ⟨(some 5), .movv, [.t 9], none, [1, 1, 0, 1]⟩] false)
   (.seq
    (.region [⟨(some 6), (.ntok 1), [.c (.slc 1 [])], none, []⟩] false)
    (.seq
     (.seq
      (.region [⟨(some 7), .mov, [.c (.int .i64 0)], none, []⟩] false)
      (.block 0
       (.loop b76l0)))
     (.keep [6] [6, 40] b76k1)))))
def d76 : DFn := ⟨2, 42, [.tmp 4], b76⟩
theorem body76 : d76.body = b76 := rfl
theorem res76 : d76.res = [.tmp 4] := rfl
theorem k76 : chkFn Try.prog Try.f76 d76 = true := by kernel_rfl

/-- guidevane/guidevaneref03.Energy -/
def b77k0 : DCode :=
 (.seq
  (.block 1
   (.region [⟨(some 18), .mov, [.t 6], none, []⟩,
     ⟨(some 19), (.faddr 0 false 1), [.t 2], none, []⟩,
     ⟨(some 20), (.load false 1), [.t 19], none, [1]⟩,
     ⟨(some 21), .movv, [.t 5], none, []⟩,
     ⟨(some 22), .mov, [.t 7], none, []⟩,
     ⟨(some 23), (.iaddr 1), [.t 21, .t 22], none, [3, 4]⟩,
     ⟨(some 24), (.load false 1), [.t 23], none, [5]⟩,
     ⟨(some 25), (.iaddr 2), [.t 20, .t 24], none, [2, 6]⟩,
     ⟨(some 26), (.faddr 1 false 1), [.t 25], none, [7]⟩,
     ⟨(some 27), (.load false 1), [.t 26], none, [8]⟩,
     ⟨(some 28), (.bin .mul), [.c (.int .i64 2), .t 27], none, [9]⟩,
     ⟨(some 29), (.faddr 0 false 1), [.t 3], none, []⟩,
     ⟨(some 30), (.load false 1), [.t 29], none, [11]⟩,
     ⟨(some 31), .mov, [.t 7], none, []⟩,
     ⟨(some 32), (.iaddr 1), [.t 30, .t 31], none, [12, 13]⟩,
     ⟨(some 33), (.load false 1), [.t 32], none, [14]⟩,
     ⟨(some 34), (.faddr 0 false 1), [.t 3], none, []⟩,
     ⟨(some 35), (.load false 1), [.t 34], none, [16]⟩,
     ⟨(some 36), .mov, [.t 7], none, []⟩,
     ⟨(some 37), (.iaddr 1), [.t 35, .t 36], none, [17, 18]⟩,
     ⟨(some 38), (.load false 1), [.t 37], none, [19]⟩,
     ⟨(some 39), (.bin .mul), [.t 33, .t 38], none, [15, 20]⟩,
     ⟨(some 40), (.faddr 1 false 1), [.t 3], none, []⟩,
     ⟨(some 41), (.load false 1), [.t 40], none, [22]⟩,
     ⟨(some 42), .mov, [.t 7], none, []⟩,
     ⟨(some 43), (.iaddr 1), [.t 41, .t 42], none, [23, 24]⟩,
     ⟨(some 44), (.load false 1), [.t 43], none, [25]⟩,
     ⟨(some 45), (.faddr 1 false 1), [.t 3], none, []⟩,
     ⟨(some 46), (.load false 1), [.t 45], none, [27]⟩,
     ⟨(some 47), .mov, [.t 7], none, []⟩,
     ⟨(some 48), (.iaddr 1), [.t 46, .t 47], none, [28, 29]⟩,
     ⟨(some 49), (.load false 1), [.t 48], none, [30]⟩,
     ⟨(some 50), (.bin .mul), [.t 44, .t 49], none, [26, 31]⟩,
     ⟨(some 51), (.bin .add), [.t 39, .t 50], none, [21, 32]⟩,
     ⟨(some 52), (.bin .mul), [.t 28, .t 51], none, [10, 33]⟩,
     ⟨(some 53), (.bin .add), [.t 18, .t 52], none, [0, 34]⟩,
     ⟨(some 6), .mov, [.t 53], none, [35, 0, 1, 2, 3, 4, 5, 6, 7, 8, 9, 10, 11, 12, 13, 14, 15, 16, 17, 18, 19, 20, 21, 22, 23, 24, 25, 26, 27, 28, 29, 30, 31, 32, 33, 34, 35]⟩] true))
  (.region [⟨(some 16), .mov, [.t 7], none, []⟩,
    ⟨(some 17), (.bin .add), [.t 16, .c (.int .i64 1)], none, [0]⟩,
    ⟨(some 7), .mov, [.t 17], none, [1, 0, 1]⟩] false))
def b77l0 : DCode := .keep [2, 3, 5, 6, 7] [2, 3]
  (.seq
   (.seq
    (.region [⟨(some 11), .mov, [.t 7], none, []⟩,
      ⟨(some 12), (.faddr 0 false 1), [.t 3], none, []⟩,
      ⟨(some 13), (.load false 1), [.t 12], none, [1]⟩,
      ⟨(some 14), .len, [.t 13], none, [2]⟩,
      ⟨(some 15), (.bin .lss), [.t 11, .t 14], none, [0, 3]⟩] false)
    (.cond (.t 15)
     .skip
     (.exit 0)))
   (.keep [2, 3, 5, 6, 7] [2, 3] b77k0))
def b77k1 : DCode :=
 (.seq
  (.block 3
   (.region [⟨(some 61), .mov, [.t 6], none, []⟩,
     ⟨(some 62), (.faddr 1 false 1), [.t 2], none, []⟩,
     ⟨(some 63), (.load false 1), [.t 62], none, [1]⟩,
     ⟨(some 64), .mov, [.t 8], none, []⟩,
     ⟨(some 65), (.iaddr 1), [.t 63, .t 64], none, [2, 3]⟩,
     ⟨(some 66), (.load false 1), [.t 65], none, [4]⟩,
     ⟨(some 67), (.faddr 2 false 1), [.t 3], none, []⟩,
     ⟨(some 68), (.load false 1), [.t 67], none, [6]⟩,
     ⟨(some 69), .mov, [.t 8], none, []⟩,
     ⟨(some 70), (.iaddr 1), [.t 68, .t 69], none, [7, 8]⟩,
     ⟨(some 71), (.load false 1), [.t 70], none, [9]⟩,
     ⟨(some 72), (.bin .mul), [.t 66, .t 71], none, [5, 10]⟩,
     ⟨(some 73), (.faddr 2 false 1), [.t 3], none, []⟩,
     ⟨(some 74), (.load false 1), [.t 73], none, [12]⟩,
     ⟨(some 75), .mov, [.t 8], none, []⟩,
     ⟨(some 76), (.iaddr 1), [.t 74, .t 75], none, [13, 14]⟩,
     ⟨(some 77), (.load false 1), [.t 76], none, [15]⟩,
     ⟨(some 78), (.bin .mul), [.t 72, .t 77], none, [11, 16]⟩,
     ⟨(some 79), (.bin .add), [.t 61, .t 78], none, [0, 17]⟩,
     ⟨(some 6), .mov, [.t 79], none, [18, 0, 1, 2, 3, 4, 5, 6, 7, 8, 9, 10, 11, 12, 13, 14, 15, 16, 17, 18]⟩] true))
  (.region [⟨(some 59), .mov, [.t 8], none, []⟩,
    ⟨(some 60), (.bin .add), [.t 59, .c (.int .i64 1)], none, [0]⟩,
    ⟨(some 8), .mov, [.t 60], none, [1, 0, 1]⟩] false))
def b77l1 : DCode := .keep [2, 3, 6, 8] [2, 3]
  (.seq
   (.seq
    (.region [⟨(some 54), .mov, [.t 8], none, []⟩,
      ⟨(some 55), (.faddr 2 false 1), [.t 3], none, []⟩,
      ⟨(some 56), (.load false 1), [.t 55], none, [1]⟩,
      ⟨(some 57), .len, [.t 56], none, [2]⟩,
      ⟨(some 58), (.bin .lss), [.t 54, .t 57], none, [0, 3]⟩] false)
    (.cond (.t 58)
     .skip
     (.exit 2)))
   (.keep [2, 3, 6, 8] [2, 3] b77k1))
def b77k2 : DCode :=
 (.seq
  (.region [⟨(some 80), .mov, [.t 6], none, []⟩,
    ⟨(some 4), .mov, [.t 80], none, [0, 0]⟩] false)
  .ret)
def b77k3 : DCode :=
 (.seq
  (.seq
   (.region [⟨(some 8), .mov, [.c (.int .i64 0)], none, []⟩] false)
   (.block 2
    (.loop b77l1)))
  (.keep [6] [] b77k2))
def b77 : DCode :=
 (.seq
  (.region [⟨(some 2), .box, [.t 0], none, []⟩,
    ⟨(some 3), .box, [.t 1], none, []⟩,
    ⟨(some 4), .mov, [.c (.int .i64 0)], none, []⟩] false)
  (.seq
   (.region [⟨(some 9), (.load true 2), [.t 2], none, []⟩,
     ⟨(some 10), .call, [.f 97, .t 9], none, [0]⟩,
     ⟨(some 5), .movv, [.t 10], none, [1, 1, 0, 1]⟩] false)
   (.seq
    (.region [⟨(some 6), .mov, [.c (.int .i64 0)], none, []⟩] false)
    (.seq
     (.seq
      (.region [⟨(some 7), .mov, [.c (.int .i64 0)], none, []⟩] false)
      (.block 0
       (.loop b77l0)))
     (.keep [2, 3, 6] [2, 3] b77k3)))))
def d77 : DFn := ⟨2, 81, [.tmp 4], b77⟩
theorem body77 : d77.body = b77 := rfl
theorem res77 : d77.res = [.tmp 4] := rfl
theorem k77 : chkFn Try.prog Try.f77 d77 = true := by kernel_rfl

/-- guidevane/guidevanelaw03.WaveStates -/
def b14k0 : DCode :=
 (.seq
  (.region [⟨(some 102), .mov, [.t 8], none, []⟩,
    ⟨(some 103), (.bin .eql), [.t 102, .c (.int .i64 0)], none, [0]⟩,
    ⟨(some 104), .mov, [.t 103], none, [1]⟩,
    ⟨(some 105), .movv, [.t 7], (some (104, true)), [2]⟩,
    ⟨(some 106), (.load true 2), [.t 2], (some (104, true)), [2]⟩,
    ⟨(some 107), (.load true 3), [.t 3], (some (104, true)), [2]⟩,
    ⟨(some 108), .call, [.f 75, .t 106, .t 107], (some (104, true)), [4, 5, 2, 2]⟩,
    ⟨(some 109), .call, [.f 45, .t 105, .t 108], (some (104, true)), [3, 6, 6, 2]⟩,
    ⟨(some 110), .pick, [.t 104, .t 109, .c (.bool false)], none, [2, 7]⟩,
    ⟨(some 111), .mov, [.t 110], none, [8, 7]⟩,
    ⟨(some 112), .mov, [.t 10], (some (111, true)), [9]⟩,
    ⟨(some 113), (.bin .eql), [.t 112, .c (.int .i64 0)], (some (111, true)), [10, 9]⟩,
    ⟨(some 114), .pick, [.t 111, .t 113, .c (.bool false)], none, [9, 11]⟩,
    ⟨(some 115), .mov, [.t 114], none, [12, 9]⟩,
    ⟨(some 116), .movv, [.t 9], (some (115, true)), [13]⟩,
    ⟨(some 117), (.load true 2), [.t 2], (some (115, true)), [13]⟩,
    ⟨(some 118), (.load true 3), [.t 3], (some (115, true)), [13]⟩,
    ⟨(some 119), .call, [.f 76, .t 117, .t 118], (some (115, true)), [15, 16, 13, 13]⟩,
    ⟨(some 120), .call, [.f 45, .t 116, .t 119], (some (115, true)), [14, 17, 17, 13]⟩,
    ⟨(some 121), .pick, [.t 115, .t 120, .c (.bool false)], none, [13, 18]⟩,
    ⟨(some 122), .mov, [.t 121], none, [19, 18]⟩,
    ⟨(some 123), .mov, [.t 12], (some (122, true)), [20]⟩,
    ⟨(some 124), (.bin .eql), [.t 123, .c (.int .i64 0)], (some (122, true)), [21, 20]⟩,
    ⟨(some 125), .pick, [.t 122, .t 124, .c (.bool false)], none, [20, 22]⟩,
    ⟨(some 126), .mov, [.t 125], none, [23, 20]⟩,
    ⟨(some 127), .mov, [.t 11], (some (126, true)), [24]⟩,
    ⟨(some 128), (.load true 2), [.t 2], (some (126, true)), [24]⟩,
    ⟨(some 129), (.load true 3), [.t 3], (some (126, true)), [24]⟩,
    ⟨(some 130), .call, [.f 77, .t 128, .t 129], (some (126, true)), [26, 27, 24, 24]⟩,
    ⟨(some 131), (.bin .eql), [.t 127, .t 130], (some (126, true)), [25, 28, 24]⟩,
    ⟨(some 132), .pick, [.t 126, .t 131, .c (.bool false)], none, [24, 29]⟩,
    ⟨(some 4), .mov, [.t 132], none, [30, 28, 0, 1, 2, 3, 4, 5, 6, 7, 8, 9, 10, 11, 12, 13, 14, 15, 16, 17, 18, 19, 20, 21, 22, 23, 24, 25, 26, 27, 28, 29, 30]⟩] false)
  .ret)
def b14k1 : DCode :=
 (.seq
  (.seq
   (.region [⟨(some 75), .mov, [.t 14], none, []⟩,
     ⟨(some 76), (.bin .neq), [.t 75, .c (.int .i64 0)], none, [0]⟩] false)
   (.cond (.t 76)
    (.seq
     (.region [⟨(some 77), .mov, [.t 8], none, []⟩,
       ⟨(some 78), .mov, [.t 14], none, []⟩,
       ⟨(some 79), (.bin .eql), [.t 77, .t 78], none, [0, 1]⟩,
       ⟨(some 80), .mov, [.t 79], none, [2]⟩,
       ⟨(some 81), .mov, [.t 10], (some (80, true)), [3]⟩,
       ⟨(some 82), .mov, [.t 14], (some (80, true)), [3]⟩,
       ⟨(some 83), (.bin .eql), [.t 81, .t 82], (some (80, true)), [4, 5, 3]⟩,
       ⟨(some 84), .pick, [.t 80, .t 83, .c (.bool false)], none, [3, 6]⟩,
       ⟨(some 85), .mov, [.t 84], none, [7, 3]⟩,
       ⟨(some 86), .mov, [.t 12], (some (85, true)), [8]⟩,
       ⟨(some 87), .mov, [.t 14], (some (85, true)), [8]⟩,
       ⟨(some 88), (.bin .eql), [.t 86, .t 87], (some (85, true)), [9, 10, 8]⟩,
       ⟨(some 89), .pick, [.t 85, .t 88, .c (.bool false)], none, [8, 11]⟩,
       ⟨(some 90), .mov, [.t 89], none, [12, 8]⟩,
       ⟨(some 91), .movv, [.t 7], (some (90, true)), [13]⟩,
       ⟨(some 92), .len, [.t 91], (some (90, true)), [14, 13]⟩,
       ⟨(some 93), .movv, [.t 9], (some (90, true)), [13]⟩,
       ⟨(some 94), .len, [.t 93], (some (90, true)), [16, 13]⟩,
       ⟨(some 95), (.bin .add), [.t 92, .t 94], (some (90, true)), [15, 17, 13]⟩,
       ⟨(some 96), (.bin .eql), [.t 95, .c (.int .i64 0)], (some (90, true)), [18, 13]⟩,
       ⟨(some 97), .pick, [.t 90, .t 96, .c (.bool false)], none, [13, 19]⟩,
       ⟨(some 98), .mov, [.t 97], none, [20, 13]⟩,
       ⟨(some 99), .mov, [.t 11], (some (98, true)), [21]⟩,
       ⟨(some 100), (.bin .eql), [.t 99, .c (.int .i64 0)], (some (98, true)), [22, 21]⟩,
       ⟨(some 101), .pick, [.t 98, .t 100, .c (.bool false)], none, [21, 23]⟩,
       ⟨(some 4), .mov, [.t 101], none, [24, 21, 0, 1, 2, 3, 4, 5, 6, 7, 8, 9, 10, 11, 12, 13, 14, 15, 16, 17, 18, 19, 20, 21, 22, 23, 24]⟩] false)
     .ret)
    .skip))
  (.keep [2, 3, 7, 8, 9, 10, 11, 12] [2, 3] b14k0))
def b14k2 : DCode :=
 (.seq
  (.seq
   (.region [⟨(some 67), .mov, [.t 6], none, []⟩,
     ⟨(some 68), .mov, [.t 14], none, []⟩,
     ⟨(some 69), (.bin .neq), [.t 67, .t 68], none, [0, 1]⟩,
     ⟨(some 70), .mov, [.t 69], none, [2]⟩,
     ⟨(some 71), .mov, [.t 5], (some (70, false)), [3]⟩,
     ⟨(some 72), .mov, [.t 13], (some (70, false)), [3]⟩,
     ⟨(some 73), (.bin .neq), [.t 71, .t 72], (some (70, false)), [4, 5, 3]⟩,
     ⟨(some 74), .pick, [.t 70, .c (.bool true), .t 73], none, [3, 6]⟩] false)
   (.cond (.t 74)
    (.seq
     (.region [⟨(some 4), .mov, [.c (.bool false)], none, []⟩] false)
     .ret)
    .skip))
  (.keep [2, 3, 7, 8, 9, 10, 11, 12, 14] [2, 3] b14k1))
def b14k3 : DCode :=
 (.seq
  (.region [⟨(some 26), (.load true 2), [.t 2], none, []⟩,
    ⟨(some 27), .call, [.f 22, .t 26], none, [0]⟩,
    ⟨(some 28), (.load true 3), [.t 3], none, []⟩,
    ⟨(some 29), .call, [.f 23, .t 28], none, [2, 1]⟩,
    ⟨(some 30), .call, [.f 71, .t 27, .t 29], none, [1, 3, 3]⟩,
    ⟨(some 25), .mov, [.t 30], none, [4]⟩,
    ⟨(some 31), (.ext 0), [.t 25], none, [5]⟩,
    ⟨(some 32), (.ext 1), [.t 25], none, [5]⟩,
    ⟨(some 5), .mov, [.t 31], none, [6, 4, 0, 1, 2, 3, 4, 5, 6]⟩,
    ⟨(some 6), .mov, [.t 32], none, [7, 8, 0, 1, 2, 3, 4, 5, 6, 7, 8]⟩] true)
  (.seq
   (.region [⟨(some 34), (.load true 2), [.t 2], none, []⟩,
     ⟨(some 35), .call, [.f 22, .t 34], none, [0]⟩,
     ⟨(some 36), (.load true 3), [.t 3], none, []⟩,
     ⟨(some 37), .call, [.f 23, .t 36], none, [2, 1]⟩,
     ⟨(some 38), .call, [.f 72, .t 35, .t 37], none, [1, 3, 3]⟩,
     ⟨(some 33), .mov, [.t 38], none, [4]⟩,
     ⟨(some 39), (.ext 0), [.t 33], none, [5]⟩,
     ⟨(some 40), (.ext 1), [.t 33], none, [5]⟩,
     ⟨(some 7), .movv, [.t 39], none, [6, 4, 0, 1, 2, 3, 4, 5, 6]⟩,
     ⟨(some 8), .mov, [.t 40], none, [7, 8, 0, 1, 2, 3, 4, 5, 6, 7, 8]⟩] true)
   (.seq
    (.region [⟨(some 42), (.load true 2), [.t 2], none, []⟩,
      ⟨(some 43), .call, [.f 22, .t 42], none, [0]⟩,
      ⟨(some 44), (.load true 3), [.t 3], none, []⟩,
      ⟨(some 45), .call, [.f 23, .t 44], none, [2, 1]⟩,
      ⟨(some 46), .call, [.f 73, .t 43, .t 45], none, [1, 3, 3]⟩,
      ⟨(some 41), .mov, [.t 46], none, [4]⟩,
      ⟨(some 47), (.ext 0), [.t 41], none, [5]⟩,
      ⟨(some 48), (.ext 1), [.t 41], none, [5]⟩,
      ⟨(some 9), .movv, [.t 47], none, [6, 4, 0, 1, 2, 3, 4, 5, 6]⟩,
      ⟨(some 10), .mov, [.t 48], none, [7, 8, 0, 1, 2, 3, 4, 5, 6, 7, 8]⟩] true)
    (.seq
     (.region [⟨(some 50), (.load true 2), [.t 2], none, []⟩,
       ⟨(some 51), .call, [.f 22, .t 50], none, [0]⟩,
       ⟨(some 52), (.load true 3), [.t 3], none, []⟩,
       ⟨(some 53), .call, [.f 23, .t 52], none, [2, 1]⟩,
       ⟨(some 54), .call, [.f 65, .t 51, .t 53], none, [1, 3, 3]⟩,
       ⟨(some 49), .mov, [.t 54], none, [4]⟩,
       ⟨(some 55), (.ext 0), [.t 49], none, [5]⟩,
       ⟨(some 56), (.ext 1), [.t 49], none, [5]⟩,
       ⟨(some 11), .mov, [.t 55], none, [6, 4, 0, 1, 2, 3, 4, 5, 6]⟩,
       ⟨(some 12), .mov, [.t 56], none, [7, 8, 0, 1, 2, 3, 4, 5, 6, 7, 8]⟩] true)
     (.seq
      (.region [⟨(some 57), (.load true 2), [.t 2], none, []⟩,
        ⟨(some 58), .call, [.f 37, .t 57], none, [0]⟩,
        ⟨(some 13), .mov, [.c (.int .i64 0)], none, [1]⟩,
        ⟨(some 14), .mov, [.t 58], none, [1, 2, 0, 1, 2]⟩] false)
      (.seq
       (.seq
        (.region [⟨(some 59), .mov, [.t 14], none, []⟩,
          ⟨(some 60), (.bin .eql), [.t 59, .c (.int .i64 0)], none, [0]⟩] false)
        (.cond (.t 60)
         (.region [⟨(some 62), (.load true 2), [.t 2], none, []⟩,
           ⟨(some 63), (.load true 3), [.t 3], none, []⟩,
           ⟨(some 64), .call, [.f 74, .t 62, .t 63], none, [0, 1]⟩,
           ⟨(some 61), .mov, [.t 64], none, [2]⟩,
           ⟨(some 65), (.ext 0), [.t 61], none, [3]⟩,
           ⟨(some 66), (.ext 1), [.t 61], none, [3]⟩,
           ⟨(some 13), .mov, [.t 65], none, [4, 2, 0, 1, 2, 3, 4]⟩,
           ⟨(some 14), .mov, [.t 66], none, [5, 6, 0, 1, 2, 3, 4, 5, 6]⟩] false)
         .skip))
       (.keep [2, 3, 5, 6, 7, 8, 9, 10, 11, 12, 13, 14] [2, 3] b14k2)))))))
def b14k4 : DCode :=
 (.seq
  (.seq
   (.region [⟨(some 17), (.load true 2), [.t 2], none, []⟩,
     ⟨(some 18), .call, [.f 18, .t 17], none, [0]⟩,
     ⟨(some 19), (.un .not), [.t 18], none, [1]⟩,
     ⟨(some 20), .mov, [.t 19], none, [2, 1]⟩,
     ⟨(some 21), (.load true 3), [.t 3], (some (20, false)), [3]⟩,
     ⟨(some 22), .call, [.f 19, .t 21], (some (20, false)), [4, 3, 3]⟩,
     ⟨(some 23), (.un .not), [.t 22], (some (20, false)), [5, 3]⟩,
     ⟨(some 24), .pick, [.t 20, .c (.bool true), .t 23], none, [3, 6]⟩] false)
   (.cond (.t 24)
    (.seq
     (.region [⟨(some 4), .mov, [.c (.bool true)], none, []⟩] false)
     .ret)
    .skip))
  (.keep [2, 3] [2, 3] b14k3))
def b14 : DCode :=
 (.seq
  (.region [⟨(some 2), .box, [.t 0], none, []⟩,
    ⟨(some 3), .box, [.t 1], none, []⟩,
    ⟨(some 4), .mov, [.c (.bool false)], none, []⟩] false)
  (.seq
   (.seq
    (.region [⟨(some 15), .call, [.f 17], none, []⟩,
      ⟨(some 16), (.un .not), [.t 15], none, [0]⟩] false)
    (.cond (.t 16)
     (.seq
      (.region [⟨(some 4), .mov, [.c (.bool false)], none, []⟩] false)
      .ret)
     .skip))
   (.keep [2, 3] [2, 3] b14k4)))
def d14 : DFn := ⟨2, 133, [.tmp 4], b14⟩
theorem body14 : d14.body = b14 := rfl
theorem res14 : d14.res = [.tmp 4] := rfl
theorem k14 : chkFn Try.prog Try.f14 d14 = true := by kernel_rfl

end Go.DI

