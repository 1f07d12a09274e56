/- The functions of pressures, flows and energies, as data. No condition. -/
import Derived.Test.YtadmimjaelodkaaWeGe
import Derived.Test.YtadmimjaelodkaaProg
import Derived.KernelRfl
namespace Go.DI
open Go.Proofs Go.RowKit
/-- guidevane/wave.pressures -/
def b126k0 : DCode :=
 (.seq
  (.block 1
   (.seq
    (.region [⟨(some 11), .mov, [.t 9], none, []⟩,
      ⟨(some 12), (.iaddr 1), [.t 7, .t 9], none, []⟩,
      ⟨(some 13), (.load false 1), [.t 12], none, [1]⟩,
      ⟨(some 4), .mov, [.t 11], none, [0, 0, 1, 2]⟩,
      ⟨(some 5), .mov, [.t 13], none, [2, 3, 0, 1, 2, 3]⟩] false)
    (.region [⟨(some 14), .mov, [.t 3], none, []⟩,
      ⟨(some 15), .mov, [.t 5], none, []⟩,
      ⟨(some 16), (.faddr 1 false 1), [.t 1], none, []⟩,
      ⟨(some 17), (.load false 1), [.t 16], none, [2]⟩,
      ⟨(some 18), .mov, [.t 4], none, []⟩,
      ⟨(some 19), (.iaddr 1), [.t 17, .t 18], none, [3, 4]⟩,
      ⟨(some 20), (.load false 1), [.t 19], none, [5]⟩,
      ⟨(some 21), (.bin .add), [.t 15, .t 20], none, [1, 6]⟩,
      ⟨(some 22), (.bsl 1), [.t 21], none, [7]⟩,
      ⟨(some 23), (.append 1 8 false), [.t 14, .t 22], none, [0, 8]⟩,
      ⟨(some 3), .mov, [.t 23], none, [9, 9, 0, 1, 2, 3, 4, 5, 6, 7, 8, 9]⟩] false)))
  (.region [⟨(some 24), (.bin .add), [.t 9, .c (.int .i64 1)], none, []⟩,
    ⟨(some 9), .mov, [.t 24], none, [0]⟩] false))
def b126l0 : DCode := .keep [1, 3, 7, 8, 9] [1, 3, 23]
  (.seq
   (.region [⟨(some 10), (.bin .lss), [.t 9, .t 8], none, []⟩] false)
   (.seq
    (.cond (.t 10)
     .skip
     (.exit 0))
    (.keep [1, 3, 7, 8, 9] [1, 3, 23] b126k0)))
def b126k1 : DCode :=
 (.seq
  (.region [⟨(some 25), .movv, [.t 3], none, []⟩,
    ⟨(some 2), .movv, [.t 25], none, [0, 0]⟩] false)
  .ret)
def b126 : DCode :=
 (.seq
  (.region [⟨(some 1), .box, [.t 0], none, []⟩,
    ⟨(some 2), .mov, [.c (.slc 1 [])], none, []⟩] false)
  (.seq
   (.region [⟨(some 3), (.ntok 1), [.c (.slc 1 [])], none, []⟩] false)
   (.seq
    (.seq
     (.region [⟨(some 6), (.faddr 0 false 1), [.t 1], none, []⟩,
       ⟨(some 7), (.load false 1), [.t 6], none, [0]⟩,
       ⟨(some 8), .len, [.t 7], none, [1]⟩,
       ⟨(some 9), .mov, [.c (.int .i64 0)], none, []⟩] false)
     (.block 0
      (.loop b126l0)))
    (.keep [3] [3, 23] b126k1))))
def d126 : DFn := ⟨1, 26, [.tmp 2], b126⟩
theorem body126 : d126.body = b126 := rfl
theorem res126 : d126.res = [.tmp 2] := rfl
theorem k126 : chkFn Try.prog Try.f126 d126 = true := by kernel_rfl

end Go.DI

