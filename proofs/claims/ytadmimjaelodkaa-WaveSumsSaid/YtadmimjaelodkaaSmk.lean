/- The functions of the statement about energies, as data. No condition. -/
import Derived.Test.YtadmimjaelodkaaSmGe
import Derived.Test.YtadmimjaelodkaaProg
import Derived.KernelRfl
namespace Go.DI
open Go.Proofs Go.RowKit
/-- guidevane/guidevanelaw03.small -/
def b33k0 : DCode :=
 (.region [⟨(some 19), .mov, [.t 4], none, []⟩,
   ⟨(some 20), (.bin .add), [.t 19, .c (.int .i64 1)], none, [0]⟩,
   ⟨(some 4), .mov, [.t 20], none, [1, 0, 1]⟩] false)
def b33k1 : DCode :=
 (.seq
  (.block 1
   (.seq
    (.region [⟨(some 21), .movv, [.t 3], none, []⟩,
      ⟨(some 22), .mov, [.t 4], none, []⟩,
      ⟨(some 23), (.iaddr 1), [.t 21, .t 22], none, [0, 1]⟩,
      ⟨(some 24), (.load false 1), [.t 23], none, [2]⟩,
      ⟨(some 25), .call, [.f 34, .t 24, .c (.int .i64 (-10000)), .c (.int .i64 10000)], none, [3]⟩,
      ⟨(some 26), (.un .not), [.t 25], none, [4]⟩] false)
    (.cond (.t 26)
     (.seq
      (.region [⟨(some 2), .mov, [.c (.bool false)], none, []⟩] false)
      .ret)
     .skip)))
  (.keep [3, 4] [8, 11, 14] b33k0))
def b33l0 : DCode := .keep [3, 4] [8, 11, 14]
  (.seq
   (.seq
    (.region [⟨(some 15), .mov, [.t 4], none, []⟩,
      ⟨(some 16), .movv, [.t 3], none, []⟩,
      ⟨(some 17), .len, [.t 16], none, [1]⟩,
      ⟨(some 18), (.bin .lss), [.t 15, .t 17], none, [0, 2]⟩] false)
    (.cond (.t 18)
     .skip
     (.exit 0)))
   (.keep [3, 4] [8, 11, 14] b33k1))
def b33k2 : DCode :=
 (.seq
  (.region [⟨(some 2), .mov, [.c (.bool true)], none, []⟩] false)
  .ret)
def b33 : DCode :=
 (.seq
  (.settle [1]
   (.region [⟨(some 1), .box, [.t 0], none, []⟩,
     ⟨(some 2), .mov, [.c (.bool false)], none, []⟩] false))
  (.seq
   (.region [⟨(some 5), (.bsl 1), [], none, []⟩,
     ⟨(some 6), (.faddr 0 false 1), [.t 1], none, []⟩,
     ⟨(some 7), (.load false 1), [.t 6], none, [1]⟩,
     ⟨(some 8), (.append 1 8 false), [.t 5, .t 7], none, [0, 2]⟩,
     ⟨(some 9), (.faddr 1 false 1), [.t 1], none, []⟩,
     ⟨(some 10), (.load false 1), [.t 9], none, [4]⟩,
     ⟨(some 11), (.append 1 8 false), [.t 8, .t 10], none, [3, 5, 3]⟩,
     ⟨(some 12), (.faddr 2 false 1), [.t 1], none, []⟩,
     ⟨(some 13), (.load false 1), [.t 12], none, [7]⟩,
     ⟨(some 14), (.append 1 8 false), [.t 11, .t 13], none, [6, 8, 6]⟩,
     ⟨(some 3), .movv, [.t 14], none, [9, 9, 0, 1, 2, 3, 4, 5, 6, 7, 8, 9]⟩] true)
   (.seq
    (.seq
     (.region [⟨(some 4), .mov, [.c (.int .i64 0)], none, []⟩] false)
     (.block 0
      (.loop b33l0)))
    (.keep [] [] b33k2))))
def d33 : DFn := ⟨1, 27, [.tmp 2], b33⟩
theorem body33 : d33.body = b33 := rfl
theorem res33 : d33.res = [.tmp 2] := rfl
theorem k33 : chkFn Try.prog Try.f33 d33 = true := by kernel_rfl

end Go.DI

