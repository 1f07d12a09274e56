/- The functions of the base's wide numbers and ratios, as data. No condition. -/
import Derived.Test.YtaphhpphfffnfaaGreatDoorLfGe
import Derived.Test.YtaphhpphfffnfaaGreatDoorLfGf
import Derived.Test.YtaphhpphfffnfaaGreatDoorProg
import Derived.KernelRfl
namespace Go.DI
open Go.Proofs Go.RowKit
/-- guidevane/guidevanebase.Within -/
def b47 : DCode :=
 (.seq
 (.region [⟨(some 6), .mov, [.c (.bool false)], none, []⟩] false)
 (.seq
 (.region [⟨(some 7), .mov, [.t 1], none, []⟩,
 ⟨(some 8), .mov, [.t 0], none, []⟩,
 ⟨(some 9), (.bin .leq), [.t 7, .t 8], none, [0, 1]⟩,
 ⟨(some 10), .mov, [.t 9], none, [2]⟩,
 ⟨(some 11), .mov, [.t 0], (some (10, true)), [3]⟩,
 ⟨(some 12), .mov, [.t 2], (some (10, true)), [3]⟩,
 ⟨(some 13), (.bin .leq), [.t 11, .t 12], (some (10, true)), [4, 5, 3]⟩,
 ⟨(some 14), .pick, [.t 10, .t 13, .c (.bool false)], none, [3, 6]⟩,
 ⟨(some 6), .mov, [.t 14], none, [7, 3, 0, 1, 2, 3, 4, 5, 6, 7]⟩] false)
 .ret))
def d47 : DFn := ⟨3, 15, [.tmp 6], b47⟩
theorem body47 : d47.body = b47 := rfl
theorem res47 : d47.res = [.tmp 6] := rfl
theorem k47 : chkFn Tryz.prog Tryz.f47 d47 = true := by kernel_rfl

end Go.DI

