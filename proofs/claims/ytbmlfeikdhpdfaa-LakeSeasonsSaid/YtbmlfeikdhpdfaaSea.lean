/- The functions of the statement LakeSeasons, as data. No condition. -/
import Derived.Test.YtbmlfeikdhpdfaaJd
import Derived.Test.YtbmlfeikdhpdfaaProg
import Derived.KernelRfl
namespace Go.DI
open Go.Proofs Go.RowKit
/-- guidevane/guidevanelaw01.LakeSeasons -/
def b9k0 : DCode :=
 (.seq
  (.region [⟨(some 45), .movv, [.t 0], none, []⟩,
    ⟨(some 46), .call, [.f 51, .t 45], none, [0]⟩,
    ⟨(some 47), .mov, [.t 1], none, []⟩,
    ⟨(some 48), (.bin .add), [.t 47, .c (.int .i64 365)], none, [2]⟩,
    ⟨(some 49), .call, [.f 50, .t 46, .t 48], none, [1, 3, 1]⟩,
    ⟨(some 44), .mov, [.t 49], none, [4]⟩,
    ⟨(some 50), (.ext 0), [.t 44], none, [5]⟩,
    ⟨(some 51), (.ext 1), [.t 44], none, [5]⟩,
    ⟨(some 9), .mov, [.t 50], none, [6, 4, 0, 1, 2, 3, 4, 5, 6]⟩,
    ⟨(some 10), .mov, [.t 51], none, [7, 8, 0, 1, 2, 3, 4, 5, 6, 7, 8]⟩] false)
  (.seq
   (.region [⟨(some 52), .mov, [.t 10], none, []⟩,
     ⟨(some 53), (.bin .eql), [.t 52, .c (.int .i64 0)], none, [0]⟩,
     ⟨(some 54), .mov, [.t 53], none, [1]⟩,
     ⟨(some 55), .mov, [.t 9], (some (54, true)), [2]⟩,
     ⟨(some 56), .mov, [.t 5], (some (54, true)), [2]⟩,
     ⟨(some 57), (.bin .eql), [.t 55, .t 56], (some (54, true)), [3, 4, 2]⟩,
     ⟨(some 58), .pick, [.t 54, .t 57, .c (.bool false)], none, [2, 5]⟩,
     ⟨(some 4), .mov, [.t 58], none, [6, 2, 0, 1, 2, 3, 4, 5, 6]⟩] false)
   .ret))
def b9k1 : DCode :=
 (.seq
  (.seq
   (.region [⟨(some 37), .mov, [.t 8], none, []⟩,
     ⟨(some 38), (.bin .neq), [.t 37, .c (.int .i64 0)], none, [0]⟩,
     ⟨(some 39), .mov, [.t 38], none, [1]⟩,
     ⟨(some 40), .mov, [.t 1], (some (39, false)), [2]⟩,
     ⟨(some 41), .call, [.f 15, .t 40, .c (.int .i64 0), .c (.int .i64 99635)], (some (39, false)), [3, 2, 2]⟩,
     ⟨(some 42), (.un .not), [.t 41], (some (39, false)), [4, 2]⟩,
     ⟨(some 43), .pick, [.t 39, .c (.bool true), .t 42], none, [2, 5]⟩] false)
   (.cond (.t 43)
    (.seq
     (.region [⟨(some 4), .mov, [.c (.bool true)], none, []⟩] false)
     .ret)
    .skip))
  (.keep [0, 1, 5] [] b9k0))
def b9k2 : DCode :=
 (.seq
  (.region [⟨(some 17), .movv, [.t 0], none, []⟩,
    ⟨(some 18), .call, [.f 51, .t 17], none, [0]⟩,
    ⟨(some 19), .mov, [.t 1], none, []⟩,
    ⟨(some 20), .call, [.f 50, .t 18, .t 19], none, [1, 2, 1]⟩,
    ⟨(some 16), .mov, [.t 20], none, [3]⟩,
    ⟨(some 21), (.ext 0), [.t 16], none, [4]⟩,
    ⟨(some 22), (.ext 1), [.t 16], none, [4]⟩,
    ⟨(some 5), .mov, [.t 21], none, [5, 3, 0, 1, 2, 3, 4, 5]⟩,
    ⟨(some 6), .mov, [.t 22], none, [6, 7, 0, 1, 2, 3, 4, 5, 6, 7]⟩] false)
  (.seq
   (.region [⟨(some 24), .movv, [.t 0], none, []⟩,
     ⟨(some 25), .mov, [.t 1], none, []⟩,
     ⟨(some 26), .call, [.f 52, .t 24, .t 25], none, [0, 1]⟩,
     ⟨(some 23), .mov, [.t 26], none, [2]⟩,
     ⟨(some 27), (.ext 0), [.t 23], none, [3]⟩,
     ⟨(some 28), (.ext 1), [.t 23], none, [3]⟩,
     ⟨(some 7), .mov, [.t 27], none, [4, 2, 0, 1, 2, 3, 4]⟩,
     ⟨(some 8), .mov, [.t 28], none, [5, 6, 0, 1, 2, 3, 4, 5, 6]⟩] false)
   (.seq
    (.seq
     (.region [⟨(some 29), .mov, [.t 6], none, []⟩,
       ⟨(some 30), .mov, [.t 8], none, []⟩,
       ⟨(some 31), (.bin .neq), [.t 29, .t 30], none, [0, 1]⟩,
       ⟨(some 32), .mov, [.t 31], none, [2]⟩,
       ⟨(some 33), .mov, [.t 5], (some (32, false)), [3]⟩,
       ⟨(some 34), .mov, [.t 7], (some (32, false)), [3]⟩,
       ⟨(some 35), (.bin .neq), [.t 33, .t 34], (some (32, false)), [4, 5, 3]⟩,
       ⟨(some 36), .pick, [.t 32, .c (.bool true), .t 35], none, [3, 6]⟩] false)
     (.cond (.t 36)
      (.seq
       (.region [⟨(some 4), .mov, [.c (.bool false)], none, []⟩] false)
       .ret)
      .skip))
    (.keep [0, 1, 5, 8] [] b9k1))))
def b9k3 : DCode :=
 (.seq
  (.seq
   (.region [⟨(some 13), .movv, [.t 0], none, []⟩,
     ⟨(some 14), .len, [.t 13], none, [0]⟩,
     ⟨(some 15), (.bin .gtr), [.t 14, .c (.int .i64 14)], none, [1]⟩] false)
   (.cond (.t 15)
    (.seq
     (.region [⟨(some 4), .mov, [.c (.bool true)], none, []⟩] false)
     .ret)
    .skip))
  (.keep [0, 1] [] b9k2))
def b9 : DCode :=
 (.seq
  (.region [⟨(some 4), .mov, [.c (.bool false)], none, []⟩] false)
  (.seq
   (.seq
    (.region [⟨(some 11), .call, [.f 12], none, []⟩,
      ⟨(some 12), (.un .not), [.t 11], none, [0]⟩] false)
    (.cond (.t 12)
     (.seq
      (.region [⟨(some 4), .mov, [.c (.bool false)], none, []⟩] false)
      .ret)
     .skip))
   (.keep [0, 1] [] b9k3)))
def d9 : DFn := ⟨2, 59, [.tmp 4], b9⟩
theorem body9 : d9.body = b9 := rfl
theorem res9 : d9.res = [.tmp 4] := rfl
theorem k9 : chkFn Try.prog Try.f9 d9 = true := by kernel_rfl

end Go.DI

