/- Contracts of the reference: plans, orders, loads. No condition. -/
import Derived.Test.YtdpfjbghiahbeaaKuGl
/- The reference's functions of plans, as data. No condition. -/
namespace Go.DI
open Go.Proofs Go.RowKit
/-- guidevane/guidevanebase.Has -/
def b111k0 : DCode :=
 (.region [⟨(some 10), .mov, [.t 5], none, []⟩,
   ⟨(some 11), (.bin .add), [.t 10, .c (.int .i64 1)], none, [0]⟩,
   ⟨(some 5), .mov, [.t 11], none, [1, 0, 1]⟩] false)
def b111k1 : DCode :=
 (.seq
  (.block 1
   (.seq
    (.region [⟨(some 12), .movv, [.t 0], none, []⟩,
      ⟨(some 13), .mov, [.t 5], none, []⟩,
      ⟨(some 14), (.iaddr 1), [.t 12, .t 13], none, [0, 1]⟩,
      ⟨(some 15), (.load false 1), [.t 14], none, [2]⟩,
      ⟨(some 16), .mov, [.t 1], none, []⟩,
      ⟨(some 17), (.bin .eql), [.t 15, .t 16], none, [3, 4]⟩] false)
    (.cond (.t 17)
     (.seq
      (.region [⟨(some 4), .mov, [.c (.bool true)], none, []⟩] false)
      .ret)
     .skip)))
  (.keep [0, 1, 5] [] b111k0))
def b111l0 : DCode := .keep [0, 1, 5] []
  (.seq
   (.seq
    (.region [⟨(some 6), .mov, [.t 5], none, []⟩,
      ⟨(some 7), .movv, [.t 0], none, []⟩,
      ⟨(some 8), .len, [.t 7], none, [1]⟩,
      ⟨(some 9), (.bin .lss), [.t 6, .t 8], none, [0, 2]⟩] false)
    (.cond (.t 9)
     .skip
     (.exit 0)))
   (.keep [0, 1, 5] [] b111k1))
def b111k2 : DCode :=
 (.seq
  (.region [⟨(some 4), .mov, [.c (.bool false)], none, []⟩] false)
  .ret)
def b111 : DCode :=
 (.seq
  (.region [⟨(some 4), .mov, [.c (.bool false)], none, []⟩] false)
  (.seq
   (.seq
    (.region [⟨(some 5), .mov, [.c (.int .i64 0)], none, []⟩] false)
    (.block 0
     (.loop b111l0)))
   (.keep [] [] b111k2)))
def d111 : DFn := ⟨2, 18, [.tmp 4], b111⟩
theorem body111 : d111.body = b111 := rfl
theorem res111 : d111.res = [.tmp 4] := rfl
theorem k111 : chkFn Try.prog Try.f111 d111 = true := by kernel_rfl

/-- guidevane/guidevanebase.CopyInts -/
def b1043 : DCode :=
 (.seq
  (.region [⟨(some 2), .mov, [.z 1], none, []⟩] false)
  (.seq
   (.region [⟨(some 3), (.bsl 1), [], none, []⟩,
     ⟨(some 4), .movv, [.t 0], none, []⟩,
     ⟨(some 5), (.append 1 8 false), [.t 3, .t 4], none, [0, 1]⟩,
     ⟨(some 2), .mov, [.t 5], none, [2, 2, 0, 1, 2]⟩] false)
   (.ren 5 1000
    .ret)))
def d1043 : DFn := ⟨1, 6, [.tmp 2], b1043⟩
theorem body1043 : d1043.body = b1043 := rfl
theorem res1043 : d1043.res = [.tmp 2] := rfl
theorem k1043 : chkFnB Try.prog Try.f43 d1043 [] [1000] = true := by kernel_rfl

/-- guidevane/guidevaneref04.permitted -/
def b112k0 : DCode :=
 (.region [⟨(some 13), .mov, [.t 6], none, []⟩,
   ⟨(some 14), (.bin .add), [.t 13, .c (.int .i64 1)], none, [0]⟩,
   ⟨(some 6), .mov, [.t 14], none, [1, 0, 1]⟩] false)
def b112k1 : DCode :=
 (.seq
  (.block 1
   (.seq
    (.region [⟨(some 15), .mov, [.t 5], none, []⟩,
      ⟨(some 16), (.faddr 1 false 1), [.t 2], none, []⟩,
      ⟨(some 17), (.load false 1), [.t 16], none, [1]⟩,
      ⟨(some 18), .movv, [.t 1], none, []⟩,
      ⟨(some 19), .mov, [.t 6], none, []⟩,
      ⟨(some 20), (.iaddr 1), [.t 18, .t 19], none, [3, 4]⟩,
      ⟨(some 21), (.load false 1), [.t 20], none, [5]⟩,
      ⟨(some 22), (.iaddr 1), [.t 17, .t 21], none, [2, 6]⟩,
      ⟨(some 23), (.load false 1), [.t 22], none, [7]⟩,
      ⟨(some 24), (.bin .add), [.t 15, .t 23], none, [0, 8]⟩,
      ⟨(some 5), .mov, [.t 24], none, [9, 0, 1, 2, 3, 4, 5, 6, 7, 8, 9]⟩] true)
    (.seq
     (.region [⟨(some 25), .mov, [.t 5], none, []⟩,
       ⟨(some 26), .call, [.f 21, .t 25], none, [0]⟩,
       ⟨(some 27), (.bin .neq), [.t 26, .c (.int .i64 0)], none, [1]⟩] false)
     (.cond (.t 27)
      (.seq
       (.region [⟨(some 4), .mov, [.c (.bool false)], none, []⟩] false)
       .ret)
      .skip))))
  (.keep [1, 2, 5, 6] [2] b112k0))
def b112l0 : DCode := .keep [1, 2, 5, 6] [2]
  (.seq
   (.seq
    (.region [⟨(some 9), .mov, [.t 6], none, []⟩,
      ⟨(some 10), .movv, [.t 1], none, []⟩,
      ⟨(some 11), .len, [.t 10], none, [1]⟩,
      ⟨(some 12), (.bin .lss), [.t 9, .t 11], none, [0, 2]⟩] false)
    (.cond (.t 12)
     .skip
     (.exit 0)))
   (.keep [1, 2, 5, 6] [2] b112k1))
def b112k2 : DCode :=
 (.seq
  (.region [⟨(some 4), .mov, [.c (.bool true)], none, []⟩] false)
  .ret)
def b112 : DCode :=
 (.seq
  (.region [⟨(some 2), .box, [.t 0], none, []⟩,
    ⟨(some 4), .mov, [.c (.bool false)], none, []⟩] false)
  (.seq
   (.region [⟨(some 7), (.faddr 0 false 1), [.t 2], none, []⟩,
     ⟨(some 8), (.load false 1), [.t 7], none, [0]⟩,
     ⟨(some 5), .mov, [.t 8], none, [1, 0, 1]⟩] false)
   (.seq
    (.seq
     (.region [⟨(some 6), .mov, [.c (.int .i64 0)], none, []⟩] false)
     (.block 0
      (.loop b112l0)))
    (.keep [] [] b112k2))))
def d112 : DFn := ⟨2, 28, [.tmp 4], b112⟩
theorem body112 : d112.body = b112 := rfl
theorem res112 : d112.res = [.tmp 4] := rfl
theorem k112 : chkFn Try.prog Try.f112 d112 = true := by kernel_rfl

/-- guidevane/guidevaneref04.orders -/
def b110k0 : DCode :=
 (.region [⟨(some 25), .mov, [.t 6], none, []⟩,
   ⟨(some 26), (.bin .add), [.t 25, .c (.int .i64 1)], none, [0]⟩,
   ⟨(some 6), .mov, [.t 26], none, [1, 0, 1]⟩] false)
def b110k1 : DCode :=
 (.seq
  (.block 1
   (.seq
    (.region [⟨(some 27), .movv, [.t 1], none, []⟩,
      ⟨(some 28), .mov, [.t 6], none, []⟩,
      ⟨(some 29), .call, [.f 111, .t 27, .t 28], none, [0, 1]⟩,
      ⟨(some 30), (.un .not), [.t 29], none, [2]⟩] false)
    (.cond (.t 30)
     (.region [⟨(some 31), .mov, [.t 5], none, []⟩,
       ⟨(some 32), (.loadf true 4 []), [.t 2], none, []⟩,
       ⟨(some 33), .movv, [.t 1], none, []⟩,
       ⟨(some 35), .mov, [.t 6], none, []⟩,
       ⟨(some 36), (.bsl 1), [.t 35], none, [4]⟩,
       ⟨(some 34), (.callb []), [.f 43, .t 33], none, [2]⟩,
       ⟨(some 37), (.append 1 8 false), [.t 34, .t 36], none, [3, 5, 3]⟩,
       ⟨(some 38), .call, [.f 110, .t 32, .t 37], none, [1, 6, 6]⟩,
       ⟨(some 39), (.append 1 24 false), [.t 31, .t 38], none, [0, 7, 7]⟩,
       ⟨(some 5), .mov, [.t 39], none, [8, 8, 0, 1, 2, 3, 4, 5, 6, 7, 8]⟩] true)
     .skip)))
  (.keep [1, 2, 5, 6] [5, 39] b110k0))
def b110l0 : DCode := .keep [1, 2, 5, 6] [5, 39]
  (.seq
   (.seq
    (.region [⟨(some 20), .mov, [.t 6], none, []⟩,
      ⟨(some 21), (.faddr 1 false 1), [.t 2], none, []⟩,
      ⟨(some 22), (.load false 1), [.t 21], none, [1]⟩,
      ⟨(some 23), .len, [.t 22], none, [2]⟩,
      ⟨(some 24), (.bin .lss), [.t 20, .t 23], none, [0, 3]⟩] false)
    (.cond (.t 24)
     .skip
     (.exit 0)))
   (.keep [1, 2, 5, 6] [5, 39] b110k1))
def b110k2 : DCode :=
 (.seq
  (.region [⟨(some 40), .movv, [.t 5], none, []⟩,
    ⟨(some 4), .movv, [.t 40], none, [0, 0]⟩] false)
  .ret)
def b110k3 : DCode :=
 (.seq
  (.region [⟨(some 5), (.ntok 1), [.c (.slc 1 [])], none, []⟩] false)
  (.seq
   (.seq
    (.region [⟨(some 6), .mov, [.c (.int .i64 0)], none, []⟩] false)
    (.block 0
     (.loop b110l0)))
   (.keep [5] [5, 39] b110k2)))
def b110k4 : DCode :=
 (.seq
  (.seq
   (.region [⟨(some 11), .movv, [.t 1], none, []⟩,
     ⟨(some 12), .len, [.t 11], none, [0]⟩,
     ⟨(some 13), (.faddr 1 false 1), [.t 2], none, []⟩,
     ⟨(some 14), (.load false 1), [.t 13], none, [2]⟩,
     ⟨(some 15), .len, [.t 14], none, [3]⟩,
     ⟨(some 16), (.bin .eql), [.t 12, .t 15], none, [1, 4]⟩] false)
   (.cond (.t 16)
    (.seq
     (.region [⟨(some 17), .movv, [.t 1], none, []⟩,
       ⟨(some 18), .call, [.f 43, .t 17], none, [0]⟩,
       ⟨(some 19), (.bsl 1), [.t 18], none, [1]⟩,
       ⟨(some 4), .movv, [.t 19], none, [2, 1, 0, 1, 2]⟩] false)
     .ret)
    .skip))
  (.keep [1, 2] [] b110k3))
def b110 : DCode :=
 (.seq
  (.settle [2]
   (.region [⟨(some 2), .box, [.t 0], none, []⟩,
     ⟨(some 4), .mov, [.c (.slc 1 [])], none, []⟩] false))
  (.seq
   (.seq
    (.region [⟨(some 7), (.load true 4), [.t 2], none, []⟩,
      ⟨(some 8), .movv, [.t 1], none, []⟩,
      ⟨(some 9), .call, [.f 112, .t 7, .t 8], none, [0, 1]⟩,
      ⟨(some 10), (.un .not), [.t 9], none, [2]⟩] false)
    (.cond (.t 10)
     (.seq
      (.region [⟨(some 4), .mov, [.c (.slc 1 [])], none, []⟩] false)
      .ret)
     .skip))
   (.keep [1, 2] [] b110k4)))
def d110 : DFn := ⟨2, 41, [.tmp 4], b110⟩
theorem body110 : d110.body = b110 := rfl
theorem res110 : d110.res = [.tmp 4] := rfl
theorem k110 : chkFn Try.prog Try.f110 d110 = true := by kernel_rfl

/-- guidevane/guidevaneref04.Orders -/
def b45 : DCode :=
 (.seq
  (.region [⟨(some 1), .box, [.t 0], none, []⟩,
    ⟨(some 2), .mov, [.c (.slc 1 [])], none, []⟩] false)
  (.seq
   (.region [⟨(some 3), (.load true 4), [.t 1], none, []⟩,
     ⟨(some 4), .call, [.f 110, .t 3, .c (.slc 1 [])], none, [0]⟩,
     ⟨(some 2), .movv, [.t 4], none, [1, 1, 0, 1]⟩] false)
   .ret))
def d45 : DFn := ⟨1, 5, [.tmp 2], b45⟩
theorem body45 : d45.body = b45 := rfl
theorem res45 : d45.res = [.tmp 2] := rfl
theorem k45 : chkFn Try.prog Try.f45 d45 = true := by kernel_rfl

/-- guidevane/guidevaneref04.CheckPlan -/
def b44k0 : DCode :=
 (.seq
  (.region [⟨(some 31), (.faddr 1 false 1), [.t 1], none, []⟩,
    ⟨(some 32), (.load false 1), [.t 31], none, [0]⟩,
    ⟨(some 33), .mov, [.t 5], none, []⟩,
    ⟨(some 34), (.iaddr 1), [.t 32, .t 33], none, [1, 2]⟩,
    ⟨(some 35), (.load false 1), [.t 34], none, [3]⟩,
    ⟨(some 36), (.bin .eql), [.t 35, .c (.int .i64 0)], none, [4]⟩] false)
  (.cond (.t 36)
   (.seq
    (.region [⟨(some 37), .mov, [.t 5], none, []⟩,
      ⟨(some 2), .mov, [.t 37], none, [0, 0]⟩,
      ⟨(some 3), .mov, [.c (.int .i64 11)], none, [1, 0, 1]⟩] false)
    .ret)
   .skip))
def b44k1 : DCode :=
 (.region [⟨(some 21), .mov, [.t 5], none, []⟩,
   ⟨(some 22), (.bin .add), [.t 21, .c (.int .i64 1)], none, [0]⟩,
   ⟨(some 5), .mov, [.t 22], none, [1, 0, 1]⟩] false)
def b44k2 : DCode :=
 (.seq
  (.block 1
   (.seq
    (.seq
     (.region [⟨(some 23), (.faddr 1 false 1), [.t 1], none, []⟩,
       ⟨(some 24), (.load false 1), [.t 23], none, [0]⟩,
       ⟨(some 25), .mov, [.t 5], none, []⟩,
       ⟨(some 26), (.iaddr 1), [.t 24, .t 25], none, [1, 2]⟩,
       ⟨(some 27), (.load false 1), [.t 26], none, [3]⟩,
       ⟨(some 28), .call, [.f 27, .t 27, .c (.int .i64 (-1000)), .c (.int .i64 1000)], none, [4]⟩,
       ⟨(some 29), (.un .not), [.t 28], none, [5]⟩] false)
     (.cond (.t 29)
      (.seq
       (.region [⟨(some 30), .mov, [.t 5], none, []⟩,
         ⟨(some 2), .mov, [.t 30], none, [0, 0]⟩,
         ⟨(some 3), .mov, [.c (.int .i64 2)], none, [1, 0, 1]⟩] false)
       .ret)
      .skip))
    (.keep [1, 5] [1] b44k0)))
  (.keep [1, 5] [1] b44k1))
def b44l0 : DCode := .keep [1, 5] [1]
  (.seq
   (.seq
    (.region [⟨(some 16), .mov, [.t 5], none, []⟩,
      ⟨(some 17), (.faddr 1 false 1), [.t 1], none, []⟩,
      ⟨(some 18), (.load false 1), [.t 17], none, [1]⟩,
      ⟨(some 19), .len, [.t 18], none, [2]⟩,
      ⟨(some 20), (.bin .lss), [.t 16, .t 19], none, [0, 3]⟩] false)
    (.cond (.t 20)
     .skip
     (.exit 0)))
   (.keep [1, 5] [1] b44k2))
def b44k3 : DCode :=
 (.seq
  (.region [⟨(some 2), .mov, [.c (.int .i64 0)], none, []⟩,
    ⟨(some 3), .mov, [.c (.int .i64 0)], none, [0, 0]⟩] false)
  .ret)
def b44k4 : DCode :=
 (.seq
  (.seq
   (.region [⟨(some 38), (.faddr 2 false 1), [.t 1], none, []⟩,
     ⟨(some 39), (.load false 1), [.t 38], none, [0]⟩,
     ⟨(some 40), .call, [.f 27, .t 39, .c (.int .i64 1), .c (.int .i64 20)], none, [1]⟩,
     ⟨(some 41), (.un .not), [.t 40], none, [2]⟩,
     ⟨(some 42), .mov, [.t 41], none, [3, 2]⟩,
     ⟨(some 43), (.faddr 3 false 1), [.t 1], (some (42, false)), [4]⟩,
     ⟨(some 44), (.load false 1), [.t 43], (some (42, false)), [5, 4]⟩,
     ⟨(some 45), .call, [.f 27, .t 44, .c (.int .i64 1), .c (.int .i64 200)], (some (42, false)), [6, 4, 4]⟩,
     ⟨(some 46), (.un .not), [.t 45], (some (42, false)), [7, 4]⟩,
     ⟨(some 47), .pick, [.t 42, .c (.bool true), .t 46], none, [4, 8]⟩] false)
   (.cond (.t 47)
    (.seq
     (.region [⟨(some 2), .mov, [.c (.int .i64 0)], none, []⟩,
       ⟨(some 3), .mov, [.c (.int .i64 2)], none, [0, 0]⟩] false)
     .ret)
    .skip))
  (.keep [] [] b44k3))
def b44k5 : DCode :=
 (.seq
  (.seq
   (.region [⟨(some 5), .mov, [.c (.int .i64 0)], none, []⟩] false)
   (.block 0
    (.loop b44l0)))
  (.keep [1] [1] b44k4))
def b44k6 : DCode :=
 (.seq
  (.seq
   (.region [⟨(some 12), (.faddr 1 false 1), [.t 1], none, []⟩,
     ⟨(some 13), (.load false 1), [.t 12], none, [0]⟩,
     ⟨(some 14), .len, [.t 13], none, [1]⟩,
     ⟨(some 15), (.bin .gtr), [.t 14, .c (.int .i64 4)], none, [2]⟩] false)
   (.cond (.t 15)
    (.seq
     (.region [⟨(some 2), .mov, [.c (.int .i64 0)], none, []⟩,
       ⟨(some 3), .mov, [.c (.int .i64 8)], none, [0, 0]⟩] false)
     .ret)
    .skip))
  (.keep [1] [1] b44k5))
def b44 : DCode :=
 (.seq
  (.region [⟨(some 1), .box, [.t 0], none, []⟩,
    ⟨(some 2), .mov, [.c (.int .i64 0)], none, []⟩,
    ⟨(some 3), .mov, [.c (.int .i64 0)], none, [1]⟩] false)
  (.seq
   (.seq
    (.region [⟨(some 6), (.faddr 0 false 1), [.t 1], none, []⟩,
      ⟨(some 7), (.load false 1), [.t 6], none, [0]⟩,
      ⟨(some 8), .call, [.f 21, .t 7], none, [1]⟩,
      ⟨(some 4), .mov, [.t 8], none, [2, 2, 0, 1, 2]⟩] false)
    (.seq
     (.region [⟨(some 9), .mov, [.t 4], none, []⟩,
       ⟨(some 10), (.bin .neq), [.t 9, .c (.int .i64 0)], none, [0]⟩] false)
     (.cond (.t 10)
      (.seq
       (.region [⟨(some 11), .mov, [.t 4], none, []⟩,
         ⟨(some 2), .mov, [.c (.int .i64 0)], none, []⟩,
         ⟨(some 3), .mov, [.t 11], none, [0, 1, 0, 1]⟩] false)
       .ret)
      .skip)))
   (.keep [1] [1] b44k6)))
def d44 : DFn := ⟨1, 48, [.tmp 2, .tmp 3], b44⟩
theorem body44 : d44.body = b44 := rfl
theorem res44 : d44.res = [.tmp 2, .tmp 3] := rfl
theorem k44 : chkFn Try.prog Try.f44 d44 = true := by kernel_rfl

/-- guidevane/guidevaneref04.PlanErr -/
def b35k0 : DCode :=
 (.seq
  (.region [⟨(some 14), (.load true 4), [.t 3], none, []⟩,
    ⟨(some 15), .call, [.f 44, .t 14], none, [0]⟩,
    ⟨(some 13), .mov, [.t 15], none, [1]⟩,
    ⟨(some 16), (.ext 0), [.t 13], none, [2]⟩,
    ⟨(some 17), (.ext 1), [.t 13], none, [2]⟩,
    ⟨(some 6), .mov, [.t 16], none, [3, 1, 0, 1, 2, 3]⟩,
    ⟨(some 7), .mov, [.t 17], none, [4, 5, 0, 1, 2, 3, 4, 5]⟩] false)
  (.seq
   (.region [⟨(some 18), .mov, [.t 7], none, []⟩,
     ⟨(some 4), .mov, [.t 18], none, [0, 0]⟩] false)
   .ret))
def b35 : DCode :=
 (.seq
  (.region [⟨(some 2), .box, [.t 0], none, []⟩,
    ⟨(some 3), .box, [.t 1], none, []⟩,
    ⟨(some 4), .mov, [.c (.int .i64 0)], none, []⟩] false)
  (.seq
   (.seq
    (.region [⟨(some 8), (.load true 5), [.t 2], none, []⟩,
      ⟨(some 9), .call, [.f 17, .t 8], none, [0]⟩,
      ⟨(some 5), .mov, [.t 9], none, [1, 1, 0, 1]⟩] false)
    (.seq
     (.region [⟨(some 10), .mov, [.t 5], none, []⟩,
       ⟨(some 11), (.bin .neq), [.t 10, .c (.int .i64 0)], none, [0]⟩] false)
     (.cond (.t 11)
      (.seq
       (.region [⟨(some 12), .mov, [.t 5], none, []⟩,
         ⟨(some 4), .mov, [.t 12], none, [0, 0]⟩] false)
       .ret)
      .skip)))
   (.keep [3] [3] b35k0)))
def d35 : DFn := ⟨2, 19, [.tmp 4], b35⟩
theorem body35 : d35.body = b35 := rfl
theorem res35 : d35.res = [.tmp 4] := rfl
theorem k35 : chkFn Try.prog Try.f35 d35 = true := by kernel_rfl

/-- guidevane/guidevaneref04.CopyPlan -/
def b31 : DCode :=
 (.seq
  (.region [⟨(some 1), .box, [.t 0], none, []⟩,
    ⟨(some 2), (.alloc [(.imm (.int .i64 0)), (.imm (.slc 1 [])), (.imm (.int .i64 0)), (.imm (.int .i64 0))]), [], none, []⟩] false)
  (.seq
   (.region [⟨(some 3), (.faddr 1 false 1), [.t 1], none, []⟩,
     ⟨(some 4), (.load false 1), [.t 3], none, [0]⟩,
     ⟨(some 5), .call, [.f 43, .t 4], none, [1]⟩,
     ⟨(some 6), (.faddr 1 false 1), [.t 1], none, [0, 1, 2]⟩,
     ⟨none, (.store 1), [.t 6, .t 5], none, [3, 2, 2, 0, 1, 2]⟩] false)
   (.seq
    (.region [⟨(some 7), (.load true 4), [.t 1], none, []⟩,
      ⟨none, (.store 4), [.t 2, .t 7], none, [0, 0]⟩] false)
    .ret)))
def d31 : DFn := ⟨1, 8, [.cell 2 true 4], b31⟩
theorem body31 : d31.body = b31 := rfl
theorem res31 : d31.res = [.cell 2 true 4] := rfl
theorem k31 : chkFn Try.prog Try.f31 d31 = true := by kernel_rfl

/-- guidevane/guidevaneref04.OrderErr -/
def b47k0 : DCode :=
 (.seq
  (.region [⟨(some 28), .movv, [.t 1], none, []⟩,
    ⟨(some 29), .mov, [.t 5], none, []⟩,
    ⟨(some 30), (.slice 1 false true), [.t 28, .t 29], none, [0, 1]⟩,
    ⟨(some 31), .movv, [.t 1], none, []⟩,
    ⟨(some 32), .mov, [.t 5], none, []⟩,
    ⟨(some 33), (.iaddr 1), [.t 31, .t 32], none, [3, 4]⟩,
    ⟨(some 34), (.load false 1), [.t 33], none, [5]⟩,
    ⟨(some 35), .call, [.f 111, .t 30, .t 34], none, [2, 6]⟩] true)
  (.cond (.t 35)
   (.seq
    (.region [⟨(some 4), .mov, [.c (.int .i64 23)], none, []⟩] false)
    .ret)
   .skip))
def b47k1 : DCode :=
 (.region [⟨(some 16), .mov, [.t 5], none, []⟩,
   ⟨(some 17), (.bin .add), [.t 16, .c (.int .i64 1)], none, [0]⟩,
   ⟨(some 5), .mov, [.t 17], none, [1, 0, 1]⟩] false)
def b47k2 : DCode :=
 (.seq
  (.block 1
   (.seq
    (.seq
     (.region [⟨(some 18), .movv, [.t 1], none, []⟩,
       ⟨(some 19), .mov, [.t 5], none, []⟩,
       ⟨(some 20), (.iaddr 1), [.t 18, .t 19], none, [0, 1]⟩,
       ⟨(some 21), (.load false 1), [.t 20], none, [2]⟩,
       ⟨(some 22), (.faddr 1 false 1), [.t 2], none, []⟩,
       ⟨(some 23), (.load false 1), [.t 22], none, [4]⟩,
       ⟨(some 24), .len, [.t 23], none, [5]⟩,
       ⟨(some 25), (.bin .sub), [.t 24, .c (.int .i64 1)], none, [6]⟩,
       ⟨(some 26), .call, [.f 27, .t 21, .c (.int .i64 0), .t 25], none, [3, 7]⟩,
       ⟨(some 27), (.un .not), [.t 26], none, [8]⟩] true)
     (.cond (.t 27)
      (.seq
       (.region [⟨(some 4), .mov, [.c (.int .i64 6)], none, []⟩] false)
       .ret)
      .skip))
    (.keep [1, 2, 5] [2] b47k0)))
  (.keep [1, 2, 5] [2] b47k1))
def b47l0 : DCode := .keep [1, 2, 5] [2]
  (.seq
   (.seq
    (.region [⟨(some 12), .mov, [.t 5], none, []⟩,
      ⟨(some 13), .movv, [.t 1], none, []⟩,
      ⟨(some 14), .len, [.t 13], none, [1]⟩,
      ⟨(some 15), (.bin .lss), [.t 12, .t 14], none, [0, 2]⟩] false)
    (.cond (.t 15)
     .skip
     (.exit 0)))
   (.keep [1, 2, 5] [2] b47k2))
def b47k3 : DCode :=
 (.seq
  (.region [⟨(some 4), .mov, [.c (.int .i64 0)], none, []⟩] false)
  .ret)
def b47k4 : DCode :=
 (.seq
  (.seq
   (.region [⟨(some 36), (.load true 4), [.t 2], none, []⟩,
     ⟨(some 37), .movv, [.t 1], none, []⟩,
     ⟨(some 38), .call, [.f 112, .t 36, .t 37], none, [0, 1]⟩,
     ⟨(some 39), (.un .not), [.t 38], none, [2]⟩] false)
   (.cond (.t 39)
    (.seq
     (.region [⟨(some 4), .mov, [.c (.int .i64 24)], none, []⟩] false)
     .ret)
    .skip))
  (.keep [] [] b47k3))
def b47k5 : DCode :=
 (.seq
  (.seq
   (.region [⟨(some 5), .mov, [.c (.int .i64 0)], none, []⟩] false)
   (.block 0
    (.loop b47l0)))
  (.keep [1, 2] [2] b47k4))
def b47 : DCode :=
 (.seq
  (.region [⟨(some 2), .box, [.t 0], none, []⟩,
    ⟨(some 4), .mov, [.c (.int .i64 0)], none, []⟩] false)
  (.seq
   (.seq
    (.region [⟨(some 6), .movv, [.t 1], none, []⟩,
      ⟨(some 7), .len, [.t 6], none, [0]⟩,
      ⟨(some 8), (.faddr 1 false 1), [.t 2], none, []⟩,
      ⟨(some 9), (.load false 1), [.t 8], none, [2]⟩,
      ⟨(some 10), .len, [.t 9], none, [3]⟩,
      ⟨(some 11), (.bin .neq), [.t 7, .t 10], none, [1, 4]⟩] false)
    (.cond (.t 11)
     (.seq
      (.region [⟨(some 4), .mov, [.c (.int .i64 10)], none, []⟩] false)
      .ret)
     .skip))
   (.keep [1, 2] [2] b47k5)))
def d47 : DFn := ⟨2, 40, [.tmp 4], b47⟩
theorem body47 : d47.body = b47 := rfl
theorem res47 : d47.res = [.tmp 4] := rfl
theorem k47 : chkFn Try.prog Try.f47 d47 = true := by kernel_rfl

/-- guidevane/guidevaneref04.Loads -/
def b48k0 : DCode :=
 (.region [⟨(some 21), .mov, [.t 8], none, []⟩,
   ⟨(some 22), (.bin .add), [.t 21, .c (.int .i64 1)], none, [0]⟩,
   ⟨(some 8), .mov, [.t 22], none, [1, 0, 1]⟩] false)
def b48k1 : DCode :=
 (.seq
  (.block 3
   (.seq
    (.region [⟨(some 23), .mov, [.t 8], none, []⟩,
      ⟨(some 24), (.faddr 2 false 1), [.t 2], none, []⟩,
      ⟨(some 25), (.load false 1), [.t 24], none, [1]⟩,
      ⟨(some 26), (.bin .mul), [.t 23, .t 25], none, [0, 2]⟩,
      ⟨(some 27), .mov, [.t 6], none, []⟩,
      ⟨(some 28), (.bin .leq), [.t 26, .t 27], none, [3, 4]⟩] false)
    (.cond (.t 28)
     (.region [⟨(some 29), .mov, [.t 7], none, []⟩,
       ⟨(some 30), (.faddr 1 false 1), [.t 2], none, []⟩,
       ⟨(some 31), (.load false 1), [.t 30], none, [1]⟩,
       ⟨(some 32), .movv, [.t 1], none, []⟩,
       ⟨(some 33), .mov, [.t 8], none, []⟩,
       ⟨(some 34), (.iaddr 1), [.t 32, .t 33], none, [3, 4]⟩,
       ⟨(some 35), (.load false 1), [.t 34], none, [5]⟩,
       ⟨(some 36), (.iaddr 1), [.t 31, .t 35], none, [2, 6]⟩,
       ⟨(some 37), (.load false 1), [.t 36], none, [7]⟩,
       ⟨(some 38), (.bin .add), [.t 29, .t 37], none, [0, 8]⟩,
       ⟨(some 7), .mov, [.t 38], none, [9, 0, 1, 2, 3, 4, 5, 6, 7, 8, 9]⟩] true)
     .skip)))
  (.keep [1, 2, 5, 6, 7, 8] [2, 5, 42] b48k0))
def b48l0 : DCode := .keep [1, 2, 5, 6, 7, 8] [2, 5, 42]
  (.seq
   (.seq
    (.region [⟨(some 17), .mov, [.t 8], none, []⟩,
      ⟨(some 18), .movv, [.t 1], none, []⟩,
      ⟨(some 19), .len, [.t 18], none, [1]⟩,
      ⟨(some 20), (.bin .lss), [.t 17, .t 19], none, [0, 2]⟩] false)
    (.cond (.t 20)
     .skip
     (.exit 2)))
   (.keep [1, 2, 5, 6, 7, 8] [2, 5, 42] b48k1))
def b48k2 : DCode :=
 (.region [⟨(some 39), .mov, [.t 5], none, []⟩,
   ⟨(some 40), .mov, [.t 7], none, []⟩,
   ⟨(some 41), (.bsl 1), [.t 40], none, [1]⟩,
   ⟨(some 42), (.append 1 8 false), [.t 39, .t 41], none, [0, 2]⟩,
   ⟨(some 5), .mov, [.t 42], none, [3, 3, 0, 1, 2, 3]⟩] false)
def b48k3 : DCode :=
 (.region [⟨(some 13), .mov, [.t 6], none, []⟩,
   ⟨(some 14), (.bin .add), [.t 13, .c (.int .i64 1)], none, [0]⟩,
   ⟨(some 6), .mov, [.t 14], none, [1, 0, 1]⟩] false)
def b48k4 : DCode :=
 (.seq
  (.block 1
   (.seq
    (.region [⟨(some 15), (.faddr 0 false 1), [.t 2], none, []⟩,
      ⟨(some 16), (.load false 1), [.t 15], none, [0]⟩,
      ⟨(some 7), .mov, [.t 16], none, [1, 0, 1]⟩] false)
    (.seq
     (.seq
      (.region [⟨(some 8), .mov, [.c (.int .i64 0)], none, []⟩] false)
      (.block 2
       (.loop b48l0)))
     (.keep [1, 2, 5, 6, 7] [2, 5, 42] b48k2))))
  (.keep [1, 2, 5, 6] [2, 5, 42] b48k3))
def b48l1 : DCode := .keep [1, 2, 5, 6] [2, 5, 42]
  (.seq
   (.seq
    (.region [⟨(some 9), .mov, [.t 6], none, []⟩,
      ⟨(some 10), (.faddr 3 false 1), [.t 2], none, []⟩,
      ⟨(some 11), (.load false 1), [.t 10], none, [1]⟩,
      ⟨(some 12), (.bin .lss), [.t 9, .t 11], none, [0, 2]⟩] false)
    (.cond (.t 12)
     .skip
     (.exit 0)))
   (.keep [1, 2, 5, 6] [2, 5, 42] b48k4))
def b48k5 : DCode :=
 (.seq
  (.region [⟨(some 43), .movv, [.t 5], none, []⟩,
    ⟨(some 4), .movv, [.t 43], none, [0, 0]⟩] false)
  .ret)
def b48 : DCode :=
 (.seq
  (.region [⟨(some 2), .box, [.t 0], none, []⟩,
    ⟨(some 4), .mov, [.c (.slc 1 [])], none, []⟩] false)
  (.seq
   (.region [⟨(some 5), (.ntok 1), [.c (.slc 1 [])], none, []⟩] false)
   (.seq
    (.seq
     (.region [⟨(some 6), .mov, [.c (.int .i64 0)], none, []⟩] false)
     (.block 0
      (.loop b48l1)))
    (.keep [5] [5, 42] b48k5))))
def d48 : DFn := ⟨2, 44, [.tmp 4], b48⟩
theorem body48 : d48.body = b48 := rfl
theorem res48 : d48.res = [.tmp 4] := rfl
theorem k48 : chkFn Try.prog Try.f48 d48 = true := by kernel_rfl

/-- guidevane/guidevanelaw04.Few -/
def b28k0 : DCode :=
 (.seq
  (.region [⟨(some 10), (.load true 4), [.t 1], none, []⟩,
    ⟨(some 11), .call, [.f 44, .t 10], none, [0]⟩,
    ⟨(some 9), .mov, [.t 11], none, [1]⟩,
    ⟨(some 12), (.ext 0), [.t 9], none, [2]⟩,
    ⟨(some 13), (.ext 1), [.t 9], none, [2]⟩,
    ⟨(some 3), .mov, [.t 12], none, [3, 1, 0, 1, 2, 3]⟩,
    ⟨(some 4), .mov, [.t 13], none, [4, 5, 0, 1, 2, 3, 4, 5]⟩] false)
  (.seq
   (.region [⟨(some 14), .mov, [.t 4], none, []⟩,
     ⟨(some 15), (.bin .neq), [.t 14, .c (.int .i64 0)], none, [0]⟩,
     ⟨(some 16), .mov, [.t 15], none, [1]⟩,
     ⟨(some 17), (.faddr 1 false 1), [.t 1], (some (16, false)), [2]⟩,
     ⟨(some 18), (.load false 1), [.t 17], (some (16, false)), [3, 2]⟩,
     ⟨(some 19), .len, [.t 18], (some (16, false)), [4, 2]⟩,
     ⟨(some 20), (.bin .leq), [.t 19, .c (.int .i64 3)], (some (16, false)), [5, 2]⟩,
     ⟨(some 21), .mov, [.t 20], (some (16, false)), [6, 2, 2]⟩,
     ⟨(some 22), (.faddr 3 false 1), [.t 1], (some (21, true)), [7]⟩,
     ⟨(some 23), (.load false 1), [.t 22], (some (21, true)), [8, 7]⟩,
     ⟨(some 24), (.bin .leq), [.t 23, .c (.int .i64 40)], (some (21, true)), [9, 7]⟩,
     ⟨(some 25), .pick, [.t 21, .t 24, .c (.bool false)], (some (16, false)), [7, 10, 2]⟩,
     ⟨(some 26), .pick, [.t 16, .c (.bool true), .t 25], none, [2, 11]⟩,
     ⟨(some 2), .mov, [.t 26], none, [12, 7, 0, 1, 2, 3, 4, 5, 6, 7, 8, 9, 10, 11, 12]⟩] false)
   .ret))
def b28 : DCode :=
 (.seq
  (.region [⟨(some 1), .box, [.t 0], none, []⟩,
    ⟨(some 2), .mov, [.c (.bool false)], none, []⟩] false)
  (.seq
   (.seq
    (.region [⟨(some 5), (.faddr 1 false 1), [.t 1], none, []⟩,
      ⟨(some 6), (.load false 1), [.t 5], none, [0]⟩,
      ⟨(some 7), .len, [.t 6], none, [1]⟩,
      ⟨(some 8), (.bin .gtr), [.t 7, .c (.int .i64 6)], none, [2]⟩] false)
    (.cond (.t 8)
     (.seq
      (.region [⟨(some 2), .mov, [.c (.bool false)], none, []⟩] false)
      .ret)
     .skip))
   (.keep [1] [1] b28k0)))
def d28 : DFn := ⟨1, 27, [.tmp 2], b28⟩
theorem body28 : d28.body = b28 := rfl
theorem res28 : d28.res = [.tmp 2] := rfl
theorem k28 : chkFn Try.prog Try.f28 d28 = true := by kernel_rfl

end Go.DI

/- Contracts: the reference's orders. No condition. -/
set_option linter.unusedSimpArgs false
namespace Go.DI
open Go.Proofs Go.RowKit Sg

theorem c_Has {l : List Int} {v : Int} (hn : l.length ≤ 1000000000) : Contract Try.prog 111 [snI l, .int .i64 v] (.bool (decide (v ∈ l))) := by
  refine contract_run Try.func111 k111 rfl ?_
  simp only [body111, b111, res111, b111k0, b111k1, b111k2, ruI, ssI, sbI, spI, swI, scI, stI, srI, saI, snI, ↓reduceIte, reduceCtorEq, Nat.reduceEqDiff, Nat.reduceAdd, Nat.reduceMul, Nat.reduceSub, Nat.reduceLeDiff, Nat.reduceBEq, Int.reduceToNat, Int.reduceLE, Int.reduceLT, Int.reduceEq, Int.reduceNe, di0, di1, di2, di3, di4, di5, di6, di7, di8, di9, postX_ret, postX_normal, ex_some]
  refine loop_keep (α := Nat) rfl (fun i => l.length - i) (fun i => i ≤ l.length ∧ v ∉ l.take i)
    (fun i => [(0, .imm (snI l)), (1, .imm (.int .i64 v)), (5, .imm (.int .i64 i))]) (fun _ => []) 0 ⟨Nat.zero_le _, by simp⟩ (by simp only [ruI, ssI, sbI, spI, swI, scI, stI, srI, saI, snI, ↓reduceIte, reduceCtorEq, Nat.reduceEqDiff, Nat.reduceAdd, Nat.reduceMul, Nat.reduceSub, Nat.reduceLeDiff, Nat.reduceBEq, Int.reduceToNat, Int.reduceLE, Int.reduceLT, Int.reduceEq, Int.reduceNe, di0, di1, di2, di3, di4, di5, di6, di7, di8, di9, postX_ret, postX_normal, ex_some] <;> rfl) ?_
  intro i ⟨hi, hs⟩ ih
  simp only [res111, b111k0, b111k1, b111k2, ruI, ssI, sbI, spI, swI, scI, stI, srI, saI, snI, ↓reduceIte, reduceCtorEq, Nat.reduceEqDiff, Nat.reduceAdd, Nat.reduceMul, Nat.reduceSub, Nat.reduceLeDiff, Nat.reduceBEq, Int.reduceToNat, Int.reduceLE, Int.reduceLT, Int.reduceEq, Int.reduceNe, di0, di1, di2, di3, di4, di5, di6, di7, di8, di9, postX_ret, postX_normal, ex_some]
  split
  case isFalse h =>
    have : i = l.length := by omega
    subst this
    rw [List.take_length] at hs
    rw [decide_eq_false hs]
  rename_i h
  have hlt : i < l.length := by omega
  have hm := getD_mem hlt
  repeat (refine And.intro (by omega) ?_)
  split
  · rename_i h2
    rw [← h2, decide_eq_true hm]
  · rename_i h2
    rw [wrap64 (by omega) (by omega)]
    refine ih (i + 1) _ _ (by omega) ⟨by omega, ?_⟩ (by simp only [ruI, ssI, sbI, spI, swI, scI, stI, srI, saI, snI, ↓reduceIte, reduceCtorEq, Nat.reduceEqDiff, Nat.reduceAdd, Nat.reduceMul, Nat.reduceSub, Nat.reduceLeDiff, Nat.reduceBEq, Int.reduceToNat, Int.reduceLE, Int.reduceLT, Int.reduceEq, Int.reduceNe, di0, di1, di2, di3, di4, di5, di6, di7, di8, di9, postX_ret, postX_normal, ex_some] <;> rfl)
    intro hx
    rw [List.take_add_one, List.getElem?_eq_getElem hlt] at hx
    rcases List.mem_append.1 hx with hx | hx
    · exact hs hx
    · simp only [Option.toList_some, List.mem_singleton] at hx
      rw [show l[i] = l.getD i 0 by rw [List.getD_eq_getElem?_getD]; simp [hlt]] at hx
      exact h2 hx.symm

theorem r_permitted {p : Pl} {o : List Int} (hp : PlanOk p) (ho : Idx p o) : Contract Try.prog 112 [spI p, snI o] (.bool (permL p.ch p.load o)) := by
  have hpl := hp.load
  have hol := ho.1
  refine contract_run Try.func112 k112 rfl ?_
  simp only [body112, b112, res112, b112k0, b112k1, b112k2, ruI, ssI, sbI, spI, swI, scI, stI, srI, saI, snI, ↓reduceIte, reduceCtorEq, Nat.reduceEqDiff, Nat.reduceAdd, Nat.reduceMul, Nat.reduceSub, Nat.reduceLeDiff, Nat.reduceBEq, Int.reduceToNat, Int.reduceLE, Int.reduceLT, Int.reduceEq, Int.reduceNe, di0, di1, di2, di3, di4, di5, di6, di7, di8, di9, postX_ret, postX_normal, ex_some]
  refine loop_keep (α := Nat × Int) rfl (fun q => o.length - q.1) (fun q => q.1 ≤ o.length ∧ (0 ≤ q.2 ∧ q.2 ≤ 1000) ∧ permL p.ch p.load o = permL p.ch q.2 (o.drop q.1))
    (fun q => [(1, .imm (snI o)), (2, .ref 2 0), (5, .imm (.int .i64 q.2)), (6, .imm (.int .i64 q.1))])
    (fun _ => [(2, .box [.imm (.int .i64 p.load), .imm (snI p.ch), .imm (.int .i64 p.wait), .imm (.int .i64 p.ticks)])]) (0, p.load) ⟨Nat.zero_le _, hp.load, rfl⟩ (by simp only [ruI, ssI, sbI, spI, swI, scI, stI, srI, saI, snI, ↓reduceIte, reduceCtorEq, Nat.reduceEqDiff, Nat.reduceAdd, Nat.reduceMul, Nat.reduceSub, Nat.reduceLeDiff, Nat.reduceBEq, Int.reduceToNat, Int.reduceLE, Int.reduceLT, Int.reduceEq, Int.reduceNe, di0, di1, di2, di3, di4, di5, di6, di7, di8, di9, postX_ret, postX_normal, ex_some] <;> rfl) ?_
  rintro ⟨i, load⟩ ⟨hi, hb, he⟩ ih
  dsimp only at hi hb he ⊢
  simp only [res112, b112k0, b112k1, b112k2, ruI, ssI, sbI, spI, swI, scI, stI, srI, saI, snI, ↓reduceIte, reduceCtorEq, Nat.reduceEqDiff, Nat.reduceAdd, Nat.reduceMul, Nat.reduceSub, Nat.reduceLeDiff, Nat.reduceBEq, Int.reduceToNat, Int.reduceLE, Int.reduceLT, Int.reduceEq, Int.reduceNe, di0, di1, di2, di3, di4, di5, di6, di7, di8, di9, postX_ret, postX_normal, ex_some]
  split
  · rename_i h
    have hlt : i < o.length := by omega
    have hx := ho.2 _ (getD_mem hlt)
    rw [getD_drop hlt] at he
    generalize o.getD i 0 = x at hx he
    have hn := nth_bd hp x
    repeat (refine And.intro (by omega) ?_)
    rw [show p.ch.getD x.toNat 0 = nth p.ch x from rfl]
    rw [show IntKind.wrap .i64 (load + nth p.ch x) = load + nth p.ch x from wrap64 (by omega) (by omega)]
    refine calls_of r_LoadErr ?_; simp only [ruI, ssI, sbI, spI, swI, scI, stI, srI, saI, snI, res112, b112k0, b112k1, b112k2, ↓reduceIte, reduceCtorEq, Nat.reduceEqDiff, Nat.reduceAdd, Nat.reduceMul, Nat.reduceSub, Nat.reduceLeDiff, Nat.reduceBEq, Int.reduceToNat, Int.reduceLE, Int.reduceLT, Int.reduceEq, Int.reduceNe, di0, di1, di2, di3, di4, di5, di6, di7, di8, di9, postX_ret, postX_normal, ex_some]
    rw [permL_cons] at he
    unfold loadErr
    by_cases h2 : Wi (load + nth p.ch x) 0 1000
    · simp only [h2, decide_true, Bool.true_and] at he
      simp only [h2, ruI, ssI, sbI, spI, swI, scI, stI, srI, saI, snI, ↓reduceIte, reduceCtorEq, Nat.reduceEqDiff, Nat.reduceAdd, Nat.reduceMul, Nat.reduceSub, Nat.reduceLeDiff, Nat.reduceBEq, Int.reduceToNat, Int.reduceLE, Int.reduceLT, Int.reduceEq, Int.reduceNe, di0, di1, di2, di3, di4, di5, di6, di7, di8, di9, postX_ret, postX_normal, ex_some]
      rw [wrap64 (by omega) (by omega)]
      refine ih (i + 1, load + nth p.ch x) _ _ (by dsimp only; omega) ⟨by dsimp only; omega, h2, he⟩ (by simp only [ruI, ssI, sbI, spI, swI, scI, stI, srI, saI, snI, ↓reduceIte, reduceCtorEq, Nat.reduceEqDiff, Nat.reduceAdd, Nat.reduceMul, Nat.reduceSub, Nat.reduceLeDiff, Nat.reduceBEq, Int.reduceToNat, Int.reduceLE, Int.reduceLT, Int.reduceEq, Int.reduceNe, di0, di1, di2, di3, di4, di5, di6, di7, di8, di9, postX_ret, postX_normal, ex_some] <;> rfl)
    · simp only [h2, decide_false, Bool.false_and] at he
      simp only [h2, ruI, ssI, sbI, spI, swI, scI, stI, srI, saI, snI, ↓reduceIte, reduceCtorEq, Nat.reduceEqDiff, Nat.reduceAdd, Nat.reduceMul, Nat.reduceSub, Nat.reduceLeDiff, Nat.reduceBEq, Int.reduceToNat, Int.reduceLE, Int.reduceLT, Int.reduceEq, Int.reduceNe, di0, di1, di2, di3, di4, di5, di6, di7, di8, di9, postX_ret, postX_normal, ex_some]
      rw [he]
  · rename_i h
    have : i = o.length := by omega
    subst this
    rw [he]
    simp [permL]

/-- A copy that is the caller's own. -/
theorem b_CopyInts {l : List Int} (hl : l.length ≤ 1000000000) : BC Try.prog 43 [.imm (snI l)] (lookR []) fun r R' => r = .own 1000 ∧ R' = lookR [(1000, .tok 1 (l.map (IV.int .i64)))] := by
  refine bc_run Try.func43 k1043 rfl rfl ?_
  simp only [body1043, b1043, res1043, ruI, ssI, sbI, spI, swI, scI, stI, srI, saI, snI, ↓reduceIte, reduceCtorEq, Nat.reduceEqDiff, Nat.reduceAdd, Nat.reduceMul, Nat.reduceSub, Nat.reduceLeDiff, Nat.reduceBEq, Int.reduceToNat, Int.reduceLE, Int.reduceLT, Int.reduceEq, Int.reduceNe, di0, di1, di2, di3, di4, di5, di6, di7, di8, di9, postX_ret, postX_normal, ex_some]
  repeat (refine And.intro (by omega) ?_)
  refine run_ren rfl (by decide) (by decide) (by decide) ?_
  simp only [ruI, ssI, sbI, spI, swI, scI, stI, srI, saI, snI, ↓reduceIte, reduceCtorEq, Nat.reduceEqDiff, Nat.reduceAdd, Nat.reduceMul, Nat.reduceSub, Nat.reduceLeDiff, Nat.reduceBEq, Int.reduceToNat, Int.reduceLE, Int.reduceLT, Int.reduceEq, Int.reduceNe, di0, di1, di2, di3, di4, di5, di6, di7, di8, di9, postX_ret, postX_normal, ex_some]
  rw [outD_one res1043, getD_tmp]
  exact ⟨_, rfl, rfl, rfl⟩

theorem r_orders {p : Pl} (hp : PlanOk p) : ∀ (f : Nat) (o : List Int), o.length + f = p.ch.length → (∀ i ∈ o, 0 ≤ i ∧ i < p.ch.length) →
    Contract Try.prog 110 [spI p, snI o] (.slc 1 ((if permL p.ch p.load o = true then ordF p f o else []).map snI))
  | 0, o, hl, ho => by
    have hpl := hp.len
    refine contract_run Try.func110 k110 rfl ?_
    simp only [body110, b110, res110, b110k0, b110k1, b110k2, b110k3, b110k4, ruI, ssI, sbI, spI, swI, scI, stI, srI, saI, snI, ↓reduceIte, reduceCtorEq, Nat.reduceEqDiff, Nat.reduceAdd, Nat.reduceMul, Nat.reduceSub, Nat.reduceLeDiff, Nat.reduceBEq, Int.reduceToNat, Int.reduceLE, Int.reduceLT, Int.reduceEq, Int.reduceNe, di0, di1, di2, di3, di4, di5, di6, di7, di8, di9, postX_ret, postX_normal, ex_some]
    refine calls_of (r_permitted hp ⟨by omega, ho⟩) ?_; simp only [ruI, ssI, sbI, spI, swI, scI, stI, srI, saI, snI, res110, b110k0, b110k1, b110k2, b110k3, b110k4, ↓reduceIte, reduceCtorEq, Nat.reduceEqDiff, Nat.reduceAdd, Nat.reduceMul, Nat.reduceSub, Nat.reduceLeDiff, Nat.reduceBEq, Int.reduceToNat, Int.reduceLE, Int.reduceLT, Int.reduceEq, Int.reduceNe, di0, di1, di2, di3, di4, di5, di6, di7, di8, di9, postX_ret, postX_normal, ex_some]
    cases hm : permL p.ch p.load o
    · simp only [ruI, ssI, sbI, spI, swI, scI, stI, srI, saI, snI, ↓reduceIte, reduceCtorEq, Nat.reduceEqDiff, Nat.reduceAdd, Nat.reduceMul, Nat.reduceSub, Nat.reduceLeDiff, Nat.reduceBEq, Int.reduceToNat, Int.reduceLE, Int.reduceLT, Int.reduceEq, Int.reduceNe, di0, di1, di2, di3, di4, di5, di6, di7, di8, di9, postX_ret, postX_normal, ex_some]
    · simp only [ruI, ssI, sbI, spI, swI, scI, stI, srI, saI, snI, ↓reduceIte, reduceCtorEq, Nat.reduceEqDiff, Nat.reduceAdd, Nat.reduceMul, Nat.reduceSub, Nat.reduceLeDiff, Nat.reduceBEq, Int.reduceToNat, Int.reduceLE, Int.reduceLT, Int.reduceEq, Int.reduceNe, di0, di1, di2, di3, di4, di5, di6, di7, di8, di9, postX_ret, postX_normal, ex_some]
      rw [if_pos (by omega)]
      refine calls_of (c_CopyInts (a := o) (by omega)) ?_; simp only [ruI, ssI, sbI, spI, swI, scI, stI, srI, saI, snI, res110, b110k0, b110k1, b110k2, b110k3, b110k4, ↓reduceIte, reduceCtorEq, Nat.reduceEqDiff, Nat.reduceAdd, Nat.reduceMul, Nat.reduceSub, Nat.reduceLeDiff, Nat.reduceBEq, Int.reduceToNat, Int.reduceLE, Int.reduceLT, Int.reduceEq, Int.reduceNe, di0, di1, di2, di3, di4, di5, di6, di7, di8, di9, postX_ret, postX_normal, ex_some]
      rfl
  | f + 1, o, hl, ho => by
    have hpl := hp.len
    refine contract_run Try.func110 k110 rfl ?_
    simp only [body110, b110, res110, b110k0, b110k1, b110k2, b110k3, b110k4, ruI, ssI, sbI, spI, swI, scI, stI, srI, saI, snI, ↓reduceIte, reduceCtorEq, Nat.reduceEqDiff, Nat.reduceAdd, Nat.reduceMul, Nat.reduceSub, Nat.reduceLeDiff, Nat.reduceBEq, Int.reduceToNat, Int.reduceLE, Int.reduceLT, Int.reduceEq, Int.reduceNe, di0, di1, di2, di3, di4, di5, di6, di7, di8, di9, postX_ret, postX_normal, ex_some]
    refine calls_of (r_permitted hp ⟨by omega, ho⟩) ?_; simp only [ruI, ssI, sbI, spI, swI, scI, stI, srI, saI, snI, res110, b110k0, b110k1, b110k2, b110k3, b110k4, ↓reduceIte, reduceCtorEq, Nat.reduceEqDiff, Nat.reduceAdd, Nat.reduceMul, Nat.reduceSub, Nat.reduceLeDiff, Nat.reduceBEq, Int.reduceToNat, Int.reduceLE, Int.reduceLT, Int.reduceEq, Int.reduceNe, di0, di1, di2, di3, di4, di5, di6, di7, di8, di9, postX_ret, postX_normal, ex_some]
    cases hm : permL p.ch p.load o
    · simp only [ruI, ssI, sbI, spI, swI, scI, stI, srI, saI, snI, ↓reduceIte, reduceCtorEq, Nat.reduceEqDiff, Nat.reduceAdd, Nat.reduceMul, Nat.reduceSub, Nat.reduceLeDiff, Nat.reduceBEq, Int.reduceToNat, Int.reduceLE, Int.reduceLT, Int.reduceEq, Int.reduceNe, di0, di1, di2, di3, di4, di5, di6, di7, di8, di9, postX_ret, postX_normal, ex_some]
    simp only [ruI, ssI, sbI, spI, swI, scI, stI, srI, saI, snI, ↓reduceIte, reduceCtorEq, Nat.reduceEqDiff, Nat.reduceAdd, Nat.reduceMul, Nat.reduceSub, Nat.reduceLeDiff, Nat.reduceBEq, Int.reduceToNat, Int.reduceLE, Int.reduceLT, Int.reduceEq, Int.reduceNe, di0, di1, di2, di3, di4, di5, di6, di7, di8, di9, postX_ret, postX_normal, ex_some]
    rw [if_neg (by omega)]
    obtain ⟨B, hB⟩ : ∃ B : Nat, B = 256 := ⟨_, rfl⟩
    refine loop_keep (α := Nat × List (List Int)) rfl (fun q => p.ch.length - q.1) (fun q => q.1 ≤ p.ch.length ∧ q.2.length ≤ B * q.1 ∧ q.2 ++ ordR p f o q.1 = ordF p (f + 1) o)
      (fun q => [(1, .imm (snI o)), (2, .pim (spI p)), (5, .own 5), (6, .imm (.int .i64 q.1))])
      (fun q => [(5, .tok 1 (q.2.map snI))]) (0, []) ⟨Nat.zero_le _, by simp, rfl⟩ (by simp only [ruI, ssI, sbI, spI, swI, scI, stI, srI, saI, snI, ↓reduceIte, reduceCtorEq, Nat.reduceEqDiff, Nat.reduceAdd, Nat.reduceMul, Nat.reduceSub, Nat.reduceLeDiff, Nat.reduceBEq, Int.reduceToNat, Int.reduceLE, Int.reduceLT, Int.reduceEq, Int.reduceNe, di0, di1, di2, di3, di4, di5, di6, di7, di8, di9, postX_ret, postX_normal, ex_some] <;> rfl) ?_
    rintro ⟨i, L⟩ ⟨hi, hL, he⟩ ih
    dsimp only at hi hL he ⊢
    simp only [res110, b110k0, b110k1, b110k2, b110k3, b110k4, ruI, ssI, sbI, spI, swI, scI, stI, srI, saI, snI, ↓reduceIte, reduceCtorEq, Nat.reduceEqDiff, Nat.reduceAdd, Nat.reduceMul, Nat.reduceSub, Nat.reduceLeDiff, Nat.reduceBEq, Int.reduceToNat, Int.reduceLE, Int.reduceLT, Int.reduceEq, Int.reduceNe, di0, di1, di2, di3, di4, di5, di6, di7, di8, di9, postX_ret, postX_normal, ex_some]
    split
    case isFalse h =>
      have : i = p.ch.length := by omega
      subst this
      rw [ordR_end, List.append_nil] at he
      rw [he]
    rename_i h
    have hlt : i < p.ch.length := by omega
    rw [ordR_step hlt] at he
    refine calls_of (c_Has (l := o) (v := i) (by omega)) ?_; simp only [ruI, ssI, sbI, spI, swI, scI, stI, srI, saI, snI, res110, b110k0, b110k1, b110k2, b110k3, b110k4, ↓reduceIte, reduceCtorEq, Nat.reduceEqDiff, Nat.reduceAdd, Nat.reduceMul, Nat.reduceSub, Nat.reduceLeDiff, Nat.reduceBEq, Int.reduceToNat, Int.reduceLE, Int.reduceLT, Int.reduceEq, Int.reduceNe, di0, di1, di2, di3, di4, di5, di6, di7, di8, di9, postX_ret, postX_normal, ex_some]
    by_cases hin : (i : Int) ∈ o
    · simp only [hin, decide_true, ruI, ssI, sbI, spI, swI, scI, stI, srI, saI, snI, ↓reduceIte, reduceCtorEq, Nat.reduceEqDiff, Nat.reduceAdd, Nat.reduceMul, Nat.reduceSub, Nat.reduceLeDiff, Nat.reduceBEq, Int.reduceToNat, Int.reduceLE, Int.reduceLT, Int.reduceEq, Int.reduceNe, di0, di1, di2, di3, di4, di5, di6, di7, di8, di9, postX_ret, postX_normal, ex_some]
      rw [wrap64 (by omega) (by omega)]
      refine ih (i + 1, L) _ _ (by dsimp only; omega) ⟨by dsimp only; omega, Nat.le_trans hL (Nat.mul_le_mul_left _ (by omega)), ?_⟩ (by simp only [ruI, ssI, sbI, spI, swI, scI, stI, srI, saI, snI, ↓reduceIte, reduceCtorEq, Nat.reduceEqDiff, Nat.reduceAdd, Nat.reduceMul, Nat.reduceSub, Nat.reduceLeDiff, Nat.reduceBEq, Int.reduceToNat, Int.reduceLE, Int.reduceLT, Int.reduceEq, Int.reduceNe, di0, di1, di2, di3, di4, di5, di6, di7, di8, di9, postX_ret, postX_normal, ex_some] <;> rfl)
      unfold oneF at he
      rw [if_pos hin] at he
      exact he
    simp only [hin, decide_false, ruI, ssI, sbI, spI, swI, scI, stI, srI, saI, snI, ↓reduceIte, reduceCtorEq, Nat.reduceEqDiff, Nat.reduceAdd, Nat.reduceMul, Nat.reduceSub, Nat.reduceLeDiff, Nat.reduceBEq, Int.reduceToNat, Int.reduceLE, Int.reduceLT, Int.reduceEq, Int.reduceNe, di0, di1, di2, di3, di4, di5, di6, di7, di8, di9, postX_ret, postX_normal, ex_some]
    have hidx : ∀ j ∈ o ++ [(i : Int)], 0 ≤ j ∧ j < (p.ch.length : Int) := by
      intro j hj
      rcases List.mem_append.1 hj with hj | hj
      · exact ho j hj
      · rw [List.mem_singleton] at hj
        omega
    have hgo := r_orders hp f (o ++ [(i : Int)]) (by simp; omega) hidx
    have hone : oneF p o i (ordF p f (o ++ [(i : Int)])) = if permL p.ch p.load (o ++ [(i : Int)]) = true then ordF p f (o ++ [(i : Int)]) else [] := by
      unfold oneF
      rw [if_neg hin]
    rw [hone] at he
    have hlen : (if permL p.ch p.load (o ++ [(i : Int)]) = true then ordF p f (o ++ [(i : Int)]) else []).length ≤ B := by
      split
      · have h1 := ordF_length (p := p) f (o ++ [(i : Int)])
        have h2 : p.ch.length ^ f ≤ 4 ^ 4 := Nat.le_trans (Nat.pow_le_pow_left hp.len _) (Nat.pow_le_pow_right (by omega) (by omega))
        omega
      · simp
    generalize (if permL p.ch p.load (o ++ [(i : Int)]) = true then ordF p f (o ++ [(i : Int)]) else []) = M at hgo he hlen
    refine do_lend rfl (by rw [restr_nil]; exact b_CopyInts (l := o) (by omega)) rfl rfl ?_
    rintro x R' ⟨rfl, rfl⟩
    refine ⟨_, rfl, rfl, ?_⟩
    simp only [res110, b110k0, b110k1, b110k2, b110k3, b110k4, ruI, ssI, sbI, spI, swI, scI, stI, srI, saI, snI, ↓reduceIte, reduceCtorEq, Nat.reduceEqDiff, Nat.reduceAdd, Nat.reduceMul, Nat.reduceSub, Nat.reduceLeDiff, Nat.reduceBEq, Int.reduceToNat, Int.reduceLE, Int.reduceLT, Int.reduceEq, Int.reduceNe, di0, di1, di2, di3, di4, di5, di6, di7, di8, di9, postX_ret, postX_normal, ex_some]
    repeat (refine And.intro (by omega) ?_)
    refine calls_of hgo ?_
    simp only [res110, b110k0, b110k1, b110k2, b110k3, b110k4, ruI, ssI, sbI, spI, swI, scI, stI, srI, saI, snI, ↓reduceIte, reduceCtorEq, Nat.reduceEqDiff, Nat.reduceAdd, Nat.reduceMul, Nat.reduceSub, Nat.reduceLeDiff, Nat.reduceBEq, Int.reduceToNat, Int.reduceLE, Int.reduceLT, Int.reduceEq, Int.reduceNe, di0, di1, di2, di3, di4, di5, di6, di7, di8, di9, postX_ret, postX_normal, ex_some]
    have hL2 : L.length ≤ B * 4 := Nat.le_trans hL (Nat.mul_le_mul_left _ (by omega))
    repeat (refine And.intro (by omega) ?_)
    rw [wrap64 (by omega) (by omega)]
    have hL3 : L.length + M.length ≤ B * (i + 1) := by rw [Nat.mul_succ]; omega
    have e2 : L.map snI ++ M.map snI = (L ++ M).map snI := List.map_append.symm
    refine ih (i + 1, L ++ M) _ _ (by dsimp only; omega) ⟨by dsimp only; omega, by rw [List.length_append]; exact hL3, by rw [List.append_assoc]; exact he⟩ ?_
    dsimp only
    rw [← e2]
    simp only [ruI, ssI, sbI, spI, swI, scI, stI, srI, saI, snI, ↓reduceIte, reduceCtorEq, Nat.reduceEqDiff, Nat.reduceAdd, Nat.reduceMul, Nat.reduceSub, Nat.reduceLeDiff, Nat.reduceBEq, Int.reduceToNat, Int.reduceLE, Int.reduceLT, Int.reduceEq, Int.reduceNe, di0, di1, di2, di3, di4, di5, di6, di7, di8, di9, postX_ret, postX_normal, ex_some]
    rfl
end Go.DI

/- Contracts: the reference's plans, orders and loads. No condition. -/
set_option linter.unusedSimpArgs false
namespace Go.DI
open Go.Proofs Go.RowKit Sg

theorem r_CheckPlan {p : Pl} (hl : p.ch.length ≤ 1000000000) : Contract Try.prog 44 [spI p] (.tup [.int .i64 (planE p).1, .int .i64 (planE p).2]) := by
  refine contract_run Try.func44 k44 rfl ?_
  simp only [body44, b44, res44, b44k0, b44k1, b44k2, b44k3, b44k4, b44k5, b44k6, ruI, ssI, sbI, spI, swI, scI, stI, srI, saI, snI, ↓reduceIte, reduceCtorEq, Nat.reduceEqDiff, Nat.reduceAdd, Nat.reduceMul, Nat.reduceSub, Nat.reduceLeDiff, Nat.reduceBEq, Int.reduceToNat, Int.reduceLE, Int.reduceLT, Int.reduceEq, Int.reduceNe, di0, di1, di2, di3, di4, di5, di6, di7, di8, di9, postX_ret, postX_normal, ex_some]
  refine calls_of r_LoadErr ?_; simp only [ruI, ssI, sbI, spI, swI, scI, stI, srI, saI, snI, res44, b44k0, b44k1, b44k2, b44k3, b44k4, b44k5, b44k6, ↓reduceIte, reduceCtorEq, Nat.reduceEqDiff, Nat.reduceAdd, Nat.reduceMul, Nat.reduceSub, Nat.reduceLeDiff, Nat.reduceBEq, Int.reduceToNat, Int.reduceLE, Int.reduceLT, Int.reduceEq, Int.reduceNe, di0, di1, di2, di3, di4, di5, di6, di7, di8, di9, postX_ret, postX_normal, ex_some]
  by_cases h1 : loadErr p.load = 0
  case neg =>
    have hp : planE p = (0, loadErr p.load) := by
      unfold planE fstE
      rw [if_neg h1, if_neg h1]
    rw [hp]
    simp only [h1, ruI, ssI, sbI, spI, swI, scI, stI, srI, saI, snI, ↓reduceIte, reduceCtorEq, Nat.reduceEqDiff, Nat.reduceAdd, Nat.reduceMul, Nat.reduceSub, Nat.reduceLeDiff, Nat.reduceBEq, Int.reduceToNat, Int.reduceLE, Int.reduceLT, Int.reduceEq, Int.reduceNe, di0, di1, di2, di3, di4, di5, di6, di7, di8, di9, postX_ret, postX_normal, ex_some]
  simp only [h1, ruI, ssI, sbI, spI, swI, scI, stI, srI, saI, snI, ↓reduceIte, reduceCtorEq, Nat.reduceEqDiff, Nat.reduceAdd, Nat.reduceMul, Nat.reduceSub, Nat.reduceLeDiff, Nat.reduceBEq, Int.reduceToNat, Int.reduceLE, Int.reduceLT, Int.reduceEq, Int.reduceNe, di0, di1, di2, di3, di4, di5, di6, di7, di8, di9, postX_ret, postX_normal, ex_some]
  by_cases h2 : p.ch.length ≤ 4
  case neg =>
    have hp : planE p = (0, 8) := by
      have : lenE p.ch.length = 8 := if_neg h2
      unfold planE fstE
      rw [if_pos h1, this, if_neg (by decide)]
    rw [hp, if_pos (by omega)]
  rw [if_neg (by omega)]
  have h0 : fstE (loadErr p.load) (lenE p.ch.length) = 0 := by rw [fstE_zero, lenE_zero]; exact ⟨h1, h2⟩
  refine loop_keep (α := Nat) rfl (fun i => p.ch.length - i) (fun i => i ≤ p.ch.length ∧ scanC p.ch 0 = scanC (p.ch.drop i) i)
    (fun i => [(1, .ref 1 0), (5, .imm (.int .i64 i))]) (fun _ => [(1, .box [.imm (.int .i64 p.load), .imm (snI p.ch), .imm (.int .i64 p.wait), .imm (.int .i64 p.ticks)])]) 0 ⟨Nat.zero_le _, rfl⟩ (by simp only [ruI, ssI, sbI, spI, swI, scI, stI, srI, saI, snI, ↓reduceIte, reduceCtorEq, Nat.reduceEqDiff, Nat.reduceAdd, Nat.reduceMul, Nat.reduceSub, Nat.reduceLeDiff, Nat.reduceBEq, Int.reduceToNat, Int.reduceLE, Int.reduceLT, Int.reduceEq, Int.reduceNe, di0, di1, di2, di3, di4, di5, di6, di7, di8, di9, postX_ret, postX_normal, ex_some] <;> rfl) ?_
  intro i ⟨hi, he⟩ ih
  simp only [res44, b44k0, b44k1, b44k2, b44k3, b44k4, b44k5, b44k6, ruI, ssI, sbI, spI, swI, scI, stI, srI, saI, snI, ↓reduceIte, reduceCtorEq, Nat.reduceEqDiff, Nat.reduceAdd, Nat.reduceMul, Nat.reduceSub, Nat.reduceLeDiff, Nat.reduceBEq, Int.reduceToNat, Int.reduceLE, Int.reduceLT, Int.reduceEq, Int.reduceNe, di0, di1, di2, di3, di4, di5, di6, di7, di8, di9, postX_ret, postX_normal, ex_some]
  split
  · rename_i h
    have hlt : i < p.ch.length := by omega
    rw [getD_drop hlt] at he
    obtain ⟨x, hxe⟩ : ∃ x, p.ch.getD i 0 = x := ⟨_, rfl⟩
    simp only [hxe] at he ⊢
    rw [scanC_cons] at he
    repeat (refine And.intro (by omega) ?_)
    refine calls_of c_Wi ?_; simp only [ruI, ssI, sbI, spI, swI, scI, stI, srI, saI, snI, res44, b44k0, b44k1, b44k2, b44k3, b44k4, b44k5, b44k6, ↓reduceIte, reduceCtorEq, Nat.reduceEqDiff, Nat.reduceAdd, Nat.reduceMul, Nat.reduceSub, Nat.reduceLeDiff, Nat.reduceBEq, Int.reduceToNat, Int.reduceLE, Int.reduceLT, Int.reduceEq, Int.reduceNe, di0, di1, di2, di3, di4, di5, di6, di7, di8, di9, postX_ret, postX_normal, ex_some]
    by_cases h3 : Wi x (-1000) 1000
    case neg =>
      have hc : changeErr x = 2 := by unfold changeErr fstE; rw [if_neg h3]; rfl
      rw [hc, if_neg (by decide)] at he
      have hp : planE p = ((i : Int), 2) := by unfold planE; rw [if_pos h0, he]
      rw [hp]
      simp only [h3, ruI, ssI, sbI, spI, swI, scI, stI, srI, saI, snI, ↓reduceIte, reduceCtorEq, Nat.reduceEqDiff, Nat.reduceAdd, Nat.reduceMul, Nat.reduceSub, Nat.reduceLeDiff, Nat.reduceBEq, Int.reduceToNat, Int.reduceLE, Int.reduceLT, Int.reduceEq, Int.reduceNe, di0, di1, di2, di3, di4, di5, di6, di7, di8, di9, postX_ret, postX_normal, ex_some]
    simp only [h3, ruI, ssI, sbI, spI, swI, scI, stI, srI, saI, snI, ↓reduceIte, reduceCtorEq, Nat.reduceEqDiff, Nat.reduceAdd, Nat.reduceMul, Nat.reduceSub, Nat.reduceLeDiff, Nat.reduceBEq, Int.reduceToNat, Int.reduceLE, Int.reduceLT, Int.reduceEq, Int.reduceNe, di0, di1, di2, di3, di4, di5, di6, di7, di8, di9, postX_ret, postX_normal, ex_some]
    repeat (refine And.intro (by omega) ?_)
    simp only [hxe]
    by_cases h4 : x = 0
    · have hc : changeErr x = 11 := by unfold changeErr fstE; rw [if_pos h3, if_pos rfl, if_neg (by simp [h4])]
      rw [hc, if_neg (by decide)] at he
      have hp : planE p = ((i : Int), 11) := by unfold planE; rw [if_pos h0, he]
      rw [hp]
      simp only [h4, ruI, ssI, sbI, spI, swI, scI, stI, srI, saI, snI, ↓reduceIte, reduceCtorEq, Nat.reduceEqDiff, Nat.reduceAdd, Nat.reduceMul, Nat.reduceSub, Nat.reduceLeDiff, Nat.reduceBEq, Int.reduceToNat, Int.reduceLE, Int.reduceLT, Int.reduceEq, Int.reduceNe, di0, di1, di2, di3, di4, di5, di6, di7, di8, di9, postX_ret, postX_normal, ex_some]
    · have hc : changeErr x = 0 := by unfold changeErr fstE; rw [if_pos h3, if_pos rfl, if_pos (by simp [h4])]
      rw [hc, if_pos rfl] at he
      simp only [h4, ruI, ssI, sbI, spI, swI, scI, stI, srI, saI, snI, ↓reduceIte, reduceCtorEq, Nat.reduceEqDiff, Nat.reduceAdd, Nat.reduceMul, Nat.reduceSub, Nat.reduceLeDiff, Nat.reduceBEq, Int.reduceToNat, Int.reduceLE, Int.reduceLT, Int.reduceEq, Int.reduceNe, di0, di1, di2, di3, di4, di5, di6, di7, di8, di9, postX_ret, postX_normal, ex_some]
      rw [wrap64 (by omega) (by omega)]
      refine ih (i + 1) _ _ (by omega) ⟨by omega, he⟩ (by simp only [ruI, ssI, sbI, spI, swI, scI, stI, srI, saI, snI, ↓reduceIte, reduceCtorEq, Nat.reduceEqDiff, Nat.reduceAdd, Nat.reduceMul, Nat.reduceSub, Nat.reduceLeDiff, Nat.reduceBEq, Int.reduceToNat, Int.reduceLE, Int.reduceLT, Int.reduceEq, Int.reduceNe, di0, di1, di2, di3, di4, di5, di6, di7, di8, di9, postX_ret, postX_normal, ex_some] <;> rfl)
  · rename_i h
    have : i = p.ch.length := by omega
    subst this
    simp only [List.drop_length, scanC] at he
    have hp : planE p = (0, if Wi p.wait 1 20 ∧ Wi p.ticks 1 200 then 0 else 2) := by unfold planE; rw [if_pos h0, he]
    rw [hp]
    refine calls_of c_Wi ?_; simp only [ruI, ssI, sbI, spI, swI, scI, stI, srI, saI, snI, res44, b44k0, b44k1, b44k2, b44k3, b44k4, b44k5, b44k6, ↓reduceIte, reduceCtorEq, Nat.reduceEqDiff, Nat.reduceAdd, Nat.reduceMul, Nat.reduceSub, Nat.reduceLeDiff, Nat.reduceBEq, Int.reduceToNat, Int.reduceLE, Int.reduceLT, Int.reduceEq, Int.reduceNe, di0, di1, di2, di3, di4, di5, di6, di7, di8, di9, postX_ret, postX_normal, ex_some]
    by_cases h5 : Wi p.wait 1 20
    case neg => simp only [h5, ruI, ssI, sbI, spI, swI, scI, stI, srI, saI, snI, ↓reduceIte, reduceCtorEq, Nat.reduceEqDiff, Nat.reduceAdd, Nat.reduceMul, Nat.reduceSub, Nat.reduceLeDiff, Nat.reduceBEq, Int.reduceToNat, Int.reduceLE, Int.reduceLT, Int.reduceEq, Int.reduceNe, di0, di1, di2, di3, di4, di5, di6, di7, di8, di9, postX_ret, postX_normal, ex_some]; simp
    simp only [h5, ruI, ssI, sbI, spI, swI, scI, stI, srI, saI, snI, ↓reduceIte, reduceCtorEq, Nat.reduceEqDiff, Nat.reduceAdd, Nat.reduceMul, Nat.reduceSub, Nat.reduceLeDiff, Nat.reduceBEq, Int.reduceToNat, Int.reduceLE, Int.reduceLT, Int.reduceEq, Int.reduceNe, di0, di1, di2, di3, di4, di5, di6, di7, di8, di9, postX_ret, postX_normal, ex_some]
    refine calls_of c_Wi ?_; simp only [ruI, ssI, sbI, spI, swI, scI, stI, srI, saI, snI, res44, b44k0, b44k1, b44k2, b44k3, b44k4, b44k5, b44k6, ↓reduceIte, reduceCtorEq, Nat.reduceEqDiff, Nat.reduceAdd, Nat.reduceMul, Nat.reduceSub, Nat.reduceLeDiff, Nat.reduceBEq, Int.reduceToNat, Int.reduceLE, Int.reduceLT, Int.reduceEq, Int.reduceNe, di0, di1, di2, di3, di4, di5, di6, di7, di8, di9, postX_ret, postX_normal, ex_some]
    by_cases h6 : Wi p.ticks 1 200
    case neg => simp only [h6, ruI, ssI, sbI, spI, swI, scI, stI, srI, saI, snI, ↓reduceIte, reduceCtorEq, Nat.reduceEqDiff, Nat.reduceAdd, Nat.reduceMul, Nat.reduceSub, Nat.reduceLeDiff, Nat.reduceBEq, Int.reduceToNat, Int.reduceLE, Int.reduceLT, Int.reduceEq, Int.reduceNe, di0, di1, di2, di3, di4, di5, di6, di7, di8, di9, postX_ret, postX_normal, ex_some]
    simp only [h6, ruI, ssI, sbI, spI, swI, scI, stI, srI, saI, snI, ↓reduceIte, reduceCtorEq, Nat.reduceEqDiff, Nat.reduceAdd, Nat.reduceMul, Nat.reduceSub, Nat.reduceLeDiff, Nat.reduceBEq, Int.reduceToNat, Int.reduceLE, Int.reduceLT, Int.reduceEq, Int.reduceNe, di0, di1, di2, di3, di4, di5, di6, di7, di8, di9, postX_ret, postX_normal, ex_some]

theorem r_PlanErr {r : Ru} {p : Pl} (hl : p.ch.length ≤ 1000000000) : Contract Try.prog 35 [ruI r, spI p] (.int .i64 (planEr r p).2) := by
  refine contract_run Try.func35 k35 rfl ?_
  simp only [body35, b35, res35, b35k0, ruI, ssI, sbI, spI, swI, scI, stI, srI, saI, snI, ↓reduceIte, reduceCtorEq, Nat.reduceEqDiff, Nat.reduceAdd, Nat.reduceMul, Nat.reduceSub, Nat.reduceLeDiff, Nat.reduceBEq, Int.reduceToNat, Int.reduceLE, Int.reduceLT, Int.reduceEq, Int.reduceNe, di0, di1, di2, di3, di4, di5, di6, di7, di8, di9, postX_ret, postX_normal, ex_some]
  refine calls_of r_RulesErr ?_; simp only [ruI, ssI, sbI, spI, swI, scI, stI, srI, saI, snI, res35, b35k0, ↓reduceIte, reduceCtorEq, Nat.reduceEqDiff, Nat.reduceAdd, Nat.reduceMul, Nat.reduceSub, Nat.reduceLeDiff, Nat.reduceBEq, Int.reduceToNat, Int.reduceLE, Int.reduceLT, Int.reduceEq, Int.reduceNe, di0, di1, di2, di3, di4, di5, di6, di7, di8, di9, postX_ret, postX_normal, ex_some]
  unfold planEr
  by_cases h : rulesErr r = 0
  · simp only [h, ruI, ssI, sbI, spI, swI, scI, stI, srI, saI, snI, ↓reduceIte, reduceCtorEq, Nat.reduceEqDiff, Nat.reduceAdd, Nat.reduceMul, Nat.reduceSub, Nat.reduceLeDiff, Nat.reduceBEq, Int.reduceToNat, Int.reduceLE, Int.reduceLT, Int.reduceEq, Int.reduceNe, di0, di1, di2, di3, di4, di5, di6, di7, di8, di9, postX_ret, postX_normal, ex_some]
    refine calls_of (r_CheckPlan hl) ?_; simp only [ruI, ssI, sbI, spI, swI, scI, stI, srI, saI, snI, res35, b35k0, ↓reduceIte, reduceCtorEq, Nat.reduceEqDiff, Nat.reduceAdd, Nat.reduceMul, Nat.reduceSub, Nat.reduceLeDiff, Nat.reduceBEq, Int.reduceToNat, Int.reduceLE, Int.reduceLT, Int.reduceEq, Int.reduceNe, di0, di1, di2, di3, di4, di5, di6, di7, di8, di9, postX_ret, postX_normal, ex_some]
  · simp only [h, ruI, ssI, sbI, spI, swI, scI, stI, srI, saI, snI, ↓reduceIte, reduceCtorEq, Nat.reduceEqDiff, Nat.reduceAdd, Nat.reduceMul, Nat.reduceSub, Nat.reduceLeDiff, Nat.reduceBEq, Int.reduceToNat, Int.reduceLE, Int.reduceLT, Int.reduceEq, Int.reduceNe, di0, di1, di2, di3, di4, di5, di6, di7, di8, di9, postX_ret, postX_normal, ex_some]

theorem r_CopyPlan {p : Pl} (hl : p.ch.length ≤ 1000000000) : Contract Try.prog 31 [spI p] (spI p) := by
  refine contract_run Try.func31 k31 rfl ?_
  simp only [body31, b31, res31, ruI, ssI, sbI, spI, swI, scI, stI, srI, saI, snI, ↓reduceIte, reduceCtorEq, Nat.reduceEqDiff, Nat.reduceAdd, Nat.reduceMul, Nat.reduceSub, Nat.reduceLeDiff, Nat.reduceBEq, Int.reduceToNat, Int.reduceLE, Int.reduceLT, Int.reduceEq, Int.reduceNe, di0, di1, di2, di3, di4, di5, di6, di7, di8, di9, postX_ret, postX_normal, ex_some]
  refine calls_of (c_CopyInts (a := p.ch) (by omega)) ?_; simp only [ruI, ssI, sbI, spI, swI, scI, stI, srI, saI, snI, res31, ↓reduceIte, reduceCtorEq, Nat.reduceEqDiff, Nat.reduceAdd, Nat.reduceMul, Nat.reduceSub, Nat.reduceLeDiff, Nat.reduceBEq, Int.reduceToNat, Int.reduceLE, Int.reduceLT, Int.reduceEq, Int.reduceNe, di0, di1, di2, di3, di4, di5, di6, di7, di8, di9, postX_ret, postX_normal, ex_some]

theorem r_Orders {p : Pl} (hp : PlanOk p) : Contract Try.prog 45 [spI p] (.slc 1 ((ordersP p).map snI)) := by
  refine contract_run Try.func45 k45 rfl ?_
  simp only [body45, b45, res45, ruI, ssI, sbI, spI, swI, scI, stI, srI, saI, snI, ↓reduceIte, reduceCtorEq, Nat.reduceEqDiff, Nat.reduceAdd, Nat.reduceMul, Nat.reduceSub, Nat.reduceLeDiff, Nat.reduceBEq, Int.reduceToNat, Int.reduceLE, Int.reduceLT, Int.reduceEq, Int.reduceNe, di0, di1, di2, di3, di4, di5, di6, di7, di8, di9, postX_ret, postX_normal, ex_some]
  have h := r_orders hp p.ch.length [] (by simp) (by simp)
  rw [show permL p.ch p.load [] = true from rfl, if_pos rfl] at h
  refine calls_of h ?_; simp only [ruI, ssI, sbI, spI, swI, scI, stI, srI, saI, snI, res45, ↓reduceIte, reduceCtorEq, Nat.reduceEqDiff, Nat.reduceAdd, Nat.reduceMul, Nat.reduceSub, Nat.reduceLeDiff, Nat.reduceBEq, Int.reduceToNat, Int.reduceLE, Int.reduceLT, Int.reduceEq, Int.reduceNe, di0, di1, di2, di3, di4, di5, di6, di7, di8, di9, postX_ret, postX_normal, ex_some]
  rfl

theorem r_OrderErr {p : Pl} {o : List Int} (hp : PlanOk p) : Contract Try.prog 47 [spI p, snI o] (.int .i64 (orderE p o)) := by
  have hlen := hp.len
  refine contract_run Try.func47 k47 rfl ?_
  simp only [body47, b47, res47, b47k0, b47k1, b47k2, b47k3, b47k4, b47k5, ruI, ssI, sbI, spI, swI, scI, stI, srI, saI, snI, ↓reduceIte, reduceCtorEq, Nat.reduceEqDiff, Nat.reduceAdd, Nat.reduceMul, Nat.reduceSub, Nat.reduceLeDiff, Nat.reduceBEq, Int.reduceToNat, Int.reduceLE, Int.reduceLT, Int.reduceEq, Int.reduceNe, di0, di1, di2, di3, di4, di5, di6, di7, di8, di9, postX_ret, postX_normal, ex_some]
  by_cases hl : o.length = p.ch.length
  case neg =>
    rw [if_neg (by omega)]
    unfold orderE
    rw [if_pos (by omega)]
  rw [if_pos (by omega)]
  have hoe : orderE p o = if scanO p o o.length 0 = 0 then (if permL p.ch p.load o then 0 else 24) else scanO p o o.length 0 := by unfold orderE; rw [if_neg (by omega)]
  refine loop_keep (α := Nat) rfl (fun i => o.length - i) (fun i => i ≤ o.length ∧ scanO p o o.length 0 = scanO p o (o.length - i) i)
    (fun i => [(1, .imm (snI o)), (2, .ref 2 0), (5, .imm (.int .i64 i))])
    (fun _ => [(2, .box [.imm (.int .i64 p.load), .imm (snI p.ch), .imm (.int .i64 p.wait), .imm (.int .i64 p.ticks)])]) 0 ⟨Nat.zero_le _, rfl⟩ (by simp only [ruI, ssI, sbI, spI, swI, scI, stI, srI, saI, snI, ↓reduceIte, reduceCtorEq, Nat.reduceEqDiff, Nat.reduceAdd, Nat.reduceMul, Nat.reduceSub, Nat.reduceLeDiff, Nat.reduceBEq, Int.reduceToNat, Int.reduceLE, Int.reduceLT, Int.reduceEq, Int.reduceNe, di0, di1, di2, di3, di4, di5, di6, di7, di8, di9, postX_ret, postX_normal, ex_some] <;> rfl) ?_
  intro i ⟨hi, he⟩ ih
  simp only [res47, b47k0, b47k1, b47k2, b47k3, b47k4, b47k5, ruI, ssI, sbI, spI, swI, scI, stI, srI, saI, snI, ↓reduceIte, reduceCtorEq, Nat.reduceEqDiff, Nat.reduceAdd, Nat.reduceMul, Nat.reduceSub, Nat.reduceLeDiff, Nat.reduceBEq, Int.reduceToNat, Int.reduceLE, Int.reduceLT, Int.reduceEq, Int.reduceNe, di0, di1, di2, di3, di4, di5, di6, di7, di8, di9, postX_ret, postX_normal, ex_some]
  split
  · rename_i h
    have hlt : i < o.length := by omega
    rw [show o.length - i = (o.length - (i + 1)) + 1 by omega] at he
    rw [scanO_succ] at he
    repeat (refine And.intro (by omega) ?_)
    simp only [show IntKind.wrap .i64 ((p.ch.length : Int) - 1) = (p.ch.length : Int) - 1 from wrap64 (by omega) (by omega)]
    refine calls_of c_Wi ?_; simp only [ruI, ssI, sbI, spI, swI, scI, stI, srI, saI, snI, res47, b47k0, b47k1, b47k2, b47k3, b47k4, b47k5, ↓reduceIte, reduceCtorEq, Nat.reduceEqDiff, Nat.reduceAdd, Nat.reduceMul, Nat.reduceSub, Nat.reduceLeDiff, Nat.reduceBEq, Int.reduceToNat, Int.reduceLE, Int.reduceLT, Int.reduceEq, Int.reduceNe, di0, di1, di2, di3, di4, di5, di6, di7, di8, di9, postX_ret, postX_normal, ex_some]
    by_cases h3 : Wi (o.getD i 0) 0 ((p.ch.length : Int) - 1)
    case neg =>
      have hc : idxErr p o i = 6 := by unfold idxErr fstE; rw [if_neg h3]; rfl
      rw [hc, if_neg (by decide)] at he
      simp only [h3, ruI, ssI, sbI, spI, swI, scI, stI, srI, saI, snI, ↓reduceIte, reduceCtorEq, Nat.reduceEqDiff, Nat.reduceAdd, Nat.reduceMul, Nat.reduceSub, Nat.reduceLeDiff, Nat.reduceBEq, Int.reduceToNat, Int.reduceLE, Int.reduceLT, Int.reduceEq, Int.reduceNe, di0, di1, di2, di3, di4, di5, di6, di7, di8, di9, postX_ret, postX_normal, ex_some]
      rw [hoe, he]
      rfl
    simp only [h3, ruI, ssI, sbI, spI, swI, scI, stI, srI, saI, snI, ↓reduceIte, reduceCtorEq, Nat.reduceEqDiff, Nat.reduceAdd, Nat.reduceMul, Nat.reduceSub, Nat.reduceLeDiff, Nat.reduceBEq, Int.reduceToNat, Int.reduceLE, Int.reduceLT, Int.reduceEq, Int.reduceNe, di0, di1, di2, di3, di4, di5, di6, di7, di8, di9, postX_ret, postX_normal, ex_some]
    repeat (refine And.intro (by omega) ?_)
    refine calls_of (c_Has (l := o.take i) (v := o.getD i 0) (by rw [List.length_take]; omega)) ?_; simp only [ruI, ssI, sbI, spI, swI, scI, stI, srI, saI, snI, res47, b47k0, b47k1, b47k2, b47k3, b47k4, b47k5, ↓reduceIte, reduceCtorEq, Nat.reduceEqDiff, Nat.reduceAdd, Nat.reduceMul, Nat.reduceSub, Nat.reduceLeDiff, Nat.reduceBEq, Int.reduceToNat, Int.reduceLE, Int.reduceLT, Int.reduceEq, Int.reduceNe, di0, di1, di2, di3, di4, di5, di6, di7, di8, di9, postX_ret, postX_normal, ex_some]
    by_cases h4 : o.getD i 0 ∈ o.take i
    · have hc : idxErr p o i = 23 := by unfold idxErr fstE; rw [if_pos h3, if_pos rfl, if_pos h4]
      rw [hc, if_neg (by decide)] at he
      simp only [h4, ruI, ssI, sbI, spI, swI, scI, stI, srI, saI, snI, ↓reduceIte, reduceCtorEq, Nat.reduceEqDiff, Nat.reduceAdd, Nat.reduceMul, Nat.reduceSub, Nat.reduceLeDiff, Nat.reduceBEq, Int.reduceToNat, Int.reduceLE, Int.reduceLT, Int.reduceEq, Int.reduceNe, di0, di1, di2, di3, di4, di5, di6, di7, di8, di9, postX_ret, postX_normal, ex_some]
      rw [hoe, he]
      rfl
    · have hc : idxErr p o i = 0 := by unfold idxErr fstE; rw [if_pos h3, if_pos rfl, if_neg h4]
      rw [hc, if_pos rfl] at he
      simp only [h4, ruI, ssI, sbI, spI, swI, scI, stI, srI, saI, snI, ↓reduceIte, reduceCtorEq, Nat.reduceEqDiff, Nat.reduceAdd, Nat.reduceMul, Nat.reduceSub, Nat.reduceLeDiff, Nat.reduceBEq, Int.reduceToNat, Int.reduceLE, Int.reduceLT, Int.reduceEq, Int.reduceNe, di0, di1, di2, di3, di4, di5, di6, di7, di8, di9, postX_ret, postX_normal, ex_some]
      rw [wrap64 (by omega) (by omega)]
      exact ih (i + 1) _ _ (by omega) ⟨by omega, he⟩ (by simp only [ruI, ssI, sbI, spI, swI, scI, stI, srI, saI, snI, ↓reduceIte, reduceCtorEq, Nat.reduceEqDiff, Nat.reduceAdd, Nat.reduceMul, Nat.reduceSub, Nat.reduceLeDiff, Nat.reduceBEq, Int.reduceToNat, Int.reduceLE, Int.reduceLT, Int.reduceEq, Int.reduceNe, di0, di1, di2, di3, di4, di5, di6, di7, di8, di9, postX_ret, postX_normal, ex_some] <;> rfl)
  · rename_i h
    have hie : i = o.length := by omega
    subst hie
    rw [show o.length - o.length = 0 by omega] at he
    simp only [scanO] at he
    rw [hoe, if_pos he]
    have hix := orderE_idx hp hl he
    refine calls_of (r_permitted hp hix) ?_; simp only [ruI, ssI, sbI, spI, swI, scI, stI, srI, saI, snI, res47, b47k0, b47k1, b47k2, b47k3, b47k4, b47k5, ↓reduceIte, reduceCtorEq, Nat.reduceEqDiff, Nat.reduceAdd, Nat.reduceMul, Nat.reduceSub, Nat.reduceLeDiff, Nat.reduceBEq, Int.reduceToNat, Int.reduceLE, Int.reduceLT, Int.reduceEq, Int.reduceNe, di0, di1, di2, di3, di4, di5, di6, di7, di8, di9, postX_ret, postX_normal, ex_some]
    cases permL p.ch p.load o <;> simp only [ruI, ssI, sbI, spI, swI, scI, stI, srI, saI, snI, ↓reduceIte, reduceCtorEq, Nat.reduceEqDiff, Nat.reduceAdd, Nat.reduceMul, Nat.reduceSub, Nat.reduceLeDiff, Nat.reduceBEq, Int.reduceToNat, Int.reduceLE, Int.reduceLT, Int.reduceEq, Int.reduceNe, di0, di1, di2, di3, di4, di5, di6, di7, di8, di9, postX_ret, postX_normal, ex_some]

/-- The load at a tick: all changes that have come. -/
def atF (p : Pl) (t : Int) : List Int → Nat → Int → Int
  | [], _, load => load
  | i :: r, j, load => atF p t r (j + 1) (if (j : Int) * p.wait ≤ t then load + nth p.ch i else load)
theorem atF_cons {p : Pl} {t i : Int} {r : List Int} {j : Nat} {load : Int} : atF p t (i :: r) j load = atF p t r (j + 1) (if (j : Int) * p.wait ≤ t then load + nth p.ch i else load) := rfl
theorem atF_add {p : Pl} {t : Int} : ∀ (r : List Int) (j : Nat) (a b : Int), atF p t r j (a + b) = a + atF p t r j b
  | [], _, _, _ => rfl
  | i :: r, j, a, b => by
    unfold atF
    rw [← atF_add r (j + 1)]
    congr 1
    split <;> omega
theorem atF_low {p : Pl} (hw : 1 ≤ p.wait) {t : Int} (ht : t < 0) : ∀ (r : List Int) (j : Nat) (a : Int), atF p t r j a = a
  | [], _, _ => rfl
  | i :: r, j, a => by
    unfold atF
    have : 0 ≤ (j : Int) * p.wait := Int.mul_nonneg (by omega) (by omega)
    rw [if_neg (by omega), atF_low hw ht r (j + 1)]

theorem atF_step {p : Pl} (hw : 1 ≤ p.wait) {t : Nat} : ∀ (r : List Int) (j : Nat) (a : Int),
    atF p t r j a = atF p ((t : Int) - 1) r j a + (if (t : Int) % p.wait = 0 ∧ (j : Int) ≤ (t : Int) / p.wait ∧ (t : Int) / p.wait < j + r.length then nth p.ch (r.getD ((t : Int) / p.wait - j).toNat 0) else 0)
  | [], j, a => by
    unfold atF
    rw [if_neg (by simp only [List.length_nil]; omega)]
    omega
  | i :: r, j, a => by
    have ih := atF_step hw (t := t) r (j + 1) (if (j : Int) * p.wait ≤ t then a + nth p.ch i else a)
    have hdm := Int.emod_add_mul_ediv (t : Int) p.wait
    have hm0 := Int.emod_nonneg (t : Int) (show p.wait ≠ 0 by omega)
    have hm1 := Int.emod_lt_of_pos (t : Int) (show 0 < p.wait by omega)
    have hmul : p.wait * ((t : Int) / p.wait) = ((t : Int) / p.wait) * p.wait := Int.mul_comm _ _
    have hlen : ((i :: r).length : Int) = r.length + 1 := by simp
    generalize hq : (t : Int) / p.wait = q at ih hdm hmul ⊢
    show atF p t r (j + 1) _ = atF p ((t : Int) - 1) r (j + 1) _ + _
    rw [ih]
    by_cases hc : (t : Int) % p.wait = 0 ∧ q = j
    ·
      have hjt : (j : Int) * p.wait = t := by rw [← hc.2, ← hmul]; omega
      rw [if_pos (show (j : Int) * p.wait ≤ t by omega), if_neg (show ¬ (j : Int) * p.wait ≤ (t : Int) - 1 by omega)]
      rw [if_neg (by push_cast; omega), if_pos (by rw [hlen]; omega)]
      rw [show (q - (j : Int)).toNat = 0 by omega]
      rw [show a + nth p.ch i = nth p.ch i + a by omega, atF_add]
      simp
      omega
    · have hiff : ((j : Int) * p.wait ≤ t) ↔ ((j : Int) * p.wait ≤ (t : Int) - 1) := by
        constructor
        · intro h
          by_cases e : (j : Int) * p.wait = t
          · exfalso
            apply hc
            rw [← e] at hq hm0
            rw [Int.mul_ediv_cancel _ (by omega)] at hq
            refine ⟨?_, hq.symm⟩
            rw [← e]
            exact Int.mul_emod_left _ _
          · omega
        · omega
      rw [show (if (j : Int) * p.wait ≤ t then a + nth p.ch i else a) = if (j : Int) * p.wait ≤ (t : Int) - 1 then a + nth p.ch i else a by
        by_cases h : (j : Int) * p.wait ≤ t
        · rw [if_pos h, if_pos (hiff.1 h)]
        · rw [if_neg h, if_neg (fun k => h (hiff.2 k))]]
      congr 1
      by_cases h2 : (t : Int) % p.wait = 0 ∧ ((j + 1 : Nat) : Int) ≤ q ∧ q < ((j + 1 : Nat) : Int) + r.length
      · rw [if_pos h2, if_pos (by rw [hlen]; push_cast at h2; omega)]
        rw [show (q - (j : Int)).toNat = (q - ((j + 1 : Nat) : Int)).toNat + 1 by push_cast at h2 ⊢; omega]
        simp
      · rw [if_neg h2, if_neg (by rw [hlen]; push_cast at h2; omega)]

theorem loadsF_at {p : Pl} {o : List Int} (hw : 1 ≤ p.wait) : ∀ (m t : Nat) (load : Int), load = atF p ((t : Int) - 1) o 0 p.load → loadsF p o m t load = (List.range m).map fun (i : Nat) => atF p ((t + i : Nat) : Int) o 0 p.load
  | 0, t, load, h => rfl
  | m + 1, t, load, h => by
    have hs := atF_step (p := p) hw (t := t) o 0 p.load
    rw [← h] at hs
    have e : (if (t : Int).tmod p.wait = 0 ∧ (t : Int).tdiv p.wait < o.length then load + nth p.ch (nth o ((t : Int).tdiv p.wait)) else load) = atF p (t : Int) o 0 p.load := by
      rw [hs, Int.tmod_eq_emod_of_nonneg (by omega), Int.tdiv_eq_ediv_of_nonneg (by omega)]
      have hq : 0 ≤ (t : Int) / p.wait := Int.ediv_nonneg (by omega) (by omega)
      by_cases hc : (t : Int) % p.wait = 0 ∧ (t : Int) / p.wait < o.length
      · rw [if_pos hc, if_pos ⟨hc.1, by omega, by omega⟩]
        congr 2
        unfold nth
        congr 1
        omega
      · rw [if_neg hc, if_neg (by intro k; apply hc; exact ⟨k.1, by omega⟩)]
        omega
    unfold loadsF
    rw [e, List.range_succ_eq_map, List.map_cons, List.map_map]
    congr 1
    have ih := loadsF_at (p := p) (o := o) hw m (t + 1) (atF p (t : Int) o 0 p.load) (by congr 1; push_cast; omega)
    rw [show ((t : Int) + 1) = ((t + 1 : Nat) : Int) by push_cast; rfl, ih]
    apply List.map_congr_left
    intro i _
    show atF p ((t + 1 + i : Nat) : Int) o 0 p.load = atF p ((t + (i + 1) : Nat) : Int) o 0 p.load
    congr 2
    omega

theorem loadsP_at {p : Pl} {o : List Int} (hw : 1 ≤ p.wait) : loadsP p o = (List.range p.ticks.toNat).map fun (i : Nat) => atF p (i : Int) o 0 p.load := by
  unfold loadsP
  have := loadsF_at (p := p) (o := o) hw p.ticks.toNat 0 p.load (by rw [atF_low hw (by omega)])
  rw [show (0 : Int) = ((0 : Nat) : Int) from rfl, this]
  apply List.map_congr_left
  intro i _
  congr 2
  omega

theorem r_Loads {p : Pl} {o : List Int} (hp : PlanOk p) (ho : Idx p o) (hol : o.length ≤ 1000) : Contract Try.prog 48 [spI p, snI o] (snI (loadsP p o)) := by
  have hpl := hp.load
  have hw := hp.wait
  have ht := hp.ticks
  rw [loadsP_at hw.1]
  refine contract_run Try.func48 k48 rfl ?_
  simp only [body48, b48, res48, b48k0, b48k1, b48k2, b48k3, b48k4, b48k5, ruI, ssI, sbI, spI, swI, scI, stI, srI, saI, snI, ↓reduceIte, reduceCtorEq, Nat.reduceEqDiff, Nat.reduceAdd, Nat.reduceMul, Nat.reduceSub, Nat.reduceLeDiff, Nat.reduceBEq, Int.reduceToNat, Int.reduceLE, Int.reduceLT, Int.reduceEq, Int.reduceNe, di0, di1, di2, di3, di4, di5, di6, di7, di8, di9, postX_ret, postX_normal, ex_some]
  refine loop_keep (α := Nat) rfl (fun i => p.ticks.toNat - i) (fun i => i ≤ p.ticks.toNat)
    (fun i => [(1, .imm (snI o)), (2, .ref 2 0), (5, .own 5), (6, .imm (.int .i64 i))])
    (fun i => [(2, .box [.imm (.int .i64 p.load), .imm (snI p.ch), .imm (.int .i64 p.wait), .imm (.int .i64 p.ticks)]), (5, .tok 1 (((List.range i).map fun (i : Nat) => atF p (i : Int) o 0 p.load).map (IV.int .i64)))]) 0 (Nat.zero_le _) (by simp only [ruI, ssI, sbI, spI, swI, scI, stI, srI, saI, snI, ↓reduceIte, reduceCtorEq, Nat.reduceEqDiff, Nat.reduceAdd, Nat.reduceMul, Nat.reduceSub, Nat.reduceLeDiff, Nat.reduceBEq, Int.reduceToNat, Int.reduceLE, Int.reduceLT, Int.reduceEq, Int.reduceNe, di0, di1, di2, di3, di4, di5, di6, di7, di8, di9, postX_ret, postX_normal, ex_some] <;> rfl) ?_
  intro i hi ih
  simp only [res48, b48k0, b48k1, b48k2, b48k3, b48k4, b48k5, ruI, ssI, sbI, spI, swI, scI, stI, srI, saI, snI, ↓reduceIte, reduceCtorEq, Nat.reduceEqDiff, Nat.reduceAdd, Nat.reduceMul, Nat.reduceSub, Nat.reduceLeDiff, Nat.reduceBEq, Int.reduceToNat, Int.reduceLE, Int.reduceLT, Int.reduceEq, Int.reduceNe, di0, di1, di2, di3, di4, di5, di6, di7, di8, di9, postX_ret, postX_normal, ex_some]
  split
  case isFalse h =>
    have : i = p.ticks.toNat := by omega
    subst this
    rfl
  rename_i h
  refine loop_keep (α := Nat × Int) rfl (fun q => o.length - q.1) (fun q => q.1 ≤ o.length ∧ (-1000 * (q.1 : Int) ≤ q.2 ∧ q.2 ≤ 1000 + 1000 * (q.1 : Int)) ∧ atF p (i : Int) (o.drop q.1) q.1 q.2 = atF p (i : Int) o 0 p.load)
    (fun q => [(1, .imm (snI o)), (2, .ref 2 0), (5, .own 5), (6, .imm (.int .i64 i)), (7, .imm (.int .i64 q.2)), (8, .imm (.int .i64 q.1))])
    (fun _ => [(2, .box [.imm (.int .i64 p.load), .imm (snI p.ch), .imm (.int .i64 p.wait), .imm (.int .i64 p.ticks)]), (5, .tok 1 (((List.range i).map fun (i : Nat) => atF p (i : Int) o 0 p.load).map (IV.int .i64)))]) (0, p.load) ⟨Nat.zero_le _, by dsimp only; omega, rfl⟩ (by simp only [ruI, ssI, sbI, spI, swI, scI, stI, srI, saI, snI, ↓reduceIte, reduceCtorEq, Nat.reduceEqDiff, Nat.reduceAdd, Nat.reduceMul, Nat.reduceSub, Nat.reduceLeDiff, Nat.reduceBEq, Int.reduceToNat, Int.reduceLE, Int.reduceLT, Int.reduceEq, Int.reduceNe, di0, di1, di2, di3, di4, di5, di6, di7, di8, di9, postX_ret, postX_normal, ex_some] <;> rfl) ?_
  rintro ⟨j, load⟩ ⟨hj, hb, he⟩ ih2
  dsimp only at hj hb he ⊢
  simp only [res48, b48k0, b48k1, b48k2, b48k3, b48k4, b48k5, ruI, ssI, sbI, spI, swI, scI, stI, srI, saI, snI, ↓reduceIte, reduceCtorEq, Nat.reduceEqDiff, Nat.reduceAdd, Nat.reduceMul, Nat.reduceSub, Nat.reduceLeDiff, Nat.reduceBEq, Int.reduceToNat, Int.reduceLE, Int.reduceLT, Int.reduceEq, Int.reduceNe, di0, di1, di2, di3, di4, di5, di6, di7, di8, di9, postX_ret, postX_normal, ex_some]
  split
  · rename_i h2
    have hlt : j < o.length := by omega
    have hx := ho.2 _ (getD_mem hlt)
    rw [getD_drop hlt, atF_cons] at he
    generalize o.getD j 0 = x at hx he
    have hn := nth_bd hp x
    have hm : 0 ≤ (j : Int) * p.wait := Int.mul_nonneg (by omega) (by omega)
    have hm2 : (j : Int) * p.wait ≤ 1000 * 20 := Int.mul_le_mul (by omega) (by omega) (by omega) (by omega)
    rw [show IntKind.wrap .i64 ((j : Int) * p.wait) = (j : Int) * p.wait from wrap64 (by omega) (by omega)]
    by_cases hc : (j : Int) * p.wait ≤ (i : Int)
    · rw [if_pos hc] at he
      simp only [hc, ruI, ssI, sbI, spI, swI, scI, stI, srI, saI, snI, ↓reduceIte, reduceCtorEq, Nat.reduceEqDiff, Nat.reduceAdd, Nat.reduceMul, Nat.reduceSub, Nat.reduceLeDiff, Nat.reduceBEq, Int.reduceToNat, Int.reduceLE, Int.reduceLT, Int.reduceEq, Int.reduceNe, di0, di1, di2, di3, di4, di5, di6, di7, di8, di9, postX_ret, postX_normal, ex_some]
      repeat (refine And.intro (by omega) ?_)
      rw [show p.ch.getD x.toNat 0 = nth p.ch x from rfl]
      rw [show IntKind.wrap .i64 (load + nth p.ch x) = load + nth p.ch x from wrap64 (by omega) (by omega)]
      rw [wrap64 (by omega) (by omega)]
      refine ih2 (j + 1, load + nth p.ch x) _ _ (by dsimp only; omega) ⟨by dsimp only; omega, by dsimp only; omega, he⟩ (by simp only [ruI, ssI, sbI, spI, swI, scI, stI, srI, saI, snI, ↓reduceIte, reduceCtorEq, Nat.reduceEqDiff, Nat.reduceAdd, Nat.reduceMul, Nat.reduceSub, Nat.reduceLeDiff, Nat.reduceBEq, Int.reduceToNat, Int.reduceLE, Int.reduceLT, Int.reduceEq, Int.reduceNe, di0, di1, di2, di3, di4, di5, di6, di7, di8, di9, postX_ret, postX_normal, ex_some] <;> rfl)
    · rw [if_neg hc] at he
      simp only [hc, ruI, ssI, sbI, spI, swI, scI, stI, srI, saI, snI, ↓reduceIte, reduceCtorEq, Nat.reduceEqDiff, Nat.reduceAdd, Nat.reduceMul, Nat.reduceSub, Nat.reduceLeDiff, Nat.reduceBEq, Int.reduceToNat, Int.reduceLE, Int.reduceLT, Int.reduceEq, Int.reduceNe, di0, di1, di2, di3, di4, di5, di6, di7, di8, di9, postX_ret, postX_normal, ex_some]
      rw [wrap64 (by omega) (by omega)]
      refine ih2 (j + 1, load) _ _ (by dsimp only; omega) ⟨by dsimp only; omega, by dsimp only; omega, he⟩ (by simp only [ruI, ssI, sbI, spI, swI, scI, stI, srI, saI, snI, ↓reduceIte, reduceCtorEq, Nat.reduceEqDiff, Nat.reduceAdd, Nat.reduceMul, Nat.reduceSub, Nat.reduceLeDiff, Nat.reduceBEq, Int.reduceToNat, Int.reduceLE, Int.reduceLT, Int.reduceEq, Int.reduceNe, di0, di1, di2, di3, di4, di5, di6, di7, di8, di9, postX_ret, postX_normal, ex_some] <;> rfl)
  · rename_i h2
    have : j = o.length := by omega
    subst this
    rw [List.drop_length] at he
    simp only [atF] at he
    rw [List.length_range]
    repeat (refine And.intro (by omega) ?_)
    rw [wrap64 (by omega) (by omega), he]
    refine ih (i + 1) _ _ (by omega) (by omega) ?_
    rw [List.range_succ, List.map_append, List.map_append]
    simp only [ruI, ssI, sbI, spI, swI, scI, stI, srI, saI, snI, ↓reduceIte, reduceCtorEq, Nat.reduceEqDiff, Nat.reduceAdd, Nat.reduceMul, Nat.reduceSub, Nat.reduceLeDiff, Nat.reduceBEq, Int.reduceToNat, Int.reduceLE, Int.reduceLT, Int.reduceEq, Int.reduceNe, di0, di1, di2, di3, di4, di5, di6, di7, di8, di9, postX_ret, postX_normal, ex_some]
    rfl
end Go.DI

/- The statement SurgePlans, as a contract. No condition. -/
set_option linter.unusedSimpArgs false
set_option maxRecDepth 20000
namespace Go.DI
open Go.Proofs Go.RowKit Sg

def FewP (p : Pl) : Prop := p.ch.length ≤ 6 ∧ ((planE p).2 ≠ 0 ∨ p.ch.length ≤ 3 ∧ p.ticks ≤ 40)
instance (p : Pl) : Decidable (FewP p) := inferInstanceAs (Decidable (_ ∧ _))
theorem l_Few {p : Pl} : Contract Try.prog 28 [spI p] (.bool (decide (FewP p))) := by
  refine contract_run Try.func28 k28 rfl ?_
  simp only [body28, b28, res28, b28k0, ruI, ssI, sbI, spI, swI, scI, stI, srI, saI, snI, ↓reduceIte, reduceCtorEq, Nat.reduceEqDiff, Nat.reduceAdd, Nat.reduceMul, Nat.reduceSub, Nat.reduceLeDiff, Nat.reduceBEq, Int.reduceToNat, Int.reduceLE, Int.reduceLT, Int.reduceEq, Int.reduceNe, di0, di1, di2, di3, di4, di5, di6, di7, di8, di9, postX_ret, postX_normal, ex_some]
  by_cases h1 : p.ch.length ≤ 6
  case neg =>
    rw [if_pos (by omega), decide_eq_false (fun k => h1 k.1)]
  rw [if_neg (by omega)]
  refine calls_of (r_CheckPlan (by omega)) ?_; simp only [ruI, ssI, sbI, spI, swI, scI, stI, srI, saI, snI, res28, b28k0, ↓reduceIte, reduceCtorEq, Nat.reduceEqDiff, Nat.reduceAdd, Nat.reduceMul, Nat.reduceSub, Nat.reduceLeDiff, Nat.reduceBEq, Int.reduceToNat, Int.reduceLE, Int.reduceLT, Int.reduceEq, Int.reduceNe, di0, di1, di2, di3, di4, di5, di6, di7, di8, di9, postX_ret, postX_normal, ex_some]
  by_cases h2 : (planE p).2 = 0
  · simp only [h2, ruI, ssI, sbI, spI, swI, scI, stI, srI, saI, snI, ↓reduceIte, reduceCtorEq, Nat.reduceEqDiff, Nat.reduceAdd, Nat.reduceMul, Nat.reduceSub, Nat.reduceLeDiff, Nat.reduceBEq, Int.reduceToNat, Int.reduceLE, Int.reduceLT, Int.reduceEq, Int.reduceNe, di0, di1, di2, di3, di4, di5, di6, di7, di8, di9, postX_ret, postX_normal, ex_some]
    by_cases h3 : (p.ch.length : Int) ≤ 3
    · simp only [h3, ruI, ssI, sbI, spI, swI, scI, stI, srI, saI, snI, ↓reduceIte, reduceCtorEq, Nat.reduceEqDiff, Nat.reduceAdd, Nat.reduceMul, Nat.reduceSub, Nat.reduceLeDiff, Nat.reduceBEq, Int.reduceToNat, Int.reduceLE, Int.reduceLT, Int.reduceEq, Int.reduceNe, di0, di1, di2, di3, di4, di5, di6, di7, di8, di9, postX_ret, postX_normal, ex_some]
      congr 2
      rw [decide_eq_decide]
      unfold FewP
      rw [h2]
      omega
    · simp only [h3, ruI, ssI, sbI, spI, swI, scI, stI, srI, saI, snI, ↓reduceIte, reduceCtorEq, Nat.reduceEqDiff, Nat.reduceAdd, Nat.reduceMul, Nat.reduceSub, Nat.reduceLeDiff, Nat.reduceBEq, Int.reduceToNat, Int.reduceLE, Int.reduceLT, Int.reduceEq, Int.reduceNe, di0, di1, di2, di3, di4, di5, di6, di7, di8, di9, postX_ret, postX_normal, ex_some]
      rw [decide_eq_false (fun k => by have := k.2; rw [h2] at this; omega)]
  · simp only [h2, ruI, ssI, sbI, spI, swI, scI, stI, srI, saI, snI, ↓reduceIte, reduceCtorEq, Nat.reduceEqDiff, Nat.reduceAdd, Nat.reduceMul, Nat.reduceSub, Nat.reduceLeDiff, Nat.reduceBEq, Int.reduceToNat, Int.reduceLE, Int.reduceLT, Int.reduceEq, Int.reduceNe, di0, di1, di2, di3, di4, di5, di6, di7, di8, di9, postX_ret, postX_normal, ex_some]
    rw [decide_eq_true (show FewP p from ⟨h1, .inl h2⟩)]

end Go.DI

