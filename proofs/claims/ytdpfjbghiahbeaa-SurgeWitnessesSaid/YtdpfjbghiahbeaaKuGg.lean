/- Contracts of plans, loads and orders. No condition. -/
import Derived.Test.YtdpfjbghiahbeaaKsGe
import Derived.Test.YtdpfjbghiahbeaaProg
import Derived.KernelRfl
import Derived.Test.YtdpfjbghiahbeaaKvGf
/- The functions of the surge chambers' plans, as data. No condition. -/
namespace Go.DI
open Go.Proofs Go.RowKit
/-- guidevane/surge.planErr -/
def b108k0 : DCode :=
 (.region [⟨(some 41), (.bin .add), [.t 24, .c (.int .i64 1)], none, []⟩,
   ⟨(some 24), .mov, [.t 41], none, [0]⟩] false)
def b108k1 : DCode :=
 (.seq
  (.block 1
   (.seq
    (.region [⟨(some 26), .mov, [.t 24], none, []⟩,
      ⟨(some 27), (.iaddr 1), [.t 22, .t 24], none, []⟩,
      ⟨(some 28), (.load false 1), [.t 27], none, [1]⟩,
      ⟨(some 5), .mov, [.t 26], none, [0, 0, 1, 2]⟩,
      ⟨(some 6), .mov, [.t 28], none, [2, 3, 0, 1, 2, 3]⟩] false)
    (.seq
     (.region [⟨(some 29), .mov, [.t 6], none, []⟩,
       ⟨(some 30), .call, [.f 92, .t 29, .c (.int .i64 (-1000)), .c (.int .i64 1000)], none, [0]⟩,
       ⟨(some 31), .call, [.f 93, .t 30, .c (.int .i64 2)], none, [1, 1]⟩,
       ⟨(some 32), .mov, [.t 6], none, []⟩,
       ⟨(some 33), (.bin .neq), [.t 32, .c (.int .i64 0)], none, [3]⟩,
       ⟨(some 34), .call, [.f 93, .t 33, .c (.int .i64 11)], none, [4, 2]⟩,
       ⟨(some 35), (.bsl 1), [.t 31, .t 34], none, [2, 5]⟩,
       ⟨(some 36), .call, [.f 87, .t 35], none, [6, 5]⟩,
       ⟨(some 7), .mov, [.t 36], none, [7, 7, 0, 1, 2, 3, 4, 5, 6, 7]⟩] false)
     (.seq
      (.region [⟨(some 37), .mov, [.t 7], none, []⟩,
        ⟨(some 38), (.bin .neq), [.t 37, .c (.int .i64 0)], none, [0]⟩] false)
      (.cond (.t 38)
       (.seq
        (.region [⟨(some 39), .mov, [.t 5], none, []⟩,
          ⟨(some 40), .mov, [.t 7], none, []⟩,
          ⟨(some 2), .mov, [.t 39], none, [0, 0]⟩,
          ⟨(some 3), .mov, [.t 40], none, [1, 2, 0, 1, 2]⟩] false)
        .ret)
       .skip)))))
  (.keep [1, 22, 23, 24] [1] b108k0))
def b108l0 : DCode := .keep [1, 22, 23, 24] [1]
  (.seq
   (.region [⟨(some 25), (.bin .lss), [.t 24, .t 23], none, []⟩] false)
   (.seq
    (.cond (.t 25)
     .skip
     (.exit 0))
    (.keep [1, 22, 23, 24] [1] b108k1)))
def b108k2 : DCode :=
 (.seq
  (.region [⟨(some 42), (.faddr 2 false 1), [.t 1], none, []⟩,
    ⟨(some 43), (.load false 1), [.t 42], none, [0]⟩,
    ⟨(some 44), .call, [.f 92, .t 43, .c (.int .i64 1), .c (.int .i64 20)], none, [1]⟩,
    ⟨(some 45), .mov, [.t 44], none, [2, 2]⟩,
    ⟨(some 46), (.faddr 3 false 1), [.t 1], (some (45, true)), [3]⟩,
    ⟨(some 47), (.load false 1), [.t 46], (some (45, true)), [4, 3]⟩,
    ⟨(some 48), .call, [.f 92, .t 47, .c (.int .i64 1), .c (.int .i64 200)], (some (45, true)), [5, 3, 3]⟩,
    ⟨(some 49), .pick, [.t 45, .t 48, .c (.bool false)], none, [3, 6]⟩,
    ⟨(some 50), .call, [.f 93, .t 49, .c (.int .i64 2)], none, [7, 6]⟩,
    ⟨(some 2), .mov, [.c (.int .i64 0)], none, [8]⟩,
    ⟨(some 3), .mov, [.t 50], none, [8, 9, 0, 1, 2, 3, 4, 5, 6, 7, 8, 9]⟩] false)
  .ret)
def b108k3 : DCode :=
 (.seq
  (.seq
   (.region [⟨(some 21), (.faddr 1 false 1), [.t 1], none, []⟩,
     ⟨(some 22), (.load false 1), [.t 21], none, [0]⟩,
     ⟨(some 23), .len, [.t 22], none, [1]⟩,
     ⟨(some 24), .mov, [.c (.int .i64 0)], none, []⟩] false)
   (.block 0
    (.loop b108l0)))
  (.keep [1] [1] b108k2))
def b108 : DCode :=
 (.seq
  (.region [⟨(some 1), .box, [.t 0], none, []⟩,
    ⟨(some 2), .mov, [.c (.int .i64 0)], none, []⟩,
    ⟨(some 3), .mov, [.c (.int .i64 0)], none, [1]⟩] false)
  (.seq
   (.seq
    (.region [⟨(some 8), (.faddr 0 false 1), [.t 1], none, []⟩,
      ⟨(some 9), (.load false 1), [.t 8], none, [0]⟩,
      ⟨(some 10), .call, [.f 88, .t 9], none, [1]⟩,
      ⟨(some 11), (.faddr 1 false 1), [.t 1], none, []⟩,
      ⟨(some 12), (.load false 1), [.t 11], none, [3]⟩,
      ⟨(some 13), .len, [.t 12], none, [4]⟩,
      ⟨(some 14), (.bin .leq), [.t 13, .c (.int .i64 4)], none, [5]⟩,
      ⟨(some 15), .call, [.f 93, .t 14, .c (.int .i64 8)], none, [6, 2]⟩,
      ⟨(some 16), (.bsl 1), [.t 10, .t 15], none, [2, 7]⟩,
      ⟨(some 17), .call, [.f 87, .t 16], none, [8, 7]⟩,
      ⟨(some 4), .mov, [.t 17], none, [9, 9, 0, 1, 2, 3, 4, 5, 6, 7, 8, 9]⟩] true)
    (.seq
     (.region [⟨(some 18), .mov, [.t 4], none, []⟩,
       ⟨(some 19), (.bin .neq), [.t 18, .c (.int .i64 0)], none, [0]⟩] false)
     (.cond (.t 19)
      (.seq
       (.region [⟨(some 20), .mov, [.t 4], none, []⟩,
         ⟨(some 2), .mov, [.c (.int .i64 0)], none, []⟩,
         ⟨(some 3), .mov, [.t 20], none, [0, 1, 0, 1]⟩] false)
       .ret)
      .skip)))
   (.keep [1] [1] b108k3)))
def d108 : DFn := ⟨1, 51, [.tmp 2, .tmp 3], b108⟩
theorem body108 : d108.body = b108 := rfl
theorem res108 : d108.res = [.tmp 2, .tmp 3] := rfl
theorem k108 : chkFn Try.prog Try.f108 d108 = true := by kernel_rfl

/-- guidevane/surge.CheckPlan -/
def b40k0 : DCode :=
 (.seq
  (.region [⟨(some 12), (.load true 4), [.t 3], none, []⟩,
    ⟨(some 13), .call, [.f 108, .t 12], none, [0]⟩,
    ⟨(some 14), (.ext 0), [.t 13], none, [1]⟩,
    ⟨(some 15), (.ext 1), [.t 13], none, [1]⟩,
    ⟨(some 4), .mov, [.t 14], none, [2, 1, 0, 1, 2, 3]⟩,
    ⟨(some 5), .mov, [.t 15], none, [3, 4, 0, 1, 2, 3, 4]⟩] false)
  .ret)
def b40 : DCode :=
 (.seq
  (.region [⟨(some 2), .box, [.t 0], none, []⟩,
    ⟨(some 3), .box, [.t 1], none, []⟩,
    ⟨(some 4), .mov, [.c (.int .i64 0)], none, []⟩,
    ⟨(some 5), .mov, [.c (.int .i64 0)], none, [2]⟩] false)
  (.seq
   (.seq
    (.region [⟨(some 7), (.load true 5), [.t 2], none, []⟩,
      ⟨(some 8), .call, [.f 18, .t 7], none, [0]⟩,
      ⟨(some 6), .mov, [.t 8], none, [1, 1, 0, 1]⟩] false)
    (.seq
     (.region [⟨(some 9), .mov, [.t 6], none, []⟩,
       ⟨(some 10), (.bin .neq), [.t 9, .c (.int .i64 0)], none, [0]⟩] false)
     (.cond (.t 10)
      (.seq
       (.region [⟨(some 11), .mov, [.t 6], none, []⟩,
         ⟨(some 4), .mov, [.c (.int .i64 0)], none, []⟩,
         ⟨(some 5), .mov, [.t 11], none, [0, 1, 0, 1]⟩] false)
       .ret)
      .skip)))
   (.keep [3] [3] b40k0)))
def d40 : DFn := ⟨2, 16, [.tmp 4, .tmp 5], b40⟩
theorem body40 : d40.body = b40 := rfl
theorem res40 : d40.res = [.tmp 4, .tmp 5] := rfl
theorem k40 : chkFn Try.prog Try.f40 d40 = true := by kernel_rfl

/-- guidevane/surge.open -/
def b99 : DCode :=
 (.seq
  (.region [⟨(some 2), .box, [.t 0], none, []⟩,
    ⟨(some 3), .box, [.t 1], none, []⟩,
    ⟨(some 4), (.alloc [(.imm (.int .i64 0)), (.imm (.int .i64 0)), (.imm (.int .i64 0)), (.imm (.int .i64 0)), (.imm (.int .i64 0)), (.imm (.int .i64 0)), (.imm (.slc 1 [])), (.imm (.int .i64 0)), (.imm (.int .i64 0))]), [], none, []⟩,
    ⟨(some 5), .mov, [.c (.int .i64 0)], none, []⟩] false)
  (.seq
   (.region [⟨(some 9), (.load true 5), [.t 2], none, []⟩,
     ⟨(some 10), (.load true 4), [.t 3], none, []⟩,
     ⟨(some 11), .call, [.f 40, .t 9, .t 10], none, [0, 1]⟩,
     ⟨(some 8), .mov, [.t 11], none, [2]⟩,
     ⟨(some 12), (.ext 0), [.t 8], none, [3]⟩,
     ⟨(some 13), (.ext 1), [.t 8], none, [3]⟩,
     ⟨(some 6), .mov, [.t 12], none, [4, 2, 0, 1, 2, 3, 4]⟩,
     ⟨(some 7), .mov, [.t 13], none, [5, 6, 0, 1, 2, 3, 4, 5, 6]⟩] false)
   (.seq
    (.region [⟨(some 14), (.load true 5), [.t 2], none, []⟩,
      ⟨(some 15), (.build [(.imm (.int .i64 0)), (.imm (.int .i64 0)), (.imm (.int .i64 0)), (.imm (.int .i64 0)), (.imm (.int .i64 0))] [(0, 5)]), [.t 14], none, [0]⟩,
      ⟨(some 16), (.load true 4), [.t 3], none, []⟩,
      ⟨(some 17), (.build [(.imm (.int .i64 0)), (.imm (.int .i64 0)), (.imm (.int .i64 0)), (.imm (.int .i64 0)), (.imm (.int .i64 0)), (.imm (.int .i64 0)), (.imm (.slc 1 [])), (.imm (.int .i64 0)), (.imm (.int .i64 0))] [(0, 5), (5, 4)]), [.t 15, .t 16], none, [1, 2]⟩,
      ⟨(some 18), .mov, [.t 7], none, []⟩,
      ⟨none, (.store 9), [.t 4, .t 17], none, [3, 0, 1, 2, 3]⟩,
      ⟨(some 5), .mov, [.t 18], none, [4, 5, 0, 1, 2, 3, 4, 5]⟩] false)
    .ret)))
def d99 : DFn := ⟨2, 19, [.cell 4 true 9, .tmp 5], b99⟩
theorem body99 : d99.body = b99 := rfl
theorem res99 : d99.res = [.cell 4 true 9, .tmp 5] := rfl
theorem k99 : chkFn Try.prog Try.f99 d99 = true := by kernel_rfl

/-- (guidevane/surge.plan).isPermitted -/
def b149k0 : DCode :=
 (.region [⟨(some 28), (.bin .add), [.t 13, .c (.int .i64 1)], none, []⟩,
   ⟨(some 13), .mov, [.t 28], none, [0]⟩] false)
def b149k1 : DCode :=
 (.seq
  (.block 1
   (.seq
    (.region [⟨(some 15), (.iaddr 1), [.t 11, .t 13], none, []⟩,
      ⟨(some 16), (.load false 1), [.t 15], none, [0]⟩,
      ⟨(some 7), .mov, [.t 16], none, [1, 0, 1]⟩] false)
    (.seq
     (.region [⟨(some 17), .mov, [.t 5], none, []⟩,
       ⟨(some 18), (.faddr 5 true 4), [.t 2], none, []⟩,
       ⟨(some 19), (.faddr 1 false 1), [.t 18], none, [1]⟩,
       ⟨(some 20), (.load false 1), [.t 19], none, [2]⟩,
       ⟨(some 21), .mov, [.t 7], none, []⟩,
       ⟨(some 22), (.iaddr 1), [.t 20, .t 21], none, [3, 4]⟩,
       ⟨(some 23), (.load false 1), [.t 22], none, [5]⟩,
       ⟨(some 24), (.bin .add), [.t 17, .t 23], none, [0, 6]⟩,
       ⟨(some 5), .mov, [.t 24], none, [7, 0, 1, 2, 3, 4, 5, 6, 7]⟩] false)
     (.seq
      (.region [⟨(some 25), .mov, [.t 5], none, []⟩,
        ⟨(some 26), .call, [.f 139, .t 25], none, [0]⟩,
        ⟨(some 27), (.un .not), [.t 26], none, [1]⟩] false)
      (.cond (.t 27)
       (.seq
        (.region [⟨(some 4), .mov, [.c (.bool false)], none, []⟩] false)
        .ret)
       .skip)))))
  (.keep [2, 5, 11, 12, 13] [2] b149k0))
def b149l0 : DCode := .keep [2, 5, 11, 12, 13] [2]
  (.seq
   (.region [⟨(some 14), (.bin .lss), [.t 13, .t 12], none, []⟩] false)
   (.seq
    (.cond (.t 14)
     .skip
     (.exit 0))
    (.keep [2, 5, 11, 12, 13] [2] b149k1)))
def b149k2 : DCode :=
 (.seq
  (.region [⟨(some 4), .mov, [.c (.bool true)], none, []⟩] false)
  .ret)
def b149 : DCode :=
 (.seq
  (.region [⟨(some 2), .box, [.t 0], none, []⟩,
    ⟨(some 4), .mov, [.c (.bool false)], none, []⟩] false)
  (.seq
   (.region [⟨(some 8), (.faddr 5 true 4), [.t 2], none, []⟩,
     ⟨(some 9), (.faddr 0 false 1), [.t 8], none, [0]⟩,
     ⟨(some 10), (.load false 1), [.t 9], none, [1]⟩,
     ⟨(some 5), .mov, [.t 10], none, [2, 0, 1, 2]⟩] false)
   (.seq
    (.seq
     (.region [⟨(some 11), .movv, [.t 1], none, []⟩,
       ⟨(some 12), .len, [.t 11], none, [0]⟩,
       ⟨(some 13), .mov, [.c (.int .i64 0)], none, []⟩] false)
     (.block 0
      (.loop b149l0)))
    (.keep [] [] b149k2))))
def d149 : DFn := ⟨2, 29, [.tmp 4], b149⟩
theorem body149 : d149.body = b149 := rfl
theorem res149 : d149.res = [.tmp 4] := rfl
theorem k149 : chkFn Try.prog Try.f149 d149 = true := by kernel_rfl

/-- (guidevane/surge.plan).orders -/
def b102 : DCode :=
 (.seq
  (.region [⟨(some 2), .box, [.t 0], none, []⟩,
    ⟨(some 3), .box, [.t 1], none, []⟩] false)
  (.ren 2 1002
   (.ren 3 1003
    (.seq
     (.region [⟨(some 4), (.alloc [(.imm .nilf)]), [], none, []⟩] false)
     (.ren 4 1004
      (.seq
       (.freeze [1002]
        (.region [⟨(some 5), (.mkfn 147 0), [.t 2, .t 3, .t 4], none, []⟩,
          ⟨none, (.store 1), [.t 4, .t 5], none, [0, 0]⟩] false))
       (.region [⟨(some 6), (.load false 1), [.t 4], none, []⟩,
         ⟨(some 7), (.callb [0, 1002, 1003, 1004]), [.t 6, .c (.slc 1 [])], none, [0]⟩] false)))))))
def d102 : DFn := ⟨2, 8, [], b102⟩
theorem body102 : d102.body = b102 := rfl
theorem res102 : d102.res = [] := rfl
theorem k102 : chkFnB Try.prog Try.f102 d102 [0] [0] = true := by kernel_rfl

/-- (guidevane/surge.plan).orders$1 -/
def b147k0 : DCode :=
 (.seq
  (.region [⟨(some 28), .movv, [.t 0], none, []⟩,
    ⟨(some 29), (.callb [0]), [.f 105, .t 28], none, [0]⟩,
    ⟨(some 30), .mov, [.t 6], none, []⟩,
    ⟨(some 31), (.bsl 1), [.t 30], none, [2]⟩,
    ⟨(some 32), (.append 1 8 false), [.t 29, .t 31], none, [1, 3, 1]⟩,
    ⟨(some 7), .movv, [.t 32], none, [4, 4, 0, 1, 2, 3, 4]⟩] false)
  (.seq
   (.region [⟨(some 33), (.load true 9), [.t 1], none, []⟩,
     ⟨(some 34), .movv, [.t 7], none, []⟩,
     ⟨(some 35), .call, [.f 149, .t 33, .t 34], none, [0, 1]⟩,
     ⟨(some 36), .mov, [.t 35], none, [2, 2]⟩,
     ⟨(some 37), (.load false 1), [.t 3], (some (36, true)), [3]⟩,
     ⟨(some 38), .movv, [.t 7], (some (36, true)), [3]⟩,
     ⟨(some 39), (.callb [0, 1002, 1003, 1004]), [.t 37, .t 38], (some (36, true)), [4, 5, 3, 3]⟩,
     ⟨(some 40), (.un .not), [.t 39], (some (36, true)), [6, 3]⟩,
     ⟨(some 41), .pick, [.t 36, .t 40, .c (.bool false)], none, [3, 7]⟩] false)
   (.cond (.t 41)
    (.seq
     (.region [⟨(some 5), .mov, [.c (.bool false)], none, []⟩] false)
     .ret)
    .skip)))
def b147k1 : DCode :=
 (.region [⟨(some 42), (.bin .add), [.t 22, .c (.int .i64 1)], none, []⟩,
   ⟨(some 22), .mov, [.t 42], none, [0]⟩] false)
def b147k2 : DCode :=
 (.seq
  (.block 1
   (.seq
    (.region [⟨(some 24), .mov, [.t 22], none, []⟩,
      ⟨(some 6), .mov, [.t 24], none, [0, 0]⟩] false)
    (.seq
     (.seq
      (.region [⟨(some 25), .movv, [.t 0], none, []⟩,
        ⟨(some 26), .mov, [.t 6], none, []⟩,
        ⟨(some 27), .call, [.f 148, .t 25, .t 26], none, [0, 1]⟩] false)
      (.cond (.t 27)
       (.exit 1)
       .skip))
     (.keep [0, 1, 3, 6, 21, 22] [0, 1002, 1003, 1004] b147k0))))
  (.keep [0, 1, 3, 21, 22] [0, 1002, 1003, 1004] b147k1))
def b147l0 : DCode := .keep [0, 1, 3, 21, 22] [0, 1002, 1003, 1004]
  (.seq
   (.region [⟨(some 23), (.bin .lss), [.t 22, .t 21], none, []⟩] false)
   (.seq
    (.cond (.t 23)
     .skip
     (.exit 0))
    (.keep [0, 1, 3, 21, 22] [0, 1002, 1003, 1004] b147k2)))
def b147k3 : DCode :=
 (.seq
  (.region [⟨(some 5), .mov, [.c (.bool true)], none, []⟩] false)
  .ret)
def b147k4 : DCode :=
 (.seq
  (.seq
   (.region [⟨(some 18), (.faddr 5 true 4), [.t 1], none, []⟩,
     ⟨(some 19), (.faddr 1 false 1), [.t 18], none, [0]⟩,
     ⟨(some 20), (.load false 1), [.t 19], none, [1]⟩,
     ⟨(some 21), .len, [.t 20], none, [2]⟩,
     ⟨(some 22), .mov, [.c (.int .i64 0)], none, []⟩] false)
   (.block 0
    (.loop b147l0)))
  (.keep [] [0, 1002, 1003, 1004] b147k3))
def b147 : DCode :=
 (.seq
  (.region [⟨(some 5), .mov, [.c (.bool false)], none, []⟩] false)
  (.seq
   (.seq
    (.region [⟨(some 8), .movv, [.t 0], none, []⟩,
      ⟨(some 9), .len, [.t 8], none, [0]⟩,
      ⟨(some 10), (.faddr 5 true 4), [.t 1], none, []⟩,
      ⟨(some 11), (.faddr 1 false 1), [.t 10], none, [2]⟩,
      ⟨(some 12), (.load false 1), [.t 11], none, [3]⟩,
      ⟨(some 13), .len, [.t 12], none, [4]⟩,
      ⟨(some 14), (.bin .eql), [.t 9, .t 13], none, [1, 5]⟩] false)
    (.cond (.t 14)
     (.seq
      (.region [⟨(some 15), (.load false 1), [.t 2], none, []⟩,
        ⟨(some 16), .movv, [.t 0], none, []⟩,
        ⟨(some 17), .yield, [.t 15, .t 16], none, [0, 1]⟩,
        ⟨(some 5), .mov, [.t 17], none, [2, 2, 0, 1, 2]⟩] false)
      .ret)
     .skip))
   (.keep [0, 1, 3] [0, 1002, 1003, 1004] b147k4)))
def d147 : DFn := ⟨4, 43, [.tmp 5], b147⟩
theorem body147 : d147.body = b147 := rfl
theorem res147 : d147.res = [.tmp 5] := rfl
theorem k147 : chkFnB Try.prog Try.f147 d147 [0, 1002, 1003, 1004] [0, 1002, 1003, 1004] = true := by kernel_rfl

/-- (guidevane/surge.plan).loads -/
def b103k0 : DCode :=
 (.region [⟨(some 46), .mov, [.t 6], none, []⟩,
   ⟨(some 47), .mov, [.t 5], none, []⟩,
   ⟨(some 48), (.bsl 1), [.t 47], none, [1]⟩,
   ⟨(some 49), (.append 1 8 false), [.t 46, .t 48], none, [0, 2]⟩,
   ⟨(some 6), .mov, [.t 49], none, [3, 3, 0, 1, 2, 3]⟩] false)
def b103k1 : DCode :=
 (.region [⟨(some 50), (.bin .add), [.t 15, .c (.int .i64 1)], none, []⟩,
   ⟨(some 15), .mov, [.t 50], none, [0]⟩] false)
def b103k2 : DCode :=
 (.seq
  (.block 1
   (.seq
    (.region [⟨(some 17), .mov, [.t 15], none, []⟩,
      ⟨(some 7), .mov, [.t 17], none, [0, 0]⟩] false)
    (.seq
     (.seq
      (.region [⟨(some 18), .mov, [.t 7], none, []⟩,
        ⟨(some 19), (.faddr 5 true 4), [.t 2], none, []⟩,
        ⟨(some 20), (.faddr 2 false 1), [.t 19], none, [1]⟩,
        ⟨(some 21), (.load false 1), [.t 20], none, [2]⟩,
        ⟨(some 22), (.bin .quo), [.t 18, .t 21], none, [0, 3]⟩,
        ⟨(some 8), .mov, [.t 22], none, [4, 0, 1, 2, 3, 4]⟩] false)
      (.seq
       (.region [⟨(some 23), .mov, [.t 7], none, []⟩,
         ⟨(some 24), (.faddr 5 true 4), [.t 2], none, []⟩,
         ⟨(some 25), (.faddr 2 false 1), [.t 24], none, [1]⟩,
         ⟨(some 26), (.load false 1), [.t 25], none, [2]⟩,
         ⟨(some 27), (.bin .rem), [.t 23, .t 26], none, [0, 3]⟩,
         ⟨(some 28), (.bin .eql), [.t 27, .c (.int .i64 0)], none, [4]⟩,
         ⟨(some 29), .mov, [.t 28], none, [5]⟩,
         ⟨(some 30), .mov, [.t 8], (some (29, true)), [6]⟩,
         ⟨(some 31), .movv, [.t 1], (some (29, true)), [6]⟩,
         ⟨(some 32), .len, [.t 31], (some (29, true)), [8, 6]⟩,
         ⟨(some 33), (.bin .lss), [.t 30, .t 32], (some (29, true)), [7, 9, 6]⟩,
         ⟨(some 34), .pick, [.t 29, .t 33, .c (.bool false)], none, [6, 10]⟩] false)
       (.cond (.t 34)
        (.region [⟨(some 35), .mov, [.t 5], none, []⟩,
          ⟨(some 36), (.faddr 5 true 4), [.t 2], none, []⟩,
          ⟨(some 37), (.faddr 1 false 1), [.t 36], none, [1]⟩,
          ⟨(some 38), (.load false 1), [.t 37], none, [2]⟩,
          ⟨(some 39), .movv, [.t 1], none, []⟩,
          ⟨(some 40), .mov, [.t 8], none, []⟩,
          ⟨(some 41), (.iaddr 1), [.t 39, .t 40], none, [4, 5]⟩,
          ⟨(some 42), (.load false 1), [.t 41], none, [6]⟩,
          ⟨(some 43), (.iaddr 1), [.t 38, .t 42], none, [3, 7]⟩,
          ⟨(some 44), (.load false 1), [.t 43], none, [8]⟩,
          ⟨(some 45), (.bin .add), [.t 35, .t 44], none, [0, 9]⟩,
          ⟨(some 5), .mov, [.t 45], none, [10, 0, 1, 2, 3, 4, 5, 6, 7, 8, 9, 10]⟩] true)
        .skip)))
     (.keep [1, 2, 5, 6, 14, 15] [2, 6, 49] b103k0))))
  (.keep [1, 2, 5, 6, 14, 15] [2, 6, 49] b103k1))
def b103l0 : DCode := .keep [1, 2, 5, 6, 14, 15] [2, 6, 49]
  (.seq
   (.region [⟨(some 16), (.bin .lss), [.t 15, .t 14], none, []⟩] false)
   (.seq
    (.cond (.t 16)
     .skip
     (.exit 0))
    (.keep [1, 2, 5, 6, 14, 15] [2, 6, 49] b103k2)))
def b103k3 : DCode :=
 (.seq
  (.region [⟨(some 51), .movv, [.t 6], none, []⟩,
    ⟨(some 4), .movv, [.t 51], none, [0, 0]⟩] false)
  .ret)
def b103 : DCode :=
 (.seq
  (.region [⟨(some 2), .box, [.t 0], none, []⟩,
    ⟨(some 4), .mov, [.c (.slc 1 [])], none, []⟩] false)
  (.seq
   (.region [⟨(some 9), (.faddr 5 true 4), [.t 2], none, []⟩,
     ⟨(some 10), (.faddr 0 false 1), [.t 9], none, [0]⟩,
     ⟨(some 11), (.load false 1), [.t 10], none, [1]⟩,
     ⟨(some 5), .mov, [.t 11], none, [2, 0, 1, 2]⟩] false)
   (.seq
    (.region [⟨(some 6), (.ntok 1), [.c (.slc 1 [])], none, []⟩] false)
    (.seq
     (.seq
      (.region [⟨(some 12), (.faddr 5 true 4), [.t 2], none, []⟩,
        ⟨(some 13), (.faddr 3 false 1), [.t 12], none, [0]⟩,
        ⟨(some 14), (.load false 1), [.t 13], none, [1]⟩,
        ⟨(some 15), .mov, [.c (.int .i64 0)], none, []⟩] false)
      (.block 0
       (.loop b103l0)))
     (.keep [6] [6, 49] b103k3)))))
def d103 : DFn := ⟨2, 52, [.tmp 4], b103⟩
theorem body103 : d103.body = b103 := rfl
theorem res103 : d103.res = [.tmp 4] := rfl
theorem k103 : chkFn Try.prog Try.f103 d103 = true := by kernel_rfl

/-- (guidevane/surge.plan).orderErr -/
def b106k0 : DCode :=
 (.region [⟨(some 42), (.bin .add), [.t 17, .c (.int .i64 1)], none, []⟩,
   ⟨(some 17), .mov, [.t 42], none, [0]⟩] false)
def b106k1 : DCode :=
 (.seq
  (.block 1
   (.seq
    (.region [⟨(some 19), .mov, [.t 17], none, []⟩,
      ⟨(some 20), (.iaddr 1), [.t 15, .t 17], none, []⟩,
      ⟨(some 21), (.load false 1), [.t 20], none, [1]⟩,
      ⟨(some 5), .mov, [.t 19], none, [0, 0, 1, 2]⟩,
      ⟨(some 6), .mov, [.t 21], none, [2, 3, 0, 1, 2, 3]⟩] false)
    (.seq
     (.region [⟨(some 22), .mov, [.t 6], none, []⟩,
       ⟨(some 23), (.faddr 5 true 4), [.t 2], none, []⟩,
       ⟨(some 24), (.faddr 1 false 1), [.t 23], none, [1]⟩,
       ⟨(some 25), (.load false 1), [.t 24], none, [2]⟩,
       ⟨(some 26), .len, [.t 25], none, [3]⟩,
       ⟨(some 27), (.bin .sub), [.t 26, .c (.int .i64 1)], none, [4]⟩,
       ⟨(some 28), .call, [.f 92, .t 22, .c (.int .i64 0), .t 27], none, [0, 5]⟩,
       ⟨(some 29), .call, [.f 93, .t 28, .c (.int .i64 6)], none, [6, 6]⟩,
       ⟨(some 30), .movv, [.t 1], none, []⟩,
       ⟨(some 31), .mov, [.t 5], none, []⟩,
       ⟨(some 32), (.slice 1 false true), [.t 30, .t 31], none, [8, 9]⟩,
       ⟨(some 33), .mov, [.t 6], none, []⟩,
       ⟨(some 34), .call, [.f 148, .t 32, .t 33], none, [10, 11, 7]⟩,
       ⟨(some 35), (.un .not), [.t 34], none, [12]⟩,
       ⟨(some 36), .call, [.f 93, .t 35, .c (.int .i64 23)], none, [13, 12]⟩,
       ⟨(some 37), (.bsl 1), [.t 29, .t 36], none, [7, 14]⟩,
       ⟨(some 38), .call, [.f 87, .t 37], none, [15, 14]⟩,
       ⟨(some 7), .mov, [.t 38], none, [16, 16, 0, 1, 2, 3, 4, 5, 6, 7, 8, 9, 10, 11, 12, 13, 14, 15, 16]⟩] true)
     (.seq
      (.region [⟨(some 39), .mov, [.t 7], none, []⟩,
        ⟨(some 40), (.bin .neq), [.t 39, .c (.int .i64 0)], none, [0]⟩] false)
      (.cond (.t 40)
       (.seq
        (.region [⟨(some 41), .mov, [.t 7], none, []⟩,
          ⟨(some 4), .mov, [.t 41], none, [0, 0]⟩] false)
        .ret)
       .skip)))))
  (.keep [1, 2, 15, 16, 17] [2] b106k0))
def b106l0 : DCode := .keep [1, 2, 15, 16, 17] [2]
  (.seq
   (.region [⟨(some 18), (.bin .lss), [.t 17, .t 16], none, []⟩] false)
   (.seq
    (.cond (.t 18)
     .skip
     (.exit 0))
    (.keep [1, 2, 15, 16, 17] [2] b106k1)))
def b106k2 : DCode :=
 (.seq
  (.region [⟨(some 43), (.load true 9), [.t 2], none, []⟩,
    ⟨(some 44), .movv, [.t 1], none, []⟩,
    ⟨(some 45), .call, [.f 149, .t 43, .t 44], none, [0, 1]⟩,
    ⟨(some 46), .call, [.f 93, .t 45, .c (.int .i64 24)], none, [2, 2]⟩,
    ⟨(some 4), .mov, [.t 46], none, [3, 3, 0, 1, 2, 3]⟩] false)
  .ret)
def b106k3 : DCode :=
 (.seq
  (.seq
   (.region [⟨(some 15), .movv, [.t 1], none, []⟩,
     ⟨(some 16), .len, [.t 15], none, [0]⟩,
     ⟨(some 17), .mov, [.c (.int .i64 0)], none, []⟩] false)
   (.block 0
    (.loop b106l0)))
  (.keep [1, 2] [2] b106k2))
def b106 : DCode :=
 (.seq
  (.region [⟨(some 2), .box, [.t 0], none, []⟩,
    ⟨(some 4), .mov, [.c (.int .i64 0)], none, []⟩] false)
  (.seq
   (.seq
    (.region [⟨(some 8), .movv, [.t 1], none, []⟩,
      ⟨(some 9), .len, [.t 8], none, [0]⟩,
      ⟨(some 10), (.faddr 5 true 4), [.t 2], none, []⟩,
      ⟨(some 11), (.faddr 1 false 1), [.t 10], none, [2]⟩,
      ⟨(some 12), (.load false 1), [.t 11], none, [3]⟩,
      ⟨(some 13), .len, [.t 12], none, [4]⟩,
      ⟨(some 14), (.bin .neq), [.t 9, .t 13], none, [1, 5]⟩] false)
    (.cond (.t 14)
     (.seq
      (.region [⟨(some 4), .mov, [.c (.int .i64 10)], none, []⟩] false)
      .ret)
     .skip))
   (.keep [1, 2] [2] b106k3)))
def d106 : DFn := ⟨2, 47, [.tmp 4], b106⟩
theorem body106 : d106.body = b106 := rfl
theorem res106 : d106.res = [.tmp 4] := rfl
theorem k106 : chkFn Try.prog Try.f106 d106 = true := by kernel_rfl

/-- guidevane/surge.LoadsOf -/
def b42k0 : DCode :=
 (.seq
  (.region [⟨(some 24), (.load true 9), [.t 8], none, []⟩,
    ⟨(some 25), .movv, [.t 2], none, []⟩,
    ⟨(some 26), .call, [.f 103, .t 24, .t 25], none, [0, 1]⟩,
    ⟨(some 6), .movv, [.t 26], none, [2, 2, 0, 1, 2]⟩,
    ⟨(some 7), .mov, [.c (.int .i64 0)], none, [3, 0, 1, 2, 3]⟩] false)
  .ret)
def b42k1 : DCode :=
 (.seq
  (.seq
   (.region [⟨(some 21), .mov, [.t 9], none, []⟩,
     ⟨(some 22), (.bin .neq), [.t 21, .c (.int .i64 0)], none, [0]⟩] false)
   (.cond (.t 22)
    (.seq
     (.region [⟨(some 23), .mov, [.t 9], none, []⟩,
       ⟨(some 6), .mov, [.c (.slc 1 [])], none, []⟩,
       ⟨(some 7), .mov, [.t 23], none, [0, 1, 0, 1]⟩] false)
     .ret)
    .skip))
  (.keep [2, 8] [8] b42k0))
def b42 : DCode :=
 (.seq
  (.region [⟨(some 3), .box, [.t 0], none, []⟩,
    ⟨(some 4), .box, [.t 1], none, []⟩,
    ⟨(some 6), .mov, [.c (.slc 1 [])], none, []⟩,
    ⟨(some 7), .mov, [.c (.int .i64 0)], none, [2]⟩] false)
  (.seq
   (.region [⟨(some 11), (.load true 5), [.t 3], none, []⟩,
     ⟨(some 12), (.load true 4), [.t 4], none, []⟩,
     ⟨(some 13), .call, [.f 99, .t 11, .t 12], none, [0, 1]⟩,
     ⟨(some 10), .mov, [.t 13], none, [2]⟩,
     ⟨(some 14), (.ext 0), [.t 10], none, [3]⟩,
     ⟨(some 15), (.ext 1), [.t 10], none, [3]⟩,
     ⟨(some 8), (.alloc [(.imm (.int .i64 0)), (.imm (.int .i64 0)), (.imm (.int .i64 0)), (.imm (.int .i64 0)), (.imm (.int .i64 0)), (.imm (.int .i64 0)), (.imm (.slc 1 [])), (.imm (.int .i64 0)), (.imm (.int .i64 0))]), [], none, []⟩,
     ⟨none, (.store 9), [.t 8, .t 14], none, [6, 4, 2, 0, 1, 2, 3, 4, 6]⟩,
     ⟨(some 9), .mov, [.t 15], none, [5, 7, 0, 1, 2, 3, 4, 5, 6, 7]⟩] false)
   (.seq
    (.seq
     (.region [⟨(some 16), .mov, [.t 9], none, []⟩,
       ⟨(some 17), (.bin .eql), [.t 16, .c (.int .i64 0)], none, [0]⟩] false)
     (.cond (.t 17)
      (.region [⟨(some 18), (.load true 9), [.t 8], none, []⟩,
        ⟨(some 19), .movv, [.t 2], none, []⟩,
        ⟨(some 20), .call, [.f 106, .t 18, .t 19], none, [0, 1]⟩,
        ⟨(some 9), .mov, [.t 20], none, [2, 2, 0, 1, 2]⟩] false)
      .skip))
    (.keep [2, 8, 9] [8] b42k1))))
def d42 : DFn := ⟨3, 27, [.tmp 6, .tmp 7], b42⟩
theorem body42 : d42.body = b42 := rfl
theorem res42 : d42.res = [.tmp 6, .tmp 7] := rfl
theorem k42 : chkFn Try.prog Try.f42 d42 = true := by kernel_rfl

/-- (guidevane/surge.chamber).highest -/
def b104a0 : DCode :=
 (.region [⟨(some 10), (.alloc [(.imm (.int .i64 0)), (.imm (.int .i64 0))]), [], none, []⟩,
   ⟨none, (.store 2), [.t 10, .t 16], none, [0, 0]⟩] false)
def b104r0 : DCode :=
 (.block 1
  (.region [⟨(some 17), (.load false 1), [.t 9], none, []⟩,
    ⟨(some 18), (.faddr 0 false 1), [.t 10], none, []⟩,
    ⟨(some 19), (.load false 1), [.t 18], none, [1]⟩,
    ⟨(some 20), (.bsl 1), [.t 19], none, [2]⟩,
    ⟨(some 21), (.append 1 8 false), [.t 17, .t 20], none, [0, 3]⟩,
    ⟨none, (.store 1), [.t 9, .t 21], none, [4, 4, 0, 1, 2, 3, 4]⟩] false))
def b104k0 : DCode :=
 (.seq
  (.region [⟨(some 22), (.load false 1), [.t 9], none, []⟩,
    ⟨(some 23), .call, [.f 150, .t 22], none, [0]⟩,
    ⟨(some 8), .mov, [.t 23], none, [1, 1, 0, 1]⟩] false)
  .ret)
def b104 : DCode :=
 (.seq
  (.region [⟨(some 4), .box, [.t 0], none, []⟩,
    ⟨(some 5), .box, [.t 1], none, []⟩,
    ⟨(some 8), .mov, [.c (.int .i64 0)], none, []⟩] false)
  (.seq
   (.region [⟨(some 9), (.alloc [(.cap0 1 [])]), [], none, []⟩] false)
   (.mktok 9 0 1009 1
    (.seq
     (.seq
      (.region [⟨(some 11), (.load true 5), [.t 4], none, []⟩,
        ⟨(some 12), (.load true 2), [.t 5], none, []⟩,
        ⟨(some 13), .movv, [.t 2], none, []⟩,
        ⟨(some 14), .mov, [.t 3], none, []⟩,
        ⟨(some 15), .call, [.f 115, .t 11, .t 12, .t 13, .t 14], none, [0, 1, 2, 3]⟩] false)
      (.block 0
       (.rangeF (.t 15) [16] [9] [9] [] [9, 21, 1009] b104a0 b104r0)))
     (.keep [9] [9, 21, 1009] b104k0)))))
def d104 : DFn := ⟨4, 24, [.tmp 8], b104⟩
theorem body104 : d104.body = b104 := rfl
theorem res104 : d104.res = [.tmp 8] := rfl
theorem k104 : chkFn Try.prog Try.f104 d104 = true := by kernel_rfl

/-- guidevane/surge.WorstOf -/
def b30k0 : DCode :=
 (.region [⟨(some 87), (.bin .add), [.t 61, .c (.int .i64 1)], none, []⟩,
   ⟨(some 61), .mov, [.t 87], none, [0]⟩] false)
def b30k1 : DCode :=
 (.seq
  (.block 5
   (.seq
    (.region [⟨(some 63), (.index 2 1 false), [.t 60, .t 61], none, []⟩,
      ⟨(some 16), .mov, [.t 63], none, [0, 0]⟩] false)
    (.seq
     (.region [⟨(some 64), (.faddr 0 true 5), [.t 8], none, []⟩,
       ⟨(some 65), (.load true 5), [.t 64], none, [0]⟩,
       ⟨(some 66), (.load true 2), [.t 14], none, []⟩,
       ⟨(some 67), .movv, [.t 12], none, []⟩,
       ⟨(some 68), .mov, [.t 16], none, []⟩,
       ⟨(some 69), .call, [.f 104, .t 65, .t 66, .t 67, .t 68], none, [1, 2, 3, 4]⟩,
       ⟨(some 17), .mov, [.t 69], none, [5, 5, 0, 1, 2, 3, 4, 5]⟩] false)
     (.seq
      (.region [⟨(some 70), (.load false 1), [.t 10], none, []⟩,
        ⟨(some 71), (.pnil false), [.t 70, .c .nilp], none, [0]⟩,
        ⟨(some 72), .mov, [.t 71], none, [1]⟩,
        ⟨(some 73), .mov, [.t 17], (some (72, false)), [2]⟩,
        ⟨(some 74), (.load false 1), [.t 10], (some (72, false)), [2]⟩,
        ⟨(some 75), .nilck, [.t 74], (some (72, false)), [4, 2]⟩,
        ⟨(some 76), (.faddr 4 false 1), [.t 75], (some (72, false)), [5, 2]⟩,
        ⟨(some 77), (.load false 1), [.t 76], (some (72, false)), [6, 2]⟩,
        ⟨(some 78), (.bin .gtr), [.t 73, .t 77], (some (72, false)), [3, 7, 2]⟩,
        ⟨(some 79), .pick, [.t 72, .c (.bool true), .t 78], none, [2, 8]⟩] false)
      (.cond (.t 79)
       (.settle [86]
        (.region [⟨(some 80), .movv, [.t 11], none, []⟩,
          ⟨(some 81), .call, [.f 105, .t 80], none, [0]⟩,
          ⟨(some 82), (.load true 2), [.t 14], none, []⟩,
          ⟨(some 83), .mov, [.t 16], none, []⟩,
          ⟨(some 84), .mov, [.t 17], none, []⟩,
          ⟨(some 85), (.build [(.imm (.slc 1 [])), (.imm (.int .i64 0)), (.imm (.int .i64 0)), (.imm (.int .i64 0)), (.imm (.int .i64 0))] [(0, 1), (1, 2), (3, 1), (4, 1)]), [.t 81, .t 82, .t 83, .t 84], none, [1, 2, 3, 4]⟩,
          ⟨(some 86), .box, [.t 85], none, [5]⟩,
          ⟨none, (.store 1), [.t 10, .t 86], none, [6, 1, 0, 1, 2, 3, 4, 5, 6]⟩] true))
       .skip)))))
  (.keep [3, 8, 10, 11, 12, 14, 48, 49, 50, 60, 61] [3, 5, 6, 8, 10, 14] b30k0))
def b30l0 : DCode := .keep [3, 8, 10, 11, 12, 14, 48, 49, 50, 60, 61] [3, 5, 6, 8, 10, 14]
  (.seq
   (.region [⟨(some 62), (.bin .lss), [.t 61, .c (.int .i64 2)], none, []⟩] false)
   (.seq
    (.cond (.t 62)
     .skip
     (.exit 4))
    (.keep [3, 8, 10, 11, 12, 14, 48, 49, 50, 60, 61] [3, 5, 6, 8, 10, 14] b30k1)))
def b30k2 : DCode :=
 (.region [⟨(some 88), (.bin .add), [.t 50, .c (.int .i64 1)], none, []⟩,
   ⟨(some 50), .mov, [.t 88], none, [0]⟩] false)
def b30k3 : DCode :=
 (.seq
  (.block 3
   (.seq
    (.region [⟨(some 52), (.iaddr 2), [.t 48, .t 50], none, []⟩,
      ⟨(some 53), (.load true 2), [.t 52], none, [0]⟩,
      ⟨(some 14), (.alloc [(.imm (.int .i64 0)), (.imm (.int .i64 0))]), [], none, []⟩,
      ⟨none, (.store 2), [.t 14, .t 53], none, [2, 1, 0, 1, 2]⟩] false)
    (.seq
     (.region [⟨(some 54), (.faddr 2 true 2), [.t 3], none, []⟩,
       ⟨(some 55), (.faddr 0 false 1), [.t 54], none, [0]⟩,
       ⟨(some 56), (.load false 1), [.t 55], none, [1]⟩,
       ⟨(some 57), (.faddr 2 true 2), [.t 3], none, []⟩,
       ⟨(some 58), (.faddr 1 false 1), [.t 57], none, [3]⟩,
       ⟨(some 59), (.load false 1), [.t 58], none, [4]⟩,
       ⟨(some 60), (.build [(.imm (.int .i64 0)), (.imm (.int .i64 0))] [(0, 1), (1, 1)]), [.t 56, .t 59], none, [2, 5]⟩,
       ⟨(some 61), .mov, [.c (.int .i64 0)], none, []⟩] false)
     (.block 4
      (.loop b30l0)))))
  (.keep [3, 8, 10, 11, 12, 48, 49, 50] [3, 5, 6, 8, 10] b30k2))
def b30l1 : DCode := .keep [3, 8, 10, 11, 12, 48, 49, 50] [3, 5, 6, 8, 10]
  (.seq
   (.region [⟨(some 51), (.bin .lss), [.t 50, .t 49], none, []⟩] false)
   (.seq
    (.cond (.t 51)
     .skip
     (.exit 2))
    (.keep [3, 8, 10, 11, 12, 48, 49, 50] [3, 5, 6, 8, 10] b30k3)))
def b30a2 : DCode :=
 (.region [⟨(some 11), .movv, [.t 44], none, []⟩] false)
def b30r2 : DCode :=
 (.block 1
  (.seq
   (.region [⟨(some 45), (.load true 9), [.t 8], none, []⟩,
     ⟨(some 46), .movv, [.t 11], none, []⟩,
     ⟨(some 47), .call, [.f 103, .t 45, .t 46], none, [0, 1]⟩,
     ⟨(some 12), .movv, [.t 47], none, [2, 2, 0, 1, 2]⟩] false)
   (.seq
    (.region [⟨(some 48), (.load false 1), [.t 5], none, []⟩,
      ⟨(some 49), .len, [.t 48], none, [0]⟩,
      ⟨(some 50), .mov, [.c (.int .i64 0)], none, []⟩] false)
    (.block 2
     (.loop b30l1)))))
def b30k4 : DCode :=
 (.seq
  (.region [⟨(some 92), (.load false 1), [.t 10], none, []⟩,
    ⟨(some 93), .nilck, [.t 92], none, [0]⟩,
    ⟨(some 94), (.load true 5), [.t 93], none, [1]⟩,
    ⟨none, (.store 5), [.t 6, .t 94], none, [2, 0, 1, 2]⟩,
    ⟨(some 7), .mov, [.c (.int .i64 0)], none, [3, 0, 1, 2, 3]⟩] false)
  .ret)
def b30k5 : DCode :=
 (.seq
  (.seq
   (.region [⟨(some 89), (.load false 1), [.t 10], none, []⟩,
     ⟨(some 90), (.pnil false), [.t 89, .c .nilp], none, [0]⟩] false)
   (.cond (.t 90)
    (.seq
     (.region [⟨(some 91), (.build [(.imm (.slc 1 [])), (.imm (.int .i64 0)), (.imm (.int .i64 0)), (.imm (.int .i64 0)), (.imm (.int .i64 0))] []), [], none, []⟩,
       ⟨none, (.store 5), [.t 6, .t 91], none, [0, 0]⟩,
       ⟨(some 7), .mov, [.c (.int .i64 12)], none, [1, 0, 1]⟩] false)
     .ret)
    .skip))
  (.keep [6, 10] [6, 10] b30k4))
def b30k6 : DCode :=
 (.seq
  (.region [⟨(some 10), (.alloc [(.imm .nilp)]), [], none, []⟩] false)
  (.seq
   (.seq
    (.region [⟨(some 42), (.load true 9), [.t 8], none, []⟩,
      ⟨(some 43), (.mkfn 102 1), [.t 42], none, [0]⟩] false)
    (.block 0
     (.rangeF (.t 43) [44] [3, 5, 6, 8, 10] [3, 5, 6, 8, 10] [] [3, 5, 6, 8, 10] b30a2 b30r2)))
   (.keep [6, 10] [6, 10] b30k5)))
def b30k7 : DCode :=
 (.seq
  (.seq
   (.region [⟨(some 39), (.load false 1), [.t 5], none, []⟩,
     ⟨(some 40), .call, [.f 100, .t 39, .f 101], none, [0]⟩] false)
   (.cond (.t 40)
    (.seq
     (.region [⟨(some 41), (.build [(.imm (.slc 1 [])), (.imm (.int .i64 0)), (.imm (.int .i64 0)), (.imm (.int .i64 0)), (.imm (.int .i64 0))] []), [], none, []⟩,
       ⟨none, (.store 5), [.t 6, .t 41], none, [0, 0]⟩,
       ⟨(some 7), .mov, [.c (.int .i64 2)], none, [1, 0, 1]⟩] false)
     .ret)
    .skip))
  (.keep [3, 5, 6, 8] [3, 5, 6, 8] b30k6))
def b30 : DCode :=
 (.seq
  (.region [⟨(some 3), .box, [.t 0], none, []⟩,
    ⟨(some 4), .box, [.t 1], none, []⟩,
    ⟨(some 5), .box, [.t 2], none, []⟩,
    ⟨(some 6), (.alloc [(.imm (.slc 1 [])), (.imm (.int .i64 0)), (.imm (.int .i64 0)), (.imm (.int .i64 0)), (.imm (.int .i64 0))]), [], none, []⟩,
    ⟨(some 7), .mov, [.c (.int .i64 0)], none, []⟩] false)
  (.seq
   (.region [⟨(some 19), (.load true 5), [.t 3], none, []⟩,
     ⟨(some 20), (.load true 4), [.t 4], none, []⟩,
     ⟨(some 21), .call, [.f 99, .t 19, .t 20], none, [0, 1]⟩,
     ⟨(some 18), .mov, [.t 21], none, [2]⟩,
     ⟨(some 22), (.ext 0), [.t 18], none, [3]⟩,
     ⟨(some 23), (.ext 1), [.t 18], none, [3]⟩,
     ⟨(some 8), (.alloc [(.imm (.int .i64 0)), (.imm (.int .i64 0)), (.imm (.int .i64 0)), (.imm (.int .i64 0)), (.imm (.int .i64 0)), (.imm (.int .i64 0)), (.imm (.slc 1 [])), (.imm (.int .i64 0)), (.imm (.int .i64 0))]), [], none, []⟩,
     ⟨none, (.store 9), [.t 8, .t 22], none, [6, 4, 2, 0, 1, 2, 3, 4, 6]⟩,
     ⟨(some 9), .mov, [.t 23], none, [5, 7, 0, 1, 2, 3, 4, 5, 6, 7]⟩] false)
   (.seq
    (.seq
     (.region [⟨(some 24), .mov, [.t 9], none, []⟩,
       ⟨(some 25), (.load false 1), [.t 5], none, []⟩,
       ⟨(some 26), .len, [.t 25], none, [1]⟩,
       ⟨(some 27), (.bin .gtr), [.t 26, .c (.int .i64 0)], none, [2]⟩,
       ⟨(some 28), .call, [.f 93, .t 27, .c (.int .i64 10)], none, [3]⟩,
       ⟨(some 29), (.load false 1), [.t 5], none, []⟩,
       ⟨(some 30), .len, [.t 29], none, [5]⟩,
       ⟨(some 31), (.bin .leq), [.t 30, .c (.int .i64 40)], none, [6]⟩,
       ⟨(some 32), .call, [.f 93, .t 31, .c (.int .i64 8)], none, [7, 4]⟩,
       ⟨(some 33), (.bsl 1), [.t 24, .t 28, .t 32], none, [0, 4, 8]⟩,
       ⟨(some 34), .call, [.f 87, .t 33], none, [9, 8]⟩,
       ⟨(some 9), .mov, [.t 34], none, [10, 10, 0, 1, 2, 3, 4, 5, 6, 7, 8, 9, 10]⟩] true)
     (.seq
      (.region [⟨(some 35), .mov, [.t 9], none, []⟩,
        ⟨(some 36), (.bin .neq), [.t 35, .c (.int .i64 0)], none, [0]⟩] false)
      (.cond (.t 36)
       (.seq
        (.region [⟨(some 37), (.build [(.imm (.slc 1 [])), (.imm (.int .i64 0)), (.imm (.int .i64 0)), (.imm (.int .i64 0)), (.imm (.int .i64 0))] []), [], none, []⟩,
          ⟨(some 38), .mov, [.t 9], none, []⟩,
          ⟨none, (.store 5), [.t 6, .t 37], none, [0, 0]⟩,
          ⟨(some 7), .mov, [.t 38], none, [1, 2, 0, 1, 2]⟩] false)
        .ret)
       .skip)))
    (.keep [3, 5, 6, 8] [3, 5, 6, 8] b30k7))))
def d30 : DFn := ⟨3, 95, [.cell 6 true 5, .tmp 7], b30⟩
theorem body30 : d30.body = b30 := rfl
theorem res30 : d30.res = [.cell 6 true 5, .tmp 7] := rfl
theorem k30 : chkFn Try.prog Try.f30 d30 = true := by kernel_rfl

/-- guidevane/surge.WorstOf$1 -/
def b101 : DCode :=
 (.seq
  (.region [⟨(some 1), .box, [.t 0], none, []⟩,
    ⟨(some 2), .mov, [.c (.bool false)], none, []⟩] false)
  (.seq
   (.region [⟨(some 3), (.load true 2), [.t 1], none, []⟩,
     ⟨(some 4), .call, [.f 94, .t 3], none, [0]⟩,
     ⟨(some 5), (.bin .neq), [.t 4, .c (.int .i64 0)], none, [1]⟩,
     ⟨(some 2), .mov, [.t 5], none, [2, 1, 0, 1, 2]⟩] false)
   .ret))
def d101 : DFn := ⟨1, 6, [.tmp 2], b101⟩
theorem body101 : d101.body = b101 := rfl
theorem res101 : d101.res = [.tmp 2] := rfl
theorem k101 : chkFn Try.prog Try.f101 d101 = true := by kernel_rfl

/-- guidevane/surge.CheckWitness -/
def b33k0 : DCode :=
 (.seq
  (.region [⟨(some 33), (.faddr 0 true 5), [.t 7], none, []⟩,
    ⟨(some 34), (.load true 5), [.t 33], none, [0]⟩,
    ⟨(some 35), (.faddr 1 true 2), [.t 5], none, []⟩,
    ⟨(some 36), (.load true 2), [.t 35], none, [2]⟩,
    ⟨(some 37), (.load true 9), [.t 7], none, []⟩,
    ⟨(some 38), (.faddr 0 false 1), [.t 5], none, []⟩,
    ⟨(some 39), (.load false 1), [.t 38], none, [5]⟩,
    ⟨(some 40), .call, [.f 103, .t 37, .t 39], none, [4, 6]⟩,
    ⟨(some 41), (.faddr 3 false 1), [.t 5], none, []⟩,
    ⟨(some 42), (.load false 1), [.t 41], none, [8]⟩,
    ⟨(some 43), .call, [.f 104, .t 34, .t 36, .t 40, .t 42], none, [1, 3, 7, 9, 7]⟩,
    ⟨(some 44), (.faddr 4 false 1), [.t 5], none, []⟩,
    ⟨(some 45), (.load false 1), [.t 44], none, [11]⟩,
    ⟨(some 46), (.bin .eql), [.t 43, .t 45], none, [10, 12]⟩,
    ⟨(some 47), .call, [.f 93, .t 46, .c (.int .i64 19)], none, [13, 10]⟩,
    ⟨(some 6), .mov, [.t 47], none, [14, 14, 0, 1, 2, 3, 4, 5, 6, 7, 8, 9, 10, 11, 12, 13, 14]⟩] true)
  .ret)
def b33k1 : DCode :=
 (.seq
  (.seq
   (.region [⟨(some 30), .mov, [.t 8], none, []⟩,
     ⟨(some 31), (.bin .neq), [.t 30, .c (.int .i64 0)], none, [0]⟩] false)
   (.cond (.t 31)
    (.seq
     (.region [⟨(some 32), .mov, [.t 8], none, []⟩,
       ⟨(some 6), .mov, [.t 32], none, [0, 0]⟩] false)
     .ret)
    .skip))
  (.keep [5, 7] [5, 7] b33k0))
def b33 : DCode :=
 (.seq
  (.region [⟨(some 3), .box, [.t 0], none, []⟩,
    ⟨(some 4), .box, [.t 1], none, []⟩,
    ⟨(some 5), .box, [.t 2], none, []⟩,
    ⟨(some 6), .mov, [.c (.int .i64 0)], none, []⟩] false)
  (.seq
   (.region [⟨(some 10), (.load true 5), [.t 3], none, []⟩,
     ⟨(some 11), (.load true 4), [.t 4], none, []⟩,
     ⟨(some 12), .call, [.f 99, .t 10, .t 11], none, [0, 1]⟩,
     ⟨(some 9), .mov, [.t 12], none, [2]⟩,
     ⟨(some 13), (.ext 0), [.t 9], none, [3]⟩,
     ⟨(some 14), (.ext 1), [.t 9], none, [3]⟩,
     ⟨(some 7), (.alloc [(.imm (.int .i64 0)), (.imm (.int .i64 0)), (.imm (.int .i64 0)), (.imm (.int .i64 0)), (.imm (.int .i64 0)), (.imm (.int .i64 0)), (.imm (.slc 1 [])), (.imm (.int .i64 0)), (.imm (.int .i64 0))]), [], none, []⟩,
     ⟨none, (.store 9), [.t 7, .t 13], none, [6, 4, 2, 0, 1, 2, 3, 4, 6]⟩,
     ⟨(some 8), .mov, [.t 14], none, [5, 7, 0, 1, 2, 3, 4, 5, 6, 7]⟩] false)
   (.seq
    (.seq
     (.region [⟨(some 15), .mov, [.t 8], none, []⟩,
       ⟨(some 16), (.bin .eql), [.t 15, .c (.int .i64 0)], none, [0]⟩] false)
     (.cond (.t 16)
      (.region [⟨(some 17), (.load true 9), [.t 7], none, []⟩,
        ⟨(some 18), (.faddr 0 false 1), [.t 5], none, []⟩,
        ⟨(some 19), (.load false 1), [.t 18], none, [1]⟩,
        ⟨(some 20), .call, [.f 106, .t 17, .t 19], none, [0, 2]⟩,
        ⟨(some 21), (.faddr 1 true 2), [.t 5], none, []⟩,
        ⟨(some 22), (.load true 2), [.t 21], none, [4]⟩,
        ⟨(some 23), .call, [.f 94, .t 22], none, [5, 3]⟩,
        ⟨(some 24), (.load true 5), [.t 3], none, []⟩,
        ⟨(some 25), (.faddr 3 false 1), [.t 5], none, []⟩,
        ⟨(some 26), (.load false 1), [.t 25], none, [8]⟩,
        ⟨(some 27), .call, [.f 89, .t 24, .t 26], none, [7, 9, 6]⟩,
        ⟨(some 28), (.bsl 1), [.t 20, .t 23, .t 27], none, [3, 6, 10]⟩,
        ⟨(some 29), .call, [.f 87, .t 28], none, [11, 10]⟩,
        ⟨(some 8), .mov, [.t 29], none, [12, 12, 0, 1, 2, 3, 4, 5, 6, 7, 8, 9, 10, 11, 12]⟩] true)
      .skip))
    (.keep [5, 7, 8] [5, 7] b33k1))))
def d33 : DFn := ⟨3, 48, [.tmp 6], b33⟩
theorem body33 : d33.body = b33 := rfl
theorem res33 : d33.res = [.tmp 6] := rfl
theorem k33 : chkFn Try.prog Try.f33 d33 = true := by kernel_rfl

/-- guidevane/surge.boxesErr -/
def b119k0 : DCode :=
 (.region [⟨(some 31), (.bin .add), [.t 22, .c (.int .i64 1)], none, []⟩,
   ⟨(some 22), .mov, [.t 31], none, [0]⟩] false)
def b119k1 : DCode :=
 (.seq
  (.block 1
   (.seq
    (.region [⟨(some 24), (.iaddr 4), [.t 20, .t 22], none, []⟩,
      ⟨(some 25), (.load true 4), [.t 24], none, [0]⟩,
      ⟨(some 5), (.alloc [(.imm (.int .i64 0)), (.imm (.int .i64 0)), (.imm (.int .i64 0)), (.imm (.int .i64 0))]), [], none, []⟩,
      ⟨none, (.store 4), [.t 5, .t 25], none, [2, 1, 0, 1, 2]⟩] false)
    (.seq
     (.region [⟨(some 26), (.load true 4), [.t 5], none, []⟩,
       ⟨(some 27), .call, [.f 118, .t 26], none, [0]⟩,
       ⟨(some 6), .mov, [.t 27], none, [1, 1, 0, 1]⟩] false)
     (.seq
      (.region [⟨(some 28), .mov, [.t 6], none, []⟩,
        ⟨(some 29), (.bin .neq), [.t 28, .c (.int .i64 0)], none, [0]⟩] false)
      (.cond (.t 29)
       (.seq
        (.region [⟨(some 30), .mov, [.t 6], none, []⟩,
          ⟨(some 2), .mov, [.t 30], none, [0, 0]⟩] false)
        .ret)
       .skip)))))
  (.keep [20, 21, 22] [] b119k0))
def b119l0 : DCode := .keep [20, 21, 22] []
  (.seq
   (.region [⟨(some 23), (.bin .lss), [.t 22, .t 21], none, []⟩] false)
   (.seq
    (.cond (.t 23)
     .skip
     (.exit 0))
    (.keep [20, 21, 22] [] b119k1)))
def b119k2 : DCode :=
 (.seq
  (.region [⟨(some 2), .mov, [.c (.int .i64 0)], none, []⟩] false)
  .ret)
def b119k3 : DCode :=
 (.seq
  (.seq
   (.region [⟨(some 20), .movv, [.t 0], none, []⟩,
     ⟨(some 21), .len, [.t 20], none, [0]⟩,
     ⟨(some 22), .mov, [.c (.int .i64 0)], none, []⟩] false)
   (.block 0
    (.loop b119l0)))
  (.keep [] [] b119k2))
def b119 : DCode :=
 (.seq
  (.region [⟨(some 2), .mov, [.c (.int .i64 0)], none, []⟩] false)
  (.seq
   (.seq
    (.region [⟨(some 7), .movv, [.t 0], none, []⟩,
      ⟨(some 8), .len, [.t 7], none, [0]⟩,
      ⟨(some 9), (.bin .gtr), [.t 8, .c (.int .i64 0)], none, [1]⟩,
      ⟨(some 10), .call, [.f 93, .t 9, .c (.int .i64 10)], none, [2]⟩,
      ⟨(some 11), .movv, [.t 0], none, []⟩,
      ⟨(some 12), .len, [.t 11], none, [4]⟩,
      ⟨(some 13), (.bin .leq), [.t 12, .c (.int .i64 64)], none, [5]⟩,
      ⟨(some 14), .call, [.f 93, .t 13, .c (.int .i64 8)], none, [6, 3]⟩,
      ⟨(some 15), (.bsl 1), [.t 10, .t 14], none, [3, 7]⟩,
      ⟨(some 16), .call, [.f 87, .t 15], none, [8, 7]⟩,
      ⟨(some 3), .mov, [.t 16], none, [9, 9, 0, 1, 2, 3, 4, 5, 6, 7, 8, 9]⟩] false)
    (.seq
     (.region [⟨(some 17), .mov, [.t 3], none, []⟩,
       ⟨(some 18), (.bin .neq), [.t 17, .c (.int .i64 0)], none, [0]⟩] false)
     (.cond (.t 18)
      (.seq
       (.region [⟨(some 19), .mov, [.t 3], none, []⟩,
         ⟨(some 2), .mov, [.t 19], none, [0, 0]⟩] false)
       .ret)
      .skip)))
   (.keep [0] [] b119k3)))
def d119 : DFn := ⟨1, 32, [.tmp 2], b119⟩
theorem body119 : d119.body = b119 := rfl
theorem res119 : d119.res = [.tmp 2] := rfl
theorem k119 : chkFn Try.prog Try.f119 d119 = true := by kernel_rfl

/-- (guidevane/surge.plan).bound -/
def b120k0 : DCode :=
 (.region [⟨(some 35), (.faddr 0 false 1), [.t 6], none, []⟩,
   ⟨(some 36), (.load false 1), [.t 35], none, [0]⟩,
   ⟨(some 37), (.faddr 0 true 2), [.t 12], none, []⟩,
   ⟨(some 38), (.faddr 0 false 1), [.t 37], none, [2]⟩,
   ⟨(some 39), (.load false 1), [.t 38], none, [3]⟩,
   ⟨(some 40), (.mm false), [.t 36, .t 39], none, [1, 4]⟩,
   ⟨(some 41), (.faddr 1 false 1), [.t 6], none, []⟩,
   ⟨(some 42), (.load false 1), [.t 41], none, [6]⟩,
   ⟨(some 43), (.faddr 0 true 2), [.t 12], none, []⟩,
   ⟨(some 44), (.faddr 1 false 1), [.t 43], none, [8]⟩,
   ⟨(some 45), (.load false 1), [.t 44], none, [9]⟩,
   ⟨(some 46), (.mm true), [.t 42, .t 45], none, [7, 10]⟩,
   ⟨(some 47), (.build [(.imm (.int .i64 0)), (.imm (.int .i64 0))] [(0, 1), (1, 1)]), [.t 40, .t 46], none, [5, 11]⟩,
   ⟨none, (.store 2), [.t 6, .t 47], none, [12, 0, 1, 2, 3, 4, 5, 6, 7, 8, 9, 10, 11, 12]⟩] false)
def b120a0 : DCode :=
 (.region [⟨(some 12), (.alloc [(.imm (.int .i64 0)), (.imm (.int .i64 0)), (.imm (.int .i64 0)), (.imm (.int .i64 0))]), [], none, []⟩,
   ⟨none, (.store 4), [.t 12, .t 30], none, [0, 0]⟩] false)
def b120r0 : DCode :=
 (.block 5
  (.seq
   (.seq
    (.region [⟨(some 31), (.load false 1), [.t 7], none, []⟩,
      ⟨(some 32), (.un .not), [.t 31], none, [0]⟩] false)
    (.cond (.t 32)
     (.region [⟨(some 33), (.faddr 0 true 2), [.t 12], none, []⟩,
       ⟨(some 34), (.load true 2), [.t 33], none, [0]⟩,
       ⟨none, (.store 2), [.t 6, .t 34], none, [1, 0, 1]⟩,
       ⟨none, (.store 1), [.t 7, .c (.bool true)], none, [2, 0, 1, 2]⟩] false)
     .skip))
   (.keep [6, 12] [2, 3, 4, 6, 7, 12] b120k0)))
def b120k1 : DCode :=
 (.region [⟨(some 48), (.bin .add), [.t 21, .c (.int .i64 1)], none, []⟩,
   ⟨(some 21), .mov, [.t 48], none, [0]⟩] false)
def b120k2 : DCode :=
 (.seq
  (.block 3
   (.seq
    (.region [⟨(some 23), (.iaddr 4), [.t 19, .t 21], none, []⟩,
      ⟨(some 24), (.load true 4), [.t 23], none, [0]⟩,
      ⟨(some 11), (.alloc [(.imm (.int .i64 0)), (.imm (.int .i64 0)), (.imm (.int .i64 0)), (.imm (.int .i64 0))]), [], none, []⟩,
      ⟨none, (.store 4), [.t 11, .t 24], none, [2, 1, 0, 1, 2]⟩] false)
    (.seq
     (.region [⟨(some 25), (.faddr 0 true 5), [.t 2], none, []⟩,
       ⟨(some 26), (.load true 5), [.t 25], none, [0]⟩,
       ⟨(some 27), (.load true 4), [.t 11], none, []⟩,
       ⟨(some 28), .movv, [.t 9], none, []⟩,
       ⟨(some 29), .call, [.f 117, .t 26, .t 27, .t 28], none, [1, 2, 3]⟩] false)
     (.block 4
      (.rangeF (.t 29) [30] [2, 6, 7, 9, 19, 20, 21] [2, 6, 7] [] [2, 3, 4, 6, 7] b120a0 b120r0)))))
  (.keep [2, 6, 7, 9, 19, 20, 21] [2, 3, 4, 6, 7] b120k1))
def b120l1 : DCode := .keep [2, 6, 7, 9, 19, 20, 21] [2, 3, 4, 6, 7]
  (.seq
   (.region [⟨(some 22), (.bin .lss), [.t 21, .t 20], none, []⟩] false)
   (.seq
    (.cond (.t 22)
     .skip
     (.exit 2))
    (.keep [2, 6, 7, 9, 19, 20, 21] [2, 3, 4, 6, 7] b120k2)))
def b120a2 : DCode :=
 (.region [⟨(some 8), .movv, [.t 15], none, []⟩] false)
def b120r2 : DCode :=
 (.block 1
  (.seq
   (.region [⟨(some 16), (.load true 9), [.t 2], none, []⟩,
     ⟨(some 17), .movv, [.t 8], none, []⟩,
     ⟨(some 18), .call, [.f 103, .t 16, .t 17], none, [0, 1]⟩,
     ⟨(some 9), .movv, [.t 18], none, [2, 2, 0, 1, 2]⟩] false)
   (.seq
    (.region [⟨(some 19), (.load false 1), [.t 3], none, []⟩,
      ⟨(some 20), .len, [.t 19], none, [0]⟩,
      ⟨(some 21), .mov, [.c (.int .i64 0)], none, []⟩] false)
    (.block 2
     (.loop b120l1)))))
def b120k3 : DCode :=
 (.seq
  (.region [⟨(some 49), (.loadf true 2 [6]), [.t 6], none, []⟩,
    ⟨(some 50), (.loadf false 1 [7]), [.t 7], none, []⟩,
    ⟨none, (.storef 2 [4]), [.t 4, .t 49], none, [0, 0]⟩,
    ⟨(some 5), .mov, [.t 50], none, [1, 2, 0, 1, 2]⟩] true)
  .ret)
def b120 : DCode :=
 (.seq
  (.region [⟨(some 2), .box, [.t 0], none, []⟩,
    ⟨(some 3), .box, [.t 1], none, []⟩,
    ⟨(some 4), (.alloc [(.imm (.int .i64 0)), (.imm (.int .i64 0))]), [], none, []⟩,
    ⟨(some 5), .mov, [.c (.bool false)], none, []⟩] false)
  (.seq
   (.region [⟨(some 6), (.alloc [(.imm (.int .i64 0)), (.imm (.int .i64 0))]), [], none, []⟩] false)
   (.seq
    (.region [⟨(some 7), (.alloc [(.imm (.bool false))]), [], none, []⟩,
      ⟨none, (.store 1), [.t 7, .c (.bool false)], none, [0, 0]⟩] false)
    (.seq
     (.seq
      (.region [⟨(some 13), (.load true 9), [.t 2], none, []⟩,
        ⟨(some 14), (.mkfn 102 1), [.t 13], none, [0]⟩] false)
      (.block 0
       (.rangeF (.t 14) [15] [2, 3, 4, 6, 7] [2, 3, 4, 6, 7] [] [2, 3, 4, 6, 7] b120a2 b120r2)))
     (.keep [4, 6, 7] [4, 6, 7] b120k3)))))
def d120 : DFn := ⟨2, 51, [.cell 4 true 2, .tmp 5], b120⟩
theorem body120 : d120.body = b120 := rfl
theorem res120 : d120.res = [.cell 4 true 2, .tmp 5] := rfl
theorem k120 : chkFn Try.prog Try.f120 d120 = true := by kernel_rfl

/-- guidevane/surge.BoundOf -/
def b60k0 : DCode :=
 (.seq
  (.region [⟨(some 28), (.load true 9), [.t 8], none, []⟩,
    ⟨(some 29), .movv, [.t 2], none, []⟩,
    ⟨(some 30), .call, [.f 120, .t 28, .t 29], none, [0, 1]⟩,
    ⟨(some 27), .mov, [.t 30], none, [2]⟩,
    ⟨(some 31), (.ext 0), [.t 27], none, [3]⟩,
    ⟨(some 32), (.ext 1), [.t 27], none, [3]⟩,
    ⟨(some 10), (.alloc [(.imm (.int .i64 0)), (.imm (.int .i64 0))]), [], none, []⟩,
    ⟨none, (.store 2), [.t 10, .t 31], none, [6, 4, 2, 0, 1, 2, 3, 4, 6]⟩,
    ⟨(some 11), .mov, [.t 32], none, [5, 7, 0, 1, 2, 3, 4, 5, 6, 7]⟩] false)
  (.seq
   (.region [⟨(some 33), (.load true 2), [.t 10], none, []⟩,
     ⟨(some 34), .mov, [.t 11], none, []⟩,
     ⟨(some 35), .call, [.f 93, .t 34, .c (.int .i64 12)], none, [1]⟩,
     ⟨none, (.store 2), [.t 6, .t 33], none, [0, 2, 0]⟩,
     ⟨(some 7), .mov, [.t 35], none, [2, 3, 0, 1, 2, 3]⟩] true)
   .ret))
def b60 : DCode :=
 (.seq
  (.region [⟨(some 3), .box, [.t 0], none, []⟩,
    ⟨(some 4), .box, [.t 1], none, []⟩,
    ⟨(some 6), (.alloc [(.imm (.int .i64 0)), (.imm (.int .i64 0))]), [], none, []⟩,
    ⟨(some 7), .mov, [.c (.int .i64 0)], none, []⟩] false)
  (.seq
   (.region [⟨(some 13), (.load true 5), [.t 3], none, []⟩,
     ⟨(some 14), (.load true 4), [.t 4], none, []⟩,
     ⟨(some 15), .call, [.f 99, .t 13, .t 14], none, [0, 1]⟩,
     ⟨(some 12), .mov, [.t 15], none, [2]⟩,
     ⟨(some 16), (.ext 0), [.t 12], none, [3]⟩,
     ⟨(some 17), (.ext 1), [.t 12], none, [3]⟩,
     ⟨(some 8), (.alloc [(.imm (.int .i64 0)), (.imm (.int .i64 0)), (.imm (.int .i64 0)), (.imm (.int .i64 0)), (.imm (.int .i64 0)), (.imm (.int .i64 0)), (.imm (.slc 1 [])), (.imm (.int .i64 0)), (.imm (.int .i64 0))]), [], none, []⟩,
     ⟨none, (.store 9), [.t 8, .t 16], none, [6, 4, 2, 0, 1, 2, 3, 4, 6]⟩,
     ⟨(some 9), .mov, [.t 17], none, [5, 7, 0, 1, 2, 3, 4, 5, 6, 7]⟩] false)
   (.seq
    (.seq
     (.region [⟨(some 18), .mov, [.t 9], none, []⟩,
       ⟨(some 19), .movv, [.t 2], none, []⟩,
       ⟨(some 20), .call, [.f 119, .t 19], none, [1]⟩,
       ⟨(some 21), (.bsl 1), [.t 18, .t 20], none, [0, 2]⟩,
       ⟨(some 22), .call, [.f 87, .t 21], none, [3, 2]⟩,
       ⟨(some 9), .mov, [.t 22], none, [4, 4, 0, 1, 2, 3, 4]⟩] false)
     (.seq
      (.region [⟨(some 23), .mov, [.t 9], none, []⟩,
        ⟨(some 24), (.bin .neq), [.t 23, .c (.int .i64 0)], none, [0]⟩] false)
      (.cond (.t 24)
       (.seq
        (.region [⟨(some 25), (.build [(.imm (.int .i64 0)), (.imm (.int .i64 0))] []), [], none, []⟩,
          ⟨(some 26), .mov, [.t 9], none, []⟩,
          ⟨none, (.store 2), [.t 6, .t 25], none, [0, 0]⟩,
          ⟨(some 7), .mov, [.t 26], none, [1, 2, 0, 1, 2]⟩] false)
        .ret)
       .skip)))
    (.keep [2, 6, 8] [6, 8] b60k0))))
def d60 : DFn := ⟨3, 36, [.cell 6 true 2, .tmp 7], b60⟩
theorem body60 : d60.body = b60 := rfl
theorem res60 : d60.res = [.cell 6 true 2, .tmp 7] := rfl
theorem k60 : chkFn Try.prog Try.f60 d60 = true := by kernel_rfl

end Go.DI

/- Contracts: the surge chambers' plans, their orders and loads. No condition. -/
set_option linter.unusedSimpArgs false
namespace Go.DI
open Go.Proofs Go.RowKit Sg

theorem s_IndexOf {l : List Int} {v : Int} (hl : l.length ≤ 1000000000) : Contract Try.prog 165 [.slc 1 (l.map (IV.int .i64)), .int .i64 v] (.int .i64 (idxF (fun x => decide (v = x)) l)) := by
  refine contract_run Try.func165 k165 rfl ?_
  simp only [body165, b165, res165, b165k0, b165k1, b165k2, ↓reduceIte, reduceCtorEq, Nat.reduceEqDiff, Nat.reduceAdd, Nat.reduceMul, Nat.reduceSub, Nat.reduceLeDiff, Nat.reduceBEq, Int.reduceToNat, Int.reduceLE, Int.reduceLT, Int.reduceEq, Int.reduceNe, di0, di1, di2, di3, di4, di5, di6, di7, di8, di9, postX_ret, postX_normal, ex_some]
  refine loop_keep (α := Nat) rfl (fun i => l.length - i) (fun i => i ≤ l.length ∧ idxF (fun x => decide (v = x)) l = if idxF (fun x => decide (v = x)) (l.drop i) = -1 then -1 else idxF (fun x => decide (v = x)) (l.drop i) + i)
    (fun i => [(0, .imm (.slc 1 (l.map (IV.int .i64)))), (1, .imm (.int .i64 v)), (7, .imm (.int .i64 l.length)), (8, .imm (.int .i64 i))]) (fun _ => []) 0 ⟨Nat.zero_le _, by simp⟩ (by simp only [↓reduceIte, reduceCtorEq, Nat.reduceEqDiff, Nat.reduceAdd, Nat.reduceMul, Nat.reduceSub, Nat.reduceLeDiff, Nat.reduceBEq, Int.reduceToNat, Int.reduceLE, Int.reduceLT, Int.reduceEq, Int.reduceNe, di0, di1, di2, di3, di4, di5, di6, di7, di8, di9, postX_ret, postX_normal, ex_some, List.length_map] <;> rfl) ?_
  intro i ⟨hi, he⟩ ih
  simp only [res165, b165k0, b165k1, b165k2, ↓reduceIte, reduceCtorEq, Nat.reduceEqDiff, Nat.reduceAdd, Nat.reduceMul, Nat.reduceSub, Nat.reduceLeDiff, Nat.reduceBEq, Int.reduceToNat, Int.reduceLE, Int.reduceLT, Int.reduceEq, Int.reduceNe, di0, di1, di2, di3, di4, di5, di6, di7, di8, di9, postX_ret, postX_normal, ex_some]
  split
  · rename_i h
    have hlt : i < l.length := by omega
    have hr := idxF_range (p := fun x => decide (v = x)) (l.drop (i + 1))
    rw [getD_drop hlt] at he
    generalize l.getD i 0 = x at he
    repeat (refine And.intro (by omega) ?_)
    rw [idxF_cons] at he
    simp only [decide_eq_true_eq] at he
    split
    · rename_i h2
      rw [if_pos h2, if_neg (by omega)] at he
      rw [he]; simp
    · rename_i h2
      rw [if_neg h2] at he
      rw [wrap64 (by omega) (by omega)]
      refine ih (i + 1) _ _ (by omega) ⟨by omega, ?_⟩ (by simp only [↓reduceIte, reduceCtorEq, Nat.reduceEqDiff, Nat.reduceAdd, Nat.reduceMul, Nat.reduceSub, Nat.reduceLeDiff, Nat.reduceBEq, Int.reduceToNat, Int.reduceLE, Int.reduceLT, Int.reduceEq, Int.reduceNe, di0, di1, di2, di3, di4, di5, di6, di7, di8, di9, postX_ret, postX_normal, ex_some] <;> rfl)
      rw [he]
      split
      · rename_i h3; rw [if_pos rfl]
      · rename_i h3; rw [if_neg (by omega)]; omega
  · rename_i h
    have : i = l.length := by omega
    subst this
    rw [he]
    simp [idxF]

theorem s_Contains {l : List Int} {v : Int} (hl : l.length ≤ 1000000000) : Contract Try.prog 148 [.slc 1 (l.map (IV.int .i64)), .int .i64 v] (.bool (decide (v ∈ l))) := by
  refine contract_run Try.func148 k148 rfl ?_
  simp only [body148, b148, res148, ↓reduceIte, reduceCtorEq, Nat.reduceEqDiff, Nat.reduceAdd, Nat.reduceMul, Nat.reduceSub, Nat.reduceLeDiff, Nat.reduceBEq, Int.reduceToNat, Int.reduceLE, Int.reduceLT, Int.reduceEq, Int.reduceNe, di0, di1, di2, di3, di4, di5, di6, di7, di8, di9, postX_ret, postX_normal, ex_some]
  refine calls_of (s_IndexOf hl) ?_; simp only [res148, ↓reduceIte, reduceCtorEq, Nat.reduceEqDiff, Nat.reduceAdd, Nat.reduceMul, Nat.reduceSub, Nat.reduceLeDiff, Nat.reduceBEq, Int.reduceToNat, Int.reduceLE, Int.reduceLT, Int.reduceEq, Int.reduceNe, di0, di1, di2, di3, di4, di5, di6, di7, di8, di9, postX_ret, postX_normal, ex_some]
  congr 2
  rw [Bool.eq_iff_iff, decide_eq_true_eq, idxF_any, decide_eq_true_eq]
  simp

def maxL : List Int → Int → Int
  | [], m => m
  | x :: r, m => maxL r (max m x)

theorem s_Max {l : List Int} (hl : l.length ≤ 1000000000) (h0 : l ≠ []) : Contract Try.prog 150 [.slc 1 (l.map (IV.int .i64))] (.int .i64 (maxL (l.drop 1) (l.getD 0 0))) := by
  have hpos : 0 < l.length := by cases l with | nil => exact (h0 rfl).elim | cons _ _ => simp
  refine contract_run Try.func150 k150 rfl ?_
  simp only [body150, b150, res150, b150k0, b150k1, b150k2, ↓reduceIte, reduceCtorEq, Nat.reduceEqDiff, Nat.reduceAdd, Nat.reduceMul, Nat.reduceSub, Nat.reduceLeDiff, Nat.reduceBEq, Int.reduceToNat, Int.reduceLE, Int.reduceLT, Int.reduceEq, Int.reduceNe, di0, di1, di2, di3, di4, di5, di6, di7, di8, di9, postX_ret, postX_normal, ex_some]
  rw [if_neg (by omega)]
  repeat (refine And.intro (by omega) ?_)
  refine loop_keep (α := Nat × Int) rfl (fun q => l.length - q.1) (fun q => 1 ≤ q.1 ∧ q.1 ≤ l.length ∧ maxL (l.drop q.1) q.2 = maxL (l.drop 1) (l.getD 0 0))
    (fun q => [(0, .imm (.slc 1 (l.map (IV.int .i64)))), (3, .imm (.int .i64 q.2)), (4, .imm (.int .i64 q.1))]) (fun _ => []) (1, l.getD 0 0) ⟨Nat.le_refl _, hpos, rfl⟩ (by simp only [↓reduceIte, reduceCtorEq, Nat.reduceEqDiff, Nat.reduceAdd, Nat.reduceMul, Nat.reduceSub, Nat.reduceLeDiff, Nat.reduceBEq, Int.reduceToNat, Int.reduceLE, Int.reduceLT, Int.reduceEq, Int.reduceNe, di0, di1, di2, di3, di4, di5, di6, di7, di8, di9, postX_ret, postX_normal, ex_some] <;> rfl) ?_
  rintro ⟨i, m⟩ ⟨hi1, hi, he⟩ ih
  dsimp only at hi1 hi he ⊢
  simp only [res150, b150k0, b150k1, b150k2, ↓reduceIte, reduceCtorEq, Nat.reduceEqDiff, Nat.reduceAdd, Nat.reduceMul, Nat.reduceSub, Nat.reduceLeDiff, Nat.reduceBEq, Int.reduceToNat, Int.reduceLE, Int.reduceLT, Int.reduceEq, Int.reduceNe, di0, di1, di2, di3, di4, di5, di6, di7, di8, di9, postX_ret, postX_normal, ex_some]
  split
  · rename_i h
    have hlt : i < l.length := by omega
    repeat (refine And.intro (by omega) ?_)
    rw [wrap64 (by omega) (by omega)]
    rw [getD_drop hlt] at he
    refine ih (i + 1, max m (l.getD i 0)) _ _ (by dsimp only; omega) ⟨by dsimp only; omega, by dsimp only; omega, he⟩ (by simp only [↓reduceIte, reduceCtorEq, Nat.reduceEqDiff, Nat.reduceAdd, Nat.reduceMul, Nat.reduceSub, Nat.reduceLeDiff, Nat.reduceBEq, Int.reduceToNat, Int.reduceLE, Int.reduceLT, Int.reduceEq, Int.reduceNe, di0, di1, di2, di3, di4, di5, di6, di7, di8, di9, postX_ret, postX_normal, ex_some] <;> rfl)
  · rename_i h
    have : i = l.length := by omega
    subst this
    rw [← he]
    simp [maxL]

/-- The same, while an iterator is at work. -/
theorem b_CloneY {l : List Int} (hl : l.length ≤ 1000000000) {n : Nat} {t : Todo} : BC Try.prog 105 [.imm (.slc 1 (l.map (IV.int .i64)))] (lookR [(0, .seq n t)]) fun r R' => (l = [] ∧ r = .cap0 1 [] ∧ R' = lookR [(0, .seq n t)]) ∨ (r = .own 1000 ∧ R' = lookR [(0, .seq n t), (1000, .tok 1 (l.map (IV.int .i64)))]) := by
  refine bc_run Try.func105 k2105 rfl rfl ?_
  simp only [body2105, b2105, res2105, b2105k0, ↓reduceIte, reduceCtorEq, Nat.reduceEqDiff, Nat.reduceAdd, Nat.reduceMul, Nat.reduceSub, Nat.reduceLeDiff, Nat.reduceBEq, Int.reduceToNat, Int.reduceLE, Int.reduceLT, Int.reduceEq, Int.reduceNe, di0, di1, di2, di3, di4, di5, di6, di7, di8, di9, postX_ret, postX_normal, ex_some]
  refine ⟨fun h => ?_, by omega, by omega, ?_⟩
  · rw [outD_one res2105, getD_tmp]
    exact ⟨_, rfl, rfl, .inl ⟨by simpa using h, rfl⟩⟩
  · refine run_ren rfl (by first | decide | rfl) (by first | decide | rfl) (by first | decide | rfl) ?_
    simp only [↓reduceIte, reduceCtorEq, Nat.reduceEqDiff, Nat.reduceAdd, Nat.reduceMul, Nat.reduceSub, Nat.reduceLeDiff, Nat.reduceBEq, Int.reduceToNat, Int.reduceLE, Int.reduceLT, Int.reduceEq, Int.reduceNe, di0, di1, di2, di3, di4, di5, di6, di7, di8, di9, postX_ret, postX_normal, ex_some]
    rw [outD_one res2105, getD_tmp]
    exact ⟨_, rfl, rfl, .inr rfl⟩

theorem s_Clone {l : List Int} (hl : l.length ≤ 1000000000) : Contract Try.prog 105 [.slc 1 (l.map (IV.int .i64))] (.slc 1 (l.map (IV.int .i64))) := by
  refine contract_run Try.func105 k105 rfl ?_
  simp only [body105, b105, res105, b105k0, ↓reduceIte, reduceCtorEq, Nat.reduceEqDiff, Nat.reduceAdd, Nat.reduceMul, Nat.reduceSub, Nat.reduceLeDiff, Nat.reduceBEq, Int.reduceToNat, Int.reduceLE, Int.reduceLT, Int.reduceEq, Int.reduceNe, di0, di1, di2, di3, di4, di5, di6, di7, di8, di9, postX_ret, postX_normal, ex_some]
  exact ⟨fun h => by rw [h], by omega, by omega⟩

def changeErr (n : Int) : Int := fstE (if Wi n (-1000) 1000 then 0 else 2) (if n ≠ 0 then 0 else 11)
/-- The first odd change. -/
def scanC : List Int → Nat → Option (Int × Int)
  | [], _ => none
  | n :: r, i => if changeErr n = 0 then scanC r (i + 1) else some (i, changeErr n)
def lenE (n : Nat) : Int := if n ≤ 4 then 0 else 8
theorem lenE_zero {n : Nat} : lenE n = 0 ↔ n ≤ 4 := by
  unfold lenE
  by_cases h : n ≤ 4 <;> simp [h]
def planE (p : Pl) : Int × Int :=
  if fstE (loadErr p.load) (lenE p.ch.length) = 0 then
    match scanC p.ch 0 with
    | some q => q
    | none => (0, if Wi p.wait 1 20 ∧ Wi p.ticks 1 200 then 0 else 2)
  else (0, fstE (loadErr p.load) (lenE p.ch.length))

theorem scanC_cons {n : Int} {r : List Int} {i : Nat} : scanC (n :: r) i = if changeErr n = 0 then scanC r (i + 1) else some ((i : Int), changeErr n) := rfl
theorem scanC_none : ∀ {l : List Int} {i : Nat}, scanC l i = none ↔ ∀ n ∈ l, (-1000 ≤ n ∧ n ≤ 1000) ∧ n ≠ 0
  | [], i => by simp [scanC]
  | n :: r, i => by
    have ih := scanC_none (l := r) (i := i + 1)
    have hc : changeErr n = 0 ↔ (-1000 ≤ n ∧ n ≤ 1000) ∧ n ≠ 0 := by
      unfold changeErr Wi
      rw [fstE_zero]
      by_cases h1 : -1000 ≤ n ∧ n ≤ 1000 <;> by_cases h2 : n = 0 <;> simp [h1, h2]
    unfold scanC
    by_cases h : changeErr n = 0
    · rw [if_pos h, ih]; simp [hc.1 h]
    · rw [if_neg h]
      constructor
      · intro k; cases k
      · intro k; exact (h (hc.2 (k n (by simp)))).elim
theorem scanC_some : ∀ {l : List Int} {i : Nat} {q : Int × Int}, scanC l i = some q → q.2 ≠ 0
  | [], i, q, h => by simp [scanC] at h
  | n :: r, i, q, h => by
    unfold scanC at h
    split at h
    · exact scanC_some h
    · rename_i h2; cases h; exact h2

/-- A valid plan. -/
structure PlanOk (p : Pl) : Prop where
  load : 0 ≤ p.load ∧ p.load ≤ 1000
  len : p.ch.length ≤ 4
  ch : ∀ n ∈ p.ch, (-1000 ≤ n ∧ n ≤ 1000) ∧ n ≠ 0
  wait : 1 ≤ p.wait ∧ p.wait ≤ 20
  ticks : 1 ≤ p.ticks ∧ p.ticks ≤ 200

theorem planE_zero {p : Pl} : (planE p).2 = 0 ↔ PlanOk p := by
  unfold planE
  split
  · rename_i h
    rw [fstE_zero, loadErr_zero, lenE_zero] at h
    have hlen := h.2
    split
    · rename_i q hq
      constructor
      · intro k; exact (scanC_some hq k).elim
      · intro k
        have := (scanC_none (l := p.ch) (i := 0)).2 k.ch
        rw [hq] at this; cases this
    · rename_i hq
      constructor
      · intro k
        by_cases hw : Wi p.wait 1 20 ∧ Wi p.ticks 1 200
        · exact ⟨h.1, hlen, scanC_none.1 hq, hw.1, hw.2⟩
        · rw [if_neg hw] at k; cases k
      · intro k
        rw [if_pos ⟨k.wait, k.ticks⟩]
  · rename_i h
    constructor
    · intro k; exact (h k).elim
    · intro k
      exfalso; apply h
      rw [fstE_zero, loadErr_zero, lenE_zero]
      exact ⟨k.load, k.len⟩

theorem s_planErr {p : Pl} (hl : p.ch.length ≤ 1000000000) : Contract Try.prog 108 [spI p] (.tup [.int .i64 (planE p).1, .int .i64 (planE p).2]) := by
  refine contract_run Try.func108 k108 rfl ?_
  simp only [body108, b108, res108, b108k0, b108k1, b108k2, b108k3, ruI, ssI, sbI, spI, swI, scI, stI, srI, saI, snI, ↓reduceIte, reduceCtorEq, Nat.reduceEqDiff, Nat.reduceAdd, Nat.reduceMul, Nat.reduceSub, Nat.reduceLeDiff, Nat.reduceBEq, Int.reduceToNat, Int.reduceLE, Int.reduceLT, Int.reduceEq, Int.reduceNe, di0, di1, di2, di3, di4, di5, di6, di7, di8, di9, postX_ret, postX_normal, ex_some]
  refine calls_of s_loadErr ?_; simp only [ruI, ssI, sbI, spI, swI, scI, stI, srI, saI, snI, res108, b108k0, b108k1, b108k2, b108k3, ↓reduceIte, reduceCtorEq, Nat.reduceEqDiff, Nat.reduceAdd, Nat.reduceMul, Nat.reduceSub, Nat.reduceLeDiff, Nat.reduceBEq, Int.reduceToNat, Int.reduceLE, Int.reduceLT, Int.reduceEq, Int.reduceNe, di0, di1, di2, di3, di4, di5, di6, di7, di8, di9, postX_ret, postX_normal, ex_some]
  refine calls_of s_unless ?_; simp only [ruI, ssI, sbI, spI, swI, scI, stI, srI, saI, snI, res108, b108k0, b108k1, b108k2, b108k3, ↓reduceIte, reduceCtorEq, Nat.reduceEqDiff, Nat.reduceAdd, Nat.reduceMul, Nat.reduceSub, Nat.reduceLeDiff, Nat.reduceBEq, Int.reduceToNat, Int.reduceLE, Int.reduceLT, Int.reduceEq, Int.reduceNe, di0, di1, di2, di3, di4, di5, di6, di7, di8, di9, postX_ret, postX_normal, ex_some]
  refine calls_of (s_first (l := [loadErr p.load, if (p.ch.length : Int) ≤ 4 then 0 else 8]) (by simp)) ?_; simp only [ruI, ssI, sbI, spI, swI, scI, stI, srI, saI, snI, res108, b108k0, b108k1, b108k2, b108k3, ↓reduceIte, reduceCtorEq, Nat.reduceEqDiff, Nat.reduceAdd, Nat.reduceMul, Nat.reduceSub, Nat.reduceLeDiff, Nat.reduceBEq, Int.reduceToNat, Int.reduceLE, Int.reduceLT, Int.reduceEq, Int.reduceNe, di0, di1, di2, di3, di4, di5, di6, di7, di8, di9, postX_ret, postX_normal, ex_some]
  rw [firstNZ_two]
  have e4 : (if (p.ch.length : Int) ≤ 4 then (0 : Int) else 8) = lenE p.ch.length := by
    unfold lenE
    by_cases h : p.ch.length ≤ 4
    · rw [if_pos h, if_pos (by omega)]
    · rw [if_neg h, if_neg (by omega)]
  rw [e4]
  split
  · rename_i h0
    refine loop_keep (α := Nat) rfl (fun i => p.ch.length - i) (fun i => i ≤ p.ch.length ∧ scanC p.ch 0 = scanC (p.ch.drop i) i)
      (fun i => [(1, .ref 1 0), (22, .imm (snI p.ch)), (23, .imm (.int .i64 p.ch.length)), (24, .imm (.int .i64 i))]) (fun _ => [(1, .box [.imm (.int .i64 p.load), .imm (snI p.ch), .imm (.int .i64 p.wait), .imm (.int .i64 p.ticks)])]) 0 ⟨Nat.zero_le _, rfl⟩ (by simp only [ruI, ssI, sbI, spI, swI, scI, stI, srI, saI, snI, ↓reduceIte, reduceCtorEq, Nat.reduceEqDiff, Nat.reduceAdd, Nat.reduceMul, Nat.reduceSub, Nat.reduceLeDiff, Nat.reduceBEq, Int.reduceToNat, Int.reduceLE, Int.reduceLT, Int.reduceEq, Int.reduceNe, di0, di1, di2, di3, di4, di5, di6, di7, di8, di9, postX_ret, postX_normal, ex_some] <;> rfl) ?_
    intro i ⟨hi, he⟩ ih
    simp only [res108, b108k0, b108k1, b108k2, b108k3, ruI, ssI, sbI, spI, swI, scI, stI, srI, saI, snI, ↓reduceIte, reduceCtorEq, Nat.reduceEqDiff, Nat.reduceAdd, Nat.reduceMul, Nat.reduceSub, Nat.reduceLeDiff, Nat.reduceBEq, Int.reduceToNat, Int.reduceLE, Int.reduceLT, Int.reduceEq, Int.reduceNe, di0, di1, di2, di3, di4, di5, di6, di7, di8, di9, postX_ret, postX_normal, ex_some]
    split
    · rename_i h
      have hlt : i < p.ch.length := by omega
      rw [getD_drop hlt] at he
      generalize p.ch.getD i 0 = x at he
      repeat (refine And.intro (by omega) ?_)
      refine calls_of s_within ?_; simp only [ruI, ssI, sbI, spI, swI, scI, stI, srI, saI, snI, res108, b108k0, b108k1, b108k2, b108k3, ↓reduceIte, reduceCtorEq, Nat.reduceEqDiff, Nat.reduceAdd, Nat.reduceMul, Nat.reduceSub, Nat.reduceLeDiff, Nat.reduceBEq, Int.reduceToNat, Int.reduceLE, Int.reduceLT, Int.reduceEq, Int.reduceNe, di0, di1, di2, di3, di4, di5, di6, di7, di8, di9, postX_ret, postX_normal, ex_some]
      refine calls_of s_unless ?_; simp only [ruI, ssI, sbI, spI, swI, scI, stI, srI, saI, snI, res108, b108k0, b108k1, b108k2, b108k3, ↓reduceIte, reduceCtorEq, Nat.reduceEqDiff, Nat.reduceAdd, Nat.reduceMul, Nat.reduceSub, Nat.reduceLeDiff, Nat.reduceBEq, Int.reduceToNat, Int.reduceLE, Int.reduceLT, Int.reduceEq, Int.reduceNe, di0, di1, di2, di3, di4, di5, di6, di7, di8, di9, postX_ret, postX_normal, ex_some]
      refine calls_of s_unless ?_; simp only [ruI, ssI, sbI, spI, swI, scI, stI, srI, saI, snI, res108, b108k0, b108k1, b108k2, b108k3, ↓reduceIte, reduceCtorEq, Nat.reduceEqDiff, Nat.reduceAdd, Nat.reduceMul, Nat.reduceSub, Nat.reduceLeDiff, Nat.reduceBEq, Int.reduceToNat, Int.reduceLE, Int.reduceLT, Int.reduceEq, Int.reduceNe, di0, di1, di2, di3, di4, di5, di6, di7, di8, di9, postX_ret, postX_normal, ex_some]
      refine calls_of (s_first (l := [if Wi x (-1000) 1000 then 0 else 2, if x ≠ 0 then 0 else 11]) (by simp)) ?_; simp only [ruI, ssI, sbI, spI, swI, scI, stI, srI, saI, snI, res108, b108k0, b108k1, b108k2, b108k3, ↓reduceIte, reduceCtorEq, Nat.reduceEqDiff, Nat.reduceAdd, Nat.reduceMul, Nat.reduceSub, Nat.reduceLeDiff, Nat.reduceBEq, Int.reduceToNat, Int.reduceLE, Int.reduceLT, Int.reduceEq, Int.reduceNe, di0, di1, di2, di3, di4, di5, di6, di7, di8, di9, postX_ret, postX_normal, ex_some]
      rw [firstNZ_two]
      show (if changeErr x = 0 then _ else _)
      rw [scanC_cons] at he
      split
      · rename_i h2
        rw [if_pos h2] at he
        rw [wrap64 (by omega) (by omega)]
        refine ih (i + 1) _ _ (by omega) ⟨by omega, he⟩ (by simp only [ruI, ssI, sbI, spI, swI, scI, stI, srI, saI, snI, ↓reduceIte, reduceCtorEq, Nat.reduceEqDiff, Nat.reduceAdd, Nat.reduceMul, Nat.reduceSub, Nat.reduceLeDiff, Nat.reduceBEq, Int.reduceToNat, Int.reduceLE, Int.reduceLT, Int.reduceEq, Int.reduceNe, di0, di1, di2, di3, di4, di5, di6, di7, di8, di9, postX_ret, postX_normal, ex_some] <;> rfl)
      · rename_i h2
        rw [if_neg h2] at he
        have hp : planE p = ((i : Int), changeErr x) := by unfold planE; rw [if_pos h0, he]
        rw [hp]; rfl
    · rename_i h
      have : i = p.ch.length := by omega
      subst this
      simp only [List.drop_length, scanC] at he
      have hp : planE p = (0, if Wi p.wait 1 20 ∧ Wi p.ticks 1 200 then 0 else 2) := by unfold planE; rw [if_pos h0, he]
      rw [hp]
      refine calls_of s_within ?_; simp only [ruI, ssI, sbI, spI, swI, scI, stI, srI, saI, snI, res108, b108k0, b108k1, b108k2, b108k3, ↓reduceIte, reduceCtorEq, Nat.reduceEqDiff, Nat.reduceAdd, Nat.reduceMul, Nat.reduceSub, Nat.reduceLeDiff, Nat.reduceBEq, Int.reduceToNat, Int.reduceLE, Int.reduceLT, Int.reduceEq, Int.reduceNe, di0, di1, di2, di3, di4, di5, di6, di7, di8, di9, postX_ret, postX_normal, ex_some]
      split
      · rename_i h1
        refine calls_of s_within ?_; simp only [ruI, ssI, sbI, spI, swI, scI, stI, srI, saI, snI, res108, b108k0, b108k1, b108k2, b108k3, ↓reduceIte, reduceCtorEq, Nat.reduceEqDiff, Nat.reduceAdd, Nat.reduceMul, Nat.reduceSub, Nat.reduceLeDiff, Nat.reduceBEq, Int.reduceToNat, Int.reduceLE, Int.reduceLT, Int.reduceEq, Int.reduceNe, di0, di1, di2, di3, di4, di5, di6, di7, di8, di9, postX_ret, postX_normal, ex_some]
        refine calls_of s_unless ?_; simp only [ruI, ssI, sbI, spI, swI, scI, stI, srI, saI, snI, res108, b108k0, b108k1, b108k2, b108k3, ↓reduceIte, reduceCtorEq, Nat.reduceEqDiff, Nat.reduceAdd, Nat.reduceMul, Nat.reduceSub, Nat.reduceLeDiff, Nat.reduceBEq, Int.reduceToNat, Int.reduceLE, Int.reduceLT, Int.reduceEq, Int.reduceNe, di0, di1, di2, di3, di4, di5, di6, di7, di8, di9, postX_ret, postX_normal, ex_some]
        simp [h1]
      · rename_i h1
        refine calls_of s_unless ?_; simp only [ruI, ssI, sbI, spI, swI, scI, stI, srI, saI, snI, res108, b108k0, b108k1, b108k2, b108k3, ↓reduceIte, reduceCtorEq, Nat.reduceEqDiff, Nat.reduceAdd, Nat.reduceMul, Nat.reduceSub, Nat.reduceLeDiff, Nat.reduceBEq, Int.reduceToNat, Int.reduceLE, Int.reduceLT, Int.reduceEq, Int.reduceNe, di0, di1, di2, di3, di4, di5, di6, di7, di8, di9, postX_ret, postX_normal, ex_some]
        rw [if_neg (fun k => h1 k.1)]
  · rename_i h0
    have hp : planE p = (0, fstE (loadErr p.load) (lenE p.ch.length)) := by unfold planE; rw [if_neg h0]
    rw [hp]

def planEr (r : Ru) (p : Pl) : Int × Int := if rulesErr r = 0 then planE p else (0, rulesErr r)
theorem planEr_zero {r : Ru} {p : Pl} : (planEr r p).2 = 0 ↔ Sg.Good r ∧ PlanOk p := by
  unfold planEr
  by_cases h : rulesErr r = 0
  · rw [if_pos h, planE_zero, ← rules_ok]; simp [h]
  · rw [if_neg h, ← rules_ok]; simp [h]

theorem s_CheckPlan {r : Ru} {p : Pl} (hl : p.ch.length ≤ 1000000000) : Contract Try.prog 40 [ruI r, spI p] (.tup [.int .i64 (planEr r p).1, .int .i64 (planEr r p).2]) := by
  refine contract_run Try.func40 k40 rfl ?_
  simp only [body40, b40, res40, b40k0, ruI, ssI, sbI, spI, swI, scI, stI, srI, saI, snI, ↓reduceIte, reduceCtorEq, Nat.reduceEqDiff, Nat.reduceAdd, Nat.reduceMul, Nat.reduceSub, Nat.reduceLeDiff, Nat.reduceBEq, Int.reduceToNat, Int.reduceLE, Int.reduceLT, Int.reduceEq, Int.reduceNe, di0, di1, di2, di3, di4, di5, di6, di7, di8, di9, postX_ret, postX_normal, ex_some]
  refine calls_of s_CheckRules ?_; simp only [ruI, ssI, sbI, spI, swI, scI, stI, srI, saI, snI, res40, b40k0, ↓reduceIte, reduceCtorEq, Nat.reduceEqDiff, Nat.reduceAdd, Nat.reduceMul, Nat.reduceSub, Nat.reduceLeDiff, Nat.reduceBEq, Int.reduceToNat, Int.reduceLE, Int.reduceLT, Int.reduceEq, Int.reduceNe, di0, di1, di2, di3, di4, di5, di6, di7, di8, di9, postX_ret, postX_normal, ex_some]
  unfold planEr
  split
  · rename_i h
    refine calls_of (s_planErr hl) ?_; simp only [ruI, ssI, sbI, spI, swI, scI, stI, srI, saI, snI, res40, b40k0, ↓reduceIte, reduceCtorEq, Nat.reduceEqDiff, Nat.reduceAdd, Nat.reduceMul, Nat.reduceSub, Nat.reduceLeDiff, Nat.reduceBEq, Int.reduceToNat, Int.reduceLE, Int.reduceLT, Int.reduceEq, Int.reduceNe, di0, di1, di2, di3, di4, di5, di6, di7, di8, di9, postX_ret, postX_normal, ex_some]
  · rfl

theorem s_open {r : Ru} {p : Pl} (hl : p.ch.length ≤ 1000000000) : Contract Try.prog 99 [ruI r, spI p] (.tup [saI (r, p), .int .i64 (planEr r p).2]) := by
  refine contract_run Try.func99 k99 rfl ?_
  simp only [body99, b99, res99, ruI, ssI, sbI, spI, swI, scI, stI, srI, saI, snI, ↓reduceIte, reduceCtorEq, Nat.reduceEqDiff, Nat.reduceAdd, Nat.reduceMul, Nat.reduceSub, Nat.reduceLeDiff, Nat.reduceBEq, Int.reduceToNat, Int.reduceLE, Int.reduceLT, Int.reduceEq, Int.reduceNe, di0, di1, di2, di3, di4, di5, di6, di7, di8, di9, postX_ret, postX_normal, ex_some]
  refine calls_of (s_CheckPlan hl) ?_; simp only [ruI, ssI, sbI, spI, swI, scI, stI, srI, saI, snI, res99, ↓reduceIte, reduceCtorEq, Nat.reduceEqDiff, Nat.reduceAdd, Nat.reduceMul, Nat.reduceSub, Nat.reduceLeDiff, Nat.reduceBEq, Int.reduceToNat, Int.reduceLE, Int.reduceLT, Int.reduceEq, Int.reduceNe, di0, di1, di2, di3, di4, di5, di6, di7, di8, di9, postX_ret, postX_normal, ex_some]

def nth (ch : List Int) (i : Int) : Int := ch.getD i.toNat 0
/-- The load stays within its limits. -/
def permL (ch : List Int) : Int → List Int → Bool
  | _, [] => true
  | load, i :: r => decide (Wi (load + nth ch i) 0 1000) && permL ch (load + nth ch i) r

theorem permL_cons {ch : List Int} {load i : Int} {r : List Int} : permL ch load (i :: r) = (decide (Wi (load + nth ch i) 0 1000) && permL ch (load + nth ch i) r) := rfl
theorem nth_bd {p : Pl} (hp : PlanOk p) (i : Int) : -1000 ≤ nth p.ch i ∧ nth p.ch i ≤ 1000 := by
  unfold nth
  rw [List.getD_eq_getElem?_getD]
  cases h : p.ch[i.toNat]? with
  | none => simp
  | some x => exact (hp.ch x (List.mem_of_getElem? h)).1

def Idx (p : Pl) (o : List Int) : Prop := o.length ≤ 1000000000 ∧ ∀ i ∈ o, 0 ≤ i ∧ i < p.ch.length

theorem s_isPermitted {r : Ru} {p : Pl} {o : List Int} (hp : PlanOk p) (ho : Idx p o) : Contract Try.prog 149 [saI (r, p), snI o] (.bool (permL p.ch p.load o)) := by
  have hpl := hp.load
  have hol := ho.1
  refine contract_run Try.func149 k149 rfl ?_
  simp only [body149, b149, res149, b149k0, b149k1, b149k2, ruI, ssI, sbI, spI, swI, scI, stI, srI, saI, snI, ↓reduceIte, reduceCtorEq, Nat.reduceEqDiff, Nat.reduceAdd, Nat.reduceMul, Nat.reduceSub, Nat.reduceLeDiff, Nat.reduceBEq, Int.reduceToNat, Int.reduceLE, Int.reduceLT, Int.reduceEq, Int.reduceNe, di0, di1, di2, di3, di4, di5, di6, di7, di8, di9, postX_ret, postX_normal, ex_some]
  refine loop_keep (α := Nat × Int) rfl (fun q => o.length - q.1) (fun q => q.1 ≤ o.length ∧ (0 ≤ q.2 ∧ q.2 ≤ 1000) ∧ permL p.ch p.load o = permL p.ch q.2 (o.drop q.1))
    (fun q => [(2, .ref 2 0), (5, .imm (.int .i64 q.2)), (11, .imm (snI o)), (12, .imm (.int .i64 o.length)), (13, .imm (.int .i64 q.1))])
    (fun _ => [(2, .box [.imm (.int .i64 r.I), .imm (.int .i64 r.A), .imm (.int .i64 r.lo), .imm (.int .i64 r.hi), .imm (.int .i64 r.T), .imm (.int .i64 p.load), .imm (snI p.ch), .imm (.int .i64 p.wait), .imm (.int .i64 p.ticks)])]) (0, p.load) ⟨Nat.zero_le _, hp.load, rfl⟩ (by simp only [ruI, ssI, sbI, spI, swI, scI, stI, srI, saI, snI, ↓reduceIte, reduceCtorEq, Nat.reduceEqDiff, Nat.reduceAdd, Nat.reduceMul, Nat.reduceSub, Nat.reduceLeDiff, Nat.reduceBEq, Int.reduceToNat, Int.reduceLE, Int.reduceLT, Int.reduceEq, Int.reduceNe, di0, di1, di2, di3, di4, di5, di6, di7, di8, di9, postX_ret, postX_normal, ex_some] <;> rfl) ?_
  rintro ⟨i, load⟩ ⟨hi, hb, he⟩ ih
  dsimp only at hi hb he ⊢
  simp only [res149, b149k0, b149k1, b149k2, ruI, ssI, sbI, spI, swI, scI, stI, srI, saI, snI, ↓reduceIte, reduceCtorEq, Nat.reduceEqDiff, Nat.reduceAdd, Nat.reduceMul, Nat.reduceSub, Nat.reduceLeDiff, Nat.reduceBEq, Int.reduceToNat, Int.reduceLE, Int.reduceLT, Int.reduceEq, Int.reduceNe, di0, di1, di2, di3, di4, di5, di6, di7, di8, di9, postX_ret, postX_normal, ex_some]
  split
  · rename_i h
    have hlt : i < o.length := by omega
    have hx := ho.2 _ (getD_mem hlt)
    rw [getD_drop hlt] at he
    generalize o.getD i 0 = x at hx he
    have hn := nth_bd hp x
    repeat (refine And.intro (by omega) ?_)
    rw [show p.ch.getD x.toNat 0 = nth p.ch x from rfl]
    rw [show IntKind.wrap .i64 (load + nth p.ch x) = load + nth p.ch x from wrap64 (by omega) (by omega)]
    refine calls_of s_isLoad ?_; simp only [ruI, ssI, sbI, spI, swI, scI, stI, srI, saI, snI, res149, b149k0, b149k1, b149k2, ↓reduceIte, reduceCtorEq, Nat.reduceEqDiff, Nat.reduceAdd, Nat.reduceMul, Nat.reduceSub, Nat.reduceLeDiff, Nat.reduceBEq, Int.reduceToNat, Int.reduceLE, Int.reduceLT, Int.reduceEq, Int.reduceNe, di0, di1, di2, di3, di4, di5, di6, di7, di8, di9, postX_ret, postX_normal, ex_some]
    rw [permL_cons] at he
    by_cases h2 : Wi (load + nth p.ch x) 0 1000
    · simp only [h2, decide_true, Bool.true_and] at he
      simp only [h2, decide_true, ruI, ssI, sbI, spI, swI, scI, stI, srI, saI, snI, ↓reduceIte, reduceCtorEq, Nat.reduceEqDiff, Nat.reduceAdd, Nat.reduceMul, Nat.reduceSub, Nat.reduceLeDiff, Nat.reduceBEq, Int.reduceToNat, Int.reduceLE, Int.reduceLT, Int.reduceEq, Int.reduceNe, di0, di1, di2, di3, di4, di5, di6, di7, di8, di9, postX_ret, postX_normal, ex_some]
      rw [wrap64 (by omega) (by omega)]
      refine ih (i + 1, load + nth p.ch x) _ _ (by dsimp only; omega) ⟨by dsimp only; omega, h2, he⟩ (by simp only [ruI, ssI, sbI, spI, swI, scI, stI, srI, saI, snI, ↓reduceIte, reduceCtorEq, Nat.reduceEqDiff, Nat.reduceAdd, Nat.reduceMul, Nat.reduceSub, Nat.reduceLeDiff, Nat.reduceBEq, Int.reduceToNat, Int.reduceLE, Int.reduceLT, Int.reduceEq, Int.reduceNe, di0, di1, di2, di3, di4, di5, di6, di7, di8, di9, postX_ret, postX_normal, ex_some] <;> rfl)
    · simp only [h2, decide_false, Bool.false_and] at he
      simp only [h2, decide_false, ruI, ssI, sbI, spI, swI, scI, stI, srI, saI, snI, ↓reduceIte, reduceCtorEq, Nat.reduceEqDiff, Nat.reduceAdd, Nat.reduceMul, Nat.reduceSub, Nat.reduceLeDiff, Nat.reduceBEq, Int.reduceToNat, Int.reduceLE, Int.reduceLT, Int.reduceEq, Int.reduceNe, di0, di1, di2, di3, di4, di5, di6, di7, di8, di9, postX_ret, postX_normal, ex_some]
      rw [he]
  · rename_i h
    have : i = o.length := by omega
    subst this
    rw [he]
    simp [permL]

/-- The loads of an order, from a tick on. -/
def loadsF (p : Pl) (o : List Int) : Nat → Int → Int → List Int
  | 0, _, _ => []
  | m + 1, t, load => (if t.tmod p.wait = 0 ∧ t.tdiv p.wait < o.length then load + nth p.ch (nth o (t.tdiv p.wait)) else load) ::
      loadsF p o m (t + 1) (if t.tmod p.wait = 0 ∧ t.tdiv p.wait < o.length then load + nth p.ch (nth o (t.tdiv p.wait)) else load)
def loadsP (p : Pl) (o : List Int) : List Int := loadsF p o p.ticks.toNat 0 p.load
theorem loadsF_length {p : Pl} {o : List Int} : ∀ (m : Nat) (t load : Int), (loadsF p o m t load).length = m
  | 0, _, _ => rfl
  | m + 1, t, load => by simp [loadsF, loadsF_length m]

theorem s_loads {r : Ru} {p : Pl} {o : List Int} (hp : PlanOk p) (ho : Idx p o) : Contract Try.prog 103 [saI (r, p), snI o] (snI (loadsP p o)) := by
  have hpl := hp.load
  have hw := hp.wait
  have ht := hp.ticks
  have hol := ho.1
  refine contract_run Try.func103 k103 rfl ?_
  simp only [body103, b103, res103, b103k0, b103k1, b103k2, b103k3, ruI, ssI, sbI, spI, swI, scI, stI, srI, saI, snI, ↓reduceIte, reduceCtorEq, Nat.reduceEqDiff, Nat.reduceAdd, Nat.reduceMul, Nat.reduceSub, Nat.reduceLeDiff, Nat.reduceBEq, Int.reduceToNat, Int.reduceLE, Int.reduceLT, Int.reduceEq, Int.reduceNe, di0, di1, di2, di3, di4, di5, di6, di7, di8, di9, postX_ret, postX_normal, ex_some]
  refine loop_keep (α := Nat × Int × List Int) rfl (fun q => p.ticks.toNat - q.1) (fun q => (q.1 : Int) ≤ p.ticks ∧ (-1000 * (q.1 : Int) ≤ q.2.1 ∧ q.2.1 ≤ 1000 + 1000 * (q.1 : Int)) ∧ q.2.2.length = q.1 ∧ q.2.2 ++ loadsF p o (p.ticks.toNat - q.1) q.1 q.2.1 = loadsP p o)
    (fun q => [(1, .imm (snI o)), (2, .ref 2 0), (5, .imm (.int .i64 q.2.1)), (6, .own 6), (14, .imm (.int .i64 p.ticks)), (15, .imm (.int .i64 q.1))])
    (fun q => [(2, .box [.imm (.int .i64 r.I), .imm (.int .i64 r.A), .imm (.int .i64 r.lo), .imm (.int .i64 r.hi), .imm (.int .i64 r.T), .imm (.int .i64 p.load), .imm (snI p.ch), .imm (.int .i64 p.wait), .imm (.int .i64 p.ticks)]), (6, .tok 1 (q.2.2.map (IV.int .i64)))]) (0, p.load, []) ⟨by simp; omega, by simp; omega, rfl, by simp [loadsP]⟩ (by simp only [ruI, ssI, sbI, spI, swI, scI, stI, srI, saI, snI, ↓reduceIte, reduceCtorEq, Nat.reduceEqDiff, Nat.reduceAdd, Nat.reduceMul, Nat.reduceSub, Nat.reduceLeDiff, Nat.reduceBEq, Int.reduceToNat, Int.reduceLE, Int.reduceLT, Int.reduceEq, Int.reduceNe, di0, di1, di2, di3, di4, di5, di6, di7, di8, di9, postX_ret, postX_normal, ex_some] <;> rfl) ?_
  rintro ⟨i, load, out⟩ ⟨hi, hb, hlen, he⟩ ih
  dsimp only at hi hb hlen he ⊢
  simp only [res103, b103k0, b103k1, b103k2, b103k3, ruI, ssI, sbI, spI, swI, scI, stI, srI, saI, snI, ↓reduceIte, reduceCtorEq, Nat.reduceEqDiff, Nat.reduceAdd, Nat.reduceMul, Nat.reduceSub, Nat.reduceLeDiff, Nat.reduceBEq, Int.reduceToNat, Int.reduceLE, Int.reduceLT, Int.reduceEq, Int.reduceNe, di0, di1, di2, di3, di4, di5, di6, di7, di8, di9, postX_ret, postX_normal, ex_some]
  split
  · rename_i h
    have hm : p.ticks.toNat - i = (p.ticks.toNat - (i + 1)) + 1 := by omega
    rw [hm] at he
    unfold loadsF at he
    have hj : 0 ≤ (i : Int).tdiv p.wait := Int.tdiv_nonneg (by omega) (by omega)
    have hj2 : (i : Int).tdiv p.wait ≤ 1000 := by
      have := Int.natAbs_tdiv_le_natAbs (i : Int) p.wait
      omega
    generalize hjj : (i : Int).tdiv p.wait = j at hj hj2 he
    repeat (refine And.intro (by omega) ?_)
    rw [show IntKind.wrap .i64 j = j from wrap64 (by omega) (by omega)]
    by_cases hc : (i : Int).tmod p.wait = 0 ∧ j < (o.length : Int)
    · rw [if_pos hc]
      rw [if_pos hc] at he
      have hjm : o.getD j.toNat 0 ∈ o := getD_mem (by omega)
      have hx := ho.2 _ hjm
      rw [show nth o j = o.getD j.toNat 0 from rfl] at he
      generalize o.getD j.toNat 0 = x at hx he
      have hn := nth_bd hp x
      rw [show p.ch.getD x.toNat 0 = nth p.ch x from rfl]
      repeat (refine And.intro (by omega) ?_)
      rw [show IntKind.wrap .i64 (load + nth p.ch x) = load + nth p.ch x from wrap64 (by omega) (by omega)]
      rw [wrap64 (by omega) (by omega)]
      refine ih (i + 1, load + nth p.ch x, out ++ [load + nth p.ch x]) _ _ (by dsimp only; omega) ⟨by dsimp only; omega, by dsimp only; omega, by simp [hlen], ?_⟩ (by simp only [ruI, ssI, sbI, spI, swI, scI, stI, srI, saI, snI, ↓reduceIte, reduceCtorEq, Nat.reduceEqDiff, Nat.reduceAdd, Nat.reduceMul, Nat.reduceSub, Nat.reduceLeDiff, Nat.reduceBEq, Int.reduceToNat, Int.reduceLE, Int.reduceLT, Int.reduceEq, Int.reduceNe, di0, di1, di2, di3, di4, di5, di6, di7, di8, di9, postX_ret, postX_normal, ex_some] <;> rfl)
      dsimp only
      rw [← he]
      simp
    · rw [if_neg hc]
      rw [if_neg hc] at he
      repeat (refine And.intro (by omega) ?_)
      rw [wrap64 (by omega) (by omega)]
      refine ih (i + 1, load, out ++ [load]) _ _ (by dsimp only; omega) ⟨by dsimp only; omega, by dsimp only; omega, by simp [hlen], ?_⟩ (by simp only [ruI, ssI, sbI, spI, swI, scI, stI, srI, saI, snI, ↓reduceIte, reduceCtorEq, Nat.reduceEqDiff, Nat.reduceAdd, Nat.reduceMul, Nat.reduceSub, Nat.reduceLeDiff, Nat.reduceBEq, Int.reduceToNat, Int.reduceLE, Int.reduceLT, Int.reduceEq, Int.reduceNe, di0, di1, di2, di3, di4, di5, di6, di7, di8, di9, postX_ret, postX_normal, ex_some] <;> rfl)
      dsimp only
      rw [← he]
      simp
  · rename_i h
    rw [show p.ticks.toNat - i = 0 by omega] at he
    simp only [loadsF, List.append_nil] at he
    rw [he]

def idxErr (p : Pl) (o : List Int) (i : Nat) : Int := fstE (if Wi (o.getD i 0) 0 ((p.ch.length : Int) - 1) then 0 else 6) (if o.getD i 0 ∈ o.take i then 23 else 0)
def scanO (p : Pl) (o : List Int) : Nat → Nat → Int
  | 0, _ => 0
  | m + 1, i => if idxErr p o i = 0 then scanO p o m (i + 1) else idxErr p o i
def orderE (p : Pl) (o : List Int) : Int :=
  if o.length ≠ p.ch.length then 10 else if scanO p o o.length 0 = 0 then (if permL p.ch p.load o then 0 else 24) else scanO p o o.length 0

theorem scanO_succ {p : Pl} {o : List Int} {m i : Nat} : scanO p o (m + 1) i = if idxErr p o i = 0 then scanO p o m (i + 1) else idxErr p o i := rfl
theorem scanO_zero {p : Pl} {o : List Int} : ∀ {m i : Nat}, scanO p o m i = 0 ↔ ∀ k, i ≤ k → k < i + m → idxErr p o k = 0
  | 0, i => by simp [scanO]; intro k h1 h2; omega
  | m + 1, i => by
    have ih := scanO_zero (p := p) (o := o) (m := m) (i := i + 1)
    unfold scanO
    by_cases h : idxErr p o i = 0
    · rw [if_pos h, ih]
      constructor
      · intro k j h1 h2
        by_cases e : j = i
        · subst e; exact h
        · exact k j (by omega) (by omega)
      · intro k j h1 h2; exact k j (by omega) (by omega)
    · rw [if_neg h]
      constructor
      · intro k; exact (h k).elim
      · intro k; exact (h (k i (by omega) (by omega))).elim

theorem orderE_idx {p : Pl} {o : List Int} (hp : PlanOk p) (hl : o.length = p.ch.length) (h : scanO p o o.length 0 = 0) : Idx p o := by
  refine ⟨by have := hp.len; omega, fun x hx => ?_⟩
  obtain ⟨i, hi⟩ := List.getElem?_of_mem hx
  have hlt := (List.getElem?_eq_some_iff.1 hi).1
  have h1 := scanO_zero.1 h i (by omega) (by omega)
  unfold idxErr at h1
  rw [fstE_zero] at h1
  have hg : o.getD i 0 = x := by rw [List.getD_eq_getElem?_getD, hi]; rfl
  rw [hg] at h1
  by_cases hw : Wi x 0 ((p.ch.length : Int) - 1)
  · unfold Wi at hw; omega
  · rw [if_neg hw] at h1; cases h1.1

theorem s_orderErr {r : Ru} {p : Pl} {o : List Int} (hp : PlanOk p) : Contract Try.prog 106 [saI (r, p), snI o] (.int .i64 (orderE p o)) := by
  have hlen := hp.len
  refine contract_run Try.func106 k106 rfl ?_
  simp only [body106, b106, res106, b106k0, b106k1, b106k2, b106k3, ruI, ssI, sbI, spI, swI, scI, stI, srI, saI, snI, ↓reduceIte, reduceCtorEq, Nat.reduceEqDiff, Nat.reduceAdd, Nat.reduceMul, Nat.reduceSub, Nat.reduceLeDiff, Nat.reduceBEq, Int.reduceToNat, Int.reduceLE, Int.reduceLT, Int.reduceEq, Int.reduceNe, di0, di1, di2, di3, di4, di5, di6, di7, di8, di9, postX_ret, postX_normal, ex_some]
  split
  rotate_left
  · rename_i h
    unfold orderE
    rw [if_pos (by omega)]
  · rename_i h
    have hl : o.length = p.ch.length := by omega
    have hoe : orderE p o = if scanO p o o.length 0 = 0 then (if permL p.ch p.load o then 0 else 24) else scanO p o o.length 0 := by unfold orderE; rw [if_neg (by omega)]
    refine loop_keep (α := Nat) rfl (fun i => o.length - i) (fun i => i ≤ o.length ∧ scanO p o o.length 0 = scanO p o (o.length - i) i)
      (fun i => [(1, .imm (snI o)), (2, .ref 2 0), (15, .imm (snI o)), (16, .imm (.int .i64 o.length)), (17, .imm (.int .i64 i))])
      (fun _ => [(2, .box [.imm (.int .i64 r.I), .imm (.int .i64 r.A), .imm (.int .i64 r.lo), .imm (.int .i64 r.hi), .imm (.int .i64 r.T), .imm (.int .i64 p.load), .imm (snI p.ch), .imm (.int .i64 p.wait), .imm (.int .i64 p.ticks)])]) 0 ⟨Nat.zero_le _, rfl⟩ (by simp only [ruI, ssI, sbI, spI, swI, scI, stI, srI, saI, snI, ↓reduceIte, reduceCtorEq, Nat.reduceEqDiff, Nat.reduceAdd, Nat.reduceMul, Nat.reduceSub, Nat.reduceLeDiff, Nat.reduceBEq, Int.reduceToNat, Int.reduceLE, Int.reduceLT, Int.reduceEq, Int.reduceNe, di0, di1, di2, di3, di4, di5, di6, di7, di8, di9, postX_ret, postX_normal, ex_some] <;> rfl) ?_
    intro i ⟨hi, he⟩ ih
    simp only [res106, b106k0, b106k1, b106k2, b106k3, ruI, ssI, sbI, spI, swI, scI, stI, srI, saI, snI, ↓reduceIte, reduceCtorEq, Nat.reduceEqDiff, Nat.reduceAdd, Nat.reduceMul, Nat.reduceSub, Nat.reduceLeDiff, Nat.reduceBEq, Int.reduceToNat, Int.reduceLE, Int.reduceLT, Int.reduceEq, Int.reduceNe, di0, di1, di2, di3, di4, di5, di6, di7, di8, di9, postX_ret, postX_normal, ex_some]
    split
    · rename_i h
      have hlt : i < o.length := by omega
      rw [show o.length - i = (o.length - (i + 1)) + 1 by omega] at he
      rw [scanO_succ] at he
      repeat (refine And.intro (by omega) ?_)
      simp only [show IntKind.wrap .i64 ((p.ch.length : Int) - 1) = (p.ch.length : Int) - 1 from wrap64 (by omega) (by omega)]
      refine calls_of s_within ?_; simp only [ruI, ssI, sbI, spI, swI, scI, stI, srI, saI, snI, res106, b106k0, b106k1, b106k2, b106k3, ↓reduceIte, reduceCtorEq, Nat.reduceEqDiff, Nat.reduceAdd, Nat.reduceMul, Nat.reduceSub, Nat.reduceLeDiff, Nat.reduceBEq, Int.reduceToNat, Int.reduceLE, Int.reduceLT, Int.reduceEq, Int.reduceNe, di0, di1, di2, di3, di4, di5, di6, di7, di8, di9, postX_ret, postX_normal, ex_some]
      refine calls_of s_unless ?_; simp only [ruI, ssI, sbI, spI, swI, scI, stI, srI, saI, snI, res106, b106k0, b106k1, b106k2, b106k3, ↓reduceIte, reduceCtorEq, Nat.reduceEqDiff, Nat.reduceAdd, Nat.reduceMul, Nat.reduceSub, Nat.reduceLeDiff, Nat.reduceBEq, Int.reduceToNat, Int.reduceLE, Int.reduceLT, Int.reduceEq, Int.reduceNe, di0, di1, di2, di3, di4, di5, di6, di7, di8, di9, postX_ret, postX_normal, ex_some]
      repeat (refine And.intro (by omega) ?_)
      refine calls_of (s_Contains (by rw [List.length_take]; omega)) ?_; simp only [ruI, ssI, sbI, spI, swI, scI, stI, srI, saI, snI, res106, b106k0, b106k1, b106k2, b106k3, ↓reduceIte, reduceCtorEq, Nat.reduceEqDiff, Nat.reduceAdd, Nat.reduceMul, Nat.reduceSub, Nat.reduceLeDiff, Nat.reduceBEq, Int.reduceToNat, Int.reduceLE, Int.reduceLT, Int.reduceEq, Int.reduceNe, di0, di1, di2, di3, di4, di5, di6, di7, di8, di9, postX_ret, postX_normal, ex_some]
      refine calls_of s_unless ?_; simp only [ruI, ssI, sbI, spI, swI, scI, stI, srI, saI, snI, res106, b106k0, b106k1, b106k2, b106k3, ↓reduceIte, reduceCtorEq, Nat.reduceEqDiff, Nat.reduceAdd, Nat.reduceMul, Nat.reduceSub, Nat.reduceLeDiff, Nat.reduceBEq, Int.reduceToNat, Int.reduceLE, Int.reduceLT, Int.reduceEq, Int.reduceNe, di0, di1, di2, di3, di4, di5, di6, di7, di8, di9, postX_ret, postX_normal, ex_some]
      have e23 : (if o.getD i 0 ∉ o.take i then (0 : Int) else 23) = if o.getD i 0 ∈ o.take i then 23 else 0 := by
        by_cases h : o.getD i 0 ∈ o.take i <;> simp [h]
      refine calls_of (s_first (l := [if Wi (o.getD i 0) 0 ((p.ch.length : Int) - 1) then 0 else 6, if o.getD i 0 ∉ o.take i then 0 else 23]) (by simp)) ?_; simp only [ruI, ssI, sbI, spI, swI, scI, stI, srI, saI, snI, res106, b106k0, b106k1, b106k2, b106k3, ↓reduceIte, reduceCtorEq, Nat.reduceEqDiff, Nat.reduceAdd, Nat.reduceMul, Nat.reduceSub, Nat.reduceLeDiff, Nat.reduceBEq, Int.reduceToNat, Int.reduceLE, Int.reduceLT, Int.reduceEq, Int.reduceNe, di0, di1, di2, di3, di4, di5, di6, di7, di8, di9, postX_ret, postX_normal, ex_some]
      rw [firstNZ_two, e23]
      show (if idxErr p o i = 0 then _ else _)
      split
      · rename_i h2
        rw [if_pos h2] at he
        rw [wrap64 (by omega) (by omega)]
        exact ih (i + 1) _ _ (by omega) ⟨by omega, he⟩ (by simp only [ruI, ssI, sbI, spI, swI, scI, stI, srI, saI, snI, ↓reduceIte, reduceCtorEq, Nat.reduceEqDiff, Nat.reduceAdd, Nat.reduceMul, Nat.reduceSub, Nat.reduceLeDiff, Nat.reduceBEq, Int.reduceToNat, Int.reduceLE, Int.reduceLT, Int.reduceEq, Int.reduceNe, di0, di1, di2, di3, di4, di5, di6, di7, di8, di9, postX_ret, postX_normal, ex_some] <;> rfl)
      · rename_i h2
        rw [if_neg h2] at he
        have ho2 : orderE p o = idxErr p o i := by rw [hoe, he, if_neg h2]
        rw [ho2]
        rfl
    · rename_i h
      have hie : i = o.length := by omega
      subst hie
      rw [show o.length - o.length = 0 by omega] at he
      simp only [scanO] at he
      rw [hoe, if_pos he]
      have hix := orderE_idx hp hl he
      refine calls_of (s_isPermitted hp hix) ?_; simp only [ruI, ssI, sbI, spI, swI, scI, stI, srI, saI, snI, res106, b106k0, b106k1, b106k2, b106k3, ↓reduceIte, reduceCtorEq, Nat.reduceEqDiff, Nat.reduceAdd, Nat.reduceMul, Nat.reduceSub, Nat.reduceLeDiff, Nat.reduceBEq, Int.reduceToNat, Int.reduceLE, Int.reduceLT, Int.reduceEq, Int.reduceNe, di0, di1, di2, di3, di4, di5, di6, di7, di8, di9, postX_ret, postX_normal, ex_some]
      refine calls_of s_unless ?_; simp only [ruI, ssI, sbI, spI, swI, scI, stI, srI, saI, snI, res106, b106k0, b106k1, b106k2, b106k3, ↓reduceIte, reduceCtorEq, Nat.reduceEqDiff, Nat.reduceAdd, Nat.reduceMul, Nat.reduceSub, Nat.reduceLeDiff, Nat.reduceBEq, Int.reduceToNat, Int.reduceLE, Int.reduceLT, Int.reduceEq, Int.reduceNe, di0, di1, di2, di3, di4, di5, di6, di7, di8, di9, postX_ret, postX_normal, ex_some]

def loE (r : Ru) (p : Pl) (o : List Int) : Int := fstE (planEr r p).2 (orderE p o)
theorem orderE_zero {p : Pl} {o : List Int} (h : orderE p o = 0) : o.length = p.ch.length ∧ scanO p o o.length 0 = 0 ∧ permL p.ch p.load o = true := by
  unfold orderE at h
  split at h
  · cases h
  · rename_i h1
    split at h
    · rename_i h2
      split at h
      · rename_i h3; exact ⟨by omega, h2, h3⟩
      · cases h
    · rename_i h2; exact (h2 h).elim

theorem s_LoadsOf {r : Ru} {p : Pl} {o : List Int} (hl : p.ch.length ≤ 1000000000) : Contract Try.prog 42 [ruI r, spI p, snI o] (if loE r p o = 0 then .tup [snI (loadsP p o), .int .i64 0] else .tup [snI [], .int .i64 (loE r p o)]) := by
  refine contract_run Try.func42 k42 rfl ?_
  simp only [body42, b42, res42, b42k0, b42k1, ruI, ssI, sbI, spI, swI, scI, stI, srI, saI, snI, ↓reduceIte, reduceCtorEq, Nat.reduceEqDiff, Nat.reduceAdd, Nat.reduceMul, Nat.reduceSub, Nat.reduceLeDiff, Nat.reduceBEq, Int.reduceToNat, Int.reduceLE, Int.reduceLT, Int.reduceEq, Int.reduceNe, di0, di1, di2, di3, di4, di5, di6, di7, di8, di9, postX_ret, postX_normal, ex_some]
  refine calls_of (s_open hl) ?_; simp only [ruI, ssI, sbI, spI, swI, scI, stI, srI, saI, snI, res42, b42k0, b42k1, ↓reduceIte, reduceCtorEq, Nat.reduceEqDiff, Nat.reduceAdd, Nat.reduceMul, Nat.reduceSub, Nat.reduceLeDiff, Nat.reduceBEq, Int.reduceToNat, Int.reduceLE, Int.reduceLT, Int.reduceEq, Int.reduceNe, di0, di1, di2, di3, di4, di5, di6, di7, di8, di9, postX_ret, postX_normal, ex_some]
  by_cases h : (planEr r p).2 = 0
  · obtain ⟨hr, hp⟩ := planEr_zero.1 h
    have he : loE r p o = orderE p o := by unfold loE fstE; rw [if_pos h]
    simp only [h, ruI, ssI, sbI, spI, swI, scI, stI, srI, saI, snI, ↓reduceIte, reduceCtorEq, Nat.reduceEqDiff, Nat.reduceAdd, Nat.reduceMul, Nat.reduceSub, Nat.reduceLeDiff, Nat.reduceBEq, Int.reduceToNat, Int.reduceLE, Int.reduceLT, Int.reduceEq, Int.reduceNe, di0, di1, di2, di3, di4, di5, di6, di7, di8, di9, postX_ret, postX_normal, ex_some]
    refine calls_of (s_orderErr hp) ?_; simp only [ruI, ssI, sbI, spI, swI, scI, stI, srI, saI, snI, res42, b42k0, b42k1, ↓reduceIte, reduceCtorEq, Nat.reduceEqDiff, Nat.reduceAdd, Nat.reduceMul, Nat.reduceSub, Nat.reduceLeDiff, Nat.reduceBEq, Int.reduceToNat, Int.reduceLE, Int.reduceLT, Int.reduceEq, Int.reduceNe, di0, di1, di2, di3, di4, di5, di6, di7, di8, di9, postX_ret, postX_normal, ex_some]
    rw [he]
    split
    · rename_i h2
      obtain ⟨h3, h4, h5⟩ := orderE_zero h2
      refine calls_of (s_loads hp (orderE_idx hp h3 h4)) ?_; simp only [ruI, ssI, sbI, spI, swI, scI, stI, srI, saI, snI, res42, b42k0, b42k1, ↓reduceIte, reduceCtorEq, Nat.reduceEqDiff, Nat.reduceAdd, Nat.reduceMul, Nat.reduceSub, Nat.reduceLeDiff, Nat.reduceBEq, Int.reduceToNat, Int.reduceLE, Int.reduceLT, Int.reduceEq, Int.reduceNe, di0, di1, di2, di3, di4, di5, di6, di7, di8, di9, postX_ret, postX_normal, ex_some]
    · rfl
  · have he : loE r p o = (planEr r p).2 := by unfold loE fstE; rw [if_neg h]
    simp only [h, ruI, ssI, sbI, spI, swI, scI, stI, srI, saI, snI, ↓reduceIte, reduceCtorEq, Nat.reduceEqDiff, Nat.reduceAdd, Nat.reduceMul, Nat.reduceSub, Nat.reduceLeDiff, Nat.reduceBEq, Int.reduceToNat, Int.reduceLE, Int.reduceLT, Int.reduceEq, Int.reduceNe, di0, di1, di2, di3, di4, di5, di6, di7, di8, di9, postX_ret, postX_normal, ex_some]
    rw [he, if_neg h]

theorem ediv_is {a b q m : Int} (hb : 0 < b) (h : a = b * q + m) (h0 : 0 ≤ m) (h1 : m < b) : a / b = q := by
  rw [h, Int.add_comm, Int.add_mul_ediv_left _ _ (by omega), Int.ediv_eq_zero_of_lt h0 h1]; omega

/-- The loads of a permitted order. -/
theorem loads_ok {p : Pl} {o : List Int} (hp : PlanOk p) (h : permL p.ch p.load o = true) : Loads (loadsP p o) := by
  have ht := hp.ticks
  have hw := hp.wait
  refine ⟨by unfold loadsP; rw [loadsF_length]; omega, ?_⟩

  have key : ∀ (m : Nat) (t : Nat) (k : Nat) (load : Int), 0 ≤ load ∧ load ≤ 1000 → permL p.ch load (o.drop k) = true → (k ≤ o.length) → (k < o.length → (k : Int) = ((t : Int) + p.wait - 1) / p.wait) → (k = o.length → (o.length : Int) ≤ ((t : Int) + p.wait - 1) / p.wait) →
      ∀ x ∈ loadsF p o m t load, 0 ≤ x ∧ x ≤ 1000 := by
    intro m
    induction m with
    | zero => intro t k load _ _ _ _ _ x hx; cases hx
    | succ m ih =>
      intro t k load hb hperm hkl hk1 hk2 x hx
      have hw0 : 0 < p.wait := by omega
      have hdm := Int.emod_add_mul_ediv (t : Int) p.wait
      have hm0 := Int.emod_nonneg (t : Int) (show p.wait ≠ 0 by omega)
      have hm1 := Int.emod_lt_of_pos (t : Int) hw0
      have en : (((t + 1 : Nat) : Int) + p.wait - 1) / p.wait = (t : Int) / p.wait + 1 := by
        refine ediv_is hw0 (m := (t : Int) % p.wait) ?_ hm0 hm1
        rw [Int.mul_add]; push_cast; omega
      have e0 : (t : Int) % p.wait = 0 → ((t : Int) + p.wait - 1) / p.wait = (t : Int) / p.wait := fun h0 => by
        refine ediv_is hw0 (m := p.wait - 1) ?_ (by omega) (by omega)
        omega
      have e1 : (t : Int) % p.wait ≠ 0 → ((t : Int) + p.wait - 1) / p.wait = (t : Int) / p.wait + 1 := fun h0 => by
        refine ediv_is hw0 (m := (t : Int) % p.wait - 1) ?_ (by omega) (by omega)
        rw [Int.mul_add]; omega
      have hq : 0 ≤ (t : Int) / p.wait := Int.ediv_nonneg (by omega) (by omega)
      have ht1 : ((t : Int) + 1) = ((t + 1 : Nat) : Int) := by push_cast; rfl
      unfold loadsF at hx
      rw [Int.tmod_eq_emod_of_nonneg (by omega), Int.tdiv_eq_ediv_of_nonneg (by omega)] at hx
      by_cases hc : (t : Int) % p.wait = 0 ∧ (t : Int) / p.wait < (o.length : Int)
      · rw [if_pos hc] at hx
        have hkj : (k : Int) = (t : Int) / p.wait := by
          rw [e0 hc.1] at hk1 hk2
          by_cases hk : k < o.length
          · exact hk1 hk
          · have := hk2 (by omega); omega
        have hkl' : k < o.length := by omega
        rw [getD_drop hkl', permL_cons, Bool.and_eq_true, decide_eq_true_eq] at hperm
        have hn : nth o ((t : Int) / p.wait) = o.getD k 0 := by unfold nth; rw [← hkj]; simp
        rw [hn, ht1] at hx
        rcases List.mem_cons.1 hx with rfl | hx
        · exact hperm.1
        · exact ih (t + 1) (k + 1) _ hperm.1 hperm.2 (by omega) (fun _ => by rw [en]; push_cast; omega) (fun h => by rw [en]; omega) x hx
      · rw [if_neg hc, ht1] at hx
        rcases List.mem_cons.1 hx with rfl | hx
        · exact hb
        · refine ih (t + 1) k load hb hperm hkl (fun hk => ?_) (fun hk => ?_) x hx
          · rw [en]
            have h1 := hk1 hk
            by_cases h0 : (t : Int) % p.wait = 0
            · rw [e0 h0] at h1
              exact absurd ⟨h0, by omega⟩ hc
            · rw [e1 h0] at h1; exact h1
          · rw [en]
            have h1 := hk2 hk
            by_cases h0 : (t : Int) % p.wait = 0
            · rw [e0 h0] at h1; omega
            · rw [e1 h0] at h1; exact h1
  refine key p.ticks.toNat 0 0 p.load hp.load h (Nat.zero_le _) (fun _ => ?_) (fun h0 => ?_)
  · rw [Int.ediv_eq_zero_of_lt (by omega) (by omega)]; rfl
  · rw [← h0, Int.ediv_eq_zero_of_lt (by omega) (by omega)]; exact Int.le_refl _
end Go.DI

/- Contracts: the highest level of a run; all permitted orders, one by one. No condition. -/
set_option linter.unusedSimpArgs false
namespace Go.DI
open Go.Proofs Go.RowKit Sg

def highL (r : Ru) (s : Sta) (ls : List Int) (k : Int) : Int := maxL (((runL r k s ls).map (·.L)).drop 1) (((runL r k s ls).map (·.L)).getD 0 0)

theorem s_highest {r : Ru} {s : Sta} {ls : List Int} {k : Int} (hr : Sg.Good r) (hs : (-1000000 ≤ s.L ∧ s.L ≤ 1000000) ∧ -1000 ≤ s.F ∧ s.F ≤ 1000) (hl : Loads ls) (hk : 0 ≤ k ∧ k ≤ 100) (h0 : ls ≠ []) :
    Contract Try.prog 104 [ruI r, ssI s, snI ls, .int .i64 k] (.int .i64 (highL r s ls k)) := by
  have hlen := runL_length (r := r) (k := k) ls s
  have hl1 := hl.1
  refine contract_run Try.func104 k104 rfl ?_
  simp only [body104, b104, res104, b104k0, ruI, ssI, sbI, spI, swI, scI, stI, srI, saI, snI, ↓reduceIte, reduceCtorEq, Nat.reduceEqDiff, Nat.reduceAdd, Nat.reduceMul, Nat.reduceSub, Nat.reduceLeDiff, Nat.reduceBEq, Int.reduceToNat, Int.reduceLE, Int.reduceLT, Int.reduceEq, Int.reduceNe, di0, di1, di2, di3, di4, di5, di6, di7, di8, di9, postX_ret, postX_normal, ex_some]
  refine calls_of s_run ?_; simp only [ruI, ssI, sbI, spI, swI, scI, stI, srI, saI, snI, res104, b104k0, ↓reduceIte, reduceCtorEq, Nat.reduceEqDiff, Nat.reduceAdd, Nat.reduceMul, Nat.reduceSub, Nat.reduceLeDiff, Nat.reduceBEq, Int.reduceToNat, Int.reduceLE, Int.reduceLT, Int.reduceEq, Int.reduceNe, di0, di1, di2, di3, di4, di5, di6, di7, di8, di9, postX_ret, postX_normal, ex_some]
  refine range_plain (gf := 154) (first := []) (caps := [.ptr (ssI s), .ptr (.agg [snI ls]), .ptr (ruI r), .ptr (.agg [.int .i64 k])]) ((runL r k s ls).map fun x => [ssI x]) false rfl rfl (it_run hr hs hl hk) (by simp) rfl (fun n (y : Nat) => y = n) (fun y => [(9, .box [.own 1009]), (1009, .tok 1 ((((runL r k s ls).map (·.L)).take y).map (IV.int .i64)))]) 0 rfl (by rw [keepRes_look]; simp only [↓reduceIte, reduceCtorEq, Nat.reduceEqDiff, Nat.reduceAdd, Nat.reduceMul, Nat.reduceSub, Nat.reduceLeDiff, Nat.reduceBEq, Int.reduceToNat, Int.reduceLE, Int.reduceLT, Int.reduceEq, Int.reduceNe, di0, di1, di2, di3, di4, di5, di6, di7, di8, di9, postX_ret, postX_normal, ex_some] <;> rfl) ?_ ?_
  · rintro n x y hx rfl
    simp only [List.getElem?_map, Option.map_eq_some_iff] at hx
    obtain ⟨q, hq, rfl⟩ := hx
    have hlt := (List.getElem?_eq_some_iff.1 hq).1
    simp only [b104a0, b104r0, ruI, ssI, sbI, spI, swI, scI, stI, srI, saI, snI, ↓reduceIte, reduceCtorEq, Nat.reduceEqDiff, Nat.reduceAdd, Nat.reduceMul, Nat.reduceSub, Nat.reduceLeDiff, Nat.reduceBEq, Int.reduceToNat, Int.reduceLE, Int.reduceLT, Int.reduceEq, Int.reduceNe, di0, di1, di2, di3, di4, di5, di6, di7, di8, di9, postX_ret, postX_normal, ex_some]
    rw [List.length_take, List.length_map, Nat.min_eq_left (by omega)]
    refine ⟨by omega, by omega, y + 1, rfl, ?_⟩
    rw [List.take_add_one, List.getElem?_map, hq]
    simp
  · rintro y _ rfl
    simp only [res104, b104k0, ruI, ssI, sbI, spI, swI, scI, stI, srI, saI, snI, ↓reduceIte, reduceCtorEq, Nat.reduceEqDiff, Nat.reduceAdd, Nat.reduceMul, Nat.reduceSub, Nat.reduceLeDiff, Nat.reduceBEq, Int.reduceToNat, Int.reduceLE, Int.reduceLT, Int.reduceEq, Int.reduceNe, di0, di1, di2, di3, di4, di5, di6, di7, di8, di9, postX_ret, postX_normal, ex_some]
    have hh : List.take (runL r k s ls).length ((runL r k s ls).map (·.L)) = (runL r k s ls).map (·.L) := List.take_of_length_le (by simp)
    have hne : (runL r k s ls).map (·.L) ≠ [] := by
      intro h
      rw [List.map_eq_nil_iff] at h
      rw [h] at hlen
      exact h0 (List.length_eq_zero_iff.1 hlen.symm)
    rw [hh]
    refine calls_of (s_Max (l := (runL r k s ls).map (·.L)) (by simp; omega) hne) ?_; simp only [ruI, ssI, sbI, spI, swI, scI, stI, srI, saI, snI, res104, b104k0, ↓reduceIte, reduceCtorEq, Nat.reduceEqDiff, Nat.reduceAdd, Nat.reduceMul, Nat.reduceSub, Nat.reduceLeDiff, Nat.reduceBEq, Int.reduceToNat, Int.reduceLE, Int.reduceLT, Int.reduceEq, Int.reduceNe, di0, di1, di2, di3, di4, di5, di6, di7, di8, di9, postX_ret, postX_normal, ex_some]
    rfl

def oneF (p : Pl) (o : List Int) (i : Nat) : List (List Int) → List (List Int) := fun L => if (i : Int) ∈ o then [] else if permL p.ch p.load (o ++ [(i : Int)]) then L else []

/-- All permitted orders with a beginning, that many changes being left. -/
def ordF (p : Pl) : Nat → List Int → List (List Int)
  | 0, o => [o]
  | f + 1, o => (List.range p.ch.length).flatMap fun (i : Nat) => oneF p o i (ordF p f (o ++ [(i : Int)]))
def ordersP (p : Pl) : List (List Int) := ordF p p.ch.length []
/-- Those from an index on. -/
def ordR (p : Pl) (f : Nat) (o : List Int) (i : Nat) : List (List Int) := ((List.range p.ch.length).drop i).flatMap fun (i : Nat) => oneF p o i (ordF p f (o ++ [(i : Int)]))
theorem ordR_step {p : Pl} {f : Nat} {o : List Int} {i : Nat} (h : i < p.ch.length) : ordR p f o i = oneF p o i (ordF p f (o ++ [(i : Int)])) ++ ordR p f o (i + 1) := by
  unfold ordR
  rw [List.drop_eq_getElem_cons (by simpa using h), List.flatMap_cons, List.getElem_range]
theorem ordR_end {p : Pl} {f : Nat} {o : List Int} : ordR p f o p.ch.length = [] := by
  unfold ordR
  rw [List.drop_of_length_le (by simp)]
  rfl

def plC (r : Ru) (p : Pl) : List IV := [.int .i64 r.I, .int .i64 r.A, .int .i64 r.lo, .int .i64 r.hi, .int .i64 r.T, .int .i64 p.load, snI p.ch, .int .i64 p.wait, .int .i64 p.ticks]
def growR (r : Ru) (p : Pl) (l : Nat) (t : Option (List (List IV))) : List (Nat × Res) :=
  [(0, .seq l (false, t)), (1002, .fza (plC r p)), (1003, .box [.yld l]), (1004, .box [.fn 147 [] [.ref 1002 0, .ref 1003 0, .ref 1004 0]])]
def ordI (L : List (List Int)) : List (List IV) := L.map fun o => [snI o]

theorem lookR_same {q : Nat × Res} {L : List (Nat × Res)} : lookR (q :: q :: L) = lookR (q :: L) := by
  funext i
  obtain ⟨j, x⟩ := q
  by_cases h : i = j <;> simp [lookR, h]
theorem bc_same {P : Program} {f : FuncId} {ds : List DV} {q : Nat × Res} {L : List (Nat × Res)} {Phi : DV → (Nat → Option Res) → Prop} (h : BC P f ds (lookR (q :: L)) Phi) : BC P f ds (lookR (q :: q :: L)) Phi := by
  rw [lookR_same]; exact h

theorem b_grow {r : Ru} {p : Pl} (hp : PlanOk p) (l : Nat) : ∀ (f : Nat) (o : List Int), o.length + f = p.ch.length → (∀ i ∈ o, 0 ≤ i ∧ i < p.ch.length) → ∀ (rest : List (List Int)),
    BC Try.prog 147 [.imm (snI o), .ref 1002 0, .ref 1003 0, .ref 1004 0] (lookR (growR r p l (some (ordI (ordF p f o ++ rest))))) fun x R' =>
      (x = .imm (.bool true) ∧ R' = lookR (growR r p l (some (ordI rest)))) ∨ (x = .imm (.bool false) ∧ R' = lookR (growR r p l none))
  | 0, o, hl, ho, rest => by
    refine bc_run Try.func147 k147 rfl rfl ?_
    simp only [body147, b147, res147, b147k0, b147k1, b147k2, b147k3, b147k4, growR, plC, ruI, ssI, sbI, spI, swI, scI, stI, srI, saI, snI, ↓reduceIte, reduceCtorEq, Nat.reduceEqDiff, Nat.reduceAdd, Nat.reduceMul, Nat.reduceSub, Nat.reduceLeDiff, Nat.reduceBEq, Int.reduceToNat, Int.reduceLE, Int.reduceLT, Int.reduceEq, Int.reduceNe, di0, di1, di2, di3, di4, di5, di6, di7, di8, di9, postX_ret, postX_normal, ex_some]
    rw [if_pos (by omega)]
    rw [show ordI (ordF p 0 o ++ rest) = [snI o] :: ordI rest from rfl]
    refine do_yield rfl rfl rfl (fun _ => ?_) ?_
    · simp only [res147, b147k0, b147k1, b147k2, b147k3, b147k4, ruI, ssI, sbI, spI, swI, scI, stI, srI, saI, snI, ↓reduceIte, reduceCtorEq, Nat.reduceEqDiff, Nat.reduceAdd, Nat.reduceMul, Nat.reduceSub, Nat.reduceLeDiff, Nat.reduceBEq, Int.reduceToNat, Int.reduceLE, Int.reduceLT, Int.reduceEq, Int.reduceNe, di0, di1, di2, di3, di4, di5, di6, di7, di8, di9, postX_ret, postX_normal, ex_some]
      rw [outD_one res147, getD_tmp]
      exact ⟨_, rfl, rfl, .inl rfl⟩
    · simp only [res147, b147k0, b147k1, b147k2, b147k3, b147k4, ruI, ssI, sbI, spI, swI, scI, stI, srI, saI, snI, ↓reduceIte, reduceCtorEq, Nat.reduceEqDiff, Nat.reduceAdd, Nat.reduceMul, Nat.reduceSub, Nat.reduceLeDiff, Nat.reduceBEq, Int.reduceToNat, Int.reduceLE, Int.reduceLT, Int.reduceEq, Int.reduceNe, di0, di1, di2, di3, di4, di5, di6, di7, di8, di9, postX_ret, postX_normal, ex_some]
      rw [outD_one res147, getD_tmp]
      exact ⟨_, rfl, rfl, .inr rfl⟩
  | f + 1, o, hl, ho, rest => by
    refine bc_run Try.func147 k147 rfl rfl ?_
    simp only [body147, b147, res147, b147k0, b147k1, b147k2, b147k3, b147k4, growR, plC, ruI, ssI, sbI, spI, swI, scI, stI, srI, saI, snI, ↓reduceIte, reduceCtorEq, Nat.reduceEqDiff, Nat.reduceAdd, Nat.reduceMul, Nat.reduceSub, Nat.reduceLeDiff, Nat.reduceBEq, Int.reduceToNat, Int.reduceLE, Int.reduceLT, Int.reduceEq, Int.reduceNe, di0, di1, di2, di3, di4, di5, di6, di7, di8, di9, postX_ret, postX_normal, ex_some]
    rw [if_neg (by omega)]
    refine loop_keep (α := Nat) rfl (fun i => p.ch.length - i) (fun i => i ≤ p.ch.length)
      (fun i => [(0, .imm (snI o)), (1, .ref 1002 0), (3, .ref 1004 0), (21, .imm (.int .i64 p.ch.length)), (22, .imm (.int .i64 i))])
      (fun i => growR r p l (some (ordI (ordR p f o i ++ rest)))) 0 (Nat.zero_le _) (by simp only [growR, plC, ruI, ssI, sbI, spI, swI, scI, stI, srI, saI, snI, ↓reduceIte, reduceCtorEq, Nat.reduceEqDiff, Nat.reduceAdd, Nat.reduceMul, Nat.reduceSub, Nat.reduceLeDiff, Nat.reduceBEq, Int.reduceToNat, Int.reduceLE, Int.reduceLT, Int.reduceEq, Int.reduceNe, di0, di1, di2, di3, di4, di5, di6, di7, di8, di9, postX_ret, postX_normal, ex_some] <;> rfl) ?_
    intro i hi ih
    simp only [res147, b147k0, b147k1, b147k2, b147k3, b147k4, growR, plC, ruI, ssI, sbI, spI, swI, scI, stI, srI, saI, snI, ↓reduceIte, reduceCtorEq, Nat.reduceEqDiff, Nat.reduceAdd, Nat.reduceMul, Nat.reduceSub, Nat.reduceLeDiff, Nat.reduceBEq, Int.reduceToNat, Int.reduceLE, Int.reduceLT, Int.reduceEq, Int.reduceNe, di0, di1, di2, di3, di4, di5, di6, di7, di8, di9, postX_ret, postX_normal, ex_some]
    split
    case isFalse h =>
      have hi2 : i = p.ch.length := by omega
      subst hi2
      rw [outD_one res147, getD_tmp]
      exact ⟨_, rfl, rfl, .inl ⟨rfl, by rw [ordR_end]; rfl⟩⟩
    rename_i h
    have hlt : i < p.ch.length := by omega
    have hol : o.length ≤ 4 := by have := hp.len; omega
    refine calls_of (s_Contains (l := o) (v := i) (by omega)) ?_
    simp only [res147, b147k0, b147k1, b147k2, b147k3, b147k4, ruI, ssI, sbI, spI, swI, scI, stI, srI, saI, snI, ↓reduceIte, reduceCtorEq, Nat.reduceEqDiff, Nat.reduceAdd, Nat.reduceMul, Nat.reduceSub, Nat.reduceLeDiff, Nat.reduceBEq, Int.reduceToNat, Int.reduceLE, Int.reduceLT, Int.reduceEq, Int.reduceNe, di0, di1, di2, di3, di4, di5, di6, di7, di8, di9, postX_ret, postX_normal, ex_some]
    rw [ordR_step hlt]
    unfold oneF
    by_cases hin : (i : Int) ∈ o
    · rw [if_pos hin]
      simp only [hin, decide_true, ruI, ssI, sbI, spI, swI, scI, stI, srI, saI, snI, ↓reduceIte, reduceCtorEq, Nat.reduceEqDiff, Nat.reduceAdd, Nat.reduceMul, Nat.reduceSub, Nat.reduceLeDiff, Nat.reduceBEq, Int.reduceToNat, Int.reduceLE, Int.reduceLT, Int.reduceEq, Int.reduceNe, di0, di1, di2, di3, di4, di5, di6, di7, di8, di9, postX_ret, postX_normal, ex_some]
      rw [wrap64 (by omega) (by have := hp.len; omega)]
      refine ih (i + 1) _ _ (by omega) (by omega) (by simp only [growR, plC, ruI, ssI, sbI, spI, swI, scI, stI, srI, saI, snI, ↓reduceIte, reduceCtorEq, Nat.reduceEqDiff, Nat.reduceAdd, Nat.reduceMul, Nat.reduceSub, Nat.reduceLeDiff, Nat.reduceBEq, Int.reduceToNat, Int.reduceLE, Int.reduceLT, Int.reduceEq, Int.reduceNe, di0, di1, di2, di3, di4, di5, di6, di7, di8, di9, postX_ret, postX_normal, ex_some] <;> rfl)
    rw [if_neg hin]
    simp only [hin, decide_false, res147, b147k0, b147k1, b147k2, b147k3, b147k4, ruI, ssI, sbI, spI, swI, scI, stI, srI, saI, snI, ↓reduceIte, reduceCtorEq, Nat.reduceEqDiff, Nat.reduceAdd, Nat.reduceMul, Nat.reduceSub, Nat.reduceLeDiff, Nat.reduceBEq, Int.reduceToNat, Int.reduceLE, Int.reduceLT, Int.reduceEq, Int.reduceNe, di0, di1, di2, di3, di4, di5, di6, di7, di8, di9, postX_ret, postX_normal, ex_some]
    have hidx : Idx p (o ++ [(i : Int)]) := ⟨by simp; omega, by
      intro j hj
      rcases List.mem_append.1 hj with hj | hj
      · exact ho j hj
      · rw [List.mem_singleton] at hj
        omega⟩
    have hgo := b_grow (r := r) hp l f (o ++ [(i : Int)]) (by simp; omega) hidx.2 (ordR p f o (i + 1) ++ rest)
    rw [show ordF p f (o ++ [(i : Int)]) ++ (ordR p f o (i + 1) ++ rest) = (ordF p f (o ++ [(i : Int)]) ++ ordR p f o (i + 1)) ++ rest by rw [List.append_assoc]] at hgo
    refine do_lend rfl (by rw [restr_look]; exact b_CloneY (l := o) (by omega)) rfl rfl ?_
    rintro x R' (⟨rfl, rfl, rfl⟩ | ⟨rfl, rfl⟩)
    · refine ⟨_, rfl, rfl, ?_⟩
      simp only [res147, b147k0, b147k1, b147k2, b147k3, b147k4, List.nil_append, ruI, ssI, sbI, spI, swI, scI, stI, srI, saI, snI, ↓reduceIte, reduceCtorEq, Nat.reduceEqDiff, Nat.reduceAdd, Nat.reduceMul, Nat.reduceSub, Nat.reduceLeDiff, Nat.reduceBEq, Int.reduceToNat, Int.reduceLE, Int.reduceLT, Int.reduceEq, Int.reduceNe, di0, di1, di2, di3, di4, di5, di6, di7, di8, di9, postX_ret, postX_normal, ex_some]
      repeat (refine And.intro (by omega) ?_)
      rw [List.nil_append] at hidx hgo
      refine calls_of (s_isPermitted (r := r) hp hidx) ?_
      simp only [res147, b147k0, b147k1, b147k2, b147k3, b147k4, ruI, ssI, sbI, spI, swI, scI, stI, srI, saI, snI, ↓reduceIte, reduceCtorEq, Nat.reduceEqDiff, Nat.reduceAdd, Nat.reduceMul, Nat.reduceSub, Nat.reduceLeDiff, Nat.reduceBEq, Int.reduceToNat, Int.reduceLE, Int.reduceLT, Int.reduceEq, Int.reduceNe, di0, di1, di2, di3, di4, di5, di6, di7, di8, di9, postX_ret, postX_normal, ex_some]
      cases hpm : permL p.ch p.load [(i : Int)]
      · simp only [ruI, ssI, sbI, spI, swI, scI, stI, srI, saI, snI, ↓reduceIte, reduceCtorEq, Nat.reduceEqDiff, Nat.reduceAdd, Nat.reduceMul, Nat.reduceSub, Nat.reduceLeDiff, Nat.reduceBEq, Int.reduceToNat, Int.reduceLE, Int.reduceLT, Int.reduceEq, Int.reduceNe, di0, di1, di2, di3, di4, di5, di6, di7, di8, di9, postX_ret, postX_normal, ex_some]
        rw [wrap64 (by omega) (by have := hp.len; omega)]
        refine ih (i + 1) _ _ (by omega) (by omega) (by simp only [growR, plC, ruI, ssI, sbI, spI, swI, scI, stI, srI, saI, snI, ↓reduceIte, reduceCtorEq, Nat.reduceEqDiff, Nat.reduceAdd, Nat.reduceMul, Nat.reduceSub, Nat.reduceLeDiff, Nat.reduceBEq, Int.reduceToNat, Int.reduceLE, Int.reduceLT, Int.reduceEq, Int.reduceNe, di0, di1, di2, di3, di4, di5, di6, di7, di8, di9, postX_ret, postX_normal, ex_some] <;> rfl)
      · simp only [ruI, ssI, sbI, spI, swI, scI, stI, srI, saI, snI, ↓reduceIte, reduceCtorEq, Nat.reduceEqDiff, Nat.reduceAdd, Nat.reduceMul, Nat.reduceSub, Nat.reduceLeDiff, Nat.reduceBEq, Int.reduceToNat, Int.reduceLE, Int.reduceLT, Int.reduceEq, Int.reduceNe, di0, di1, di2, di3, di4, di5, di6, di7, di8, di9, postX_ret, postX_normal, ex_some]
        refine do_lend rfl (by rw [restr_look]; exact bc_same hgo) rfl rfl ?_
        rintro x R' (⟨rfl, rfl⟩ | ⟨rfl, rfl⟩)
        · refine ⟨_, rfl, rfl, ?_⟩
          simp only [res147, b147k0, b147k1, b147k2, b147k3, b147k4, growR, plC, ruI, ssI, sbI, spI, swI, scI, stI, srI, saI, snI, ↓reduceIte, reduceCtorEq, Nat.reduceEqDiff, Nat.reduceAdd, Nat.reduceMul, Nat.reduceSub, Nat.reduceLeDiff, Nat.reduceBEq, Int.reduceToNat, Int.reduceLE, Int.reduceLT, Int.reduceEq, Int.reduceNe, di0, di1, di2, di3, di4, di5, di6, di7, di8, di9, postX_ret, postX_normal, ex_some]
          rw [wrap64 (by omega) (by have := hp.len; omega)]
          refine ih (i + 1) _ _ (by omega) (by omega) (by simp only [growR, plC, ruI, ssI, sbI, spI, swI, scI, stI, srI, saI, snI, ↓reduceIte, reduceCtorEq, Nat.reduceEqDiff, Nat.reduceAdd, Nat.reduceMul, Nat.reduceSub, Nat.reduceLeDiff, Nat.reduceBEq, Int.reduceToNat, Int.reduceLE, Int.reduceLT, Int.reduceEq, Int.reduceNe, di0, di1, di2, di3, di4, di5, di6, di7, di8, di9, postX_ret, postX_normal, ex_some] <;> rfl)
        · refine ⟨_, rfl, rfl, ?_⟩
          simp only [res147, b147k0, b147k1, b147k2, b147k3, b147k4, growR, plC, ruI, ssI, sbI, spI, swI, scI, stI, srI, saI, snI, ↓reduceIte, reduceCtorEq, Nat.reduceEqDiff, Nat.reduceAdd, Nat.reduceMul, Nat.reduceSub, Nat.reduceLeDiff, Nat.reduceBEq, Int.reduceToNat, Int.reduceLE, Int.reduceLT, Int.reduceEq, Int.reduceNe, di0, di1, di2, di3, di4, di5, di6, di7, di8, di9, postX_ret, postX_normal, ex_some]
          rw [outD_one res147, getD_tmp]
          exact ⟨_, rfl, rfl, .inr rfl⟩
    · refine ⟨_, rfl, rfl, ?_⟩
      simp only [res147, b147k0, b147k1, b147k2, b147k3, b147k4, ruI, ssI, sbI, spI, swI, scI, stI, srI, saI, snI, ↓reduceIte, reduceCtorEq, Nat.reduceEqDiff, Nat.reduceAdd, Nat.reduceMul, Nat.reduceSub, Nat.reduceLeDiff, Nat.reduceBEq, Int.reduceToNat, Int.reduceLE, Int.reduceLT, Int.reduceEq, Int.reduceNe, di0, di1, di2, di3, di4, di5, di6, di7, di8, di9, postX_ret, postX_normal, ex_some]
      repeat (refine And.intro (by omega) ?_)
      refine calls_of (s_isPermitted (r := r) hp hidx) ?_
      simp only [res147, b147k0, b147k1, b147k2, b147k3, b147k4, ruI, ssI, sbI, spI, swI, scI, stI, srI, saI, snI, ↓reduceIte, reduceCtorEq, Nat.reduceEqDiff, Nat.reduceAdd, Nat.reduceMul, Nat.reduceSub, Nat.reduceLeDiff, Nat.reduceBEq, Int.reduceToNat, Int.reduceLE, Int.reduceLT, Int.reduceEq, Int.reduceNe, di0, di1, di2, di3, di4, di5, di6, di7, di8, di9, postX_ret, postX_normal, ex_some]
      cases hpm : permL p.ch p.load (o ++ [(i : Int)])
      · simp only [ruI, ssI, sbI, spI, swI, scI, stI, srI, saI, snI, ↓reduceIte, reduceCtorEq, Nat.reduceEqDiff, Nat.reduceAdd, Nat.reduceMul, Nat.reduceSub, Nat.reduceLeDiff, Nat.reduceBEq, Int.reduceToNat, Int.reduceLE, Int.reduceLT, Int.reduceEq, Int.reduceNe, di0, di1, di2, di3, di4, di5, di6, di7, di8, di9, postX_ret, postX_normal, ex_some]
        rw [wrap64 (by omega) (by have := hp.len; omega)]
        refine ih (i + 1) _ _ (by omega) (by omega) (by simp only [growR, plC, ruI, ssI, sbI, spI, swI, scI, stI, srI, saI, snI, ↓reduceIte, reduceCtorEq, Nat.reduceEqDiff, Nat.reduceAdd, Nat.reduceMul, Nat.reduceSub, Nat.reduceLeDiff, Nat.reduceBEq, Int.reduceToNat, Int.reduceLE, Int.reduceLT, Int.reduceEq, Int.reduceNe, di0, di1, di2, di3, di4, di5, di6, di7, di8, di9, postX_ret, postX_normal, ex_some] <;> rfl)
      · simp only [ruI, ssI, sbI, spI, swI, scI, stI, srI, saI, snI, ↓reduceIte, reduceCtorEq, Nat.reduceEqDiff, Nat.reduceAdd, Nat.reduceMul, Nat.reduceSub, Nat.reduceLeDiff, Nat.reduceBEq, Int.reduceToNat, Int.reduceLE, Int.reduceLT, Int.reduceEq, Int.reduceNe, di0, di1, di2, di3, di4, di5, di6, di7, di8, di9, postX_ret, postX_normal, ex_some]
        refine do_lend rfl (by rw [restr_look]; exact bc_same hgo) rfl rfl ?_
        rintro x R' (⟨rfl, rfl⟩ | ⟨rfl, rfl⟩)
        · refine ⟨_, rfl, rfl, ?_⟩
          simp only [res147, b147k0, b147k1, b147k2, b147k3, b147k4, growR, plC, ruI, ssI, sbI, spI, swI, scI, stI, srI, saI, snI, ↓reduceIte, reduceCtorEq, Nat.reduceEqDiff, Nat.reduceAdd, Nat.reduceMul, Nat.reduceSub, Nat.reduceLeDiff, Nat.reduceBEq, Int.reduceToNat, Int.reduceLE, Int.reduceLT, Int.reduceEq, Int.reduceNe, di0, di1, di2, di3, di4, di5, di6, di7, di8, di9, postX_ret, postX_normal, ex_some]
          rw [wrap64 (by omega) (by have := hp.len; omega)]
          refine ih (i + 1) _ _ (by omega) (by omega) (by simp only [growR, plC, ruI, ssI, sbI, spI, swI, scI, stI, srI, saI, snI, ↓reduceIte, reduceCtorEq, Nat.reduceEqDiff, Nat.reduceAdd, Nat.reduceMul, Nat.reduceSub, Nat.reduceLeDiff, Nat.reduceBEq, Int.reduceToNat, Int.reduceLE, Int.reduceLT, Int.reduceEq, Int.reduceNe, di0, di1, di2, di3, di4, di5, di6, di7, di8, di9, postX_ret, postX_normal, ex_some] <;> rfl)
        · refine ⟨_, rfl, rfl, ?_⟩
          simp only [res147, b147k0, b147k1, b147k2, b147k3, b147k4, growR, plC, ruI, ssI, sbI, spI, swI, scI, stI, srI, saI, snI, ↓reduceIte, reduceCtorEq, Nat.reduceEqDiff, Nat.reduceAdd, Nat.reduceMul, Nat.reduceSub, Nat.reduceLeDiff, Nat.reduceBEq, Int.reduceToNat, Int.reduceLE, Int.reduceLT, Int.reduceEq, Int.reduceNe, di0, di1, di2, di3, di4, di5, di6, di7, di8, di9, postX_ret, postX_normal, ex_some]
          rw [outD_one res147, getD_tmp]
          exact ⟨_, rfl, rfl, .inr rfl⟩

/-- The iterator of all permitted orders. -/
theorem it_orders {r : Ru} {p : Pl} (hp : PlanOk p) (l : Nat) :
    BC Try.prog 102 [.imm (saI (r, p)), .yld l] (lookR [(0, .seq l (false, some ((ordersP p).map fun o => [snI o])))]) fun _ R' => seqOver l false R' := by
  refine bc_run Try.func102 k102 rfl rfl ?_
  simp only [body102, b102, res102, ruI, ssI, sbI, spI, swI, scI, stI, srI, saI, snI, ↓reduceIte, reduceCtorEq, Nat.reduceEqDiff, Nat.reduceAdd, Nat.reduceMul, Nat.reduceSub, Nat.reduceLeDiff, Nat.reduceBEq, Int.reduceToNat, Int.reduceLE, Int.reduceLT, Int.reduceEq, Int.reduceNe, di0, di1, di2, di3, di4, di5, di6, di7, di8, di9, postX_ret, postX_normal, ex_some]
  refine run_ren rfl (by first | decide | rfl) (by first | decide | rfl) (by first | decide | rfl) ?_
  simp only [ruI, ssI, sbI, spI, swI, scI, stI, srI, saI, snI, ↓reduceIte, reduceCtorEq, Nat.reduceEqDiff, Nat.reduceAdd, Nat.reduceMul, Nat.reduceSub, Nat.reduceLeDiff, Nat.reduceBEq, Int.reduceToNat, Int.reduceLE, Int.reduceLT, Int.reduceEq, Int.reduceNe, di0, di1, di2, di3, di4, di5, di6, di7, di8, di9, postX_ret, postX_normal, ex_some]
  refine run_ren rfl (by first | decide | rfl) (by first | decide | rfl) (by first | decide | rfl) ?_
  simp only [ruI, ssI, sbI, spI, swI, scI, stI, srI, saI, snI, ↓reduceIte, reduceCtorEq, Nat.reduceEqDiff, Nat.reduceAdd, Nat.reduceMul, Nat.reduceSub, Nat.reduceLeDiff, Nat.reduceBEq, Int.reduceToNat, Int.reduceLE, Int.reduceLT, Int.reduceEq, Int.reduceNe, di0, di1, di2, di3, di4, di5, di6, di7, di8, di9, postX_ret, postX_normal, ex_some]
  refine run_ren rfl (by first | decide | rfl) (by first | decide | rfl) (by first | decide | rfl) ?_
  simp only [ruI, ssI, sbI, spI, swI, scI, stI, srI, saI, snI, ↓reduceIte, reduceCtorEq, Nat.reduceEqDiff, Nat.reduceAdd, Nat.reduceMul, Nat.reduceSub, Nat.reduceLeDiff, Nat.reduceBEq, Int.reduceToNat, Int.reduceLE, Int.reduceLT, Int.reduceEq, Int.reduceNe, di0, di1, di2, di3, di4, di5, di6, di7, di8, di9, postX_ret, postX_normal, ex_some]
  have hgo := b_grow (r := r) hp l p.ch.length [] (by simp) (by simp) []
  rw [List.append_nil] at hgo
  have e : restr [0, 1002, 1003, 1004] (lookR
      [(1004, Res.box [DV.fn 147 [] [DV.ref 1002 0, DV.ref 1003 0, DV.ref 1004 0]]), (1004, Res.box [DV.imm IV.nilf]), (1003, Res.box [DV.yld l]), (1002, .fza (plC r p)),
        (0, Res.seq l (false, some (ordI (ordersP p))))]) = lookR (growR r p l (some (ordI (ordersP p)))) := by
    rw [restr_look]
    show lookR [_, _, _, _, _] = lookR [_, _, _, _]
    funext i
    unfold lookR lookR lookR lookR lookR
    by_cases h0 : i = 0
    · subst h0; rfl
    by_cases h2 : i = 1002
    · subst h2; rfl
    by_cases h3 : i = 1003
    · subst h3; rfl
    by_cases h4 : i = 1004
    · subst h4; rfl
    simp [lookR, h0, h2, h3, h4]
  refine do_lend rfl (Phi := fun x R' =>
      (x = .imm (.bool true) ∧ R' = lookR (growR r p l (some (ordI [])))) ∨ (x = .imm (.bool false) ∧ R' = lookR (growR r p l none))) (Eq.mpr (congrArg (fun R => BC Try.prog 147 [.imm (snI []), .ref 1002 0, .ref 1003 0, .ref 1004 0] R _) e) hgo) rfl rfl ?_
  rintro x R' (⟨rfl, rfl⟩ | ⟨rfl, rfl⟩)
  · refine ⟨_, rfl, rfl, ?_⟩
    simp only [growR, plC, ruI, ssI, sbI, spI, swI, scI, stI, srI, saI, snI, ↓reduceIte, reduceCtorEq, Nat.reduceEqDiff, Nat.reduceAdd, Nat.reduceMul, Nat.reduceSub, Nat.reduceLeDiff, Nat.reduceBEq, Int.reduceToNat, Int.reduceLE, Int.reduceLT, Int.reduceEq, Int.reduceNe, di0, di1, di2, di3, di4, di5, di6, di7, di8, di9, postX_ret, postX_normal, ex_some]
    rw [outD_nil res102]
    exact ⟨_, rfl, rfl, .inl ⟨rfl, rfl⟩⟩
  · refine ⟨_, rfl, rfl, ?_⟩
    simp only [growR, plC, ruI, ssI, sbI, spI, swI, scI, stI, srI, saI, snI, ↓reduceIte, reduceCtorEq, Nat.reduceEqDiff, Nat.reduceAdd, Nat.reduceMul, Nat.reduceSub, Nat.reduceLeDiff, Nat.reduceBEq, Int.reduceToNat, Int.reduceLE, Int.reduceLT, Int.reduceEq, Int.reduceNe, di0, di1, di2, di3, di4, di5, di6, di7, di8, di9, postX_ret, postX_normal, ex_some]
    rw [outD_nil res102]
    exact ⟨_, rfl, rfl, .inr rfl⟩
end Go.DI

