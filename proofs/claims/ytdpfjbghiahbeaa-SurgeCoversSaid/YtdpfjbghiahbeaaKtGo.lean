/- Contracts of covers. No condition. -/
import Derived.Test.YtdpfjbghiahbeaaKtGn
/- The reference's functions of covers, as data. No condition. -/
namespace Go.DI
open Go.Proofs Go.RowKit
/-- guidevane/guidevaneref04.parts -/
def b138k0 : DCode :=
 (.region [⟨(some 18), .mov, [.t 7], none, []⟩,
   ⟨(some 19), (.bin .add), [.t 18, .c (.int .i64 1)], none, [0]⟩,
   ⟨(some 7), .mov, [.t 19], none, [1, 0, 1]⟩] false)
def b138k1 : DCode :=
 (.seq
  (.block 1
   (.seq
    (.region [⟨(some 20), (.faddr 0 false 1), [.t 2], none, []⟩,
      ⟨(some 21), (.load false 1), [.t 20], none, [0]⟩,
      ⟨(some 22), .mov, [.t 7], none, []⟩,
      ⟨(some 23), .mov, [.t 6], none, []⟩,
      ⟨(some 24), (.bin .mul), [.t 22, .t 23], none, [2, 3]⟩,
      ⟨(some 25), .mov, [.t 1], none, []⟩,
      ⟨(some 26), .call, [.f 96, .t 24, .t 25], none, [4, 5]⟩,
      ⟨(some 27), (.bin .add), [.t 21, .t 26], none, [1, 6]⟩,
      ⟨(some 28), (.faddr 0 false 1), [.t 2], none, []⟩,
      ⟨(some 29), (.load false 1), [.t 28], none, [8]⟩,
      ⟨(some 30), .mov, [.t 7], none, []⟩,
      ⟨(some 31), (.bin .add), [.t 30, .c (.int .i64 1)], none, [10]⟩,
      ⟨(some 32), .mov, [.t 6], none, []⟩,
      ⟨(some 33), (.bin .mul), [.t 31, .t 32], none, [11, 12]⟩,
      ⟨(some 34), .mov, [.t 1], none, []⟩,
      ⟨(some 35), .call, [.f 96, .t 33, .t 34], none, [13, 14, 6]⟩,
      ⟨(some 36), (.bin .add), [.t 29, .t 35], none, [9, 15]⟩,
      ⟨(some 37), (.bin .sub), [.t 36, .c (.int .i64 1)], none, [16]⟩,
      ⟨(some 38), (.build [(.imm (.int .i64 0)), (.imm (.int .i64 0))] [(0, 1), (1, 1)]), [.t 27, .t 37], none, [7, 17]⟩,
      ⟨(some 8), (.alloc [(.imm (.int .i64 0)), (.imm (.int .i64 0))]), [], none, []⟩,
      ⟨none, (.store 2), [.t 8, .t 38], none, [19, 18, 15, 0, 1, 2, 3, 4, 5, 6, 7, 8, 9, 10, 11, 12, 13, 14, 15, 16, 17, 18, 19]⟩] true)
    (.seq
     (.region [⟨(some 39), (.faddr 0 false 1), [.t 8], none, []⟩,
       ⟨(some 40), (.load false 1), [.t 39], none, [0]⟩,
       ⟨(some 41), (.faddr 1 false 1), [.t 8], none, []⟩,
       ⟨(some 42), (.load false 1), [.t 41], none, [2]⟩,
       ⟨(some 43), (.bin .leq), [.t 40, .t 42], none, [1, 3]⟩] false)
     (.cond (.t 43)
      (.region [⟨(some 44), .mov, [.t 5], none, []⟩,
        ⟨(some 45), (.load true 2), [.t 8], none, []⟩,
        ⟨(some 46), (.bsl 2), [.t 45], none, [1]⟩,
        ⟨(some 47), (.append 2 16 false), [.t 44, .t 46], none, [0, 2]⟩,
        ⟨(some 5), .mov, [.t 47], none, [3, 3, 0, 1, 2, 3]⟩] false)
      .skip))))
  (.keep [1, 2, 5, 6, 7] [2, 5, 47] b138k0))
def b138l0 : DCode := .keep [1, 2, 5, 6, 7] [2, 5, 47]
  (.seq
   (.seq
    (.region [⟨(some 15), .mov, [.t 7], none, []⟩,
      ⟨(some 16), .mov, [.t 1], none, []⟩,
      ⟨(some 17), (.bin .lss), [.t 15, .t 16], none, [0, 1]⟩] false)
    (.cond (.t 17)
     .skip
     (.exit 0)))
   (.keep [1, 2, 5, 6, 7] [2, 5, 47] b138k1))
def b138k2 : DCode :=
 (.seq
  (.region [⟨(some 48), .movv, [.t 5], none, []⟩,
    ⟨(some 4), .movv, [.t 48], none, [0, 0]⟩] false)
  .ret)
def b138 : DCode :=
 (.seq
  (.region [⟨(some 2), .box, [.t 0], none, []⟩,
    ⟨(some 4), .mov, [.c (.slc 2 [])], none, []⟩] false)
  (.seq
   (.region [⟨(some 5), (.ntok 2), [.c (.slc 2 [])], none, []⟩] false)
   (.seq
    (.region [⟨(some 9), (.faddr 1 false 1), [.t 2], none, []⟩,
      ⟨(some 10), (.load false 1), [.t 9], none, [0]⟩,
      ⟨(some 11), (.faddr 0 false 1), [.t 2], none, []⟩,
      ⟨(some 12), (.load false 1), [.t 11], none, [2]⟩,
      ⟨(some 13), (.bin .sub), [.t 10, .t 12], none, [1, 3]⟩,
      ⟨(some 14), (.bin .add), [.t 13, .c (.int .i64 1)], none, [4]⟩,
      ⟨(some 6), .mov, [.t 14], none, [5, 0, 1, 2, 3, 4, 5]⟩] false)
    (.seq
     (.seq
      (.region [⟨(some 7), .mov, [.c (.int .i64 0)], none, []⟩] false)
      (.block 0
       (.loop b138l0)))
     (.keep [5] [5, 47] b138k2)))))
def d138 : DFn := ⟨2, 49, [.tmp 4], b138⟩
theorem body138 : d138.body = b138 := rfl
theorem res138 : d138.res = [.tmp 4] := rfl
theorem k138 : chkFn Try.prog Try.f138 d138 = true := by kernel_rfl

/-- guidevane/guidevaneref04.CoverErr -/
def b76k0 : DCode :=
 (.seq
  (.region [⟨(some 2), .mov, [.c (.int .i64 0)], none, []⟩] false)
  .ret)
def b76k1 : DCode :=
 (.seq
  (.seq
   (.region [⟨(some 28), (.faddr 5 true 2), [.t 1], none, []⟩,
     ⟨(some 29), (.faddr 0 false 1), [.t 28], none, [0]⟩,
     ⟨(some 30), (.load false 1), [.t 29], none, [1]⟩,
     ⟨(some 31), (.faddr 5 true 2), [.t 1], none, []⟩,
     ⟨(some 32), (.faddr 1 false 1), [.t 31], none, [3]⟩,
     ⟨(some 33), (.load false 1), [.t 32], none, [4]⟩,
     ⟨(some 34), (.bin .gtr), [.t 30, .t 33], none, [2, 5]⟩] false)
   (.cond (.t 34)
    (.seq
     (.region [⟨(some 2), .mov, [.c (.int .i64 9)], none, []⟩] false)
     .ret)
    .skip))
  (.keep [] [] b76k0))
def b76k2 : DCode :=
 (.seq
  (.seq
   (.region [⟨(some 10), (.faddr 4 false 1), [.t 1], none, []⟩,
     ⟨(some 11), (.load false 1), [.t 10], none, [0]⟩,
     ⟨(some 12), .call, [.f 27, .t 11, .c (.int .i64 1), .c (.int .i64 8)], none, [1]⟩,
     ⟨(some 13), (.un .not), [.t 12], none, [2]⟩,
     ⟨(some 14), .mov, [.t 13], none, [3, 2]⟩,
     ⟨(some 15), (.faddr 5 true 2), [.t 1], (some (14, false)), [4]⟩,
     ⟨(some 16), (.faddr 0 false 1), [.t 15], (some (14, false)), [5, 4]⟩,
     ⟨(some 17), (.load false 1), [.t 16], (some (14, false)), [6, 4]⟩,
     ⟨(some 18), .call, [.f 27, .t 17, .c (.int .i64 (-100000)), .c (.int .i64 100000)], (some (14, false)), [7, 4, 4]⟩,
     ⟨(some 19), (.un .not), [.t 18], (some (14, false)), [8, 4]⟩,
     ⟨(some 20), .pick, [.t 14, .c (.bool true), .t 19], none, [4, 9]⟩,
     ⟨(some 21), .mov, [.t 20], none, [10, 8]⟩,
     ⟨(some 22), (.faddr 5 true 2), [.t 1], (some (21, false)), [11]⟩,
     ⟨(some 23), (.faddr 1 false 1), [.t 22], (some (21, false)), [12, 11]⟩,
     ⟨(some 24), (.load false 1), [.t 23], (some (21, false)), [13, 11]⟩,
     ⟨(some 25), .call, [.f 27, .t 24, .c (.int .i64 (-100000)), .c (.int .i64 100000)], (some (21, false)), [14, 11, 11]⟩,
     ⟨(some 26), (.un .not), [.t 25], (some (21, false)), [15, 11]⟩,
     ⟨(some 27), .pick, [.t 21, .c (.bool true), .t 26], none, [11, 16]⟩] false)
   (.cond (.t 27)
    (.seq
     (.region [⟨(some 2), .mov, [.c (.int .i64 2)], none, []⟩] false)
     .ret)
    .skip))
  (.keep [1] [1] b76k1))
def b76 : DCode :=
 (.seq
  (.region [⟨(some 1), .box, [.t 0], none, []⟩,
    ⟨(some 2), .mov, [.c (.int .i64 0)], none, []⟩] false)
  (.seq
   (.seq
    (.region [⟨(some 4), (.faddr 0 true 4), [.t 1], none, []⟩,
      ⟨(some 5), (.load true 4), [.t 4], none, [0]⟩,
      ⟨(some 6), .call, [.f 24, .t 5], none, [1]⟩,
      ⟨(some 3), .mov, [.t 6], none, [2, 2, 0, 1, 2]⟩] false)
    (.seq
     (.region [⟨(some 7), .mov, [.t 3], none, []⟩,
       ⟨(some 8), (.bin .neq), [.t 7, .c (.int .i64 0)], none, [0]⟩] false)
     (.cond (.t 8)
      (.seq
       (.region [⟨(some 9), .mov, [.t 3], none, []⟩,
         ⟨(some 2), .mov, [.t 9], none, [0, 0]⟩] false)
       .ret)
      .skip)))
   (.keep [1] [1] b76k2)))
def d76 : DFn := ⟨1, 35, [.tmp 2], b76⟩
theorem body76 : d76.body = b76 := rfl
theorem res76 : d76.res = [.tmp 2] := rfl
theorem k76 : chkFn Try.prog Try.f76 d76 = true := by kernel_rfl

/-- guidevane/guidevaneref04.Cover -/
def b82k0 : DCode :=
 (.seq
  (.block 3
   (.region [⟨(some 32), .mov, [.t 5], none, []⟩,
     ⟨(some 33), .movv, [.t 3], none, []⟩,
     ⟨(some 34), .mov, [.t 6], none, []⟩,
     ⟨(some 35), (.iaddr 2), [.t 33, .t 34], none, [1, 2]⟩,
     ⟨(some 36), (.load true 2), [.t 35], none, [3]⟩,
     ⟨(some 37), .movv, [.t 4], none, []⟩,
     ⟨(some 38), .mov, [.t 7], none, []⟩,
     ⟨(some 39), (.iaddr 2), [.t 37, .t 38], none, [5, 6]⟩,
     ⟨(some 40), (.load true 2), [.t 39], none, [7]⟩,
     ⟨(some 41), (.build [(.imm (.int .i64 0)), (.imm (.int .i64 0)), (.imm (.int .i64 0)), (.imm (.int .i64 0))] [(0, 2), (2, 2)]), [.t 36, .t 40], none, [4, 8]⟩,
     ⟨(some 42), (.bsl 4), [.t 41], none, [9]⟩,
     ⟨(some 43), (.append 4 32 false), [.t 32, .t 42], none, [0, 10]⟩,
     ⟨(some 5), .mov, [.t 43], none, [11, 11, 0, 1, 2, 3, 4, 5, 6, 7, 8, 9, 10, 11]⟩] true))
  (.region [⟨(some 30), .mov, [.t 7], none, []⟩,
    ⟨(some 31), (.bin .add), [.t 30, .c (.int .i64 1)], none, [0]⟩,
    ⟨(some 7), .mov, [.t 31], none, [1, 0, 1]⟩] false))
def b82l0 : DCode := .keep [3, 4, 5, 6, 7] [5, 43]
  (.seq
   (.seq
    (.region [⟨(some 26), .mov, [.t 7], none, []⟩,
      ⟨(some 27), .movv, [.t 4], none, []⟩,
      ⟨(some 28), .len, [.t 27], none, [1]⟩,
      ⟨(some 29), (.bin .lss), [.t 26, .t 28], none, [0, 2]⟩] false)
    (.cond (.t 29)
     .skip
     (.exit 2)))
   (.keep [3, 4, 5, 6, 7] [5, 43] b82k0))
def b82k1 : DCode :=
 (.region [⟨(some 24), .mov, [.t 6], none, []⟩,
   ⟨(some 25), (.bin .add), [.t 24, .c (.int .i64 1)], none, [0]⟩,
   ⟨(some 6), .mov, [.t 25], none, [1, 0, 1]⟩] false)
def b82k2 : DCode :=
 (.seq
  (.block 1
   (.seq
    (.region [⟨(some 7), .mov, [.c (.int .i64 0)], none, []⟩] false)
    (.block 2
     (.loop b82l0))))
  (.keep [3, 4, 5, 6] [5, 43] b82k1))
def b82l1 : DCode := .keep [3, 4, 5, 6] [5, 43]
  (.seq
   (.seq
    (.region [⟨(some 20), .mov, [.t 6], none, []⟩,
      ⟨(some 21), .movv, [.t 3], none, []⟩,
      ⟨(some 22), .len, [.t 21], none, [1]⟩,
      ⟨(some 23), (.bin .lss), [.t 20, .t 22], none, [0, 2]⟩] false)
    (.cond (.t 23)
     .skip
     (.exit 0)))
   (.keep [3, 4, 5, 6] [5, 43] b82k2))
def b82k3 : DCode :=
 (.seq
  (.region [⟨(some 44), .movv, [.t 5], none, []⟩,
    ⟨(some 2), .movv, [.t 44], none, [0, 0]⟩] false)
  .ret)
def b82 : DCode :=
 (.seq
  (.region [⟨(some 1), .box, [.t 0], none, []⟩,
    ⟨(some 2), .mov, [.c (.slc 4 [])], none, []⟩] false)
  (.seq
   (.region [⟨(some 8), (.faddr 0 true 4), [.t 1], none, []⟩,
     ⟨(some 9), (.faddr 0 true 2), [.t 8], none, [0]⟩,
     ⟨(some 10), (.load true 2), [.t 9], none, [1]⟩,
     ⟨(some 11), (.faddr 4 false 1), [.t 1], none, []⟩,
     ⟨(some 12), (.load false 1), [.t 11], none, [3]⟩,
     ⟨(some 13), .call, [.f 138, .t 10, .t 12], none, [2, 4]⟩,
     ⟨(some 14), (.faddr 0 true 4), [.t 1], none, []⟩,
     ⟨(some 15), (.faddr 2 true 2), [.t 14], none, [6]⟩,
     ⟨(some 16), (.load true 2), [.t 15], none, [7]⟩,
     ⟨(some 17), (.faddr 4 false 1), [.t 1], none, []⟩,
     ⟨(some 18), (.load false 1), [.t 17], none, [9]⟩,
     ⟨(some 19), .call, [.f 138, .t 16, .t 18], none, [8, 10, 5]⟩,
     ⟨(some 3), .movv, [.t 13], none, [5, 11, 0, 1, 2, 3, 4, 5]⟩,
     ⟨(some 4), .movv, [.t 19], none, [11, 12, 0, 1, 2, 3, 4, 5, 6, 7, 8, 9, 10, 11, 12]⟩] true)
   (.seq
    (.region [⟨(some 5), (.ntok 4), [.c (.slc 4 [])], none, []⟩] false)
    (.seq
     (.seq
      (.region [⟨(some 6), .mov, [.c (.int .i64 0)], none, []⟩] false)
      (.block 0
       (.loop b82l1)))
     (.keep [5] [5, 43] b82k3)))))
def d82 : DFn := ⟨1, 45, [.tmp 2], b82⟩
theorem body82 : d82.body = b82 := rfl
theorem res82 : d82.res = [.tmp 2] := rfl
theorem k82 : chkFn Try.prog Try.f82 d82 = true := by kernel_rfl

/-- guidevane/guidevaneref04.BoxesErr -/
def b59k0 : DCode :=
 (.region [⟨(some 15), .mov, [.t 3], none, []⟩,
   ⟨(some 16), (.bin .add), [.t 15, .c (.int .i64 1)], none, [0]⟩,
   ⟨(some 3), .mov, [.t 16], none, [1, 0, 1]⟩] false)
def b59k1 : DCode :=
 (.seq
  (.block 1
   (.seq
    (.region [⟨(some 17), .movv, [.t 0], none, []⟩,
      ⟨(some 18), .mov, [.t 3], none, []⟩,
      ⟨(some 19), (.iaddr 4), [.t 17, .t 18], none, [0, 1]⟩,
      ⟨(some 20), (.load true 4), [.t 19], none, [2]⟩,
      ⟨(some 21), .call, [.f 24, .t 20], none, [3]⟩,
      ⟨(some 4), .mov, [.t 21], none, [4, 4, 0, 1, 2, 3, 4]⟩] false)
    (.seq
     (.region [⟨(some 22), .mov, [.t 4], none, []⟩,
       ⟨(some 23), (.bin .neq), [.t 22, .c (.int .i64 0)], none, [0]⟩] false)
     (.cond (.t 23)
      (.seq
       (.region [⟨(some 24), .mov, [.t 4], none, []⟩,
         ⟨(some 2), .mov, [.t 24], none, [0, 0]⟩] false)
       .ret)
      .skip))))
  (.keep [0, 3] [] b59k0))
def b59l0 : DCode := .keep [0, 3] []
  (.seq
   (.seq
    (.region [⟨(some 11), .mov, [.t 3], none, []⟩,
      ⟨(some 12), .movv, [.t 0], none, []⟩,
      ⟨(some 13), .len, [.t 12], none, [1]⟩,
      ⟨(some 14), (.bin .lss), [.t 11, .t 13], none, [0, 2]⟩] false)
    (.cond (.t 14)
     .skip
     (.exit 0)))
   (.keep [0, 3] [] b59k1))
def b59k2 : DCode :=
 (.seq
  (.region [⟨(some 2), .mov, [.c (.int .i64 0)], none, []⟩] false)
  .ret)
def b59k3 : DCode :=
 (.seq
  (.seq
   (.region [⟨(some 3), .mov, [.c (.int .i64 0)], none, []⟩] false)
   (.block 0
    (.loop b59l0)))
  (.keep [] [] b59k2))
def b59k4 : DCode :=
 (.seq
  (.seq
   (.region [⟨(some 8), .movv, [.t 0], none, []⟩,
     ⟨(some 9), .len, [.t 8], none, [0]⟩,
     ⟨(some 10), (.bin .gtr), [.t 9, .c (.int .i64 64)], none, [1]⟩] false)
   (.cond (.t 10)
    (.seq
     (.region [⟨(some 2), .mov, [.c (.int .i64 8)], none, []⟩] false)
     .ret)
    .skip))
  (.keep [0] [] b59k3))
def b59 : DCode :=
 (.seq
  (.region [⟨(some 2), .mov, [.c (.int .i64 0)], none, []⟩] false)
  (.seq
   (.seq
    (.region [⟨(some 5), .movv, [.t 0], none, []⟩,
      ⟨(some 6), .len, [.t 5], none, [0]⟩,
      ⟨(some 7), (.bin .eql), [.t 6, .c (.int .i64 0)], none, [1]⟩] false)
    (.cond (.t 7)
     (.seq
      (.region [⟨(some 2), .mov, [.c (.int .i64 10)], none, []⟩] false)
      .ret)
     .skip))
   (.keep [0] [] b59k4)))
def d59 : DFn := ⟨1, 25, [.tmp 2], b59⟩
theorem body59 : d59.body = b59 := rfl
theorem res59 : d59.res = [.tmp 2] := rfl
theorem k59 : chkFn Try.prog Try.f59 d59 = true := by kernel_rfl

/-- guidevane/guidevaneref04.CopyBoxes -/
def b61 : DCode :=
 (.seq
  (.region [⟨(some 2), .mov, [.c (.slc 4 [])], none, []⟩] false)
  (.seq
   (.region [⟨(some 3), (.bsl 4), [], none, []⟩,
     ⟨(some 4), .movv, [.t 0], none, []⟩,
     ⟨(some 5), (.append 4 32 false), [.t 3, .t 4], none, [0, 1]⟩,
     ⟨(some 2), .movv, [.t 5], none, [2, 2, 0, 1, 2]⟩] false)
   .ret))
def d61 : DFn := ⟨1, 6, [.tmp 2], b61⟩
theorem body61 : d61.body = b61 := rfl
theorem res61 : d61.res = [.tmp 2] := rfl
theorem k61 : chkFn Try.prog Try.f61 d61 = true := by kernel_rfl

/-- guidevane/guidevaneref04.Count -/
def b80 : DCode :=
 (.seq
  (.region [⟨(some 1), .box, [.t 0], none, []⟩,
    ⟨(some 2), .mov, [.c (.int .i64 0)], none, []⟩] false)
  (.seq
   (.region [⟨(some 3), (.faddr 0 true 2), [.t 1], none, []⟩,
     ⟨(some 4), (.faddr 1 false 1), [.t 3], none, [0]⟩,
     ⟨(some 5), (.load false 1), [.t 4], none, [1]⟩,
     ⟨(some 6), (.faddr 0 true 2), [.t 1], none, []⟩,
     ⟨(some 7), (.faddr 0 false 1), [.t 6], none, [3]⟩,
     ⟨(some 8), (.load false 1), [.t 7], none, [4]⟩,
     ⟨(some 9), (.bin .sub), [.t 5, .t 8], none, [2, 5]⟩,
     ⟨(some 10), (.bin .add), [.t 9, .c (.int .i64 1)], none, [6]⟩,
     ⟨(some 11), (.faddr 2 true 2), [.t 1], none, []⟩,
     ⟨(some 12), (.faddr 1 false 1), [.t 11], none, [8]⟩,
     ⟨(some 13), (.load false 1), [.t 12], none, [9]⟩,
     ⟨(some 14), (.faddr 2 true 2), [.t 1], none, []⟩,
     ⟨(some 15), (.faddr 0 false 1), [.t 14], none, [11]⟩,
     ⟨(some 16), (.load false 1), [.t 15], none, [12]⟩,
     ⟨(some 17), (.bin .sub), [.t 13, .t 16], none, [10, 13]⟩,
     ⟨(some 18), (.bin .add), [.t 17, .c (.int .i64 1)], none, [14]⟩,
     ⟨(some 19), (.bin .mul), [.t 10, .t 18], none, [7, 15]⟩,
     ⟨(some 2), .mov, [.t 19], none, [16, 0, 1, 2, 3, 4, 5, 6, 7, 8, 9, 10, 11, 12, 13, 14, 15, 16]⟩] false)
   .ret))
def d80 : DFn := ⟨1, 20, [.tmp 2], b80⟩
theorem body80 : d80.body = b80 := rfl
theorem res80 : d80.res = [.tmp 2] := rfl
theorem k80 : chkFn Try.prog Try.f80 d80 = true := by kernel_rfl

/-- guidevane/guidevaneref04.Uncovered -/
def b83k0 : DCode :=
 (.seq
  (.block 5
   (.region [⟨(some 40), .mov, [.t 9], none, []⟩,
     ⟨(some 41), .mov, [.t 40], none, [0]⟩,
     ⟨(some 42), .movv, [.t 1], (some (41, false)), [1]⟩,
     ⟨(some 43), .mov, [.t 10], (some (41, false)), [1]⟩,
     ⟨(some 44), (.iaddr 4), [.t 42, .t 43], (some (41, false)), [2, 3, 1]⟩,
     ⟨(some 45), (.load true 4), [.t 44], (some (41, false)), [4, 1]⟩,
     ⟨(some 46), (.load true 2), [.t 8], (some (41, false)), [1]⟩,
     ⟨(some 47), .call, [.f 26, .t 45, .t 46], (some (41, false)), [5, 6, 1, 1]⟩,
     ⟨(some 48), .pick, [.t 41, .c (.bool true), .t 47], none, [1, 7]⟩,
     ⟨(some 9), .mov, [.t 48], none, [8, 7, 0, 1, 2, 3, 4, 5, 6, 7, 8]⟩] true))
  (.region [⟨(some 38), .mov, [.t 10], none, []⟩,
    ⟨(some 39), (.bin .add), [.t 38, .c (.int .i64 1)], none, [0]⟩,
    ⟨(some 10), .mov, [.t 39], none, [1, 0, 1]⟩] false))
def b83l0 : DCode := .keep [1, 2, 4, 6, 7, 8, 9, 10] [2, 4, 8]
  (.seq
   (.seq
    (.region [⟨(some 34), .mov, [.t 10], none, []⟩,
      ⟨(some 35), .movv, [.t 1], none, []⟩,
      ⟨(some 36), .len, [.t 35], none, [1]⟩,
      ⟨(some 37), (.bin .lss), [.t 34, .t 36], none, [0, 2]⟩] false)
    (.cond (.t 37)
     .skip
     (.exit 4)))
   (.keep [1, 2, 4, 6, 7, 8, 9, 10] [2, 4, 8] b83k0))
def b83k1 : DCode :=
 (.seq
  (.region [⟨(some 49), .mov, [.t 9], none, []⟩,
    ⟨(some 50), (.un .not), [.t 49], none, [0]⟩] false)
  (.cond (.t 50)
   (.seq
    (.region [⟨(some 51), (.load true 2), [.t 8], none, []⟩,
      ⟨none, (.store 2), [.t 4, .t 51], none, [0, 0]⟩,
      ⟨(some 5), .mov, [.c (.bool true)], none, [1, 0, 1]⟩] false)
    .ret)
   .skip))
def b83k2 : DCode :=
 (.region [⟨(some 29), .mov, [.t 7], none, []⟩,
   ⟨(some 30), (.bin .add), [.t 29, .c (.int .i64 1)], none, [0]⟩,
   ⟨(some 7), .mov, [.t 30], none, [1, 0, 1]⟩] false)
def b83k3 : DCode :=
 (.seq
  (.block 3
   (.seq
    (.region [⟨(some 31), .mov, [.t 6], none, []⟩,
      ⟨(some 32), .mov, [.t 7], none, []⟩,
      ⟨(some 33), (.build [(.imm (.int .i64 0)), (.imm (.int .i64 0))] [(0, 1), (1, 1)]), [.t 31, .t 32], none, [0, 1]⟩,
      ⟨(some 8), (.alloc [(.imm (.int .i64 0)), (.imm (.int .i64 0))]), [], none, []⟩,
      ⟨none, (.store 2), [.t 8, .t 33], none, [3, 2, 0, 1, 2, 3]⟩] false)
    (.seq
     (.region [⟨(some 9), .mov, [.c (.bool false)], none, []⟩] false)
     (.seq
      (.seq
       (.region [⟨(some 10), .mov, [.c (.int .i64 0)], none, []⟩] false)
       (.block 4
        (.loop b83l0)))
      (.keep [1, 2, 4, 6, 7, 8, 9] [2, 4, 8] b83k1)))))
  (.keep [1, 2, 4, 6, 7] [2, 4] b83k2))
def b83l1 : DCode := .keep [1, 2, 4, 6, 7] [2, 4]
  (.seq
   (.seq
    (.region [⟨(some 24), .mov, [.t 7], none, []⟩,
      ⟨(some 25), (.faddr 2 true 2), [.t 2], none, []⟩,
      ⟨(some 26), (.faddr 1 false 1), [.t 25], none, [1]⟩,
      ⟨(some 27), (.load false 1), [.t 26], none, [2]⟩,
      ⟨(some 28), (.bin .leq), [.t 24, .t 27], none, [0, 3]⟩] false)
    (.cond (.t 28)
     .skip
     (.exit 2)))
   (.keep [1, 2, 4, 6, 7] [2, 4] b83k3))
def b83k4 : DCode :=
 (.region [⟨(some 19), .mov, [.t 6], none, []⟩,
   ⟨(some 20), (.bin .add), [.t 19, .c (.int .i64 1)], none, [0]⟩,
   ⟨(some 6), .mov, [.t 20], none, [1, 0, 1]⟩] false)
def b83k5 : DCode :=
 (.seq
  (.block 1
   (.seq
    (.region [⟨(some 21), (.faddr 2 true 2), [.t 2], none, []⟩,
      ⟨(some 22), (.faddr 0 false 1), [.t 21], none, [0]⟩,
      ⟨(some 23), (.load false 1), [.t 22], none, [1]⟩,
      ⟨(some 7), .mov, [.t 23], none, [2, 0, 1, 2]⟩] false)
    (.block 2
     (.loop b83l1))))
  (.keep [1, 2, 4, 6] [2, 4] b83k4))
def b83l2 : DCode := .keep [1, 2, 4, 6] [2, 4]
  (.seq
   (.seq
    (.region [⟨(some 14), .mov, [.t 6], none, []⟩,
      ⟨(some 15), (.faddr 0 true 2), [.t 2], none, []⟩,
      ⟨(some 16), (.faddr 1 false 1), [.t 15], none, [1]⟩,
      ⟨(some 17), (.load false 1), [.t 16], none, [2]⟩,
      ⟨(some 18), (.bin .leq), [.t 14, .t 17], none, [0, 3]⟩] false)
    (.cond (.t 18)
     .skip
     (.exit 0)))
   (.keep [1, 2, 4, 6] [2, 4] b83k5))
def b83k6 : DCode :=
 (.seq
  (.region [⟨(some 52), (.build [(.imm (.int .i64 0)), (.imm (.int .i64 0))] []), [], none, []⟩,
    ⟨none, (.store 2), [.t 4, .t 52], none, [0, 0]⟩,
    ⟨(some 5), .mov, [.c (.bool false)], none, [1, 0, 1]⟩] false)
  .ret)
def b83 : DCode :=
 (.seq
  (.region [⟨(some 2), .box, [.t 0], none, []⟩,
    ⟨(some 4), (.alloc [(.imm (.int .i64 0)), (.imm (.int .i64 0))]), [], none, []⟩,
    ⟨(some 5), .mov, [.c (.bool false)], none, []⟩] false)
  (.seq
   (.seq
    (.region [⟨(some 11), (.faddr 0 true 2), [.t 2], none, []⟩,
      ⟨(some 12), (.faddr 0 false 1), [.t 11], none, [0]⟩,
      ⟨(some 13), (.load false 1), [.t 12], none, [1]⟩,
      ⟨(some 6), .mov, [.t 13], none, [2, 0, 1, 2]⟩] false)
    (.block 0
     (.loop b83l2)))
   (.keep [4] [4] b83k6)))
def d83 : DFn := ⟨2, 53, [.cell 4 true 2, .tmp 5], b83⟩
theorem body83 : d83.body = b83 := rfl
theorem res83 : d83.res = [.cell 4 true 2, .tmp 5] := rfl
theorem k83 : chkFn Try.prog Try.f83 d83 = true := by kernel_rfl

/-- guidevane/guidevanelaw04.SurgeCovers -/
def b13k0 : DCode :=
 (.seq
  (.region [⟨(some 145), .mov, [.t 10], none, []⟩,
    ⟨(some 146), (.bin .eql), [.t 145, .c (.int .i64 0)], none, [0]⟩,
    ⟨(some 147), .mov, [.t 146], none, [1]⟩,
    ⟨(some 148), (.load true 2), [.t 9], (some (147, true)), [2]⟩,
    ⟨(some 149), (.build [(.imm (.int .i64 0)), (.imm (.int .i64 0))] []), [], (some (147, true)), [2]⟩,
    ⟨(some 150), (.eqs [false, false] false), [.t 148, .t 149], (some (147, true)), [3, 4, 2]⟩,
    ⟨(some 151), .pick, [.t 147, .t 150, .c (.bool false)], none, [2, 5]⟩,
    ⟨(some 6), .mov, [.t 151], none, [6, 2, 0, 1, 2, 3, 4, 5, 6]⟩] false)
  .ret)
def b13k1 : DCode :=
 (.seq
  (.region [⟨(some 131), (.faddr 0 true 4), [.t 4], none, []⟩,
    ⟨(some 132), (.load true 4), [.t 131], none, [0]⟩,
    ⟨(some 133), .movv, [.t 2], none, []⟩,
    ⟨(some 134), .call, [.f 83, .t 132, .t 133], none, [1, 2]⟩,
    ⟨(some 130), .mov, [.t 134], none, [3]⟩,
    ⟨(some 135), (.ext 0), [.t 130], none, [4]⟩,
    ⟨(some 136), (.ext 1), [.t 130], none, [4]⟩,
    ⟨(some 13), (.alloc [(.imm (.int .i64 0)), (.imm (.int .i64 0))]), [], none, []⟩,
    ⟨none, (.store 2), [.t 13, .t 135], none, [7, 5, 3, 0, 1, 2, 3, 4, 5, 7]⟩,
    ⟨(some 14), .mov, [.t 136], none, [6, 8, 0, 1, 2, 3, 4, 5, 6, 7, 8]⟩] false)
  (.seq
   (.seq
    (.region [⟨(some 137), .mov, [.t 14], none, []⟩] false)
    (.cond (.t 137)
     (.seq
      (.region [⟨(some 138), .mov, [.t 10], none, []⟩,
        ⟨(some 139), (.bin .eql), [.t 138, .c (.int .i64 14)], none, [0]⟩,
        ⟨(some 140), .mov, [.t 139], none, [1]⟩,
        ⟨(some 141), (.load true 2), [.t 9], (some (140, true)), [2]⟩,
        ⟨(some 142), (.load true 2), [.t 13], (some (140, true)), [2]⟩,
        ⟨(some 143), (.eqs [false, false] false), [.t 141, .t 142], (some (140, true)), [3, 4, 2]⟩,
        ⟨(some 144), .pick, [.t 140, .t 143, .c (.bool false)], none, [2, 5]⟩,
        ⟨(some 6), .mov, [.t 144], none, [6, 2, 0, 1, 2, 3, 4, 5, 6]⟩] false)
      .ret)
     .skip))
   (.keep [9, 10] [9] b13k0)))
def b13k2 : DCode :=
 (.seq
  (.seq
   (.region [⟨(some 120), .mov, [.t 11], none, []⟩,
     ⟨(some 121), (.bin .neq), [.t 120, .c (.int .i64 0)], none, [0]⟩] false)
   (.cond (.t 121)
    (.seq
     (.region [⟨(some 122), .mov, [.t 10], none, []⟩,
       ⟨(some 123), .mov, [.t 11], none, []⟩,
       ⟨(some 124), (.bin .eql), [.t 122, .t 123], none, [0, 1]⟩,
       ⟨(some 125), .mov, [.t 124], none, [2]⟩,
       ⟨(some 126), (.load true 2), [.t 9], (some (125, true)), [3]⟩,
       ⟨(some 127), (.build [(.imm (.int .i64 0)), (.imm (.int .i64 0))] []), [], (some (125, true)), [3]⟩,
       ⟨(some 128), (.eqs [false, false] false), [.t 126, .t 127], (some (125, true)), [4, 5, 3]⟩,
       ⟨(some 129), .pick, [.t 125, .t 128, .c (.bool false)], none, [3, 6]⟩,
       ⟨(some 6), .mov, [.t 129], none, [7, 3, 0, 1, 2, 3, 4, 5, 6, 7]⟩] false)
     .ret)
    .skip))
  (.keep [2, 4, 9, 10] [4, 9] b13k1))
def b13k3 : DCode :=
 (.seq
  (.seq
   (.region [⟨(some 112), .mov, [.t 11], none, []⟩,
     ⟨(some 113), (.bin .eql), [.t 112, .c (.int .i64 0)], none, [0]⟩,
     ⟨(some 114), .mov, [.t 113], none, [1]⟩,
     ⟨(some 115), (.faddr 0 true 4), [.t 4], (some (114, true)), [2]⟩,
     ⟨(some 116), (.load true 4), [.t 115], (some (114, true)), [3, 2]⟩,
     ⟨(some 117), .call, [.f 80, .t 116], (some (114, true)), [4, 2, 2]⟩,
     ⟨(some 118), (.bin .gtr), [.t 117, .c (.int .i64 4000)], (some (114, true)), [5, 2]⟩,
     ⟨(some 119), .pick, [.t 114, .t 118, .c (.bool false)], none, [2, 6]⟩] false)
   (.cond (.t 119)
    (.region [⟨(some 11), .mov, [.c (.int .i64 8)], none, []⟩] false)
    .skip))
  (.keep [2, 4, 9, 10, 11] [4, 9] b13k2))
def b13k4 : DCode :=
 (.seq
  (.seq
   (.region [⟨(some 105), (.faddr 0 true 4), [.t 4], none, []⟩,
     ⟨(some 106), (.load true 4), [.t 105], none, [0]⟩,
     ⟨(some 107), .call, [.f 24, .t 106], none, [1]⟩,
     ⟨(some 11), .mov, [.t 107], none, [2, 2, 0, 1, 2]⟩] false)
   (.seq
    (.region [⟨(some 108), .mov, [.t 11], none, []⟩,
      ⟨(some 109), (.bin .eql), [.t 108, .c (.int .i64 0)], none, [0]⟩] false)
    (.cond (.t 109)
     (.region [⟨(some 110), .movv, [.t 2], none, []⟩,
       ⟨(some 111), .call, [.f 59, .t 110], none, [0]⟩,
       ⟨(some 11), .mov, [.t 111], none, [1, 1, 0, 1]⟩] false)
     .skip)))
  (.keep [2, 4, 9, 10, 11] [4, 9] b13k3))
def b13k5 : DCode :=
 (.seq
  (.seq
   (.region [⟨(some 76), (.load true 7), [.t 4], none, []⟩,
     ⟨(some 77), .call, [.f 76, .t 76], none, [0]⟩,
     ⟨(some 12), .mov, [.t 77], none, [1, 1, 0, 1]⟩] false)
   (.seq
    (.region [⟨(some 78), .mov, [.t 12], none, []⟩,
      ⟨(some 79), (.bin .neq), [.t 78, .c (.int .i64 0)], none, [0]⟩,
      ⟨(some 80), .mov, [.t 79], none, [1]⟩,
      ⟨(some 81), .mov, [.t 8], (some (80, true)), [2]⟩,
      ⟨(some 82), .mov, [.t 12], (some (80, true)), [2]⟩,
      ⟨(some 83), (.bin .neq), [.t 81, .t 82], (some (80, true)), [3, 4, 2]⟩,
      ⟨(some 84), .mov, [.t 83], (some (80, true)), [5, 2, 2]⟩,
      ⟨(some 85), .movv, [.t 7], (some (84, false)), [6]⟩,
      ⟨(some 86), .len, [.t 85], (some (84, false)), [7, 6]⟩,
      ⟨(some 87), (.bin .neq), [.t 86, .c (.int .i64 0)], (some (84, false)), [8, 6]⟩,
      ⟨(some 88), .pick, [.t 84, .c (.bool true), .t 87], (some (80, true)), [6, 9, 2]⟩,
      ⟨(some 89), .pick, [.t 80, .t 88, .c (.bool false)], none, [2, 10]⟩,
      ⟨(some 90), .mov, [.t 89], none, [11, 6]⟩,
      ⟨(some 91), .mov, [.t 12], (some (90, false)), [12]⟩,
      ⟨(some 92), (.bin .eql), [.t 91, .c (.int .i64 0)], (some (90, false)), [13, 12]⟩,
      ⟨(some 93), .mov, [.t 92], (some (90, false)), [14, 12, 12]⟩,
      ⟨(some 94), .mov, [.t 8], (some (93, true)), [15]⟩,
      ⟨(some 95), (.bin .neq), [.t 94, .c (.int .i64 0)], (some (93, true)), [16, 15]⟩,
      ⟨(some 96), .mov, [.t 95], (some (93, true)), [17, 15, 15]⟩,
      ⟨(some 97), .movv, [.t 7], (some (96, false)), [18]⟩,
      ⟨(some 98), (.load true 7), [.t 4], (some (96, false)), [18]⟩,
      ⟨(some 99), .call, [.f 82, .t 98], (some (96, false)), [20, 18, 18]⟩,
      ⟨(some 100), .call, [.f 57, .t 97, .t 99], (some (96, false)), [19, 21, 21, 18]⟩,
      ⟨(some 101), (.un .not), [.t 100], (some (96, false)), [22, 18]⟩,
      ⟨(some 102), .pick, [.t 96, .c (.bool true), .t 101], (some (93, true)), [18, 23, 15]⟩,
      ⟨(some 103), .pick, [.t 93, .t 102, .c (.bool false)], (some (90, false)), [15, 24, 12]⟩,
      ⟨(some 104), .pick, [.t 90, .c (.bool true), .t 103], none, [12, 25]⟩] false)
    (.cond (.t 104)
     (.seq
      (.region [⟨(some 6), .mov, [.c (.bool false)], none, []⟩] false)
      .ret)
     .skip)))
  (.keep [2, 4, 9, 10] [4, 9] b13k4))
def b13k6 : DCode :=
 (.seq
  (.region [⟨(some 40), (.load true 5), [.t 3], none, []⟩,
    ⟨(some 41), (.load true 7), [.t 4], none, []⟩,
    ⟨(some 42), .call, [.f 79, .t 40, .t 41], none, [0, 1]⟩,
    ⟨(some 39), .mov, [.t 42], none, [2]⟩,
    ⟨(some 43), (.ext 0), [.t 39], none, [3]⟩,
    ⟨(some 44), (.ext 1), [.t 39], none, [3]⟩,
    ⟨(some 7), .movv, [.t 43], none, [4, 2, 0, 1, 2, 3, 4]⟩,
    ⟨(some 8), .mov, [.t 44], none, [5, 6, 0, 1, 2, 3, 4, 5, 6]⟩] false)
  (.seq
   (.region [⟨(some 46), (.load true 5), [.t 3], none, []⟩,
     ⟨(some 47), (.faddr 0 true 4), [.t 4], none, []⟩,
     ⟨(some 48), (.load true 4), [.t 47], none, [1]⟩,
     ⟨(some 49), .movv, [.t 2], none, []⟩,
     ⟨(some 50), .call, [.f 61, .t 49], none, [3]⟩,
     ⟨(some 51), .call, [.f 81, .t 46, .t 48, .t 50], none, [0, 2, 4, 4]⟩,
     ⟨(some 45), .mov, [.t 51], none, [5]⟩,
     ⟨(some 52), (.ext 0), [.t 45], none, [6]⟩,
     ⟨(some 53), (.ext 1), [.t 45], none, [6]⟩,
     ⟨(some 9), (.alloc [(.imm (.int .i64 0)), (.imm (.int .i64 0))]), [], none, []⟩,
     ⟨none, (.store 2), [.t 9, .t 52], none, [9, 7, 5, 0, 1, 2, 3, 4, 5, 6, 7, 9]⟩,
     ⟨(some 10), .mov, [.t 53], none, [8, 10, 0, 1, 2, 3, 4, 5, 6, 7, 8, 9, 10]⟩] true)
   (.seq
    (.region [⟨(some 54), (.load true 5), [.t 3], none, []⟩,
      ⟨(some 55), .call, [.f 17, .t 54], none, [0]⟩,
      ⟨(some 11), .mov, [.t 55], none, [1, 1, 0, 1]⟩] false)
    (.seq
     (.seq
      (.region [⟨(some 56), .mov, [.t 11], none, []⟩,
        ⟨(some 57), (.bin .neq), [.t 56, .c (.int .i64 0)], none, [0]⟩] false)
      (.cond (.t 57)
       (.seq
        (.region [⟨(some 58), .mov, [.t 8], none, []⟩,
          ⟨(some 59), .mov, [.t 11], none, []⟩,
          ⟨(some 60), (.bin .eql), [.t 58, .t 59], none, [0, 1]⟩,
          ⟨(some 61), .mov, [.t 60], none, [2]⟩,
          ⟨(some 62), .mov, [.t 10], (some (61, true)), [3]⟩,
          ⟨(some 63), .mov, [.t 11], (some (61, true)), [3]⟩,
          ⟨(some 64), (.bin .eql), [.t 62, .t 63], (some (61, true)), [4, 5, 3]⟩,
          ⟨(some 65), .pick, [.t 61, .t 64, .c (.bool false)], none, [3, 6]⟩,
          ⟨(some 66), .mov, [.t 65], none, [7, 3]⟩,
          ⟨(some 67), .movv, [.t 7], (some (66, true)), [8]⟩,
          ⟨(some 68), .len, [.t 67], (some (66, true)), [9, 8]⟩,
          ⟨(some 69), (.bin .eql), [.t 68, .c (.int .i64 0)], (some (66, true)), [10, 8]⟩,
          ⟨(some 70), .pick, [.t 66, .t 69, .c (.bool false)], none, [8, 11]⟩,
          ⟨(some 71), .mov, [.t 70], none, [12, 8]⟩,
          ⟨(some 72), (.load true 2), [.t 9], (some (71, true)), [13]⟩,
          ⟨(some 73), (.build [(.imm (.int .i64 0)), (.imm (.int .i64 0))] []), [], (some (71, true)), [13]⟩,
          ⟨(some 74), (.eqs [false, false] false), [.t 72, .t 73], (some (71, true)), [14, 15, 13]⟩,
          ⟨(some 75), .pick, [.t 71, .t 74, .c (.bool false)], none, [13, 16]⟩,
          ⟨(some 6), .mov, [.t 75], none, [17, 13, 0, 1, 2, 3, 4, 5, 6, 7, 8, 9, 10, 11, 12, 13, 14, 15, 16, 17]⟩] false)
        .ret)
       .skip))
     (.keep [2, 4, 7, 8, 9, 10] [4, 9] b13k5)))))
def b13k7 : DCode :=
 (.seq
  (.seq
   (.region [⟨(some 17), .movv, [.t 2], none, []⟩,
     ⟨(some 18), (.build [(.imm (.slc 2 [])), (.imm (.slc 1 [])), (.imm (.int .i64 0)), (.imm (.int .i64 0)), (.imm (.int .i64 0)), (.imm (.int .i64 0)), (.imm (.slc 4 []))] [(6, 1)]), [.t 17], none, [0]⟩,
     ⟨(some 19), .call, [.f 29, .t 18], none, [1]⟩,
     ⟨(some 20), (.un .not), [.t 19], none, [2]⟩,
     ⟨(some 21), .mov, [.t 20], none, [3, 2]⟩,
     ⟨(some 22), (.faddr 0 true 4), [.t 4], (some (21, false)), [4]⟩,
     ⟨(some 23), (.load true 4), [.t 22], (some (21, false)), [5, 4]⟩,
     ⟨(some 24), .call, [.f 24, .t 23], (some (21, false)), [6, 4, 4]⟩,
     ⟨(some 25), (.bin .eql), [.t 24, .c (.int .i64 0)], (some (21, false)), [7, 4]⟩,
     ⟨(some 26), .mov, [.t 25], (some (21, false)), [8, 7, 4]⟩,
     ⟨(some 27), (.faddr 0 true 4), [.t 4], (some (26, true)), [9]⟩,
     ⟨(some 28), (.load true 4), [.t 27], (some (26, true)), [10, 9]⟩,
     ⟨(some 29), .call, [.f 80, .t 28], (some (26, true)), [11, 9, 9]⟩,
     ⟨(some 30), (.bin .gtr), [.t 29, .c (.int .i64 300)], (some (26, true)), [12, 9]⟩,
     ⟨(some 31), .pick, [.t 26, .t 30, .c (.bool false)], (some (21, false)), [9, 13, 4]⟩,
     ⟨(some 32), .mov, [.t 31], (some (21, false)), [14, 12, 4]⟩,
     ⟨(some 33), (.faddr 0 true 4), [.t 4], (some (32, true)), [15]⟩,
     ⟨(some 34), (.load true 4), [.t 33], (some (32, true)), [16, 15]⟩,
     ⟨(some 35), .call, [.f 80, .t 34], (some (32, true)), [17, 15, 15]⟩,
     ⟨(some 36), (.bin .leq), [.t 35, .c (.int .i64 4000)], (some (32, true)), [18, 15]⟩,
     ⟨(some 37), .pick, [.t 32, .t 36, .c (.bool false)], (some (21, false)), [15, 19, 4]⟩,
     ⟨(some 38), .pick, [.t 21, .c (.bool true), .t 37], none, [4, 20]⟩] false)
   (.cond (.t 38)
    (.seq
     (.region [⟨(some 6), .mov, [.c (.bool true)], none, []⟩] false)
     .ret)
    .skip))
  (.keep [2, 3, 4] [3, 4] b13k6))
def b13 : DCode :=
 (.seq
  (.region [⟨(some 3), .box, [.t 0], none, []⟩,
    ⟨(some 4), .box, [.t 1], none, []⟩,
    ⟨(some 6), .mov, [.c (.bool false)], none, []⟩] false)
  (.seq
   (.seq
    (.region [⟨(some 15), .call, [.f 15], none, []⟩,
      ⟨(some 16), (.un .not), [.t 15], none, [0]⟩] false)
    (.cond (.t 16)
     (.seq
      (.region [⟨(some 6), .mov, [.c (.bool false)], none, []⟩] false)
      .ret)
     .skip))
   (.keep [2, 3, 4] [3, 4] b13k7)))
def d13 : DFn := ⟨3, 152, [.tmp 6], b13⟩
theorem body13 : d13.body = b13 := rfl
theorem res13 : d13.res = [.tmp 6] := rfl
theorem k13 : chkFn Try.prog Try.f13 d13 = true := by kernel_rfl

end Go.DI

/- Contracts: covers of boxes, of the program and of the reference. No condition. -/
set_option linter.unusedSimpArgs false
set_option maxRecDepth 20000
namespace Go.DI
open Go.Proofs Go.RowKit Sg

/-- A part of a range. -/
def divP (lo hi c : Int) (i : Nat) : Int × Int := (lo + ((i : Int) * (hi - lo + 1)) / c, lo + (((i : Int) + 1) * (hi - lo + 1)) / c - 1)
def oneD (x : Int × Int) : List (Int × Int) := if x.1 ≤ x.2 then [x] else []
def divR (lo hi c : Int) (i : Nat) : List (Int × Int) := ((List.range c.toNat).drop i).flatMap fun (j : Nat) => oneD (divP lo hi c j)
def divL (lo hi c : Int) : List (Int × Int) := divR lo hi c 0
theorem divR_step {lo hi c : Int} {i : Nat} (h : i < c.toNat) : divR lo hi c i = oneD (divP lo hi c i) ++ divR lo hi c (i + 1) := by
  unfold divR
  rw [List.drop_eq_getElem_cons (by simpa using h), List.flatMap_cons, List.getElem_range]
theorem divR_end {lo hi c : Int} {i : Nat} (h : c.toNat ≤ i) : divR lo hi c i = [] := by
  unfold divR
  rw [List.drop_of_length_le (by simpa using h)]
  rfl
theorem divR_length {lo hi c : Int} {i : Nat} : (divR lo hi c i).length ≤ c.toNat := by
  unfold divR
  have := length_flat (l := (List.range c.toNat).drop i) (m := 1) (g := fun (j : Nat) => oneD (divP lo hi c j)) fun x _ => by unfold oneD; split <;> simp
  rw [List.length_drop, List.length_range] at this
  omega

structure DivOk (lo hi c : Int) : Prop where
  a1 : -100000 ≤ lo
  a2 : lo ≤ hi
  a3 : hi ≤ 100000
  a4 : 1 ≤ c ∧ c ≤ 8

theorem div_bd {lo hi c : Int} (h : DivOk lo hi c) {i : Nat} (hi8 : (i : Int) ≤ 8) : (0 ≤ (i : Int) * (hi - lo + 1) ∧ (i : Int) * (hi - lo + 1) ≤ 1600008) ∧ 0 ≤ ((i : Int) * (hi - lo + 1)) / c ∧ ((i : Int) * (hi - lo + 1)) / c ≤ 1600008 := by
  have h1 := h.a1; have h2 := h.a2; have h3 := h.a3; have h4 := h.a4
  have a : 0 ≤ (i : Int) * (hi - lo + 1) := Int.mul_nonneg (by omega) (by omega)
  have b : (i : Int) * (hi - lo + 1) ≤ 8 * 200001 := Int.mul_le_mul hi8 (by omega) (by omega) (by omega)
  refine ⟨⟨a, by omega⟩, Int.ediv_nonneg a (by omega), ?_⟩
  have := Int.ediv_le_self c a
  omega

theorem s_divided {lo hi c : Int} : Contract Try.prog 163 [stI lo hi, .int .i64 c] (.func 172 [] [.ptr (stI lo hi), .ptr (.agg [.int .i64 c])]) := by
  refine contract_run Try.func163 k163 rfl ?_
  simp only [body163, b163, res163, ruI, ssI, sbI, spI, swI, scI, stI, srI, saI, snI, ↓reduceIte, reduceCtorEq, Nat.reduceEqDiff, Nat.reduceAdd, Nat.reduceMul, Nat.reduceSub, Nat.reduceLeDiff, Nat.reduceBEq, Int.reduceToNat, Int.reduceLE, Int.reduceLT, Int.reduceEq, Int.reduceNe, di0, di1, di2, di3, di4, di5, di6, di7, di8, di9, postX_ret, postX_normal, ex_some]

theorem it_divided {lo hi c : Int} (hd : DivOk lo hi c) (l : Nat) :
    BC Try.prog 172 [.yld l, .imm (.ptr (stI lo hi)), .imm (.ptr (.agg [.int .i64 c]))] (lookR [(0, .seq l (false, some ((divL lo hi c).map fun x => [stI x.1 x.2])))]) fun _ R' => seqOver l false R' := by
  have h1 := hd.a1; have h2 := hd.a2; have h3 := hd.a3; have h4 := hd.a4
  refine bc_run Try.func172 k172 rfl rfl ?_
  simp only [body172, b172, res172, b172k0, b172k1, ruI, ssI, sbI, spI, swI, scI, stI, srI, saI, snI, ↓reduceIte, reduceCtorEq, Nat.reduceEqDiff, Nat.reduceAdd, Nat.reduceMul, Nat.reduceSub, Nat.reduceLeDiff, Nat.reduceBEq, Int.reduceToNat, Int.reduceLE, Int.reduceLT, Int.reduceEq, Int.reduceNe, di0, di1, di2, di3, di4, di5, di6, di7, di8, di9, postX_ret, postX_normal, ex_some]
  rw [show IntKind.wrap .i64 (hi - lo) = hi - lo from wrap64 (by omega) (by omega)]
  rw [show IntKind.wrap .i64 (hi - lo + 1) = hi - lo + 1 from wrap64 (by omega) (by omega)]
  refine loop_keep (α := Nat) rfl (fun i => c.toNat - i) (fun i => i ≤ c.toNat)
    (fun i => [(0, .yld l), (1, .imm (.ptr (stI lo hi))), (2, .imm (.ptr (.agg [.int .i64 c]))), (4, .imm (.int .i64 (hi - lo + 1))), (13, .imm (.int .i64 c)), (14, .imm (.int .i64 i))])
    (fun i => [(0, .seq l (false, some ((divR lo hi c i).map fun x => [stI x.1 x.2])))]) 0 (Nat.zero_le _) (by simp only [ruI, ssI, sbI, spI, swI, scI, stI, srI, saI, snI, ↓reduceIte, reduceCtorEq, Nat.reduceEqDiff, Nat.reduceAdd, Nat.reduceMul, Nat.reduceSub, Nat.reduceLeDiff, Nat.reduceBEq, Int.reduceToNat, Int.reduceLE, Int.reduceLT, Int.reduceEq, Int.reduceNe, di0, di1, di2, di3, di4, di5, di6, di7, di8, di9, postX_ret, postX_normal, ex_some] <;> rfl) ?_
  intro i hi8 ih
  simp only [res172, b172k0, b172k1, ruI, ssI, sbI, spI, swI, scI, stI, srI, saI, snI, ↓reduceIte, reduceCtorEq, Nat.reduceEqDiff, Nat.reduceAdd, Nat.reduceMul, Nat.reduceSub, Nat.reduceLeDiff, Nat.reduceBEq, Int.reduceToNat, Int.reduceLE, Int.reduceLT, Int.reduceEq, Int.reduceNe, di0, di1, di2, di3, di4, di5, di6, di7, di8, di9, postX_ret, postX_normal, ex_some]
  split
  case isFalse h =>
    rw [outD_nil res172]
    refine ⟨_, rfl, rfl, .inl ⟨rfl, ?_⟩⟩
    rw [divR_end (by omega)]
    rfl
  rename_i h
  have b1 := div_bd hd (i := i) (by omega)
  have b2 := div_bd hd (i := i + 1) (by omega)
  push_cast at b2
  rw [show IntKind.wrap .i64 ((i : Int) * (hi - lo + 1)) = (i : Int) * (hi - lo + 1) from wrap64 (by omega) (by omega)]
  rw [show IntKind.wrap .i64 ((i : Int) + 1) = (i : Int) + 1 from wrap64 (by omega) (by omega)]
  rw [show IntKind.wrap .i64 (((i : Int) + 1) * (hi - lo + 1)) = ((i : Int) + 1) * (hi - lo + 1) from wrap64 (by omega) (by omega)]
  rw [Int.tdiv_eq_ediv_of_nonneg b1.1.1, Int.tdiv_eq_ediv_of_nonneg b2.1.1]
  rw [divR_step (by omega)]
  unfold oneD divP
  dsimp only
  generalize ((i : Int) * (hi - lo + 1)) / c = q1 at b1 ⊢
  generalize (((i : Int) + 1) * (hi - lo + 1)) / c = q2 at b2 ⊢
  simp only [show IntKind.wrap .i64 (q1) = q1 from wrap64 (by omega) (by omega)]
  simp only [show IntKind.wrap .i64 (q2) = q2 from wrap64 (by omega) (by omega)]
  simp only [show IntKind.wrap .i64 (lo + q1) = lo + q1 from wrap64 (by omega) (by omega)]
  simp only [show IntKind.wrap .i64 (lo + q2) = lo + q2 from wrap64 (by omega) (by omega)]
  simp only [show IntKind.wrap .i64 (lo + q2 - 1) = lo + q2 - 1 from wrap64 (by omega) (by omega)]
  repeat (refine And.intro (by omega) ?_)
  by_cases hq : lo + q1 ≤ lo + q2 - 1
  · simp only [hq, ruI, ssI, sbI, spI, swI, scI, stI, srI, saI, snI, ↓reduceIte, reduceCtorEq, Nat.reduceEqDiff, Nat.reduceAdd, Nat.reduceMul, Nat.reduceSub, Nat.reduceLeDiff, Nat.reduceBEq, Int.reduceToNat, Int.reduceLE, Int.reduceLT, Int.reduceEq, Int.reduceNe, di0, di1, di2, di3, di4, di5, di6, di7, di8, di9, postX_ret, postX_normal, ex_some]
    refine do_yield rfl rfl rfl (fun _ => ?_) ?_
    · simp only [res172, b172k0, b172k1, ruI, ssI, sbI, spI, swI, scI, stI, srI, saI, snI, ↓reduceIte, reduceCtorEq, Nat.reduceEqDiff, Nat.reduceAdd, Nat.reduceMul, Nat.reduceSub, Nat.reduceLeDiff, Nat.reduceBEq, Int.reduceToNat, Int.reduceLE, Int.reduceLT, Int.reduceEq, Int.reduceNe, di0, di1, di2, di3, di4, di5, di6, di7, di8, di9, postX_ret, postX_normal, ex_some]
      simp only [show IntKind.wrap .i64 ((i : Int) + 1) = (i : Int) + 1 from wrap64 (by omega) (by omega)]
      refine ih (i + 1) _ _ (by omega) (by omega) (by simp only [List.nil_append, ruI, ssI, sbI, spI, swI, scI, stI, srI, saI, snI, ↓reduceIte, reduceCtorEq, Nat.reduceEqDiff, Nat.reduceAdd, Nat.reduceMul, Nat.reduceSub, Nat.reduceLeDiff, Nat.reduceBEq, Int.reduceToNat, Int.reduceLE, Int.reduceLT, Int.reduceEq, Int.reduceNe, di0, di1, di2, di3, di4, di5, di6, di7, di8, di9, postX_ret, postX_normal, ex_some] <;> rfl)
    · simp only [res172, b172k0, b172k1, ruI, ssI, sbI, spI, swI, scI, stI, srI, saI, snI, ↓reduceIte, reduceCtorEq, Nat.reduceEqDiff, Nat.reduceAdd, Nat.reduceMul, Nat.reduceSub, Nat.reduceLeDiff, Nat.reduceBEq, Int.reduceToNat, Int.reduceLE, Int.reduceLT, Int.reduceEq, Int.reduceNe, di0, di1, di2, di3, di4, di5, di6, di7, di8, di9, postX_ret, postX_normal, ex_some]
      rw [outD_nil res172]
      exact ⟨_, rfl, rfl, .inr rfl⟩
  · simp only [hq, ruI, ssI, sbI, spI, swI, scI, stI, srI, saI, snI, ↓reduceIte, reduceCtorEq, Nat.reduceEqDiff, Nat.reduceAdd, Nat.reduceMul, Nat.reduceSub, Nat.reduceLeDiff, Nat.reduceBEq, Int.reduceToNat, Int.reduceLE, Int.reduceLT, Int.reduceEq, Int.reduceNe, di0, di1, di2, di3, di4, di5, di6, di7, di8, di9, postX_ret, postX_normal, ex_some]
    refine ih (i + 1) _ _ (by omega) (by omega) (by simp only [List.nil_append, ruI, ssI, sbI, spI, swI, scI, stI, srI, saI, snI, ↓reduceIte, reduceCtorEq, Nat.reduceEqDiff, Nat.reduceAdd, Nat.reduceMul, Nat.reduceSub, Nat.reduceLeDiff, Nat.reduceBEq, Int.reduceToNat, Int.reduceLE, Int.reduceLT, Int.reduceEq, Int.reduceNe, di0, di1, di2, di3, di4, di5, di6, di7, di8, di9, postX_ret, postX_normal, ex_some] <;> rfl)
    
def bxOf (x y : Int × Int) : Bx := ⟨x.1, x.2, y.1, y.2⟩
/-- The boxes of a cover. -/
def coverL (v : Cv) : List Bx := (divL v.b.ll v.b.lh v.parts).flatMap fun x => (divL v.b.fl v.b.fh v.parts).map fun y => bxOf x y

def coverE (v : Cv) : Int := fstE (boxErr v.b) (fstE (if Wi v.parts 1 8 ∧ Wi v.lo (-100000) 100000 ∧ Wi v.hi (-100000) 100000 then 0 else 2) (if v.lo ≤ v.hi then 0 else 9))
theorem coverE_zero {v : Cv} : coverE v = 0 ↔ boxErr v.b = 0 ∧ (1 ≤ v.parts ∧ v.parts ≤ 8) ∧ (-100000 ≤ v.lo ∧ v.lo ≤ 100000) ∧ (-100000 ≤ v.hi ∧ v.hi ≤ 100000) ∧ v.lo ≤ v.hi := by
  unfold coverE
  rw [fstE_zero, fstE_zero]
  by_cases h1 : Wi v.parts 1 8 ∧ Wi v.lo (-100000) 100000 ∧ Wi v.hi (-100000) 100000
  · rw [if_pos h1]
    unfold Wi at h1
    by_cases h2 : v.lo ≤ v.hi
    · rw [if_pos h2]; simp [h1, h2]
    · rw [if_neg h2]; simp [h2]
  · rw [if_neg h1]
    unfold Wi at h1
    constructor
    · intro h; exact absurd h.2.1 (by decide)
    · intro h; exact (h1 ⟨h.2.1, h.2.2.1, h.2.2.2.1⟩).elim

theorem s_coverErr {v : Cv} : Contract Try.prog 133 [scI v] (.int .i64 (coverE v)) := by
  have sb := s_boxErr (b := v.b)
  refine contract_run Try.func133 k133 rfl ?_
  simp only [body133, b133, res133, ruI, ssI, sbI, spI, swI, scI, stI, srI, saI, snI, ↓reduceIte, reduceCtorEq, Nat.reduceEqDiff, Nat.reduceAdd, Nat.reduceMul, Nat.reduceSub, Nat.reduceLeDiff, Nat.reduceBEq, Int.reduceToNat, Int.reduceLE, Int.reduceLT, Int.reduceEq, Int.reduceNe, di0, di1, di2, di3, di4, di5, di6, di7, di8, di9, postX_ret, postX_normal, ex_some]
  refine calls_of sb ?_; simp only [ruI, ssI, sbI, spI, swI, scI, stI, srI, saI, snI, res133, ↓reduceIte, reduceCtorEq, Nat.reduceEqDiff, Nat.reduceAdd, Nat.reduceMul, Nat.reduceSub, Nat.reduceLeDiff, Nat.reduceBEq, Int.reduceToNat, Int.reduceLE, Int.reduceLT, Int.reduceEq, Int.reduceNe, di0, di1, di2, di3, di4, di5, di6, di7, di8, di9, postX_ret, postX_normal, ex_some]
  refine calls_of s_within ?_; simp only [ruI, ssI, sbI, spI, swI, scI, stI, srI, saI, snI, res133, ↓reduceIte, reduceCtorEq, Nat.reduceEqDiff, Nat.reduceAdd, Nat.reduceMul, Nat.reduceSub, Nat.reduceLeDiff, Nat.reduceBEq, Int.reduceToNat, Int.reduceLE, Int.reduceLT, Int.reduceEq, Int.reduceNe, di0, di1, di2, di3, di4, di5, di6, di7, di8, di9, postX_ret, postX_normal, ex_some]
  unfold coverE
  by_cases w1 : Wi v.parts 1 8
  case neg =>
    simp only [w1, ruI, ssI, sbI, spI, swI, scI, stI, srI, saI, snI, ↓reduceIte, reduceCtorEq, Nat.reduceEqDiff, Nat.reduceAdd, Nat.reduceMul, Nat.reduceSub, Nat.reduceLeDiff, Nat.reduceBEq, Int.reduceToNat, Int.reduceLE, Int.reduceLT, Int.reduceEq, Int.reduceNe, di0, di1, di2, di3, di4, di5, di6, di7, di8, di9, postX_ret, postX_normal, ex_some]
    refine calls_of s_unless ?_; simp only [ruI, ssI, sbI, spI, swI, scI, stI, srI, saI, snI, res133, ↓reduceIte, reduceCtorEq, Nat.reduceEqDiff, Nat.reduceAdd, Nat.reduceMul, Nat.reduceSub, Nat.reduceLeDiff, Nat.reduceBEq, Int.reduceToNat, Int.reduceLE, Int.reduceLT, Int.reduceEq, Int.reduceNe, di0, di1, di2, di3, di4, di5, di6, di7, di8, di9, postX_ret, postX_normal, ex_some]
    refine calls_of s_unless ?_; simp only [ruI, ssI, sbI, spI, swI, scI, stI, srI, saI, snI, res133, ↓reduceIte, reduceCtorEq, Nat.reduceEqDiff, Nat.reduceAdd, Nat.reduceMul, Nat.reduceSub, Nat.reduceLeDiff, Nat.reduceBEq, Int.reduceToNat, Int.reduceLE, Int.reduceLT, Int.reduceEq, Int.reduceNe, di0, di1, di2, di3, di4, di5, di6, di7, di8, di9, postX_ret, postX_normal, ex_some]
    refine calls_of (s_first (l := [boxErr v.b, 2, if v.lo ≤ v.hi then 0 else 9]) (by simp)) ?_; simp only [ruI, ssI, sbI, spI, swI, scI, stI, srI, saI, snI, res133, ↓reduceIte, reduceCtorEq, Nat.reduceEqDiff, Nat.reduceAdd, Nat.reduceMul, Nat.reduceSub, Nat.reduceLeDiff, Nat.reduceBEq, Int.reduceToNat, Int.reduceLE, Int.reduceLT, Int.reduceEq, Int.reduceNe, di0, di1, di2, di3, di4, di5, di6, di7, di8, di9, postX_ret, postX_normal, ex_some]
    rw [firstNZ_three]
    simp
  simp only [w1, ruI, ssI, sbI, spI, swI, scI, stI, srI, saI, snI, ↓reduceIte, reduceCtorEq, Nat.reduceEqDiff, Nat.reduceAdd, Nat.reduceMul, Nat.reduceSub, Nat.reduceLeDiff, Nat.reduceBEq, Int.reduceToNat, Int.reduceLE, Int.reduceLT, Int.reduceEq, Int.reduceNe, di0, di1, di2, di3, di4, di5, di6, di7, di8, di9, postX_ret, postX_normal, ex_some]
  refine calls_of s_isLevel ?_; simp only [ruI, ssI, sbI, spI, swI, scI, stI, srI, saI, snI, res133, ↓reduceIte, reduceCtorEq, Nat.reduceEqDiff, Nat.reduceAdd, Nat.reduceMul, Nat.reduceSub, Nat.reduceLeDiff, Nat.reduceBEq, Int.reduceToNat, Int.reduceLE, Int.reduceLT, Int.reduceEq, Int.reduceNe, di0, di1, di2, di3, di4, di5, di6, di7, di8, di9, postX_ret, postX_normal, ex_some]
  by_cases w2 : Wi v.lo (-100000) 100000
  case neg =>
    simp only [w2, ruI, ssI, sbI, spI, swI, scI, stI, srI, saI, snI, ↓reduceIte, reduceCtorEq, Nat.reduceEqDiff, Nat.reduceAdd, Nat.reduceMul, Nat.reduceSub, Nat.reduceLeDiff, Nat.reduceBEq, Int.reduceToNat, Int.reduceLE, Int.reduceLT, Int.reduceEq, Int.reduceNe, di0, di1, di2, di3, di4, di5, di6, di7, di8, di9, postX_ret, postX_normal, ex_some]
    refine calls_of s_unless ?_; simp only [ruI, ssI, sbI, spI, swI, scI, stI, srI, saI, snI, res133, ↓reduceIte, reduceCtorEq, Nat.reduceEqDiff, Nat.reduceAdd, Nat.reduceMul, Nat.reduceSub, Nat.reduceLeDiff, Nat.reduceBEq, Int.reduceToNat, Int.reduceLE, Int.reduceLT, Int.reduceEq, Int.reduceNe, di0, di1, di2, di3, di4, di5, di6, di7, di8, di9, postX_ret, postX_normal, ex_some]
    refine calls_of s_unless ?_; simp only [ruI, ssI, sbI, spI, swI, scI, stI, srI, saI, snI, res133, ↓reduceIte, reduceCtorEq, Nat.reduceEqDiff, Nat.reduceAdd, Nat.reduceMul, Nat.reduceSub, Nat.reduceLeDiff, Nat.reduceBEq, Int.reduceToNat, Int.reduceLE, Int.reduceLT, Int.reduceEq, Int.reduceNe, di0, di1, di2, di3, di4, di5, di6, di7, di8, di9, postX_ret, postX_normal, ex_some]
    refine calls_of (s_first (l := [boxErr v.b, 2, if v.lo ≤ v.hi then 0 else 9]) (by simp)) ?_; simp only [ruI, ssI, sbI, spI, swI, scI, stI, srI, saI, snI, res133, ↓reduceIte, reduceCtorEq, Nat.reduceEqDiff, Nat.reduceAdd, Nat.reduceMul, Nat.reduceSub, Nat.reduceLeDiff, Nat.reduceBEq, Int.reduceToNat, Int.reduceLE, Int.reduceLT, Int.reduceEq, Int.reduceNe, di0, di1, di2, di3, di4, di5, di6, di7, di8, di9, postX_ret, postX_normal, ex_some]
    rw [firstNZ_three]
    simp
  simp only [w2, ruI, ssI, sbI, spI, swI, scI, stI, srI, saI, snI, ↓reduceIte, reduceCtorEq, Nat.reduceEqDiff, Nat.reduceAdd, Nat.reduceMul, Nat.reduceSub, Nat.reduceLeDiff, Nat.reduceBEq, Int.reduceToNat, Int.reduceLE, Int.reduceLT, Int.reduceEq, Int.reduceNe, di0, di1, di2, di3, di4, di5, di6, di7, di8, di9, postX_ret, postX_normal, ex_some]
  refine calls_of s_isLevel ?_; simp only [ruI, ssI, sbI, spI, swI, scI, stI, srI, saI, snI, res133, ↓reduceIte, reduceCtorEq, Nat.reduceEqDiff, Nat.reduceAdd, Nat.reduceMul, Nat.reduceSub, Nat.reduceLeDiff, Nat.reduceBEq, Int.reduceToNat, Int.reduceLE, Int.reduceLT, Int.reduceEq, Int.reduceNe, di0, di1, di2, di3, di4, di5, di6, di7, di8, di9, postX_ret, postX_normal, ex_some]
  refine calls_of s_unless ?_; simp only [ruI, ssI, sbI, spI, swI, scI, stI, srI, saI, snI, res133, ↓reduceIte, reduceCtorEq, Nat.reduceEqDiff, Nat.reduceAdd, Nat.reduceMul, Nat.reduceSub, Nat.reduceLeDiff, Nat.reduceBEq, Int.reduceToNat, Int.reduceLE, Int.reduceLT, Int.reduceEq, Int.reduceNe, di0, di1, di2, di3, di4, di5, di6, di7, di8, di9, postX_ret, postX_normal, ex_some]
  refine calls_of s_unless ?_; simp only [ruI, ssI, sbI, spI, swI, scI, stI, srI, saI, snI, res133, ↓reduceIte, reduceCtorEq, Nat.reduceEqDiff, Nat.reduceAdd, Nat.reduceMul, Nat.reduceSub, Nat.reduceLeDiff, Nat.reduceBEq, Int.reduceToNat, Int.reduceLE, Int.reduceLT, Int.reduceEq, Int.reduceNe, di0, di1, di2, di3, di4, di5, di6, di7, di8, di9, postX_ret, postX_normal, ex_some]
  refine calls_of (s_first (l := [boxErr v.b, if Wi v.hi (-100000) 100000 then 0 else 2, if v.lo ≤ v.hi then 0 else 9]) (by simp)) ?_; simp only [ruI, ssI, sbI, spI, swI, scI, stI, srI, saI, snI, res133, ↓reduceIte, reduceCtorEq, Nat.reduceEqDiff, Nat.reduceAdd, Nat.reduceMul, Nat.reduceSub, Nat.reduceLeDiff, Nat.reduceBEq, Int.reduceToNat, Int.reduceLE, Int.reduceLT, Int.reduceEq, Int.reduceNe, di0, di1, di2, di3, di4, di5, di6, di7, di8, di9, postX_ret, postX_normal, ex_some]
  rw [firstNZ_three]

def covG (v : Cv) (L : List Bx) : List (Nat × Res) :=
  [(1, .box [.imm (.int .i64 v.b.ll), .imm (.int .i64 v.b.lh), .imm (.int .i64 v.b.fl), .imm (.int .i64 v.b.fh), .imm (.int .i64 v.parts), .imm (.int .i64 v.lo), .imm (.int .i64 v.hi)]), (3, .box [.own 1003]), (1003, .tok 4 (L.map sbI))]

def covH (v : Cv) (q : Int × Int) (L : List Bx) : List (Nat × Res) :=
  [(1, .box [.imm (.int .i64 v.b.ll), .imm (.int .i64 v.b.lh), .imm (.int .i64 v.b.fl), .imm (.int .i64 v.b.fh), .imm (.int .i64 v.parts), .imm (.int .i64 v.lo), .imm (.int .i64 v.hi)]), (3, .box [.own 1003]), (4, .box [.imm (.int .i64 q.1), .imm (.int .i64 q.2)]), (1003, .tok 4 (L.map sbI))]

theorem s_cover {v : Cv} (hv : coverE v = 0) : Contract Try.prog 134 [scI v] (.slc 4 ((coverL v).map sbI)) := by
  obtain ⟨hb, hp, -⟩ := coverE_zero.1 hv
  rw [boxErr_zero] at hb
  have d1 : DivOk v.b.ll v.b.lh v.parts := ⟨by omega, by omega, by omega, hp⟩
  have d2 : DivOk v.b.fl v.b.fh v.parts := ⟨by omega, by omega, by omega, hp⟩
  have n1 : (divL v.b.ll v.b.lh v.parts).length ≤ 8 := by
    have := divR_length (lo := v.b.ll) (hi := v.b.lh) (c := v.parts) (i := 0)
    unfold divL
    omega
  have n2 : (divL v.b.fl v.b.fh v.parts).length ≤ 8 := by
    have := divR_length (lo := v.b.fl) (hi := v.b.fh) (c := v.parts) (i := 0)
    unfold divL
    omega
  have i1 := it_divided d1
  have i2 := it_divided d2
  have hcov : coverL v = (divL v.b.ll v.b.lh v.parts).flatMap fun x => (divL v.b.fl v.b.fh v.parts).map fun y => bxOf x y := rfl
  rw [hcov]
  generalize divL v.b.ll v.b.lh v.parts = X at i1 n1 ⊢
  generalize divL v.b.fl v.b.fh v.parts = Y at i2 n2 ⊢
  refine contract_run Try.func134 k134 rfl ?_
  simp only [body134, b134, res134, b134k0, ruI, ssI, sbI, spI, swI, scI, stI, srI, saI, snI, ↓reduceIte, reduceCtorEq, Nat.reduceEqDiff, Nat.reduceAdd, Nat.reduceMul, Nat.reduceSub, Nat.reduceLeDiff, Nat.reduceBEq, Int.reduceToNat, Int.reduceLE, Int.reduceLT, Int.reduceEq, Int.reduceNe, di0, di1, di2, di3, di4, di5, di6, di7, di8, di9, postX_ret, postX_normal, ex_some]
  refine calls_of (s_divided (lo := v.b.ll) (hi := v.b.lh) (c := v.parts)) ?_; simp only [ruI, ssI, sbI, spI, swI, scI, stI, srI, saI, snI, res134, b134k0, ↓reduceIte, reduceCtorEq, Nat.reduceEqDiff, Nat.reduceAdd, Nat.reduceMul, Nat.reduceSub, Nat.reduceLeDiff, Nat.reduceBEq, Int.reduceToNat, Int.reduceLE, Int.reduceLT, Int.reduceEq, Int.reduceNe, di0, di1, di2, di3, di4, di5, di6, di7, di8, di9, postX_ret, postX_normal, ex_some]
  have hflat : ∀ n, ((X.take n).flatMap fun x => Y.map fun y => bxOf x y).length ≤ 64 := by
    intro n
    have h1 := length_flat (l := X.take n) (m := 8) (g := fun x => Y.map fun y => bxOf x y) fun x _ => by rw [List.length_map]; exact n2
    have h2 : (X.take n).length ≤ 8 := by rw [List.length_take]; omega
    omega
  refine range_plain (gf := 172) (first := []) (caps := [.ptr (stI v.b.ll v.b.lh), .ptr (.agg [.int .i64 v.parts])]) (X.map fun (x : Int × Int) => [stI x.1 x.2]) false rfl rfl i1 (by intro x hx; obtain ⟨q, _, rfl⟩ := List.mem_map.1 hx; rfl) rfl (fun n (y : Nat) => y = n)
    (fun y => covG v ((X.take y).flatMap fun x => Y.map fun y => bxOf x y)) 0 rfl (by rw [keepRes_look]; simp only [covG, ruI, ssI, sbI, spI, swI, scI, stI, srI, saI, snI, ↓reduceIte, reduceCtorEq, Nat.reduceEqDiff, Nat.reduceAdd, Nat.reduceMul, Nat.reduceSub, Nat.reduceLeDiff, Nat.reduceBEq, Int.reduceToNat, Int.reduceLE, Int.reduceLT, Int.reduceEq, Int.reduceNe, di0, di1, di2, di3, di4, di5, di6, di7, di8, di9, postX_ret, postX_normal, ex_some] <;> rfl) ?_ ?_
  · rintro n x y hx rfl
    simp only [List.getElem?_map, Option.map_eq_some_iff] at hx
    obtain ⟨q, hq, rfl⟩ := hx
    have hl64 := hflat y
    have htake : (X.take (y + 1)).flatMap (fun x => Y.map fun y => bxOf x y) = ((X.take y).flatMap fun x => Y.map fun y => bxOf x y) ++ Y.map fun y => bxOf q y := by
      rw [List.take_add_one, hq]
      simp
    generalize ((X.take y).flatMap fun x => Y.map fun y => bxOf x y) = L at hl64 htake
    simp only [b134a0, b134r0, b134a1, b134r1, covG, ruI, ssI, sbI, spI, swI, scI, stI, srI, saI, snI, ↓reduceIte, reduceCtorEq, Nat.reduceEqDiff, Nat.reduceAdd, Nat.reduceMul, Nat.reduceSub, Nat.reduceLeDiff, Nat.reduceBEq, Int.reduceToNat, Int.reduceLE, Int.reduceLT, Int.reduceEq, Int.reduceNe, di0, di1, di2, di3, di4, di5, di6, di7, di8, di9, postX_ret, postX_normal, ex_some]
    refine calls_of (s_divided (lo := v.b.fl) (hi := v.b.fh) (c := v.parts)) ?_; simp only [ruI, ssI, sbI, spI, swI, scI, stI, srI, saI, snI, res134, b134k0, ↓reduceIte, reduceCtorEq, Nat.reduceEqDiff, Nat.reduceAdd, Nat.reduceMul, Nat.reduceSub, Nat.reduceLeDiff, Nat.reduceBEq, Int.reduceToNat, Int.reduceLE, Int.reduceLT, Int.reduceEq, Int.reduceNe, di0, di1, di2, di3, di4, di5, di6, di7, di8, di9, postX_ret, postX_normal, ex_some]
    refine range_plain (gf := 172) (first := []) (caps := [.ptr (stI v.b.fl v.b.fh), .ptr (.agg [.int .i64 v.parts])]) (Y.map fun (x : Int × Int) => [stI x.1 x.2]) false rfl rfl i2 (by intro x hx; obtain ⟨q, _, rfl⟩ := List.mem_map.1 hx; rfl) rfl (fun n (z : Nat) => z = n)
      (fun z => covH v q (L ++ (Y.take z).map fun y => bxOf q y)) 0 rfl (by rw [keepRes_look]; simp only [covH, List.take_zero, List.map_nil, List.append_nil, ruI, ssI, sbI, spI, swI, scI, stI, srI, saI, snI, ↓reduceIte, reduceCtorEq, Nat.reduceEqDiff, Nat.reduceAdd, Nat.reduceMul, Nat.reduceSub, Nat.reduceLeDiff, Nat.reduceBEq, Int.reduceToNat, Int.reduceLE, Int.reduceLT, Int.reduceEq, Int.reduceNe, di0, di1, di2, di3, di4, di5, di6, di7, di8, di9, postX_ret, postX_normal, ex_some] <;> rfl) ?_ ?_
    · rintro m w z hw rfl
      simp only [List.getElem?_map, Option.map_eq_some_iff] at hw
      obtain ⟨u, hu, rfl⟩ := hw
      have hlt := (List.getElem?_eq_some_iff.1 hu).1
      have hlen2 : (L ++ (Y.take z).map fun y => bxOf q y).length ≤ 72 := by
        rw [List.length_append, List.length_map, List.length_take]
        omega
      have htake2 : (L ++ (Y.take (z + 1)).map fun y => bxOf q y) = (L ++ (Y.take z).map fun y => bxOf q y) ++ [bxOf q u] := by
        rw [List.take_add_one, hu]
        simp
      generalize (L ++ (Y.take z).map fun y => bxOf q y) = L2 at hlen2 htake2
      simp only [b134a0, b134r0, b134a1, b134r1, covH, ruI, ssI, sbI, spI, swI, scI, stI, srI, saI, snI, ↓reduceIte, reduceCtorEq, Nat.reduceEqDiff, Nat.reduceAdd, Nat.reduceMul, Nat.reduceSub, Nat.reduceLeDiff, Nat.reduceBEq, Int.reduceToNat, Int.reduceLE, Int.reduceLT, Int.reduceEq, Int.reduceNe, di0, di1, di2, di3, di4, di5, di6, di7, di8, di9, postX_ret, postX_normal, ex_some]
      refine ⟨by omega, by omega, z + 1, rfl, ?_⟩
      rw [htake2, List.map_append]
      rfl
    · rintro z _ rfl
      rw [List.length_map, List.take_length, ← htake]
      simp only [b134a0, b134r0, b134a1, b134r1, res134, b134k0, covH, ruI, ssI, sbI, spI, swI, scI, stI, srI, saI, snI, ↓reduceIte, reduceCtorEq, Nat.reduceEqDiff, Nat.reduceAdd, Nat.reduceMul, Nat.reduceSub, Nat.reduceLeDiff, Nat.reduceBEq, Int.reduceToNat, Int.reduceLE, Int.reduceLT, Int.reduceEq, Int.reduceNe, di0, di1, di2, di3, di4, di5, di6, di7, di8, di9, postX_ret, postX_normal, ex_some]
      exact ⟨y + 1, rfl, rfl⟩
  · rintro y _ rfl
    rw [List.length_map, List.take_length]
    simp only [res134, b134k0, covG, ruI, ssI, sbI, spI, swI, scI, stI, srI, saI, snI, ↓reduceIte, reduceCtorEq, Nat.reduceEqDiff, Nat.reduceAdd, Nat.reduceMul, Nat.reduceSub, Nat.reduceLeDiff, Nat.reduceBEq, Int.reduceToNat, Int.reduceLE, Int.reduceLT, Int.reduceEq, Int.reduceNe, di0, di1, di2, di3, di4, di5, di6, di7, di8, di9, postX_ret, postX_normal, ex_some]
end Go.DI

/- Contracts: states that boxes do not cover, of the program and of the reference. No condition. -/
set_option linter.unusedSimpArgs false
set_option maxRecDepth 20000
namespace Go.DI
open Go.Proofs Go.RowKit Sg

theorem s_CoverOf {r : Ru} {v : Cv} : Contract Try.prog 79 [ruI r, scI v] (if fstE (rulesErr r) (coverE v) = 0 then .tup [.slc 4 ((coverL v).map sbI), .int .i64 0] else .tup [.slc 4 [], .int .i64 (fstE (rulesErr r) (coverE v))]) := by
  refine contract_run Try.func79 k79 rfl ?_
  simp only [body79, b79, res79, b79k0, ruI, ssI, sbI, spI, swI, scI, stI, srI, saI, snI, ↓reduceIte, reduceCtorEq, Nat.reduceEqDiff, Nat.reduceAdd, Nat.reduceMul, Nat.reduceSub, Nat.reduceLeDiff, Nat.reduceBEq, Int.reduceToNat, Int.reduceLE, Int.reduceLT, Int.reduceEq, Int.reduceNe, di0, di1, di2, di3, di4, di5, di6, di7, di8, di9, postX_ret, postX_normal, ex_some]
  refine calls_of s_CheckRules ?_; simp only [ruI, ssI, sbI, spI, swI, scI, stI, srI, saI, snI, res79, b79k0, ↓reduceIte, reduceCtorEq, Nat.reduceEqDiff, Nat.reduceAdd, Nat.reduceMul, Nat.reduceSub, Nat.reduceLeDiff, Nat.reduceBEq, Int.reduceToNat, Int.reduceLE, Int.reduceLT, Int.reduceEq, Int.reduceNe, di0, di1, di2, di3, di4, di5, di6, di7, di8, di9, postX_ret, postX_normal, ex_some]
  refine calls_of s_coverErr ?_; simp only [ruI, ssI, sbI, spI, swI, scI, stI, srI, saI, snI, res79, b79k0, ↓reduceIte, reduceCtorEq, Nat.reduceEqDiff, Nat.reduceAdd, Nat.reduceMul, Nat.reduceSub, Nat.reduceLeDiff, Nat.reduceBEq, Int.reduceToNat, Int.reduceLE, Int.reduceLT, Int.reduceEq, Int.reduceNe, di0, di1, di2, di3, di4, di5, di6, di7, di8, di9, postX_ret, postX_normal, ex_some]
  refine calls_of (s_first (l := [rulesErr r, coverE v]) (by simp)) ?_; simp only [ruI, ssI, sbI, spI, swI, scI, stI, srI, saI, snI, res79, b79k0, ↓reduceIte, reduceCtorEq, Nat.reduceEqDiff, Nat.reduceAdd, Nat.reduceMul, Nat.reduceSub, Nat.reduceLeDiff, Nat.reduceBEq, Int.reduceToNat, Int.reduceLE, Int.reduceLT, Int.reduceEq, Int.reduceNe, di0, di1, di2, di3, di4, di5, di6, di7, di8, di9, postX_ret, postX_normal, ex_some]
  rw [firstNZ_two]
  by_cases h : fstE (rulesErr r) (coverE v) = 0
  · simp only [h, ruI, ssI, sbI, spI, swI, scI, stI, srI, saI, snI, ↓reduceIte, reduceCtorEq, Nat.reduceEqDiff, Nat.reduceAdd, Nat.reduceMul, Nat.reduceSub, Nat.reduceLeDiff, Nat.reduceBEq, Int.reduceToNat, Int.reduceLE, Int.reduceLT, Int.reduceEq, Int.reduceNe, di0, di1, di2, di3, di4, di5, di6, di7, di8, di9, postX_ret, postX_normal, ex_some]
    rw [fstE_zero] at h
    refine calls_of (s_cover h.2) ?_; simp only [ruI, ssI, sbI, spI, swI, scI, stI, srI, saI, snI, res79, b79k0, ↓reduceIte, reduceCtorEq, Nat.reduceEqDiff, Nat.reduceAdd, Nat.reduceMul, Nat.reduceSub, Nat.reduceLeDiff, Nat.reduceBEq, Int.reduceToNat, Int.reduceLE, Int.reduceLT, Int.reduceEq, Int.reduceNe, di0, di1, di2, di3, di4, di5, di6, di7, di8, di9, postX_ret, postX_normal, ex_some]
  · simp only [h, ruI, ssI, sbI, spI, swI, scI, stI, srI, saI, snI, ↓reduceIte, reduceCtorEq, Nat.reduceEqDiff, Nat.reduceAdd, Nat.reduceMul, Nat.reduceSub, Nat.reduceLeDiff, Nat.reduceBEq, Int.reduceToNat, Int.reduceLE, Int.reduceLT, Int.reduceEq, Int.reduceNe, di0, di1, di2, di3, di4, di5, di6, di7, di8, di9, postX_ret, postX_normal, ex_some]

theorem fstE_assoc {a b c : Int} : fstE a (fstE b c) = fstE (fstE a b) c := by
  unfold fstE
  by_cases h : a = 0
  · rw [if_pos h, if_pos h]
  · rw [if_neg h, if_neg h, if_neg h]

def inB (b : Bx) (s : Sta) : Bool := decide (Wi s.L b.ll b.lh ∧ Wi s.F b.fl b.fh)
def covd (bs : List Bx) (s : Sta) : Bool := bs.any fun b => inB b s
def flowsF (L : Int) : Int → Nat → List Sta
  | _, 0 => []
  | F, n + 1 => ⟨L, F⟩ :: flowsF L (F + 1) n
def levelsF (fl : Int) (nf : Nat) : Int → Nat → List Sta
  | _, 0 => []
  | L, n + 1 => flowsF L fl nf ++ levelsF fl nf (L + 1) n
def statesB (b : Bx) : List Sta := levelsF b.fl (b.fh - b.fl + 1).toNat b.ll (b.lh - b.ll + 1).toNat
/-- The first state that no box covers. -/
def uncP (b : Bx) (bs : List Bx) : Option Sta := (statesB b).find? fun s => !covd bs s

theorem s_lies {s : Sta} {b : Bx} : Contract Try.prog 137 [ssI s, sbI b] (.bool (inB b s)) := by
  refine contract_run Try.func137 k137 rfl ?_
  simp only [body137, b137, res137, ruI, ssI, sbI, spI, swI, scI, stI, srI, saI, snI, ↓reduceIte, reduceCtorEq, Nat.reduceEqDiff, Nat.reduceAdd, Nat.reduceMul, Nat.reduceSub, Nat.reduceLeDiff, Nat.reduceBEq, Int.reduceToNat, Int.reduceLE, Int.reduceLT, Int.reduceEq, Int.reduceNe, di0, di1, di2, di3, di4, di5, di6, di7, di8, di9, postX_ret, postX_normal, ex_some]
  refine calls_of s_within ?_; simp only [ruI, ssI, sbI, spI, swI, scI, stI, srI, saI, snI, res137, ↓reduceIte, reduceCtorEq, Nat.reduceEqDiff, Nat.reduceAdd, Nat.reduceMul, Nat.reduceSub, Nat.reduceLeDiff, Nat.reduceBEq, Int.reduceToNat, Int.reduceLE, Int.reduceLT, Int.reduceEq, Int.reduceNe, di0, di1, di2, di3, di4, di5, di6, di7, di8, di9, postX_ret, postX_normal, ex_some]
  unfold inB
  by_cases h1 : Wi s.L b.ll b.lh
  · simp only [h1, ruI, ssI, sbI, spI, swI, scI, stI, srI, saI, snI, ↓reduceIte, reduceCtorEq, Nat.reduceEqDiff, Nat.reduceAdd, Nat.reduceMul, Nat.reduceSub, Nat.reduceLeDiff, Nat.reduceBEq, Int.reduceToNat, Int.reduceLE, Int.reduceLT, Int.reduceEq, Int.reduceNe, di0, di1, di2, di3, di4, di5, di6, di7, di8, di9, postX_ret, postX_normal, ex_some]
    refine calls_of s_within ?_; simp only [ruI, ssI, sbI, spI, swI, scI, stI, srI, saI, snI, res137, ↓reduceIte, reduceCtorEq, Nat.reduceEqDiff, Nat.reduceAdd, Nat.reduceMul, Nat.reduceSub, Nat.reduceLeDiff, Nat.reduceBEq, Int.reduceToNat, Int.reduceLE, Int.reduceLT, Int.reduceEq, Int.reduceNe, di0, di1, di2, di3, di4, di5, di6, di7, di8, di9, postX_ret, postX_normal, ex_some]
  · simp only [h1, ruI, ssI, sbI, spI, swI, scI, stI, srI, saI, snI, ↓reduceIte, reduceCtorEq, Nat.reduceEqDiff, Nat.reduceAdd, Nat.reduceMul, Nat.reduceSub, Nat.reduceLeDiff, Nat.reduceBEq, Int.reduceToNat, Int.reduceLE, Int.reduceLT, Int.reduceEq, Int.reduceNe, di0, di1, di2, di3, di4, di5, di6, di7, di8, di9, postX_ret, postX_normal, ex_some]
    simp

theorem s_Covers1 {s : Sta} {b : Bx} : Contract Try.prog 136 [sbI b, .ptr (ssI s)] (.bool (inB b s)) := by
  refine contract_run Try.func136 k136 rfl ?_
  simp only [body136, b136, res136, ruI, ssI, sbI, spI, swI, scI, stI, srI, saI, snI, ↓reduceIte, reduceCtorEq, Nat.reduceEqDiff, Nat.reduceAdd, Nat.reduceMul, Nat.reduceSub, Nat.reduceLeDiff, Nat.reduceBEq, Int.reduceToNat, Int.reduceLE, Int.reduceLT, Int.reduceEq, Int.reduceNe, di0, di1, di2, di3, di4, di5, di6, di7, di8, di9, postX_ret, postX_normal, ex_some]
  refine calls_of (s_lies (s := s) (b := b)) ?_; simp only [ruI, ssI, sbI, spI, swI, scI, stI, srI, saI, snI, res136, ↓reduceIte, reduceCtorEq, Nat.reduceEqDiff, Nat.reduceAdd, Nat.reduceMul, Nat.reduceSub, Nat.reduceLeDiff, Nat.reduceBEq, Int.reduceToNat, Int.reduceLE, Int.reduceLT, Int.reduceEq, Int.reduceNe, di0, di1, di2, di3, di4, di5, di6, di7, di8, di9, postX_ret, postX_normal, ex_some]

def countB (b : Bx) : Int := (b.lh - b.ll + 1) * (b.fh - b.fl + 1)
theorem count_bd {b : Bx} (h : boxErr b = 0) : 0 ≤ countB b ∧ countB b ≤ 400202001 := by
  rw [boxErr_zero] at h
  unfold countB
  refine ⟨Int.mul_nonneg (by omega) (by omega), ?_⟩
  have : (b.lh - b.ll + 1) * (b.fh - b.fl + 1) ≤ 200001 * 2001 := Int.mul_le_mul (by omega) (by omega) (by omega) (by omega)
  omega

def covAE (r : Ru) (b : Bx) (bs : List Bx) : Int := fstE (fstE (rulesErr r) (boxErr b)) (fstE (boxesE bs) (if 4000 < countB b then 8 else 0))
def uncS : Option Sta → Sta | none => ⟨0, 0⟩ | some s => s
def uncE : Option Sta → Int | none => 0 | some _ => 14

theorem s_CoversAll {r : Ru} {b : Bx} {bs : List Bx} (hn : bs.length ≤ 1000000000) : Contract Try.prog 81 [ruI r, sbI b, .slc 4 (bs.map sbI)]
    (if covAE r b bs = 0 then .tup [ssI (uncS (uncP b bs)), .int .i64 (uncE (uncP b bs))] else .tup [ssI ⟨0, 0⟩, .int .i64 (covAE r b bs)]) := by
  refine contract_run Try.func81 k81 rfl ?_
  simp only [body81, b81, res81, b81k0, b81k1, b81k2, b81k3, b81k4, b81k5, b81k6, ruI, ssI, sbI, spI, swI, scI, stI, srI, saI, snI, ↓reduceIte, reduceCtorEq, Nat.reduceEqDiff, Nat.reduceAdd, Nat.reduceMul, Nat.reduceSub, Nat.reduceLeDiff, Nat.reduceBEq, Int.reduceToNat, Int.reduceLE, Int.reduceLT, Int.reduceEq, Int.reduceNe, di0, di1, di2, di3, di4, di5, di6, di7, di8, di9, postX_ret, postX_normal, ex_some]
  refine calls_of s_CheckBox ?_; simp only [ruI, ssI, sbI, spI, swI, scI, stI, srI, saI, snI, res81, b81k0, b81k1, b81k2, b81k3, b81k4, b81k5, b81k6, ↓reduceIte, reduceCtorEq, Nat.reduceEqDiff, Nat.reduceAdd, Nat.reduceMul, Nat.reduceSub, Nat.reduceLeDiff, Nat.reduceBEq, Int.reduceToNat, Int.reduceLE, Int.reduceLT, Int.reduceEq, Int.reduceNe, di0, di1, di2, di3, di4, di5, di6, di7, di8, di9, postX_ret, postX_normal, ex_some]
  refine calls_of (s_boxesErr hn) ?_; simp only [ruI, ssI, sbI, spI, swI, scI, stI, srI, saI, snI, res81, b81k0, b81k1, b81k2, b81k3, b81k4, b81k5, b81k6, ↓reduceIte, reduceCtorEq, Nat.reduceEqDiff, Nat.reduceAdd, Nat.reduceMul, Nat.reduceSub, Nat.reduceLeDiff, Nat.reduceBEq, Int.reduceToNat, Int.reduceLE, Int.reduceLT, Int.reduceEq, Int.reduceNe, di0, di1, di2, di3, di4, di5, di6, di7, di8, di9, postX_ret, postX_normal, ex_some]
  refine calls_of (s_first (l := [fstE (rulesErr r) (boxErr b), boxesE bs]) (by simp)) ?_; simp only [ruI, ssI, sbI, spI, swI, scI, stI, srI, saI, snI, res81, b81k0, b81k1, b81k2, b81k3, b81k4, b81k5, b81k6, ↓reduceIte, reduceCtorEq, Nat.reduceEqDiff, Nat.reduceAdd, Nat.reduceMul, Nat.reduceSub, Nat.reduceLeDiff, Nat.reduceBEq, Int.reduceToNat, Int.reduceLE, Int.reduceLT, Int.reduceEq, Int.reduceNe, di0, di1, di2, di3, di4, di5, di6, di7, di8, di9, postX_ret, postX_normal, ex_some]
  rw [firstNZ_two]
  have hE : covAE r b bs = if fstE (fstE (rulesErr r) (boxErr b)) (boxesE bs) = 0 then (if 4000 < countB b then 8 else 0) else fstE (fstE (rulesErr r) (boxErr b)) (boxesE bs) := by
    unfold covAE
    rw [fstE_assoc]
    rfl
  rw [hE]
  by_cases h : fstE (fstE (rulesErr r) (boxErr b)) (boxesE bs) = 0
  case neg => simp only [h, ruI, ssI, sbI, spI, swI, scI, stI, srI, saI, snI, ↓reduceIte, reduceCtorEq, Nat.reduceEqDiff, Nat.reduceAdd, Nat.reduceMul, Nat.reduceSub, Nat.reduceLeDiff, Nat.reduceBEq, Int.reduceToNat, Int.reduceLE, Int.reduceLT, Int.reduceEq, Int.reduceNe, di0, di1, di2, di3, di4, di5, di6, di7, di8, di9, postX_ret, postX_normal, ex_some]
  simp only [h, ruI, ssI, sbI, spI, swI, scI, stI, srI, saI, snI, ↓reduceIte, reduceCtorEq, Nat.reduceEqDiff, Nat.reduceAdd, Nat.reduceMul, Nat.reduceSub, Nat.reduceLeDiff, Nat.reduceBEq, Int.reduceToNat, Int.reduceLE, Int.reduceLT, Int.reduceEq, Int.reduceNe, di0, di1, di2, di3, di4, di5, di6, di7, di8, di9, postX_ret, postX_normal, ex_some]
  rw [fstE_zero, fstE_zero] at h
  have hc := count_bd h.1.2
  have hb := boxErr_zero.1 h.1.2
  rw [show IntKind.wrap .i64 (b.lh - b.ll) = b.lh - b.ll from wrap64 (by omega) (by omega)]
  rw [show IntKind.wrap .i64 (b.lh - b.ll + 1) = b.lh - b.ll + 1 from wrap64 (by omega) (by omega)]
  rw [show IntKind.wrap .i64 (b.fh - b.fl) = b.fh - b.fl from wrap64 (by omega) (by omega)]
  rw [show IntKind.wrap .i64 (b.fh - b.fl + 1) = b.fh - b.fl + 1 from wrap64 (by omega) (by omega)]
  rw [show (b.lh - b.ll + 1) * (b.fh - b.fl + 1) = countB b from rfl]
  rw [show IntKind.wrap .i64 (countB b) = countB b from wrap64 (by omega) (by omega)]
  by_cases h4 : 4000 < countB b
  · simp only [h4, ruI, ssI, sbI, spI, swI, scI, stI, srI, saI, snI, ↓reduceIte, reduceCtorEq, Nat.reduceEqDiff, Nat.reduceAdd, Nat.reduceMul, Nat.reduceSub, Nat.reduceLeDiff, Nat.reduceBEq, Int.reduceToNat, Int.reduceLE, Int.reduceLT, Int.reduceEq, Int.reduceNe, di0, di1, di2, di3, di4, di5, di6, di7, di8, di9, postX_ret, postX_normal, ex_some]
  simp only [h4, ruI, ssI, sbI, spI, swI, scI, stI, srI, saI, snI, ↓reduceIte, reduceCtorEq, Nat.reduceEqDiff, Nat.reduceAdd, Nat.reduceMul, Nat.reduceSub, Nat.reduceLeDiff, Nat.reduceBEq, Int.reduceToNat, Int.reduceLE, Int.reduceLT, Int.reduceEq, Int.reduceNe, di0, di1, di2, di3, di4, di5, di6, di7, di8, di9, postX_ret, postX_normal, ex_some]
  refine loop_keep (α := Int) rfl (fun L => (b.lh + 1 - L).toNat) (fun L => (b.ll ≤ L ∧ L ≤ b.lh + 1) ∧ uncP b bs = (levelsF b.fl (b.fh - b.fl + 1).toNat L (b.lh + 1 - L).toNat).find? fun s => !covd bs s)
    (fun L => [(2, .imm (.slc 4 (bs.map sbI))), (4, .ref 4 0), (6, .ref 6 0), (9, .imm (.int .i64 L))])
    (fun _ => [(4, .box [.imm (.int .i64 b.ll), .imm (.int .i64 b.lh), .imm (.int .i64 b.fl), .imm (.int .i64 b.fh)]), (6, .box [.imm (.int .i64 0), .imm (.int .i64 0)])]) b.ll ⟨⟨by omega, by omega⟩, by unfold uncP statesB; congr 2; omega⟩ (by simp only [ruI, ssI, sbI, spI, swI, scI, stI, srI, saI, snI, ↓reduceIte, reduceCtorEq, Nat.reduceEqDiff, Nat.reduceAdd, Nat.reduceMul, Nat.reduceSub, Nat.reduceLeDiff, Nat.reduceBEq, Int.reduceToNat, Int.reduceLE, Int.reduceLT, Int.reduceEq, Int.reduceNe, di0, di1, di2, di3, di4, di5, di6, di7, di8, di9, postX_ret, postX_normal, ex_some] <;> rfl) ?_
  rintro L ⟨hL, he⟩ ih
  simp only [res81, b81k0, b81k1, b81k2, b81k3, b81k4, b81k5, b81k6, ruI, ssI, sbI, spI, swI, scI, stI, srI, saI, snI, ↓reduceIte, reduceCtorEq, Nat.reduceEqDiff, Nat.reduceAdd, Nat.reduceMul, Nat.reduceSub, Nat.reduceLeDiff, Nat.reduceBEq, Int.reduceToNat, Int.reduceLE, Int.reduceLT, Int.reduceEq, Int.reduceNe, di0, di1, di2, di3, di4, di5, di6, di7, di8, di9, postX_ret, postX_normal, ex_some]
  split
  case isFalse h5 =>
    rw [show (b.lh + 1 - L).toNat = 0 by omega] at he
    simp only [levelsF, List.find?_nil] at he
    rw [he]
    rfl
  rename_i h5
  rw [show (b.lh + 1 - L).toNat = (b.lh + 1 - (L + 1)).toNat + 1 by omega] at he
  simp only [levelsF] at he
  refine loop_keep (α := Int) rfl (fun F => (b.fh + 1 - F).toNat) (fun F => (b.fl ≤ F ∧ F ≤ b.fh + 1) ∧ uncP b bs = (flowsF L F (b.fh + 1 - F).toNat ++ levelsF b.fl (b.fh - b.fl + 1).toNat (L + 1) (b.lh + 1 - (L + 1)).toNat).find? fun s => !covd bs s)
    (fun F => [(2, .imm (.slc 4 (bs.map sbI))), (4, .ref 4 0), (6, .ref 6 0), (9, .imm (.int .i64 L)), (10, .imm (.int .i64 F))])
    (fun _ => [(4, .box [.imm (.int .i64 b.ll), .imm (.int .i64 b.lh), .imm (.int .i64 b.fl), .imm (.int .i64 b.fh)]), (6, .box [.imm (.int .i64 0), .imm (.int .i64 0)])]) b.fl ⟨⟨by omega, by omega⟩, by rw [he]; congr 3; omega⟩ (by simp only [ruI, ssI, sbI, spI, swI, scI, stI, srI, saI, snI, ↓reduceIte, reduceCtorEq, Nat.reduceEqDiff, Nat.reduceAdd, Nat.reduceMul, Nat.reduceSub, Nat.reduceLeDiff, Nat.reduceBEq, Int.reduceToNat, Int.reduceLE, Int.reduceLT, Int.reduceEq, Int.reduceNe, di0, di1, di2, di3, di4, di5, di6, di7, di8, di9, postX_ret, postX_normal, ex_some] <;> rfl) ?_
  rintro F ⟨hF, he2⟩ ih2
  simp only [res81, b81k0, b81k1, b81k2, b81k3, b81k4, b81k5, b81k6, ruI, ssI, sbI, spI, swI, scI, stI, srI, saI, snI, ↓reduceIte, reduceCtorEq, Nat.reduceEqDiff, Nat.reduceAdd, Nat.reduceMul, Nat.reduceSub, Nat.reduceLeDiff, Nat.reduceBEq, Int.reduceToNat, Int.reduceLE, Int.reduceLT, Int.reduceEq, Int.reduceNe, di0, di1, di2, di3, di4, di5, di6, di7, di8, di9, postX_ret, postX_normal, ex_some]
  split
  case isFalse h6 =>
    rw [show (b.fh + 1 - F).toNat = 0 by omega] at he2
    simp only [flowsF, List.nil_append] at he2
    rw [wrap64 (by omega) (by omega)]
    exact ih (L + 1) _ _ (by omega) ⟨⟨by omega, by omega⟩, he2⟩ (by simp only [ruI, ssI, sbI, spI, swI, scI, stI, srI, saI, snI, ↓reduceIte, reduceCtorEq, Nat.reduceEqDiff, Nat.reduceAdd, Nat.reduceMul, Nat.reduceSub, Nat.reduceLeDiff, Nat.reduceBEq, Int.reduceToNat, Int.reduceLE, Int.reduceLT, Int.reduceEq, Int.reduceNe, di0, di1, di2, di3, di4, di5, di6, di7, di8, di9, postX_ret, postX_normal, ex_some] <;> rfl)
  rename_i h6
  rw [show (b.fh + 1 - F).toNat = (b.fh + 1 - (F + 1)).toNat + 1 by omega] at he2
  simp only [flowsF, List.cons_append, List.find?_cons] at he2
  have hcon := s_ContainsBx (g := 136) (caps := [.ptr (ssI ⟨L, F⟩)]) (p := fun x => inB x ⟨L, F⟩) (l := bs) hn fun x _ => s_Covers1
  refine calls_of hcon ?_; simp only [ruI, ssI, sbI, spI, swI, scI, stI, srI, saI, snI, res81, b81k0, b81k1, b81k2, b81k3, b81k4, b81k5, b81k6, ↓reduceIte, reduceCtorEq, Nat.reduceEqDiff, Nat.reduceAdd, Nat.reduceMul, Nat.reduceSub, Nat.reduceLeDiff, Nat.reduceBEq, Int.reduceToNat, Int.reduceLE, Int.reduceLT, Int.reduceEq, Int.reduceNe, di0, di1, di2, di3, di4, di5, di6, di7, di8, di9, postX_ret, postX_normal, ex_some]
  rw [show (bs.any fun x => inB x ⟨L, F⟩) = covd bs ⟨L, F⟩ from rfl]
  cases hcv : covd bs ⟨L, F⟩
  · rw [hcv] at he2
    simp only [Bool.not_false] at he2
    rw [he2]
    simp only [uncS, uncE, ruI, ssI, sbI, spI, swI, scI, stI, srI, saI, snI, ↓reduceIte, reduceCtorEq, Nat.reduceEqDiff, Nat.reduceAdd, Nat.reduceMul, Nat.reduceSub, Nat.reduceLeDiff, Nat.reduceBEq, Int.reduceToNat, Int.reduceLE, Int.reduceLT, Int.reduceEq, Int.reduceNe, di0, di1, di2, di3, di4, di5, di6, di7, di8, di9, postX_ret, postX_normal, ex_some]
  · rw [hcv] at he2
    simp only [Bool.not_true] at he2
    simp only [ruI, ssI, sbI, spI, swI, scI, stI, srI, saI, snI, ↓reduceIte, reduceCtorEq, Nat.reduceEqDiff, Nat.reduceAdd, Nat.reduceMul, Nat.reduceSub, Nat.reduceLeDiff, Nat.reduceBEq, Int.reduceToNat, Int.reduceLE, Int.reduceLT, Int.reduceEq, Int.reduceNe, di0, di1, di2, di3, di4, di5, di6, di7, di8, di9, postX_ret, postX_normal, ex_some]
    rw [wrap64 (by omega) (by omega)]
    exact ih2 (F + 1) _ _ (by omega) ⟨⟨by omega, by omega⟩, he2⟩ (by simp only [ruI, ssI, sbI, spI, swI, scI, stI, srI, saI, snI, ↓reduceIte, reduceCtorEq, Nat.reduceEqDiff, Nat.reduceAdd, Nat.reduceMul, Nat.reduceSub, Nat.reduceLeDiff, Nat.reduceBEq, Int.reduceToNat, Int.reduceLE, Int.reduceLT, Int.reduceEq, Int.reduceNe, di0, di1, di2, di3, di4, di5, di6, di7, di8, di9, postX_ret, postX_normal, ex_some] <;> rfl)
end Go.DI

