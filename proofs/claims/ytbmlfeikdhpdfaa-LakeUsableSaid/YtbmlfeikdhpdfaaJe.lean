/- Contracts of the wide numbers, ratios and whole numbers. No condition. -/
import Derived.Test.YtbmlfeikdhpdfaaJd
import Derived.Test.YtbmlfeikdhpdfaaProg
import Derived.KernelRfl
import Derived.IntWalk
/- The functions of the base's wide numbers and ratios, as data. No condition. -/
namespace Go.DI
open Go.Proofs Go.RowKit
/-- guidevane/guidevanebase.Size -/
def b131 : DCode :=
 (.seq
  (.region [⟨(some 2), .mov, [.c (.int .i64 0)], none, []⟩] false)
  (.seq
   (.region [⟨(some 3), .mov, [.t 0], none, []⟩,
     ⟨(some 4), .mov, [.t 0], none, []⟩,
     ⟨(some 5), (.un .neg), [.t 4], none, [1]⟩,
     ⟨(some 6), (.mm true), [.t 3, .t 5], none, [0, 2]⟩,
     ⟨(some 2), .mov, [.t 6], none, [3, 0, 1, 2, 3]⟩] false)
   .ret))
def d131 : DFn := ⟨1, 7, [.tmp 2], b131⟩
theorem body131 : d131.body = b131 := rfl
theorem res131 : d131.res = [.tmp 2] := rfl
theorem k131 : chkFn Try.prog Try.f131 d131 = true := by kernel_rfl

/-- guidevane/guidevanebase.WideSign -/
def b132 : DCode :=
 (.seq
  (.region [⟨(some 1), .box, [.t 0], none, []⟩,
    ⟨(some 2), .mov, [.c (.int .i64 0)], none, []⟩] false)
  (.seq
   (.region [⟨(some 3), (.faddr 0 false 1), [.t 1], none, []⟩,
     ⟨(some 4), (.load false 1), [.t 3], none, [0]⟩,
     ⟨(some 2), .mov, [.t 4], none, [1, 0, 1]⟩] false)
   .ret))
def d132 : DFn := ⟨1, 5, [.tmp 2], b132⟩
theorem body132 : d132.body = b132 := rfl
theorem res132 : d132.res = [.tmp 2] := rfl
theorem k132 : chkFn Try.prog Try.f132 d132 = true := by kernel_rfl

/-- guidevane/guidevanebase.WideNeg -/
def b129 : DCode :=
 (.seq
  (.region [⟨(some 1), .box, [.t 0], none, []⟩,
    ⟨(some 2), (.alloc [(.imm (.int .i64 0)), (.imm (.slc 1 []))]), [], none, []⟩] false)
  (.seq
   (.region [⟨(some 3), (.faddr 0 false 1), [.t 1], none, []⟩,
     ⟨(some 4), (.load false 1), [.t 3], none, [0]⟩,
     ⟨(some 5), (.un .neg), [.t 4], none, [1]⟩,
     ⟨(some 6), (.faddr 1 false 1), [.t 1], none, []⟩,
     ⟨(some 7), (.load false 1), [.t 6], none, [3]⟩,
     ⟨(some 8), (.build [(.imm (.int .i64 0)), (.imm (.slc 1 []))] [(0, 1), (1, 1)]), [.t 5, .t 7], none, [2, 4]⟩,
     ⟨none, (.store 2), [.t 2, .t 8], none, [5, 0, 1, 2, 3, 4, 5]⟩] false)
   .ret))
def d129 : DFn := ⟨1, 9, [.cell 2 true 2], b129⟩
theorem body129 : d129.body = b129 := rfl
theorem res129 : d129.res = [.cell 2 true 2] := rfl
theorem k129 : chkFn Try.prog Try.f129 d129 = true := by kernel_rfl

/-- guidevane/guidevanebase.trimmed -/
def b135k0 : DCode :=
 (.block 1
  (.region [⟨(some 16), .mov, [.t 3], none, []⟩,
    ⟨(some 17), (.bin .sub), [.t 16, .c (.int .i64 1)], none, [0]⟩,
    ⟨(some 3), .mov, [.t 17], none, [1, 0, 1]⟩] false))
def b135l0 : DCode := .keep [0, 3] []
  (.seq
   (.seq
    (.region [⟨(some 6), .mov, [.t 3], none, []⟩,
      ⟨(some 7), (.bin .gtr), [.t 6, .c (.int .i64 0)], none, [0]⟩,
      ⟨(some 8), .mov, [.t 7], none, [1]⟩,
      ⟨(some 9), .movv, [.t 0], (some (8, true)), [2]⟩,
      ⟨(some 10), .mov, [.t 3], (some (8, true)), [2]⟩,
      ⟨(some 11), (.bin .sub), [.t 10, .c (.int .i64 1)], (some (8, true)), [4, 2]⟩,
      ⟨(some 12), (.iaddr 1), [.t 9, .t 11], (some (8, true)), [3, 5, 2]⟩,
      ⟨(some 13), (.load false 1), [.t 12], (some (8, true)), [6, 2]⟩,
      ⟨(some 14), (.bin .eql), [.t 13, .c (.int .i64 0)], (some (8, true)), [7, 2]⟩,
      ⟨(some 15), .pick, [.t 8, .t 14, .c (.bool false)], none, [2, 8]⟩] false)
    (.cond (.t 15)
     .skip
     (.exit 0)))
   (.keep [0, 3] [] b135k0))
def b135k1 : DCode :=
 (.seq
  (.region [⟨(some 18), .movv, [.t 0], none, []⟩,
    ⟨(some 19), .mov, [.t 3], none, []⟩,
    ⟨(some 20), (.slice 1 false true), [.t 18, .t 19], none, [0, 1]⟩,
    ⟨(some 2), .movv, [.t 20], none, [2, 0, 1, 2]⟩] false)
  .ret)
def b135 : DCode :=
 (.seq
  (.region [⟨(some 2), .mov, [.c (.slc 1 [])], none, []⟩] false)
  (.seq
   (.region [⟨(some 4), .movv, [.t 0], none, []⟩,
     ⟨(some 5), .len, [.t 4], none, [0]⟩,
     ⟨(some 3), .mov, [.t 5], none, [1, 0, 1]⟩] false)
   (.seq
    (.block 0
     (.loop b135l0))
    (.keep [0, 3] [] b135k1))))
def d135 : DFn := ⟨1, 21, [.tmp 2], b135⟩
theorem body135 : d135.body = b135 := rfl
theorem res135 : d135.res = [.tmp 2] := rfl
theorem k135 : chkFn Try.prog Try.f135 d135 = true := by kernel_rfl

/-- guidevane/guidevanebase.wideOf -/
def b127k0 : DCode :=
 (.seq
  (.region [⟨(some 10), .mov, [.t 0], none, []⟩,
    ⟨(some 11), .movv, [.t 1], none, []⟩,
    ⟨(some 12), (.build [(.imm (.int .i64 0)), (.imm (.slc 1 []))] [(0, 1), (1, 1)]), [.t 10, .t 11], none, [0, 1]⟩,
    ⟨none, (.store 2), [.t 4, .t 12], none, [2, 0, 1, 2]⟩] false)
  .ret)
def b127 : DCode :=
 (.seq
  (.region [⟨(some 4), (.alloc [(.imm (.int .i64 0)), (.imm (.slc 1 []))]), [], none, []⟩] false)
  (.seq
   (.region [⟨(some 5), .movv, [.t 1], none, []⟩,
     ⟨(some 6), .call, [.f 135, .t 5], none, [0]⟩,
     ⟨(some 1), .movv, [.t 6], none, [1, 1, 0, 1]⟩] false)
   (.seq
    (.seq
     (.region [⟨(some 7), .movv, [.t 1], none, []⟩,
       ⟨(some 8), .len, [.t 7], none, [0]⟩,
       ⟨(some 9), (.bin .eql), [.t 8, .c (.int .i64 0)], none, [1]⟩] false)
     (.cond (.t 9)
      (.region [⟨(some 0), .mov, [.c (.int .i64 0)], none, []⟩] false)
      .skip))
    (.keep [0, 1, 4] [4] b127k0))))
def d127 : DFn := ⟨2, 13, [.cell 4 true 2], b127⟩
theorem body127 : d127.body = b127 := rfl
theorem res127 : d127.res = [.cell 4 true 2] := rfl
theorem k127 : chkFn Try.prog Try.f127 d127 = true := by kernel_rfl

/-- guidevane/guidevanebase.WideOf -/
def b121k0 : DCode :=
 (.block 1
  (.seq
   (.region [⟨(some 9), .mov, [.t 4], none, []⟩,
     ⟨(some 10), .mov, [.t 0], none, []⟩,
     ⟨(some 11), (.bin .rem), [.t 10, .c (.int .i64 1000000000)], none, [1]⟩,
     ⟨(some 12), .call, [.f 131, .t 11], none, [2]⟩,
     ⟨(some 13), (.bsl 1), [.t 12], none, [3]⟩,
     ⟨(some 14), (.append 1 8 false), [.t 9, .t 13], none, [0, 4, 3]⟩,
     ⟨(some 4), .mov, [.t 14], none, [5, 5, 0, 1, 2, 3, 4, 5]⟩] false)
   (.region [⟨(some 15), .mov, [.t 0], none, []⟩,
     ⟨(some 16), (.bin .quo), [.t 15, .c (.int .i64 1000000000)], none, [0]⟩,
     ⟨(some 0), .mov, [.t 16], none, [1, 0, 1]⟩] false)))
def b121l0 : DCode := .keep [0, 2, 3, 4] [2, 4, 14]
  (.seq
   (.seq
    (.region [⟨(some 7), .mov, [.t 0], none, []⟩,
      ⟨(some 8), (.bin .neq), [.t 7, .c (.int .i64 0)], none, [0]⟩] false)
    (.cond (.t 8)
     .skip
     (.exit 0)))
   (.keep [0, 2, 3, 4] [2, 4, 14] b121k0))
def b121k1 : DCode :=
 (.seq
  (.region [⟨(some 17), .mov, [.t 3], none, []⟩,
    ⟨(some 18), .movv, [.t 4], none, []⟩,
    ⟨(some 19), .call, [.f 127, .t 17, .t 18], none, [0, 1]⟩,
    ⟨none, (.store 2), [.t 2, .t 19], none, [2, 2, 0, 1, 2]⟩] false)
  .ret)
def b121k2 : DCode :=
 (.seq
  (.region [⟨(some 4), (.ntok 1), [.c (.slc 1 [])], none, []⟩] false)
  (.seq
   (.block 0
    (.loop b121l0))
   (.keep [2, 3, 4] [2, 4, 14] b121k1)))
def b121 : DCode :=
 (.seq
  (.region [⟨(some 2), (.alloc [(.imm (.int .i64 0)), (.imm (.slc 1 []))]), [], none, []⟩] false)
  (.seq
   (.region [⟨(some 3), .mov, [.c (.int .i64 1)], none, []⟩] false)
   (.seq
    (.seq
     (.region [⟨(some 5), .mov, [.t 0], none, []⟩,
       ⟨(some 6), (.bin .lss), [.t 5, .c (.int .i64 0)], none, [0]⟩] false)
     (.cond (.t 6)
      (.region [⟨(some 3), .mov, [.c (.int .i64 (-1))], none, []⟩] false)
      .skip))
    (.keep [0, 2, 3] [2] b121k2))))
def d121 : DFn := ⟨1, 20, [.cell 2 true 2], b121⟩
theorem body121 : d121.body = b121 := rfl
theorem res121 : d121.res = [.cell 2 true 2] := rfl
theorem k121 : chkFn Try.prog Try.f121 d121 = true := by kernel_rfl

/-- guidevane/guidevanebase.cmpDigits -/
def b136k0 : DCode :=
 (.seq
  (.region [⟨(some 4), .mov, [.c (.int .i64 1)], none, []⟩] false)
  .ret)
def b136k1 : DCode :=
 (.seq
  (.region [⟨(some 32), .movv, [.t 0], none, []⟩,
    ⟨(some 33), .mov, [.t 5], none, []⟩,
    ⟨(some 34), (.iaddr 1), [.t 32, .t 33], none, [0, 1]⟩,
    ⟨(some 35), (.load false 1), [.t 34], none, [2]⟩,
    ⟨(some 36), .movv, [.t 1], none, []⟩,
    ⟨(some 37), .mov, [.t 5], none, []⟩,
    ⟨(some 38), (.iaddr 1), [.t 36, .t 37], none, [4, 5]⟩,
    ⟨(some 39), (.load false 1), [.t 38], none, [6]⟩,
    ⟨(some 40), (.bin .gtr), [.t 35, .t 39], none, [3, 7]⟩] true)
  (.cond (.t 40)
   (.seq
    (.region [⟨(some 4), .mov, [.c (.int .i64 1)], none, []⟩] false)
    .ret)
   .skip))
def b136k2 : DCode :=
 (.region [⟨(some 21), .mov, [.t 5], none, []⟩,
   ⟨(some 22), (.bin .sub), [.t 21, .c (.int .i64 1)], none, [0]⟩,
   ⟨(some 5), .mov, [.t 22], none, [1, 0, 1]⟩] false)
def b136k3 : DCode :=
 (.seq
  (.block 1
   (.seq
    (.seq
     (.region [⟨(some 23), .movv, [.t 0], none, []⟩,
       ⟨(some 24), .mov, [.t 5], none, []⟩,
       ⟨(some 25), (.iaddr 1), [.t 23, .t 24], none, [0, 1]⟩,
       ⟨(some 26), (.load false 1), [.t 25], none, [2]⟩,
       ⟨(some 27), .movv, [.t 1], none, []⟩,
       ⟨(some 28), .mov, [.t 5], none, []⟩,
       ⟨(some 29), (.iaddr 1), [.t 27, .t 28], none, [4, 5]⟩,
       ⟨(some 30), (.load false 1), [.t 29], none, [6]⟩,
       ⟨(some 31), (.bin .lss), [.t 26, .t 30], none, [3, 7]⟩] true)
     (.cond (.t 31)
      (.seq
       (.region [⟨(some 4), .mov, [.c (.int .i64 (-1))], none, []⟩] false)
       .ret)
      .skip))
    (.keep [0, 1, 5] [] b136k1)))
  (.keep [0, 1, 5] [] b136k2))
def b136l0 : DCode := .keep [0, 1, 5] []
  (.seq
   (.seq
    (.region [⟨(some 19), .mov, [.t 5], none, []⟩,
      ⟨(some 20), (.bin .geq), [.t 19, .c (.int .i64 0)], none, [0]⟩] false)
    (.cond (.t 20)
     .skip
     (.exit 0)))
   (.keep [0, 1, 5] [] b136k3))
def b136k4 : DCode :=
 (.seq
  (.region [⟨(some 4), .mov, [.c (.int .i64 0)], none, []⟩] false)
  .ret)
def b136k5 : DCode :=
 (.seq
  (.seq
   (.region [⟨(some 16), .movv, [.t 0], none, []⟩,
     ⟨(some 17), .len, [.t 16], none, [0]⟩,
     ⟨(some 18), (.bin .sub), [.t 17, .c (.int .i64 1)], none, [1]⟩,
     ⟨(some 5), .mov, [.t 18], none, [2, 0, 1, 2]⟩] false)
   (.block 0
    (.loop b136l0)))
  (.keep [] [] b136k4))
def b136 : DCode :=
 (.seq
  (.region [⟨(some 4), .mov, [.c (.int .i64 0)], none, []⟩] false)
  (.seq
   (.seq
    (.region [⟨(some 6), .movv, [.t 0], none, []⟩,
      ⟨(some 7), .len, [.t 6], none, [0]⟩,
      ⟨(some 8), .movv, [.t 1], none, []⟩,
      ⟨(some 9), .len, [.t 8], none, [2]⟩,
      ⟨(some 10), (.bin .neq), [.t 7, .t 9], none, [1, 3]⟩] false)
    (.cond (.t 10)
     (.seq
      (.seq
       (.region [⟨(some 11), .movv, [.t 0], none, []⟩,
         ⟨(some 12), .len, [.t 11], none, [0]⟩,
         ⟨(some 13), .movv, [.t 1], none, []⟩,
         ⟨(some 14), .len, [.t 13], none, [2]⟩,
         ⟨(some 15), (.bin .lss), [.t 12, .t 14], none, [1, 3]⟩] false)
       (.cond (.t 15)
        (.seq
         (.region [⟨(some 4), .mov, [.c (.int .i64 (-1))], none, []⟩] false)
         .ret)
        .skip))
      (.keep [] [] b136k0))
     .skip))
   (.keep [0, 1] [] b136k5)))
def d136 : DFn := ⟨2, 41, [.tmp 4], b136⟩
theorem body136 : d136.body = b136 := rfl
theorem res136 : d136.res = [.tmp 4] := rfl
theorem k136 : chkFn Try.prog Try.f136 d136 = true := by kernel_rfl

/-- guidevane/guidevanebase.digit -/
def b140k0 : DCode :=
 (.seq
  (.region [⟨(some 4), .mov, [.c (.int .i64 0)], none, []⟩] false)
  .ret)
def b140 : DCode :=
 (.seq
  (.region [⟨(some 4), .mov, [.c (.int .i64 0)], none, []⟩] false)
  (.seq
   (.seq
    (.region [⟨(some 5), .mov, [.t 1], none, []⟩,
      ⟨(some 6), .movv, [.t 0], none, []⟩,
      ⟨(some 7), .len, [.t 6], none, [1]⟩,
      ⟨(some 8), (.bin .lss), [.t 5, .t 7], none, [0, 2]⟩] false)
    (.cond (.t 8)
     (.seq
      (.region [⟨(some 9), .movv, [.t 0], none, []⟩,
        ⟨(some 10), .mov, [.t 1], none, []⟩,
        ⟨(some 11), (.iaddr 1), [.t 9, .t 10], none, [0, 1]⟩,
        ⟨(some 12), (.load false 1), [.t 11], none, [2]⟩,
        ⟨(some 4), .mov, [.t 12], none, [3, 0, 1, 2, 3]⟩] false)
      .ret)
     .skip))
   (.keep [] [] b140k0)))
def d140 : DFn := ⟨2, 13, [.tmp 4], b140⟩
theorem body140 : d140.body = b140 := rfl
theorem res140 : d140.res = [.tmp 4] := rfl
theorem k140 : chkFn Try.prog Try.f140 d140 = true := by kernel_rfl

/-- guidevane/guidevanebase.addDigits -/
def b138k0 : DCode :=
 (.seq
  (.block 1
   (.seq
    (.region [⟨(some 25), .movv, [.t 0], none, []⟩,
      ⟨(some 26), .mov, [.t 7], none, []⟩,
      ⟨(some 27), .call, [.f 140, .t 25, .t 26], none, [0, 1]⟩,
      ⟨(some 28), .movv, [.t 1], none, []⟩,
      ⟨(some 29), .mov, [.t 7], none, []⟩,
      ⟨(some 30), .call, [.f 140, .t 28, .t 29], none, [3, 4, 2]⟩,
      ⟨(some 31), (.bin .add), [.t 27, .t 30], none, [2, 5]⟩,
      ⟨(some 32), .mov, [.t 6], none, []⟩,
      ⟨(some 33), (.bin .add), [.t 31, .t 32], none, [6, 7]⟩,
      ⟨(some 8), .mov, [.t 33], none, [8, 5, 0, 1, 2, 3, 4, 5, 6, 7, 8]⟩] false)
    (.region [⟨(some 34), .mov, [.t 5], none, []⟩,
      ⟨(some 35), .mov, [.t 8], none, []⟩,
      ⟨(some 36), (.bin .rem), [.t 35, .c (.int .i64 1000000000)], none, [1]⟩,
      ⟨(some 37), (.bsl 1), [.t 36], none, [2]⟩,
      ⟨(some 38), (.append 1 8 false), [.t 34, .t 37], none, [0, 3]⟩,
      ⟨(some 39), .mov, [.t 8], none, []⟩,
      ⟨(some 40), (.bin .quo), [.t 39, .c (.int .i64 1000000000)], none, [5]⟩,
      ⟨(some 5), .mov, [.t 38], none, [4, 4, 0, 1, 2, 3, 4]⟩,
      ⟨(some 6), .mov, [.t 40], none, [6, 7, 0, 1, 2, 3, 4, 5, 6, 7]⟩] false)))
  (.region [⟨(some 23), .mov, [.t 7], none, []⟩,
    ⟨(some 24), (.bin .add), [.t 23, .c (.int .i64 1)], none, [0]⟩,
    ⟨(some 7), .mov, [.t 24], none, [1, 0, 1]⟩] false))
def b138l0 : DCode := .keep [0, 1, 5, 6, 7] [5, 38]
  (.seq
   (.seq
    (.region [⟨(some 9), .mov, [.t 7], none, []⟩,
      ⟨(some 10), .movv, [.t 0], none, []⟩,
      ⟨(some 11), .len, [.t 10], none, [1]⟩,
      ⟨(some 12), (.bin .lss), [.t 9, .t 11], none, [0, 2]⟩,
      ⟨(some 13), .mov, [.t 12], none, [3]⟩,
      ⟨(some 14), .mov, [.t 7], (some (13, false)), [4]⟩,
      ⟨(some 15), .movv, [.t 1], (some (13, false)), [4]⟩,
      ⟨(some 16), .len, [.t 15], (some (13, false)), [6, 4]⟩,
      ⟨(some 17), (.bin .lss), [.t 14, .t 16], (some (13, false)), [5, 7, 4]⟩,
      ⟨(some 18), .pick, [.t 13, .c (.bool true), .t 17], none, [4, 8]⟩,
      ⟨(some 19), .mov, [.t 18], none, [9, 4]⟩,
      ⟨(some 20), .mov, [.t 6], (some (19, false)), [10]⟩,
      ⟨(some 21), (.bin .gtr), [.t 20, .c (.int .i64 0)], (some (19, false)), [11, 10]⟩,
      ⟨(some 22), .pick, [.t 19, .c (.bool true), .t 21], none, [10, 12]⟩] false)
    (.cond (.t 22)
     .skip
     (.exit 0)))
   (.keep [0, 1, 5, 6, 7] [5, 38] b138k0))
def b138k1 : DCode :=
 (.seq
  (.region [⟨(some 41), .movv, [.t 5], none, []⟩,
    ⟨(some 4), .movv, [.t 41], none, [0, 0]⟩] false)
  .ret)
def b138 : DCode :=
 (.seq
  (.region [⟨(some 4), .mov, [.c (.slc 1 [])], none, []⟩] false)
  (.seq
   (.region [⟨(some 5), (.ntok 1), [.c (.slc 1 [])], none, []⟩] false)
   (.seq
    (.region [⟨(some 6), .mov, [.c (.int .i64 0)], none, []⟩] false)
    (.seq
     (.seq
      (.region [⟨(some 7), .mov, [.c (.int .i64 0)], none, []⟩] false)
      (.block 0
       (.loop b138l0)))
     (.keep [5] [5, 38] b138k1)))))
def d138 : DFn := ⟨2, 42, [.tmp 4], b138⟩
theorem body138 : d138.body = b138 := rfl
theorem res138 : d138.res = [.tmp 4] := rfl
theorem k138 : chkFn Try.prog Try.f138 d138 = true := by kernel_rfl

/-- guidevane/guidevanebase.subDigits -/
def b137k0 : DCode :=
 (.region [⟨(some 29), .mov, [.t 5], none, []⟩,
   ⟨(some 30), .mov, [.t 8], none, []⟩,
   ⟨(some 31), (.bsl 1), [.t 30], none, [1]⟩,
   ⟨(some 32), (.append 1 8 false), [.t 29, .t 31], none, [0, 2]⟩,
   ⟨(some 5), .mov, [.t 32], none, [3, 3, 0, 1, 2, 3]⟩] false)
def b137k1 : DCode :=
 (.region [⟨(some 13), .mov, [.t 7], none, []⟩,
   ⟨(some 14), (.bin .add), [.t 13, .c (.int .i64 1)], none, [0]⟩,
   ⟨(some 7), .mov, [.t 14], none, [1, 0, 1]⟩] false)
def b137k2 : DCode :=
 (.seq
  (.block 1
   (.seq
    (.region [⟨(some 15), .movv, [.t 0], none, []⟩,
      ⟨(some 16), .mov, [.t 7], none, []⟩,
      ⟨(some 17), (.iaddr 1), [.t 15, .t 16], none, [0, 1]⟩,
      ⟨(some 18), (.load false 1), [.t 17], none, [2]⟩,
      ⟨(some 19), .movv, [.t 1], none, []⟩,
      ⟨(some 20), .mov, [.t 7], none, []⟩,
      ⟨(some 21), .call, [.f 140, .t 19, .t 20], none, [4, 5]⟩,
      ⟨(some 22), (.bin .sub), [.t 18, .t 21], none, [3, 6]⟩,
      ⟨(some 23), .mov, [.t 6], none, []⟩,
      ⟨(some 24), (.bin .sub), [.t 22, .t 23], none, [7, 8]⟩,
      ⟨(some 8), .mov, [.t 24], none, [9, 6, 0, 1, 2, 3, 4, 5, 6, 7, 8, 9]⟩] true)
    (.seq
     (.region [⟨(some 6), .mov, [.c (.int .i64 0)], none, []⟩] false)
     (.seq
      (.seq
       (.region [⟨(some 25), .mov, [.t 8], none, []⟩,
         ⟨(some 26), (.bin .lss), [.t 25, .c (.int .i64 0)], none, [0]⟩] false)
       (.cond (.t 26)
        (.region [⟨(some 27), .mov, [.t 8], none, []⟩,
          ⟨(some 28), (.bin .add), [.t 27, .c (.int .i64 1000000000)], none, [0]⟩,
          ⟨(some 8), .mov, [.t 28], none, [1, 0, 1]⟩,
          ⟨(some 6), .mov, [.c (.int .i64 1)], none, [2, 0, 1, 2]⟩] false)
        .skip))
      (.keep [0, 1, 5, 6, 7, 8] [5, 32] b137k0)))))
  (.keep [0, 1, 5, 6, 7] [5, 32] b137k1))
def b137l0 : DCode := .keep [0, 1, 5, 6, 7] [5, 32]
  (.seq
   (.seq
    (.region [⟨(some 9), .mov, [.t 7], none, []⟩,
      ⟨(some 10), .movv, [.t 0], none, []⟩,
      ⟨(some 11), .len, [.t 10], none, [1]⟩,
      ⟨(some 12), (.bin .lss), [.t 9, .t 11], none, [0, 2]⟩] false)
    (.cond (.t 12)
     .skip
     (.exit 0)))
   (.keep [0, 1, 5, 6, 7] [5, 32] b137k2))
def b137k3 : DCode :=
 (.seq
  (.region [⟨(some 33), .movv, [.t 5], none, []⟩,
    ⟨(some 34), .call, [.f 135, .t 33], none, [0]⟩,
    ⟨(some 4), .movv, [.t 34], none, [1, 1, 0, 1]⟩] false)
  .ret)
def b137 : DCode :=
 (.seq
  (.region [⟨(some 4), .mov, [.c (.slc 1 [])], none, []⟩] false)
  (.seq
   (.region [⟨(some 5), (.ntok 1), [.c (.slc 1 [])], none, []⟩] false)
   (.seq
    (.region [⟨(some 6), .mov, [.c (.int .i64 0)], none, []⟩] false)
    (.seq
     (.seq
      (.region [⟨(some 7), .mov, [.c (.int .i64 0)], none, []⟩] false)
      (.block 0
       (.loop b137l0)))
     (.keep [5] [5, 32] b137k3)))))
def d137 : DFn := ⟨2, 35, [.tmp 4], b137⟩
theorem body137 : d137.body = b137 := rfl
theorem res137 : d137.res = [.tmp 4] := rfl
theorem k137 : chkFn Try.prog Try.f137 d137 = true := by kernel_rfl

/-- guidevane/guidevanebase.WideAdd -/
def b130k0 : DCode :=
 (.seq
  (.region [⟨(some 45), (.faddr 0 false 1), [.t 3], none, []⟩,
    ⟨(some 46), (.load false 1), [.t 45], none, [0]⟩,
    ⟨(some 47), (.faddr 1 false 1), [.t 3], none, []⟩,
    ⟨(some 48), (.load false 1), [.t 47], none, [2]⟩,
    ⟨(some 49), (.faddr 1 false 1), [.t 2], none, []⟩,
    ⟨(some 50), (.load false 1), [.t 49], none, [4]⟩,
    ⟨(some 51), .call, [.f 137, .t 48, .t 50], none, [3, 5]⟩,
    ⟨(some 52), .call, [.f 127, .t 46, .t 51], none, [1, 6, 6]⟩,
    ⟨none, (.store 2), [.t 4, .t 52], none, [7, 7, 0, 1, 2, 3, 4, 5, 6, 7]⟩] true)
  .ret)
def b130k1 : DCode :=
 (.seq
  (.seq
   (.region [⟨(some 35), .mov, [.t 5], none, []⟩,
     ⟨(some 36), (.bin .gtr), [.t 35, .c (.int .i64 0)], none, [0]⟩] false)
   (.cond (.t 36)
    (.seq
     (.region [⟨(some 37), (.faddr 0 false 1), [.t 2], none, []⟩,
       ⟨(some 38), (.load false 1), [.t 37], none, [0]⟩,
       ⟨(some 39), (.faddr 1 false 1), [.t 2], none, []⟩,
       ⟨(some 40), (.load false 1), [.t 39], none, [2]⟩,
       ⟨(some 41), (.faddr 1 false 1), [.t 3], none, []⟩,
       ⟨(some 42), (.load false 1), [.t 41], none, [4]⟩,
       ⟨(some 43), .call, [.f 137, .t 40, .t 42], none, [3, 5]⟩,
       ⟨(some 44), .call, [.f 127, .t 38, .t 43], none, [1, 6, 6]⟩,
       ⟨none, (.store 2), [.t 4, .t 44], none, [7, 7, 0, 1, 2, 3, 4, 5, 6, 7]⟩] true)
     .ret)
    .skip))
  (.keep [2, 3, 4] [2, 3, 4] b130k0))
def b130k2 : DCode :=
 (.seq
  (.region [⟨(some 27), (.faddr 1 false 1), [.t 2], none, []⟩,
    ⟨(some 28), (.load false 1), [.t 27], none, [0]⟩,
    ⟨(some 29), (.faddr 1 false 1), [.t 3], none, []⟩,
    ⟨(some 30), (.load false 1), [.t 29], none, [2]⟩,
    ⟨(some 31), .call, [.f 136, .t 28, .t 30], none, [1, 3]⟩,
    ⟨(some 5), .mov, [.t 31], none, [4, 4, 0, 1, 2, 3, 4]⟩] false)
  (.seq
   (.seq
    (.region [⟨(some 32), .mov, [.t 5], none, []⟩,
      ⟨(some 33), (.bin .eql), [.t 32, .c (.int .i64 0)], none, [0]⟩] false)
    (.cond (.t 33)
     (.seq
      (.region [⟨(some 34), (.build [(.imm (.int .i64 0)), (.imm (.slc 1 []))] []), [], none, []⟩,
        ⟨none, (.store 2), [.t 4, .t 34], none, [0, 0]⟩] false)
      .ret)
     .skip))
   (.keep [2, 3, 4, 5] [2, 3, 4] b130k1)))
def b130k3 : DCode :=
 (.seq
  (.seq
   (.region [⟨(some 14), (.faddr 0 false 1), [.t 2], none, []⟩,
     ⟨(some 15), (.load false 1), [.t 14], none, [0]⟩,
     ⟨(some 16), (.faddr 0 false 1), [.t 3], none, []⟩,
     ⟨(some 17), (.load false 1), [.t 16], none, [2]⟩,
     ⟨(some 18), (.bin .eql), [.t 15, .t 17], none, [1, 3]⟩] false)
   (.cond (.t 18)
    (.seq
     (.region [⟨(some 19), (.faddr 0 false 1), [.t 2], none, []⟩,
       ⟨(some 20), (.load false 1), [.t 19], none, [0]⟩,
       ⟨(some 21), (.faddr 1 false 1), [.t 2], none, []⟩,
       ⟨(some 22), (.load false 1), [.t 21], none, [2]⟩,
       ⟨(some 23), (.faddr 1 false 1), [.t 3], none, []⟩,
       ⟨(some 24), (.load false 1), [.t 23], none, [4]⟩,
       ⟨(some 25), .call, [.f 138, .t 22, .t 24], none, [3, 5]⟩,
       ⟨(some 26), .call, [.f 127, .t 20, .t 25], none, [1, 6, 6]⟩,
       ⟨none, (.store 2), [.t 4, .t 26], none, [7, 7, 0, 1, 2, 3, 4, 5, 6, 7]⟩] true)
     .ret)
    .skip))
  (.keep [2, 3, 4] [2, 3, 4] b130k2))
def b130k4 : DCode :=
 (.seq
  (.seq
   (.region [⟨(some 10), (.faddr 0 false 1), [.t 3], none, []⟩,
     ⟨(some 11), (.load false 1), [.t 10], none, [0]⟩,
     ⟨(some 12), (.bin .eql), [.t 11, .c (.int .i64 0)], none, [1]⟩] false)
   (.cond (.t 12)
    (.seq
     (.region [⟨(some 13), (.load true 2), [.t 2], none, []⟩,
       ⟨none, (.store 2), [.t 4, .t 13], none, [0, 0]⟩] false)
     .ret)
    .skip))
  (.keep [2, 3, 4] [2, 3, 4] b130k3))
def b130 : DCode :=
 (.seq
  (.region [⟨(some 2), .box, [.t 0], none, []⟩,
    ⟨(some 3), .box, [.t 1], none, []⟩,
    ⟨(some 4), (.alloc [(.imm (.int .i64 0)), (.imm (.slc 1 []))]), [], none, []⟩] false)
  (.seq
   (.seq
    (.region [⟨(some 6), (.faddr 0 false 1), [.t 2], none, []⟩,
      ⟨(some 7), (.load false 1), [.t 6], none, [0]⟩,
      ⟨(some 8), (.bin .eql), [.t 7, .c (.int .i64 0)], none, [1]⟩] false)
    (.cond (.t 8)
     (.seq
      (.region [⟨(some 9), (.load true 2), [.t 3], none, []⟩,
        ⟨none, (.store 2), [.t 4, .t 9], none, [0, 0]⟩] false)
      .ret)
     .skip))
   (.keep [2, 3, 4] [2, 3, 4] b130k4)))
def d130 : DFn := ⟨2, 53, [.cell 4 true 2], b130⟩
theorem body130 : d130.body = b130 := rfl
theorem res130 : d130.res = [.cell 4 true 2] := rfl
theorem k130 : chkFn Try.prog Try.f130 d130 = true := by kernel_rfl

/-- guidevane/guidevanebase.WideSub -/
def b126 : DCode :=
 (.seq
  (.region [⟨(some 2), .box, [.t 0], none, []⟩,
    ⟨(some 3), .box, [.t 1], none, []⟩,
    ⟨(some 4), (.alloc [(.imm (.int .i64 0)), (.imm (.slc 1 []))]), [], none, []⟩] false)
  (.seq
   (.region [⟨(some 5), (.load true 2), [.t 2], none, []⟩,
     ⟨(some 6), (.load true 2), [.t 3], none, []⟩,
     ⟨(some 7), .call, [.f 129, .t 6], none, [1]⟩,
     ⟨(some 8), .call, [.f 130, .t 5, .t 7], none, [0, 2, 2]⟩,
     ⟨none, (.store 2), [.t 4, .t 8], none, [3, 3, 0, 1, 2, 3]⟩] true)
   .ret))
def d126 : DFn := ⟨2, 9, [.cell 4 true 2], b126⟩
theorem body126 : d126.body = b126 := rfl
theorem res126 : d126.res = [.cell 4 true 2] := rfl
theorem k126 : chkFn Try.prog Try.f126 d126 = true := by kernel_rfl

/-- guidevane/guidevanebase.WideMul -/
def b113k0 : DCode :=
 (.seq
  (.block 3
   (.seq
    (.region [⟨(some 33), .movv, [.t 5], none, []⟩,
      ⟨(some 34), .mov, [.t 6], none, []⟩,
      ⟨(some 35), .mov, [.t 8], none, []⟩,
      ⟨(some 36), (.bin .add), [.t 34, .t 35], none, [1, 2]⟩,
      ⟨(some 37), (.iaddr 1), [.t 33, .t 36], none, [0, 3]⟩,
      ⟨(some 38), (.load false 1), [.t 37], none, [4]⟩,
      ⟨(some 39), (.faddr 1 false 1), [.t 2], none, []⟩,
      ⟨(some 40), (.load false 1), [.t 39], none, [6]⟩,
      ⟨(some 41), .mov, [.t 6], none, []⟩,
      ⟨(some 42), (.iaddr 1), [.t 40, .t 41], none, [7, 8]⟩,
      ⟨(some 43), (.load false 1), [.t 42], none, [9]⟩,
      ⟨(some 44), (.faddr 1 false 1), [.t 3], none, []⟩,
      ⟨(some 45), (.load false 1), [.t 44], none, [11]⟩,
      ⟨(some 46), .mov, [.t 8], none, []⟩,
      ⟨(some 47), (.iaddr 1), [.t 45, .t 46], none, [12, 13]⟩,
      ⟨(some 48), (.load false 1), [.t 47], none, [14]⟩,
      ⟨(some 49), (.bin .mul), [.t 43, .t 48], none, [10, 15]⟩,
      ⟨(some 50), (.bin .add), [.t 38, .t 49], none, [5, 16]⟩,
      ⟨(some 51), .mov, [.t 7], none, []⟩,
      ⟨(some 52), (.bin .add), [.t 50, .t 51], none, [17, 18]⟩,
      ⟨(some 9), .mov, [.t 52], none, [19, 0, 1, 2, 3, 4, 5, 6, 7, 8, 9, 10, 11, 12, 13, 14, 15, 16, 17, 18, 19]⟩] true)
    (.region [⟨(some 53), .movv, [.t 5], none, []⟩,
      ⟨(some 54), .mov, [.t 6], none, []⟩,
      ⟨(some 55), .mov, [.t 8], none, []⟩,
      ⟨(some 56), (.bin .add), [.t 54, .t 55], none, [1, 2]⟩,
      ⟨(some 57), .mov, [.t 9], none, []⟩,
      ⟨(some 58), (.bin .rem), [.t 57, .c (.int .i64 1000000000)], none, [4]⟩,
      ⟨(some 59), .mov, [.t 9], none, []⟩,
      ⟨(some 60), (.bin .quo), [.t 59, .c (.int .i64 1000000000)], none, [6]⟩,
      ⟨(some 61), (.iaddr 1), [.t 53, .t 56], none, [0, 3, 0, 1, 2, 3, 4, 5]⟩,
      ⟨none, (.store 1), [.t 61, .t 58], none, [8, 5, 0, 1, 2, 3, 4, 5]⟩,
      ⟨(some 7), .mov, [.t 60], none, [7, 9, 0, 1, 2, 3, 4, 5, 6, 7, 8, 9]⟩] false)))
  (.region [⟨(some 31), .mov, [.t 8], none, []⟩,
    ⟨(some 32), (.bin .add), [.t 31, .c (.int .i64 1)], none, [0]⟩,
    ⟨(some 8), .mov, [.t 32], none, [1, 0, 1]⟩] false))
def b113l0 : DCode := .keep [2, 3, 4, 5, 6, 7, 8] [2, 3, 4, 18]
  (.seq
   (.seq
    (.region [⟨(some 26), .mov, [.t 8], none, []⟩,
      ⟨(some 27), (.faddr 1 false 1), [.t 3], none, []⟩,
      ⟨(some 28), (.load false 1), [.t 27], none, [1]⟩,
      ⟨(some 29), .len, [.t 28], none, [2]⟩,
      ⟨(some 30), (.bin .lss), [.t 26, .t 29], none, [0, 3]⟩] false)
    (.cond (.t 30)
     .skip
     (.exit 2)))
   (.keep [2, 3, 4, 5, 6, 7, 8] [2, 3, 4, 18] b113k0))
def b113k1 : DCode :=
 (.region [⟨(some 62), .movv, [.t 5], none, []⟩,
   ⟨(some 63), .mov, [.t 6], none, []⟩,
   ⟨(some 64), (.faddr 1 false 1), [.t 3], none, []⟩,
   ⟨(some 65), (.load false 1), [.t 64], none, [2]⟩,
   ⟨(some 66), .len, [.t 65], none, [3]⟩,
   ⟨(some 67), (.bin .add), [.t 63, .t 66], none, [1, 4]⟩,
   ⟨(some 68), .movv, [.t 5], none, []⟩,
   ⟨(some 69), .mov, [.t 6], none, []⟩,
   ⟨(some 70), (.faddr 1 false 1), [.t 3], none, []⟩,
   ⟨(some 71), (.load false 1), [.t 70], none, [8]⟩,
   ⟨(some 72), .len, [.t 71], none, [9]⟩,
   ⟨(some 73), (.bin .add), [.t 69, .t 72], none, [7, 10]⟩,
   ⟨(some 74), (.iaddr 1), [.t 68, .t 73], none, [6, 11]⟩,
   ⟨(some 75), (.load false 1), [.t 74], none, [12]⟩,
   ⟨(some 76), .mov, [.t 7], none, []⟩,
   ⟨(some 77), (.bin .add), [.t 75, .t 76], none, [13, 14]⟩,
   ⟨(some 78), (.iaddr 1), [.t 62, .t 67], none, [0, 5, 0, 1, 2, 3, 4, 5, 6, 7, 8, 9, 10, 11, 12, 13, 14, 15]⟩,
   ⟨none, (.store 1), [.t 78, .t 77], none, [16, 15, 0, 1, 2, 3, 4, 5, 6, 7, 8, 9, 10, 11, 12, 13, 14, 15]⟩] true)
def b113k2 : DCode :=
 (.region [⟨(some 24), .mov, [.t 6], none, []⟩,
   ⟨(some 25), (.bin .add), [.t 24, .c (.int .i64 1)], none, [0]⟩,
   ⟨(some 6), .mov, [.t 25], none, [1, 0, 1]⟩] false)
def b113k3 : DCode :=
 (.seq
  (.block 1
   (.seq
    (.region [⟨(some 7), .mov, [.c (.int .i64 0)], none, []⟩] false)
    (.seq
     (.seq
      (.region [⟨(some 8), .mov, [.c (.int .i64 0)], none, []⟩] false)
      (.block 2
       (.loop b113l0)))
     (.keep [2, 3, 4, 5, 6, 7] [2, 3, 4, 18] b113k1))))
  (.keep [2, 3, 4, 5, 6] [2, 3, 4, 18] b113k2))
def b113l1 : DCode := .keep [2, 3, 4, 5, 6] [2, 3, 4, 18]
  (.seq
   (.seq
    (.region [⟨(some 19), .mov, [.t 6], none, []⟩,
      ⟨(some 20), (.faddr 1 false 1), [.t 2], none, []⟩,
      ⟨(some 21), (.load false 1), [.t 20], none, [1]⟩,
      ⟨(some 22), .len, [.t 21], none, [2]⟩,
      ⟨(some 23), (.bin .lss), [.t 19, .t 22], none, [0, 3]⟩] false)
    (.cond (.t 23)
     .skip
     (.exit 0)))
   (.keep [2, 3, 4, 5, 6] [2, 3, 4, 18] b113k3))
def b113k4 : DCode :=
 (.seq
  (.freeze [18]
   (.region [⟨(some 79), (.faddr 0 false 1), [.t 2], none, []⟩,
     ⟨(some 80), (.load false 1), [.t 79], none, [0]⟩,
     ⟨(some 81), (.faddr 0 false 1), [.t 3], none, []⟩,
     ⟨(some 82), (.load false 1), [.t 81], none, [2]⟩,
     ⟨(some 83), (.bin .mul), [.t 80, .t 82], none, [1, 3]⟩,
     ⟨(some 84), .movv, [.t 5], none, []⟩,
     ⟨(some 85), .call, [.f 127, .t 83, .t 84], none, [4, 5]⟩,
     ⟨none, (.store 2), [.t 4, .t 85], none, [6, 6, 0, 1, 2, 3, 4, 5, 6]⟩] false))
  .ret)
def b113 : DCode :=
 (.seq
  (.region [⟨(some 2), .box, [.t 0], none, []⟩,
    ⟨(some 3), .box, [.t 1], none, []⟩,
    ⟨(some 4), (.alloc [(.imm (.int .i64 0)), (.imm (.slc 1 []))]), [], none, []⟩] false)
  (.seq
   (.region [⟨(some 10), (.faddr 1 false 1), [.t 2], none, []⟩,
     ⟨(some 11), (.load false 1), [.t 10], none, [0]⟩,
     ⟨(some 12), .len, [.t 11], none, [1]⟩,
     ⟨(some 13), (.faddr 1 false 1), [.t 3], none, []⟩,
     ⟨(some 14), (.load false 1), [.t 13], none, [3]⟩,
     ⟨(some 15), .len, [.t 14], none, [4]⟩,
     ⟨(some 16), (.bin .add), [.t 12, .t 15], none, [2, 5]⟩,
     ⟨(some 17), (.bin .add), [.t 16, .c (.int .i64 1)], none, [6]⟩,
     ⟨(some 18), (.mksl (.int .i64 0) 8), [.t 17, .t 17], none, [7, 7]⟩,
     ⟨(some 5), .movv, [.t 18], none, [8, 0, 1, 2, 3, 4, 5, 6, 7, 8]⟩] false)
   (.seq
    (.seq
     (.region [⟨(some 6), .mov, [.c (.int .i64 0)], none, []⟩] false)
     (.block 0
      (.loop b113l1)))
    (.keep [2, 3, 4, 5] [2, 3, 4, 18] b113k4))))
def d113 : DFn := ⟨2, 86, [.cell 4 true 2], b113⟩
theorem body113 : d113.body = b113 := rfl
theorem res113 : d113.res = [.cell 4 true 2] := rfl
theorem k113 : chkFn Try.prog Try.f113 d113 = true := by kernel_rfl

/-- guidevane/guidevanebase.WideCmp -/
def b112 : DCode :=
 (.seq
  (.region [⟨(some 2), .box, [.t 0], none, []⟩,
    ⟨(some 3), .box, [.t 1], none, []⟩,
    ⟨(some 4), .mov, [.c (.int .i64 0)], none, []⟩] false)
  (.seq
   (.region [⟨(some 5), (.load true 2), [.t 2], none, []⟩,
     ⟨(some 6), (.load true 2), [.t 3], none, []⟩,
     ⟨(some 7), .call, [.f 126, .t 5, .t 6], none, [0, 1]⟩,
     ⟨(some 8), (.field 0 false 1), [.t 7], none, [2]⟩,
     ⟨(some 4), .mov, [.t 8], none, [3, 2, 0, 1, 2, 3]⟩] false)
   .ret))
def d112 : DFn := ⟨2, 9, [.tmp 4], b112⟩
theorem body112 : d112.body = b112 := rfl
theorem res112 : d112.res = [.tmp 4] := rfl
theorem k112 : chkFn Try.prog Try.f112 d112 = true := by kernel_rfl

/-- guidevane/guidevanebase.WideFloor -/
def b128k0 : DCode :=
 (.block 3
  (.seq
   (.region [⟨(some 41), .mov, [.t 8], none, []⟩,
     ⟨(some 42), .mov, [.t 9], none, []⟩,
     ⟨(some 43), (.bin .add), [.t 41, .t 42], none, [0, 1]⟩,
     ⟨(some 44), (.bin .add), [.t 43, .c (.int .i64 1)], none, [2]⟩,
     ⟨(some 45), (.bin .quo), [.t 44, .c (.int .i64 2)], none, [3]⟩,
     ⟨(some 10), .mov, [.t 45], none, [4, 0, 1, 2, 3, 4]⟩] false)
   (.seq
    (.region [⟨(some 46), (.faddr 1 false 1), [.t 3], none, []⟩,
      ⟨(some 47), (.load false 1), [.t 46], none, [0]⟩,
      ⟨(some 48), .call, [.f 127, .c (.int .i64 1), .t 47], none, [1]⟩,
      ⟨(some 49), .mov, [.t 10], none, []⟩,
      ⟨(some 50), .call, [.f 121, .t 49], none, [3, 2]⟩,
      ⟨(some 51), .call, [.f 113, .t 48, .t 50], none, [2, 4, 4]⟩,
      ⟨(some 52), (.field 1 false 1), [.t 51], none, [5]⟩,
      ⟨(some 53), .movv, [.t 6], none, []⟩,
      ⟨(some 54), .call, [.f 136, .t 52, .t 53], none, [6, 7, 5]⟩,
      ⟨(some 55), (.bin .leq), [.t 54, .c (.int .i64 0)], none, [8]⟩] false)
    (.cond (.t 55)
     (.region [⟨(some 56), .mov, [.t 10], none, []⟩,
       ⟨(some 8), .mov, [.t 56], none, [0, 0]⟩] false)
     (.region [⟨(some 57), .mov, [.t 10], none, []⟩,
       ⟨(some 58), (.bin .sub), [.t 57, .c (.int .i64 1)], none, [0]⟩,
       ⟨(some 9), .mov, [.t 58], none, [1, 0, 1]⟩] false)))))
def b128l0 : DCode := .keep [2, 3, 4, 5, 6, 7, 8, 9] [2, 3, 4, 19]
  (.seq
   (.seq
    (.region [⟨(some 38), .mov, [.t 8], none, []⟩,
      ⟨(some 39), .mov, [.t 9], none, []⟩,
      ⟨(some 40), (.bin .lss), [.t 38, .t 39], none, [0, 1]⟩] false)
    (.cond (.t 40)
     .skip
     (.exit 2)))
   (.keep [2, 3, 4, 5, 6, 7, 8, 9] [2, 3, 4, 19] b128k0))
def b128k1 : DCode :=
 (.seq
  (.region [⟨(some 59), .movv, [.t 5], none, []⟩,
    ⟨(some 60), .mov, [.t 7], none, []⟩,
    ⟨(some 61), .mov, [.t 8], none, []⟩,
    ⟨(some 62), (.iaddr 1), [.t 59, .t 60], none, [0, 1, 0, 1, 2]⟩,
    ⟨none, (.store 1), [.t 62, .t 61], none, [3, 2, 0, 1, 2]⟩] false)
  (.region [⟨(some 63), .movv, [.t 6], none, []⟩,
    ⟨(some 64), (.faddr 1 false 1), [.t 3], none, []⟩,
    ⟨(some 65), (.load false 1), [.t 64], none, [1]⟩,
    ⟨(some 66), .call, [.f 127, .c (.int .i64 1), .t 65], none, [2]⟩,
    ⟨(some 67), .mov, [.t 8], none, []⟩,
    ⟨(some 68), .call, [.f 121, .t 67], none, [4, 3]⟩,
    ⟨(some 69), .call, [.f 113, .t 66, .t 68], none, [3, 5, 5]⟩,
    ⟨(some 70), (.field 1 false 1), [.t 69], none, [6]⟩,
    ⟨(some 71), .call, [.f 137, .t 63, .t 70], none, [0, 7, 6]⟩,
    ⟨(some 6), .movv, [.t 71], none, [8, 8, 0, 1, 2, 3, 4, 5, 6, 7, 8]⟩] false))
def b128k2 : DCode :=
 (.region [⟨(some 27), .mov, [.t 7], none, []⟩,
   ⟨(some 28), (.bin .sub), [.t 27, .c (.int .i64 1)], none, [0]⟩,
   ⟨(some 7), .mov, [.t 28], none, [1, 0, 1]⟩] false)
def b128k3 : DCode :=
 (.seq
  (.block 1
   (.seq
    (.region [⟨(some 29), (.faddr 1 false 1), [.t 2], none, []⟩,
      ⟨(some 30), (.load false 1), [.t 29], none, [0]⟩,
      ⟨(some 31), .mov, [.t 7], none, []⟩,
      ⟨(some 32), (.iaddr 1), [.t 30, .t 31], none, [1, 2]⟩,
      ⟨(some 33), (.load false 1), [.t 32], none, [3]⟩,
      ⟨(some 34), (.bsl 1), [.t 33], none, [4]⟩,
      ⟨(some 35), .movv, [.t 6], none, []⟩,
      ⟨(some 36), (.append 1 8 false), [.t 34, .t 35], none, [5, 6]⟩,
      ⟨(some 37), .call, [.f 135, .t 36], none, [7, 7]⟩,
      ⟨(some 6), .movv, [.t 37], none, [8, 8, 0, 1, 2, 3, 4, 5, 6, 7, 8]⟩] false)
    (.seq
     (.region [⟨(some 8), .mov, [.c (.int .i64 0)], none, []⟩,
       ⟨(some 9), .mov, [.c (.int .i64 999999999)], none, [0, 0]⟩] false)
     (.seq
      (.block 2
       (.loop b128l0))
      (.keep [2, 3, 4, 5, 6, 7, 8] [2, 3, 4, 19] b128k1)))))
  (.keep [2, 3, 4, 5, 6, 7] [2, 3, 4, 19] b128k2))
def b128l1 : DCode := .keep [2, 3, 4, 5, 6, 7] [2, 3, 4, 19]
  (.seq
   (.seq
    (.region [⟨(some 25), .mov, [.t 7], none, []⟩,
      ⟨(some 26), (.bin .geq), [.t 25, .c (.int .i64 0)], none, [0]⟩] false)
    (.cond (.t 26)
     .skip
     (.exit 0)))
   (.keep [2, 3, 4, 5, 6, 7] [2, 3, 4, 19] b128k3))
def b128k4 : DCode :=
 (.seq
  (.region [⟨(some 87), (.load true 2), [.t 11], none, []⟩,
    ⟨none, (.store 2), [.t 4, .t 87], none, [0, 0]⟩] false)
  .ret)
def b128k5 : DCode :=
 (.seq
  (.freeze [19]
   (.region [⟨(some 72), (.faddr 0 false 1), [.t 2], none, []⟩,
     ⟨(some 73), (.load false 1), [.t 72], none, [0]⟩,
     ⟨(some 74), .movv, [.t 5], none, []⟩,
     ⟨(some 75), .call, [.f 127, .t 73, .t 74], none, [1, 2]⟩,
     ⟨(some 11), (.alloc [(.imm (.int .i64 0)), (.imm (.slc 1 []))]), [], none, []⟩,
     ⟨none, (.store 2), [.t 11, .t 75], none, [4, 3, 3, 0, 1, 2, 3, 4]⟩] false))
  (.seq
   (.seq
    (.region [⟨(some 76), (.faddr 0 false 1), [.t 2], none, []⟩,
      ⟨(some 77), (.load false 1), [.t 76], none, [0]⟩,
      ⟨(some 78), (.bin .lss), [.t 77, .c (.int .i64 0)], none, [1]⟩,
      ⟨(some 79), .mov, [.t 78], none, [2]⟩,
      ⟨(some 80), .movv, [.t 6], (some (79, true)), [3]⟩,
      ⟨(some 81), .len, [.t 80], (some (79, true)), [4, 3]⟩,
      ⟨(some 82), (.bin .gtr), [.t 81, .c (.int .i64 0)], (some (79, true)), [5, 3]⟩,
      ⟨(some 83), .pick, [.t 79, .t 82, .c (.bool false)], none, [3, 6]⟩] false)
    (.cond (.t 83)
     (.region [⟨(some 84), (.load true 2), [.t 11], none, []⟩,
       ⟨(some 85), .call, [.f 121, .c (.int .i64 1)], none, []⟩,
       ⟨(some 86), .call, [.f 126, .t 84, .t 85], none, [0, 1, 1]⟩,
       ⟨none, (.store 2), [.t 11, .t 86], none, [2, 2, 0, 1, 2]⟩] true)
     .skip))
   (.keep [4, 11] [4, 11] b128k4)))
def b128k6 : DCode :=
 (.seq
  (.region [⟨(some 16), (.faddr 1 false 1), [.t 2], none, []⟩,
    ⟨(some 17), (.load false 1), [.t 16], none, [0]⟩,
    ⟨(some 18), .len, [.t 17], none, [1]⟩,
    ⟨(some 19), (.mksl (.int .i64 0) 8), [.t 18, .t 18], none, [2, 2]⟩,
    ⟨(some 20), (.bsl 1), [], none, []⟩,
    ⟨(some 5), .movv, [.t 19], none, [3, 0, 1, 2, 3]⟩,
    ⟨(some 6), .movv, [.t 20], none, [4, 5, 0, 1, 2, 3, 4, 5]⟩] false)
  (.seq
   (.seq
    (.region [⟨(some 21), (.faddr 1 false 1), [.t 2], none, []⟩,
      ⟨(some 22), (.load false 1), [.t 21], none, [0]⟩,
      ⟨(some 23), .len, [.t 22], none, [1]⟩,
      ⟨(some 24), (.bin .sub), [.t 23, .c (.int .i64 1)], none, [2]⟩,
      ⟨(some 7), .mov, [.t 24], none, [3, 0, 1, 2, 3]⟩] false)
    (.block 0
     (.loop b128l1)))
   (.keep [2, 4, 5, 6] [2, 4, 19] b128k5)))
def b128 : DCode :=
 (.seq
  (.region [⟨(some 2), .box, [.t 0], none, []⟩,
    ⟨(some 3), .box, [.t 1], none, []⟩,
    ⟨(some 4), (.alloc [(.imm (.int .i64 0)), (.imm (.slc 1 []))]), [], none, []⟩] false)
  (.seq
   (.seq
    (.region [⟨(some 12), (.faddr 0 false 1), [.t 2], none, []⟩,
      ⟨(some 13), (.load false 1), [.t 12], none, [0]⟩,
      ⟨(some 14), (.bin .eql), [.t 13, .c (.int .i64 0)], none, [1]⟩] false)
    (.cond (.t 14)
     (.seq
      (.region [⟨(some 15), (.build [(.imm (.int .i64 0)), (.imm (.slc 1 []))] []), [], none, []⟩,
        ⟨none, (.store 2), [.t 4, .t 15], none, [0, 0]⟩] false)
      .ret)
     .skip))
   (.keep [2, 3, 4] [2, 3, 4] b128k6)))
def d128 : DFn := ⟨2, 88, [.cell 4 true 2], b128⟩
theorem body128 : d128.body = b128 := rfl
theorem res128 : d128.res = [.cell 4 true 2] := rfl
theorem k128 : chkFn Try.prog Try.f128 d128 = true := by kernel_rfl

/-- guidevane/guidevanebase.wideSize -/
def b139k0 : DCode :=
 (.seq
  (.region [⟨(some 8), (.load true 2), [.t 1], none, []⟩,
    ⟨none, (.store 2), [.t 2, .t 8], none, [0, 0]⟩] false)
  .ret)
def b139 : DCode :=
 (.seq
  (.region [⟨(some 1), .box, [.t 0], none, []⟩,
    ⟨(some 2), (.alloc [(.imm (.int .i64 0)), (.imm (.slc 1 []))]), [], none, []⟩] false)
  (.seq
   (.seq
    (.region [⟨(some 3), (.faddr 0 false 1), [.t 1], none, []⟩,
      ⟨(some 4), (.load false 1), [.t 3], none, [0]⟩,
      ⟨(some 5), (.bin .lss), [.t 4, .c (.int .i64 0)], none, [1]⟩] false)
    (.cond (.t 5)
     (.seq
      (.region [⟨(some 6), (.load true 2), [.t 1], none, []⟩,
        ⟨(some 7), .call, [.f 129, .t 6], none, [0]⟩,
        ⟨none, (.store 2), [.t 2, .t 7], none, [1, 1, 0, 1]⟩] false)
      .ret)
     .skip))
   (.keep [1, 2] [1, 2] b139k0)))
def d139 : DFn := ⟨1, 9, [.cell 2 true 2], b139⟩
theorem body139 : d139.body = b139 := rfl
theorem res139 : d139.res = [.cell 2 true 2] := rfl
theorem k139 : chkFn Try.prog Try.f139 d139 = true := by kernel_rfl

/-- guidevane/guidevanebase.wideGcd -/
def b133k0 : DCode :=
 (.block 1
  (.seq
   (.region [⟨(some 13), (.load true 2), [.t 2], none, []⟩,
     ⟨(some 14), (.load true 2), [.t 2], none, []⟩,
     ⟨(some 15), (.load true 2), [.t 3], none, []⟩,
     ⟨(some 16), .call, [.f 128, .t 14, .t 15], none, [1, 2]⟩,
     ⟨(some 17), (.load true 2), [.t 3], none, []⟩,
     ⟨(some 18), .call, [.f 113, .t 16, .t 17], none, [3, 4, 3]⟩,
     ⟨(some 19), .call, [.f 126, .t 13, .t 18], none, [0, 5, 5]⟩,
     ⟨(some 5), (.alloc [(.imm (.int .i64 0)), (.imm (.slc 1 []))]), [], none, []⟩,
     ⟨none, (.store 2), [.t 5, .t 19], none, [7, 6, 6, 0, 1, 2, 3, 4, 5, 6, 7]⟩] true)
   (.region [⟨(some 20), (.loadf true 2 [3]), [.t 3], none, []⟩,
     ⟨(some 21), (.loadf true 2 [5]), [.t 5], none, []⟩,
     ⟨none, (.storef 2 [2]), [.t 2, .t 20], none, [0, 0]⟩,
     ⟨none, (.storef 2 [3]), [.t 3, .t 21], none, [1, 2, 0, 1, 2]⟩] true)))
def b133l0 : DCode := .keep [2, 3, 4] [2, 3, 4]
  (.seq
   (.seq
    (.region [⟨(some 10), (.load true 2), [.t 3], none, []⟩,
      ⟨(some 11), .call, [.f 132, .t 10], none, [0]⟩,
      ⟨(some 12), (.bin .neq), [.t 11, .c (.int .i64 0)], none, [1]⟩] false)
    (.cond (.t 12)
     .skip
     (.exit 0)))
   (.keep [2, 3, 4] [2, 3, 4] b133k0))
def b133k1 : DCode :=
 (.seq
  (.region [⟨(some 22), (.load true 2), [.t 2], none, []⟩,
    ⟨none, (.store 2), [.t 4, .t 22], none, [0, 0]⟩] false)
  .ret)
def b133 : DCode :=
 (.seq
  (.region [⟨(some 2), .box, [.t 0], none, []⟩,
    ⟨(some 3), .box, [.t 1], none, []⟩,
    ⟨(some 4), (.alloc [(.imm (.int .i64 0)), (.imm (.slc 1 []))]), [], none, []⟩] false)
  (.seq
   (.region [⟨(some 6), (.load true 2), [.t 2], none, []⟩,
     ⟨(some 7), .call, [.f 139, .t 6], none, [0]⟩,
     ⟨(some 8), (.load true 2), [.t 3], none, []⟩,
     ⟨(some 9), .call, [.f 139, .t 8], none, [2, 1]⟩,
     ⟨none, (.store 2), [.t 2, .t 7], none, [1, 3, 0, 1]⟩,
     ⟨none, (.store 2), [.t 3, .t 9], none, [3, 4, 0, 1, 2, 3, 4]⟩] true)
   (.seq
    (.block 0
     (.loop b133l0))
    (.keep [2, 4] [2, 4] b133k1))))
def d133 : DFn := ⟨2, 23, [.cell 4 true 2], b133⟩
theorem body133 : d133.body = b133 := rfl
theorem res133 : d133.res = [.cell 4 true 2] := rfl
theorem k133 : chkFn Try.prog Try.f133 d133 = true := by kernel_rfl

/-- guidevane/guidevanebase.RatioMake -/
def b120k0 : DCode :=
 (.seq
  (.region [⟨(some 23), (.load true 2), [.t 2], none, []⟩,
    ⟨(some 24), (.load true 2), [.t 5], none, []⟩,
    ⟨(some 25), .call, [.f 128, .t 23, .t 24], none, [0, 1]⟩,
    ⟨(some 26), (.load true 2), [.t 3], none, []⟩,
    ⟨(some 27), (.load true 2), [.t 5], none, []⟩,
    ⟨(some 28), .call, [.f 128, .t 26, .t 27], none, [3, 4, 2]⟩,
    ⟨(some 29), (.build [(.imm (.int .i64 0)), (.imm (.slc 1 [])), (.imm (.int .i64 0)), (.imm (.slc 1 []))] [(0, 2), (2, 2)]), [.t 25, .t 28], none, [2, 5]⟩,
    ⟨none, (.store 4), [.t 4, .t 29], none, [6, 5, 0, 1, 2, 3, 4, 5, 6]⟩] true)
  .ret)
def b120k1 : DCode :=
 (.seq
  (.region [⟨(some 13), (.load true 2), [.t 2], none, []⟩,
    ⟨(some 14), (.load true 2), [.t 3], none, []⟩,
    ⟨(some 15), .call, [.f 133, .t 13, .t 14], none, [0, 1]⟩,
    ⟨(some 5), (.alloc [(.imm (.int .i64 0)), (.imm (.slc 1 []))]), [], none, []⟩,
    ⟨none, (.store 2), [.t 5, .t 15], none, [3, 2, 2, 0, 1, 2, 3]⟩] false)
  (.seq
   (.seq
    (.region [⟨(some 16), (.load true 2), [.t 5], none, []⟩,
      ⟨(some 17), .call, [.f 121, .c (.int .i64 1)], none, []⟩,
      ⟨(some 18), .call, [.f 112, .t 16, .t 17], none, [0, 1, 1]⟩,
      ⟨(some 19), (.bin .eql), [.t 18, .c (.int .i64 0)], none, [2]⟩] true)
    (.cond (.t 19)
     (.seq
      (.region [⟨(some 20), (.load true 2), [.t 2], none, []⟩,
        ⟨(some 21), (.load true 2), [.t 3], none, []⟩,
        ⟨(some 22), (.build [(.imm (.int .i64 0)), (.imm (.slc 1 [])), (.imm (.int .i64 0)), (.imm (.slc 1 []))] [(0, 2), (2, 2)]), [.t 20, .t 21], none, [0, 1]⟩,
        ⟨none, (.store 4), [.t 4, .t 22], none, [2, 0, 1, 2]⟩] false)
      .ret)
     .skip))
   (.keep [2, 3, 4, 5] [2, 3, 4, 5] b120k0)))
def b120 : DCode :=
 (.seq
  (.region [⟨(some 2), .box, [.t 0], none, []⟩,
    ⟨(some 3), .box, [.t 1], none, []⟩,
    ⟨(some 4), (.alloc [(.imm (.int .i64 0)), (.imm (.slc 1 [])), (.imm (.int .i64 0)), (.imm (.slc 1 []))]), [], none, []⟩] false)
  (.seq
   (.seq
    (.region [⟨(some 6), (.load true 2), [.t 3], none, []⟩,
      ⟨(some 7), .call, [.f 132, .t 6], none, [0]⟩,
      ⟨(some 8), (.bin .lss), [.t 7, .c (.int .i64 0)], none, [1]⟩] false)
    (.cond (.t 8)
     (.region [⟨(some 9), (.load true 2), [.t 2], none, []⟩,
       ⟨(some 10), .call, [.f 129, .t 9], none, [0]⟩,
       ⟨(some 11), (.load true 2), [.t 3], none, []⟩,
       ⟨(some 12), .call, [.f 129, .t 11], none, [2, 1]⟩,
       ⟨none, (.store 2), [.t 2, .t 10], none, [1, 3, 0, 1]⟩,
       ⟨none, (.store 2), [.t 3, .t 12], none, [3, 4, 0, 1, 2, 3, 4]⟩] true)
     .skip))
   (.keep [2, 3, 4] [2, 3, 4] b120k1)))
def d120 : DFn := ⟨2, 30, [.cell 4 true 4], b120⟩
theorem body120 : d120.body = b120 := rfl
theorem res120 : d120.res = [.cell 4 true 4] := rfl
theorem k120 : chkFn Try.prog Try.f120 d120 = true := by kernel_rfl

/-- guidevane/guidevanebase.RatioOf -/
def b114 : DCode :=
 (.seq
  (.region [⟨(some 4), (.alloc [(.imm (.int .i64 0)), (.imm (.slc 1 [])), (.imm (.int .i64 0)), (.imm (.slc 1 []))]), [], none, []⟩] false)
  (.seq
   (.region [⟨(some 5), .mov, [.t 0], none, []⟩,
     ⟨(some 6), .call, [.f 121, .t 5], none, [0]⟩,
     ⟨(some 7), .mov, [.t 1], none, []⟩,
     ⟨(some 8), .call, [.f 121, .t 7], none, [2, 1]⟩,
     ⟨(some 9), .call, [.f 120, .t 6, .t 8], none, [1, 3, 3]⟩,
     ⟨none, (.store 4), [.t 4, .t 9], none, [4, 4, 0, 1, 2, 3, 4]⟩] false)
   .ret))
def d114 : DFn := ⟨2, 10, [.cell 4 true 4], b114⟩
theorem body114 : d114.body = b114 := rfl
theorem res114 : d114.res = [.cell 4 true 4] := rfl
theorem k114 : chkFn Try.prog Try.f114 d114 = true := by kernel_rfl

/-- guidevane/guidevanebase.RatioInt -/
def b103 : DCode :=
 (.seq
  (.region [⟨(some 2), (.alloc [(.imm (.int .i64 0)), (.imm (.slc 1 [])), (.imm (.int .i64 0)), (.imm (.slc 1 []))]), [], none, []⟩] false)
  (.seq
   (.region [⟨(some 3), .mov, [.t 0], none, []⟩,
     ⟨(some 4), .call, [.f 121, .t 3], none, [0]⟩,
     ⟨(some 5), .call, [.f 121, .c (.int .i64 1)], none, [1]⟩,
     ⟨(some 6), (.build [(.imm (.int .i64 0)), (.imm (.slc 1 [])), (.imm (.int .i64 0)), (.imm (.slc 1 []))] [(0, 2), (2, 2)]), [.t 4, .t 5], none, [1, 2]⟩,
     ⟨none, (.store 4), [.t 2, .t 6], none, [3, 2, 0, 1, 2, 3]⟩] false)
   .ret))
def d103 : DFn := ⟨1, 7, [.cell 2 true 4], b103⟩
theorem body103 : d103.body = b103 := rfl
theorem res103 : d103.res = [.cell 2 true 4] := rfl
theorem k103 : chkFn Try.prog Try.f103 d103 = true := by kernel_rfl

/-- guidevane/guidevanebase.RatioMul -/
def b102 : DCode :=
 (.seq
  (.region [⟨(some 2), .box, [.t 0], none, []⟩,
    ⟨(some 3), .box, [.t 1], none, []⟩,
    ⟨(some 4), (.alloc [(.imm (.int .i64 0)), (.imm (.slc 1 [])), (.imm (.int .i64 0)), (.imm (.slc 1 []))]), [], none, []⟩] false)
  (.seq
   (.region [⟨(some 5), (.faddr 0 true 2), [.t 2], none, []⟩,
     ⟨(some 6), (.load true 2), [.t 5], none, [0]⟩,
     ⟨(some 7), (.faddr 0 true 2), [.t 3], none, []⟩,
     ⟨(some 8), (.load true 2), [.t 7], none, [2]⟩,
     ⟨(some 9), .call, [.f 113, .t 6, .t 8], none, [1, 3]⟩,
     ⟨(some 10), (.faddr 2 true 2), [.t 2], none, []⟩,
     ⟨(some 11), (.load true 2), [.t 10], none, [5]⟩,
     ⟨(some 12), (.faddr 2 true 2), [.t 3], none, []⟩,
     ⟨(some 13), (.load true 2), [.t 12], none, [7]⟩,
     ⟨(some 14), .call, [.f 113, .t 11, .t 13], none, [6, 8, 4]⟩,
     ⟨(some 15), .call, [.f 120, .t 9, .t 14], none, [4, 9, 9]⟩,
     ⟨none, (.store 4), [.t 4, .t 15], none, [10, 10, 0, 1, 2, 3, 4, 5, 6, 7, 8, 9, 10]⟩] true)
   .ret))
def d102 : DFn := ⟨2, 16, [.cell 4 true 4], b102⟩
theorem body102 : d102.body = b102 := rfl
theorem res102 : d102.res = [.cell 4 true 4] := rfl
theorem k102 : chkFn Try.prog Try.f102 d102 = true := by kernel_rfl

/-- guidevane/guidevanebase.RatioDiv -/
def b101 : DCode :=
 (.seq
  (.region [⟨(some 2), .box, [.t 0], none, []⟩,
    ⟨(some 3), .box, [.t 1], none, []⟩,
    ⟨(some 4), (.alloc [(.imm (.int .i64 0)), (.imm (.slc 1 [])), (.imm (.int .i64 0)), (.imm (.slc 1 []))]), [], none, []⟩] false)
  (.seq
   (.region [⟨(some 5), (.faddr 0 true 2), [.t 2], none, []⟩,
     ⟨(some 6), (.load true 2), [.t 5], none, [0]⟩,
     ⟨(some 7), (.faddr 2 true 2), [.t 3], none, []⟩,
     ⟨(some 8), (.load true 2), [.t 7], none, [2]⟩,
     ⟨(some 9), .call, [.f 113, .t 6, .t 8], none, [1, 3]⟩,
     ⟨(some 10), (.faddr 2 true 2), [.t 2], none, []⟩,
     ⟨(some 11), (.load true 2), [.t 10], none, [5]⟩,
     ⟨(some 12), (.faddr 0 true 2), [.t 3], none, []⟩,
     ⟨(some 13), (.load true 2), [.t 12], none, [7]⟩,
     ⟨(some 14), .call, [.f 113, .t 11, .t 13], none, [6, 8, 4]⟩,
     ⟨(some 15), .call, [.f 120, .t 9, .t 14], none, [4, 9, 9]⟩,
     ⟨none, (.store 4), [.t 4, .t 15], none, [10, 10, 0, 1, 2, 3, 4, 5, 6, 7, 8, 9, 10]⟩] true)
   .ret))
def d101 : DFn := ⟨2, 16, [.cell 4 true 4], b101⟩
theorem body101 : d101.body = b101 := rfl
theorem res101 : d101.res = [.cell 4 true 4] := rfl
theorem k101 : chkFn Try.prog Try.f101 d101 = true := by kernel_rfl

/-- guidevane/guidevanebase.RatioAdd -/
def b118 : DCode :=
 (.seq
  (.region [⟨(some 2), .box, [.t 0], none, []⟩,
    ⟨(some 3), .box, [.t 1], none, []⟩,
    ⟨(some 4), (.alloc [(.imm (.int .i64 0)), (.imm (.slc 1 [])), (.imm (.int .i64 0)), (.imm (.slc 1 []))]), [], none, []⟩] false)
  (.seq
   (.region [⟨(some 5), (.faddr 0 true 2), [.t 2], none, []⟩,
     ⟨(some 6), (.load true 2), [.t 5], none, [0]⟩,
     ⟨(some 7), (.faddr 2 true 2), [.t 3], none, []⟩,
     ⟨(some 8), (.load true 2), [.t 7], none, [2]⟩,
     ⟨(some 9), .call, [.f 113, .t 6, .t 8], none, [1, 3]⟩,
     ⟨(some 10), (.faddr 0 true 2), [.t 3], none, []⟩,
     ⟨(some 11), (.load true 2), [.t 10], none, [5]⟩,
     ⟨(some 12), (.faddr 2 true 2), [.t 2], none, []⟩,
     ⟨(some 13), (.load true 2), [.t 12], none, [7]⟩,
     ⟨(some 14), .call, [.f 113, .t 11, .t 13], none, [6, 8, 4]⟩,
     ⟨(some 15), .call, [.f 130, .t 9, .t 14], none, [4, 9, 9]⟩,
     ⟨(some 16), (.faddr 2 true 2), [.t 2], none, []⟩,
     ⟨(some 17), (.load true 2), [.t 16], none, [11]⟩,
     ⟨(some 18), (.faddr 2 true 2), [.t 3], none, []⟩,
     ⟨(some 19), (.load true 2), [.t 18], none, [13]⟩,
     ⟨(some 20), .call, [.f 113, .t 17, .t 19], none, [12, 14, 10]⟩,
     ⟨(some 21), .call, [.f 120, .t 15, .t 20], none, [10, 15, 15]⟩,
     ⟨none, (.store 4), [.t 4, .t 21], none, [16, 16, 0, 1, 2, 3, 4, 5, 6, 7, 8, 9, 10, 11, 12, 13, 14, 15, 16]⟩] true)
   .ret))
def d118 : DFn := ⟨2, 22, [.cell 4 true 4], b118⟩
theorem body118 : d118.body = b118 := rfl
theorem res118 : d118.res = [.cell 4 true 4] := rfl
theorem k118 : chkFn Try.prog Try.f118 d118 = true := by kernel_rfl

/-- guidevane/guidevanebase.RatioCmp -/
def b85 : DCode :=
 (.seq
  (.region [⟨(some 2), .box, [.t 0], none, []⟩,
    ⟨(some 3), .box, [.t 1], none, []⟩,
    ⟨(some 4), .mov, [.c (.int .i64 0)], none, []⟩] false)
  (.seq
   (.region [⟨(some 5), (.faddr 0 true 2), [.t 2], none, []⟩,
     ⟨(some 6), (.load true 2), [.t 5], none, [0]⟩,
     ⟨(some 7), (.faddr 2 true 2), [.t 3], none, []⟩,
     ⟨(some 8), (.load true 2), [.t 7], none, [2]⟩,
     ⟨(some 9), .call, [.f 113, .t 6, .t 8], none, [1, 3]⟩,
     ⟨(some 10), (.faddr 0 true 2), [.t 3], none, []⟩,
     ⟨(some 11), (.load true 2), [.t 10], none, [5]⟩,
     ⟨(some 12), (.faddr 2 true 2), [.t 2], none, []⟩,
     ⟨(some 13), (.load true 2), [.t 12], none, [7]⟩,
     ⟨(some 14), .call, [.f 113, .t 11, .t 13], none, [6, 8, 4]⟩,
     ⟨(some 15), .call, [.f 112, .t 9, .t 14], none, [4, 9, 9]⟩,
     ⟨(some 4), .mov, [.t 15], none, [10, 10, 0, 1, 2, 3, 4, 5, 6, 7, 8, 9, 10]⟩] true)
   .ret))
def d85 : DFn := ⟨2, 16, [.tmp 4], b85⟩
theorem body85 : d85.body = b85 := rfl
theorem res85 : d85.res = [.tmp 4] := rfl
theorem k85 : chkFn Try.prog Try.f85 d85 = true := by kernel_rfl

/-- guidevane/guidevanebase.RatioFloor -/
def b116 : DCode :=
 (.seq
  (.region [⟨(some 1), .box, [.t 0], none, []⟩,
    ⟨(some 2), (.alloc [(.imm (.int .i64 0)), (.imm (.slc 1 []))]), [], none, []⟩] false)
  (.seq
   (.region [⟨(some 3), (.faddr 0 true 2), [.t 1], none, []⟩,
     ⟨(some 4), (.load true 2), [.t 3], none, [0]⟩,
     ⟨(some 5), (.faddr 2 true 2), [.t 1], none, []⟩,
     ⟨(some 6), (.load true 2), [.t 5], none, [2]⟩,
     ⟨(some 7), .call, [.f 128, .t 4, .t 6], none, [1, 3]⟩,
     ⟨none, (.store 2), [.t 2, .t 7], none, [4, 4, 0, 1, 2, 3, 4]⟩] false)
   .ret))
def d116 : DFn := ⟨1, 8, [.cell 2 true 2], b116⟩
theorem body116 : d116.body = b116 := rfl
theorem res116 : d116.res = [.cell 2 true 2] := rfl
theorem k116 : chkFn Try.prog Try.f116 d116 = true := by kernel_rfl

/-- guidevane/guidevanebase.RatioCeil -/
def b117 : DCode :=
 (.seq
  (.region [⟨(some 1), .box, [.t 0], none, []⟩,
    ⟨(some 2), (.alloc [(.imm (.int .i64 0)), (.imm (.slc 1 []))]), [], none, []⟩] false)
  (.seq
   (.region [⟨(some 3), (.faddr 0 true 2), [.t 1], none, []⟩,
     ⟨(some 4), (.load true 2), [.t 3], none, [0]⟩,
     ⟨(some 5), .call, [.f 129, .t 4], none, [1]⟩,
     ⟨(some 6), (.faddr 2 true 2), [.t 1], none, []⟩,
     ⟨(some 7), (.load true 2), [.t 6], none, [3]⟩,
     ⟨(some 8), .call, [.f 128, .t 5, .t 7], none, [2, 4, 2]⟩,
     ⟨(some 9), .call, [.f 129, .t 8], none, [5, 5]⟩,
     ⟨none, (.store 2), [.t 2, .t 9], none, [6, 6, 0, 1, 2, 3, 4, 5, 6]⟩] true)
   .ret))
def d117 : DFn := ⟨1, 10, [.cell 2 true 2], b117⟩
theorem body117 : d117.body = b117 := rfl
theorem res117 : d117.res = [.cell 2 true 2] := rfl
theorem k117 : chkFn Try.prog Try.f117 d117 = true := by kernel_rfl

/-- guidevane/guidevanebase.WideInt -/
def b115k0 : DCode :=
 (.seq
  (.block 1
   (.region [⟨(some 18), .mov, [.t 4], none, []⟩,
     ⟨(some 19), (.bin .mul), [.t 18, .c (.int .i64 1000000000)], none, [0]⟩,
     ⟨(some 20), (.faddr 1 false 1), [.t 1], none, []⟩,
     ⟨(some 21), (.load false 1), [.t 20], none, [2]⟩,
     ⟨(some 22), .mov, [.t 5], none, []⟩,
     ⟨(some 23), (.iaddr 1), [.t 21, .t 22], none, [3, 4]⟩,
     ⟨(some 24), (.load false 1), [.t 23], none, [5]⟩,
     ⟨(some 25), (.bin .add), [.t 19, .t 24], none, [1, 6]⟩,
     ⟨(some 4), .mov, [.t 25], none, [7, 0, 1, 2, 3, 4, 5, 6, 7]⟩] false))
  (.region [⟨(some 16), .mov, [.t 5], none, []⟩,
    ⟨(some 17), (.bin .sub), [.t 16, .c (.int .i64 1)], none, [0]⟩,
    ⟨(some 5), .mov, [.t 17], none, [1, 0, 1]⟩] false))
def b115l0 : DCode := .keep [1, 4, 5] [1]
  (.seq
   (.seq
    (.region [⟨(some 14), .mov, [.t 5], none, []⟩,
      ⟨(some 15), (.bin .geq), [.t 14, .c (.int .i64 0)], none, [0]⟩] false)
    (.cond (.t 15)
     .skip
     (.exit 0)))
   (.keep [1, 4, 5] [1] b115k0))
def b115k1 : DCode :=
 (.seq
  (.region [⟨(some 26), (.faddr 0 false 1), [.t 1], none, []⟩,
    ⟨(some 27), (.load false 1), [.t 26], none, [0]⟩,
    ⟨(some 28), .mov, [.t 4], none, []⟩,
    ⟨(some 29), (.bin .mul), [.t 27, .t 28], none, [1, 2]⟩,
    ⟨(some 2), .mov, [.t 29], none, [3, 0, 1, 2, 3]⟩,
    ⟨(some 3), .mov, [.c (.bool true)], none, [4, 0, 1, 2, 3, 4]⟩] false)
  .ret)
def b115k2 : DCode :=
 (.seq
  (.region [⟨(some 4), .mov, [.c (.int .i64 0)], none, []⟩] false)
  (.seq
   (.seq
    (.region [⟨(some 10), (.faddr 1 false 1), [.t 1], none, []⟩,
      ⟨(some 11), (.load false 1), [.t 10], none, [0]⟩,
      ⟨(some 12), .len, [.t 11], none, [1]⟩,
      ⟨(some 13), (.bin .sub), [.t 12, .c (.int .i64 1)], none, [2]⟩,
      ⟨(some 5), .mov, [.t 13], none, [3, 0, 1, 2, 3]⟩] false)
    (.block 0
     (.loop b115l0)))
   (.keep [1, 4] [1] b115k1)))
def b115 : DCode :=
 (.seq
  (.region [⟨(some 1), .box, [.t 0], none, []⟩,
    ⟨(some 2), .mov, [.c (.int .i64 0)], none, []⟩,
    ⟨(some 3), .mov, [.c (.bool false)], none, [1]⟩] false)
  (.seq
   (.seq
    (.region [⟨(some 6), (.faddr 1 false 1), [.t 1], none, []⟩,
      ⟨(some 7), (.load false 1), [.t 6], none, [0]⟩,
      ⟨(some 8), .len, [.t 7], none, [1]⟩,
      ⟨(some 9), (.bin .gtr), [.t 8, .c (.int .i64 2)], none, [2]⟩] false)
    (.cond (.t 9)
     (.seq
      (.region [⟨(some 2), .mov, [.c (.int .i64 0)], none, []⟩,
        ⟨(some 3), .mov, [.c (.bool false)], none, [0, 0]⟩] false)
      .ret)
     .skip))
   (.keep [1] [1] b115k2)))
def d115 : DFn := ⟨1, 30, [.tmp 2, .tmp 3], b115⟩
theorem body115 : d115.body = b115 := rfl
theorem res115 : d115.res = [.tmp 2, .tmp 3] := rfl
theorem k115 : chkFn Try.prog Try.f115 d115 = true := by kernel_rfl

/-- guidevane/guidevanebase.Within -/
def b15 : DCode :=
 (.seq
  (.region [⟨(some 6), .mov, [.c (.bool false)], none, []⟩] false)
  (.seq
   (.region [⟨(some 7), .mov, [.t 1], none, []⟩,
     ⟨(some 8), .mov, [.t 0], none, []⟩,
     ⟨(some 9), (.bin .leq), [.t 7, .t 8], none, [0, 1]⟩,
     ⟨(some 10), .mov, [.t 9], none, [2]⟩,
     ⟨(some 11), .mov, [.t 0], (some (10, true)), [3]⟩,
     ⟨(some 12), .mov, [.t 2], (some (10, true)), [3]⟩,
     ⟨(some 13), (.bin .leq), [.t 11, .t 12], (some (10, true)), [4, 5, 3]⟩,
     ⟨(some 14), .pick, [.t 10, .t 13, .c (.bool false)], none, [3, 6]⟩,
     ⟨(some 6), .mov, [.t 14], none, [7, 3, 0, 1, 2, 3, 4, 5, 6, 7]⟩] false)
   .ret))
def d15 : DFn := ⟨3, 15, [.tmp 6], b15⟩
theorem body15 : d15.body = b15 := rfl
theorem res15 : d15.res = [.tmp 6] := rfl
theorem k15 : chkFn Try.prog Try.f15 d15 = true := by kernel_rfl

/-- guidevane/guidevanebase.Gcd -/
def b119k0 : DCode :=
 (.block 1
  (.region [⟨(some 7), .mov, [.t 1], none, []⟩,
    ⟨(some 8), .mov, [.t 0], none, []⟩,
    ⟨(some 9), .mov, [.t 1], none, []⟩,
    ⟨(some 10), (.bin .rem), [.t 8, .t 9], none, [1, 2]⟩,
    ⟨(some 0), .mov, [.t 7], none, [0, 0, 1]⟩,
    ⟨(some 1), .mov, [.t 10], none, [3, 4, 0, 1, 2, 3, 4]⟩] true))
def b119l0 : DCode := .keep [0, 1] []
  (.seq
   (.seq
    (.region [⟨(some 5), .mov, [.t 1], none, []⟩,
      ⟨(some 6), (.bin .neq), [.t 5, .c (.int .i64 0)], none, [0]⟩] false)
    (.cond (.t 6)
     .skip
     (.exit 0)))
   (.keep [0, 1] [] b119k0))
def b119k1 : DCode :=
 (.seq
  (.region [⟨(some 11), .mov, [.t 0], none, []⟩,
    ⟨(some 12), .call, [.f 131, .t 11], none, [0]⟩,
    ⟨(some 4), .mov, [.t 12], none, [1, 1, 0, 1]⟩] false)
  .ret)
def b119 : DCode :=
 (.seq
  (.region [⟨(some 4), .mov, [.c (.int .i64 0)], none, []⟩] false)
  (.seq
   (.block 0
    (.loop b119l0))
   (.keep [0] [] b119k1)))
def d119 : DFn := ⟨2, 13, [.tmp 4], b119⟩
theorem body119 : d119.body = b119 := rfl
theorem res119 : d119.res = [.tmp 4] := rfl
theorem k119 : chkFn Try.prog Try.f119 d119 = true := by kernel_rfl

/-- guidevane/guidevanebase.Lowest -/
def b91k0 : DCode :=
 (.seq
  (.region [⟨(some 13), .mov, [.t 0], none, []⟩,
    ⟨(some 14), .mov, [.t 5], none, []⟩,
    ⟨(some 15), (.bin .quo), [.t 13, .t 14], none, [0, 1]⟩,
    ⟨(some 16), .mov, [.t 1], none, []⟩,
    ⟨(some 17), .mov, [.t 5], none, []⟩,
    ⟨(some 18), (.bin .quo), [.t 16, .t 17], none, [3, 4]⟩,
    ⟨(some 19), (.build [(.imm (.int .i64 0)), (.imm (.int .i64 0))] [(0, 1), (1, 1)]), [.t 15, .t 18], none, [2, 5]⟩,
    ⟨none, (.store 2), [.t 4, .t 19], none, [6, 0, 1, 2, 3, 4, 5, 6]⟩] true)
  .ret)
def b91 : DCode :=
 (.seq
  (.region [⟨(some 4), (.alloc [(.imm (.int .i64 0)), (.imm (.int .i64 0))]), [], none, []⟩] false)
  (.seq
   (.region [⟨(some 6), .mov, [.t 0], none, []⟩,
     ⟨(some 7), .mov, [.t 1], none, []⟩,
     ⟨(some 8), .call, [.f 119, .t 6, .t 7], none, [0, 1]⟩,
     ⟨(some 5), .mov, [.t 8], none, [2, 2, 0, 1, 2]⟩] false)
   (.seq
    (.seq
     (.region [⟨(some 9), .mov, [.t 1], none, []⟩,
       ⟨(some 10), (.bin .lss), [.t 9, .c (.int .i64 0)], none, [0]⟩] false)
     (.cond (.t 10)
      (.region [⟨(some 11), .mov, [.t 5], none, []⟩,
        ⟨(some 12), (.un .neg), [.t 11], none, [0]⟩,
        ⟨(some 5), .mov, [.t 12], none, [1, 0, 1]⟩] false)
      .skip))
    (.keep [0, 1, 4, 5] [4] b91k0))))
def d91 : DFn := ⟨2, 20, [.cell 4 true 2], b91⟩
theorem body91 : d91.body = b91 := rfl
theorem res91 : d91.res = [.cell 4 true 2] := rfl
theorem k91 : chkFn Try.prog Try.f91 d91 = true := by kernel_rfl

/-- guidevane/guidevanebase.IsLowest -/
def b92 : DCode :=
 (.seq
  (.region [⟨(some 1), .box, [.t 0], none, []⟩,
    ⟨(some 2), .mov, [.c (.bool false)], none, []⟩] false)
  (.seq
   (.region [⟨(some 3), (.faddr 1 false 1), [.t 1], none, []⟩,
     ⟨(some 4), (.load false 1), [.t 3], none, [0]⟩,
     ⟨(some 5), (.bin .gtr), [.t 4, .c (.int .i64 0)], none, [1]⟩,
     ⟨(some 6), .mov, [.t 5], none, [2]⟩,
     ⟨(some 7), (.faddr 0 false 1), [.t 1], (some (6, true)), [3]⟩,
     ⟨(some 8), (.load false 1), [.t 7], (some (6, true)), [4, 3]⟩,
     ⟨(some 9), (.faddr 1 false 1), [.t 1], (some (6, true)), [3]⟩,
     ⟨(some 10), (.load false 1), [.t 9], (some (6, true)), [6, 3]⟩,
     ⟨(some 11), .call, [.f 119, .t 8, .t 10], (some (6, true)), [5, 7, 3, 3]⟩,
     ⟨(some 12), (.bin .eql), [.t 11, .c (.int .i64 1)], (some (6, true)), [8, 3]⟩,
     ⟨(some 13), .pick, [.t 6, .t 12, .c (.bool false)], none, [3, 9]⟩,
     ⟨(some 2), .mov, [.t 13], none, [10, 8, 0, 1, 2, 3, 4, 5, 6, 7, 8, 9, 10]⟩] false)
   .ret))
def d92 : DFn := ⟨1, 14, [.tmp 2], b92⟩
theorem body92 : d92.body = b92 := rfl
theorem res92 : d92.res = [.tmp 2] := rfl
theorem k92 : chkFn Try.prog Try.f92 d92 = true := by kernel_rfl

/-- guidevane/guidevanebase.IsSmall -/
def b93 : DCode :=
 (.seq
  (.region [⟨(some 1), .box, [.t 0], none, []⟩,
    ⟨(some 2), .mov, [.c (.bool false)], none, []⟩] false)
  (.seq
   (.region [⟨(some 3), (.faddr 0 false 1), [.t 1], none, []⟩,
     ⟨(some 4), (.load false 1), [.t 3], none, [0]⟩,
     ⟨(some 5), .call, [.f 15, .t 4, .c (.int .i64 (-1000000000)), .c (.int .i64 1000000000)], none, [1]⟩,
     ⟨(some 6), .mov, [.t 5], none, [2, 2]⟩,
     ⟨(some 7), (.faddr 1 false 1), [.t 1], (some (6, true)), [3]⟩,
     ⟨(some 8), (.load false 1), [.t 7], (some (6, true)), [4, 3]⟩,
     ⟨(some 9), .call, [.f 15, .t 8, .c (.int .i64 1), .c (.int .i64 1000000000)], (some (6, true)), [5, 3, 3]⟩,
     ⟨(some 10), .pick, [.t 6, .t 9, .c (.bool false)], none, [3, 6]⟩,
     ⟨(some 2), .mov, [.t 10], none, [7, 6, 0, 1, 2, 3, 4, 5, 6, 7]⟩] false)
   .ret))
def d93 : DFn := ⟨1, 11, [.tmp 2], b93⟩
theorem body93 : d93.body = b93 := rfl
theorem res93 : d93.res = [.tmp 2] := rfl
theorem k93 : chkFn Try.prog Try.f93 d93 = true := by kernel_rfl

/-- guidevane/guidevanebase.Cmp -/
def b49k0 : DCode :=
 (.seq
  (.region [⟨(some 4), .mov, [.c (.int .i64 0)], none, []⟩] false)
  .ret)
def b49k1 : DCode :=
 (.seq
  (.seq
   (.region [⟨(some 20), .mov, [.t 5], none, []⟩,
     ⟨(some 21), .mov, [.t 6], none, []⟩,
     ⟨(some 22), (.bin .gtr), [.t 20, .t 21], none, [0, 1]⟩] false)
   (.cond (.t 22)
    (.seq
     (.region [⟨(some 4), .mov, [.c (.int .i64 1)], none, []⟩] false)
     .ret)
    .skip))
  (.keep [] [] b49k0))
def b49 : DCode :=
 (.seq
  (.region [⟨(some 2), .box, [.t 0], none, []⟩,
    ⟨(some 3), .box, [.t 1], none, []⟩,
    ⟨(some 4), .mov, [.c (.int .i64 0)], none, []⟩] false)
  (.seq
   (.region [⟨(some 7), (.faddr 0 false 1), [.t 2], none, []⟩,
     ⟨(some 8), (.load false 1), [.t 7], none, [0]⟩,
     ⟨(some 9), (.faddr 1 false 1), [.t 3], none, []⟩,
     ⟨(some 10), (.load false 1), [.t 9], none, [2]⟩,
     ⟨(some 11), (.bin .mul), [.t 8, .t 10], none, [1, 3]⟩,
     ⟨(some 12), (.faddr 0 false 1), [.t 3], none, []⟩,
     ⟨(some 13), (.load false 1), [.t 12], none, [5]⟩,
     ⟨(some 14), (.faddr 1 false 1), [.t 2], none, []⟩,
     ⟨(some 15), (.load false 1), [.t 14], none, [7]⟩,
     ⟨(some 16), (.bin .mul), [.t 13, .t 15], none, [6, 8]⟩,
     ⟨(some 5), .mov, [.t 11], none, [4, 0, 1, 2, 3, 4]⟩,
     ⟨(some 6), .mov, [.t 16], none, [9, 10, 0, 1, 2, 3, 4, 5, 6, 7, 8, 9, 10]⟩] true)
   (.seq
    (.seq
     (.region [⟨(some 17), .mov, [.t 5], none, []⟩,
       ⟨(some 18), .mov, [.t 6], none, []⟩,
       ⟨(some 19), (.bin .lss), [.t 17, .t 18], none, [0, 1]⟩] false)
     (.cond (.t 19)
      (.seq
       (.region [⟨(some 4), .mov, [.c (.int .i64 (-1))], none, []⟩] false)
       .ret)
      .skip))
    (.keep [5, 6] [] b49k1))))
def d49 : DFn := ⟨2, 23, [.tmp 4], b49⟩
theorem body49 : d49.body = b49 := rfl
theorem res49 : d49.res = [.tmp 4] := rfl
theorem k49 : chkFn Try.prog Try.f49 d49 = true := by kernel_rfl

/-- guidevane/guidevanebase.Ints -/
def b35k0 : DCode :=
 (.region [⟨(some 15), .mov, [.t 5], none, []⟩,
   ⟨(some 16), (.bin .add), [.t 15, .c (.int .i64 1)], none, [0]⟩,
   ⟨(some 5), .mov, [.t 16], none, [1, 0, 1]⟩] false)
def b35k1 : DCode :=
 (.seq
  (.block 1
   (.seq
    (.region [⟨(some 17), .movv, [.t 0], none, []⟩,
      ⟨(some 18), .mov, [.t 5], none, []⟩,
      ⟨(some 19), (.iaddr 1), [.t 17, .t 18], none, [0, 1]⟩,
      ⟨(some 20), (.load false 1), [.t 19], none, [2]⟩,
      ⟨(some 21), .movv, [.t 1], none, []⟩,
      ⟨(some 22), .mov, [.t 5], none, []⟩,
      ⟨(some 23), (.iaddr 1), [.t 21, .t 22], none, [4, 5]⟩,
      ⟨(some 24), (.load false 1), [.t 23], none, [6]⟩,
      ⟨(some 25), (.bin .neq), [.t 20, .t 24], none, [3, 7]⟩] true)
    (.cond (.t 25)
     (.seq
      (.region [⟨(some 4), .mov, [.c (.bool false)], none, []⟩] false)
      .ret)
     .skip)))
  (.keep [0, 1, 5] [] b35k0))
def b35l0 : DCode := .keep [0, 1, 5] []
  (.seq
   (.seq
    (.region [⟨(some 11), .mov, [.t 5], none, []⟩,
      ⟨(some 12), .movv, [.t 0], none, []⟩,
      ⟨(some 13), .len, [.t 12], none, [1]⟩,
      ⟨(some 14), (.bin .lss), [.t 11, .t 13], none, [0, 2]⟩] false)
    (.cond (.t 14)
     .skip
     (.exit 0)))
   (.keep [0, 1, 5] [] b35k1))
def b35k2 : DCode :=
 (.seq
  (.region [⟨(some 4), .mov, [.c (.bool true)], none, []⟩] false)
  .ret)
def b35k3 : DCode :=
 (.seq
  (.seq
   (.region [⟨(some 5), .mov, [.c (.int .i64 0)], none, []⟩] false)
   (.block 0
    (.loop b35l0)))
  (.keep [] [] b35k2))
def b35 : DCode :=
 (.seq
  (.region [⟨(some 4), .mov, [.c (.bool false)], none, []⟩] false)
  (.seq
   (.seq
    (.region [⟨(some 6), .movv, [.t 0], none, []⟩,
      ⟨(some 7), .len, [.t 6], none, [0]⟩,
      ⟨(some 8), .movv, [.t 1], none, []⟩,
      ⟨(some 9), .len, [.t 8], none, [2]⟩,
      ⟨(some 10), (.bin .neq), [.t 7, .t 9], none, [1, 3]⟩] false)
    (.cond (.t 10)
     (.seq
      (.region [⟨(some 4), .mov, [.c (.bool false)], none, []⟩] false)
      .ret)
     .skip))
   (.keep [0, 1] [] b35k3)))
def d35 : DFn := ⟨2, 26, [.tmp 4], b35⟩
theorem body35 : d35.body = b35 := rfl
theorem res35 : d35.res = [.tmp 4] := rfl
theorem k35 : chkFn Try.prog Try.f35 d35 = true := by kernel_rfl

/-- guidevane/guidevanebase.CopyInts -/
def b29 : DCode :=
 (.seq
  (.region [⟨(some 2), .mov, [.c (.slc 1 [])], none, []⟩] false)
  (.seq
   (.region [⟨(some 3), (.bsl 1), [], none, []⟩,
     ⟨(some 4), .movv, [.t 0], none, []⟩,
     ⟨(some 5), (.append 1 8 false), [.t 3, .t 4], none, [0, 1]⟩,
     ⟨(some 2), .movv, [.t 5], none, [2, 2, 0, 1, 2]⟩] false)
   .ret))
def d29 : DFn := ⟨1, 6, [.tmp 2], b29⟩
theorem body29 : d29.body = b29 := rfl
theorem res29 : d29.res = [.tmp 2] := rfl
theorem k29 : chkFn Try.prog Try.f29 d29 = true := by kernel_rfl

end Go.DI

/- Contracts of the base's small functions. No condition. -/
set_option linter.unusedSimpArgs false
namespace Go.DI
open Go.Proofs Go.RowKit

theorem wrap64 {n : Int} (h1 : -9223372036854775808 ≤ n) (h2 : n ≤ 9223372036854775807) : IntKind.wrap .i64 n = n := IntWalk.i64_in n ⟨h1, h2⟩

theorem c_Size {n : Int} (h1 : -9223372036854775807 ≤ n) (h2 : n ≤ 9223372036854775807) : Contract Try.prog 131 [.int .i64 n] (.int .i64 n.natAbs) := by
  refine contract_run Try.func131 k131 rfl ?_
  simp only [body131, b131, res131, ↓reduceIte, reduceCtorEq, Nat.reduceEqDiff, Nat.reduceAdd, Nat.reduceMul, Nat.reduceSub, Nat.reduceLeDiff, Nat.reduceBEq, Int.reduceToNat, Int.reduceLE, Int.reduceLT, Int.reduceEq, Int.reduceNe, di0, di1, di2, di3, di4, di5, di6, di7, di8, di9, postX_ret, postX_normal, ex_some]
  rw [wrap64 (by omega) (by omega)]
  congr 2
  omega

theorem c_Within {x lo hi : Int} : Contract Try.prog 15 [.int .i64 x, .int .i64 lo, .int .i64 hi] (.bool (decide (lo ≤ x ∧ x ≤ hi))) := by
  refine contract_run Try.func15 k15 rfl ?_
  simp only [body15, b15, res15, ↓reduceIte, reduceCtorEq, Nat.reduceEqDiff, Nat.reduceAdd, Nat.reduceMul, Nat.reduceSub, Nat.reduceLeDiff, Nat.reduceBEq, Int.reduceToNat, Int.reduceLE, Int.reduceLT, Int.reduceEq, Int.reduceNe, di0, di1, di2, di3, di4, di5, di6, di7, di8, di9, postX_ret, postX_normal, ex_some]
  split
  · rename_i h; simp [h]
  · rename_i h; simp [h]

theorem c_digit {l : List Int} {i : Int} (hi : 0 ≤ i) : Contract Try.prog 140 [.slc 1 (l.map (.int .i64)), .int .i64 i] (.int .i64 (l.getD i.toNat 0)) := by
  refine contract_run Try.func140 k140 rfl ?_
  simp only [body140, b140, res140, b140k0, ↓reduceIte, reduceCtorEq, Nat.reduceEqDiff, Nat.reduceAdd, Nat.reduceMul, Nat.reduceSub, Nat.reduceLeDiff, Nat.reduceBEq, Int.reduceToNat, Int.reduceLE, Int.reduceLT, Int.reduceEq, Int.reduceNe, di0, di1, di2, di3, di4, di5, di6, di7, di8, di9, postX_ret, postX_normal, ex_some]
  split
  · rename_i h; exact ⟨hi, h⟩
  · rename_i h; rw [List.getD_eq_getElem?_getD, List.getElem?_eq_none (by omega)]
    simp

/-- How many digits are left, when zeros at the end are left away. -/
def trimLen (l : List Int) : Nat → Nat
  | 0 => 0
  | n + 1 => if l.getD n 0 = 0 then trimLen l n else n + 1
def trim (l : List Int) : List Int := l.take (trimLen l l.length)

theorem trimLen_succ (l : List Int) (n : Nat) : trimLen l (n + 1) = if l.getD n 0 = 0 then trimLen l n else n + 1 := rfl
theorem trimLen_le (l : List Int) : ∀ n, trimLen l n ≤ n
  | 0 => Nat.le_refl _
  | n + 1 => by
    unfold trimLen
    split
    · exact Nat.le_succ_of_le (trimLen_le l n)
    · exact Nat.le_refl _

theorem c_trimmed {l : List Int} (hl : l.length ≤ 9223372036854775807) : Contract Try.prog 135 [.slc 1 (l.map (.int .i64))] (.slc 1 ((trim l).map (.int .i64))) := by
  refine contract_run Try.func135 k135 rfl ?_
  simp only [body135, b135, res135, b135k0, b135k1, ↓reduceIte, reduceCtorEq, Nat.reduceEqDiff, Nat.reduceAdd, Nat.reduceMul, Nat.reduceSub, Nat.reduceLeDiff, Nat.reduceBEq, Int.reduceToNat, Int.reduceLE, Int.reduceLT, Int.reduceEq, Int.reduceNe, di0, di1, di2, di3, di4, di5, di6, di7, di8, di9, postX_ret, postX_normal, ex_some]
  refine loop_keep (α := Nat) rfl (fun n => n) (fun n => n ≤ l.length ∧ trimLen l n = trimLen l l.length)
    (fun n => [(0, .imm (.slc 1 (l.map (.int .i64)))), (3, .imm (.int .i64 n))]) (fun _ => []) l.length ⟨Nat.le_refl _, rfl⟩ (by simp only [↓reduceIte, reduceCtorEq, Nat.reduceEqDiff, Nat.reduceAdd, Nat.reduceMul, Nat.reduceSub, Nat.reduceLeDiff, Nat.reduceBEq, Int.reduceToNat, Int.reduceLE, Int.reduceLT, Int.reduceEq, Int.reduceNe, di0, di1, di2, di3, di4, di5, di6, di7, di8, di9, postX_ret, postX_normal, ex_some]) ?_
  intro n ⟨hn, ht⟩ ih
  have fin : trimLen l n = n → l.take n = trim l := fun h => by unfold trim; rw [← ht, h]
  simp only [res135, b135k0, b135k1, ↓reduceIte, reduceCtorEq, Nat.reduceEqDiff, Nat.reduceAdd, Nat.reduceMul, Nat.reduceSub, Nat.reduceLeDiff, Nat.reduceBEq, Int.reduceToNat, Int.reduceLE, Int.reduceLT, Int.reduceEq, Int.reduceNe, di0, di1, di2, di3, di4, di5, di6, di7, di8, di9, postX_ret, postX_normal, ex_some]
  cases n with
  | zero =>
    rw [if_neg (by omega)]
    have := fin rfl
    refine ⟨by omega, ?_⟩
    rw [← this]
  | succ m =>
    rw [if_pos (by omega), wrap64 (by omega) (by omega)]
    have e : (((m + 1 : Nat) : Int) - 1) = m := by omega
    rw [e]
    refine ⟨by omega, by omega, ?_⟩
    split
    · rename_i h
      refine ih m _ _ (by omega) ⟨by omega, ?_⟩ (by simp only [↓reduceIte, reduceCtorEq, Nat.reduceEqDiff, Nat.reduceAdd, Nat.reduceMul, Nat.reduceSub, Nat.reduceLeDiff, Nat.reduceBEq, Int.reduceToNat, Int.reduceLE, Int.reduceLT, Int.reduceEq, Int.reduceNe, di0, di1, di2, di3, di4, di5, di6, di7, di8, di9, postX_ret, postX_normal, ex_some])
      rw [← ht, trimLen_succ, if_pos (by simpa using h)]
    · rename_i h
      have := fin (by rw [trimLen_succ, if_neg (by simpa using h)])
      refine ⟨by omega, ?_⟩
      rw [← this]
end Go.DI

/- Numbers of whatever size, as digits to the base of a thousand million: plain arithmetic, no program in sight. -/
namespace Go.DI

def val : List Int → Int
  | [] => 0
  | d :: l => d + 1000000000 * val l
def WF (l : List Int) : Prop := ∀ d ∈ l, 0 ≤ d ∧ d < 1000000000

theorem WF.nil : WF [] := by intro d h; cases h
theorem WF.cons {d : Int} {l : List Int} (h1 : 0 ≤ d) (h2 : d < 1000000000) (h : WF l) : WF (d :: l) := by
  intro x hx
  rcases List.mem_cons.1 hx with rfl | k
  · exact ⟨h1, h2⟩
  · exact h x k
theorem WF.tail {d : Int} {l : List Int} (h : WF (d :: l)) : WF l := fun x hx => h x (List.mem_cons_of_mem _ hx)
theorem WF.head {d : Int} {l : List Int} (h : WF (d :: l)) : 0 ≤ d ∧ d < 1000000000 := h d (by simp)
theorem WF.append {l m : List Int} (h : WF l) (h' : WF m) : WF (l ++ m) := by
  intro x hx
  rcases List.mem_append.1 hx with k | k
  · exact h x k
  · exact h' x k
theorem WF.take {l : List Int} (h : WF l) (n : Nat) : WF (l.take n) := fun x hx => h x (List.mem_of_mem_take hx)
theorem WF.getD {l : List Int} (h : WF l) (i : Nat) : 0 ≤ l.getD i 0 ∧ l.getD i 0 < 1000000000 := by
  rw [List.getD_eq_getElem?_getD]
  cases hi : l[i]? with
  | none => simp
  | some d => simpa using h d (List.mem_of_getElem? hi)

theorem val_nonneg : ∀ {l : List Int}, WF l → 0 ≤ val l
  | [], _ => by simp [val]
  | d :: l, h => by
    have := val_nonneg h.tail
    have := h.head
    simp only [val]
    omega

theorem val_append : ∀ (l m : List Int), val (l ++ m) = val l + 1000000000 ^ l.length * val m
  | [], m => by simp [val]
  | d :: l, m => by
    simp only [List.cons_append, val, val_append l m, List.length_cons, Int.pow_succ]
    rw [Int.mul_add, Int.add_assoc, Int.mul_comm (1000000000 ^ l.length) 1000000000, Int.mul_assoc]

theorem val_lt : ∀ {l : List Int}, WF l → val l < 1000000000 ^ l.length
  | [], _ => by simp [val]
  | d :: l, h => by
    have ih := val_lt h.tail
    have := h.head
    simp only [val, List.length_cons, Int.pow_succ]
    omega

def digs (n : Nat) : List Int := if n = 0 then [] else ((n % 1000000000 : Nat) : Int) :: digs (n / 1000000000)
termination_by n
decreasing_by omega

theorem digs_zero : digs 0 = [] := by unfold digs; simp
theorem digs_pos {n : Nat} (h : n ≠ 0) : digs n = ((n % 1000000000 : Nat) : Int) :: digs (n / 1000000000) := by
  rw [digs, if_neg h]
theorem digs_nil {n : Nat} : digs n = [] ↔ n = 0 := by
  by_cases h : n = 0
  · subst h; simp [digs_zero]
  · rw [digs_pos h]; simp [h]

theorem wf_digs : ∀ (n : Nat), WF (digs n) := by
  intro n
  induction n using Nat.strongRecOn with
  | _ n ih =>
    by_cases h : n = 0
    · subst h; rw [digs_zero]; exact WF.nil
    · rw [digs_pos h]
      exact WF.cons (by omega) (by omega) (ih _ (by omega))

theorem val_digs : ∀ (n : Nat), val (digs n) = n := by
  intro n
  induction n using Nat.strongRecOn with
  | _ n ih =>
    by_cases h : n = 0
    · subst h; rw [digs_zero]; rfl
    · rw [digs_pos h]
      simp only [val, ih _ (show n / 1000000000 < n by omega)]
      omega

theorem trimLen_cons (d : Int) (r : List Int) : ∀ n, trimLen (d :: r) (n + 1) = if trimLen r n = 0 then (if d = 0 then 0 else 1) else trimLen r n + 1
  | 0 => by
    rw [trimLen_succ]
    simp [trimLen]
  | n + 1 => by
    rw [trimLen_succ, trimLen_cons d r n, trimLen_succ r n]
    have e : (d :: r).getD (n + 1) 0 = r.getD n 0 := by simp [List.getD_eq_getElem?_getD]
    rw [e]
    split
    · rfl
    · simp

theorem trim_cons (d : Int) (r : List Int) : trim (d :: r) = if trimLen r r.length = 0 then (if d = 0 then [] else [d]) else d :: trim r := by
  unfold trim
  rw [List.length_cons, trimLen_cons]
  split
  · split <;> simp
  · simp

theorem trim_nil_iff (l : List Int) : trim l = [] ↔ trimLen l l.length = 0 := by
  have h := trimLen_le l l.length
  unfold trim
  rw [List.take_eq_nil_iff]
  constructor
  · rintro (h1 | h1)
    · exact h1
    · subst h1; rfl
  · exact .inl

theorem trim_digs : ∀ {l : List Int}, WF l → trim l = digs (val l).toNat
  | [], _ => by
    have : trim [] = [] := rfl
    rw [this]; simp [val, digs_zero]
  | d :: r, h => by
    have ih := trim_digs h.tail
    have hd := h.head
    have hr := val_nonneg h.tail
    have hm : ((val r).toNat : Int) = val r := Int.toNat_of_nonneg hr
    generalize hmm : (val r).toNat = m at ih hm
    have hv : (val (d :: r)).toNat = d.toNat + 1000000000 * m := by
      simp only [val, ← hm]; omega
    rw [trim_cons, hv]
    by_cases h0 : m = 0
    · subst h0
      rw [digs_zero] at ih
      rw [if_pos ((trim_nil_iff r).1 ih)]
      by_cases hd0 : d = 0
      · subst hd0; simp [digs_zero]
      · rw [if_neg hd0, digs_pos (by omega)]
        have e1 : (((d.toNat + 1000000000 * 0) % 1000000000 : Nat) : Int) = d := by omega
        have e2 : (d.toNat + 1000000000 * 0) / 1000000000 = 0 := by omega
        rw [e1, e2, digs_zero]
    · have hn : ¬ trimLen r r.length = 0 := fun k => h0 (digs_nil.1 (ih.symm.trans ((trim_nil_iff r).2 k)))
      rw [if_neg hn, ih, digs_pos (n := d.toNat + 1000000000 * m) (by omega)]
      have e1 : (((d.toNat + 1000000000 * m) % 1000000000 : Nat) : Int) = d := by omega
      have e2 : (d.toNat + 1000000000 * m) / 1000000000 = m := by omega
      rw [e1, e2]

theorem digs_length_le : ∀ (k n : Nat), n < 1000000000 ^ k → (digs n).length ≤ k
  | 0, n, h => by
    have : n = 0 := by simpa using h
    subst this; simp [digs_zero]
  | k + 1, n, h => by
    by_cases h0 : n = 0
    · subst h0; simp [digs_zero]
    · rw [digs_pos h0, List.length_cons]
      have := digs_length_le k (n / 1000000000) (by
        rw [Nat.pow_succ] at h
        omega)
      omega

/-- A number as the program has it. -/
def wide (z : Int) : IV := .agg [.int .i64 z.sign, .slc 1 ((digs z.natAbs).map (.int .i64))]

end Go.DI

/- Contracts: making wide numbers. No condition. -/
set_option linter.unusedSimpArgs false
namespace Go.DI
open Go.Proofs Go.RowKit

theorem c_wideOf {s : Int} {l : List Int} (hl : l.length ≤ 9223372036854775807) (hw : WF l) (h0 : s.natAbs ≤ 1) (hs : s = 0 → val l = 0) :
    Contract Try.prog 127 [.int .i64 s, .slc 1 (l.map (.int .i64))] (wide (s * val l)) := by
  refine contract_run Try.func127 k127 rfl ?_
  simp only [body127, b127, res127, b127k0, ↓reduceIte, reduceCtorEq, Nat.reduceEqDiff, Nat.reduceAdd, Nat.reduceMul, Nat.reduceSub, Nat.reduceLeDiff, Nat.reduceBEq, Int.reduceToNat, Int.reduceLE, Int.reduceLT, Int.reduceEq, Int.reduceNe, di0, di1, di2, di3, di4, di5, di6, di7, di8, di9, postX_ret, postX_normal, ex_some]
  refine calls_of (c_trimmed hl) ?_
  simp only [res127, ↓reduceIte, reduceCtorEq, Nat.reduceEqDiff, Nat.reduceAdd, Nat.reduceMul, Nat.reduceSub, Nat.reduceLeDiff, Nat.reduceBEq, Int.reduceToNat, Int.reduceLE, Int.reduceLT, Int.reduceEq, Int.reduceNe, di0, di1, di2, di3, di4, di5, di6, di7, di8, di9, postX_ret, postX_normal, ex_some]
  have hv := val_nonneg hw
  have e : digs (s * val l).natAbs = trim l := by
    rw [trim_digs hw]
    congr 1
    rcases (by omega : s = 0 ∨ s = 1 ∨ s = -1) with rfl | rfl | rfl
    · rw [hs rfl]; rfl
    · omega
    · omega
  unfold wide
  rw [e]
  split
  · rename_i h
    have h1 : trim l = [] := List.eq_nil_of_length_eq_zero (by omega)
    have h2 : (val l).toNat = 0 := digs_nil.1 ((trim_digs hw).symm.trans h1)
    have h3 : val l = 0 := by omega
    rw [h3]; simp
  · rename_i h
    have h1 : trim l ≠ [] := fun k => h (by rw [k]; rfl)
    have h2 : (val l).toNat ≠ 0 := fun k => h1 ((trim_digs hw).trans (digs_nil.2 k))
    have h4 : s ≠ 0 := fun k => by have := hs k; omega
    have : (s * val l).sign = s := by
      rw [Int.sign_mul, Int.sign_eq_one_of_pos (a := val l) (by omega), Int.mul_one]
      rcases (by omega : s = 1 ∨ s = -1) with rfl | rfl <;> rfl
    rw [this]

theorem pow_bound {k : Nat} (h : (1000000000 : Int) ^ k ≤ 9223372036854775807) : k ≤ 2 := by
  by_cases hk : k ≤ 2
  · exact hk
  · exfalso
    have e : k = 3 + (k - 3) := by omega
    rw [e, Int.pow_add] at h
    have h1 : (1 : Int) ≤ 1000000000 ^ (k - 3) := Int.pow_pos (by omega)
    have h2 : (1000000000 : Int) ^ 3 * 1 ≤ 1000000000 ^ 3 * 1000000000 ^ (k - 3) := Int.mul_le_mul_of_nonneg_left h1 (by decide)
    have h3 : (1000000000 : Int) ^ 3 * 1 = 1000000000000000000000000000 := by decide
    omega

theorem c_WideOf {n : Int} (h1 : -9223372036854775807 ≤ n) (h2 : n ≤ 9223372036854775807) : Contract Try.prog 121 [.int .i64 n] (wide n) := by
  refine contract_run Try.func121 k121 rfl ?_
  simp only [body121, b121, res121, b121k0, b121k1, b121k2, ↓reduceIte, reduceCtorEq, Nat.reduceEqDiff, Nat.reduceAdd, Nat.reduceMul, Nat.reduceSub, Nat.reduceLeDiff, Nat.reduceBEq, Int.reduceToNat, Int.reduceLE, Int.reduceLT, Int.reduceEq, Int.reduceNe, di0, di1, di2, di3, di4, di5, di6, di7, di8, di9, postX_ret, postX_normal, ex_some]
  have key : ∀ E R, (mkS E R).keep [0, 2, 3, 4] [2, 4, 14] = mkS [(0, .imm (.int .i64 n)), (2, .ref 2 0), (3, .imm (.int .i64 (if n < 0 then -1 else 1))), (4, .own 4)] [(2, .box [.imm (.int .i64 0), .imm (.slc 1 [])]), (4, .tok 1 [])] →
      run Try.prog (.loop b121l0) [.block 0, .seq (.keep [2, 3, 4] [2, 4, 14] b121k1)] (d121.post (wide n)) (mkS E R) := by
    intro E R hk
    refine loop_keep (α := Int × List Int) rfl (fun x => x.1.natAbs)
      (fun x => WF x.2 ∧ val x.2 + 1000000000 ^ x.2.length * x.1.natAbs = n.natAbs ∧ x.1.natAbs ≤ n.natAbs ∧ (x.1.natAbs : Int) * 1000000000 ^ x.2.length ≤ n.natAbs ∧ x.2.length ≤ 3)
      (fun x => [(0, .imm (.int .i64 x.1)), (2, .ref 2 0), (3, .imm (.int .i64 (if n < 0 then -1 else 1))), (4, .own 4)])
      (fun x => [(2, .box [.imm (.int .i64 0), .imm (.slc 1 [])]), (4, .tok 1 (x.2.map (.int .i64)))]) (n, []) ⟨WF.nil, by simp [val], Nat.le_refl _, by simp, by simp⟩ hk ?_
    rintro ⟨m, l⟩ ⟨hw, hv, hle, hlen, h3⟩ ih
    dsimp only at hw hv hle hlen h3
    simp only [res121, b121k0, b121k1, b121k2, ↓reduceIte, reduceCtorEq, Nat.reduceEqDiff, Nat.reduceAdd, Nat.reduceMul, Nat.reduceSub, Nat.reduceLeDiff, Nat.reduceBEq, Int.reduceToNat, Int.reduceLE, Int.reduceLT, Int.reduceEq, Int.reduceNe, di0, di1, di2, di3, di4, di5, di6, di7, di8, di9, postX_ret, postX_normal, ex_some]
    split
    · rename_i h0
      subst h0
      have hv' : val l = n.natAbs := by simpa using hv
      have hb : l.length ≤ 9223372036854775807 := by omega
      refine calls_of (c_wideOf hb hw (by split <;> decide) (by intro h; split at h <;> omega)) ?_
      have e : (if n < 0 then (-1 : Int) else 1) * val l = n := by rw [hv']; split <;> omega
      rw [e]
      simp only [res121, b121k0, b121k1, b121k2, wide, ↓reduceIte, reduceCtorEq, Nat.reduceEqDiff, Nat.reduceAdd, Nat.reduceMul, Nat.reduceSub, Nat.reduceLeDiff, Nat.reduceBEq, Int.reduceToNat, Int.reduceLE, Int.reduceLT, Int.reduceEq, Int.reduceNe, di0, di1, di2, di3, di4, di5, di6, di7, di8, di9, postX_ret, postX_normal, ex_some]
    · rename_i h0
      have h1 : (m.tmod 1000000000).natAbs = m.natAbs % 1000000000 := by rw [Int.natAbs_tmod]; rfl
      have h2 : (m.tdiv 1000000000).natAbs = m.natAbs / 1000000000 := by rw [Int.natAbs_tdiv]; rfl
      refine calls_of (c_Size (by omega) (by omega)) ?_
      simp only [res121, b121k0, b121k1, b121k2, ↓reduceIte, reduceCtorEq, Nat.reduceEqDiff, Nat.reduceAdd, Nat.reduceMul, Nat.reduceSub, Nat.reduceLeDiff, Nat.reduceBEq, Int.reduceToNat, Int.reduceLE, Int.reduceLT, Int.reduceEq, Int.reduceNe, di0, di1, di2, di3, di4, di5, di6, di7, di8, di9, postX_ret, postX_normal, ex_some]
      have hb : l.length ≤ 2 := pow_bound (by
        have : (1 : Int) * 1000000000 ^ l.length ≤ m.natAbs * 1000000000 ^ l.length := Int.mul_le_mul_of_nonneg_right (by omega) (Int.le_of_lt (Int.pow_pos (by omega)))
        omega)
      have hdm := Nat.div_add_mod m.natAbs 1000000000
      refine ⟨by omega, by omega, ?_⟩
      rw [wrap64 (by omega) (by omega)]
      refine ih (m.tdiv 1000000000, l ++ [((m.tmod 1000000000).natAbs : Int)]) _ _ (by dsimp only; omega) ⟨?_, ?_, ?_, ?_, by simp; omega⟩ (by simp only [↓reduceIte, reduceCtorEq, Nat.reduceEqDiff, Nat.reduceAdd, Nat.reduceMul, Nat.reduceSub, Nat.reduceLeDiff, Nat.reduceBEq, Int.reduceToNat, Int.reduceLE, Int.reduceLT, Int.reduceEq, Int.reduceNe, di0, di1, di2, di3, di4, di5, di6, di7, di8, di9, postX_ret, postX_normal, ex_some])
      · exact hw.append (WF.cons (by omega) (by omega) WF.nil)
      · simp only [val_append, val, List.length_append, List.length_cons, List.length_nil, Int.pow_succ, Nat.zero_add, Int.mul_zero, Int.add_zero, h1, h2, Int.pow_zero]
        rw [← hv, Int.add_assoc]
        congr 1
        rw [Int.mul_assoc, ← Int.mul_add]
        congr 1
        omega
      · dsimp only; omega
      · dsimp only
        rw [List.length_append, List.length_cons, List.length_nil, Int.pow_succ, h2]
        have e : ((m.natAbs / 1000000000 : Nat) : Int) * (1000000000 ^ l.length * 1000000000) = (((m.natAbs / 1000000000 : Nat) : Int) * 1000000000) * 1000000000 ^ l.length := by
          rw [Int.mul_comm (1000000000 ^ l.length) 1000000000, Int.mul_assoc]
        rw [e]
        refine Int.le_trans (Int.mul_le_mul_of_nonneg_right ?_ (Int.le_of_lt (Int.pow_pos (by omega)))) hlen
        omega
  split
  · rename_i h
    exact key _ _ (by simp only [h, ↓reduceIte, reduceCtorEq, Nat.reduceEqDiff, Nat.reduceAdd, Nat.reduceMul, Nat.reduceSub, Nat.reduceLeDiff, Nat.reduceBEq, Int.reduceToNat, Int.reduceLE, Int.reduceLT, Int.reduceEq, Int.reduceNe, di0, di1, di2, di3, di4, di5, di6, di7, di8, di9, postX_ret, postX_normal, ex_some])
  · rename_i h
    exact key _ _ (by simp only [h, ↓reduceIte, reduceCtorEq, Nat.reduceEqDiff, Nat.reduceAdd, Nat.reduceMul, Nat.reduceSub, Nat.reduceLeDiff, Nat.reduceBEq, Int.reduceToNat, Int.reduceLE, Int.reduceLT, Int.reduceEq, Int.reduceNe, di0, di1, di2, di3, di4, di5, di6, di7, di8, di9, postX_ret, postX_normal, ex_some])
end Go.DI

/- Contracts: digits compared, added, subtracted. No condition. -/
set_option linter.unusedSimpArgs false
namespace Go.DI
open Go.Proofs Go.RowKit

theorem getD_tdiv (l : List Int) (i : Nat) : l.getD i 0 = (l.drop i).headD 0 := by
  rw [List.getD_eq_getElem?_getD, List.headD_eq_head?_getD, List.head?_drop]

theorem val_drop (l : List Int) (i : Nat) : val (l.drop i) = l.getD i 0 + 1000000000 * val (l.drop (i + 1)) := by
  by_cases h : i < l.length
  · rw [List.drop_eq_getElem_cons h]
    simp only [val]
    congr 1
    rw [List.getD_eq_getElem?_getD]
    simp [h]
  · rw [List.drop_eq_nil_of_le (by omega), List.drop_eq_nil_of_le (by omega), List.getD_eq_getElem?_getD, List.getElem?_eq_none (by omega)]
    rfl

theorem getD_end {l : List Int} {i : Nat} (h : l.length ≤ i) : l.getD i 0 = 0 := by
  rw [List.getD_eq_getElem?_getD, List.getElem?_eq_none h]; rfl

theorem digs_mono : ∀ {n m : Nat}, n ≤ m → (digs n).length ≤ (digs m).length := by
  intro n
  induction n using Nat.strongRecOn with
  | _ n ih =>
    intro m h
    by_cases h0 : n = 0
    · subst h0; simp [digs_zero]
    · rw [digs_pos (n := n) h0, digs_pos (n := m) (by omega), List.length_cons, List.length_cons]
      have := @ih (n / 1000000000) (by omega) (m / 1000000000) (by omega)
      omega

/-- Digits that differ at a place, and are alike above it. -/
theorem val_lt_at {a b : List Int} (ha : WF a) (hb : WF b) {n : Nat} (h1 : n < a.length) (h2 : n < b.length) (hd : a.drop (n + 1) = b.drop (n + 1)) (hlt : a.getD n 0 < b.getD n 0) : val a < val b := by
  have e : ∀ l : List Int, n < l.length → val l = val (l.take n) + 1000000000 ^ n * (l.getD n 0 + 1000000000 * val (l.drop (n + 1))) := by
    intro l hl
    rw [← val_drop]
    have := val_append (l.take n) (l.drop n)
    rw [List.take_append_drop, List.length_take, Nat.min_eq_left (by omega)] at this
    exact this
  rw [e a h1, e b h2, hd]
  have hp : (0 : Int) < 1000000000 ^ n := Int.pow_pos (by omega)
  have hva := val_lt (ha.take n)
  rw [List.length_take, Nat.min_eq_left (by omega)] at hva
  have hvb := val_nonneg (hb.take n)
  have : 1000000000 ^ n * (a.getD n 0 + 1000000000 * val (b.drop (n + 1)) + 1) ≤ (1000000000 : Int) ^ n * (b.getD n 0 + 1000000000 * val (b.drop (n + 1))) := Int.mul_le_mul_of_nonneg_left (by omega) (by omega)
  rw [Int.mul_add, Int.mul_one] at this
  omega

theorem c_cmpDigits {m n : Nat} (hm : (digs m).length ≤ 9223372036854775807) : Contract Try.prog 136 [.slc 1 ((digs m).map (.int .i64)), .slc 1 ((digs n).map (.int .i64))] (.int .i64 ((m : Int) - n).sign) := by
  have lt1 : m < n → ((m : Int) - n).sign = -1 := fun h => Int.sign_eq_neg_one_of_neg (by omega)
  have gt1 : n < m → ((m : Int) - n).sign = 1 := fun h => Int.sign_eq_one_of_pos (by omega)
  have ln : (digs m).length < (digs n).length → m < n := fun h => by
    rcases Nat.lt_or_ge m n with k | k
    · exact k
    · have := digs_mono k; omega
  have ln' : (digs n).length < (digs m).length → n < m := fun h => by
    rcases Nat.lt_or_ge n m with k | k
    · exact k
    · have := digs_mono k; omega
  have hv1 := val_digs m
  have hv2 := val_digs n
  have hw1 := wf_digs m
  have hw2 := wf_digs n
  refine contract_run Try.func136 k136 rfl ?_
  simp only [body136, b136, res136, b136k0, b136k1, b136k2, b136k3, b136k4, b136k5, ↓reduceIte, reduceCtorEq, Nat.reduceEqDiff, Nat.reduceAdd, Nat.reduceMul, Nat.reduceSub, Nat.reduceLeDiff, Nat.reduceBEq, Int.reduceToNat, Int.reduceLE, Int.reduceLT, Int.reduceEq, Int.reduceNe, di0, di1, di2, di3, di4, di5, di6, di7, di8, di9, postX_ret, postX_normal, ex_some]
  generalize digs m = a at *
  generalize digs n = b at *
  split
  · rename_i h
    have h : a.length = b.length := by omega
    rw [wrap64 (by omega) (by omega)]
    refine loop_keep (α := Nat) rfl (fun i => i) (fun i => i ≤ a.length ∧ a.drop i = b.drop i)
      (fun i => [(0, .imm (.slc 1 (a.map (.int .i64)))), (1, .imm (.slc 1 (b.map (.int .i64)))), (5, .imm (.int .i64 ((i : Int) - 1)))]) (fun _ => []) a.length
      ⟨Nat.le_refl _, by rw [List.drop_eq_nil_of_le (by omega), List.drop_eq_nil_of_le (by omega)]⟩ (by simp only [↓reduceIte, reduceCtorEq, Nat.reduceEqDiff, Nat.reduceAdd, Nat.reduceMul, Nat.reduceSub, Nat.reduceLeDiff, Nat.reduceBEq, Int.reduceToNat, Int.reduceLE, Int.reduceLT, Int.reduceEq, Int.reduceNe, di0, di1, di2, di3, di4, di5, di6, di7, di8, di9, postX_ret, postX_normal, ex_some]) ?_
    intro i ⟨hi, hd⟩ ih
    cases i with
    | zero =>
      simp only [res136, b136k0, b136k1, b136k2, b136k3, b136k4, b136k5, ↓reduceIte, reduceCtorEq, Nat.reduceEqDiff, Nat.reduceAdd, Nat.reduceMul, Nat.reduceSub, Nat.reduceLeDiff, Nat.reduceBEq, Int.reduceToNat, Int.reduceLE, Int.reduceLT, Int.reduceEq, Int.reduceNe, di0, di1, di2, di3, di4, di5, di6, di7, di8, di9, postX_ret, postX_normal, ex_some]
      have e : m = n := by
        have : a = b := by simpa using hd
        rw [this] at hv1; omega
      rw [if_neg (by omega)]
      subst e; simp
    | succ i =>
      have e1 : ((i + 1 : Nat) : Int) - 1 = i := by omega
      have e2 : IntKind.wrap .i64 ((i : Int) - 1) = (i : Int) - 1 := wrap64 (by omega) (by omega)
      simp only [res136, b136k0, b136k1, b136k2, b136k3, b136k4, b136k5, ↓reduceIte, reduceCtorEq, Nat.reduceEqDiff, Nat.reduceAdd, Nat.reduceMul, Nat.reduceSub, Nat.reduceLeDiff, Nat.reduceBEq, Int.reduceToNat, Int.reduceLE, Int.reduceLT, Int.reduceEq, Int.reduceNe, di0, di1, di2, di3, di4, di5, di6, di7, di8, di9, postX_ret, postX_normal, ex_some, e1]
      refine ⟨by omega, by omega, ?_⟩
      split
      · rename_i hlt
        have := val_lt_at hw1 hw2 (by omega) (by omega) hd hlt
        rw [lt1 (by omega)]
      · rename_i hge
        refine ⟨by omega, by omega, ?_⟩
        split
        · rename_i hgt
          have := val_lt_at hw2 hw1 (by omega) (by omega) hd.symm hgt
          rw [gt1 (by omega)]
        · rename_i hle
          rw [e2]
          refine ih i _ _ (by omega) ⟨by omega, ?_⟩ (by simp only [↓reduceIte, reduceCtorEq, Nat.reduceEqDiff, Nat.reduceAdd, Nat.reduceMul, Nat.reduceSub, Nat.reduceLeDiff, Nat.reduceBEq, Int.reduceToNat, Int.reduceLE, Int.reduceLT, Int.reduceEq, Int.reduceNe, di0, di1, di2, di3, di4, di5, di6, di7, di8, di9, postX_ret, postX_normal, ex_some])
          rw [List.drop_eq_getElem_cons (show i < a.length by omega), List.drop_eq_getElem_cons (show i < b.length by omega), hd]
          congr 1
          have k1 : a.getD i 0 = a[i]'(by omega) := by rw [List.getD_eq_getElem?_getD]; simp [show i < a.length by omega]
          have k2 : b.getD i 0 = b[i]'(by omega) := by rw [List.getD_eq_getElem?_getD]; simp [show i < b.length by omega]
          omega
  · rename_i h
    split
    · rename_i h2; rw [lt1 (ln (by omega))]
    · rename_i h2; rw [gt1 (ln' (by omega))]

theorem tdm {s : Int} (h : 0 ≤ s) : s.tmod 1000000000 = s % 1000000000 ∧ s.tdiv 1000000000 = s / 1000000000 := ⟨Int.tmod_eq_emod_of_nonneg h, Int.tdiv_eq_ediv_of_nonneg h⟩

/-- What a contract's result reads as: digits. -/
def isNum (r : IV) (z : Int) : Prop := ∃ l, r = .slc 1 (l.map (.int .i64)) ∧ WF l ∧ val l = z

theorem c_addDigits {a b : List Int} (ha : WF a) (hb : WF b) (hm : a.length ≤ 1000000) (hn : b.length ≤ 1000000) :
    ∃ r, (∃ l, r = .slc 1 (l.map (.int .i64)) ∧ WF l ∧ val l = val a + val b ∧ l.length ≤ max a.length b.length + 1) ∧ Contract Try.prog 138 [.slc 1 (a.map (.int .i64)), .slc 1 (b.map (.int .i64))] r := by
  refine contract_ex Try.func138 k138 rfl ?_
  simp only [body138, b138, res138, b138k0, b138k1, ↓reduceIte, reduceCtorEq, Nat.reduceEqDiff, Nat.reduceAdd, Nat.reduceMul, Nat.reduceSub, Nat.reduceLeDiff, Nat.reduceBEq, Int.reduceToNat, Int.reduceLE, Int.reduceLT, Int.reduceEq, Int.reduceNe, di0, di1, di2, di3, di4, di5, di6, di7, di8, di9, postX_ret, postX_normal, ex_some]
  refine loop_keep (α := List Int × Int) rfl (fun x => 2 * (max a.length b.length - x.1.length) + x.2.toNat)
    (fun x => WF x.1 ∧ 0 ≤ x.2 ∧ x.2 ≤ 1 ∧ val x.1 + 1000000000 ^ x.1.length * (x.2 + val (a.drop x.1.length) + val (b.drop x.1.length)) = val a + val b ∧ (x.1.length ≤ max a.length b.length ∨ x.1.length = max a.length b.length + 1 ∧ x.2 = 0))
    (fun x => [(0, .imm (.slc 1 (a.map (.int .i64)))), (1, .imm (.slc 1 (b.map (.int .i64)))), (5, .own 5), (6, .imm (.int .i64 x.2)), (7, .imm (.int .i64 x.1.length))])
    (fun x => [(5, .tok 1 (x.1.map (.int .i64)))]) ([], 0) ⟨WF.nil, by omega, by omega, by simp [val], .inl (by simp)⟩ (by simp only [↓reduceIte, reduceCtorEq, Nat.reduceEqDiff, Nat.reduceAdd, Nat.reduceMul, Nat.reduceSub, Nat.reduceLeDiff, Nat.reduceBEq, Int.reduceToNat, Int.reduceLE, Int.reduceLT, Int.reduceEq, Int.reduceNe, di0, di1, di2, di3, di4, di5, di6, di7, di8, di9, postX_ret, postX_normal, ex_some]) ?_
  rintro ⟨l, c⟩ ⟨hw, hc0, hc1, hv, hl⟩ ih
  dsimp only at hw hc0 hc1 hv hl
  have hA := ha.getD l.length
  have hB := hb.getD l.length
  have hb1 : l.length ≤ 1000001 := by omega
  have hdA := val_drop a l.length
  have hdB := val_drop b l.length
  simp only [res138, b138k0, b138k1, ↓reduceIte, reduceCtorEq, Nat.reduceEqDiff, Nat.reduceAdd, Nat.reduceMul, Nat.reduceSub, Nat.reduceLeDiff, Nat.reduceBEq, Int.reduceToNat, Int.reduceLE, Int.reduceLT, Int.reduceEq, Int.reduceNe, di0, di1, di2, di3, di4, di5, di6, di7, di8, di9, postX_ret, postX_normal, ex_some]
  split
  · rename_i h
    have e1 : a.drop l.length = [] := List.drop_eq_nil_of_le (by omega)
    have e2 : b.drop l.length = [] := List.drop_eq_nil_of_le (by omega)
    refine ⟨l, rfl, hw, ?_, by omega⟩
    rw [e1, e2, show c = 0 by omega] at hv
    simpa [val] using hv
  · rename_i h
    have hlen : l.length ≤ max a.length b.length := by omega
    refine calls_of (c_digit (by omega)) ?_
    simp only [res138, b138k0, b138k1, ↓reduceIte, reduceCtorEq, Nat.reduceEqDiff, Nat.reduceAdd, Nat.reduceMul, Nat.reduceSub, Nat.reduceLeDiff, Nat.reduceBEq, Int.reduceToNat, Int.reduceLE, Int.reduceLT, Int.reduceEq, Int.reduceNe, di0, di1, di2, di3, di4, di5, di6, di7, di8, di9, postX_ret, postX_normal, ex_some]
    refine calls_of (c_digit (by omega)) ?_
    simp only [res138, b138k0, b138k1, ↓reduceIte, reduceCtorEq, Nat.reduceEqDiff, Nat.reduceAdd, Nat.reduceMul, Nat.reduceSub, Nat.reduceLeDiff, Nat.reduceBEq, Int.reduceToNat, Int.reduceLE, Int.reduceLT, Int.reduceEq, Int.reduceNe, di0, di1, di2, di3, di4, di5, di6, di7, di8, di9, postX_ret, postX_normal, ex_some]
    have hpA : a.length ≤ l.length → a.getD l.length 0 = 0 := getD_end
    have hpB : b.length ≤ l.length → b.getD l.length 0 = 0 := getD_end
    generalize a.getD l.length 0 = p at *
    generalize b.getD l.length 0 = q at *
    rw [wrap64 (n := p + q) (by omega) (by omega), wrap64 (n := p + q + c) (by omega) (by omega), (tdm (s := p + q + c) (by omega)).1, (tdm (s := p + q + c) (by omega)).2, wrap64 (n := (p + q + c) / 1000000000) (by omega) (by omega), wrap64 (n := (l.length : Int) + 1) (by omega) (by omega)]
    refine ⟨by omega, by omega, ?_⟩
    refine ih (l ++ [(p + q + c) % 1000000000], (p + q + c) / 1000000000) _ _ ?_ ⟨?_, ?_, ?_, ?_, ?_⟩ ?_
    · simp only [List.length_append, List.length_cons, List.length_nil]
      omega
    · exact hw.append (WF.cons (by omega) (by omega) WF.nil)
    · dsimp only; omega
    · dsimp only; omega
    · simp only [List.length_append, List.length_cons, List.length_nil, Nat.zero_add, val_append, val, Int.pow_succ, Int.mul_zero, Int.add_zero]
      rw [← hv, hdA, hdB, Int.mul_assoc, Int.add_assoc, ← Int.mul_add]
      congr 2
      omega
    · simp only [List.length_append, List.length_cons, List.length_nil]
      omega
    · simp only [↓reduceIte, reduceCtorEq, Nat.reduceEqDiff, Nat.reduceAdd, Nat.reduceMul, Nat.reduceSub, Nat.reduceLeDiff, Nat.reduceBEq, Int.reduceToNat, Int.reduceLE, Int.reduceLT, Int.reduceEq, Int.reduceNe, di0, di1, di2, di3, di4, di5, di6, di7, di8, di9, postX_ret, postX_normal, ex_some, List.length_append, List.length_cons, List.length_nil]
      rfl

theorem c_subDigits {a b : List Int} (ha : WF a) (hb : WF b) (hm : a.length ≤ 1000000) (hle : val b ≤ val a) :
    Contract Try.prog 137 [.slc 1 (a.map (.int .i64)), .slc 1 (b.map (.int .i64))] (.slc 1 ((digs (val a - val b).toNat).map (.int .i64))) := by
  refine contract_run Try.func137 k137 rfl ?_
  simp only [body137, b137, res137, b137k0, b137k1, b137k2, b137k3, ↓reduceIte, reduceCtorEq, Nat.reduceEqDiff, Nat.reduceAdd, Nat.reduceMul, Nat.reduceSub, Nat.reduceLeDiff, Nat.reduceBEq, Int.reduceToNat, Int.reduceLE, Int.reduceLT, Int.reduceEq, Int.reduceNe, di0, di1, di2, di3, di4, di5, di6, di7, di8, di9, postX_ret, postX_normal, ex_some]
  refine loop_keep (α := List Int × Int) rfl (fun x => a.length - x.1.length)
    (fun x => WF x.1 ∧ 0 ≤ x.2 ∧ x.2 ≤ 1 ∧ val x.1 + 1000000000 ^ x.1.length * (val (a.drop x.1.length) - val (b.drop x.1.length) - x.2) = val a - val b ∧ x.1.length ≤ a.length)
    (fun x => [(0, .imm (.slc 1 (a.map (.int .i64)))), (1, .imm (.slc 1 (b.map (.int .i64)))), (5, .own 5), (6, .imm (.int .i64 x.2)), (7, .imm (.int .i64 x.1.length))])
    (fun x => [(5, .tok 1 (x.1.map (.int .i64)))]) ([], 0) ⟨WF.nil, by omega, by omega, by simp [val], by simp⟩ (by simp only [↓reduceIte, reduceCtorEq, Nat.reduceEqDiff, Nat.reduceAdd, Nat.reduceMul, Nat.reduceSub, Nat.reduceLeDiff, Nat.reduceBEq, Int.reduceToNat, Int.reduceLE, Int.reduceLT, Int.reduceEq, Int.reduceNe, di0, di1, di2, di3, di4, di5, di6, di7, di8, di9, postX_ret, postX_normal, ex_some]) ?_
  rintro ⟨l, c⟩ ⟨hw, hc0, hc1, hv, hl⟩ ih
  dsimp only at hw hc0 hc1 hv hl
  have hA := ha.getD l.length
  have hB := hb.getD l.length
  have hdA := val_drop a l.length
  have hdB := val_drop b l.length
  simp only [res137, b137k0, b137k1, b137k2, b137k3, ↓reduceIte, reduceCtorEq, Nat.reduceEqDiff, Nat.reduceAdd, Nat.reduceMul, Nat.reduceSub, Nat.reduceLeDiff, Nat.reduceBEq, Int.reduceToNat, Int.reduceLE, Int.reduceLT, Int.reduceEq, Int.reduceNe, di0, di1, di2, di3, di4, di5, di6, di7, di8, di9, postX_ret, postX_normal, ex_some]
  split
  · rename_i h
    refine ⟨h, calls_of (c_digit (by omega)) ?_⟩
    simp only [res137, b137k0, b137k1, b137k2, b137k3, ↓reduceIte, reduceCtorEq, Nat.reduceEqDiff, Nat.reduceAdd, Nat.reduceMul, Nat.reduceSub, Nat.reduceLeDiff, Nat.reduceBEq, Int.reduceToNat, Int.reduceLE, Int.reduceLT, Int.reduceEq, Int.reduceNe, di0, di1, di2, di3, di4, di5, di6, di7, di8, di9, postX_ret, postX_normal, ex_some]
    generalize a.getD l.length 0 = p at *
    generalize b.getD l.length 0 = q at *
    rw [wrap64 (n := p - q) (by omega) (by omega), wrap64 (n := p - q - c) (by omega) (by omega), wrap64 (n := (l.length : Int) + 1) (by omega) (by omega)]
    have inv : ∀ (s cc : Int), 0 ≤ s → s < 1000000000 → 0 ≤ cc → cc ≤ 1 → s - 1000000000 * cc = p - q - c → a.length - (l ++ [s]).length < a.length - l.length ∧ (WF (l ++ [s]) ∧ 0 ≤ cc ∧ cc ≤ 1 ∧
        val (l ++ [s]) + 1000000000 ^ (l ++ [s]).length * (val (a.drop (l ++ [s]).length) - val (b.drop (l ++ [s]).length) - cc) = val a - val b ∧ (l ++ [s]).length ≤ a.length) := by
      intro s cc h1 h2 h3 h4 h5
      simp only [List.length_append, List.length_cons, List.length_nil]
      refine ⟨by omega, hw.append (WF.cons h1 h2 WF.nil), h3, h4, ?_, by omega⟩
      simp only [Nat.zero_add, val_append, val, Int.pow_succ, Int.mul_zero, Int.add_zero]
      rw [← hv, hdA, hdB, Int.mul_assoc, Int.add_assoc, ← Int.mul_add]
      congr 2
      omega
    split
    · rename_i h0
      rw [wrap64 (n := p - q - c + 1000000000) (by omega) (by omega)]
      refine ⟨by omega, by omega, ?_⟩
      have iv := inv (p - q - c + 1000000000) 1 (by omega) (by omega) (by omega) (by omega) (by omega)
      refine ih (l ++ [p - q - c + 1000000000], 1) _ _ iv.1 iv.2 ?_
      simp only [↓reduceIte, reduceCtorEq, Nat.reduceEqDiff, Nat.reduceAdd, Nat.reduceMul, Nat.reduceSub, Nat.reduceLeDiff, Nat.reduceBEq, Int.reduceToNat, Int.reduceLE, Int.reduceLT, Int.reduceEq, Int.reduceNe, di0, di1, di2, di3, di4, di5, di6, di7, di8, di9, postX_ret, postX_normal, ex_some, List.length_append, List.length_cons, List.length_nil]
      rfl
    · rename_i h0
      refine ⟨by omega, by omega, ?_⟩
      have iv := inv (p - q - c) 0 (by omega) (by omega) (by omega) (by omega) (by omega)
      refine ih (l ++ [p - q - c], 0) _ _ iv.1 iv.2 ?_
      simp only [↓reduceIte, reduceCtorEq, Nat.reduceEqDiff, Nat.reduceAdd, Nat.reduceMul, Nat.reduceSub, Nat.reduceLeDiff, Nat.reduceBEq, Int.reduceToNat, Int.reduceLE, Int.reduceLT, Int.reduceEq, Int.reduceNe, di0, di1, di2, di3, di4, di5, di6, di7, di8, di9, postX_ret, postX_normal, ex_some, List.length_append, List.length_cons, List.length_nil]
      rfl
  · rename_i h
    have e : l.length = a.length := by omega
    have e1 : a.drop l.length = [] := List.drop_eq_nil_of_le (by omega)
    have hlt := val_lt hw
    have h0 := val_nonneg hw
    have hbd := val_nonneg (l := b.drop l.length) (fun x hx => hb x (List.mem_of_mem_drop hx))
    have hk : val (b.drop l.length) + c = 0 := by
      rcases Int.lt_or_le 0 (val (b.drop l.length) + c) with k | k
      · exfalso
        have hp : (1000000000 : Int) ^ l.length * 1 ≤ 1000000000 ^ l.length * (val (b.drop l.length) + c) := Int.mul_le_mul_of_nonneg_left (by omega) (Int.le_of_lt (Int.pow_pos (by omega)))
        rw [e1] at hv
        have e2 : (1000000000 : Int) ^ l.length * (val [] - val (b.drop l.length) - c) = - (1000000000 ^ l.length * (val (b.drop l.length) + c)) := by
          rw [← Int.mul_neg]; congr 1; simp only [val]; omega
        rw [e2] at hv
        omega
      · omega
    have hvl : val l = val a - val b := by
      rw [e1] at hv
      have e2 : val [] - val (b.drop l.length) - c = 0 := by simp only [val]; omega
      rw [e2] at hv; omega
    refine calls_of (c_trimmed (by omega)) ?_
    simp only [res137, b137k0, b137k1, b137k2, b137k3, ↓reduceIte, reduceCtorEq, Nat.reduceEqDiff, Nat.reduceAdd, Nat.reduceMul, Nat.reduceSub, Nat.reduceLeDiff, Nat.reduceBEq, Int.reduceToNat, Int.reduceLE, Int.reduceLT, Int.reduceEq, Int.reduceNe, di0, di1, di2, di3, di4, di5, di6, di7, di8, di9, postX_ret, postX_normal, ex_some]
    rw [trim_digs hw, hvl]
end Go.DI

/- Contracts: wide numbers added, subtracted, compared, multiplied. No condition. -/
set_option linter.unusedSimpArgs false
namespace Go.DI
open Go.Proofs Go.RowKit

/-- Has it few digits? -/
def Few (z : Int) : Prop := (digs z.natAbs).length ≤ 100000

theorem few_of {z : Int} (k : Nat) (hk : k ≤ 100000) (h : z.natAbs < 1000000000 ^ k) : Few z := Nat.le_trans (digs_length_le k _ h) hk

theorem c_WideSign {z : Int} : Contract Try.prog 132 [wide z] (.int .i64 z.sign) := by
  unfold wide
  refine contract_run Try.func132 k132 rfl ?_
  simp only [body132, b132, res132, ↓reduceIte, reduceCtorEq, Nat.reduceEqDiff, Nat.reduceAdd, Nat.reduceMul, Nat.reduceSub, Nat.reduceLeDiff, Nat.reduceBEq, Int.reduceToNat, Int.reduceLE, Int.reduceLT, Int.reduceEq, Int.reduceNe, di0, di1, di2, di3, di4, di5, di6, di7, di8, di9, postX_ret, postX_normal, ex_some]

theorem sign_bd (z : Int) : -1 ≤ z.sign ∧ z.sign ≤ 1 := by
  rcases Int.lt_trichotomy z 0 with h | h | h
  · rw [Int.sign_eq_neg_one_of_neg h]; omega
  · subst h; simp
  · rw [Int.sign_eq_one_of_pos h]; omega

theorem c_WideNeg {z : Int} : Contract Try.prog 129 [wide z] (wide (-z)) := by
  unfold wide
  refine contract_run Try.func129 k129 rfl ?_
  have := sign_bd z
  simp only [body129, b129, res129, ↓reduceIte, reduceCtorEq, Nat.reduceEqDiff, Nat.reduceAdd, Nat.reduceMul, Nat.reduceSub, Nat.reduceLeDiff, Nat.reduceBEq, Int.reduceToNat, Int.reduceLE, Int.reduceLT, Int.reduceEq, Int.reduceNe, di0, di1, di2, di3, di4, di5, di6, di7, di8, di9, postX_ret, postX_normal, ex_some]
  rw [wrap64 (by omega) (by omega), Int.sign_neg, Int.natAbs_neg]
  congr 5
  omega

theorem sign_cases (z : Int) : z.sign = 0 ∧ z = 0 ∨ z.sign = 1 ∧ 0 < z ∧ (z.natAbs : Int) = z ∨ z.sign = -1 ∧ z < 0 ∧ (z.natAbs : Int) = -z := by
  rcases Int.lt_trichotomy z 0 with h | h | h
  · exact .inr (.inr ⟨Int.sign_eq_neg_one_of_neg h, h, by omega⟩)
  · subst h; exact .inl ⟨rfl, rfl⟩
  · exact .inr (.inl ⟨Int.sign_eq_one_of_pos h, h, by omega⟩)

theorem c_WideAdd {x y : Int} (hx : Few x) (hy : Few y) : Contract Try.prog 130 [wide x, wide y] (wide (x + y)) := by
  unfold Few at hx hy
  have sx := sign_cases x
  have sy := sign_cases y
  have vx := val_digs x.natAbs
  have vy := val_digs y.natAbs
  unfold wide
  refine contract_run Try.func130 k130 rfl ?_
  simp only [body130, b130, res130, b130k0, b130k1, b130k2, b130k3, b130k4, ↓reduceIte, reduceCtorEq, Nat.reduceEqDiff, Nat.reduceAdd, Nat.reduceMul, Nat.reduceSub, Nat.reduceLeDiff, Nat.reduceBEq, Int.reduceToNat, Int.reduceLE, Int.reduceLT, Int.reduceEq, Int.reduceNe, di0, di1, di2, di3, di4, di5, di6, di7, di8, di9, postX_ret, postX_normal, ex_some]
  split
  · rename_i h
    have : x = 0 := by omega
    subst this; simp
  · rename_i h
    split
    · rename_i h2
      have : y = 0 := by omega
      subst this; simp
    · rename_i h2
      split
      · rename_i h3
        obtain ⟨r, ⟨l, rfl, hwf, hval, hlen⟩, hc⟩ := c_addDigits (wf_digs x.natAbs) (wf_digs y.natAbs) (by omega) (by omega)
        refine calls_of hc ?_
        simp only [res130, b130k0, b130k1, b130k2, b130k3, b130k4, ↓reduceIte, reduceCtorEq, Nat.reduceEqDiff, Nat.reduceAdd, Nat.reduceMul, Nat.reduceSub, Nat.reduceLeDiff, Nat.reduceBEq, Int.reduceToNat, Int.reduceLE, Int.reduceLT, Int.reduceEq, Int.reduceNe, di0, di1, di2, di3, di4, di5, di6, di7, di8, di9, postX_ret, postX_normal, ex_some]
        refine calls_of (c_wideOf (by omega) hwf (by omega) (by omega)) ?_
        have e : x.sign * val l = x + y := by
          rw [hval, vx, vy]
          rcases sx with k | k | k
          · omega
          · rw [k.1]; omega
          · rw [k.1]; omega
        rw [e]
        simp only [res130, b130k0, b130k1, b130k2, b130k3, b130k4, wide, ↓reduceIte, reduceCtorEq, Nat.reduceEqDiff, Nat.reduceAdd, Nat.reduceMul, Nat.reduceSub, Nat.reduceLeDiff, Nat.reduceBEq, Int.reduceToNat, Int.reduceLE, Int.reduceLT, Int.reduceEq, Int.reduceNe, di0, di1, di2, di3, di4, di5, di6, di7, di8, di9, postX_ret, postX_normal, ex_some]
      · rename_i h3
        refine calls_of (c_cmpDigits (by omega)) ?_
        simp only [res130, b130k0, b130k1, b130k2, b130k3, b130k4, ↓reduceIte, reduceCtorEq, Nat.reduceEqDiff, Nat.reduceAdd, Nat.reduceMul, Nat.reduceSub, Nat.reduceLeDiff, Nat.reduceBEq, Int.reduceToNat, Int.reduceLE, Int.reduceLT, Int.reduceEq, Int.reduceNe, di0, di1, di2, di3, di4, di5, di6, di7, di8, di9, postX_ret, postX_normal, ex_some]
        have sd := sign_cases ((x.natAbs : Int) - y.natAbs)
        split
        · rename_i h4
          have : x + y = 0 := by omega
          rw [this]; simp [digs_zero]
        · rename_i h4
          split
          · rename_i h5
            refine calls_of (c_subDigits (wf_digs x.natAbs) (wf_digs y.natAbs) (by omega) (by omega)) ?_
            simp only [res130, b130k0, b130k1, b130k2, b130k3, b130k4, ↓reduceIte, reduceCtorEq, Nat.reduceEqDiff, Nat.reduceAdd, Nat.reduceMul, Nat.reduceSub, Nat.reduceLeDiff, Nat.reduceBEq, Int.reduceToNat, Int.reduceLE, Int.reduceLT, Int.reduceEq, Int.reduceNe, di0, di1, di2, di3, di4, di5, di6, di7, di8, di9, postX_ret, postX_normal, ex_some]
            refine calls_of (c_wideOf (l := digs (val (digs x.natAbs) - val (digs y.natAbs)).toNat) (Nat.le_trans (digs_mono (m := x.natAbs) (by omega)) (by omega)) (wf_digs _) (by omega) (by omega)) ?_
            have e : x.sign * val (digs (val (digs x.natAbs) - val (digs y.natAbs)).toNat) = x + y := by
              rw [val_digs, vx, vy]
              rcases sx with k | k | k
              · omega
              · rw [k.1]; omega
              · rw [k.1]; omega
            rw [e]
            simp only [res130, b130k0, b130k1, b130k2, b130k3, b130k4, wide, ↓reduceIte, reduceCtorEq, Nat.reduceEqDiff, Nat.reduceAdd, Nat.reduceMul, Nat.reduceSub, Nat.reduceLeDiff, Nat.reduceBEq, Int.reduceToNat, Int.reduceLE, Int.reduceLT, Int.reduceEq, Int.reduceNe, di0, di1, di2, di3, di4, di5, di6, di7, di8, di9, postX_ret, postX_normal, ex_some]
          · rename_i h5
            refine calls_of (c_subDigits (wf_digs y.natAbs) (wf_digs x.natAbs) (by omega) (by omega)) ?_
            simp only [res130, b130k0, b130k1, b130k2, b130k3, b130k4, ↓reduceIte, reduceCtorEq, Nat.reduceEqDiff, Nat.reduceAdd, Nat.reduceMul, Nat.reduceSub, Nat.reduceLeDiff, Nat.reduceBEq, Int.reduceToNat, Int.reduceLE, Int.reduceLT, Int.reduceEq, Int.reduceNe, di0, di1, di2, di3, di4, di5, di6, di7, di8, di9, postX_ret, postX_normal, ex_some]
            refine calls_of (c_wideOf (l := digs (val (digs y.natAbs) - val (digs x.natAbs)).toNat) (Nat.le_trans (digs_mono (m := y.natAbs) (by omega)) (by omega)) (wf_digs _) (by omega) (by omega)) ?_
            have e : y.sign * val (digs (val (digs y.natAbs) - val (digs x.natAbs)).toNat) = x + y := by
              rw [val_digs, vx, vy]
              rcases sy with k | k | k
              · omega
              · rw [k.1]; omega
              · rw [k.1]; omega
            rw [e]
            simp only [res130, b130k0, b130k1, b130k2, b130k3, b130k4, wide, ↓reduceIte, reduceCtorEq, Nat.reduceEqDiff, Nat.reduceAdd, Nat.reduceMul, Nat.reduceSub, Nat.reduceLeDiff, Nat.reduceBEq, Int.reduceToNat, Int.reduceLE, Int.reduceLT, Int.reduceEq, Int.reduceNe, di0, di1, di2, di3, di4, di5, di6, di7, di8, di9, postX_ret, postX_normal, ex_some]

theorem few_neg {z : Int} (h : Few z) : Few (-z) := by unfold Few at *; rwa [Int.natAbs_neg]

theorem c_WideSub {x y : Int} (hx : Few x) (hy : Few y) : Contract Try.prog 126 [wide x, wide y] (wide (x - y)) := by
  refine contract_run Try.func126 k126 rfl ?_
  simp only [wide, body126, b126, res126, ↓reduceIte, reduceCtorEq, Nat.reduceEqDiff, Nat.reduceAdd, Nat.reduceMul, Nat.reduceSub, Nat.reduceLeDiff, Nat.reduceBEq, Int.reduceToNat, Int.reduceLE, Int.reduceLT, Int.reduceEq, Int.reduceNe, di0, di1, di2, di3, di4, di5, di6, di7, di8, di9, postX_ret, postX_normal, ex_some]
  refine calls_of c_WideNeg ?_
  simp only [wide, res126, ↓reduceIte, reduceCtorEq, Nat.reduceEqDiff, Nat.reduceAdd, Nat.reduceMul, Nat.reduceSub, Nat.reduceLeDiff, Nat.reduceBEq, Int.reduceToNat, Int.reduceLE, Int.reduceLT, Int.reduceEq, Int.reduceNe, di0, di1, di2, di3, di4, di5, di6, di7, di8, di9, postX_ret, postX_normal, ex_some]
  refine calls_of (c_WideAdd hx (few_neg hy)) ?_
  simp only [wide, res126, ↓reduceIte, reduceCtorEq, Nat.reduceEqDiff, Nat.reduceAdd, Nat.reduceMul, Nat.reduceSub, Nat.reduceLeDiff, Nat.reduceBEq, Int.reduceToNat, Int.reduceLE, Int.reduceLT, Int.reduceEq, Int.reduceNe, di0, di1, di2, di3, di4, di5, di6, di7, di8, di9, postX_ret, postX_normal, ex_some]
  rfl

theorem c_WideCmp {x y : Int} (hx : Few x) (hy : Few y) : Contract Try.prog 112 [wide x, wide y] (.int .i64 (x - y).sign) := by
  refine contract_run Try.func112 k112 rfl ?_
  simp only [wide, body112, b112, res112, ↓reduceIte, reduceCtorEq, Nat.reduceEqDiff, Nat.reduceAdd, Nat.reduceMul, Nat.reduceSub, Nat.reduceLeDiff, Nat.reduceBEq, Int.reduceToNat, Int.reduceLE, Int.reduceLT, Int.reduceEq, Int.reduceNe, di0, di1, di2, di3, di4, di5, di6, di7, di8, di9, postX_ret, postX_normal, ex_some]
  refine calls_of (c_WideSub hx hy) ?_
  simp only [wide, res112, ↓reduceIte, reduceCtorEq, Nat.reduceEqDiff, Nat.reduceAdd, Nat.reduceMul, Nat.reduceSub, Nat.reduceLeDiff, Nat.reduceBEq, Int.reduceToNat, Int.reduceLE, Int.reduceLT, Int.reduceEq, Int.reduceNe, di0, di1, di2, di3, di4, di5, di6, di7, di8, di9, postX_ret, postX_normal, ex_some]
end Go.DI

/- Contracts: wide numbers multiplied. No condition. -/
set_option linter.unusedSimpArgs false
namespace Go.DI
open Go.Proofs Go.RowKit

theorem val_set : ∀ (l : List Int) (j : Nat) (x : Int), j < l.length → val (l.set j x) = val l + (x - l.getD j 0) * 1000000000 ^ j
  | [], j, x, h => by simp at h
  | d :: l, 0, x, _ => by
    simp [List.set, val]; omega
  | d :: l, j + 1, x, h => by
    have ih := val_set l j x (by simpa using h)
    have e : (d :: l).getD (j + 1) 0 = l.getD j 0 := by simp [List.getD_eq_getElem?_getD]
    rw [e]
    simp only [List.set_cons_succ, val, ih, Int.pow_succ]
    rw [Int.mul_add, Int.add_assoc]
    congr 2
    rw [Int.mul_comm 1000000000, Int.mul_assoc]

theorem WF.set {l : List Int} (h : WF l) {j : Nat} {x : Int} (h1 : 0 ≤ x) (h2 : x < 1000000000) : WF (l.set j x) := by
  intro d hd
  rcases List.mem_or_eq_of_mem_set hd with k | k
  · exact h d k
  · subst k; exact ⟨h1, h2⟩

/-- A digit at a place is at most the number by the place's weight. -/
theorem digit_le {l : List Int} (h : WF l) {j : Nat} (hj : j < l.length) : l.getD j 0 * 1000000000 ^ j ≤ val l := by
  have := val_set l j 0 hj
  have h2 := val_nonneg (h.set (j := j) (x := 0) (by omega) (by omega))
  have e : (0 - l.getD j 0) * 1000000000 ^ j = -(l.getD j 0 * 1000000000 ^ j) := by rw [Int.zero_sub, Int.neg_mul]
  rw [e] at this
  omega

theorem take_succ_val (l : List Int) (i : Nat) (h : i < l.length) : val (l.take (i + 1)) = val (l.take i) + l.getD i 0 * 1000000000 ^ i := by
  have e : l.take (i + 1) = l.take i ++ [l.getD i 0] := by
    rw [List.take_succ_eq_append_getElem h, List.getD_eq_getElem?_getD]
    simp [h]
  rw [e, val_append, List.length_take, Nat.min_eq_left (by omega)]
  simp only [val, Int.mul_zero, Int.add_zero]
  rw [Int.mul_comm]

theorem val_replicate : ∀ n, val (List.replicate n 0) = 0
  | 0 => rfl
  | n + 1 => by simp [List.replicate_succ, val, val_replicate n]

theorem c_WideMul {x y : Int} (hx : Few x) (hy : Few y) : Contract Try.prog 113 [wide x, wide y] (wide (x * y)) := by
  unfold Few at hx hy
  have sx := sign_cases x
  have sy := sign_cases y
  have vx := val_digs x.natAbs
  have vy := val_digs y.natAbs
  have wx := wf_digs x.natAbs
  have wy := wf_digs y.natAbs
  refine contract_run Try.func113 k113 rfl ?_
  simp only [wide, body113, b113, res113, b113k0, b113k1, b113k2, b113k3, b113k4, ↓reduceIte, reduceCtorEq, Nat.reduceEqDiff, Nat.reduceAdd, Nat.reduceMul, Nat.reduceSub, Nat.reduceLeDiff, Nat.reduceBEq, Int.reduceToNat, Int.reduceLE, Int.reduceLT, Int.reduceEq, Int.reduceNe, di0, di1, di2, di3, di4, di5, di6, di7, di8, di9, postX_ret, postX_normal, ex_some]
  generalize digs x.natAbs = a at *
  generalize digs y.natAbs = b at *
  have w1 : IntKind.wrap .i64 ((a.length : Int) + b.length) = a.length + b.length := wrap64 (by omega) (by omega)
  have w2 : IntKind.wrap .i64 ((a.length : Int) + b.length + 1) = a.length + b.length + 1 := wrap64 (by omega) (by omega)
  rw [w1, w2]
  refine ⟨by omega, by omega, by omega, ?_⟩
  have e3 : ((a.length : Int) + b.length + 1).toNat = a.length + b.length + 1 := by omega
  rw [e3]
  refine loop_keep (α := Nat × List Int) rfl (fun s => a.length - s.1)
    (fun s => s.1 ≤ a.length ∧ s.2.length = a.length + b.length + 1 ∧ WF s.2 ∧ val s.2 = val (a.take s.1) * val b)
    (fun s => [(2, .ref 2 0), (3, .ref 3 0), (4, .ref 4 0), (5, .vec 18 0 (a.length + b.length + 1)), (6, .imm (.int .i64 s.1))])
    (fun s => [(2, .box [.imm (.int .i64 x.sign), .imm (.slc 1 (a.map (.int .i64)))]), (3, .box [.imm (.int .i64 y.sign), .imm (.slc 1 (b.map (.int .i64)))]), (4, .box [.imm (.int .i64 0), .imm (.slc 1 [])]), (18, .arr (s.2.map (.int .i64)))])
    (0, List.replicate (a.length + b.length + 1) 0) ⟨Nat.zero_le _, by simp, ?_, by simp [val, val_replicate]⟩ (by simp only [↓reduceIte, reduceCtorEq, Nat.reduceEqDiff, Nat.reduceAdd, Nat.reduceMul, Nat.reduceSub, Nat.reduceLeDiff, Nat.reduceBEq, Int.reduceToNat, Int.reduceLE, Int.reduceLT, Int.reduceEq, Int.reduceNe, di0, di1, di2, di3, di4, di5, di6, di7, di8, di9, postX_ret, postX_normal, ex_some]) ?_
  · intro d hd; rw [List.mem_replicate] at hd; omega
  rintro ⟨i, o⟩ ⟨hi, ho, hwo, hv⟩ ih
  dsimp only at hi ho hwo hv
  simp only [res113, b113k0, b113k1, b113k2, b113k3, b113k4, ↓reduceIte, reduceCtorEq, Nat.reduceEqDiff, Nat.reduceAdd, Nat.reduceMul, Nat.reduceSub, Nat.reduceLeDiff, Nat.reduceBEq, Int.reduceToNat, Int.reduceLE, Int.reduceLT, Int.reduceEq, Int.reduceNe, di0, di1, di2, di3, di4, di5, di6, di7, di8, di9, postX_ret, postX_normal, ex_some]
  split
  · rename_i h
    have hai := wx.getD i
    have hV := take_succ_val a i (by omega)
    refine loop_keep (α := Nat × List Int × Int) rfl (fun s => b.length - s.1)
      (fun s => s.1 ≤ b.length ∧ s.2.1.length = a.length + b.length + 1 ∧ WF s.2.1 ∧ 0 ≤ s.2.2 ∧ s.2.2 < 1000000000 ∧
        val s.2.1 + s.2.2 * 1000000000 ^ (i + s.1) = val (a.take i) * val b + a.getD i 0 * 1000000000 ^ i * val (b.take s.1))
      (fun s => [(2, .ref 2 0), (3, .ref 3 0), (4, .ref 4 0), (5, .vec 18 0 (a.length + b.length + 1)), (6, .imm (.int .i64 i)), (7, .imm (.int .i64 s.2.2)), (8, .imm (.int .i64 s.1))])
      (fun s => [(2, .box [.imm (.int .i64 x.sign), .imm (.slc 1 (a.map (.int .i64)))]), (3, .box [.imm (.int .i64 y.sign), .imm (.slc 1 (b.map (.int .i64)))]), (4, .box [.imm (.int .i64 0), .imm (.slc 1 [])]), (18, .arr (s.2.1.map (.int .i64)))])
      (0, o, 0) ⟨Nat.zero_le _, ho, hwo, by dsimp only; omega, by dsimp only; omega, by simp [val, hv]⟩ (by simp only [↓reduceIte, reduceCtorEq, Nat.reduceEqDiff, Nat.reduceAdd, Nat.reduceMul, Nat.reduceSub, Nat.reduceLeDiff, Nat.reduceBEq, Int.reduceToNat, Int.reduceLE, Int.reduceLT, Int.reduceEq, Int.reduceNe, di0, di1, di2, di3, di4, di5, di6, di7, di8, di9, postX_ret, postX_normal, ex_some]) ?_
    rintro ⟨k, o', c⟩ ⟨hk, ho', hwo', hc0, hc1, hv'⟩ ih2
    dsimp only at hk ho' hwo' hc0 hc1 hv'
    simp only [res113, b113k0, b113k1, b113k2, b113k3, b113k4, ↓reduceIte, reduceCtorEq, Nat.reduceEqDiff, Nat.reduceAdd, Nat.reduceMul, Nat.reduceSub, Nat.reduceLeDiff, Nat.reduceBEq, Int.reduceToNat, Int.reduceLE, Int.reduceLT, Int.reduceEq, Int.reduceNe, di0, di1, di2, di3, di4, di5, di6, di7, di8, di9, postX_ret, postX_normal, ex_some]
    split
    · rename_i h2
      have hb := wy.getD k
      have ho1 := hwo'.getD (i + k)
      have hqr0 : 0 ≤ a.getD i 0 * b.getD k 0 := Int.mul_nonneg hai.1 hb.1
      have hqr1 : a.getD i 0 * b.getD k 0 ≤ 999999999 * 999999999 := Int.mul_le_mul (by omega) (by omega) hb.1 (by omega)
      have hV2 := take_succ_val b k (by omega)
      have hset := val_set o' (i + k) ((o'.getD (i + k) 0 + a.getD i 0 * b.getD k 0 + c) % 1000000000) (by omega)
      have w3 : IntKind.wrap .i64 ((i : Int) + k) = ((i + k : Nat) : Int) := by rw [wrap64 (by omega) (by omega)]; rfl
      simp only [w3, i_toNat, Nat.zero_add]
      generalize hp : o'.getD (i + k) 0 = p at *
      generalize hq : a.getD i 0 = q at *
      generalize hr : b.getD k 0 = r at *
      rw [wrap64 (n := q * r) (by omega) (by omega), wrap64 (n := p + q * r) (by omega) (by omega), wrap64 (n := p + q * r + c) (by omega) (by omega), (tdm (s := p + q * r + c) (by omega)).1, (tdm (s := p + q * r + c) (by omega)).2,
        wrap64 (n := (p + q * r + c) / 1000000000) (by omega) (by omega), wrap64 (n := (k : Int) + 1) (by omega) (by omega)]
      refine ⟨by omega, by omega, by omega, by omega, by omega, by omega, by omega, by omega, ?_⟩
      refine ih2 (k + 1, o'.set (i + k) ((p + q * r + c) % 1000000000), (p + q * r + c) / 1000000000) _ _ (by dsimp only; omega) ⟨by dsimp only; omega, by simp [ho'], hwo'.set (by omega) (by omega), by dsimp only; omega, by dsimp only; omega, ?_⟩ (by simp only [↓reduceIte, reduceCtorEq, Nat.reduceEqDiff, Nat.reduceAdd, Nat.reduceMul, Nat.reduceSub, Nat.reduceLeDiff, Nat.reduceBEq, Int.reduceToNat, Int.reduceLE, Int.reduceLT, Int.reduceEq, Int.reduceNe, di0, di1, di2, di3, di4, di5, di6, di7, di8, di9, postX_ret, postX_normal, ex_some]; rfl)
      dsimp only
      generalize hW : (1000000000 : Int) ^ (i + k) = W at *
      have ep : (1000000000 : Int) ^ (i + (k + 1)) = W * 1000000000 := by rw [← hW, ← Nat.add_assoc, Int.pow_succ]
      rw [hset, hV2, ep, Int.mul_add]
      have e1 : (p + q * r + c) / 1000000000 * (W * 1000000000) = ((p + q * r + c) / 1000000000 * 1000000000) * W := by
        rw [Int.mul_comm W, Int.mul_assoc]
      have e2 : q * 1000000000 ^ i * (r * 1000000000 ^ k) = (q * r) * W := by
        rw [← hW, Int.pow_add, Int.mul_assoc, Int.mul_assoc, ← Int.mul_assoc (1000000000 ^ i) r, Int.mul_comm (1000000000 ^ i) r, Int.mul_assoc r]
      have e4 : ((p + q * r + c) % 1000000000 - p) * W + ((p + q * r + c) / 1000000000 * 1000000000) * W = (q * r) * W + c * W := by
        rw [← Int.add_mul, ← Int.add_mul]
        congr 1
        omega
      omega
    · rename_i h2
      have hk : k = b.length := by omega
      subst hk
      have w3 : IntKind.wrap .i64 ((i : Int) + b.length) = ((i + b.length : Nat) : Int) := by rw [wrap64 (by omega) (by omega)]; rfl
      simp only [w3, i_toNat, Nat.zero_add]
      have ho1 := hwo'.getD (i + b.length)
      have hset := val_set o' (i + b.length) (o'.getD (i + b.length) 0 + c) (by omega)
      have hdl := digit_le hwo' (j := i + b.length) (by omega)
      have hall : val (a.take i) * val b + a.getD i 0 * 1000000000 ^ i * val (b.take b.length) = val (a.take (i + 1)) * val b := by
        rw [List.take_length, hV, Int.add_mul]
      rw [hall] at hv'
      have hlt : val (a.take (i + 1)) * val b < 1000000000 ^ (i + 1) * 1000000000 ^ b.length := by
        have l1 := val_lt (wx.take (i + 1))
        rw [List.length_take, Nat.min_eq_left (by omega)] at l1
        have l2 := val_lt wy
        have l3 := val_nonneg (wx.take (i + 1))
        have l4 := val_nonneg wy
        have l5 := Int.mul_le_mul_of_nonneg_left (Int.le_of_lt l2) l3
        have l6 := Int.mul_lt_mul_of_pos_right l1 (show (0 : Int) < 1000000000 ^ b.length from Int.pow_pos (by omega))
        omega
      generalize hp : o'.getD (i + b.length) 0 = p at *
      have hlim : p + c < 1000000000 := by
        rw [← Int.pow_add, show i + 1 + b.length = i + b.length + 1 by omega, Int.pow_succ] at hlt
        have hW : (0 : Int) < 1000000000 ^ (i + b.length) := Int.pow_pos (by omega)
        generalize (1000000000 : Int) ^ (i + b.length) = W at *
        have e1 : (p + c) * W < 1000000000 * W := by
          rw [Int.add_mul, Int.mul_comm 1000000000 W]; omega
        exact Int.lt_of_mul_lt_mul_right e1 (Int.le_of_lt hW)
      rw [wrap64 (n := p + c) (by omega) (by omega), wrap64 (n := (i : Int) + 1) (by omega) (by omega)]
      refine ⟨by omega, by omega, by omega, by omega, by omega, by omega, ?_⟩
      refine ih (i + 1, o'.set (i + b.length) (p + c)) _ _ (by dsimp only; omega) ⟨by dsimp only; omega, by simp [ho'], hwo'.set (by omega) (by omega), ?_⟩ (by simp only [↓reduceIte, reduceCtorEq, Nat.reduceEqDiff, Nat.reduceAdd, Nat.reduceMul, Nat.reduceSub, Nat.reduceLeDiff, Nat.reduceBEq, Int.reduceToNat, Int.reduceLE, Int.reduceLT, Int.reduceEq, Int.reduceNe, di0, di1, di2, di3, di4, di5, di6, di7, di8, di9, postX_ret, postX_normal, ex_some]; rfl)
      dsimp only
      rw [hset, ← hv', show p + c - p = c by omega]
  · rename_i h
    have hi : i = a.length := by omega
    subst hi
    rw [List.take_length] at hv
    simp only [res113, b113k0, b113k1, b113k2, b113k3, b113k4, ↓reduceIte, reduceCtorEq, Nat.reduceEqDiff, Nat.reduceAdd, Nat.reduceMul, Nat.reduceSub, Nat.reduceLeDiff, Nat.reduceBEq, Int.reduceToNat, Int.reduceLE, Int.reduceLT, Int.reduceEq, Int.reduceNe, di0, di1, di2, di3, di4, di5, di6, di7, di8, di9, postX_ret, postX_normal, ex_some, Nat.zero_add, ← ho, Nat.le_refl, List.take_length]
    have hs1 := sign_bd x
    have hs2 := sign_bd y
    have hxy : x.sign * y.sign = (x * y).sign := (Int.sign_mul x y).symm
    have hs3 := sign_bd (x * y)
    rw [wrap64 (n := x.sign * y.sign) (by omega) (by omega)]
    have hz : x.sign * y.sign = 0 → val o = 0 := by
      intro hz
      rw [hv, vx, vy]
      rcases Int.mul_eq_zero.1 hz with k | k
      · have : x = 0 := by omega
        subst this; simp
      · have : y = 0 := by omega
        subst this; simp
    refine calls_of (c_wideOf (by omega) hwo (by omega) hz) ?_
    have e : x.sign * y.sign * val o = x * y := by
      rw [hv, vx, vy]
      have h1 : x.sign * x.natAbs = x := by
        rcases sx with k | k | k
        · rw [k.1]; omega
        · rw [k.1]; omega
        · rw [k.1]; omega
      have h2 : y.sign * y.natAbs = y := by
        rcases sy with k | k | k
        · rw [k.1]; omega
        · rw [k.1]; omega
        · rw [k.1]; omega
      rw [Int.mul_assoc, ← Int.mul_assoc y.sign, Int.mul_comm y.sign, Int.mul_assoc, ← Int.mul_assoc, h1, h2]
    rw [e]
    simp only [res113, b113k0, b113k1, b113k2, b113k3, b113k4, wide, ↓reduceIte, reduceCtorEq, Nat.reduceEqDiff, Nat.reduceAdd, Nat.reduceMul, Nat.reduceSub, Nat.reduceLeDiff, Nat.reduceBEq, Int.reduceToNat, Int.reduceLE, Int.reduceLT, Int.reduceEq, Int.reduceNe, di0, di1, di2, di3, di4, di5, di6, di7, di8, di9, postX_ret, postX_normal, ex_some]
end Go.DI

/- Contracts: wide numbers divided. No condition. -/
set_option linter.unusedSimpArgs false
namespace Go.DI
open Go.Proofs Go.RowKit

theorem natpow_lt {n k : Nat} (h : (n : Int) < 1000000000 ^ k) : n < 1000000000 ^ k := by
  have e : ((1000000000 ^ k : Nat) : Int) = (1000000000 : Int) ^ k := by rw [Int.natCast_pow]; rfl
  rw [← e] at h
  exact Int.ofNat_lt.1 h
theorem digs_lt (n : Nat) : n < 1000000000 ^ (digs n).length := by
  have h := val_lt (wf_digs n)
  rw [val_digs] at h
  exact natpow_lt h
theorem digs_mul_le (m n : Nat) : (digs (m * n)).length ≤ (digs m).length + (digs n).length := by
  apply digs_length_le
  rw [Nat.pow_add]
  exact Nat.mul_lt_mul'' (digs_lt m) (digs_lt n)

theorem c_WideFloor {x y : Int} (hx : Few x) (hy : Few y) (h0 : 0 < y) : Contract Try.prog 128 [wide x, wide y] (wide (x / y)) := by
  unfold Few at hx hy
  have sx := sign_cases x
  have vx := val_digs x.natAbs
  have wx := wf_digs x.natAbs
  refine contract_run Try.func128 k128 rfl ?_
  simp only [wide, body128, b128, res128, b128k0, b128k1, b128k2, b128k3, b128k4, b128k5, b128k6, ↓reduceIte, reduceCtorEq, Nat.reduceEqDiff, Nat.reduceAdd, Nat.reduceMul, Nat.reduceSub, Nat.reduceLeDiff, Nat.reduceBEq, Int.reduceToNat, Int.reduceLE, Int.reduceLT, Int.reduceEq, Int.reduceNe, di0, di1, di2, di3, di4, di5, di6, di7, di8, di9, postX_ret, postX_normal, ex_some]
  split
  · rename_i h
    have : x = 0 := by omega
    subst this; simp [digs_zero]
  · rename_i h
    generalize ha : digs x.natAbs = a at *
    refine ⟨by omega, by omega, ?_⟩
    rw [wrap64 (n := (a.length : Int) - 1) (by omega) (by omega)]
    refine loop_keep (α := Nat × List Int × Nat) rfl (fun s => s.1)
      (fun s => s.1 ≤ a.length ∧ s.2.1.length = a.length ∧ WF s.2.1 ∧ (s.2.2 : Int) < y ∧ val (a.drop s.1) = val (s.2.1.drop s.1) * y + s.2.2)
      (fun s => [(2, .ref 2 0), (3, .ref 3 0), (4, .ref 4 0), (5, .vec 19 0 a.length), (6, .imm (.slc 1 ((digs s.2.2).map (.int .i64)))), (7, .imm (.int .i64 ((s.1 : Int) - 1)))])
      (fun s => [(2, .box [.imm (.int .i64 x.sign), .imm (.slc 1 (a.map (.int .i64)))]), (3, .box [.imm (.int .i64 y.sign), .imm (.slc 1 ((digs y.natAbs).map (.int .i64)))]), (4, .box [.imm (.int .i64 0), .imm (.slc 1 [])]), (19, .arr (s.2.1.map (.int .i64)))])
      (a.length, List.replicate a.length 0, 0) ⟨Nat.le_refl _, by simp, ?_, by simpa using h0, by simp [val]⟩ (by simp only [↓reduceIte, reduceCtorEq, Nat.reduceEqDiff, Nat.reduceAdd, Nat.reduceMul, Nat.reduceSub, Nat.reduceLeDiff, Nat.reduceBEq, Int.reduceToNat, Int.reduceLE, Int.reduceLT, Int.reduceEq, Int.reduceNe, di0, di1, di2, di3, di4, di5, di6, di7, di8, di9, postX_ret, postX_normal, ex_some, digs_zero]) ?_
    · intro d hd; rw [List.mem_replicate] at hd; omega
    rintro ⟨n, q, L⟩ ⟨hn, hq, hwq, hL, hv⟩ ih
    dsimp only at hn hq hwq hL hv
    cases n with
    | zero =>
      have e0 : ((0 : Nat) : Int) - 1 = -1 := rfl
      simp only [res128, b128k0, b128k1, b128k2, b128k3, b128k4, b128k5, b128k6, ↓reduceIte, reduceCtorEq, Nat.reduceEqDiff, Nat.reduceAdd, Nat.reduceMul, Nat.reduceSub, Nat.reduceLeDiff, Nat.reduceBEq, Int.reduceToNat, Int.reduceLE, Int.reduceLT, Int.reduceEq, Int.reduceNe, di0, di1, di2, di3, di4, di5, di6, di7, di8, di9, postX_ret, postX_normal, ex_some, e0]
      rw [if_neg (by omega)]
      simp only [List.drop_zero] at hv
      have hq0 := val_nonneg hwq
      have ex : (x.natAbs : Int) = val q * y + L := by rw [← vx, hv]
      simp only [res128, b128k0, b128k1, b128k2, b128k3, b128k4, b128k5, b128k6, ↓reduceIte, reduceCtorEq, Nat.reduceEqDiff, Nat.reduceAdd, Nat.reduceMul, Nat.reduceSub, Nat.reduceLeDiff, Nat.reduceBEq, Int.reduceToNat, Int.reduceLE, Int.reduceLT, Int.reduceEq, Int.reduceNe, di0, di1, di2, di3, di4, di5, di6, di7, di8, di9, postX_ret, postX_normal, ex_some, Nat.zero_add, ← hq, Nat.le_refl, List.take_length]
      have hqL : val q = 0 ∨ 0 < val q := by omega
      refine calls_of (c_wideOf (s := x.sign) (l := q) (by omega) hwq (by have := sign_bd x; omega) (by intro z; omega)) ?_
      simp only [res128, b128k0, b128k1, b128k2, b128k3, b128k4, b128k5, b128k6, wide, ↓reduceIte, reduceCtorEq, Nat.reduceEqDiff, Nat.reduceAdd, Nat.reduceMul, Nat.reduceSub, Nat.reduceLeDiff, Nat.reduceBEq, Int.reduceToNat, Int.reduceLE, Int.reduceLT, Int.reduceEq, Int.reduceNe, di0, di1, di2, di3, di4, di5, di6, di7, di8, di9, postX_ret, postX_normal, ex_some]
      have hLd : digs L = [] ↔ L = 0 := digs_nil
      split
      · rename_i h1
        have hx0 : x < 0 := by omega
        have hxs : x.sign = -1 := Int.sign_eq_neg_one_of_neg hx0
        have hL0 : L ≠ 0 := by intro z; have h2 := h1.2; rw [hLd.2 z] at h2; simp at h2
        refine calls_of (c_WideOf (by omega) (by omega)) ?_
        simp only [res128, b128k0, b128k1, b128k2, b128k3, b128k4, b128k5, b128k6, ↓reduceIte, reduceCtorEq, Nat.reduceEqDiff, Nat.reduceAdd, Nat.reduceMul, Nat.reduceSub, Nat.reduceLeDiff, Nat.reduceBEq, Int.reduceToNat, Int.reduceLE, Int.reduceLT, Int.reduceEq, Int.reduceNe, di0, di1, di2, di3, di4, di5, di6, di7, di8, di9, postX_ret, postX_normal, ex_some]
        have hfew : Few (x.sign * val q) := by
          unfold Few
          rw [hxs]
          have h6 := val_lt hwq
          have h5 : ((val q).toNat : Int) = val q := Int.toNat_of_nonneg hq0
          rw [← h5] at h6
          have := digs_length_le q.length (val q).toNat (natpow_lt h6)
          rw [show (-1 * val q).natAbs = (val q).toNat by omega]
          omega
        refine calls_of (c_WideSub hfew (few_of (z := 1) 1 (by omega) (by decide))) ?_
        simp only [res128, b128k0, b128k1, b128k2, b128k3, b128k4, b128k5, b128k6, wide, ↓reduceIte, reduceCtorEq, Nat.reduceEqDiff, Nat.reduceAdd, Nat.reduceMul, Nat.reduceSub, Nat.reduceLeDiff, Nat.reduceBEq, Int.reduceToNat, Int.reduceLE, Int.reduceLT, Int.reduceEq, Int.reduceNe, di0, di1, di2, di3, di4, di5, di6, di7, di8, di9, postX_ret, postX_normal, ex_some]
        have e : x.sign * val q - 1 = x / y := by
          rw [hxs]
          symm
          have e1 : x = y * (-1 * val q - 1) + (y - L) := by grind
          rw [e1, Int.mul_add_ediv_left _ _ (by omega), Int.ediv_eq_zero_of_lt (by omega) (by omega)]
          omega
        rw [e]
      · rename_i h1
        have e : x.sign * val q = x / y := by
          symm
          rcases Int.lt_or_le x 0 with hx0 | hx0
          · have hxs : x.sign = -1 := Int.sign_eq_neg_one_of_neg hx0
            have hL0 : L = 0 := by
              apply hLd.1
              apply List.eq_nil_of_length_eq_zero
              omega
            rw [hxs]
            have e1 : x = y * (-1 * val q) := by grind
            rw [e1, Int.mul_ediv_cancel_left _ (by omega)]
          · have hxs : x.sign = 1 := by omega
            rw [hxs]
            have e1 : x = y * (1 * val q) + L := by grind
            rw [e1, Int.mul_add_ediv_left _ _ (by omega), Int.ediv_eq_zero_of_lt (by omega) (by omega)]
            omega
        rw [e]
    | succ m =>
      have e1 : ((m + 1 : Nat) : Int) - 1 = m := by omega
      have hlL : (digs L).length ≤ (digs y.natAbs).length := digs_mono (by omega)
      have ham := wx.getD m
      have hdm := val_drop a m
      simp only [res128, b128k0, b128k1, b128k2, b128k3, b128k4, b128k5, b128k6, ↓reduceIte, reduceCtorEq, Nat.reduceEqDiff, Nat.reduceAdd, Nat.reduceMul, Nat.reduceSub, Nat.reduceLeDiff, Nat.reduceBEq, Int.reduceToNat, Int.reduceLE, Int.reduceLT, Int.reduceEq, Int.reduceNe, di0, di1, di2, di3, di4, di5, di6, di7, di8, di9, postX_ret, postX_normal, ex_some, e1]
      refine ⟨by omega, by omega, by omega, ?_⟩
      refine calls_of (c_trimmed (l := a.getD m 0 :: digs L) (by simp; omega)) ?_
      have hT : trim (a.getD m 0 :: digs L) = digs (a.getD m 0 + 1000000000 * L).toNat := by
        rw [trim_digs (WF.cons ham.1 ham.2 (wf_digs L))]
        simp only [val, val_digs]
      rw [hT]
      simp only [res128, b128k0, b128k1, b128k2, b128k3, b128k4, b128k5, b128k6, ↓reduceIte, reduceCtorEq, Nat.reduceEqDiff, Nat.reduceAdd, Nat.reduceMul, Nat.reduceSub, Nat.reduceLeDiff, Nat.reduceBEq, Int.reduceToNat, Int.reduceLE, Int.reduceLT, Int.reduceEq, Int.reduceNe, di0, di1, di2, di3, di4, di5, di6, di7, di8, di9, postX_ret, postX_normal, ex_some]
      have hT0 : 0 ≤ a.getD m 0 + 1000000000 * L := by omega
      have hTy : a.getD m 0 + 1000000000 * L < y * 1000000000 := by omega
      generalize hTT : a.getD m 0 + 1000000000 * (L : Int) = T at *
      have hTn : (T.toNat : Int) = T := Int.toNat_of_nonneg hT0
      have hfy : Few y := hy
      have hwy : Contract Try.prog 127 [.int .i64 1, .slc 1 ((digs y.natAbs).map (.int .i64))] (wide y) := by
        have := c_wideOf (s := 1) (l := digs y.natAbs) (by omega) (wf_digs _) (by decide) (by intro h; cases h)
        rw [val_digs, show (1 : Int) * (y.natAbs : Int) = y by omega] at this
        exact this
      have hfT : (digs T.toNat).length ≤ 100001 := by
        have := trimLen_le (a.getD m 0 :: digs L) (a.getD m 0 :: digs L).length
        have h2 : (trim (a.getD m 0 :: digs L)).length ≤ (a.getD m 0 :: digs L).length := by unfold trim; rw [List.length_take]; omega
        rw [hT] at h2
        simp at h2
        omega
      refine loop_keep (α := Int × Int) rfl (fun s => (s.2 - s.1).toNat)
        (fun s => 0 ≤ s.1 ∧ s.1 ≤ s.2 ∧ s.2 ≤ 999999999 ∧ y * s.1 ≤ T ∧ T < y * (s.2 + 1))
        (fun s => [(2, .ref 2 0), (3, .ref 3 0), (4, .ref 4 0), (5, .vec 19 0 a.length), (6, .imm (.slc 1 ((digs T.toNat).map (.int .i64)))), (7, .imm (.int .i64 m)), (8, .imm (.int .i64 s.1)), (9, .imm (.int .i64 s.2))])
        (fun s => [(2, .box [.imm (.int .i64 x.sign), .imm (.slc 1 (a.map (.int .i64)))]), (3, .box [.imm (.int .i64 y.sign), .imm (.slc 1 ((digs y.natAbs).map (.int .i64)))]), (4, .box [.imm (.int .i64 0), .imm (.slc 1 [])]), (19, .arr (q.map (.int .i64)))])
        (0, 999999999) ⟨by dsimp only; omega, by dsimp only; omega, by dsimp only; omega, by simpa using hT0, by simpa using hTy⟩ (by simp only [↓reduceIte, reduceCtorEq, Nat.reduceEqDiff, Nat.reduceAdd, Nat.reduceMul, Nat.reduceSub, Nat.reduceLeDiff, Nat.reduceBEq, Int.reduceToNat, Int.reduceLE, Int.reduceLT, Int.reduceEq, Int.reduceNe, di0, di1, di2, di3, di4, di5, di6, di7, di8, di9, postX_ret, postX_normal, ex_some]) ?_
      rintro ⟨lo, hi⟩ ⟨i1, i2, i3, i4, i5⟩ ih2
      dsimp only at i1 i2 i3 i4 i5
      simp only [res128, b128k0, b128k1, b128k2, b128k3, b128k4, b128k5, b128k6, ↓reduceIte, reduceCtorEq, Nat.reduceEqDiff, Nat.reduceAdd, Nat.reduceMul, Nat.reduceSub, Nat.reduceLeDiff, Nat.reduceBEq, Int.reduceToNat, Int.reduceLE, Int.reduceLT, Int.reduceEq, Int.reduceNe, di0, di1, di2, di3, di4, di5, di6, di7, di8, di9, postX_ret, postX_normal, ex_some]
      rw [wrap64 (n := lo + hi) (by omega) (by omega), wrap64 (n := lo + hi + 1) (by omega) (by omega), Int.tdiv_eq_ediv_of_nonneg (show 0 ≤ lo + hi + 1 by omega), wrap64 (n := (lo + hi + 1) / 2) (by omega) (by omega)]
      split
      · rename_i hlt
        generalize hmd : (lo + hi + 1) / 2 = md
        refine calls_of hwy ?_
        simp only [res128, b128k0, b128k1, b128k2, b128k3, b128k4, b128k5, b128k6, ↓reduceIte, reduceCtorEq, Nat.reduceEqDiff, Nat.reduceAdd, Nat.reduceMul, Nat.reduceSub, Nat.reduceLeDiff, Nat.reduceBEq, Int.reduceToNat, Int.reduceLE, Int.reduceLT, Int.reduceEq, Int.reduceNe, di0, di1, di2, di3, di4, di5, di6, di7, di8, di9, postX_ret, postX_normal, ex_some]
        refine calls_of (c_WideOf (by omega) (by omega)) ?_
        simp only [res128, b128k0, b128k1, b128k2, b128k3, b128k4, b128k5, b128k6, ↓reduceIte, reduceCtorEq, Nat.reduceEqDiff, Nat.reduceAdd, Nat.reduceMul, Nat.reduceSub, Nat.reduceLeDiff, Nat.reduceBEq, Int.reduceToNat, Int.reduceLE, Int.reduceLT, Int.reduceEq, Int.reduceNe, di0, di1, di2, di3, di4, di5, di6, di7, di8, di9, postX_ret, postX_normal, ex_some]
        refine calls_of (c_WideMul hfy (few_of 2 (by omega) (by omega))) ?_
        simp only [res128, b128k0, b128k1, b128k2, b128k3, b128k4, b128k5, b128k6, wide, ↓reduceIte, reduceCtorEq, Nat.reduceEqDiff, Nat.reduceAdd, Nat.reduceMul, Nat.reduceSub, Nat.reduceLeDiff, Nat.reduceBEq, Int.reduceToNat, Int.reduceLE, Int.reduceLT, Int.reduceEq, Int.reduceNe, di0, di1, di2, di3, di4, di5, di6, di7, di8, di9, postX_ret, postX_normal, ex_some]
        have hp0 : 0 ≤ y * md := Int.mul_nonneg (by omega) (by omega)
        have hpy : y * md ≤ y * 999999999 := Int.mul_le_mul_of_nonneg_left (by omega) (by omega)
        refine calls_of (c_cmpDigits (by
          rw [Int.natAbs_mul]
          have := digs_mul_le y.natAbs md.natAbs
          have := digs_length_le 1 md.natAbs (by omega)
          omega)) ?_
        have sg := sign_cases (((y * md).natAbs : Int) - T.toNat)
        simp only [res128, b128k0, b128k1, b128k2, b128k3, b128k4, b128k5, b128k6, ↓reduceIte, reduceCtorEq, Nat.reduceEqDiff, Nat.reduceAdd, Nat.reduceMul, Nat.reduceSub, Nat.reduceLeDiff, Nat.reduceBEq, Int.reduceToNat, Int.reduceLE, Int.reduceLT, Int.reduceEq, Int.reduceNe, di0, di1, di2, di3, di4, di5, di6, di7, di8, di9, postX_ret, postX_normal, ex_some]
        split
        · rename_i hc
          refine ih2 (md, hi) _ _ (by dsimp only; omega) ⟨by dsimp only; omega, by dsimp only; omega, i3, by dsimp only; omega, i5⟩ (by simp only [↓reduceIte, reduceCtorEq, Nat.reduceEqDiff, Nat.reduceAdd, Nat.reduceMul, Nat.reduceSub, Nat.reduceLeDiff, Nat.reduceBEq, Int.reduceToNat, Int.reduceLE, Int.reduceLT, Int.reduceEq, Int.reduceNe, di0, di1, di2, di3, di4, di5, di6, di7, di8, di9, postX_ret, postX_normal, ex_some])
        · rename_i hc
          rw [wrap64 (n := md - 1) (by omega) (by omega)]
          refine ih2 (lo, md - 1) _ _ (by dsimp only; omega) ⟨i1, by dsimp only; omega, by dsimp only; omega, i4, ?_⟩ (by simp only [↓reduceIte, reduceCtorEq, Nat.reduceEqDiff, Nat.reduceAdd, Nat.reduceMul, Nat.reduceSub, Nat.reduceLeDiff, Nat.reduceBEq, Int.reduceToNat, Int.reduceLE, Int.reduceLT, Int.reduceEq, Int.reduceNe, di0, di1, di2, di3, di4, di5, di6, di7, di8, di9, postX_ret, postX_normal, ex_some])
          dsimp only
          rw [show md - 1 + 1 = md by omega]
          omega
      · rename_i hge
        have hlh : lo = hi := by omega
        subst hlh
        have hp0 : 0 ≤ y * lo := Int.mul_nonneg (by omega) i1
        repeat (refine And.intro (by omega) ?_)
        refine calls_of hwy ?_
        simp only [res128, b128k0, b128k1, b128k2, b128k3, b128k4, b128k5, b128k6, ↓reduceIte, reduceCtorEq, Nat.reduceEqDiff, Nat.reduceAdd, Nat.reduceMul, Nat.reduceSub, Nat.reduceLeDiff, Nat.reduceBEq, Int.reduceToNat, Int.reduceLE, Int.reduceLT, Int.reduceEq, Int.reduceNe, di0, di1, di2, di3, di4, di5, di6, di7, di8, di9, postX_ret, postX_normal, ex_some]
        refine calls_of (c_WideOf (by omega) (by omega)) ?_
        simp only [res128, b128k0, b128k1, b128k2, b128k3, b128k4, b128k5, b128k6, ↓reduceIte, reduceCtorEq, Nat.reduceEqDiff, Nat.reduceAdd, Nat.reduceMul, Nat.reduceSub, Nat.reduceLeDiff, Nat.reduceBEq, Int.reduceToNat, Int.reduceLE, Int.reduceLT, Int.reduceEq, Int.reduceNe, di0, di1, di2, di3, di4, di5, di6, di7, di8, di9, postX_ret, postX_normal, ex_some]
        refine calls_of (c_WideMul hfy (few_of 2 (by omega) (by omega))) ?_
        simp only [res128, b128k0, b128k1, b128k2, b128k3, b128k4, b128k5, b128k6, wide, ↓reduceIte, reduceCtorEq, Nat.reduceEqDiff, Nat.reduceAdd, Nat.reduceMul, Nat.reduceSub, Nat.reduceLeDiff, Nat.reduceBEq, Int.reduceToNat, Int.reduceLE, Int.reduceLT, Int.reduceEq, Int.reduceNe, di0, di1, di2, di3, di4, di5, di6, di7, di8, di9, postX_ret, postX_normal, ex_some]
        refine calls_of (c_subDigits (wf_digs _) (wf_digs _) (by omega) (by rw [val_digs, val_digs]; omega)) ?_
        simp only [res128, b128k0, b128k1, b128k2, b128k3, b128k4, b128k5, b128k6, ↓reduceIte, reduceCtorEq, Nat.reduceEqDiff, Nat.reduceAdd, Nat.reduceMul, Nat.reduceSub, Nat.reduceLeDiff, Nat.reduceBEq, Int.reduceToNat, Int.reduceLE, Int.reduceLT, Int.reduceEq, Int.reduceNe, di0, di1, di2, di3, di4, di5, di6, di7, di8, di9, postX_ret, postX_normal, ex_some]
        rw [wrap64 (n := (m : Int) - 1) (by omega) (by omega), val_digs, val_digs]
        have eT : ((T.toNat : Int) - (y * lo).natAbs).toNat = (T - y * lo).toNat := by congr 1; omega
        rw [eT, Nat.zero_add]
        have hy5 : y * (lo + 1) = y * lo + y := by grind
        refine ih (m, q.set m lo, (T - y * lo).toNat) _ _ (by dsimp only; omega) ⟨by dsimp only; omega, by simp [hq], hwq.set (by omega) (by omega), by dsimp only; omega, ?_⟩ (by simp only [↓reduceIte, reduceCtorEq, Nat.reduceEqDiff, Nat.reduceAdd, Nat.reduceMul, Nat.reduceSub, Nat.reduceLeDiff, Nat.reduceBEq, Int.reduceToNat, Int.reduceLE, Int.reduceLT, Int.reduceEq, Int.reduceNe, di0, di1, di2, di3, di4, di5, di6, di7, di8, di9, postX_ret, postX_normal, ex_some])
        dsimp only
        have hs1 : (q.set m lo).getD m 0 = lo := by
          rw [List.getD_eq_getElem?_getD, List.getElem?_set_self (by omega)]; rfl
        have hs2 : (q.set m lo).drop (m + 1) = q.drop (m + 1) := List.drop_set_of_lt (by omega)
        rw [hdm, val_drop (q.set m lo) m, hs1, hs2, hv]
        have hTz : ((T - y * lo).toNat : Int) = T - y * lo := Int.toNat_of_nonneg (by omega)
        rw [hTz, ← hTT]
        grind
end Go.DI

/- Contracts: the greatest common divisor of wide numbers; ratios. No condition. -/
set_option linter.unusedSimpArgs false
namespace Go.DI
open Go.Proofs Go.RowKit

/-- A fraction as the program has it. -/
def ratio (q : Rat) : IV := .agg [.int .i64 q.num.sign, .slc 1 ((digs q.num.natAbs).map (.int .i64)), .int .i64 (q.den : Int).sign, .slc 1 ((digs (q.den : Int).natAbs).map (.int .i64))]

theorem c_wideSize {z : Int} : Contract Try.prog 139 [wide z] (wide z.natAbs) := by
  have sz := sign_cases z
  refine contract_run Try.func139 k139 rfl ?_
  simp only [wide, body139, b139, res139, b139k0, ↓reduceIte, reduceCtorEq, Nat.reduceEqDiff, Nat.reduceAdd, Nat.reduceMul, Nat.reduceSub, Nat.reduceLeDiff, Nat.reduceBEq, Int.reduceToNat, Int.reduceLE, Int.reduceLT, Int.reduceEq, Int.reduceNe, di0, di1, di2, di3, di4, di5, di6, di7, di8, di9, postX_ret, postX_normal, ex_some]
  split
  · rename_i h
    refine calls_of c_WideNeg ?_
    have e : -z = (z.natAbs : Int) := by omega
    rw [e]
    simp only [wide, res139, b139k0, ↓reduceIte, reduceCtorEq, Nat.reduceEqDiff, Nat.reduceAdd, Nat.reduceMul, Nat.reduceSub, Nat.reduceLeDiff, Nat.reduceBEq, Int.reduceToNat, Int.reduceLE, Int.reduceLT, Int.reduceEq, Int.reduceNe, di0, di1, di2, di3, di4, di5, di6, di7, di8, di9, postX_ret, postX_normal, ex_some]
  · rename_i h
    have e : z = (z.natAbs : Int) := by omega
    generalize z.natAbs = n at *
    subst e
    rfl

theorem few_le {x y : Int} (h : x.natAbs ≤ y.natAbs) (hy : Few y) : Few x := Nat.le_trans (digs_mono h) hy

theorem c_wideGcd {x y : Int} (hx : Few x) (hy : Few y) : Contract Try.prog 133 [wide x, wide y] (wide (Int.gcd x y : Int)) := by
  refine contract_run Try.func133 k133 rfl ?_
  simp only [wide, body133, b133, res133, b133k0, b133k1, ↓reduceIte, reduceCtorEq, Nat.reduceEqDiff, Nat.reduceAdd, Nat.reduceMul, Nat.reduceSub, Nat.reduceLeDiff, Nat.reduceBEq, Int.reduceToNat, Int.reduceLE, Int.reduceLT, Int.reduceEq, Int.reduceNe, di0, di1, di2, di3, di4, di5, di6, di7, di8, di9, postX_ret, postX_normal, ex_some]
  refine calls_of c_wideSize ?_; simp only [wide, ratio, res133, b133k0, b133k1, ↓reduceIte, reduceCtorEq, Nat.reduceEqDiff, Nat.reduceAdd, Nat.reduceMul, Nat.reduceSub, Nat.reduceLeDiff, Nat.reduceBEq, Int.reduceToNat, Int.reduceLE, Int.reduceLT, Int.reduceEq, Int.reduceNe, di0, di1, di2, di3, di4, di5, di6, di7, di8, di9, postX_ret, postX_normal, ex_some]
  refine calls_of c_wideSize ?_; simp only [wide, ratio, res133, b133k0, b133k1, ↓reduceIte, reduceCtorEq, Nat.reduceEqDiff, Nat.reduceAdd, Nat.reduceMul, Nat.reduceSub, Nat.reduceLeDiff, Nat.reduceBEq, Int.reduceToNat, Int.reduceLE, Int.reduceLT, Int.reduceEq, Int.reduceNe, di0, di1, di2, di3, di4, di5, di6, di7, di8, di9, postX_ret, postX_normal, ex_some]
  refine loop_keep (α := Nat × Nat) rfl (fun s => s.2)
    (fun s => Few s.1 ∧ Few s.2 ∧ Nat.gcd s.1 s.2 = Int.gcd x y)
    (fun s => [(2, .ref 2 0), (3, .ref 3 0), (4, .ref 4 0)])
    (fun s => [(2, .box [.imm (.int .i64 (s.1 : Int).sign), .imm (.slc 1 ((digs (s.1 : Int).natAbs).map (.int .i64)))]), (3, .box [.imm (.int .i64 (s.2 : Int).sign), .imm (.slc 1 ((digs (s.2 : Int).natAbs).map (.int .i64)))]), (4, .box [.imm (.int .i64 0), .imm (.slc 1 [])])])
    (x.natAbs, y.natAbs) ⟨hx, hy, rfl⟩ (by simp only [↓reduceIte, reduceCtorEq, Nat.reduceEqDiff, Nat.reduceAdd, Nat.reduceMul, Nat.reduceSub, Nat.reduceLeDiff, Nat.reduceBEq, Int.reduceToNat, Int.reduceLE, Int.reduceLT, Int.reduceEq, Int.reduceNe, di0, di1, di2, di3, di4, di5, di6, di7, di8, di9, postX_ret, postX_normal, ex_some]) ?_
  rintro ⟨a, b⟩ ⟨ha, hb, hg⟩ ih
  dsimp only at ha hb hg
  have sb := sign_cases (b : Int)
  simp only [res133, b133k0, b133k1, ↓reduceIte, reduceCtorEq, Nat.reduceEqDiff, Nat.reduceAdd, Nat.reduceMul, Nat.reduceSub, Nat.reduceLeDiff, Nat.reduceBEq, Int.reduceToNat, Int.reduceLE, Int.reduceLT, Int.reduceEq, Int.reduceNe, di0, di1, di2, di3, di4, di5, di6, di7, di8, di9, postX_ret, postX_normal, ex_some]
  refine calls_of c_WideSign ?_; simp only [wide, ratio, res133, b133k0, b133k1, ↓reduceIte, reduceCtorEq, Nat.reduceEqDiff, Nat.reduceAdd, Nat.reduceMul, Nat.reduceSub, Nat.reduceLeDiff, Nat.reduceBEq, Int.reduceToNat, Int.reduceLE, Int.reduceLT, Int.reduceEq, Int.reduceNe, di0, di1, di2, di3, di4, di5, di6, di7, di8, di9, postX_ret, postX_normal, ex_some]
  split
  · rename_i h
    have hb0 : b = 0 := by omega
    subst hb0
    rw [← hg]
    simp
  · rename_i h
    have hb0 : 0 < (b : Int) := by omega
    have hd : ((a : Int) / b).natAbs ≤ (a : Int).natAbs := by
      have := Int.ediv_le_self (b : Int) (show 0 ≤ (a : Int) by omega)
      have := Int.ediv_nonneg (show 0 ≤ (a : Int) by omega) (show 0 ≤ (b : Int) by omega)
      omega
    have hd2 : (a : Int) / b * b ≤ a := Int.ediv_mul_le _ (by omega)
    have hd3 : 0 ≤ (a : Int) / b * b := Int.mul_nonneg (Int.ediv_nonneg (by omega) (by omega)) (by omega)
    refine calls_of (c_WideFloor ha hb hb0) ?_; simp only [wide, ratio, res133, b133k0, b133k1, ↓reduceIte, reduceCtorEq, Nat.reduceEqDiff, Nat.reduceAdd, Nat.reduceMul, Nat.reduceSub, Nat.reduceLeDiff, Nat.reduceBEq, Int.reduceToNat, Int.reduceLE, Int.reduceLT, Int.reduceEq, Int.reduceNe, di0, di1, di2, di3, di4, di5, di6, di7, di8, di9, postX_ret, postX_normal, ex_some]
    refine calls_of (c_WideMul (few_le hd ha) hb) ?_; simp only [wide, ratio, res133, b133k0, b133k1, ↓reduceIte, reduceCtorEq, Nat.reduceEqDiff, Nat.reduceAdd, Nat.reduceMul, Nat.reduceSub, Nat.reduceLeDiff, Nat.reduceBEq, Int.reduceToNat, Int.reduceLE, Int.reduceLT, Int.reduceEq, Int.reduceNe, di0, di1, di2, di3, di4, di5, di6, di7, di8, di9, postX_ret, postX_normal, ex_some]
    refine calls_of (c_WideSub ha (few_le (by omega) ha)) ?_; simp only [wide, ratio, res133, b133k0, b133k1, ↓reduceIte, reduceCtorEq, Nat.reduceEqDiff, Nat.reduceAdd, Nat.reduceMul, Nat.reduceSub, Nat.reduceLeDiff, Nat.reduceBEq, Int.reduceToNat, Int.reduceLE, Int.reduceLT, Int.reduceEq, Int.reduceNe, di0, di1, di2, di3, di4, di5, di6, di7, di8, di9, postX_ret, postX_normal, ex_some]
    have e : (a : Int) - a / b * b = ((a % b : Nat) : Int) := by
      have := Int.ediv_mul_add_emod (a : Int) b
      omega
    rw [e]
    have hlt : a % b < b := Nat.mod_lt _ (by omega)
    refine ih (b, a % b) _ _ hlt ⟨hb, few_le (by dsimp only; omega) hb, ?_⟩ (by simp only [↓reduceIte, reduceCtorEq, Nat.reduceEqDiff, Nat.reduceAdd, Nat.reduceMul, Nat.reduceSub, Nat.reduceLeDiff, Nat.reduceBEq, Int.reduceToNat, Int.reduceLE, Int.reduceLT, Int.reduceEq, Int.reduceNe, di0, di1, di2, di3, di4, di5, di6, di7, di8, di9, postX_ret, postX_normal, ex_some])
    dsimp only
    rw [← hg, Nat.gcd_comm, ← Nat.gcd_rec, Nat.gcd_comm]

theorem div_gcd (n d : Int) (h : d ≠ 0) : 0 < (Int.gcd n d : Int) := by
  have := Int.gcd_pos_of_ne_zero_right n h
  omega

/-- The parts of a quotient. -/
theorem divInt_parts {n d : Int} (h : 0 < d) : (Rat.divInt n d).num = n / (Int.gcd n d : Int) ∧ ((Rat.divInt n d).den : Int) = d / (Int.gcd n d : Int) := by
  rw [Rat.num_divInt, Rat.den_divInt, if_neg (by omega), Int.sign_eq_one_of_pos h, Int.one_mul, Int.gcd_comm d n]
  refine ⟨rfl, ?_⟩
  rw [Int.natCast_ediv]
  congr 1
  omega

theorem few_one : Few 1 := few_of 1 (by omega) (by decide)

theorem ediv_natAbs_le (n g : Int) (hg : 0 < g) (hd : g ∣ n) : (n / g).natAbs ≤ n.natAbs := by
  obtain ⟨k, rfl⟩ := hd
  rw [Int.mul_ediv_cancel_left _ (by omega), Int.natAbs_mul]
  exact Nat.le_mul_of_pos_left _ (by omega)

theorem c_RatioMake {n d : Int} (hn : Few n) (hd : Few d) (h0 : d ≠ 0) : Contract Try.prog 120 [wide n, wide d] (ratio (Rat.divInt n d)) := by
  have sd := sign_cases d
  have key : ∀ (n d : Int), Few n → Few d → 0 < d →
      run Try.prog b120k1 [] (d120.post (ratio (Rat.divInt n d))) (mkS [(2, .ref 2 0), (3, .ref 3 0), (4, .ref 4 0)]
      [(2, .box [.imm (.int .i64 n.sign), .imm (.slc 1 ((digs n.natAbs).map (.int .i64)))]), (3, .box [.imm (.int .i64 d.sign), .imm (.slc 1 ((digs d.natAbs).map (.int .i64)))]), (4, .box [.imm (.int .i64 0), .imm (.slc 1 []), .imm (.int .i64 0), .imm (.slc 1 [])])]) := by
    intro n d hn hd h0
    simp only [res120, b120k0, b120k1, ↓reduceIte, reduceCtorEq, Nat.reduceEqDiff, Nat.reduceAdd, Nat.reduceMul, Nat.reduceSub, Nat.reduceLeDiff, Nat.reduceBEq, Int.reduceToNat, Int.reduceLE, Int.reduceLT, Int.reduceEq, Int.reduceNe, di0, di1, di2, di3, di4, di5, di6, di7, di8, di9, postX_ret, postX_normal, ex_some]
    refine calls_of (c_wideGcd hn hd) ?_; simp only [wide, ratio, res120, b120k0, b120k1, ↓reduceIte, reduceCtorEq, Nat.reduceEqDiff, Nat.reduceAdd, Nat.reduceMul, Nat.reduceSub, Nat.reduceLeDiff, Nat.reduceBEq, Int.reduceToNat, Int.reduceLE, Int.reduceLT, Int.reduceEq, Int.reduceNe, di0, di1, di2, di3, di4, di5, di6, di7, di8, di9, postX_ret, postX_normal, ex_some]
    refine calls_of (c_WideOf (by omega) (by omega)) ?_; simp only [wide, ratio, res120, b120k0, b120k1, ↓reduceIte, reduceCtorEq, Nat.reduceEqDiff, Nat.reduceAdd, Nat.reduceMul, Nat.reduceSub, Nat.reduceLeDiff, Nat.reduceBEq, Int.reduceToNat, Int.reduceLE, Int.reduceLT, Int.reduceEq, Int.reduceNe, di0, di1, di2, di3, di4, di5, di6, di7, di8, di9, postX_ret, postX_normal, ex_some]
    have hg0 := div_gcd n d (by omega)
    have hgn : (Int.gcd n d : Int) ∣ n := Int.gcd_dvd_left n d
    have hgd : (Int.gcd n d : Int) ∣ d := Int.gcd_dvd_right n d
    obtain ⟨p1, p2⟩ := divInt_parts (n := n) h0
    rw [p1, p2]
    generalize (Int.gcd n d : Int) = g at *
    have hgf : Few g := few_le (by have := Int.le_of_dvd h0 hgd; omega) hd
    refine calls_of (c_WideCmp hgf few_one) ?_; simp only [wide, ratio, res120, b120k0, b120k1, ↓reduceIte, reduceCtorEq, Nat.reduceEqDiff, Nat.reduceAdd, Nat.reduceMul, Nat.reduceSub, Nat.reduceLeDiff, Nat.reduceBEq, Int.reduceToNat, Int.reduceLE, Int.reduceLT, Int.reduceEq, Int.reduceNe, di0, di1, di2, di3, di4, di5, di6, di7, di8, di9, postX_ret, postX_normal, ex_some]
    have sg := sign_cases (g - 1)
    split
    · rename_i h1
      have : g = 1 := by omega
      subst this
      simp only [Int.ediv_one]
    · rename_i h1
      refine calls_of (c_WideFloor hn hgf hg0) ?_; simp only [wide, ratio, res120, b120k0, b120k1, ↓reduceIte, reduceCtorEq, Nat.reduceEqDiff, Nat.reduceAdd, Nat.reduceMul, Nat.reduceSub, Nat.reduceLeDiff, Nat.reduceBEq, Int.reduceToNat, Int.reduceLE, Int.reduceLT, Int.reduceEq, Int.reduceNe, di0, di1, di2, di3, di4, di5, di6, di7, di8, di9, postX_ret, postX_normal, ex_some]
      refine calls_of (c_WideFloor hd hgf hg0) ?_; simp only [wide, ratio, res120, b120k0, b120k1, ↓reduceIte, reduceCtorEq, Nat.reduceEqDiff, Nat.reduceAdd, Nat.reduceMul, Nat.reduceSub, Nat.reduceLeDiff, Nat.reduceBEq, Int.reduceToNat, Int.reduceLE, Int.reduceLT, Int.reduceEq, Int.reduceNe, di0, di1, di2, di3, di4, di5, di6, di7, di8, di9, postX_ret, postX_normal, ex_some]
  refine contract_run Try.func120 k120 rfl ?_
  simp only [wide, body120, b120, res120, ↓reduceIte, reduceCtorEq, Nat.reduceEqDiff, Nat.reduceAdd, Nat.reduceMul, Nat.reduceSub, Nat.reduceLeDiff, Nat.reduceBEq, Int.reduceToNat, Int.reduceLE, Int.reduceLT, Int.reduceEq, Int.reduceNe, di0, di1, di2, di3, di4, di5, di6, di7, di8, di9, postX_ret, postX_normal, ex_some]
  refine calls_of c_WideSign ?_; simp only [wide, ratio, res120, ↓reduceIte, reduceCtorEq, Nat.reduceEqDiff, Nat.reduceAdd, Nat.reduceMul, Nat.reduceSub, Nat.reduceLeDiff, Nat.reduceBEq, Int.reduceToNat, Int.reduceLE, Int.reduceLT, Int.reduceEq, Int.reduceNe, di0, di1, di2, di3, di4, di5, di6, di7, di8, di9, postX_ret, postX_normal, ex_some]
  split
  · rename_i h
    refine calls_of c_WideNeg ?_; simp only [wide, ratio, res120, ↓reduceIte, reduceCtorEq, Nat.reduceEqDiff, Nat.reduceAdd, Nat.reduceMul, Nat.reduceSub, Nat.reduceLeDiff, Nat.reduceBEq, Int.reduceToNat, Int.reduceLE, Int.reduceLT, Int.reduceEq, Int.reduceNe, di0, di1, di2, di3, di4, di5, di6, di7, di8, di9, postX_ret, postX_normal, ex_some]
    refine calls_of c_WideNeg ?_; simp only [wide, ratio, res120, ↓reduceIte, reduceCtorEq, Nat.reduceEqDiff, Nat.reduceAdd, Nat.reduceMul, Nat.reduceSub, Nat.reduceLeDiff, Nat.reduceBEq, Int.reduceToNat, Int.reduceLE, Int.reduceLT, Int.reduceEq, Int.reduceNe, di0, di1, di2, di3, di4, di5, di6, di7, di8, di9, postX_ret, postX_normal, ex_some]
    have := key (-n) (-d) (few_neg hn) (few_neg hd) (by omega)
    rw [Rat.neg_divInt_neg] at this
    exact this
  · rename_i h
    exact key n d hn hd (by omega)

theorem c_RatioOf {n d : Int} (n1 : -9223372036854775807 ≤ n) (n2 : n ≤ 9223372036854775807) (d1 : -9223372036854775807 ≤ d) (d2 : d ≤ 9223372036854775807) (h0 : d ≠ 0) :
    Contract Try.prog 114 [.int .i64 n, .int .i64 d] (ratio (Rat.divInt n d)) := by
  refine contract_run Try.func114 k114 rfl ?_
  simp only [body114, b114, res114, ↓reduceIte, reduceCtorEq, Nat.reduceEqDiff, Nat.reduceAdd, Nat.reduceMul, Nat.reduceSub, Nat.reduceLeDiff, Nat.reduceBEq, Int.reduceToNat, Int.reduceLE, Int.reduceLT, Int.reduceEq, Int.reduceNe, di0, di1, di2, di3, di4, di5, di6, di7, di8, di9, postX_ret, postX_normal, ex_some]
  refine calls_of (c_WideOf n1 n2) ?_; simp only [res114, ↓reduceIte, reduceCtorEq, Nat.reduceEqDiff, Nat.reduceAdd, Nat.reduceMul, Nat.reduceSub, Nat.reduceLeDiff, Nat.reduceBEq, Int.reduceToNat, Int.reduceLE, Int.reduceLT, Int.reduceEq, Int.reduceNe, di0, di1, di2, di3, di4, di5, di6, di7, di8, di9, postX_ret, postX_normal, ex_some]
  refine calls_of (c_WideOf d1 d2) ?_; simp only [res114, ↓reduceIte, reduceCtorEq, Nat.reduceEqDiff, Nat.reduceAdd, Nat.reduceMul, Nat.reduceSub, Nat.reduceLeDiff, Nat.reduceBEq, Int.reduceToNat, Int.reduceLE, Int.reduceLT, Int.reduceEq, Int.reduceNe, di0, di1, di2, di3, di4, di5, di6, di7, di8, di9, postX_ret, postX_normal, ex_some]
  refine calls_of (c_RatioMake (few_of 3 (by omega) (by omega)) (few_of 3 (by omega) (by omega)) h0) ?_; simp only [wide, ratio, res114, ↓reduceIte, reduceCtorEq, Nat.reduceEqDiff, Nat.reduceAdd, Nat.reduceMul, Nat.reduceSub, Nat.reduceLeDiff, Nat.reduceBEq, Int.reduceToNat, Int.reduceLE, Int.reduceLT, Int.reduceEq, Int.reduceNe, di0, di1, di2, di3, di4, di5, di6, di7, di8, di9, postX_ret, postX_normal, ex_some]

theorem c_RatioInt {n : Int} (n1 : -9223372036854775807 ≤ n) (n2 : n ≤ 9223372036854775807) : Contract Try.prog 103 [.int .i64 n] (ratio (n : Rat)) := by
  refine contract_run Try.func103 k103 rfl ?_
  simp only [body103, b103, res103, ↓reduceIte, reduceCtorEq, Nat.reduceEqDiff, Nat.reduceAdd, Nat.reduceMul, Nat.reduceSub, Nat.reduceLeDiff, Nat.reduceBEq, Int.reduceToNat, Int.reduceLE, Int.reduceLT, Int.reduceEq, Int.reduceNe, di0, di1, di2, di3, di4, di5, di6, di7, di8, di9, postX_ret, postX_normal, ex_some]
  refine calls_of (c_WideOf n1 n2) ?_; simp only [wide, ratio, res103, ↓reduceIte, reduceCtorEq, Nat.reduceEqDiff, Nat.reduceAdd, Nat.reduceMul, Nat.reduceSub, Nat.reduceLeDiff, Nat.reduceBEq, Int.reduceToNat, Int.reduceLE, Int.reduceLT, Int.reduceEq, Int.reduceNe, di0, di1, di2, di3, di4, di5, di6, di7, di8, di9, postX_ret, postX_normal, ex_some]
  refine calls_of (c_WideOf (by omega) (by omega)) ?_; simp only [wide, ratio, res103, ↓reduceIte, reduceCtorEq, Nat.reduceEqDiff, Nat.reduceAdd, Nat.reduceMul, Nat.reduceSub, Nat.reduceLeDiff, Nat.reduceBEq, Int.reduceToNat, Int.reduceLE, Int.reduceLT, Int.reduceEq, Int.reduceNe, di0, di1, di2, di3, di4, di5, di6, di7, di8, di9, postX_ret, postX_normal, ex_some]
  rfl

/-- Have its parts few digits? -/
def Fw (k : Nat) (q : Rat) : Prop := q.num.natAbs < 1000000000 ^ k ∧ q.den < 1000000000 ^ k

theorem Fw.num {k : Nat} {q : Rat} (h : Fw k q) (hk : k ≤ 100000) : Few q.num := few_of k hk h.1
theorem Fw.den {k : Nat} {q : Rat} (h : Fw k q) (hk : k ≤ 100000) : Few (q.den : Int) := few_of k hk h.2
theorem Fw.le {k m : Nat} {q : Rat} (h : Fw k q) (hk : k ≤ m) : Fw m q := by
  have := Nat.pow_le_pow_right (show 1000000000 > 0 by omega) hk
  exact ⟨Nat.lt_of_lt_of_le h.1 this, Nat.lt_of_lt_of_le h.2 this⟩

theorem fw_divInt {k : Nat} {n d : Int} (h1 : n.natAbs < 1000000000 ^ k) (h2 : d.natAbs < 1000000000 ^ k) (h0 : d ≠ 0) : Fw k (Rat.divInt n d) := by
  have key : ∀ (n d : Int), n.natAbs < 1000000000 ^ k → d.natAbs < 1000000000 ^ k → 0 < d → Fw k (Rat.divInt n d) := by
    intro n d h1 h2 h0
    obtain ⟨p1, p2⟩ := divInt_parts (n := n) h0
    have hg0 := div_gcd n d (by omega)
    have a1 := ediv_natAbs_le n _ hg0 (Int.gcd_dvd_left n d)
    have a2 := ediv_natAbs_le d _ hg0 (Int.gcd_dvd_right n d)
    exact ⟨by rw [p1]; omega, by omega⟩
  rcases Int.lt_or_lt_of_ne h0 with h | h
  · have := key (-n) (-d) (by omega) (by omega) (by omega)
    rwa [Rat.neg_divInt_neg] at this
  · exact key n d h1 h2 h

theorem fw_int {k : Nat} {n : Int} (h1 : n.natAbs < 1000000000 ^ k) (hk : 0 < k) : Fw k (n : Rat) := by
  refine ⟨h1, ?_⟩
  rw [Rat.den_intCast]
  exact Nat.one_lt_pow (by omega) (by omega)

theorem pow_mul_lt {a b i j : Nat} (h1 : a < 1000000000 ^ i) (h2 : b < 1000000000 ^ j) : a * b < 1000000000 ^ (i + j) := by
  rw [Nat.pow_add]; exact Nat.mul_lt_mul'' h1 h2

theorem den_pos (q : Rat) : (0 : Int) < q.den := by have := q.den_pos; omega

theorem mul_parts (p q : Rat) : Rat.divInt (p.num * q.num) ((p.den : Int) * q.den) = p * q := by
  rw [Rat.mul_def', ← Rat.divInt_ofNat, Int.natCast_mul]
theorem add_parts (p q : Rat) : Rat.divInt (p.num * q.den + q.num * p.den) ((p.den : Int) * q.den) = p + q := by
  rw [Rat.add_def', ← Rat.divInt_ofNat, Int.natCast_mul]
theorem div_parts (p q : Rat) : Rat.divInt (p.num * q.den) ((p.den : Int) * q.num) = p / q := by
  rw [Rat.div_def, Rat.inv_def]
  conv => rhs; rw [← Rat.num_divInt_den p]
  rw [Rat.divInt_mul_divInt]

theorem few_mul {i j : Nat} {a b : Int} (h1 : a.natAbs < 1000000000 ^ i) (h2 : b.natAbs < 1000000000 ^ j) (h : i + j ≤ 100000) : Few (a * b) := by
  apply few_of (i + j) h
  rw [Int.natAbs_mul]
  exact pow_mul_lt h1 h2
theorem few_add {k : Nat} {a b : Int} (h1 : a.natAbs < 1000000000 ^ k) (h2 : b.natAbs < 1000000000 ^ k) (h : k + 1 ≤ 100000) : Few (a + b) := by
  apply few_of (k + 1) h
  rw [Nat.pow_succ]
  omega

theorem c_RatioMul {p q : Rat} {i j : Nat} (hp : Fw i p) (hq : Fw j q) (h : i + j ≤ 90000) : Contract Try.prog 102 [ratio p, ratio q] (ratio (p * q)) := by
  have dp := den_pos p
  have dq := den_pos q
  refine contract_run Try.func102 k102 rfl ?_
  simp only [ratio, body102, b102, res102, ↓reduceIte, reduceCtorEq, Nat.reduceEqDiff, Nat.reduceAdd, Nat.reduceMul, Nat.reduceSub, Nat.reduceLeDiff, Nat.reduceBEq, Int.reduceToNat, Int.reduceLE, Int.reduceLT, Int.reduceEq, Int.reduceNe, di0, di1, di2, di3, di4, di5, di6, di7, di8, di9, postX_ret, postX_normal, ex_some]
  refine calls_of (c_WideMul (hp.num (by omega)) (hq.num (by omega))) ?_; simp only [wide, ratio, res102, ↓reduceIte, reduceCtorEq, Nat.reduceEqDiff, Nat.reduceAdd, Nat.reduceMul, Nat.reduceSub, Nat.reduceLeDiff, Nat.reduceBEq, Int.reduceToNat, Int.reduceLE, Int.reduceLT, Int.reduceEq, Int.reduceNe, di0, di1, di2, di3, di4, di5, di6, di7, di8, di9, postX_ret, postX_normal, ex_some]
  refine calls_of (c_WideMul (hp.den (by omega)) (hq.den (by omega))) ?_; simp only [wide, ratio, res102, ↓reduceIte, reduceCtorEq, Nat.reduceEqDiff, Nat.reduceAdd, Nat.reduceMul, Nat.reduceSub, Nat.reduceLeDiff, Nat.reduceBEq, Int.reduceToNat, Int.reduceLE, Int.reduceLT, Int.reduceEq, Int.reduceNe, di0, di1, di2, di3, di4, di5, di6, di7, di8, di9, postX_ret, postX_normal, ex_some]
  refine calls_of (c_RatioMake (n := p.num * q.num) (d := (p.den : Int) * q.den) (few_mul hp.1 hq.1 (by omega)) (few_mul (a := (p.den : Int)) (b := (q.den : Int)) hp.2 hq.2 (by omega)) (Int.ne_of_gt (Int.mul_pos dp dq))) ?_; simp only [wide, ratio, res102, ↓reduceIte, reduceCtorEq, Nat.reduceEqDiff, Nat.reduceAdd, Nat.reduceMul, Nat.reduceSub, Nat.reduceLeDiff, Nat.reduceBEq, Int.reduceToNat, Int.reduceLE, Int.reduceLT, Int.reduceEq, Int.reduceNe, di0, di1, di2, di3, di4, di5, di6, di7, di8, di9, postX_ret, postX_normal, ex_some]
  rw [mul_parts]

theorem c_RatioDiv {p q : Rat} {i j : Nat} (hp : Fw i p) (hq : Fw j q) (h : i + j ≤ 90000) (h0 : q ≠ 0) : Contract Try.prog 101 [ratio p, ratio q] (ratio (p / q)) := by
  have dp := den_pos p
  have dq : q.num ≠ 0 := fun k => h0 (Rat.num_eq_zero.1 k)
  refine contract_run Try.func101 k101 rfl ?_
  simp only [ratio, body101, b101, res101, ↓reduceIte, reduceCtorEq, Nat.reduceEqDiff, Nat.reduceAdd, Nat.reduceMul, Nat.reduceSub, Nat.reduceLeDiff, Nat.reduceBEq, Int.reduceToNat, Int.reduceLE, Int.reduceLT, Int.reduceEq, Int.reduceNe, di0, di1, di2, di3, di4, di5, di6, di7, di8, di9, postX_ret, postX_normal, ex_some]
  refine calls_of (c_WideMul (hp.num (by omega)) (hq.den (by omega))) ?_; simp only [wide, ratio, res101, ↓reduceIte, reduceCtorEq, Nat.reduceEqDiff, Nat.reduceAdd, Nat.reduceMul, Nat.reduceSub, Nat.reduceLeDiff, Nat.reduceBEq, Int.reduceToNat, Int.reduceLE, Int.reduceLT, Int.reduceEq, Int.reduceNe, di0, di1, di2, di3, di4, di5, di6, di7, di8, di9, postX_ret, postX_normal, ex_some]
  refine calls_of (c_WideMul (hp.den (by omega)) (hq.num (by omega))) ?_; simp only [wide, ratio, res101, ↓reduceIte, reduceCtorEq, Nat.reduceEqDiff, Nat.reduceAdd, Nat.reduceMul, Nat.reduceSub, Nat.reduceLeDiff, Nat.reduceBEq, Int.reduceToNat, Int.reduceLE, Int.reduceLT, Int.reduceEq, Int.reduceNe, di0, di1, di2, di3, di4, di5, di6, di7, di8, di9, postX_ret, postX_normal, ex_some]
  refine calls_of (c_RatioMake (n := p.num * q.den) (d := (p.den : Int) * q.num) (few_mul (b := (q.den : Int)) hp.1 hq.2 (by omega)) (few_mul (a := (p.den : Int)) hp.2 hq.1 (by omega)) (Int.mul_ne_zero (by omega) dq)) ?_; simp only [wide, ratio, res101, ↓reduceIte, reduceCtorEq, Nat.reduceEqDiff, Nat.reduceAdd, Nat.reduceMul, Nat.reduceSub, Nat.reduceLeDiff, Nat.reduceBEq, Int.reduceToNat, Int.reduceLE, Int.reduceLT, Int.reduceEq, Int.reduceNe, di0, di1, di2, di3, di4, di5, di6, di7, di8, di9, postX_ret, postX_normal, ex_some]
  rw [div_parts]

theorem c_RatioAdd {p q : Rat} {i j : Nat} (hp : Fw i p) (hq : Fw j q) (h : i + j ≤ 90000) : Contract Try.prog 118 [ratio p, ratio q] (ratio (p + q)) := by
  have dp := den_pos p
  have dq := den_pos q
  have k1 : (p.num * q.den).natAbs < 1000000000 ^ (i + j) := by rw [Int.natAbs_mul]; exact pow_mul_lt hp.1 hq.2
  have k2 : (q.num * p.den).natAbs < 1000000000 ^ (i + j) := by rw [Int.natAbs_mul, Nat.add_comm i j]; exact pow_mul_lt hq.1 hp.2
  refine contract_run Try.func118 k118 rfl ?_
  simp only [ratio, body118, b118, res118, ↓reduceIte, reduceCtorEq, Nat.reduceEqDiff, Nat.reduceAdd, Nat.reduceMul, Nat.reduceSub, Nat.reduceLeDiff, Nat.reduceBEq, Int.reduceToNat, Int.reduceLE, Int.reduceLT, Int.reduceEq, Int.reduceNe, di0, di1, di2, di3, di4, di5, di6, di7, di8, di9, postX_ret, postX_normal, ex_some]
  refine calls_of (c_WideMul (hp.num (by omega)) (hq.den (by omega))) ?_; simp only [wide, ratio, res118, ↓reduceIte, reduceCtorEq, Nat.reduceEqDiff, Nat.reduceAdd, Nat.reduceMul, Nat.reduceSub, Nat.reduceLeDiff, Nat.reduceBEq, Int.reduceToNat, Int.reduceLE, Int.reduceLT, Int.reduceEq, Int.reduceNe, di0, di1, di2, di3, di4, di5, di6, di7, di8, di9, postX_ret, postX_normal, ex_some]
  refine calls_of (c_WideMul (hq.num (by omega)) (hp.den (by omega))) ?_; simp only [wide, ratio, res118, ↓reduceIte, reduceCtorEq, Nat.reduceEqDiff, Nat.reduceAdd, Nat.reduceMul, Nat.reduceSub, Nat.reduceLeDiff, Nat.reduceBEq, Int.reduceToNat, Int.reduceLE, Int.reduceLT, Int.reduceEq, Int.reduceNe, di0, di1, di2, di3, di4, di5, di6, di7, di8, di9, postX_ret, postX_normal, ex_some]
  refine calls_of (c_WideAdd (few_of _ (by omega) k1) (few_of _ (by omega) k2)) ?_; simp only [wide, ratio, res118, ↓reduceIte, reduceCtorEq, Nat.reduceEqDiff, Nat.reduceAdd, Nat.reduceMul, Nat.reduceSub, Nat.reduceLeDiff, Nat.reduceBEq, Int.reduceToNat, Int.reduceLE, Int.reduceLT, Int.reduceEq, Int.reduceNe, di0, di1, di2, di3, di4, di5, di6, di7, di8, di9, postX_ret, postX_normal, ex_some]
  refine calls_of (c_WideMul (hp.den (by omega)) (hq.den (by omega))) ?_; simp only [wide, ratio, res118, ↓reduceIte, reduceCtorEq, Nat.reduceEqDiff, Nat.reduceAdd, Nat.reduceMul, Nat.reduceSub, Nat.reduceLeDiff, Nat.reduceBEq, Int.reduceToNat, Int.reduceLE, Int.reduceLT, Int.reduceEq, Int.reduceNe, di0, di1, di2, di3, di4, di5, di6, di7, di8, di9, postX_ret, postX_normal, ex_some]
  refine calls_of (c_RatioMake (n := p.num * q.den + q.num * p.den) (d := (p.den : Int) * q.den) (few_add k1 k2 (by omega)) (few_mul (a := (p.den : Int)) (b := (q.den : Int)) hp.2 hq.2 (by omega)) (Int.ne_of_gt (Int.mul_pos dp dq))) ?_; simp only [wide, ratio, res118, ↓reduceIte, reduceCtorEq, Nat.reduceEqDiff, Nat.reduceAdd, Nat.reduceMul, Nat.reduceSub, Nat.reduceLeDiff, Nat.reduceBEq, Int.reduceToNat, Int.reduceLE, Int.reduceLT, Int.reduceEq, Int.reduceNe, di0, di1, di2, di3, di4, di5, di6, di7, di8, di9, postX_ret, postX_normal, ex_some]
  rw [add_parts]

/-- -1, 0 or 1. -/
def cmpR (p q : Rat) : Int := (p.num * q.den - q.num * p.den).sign
theorem cmpR_neg {p q : Rat} : cmpR p q < 0 ↔ p < q := by
  unfold cmpR
  rw [Rat.lt_iff]
  have := sign_cases (p.num * q.den - q.num * p.den)
  omega
theorem cmpR_pos {p q : Rat} : 0 < cmpR p q ↔ q < p := by
  unfold cmpR
  rw [Rat.lt_iff]
  have := sign_cases (p.num * q.den - q.num * p.den)
  omega

theorem c_RatioCmp {p q : Rat} {i j : Nat} (hp : Fw i p) (hq : Fw j q) (h : i + j ≤ 90000) : Contract Try.prog 85 [ratio p, ratio q] (.int .i64 (cmpR p q)) := by
  have k1 : (p.num * q.den).natAbs < 1000000000 ^ (i + j) := by rw [Int.natAbs_mul]; exact pow_mul_lt hp.1 hq.2
  have k2 : (q.num * p.den).natAbs < 1000000000 ^ (i + j) := by rw [Int.natAbs_mul, Nat.add_comm i j]; exact pow_mul_lt hq.1 hp.2
  refine contract_run Try.func85 k85 rfl ?_
  simp only [ratio, body85, b85, res85, ↓reduceIte, reduceCtorEq, Nat.reduceEqDiff, Nat.reduceAdd, Nat.reduceMul, Nat.reduceSub, Nat.reduceLeDiff, Nat.reduceBEq, Int.reduceToNat, Int.reduceLE, Int.reduceLT, Int.reduceEq, Int.reduceNe, di0, di1, di2, di3, di4, di5, di6, di7, di8, di9, postX_ret, postX_normal, ex_some]
  refine calls_of (c_WideMul (hp.num (by omega)) (hq.den (by omega))) ?_; simp only [wide, ratio, res85, ↓reduceIte, reduceCtorEq, Nat.reduceEqDiff, Nat.reduceAdd, Nat.reduceMul, Nat.reduceSub, Nat.reduceLeDiff, Nat.reduceBEq, Int.reduceToNat, Int.reduceLE, Int.reduceLT, Int.reduceEq, Int.reduceNe, di0, di1, di2, di3, di4, di5, di6, di7, di8, di9, postX_ret, postX_normal, ex_some]
  refine calls_of (c_WideMul (hq.num (by omega)) (hp.den (by omega))) ?_; simp only [wide, ratio, res85, ↓reduceIte, reduceCtorEq, Nat.reduceEqDiff, Nat.reduceAdd, Nat.reduceMul, Nat.reduceSub, Nat.reduceLeDiff, Nat.reduceBEq, Int.reduceToNat, Int.reduceLE, Int.reduceLT, Int.reduceEq, Int.reduceNe, di0, di1, di2, di3, di4, di5, di6, di7, di8, di9, postX_ret, postX_normal, ex_some]
  refine calls_of (c_WideCmp (few_of _ (by omega) k1) (few_of _ (by omega) k2)) ?_; simp only [wide, ratio, res85, ↓reduceIte, reduceCtorEq, Nat.reduceEqDiff, Nat.reduceAdd, Nat.reduceMul, Nat.reduceSub, Nat.reduceLeDiff, Nat.reduceBEq, Int.reduceToNat, Int.reduceLE, Int.reduceLT, Int.reduceEq, Int.reduceNe, di0, di1, di2, di3, di4, di5, di6, di7, di8, di9, postX_ret, postX_normal, ex_some]
  rfl

theorem c_RatioFloor {p : Rat} {i : Nat} (hp : Fw i p) (h : i ≤ 90000) : Contract Try.prog 116 [ratio p] (wide p.floor) := by
  have dp := den_pos p
  refine contract_run Try.func116 k116 rfl ?_
  simp only [ratio, body116, b116, res116, ↓reduceIte, reduceCtorEq, Nat.reduceEqDiff, Nat.reduceAdd, Nat.reduceMul, Nat.reduceSub, Nat.reduceLeDiff, Nat.reduceBEq, Int.reduceToNat, Int.reduceLE, Int.reduceLT, Int.reduceEq, Int.reduceNe, di0, di1, di2, di3, di4, di5, di6, di7, di8, di9, postX_ret, postX_normal, ex_some]
  refine calls_of (c_WideFloor (hp.num (by omega)) (hp.den (by omega)) dp) ?_; simp only [wide, ratio, res116, ↓reduceIte, reduceCtorEq, Nat.reduceEqDiff, Nat.reduceAdd, Nat.reduceMul, Nat.reduceSub, Nat.reduceLeDiff, Nat.reduceBEq, Int.reduceToNat, Int.reduceLE, Int.reduceLT, Int.reduceEq, Int.reduceNe, di0, di1, di2, di3, di4, di5, di6, di7, di8, di9, postX_ret, postX_normal, ex_some]
  rw [Rat.floor_def]

theorem c_RatioCeil {p : Rat} {i : Nat} (hp : Fw i p) (h : i ≤ 90000) : Contract Try.prog 117 [ratio p] (wide p.ceil) := by
  have dp := den_pos p
  refine contract_run Try.func117 k117 rfl ?_
  simp only [ratio, body117, b117, res117, ↓reduceIte, reduceCtorEq, Nat.reduceEqDiff, Nat.reduceAdd, Nat.reduceMul, Nat.reduceSub, Nat.reduceLeDiff, Nat.reduceBEq, Int.reduceToNat, Int.reduceLE, Int.reduceLT, Int.reduceEq, Int.reduceNe, di0, di1, di2, di3, di4, di5, di6, di7, di8, di9, postX_ret, postX_normal, ex_some]
  refine calls_of c_WideNeg ?_; simp only [wide, ratio, res117, ↓reduceIte, reduceCtorEq, Nat.reduceEqDiff, Nat.reduceAdd, Nat.reduceMul, Nat.reduceSub, Nat.reduceLeDiff, Nat.reduceBEq, Int.reduceToNat, Int.reduceLE, Int.reduceLT, Int.reduceEq, Int.reduceNe, di0, di1, di2, di3, di4, di5, di6, di7, di8, di9, postX_ret, postX_normal, ex_some]
  refine calls_of (c_WideFloor (few_neg (hp.num (by omega))) (hp.den (by omega)) dp) ?_; simp only [wide, ratio, res117, ↓reduceIte, reduceCtorEq, Nat.reduceEqDiff, Nat.reduceAdd, Nat.reduceMul, Nat.reduceSub, Nat.reduceLeDiff, Nat.reduceBEq, Int.reduceToNat, Int.reduceLE, Int.reduceLT, Int.reduceEq, Int.reduceNe, di0, di1, di2, di3, di4, di5, di6, di7, di8, di9, postX_ret, postX_normal, ex_some]
  refine calls_of c_WideNeg ?_; simp only [wide, ratio, res117, ↓reduceIte, reduceCtorEq, Nat.reduceEqDiff, Nat.reduceAdd, Nat.reduceMul, Nat.reduceSub, Nat.reduceLeDiff, Nat.reduceBEq, Int.reduceToNat, Int.reduceLE, Int.reduceLT, Int.reduceEq, Int.reduceNe, di0, di1, di2, di3, di4, di5, di6, di7, di8, di9, postX_ret, postX_normal, ex_some]
  rw [Rat.ceil_eq_neg_floor_neg, Rat.floor_def]
  rfl

theorem c_WideInt {z : Int} (h : z.natAbs < 1000000000000000000) : Contract Try.prog 115 [wide z] (.tup [.int .i64 z, .bool true]) := by
  have sz := sign_cases z
  have vz := val_digs z.natAbs
  have wz := wf_digs z.natAbs
  have lz := digs_length_le 2 z.natAbs (by omega)
  refine contract_run Try.func115 k115 rfl ?_
  simp only [wide, body115, b115, res115, b115k0, b115k1, b115k2, ↓reduceIte, reduceCtorEq, Nat.reduceEqDiff, Nat.reduceAdd, Nat.reduceMul, Nat.reduceSub, Nat.reduceLeDiff, Nat.reduceBEq, Int.reduceToNat, Int.reduceLE, Int.reduceLT, Int.reduceEq, Int.reduceNe, di0, di1, di2, di3, di4, di5, di6, di7, di8, di9, postX_ret, postX_normal, ex_some]
  generalize digs z.natAbs = l at *
  have hlen : ¬ 2 < (l.length : Int) := by omega
  rw [if_neg hlen, wrap64 (n := (l.length : Int) - 1) (by omega) (by omega)]
  have hmono : ∀ i, val (l.drop i) ≤ val l := by
    intro i
    have e := val_append (l.take i) (l.drop i)
    rw [List.take_append_drop] at e
    have h1 := val_nonneg (wz.take i)
    have h2 : 0 ≤ val (l.drop i) := val_nonneg (fun x hx => wz x (List.mem_of_mem_drop hx))
    have h3 : val (l.drop i) * 1 ≤ val (l.drop i) * 1000000000 ^ (l.take i).length := Int.mul_le_mul_of_nonneg_left (by have : (0 : Int) < 1000000000 ^ (l.take i).length := Int.pow_pos (by omega); omega) h2
    rw [Int.mul_comm (val (l.drop i)) (1000000000 ^ _)] at h3
    omega
  refine loop_keep (α := Nat) rfl (fun i => i) (fun i => i ≤ l.length)
    (fun i => [(1, .ref 1 0), (4, .imm (.int .i64 (val (l.drop i)))), (5, .imm (.int .i64 ((i : Int) - 1)))])
    (fun _ => [(1, .box [.imm (.int .i64 z.sign), .imm (.slc 1 (l.map (.int .i64)))])]) l.length (Nat.le_refl _) (by simp only [↓reduceIte, reduceCtorEq, Nat.reduceEqDiff, Nat.reduceAdd, Nat.reduceMul, Nat.reduceSub, Nat.reduceLeDiff, Nat.reduceBEq, Int.reduceToNat, Int.reduceLE, Int.reduceLT, Int.reduceEq, Int.reduceNe, di0, di1, di2, di3, di4, di5, di6, di7, di8, di9, postX_ret, postX_normal, ex_some, List.drop_length, val]) ?_
  intro i hi ih
  cases i with
  | zero =>
    simp only [res115, b115k0, b115k1, b115k2, ↓reduceIte, reduceCtorEq, Nat.reduceEqDiff, Nat.reduceAdd, Nat.reduceMul, Nat.reduceSub, Nat.reduceLeDiff, Nat.reduceBEq, Int.reduceToNat, Int.reduceLE, Int.reduceLT, Int.reduceEq, Int.reduceNe, di0, di1, di2, di3, di4, di5, di6, di7, di8, di9, postX_ret, postX_normal, ex_some]
    rw [if_neg (by omega), vz]
    have e : z.sign * (z.natAbs : Int) = z := by
      rcases sz with k | k | k
      · rw [k.1]; omega
      · rw [k.1]; omega
      · rw [k.1]; omega
    rw [e, wrap64 (by omega) (by omega)]
  | succ i =>
    have e1 : ((i + 1 : Nat) : Int) - 1 = i := by omega
    have hg := wz.getD i
    have hd := val_drop l i
    have hm := hmono i
    have h0 : 0 ≤ val (l.drop (i + 1)) := val_nonneg (fun x hx => wz x (List.mem_of_mem_drop hx))
    simp only [res115, b115k0, b115k1, b115k2, ↓reduceIte, reduceCtorEq, Nat.reduceEqDiff, Nat.reduceAdd, Nat.reduceMul, Nat.reduceSub, Nat.reduceLeDiff, Nat.reduceBEq, Int.reduceToNat, Int.reduceLE, Int.reduceLT, Int.reduceEq, Int.reduceNe, di0, di1, di2, di3, di4, di5, di6, di7, di8, di9, postX_ret, postX_normal, ex_some, e1]
    repeat (refine And.intro (by omega) ?_)
    rw [wrap64 (n := val (l.drop (i + 1)) * 1000000000) (by omega) (by omega), wrap64 (n := val (l.drop (i + 1)) * 1000000000 + l.getD i 0) (by omega) (by omega), wrap64 (n := (i : Int) - 1) (by omega) (by omega)]
    refine ih i _ _ (by omega) (by omega) ?_
    rw [hd, Int.add_comm, Int.mul_comm]
    simp only [↓reduceIte, reduceCtorEq, Nat.reduceEqDiff, Nat.reduceAdd, Nat.reduceMul, Nat.reduceSub, Nat.reduceLeDiff, Nat.reduceBEq, Int.reduceToNat, Int.reduceLE, Int.reduceLT, Int.reduceEq, Int.reduceNe, di0, di1, di2, di3, di4, di5, di6, di7, di8, di9, postX_ret, postX_normal, ex_some]
end Go.DI

/- Contracts: whole numbers: divisors, fractions, slices. No condition. -/
set_option linter.unusedSimpArgs false
namespace Go.DI
open Go.Proofs Go.RowKit

theorem c_Gcd {a b : Int} (a1 : -9223372036854775807 ≤ a) (a2 : a ≤ 9223372036854775807) (b1 : -9223372036854775807 ≤ b) (b2 : b ≤ 9223372036854775807) :
    Contract Try.prog 119 [.int .i64 a, .int .i64 b] (.int .i64 (Int.gcd a b)) := by
  refine contract_run Try.func119 k119 rfl ?_
  simp only [body119, b119, res119, b119k0, b119k1, ↓reduceIte, reduceCtorEq, Nat.reduceEqDiff, Nat.reduceAdd, Nat.reduceMul, Nat.reduceSub, Nat.reduceLeDiff, Nat.reduceBEq, Int.reduceToNat, Int.reduceLE, Int.reduceLT, Int.reduceEq, Int.reduceNe, di0, di1, di2, di3, di4, di5, di6, di7, di8, di9, postX_ret, postX_normal, ex_some]
  refine loop_keep (α := Int × Int) rfl (fun s => s.2.natAbs)
    (fun s => s.1.natAbs ≤ 9223372036854775807 ∧ s.2.natAbs ≤ 9223372036854775807 ∧ Int.gcd s.1 s.2 = Int.gcd a b)
    (fun s => [(0, .imm (.int .i64 s.1)), (1, .imm (.int .i64 s.2))]) (fun _ => []) (a, b) ⟨by dsimp only; omega, by dsimp only; omega, rfl⟩ (by simp only [↓reduceIte, reduceCtorEq, Nat.reduceEqDiff, Nat.reduceAdd, Nat.reduceMul, Nat.reduceSub, Nat.reduceLeDiff, Nat.reduceBEq, Int.reduceToNat, Int.reduceLE, Int.reduceLT, Int.reduceEq, Int.reduceNe, di0, di1, di2, di3, di4, di5, di6, di7, di8, di9, postX_ret, postX_normal, ex_some]) ?_
  rintro ⟨x, y⟩ ⟨hx, hy, hg⟩ ih
  dsimp only at hx hy hg
  simp only [res119, b119k0, b119k1, ↓reduceIte, reduceCtorEq, Nat.reduceEqDiff, Nat.reduceAdd, Nat.reduceMul, Nat.reduceSub, Nat.reduceLeDiff, Nat.reduceBEq, Int.reduceToNat, Int.reduceLE, Int.reduceLT, Int.reduceEq, Int.reduceNe, di0, di1, di2, di3, di4, di5, di6, di7, di8, di9, postX_ret, postX_normal, ex_some]
  split
  · rename_i h
    subst h
    refine calls_of (c_Size (by omega) (by omega)) ?_; simp only [res119, b119k0, b119k1, ↓reduceIte, reduceCtorEq, Nat.reduceEqDiff, Nat.reduceAdd, Nat.reduceMul, Nat.reduceSub, Nat.reduceLeDiff, Nat.reduceBEq, Int.reduceToNat, Int.reduceLE, Int.reduceLT, Int.reduceEq, Int.reduceNe, di0, di1, di2, di3, di4, di5, di6, di7, di8, di9, postX_ret, postX_normal, ex_some]
    rw [← hg, Int.gcd_zero_right]
  · rename_i h
    have hm : (x.tmod y).natAbs = x.natAbs % y.natAbs := Int.natAbs_tmod x y
    have hlt : x.natAbs % y.natAbs < y.natAbs := Nat.mod_lt _ (by omega)
    refine ⟨h, ih (y, x.tmod y) _ _ (by dsimp only; omega) ⟨hy, by dsimp only; omega, ?_⟩ (by simp only [↓reduceIte, reduceCtorEq, Nat.reduceEqDiff, Nat.reduceAdd, Nat.reduceMul, Nat.reduceSub, Nat.reduceLeDiff, Nat.reduceBEq, Int.reduceToNat, Int.reduceLE, Int.reduceLT, Int.reduceEq, Int.reduceNe, di0, di1, di2, di3, di4, di5, di6, di7, di8, di9, postX_ret, postX_normal, ex_some])⟩
    dsimp only
    rw [← hg]
    unfold Int.gcd
    rw [hm, Nat.gcd_comm, ← Nat.gcd_rec, Nat.gcd_comm]

theorem c_Lowest {n d : Int} (n1 : -9223372036854775807 ≤ n) (n2 : n ≤ 9223372036854775807) (d1 : 0 < d) (d2 : d ≤ 9223372036854775807) :
    Contract Try.prog 91 [.int .i64 n, .int .i64 d] (.agg [.int .i64 (n / (Int.gcd n d : Int)), .int .i64 (d / (Int.gcd n d : Int))]) := by
  refine contract_run Try.func91 k91 rfl ?_
  simp only [body91, b91, res91, b91k0, ↓reduceIte, reduceCtorEq, Nat.reduceEqDiff, Nat.reduceAdd, Nat.reduceMul, Nat.reduceSub, Nat.reduceLeDiff, Nat.reduceBEq, Int.reduceToNat, Int.reduceLE, Int.reduceLT, Int.reduceEq, Int.reduceNe, di0, di1, di2, di3, di4, di5, di6, di7, di8, di9, postX_ret, postX_normal, ex_some]
  refine calls_of (c_Gcd (by omega) (by omega) (by omega) (by omega)) ?_; simp only [res91, b91k0, ↓reduceIte, reduceCtorEq, Nat.reduceEqDiff, Nat.reduceAdd, Nat.reduceMul, Nat.reduceSub, Nat.reduceLeDiff, Nat.reduceBEq, Int.reduceToNat, Int.reduceLE, Int.reduceLT, Int.reduceEq, Int.reduceNe, di0, di1, di2, di3, di4, di5, di6, di7, di8, di9, postX_ret, postX_normal, ex_some]
  have hg0 := div_gcd n d (by omega)
  have hgn : (Int.gcd n d : Int) ∣ n := Int.gcd_dvd_left n d
  have hgd : (Int.gcd n d : Int) ∣ d := Int.gcd_dvd_right n d
  rw [if_neg (by omega)]
  generalize (Int.gcd n d : Int) = g at *
  have a1 := ediv_natAbs_le n g hg0 hgn
  have a2 := ediv_natAbs_le d g hg0 hgd
  have e1 : n.tdiv g = n / g := Int.tdiv_eq_ediv_of_dvd hgn
  have e2 : d.tdiv g = d / g := Int.tdiv_eq_ediv_of_dvd hgd
  rw [e1, e2, wrap64 (by omega) (by omega), wrap64 (by omega) (by omega)]
  repeat (refine And.intro (by omega) ?_)
  first | rfl | trace_state

theorem c_IsLowest {n d : Int} (n1 : -9223372036854775807 ≤ n) (n2 : n ≤ 9223372036854775807) (d1 : -9223372036854775807 ≤ d) (d2 : d ≤ 9223372036854775807) :
    Contract Try.prog 92 [.agg [.int .i64 n, .int .i64 d]] (.bool (decide (0 < d ∧ (Int.gcd n d : Int) = 1))) := by
  refine contract_run Try.func92 k92 rfl ?_
  simp only [body92, b92, res92, ↓reduceIte, reduceCtorEq, Nat.reduceEqDiff, Nat.reduceAdd, Nat.reduceMul, Nat.reduceSub, Nat.reduceLeDiff, Nat.reduceBEq, Int.reduceToNat, Int.reduceLE, Int.reduceLT, Int.reduceEq, Int.reduceNe, di0, di1, di2, di3, di4, di5, di6, di7, di8, di9, postX_ret, postX_normal, ex_some]
  split
  · rename_i h
    refine calls_of (c_Gcd (by omega) (by omega) (by omega) (by omega)) ?_; simp only [res92, ↓reduceIte, reduceCtorEq, Nat.reduceEqDiff, Nat.reduceAdd, Nat.reduceMul, Nat.reduceSub, Nat.reduceLeDiff, Nat.reduceBEq, Int.reduceToNat, Int.reduceLE, Int.reduceLT, Int.reduceEq, Int.reduceNe, di0, di1, di2, di3, di4, di5, di6, di7, di8, di9, postX_ret, postX_normal, ex_some]
    simp [h]
  · rename_i h
    simp [h]

theorem c_IsSmall {n d : Int} : Contract Try.prog 93 [.agg [.int .i64 n, .int .i64 d]] (.bool (decide ((-1000000000 ≤ n ∧ n ≤ 1000000000) ∧ (1 ≤ d ∧ d ≤ 1000000000)))) := by
  refine contract_run Try.func93 k93 rfl ?_
  simp only [body93, b93, res93, ↓reduceIte, reduceCtorEq, Nat.reduceEqDiff, Nat.reduceAdd, Nat.reduceMul, Nat.reduceSub, Nat.reduceLeDiff, Nat.reduceBEq, Int.reduceToNat, Int.reduceLE, Int.reduceLT, Int.reduceEq, Int.reduceNe, di0, di1, di2, di3, di4, di5, di6, di7, di8, di9, postX_ret, postX_normal, ex_some]
  refine calls_of c_Within ?_; simp only [res93, ↓reduceIte, reduceCtorEq, Nat.reduceEqDiff, Nat.reduceAdd, Nat.reduceMul, Nat.reduceSub, Nat.reduceLeDiff, Nat.reduceBEq, Int.reduceToNat, Int.reduceLE, Int.reduceLT, Int.reduceEq, Int.reduceNe, di0, di1, di2, di3, di4, di5, di6, di7, di8, di9, postX_ret, postX_normal, ex_some]
  split
  · rename_i h
    refine calls_of c_Within ?_; simp only [res93, ↓reduceIte, reduceCtorEq, Nat.reduceEqDiff, Nat.reduceAdd, Nat.reduceMul, Nat.reduceSub, Nat.reduceLeDiff, Nat.reduceBEq, Int.reduceToNat, Int.reduceLE, Int.reduceLT, Int.reduceEq, Int.reduceNe, di0, di1, di2, di3, di4, di5, di6, di7, di8, di9, postX_ret, postX_normal, ex_some]
    simp [h]
  · rename_i h
    simp [h]

theorem c_Cmp {a b c d : Int} (h1 : -3000000000000000000 ≤ a * d) (h2 : a * d ≤ 3000000000000000000) (h3 : -3000000000000000000 ≤ c * b) (h4 : c * b ≤ 3000000000000000000) :
    Contract Try.prog 49 [.agg [.int .i64 a, .int .i64 b], .agg [.int .i64 c, .int .i64 d]] (.int .i64 (a * d - c * b).sign) := by
  have sg := sign_cases (a * d - c * b)
  refine contract_run Try.func49 k49 rfl ?_
  simp only [body49, b49, res49, b49k0, b49k1, ↓reduceIte, reduceCtorEq, Nat.reduceEqDiff, Nat.reduceAdd, Nat.reduceMul, Nat.reduceSub, Nat.reduceLeDiff, Nat.reduceBEq, Int.reduceToNat, Int.reduceLE, Int.reduceLT, Int.reduceEq, Int.reduceNe, di0, di1, di2, di3, di4, di5, di6, di7, di8, di9, postX_ret, postX_normal, ex_some]
  rw [wrap64 (n := a * d) (by omega) (by omega), wrap64 (n := c * b) (by omega) (by omega)]
  split
  · rename_i h
    rw [show (a * d - c * b).sign = -1 by omega]
  · rename_i h
    split
    · rename_i h2
      rw [show (a * d - c * b).sign = 1 by omega]
    · rename_i h2
      rw [show (a * d - c * b).sign = 0 by omega]

theorem eq_of_getD {α : Type} (d : α) : ∀ {a b : List α}, a.length = b.length → (∀ i, i < a.length → a.getD i d = b.getD i d) → a = b
  | [], [], _, _ => rfl
  | [], _ :: _, h, _ => by cases h
  | _ :: _, [], h, _ => by cases h
  | x :: a, y :: b, h, k => by
    have h0 : x = y := by simpa using k 0 (by simp)
    rw [h0, eq_of_getD d (a := a) (b := b) (by simpa using h) (fun i hi => by have := k (i + 1) (by simpa using hi); simpa using this)]

theorem c_Ints {a b : List Int} (ha : a.length ≤ 1000000000000) : Contract Try.prog 35 [.slc 1 (a.map (.int .i64)), .slc 1 (b.map (.int .i64))] (.bool (decide (a = b))) := by
  refine contract_run Try.func35 k35 rfl ?_
  simp only [body35, b35, res35, b35k0, b35k1, b35k2, b35k3, ↓reduceIte, reduceCtorEq, Nat.reduceEqDiff, Nat.reduceAdd, Nat.reduceMul, Nat.reduceSub, Nat.reduceLeDiff, Nat.reduceBEq, Int.reduceToNat, Int.reduceLE, Int.reduceLT, Int.reduceEq, Int.reduceNe, di0, di1, di2, di3, di4, di5, di6, di7, di8, di9, postX_ret, postX_normal, ex_some]
  split
  · rename_i hl
    have hl : a.length = b.length := by omega
    refine loop_keep (α := Nat) rfl (fun i => a.length - i) (fun i => i ≤ a.length ∧ ∀ j, j < i → a.getD j 0 = b.getD j 0)
      (fun i => [(0, .imm (.slc 1 (a.map (.int .i64)))), (1, .imm (.slc 1 (b.map (.int .i64)))), (5, .imm (.int .i64 i))]) (fun _ => []) 0 ⟨Nat.zero_le _, fun j hj => by omega⟩ (by simp only [↓reduceIte, reduceCtorEq, Nat.reduceEqDiff, Nat.reduceAdd, Nat.reduceMul, Nat.reduceSub, Nat.reduceLeDiff, Nat.reduceBEq, Int.reduceToNat, Int.reduceLE, Int.reduceLT, Int.reduceEq, Int.reduceNe, di0, di1, di2, di3, di4, di5, di6, di7, di8, di9, postX_ret, postX_normal, ex_some] <;> rfl) ?_
    intro i ⟨hi, he⟩ ih
    simp only [res35, b35k0, b35k1, b35k2, b35k3, ↓reduceIte, reduceCtorEq, Nat.reduceEqDiff, Nat.reduceAdd, Nat.reduceMul, Nat.reduceSub, Nat.reduceLeDiff, Nat.reduceBEq, Int.reduceToNat, Int.reduceLE, Int.reduceLT, Int.reduceEq, Int.reduceNe, di0, di1, di2, di3, di4, di5, di6, di7, di8, di9, postX_ret, postX_normal, ex_some]
    split
    · rename_i h
      repeat (refine And.intro (by omega) ?_)
      split
      · rename_i h2
        rw [wrap64 (by omega) (by omega)]
        refine ih (i + 1) _ _ (by omega) ⟨by omega, fun j hj => ?_⟩ (by simp only [↓reduceIte, reduceCtorEq, Nat.reduceEqDiff, Nat.reduceAdd, Nat.reduceMul, Nat.reduceSub, Nat.reduceLeDiff, Nat.reduceBEq, Int.reduceToNat, Int.reduceLE, Int.reduceLT, Int.reduceEq, Int.reduceNe, di0, di1, di2, di3, di4, di5, di6, di7, di8, di9, postX_ret, postX_normal, ex_some] <;> rfl)
        by_cases e : j = i
        · subst e; exact h2
        · exact he j (by omega)
      · rename_i h2
        have : ¬ a = b := fun k => h2 (by rw [k])
        rw [decide_eq_false this]
    · rename_i h
      have : a = b := eq_of_getD 0 hl (fun j hj => he j (by omega))
      rw [decide_eq_true this]
  · rename_i hl
    have : ¬ a = b := fun k => hl (by rw [k])
    rw [decide_eq_false this]

theorem c_CopyInts {a : List Int} (ha : a.length ≤ 1000000000000) : Contract Try.prog 29 [.slc 1 (a.map (.int .i64))] (.slc 1 (a.map (.int .i64))) := by
  refine contract_run Try.func29 k29 rfl ?_
  simp only [body29, b29, res29, ↓reduceIte, reduceCtorEq, Nat.reduceEqDiff, Nat.reduceAdd, Nat.reduceMul, Nat.reduceSub, Nat.reduceLeDiff, Nat.reduceBEq, Int.reduceToNat, Int.reduceLE, Int.reduceLT, Int.reduceEq, Int.reduceNe, di0, di1, di2, di3, di4, di5, di6, di7, di8, di9, postX_ret, postX_normal, ex_some]
  omega
end Go.DI

