/- Numbers of any size: digits. No condition. -/
import Derived.Test.YtdpfjbghiahbeaaKfGh
import Derived.IntWalk
/- The base's numbers of any size, as data. No condition. -/
set_option maxRecDepth 100000
namespace Go.DI.Wd
open Go.Proofs Go.RowKit
/-- guidevane/guidevanebase.Size -/
def b144 : DCode :=
 (.seq
  (.region [⟨(some 2), .mov, [.c (.int .i64 0)], none, []⟩] false)
  (.seq
   (.region [⟨(some 3), .mov, [.t 0], none, []⟩,
     ⟨(some 4), .mov, [.t 0], none, []⟩,
     ⟨(some 5), (.un .neg), [.t 4], none, [1]⟩,
     ⟨(some 6), (.mm true), [.t 3, .t 5], none, [0, 2]⟩,
     ⟨(some 2), .mov, [.t 6], none, [3, 0, 1, 2, 3]⟩] false)
   .ret))
def d144 : DFn := ⟨1, 7, [.tmp 2], b144⟩
theorem body144 : d144.body = b144 := rfl
theorem res144 : d144.res = [.tmp 2] := rfl
theorem k144 : chkFn Try.prog Try.f144 d144 = true := by kernel_rfl

/-- guidevane/guidevanebase.WideSign -/
def b159 : DCode :=
 (.seq
  (.region [⟨(some 1), .box, [.t 0], none, []⟩,
    ⟨(some 2), .mov, [.c (.int .i64 0)], none, []⟩] false)
  (.seq
   (.region [⟨(some 3), (.faddr 0 false 1), [.t 1], none, []⟩,
     ⟨(some 4), (.load false 1), [.t 3], none, [0]⟩,
     ⟨(some 2), .mov, [.t 4], none, [1, 0, 1]⟩] false)
   .ret))
def d159 : DFn := ⟨1, 5, [.tmp 2], b159⟩
theorem body159 : d159.body = b159 := rfl
theorem res159 : d159.res = [.tmp 2] := rfl
theorem k159 : chkFn Try.prog Try.f159 d159 = true := by kernel_rfl

/-- guidevane/guidevanebase.WideNeg -/
def b160 : DCode :=
 (.seq
  (.region [⟨(some 1), .box, [.t 0], none, []⟩,
    ⟨(some 2), (.alloc [(.imm (.int .i64 0)), (.imm (.slc 1 []))]), [], none, []⟩] false)
  (.seq
   (.region [⟨(some 3), (.faddr 0 false 1), [.t 1], none, []⟩,
     ⟨(some 4), (.load false 1), [.t 3], none, [0]⟩,
     ⟨(some 5), (.un .neg), [.t 4], none, [1]⟩,
     ⟨(some 6), (.faddr 1 false 1), [.t 1], none, []⟩,
     ⟨(some 7), (.load false 1), [.t 6], none, [3]⟩,
     ⟨(some 8), (.build [(.imm (.int .i64 0)), (.imm (.slc 1 []))] [(0, 1), (1, 1)]), [.t 5, .t 7], none, [2, 4]⟩,
     ⟨none, (.store 2), [.t 2, .t 8], none, [5, 0, 1, 2, 3, 4, 5]⟩] false)
   .ret))
def d160 : DFn := ⟨1, 9, [.cell 2 true 2], b160⟩
theorem body160 : d160.body = b160 := rfl
theorem res160 : d160.res = [.cell 2 true 2] := rfl
theorem k160 : chkFn Try.prog Try.f160 d160 = true := by kernel_rfl

/-- guidevane/guidevanebase.trimmed -/
def b168k0 : DCode :=
 (.block 1
  (.region [⟨(some 16), .mov, [.t 3], none, []⟩,
    ⟨(some 17), (.bin .sub), [.t 16, .c (.int .i64 1)], none, [0]⟩,
    ⟨(some 3), .mov, [.t 17], none, [1, 0, 1]⟩] false))
def b168l0 : DCode := .keep [0, 3] []
  (.seq
   (.seq
    (.region [⟨(some 6), .mov, [.t 3], none, []⟩,
      ⟨(some 7), (.bin .gtr), [.t 6, .c (.int .i64 0)], none, [0]⟩,
      ⟨(some 8), .mov, [.t 7], none, [1]⟩,
      ⟨(some 9), .movv, [.t 0], (some (8, true)), [2]⟩,
      ⟨(some 10), .mov, [.t 3], (some (8, true)), [2]⟩,
      ⟨(some 11), (.bin .sub), [.t 10, .c (.int .i64 1)], (some (8, true)), [4, 2]⟩,
      ⟨(some 12), (.iaddr 1), [.t 9, .t 11], (some (8, true)), [3, 5, 2]⟩,
      ⟨(some 13), (.load false 1), [.t 12], (some (8, true)), [6, 2]⟩,
      ⟨(some 14), (.bin .eql), [.t 13, .c (.int .i64 0)], (some (8, true)), [7, 2]⟩,
      ⟨(some 15), .pick, [.t 8, .t 14, .c (.bool false)], none, [2, 8]⟩] false)
    (.cond (.t 15)
     .skip
     (.exit 0)))
   (.keep [0, 3] [] b168k0))
def b168k1 : DCode :=
 (.seq
  (.region [⟨(some 18), .movv, [.t 0], none, []⟩,
    ⟨(some 19), .mov, [.t 3], none, []⟩,
    ⟨(some 20), (.slice 1 false true), [.t 18, .t 19], none, [0, 1]⟩,
    ⟨(some 2), .movv, [.t 20], none, [2, 0, 1, 2]⟩] false)
  .ret)
def b168 : DCode :=
 (.seq
  (.region [⟨(some 2), .mov, [.c (.slc 1 [])], none, []⟩] false)
  (.seq
   (.region [⟨(some 4), .movv, [.t 0], none, []⟩,
     ⟨(some 5), .len, [.t 4], none, [0]⟩,
     ⟨(some 3), .mov, [.t 5], none, [1, 0, 1]⟩] false)
   (.seq
    (.block 0
     (.loop b168l0))
    (.keep [0, 3] [] b168k1))))
def d168 : DFn := ⟨1, 21, [.tmp 2], b168⟩
theorem body168 : d168.body = b168 := rfl
theorem res168 : d168.res = [.tmp 2] := rfl
theorem k168 : chkFn Try.prog Try.f168 d168 = true := by kernel_rfl

/-- guidevane/guidevanebase.wideOf -/
def b158k0 : DCode :=
 (.seq
  (.region [⟨(some 10), .mov, [.t 0], none, []⟩,
    ⟨(some 11), .movv, [.t 1], none, []⟩,
    ⟨(some 12), (.build [(.imm (.int .i64 0)), (.imm (.slc 1 []))] [(0, 1), (1, 1)]), [.t 10, .t 11], none, [0, 1]⟩,
    ⟨none, (.store 2), [.t 4, .t 12], none, [2, 0, 1, 2]⟩] false)
  .ret)
def b158 : DCode :=
 (.seq
  (.region [⟨(some 4), (.alloc [(.imm (.int .i64 0)), (.imm (.slc 1 []))]), [], none, []⟩] false)
  (.seq
   (.region [⟨(some 5), .movv, [.t 1], none, []⟩,
     ⟨(some 6), .call, [.f 168, .t 5], none, [0]⟩,
     ⟨(some 1), .movv, [.t 6], none, [1, 1, 0, 1]⟩] false)
   (.seq
    (.seq
     (.region [⟨(some 7), .movv, [.t 1], none, []⟩,
       ⟨(some 8), .len, [.t 7], none, [0]⟩,
       ⟨(some 9), (.bin .eql), [.t 8, .c (.int .i64 0)], none, [1]⟩] false)
     (.cond (.t 9)
      (.region [⟨(some 0), .mov, [.c (.int .i64 0)], none, []⟩] false)
      .skip))
    (.keep [0, 1, 4] [4] b158k0))))
def d158 : DFn := ⟨2, 13, [.cell 4 true 2], b158⟩
theorem body158 : d158.body = b158 := rfl
theorem res158 : d158.res = [.cell 4 true 2] := rfl
theorem k158 : chkFn Try.prog Try.f158 d158 = true := by kernel_rfl

/-- guidevane/guidevanebase.WideOf -/
def b132k0 : DCode :=
 (.block 1
  (.seq
   (.region [⟨(some 9), .mov, [.t 4], none, []⟩,
     ⟨(some 10), .mov, [.t 0], none, []⟩,
     ⟨(some 11), (.bin .rem), [.t 10, .c (.int .i64 1000000000)], none, [1]⟩,
     ⟨(some 12), .call, [.f 144, .t 11], none, [2]⟩,
     ⟨(some 13), (.bsl 1), [.t 12], none, [3]⟩,
     ⟨(some 14), (.append 1 8 false), [.t 9, .t 13], none, [0, 4, 3]⟩,
     ⟨(some 4), .mov, [.t 14], none, [5, 5, 0, 1, 2, 3, 4, 5]⟩] false)
   (.region [⟨(some 15), .mov, [.t 0], none, []⟩,
     ⟨(some 16), (.bin .quo), [.t 15, .c (.int .i64 1000000000)], none, [0]⟩,
     ⟨(some 0), .mov, [.t 16], none, [1, 0, 1]⟩] false)))
def b132l0 : DCode := .keep [0, 2, 3, 4] [2, 4, 14]
  (.seq
   (.seq
    (.region [⟨(some 7), .mov, [.t 0], none, []⟩,
      ⟨(some 8), (.bin .neq), [.t 7, .c (.int .i64 0)], none, [0]⟩] false)
    (.cond (.t 8)
     .skip
     (.exit 0)))
   (.keep [0, 2, 3, 4] [2, 4, 14] b132k0))
def b132k1 : DCode :=
 (.seq
  (.region [⟨(some 17), .mov, [.t 3], none, []⟩,
    ⟨(some 18), .movv, [.t 4], none, []⟩,
    ⟨(some 19), .call, [.f 158, .t 17, .t 18], none, [0, 1]⟩,
    ⟨none, (.store 2), [.t 2, .t 19], none, [2, 2, 0, 1, 2]⟩] false)
  .ret)
def b132k2 : DCode :=
 (.seq
  (.region [⟨(some 4), (.ntok 1), [.c (.slc 1 [])], none, []⟩] false)
  (.seq
   (.block 0
    (.loop b132l0))
   (.keep [2, 3, 4] [2, 4, 14] b132k1)))
def b132 : DCode :=
 (.seq
  (.region [⟨(some 2), (.alloc [(.imm (.int .i64 0)), (.imm (.slc 1 []))]), [], none, []⟩] false)
  (.seq
   (.region [⟨(some 3), .mov, [.c (.int .i64 1)], none, []⟩] false)
   (.seq
    (.seq
     (.region [⟨(some 5), .mov, [.t 0], none, []⟩,
       ⟨(some 6), (.bin .lss), [.t 5, .c (.int .i64 0)], none, [0]⟩] false)
     (.cond (.t 6)
      (.region [⟨(some 3), .mov, [.c (.int .i64 (-1))], none, []⟩] false)
      .skip))
    (.keep [0, 2, 3] [2] b132k2))))
def d132 : DFn := ⟨1, 20, [.cell 2 true 2], b132⟩
theorem body132 : d132.body = b132 := rfl
theorem res132 : d132.res = [.cell 2 true 2] := rfl
theorem k132 : chkFn Try.prog Try.f132 d132 = true := by kernel_rfl

/-- guidevane/guidevanebase.cmpDigits -/
def b170k0 : DCode :=
 (.seq
  (.region [⟨(some 4), .mov, [.c (.int .i64 1)], none, []⟩] false)
  .ret)
def b170k1 : DCode :=
 (.seq
  (.region [⟨(some 32), .movv, [.t 0], none, []⟩,
    ⟨(some 33), .mov, [.t 5], none, []⟩,
    ⟨(some 34), (.iaddr 1), [.t 32, .t 33], none, [0, 1]⟩,
    ⟨(some 35), (.load false 1), [.t 34], none, [2]⟩,
    ⟨(some 36), .movv, [.t 1], none, []⟩,
    ⟨(some 37), .mov, [.t 5], none, []⟩,
    ⟨(some 38), (.iaddr 1), [.t 36, .t 37], none, [4, 5]⟩,
    ⟨(some 39), (.load false 1), [.t 38], none, [6]⟩,
    ⟨(some 40), (.bin .gtr), [.t 35, .t 39], none, [3, 7]⟩] true)
  (.cond (.t 40)
   (.seq
    (.region [⟨(some 4), .mov, [.c (.int .i64 1)], none, []⟩] false)
    .ret)
   .skip))
def b170k2 : DCode :=
 (.region [⟨(some 21), .mov, [.t 5], none, []⟩,
   ⟨(some 22), (.bin .sub), [.t 21, .c (.int .i64 1)], none, [0]⟩,
   ⟨(some 5), .mov, [.t 22], none, [1, 0, 1]⟩] false)
def b170k3 : DCode :=
 (.seq
  (.block 1
   (.seq
    (.seq
     (.region [⟨(some 23), .movv, [.t 0], none, []⟩,
       ⟨(some 24), .mov, [.t 5], none, []⟩,
       ⟨(some 25), (.iaddr 1), [.t 23, .t 24], none, [0, 1]⟩,
       ⟨(some 26), (.load false 1), [.t 25], none, [2]⟩,
       ⟨(some 27), .movv, [.t 1], none, []⟩,
       ⟨(some 28), .mov, [.t 5], none, []⟩,
       ⟨(some 29), (.iaddr 1), [.t 27, .t 28], none, [4, 5]⟩,
       ⟨(some 30), (.load false 1), [.t 29], none, [6]⟩,
       ⟨(some 31), (.bin .lss), [.t 26, .t 30], none, [3, 7]⟩] true)
     (.cond (.t 31)
      (.seq
       (.region [⟨(some 4), .mov, [.c (.int .i64 (-1))], none, []⟩] false)
       .ret)
      .skip))
    (.keep [0, 1, 5] [] b170k1)))
  (.keep [0, 1, 5] [] b170k2))
def b170l0 : DCode := .keep [0, 1, 5] []
  (.seq
   (.seq
    (.region [⟨(some 19), .mov, [.t 5], none, []⟩,
      ⟨(some 20), (.bin .geq), [.t 19, .c (.int .i64 0)], none, [0]⟩] false)
    (.cond (.t 20)
     .skip
     (.exit 0)))
   (.keep [0, 1, 5] [] b170k3))
def b170k4 : DCode :=
 (.seq
  (.region [⟨(some 4), .mov, [.c (.int .i64 0)], none, []⟩] false)
  .ret)
def b170k5 : DCode :=
 (.seq
  (.seq
   (.region [⟨(some 16), .movv, [.t 0], none, []⟩,
     ⟨(some 17), .len, [.t 16], none, [0]⟩,
     ⟨(some 18), (.bin .sub), [.t 17, .c (.int .i64 1)], none, [1]⟩,
     ⟨(some 5), .mov, [.t 18], none, [2, 0, 1, 2]⟩] false)
   (.block 0
    (.loop b170l0)))
  (.keep [] [] b170k4))
def b170 : DCode :=
 (.seq
  (.region [⟨(some 4), .mov, [.c (.int .i64 0)], none, []⟩] false)
  (.seq
   (.seq
    (.region [⟨(some 6), .movv, [.t 0], none, []⟩,
      ⟨(some 7), .len, [.t 6], none, [0]⟩,
      ⟨(some 8), .movv, [.t 1], none, []⟩,
      ⟨(some 9), .len, [.t 8], none, [2]⟩,
      ⟨(some 10), (.bin .neq), [.t 7, .t 9], none, [1, 3]⟩] false)
    (.cond (.t 10)
     (.seq
      (.seq
       (.region [⟨(some 11), .movv, [.t 0], none, []⟩,
         ⟨(some 12), .len, [.t 11], none, [0]⟩,
         ⟨(some 13), .movv, [.t 1], none, []⟩,
         ⟨(some 14), .len, [.t 13], none, [2]⟩,
         ⟨(some 15), (.bin .lss), [.t 12, .t 14], none, [1, 3]⟩] false)
       (.cond (.t 15)
        (.seq
         (.region [⟨(some 4), .mov, [.c (.int .i64 (-1))], none, []⟩] false)
         .ret)
        .skip))
      (.keep [] [] b170k0))
     .skip))
   (.keep [0, 1] [] b170k5)))
def d170 : DFn := ⟨2, 41, [.tmp 4], b170⟩
theorem body170 : d170.body = b170 := rfl
theorem res170 : d170.res = [.tmp 4] := rfl
theorem k170 : chkFn Try.prog Try.f170 d170 = true := by kernel_rfl

/-- guidevane/guidevanebase.digit -/
def b174k0 : DCode :=
 (.seq
  (.region [⟨(some 4), .mov, [.c (.int .i64 0)], none, []⟩] false)
  .ret)
def b174 : DCode :=
 (.seq
  (.region [⟨(some 4), .mov, [.c (.int .i64 0)], none, []⟩] false)
  (.seq
   (.seq
    (.region [⟨(some 5), .mov, [.t 1], none, []⟩,
      ⟨(some 6), .movv, [.t 0], none, []⟩,
      ⟨(some 7), .len, [.t 6], none, [1]⟩,
      ⟨(some 8), (.bin .lss), [.t 5, .t 7], none, [0, 2]⟩] false)
    (.cond (.t 8)
     (.seq
      (.region [⟨(some 9), .movv, [.t 0], none, []⟩,
        ⟨(some 10), .mov, [.t 1], none, []⟩,
        ⟨(some 11), (.iaddr 1), [.t 9, .t 10], none, [0, 1]⟩,
        ⟨(some 12), (.load false 1), [.t 11], none, [2]⟩,
        ⟨(some 4), .mov, [.t 12], none, [3, 0, 1, 2, 3]⟩] false)
      .ret)
     .skip))
   (.keep [] [] b174k0)))
def d174 : DFn := ⟨2, 13, [.tmp 4], b174⟩
theorem body174 : d174.body = b174 := rfl
theorem res174 : d174.res = [.tmp 4] := rfl
theorem k174 : chkFn Try.prog Try.f174 d174 = true := by kernel_rfl

/-- guidevane/guidevanebase.addDigits -/
def b173k0 : DCode :=
 (.seq
  (.block 1
   (.seq
    (.region [⟨(some 25), .movv, [.t 0], none, []⟩,
      ⟨(some 26), .mov, [.t 7], none, []⟩,
      ⟨(some 27), .call, [.f 174, .t 25, .t 26], none, [0, 1]⟩,
      ⟨(some 28), .movv, [.t 1], none, []⟩,
      ⟨(some 29), .mov, [.t 7], none, []⟩,
      ⟨(some 30), .call, [.f 174, .t 28, .t 29], none, [3, 4, 2]⟩,
      ⟨(some 31), (.bin .add), [.t 27, .t 30], none, [2, 5]⟩,
      ⟨(some 32), .mov, [.t 6], none, []⟩,
      ⟨(some 33), (.bin .add), [.t 31, .t 32], none, [6, 7]⟩,
      ⟨(some 8), .mov, [.t 33], none, [8, 5, 0, 1, 2, 3, 4, 5, 6, 7, 8]⟩] false)
    (.region [⟨(some 34), .mov, [.t 5], none, []⟩,
      ⟨(some 35), .mov, [.t 8], none, []⟩,
      ⟨(some 36), (.bin .rem), [.t 35, .c (.int .i64 1000000000)], none, [1]⟩,
      ⟨(some 37), (.bsl 1), [.t 36], none, [2]⟩,
      ⟨(some 38), (.append 1 8 false), [.t 34, .t 37], none, [0, 3]⟩,
      ⟨(some 39), .mov, [.t 8], none, []⟩,
      ⟨(some 40), (.bin .quo), [.t 39, .c (.int .i64 1000000000)], none, [5]⟩,
      ⟨(some 5), .mov, [.t 38], none, [4, 4, 0, 1, 2, 3, 4]⟩,
      ⟨(some 6), .mov, [.t 40], none, [6, 7, 0, 1, 2, 3, 4, 5, 6, 7]⟩] false)))
  (.region [⟨(some 23), .mov, [.t 7], none, []⟩,
    ⟨(some 24), (.bin .add), [.t 23, .c (.int .i64 1)], none, [0]⟩,
    ⟨(some 7), .mov, [.t 24], none, [1, 0, 1]⟩] false))
def b173l0 : DCode := .keep [0, 1, 5, 6, 7] [5, 38]
  (.seq
   (.seq
    (.region [⟨(some 9), .mov, [.t 7], none, []⟩,
      ⟨(some 10), .movv, [.t 0], none, []⟩,
      ⟨(some 11), .len, [.t 10], none, [1]⟩,
      ⟨(some 12), (.bin .lss), [.t 9, .t 11], none, [0, 2]⟩,
      ⟨(some 13), .mov, [.t 12], none, [3]⟩,
      ⟨(some 14), .mov, [.t 7], (some (13, false)), [4]⟩,
      ⟨(some 15), .movv, [.t 1], (some (13, false)), [4]⟩,
      ⟨(some 16), .len, [.t 15], (some (13, false)), [6, 4]⟩,
      ⟨(some 17), (.bin .lss), [.t 14, .t 16], (some (13, false)), [5, 7, 4]⟩,
      ⟨(some 18), .pick, [.t 13, .c (.bool true), .t 17], none, [4, 8]⟩,
      ⟨(some 19), .mov, [.t 18], none, [9, 4]⟩,
      ⟨(some 20), .mov, [.t 6], (some (19, false)), [10]⟩,
      ⟨(some 21), (.bin .gtr), [.t 20, .c (.int .i64 0)], (some (19, false)), [11, 10]⟩,
      ⟨(some 22), .pick, [.t 19, .c (.bool true), .t 21], none, [10, 12]⟩] false)
    (.cond (.t 22)
     .skip
     (.exit 0)))
   (.keep [0, 1, 5, 6, 7] [5, 38] b173k0))
def b173k1 : DCode :=
 (.seq
  (.region [⟨(some 41), .movv, [.t 5], none, []⟩,
    ⟨(some 4), .movv, [.t 41], none, [0, 0]⟩] false)
  .ret)
def b173 : DCode :=
 (.seq
  (.region [⟨(some 4), .mov, [.c (.slc 1 [])], none, []⟩] false)
  (.seq
   (.region [⟨(some 5), (.ntok 1), [.c (.slc 1 [])], none, []⟩] false)
   (.seq
    (.region [⟨(some 6), .mov, [.c (.int .i64 0)], none, []⟩] false)
    (.seq
     (.seq
      (.region [⟨(some 7), .mov, [.c (.int .i64 0)], none, []⟩] false)
      (.block 0
       (.loop b173l0)))
     (.keep [5] [5, 38] b173k1)))))
def d173 : DFn := ⟨2, 42, [.tmp 4], b173⟩
theorem body173 : d173.body = b173 := rfl
theorem res173 : d173.res = [.tmp 4] := rfl
theorem k173 : chkFn Try.prog Try.f173 d173 = true := by kernel_rfl

/-- guidevane/guidevanebase.subDigits -/
def b171k0 : DCode :=
 (.region [⟨(some 29), .mov, [.t 5], none, []⟩,
   ⟨(some 30), .mov, [.t 8], none, []⟩,
   ⟨(some 31), (.bsl 1), [.t 30], none, [1]⟩,
   ⟨(some 32), (.append 1 8 false), [.t 29, .t 31], none, [0, 2]⟩,
   ⟨(some 5), .mov, [.t 32], none, [3, 3, 0, 1, 2, 3]⟩] false)
def b171k1 : DCode :=
 (.region [⟨(some 13), .mov, [.t 7], none, []⟩,
   ⟨(some 14), (.bin .add), [.t 13, .c (.int .i64 1)], none, [0]⟩,
   ⟨(some 7), .mov, [.t 14], none, [1, 0, 1]⟩] false)
def b171k2 : DCode :=
 (.seq
  (.block 1
   (.seq
    (.region [⟨(some 15), .movv, [.t 0], none, []⟩,
      ⟨(some 16), .mov, [.t 7], none, []⟩,
      ⟨(some 17), (.iaddr 1), [.t 15, .t 16], none, [0, 1]⟩,
      ⟨(some 18), (.load false 1), [.t 17], none, [2]⟩,
      ⟨(some 19), .movv, [.t 1], none, []⟩,
      ⟨(some 20), .mov, [.t 7], none, []⟩,
      ⟨(some 21), .call, [.f 174, .t 19, .t 20], none, [4, 5]⟩,
      ⟨(some 22), (.bin .sub), [.t 18, .t 21], none, [3, 6]⟩,
      ⟨(some 23), .mov, [.t 6], none, []⟩,
      ⟨(some 24), (.bin .sub), [.t 22, .t 23], none, [7, 8]⟩,
      ⟨(some 8), .mov, [.t 24], none, [9, 6, 0, 1, 2, 3, 4, 5, 6, 7, 8, 9]⟩] true)
    (.seq
     (.region [⟨(some 6), .mov, [.c (.int .i64 0)], none, []⟩] false)
     (.seq
      (.seq
       (.region [⟨(some 25), .mov, [.t 8], none, []⟩,
         ⟨(some 26), (.bin .lss), [.t 25, .c (.int .i64 0)], none, [0]⟩] false)
       (.cond (.t 26)
        (.region [⟨(some 27), .mov, [.t 8], none, []⟩,
          ⟨(some 28), (.bin .add), [.t 27, .c (.int .i64 1000000000)], none, [0]⟩,
          ⟨(some 8), .mov, [.t 28], none, [1, 0, 1]⟩,
          ⟨(some 6), .mov, [.c (.int .i64 1)], none, [2, 0, 1, 2]⟩] false)
        .skip))
      (.keep [0, 1, 5, 6, 7, 8] [5, 32] b171k0)))))
  (.keep [0, 1, 5, 6, 7] [5, 32] b171k1))
def b171l0 : DCode := .keep [0, 1, 5, 6, 7] [5, 32]
  (.seq
   (.seq
    (.region [⟨(some 9), .mov, [.t 7], none, []⟩,
      ⟨(some 10), .movv, [.t 0], none, []⟩,
      ⟨(some 11), .len, [.t 10], none, [1]⟩,
      ⟨(some 12), (.bin .lss), [.t 9, .t 11], none, [0, 2]⟩] false)
    (.cond (.t 12)
     .skip
     (.exit 0)))
   (.keep [0, 1, 5, 6, 7] [5, 32] b171k2))
def b171k3 : DCode :=
 (.seq
  (.region [⟨(some 33), .movv, [.t 5], none, []⟩,
    ⟨(some 34), .call, [.f 168, .t 33], none, [0]⟩,
    ⟨(some 4), .movv, [.t 34], none, [1, 1, 0, 1]⟩] false)
  .ret)
def b171 : DCode :=
 (.seq
  (.region [⟨(some 4), .mov, [.c (.slc 1 [])], none, []⟩] false)
  (.seq
   (.region [⟨(some 5), (.ntok 1), [.c (.slc 1 [])], none, []⟩] false)
   (.seq
    (.region [⟨(some 6), .mov, [.c (.int .i64 0)], none, []⟩] false)
    (.seq
     (.seq
      (.region [⟨(some 7), .mov, [.c (.int .i64 0)], none, []⟩] false)
      (.block 0
       (.loop b171l0)))
     (.keep [5] [5, 32] b171k3)))))
def d171 : DFn := ⟨2, 35, [.tmp 4], b171⟩
theorem body171 : d171.body = b171 := rfl
theorem res171 : d171.res = [.tmp 4] := rfl
theorem k171 : chkFn Try.prog Try.f171 d171 = true := by kernel_rfl

/-- guidevane/guidevanebase.WideAdd -/
def b167k0 : DCode :=
 (.seq
  (.region [⟨(some 45), (.faddr 0 false 1), [.t 3], none, []⟩,
    ⟨(some 46), (.load false 1), [.t 45], none, [0]⟩,
    ⟨(some 47), (.faddr 1 false 1), [.t 3], none, []⟩,
    ⟨(some 48), (.load false 1), [.t 47], none, [2]⟩,
    ⟨(some 49), (.faddr 1 false 1), [.t 2], none, []⟩,
    ⟨(some 50), (.load false 1), [.t 49], none, [4]⟩,
    ⟨(some 51), .call, [.f 171, .t 48, .t 50], none, [3, 5]⟩,
    ⟨(some 52), .call, [.f 158, .t 46, .t 51], none, [1, 6, 6]⟩,
    ⟨none, (.store 2), [.t 4, .t 52], none, [7, 7, 0, 1, 2, 3, 4, 5, 6, 7]⟩] true)
  .ret)
def b167k1 : DCode :=
 (.seq
  (.seq
   (.region [⟨(some 35), .mov, [.t 5], none, []⟩,
     ⟨(some 36), (.bin .gtr), [.t 35, .c (.int .i64 0)], none, [0]⟩] false)
   (.cond (.t 36)
    (.seq
     (.region [⟨(some 37), (.faddr 0 false 1), [.t 2], none, []⟩,
       ⟨(some 38), (.load false 1), [.t 37], none, [0]⟩,
       ⟨(some 39), (.faddr 1 false 1), [.t 2], none, []⟩,
       ⟨(some 40), (.load false 1), [.t 39], none, [2]⟩,
       ⟨(some 41), (.faddr 1 false 1), [.t 3], none, []⟩,
       ⟨(some 42), (.load false 1), [.t 41], none, [4]⟩,
       ⟨(some 43), .call, [.f 171, .t 40, .t 42], none, [3, 5]⟩,
       ⟨(some 44), .call, [.f 158, .t 38, .t 43], none, [1, 6, 6]⟩,
       ⟨none, (.store 2), [.t 4, .t 44], none, [7, 7, 0, 1, 2, 3, 4, 5, 6, 7]⟩] true)
     .ret)
    .skip))
  (.keep [2, 3, 4] [2, 3, 4] b167k0))
def b167k2 : DCode :=
 (.seq
  (.region [⟨(some 27), (.faddr 1 false 1), [.t 2], none, []⟩,
    ⟨(some 28), (.load false 1), [.t 27], none, [0]⟩,
    ⟨(some 29), (.faddr 1 false 1), [.t 3], none, []⟩,
    ⟨(some 30), (.load false 1), [.t 29], none, [2]⟩,
    ⟨(some 31), .call, [.f 170, .t 28, .t 30], none, [1, 3]⟩,
    ⟨(some 5), .mov, [.t 31], none, [4, 4, 0, 1, 2, 3, 4]⟩] false)
  (.seq
   (.seq
    (.region [⟨(some 32), .mov, [.t 5], none, []⟩,
      ⟨(some 33), (.bin .eql), [.t 32, .c (.int .i64 0)], none, [0]⟩] false)
    (.cond (.t 33)
     (.seq
      (.region [⟨(some 34), (.build [(.imm (.int .i64 0)), (.imm (.slc 1 []))] []), [], none, []⟩,
        ⟨none, (.store 2), [.t 4, .t 34], none, [0, 0]⟩] false)
      .ret)
     .skip))
   (.keep [2, 3, 4, 5] [2, 3, 4] b167k1)))
def b167k3 : DCode :=
 (.seq
  (.seq
   (.region [⟨(some 14), (.faddr 0 false 1), [.t 2], none, []⟩,
     ⟨(some 15), (.load false 1), [.t 14], none, [0]⟩,
     ⟨(some 16), (.faddr 0 false 1), [.t 3], none, []⟩,
     ⟨(some 17), (.load false 1), [.t 16], none, [2]⟩,
     ⟨(some 18), (.bin .eql), [.t 15, .t 17], none, [1, 3]⟩] false)
   (.cond (.t 18)
    (.seq
     (.region [⟨(some 19), (.faddr 0 false 1), [.t 2], none, []⟩,
       ⟨(some 20), (.load false 1), [.t 19], none, [0]⟩,
       ⟨(some 21), (.faddr 1 false 1), [.t 2], none, []⟩,
       ⟨(some 22), (.load false 1), [.t 21], none, [2]⟩,
       ⟨(some 23), (.faddr 1 false 1), [.t 3], none, []⟩,
       ⟨(some 24), (.load false 1), [.t 23], none, [4]⟩,
       ⟨(some 25), .call, [.f 173, .t 22, .t 24], none, [3, 5]⟩,
       ⟨(some 26), .call, [.f 158, .t 20, .t 25], none, [1, 6, 6]⟩,
       ⟨none, (.store 2), [.t 4, .t 26], none, [7, 7, 0, 1, 2, 3, 4, 5, 6, 7]⟩] true)
     .ret)
    .skip))
  (.keep [2, 3, 4] [2, 3, 4] b167k2))
def b167k4 : DCode :=
 (.seq
  (.seq
   (.region [⟨(some 10), (.faddr 0 false 1), [.t 3], none, []⟩,
     ⟨(some 11), (.load false 1), [.t 10], none, [0]⟩,
     ⟨(some 12), (.bin .eql), [.t 11, .c (.int .i64 0)], none, [1]⟩] false)
   (.cond (.t 12)
    (.seq
     (.region [⟨(some 13), (.load true 2), [.t 2], none, []⟩,
       ⟨none, (.store 2), [.t 4, .t 13], none, [0, 0]⟩] false)
     .ret)
    .skip))
  (.keep [2, 3, 4] [2, 3, 4] b167k3))
def b167 : DCode :=
 (.seq
  (.region [⟨(some 2), .box, [.t 0], none, []⟩,
    ⟨(some 3), .box, [.t 1], none, []⟩,
    ⟨(some 4), (.alloc [(.imm (.int .i64 0)), (.imm (.slc 1 []))]), [], none, []⟩] false)
  (.seq
   (.seq
    (.region [⟨(some 6), (.faddr 0 false 1), [.t 2], none, []⟩,
      ⟨(some 7), (.load false 1), [.t 6], none, [0]⟩,
      ⟨(some 8), (.bin .eql), [.t 7, .c (.int .i64 0)], none, [1]⟩] false)
    (.cond (.t 8)
     (.seq
      (.region [⟨(some 9), (.load true 2), [.t 3], none, []⟩,
        ⟨none, (.store 2), [.t 4, .t 9], none, [0, 0]⟩] false)
      .ret)
     .skip))
   (.keep [2, 3, 4] [2, 3, 4] b167k4)))
def d167 : DFn := ⟨2, 53, [.cell 4 true 2], b167⟩
theorem body167 : d167.body = b167 := rfl
theorem res167 : d167.res = [.cell 4 true 2] := rfl
theorem k167 : chkFn Try.prog Try.f167 d167 = true := by kernel_rfl

/-- guidevane/guidevanebase.WideSub -/
def b157 : DCode :=
 (.seq
  (.region [⟨(some 2), .box, [.t 0], none, []⟩,
    ⟨(some 3), .box, [.t 1], none, []⟩,
    ⟨(some 4), (.alloc [(.imm (.int .i64 0)), (.imm (.slc 1 []))]), [], none, []⟩] false)
  (.seq
   (.region [⟨(some 5), (.load true 2), [.t 2], none, []⟩,
     ⟨(some 6), (.load true 2), [.t 3], none, []⟩,
     ⟨(some 7), .call, [.f 160, .t 6], none, [1]⟩,
     ⟨(some 8), .call, [.f 167, .t 5, .t 7], none, [0, 2, 2]⟩,
     ⟨none, (.store 2), [.t 4, .t 8], none, [3, 3, 0, 1, 2, 3]⟩] true)
   .ret))
def d157 : DFn := ⟨2, 9, [.cell 4 true 2], b157⟩
theorem body157 : d157.body = b157 := rfl
theorem res157 : d157.res = [.cell 4 true 2] := rfl
theorem k157 : chkFn Try.prog Try.f157 d157 = true := by kernel_rfl

/-- guidevane/guidevanebase.WideMul -/
def b129k0 : DCode :=
 (.seq
  (.block 3
   (.seq
    (.region [⟨(some 33), .movv, [.t 5], none, []⟩,
      ⟨(some 34), .mov, [.t 6], none, []⟩,
      ⟨(some 35), .mov, [.t 8], none, []⟩,
      ⟨(some 36), (.bin .add), [.t 34, .t 35], none, [1, 2]⟩,
      ⟨(some 37), (.iaddr 1), [.t 33, .t 36], none, [0, 3]⟩,
      ⟨(some 38), (.load false 1), [.t 37], none, [4]⟩,
      ⟨(some 39), (.faddr 1 false 1), [.t 2], none, []⟩,
      ⟨(some 40), (.load false 1), [.t 39], none, [6]⟩,
      ⟨(some 41), .mov, [.t 6], none, []⟩,
      ⟨(some 42), (.iaddr 1), [.t 40, .t 41], none, [7, 8]⟩,
      ⟨(some 43), (.load false 1), [.t 42], none, [9]⟩,
      ⟨(some 44), (.faddr 1 false 1), [.t 3], none, []⟩,
      ⟨(some 45), (.load false 1), [.t 44], none, [11]⟩,
      ⟨(some 46), .mov, [.t 8], none, []⟩,
      ⟨(some 47), (.iaddr 1), [.t 45, .t 46], none, [12, 13]⟩,
      ⟨(some 48), (.load false 1), [.t 47], none, [14]⟩,
      ⟨(some 49), (.bin .mul), [.t 43, .t 48], none, [10, 15]⟩,
      ⟨(some 50), (.bin .add), [.t 38, .t 49], none, [5, 16]⟩,
      ⟨(some 51), .mov, [.t 7], none, []⟩,
      ⟨(some 52), (.bin .add), [.t 50, .t 51], none, [17, 18]⟩,
      ⟨(some 9), .mov, [.t 52], none, [19, 0, 1, 2, 3, 4, 5, 6, 7, 8, 9, 10, 11, 12, 13, 14, 15, 16, 17, 18, 19]⟩] true)
    (.region [⟨(some 53), .movv, [.t 5], none, []⟩,
      ⟨(some 54), .mov, [.t 6], none, []⟩,
      ⟨(some 55), .mov, [.t 8], none, []⟩,
      ⟨(some 56), (.bin .add), [.t 54, .t 55], none, [1, 2]⟩,
      ⟨(some 57), .mov, [.t 9], none, []⟩,
      ⟨(some 58), (.bin .rem), [.t 57, .c (.int .i64 1000000000)], none, [4]⟩,
      ⟨(some 59), .mov, [.t 9], none, []⟩,
      ⟨(some 60), (.bin .quo), [.t 59, .c (.int .i64 1000000000)], none, [6]⟩,
      ⟨(some 61), (.iaddr 1), [.t 53, .t 56], none, [0, 3, 0, 1, 2, 3, 4, 5]⟩,
      ⟨none, (.store 1), [.t 61, .t 58], none, [8, 5, 0, 1, 2, 3, 4, 5]⟩,
      ⟨(some 7), .mov, [.t 60], none, [7, 9, 0, 1, 2, 3, 4, 5, 6, 7, 8, 9]⟩] false)))
  (.region [⟨(some 31), .mov, [.t 8], none, []⟩,
    ⟨(some 32), (.bin .add), [.t 31, .c (.int .i64 1)], none, [0]⟩,
    ⟨(some 8), .mov, [.t 32], none, [1, 0, 1]⟩] false))
def b129l0 : DCode := .keep [2, 3, 4, 5, 6, 7, 8] [2, 3, 4, 18]
  (.seq
   (.seq
    (.region [⟨(some 26), .mov, [.t 8], none, []⟩,
      ⟨(some 27), (.faddr 1 false 1), [.t 3], none, []⟩,
      ⟨(some 28), (.load false 1), [.t 27], none, [1]⟩,
      ⟨(some 29), .len, [.t 28], none, [2]⟩,
      ⟨(some 30), (.bin .lss), [.t 26, .t 29], none, [0, 3]⟩] false)
    (.cond (.t 30)
     .skip
     (.exit 2)))
   (.keep [2, 3, 4, 5, 6, 7, 8] [2, 3, 4, 18] b129k0))
def b129k1 : DCode :=
 (.region [⟨(some 62), .movv, [.t 5], none, []⟩,
   ⟨(some 63), .mov, [.t 6], none, []⟩,
   ⟨(some 64), (.faddr 1 false 1), [.t 3], none, []⟩,
   ⟨(some 65), (.load false 1), [.t 64], none, [2]⟩,
   ⟨(some 66), .len, [.t 65], none, [3]⟩,
   ⟨(some 67), (.bin .add), [.t 63, .t 66], none, [1, 4]⟩,
   ⟨(some 68), .movv, [.t 5], none, []⟩,
   ⟨(some 69), .mov, [.t 6], none, []⟩,
   ⟨(some 70), (.faddr 1 false 1), [.t 3], none, []⟩,
   ⟨(some 71), (.load false 1), [.t 70], none, [8]⟩,
   ⟨(some 72), .len, [.t 71], none, [9]⟩,
   ⟨(some 73), (.bin .add), [.t 69, .t 72], none, [7, 10]⟩,
   ⟨(some 74), (.iaddr 1), [.t 68, .t 73], none, [6, 11]⟩,
   ⟨(some 75), (.load false 1), [.t 74], none, [12]⟩,
   ⟨(some 76), .mov, [.t 7], none, []⟩,
   ⟨(some 77), (.bin .add), [.t 75, .t 76], none, [13, 14]⟩,
   ⟨(some 78), (.iaddr 1), [.t 62, .t 67], none, [0, 5, 0, 1, 2, 3, 4, 5, 6, 7, 8, 9, 10, 11, 12, 13, 14, 15]⟩,
   ⟨none, (.store 1), [.t 78, .t 77], none, [16, 15, 0, 1, 2, 3, 4, 5, 6, 7, 8, 9, 10, 11, 12, 13, 14, 15]⟩] true)
def b129k2 : DCode :=
 (.region [⟨(some 24), .mov, [.t 6], none, []⟩,
   ⟨(some 25), (.bin .add), [.t 24, .c (.int .i64 1)], none, [0]⟩,
   ⟨(some 6), .mov, [.t 25], none, [1, 0, 1]⟩] false)
def b129k3 : DCode :=
 (.seq
  (.block 1
   (.seq
    (.region [⟨(some 7), .mov, [.c (.int .i64 0)], none, []⟩] false)
    (.seq
     (.seq
      (.region [⟨(some 8), .mov, [.c (.int .i64 0)], none, []⟩] false)
      (.block 2
       (.loop b129l0)))
     (.keep [2, 3, 4, 5, 6, 7] [2, 3, 4, 18] b129k1))))
  (.keep [2, 3, 4, 5, 6] [2, 3, 4, 18] b129k2))
def b129l1 : DCode := .keep [2, 3, 4, 5, 6] [2, 3, 4, 18]
  (.seq
   (.seq
    (.region [⟨(some 19), .mov, [.t 6], none, []⟩,
      ⟨(some 20), (.faddr 1 false 1), [.t 2], none, []⟩,
      ⟨(some 21), (.load false 1), [.t 20], none, [1]⟩,
      ⟨(some 22), .len, [.t 21], none, [2]⟩,
      ⟨(some 23), (.bin .lss), [.t 19, .t 22], none, [0, 3]⟩] false)
    (.cond (.t 23)
     .skip
     (.exit 0)))
   (.keep [2, 3, 4, 5, 6] [2, 3, 4, 18] b129k3))
def b129k4 : DCode :=
 (.seq
  (.freeze [18]
   (.region [⟨(some 79), (.faddr 0 false 1), [.t 2], none, []⟩,
     ⟨(some 80), (.load false 1), [.t 79], none, [0]⟩,
     ⟨(some 81), (.faddr 0 false 1), [.t 3], none, []⟩,
     ⟨(some 82), (.load false 1), [.t 81], none, [2]⟩,
     ⟨(some 83), (.bin .mul), [.t 80, .t 82], none, [1, 3]⟩,
     ⟨(some 84), .movv, [.t 5], none, []⟩,
     ⟨(some 85), .call, [.f 158, .t 83, .t 84], none, [4, 5]⟩,
     ⟨none, (.store 2), [.t 4, .t 85], none, [6, 6, 0, 1, 2, 3, 4, 5, 6]⟩] false))
  .ret)
def b129 : DCode :=
 (.seq
  (.region [⟨(some 2), .box, [.t 0], none, []⟩,
    ⟨(some 3), .box, [.t 1], none, []⟩,
    ⟨(some 4), (.alloc [(.imm (.int .i64 0)), (.imm (.slc 1 []))]), [], none, []⟩] false)
  (.seq
   (.region [⟨(some 10), (.faddr 1 false 1), [.t 2], none, []⟩,
     ⟨(some 11), (.load false 1), [.t 10], none, [0]⟩,
     ⟨(some 12), .len, [.t 11], none, [1]⟩,
     ⟨(some 13), (.faddr 1 false 1), [.t 3], none, []⟩,
     ⟨(some 14), (.load false 1), [.t 13], none, [3]⟩,
     ⟨(some 15), .len, [.t 14], none, [4]⟩,
     ⟨(some 16), (.bin .add), [.t 12, .t 15], none, [2, 5]⟩,
     ⟨(some 17), (.bin .add), [.t 16, .c (.int .i64 1)], none, [6]⟩,
     ⟨(some 18), (.mksl (.int .i64 0) 8), [.t 17, .t 17], none, [7, 7]⟩,
     ⟨(some 5), .movv, [.t 18], none, [8, 0, 1, 2, 3, 4, 5, 6, 7, 8]⟩] false)
   (.seq
    (.seq
     (.region [⟨(some 6), .mov, [.c (.int .i64 0)], none, []⟩] false)
     (.block 0
      (.loop b129l1)))
    (.keep [2, 3, 4, 5] [2, 3, 4, 18] b129k4))))
def d129 : DFn := ⟨2, 86, [.cell 4 true 2], b129⟩
theorem body129 : d129.body = b129 := rfl
theorem res129 : d129.res = [.cell 4 true 2] := rfl
theorem k129 : chkFn Try.prog Try.f129 d129 = true := by kernel_rfl

/-- guidevane/guidevanebase.WideCmp -/
def b128 : DCode :=
 (.seq
  (.region [⟨(some 2), .box, [.t 0], none, []⟩,
    ⟨(some 3), .box, [.t 1], none, []⟩,
    ⟨(some 4), .mov, [.c (.int .i64 0)], none, []⟩] false)
  (.seq
   (.region [⟨(some 5), (.load true 2), [.t 2], none, []⟩,
     ⟨(some 6), (.load true 2), [.t 3], none, []⟩,
     ⟨(some 7), .call, [.f 157, .t 5, .t 6], none, [0, 1]⟩,
     ⟨(some 8), (.field 0 false 1), [.t 7], none, [2]⟩,
     ⟨(some 4), .mov, [.t 8], none, [3, 2, 0, 1, 2, 3]⟩] false)
   .ret))
def d128 : DFn := ⟨2, 9, [.tmp 4], b128⟩
theorem body128 : d128.body = b128 := rfl
theorem res128 : d128.res = [.tmp 4] := rfl
theorem k128 : chkFn Try.prog Try.f128 d128 = true := by kernel_rfl

/-- guidevane/guidevanebase.WideFloor -/
def b162k0 : DCode :=
 (.block 3
  (.seq
   (.region [⟨(some 41), .mov, [.t 8], none, []⟩,
     ⟨(some 42), .mov, [.t 9], none, []⟩,
     ⟨(some 43), (.bin .add), [.t 41, .t 42], none, [0, 1]⟩,
     ⟨(some 44), (.bin .add), [.t 43, .c (.int .i64 1)], none, [2]⟩,
     ⟨(some 45), (.bin .quo), [.t 44, .c (.int .i64 2)], none, [3]⟩,
     ⟨(some 10), .mov, [.t 45], none, [4, 0, 1, 2, 3, 4]⟩] false)
   (.seq
    (.region [⟨(some 46), (.faddr 1 false 1), [.t 3], none, []⟩,
      ⟨(some 47), (.load false 1), [.t 46], none, [0]⟩,
      ⟨(some 48), .call, [.f 158, .c (.int .i64 1), .t 47], none, [1]⟩,
      ⟨(some 49), .mov, [.t 10], none, []⟩,
      ⟨(some 50), .call, [.f 132, .t 49], none, [3, 2]⟩,
      ⟨(some 51), .call, [.f 129, .t 48, .t 50], none, [2, 4, 4]⟩,
      ⟨(some 52), (.field 1 false 1), [.t 51], none, [5]⟩,
      ⟨(some 53), .movv, [.t 6], none, []⟩,
      ⟨(some 54), .call, [.f 170, .t 52, .t 53], none, [6, 7, 5]⟩,
      ⟨(some 55), (.bin .leq), [.t 54, .c (.int .i64 0)], none, [8]⟩] false)
    (.cond (.t 55)
     (.region [⟨(some 56), .mov, [.t 10], none, []⟩,
       ⟨(some 8), .mov, [.t 56], none, [0, 0]⟩] false)
     (.region [⟨(some 57), .mov, [.t 10], none, []⟩,
       ⟨(some 58), (.bin .sub), [.t 57, .c (.int .i64 1)], none, [0]⟩,
       ⟨(some 9), .mov, [.t 58], none, [1, 0, 1]⟩] false)))))
def b162l0 : DCode := .keep [2, 3, 4, 5, 6, 7, 8, 9] [2, 3, 4, 19]
  (.seq
   (.seq
    (.region [⟨(some 38), .mov, [.t 8], none, []⟩,
      ⟨(some 39), .mov, [.t 9], none, []⟩,
      ⟨(some 40), (.bin .lss), [.t 38, .t 39], none, [0, 1]⟩] false)
    (.cond (.t 40)
     .skip
     (.exit 2)))
   (.keep [2, 3, 4, 5, 6, 7, 8, 9] [2, 3, 4, 19] b162k0))
def b162k1 : DCode :=
 (.seq
  (.region [⟨(some 59), .movv, [.t 5], none, []⟩,
    ⟨(some 60), .mov, [.t 7], none, []⟩,
    ⟨(some 61), .mov, [.t 8], none, []⟩,
    ⟨(some 62), (.iaddr 1), [.t 59, .t 60], none, [0, 1, 0, 1, 2]⟩,
    ⟨none, (.store 1), [.t 62, .t 61], none, [3, 2, 0, 1, 2]⟩] false)
  (.region [⟨(some 63), .movv, [.t 6], none, []⟩,
    ⟨(some 64), (.faddr 1 false 1), [.t 3], none, []⟩,
    ⟨(some 65), (.load false 1), [.t 64], none, [1]⟩,
    ⟨(some 66), .call, [.f 158, .c (.int .i64 1), .t 65], none, [2]⟩,
    ⟨(some 67), .mov, [.t 8], none, []⟩,
    ⟨(some 68), .call, [.f 132, .t 67], none, [4, 3]⟩,
    ⟨(some 69), .call, [.f 129, .t 66, .t 68], none, [3, 5, 5]⟩,
    ⟨(some 70), (.field 1 false 1), [.t 69], none, [6]⟩,
    ⟨(some 71), .call, [.f 171, .t 63, .t 70], none, [0, 7, 6]⟩,
    ⟨(some 6), .movv, [.t 71], none, [8, 8, 0, 1, 2, 3, 4, 5, 6, 7, 8]⟩] false))
def b162k2 : DCode :=
 (.region [⟨(some 27), .mov, [.t 7], none, []⟩,
   ⟨(some 28), (.bin .sub), [.t 27, .c (.int .i64 1)], none, [0]⟩,
   ⟨(some 7), .mov, [.t 28], none, [1, 0, 1]⟩] false)
def b162k3 : DCode :=
 (.seq
  (.block 1
   (.seq
    (.region [⟨(some 29), (.faddr 1 false 1), [.t 2], none, []⟩,
      ⟨(some 30), (.load false 1), [.t 29], none, [0]⟩,
      ⟨(some 31), .mov, [.t 7], none, []⟩,
      ⟨(some 32), (.iaddr 1), [.t 30, .t 31], none, [1, 2]⟩,
      ⟨(some 33), (.load false 1), [.t 32], none, [3]⟩,
      ⟨(some 34), (.bsl 1), [.t 33], none, [4]⟩,
      ⟨(some 35), .movv, [.t 6], none, []⟩,
      ⟨(some 36), (.append 1 8 false), [.t 34, .t 35], none, [5, 6]⟩,
      ⟨(some 37), .call, [.f 168, .t 36], none, [7, 7]⟩,
      ⟨(some 6), .movv, [.t 37], none, [8, 8, 0, 1, 2, 3, 4, 5, 6, 7, 8]⟩] false)
    (.seq
     (.region [⟨(some 8), .mov, [.c (.int .i64 0)], none, []⟩,
       ⟨(some 9), .mov, [.c (.int .i64 999999999)], none, [0, 0]⟩] false)
     (.seq
      (.block 2
       (.loop b162l0))
      (.keep [2, 3, 4, 5, 6, 7, 8] [2, 3, 4, 19] b162k1)))))
  (.keep [2, 3, 4, 5, 6, 7] [2, 3, 4, 19] b162k2))
def b162l1 : DCode := .keep [2, 3, 4, 5, 6, 7] [2, 3, 4, 19]
  (.seq
   (.seq
    (.region [⟨(some 25), .mov, [.t 7], none, []⟩,
      ⟨(some 26), (.bin .geq), [.t 25, .c (.int .i64 0)], none, [0]⟩] false)
    (.cond (.t 26)
     .skip
     (.exit 0)))
   (.keep [2, 3, 4, 5, 6, 7] [2, 3, 4, 19] b162k3))
def b162k4 : DCode :=
 (.seq
  (.region [⟨(some 87), (.load true 2), [.t 11], none, []⟩,
    ⟨none, (.store 2), [.t 4, .t 87], none, [0, 0]⟩] false)
  .ret)
def b162k5 : DCode :=
 (.seq
  (.freeze [19]
   (.region [⟨(some 72), (.faddr 0 false 1), [.t 2], none, []⟩,
     ⟨(some 73), (.load false 1), [.t 72], none, [0]⟩,
     ⟨(some 74), .movv, [.t 5], none, []⟩,
     ⟨(some 75), .call, [.f 158, .t 73, .t 74], none, [1, 2]⟩,
     ⟨(some 11), (.alloc [(.imm (.int .i64 0)), (.imm (.slc 1 []))]), [], none, []⟩,
     ⟨none, (.store 2), [.t 11, .t 75], none, [4, 3, 3, 0, 1, 2, 3, 4]⟩] false))
  (.seq
   (.seq
    (.region [⟨(some 76), (.faddr 0 false 1), [.t 2], none, []⟩,
      ⟨(some 77), (.load false 1), [.t 76], none, [0]⟩,
      ⟨(some 78), (.bin .lss), [.t 77, .c (.int .i64 0)], none, [1]⟩,
      ⟨(some 79), .mov, [.t 78], none, [2]⟩,
      ⟨(some 80), .movv, [.t 6], (some (79, true)), [3]⟩,
      ⟨(some 81), .len, [.t 80], (some (79, true)), [4, 3]⟩,
      ⟨(some 82), (.bin .gtr), [.t 81, .c (.int .i64 0)], (some (79, true)), [5, 3]⟩,
      ⟨(some 83), .pick, [.t 79, .t 82, .c (.bool false)], none, [3, 6]⟩] false)
    (.cond (.t 83)
     (.region [⟨(some 84), (.load true 2), [.t 11], none, []⟩,
       ⟨(some 85), .call, [.f 132, .c (.int .i64 1)], none, []⟩,
       ⟨(some 86), .call, [.f 157, .t 84, .t 85], none, [0, 1, 1]⟩,
       ⟨none, (.store 2), [.t 11, .t 86], none, [2, 2, 0, 1, 2]⟩] true)
     .skip))
   (.keep [4, 11] [4, 11] b162k4)))
def b162k6 : DCode :=
 (.seq
  (.region [⟨(some 16), (.faddr 1 false 1), [.t 2], none, []⟩,
    ⟨(some 17), (.load false 1), [.t 16], none, [0]⟩,
    ⟨(some 18), .len, [.t 17], none, [1]⟩,
    ⟨(some 19), (.mksl (.int .i64 0) 8), [.t 18, .t 18], none, [2, 2]⟩,
    ⟨(some 20), (.bsl 1), [], none, []⟩,
    ⟨(some 5), .movv, [.t 19], none, [3, 0, 1, 2, 3]⟩,
    ⟨(some 6), .movv, [.t 20], none, [4, 5, 0, 1, 2, 3, 4, 5]⟩] false)
  (.seq
   (.seq
    (.region [⟨(some 21), (.faddr 1 false 1), [.t 2], none, []⟩,
      ⟨(some 22), (.load false 1), [.t 21], none, [0]⟩,
      ⟨(some 23), .len, [.t 22], none, [1]⟩,
      ⟨(some 24), (.bin .sub), [.t 23, .c (.int .i64 1)], none, [2]⟩,
      ⟨(some 7), .mov, [.t 24], none, [3, 0, 1, 2, 3]⟩] false)
    (.block 0
     (.loop b162l1)))
   (.keep [2, 4, 5, 6] [2, 4, 19] b162k5)))
def b162 : DCode :=
 (.seq
  (.region [⟨(some 2), .box, [.t 0], none, []⟩,
    ⟨(some 3), .box, [.t 1], none, []⟩,
    ⟨(some 4), (.alloc [(.imm (.int .i64 0)), (.imm (.slc 1 []))]), [], none, []⟩] false)
  (.seq
   (.seq
    (.region [⟨(some 12), (.faddr 0 false 1), [.t 2], none, []⟩,
      ⟨(some 13), (.load false 1), [.t 12], none, [0]⟩,
      ⟨(some 14), (.bin .eql), [.t 13, .c (.int .i64 0)], none, [1]⟩] false)
    (.cond (.t 14)
     (.seq
      (.region [⟨(some 15), (.build [(.imm (.int .i64 0)), (.imm (.slc 1 []))] []), [], none, []⟩,
        ⟨none, (.store 2), [.t 4, .t 15], none, [0, 0]⟩] false)
      .ret)
     .skip))
   (.keep [2, 3, 4] [2, 3, 4] b162k6)))
def d162 : DFn := ⟨2, 88, [.cell 4 true 2], b162⟩
theorem body162 : d162.body = b162 := rfl
theorem res162 : d162.res = [.cell 4 true 2] := rfl
theorem k162 : chkFn Try.prog Try.f162 d162 = true := by kernel_rfl

/-- guidevane/guidevanebase.wideSize -/
def b169k0 : DCode :=
 (.seq
  (.region [⟨(some 8), (.load true 2), [.t 1], none, []⟩,
    ⟨none, (.store 2), [.t 2, .t 8], none, [0, 0]⟩] false)
  .ret)
def b169 : DCode :=
 (.seq
  (.region [⟨(some 1), .box, [.t 0], none, []⟩,
    ⟨(some 2), (.alloc [(.imm (.int .i64 0)), (.imm (.slc 1 []))]), [], none, []⟩] false)
  (.seq
   (.seq
    (.region [⟨(some 3), (.faddr 0 false 1), [.t 1], none, []⟩,
      ⟨(some 4), (.load false 1), [.t 3], none, [0]⟩,
      ⟨(some 5), (.bin .lss), [.t 4, .c (.int .i64 0)], none, [1]⟩] false)
    (.cond (.t 5)
     (.seq
      (.region [⟨(some 6), (.load true 2), [.t 1], none, []⟩,
        ⟨(some 7), .call, [.f 160, .t 6], none, [0]⟩,
        ⟨none, (.store 2), [.t 2, .t 7], none, [1, 1, 0, 1]⟩] false)
      .ret)
     .skip))
   (.keep [1, 2] [1, 2] b169k0)))
def d169 : DFn := ⟨1, 9, [.cell 2 true 2], b169⟩
theorem body169 : d169.body = b169 := rfl
theorem res169 : d169.res = [.cell 2 true 2] := rfl
theorem k169 : chkFn Try.prog Try.f169 d169 = true := by kernel_rfl

/-- guidevane/guidevanebase.wideGcd -/
def b161k0 : DCode :=
 (.block 1
  (.seq
   (.region [⟨(some 13), (.load true 2), [.t 2], none, []⟩,
     ⟨(some 14), (.load true 2), [.t 2], none, []⟩,
     ⟨(some 15), (.load true 2), [.t 3], none, []⟩,
     ⟨(some 16), .call, [.f 162, .t 14, .t 15], none, [1, 2]⟩,
     ⟨(some 17), (.load true 2), [.t 3], none, []⟩,
     ⟨(some 18), .call, [.f 129, .t 16, .t 17], none, [3, 4, 3]⟩,
     ⟨(some 19), .call, [.f 157, .t 13, .t 18], none, [0, 5, 5]⟩,
     ⟨(some 5), (.alloc [(.imm (.int .i64 0)), (.imm (.slc 1 []))]), [], none, []⟩,
     ⟨none, (.store 2), [.t 5, .t 19], none, [7, 6, 6, 0, 1, 2, 3, 4, 5, 6, 7]⟩] true)
   (.region [⟨(some 20), (.loadf true 2 [3]), [.t 3], none, []⟩,
     ⟨(some 21), (.loadf true 2 [5]), [.t 5], none, []⟩,
     ⟨none, (.storef 2 [2]), [.t 2, .t 20], none, [0, 0]⟩,
     ⟨none, (.storef 2 [3]), [.t 3, .t 21], none, [1, 2, 0, 1, 2]⟩] true)))
def b161l0 : DCode := .keep [2, 3, 4] [2, 3, 4]
  (.seq
   (.seq
    (.region [⟨(some 10), (.load true 2), [.t 3], none, []⟩,
      ⟨(some 11), .call, [.f 159, .t 10], none, [0]⟩,
      ⟨(some 12), (.bin .neq), [.t 11, .c (.int .i64 0)], none, [1]⟩] false)
    (.cond (.t 12)
     .skip
     (.exit 0)))
   (.keep [2, 3, 4] [2, 3, 4] b161k0))
def b161k1 : DCode :=
 (.seq
  (.region [⟨(some 22), (.load true 2), [.t 2], none, []⟩,
    ⟨none, (.store 2), [.t 4, .t 22], none, [0, 0]⟩] false)
  .ret)
def b161 : DCode :=
 (.seq
  (.region [⟨(some 2), .box, [.t 0], none, []⟩,
    ⟨(some 3), .box, [.t 1], none, []⟩,
    ⟨(some 4), (.alloc [(.imm (.int .i64 0)), (.imm (.slc 1 []))]), [], none, []⟩] false)
  (.seq
   (.region [⟨(some 6), (.load true 2), [.t 2], none, []⟩,
     ⟨(some 7), .call, [.f 169, .t 6], none, [0]⟩,
     ⟨(some 8), (.load true 2), [.t 3], none, []⟩,
     ⟨(some 9), .call, [.f 169, .t 8], none, [2, 1]⟩,
     ⟨none, (.store 2), [.t 2, .t 7], none, [1, 3, 0, 1]⟩,
     ⟨none, (.store 2), [.t 3, .t 9], none, [3, 4, 0, 1, 2, 3, 4]⟩] true)
   (.seq
    (.block 0
     (.loop b161l0))
    (.keep [2, 4] [2, 4] b161k1))))
def d161 : DFn := ⟨2, 23, [.cell 4 true 2], b161⟩
theorem body161 : d161.body = b161 := rfl
theorem res161 : d161.res = [.cell 4 true 2] := rfl
theorem k161 : chkFn Try.prog Try.f161 d161 = true := by kernel_rfl

/-- guidevane/guidevanebase.RatioMake -/
def b131k0 : DCode :=
 (.seq
  (.region [⟨(some 23), (.load true 2), [.t 2], none, []⟩,
    ⟨(some 24), (.load true 2), [.t 5], none, []⟩,
    ⟨(some 25), .call, [.f 162, .t 23, .t 24], none, [0, 1]⟩,
    ⟨(some 26), (.load true 2), [.t 3], none, []⟩,
    ⟨(some 27), (.load true 2), [.t 5], none, []⟩,
    ⟨(some 28), .call, [.f 162, .t 26, .t 27], none, [3, 4, 2]⟩,
    ⟨(some 29), (.build [(.imm (.int .i64 0)), (.imm (.slc 1 [])), (.imm (.int .i64 0)), (.imm (.slc 1 []))] [(0, 2), (2, 2)]), [.t 25, .t 28], none, [2, 5]⟩,
    ⟨none, (.store 4), [.t 4, .t 29], none, [6, 5, 0, 1, 2, 3, 4, 5, 6]⟩] true)
  .ret)
def b131k1 : DCode :=
 (.seq
  (.region [⟨(some 13), (.load true 2), [.t 2], none, []⟩,
    ⟨(some 14), (.load true 2), [.t 3], none, []⟩,
    ⟨(some 15), .call, [.f 161, .t 13, .t 14], none, [0, 1]⟩,
    ⟨(some 5), (.alloc [(.imm (.int .i64 0)), (.imm (.slc 1 []))]), [], none, []⟩,
    ⟨none, (.store 2), [.t 5, .t 15], none, [3, 2, 2, 0, 1, 2, 3]⟩] false)
  (.seq
   (.seq
    (.region [⟨(some 16), (.load true 2), [.t 5], none, []⟩,
      ⟨(some 17), .call, [.f 132, .c (.int .i64 1)], none, []⟩,
      ⟨(some 18), .call, [.f 128, .t 16, .t 17], none, [0, 1, 1]⟩,
      ⟨(some 19), (.bin .eql), [.t 18, .c (.int .i64 0)], none, [2]⟩] true)
    (.cond (.t 19)
     (.seq
      (.region [⟨(some 20), (.load true 2), [.t 2], none, []⟩,
        ⟨(some 21), (.load true 2), [.t 3], none, []⟩,
        ⟨(some 22), (.build [(.imm (.int .i64 0)), (.imm (.slc 1 [])), (.imm (.int .i64 0)), (.imm (.slc 1 []))] [(0, 2), (2, 2)]), [.t 20, .t 21], none, [0, 1]⟩,
        ⟨none, (.store 4), [.t 4, .t 22], none, [2, 0, 1, 2]⟩] false)
      .ret)
     .skip))
   (.keep [2, 3, 4, 5] [2, 3, 4, 5] b131k0)))
def b131 : DCode :=
 (.seq
  (.region [⟨(some 2), .box, [.t 0], none, []⟩,
    ⟨(some 3), .box, [.t 1], none, []⟩,
    ⟨(some 4), (.alloc [(.imm (.int .i64 0)), (.imm (.slc 1 [])), (.imm (.int .i64 0)), (.imm (.slc 1 []))]), [], none, []⟩] false)
  (.seq
   (.seq
    (.region [⟨(some 6), (.load true 2), [.t 3], none, []⟩,
      ⟨(some 7), .call, [.f 159, .t 6], none, [0]⟩,
      ⟨(some 8), (.bin .lss), [.t 7, .c (.int .i64 0)], none, [1]⟩] false)
    (.cond (.t 8)
     (.region [⟨(some 9), (.load true 2), [.t 2], none, []⟩,
       ⟨(some 10), .call, [.f 160, .t 9], none, [0]⟩,
       ⟨(some 11), (.load true 2), [.t 3], none, []⟩,
       ⟨(some 12), .call, [.f 160, .t 11], none, [2, 1]⟩,
       ⟨none, (.store 2), [.t 2, .t 10], none, [1, 3, 0, 1]⟩,
       ⟨none, (.store 2), [.t 3, .t 12], none, [3, 4, 0, 1, 2, 3, 4]⟩] true)
     .skip))
   (.keep [2, 3, 4] [2, 3, 4] b131k1)))
def d131 : DFn := ⟨2, 30, [.cell 4 true 4], b131⟩
theorem body131 : d131.body = b131 := rfl
theorem res131 : d131.res = [.cell 4 true 4] := rfl
theorem k131 : chkFn Try.prog Try.f131 d131 = true := by kernel_rfl

/-- guidevane/guidevanebase.RatioOf -/
def b130 : DCode :=
 (.seq
  (.region [⟨(some 4), (.alloc [(.imm (.int .i64 0)), (.imm (.slc 1 [])), (.imm (.int .i64 0)), (.imm (.slc 1 []))]), [], none, []⟩] false)
  (.seq
   (.region [⟨(some 5), .mov, [.t 0], none, []⟩,
     ⟨(some 6), .call, [.f 132, .t 5], none, [0]⟩,
     ⟨(some 7), .mov, [.t 1], none, []⟩,
     ⟨(some 8), .call, [.f 132, .t 7], none, [2, 1]⟩,
     ⟨(some 9), .call, [.f 131, .t 6, .t 8], none, [1, 3, 3]⟩,
     ⟨none, (.store 4), [.t 4, .t 9], none, [4, 4, 0, 1, 2, 3, 4]⟩] false)
   .ret))
def d130 : DFn := ⟨2, 10, [.cell 4 true 4], b130⟩
theorem body130 : d130.body = b130 := rfl
theorem res130 : d130.res = [.cell 4 true 4] := rfl
theorem k130 : chkFn Try.prog Try.f130 d130 = true := by kernel_rfl

/-- guidevane/guidevanebase.RatioInt -/
def b74 : DCode :=
 (.seq
  (.region [⟨(some 2), (.alloc [(.imm (.int .i64 0)), (.imm (.slc 1 [])), (.imm (.int .i64 0)), (.imm (.slc 1 []))]), [], none, []⟩] false)
  (.seq
   (.region [⟨(some 3), .mov, [.t 0], none, []⟩,
     ⟨(some 4), .call, [.f 132, .t 3], none, [0]⟩,
     ⟨(some 5), .call, [.f 132, .c (.int .i64 1)], none, [1]⟩,
     ⟨(some 6), (.build [(.imm (.int .i64 0)), (.imm (.slc 1 [])), (.imm (.int .i64 0)), (.imm (.slc 1 []))] [(0, 2), (2, 2)]), [.t 4, .t 5], none, [1, 2]⟩,
     ⟨none, (.store 4), [.t 2, .t 6], none, [3, 2, 0, 1, 2, 3]⟩] false)
   .ret))
def d74 : DFn := ⟨1, 7, [.cell 2 true 4], b74⟩
theorem body74 : d74.body = b74 := rfl
theorem res74 : d74.res = [.cell 2 true 4] := rfl
theorem k74 : chkFn Try.prog Try.f74 d74 = true := by kernel_rfl

/-- guidevane/guidevanebase.RatioMul -/
def b73 : DCode :=
 (.seq
  (.region [⟨(some 2), .box, [.t 0], none, []⟩,
    ⟨(some 3), .box, [.t 1], none, []⟩,
    ⟨(some 4), (.alloc [(.imm (.int .i64 0)), (.imm (.slc 1 [])), (.imm (.int .i64 0)), (.imm (.slc 1 []))]), [], none, []⟩] false)
  (.seq
   (.region [⟨(some 5), (.faddr 0 true 2), [.t 2], none, []⟩,
     ⟨(some 6), (.load true 2), [.t 5], none, [0]⟩,
     ⟨(some 7), (.faddr 0 true 2), [.t 3], none, []⟩,
     ⟨(some 8), (.load true 2), [.t 7], none, [2]⟩,
     ⟨(some 9), .call, [.f 129, .t 6, .t 8], none, [1, 3]⟩,
     ⟨(some 10), (.faddr 2 true 2), [.t 2], none, []⟩,
     ⟨(some 11), (.load true 2), [.t 10], none, [5]⟩,
     ⟨(some 12), (.faddr 2 true 2), [.t 3], none, []⟩,
     ⟨(some 13), (.load true 2), [.t 12], none, [7]⟩,
     ⟨(some 14), .call, [.f 129, .t 11, .t 13], none, [6, 8, 4]⟩,
     ⟨(some 15), .call, [.f 131, .t 9, .t 14], none, [4, 9, 9]⟩,
     ⟨none, (.store 4), [.t 4, .t 15], none, [10, 10, 0, 1, 2, 3, 4, 5, 6, 7, 8, 9, 10]⟩] true)
   .ret))
def d73 : DFn := ⟨2, 16, [.cell 4 true 4], b73⟩
theorem body73 : d73.body = b73 := rfl
theorem res73 : d73.res = [.cell 4 true 4] := rfl
theorem k73 : chkFn Try.prog Try.f73 d73 = true := by kernel_rfl

/-- guidevane/guidevanebase.RatioCmp -/
def b71 : DCode :=
 (.seq
  (.region [⟨(some 2), .box, [.t 0], none, []⟩,
    ⟨(some 3), .box, [.t 1], none, []⟩,
    ⟨(some 4), .mov, [.c (.int .i64 0)], none, []⟩] false)
  (.seq
   (.region [⟨(some 5), (.faddr 0 true 2), [.t 2], none, []⟩,
     ⟨(some 6), (.load true 2), [.t 5], none, [0]⟩,
     ⟨(some 7), (.faddr 2 true 2), [.t 3], none, []⟩,
     ⟨(some 8), (.load true 2), [.t 7], none, [2]⟩,
     ⟨(some 9), .call, [.f 129, .t 6, .t 8], none, [1, 3]⟩,
     ⟨(some 10), (.faddr 0 true 2), [.t 3], none, []⟩,
     ⟨(some 11), (.load true 2), [.t 10], none, [5]⟩,
     ⟨(some 12), (.faddr 2 true 2), [.t 2], none, []⟩,
     ⟨(some 13), (.load true 2), [.t 12], none, [7]⟩,
     ⟨(some 14), .call, [.f 129, .t 11, .t 13], none, [6, 8, 4]⟩,
     ⟨(some 15), .call, [.f 128, .t 9, .t 14], none, [4, 9, 9]⟩,
     ⟨(some 4), .mov, [.t 15], none, [10, 10, 0, 1, 2, 3, 4, 5, 6, 7, 8, 9, 10]⟩] true)
   .ret))
def d71 : DFn := ⟨2, 16, [.tmp 4], b71⟩
theorem body71 : d71.body = b71 := rfl
theorem res71 : d71.res = [.tmp 4] := rfl
theorem k71 : chkFn Try.prog Try.f71 d71 = true := by kernel_rfl

/-- guidevane/guidevanebase.Within -/
def b27 : DCode :=
 (.seq
  (.region [⟨(some 6), .mov, [.c (.bool false)], none, []⟩] false)
  (.seq
   (.region [⟨(some 7), .mov, [.t 1], none, []⟩,
     ⟨(some 8), .mov, [.t 0], none, []⟩,
     ⟨(some 9), (.bin .leq), [.t 7, .t 8], none, [0, 1]⟩,
     ⟨(some 10), .mov, [.t 9], none, [2]⟩,
     ⟨(some 11), .mov, [.t 0], (some (10, true)), [3]⟩,
     ⟨(some 12), .mov, [.t 2], (some (10, true)), [3]⟩,
     ⟨(some 13), (.bin .leq), [.t 11, .t 12], (some (10, true)), [4, 5, 3]⟩,
     ⟨(some 14), .pick, [.t 10, .t 13, .c (.bool false)], none, [3, 6]⟩,
     ⟨(some 6), .mov, [.t 14], none, [7, 3, 0, 1, 2, 3, 4, 5, 6, 7]⟩] false)
   .ret))
def d27 : DFn := ⟨3, 15, [.tmp 6], b27⟩
theorem body27 : d27.body = b27 := rfl
theorem res27 : d27.res = [.tmp 6] := rfl
theorem k27 : chkFn Try.prog Try.f27 d27 = true := by kernel_rfl

/-- guidevane/guidevanebase.Gcd -/
def b127k0 : DCode :=
 (.block 1
  (.region [⟨(some 7), .mov, [.t 1], none, []⟩,
    ⟨(some 8), .mov, [.t 0], none, []⟩,
    ⟨(some 9), .mov, [.t 1], none, []⟩,
    ⟨(some 10), (.bin .rem), [.t 8, .t 9], none, [1, 2]⟩,
    ⟨(some 0), .mov, [.t 7], none, [0, 0, 1]⟩,
    ⟨(some 1), .mov, [.t 10], none, [3, 4, 0, 1, 2, 3, 4]⟩] true))
def b127l0 : DCode := .keep [0, 1] []
  (.seq
   (.seq
    (.region [⟨(some 5), .mov, [.t 1], none, []⟩,
      ⟨(some 6), (.bin .neq), [.t 5, .c (.int .i64 0)], none, [0]⟩] false)
    (.cond (.t 6)
     .skip
     (.exit 0)))
   (.keep [0, 1] [] b127k0))
def b127k1 : DCode :=
 (.seq
  (.region [⟨(some 11), .mov, [.t 0], none, []⟩,
    ⟨(some 12), .call, [.f 144, .t 11], none, [0]⟩,
    ⟨(some 4), .mov, [.t 12], none, [1, 1, 0, 1]⟩] false)
  .ret)
def b127 : DCode :=
 (.seq
  (.region [⟨(some 4), .mov, [.c (.int .i64 0)], none, []⟩] false)
  (.seq
   (.block 0
    (.loop b127l0))
   (.keep [0] [] b127k1)))
def d127 : DFn := ⟨2, 13, [.tmp 4], b127⟩
theorem body127 : d127.body = b127 := rfl
theorem res127 : d127.res = [.tmp 4] := rfl
theorem k127 : chkFn Try.prog Try.f127 d127 = true := by kernel_rfl

/-- guidevane/guidevanebase.Lowest -/
def b126k0 : DCode :=
 (.seq
  (.region [⟨(some 13), .mov, [.t 0], none, []⟩,
    ⟨(some 14), .mov, [.t 5], none, []⟩,
    ⟨(some 15), (.bin .quo), [.t 13, .t 14], none, [0, 1]⟩,
    ⟨(some 16), .mov, [.t 1], none, []⟩,
    ⟨(some 17), .mov, [.t 5], none, []⟩,
    ⟨(some 18), (.bin .quo), [.t 16, .t 17], none, [3, 4]⟩,
    ⟨(some 19), (.build [(.imm (.int .i64 0)), (.imm (.int .i64 0))] [(0, 1), (1, 1)]), [.t 15, .t 18], none, [2, 5]⟩,
    ⟨none, (.store 2), [.t 4, .t 19], none, [6, 0, 1, 2, 3, 4, 5, 6]⟩] true)
  .ret)
def b126 : DCode :=
 (.seq
  (.region [⟨(some 4), (.alloc [(.imm (.int .i64 0)), (.imm (.int .i64 0))]), [], none, []⟩] false)
  (.seq
   (.region [⟨(some 6), .mov, [.t 0], none, []⟩,
     ⟨(some 7), .mov, [.t 1], none, []⟩,
     ⟨(some 8), .call, [.f 127, .t 6, .t 7], none, [0, 1]⟩,
     ⟨(some 5), .mov, [.t 8], none, [2, 2, 0, 1, 2]⟩] false)
   (.seq
    (.seq
     (.region [⟨(some 9), .mov, [.t 1], none, []⟩,
       ⟨(some 10), (.bin .lss), [.t 9, .c (.int .i64 0)], none, [0]⟩] false)
     (.cond (.t 10)
      (.region [⟨(some 11), .mov, [.t 5], none, []⟩,
        ⟨(some 12), (.un .neg), [.t 11], none, [0]⟩,
        ⟨(some 5), .mov, [.t 12], none, [1, 0, 1]⟩] false)
      .skip))
    (.keep [0, 1, 4, 5] [4] b126k0))))
def d126 : DFn := ⟨2, 20, [.cell 4 true 2], b126⟩
theorem body126 : d126.body = b126 := rfl
theorem res126 : d126.res = [.cell 4 true 2] := rfl
theorem k126 : chkFn Try.prog Try.f126 d126 = true := by kernel_rfl

/-- guidevane/guidevanebase.IsLowest -/
def b69 : DCode :=
 (.seq
  (.region [⟨(some 1), .box, [.t 0], none, []⟩,
    ⟨(some 2), .mov, [.c (.bool false)], none, []⟩] false)
  (.seq
   (.region [⟨(some 3), (.faddr 1 false 1), [.t 1], none, []⟩,
     ⟨(some 4), (.load false 1), [.t 3], none, [0]⟩,
     ⟨(some 5), (.bin .gtr), [.t 4, .c (.int .i64 0)], none, [1]⟩,
     ⟨(some 6), .mov, [.t 5], none, [2]⟩,
     ⟨(some 7), (.faddr 0 false 1), [.t 1], (some (6, true)), [3]⟩,
     ⟨(some 8), (.load false 1), [.t 7], (some (6, true)), [4, 3]⟩,
     ⟨(some 9), (.faddr 1 false 1), [.t 1], (some (6, true)), [3]⟩,
     ⟨(some 10), (.load false 1), [.t 9], (some (6, true)), [6, 3]⟩,
     ⟨(some 11), .call, [.f 127, .t 8, .t 10], (some (6, true)), [5, 7, 3, 3]⟩,
     ⟨(some 12), (.bin .eql), [.t 11, .c (.int .i64 1)], (some (6, true)), [8, 3]⟩,
     ⟨(some 13), .pick, [.t 6, .t 12, .c (.bool false)], none, [3, 9]⟩,
     ⟨(some 2), .mov, [.t 13], none, [10, 8, 0, 1, 2, 3, 4, 5, 6, 7, 8, 9, 10]⟩] false)
   .ret))
def d69 : DFn := ⟨1, 14, [.tmp 2], b69⟩
theorem body69 : d69.body = b69 := rfl
theorem res69 : d69.res = [.tmp 2] := rfl
theorem k69 : chkFn Try.prog Try.f69 d69 = true := by kernel_rfl

/-- guidevane/guidevanebase.IsSmall -/
def b70 : DCode :=
 (.seq
  (.region [⟨(some 1), .box, [.t 0], none, []⟩,
    ⟨(some 2), .mov, [.c (.bool false)], none, []⟩] false)
  (.seq
   (.region [⟨(some 3), (.faddr 0 false 1), [.t 1], none, []⟩,
     ⟨(some 4), (.load false 1), [.t 3], none, [0]⟩,
     ⟨(some 5), .call, [.f 27, .t 4, .c (.int .i64 (-1000000000)), .c (.int .i64 1000000000)], none, [1]⟩,
     ⟨(some 6), .mov, [.t 5], none, [2, 2]⟩,
     ⟨(some 7), (.faddr 1 false 1), [.t 1], (some (6, true)), [3]⟩,
     ⟨(some 8), (.load false 1), [.t 7], (some (6, true)), [4, 3]⟩,
     ⟨(some 9), .call, [.f 27, .t 8, .c (.int .i64 1), .c (.int .i64 1000000000)], (some (6, true)), [5, 3, 3]⟩,
     ⟨(some 10), .pick, [.t 6, .t 9, .c (.bool false)], none, [3, 6]⟩,
     ⟨(some 2), .mov, [.t 10], none, [7, 6, 0, 1, 2, 3, 4, 5, 6, 7]⟩] false)
   .ret))
def d70 : DFn := ⟨1, 11, [.tmp 2], b70⟩
theorem body70 : d70.body = b70 := rfl
theorem res70 : d70.res = [.tmp 2] := rfl
theorem k70 : chkFn Try.prog Try.f70 d70 = true := by kernel_rfl

/-- guidevane/guidevanebase.Ints -/
def b46k0 : DCode :=
 (.region [⟨(some 15), .mov, [.t 5], none, []⟩,
   ⟨(some 16), (.bin .add), [.t 15, .c (.int .i64 1)], none, [0]⟩,
   ⟨(some 5), .mov, [.t 16], none, [1, 0, 1]⟩] false)
def b46k1 : DCode :=
 (.seq
  (.block 1
   (.seq
    (.region [⟨(some 17), .movv, [.t 0], none, []⟩,
      ⟨(some 18), .mov, [.t 5], none, []⟩,
      ⟨(some 19), (.iaddr 1), [.t 17, .t 18], none, [0, 1]⟩,
      ⟨(some 20), (.load false 1), [.t 19], none, [2]⟩,
      ⟨(some 21), .movv, [.t 1], none, []⟩,
      ⟨(some 22), .mov, [.t 5], none, []⟩,
      ⟨(some 23), (.iaddr 1), [.t 21, .t 22], none, [4, 5]⟩,
      ⟨(some 24), (.load false 1), [.t 23], none, [6]⟩,
      ⟨(some 25), (.bin .neq), [.t 20, .t 24], none, [3, 7]⟩] true)
    (.cond (.t 25)
     (.seq
      (.region [⟨(some 4), .mov, [.c (.bool false)], none, []⟩] false)
      .ret)
     .skip)))
  (.keep [0, 1, 5] [] b46k0))
def b46l0 : DCode := .keep [0, 1, 5] []
  (.seq
   (.seq
    (.region [⟨(some 11), .mov, [.t 5], none, []⟩,
      ⟨(some 12), .movv, [.t 0], none, []⟩,
      ⟨(some 13), .len, [.t 12], none, [1]⟩,
      ⟨(some 14), (.bin .lss), [.t 11, .t 13], none, [0, 2]⟩] false)
    (.cond (.t 14)
     .skip
     (.exit 0)))
   (.keep [0, 1, 5] [] b46k1))
def b46k2 : DCode :=
 (.seq
  (.region [⟨(some 4), .mov, [.c (.bool true)], none, []⟩] false)
  .ret)
def b46k3 : DCode :=
 (.seq
  (.seq
   (.region [⟨(some 5), .mov, [.c (.int .i64 0)], none, []⟩] false)
   (.block 0
    (.loop b46l0)))
  (.keep [] [] b46k2))
def b46 : DCode :=
 (.seq
  (.region [⟨(some 4), .mov, [.c (.bool false)], none, []⟩] false)
  (.seq
   (.seq
    (.region [⟨(some 6), .movv, [.t 0], none, []⟩,
      ⟨(some 7), .len, [.t 6], none, [0]⟩,
      ⟨(some 8), .movv, [.t 1], none, []⟩,
      ⟨(some 9), .len, [.t 8], none, [2]⟩,
      ⟨(some 10), (.bin .neq), [.t 7, .t 9], none, [1, 3]⟩] false)
    (.cond (.t 10)
     (.seq
      (.region [⟨(some 4), .mov, [.c (.bool false)], none, []⟩] false)
      .ret)
     .skip))
   (.keep [0, 1] [] b46k3)))
def d46 : DFn := ⟨2, 26, [.tmp 4], b46⟩
theorem body46 : d46.body = b46 := rfl
theorem res46 : d46.res = [.tmp 4] := rfl
theorem k46 : chkFn Try.prog Try.f46 d46 = true := by kernel_rfl

end Go.DI.Wd

/- Contracts of the base's small functions. No condition. -/
set_option linter.unusedSimpArgs false
namespace Go.DI.Wd
open Go.Proofs Go.RowKit

theorem wrap64 {n : Int} (h1 : -9223372036854775808 ≤ n) (h2 : n ≤ 9223372036854775807) : IntKind.wrap .i64 n = n := IntWalk.i64_in n ⟨h1, h2⟩

theorem c_Size {n : Int} (h1 : -9223372036854775807 ≤ n) (h2 : n ≤ 9223372036854775807) : Contract Try.prog 144 [.int .i64 n] (.int .i64 n.natAbs) := by
  refine contract_run Try.func144 k144 rfl ?_
  simp only [body144, b144, res144, ↓reduceIte, reduceCtorEq, Nat.reduceEqDiff, Nat.reduceAdd, Nat.reduceMul, Nat.reduceSub, Nat.reduceLeDiff, Nat.reduceBEq, Int.reduceToNat, Int.reduceLE, Int.reduceLT, Int.reduceEq, Int.reduceNe, di0, di1, di2, di3, di4, di5, di6, di7, di8, di9, postX_ret, postX_normal, ex_some]
  rw [wrap64 (by omega) (by omega)]
  congr 2
  omega

theorem c_Within {x lo hi : Int} : Contract Try.prog 27 [.int .i64 x, .int .i64 lo, .int .i64 hi] (.bool (decide (lo ≤ x ∧ x ≤ hi))) := by
  refine contract_run Try.func27 k27 rfl ?_
  simp only [body27, b27, res27, ↓reduceIte, reduceCtorEq, Nat.reduceEqDiff, Nat.reduceAdd, Nat.reduceMul, Nat.reduceSub, Nat.reduceLeDiff, Nat.reduceBEq, Int.reduceToNat, Int.reduceLE, Int.reduceLT, Int.reduceEq, Int.reduceNe, di0, di1, di2, di3, di4, di5, di6, di7, di8, di9, postX_ret, postX_normal, ex_some]
  split
  · rename_i h; simp [h]
  · rename_i h; simp [h]

theorem c_digit {l : List Int} {i : Int} (hi : 0 ≤ i) : Contract Try.prog 174 [.slc 1 (l.map (.int .i64)), .int .i64 i] (.int .i64 (l.getD i.toNat 0)) := by
  refine contract_run Try.func174 k174 rfl ?_
  simp only [body174, b174, res174, b174k0, ↓reduceIte, reduceCtorEq, Nat.reduceEqDiff, Nat.reduceAdd, Nat.reduceMul, Nat.reduceSub, Nat.reduceLeDiff, Nat.reduceBEq, Int.reduceToNat, Int.reduceLE, Int.reduceLT, Int.reduceEq, Int.reduceNe, di0, di1, di2, di3, di4, di5, di6, di7, di8, di9, postX_ret, postX_normal, ex_some]
  split
  · rename_i h; exact ⟨hi, h⟩
  · rename_i h; rw [List.getD_eq_getElem?_getD, List.getElem?_eq_none (by omega)]
    simp

/-- How many digits are left, when zeros at the end are left away. -/
def trimLen (l : List Int) : Nat → Nat
  | 0 => 0
  | n + 1 => if l.getD n 0 = 0 then trimLen l n else n + 1
def trim (l : List Int) : List Int := l.take (trimLen l l.length)

theorem trimLen_succ (l : List Int) (n : Nat) : trimLen l (n + 1) = if l.getD n 0 = 0 then trimLen l n else n + 1 := rfl
theorem trimLen_le (l : List Int) : ∀ n, trimLen l n ≤ n
  | 0 => Nat.le_refl _
  | n + 1 => by
    unfold trimLen
    split
    · exact Nat.le_succ_of_le (trimLen_le l n)
    · exact Nat.le_refl _

theorem c_trimmed {l : List Int} (hl : l.length ≤ 9223372036854775807) : Contract Try.prog 168 [.slc 1 (l.map (.int .i64))] (.slc 1 ((trim l).map (.int .i64))) := by
  refine contract_run Try.func168 k168 rfl ?_
  simp only [body168, b168, res168, b168k0, b168k1, ↓reduceIte, reduceCtorEq, Nat.reduceEqDiff, Nat.reduceAdd, Nat.reduceMul, Nat.reduceSub, Nat.reduceLeDiff, Nat.reduceBEq, Int.reduceToNat, Int.reduceLE, Int.reduceLT, Int.reduceEq, Int.reduceNe, di0, di1, di2, di3, di4, di5, di6, di7, di8, di9, postX_ret, postX_normal, ex_some]
  refine loop_keep (α := Nat) rfl (fun n => n) (fun n => n ≤ l.length ∧ trimLen l n = trimLen l l.length)
    (fun n => [(0, .imm (.slc 1 (l.map (.int .i64)))), (3, .imm (.int .i64 n))]) (fun _ => []) l.length ⟨Nat.le_refl _, rfl⟩ (by simp only [↓reduceIte, reduceCtorEq, Nat.reduceEqDiff, Nat.reduceAdd, Nat.reduceMul, Nat.reduceSub, Nat.reduceLeDiff, Nat.reduceBEq, Int.reduceToNat, Int.reduceLE, Int.reduceLT, Int.reduceEq, Int.reduceNe, di0, di1, di2, di3, di4, di5, di6, di7, di8, di9, postX_ret, postX_normal, ex_some]) ?_
  intro n ⟨hn, ht⟩ ih
  have fin : trimLen l n = n → l.take n = trim l := fun h => by unfold trim; rw [← ht, h]
  simp only [res168, b168k0, b168k1, ↓reduceIte, reduceCtorEq, Nat.reduceEqDiff, Nat.reduceAdd, Nat.reduceMul, Nat.reduceSub, Nat.reduceLeDiff, Nat.reduceBEq, Int.reduceToNat, Int.reduceLE, Int.reduceLT, Int.reduceEq, Int.reduceNe, di0, di1, di2, di3, di4, di5, di6, di7, di8, di9, postX_ret, postX_normal, ex_some]
  cases n with
  | zero =>
    rw [if_neg (by omega)]
    have := fin rfl
    refine ⟨by omega, ?_⟩
    rw [← this]
  | succ m =>
    rw [if_pos (by omega), wrap64 (by omega) (by omega)]
    have e : (((m + 1 : Nat) : Int) - 1) = m := by omega
    rw [e]
    refine ⟨by omega, by omega, ?_⟩
    split
    · rename_i h
      refine ih m _ _ (by omega) ⟨by omega, ?_⟩ (by simp only [↓reduceIte, reduceCtorEq, Nat.reduceEqDiff, Nat.reduceAdd, Nat.reduceMul, Nat.reduceSub, Nat.reduceLeDiff, Nat.reduceBEq, Int.reduceToNat, Int.reduceLE, Int.reduceLT, Int.reduceEq, Int.reduceNe, di0, di1, di2, di3, di4, di5, di6, di7, di8, di9, postX_ret, postX_normal, ex_some])
      rw [← ht, trimLen_succ, if_pos (by simpa using h)]
    · rename_i h
      have := fin (by rw [trimLen_succ, if_neg (by simpa using h)])
      refine ⟨by omega, ?_⟩
      rw [← this]
end Go.DI.Wd

/- Numbers of whatever size, as digits to the base of a thousand million: plain arithmetic, no program in sight. -/
namespace Go.DI.Wd

def val : List Int → Int
  | [] => 0
  | d :: l => d + 1000000000 * val l
def WF (l : List Int) : Prop := ∀ d ∈ l, 0 ≤ d ∧ d < 1000000000

theorem WF.nil : WF [] := by intro d h; cases h
theorem WF.cons {d : Int} {l : List Int} (h1 : 0 ≤ d) (h2 : d < 1000000000) (h : WF l) : WF (d :: l) := by
  intro x hx
  rcases List.mem_cons.1 hx with rfl | k
  · exact ⟨h1, h2⟩
  · exact h x k
theorem WF.tail {d : Int} {l : List Int} (h : WF (d :: l)) : WF l := fun x hx => h x (List.mem_cons_of_mem _ hx)
theorem WF.head {d : Int} {l : List Int} (h : WF (d :: l)) : 0 ≤ d ∧ d < 1000000000 := h d (by simp)
theorem WF.append {l m : List Int} (h : WF l) (h' : WF m) : WF (l ++ m) := by
  intro x hx
  rcases List.mem_append.1 hx with k | k
  · exact h x k
  · exact h' x k
theorem WF.take {l : List Int} (h : WF l) (n : Nat) : WF (l.take n) := fun x hx => h x (List.mem_of_mem_take hx)
theorem WF.getD {l : List Int} (h : WF l) (i : Nat) : 0 ≤ l.getD i 0 ∧ l.getD i 0 < 1000000000 := by
  rw [List.getD_eq_getElem?_getD]
  cases hi : l[i]? with
  | none => simp
  | some d => simpa using h d (List.mem_of_getElem? hi)

theorem val_nonneg : ∀ {l : List Int}, WF l → 0 ≤ val l
  | [], _ => by simp [val]
  | d :: l, h => by
    have := val_nonneg h.tail
    have := h.head
    simp only [val]
    omega

theorem val_append : ∀ (l m : List Int), val (l ++ m) = val l + 1000000000 ^ l.length * val m
  | [], m => by simp [val]
  | d :: l, m => by
    simp only [List.cons_append, val, val_append l m, List.length_cons, Int.pow_succ]
    rw [Int.mul_add, Int.add_assoc, Int.mul_comm (1000000000 ^ l.length) 1000000000, Int.mul_assoc]

theorem val_lt : ∀ {l : List Int}, WF l → val l < 1000000000 ^ l.length
  | [], _ => by simp [val]
  | d :: l, h => by
    have ih := val_lt h.tail
    have := h.head
    simp only [val, List.length_cons, Int.pow_succ]
    omega

def digs (n : Nat) : List Int := if n = 0 then [] else ((n % 1000000000 : Nat) : Int) :: digs (n / 1000000000)
termination_by n
decreasing_by omega

theorem digs_zero : digs 0 = [] := by unfold digs; simp
theorem digs_pos {n : Nat} (h : n ≠ 0) : digs n = ((n % 1000000000 : Nat) : Int) :: digs (n / 1000000000) := by
  rw [digs, if_neg h]
theorem digs_nil {n : Nat} : digs n = [] ↔ n = 0 := by
  by_cases h : n = 0
  · subst h; simp [digs_zero]
  · rw [digs_pos h]; simp [h]

theorem wf_digs : ∀ (n : Nat), WF (digs n) := by
  intro n
  induction n using Nat.strongRecOn with
  | _ n ih =>
    by_cases h : n = 0
    · subst h; rw [digs_zero]; exact WF.nil
    · rw [digs_pos h]
      exact WF.cons (by omega) (by omega) (ih _ (by omega))

theorem val_digs : ∀ (n : Nat), val (digs n) = n := by
  intro n
  induction n using Nat.strongRecOn with
  | _ n ih =>
    by_cases h : n = 0
    · subst h; rw [digs_zero]; rfl
    · rw [digs_pos h]
      simp only [val, ih _ (show n / 1000000000 < n by omega)]
      omega

theorem trimLen_cons (d : Int) (r : List Int) : ∀ n, trimLen (d :: r) (n + 1) = if trimLen r n = 0 then (if d = 0 then 0 else 1) else trimLen r n + 1
  | 0 => by
    rw [trimLen_succ]
    simp [trimLen]
  | n + 1 => by
    rw [trimLen_succ, trimLen_cons d r n, trimLen_succ r n]
    have e : (d :: r).getD (n + 1) 0 = r.getD n 0 := by simp [List.getD_eq_getElem?_getD]
    rw [e]
    split
    · rfl
    · simp

theorem trim_cons (d : Int) (r : List Int) : trim (d :: r) = if trimLen r r.length = 0 then (if d = 0 then [] else [d]) else d :: trim r := by
  unfold trim
  rw [List.length_cons, trimLen_cons]
  split
  · split <;> simp
  · simp

theorem trim_nil_iff (l : List Int) : trim l = [] ↔ trimLen l l.length = 0 := by
  have h := trimLen_le l l.length
  unfold trim
  rw [List.take_eq_nil_iff]
  constructor
  · rintro (h1 | h1)
    · exact h1
    · subst h1; rfl
  · exact .inl

theorem trim_digs : ∀ {l : List Int}, WF l → trim l = digs (val l).toNat
  | [], _ => by
    have : trim [] = [] := rfl
    rw [this]; simp [val, digs_zero]
  | d :: r, h => by
    have ih := trim_digs h.tail
    have hd := h.head
    have hr := val_nonneg h.tail
    have hm : ((val r).toNat : Int) = val r := Int.toNat_of_nonneg hr
    generalize hmm : (val r).toNat = m at ih hm
    have hv : (val (d :: r)).toNat = d.toNat + 1000000000 * m := by
      simp only [val, ← hm]; omega
    rw [trim_cons, hv]
    by_cases h0 : m = 0
    · subst h0
      rw [digs_zero] at ih
      rw [if_pos ((trim_nil_iff r).1 ih)]
      by_cases hd0 : d = 0
      · subst hd0; simp [digs_zero]
      · rw [if_neg hd0, digs_pos (by omega)]
        have e1 : (((d.toNat + 1000000000 * 0) % 1000000000 : Nat) : Int) = d := by omega
        have e2 : (d.toNat + 1000000000 * 0) / 1000000000 = 0 := by omega
        rw [e1, e2, digs_zero]
    · have hn : ¬ trimLen r r.length = 0 := fun k => h0 (digs_nil.1 (ih.symm.trans ((trim_nil_iff r).2 k)))
      rw [if_neg hn, ih, digs_pos (n := d.toNat + 1000000000 * m) (by omega)]
      have e1 : (((d.toNat + 1000000000 * m) % 1000000000 : Nat) : Int) = d := by omega
      have e2 : (d.toNat + 1000000000 * m) / 1000000000 = m := by omega
      rw [e1, e2]

theorem digs_length_le : ∀ (k n : Nat), n < 1000000000 ^ k → (digs n).length ≤ k
  | 0, n, h => by
    have : n = 0 := by simpa using h
    subst this; simp [digs_zero]
  | k + 1, n, h => by
    by_cases h0 : n = 0
    · subst h0; simp [digs_zero]
    · rw [digs_pos h0, List.length_cons]
      have := digs_length_le k (n / 1000000000) (by
        rw [Nat.pow_succ] at h
        omega)
      omega

/-- A number as the program has it. -/
def wide (z : Int) : IV := .agg [.int .i64 z.sign, .slc 1 ((digs z.natAbs).map (.int .i64))]

end Go.DI.Wd

/- Contracts: making wide numbers. No condition. -/
set_option linter.unusedSimpArgs false
namespace Go.DI.Wd
open Go.Proofs Go.RowKit

theorem c_wideOf {s : Int} {l : List Int} (hl : l.length ≤ 9223372036854775807) (hw : WF l) (h0 : s.natAbs ≤ 1) (hs : s = 0 → val l = 0) :
    Contract Try.prog 158 [.int .i64 s, .slc 1 (l.map (.int .i64))] (wide (s * val l)) := by
  refine contract_run Try.func158 k158 rfl ?_
  simp only [body158, b158, res158, b158k0, ↓reduceIte, reduceCtorEq, Nat.reduceEqDiff, Nat.reduceAdd, Nat.reduceMul, Nat.reduceSub, Nat.reduceLeDiff, Nat.reduceBEq, Int.reduceToNat, Int.reduceLE, Int.reduceLT, Int.reduceEq, Int.reduceNe, di0, di1, di2, di3, di4, di5, di6, di7, di8, di9, postX_ret, postX_normal, ex_some]
  refine calls_of (c_trimmed hl) ?_
  simp only [res158, ↓reduceIte, reduceCtorEq, Nat.reduceEqDiff, Nat.reduceAdd, Nat.reduceMul, Nat.reduceSub, Nat.reduceLeDiff, Nat.reduceBEq, Int.reduceToNat, Int.reduceLE, Int.reduceLT, Int.reduceEq, Int.reduceNe, di0, di1, di2, di3, di4, di5, di6, di7, di8, di9, postX_ret, postX_normal, ex_some]
  have hv := val_nonneg hw
  have e : digs (s * val l).natAbs = trim l := by
    rw [trim_digs hw]
    congr 1
    rcases (by omega : s = 0 ∨ s = 1 ∨ s = -1) with rfl | rfl | rfl
    · rw [hs rfl]; rfl
    · omega
    · omega
  unfold wide
  rw [e]
  split
  · rename_i h
    have h1 : trim l = [] := List.eq_nil_of_length_eq_zero (by omega)
    have h2 : (val l).toNat = 0 := digs_nil.1 ((trim_digs hw).symm.trans h1)
    have h3 : val l = 0 := by omega
    rw [h3]; simp
  · rename_i h
    have h1 : trim l ≠ [] := fun k => h (by rw [k]; rfl)
    have h2 : (val l).toNat ≠ 0 := fun k => h1 ((trim_digs hw).trans (digs_nil.2 k))
    have h4 : s ≠ 0 := fun k => by have := hs k; omega
    have : (s * val l).sign = s := by
      rw [Int.sign_mul, Int.sign_eq_one_of_pos (a := val l) (by omega), Int.mul_one]
      rcases (by omega : s = 1 ∨ s = -1) with rfl | rfl <;> rfl
    rw [this]

theorem pow_bound {k : Nat} (h : (1000000000 : Int) ^ k ≤ 9223372036854775807) : k ≤ 2 := by
  by_cases hk : k ≤ 2
  · exact hk
  · exfalso
    have e : k = 3 + (k - 3) := by omega
    rw [e, Int.pow_add] at h
    have h1 : (1 : Int) ≤ 1000000000 ^ (k - 3) := Int.pow_pos (by omega)
    have h2 : (1000000000 : Int) ^ 3 * 1 ≤ 1000000000 ^ 3 * 1000000000 ^ (k - 3) := Int.mul_le_mul_of_nonneg_left h1 (by decide)
    have h3 : (1000000000 : Int) ^ 3 * 1 = 1000000000000000000000000000 := by decide
    omega

theorem c_WideOf {n : Int} (h1 : -9223372036854775807 ≤ n) (h2 : n ≤ 9223372036854775807) : Contract Try.prog 132 [.int .i64 n] (wide n) := by
  refine contract_run Try.func132 k132 rfl ?_
  simp only [body132, b132, res132, b132k0, b132k1, b132k2, ↓reduceIte, reduceCtorEq, Nat.reduceEqDiff, Nat.reduceAdd, Nat.reduceMul, Nat.reduceSub, Nat.reduceLeDiff, Nat.reduceBEq, Int.reduceToNat, Int.reduceLE, Int.reduceLT, Int.reduceEq, Int.reduceNe, di0, di1, di2, di3, di4, di5, di6, di7, di8, di9, postX_ret, postX_normal, ex_some]
  have key : ∀ E R, (mkS E R).keep [0, 2, 3, 4] [2, 4, 14] = mkS [(0, .imm (.int .i64 n)), (2, .ref 2 0), (3, .imm (.int .i64 (if n < 0 then -1 else 1))), (4, .own 4)] [(2, .box [.imm (.int .i64 0), .imm (.slc 1 [])]), (4, .tok 1 [])] →
      run Try.prog (.loop b132l0) [.block 0, .seq (.keep [2, 3, 4] [2, 4, 14] b132k1)] (d132.post (wide n)) (mkS E R) := by
    intro E R hk
    refine loop_keep (α := Int × List Int) rfl (fun x => x.1.natAbs)
      (fun x => WF x.2 ∧ val x.2 + 1000000000 ^ x.2.length * x.1.natAbs = n.natAbs ∧ x.1.natAbs ≤ n.natAbs ∧ (x.1.natAbs : Int) * 1000000000 ^ x.2.length ≤ n.natAbs ∧ x.2.length ≤ 3)
      (fun x => [(0, .imm (.int .i64 x.1)), (2, .ref 2 0), (3, .imm (.int .i64 (if n < 0 then -1 else 1))), (4, .own 4)])
      (fun x => [(2, .box [.imm (.int .i64 0), .imm (.slc 1 [])]), (4, .tok 1 (x.2.map (.int .i64)))]) (n, []) ⟨WF.nil, by simp [val], Nat.le_refl _, by simp, by simp⟩ hk ?_
    rintro ⟨m, l⟩ ⟨hw, hv, hle, hlen, h3⟩ ih
    dsimp only at hw hv hle hlen h3
    simp only [res132, b132k0, b132k1, b132k2, ↓reduceIte, reduceCtorEq, Nat.reduceEqDiff, Nat.reduceAdd, Nat.reduceMul, Nat.reduceSub, Nat.reduceLeDiff, Nat.reduceBEq, Int.reduceToNat, Int.reduceLE, Int.reduceLT, Int.reduceEq, Int.reduceNe, di0, di1, di2, di3, di4, di5, di6, di7, di8, di9, postX_ret, postX_normal, ex_some]
    split
    · rename_i h0
      subst h0
      have hv' : val l = n.natAbs := by simpa using hv
      have hb : l.length ≤ 9223372036854775807 := by omega
      refine calls_of (c_wideOf hb hw (by split <;> decide) (by intro h; split at h <;> omega)) ?_
      have e : (if n < 0 then (-1 : Int) else 1) * val l = n := by rw [hv']; split <;> omega
      rw [e]
      simp only [res132, b132k0, b132k1, b132k2, wide, ↓reduceIte, reduceCtorEq, Nat.reduceEqDiff, Nat.reduceAdd, Nat.reduceMul, Nat.reduceSub, Nat.reduceLeDiff, Nat.reduceBEq, Int.reduceToNat, Int.reduceLE, Int.reduceLT, Int.reduceEq, Int.reduceNe, di0, di1, di2, di3, di4, di5, di6, di7, di8, di9, postX_ret, postX_normal, ex_some]
    · rename_i h0
      have h1 : (m.tmod 1000000000).natAbs = m.natAbs % 1000000000 := by rw [Int.natAbs_tmod]; rfl
      have h2 : (m.tdiv 1000000000).natAbs = m.natAbs / 1000000000 := by rw [Int.natAbs_tdiv]; rfl
      refine calls_of (c_Size (by omega) (by omega)) ?_
      simp only [res132, b132k0, b132k1, b132k2, ↓reduceIte, reduceCtorEq, Nat.reduceEqDiff, Nat.reduceAdd, Nat.reduceMul, Nat.reduceSub, Nat.reduceLeDiff, Nat.reduceBEq, Int.reduceToNat, Int.reduceLE, Int.reduceLT, Int.reduceEq, Int.reduceNe, di0, di1, di2, di3, di4, di5, di6, di7, di8, di9, postX_ret, postX_normal, ex_some]
      have hb : l.length ≤ 2 := pow_bound (by
        have : (1 : Int) * 1000000000 ^ l.length ≤ m.natAbs * 1000000000 ^ l.length := Int.mul_le_mul_of_nonneg_right (by omega) (Int.le_of_lt (Int.pow_pos (by omega)))
        omega)
      have hdm := Nat.div_add_mod m.natAbs 1000000000
      refine ⟨by omega, by omega, ?_⟩
      rw [wrap64 (by omega) (by omega)]
      refine ih (m.tdiv 1000000000, l ++ [((m.tmod 1000000000).natAbs : Int)]) _ _ (by dsimp only; omega) ⟨?_, ?_, ?_, ?_, by simp; omega⟩ (by simp only [↓reduceIte, reduceCtorEq, Nat.reduceEqDiff, Nat.reduceAdd, Nat.reduceMul, Nat.reduceSub, Nat.reduceLeDiff, Nat.reduceBEq, Int.reduceToNat, Int.reduceLE, Int.reduceLT, Int.reduceEq, Int.reduceNe, di0, di1, di2, di3, di4, di5, di6, di7, di8, di9, postX_ret, postX_normal, ex_some])
      · exact hw.append (WF.cons (by omega) (by omega) WF.nil)
      · simp only [val_append, val, List.length_append, List.length_cons, List.length_nil, Int.pow_succ, Nat.zero_add, Int.mul_zero, Int.add_zero, h1, h2, Int.pow_zero]
        rw [← hv, Int.add_assoc]
        congr 1
        rw [Int.mul_assoc, ← Int.mul_add]
        congr 1
        omega
      · dsimp only; omega
      · dsimp only
        rw [List.length_append, List.length_cons, List.length_nil, Int.pow_succ, h2]
        have e : ((m.natAbs / 1000000000 : Nat) : Int) * (1000000000 ^ l.length * 1000000000) = (((m.natAbs / 1000000000 : Nat) : Int) * 1000000000) * 1000000000 ^ l.length := by
          rw [Int.mul_comm (1000000000 ^ l.length) 1000000000, Int.mul_assoc]
        rw [e]
        refine Int.le_trans (Int.mul_le_mul_of_nonneg_right ?_ (Int.le_of_lt (Int.pow_pos (by omega)))) hlen
        omega
  split
  · rename_i h
    exact key _ _ (by simp only [h, ↓reduceIte, reduceCtorEq, Nat.reduceEqDiff, Nat.reduceAdd, Nat.reduceMul, Nat.reduceSub, Nat.reduceLeDiff, Nat.reduceBEq, Int.reduceToNat, Int.reduceLE, Int.reduceLT, Int.reduceEq, Int.reduceNe, di0, di1, di2, di3, di4, di5, di6, di7, di8, di9, postX_ret, postX_normal, ex_some])
  · rename_i h
    exact key _ _ (by simp only [h, ↓reduceIte, reduceCtorEq, Nat.reduceEqDiff, Nat.reduceAdd, Nat.reduceMul, Nat.reduceSub, Nat.reduceLeDiff, Nat.reduceBEq, Int.reduceToNat, Int.reduceLE, Int.reduceLT, Int.reduceEq, Int.reduceNe, di0, di1, di2, di3, di4, di5, di6, di7, di8, di9, postX_ret, postX_normal, ex_some])
end Go.DI.Wd

/- Contracts: digits compared, added, subtracted. No condition. -/
set_option linter.unusedSimpArgs false
namespace Go.DI.Wd
open Go.Proofs Go.RowKit

theorem val_drop (l : List Int) (i : Nat) : val (l.drop i) = l.getD i 0 + 1000000000 * val (l.drop (i + 1)) := by
  by_cases h : i < l.length
  · rw [List.drop_eq_getElem_cons h]
    simp only [val]
    congr 1
    rw [List.getD_eq_getElem?_getD]
    simp [h]
  · rw [List.drop_eq_nil_of_le (by omega), List.drop_eq_nil_of_le (by omega), List.getD_eq_getElem?_getD, List.getElem?_eq_none (by omega)]
    rfl

theorem getD_end {l : List Int} {i : Nat} (h : l.length ≤ i) : l.getD i 0 = 0 := by
  rw [List.getD_eq_getElem?_getD, List.getElem?_eq_none h]; rfl

theorem digs_mono : ∀ {n m : Nat}, n ≤ m → (digs n).length ≤ (digs m).length := by
  intro n
  induction n using Nat.strongRecOn with
  | _ n ih =>
    intro m h
    by_cases h0 : n = 0
    · subst h0; simp [digs_zero]
    · rw [digs_pos (n := n) h0, digs_pos (n := m) (by omega), List.length_cons, List.length_cons]
      have := @ih (n / 1000000000) (by omega) (m / 1000000000) (by omega)
      omega

/-- Digits that differ at a place, and are alike above it. -/
theorem val_lt_at {a b : List Int} (ha : WF a) (hb : WF b) {n : Nat} (h1 : n < a.length) (h2 : n < b.length) (hd : a.drop (n + 1) = b.drop (n + 1)) (hlt : a.getD n 0 < b.getD n 0) : val a < val b := by
  have e : ∀ l : List Int, n < l.length → val l = val (l.take n) + 1000000000 ^ n * (l.getD n 0 + 1000000000 * val (l.drop (n + 1))) := by
    intro l hl
    rw [← val_drop]
    have := val_append (l.take n) (l.drop n)
    rw [List.take_append_drop, List.length_take, Nat.min_eq_left (by omega)] at this
    exact this
  rw [e a h1, e b h2, hd]
  have hp : (0 : Int) < 1000000000 ^ n := Int.pow_pos (by omega)
  have hva := val_lt (ha.take n)
  rw [List.length_take, Nat.min_eq_left (by omega)] at hva
  have hvb := val_nonneg (hb.take n)
  have : 1000000000 ^ n * (a.getD n 0 + 1000000000 * val (b.drop (n + 1)) + 1) ≤ (1000000000 : Int) ^ n * (b.getD n 0 + 1000000000 * val (b.drop (n + 1))) := Int.mul_le_mul_of_nonneg_left (by omega) (by omega)
  rw [Int.mul_add, Int.mul_one] at this
  omega

theorem c_cmpDigits {m n : Nat} (hm : (digs m).length ≤ 9223372036854775807) : Contract Try.prog 170 [.slc 1 ((digs m).map (.int .i64)), .slc 1 ((digs n).map (.int .i64))] (.int .i64 ((m : Int) - n).sign) := by
  have lt1 : m < n → ((m : Int) - n).sign = -1 := fun h => Int.sign_eq_neg_one_of_neg (by omega)
  have gt1 : n < m → ((m : Int) - n).sign = 1 := fun h => Int.sign_eq_one_of_pos (by omega)
  have ln : (digs m).length < (digs n).length → m < n := fun h => by
    rcases Nat.lt_or_ge m n with k | k
    · exact k
    · have := digs_mono k; omega
  have ln' : (digs n).length < (digs m).length → n < m := fun h => by
    rcases Nat.lt_or_ge n m with k | k
    · exact k
    · have := digs_mono k; omega
  have hv1 := val_digs m
  have hv2 := val_digs n
  have hw1 := wf_digs m
  have hw2 := wf_digs n
  refine contract_run Try.func170 k170 rfl ?_
  simp only [body170, b170, res170, b170k0, b170k1, b170k2, b170k3, b170k4, b170k5, ↓reduceIte, reduceCtorEq, Nat.reduceEqDiff, Nat.reduceAdd, Nat.reduceMul, Nat.reduceSub, Nat.reduceLeDiff, Nat.reduceBEq, Int.reduceToNat, Int.reduceLE, Int.reduceLT, Int.reduceEq, Int.reduceNe, di0, di1, di2, di3, di4, di5, di6, di7, di8, di9, postX_ret, postX_normal, ex_some]
  generalize digs m = a at *
  generalize digs n = b at *
  split
  · rename_i h
    have h : a.length = b.length := by omega
    rw [wrap64 (by omega) (by omega)]
    refine loop_keep (α := Nat) rfl (fun i => i) (fun i => i ≤ a.length ∧ a.drop i = b.drop i)
      (fun i => [(0, .imm (.slc 1 (a.map (.int .i64)))), (1, .imm (.slc 1 (b.map (.int .i64)))), (5, .imm (.int .i64 ((i : Int) - 1)))]) (fun _ => []) a.length
      ⟨Nat.le_refl _, by rw [List.drop_eq_nil_of_le (by omega), List.drop_eq_nil_of_le (by omega)]⟩ (by simp only [↓reduceIte, reduceCtorEq, Nat.reduceEqDiff, Nat.reduceAdd, Nat.reduceMul, Nat.reduceSub, Nat.reduceLeDiff, Nat.reduceBEq, Int.reduceToNat, Int.reduceLE, Int.reduceLT, Int.reduceEq, Int.reduceNe, di0, di1, di2, di3, di4, di5, di6, di7, di8, di9, postX_ret, postX_normal, ex_some]) ?_
    intro i ⟨hi, hd⟩ ih
    cases i with
    | zero =>
      simp only [res170, b170k0, b170k1, b170k2, b170k3, b170k4, b170k5, ↓reduceIte, reduceCtorEq, Nat.reduceEqDiff, Nat.reduceAdd, Nat.reduceMul, Nat.reduceSub, Nat.reduceLeDiff, Nat.reduceBEq, Int.reduceToNat, Int.reduceLE, Int.reduceLT, Int.reduceEq, Int.reduceNe, di0, di1, di2, di3, di4, di5, di6, di7, di8, di9, postX_ret, postX_normal, ex_some]
      have e : m = n := by
        have : a = b := by simpa using hd
        rw [this] at hv1; omega
      rw [if_neg (by omega)]
      subst e; simp
    | succ i =>
      have e1 : ((i + 1 : Nat) : Int) - 1 = i := by omega
      have e2 : IntKind.wrap .i64 ((i : Int) - 1) = (i : Int) - 1 := wrap64 (by omega) (by omega)
      simp only [res170, b170k0, b170k1, b170k2, b170k3, b170k4, b170k5, ↓reduceIte, reduceCtorEq, Nat.reduceEqDiff, Nat.reduceAdd, Nat.reduceMul, Nat.reduceSub, Nat.reduceLeDiff, Nat.reduceBEq, Int.reduceToNat, Int.reduceLE, Int.reduceLT, Int.reduceEq, Int.reduceNe, di0, di1, di2, di3, di4, di5, di6, di7, di8, di9, postX_ret, postX_normal, ex_some, e1]
      refine ⟨by omega, by omega, ?_⟩
      split
      · rename_i hlt
        have := val_lt_at hw1 hw2 (by omega) (by omega) hd hlt
        rw [lt1 (by omega)]
      · rename_i hge
        refine ⟨by omega, by omega, ?_⟩
        split
        · rename_i hgt
          have := val_lt_at hw2 hw1 (by omega) (by omega) hd.symm hgt
          rw [gt1 (by omega)]
        · rename_i hle
          rw [e2]
          refine ih i _ _ (by omega) ⟨by omega, ?_⟩ (by simp only [↓reduceIte, reduceCtorEq, Nat.reduceEqDiff, Nat.reduceAdd, Nat.reduceMul, Nat.reduceSub, Nat.reduceLeDiff, Nat.reduceBEq, Int.reduceToNat, Int.reduceLE, Int.reduceLT, Int.reduceEq, Int.reduceNe, di0, di1, di2, di3, di4, di5, di6, di7, di8, di9, postX_ret, postX_normal, ex_some])
          rw [List.drop_eq_getElem_cons (show i < a.length by omega), List.drop_eq_getElem_cons (show i < b.length by omega), hd]
          congr 1
          have k1 : a.getD i 0 = a[i]'(by omega) := by rw [List.getD_eq_getElem?_getD]; simp [show i < a.length by omega]
          have k2 : b.getD i 0 = b[i]'(by omega) := by rw [List.getD_eq_getElem?_getD]; simp [show i < b.length by omega]
          omega
  · rename_i h
    split
    · rename_i h2; rw [lt1 (ln (by omega))]
    · rename_i h2; rw [gt1 (ln' (by omega))]

theorem tdm {s : Int} (h : 0 ≤ s) : s.tmod 1000000000 = s % 1000000000 ∧ s.tdiv 1000000000 = s / 1000000000 := ⟨Int.tmod_eq_emod_of_nonneg h, Int.tdiv_eq_ediv_of_nonneg h⟩

theorem c_addDigits {a b : List Int} (ha : WF a) (hb : WF b) (hm : a.length ≤ 1000000) (hn : b.length ≤ 1000000) :
    ∃ r, (∃ l, r = .slc 1 (l.map (.int .i64)) ∧ WF l ∧ val l = val a + val b ∧ l.length ≤ max a.length b.length + 1) ∧ Contract Try.prog 173 [.slc 1 (a.map (.int .i64)), .slc 1 (b.map (.int .i64))] r := by
  refine contract_ex Try.func173 k173 rfl ?_
  simp only [body173, b173, res173, b173k0, b173k1, ↓reduceIte, reduceCtorEq, Nat.reduceEqDiff, Nat.reduceAdd, Nat.reduceMul, Nat.reduceSub, Nat.reduceLeDiff, Nat.reduceBEq, Int.reduceToNat, Int.reduceLE, Int.reduceLT, Int.reduceEq, Int.reduceNe, di0, di1, di2, di3, di4, di5, di6, di7, di8, di9, postX_ret, postX_normal, ex_some]
  refine loop_keep (α := List Int × Int) rfl (fun x => 2 * (max a.length b.length - x.1.length) + x.2.toNat)
    (fun x => WF x.1 ∧ 0 ≤ x.2 ∧ x.2 ≤ 1 ∧ val x.1 + 1000000000 ^ x.1.length * (x.2 + val (a.drop x.1.length) + val (b.drop x.1.length)) = val a + val b ∧ (x.1.length ≤ max a.length b.length ∨ x.1.length = max a.length b.length + 1 ∧ x.2 = 0))
    (fun x => [(0, .imm (.slc 1 (a.map (.int .i64)))), (1, .imm (.slc 1 (b.map (.int .i64)))), (5, .own 5), (6, .imm (.int .i64 x.2)), (7, .imm (.int .i64 x.1.length))])
    (fun x => [(5, .tok 1 (x.1.map (.int .i64)))]) ([], 0) ⟨WF.nil, by omega, by omega, by simp [val], .inl (by simp)⟩ (by simp only [↓reduceIte, reduceCtorEq, Nat.reduceEqDiff, Nat.reduceAdd, Nat.reduceMul, Nat.reduceSub, Nat.reduceLeDiff, Nat.reduceBEq, Int.reduceToNat, Int.reduceLE, Int.reduceLT, Int.reduceEq, Int.reduceNe, di0, di1, di2, di3, di4, di5, di6, di7, di8, di9, postX_ret, postX_normal, ex_some]) ?_
  rintro ⟨l, c⟩ ⟨hw, hc0, hc1, hv, hl⟩ ih
  dsimp only at hw hc0 hc1 hv hl
  have hA := ha.getD l.length
  have hB := hb.getD l.length
  have hb1 : l.length ≤ 1000001 := by omega
  have hdA := val_drop a l.length
  have hdB := val_drop b l.length
  simp only [res173, b173k0, b173k1, ↓reduceIte, reduceCtorEq, Nat.reduceEqDiff, Nat.reduceAdd, Nat.reduceMul, Nat.reduceSub, Nat.reduceLeDiff, Nat.reduceBEq, Int.reduceToNat, Int.reduceLE, Int.reduceLT, Int.reduceEq, Int.reduceNe, di0, di1, di2, di3, di4, di5, di6, di7, di8, di9, postX_ret, postX_normal, ex_some]
  split
  · rename_i h
    have e1 : a.drop l.length = [] := List.drop_eq_nil_of_le (by omega)
    have e2 : b.drop l.length = [] := List.drop_eq_nil_of_le (by omega)
    refine ⟨l, rfl, hw, ?_, by omega⟩
    rw [e1, e2, show c = 0 by omega] at hv
    simpa [val] using hv
  · rename_i h
    have hlen : l.length ≤ max a.length b.length := by omega
    refine calls_of (c_digit (by omega)) ?_
    simp only [res173, b173k0, b173k1, ↓reduceIte, reduceCtorEq, Nat.reduceEqDiff, Nat.reduceAdd, Nat.reduceMul, Nat.reduceSub, Nat.reduceLeDiff, Nat.reduceBEq, Int.reduceToNat, Int.reduceLE, Int.reduceLT, Int.reduceEq, Int.reduceNe, di0, di1, di2, di3, di4, di5, di6, di7, di8, di9, postX_ret, postX_normal, ex_some]
    refine calls_of (c_digit (by omega)) ?_
    simp only [res173, b173k0, b173k1, ↓reduceIte, reduceCtorEq, Nat.reduceEqDiff, Nat.reduceAdd, Nat.reduceMul, Nat.reduceSub, Nat.reduceLeDiff, Nat.reduceBEq, Int.reduceToNat, Int.reduceLE, Int.reduceLT, Int.reduceEq, Int.reduceNe, di0, di1, di2, di3, di4, di5, di6, di7, di8, di9, postX_ret, postX_normal, ex_some]
    have hpA : a.length ≤ l.length → a.getD l.length 0 = 0 := getD_end
    have hpB : b.length ≤ l.length → b.getD l.length 0 = 0 := getD_end
    generalize a.getD l.length 0 = p at *
    generalize b.getD l.length 0 = q at *
    rw [wrap64 (n := p + q) (by omega) (by omega), wrap64 (n := p + q + c) (by omega) (by omega), (tdm (s := p + q + c) (by omega)).1, (tdm (s := p + q + c) (by omega)).2, wrap64 (n := (p + q + c) / 1000000000) (by omega) (by omega), wrap64 (n := (l.length : Int) + 1) (by omega) (by omega)]
    refine ⟨by omega, by omega, ?_⟩
    refine ih (l ++ [(p + q + c) % 1000000000], (p + q + c) / 1000000000) _ _ ?_ ⟨?_, ?_, ?_, ?_, ?_⟩ ?_
    · simp only [List.length_append, List.length_cons, List.length_nil]
      omega
    · exact hw.append (WF.cons (by omega) (by omega) WF.nil)
    · dsimp only; omega
    · dsimp only; omega
    · simp only [List.length_append, List.length_cons, List.length_nil, Nat.zero_add, val_append, val, Int.pow_succ, Int.mul_zero, Int.add_zero]
      rw [← hv, hdA, hdB, Int.mul_assoc, Int.add_assoc, ← Int.mul_add]
      congr 2
      omega
    · simp only [List.length_append, List.length_cons, List.length_nil]
      omega
    · simp only [↓reduceIte, reduceCtorEq, Nat.reduceEqDiff, Nat.reduceAdd, Nat.reduceMul, Nat.reduceSub, Nat.reduceLeDiff, Nat.reduceBEq, Int.reduceToNat, Int.reduceLE, Int.reduceLT, Int.reduceEq, Int.reduceNe, di0, di1, di2, di3, di4, di5, di6, di7, di8, di9, postX_ret, postX_normal, ex_some, List.length_append, List.length_cons, List.length_nil]
      rfl

theorem c_subDigits {a b : List Int} (ha : WF a) (hb : WF b) (hm : a.length ≤ 1000000) (hle : val b ≤ val a) :
    Contract Try.prog 171 [.slc 1 (a.map (.int .i64)), .slc 1 (b.map (.int .i64))] (.slc 1 ((digs (val a - val b).toNat).map (.int .i64))) := by
  refine contract_run Try.func171 k171 rfl ?_
  simp only [body171, b171, res171, b171k0, b171k1, b171k2, b171k3, ↓reduceIte, reduceCtorEq, Nat.reduceEqDiff, Nat.reduceAdd, Nat.reduceMul, Nat.reduceSub, Nat.reduceLeDiff, Nat.reduceBEq, Int.reduceToNat, Int.reduceLE, Int.reduceLT, Int.reduceEq, Int.reduceNe, di0, di1, di2, di3, di4, di5, di6, di7, di8, di9, postX_ret, postX_normal, ex_some]
  refine loop_keep (α := List Int × Int) rfl (fun x => a.length - x.1.length)
    (fun x => WF x.1 ∧ 0 ≤ x.2 ∧ x.2 ≤ 1 ∧ val x.1 + 1000000000 ^ x.1.length * (val (a.drop x.1.length) - val (b.drop x.1.length) - x.2) = val a - val b ∧ x.1.length ≤ a.length)
    (fun x => [(0, .imm (.slc 1 (a.map (.int .i64)))), (1, .imm (.slc 1 (b.map (.int .i64)))), (5, .own 5), (6, .imm (.int .i64 x.2)), (7, .imm (.int .i64 x.1.length))])
    (fun x => [(5, .tok 1 (x.1.map (.int .i64)))]) ([], 0) ⟨WF.nil, by omega, by omega, by simp [val], by simp⟩ (by simp only [↓reduceIte, reduceCtorEq, Nat.reduceEqDiff, Nat.reduceAdd, Nat.reduceMul, Nat.reduceSub, Nat.reduceLeDiff, Nat.reduceBEq, Int.reduceToNat, Int.reduceLE, Int.reduceLT, Int.reduceEq, Int.reduceNe, di0, di1, di2, di3, di4, di5, di6, di7, di8, di9, postX_ret, postX_normal, ex_some]) ?_
  rintro ⟨l, c⟩ ⟨hw, hc0, hc1, hv, hl⟩ ih
  dsimp only at hw hc0 hc1 hv hl
  have hA := ha.getD l.length
  have hB := hb.getD l.length
  have hdA := val_drop a l.length
  have hdB := val_drop b l.length
  simp only [res171, b171k0, b171k1, b171k2, b171k3, ↓reduceIte, reduceCtorEq, Nat.reduceEqDiff, Nat.reduceAdd, Nat.reduceMul, Nat.reduceSub, Nat.reduceLeDiff, Nat.reduceBEq, Int.reduceToNat, Int.reduceLE, Int.reduceLT, Int.reduceEq, Int.reduceNe, di0, di1, di2, di3, di4, di5, di6, di7, di8, di9, postX_ret, postX_normal, ex_some]
  split
  · rename_i h
    refine ⟨h, calls_of (c_digit (by omega)) ?_⟩
    simp only [res171, b171k0, b171k1, b171k2, b171k3, ↓reduceIte, reduceCtorEq, Nat.reduceEqDiff, Nat.reduceAdd, Nat.reduceMul, Nat.reduceSub, Nat.reduceLeDiff, Nat.reduceBEq, Int.reduceToNat, Int.reduceLE, Int.reduceLT, Int.reduceEq, Int.reduceNe, di0, di1, di2, di3, di4, di5, di6, di7, di8, di9, postX_ret, postX_normal, ex_some]
    generalize a.getD l.length 0 = p at *
    generalize b.getD l.length 0 = q at *
    rw [wrap64 (n := p - q) (by omega) (by omega), wrap64 (n := p - q - c) (by omega) (by omega), wrap64 (n := (l.length : Int) + 1) (by omega) (by omega)]
    have inv : ∀ (s cc : Int), 0 ≤ s → s < 1000000000 → 0 ≤ cc → cc ≤ 1 → s - 1000000000 * cc = p - q - c → a.length - (l ++ [s]).length < a.length - l.length ∧ (WF (l ++ [s]) ∧ 0 ≤ cc ∧ cc ≤ 1 ∧
        val (l ++ [s]) + 1000000000 ^ (l ++ [s]).length * (val (a.drop (l ++ [s]).length) - val (b.drop (l ++ [s]).length) - cc) = val a - val b ∧ (l ++ [s]).length ≤ a.length) := by
      intro s cc h1 h2 h3 h4 h5
      simp only [List.length_append, List.length_cons, List.length_nil]
      refine ⟨by omega, hw.append (WF.cons h1 h2 WF.nil), h3, h4, ?_, by omega⟩
      simp only [Nat.zero_add, val_append, val, Int.pow_succ, Int.mul_zero, Int.add_zero]
      rw [← hv, hdA, hdB, Int.mul_assoc, Int.add_assoc, ← Int.mul_add]
      congr 2
      omega
    split
    · rename_i h0
      rw [wrap64 (n := p - q - c + 1000000000) (by omega) (by omega)]
      refine ⟨by omega, by omega, ?_⟩
      have iv := inv (p - q - c + 1000000000) 1 (by omega) (by omega) (by omega) (by omega) (by omega)
      refine ih (l ++ [p - q - c + 1000000000], 1) _ _ iv.1 iv.2 ?_
      simp only [↓reduceIte, reduceCtorEq, Nat.reduceEqDiff, Nat.reduceAdd, Nat.reduceMul, Nat.reduceSub, Nat.reduceLeDiff, Nat.reduceBEq, Int.reduceToNat, Int.reduceLE, Int.reduceLT, Int.reduceEq, Int.reduceNe, di0, di1, di2, di3, di4, di5, di6, di7, di8, di9, postX_ret, postX_normal, ex_some, List.length_append, List.length_cons, List.length_nil]
      rfl
    · rename_i h0
      refine ⟨by omega, by omega, ?_⟩
      have iv := inv (p - q - c) 0 (by omega) (by omega) (by omega) (by omega) (by omega)
      refine ih (l ++ [p - q - c], 0) _ _ iv.1 iv.2 ?_
      simp only [↓reduceIte, reduceCtorEq, Nat.reduceEqDiff, Nat.reduceAdd, Nat.reduceMul, Nat.reduceSub, Nat.reduceLeDiff, Nat.reduceBEq, Int.reduceToNat, Int.reduceLE, Int.reduceLT, Int.reduceEq, Int.reduceNe, di0, di1, di2, di3, di4, di5, di6, di7, di8, di9, postX_ret, postX_normal, ex_some, List.length_append, List.length_cons, List.length_nil]
      rfl
  · rename_i h
    have e : l.length = a.length := by omega
    have e1 : a.drop l.length = [] := List.drop_eq_nil_of_le (by omega)
    have hlt := val_lt hw
    have h0 := val_nonneg hw
    have hbd := val_nonneg (l := b.drop l.length) (fun x hx => hb x (List.mem_of_mem_drop hx))
    have hk : val (b.drop l.length) + c = 0 := by
      rcases Int.lt_or_le 0 (val (b.drop l.length) + c) with k | k
      · exfalso
        have hp : (1000000000 : Int) ^ l.length * 1 ≤ 1000000000 ^ l.length * (val (b.drop l.length) + c) := Int.mul_le_mul_of_nonneg_left (by omega) (Int.le_of_lt (Int.pow_pos (by omega)))
        rw [e1] at hv
        have e2 : (1000000000 : Int) ^ l.length * (val [] - val (b.drop l.length) - c) = - (1000000000 ^ l.length * (val (b.drop l.length) + c)) := by
          rw [← Int.mul_neg]; congr 1; simp only [val]; omega
        rw [e2] at hv
        omega
      · omega
    have hvl : val l = val a - val b := by
      rw [e1] at hv
      have e2 : val [] - val (b.drop l.length) - c = 0 := by simp only [val]; omega
      rw [e2] at hv; omega
    refine calls_of (c_trimmed (by omega)) ?_
    simp only [res171, b171k0, b171k1, b171k2, b171k3, ↓reduceIte, reduceCtorEq, Nat.reduceEqDiff, Nat.reduceAdd, Nat.reduceMul, Nat.reduceSub, Nat.reduceLeDiff, Nat.reduceBEq, Int.reduceToNat, Int.reduceLE, Int.reduceLT, Int.reduceEq, Int.reduceNe, di0, di1, di2, di3, di4, di5, di6, di7, di8, di9, postX_ret, postX_normal, ex_some]
    rw [trim_digs hw, hvl]
end Go.DI.Wd

