/- The functions of the reference, as data. No condition. -/
import Derived.Test.YtbmlfeikdhpdfaaJd
import Derived.Test.YtbmlfeikdhpdfaaProg
import Derived.KernelRfl
/- The functions of the lakes' reference and of the statements, as data. No condition. -/
namespace Go.DI
open Go.Proofs Go.RowKit
/-- guidevane/guidevaneref01.BothErr -/
def b14k0 : DCode :=
 (.seq
  (.region [⟨(some 11), (.load true 3), [.t 2], none, []⟩,
    ⟨(some 12), (.load true 2), [.t 3], none, []⟩,
    ⟨(some 13), .call, [.f 58, .t 11, .t 12], none, [0, 1]⟩,
    ⟨(some 4), .mov, [.t 13], none, [2, 2, 0, 1, 2]⟩] false)
  .ret)
def b14 : DCode :=
 (.seq
  (.region [⟨(some 2), .box, [.t 0], none, []⟩,
    ⟨(some 3), .box, [.t 1], none, []⟩,
    ⟨(some 4), .mov, [.c (.int .i64 0)], none, []⟩] false)
  (.seq
   (.seq
    (.region [⟨(some 6), (.load true 3), [.t 2], none, []⟩,
      ⟨(some 7), .call, [.f 20, .t 6], none, [0]⟩,
      ⟨(some 5), .mov, [.t 7], none, [1, 1, 0, 1]⟩] false)
    (.seq
     (.region [⟨(some 8), .mov, [.t 5], none, []⟩,
       ⟨(some 9), (.bin .neq), [.t 8, .c (.int .i64 0)], none, [0]⟩] false)
     (.cond (.t 9)
      (.seq
       (.region [⟨(some 10), .mov, [.t 5], none, []⟩,
         ⟨(some 4), .mov, [.t 10], none, [0, 0]⟩] false)
       .ret)
      .skip)))
   (.keep [2, 3] [2, 3] b14k0)))
def d14 : DFn := ⟨2, 14, [.tmp 4], b14⟩
theorem body14 : d14.body = b14 := rfl
theorem res14 : d14.res = [.tmp 4] := rfl
theorem k14 : chkFn Try.prog Try.f14 d14 = true := by kernel_rfl

/-- guidevane/guidevaneref01.CopyPair -/
def b16 : DCode :=
 (.seq
  (.region [⟨(some 1), .box, [.t 0], none, []⟩,
    ⟨(some 2), (.alloc [(.imm (.slc 2 [])), (.imm (.slc 2 [])), (.imm (.int .i64 0))]), [], none, []⟩] false)
  (.seq
   (.region [⟨(some 3), (.faddr 0 true 1), [.t 1], none, []⟩,
     ⟨(some 4), (.load true 1), [.t 3], none, [0]⟩,
     ⟨(some 5), .call, [.f 28, .t 4], none, [1]⟩,
     ⟨(some 6), (.faddr 1 true 1), [.t 1], none, []⟩,
     ⟨(some 7), (.load true 1), [.t 6], none, [3]⟩,
     ⟨(some 8), .call, [.f 28, .t 7], none, [4, 2]⟩,
     ⟨(some 9), (.faddr 2 false 1), [.t 1], none, []⟩,
     ⟨(some 10), (.load false 1), [.t 9], none, [6]⟩,
     ⟨(some 11), (.build [(.imm (.slc 2 [])), (.imm (.slc 2 [])), (.imm (.int .i64 0))] [(0, 1), (1, 1), (2, 1)]), [.t 5, .t 8, .t 10], none, [2, 5, 7]⟩,
     ⟨none, (.store 3), [.t 2, .t 11], none, [8, 5, 0, 1, 2, 3, 4, 5, 6, 7, 8]⟩] true)
   .ret))
def d16 : DFn := ⟨1, 12, [.cell 2 true 3], b16⟩
theorem body16 : d16.body = b16 := rfl
theorem res16 : d16.res = [.cell 2 true 3] := rfl
theorem k16 : chkFn Try.prog Try.f16 d16 = true := by kernel_rfl

/-- guidevane/guidevaneref01.PairErr -/
def b20k0 : DCode :=
 (.seq
  (.region [⟨(some 2), .mov, [.c (.int .i64 0)], none, []⟩] false)
  .ret)
def b20k1 : DCode :=
 (.seq
  (.seq
   (.region [⟨(some 17), (.faddr 2 false 1), [.t 1], none, []⟩,
     ⟨(some 18), (.load false 1), [.t 17], none, [0]⟩,
     ⟨(some 19), .call, [.f 15, .t 18, .c (.int .i64 0), .c (.int .i64 1000)], none, [1]⟩,
     ⟨(some 20), (.un .not), [.t 19], none, [2]⟩] false)
   (.cond (.t 20)
    (.seq
     (.region [⟨(some 2), .mov, [.c (.int .i64 2)], none, []⟩] false)
     .ret)
    .skip))
  (.keep [] [] b20k0))
def b20k2 : DCode :=
 (.seq
  (.seq
   (.region [⟨(some 11), (.faddr 1 true 1), [.t 1], none, []⟩,
     ⟨(some 12), (.load true 1), [.t 11], none, [0]⟩,
     ⟨(some 13), .call, [.f 46, .t 12], none, [1]⟩,
     ⟨(some 4), .mov, [.t 13], none, [2, 2, 0, 1, 2]⟩] false)
   (.seq
    (.region [⟨(some 14), .mov, [.t 4], none, []⟩,
      ⟨(some 15), (.bin .neq), [.t 14, .c (.int .i64 0)], none, [0]⟩] false)
    (.cond (.t 15)
     (.seq
      (.region [⟨(some 16), .mov, [.t 4], none, []⟩,
        ⟨(some 2), .mov, [.t 16], none, [0, 0]⟩] false)
      .ret)
     .skip)))
  (.keep [1] [1] b20k1))
def b20 : DCode :=
 (.seq
  (.region [⟨(some 1), .box, [.t 0], none, []⟩,
    ⟨(some 2), .mov, [.c (.int .i64 0)], none, []⟩] false)
  (.seq
   (.seq
    (.region [⟨(some 5), (.faddr 0 true 1), [.t 1], none, []⟩,
      ⟨(some 6), (.load true 1), [.t 5], none, [0]⟩,
      ⟨(some 7), .call, [.f 46, .t 6], none, [1]⟩,
      ⟨(some 3), .mov, [.t 7], none, [2, 2, 0, 1, 2]⟩] false)
    (.seq
     (.region [⟨(some 8), .mov, [.t 3], none, []⟩,
       ⟨(some 9), (.bin .neq), [.t 8, .c (.int .i64 0)], none, [0]⟩] false)
     (.cond (.t 9)
      (.seq
       (.region [⟨(some 10), .mov, [.t 3], none, []⟩,
         ⟨(some 2), .mov, [.t 10], none, [0, 0]⟩] false)
       .ret)
      .skip)))
   (.keep [1] [1] b20k2)))
def d20 : DFn := ⟨1, 21, [.tmp 2], b20⟩
theorem body20 : d20.body = b20 := rfl
theorem res20 : d20.res = [.tmp 2] := rfl
theorem k20 : chkFn Try.prog Try.f20 d20 = true := by kernel_rfl

/-- guidevane/guidevaneref01.Usable -/
def b22 : DCode :=
 (.seq
  (.region [⟨(some 2), .box, [.t 0], none, []⟩,
    ⟨(some 3), .box, [.t 1], none, []⟩,
    ⟨(some 4), (.alloc [(.imm (.int .i64 0)), (.imm (.int .i64 0))]), [], none, []⟩] false)
  (.seq
   (.region [⟨(some 7), (.faddr 0 true 1), [.t 2], none, []⟩,
     ⟨(some 8), (.load true 1), [.t 7], none, [0]⟩,
     ⟨(some 9), .call, [.f 47, .t 8], none, [1]⟩,
     ⟨(some 10), (.field 1 false 1), [.t 9], none, [2]⟩,
     ⟨(some 11), (.faddr 0 false 1), [.t 3], none, []⟩,
     ⟨(some 12), (.load false 1), [.t 11], none, [4]⟩,
     ⟨(some 13), (.bin .sub), [.t 10, .t 12], none, [3, 5]⟩,
     ⟨(some 14), (.faddr 1 true 1), [.t 2], none, []⟩,
     ⟨(some 15), (.load true 1), [.t 14], none, [7]⟩,
     ⟨(some 16), .call, [.f 47, .t 15], none, [8, 2]⟩,
     ⟨(some 17), (.field 1 false 1), [.t 16], none, [9]⟩,
     ⟨(some 18), (.faddr 1 false 1), [.t 3], none, []⟩,
     ⟨(some 19), (.load false 1), [.t 18], none, [11]⟩,
     ⟨(some 20), (.bin .sub), [.t 17, .t 19], none, [10, 12]⟩,
     ⟨(some 5), .mov, [.t 13], none, [6, 9, 0, 1, 2, 3, 4, 5, 6]⟩,
     ⟨(some 6), .mov, [.t 20], none, [13, 14, 0, 1, 2, 3, 4, 5, 6, 7, 8, 9, 10, 11, 12, 13, 14]⟩] true)
   (.seq
    (.region [⟨(some 21), (.faddr 0 false 1), [.t 3], none, []⟩,
      ⟨(some 22), (.load false 1), [.t 21], none, [0]⟩,
      ⟨(some 23), (.faddr 0 true 1), [.t 2], none, []⟩,
      ⟨(some 24), (.load true 1), [.t 23], none, [2]⟩,
      ⟨(some 25), .call, [.f 70, .t 24], none, [3]⟩,
      ⟨(some 26), (.field 1 false 1), [.t 25], none, [4]⟩,
      ⟨(some 27), (.bin .sub), [.t 22, .t 26], none, [1, 5]⟩,
      ⟨(some 28), .mov, [.t 6], none, []⟩,
      ⟨(some 29), (.mm false), [.t 27, .t 28], none, [6, 7]⟩,
      ⟨(some 30), (.faddr 1 false 1), [.t 3], none, []⟩,
      ⟨(some 31), (.load false 1), [.t 30], none, [9]⟩,
      ⟨(some 32), (.faddr 1 true 1), [.t 2], none, []⟩,
      ⟨(some 33), (.load true 1), [.t 32], none, [11]⟩,
      ⟨(some 34), .call, [.f 70, .t 33], none, [12, 4]⟩,
      ⟨(some 35), (.field 1 false 1), [.t 34], none, [13]⟩,
      ⟨(some 36), (.bin .sub), [.t 31, .t 35], none, [10, 14]⟩,
      ⟨(some 37), .mov, [.t 5], none, []⟩,
      ⟨(some 38), (.mm false), [.t 36, .t 37], none, [15, 16]⟩,
      ⟨(some 39), (.build [(.imm (.int .i64 0)), (.imm (.int .i64 0))] [(0, 1), (1, 1)]), [.t 29, .t 38], none, [8, 17]⟩,
      ⟨none, (.store 2), [.t 4, .t 39], none, [18, 13, 0, 1, 2, 3, 4, 5, 6, 7, 8, 9, 10, 11, 12, 13, 14, 15, 16, 17, 18]⟩] true)
    .ret)))
def d22 : DFn := ⟨2, 40, [.cell 4 true 2], b22⟩
theorem body22 : d22.body = b22 := rfl
theorem res22 : d22.res = [.cell 4 true 2] := rfl
theorem k22 : chkFn Try.prog Try.f22 d22 = true := by kernel_rfl

/-- guidevane/guidevaneref01.FlowsErr -/
def b23k0 : DCode :=
 (.seq
  (.region [⟨(some 2), .mov, [.c (.int .i64 0)], none, []⟩] false)
  .ret)
def b23 : DCode :=
 (.seq
  (.region [⟨(some 1), .box, [.t 0], none, []⟩,
    ⟨(some 2), .mov, [.c (.int .i64 0)], none, []⟩] false)
  (.seq
   (.seq
    (.region [⟨(some 3), (.faddr 0 false 1), [.t 1], none, []⟩,
      ⟨(some 4), (.load false 1), [.t 3], none, [0]⟩,
      ⟨(some 5), .call, [.f 15, .t 4, .c (.int .i64 0), .c (.int .i64 10000000)], none, [1]⟩,
      ⟨(some 6), (.un .not), [.t 5], none, [2]⟩,
      ⟨(some 7), .mov, [.t 6], none, [3, 2]⟩,
      ⟨(some 8), (.faddr 1 false 1), [.t 1], (some (7, false)), [4]⟩,
      ⟨(some 9), (.load false 1), [.t 8], (some (7, false)), [5, 4]⟩,
      ⟨(some 10), .call, [.f 15, .t 9, .c (.int .i64 0), .c (.int .i64 10000000)], (some (7, false)), [6, 4, 4]⟩,
      ⟨(some 11), (.un .not), [.t 10], (some (7, false)), [7, 4]⟩,
      ⟨(some 12), .pick, [.t 7, .c (.bool true), .t 11], none, [4, 8]⟩,
      ⟨(some 13), .mov, [.t 12], none, [9, 7]⟩,
      ⟨(some 14), (.faddr 2 false 1), [.t 1], (some (13, false)), [10]⟩,
      ⟨(some 15), (.load false 1), [.t 14], (some (13, false)), [11, 10]⟩,
      ⟨(some 16), .call, [.f 15, .t 15, .c (.int .i64 (-10000000)), .c (.int .i64 10000000)], (some (13, false)), [12, 10, 10]⟩,
      ⟨(some 17), (.un .not), [.t 16], (some (13, false)), [13, 10]⟩,
      ⟨(some 18), .pick, [.t 13, .c (.bool true), .t 17], none, [10, 14]⟩] false)
    (.cond (.t 18)
     (.seq
      (.region [⟨(some 2), .mov, [.c (.int .i64 2)], none, []⟩] false)
      .ret)
     .skip))
   (.keep [] [] b23k0)))
def d23 : DFn := ⟨1, 19, [.tmp 2], b23⟩
theorem body23 : d23.body = b23 := rfl
theorem res23 : d23.res = [.tmp 2] := rfl
theorem k23 : chkFn Try.prog Try.f23 d23 = true := by kernel_rfl

/-- guidevane/guidevaneref01.Step -/
def b24k0 : DCode :=
 (.seq
  (.region [⟨(some 65), .mov, [.t 11], none, []⟩,
    ⟨(some 66), (.faddr 0 true 1), [.t 3], none, []⟩,
    ⟨(some 67), (.load true 1), [.t 66], none, [1]⟩,
    ⟨(some 68), .call, [.f 47, .t 67], none, [2]⟩,
    ⟨(some 69), (.field 1 false 1), [.t 68], none, [3]⟩,
    ⟨(some 70), (.bin .sub), [.t 65, .t 69], none, [0, 4]⟩,
    ⟨(some 71), (.mm true), [.c (.int .i64 0), .t 70], none, [5]⟩,
    ⟨(some 72), .mov, [.t 12], none, []⟩,
    ⟨(some 73), (.faddr 1 true 1), [.t 3], none, []⟩,
    ⟨(some 74), (.load true 1), [.t 73], none, [8]⟩,
    ⟨(some 75), .call, [.f 47, .t 74], none, [9, 3]⟩,
    ⟨(some 76), (.field 1 false 1), [.t 75], none, [10]⟩,
    ⟨(some 77), (.bin .sub), [.t 72, .t 76], none, [7, 11]⟩,
    ⟨(some 78), (.mm true), [.c (.int .i64 0), .t 77], none, [12]⟩,
    ⟨(some 13), .mov, [.t 71], none, [6, 10, 0, 1, 2, 3, 4, 5, 6]⟩,
    ⟨(some 14), .mov, [.t 78], none, [13, 14, 0, 1, 2, 3, 4, 5, 6, 7, 8, 9, 10, 11, 12, 13, 14]⟩] true)
  (.seq
   (.region [⟨(some 79), .mov, [.t 11], none, []⟩,
     ⟨(some 80), .mov, [.t 13], none, []⟩,
     ⟨(some 81), (.bin .sub), [.t 79, .t 80], none, [0, 1]⟩,
     ⟨(some 82), .mov, [.t 12], none, []⟩,
     ⟨(some 83), .mov, [.t 14], none, []⟩,
     ⟨(some 84), (.bin .sub), [.t 82, .t 83], none, [3, 4]⟩,
     ⟨(some 85), (.build [(.imm (.int .i64 0)), (.imm (.int .i64 0))] [(0, 1), (1, 1)]), [.t 81, .t 84], none, [2, 5]⟩,
     ⟨(some 86), .mov, [.t 9], none, []⟩,
     ⟨(some 87), .mov, [.t 10], none, []⟩,
     ⟨(some 88), (.bin .add), [.t 86, .t 87], none, [7, 8]⟩,
     ⟨(some 89), .mov, [.t 13], none, []⟩,
     ⟨(some 90), .mov, [.t 14], none, []⟩,
     ⟨(some 91), (.bin .add), [.t 89, .t 90], none, [10, 11]⟩,
     ⟨(some 92), (.build [(.imm (.int .i64 0)), (.imm (.int .i64 0))] [(0, 1), (1, 1)]), [.t 88, .t 91], none, [9, 12]⟩,
     ⟨none, (.store 2), [.t 6, .t 85], none, [6, 0, 1, 2, 3, 4, 5, 6]⟩,
     ⟨none, (.store 2), [.t 7, .t 92], none, [13, 14, 0, 1, 2, 3, 4, 5, 6, 7, 8, 9, 10, 11, 12, 13, 14]⟩,
     ⟨(some 8), .mov, [.c (.bool true)], none, [15, 0, 1, 2, 3, 4, 5, 6, 7, 8, 9, 10, 11, 12, 13, 14, 15]⟩] false)
   .ret))
def b24 : DCode :=
 (.seq
  (.region [⟨(some 3), .box, [.t 0], none, []⟩,
    ⟨(some 4), .box, [.t 1], none, []⟩,
    ⟨(some 5), .box, [.t 2], none, []⟩,
    ⟨(some 6), (.alloc [(.imm (.int .i64 0)), (.imm (.int .i64 0))]), [], none, []⟩,
    ⟨(some 7), (.alloc [(.imm (.int .i64 0)), (.imm (.int .i64 0))]), [], none, []⟩,
    ⟨(some 8), .mov, [.c (.bool false)], none, []⟩] false)
  (.seq
   (.region [⟨(some 15), (.faddr 0 true 1), [.t 3], none, []⟩,
     ⟨(some 16), (.load true 1), [.t 15], none, [0]⟩,
     ⟨(some 17), (.faddr 2 false 1), [.t 3], none, []⟩,
     ⟨(some 18), (.load false 1), [.t 17], none, [2]⟩,
     ⟨(some 19), (.faddr 0 false 1), [.t 4], none, []⟩,
     ⟨(some 20), (.load false 1), [.t 19], none, [4]⟩,
     ⟨(some 21), .call, [.f 71, .t 16, .t 18, .t 20], none, [1, 3, 5]⟩,
     ⟨(some 22), (.faddr 1 true 1), [.t 3], none, []⟩,
     ⟨(some 23), (.load true 1), [.t 22], none, [7]⟩,
     ⟨(some 24), (.faddr 2 false 1), [.t 3], none, []⟩,
     ⟨(some 25), (.load false 1), [.t 24], none, [9]⟩,
     ⟨(some 26), (.faddr 1 false 1), [.t 4], none, []⟩,
     ⟨(some 27), (.load false 1), [.t 26], none, [11]⟩,
     ⟨(some 28), .call, [.f 71, .t 23, .t 25, .t 27], none, [8, 10, 12, 6]⟩,
     ⟨(some 9), .mov, [.t 21], none, [6, 13, 0, 1, 2, 3, 4, 5, 6]⟩,
     ⟨(some 10), .mov, [.t 28], none, [13, 14, 0, 1, 2, 3, 4, 5, 6, 7, 8, 9, 10, 11, 12, 13, 14]⟩] true)
   (.seq
    (.region [⟨(some 29), (.faddr 0 false 1), [.t 4], none, []⟩,
      ⟨(some 30), (.load false 1), [.t 29], none, [0]⟩,
      ⟨(some 31), .mov, [.t 9], none, []⟩,
      ⟨(some 32), (.bin .sub), [.t 30, .t 31], none, [1, 2]⟩,
      ⟨(some 33), (.faddr 0 false 1), [.t 5], none, []⟩,
      ⟨(some 34), (.load false 1), [.t 33], none, [4]⟩,
      ⟨(some 35), (.bin .add), [.t 32, .t 34], none, [3, 5]⟩,
      ⟨(some 36), (.faddr 2 false 1), [.t 5], none, []⟩,
      ⟨(some 37), (.load false 1), [.t 36], none, [7]⟩,
      ⟨(some 38), (.bin .add), [.t 35, .t 37], none, [6, 8]⟩,
      ⟨(some 39), (.faddr 1 false 1), [.t 4], none, []⟩,
      ⟨(some 40), (.load false 1), [.t 39], none, [10]⟩,
      ⟨(some 41), .mov, [.t 10], none, []⟩,
      ⟨(some 42), (.bin .sub), [.t 40, .t 41], none, [11, 12]⟩,
      ⟨(some 43), (.faddr 1 false 1), [.t 5], none, []⟩,
      ⟨(some 44), (.load false 1), [.t 43], none, [14]⟩,
      ⟨(some 45), (.bin .add), [.t 42, .t 44], none, [13, 15]⟩,
      ⟨(some 46), (.faddr 2 false 1), [.t 5], none, []⟩,
      ⟨(some 47), (.load false 1), [.t 46], none, [17]⟩,
      ⟨(some 48), (.bin .sub), [.t 45, .t 47], none, [16, 18]⟩,
      ⟨(some 11), .mov, [.t 38], none, [9, 0, 1, 2, 3, 4, 5, 6, 7, 8, 9]⟩,
      ⟨(some 12), .mov, [.t 48], none, [19, 20, 0, 1, 2, 3, 4, 5, 6, 7, 8, 9, 10, 11, 12, 13, 14, 15, 16, 17, 18, 19, 20]⟩] true)
    (.seq
     (.seq
      (.region [⟨(some 49), .mov, [.t 11], none, []⟩,
        ⟨(some 50), (.faddr 0 true 1), [.t 3], none, []⟩,
        ⟨(some 51), (.load true 1), [.t 50], none, [1]⟩,
        ⟨(some 52), .call, [.f 70, .t 51], none, [2]⟩,
        ⟨(some 53), (.field 1 false 1), [.t 52], none, [3]⟩,
        ⟨(some 54), (.bin .lss), [.t 49, .t 53], none, [0, 4]⟩,
        ⟨(some 55), .mov, [.t 54], none, [5, 3]⟩,
        ⟨(some 56), .mov, [.t 12], (some (55, false)), [6]⟩,
        ⟨(some 57), (.faddr 1 true 1), [.t 3], (some (55, false)), [6]⟩,
        ⟨(some 58), (.load true 1), [.t 57], (some (55, false)), [8, 6]⟩,
        ⟨(some 59), .call, [.f 70, .t 58], (some (55, false)), [9, 6, 6]⟩,
        ⟨(some 60), (.field 1 false 1), [.t 59], (some (55, false)), [10, 6]⟩,
        ⟨(some 61), (.bin .lss), [.t 56, .t 60], (some (55, false)), [7, 11, 6]⟩,
        ⟨(some 62), .pick, [.t 55, .c (.bool true), .t 61], none, [6, 12]⟩] false)
      (.cond (.t 62)
       (.seq
        (.region [⟨(some 63), (.build [(.imm (.int .i64 0)), (.imm (.int .i64 0))] []), [], none, []⟩,
          ⟨(some 64), (.build [(.imm (.int .i64 0)), (.imm (.int .i64 0))] []), [], none, []⟩,
          ⟨none, (.store 2), [.t 6, .t 63], none, [0, 0]⟩,
          ⟨none, (.store 2), [.t 7, .t 64], none, [1, 2, 0, 1, 2]⟩,
          ⟨(some 8), .mov, [.c (.bool false)], none, [3, 0, 1, 2, 3]⟩] false)
        .ret)
       .skip))
     (.keep [3, 6, 7, 9, 10, 11, 12] [3, 6, 7] b24k0)))))
def d24 : DFn := ⟨3, 93, [.cell 6 true 2, .cell 7 true 2, .tmp 8], b24⟩
theorem body24 : d24.body = b24 := rfl
theorem res24 : d24.res = [.cell 6 true 2, .cell 7 true 2, .tmp 8] := rfl
theorem k24 : chkFn Try.prog Try.f24 d24 = true := by kernel_rfl

/-- guidevane/guidevaneref01.Copy -/
def b28 : DCode :=
 (.seq
  (.region [⟨(some 1), .box, [.t 0], none, []⟩,
    ⟨(some 2), (.alloc [(.imm (.slc 2 []))]), [], none, []⟩] false)
  (.seq
   (.region [⟨(some 3), (.bsl 2), [], none, []⟩,
     ⟨(some 4), (.faddr 0 false 1), [.t 1], none, []⟩,
     ⟨(some 5), (.load false 1), [.t 4], none, [1]⟩,
     ⟨(some 6), (.append 2 16 false), [.t 3, .t 5], none, [0, 2]⟩,
     ⟨(some 7), (.build [(.imm (.slc 2 []))] [(0, 1)]), [.t 6], none, [3]⟩,
     ⟨none, (.store 1), [.t 2, .t 7], none, [4, 3, 0, 1, 2, 3, 4]⟩] false)
   .ret))
def d28 : DFn := ⟨1, 8, [.cell 2 true 1], b28⟩
theorem body28 : d28.body = b28 := rfl
theorem res28 : d28.res = [.cell 2 true 1] := rfl
theorem k28 : chkFn Try.prog Try.f28 d28 = true := by kernel_rfl

/-- guidevane/guidevaneref01.CopyReadings -/
def b30 : DCode :=
 (.seq
  (.region [⟨(some 2), .mov, [.c (.slc 3 [])], none, []⟩] false)
  (.seq
   (.region [⟨(some 3), (.bsl 3), [], none, []⟩,
     ⟨(some 4), .movv, [.t 0], none, []⟩,
     ⟨(some 5), (.append 3 24 false), [.t 3, .t 4], none, [0, 1]⟩,
     ⟨(some 2), .movv, [.t 5], none, [2, 2, 0, 1, 2]⟩] false)
   .ret))
def d30 : DFn := ⟨1, 6, [.tmp 2], b30⟩
theorem body30 : d30.body = b30 := rfl
theorem res30 : d30.res = [.tmp 2] := rfl
theorem k30 : chkFn Try.prog Try.f30 d30 = true := by kernel_rfl

/-- guidevane/guidevaneref01.AllErr -/
def b32k0 : DCode :=
 (.seq
  (.region [⟨(some 19), (.load true 1), [.t 3], none, []⟩,
    ⟨(some 20), .movv, [.t 1], none, []⟩,
    ⟨(some 21), .movv, [.t 2], none, []⟩,
    ⟨(some 22), .call, [.f 75, .t 19, .t 20, .t 21], none, [0, 1, 2]⟩,
    ⟨(some 6), .mov, [.t 22], none, [3, 3, 0, 1, 2, 3]⟩] false)
  .ret)
def b32k1 : DCode :=
 (.seq
  (.seq
   (.region [⟨(some 14), .movv, [.t 1], none, []⟩,
     ⟨(some 15), .call, [.f 74, .t 14], none, [0]⟩,
     ⟨(some 8), .mov, [.t 15], none, [1, 1, 0, 1]⟩] false)
   (.seq
    (.region [⟨(some 16), .mov, [.t 8], none, []⟩,
      ⟨(some 17), (.bin .neq), [.t 16, .c (.int .i64 0)], none, [0]⟩] false)
    (.cond (.t 17)
     (.seq
      (.region [⟨(some 18), .mov, [.t 8], none, []⟩,
        ⟨(some 6), .mov, [.t 18], none, [0, 0]⟩] false)
      .ret)
     .skip)))
  (.keep [1, 2, 3] [3] b32k0))
def b32 : DCode :=
 (.seq
  (.region [⟨(some 3), .box, [.t 0], none, []⟩,
    ⟨(some 6), .mov, [.c (.int .i64 0)], none, []⟩] false)
  (.seq
   (.seq
    (.region [⟨(some 9), (.load true 1), [.t 3], none, []⟩,
      ⟨(some 10), .call, [.f 46, .t 9], none, [0]⟩,
      ⟨(some 7), .mov, [.t 10], none, [1, 1, 0, 1]⟩] false)
    (.seq
     (.region [⟨(some 11), .mov, [.t 7], none, []⟩,
       ⟨(some 12), (.bin .neq), [.t 11, .c (.int .i64 0)], none, [0]⟩] false)
     (.cond (.t 12)
      (.seq
       (.region [⟨(some 13), .mov, [.t 7], none, []⟩,
         ⟨(some 6), .mov, [.t 13], none, [0, 0]⟩] false)
       .ret)
      .skip)))
   (.keep [1, 2, 3] [3] b32k1)))
def d32 : DFn := ⟨3, 23, [.tmp 6], b32⟩
theorem body32 : d32.body = b32 := rfl
theorem res32 : d32.res = [.tmp 6] := rfl
theorem k32 : chkFn Try.prog Try.f32 d32 = true := by kernel_rfl

/-- guidevane/guidevaneref01.AgreedOf -/
def b33k0 : DCode :=
 (.seq
  (.block 1
   (.seq
    (.region [⟨(some 23), (.load true 1), [.t 3], none, []⟩,
      ⟨(some 24), .movv, [.t 1], none, []⟩,
      ⟨(some 25), .movv, [.t 2], none, []⟩,
      ⟨(some 26), .mov, [.t 9], none, []⟩,
      ⟨(some 27), (.iaddr 3), [.t 25, .t 26], none, [2, 3]⟩,
      ⟨(some 28), (.load true 3), [.t 27], none, [4]⟩,
      ⟨(some 29), .call, [.f 76, .t 23, .t 24, .t 28], none, [0, 1, 5]⟩,
      ⟨(some 10), (.alloc [(.imm (.int .i64 0)), (.imm (.int .i64 0))]), [], none, []⟩,
      ⟨none, (.store 2), [.t 10, .t 29], none, [7, 6, 6, 0, 1, 2, 3, 4, 5, 6, 7]⟩] true)
    (.region [⟨(some 30), (.faddr 0 false 1), [.t 8], none, []⟩,
      ⟨(some 31), (.load false 1), [.t 30], none, [0]⟩,
      ⟨(some 32), (.faddr 0 false 1), [.t 10], none, []⟩,
      ⟨(some 33), (.load false 1), [.t 32], none, [2]⟩,
      ⟨(some 34), (.mm true), [.t 31, .t 33], none, [1, 3]⟩,
      ⟨(some 35), (.faddr 1 false 1), [.t 8], none, []⟩,
      ⟨(some 36), (.load false 1), [.t 35], none, [5]⟩,
      ⟨(some 37), (.faddr 1 false 1), [.t 10], none, []⟩,
      ⟨(some 38), (.load false 1), [.t 37], none, [7]⟩,
      ⟨(some 39), (.mm false), [.t 36, .t 38], none, [6, 8]⟩,
      ⟨(some 40), (.build [(.imm (.int .i64 0)), (.imm (.int .i64 0))] [(0, 1), (1, 1)]), [.t 34, .t 39], none, [4, 9]⟩,
      ⟨none, (.store 2), [.t 8, .t 40], none, [10, 0, 1, 2, 3, 4, 5, 6, 7, 8, 9, 10]⟩] false)))
  (.region [⟨(some 21), .mov, [.t 9], none, []⟩,
    ⟨(some 22), (.bin .add), [.t 21, .c (.int .i64 1)], none, [0]⟩,
    ⟨(some 9), .mov, [.t 22], none, [1, 0, 1]⟩] false))
def b33l0 : DCode := .keep [1, 2, 3, 6, 8, 9] [3, 6, 8]
  (.seq
   (.seq
    (.region [⟨(some 17), .mov, [.t 9], none, []⟩,
      ⟨(some 18), .movv, [.t 2], none, []⟩,
      ⟨(some 19), .len, [.t 18], none, [1]⟩,
      ⟨(some 20), (.bin .lss), [.t 17, .t 19], none, [0, 2]⟩] false)
    (.cond (.t 20)
     .skip
     (.exit 0)))
   (.keep [1, 2, 3, 6, 8, 9] [3, 6, 8] b33k0))
def b33k1 : DCode :=
 (.seq
  (.region [⟨(some 47), (.load true 2), [.t 8], none, []⟩,
    ⟨none, (.store 2), [.t 6, .t 47], none, [0, 0]⟩,
    ⟨(some 7), .mov, [.c (.bool true)], none, [1, 0, 1]⟩] false)
  .ret)
def b33k2 : DCode :=
 (.seq
  (.seq
   (.region [⟨(some 41), (.faddr 0 false 1), [.t 8], none, []⟩,
     ⟨(some 42), (.load false 1), [.t 41], none, [0]⟩,
     ⟨(some 43), (.faddr 1 false 1), [.t 8], none, []⟩,
     ⟨(some 44), (.load false 1), [.t 43], none, [2]⟩,
     ⟨(some 45), (.bin .gtr), [.t 42, .t 44], none, [1, 3]⟩] false)
   (.cond (.t 45)
    (.seq
     (.region [⟨(some 46), (.build [(.imm (.int .i64 0)), (.imm (.int .i64 0))] []), [], none, []⟩,
       ⟨none, (.store 2), [.t 6, .t 46], none, [0, 0]⟩,
       ⟨(some 7), .mov, [.c (.bool false)], none, [1, 0, 1]⟩] false)
     .ret)
    .skip))
  (.keep [6, 8] [6, 8] b33k1))
def b33 : DCode :=
 (.seq
  (.region [⟨(some 3), .box, [.t 0], none, []⟩,
    ⟨(some 6), (.alloc [(.imm (.int .i64 0)), (.imm (.int .i64 0))]), [], none, []⟩,
    ⟨(some 7), .mov, [.c (.bool false)], none, []⟩] false)
  (.seq
   (.region [⟨(some 11), (.load true 1), [.t 3], none, []⟩,
     ⟨(some 12), .movv, [.t 1], none, []⟩,
     ⟨(some 13), .movv, [.t 2], none, []⟩,
     ⟨(some 14), (.iaddr 3), [.t 13, .c (.int .i64 0)], none, [2]⟩,
     ⟨(some 15), (.load true 3), [.t 14], none, [3]⟩,
     ⟨(some 16), .call, [.f 76, .t 11, .t 12, .t 15], none, [0, 1, 4]⟩,
     ⟨(some 8), (.alloc [(.imm (.int .i64 0)), (.imm (.int .i64 0))]), [], none, []⟩,
     ⟨none, (.store 2), [.t 8, .t 16], none, [6, 5, 5, 0, 1, 2, 3, 4, 5, 6]⟩] true)
   (.seq
    (.seq
     (.region [⟨(some 9), .mov, [.c (.int .i64 1)], none, []⟩] false)
     (.block 0
      (.loop b33l0)))
    (.keep [6, 8] [6, 8] b33k2))))
def d33 : DFn := ⟨3, 48, [.cell 6 true 2, .tmp 7], b33⟩
theorem body33 : d33.body = b33 := rfl
theorem res33 : d33.res = [.cell 6 true 2, .tmp 7] := rfl
theorem k33 : chkFn Try.prog Try.f33 d33 = true := by kernel_rfl

/-- guidevane/guidevaneref01.Contradicting -/
def b34k0 : DCode :=
 (.region [⟨(some 19), .mov, [.t 8], none, []⟩,
   ⟨(some 20), (.bin .add), [.t 19, .c (.int .i64 1)], none, [0]⟩,
   ⟨(some 8), .mov, [.t 20], none, [1, 0, 1]⟩] false)
def b34k1 : DCode :=
 (.seq
  (.block 1
   (.seq
    (.region [⟨(some 22), (.load true 1), [.t 3], none, []⟩,
      ⟨(some 23), .movv, [.t 1], none, []⟩,
      ⟨(some 24), .movv, [.t 2], none, []⟩,
      ⟨(some 25), .mov, [.t 8], none, []⟩,
      ⟨(some 26), (.iaddr 3), [.t 24, .t 25], none, [2, 3]⟩,
      ⟨(some 27), (.load true 3), [.t 26], none, [4]⟩,
      ⟨(some 28), (.bsl 3), [.t 27], none, [5]⟩,
      ⟨(some 29), .call, [.f 33, .t 22, .t 23, .t 28], none, [0, 1, 6]⟩,
      ⟨(some 21), .mov, [.t 29], none, [7]⟩,
      ⟨(some 30), (.ext 0), [.t 21], none, [8]⟩,
      ⟨(some 31), (.ext 1), [.t 21], none, [8]⟩,
      ⟨(some 9), (.alloc [(.imm (.int .i64 0)), (.imm (.int .i64 0))]), [], none, []⟩,
      ⟨none, (.store 2), [.t 9, .t 30], none, [11, 9, 7, 0, 1, 2, 3, 4, 5, 6, 7, 8, 9, 11]⟩,
      ⟨(some 10), .mov, [.t 31], none, [10, 12, 0, 1, 2, 3, 4, 5, 6, 7, 8, 9, 10, 11, 12]⟩] true)
    (.seq
     (.region [⟨(some 32), .mov, [.t 10], none, []⟩,
       ⟨(some 33), (.un .not), [.t 32], none, [0]⟩] false)
     (.cond (.t 33)
      (.seq
       (.region [⟨(some 34), .mov, [.t 8], none, []⟩,
         ⟨(some 35), (.bsl 1), [.t 34], none, [0]⟩,
         ⟨(some 6), .movv, [.t 35], none, [1, 0, 1]⟩,
         ⟨(some 7), .mov, [.c (.bool true)], none, [2, 0, 1, 2]⟩] false)
       .ret)
      .skip))))
  (.keep [1, 2, 3, 8] [3] b34k0))
def b34l0 : DCode := .keep [1, 2, 3, 8] [3]
  (.seq
   (.seq
    (.region [⟨(some 15), .mov, [.t 8], none, []⟩,
      ⟨(some 16), .movv, [.t 2], none, []⟩,
      ⟨(some 17), .len, [.t 16], none, [1]⟩,
      ⟨(some 18), (.bin .lss), [.t 15, .t 17], none, [0, 2]⟩] false)
    (.cond (.t 18)
     .skip
     (.exit 0)))
   (.keep [1, 2, 3, 8] [3] b34k1))
def b34k2 : DCode :=
 (.region [⟨(some 48), .mov, [.t 12], none, []⟩,
   ⟨(some 49), (.bin .add), [.t 48, .c (.int .i64 1)], none, [0]⟩,
   ⟨(some 12), .mov, [.t 49], none, [1, 0, 1]⟩] false)
def b34k3 : DCode :=
 (.seq
  (.block 5
   (.seq
    (.region [⟨(some 51), (.load true 1), [.t 3], none, []⟩,
      ⟨(some 52), .movv, [.t 1], none, []⟩,
      ⟨(some 53), .movv, [.t 2], none, []⟩,
      ⟨(some 54), .mov, [.t 11], none, []⟩,
      ⟨(some 55), (.iaddr 3), [.t 53, .t 54], none, [2, 3]⟩,
      ⟨(some 56), (.load true 3), [.t 55], none, [4]⟩,
      ⟨(some 57), .movv, [.t 2], none, []⟩,
      ⟨(some 58), .mov, [.t 12], none, []⟩,
      ⟨(some 59), (.iaddr 3), [.t 57, .t 58], none, [6, 7]⟩,
      ⟨(some 60), (.load true 3), [.t 59], none, [8]⟩,
      ⟨(some 61), (.bsl 3), [.t 56, .t 60], none, [5, 9]⟩,
      ⟨(some 62), .call, [.f 33, .t 51, .t 52, .t 61], none, [0, 1, 10]⟩,
      ⟨(some 50), .mov, [.t 62], none, [11]⟩,
      ⟨(some 63), (.ext 0), [.t 50], none, [12]⟩,
      ⟨(some 64), (.ext 1), [.t 50], none, [12]⟩,
      ⟨(some 13), (.alloc [(.imm (.int .i64 0)), (.imm (.int .i64 0))]), [], none, []⟩,
      ⟨none, (.store 2), [.t 13, .t 63], none, [15, 13, 11, 0, 1, 2, 3, 4, 5, 6, 7, 8, 9, 10, 11, 12, 13, 15]⟩,
      ⟨(some 14), .mov, [.t 64], none, [14, 16, 0, 1, 2, 3, 4, 5, 6, 7, 8, 9, 10, 11, 12, 13, 14, 15, 16]⟩] true)
    (.seq
     (.region [⟨(some 65), .mov, [.t 14], none, []⟩,
       ⟨(some 66), (.un .not), [.t 65], none, [0]⟩] false)
     (.cond (.t 66)
      (.seq
       (.region [⟨(some 67), .mov, [.t 11], none, []⟩,
         ⟨(some 68), .mov, [.t 12], none, []⟩,
         ⟨(some 69), (.bsl 1), [.t 67, .t 68], none, [0, 1]⟩,
         ⟨(some 6), .movv, [.t 69], none, [2, 0, 1, 2]⟩,
         ⟨(some 7), .mov, [.c (.bool true)], none, [3, 0, 1, 2, 3]⟩] false)
       .ret)
      .skip))))
  (.keep [1, 2, 3, 11, 12] [3] b34k2))
def b34l1 : DCode := .keep [1, 2, 3, 11, 12] [3]
  (.seq
   (.seq
    (.region [⟨(some 44), .mov, [.t 12], none, []⟩,
      ⟨(some 45), .movv, [.t 2], none, []⟩,
      ⟨(some 46), .len, [.t 45], none, [1]⟩,
      ⟨(some 47), (.bin .lss), [.t 44, .t 46], none, [0, 2]⟩] false)
    (.cond (.t 47)
     .skip
     (.exit 4)))
   (.keep [1, 2, 3, 11, 12] [3] b34k3))
def b34k4 : DCode :=
 (.region [⟨(some 40), .mov, [.t 11], none, []⟩,
   ⟨(some 41), (.bin .add), [.t 40, .c (.int .i64 1)], none, [0]⟩,
   ⟨(some 11), .mov, [.t 41], none, [1, 0, 1]⟩] false)
def b34k5 : DCode :=
 (.seq
  (.block 3
   (.seq
    (.region [⟨(some 42), .mov, [.t 11], none, []⟩,
      ⟨(some 43), (.bin .add), [.t 42, .c (.int .i64 1)], none, [0]⟩,
      ⟨(some 12), .mov, [.t 43], none, [1, 0, 1]⟩] false)
    (.block 4
     (.loop b34l1))))
  (.keep [1, 2, 3, 11] [3] b34k4))
def b34l2 : DCode := .keep [1, 2, 3, 11] [3]
  (.seq
   (.seq
    (.region [⟨(some 36), .mov, [.t 11], none, []⟩,
      ⟨(some 37), .movv, [.t 2], none, []⟩,
      ⟨(some 38), .len, [.t 37], none, [1]⟩,
      ⟨(some 39), (.bin .lss), [.t 36, .t 38], none, [0, 2]⟩] false)
    (.cond (.t 39)
     .skip
     (.exit 2)))
   (.keep [1, 2, 3, 11] [3] b34k5))
def b34k6 : DCode :=
 (.seq
  (.region [⟨(some 6), .mov, [.c (.slc 1 [])], none, []⟩,
    ⟨(some 7), .mov, [.c (.bool false)], none, [0, 0]⟩] false)
  .ret)
def b34k7 : DCode :=
 (.seq
  (.seq
   (.region [⟨(some 11), .mov, [.c (.int .i64 0)], none, []⟩] false)
   (.block 2
    (.loop b34l2)))
  (.keep [] [] b34k6))
def b34 : DCode :=
 (.seq
  (.region [⟨(some 3), .box, [.t 0], none, []⟩,
    ⟨(some 6), .mov, [.c (.slc 1 [])], none, []⟩,
    ⟨(some 7), .mov, [.c (.bool false)], none, [1]⟩] false)
  (.seq
   (.seq
    (.region [⟨(some 8), .mov, [.c (.int .i64 0)], none, []⟩] false)
    (.block 0
     (.loop b34l0)))
   (.keep [1, 2, 3] [3] b34k7)))
def d34 : DFn := ⟨3, 70, [.tmp 6, .tmp 7], b34⟩
theorem body34 : d34.body = b34 := rfl
theorem res34 : d34.res = [.tmp 6, .tmp 7] := rfl
theorem k34 : chkFn Try.prog Try.f34 d34 = true := by kernel_rfl

/-- guidevane/guidevaneref01.CheckTable -/
def b40k0 : DCode :=
 (.seq
  (.region [⟨(some 62), .mov, [.t 4], none, []⟩,
    ⟨(some 63), (.bin .gtr), [.t 62, .c (.int .i64 1)], none, [0]⟩,
    ⟨(some 64), .mov, [.t 63], none, [1]⟩,
    ⟨(some 65), (.load true 1), [.t 1], (some (64, true)), [2]⟩,
    ⟨(some 66), .mov, [.t 4], (some (64, true)), [2]⟩,
    ⟨(some 67), .call, [.f 86, .t 65, .t 66], (some (64, true)), [3, 4, 2, 2]⟩,
    ⟨(some 68), (.load true 1), [.t 1], (some (64, true)), [2]⟩,
    ⟨(some 69), .mov, [.t 4], (some (64, true)), [2]⟩,
    ⟨(some 70), (.bin .sub), [.t 69, .c (.int .i64 1)], (some (64, true)), [7, 2]⟩,
    ⟨(some 71), .call, [.f 86, .t 68, .t 70], (some (64, true)), [6, 8, 5, 2]⟩,
    ⟨(some 72), .call, [.f 85, .t 67, .t 71], (some (64, true)), [5, 9, 9, 2]⟩,
    ⟨(some 73), (.bin .lss), [.t 72, .c (.int .i64 0)], (some (64, true)), [10, 2]⟩,
    ⟨(some 74), .pick, [.t 64, .t 73, .c (.bool false)], none, [2, 11]⟩] true)
  (.cond (.t 74)
   (.seq
    (.region [⟨(some 75), .mov, [.t 4], none, []⟩,
      ⟨(some 2), .mov, [.t 75], none, [0, 0]⟩,
      ⟨(some 3), .mov, [.c (.int .i64 22)], none, [1, 0, 1]⟩] false)
    .ret)
   .skip))
def b40k1 : DCode :=
 (.seq
  (.seq
   (.region [⟨(some 39), (.faddr 0 false 1), [.t 5], none, []⟩,
     ⟨(some 40), (.load false 1), [.t 39], none, [0]⟩,
     ⟨(some 41), (.faddr 0 false 1), [.t 1], none, []⟩,
     ⟨(some 42), (.load false 1), [.t 41], none, [2]⟩,
     ⟨(some 43), .mov, [.t 4], none, []⟩,
     ⟨(some 44), (.bin .sub), [.t 43, .c (.int .i64 1)], none, [4]⟩,
     ⟨(some 45), (.iaddr 2), [.t 42, .t 44], none, [3, 5]⟩,
     ⟨(some 46), (.faddr 0 false 1), [.t 45], none, [6]⟩,
     ⟨(some 47), (.load false 1), [.t 46], none, [7]⟩,
     ⟨(some 48), (.bin .leq), [.t 40, .t 47], none, [1, 8]⟩,
     ⟨(some 49), .mov, [.t 48], none, [9]⟩,
     ⟨(some 50), (.faddr 1 false 1), [.t 5], (some (49, false)), [10]⟩,
     ⟨(some 51), (.load false 1), [.t 50], (some (49, false)), [11, 10]⟩,
     ⟨(some 52), (.faddr 0 false 1), [.t 1], (some (49, false)), [10]⟩,
     ⟨(some 53), (.load false 1), [.t 52], (some (49, false)), [13, 10]⟩,
     ⟨(some 54), .mov, [.t 4], (some (49, false)), [10]⟩,
     ⟨(some 55), (.bin .sub), [.t 54, .c (.int .i64 1)], (some (49, false)), [15, 10]⟩,
     ⟨(some 56), (.iaddr 2), [.t 53, .t 55], (some (49, false)), [14, 16, 10]⟩,
     ⟨(some 57), (.faddr 1 false 1), [.t 56], (some (49, false)), [17, 10]⟩,
     ⟨(some 58), (.load false 1), [.t 57], (some (49, false)), [18, 10]⟩,
     ⟨(some 59), (.bin .leq), [.t 51, .t 58], (some (49, false)), [12, 19, 10]⟩,
     ⟨(some 60), .pick, [.t 49, .c (.bool true), .t 59], none, [10, 20]⟩] true)
   (.cond (.t 60)
    (.seq
     (.region [⟨(some 61), .mov, [.t 4], none, []⟩,
       ⟨(some 2), .mov, [.t 61], none, [0, 0]⟩,
       ⟨(some 3), .mov, [.c (.int .i64 9)], none, [1, 0, 1]⟩] false)
     .ret)
    .skip))
  (.keep [1, 4] [1] b40k0))
def b40k2 : DCode :=
 (.seq
  (.seq
   (.region [⟨(some 37), .mov, [.t 4], none, []⟩,
     ⟨(some 38), (.bin .eql), [.t 37, .c (.int .i64 0)], none, [0]⟩] false)
   (.cond (.t 38)
    (.exit 1)
    .skip))
  (.keep [1, 4, 5] [1, 5] b40k1))
def b40k3 : DCode :=
 (.region [⟨(some 19), .mov, [.t 4], none, []⟩,
   ⟨(some 20), (.bin .add), [.t 19, .c (.int .i64 1)], none, [0]⟩,
   ⟨(some 4), .mov, [.t 20], none, [1, 0, 1]⟩] false)
def b40k4 : DCode :=
 (.seq
  (.block 1
   (.seq
    (.region [⟨(some 21), (.faddr 0 false 1), [.t 1], none, []⟩,
      ⟨(some 22), (.load false 1), [.t 21], none, [0]⟩,
      ⟨(some 23), .mov, [.t 4], none, []⟩,
      ⟨(some 24), (.iaddr 2), [.t 22, .t 23], none, [1, 2]⟩,
      ⟨(some 25), (.load true 2), [.t 24], none, [3]⟩,
      ⟨(some 5), (.alloc [(.imm (.int .i64 0)), (.imm (.int .i64 0))]), [], none, []⟩,
      ⟨none, (.store 2), [.t 5, .t 25], none, [5, 4, 0, 1, 2, 3, 4, 5]⟩] false)
    (.seq
     (.seq
      (.region [⟨(some 26), (.faddr 0 false 1), [.t 5], none, []⟩,
        ⟨(some 27), (.load false 1), [.t 26], none, [0]⟩,
        ⟨(some 28), .call, [.f 15, .t 27, .c (.int .i64 0), .c (.int .i64 1000000)], none, [1]⟩,
        ⟨(some 29), (.un .not), [.t 28], none, [2]⟩,
        ⟨(some 30), .mov, [.t 29], none, [3, 2]⟩,
        ⟨(some 31), (.faddr 1 false 1), [.t 5], (some (30, false)), [4]⟩,
        ⟨(some 32), (.load false 1), [.t 31], (some (30, false)), [5, 4]⟩,
        ⟨(some 33), .call, [.f 15, .t 32, .c (.int .i64 0), .c (.int .i64 1000000000)], (some (30, false)), [6, 4, 4]⟩,
        ⟨(some 34), (.un .not), [.t 33], (some (30, false)), [7, 4]⟩,
        ⟨(some 35), .pick, [.t 30, .c (.bool true), .t 34], none, [4, 8]⟩] false)
      (.cond (.t 35)
       (.seq
        (.region [⟨(some 36), .mov, [.t 4], none, []⟩,
          ⟨(some 2), .mov, [.t 36], none, [0, 0]⟩,
          ⟨(some 3), .mov, [.c (.int .i64 2)], none, [1, 0, 1]⟩] false)
        .ret)
       .skip))
     (.keep [1, 4, 5] [1, 5] b40k2))))
  (.keep [1, 4] [1] b40k3))
def b40l0 : DCode := .keep [1, 4] [1]
  (.seq
   (.seq
    (.region [⟨(some 14), .mov, [.t 4], none, []⟩,
      ⟨(some 15), (.faddr 0 false 1), [.t 1], none, []⟩,
      ⟨(some 16), (.load false 1), [.t 15], none, [1]⟩,
      ⟨(some 17), .len, [.t 16], none, [2]⟩,
      ⟨(some 18), (.bin .lss), [.t 14, .t 17], none, [0, 3]⟩] false)
    (.cond (.t 18)
     .skip
     (.exit 0)))
   (.keep [1, 4] [1] b40k4))
def b40k5 : DCode :=
 (.seq
  (.region [⟨(some 2), .mov, [.c (.int .i64 0)], none, []⟩,
    ⟨(some 3), .mov, [.c (.int .i64 0)], none, [0, 0]⟩] false)
  .ret)
def b40k6 : DCode :=
 (.seq
  (.seq
   (.region [⟨(some 4), .mov, [.c (.int .i64 0)], none, []⟩] false)
   (.block 0
    (.loop b40l0)))
  (.keep [] [] b40k5))
def b40k7 : DCode :=
 (.seq
  (.seq
   (.region [⟨(some 10), (.faddr 0 false 1), [.t 1], none, []⟩,
     ⟨(some 11), (.load false 1), [.t 10], none, [0]⟩,
     ⟨(some 12), .len, [.t 11], none, [1]⟩,
     ⟨(some 13), (.bin .gtr), [.t 12, .c (.int .i64 10)], none, [2]⟩] false)
   (.cond (.t 13)
    (.seq
     (.region [⟨(some 2), .mov, [.c (.int .i64 0)], none, []⟩,
       ⟨(some 3), .mov, [.c (.int .i64 8)], none, [0, 0]⟩] false)
     .ret)
    .skip))
  (.keep [1] [1] b40k6))
def b40 : DCode :=
 (.seq
  (.region [⟨(some 1), .box, [.t 0], none, []⟩,
    ⟨(some 2), .mov, [.c (.int .i64 0)], none, []⟩,
    ⟨(some 3), .mov, [.c (.int .i64 0)], none, [1]⟩] false)
  (.seq
   (.seq
    (.region [⟨(some 6), (.faddr 0 false 1), [.t 1], none, []⟩,
      ⟨(some 7), (.load false 1), [.t 6], none, [0]⟩,
      ⟨(some 8), .len, [.t 7], none, [1]⟩,
      ⟨(some 9), (.bin .lss), [.t 8, .c (.int .i64 2)], none, [2]⟩] false)
    (.cond (.t 9)
     (.seq
      (.region [⟨(some 2), .mov, [.c (.int .i64 0)], none, []⟩,
        ⟨(some 3), .mov, [.c (.int .i64 10)], none, [0, 0]⟩] false)
      .ret)
     .skip))
   (.keep [1] [1] b40k7)))
def d40 : DFn := ⟨1, 76, [.tmp 2, .tmp 3], b40⟩
theorem body40 : d40.body = b40 := rfl
theorem res40 : d40.res = [.tmp 2, .tmp 3] := rfl
theorem k40 : chkFn Try.prog Try.f40 d40 = true := by kernel_rfl

/-- guidevane/guidevaneref01.IsLevel -/
def b41 : DCode :=
 (.seq
  (.region [⟨(some 2), .box, [.t 0], none, []⟩,
    ⟨(some 4), .mov, [.c (.bool false)], none, []⟩] false)
  (.seq
   (.region [⟨(some 5), .mov, [.t 1], none, []⟩,
     ⟨(some 6), (.load true 1), [.t 2], none, []⟩,
     ⟨(some 7), .call, [.f 70, .t 6], none, [1]⟩,
     ⟨(some 8), (.field 0 false 1), [.t 7], none, [2]⟩,
     ⟨(some 9), (.load true 1), [.t 2], none, []⟩,
     ⟨(some 10), .call, [.f 47, .t 9], none, [4, 2]⟩,
     ⟨(some 11), (.field 0 false 1), [.t 10], none, [5]⟩,
     ⟨(some 12), .call, [.f 15, .t 5, .t 8, .t 11], none, [0, 3, 6, 5]⟩,
     ⟨(some 4), .mov, [.t 12], none, [7, 7, 0, 1, 2, 3, 4, 5, 6, 7]⟩] true)
   .ret))
def d41 : DFn := ⟨2, 13, [.tmp 4], b41⟩
theorem body41 : d41.body = b41 := rfl
theorem res41 : d41.res = [.tmp 4] := rfl
theorem k41 : chkFn Try.prog Try.f41 d41 = true := by kernel_rfl

/-- guidevane/guidevaneref01.VolumeAt -/
def b42 : DCode :=
 (.seq
  (.region [⟨(some 2), .box, [.t 0], none, []⟩,
    ⟨(some 4), (.alloc [(.imm (.int .i64 0)), (.imm (.int .i64 0))]), [], none, []⟩] false)
  (.seq
   (.region [⟨(some 5), (.load true 1), [.t 2], none, []⟩,
     ⟨(some 6), .mov, [.t 1], none, []⟩,
     ⟨(some 7), .call, [.f 88, .t 5, .t 6], none, [0, 1]⟩,
     ⟨(some 8), .call, [.f 87, .t 7], none, [2, 2]⟩,
     ⟨none, (.store 2), [.t 4, .t 8], none, [3, 3, 0, 1, 2, 3]⟩] false)
   .ret))
def d42 : DFn := ⟨2, 9, [.cell 4 true 2], b42⟩
theorem body42 : d42.body = b42 := rfl
theorem res42 : d42.res = [.cell 4 true 2] := rfl
theorem k42 : chkFn Try.prog Try.f42 d42 = true := by kernel_rfl

/-- guidevane/guidevaneref01.IsVolume -/
def b43 : DCode :=
 (.seq
  (.region [⟨(some 2), .box, [.t 0], none, []⟩,
    ⟨(some 4), .mov, [.c (.bool false)], none, []⟩] false)
  (.seq
   (.region [⟨(some 5), .mov, [.t 1], none, []⟩,
     ⟨(some 6), (.load true 1), [.t 2], none, []⟩,
     ⟨(some 7), .call, [.f 70, .t 6], none, [1]⟩,
     ⟨(some 8), (.field 1 false 1), [.t 7], none, [2]⟩,
     ⟨(some 9), (.load true 1), [.t 2], none, []⟩,
     ⟨(some 10), .call, [.f 47, .t 9], none, [4, 2]⟩,
     ⟨(some 11), (.field 1 false 1), [.t 10], none, [5]⟩,
     ⟨(some 12), .call, [.f 15, .t 5, .t 8, .t 11], none, [0, 3, 6, 5]⟩,
     ⟨(some 4), .mov, [.t 12], none, [7, 7, 0, 1, 2, 3, 4, 5, 6, 7]⟩] true)
   .ret))
def d43 : DFn := ⟨2, 13, [.tmp 4], b43⟩
theorem body43 : d43.body = b43 := rfl
theorem res43 : d43.res = [.tmp 4] := rfl
theorem k43 : chkFn Try.prog Try.f43 d43 = true := by kernel_rfl

/-- guidevane/guidevaneref01.LevelAt -/
def b44 : DCode :=
 (.seq
  (.region [⟨(some 2), .box, [.t 0], none, []⟩,
    ⟨(some 4), (.alloc [(.imm (.int .i64 0)), (.imm (.int .i64 0))]), [], none, []⟩] false)
  (.seq
   (.region [⟨(some 5), (.load true 1), [.t 2], none, []⟩,
     ⟨(some 6), .mov, [.t 1], none, []⟩,
     ⟨(some 7), .call, [.f 89, .t 5, .t 6], none, [0, 1]⟩,
     ⟨(some 8), .call, [.f 87, .t 7], none, [2, 2]⟩,
     ⟨none, (.store 2), [.t 4, .t 8], none, [3, 3, 0, 1, 2, 3]⟩] false)
   .ret))
def d44 : DFn := ⟨2, 9, [.cell 4 true 2], b44⟩
theorem body44 : d44.body = b44 := rfl
theorem res44 : d44.res = [.cell 4 true 2] := rfl
theorem k44 : chkFn Try.prog Try.f44 d44 = true := by kernel_rfl

/-- guidevane/guidevaneref01.AreaAt -/
def b45 : DCode :=
 (.seq
  (.region [⟨(some 2), .box, [.t 0], none, []⟩,
    ⟨(some 4), (.alloc [(.imm (.int .i64 0)), (.imm (.int .i64 0))]), [], none, []⟩] false)
  (.seq
   (.region [⟨(some 8), (.load true 1), [.t 2], none, []⟩,
     ⟨(some 9), .mov, [.t 1], none, []⟩,
     ⟨(some 10), .call, [.f 90, .t 8, .t 9], none, [0, 1]⟩,
     ⟨(some 5), .mov, [.t 10], none, [2, 2, 0, 1, 2]⟩] false)
   (.seq
    (.region [⟨(some 11), (.faddr 0 false 1), [.t 2], none, []⟩,
      ⟨(some 12), (.loadf false 1 [2]), [.t 11], none, [0]⟩,
      ⟨(some 13), .mov, [.t 5], none, []⟩,
      ⟨(some 14), (.bin .sub), [.t 13, .c (.int .i64 1)], none, [2]⟩,
      ⟨(some 15), (.iaddr 2), [.t 12, .t 14], none, [1, 3]⟩,
      ⟨(some 16), (.loadf true 2 []), [.t 15], none, [4]⟩,
      ⟨(some 17), (.faddr 0 false 1), [.t 2], none, []⟩,
      ⟨(some 18), (.loadf false 1 [2]), [.t 17], none, [6]⟩,
      ⟨(some 19), .mov, [.t 5], none, []⟩,
      ⟨(some 20), (.iaddr 2), [.t 18, .t 19], none, [7, 8]⟩,
      ⟨(some 21), (.loadf true 2 []), [.t 20], none, [9]⟩,
      ⟨(some 6), (.alloc [(.imm (.int .i64 0)), (.imm (.int .i64 0))]), [], none, []⟩,
      ⟨(some 7), (.alloc [(.imm (.int .i64 0)), (.imm (.int .i64 0))]), [], none, []⟩,
      ⟨none, (.storef 2 [6]), [.t 6, .t 16], none, [11, 5, 0, 1, 2, 3, 4, 5, 11, 12]⟩,
      ⟨none, (.storef 2 [7]), [.t 7, .t 21], none, [12, 10, 13, 0, 1, 2, 3, 4, 5, 6, 7, 8, 9, 10, 11, 12, 13]⟩] true)
    (.seq
     (.region [⟨(some 22), (.faddr 1 false 1), [.t 7], none, []⟩,
       ⟨(some 23), (.load false 1), [.t 22], none, [0]⟩,
       ⟨(some 24), (.faddr 1 false 1), [.t 6], none, []⟩,
       ⟨(some 25), (.load false 1), [.t 24], none, [2]⟩,
       ⟨(some 26), (.bin .sub), [.t 23, .t 25], none, [1, 3]⟩,
       ⟨(some 27), (.faddr 0 false 1), [.t 7], none, []⟩,
       ⟨(some 28), (.load false 1), [.t 27], none, [5]⟩,
       ⟨(some 29), (.faddr 0 false 1), [.t 6], none, []⟩,
       ⟨(some 30), (.load false 1), [.t 29], none, [7]⟩,
       ⟨(some 31), (.bin .sub), [.t 28, .t 30], none, [6, 8]⟩,
       ⟨(some 32), .call, [.f 91, .t 26, .t 31], none, [4, 9]⟩,
       ⟨none, (.store 2), [.t 4, .t 32], none, [10, 10, 0, 1, 2, 3, 4, 5, 6, 7, 8, 9, 10]⟩] false)
     .ret))))
def d45 : DFn := ⟨2, 33, [.cell 4 true 2], b45⟩
theorem body45 : d45.body = b45 := rfl
theorem res45 : d45.res = [.cell 4 true 2] := rfl
theorem k45 : chkFn Try.prog Try.f45 d45 = true := by kernel_rfl

/-- guidevane/guidevaneref01.TableErr -/
def b46 : DCode :=
 (.seq
  (.region [⟨(some 1), .box, [.t 0], none, []⟩,
    ⟨(some 2), .mov, [.c (.int .i64 0)], none, []⟩] false)
  (.seq
   (.region [⟨(some 6), (.load true 1), [.t 1], none, []⟩,
     ⟨(some 7), .call, [.f 40, .t 6], none, [0]⟩,
     ⟨(some 5), .mov, [.t 7], none, [1]⟩,
     ⟨(some 8), (.ext 0), [.t 5], none, [2]⟩,
     ⟨(some 9), (.ext 1), [.t 5], none, [2]⟩,
     ⟨(some 3), .mov, [.t 8], none, [3, 1, 0, 1, 2, 3]⟩,
     ⟨(some 4), .mov, [.t 9], none, [4, 5, 0, 1, 2, 3, 4, 5]⟩] false)
   (.seq
    (.region [⟨(some 10), .mov, [.t 4], none, []⟩,
      ⟨(some 2), .mov, [.t 10], none, [0, 0]⟩] false)
    .ret)))
def d46 : DFn := ⟨1, 11, [.tmp 2], b46⟩
theorem body46 : d46.body = b46 := rfl
theorem res46 : d46.res = [.tmp 2] := rfl
theorem k46 : chkFn Try.prog Try.f46 d46 = true := by kernel_rfl

/-- guidevane/guidevaneref01.Top -/
def b47 : DCode :=
 (.seq
  (.region [⟨(some 1), .box, [.t 0], none, []⟩,
    ⟨(some 2), (.alloc [(.imm (.int .i64 0)), (.imm (.int .i64 0))]), [], none, []⟩] false)
  (.seq
   (.region [⟨(some 3), (.faddr 0 false 1), [.t 1], none, []⟩,
     ⟨(some 4), (.load false 1), [.t 3], none, [0]⟩,
     ⟨(some 5), (.faddr 0 false 1), [.t 1], none, []⟩,
     ⟨(some 6), (.load false 1), [.t 5], none, [2]⟩,
     ⟨(some 7), .len, [.t 6], none, [3]⟩,
     ⟨(some 8), (.bin .sub), [.t 7, .c (.int .i64 1)], none, [4]⟩,
     ⟨(some 9), (.iaddr 2), [.t 4, .t 8], none, [1, 5]⟩,
     ⟨(some 10), (.load true 2), [.t 9], none, [6]⟩,
     ⟨none, (.store 2), [.t 2, .t 10], none, [7, 0, 1, 2, 3, 4, 5, 6, 7]⟩] false)
   .ret))
def d47 : DFn := ⟨1, 11, [.cell 2 true 2], b47⟩
theorem body47 : d47.body = b47 := rfl
theorem res47 : d47.res = [.cell 2 true 2] := rfl
theorem k47 : chkFn Try.prog Try.f47 d47 = true := by kernel_rfl

/-- guidevane/guidevaneref01.CopySeasons -/
def b51 : DCode :=
 (.seq
  (.region [⟨(some 2), .mov, [.c (.slc 3 [])], none, []⟩] false)
  (.seq
   (.region [⟨(some 3), (.bsl 3), [], none, []⟩,
     ⟨(some 4), .movv, [.t 0], none, []⟩,
     ⟨(some 5), (.append 3 24 false), [.t 3, .t 4], none, [0, 1]⟩,
     ⟨(some 2), .movv, [.t 5], none, [2, 2, 0, 1, 2]⟩] false)
   .ret))
def d51 : DFn := ⟨1, 6, [.tmp 2], b51⟩
theorem body51 : d51.body = b51 := rfl
theorem res51 : d51.res = [.tmp 2] := rfl
theorem k51 : chkFn Try.prog Try.f51 d51 = true := by kernel_rfl

/-- guidevane/guidevaneref01.MinimumOn -/
def b52k0 : DCode :=
 (.region [⟨(some 18), .mov, [.t 6], none, []⟩,
   ⟨(some 19), (.bin .add), [.t 18, .c (.int .i64 1)], none, [0]⟩,
   ⟨(some 6), .mov, [.t 19], none, [1, 0, 1]⟩] false)
def b52k1 : DCode :=
 (.seq
  (.block 1
   (.seq
    (.region [⟨(some 20), .movv, [.t 0], none, []⟩,
      ⟨(some 21), .mov, [.t 6], none, []⟩,
      ⟨(some 22), (.iaddr 3), [.t 20, .t 21], none, [0, 1]⟩,
      ⟨(some 23), (.faddr 0 false 1), [.t 22], none, [2]⟩,
      ⟨(some 24), (.load false 1), [.t 23], none, [3]⟩,
      ⟨(some 25), .call, [.f 15, .t 24, .c (.int .i64 0), .c (.int .i64 364)], none, [4]⟩,
      ⟨(some 26), (.un .not), [.t 25], none, [5]⟩,
      ⟨(some 27), .mov, [.t 26], none, [6, 5]⟩,
      ⟨(some 28), .movv, [.t 0], (some (27, false)), [7]⟩,
      ⟨(some 29), .mov, [.t 6], (some (27, false)), [7]⟩,
      ⟨(some 30), (.iaddr 3), [.t 28, .t 29], (some (27, false)), [8, 9, 7]⟩,
      ⟨(some 31), (.faddr 1 false 1), [.t 30], (some (27, false)), [10, 7]⟩,
      ⟨(some 32), (.load false 1), [.t 31], (some (27, false)), [11, 7]⟩,
      ⟨(some 33), .call, [.f 15, .t 32, .c (.int .i64 0), .c (.int .i64 364)], (some (27, false)), [12, 7, 7]⟩,
      ⟨(some 34), (.un .not), [.t 33], (some (27, false)), [13, 7]⟩,
      ⟨(some 35), .pick, [.t 27, .c (.bool true), .t 34], none, [7, 14]⟩,
      ⟨(some 36), .mov, [.t 35], none, [15, 13]⟩,
      ⟨(some 37), .movv, [.t 0], (some (36, false)), [16]⟩,
      ⟨(some 38), .mov, [.t 6], (some (36, false)), [16]⟩,
      ⟨(some 39), (.iaddr 3), [.t 37, .t 38], (some (36, false)), [17, 18, 16]⟩,
      ⟨(some 40), (.faddr 2 false 1), [.t 39], (some (36, false)), [19, 16]⟩,
      ⟨(some 41), (.load false 1), [.t 40], (some (36, false)), [20, 16]⟩,
      ⟨(some 42), .call, [.f 15, .t 41, .c (.int .i64 0), .c (.int .i64 1000000)], (some (36, false)), [21, 16, 16]⟩,
      ⟨(some 43), (.un .not), [.t 42], (some (36, false)), [22, 16]⟩,
      ⟨(some 44), .pick, [.t 36, .c (.bool true), .t 43], none, [16, 23]⟩] false)
    (.cond (.t 44)
     (.seq
      (.region [⟨(some 4), .mov, [.c (.int .i64 0)], none, []⟩,
        ⟨(some 5), .mov, [.c (.int .i64 2)], none, [0, 0]⟩] false)
      .ret)
     .skip)))
  (.keep [0, 1, 6] [] b52k0))
def b52l0 : DCode := .keep [0, 1, 6] []
  (.seq
   (.seq
    (.region [⟨(some 14), .mov, [.t 6], none, []⟩,
      ⟨(some 15), .movv, [.t 0], none, []⟩,
      ⟨(some 16), .len, [.t 15], none, [1]⟩,
      ⟨(some 17), (.bin .lss), [.t 14, .t 16], none, [0, 2]⟩] false)
    (.cond (.t 17)
     .skip
     (.exit 0)))
   (.keep [0, 1, 6] [] b52k1))
def b52k2 : DCode :=
 (.seq
  (.region [⟨(some 95), .mov, [.t 10], none, []⟩] false)
  (.cond (.t 95)
   (.region [⟨(some 96), .mov, [.t 8], none, []⟩,
     ⟨(some 97), .movv, [.t 0], none, []⟩,
     ⟨(some 98), .mov, [.t 9], none, []⟩,
     ⟨(some 99), (.iaddr 3), [.t 97, .t 98], none, [1, 2]⟩,
     ⟨(some 100), (.faddr 2 false 1), [.t 99], none, [3]⟩,
     ⟨(some 101), (.load false 1), [.t 100], none, [4]⟩,
     ⟨(some 102), (.mm true), [.t 96, .t 101], none, [0, 5]⟩,
     ⟨(some 8), .mov, [.t 102], none, [6, 0, 1, 2, 3, 4, 5, 6]⟩] false)
   .skip))
def b52k3 : DCode :=
 (.region [⟨(some 54), .mov, [.t 9], none, []⟩,
   ⟨(some 55), (.bin .add), [.t 54, .c (.int .i64 1)], none, [0]⟩,
   ⟨(some 9), .mov, [.t 55], none, [1, 0, 1]⟩] false)
def b52k4 : DCode :=
 (.seq
  (.block 3
   (.seq
    (.region [⟨(some 56), .mov, [.t 7], none, []⟩,
      ⟨(some 57), .movv, [.t 0], none, []⟩,
      ⟨(some 58), .mov, [.t 9], none, []⟩,
      ⟨(some 59), (.iaddr 3), [.t 57, .t 58], none, [1, 2]⟩,
      ⟨(some 60), (.faddr 0 false 1), [.t 59], none, [3]⟩,
      ⟨(some 61), (.load false 1), [.t 60], none, [4]⟩,
      ⟨(some 62), .movv, [.t 0], none, []⟩,
      ⟨(some 63), .mov, [.t 9], none, []⟩,
      ⟨(some 64), (.iaddr 3), [.t 62, .t 63], none, [6, 7]⟩,
      ⟨(some 65), (.faddr 1 false 1), [.t 64], none, [8]⟩,
      ⟨(some 66), (.load false 1), [.t 65], none, [9]⟩,
      ⟨(some 67), .call, [.f 15, .t 56, .t 61, .t 66], none, [0, 5, 10]⟩,
      ⟨(some 10), .mov, [.t 67], none, [11, 11, 0, 1, 2, 3, 4, 5, 6, 7, 8, 9, 10, 11]⟩] true)
    (.seq
     (.seq
      (.region [⟨(some 68), .movv, [.t 0], none, []⟩,
        ⟨(some 69), .mov, [.t 9], none, []⟩,
        ⟨(some 70), (.iaddr 3), [.t 68, .t 69], none, [0, 1]⟩,
        ⟨(some 71), (.faddr 0 false 1), [.t 70], none, [2]⟩,
        ⟨(some 72), (.load false 1), [.t 71], none, [3]⟩,
        ⟨(some 73), .movv, [.t 0], none, []⟩,
        ⟨(some 74), .mov, [.t 9], none, []⟩,
        ⟨(some 75), (.iaddr 3), [.t 73, .t 74], none, [5, 6]⟩,
        ⟨(some 76), (.faddr 1 false 1), [.t 75], none, [7]⟩,
        ⟨(some 77), (.load false 1), [.t 76], none, [8]⟩,
        ⟨(some 78), (.bin .gtr), [.t 72, .t 77], none, [4, 9]⟩] true)
      (.cond (.t 78)
       (.region [⟨(some 79), .mov, [.t 7], none, []⟩,
         ⟨(some 80), .movv, [.t 0], none, []⟩,
         ⟨(some 81), .mov, [.t 9], none, []⟩,
         ⟨(some 82), (.iaddr 3), [.t 80, .t 81], none, [1, 2]⟩,
         ⟨(some 83), (.faddr 0 false 1), [.t 82], none, [3]⟩,
         ⟨(some 84), (.load false 1), [.t 83], none, [4]⟩,
         ⟨(some 85), (.bin .geq), [.t 79, .t 84], none, [0, 5]⟩,
         ⟨(some 86), .mov, [.t 85], none, [6]⟩,
         ⟨(some 87), .mov, [.t 7], (some (86, false)), [7]⟩,
         ⟨(some 88), .movv, [.t 0], (some (86, false)), [7]⟩,
         ⟨(some 89), .mov, [.t 9], (some (86, false)), [7]⟩,
         ⟨(some 90), (.iaddr 3), [.t 88, .t 89], (some (86, false)), [9, 10, 7]⟩,
         ⟨(some 91), (.faddr 1 false 1), [.t 90], (some (86, false)), [11, 7]⟩,
         ⟨(some 92), (.load false 1), [.t 91], (some (86, false)), [12, 7]⟩,
         ⟨(some 93), (.bin .leq), [.t 87, .t 92], (some (86, false)), [8, 13, 7]⟩,
         ⟨(some 94), .pick, [.t 86, .c (.bool true), .t 93], none, [7, 14]⟩,
         ⟨(some 10), .mov, [.t 94], none, [15, 7, 0, 1, 2, 3, 4, 5, 6, 7, 8, 9, 10, 11, 12, 13, 14, 15]⟩] false)
       .skip))
     (.keep [0, 7, 8, 9, 10] [] b52k2))))
  (.keep [0, 7, 8, 9] [] b52k3))
def b52l1 : DCode := .keep [0, 7, 8, 9] []
  (.seq
   (.seq
    (.region [⟨(some 50), .mov, [.t 9], none, []⟩,
      ⟨(some 51), .movv, [.t 0], none, []⟩,
      ⟨(some 52), .len, [.t 51], none, [1]⟩,
      ⟨(some 53), (.bin .lss), [.t 50, .t 52], none, [0, 2]⟩] false)
    (.cond (.t 53)
     .skip
     (.exit 2)))
   (.keep [0, 7, 8, 9] [] b52k4))
def b52k5 : DCode :=
 (.seq
  (.region [⟨(some 103), .mov, [.t 8], none, []⟩,
    ⟨(some 4), .mov, [.t 103], none, [0, 0]⟩,
    ⟨(some 5), .mov, [.c (.int .i64 0)], none, [1, 0, 1]⟩] false)
  .ret)
def b52k6 : DCode :=
 (.seq
  (.region [⟨(some 48), .mov, [.t 1], none, []⟩,
    ⟨(some 49), (.bin .rem), [.t 48, .c (.int .i64 365)], none, [0]⟩,
    ⟨(some 7), .mov, [.t 49], none, [1, 0, 1]⟩,
    ⟨(some 8), .mov, [.c (.int .i64 0)], none, [2, 0, 1, 2]⟩] false)
  (.seq
   (.seq
    (.region [⟨(some 9), .mov, [.c (.int .i64 0)], none, []⟩] false)
    (.block 2
     (.loop b52l1)))
   (.keep [8] [] b52k5)))
def b52k7 : DCode :=
 (.seq
  (.seq
   (.region [⟨(some 45), .mov, [.t 1], none, []⟩,
     ⟨(some 46), .call, [.f 15, .t 45, .c (.int .i64 0), .c (.int .i64 100000)], none, [0]⟩,
     ⟨(some 47), (.un .not), [.t 46], none, [1]⟩] false)
   (.cond (.t 47)
    (.seq
     (.region [⟨(some 4), .mov, [.c (.int .i64 0)], none, []⟩,
       ⟨(some 5), .mov, [.c (.int .i64 2)], none, [0, 0]⟩] false)
     .ret)
    .skip))
  (.keep [0, 1] [] b52k6))
def b52k8 : DCode :=
 (.seq
  (.seq
   (.region [⟨(some 6), .mov, [.c (.int .i64 0)], none, []⟩] false)
   (.block 0
    (.loop b52l0)))
  (.keep [0, 1] [] b52k7))
def b52 : DCode :=
 (.seq
  (.region [⟨(some 4), .mov, [.c (.int .i64 0)], none, []⟩,
    ⟨(some 5), .mov, [.c (.int .i64 0)], none, [0]⟩] false)
  (.seq
   (.seq
    (.region [⟨(some 11), .movv, [.t 0], none, []⟩,
      ⟨(some 12), .len, [.t 11], none, [0]⟩,
      ⟨(some 13), (.bin .gtr), [.t 12, .c (.int .i64 12)], none, [1]⟩] false)
    (.cond (.t 13)
     (.seq
      (.region [⟨(some 4), .mov, [.c (.int .i64 0)], none, []⟩,
        ⟨(some 5), .mov, [.c (.int .i64 8)], none, [0, 0]⟩] false)
      .ret)
     .skip))
   (.keep [0, 1] [] b52k8)))
def d52 : DFn := ⟨2, 104, [.tmp 4, .tmp 5], b52⟩
theorem body52 : d52.body = b52 := rfl
theorem res52 : d52.res = [.tmp 4, .tmp 5] := rfl
theorem k52 : chkFn Try.prog Try.f52 d52 = true := by kernel_rfl

/-- guidevane/guidevaneref01.CopyList -/
def b54 : DCode :=
 (.seq
  (.region [⟨(some 2), .mov, [.c (.slc 3 [])], none, []⟩] false)
  (.seq
   (.region [⟨(some 3), (.bsl 3), [], none, []⟩,
     ⟨(some 4), .movv, [.t 0], none, []⟩,
     ⟨(some 5), (.append 3 24 false), [.t 3, .t 4], none, [0, 1]⟩,
     ⟨(some 2), .movv, [.t 5], none, [2, 2, 0, 1, 2]⟩] false)
   .ret))
def d54 : DFn := ⟨1, 6, [.tmp 2], b54⟩
theorem body54 : d54.body = b54 := rfl
theorem res54 : d54.res = [.tmp 2] := rfl
theorem k54 : chkFn Try.prog Try.f54 d54 = true := by kernel_rfl

/-- guidevane/guidevaneref01.ListErr -/
def b55k0 : DCode :=
 (.region [⟨(some 12), .mov, [.t 3], none, []⟩,
   ⟨(some 13), (.bin .add), [.t 12, .c (.int .i64 1)], none, [0]⟩,
   ⟨(some 3), .mov, [.t 13], none, [1, 0, 1]⟩] false)
def b55k1 : DCode :=
 (.seq
  (.block 1
   (.seq
    (.region [⟨(some 14), .movv, [.t 0], none, []⟩,
      ⟨(some 15), .mov, [.t 3], none, []⟩,
      ⟨(some 16), (.iaddr 3), [.t 14, .t 15], none, [0, 1]⟩,
      ⟨(some 17), (.load true 3), [.t 16], none, [2]⟩,
      ⟨(some 18), .call, [.f 23, .t 17], none, [3]⟩,
      ⟨(some 4), .mov, [.t 18], none, [4, 4, 0, 1, 2, 3, 4]⟩] false)
    (.seq
     (.region [⟨(some 19), .mov, [.t 4], none, []⟩,
       ⟨(some 20), (.bin .neq), [.t 19, .c (.int .i64 0)], none, [0]⟩] false)
     (.cond (.t 20)
      (.seq
       (.region [⟨(some 21), .mov, [.t 4], none, []⟩,
         ⟨(some 2), .mov, [.t 21], none, [0, 0]⟩] false)
       .ret)
      .skip))))
  (.keep [0, 3] [] b55k0))
def b55l0 : DCode := .keep [0, 3] []
  (.seq
   (.seq
    (.region [⟨(some 8), .mov, [.t 3], none, []⟩,
      ⟨(some 9), .movv, [.t 0], none, []⟩,
      ⟨(some 10), .len, [.t 9], none, [1]⟩,
      ⟨(some 11), (.bin .lss), [.t 8, .t 10], none, [0, 2]⟩] false)
    (.cond (.t 11)
     .skip
     (.exit 0)))
   (.keep [0, 3] [] b55k1))
def b55k2 : DCode :=
 (.seq
  (.region [⟨(some 2), .mov, [.c (.int .i64 0)], none, []⟩] false)
  .ret)
def b55k3 : DCode :=
 (.seq
  (.seq
   (.region [⟨(some 3), .mov, [.c (.int .i64 0)], none, []⟩] false)
   (.block 0
    (.loop b55l0)))
  (.keep [] [] b55k2))
def b55 : DCode :=
 (.seq
  (.region [⟨(some 2), .mov, [.c (.int .i64 0)], none, []⟩] false)
  (.seq
   (.seq
    (.region [⟨(some 5), .movv, [.t 0], none, []⟩,
      ⟨(some 6), .len, [.t 5], none, [0]⟩,
      ⟨(some 7), (.bin .gtr), [.t 6, .c (.int .i64 200)], none, [1]⟩] false)
    (.cond (.t 7)
     (.seq
      (.region [⟨(some 2), .mov, [.c (.int .i64 8)], none, []⟩] false)
      .ret)
     .skip))
   (.keep [0] [] b55k3)))
def d55 : DFn := ⟨1, 22, [.tmp 2], b55⟩
theorem body55 : d55.body = b55 := rfl
theorem res55 : d55.res = [.tmp 2] := rfl
theorem k55 : chkFn Try.prog Try.f55 d55 = true := by kernel_rfl

/-- guidevane/guidevaneref01.RunOf -/
def b56k0 : DCode :=
 (.seq
  (.region [⟨(some 36), (.load true 2), [.t 12], none, []⟩,
    ⟨none, (.store 2), [.t 4, .t 36], none, [0, 0]⟩] false)
  (.seq
   (.region [⟨(some 37), .mov, [.t 9], none, []⟩,
     ⟨(some 38), (.load true 2), [.t 4], none, []⟩,
     ⟨(some 39), (.bsl 2), [.t 38], none, [1]⟩,
     ⟨(some 40), (.append 2 16 false), [.t 37, .t 39], none, [0, 2]⟩,
     ⟨(some 9), .mov, [.t 40], none, [3, 3, 0, 1, 2, 3]⟩] false)
   (.region [⟨(some 41), (.faddr 0 false 1), [.t 10], none, []⟩,
     ⟨(some 42), (.load false 1), [.t 41], none, [0]⟩,
     ⟨(some 43), (.faddr 0 false 1), [.t 13], none, []⟩,
     ⟨(some 44), (.load false 1), [.t 43], none, [2]⟩,
     ⟨(some 45), (.bin .add), [.t 42, .t 44], none, [1, 3]⟩,
     ⟨(some 46), (.faddr 1 false 1), [.t 10], none, []⟩,
     ⟨(some 47), (.load false 1), [.t 46], none, [5]⟩,
     ⟨(some 48), (.faddr 1 false 1), [.t 13], none, []⟩,
     ⟨(some 49), (.load false 1), [.t 48], none, [7]⟩,
     ⟨(some 50), (.bin .add), [.t 47, .t 49], none, [6, 8]⟩,
     ⟨(some 51), (.build [(.imm (.int .i64 0)), (.imm (.int .i64 0))] [(0, 1), (1, 1)]), [.t 45, .t 50], none, [4, 9]⟩,
     ⟨none, (.store 2), [.t 10, .t 51], none, [10, 0, 1, 2, 3, 4, 5, 6, 7, 8, 9, 10]⟩] false)))
def b56k1 : DCode :=
 (.region [⟨(some 19), .mov, [.t 11], none, []⟩,
   ⟨(some 20), (.bin .add), [.t 19, .c (.int .i64 1)], none, [0]⟩,
   ⟨(some 11), .mov, [.t 20], none, [1, 0, 1]⟩] false)
def b56k2 : DCode :=
 (.seq
  (.block 1
   (.seq
    (.region [⟨(some 22), (.load true 3), [.t 3], none, []⟩,
      ⟨(some 23), (.load true 2), [.t 4], none, []⟩,
      ⟨(some 24), .movv, [.t 2], none, []⟩,
      ⟨(some 25), .mov, [.t 11], none, []⟩,
      ⟨(some 26), (.iaddr 3), [.t 24, .t 25], none, [2, 3]⟩,
      ⟨(some 27), (.load true 3), [.t 26], none, [4]⟩,
      ⟨(some 28), .call, [.f 24, .t 22, .t 23, .t 27], none, [0, 1, 5]⟩,
      ⟨(some 21), .mov, [.t 28], none, [6]⟩,
      ⟨(some 29), (.ext 0), [.t 21], none, [7]⟩,
      ⟨(some 30), (.ext 1), [.t 21], none, [7]⟩,
      ⟨(some 31), (.ext 2), [.t 21], none, [7]⟩,
      ⟨(some 12), (.alloc [(.imm (.int .i64 0)), (.imm (.int .i64 0))]), [], none, []⟩,
      ⟨(some 13), (.alloc [(.imm (.int .i64 0)), (.imm (.int .i64 0))]), [], none, []⟩,
      ⟨none, (.store 2), [.t 12, .t 29], none, [11, 8, 6, 0, 1, 2, 3, 4, 5, 6, 7, 8, 11, 12]⟩,
      ⟨none, (.store 2), [.t 13, .t 30], none, [12, 9, 13, 0, 1, 2, 3, 4, 5, 6, 7, 8, 9, 11, 12, 13]⟩,
      ⟨(some 14), .mov, [.t 31], none, [10, 14, 0, 1, 2, 3, 4, 5, 6, 7, 8, 9, 10, 11, 12, 13, 14]⟩] true)
    (.seq
     (.seq
      (.region [⟨(some 32), .mov, [.t 14], none, []⟩,
        ⟨(some 33), (.un .not), [.t 32], none, [0]⟩] false)
      (.cond (.t 33)
       (.seq
        (.region [⟨(some 34), .movv, [.t 9], none, []⟩,
          ⟨(some 35), (.load true 2), [.t 10], none, []⟩,
          ⟨(some 6), .movv, [.t 34], none, [0, 0]⟩,
          ⟨none, (.store 2), [.t 7, .t 35], none, [1, 2, 0, 1, 2]⟩,
          ⟨(some 8), .mov, [.c (.bool false)], none, [3, 0, 1, 2, 3]⟩] true)
        .ret)
       .skip))
     (.keep [2, 3, 4, 7, 9, 10, 11, 12, 13] [3, 4, 7, 9, 10, 12, 13, 40] b56k0))))
  (.keep [2, 3, 4, 7, 9, 10, 11] [3, 4, 7, 9, 10, 40] b56k1))
def b56l0 : DCode := .keep [2, 3, 4, 7, 9, 10, 11] [3, 4, 7, 9, 10, 40]
  (.seq
   (.seq
    (.region [⟨(some 15), .mov, [.t 11], none, []⟩,
      ⟨(some 16), .movv, [.t 2], none, []⟩,
      ⟨(some 17), .len, [.t 16], none, [1]⟩,
      ⟨(some 18), (.bin .lss), [.t 15, .t 17], none, [0, 2]⟩] false)
    (.cond (.t 18)
     .skip
     (.exit 0)))
   (.keep [2, 3, 4, 7, 9, 10, 11] [3, 4, 7, 9, 10, 40] b56k2))
def b56k3 : DCode :=
 (.seq
  (.region [⟨(some 52), .movv, [.t 9], none, []⟩,
    ⟨(some 53), (.load true 2), [.t 10], none, []⟩,
    ⟨(some 6), .movv, [.t 52], none, [0, 0]⟩,
    ⟨none, (.store 2), [.t 7, .t 53], none, [1, 2, 0, 1, 2]⟩,
    ⟨(some 8), .mov, [.c (.bool true)], none, [3, 0, 1, 2, 3]⟩] true)
  .ret)
def b56 : DCode :=
 (.seq
  (.region [⟨(some 3), .box, [.t 0], none, []⟩,
    ⟨(some 4), .box, [.t 1], none, []⟩,
    ⟨(some 6), .mov, [.c (.slc 2 [])], none, []⟩,
    ⟨(some 7), (.alloc [(.imm (.int .i64 0)), (.imm (.int .i64 0))]), [], none, []⟩,
    ⟨(some 8), .mov, [.c (.bool false)], none, [2]⟩] false)
  (.seq
   (.region [⟨(some 9), (.ntok 2), [.c (.slc 2 [])], none, []⟩] false)
   (.seq
    (.region [⟨(some 10), (.alloc [(.imm (.int .i64 0)), (.imm (.int .i64 0))]), [], none, []⟩] false)
    (.seq
     (.seq
      (.region [⟨(some 11), .mov, [.c (.int .i64 0)], none, []⟩] false)
      (.block 0
       (.loop b56l0)))
     (.keep [7, 9, 10] [7, 9, 10, 40] b56k3)))))
def d56 : DFn := ⟨3, 54, [.tmp 6, .cell 7 true 2, .tmp 8], b56⟩
theorem body56 : d56.body = b56 := rfl
theorem res56 : d56.res = [.tmp 6, .cell 7 true 2, .tmp 8] := rfl
theorem k56 : chkFn Try.prog Try.f56 d56 = true := by kernel_rfl

/-- guidevane/guidevaneref01.SameStates -/
def b57k0 : DCode :=
 (.region [⟨(some 15), .mov, [.t 5], none, []⟩,
   ⟨(some 16), (.bin .add), [.t 15, .c (.int .i64 1)], none, [0]⟩,
   ⟨(some 5), .mov, [.t 16], none, [1, 0, 1]⟩] false)
def b57k1 : DCode :=
 (.seq
  (.block 1
   (.seq
    (.region [⟨(some 17), .movv, [.t 0], none, []⟩,
      ⟨(some 18), .mov, [.t 5], none, []⟩,
      ⟨(some 19), (.iaddr 2), [.t 17, .t 18], none, [0, 1]⟩,
      ⟨(some 20), (.load true 2), [.t 19], none, [2]⟩,
      ⟨(some 21), .movv, [.t 1], none, []⟩,
      ⟨(some 22), .mov, [.t 5], none, []⟩,
      ⟨(some 23), (.iaddr 2), [.t 21, .t 22], none, [4, 5]⟩,
      ⟨(some 24), (.load true 2), [.t 23], none, [6]⟩,
      ⟨(some 25), (.eqs [false, false] true), [.t 20, .t 24], none, [3, 7]⟩] true)
    (.cond (.t 25)
     (.seq
      (.region [⟨(some 4), .mov, [.c (.bool false)], none, []⟩] false)
      .ret)
     .skip)))
  (.keep [0, 1, 5] [] b57k0))
def b57l0 : DCode := .keep [0, 1, 5] []
  (.seq
   (.seq
    (.region [⟨(some 11), .mov, [.t 5], none, []⟩,
      ⟨(some 12), .movv, [.t 0], none, []⟩,
      ⟨(some 13), .len, [.t 12], none, [1]⟩,
      ⟨(some 14), (.bin .lss), [.t 11, .t 13], none, [0, 2]⟩] false)
    (.cond (.t 14)
     .skip
     (.exit 0)))
   (.keep [0, 1, 5] [] b57k1))
def b57k2 : DCode :=
 (.seq
  (.region [⟨(some 4), .mov, [.c (.bool true)], none, []⟩] false)
  .ret)
def b57k3 : DCode :=
 (.seq
  (.seq
   (.region [⟨(some 5), .mov, [.c (.int .i64 0)], none, []⟩] false)
   (.block 0
    (.loop b57l0)))
  (.keep [] [] b57k2))
def b57 : DCode :=
 (.seq
  (.region [⟨(some 4), .mov, [.c (.bool false)], none, []⟩] false)
  (.seq
   (.seq
    (.region [⟨(some 6), .movv, [.t 0], none, []⟩,
      ⟨(some 7), .len, [.t 6], none, [0]⟩,
      ⟨(some 8), .movv, [.t 1], none, []⟩,
      ⟨(some 9), .len, [.t 8], none, [2]⟩,
      ⟨(some 10), (.bin .neq), [.t 7, .t 9], none, [1, 3]⟩] false)
    (.cond (.t 10)
     (.seq
      (.region [⟨(some 4), .mov, [.c (.bool false)], none, []⟩] false)
      .ret)
     .skip))
   (.keep [0, 1] [] b57k3)))
def d57 : DFn := ⟨2, 26, [.tmp 4], b57⟩
theorem body57 : d57.body = b57 := rfl
theorem res57 : d57.res = [.tmp 4] := rfl
theorem k57 : chkFn Try.prog Try.f57 d57 = true := by kernel_rfl

/-- guidevane/guidevaneref01.StateErr -/
def b58k0 : DCode :=
 (.seq
  (.region [⟨(some 4), .mov, [.c (.int .i64 0)], none, []⟩] false)
  .ret)
def b58 : DCode :=
 (.seq
  (.region [⟨(some 2), .box, [.t 0], none, []⟩,
    ⟨(some 3), .box, [.t 1], none, []⟩,
    ⟨(some 4), .mov, [.c (.int .i64 0)], none, []⟩] false)
  (.seq
   (.seq
    (.region [⟨(some 5), (.faddr 0 true 1), [.t 2], none, []⟩,
      ⟨(some 6), (.load true 1), [.t 5], none, [0]⟩,
      ⟨(some 7), (.faddr 0 false 1), [.t 3], none, []⟩,
      ⟨(some 8), (.load false 1), [.t 7], none, [2]⟩,
      ⟨(some 9), .call, [.f 43, .t 6, .t 8], none, [1, 3]⟩,
      ⟨(some 10), (.un .not), [.t 9], none, [4]⟩,
      ⟨(some 11), .mov, [.t 10], none, [5, 4]⟩,
      ⟨(some 12), (.faddr 1 true 1), [.t 2], (some (11, false)), [6]⟩,
      ⟨(some 13), (.load true 1), [.t 12], (some (11, false)), [7, 6]⟩,
      ⟨(some 14), (.faddr 1 false 1), [.t 3], (some (11, false)), [6]⟩,
      ⟨(some 15), (.load false 1), [.t 14], (some (11, false)), [9, 6]⟩,
      ⟨(some 16), .call, [.f 43, .t 13, .t 15], (some (11, false)), [8, 10, 6, 6]⟩,
      ⟨(some 17), (.un .not), [.t 16], (some (11, false)), [11, 6]⟩,
      ⟨(some 18), .pick, [.t 11, .c (.bool true), .t 17], none, [6, 12]⟩] false)
    (.cond (.t 18)
     (.seq
      (.region [⟨(some 4), .mov, [.c (.int .i64 2)], none, []⟩] false)
      .ret)
     .skip))
   (.keep [] [] b58k0)))
def d58 : DFn := ⟨2, 19, [.tmp 4], b58⟩
theorem body58 : d58.body = b58 := rfl
theorem res58 : d58.res = [.tmp 4] := rfl
theorem k58 : chkFn Try.prog Try.f58 d58 = true := by kernel_rfl

/-- guidevane/guidevaneref01.Bottom -/
def b70 : DCode :=
 (.seq
  (.region [⟨(some 1), .box, [.t 0], none, []⟩,
    ⟨(some 2), (.alloc [(.imm (.int .i64 0)), (.imm (.int .i64 0))]), [], none, []⟩] false)
  (.seq
   (.region [⟨(some 3), (.faddr 0 false 1), [.t 1], none, []⟩,
     ⟨(some 4), (.load false 1), [.t 3], none, [0]⟩,
     ⟨(some 5), (.iaddr 2), [.t 4, .c (.int .i64 0)], none, [1]⟩,
     ⟨(some 6), (.load true 2), [.t 5], none, [2]⟩,
     ⟨none, (.store 2), [.t 2, .t 6], none, [3, 0, 1, 2, 3]⟩] false)
   .ret))
def d70 : DFn := ⟨1, 7, [.cell 2 true 2], b70⟩
theorem body70 : d70.body = b70 := rfl
theorem res70 : d70.res = [.cell 2 true 2] := rfl
theorem k70 : chkFn Try.prog Try.f70 d70 = true := by kernel_rfl

/-- guidevane/guidevaneref01.evaporated -/
def b71 : DCode :=
 (.seq
  (.region [⟨(some 3), .box, [.t 0], none, []⟩,
    ⟨(some 6), .mov, [.c (.int .i64 0)], none, []⟩] false)
  (.seq
   (.region [⟨(some 9), (.load true 1), [.t 3], none, []⟩,
     ⟨(some 10), .mov, [.t 2], none, []⟩,
     ⟨(some 11), .call, [.f 90, .t 9, .t 10], none, [0, 1]⟩,
     ⟨(some 7), .mov, [.t 11], none, [2, 2, 0, 1, 2]⟩] false)
   (.seq
    (.region [⟨(some 12), .mov, [.t 1], none, []⟩,
      ⟨(some 13), .call, [.f 103, .t 12], none, [0]⟩,
      ⟨(some 14), (.load true 1), [.t 3], none, []⟩,
      ⟨(some 15), .mov, [.t 7], none, []⟩,
      ⟨(some 16), .call, [.f 86, .t 14, .t 15], none, [2, 3, 1]⟩,
      ⟨(some 17), .call, [.f 102, .t 13, .t 16], none, [1, 4, 4]⟩,
      ⟨(some 18), .call, [.f 103, .c (.int .i64 1000)], none, [5]⟩,
      ⟨(some 19), .call, [.f 101, .t 17, .t 18], none, [5, 6, 6]⟩,
      ⟨(some 20), .call, [.f 87, .t 19], none, [7, 7]⟩,
      ⟨(some 8), (.alloc [(.imm (.int .i64 0)), (.imm (.int .i64 0))]), [], none, []⟩,
      ⟨none, (.store 2), [.t 8, .t 20], none, [9, 8, 8, 0, 1, 2, 3, 4, 5, 6, 7, 8, 9]⟩] true)
    (.seq
     (.region [⟨(some 21), (.faddr 0 false 1), [.t 8], none, []⟩,
       ⟨(some 22), (.load false 1), [.t 21], none, [0]⟩,
       ⟨(some 23), .mov, [.t 2], none, []⟩,
       ⟨(some 24), (.load true 1), [.t 3], none, []⟩,
       ⟨(some 25), .call, [.f 70, .t 24], none, [3]⟩,
       ⟨(some 26), (.field 1 false 1), [.t 25], none, [4]⟩,
       ⟨(some 27), (.bin .sub), [.t 23, .t 26], none, [2, 5]⟩,
       ⟨(some 28), (.mm false), [.t 22, .t 27], none, [1, 6]⟩,
       ⟨(some 6), .mov, [.t 28], none, [7, 4, 0, 1, 2, 3, 4, 5, 6, 7]⟩] true)
     .ret))))
def d71 : DFn := ⟨3, 29, [.tmp 6], b71⟩
theorem body71 : d71.body = b71 := rfl
theorem res71 : d71.res = [.tmp 6] := rfl
theorem k71 : chkFn Try.prog Try.f71 d71 = true := by kernel_rfl

/-- guidevane/guidevaneref01.NetErr -/
def b74k0 : DCode :=
 (.region [⟨(some 11), .mov, [.t 3], none, []⟩,
   ⟨(some 12), (.bin .add), [.t 11, .c (.int .i64 1)], none, [0]⟩,
   ⟨(some 3), .mov, [.t 12], none, [1, 0, 1]⟩] false)
def b74k1 : DCode :=
 (.seq
  (.block 1
   (.seq
    (.region [⟨(some 13), .movv, [.t 0], none, []⟩,
      ⟨(some 14), .mov, [.t 3], none, []⟩,
      ⟨(some 15), (.iaddr 1), [.t 13, .t 14], none, [0, 1]⟩,
      ⟨(some 16), (.load false 1), [.t 15], none, [2]⟩,
      ⟨(some 17), .call, [.f 15, .t 16, .c (.int .i64 (-10000000)), .c (.int .i64 10000000)], none, [3]⟩,
      ⟨(some 18), (.un .not), [.t 17], none, [4]⟩] false)
    (.cond (.t 18)
     (.seq
      (.region [⟨(some 2), .mov, [.c (.int .i64 2)], none, []⟩] false)
      .ret)
     .skip)))
  (.keep [0, 3] [] b74k0))
def b74l0 : DCode := .keep [0, 3] []
  (.seq
   (.seq
    (.region [⟨(some 7), .mov, [.t 3], none, []⟩,
      ⟨(some 8), .movv, [.t 0], none, []⟩,
      ⟨(some 9), .len, [.t 8], none, [1]⟩,
      ⟨(some 10), (.bin .lss), [.t 7, .t 9], none, [0, 2]⟩] false)
    (.cond (.t 10)
     .skip
     (.exit 0)))
   (.keep [0, 3] [] b74k1))
def b74k2 : DCode :=
 (.seq
  (.region [⟨(some 2), .mov, [.c (.int .i64 0)], none, []⟩] false)
  .ret)
def b74k3 : DCode :=
 (.seq
  (.seq
   (.region [⟨(some 3), .mov, [.c (.int .i64 0)], none, []⟩] false)
   (.block 0
    (.loop b74l0)))
  (.keep [] [] b74k2))
def b74 : DCode :=
 (.seq
  (.region [⟨(some 2), .mov, [.c (.int .i64 0)], none, []⟩] false)
  (.seq
   (.seq
    (.region [⟨(some 4), .movv, [.t 0], none, []⟩,
      ⟨(some 5), .len, [.t 4], none, [0]⟩,
      ⟨(some 6), (.bin .gtr), [.t 5, .c (.int .i64 200)], none, [1]⟩] false)
    (.cond (.t 6)
     (.seq
      (.region [⟨(some 2), .mov, [.c (.int .i64 8)], none, []⟩] false)
      .ret)
     .skip))
   (.keep [0] [] b74k3)))
def d74 : DFn := ⟨1, 19, [.tmp 2], b74⟩
theorem body74 : d74.body = b74 := rfl
theorem res74 : d74.res = [.tmp 2] := rfl
theorem k74 : chkFn Try.prog Try.f74 d74 = true := by kernel_rfl

/-- guidevane/guidevaneref01.ReadingsErr -/
def b75k0 : DCode :=
 (.seq
  (.region [⟨(some 51), .movv, [.t 2], none, []⟩,
    ⟨(some 52), .mov, [.t 7], none, []⟩,
    ⟨(some 53), (.iaddr 3), [.t 51, .t 52], none, [0, 1]⟩,
    ⟨(some 54), (.faddr 1 true 2), [.t 53], none, [2]⟩,
    ⟨(some 55), (.faddr 0 false 1), [.t 54], none, [3]⟩,
    ⟨(some 56), (.load false 1), [.t 55], none, [4]⟩,
    ⟨(some 57), .movv, [.t 2], none, []⟩,
    ⟨(some 58), .mov, [.t 7], none, []⟩,
    ⟨(some 59), (.iaddr 3), [.t 57, .t 58], none, [6, 7]⟩,
    ⟨(some 60), (.faddr 1 true 2), [.t 59], none, [8]⟩,
    ⟨(some 61), (.faddr 1 false 1), [.t 60], none, [9]⟩,
    ⟨(some 62), (.load false 1), [.t 61], none, [10]⟩,
    ⟨(some 63), (.bin .gtr), [.t 56, .t 62], none, [5, 11]⟩] true)
  (.cond (.t 63)
   (.seq
    (.region [⟨(some 6), .mov, [.c (.int .i64 9)], none, []⟩] false)
    .ret)
   .skip))
def b75k1 : DCode :=
 (.region [⟨(some 18), .mov, [.t 7], none, []⟩,
   ⟨(some 19), (.bin .add), [.t 18, .c (.int .i64 1)], none, [0]⟩,
   ⟨(some 7), .mov, [.t 19], none, [1, 0, 1]⟩] false)
def b75k2 : DCode :=
 (.seq
  (.block 1
   (.seq
    (.seq
     (.region [⟨(some 20), .movv, [.t 2], none, []⟩,
       ⟨(some 21), .mov, [.t 7], none, []⟩,
       ⟨(some 22), (.iaddr 3), [.t 20, .t 21], none, [0, 1]⟩,
       ⟨(some 23), (.faddr 0 false 1), [.t 22], none, [2]⟩,
       ⟨(some 24), (.load false 1), [.t 23], none, [3]⟩,
       ⟨(some 25), .movv, [.t 1], none, []⟩,
       ⟨(some 26), .len, [.t 25], none, [5]⟩,
       ⟨(some 27), .call, [.f 15, .t 24, .c (.int .i64 0), .t 26], none, [4, 6]⟩,
       ⟨(some 28), (.un .not), [.t 27], none, [7]⟩,
       ⟨(some 29), .mov, [.t 28], none, [8, 7]⟩,
       ⟨(some 30), (.load true 1), [.t 3], (some (29, false)), [9]⟩,
       ⟨(some 31), .movv, [.t 2], (some (29, false)), [9]⟩,
       ⟨(some 32), .mov, [.t 7], (some (29, false)), [9]⟩,
       ⟨(some 33), (.iaddr 3), [.t 31, .t 32], (some (29, false)), [11, 12, 9]⟩,
       ⟨(some 34), (.faddr 1 true 2), [.t 33], (some (29, false)), [13, 9]⟩,
       ⟨(some 35), (.faddr 0 false 1), [.t 34], (some (29, false)), [14, 9]⟩,
       ⟨(some 36), (.load false 1), [.t 35], (some (29, false)), [15, 9]⟩,
       ⟨(some 37), .call, [.f 41, .t 30, .t 36], (some (29, false)), [10, 16, 9, 9]⟩,
       ⟨(some 38), (.un .not), [.t 37], (some (29, false)), [17, 9]⟩,
       ⟨(some 39), .pick, [.t 29, .c (.bool true), .t 38], none, [9, 18]⟩,
       ⟨(some 40), .mov, [.t 39], none, [19, 17]⟩,
       ⟨(some 41), (.load true 1), [.t 3], (some (40, false)), [20]⟩,
       ⟨(some 42), .movv, [.t 2], (some (40, false)), [20]⟩,
       ⟨(some 43), .mov, [.t 7], (some (40, false)), [20]⟩,
       ⟨(some 44), (.iaddr 3), [.t 42, .t 43], (some (40, false)), [22, 23, 20]⟩,
       ⟨(some 45), (.faddr 1 true 2), [.t 44], (some (40, false)), [24, 20]⟩,
       ⟨(some 46), (.faddr 1 false 1), [.t 45], (some (40, false)), [25, 20]⟩,
       ⟨(some 47), (.load false 1), [.t 46], (some (40, false)), [26, 20]⟩,
       ⟨(some 48), .call, [.f 41, .t 41, .t 47], (some (40, false)), [21, 27, 20, 20]⟩,
       ⟨(some 49), (.un .not), [.t 48], (some (40, false)), [28, 20]⟩,
       ⟨(some 50), .pick, [.t 40, .c (.bool true), .t 49], none, [20, 29]⟩] true)
     (.cond (.t 50)
      (.seq
       (.region [⟨(some 6), .mov, [.c (.int .i64 2)], none, []⟩] false)
       .ret)
      .skip))
    (.keep [1, 2, 3, 7] [3] b75k0)))
  (.keep [1, 2, 3, 7] [3] b75k1))
def b75l0 : DCode := .keep [1, 2, 3, 7] [3]
  (.seq
   (.seq
    (.region [⟨(some 14), .mov, [.t 7], none, []⟩,
      ⟨(some 15), .movv, [.t 2], none, []⟩,
      ⟨(some 16), .len, [.t 15], none, [1]⟩,
      ⟨(some 17), (.bin .lss), [.t 14, .t 16], none, [0, 2]⟩] false)
    (.cond (.t 17)
     .skip
     (.exit 0)))
   (.keep [1, 2, 3, 7] [3] b75k2))
def b75k3 : DCode :=
 (.seq
  (.region [⟨(some 6), .mov, [.c (.int .i64 0)], none, []⟩] false)
  .ret)
def b75k4 : DCode :=
 (.seq
  (.seq
   (.region [⟨(some 7), .mov, [.c (.int .i64 0)], none, []⟩] false)
   (.block 0
    (.loop b75l0)))
  (.keep [] [] b75k3))
def b75k5 : DCode :=
 (.seq
  (.seq
   (.region [⟨(some 11), .movv, [.t 2], none, []⟩,
     ⟨(some 12), .len, [.t 11], none, [0]⟩,
     ⟨(some 13), (.bin .gtr), [.t 12, .c (.int .i64 10)], none, [1]⟩] false)
   (.cond (.t 13)
    (.seq
     (.region [⟨(some 6), .mov, [.c (.int .i64 8)], none, []⟩] false)
     .ret)
    .skip))
  (.keep [1, 2, 3] [3] b75k4))
def b75 : DCode :=
 (.seq
  (.region [⟨(some 3), .box, [.t 0], none, []⟩,
    ⟨(some 6), .mov, [.c (.int .i64 0)], none, []⟩] false)
  (.seq
   (.seq
    (.region [⟨(some 8), .movv, [.t 2], none, []⟩,
      ⟨(some 9), .len, [.t 8], none, [0]⟩,
      ⟨(some 10), (.bin .eql), [.t 9, .c (.int .i64 0)], none, [1]⟩] false)
    (.cond (.t 10)
     (.seq
      (.region [⟨(some 6), .mov, [.c (.int .i64 10)], none, []⟩] false)
      .ret)
     .skip))
   (.keep [1, 2, 3] [3] b75k5)))
def d75 : DFn := ⟨3, 64, [.tmp 6], b75⟩
theorem body75 : d75.body = b75 := rfl
theorem res75 : d75.res = [.tmp 6] := rfl
theorem k75 : chkFn Try.prog Try.f75 d75 = true := by kernel_rfl

/-- guidevane/guidevaneref01.permitted -/
def b76k0 : DCode :=
 (.seq
  (.block 1
   (.region [⟨(some 15), .mov, [.t 7], none, []⟩,
     ⟨(some 16), .movv, [.t 1], none, []⟩,
     ⟨(some 17), .mov, [.t 8], none, []⟩,
     ⟨(some 18), (.iaddr 1), [.t 16, .t 17], none, [1, 2]⟩,
     ⟨(some 19), (.load false 1), [.t 18], none, [3]⟩,
     ⟨(some 20), (.bin .add), [.t 15, .t 19], none, [0, 4]⟩,
     ⟨(some 7), .mov, [.t 20], none, [5, 0, 1, 2, 3, 4, 5]⟩] false))
  (.region [⟨(some 13), .mov, [.t 8], none, []⟩,
    ⟨(some 14), (.bin .add), [.t 13, .c (.int .i64 1)], none, [0]⟩,
    ⟨(some 8), .mov, [.t 14], none, [1, 0, 1]⟩] false))
def b76l0 : DCode := .keep [1, 3, 5, 6, 7, 8] [3, 5, 6]
  (.seq
   (.seq
    (.region [⟨(some 9), .mov, [.t 8], none, []⟩,
      ⟨(some 10), (.faddr 0 false 1), [.t 5], none, []⟩,
      ⟨(some 11), (.load false 1), [.t 10], none, [1]⟩,
      ⟨(some 12), (.bin .lss), [.t 9, .t 11], none, [0, 2]⟩] false)
    (.cond (.t 12)
     .skip
     (.exit 0)))
   (.keep [1, 3, 5, 6, 7, 8] [3, 5, 6] b76k0))
def b76k1 : DCode :=
 (.seq
  (.region [⟨(some 21), (.load true 1), [.t 3], none, []⟩,
    ⟨(some 22), (.faddr 1 true 2), [.t 5], none, []⟩,
    ⟨(some 23), (.faddr 0 false 1), [.t 22], none, [1]⟩,
    ⟨(some 24), (.load false 1), [.t 23], none, [2]⟩,
    ⟨(some 25), .call, [.f 42, .t 21, .t 24], none, [0, 3]⟩,
    ⟨(some 26), (.field 1 false 1), [.t 25], none, [4]⟩,
    ⟨(some 27), .mov, [.t 7], none, []⟩,
    ⟨(some 28), (.bin .sub), [.t 26, .t 27], none, [5, 6]⟩,
    ⟨(some 29), (.load true 1), [.t 3], none, []⟩,
    ⟨(some 30), (.faddr 1 true 2), [.t 5], none, []⟩,
    ⟨(some 31), (.faddr 1 false 1), [.t 30], none, [9]⟩,
    ⟨(some 32), (.load false 1), [.t 31], none, [10]⟩,
    ⟨(some 33), .call, [.f 42, .t 29, .t 32], none, [8, 11, 4]⟩,
    ⟨(some 34), (.field 0 false 1), [.t 33], none, [12]⟩,
    ⟨(some 35), .mov, [.t 7], none, []⟩,
    ⟨(some 36), (.bin .sub), [.t 34, .t 35], none, [13, 14]⟩,
    ⟨(some 37), (.build [(.imm (.int .i64 0)), (.imm (.int .i64 0))] [(0, 1), (1, 1)]), [.t 28, .t 36], none, [7, 15]⟩,
    ⟨none, (.store 2), [.t 6, .t 37], none, [16, 12, 0, 1, 2, 3, 4, 5, 6, 7, 8, 9, 10, 11, 12, 13, 14, 15, 16]⟩] true)
  .ret)
def b76 : DCode :=
 (.seq
  (.region [⟨(some 3), .box, [.t 0], none, []⟩,
    ⟨(some 5), .box, [.t 2], none, []⟩,
    ⟨(some 6), (.alloc [(.imm (.int .i64 0)), (.imm (.int .i64 0))]), [], none, []⟩] false)
  (.seq
   (.region [⟨(some 7), .mov, [.c (.int .i64 0)], none, []⟩] false)
   (.seq
    (.seq
     (.region [⟨(some 8), .mov, [.c (.int .i64 0)], none, []⟩] false)
     (.block 0
      (.loop b76l0)))
    (.keep [3, 5, 6, 7] [3, 5, 6] b76k1))))
def d76 : DFn := ⟨3, 38, [.cell 6 true 2], b76⟩
theorem body76 : d76.body = b76 := rfl
theorem res76 : d76.res = [.cell 6 true 2] := rfl
theorem k76 : chkFn Try.prog Try.f76 d76 = true := by kernel_rfl

/-- guidevane/guidevaneref01.piece -/
def b86 : DCode :=
 (.seq
  (.region [⟨(some 2), .box, [.t 0], none, []⟩,
    ⟨(some 4), (.alloc [(.imm (.int .i64 0)), (.imm (.slc 1 [])), (.imm (.int .i64 0)), (.imm (.slc 1 []))]), [], none, []⟩] false)
  (.seq
   (.region [⟨(some 7), (.faddr 0 false 1), [.t 2], none, []⟩,
     ⟨(some 8), (.loadf false 1 [2]), [.t 7], none, [0]⟩,
     ⟨(some 9), .mov, [.t 1], none, []⟩,
     ⟨(some 10), (.bin .sub), [.t 9, .c (.int .i64 1)], none, [2]⟩,
     ⟨(some 11), (.iaddr 2), [.t 8, .t 10], none, [1, 3]⟩,
     ⟨(some 12), (.loadf true 2 []), [.t 11], none, [4]⟩,
     ⟨(some 13), (.faddr 0 false 1), [.t 2], none, []⟩,
     ⟨(some 14), (.loadf false 1 [2]), [.t 13], none, [6]⟩,
     ⟨(some 15), .mov, [.t 1], none, []⟩,
     ⟨(some 16), (.iaddr 2), [.t 14, .t 15], none, [7, 8]⟩,
     ⟨(some 17), (.loadf true 2 []), [.t 16], none, [9]⟩,
     ⟨(some 5), (.alloc [(.imm (.int .i64 0)), (.imm (.int .i64 0))]), [], none, []⟩,
     ⟨(some 6), (.alloc [(.imm (.int .i64 0)), (.imm (.int .i64 0))]), [], none, []⟩,
     ⟨none, (.storef 2 [5]), [.t 5, .t 12], none, [11, 5, 0, 1, 2, 3, 4, 5, 11, 12]⟩,
     ⟨none, (.storef 2 [6]), [.t 6, .t 17], none, [12, 10, 13, 0, 1, 2, 3, 4, 5, 6, 7, 8, 9, 10, 11, 12, 13]⟩] true)
   (.seq
    (.region [⟨(some 18), (.faddr 1 false 1), [.t 6], none, []⟩,
      ⟨(some 19), (.load false 1), [.t 18], none, [0]⟩,
      ⟨(some 20), (.faddr 1 false 1), [.t 5], none, []⟩,
      ⟨(some 21), (.load false 1), [.t 20], none, [2]⟩,
      ⟨(some 22), (.bin .sub), [.t 19, .t 21], none, [1, 3]⟩,
      ⟨(some 23), (.faddr 0 false 1), [.t 6], none, []⟩,
      ⟨(some 24), (.load false 1), [.t 23], none, [5]⟩,
      ⟨(some 25), (.faddr 0 false 1), [.t 5], none, []⟩,
      ⟨(some 26), (.load false 1), [.t 25], none, [7]⟩,
      ⟨(some 27), (.bin .sub), [.t 24, .t 26], none, [6, 8]⟩,
      ⟨(some 28), .call, [.f 114, .t 22, .t 27], none, [4, 9]⟩,
      ⟨none, (.store 4), [.t 4, .t 28], none, [10, 10, 0, 1, 2, 3, 4, 5, 6, 7, 8, 9, 10]⟩] false)
    .ret)))
def d86 : DFn := ⟨2, 29, [.cell 4 true 4], b86⟩
theorem body86 : d86.body = b86 := rfl
theorem res86 : d86.res = [.cell 4 true 4] := rfl
theorem k86 : chkFn Try.prog Try.f86 d86 = true := by kernel_rfl

/-- guidevane/guidevaneref01.rounded -/
def b87 : DCode :=
 (.seq
  (.region [⟨(some 1), .box, [.t 0], none, []⟩,
    ⟨(some 2), (.alloc [(.imm (.int .i64 0)), (.imm (.int .i64 0))]), [], none, []⟩] false)
  (.seq
   (.region [⟨(some 8), (.load true 4), [.t 1], none, []⟩,
     ⟨(some 9), .call, [.f 116, .t 8], none, [0]⟩,
     ⟨(some 10), .call, [.f 115, .t 9], none, [1, 1]⟩,
     ⟨(some 7), .mov, [.t 10], none, [2]⟩,
     ⟨(some 11), (.ext 0), [.t 7], none, [3]⟩,
     ⟨(some 12), (.ext 1), [.t 7], none, [3]⟩,
     ⟨(some 3), .mov, [.t 11], none, [4, 2, 0, 1, 2, 3, 4]⟩,
     ⟨(some 4), .mov, [.t 12], none, [5, 6, 0, 1, 2, 3, 4, 5, 6]⟩] false)
   (.seq
    (.region [⟨(some 14), (.load true 4), [.t 1], none, []⟩,
      ⟨(some 15), .call, [.f 117, .t 14], none, [0]⟩,
      ⟨(some 16), .call, [.f 115, .t 15], none, [1, 1]⟩,
      ⟨(some 13), .mov, [.t 16], none, [2]⟩,
      ⟨(some 17), (.ext 0), [.t 13], none, [3]⟩,
      ⟨(some 18), (.ext 1), [.t 13], none, [3]⟩,
      ⟨(some 5), .mov, [.t 17], none, [4, 2, 0, 1, 2, 3, 4]⟩,
      ⟨(some 6), .mov, [.t 18], none, [5, 6, 0, 1, 2, 3, 4, 5, 6]⟩] false)
    (.seq
     (.region [⟨(some 19), .mov, [.t 3], none, []⟩,
       ⟨(some 20), .mov, [.t 5], none, []⟩,
       ⟨(some 21), (.build [(.imm (.int .i64 0)), (.imm (.int .i64 0))] [(0, 1), (1, 1)]), [.t 19, .t 20], none, [0, 1]⟩,
       ⟨none, (.store 2), [.t 2, .t 21], none, [2, 0, 1, 2]⟩] false)
     .ret))))
def d87 : DFn := ⟨1, 22, [.cell 2 true 2], b87⟩
theorem body87 : d87.body = b87 := rfl
theorem res87 : d87.res = [.cell 2 true 2] := rfl
theorem k87 : chkFn Try.prog Try.f87 d87 = true := by kernel_rfl

/-- guidevane/guidevaneref01.volume -/
def b88k0 : DCode :=
 (.block 1
  (.region [⟨(some 15), .mov, [.t 5], none, []⟩,
    ⟨(some 16), (.bin .add), [.t 15, .c (.int .i64 1)], none, [0]⟩,
    ⟨(some 5), .mov, [.t 16], none, [1, 0, 1]⟩] false))
def b88l0 : DCode := .keep [1, 2, 4, 5] [2, 4]
  (.seq
   (.seq
    (.region [⟨(some 7), (.faddr 0 false 1), [.t 2], none, []⟩,
      ⟨(some 8), (.load false 1), [.t 7], none, [0]⟩,
      ⟨(some 9), .mov, [.t 5], none, []⟩,
      ⟨(some 10), (.iaddr 2), [.t 8, .t 9], none, [1, 2]⟩,
      ⟨(some 11), (.faddr 0 false 1), [.t 10], none, [3]⟩,
      ⟨(some 12), (.load false 1), [.t 11], none, [4]⟩,
      ⟨(some 13), .mov, [.t 1], none, []⟩,
      ⟨(some 14), (.bin .lss), [.t 12, .t 13], none, [5, 6]⟩] false)
    (.cond (.t 14)
     .skip
     (.exit 0)))
   (.keep [1, 2, 4, 5] [2, 4] b88k0))
def b88k1 : DCode :=
 (.seq
  (.region [⟨(some 17), (.faddr 0 false 1), [.t 2], none, []⟩,
    ⟨(some 18), (.load false 1), [.t 17], none, [0]⟩,
    ⟨(some 19), .mov, [.t 5], none, []⟩,
    ⟨(some 20), (.bin .sub), [.t 19, .c (.int .i64 1)], none, [2]⟩,
    ⟨(some 21), (.iaddr 2), [.t 18, .t 20], none, [1, 3]⟩,
    ⟨(some 22), (.load true 2), [.t 21], none, [4]⟩,
    ⟨(some 6), (.alloc [(.imm (.int .i64 0)), (.imm (.int .i64 0))]), [], none, []⟩,
    ⟨none, (.store 2), [.t 6, .t 22], none, [6, 5, 0, 1, 2, 3, 4, 5, 6]⟩] false)
  (.seq
   (.region [⟨(some 23), (.faddr 1 false 1), [.t 6], none, []⟩,
     ⟨(some 24), (.load false 1), [.t 23], none, [0]⟩,
     ⟨(some 25), .call, [.f 103, .t 24], none, [1]⟩,
     ⟨(some 26), .mov, [.t 1], none, []⟩,
     ⟨(some 27), (.faddr 0 false 1), [.t 6], none, []⟩,
     ⟨(some 28), (.load false 1), [.t 27], none, [4]⟩,
     ⟨(some 29), (.bin .sub), [.t 26, .t 28], none, [3, 5]⟩,
     ⟨(some 30), .call, [.f 103, .t 29], none, [6, 2]⟩,
     ⟨(some 31), (.load true 1), [.t 2], none, []⟩,
     ⟨(some 32), .mov, [.t 5], none, []⟩,
     ⟨(some 33), .call, [.f 86, .t 31, .t 32], none, [8, 9, 7]⟩,
     ⟨(some 34), .call, [.f 102, .t 30, .t 33], none, [7, 10, 10]⟩,
     ⟨(some 35), .call, [.f 118, .t 25, .t 34], none, [2, 11, 11]⟩,
     ⟨none, (.store 4), [.t 4, .t 35], none, [12, 12, 0, 1, 2, 3, 4, 5, 6, 7, 8, 9, 10, 11, 12]⟩] true)
   .ret))
def b88 : DCode :=
 (.seq
  (.region [⟨(some 2), .box, [.t 0], none, []⟩,
    ⟨(some 4), (.alloc [(.imm (.int .i64 0)), (.imm (.slc 1 [])), (.imm (.int .i64 0)), (.imm (.slc 1 []))]), [], none, []⟩] false)
  (.seq
   (.region [⟨(some 5), .mov, [.c (.int .i64 1)], none, []⟩] false)
   (.seq
    (.block 0
     (.loop b88l0))
    (.keep [1, 2, 4, 5] [2, 4] b88k1))))
def d88 : DFn := ⟨2, 36, [.cell 4 true 4], b88⟩
theorem body88 : d88.body = b88 := rfl
theorem res88 : d88.res = [.cell 4 true 4] := rfl
theorem k88 : chkFn Try.prog Try.f88 d88 = true := by kernel_rfl

/-- guidevane/guidevaneref01.Level -/
def b89 : DCode :=
 (.seq
  (.region [⟨(some 2), .box, [.t 0], none, []⟩,
    ⟨(some 4), (.alloc [(.imm (.int .i64 0)), (.imm (.slc 1 [])), (.imm (.int .i64 0)), (.imm (.slc 1 []))]), [], none, []⟩] false)
  (.seq
   (.region [⟨(some 7), (.load true 1), [.t 2], none, []⟩,
     ⟨(some 8), .mov, [.t 1], none, []⟩,
     ⟨(some 9), .call, [.f 90, .t 7, .t 8], none, [0, 1]⟩,
     ⟨(some 5), .mov, [.t 9], none, [2, 2, 0, 1, 2]⟩] false)
   (.seq
    (.region [⟨(some 10), (.faddr 0 false 1), [.t 2], none, []⟩,
      ⟨(some 11), (.load false 1), [.t 10], none, [0]⟩,
      ⟨(some 12), .mov, [.t 5], none, []⟩,
      ⟨(some 13), (.bin .sub), [.t 12, .c (.int .i64 1)], none, [2]⟩,
      ⟨(some 14), (.iaddr 2), [.t 11, .t 13], none, [1, 3]⟩,
      ⟨(some 15), (.load true 2), [.t 14], none, [4]⟩,
      ⟨(some 6), (.alloc [(.imm (.int .i64 0)), (.imm (.int .i64 0))]), [], none, []⟩,
      ⟨none, (.store 2), [.t 6, .t 15], none, [6, 5, 0, 1, 2, 3, 4, 5, 6]⟩] false)
    (.seq
     (.region [⟨(some 16), (.faddr 0 false 1), [.t 6], none, []⟩,
       ⟨(some 17), (.load false 1), [.t 16], none, [0]⟩,
       ⟨(some 18), .call, [.f 103, .t 17], none, [1]⟩,
       ⟨(some 19), .mov, [.t 1], none, []⟩,
       ⟨(some 20), (.faddr 1 false 1), [.t 6], none, []⟩,
       ⟨(some 21), (.load false 1), [.t 20], none, [4]⟩,
       ⟨(some 22), (.bin .sub), [.t 19, .t 21], none, [3, 5]⟩,
       ⟨(some 23), .call, [.f 103, .t 22], none, [6, 2]⟩,
       ⟨(some 24), (.load true 1), [.t 2], none, []⟩,
       ⟨(some 25), .mov, [.t 5], none, []⟩,
       ⟨(some 26), .call, [.f 86, .t 24, .t 25], none, [8, 9, 7]⟩,
       ⟨(some 27), .call, [.f 101, .t 23, .t 26], none, [7, 10, 10]⟩,
       ⟨(some 28), .call, [.f 118, .t 18, .t 27], none, [2, 11, 11]⟩,
       ⟨none, (.store 4), [.t 4, .t 28], none, [12, 12, 0, 1, 2, 3, 4, 5, 6, 7, 8, 9, 10, 11, 12]⟩] true)
     .ret))))
def d89 : DFn := ⟨2, 29, [.cell 4 true 4], b89⟩
theorem body89 : d89.body = b89 := rfl
theorem res89 : d89.res = [.cell 4 true 4] := rfl
theorem k89 : chkFn Try.prog Try.f89 d89 = true := by kernel_rfl

/-- guidevane/guidevaneref01.above -/
def b90k0 : DCode :=
 (.block 1
  (.region [⟨(some 14), .mov, [.t 5], none, []⟩,
    ⟨(some 15), (.bin .add), [.t 14, .c (.int .i64 1)], none, [0]⟩,
    ⟨(some 5), .mov, [.t 15], none, [1, 0, 1]⟩] false))
def b90l0 : DCode := .keep [1, 2, 5] [2]
  (.seq
   (.seq
    (.region [⟨(some 6), (.faddr 0 false 1), [.t 2], none, []⟩,
      ⟨(some 7), (.load false 1), [.t 6], none, [0]⟩,
      ⟨(some 8), .mov, [.t 5], none, []⟩,
      ⟨(some 9), (.iaddr 2), [.t 7, .t 8], none, [1, 2]⟩,
      ⟨(some 10), (.faddr 1 false 1), [.t 9], none, [3]⟩,
      ⟨(some 11), (.load false 1), [.t 10], none, [4]⟩,
      ⟨(some 12), .mov, [.t 1], none, []⟩,
      ⟨(some 13), (.bin .lss), [.t 11, .t 12], none, [5, 6]⟩] false)
    (.cond (.t 13)
     .skip
     (.exit 0)))
   (.keep [1, 2, 5] [2] b90k0))
def b90k1 : DCode :=
 (.seq
  (.region [⟨(some 16), .mov, [.t 5], none, []⟩,
    ⟨(some 4), .mov, [.t 16], none, [0, 0]⟩] false)
  .ret)
def b90 : DCode :=
 (.seq
  (.region [⟨(some 2), .box, [.t 0], none, []⟩,
    ⟨(some 4), .mov, [.c (.int .i64 0)], none, []⟩] false)
  (.seq
   (.region [⟨(some 5), .mov, [.c (.int .i64 1)], none, []⟩] false)
   (.seq
    (.block 0
     (.loop b90l0))
    (.keep [5] [] b90k1))))
def d90 : DFn := ⟨2, 17, [.tmp 4], b90⟩
theorem body90 : d90.body = b90 := rfl
theorem res90 : d90.res = [.tmp 4] := rfl
theorem k90 : chkFn Try.prog Try.f90 d90 = true := by kernel_rfl

end Go.DI

