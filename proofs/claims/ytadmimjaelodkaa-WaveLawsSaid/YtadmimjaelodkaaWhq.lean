/- The functions of peaks and lows, as data. No condition. -/
import Derived.Test.YtadmimjaelodkaaWeGe
import Derived.Test.YtadmimjaelodkaaProg
import Derived.KernelRfl
namespace Go.DI
open Go.Proofs Go.RowKit
/-- guidevane/wave.extreme -/
def b112k0 : DCode :=
 (.region [⟨(some 57), (.bin .add), [.t 37, .c (.int .i64 1)], none, []⟩,
   ⟨(some 37), .mov, [.t 57], none, [0]⟩] false)
def b112k1 : DCode :=
 (.seq
  (.block 3
   (.seq
    (.region [⟨(some 39), .mov, [.t 37], none, []⟩,
      ⟨(some 40), (.iaddr 1), [.t 35, .t 37], none, []⟩,
      ⟨(some 41), (.load false 1), [.t 40], none, [1]⟩,
      ⟨(some 16), .mov, [.t 39], none, [0, 0, 1, 2]⟩,
      ⟨(some 17), .mov, [.t 41], none, [2, 3, 0, 1, 2, 3]⟩] false)
    (.seq
     (.region [⟨(some 42), (.load false 1), [.t 13], none, []⟩,
       ⟨(some 43), .mov, [.t 16], none, []⟩,
       ⟨(some 44), (.bin .add), [.t 42, .t 43], none, [0, 1]⟩,
       ⟨(some 45), (.bin .eql), [.t 44, .c (.int .i64 0)], none, [2]⟩,
       ⟨(some 46), .mov, [.t 45], none, [3]⟩,
       ⟨(some 47), (.load false 1), [.t 7], (some (46, false)), [4]⟩,
       ⟨(some 48), .mov, [.t 17], (some (46, false)), [4]⟩,
       ⟨(some 49), (.faddr 0 false 1), [.t 12], (some (46, false)), [4]⟩,
       ⟨(some 50), (.load false 1), [.t 49], (some (46, false)), [7, 4]⟩,
       ⟨(some 51), .call, [.t 47, .t 48, .t 50], (some (46, false)), [5, 6, 8, 4, 4]⟩,
       ⟨(some 52), .pick, [.t 46, .c (.bool true), .t 51], none, [4, 9]⟩] false)
     (.cond (.t 52)
      (.region [⟨(some 53), .mov, [.t 17], none, []⟩,
        ⟨(some 54), (.load false 1), [.t 13], none, []⟩,
        ⟨(some 55), .mov, [.t 16], none, []⟩,
        ⟨(some 56), (.build [(.imm (.int .i64 0)), (.imm (.int .i64 0)), (.imm (.int .i64 0))] [(0, 1), (1, 1), (2, 1)]), [.t 53, .t 54, .t 55], none, [0, 1, 2]⟩,
        ⟨none, (.store 3), [.t 12, .t 56], none, [3, 0, 1, 2, 3]⟩] false)
      .skip))))
  (.keep [6, 7, 12, 13, 35, 36, 37] [6, 7, 8, 12, 13] b112k0))
def b112l0 : DCode := .keep [6, 7, 12, 13, 35, 36, 37] [6, 7, 8, 12, 13]
  (.seq
   (.region [⟨(some 38), (.bin .lss), [.t 37, .t 36], none, []⟩] false)
   (.seq
    (.cond (.t 38)
     .skip
     (.exit 2))
    (.keep [6, 7, 12, 13, 35, 36, 37] [6, 7, 8, 12, 13] b112k1)))
def b112k2 : DCode :=
 (.seq
  (.region [⟨(some 58), (.load false 1), [.t 13], none, []⟩,
    ⟨(some 59), (.bin .add), [.t 58, .c (.int .i64 1)], none, [0]⟩,
    ⟨none, (.store 1), [.t 13, .t 59], none, [1, 0, 1]⟩] false)
  (.seq
   (.region [⟨(some 60), (.load false 1), [.t 13], none, []⟩,
     ⟨(some 61), (.load false 1), [.t 6], none, []⟩,
     ⟨(some 62), (.bin .eql), [.t 60, .t 61], none, [0, 1]⟩] false)
   (.cond (.t 62)
    (.exit 0)
    .skip)))
def b112a1 : DCode :=
 (.region [⟨(some 15), (.alloc [(.imm (.slc 1 [])), (.imm (.slc 1 [])), (.imm (.slc 1 []))]), [], none, []⟩,
   ⟨none, (.store 3), [.t 15, .t 33], none, [0, 0]⟩] false)
def b112r1 : DCode :=
 (.block 1
  (.seq
   (.seq
    (.region [⟨(some 34), (.load true 3), [.t 15], none, []⟩,
      ⟨(some 35), .call, [.f 126, .t 34], none, [0]⟩,
      ⟨(some 36), .len, [.t 35], none, [1]⟩,
      ⟨(some 37), .mov, [.c (.int .i64 0)], none, []⟩] false)
    (.block 2
     (.loop b112l0)))
   (.keep [6, 13] [6, 7, 8, 12, 13] b112k2)))
def b112k3 : DCode :=
 (.seq
  (.region [⟨(some 63), (.load true 3), [.t 12], none, []⟩,
    ⟨none, (.store 3), [.t 8, .t 63], none, [0, 0]⟩,
    ⟨(some 9), .mov, [.c (.int .i64 0)], none, [1, 0, 1]⟩] false)
  .ret)
def b112k4 : DCode :=
 (.seq
  (.region [⟨(some 12), (.alloc [(.imm (.int .i64 0)), (.imm (.int .i64 0)), (.imm (.int .i64 0))]), [], none, []⟩] false)
  (.seq
   (.region [⟨(some 13), (.alloc [(.imm (.int .i64 0))]), [], none, []⟩,
     ⟨none, (.store 1), [.t 13, .c (.int .i64 0)], none, [0, 0]⟩] false)
   (.seq
    (.seq
     (.region [⟨(some 29), (.load true 4), [.t 10], none, []⟩,
       ⟨(some 30), .movv, [.t 1], none, []⟩,
       ⟨(some 31), .call, [.f 96, .t 29, .t 30], none, [0, 1]⟩] false)
     (.block 0
      (.rangeF (.t 31) [32, 33] [6, 7, 8, 12, 13] [6, 7, 8, 12, 13] [] [6, 7, 8, 12, 13] b112a1 b112r1)))
    (.keep [8, 12] [8, 12] b112k3))))
def b112 : DCode :=
 (.seq
  (.region [⟨(some 4), .box, [.t 0], none, []⟩,
    ⟨(some 6), .box, [.t 2], none, []⟩,
    ⟨(some 7), .box, [.t 3], none, []⟩,
    ⟨(some 8), (.alloc [(.imm (.int .i64 0)), (.imm (.int .i64 0)), (.imm (.int .i64 0))]), [], none, []⟩,
    ⟨(some 9), .mov, [.c (.int .i64 0)], none, []⟩] false)
  (.seq
   (.region [⟨(some 19), (.load true 2), [.t 4], none, []⟩,
     ⟨(some 20), .movv, [.t 1], none, []⟩,
     ⟨(some 21), (.load false 1), [.t 6], none, []⟩,
     ⟨(some 22), .call, [.f 95, .t 19, .t 20, .t 21], none, [0, 1, 2]⟩,
     ⟨(some 18), .mov, [.t 22], none, [3]⟩,
     ⟨(some 23), (.ext 0), [.t 18], none, [4]⟩,
     ⟨(some 24), (.ext 1), [.t 18], none, [4]⟩,
     ⟨(some 10), (.alloc [(.imm (.slc 2 [])), (.imm (.slc 1 [])), (.imm (.slc 1 [])), (.imm (.int .i64 0))]), [], none, []⟩,
     ⟨none, (.store 4), [.t 10, .t 23], none, [7, 5, 3, 0, 1, 2, 3, 4, 5, 7]⟩,
     ⟨(some 11), .mov, [.t 24], none, [6, 8, 0, 1, 2, 3, 4, 5, 6, 7, 8]⟩] false)
   (.seq
    (.seq
     (.region [⟨(some 25), .mov, [.t 11], none, []⟩,
       ⟨(some 26), (.bin .neq), [.t 25, .c (.int .i64 0)], none, [0]⟩] false)
     (.cond (.t 26)
      (.seq
       (.region [⟨(some 27), (.build [(.imm (.int .i64 0)), (.imm (.int .i64 0)), (.imm (.int .i64 0))] []), [], none, []⟩,
         ⟨(some 28), .mov, [.t 11], none, []⟩,
         ⟨none, (.store 3), [.t 8, .t 27], none, [0, 0]⟩,
         ⟨(some 9), .mov, [.t 28], none, [1, 2, 0, 1, 2]⟩] false)
       .ret)
      .skip))
    (.keep [1, 6, 7, 8, 10] [6, 7, 8, 10] b112k4))))
def d112 : DFn := ⟨4, 64, [.cell 8 true 3, .tmp 9], b112⟩
theorem body112 : d112.body = b112 := rfl
theorem res112 : d112.res = [.cell 8 true 3, .tmp 9] := rfl
theorem k112 : chkFn Try.prog Try.f112 d112 = true := by kernel_rfl

/-- guidevane/wave.HighestOf -/
def b57 : DCode :=
 (.seq
  (.region [⟨(some 3), .box, [.t 0], none, []⟩,
    ⟨(some 6), (.alloc [(.imm (.int .i64 0)), (.imm (.int .i64 0)), (.imm (.int .i64 0))]), [], none, []⟩,
    ⟨(some 7), .mov, [.c (.int .i64 0)], none, []⟩] false)
  (.seq
   (.region [⟨(some 8), (.load true 2), [.t 3], none, []⟩,
     ⟨(some 9), .movv, [.t 1], none, []⟩,
     ⟨(some 10), .mov, [.t 2], none, []⟩,
     ⟨(some 11), .call, [.f 112, .t 8, .t 9, .t 10, .f 113], none, [0, 1, 2]⟩,
     ⟨(some 12), (.ext 0), [.t 11], none, [3]⟩,
     ⟨(some 13), (.ext 1), [.t 11], none, [3]⟩,
     ⟨none, (.store 3), [.t 6, .t 12], none, [4, 3, 0, 1, 2, 3, 4, 5]⟩,
     ⟨(some 7), .mov, [.t 13], none, [5, 6, 0, 1, 2, 3, 4, 5, 6]⟩] false)
   .ret))
def d57 : DFn := ⟨3, 14, [.cell 6 true 3, .tmp 7], b57⟩
theorem body57 : d57.body = b57 := rfl
theorem res57 : d57.res = [.cell 6 true 3, .tmp 7] := rfl
theorem k57 : chkFn Try.prog Try.f57 d57 = true := by kernel_rfl

/-- guidevane/wave.HighestOf$1 -/
def b113 : DCode :=
 (.seq
  (.region [⟨(some 4), .mov, [.c (.bool false)], none, []⟩] false)
  (.seq
   (.region [⟨(some 5), .mov, [.t 0], none, []⟩,
     ⟨(some 6), .mov, [.t 1], none, []⟩,
     ⟨(some 7), (.bin .gtr), [.t 5, .t 6], none, [0, 1]⟩,
     ⟨(some 4), .mov, [.t 7], none, [2, 0, 1, 2]⟩] false)
   .ret))
def d113 : DFn := ⟨2, 8, [.tmp 4], b113⟩
theorem body113 : d113.body = b113 := rfl
theorem res113 : d113.res = [.tmp 4] := rfl
theorem k113 : chkFn Try.prog Try.f113 d113 = true := by kernel_rfl

/-- guidevane/wave.LowestOf -/
def b58 : DCode :=
 (.seq
  (.region [⟨(some 3), .box, [.t 0], none, []⟩,
    ⟨(some 6), (.alloc [(.imm (.int .i64 0)), (.imm (.int .i64 0)), (.imm (.int .i64 0))]), [], none, []⟩,
    ⟨(some 7), .mov, [.c (.int .i64 0)], none, []⟩] false)
  (.seq
   (.region [⟨(some 8), (.load true 2), [.t 3], none, []⟩,
     ⟨(some 9), .movv, [.t 1], none, []⟩,
     ⟨(some 10), .mov, [.t 2], none, []⟩,
     ⟨(some 11), .call, [.f 112, .t 8, .t 9, .t 10, .f 114], none, [0, 1, 2]⟩,
     ⟨(some 12), (.ext 0), [.t 11], none, [3]⟩,
     ⟨(some 13), (.ext 1), [.t 11], none, [3]⟩,
     ⟨none, (.store 3), [.t 6, .t 12], none, [4, 3, 0, 1, 2, 3, 4, 5]⟩,
     ⟨(some 7), .mov, [.t 13], none, [5, 6, 0, 1, 2, 3, 4, 5, 6]⟩] false)
   .ret))
def d58 : DFn := ⟨3, 14, [.cell 6 true 3, .tmp 7], b58⟩
theorem body58 : d58.body = b58 := rfl
theorem res58 : d58.res = [.cell 6 true 3, .tmp 7] := rfl
theorem k58 : chkFn Try.prog Try.f58 d58 = true := by kernel_rfl

/-- guidevane/wave.LowestOf$1 -/
def b114 : DCode :=
 (.seq
  (.region [⟨(some 4), .mov, [.c (.bool false)], none, []⟩] false)
  (.seq
   (.region [⟨(some 5), .mov, [.t 0], none, []⟩,
     ⟨(some 6), .mov, [.t 1], none, []⟩,
     ⟨(some 7), (.bin .lss), [.t 5, .t 6], none, [0, 1]⟩,
     ⟨(some 4), .mov, [.t 7], none, [2, 0, 1, 2]⟩] false)
   .ret))
def d114 : DFn := ⟨2, 8, [.tmp 4], b114⟩
theorem body114 : d114.body = b114 := rfl
theorem res114 : d114.res = [.tmp 4] := rfl
theorem k114 : chkFn Try.prog Try.f114 d114 = true := by kernel_rfl

/-- guidevane/guidevaneref03.Peak -/
def b70k0 : DCode :=
 (.region [⟨(some 34), .mov, [.t 13], none, []⟩,
   ⟨(some 35), (.bin .add), [.t 34, .c (.int .i64 1)], none, [0]⟩,
   ⟨(some 13), .mov, [.t 35], none, [1, 0, 1]⟩] false)
def b70k1 : DCode :=
 (.seq
  (.block 3
   (.seq
    (.region [⟨(some 36), .mov, [.t 11], none, []⟩,
      ⟨(some 37), (.bin .eql), [.t 36, .c (.int .i64 0)], none, [0]⟩,
      ⟨(some 38), .mov, [.t 37], none, [1]⟩,
      ⟨(some 39), .mov, [.t 13], (some (38, true)), [2]⟩,
      ⟨(some 40), (.bin .eql), [.t 39, .c (.int .i64 0)], (some (38, true)), [3, 2]⟩,
      ⟨(some 41), .pick, [.t 38, .t 40, .c (.bool false)], none, [2, 4]⟩,
      ⟨(some 42), .mov, [.t 41], none, [5, 2]⟩,
      ⟨(some 43), .mov, [.t 3], (some (42, false)), [6]⟩,
      ⟨(some 44), .movv, [.t 12], (some (42, false)), [6]⟩,
      ⟨(some 45), .mov, [.t 13], (some (42, false)), [6]⟩,
      ⟨(some 46), (.iaddr 1), [.t 44, .t 45], (some (42, false)), [8, 9, 6]⟩,
      ⟨(some 47), (.load false 1), [.t 46], (some (42, false)), [10, 6]⟩,
      ⟨(some 48), (.bin .mul), [.t 43, .t 47], (some (42, false)), [7, 11, 6]⟩,
      ⟨(some 49), .mov, [.t 3], (some (42, false)), [6]⟩,
      ⟨(some 50), (.faddr 0 false 1), [.t 10], (some (42, false)), [6]⟩,
      ⟨(some 51), (.load false 1), [.t 50], (some (42, false)), [14, 6]⟩,
      ⟨(some 52), (.bin .mul), [.t 49, .t 51], (some (42, false)), [13, 15, 6]⟩,
      ⟨(some 53), (.bin .gtr), [.t 48, .t 52], (some (42, false)), [12, 16, 6]⟩,
      ⟨(some 54), .pick, [.t 42, .c (.bool true), .t 53], none, [6, 17]⟩] true)
    (.cond (.t 54)
     (.region [⟨(some 55), .movv, [.t 12], none, []⟩,
       ⟨(some 56), .mov, [.t 13], none, []⟩,
       ⟨(some 57), (.iaddr 1), [.t 55, .t 56], none, [0, 1]⟩,
       ⟨(some 58), (.load false 1), [.t 57], none, [2]⟩,
       ⟨(some 59), .mov, [.t 11], none, []⟩,
       ⟨(some 60), .mov, [.t 13], none, []⟩,
       ⟨(some 61), (.build [(.imm (.int .i64 0)), (.imm (.int .i64 0)), (.imm (.int .i64 0))] [(0, 1), (1, 1), (2, 1)]), [.t 58, .t 59, .t 60], none, [3, 4, 5]⟩,
       ⟨none, (.store 3), [.t 10, .t 61], none, [6, 0, 1, 2, 3, 4, 5, 6]⟩] false)
     .skip)))
  (.keep [1, 2, 3, 4, 8, 9, 10, 11, 12, 13] [4, 8, 9, 10] b70k0))
def b70l0 : DCode := .keep [1, 2, 3, 4, 8, 9, 10, 11, 12, 13] [4, 8, 9, 10]
  (.seq
   (.seq
    (.region [⟨(some 30), .mov, [.t 13], none, []⟩,
      ⟨(some 31), .movv, [.t 12], none, []⟩,
      ⟨(some 32), .len, [.t 31], none, [1]⟩,
      ⟨(some 33), (.bin .lss), [.t 30, .t 32], none, [0, 2]⟩] false)
    (.cond (.t 33)
     .skip
     (.exit 2)))
   (.keep [1, 2, 3, 4, 8, 9, 10, 11, 12, 13] [4, 8, 9, 10] b70k1))
def b70k2 : DCode :=
 (.region [⟨(some 19), .mov, [.t 11], none, []⟩,
   ⟨(some 20), (.bin .add), [.t 19, .c (.int .i64 1)], none, [0]⟩,
   ⟨(some 11), .mov, [.t 20], none, [1, 0, 1]⟩] false)
def b70k3 : DCode :=
 (.seq
  (.block 1
   (.seq
    (.region [⟨(some 21), (.load true 2), [.t 4], none, []⟩,
      ⟨(some 22), (.load true 3), [.t 9], none, []⟩,
      ⟨(some 23), .movv, [.t 1], none, []⟩,
      ⟨(some 24), .mov, [.t 11], none, []⟩,
      ⟨(some 25), .call, [.f 41, .t 23, .t 24], none, [2, 3]⟩,
      ⟨(some 26), .call, [.f 29, .t 21, .t 22, .t 25], none, [0, 1, 4, 4]⟩,
      ⟨none, (.store 3), [.t 9, .t 26], none, [5, 5, 0, 1, 2, 3, 4, 5]⟩] true)
    (.seq
     (.region [⟨(some 27), (.load true 2), [.t 4], none, []⟩,
       ⟨(some 28), (.load true 3), [.t 9], none, []⟩,
       ⟨(some 29), .call, [.f 75, .t 27, .t 28], none, [0, 1]⟩,
       ⟨(some 12), .movv, [.t 29], none, [2, 2, 0, 1, 2]⟩] false)
     (.seq
      (.region [⟨(some 13), .mov, [.c (.int .i64 0)], none, []⟩] false)
      (.block 2
       (.loop b70l0))))))
  (.keep [1, 2, 3, 4, 8, 9, 10, 11] [4, 8, 9, 10] b70k2))
def b70l1 : DCode := .keep [1, 2, 3, 4, 8, 9, 10, 11] [4, 8, 9, 10]
  (.seq
   (.seq
    (.region [⟨(some 16), .mov, [.t 11], none, []⟩,
      ⟨(some 17), .mov, [.t 2], none, []⟩,
      ⟨(some 18), (.bin .lss), [.t 16, .t 17], none, [0, 1]⟩] false)
    (.cond (.t 18)
     .skip
     (.exit 0)))
   (.keep [1, 2, 3, 4, 8, 9, 10, 11] [4, 8, 9, 10] b70k3))
def b70k4 : DCode :=
 (.seq
  (.region [⟨(some 62), (.load true 3), [.t 10], none, []⟩,
    ⟨none, (.store 3), [.t 8, .t 62], none, [0, 0]⟩] false)
  .ret)
def b70 : DCode :=
 (.seq
  (.region [⟨(some 4), .box, [.t 0], none, []⟩,
    ⟨(some 8), (.alloc [(.imm (.int .i64 0)), (.imm (.int .i64 0)), (.imm (.int .i64 0))]), [], none, []⟩] false)
  (.seq
   (.region [⟨(some 14), (.load true 2), [.t 4], none, []⟩,
     ⟨(some 15), .call, [.f 94, .t 14], none, [0]⟩,
     ⟨(some 9), (.alloc [(.imm (.slc 1 [])), (.imm (.slc 1 [])), (.imm (.slc 1 []))]), [], none, []⟩,
     ⟨none, (.store 3), [.t 9, .t 15], none, [2, 1, 1, 0, 1, 2]⟩] false)
   (.seq
    (.region [⟨(some 10), (.alloc [(.imm (.int .i64 0)), (.imm (.int .i64 0)), (.imm (.int .i64 0))]), [], none, []⟩] false)
    (.seq
     (.seq
      (.region [⟨(some 11), .mov, [.c (.int .i64 0)], none, []⟩] false)
      (.block 0
       (.loop b70l1)))
     (.keep [8, 10] [8, 10] b70k4)))))
def d70 : DFn := ⟨4, 63, [.cell 8 true 3], b70⟩
theorem body70 : d70.body = b70 := rfl
theorem res70 : d70.res = [.cell 8 true 3] := rfl
theorem k70 : chkFn Try.prog Try.f70 d70 = true := by kernel_rfl

/-- guidevane/guidevanelaw03.WaveLaws -/
def b13k0 : DCode :=
 (.seq
  (.region [⟨(some 121), .mov, [.t 10], none, []⟩,
    ⟨(some 122), (.bin .eql), [.t 121, .c (.int .i64 0)], none, [0]⟩,
    ⟨(some 123), .mov, [.t 122], none, [1]⟩,
    ⟨(some 124), .movv, [.t 9], (some (123, true)), [2]⟩,
    ⟨(some 125), (.load true 2), [.t 3], (some (123, true)), [2]⟩,
    ⟨(some 126), .movv, [.t 1], (some (123, true)), [2]⟩,
    ⟨(some 127), .mov, [.t 2], (some (123, true)), [2]⟩,
    ⟨(some 128), .call, [.f 69, .t 125, .t 126, .t 127], (some (123, true)), [4, 5, 6, 2, 2]⟩,
    ⟨(some 129), .call, [.f 45, .t 124, .t 128], (some (123, true)), [3, 7, 7, 2]⟩,
    ⟨(some 130), .pick, [.t 123, .t 129, .c (.bool false)], none, [2, 8]⟩,
    ⟨(some 131), .mov, [.t 130], none, [9, 8]⟩,
    ⟨(some 132), .mov, [.t 12], (some (131, true)), [10]⟩,
    ⟨(some 133), (.bin .eql), [.t 132, .c (.int .i64 0)], (some (131, true)), [11, 10]⟩,
    ⟨(some 134), .pick, [.t 131, .t 133, .c (.bool false)], none, [10, 12]⟩,
    ⟨(some 135), .mov, [.t 134], none, [13, 10]⟩,
    ⟨(some 136), (.load true 3), [.t 11], (some (135, true)), [14]⟩,
    ⟨(some 137), (.load true 2), [.t 3], (some (135, true)), [14]⟩,
    ⟨(some 138), .movv, [.t 1], (some (135, true)), [14]⟩,
    ⟨(some 139), .mov, [.t 2], (some (135, true)), [14]⟩,
    ⟨(some 140), .call, [.f 70, .t 137, .t 138, .t 139, .c (.int .i64 1)], (some (135, true)), [16, 17, 18, 14, 14]⟩,
    ⟨(some 141), (.eqs [false, false, false] false), [.t 136, .t 140], (some (135, true)), [15, 19, 14]⟩,
    ⟨(some 142), .pick, [.t 135, .t 141, .c (.bool false)], none, [14, 20]⟩,
    ⟨(some 143), .mov, [.t 142], none, [21, 19]⟩,
    ⟨(some 144), .mov, [.t 14], (some (143, true)), [22]⟩,
    ⟨(some 145), (.bin .eql), [.t 144, .c (.int .i64 0)], (some (143, true)), [23, 22]⟩,
    ⟨(some 146), .pick, [.t 143, .t 145, .c (.bool false)], none, [22, 24]⟩,
    ⟨(some 147), .mov, [.t 146], none, [25, 22]⟩,
    ⟨(some 148), (.load true 3), [.t 13], (some (147, true)), [26]⟩,
    ⟨(some 149), (.load true 2), [.t 3], (some (147, true)), [26]⟩,
    ⟨(some 150), .movv, [.t 1], (some (147, true)), [26]⟩,
    ⟨(some 151), .mov, [.t 2], (some (147, true)), [26]⟩,
    ⟨(some 152), .call, [.f 70, .t 149, .t 150, .t 151, .c (.int .i64 (-1))], (some (147, true)), [28, 29, 30, 26, 26]⟩,
    ⟨(some 153), (.eqs [false, false, false] false), [.t 148, .t 152], (some (147, true)), [27, 31, 26]⟩,
    ⟨(some 154), .pick, [.t 147, .t 153, .c (.bool false)], none, [26, 32]⟩,
    ⟨(some 6), .mov, [.t 154], none, [33, 31, 0, 1, 2, 3, 4, 5, 6, 7, 8, 9, 10, 11, 12, 13, 14, 15, 16, 17, 18, 19, 20, 21, 22, 23, 24, 25, 26, 27, 28, 29, 30, 31, 32, 33]⟩] true)
  .ret)
def b13k1 : DCode :=
 (.seq
  (.seq
   (.region [⟨(some 91), .mov, [.t 16], none, []⟩,
     ⟨(some 92), (.bin .neq), [.t 91, .c (.int .i64 0)], none, [0]⟩] false)
   (.cond (.t 92)
    (.seq
     (.region [⟨(some 93), .mov, [.t 10], none, []⟩,
       ⟨(some 94), .mov, [.t 16], none, []⟩,
       ⟨(some 95), (.bin .eql), [.t 93, .t 94], none, [0, 1]⟩,
       ⟨(some 96), .mov, [.t 95], none, [2]⟩,
       ⟨(some 97), .mov, [.t 12], (some (96, true)), [3]⟩,
       ⟨(some 98), .mov, [.t 16], (some (96, true)), [3]⟩,
       ⟨(some 99), (.bin .eql), [.t 97, .t 98], (some (96, true)), [4, 5, 3]⟩,
       ⟨(some 100), .pick, [.t 96, .t 99, .c (.bool false)], none, [3, 6]⟩,
       ⟨(some 101), .mov, [.t 100], none, [7, 3]⟩,
       ⟨(some 102), .mov, [.t 14], (some (101, true)), [8]⟩,
       ⟨(some 103), .mov, [.t 16], (some (101, true)), [8]⟩,
       ⟨(some 104), (.bin .eql), [.t 102, .t 103], (some (101, true)), [9, 10, 8]⟩,
       ⟨(some 105), .pick, [.t 101, .t 104, .c (.bool false)], none, [8, 11]⟩,
       ⟨(some 106), .mov, [.t 105], none, [12, 8]⟩,
       ⟨(some 107), .movv, [.t 9], (some (106, true)), [13]⟩,
       ⟨(some 108), .len, [.t 107], (some (106, true)), [14, 13]⟩,
       ⟨(some 109), (.bin .eql), [.t 108, .c (.int .i64 0)], (some (106, true)), [15, 13]⟩,
       ⟨(some 110), .pick, [.t 106, .t 109, .c (.bool false)], none, [13, 16]⟩,
       ⟨(some 111), .mov, [.t 110], none, [17, 13]⟩,
       ⟨(some 112), (.load true 3), [.t 11], (some (111, true)), [18]⟩,
       ⟨(some 113), (.build [(.imm (.int .i64 0)), (.imm (.int .i64 0)), (.imm (.int .i64 0))] []), [], (some (111, true)), [18]⟩,
       ⟨(some 114), (.eqs [false, false, false] false), [.t 112, .t 113], (some (111, true)), [19, 20, 18]⟩,
       ⟨(some 115), .pick, [.t 111, .t 114, .c (.bool false)], none, [18, 21]⟩,
       ⟨(some 116), .mov, [.t 115], none, [22, 18]⟩,
       ⟨(some 117), (.load true 3), [.t 13], (some (116, true)), [23]⟩,
       ⟨(some 118), (.build [(.imm (.int .i64 0)), (.imm (.int .i64 0)), (.imm (.int .i64 0))] []), [], (some (116, true)), [23]⟩,
       ⟨(some 119), (.eqs [false, false, false] false), [.t 117, .t 118], (some (116, true)), [24, 25, 23]⟩,
       ⟨(some 120), .pick, [.t 116, .t 119, .c (.bool false)], none, [23, 26]⟩,
       ⟨(some 6), .mov, [.t 120], none, [27, 23, 0, 1, 2, 3, 4, 5, 6, 7, 8, 9, 10, 11, 12, 13, 14, 15, 16, 17, 18, 19, 20, 21, 22, 23, 24, 25, 26, 27]⟩] false)
     .ret)
    .skip))
  (.keep [1, 2, 3, 9, 10, 11, 12, 13, 14] [3, 11, 13] b13k0))
def b13k2 : DCode :=
 (.seq
  (.seq
   (.region [⟨(some 87), .mov, [.t 16], none, []⟩,
     ⟨(some 88), (.bin .eql), [.t 87, .c (.int .i64 0)], none, [0]⟩] false)
   (.cond (.t 88)
    (.region [⟨(some 89), .mov, [.t 2], none, []⟩,
      ⟨(some 90), .call, [.f 68, .t 89], none, [0]⟩,
      ⟨(some 16), .mov, [.t 90], none, [1, 1, 0, 1]⟩] false)
    .skip))
  (.keep [1, 2, 3, 9, 10, 11, 12, 13, 14, 16] [3, 11, 13] b13k1))
def b13k3 : DCode :=
 (.seq
  (.seq
   (.region [⟨(some 82), (.load true 2), [.t 3], none, []⟩,
     ⟨(some 83), .call, [.f 37, .t 82], none, [0]⟩,
     ⟨(some 17), .mov, [.t 83], none, [1, 1, 0, 1]⟩] false)
   (.seq
    (.region [⟨(some 84), .mov, [.t 17], none, []⟩,
      ⟨(some 85), (.bin .neq), [.t 84, .c (.int .i64 0)], none, [0]⟩] false)
    (.cond (.t 85)
     (.region [⟨(some 86), .mov, [.t 17], none, []⟩,
       ⟨(some 16), .mov, [.t 86], none, [0, 0]⟩] false)
     .skip)))
  (.keep [1, 2, 3, 9, 10, 11, 12, 13, 14, 16] [3, 11, 13] b13k2))
def b13k4 : DCode :=
 (.seq
  (.region [⟨(some 37), .movv, [.t 1], none, []⟩,
    ⟨(some 38), .call, [.f 24, .t 37], none, [0]⟩,
    ⟨(some 39), .call, [.f 66, .t 38], none, [1, 1]⟩,
    ⟨(some 36), .mov, [.t 39], none, [2]⟩,
    ⟨(some 40), (.ext 0), [.t 36], none, [3]⟩,
    ⟨(some 41), (.ext 1), [.t 36], none, [3]⟩,
    ⟨(some 7), .mov, [.t 40], none, [4, 2, 0, 1, 2, 3, 4]⟩,
    ⟨(some 8), .mov, [.t 41], none, [5, 6, 0, 1, 2, 3, 4, 5, 6]⟩] false)
  (.seq
   (.region [⟨(some 43), (.load true 2), [.t 3], none, []⟩,
     ⟨(some 44), .call, [.f 22, .t 43], none, [0]⟩,
     ⟨(some 45), .movv, [.t 1], none, []⟩,
     ⟨(some 46), .call, [.f 24, .t 45], none, [2, 1]⟩,
     ⟨(some 47), .mov, [.t 2], none, []⟩,
     ⟨(some 48), .call, [.f 39, .t 44, .t 46, .t 47], none, [1, 3, 4, 3]⟩,
     ⟨(some 42), .mov, [.t 48], none, [5]⟩,
     ⟨(some 49), (.ext 0), [.t 42], none, [6]⟩,
     ⟨(some 50), (.ext 1), [.t 42], none, [6]⟩,
     ⟨(some 9), .movv, [.t 49], none, [7, 5, 0, 1, 2, 3, 4, 5, 6, 7]⟩,
     ⟨(some 10), .mov, [.t 50], none, [8, 9, 0, 1, 2, 3, 4, 5, 6, 7, 8, 9]⟩] false)
   (.seq
    (.region [⟨(some 52), (.load true 2), [.t 3], none, []⟩,
      ⟨(some 53), .call, [.f 22, .t 52], none, [0]⟩,
      ⟨(some 54), .movv, [.t 1], none, []⟩,
      ⟨(some 55), .call, [.f 24, .t 54], none, [2, 1]⟩,
      ⟨(some 56), .mov, [.t 2], none, []⟩,
      ⟨(some 57), .call, [.f 57, .t 53, .t 55, .t 56], none, [1, 3, 4, 3]⟩,
      ⟨(some 51), .mov, [.t 57], none, [5]⟩,
      ⟨(some 58), (.ext 0), [.t 51], none, [6]⟩,
      ⟨(some 59), (.ext 1), [.t 51], none, [6]⟩,
      ⟨(some 11), (.alloc [(.imm (.int .i64 0)), (.imm (.int .i64 0)), (.imm (.int .i64 0))]), [], none, []⟩,
      ⟨none, (.store 3), [.t 11, .t 58], none, [9, 7, 5, 0, 1, 2, 3, 4, 5, 6, 7, 9]⟩,
      ⟨(some 12), .mov, [.t 59], none, [8, 10, 0, 1, 2, 3, 4, 5, 6, 7, 8, 9, 10]⟩] false)
    (.seq
     (.region [⟨(some 61), (.load true 2), [.t 3], none, []⟩,
       ⟨(some 62), .call, [.f 22, .t 61], none, [0]⟩,
       ⟨(some 63), .movv, [.t 1], none, []⟩,
       ⟨(some 64), .call, [.f 24, .t 63], none, [2, 1]⟩,
       ⟨(some 65), .mov, [.t 2], none, []⟩,
       ⟨(some 66), .call, [.f 58, .t 62, .t 64, .t 65], none, [1, 3, 4, 3]⟩,
       ⟨(some 60), .mov, [.t 66], none, [5]⟩,
       ⟨(some 67), (.ext 0), [.t 60], none, [6]⟩,
       ⟨(some 68), (.ext 1), [.t 60], none, [6]⟩,
       ⟨(some 13), (.alloc [(.imm (.int .i64 0)), (.imm (.int .i64 0)), (.imm (.int .i64 0))]), [], none, []⟩,
       ⟨none, (.store 3), [.t 13, .t 67], none, [9, 7, 5, 0, 1, 2, 3, 4, 5, 6, 7, 9]⟩,
       ⟨(some 14), .mov, [.t 68], none, [8, 10, 0, 1, 2, 3, 4, 5, 6, 7, 8, 9, 10]⟩] false)
     (.seq
      (.region [⟨(some 70), .movv, [.t 1], none, []⟩,
        ⟨(some 71), .call, [.f 67, .t 70], none, [0]⟩,
        ⟨(some 69), .mov, [.t 71], none, [1]⟩,
        ⟨(some 72), (.ext 0), [.t 69], none, [2]⟩,
        ⟨(some 73), (.ext 1), [.t 69], none, [2]⟩,
        ⟨(some 15), .mov, [.t 72], none, [3, 1, 0, 1, 2, 3]⟩,
        ⟨(some 16), .mov, [.t 73], none, [4, 5, 0, 1, 2, 3, 4, 5]⟩] false)
      (.seq
       (.seq
        (.region [⟨(some 74), .mov, [.t 8], none, []⟩,
          ⟨(some 75), .mov, [.t 16], none, []⟩,
          ⟨(some 76), (.bin .neq), [.t 74, .t 75], none, [0, 1]⟩,
          ⟨(some 77), .mov, [.t 76], none, [2]⟩,
          ⟨(some 78), .mov, [.t 7], (some (77, false)), [3]⟩,
          ⟨(some 79), .mov, [.t 15], (some (77, false)), [3]⟩,
          ⟨(some 80), (.bin .neq), [.t 78, .t 79], (some (77, false)), [4, 5, 3]⟩,
          ⟨(some 81), .pick, [.t 77, .c (.bool true), .t 80], none, [3, 6]⟩] false)
        (.cond (.t 81)
         (.seq
          (.region [⟨(some 6), .mov, [.c (.bool false)], none, []⟩] false)
          .ret)
         .skip))
       (.keep [1, 2, 3, 9, 10, 11, 12, 13, 14, 16] [3, 11, 13] b13k3)))))))
def b13k5 : DCode :=
 (.seq
  (.seq
   (.region [⟨(some 20), (.load true 2), [.t 3], none, []⟩,
     ⟨(some 21), .call, [.f 18, .t 20], none, [0]⟩,
     ⟨(some 22), (.un .not), [.t 21], none, [1]⟩,
     ⟨(some 23), .mov, [.t 22], none, [2, 1]⟩,
     ⟨(some 24), .movv, [.t 1], (some (23, false)), [3]⟩,
     ⟨(some 25), .len, [.t 24], (some (23, false)), [4, 3]⟩,
     ⟨(some 26), (.bin .gtr), [.t 25, .c (.int .i64 70)], (some (23, false)), [5, 3]⟩,
     ⟨(some 27), .pick, [.t 23, .c (.bool true), .t 26], none, [3, 6]⟩,
     ⟨(some 28), .mov, [.t 27], none, [7, 3]⟩,
     ⟨(some 29), .mov, [.t 2], (some (28, false)), [8]⟩,
     ⟨(some 30), (.bin .gtr), [.t 29, .c (.int .i64 60)], (some (28, false)), [9, 8]⟩,
     ⟨(some 31), .mov, [.t 30], (some (28, false)), [10, 8, 8]⟩,
     ⟨(some 32), .mov, [.t 2], (some (31, true)), [11]⟩,
     ⟨(some 33), (.bin .leq), [.t 32, .c (.int .i64 200)], (some (31, true)), [12, 11]⟩,
     ⟨(some 34), .pick, [.t 31, .t 33, .c (.bool false)], (some (28, false)), [11, 13, 8]⟩,
     ⟨(some 35), .pick, [.t 28, .c (.bool true), .t 34], none, [8, 14]⟩] false)
   (.cond (.t 35)
    (.seq
     (.region [⟨(some 6), .mov, [.c (.bool true)], none, []⟩] false)
     .ret)
    .skip))
  (.keep [1, 2, 3] [3] b13k4))
def b13 : DCode :=
 (.seq
  (.region [⟨(some 3), .box, [.t 0], none, []⟩,
    ⟨(some 6), .mov, [.c (.bool false)], none, []⟩] false)
  (.seq
   (.seq
    (.region [⟨(some 18), .call, [.f 17], none, []⟩,
      ⟨(some 19), (.un .not), [.t 18], none, [0]⟩] false)
    (.cond (.t 19)
     (.seq
      (.region [⟨(some 6), .mov, [.c (.bool false)], none, []⟩] false)
      .ret)
     .skip))
   (.keep [1, 2, 3] [3] b13k5)))
def d13 : DFn := ⟨3, 155, [.tmp 6], b13⟩
theorem body13 : d13.body = b13 := rfl
theorem res13 : d13.res = [.tmp 6] := rfl
theorem k13 : chkFn Try.prog Try.f13 d13 = true := by kernel_rfl

end Go.DI

