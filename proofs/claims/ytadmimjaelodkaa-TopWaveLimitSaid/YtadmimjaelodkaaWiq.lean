/- The functions of peaks and lows, as data. No condition. -/
import Derived.Test.YtadmimjaelodkaaWeGe
import Derived.Test.YtadmimjaelodkaaProg
import Derived.KernelRfl
namespace Go.DI
open Go.Proofs Go.RowKit
/-- guidevane/wave.extreme -/
def b112k0 : DCode :=
 (.region [⟨(some 57), (.bin .add), [.t 37, .c (.int .i64 1)], none, []⟩,
   ⟨(some 37), .mov, [.t 57], none, [0]⟩] false)
def b112k1 : DCode :=
 (.seq
  (.block 3
   (.seq
    (.region [⟨(some 39), .mov, [.t 37], none, []⟩,
      ⟨(some 40), (.iaddr 1), [.t 35, .t 37], none, []⟩,
      ⟨(some 41), (.load false 1), [.t 40], none, [1]⟩,
      ⟨(some 16), .mov, [.t 39], none, [0, 0, 1, 2]⟩,
      ⟨(some 17), .mov, [.t 41], none, [2, 3, 0, 1, 2, 3]⟩] false)
    (.seq
     (.region [⟨(some 42), (.load false 1), [.t 13], none, []⟩,
       ⟨(some 43), .mov, [.t 16], none, []⟩,
       ⟨(some 44), (.bin .add), [.t 42, .t 43], none, [0, 1]⟩,
       ⟨(some 45), (.bin .eql), [.t 44, .c (.int .i64 0)], none, [2]⟩,
       ⟨(some 46), .mov, [.t 45], none, [3]⟩,
       ⟨(some 47), (.load false 1), [.t 7], (some (46, false)), [4]⟩,
       ⟨(some 48), .mov, [.t 17], (some (46, false)), [4]⟩,
       ⟨(some 49), (.faddr 0 false 1), [.t 12], (some (46, false)), [4]⟩,
       ⟨(some 50), (.load false 1), [.t 49], (some (46, false)), [7, 4]⟩,
       ⟨(some 51), .call, [.t 47, .t 48, .t 50], (some (46, false)), [5, 6, 8, 4, 4]⟩,
       ⟨(some 52), .pick, [.t 46, .c (.bool true), .t 51], none, [4, 9]⟩] false)
     (.cond (.t 52)
      (.region [⟨(some 53), .mov, [.t 17], none, []⟩,
        ⟨(some 54), (.load false 1), [.t 13], none, []⟩,
        ⟨(some 55), .mov, [.t 16], none, []⟩,
        ⟨(some 56), (.build [(.imm (.int .i64 0)), (.imm (.int .i64 0)), (.imm (.int .i64 0))] [(0, 1), (1, 1), (2, 1)]), [.t 53, .t 54, .t 55], none, [0, 1, 2]⟩,
        ⟨none, (.store 3), [.t 12, .t 56], none, [3, 0, 1, 2, 3]⟩] false)
      .skip))))
  (.keep [6, 7, 12, 13, 35, 36, 37] [6, 7, 8, 12, 13] b112k0))
def b112l0 : DCode := .keep [6, 7, 12, 13, 35, 36, 37] [6, 7, 8, 12, 13]
  (.seq
   (.region [⟨(some 38), (.bin .lss), [.t 37, .t 36], none, []⟩] false)
   (.seq
    (.cond (.t 38)
     .skip
     (.exit 2))
    (.keep [6, 7, 12, 13, 35, 36, 37] [6, 7, 8, 12, 13] b112k1)))
def b112k2 : DCode :=
 (.seq
  (.region [⟨(some 58), (.load false 1), [.t 13], none, []⟩,
    ⟨(some 59), (.bin .add), [.t 58, .c (.int .i64 1)], none, [0]⟩,
    ⟨none, (.store 1), [.t 13, .t 59], none, [1, 0, 1]⟩] false)
  (.seq
   (.region [⟨(some 60), (.load false 1), [.t 13], none, []⟩,
     ⟨(some 61), (.load false 1), [.t 6], none, []⟩,
     ⟨(some 62), (.bin .eql), [.t 60, .t 61], none, [0, 1]⟩] false)
   (.cond (.t 62)
    (.exit 0)
    .skip)))
def b112a1 : DCode :=
 (.region [⟨(some 15), (.alloc [(.imm (.slc 1 [])), (.imm (.slc 1 [])), (.imm (.slc 1 []))]), [], none, []⟩,
   ⟨none, (.store 3), [.t 15, .t 33], none, [0, 0]⟩] false)
def b112r1 : DCode :=
 (.block 1
  (.seq
   (.seq
    (.region [⟨(some 34), (.load true 3), [.t 15], none, []⟩,
      ⟨(some 35), .call, [.f 126, .t 34], none, [0]⟩,
      ⟨(some 36), .len, [.t 35], none, [1]⟩,
      ⟨(some 37), .mov, [.c (.int .i64 0)], none, []⟩] false)
    (.block 2
     (.loop b112l0)))
   (.keep [6, 13] [6, 7, 8, 12, 13] b112k2)))
def b112k3 : DCode :=
 (.seq
  (.region [⟨(some 63), (.load true 3), [.t 12], none, []⟩,
    ⟨none, (.store 3), [.t 8, .t 63], none, [0, 0]⟩,
    ⟨(some 9), .mov, [.c (.int .i64 0)], none, [1, 0, 1]⟩] false)
  .ret)
def b112k4 : DCode :=
 (.seq
  (.region [⟨(some 12), (.alloc [(.imm (.int .i64 0)), (.imm (.int .i64 0)), (.imm (.int .i64 0))]), [], none, []⟩] false)
  (.seq
   (.region [⟨(some 13), (.alloc [(.imm (.int .i64 0))]), [], none, []⟩,
     ⟨none, (.store 1), [.t 13, .c (.int .i64 0)], none, [0, 0]⟩] false)
   (.seq
    (.seq
     (.region [⟨(some 29), (.load true 4), [.t 10], none, []⟩,
       ⟨(some 30), .movv, [.t 1], none, []⟩,
       ⟨(some 31), .call, [.f 96, .t 29, .t 30], none, [0, 1]⟩] false)
     (.block 0
      (.rangeF (.t 31) [32, 33] [6, 7, 8, 12, 13] [6, 7, 8, 12, 13] [] [6, 7, 8, 12, 13] b112a1 b112r1)))
    (.keep [8, 12] [8, 12] b112k3))))
def b112 : DCode :=
 (.seq
  (.region [⟨(some 4), .box, [.t 0], none, []⟩,
    ⟨(some 6), .box, [.t 2], none, []⟩,
    ⟨(some 7), .box, [.t 3], none, []⟩,
    ⟨(some 8), (.alloc [(.imm (.int .i64 0)), (.imm (.int .i64 0)), (.imm (.int .i64 0))]), [], none, []⟩,
    ⟨(some 9), .mov, [.c (.int .i64 0)], none, []⟩] false)
  (.seq
   (.region [⟨(some 19), (.load true 2), [.t 4], none, []⟩,
     ⟨(some 20), .movv, [.t 1], none, []⟩,
     ⟨(some 21), (.load false 1), [.t 6], none, []⟩,
     ⟨(some 22), .call, [.f 95, .t 19, .t 20, .t 21], none, [0, 1, 2]⟩,
     ⟨(some 18), .mov, [.t 22], none, [3]⟩,
     ⟨(some 23), (.ext 0), [.t 18], none, [4]⟩,
     ⟨(some 24), (.ext 1), [.t 18], none, [4]⟩,
     ⟨(some 10), (.alloc [(.imm (.slc 2 [])), (.imm (.slc 1 [])), (.imm (.slc 1 [])), (.imm (.int .i64 0))]), [], none, []⟩,
     ⟨none, (.store 4), [.t 10, .t 23], none, [7, 5, 3, 0, 1, 2, 3, 4, 5, 7]⟩,
     ⟨(some 11), .mov, [.t 24], none, [6, 8, 0, 1, 2, 3, 4, 5, 6, 7, 8]⟩] false)
   (.seq
    (.seq
     (.region [⟨(some 25), .mov, [.t 11], none, []⟩,
       ⟨(some 26), (.bin .neq), [.t 25, .c (.int .i64 0)], none, [0]⟩] false)
     (.cond (.t 26)
      (.seq
       (.region [⟨(some 27), (.build [(.imm (.int .i64 0)), (.imm (.int .i64 0)), (.imm (.int .i64 0))] []), [], none, []⟩,
         ⟨(some 28), .mov, [.t 11], none, []⟩,
         ⟨none, (.store 3), [.t 8, .t 27], none, [0, 0]⟩,
         ⟨(some 9), .mov, [.t 28], none, [1, 2, 0, 1, 2]⟩] false)
       .ret)
      .skip))
    (.keep [1, 6, 7, 8, 10] [6, 7, 8, 10] b112k4))))
def d112 : DFn := ⟨4, 64, [.cell 8 true 3, .tmp 9], b112⟩
theorem body112 : d112.body = b112 := rfl
theorem res112 : d112.res = [.cell 8 true 3, .tmp 9] := rfl
theorem k112 : chkFn Try.prog Try.f112 d112 = true := by kernel_rfl

/-- guidevane/wave.HighestOf -/
def b57 : DCode :=
 (.seq
  (.region [⟨(some 3), .box, [.t 0], none, []⟩,
    ⟨(some 6), (.alloc [(.imm (.int .i64 0)), (.imm (.int .i64 0)), (.imm (.int .i64 0))]), [], none, []⟩,
    ⟨(some 7), .mov, [.c (.int .i64 0)], none, []⟩] false)
  (.seq
   (.region [⟨(some 8), (.load true 2), [.t 3], none, []⟩,
     ⟨(some 9), .movv, [.t 1], none, []⟩,
     ⟨(some 10), .mov, [.t 2], none, []⟩,
     ⟨(some 11), .call, [.f 112, .t 8, .t 9, .t 10, .f 113], none, [0, 1, 2]⟩,
     ⟨(some 12), (.ext 0), [.t 11], none, [3]⟩,
     ⟨(some 13), (.ext 1), [.t 11], none, [3]⟩,
     ⟨none, (.store 3), [.t 6, .t 12], none, [4, 3, 0, 1, 2, 3, 4, 5]⟩,
     ⟨(some 7), .mov, [.t 13], none, [5, 6, 0, 1, 2, 3, 4, 5, 6]⟩] false)
   .ret))
def d57 : DFn := ⟨3, 14, [.cell 6 true 3, .tmp 7], b57⟩
theorem body57 : d57.body = b57 := rfl
theorem res57 : d57.res = [.cell 6 true 3, .tmp 7] := rfl
theorem k57 : chkFn Try.prog Try.f57 d57 = true := by kernel_rfl

/-- guidevane/wave.HighestOf$1 -/
def b113 : DCode :=
 (.seq
  (.region [⟨(some 4), .mov, [.c (.bool false)], none, []⟩] false)
  (.seq
   (.region [⟨(some 5), .mov, [.t 0], none, []⟩,
     ⟨(some 6), .mov, [.t 1], none, []⟩,
     ⟨(some 7), (.bin .gtr), [.t 5, .t 6], none, [0, 1]⟩,
     ⟨(some 4), .mov, [.t 7], none, [2, 0, 1, 2]⟩] false)
   .ret))
def d113 : DFn := ⟨2, 8, [.tmp 4], b113⟩
theorem body113 : d113.body = b113 := rfl
theorem res113 : d113.res = [.tmp 4] := rfl
theorem k113 : chkFn Try.prog Try.f113 d113 = true := by kernel_rfl

/-- guidevane/wave.LowestOf -/
def b58 : DCode :=
 (.seq
  (.region [⟨(some 3), .box, [.t 0], none, []⟩,
    ⟨(some 6), (.alloc [(.imm (.int .i64 0)), (.imm (.int .i64 0)), (.imm (.int .i64 0))]), [], none, []⟩,
    ⟨(some 7), .mov, [.c (.int .i64 0)], none, []⟩] false)
  (.seq
   (.region [⟨(some 8), (.load true 2), [.t 3], none, []⟩,
     ⟨(some 9), .movv, [.t 1], none, []⟩,
     ⟨(some 10), .mov, [.t 2], none, []⟩,
     ⟨(some 11), .call, [.f 112, .t 8, .t 9, .t 10, .f 114], none, [0, 1, 2]⟩,
     ⟨(some 12), (.ext 0), [.t 11], none, [3]⟩,
     ⟨(some 13), (.ext 1), [.t 11], none, [3]⟩,
     ⟨none, (.store 3), [.t 6, .t 12], none, [4, 3, 0, 1, 2, 3, 4, 5]⟩,
     ⟨(some 7), .mov, [.t 13], none, [5, 6, 0, 1, 2, 3, 4, 5, 6]⟩] false)
   .ret))
def d58 : DFn := ⟨3, 14, [.cell 6 true 3, .tmp 7], b58⟩
theorem body58 : d58.body = b58 := rfl
theorem res58 : d58.res = [.cell 6 true 3, .tmp 7] := rfl
theorem k58 : chkFn Try.prog Try.f58 d58 = true := by kernel_rfl

/-- guidevane/wave.LowestOf$1 -/
def b114 : DCode :=
 (.seq
  (.region [⟨(some 4), .mov, [.c (.bool false)], none, []⟩] false)
  (.seq
   (.region [⟨(some 5), .mov, [.t 0], none, []⟩,
     ⟨(some 6), .mov, [.t 1], none, []⟩,
     ⟨(some 7), (.bin .lss), [.t 5, .t 6], none, [0, 1]⟩,
     ⟨(some 4), .mov, [.t 7], none, [2, 0, 1, 2]⟩] false)
   .ret))
def d114 : DFn := ⟨2, 8, [.tmp 4], b114⟩
theorem body114 : d114.body = b114 := rfl
theorem res114 : d114.res = [.tmp 4] := rfl
theorem k114 : chkFn Try.prog Try.f114 d114 = true := by kernel_rfl

end Go.DI

