/- The functions of the lakes, as data. No condition. -/
import Derived.Test.YtbmlfeikdhpdfaaJd
import Derived.Test.YtbmlfeikdhpdfaaProg
import Derived.KernelRfl
/- The functions of the lakes, of their reference and of the statements, as data. No condition. -/
namespace Go.DI
open Go.Proofs Go.RowKit
/-- guidevane/lake.Usable -/
def b17k0 : DCode :=
 (.seq
  (.region [⟨(some 20), (.faddr 0 true 2), [.t 6], none, []⟩,
    ⟨(some 21), (.iarr 2 1 true), [.t 20, .c (.int .i64 0)], none, [0]⟩,
    ⟨(some 22), (.loadf true 1 [6]), [.t 21], none, [1]⟩,
    ⟨(some 23), (.faddr 0 true 2), [.t 6], none, []⟩,
    ⟨(some 24), (.iarr 2 1 true), [.t 23, .c (.int .i64 1)], none, [3]⟩,
    ⟨(some 25), (.loadf true 1 [6]), [.t 24], none, [4]⟩,
    ⟨(some 8), (.alloc [(.imm (.slc 2 []))]), [], none, []⟩,
    ⟨(some 9), (.alloc [(.imm (.slc 2 []))]), [], none, []⟩,
    ⟨none, (.storef 1 [8]), [.t 8, .t 22], none, [6, 2, 0, 1, 2, 6, 7]⟩,
    ⟨none, (.storef 1 [9]), [.t 9, .t 25], none, [7, 5, 8, 0, 1, 2, 3, 4, 5, 6, 7, 8]⟩] true)
  (.seq
   (.region [⟨(some 26), (.faddr 0 false 1), [.t 3], none, []⟩,
     ⟨(some 27), (.load false 1), [.t 26], none, [0]⟩,
     ⟨(some 28), (.load true 1), [.t 8], none, []⟩,
     ⟨(some 29), .call, [.f 62, .t 28], none, [2]⟩,
     ⟨(some 30), (.field 1 false 1), [.t 29], none, [3]⟩,
     ⟨(some 31), (.bin .sub), [.t 27, .t 30], none, [1, 4]⟩,
     ⟨(some 32), (.load true 1), [.t 9], none, []⟩,
     ⟨(some 33), .call, [.f 63, .t 32], none, [6, 3]⟩,
     ⟨(some 34), (.field 1 false 1), [.t 33], none, [7]⟩,
     ⟨(some 35), (.faddr 1 false 1), [.t 3], none, []⟩,
     ⟨(some 36), (.load false 1), [.t 35], none, [9]⟩,
     ⟨(some 37), (.bin .sub), [.t 34, .t 36], none, [8, 10]⟩,
     ⟨(some 38), (.mm false), [.t 31, .t 37], none, [5, 11]⟩,
     ⟨(some 39), (.faddr 1 false 1), [.t 3], none, []⟩,
     ⟨(some 40), (.load false 1), [.t 39], none, [13]⟩,
     ⟨(some 41), (.load true 1), [.t 9], none, []⟩,
     ⟨(some 42), .call, [.f 62, .t 41], none, [15, 7]⟩,
     ⟨(some 43), (.field 1 false 1), [.t 42], none, [16]⟩,
     ⟨(some 44), (.bin .sub), [.t 40, .t 43], none, [14, 17]⟩,
     ⟨(some 45), (.load true 1), [.t 8], none, []⟩,
     ⟨(some 46), .call, [.f 63, .t 45], none, [19, 16]⟩,
     ⟨(some 47), (.field 1 false 1), [.t 46], none, [20]⟩,
     ⟨(some 48), (.faddr 0 false 1), [.t 3], none, []⟩,
     ⟨(some 49), (.load false 1), [.t 48], none, [22]⟩,
     ⟨(some 50), (.bin .sub), [.t 47, .t 49], none, [21, 23]⟩,
     ⟨(some 51), (.mm false), [.t 44, .t 50], none, [18, 24]⟩,
     ⟨(some 52), (.build [(.imm (.int .i64 0)), (.imm (.int .i64 0))] [(0, 1), (1, 1)]), [.t 38, .t 51], none, [12, 25]⟩,
     ⟨none, (.store 2), [.t 4, .t 52], none, [26, 20, 0, 1, 2, 3, 4, 5, 6, 7, 8, 9, 10, 11, 12, 13, 14, 15, 16, 17, 18, 19, 20, 21, 22, 23, 24, 25, 26]⟩,
     ⟨(some 5), .mov, [.c (.int .i64 0)], none, [27, 0, 1, 2, 3, 4, 5, 6, 7, 8, 9, 10, 11, 12, 13, 14, 15, 16, 17, 18, 19, 20, 21, 22, 23, 24, 25, 26, 27]⟩] true)
   .ret))
def b17 : DCode :=
 (.seq
  (.region [⟨(some 2), .box, [.t 0], none, []⟩,
    ⟨(some 3), .box, [.t 1], none, []⟩,
    ⟨(some 4), (.alloc [(.imm (.int .i64 0)), (.imm (.int .i64 0))]), [], none, []⟩,
    ⟨(some 5), .mov, [.c (.int .i64 0)], none, []⟩] false)
  (.seq
   (.region [⟨(some 11), (.load true 3), [.t 2], none, []⟩,
     ⟨(some 12), (.load true 2), [.t 3], none, []⟩,
     ⟨(some 13), .call, [.f 61, .t 11, .t 12], none, [0, 1]⟩,
     ⟨(some 10), .mov, [.t 13], none, [2]⟩,
     ⟨(some 14), (.ext 0), [.t 10], none, [3]⟩,
     ⟨(some 15), (.ext 1), [.t 10], none, [3]⟩,
     ⟨(some 6), (.alloc [(.imm (.slc 2 [])), (.imm (.slc 2 [])), (.imm (.int .i64 0))]), [], none, []⟩,
     ⟨none, (.store 3), [.t 6, .t 14], none, [6, 4, 2, 0, 1, 2, 3, 4, 6]⟩,
     ⟨(some 7), .mov, [.t 15], none, [5, 7, 0, 1, 2, 3, 4, 5, 6, 7]⟩] false)
   (.seq
    (.seq
     (.region [⟨(some 16), .mov, [.t 7], none, []⟩,
       ⟨(some 17), (.bin .neq), [.t 16, .c (.int .i64 0)], none, [0]⟩] false)
     (.cond (.t 17)
      (.seq
       (.region [⟨(some 18), (.build [(.imm (.int .i64 0)), (.imm (.int .i64 0))] []), [], none, []⟩,
         ⟨(some 19), .mov, [.t 7], none, []⟩,
         ⟨none, (.store 2), [.t 4, .t 18], none, [0, 0]⟩,
         ⟨(some 5), .mov, [.t 19], none, [1, 2, 0, 1, 2]⟩] false)
       .ret)
      .skip))
    (.keep [3, 4, 6] [3, 4, 6] b17k0))))
def d17 : DFn := ⟨2, 53, [.cell 4 true 2, .tmp 5], b17⟩
theorem body17 : d17.body = b17 := rfl
theorem res17 : d17.res = [.cell 4 true 2, .tmp 5] := rfl
theorem k17 : chkFn Try.prog Try.f17 d17 = true := by kernel_rfl

/-- guidevane/lake.Step -/
def b18k0 : DCode :=
 (.seq
  (.region [⟨(some 31), (.load true 3), [.t 9], none, []⟩,
    ⟨(some 32), (.load true 2), [.t 4], none, []⟩,
    ⟨(some 33), (.load true 3), [.t 5], none, []⟩,
    ⟨(some 34), .call, [.f 66, .t 31, .t 32, .t 33], none, [0, 1, 2]⟩,
    ⟨(some 30), .mov, [.t 34], none, [3]⟩,
    ⟨(some 35), (.ext 0), [.t 30], none, [4]⟩,
    ⟨(some 36), (.ext 1), [.t 30], none, [4]⟩,
    ⟨(some 37), (.ext 2), [.t 30], none, [4]⟩,
    ⟨(some 11), (.alloc [(.imm (.int .i64 0)), (.imm (.int .i64 0))]), [], none, []⟩,
    ⟨(some 12), (.alloc [(.imm (.int .i64 0)), (.imm (.int .i64 0))]), [], none, []⟩,
    ⟨none, (.store 2), [.t 11, .t 35], none, [8, 5, 3, 0, 1, 2, 3, 4, 5, 8, 9]⟩,
    ⟨none, (.store 2), [.t 12, .t 36], none, [9, 6, 10, 0, 1, 2, 3, 4, 5, 6, 8, 9, 10]⟩,
    ⟨(some 13), .mov, [.t 37], none, [7, 11, 0, 1, 2, 3, 4, 5, 6, 7, 8, 9, 10, 11]⟩] false)
  (.seq
   (.region [⟨(some 38), (.loadf true 2 [11]), [.t 11], none, []⟩,
     ⟨(some 39), (.loadf true 2 [12]), [.t 12], none, []⟩,
     ⟨(some 40), .mov, [.t 13], none, []⟩,
     ⟨(some 41), .call, [.f 67, .t 40, .c (.int .i64 22)], none, [2]⟩,
     ⟨none, (.storef 2 [6]), [.t 6, .t 38], none, [0, 3, 0]⟩,
     ⟨none, (.storef 2 [7]), [.t 7, .t 39], none, [1, 4, 0, 1, 4]⟩,
     ⟨(some 8), .mov, [.t 41], none, [3, 5, 0, 1, 2, 3, 4, 5]⟩] true)
   .ret))
def b18 : DCode :=
 (.seq
  (.region [⟨(some 3), .box, [.t 0], none, []⟩,
    ⟨(some 4), .box, [.t 1], none, []⟩,
    ⟨(some 5), .box, [.t 2], none, []⟩,
    ⟨(some 6), (.alloc [(.imm (.int .i64 0)), (.imm (.int .i64 0))]), [], none, []⟩,
    ⟨(some 7), (.alloc [(.imm (.int .i64 0)), (.imm (.int .i64 0))]), [], none, []⟩,
    ⟨(some 8), .mov, [.c (.int .i64 0)], none, []⟩] false)
  (.seq
   (.region [⟨(some 15), (.load true 3), [.t 3], none, []⟩,
     ⟨(some 16), (.load true 2), [.t 4], none, []⟩,
     ⟨(some 17), .call, [.f 61, .t 15, .t 16], none, [0, 1]⟩,
     ⟨(some 14), .mov, [.t 17], none, [2]⟩,
     ⟨(some 18), (.ext 0), [.t 14], none, [3]⟩,
     ⟨(some 19), (.ext 1), [.t 14], none, [3]⟩,
     ⟨(some 9), (.alloc [(.imm (.slc 2 [])), (.imm (.slc 2 [])), (.imm (.int .i64 0))]), [], none, []⟩,
     ⟨none, (.store 3), [.t 9, .t 18], none, [6, 4, 2, 0, 1, 2, 3, 4, 6]⟩,
     ⟨(some 10), .mov, [.t 19], none, [5, 7, 0, 1, 2, 3, 4, 5, 6, 7]⟩] false)
   (.seq
    (.seq
     (.region [⟨(some 20), .mov, [.t 10], none, []⟩,
       ⟨(some 21), (.load true 3), [.t 5], none, []⟩,
       ⟨(some 22), .call, [.f 65, .t 21], none, [1]⟩,
       ⟨(some 23), (.bsl 1), [.t 20, .t 22], none, [0, 2]⟩,
       ⟨(some 24), .call, [.f 64, .t 23], none, [3, 2]⟩,
       ⟨(some 10), .mov, [.t 24], none, [4, 4, 0, 1, 2, 3, 4]⟩] false)
     (.seq
      (.region [⟨(some 25), .mov, [.t 10], none, []⟩,
        ⟨(some 26), (.bin .neq), [.t 25, .c (.int .i64 0)], none, [0]⟩] false)
      (.cond (.t 26)
       (.seq
        (.region [⟨(some 27), (.build [(.imm (.int .i64 0)), (.imm (.int .i64 0))] []), [], none, []⟩,
          ⟨(some 28), (.build [(.imm (.int .i64 0)), (.imm (.int .i64 0))] []), [], none, []⟩,
          ⟨(some 29), .mov, [.t 10], none, []⟩,
          ⟨none, (.store 2), [.t 6, .t 27], none, [0, 0]⟩,
          ⟨none, (.store 2), [.t 7, .t 28], none, [1, 3, 0, 1, 3]⟩,
          ⟨(some 8), .mov, [.t 29], none, [2, 4, 0, 1, 2, 3, 4]⟩] false)
        .ret)
       .skip)))
    (.keep [4, 5, 6, 7, 9] [4, 5, 6, 7, 9] b18k0))))
def d18 : DFn := ⟨3, 42, [.cell 6 true 2, .cell 7 true 2, .tmp 8], b18⟩
theorem body18 : d18.body = b18 := rfl
theorem res18 : d18.res = [.cell 6 true 2, .cell 7 true 2, .tmp 8] := rfl
theorem k18 : chkFn Try.prog Try.f18 d18 = true := by kernel_rfl

/-- guidevane/lake.CheckPair -/
def b19 : DCode :=
 (.seq
  (.region [⟨(some 1), .box, [.t 0], none, []⟩,
    ⟨(some 2), .mov, [.c (.int .i64 0)], none, []⟩] false)
  (.seq
   (.region [⟨(some 3), (.faddr 0 true 1), [.t 1], none, []⟩,
     ⟨(some 4), (.load true 1), [.t 3], none, [0]⟩,
     ⟨(some 5), .call, [.f 68, .t 4], none, [1]⟩,
     ⟨(some 6), (.faddr 1 true 1), [.t 1], none, []⟩,
     ⟨(some 7), (.load true 1), [.t 6], none, [3]⟩,
     ⟨(some 8), .call, [.f 68, .t 7], none, [4, 2]⟩,
     ⟨(some 9), (.faddr 2 false 1), [.t 1], none, []⟩,
     ⟨(some 10), (.load false 1), [.t 9], none, [6]⟩,
     ⟨(some 11), .call, [.f 69, .t 10, .c (.int .i64 0), .c (.int .i64 1000)], none, [7, 5]⟩,
     ⟨(some 12), .call, [.f 67, .t 11, .c (.int .i64 2)], none, [8, 8]⟩,
     ⟨(some 13), (.bsl 1), [.t 5, .t 8, .t 12], none, [2, 5, 9]⟩,
     ⟨(some 14), .call, [.f 64, .t 13], none, [10, 9]⟩,
     ⟨(some 2), .mov, [.t 14], none, [11, 11, 0, 1, 2, 3, 4, 5, 6, 7, 8, 9, 10, 11]⟩] true)
   .ret))
def d19 : DFn := ⟨1, 15, [.tmp 2], b19⟩
theorem body19 : d19.body = b19 := rfl
theorem res19 : d19.res = [.tmp 2] := rfl
theorem k19 : chkFn Try.prog Try.f19 d19 = true := by kernel_rfl

/-- guidevane/lake.CheckState -/
def b21 : DCode :=
 (.seq
  (.region [⟨(some 2), .box, [.t 0], none, []⟩,
    ⟨(some 3), .box, [.t 1], none, []⟩,
    ⟨(some 4), .mov, [.c (.int .i64 0)], none, []⟩] false)
  (.seq
   (.region [⟨(some 8), (.load true 3), [.t 2], none, []⟩,
     ⟨(some 9), (.load true 2), [.t 3], none, []⟩,
     ⟨(some 10), .call, [.f 61, .t 8, .t 9], none, [0, 1]⟩,
     ⟨(some 7), .mov, [.t 10], none, [2]⟩,
     ⟨(some 11), (.ext 0), [.t 7], none, [3]⟩,
     ⟨(some 12), (.ext 1), [.t 7], none, [3]⟩,
     ⟨(some 5), (.alloc [(.imm (.slc 2 [])), (.imm (.slc 2 [])), (.imm (.int .i64 0))]), [], none, []⟩,
     ⟨none, (.store 3), [.t 5, .t 11], none, [6, 4, 2, 0, 1, 2, 3, 4, 6]⟩,
     ⟨(some 6), .mov, [.t 12], none, [5, 7, 0, 1, 2, 3, 4, 5, 6, 7]⟩] false)
   (.seq
    (.region [⟨(some 13), .mov, [.t 6], none, []⟩,
      ⟨(some 4), .mov, [.t 13], none, [0, 0]⟩] false)
    .ret)))
def d21 : DFn := ⟨2, 14, [.tmp 4], b21⟩
theorem body21 : d21.body = b21 := rfl
theorem res21 : d21.res = [.tmp 4] := rfl
theorem k21 : chkFn Try.prog Try.f21 d21 = true := by kernel_rfl

/-- guidevane/lake.AgreedOf -/
def b27k0 : DCode :=
 (.seq
  (.region [⟨(some 31), (.load true 2), [.t 10], none, []⟩,
    ⟨none, (.store 2), [.t 6, .t 31], none, [0, 0]⟩,
    ⟨(some 7), .mov, [.c (.int .i64 0)], none, [1, 0, 1]⟩] false)
  .ret)
def b27k1 : DCode :=
 (.seq
  (.region [⟨(some 24), .movv, [.t 8], none, []⟩,
    ⟨(some 25), .call, [.f 73, .t 24], none, [0]⟩,
    ⟨(some 23), .mov, [.t 25], none, [1]⟩,
    ⟨(some 26), (.ext 0), [.t 23], none, [2]⟩,
    ⟨(some 27), (.ext 1), [.t 23], none, [2]⟩,
    ⟨(some 10), (.alloc [(.imm (.int .i64 0)), (.imm (.int .i64 0))]), [], none, []⟩,
    ⟨none, (.store 2), [.t 10, .t 26], none, [5, 3, 1, 0, 1, 2, 3, 5]⟩,
    ⟨(some 11), .mov, [.t 27], none, [4, 6, 0, 1, 2, 3, 4, 5, 6]⟩] false)
  (.seq
   (.seq
    (.region [⟨(some 28), .mov, [.t 11], none, []⟩,
      ⟨(some 29), (.un .not), [.t 28], none, [0]⟩] false)
    (.cond (.t 29)
     (.seq
      (.region [⟨(some 30), (.build [(.imm (.int .i64 0)), (.imm (.int .i64 0))] []), [], none, []⟩,
        ⟨none, (.store 2), [.t 6, .t 30], none, [0, 0]⟩,
        ⟨(some 7), .mov, [.c (.int .i64 13)], none, [1, 0, 1]⟩] false)
      .ret)
     .skip))
   (.keep [6, 10] [6, 10] b27k0)))
def b27 : DCode :=
 (.seq
  (.region [⟨(some 3), .box, [.t 0], none, []⟩,
    ⟨(some 6), (.alloc [(.imm (.int .i64 0)), (.imm (.int .i64 0))]), [], none, []⟩,
    ⟨(some 7), .mov, [.c (.int .i64 0)], none, []⟩] false)
  (.seq
   (.region [⟨(some 13), (.load true 1), [.t 3], none, []⟩,
     ⟨(some 14), .movv, [.t 1], none, []⟩,
     ⟨(some 15), .movv, [.t 2], none, []⟩,
     ⟨(some 16), .call, [.f 72, .t 13, .t 14, .t 15], none, [0, 1, 2]⟩,
     ⟨(some 12), .mov, [.t 16], none, [3]⟩,
     ⟨(some 17), (.ext 0), [.t 12], none, [4]⟩,
     ⟨(some 18), (.ext 1), [.t 12], none, [4]⟩,
     ⟨(some 8), .movv, [.t 17], none, [5, 3, 0, 1, 2, 3, 4, 5]⟩,
     ⟨(some 9), .mov, [.t 18], none, [6, 7, 0, 1, 2, 3, 4, 5, 6, 7]⟩] false)
   (.seq
    (.seq
     (.region [⟨(some 19), .mov, [.t 9], none, []⟩,
       ⟨(some 20), (.bin .neq), [.t 19, .c (.int .i64 0)], none, [0]⟩] false)
     (.cond (.t 20)
      (.seq
       (.region [⟨(some 21), (.build [(.imm (.int .i64 0)), (.imm (.int .i64 0))] []), [], none, []⟩,
         ⟨(some 22), .mov, [.t 9], none, []⟩,
         ⟨none, (.store 2), [.t 6, .t 21], none, [0, 0]⟩,
         ⟨(some 7), .mov, [.t 22], none, [1, 2, 0, 1, 2]⟩] false)
       .ret)
      .skip))
    (.keep [6, 8] [6] b27k1))))
def d27 : DFn := ⟨3, 32, [.cell 6 true 2, .tmp 7], b27⟩
theorem body27 : d27.body = b27 := rfl
theorem res27 : d27.res = [.cell 6 true 2, .tmp 7] := rfl
theorem k27 : chkFn Try.prog Try.f27 d27 = true := by kernel_rfl

/-- guidevane/lake.Contradicting -/
def b31k0 : DCode :=
 (.region [⟨(some 47), (.bin .add), [.t 32, .c (.int .i64 1)], none, []⟩,
   ⟨(some 32), .mov, [.t 47], none, [0]⟩] false)
def b31k1 : DCode :=
 (.seq
  (.block 1
   (.seq
    (.region [⟨(some 34), .mov, [.t 32], none, []⟩,
      ⟨(some 35), (.iaddr 2), [.t 30, .t 32], none, []⟩,
      ⟨(some 36), (.load true 2), [.t 35], none, [1]⟩,
      ⟨(some 11), (.alloc [(.imm (.int .i64 0)), (.imm (.int .i64 0))]), [], none, []⟩,
      ⟨(some 10), .mov, [.t 34], none, [0, 0, 1, 2, 3]⟩,
      ⟨none, (.store 2), [.t 11, .t 36], none, [3, 2, 4, 0, 1, 2, 3, 4]⟩] false)
    (.seq
     (.region [⟨(some 38), (.load true 2), [.t 11], none, []⟩,
       ⟨(some 39), (.bsl 2), [.t 38], none, [0]⟩,
       ⟨(some 40), .call, [.f 73, .t 39], none, [1]⟩,
       ⟨(some 37), .mov, [.t 40], none, [2]⟩,
       ⟨(some 41), (.ext 0), [.t 37], none, [3]⟩,
       ⟨(some 42), (.ext 1), [.t 37], none, [3]⟩,
       ⟨(some 12), (.alloc [(.imm (.int .i64 0)), (.imm (.int .i64 0))]), [], none, []⟩,
       ⟨none, (.store 2), [.t 12, .t 41], none, [6, 4, 2, 0, 1, 2, 3, 4, 6]⟩,
       ⟨(some 13), .mov, [.t 42], none, [5, 7, 0, 1, 2, 3, 4, 5, 6, 7]⟩] false)
     (.seq
      (.region [⟨(some 43), .mov, [.t 13], none, []⟩,
        ⟨(some 44), (.un .not), [.t 43], none, [0]⟩] false)
      (.cond (.t 44)
       (.seq
        (.region [⟨(some 45), .mov, [.t 10], none, []⟩,
          ⟨(some 46), (.bsl 1), [.t 45], none, [0]⟩,
          ⟨(some 6), .movv, [.t 46], none, [1, 0, 1]⟩,
          ⟨(some 7), .mov, [.c (.int .i64 0)], none, [2, 0, 1, 2]⟩] false)
        .ret)
       .skip)))))
  (.keep [8, 30, 31, 32] [] b31k0))
def b31l0 : DCode := .keep [8, 30, 31, 32] []
  (.seq
   (.region [⟨(some 33), (.bin .lss), [.t 32, .t 31], none, []⟩] false)
   (.seq
    (.cond (.t 33)
     .skip
     (.exit 0))
    (.keep [8, 30, 31, 32] [] b31k1)))
def b31k2 : DCode :=
 (.region [⟨(some 80), (.bin .add), [.t 60, .c (.int .i64 1)], none, []⟩,
   ⟨(some 60), .mov, [.t 80], none, [0]⟩] false)
def b31k3 : DCode :=
 (.seq
  (.block 5
   (.seq
    (.region [⟨(some 62), .mov, [.t 60], none, []⟩,
      ⟨(some 63), (.iaddr 2), [.t 58, .t 60], none, []⟩,
      ⟨(some 64), (.load true 2), [.t 63], none, [1]⟩,
      ⟨(some 17), (.alloc [(.imm (.int .i64 0)), (.imm (.int .i64 0))]), [], none, []⟩,
      ⟨(some 16), .mov, [.t 62], none, [0, 0, 1, 2, 3]⟩,
      ⟨none, (.store 2), [.t 17, .t 64], none, [3, 2, 4, 0, 1, 2, 3, 4]⟩] false)
    (.seq
     (.region [⟨(some 66), (.load true 2), [.t 15], none, []⟩,
       ⟨(some 67), (.load true 2), [.t 17], none, []⟩,
       ⟨(some 68), (.bsl 2), [.t 66, .t 67], none, [0, 1]⟩,
       ⟨(some 69), .call, [.f 73, .t 68], none, [2]⟩,
       ⟨(some 65), .mov, [.t 69], none, [3]⟩,
       ⟨(some 70), (.ext 0), [.t 65], none, [4]⟩,
       ⟨(some 71), (.ext 1), [.t 65], none, [4]⟩,
       ⟨(some 18), (.alloc [(.imm (.int .i64 0)), (.imm (.int .i64 0))]), [], none, []⟩,
       ⟨none, (.store 2), [.t 18, .t 70], none, [7, 5, 3, 0, 1, 2, 3, 4, 5, 7]⟩,
       ⟨(some 19), .mov, [.t 71], none, [6, 8, 0, 1, 2, 3, 4, 5, 6, 7, 8]⟩] false)
     (.seq
      (.region [⟨(some 72), .mov, [.t 19], none, []⟩,
        ⟨(some 73), (.un .not), [.t 72], none, [0]⟩] false)
      (.cond (.t 73)
       (.seq
        (.region [⟨(some 74), .mov, [.t 14], none, []⟩,
          ⟨(some 75), .mov, [.t 14], none, []⟩,
          ⟨(some 76), (.bin .add), [.t 75, .c (.int .i64 1)], none, [1]⟩,
          ⟨(some 77), .mov, [.t 16], none, []⟩,
          ⟨(some 78), (.bin .add), [.t 76, .t 77], none, [2, 3]⟩,
          ⟨(some 79), (.bsl 1), [.t 74, .t 78], none, [0, 4]⟩,
          ⟨(some 6), .movv, [.t 79], none, [5, 0, 1, 2, 3, 4, 5]⟩,
          ⟨(some 7), .mov, [.c (.int .i64 0)], none, [6, 0, 1, 2, 3, 4, 5, 6]⟩] false)
        .ret)
       .skip)))))
  (.keep [8, 14, 15, 48, 49, 50, 58, 59, 60] [15] b31k2))
def b31l1 : DCode := .keep [8, 14, 15, 48, 49, 50, 58, 59, 60] [15]
  (.seq
   (.region [⟨(some 61), (.bin .lss), [.t 60, .t 59], none, []⟩] false)
   (.seq
    (.cond (.t 61)
     .skip
     (.exit 4))
    (.keep [8, 14, 15, 48, 49, 50, 58, 59, 60] [15] b31k3)))
def b31k4 : DCode :=
 (.region [⟨(some 81), (.bin .add), [.t 50, .c (.int .i64 1)], none, []⟩,
   ⟨(some 50), .mov, [.t 81], none, [0]⟩] false)
def b31k5 : DCode :=
 (.seq
  (.block 3
   (.seq
    (.region [⟨(some 52), .mov, [.t 50], none, []⟩,
      ⟨(some 53), (.iaddr 2), [.t 48, .t 50], none, []⟩,
      ⟨(some 54), (.load true 2), [.t 53], none, [1]⟩,
      ⟨(some 15), (.alloc [(.imm (.int .i64 0)), (.imm (.int .i64 0))]), [], none, []⟩,
      ⟨(some 14), .mov, [.t 52], none, [0, 0, 1, 2, 3]⟩,
      ⟨none, (.store 2), [.t 15, .t 54], none, [3, 2, 4, 0, 1, 2, 3, 4]⟩] false)
    (.seq
     (.region [⟨(some 55), .movv, [.t 8], none, []⟩,
       ⟨(some 56), .mov, [.t 14], none, []⟩,
       ⟨(some 57), (.bin .add), [.t 56, .c (.int .i64 1)], none, [1]⟩,
       ⟨(some 58), (.slice 2 true false), [.t 55, .t 57], none, [0, 2]⟩,
       ⟨(some 59), .len, [.t 58], none, [3]⟩,
       ⟨(some 60), .mov, [.c (.int .i64 0)], none, []⟩] false)
     (.block 4
      (.loop b31l1)))))
  (.keep [8, 48, 49, 50] [] b31k4))
def b31l2 : DCode := .keep [8, 48, 49, 50] []
  (.seq
   (.region [⟨(some 51), (.bin .lss), [.t 50, .t 49], none, []⟩] false)
   (.seq
    (.cond (.t 51)
     .skip
     (.exit 2))
    (.keep [8, 48, 49, 50] [] b31k5)))
def b31k6 : DCode :=
 (.seq
  (.region [⟨(some 6), .mov, [.c (.slc 1 [])], none, []⟩,
    ⟨(some 7), .mov, [.c (.int .i64 12)], none, [0, 0]⟩] false)
  .ret)
def b31k7 : DCode :=
 (.seq
  (.seq
   (.region [⟨(some 48), .movv, [.t 8], none, []⟩,
     ⟨(some 49), .len, [.t 48], none, [0]⟩,
     ⟨(some 50), .mov, [.c (.int .i64 0)], none, []⟩] false)
   (.block 2
    (.loop b31l2)))
  (.keep [] [] b31k6))
def b31k8 : DCode :=
 (.seq
  (.seq
   (.region [⟨(some 30), .movv, [.t 8], none, []⟩,
     ⟨(some 31), .len, [.t 30], none, [0]⟩,
     ⟨(some 32), .mov, [.c (.int .i64 0)], none, []⟩] false)
   (.block 0
    (.loop b31l0)))
  (.keep [8] [] b31k7))
def b31 : DCode :=
 (.seq
  (.region [⟨(some 3), .box, [.t 0], none, []⟩,
    ⟨(some 6), .mov, [.c (.slc 1 [])], none, []⟩,
    ⟨(some 7), .mov, [.c (.int .i64 0)], none, [1]⟩] false)
  (.seq
   (.region [⟨(some 21), (.load true 1), [.t 3], none, []⟩,
     ⟨(some 22), .movv, [.t 1], none, []⟩,
     ⟨(some 23), .movv, [.t 2], none, []⟩,
     ⟨(some 24), .call, [.f 72, .t 21, .t 22, .t 23], none, [0, 1, 2]⟩,
     ⟨(some 20), .mov, [.t 24], none, [3]⟩,
     ⟨(some 25), (.ext 0), [.t 20], none, [4]⟩,
     ⟨(some 26), (.ext 1), [.t 20], none, [4]⟩,
     ⟨(some 8), .movv, [.t 25], none, [5, 3, 0, 1, 2, 3, 4, 5]⟩,
     ⟨(some 9), .mov, [.t 26], none, [6, 7, 0, 1, 2, 3, 4, 5, 6, 7]⟩] false)
   (.seq
    (.seq
     (.region [⟨(some 27), .mov, [.t 9], none, []⟩,
       ⟨(some 28), (.bin .neq), [.t 27, .c (.int .i64 0)], none, [0]⟩] false)
     (.cond (.t 28)
      (.seq
       (.region [⟨(some 29), .mov, [.t 9], none, []⟩,
         ⟨(some 6), .mov, [.c (.slc 1 [])], none, []⟩,
         ⟨(some 7), .mov, [.t 29], none, [0, 1, 0, 1]⟩] false)
       .ret)
      .skip))
    (.keep [8] [] b31k8))))
def d31 : DFn := ⟨3, 82, [.tmp 6, .tmp 7], b31⟩
theorem body31 : d31.body = b31 := rfl
theorem res31 : d31.res = [.tmp 6, .tmp 7] := rfl
theorem k31 : chkFn Try.prog Try.f31 d31 = true := by kernel_rfl

/-- guidevane/lake.LevelAt -/
def b36k0 : DCode :=
 (.seq
  (.region [⟨(some 19), (.load true 1), [.t 6], none, []⟩,
    ⟨(some 20), .mov, [.t 1], none, []⟩,
    ⟨(some 21), .call, [.f 78, .t 19, .t 20], none, [0, 1]⟩,
    ⟨(some 8), (.alloc [(.imm (.int .i64 0)), (.imm (.int .i64 0)), (.imm (.int .i64 0))]), [], none, []⟩,
    ⟨none, (.store 3), [.t 8, .t 21], none, [3, 2, 2, 0, 1, 2, 3]⟩] false)
  (.seq
   (.region [⟨(some 22), (.faddr 0 false 1), [.t 8], none, []⟩,
     ⟨(some 23), (.load false 1), [.t 22], none, [0]⟩,
     ⟨(some 24), (.faddr 0 false 1), [.t 8], none, []⟩,
     ⟨(some 25), (.load false 1), [.t 24], none, [2]⟩,
     ⟨(some 26), (.faddr 1 false 1), [.t 8], none, []⟩,
     ⟨(some 27), (.load false 1), [.t 26], none, [4]⟩,
     ⟨(some 28), (.mm false), [.t 27, .c (.int .i64 1)], none, [5]⟩,
     ⟨(some 29), (.bin .add), [.t 25, .t 28], none, [3, 6]⟩,
     ⟨(some 30), (.build [(.imm (.int .i64 0)), (.imm (.int .i64 0))] [(0, 1), (1, 1)]), [.t 23, .t 29], none, [1, 7]⟩,
     ⟨none, (.store 2), [.t 4, .t 30], none, [8, 0, 1, 2, 3, 4, 5, 6, 7, 8]⟩,
     ⟨(some 5), .mov, [.c (.int .i64 0)], none, [9, 0, 1, 2, 3, 4, 5, 6, 7, 8, 9]⟩] false)
   .ret))
def b36 : DCode :=
 (.seq
  (.region [⟨(some 2), .box, [.t 0], none, []⟩,
    ⟨(some 4), (.alloc [(.imm (.int .i64 0)), (.imm (.int .i64 0))]), [], none, []⟩,
    ⟨(some 5), .mov, [.c (.int .i64 0)], none, []⟩] false)
  (.seq
   (.region [⟨(some 10), (.load true 1), [.t 2], none, []⟩,
     ⟨(some 11), .mov, [.t 1], none, []⟩,
     ⟨(some 12), .call, [.f 77, .t 10, .t 11], none, [0, 1]⟩,
     ⟨(some 9), .mov, [.t 12], none, [2]⟩,
     ⟨(some 13), (.ext 0), [.t 9], none, [3]⟩,
     ⟨(some 14), (.ext 1), [.t 9], none, [3]⟩,
     ⟨(some 6), (.alloc [(.imm (.slc 2 []))]), [], none, []⟩,
     ⟨none, (.store 1), [.t 6, .t 13], none, [6, 4, 2, 0, 1, 2, 3, 4, 6]⟩,
     ⟨(some 7), .mov, [.t 14], none, [5, 7, 0, 1, 2, 3, 4, 5, 6, 7]⟩] false)
   (.seq
    (.seq
     (.region [⟨(some 15), .mov, [.t 7], none, []⟩,
       ⟨(some 16), (.bin .neq), [.t 15, .c (.int .i64 0)], none, [0]⟩] false)
     (.cond (.t 16)
      (.seq
       (.region [⟨(some 17), (.build [(.imm (.int .i64 0)), (.imm (.int .i64 0))] []), [], none, []⟩,
         ⟨(some 18), .mov, [.t 7], none, []⟩,
         ⟨none, (.store 2), [.t 4, .t 17], none, [0, 0]⟩,
         ⟨(some 5), .mov, [.t 18], none, [1, 2, 0, 1, 2]⟩] false)
       .ret)
      .skip))
    (.keep [1, 4, 6] [4, 6] b36k0))))
def d36 : DFn := ⟨2, 31, [.cell 4 true 2, .tmp 5], b36⟩
theorem body36 : d36.body = b36 := rfl
theorem res36 : d36.res = [.cell 4 true 2, .tmp 5] := rfl
theorem k36 : chkFn Try.prog Try.f36 d36 = true := by kernel_rfl

/-- guidevane/lake.CheckTable -/
def b37k0 : DCode :=
 (.seq
  (.region [⟨(some 61), .mov, [.t 5], none, []⟩,
    ⟨(some 62), (.bin .gtr), [.t 61, .c (.int .i64 1)], none, [0]⟩,
    ⟨(some 63), .mov, [.t 62], none, [1]⟩,
    ⟨(some 64), (.load true 4), [.t 7], (some (63, true)), [2]⟩,
    ⟨(some 65), (.faddr 0 false 1), [.t 1], (some (63, true)), [2]⟩,
    ⟨(some 66), (.load false 1), [.t 65], (some (63, true)), [4, 2]⟩,
    ⟨(some 67), .mov, [.t 5], (some (63, true)), [2]⟩,
    ⟨(some 68), (.bin .sub), [.t 67, .c (.int .i64 2)], (some (63, true)), [6, 2]⟩,
    ⟨(some 69), (.iaddr 2), [.t 66, .t 68], (some (63, true)), [5, 7, 2]⟩,
    ⟨(some 70), (.load true 2), [.t 69], (some (63, true)), [8, 2]⟩,
    ⟨(some 71), (.faddr 0 false 1), [.t 1], (some (63, true)), [2]⟩,
    ⟨(some 72), (.load false 1), [.t 71], (some (63, true)), [10, 2]⟩,
    ⟨(some 73), .mov, [.t 5], (some (63, true)), [2]⟩,
    ⟨(some 74), (.bin .sub), [.t 73, .c (.int .i64 1)], (some (63, true)), [12, 2]⟩,
    ⟨(some 75), (.iaddr 2), [.t 72, .t 74], (some (63, true)), [11, 13, 2]⟩,
    ⟨(some 76), (.load true 2), [.t 75], (some (63, true)), [14, 2]⟩,
    ⟨(some 77), (.build [(.imm (.int .i64 0)), (.imm (.int .i64 0)), (.imm (.int .i64 0)), (.imm (.int .i64 0))] [(0, 2), (2, 2)]), [.t 70, .t 76], (some (63, true)), [9, 15, 2]⟩,
    ⟨(some 78), .call, [.f 81, .t 64, .t 77], (some (63, true)), [3, 16, 2, 2]⟩,
    ⟨(some 79), .pick, [.t 63, .t 78, .c (.bool false)], none, [2, 17]⟩] true)
  (.cond (.t 79)
   (.seq
    (.region [⟨(some 80), .mov, [.t 5], none, []⟩,
      ⟨(some 2), .mov, [.t 80], none, [0, 0]⟩,
      ⟨(some 3), .mov, [.c (.int .i64 22)], none, [1, 0, 1]⟩] false)
    .ret)
   .skip))
def b37k1 : DCode :=
 (.seq
  (.region [⟨(some 44), (.faddr 0 false 1), [.t 1], none, []⟩,
    ⟨(some 45), (.load false 1), [.t 44], none, [0]⟩,
    ⟨(some 46), .mov, [.t 5], none, []⟩,
    ⟨(some 47), (.bin .sub), [.t 46, .c (.int .i64 1)], none, [2]⟩,
    ⟨(some 48), (.iaddr 2), [.t 45, .t 47], none, [1, 3]⟩,
    ⟨(some 49), (.load true 2), [.t 48], none, [4]⟩,
    ⟨(some 50), (.load true 2), [.t 6], none, []⟩,
    ⟨(some 51), (.build [(.imm (.int .i64 0)), (.imm (.int .i64 0)), (.imm (.int .i64 0)), (.imm (.int .i64 0))] [(0, 2), (2, 2)]), [.t 49, .t 50], none, [5, 6]⟩,
    ⟨(some 7), (.alloc [(.imm (.int .i64 0)), (.imm (.int .i64 0)), (.imm (.int .i64 0)), (.imm (.int .i64 0))]), [], none, []⟩,
    ⟨none, (.store 4), [.t 7, .t 51], none, [8, 7, 0, 1, 2, 3, 4, 5, 6, 7, 8]⟩] true)
  (.seq
   (.seq
    (.region [⟨(some 52), (.load true 4), [.t 7], none, []⟩,
      ⟨(some 53), .call, [.f 79, .t 52], none, [0]⟩,
      ⟨(some 54), (.bin .leq), [.t 53, .c (.int .i64 0)], none, [1]⟩,
      ⟨(some 55), .mov, [.t 54], none, [2, 1]⟩,
      ⟨(some 56), (.load true 4), [.t 7], (some (55, false)), [3]⟩,
      ⟨(some 57), .call, [.f 80, .t 56], (some (55, false)), [4, 3, 3]⟩,
      ⟨(some 58), (.bin .leq), [.t 57, .c (.int .i64 0)], (some (55, false)), [5, 3]⟩,
      ⟨(some 59), .pick, [.t 55, .c (.bool true), .t 58], none, [3, 6]⟩] false)
    (.cond (.t 59)
     (.seq
      (.region [⟨(some 60), .mov, [.t 5], none, []⟩,
        ⟨(some 2), .mov, [.t 60], none, [0, 0]⟩,
        ⟨(some 3), .mov, [.c (.int .i64 9)], none, [1, 0, 1]⟩] false)
      .ret)
     .skip))
   (.keep [1, 5, 7, 24, 25, 26] [1, 7] b37k0)))
def b37k2 : DCode :=
 (.seq
  (.seq
   (.region [⟨(some 42), .mov, [.t 5], none, []⟩,
     ⟨(some 43), (.bin .eql), [.t 42, .c (.int .i64 0)], none, [0]⟩] false)
   (.cond (.t 43)
    (.exit 1)
    .skip))
  (.keep [1, 5, 6, 24, 25, 26] [1, 6] b37k1))
def b37k3 : DCode :=
 (.region [⟨(some 81), (.bin .add), [.t 26, .c (.int .i64 1)], none, []⟩,
   ⟨(some 26), .mov, [.t 81], none, [0]⟩] false)
def b37k4 : DCode :=
 (.seq
  (.block 1
   (.seq
    (.region [⟨(some 28), .mov, [.t 26], none, []⟩,
      ⟨(some 29), (.iaddr 2), [.t 24, .t 26], none, []⟩,
      ⟨(some 30), (.load true 2), [.t 29], none, [1]⟩,
      ⟨(some 6), (.alloc [(.imm (.int .i64 0)), (.imm (.int .i64 0))]), [], none, []⟩,
      ⟨(some 5), .mov, [.t 28], none, [0, 0, 1, 2, 3]⟩,
      ⟨none, (.store 2), [.t 6, .t 30], none, [3, 2, 4, 0, 1, 2, 3, 4]⟩] false)
    (.seq
     (.seq
      (.region [⟨(some 31), (.faddr 0 false 1), [.t 6], none, []⟩,
        ⟨(some 32), (.load false 1), [.t 31], none, [0]⟩,
        ⟨(some 33), .call, [.f 69, .t 32, .c (.int .i64 0), .c (.int .i64 1000000)], none, [1]⟩,
        ⟨(some 34), (.un .not), [.t 33], none, [2]⟩,
        ⟨(some 35), .mov, [.t 34], none, [3, 2]⟩,
        ⟨(some 36), (.faddr 1 false 1), [.t 6], (some (35, false)), [4]⟩,
        ⟨(some 37), (.load false 1), [.t 36], (some (35, false)), [5, 4]⟩,
        ⟨(some 38), .call, [.f 69, .t 37, .c (.int .i64 0), .c (.int .i64 1000000000)], (some (35, false)), [6, 4, 4]⟩,
        ⟨(some 39), (.un .not), [.t 38], (some (35, false)), [7, 4]⟩,
        ⟨(some 40), .pick, [.t 35, .c (.bool true), .t 39], none, [4, 8]⟩] false)
      (.cond (.t 40)
       (.seq
        (.region [⟨(some 41), .mov, [.t 5], none, []⟩,
          ⟨(some 2), .mov, [.t 41], none, [0, 0]⟩,
          ⟨(some 3), .mov, [.c (.int .i64 2)], none, [1, 0, 1]⟩] false)
        .ret)
       .skip))
     (.keep [1, 5, 6, 24, 25, 26] [1, 6] b37k2))))
  (.keep [1, 24, 25, 26] [1] b37k3))
def b37l0 : DCode := .keep [1, 24, 25, 26] [1]
  (.seq
   (.region [⟨(some 27), (.bin .lss), [.t 26, .t 25], none, []⟩] false)
   (.seq
    (.cond (.t 27)
     .skip
     (.exit 0))
    (.keep [1, 24, 25, 26] [1] b37k4)))
def b37k5 : DCode :=
 (.seq
  (.region [⟨(some 2), .mov, [.c (.int .i64 0)], none, []⟩,
    ⟨(some 3), .mov, [.c (.int .i64 0)], none, [0, 0]⟩] false)
  .ret)
def b37k6 : DCode :=
 (.seq
  (.seq
   (.region [⟨(some 23), (.faddr 0 false 1), [.t 1], none, []⟩,
     ⟨(some 24), (.load false 1), [.t 23], none, [0]⟩,
     ⟨(some 25), .len, [.t 24], none, [1]⟩,
     ⟨(some 26), .mov, [.c (.int .i64 0)], none, []⟩] false)
   (.block 0
    (.loop b37l0)))
  (.keep [] [] b37k5))
def b37 : DCode :=
 (.seq
  (.region [⟨(some 1), .box, [.t 0], none, []⟩,
    ⟨(some 2), .mov, [.c (.int .i64 0)], none, []⟩,
    ⟨(some 3), .mov, [.c (.int .i64 0)], none, [1]⟩] false)
  (.seq
   (.seq
    (.region [⟨(some 8), (.faddr 0 false 1), [.t 1], none, []⟩,
      ⟨(some 9), (.load false 1), [.t 8], none, [0]⟩,
      ⟨(some 10), .len, [.t 9], none, [1]⟩,
      ⟨(some 11), (.bin .gtr), [.t 10, .c (.int .i64 1)], none, [2]⟩,
      ⟨(some 12), .call, [.f 67, .t 11, .c (.int .i64 10)], none, [3]⟩,
      ⟨(some 13), (.faddr 0 false 1), [.t 1], none, []⟩,
      ⟨(some 14), (.load false 1), [.t 13], none, [5]⟩,
      ⟨(some 15), .len, [.t 14], none, [6]⟩,
      ⟨(some 16), (.bin .leq), [.t 15, .c (.int .i64 10)], none, [7]⟩,
      ⟨(some 17), .call, [.f 67, .t 16, .c (.int .i64 8)], none, [8, 4]⟩,
      ⟨(some 18), (.bsl 1), [.t 12, .t 17], none, [4, 9]⟩,
      ⟨(some 19), .call, [.f 64, .t 18], none, [10, 9]⟩,
      ⟨(some 4), .mov, [.t 19], none, [11, 11, 0, 1, 2, 3, 4, 5, 6, 7, 8, 9, 10, 11]⟩] true)
    (.seq
     (.region [⟨(some 20), .mov, [.t 4], none, []⟩,
       ⟨(some 21), (.bin .neq), [.t 20, .c (.int .i64 0)], none, [0]⟩] false)
     (.cond (.t 21)
      (.seq
       (.region [⟨(some 22), .mov, [.t 4], none, []⟩,
         ⟨(some 2), .mov, [.c (.int .i64 0)], none, []⟩,
         ⟨(some 3), .mov, [.t 22], none, [0, 1, 0, 1]⟩] false)
       .ret)
      .skip)))
   (.keep [1] [1] b37k6)))
def d37 : DFn := ⟨1, 82, [.tmp 2, .tmp 3], b37⟩
theorem body37 : d37.body = b37 := rfl
theorem res37 : d37.res = [.tmp 2, .tmp 3] := rfl
theorem k37 : chkFn Try.prog Try.f37 d37 = true := by kernel_rfl

/-- guidevane/lake.VolumeAt -/
def b38k0 : DCode :=
 (.seq
  (.region [⟨(some 26), (.load true 1), [.t 6], none, []⟩,
    ⟨(some 27), .mov, [.t 1], none, []⟩,
    ⟨(some 28), .call, [.f 82, .t 26, .t 27], none, [0, 1]⟩,
    ⟨none, (.store 2), [.t 4, .t 28], none, [2, 2, 0, 1, 2]⟩,
    ⟨(some 5), .mov, [.c (.int .i64 0)], none, [3, 0, 1, 2, 3]⟩] false)
  .ret)
def b38k1 : DCode :=
 (.seq
  (.seq
   (.region [⟨(some 16), .mov, [.t 1], none, []⟩,
     ⟨(some 17), (.load true 1), [.t 6], none, []⟩,
     ⟨(some 18), .call, [.f 62, .t 17], none, [1]⟩,
     ⟨(some 19), (.field 0 false 1), [.t 18], none, [2]⟩,
     ⟨(some 20), (.load true 1), [.t 6], none, []⟩,
     ⟨(some 21), .call, [.f 63, .t 20], none, [4, 2]⟩,
     ⟨(some 22), (.field 0 false 1), [.t 21], none, [5]⟩,
     ⟨(some 23), .call, [.f 69, .t 16, .t 19, .t 22], none, [0, 3, 6, 5]⟩,
     ⟨(some 24), (.un .not), [.t 23], none, [7]⟩] true)
   (.cond (.t 24)
    (.seq
     (.region [⟨(some 25), (.build [(.imm (.int .i64 0)), (.imm (.int .i64 0))] []), [], none, []⟩,
       ⟨none, (.store 2), [.t 4, .t 25], none, [0, 0]⟩,
       ⟨(some 5), .mov, [.c (.int .i64 2)], none, [1, 0, 1]⟩] false)
     .ret)
    .skip))
  (.keep [1, 4, 6] [4, 6] b38k0))
def b38 : DCode :=
 (.seq
  (.region [⟨(some 2), .box, [.t 0], none, []⟩,
    ⟨(some 4), (.alloc [(.imm (.int .i64 0)), (.imm (.int .i64 0))]), [], none, []⟩,
    ⟨(some 5), .mov, [.c (.int .i64 0)], none, []⟩] false)
  (.seq
   (.region [⟨(some 8), (.load true 1), [.t 2], none, []⟩,
     ⟨(some 9), (.build [(.imm (.slc 2 []))] [(0, 1)]), [.t 8], none, [0]⟩,
     ⟨(some 6), (.alloc [(.imm (.slc 2 []))]), [], none, []⟩,
     ⟨none, (.store 1), [.t 6, .t 9], none, [2, 1, 0, 1, 2]⟩] false)
   (.seq
    (.seq
     (.region [⟨(some 10), (.load true 1), [.t 2], none, []⟩,
       ⟨(some 11), .call, [.f 68, .t 10], none, [0]⟩,
       ⟨(some 7), .mov, [.t 11], none, [1, 1, 0, 1]⟩] false)
     (.seq
      (.region [⟨(some 12), .mov, [.t 7], none, []⟩,
        ⟨(some 13), (.bin .neq), [.t 12, .c (.int .i64 0)], none, [0]⟩] false)
      (.cond (.t 13)
       (.seq
        (.region [⟨(some 14), (.build [(.imm (.int .i64 0)), (.imm (.int .i64 0))] []), [], none, []⟩,
          ⟨(some 15), .mov, [.t 7], none, []⟩,
          ⟨none, (.store 2), [.t 4, .t 14], none, [0, 0]⟩,
          ⟨(some 5), .mov, [.t 15], none, [1, 2, 0, 1, 2]⟩] false)
        .ret)
       .skip)))
    (.keep [1, 4, 6] [4, 6] b38k1))))
def d38 : DFn := ⟨2, 29, [.cell 4 true 2, .tmp 5], b38⟩
theorem body38 : d38.body = b38 := rfl
theorem res38 : d38.res = [.cell 4 true 2, .tmp 5] := rfl
theorem k38 : chkFn Try.prog Try.f38 d38 = true := by kernel_rfl

/-- guidevane/lake.AreaAt -/
def b39k0 : DCode :=
 (.seq
  (.region [⟨(some 20), (.load true 1), [.t 6], none, []⟩,
    ⟨(some 21), .mov, [.t 1], none, []⟩,
    ⟨(some 22), .call, [.f 83, .t 20, .t 21], none, [0, 1]⟩,
    ⟨(some 8), (.alloc [(.imm (.int .i64 0)), (.imm (.int .i64 0)), (.imm (.int .i64 0)), (.imm (.int .i64 0))]), [], none, []⟩,
    ⟨none, (.store 4), [.t 8, .t 22], none, [3, 2, 2, 0, 1, 2, 3]⟩] false)
  (.seq
   (.region [⟨(some 23), (.load true 4), [.t 8], none, []⟩,
     ⟨(some 24), .call, [.f 80, .t 23], none, [0]⟩,
     ⟨(some 25), (.load true 4), [.t 8], none, []⟩,
     ⟨(some 26), .call, [.f 79, .t 25], none, [2, 1]⟩,
     ⟨(some 27), .call, [.f 84, .t 24, .t 26], none, [1, 3, 3]⟩,
     ⟨(some 9), .mov, [.t 27], none, [4, 4, 0, 1, 2, 3, 4]⟩] true)
   (.seq
    (.region [⟨(some 28), (.load true 4), [.t 8], none, []⟩,
      ⟨(some 29), .call, [.f 80, .t 28], none, [0]⟩,
      ⟨(some 30), .mov, [.t 9], none, []⟩,
      ⟨(some 31), (.bin .quo), [.t 29, .t 30], none, [1, 2]⟩,
      ⟨(some 32), (.load true 4), [.t 8], none, []⟩,
      ⟨(some 33), .call, [.f 79, .t 32], none, [4, 1]⟩,
      ⟨(some 34), .mov, [.t 9], none, []⟩,
      ⟨(some 35), (.bin .quo), [.t 33, .t 34], none, [5, 6]⟩,
      ⟨(some 36), (.build [(.imm (.int .i64 0)), (.imm (.int .i64 0))] [(0, 1), (1, 1)]), [.t 31, .t 35], none, [3, 7]⟩,
      ⟨none, (.store 2), [.t 4, .t 36], none, [8, 5, 0, 1, 2, 3, 4, 5, 6, 7, 8]⟩,
      ⟨(some 5), .mov, [.c (.int .i64 0)], none, [9, 0, 1, 2, 3, 4, 5, 6, 7, 8, 9]⟩] true)
    .ret)))
def b39 : DCode :=
 (.seq
  (.region [⟨(some 2), .box, [.t 0], none, []⟩,
    ⟨(some 4), (.alloc [(.imm (.int .i64 0)), (.imm (.int .i64 0))]), [], none, []⟩,
    ⟨(some 5), .mov, [.c (.int .i64 0)], none, []⟩] false)
  (.seq
   (.region [⟨(some 11), (.load true 1), [.t 2], none, []⟩,
     ⟨(some 12), .mov, [.t 1], none, []⟩,
     ⟨(some 13), .call, [.f 77, .t 11, .t 12], none, [0, 1]⟩,
     ⟨(some 10), .mov, [.t 13], none, [2]⟩,
     ⟨(some 14), (.ext 0), [.t 10], none, [3]⟩,
     ⟨(some 15), (.ext 1), [.t 10], none, [3]⟩,
     ⟨(some 6), (.alloc [(.imm (.slc 2 []))]), [], none, []⟩,
     ⟨none, (.store 1), [.t 6, .t 14], none, [6, 4, 2, 0, 1, 2, 3, 4, 6]⟩,
     ⟨(some 7), .mov, [.t 15], none, [5, 7, 0, 1, 2, 3, 4, 5, 6, 7]⟩] false)
   (.seq
    (.seq
     (.region [⟨(some 16), .mov, [.t 7], none, []⟩,
       ⟨(some 17), (.bin .neq), [.t 16, .c (.int .i64 0)], none, [0]⟩] false)
     (.cond (.t 17)
      (.seq
       (.region [⟨(some 18), (.build [(.imm (.int .i64 0)), (.imm (.int .i64 0))] []), [], none, []⟩,
         ⟨(some 19), .mov, [.t 7], none, []⟩,
         ⟨none, (.store 2), [.t 4, .t 18], none, [0, 0]⟩,
         ⟨(some 5), .mov, [.t 19], none, [1, 2, 0, 1, 2]⟩] false)
       .ret)
      .skip))
    (.keep [1, 4, 6] [4, 6] b39k0))))
def d39 : DFn := ⟨2, 37, [.cell 4 true 2, .tmp 5], b39⟩
theorem body39 : d39.body = b39 := rfl
theorem res39 : d39.res = [.cell 4 true 2, .tmp 5] := rfl
theorem k39 : chkFn Try.prog Try.f39 d39 = true := by kernel_rfl

/-- guidevane/lake.MinimumOn -/
def b50k0 : DCode :=
 (.region [⟨(some 39), (.bin .add), [.t 17, .c (.int .i64 1)], none, []⟩,
   ⟨(some 17), .mov, [.t 39], none, [0]⟩] false)
def b50k1 : DCode :=
 (.seq
  (.block 1
   (.seq
    (.region [⟨(some 19), (.iaddr 3), [.t 15, .t 17], none, []⟩,
      ⟨(some 20), (.load true 3), [.t 19], none, [0]⟩,
      ⟨(some 8), (.alloc [(.imm (.int .i64 0)), (.imm (.int .i64 0)), (.imm (.int .i64 0))]), [], none, []⟩,
      ⟨none, (.store 3), [.t 8, .t 20], none, [2, 1, 0, 1, 2]⟩] false)
    (.seq
     (.region [⟨(some 21), .mov, [.t 6], none, []⟩,
       ⟨(some 22), (.faddr 0 false 1), [.t 8], none, []⟩,
       ⟨(some 23), (.load false 1), [.t 22], none, [1]⟩,
       ⟨(some 24), .call, [.t 21, .t 23], none, [0, 2]⟩,
       ⟨(some 25), (.un .not), [.t 24], none, [3]⟩,
       ⟨(some 26), .mov, [.t 25], none, [4, 3]⟩,
       ⟨(some 27), .mov, [.t 6], (some (26, false)), [5]⟩,
       ⟨(some 28), (.faddr 1 false 1), [.t 8], (some (26, false)), [5]⟩,
       ⟨(some 29), (.load false 1), [.t 28], (some (26, false)), [7, 5]⟩,
       ⟨(some 30), .call, [.t 27, .t 29], (some (26, false)), [6, 8, 5, 5]⟩,
       ⟨(some 31), (.un .not), [.t 30], (some (26, false)), [9, 5]⟩,
       ⟨(some 32), .pick, [.t 26, .c (.bool true), .t 31], none, [5, 10]⟩,
       ⟨(some 33), .mov, [.t 32], none, [11, 9]⟩,
       ⟨(some 34), (.faddr 2 false 1), [.t 8], (some (33, false)), [12]⟩,
       ⟨(some 35), (.load false 1), [.t 34], (some (33, false)), [13, 12]⟩,
       ⟨(some 36), .call, [.f 69, .t 35, .c (.int .i64 0), .c (.int .i64 1000000)], (some (33, false)), [14, 12, 12]⟩,
       ⟨(some 37), (.un .not), [.t 36], (some (33, false)), [15, 12]⟩,
       ⟨(some 38), .pick, [.t 33, .c (.bool true), .t 37], none, [12, 16]⟩] false)
     (.cond (.t 38)
      (.seq
       (.region [⟨(some 4), .mov, [.c (.int .i64 0)], none, []⟩,
         ⟨(some 5), .mov, [.c (.int .i64 2)], none, [0, 0]⟩] false)
       .ret)
      .skip))))
  (.keep [0, 1, 6, 15, 16, 17] [] b50k0))
def b50l0 : DCode := .keep [0, 1, 6, 15, 16, 17] []
  (.seq
   (.region [⟨(some 18), (.bin .lss), [.t 17, .t 16], none, []⟩] false)
   (.seq
    (.cond (.t 18)
     .skip
     (.exit 0))
    (.keep [0, 1, 6, 15, 16, 17] [] b50k1)))
def b50k2 : DCode :=
 (.region [⟨(some 57), (.bin .add), [.t 45, .c (.int .i64 1)], none, []⟩,
   ⟨(some 45), .mov, [.t 57], none, [0]⟩] false)
def b50k3 : DCode :=
 (.seq
  (.block 3
   (.seq
    (.region [⟨(some 47), (.iaddr 3), [.t 43, .t 45], none, []⟩,
      ⟨(some 48), (.load true 3), [.t 47], none, [0]⟩,
      ⟨(some 11), (.alloc [(.imm (.int .i64 0)), (.imm (.int .i64 0)), (.imm (.int .i64 0))]), [], none, []⟩,
      ⟨none, (.store 3), [.t 11, .t 48], none, [2, 1, 0, 1, 2]⟩] false)
    (.seq
     (.region [⟨(some 49), (.load true 3), [.t 11], none, []⟩,
       ⟨(some 50), .mov, [.t 1], none, []⟩,
       ⟨(some 51), (.bin .rem), [.t 50, .c (.int .i64 365)], none, [1]⟩,
       ⟨(some 52), .call, [.f 95, .t 49, .t 51], none, [0, 2]⟩] false)
     (.cond (.t 52)
      (.region [⟨(some 53), .mov, [.t 9], none, []⟩,
        ⟨(some 54), (.faddr 2 false 1), [.t 11], none, []⟩,
        ⟨(some 55), (.load false 1), [.t 54], none, [1]⟩,
        ⟨(some 56), (.mm true), [.t 53, .t 55], none, [0, 2]⟩,
        ⟨(some 9), .mov, [.t 56], none, [3, 0, 1, 2, 3]⟩] false)
      .skip))))
  (.keep [1, 9, 43, 44, 45] [] b50k2))
def b50l1 : DCode := .keep [1, 9, 43, 44, 45] []
  (.seq
   (.region [⟨(some 46), (.bin .lss), [.t 45, .t 44], none, []⟩] false)
   (.seq
    (.cond (.t 46)
     .skip
     (.exit 2))
    (.keep [1, 9, 43, 44, 45] [] b50k3)))
def b50k4 : DCode :=
 (.seq
  (.region [⟨(some 58), .mov, [.t 9], none, []⟩,
    ⟨(some 4), .mov, [.t 58], none, [0, 0]⟩,
    ⟨(some 5), .mov, [.c (.int .i64 0)], none, [1, 0, 1]⟩] false)
  .ret)
def b50k5 : DCode :=
 (.seq
  (.region [⟨(some 9), .mov, [.c (.int .i64 0)], none, []⟩] false)
  (.seq
   (.seq
    (.region [⟨(some 43), .movv, [.t 0], none, []⟩,
      ⟨(some 44), .len, [.t 43], none, [0]⟩,
      ⟨(some 45), .mov, [.c (.int .i64 0)], none, []⟩] false)
    (.block 2
     (.loop b50l1)))
   (.keep [9] [] b50k4)))
def b50k6 : DCode :=
 (.seq
  (.seq
   (.region [⟨(some 40), .mov, [.t 1], none, []⟩,
     ⟨(some 41), .call, [.f 69, .t 40, .c (.int .i64 0), .c (.int .i64 100000)], none, [0]⟩,
     ⟨(some 42), (.un .not), [.t 41], none, [1]⟩] false)
   (.cond (.t 42)
    (.seq
     (.region [⟨(some 4), .mov, [.c (.int .i64 0)], none, []⟩,
       ⟨(some 5), .mov, [.c (.int .i64 2)], none, [0, 0]⟩] false)
     .ret)
    .skip))
  (.keep [0, 1] [] b50k5))
def b50k7 : DCode :=
 (.seq
  (.region [⟨(some 6), .mov, [.f 94], none, []⟩] false)
  (.seq
   (.seq
    (.region [⟨(some 15), .movv, [.t 0], none, []⟩,
      ⟨(some 16), .len, [.t 15], none, [0]⟩,
      ⟨(some 17), .mov, [.c (.int .i64 0)], none, []⟩] false)
    (.block 0
     (.loop b50l0)))
   (.keep [0, 1] [] b50k6)))
def b50 : DCode :=
 (.seq
  (.region [⟨(some 4), .mov, [.c (.int .i64 0)], none, []⟩,
    ⟨(some 5), .mov, [.c (.int .i64 0)], none, [0]⟩] false)
  (.seq
   (.seq
    (.region [⟨(some 12), .movv, [.t 0], none, []⟩,
      ⟨(some 13), .len, [.t 12], none, [0]⟩,
      ⟨(some 14), (.bin .gtr), [.t 13, .c (.int .i64 12)], none, [1]⟩] false)
    (.cond (.t 14)
     (.seq
      (.region [⟨(some 4), .mov, [.c (.int .i64 0)], none, []⟩,
        ⟨(some 5), .mov, [.c (.int .i64 8)], none, [0, 0]⟩] false)
      .ret)
     .skip))
   (.keep [0, 1] [] b50k7)))
def d50 : DFn := ⟨2, 59, [.tmp 4, .tmp 5], b50⟩
theorem body50 : d50.body = b50 := rfl
theorem res50 : d50.res = [.tmp 4, .tmp 5] := rfl
theorem k50 : chkFn Try.prog Try.f50 d50 = true := by kernel_rfl

/-- guidevane/lake.RunOf -/
def b53k0 : DCode :=
 (.seq
  (.region [⟨(some 50), .mov, [.t 11], none, []⟩,
    ⟨(some 51), (.load true 2), [.t 15], none, []⟩,
    ⟨(some 52), (.bsl 2), [.t 51], none, [1]⟩,
    ⟨(some 53), (.append 2 16 false), [.t 50, .t 52], none, [0, 2]⟩,
    ⟨(some 11), .mov, [.t 53], none, [3, 3, 0, 1, 2, 3]⟩] false)
  (.seq
   (.region [⟨(some 54), (.faddr 0 false 1), [.t 12], none, []⟩,
     ⟨(some 55), (.load false 1), [.t 54], none, [0]⟩,
     ⟨(some 56), (.faddr 0 false 1), [.t 16], none, []⟩,
     ⟨(some 57), (.load false 1), [.t 56], none, [2]⟩,
     ⟨(some 58), (.bin .add), [.t 55, .t 57], none, [1, 3]⟩,
     ⟨(some 59), (.faddr 1 false 1), [.t 12], none, []⟩,
     ⟨(some 60), (.load false 1), [.t 59], none, [5]⟩,
     ⟨(some 61), (.faddr 1 false 1), [.t 16], none, []⟩,
     ⟨(some 62), (.load false 1), [.t 61], none, [7]⟩,
     ⟨(some 63), (.bin .add), [.t 60, .t 62], none, [6, 8]⟩,
     ⟨(some 64), (.build [(.imm (.int .i64 0)), (.imm (.int .i64 0))] [(0, 1), (1, 1)]), [.t 58, .t 63], none, [4, 9]⟩,
     ⟨none, (.store 2), [.t 12, .t 64], none, [10, 0, 1, 2, 3, 4, 5, 6, 7, 8, 9, 10]⟩] false)
   (.region [⟨(some 65), (.load true 2), [.t 15], none, []⟩,
     ⟨none, (.store 2), [.t 4, .t 65], none, [0, 0]⟩] false)))
def b53k1 : DCode :=
 (.region [⟨(some 66), (.bin .add), [.t 35, .c (.int .i64 1)], none, []⟩,
   ⟨(some 35), .mov, [.t 66], none, [0]⟩] false)
def b53k2 : DCode :=
 (.seq
  (.block 1
   (.seq
    (.region [⟨(some 37), (.iaddr 3), [.t 33, .t 35], none, []⟩,
      ⟨(some 38), (.load true 3), [.t 37], none, [0]⟩,
      ⟨(some 14), (.alloc [(.imm (.int .i64 0)), (.imm (.int .i64 0)), (.imm (.int .i64 0))]), [], none, []⟩,
      ⟨none, (.store 3), [.t 14, .t 38], none, [2, 1, 0, 1, 2]⟩] false)
    (.seq
     (.region [⟨(some 40), (.load true 3), [.t 9], none, []⟩,
       ⟨(some 41), (.load true 2), [.t 4], none, []⟩,
       ⟨(some 42), (.load true 3), [.t 14], none, []⟩,
       ⟨(some 43), .call, [.f 66, .t 40, .t 41, .t 42], none, [0, 1, 2]⟩,
       ⟨(some 39), .mov, [.t 43], none, [3]⟩,
       ⟨(some 44), (.ext 0), [.t 39], none, [4]⟩,
       ⟨(some 45), (.ext 1), [.t 39], none, [4]⟩,
       ⟨(some 46), (.ext 2), [.t 39], none, [4]⟩,
       ⟨(some 15), (.alloc [(.imm (.int .i64 0)), (.imm (.int .i64 0))]), [], none, []⟩,
       ⟨(some 16), (.alloc [(.imm (.int .i64 0)), (.imm (.int .i64 0))]), [], none, []⟩,
       ⟨none, (.store 2), [.t 15, .t 44], none, [8, 5, 3, 0, 1, 2, 3, 4, 5, 8, 9]⟩,
       ⟨none, (.store 2), [.t 16, .t 45], none, [9, 6, 10, 0, 1, 2, 3, 4, 5, 6, 8, 9, 10]⟩,
       ⟨(some 17), .mov, [.t 46], none, [7, 11, 0, 1, 2, 3, 4, 5, 6, 7, 8, 9, 10, 11]⟩] false)
     (.seq
      (.seq
       (.region [⟨(some 47), .mov, [.t 17], none, []⟩,
         ⟨(some 48), (.un .not), [.t 47], none, [0]⟩] false)
       (.cond (.t 48)
        (.seq
         (.region [⟨(some 49), (.build [(.imm (.int .i64 0)), (.imm (.int .i64 0))] []), [], none, []⟩,
           ⟨(some 6), .mov, [.c (.slc 2 [])], none, []⟩,
           ⟨none, (.store 2), [.t 7, .t 49], none, [0, 1, 0, 1]⟩,
           ⟨(some 8), .mov, [.c (.int .i64 22)], none, [2, 0, 1, 2]⟩] false)
         .ret)
        .skip))
      (.keep [4, 7, 9, 11, 12, 15, 16, 33, 34, 35] [4, 7, 9, 11, 12, 15, 16, 53] b53k0)))))
  (.keep [4, 7, 9, 11, 12, 33, 34, 35] [4, 7, 9, 11, 12, 53] b53k1))
def b53l0 : DCode := .keep [4, 7, 9, 11, 12, 33, 34, 35] [4, 7, 9, 11, 12, 53]
  (.seq
   (.region [⟨(some 36), (.bin .lss), [.t 35, .t 34], none, []⟩] false)
   (.seq
    (.cond (.t 36)
     .skip
     (.exit 0))
    (.keep [4, 7, 9, 11, 12, 33, 34, 35] [4, 7, 9, 11, 12, 53] b53k2)))
def b53k3 : DCode :=
 (.seq
  (.region [⟨(some 67), .movv, [.t 11], none, []⟩,
    ⟨(some 68), (.load true 2), [.t 12], none, []⟩,
    ⟨(some 6), .movv, [.t 67], none, [0, 0]⟩,
    ⟨none, (.store 2), [.t 7, .t 68], none, [1, 2, 0, 1, 2]⟩,
    ⟨(some 8), .mov, [.c (.int .i64 0)], none, [3, 0, 1, 2, 3]⟩] true)
  .ret)
def b53k4 : DCode :=
 (.seq
  (.region [⟨(some 11), (.ntok 2), [.c (.slc 2 [])], none, []⟩] false)
  (.seq
   (.region [⟨(some 12), (.alloc [(.imm (.int .i64 0)), (.imm (.int .i64 0))]), [], none, []⟩] false)
   (.seq
    (.seq
     (.region [⟨(some 33), .movv, [.t 2], none, []⟩,
       ⟨(some 34), .len, [.t 33], none, [0]⟩,
       ⟨(some 35), .mov, [.c (.int .i64 0)], none, []⟩] false)
     (.block 0
      (.loop b53l0)))
    (.keep [7, 11, 12] [7, 11, 12, 53] b53k3))))
def b53 : DCode :=
 (.seq
  (.region [⟨(some 3), .box, [.t 0], none, []⟩,
    ⟨(some 4), .box, [.t 1], none, []⟩,
    ⟨(some 6), .mov, [.c (.slc 2 [])], none, []⟩,
    ⟨(some 7), (.alloc [(.imm (.int .i64 0)), (.imm (.int .i64 0))]), [], none, []⟩,
    ⟨(some 8), .mov, [.c (.int .i64 0)], none, [2]⟩] false)
  (.seq
   (.region [⟨(some 19), (.load true 3), [.t 3], none, []⟩,
     ⟨(some 20), (.load true 2), [.t 4], none, []⟩,
     ⟨(some 21), .call, [.f 61, .t 19, .t 20], none, [0, 1]⟩,
     ⟨(some 18), .mov, [.t 21], none, [2]⟩,
     ⟨(some 22), (.ext 0), [.t 18], none, [3]⟩,
     ⟨(some 23), (.ext 1), [.t 18], none, [3]⟩,
     ⟨(some 9), (.alloc [(.imm (.slc 2 [])), (.imm (.slc 2 [])), (.imm (.int .i64 0))]), [], none, []⟩,
     ⟨none, (.store 3), [.t 9, .t 22], none, [6, 4, 2, 0, 1, 2, 3, 4, 6]⟩,
     ⟨(some 10), .mov, [.t 23], none, [5, 7, 0, 1, 2, 3, 4, 5, 6, 7]⟩] false)
   (.seq
    (.seq
     (.region [⟨(some 24), .mov, [.t 10], none, []⟩,
       ⟨(some 25), .movv, [.t 2], none, []⟩,
       ⟨(some 26), .call, [.f 96, .t 25], none, [1]⟩,
       ⟨(some 27), (.bsl 1), [.t 24, .t 26], none, [0, 2]⟩,
       ⟨(some 28), .call, [.f 64, .t 27], none, [3, 2]⟩,
       ⟨(some 10), .mov, [.t 28], none, [4, 4, 0, 1, 2, 3, 4]⟩] false)
     (.seq
      (.region [⟨(some 29), .mov, [.t 10], none, []⟩,
        ⟨(some 30), (.bin .neq), [.t 29, .c (.int .i64 0)], none, [0]⟩] false)
      (.cond (.t 30)
       (.seq
        (.region [⟨(some 31), (.build [(.imm (.int .i64 0)), (.imm (.int .i64 0))] []), [], none, []⟩,
          ⟨(some 32), .mov, [.t 10], none, []⟩,
          ⟨(some 6), .mov, [.c (.slc 2 [])], none, []⟩,
          ⟨none, (.store 2), [.t 7, .t 31], none, [0, 2, 0, 2]⟩,
          ⟨(some 8), .mov, [.t 32], none, [1, 3, 0, 1, 2, 3]⟩] false)
        .ret)
       .skip)))
    (.keep [2, 4, 7, 9] [4, 7, 9] b53k4))))
def d53 : DFn := ⟨3, 69, [.tmp 6, .cell 7 true 2, .tmp 8], b53⟩
theorem body53 : d53.body = b53 := rfl
theorem res53 : d53.res = [.tmp 6, .cell 7 true 2, .tmp 8] := rfl
theorem k53 : chkFn Try.prog Try.f53 d53 = true := by kernel_rfl

/-- guidevane/lake.openState -/
def b61k0 : DCode :=
 (.seq
  (.region [⟨(some 18), (.load true 3), [.t 6], none, []⟩,
    ⟨(some 19), .mov, [.t 7], none, []⟩,
    ⟨none, (.store 3), [.t 4, .t 18], none, [0, 0]⟩,
    ⟨(some 5), .mov, [.t 19], none, [1, 2, 0, 1, 2]⟩] false)
  .ret)
def b61 : DCode :=
 (.seq
  (.region [⟨(some 2), .box, [.t 0], none, []⟩,
    ⟨(some 3), .box, [.t 1], none, []⟩,
    ⟨(some 4), (.alloc [(.imm (.slc 2 [])), (.imm (.slc 2 [])), (.imm (.int .i64 0))]), [], none, []⟩,
    ⟨(some 5), .mov, [.c (.int .i64 0)], none, []⟩] false)
  (.seq
   (.region [⟨(some 9), (.load true 3), [.t 2], none, []⟩,
     ⟨(some 10), .call, [.f 97, .t 9], none, [0]⟩,
     ⟨(some 8), .mov, [.t 10], none, [1]⟩,
     ⟨(some 11), (.ext 0), [.t 8], none, [2]⟩,
     ⟨(some 12), (.ext 1), [.t 8], none, [2]⟩,
     ⟨(some 6), (.alloc [(.imm (.slc 2 [])), (.imm (.slc 2 [])), (.imm (.int .i64 0))]), [], none, []⟩,
     ⟨none, (.store 3), [.t 6, .t 11], none, [5, 3, 1, 0, 1, 2, 3, 5]⟩,
     ⟨(some 7), .mov, [.t 12], none, [4, 6, 0, 1, 2, 3, 4, 5, 6]⟩] false)
   (.seq
    (.seq
     (.region [⟨(some 13), .mov, [.t 7], none, []⟩,
       ⟨(some 14), (.bin .eql), [.t 13, .c (.int .i64 0)], none, [0]⟩] false)
     (.cond (.t 14)
      (.region [⟨(some 15), (.load true 3), [.t 6], none, []⟩,
        ⟨(some 16), (.load true 2), [.t 3], none, []⟩,
        ⟨(some 17), .call, [.f 98, .t 15, .t 16], none, [0, 1]⟩,
        ⟨(some 7), .mov, [.t 17], none, [2, 2, 0, 1, 2]⟩] false)
      .skip))
    (.keep [4, 6, 7] [4, 6] b61k0))))
def d61 : DFn := ⟨2, 20, [.cell 4 true 3, .tmp 5], b61⟩
theorem body61 : d61.body = b61 := rfl
theorem res61 : d61.res = [.cell 4 true 3, .tmp 5] := rfl
theorem k61 : chkFn Try.prog Try.f61 d61 = true := by kernel_rfl

/-- (guidevane/lake.table).bottom -/
def b62 : DCode :=
 (.seq
  (.region [⟨(some 1), .box, [.t 0], none, []⟩,
    ⟨(some 2), (.alloc [(.imm (.int .i64 0)), (.imm (.int .i64 0))]), [], none, []⟩] false)
  (.seq
   (.region [⟨(some 3), (.faddr 0 true 1), [.t 1], none, []⟩,
     ⟨(some 4), (.faddr 0 false 1), [.t 3], none, [0]⟩,
     ⟨(some 5), (.load false 1), [.t 4], none, [1]⟩,
     ⟨(some 6), (.iaddr 2), [.t 5, .c (.int .i64 0)], none, [2]⟩,
     ⟨(some 7), (.load true 2), [.t 6], none, [3]⟩,
     ⟨none, (.store 2), [.t 2, .t 7], none, [4, 0, 1, 2, 3, 4]⟩] false)
   .ret))
def d62 : DFn := ⟨1, 8, [.cell 2 true 2], b62⟩
theorem body62 : d62.body = b62 := rfl
theorem res62 : d62.res = [.cell 2 true 2] := rfl
theorem k62 : chkFn Try.prog Try.f62 d62 = true := by kernel_rfl

/-- (guidevane/lake.table).top -/
def b63 : DCode :=
 (.seq
  (.region [⟨(some 1), .box, [.t 0], none, []⟩,
    ⟨(some 2), (.alloc [(.imm (.int .i64 0)), (.imm (.int .i64 0))]), [], none, []⟩] false)
  (.seq
   (.region [⟨(some 3), (.faddr 0 true 1), [.t 1], none, []⟩,
     ⟨(some 4), (.faddr 0 false 1), [.t 3], none, [0]⟩,
     ⟨(some 5), (.load false 1), [.t 4], none, [1]⟩,
     ⟨(some 6), (.faddr 0 true 1), [.t 1], none, []⟩,
     ⟨(some 7), (.faddr 0 false 1), [.t 6], none, [3]⟩,
     ⟨(some 8), (.load false 1), [.t 7], none, [4]⟩,
     ⟨(some 9), .len, [.t 8], none, [5]⟩,
     ⟨(some 10), (.bin .sub), [.t 9, .c (.int .i64 1)], none, [6]⟩,
     ⟨(some 11), (.iaddr 2), [.t 5, .t 10], none, [2, 7]⟩,
     ⟨(some 12), (.load true 2), [.t 11], none, [8]⟩,
     ⟨none, (.store 2), [.t 2, .t 12], none, [9, 0, 1, 2, 3, 4, 5, 6, 7, 8, 9]⟩] false)
   .ret))
def d63 : DFn := ⟨1, 13, [.cell 2 true 2], b63⟩
theorem body63 : d63.body = b63 := rfl
theorem res63 : d63.res = [.cell 2 true 2] := rfl
theorem k63 : chkFn Try.prog Try.f63 d63 = true := by kernel_rfl

/-- guidevane/lake.first -/
def b64k0 : DCode :=
 (.region [⟨(some 14), (.bin .add), [.t 7, .c (.int .i64 1)], none, []⟩,
   ⟨(some 7), .mov, [.t 14], none, [0]⟩] false)
def b64k1 : DCode :=
 (.seq
  (.block 1
   (.seq
    (.region [⟨(some 9), (.iaddr 1), [.t 5, .t 7], none, []⟩,
      ⟨(some 10), (.load false 1), [.t 9], none, [0]⟩,
      ⟨(some 4), .mov, [.t 10], none, [1, 0, 1]⟩] false)
    (.seq
     (.region [⟨(some 11), .mov, [.t 4], none, []⟩,
       ⟨(some 12), (.bin .neq), [.t 11, .c (.int .i64 0)], none, [0]⟩] false)
     (.cond (.t 12)
      (.seq
       (.region [⟨(some 13), .mov, [.t 4], none, []⟩,
         ⟨(some 2), .mov, [.t 13], none, [0, 0]⟩] false)
       .ret)
      .skip))))
  (.keep [5, 6, 7] [] b64k0))
def b64l0 : DCode := .keep [5, 6, 7] []
  (.seq
   (.region [⟨(some 8), (.bin .lss), [.t 7, .t 6], none, []⟩] false)
   (.seq
    (.cond (.t 8)
     .skip
     (.exit 0))
    (.keep [5, 6, 7] [] b64k1)))
def b64k2 : DCode :=
 (.seq
  (.region [⟨(some 2), .mov, [.c (.int .i64 0)], none, []⟩] false)
  .ret)
def b64 : DCode :=
 (.seq
  (.region [⟨(some 2), .mov, [.c (.int .i64 0)], none, []⟩] false)
  (.seq
   (.seq
    (.region [⟨(some 5), .movv, [.t 0], none, []⟩,
      ⟨(some 6), .len, [.t 5], none, [0]⟩,
      ⟨(some 7), .mov, [.c (.int .i64 0)], none, []⟩] false)
    (.block 0
     (.loop b64l0)))
   (.keep [] [] b64k2)))
def d64 : DFn := ⟨1, 15, [.tmp 2], b64⟩
theorem body64 : d64.body = b64 := rfl
theorem res64 : d64.res = [.tmp 2] := rfl
theorem k64 : chkFn Try.prog Try.f64 d64 = true := by kernel_rfl

/-- guidevane/lake.flowsErr -/
def b65 : DCode :=
 (.seq
  (.region [⟨(some 1), .box, [.t 0], none, []⟩,
    ⟨(some 2), .mov, [.c (.int .i64 0)], none, []⟩] false)
  (.seq
   (.region [⟨(some 3), .mov, [.f 99], none, []⟩] false)
   (.seq
    (.region [⟨(some 4), .mov, [.t 3], none, []⟩,
      ⟨(some 5), (.faddr 0 false 1), [.t 1], none, []⟩,
      ⟨(some 6), (.load false 1), [.t 5], none, [1]⟩,
      ⟨(some 7), .call, [.t 4, .t 6], none, [0, 2]⟩,
      ⟨(some 8), .mov, [.t 7], none, [3, 3]⟩,
      ⟨(some 9), .mov, [.t 3], (some (8, true)), [4]⟩,
      ⟨(some 10), (.faddr 1 false 1), [.t 1], (some (8, true)), [4]⟩,
      ⟨(some 11), (.load false 1), [.t 10], (some (8, true)), [6, 4]⟩,
      ⟨(some 12), .call, [.t 9, .t 11], (some (8, true)), [5, 7, 4, 4]⟩,
      ⟨(some 13), .pick, [.t 8, .t 12, .c (.bool false)], none, [4, 8]⟩,
      ⟨(some 14), .mov, [.t 13], none, [9, 8]⟩,
      ⟨(some 15), (.faddr 2 false 1), [.t 1], (some (14, true)), [10]⟩,
      ⟨(some 16), (.load false 1), [.t 15], (some (14, true)), [11, 10]⟩,
      ⟨(some 17), .call, [.f 69, .t 16, .c (.int .i64 (-10000000)), .c (.int .i64 10000000)], (some (14, true)), [12, 10, 10]⟩,
      ⟨(some 18), .pick, [.t 14, .t 17, .c (.bool false)], none, [10, 13]⟩,
      ⟨(some 19), .call, [.f 67, .t 18, .c (.int .i64 2)], none, [14, 13]⟩,
      ⟨(some 2), .mov, [.t 19], none, [15, 15, 0, 1, 2, 3, 4, 5, 6, 7, 8, 9, 10, 11, 12, 13, 14, 15]⟩] false)
    .ret)))
def d65 : DFn := ⟨1, 20, [.tmp 2], b65⟩
theorem body65 : d65.body = b65 := rfl
theorem res65 : d65.res = [.tmp 2] := rfl
theorem k65 : chkFn Try.prog Try.f65 d65 = true := by kernel_rfl

/-- (guidevane/lake.pair).step -/
def b66k0 : DCode :=
 (.seq
  (.region [⟨(some 69), .mov, [.t 12], none, []⟩,
    ⟨(some 70), (.iarr 2 1 false), [.t 9, .t 69], none, [0]⟩,
    ⟨(some 71), (.load false 1), [.t 70], none, [1]⟩,
    ⟨(some 72), (.load true 1), [.t 13], none, []⟩,
    ⟨(some 73), .call, [.f 63, .t 72], none, [3]⟩,
    ⟨(some 74), (.field 1 false 1), [.t 73], none, [4]⟩,
    ⟨(some 75), (.bin .sub), [.t 71, .t 74], none, [2, 5]⟩,
    ⟨(some 76), (.mm true), [.c (.int .i64 0), .t 75], none, [6]⟩,
    ⟨(some 15), .mov, [.t 76], none, [7, 4, 0, 1, 2, 3, 4, 5, 6, 7]⟩] true)
  (.seq
   (.region [⟨(some 77), (.faddr 1 false 1), [.t 11], none, []⟩,
     ⟨(some 78), (.load false 1), [.t 77], none, [0]⟩,
     ⟨(some 79), .mov, [.t 15], none, []⟩,
     ⟨(some 80), (.bin .add), [.t 78, .t 79], none, [1, 2]⟩,
     ⟨(some 81), (.faddr 1 false 1), [.t 11], none, [0, 1, 2, 3]⟩,
     ⟨none, (.store 1), [.t 81, .t 80], none, [4, 3, 0, 1, 2, 3]⟩] false)
   (.region [⟨(some 82), .mov, [.t 12], none, []⟩,
     ⟨(some 83), (.iarr 2 1 false), [.t 9, .t 82], none, [0]⟩,
     ⟨(some 84), (.load false 1), [.t 83], none, [1]⟩,
     ⟨(some 85), .mov, [.t 15], none, []⟩,
     ⟨(some 86), (.bin .sub), [.t 84, .t 85], none, [2, 3]⟩,
     ⟨(some 87), (.iarr 2 1 false), [.t 9, .t 82], none, [0, 0, 1, 2, 3, 4]⟩,
     ⟨none, (.store 1), [.t 87, .t 86], none, [5, 4, 0, 1, 2, 3, 4]⟩] false)))
def b66k1 : DCode :=
 (.region [⟨(some 88), (.bin .add), [.t 34, .c (.int .i64 1)], none, []⟩,
   ⟨(some 34), .mov, [.t 88], none, [0]⟩] false)
def b66k2 : DCode :=
 (.seq
  (.block 1
   (.seq
    (.region [⟨(some 36), .mov, [.t 34], none, []⟩,
      ⟨(some 37), (.index 2 1 true), [.t 33, .t 34], none, []⟩,
      ⟨(some 13), (.alloc [(.imm (.slc 2 []))]), [], none, []⟩,
      ⟨(some 12), .mov, [.t 36], none, [0, 0, 1, 2]⟩,
      ⟨none, (.store 1), [.t 13, .t 37], none, [2, 1, 3, 0, 1, 2, 3]⟩] false)
    (.seq
     (.region [⟨(some 38), (.load true 1), [.t 13], none, []⟩,
       ⟨(some 39), .mov, [.t 12], none, []⟩,
       ⟨(some 40), (.iarr 2 1 false), [.t 9, .t 39], none, [1]⟩,
       ⟨(some 41), (.load false 1), [.t 40], none, [2]⟩,
       ⟨(some 42), (.faddr 2 false 1), [.t 3], none, []⟩,
       ⟨(some 43), (.load false 1), [.t 42], none, [4]⟩,
       ⟨(some 44), .call, [.f 100, .t 38, .t 41, .t 43], none, [0, 3, 5]⟩,
       ⟨(some 14), .mov, [.t 44], none, [6, 6, 0, 1, 2, 3, 4, 5, 6]⟩] true)
     (.seq
      (.region [⟨(some 45), (.faddr 0 false 1), [.t 11], none, []⟩,
        ⟨(some 46), (.load false 1), [.t 45], none, [0]⟩,
        ⟨(some 47), .mov, [.t 14], none, []⟩,
        ⟨(some 48), (.bin .add), [.t 46, .t 47], none, [1, 2]⟩,
        ⟨(some 49), (.faddr 0 false 1), [.t 11], none, [0, 1, 2, 3]⟩,
        ⟨none, (.store 1), [.t 49, .t 48], none, [4, 3, 0, 1, 2, 3]⟩] false)
      (.seq
       (.region [⟨(some 50), .mov, [.t 12], none, []⟩,
         ⟨(some 51), (.iarr 2 1 false), [.t 9, .t 50], none, [0]⟩,
         ⟨(some 52), (.load false 1), [.t 51], none, [1]⟩,
         ⟨(some 53), .mov, [.t 12], none, []⟩,
         ⟨(some 54), (.iarr 2 1 false), [.t 10, .t 53], none, [3]⟩,
         ⟨(some 55), (.load false 1), [.t 54], none, [4]⟩,
         ⟨(some 56), .mov, [.t 14], none, []⟩,
         ⟨(some 57), (.bin .sub), [.t 55, .t 56], none, [5, 6]⟩,
         ⟨(some 58), (.bin .add), [.t 52, .t 57], none, [2, 7]⟩,
         ⟨(some 59), (.iarr 2 1 false), [.t 9, .t 50], none, [0, 0, 1, 2, 3, 4, 5, 6, 7, 8]⟩,
         ⟨none, (.store 1), [.t 59, .t 58], none, [9, 8, 0, 1, 2, 3, 4, 5, 6, 7, 8]⟩] true)
       (.seq
        (.seq
         (.region [⟨(some 60), .mov, [.t 12], none, []⟩,
           ⟨(some 61), (.iarr 2 1 false), [.t 9, .t 60], none, [0]⟩,
           ⟨(some 62), (.load false 1), [.t 61], none, [1]⟩,
           ⟨(some 63), (.load true 1), [.t 13], none, []⟩,
           ⟨(some 64), .call, [.f 62, .t 63], none, [3]⟩,
           ⟨(some 65), (.field 1 false 1), [.t 64], none, [4]⟩,
           ⟨(some 66), (.bin .lss), [.t 62, .t 65], none, [2, 5]⟩] true)
         (.cond (.t 66)
          (.seq
           (.region [⟨(some 67), (.build [(.imm (.int .i64 0)), (.imm (.int .i64 0))] []), [], none, []⟩,
             ⟨(some 68), (.build [(.imm (.int .i64 0)), (.imm (.int .i64 0))] []), [], none, []⟩,
             ⟨none, (.store 2), [.t 6, .t 67], none, [0, 0]⟩,
             ⟨none, (.store 2), [.t 7, .t 68], none, [1, 2, 0, 1, 2]⟩,
             ⟨(some 8), .mov, [.c (.bool false)], none, [3, 0, 1, 2, 3]⟩] false)
           .ret)
          .skip))
        (.keep [3, 6, 7, 9, 10, 11, 12, 13, 33, 34] [3, 6, 7, 9, 10, 11, 13] b66k0)))))))
  (.keep [3, 6, 7, 9, 10, 11, 33, 34] [3, 6, 7, 9, 10, 11] b66k1))
def b66l0 : DCode := .keep [3, 6, 7, 9, 10, 11, 33, 34] [3, 6, 7, 9, 10, 11]
  (.seq
   (.region [⟨(some 35), (.bin .lss), [.t 34, .c (.int .i64 2)], none, []⟩] false)
   (.seq
    (.cond (.t 35)
     .skip
     (.exit 0))
    (.keep [3, 6, 7, 9, 10, 11, 33, 34] [3, 6, 7, 9, 10, 11] b66k2)))
def b66k3 : DCode :=
 (.seq
  (.region [⟨(some 89), (.iarr 2 1 false), [.t 9, .c (.int .i64 0)], none, []⟩,
    ⟨(some 90), (.loadf false 1 [9]), [.t 89], none, [0]⟩,
    ⟨(some 91), (.iarr 2 1 false), [.t 9, .c (.int .i64 1)], none, []⟩,
    ⟨(some 92), (.loadf false 1 [9]), [.t 91], none, [2]⟩,
    ⟨(some 93), (.build [(.imm (.int .i64 0)), (.imm (.int .i64 0))] [(0, 1), (1, 1)]), [.t 90, .t 92], none, [1, 3]⟩,
    ⟨(some 94), (.loadf true 2 [11]), [.t 11], none, []⟩,
    ⟨none, (.storef 2 [6]), [.t 6, .t 93], none, [4, 0, 1, 2, 3, 4]⟩,
    ⟨none, (.storef 2 [7]), [.t 7, .t 94], none, [5, 6, 0, 1, 2, 3, 4, 5, 6]⟩,
    ⟨(some 8), .mov, [.c (.bool true)], none, [7, 0, 1, 2, 3, 4, 5, 6, 7]⟩] true)
  .ret)
def b66 : DCode :=
 (.seq
  (.region [⟨(some 3), .box, [.t 0], none, []⟩,
    ⟨(some 4), .box, [.t 1], none, []⟩,
    ⟨(some 5), .box, [.t 2], none, []⟩,
    ⟨(some 6), (.alloc [(.imm (.int .i64 0)), (.imm (.int .i64 0))]), [], none, []⟩,
    ⟨(some 7), (.alloc [(.imm (.int .i64 0)), (.imm (.int .i64 0))]), [], none, []⟩,
    ⟨(some 8), .mov, [.c (.bool false)], none, []⟩] false)
  (.seq
   (.region [⟨(some 16), (.faddr 0 false 1), [.t 4], none, []⟩,
     ⟨(some 17), (.load false 1), [.t 16], none, [0]⟩,
     ⟨(some 18), (.faddr 1 false 1), [.t 4], none, []⟩,
     ⟨(some 19), (.load false 1), [.t 18], none, [2]⟩,
     ⟨(some 20), (.build [(.imm (.int .i64 0)), (.imm (.int .i64 0))] [(0, 1), (1, 1)]), [.t 17, .t 19], none, [1, 3]⟩,
     ⟨(some 9), (.alloc [(.imm (.int .i64 0)), (.imm (.int .i64 0))]), [], none, []⟩,
     ⟨none, (.store 2), [.t 9, .t 20], none, [5, 4, 0, 1, 2, 3, 4, 5]⟩] false)
   (.seq
    (.region [⟨(some 21), (.faddr 0 false 1), [.t 5], none, []⟩,
      ⟨(some 22), (.load false 1), [.t 21], none, [0]⟩,
      ⟨(some 23), (.faddr 2 false 1), [.t 5], none, []⟩,
      ⟨(some 24), (.load false 1), [.t 23], none, [2]⟩,
      ⟨(some 25), (.bin .add), [.t 22, .t 24], none, [1, 3]⟩,
      ⟨(some 26), (.faddr 1 false 1), [.t 5], none, []⟩,
      ⟨(some 27), (.load false 1), [.t 26], none, [5]⟩,
      ⟨(some 28), (.faddr 2 false 1), [.t 5], none, []⟩,
      ⟨(some 29), (.load false 1), [.t 28], none, [7]⟩,
      ⟨(some 30), (.bin .sub), [.t 27, .t 29], none, [6, 8]⟩,
      ⟨(some 31), (.build [(.imm (.int .i64 0)), (.imm (.int .i64 0))] [(0, 1), (1, 1)]), [.t 25, .t 30], none, [4, 9]⟩,
      ⟨(some 10), (.alloc [(.imm (.int .i64 0)), (.imm (.int .i64 0))]), [], none, []⟩,
      ⟨none, (.store 2), [.t 10, .t 31], none, [11, 10, 0, 1, 2, 3, 4, 5, 6, 7, 8, 9, 10, 11]⟩] false)
    (.seq
     (.region [⟨(some 11), (.alloc [(.imm (.int .i64 0)), (.imm (.int .i64 0))]), [], none, []⟩] false)
     (.seq
      (.seq
       (.region [⟨(some 32), (.faddr 0 true 2), [.t 3], none, []⟩,
         ⟨(some 33), (.load true 2), [.t 32], none, [0]⟩,
         ⟨(some 34), .mov, [.c (.int .i64 0)], none, []⟩] false)
       (.block 0
        (.loop b66l0)))
      (.keep [6, 7, 9, 11] [6, 7, 9, 11] b66k3))))))
def d66 : DFn := ⟨3, 95, [.cell 6 true 2, .cell 7 true 2, .tmp 8], b66⟩
theorem body66 : d66.body = b66 := rfl
theorem res66 : d66.res = [.cell 6 true 2, .cell 7 true 2, .tmp 8] := rfl
theorem k66 : chkFn Try.prog Try.f66 d66 = true := by kernel_rfl

/-- guidevane/lake.unless -/
def b67k0 : DCode :=
 (.seq
  (.region [⟨(some 6), .mov, [.t 1], none, []⟩,
    ⟨(some 4), .mov, [.t 6], none, [0, 0]⟩] false)
  .ret)
def b67 : DCode :=
 (.seq
  (.region [⟨(some 4), .mov, [.c (.int .i64 0)], none, []⟩] false)
  (.seq
   (.seq
    (.region [⟨(some 5), .mov, [.t 0], none, []⟩] false)
    (.cond (.t 5)
     (.seq
      (.region [⟨(some 4), .mov, [.c (.int .i64 0)], none, []⟩] false)
      .ret)
     .skip))
   (.keep [1] [] b67k0)))
def d67 : DFn := ⟨2, 7, [.tmp 4], b67⟩
theorem body67 : d67.body = b67 := rfl
theorem res67 : d67.res = [.tmp 4] := rfl
theorem k67 : chkFn Try.prog Try.f67 d67 = true := by kernel_rfl

/-- guidevane/lake.tableErr -/
def b68 : DCode :=
 (.seq
  (.region [⟨(some 1), .box, [.t 0], none, []⟩,
    ⟨(some 2), .mov, [.c (.int .i64 0)], none, []⟩] false)
  (.seq
   (.region [⟨(some 6), (.load true 1), [.t 1], none, []⟩,
     ⟨(some 7), .call, [.f 37, .t 6], none, [0]⟩,
     ⟨(some 5), .mov, [.t 7], none, [1]⟩,
     ⟨(some 8), (.ext 0), [.t 5], none, [2]⟩,
     ⟨(some 9), (.ext 1), [.t 5], none, [2]⟩,
     ⟨(some 3), .mov, [.t 8], none, [3, 1, 0, 1, 2, 3]⟩,
     ⟨(some 4), .mov, [.t 9], none, [4, 5, 0, 1, 2, 3, 4, 5]⟩] false)
   (.seq
    (.region [⟨(some 10), .mov, [.t 4], none, []⟩,
      ⟨(some 2), .mov, [.t 10], none, [0, 0]⟩] false)
    .ret)))
def d68 : DFn := ⟨1, 11, [.tmp 2], b68⟩
theorem body68 : d68.body = b68 := rfl
theorem res68 : d68.res = [.tmp 2] := rfl
theorem k68 : chkFn Try.prog Try.f68 d68 = true := by kernel_rfl

/-- guidevane/lake.within -/
def b69 : DCode :=
 (.seq
  (.region [⟨(some 6), .mov, [.c (.bool false)], none, []⟩] false)
  (.seq
   (.region [⟨(some 7), .mov, [.t 1], none, []⟩,
     ⟨(some 8), .mov, [.t 0], none, []⟩,
     ⟨(some 9), (.bin .leq), [.t 7, .t 8], none, [0, 1]⟩,
     ⟨(some 10), .mov, [.t 9], none, [2]⟩,
     ⟨(some 11), .mov, [.t 0], (some (10, true)), [3]⟩,
     ⟨(some 12), .mov, [.t 2], (some (10, true)), [3]⟩,
     ⟨(some 13), (.bin .leq), [.t 11, .t 12], (some (10, true)), [4, 5, 3]⟩,
     ⟨(some 14), .pick, [.t 10, .t 13, .c (.bool false)], none, [3, 6]⟩,
     ⟨(some 6), .mov, [.t 14], none, [7, 3, 0, 1, 2, 3, 4, 5, 6, 7]⟩] false)
   .ret))
def d69 : DFn := ⟨3, 15, [.tmp 6], b69⟩
theorem body69 : d69.body = b69 := rfl
theorem res69 : d69.res = [.tmp 6] := rfl
theorem k69 : chkFn Try.prog Try.f69 d69 = true := by kernel_rfl

/-- guidevane/lake.permitted -/
def b72k0 : DCode :=
 (.seq
  (.block 3
   (.seq
    (.region [⟨(some 48), (.iaddr 1), [.t 44, .t 46], none, []⟩,
      ⟨(some 49), (.load false 1), [.t 48], none, [0]⟩,
      ⟨(some 16), .mov, [.t 49], none, [1, 0, 1]⟩] false)
    (.region [⟨(some 50), .mov, [.t 14], none, []⟩,
      ⟨(some 51), .mov, [.t 16], none, []⟩,
      ⟨(some 52), (.bin .add), [.t 50, .t 51], none, [0, 1]⟩,
      ⟨(some 14), .mov, [.t 52], none, [2, 0, 1, 2]⟩] false)))
  (.region [⟨(some 53), (.bin .add), [.t 46, .c (.int .i64 1)], none, []⟩,
    ⟨(some 46), .mov, [.t 53], none, [0]⟩] false))
def b72l0 : DCode := .keep [1, 9, 11, 13, 14, 35, 36, 37, 44, 45, 46] [9, 11, 13, 73]
  (.seq
   (.region [⟨(some 47), (.bin .lss), [.t 46, .t 45], none, []⟩] false)
   (.seq
    (.cond (.t 47)
     .skip
     (.exit 2))
    (.keep [1, 9, 11, 13, 14, 35, 36, 37, 44, 45, 46] [9, 11, 13, 73] b72k0)))
def b72k1 : DCode :=
 (.region [⟨(some 54), .mov, [.t 11], none, []⟩,
   ⟨(some 55), (.load true 1), [.t 9], none, []⟩,
   ⟨(some 56), (.faddr 1 true 2), [.t 13], none, []⟩,
   ⟨(some 57), (.faddr 0 false 1), [.t 56], none, [2]⟩,
   ⟨(some 58), (.load false 1), [.t 57], none, [3]⟩,
   ⟨(some 59), .call, [.f 82, .t 55, .t 58], none, [1, 4]⟩,
   ⟨(some 60), (.field 1 false 1), [.t 59], none, [5]⟩,
   ⟨(some 61), .mov, [.t 14], none, []⟩,
   ⟨(some 62), (.bin .sub), [.t 60, .t 61], none, [6, 7]⟩,
   ⟨(some 63), (.load true 1), [.t 9], none, []⟩,
   ⟨(some 64), (.faddr 1 true 2), [.t 13], none, []⟩,
   ⟨(some 65), (.faddr 1 false 1), [.t 64], none, [10]⟩,
   ⟨(some 66), (.load false 1), [.t 65], none, [11]⟩,
   ⟨(some 67), .call, [.f 82, .t 63, .t 66], none, [9, 12, 5]⟩,
   ⟨(some 68), (.field 0 false 1), [.t 67], none, [13]⟩,
   ⟨(some 69), .mov, [.t 14], none, []⟩,
   ⟨(some 70), (.bin .sub), [.t 68, .t 69], none, [14, 15]⟩,
   ⟨(some 71), (.build [(.imm (.int .i64 0)), (.imm (.int .i64 0))] [(0, 1), (1, 1)]), [.t 62, .t 70], none, [8, 16]⟩,
   ⟨(some 72), (.bsl 2), [.t 71], none, [17]⟩,
   ⟨(some 73), (.append 2 16 false), [.t 54, .t 72], none, [0, 18, 13]⟩,
   ⟨(some 11), .mov, [.t 73], none, [19, 19, 0, 1, 2, 3, 4, 5, 6, 7, 8, 9, 10, 11, 12, 13, 14, 15, 16, 17, 18, 19]⟩] true)
def b72k2 : DCode :=
 (.region [⟨(some 74), (.bin .add), [.t 37, .c (.int .i64 1)], none, []⟩,
   ⟨(some 37), .mov, [.t 74], none, [0]⟩] false)
def b72k3 : DCode :=
 (.seq
  (.block 1
   (.seq
    (.region [⟨(some 39), (.iaddr 3), [.t 35, .t 37], none, []⟩,
      ⟨(some 40), (.load true 3), [.t 39], none, [0]⟩,
      ⟨(some 13), (.alloc [(.imm (.int .i64 0)), (.imm (.int .i64 0)), (.imm (.int .i64 0))]), [], none, []⟩,
      ⟨none, (.store 3), [.t 13, .t 40], none, [2, 1, 0, 1, 2]⟩] false)
    (.seq
     (.region [⟨(some 14), .mov, [.c (.int .i64 0)], none, []⟩] false)
     (.seq
      (.seq
       (.region [⟨(some 41), .movv, [.t 1], none, []⟩,
         ⟨(some 42), (.faddr 0 false 1), [.t 13], none, []⟩,
         ⟨(some 43), (.load false 1), [.t 42], none, [1]⟩,
         ⟨(some 44), (.slice 1 false true), [.t 41, .t 43], none, [0, 2]⟩,
         ⟨(some 45), .len, [.t 44], none, [3]⟩,
         ⟨(some 46), .mov, [.c (.int .i64 0)], none, []⟩] false)
       (.block 2
        (.loop b72l0)))
      (.keep [1, 9, 11, 13, 14, 35, 36, 37] [9, 11, 13, 73] b72k1)))))
  (.keep [1, 9, 11, 35, 36, 37] [9, 11, 73] b72k2))
def b72l1 : DCode := .keep [1, 9, 11, 35, 36, 37] [9, 11, 73]
  (.seq
   (.region [⟨(some 38), (.bin .lss), [.t 37, .t 36], none, []⟩] false)
   (.seq
    (.cond (.t 38)
     .skip
     (.exit 0))
    (.keep [1, 9, 11, 35, 36, 37] [9, 11, 73] b72k3)))
def b72k4 : DCode :=
 (.seq
  (.region [⟨(some 75), .movv, [.t 11], none, []⟩,
    ⟨(some 6), .movv, [.t 75], none, [0, 0]⟩,
    ⟨(some 7), .mov, [.c (.int .i64 0)], none, [1, 0, 1]⟩] false)
  .ret)
def b72k5 : DCode :=
 (.seq
  (.region [⟨(some 11), (.ntok 2), [.c (.slc 2 [])], none, []⟩] false)
  (.seq
   (.seq
    (.region [⟨(some 35), .movv, [.t 2], none, []⟩,
      ⟨(some 36), .len, [.t 35], none, [0]⟩,
      ⟨(some 37), .mov, [.c (.int .i64 0)], none, []⟩] false)
    (.block 0
     (.loop b72l1)))
   (.keep [11] [11, 73] b72k4)))
def b72k6 : DCode :=
 (.seq
  (.region [⟨(some 26), (.load true 1), [.t 3], none, []⟩,
    ⟨(some 27), (.build [(.imm (.slc 2 []))] [(0, 1)]), [.t 26], none, [0]⟩,
    ⟨(some 9), (.alloc [(.imm (.slc 2 []))]), [], none, []⟩,
    ⟨none, (.store 1), [.t 9, .t 27], none, [2, 1, 0, 1, 2]⟩] false)
  (.seq
   (.seq
    (.region [⟨(some 28), (.load true 1), [.t 9], none, []⟩,
      ⟨(some 29), .movv, [.t 1], none, []⟩,
      ⟨(some 30), .movv, [.t 2], none, []⟩,
      ⟨(some 31), .call, [.f 105, .t 28, .t 29, .t 30], none, [0, 1, 2]⟩,
      ⟨(some 10), .mov, [.t 31], none, [3, 3, 0, 1, 2, 3]⟩] false)
    (.seq
     (.region [⟨(some 32), .mov, [.t 10], none, []⟩,
       ⟨(some 33), (.bin .neq), [.t 32, .c (.int .i64 0)], none, [0]⟩] false)
     (.cond (.t 33)
      (.seq
       (.region [⟨(some 34), .mov, [.t 10], none, []⟩,
         ⟨(some 6), .mov, [.c (.slc 2 [])], none, []⟩,
         ⟨(some 7), .mov, [.t 34], none, [0, 1, 0, 1]⟩] false)
       .ret)
      .skip)))
   (.keep [1, 2, 9] [9] b72k5)))
def b72 : DCode :=
 (.seq
  (.region [⟨(some 3), .box, [.t 0], none, []⟩,
    ⟨(some 6), .mov, [.c (.slc 2 [])], none, []⟩,
    ⟨(some 7), .mov, [.c (.int .i64 0)], none, [1]⟩] false)
  (.seq
   (.seq
    (.region [⟨(some 17), (.load true 1), [.t 3], none, []⟩,
      ⟨(some 18), .call, [.f 68, .t 17], none, [0]⟩,
      ⟨(some 19), .movv, [.t 1], none, []⟩,
      ⟨(some 20), .call, [.f 104, .t 19], none, [2, 1]⟩,
      ⟨(some 21), (.bsl 1), [.t 18, .t 20], none, [1, 3]⟩,
      ⟨(some 22), .call, [.f 64, .t 21], none, [4, 3]⟩,
      ⟨(some 8), .mov, [.t 22], none, [5, 5, 0, 1, 2, 3, 4, 5]⟩] false)
    (.seq
     (.region [⟨(some 23), .mov, [.t 8], none, []⟩,
       ⟨(some 24), (.bin .neq), [.t 23, .c (.int .i64 0)], none, [0]⟩] false)
     (.cond (.t 24)
      (.seq
       (.region [⟨(some 25), .mov, [.t 8], none, []⟩,
         ⟨(some 6), .mov, [.c (.slc 2 [])], none, []⟩,
         ⟨(some 7), .mov, [.t 25], none, [0, 1, 0, 1]⟩] false)
       .ret)
      .skip)))
   (.keep [1, 2, 3] [3] b72k6)))
def d72 : DFn := ⟨3, 76, [.tmp 6, .tmp 7], b72⟩
theorem body72 : d72.body = b72 := rfl
theorem res72 : d72.res = [.tmp 6, .tmp 7] := rfl
theorem k72 : chkFn Try.prog Try.f72 d72 = true := by kernel_rfl

/-- guidevane/lake.common -/
def b73k0 : DCode :=
 (.seq
  (.block 1
   (.seq
    (.region [⟨(some 15), (.iaddr 2), [.t 11, .t 13], none, []⟩,
      ⟨(some 16), (.load true 2), [.t 15], none, [0]⟩,
      ⟨(some 6), (.alloc [(.imm (.int .i64 0)), (.imm (.int .i64 0))]), [], none, []⟩,
      ⟨none, (.store 2), [.t 6, .t 16], none, [2, 1, 0, 1, 2]⟩] false)
    (.region [⟨(some 17), (.faddr 0 false 1), [.t 4], none, []⟩,
      ⟨(some 18), (.load false 1), [.t 17], none, [0]⟩,
      ⟨(some 19), (.faddr 0 false 1), [.t 6], none, []⟩,
      ⟨(some 20), (.load false 1), [.t 19], none, [2]⟩,
      ⟨(some 21), (.mm true), [.t 18, .t 20], none, [1, 3]⟩,
      ⟨(some 22), (.faddr 1 false 1), [.t 4], none, []⟩,
      ⟨(some 23), (.load false 1), [.t 22], none, [5]⟩,
      ⟨(some 24), (.faddr 1 false 1), [.t 6], none, []⟩,
      ⟨(some 25), (.load false 1), [.t 24], none, [7]⟩,
      ⟨(some 26), (.mm false), [.t 23, .t 25], none, [6, 8]⟩,
      ⟨(some 27), (.build [(.imm (.int .i64 0)), (.imm (.int .i64 0))] [(0, 1), (1, 1)]), [.t 21, .t 26], none, [4, 9]⟩,
      ⟨none, (.store 2), [.t 4, .t 27], none, [10, 0, 1, 2, 3, 4, 5, 6, 7, 8, 9, 10]⟩] false)))
  (.region [⟨(some 28), (.bin .add), [.t 13, .c (.int .i64 1)], none, []⟩,
    ⟨(some 13), .mov, [.t 28], none, [0]⟩] false))
def b73l0 : DCode := .keep [2, 4, 11, 12, 13] [2, 4]
  (.seq
   (.region [⟨(some 14), (.bin .lss), [.t 13, .t 12], none, []⟩] false)
   (.seq
    (.cond (.t 14)
     .skip
     (.exit 0))
    (.keep [2, 4, 11, 12, 13] [2, 4] b73k0)))
def b73k1 : DCode :=
 (.seq
  (.region [⟨(some 29), (.loadf true 2 [4]), [.t 4], none, []⟩,
    ⟨(some 30), (.faddr 0 false 1), [.t 4], none, []⟩,
    ⟨(some 31), (.loadf false 1 [4]), [.t 30], none, [1]⟩,
    ⟨(some 32), (.faddr 1 false 1), [.t 4], none, []⟩,
    ⟨(some 33), (.loadf false 1 [4]), [.t 32], none, [3]⟩,
    ⟨(some 34), (.bin .leq), [.t 31, .t 33], none, [2, 4]⟩,
    ⟨none, (.storef 2 [2]), [.t 2, .t 29], none, [0, 0]⟩,
    ⟨(some 3), .mov, [.t 34], none, [5, 6, 0, 1, 2, 3, 4, 5, 6]⟩] true)
  .ret)
def b73 : DCode :=
 (.seq
  (.region [⟨(some 2), (.alloc [(.imm (.int .i64 0)), (.imm (.int .i64 0))]), [], none, []⟩,
    ⟨(some 3), .mov, [.c (.bool false)], none, []⟩] false)
  (.seq
   (.region [⟨(some 7), .movv, [.t 0], none, []⟩,
     ⟨(some 8), (.iaddr 2), [.t 7, .c (.int .i64 0)], none, [0]⟩,
     ⟨(some 9), (.load true 2), [.t 8], none, [1]⟩,
     ⟨(some 4), (.alloc [(.imm (.int .i64 0)), (.imm (.int .i64 0))]), [], none, []⟩,
     ⟨none, (.store 2), [.t 4, .t 9], none, [3, 2, 0, 1, 2, 3]⟩] false)
   (.seq
    (.seq
     (.region [⟨(some 10), .movv, [.t 0], none, []⟩,
       ⟨(some 11), (.slice 2 true false), [.t 10, .c (.int .i64 1)], none, [0]⟩,
       ⟨(some 12), .len, [.t 11], none, [1]⟩,
       ⟨(some 13), .mov, [.c (.int .i64 0)], none, []⟩] false)
     (.block 0
      (.loop b73l0)))
    (.keep [2, 4] [2, 4] b73k1))))
def d73 : DFn := ⟨1, 35, [.cell 2 true 2, .tmp 3], b73⟩
theorem body73 : d73.body = b73 := rfl
theorem res73 : d73.res = [.cell 2 true 2, .tmp 3] := rfl
theorem k73 : chkFn Try.prog Try.f73 d73 = true := by kernel_rfl

/-- guidevane/lake.openVolume -/
def b77k0 : DCode :=
 (.seq
  (.region [⟨(some 14), (.load true 1), [.t 2], none, []⟩,
    ⟨(some 15), (.build [(.imm (.slc 2 []))] [(0, 1)]), [.t 14], none, [0]⟩,
    ⟨(some 7), (.alloc [(.imm (.slc 2 []))]), [], none, []⟩,
    ⟨none, (.store 1), [.t 7, .t 15], none, [2, 1, 0, 1, 2]⟩] false)
  (.seq
   (.region [⟨(some 16), (.load true 1), [.t 7], none, []⟩,
     ⟨(some 17), (.load true 1), [.t 7], none, []⟩,
     ⟨(some 18), .mov, [.t 1], none, []⟩,
     ⟨(some 19), .call, [.f 106, .t 17, .t 18], none, [1, 2]⟩,
     ⟨(some 20), .call, [.f 67, .t 19, .c (.int .i64 2)], none, [3, 3]⟩,
     ⟨none, (.store 1), [.t 4, .t 16], none, [0, 4, 0]⟩,
     ⟨(some 5), .mov, [.t 20], none, [4, 5, 0, 1, 2, 3, 4, 5]⟩] true)
   .ret))
def b77 : DCode :=
 (.seq
  (.region [⟨(some 2), .box, [.t 0], none, []⟩,
    ⟨(some 4), (.alloc [(.imm (.slc 2 []))]), [], none, []⟩,
    ⟨(some 5), .mov, [.c (.int .i64 0)], none, []⟩] false)
  (.seq
   (.seq
    (.region [⟨(some 8), (.load true 1), [.t 2], none, []⟩,
      ⟨(some 9), .call, [.f 68, .t 8], none, [0]⟩,
      ⟨(some 6), .mov, [.t 9], none, [1, 1, 0, 1]⟩] false)
    (.seq
     (.region [⟨(some 10), .mov, [.t 6], none, []⟩,
       ⟨(some 11), (.bin .neq), [.t 10, .c (.int .i64 0)], none, [0]⟩] false)
     (.cond (.t 11)
      (.seq
       (.region [⟨(some 12), (.build [(.imm (.slc 2 []))] []), [], none, []⟩,
         ⟨(some 13), .mov, [.t 6], none, []⟩,
         ⟨none, (.store 1), [.t 4, .t 12], none, [0, 0]⟩,
         ⟨(some 5), .mov, [.t 13], none, [1, 2, 0, 1, 2]⟩] false)
       .ret)
      .skip)))
   (.keep [1, 2, 4] [2, 4] b77k0)))
def d77 : DFn := ⟨2, 21, [.cell 4 true 1, .tmp 5], b77⟩
theorem body77 : d77.body = b77 := rfl
theorem res77 : d77.res = [.cell 4 true 1, .tmp 5] := rfl
theorem k77 : chkFn Try.prog Try.f77 d77 = true := by kernel_rfl

/-- (guidevane/lake.table).levelAt -/
def b78 : DCode :=
 (.seq
  (.region [⟨(some 2), .box, [.t 0], none, []⟩,
    ⟨(some 4), (.alloc [(.imm (.int .i64 0)), (.imm (.int .i64 0)), (.imm (.int .i64 0))]), [], none, []⟩] false)
  (.seq
   (.region [⟨(some 7), (.load true 1), [.t 2], none, []⟩,
     ⟨(some 8), .mov, [.t 1], none, []⟩,
     ⟨(some 9), .call, [.f 83, .t 7, .t 8], none, [0, 1]⟩,
     ⟨(some 5), (.alloc [(.imm (.int .i64 0)), (.imm (.int .i64 0)), (.imm (.int .i64 0)), (.imm (.int .i64 0))]), [], none, []⟩,
     ⟨none, (.store 4), [.t 5, .t 9], none, [3, 2, 2, 0, 1, 2, 3]⟩] false)
   (.seq
    (.region [⟨(some 10), .mov, [.t 1], none, []⟩,
      ⟨(some 11), (.faddr 0 true 2), [.t 5], none, []⟩,
      ⟨(some 12), (.faddr 1 false 1), [.t 11], none, [1]⟩,
      ⟨(some 13), (.load false 1), [.t 12], none, [2]⟩,
      ⟨(some 14), (.bin .sub), [.t 10, .t 13], none, [0, 3]⟩,
      ⟨(some 15), (.load true 4), [.t 5], none, []⟩,
      ⟨(some 16), .call, [.f 79, .t 15], none, [5]⟩,
      ⟨(some 17), (.bin .mul), [.t 14, .t 16], none, [4, 6]⟩,
      ⟨(some 6), .mov, [.t 17], none, [7, 6, 0, 1, 2, 3, 4, 5, 6, 7]⟩] true)
    (.seq
     (.region [⟨(some 18), (.faddr 0 true 2), [.t 5], none, []⟩,
       ⟨(some 19), (.faddr 0 false 1), [.t 18], none, [0]⟩,
       ⟨(some 20), (.load false 1), [.t 19], none, [1]⟩,
       ⟨(some 21), .mov, [.t 6], none, []⟩,
       ⟨(some 22), (.load true 4), [.t 5], none, []⟩,
       ⟨(some 23), .call, [.f 80, .t 22], none, [4]⟩,
       ⟨(some 24), (.bin .quo), [.t 21, .t 23], none, [3, 5]⟩,
       ⟨(some 25), (.bin .add), [.t 20, .t 24], none, [2, 6]⟩,
       ⟨(some 26), .mov, [.t 6], none, []⟩,
       ⟨(some 27), (.load true 4), [.t 5], none, []⟩,
       ⟨(some 28), .call, [.f 80, .t 27], none, [9, 5]⟩,
       ⟨(some 29), (.bin .rem), [.t 26, .t 28], none, [8, 10]⟩,
       ⟨(some 30), (.load true 4), [.t 5], none, []⟩,
       ⟨(some 31), .call, [.f 80, .t 30], none, [12, 10]⟩,
       ⟨(some 32), (.build [(.imm (.int .i64 0)), (.imm (.int .i64 0)), (.imm (.int .i64 0))] [(0, 1), (1, 1), (2, 1)]), [.t 25, .t 29, .t 31], none, [7, 11, 13]⟩,
       ⟨none, (.store 3), [.t 4, .t 32], none, [14, 13, 0, 1, 2, 3, 4, 5, 6, 7, 8, 9, 10, 11, 12, 13, 14]⟩] true)
     .ret))))
def d78 : DFn := ⟨2, 33, [.cell 4 true 3], b78⟩
theorem body78 : d78.body = b78 := rfl
theorem res78 : d78.res = [.cell 4 true 3] := rfl
theorem k78 : chkFn Try.prog Try.f78 d78 = true := by kernel_rfl

/-- (guidevane/lake.piece).height -/
def b79 : DCode :=
 (.seq
  (.region [⟨(some 1), .box, [.t 0], none, []⟩,
    ⟨(some 2), .mov, [.c (.int .i64 0)], none, []⟩] false)
  (.seq
   (.region [⟨(some 3), (.faddr 2 true 2), [.t 1], none, []⟩,
     ⟨(some 4), (.faddr 0 false 1), [.t 3], none, [0]⟩,
     ⟨(some 5), (.load false 1), [.t 4], none, [1]⟩,
     ⟨(some 6), (.faddr 0 true 2), [.t 1], none, []⟩,
     ⟨(some 7), (.faddr 0 false 1), [.t 6], none, [3]⟩,
     ⟨(some 8), (.load false 1), [.t 7], none, [4]⟩,
     ⟨(some 9), (.bin .sub), [.t 5, .t 8], none, [2, 5]⟩,
     ⟨(some 2), .mov, [.t 9], none, [6, 0, 1, 2, 3, 4, 5, 6]⟩] false)
   .ret))
def d79 : DFn := ⟨1, 10, [.tmp 2], b79⟩
theorem body79 : d79.body = b79 := rfl
theorem res79 : d79.res = [.tmp 2] := rfl
theorem k79 : chkFn Try.prog Try.f79 d79 = true := by kernel_rfl

/-- (guidevane/lake.piece).volume -/
def b80 : DCode :=
 (.seq
  (.region [⟨(some 1), .box, [.t 0], none, []⟩,
    ⟨(some 2), .mov, [.c (.int .i64 0)], none, []⟩] false)
  (.seq
   (.region [⟨(some 3), (.faddr 2 true 2), [.t 1], none, []⟩,
     ⟨(some 4), (.faddr 1 false 1), [.t 3], none, [0]⟩,
     ⟨(some 5), (.load false 1), [.t 4], none, [1]⟩,
     ⟨(some 6), (.faddr 0 true 2), [.t 1], none, []⟩,
     ⟨(some 7), (.faddr 1 false 1), [.t 6], none, [3]⟩,
     ⟨(some 8), (.load false 1), [.t 7], none, [4]⟩,
     ⟨(some 9), (.bin .sub), [.t 5, .t 8], none, [2, 5]⟩,
     ⟨(some 2), .mov, [.t 9], none, [6, 0, 1, 2, 3, 4, 5, 6]⟩] false)
   .ret))
def d80 : DFn := ⟨1, 10, [.tmp 2], b80⟩
theorem body80 : d80.body = b80 := rfl
theorem res80 : d80.res = [.tmp 2] := rfl
theorem k80 : chkFn Try.prog Try.f80 d80 = true := by kernel_rfl

/-- (guidevane/lake.piece).narrower -/
def b81 : DCode :=
 (.seq
  (.region [⟨(some 2), .box, [.t 0], none, []⟩,
    ⟨(some 3), .box, [.t 1], none, []⟩,
    ⟨(some 4), .mov, [.c (.bool false)], none, []⟩] false)
  (.seq
   (.region [⟨(some 5), (.load true 4), [.t 2], none, []⟩,
     ⟨(some 6), .call, [.f 80, .t 5], none, [0]⟩,
     ⟨(some 7), (.load true 4), [.t 3], none, []⟩,
     ⟨(some 8), .call, [.f 79, .t 7], none, [2, 1]⟩,
     ⟨(some 9), (.bin .mul), [.t 6, .t 8], none, [1, 3]⟩,
     ⟨(some 10), (.load true 4), [.t 3], none, []⟩,
     ⟨(some 11), .call, [.f 80, .t 10], none, [5, 3]⟩,
     ⟨(some 12), (.load true 4), [.t 2], none, []⟩,
     ⟨(some 13), .call, [.f 79, .t 12], none, [7, 6]⟩,
     ⟨(some 14), (.bin .mul), [.t 11, .t 13], none, [6, 8]⟩,
     ⟨(some 15), (.bin .lss), [.t 9, .t 14], none, [4, 9]⟩,
     ⟨(some 4), .mov, [.t 15], none, [10, 8, 0, 1, 2, 3, 4, 5, 6, 7, 8, 9, 10]⟩] true)
   .ret))
def d81 : DFn := ⟨2, 16, [.tmp 4], b81⟩
theorem body81 : d81.body = b81 := rfl
theorem res81 : d81.res = [.tmp 4] := rfl
theorem k81 : chkFn Try.prog Try.f81 d81 = true := by kernel_rfl

/-- (guidevane/lake.table).volumeAt -/
def b82 : DCode :=
 (.seq
  (.region [⟨(some 2), .box, [.t 0], none, []⟩,
    ⟨(some 3), .box, [.t 1], none, []⟩,
    ⟨(some 4), (.alloc [(.imm (.int .i64 0)), (.imm (.int .i64 0))]), [], none, []⟩] false)
  (.seq
   (.freeze [3]
    (.region [⟨(some 7), (.load true 1), [.t 2], none, []⟩,
      ⟨(some 8), (.mkfn 108 0), [.t 3], none, []⟩,
      ⟨(some 9), .call, [.f 107, .t 7, .t 8], none, [0, 1]⟩,
      ⟨(some 5), (.alloc [(.imm (.int .i64 0)), (.imm (.int .i64 0)), (.imm (.int .i64 0)), (.imm (.int .i64 0))]), [], none, []⟩,
      ⟨none, (.store 4), [.t 5, .t 9], none, [3, 2, 2, 0, 1, 2, 3]⟩] false))
   (.seq
    (.region [⟨(some 10), (.load false 1), [.t 3], none, []⟩,
      ⟨(some 11), (.faddr 0 true 2), [.t 5], none, []⟩,
      ⟨(some 12), (.faddr 0 false 1), [.t 11], none, [1]⟩,
      ⟨(some 13), (.load false 1), [.t 12], none, [2]⟩,
      ⟨(some 14), (.bin .sub), [.t 10, .t 13], none, [0, 3]⟩,
      ⟨(some 15), (.load true 4), [.t 5], none, []⟩,
      ⟨(some 16), .call, [.f 80, .t 15], none, [5]⟩,
      ⟨(some 17), (.bin .mul), [.t 14, .t 16], none, [4, 6]⟩,
      ⟨(some 6), .mov, [.t 17], none, [7, 6, 0, 1, 2, 3, 4, 5, 6, 7]⟩] true)
    (.seq
     (.region [⟨(some 18), (.faddr 0 true 2), [.t 5], none, []⟩,
       ⟨(some 19), (.faddr 1 false 1), [.t 18], none, [0]⟩,
       ⟨(some 20), (.load false 1), [.t 19], none, [1]⟩,
       ⟨(some 21), .mov, [.t 6], none, []⟩,
       ⟨(some 22), (.load true 4), [.t 5], none, []⟩,
       ⟨(some 23), .call, [.f 79, .t 22], none, [4]⟩,
       ⟨(some 24), .call, [.f 109, .t 21, .t 23], none, [3, 5, 5]⟩,
       ⟨(some 25), (.bin .add), [.t 20, .t 24], none, [2, 6]⟩,
       ⟨(some 26), (.faddr 0 true 2), [.t 5], none, []⟩,
       ⟨(some 27), (.faddr 1 false 1), [.t 26], none, [8]⟩,
       ⟨(some 28), (.load false 1), [.t 27], none, [9]⟩,
       ⟨(some 29), .mov, [.t 6], none, []⟩,
       ⟨(some 30), (.load true 4), [.t 5], none, []⟩,
       ⟨(some 31), .call, [.f 79, .t 30], none, [12, 6]⟩,
       ⟨(some 32), .call, [.f 110, .t 29, .t 31], none, [11, 13, 13]⟩,
       ⟨(some 33), (.bin .add), [.t 28, .t 32], none, [10, 14]⟩,
       ⟨(some 34), (.build [(.imm (.int .i64 0)), (.imm (.int .i64 0))] [(0, 1), (1, 1)]), [.t 25, .t 33], none, [7, 15]⟩,
       ⟨none, (.store 2), [.t 4, .t 34], none, [16, 14, 0, 1, 2, 3, 4, 5, 6, 7, 8, 9, 10, 11, 12, 13, 14, 15, 16]⟩] true)
     .ret))))
def d82 : DFn := ⟨2, 35, [.cell 4 true 2], b82⟩
theorem body82 : d82.body = b82 := rfl
theorem res82 : d82.res = [.cell 4 true 2] := rfl
theorem k82 : chkFn Try.prog Try.f82 d82 = true := by kernel_rfl

/-- (guidevane/lake.table).byVolume -/
def b83 : DCode :=
 (.seq
  (.region [⟨(some 2), .box, [.t 0], none, []⟩,
    ⟨(some 3), .box, [.t 1], none, []⟩,
    ⟨(some 4), (.alloc [(.imm (.int .i64 0)), (.imm (.int .i64 0)), (.imm (.int .i64 0)), (.imm (.int .i64 0))]), [], none, []⟩] false)
  (.seq
   (.freeze [3]
    (.region [⟨(some 5), (.load true 1), [.t 2], none, []⟩,
      ⟨(some 6), (.mkfn 111 0), [.t 3], none, []⟩,
      ⟨(some 7), .call, [.f 107, .t 5, .t 6], none, [0, 1]⟩,
      ⟨none, (.store 4), [.t 4, .t 7], none, [2, 2, 0, 1, 2]⟩] false))
   .ret))
def d83 : DFn := ⟨2, 8, [.cell 4 true 4], b83⟩
theorem body83 : d83.body = b83 := rfl
theorem res83 : d83.res = [.cell 4 true 4] := rfl
theorem k83 : chkFn Try.prog Try.f83 d83 = true := by kernel_rfl

/-- guidevane/lake.divisor -/
def b84k0 : DCode :=
 (.block 1
  (.region [⟨(some 7), .mov, [.t 1], none, []⟩,
    ⟨(some 8), .mov, [.t 0], none, []⟩,
    ⟨(some 9), .mov, [.t 1], none, []⟩,
    ⟨(some 10), (.bin .rem), [.t 8, .t 9], none, [1, 2]⟩,
    ⟨(some 0), .mov, [.t 7], none, [0, 0, 1]⟩,
    ⟨(some 1), .mov, [.t 10], none, [3, 4, 0, 1, 2, 3, 4]⟩] true))
def b84l0 : DCode := .keep [0, 1] []
  (.seq
   (.seq
    (.region [⟨(some 5), .mov, [.t 1], none, []⟩,
      ⟨(some 6), (.bin .neq), [.t 5, .c (.int .i64 0)], none, [0]⟩] false)
    (.cond (.t 6)
     .skip
     (.exit 0)))
   (.keep [0, 1] [] b84k0))
def b84k1 : DCode :=
 (.seq
  (.region [⟨(some 11), .mov, [.t 0], none, []⟩,
    ⟨(some 4), .mov, [.t 11], none, [0, 0]⟩] false)
  .ret)
def b84 : DCode :=
 (.seq
  (.region [⟨(some 4), .mov, [.c (.int .i64 0)], none, []⟩] false)
  (.seq
   (.block 0
    (.loop b84l0))
   (.keep [0] [] b84k1)))
def d84 : DFn := ⟨2, 12, [.tmp 4], b84⟩
theorem body84 : d84.body = b84 := rfl
theorem res84 : d84.res = [.tmp 4] := rfl
theorem k84 : chkFn Try.prog Try.f84 d84 = true := by kernel_rfl

/-- guidevane/lake.MinimumOn$1 -/
def b94 : DCode :=
 (.seq
  (.region [⟨(some 2), .mov, [.c (.bool false)], none, []⟩] false)
  (.seq
   (.region [⟨(some 3), .mov, [.t 0], none, []⟩,
     ⟨(some 4), .call, [.f 69, .t 3, .c (.int .i64 0), .c (.int .i64 364)], none, [0]⟩,
     ⟨(some 2), .mov, [.t 4], none, [1, 1, 0, 1]⟩] false)
   .ret))
def d94 : DFn := ⟨1, 5, [.tmp 2], b94⟩
theorem body94 : d94.body = b94 := rfl
theorem res94 : d94.res = [.tmp 2] := rfl
theorem k94 : chkFn Try.prog Try.f94 d94 = true := by kernel_rfl

/-- guidevane/lake.contains -/
def b95k0 : DCode :=
 (.seq
  (.region [⟨(some 16), .mov, [.t 1], none, []⟩,
    ⟨(some 17), (.faddr 0 false 1), [.t 2], none, []⟩,
    ⟨(some 18), (.load false 1), [.t 17], none, [1]⟩,
    ⟨(some 19), (.bin .geq), [.t 16, .t 18], none, [0, 2]⟩,
    ⟨(some 20), .mov, [.t 19], none, [3]⟩,
    ⟨(some 21), .mov, [.t 1], (some (20, false)), [4]⟩,
    ⟨(some 22), (.faddr 1 false 1), [.t 2], (some (20, false)), [4]⟩,
    ⟨(some 23), (.load false 1), [.t 22], (some (20, false)), [6, 4]⟩,
    ⟨(some 24), (.bin .leq), [.t 21, .t 23], (some (20, false)), [5, 7, 4]⟩,
    ⟨(some 25), .pick, [.t 20, .c (.bool true), .t 24], none, [4, 8]⟩,
    ⟨(some 4), .mov, [.t 25], none, [9, 4, 0, 1, 2, 3, 4, 5, 6, 7, 8, 9]⟩] false)
  .ret)
def b95 : DCode :=
 (.seq
  (.region [⟨(some 2), .box, [.t 0], none, []⟩,
    ⟨(some 4), .mov, [.c (.bool false)], none, []⟩] false)
  (.seq
   (.seq
    (.region [⟨(some 5), (.faddr 0 false 1), [.t 2], none, []⟩,
      ⟨(some 6), (.load false 1), [.t 5], none, [0]⟩,
      ⟨(some 7), (.faddr 1 false 1), [.t 2], none, []⟩,
      ⟨(some 8), (.load false 1), [.t 7], none, [2]⟩,
      ⟨(some 9), (.bin .leq), [.t 6, .t 8], none, [1, 3]⟩] false)
    (.cond (.t 9)
     (.seq
      (.region [⟨(some 10), .mov, [.t 1], none, []⟩,
        ⟨(some 11), (.faddr 0 false 1), [.t 2], none, []⟩,
        ⟨(some 12), (.load false 1), [.t 11], none, [1]⟩,
        ⟨(some 13), (.faddr 1 false 1), [.t 2], none, []⟩,
        ⟨(some 14), (.load false 1), [.t 13], none, [3]⟩,
        ⟨(some 15), .call, [.f 69, .t 10, .t 12, .t 14], none, [0, 2, 4]⟩,
        ⟨(some 4), .mov, [.t 15], none, [5, 5, 0, 1, 2, 3, 4, 5]⟩] false)
      .ret)
     .skip))
   (.keep [1, 2] [2] b95k0)))
def d95 : DFn := ⟨2, 26, [.tmp 4], b95⟩
theorem body95 : d95.body = b95 := rfl
theorem res95 : d95.res = [.tmp 4] := rfl
theorem k95 : chkFn Try.prog Try.f95 d95 = true := by kernel_rfl

/-- guidevane/lake.ticksErr -/
def b96k0 : DCode :=
 (.region [⟨(some 20), (.bin .add), [.t 11, .c (.int .i64 1)], none, []⟩,
   ⟨(some 11), .mov, [.t 20], none, [0]⟩] false)
def b96k1 : DCode :=
 (.seq
  (.block 1
   (.seq
    (.region [⟨(some 13), (.iaddr 3), [.t 9, .t 11], none, []⟩,
      ⟨(some 14), (.load true 3), [.t 13], none, [0]⟩,
      ⟨(some 4), (.alloc [(.imm (.int .i64 0)), (.imm (.int .i64 0)), (.imm (.int .i64 0))]), [], none, []⟩,
      ⟨none, (.store 3), [.t 4, .t 14], none, [2, 1, 0, 1, 2]⟩] false)
    (.seq
     (.region [⟨(some 15), (.load true 3), [.t 4], none, []⟩,
       ⟨(some 16), .call, [.f 65, .t 15], none, [0]⟩,
       ⟨(some 5), .mov, [.t 16], none, [1, 1, 0, 1]⟩] false)
     (.seq
      (.region [⟨(some 17), .mov, [.t 5], none, []⟩,
        ⟨(some 18), (.bin .neq), [.t 17, .c (.int .i64 0)], none, [0]⟩] false)
      (.cond (.t 18)
       (.seq
        (.region [⟨(some 19), .mov, [.t 5], none, []⟩,
          ⟨(some 2), .mov, [.t 19], none, [0, 0]⟩] false)
        .ret)
       .skip)))))
  (.keep [9, 10, 11] [] b96k0))
def b96l0 : DCode := .keep [9, 10, 11] []
  (.seq
   (.region [⟨(some 12), (.bin .lss), [.t 11, .t 10], none, []⟩] false)
   (.seq
    (.cond (.t 12)
     .skip
     (.exit 0))
    (.keep [9, 10, 11] [] b96k1)))
def b96k2 : DCode :=
 (.seq
  (.region [⟨(some 2), .mov, [.c (.int .i64 0)], none, []⟩] false)
  .ret)
def b96k3 : DCode :=
 (.seq
  (.seq
   (.region [⟨(some 9), .movv, [.t 0], none, []⟩,
     ⟨(some 10), .len, [.t 9], none, [0]⟩,
     ⟨(some 11), .mov, [.c (.int .i64 0)], none, []⟩] false)
   (.block 0
    (.loop b96l0)))
  (.keep [] [] b96k2))
def b96 : DCode :=
 (.seq
  (.region [⟨(some 2), .mov, [.c (.int .i64 0)], none, []⟩] false)
  (.seq
   (.seq
    (.region [⟨(some 6), .movv, [.t 0], none, []⟩,
      ⟨(some 7), .len, [.t 6], none, [0]⟩,
      ⟨(some 8), (.bin .gtr), [.t 7, .c (.int .i64 200)], none, [1]⟩] false)
    (.cond (.t 8)
     (.seq
      (.region [⟨(some 2), .mov, [.c (.int .i64 8)], none, []⟩] false)
      .ret)
     .skip))
   (.keep [0] [] b96k3)))
def d96 : DFn := ⟨1, 21, [.tmp 2], b96⟩
theorem body96 : d96.body = b96 := rfl
theorem res96 : d96.res = [.tmp 2] := rfl
theorem k96 : chkFn Try.prog Try.f96 d96 = true := by kernel_rfl

/-- guidevane/lake.openPair -/
def b97 : DCode :=
 (.seq
  (.region [⟨(some 1), .box, [.t 0], none, []⟩,
    ⟨(some 2), (.alloc [(.imm (.slc 2 [])), (.imm (.slc 2 [])), (.imm (.int .i64 0))]), [], none, []⟩,
    ⟨(some 3), .mov, [.c (.int .i64 0)], none, []⟩] false)
  (.seq
   (.region [⟨(some 4), (.faddr 0 true 1), [.t 1], none, []⟩,
     ⟨(some 5), (.load true 1), [.t 4], none, [0]⟩,
     ⟨(some 6), (.build [(.imm (.slc 2 []))] [(0, 1)]), [.t 5], none, [1]⟩,
     ⟨(some 7), (.faddr 1 true 1), [.t 1], none, []⟩,
     ⟨(some 8), (.load true 1), [.t 7], none, [3]⟩,
     ⟨(some 9), (.build [(.imm (.slc 2 []))] [(0, 1)]), [.t 8], none, [4]⟩,
     ⟨(some 10), (.build [(.imm (.slc 2 [])), (.imm (.slc 2 []))] [(0, 1), (1, 1)]), [.t 6, .t 9], none, [2, 5]⟩,
     ⟨(some 11), (.faddr 2 false 1), [.t 1], none, []⟩,
     ⟨(some 12), (.load false 1), [.t 11], none, [7]⟩,
     ⟨(some 13), (.build [(.imm (.slc 2 [])), (.imm (.slc 2 [])), (.imm (.int .i64 0))] [(0, 2), (2, 1)]), [.t 10, .t 12], none, [6, 8]⟩,
     ⟨(some 14), (.load true 3), [.t 1], none, []⟩,
     ⟨(some 15), .call, [.f 19, .t 14], none, [10]⟩,
     ⟨none, (.store 3), [.t 2, .t 13], none, [9, 11, 0, 1, 2, 3, 4, 5, 6, 7, 8, 9]⟩,
     ⟨(some 3), .mov, [.t 15], none, [11, 12, 0, 1, 2, 3, 4, 5, 6, 7, 8, 9, 10, 11, 12]⟩] true)
   .ret))
def d97 : DFn := ⟨1, 16, [.cell 2 true 3, .tmp 3], b97⟩
theorem body97 : d97.body = b97 := rfl
theorem res97 : d97.res = [.cell 2 true 3, .tmp 3] := rfl
theorem k97 : chkFn Try.prog Try.f97 d97 = true := by kernel_rfl

/-- (guidevane/lake.pair).stateErr -/
def b98 : DCode :=
 (.seq
  (.region [⟨(some 2), .box, [.t 0], none, []⟩,
    ⟨(some 3), .box, [.t 1], none, []⟩,
    ⟨(some 4), .mov, [.c (.int .i64 0)], none, []⟩] false)
  (.seq
   (.region [⟨(some 5), (.faddr 0 true 2), [.t 2], none, []⟩,
     ⟨(some 6), (.iarr 2 1 true), [.t 5, .c (.int .i64 0)], none, [0]⟩,
     ⟨(some 7), (.load true 1), [.t 6], none, [1]⟩,
     ⟨(some 8), (.faddr 0 false 1), [.t 3], none, []⟩,
     ⟨(some 9), (.load false 1), [.t 8], none, [3]⟩,
     ⟨(some 10), .call, [.f 106, .t 7, .t 9], none, [2, 4]⟩,
     ⟨(some 11), .mov, [.t 10], none, [5, 5]⟩,
     ⟨(some 12), (.faddr 0 true 2), [.t 2], (some (11, true)), [6]⟩,
     ⟨(some 13), (.iarr 2 1 true), [.t 12, .c (.int .i64 1)], (some (11, true)), [7, 6]⟩,
     ⟨(some 14), (.load true 1), [.t 13], (some (11, true)), [8, 6]⟩,
     ⟨(some 15), (.faddr 1 false 1), [.t 3], (some (11, true)), [6]⟩,
     ⟨(some 16), (.load false 1), [.t 15], (some (11, true)), [10, 6]⟩,
     ⟨(some 17), .call, [.f 106, .t 14, .t 16], (some (11, true)), [9, 11, 6, 6]⟩,
     ⟨(some 18), .pick, [.t 11, .t 17, .c (.bool false)], none, [6, 12]⟩,
     ⟨(some 19), .call, [.f 67, .t 18, .c (.int .i64 2)], none, [13, 12]⟩,
     ⟨(some 4), .mov, [.t 19], none, [14, 14, 0, 1, 2, 3, 4, 5, 6, 7, 8, 9, 10, 11, 12, 13, 14]⟩] false)
   .ret))
def d98 : DFn := ⟨2, 20, [.tmp 4], b98⟩
theorem body98 : d98.body = b98 := rfl
theorem res98 : d98.res = [.tmp 4] := rfl
theorem k98 : chkFn Try.prog Try.f98 d98 = true := by kernel_rfl

/-- guidevane/lake.flowsErr$1 -/
def b99 : DCode :=
 (.seq
  (.region [⟨(some 2), .mov, [.c (.bool false)], none, []⟩] false)
  (.seq
   (.region [⟨(some 3), .mov, [.t 0], none, []⟩,
     ⟨(some 4), .call, [.f 69, .t 3, .c (.int .i64 0), .c (.int .i64 10000000)], none, [0]⟩,
     ⟨(some 2), .mov, [.t 4], none, [1, 1, 0, 1]⟩] false)
   .ret))
def d99 : DFn := ⟨1, 5, [.tmp 2], b99⟩
theorem body99 : d99.body = b99 := rfl
theorem res99 : d99.res = [.tmp 2] := rfl
theorem k99 : chkFn Try.prog Try.f99 d99 = true := by kernel_rfl

/-- (guidevane/lake.table).evaporated -/
def b100 : DCode :=
 (.seq
  (.region [⟨(some 3), .box, [.t 0], none, []⟩,
    ⟨(some 6), .mov, [.c (.int .i64 0)], none, []⟩] false)
  (.seq
   (.region [⟨(some 8), (.load true 1), [.t 3], none, []⟩,
     ⟨(some 9), .mov, [.t 1], none, []⟩,
     ⟨(some 10), .call, [.f 83, .t 8, .t 9], none, [0, 1]⟩,
     ⟨(some 7), (.alloc [(.imm (.int .i64 0)), (.imm (.int .i64 0)), (.imm (.int .i64 0)), (.imm (.int .i64 0))]), [], none, []⟩,
     ⟨none, (.store 4), [.t 7, .t 10], none, [3, 2, 2, 0, 1, 2, 3]⟩] false)
   (.seq
    (.region [⟨(some 11), .mov, [.t 2], none, []⟩,
      ⟨(some 12), (.load true 4), [.t 7], none, []⟩,
      ⟨(some 13), .call, [.f 80, .t 12], none, [1]⟩,
      ⟨(some 14), (.bin .mul), [.t 11, .t 13], none, [0, 2]⟩,
      ⟨(some 15), (.load true 4), [.t 7], none, []⟩,
      ⟨(some 16), .call, [.f 79, .t 15], none, [4, 2]⟩,
      ⟨(some 17), (.bin .mul), [.c (.int .i64 1000), .t 16], none, [5]⟩,
      ⟨(some 18), (.bin .quo), [.t 14, .t 17], none, [3, 6]⟩,
      ⟨(some 19), .mov, [.t 1], none, []⟩,
      ⟨(some 20), (.load true 1), [.t 3], none, []⟩,
      ⟨(some 21), .call, [.f 62, .t 20], none, [9, 5]⟩,
      ⟨(some 22), (.field 1 false 1), [.t 21], none, [10]⟩,
      ⟨(some 23), (.bin .sub), [.t 19, .t 22], none, [8, 11]⟩,
      ⟨(some 24), (.mm false), [.t 18, .t 23], none, [7, 12]⟩,
      ⟨(some 6), .mov, [.t 24], none, [13, 10, 0, 1, 2, 3, 4, 5, 6, 7, 8, 9, 10, 11, 12, 13]⟩] true)
    .ret)))
def d100 : DFn := ⟨3, 25, [.tmp 6], b100⟩
theorem body100 : d100.body = b100 := rfl
theorem res100 : d100.res = [.tmp 6] := rfl
theorem k100 : chkFn Try.prog Try.f100 d100 = true := by kernel_rfl

/-- guidevane/lake.netErr -/
def b104k0 : DCode :=
 (.seq
  (.region [⟨(some 7), .movv, [.t 0], none, []⟩,
    ⟨(some 8), .call, [.f 122, .t 7, .f 123], none, [0]⟩,
    ⟨(some 3), .mov, [.t 8], none, [1, 1, 0, 1]⟩] false)
  (.seq
   (.region [⟨(some 9), .mov, [.t 3], none, []⟩,
     ⟨(some 10), (.un .not), [.t 9], none, [0]⟩,
     ⟨(some 11), .call, [.f 67, .t 10, .c (.int .i64 2)], none, [1]⟩,
     ⟨(some 2), .mov, [.t 11], none, [2, 2, 0, 1, 2]⟩] false)
   .ret))
def b104 : DCode :=
 (.seq
  (.region [⟨(some 2), .mov, [.c (.int .i64 0)], none, []⟩] false)
  (.seq
   (.seq
    (.region [⟨(some 4), .movv, [.t 0], none, []⟩,
      ⟨(some 5), .len, [.t 4], none, [0]⟩,
      ⟨(some 6), (.bin .gtr), [.t 5, .c (.int .i64 200)], none, [1]⟩] false)
    (.cond (.t 6)
     (.seq
      (.region [⟨(some 2), .mov, [.c (.int .i64 8)], none, []⟩] false)
      .ret)
     .skip))
   (.keep [0] [] b104k0)))
def d104 : DFn := ⟨1, 12, [.tmp 2], b104⟩
theorem body104 : d104.body = b104 := rfl
theorem res104 : d104.res = [.tmp 2] := rfl
theorem k104 : chkFn Try.prog Try.f104 d104 = true := by kernel_rfl

/-- (guidevane/lake.table).readingsErr -/
def b105k0 : DCode :=
 (.region [⟨(some 67), (.bin .add), [.t 29, .c (.int .i64 1)], none, []⟩,
   ⟨(some 29), .mov, [.t 67], none, [0]⟩] false)
def b105k1 : DCode :=
 (.seq
  (.block 1
   (.seq
    (.region [⟨(some 31), (.iaddr 3), [.t 27, .t 29], none, []⟩,
      ⟨(some 32), (.load true 3), [.t 31], none, [0]⟩,
      ⟨(some 10), (.alloc [(.imm (.int .i64 0)), (.imm (.int .i64 0)), (.imm (.int .i64 0))]), [], none, []⟩,
      ⟨none, (.store 3), [.t 10, .t 32], none, [2, 1, 0, 1, 2]⟩] false)
    (.seq
     (.region [⟨(some 33), (.faddr 0 false 1), [.t 10], none, []⟩,
       ⟨(some 34), (.load false 1), [.t 33], none, [0]⟩,
       ⟨(some 35), .movv, [.t 1], none, []⟩,
       ⟨(some 36), .len, [.t 35], none, [2]⟩,
       ⟨(some 37), .call, [.f 69, .t 34, .c (.int .i64 0), .t 36], none, [1, 3]⟩,
       ⟨(some 38), .mov, [.t 37], none, [4, 4]⟩,
       ⟨(some 39), .mov, [.t 8], (some (38, true)), [5]⟩,
       ⟨(some 40), (.faddr 1 true 2), [.t 10], (some (38, true)), [5]⟩,
       ⟨(some 41), (.faddr 0 false 1), [.t 40], (some (38, true)), [7, 5]⟩,
       ⟨(some 42), (.load false 1), [.t 41], (some (38, true)), [8, 5]⟩,
       ⟨(some 43), .call, [.t 39, .t 42], (some (38, true)), [6, 9, 5, 5]⟩,
       ⟨(some 44), .pick, [.t 38, .t 43, .c (.bool false)], none, [5, 10]⟩,
       ⟨(some 45), .mov, [.t 44], none, [11, 10]⟩,
       ⟨(some 46), .mov, [.t 8], (some (45, true)), [12]⟩,
       ⟨(some 47), (.faddr 1 true 2), [.t 10], (some (45, true)), [12]⟩,
       ⟨(some 48), (.faddr 1 false 1), [.t 47], (some (45, true)), [14, 12]⟩,
       ⟨(some 49), (.load false 1), [.t 48], (some (45, true)), [15, 12]⟩,
       ⟨(some 50), .call, [.t 46, .t 49], (some (45, true)), [13, 16, 12, 12]⟩,
       ⟨(some 51), .pick, [.t 45, .t 50, .c (.bool false)], none, [12, 17]⟩,
       ⟨(some 11), .mov, [.t 51], none, [18, 17, 0, 1, 2, 3, 4, 5, 6, 7, 8, 9, 10, 11, 12, 13, 14, 15, 16, 17, 18]⟩] false)
     (.seq
      (.region [⟨(some 52), .mov, [.t 11], none, []⟩,
        ⟨(some 53), .call, [.f 67, .t 52, .c (.int .i64 2)], none, [0]⟩,
        ⟨(some 54), (.faddr 1 true 2), [.t 10], none, []⟩,
        ⟨(some 55), (.faddr 0 false 1), [.t 54], none, [2]⟩,
        ⟨(some 56), (.load false 1), [.t 55], none, [3]⟩,
        ⟨(some 57), (.faddr 1 true 2), [.t 10], none, []⟩,
        ⟨(some 58), (.faddr 1 false 1), [.t 57], none, [5]⟩,
        ⟨(some 59), (.load false 1), [.t 58], none, [6]⟩,
        ⟨(some 60), (.bin .leq), [.t 56, .t 59], none, [4, 7]⟩,
        ⟨(some 61), .call, [.f 67, .t 60, .c (.int .i64 9)], none, [8, 1]⟩,
        ⟨(some 62), (.bsl 1), [.t 53, .t 61], none, [1, 9]⟩,
        ⟨(some 63), .call, [.f 64, .t 62], none, [10, 9]⟩,
        ⟨(some 12), .mov, [.t 63], none, [11, 11, 0, 1, 2, 3, 4, 5, 6, 7, 8, 9, 10, 11]⟩] true)
      (.seq
       (.region [⟨(some 64), .mov, [.t 12], none, []⟩,
         ⟨(some 65), (.bin .neq), [.t 64, .c (.int .i64 0)], none, [0]⟩] false)
       (.cond (.t 65)
        (.seq
         (.region [⟨(some 66), .mov, [.t 12], none, []⟩,
           ⟨(some 6), .mov, [.t 66], none, [0, 0]⟩] false)
         .ret)
        .skip))))))
  (.keep [1, 8, 27, 28, 29] [3] b105k0))
def b105l0 : DCode := .keep [1, 8, 27, 28, 29] [3]
  (.seq
   (.region [⟨(some 30), (.bin .lss), [.t 29, .t 28], none, []⟩] false)
   (.seq
    (.cond (.t 30)
     .skip
     (.exit 0))
    (.keep [1, 8, 27, 28, 29] [3] b105k1)))
def b105k2 : DCode :=
 (.seq
  (.region [⟨(some 6), .mov, [.c (.int .i64 0)], none, []⟩] false)
  .ret)
def b105k3 : DCode :=
 (.seq
  (.freeze [3]
   (.region [⟨(some 26), (.mkfn 124 0), [.t 3], none, []⟩,
     ⟨(some 8), .mov, [.t 26], none, [0, 0]⟩] false))
  (.seq
   (.seq
    (.region [⟨(some 27), .movv, [.t 2], none, []⟩,
      ⟨(some 28), .len, [.t 27], none, [0]⟩,
      ⟨(some 29), .mov, [.c (.int .i64 0)], none, []⟩] false)
    (.block 0
     (.loop b105l0)))
   (.keep [] [] b105k2)))
def b105 : DCode :=
 (.seq
  (.region [⟨(some 3), .box, [.t 0], none, []⟩,
    ⟨(some 6), .mov, [.c (.int .i64 0)], none, []⟩] false)
  (.seq
   (.seq
    (.region [⟨(some 13), .movv, [.t 2], none, []⟩,
      ⟨(some 14), .len, [.t 13], none, [0]⟩,
      ⟨(some 15), (.bin .gtr), [.t 14, .c (.int .i64 0)], none, [1]⟩,
      ⟨(some 16), .call, [.f 67, .t 15, .c (.int .i64 10)], none, [2]⟩,
      ⟨(some 17), .movv, [.t 2], none, []⟩,
      ⟨(some 18), .len, [.t 17], none, [4]⟩,
      ⟨(some 19), (.bin .leq), [.t 18, .c (.int .i64 10)], none, [5]⟩,
      ⟨(some 20), .call, [.f 67, .t 19, .c (.int .i64 8)], none, [6, 3]⟩,
      ⟨(some 21), (.bsl 1), [.t 16, .t 20], none, [3, 7]⟩,
      ⟨(some 22), .call, [.f 64, .t 21], none, [8, 7]⟩,
      ⟨(some 7), .mov, [.t 22], none, [9, 9, 0, 1, 2, 3, 4, 5, 6, 7, 8, 9]⟩] false)
    (.seq
     (.region [⟨(some 23), .mov, [.t 7], none, []⟩,
       ⟨(some 24), (.bin .neq), [.t 23, .c (.int .i64 0)], none, [0]⟩] false)
     (.cond (.t 24)
      (.seq
       (.region [⟨(some 25), .mov, [.t 7], none, []⟩,
         ⟨(some 6), .mov, [.t 25], none, [0, 0]⟩] false)
       .ret)
      .skip)))
   (.keep [1, 2, 3] [3] b105k3)))
def d105 : DFn := ⟨3, 68, [.tmp 6], b105⟩
theorem body105 : d105.body = b105 := rfl
theorem res105 : d105.res = [.tmp 6] := rfl
theorem k105 : chkFn Try.prog Try.f105 d105 = true := by kernel_rfl

/-- (guidevane/lake.table).holds -/
def b106 : DCode :=
 (.seq
  (.region [⟨(some 2), .box, [.t 0], none, []⟩,
    ⟨(some 4), .mov, [.c (.bool false)], none, []⟩] false)
  (.seq
   (.region [⟨(some 5), .mov, [.t 1], none, []⟩,
     ⟨(some 6), (.load true 1), [.t 2], none, []⟩,
     ⟨(some 7), .call, [.f 62, .t 6], none, [1]⟩,
     ⟨(some 8), (.field 1 false 1), [.t 7], none, [2]⟩,
     ⟨(some 9), (.load true 1), [.t 2], none, []⟩,
     ⟨(some 10), .call, [.f 63, .t 9], none, [4, 2]⟩,
     ⟨(some 11), (.field 1 false 1), [.t 10], none, [5]⟩,
     ⟨(some 12), .call, [.f 69, .t 5, .t 8, .t 11], none, [0, 3, 6, 5]⟩,
     ⟨(some 4), .mov, [.t 12], none, [7, 7, 0, 1, 2, 3, 4, 5, 6, 7]⟩] true)
   .ret))
def d106 : DFn := ⟨2, 13, [.tmp 4], b106⟩
theorem body106 : d106.body = b106 := rfl
theorem res106 : d106.res = [.tmp 4] := rfl
theorem k106 : chkFn Try.prog Try.f106 d106 = true := by kernel_rfl

/-- (guidevane/lake.table).pieceTo -/
def b107 : DCode :=
 (.seq
  (.region [⟨(some 2), .box, [.t 0], none, []⟩,
    ⟨(some 4), (.alloc [(.imm (.int .i64 0)), (.imm (.int .i64 0)), (.imm (.int .i64 0)), (.imm (.int .i64 0))]), [], none, []⟩] false)
  (.seq
   (.region [⟨(some 6), (.faddr 0 true 1), [.t 2], none, []⟩,
     ⟨(some 7), (.faddr 0 false 1), [.t 6], none, [0]⟩,
     ⟨(some 8), (.load false 1), [.t 7], none, [1]⟩,
     ⟨(some 9), (.slice 2 true false), [.t 8, .c (.int .i64 1)], none, [2]⟩,
     ⟨(some 10), .mov, [.t 1], none, []⟩,
     ⟨(some 11), .call, [.f 125, .t 9, .t 10], none, [3, 4]⟩,
     ⟨(some 12), (.bin .add), [.c (.int .i64 1), .t 11], none, [5]⟩,
     ⟨(some 5), .mov, [.t 12], none, [6, 5, 0, 1, 2, 3, 4, 5, 6]⟩] false)
   (.seq
    (.region [⟨(some 13), (.faddr 0 true 1), [.t 2], none, []⟩,
      ⟨(some 14), (.faddr 0 false 1), [.t 13], none, [0]⟩,
      ⟨(some 15), (.load false 1), [.t 14], none, [1]⟩,
      ⟨(some 16), .mov, [.t 5], none, []⟩,
      ⟨(some 17), (.bin .sub), [.t 16, .c (.int .i64 1)], none, [3]⟩,
      ⟨(some 18), (.iaddr 2), [.t 15, .t 17], none, [2, 4]⟩,
      ⟨(some 19), (.load true 2), [.t 18], none, [5]⟩,
      ⟨(some 20), (.faddr 0 true 1), [.t 2], none, []⟩,
      ⟨(some 21), (.faddr 0 false 1), [.t 20], none, [7]⟩,
      ⟨(some 22), (.load false 1), [.t 21], none, [8]⟩,
      ⟨(some 23), .mov, [.t 5], none, []⟩,
      ⟨(some 24), (.iaddr 2), [.t 22, .t 23], none, [9, 10]⟩,
      ⟨(some 25), (.load true 2), [.t 24], none, [11]⟩,
      ⟨(some 26), (.build [(.imm (.int .i64 0)), (.imm (.int .i64 0)), (.imm (.int .i64 0)), (.imm (.int .i64 0))] [(0, 2), (2, 2)]), [.t 19, .t 25], none, [6, 12]⟩,
      ⟨none, (.store 4), [.t 4, .t 26], none, [13, 0, 1, 2, 3, 4, 5, 6, 7, 8, 9, 10, 11, 12, 13]⟩] true)
    .ret)))
def d107 : DFn := ⟨2, 27, [.cell 4 true 4], b107⟩
theorem body107 : d107.body = b107 := rfl
theorem res107 : d107.res = [.cell 4 true 4] := rfl
theorem k107 : chkFn Try.prog Try.f107 d107 = true := by kernel_rfl

/-- (guidevane/lake.table).volumeAt$1 -/
def b108 : DCode :=
 (.seq
  (.region [⟨(some 2), .box, [.t 0], none, []⟩,
    ⟨(some 3), .mov, [.c (.bool false)], none, []⟩] false)
  (.seq
   (.region [⟨(some 4), (.faddr 0 false 1), [.t 2], none, []⟩,
     ⟨(some 5), (.load false 1), [.t 4], none, [0]⟩,
     ⟨(some 6), (.load false 1), [.t 1], none, []⟩,
     ⟨(some 7), (.bin .geq), [.t 5, .t 6], none, [1, 2]⟩,
     ⟨(some 3), .mov, [.t 7], none, [3, 0, 1, 2, 3]⟩] false)
   .ret))
def d108 : DFn := ⟨2, 8, [.tmp 3], b108⟩
theorem body108 : d108.body = b108 := rfl
theorem res108 : d108.res = [.tmp 3] := rfl
theorem k108 : chkFn Try.prog Try.f108 d108 = true := by kernel_rfl

/-- guidevane/lake.floor -/
def b109k0 : DCode :=
 (.seq
  (.region [⟨(some 15), .mov, [.t 5], none, []⟩,
    ⟨(some 4), .mov, [.t 15], none, [0, 0]⟩] false)
  .ret)
def b109 : DCode :=
 (.seq
  (.region [⟨(some 4), .mov, [.c (.int .i64 0)], none, []⟩] false)
  (.seq
   (.region [⟨(some 6), .mov, [.t 0], none, []⟩,
     ⟨(some 7), .mov, [.t 1], none, []⟩,
     ⟨(some 8), (.bin .quo), [.t 6, .t 7], none, [0, 1]⟩,
     ⟨(some 5), .mov, [.t 8], none, [2, 0, 1, 2]⟩] false)
   (.seq
    (.seq
     (.region [⟨(some 9), .mov, [.t 0], none, []⟩,
       ⟨(some 10), .mov, [.t 1], none, []⟩,
       ⟨(some 11), (.bin .rem), [.t 9, .t 10], none, [0, 1]⟩,
       ⟨(some 12), (.bin .lss), [.t 11, .c (.int .i64 0)], none, [2]⟩] false)
     (.cond (.t 12)
      (.region [⟨(some 13), .mov, [.t 5], none, []⟩,
        ⟨(some 14), (.bin .sub), [.t 13, .c (.int .i64 1)], none, [0]⟩,
        ⟨(some 5), .mov, [.t 14], none, [1, 0, 1]⟩] false)
      .skip))
    (.keep [5] [] b109k0))))
def d109 : DFn := ⟨2, 16, [.tmp 4], b109⟩
theorem body109 : d109.body = b109 := rfl
theorem res109 : d109.res = [.tmp 4] := rfl
theorem k109 : chkFn Try.prog Try.f109 d109 = true := by kernel_rfl

/-- guidevane/lake.ceil -/
def b110 : DCode :=
 (.seq
  (.region [⟨(some 4), .mov, [.c (.int .i64 0)], none, []⟩] false)
  (.seq
   (.region [⟨(some 5), .mov, [.t 0], none, []⟩,
     ⟨(some 6), (.un .neg), [.t 5], none, [0]⟩,
     ⟨(some 7), .mov, [.t 1], none, []⟩,
     ⟨(some 8), .call, [.f 109, .t 6, .t 7], none, [1, 2]⟩,
     ⟨(some 9), (.un .neg), [.t 8], none, [3]⟩,
     ⟨(some 4), .mov, [.t 9], none, [4, 3, 0, 1, 2, 3, 4]⟩] false)
   .ret))
def d110 : DFn := ⟨2, 10, [.tmp 4], b110⟩
theorem body110 : d110.body = b110 := rfl
theorem res110 : d110.res = [.tmp 4] := rfl
theorem k110 : chkFn Try.prog Try.f110 d110 = true := by kernel_rfl

/-- (guidevane/lake.table).byVolume$1 -/
def b111 : DCode :=
 (.seq
  (.region [⟨(some 2), .box, [.t 0], none, []⟩,
    ⟨(some 3), .mov, [.c (.bool false)], none, []⟩] false)
  (.seq
   (.region [⟨(some 4), (.faddr 1 false 1), [.t 2], none, []⟩,
     ⟨(some 5), (.load false 1), [.t 4], none, [0]⟩,
     ⟨(some 6), (.load false 1), [.t 1], none, []⟩,
     ⟨(some 7), (.bin .geq), [.t 5, .t 6], none, [1, 2]⟩,
     ⟨(some 3), .mov, [.t 7], none, [3, 0, 1, 2, 3]⟩] false)
   .ret))
def d111 : DFn := ⟨2, 8, [.tmp 3], b111⟩
theorem body111 : d111.body = b111 := rfl
theorem res111 : d111.res = [.tmp 3] := rfl
theorem k111 : chkFn Try.prog Try.f111 d111 = true := by kernel_rfl

/-- slices.ContainsFunc[[]int,int] -/
def b122 : DCode :=
 (.seq
  (.region [⟨(some 4), .mov, [.c (.bool false)], none, []⟩] false)
  (.seq
   (.region [⟨(some 5), .movv, [.t 0], none, []⟩,
     ⟨(some 6), .mov, [.t 1], none, []⟩,
     ⟨(some 7), .call, [.f 134, .t 5, .t 6], none, [0, 1]⟩,
     ⟨(some 8), (.bin .geq), [.t 7, .c (.int .i64 0)], none, [2]⟩,
     ⟨(some 4), .mov, [.t 8], none, [3, 2, 0, 1, 2, 3]⟩] false)
   .ret))
def d122 : DFn := ⟨2, 9, [.tmp 4], b122⟩
theorem body122 : d122.body = b122 := rfl
theorem res122 : d122.res = [.tmp 4] := rfl
theorem k122 : chkFn Try.prog Try.f122 d122 = true := by kernel_rfl

/-- guidevane/lake.netErr$1 -/
def b123 : DCode :=
 (.seq
  (.region [⟨(some 2), .mov, [.c (.bool false)], none, []⟩] false)
  (.seq
   (.region [⟨(some 3), .mov, [.t 0], none, []⟩,
     ⟨(some 4), .call, [.f 69, .t 3, .c (.int .i64 (-10000000)), .c (.int .i64 10000000)], none, [0]⟩,
     ⟨(some 5), (.un .not), [.t 4], none, [1]⟩,
     ⟨(some 2), .mov, [.t 5], none, [2, 1, 0, 1, 2]⟩] false)
   .ret))
def d123 : DFn := ⟨1, 6, [.tmp 2], b123⟩
theorem body123 : d123.body = b123 := rfl
theorem res123 : d123.res = [.tmp 2] := rfl
theorem k123 : chkFn Try.prog Try.f123 d123 = true := by kernel_rfl

/-- (guidevane/lake.table).readingsErr$1 -/
def b124 : DCode :=
 (.seq
  (.region [⟨(some 3), .mov, [.c (.bool false)], none, []⟩] false)
  (.seq
   (.region [⟨(some 4), .mov, [.t 0], none, []⟩,
     ⟨(some 5), (.load true 1), [.t 1], none, []⟩,
     ⟨(some 6), .call, [.f 62, .t 5], none, [1]⟩,
     ⟨(some 7), (.field 0 false 1), [.t 6], none, [2]⟩,
     ⟨(some 8), (.load true 1), [.t 1], none, []⟩,
     ⟨(some 9), .call, [.f 63, .t 8], none, [4, 2]⟩,
     ⟨(some 10), (.field 0 false 1), [.t 9], none, [5]⟩,
     ⟨(some 11), .call, [.f 69, .t 4, .t 7, .t 10], none, [0, 3, 6, 5]⟩,
     ⟨(some 3), .mov, [.t 11], none, [7, 7, 0, 1, 2, 3, 4, 5, 6, 7]⟩] true)
   .ret))
def d124 : DFn := ⟨2, 12, [.tmp 3], b124⟩
theorem body124 : d124.body = b124 := rfl
theorem res124 : d124.res = [.tmp 3] := rfl
theorem k124 : chkFn Try.prog Try.f124 d124 = true := by kernel_rfl

/-- slices.IndexFunc[[]guidevane/api.LakeKnot,guidevane/api.LakeKnot] -/
def b125k0 : DCode :=
 (.region [⟨(some 18), (.bin .add), [.t 8, .c (.int .i64 1)], none, []⟩,
   ⟨(some 8), .mov, [.t 18], none, [0]⟩] false)
def b125k1 : DCode :=
 (.seq
  (.block 1
   (.seq
    (.region [⟨(some 10), .mov, [.t 8], none, []⟩,
      ⟨(some 5), .mov, [.t 10], none, [0, 0]⟩] false)
    (.seq
     (.region [⟨(some 11), .mov, [.t 1], none, []⟩,
       ⟨(some 12), .movv, [.t 0], none, []⟩,
       ⟨(some 13), .mov, [.t 5], none, []⟩,
       ⟨(some 14), (.iaddr 2), [.t 12, .t 13], none, [1, 2]⟩,
       ⟨(some 15), (.load true 2), [.t 14], none, [3]⟩,
       ⟨(some 16), .call, [.t 11, .t 15], none, [0, 4]⟩] false)
     (.cond (.t 16)
      (.seq
       (.region [⟨(some 17), .mov, [.t 5], none, []⟩,
         ⟨(some 4), .mov, [.t 17], none, [0, 0]⟩] false)
       .ret)
      .skip))))
  (.keep [0, 1, 7, 8] [] b125k0))
def b125l0 : DCode := .keep [0, 1, 7, 8] []
  (.seq
   (.region [⟨(some 9), (.bin .lss), [.t 8, .t 7], none, []⟩] false)
   (.seq
    (.cond (.t 9)
     .skip
     (.exit 0))
    (.keep [0, 1, 7, 8] [] b125k1)))
def b125k2 : DCode :=
 (.seq
  (.region [⟨(some 4), .mov, [.c (.int .i64 (-1))], none, []⟩] false)
  .ret)
def b125 : DCode :=
 (.seq
  (.region [⟨(some 4), .mov, [.c (.int .i64 0)], none, []⟩] false)
  (.seq
   (.seq
    (.region [⟨(some 6), .movv, [.t 0], none, []⟩,
      ⟨(some 7), .len, [.t 6], none, [0]⟩,
      ⟨(some 8), .mov, [.c (.int .i64 0)], none, []⟩] false)
    (.block 0
     (.loop b125l0)))
   (.keep [] [] b125k2)))
def d125 : DFn := ⟨2, 19, [.tmp 4], b125⟩
theorem body125 : d125.body = b125 := rfl
theorem res125 : d125.res = [.tmp 4] := rfl
theorem k125 : chkFn Try.prog Try.f125 d125 = true := by kernel_rfl

/-- slices.IndexFunc[[]int,int] -/
def b134k0 : DCode :=
 (.region [⟨(some 18), (.bin .add), [.t 8, .c (.int .i64 1)], none, []⟩,
   ⟨(some 8), .mov, [.t 18], none, [0]⟩] false)
def b134k1 : DCode :=
 (.seq
  (.block 1
   (.seq
    (.region [⟨(some 10), .mov, [.t 8], none, []⟩,
      ⟨(some 5), .mov, [.t 10], none, [0, 0]⟩] false)
    (.seq
     (.region [⟨(some 11), .mov, [.t 1], none, []⟩,
       ⟨(some 12), .movv, [.t 0], none, []⟩,
       ⟨(some 13), .mov, [.t 5], none, []⟩,
       ⟨(some 14), (.iaddr 1), [.t 12, .t 13], none, [1, 2]⟩,
       ⟨(some 15), (.load false 1), [.t 14], none, [3]⟩,
       ⟨(some 16), .call, [.t 11, .t 15], none, [0, 4]⟩] false)
     (.cond (.t 16)
      (.seq
       (.region [⟨(some 17), .mov, [.t 5], none, []⟩,
         ⟨(some 4), .mov, [.t 17], none, [0, 0]⟩] false)
       .ret)
      .skip))))
  (.keep [0, 1, 7, 8] [] b134k0))
def b134l0 : DCode := .keep [0, 1, 7, 8] []
  (.seq
   (.region [⟨(some 9), (.bin .lss), [.t 8, .t 7], none, []⟩] false)
   (.seq
    (.cond (.t 9)
     .skip
     (.exit 0))
    (.keep [0, 1, 7, 8] [] b134k1)))
def b134k2 : DCode :=
 (.seq
  (.region [⟨(some 4), .mov, [.c (.int .i64 (-1))], none, []⟩] false)
  .ret)
def b134 : DCode :=
 (.seq
  (.region [⟨(some 4), .mov, [.c (.int .i64 0)], none, []⟩] false)
  (.seq
   (.seq
    (.region [⟨(some 6), .movv, [.t 0], none, []⟩,
      ⟨(some 7), .len, [.t 6], none, [0]⟩,
      ⟨(some 8), .mov, [.c (.int .i64 0)], none, []⟩] false)
    (.block 0
     (.loop b134l0)))
   (.keep [] [] b134k2)))
def d134 : DFn := ⟨2, 19, [.tmp 4], b134⟩
theorem body134 : d134.body = b134 := rfl
theorem res134 : d134.res = [.tmp 4] := rfl
theorem k134 : chkFn Try.prog Try.f134 d134 = true := by kernel_rfl

end Go.DI

