/- Contracts of areas. No condition. -/
import Derived.Test.YtdpfjbghiahbeaaKfGj
import Derived.Test.YtdpfjbghiahbeaaKfGs
/- The functions of Thoma's areas, as data. No condition. -/
namespace Go.DI
open Go.Proofs Go.RowKit
/-- guidevane/guidevaneref04.ThomaErr -/
def b64k0 : DCode :=
 (.region [⟨(some 18), .mov, [.t 4], none, []⟩,
   ⟨(some 19), (.bin .add), [.t 18, .c (.int .i64 1)], none, [0]⟩,
   ⟨(some 4), .mov, [.t 19], none, [1, 0, 1]⟩] false)
def b64k1 : DCode :=
 (.seq
  (.block 1
   (.seq
    (.region [⟨(some 20), .movv, [.t 3], none, []⟩,
      ⟨(some 21), .mov, [.t 4], none, []⟩,
      ⟨(some 22), (.iaddr 1), [.t 20, .t 21], none, [0, 1]⟩,
      ⟨(some 23), (.load false 1), [.t 22], none, [2]⟩,
      ⟨(some 24), .call, [.f 27, .t 23, .c (.int .i64 1), .c (.int .i64 1000)], none, [3]⟩,
      ⟨(some 25), (.un .not), [.t 24], none, [4]⟩] false)
    (.cond (.t 25)
     (.seq
      (.region [⟨(some 2), .mov, [.c (.int .i64 2)], none, []⟩] false)
      .ret)
     .skip)))
  (.keep [1, 3, 4] [1] b64k0))
def b64l0 : DCode := .keep [1, 3, 4] [1]
  (.seq
   (.seq
    (.region [⟨(some 14), .mov, [.t 4], none, []⟩,
      ⟨(some 15), .movv, [.t 3], none, []⟩,
      ⟨(some 16), .len, [.t 15], none, [1]⟩,
      ⟨(some 17), (.bin .lss), [.t 14, .t 16], none, [0, 2]⟩] false)
    (.cond (.t 17)
     .skip
     (.exit 0)))
   (.keep [1, 3, 4] [1] b64k1))
def b64k2 : DCode :=
 (.seq
  (.region [⟨(some 2), .mov, [.c (.int .i64 0)], none, []⟩] false)
  .ret)
def b64k3 : DCode :=
 (.seq
  (.seq
   (.region [⟨(some 26), (.faddr 4 false 1), [.t 1], none, []⟩,
     ⟨(some 27), (.load false 1), [.t 26], none, [0]⟩,
     ⟨(some 28), .call, [.f 27, .t 27, .c (.int .i64 1), .c (.int .i64 6)], none, [1]⟩,
     ⟨(some 29), (.un .not), [.t 28], none, [2]⟩] false)
   (.cond (.t 29)
    (.seq
     (.region [⟨(some 2), .mov, [.c (.int .i64 2)], none, []⟩] false)
     .ret)
    .skip))
  (.keep [] [] b64k2))
def b64 : DCode :=
 (.seq
  (.region [⟨(some 1), .box, [.t 0], none, []⟩,
    ⟨(some 2), .mov, [.c (.int .i64 0)], none, []⟩] false)
  (.seq
   (.region [⟨(some 5), (.faddr 0 false 1), [.t 1], none, []⟩,
     ⟨(some 6), (.load false 1), [.t 5], none, [0]⟩,
     ⟨(some 7), (.faddr 1 false 1), [.t 1], none, []⟩,
     ⟨(some 8), (.load false 1), [.t 7], none, [2]⟩,
     ⟨(some 9), (.faddr 2 false 1), [.t 1], none, []⟩,
     ⟨(some 10), (.load false 1), [.t 9], none, [4]⟩,
     ⟨(some 11), (.faddr 3 false 1), [.t 1], none, []⟩,
     ⟨(some 12), (.load false 1), [.t 11], none, [6]⟩,
     ⟨(some 13), (.bsl 1), [.t 6, .t 8, .t 10, .t 12], none, [1, 3, 5, 7]⟩,
     ⟨(some 3), .movv, [.t 13], none, [8, 0, 1, 2, 3, 4, 5, 6, 7, 8]⟩] false)
   (.seq
    (.seq
     (.region [⟨(some 4), .mov, [.c (.int .i64 0)], none, []⟩] false)
     (.block 0
      (.loop b64l0)))
    (.keep [1] [1] b64k3))))
def d64 : DFn := ⟨1, 30, [.tmp 2], b64⟩
theorem body64 : d64.body = b64 := rfl
theorem res64 : d64.res = [.tmp 2] := rfl
theorem k64 : chkFn Try.prog Try.f64 d64 = true := by kernel_rfl

/-- guidevane/guidevaneref04.thoma -/
def b125 : DCode :=
 (.seq
  (.region [⟨(some 1), .box, [.t 0], none, []⟩,
    ⟨(some 2), .mov, [.c (.int .i64 0)], none, []⟩,
    ⟨(some 3), .mov, [.c (.int .i64 0)], none, [1]⟩] false)
  (.seq
   (.region [⟨(some 4), (.faddr 0 false 1), [.t 1], none, []⟩,
     ⟨(some 5), (.load false 1), [.t 4], none, [0]⟩,
     ⟨(some 6), (.faddr 1 false 1), [.t 1], none, []⟩,
     ⟨(some 7), (.load false 1), [.t 6], none, [2]⟩,
     ⟨(some 8), (.bin .mul), [.t 5, .t 7], none, [1, 3]⟩,
     ⟨(some 9), (.bin .mul), [.t 8, .c (.int .i64 1000)], none, [4]⟩,
     ⟨(some 10), (.faddr 4 false 1), [.t 1], none, []⟩,
     ⟨(some 11), (.load false 1), [.t 10], none, [6]⟩,
     ⟨(some 12), (.bin .mul), [.t 9, .t 11], none, [5, 7]⟩,
     ⟨(some 13), (.faddr 2 false 1), [.t 1], none, []⟩,
     ⟨(some 14), (.load false 1), [.t 13], none, [9]⟩,
     ⟨(some 15), (.bin .mul), [.c (.int .i64 2), .t 14], none, [10]⟩,
     ⟨(some 16), (.faddr 3 false 1), [.t 1], none, []⟩,
     ⟨(some 17), (.load false 1), [.t 16], none, [12]⟩,
     ⟨(some 18), (.bin .mul), [.t 15, .t 17], none, [11, 13]⟩,
     ⟨(some 2), .mov, [.t 12], none, [8, 0, 1, 2, 3, 4, 5, 6, 7, 8]⟩,
     ⟨(some 3), .mov, [.t 18], none, [14, 15, 0, 1, 2, 3, 4, 5, 6, 7, 8, 9, 10, 11, 12, 13, 14, 15]⟩] true)
   .ret))
def d125 : DFn := ⟨1, 19, [.tmp 2, .tmp 3], b125⟩
theorem body125 : d125.body = b125 := rfl
theorem res125 : d125.res = [.tmp 2, .tmp 3] := rfl
theorem k125 : chkFn Try.prog Try.f125 d125 = true := by kernel_rfl

/-- guidevane/guidevaneref04.Thoma -/
def b65 : DCode :=
 (.seq
  (.region [⟨(some 1), .box, [.t 0], none, []⟩,
    ⟨(some 2), (.alloc [(.imm (.int .i64 0)), (.imm (.int .i64 0))]), [], none, []⟩,
    ⟨(some 3), .mov, [.c (.bool false)], none, []⟩] false)
  (.seq
   (.region [⟨(some 8), (.load true 5), [.t 1], none, []⟩,
     ⟨(some 9), .call, [.f 125, .t 8], none, [0]⟩,
     ⟨(some 7), .mov, [.t 9], none, [1]⟩,
     ⟨(some 10), (.ext 0), [.t 7], none, [2]⟩,
     ⟨(some 11), (.ext 1), [.t 7], none, [2]⟩,
     ⟨(some 4), .mov, [.t 10], none, [3, 1, 0, 1, 2, 3]⟩,
     ⟨(some 5), .mov, [.t 11], none, [4, 5, 0, 1, 2, 3, 4, 5]⟩] false)
   (.seq
    (.region [⟨(some 12), .mov, [.t 4], none, []⟩,
      ⟨(some 13), .mov, [.t 5], none, []⟩,
      ⟨(some 14), .call, [.f 126, .t 12, .t 13], none, [0, 1]⟩,
      ⟨(some 6), (.alloc [(.imm (.int .i64 0)), (.imm (.int .i64 0))]), [], none, []⟩,
      ⟨none, (.store 2), [.t 6, .t 14], none, [3, 2, 2, 0, 1, 2, 3]⟩] false)
    (.seq
     (.region [⟨(some 15), (.load true 2), [.t 6], none, []⟩,
       ⟨(some 16), (.load true 2), [.t 6], none, []⟩,
       ⟨(some 17), .call, [.f 70, .t 16], none, [1]⟩,
       ⟨none, (.store 2), [.t 2, .t 15], none, [0, 2, 0]⟩,
       ⟨(some 3), .mov, [.t 17], none, [2, 3, 0, 1, 2, 3]⟩] true)
     .ret))))
def d65 : DFn := ⟨1, 18, [.cell 2 true 2, .tmp 3], b65⟩
theorem body65 : d65.body = b65 := rfl
theorem res65 : d65.res = [.cell 2 true 2, .tmp 3] := rfl
theorem k65 : chkFn Try.prog Try.f65 d65 = true := by kernel_rfl

/-- guidevane/guidevaneref04.AreasErr -/
def b66k0 : DCode :=
 (.seq
  (.region [⟨(some 2), .mov, [.c (.int .i64 0)], none, []⟩] false)
  .ret)
def b66k1 : DCode :=
 (.seq
  (.seq
   (.region [⟨(some 13), (.faddr 0 false 1), [.t 1], none, []⟩,
     ⟨(some 14), (.load false 1), [.t 13], none, [0]⟩,
     ⟨(some 15), (.faddr 1 false 1), [.t 1], none, []⟩,
     ⟨(some 16), (.load false 1), [.t 15], none, [2]⟩,
     ⟨(some 17), (.bin .gtr), [.t 14, .t 16], none, [1, 3]⟩] false)
   (.cond (.t 17)
    (.seq
     (.region [⟨(some 2), .mov, [.c (.int .i64 9)], none, []⟩] false)
     .ret)
    .skip))
  (.keep [] [] b66k0))
def b66 : DCode :=
 (.seq
  (.region [⟨(some 1), .box, [.t 0], none, []⟩,
    ⟨(some 2), .mov, [.c (.int .i64 0)], none, []⟩] false)
  (.seq
   (.seq
    (.region [⟨(some 3), (.faddr 0 false 1), [.t 1], none, []⟩,
      ⟨(some 4), (.load false 1), [.t 3], none, [0]⟩,
      ⟨(some 5), .call, [.f 27, .t 4, .c (.int .i64 0), .c (.int .i64 1000000000)], none, [1]⟩,
      ⟨(some 6), (.un .not), [.t 5], none, [2]⟩,
      ⟨(some 7), .mov, [.t 6], none, [3, 2]⟩,
      ⟨(some 8), (.faddr 1 false 1), [.t 1], (some (7, false)), [4]⟩,
      ⟨(some 9), (.load false 1), [.t 8], (some (7, false)), [5, 4]⟩,
      ⟨(some 10), .call, [.f 27, .t 9, .c (.int .i64 0), .c (.int .i64 1000000000)], (some (7, false)), [6, 4, 4]⟩,
      ⟨(some 11), (.un .not), [.t 10], (some (7, false)), [7, 4]⟩,
      ⟨(some 12), .pick, [.t 7, .c (.bool true), .t 11], none, [4, 8]⟩] false)
    (.cond (.t 12)
     (.seq
      (.region [⟨(some 2), .mov, [.c (.int .i64 2)], none, []⟩] false)
      .ret)
     .skip))
   (.keep [1] [1] b66k1)))
def d66 : DFn := ⟨1, 18, [.tmp 2], b66⟩
theorem body66 : d66.body = b66 := rfl
theorem res66 : d66.res = [.tmp 2] := rfl
theorem k66 : chkFn Try.prog Try.f66 d66 = true := by kernel_rfl

/-- guidevane/guidevaneref04.Damped -/
def b67k0 : DCode :=
 (.seq
  (.region [⟨(some 4), .mov, [.c (.int .i64 1)], none, []⟩] false)
  .ret)
def b67 : DCode :=
 (.seq
  (.region [⟨(some 2), .box, [.t 0], none, []⟩,
    ⟨(some 3), .box, [.t 1], none, []⟩,
    ⟨(some 4), .mov, [.c (.int .i64 0)], none, []⟩] false)
  (.seq
   (.region [⟨(some 8), (.load true 5), [.t 2], none, []⟩,
     ⟨(some 9), .call, [.f 125, .t 8], none, [0]⟩,
     ⟨(some 7), .mov, [.t 9], none, [1]⟩,
     ⟨(some 10), (.ext 0), [.t 7], none, [2]⟩,
     ⟨(some 11), (.ext 1), [.t 7], none, [2]⟩,
     ⟨(some 5), .mov, [.t 10], none, [3, 1, 0, 1, 2, 3]⟩,
     ⟨(some 6), .mov, [.t 11], none, [4, 5, 0, 1, 2, 3, 4, 5]⟩] false)
   (.seq
    (.block 0
     (.seq
      (.region [⟨(some 13), (.faddr 0 false 1), [.t 3], none, []⟩,
        ⟨(some 14), (.load false 1), [.t 13], none, [0]⟩,
        ⟨(some 15), .mov, [.t 6], none, []⟩,
        ⟨(some 16), (.bin .mul), [.t 14, .t 15], none, [1, 2]⟩,
        ⟨(some 17), .mov, [.t 5], none, []⟩,
        ⟨(some 18), (.bin .gtr), [.t 16, .t 17], none, [3, 4]⟩,
        ⟨(some 12), .mov, [.t 18], none, [5]⟩] false)
      (.cond (.t 12)
       (.seq
        (.region [⟨(some 4), .mov, [.c (.int .i64 2)], none, []⟩] false)
        .ret)
       (.seq
        (.region [⟨(some 20), (.faddr 1 false 1), [.t 3], none, []⟩,
          ⟨(some 21), (.load false 1), [.t 20], none, [0]⟩,
          ⟨(some 22), .mov, [.t 6], none, []⟩,
          ⟨(some 23), (.bin .mul), [.t 21, .t 22], none, [1, 2]⟩,
          ⟨(some 24), .mov, [.t 5], none, []⟩,
          ⟨(some 25), (.bin .leq), [.t 23, .t 24], none, [3, 4]⟩,
          ⟨(some 19), .mov, [.t 25], none, [5]⟩] false)
        (.cond (.t 19)
         (.seq
          (.region [⟨(some 4), .mov, [.c (.int .i64 0)], none, []⟩] false)
          .ret)
         .skip)))))
    (.keep [] [] b67k0))))
def d67 : DFn := ⟨2, 26, [.tmp 4], b67⟩
theorem body67 : d67.body = b67 := rfl
theorem res67 : d67.res = [.tmp 4] := rfl
theorem k67 : chkFn Try.prog Try.f67 d67 = true := by kernel_rfl

/-- guidevane/guidevanebase.Mod -/
def b68k0 : DCode :=
 (.seq
  (.region [⟨(some 13), .mov, [.t 0], none, []⟩,
    ⟨(some 4), .mov, [.t 13], none, [0, 0]⟩] false)
  .ret)
def b68 : DCode :=
 (.seq
  (.region [⟨(some 4), .mov, [.c (.int .i64 0)], none, []⟩] false)
  (.seq
   (.region [⟨(some 5), .mov, [.t 0], none, []⟩,
     ⟨(some 6), .mov, [.t 1], none, []⟩,
     ⟨(some 7), (.bin .rem), [.t 5, .t 6], none, [0, 1]⟩,
     ⟨(some 0), .mov, [.t 7], none, [2, 0, 1, 2]⟩] false)
   (.seq
    (.seq
     (.region [⟨(some 8), .mov, [.t 0], none, []⟩,
       ⟨(some 9), (.bin .lss), [.t 8, .c (.int .i64 0)], none, [0]⟩] false)
     (.cond (.t 9)
      (.region [⟨(some 10), .mov, [.t 0], none, []⟩,
        ⟨(some 11), .mov, [.t 1], none, []⟩,
        ⟨(some 12), (.bin .add), [.t 10, .t 11], none, [0, 1]⟩,
        ⟨(some 0), .mov, [.t 12], none, [2, 0, 1, 2]⟩] false)
      .skip))
    (.keep [0] [] b68k0))))
def d68 : DFn := ⟨2, 14, [.tmp 4], b68⟩
theorem body68 : d68.body = b68 := rfl
theorem res68 : d68.res = [.tmp 4] := rfl
theorem k68 : chkFn Try.prog Try.f68 d68 = true := by kernel_rfl

/-- guidevane/guidevanebase.RatioFrom -/
def b72 : DCode :=
 (.seq
  (.region [⟨(some 1), .box, [.t 0], none, []⟩,
    ⟨(some 2), (.alloc [(.imm (.int .i64 0)), (.imm (.slc 1 [])), (.imm (.int .i64 0)), (.imm (.slc 1 []))]), [], none, []⟩] false)
  (.seq
   (.region [⟨(some 3), (.faddr 0 false 1), [.t 1], none, []⟩,
     ⟨(some 4), (.load false 1), [.t 3], none, [0]⟩,
     ⟨(some 5), (.faddr 1 false 1), [.t 1], none, []⟩,
     ⟨(some 6), (.load false 1), [.t 5], none, [2]⟩,
     ⟨(some 7), .call, [.f 130, .t 4, .t 6], none, [1, 3]⟩,
     ⟨none, (.store 4), [.t 2, .t 7], none, [4, 4, 0, 1, 2, 3, 4]⟩] false)
   .ret))
def d72 : DFn := ⟨1, 8, [.cell 2 true 4], b72⟩
theorem body72 : d72.body = b72 := rfl
theorem res72 : d72.res = [.cell 2 true 4] := rfl
theorem k72 : chkFn Try.prog Try.f72 d72 = true := by kernel_rfl

/-- guidevane/guidevanelaw04.SurgeAreas -/
def b10k0 : DCode :=
 (.seq
  (.region [⟨(some 163), (.load true 2), [.t 19], none, []⟩,
    ⟨(some 164), .call, [.f 69, .t 163], none, [0]⟩,
    ⟨(some 165), .mov, [.t 164], none, [1, 1]⟩,
    ⟨(some 166), (.load true 2), [.t 19], (some (165, true)), [2]⟩,
    ⟨(some 167), .call, [.f 70, .t 166], (some (165, true)), [3, 2, 2]⟩,
    ⟨(some 168), .pick, [.t 165, .t 167, .c (.bool false)], none, [2, 4]⟩,
    ⟨(some 169), .mov, [.t 168], none, [5, 4]⟩,
    ⟨(some 170), (.load true 2), [.t 19], (some (169, true)), [6]⟩,
    ⟨(some 171), .call, [.f 72, .t 170], (some (169, true)), [7, 6, 6]⟩,
    ⟨(some 172), .call, [.f 74, .c (.int .i64 2)], (some (169, true)), [8, 6]⟩,
    ⟨(some 173), (.load true 2), [.t 7], (some (169, true)), [6]⟩,
    ⟨(some 174), .call, [.f 72, .t 173], (some (169, true)), [10, 9, 6]⟩,
    ⟨(some 175), .call, [.f 73, .t 172, .t 174], (some (169, true)), [9, 11, 11, 6]⟩,
    ⟨(some 176), .call, [.f 71, .t 171, .t 175], (some (169, true)), [8, 12, 12, 6]⟩,
    ⟨(some 177), (.bin .eql), [.t 176, .c (.int .i64 0)], (some (169, true)), [13, 6]⟩,
    ⟨(some 178), .pick, [.t 169, .t 177, .c (.bool false)], none, [6, 14]⟩,
    ⟨(some 6), .mov, [.t 178], none, [15, 13, 0, 1, 2, 3, 4, 5, 6, 7, 8, 9, 10, 11, 12, 13, 14, 15]⟩] true)
  .ret)
def b10k1 : DCode :=
 (.seq
  (.region [⟨(some 144), (.load true 5), [.t 3], none, []⟩,
    ⟨(some 18), (.alloc [(.imm (.int .i64 0)), (.imm (.int .i64 0)), (.imm (.int .i64 0)), (.imm (.int .i64 0)), (.imm (.int .i64 0))]), [], none, []⟩,
    ⟨none, (.store 5), [.t 18, .t 144], none, [1, 0, 0, 1]⟩] false)
  (.seq
   (.region [⟨(some 145), (.faddr 4 false 1), [.t 3], none, []⟩,
     ⟨(some 146), (.load false 1), [.t 145], none, [0]⟩,
     ⟨(some 147), (.bin .mul), [.c (.int .i64 2), .t 146], none, [1]⟩,
     ⟨(some 148), (.faddr 4 false 1), [.t 18], none, [0, 1, 2]⟩,
     ⟨none, (.store 1), [.t 148, .t 147], none, [3, 2, 0, 1, 2]⟩] false)
   (.seq
    (.region [⟨(some 150), (.load true 5), [.t 18], none, []⟩,
      ⟨(some 151), .call, [.f 62, .t 150], none, [0]⟩,
      ⟨(some 149), .mov, [.t 151], none, [1]⟩,
      ⟨(some 152), (.ext 0), [.t 149], none, [2]⟩,
      ⟨(some 153), (.ext 1), [.t 149], none, [2]⟩,
      ⟨(some 19), (.alloc [(.imm (.int .i64 0)), (.imm (.int .i64 0))]), [], none, []⟩,
      ⟨none, (.store 2), [.t 19, .t 152], none, [5, 3, 1, 0, 1, 2, 3, 5]⟩,
      ⟨(some 20), .mov, [.t 153], none, [4, 6, 0, 1, 2, 3, 4, 5, 6]⟩] false)
    (.seq
     (.seq
      (.region [⟨(some 154), .mov, [.t 20], none, []⟩,
        ⟨(some 155), (.bin .neq), [.t 154, .c (.int .i64 0)], none, [0]⟩] false)
      (.cond (.t 155)
       (.seq
        (.region [⟨(some 156), .mov, [.t 20], none, []⟩,
          ⟨(some 157), (.bin .eql), [.t 156, .c (.int .i64 8)], none, [0]⟩,
          ⟨(some 158), .mov, [.t 157], none, [1]⟩,
          ⟨(some 159), (.load true 2), [.t 19], (some (158, true)), [2]⟩,
          ⟨(some 160), (.build [(.imm (.int .i64 0)), (.imm (.int .i64 0))] []), [], (some (158, true)), [2]⟩,
          ⟨(some 161), (.eqs [false, false] false), [.t 159, .t 160], (some (158, true)), [3, 4, 2]⟩,
          ⟨(some 162), .pick, [.t 158, .t 161, .c (.bool false)], none, [2, 5]⟩,
          ⟨(some 6), .mov, [.t 162], none, [6, 2, 0, 1, 2, 3, 4, 5, 6]⟩] false)
        .ret)
       .skip))
     (.keep [7, 19] [7, 19] b10k0)))))
def b10k2 : DCode :=
 (.seq
  (.seq
   (.region [⟨(some 137), .mov, [.t 13], none, []⟩,
     ⟨(some 138), (.un .not), [.t 137], none, [0]⟩,
     ⟨(some 139), .mov, [.t 138], none, [1]⟩,
     ⟨(some 140), (.faddr 4 false 1), [.t 3], (some (139, false)), [2]⟩,
     ⟨(some 141), (.load false 1), [.t 140], (some (139, false)), [3, 2]⟩,
     ⟨(some 142), (.bin .gtr), [.t 141, .c (.int .i64 3)], (some (139, false)), [4, 2]⟩,
     ⟨(some 143), .pick, [.t 139, .c (.bool true), .t 142], none, [2, 5]⟩] false)
   (.cond (.t 143)
    (.seq
     (.region [⟨(some 6), .mov, [.c (.bool true)], none, []⟩] false)
     .ret)
    .skip))
  (.keep [3, 7] [3, 7] b10k1))
def b10k3 : DCode :=
 (.seq
  (.region [⟨(some 113), (.faddr 0 false 1), [.t 4], none, []⟩,
    ⟨(some 114), (.load false 1), [.t 113], none, [0]⟩,
    ⟨(some 115), .mov, [.t 2], none, []⟩,
    ⟨(some 116), .call, [.f 68, .t 115, .c (.int .i64 1000)], none, [2]⟩,
    ⟨(some 117), (.bin .add), [.t 114, .t 116], none, [1, 3]⟩,
    ⟨(some 118), (.faddr 1 false 1), [.t 4], none, []⟩,
    ⟨(some 119), (.load false 1), [.t 118], none, [5]⟩,
    ⟨(some 120), .mov, [.t 2], none, []⟩,
    ⟨(some 121), .call, [.f 68, .t 120, .c (.int .i64 1000)], none, [7, 3]⟩,
    ⟨(some 122), (.bin .add), [.t 119, .t 121], none, [6, 8]⟩,
    ⟨(some 123), (.build [(.imm (.int .i64 0)), (.imm (.int .i64 0))] [(0, 1), (1, 1)]), [.t 117, .t 122], none, [4, 9]⟩,
    ⟨(some 15), (.alloc [(.imm (.int .i64 0)), (.imm (.int .i64 0))]), [], none, []⟩,
    ⟨none, (.store 2), [.t 15, .t 123], none, [11, 10, 8, 0, 1, 2, 3, 4, 5, 6, 7, 8, 9, 10, 11]⟩] true)
  (.seq
   (.region [⟨(some 125), (.load true 5), [.t 3], none, []⟩,
     ⟨(some 126), (.load true 2), [.t 15], none, []⟩,
     ⟨(some 127), .call, [.f 63, .t 125, .t 126], none, [0, 1]⟩,
     ⟨(some 124), .mov, [.t 127], none, [2]⟩,
     ⟨(some 128), (.ext 0), [.t 124], none, [3]⟩,
     ⟨(some 129), (.ext 1), [.t 124], none, [3]⟩,
     ⟨(some 16), .mov, [.t 128], none, [4, 2, 0, 1, 2, 3, 4]⟩,
     ⟨(some 17), .mov, [.t 129], none, [5, 6, 0, 1, 2, 3, 4, 5, 6]⟩] false)
   (.seq
    (.seq
     (.region [⟨(some 130), .mov, [.t 17], none, []⟩,
       ⟨(some 131), (.bin .neq), [.t 130, .c (.int .i64 0)], none, [0]⟩,
       ⟨(some 132), .mov, [.t 131], none, [1]⟩,
       ⟨(some 133), .mov, [.t 16], (some (132, false)), [2]⟩,
       ⟨(some 134), .mov, [.t 9], (some (132, false)), [2]⟩,
       ⟨(some 135), (.bin .lss), [.t 133, .t 134], (some (132, false)), [3, 4, 2]⟩,
       ⟨(some 136), .pick, [.t 132, .c (.bool true), .t 135], none, [2, 5]⟩] false)
     (.cond (.t 136)
      (.seq
       (.region [⟨(some 6), .mov, [.c (.bool false)], none, []⟩] false)
       .ret)
      .skip))
    (.keep [3, 7, 13] [3, 7] b10k2))))
def b10k4 : DCode :=
 (.seq
  (.seq
   (.region [⟨(some 103), .mov, [.t 2], none, []⟩,
     ⟨(some 104), (.bin .lss), [.t 103, .c (.int .i64 0)], none, [0]⟩,
     ⟨(some 105), .mov, [.t 104], none, [1]⟩,
     ⟨(some 106), (.faddr 1 false 1), [.t 4], (some (105, false)), [2]⟩,
     ⟨(some 107), (.load false 1), [.t 106], (some (105, false)), [3, 2]⟩,
     ⟨(some 108), .mov, [.t 2], (some (105, false)), [2]⟩,
     ⟨(some 109), .call, [.f 68, .t 108, .c (.int .i64 1000)], (some (105, false)), [5, 2, 2]⟩,
     ⟨(some 110), (.bin .sub), [.c (.int .i64 1000000000), .t 109], (some (105, false)), [6, 2]⟩,
     ⟨(some 111), (.bin .gtr), [.t 107, .t 110], (some (105, false)), [4, 7, 2]⟩,
     ⟨(some 112), .pick, [.t 105, .c (.bool true), .t 111], none, [2, 8]⟩] true)
   (.cond (.t 112)
    (.seq
     (.region [⟨(some 6), .mov, [.c (.bool true)], none, []⟩] false)
     .ret)
    .skip))
  (.keep [2, 3, 4, 7, 9, 13] [3, 4, 7] b10k3))
def b10k5 : DCode :=
 (.seq
  (.seq
   (.region [⟨(some 94), .mov, [.t 10], none, []⟩,
     ⟨(some 95), (.bin .neq), [.t 94, .c (.int .i64 0)], none, [0]⟩,
     ⟨(some 96), .mov, [.t 95], none, [1]⟩,
     ⟨(some 97), .mov, [.t 9], (some (96, false)), [2]⟩,
     ⟨(some 98), (.load true 5), [.t 3], (some (96, false)), [2]⟩,
     ⟨(some 99), (.load true 2), [.t 4], (some (96, false)), [2]⟩,
     ⟨(some 100), .call, [.f 67, .t 98, .t 99], (some (96, false)), [4, 5, 2, 2]⟩,
     ⟨(some 101), (.bin .neq), [.t 97, .t 100], (some (96, false)), [3, 6, 2]⟩,
     ⟨(some 102), .pick, [.t 96, .c (.bool true), .t 101], none, [2, 7]⟩] false)
   (.cond (.t 102)
    (.seq
     (.region [⟨(some 6), .mov, [.c (.bool false)], none, []⟩] false)
     .ret)
    .skip))
  (.keep [2, 3, 4, 7, 9, 13] [3, 4, 7] b10k4))
def b10k6 : DCode :=
 (.seq
  (.seq
   (.region [⟨(some 83), (.load true 2), [.t 4], none, []⟩,
     ⟨(some 84), .call, [.f 66, .t 83], none, [0]⟩,
     ⟨(some 14), .mov, [.t 84], none, [1, 1, 0, 1]⟩] false)
   (.seq
    (.region [⟨(some 85), .mov, [.t 14], none, []⟩,
      ⟨(some 86), (.bin .neq), [.t 85, .c (.int .i64 0)], none, [0]⟩] false)
    (.cond (.t 86)
     (.seq
      (.region [⟨(some 87), .mov, [.t 10], none, []⟩,
        ⟨(some 88), .mov, [.t 14], none, []⟩,
        ⟨(some 89), (.bin .eql), [.t 87, .t 88], none, [0, 1]⟩,
        ⟨(some 90), .mov, [.t 89], none, [2]⟩,
        ⟨(some 91), .mov, [.t 9], (some (90, true)), [3]⟩,
        ⟨(some 92), (.bin .eql), [.t 91, .c (.int .i64 0)], (some (90, true)), [4, 3]⟩,
        ⟨(some 93), .pick, [.t 90, .t 92, .c (.bool false)], none, [3, 5]⟩,
        ⟨(some 6), .mov, [.t 93], none, [6, 3, 0, 1, 2, 3, 4, 5, 6]⟩] false)
      .ret)
     .skip)))
  (.keep [2, 3, 4, 7, 9, 10, 13] [3, 4, 7] b10k5))
def b10k7 : DCode :=
 (.seq
  (.region [⟨(some 56), (.load true 5), [.t 3], none, []⟩,
    ⟨(some 57), .call, [.f 65, .t 56], none, [0]⟩,
    ⟨(some 55), .mov, [.t 57], none, [1]⟩,
    ⟨(some 58), (.ext 0), [.t 55], none, [2]⟩,
    ⟨(some 59), (.ext 1), [.t 55], none, [2]⟩,
    ⟨(some 12), (.alloc [(.imm (.int .i64 0)), (.imm (.int .i64 0))]), [], none, []⟩,
    ⟨none, (.store 2), [.t 12, .t 58], none, [5, 3, 1, 0, 1, 2, 3, 5]⟩,
    ⟨(some 13), .mov, [.t 59], none, [4, 6, 0, 1, 2, 3, 4, 5, 6]⟩] false)
  (.seq
   (.seq
    (.region [⟨(some 60), .mov, [.t 13], none, []⟩,
      ⟨(some 61), (.un .not), [.t 60], none, [0]⟩,
      ⟨(some 62), .mov, [.t 61], none, [1]⟩,
      ⟨(some 63), .mov, [.t 8], (some (62, true)), [2]⟩,
      ⟨(some 64), (.bin .neq), [.t 63, .c (.int .i64 8)], (some (62, true)), [3, 2]⟩,
      ⟨(some 65), .mov, [.t 64], (some (62, true)), [4, 2, 2]⟩,
      ⟨(some 66), (.load true 2), [.t 7], (some (65, false)), [5]⟩,
      ⟨(some 67), (.build [(.imm (.int .i64 0)), (.imm (.int .i64 0))] []), [], (some (65, false)), [5]⟩,
      ⟨(some 68), (.eqs [false, false] true), [.t 66, .t 67], (some (65, false)), [6, 7, 5]⟩,
      ⟨(some 69), .pick, [.t 65, .c (.bool true), .t 68], (some (62, true)), [5, 8, 2]⟩,
      ⟨(some 70), .pick, [.t 62, .t 69, .c (.bool false)], none, [2, 9]⟩,
      ⟨(some 71), .mov, [.t 70], none, [10, 5]⟩,
      ⟨(some 72), .mov, [.t 13], (some (71, false)), [11]⟩,
      ⟨(some 73), .mov, [.t 72], (some (71, false)), [12, 11, 11]⟩,
      ⟨(some 74), .mov, [.t 8], (some (73, true)), [13]⟩,
      ⟨(some 75), (.bin .neq), [.t 74, .c (.int .i64 0)], (some (73, true)), [14, 13]⟩,
      ⟨(some 76), .mov, [.t 75], (some (73, true)), [15, 13, 13]⟩,
      ⟨(some 77), (.load true 2), [.t 7], (some (76, false)), [16]⟩,
      ⟨(some 78), (.load true 2), [.t 12], (some (76, false)), [16]⟩,
      ⟨(some 79), (.eqs [false, false] true), [.t 77, .t 78], (some (76, false)), [17, 18, 16]⟩,
      ⟨(some 80), .pick, [.t 76, .c (.bool true), .t 79], (some (73, true)), [16, 19, 13]⟩,
      ⟨(some 81), .pick, [.t 73, .t 80, .c (.bool false)], (some (71, false)), [13, 20, 11]⟩,
      ⟨(some 82), .pick, [.t 71, .c (.bool true), .t 81], none, [11, 21]⟩] false)
    (.cond (.t 82)
     (.seq
      (.region [⟨(some 6), .mov, [.c (.bool false)], none, []⟩] false)
      .ret)
     .skip))
   (.keep [2, 3, 4, 7, 9, 10, 13] [3, 4, 7] b10k6)))
def b10k8 : DCode :=
 (.seq
  (.region [⟨(some 24), (.load true 5), [.t 3], none, []⟩,
    ⟨(some 25), .call, [.f 62, .t 24], none, [0]⟩,
    ⟨(some 23), .mov, [.t 25], none, [1]⟩,
    ⟨(some 26), (.ext 0), [.t 23], none, [2]⟩,
    ⟨(some 27), (.ext 1), [.t 23], none, [2]⟩,
    ⟨(some 7), (.alloc [(.imm (.int .i64 0)), (.imm (.int .i64 0))]), [], none, []⟩,
    ⟨none, (.store 2), [.t 7, .t 26], none, [5, 3, 1, 0, 1, 2, 3, 5]⟩,
    ⟨(some 8), .mov, [.t 27], none, [4, 6, 0, 1, 2, 3, 4, 5, 6]⟩] false)
  (.seq
   (.region [⟨(some 29), (.load true 5), [.t 3], none, []⟩,
     ⟨(some 30), (.load true 2), [.t 4], none, []⟩,
     ⟨(some 31), .call, [.f 63, .t 29, .t 30], none, [0, 1]⟩,
     ⟨(some 28), .mov, [.t 31], none, [2]⟩,
     ⟨(some 32), (.ext 0), [.t 28], none, [3]⟩,
     ⟨(some 33), (.ext 1), [.t 28], none, [3]⟩,
     ⟨(some 9), .mov, [.t 32], none, [4, 2, 0, 1, 2, 3, 4]⟩,
     ⟨(some 10), .mov, [.t 33], none, [5, 6, 0, 1, 2, 3, 4, 5, 6]⟩] false)
   (.seq
    (.seq
     (.region [⟨(some 34), (.load true 5), [.t 3], none, []⟩,
       ⟨(some 35), .call, [.f 64, .t 34], none, [0]⟩,
       ⟨(some 11), .mov, [.t 35], none, [1, 1, 0, 1]⟩] false)
     (.seq
      (.region [⟨(some 36), .mov, [.t 11], none, []⟩,
        ⟨(some 37), (.bin .neq), [.t 36, .c (.int .i64 0)], none, [0]⟩] false)
      (.cond (.t 37)
       (.seq
        (.region [⟨(some 38), .mov, [.t 8], none, []⟩,
          ⟨(some 39), .mov, [.t 11], none, []⟩,
          ⟨(some 40), (.bin .eql), [.t 38, .t 39], none, [0, 1]⟩,
          ⟨(some 41), .mov, [.t 40], none, [2]⟩,
          ⟨(some 42), .mov, [.t 10], (some (41, true)), [3]⟩,
          ⟨(some 43), .mov, [.t 11], (some (41, true)), [3]⟩,
          ⟨(some 44), (.bin .eql), [.t 42, .t 43], (some (41, true)), [4, 5, 3]⟩,
          ⟨(some 45), .pick, [.t 41, .t 44, .c (.bool false)], none, [3, 6]⟩,
          ⟨(some 46), .mov, [.t 45], none, [7, 3]⟩,
          ⟨(some 47), (.load true 2), [.t 7], (some (46, true)), [8]⟩,
          ⟨(some 48), (.build [(.imm (.int .i64 0)), (.imm (.int .i64 0))] []), [], (some (46, true)), [8]⟩,
          ⟨(some 49), (.eqs [false, false] false), [.t 47, .t 48], (some (46, true)), [9, 10, 8]⟩,
          ⟨(some 50), .pick, [.t 46, .t 49, .c (.bool false)], none, [8, 11]⟩,
          ⟨(some 51), .mov, [.t 50], none, [12, 8]⟩,
          ⟨(some 52), .mov, [.t 9], (some (51, true)), [13]⟩,
          ⟨(some 53), (.bin .eql), [.t 52, .c (.int .i64 0)], (some (51, true)), [14, 13]⟩,
          ⟨(some 54), .pick, [.t 51, .t 53, .c (.bool false)], none, [13, 15]⟩,
          ⟨(some 6), .mov, [.t 54], none, [16, 13, 0, 1, 2, 3, 4, 5, 6, 7, 8, 9, 10, 11, 12, 13, 14, 15, 16]⟩] false)
        .ret)
       .skip)))
    (.keep [2, 3, 4, 7, 8, 9, 10] [3, 4, 7] b10k7))))
def b10 : DCode :=
 (.seq
  (.region [⟨(some 3), .box, [.t 0], none, []⟩,
    ⟨(some 4), .box, [.t 1], none, []⟩,
    ⟨(some 6), .mov, [.c (.bool false)], none, []⟩] false)
  (.seq
   (.seq
    (.region [⟨(some 21), .call, [.f 15], none, []⟩,
      ⟨(some 22), (.un .not), [.t 21], none, [0]⟩] false)
    (.cond (.t 22)
     (.seq
      (.region [⟨(some 6), .mov, [.c (.bool false)], none, []⟩] false)
      .ret)
     .skip))
   (.keep [2, 3, 4] [3, 4] b10k8)))
def d10 : DFn := ⟨3, 179, [.tmp 6], b10⟩
theorem body10 : d10.body = b10 := rfl
theorem res10 : d10.res = [.tmp 6] := rfl
theorem k10 : chkFn Try.prog Try.f10 d10 = true := by kernel_rfl

end Go.DI

/- Contracts: Thoma's area, of the program and of the reference. No condition. -/
set_option linter.unusedSimpArgs false
set_option maxRecDepth 20000
namespace Go.DI
open Go.Proofs Go.RowKit Sg

structure Th where
  len : Int
  sec : Int
  loss : Int
  head : Int
  mach : Int
def thI (t : Th) : IV := .agg [.int .i64 t.len, .int .i64 t.sec, .int .i64 t.loss, .int .i64 t.head, .int .i64 t.mach]
def thList (t : Th) : List Int := [t.len, t.sec, t.loss, t.head]
def thOk (t : Th) : Prop := ∀ n ∈ thList t, Wi n 1 1000
instance (t : Th) : Decidable (thOk t) := inferInstanceAs (Decidable (∀ n ∈ thList t, Wi n 1 1000))
def thE (t : Th) : Int := if thOk t then (if Wi t.mach 1 6 then 0 else 2) else 2
def thNum (t : Th) : Int := t.len * t.sec * 1000 * t.mach
def thDen (t : Th) : Int := 2 * t.loss * t.head
theorem thOk_iff {t : Th} : thOk t ↔ (1 ≤ t.len ∧ t.len ≤ 1000) ∧ (1 ≤ t.sec ∧ t.sec ≤ 1000) ∧ (1 ≤ t.loss ∧ t.loss ≤ 1000) ∧ 1 ≤ t.head ∧ t.head ≤ 1000 := by
  unfold thOk thList Wi
  simp
theorem th_bd {t : Th} (h : thOk t) : (1 ≤ t.len * t.sec ∧ t.len * t.sec ≤ 1000000) ∧ (1 ≤ t.loss * t.head ∧ t.loss * t.head ≤ 1000000) := by
  rw [thOk_iff] at h
  have a : ∀ x y : Int, 1 ≤ x → 1 ≤ y → 1 ≤ x * y := fun x y hx hy => by
    have := Int.mul_le_mul hx hy (by omega) (by omega)
    omega
  have b : ∀ x y : Int, 1 ≤ x → 1 ≤ y → x ≤ 1000 → y ≤ 1000 → x * y ≤ 1000000 := fun x y hx hy hx2 hy2 => by
    have := Int.mul_le_mul hx2 hy2 (by omega) (by omega)
    omega
  exact ⟨⟨a _ _ (by omega) (by omega), b _ _ (by omega) (by omega) (by omega) (by omega)⟩, a _ _ (by omega) (by omega), b _ _ (by omega) (by omega) (by omega) (by omega)⟩
theorem thE_zero {t : Th} : thE t = 0 ↔ thOk t ∧ 1 ≤ t.mach ∧ t.mach ≤ 6 := by
  unfold thE
  by_cases h : thOk t
  · rw [if_pos h]
    by_cases h2 : Wi t.mach 1 6
    · rw [if_pos h2]
      exact ⟨fun _ => ⟨h, h2⟩, fun _ => rfl⟩
    · rw [if_neg h2]
      constructor
      · intro k; cases k
      · intro k; exact (h2 k.2).elim
  · rw [if_neg h]
    constructor
    · intro k; cases k
    · intro k; exact (h k.1).elim
theorem th_parts {t : Th} (h : thE t = 0) : (1 ≤ thNum t ∧ thNum t ≤ 6000000000) ∧ 1 ≤ thDen t ∧ thDen t ≤ 2000000 := by
  rw [thE_zero] at h
  obtain ⟨hk, h1, h2⟩ := h
  have := th_bd hk
  unfold thNum thDen
  rw [Int.mul_assoc 2]
  generalize t.len * t.sec = a at this ⊢
  generalize t.loss * t.head = b at this ⊢
  have m1 : a * 1000 * t.mach ≤ 1000000000 * 6 := Int.mul_le_mul (by omega) h2 (by omega) (by omega)
  have m2 : 1 * 1 ≤ a * 1000 * t.mach := Int.mul_le_mul (by omega) h1 (by omega) (by omega)
  omega

theorem s_thoma {t : Th} : Contract Try.prog 121 [thI t] (.tup [.int .i64 (if thOk t then IntKind.wrap .i64 (thNum t) else 0), .int .i64 (if thOk t then thDen t else 1), .int .i64 (thE t)]) := by
  obtain ⟨N, hN⟩ : ∃ N, IntKind.wrap .i64 (thNum t) = N := ⟨_, rfl⟩
  rw [hN]
  refine contract_run Try.func121 k121 rfl ?_
  simp only [body121, b121, res121, b121k0, b121k1, b121k2, thI, ruI, ssI, sbI, spI, swI, scI, stI, srI, saI, snI, ↓reduceIte, reduceCtorEq, Nat.reduceEqDiff, Nat.reduceAdd, Nat.reduceMul, Nat.reduceSub, Nat.reduceLeDiff, Nat.reduceBEq, Int.reduceToNat, Int.reduceLE, Int.reduceLT, Int.reduceEq, Int.reduceNe, di0, di1, di2, di3, di4, di5, di6, di7, di8, di9, postX_ret, postX_normal, ex_some]
  refine loop_keep (α := Nat) rfl (fun i => 4 - i) (fun i => i ≤ 4 ∧ ∀ n ∈ (thList t).take i, Wi n 1 1000)
    (fun i => [(1, .ref 1 0), (15, .imm (.agg [.int .i64 t.len, .int .i64 t.sec, .int .i64 t.loss, .int .i64 t.head])), (16, .imm (.int .i64 i))])
    (fun _ => [(1, .box [.imm (.int .i64 t.len), .imm (.int .i64 t.sec), .imm (.int .i64 t.loss), .imm (.int .i64 t.head), .imm (.int .i64 t.mach)])]) 0 ⟨Nat.zero_le _, by simp⟩ (by simp only [ruI, ssI, sbI, spI, swI, scI, stI, srI, saI, snI, ↓reduceIte, reduceCtorEq, Nat.reduceEqDiff, Nat.reduceAdd, Nat.reduceMul, Nat.reduceSub, Nat.reduceLeDiff, Nat.reduceBEq, Int.reduceToNat, Int.reduceLE, Int.reduceLT, Int.reduceEq, Int.reduceNe, di0, di1, di2, di3, di4, di5, di6, di7, di8, di9, postX_ret, postX_normal, ex_some] <;> rfl) ?_
  rintro i ⟨hi, he⟩ ih
  simp only [res121, b121k0, b121k1, b121k2, ruI, ssI, sbI, spI, swI, scI, stI, srI, saI, snI, ↓reduceIte, reduceCtorEq, Nat.reduceEqDiff, Nat.reduceAdd, Nat.reduceMul, Nat.reduceSub, Nat.reduceLeDiff, Nat.reduceBEq, Int.reduceToNat, Int.reduceLE, Int.reduceLT, Int.reduceEq, Int.reduceNe, di0, di1, di2, di3, di4, di5, di6, di7, di8, di9, postX_ret, postX_normal, ex_some]
  split
  · rename_i h
    have hcase : ∀ x : Int, (thList t)[i]? = some x → (Wi x 1 1000 → ∀ n ∈ (thList t).take (i + 1), Wi n 1 1000) ∧ (¬ Wi x 1 1000 → ¬ thOk t) := by
      intro x hx
      constructor
      · intro hw n hn
        rw [List.take_add_one, hx] at hn
        rcases List.mem_append.1 hn with hn | hn
        · exact he n hn
        · simp at hn; subst hn; exact hw
      · intro hw k
        exact hw (k x (List.mem_of_getElem? hx))
    have h4 : i = 0 ∨ i = 1 ∨ i = 2 ∨ i = 3 := by omega
    rcases h4 with rfl | rfl | rfl | rfl
    · have hc := hcase t.len rfl
      repeat (refine And.intro (by omega) ?_)
      simp only [List.getD_cons_zero, List.getD_cons_succ, ruI, ssI, sbI, spI, swI, scI, stI, srI, saI, snI, ↓reduceIte, reduceCtorEq, Nat.reduceEqDiff, Nat.reduceAdd, Nat.reduceMul, Nat.reduceSub, Nat.reduceLeDiff, Nat.reduceBEq, Int.reduceToNat, Int.reduceLE, Int.reduceLT, Int.reduceEq, Int.reduceNe, di0, di1, di2, di3, di4, di5, di6, di7, di8, di9, postX_ret, postX_normal, ex_some]
      refine calls_of s_within ?_; simp only [ruI, ssI, sbI, spI, swI, scI, stI, srI, saI, snI, res121, b121k0, b121k1, b121k2, ↓reduceIte, reduceCtorEq, Nat.reduceEqDiff, Nat.reduceAdd, Nat.reduceMul, Nat.reduceSub, Nat.reduceLeDiff, Nat.reduceBEq, Int.reduceToNat, Int.reduceLE, Int.reduceLT, Int.reduceEq, Int.reduceNe, di0, di1, di2, di3, di4, di5, di6, di7, di8, di9, postX_ret, postX_normal, ex_some]
      by_cases hw : Wi t.len 1 1000
      · simp only [hw, ruI, ssI, sbI, spI, swI, scI, stI, srI, saI, snI, ↓reduceIte, reduceCtorEq, Nat.reduceEqDiff, Nat.reduceAdd, Nat.reduceMul, Nat.reduceSub, Nat.reduceLeDiff, Nat.reduceBEq, Int.reduceToNat, Int.reduceLE, Int.reduceLT, Int.reduceEq, Int.reduceNe, di0, di1, di2, di3, di4, di5, di6, di7, di8, di9, postX_ret, postX_normal, ex_some]
        rw [wrap64 (by omega) (by omega)]
        exact ih 1 _ _ (by omega) ⟨by omega, hc.1 hw⟩ (by simp only [ruI, ssI, sbI, spI, swI, scI, stI, srI, saI, snI, ↓reduceIte, reduceCtorEq, Nat.reduceEqDiff, Nat.reduceAdd, Nat.reduceMul, Nat.reduceSub, Nat.reduceLeDiff, Nat.reduceBEq, Int.reduceToNat, Int.reduceLE, Int.reduceLT, Int.reduceEq, Int.reduceNe, di0, di1, di2, di3, di4, di5, di6, di7, di8, di9, postX_ret, postX_normal, ex_some] <;> rfl)
      · have hno := hc.2 hw
        have he3 : thE t = 2 := if_neg hno
        simp only [hw, hno, he3, ruI, ssI, sbI, spI, swI, scI, stI, srI, saI, snI, ↓reduceIte, reduceCtorEq, Nat.reduceEqDiff, Nat.reduceAdd, Nat.reduceMul, Nat.reduceSub, Nat.reduceLeDiff, Nat.reduceBEq, Int.reduceToNat, Int.reduceLE, Int.reduceLT, Int.reduceEq, Int.reduceNe, di0, di1, di2, di3, di4, di5, di6, di7, di8, di9, postX_ret, postX_normal, ex_some]
    · have hc := hcase t.sec rfl
      repeat (refine And.intro (by omega) ?_)
      simp only [List.getD_cons_zero, List.getD_cons_succ, ruI, ssI, sbI, spI, swI, scI, stI, srI, saI, snI, ↓reduceIte, reduceCtorEq, Nat.reduceEqDiff, Nat.reduceAdd, Nat.reduceMul, Nat.reduceSub, Nat.reduceLeDiff, Nat.reduceBEq, Int.reduceToNat, Int.reduceLE, Int.reduceLT, Int.reduceEq, Int.reduceNe, di0, di1, di2, di3, di4, di5, di6, di7, di8, di9, postX_ret, postX_normal, ex_some]
      refine calls_of s_within ?_; simp only [ruI, ssI, sbI, spI, swI, scI, stI, srI, saI, snI, res121, b121k0, b121k1, b121k2, ↓reduceIte, reduceCtorEq, Nat.reduceEqDiff, Nat.reduceAdd, Nat.reduceMul, Nat.reduceSub, Nat.reduceLeDiff, Nat.reduceBEq, Int.reduceToNat, Int.reduceLE, Int.reduceLT, Int.reduceEq, Int.reduceNe, di0, di1, di2, di3, di4, di5, di6, di7, di8, di9, postX_ret, postX_normal, ex_some]
      by_cases hw : Wi t.sec 1 1000
      · simp only [hw, ruI, ssI, sbI, spI, swI, scI, stI, srI, saI, snI, ↓reduceIte, reduceCtorEq, Nat.reduceEqDiff, Nat.reduceAdd, Nat.reduceMul, Nat.reduceSub, Nat.reduceLeDiff, Nat.reduceBEq, Int.reduceToNat, Int.reduceLE, Int.reduceLT, Int.reduceEq, Int.reduceNe, di0, di1, di2, di3, di4, di5, di6, di7, di8, di9, postX_ret, postX_normal, ex_some]
        rw [wrap64 (by omega) (by omega)]
        exact ih 2 _ _ (by omega) ⟨by omega, hc.1 hw⟩ (by simp only [ruI, ssI, sbI, spI, swI, scI, stI, srI, saI, snI, ↓reduceIte, reduceCtorEq, Nat.reduceEqDiff, Nat.reduceAdd, Nat.reduceMul, Nat.reduceSub, Nat.reduceLeDiff, Nat.reduceBEq, Int.reduceToNat, Int.reduceLE, Int.reduceLT, Int.reduceEq, Int.reduceNe, di0, di1, di2, di3, di4, di5, di6, di7, di8, di9, postX_ret, postX_normal, ex_some] <;> rfl)
      · have hno := hc.2 hw
        have he3 : thE t = 2 := if_neg hno
        simp only [hw, hno, he3, ruI, ssI, sbI, spI, swI, scI, stI, srI, saI, snI, ↓reduceIte, reduceCtorEq, Nat.reduceEqDiff, Nat.reduceAdd, Nat.reduceMul, Nat.reduceSub, Nat.reduceLeDiff, Nat.reduceBEq, Int.reduceToNat, Int.reduceLE, Int.reduceLT, Int.reduceEq, Int.reduceNe, di0, di1, di2, di3, di4, di5, di6, di7, di8, di9, postX_ret, postX_normal, ex_some]
    · have hc := hcase t.loss rfl
      repeat (refine And.intro (by omega) ?_)
      simp only [List.getD_cons_zero, List.getD_cons_succ, ruI, ssI, sbI, spI, swI, scI, stI, srI, saI, snI, ↓reduceIte, reduceCtorEq, Nat.reduceEqDiff, Nat.reduceAdd, Nat.reduceMul, Nat.reduceSub, Nat.reduceLeDiff, Nat.reduceBEq, Int.reduceToNat, Int.reduceLE, Int.reduceLT, Int.reduceEq, Int.reduceNe, di0, di1, di2, di3, di4, di5, di6, di7, di8, di9, postX_ret, postX_normal, ex_some]
      refine calls_of s_within ?_; simp only [ruI, ssI, sbI, spI, swI, scI, stI, srI, saI, snI, res121, b121k0, b121k1, b121k2, ↓reduceIte, reduceCtorEq, Nat.reduceEqDiff, Nat.reduceAdd, Nat.reduceMul, Nat.reduceSub, Nat.reduceLeDiff, Nat.reduceBEq, Int.reduceToNat, Int.reduceLE, Int.reduceLT, Int.reduceEq, Int.reduceNe, di0, di1, di2, di3, di4, di5, di6, di7, di8, di9, postX_ret, postX_normal, ex_some]
      by_cases hw : Wi t.loss 1 1000
      · simp only [hw, ruI, ssI, sbI, spI, swI, scI, stI, srI, saI, snI, ↓reduceIte, reduceCtorEq, Nat.reduceEqDiff, Nat.reduceAdd, Nat.reduceMul, Nat.reduceSub, Nat.reduceLeDiff, Nat.reduceBEq, Int.reduceToNat, Int.reduceLE, Int.reduceLT, Int.reduceEq, Int.reduceNe, di0, di1, di2, di3, di4, di5, di6, di7, di8, di9, postX_ret, postX_normal, ex_some]
        rw [wrap64 (by omega) (by omega)]
        exact ih 3 _ _ (by omega) ⟨by omega, hc.1 hw⟩ (by simp only [ruI, ssI, sbI, spI, swI, scI, stI, srI, saI, snI, ↓reduceIte, reduceCtorEq, Nat.reduceEqDiff, Nat.reduceAdd, Nat.reduceMul, Nat.reduceSub, Nat.reduceLeDiff, Nat.reduceBEq, Int.reduceToNat, Int.reduceLE, Int.reduceLT, Int.reduceEq, Int.reduceNe, di0, di1, di2, di3, di4, di5, di6, di7, di8, di9, postX_ret, postX_normal, ex_some] <;> rfl)
      · have hno := hc.2 hw
        have he3 : thE t = 2 := if_neg hno
        simp only [hw, hno, he3, ruI, ssI, sbI, spI, swI, scI, stI, srI, saI, snI, ↓reduceIte, reduceCtorEq, Nat.reduceEqDiff, Nat.reduceAdd, Nat.reduceMul, Nat.reduceSub, Nat.reduceLeDiff, Nat.reduceBEq, Int.reduceToNat, Int.reduceLE, Int.reduceLT, Int.reduceEq, Int.reduceNe, di0, di1, di2, di3, di4, di5, di6, di7, di8, di9, postX_ret, postX_normal, ex_some]
    · have hc := hcase t.head rfl
      repeat (refine And.intro (by omega) ?_)
      simp only [List.getD_cons_zero, List.getD_cons_succ, ruI, ssI, sbI, spI, swI, scI, stI, srI, saI, snI, ↓reduceIte, reduceCtorEq, Nat.reduceEqDiff, Nat.reduceAdd, Nat.reduceMul, Nat.reduceSub, Nat.reduceLeDiff, Nat.reduceBEq, Int.reduceToNat, Int.reduceLE, Int.reduceLT, Int.reduceEq, Int.reduceNe, di0, di1, di2, di3, di4, di5, di6, di7, di8, di9, postX_ret, postX_normal, ex_some]
      refine calls_of s_within ?_; simp only [ruI, ssI, sbI, spI, swI, scI, stI, srI, saI, snI, res121, b121k0, b121k1, b121k2, ↓reduceIte, reduceCtorEq, Nat.reduceEqDiff, Nat.reduceAdd, Nat.reduceMul, Nat.reduceSub, Nat.reduceLeDiff, Nat.reduceBEq, Int.reduceToNat, Int.reduceLE, Int.reduceLT, Int.reduceEq, Int.reduceNe, di0, di1, di2, di3, di4, di5, di6, di7, di8, di9, postX_ret, postX_normal, ex_some]
      by_cases hw : Wi t.head 1 1000
      · simp only [hw, ruI, ssI, sbI, spI, swI, scI, stI, srI, saI, snI, ↓reduceIte, reduceCtorEq, Nat.reduceEqDiff, Nat.reduceAdd, Nat.reduceMul, Nat.reduceSub, Nat.reduceLeDiff, Nat.reduceBEq, Int.reduceToNat, Int.reduceLE, Int.reduceLT, Int.reduceEq, Int.reduceNe, di0, di1, di2, di3, di4, di5, di6, di7, di8, di9, postX_ret, postX_normal, ex_some]
        rw [wrap64 (by omega) (by omega)]
        exact ih 4 _ _ (by omega) ⟨by omega, hc.1 hw⟩ (by simp only [ruI, ssI, sbI, spI, swI, scI, stI, srI, saI, snI, ↓reduceIte, reduceCtorEq, Nat.reduceEqDiff, Nat.reduceAdd, Nat.reduceMul, Nat.reduceSub, Nat.reduceLeDiff, Nat.reduceBEq, Int.reduceToNat, Int.reduceLE, Int.reduceLT, Int.reduceEq, Int.reduceNe, di0, di1, di2, di3, di4, di5, di6, di7, di8, di9, postX_ret, postX_normal, ex_some] <;> rfl)
      · have hno := hc.2 hw
        have he3 : thE t = 2 := if_neg hno
        simp only [hw, hno, he3, ruI, ssI, sbI, spI, swI, scI, stI, srI, saI, snI, ↓reduceIte, reduceCtorEq, Nat.reduceEqDiff, Nat.reduceAdd, Nat.reduceMul, Nat.reduceSub, Nat.reduceLeDiff, Nat.reduceBEq, Int.reduceToNat, Int.reduceLE, Int.reduceLT, Int.reduceEq, Int.reduceNe, di0, di1, di2, di3, di4, di5, di6, di7, di8, di9, postX_ret, postX_normal, ex_some]
  · rename_i h
    have hk : thOk t := by
      have h4 : i = 4 := by omega
      subst h4
      exact he
    have hb := th_bd hk
    have hi4 := thOk_iff.1 hk
    have he3 : thE t = if Wi t.mach 1 6 then 0 else 2 := if_pos hk
    rw [if_pos hk, if_pos hk, he3]
    simp only [show IntKind.wrap .i64 (t.len * t.sec) = t.len * t.sec from wrap64 (by omega) (by omega)]
    simp only [show IntKind.wrap .i64 (t.len * t.sec * 1000) = t.len * t.sec * 1000 from wrap64 (by omega) (by omega)]
    simp only [show IntKind.wrap .i64 (2 * t.loss) = 2 * t.loss from wrap64 (by omega) (by omega)]
    have hd : thDen t = 2 * t.loss * t.head := rfl
    have hd2 : 2 * t.loss * t.head = 2 * (t.loss * t.head) := Int.mul_assoc _ _ _
    simp only [show IntKind.wrap .i64 (2 * t.loss * t.head) = 2 * t.loss * t.head from wrap64 (by omega) (by omega)]
    rw [show t.len * t.sec * 1000 * t.mach = thNum t from rfl, hN]
    refine calls_of s_within ?_; simp only [ruI, ssI, sbI, spI, swI, scI, stI, srI, saI, snI, res121, b121k0, b121k1, b121k2, ↓reduceIte, reduceCtorEq, Nat.reduceEqDiff, Nat.reduceAdd, Nat.reduceMul, Nat.reduceSub, Nat.reduceLeDiff, Nat.reduceBEq, Int.reduceToNat, Int.reduceLE, Int.reduceLT, Int.reduceEq, Int.reduceNe, di0, di1, di2, di3, di4, di5, di6, di7, di8, di9, postX_ret, postX_normal, ex_some]
    refine calls_of s_unless ?_; simp only [ruI, ssI, sbI, spI, swI, scI, stI, srI, saI, snI, res121, b121k0, b121k1, b121k2, ↓reduceIte, reduceCtorEq, Nat.reduceEqDiff, Nat.reduceAdd, Nat.reduceMul, Nat.reduceSub, Nat.reduceLeDiff, Nat.reduceBEq, Int.reduceToNat, Int.reduceLE, Int.reduceLT, Int.reduceEq, Int.reduceNe, di0, di1, di2, di3, di4, di5, di6, di7, di8, di9, postX_ret, postX_normal, ex_some]
    rfl

theorem s_divisor {a b : Int} (ha : 0 ≤ a) (a2 : a ≤ 9223372036854775807) (hb : 0 ≤ b) (b2 : b ≤ 9223372036854775807) : Contract Try.prog 122 [.int .i64 a, .int .i64 b] (.int .i64 (Int.gcd a b)) := by
  refine contract_run Try.func122 k122 rfl ?_
  simp only [body122, b122, res122, b122k0, b122k1, ruI, ssI, sbI, spI, swI, scI, stI, srI, saI, snI, ↓reduceIte, reduceCtorEq, Nat.reduceEqDiff, Nat.reduceAdd, Nat.reduceMul, Nat.reduceSub, Nat.reduceLeDiff, Nat.reduceBEq, Int.reduceToNat, Int.reduceLE, Int.reduceLT, Int.reduceEq, Int.reduceNe, di0, di1, di2, di3, di4, di5, di6, di7, di8, di9, postX_ret, postX_normal, ex_some]
  refine loop_keep (α := Int × Int) rfl (fun s => s.2.natAbs) (fun s => (0 ≤ s.1 ∧ s.1 ≤ 9223372036854775807) ∧ (0 ≤ s.2 ∧ s.2 ≤ 9223372036854775807) ∧ Int.gcd s.1 s.2 = Int.gcd a b)
    (fun s => [(0, .imm (.int .i64 s.1)), (1, .imm (.int .i64 s.2))]) (fun _ => []) (a, b) ⟨⟨ha, a2⟩, ⟨hb, b2⟩, rfl⟩ (by simp only [ruI, ssI, sbI, spI, swI, scI, stI, srI, saI, snI, ↓reduceIte, reduceCtorEq, Nat.reduceEqDiff, Nat.reduceAdd, Nat.reduceMul, Nat.reduceSub, Nat.reduceLeDiff, Nat.reduceBEq, Int.reduceToNat, Int.reduceLE, Int.reduceLT, Int.reduceEq, Int.reduceNe, di0, di1, di2, di3, di4, di5, di6, di7, di8, di9, postX_ret, postX_normal, ex_some]) ?_
  rintro ⟨x, y⟩ ⟨hx, hy, hg⟩ ih
  dsimp only at hx hy hg
  simp only [res122, b122k0, b122k1, ruI, ssI, sbI, spI, swI, scI, stI, srI, saI, snI, ↓reduceIte, reduceCtorEq, Nat.reduceEqDiff, Nat.reduceAdd, Nat.reduceMul, Nat.reduceSub, Nat.reduceLeDiff, Nat.reduceBEq, Int.reduceToNat, Int.reduceLE, Int.reduceLT, Int.reduceEq, Int.reduceNe, di0, di1, di2, di3, di4, di5, di6, di7, di8, di9, postX_ret, postX_normal, ex_some]
  split
  · rename_i h
    subst h
    rw [← hg, Int.gcd_zero_right]
    congr 2
    omega
  · rename_i h
    have hm : (x.tmod y).natAbs = x.natAbs % y.natAbs := Int.natAbs_tmod x y
    have hlt : x.natAbs % y.natAbs < y.natAbs := Nat.mod_lt _ (by omega)
    have hnn : 0 ≤ x.tmod y := Int.tmod_nonneg _ hx.1
    refine ⟨h, ih (y, x.tmod y) _ _ (by dsimp only; omega) ⟨hy, by dsimp only; omega, ?_⟩ (by simp only [ruI, ssI, sbI, spI, swI, scI, stI, srI, saI, snI, ↓reduceIte, reduceCtorEq, Nat.reduceEqDiff, Nat.reduceAdd, Nat.reduceMul, Nat.reduceSub, Nat.reduceLeDiff, Nat.reduceBEq, Int.reduceToNat, Int.reduceLE, Int.reduceLT, Int.reduceEq, Int.reduceNe, di0, di1, di2, di3, di4, di5, di6, di7, di8, di9, postX_ret, postX_normal, ex_some])⟩
    dsimp only
    rw [← hg]
    unfold Int.gcd
    rw [hm, Nat.gcd_comm, ← Nat.gcd_rec, Nat.gcd_comm]

def frI (x : Int × Int) : IV := .agg [.int .i64 x.1, .int .i64 x.2]
/-- Thoma's area in lowest terms. -/
def lowP (t : Th) : Int × Int := (thNum t / (Int.gcd (thNum t) (thDen t) : Int), thDen t / (Int.gcd (thNum t) (thDen t) : Int))
def thSmall (t : Th) : Prop := (lowP t).1 ≤ 1000000000 ∧ (lowP t).2 ≤ 1000000000
instance (t : Th) : Decidable (thSmall t) := inferInstanceAs (Decidable (_ ∧ _))
theorem low_bd {t : Th} (h : thE t = 0) : (1 ≤ (lowP t).1 ∧ (lowP t).1 ≤ 6000000000) ∧ 1 ≤ (lowP t).2 ∧ (lowP t).2 ≤ 2000000 := by
  have hp := th_parts h
  have hg0 := Wd.div_gcd (thNum t) (thDen t) (by omega)
  have hgn : (Int.gcd (thNum t) (thDen t) : Int) ∣ thNum t := Int.gcd_dvd_left _ _
  have hgd : (Int.gcd (thNum t) (thDen t) : Int) ∣ thDen t := Int.gcd_dvd_right _ _
  unfold lowP
  dsimp only
  generalize (Int.gcd (thNum t) (thDen t) : Int) = g at *
  have p1 : 1 ≤ thNum t / g := by
    have := Int.le_of_dvd (by omega) hgn
    rw [Int.le_ediv_iff_mul_le hg0]; omega
  have p2 : 1 ≤ thDen t / g := by
    have := Int.le_of_dvd (by omega) hgd
    rw [Int.le_ediv_iff_mul_le hg0]; omega
  have a1 := Int.ediv_le_self (b := g) (a := thNum t) (by omega)
  have a2 := Int.ediv_le_self (b := g) (a := thDen t) (by omega)
  omega

theorem s_ThomaOf {t : Th} : Contract Try.prog 62 [thI t] (if thE t = 0 then (if thSmall t then .tup [frI (lowP t), .int .i64 0] else .tup [frI (0, 0), .int .i64 8]) else .tup [frI (0, 0), .int .i64 (thE t)]) := by
  have st := s_thoma (t := t)
  refine contract_run Try.func62 k62 rfl ?_
  simp only [body62, b62, res62, b62k0, b62k1, thI, frI, ruI, ssI, sbI, spI, swI, scI, stI, srI, saI, snI, ↓reduceIte, reduceCtorEq, Nat.reduceEqDiff, Nat.reduceAdd, Nat.reduceMul, Nat.reduceSub, Nat.reduceLeDiff, Nat.reduceBEq, Int.reduceToNat, Int.reduceLE, Int.reduceLT, Int.reduceEq, Int.reduceNe, di0, di1, di2, di3, di4, di5, di6, di7, di8, di9, postX_ret, postX_normal, ex_some] at st ⊢
  refine calls_of st ?_; simp only [ruI, ssI, sbI, spI, swI, scI, stI, srI, saI, snI, res62, b62k0, b62k1, ↓reduceIte, reduceCtorEq, Nat.reduceEqDiff, Nat.reduceAdd, Nat.reduceMul, Nat.reduceSub, Nat.reduceLeDiff, Nat.reduceBEq, Int.reduceToNat, Int.reduceLE, Int.reduceLT, Int.reduceEq, Int.reduceNe, di0, di1, di2, di3, di4, di5, di6, di7, di8, di9, postX_ret, postX_normal, ex_some]
  by_cases h : thE t = 0
  case neg => simp only [h, ruI, ssI, sbI, spI, swI, scI, stI, srI, saI, snI, ↓reduceIte, reduceCtorEq, Nat.reduceEqDiff, Nat.reduceAdd, Nat.reduceMul, Nat.reduceSub, Nat.reduceLeDiff, Nat.reduceBEq, Int.reduceToNat, Int.reduceLE, Int.reduceLT, Int.reduceEq, Int.reduceNe, di0, di1, di2, di3, di4, di5, di6, di7, di8, di9, postX_ret, postX_normal, ex_some]
  have hk := (thE_zero.1 h).1
  have hp := th_parts h
  have hl := low_bd h
  rw [if_pos hk, if_pos hk, if_pos h]
  simp only [h, ruI, ssI, sbI, spI, swI, scI, stI, srI, saI, snI, ↓reduceIte, reduceCtorEq, Nat.reduceEqDiff, Nat.reduceAdd, Nat.reduceMul, Nat.reduceSub, Nat.reduceLeDiff, Nat.reduceBEq, Int.reduceToNat, Int.reduceLE, Int.reduceLT, Int.reduceEq, Int.reduceNe, di0, di1, di2, di3, di4, di5, di6, di7, di8, di9, postX_ret, postX_normal, ex_some]
  rw [show IntKind.wrap .i64 (thNum t) = thNum t from wrap64 (by omega) (by omega)]
  refine calls_of (s_divisor (a := thNum t) (b := thDen t) (by omega) (by omega) (by omega) (by omega)) ?_; simp only [ruI, ssI, sbI, spI, swI, scI, stI, srI, saI, snI, res62, b62k0, b62k1, ↓reduceIte, reduceCtorEq, Nat.reduceEqDiff, Nat.reduceAdd, Nat.reduceMul, Nat.reduceSub, Nat.reduceLeDiff, Nat.reduceBEq, Int.reduceToNat, Int.reduceLE, Int.reduceLT, Int.reduceEq, Int.reduceNe, di0, di1, di2, di3, di4, di5, di6, di7, di8, di9, postX_ret, postX_normal, ex_some]
  have hg0 := Wd.div_gcd (thNum t) (thDen t) (by omega)
  have hgn : (Int.gcd (thNum t) (thDen t) : Int) ∣ thNum t := Int.gcd_dvd_left _ _
  have hgd : (Int.gcd (thNum t) (thDen t) : Int) ∣ thDen t := Int.gcd_dvd_right _ _
  have e1 : (thNum t).tdiv (Int.gcd (thNum t) (thDen t) : Int) = (lowP t).1 := Int.tdiv_eq_ediv_of_dvd hgn
  have e2 : (thDen t).tdiv (Int.gcd (thNum t) (thDen t) : Int) = (lowP t).2 := Int.tdiv_eq_ediv_of_dvd hgd
  rw [e1, e2]
  simp only [show IntKind.wrap .i64 ((lowP t).1) = (lowP t).1 from wrap64 (by omega) (by omega)]
  simp only [show IntKind.wrap .i64 ((lowP t).2) = (lowP t).2 from wrap64 (by omega) (by omega)]
  repeat (refine And.intro (by omega) ?_)
  by_cases h1 : 1000000000 < (lowP t).1
  · rw [if_neg (show ¬ thSmall t from fun k => by have := k.1; omega)]
    simp only [h1, ruI, ssI, sbI, spI, swI, scI, stI, srI, saI, snI, ↓reduceIte, reduceCtorEq, Nat.reduceEqDiff, Nat.reduceAdd, Nat.reduceMul, Nat.reduceSub, Nat.reduceLeDiff, Nat.reduceBEq, Int.reduceToNat, Int.reduceLE, Int.reduceLT, Int.reduceEq, Int.reduceNe, di0, di1, di2, di3, di4, di5, di6, di7, di8, di9, postX_ret, postX_normal, ex_some]
    all_goals (rw [if_neg (fun k => k.1)]; trivial)
  · simp only [h1, ruI, ssI, sbI, spI, swI, scI, stI, srI, saI, snI, ↓reduceIte, reduceCtorEq, Nat.reduceEqDiff, Nat.reduceAdd, Nat.reduceMul, Nat.reduceSub, Nat.reduceLeDiff, Nat.reduceBEq, Int.reduceToNat, Int.reduceLE, Int.reduceLT, Int.reduceEq, Int.reduceNe, di0, di1, di2, di3, di4, di5, di6, di7, di8, di9, postX_ret, postX_normal, ex_some]
    rw [if_pos (show thSmall t from ⟨by omega, by omega⟩)]
    rw [if_neg (by omega)]

theorem s_isArea {n : Int} : Contract Try.prog 123 [.int .i64 n] (.bool (decide (Wi n 0 1000000000))) := by
  refine contract_run Try.func123 k123 rfl ?_
  simp only [body123, b123, res123, ruI, ssI, sbI, spI, swI, scI, stI, srI, saI, snI, ↓reduceIte, reduceCtorEq, Nat.reduceEqDiff, Nat.reduceAdd, Nat.reduceMul, Nat.reduceSub, Nat.reduceLeDiff, Nat.reduceBEq, Int.reduceToNat, Int.reduceLE, Int.reduceLT, Int.reduceEq, Int.reduceNe, di0, di1, di2, di3, di4, di5, di6, di7, di8, di9, postX_ret, postX_normal, ex_some]
  refine calls_of s_within ?_; simp only [ruI, ssI, sbI, spI, swI, scI, stI, srI, saI, snI, res123, ↓reduceIte, reduceCtorEq, Nat.reduceEqDiff, Nat.reduceAdd, Nat.reduceMul, Nat.reduceSub, Nat.reduceLeDiff, Nat.reduceBEq, Int.reduceToNat, Int.reduceLE, Int.reduceLT, Int.reduceEq, Int.reduceNe, di0, di1, di2, di3, di4, di5, di6, di7, di8, di9, postX_ret, postX_normal, ex_some]
theorem s_damped {n d a : Int} (ha : 0 ≤ a ∧ a ≤ 1000000000) (hd : 0 ≤ d ∧ d ≤ 2000000) : Contract Try.prog 124 [.int .i64 a, .ptr (.agg [.int .i64 d]), .ptr (.agg [.int .i64 n])] (.bool (decide (n < a * d))) := by
  have h1 : 0 ≤ a * d := Int.mul_nonneg ha.1 hd.1
  have h2 : a * d ≤ 1000000000 * 2000000 := Int.mul_le_mul ha.2 hd.2 hd.1 (by omega)
  refine contract_run Try.func124 k124 rfl ?_
  simp only [body124, b124, res124, ruI, ssI, sbI, spI, swI, scI, stI, srI, saI, snI, ↓reduceIte, reduceCtorEq, Nat.reduceEqDiff, Nat.reduceAdd, Nat.reduceMul, Nat.reduceSub, Nat.reduceLeDiff, Nat.reduceBEq, Int.reduceToNat, Int.reduceLE, Int.reduceLT, Int.reduceEq, Int.reduceNe, di0, di1, di2, di3, di4, di5, di6, di7, di8, di9, postX_ret, postX_normal, ex_some]
  simp only [show IntKind.wrap .i64 (a * d) = a * d from wrap64 (by omega) (by omega)]
def areasE (lo hi : Int) : Int := fstE (if Wi lo 0 1000000000 ∧ Wi hi 0 1000000000 then 0 else 2) (if lo ≤ hi then 0 else 9)
theorem areasE_zero {lo hi : Int} : areasE lo hi = 0 ↔ 0 ≤ lo ∧ lo ≤ hi ∧ hi ≤ 1000000000 := by
  unfold areasE
  rw [fstE_zero]
  by_cases h : Wi lo 0 1000000000 ∧ Wi hi 0 1000000000
  · rw [if_pos h]
    unfold Wi at h
    by_cases h2 : lo ≤ hi
    · rw [if_pos h2]; simp; omega
    · rw [if_neg h2]; simp; omega
  · rw [if_neg h]
    unfold Wi at h
    constructor
    · intro k; exact absurd k.1 (by decide)
    · intro k; exact (h (by omega)).elim
def dampA (t : Th) (lo hi : Int) : Int := if thNum t < lo * thDen t then 2 else if thNum t < hi * thDen t then 1 else 0
theorem s_IsDamped {t : Th} {lo hi : Int} : Contract Try.prog 63 [thI t, stI lo hi] (if fstE (thE t) (areasE lo hi) = 0 then .tup [.int .i64 (dampA t lo hi), .int .i64 0] else .tup [.int .i64 0, .int .i64 (fstE (thE t) (areasE lo hi))]) := by
  have st := s_thoma (t := t)
  refine contract_run Try.func63 k63 rfl ?_
  simp only [body63, b63, res63, b63k0, b63k1, thI, ruI, ssI, sbI, spI, swI, scI, stI, srI, saI, snI, ↓reduceIte, reduceCtorEq, Nat.reduceEqDiff, Nat.reduceAdd, Nat.reduceMul, Nat.reduceSub, Nat.reduceLeDiff, Nat.reduceBEq, Int.reduceToNat, Int.reduceLE, Int.reduceLT, Int.reduceEq, Int.reduceNe, di0, di1, di2, di3, di4, di5, di6, di7, di8, di9, postX_ret, postX_normal, ex_some] at st ⊢
  refine calls_of st ?_; simp only [ruI, ssI, sbI, spI, swI, scI, stI, srI, saI, snI, res63, b63k0, b63k1, ↓reduceIte, reduceCtorEq, Nat.reduceEqDiff, Nat.reduceAdd, Nat.reduceMul, Nat.reduceSub, Nat.reduceLeDiff, Nat.reduceBEq, Int.reduceToNat, Int.reduceLE, Int.reduceLT, Int.reduceEq, Int.reduceNe, di0, di1, di2, di3, di4, di5, di6, di7, di8, di9, postX_ret, postX_normal, ex_some]
  refine calls_of s_isArea ?_; simp only [ruI, ssI, sbI, spI, swI, scI, stI, srI, saI, snI, res63, b63k0, b63k1, ↓reduceIte, reduceCtorEq, Nat.reduceEqDiff, Nat.reduceAdd, Nat.reduceMul, Nat.reduceSub, Nat.reduceLeDiff, Nat.reduceBEq, Int.reduceToNat, Int.reduceLE, Int.reduceLT, Int.reduceEq, Int.reduceNe, di0, di1, di2, di3, di4, di5, di6, di7, di8, di9, postX_ret, postX_normal, ex_some]
  by_cases wl : Wi lo 0 1000000000
  case neg =>
    have he : areasE lo hi = 2 := by unfold areasE; rw [if_neg (fun k => wl k.1)]; rfl
    simp only [wl, ruI, ssI, sbI, spI, swI, scI, stI, srI, saI, snI, ↓reduceIte, reduceCtorEq, Nat.reduceEqDiff, Nat.reduceAdd, Nat.reduceMul, Nat.reduceSub, Nat.reduceLeDiff, Nat.reduceBEq, Int.reduceToNat, Int.reduceLE, Int.reduceLT, Int.reduceEq, Int.reduceNe, di0, di1, di2, di3, di4, di5, di6, di7, di8, di9, postX_ret, postX_normal, ex_some]
    refine calls_of s_unless ?_; simp only [ruI, ssI, sbI, spI, swI, scI, stI, srI, saI, snI, res63, b63k0, b63k1, ↓reduceIte, reduceCtorEq, Nat.reduceEqDiff, Nat.reduceAdd, Nat.reduceMul, Nat.reduceSub, Nat.reduceLeDiff, Nat.reduceBEq, Int.reduceToNat, Int.reduceLE, Int.reduceLT, Int.reduceEq, Int.reduceNe, di0, di1, di2, di3, di4, di5, di6, di7, di8, di9, postX_ret, postX_normal, ex_some]
    refine calls_of s_unless ?_; simp only [ruI, ssI, sbI, spI, swI, scI, stI, srI, saI, snI, res63, b63k0, b63k1, ↓reduceIte, reduceCtorEq, Nat.reduceEqDiff, Nat.reduceAdd, Nat.reduceMul, Nat.reduceSub, Nat.reduceLeDiff, Nat.reduceBEq, Int.reduceToNat, Int.reduceLE, Int.reduceLT, Int.reduceEq, Int.reduceNe, di0, di1, di2, di3, di4, di5, di6, di7, di8, di9, postX_ret, postX_normal, ex_some]
    refine calls_of (s_first (l := [thE t, 2, if lo ≤ hi then 0 else 9]) (by simp)) ?_; simp only [ruI, ssI, sbI, spI, swI, scI, stI, srI, saI, snI, res63, b63k0, b63k1, ↓reduceIte, reduceCtorEq, Nat.reduceEqDiff, Nat.reduceAdd, Nat.reduceMul, Nat.reduceSub, Nat.reduceLeDiff, Nat.reduceBEq, Int.reduceToNat, Int.reduceLE, Int.reduceLT, Int.reduceEq, Int.reduceNe, di0, di1, di2, di3, di4, di5, di6, di7, di8, di9, postX_ret, postX_normal, ex_some]
    rw [firstNZ_three, he, show fstE 2 (if lo ≤ hi then (0 : Int) else 9) = 2 from rfl]
    have hne : ¬ fstE (thE t) 2 = 0 := by rw [fstE_zero]; intro k; exact absurd k.2 (by decide)
    simp only [hne, ruI, ssI, sbI, spI, swI, scI, stI, srI, saI, snI, ↓reduceIte, reduceCtorEq, Nat.reduceEqDiff, Nat.reduceAdd, Nat.reduceMul, Nat.reduceSub, Nat.reduceLeDiff, Nat.reduceBEq, Int.reduceToNat, Int.reduceLE, Int.reduceLT, Int.reduceEq, Int.reduceNe, di0, di1, di2, di3, di4, di5, di6, di7, di8, di9, postX_ret, postX_normal, ex_some]
  simp only [wl, ruI, ssI, sbI, spI, swI, scI, stI, srI, saI, snI, ↓reduceIte, reduceCtorEq, Nat.reduceEqDiff, Nat.reduceAdd, Nat.reduceMul, Nat.reduceSub, Nat.reduceLeDiff, Nat.reduceBEq, Int.reduceToNat, Int.reduceLE, Int.reduceLT, Int.reduceEq, Int.reduceNe, di0, di1, di2, di3, di4, di5, di6, di7, di8, di9, postX_ret, postX_normal, ex_some]
  refine calls_of s_isArea ?_; simp only [ruI, ssI, sbI, spI, swI, scI, stI, srI, saI, snI, res63, b63k0, b63k1, ↓reduceIte, reduceCtorEq, Nat.reduceEqDiff, Nat.reduceAdd, Nat.reduceMul, Nat.reduceSub, Nat.reduceLeDiff, Nat.reduceBEq, Int.reduceToNat, Int.reduceLE, Int.reduceLT, Int.reduceEq, Int.reduceNe, di0, di1, di2, di3, di4, di5, di6, di7, di8, di9, postX_ret, postX_normal, ex_some]
  refine calls_of s_unless ?_; simp only [ruI, ssI, sbI, spI, swI, scI, stI, srI, saI, snI, res63, b63k0, b63k1, ↓reduceIte, reduceCtorEq, Nat.reduceEqDiff, Nat.reduceAdd, Nat.reduceMul, Nat.reduceSub, Nat.reduceLeDiff, Nat.reduceBEq, Int.reduceToNat, Int.reduceLE, Int.reduceLT, Int.reduceEq, Int.reduceNe, di0, di1, di2, di3, di4, di5, di6, di7, di8, di9, postX_ret, postX_normal, ex_some]
  refine calls_of s_unless ?_; simp only [ruI, ssI, sbI, spI, swI, scI, stI, srI, saI, snI, res63, b63k0, b63k1, ↓reduceIte, reduceCtorEq, Nat.reduceEqDiff, Nat.reduceAdd, Nat.reduceMul, Nat.reduceSub, Nat.reduceLeDiff, Nat.reduceBEq, Int.reduceToNat, Int.reduceLE, Int.reduceLT, Int.reduceEq, Int.reduceNe, di0, di1, di2, di3, di4, di5, di6, di7, di8, di9, postX_ret, postX_normal, ex_some]
  refine calls_of (s_first (l := [thE t, if Wi hi 0 1000000000 then 0 else 2, if lo ≤ hi then 0 else 9]) (by simp)) ?_; simp only [ruI, ssI, sbI, spI, swI, scI, stI, srI, saI, snI, res63, b63k0, b63k1, ↓reduceIte, reduceCtorEq, Nat.reduceEqDiff, Nat.reduceAdd, Nat.reduceMul, Nat.reduceSub, Nat.reduceLeDiff, Nat.reduceBEq, Int.reduceToNat, Int.reduceLE, Int.reduceLT, Int.reduceEq, Int.reduceNe, di0, di1, di2, di3, di4, di5, di6, di7, di8, di9, postX_ret, postX_normal, ex_some]
  have he : areasE lo hi = fstE (if Wi hi 0 1000000000 then 0 else 2) (if lo ≤ hi then 0 else 9) := by
    unfold areasE
    by_cases wh : Wi hi 0 1000000000
    · rw [if_pos wh, if_pos ⟨wl, wh⟩]
    · rw [if_neg wh, if_neg (fun k => wh k.2)]
  rw [firstNZ_three, ← he]
  by_cases hE : fstE (thE t) (areasE lo hi) = 0
  case neg => simp only [hE, ruI, ssI, sbI, spI, swI, scI, stI, srI, saI, snI, ↓reduceIte, reduceCtorEq, Nat.reduceEqDiff, Nat.reduceAdd, Nat.reduceMul, Nat.reduceSub, Nat.reduceLeDiff, Nat.reduceBEq, Int.reduceToNat, Int.reduceLE, Int.reduceLT, Int.reduceEq, Int.reduceNe, di0, di1, di2, di3, di4, di5, di6, di7, di8, di9, postX_ret, postX_normal, ex_some]
  simp only [hE, ruI, ssI, sbI, spI, swI, scI, stI, srI, saI, snI, ↓reduceIte, reduceCtorEq, Nat.reduceEqDiff, Nat.reduceAdd, Nat.reduceMul, Nat.reduceSub, Nat.reduceLeDiff, Nat.reduceBEq, Int.reduceToNat, Int.reduceLE, Int.reduceLT, Int.reduceEq, Int.reduceNe, di0, di1, di2, di3, di4, di5, di6, di7, di8, di9, postX_ret, postX_normal, ex_some]
  rw [fstE_zero, areasE_zero] at hE
  have hk := (thE_zero.1 hE.1).1
  have hp := th_parts hE.1
  rw [if_pos hk, if_pos hk]
  rw [show IntKind.wrap .i64 (thNum t) = thNum t from wrap64 (by omega) (by omega)]
  refine calls_of (s_damped (n := thNum t) (d := thDen t) (a := lo) (by omega) (by omega)) ?_; simp only [ruI, ssI, sbI, spI, swI, scI, stI, srI, saI, snI, res63, b63k0, b63k1, ↓reduceIte, reduceCtorEq, Nat.reduceEqDiff, Nat.reduceAdd, Nat.reduceMul, Nat.reduceSub, Nat.reduceLeDiff, Nat.reduceBEq, Int.reduceToNat, Int.reduceLE, Int.reduceLT, Int.reduceEq, Int.reduceNe, di0, di1, di2, di3, di4, di5, di6, di7, di8, di9, postX_ret, postX_normal, ex_some]
  unfold dampA
  by_cases h1 : thNum t < lo * thDen t
  · simp only [h1, ruI, ssI, sbI, spI, swI, scI, stI, srI, saI, snI, ↓reduceIte, reduceCtorEq, Nat.reduceEqDiff, Nat.reduceAdd, Nat.reduceMul, Nat.reduceSub, Nat.reduceLeDiff, Nat.reduceBEq, Int.reduceToNat, Int.reduceLE, Int.reduceLT, Int.reduceEq, Int.reduceNe, di0, di1, di2, di3, di4, di5, di6, di7, di8, di9, postX_ret, postX_normal, ex_some]
  · simp only [h1, ruI, ssI, sbI, spI, swI, scI, stI, srI, saI, snI, ↓reduceIte, reduceCtorEq, Nat.reduceEqDiff, Nat.reduceAdd, Nat.reduceMul, Nat.reduceSub, Nat.reduceLeDiff, Nat.reduceBEq, Int.reduceToNat, Int.reduceLE, Int.reduceLT, Int.reduceEq, Int.reduceNe, di0, di1, di2, di3, di4, di5, di6, di7, di8, di9, postX_ret, postX_normal, ex_some]
    refine calls_of (s_damped (n := thNum t) (d := thDen t) (a := hi) (by omega) (by omega)) ?_; simp only [ruI, ssI, sbI, spI, swI, scI, stI, srI, saI, snI, res63, b63k0, b63k1, ↓reduceIte, reduceCtorEq, Nat.reduceEqDiff, Nat.reduceAdd, Nat.reduceMul, Nat.reduceSub, Nat.reduceLeDiff, Nat.reduceBEq, Int.reduceToNat, Int.reduceLE, Int.reduceLT, Int.reduceEq, Int.reduceNe, di0, di1, di2, di3, di4, di5, di6, di7, di8, di9, postX_ret, postX_normal, ex_some]
    by_cases h2 : thNum t < hi * thDen t
    · simp only [h2, ruI, ssI, sbI, spI, swI, scI, stI, srI, saI, snI, ↓reduceIte, reduceCtorEq, Nat.reduceEqDiff, Nat.reduceAdd, Nat.reduceMul, Nat.reduceSub, Nat.reduceLeDiff, Nat.reduceBEq, Int.reduceToNat, Int.reduceLE, Int.reduceLT, Int.reduceEq, Int.reduceNe, di0, di1, di2, di3, di4, di5, di6, di7, di8, di9, postX_ret, postX_normal, ex_some]
    · simp only [h2, ruI, ssI, sbI, spI, swI, scI, stI, srI, saI, snI, ↓reduceIte, reduceCtorEq, Nat.reduceEqDiff, Nat.reduceAdd, Nat.reduceMul, Nat.reduceSub, Nat.reduceLeDiff, Nat.reduceBEq, Int.reduceToNat, Int.reduceLE, Int.reduceLT, Int.reduceEq, Int.reduceNe, di0, di1, di2, di3, di4, di5, di6, di7, di8, di9, postX_ret, postX_normal, ex_some]

theorem r_ThomaErr {t : Th} : Contract Try.prog 64 [thI t] (.int .i64 (thE t)) := by
  refine contract_run Try.func64 k64 rfl ?_
  simp only [body64, b64, res64, b64k0, b64k1, b64k2, b64k3, thI, ruI, ssI, sbI, spI, swI, scI, stI, srI, saI, snI, ↓reduceIte, reduceCtorEq, Nat.reduceEqDiff, Nat.reduceAdd, Nat.reduceMul, Nat.reduceSub, Nat.reduceLeDiff, Nat.reduceBEq, Int.reduceToNat, Int.reduceLE, Int.reduceLT, Int.reduceEq, Int.reduceNe, di0, di1, di2, di3, di4, di5, di6, di7, di8, di9, postX_ret, postX_normal, ex_some]
  refine loop_keep (α := Nat) rfl (fun i => 4 - i) (fun i => i ≤ 4 ∧ ∀ n ∈ (thList t).take i, Wi n 1 1000)
    (fun i => [(1, .ref 1 0), (3, .imm (snI (thList t))), (4, .imm (.int .i64 i))])
    (fun _ => [(1, .box [.imm (.int .i64 t.len), .imm (.int .i64 t.sec), .imm (.int .i64 t.loss), .imm (.int .i64 t.head), .imm (.int .i64 t.mach)])]) 0 ⟨Nat.zero_le _, by simp⟩ (by simp only [thList, List.map_cons, List.map_nil, ruI, ssI, sbI, spI, swI, scI, stI, srI, saI, snI, ↓reduceIte, reduceCtorEq, Nat.reduceEqDiff, Nat.reduceAdd, Nat.reduceMul, Nat.reduceSub, Nat.reduceLeDiff, Nat.reduceBEq, Int.reduceToNat, Int.reduceLE, Int.reduceLT, Int.reduceEq, Int.reduceNe, di0, di1, di2, di3, di4, di5, di6, di7, di8, di9, postX_ret, postX_normal, ex_some] <;> rfl) ?_
  rintro i ⟨hi, he⟩ ih
  have hl4 : (thList t).length = 4 := rfl
  simp only [res64, b64k0, b64k1, b64k2, b64k3, thList, List.map_cons, List.map_nil, List.length_cons, List.length_nil, ruI, ssI, sbI, spI, swI, scI, stI, srI, saI, snI, ↓reduceIte, reduceCtorEq, Nat.reduceEqDiff, Nat.reduceAdd, Nat.reduceMul, Nat.reduceSub, Nat.reduceLeDiff, Nat.reduceBEq, Int.reduceToNat, Int.reduceLE, Int.reduceLT, Int.reduceEq, Int.reduceNe, di0, di1, di2, di3, di4, di5, di6, di7, di8, di9, postX_ret, postX_normal, ex_some]
  split
  · rename_i h
    have hcase : ∀ x : Int, (thList t)[i]? = some x → (Wi x 1 1000 → ∀ n ∈ (thList t).take (i + 1), Wi n 1 1000) ∧ (¬ Wi x 1 1000 → ¬ thOk t) := by
      intro x hx
      constructor
      · intro hw n hn
        rw [List.take_add_one, hx] at hn
        rcases List.mem_append.1 hn with hn | hn
        · exact he n hn
        · simp at hn; subst hn; exact hw
      · intro hw k
        exact hw (k x (List.mem_of_getElem? hx))
    have h4 : i = 0 ∨ i = 1 ∨ i = 2 ∨ i = 3 := by omega
    rcases h4 with rfl | rfl | rfl | rfl
    · have hc := hcase t.len rfl
      repeat (refine And.intro (by omega) ?_)
      simp only [List.getD_cons_zero, List.getD_cons_succ, ruI, ssI, sbI, spI, swI, scI, stI, srI, saI, snI, ↓reduceIte, reduceCtorEq, Nat.reduceEqDiff, Nat.reduceAdd, Nat.reduceMul, Nat.reduceSub, Nat.reduceLeDiff, Nat.reduceBEq, Int.reduceToNat, Int.reduceLE, Int.reduceLT, Int.reduceEq, Int.reduceNe, di0, di1, di2, di3, di4, di5, di6, di7, di8, di9, postX_ret, postX_normal, ex_some]
      refine calls_of c_Wi ?_; simp only [ruI, ssI, sbI, spI, swI, scI, stI, srI, saI, snI, res64, b64k0, b64k1, b64k2, b64k3, ↓reduceIte, reduceCtorEq, Nat.reduceEqDiff, Nat.reduceAdd, Nat.reduceMul, Nat.reduceSub, Nat.reduceLeDiff, Nat.reduceBEq, Int.reduceToNat, Int.reduceLE, Int.reduceLT, Int.reduceEq, Int.reduceNe, di0, di1, di2, di3, di4, di5, di6, di7, di8, di9, postX_ret, postX_normal, ex_some]
      by_cases hw : Wi t.len 1 1000
      · simp only [hw, ruI, ssI, sbI, spI, swI, scI, stI, srI, saI, snI, ↓reduceIte, reduceCtorEq, Nat.reduceEqDiff, Nat.reduceAdd, Nat.reduceMul, Nat.reduceSub, Nat.reduceLeDiff, Nat.reduceBEq, Int.reduceToNat, Int.reduceLE, Int.reduceLT, Int.reduceEq, Int.reduceNe, di0, di1, di2, di3, di4, di5, di6, di7, di8, di9, postX_ret, postX_normal, ex_some]
        rw [wrap64 (by omega) (by omega)]
        exact ih 1 _ _ (by omega) ⟨by omega, hc.1 hw⟩ (by simp only [thList, List.map_cons, List.map_nil, ruI, ssI, sbI, spI, swI, scI, stI, srI, saI, snI, ↓reduceIte, reduceCtorEq, Nat.reduceEqDiff, Nat.reduceAdd, Nat.reduceMul, Nat.reduceSub, Nat.reduceLeDiff, Nat.reduceBEq, Int.reduceToNat, Int.reduceLE, Int.reduceLT, Int.reduceEq, Int.reduceNe, di0, di1, di2, di3, di4, di5, di6, di7, di8, di9, postX_ret, postX_normal, ex_some] <;> rfl)
      · have hno := hc.2 hw
        have he3 : thE t = 2 := if_neg hno
        simp only [hw, he3, ruI, ssI, sbI, spI, swI, scI, stI, srI, saI, snI, ↓reduceIte, reduceCtorEq, Nat.reduceEqDiff, Nat.reduceAdd, Nat.reduceMul, Nat.reduceSub, Nat.reduceLeDiff, Nat.reduceBEq, Int.reduceToNat, Int.reduceLE, Int.reduceLT, Int.reduceEq, Int.reduceNe, di0, di1, di2, di3, di4, di5, di6, di7, di8, di9, postX_ret, postX_normal, ex_some]
    · have hc := hcase t.sec rfl
      repeat (refine And.intro (by omega) ?_)
      simp only [List.getD_cons_zero, List.getD_cons_succ, ruI, ssI, sbI, spI, swI, scI, stI, srI, saI, snI, ↓reduceIte, reduceCtorEq, Nat.reduceEqDiff, Nat.reduceAdd, Nat.reduceMul, Nat.reduceSub, Nat.reduceLeDiff, Nat.reduceBEq, Int.reduceToNat, Int.reduceLE, Int.reduceLT, Int.reduceEq, Int.reduceNe, di0, di1, di2, di3, di4, di5, di6, di7, di8, di9, postX_ret, postX_normal, ex_some]
      refine calls_of c_Wi ?_; simp only [ruI, ssI, sbI, spI, swI, scI, stI, srI, saI, snI, res64, b64k0, b64k1, b64k2, b64k3, ↓reduceIte, reduceCtorEq, Nat.reduceEqDiff, Nat.reduceAdd, Nat.reduceMul, Nat.reduceSub, Nat.reduceLeDiff, Nat.reduceBEq, Int.reduceToNat, Int.reduceLE, Int.reduceLT, Int.reduceEq, Int.reduceNe, di0, di1, di2, di3, di4, di5, di6, di7, di8, di9, postX_ret, postX_normal, ex_some]
      by_cases hw : Wi t.sec 1 1000
      · simp only [hw, ruI, ssI, sbI, spI, swI, scI, stI, srI, saI, snI, ↓reduceIte, reduceCtorEq, Nat.reduceEqDiff, Nat.reduceAdd, Nat.reduceMul, Nat.reduceSub, Nat.reduceLeDiff, Nat.reduceBEq, Int.reduceToNat, Int.reduceLE, Int.reduceLT, Int.reduceEq, Int.reduceNe, di0, di1, di2, di3, di4, di5, di6, di7, di8, di9, postX_ret, postX_normal, ex_some]
        rw [wrap64 (by omega) (by omega)]
        exact ih 2 _ _ (by omega) ⟨by omega, hc.1 hw⟩ (by simp only [thList, List.map_cons, List.map_nil, ruI, ssI, sbI, spI, swI, scI, stI, srI, saI, snI, ↓reduceIte, reduceCtorEq, Nat.reduceEqDiff, Nat.reduceAdd, Nat.reduceMul, Nat.reduceSub, Nat.reduceLeDiff, Nat.reduceBEq, Int.reduceToNat, Int.reduceLE, Int.reduceLT, Int.reduceEq, Int.reduceNe, di0, di1, di2, di3, di4, di5, di6, di7, di8, di9, postX_ret, postX_normal, ex_some] <;> rfl)
      · have hno := hc.2 hw
        have he3 : thE t = 2 := if_neg hno
        simp only [hw, he3, ruI, ssI, sbI, spI, swI, scI, stI, srI, saI, snI, ↓reduceIte, reduceCtorEq, Nat.reduceEqDiff, Nat.reduceAdd, Nat.reduceMul, Nat.reduceSub, Nat.reduceLeDiff, Nat.reduceBEq, Int.reduceToNat, Int.reduceLE, Int.reduceLT, Int.reduceEq, Int.reduceNe, di0, di1, di2, di3, di4, di5, di6, di7, di8, di9, postX_ret, postX_normal, ex_some]
    · have hc := hcase t.loss rfl
      repeat (refine And.intro (by omega) ?_)
      simp only [List.getD_cons_zero, List.getD_cons_succ, ruI, ssI, sbI, spI, swI, scI, stI, srI, saI, snI, ↓reduceIte, reduceCtorEq, Nat.reduceEqDiff, Nat.reduceAdd, Nat.reduceMul, Nat.reduceSub, Nat.reduceLeDiff, Nat.reduceBEq, Int.reduceToNat, Int.reduceLE, Int.reduceLT, Int.reduceEq, Int.reduceNe, di0, di1, di2, di3, di4, di5, di6, di7, di8, di9, postX_ret, postX_normal, ex_some]
      refine calls_of c_Wi ?_; simp only [ruI, ssI, sbI, spI, swI, scI, stI, srI, saI, snI, res64, b64k0, b64k1, b64k2, b64k3, ↓reduceIte, reduceCtorEq, Nat.reduceEqDiff, Nat.reduceAdd, Nat.reduceMul, Nat.reduceSub, Nat.reduceLeDiff, Nat.reduceBEq, Int.reduceToNat, Int.reduceLE, Int.reduceLT, Int.reduceEq, Int.reduceNe, di0, di1, di2, di3, di4, di5, di6, di7, di8, di9, postX_ret, postX_normal, ex_some]
      by_cases hw : Wi t.loss 1 1000
      · simp only [hw, ruI, ssI, sbI, spI, swI, scI, stI, srI, saI, snI, ↓reduceIte, reduceCtorEq, Nat.reduceEqDiff, Nat.reduceAdd, Nat.reduceMul, Nat.reduceSub, Nat.reduceLeDiff, Nat.reduceBEq, Int.reduceToNat, Int.reduceLE, Int.reduceLT, Int.reduceEq, Int.reduceNe, di0, di1, di2, di3, di4, di5, di6, di7, di8, di9, postX_ret, postX_normal, ex_some]
        rw [wrap64 (by omega) (by omega)]
        exact ih 3 _ _ (by omega) ⟨by omega, hc.1 hw⟩ (by simp only [thList, List.map_cons, List.map_nil, ruI, ssI, sbI, spI, swI, scI, stI, srI, saI, snI, ↓reduceIte, reduceCtorEq, Nat.reduceEqDiff, Nat.reduceAdd, Nat.reduceMul, Nat.reduceSub, Nat.reduceLeDiff, Nat.reduceBEq, Int.reduceToNat, Int.reduceLE, Int.reduceLT, Int.reduceEq, Int.reduceNe, di0, di1, di2, di3, di4, di5, di6, di7, di8, di9, postX_ret, postX_normal, ex_some] <;> rfl)
      · have hno := hc.2 hw
        have he3 : thE t = 2 := if_neg hno
        simp only [hw, he3, ruI, ssI, sbI, spI, swI, scI, stI, srI, saI, snI, ↓reduceIte, reduceCtorEq, Nat.reduceEqDiff, Nat.reduceAdd, Nat.reduceMul, Nat.reduceSub, Nat.reduceLeDiff, Nat.reduceBEq, Int.reduceToNat, Int.reduceLE, Int.reduceLT, Int.reduceEq, Int.reduceNe, di0, di1, di2, di3, di4, di5, di6, di7, di8, di9, postX_ret, postX_normal, ex_some]
    · have hc := hcase t.head rfl
      repeat (refine And.intro (by omega) ?_)
      simp only [List.getD_cons_zero, List.getD_cons_succ, ruI, ssI, sbI, spI, swI, scI, stI, srI, saI, snI, ↓reduceIte, reduceCtorEq, Nat.reduceEqDiff, Nat.reduceAdd, Nat.reduceMul, Nat.reduceSub, Nat.reduceLeDiff, Nat.reduceBEq, Int.reduceToNat, Int.reduceLE, Int.reduceLT, Int.reduceEq, Int.reduceNe, di0, di1, di2, di3, di4, di5, di6, di7, di8, di9, postX_ret, postX_normal, ex_some]
      refine calls_of c_Wi ?_; simp only [ruI, ssI, sbI, spI, swI, scI, stI, srI, saI, snI, res64, b64k0, b64k1, b64k2, b64k3, ↓reduceIte, reduceCtorEq, Nat.reduceEqDiff, Nat.reduceAdd, Nat.reduceMul, Nat.reduceSub, Nat.reduceLeDiff, Nat.reduceBEq, Int.reduceToNat, Int.reduceLE, Int.reduceLT, Int.reduceEq, Int.reduceNe, di0, di1, di2, di3, di4, di5, di6, di7, di8, di9, postX_ret, postX_normal, ex_some]
      by_cases hw : Wi t.head 1 1000
      · simp only [hw, ruI, ssI, sbI, spI, swI, scI, stI, srI, saI, snI, ↓reduceIte, reduceCtorEq, Nat.reduceEqDiff, Nat.reduceAdd, Nat.reduceMul, Nat.reduceSub, Nat.reduceLeDiff, Nat.reduceBEq, Int.reduceToNat, Int.reduceLE, Int.reduceLT, Int.reduceEq, Int.reduceNe, di0, di1, di2, di3, di4, di5, di6, di7, di8, di9, postX_ret, postX_normal, ex_some]
        rw [wrap64 (by omega) (by omega)]
        exact ih 4 _ _ (by omega) ⟨by omega, hc.1 hw⟩ (by simp only [thList, List.map_cons, List.map_nil, ruI, ssI, sbI, spI, swI, scI, stI, srI, saI, snI, ↓reduceIte, reduceCtorEq, Nat.reduceEqDiff, Nat.reduceAdd, Nat.reduceMul, Nat.reduceSub, Nat.reduceLeDiff, Nat.reduceBEq, Int.reduceToNat, Int.reduceLE, Int.reduceLT, Int.reduceEq, Int.reduceNe, di0, di1, di2, di3, di4, di5, di6, di7, di8, di9, postX_ret, postX_normal, ex_some] <;> rfl)
      · have hno := hc.2 hw
        have he3 : thE t = 2 := if_neg hno
        simp only [hw, he3, ruI, ssI, sbI, spI, swI, scI, stI, srI, saI, snI, ↓reduceIte, reduceCtorEq, Nat.reduceEqDiff, Nat.reduceAdd, Nat.reduceMul, Nat.reduceSub, Nat.reduceLeDiff, Nat.reduceBEq, Int.reduceToNat, Int.reduceLE, Int.reduceLT, Int.reduceEq, Int.reduceNe, di0, di1, di2, di3, di4, di5, di6, di7, di8, di9, postX_ret, postX_normal, ex_some]
  · rename_i h
    have hk : thOk t := by
      have h4 : i = 4 := by omega
      subst h4
      exact he
    have he3 : thE t = if Wi t.mach 1 6 then 0 else 2 := if_pos hk
    rw [he3]
    refine calls_of c_Wi ?_; simp only [ruI, ssI, sbI, spI, swI, scI, stI, srI, saI, snI, res64, b64k0, b64k1, b64k2, b64k3, ↓reduceIte, reduceCtorEq, Nat.reduceEqDiff, Nat.reduceAdd, Nat.reduceMul, Nat.reduceSub, Nat.reduceLeDiff, Nat.reduceBEq, Int.reduceToNat, Int.reduceLE, Int.reduceLT, Int.reduceEq, Int.reduceNe, di0, di1, di2, di3, di4, di5, di6, di7, di8, di9, postX_ret, postX_normal, ex_some]
    by_cases h6 : Wi t.mach 1 6
    · simp only [h6, ruI, ssI, sbI, spI, swI, scI, stI, srI, saI, snI, ↓reduceIte, reduceCtorEq, Nat.reduceEqDiff, Nat.reduceAdd, Nat.reduceMul, Nat.reduceSub, Nat.reduceLeDiff, Nat.reduceBEq, Int.reduceToNat, Int.reduceLE, Int.reduceLT, Int.reduceEq, Int.reduceNe, di0, di1, di2, di3, di4, di5, di6, di7, di8, di9, postX_ret, postX_normal, ex_some]
    · simp only [h6, ruI, ssI, sbI, spI, swI, scI, stI, srI, saI, snI, ↓reduceIte, reduceCtorEq, Nat.reduceEqDiff, Nat.reduceAdd, Nat.reduceMul, Nat.reduceSub, Nat.reduceLeDiff, Nat.reduceBEq, Int.reduceToNat, Int.reduceLE, Int.reduceLT, Int.reduceEq, Int.reduceNe, di0, di1, di2, di3, di4, di5, di6, di7, di8, di9, postX_ret, postX_normal, ex_some]

theorem r_thoma {t : Th} (h : thE t = 0) : Contract Try.prog 125 [thI t] (.tup [.int .i64 (thNum t), .int .i64 (thDen t)]) := by
  have hk := (thE_zero.1 h).1
  have hp := th_parts h
  have hb := th_bd hk
  have hi4 := thOk_iff.1 hk
  have hd2 : 2 * t.loss * t.head = 2 * (t.loss * t.head) := Int.mul_assoc _ _ _
  have e1 : t.len * t.sec * 1000 * t.mach = thNum t := rfl
  have e2 : 2 * t.loss * t.head = thDen t := rfl
  refine contract_run Try.func125 k125 rfl ?_
  simp only [body125, b125, res125, thI, ruI, ssI, sbI, spI, swI, scI, stI, srI, saI, snI, ↓reduceIte, reduceCtorEq, Nat.reduceEqDiff, Nat.reduceAdd, Nat.reduceMul, Nat.reduceSub, Nat.reduceLeDiff, Nat.reduceBEq, Int.reduceToNat, Int.reduceLE, Int.reduceLT, Int.reduceEq, Int.reduceNe, di0, di1, di2, di3, di4, di5, di6, di7, di8, di9, postX_ret, postX_normal, ex_some]
  simp only [show IntKind.wrap .i64 (t.len * t.sec) = t.len * t.sec from wrap64 (by omega) (by omega)]
  simp only [show IntKind.wrap .i64 (t.len * t.sec * 1000) = t.len * t.sec * 1000 from wrap64 (by omega) (by omega)]
  simp only [show IntKind.wrap .i64 (2 * t.loss) = 2 * t.loss from wrap64 (by omega) (by omega)]
  rw [e1, e2]
  simp only [show IntKind.wrap .i64 (thNum t) = thNum t from wrap64 (by omega) (by omega)]
  simp only [show IntKind.wrap .i64 (thDen t) = thDen t from wrap64 (by omega) (by omega)]

theorem r_Thoma {t : Th} (h : thE t = 0) : Contract Try.prog 65 [thI t] (.tup [frI (lowP t), .bool (decide (thSmall t))]) := by
  have hp := th_parts h
  have hl := low_bd h
  have rt := r_thoma h
  have cl := Wd.c_Lowest (n := thNum t) (d := thDen t) (by omega) (by omega) (by omega) (by omega)
  have cs := Wd.c_IsSmall (n := (lowP t).1) (d := (lowP t).2)
  rw [show (decide ((-1000000000 ≤ (lowP t).1 ∧ (lowP t).1 ≤ 1000000000) ∧ 1 ≤ (lowP t).2 ∧ (lowP t).2 ≤ 1000000000)) = decide (thSmall t) by rw [decide_eq_decide]; unfold thSmall; omega] at cs
  rw [show thNum t / (Int.gcd (thNum t) (thDen t) : Int) = (lowP t).1 from rfl, show thDen t / (Int.gcd (thNum t) (thDen t) : Int) = (lowP t).2 from rfl] at cl
  refine contract_run Try.func65 k65 rfl ?_
  simp only [body65, b65, res65, thI, frI, ruI, ssI, sbI, spI, swI, scI, stI, srI, saI, snI, ↓reduceIte, reduceCtorEq, Nat.reduceEqDiff, Nat.reduceAdd, Nat.reduceMul, Nat.reduceSub, Nat.reduceLeDiff, Nat.reduceBEq, Int.reduceToNat, Int.reduceLE, Int.reduceLT, Int.reduceEq, Int.reduceNe, di0, di1, di2, di3, di4, di5, di6, di7, di8, di9, postX_ret, postX_normal, ex_some] at rt ⊢
  refine calls_of rt ?_; simp only [ruI, ssI, sbI, spI, swI, scI, stI, srI, saI, snI, res65, ↓reduceIte, reduceCtorEq, Nat.reduceEqDiff, Nat.reduceAdd, Nat.reduceMul, Nat.reduceSub, Nat.reduceLeDiff, Nat.reduceBEq, Int.reduceToNat, Int.reduceLE, Int.reduceLT, Int.reduceEq, Int.reduceNe, di0, di1, di2, di3, di4, di5, di6, di7, di8, di9, postX_ret, postX_normal, ex_some]
  refine calls_of cl ?_; simp only [ruI, ssI, sbI, spI, swI, scI, stI, srI, saI, snI, res65, ↓reduceIte, reduceCtorEq, Nat.reduceEqDiff, Nat.reduceAdd, Nat.reduceMul, Nat.reduceSub, Nat.reduceLeDiff, Nat.reduceBEq, Int.reduceToNat, Int.reduceLE, Int.reduceLT, Int.reduceEq, Int.reduceNe, di0, di1, di2, di3, di4, di5, di6, di7, di8, di9, postX_ret, postX_normal, ex_some]
  refine calls_of cs ?_; simp only [ruI, ssI, sbI, spI, swI, scI, stI, srI, saI, snI, res65, ↓reduceIte, reduceCtorEq, Nat.reduceEqDiff, Nat.reduceAdd, Nat.reduceMul, Nat.reduceSub, Nat.reduceLeDiff, Nat.reduceBEq, Int.reduceToNat, Int.reduceLE, Int.reduceLT, Int.reduceEq, Int.reduceNe, di0, di1, di2, di3, di4, di5, di6, di7, di8, di9, postX_ret, postX_normal, ex_some]

theorem r_AreasErr {lo hi : Int} : Contract Try.prog 66 [stI lo hi] (.int .i64 (areasE lo hi)) := by
  refine contract_run Try.func66 k66 rfl ?_
  simp only [body66, b66, res66, b66k0, b66k1, ruI, ssI, sbI, spI, swI, scI, stI, srI, saI, snI, ↓reduceIte, reduceCtorEq, Nat.reduceEqDiff, Nat.reduceAdd, Nat.reduceMul, Nat.reduceSub, Nat.reduceLeDiff, Nat.reduceBEq, Int.reduceToNat, Int.reduceLE, Int.reduceLT, Int.reduceEq, Int.reduceNe, di0, di1, di2, di3, di4, di5, di6, di7, di8, di9, postX_ret, postX_normal, ex_some]
  refine calls_of c_Wi ?_; simp only [ruI, ssI, sbI, spI, swI, scI, stI, srI, saI, snI, res66, b66k0, b66k1, ↓reduceIte, reduceCtorEq, Nat.reduceEqDiff, Nat.reduceAdd, Nat.reduceMul, Nat.reduceSub, Nat.reduceLeDiff, Nat.reduceBEq, Int.reduceToNat, Int.reduceLE, Int.reduceLT, Int.reduceEq, Int.reduceNe, di0, di1, di2, di3, di4, di5, di6, di7, di8, di9, postX_ret, postX_normal, ex_some]
  unfold areasE
  by_cases wl : Wi lo 0 1000000000
  case neg => simp only [wl, ruI, ssI, sbI, spI, swI, scI, stI, srI, saI, snI, ↓reduceIte, reduceCtorEq, Nat.reduceEqDiff, Nat.reduceAdd, Nat.reduceMul, Nat.reduceSub, Nat.reduceLeDiff, Nat.reduceBEq, Int.reduceToNat, Int.reduceLE, Int.reduceLT, Int.reduceEq, Int.reduceNe, di0, di1, di2, di3, di4, di5, di6, di7, di8, di9, postX_ret, postX_normal, ex_some]; simp [fstE]
  simp only [wl, ruI, ssI, sbI, spI, swI, scI, stI, srI, saI, snI, ↓reduceIte, reduceCtorEq, Nat.reduceEqDiff, Nat.reduceAdd, Nat.reduceMul, Nat.reduceSub, Nat.reduceLeDiff, Nat.reduceBEq, Int.reduceToNat, Int.reduceLE, Int.reduceLT, Int.reduceEq, Int.reduceNe, di0, di1, di2, di3, di4, di5, di6, di7, di8, di9, postX_ret, postX_normal, ex_some]
  refine calls_of c_Wi ?_; simp only [ruI, ssI, sbI, spI, swI, scI, stI, srI, saI, snI, res66, b66k0, b66k1, ↓reduceIte, reduceCtorEq, Nat.reduceEqDiff, Nat.reduceAdd, Nat.reduceMul, Nat.reduceSub, Nat.reduceLeDiff, Nat.reduceBEq, Int.reduceToNat, Int.reduceLE, Int.reduceLT, Int.reduceEq, Int.reduceNe, di0, di1, di2, di3, di4, di5, di6, di7, di8, di9, postX_ret, postX_normal, ex_some]
  by_cases wh : Wi hi 0 1000000000
  case neg => simp only [wh, ruI, ssI, sbI, spI, swI, scI, stI, srI, saI, snI, ↓reduceIte, reduceCtorEq, Nat.reduceEqDiff, Nat.reduceAdd, Nat.reduceMul, Nat.reduceSub, Nat.reduceLeDiff, Nat.reduceBEq, Int.reduceToNat, Int.reduceLE, Int.reduceLT, Int.reduceEq, Int.reduceNe, di0, di1, di2, di3, di4, di5, di6, di7, di8, di9, postX_ret, postX_normal, ex_some]; simp [fstE]
  simp only [wh, ruI, ssI, sbI, spI, swI, scI, stI, srI, saI, snI, ↓reduceIte, reduceCtorEq, Nat.reduceEqDiff, Nat.reduceAdd, Nat.reduceMul, Nat.reduceSub, Nat.reduceLeDiff, Nat.reduceBEq, Int.reduceToNat, Int.reduceLE, Int.reduceLT, Int.reduceEq, Int.reduceNe, di0, di1, di2, di3, di4, di5, di6, di7, di8, di9, postX_ret, postX_normal, ex_some]
  by_cases h2 : hi < lo
  · rw [if_pos h2, if_neg (show ¬ lo ≤ hi by omega)]; simp [fstE]
  · rw [if_neg h2, if_pos (show lo ≤ hi by omega)]; simp [fstE]

theorem r_Damped {t : Th} {lo hi : Int} (h : thE t = 0) (hA : areasE lo hi = 0) : Contract Try.prog 67 [thI t, stI lo hi] (.int .i64 (dampA t lo hi)) := by
  have hp := th_parts h
  rw [areasE_zero] at hA
  have rt := r_thoma h
  have m : ∀ a : Int, 0 ≤ a → a ≤ 1000000000 → 0 ≤ a * thDen t ∧ a * thDen t ≤ 2000000000000000 := fun a h1 h2 => by
    have k1 : 0 ≤ a * thDen t := Int.mul_nonneg h1 (by omega)
    have k2 : a * thDen t ≤ 1000000000 * 2000000 := Int.mul_le_mul h2 hp.2.2 (by omega) (by omega)
    omega
  have m1 := m lo (by omega) (by omega)
  have m2 := m hi (by omega) (by omega)
  refine contract_run Try.func67 k67 rfl ?_
  simp only [body67, b67, res67, b67k0, thI, ruI, ssI, sbI, spI, swI, scI, stI, srI, saI, snI, ↓reduceIte, reduceCtorEq, Nat.reduceEqDiff, Nat.reduceAdd, Nat.reduceMul, Nat.reduceSub, Nat.reduceLeDiff, Nat.reduceBEq, Int.reduceToNat, Int.reduceLE, Int.reduceLT, Int.reduceEq, Int.reduceNe, di0, di1, di2, di3, di4, di5, di6, di7, di8, di9, postX_ret, postX_normal, ex_some] at rt ⊢
  refine calls_of rt ?_; simp only [ruI, ssI, sbI, spI, swI, scI, stI, srI, saI, snI, res67, b67k0, ↓reduceIte, reduceCtorEq, Nat.reduceEqDiff, Nat.reduceAdd, Nat.reduceMul, Nat.reduceSub, Nat.reduceLeDiff, Nat.reduceBEq, Int.reduceToNat, Int.reduceLE, Int.reduceLT, Int.reduceEq, Int.reduceNe, di0, di1, di2, di3, di4, di5, di6, di7, di8, di9, postX_ret, postX_normal, ex_some]
  simp only [show IntKind.wrap .i64 (lo * thDen t) = lo * thDen t from wrap64 (by omega) (by omega)]
  unfold dampA
  by_cases h1 : thNum t < lo * thDen t
  · simp only [h1, ruI, ssI, sbI, spI, swI, scI, stI, srI, saI, snI, ↓reduceIte, reduceCtorEq, Nat.reduceEqDiff, Nat.reduceAdd, Nat.reduceMul, Nat.reduceSub, Nat.reduceLeDiff, Nat.reduceBEq, Int.reduceToNat, Int.reduceLE, Int.reduceLT, Int.reduceEq, Int.reduceNe, di0, di1, di2, di3, di4, di5, di6, di7, di8, di9, postX_ret, postX_normal, ex_some]
  · simp only [h1, ruI, ssI, sbI, spI, swI, scI, stI, srI, saI, snI, ↓reduceIte, reduceCtorEq, Nat.reduceEqDiff, Nat.reduceAdd, Nat.reduceMul, Nat.reduceSub, Nat.reduceLeDiff, Nat.reduceBEq, Int.reduceToNat, Int.reduceLE, Int.reduceLT, Int.reduceEq, Int.reduceNe, di0, di1, di2, di3, di4, di5, di6, di7, di8, di9, postX_ret, postX_normal, ex_some]
    simp only [show IntKind.wrap .i64 (hi * thDen t) = hi * thDen t from wrap64 (by omega) (by omega)]
    by_cases h2 : hi * thDen t ≤ thNum t
    · rw [if_pos h2, if_neg (show ¬ thNum t < hi * thDen t by omega)]
    · rw [if_neg h2, if_pos (show thNum t < hi * thDen t by omega)]

theorem c_Mod {n d : Int} (hd : 0 < d) (hn : 0 ≤ n ∧ n ≤ 9223372036854775807) (hd2 : d ≤ 1000000000) : Contract Try.prog 68 [.int .i64 n, .int .i64 d] (.int .i64 (n % d)) := by
  have h1 := Int.emod_nonneg n (show d ≠ 0 by omega)
  have h2 := Int.emod_lt_of_pos n hd
  refine contract_run Try.func68 k68 rfl ?_
  simp only [body68, b68, res68, b68k0, ruI, ssI, sbI, spI, swI, scI, stI, srI, saI, snI, ↓reduceIte, reduceCtorEq, Nat.reduceEqDiff, Nat.reduceAdd, Nat.reduceMul, Nat.reduceSub, Nat.reduceLeDiff, Nat.reduceBEq, Int.reduceToNat, Int.reduceLE, Int.reduceLT, Int.reduceEq, Int.reduceNe, di0, di1, di2, di3, di4, di5, di6, di7, di8, di9, postX_ret, postX_normal, ex_some]
  rw [Int.tmod_eq_emod_of_nonneg hn.1]
  refine ⟨by omega, ?_⟩
  rw [if_neg (by omega)]

theorem c_RatioFrom {x : Int × Int} (h1 : -9223372036854775807 ≤ x.1 ∧ x.1 ≤ 9223372036854775807) (h2 : 0 < x.2 ∧ x.2 ≤ 9223372036854775807) : Contract Try.prog 72 [frI x] (Wd.ratio (Rat.divInt x.1 x.2)) := by
  have c := Wd.c_RatioOf (n := x.1) (d := x.2) h1.1 h1.2 (by omega) h2.2 (by omega)
  refine contract_run Try.func72 k72 rfl ?_
  simp only [body72, b72, res72, frI, Wd.ratio, ruI, ssI, sbI, spI, swI, scI, stI, srI, saI, snI, ↓reduceIte, reduceCtorEq, Nat.reduceEqDiff, Nat.reduceAdd, Nat.reduceMul, Nat.reduceSub, Nat.reduceLeDiff, Nat.reduceBEq, Int.reduceToNat, Int.reduceLE, Int.reduceLT, Int.reduceEq, Int.reduceNe, di0, di1, di2, di3, di4, di5, di6, di7, di8, di9, postX_ret, postX_normal, ex_some] at c ⊢
  refine calls_of c ?_; simp only [ruI, ssI, sbI, spI, swI, scI, stI, srI, saI, snI, res72, ↓reduceIte, reduceCtorEq, Nat.reduceEqDiff, Nat.reduceAdd, Nat.reduceMul, Nat.reduceSub, Nat.reduceLeDiff, Nat.reduceBEq, Int.reduceToNat, Int.reduceLE, Int.reduceLT, Int.reduceEq, Int.reduceNe, di0, di1, di2, di3, di4, di5, di6, di7, di8, di9, postX_ret, postX_normal, ex_some]
end Go.DI

