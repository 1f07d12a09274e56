/- Contracts of the reference: runs. No condition. -/
import Derived.Test.YtdpfjbghiahbeaaKj
import Derived.Test.YtdpfjbghiahbeaaKk
/- The reference's functions of runs, and the law of runs, as data. No condition. -/
namespace Go.DI
open Go.Proofs Go.RowKit
/-- guidevane/guidevanebase.CopyInts -/
def b43 : DCode :=
 (.seq
  (.region [⟨(some 2), .mov, [.c (.slc 1 [])], none, []⟩] false)
  (.seq
   (.region [⟨(some 3), (.bsl 1), [], none, []⟩,
     ⟨(some 4), .movv, [.t 0], none, []⟩,
     ⟨(some 5), (.append 1 8 false), [.t 3, .t 4], none, [0, 1]⟩,
     ⟨(some 2), .movv, [.t 5], none, [2, 2, 0, 1, 2]⟩] false)
   .ret))
def d43 : DFn := ⟨1, 6, [.tmp 2], b43⟩
theorem body43 : d43.body = b43 := rfl
theorem res43 : d43.res = [.tmp 2] := rfl
theorem k43 : chkFn Try.prog Try.f43 d43 = true := by kernel_rfl

/-- guidevane/guidevaneref04.LoadsErr -/
def b52k0 : DCode :=
 (.region [⟨(some 12), .mov, [.t 3], none, []⟩,
   ⟨(some 13), (.bin .add), [.t 12, .c (.int .i64 1)], none, [0]⟩,
   ⟨(some 3), .mov, [.t 13], none, [1, 0, 1]⟩] false)
def b52k1 : DCode :=
 (.seq
  (.block 1
   (.seq
    (.region [⟨(some 14), .movv, [.t 0], none, []⟩,
      ⟨(some 15), .mov, [.t 3], none, []⟩,
      ⟨(some 16), (.iaddr 1), [.t 14, .t 15], none, [0, 1]⟩,
      ⟨(some 17), (.load false 1), [.t 16], none, [2]⟩,
      ⟨(some 18), .call, [.f 21, .t 17], none, [3]⟩,
      ⟨(some 4), .mov, [.t 18], none, [4, 4, 0, 1, 2, 3, 4]⟩] false)
    (.seq
     (.region [⟨(some 19), .mov, [.t 4], none, []⟩,
       ⟨(some 20), (.bin .neq), [.t 19, .c (.int .i64 0)], none, [0]⟩] false)
     (.cond (.t 20)
      (.seq
       (.region [⟨(some 21), .mov, [.t 4], none, []⟩,
         ⟨(some 2), .mov, [.t 21], none, [0, 0]⟩] false)
       .ret)
      .skip))))
  (.keep [0, 3] [] b52k0))
def b52l0 : DCode := .keep [0, 3] []
  (.seq
   (.seq
    (.region [⟨(some 8), .mov, [.t 3], none, []⟩,
      ⟨(some 9), .movv, [.t 0], none, []⟩,
      ⟨(some 10), .len, [.t 9], none, [1]⟩,
      ⟨(some 11), (.bin .lss), [.t 8, .t 10], none, [0, 2]⟩] false)
    (.cond (.t 11)
     .skip
     (.exit 0)))
   (.keep [0, 3] [] b52k1))
def b52k2 : DCode :=
 (.seq
  (.region [⟨(some 2), .mov, [.c (.int .i64 0)], none, []⟩] false)
  .ret)
def b52k3 : DCode :=
 (.seq
  (.seq
   (.region [⟨(some 3), .mov, [.c (.int .i64 0)], none, []⟩] false)
   (.block 0
    (.loop b52l0)))
  (.keep [] [] b52k2))
def b52 : DCode :=
 (.seq
  (.region [⟨(some 2), .mov, [.c (.int .i64 0)], none, []⟩] false)
  (.seq
   (.seq
    (.region [⟨(some 5), .movv, [.t 0], none, []⟩,
      ⟨(some 6), .len, [.t 5], none, [0]⟩,
      ⟨(some 7), (.bin .gtr), [.t 6, .c (.int .i64 200)], none, [1]⟩] false)
    (.cond (.t 7)
     (.seq
      (.region [⟨(some 2), .mov, [.c (.int .i64 8)], none, []⟩] false)
      .ret)
     .skip))
   (.keep [0] [] b52k3)))
def d52 : DFn := ⟨1, 22, [.tmp 2], b52⟩
theorem body52 : d52.body = b52 := rfl
theorem res52 : d52.res = [.tmp 2] := rfl
theorem k52 : chkFn Try.prog Try.f52 d52 = true := by kernel_rfl

/-- guidevane/guidevaneref04.SameStates -/
def b53k0 : DCode :=
 (.region [⟨(some 15), .mov, [.t 5], none, []⟩,
   ⟨(some 16), (.bin .add), [.t 15, .c (.int .i64 1)], none, [0]⟩,
   ⟨(some 5), .mov, [.t 16], none, [1, 0, 1]⟩] false)
def b53k1 : DCode :=
 (.seq
  (.block 1
   (.seq
    (.region [⟨(some 17), .movv, [.t 0], none, []⟩,
      ⟨(some 18), .mov, [.t 5], none, []⟩,
      ⟨(some 19), (.iaddr 2), [.t 17, .t 18], none, [0, 1]⟩,
      ⟨(some 20), (.load true 2), [.t 19], none, [2]⟩,
      ⟨(some 21), .movv, [.t 1], none, []⟩,
      ⟨(some 22), .mov, [.t 5], none, []⟩,
      ⟨(some 23), (.iaddr 2), [.t 21, .t 22], none, [4, 5]⟩,
      ⟨(some 24), (.load true 2), [.t 23], none, [6]⟩,
      ⟨(some 25), (.eqs [false, false] true), [.t 20, .t 24], none, [3, 7]⟩] true)
    (.cond (.t 25)
     (.seq
      (.region [⟨(some 4), .mov, [.c (.bool false)], none, []⟩] false)
      .ret)
     .skip)))
  (.keep [0, 1, 5] [] b53k0))
def b53l0 : DCode := .keep [0, 1, 5] []
  (.seq
   (.seq
    (.region [⟨(some 11), .mov, [.t 5], none, []⟩,
      ⟨(some 12), .movv, [.t 0], none, []⟩,
      ⟨(some 13), .len, [.t 12], none, [1]⟩,
      ⟨(some 14), (.bin .lss), [.t 11, .t 13], none, [0, 2]⟩] false)
    (.cond (.t 14)
     .skip
     (.exit 0)))
   (.keep [0, 1, 5] [] b53k1))
def b53k2 : DCode :=
 (.seq
  (.region [⟨(some 4), .mov, [.c (.bool true)], none, []⟩] false)
  .ret)
def b53k3 : DCode :=
 (.seq
  (.seq
   (.region [⟨(some 5), .mov, [.c (.int .i64 0)], none, []⟩] false)
   (.block 0
    (.loop b53l0)))
  (.keep [] [] b53k2))
def b53 : DCode :=
 (.seq
  (.region [⟨(some 4), .mov, [.c (.bool false)], none, []⟩] false)
  (.seq
   (.seq
    (.region [⟨(some 6), .movv, [.t 0], none, []⟩,
      ⟨(some 7), .len, [.t 6], none, [0]⟩,
      ⟨(some 8), .movv, [.t 1], none, []⟩,
      ⟨(some 9), .len, [.t 8], none, [2]⟩,
      ⟨(some 10), (.bin .neq), [.t 7, .t 9], none, [1, 3]⟩] false)
    (.cond (.t 10)
     (.seq
      (.region [⟨(some 4), .mov, [.c (.bool false)], none, []⟩] false)
      .ret)
     .skip))
   (.keep [0, 1] [] b53k3)))
def d53 : DFn := ⟨2, 26, [.tmp 4], b53⟩
theorem body53 : d53.body = b53 := rfl
theorem res53 : d53.res = [.tmp 4] := rfl
theorem k53 : chkFn Try.prog Try.f53 d53 = true := by kernel_rfl

/-- guidevane/guidevaneref04.Run -/
def b54k0 : DCode :=
 (.seq
  (.block 1
   (.seq
    (.region [⟨(some 17), (.load true 5), [.t 4], none, []⟩,
      ⟨(some 18), (.load true 2), [.t 5], none, []⟩,
      ⟨(some 19), .movv, [.t 2], none, []⟩,
      ⟨(some 20), .mov, [.t 10], none, []⟩,
      ⟨(some 21), (.iaddr 1), [.t 19, .t 20], none, [2, 3]⟩,
      ⟨(some 22), (.load false 1), [.t 21], none, [4]⟩,
      ⟨(some 23), .mov, [.t 3], none, []⟩,
      ⟨(some 24), .call, [.f 23, .t 17, .t 18, .t 22, .t 23], none, [0, 1, 5, 6]⟩,
      ⟨none, (.store 2), [.t 5, .t 24], none, [7, 7, 0, 1, 2, 3, 4, 5, 6, 7]⟩] true)
    (.region [⟨(some 25), .mov, [.t 9], none, []⟩,
      ⟨(some 26), (.load true 2), [.t 5], none, []⟩,
      ⟨(some 27), (.bsl 2), [.t 26], none, [1]⟩,
      ⟨(some 28), (.append 2 16 false), [.t 25, .t 27], none, [0, 2]⟩,
      ⟨(some 9), .mov, [.t 28], none, [3, 3, 0, 1, 2, 3]⟩] false)))
  (.region [⟨(some 15), .mov, [.t 10], none, []⟩,
    ⟨(some 16), (.bin .add), [.t 15, .c (.int .i64 1)], none, [0]⟩,
    ⟨(some 10), .mov, [.t 16], none, [1, 0, 1]⟩] false))
def b54l0 : DCode := .keep [2, 3, 4, 5, 9, 10] [4, 5, 9, 28]
  (.seq
   (.seq
    (.region [⟨(some 11), .mov, [.t 10], none, []⟩,
      ⟨(some 12), .movv, [.t 2], none, []⟩,
      ⟨(some 13), .len, [.t 12], none, [1]⟩,
      ⟨(some 14), (.bin .lss), [.t 11, .t 13], none, [0, 2]⟩] false)
    (.cond (.t 14)
     .skip
     (.exit 0)))
   (.keep [2, 3, 4, 5, 9, 10] [4, 5, 9, 28] b54k0))
def b54k1 : DCode :=
 (.seq
  (.region [⟨(some 29), .movv, [.t 9], none, []⟩,
    ⟨(some 8), .movv, [.t 29], none, [0, 0]⟩] false)
  .ret)
def b54 : DCode :=
 (.seq
  (.region [⟨(some 4), .box, [.t 0], none, []⟩,
    ⟨(some 5), .box, [.t 1], none, []⟩,
    ⟨(some 8), .mov, [.c (.slc 2 [])], none, []⟩] false)
  (.seq
   (.region [⟨(some 9), (.ntok 2), [.c (.slc 2 [])], none, []⟩] false)
   (.seq
    (.seq
     (.region [⟨(some 10), .mov, [.c (.int .i64 0)], none, []⟩] false)
     (.block 0
      (.loop b54l0)))
    (.keep [9] [9, 28] b54k1))))
def d54 : DFn := ⟨4, 30, [.tmp 8], b54⟩
theorem body54 : d54.body = b54 := rfl
theorem res54 : d54.res = [.tmp 8] := rfl
theorem k54 : chkFn Try.prog Try.f54 d54 = true := by kernel_rfl

/-- guidevane/guidevaneref04.BoxStep -/
def b56k0 : DCode :=
 (.seq
  (.region [⟨(some 94), (.faddr 0 true 2), [.t 7], none, []⟩,
    ⟨(some 95), (.faddr 0 false 1), [.t 94], none, [0]⟩,
    ⟨(some 96), (.load false 1), [.t 95], none, [1]⟩,
    ⟨(some 97), .mov, [.t 10], none, []⟩,
    ⟨(some 98), (.mm false), [.t 96, .t 97], none, [2, 3]⟩,
    ⟨(some 99), (.faddr 0 true 2), [.t 7], none, []⟩,
    ⟨(some 100), (.faddr 1 false 1), [.t 99], none, [5]⟩,
    ⟨(some 101), (.load false 1), [.t 100], none, [6]⟩,
    ⟨(some 102), .mov, [.t 11], none, []⟩,
    ⟨(some 103), (.mm true), [.t 101, .t 102], none, [7, 8]⟩,
    ⟨(some 104), (.build [(.imm (.int .i64 0)), (.imm (.int .i64 0))] [(0, 1), (1, 1)]), [.t 98, .t 103], none, [4, 9]⟩,
    ⟨(some 105), (.faddr 0 true 2), [.t 7], none, [0, 1, 2, 3, 4, 5, 6, 7, 8, 9, 10]⟩,
    ⟨none, (.store 2), [.t 105, .t 104], none, [11, 10, 0, 1, 2, 3, 4, 5, 6, 7, 8, 9, 10]⟩] false)
  (.region [⟨(some 106), (.faddr 2 true 2), [.t 7], none, []⟩,
    ⟨(some 107), (.faddr 0 false 1), [.t 106], none, [0]⟩,
    ⟨(some 108), (.load false 1), [.t 107], none, [1]⟩,
    ⟨(some 109), .mov, [.t 12], none, []⟩,
    ⟨(some 110), (.mm false), [.t 108, .t 109], none, [2, 3]⟩,
    ⟨(some 111), (.faddr 2 true 2), [.t 7], none, []⟩,
    ⟨(some 112), (.faddr 1 false 1), [.t 111], none, [5]⟩,
    ⟨(some 113), (.load false 1), [.t 112], none, [6]⟩,
    ⟨(some 114), .mov, [.t 13], none, []⟩,
    ⟨(some 115), (.mm true), [.t 113, .t 114], none, [7, 8]⟩,
    ⟨(some 116), (.build [(.imm (.int .i64 0)), (.imm (.int .i64 0))] [(0, 1), (1, 1)]), [.t 110, .t 115], none, [4, 9]⟩,
    ⟨(some 117), (.faddr 2 true 2), [.t 7], none, [0, 1, 2, 3, 4, 5, 6, 7, 8, 9, 10]⟩,
    ⟨none, (.store 2), [.t 117, .t 116], none, [11, 10, 0, 1, 2, 3, 4, 5, 6, 7, 8, 9, 10]⟩] false))
def b56k1 : DCode :=
 (.region [⟨(some 23), .mov, [.t 9], none, []⟩,
   ⟨(some 24), (.bin .add), [.t 23, .c (.int .i64 1)], none, [0]⟩,
   ⟨(some 9), .mov, [.t 24], none, [1, 0, 1]⟩] false)
def b56k2 : DCode :=
 (.seq
  (.block 1
   (.seq
    (.region [⟨(some 25), (.load true 5), [.t 3], none, []⟩,
      ⟨(some 26), (.faddr 0 true 2), [.t 4], none, []⟩,
      ⟨(some 27), (.faddr 0 false 1), [.t 26], none, [1]⟩,
      ⟨(some 28), (.load false 1), [.t 27], none, [2]⟩,
      ⟨(some 29), (.faddr 2 true 2), [.t 4], none, []⟩,
      ⟨(some 30), (.faddr 0 false 1), [.t 29], none, [4]⟩,
      ⟨(some 31), (.load false 1), [.t 30], none, [5]⟩,
      ⟨(some 32), (.build [(.imm (.int .i64 0)), (.imm (.int .i64 0))] [(0, 1), (1, 1)]), [.t 28, .t 31], none, [3, 6]⟩,
      ⟨(some 33), .mov, [.t 2], none, []⟩,
      ⟨(some 34), .movv, [.t 8], none, []⟩,
      ⟨(some 35), .mov, [.t 9], none, []⟩,
      ⟨(some 36), (.iaddr 1), [.t 34, .t 35], none, [9, 10]⟩,
      ⟨(some 37), (.load false 1), [.t 36], none, [11]⟩,
      ⟨(some 38), .call, [.f 23, .t 25, .t 32, .t 33, .t 37], none, [0, 7, 8, 12]⟩,
      ⟨(some 39), (.field 0 false 1), [.t 38], none, [13]⟩,
      ⟨(some 10), .mov, [.t 39], none, [14, 13, 0, 1, 2, 3, 4, 5, 6, 7, 8, 9, 10, 11, 12, 13, 14]⟩] true)
    (.seq
     (.region [⟨(some 40), (.load true 5), [.t 3], none, []⟩,
       ⟨(some 41), (.faddr 0 true 2), [.t 4], none, []⟩,
       ⟨(some 42), (.faddr 1 false 1), [.t 41], none, [1]⟩,
       ⟨(some 43), (.load false 1), [.t 42], none, [2]⟩,
       ⟨(some 44), (.faddr 2 true 2), [.t 4], none, []⟩,
       ⟨(some 45), (.faddr 1 false 1), [.t 44], none, [4]⟩,
       ⟨(some 46), (.load false 1), [.t 45], none, [5]⟩,
       ⟨(some 47), (.build [(.imm (.int .i64 0)), (.imm (.int .i64 0))] [(0, 1), (1, 1)]), [.t 43, .t 46], none, [3, 6]⟩,
       ⟨(some 48), .mov, [.t 2], none, []⟩,
       ⟨(some 49), .movv, [.t 8], none, []⟩,
       ⟨(some 50), .mov, [.t 9], none, []⟩,
       ⟨(some 51), (.iaddr 1), [.t 49, .t 50], none, [9, 10]⟩,
       ⟨(some 52), (.load false 1), [.t 51], none, [11]⟩,
       ⟨(some 53), .call, [.f 23, .t 40, .t 47, .t 48, .t 52], none, [0, 7, 8, 12]⟩,
       ⟨(some 54), (.field 0 false 1), [.t 53], none, [13]⟩,
       ⟨(some 11), .mov, [.t 54], none, [14, 13, 0, 1, 2, 3, 4, 5, 6, 7, 8, 9, 10, 11, 12, 13, 14]⟩] true)
     (.seq
      (.region [⟨(some 55), (.load true 5), [.t 3], none, []⟩,
        ⟨(some 56), (.faddr 0 true 2), [.t 4], none, []⟩,
        ⟨(some 57), (.faddr 1 false 1), [.t 56], none, [1]⟩,
        ⟨(some 58), (.load false 1), [.t 57], none, [2]⟩,
        ⟨(some 59), (.faddr 2 true 2), [.t 4], none, []⟩,
        ⟨(some 60), (.faddr 0 false 1), [.t 59], none, [4]⟩,
        ⟨(some 61), (.load false 1), [.t 60], none, [5]⟩,
        ⟨(some 62), (.build [(.imm (.int .i64 0)), (.imm (.int .i64 0))] [(0, 1), (1, 1)]), [.t 58, .t 61], none, [3, 6]⟩,
        ⟨(some 63), .mov, [.t 2], none, []⟩,
        ⟨(some 64), .movv, [.t 8], none, []⟩,
        ⟨(some 65), .mov, [.t 9], none, []⟩,
        ⟨(some 66), (.iaddr 1), [.t 64, .t 65], none, [9, 10]⟩,
        ⟨(some 67), (.load false 1), [.t 66], none, [11]⟩,
        ⟨(some 68), .call, [.f 23, .t 55, .t 62, .t 63, .t 67], none, [0, 7, 8, 12]⟩,
        ⟨(some 69), (.field 1 false 1), [.t 68], none, [13]⟩,
        ⟨(some 12), .mov, [.t 69], none, [14, 13, 0, 1, 2, 3, 4, 5, 6, 7, 8, 9, 10, 11, 12, 13, 14]⟩] true)
      (.seq
       (.region [⟨(some 70), (.load true 5), [.t 3], none, []⟩,
         ⟨(some 71), (.faddr 0 true 2), [.t 4], none, []⟩,
         ⟨(some 72), (.faddr 0 false 1), [.t 71], none, [1]⟩,
         ⟨(some 73), (.load false 1), [.t 72], none, [2]⟩,
         ⟨(some 74), (.faddr 2 true 2), [.t 4], none, []⟩,
         ⟨(some 75), (.faddr 1 false 1), [.t 74], none, [4]⟩,
         ⟨(some 76), (.load false 1), [.t 75], none, [5]⟩,
         ⟨(some 77), (.build [(.imm (.int .i64 0)), (.imm (.int .i64 0))] [(0, 1), (1, 1)]), [.t 73, .t 76], none, [3, 6]⟩,
         ⟨(some 78), .mov, [.t 2], none, []⟩,
         ⟨(some 79), .movv, [.t 8], none, []⟩,
         ⟨(some 80), .mov, [.t 9], none, []⟩,
         ⟨(some 81), (.iaddr 1), [.t 79, .t 80], none, [9, 10]⟩,
         ⟨(some 82), (.load false 1), [.t 81], none, [11]⟩,
         ⟨(some 83), .call, [.f 23, .t 70, .t 77, .t 78, .t 82], none, [0, 7, 8, 12]⟩,
         ⟨(some 84), (.field 1 false 1), [.t 83], none, [13]⟩,
         ⟨(some 13), .mov, [.t 84], none, [14, 13, 0, 1, 2, 3, 4, 5, 6, 7, 8, 9, 10, 11, 12, 13, 14]⟩] true)
       (.seq
        (.seq
         (.region [⟨(some 85), .mov, [.t 9], none, []⟩,
           ⟨(some 86), (.bin .eql), [.t 85, .c (.int .i64 0)], none, [0]⟩] false)
         (.cond (.t 86)
          (.region [⟨(some 87), .mov, [.t 10], none, []⟩,
            ⟨(some 88), .mov, [.t 11], none, []⟩,
            ⟨(some 89), (.build [(.imm (.int .i64 0)), (.imm (.int .i64 0))] [(0, 1), (1, 1)]), [.t 87, .t 88], none, [0, 1]⟩,
            ⟨(some 90), .mov, [.t 12], none, []⟩,
            ⟨(some 91), .mov, [.t 13], none, []⟩,
            ⟨(some 92), (.build [(.imm (.int .i64 0)), (.imm (.int .i64 0))] [(0, 1), (1, 1)]), [.t 90, .t 91], none, [3, 4]⟩,
            ⟨(some 93), (.build [(.imm (.int .i64 0)), (.imm (.int .i64 0)), (.imm (.int .i64 0)), (.imm (.int .i64 0))] [(0, 2), (2, 2)]), [.t 89, .t 92], none, [2, 5]⟩,
            ⟨none, (.store 4), [.t 7, .t 93], none, [6, 0, 1, 2, 3, 4, 5, 6]⟩] false)
          .skip))
        (.keep [2, 3, 4, 6, 7, 8, 9, 10, 11, 12, 13] [3, 4, 6, 7] b56k0)))))))
  (.keep [2, 3, 4, 6, 7, 8, 9] [3, 4, 6, 7] b56k1))
def b56l0 : DCode := .keep [2, 3, 4, 6, 7, 8, 9] [3, 4, 6, 7]
  (.seq
   (.seq
    (.region [⟨(some 21), .mov, [.t 9], none, []⟩,
      ⟨(some 22), (.bin .lss), [.t 21, .c (.int .i64 2)], none, [0]⟩] false)
    (.cond (.t 22)
     .skip
     (.exit 0)))
   (.keep [2, 3, 4, 6, 7, 8, 9] [3, 4, 6, 7] b56k2))
def b56k3 : DCode :=
 (.seq
  (.region [⟨(some 118), (.load true 4), [.t 7], none, []⟩,
    ⟨none, (.store 4), [.t 6, .t 118], none, [0, 0]⟩] false)
  .ret)
def b56 : DCode :=
 (.seq
  (.region [⟨(some 3), .box, [.t 0], none, []⟩,
    ⟨(some 4), .box, [.t 1], none, []⟩,
    ⟨(some 6), (.alloc [(.imm (.int .i64 0)), (.imm (.int .i64 0)), (.imm (.int .i64 0)), (.imm (.int .i64 0))]), [], none, []⟩] false)
  (.seq
   (.region [⟨(some 7), (.alloc [(.imm (.int .i64 0)), (.imm (.int .i64 0)), (.imm (.int .i64 0)), (.imm (.int .i64 0))]), [], none, []⟩] false)
   (.seq
    (.region [⟨(some 14), (.faddr 2 true 2), [.t 3], none, []⟩,
      ⟨(some 15), (.faddr 0 false 1), [.t 14], none, [0]⟩,
      ⟨(some 16), (.load false 1), [.t 15], none, [1]⟩,
      ⟨(some 17), (.faddr 2 true 2), [.t 3], none, []⟩,
      ⟨(some 18), (.faddr 1 false 1), [.t 17], none, [3]⟩,
      ⟨(some 19), (.load false 1), [.t 18], none, [4]⟩,
      ⟨(some 20), (.bsl 1), [.t 16, .t 19], none, [2, 5]⟩,
      ⟨(some 8), .movv, [.t 20], none, [6, 0, 1, 2, 3, 4, 5, 6]⟩] false)
    (.seq
     (.seq
      (.region [⟨(some 9), .mov, [.c (.int .i64 0)], none, []⟩] false)
      (.block 0
       (.loop b56l0)))
     (.keep [6, 7] [6, 7] b56k3)))))
def d56 : DFn := ⟨3, 119, [.cell 6 true 4], b56⟩
theorem body56 : d56.body = b56 := rfl
theorem res56 : d56.res = [.cell 6 true 4] := rfl
theorem k56 : chkFn Try.prog Try.f56 d56 = true := by kernel_rfl

/-- guidevane/guidevaneref04.SameBoxes -/
def b57k0 : DCode :=
 (.region [⟨(some 15), .mov, [.t 5], none, []⟩,
   ⟨(some 16), (.bin .add), [.t 15, .c (.int .i64 1)], none, [0]⟩,
   ⟨(some 5), .mov, [.t 16], none, [1, 0, 1]⟩] false)
def b57k1 : DCode :=
 (.seq
  (.block 1
   (.seq
    (.region [⟨(some 17), .movv, [.t 0], none, []⟩,
      ⟨(some 18), .mov, [.t 5], none, []⟩,
      ⟨(some 19), (.iaddr 4), [.t 17, .t 18], none, [0, 1]⟩,
      ⟨(some 20), (.load true 4), [.t 19], none, [2]⟩,
      ⟨(some 21), .movv, [.t 1], none, []⟩,
      ⟨(some 22), .mov, [.t 5], none, []⟩,
      ⟨(some 23), (.iaddr 4), [.t 21, .t 22], none, [4, 5]⟩,
      ⟨(some 24), (.load true 4), [.t 23], none, [6]⟩,
      ⟨(some 25), (.eqs [false, false, false, false] true), [.t 20, .t 24], none, [3, 7]⟩] true)
    (.cond (.t 25)
     (.seq
      (.region [⟨(some 4), .mov, [.c (.bool false)], none, []⟩] false)
      .ret)
     .skip)))
  (.keep [0, 1, 5] [] b57k0))
def b57l0 : DCode := .keep [0, 1, 5] []
  (.seq
   (.seq
    (.region [⟨(some 11), .mov, [.t 5], none, []⟩,
      ⟨(some 12), .movv, [.t 0], none, []⟩,
      ⟨(some 13), .len, [.t 12], none, [1]⟩,
      ⟨(some 14), (.bin .lss), [.t 11, .t 13], none, [0, 2]⟩] false)
    (.cond (.t 14)
     .skip
     (.exit 0)))
   (.keep [0, 1, 5] [] b57k1))
def b57k2 : DCode :=
 (.seq
  (.region [⟨(some 4), .mov, [.c (.bool true)], none, []⟩] false)
  .ret)
def b57k3 : DCode :=
 (.seq
  (.seq
   (.region [⟨(some 5), .mov, [.c (.int .i64 0)], none, []⟩] false)
   (.block 0
    (.loop b57l0)))
  (.keep [] [] b57k2))
def b57 : DCode :=
 (.seq
  (.region [⟨(some 4), .mov, [.c (.bool false)], none, []⟩] false)
  (.seq
   (.seq
    (.region [⟨(some 6), .movv, [.t 0], none, []⟩,
      ⟨(some 7), .len, [.t 6], none, [0]⟩,
      ⟨(some 8), .movv, [.t 1], none, []⟩,
      ⟨(some 9), .len, [.t 8], none, [2]⟩,
      ⟨(some 10), (.bin .neq), [.t 7, .t 9], none, [1, 3]⟩] false)
    (.cond (.t 10)
     (.seq
      (.region [⟨(some 4), .mov, [.c (.bool false)], none, []⟩] false)
      .ret)
     .skip))
   (.keep [0, 1] [] b57k3)))
def d57 : DFn := ⟨2, 26, [.tmp 4], b57⟩
theorem body57 : d57.body = b57 := rfl
theorem res57 : d57.res = [.tmp 4] := rfl
theorem k57 : chkFn Try.prog Try.f57 d57 = true := by kernel_rfl

/-- guidevane/guidevaneref04.BoxRun -/
def b58k0 : DCode :=
 (.seq
  (.block 1
   (.seq
    (.region [⟨(some 15), (.load true 5), [.t 3], none, []⟩,
      ⟨(some 16), (.load true 4), [.t 4], none, []⟩,
      ⟨(some 17), .movv, [.t 2], none, []⟩,
      ⟨(some 18), .mov, [.t 8], none, []⟩,
      ⟨(some 19), (.iaddr 1), [.t 17, .t 18], none, [2, 3]⟩,
      ⟨(some 20), (.load false 1), [.t 19], none, [4]⟩,
      ⟨(some 21), .call, [.f 56, .t 15, .t 16, .t 20], none, [0, 1, 5]⟩,
      ⟨none, (.store 4), [.t 4, .t 21], none, [6, 6, 0, 1, 2, 3, 4, 5, 6]⟩] true)
    (.region [⟨(some 22), .mov, [.t 7], none, []⟩,
      ⟨(some 23), (.load true 4), [.t 4], none, []⟩,
      ⟨(some 24), (.bsl 4), [.t 23], none, [1]⟩,
      ⟨(some 25), (.append 4 32 false), [.t 22, .t 24], none, [0, 2]⟩,
      ⟨(some 7), .mov, [.t 25], none, [3, 3, 0, 1, 2, 3]⟩] false)))
  (.region [⟨(some 13), .mov, [.t 8], none, []⟩,
    ⟨(some 14), (.bin .add), [.t 13, .c (.int .i64 1)], none, [0]⟩,
    ⟨(some 8), .mov, [.t 14], none, [1, 0, 1]⟩] false))
def b58l0 : DCode := .keep [2, 3, 4, 7, 8] [3, 4, 7, 25]
  (.seq
   (.seq
    (.region [⟨(some 9), .mov, [.t 8], none, []⟩,
      ⟨(some 10), .movv, [.t 2], none, []⟩,
      ⟨(some 11), .len, [.t 10], none, [1]⟩,
      ⟨(some 12), (.bin .lss), [.t 9, .t 11], none, [0, 2]⟩] false)
    (.cond (.t 12)
     .skip
     (.exit 0)))
   (.keep [2, 3, 4, 7, 8] [3, 4, 7, 25] b58k0))
def b58k1 : DCode :=
 (.seq
  (.region [⟨(some 26), .movv, [.t 7], none, []⟩,
    ⟨(some 6), .movv, [.t 26], none, [0, 0]⟩] false)
  .ret)
def b58 : DCode :=
 (.seq
  (.region [⟨(some 3), .box, [.t 0], none, []⟩,
    ⟨(some 4), .box, [.t 1], none, []⟩,
    ⟨(some 6), .mov, [.c (.slc 4 [])], none, []⟩] false)
  (.seq
   (.region [⟨(some 7), (.ntok 4), [.c (.slc 4 [])], none, []⟩] false)
   (.seq
    (.seq
     (.region [⟨(some 8), .mov, [.c (.int .i64 0)], none, []⟩] false)
     (.block 0
      (.loop b58l0)))
    (.keep [7] [7, 25] b58k1))))
def d58 : DFn := ⟨3, 27, [.tmp 6], b58⟩
theorem body58 : d58.body = b58 := rfl
theorem res58 : d58.res = [.tmp 6] := rfl
theorem k58 : chkFn Try.prog Try.f58 d58 = true := by kernel_rfl

/-- guidevane/guidevanelaw04.short -/
def b49 : DCode :=
 (.seq
  (.region [⟨(some 2), .mov, [.c (.bool false)], none, []⟩] false)
  (.seq
   (.region [⟨(some 3), .movv, [.t 0], none, []⟩,
     ⟨(some 4), .len, [.t 3], none, [0]⟩,
     ⟨(some 5), (.bin .leq), [.t 4, .c (.int .i64 40)], none, [1]⟩,
     ⟨(some 6), .mov, [.t 5], none, [2]⟩,
     ⟨(some 7), .movv, [.t 0], (some (6, false)), [3]⟩,
     ⟨(some 8), .len, [.t 7], (some (6, false)), [4, 3]⟩,
     ⟨(some 9), (.bin .gtr), [.t 8, .c (.int .i64 200)], (some (6, false)), [5, 3]⟩,
     ⟨(some 10), .mov, [.t 9], (some (6, false)), [6, 3, 3]⟩,
     ⟨(some 11), .movv, [.t 0], (some (10, true)), [7]⟩,
     ⟨(some 12), .len, [.t 11], (some (10, true)), [8, 7]⟩,
     ⟨(some 13), (.bin .leq), [.t 12, .c (.int .i64 202)], (some (10, true)), [9, 7]⟩,
     ⟨(some 14), .pick, [.t 10, .t 13, .c (.bool false)], (some (6, false)), [7, 10, 3]⟩,
     ⟨(some 15), .pick, [.t 6, .c (.bool true), .t 14], none, [3, 11]⟩,
     ⟨(some 2), .mov, [.t 15], none, [12, 7, 0, 1, 2, 3, 4, 5, 6, 7, 8, 9, 10, 11, 12]⟩] false)
   .ret))
def d49 : DFn := ⟨1, 16, [.tmp 2], b49⟩
theorem body49 : d49.body = b49 := rfl
theorem res49 : d49.res = [.tmp 2] := rfl
theorem k49 : chkFn Try.prog Try.f49 d49 = true := by kernel_rfl

/-- guidevane/guidevanelaw04.SurgeRuns -/
def b8k0 : DCode :=
 (.seq
  (.region [⟨(some 188), .mov, [.t 11], none, []⟩,
    ⟨(some 189), (.bin .eql), [.t 188, .c (.int .i64 0)], none, [0]⟩,
    ⟨(some 190), .mov, [.t 189], none, [1]⟩,
    ⟨(some 191), .movv, [.t 10], (some (190, true)), [2]⟩,
    ⟨(some 192), (.load true 5), [.t 3], (some (190, true)), [2]⟩,
    ⟨(some 193), (.load true 4), [.t 4], (some (190, true)), [2]⟩,
    ⟨(some 194), (.faddr 0 false 1), [.t 5], (some (190, true)), [2]⟩,
    ⟨(some 195), (.load false 1), [.t 194], (some (190, true)), [6, 2]⟩,
    ⟨(some 196), .call, [.f 58, .t 192, .t 193, .t 195], (some (190, true)), [4, 5, 7, 2, 2]⟩,
    ⟨(some 197), .call, [.f 57, .t 191, .t 196], (some (190, true)), [3, 8, 8, 2]⟩,
    ⟨(some 198), .pick, [.t 190, .t 197, .c (.bool false)], none, [2, 9]⟩,
    ⟨(some 6), .mov, [.t 198], none, [10, 9, 0, 1, 2, 3, 4, 5, 6, 7, 8, 9, 10]⟩] false)
  .ret)
def b8k1 : DCode :=
 (.seq
  (.seq
   (.region [⟨(some 175), (.faddr 0 false 1), [.t 5], none, []⟩,
     ⟨(some 176), (.load false 1), [.t 175], none, [0]⟩,
     ⟨(some 177), .call, [.f 52, .t 176], none, [1]⟩,
     ⟨(some 15), .mov, [.t 177], none, [2, 2, 0, 1, 2]⟩] false)
   (.seq
    (.region [⟨(some 178), .mov, [.t 15], none, []⟩,
      ⟨(some 179), (.bin .neq), [.t 178, .c (.int .i64 0)], none, [0]⟩] false)
    (.cond (.t 179)
     (.seq
      (.region [⟨(some 180), .mov, [.t 11], none, []⟩,
        ⟨(some 181), .mov, [.t 15], none, []⟩,
        ⟨(some 182), (.bin .eql), [.t 180, .t 181], none, [0, 1]⟩,
        ⟨(some 183), .mov, [.t 182], none, [2]⟩,
        ⟨(some 184), .movv, [.t 10], (some (183, true)), [3]⟩,
        ⟨(some 185), .len, [.t 184], (some (183, true)), [4, 3]⟩,
        ⟨(some 186), (.bin .eql), [.t 185, .c (.int .i64 0)], (some (183, true)), [5, 3]⟩,
        ⟨(some 187), .pick, [.t 183, .t 186, .c (.bool false)], none, [3, 6]⟩,
        ⟨(some 6), .mov, [.t 187], none, [7, 3, 0, 1, 2, 3, 4, 5, 6, 7]⟩] false)
      .ret)
     .skip)))
  (.keep [3, 4, 5, 10, 11] [3, 4, 5] b8k0))
def b8k2 : DCode :=
 (.seq
  (.seq
   (.region [⟨(some 145), .mov, [.t 12], none, []⟩,
     ⟨(some 146), .call, [.f 21, .t 145], none, [0]⟩,
     ⟨(some 15), .mov, [.t 146], none, [1, 1, 0, 1]⟩] false)
   (.seq
    (.region [⟨(some 147), .mov, [.t 15], none, []⟩,
      ⟨(some 148), (.bin .neq), [.t 147, .c (.int .i64 0)], none, [0]⟩,
      ⟨(some 149), .mov, [.t 148], none, [1]⟩,
      ⟨(some 150), .mov, [.t 14], (some (149, true)), [2]⟩,
      ⟨(some 151), .mov, [.t 15], (some (149, true)), [2]⟩,
      ⟨(some 152), (.bin .neq), [.t 150, .t 151], (some (149, true)), [3, 4, 2]⟩,
      ⟨(some 153), .mov, [.t 152], (some (149, true)), [5, 2, 2]⟩,
      ⟨(some 154), (.load true 4), [.t 13], (some (153, false)), [6]⟩,
      ⟨(some 155), (.build [(.imm (.int .i64 0)), (.imm (.int .i64 0)), (.imm (.int .i64 0)), (.imm (.int .i64 0))] []), [], (some (153, false)), [6]⟩,
      ⟨(some 156), (.eqs [false, false, false, false] true), [.t 154, .t 155], (some (153, false)), [7, 8, 6]⟩,
      ⟨(some 157), .pick, [.t 153, .c (.bool true), .t 156], (some (149, true)), [6, 9, 2]⟩,
      ⟨(some 158), .pick, [.t 149, .t 157, .c (.bool false)], none, [2, 10]⟩,
      ⟨(some 159), .mov, [.t 158], none, [11, 6]⟩,
      ⟨(some 160), .mov, [.t 15], (some (159, false)), [12]⟩,
      ⟨(some 161), (.bin .eql), [.t 160, .c (.int .i64 0)], (some (159, false)), [13, 12]⟩,
      ⟨(some 162), .mov, [.t 161], (some (159, false)), [14, 12, 12]⟩,
      ⟨(some 163), .mov, [.t 14], (some (162, true)), [15]⟩,
      ⟨(some 164), (.bin .neq), [.t 163, .c (.int .i64 0)], (some (162, true)), [16, 15]⟩,
      ⟨(some 165), .mov, [.t 164], (some (162, true)), [17, 15, 15]⟩,
      ⟨(some 166), (.load true 4), [.t 13], (some (165, false)), [18]⟩,
      ⟨(some 167), (.load true 5), [.t 3], (some (165, false)), [18]⟩,
      ⟨(some 168), (.load true 4), [.t 4], (some (165, false)), [18]⟩,
      ⟨(some 169), .mov, [.t 12], (some (165, false)), [18]⟩,
      ⟨(some 170), .call, [.f 56, .t 167, .t 168, .t 169], (some (165, false)), [20, 21, 22, 18, 18]⟩,
      ⟨(some 171), (.eqs [false, false, false, false] true), [.t 166, .t 170], (some (165, false)), [19, 23, 18]⟩,
      ⟨(some 172), .pick, [.t 165, .c (.bool true), .t 171], (some (162, true)), [18, 24, 15]⟩,
      ⟨(some 173), .pick, [.t 162, .t 172, .c (.bool false)], (some (159, false)), [15, 25, 12]⟩,
      ⟨(some 174), .pick, [.t 159, .c (.bool true), .t 173], none, [12, 26]⟩] true)
    (.cond (.t 174)
     (.seq
      (.region [⟨(some 6), .mov, [.c (.bool false)], none, []⟩] false)
      .ret)
     .skip)))
  (.keep [3, 4, 5, 10, 11] [3, 4, 5] b8k1))
def b8k3 : DCode :=
 (.seq
  (.seq
   (.region [⟨(some 125), .mov, [.t 16], none, []⟩,
     ⟨(some 126), (.bin .neq), [.t 125, .c (.int .i64 0)], none, [0]⟩] false)
   (.cond (.t 126)
    (.seq
     (.region [⟨(some 127), .mov, [.t 11], none, []⟩,
       ⟨(some 128), .mov, [.t 16], none, []⟩,
       ⟨(some 129), (.bin .eql), [.t 127, .t 128], none, [0, 1]⟩,
       ⟨(some 130), .mov, [.t 129], none, [2]⟩,
       ⟨(some 131), .mov, [.t 14], (some (130, true)), [3]⟩,
       ⟨(some 132), .mov, [.t 16], (some (130, true)), [3]⟩,
       ⟨(some 133), (.bin .eql), [.t 131, .t 132], (some (130, true)), [4, 5, 3]⟩,
       ⟨(some 134), .pick, [.t 130, .t 133, .c (.bool false)], none, [3, 6]⟩,
       ⟨(some 135), .mov, [.t 134], none, [7, 3]⟩,
       ⟨(some 136), .movv, [.t 10], (some (135, true)), [8]⟩,
       ⟨(some 137), .len, [.t 136], (some (135, true)), [9, 8]⟩,
       ⟨(some 138), (.bin .eql), [.t 137, .c (.int .i64 0)], (some (135, true)), [10, 8]⟩,
       ⟨(some 139), .pick, [.t 135, .t 138, .c (.bool false)], none, [8, 11]⟩,
       ⟨(some 140), .mov, [.t 139], none, [12, 8]⟩,
       ⟨(some 141), (.load true 4), [.t 13], (some (140, true)), [13]⟩,
       ⟨(some 142), (.build [(.imm (.int .i64 0)), (.imm (.int .i64 0)), (.imm (.int .i64 0)), (.imm (.int .i64 0))] []), [], (some (140, true)), [13]⟩,
       ⟨(some 143), (.eqs [false, false, false, false] false), [.t 141, .t 142], (some (140, true)), [14, 15, 13]⟩,
       ⟨(some 144), .pick, [.t 140, .t 143, .c (.bool false)], none, [13, 16]⟩,
       ⟨(some 6), .mov, [.t 144], none, [17, 13, 0, 1, 2, 3, 4, 5, 6, 7, 8, 9, 10, 11, 12, 13, 14, 15, 16, 17]⟩] false)
     .ret)
    .skip))
  (.keep [3, 4, 5, 10, 11, 12, 13, 14] [3, 4, 5, 13] b8k2))
def b8k4 : DCode :=
 (.seq
  (.seq
   (.region [⟨(some 120), (.load true 5), [.t 3], none, []⟩,
     ⟨(some 121), (.load true 4), [.t 4], none, []⟩,
     ⟨(some 122), .call, [.f 55, .t 120, .t 121], none, [0, 1]⟩,
     ⟨(some 123), .mov, [.t 16], none, []⟩,
     ⟨(some 124), (.bin .neq), [.t 122, .t 123], none, [2, 3]⟩] false)
   (.cond (.t 124)
    (.seq
     (.region [⟨(some 6), .mov, [.c (.bool false)], none, []⟩] false)
     .ret)
    .skip))
  (.keep [3, 4, 5, 10, 11, 12, 13, 14, 16] [3, 4, 5, 13] b8k3))
def b8k5 : DCode :=
 (.seq
  (.seq
   (.region [⟨(some 116), .mov, [.t 16], none, []⟩,
     ⟨(some 117), (.bin .eql), [.t 116, .c (.int .i64 0)], none, [0]⟩] false)
   (.cond (.t 117)
    (.region [⟨(some 118), (.load true 4), [.t 4], none, []⟩,
      ⟨(some 119), .call, [.f 24, .t 118], none, [0]⟩,
      ⟨(some 16), .mov, [.t 119], none, [1, 1, 0, 1]⟩] false)
    .skip))
  (.keep [3, 4, 5, 10, 11, 12, 13, 14, 16] [3, 4, 5, 13] b8k4))
def b8k6 : DCode :=
 (.seq
  (.seq
   (.region [⟨(some 84), .mov, [.t 15], none, []⟩,
     ⟨(some 85), (.bin .neq), [.t 84, .c (.int .i64 0)], none, [0]⟩,
     ⟨(some 86), .mov, [.t 85], none, [1]⟩,
     ⟨(some 87), .mov, [.t 9], (some (86, true)), [2]⟩,
     ⟨(some 88), .mov, [.t 15], (some (86, true)), [2]⟩,
     ⟨(some 89), (.bin .neq), [.t 87, .t 88], (some (86, true)), [3, 4, 2]⟩,
     ⟨(some 90), .mov, [.t 89], (some (86, true)), [5, 2, 2]⟩,
     ⟨(some 91), .movv, [.t 8], (some (90, false)), [6]⟩,
     ⟨(some 92), .len, [.t 91], (some (90, false)), [7, 6]⟩,
     ⟨(some 93), (.bin .neq), [.t 92, .c (.int .i64 0)], (some (90, false)), [8, 6]⟩,
     ⟨(some 94), .pick, [.t 90, .c (.bool true), .t 93], (some (86, true)), [6, 9, 2]⟩,
     ⟨(some 95), .pick, [.t 86, .t 94, .c (.bool false)], none, [2, 10]⟩,
     ⟨(some 96), .mov, [.t 95], none, [11, 6]⟩,
     ⟨(some 97), .mov, [.t 15], (some (96, false)), [12]⟩,
     ⟨(some 98), (.bin .eql), [.t 97, .c (.int .i64 0)], (some (96, false)), [13, 12]⟩,
     ⟨(some 99), .mov, [.t 98], (some (96, false)), [14, 12, 12]⟩,
     ⟨(some 100), .mov, [.t 9], (some (99, true)), [15]⟩,
     ⟨(some 101), (.bin .neq), [.t 100, .c (.int .i64 0)], (some (99, true)), [16, 15]⟩,
     ⟨(some 102), .mov, [.t 101], (some (99, true)), [17, 15, 15]⟩,
     ⟨(some 103), .movv, [.t 8], (some (102, false)), [18]⟩,
     ⟨(some 104), (.load true 5), [.t 3], (some (102, false)), [18]⟩,
     ⟨(some 105), (.load true 2), [.t 7], (some (102, false)), [18]⟩,
     ⟨(some 106), (.faddr 0 false 1), [.t 5], (some (102, false)), [18]⟩,
     ⟨(some 107), (.load false 1), [.t 106], (some (102, false)), [22, 18]⟩,
     ⟨(some 108), (.faddr 1 false 1), [.t 5], (some (102, false)), [18]⟩,
     ⟨(some 109), (.load false 1), [.t 108], (some (102, false)), [24, 18]⟩,
     ⟨(some 110), .call, [.f 54, .t 104, .t 105, .t 107, .t 109], (some (102, false)), [20, 21, 23, 25, 18, 18]⟩,
     ⟨(some 111), .call, [.f 53, .t 103, .t 110], (some (102, false)), [19, 26, 26, 18]⟩,
     ⟨(some 112), (.un .not), [.t 111], (some (102, false)), [27, 18]⟩,
     ⟨(some 113), .pick, [.t 102, .c (.bool true), .t 112], (some (99, true)), [18, 28, 15]⟩,
     ⟨(some 114), .pick, [.t 99, .t 113, .c (.bool false)], (some (96, false)), [15, 29, 12]⟩,
     ⟨(some 115), .pick, [.t 96, .c (.bool true), .t 114], none, [12, 30]⟩] false)
   (.cond (.t 115)
    (.seq
     (.region [⟨(some 6), .mov, [.c (.bool false)], none, []⟩] false)
     .ret)
    .skip))
  (.keep [3, 4, 5, 10, 11, 12, 13, 14, 16] [3, 4, 5, 13] b8k5))
def b8k7 : DCode :=
 (.seq
  (.seq
   (.region [⟨(some 78), .mov, [.t 15], none, []⟩,
     ⟨(some 79), (.bin .eql), [.t 78, .c (.int .i64 0)], none, [0]⟩] false)
   (.cond (.t 79)
    (.region [⟨(some 80), (.load true 5), [.t 3], none, []⟩,
      ⟨(some 81), (.faddr 1 false 1), [.t 5], none, []⟩,
      ⟨(some 82), (.load false 1), [.t 81], none, [1]⟩,
      ⟨(some 83), .call, [.f 22, .t 80, .t 82], none, [0, 2]⟩,
      ⟨(some 15), .mov, [.t 83], none, [3, 3, 0, 1, 2, 3]⟩] false)
    .skip))
  (.keep [3, 4, 5, 7, 8, 9, 10, 11, 12, 13, 14, 15, 16] [3, 4, 5, 7, 13] b8k6))
def b8k8 : DCode :=
 (.seq
  (.seq
   (.region [⟨(some 73), .mov, [.t 15], none, []⟩,
     ⟨(some 74), (.bin .eql), [.t 73, .c (.int .i64 0)], none, [0]⟩] false)
   (.cond (.t 74)
    (.region [⟨(some 75), (.faddr 0 false 1), [.t 5], none, []⟩,
      ⟨(some 76), (.load false 1), [.t 75], none, [0]⟩,
      ⟨(some 77), .call, [.f 52, .t 76], none, [1]⟩,
      ⟨(some 15), .mov, [.t 77], none, [2, 2, 0, 1, 2]⟩] false)
    .skip))
  (.keep [3, 4, 5, 7, 8, 9, 10, 11, 12, 13, 14, 15, 16] [3, 4, 5, 7, 13] b8k7))
def b8k9 : DCode :=
 (.seq
  (.region [⟨(some 60), (.load true 5), [.t 3], none, []⟩,
    ⟨(some 61), (.load true 4), [.t 4], none, []⟩,
    ⟨(some 62), .mov, [.t 12], none, []⟩,
    ⟨(some 63), .call, [.f 25, .t 60, .t 61, .t 62], none, [0, 1, 2]⟩,
    ⟨(some 59), .mov, [.t 63], none, [3]⟩,
    ⟨(some 64), (.ext 0), [.t 59], none, [4]⟩,
    ⟨(some 65), (.ext 1), [.t 59], none, [4]⟩,
    ⟨(some 13), (.alloc [(.imm (.int .i64 0)), (.imm (.int .i64 0)), (.imm (.int .i64 0)), (.imm (.int .i64 0))]), [], none, []⟩,
    ⟨none, (.store 4), [.t 13, .t 64], none, [7, 5, 3, 0, 1, 2, 3, 4, 5, 7]⟩,
    ⟨(some 14), .mov, [.t 65], none, [6, 8, 0, 1, 2, 3, 4, 5, 6, 7, 8]⟩] false)
  (.seq
   (.region [⟨(some 66), (.load true 5), [.t 3], none, []⟩,
     ⟨(some 67), .call, [.f 17, .t 66], none, [0]⟩,
     ⟨(some 15), .mov, [.t 67], none, [1, 1, 0, 1]⟩] false)
   (.seq
    (.region [⟨(some 68), .mov, [.t 15], none, []⟩,
      ⟨(some 16), .mov, [.t 68], none, [0, 0]⟩] false)
    (.seq
     (.seq
      (.region [⟨(some 69), .mov, [.t 15], none, []⟩,
        ⟨(some 70), (.bin .eql), [.t 69, .c (.int .i64 0)], none, [0]⟩] false)
      (.cond (.t 70)
       (.region [⟨(some 71), (.load true 2), [.t 7], none, []⟩,
         ⟨(some 72), .call, [.f 19, .t 71], none, [0]⟩,
         ⟨(some 15), .mov, [.t 72], none, [1, 1, 0, 1]⟩] false)
       .skip))
     (.keep [3, 4, 5, 7, 8, 9, 10, 11, 12, 13, 14, 15, 16] [3, 4, 5, 7, 13] b8k8)))))
def b8k10 : DCode :=
 (.seq
  (.region [⟨(some 23), (.faddr 0 true 2), [.t 4], none, []⟩,
    ⟨(some 24), (.faddr 0 false 1), [.t 23], none, [0]⟩,
    ⟨(some 25), (.load false 1), [.t 24], none, [1]⟩,
    ⟨(some 26), (.faddr 2 true 2), [.t 4], none, []⟩,
    ⟨(some 27), (.faddr 1 false 1), [.t 26], none, [3]⟩,
    ⟨(some 28), (.load false 1), [.t 27], none, [4]⟩,
    ⟨(some 29), (.build [(.imm (.int .i64 0)), (.imm (.int .i64 0))] [(0, 1), (1, 1)]), [.t 25, .t 28], none, [2, 5]⟩,
    ⟨(some 7), (.alloc [(.imm (.int .i64 0)), (.imm (.int .i64 0))]), [], none, []⟩,
    ⟨none, (.store 2), [.t 7, .t 29], none, [7, 6, 0, 1, 2, 3, 4, 5, 6, 7]⟩] false)
  (.seq
   (.region [⟨(some 31), (.load true 5), [.t 3], none, []⟩,
     ⟨(some 32), (.load true 2), [.t 7], none, []⟩,
     ⟨(some 33), (.faddr 0 false 1), [.t 5], none, []⟩,
     ⟨(some 34), (.load false 1), [.t 33], none, [2]⟩,
     ⟨(some 35), .call, [.f 43, .t 34], none, [3]⟩,
     ⟨(some 36), (.faddr 1 false 1), [.t 5], none, []⟩,
     ⟨(some 37), (.load false 1), [.t 36], none, [5]⟩,
     ⟨(some 38), (.build [(.imm (.slc 1 [])), (.imm (.int .i64 0))] [(0, 1), (1, 1)]), [.t 35, .t 37], none, [4, 6]⟩,
     ⟨(some 39), .call, [.f 50, .t 31, .t 32, .t 38], none, [0, 1, 7, 4]⟩,
     ⟨(some 30), .mov, [.t 39], none, [8]⟩,
     ⟨(some 40), (.ext 0), [.t 30], none, [9]⟩,
     ⟨(some 41), (.ext 1), [.t 30], none, [9]⟩,
     ⟨(some 8), .movv, [.t 40], none, [10, 8, 0, 1, 2, 3, 4, 5, 6, 7, 8, 9, 10]⟩,
     ⟨(some 9), .mov, [.t 41], none, [11, 12, 0, 1, 2, 3, 4, 5, 6, 7, 8, 9, 10, 11, 12]⟩] true)
   (.seq
    (.region [⟨(some 43), (.load true 5), [.t 3], none, []⟩,
      ⟨(some 44), (.load true 4), [.t 4], none, []⟩,
      ⟨(some 45), (.faddr 0 false 1), [.t 5], none, []⟩,
      ⟨(some 46), (.load false 1), [.t 45], none, [2]⟩,
      ⟨(some 47), .call, [.f 43, .t 46], none, [3]⟩,
      ⟨(some 48), .call, [.f 51, .t 43, .t 44, .t 47], none, [0, 1, 4, 4]⟩,
      ⟨(some 42), .mov, [.t 48], none, [5]⟩,
      ⟨(some 49), (.ext 0), [.t 42], none, [6]⟩,
      ⟨(some 50), (.ext 1), [.t 42], none, [6]⟩,
      ⟨(some 10), .movv, [.t 49], none, [7, 5, 0, 1, 2, 3, 4, 5, 6, 7]⟩,
      ⟨(some 11), .mov, [.t 50], none, [8, 9, 0, 1, 2, 3, 4, 5, 6, 7, 8, 9]⟩] true)
    (.seq
     (.region [⟨(some 12), .mov, [.c (.int .i64 0)], none, []⟩] false)
     (.seq
      (.seq
       (.region [⟨(some 51), (.faddr 0 false 1), [.t 5], none, []⟩,
         ⟨(some 52), (.load false 1), [.t 51], none, [0]⟩,
         ⟨(some 53), .len, [.t 52], none, [1]⟩,
         ⟨(some 54), (.bin .gtr), [.t 53, .c (.int .i64 0)], none, [2]⟩] false)
       (.cond (.t 54)
        (.region [⟨(some 55), (.faddr 0 false 1), [.t 5], none, []⟩,
          ⟨(some 56), (.load false 1), [.t 55], none, [0]⟩,
          ⟨(some 57), (.iaddr 1), [.t 56, .c (.int .i64 0)], none, [1]⟩,
          ⟨(some 58), (.load false 1), [.t 57], none, [2]⟩,
          ⟨(some 12), .mov, [.t 58], none, [3, 0, 1, 2, 3]⟩] false)
        .skip))
      (.keep [3, 4, 5, 7, 8, 9, 10, 11, 12] [3, 4, 5, 7] b8k9))))))
def b8k11 : DCode :=
 (.seq
  (.seq
   (.region [⟨(some 19), (.faddr 0 false 1), [.t 5], none, []⟩,
     ⟨(some 20), (.load false 1), [.t 19], none, [0]⟩,
     ⟨(some 21), .call, [.f 49, .t 20], none, [1]⟩,
     ⟨(some 22), (.un .not), [.t 21], none, [2]⟩] false)
   (.cond (.t 22)
    (.seq
     (.region [⟨(some 6), .mov, [.c (.bool true)], none, []⟩] false)
     .ret)
    .skip))
  (.keep [3, 4, 5] [3, 4, 5] b8k10))
def b8 : DCode :=
 (.seq
  (.region [⟨(some 3), .box, [.t 0], none, []⟩,
    ⟨(some 4), .box, [.t 1], none, []⟩,
    ⟨(some 5), .box, [.t 2], none, []⟩,
    ⟨(some 6), .mov, [.c (.bool false)], none, []⟩] false)
  (.seq
   (.seq
    (.region [⟨(some 17), .call, [.f 15], none, []⟩,
      ⟨(some 18), (.un .not), [.t 17], none, [0]⟩] false)
    (.cond (.t 18)
     (.seq
      (.region [⟨(some 6), .mov, [.c (.bool false)], none, []⟩] false)
      .ret)
     .skip))
   (.keep [3, 4, 5] [3, 4, 5] b8k11)))
def d8 : DFn := ⟨3, 199, [.tmp 6], b8⟩
theorem body8 : d8.body = b8 := rfl
theorem res8 : d8.res = [.tmp 6] := rfl
theorem k8 : chkFn Try.prog Try.f8 d8 = true := by kernel_rfl

end Go.DI

/- Contracts: the reference's runs. No condition. -/
set_option linter.unusedSimpArgs false
namespace Go.DI
open Go.Proofs Go.RowKit Sg

theorem c_CopyInts {a : List Int} (ha : a.length ≤ 1000000000000) : Contract Try.prog 43 [.slc 1 (a.map (.int .i64))] (.slc 1 (a.map (.int .i64))) := by
  refine contract_run Try.func43 k43 rfl ?_
  simp only [body43, b43, res43, ↓reduceIte, reduceCtorEq, Nat.reduceEqDiff, Nat.reduceAdd, Nat.reduceMul, Nat.reduceSub, Nat.reduceLeDiff, Nat.reduceBEq, Int.reduceToNat, Int.reduceLE, Int.reduceLT, Int.reduceEq, Int.reduceNe, di0, di1, di2, di3, di4, di5, di6, di7, di8, di9, postX_ret, postX_normal, ex_some]
  omega

theorem r_LoadsErr {l : List Int} (hn : l.length ≤ 1000000000) : Contract Try.prog 52 [snI l] (.int .i64 (loadsErr l)) := by
  refine contract_run Try.func52 k52 rfl ?_
  simp only [body52, b52, res52, b52k0, b52k1, b52k2, b52k3, ruI, ssI, sbI, spI, swI, scI, stI, srI, saI, snI, ↓reduceIte, reduceCtorEq, Nat.reduceEqDiff, Nat.reduceAdd, Nat.reduceMul, Nat.reduceSub, Nat.reduceLeDiff, Nat.reduceBEq, Int.reduceToNat, Int.reduceLE, Int.reduceLT, Int.reduceEq, Int.reduceNe, di0, di1, di2, di3, di4, di5, di6, di7, di8, di9, postX_ret, postX_normal, ex_some]
  unfold loadsErr
  by_cases h0 : 200 < l.length
  · rw [if_pos h0]
    simp only [show 200 < (l.length : Int) by omega, ruI, ssI, sbI, spI, swI, scI, stI, srI, saI, snI, ↓reduceIte, reduceCtorEq, Nat.reduceEqDiff, Nat.reduceAdd, Nat.reduceMul, Nat.reduceSub, Nat.reduceLeDiff, Nat.reduceBEq, Int.reduceToNat, Int.reduceLE, Int.reduceLT, Int.reduceEq, Int.reduceNe, di0, di1, di2, di3, di4, di5, di6, di7, di8, di9, postX_ret, postX_normal, ex_some]
  rw [if_neg h0]
  simp only [show ¬ 200 < (l.length : Int) by omega, ruI, ssI, sbI, spI, swI, scI, stI, srI, saI, snI, ↓reduceIte, reduceCtorEq, Nat.reduceEqDiff, Nat.reduceAdd, Nat.reduceMul, Nat.reduceSub, Nat.reduceLeDiff, Nat.reduceBEq, Int.reduceToNat, Int.reduceLE, Int.reduceLT, Int.reduceEq, Int.reduceNe, di0, di1, di2, di3, di4, di5, di6, di7, di8, di9, postX_ret, postX_normal, ex_some]
  refine loop_keep (α := Nat) rfl (fun i => l.length - i) (fun i => i ≤ l.length ∧ ∀ x ∈ l.take i, Wi x 0 1000)
    (fun i => [(0, .imm (snI l)), (3, .imm (.int .i64 i))]) (fun _ => []) 0 ⟨Nat.zero_le _, by simp⟩ (by simp only [ruI, ssI, sbI, spI, swI, scI, stI, srI, saI, snI, ↓reduceIte, reduceCtorEq, Nat.reduceEqDiff, Nat.reduceAdd, Nat.reduceMul, Nat.reduceSub, Nat.reduceLeDiff, Nat.reduceBEq, Int.reduceToNat, Int.reduceLE, Int.reduceLT, Int.reduceEq, Int.reduceNe, di0, di1, di2, di3, di4, di5, di6, di7, di8, di9, postX_ret, postX_normal, ex_some] <;> rfl) ?_
  intro i ⟨hi, hs⟩ ih
  simp only [res52, b52k0, b52k1, b52k2, b52k3, ruI, ssI, sbI, spI, swI, scI, stI, srI, saI, snI, ↓reduceIte, reduceCtorEq, Nat.reduceEqDiff, Nat.reduceAdd, Nat.reduceMul, Nat.reduceSub, Nat.reduceLeDiff, Nat.reduceBEq, Int.reduceToNat, Int.reduceLE, Int.reduceLT, Int.reduceEq, Int.reduceNe, di0, di1, di2, di3, di4, di5, di6, di7, di8, di9, postX_ret, postX_normal, ex_some]
  split
  case isFalse h =>
    have : i = l.length := by omega
    subst this
    rw [List.take_length] at hs
    rw [if_pos hs]
  rename_i h
  have hlt : i < l.length := by omega
  have hm := getD_mem hlt
  repeat (refine And.intro (by omega) ?_)
  refine calls_of r_LoadErr ?_; simp only [ruI, ssI, sbI, spI, swI, scI, stI, srI, saI, snI, res52, b52k0, b52k1, b52k2, b52k3, ↓reduceIte, reduceCtorEq, Nat.reduceEqDiff, Nat.reduceAdd, Nat.reduceMul, Nat.reduceSub, Nat.reduceLeDiff, Nat.reduceBEq, Int.reduceToNat, Int.reduceLE, Int.reduceLT, Int.reduceEq, Int.reduceNe, di0, di1, di2, di3, di4, di5, di6, di7, di8, di9, postX_ret, postX_normal, ex_some]
  unfold loadErr
  by_cases hw : Wi (l.getD i 0) 0 1000
  · rw [if_pos hw]
    simp only [ruI, ssI, sbI, spI, swI, scI, stI, srI, saI, snI, ↓reduceIte, reduceCtorEq, Nat.reduceEqDiff, Nat.reduceAdd, Nat.reduceMul, Nat.reduceSub, Nat.reduceLeDiff, Nat.reduceBEq, Int.reduceToNat, Int.reduceLE, Int.reduceLT, Int.reduceEq, Int.reduceNe, di0, di1, di2, di3, di4, di5, di6, di7, di8, di9, postX_ret, postX_normal, ex_some]
    rw [wrap64 (by omega) (by omega)]
    refine ih (i + 1) _ _ (by omega) ⟨by omega, ?_⟩ (by simp only [ruI, ssI, sbI, spI, swI, scI, stI, srI, saI, snI, ↓reduceIte, reduceCtorEq, Nat.reduceEqDiff, Nat.reduceAdd, Nat.reduceMul, Nat.reduceSub, Nat.reduceLeDiff, Nat.reduceBEq, Int.reduceToNat, Int.reduceLE, Int.reduceLT, Int.reduceEq, Int.reduceNe, di0, di1, di2, di3, di4, di5, di6, di7, di8, di9, postX_ret, postX_normal, ex_some] <;> rfl)
    intro x hx
    rw [List.take_add_one, List.getElem?_eq_getElem hlt] at hx
    rcases List.mem_append.1 hx with hx | hx
    · exact hs x hx
    · simp only [Option.toList_some, List.mem_singleton] at hx
      rw [hx, show l[i] = l.getD i 0 by rw [List.getD_eq_getElem?_getD]; simp [hlt]]
      exact hw
  · rw [if_neg hw]
    simp only [ruI, ssI, sbI, spI, swI, scI, stI, srI, saI, snI, ↓reduceIte, reduceCtorEq, Nat.reduceEqDiff, Nat.reduceAdd, Nat.reduceMul, Nat.reduceSub, Nat.reduceLeDiff, Nat.reduceBEq, Int.reduceToNat, Int.reduceLE, Int.reduceLT, Int.reduceEq, Int.reduceNe, di0, di1, di2, di3, di4, di5, di6, di7, di8, di9, postX_ret, postX_normal, ex_some]
    rw [if_neg (fun k => hw (k _ hm))]

theorem r_SameStates {a b : List Sta} (ha : a.length ≤ 1000000000000) : Contract Try.prog 53 [.slc 2 (a.map ssI), .slc 2 (b.map ssI)] (.bool (decide (a = b))) := by
  refine contract_run Try.func53 k53 rfl ?_
  simp only [body53, b53, res53, b53k0, b53k1, b53k2, b53k3, ↓reduceIte, reduceCtorEq, Nat.reduceEqDiff, Nat.reduceAdd, Nat.reduceMul, Nat.reduceSub, Nat.reduceLeDiff, Nat.reduceBEq, Int.reduceToNat, Int.reduceLE, Int.reduceLT, Int.reduceEq, Int.reduceNe, di0, di1, di2, di3, di4, di5, di6, di7, di8, di9, postX_ret, postX_normal, ex_some]
  split
  · rename_i hl
    have hl : a.length = b.length := by omega
    refine loop_keep (α := Nat) rfl (fun i => a.length - i) (fun i => i ≤ a.length ∧ ∀ j, j < i → a.getD j default = b.getD j default)
      (fun i => [(0, .imm (.slc 2 (a.map ssI))), (1, .imm (.slc 2 (b.map ssI))), (5, .imm (.int .i64 i))]) (fun _ => []) 0 ⟨Nat.zero_le _, fun j hj => by omega⟩ (by simp only [ruI, ssI, sbI, spI, swI, scI, stI, srI, saI, snI, ↓reduceIte, reduceCtorEq, Nat.reduceEqDiff, Nat.reduceAdd, Nat.reduceMul, Nat.reduceSub, Nat.reduceLeDiff, Nat.reduceBEq, Int.reduceToNat, Int.reduceLE, Int.reduceLT, Int.reduceEq, Int.reduceNe, di0, di1, di2, di3, di4, di5, di6, di7, di8, di9, postX_ret, postX_normal, ex_some] <;> rfl) ?_
    intro i ⟨hi, he⟩ ih
    simp only [res53, b53k0, b53k1, b53k2, b53k3, ruI, ssI, sbI, spI, swI, scI, stI, srI, saI, snI, ↓reduceIte, reduceCtorEq, Nat.reduceEqDiff, Nat.reduceAdd, Nat.reduceMul, Nat.reduceSub, Nat.reduceLeDiff, Nat.reduceBEq, Int.reduceToNat, Int.reduceLE, Int.reduceLT, Int.reduceEq, Int.reduceNe, di0, di1, di2, di3, di4, di5, di6, di7, di8, di9, postX_ret, postX_normal, ex_some]
    split
    · rename_i h
      repeat (refine And.intro (by omega) ?_)
      split
      · rename_i h2
        have : ¬ a = b := by
          rintro rfl
          simp at h2
        rw [decide_eq_false this]
      · rename_i h2
        have h3 : a.getD i default = b.getD i default := by
          simp only [Bool.not_eq_false, Bool.and_eq_true, decide_eq_true_eq] at h2
          generalize a.getD i default = x at h2
          generalize b.getD i default = y at h2
          cases x
          cases y
          simp_all
        rw [wrap64 (by omega) (by omega)]
        refine ih (i + 1) _ _ (by omega) ⟨by omega, fun j hj => ?_⟩ (by simp only [ruI, ssI, sbI, spI, swI, scI, stI, srI, saI, snI, ↓reduceIte, reduceCtorEq, Nat.reduceEqDiff, Nat.reduceAdd, Nat.reduceMul, Nat.reduceSub, Nat.reduceLeDiff, Nat.reduceBEq, Int.reduceToNat, Int.reduceLE, Int.reduceLT, Int.reduceEq, Int.reduceNe, di0, di1, di2, di3, di4, di5, di6, di7, di8, di9, postX_ret, postX_normal, ex_some] <;> rfl)
        by_cases e : j = i
        · subst e; exact h3
        · exact he j (by omega)
    · rename_i h
      have : a = b := eq_of_getD default hl (fun j hj => he j (by omega))
      rw [decide_eq_true this]
  · rename_i hl
    have : ¬ a = b := fun k => hl (by rw [k])
    rw [decide_eq_false this]

theorem r_Run {r : Ru} {s : Sta} {ls : List Int} {k : Int} (hr : Sg.Good r) (hs : (-1000000 ≤ s.L ∧ s.L ≤ 1000000) ∧ -1000 ≤ s.F ∧ s.F ≤ 1000) (hl : Loads ls) (hk : 0 ≤ k ∧ k ≤ 100) : Contract Try.prog 54 [ruI r, ssI s, snI ls, .int .i64 k] (.slc 2 ((runL r k s ls).map ssI)) := by
  have hl1 := hl.1
  refine contract_run Try.func54 k54 rfl ?_
  simp only [body54, b54, res54, b54k0, b54k1, ruI, ssI, sbI, spI, swI, scI, stI, srI, saI, snI, ↓reduceIte, reduceCtorEq, Nat.reduceEqDiff, Nat.reduceAdd, Nat.reduceMul, Nat.reduceSub, Nat.reduceLeDiff, Nat.reduceBEq, Int.reduceToNat, Int.reduceLE, Int.reduceLT, Int.reduceEq, Int.reduceNe, di0, di1, di2, di3, di4, di5, di6, di7, di8, di9, postX_ret, postX_normal, ex_some]
  refine loop_keep (α := Nat × Sta × List Sta) rfl (fun q => ls.length - q.1) (fun q => q.1 ≤ ls.length ∧ (-(1000000 + 2000 * (q.1 : Int)) ≤ q.2.1.L ∧ q.2.1.L ≤ 1000000 + 2000 * (q.1 : Int)) ∧ (-1000 ≤ q.2.1.F ∧ q.2.1.F ≤ 1000) ∧ q.2.2.length = q.1 ∧ q.2.2 ++ runL r k q.2.1 (ls.drop q.1) = runL r k s ls)
    (fun q => [(2, .imm (snI ls)), (3, .imm (.int .i64 k)), (4, .ref 4 0), (5, .ref 5 0), (9, .own 9), (10, .imm (.int .i64 q.1))])
    (fun q => [(4, .box [.imm (.int .i64 r.I), .imm (.int .i64 r.A), .imm (.int .i64 r.lo), .imm (.int .i64 r.hi), .imm (.int .i64 r.T)]), (5, .box [.imm (.int .i64 q.2.1.L), .imm (.int .i64 q.2.1.F)]), (9, .tok 2 (q.2.2.map ssI))])
    (0, s, []) ⟨Nat.zero_le _, by simpa using hs.1, hs.2, rfl, rfl⟩ (by simp only [ruI, ssI, sbI, spI, swI, scI, stI, srI, saI, snI, ↓reduceIte, reduceCtorEq, Nat.reduceEqDiff, Nat.reduceAdd, Nat.reduceMul, Nat.reduceSub, Nat.reduceLeDiff, Nat.reduceBEq, Int.reduceToNat, Int.reduceLE, Int.reduceLT, Int.reduceEq, Int.reduceNe, di0, di1, di2, di3, di4, di5, di6, di7, di8, di9, postX_ret, postX_normal, ex_some] <;> rfl) ?_
  rintro ⟨i, s1, out⟩ ⟨hi, hb1, hb2, hlen, he⟩ ih
  dsimp only at hi hb1 hb2 hlen he ⊢
  simp only [res54, b54k0, b54k1, ruI, ssI, sbI, spI, swI, scI, stI, srI, saI, snI, ↓reduceIte, reduceCtorEq, Nat.reduceEqDiff, Nat.reduceAdd, Nat.reduceMul, Nat.reduceSub, Nat.reduceLeDiff, Nat.reduceBEq, Int.reduceToNat, Int.reduceLE, Int.reduceLT, Int.reduceEq, Int.reduceNe, di0, di1, di2, di3, di4, di5, di6, di7, di8, di9, postX_ret, postX_normal, ex_some]
  split
  case isFalse h =>
    have : i = ls.length := by omega
    subst this
    rw [List.drop_length] at he
    simp only [runL, List.append_nil] at he
    rw [he]
  rename_i h
  have hlt : i < ls.length := by omega
  rw [getD_drop hlt] at he
  have hld := hl.2 _ (getD_mem hlt)
  generalize ls.getD i 0 = load at he hld
  have hb3 := stp_bd (k := k) (s := s1) (load := load) (m := 1000000 + 2000 * (i : Int)) hr hb1 hld
  repeat (refine And.intro (by omega) ?_)
  refine calls_of (r_Step (s := s1) (load := load) (k := k) hr ⟨by omega, hb2, hld, hk⟩) ?_; simp only [ruI, ssI, sbI, spI, swI, scI, stI, srI, saI, snI, res54, b54k0, b54k1, ↓reduceIte, reduceCtorEq, Nat.reduceEqDiff, Nat.reduceAdd, Nat.reduceMul, Nat.reduceSub, Nat.reduceLeDiff, Nat.reduceBEq, Int.reduceToNat, Int.reduceLE, Int.reduceLT, Int.reduceEq, Int.reduceNe, di0, di1, di2, di3, di4, di5, di6, di7, di8, di9, postX_ret, postX_normal, ex_some]
  repeat (refine And.intro (by omega) ?_)
  rw [wrap64 (by omega) (by omega)]
  refine ih (i + 1, stp r s1 load k, out ++ [stp r s1 load k]) _ _ (by dsimp only; omega) ⟨by dsimp only; omega, by dsimp only; omega, by dsimp only; omega, by simp [hlen], ?_⟩ (by simp only [ruI, ssI, sbI, spI, swI, scI, stI, srI, saI, snI, ↓reduceIte, reduceCtorEq, Nat.reduceEqDiff, Nat.reduceAdd, Nat.reduceMul, Nat.reduceSub, Nat.reduceLeDiff, Nat.reduceBEq, Int.reduceToNat, Int.reduceLE, Int.reduceLT, Int.reduceEq, Int.reduceNe, di0, di1, di2, di3, di4, di5, di6, di7, di8, di9, postX_ret, postX_normal, ex_some, List.map_append] <;> rfl)
  dsimp only
  rw [← he]
  simp [runL]

theorem r_SameBoxes {a b : List Bx} (ha : a.length ≤ 1000000000000) : Contract Try.prog 57 [.slc 4 (a.map sbI), .slc 4 (b.map sbI)] (.bool (decide (a = b))) := by
  refine contract_run Try.func57 k57 rfl ?_
  simp only [body57, b57, res57, b57k0, b57k1, b57k2, b57k3, ↓reduceIte, reduceCtorEq, Nat.reduceEqDiff, Nat.reduceAdd, Nat.reduceMul, Nat.reduceSub, Nat.reduceLeDiff, Nat.reduceBEq, Int.reduceToNat, Int.reduceLE, Int.reduceLT, Int.reduceEq, Int.reduceNe, di0, di1, di2, di3, di4, di5, di6, di7, di8, di9, postX_ret, postX_normal, ex_some]
  split
  · rename_i hl
    have hl : a.length = b.length := by omega
    refine loop_keep (α := Nat) rfl (fun i => a.length - i) (fun i => i ≤ a.length ∧ ∀ j, j < i → a.getD j default = b.getD j default)
      (fun i => [(0, .imm (.slc 4 (a.map sbI))), (1, .imm (.slc 4 (b.map sbI))), (5, .imm (.int .i64 i))]) (fun _ => []) 0 ⟨Nat.zero_le _, fun j hj => by omega⟩ (by simp only [ruI, ssI, sbI, spI, swI, scI, stI, srI, saI, snI, ↓reduceIte, reduceCtorEq, Nat.reduceEqDiff, Nat.reduceAdd, Nat.reduceMul, Nat.reduceSub, Nat.reduceLeDiff, Nat.reduceBEq, Int.reduceToNat, Int.reduceLE, Int.reduceLT, Int.reduceEq, Int.reduceNe, di0, di1, di2, di3, di4, di5, di6, di7, di8, di9, postX_ret, postX_normal, ex_some] <;> rfl) ?_
    intro i ⟨hi, he⟩ ih
    simp only [res57, b57k0, b57k1, b57k2, b57k3, ruI, ssI, sbI, spI, swI, scI, stI, srI, saI, snI, ↓reduceIte, reduceCtorEq, Nat.reduceEqDiff, Nat.reduceAdd, Nat.reduceMul, Nat.reduceSub, Nat.reduceLeDiff, Nat.reduceBEq, Int.reduceToNat, Int.reduceLE, Int.reduceLT, Int.reduceEq, Int.reduceNe, di0, di1, di2, di3, di4, di5, di6, di7, di8, di9, postX_ret, postX_normal, ex_some]
    split
    · rename_i h
      repeat (refine And.intro (by omega) ?_)
      split
      · rename_i h2
        have : ¬ a = b := by
          rintro rfl
          simp at h2
        rw [decide_eq_false this]
      · rename_i h2
        have h3 : a.getD i default = b.getD i default := by
          simp only [Bool.not_eq_false, Bool.and_eq_true, decide_eq_true_eq] at h2
          generalize a.getD i default = x at h2
          generalize b.getD i default = y at h2
          cases x
          cases y
          simp_all
        rw [wrap64 (by omega) (by omega)]
        refine ih (i + 1) _ _ (by omega) ⟨by omega, fun j hj => ?_⟩ (by simp only [ruI, ssI, sbI, spI, swI, scI, stI, srI, saI, snI, ↓reduceIte, reduceCtorEq, Nat.reduceEqDiff, Nat.reduceAdd, Nat.reduceMul, Nat.reduceSub, Nat.reduceLeDiff, Nat.reduceBEq, Int.reduceToNat, Int.reduceLE, Int.reduceLT, Int.reduceEq, Int.reduceNe, di0, di1, di2, di3, di4, di5, di6, di7, di8, di9, postX_ret, postX_normal, ex_some] <;> rfl)
        by_cases e : j = i
        · subst e; exact h3
        · exact he j (by omega)
    · rename_i h
      have : a = b := eq_of_getD default hl (fun j hj => he j (by omega))
      rw [decide_eq_true this]
  · rename_i hl
    have : ¬ a = b := fun k => hl (by rw [k])
    rw [decide_eq_false this]

theorem run_round {P : Program} {k : List KF} {Q : Ex → St → Prop} {st : St} {live ids : List Nat} {a c : DCode} (hc : c = .keep live ids a) (h : run P a (.again c :: k) Q (st.keep live ids)) : run P (.loop c) k Q st := by
  subst hc
  exact run_loop h
theorem r_BoxStep {r : Ru} {b : Bx} {load : Int} (hr : Sg.Good r) (h1 : -1000000000 ≤ b.ll ∧ b.ll ≤ 1000000000) (h1' : -1000000000 ≤ b.lh ∧ b.lh ≤ 1000000000) (h2 : -1000 ≤ b.fl ∧ b.fl ≤ 1000) (h2' : -1000 ≤ b.fh ∧ b.fh ≤ 1000) (h3 : 0 ≤ load ∧ load ≤ 1000) :
    Contract Try.prog 56 [ruI r, sbI b, .int .i64 load] (sbI (bstp r b load)) := by
  have k1 := hr.lo; have k2 := hr.le; have k3 := hr.hi
  have c : ∀ (L F k : Int), (-1000000000 ≤ L ∧ L ≤ 1000000000) → (-1000 ≤ F ∧ F ≤ 1000) → (0 ≤ k ∧ k ≤ 100) → Contract Try.prog 23 [ruI r, ssI ⟨L, F⟩, .int .i64 load, .int .i64 k] (ssI (stp r ⟨L, F⟩ load k)) :=
    fun L F k hL hF hk => r_Step hr ⟨hL, hF, h3, hk⟩
  refine contract_run Try.func56 k56 rfl ?_
  simp only [body56, b56, res56, b56k0, b56k1, b56k2, b56k3, ruI, ssI, sbI, spI, swI, scI, stI, srI, saI, snI, ↓reduceIte, reduceCtorEq, Nat.reduceEqDiff, Nat.reduceAdd, Nat.reduceMul, Nat.reduceSub, Nat.reduceLeDiff, Nat.reduceBEq, Int.reduceToNat, Int.reduceLE, Int.reduceLT, Int.reduceEq, Int.reduceNe, di0, di1, di2, di3, di4, di5, di6, di7, di8, di9, postX_ret, postX_normal, ex_some]
  refine run_round rfl ?_
  simp only [res56, b56k0, b56k1, b56k2, b56k3, List.getD_cons_zero, List.getD_cons_succ, ruI, ssI, sbI, spI, swI, scI, stI, srI, saI, snI, ↓reduceIte, reduceCtorEq, Nat.reduceEqDiff, Nat.reduceAdd, Nat.reduceMul, Nat.reduceSub, Nat.reduceLeDiff, Nat.reduceBEq, Int.reduceToNat, Int.reduceLE, Int.reduceLT, Int.reduceEq, Int.reduceNe, di0, di1, di2, di3, di4, di5, di6, di7, di8, di9, postX_ret, postX_normal, ex_some]
  repeat (refine And.intro (by omega) ?_)
  try simp only [List.getD_cons_zero, List.getD_cons_succ, ruI, ssI, sbI, spI, swI, scI, stI, srI, saI, snI, ↓reduceIte, reduceCtorEq, Nat.reduceEqDiff, Nat.reduceAdd, Nat.reduceMul, Nat.reduceSub, Nat.reduceLeDiff, Nat.reduceBEq, Int.reduceToNat, Int.reduceLE, Int.reduceLT, Int.reduceEq, Int.reduceNe, di0, di1, di2, di3, di4, di5, di6, di7, di8, di9, postX_ret, postX_normal, ex_some]
  refine calls_of (c b.ll b.fl r.lo h1 h2 (by omega)) ?_; simp only [ruI, ssI, sbI, spI, swI, scI, stI, srI, saI, snI, res56, b56k0, b56k1, b56k2, b56k3, ↓reduceIte, reduceCtorEq, Nat.reduceEqDiff, Nat.reduceAdd, Nat.reduceMul, Nat.reduceSub, Nat.reduceLeDiff, Nat.reduceBEq, Int.reduceToNat, Int.reduceLE, Int.reduceLT, Int.reduceEq, Int.reduceNe, di0, di1, di2, di3, di4, di5, di6, di7, di8, di9, postX_ret, postX_normal, ex_some]
  repeat (refine And.intro (by omega) ?_)
  try simp only [List.getD_cons_zero, List.getD_cons_succ, ruI, ssI, sbI, spI, swI, scI, stI, srI, saI, snI, ↓reduceIte, reduceCtorEq, Nat.reduceEqDiff, Nat.reduceAdd, Nat.reduceMul, Nat.reduceSub, Nat.reduceLeDiff, Nat.reduceBEq, Int.reduceToNat, Int.reduceLE, Int.reduceLT, Int.reduceEq, Int.reduceNe, di0, di1, di2, di3, di4, di5, di6, di7, di8, di9, postX_ret, postX_normal, ex_some]
  refine calls_of (c b.lh b.fh r.lo h1' h2' (by omega)) ?_; simp only [ruI, ssI, sbI, spI, swI, scI, stI, srI, saI, snI, res56, b56k0, b56k1, b56k2, b56k3, ↓reduceIte, reduceCtorEq, Nat.reduceEqDiff, Nat.reduceAdd, Nat.reduceMul, Nat.reduceSub, Nat.reduceLeDiff, Nat.reduceBEq, Int.reduceToNat, Int.reduceLE, Int.reduceLT, Int.reduceEq, Int.reduceNe, di0, di1, di2, di3, di4, di5, di6, di7, di8, di9, postX_ret, postX_normal, ex_some]
  repeat (refine And.intro (by omega) ?_)
  try simp only [List.getD_cons_zero, List.getD_cons_succ, ruI, ssI, sbI, spI, swI, scI, stI, srI, saI, snI, ↓reduceIte, reduceCtorEq, Nat.reduceEqDiff, Nat.reduceAdd, Nat.reduceMul, Nat.reduceSub, Nat.reduceLeDiff, Nat.reduceBEq, Int.reduceToNat, Int.reduceLE, Int.reduceLT, Int.reduceEq, Int.reduceNe, di0, di1, di2, di3, di4, di5, di6, di7, di8, di9, postX_ret, postX_normal, ex_some]
  refine calls_of (c b.lh b.fl r.lo h1' h2 (by omega)) ?_; simp only [ruI, ssI, sbI, spI, swI, scI, stI, srI, saI, snI, res56, b56k0, b56k1, b56k2, b56k3, ↓reduceIte, reduceCtorEq, Nat.reduceEqDiff, Nat.reduceAdd, Nat.reduceMul, Nat.reduceSub, Nat.reduceLeDiff, Nat.reduceBEq, Int.reduceToNat, Int.reduceLE, Int.reduceLT, Int.reduceEq, Int.reduceNe, di0, di1, di2, di3, di4, di5, di6, di7, di8, di9, postX_ret, postX_normal, ex_some]
  repeat (refine And.intro (by omega) ?_)
  try simp only [List.getD_cons_zero, List.getD_cons_succ, ruI, ssI, sbI, spI, swI, scI, stI, srI, saI, snI, ↓reduceIte, reduceCtorEq, Nat.reduceEqDiff, Nat.reduceAdd, Nat.reduceMul, Nat.reduceSub, Nat.reduceLeDiff, Nat.reduceBEq, Int.reduceToNat, Int.reduceLE, Int.reduceLT, Int.reduceEq, Int.reduceNe, di0, di1, di2, di3, di4, di5, di6, di7, di8, di9, postX_ret, postX_normal, ex_some]
  refine calls_of (c b.ll b.fh r.lo h1 h2' (by omega)) ?_; simp only [ruI, ssI, sbI, spI, swI, scI, stI, srI, saI, snI, res56, b56k0, b56k1, b56k2, b56k3, ↓reduceIte, reduceCtorEq, Nat.reduceEqDiff, Nat.reduceAdd, Nat.reduceMul, Nat.reduceSub, Nat.reduceLeDiff, Nat.reduceBEq, Int.reduceToNat, Int.reduceLE, Int.reduceLT, Int.reduceEq, Int.reduceNe, di0, di1, di2, di3, di4, di5, di6, di7, di8, di9, postX_ret, postX_normal, ex_some]
  simp only [show IntKind.wrap .i64 (0 + 1) = 1 from rfl]
  refine run_round rfl ?_
  simp only [res56, b56k0, b56k1, b56k2, b56k3, List.getD_cons_zero, List.getD_cons_succ, ruI, ssI, sbI, spI, swI, scI, stI, srI, saI, snI, ↓reduceIte, reduceCtorEq, Nat.reduceEqDiff, Nat.reduceAdd, Nat.reduceMul, Nat.reduceSub, Nat.reduceLeDiff, Nat.reduceBEq, Int.reduceToNat, Int.reduceLE, Int.reduceLT, Int.reduceEq, Int.reduceNe, di0, di1, di2, di3, di4, di5, di6, di7, di8, di9, postX_ret, postX_normal, ex_some]
  repeat (refine And.intro (by omega) ?_)
  try simp only [List.getD_cons_zero, List.getD_cons_succ, ruI, ssI, sbI, spI, swI, scI, stI, srI, saI, snI, ↓reduceIte, reduceCtorEq, Nat.reduceEqDiff, Nat.reduceAdd, Nat.reduceMul, Nat.reduceSub, Nat.reduceLeDiff, Nat.reduceBEq, Int.reduceToNat, Int.reduceLE, Int.reduceLT, Int.reduceEq, Int.reduceNe, di0, di1, di2, di3, di4, di5, di6, di7, di8, di9, postX_ret, postX_normal, ex_some]
  refine calls_of (c b.ll b.fl r.hi h1 h2 (by omega)) ?_; simp only [ruI, ssI, sbI, spI, swI, scI, stI, srI, saI, snI, res56, b56k0, b56k1, b56k2, b56k3, ↓reduceIte, reduceCtorEq, Nat.reduceEqDiff, Nat.reduceAdd, Nat.reduceMul, Nat.reduceSub, Nat.reduceLeDiff, Nat.reduceBEq, Int.reduceToNat, Int.reduceLE, Int.reduceLT, Int.reduceEq, Int.reduceNe, di0, di1, di2, di3, di4, di5, di6, di7, di8, di9, postX_ret, postX_normal, ex_some]
  repeat (refine And.intro (by omega) ?_)
  try simp only [List.getD_cons_zero, List.getD_cons_succ, ruI, ssI, sbI, spI, swI, scI, stI, srI, saI, snI, ↓reduceIte, reduceCtorEq, Nat.reduceEqDiff, Nat.reduceAdd, Nat.reduceMul, Nat.reduceSub, Nat.reduceLeDiff, Nat.reduceBEq, Int.reduceToNat, Int.reduceLE, Int.reduceLT, Int.reduceEq, Int.reduceNe, di0, di1, di2, di3, di4, di5, di6, di7, di8, di9, postX_ret, postX_normal, ex_some]
  refine calls_of (c b.lh b.fh r.hi h1' h2' (by omega)) ?_; simp only [ruI, ssI, sbI, spI, swI, scI, stI, srI, saI, snI, res56, b56k0, b56k1, b56k2, b56k3, ↓reduceIte, reduceCtorEq, Nat.reduceEqDiff, Nat.reduceAdd, Nat.reduceMul, Nat.reduceSub, Nat.reduceLeDiff, Nat.reduceBEq, Int.reduceToNat, Int.reduceLE, Int.reduceLT, Int.reduceEq, Int.reduceNe, di0, di1, di2, di3, di4, di5, di6, di7, di8, di9, postX_ret, postX_normal, ex_some]
  repeat (refine And.intro (by omega) ?_)
  try simp only [List.getD_cons_zero, List.getD_cons_succ, ruI, ssI, sbI, spI, swI, scI, stI, srI, saI, snI, ↓reduceIte, reduceCtorEq, Nat.reduceEqDiff, Nat.reduceAdd, Nat.reduceMul, Nat.reduceSub, Nat.reduceLeDiff, Nat.reduceBEq, Int.reduceToNat, Int.reduceLE, Int.reduceLT, Int.reduceEq, Int.reduceNe, di0, di1, di2, di3, di4, di5, di6, di7, di8, di9, postX_ret, postX_normal, ex_some]
  refine calls_of (c b.lh b.fl r.hi h1' h2 (by omega)) ?_; simp only [ruI, ssI, sbI, spI, swI, scI, stI, srI, saI, snI, res56, b56k0, b56k1, b56k2, b56k3, ↓reduceIte, reduceCtorEq, Nat.reduceEqDiff, Nat.reduceAdd, Nat.reduceMul, Nat.reduceSub, Nat.reduceLeDiff, Nat.reduceBEq, Int.reduceToNat, Int.reduceLE, Int.reduceLT, Int.reduceEq, Int.reduceNe, di0, di1, di2, di3, di4, di5, di6, di7, di8, di9, postX_ret, postX_normal, ex_some]
  repeat (refine And.intro (by omega) ?_)
  try simp only [List.getD_cons_zero, List.getD_cons_succ, ruI, ssI, sbI, spI, swI, scI, stI, srI, saI, snI, ↓reduceIte, reduceCtorEq, Nat.reduceEqDiff, Nat.reduceAdd, Nat.reduceMul, Nat.reduceSub, Nat.reduceLeDiff, Nat.reduceBEq, Int.reduceToNat, Int.reduceLE, Int.reduceLT, Int.reduceEq, Int.reduceNe, di0, di1, di2, di3, di4, di5, di6, di7, di8, di9, postX_ret, postX_normal, ex_some]
  refine calls_of (c b.ll b.fh r.hi h1 h2' (by omega)) ?_; simp only [ruI, ssI, sbI, spI, swI, scI, stI, srI, saI, snI, res56, b56k0, b56k1, b56k2, b56k3, ↓reduceIte, reduceCtorEq, Nat.reduceEqDiff, Nat.reduceAdd, Nat.reduceMul, Nat.reduceSub, Nat.reduceLeDiff, Nat.reduceBEq, Int.reduceToNat, Int.reduceLE, Int.reduceLT, Int.reduceEq, Int.reduceNe, di0, di1, di2, di3, di4, di5, di6, di7, di8, di9, postX_ret, postX_normal, ex_some]
  simp only [show IntKind.wrap .i64 (1 + 1) = 2 from rfl]
  refine run_round rfl ?_
  simp only [res56, b56k0, b56k1, b56k2, b56k3, Int.min_self, Int.max_self, bstp, ruI, ssI, sbI, spI, swI, scI, stI, srI, saI, snI, ↓reduceIte, reduceCtorEq, Nat.reduceEqDiff, Nat.reduceAdd, Nat.reduceMul, Nat.reduceSub, Nat.reduceLeDiff, Nat.reduceBEq, Int.reduceToNat, Int.reduceLE, Int.reduceLT, Int.reduceEq, Int.reduceNe, di0, di1, di2, di3, di4, di5, di6, di7, di8, di9, postX_ret, postX_normal, ex_some]
  try rfl

theorem r_BoxRun {r : Ru} {b : Bx} {ls : List Int} (hr : Sg.Good r) (hs : (-1000000 ≤ b.ll ∧ b.ll ≤ 1000000) ∧ (-1000000 ≤ b.lh ∧ b.lh ≤ 1000000) ∧ (-1000 ≤ b.fl ∧ b.fl ≤ 1000) ∧ -1000 ≤ b.fh ∧ b.fh ≤ 1000) (hl : Loads ls) :
    Contract Try.prog 58 [ruI r, sbI b, snI ls] (.slc 4 ((brunL r b ls).map sbI)) := by
  have hl1 := hl.1
  refine contract_run Try.func58 k58 rfl ?_
  simp only [body58, b58, res58, b58k0, b58k1, ruI, ssI, sbI, spI, swI, scI, stI, srI, saI, snI, ↓reduceIte, reduceCtorEq, Nat.reduceEqDiff, Nat.reduceAdd, Nat.reduceMul, Nat.reduceSub, Nat.reduceLeDiff, Nat.reduceBEq, Int.reduceToNat, Int.reduceLE, Int.reduceLT, Int.reduceEq, Int.reduceNe, di0, di1, di2, di3, di4, di5, di6, di7, di8, di9, postX_ret, postX_normal, ex_some]
  refine loop_keep (α := Nat × Bx × List Bx) rfl (fun q => ls.length - q.1) (fun q => q.1 ≤ ls.length ∧ ((-(1000000 + 2000 * (q.1 : Int)) ≤ q.2.1.ll ∧ q.2.1.ll ≤ 1000000 + 2000 * (q.1 : Int)) ∧ (-(1000000 + 2000 * (q.1 : Int)) ≤ q.2.1.lh ∧ q.2.1.lh ≤ 1000000 + 2000 * (q.1 : Int)) ∧ (-1000 ≤ q.2.1.fl ∧ q.2.1.fl ≤ 1000) ∧ -1000 ≤ q.2.1.fh ∧ q.2.1.fh ≤ 1000) ∧ q.2.2.length = q.1 ∧ q.2.2 ++ brunL r q.2.1 (ls.drop q.1) = brunL r b ls)
    (fun q => [(2, .imm (snI ls)), (3, .ref 3 0), (4, .ref 4 0), (7, .own 7), (8, .imm (.int .i64 q.1))])
    (fun q => [(3, .box [.imm (.int .i64 r.I), .imm (.int .i64 r.A), .imm (.int .i64 r.lo), .imm (.int .i64 r.hi), .imm (.int .i64 r.T)]), (4, .box [.imm (.int .i64 q.2.1.ll), .imm (.int .i64 q.2.1.lh), .imm (.int .i64 q.2.1.fl), .imm (.int .i64 q.2.1.fh)]), (7, .tok 4 (q.2.2.map sbI))])
    (0, b, []) ⟨Nat.zero_le _, by simpa using hs, rfl, rfl⟩ (by simp only [ruI, ssI, sbI, spI, swI, scI, stI, srI, saI, snI, ↓reduceIte, reduceCtorEq, Nat.reduceEqDiff, Nat.reduceAdd, Nat.reduceMul, Nat.reduceSub, Nat.reduceLeDiff, Nat.reduceBEq, Int.reduceToNat, Int.reduceLE, Int.reduceLT, Int.reduceEq, Int.reduceNe, di0, di1, di2, di3, di4, di5, di6, di7, di8, di9, postX_ret, postX_normal, ex_some] <;> rfl) ?_
  rintro ⟨i, s1, out⟩ ⟨hi, hb1, hlen, he⟩ ih
  dsimp only at hi hb1 hlen he ⊢
  simp only [res58, b58k0, b58k1, ruI, ssI, sbI, spI, swI, scI, stI, srI, saI, snI, ↓reduceIte, reduceCtorEq, Nat.reduceEqDiff, Nat.reduceAdd, Nat.reduceMul, Nat.reduceSub, Nat.reduceLeDiff, Nat.reduceBEq, Int.reduceToNat, Int.reduceLE, Int.reduceLT, Int.reduceEq, Int.reduceNe, di0, di1, di2, di3, di4, di5, di6, di7, di8, di9, postX_ret, postX_normal, ex_some]
  split
  case isFalse h =>
    have : i = ls.length := by omega
    subst this
    rw [List.drop_length] at he
    simp only [brunL, List.append_nil] at he
    rw [he]
  rename_i h
  have hlt : i < ls.length := by omega
  rw [getD_drop hlt] at he
  have hld := hl.2 _ (getD_mem hlt)
  generalize ls.getD i 0 = load at he hld
  have hb3 := bstp_bd (b := s1) (load := load) (m := 1000000 + 2000 * (i : Int)) hr hb1.1 hb1.2.1 hld
  repeat (refine And.intro (by omega) ?_)
  refine calls_of (r_BoxStep (b := s1) (load := load) hr (by omega) (by omega) (by omega) (by omega) hld) ?_; simp only [ruI, ssI, sbI, spI, swI, scI, stI, srI, saI, snI, res58, b58k0, b58k1, ↓reduceIte, reduceCtorEq, Nat.reduceEqDiff, Nat.reduceAdd, Nat.reduceMul, Nat.reduceSub, Nat.reduceLeDiff, Nat.reduceBEq, Int.reduceToNat, Int.reduceLE, Int.reduceLT, Int.reduceEq, Int.reduceNe, di0, di1, di2, di3, di4, di5, di6, di7, di8, di9, postX_ret, postX_normal, ex_some]
  repeat (refine And.intro (by omega) ?_)
  rw [wrap64 (by omega) (by omega)]
  refine ih (i + 1, bstp r s1 load, out ++ [bstp r s1 load]) _ _ (by dsimp only; omega) ⟨by dsimp only; omega, by dsimp only; omega, by simp [hlen], ?_⟩ (by simp only [ruI, ssI, sbI, spI, swI, scI, stI, srI, saI, snI, ↓reduceIte, reduceCtorEq, Nat.reduceEqDiff, Nat.reduceAdd, Nat.reduceMul, Nat.reduceSub, Nat.reduceLeDiff, Nat.reduceBEq, Int.reduceToNat, Int.reduceLE, Int.reduceLT, Int.reduceEq, Int.reduceNe, di0, di1, di2, di3, di4, di5, di6, di7, di8, di9, postX_ret, postX_normal, ex_some, List.map_append] <;> rfl)
  dsimp only
  rw [← he]
  simp [brunL]
end Go.DI

