/- The functions of laws in the reference and in the statements, as data. No condition. -/
import Derived.Test.YtadmimjaelodkaaWaGe
import Derived.Test.YtadmimjaelodkaaProg
import Derived.KernelRfl
namespace Go.DI
open Go.Proofs Go.RowKit
/-- guidevane/guidevaneref03.laws -/
def b123k0 : DCode :=
 (.seq
  (.block 3
   (.region [⟨(some 33), .mov, [.t 7], none, []⟩,
     ⟨(some 34), .mov, [.t 8], none, []⟩,
     ⟨(some 35), (.bsl 1), [.t 34], none, [1]⟩,
     ⟨(some 36), .movv, [.t 9], none, []⟩,
     ⟨(some 37), .mov, [.t 10], none, []⟩,
     ⟨(some 38), (.iaddr 1), [.t 36, .t 37], none, [3, 4]⟩,
     ⟨(some 39), (.load false 1), [.t 38], none, [5]⟩,
     ⟨(some 40), (.appq 1 8), [.t 35, .t 39], none, [2, 6]⟩,
     ⟨(some 41), (.bsl 1), [.t 40], none, [7]⟩,
     ⟨(some 42), (.append 1 24 false), [.t 33, .t 41], none, [0, 8, 7]⟩,
     ⟨(some 7), .mov, [.t 42], none, [9, 9, 0, 1, 2, 3, 4, 5, 6, 7, 8, 9]⟩] false))
  (.region [⟨(some 31), .mov, [.t 10], none, []⟩,
    ⟨(some 32), (.bin .add), [.t 31, .c (.int .i64 1)], none, [0]⟩,
    ⟨(some 10), .mov, [.t 32], none, [1, 0, 1]⟩] false))
def b123l0 : DCode := .keep [0, 2, 7, 8, 9, 10] [7, 42]
  (.seq
   (.seq
    (.region [⟨(some 27), .mov, [.t 10], none, []⟩,
      ⟨(some 28), .movv, [.t 9], none, []⟩,
      ⟨(some 29), .len, [.t 28], none, [1]⟩,
      ⟨(some 30), (.bin .lss), [.t 27, .t 29], none, [0, 2]⟩] false)
    (.cond (.t 30)
     .skip
     (.exit 2)))
   (.keep [0, 2, 7, 8, 9, 10] [7, 42] b123k0))
def b123k1 : DCode :=
 (.region [⟨(some 20), .mov, [.t 8], none, []⟩,
   ⟨(some 21), (.bin .add), [.t 20, .c (.int .i64 1)], none, [0]⟩,
   ⟨(some 8), .mov, [.t 21], none, [1, 0, 1]⟩] false)
def b123k2 : DCode :=
 (.seq
  (.block 1
   (.seq
    (.region [⟨(some 22), .mov, [.t 0], none, []⟩,
      ⟨(some 23), (.bin .sub), [.t 22, .c (.int .i64 1)], none, [0]⟩,
      ⟨(some 24), .mov, [.t 8], none, []⟩,
      ⟨(some 25), .mov, [.t 2], none, []⟩,
      ⟨(some 26), .call, [.f 123, .t 23, .t 24, .t 25], none, [1, 2, 3]⟩,
      ⟨(some 9), .movv, [.t 26], none, [4, 4, 0, 1, 2, 3, 4]⟩] false)
    (.seq
     (.region [⟨(some 10), .mov, [.c (.int .i64 0)], none, []⟩] false)
     (.block 2
      (.loop b123l0)))))
  (.keep [0, 2, 7, 8] [7, 42] b123k1))
def b123l1 : DCode := .keep [0, 2, 7, 8] [7, 42]
  (.seq
   (.seq
    (.region [⟨(some 17), .mov, [.t 8], none, []⟩,
      ⟨(some 18), .mov, [.t 2], none, []⟩,
      ⟨(some 19), (.bin .leq), [.t 17, .t 18], none, [0, 1]⟩] false)
    (.cond (.t 19)
     .skip
     (.exit 0)))
   (.keep [0, 2, 7, 8] [7, 42] b123k2))
def b123k3 : DCode :=
 (.seq
  (.region [⟨(some 43), .movv, [.t 7], none, []⟩,
    ⟨(some 6), .movv, [.t 43], none, [0, 0]⟩] false)
  .ret)
def b123k4 : DCode :=
 (.seq
  (.region [⟨(some 7), (.ntok 1), [.c (.slc 1 [])], none, []⟩] false)
  (.seq
   (.seq
    (.region [⟨(some 16), .mov, [.t 1], none, []⟩,
      ⟨(some 8), .mov, [.t 16], none, [0, 0]⟩] false)
    (.block 0
     (.loop b123l1)))
   (.keep [7] [7, 42] b123k3)))
def b123 : DCode :=
 (.seq
  (.region [⟨(some 6), .mov, [.c (.slc 1 [])], none, []⟩] false)
  (.seq
   (.seq
    (.region [⟨(some 11), .mov, [.t 0], none, []⟩,
      ⟨(some 12), (.bin .eql), [.t 11, .c (.int .i64 1)], none, [0]⟩] false)
    (.cond (.t 12)
     (.seq
      (.region [⟨(some 13), .mov, [.t 2], none, []⟩,
        ⟨(some 14), (.bsl 1), [.t 13], none, [0]⟩,
        ⟨(some 15), (.bsl 1), [.t 14], none, [1]⟩,
        ⟨(some 6), .movv, [.t 15], none, [2, 0, 1, 2]⟩] false)
      .ret)
     .skip))
   (.keep [0, 1, 2] [] b123k4)))
def d123 : DFn := ⟨3, 44, [.tmp 6], b123⟩
theorem body123 : d123.body = b123 := rfl
theorem res123 : d123.res = [.tmp 6] := rfl
theorem k123 : chkFn Try.prog Try.f123 d123 = true := by kernel_rfl

/-- guidevane/guidevaneref03.Fastest -/
def b64k0 : DCode :=
 (.region [⟨(some 25), .mov, [.t 8], none, []⟩,
   ⟨(some 26), (.bin .add), [.t 25, .c (.int .i64 1)], none, [0]⟩,
   ⟨(some 8), .mov, [.t 26], none, [1, 0, 1]⟩] false)
def b64k1 : DCode :=
 (.seq
  (.block 3
   (.seq
    (.region [⟨(some 28), (.load true 2), [.t 2], none, []⟩,
      ⟨(some 29), .movv, [.t 7], none, []⟩,
      ⟨(some 30), .mov, [.t 8], none, []⟩,
      ⟨(some 31), (.iaddr 1), [.t 29, .t 30], none, [1, 2]⟩,
      ⟨(some 32), (.load false 1), [.t 31], none, [3]⟩,
      ⟨(some 33), (.load true 5), [.t 3], none, []⟩,
      ⟨(some 34), .call, [.f 63, .t 28, .t 32, .t 33], none, [0, 4, 5]⟩,
      ⟨(some 27), .mov, [.t 34], none, [6]⟩,
      ⟨(some 35), (.ext 0), [.t 27], none, [7]⟩,
      ⟨(some 36), (.ext 1), [.t 27], none, [7]⟩,
      ⟨(some 9), .mov, [.t 35], none, [8, 6, 0, 1, 2, 3, 4, 5, 6, 7, 8]⟩,
      ⟨(some 10), .mov, [.t 36], none, [9, 10, 0, 1, 2, 3, 4, 5, 6, 7, 8, 9, 10]⟩] true)
    (.seq
     (.region [⟨(some 37), .mov, [.t 10], none, []⟩,
       ⟨(some 38), (.un .not), [.t 37], none, [0]⟩] false)
     (.cond (.t 38)
      (.seq
       (.region [⟨(some 39), .movv, [.t 7], none, []⟩,
         ⟨(some 40), .mov, [.t 8], none, []⟩,
         ⟨(some 41), (.iaddr 1), [.t 39, .t 40], none, [0, 1]⟩,
         ⟨(some 42), (.load false 1), [.t 41], none, [2]⟩,
         ⟨(some 4), .movv, [.t 42], none, [3, 0, 1, 2, 3]⟩,
         ⟨(some 5), .mov, [.c (.bool true)], none, [4, 0, 1, 2, 3, 4]⟩] false)
       .ret)
      .skip))))
  (.keep [2, 3, 6, 7, 8] [2, 3] b64k0))
def b64l0 : DCode := .keep [2, 3, 6, 7, 8] [2, 3]
  (.seq
   (.seq
    (.region [⟨(some 21), .mov, [.t 8], none, []⟩,
      ⟨(some 22), .movv, [.t 7], none, []⟩,
      ⟨(some 23), .len, [.t 22], none, [1]⟩,
      ⟨(some 24), (.bin .lss), [.t 21, .t 23], none, [0, 2]⟩] false)
    (.cond (.t 24)
     .skip
     (.exit 2)))
   (.keep [2, 3, 6, 7, 8] [2, 3] b64k1))
def b64k2 : DCode :=
 (.region [⟨(some 15), .mov, [.t 6], none, []⟩,
   ⟨(some 16), (.bin .add), [.t 15, .c (.int .i64 1)], none, [0]⟩,
   ⟨(some 6), .mov, [.t 16], none, [1, 0, 1]⟩] false)
def b64k3 : DCode :=
 (.seq
  (.block 1
   (.seq
    (.region [⟨(some 17), .mov, [.t 6], none, []⟩,
      ⟨(some 18), (.faddr 0 false 1), [.t 3], none, []⟩,
      ⟨(some 19), (.load false 1), [.t 18], none, [1]⟩,
      ⟨(some 20), .call, [.f 123, .t 17, .c (.int .i64 0), .t 19], none, [0, 2]⟩,
      ⟨(some 7), .movv, [.t 20], none, [3, 3, 0, 1, 2, 3]⟩] false)
    (.seq
     (.region [⟨(some 8), .mov, [.c (.int .i64 0)], none, []⟩] false)
     (.block 2
      (.loop b64l0)))))
  (.keep [2, 3, 6] [2, 3] b64k2))
def b64l1 : DCode := .keep [2, 3, 6] [2, 3]
  (.seq
   (.seq
    (.region [⟨(some 11), .mov, [.t 6], none, []⟩,
      ⟨(some 12), (.faddr 1 false 1), [.t 3], none, []⟩,
      ⟨(some 13), (.load false 1), [.t 12], none, [1]⟩,
      ⟨(some 14), (.bin .leq), [.t 11, .t 13], none, [0, 2]⟩] false)
    (.cond (.t 14)
     .skip
     (.exit 0)))
   (.keep [2, 3, 6] [2, 3] b64k3))
def b64k4 : DCode :=
 (.seq
  (.region [⟨(some 4), .mov, [.c (.slc 1 [])], none, []⟩,
    ⟨(some 5), .mov, [.c (.bool false)], none, [0, 0]⟩] false)
  .ret)
def b64 : DCode :=
 (.seq
  (.region [⟨(some 2), .box, [.t 0], none, []⟩,
    ⟨(some 3), .box, [.t 1], none, []⟩,
    ⟨(some 4), .mov, [.c (.slc 1 [])], none, []⟩,
    ⟨(some 5), .mov, [.c (.bool false)], none, [2]⟩] false)
  (.seq
   (.seq
    (.region [⟨(some 6), .mov, [.c (.int .i64 1)], none, []⟩] false)
    (.block 0
     (.loop b64l1)))
   (.keep [] [] b64k4)))
def d64 : DFn := ⟨2, 43, [.tmp 4, .tmp 5], b64⟩
theorem body64 : d64.body = b64 := rfl
theorem res64 : d64.res = [.tmp 4, .tmp 5] := rfl
theorem k64 : chkFn Try.prog Try.f64 d64 = true := by kernel_rfl

/-- guidevane/guidevanelaw03.WaveTasks -/
def b10k0 : DCode :=
 (.seq
  (.region [⟨(some 154), .mov, [.t 10], none, []⟩,
    ⟨(some 155), (.bin .eql), [.t 154, .c (.int .i64 0)], none, [0]⟩,
    ⟨(some 156), .mov, [.t 155], none, [1]⟩,
    ⟨(some 157), .movv, [.t 9], (some (156, true)), [2]⟩,
    ⟨(some 158), .movv, [.t 14], (some (156, true)), [2]⟩,
    ⟨(some 159), .call, [.f 45, .t 157, .t 158], (some (156, true)), [3, 4, 2, 2]⟩,
    ⟨(some 160), .pick, [.t 156, .t 159, .c (.bool false)], none, [2, 5]⟩,
    ⟨(some 6), .mov, [.t 160], none, [6, 5, 0, 1, 2, 3, 4, 5, 6]⟩] false)
  .ret)
def b10k1 : DCode :=
 (.seq
  (.region [⟨(some 140), (.load true 2), [.t 3], none, []⟩,
    ⟨(some 141), (.load true 5), [.t 5], none, []⟩,
    ⟨(some 142), .call, [.f 64, .t 140, .t 141], none, [0, 1]⟩,
    ⟨(some 139), .mov, [.t 142], none, [2]⟩,
    ⟨(some 143), (.ext 0), [.t 139], none, [3]⟩,
    ⟨(some 144), (.ext 1), [.t 139], none, [3]⟩,
    ⟨(some 14), .movv, [.t 143], none, [4, 2, 0, 1, 2, 3, 4]⟩,
    ⟨(some 15), .mov, [.t 144], none, [5, 6, 0, 1, 2, 3, 4, 5, 6]⟩] false)
  (.seq
   (.seq
    (.region [⟨(some 145), .mov, [.t 15], none, []⟩,
      ⟨(some 146), (.un .not), [.t 145], none, [0]⟩] false)
    (.cond (.t 146)
     (.seq
      (.region [⟨(some 147), .mov, [.t 10], none, []⟩,
        ⟨(some 148), (.bin .eql), [.t 147, .c (.int .i64 12)], none, [0]⟩,
        ⟨(some 149), .mov, [.t 148], none, [1]⟩,
        ⟨(some 150), .movv, [.t 9], (some (149, true)), [2]⟩,
        ⟨(some 151), .len, [.t 150], (some (149, true)), [3, 2]⟩,
        ⟨(some 152), (.bin .eql), [.t 151, .c (.int .i64 0)], (some (149, true)), [4, 2]⟩,
        ⟨(some 153), .pick, [.t 149, .t 152, .c (.bool false)], none, [2, 5]⟩,
        ⟨(some 6), .mov, [.t 153], none, [6, 2, 0, 1, 2, 3, 4, 5, 6]⟩] false)
      .ret)
     .skip))
   (.keep [9, 10, 14] [] b10k0)))
def b10k2 : DCode :=
 (.seq
  (.seq
   (.region [⟨(some 127), (.load true 5), [.t 5], none, []⟩,
     ⟨(some 128), .call, [.f 55, .t 127], none, [0]⟩,
     ⟨(some 11), .mov, [.t 128], none, [1, 1, 0, 1]⟩] false)
   (.seq
    (.region [⟨(some 129), .mov, [.t 11], none, []⟩,
      ⟨(some 130), (.bin .neq), [.t 129, .c (.int .i64 0)], none, [0]⟩] false)
    (.cond (.t 130)
     (.seq
      (.region [⟨(some 131), .mov, [.t 10], none, []⟩,
        ⟨(some 132), .mov, [.t 11], none, []⟩,
        ⟨(some 133), (.bin .eql), [.t 131, .t 132], none, [0, 1]⟩,
        ⟨(some 134), .mov, [.t 133], none, [2]⟩,
        ⟨(some 135), .movv, [.t 9], (some (134, true)), [3]⟩,
        ⟨(some 136), .len, [.t 135], (some (134, true)), [4, 3]⟩,
        ⟨(some 137), (.bin .eql), [.t 136, .c (.int .i64 0)], (some (134, true)), [5, 3]⟩,
        ⟨(some 138), .pick, [.t 134, .t 137, .c (.bool false)], none, [3, 6]⟩,
        ⟨(some 6), .mov, [.t 138], none, [7, 3, 0, 1, 2, 3, 4, 5, 6, 7]⟩] false)
      .ret)
     .skip)))
  (.keep [3, 5, 9, 10] [3, 5] b10k1))
def b10k3 : DCode :=
 (.seq
  (.seq
   (.region [⟨(some 89), .mov, [.t 11], none, []⟩,
     ⟨(some 90), (.bin .neq), [.t 89, .c (.int .i64 0)], none, [0]⟩] false)
   (.cond (.t 90)
    (.seq
     (.region [⟨(some 91), .mov, [.t 8], none, []⟩,
       ⟨(some 92), .mov, [.t 11], none, []⟩,
       ⟨(some 93), (.bin .neq), [.t 91, .t 92], none, [0, 1]⟩,
       ⟨(some 94), .mov, [.t 93], none, [2]⟩,
       ⟨(some 95), .mov, [.t 7], (some (94, false)), [3]⟩,
       ⟨(some 96), (.bin .neq), [.t 95, .c (.int .i64 0)], (some (94, false)), [4, 3]⟩,
       ⟨(some 97), .pick, [.t 94, .c (.bool true), .t 96], none, [3, 5]⟩] false)
     (.cond (.t 97)
      (.seq
       (.region [⟨(some 6), .mov, [.c (.bool false)], none, []⟩] false)
       .ret)
      .skip))
    (.seq
     (.region [⟨(some 99), (.load true 2), [.t 3], none, []⟩,
       ⟨(some 100), .movv, [.t 1], none, []⟩,
       ⟨(some 101), (.load true 5), [.t 5], none, []⟩,
       ⟨(some 102), .call, [.f 63, .t 99, .t 100, .t 101], none, [0, 1, 2]⟩,
       ⟨(some 98), .mov, [.t 102], none, [3]⟩,
       ⟨(some 103), (.ext 0), [.t 98], none, [4]⟩,
       ⟨(some 104), (.ext 1), [.t 98], none, [4]⟩,
       ⟨(some 12), .mov, [.t 103], none, [5, 3, 0, 1, 2, 3, 4, 5]⟩,
       ⟨(some 13), .mov, [.t 104], none, [6, 7, 0, 1, 2, 3, 4, 5, 6, 7]⟩] false)
     (.seq
      (.region [⟨(some 105), .mov, [.t 13], none, []⟩,
        ⟨(some 106), .mov, [.t 105], none, [0]⟩,
        ⟨(some 107), .mov, [.t 8], (some (106, true)), [1]⟩,
        ⟨(some 108), (.bin .neq), [.t 107, .c (.int .i64 0)], (some (106, true)), [2, 1]⟩,
        ⟨(some 109), .mov, [.t 108], (some (106, true)), [3, 1, 1]⟩,
        ⟨(some 110), .mov, [.t 7], (some (109, false)), [4]⟩,
        ⟨(some 111), .mov, [.t 12], (some (109, false)), [4]⟩,
        ⟨(some 112), (.bin .neq), [.t 110, .t 111], (some (109, false)), [5, 6, 4]⟩,
        ⟨(some 113), .pick, [.t 109, .c (.bool true), .t 112], (some (106, true)), [4, 7, 1]⟩,
        ⟨(some 114), .pick, [.t 106, .t 113, .c (.bool false)], none, [1, 8]⟩,
        ⟨(some 115), .mov, [.t 114], none, [9, 4]⟩,
        ⟨(some 116), .mov, [.t 13], (some (115, false)), [10]⟩,
        ⟨(some 117), (.un .not), [.t 116], (some (115, false)), [11, 10]⟩,
        ⟨(some 118), .mov, [.t 117], (some (115, false)), [12, 10, 10]⟩,
        ⟨(some 119), .mov, [.t 8], (some (118, true)), [13]⟩,
        ⟨(some 120), (.bin .neq), [.t 119, .c (.int .i64 12)], (some (118, true)), [14, 13]⟩,
        ⟨(some 121), .mov, [.t 120], (some (118, true)), [15, 13, 13]⟩,
        ⟨(some 122), .mov, [.t 7], (some (121, false)), [16]⟩,
        ⟨(some 123), (.bin .neq), [.t 122, .c (.int .i64 0)], (some (121, false)), [17, 16]⟩,
        ⟨(some 124), .pick, [.t 121, .c (.bool true), .t 123], (some (118, true)), [16, 18, 13]⟩,
        ⟨(some 125), .pick, [.t 118, .t 124, .c (.bool false)], (some (115, false)), [13, 19, 10]⟩,
        ⟨(some 126), .pick, [.t 115, .c (.bool true), .t 125], none, [10, 20]⟩] false)
      (.cond (.t 126)
       (.seq
        (.region [⟨(some 6), .mov, [.c (.bool false)], none, []⟩] false)
        .ret)
       .skip)))))
  (.keep [3, 5, 9, 10] [3, 5] b10k2))
def b10k4 : DCode :=
 (.seq
  (.seq
   (.region [⟨(some 83), .movv, [.t 1], none, []⟩,
     ⟨(some 84), .call, [.f 38, .t 83], none, [0]⟩,
     ⟨(some 11), .mov, [.t 84], none, [1, 1, 0, 1]⟩] false)
   (.seq
    (.region [⟨(some 85), .mov, [.t 11], none, []⟩,
      ⟨(some 86), (.bin .eql), [.t 85, .c (.int .i64 0)], none, [0]⟩] false)
    (.cond (.t 86)
     (.region [⟨(some 87), (.load true 5), [.t 5], none, []⟩,
       ⟨(some 88), .call, [.f 55, .t 87], none, [0]⟩,
       ⟨(some 11), .mov, [.t 88], none, [1, 1, 0, 1]⟩] false)
     .skip)))
  (.keep [1, 3, 5, 7, 8, 9, 10, 11] [3, 5] b10k3))
def b10k5 : DCode :=
 (.seq
  (.region [⟨(some 47), (.load true 2), [.t 3], none, []⟩,
    ⟨(some 48), .call, [.f 22, .t 47], none, [0]⟩,
    ⟨(some 49), .movv, [.t 1], none, []⟩,
    ⟨(some 50), .call, [.f 24, .t 49], none, [2, 1]⟩,
    ⟨(some 51), (.load true 5), [.t 5], none, []⟩,
    ⟨(some 52), .call, [.f 62, .t 48, .t 50, .t 51], none, [1, 3, 4, 3]⟩,
    ⟨(some 46), .mov, [.t 52], none, [5]⟩,
    ⟨(some 53), (.ext 0), [.t 46], none, [6]⟩,
    ⟨(some 54), (.ext 1), [.t 46], none, [6]⟩,
    ⟨(some 7), .mov, [.t 53], none, [7, 5, 0, 1, 2, 3, 4, 5, 6, 7]⟩,
    ⟨(some 8), .mov, [.t 54], none, [8, 9, 0, 1, 2, 3, 4, 5, 6, 7, 8, 9]⟩] true)
  (.seq
   (.region [⟨(some 56), (.load true 2), [.t 3], none, []⟩,
     ⟨(some 57), .call, [.f 22, .t 56], none, [0]⟩,
     ⟨(some 58), (.load true 5), [.t 5], none, []⟩,
     ⟨(some 59), .call, [.f 56, .t 57, .t 58], none, [1, 2, 1]⟩,
     ⟨(some 55), .mov, [.t 59], none, [3]⟩,
     ⟨(some 60), (.ext 0), [.t 55], none, [4]⟩,
     ⟨(some 61), (.ext 1), [.t 55], none, [4]⟩,
     ⟨(some 9), .movv, [.t 60], none, [5, 3, 0, 1, 2, 3, 4, 5]⟩,
     ⟨(some 10), .mov, [.t 61], none, [6, 7, 0, 1, 2, 3, 4, 5, 6, 7]⟩] true)
   (.seq
    (.region [⟨(some 62), (.load true 2), [.t 3], none, []⟩,
      ⟨(some 63), .call, [.f 37, .t 62], none, [0]⟩,
      ⟨(some 11), .mov, [.t 63], none, [1, 1, 0, 1]⟩] false)
    (.seq
     (.seq
      (.region [⟨(some 64), .mov, [.t 11], none, []⟩,
        ⟨(some 65), (.bin .neq), [.t 64, .c (.int .i64 0)], none, [0]⟩] false)
      (.cond (.t 65)
       (.seq
        (.region [⟨(some 66), .mov, [.t 8], none, []⟩,
          ⟨(some 67), .mov, [.t 11], none, []⟩,
          ⟨(some 68), (.bin .eql), [.t 66, .t 67], none, [0, 1]⟩,
          ⟨(some 69), .mov, [.t 68], none, [2]⟩,
          ⟨(some 70), .mov, [.t 10], (some (69, true)), [3]⟩,
          ⟨(some 71), .mov, [.t 11], (some (69, true)), [3]⟩,
          ⟨(some 72), (.bin .eql), [.t 70, .t 71], (some (69, true)), [4, 5, 3]⟩,
          ⟨(some 73), .pick, [.t 69, .t 72, .c (.bool false)], none, [3, 6]⟩,
          ⟨(some 74), .mov, [.t 73], none, [7, 3]⟩,
          ⟨(some 75), .mov, [.t 7], (some (74, true)), [8]⟩,
          ⟨(some 76), (.bin .eql), [.t 75, .c (.int .i64 0)], (some (74, true)), [9, 8]⟩,
          ⟨(some 77), .pick, [.t 74, .t 76, .c (.bool false)], none, [8, 10]⟩,
          ⟨(some 78), .mov, [.t 77], none, [11, 8]⟩,
          ⟨(some 79), .movv, [.t 9], (some (78, true)), [12]⟩,
          ⟨(some 80), .len, [.t 79], (some (78, true)), [13, 12]⟩,
          ⟨(some 81), (.bin .eql), [.t 80, .c (.int .i64 0)], (some (78, true)), [14, 12]⟩,
          ⟨(some 82), .pick, [.t 78, .t 81, .c (.bool false)], none, [12, 15]⟩,
          ⟨(some 6), .mov, [.t 82], none, [16, 12, 0, 1, 2, 3, 4, 5, 6, 7, 8, 9, 10, 11, 12, 13, 14, 15, 16]⟩] false)
        .ret)
       .skip))
     (.keep [1, 3, 5, 7, 8, 9, 10] [3, 5] b10k4)))))
def b10k6 : DCode :=
 (.seq
  (.seq
   (.region [⟨(some 18), (.load true 2), [.t 3], none, []⟩,
     ⟨(some 19), .call, [.f 18, .t 18], none, [0]⟩,
     ⟨(some 20), (.un .not), [.t 19], none, [1]⟩,
     ⟨(some 21), .mov, [.t 20], none, [2, 1]⟩,
     ⟨(some 22), .movv, [.t 1], (some (21, false)), [3]⟩,
     ⟨(some 23), .len, [.t 22], (some (21, false)), [4, 3]⟩,
     ⟨(some 24), (.bin .gtr), [.t 23, .c (.int .i64 70)], (some (21, false)), [5, 3]⟩,
     ⟨(some 25), .pick, [.t 21, .c (.bool true), .t 24], none, [3, 6]⟩,
     ⟨(some 26), .mov, [.t 25], none, [7, 3]⟩,
     ⟨(some 27), (.load true 5), [.t 5], (some (26, false)), [8]⟩,
     ⟨(some 28), .call, [.f 55, .t 27], (some (26, false)), [9, 8, 8]⟩,
     ⟨(some 29), (.bin .eql), [.t 28, .c (.int .i64 0)], (some (26, false)), [10, 8]⟩,
     ⟨(some 30), .mov, [.t 29], (some (26, false)), [11, 10, 8]⟩,
     ⟨(some 31), (.faddr 2 false 1), [.t 5], (some (30, true)), [12]⟩,
     ⟨(some 32), (.load false 1), [.t 31], (some (30, true)), [13, 12]⟩,
     ⟨(some 33), (.bin .gtr), [.t 32, .c (.int .i64 40)], (some (30, true)), [14, 12]⟩,
     ⟨(some 34), .mov, [.t 33], (some (30, true)), [15, 12, 12]⟩,
     ⟨(some 35), (.faddr 0 false 1), [.t 5], (some (34, false)), [16]⟩,
     ⟨(some 36), (.load false 1), [.t 35], (some (34, false)), [17, 16]⟩,
     ⟨(some 37), (.bin .gtr), [.t 36, .c (.int .i64 4)], (some (34, false)), [18, 16]⟩,
     ⟨(some 38), .pick, [.t 34, .c (.bool true), .t 37], (some (30, true)), [16, 19, 12]⟩,
     ⟨(some 39), .mov, [.t 38], (some (30, true)), [20, 16, 12]⟩,
     ⟨(some 40), (.faddr 1 false 1), [.t 5], (some (39, false)), [21]⟩,
     ⟨(some 41), (.load false 1), [.t 40], (some (39, false)), [22, 21]⟩,
     ⟨(some 42), (.bin .gtr), [.t 41, .c (.int .i64 6)], (some (39, false)), [23, 21]⟩,
     ⟨(some 43), .pick, [.t 39, .c (.bool true), .t 42], (some (30, true)), [21, 24, 12]⟩,
     ⟨(some 44), .pick, [.t 30, .t 43, .c (.bool false)], (some (26, false)), [12, 25, 8]⟩,
     ⟨(some 45), .pick, [.t 26, .c (.bool true), .t 44], none, [8, 26]⟩] false)
   (.cond (.t 45)
    (.seq
     (.region [⟨(some 6), .mov, [.c (.bool true)], none, []⟩] false)
     .ret)
    .skip))
  (.keep [1, 3, 5] [3, 5] b10k5))
def b10 : DCode :=
 (.seq
  (.region [⟨(some 3), .box, [.t 0], none, []⟩,
    ⟨(some 5), .box, [.t 2], none, []⟩,
    ⟨(some 6), .mov, [.c (.bool false)], none, []⟩] false)
  (.seq
   (.seq
    (.region [⟨(some 16), .call, [.f 17], none, []⟩,
      ⟨(some 17), (.un .not), [.t 16], none, [0]⟩] false)
    (.cond (.t 17)
     (.seq
      (.region [⟨(some 6), .mov, [.c (.bool false)], none, []⟩] false)
      .ret)
     .skip))
   (.keep [1, 3, 5] [3, 5] b10k6)))
def d10 : DFn := ⟨3, 161, [.tmp 6], b10⟩
theorem body10 : d10.body = b10 := rfl
theorem res10 : d10.res = [.tmp 6] := rfl
theorem k10 : chkFn Try.prog Try.f10 d10 = true := by kernel_rfl

/-- guidevane/guidevanelaw03.WaveEveryLaw -/
def b5k0 : DCode :=
 (.seq
  (.region [⟨(some 87), .mov, [.t 10], none, []⟩,
    ⟨(some 88), .mov, [.t 9], none, []⟩,
    ⟨(some 89), (.bin .geq), [.t 87, .t 88], none, [0, 1]⟩,
    ⟨(some 90), .mov, [.t 89], none, [2]⟩,
    ⟨(some 91), .movv, [.t 7], (some (90, true)), [3]⟩,
    ⟨(some 92), .mov, [.t 10], (some (90, true)), [3]⟩,
    ⟨(some 93), (.iaddr 1), [.t 91, .t 92], (some (90, true)), [4, 5, 3]⟩,
    ⟨(some 94), (.load false 1), [.t 93], (some (90, true)), [6, 3]⟩,
    ⟨(some 95), .movv, [.t 7], (some (90, true)), [3]⟩,
    ⟨(some 96), .mov, [.t 10], (some (90, true)), [3]⟩,
    ⟨(some 97), .mov, [.t 9], (some (90, true)), [3]⟩,
    ⟨(some 98), (.bin .sub), [.t 96, .t 97], (some (90, true)), [9, 10, 3]⟩,
    ⟨(some 99), (.iaddr 1), [.t 95, .t 98], (some (90, true)), [8, 11, 3]⟩,
    ⟨(some 100), (.load false 1), [.t 99], (some (90, true)), [12, 3]⟩,
    ⟨(some 101), (.bin .add), [.t 94, .t 100], (some (90, true)), [7, 13, 3]⟩,
    ⟨(some 102), .mov, [.t 11], (some (90, true)), [3]⟩,
    ⟨(some 103), .movv, [.t 1], (some (90, true)), [3]⟩,
    ⟨(some 104), .mov, [.t 10], (some (90, true)), [3]⟩,
    ⟨(some 105), .mov, [.t 9], (some (90, true)), [3]⟩,
    ⟨(some 106), (.bin .sub), [.t 104, .t 105], (some (90, true)), [17, 18, 3]⟩,
    ⟨(some 107), .call, [.f 41, .t 103, .t 106], (some (90, true)), [16, 19, 3, 3]⟩,
    ⟨(some 108), (.bin .sub), [.t 102, .t 107], (some (90, true)), [15, 20, 3]⟩,
    ⟨(some 109), (.bin .neq), [.t 101, .t 108], (some (90, true)), [14, 21, 3]⟩,
    ⟨(some 110), .pick, [.t 90, .t 109, .c (.bool false)], none, [3, 22]⟩] true)
  (.cond (.t 110)
   (.seq
    (.region [⟨(some 6), .mov, [.c (.bool false)], none, []⟩] false)
    .ret)
   .skip))
def b5k1 : DCode :=
 (.region [⟨(some 60), .mov, [.t 10], none, []⟩,
   ⟨(some 61), (.bin .add), [.t 60, .c (.int .i64 1)], none, [0]⟩,
   ⟨(some 10), .mov, [.t 61], none, [1, 0, 1]⟩] false)
def b5k2 : DCode :=
 (.seq
  (.block 1
   (.seq
    (.region [⟨(some 62), .movv, [.t 1], none, []⟩,
      ⟨(some 63), .mov, [.t 10], none, []⟩,
      ⟨(some 64), .call, [.f 41, .t 62, .t 63], none, [0, 1]⟩,
      ⟨(some 11), .mov, [.t 64], none, [2, 2, 0, 1, 2]⟩] false)
    (.seq
     (.seq
      (.region [⟨(some 65), .movv, [.t 7], none, []⟩,
        ⟨(some 66), .mov, [.t 10], none, []⟩,
        ⟨(some 67), (.iaddr 1), [.t 65, .t 66], none, [0, 1]⟩,
        ⟨(some 68), (.load false 1), [.t 67], none, [2]⟩,
        ⟨(some 69), .mov, [.t 11], none, []⟩,
        ⟨(some 70), (.un .neg), [.t 69], none, [4]⟩,
        ⟨(some 71), .mov, [.t 11], none, []⟩,
        ⟨(some 72), .call, [.f 34, .t 68, .t 70, .t 71], none, [3, 5, 6]⟩,
        ⟨(some 73), (.un .not), [.t 72], none, [7]⟩,
        ⟨(some 74), .mov, [.t 73], none, [8, 7]⟩,
        ⟨(some 75), .mov, [.t 10], (some (74, false)), [9]⟩,
        ⟨(some 76), .mov, [.t 9], (some (74, false)), [9]⟩,
        ⟨(some 77), (.bin .lss), [.t 75, .t 76], (some (74, false)), [10, 11, 9]⟩,
        ⟨(some 78), .mov, [.t 77], (some (74, false)), [12, 9, 9]⟩,
        ⟨(some 79), .movv, [.t 7], (some (78, true)), [13]⟩,
        ⟨(some 80), .mov, [.t 10], (some (78, true)), [13]⟩,
        ⟨(some 81), (.iaddr 1), [.t 79, .t 80], (some (78, true)), [14, 15, 13]⟩,
        ⟨(some 82), (.load false 1), [.t 81], (some (78, true)), [16, 13]⟩,
        ⟨(some 83), .mov, [.t 11], (some (78, true)), [13]⟩,
        ⟨(some 84), (.bin .neq), [.t 82, .t 83], (some (78, true)), [17, 18, 13]⟩,
        ⟨(some 85), .pick, [.t 78, .t 84, .c (.bool false)], (some (74, false)), [13, 19, 9]⟩,
        ⟨(some 86), .pick, [.t 74, .c (.bool true), .t 85], none, [9, 20]⟩] false)
      (.cond (.t 86)
       (.seq
        (.region [⟨(some 6), .mov, [.c (.bool false)], none, []⟩] false)
        .ret)
       .skip))
     (.keep [1, 2, 7, 9, 10, 11] [] b5k0))))
  (.keep [1, 2, 7, 9, 10] [] b5k1))
def b5l0 : DCode := .keep [1, 2, 7, 9, 10] []
  (.seq
   (.seq
    (.region [⟨(some 57), .mov, [.t 10], none, []⟩,
      ⟨(some 58), .mov, [.t 2], none, []⟩,
      ⟨(some 59), (.bin .lss), [.t 57, .t 58], none, [0, 1]⟩] false)
    (.cond (.t 59)
     .skip
     (.exit 0)))
   (.keep [1, 2, 7, 9, 10] [] b5k2))
def b5k3 : DCode :=
 (.seq
  (.region [⟨(some 6), .mov, [.c (.bool true)], none, []⟩] false)
  .ret)
def b5k4 : DCode :=
 (.seq
  (.region [⟨(some 54), (.load true 2), [.t 3], none, []⟩,
    ⟨(some 55), .call, [.f 40, .t 54], none, [0]⟩,
    ⟨(some 56), (.bin .mul), [.c (.int .i64 2), .t 55], none, [1]⟩,
    ⟨(some 9), .mov, [.t 56], none, [2, 1, 0, 1, 2]⟩] false)
  (.seq
   (.seq
    (.region [⟨(some 10), .mov, [.c (.int .i64 0)], none, []⟩] false)
    (.block 0
     (.loop b5l0)))
   (.keep [] [] b5k3)))
def b5k5 : DCode :=
 (.seq
  (.region [⟨(some 38), (.load true 2), [.t 3], none, []⟩,
    ⟨(some 39), .call, [.f 22, .t 38], none, [0]⟩,
    ⟨(some 40), .movv, [.t 1], none, []⟩,
    ⟨(some 41), .call, [.f 24, .t 40], none, [2, 1]⟩,
    ⟨(some 42), .mov, [.t 2], none, []⟩,
    ⟨(some 43), .call, [.f 39, .t 39, .t 41, .t 42], none, [1, 3, 4, 3]⟩,
    ⟨(some 37), .mov, [.t 43], none, [5]⟩,
    ⟨(some 44), (.ext 0), [.t 37], none, [6]⟩,
    ⟨(some 45), (.ext 1), [.t 37], none, [6]⟩,
    ⟨(some 7), .movv, [.t 44], none, [7, 5, 0, 1, 2, 3, 4, 5, 6, 7]⟩,
    ⟨(some 8), .mov, [.t 45], none, [8, 9, 0, 1, 2, 3, 4, 5, 6, 7, 8, 9]⟩] false)
  (.seq
   (.seq
    (.region [⟨(some 46), .mov, [.t 8], none, []⟩,
      ⟨(some 47), (.bin .neq), [.t 46, .c (.int .i64 0)], none, [0]⟩,
      ⟨(some 48), .mov, [.t 47], none, [1]⟩,
      ⟨(some 49), .movv, [.t 7], (some (48, false)), [2]⟩,
      ⟨(some 50), .len, [.t 49], (some (48, false)), [3, 2]⟩,
      ⟨(some 51), .mov, [.t 2], (some (48, false)), [2]⟩,
      ⟨(some 52), (.bin .neq), [.t 50, .t 51], (some (48, false)), [4, 5, 2]⟩,
      ⟨(some 53), .pick, [.t 48, .c (.bool true), .t 52], none, [2, 6]⟩] false)
    (.cond (.t 53)
     (.seq
      (.region [⟨(some 6), .mov, [.c (.bool false)], none, []⟩] false)
      .ret)
     .skip))
   (.keep [1, 2, 3, 7] [3] b5k4)))
def b5k6 : DCode :=
 (.seq
  (.seq
   (.region [⟨(some 14), (.load true 2), [.t 3], none, []⟩,
     ⟨(some 15), .call, [.f 18, .t 14], none, [0]⟩,
     ⟨(some 16), (.un .not), [.t 15], none, [1]⟩,
     ⟨(some 17), .mov, [.t 16], none, [2, 1]⟩,
     ⟨(some 18), (.load true 2), [.t 3], (some (17, false)), [3]⟩,
     ⟨(some 19), .call, [.f 37, .t 18], (some (17, false)), [4, 3, 3]⟩,
     ⟨(some 20), (.bin .neq), [.t 19, .c (.int .i64 0)], (some (17, false)), [5, 3]⟩,
     ⟨(some 21), .pick, [.t 17, .c (.bool true), .t 20], none, [3, 6]⟩,
     ⟨(some 22), .mov, [.t 21], none, [7, 5]⟩,
     ⟨(some 23), (.load true 2), [.t 3], (some (22, false)), [8]⟩,
     ⟨(some 24), .call, [.f 32, .t 23], (some (22, false)), [9, 8, 8]⟩,
     ⟨(some 25), (.un .not), [.t 24], (some (22, false)), [10, 8]⟩,
     ⟨(some 26), .pick, [.t 22, .c (.bool true), .t 25], none, [8, 11]⟩,
     ⟨(some 27), .mov, [.t 26], none, [12, 10]⟩,
     ⟨(some 28), .movv, [.t 1], (some (27, false)), [13]⟩,
     ⟨(some 29), .call, [.f 38, .t 28], (some (27, false)), [14, 13, 13]⟩,
     ⟨(some 30), (.bin .neq), [.t 29, .c (.int .i64 0)], (some (27, false)), [15, 13]⟩,
     ⟨(some 31), .pick, [.t 27, .c (.bool true), .t 30], none, [13, 16]⟩,
     ⟨(some 32), .mov, [.t 31], none, [17, 15]⟩,
     ⟨(some 33), .mov, [.t 2], (some (32, false)), [18]⟩,
     ⟨(some 34), .call, [.f 34, .t 33, .c (.int .i64 1), .c (.int .i64 60)], (some (32, false)), [19, 18, 18]⟩,
     ⟨(some 35), (.un .not), [.t 34], (some (32, false)), [20, 18]⟩,
     ⟨(some 36), .pick, [.t 32, .c (.bool true), .t 35], none, [18, 21]⟩] false)
   (.cond (.t 36)
    (.seq
     (.region [⟨(some 6), .mov, [.c (.bool true)], none, []⟩] false)
     .ret)
    .skip))
  (.keep [1, 2, 3] [3] b5k5))
def b5 : DCode :=
 (.seq
  (.region [⟨(some 3), .box, [.t 0], none, []⟩,
    ⟨(some 6), .mov, [.c (.bool false)], none, []⟩] false)
  (.seq
   (.seq
    (.region [⟨(some 12), .call, [.f 17], none, []⟩,
      ⟨(some 13), (.un .not), [.t 12], none, [0]⟩] false)
    (.cond (.t 13)
     (.seq
      (.region [⟨(some 6), .mov, [.c (.bool false)], none, []⟩] false)
      .ret)
     .skip))
   (.keep [1, 2, 3] [3] b5k6)))
def d5 : DFn := ⟨3, 111, [.tmp 6], b5⟩
theorem k5 : chkFn Try.prog Try.f5 d5 = true := by kernel_rfl

end Go.DI

