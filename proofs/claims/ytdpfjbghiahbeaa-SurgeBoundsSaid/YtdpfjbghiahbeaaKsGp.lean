/- Contracts of bounds and waits. No condition. -/
import Derived.Test.YtdpfjbghiahbeaaKsGo
/- The reference's functions of bounds and waits, as data. No condition. -/
namespace Go.DI
open Go.Proofs Go.RowKit
/-- guidevane/guidevaneref04.Bound -/
def b75k0 : DCode :=
 (.region [⟨(some 54), (.faddr 0 false 1), [.t 8], none, []⟩,
   ⟨(some 55), (.load false 1), [.t 54], none, [0]⟩,
   ⟨(some 56), .movv, [.t 13], none, []⟩,
   ⟨(some 57), .mov, [.t 14], none, []⟩,
   ⟨(some 58), (.iaddr 4), [.t 56, .t 57], none, [2, 3]⟩,
   ⟨(some 59), (.faddr 0 true 2), [.t 58], none, [4]⟩,
   ⟨(some 60), (.faddr 0 false 1), [.t 59], none, [5]⟩,
   ⟨(some 61), (.load false 1), [.t 60], none, [6]⟩,
   ⟨(some 62), (.mm false), [.t 55, .t 61], none, [1, 7]⟩,
   ⟨(some 63), (.faddr 1 false 1), [.t 8], none, []⟩,
   ⟨(some 64), (.load false 1), [.t 63], none, [9]⟩,
   ⟨(some 65), .movv, [.t 13], none, []⟩,
   ⟨(some 66), .mov, [.t 14], none, []⟩,
   ⟨(some 67), (.iaddr 4), [.t 65, .t 66], none, [11, 12]⟩,
   ⟨(some 68), (.faddr 0 true 2), [.t 67], none, [13]⟩,
   ⟨(some 69), (.faddr 1 false 1), [.t 68], none, [14]⟩,
   ⟨(some 70), (.load false 1), [.t 69], none, [15]⟩,
   ⟨(some 71), (.mm true), [.t 64, .t 70], none, [10, 16]⟩,
   ⟨(some 72), (.build [(.imm (.int .i64 0)), (.imm (.int .i64 0))] [(0, 1), (1, 1)]), [.t 62, .t 71], none, [8, 17]⟩,
   ⟨none, (.store 2), [.t 8, .t 72], none, [18, 0, 1, 2, 3, 4, 5, 6, 7, 8, 9, 10, 11, 12, 13, 14, 15, 16, 17, 18]⟩] true)
def b75k1 : DCode :=
 (.region [⟨(some 45), .mov, [.t 14], none, []⟩,
   ⟨(some 46), (.bin .add), [.t 45, .c (.int .i64 1)], none, [0]⟩,
   ⟨(some 14), .mov, [.t 46], none, [1, 0, 1]⟩] false)
def b75k2 : DCode :=
 (.seq
  (.block 5
   (.seq
    (.seq
     (.region [⟨(some 47), .mov, [.t 9], none, []⟩,
       ⟨(some 48), (.un .not), [.t 47], none, [0]⟩] false)
     (.cond (.t 48)
      (.region [⟨(some 49), .movv, [.t 13], none, []⟩,
        ⟨(some 50), .mov, [.t 14], none, []⟩,
        ⟨(some 51), (.iaddr 4), [.t 49, .t 50], none, [0, 1]⟩,
        ⟨(some 52), (.faddr 0 true 2), [.t 51], none, [2]⟩,
        ⟨(some 53), (.load true 2), [.t 52], none, [3]⟩,
        ⟨none, (.store 2), [.t 8, .t 53], none, [4, 0, 1, 2, 3, 4]⟩,
        ⟨(some 9), .mov, [.c (.bool true)], none, [5, 0, 1, 2, 3, 4, 5]⟩] false)
      .skip))
    (.keep [2, 3, 4, 6, 8, 9, 10, 11, 12, 13, 14] [3, 4, 6, 8] b75k0)))
  (.keep [2, 3, 4, 6, 8, 9, 10, 11, 12, 13, 14] [3, 4, 6, 8] b75k1))
def b75l0 : DCode := .keep [2, 3, 4, 6, 8, 9, 10, 11, 12, 13, 14] [3, 4, 6, 8]
  (.seq
   (.seq
    (.region [⟨(some 41), .mov, [.t 14], none, []⟩,
      ⟨(some 42), .movv, [.t 13], none, []⟩,
      ⟨(some 43), .len, [.t 42], none, [1]⟩,
      ⟨(some 44), (.bin .lss), [.t 41, .t 43], none, [0, 2]⟩] false)
    (.cond (.t 44)
     .skip
     (.exit 4)))
   (.keep [2, 3, 4, 6, 8, 9, 10, 11, 12, 13, 14] [3, 4, 6, 8] b75k2))
def b75k3 : DCode :=
 (.region [⟨(some 27), .mov, [.t 12], none, []⟩,
   ⟨(some 28), (.bin .add), [.t 27, .c (.int .i64 1)], none, [0]⟩,
   ⟨(some 12), .mov, [.t 28], none, [1, 0, 1]⟩] false)
def b75k4 : DCode :=
 (.seq
  (.block 3
   (.seq
    (.region [⟨(some 29), (.load true 5), [.t 3], none, []⟩,
      ⟨(some 30), .movv, [.t 2], none, []⟩,
      ⟨(some 31), .mov, [.t 12], none, []⟩,
      ⟨(some 32), (.iaddr 4), [.t 30, .t 31], none, [1, 2]⟩,
      ⟨(some 33), (.load true 4), [.t 32], none, [3]⟩,
      ⟨(some 34), (.load true 4), [.t 4], none, []⟩,
      ⟨(some 35), .movv, [.t 10], none, []⟩,
      ⟨(some 36), .mov, [.t 11], none, []⟩,
      ⟨(some 37), (.iaddr 1), [.t 35, .t 36], none, [6, 7]⟩,
      ⟨(some 38), (.load false 1), [.t 37], none, [8]⟩,
      ⟨(some 39), .call, [.f 48, .t 34, .t 38], none, [5, 9]⟩,
      ⟨(some 40), .call, [.f 58, .t 29, .t 33, .t 39], none, [0, 4, 10, 10]⟩,
      ⟨(some 13), .movv, [.t 40], none, [11, 11, 0, 1, 2, 3, 4, 5, 6, 7, 8, 9, 10, 11]⟩] true)
    (.seq
     (.region [⟨(some 14), .mov, [.c (.int .i64 0)], none, []⟩] false)
     (.block 4
      (.loop b75l0)))))
  (.keep [2, 3, 4, 6, 8, 9, 10, 11, 12] [3, 4, 6, 8] b75k3))
def b75l1 : DCode := .keep [2, 3, 4, 6, 8, 9, 10, 11, 12] [3, 4, 6, 8]
  (.seq
   (.seq
    (.region [⟨(some 23), .mov, [.t 12], none, []⟩,
      ⟨(some 24), .movv, [.t 2], none, []⟩,
      ⟨(some 25), .len, [.t 24], none, [1]⟩,
      ⟨(some 26), (.bin .lss), [.t 23, .t 25], none, [0, 2]⟩] false)
    (.cond (.t 26)
     .skip
     (.exit 2)))
   (.keep [2, 3, 4, 6, 8, 9, 10, 11, 12] [3, 4, 6, 8] b75k4))
def b75k5 : DCode :=
 (.region [⟨(some 21), .mov, [.t 11], none, []⟩,
   ⟨(some 22), (.bin .add), [.t 21, .c (.int .i64 1)], none, [0]⟩,
   ⟨(some 11), .mov, [.t 22], none, [1, 0, 1]⟩] false)
def b75k6 : DCode :=
 (.seq
  (.block 1
   (.seq
    (.region [⟨(some 12), .mov, [.c (.int .i64 0)], none, []⟩] false)
    (.block 2
     (.loop b75l1))))
  (.keep [2, 3, 4, 6, 8, 9, 10, 11] [3, 4, 6, 8] b75k5))
def b75l2 : DCode := .keep [2, 3, 4, 6, 8, 9, 10, 11] [3, 4, 6, 8]
  (.seq
   (.seq
    (.region [⟨(some 17), .mov, [.t 11], none, []⟩,
      ⟨(some 18), .movv, [.t 10], none, []⟩,
      ⟨(some 19), .len, [.t 18], none, [1]⟩,
      ⟨(some 20), (.bin .lss), [.t 17, .t 19], none, [0, 2]⟩] false)
    (.cond (.t 20)
     .skip
     (.exit 0)))
   (.keep [2, 3, 4, 6, 8, 9, 10, 11] [3, 4, 6, 8] b75k6))
def b75k7 : DCode :=
 (.seq
  (.region [⟨(some 73), (.load true 2), [.t 8], none, []⟩,
    ⟨(some 74), .mov, [.t 9], none, []⟩,
    ⟨none, (.store 2), [.t 6, .t 73], none, [0, 0]⟩,
    ⟨(some 7), .mov, [.t 74], none, [1, 2, 0, 1, 2]⟩] false)
  .ret)
def b75 : DCode :=
 (.seq
  (.region [⟨(some 3), .box, [.t 0], none, []⟩,
    ⟨(some 4), .box, [.t 1], none, []⟩,
    ⟨(some 6), (.alloc [(.imm (.int .i64 0)), (.imm (.int .i64 0))]), [], none, []⟩,
    ⟨(some 7), .mov, [.c (.bool false)], none, []⟩] false)
  (.seq
   (.region [⟨(some 8), (.alloc [(.imm (.int .i64 0)), (.imm (.int .i64 0))]), [], none, []⟩] false)
   (.seq
    (.region [⟨(some 9), .mov, [.c (.bool false)], none, []⟩] false)
    (.seq
     (.region [⟨(some 15), (.load true 4), [.t 4], none, []⟩,
       ⟨(some 16), .call, [.f 45, .t 15], none, [0]⟩,
       ⟨(some 10), .movv, [.t 16], none, [1, 1, 0, 1]⟩] false)
     (.seq
      (.seq
       (.region [⟨(some 11), .mov, [.c (.int .i64 0)], none, []⟩] false)
       (.block 0
        (.loop b75l2)))
      (.keep [6, 8, 9] [6, 8] b75k7))))))
def d75 : DFn := ⟨3, 75, [.cell 6 true 2, .tmp 7], b75⟩
theorem body75 : d75.body = b75 := rfl
theorem res75 : d75.res = [.cell 6 true 2, .tmp 7] := rfl
theorem k75 : chkFn Try.prog Try.f75 d75 = true := by kernel_rfl

/-- guidevane/guidevaneref04.Shortest -/
def b78k0 : DCode :=
 (.region [⟨(some 14), .mov, [.t 8], none, []⟩,
   ⟨(some 15), (.bin .add), [.t 14, .c (.int .i64 1)], none, [0]⟩,
   ⟨(some 8), .mov, [.t 15], none, [1, 0, 1]⟩] false)
def b78k1 : DCode :=
 (.seq
  (.block 1
   (.seq
    (.region [⟨(some 16), (.load true 4), [.t 4], none, []⟩,
      ⟨(some 17), .call, [.f 31, .t 16], none, [0]⟩,
      ⟨(some 9), (.alloc [(.imm (.int .i64 0)), (.imm (.slc 1 [])), (.imm (.int .i64 0)), (.imm (.int .i64 0))]), [], none, []⟩,
      ⟨none, (.store 4), [.t 9, .t 17], none, [2, 1, 1, 0, 1, 2]⟩] false)
    (.seq
     (.region [⟨(some 18), .mov, [.t 8], none, []⟩,
       ⟨(some 19), (.faddr 2 false 1), [.t 9], none, [0]⟩,
       ⟨none, (.store 1), [.t 19, .t 18], none, [1, 0, 0]⟩] false)
     (.seq
      (.region [⟨(some 21), (.load true 5), [.t 3], none, []⟩,
        ⟨(some 22), (.load true 4), [.t 9], none, []⟩,
        ⟨(some 23), (.load true 7), [.t 5], none, []⟩,
        ⟨(some 24), .call, [.f 82, .t 23], none, [2]⟩,
        ⟨(some 25), .call, [.f 75, .t 21, .t 22, .t 24], none, [0, 1, 3, 3]⟩,
        ⟨(some 20), .mov, [.t 25], none, [4]⟩,
        ⟨(some 26), (.ext 0), [.t 20], none, [5]⟩,
        ⟨(some 27), (.ext 1), [.t 20], none, [5]⟩,
        ⟨(some 10), (.alloc [(.imm (.int .i64 0)), (.imm (.int .i64 0))]), [], none, []⟩,
        ⟨none, (.store 2), [.t 10, .t 26], none, [8, 6, 4, 0, 1, 2, 3, 4, 5, 6, 8]⟩,
        ⟨(some 11), .mov, [.t 27], none, [7, 9, 0, 1, 2, 3, 4, 5, 6, 7, 8, 9]⟩] true)
      (.seq
       (.region [⟨(some 28), .mov, [.t 11], none, []⟩,
         ⟨(some 29), .mov, [.t 28], none, [0]⟩,
         ⟨(some 30), (.faddr 0 false 1), [.t 10], (some (29, true)), [1]⟩,
         ⟨(some 31), (.load false 1), [.t 30], (some (29, true)), [2, 1]⟩,
         ⟨(some 32), (.faddr 5 true 2), [.t 5], (some (29, true)), [1]⟩,
         ⟨(some 33), (.faddr 0 false 1), [.t 32], (some (29, true)), [4, 1]⟩,
         ⟨(some 34), (.load false 1), [.t 33], (some (29, true)), [5, 1]⟩,
         ⟨(some 35), (.bin .geq), [.t 31, .t 34], (some (29, true)), [3, 6, 1]⟩,
         ⟨(some 36), .pick, [.t 29, .t 35, .c (.bool false)], none, [1, 7]⟩,
         ⟨(some 37), .mov, [.t 36], none, [8, 1]⟩,
         ⟨(some 38), (.faddr 1 false 1), [.t 10], (some (37, true)), [9]⟩,
         ⟨(some 39), (.load false 1), [.t 38], (some (37, true)), [10, 9]⟩,
         ⟨(some 40), (.faddr 5 true 2), [.t 5], (some (37, true)), [9]⟩,
         ⟨(some 41), (.faddr 1 false 1), [.t 40], (some (37, true)), [12, 9]⟩,
         ⟨(some 42), (.load false 1), [.t 41], (some (37, true)), [13, 9]⟩,
         ⟨(some 43), (.bin .leq), [.t 39, .t 42], (some (37, true)), [11, 14, 9]⟩,
         ⟨(some 44), .pick, [.t 37, .t 43, .c (.bool false)], none, [9, 15]⟩] false)
       (.cond (.t 44)
        (.seq
         (.region [⟨(some 45), .mov, [.t 8], none, []⟩,
           ⟨(some 6), .mov, [.t 45], none, [0, 0]⟩,
           ⟨(some 7), .mov, [.c (.bool true)], none, [1, 0, 1]⟩] false)
         .ret)
        .skip))))))
  (.keep [3, 4, 5, 8] [3, 4, 5] b78k0))
def b78l0 : DCode := .keep [3, 4, 5, 8] [3, 4, 5]
  (.seq
   (.seq
    (.region [⟨(some 12), .mov, [.t 8], none, []⟩,
      ⟨(some 13), (.bin .leq), [.t 12, .c (.int .i64 20)], none, [0]⟩] false)
    (.cond (.t 13)
     .skip
     (.exit 0)))
   (.keep [3, 4, 5, 8] [3, 4, 5] b78k1))
def b78k2 : DCode :=
 (.seq
  (.region [⟨(some 6), .mov, [.c (.int .i64 0)], none, []⟩,
    ⟨(some 7), .mov, [.c (.bool false)], none, [0, 0]⟩] false)
  .ret)
def b78 : DCode :=
 (.seq
  (.region [⟨(some 3), .box, [.t 0], none, []⟩,
    ⟨(some 4), .box, [.t 1], none, []⟩,
    ⟨(some 5), .box, [.t 2], none, []⟩,
    ⟨(some 6), .mov, [.c (.int .i64 0)], none, []⟩,
    ⟨(some 7), .mov, [.c (.bool false)], none, [3]⟩] false)
  (.seq
   (.seq
    (.region [⟨(some 8), .mov, [.c (.int .i64 1)], none, []⟩] false)
    (.block 0
     (.loop b78l0)))
   (.keep [] [] b78k2)))
def d78 : DFn := ⟨3, 46, [.tmp 6, .tmp 7], b78⟩
theorem body78 : d78.body = b78 := rfl
theorem res78 : d78.res = [.tmp 6, .tmp 7] := rfl
theorem k78 : chkFn Try.prog Try.f78 d78 = true := by kernel_rfl

/-- guidevane/guidevanelaw04.SurgeBounds -/
def b11k0 : DCode :=
 (.seq
  (.region [⟨(some 132), (.load true 5), [.t 3], none, []⟩,
    ⟨(some 133), (.load true 4), [.t 4], none, []⟩,
    ⟨(some 134), (.faddr 1 true 7), [.t 5], none, []⟩,
    ⟨(some 135), (.load true 7), [.t 134], none, [2]⟩,
    ⟨(some 136), .call, [.f 78, .t 132, .t 133, .t 135], none, [0, 1, 3]⟩,
    ⟨(some 131), .mov, [.t 136], none, [4]⟩,
    ⟨(some 137), (.ext 0), [.t 131], none, [5]⟩,
    ⟨(some 138), (.ext 1), [.t 131], none, [5]⟩,
    ⟨(some 15), .mov, [.t 137], none, [6, 4, 0, 1, 2, 3, 4, 5, 6]⟩,
    ⟨(some 16), .mov, [.t 138], none, [7, 8, 0, 1, 2, 3, 4, 5, 6, 7, 8]⟩] false)
  (.seq
   (.region [⟨(some 139), .mov, [.t 16], none, []⟩,
     ⟨(some 140), .mov, [.t 139], none, [0]⟩,
     ⟨(some 141), .mov, [.t 14], (some (140, true)), [1]⟩,
     ⟨(some 142), (.bin .eql), [.t 141, .c (.int .i64 0)], (some (140, true)), [2, 1]⟩,
     ⟨(some 143), .pick, [.t 140, .t 142, .c (.bool false)], none, [1, 3]⟩,
     ⟨(some 144), .mov, [.t 143], none, [4, 1]⟩,
     ⟨(some 145), .mov, [.t 13], (some (144, true)), [5]⟩,
     ⟨(some 146), .mov, [.t 15], (some (144, true)), [5]⟩,
     ⟨(some 147), (.bin .eql), [.t 145, .t 146], (some (144, true)), [6, 7, 5]⟩,
     ⟨(some 148), .pick, [.t 144, .t 147, .c (.bool false)], none, [5, 8]⟩,
     ⟨(some 149), .mov, [.t 148], none, [9, 5]⟩,
     ⟨(some 150), .mov, [.t 16], (some (149, false)), [10]⟩,
     ⟨(some 151), (.un .not), [.t 150], (some (149, false)), [11, 10]⟩,
     ⟨(some 152), .mov, [.t 151], (some (149, false)), [12, 10, 10]⟩,
     ⟨(some 153), .mov, [.t 14], (some (152, true)), [13]⟩,
     ⟨(some 154), (.bin .eql), [.t 153, .c (.int .i64 12)], (some (152, true)), [14, 13]⟩,
     ⟨(some 155), .pick, [.t 152, .t 154, .c (.bool false)], (some (149, false)), [13, 15, 10]⟩,
     ⟨(some 156), .mov, [.t 155], (some (149, false)), [16, 13, 10]⟩,
     ⟨(some 157), .mov, [.t 13], (some (156, true)), [17]⟩,
     ⟨(some 158), (.bin .eql), [.t 157, .c (.int .i64 0)], (some (156, true)), [18, 17]⟩,
     ⟨(some 159), .pick, [.t 156, .t 158, .c (.bool false)], (some (149, false)), [17, 19, 10]⟩,
     ⟨(some 160), .pick, [.t 149, .c (.bool true), .t 159], none, [10, 20]⟩,
     ⟨(some 6), .mov, [.t 160], none, [21, 17, 0, 1, 2, 3, 4, 5, 6, 7, 8, 9, 10, 11, 12, 13, 14, 15, 16, 17, 18, 19, 20, 21]⟩] false)
   .ret))
def b11k1 : DCode :=
 (.seq
  (.region [⟨(some 114), (.load true 5), [.t 3], none, []⟩,
    ⟨(some 115), (.load true 4), [.t 4], none, []⟩,
    ⟨(some 116), .call, [.f 31, .t 115], none, [1]⟩,
    ⟨(some 117), (.faddr 1 true 7), [.t 5], none, []⟩,
    ⟨(some 118), (.load true 7), [.t 117], none, [3]⟩,
    ⟨(some 119), .call, [.f 77, .t 114, .t 116, .t 118], none, [0, 2, 4, 2]⟩,
    ⟨(some 113), .mov, [.t 119], none, [5]⟩,
    ⟨(some 120), (.ext 0), [.t 113], none, [6]⟩,
    ⟨(some 121), (.ext 1), [.t 113], none, [6]⟩,
    ⟨(some 13), .mov, [.t 120], none, [7, 5, 0, 1, 2, 3, 4, 5, 6, 7]⟩,
    ⟨(some 14), .mov, [.t 121], none, [8, 9, 0, 1, 2, 3, 4, 5, 6, 7, 8, 9]⟩] true)
  (.seq
   (.seq
    (.region [⟨(some 122), .mov, [.t 10], none, []⟩,
      ⟨(some 123), (.bin .neq), [.t 122, .c (.int .i64 0)], none, [0]⟩] false)
    (.cond (.t 123)
     (.seq
      (.region [⟨(some 124), .mov, [.t 14], none, []⟩,
        ⟨(some 125), .mov, [.t 10], none, []⟩,
        ⟨(some 126), (.bin .eql), [.t 124, .t 125], none, [0, 1]⟩,
        ⟨(some 127), .mov, [.t 126], none, [2]⟩,
        ⟨(some 128), .mov, [.t 13], (some (127, true)), [3]⟩,
        ⟨(some 129), (.bin .eql), [.t 128, .c (.int .i64 0)], (some (127, true)), [4, 3]⟩,
        ⟨(some 130), .pick, [.t 127, .t 129, .c (.bool false)], none, [3, 5]⟩,
        ⟨(some 6), .mov, [.t 130], none, [6, 3, 0, 1, 2, 3, 4, 5, 6]⟩] false)
      .ret)
     .skip))
   (.keep [3, 4, 5, 13, 14] [3, 4, 5] b11k0)))
def b11k2 : DCode :=
 (.seq
  (.seq
   (.region [⟨(some 94), .mov, [.t 10], none, []⟩,
     ⟨(some 95), (.bin .eql), [.t 94, .c (.int .i64 0)], none, [0]⟩,
     ⟨(some 96), .mov, [.t 95], none, [1]⟩,
     ⟨(some 97), (.faddr 1 true 7), [.t 5], (some (96, true)), [2]⟩,
     ⟨(some 98), (.faddr 4 false 1), [.t 97], (some (96, true)), [3, 2]⟩,
     ⟨(some 99), (.load false 1), [.t 98], (some (96, true)), [4, 2]⟩,
     ⟨(some 100), (.bin .gtr), [.t 99, .c (.int .i64 2)], (some (96, true)), [5, 2]⟩,
     ⟨(some 101), .mov, [.t 100], (some (96, true)), [6, 2, 2]⟩,
     ⟨(some 102), (.faddr 1 false 1), [.t 4], (some (101, false)), [7]⟩,
     ⟨(some 103), (.load false 1), [.t 102], (some (101, false)), [8, 7]⟩,
     ⟨(some 104), .len, [.t 103], (some (101, false)), [9, 7]⟩,
     ⟨(some 105), (.bin .gtr), [.t 104, .c (.int .i64 2)], (some (101, false)), [10, 7]⟩,
     ⟨(some 106), .pick, [.t 101, .c (.bool true), .t 105], (some (96, true)), [7, 11, 2]⟩,
     ⟨(some 107), .mov, [.t 106], (some (96, true)), [12, 7, 2]⟩,
     ⟨(some 108), (.faddr 3 false 1), [.t 4], (some (107, false)), [13]⟩,
     ⟨(some 109), (.load false 1), [.t 108], (some (107, false)), [14, 13]⟩,
     ⟨(some 110), (.bin .gtr), [.t 109, .c (.int .i64 12)], (some (107, false)), [15, 13]⟩,
     ⟨(some 111), .pick, [.t 107, .c (.bool true), .t 110], (some (96, true)), [13, 16, 2]⟩,
     ⟨(some 112), .pick, [.t 96, .t 111, .c (.bool false)], none, [2, 17]⟩] false)
   (.cond (.t 112)
    (.seq
     (.region [⟨(some 6), .mov, [.c (.bool true)], none, []⟩] false)
     .ret)
    .skip))
  (.keep [3, 4, 5, 10] [3, 4, 5] b11k1))
def b11k3 : DCode :=
 (.seq
  (.seq
   (.region [⟨(some 89), .mov, [.t 10], none, []⟩,
     ⟨(some 90), (.bin .eql), [.t 89, .c (.int .i64 0)], none, [0]⟩] false)
   (.cond (.t 90)
    (.region [⟨(some 91), (.faddr 1 true 7), [.t 5], none, []⟩,
      ⟨(some 92), (.load true 7), [.t 91], none, [0]⟩,
      ⟨(some 93), .call, [.f 76, .t 92], none, [1]⟩,
      ⟨(some 10), .mov, [.t 93], none, [2, 2, 0, 1, 2]⟩] false)
    .skip))
  (.keep [3, 4, 5, 10] [3, 4, 5] b11k2))
def b11k4 : DCode :=
 (.seq
  (.seq
   (.region [⟨(some 48), .mov, [.t 9], none, []⟩,
     ⟨(some 49), (.bin .neq), [.t 48, .c (.int .i64 0)], none, [0]⟩] false)
   (.cond (.t 49)
    (.seq
     (.region [⟨(some 50), .mov, [.t 8], none, []⟩,
       ⟨(some 51), .mov, [.t 9], none, []⟩,
       ⟨(some 52), (.bin .neq), [.t 50, .t 51], none, [0, 1]⟩,
       ⟨(some 53), .mov, [.t 52], none, [2]⟩,
       ⟨(some 54), (.load true 2), [.t 7], (some (53, false)), [3]⟩,
       ⟨(some 55), (.build [(.imm (.int .i64 0)), (.imm (.int .i64 0))] []), [], (some (53, false)), [3]⟩,
       ⟨(some 56), (.eqs [false, false] true), [.t 54, .t 55], (some (53, false)), [4, 5, 3]⟩,
       ⟨(some 57), .pick, [.t 53, .c (.bool true), .t 56], none, [3, 6]⟩] false)
     (.cond (.t 57)
      (.seq
       (.region [⟨(some 6), .mov, [.c (.bool false)], none, []⟩] false)
       .ret)
      .skip))
    (.seq
     (.region [⟨(some 59), (.load true 5), [.t 3], none, []⟩,
       ⟨(some 60), (.load true 4), [.t 4], none, []⟩,
       ⟨(some 61), (.faddr 0 false 1), [.t 5], none, []⟩,
       ⟨(some 62), (.load false 1), [.t 61], none, [2]⟩,
       ⟨(some 63), .call, [.f 75, .t 59, .t 60, .t 62], none, [0, 1, 3]⟩,
       ⟨(some 58), .mov, [.t 63], none, [4]⟩,
       ⟨(some 64), (.ext 0), [.t 58], none, [5]⟩,
       ⟨(some 65), (.ext 1), [.t 58], none, [5]⟩,
       ⟨(some 11), (.alloc [(.imm (.int .i64 0)), (.imm (.int .i64 0))]), [], none, []⟩,
       ⟨none, (.store 2), [.t 11, .t 64], none, [8, 6, 4, 0, 1, 2, 3, 4, 5, 6, 8]⟩,
       ⟨(some 12), .mov, [.t 65], none, [7, 9, 0, 1, 2, 3, 4, 5, 6, 7, 8, 9]⟩] false)
     (.seq
      (.region [⟨(some 66), .mov, [.t 12], none, []⟩,
        ⟨(some 67), (.un .not), [.t 66], none, [0]⟩,
        ⟨(some 68), .mov, [.t 67], none, [1]⟩,
        ⟨(some 69), .mov, [.t 8], (some (68, true)), [2]⟩,
        ⟨(some 70), (.bin .neq), [.t 69, .c (.int .i64 12)], (some (68, true)), [3, 2]⟩,
        ⟨(some 71), .mov, [.t 70], (some (68, true)), [4, 2, 2]⟩,
        ⟨(some 72), (.load true 2), [.t 7], (some (71, false)), [5]⟩,
        ⟨(some 73), (.build [(.imm (.int .i64 0)), (.imm (.int .i64 0))] []), [], (some (71, false)), [5]⟩,
        ⟨(some 74), (.eqs [false, false] true), [.t 72, .t 73], (some (71, false)), [6, 7, 5]⟩,
        ⟨(some 75), .pick, [.t 71, .c (.bool true), .t 74], (some (68, true)), [5, 8, 2]⟩,
        ⟨(some 76), .pick, [.t 68, .t 75, .c (.bool false)], none, [2, 9]⟩,
        ⟨(some 77), .mov, [.t 76], none, [10, 5]⟩,
        ⟨(some 78), .mov, [.t 12], (some (77, false)), [11]⟩,
        ⟨(some 79), .mov, [.t 78], (some (77, false)), [12, 11, 11]⟩,
        ⟨(some 80), .mov, [.t 8], (some (79, true)), [13]⟩,
        ⟨(some 81), (.bin .neq), [.t 80, .c (.int .i64 0)], (some (79, true)), [14, 13]⟩,
        ⟨(some 82), .mov, [.t 81], (some (79, true)), [15, 13, 13]⟩,
        ⟨(some 83), (.load true 2), [.t 7], (some (82, false)), [16]⟩,
        ⟨(some 84), (.load true 2), [.t 11], (some (82, false)), [16]⟩,
        ⟨(some 85), (.eqs [false, false] true), [.t 83, .t 84], (some (82, false)), [17, 18, 16]⟩,
        ⟨(some 86), .pick, [.t 82, .c (.bool true), .t 85], (some (79, true)), [16, 19, 13]⟩,
        ⟨(some 87), .pick, [.t 79, .t 86, .c (.bool false)], (some (77, false)), [13, 20, 11]⟩,
        ⟨(some 88), .pick, [.t 77, .c (.bool true), .t 87], none, [11, 21]⟩] false)
      (.cond (.t 88)
       (.seq
        (.region [⟨(some 6), .mov, [.c (.bool false)], none, []⟩] false)
        .ret)
       .skip)))))
  (.keep [3, 4, 5, 10] [3, 4, 5] b11k3))
def b11k5 : DCode :=
 (.seq
  (.region [⟨(some 30), (.load true 5), [.t 3], none, []⟩,
    ⟨(some 31), (.load true 4), [.t 4], none, []⟩,
    ⟨(some 32), .call, [.f 31, .t 31], none, [1]⟩,
    ⟨(some 33), (.faddr 0 false 1), [.t 5], none, []⟩,
    ⟨(some 34), (.load false 1), [.t 33], none, [3]⟩,
    ⟨(some 35), .call, [.f 61, .t 34], none, [4, 2]⟩,
    ⟨(some 36), .call, [.f 60, .t 30, .t 32, .t 35], none, [0, 2, 5, 5]⟩,
    ⟨(some 29), .mov, [.t 36], none, [6]⟩,
    ⟨(some 37), (.ext 0), [.t 29], none, [7]⟩,
    ⟨(some 38), (.ext 1), [.t 29], none, [7]⟩,
    ⟨(some 7), (.alloc [(.imm (.int .i64 0)), (.imm (.int .i64 0))]), [], none, []⟩,
    ⟨none, (.store 2), [.t 7, .t 37], none, [10, 8, 6, 0, 1, 2, 3, 4, 5, 6, 7, 8, 10]⟩,
    ⟨(some 8), .mov, [.t 38], none, [9, 11, 0, 1, 2, 3, 4, 5, 6, 7, 8, 9, 10, 11]⟩] true)
  (.seq
   (.region [⟨(some 39), (.load true 5), [.t 3], none, []⟩,
     ⟨(some 40), (.load true 4), [.t 4], none, []⟩,
     ⟨(some 41), .call, [.f 35, .t 39, .t 40], none, [0, 1]⟩,
     ⟨(some 9), .mov, [.t 41], none, [2, 2, 0, 1, 2]⟩] false)
   (.seq
    (.region [⟨(some 42), .mov, [.t 9], none, []⟩,
      ⟨(some 10), .mov, [.t 42], none, [0, 0]⟩] false)
    (.seq
     (.seq
      (.region [⟨(some 43), .mov, [.t 9], none, []⟩,
        ⟨(some 44), (.bin .eql), [.t 43, .c (.int .i64 0)], none, [0]⟩] false)
      (.cond (.t 44)
       (.region [⟨(some 45), (.faddr 0 false 1), [.t 5], none, []⟩,
         ⟨(some 46), (.load false 1), [.t 45], none, [0]⟩,
         ⟨(some 47), .call, [.f 59, .t 46], none, [1]⟩,
         ⟨(some 9), .mov, [.t 47], none, [2, 2, 0, 1, 2]⟩] false)
       .skip))
     (.keep [3, 4, 5, 7, 8, 9, 10] [3, 4, 5, 7] b11k4)))))
def b11k6 : DCode :=
 (.seq
  (.seq
   (.region [⟨(some 19), (.load true 4), [.t 4], none, []⟩,
     ⟨(some 20), .call, [.f 28, .t 19], none, [0]⟩,
     ⟨(some 21), (.un .not), [.t 20], none, [1]⟩,
     ⟨(some 22), .mov, [.t 21], none, [2, 1]⟩,
     ⟨(some 23), (.faddr 0 false 1), [.t 5], (some (22, false)), [3]⟩,
     ⟨(some 24), (.load false 1), [.t 23], (some (22, false)), [4, 3]⟩,
     ⟨(some 25), (.build [(.imm (.slc 2 [])), (.imm (.slc 1 [])), (.imm (.int .i64 0)), (.imm (.int .i64 0)), (.imm (.int .i64 0)), (.imm (.int .i64 0)), (.imm (.slc 4 []))] [(6, 1)]), [.t 24], (some (22, false)), [5, 3]⟩,
     ⟨(some 26), .call, [.f 29, .t 25], (some (22, false)), [6, 3, 3]⟩,
     ⟨(some 27), (.un .not), [.t 26], (some (22, false)), [7, 3]⟩,
     ⟨(some 28), .pick, [.t 22, .c (.bool true), .t 27], none, [3, 8]⟩] false)
   (.cond (.t 28)
    (.seq
     (.region [⟨(some 6), .mov, [.c (.bool true)], none, []⟩] false)
     .ret)
    .skip))
  (.keep [3, 4, 5] [3, 4, 5] b11k5))
def b11 : DCode :=
 (.seq
  (.region [⟨(some 3), .box, [.t 0], none, []⟩,
    ⟨(some 4), .box, [.t 1], none, []⟩,
    ⟨(some 5), .box, [.t 2], none, []⟩,
    ⟨(some 6), .mov, [.c (.bool false)], none, []⟩] false)
  (.seq
   (.seq
    (.region [⟨(some 17), .call, [.f 15], none, []⟩,
      ⟨(some 18), (.un .not), [.t 17], none, [0]⟩] false)
    (.cond (.t 18)
     (.seq
      (.region [⟨(some 6), .mov, [.c (.bool false)], none, []⟩] false)
      .ret)
     .skip))
   (.keep [3, 4, 5] [3, 4, 5] b11k6)))
def d11 : DFn := ⟨3, 161, [.tmp 6], b11⟩
theorem body11 : d11.body = b11 := rfl
theorem res11 : d11.res = [.tmp 6] := rfl
theorem k11 : chkFn Try.prog Try.f11 d11 = true := by kernel_rfl

end Go.DI

/- Contracts: bounds and waits, of the program and of the reference. No condition. -/
set_option linter.unusedSimpArgs false
set_option maxRecDepth 20000
namespace Go.DI
open Go.Proofs Go.RowKit Sg

theorem divL_mem {lo hi c : Int} (h : DivOk lo hi c) {x : Int × Int} (hx : x ∈ divL lo hi c) : lo ≤ x.1 ∧ x.1 ≤ x.2 ∧ x.2 ≤ hi := by
  unfold divL divR at hx
  rw [List.drop_zero, List.mem_flatMap] at hx
  obtain ⟨i, hi', hx⟩ := hx
  rw [List.mem_range] at hi'
  have a1 := h.a1; have a2 := h.a2; have a3 := h.a3; have a4 := h.a4
  have b1 := div_bd h (i := i) (by omega)
  unfold oneD at hx
  split at hx
  · rename_i hle
    rw [List.mem_singleton] at hx
    subst hx
    refine ⟨?_, hle, ?_⟩
    · unfold divP; dsimp only; omega
    · unfold divP
      dsimp only
      have : (((i : Int) + 1) * (hi - lo + 1)) / c ≤ hi - lo + 1 := by
        have h1 : ((i : Int) + 1) * (hi - lo + 1) ≤ (hi - lo + 1) * c := by
          rw [Int.mul_comm (hi - lo + 1) c]
          exact Int.mul_le_mul_of_nonneg_right (by omega) (by omega)
        exact Int.ediv_le_of_le_mul (by omega) h1
      omega
  · cases hx

theorem cover_ok {v : Cv} (hv : coverE v = 0) : (coverL v).length ≤ 64 ∧ ∀ b ∈ coverL v, boxErr b = 0 := by
  obtain ⟨hb, hp, -⟩ := coverE_zero.1 hv
  rw [boxErr_zero] at hb
  have d1 : DivOk v.b.ll v.b.lh v.parts := ⟨by omega, by omega, by omega, hp⟩
  have d2 : DivOk v.b.fl v.b.fh v.parts := ⟨by omega, by omega, by omega, hp⟩
  constructor
  · have h1 := length_flat (l := divL v.b.ll v.b.lh v.parts) (m := 8) (g := fun x => (divL v.b.fl v.b.fh v.parts).map fun y => bxOf x y) fun x _ => by
      rw [List.length_map]
      have := divR_length (lo := v.b.fl) (hi := v.b.fh) (c := v.parts) (i := 0)
      unfold divL
      omega
    have h2 := divR_length (lo := v.b.ll) (hi := v.b.lh) (c := v.parts) (i := 0)
    unfold coverL
    unfold divL at h1 ⊢
    omega
  · intro b hbm
    unfold coverL at hbm
    rw [List.mem_flatMap] at hbm
    obtain ⟨x, hx, hbm⟩ := hbm
    rw [List.mem_map] at hbm
    obtain ⟨y, hy, rfl⟩ := hbm
    have h1 := divL_mem d1 hx
    have h2 := divL_mem d2 hy
    rw [boxErr_zero]
    unfold bxOf
    dsimp only
    omega

def rBd (r : Ru) (p : Pl) (y : Bool × Int × Int) : List (Nat × Res) :=
  [(3, .box [.imm (.int .i64 r.I), .imm (.int .i64 r.A), .imm (.int .i64 r.lo), .imm (.int .i64 r.hi), .imm (.int .i64 r.T)]), (4, .box [.imm (.int .i64 p.load), .imm (snI p.ch), .imm (.int .i64 p.wait), .imm (.int .i64 p.ticks)]),
    (6, .box [.imm (.int .i64 0), .imm (.int .i64 0)]), (8, .box [.imm (.int .i64 y.2.1), .imm (.int .i64 y.2.2)])]

theorem r_Bound {r : Ru} {p : Pl} {bs : List Bx} (hr : Sg.Good r) (hp : PlanOk p) (hn : bs.length ≤ 1000000000) (hb : ∀ b ∈ bs, boxErr b = 0) : Contract Try.prog 75 [ruI r, spI p, .slc 4 (bs.map sbI)] (.tup [stI (boundP r p bs).2.1 (boundP r p bs).2.2, .bool (boundP r p bs).1]) := by
  have holen := orders_length hp
  have hpl := hp.len
  refine contract_run Try.func75 k75 rfl ?_
  simp only [body75, b75, res75, b75k0, b75k1, b75k2, b75k3, b75k4, b75k5, b75k6, b75k7, ruI, ssI, sbI, spI, swI, scI, stI, srI, saI, snI, ↓reduceIte, reduceCtorEq, Nat.reduceEqDiff, Nat.reduceAdd, Nat.reduceMul, Nat.reduceSub, Nat.reduceLeDiff, Nat.reduceBEq, Int.reduceToNat, Int.reduceLE, Int.reduceLT, Int.reduceEq, Int.reduceNe, di0, di1, di2, di3, di4, di5, di6, di7, di8, di9, postX_ret, postX_normal, ex_some]
  refine calls_of (r_Orders hp) ?_; simp only [ruI, ssI, sbI, spI, swI, scI, stI, srI, saI, snI, res75, b75k0, b75k1, b75k2, b75k3, b75k4, b75k5, b75k6, b75k7, ↓reduceIte, reduceCtorEq, Nat.reduceEqDiff, Nat.reduceAdd, Nat.reduceMul, Nat.reduceSub, Nat.reduceLeDiff, Nat.reduceBEq, Int.reduceToNat, Int.reduceLE, Int.reduceLT, Int.reduceEq, Int.reduceNe, di0, di1, di2, di3, di4, di5, di6, di7, di8, di9, postX_ret, postX_normal, ex_some]
  refine loop_keep (α := Nat × Bool × Int × Int) rfl (fun q => (ordersP p).length - q.1) (fun q => q.1 ≤ (ordersP p).length ∧ ((ordersP p).drop q.1).foldl (bOrd r p bs) q.2 = boundP r p bs)
    (fun q => [(2, .imm (.slc 4 (bs.map sbI))), (3, .ref 3 0), (4, .ref 4 0), (6, .ref 6 0), (8, .ref 8 0), (9, .imm (.bool q.2.1)), (10, .imm (.slc 1 ((ordersP p).map snI))), (11, .imm (.int .i64 q.1))])
    (fun q => rBd r p q.2) (0, false, 0, 0) ⟨Nat.zero_le _, rfl⟩ (by simp only [rBd, ruI, ssI, sbI, spI, swI, scI, stI, srI, saI, snI, ↓reduceIte, reduceCtorEq, Nat.reduceEqDiff, Nat.reduceAdd, Nat.reduceMul, Nat.reduceSub, Nat.reduceLeDiff, Nat.reduceBEq, Int.reduceToNat, Int.reduceLE, Int.reduceLT, Int.reduceEq, Int.reduceNe, di0, di1, di2, di3, di4, di5, di6, di7, di8, di9, postX_ret, postX_normal, ex_some] <;> rfl) ?_
  rintro ⟨i, y⟩ ⟨hi, he⟩ ih
  dsimp only at hi he ⊢
  simp only [res75, b75k0, b75k1, b75k2, b75k3, b75k4, b75k5, b75k6, b75k7, rBd, ruI, ssI, sbI, spI, swI, scI, stI, srI, saI, snI, ↓reduceIte, reduceCtorEq, Nat.reduceEqDiff, Nat.reduceAdd, Nat.reduceMul, Nat.reduceSub, Nat.reduceLeDiff, Nat.reduceBEq, Int.reduceToNat, Int.reduceLE, Int.reduceLT, Int.reduceEq, Int.reduceNe, di0, di1, di2, di3, di4, di5, di6, di7, di8, di9, postX_ret, postX_normal, ex_some]
  split
  case isFalse h =>
    rw [List.drop_of_length_le (by omega), List.foldl_nil] at he
    subst he
    simp only [ruI, ssI, sbI, spI, swI, scI, stI, srI, saI, snI, ↓reduceIte, reduceCtorEq, Nat.reduceEqDiff, Nat.reduceAdd, Nat.reduceMul, Nat.reduceSub, Nat.reduceLeDiff, Nat.reduceBEq, Int.reduceToNat, Int.reduceLE, Int.reduceLT, Int.reduceEq, Int.reduceNe, di0, di1, di2, di3, di4, di5, di6, di7, di8, di9, postX_ret, postX_normal, ex_some]
  rename_i h
  have hlt : i < (ordersP p).length := by omega
  have hd : (ordersP p).drop i = (ordersP p).getD i default :: (ordersP p).drop (i + 1) := by
    rw [List.drop_eq_getElem_cons hlt, List.getD_eq_getElem?_getD]
    simp [hlt]
  have hmem : (ordersP p).getD i default ∈ ordersP p := by rw [List.getD_eq_getElem?_getD]; simp [hlt]
  rw [hd, List.foldl_cons] at he
  have hoi := orders_idx hp hmem
  have hlo := loads_ok hp (orders_perm hmem)
  have hol : ((ordersP p).getD i default).length ≤ 1000 := by rw [(orders_mem hmem).1]; omega
  refine loop_keep (α := Nat × Bool × Int × Int) rfl (fun q => bs.length - q.1) (fun q => q.1 ≤ bs.length ∧ (bs.drop q.1).foldl (bBox r p ((ordersP p).getD i default)) q.2 = bOrd r p bs y ((ordersP p).getD i default))
    (fun q => [(2, .imm (.slc 4 (bs.map sbI))), (3, .ref 3 0), (4, .ref 4 0), (6, .ref 6 0), (8, .ref 8 0), (9, .imm (.bool q.2.1)), (10, .imm (.slc 1 ((ordersP p).map snI))), (11, .imm (.int .i64 i)), (12, .imm (.int .i64 q.1))])
    (fun q => rBd r p q.2) (0, y) ⟨Nat.zero_le _, rfl⟩ (by simp only [rBd, ruI, ssI, sbI, spI, swI, scI, stI, srI, saI, snI, ↓reduceIte, reduceCtorEq, Nat.reduceEqDiff, Nat.reduceAdd, Nat.reduceMul, Nat.reduceSub, Nat.reduceLeDiff, Nat.reduceBEq, Int.reduceToNat, Int.reduceLE, Int.reduceLT, Int.reduceEq, Int.reduceNe, di0, di1, di2, di3, di4, di5, di6, di7, di8, di9, postX_ret, postX_normal, ex_some] <;> rfl) ?_
  rintro ⟨j, y1⟩ ⟨hj, he1⟩ ih1
  dsimp only at hj he1 ⊢
  simp only [res75, b75k0, b75k1, b75k2, b75k3, b75k4, b75k5, b75k6, b75k7, rBd, ruI, ssI, sbI, spI, swI, scI, stI, srI, saI, snI, ↓reduceIte, reduceCtorEq, Nat.reduceEqDiff, Nat.reduceAdd, Nat.reduceMul, Nat.reduceSub, Nat.reduceLeDiff, Nat.reduceBEq, Int.reduceToNat, Int.reduceLE, Int.reduceLT, Int.reduceEq, Int.reduceNe, di0, di1, di2, di3, di4, di5, di6, di7, di8, di9, postX_ret, postX_normal, ex_some]
  split
  case isFalse h1 =>
    rw [List.drop_of_length_le (by omega), List.foldl_nil] at he1
    subst he1
    simp only [show IntKind.wrap .i64 ((i : Int) + 1) = (i : Int) + 1 from wrap64 (by omega) (by omega)]
    refine ih (i + 1, bOrd r p bs y ((ordersP p).getD i default)) _ _ (by dsimp only; omega) ⟨by dsimp only; omega, he⟩ (by simp only [rBd, ruI, ssI, sbI, spI, swI, scI, stI, srI, saI, snI, ↓reduceIte, reduceCtorEq, Nat.reduceEqDiff, Nat.reduceAdd, Nat.reduceMul, Nat.reduceSub, Nat.reduceLeDiff, Nat.reduceBEq, Int.reduceToNat, Int.reduceLE, Int.reduceLT, Int.reduceEq, Int.reduceNe, di0, di1, di2, di3, di4, di5, di6, di7, di8, di9, postX_ret, postX_normal, ex_some] <;> rfl)
  rename_i h1
  have hlt1 : j < bs.length := by omega
  have hd1 : bs.drop j = bs.getD j default :: bs.drop (j + 1) := by
    rw [List.drop_eq_getElem_cons hlt1, List.getD_eq_getElem?_getD]
    simp [hlt1]
  have hm1 : bs.getD j default ∈ bs := by rw [List.getD_eq_getElem?_getD]; simp [hlt1]
  rw [hd1, List.foldl_cons] at he1
  have hs := boxErr_zero.1 (hb _ hm1)
  repeat (refine And.intro (by omega) ?_)
  refine calls_of (r_Loads hp hoi hol) ?_; simp only [ruI, ssI, sbI, spI, swI, scI, stI, srI, saI, snI, res75, b75k0, b75k1, b75k2, b75k3, b75k4, b75k5, b75k6, b75k7, ↓reduceIte, reduceCtorEq, Nat.reduceEqDiff, Nat.reduceAdd, Nat.reduceMul, Nat.reduceSub, Nat.reduceLeDiff, Nat.reduceBEq, Int.reduceToNat, Int.reduceLE, Int.reduceLT, Int.reduceEq, Int.reduceNe, di0, di1, di2, di3, di4, di5, di6, di7, di8, di9, postX_ret, postX_normal, ex_some]
  have hrun := r_BoxRun (r := r) (b := bs.getD j default) (ls := loadsP p ((ordersP p).getD i default)) hr (by omega) hlo
  refine calls_of hrun ?_
  simp only [res75, b75k0, b75k1, b75k2, b75k3, b75k4, b75k5, b75k6, b75k7, ruI, ssI, sbI, spI, swI, scI, stI, srI, saI, snI, ↓reduceIte, reduceCtorEq, Nat.reduceEqDiff, Nat.reduceAdd, Nat.reduceMul, Nat.reduceSub, Nat.reduceLeDiff, Nat.reduceBEq, Int.reduceToNat, Int.reduceLE, Int.reduceLT, Int.reduceEq, Int.reduceNe, di0, di1, di2, di3, di4, di5, di6, di7, di8, di9, postX_ret, postX_normal, ex_some]
  have hrl : (brunL r (bs.getD j default) (loadsP p ((ordersP p).getD i default))).length ≤ 1000 := by rw [brunL_length]; exact hlo.1
  have hbx : bBox r p ((ordersP p).getD i default) y1 (bs.getD j default) = (brunL r (bs.getD j default) (loadsP p ((ordersP p).getD i default))).foldl bStp y1 := rfl
  rw [hbx] at he1
  generalize brunL r (bs.getD j default) (loadsP p ((ordersP p).getD i default)) = W at hrl he1
  refine loop_keep (α := Nat × Bool × Int × Int) rfl (fun q => W.length - q.1) (fun q => q.1 ≤ W.length ∧ (W.drop q.1).foldl bStp q.2 = W.foldl bStp y1)
    (fun q => [(2, .imm (.slc 4 (bs.map sbI))), (3, .ref 3 0), (4, .ref 4 0), (6, .ref 6 0), (8, .ref 8 0), (9, .imm (.bool q.2.1)), (10, .imm (.slc 1 ((ordersP p).map snI))), (11, .imm (.int .i64 i)), (12, .imm (.int .i64 j)), (13, .imm (.slc 4 (W.map sbI))), (14, .imm (.int .i64 q.1))])
    (fun q => rBd r p q.2) (0, y1) ⟨Nat.zero_le _, rfl⟩ (by simp only [rBd, ruI, ssI, sbI, spI, swI, scI, stI, srI, saI, snI, ↓reduceIte, reduceCtorEq, Nat.reduceEqDiff, Nat.reduceAdd, Nat.reduceMul, Nat.reduceSub, Nat.reduceLeDiff, Nat.reduceBEq, Int.reduceToNat, Int.reduceLE, Int.reduceLT, Int.reduceEq, Int.reduceNe, di0, di1, di2, di3, di4, di5, di6, di7, di8, di9, postX_ret, postX_normal, ex_some] <;> rfl) ?_
  rintro ⟨n, z⟩ ⟨hn2, he2⟩ ih2
  dsimp only at hn2 he2 ⊢
  simp only [res75, b75k0, b75k1, b75k2, b75k3, b75k4, b75k5, b75k6, b75k7, rBd, ruI, ssI, sbI, spI, swI, scI, stI, srI, saI, snI, ↓reduceIte, reduceCtorEq, Nat.reduceEqDiff, Nat.reduceAdd, Nat.reduceMul, Nat.reduceSub, Nat.reduceLeDiff, Nat.reduceBEq, Int.reduceToNat, Int.reduceLE, Int.reduceLT, Int.reduceEq, Int.reduceNe, di0, di1, di2, di3, di4, di5, di6, di7, di8, di9, postX_ret, postX_normal, ex_some]
  split
  case isFalse h2 =>
    rw [List.drop_of_length_le (by omega), List.foldl_nil] at he2
    subst he2
    simp only [show IntKind.wrap .i64 ((j : Int) + 1) = (j : Int) + 1 from wrap64 (by omega) (by omega)]
    refine ih1 (j + 1, W.foldl bStp y1) _ _ (by dsimp only; omega) ⟨by dsimp only; omega, he1⟩ (by simp only [rBd, ruI, ssI, sbI, spI, swI, scI, stI, srI, saI, snI, ↓reduceIte, reduceCtorEq, Nat.reduceEqDiff, Nat.reduceAdd, Nat.reduceMul, Nat.reduceSub, Nat.reduceLeDiff, Nat.reduceBEq, Int.reduceToNat, Int.reduceLE, Int.reduceLT, Int.reduceEq, Int.reduceNe, di0, di1, di2, di3, di4, di5, di6, di7, di8, di9, postX_ret, postX_normal, ex_some] <;> rfl)
  rename_i h2
  have hlt2 : n < W.length := by omega
  have hd2 : W.drop n = W.getD n default :: W.drop (n + 1) := by
    rw [List.drop_eq_getElem_cons hlt2, List.getD_eq_getElem?_getD]
    simp [hlt2]
  rw [hd2, List.foldl_cons] at he2
  obtain ⟨zb, z1, z2⟩ := z
  repeat (refine And.intro (by omega) ?_)
  cases zb
  · simp only [ruI, ssI, sbI, spI, swI, scI, stI, srI, saI, snI, ↓reduceIte, reduceCtorEq, Nat.reduceEqDiff, Nat.reduceAdd, Nat.reduceMul, Nat.reduceSub, Nat.reduceLeDiff, Nat.reduceBEq, Int.reduceToNat, Int.reduceLE, Int.reduceLT, Int.reduceEq, Int.reduceNe, di0, di1, di2, di3, di4, di5, di6, di7, di8, di9, postX_ret, postX_normal, ex_some]
    repeat (refine And.intro (by omega) ?_)
    simp only [show IntKind.wrap .i64 ((n : Int) + 1) = (n : Int) + 1 from wrap64 (by omega) (by omega)]
    refine ih2 (n + 1, bStp (false, z1, z2) (W.getD n default)) _ _ (by dsimp only; omega) ⟨by dsimp only; omega, he2⟩ (by simp only [rBd, bStp, ruI, ssI, sbI, spI, swI, scI, stI, srI, saI, snI, ↓reduceIte, reduceCtorEq, Nat.reduceEqDiff, Nat.reduceAdd, Nat.reduceMul, Nat.reduceSub, Nat.reduceLeDiff, Nat.reduceBEq, Int.reduceToNat, Int.reduceLE, Int.reduceLT, Int.reduceEq, Int.reduceNe, di0, di1, di2, di3, di4, di5, di6, di7, di8, di9, postX_ret, postX_normal, ex_some] <;> rfl)
  · simp only [ruI, ssI, sbI, spI, swI, scI, stI, srI, saI, snI, ↓reduceIte, reduceCtorEq, Nat.reduceEqDiff, Nat.reduceAdd, Nat.reduceMul, Nat.reduceSub, Nat.reduceLeDiff, Nat.reduceBEq, Int.reduceToNat, Int.reduceLE, Int.reduceLT, Int.reduceEq, Int.reduceNe, di0, di1, di2, di3, di4, di5, di6, di7, di8, di9, postX_ret, postX_normal, ex_some]
    repeat (refine And.intro (by omega) ?_)
    simp only [show IntKind.wrap .i64 ((n : Int) + 1) = (n : Int) + 1 from wrap64 (by omega) (by omega)]
    refine ih2 (n + 1, bStp (true, z1, z2) (W.getD n default)) _ _ (by dsimp only; omega) ⟨by dsimp only; omega, he2⟩ (by simp only [rBd, bStp, ruI, ssI, sbI, spI, swI, scI, stI, srI, saI, snI, ↓reduceIte, reduceCtorEq, Nat.reduceEqDiff, Nat.reduceAdd, Nat.reduceMul, Nat.reduceSub, Nat.reduceLeDiff, Nat.reduceBEq, Int.reduceToNat, Int.reduceLE, Int.reduceLT, Int.reduceEq, Int.reduceNe, di0, di1, di2, di3, di4, di5, di6, di7, di8, di9, postX_ret, postX_normal, ex_some] <;> rfl)
end Go.DI

/- Contracts: the shortest wait; the statement SurgeBounds. No condition. -/
set_option linter.unusedSimpArgs false
set_option maxRecDepth 20000
namespace Go.DI
open Go.Proofs Go.RowKit Sg

def setW (p : Pl) (w : Int) : Pl := ⟨p.load, p.ch, w, p.ticks⟩
theorem setW_ok {p : Pl} {w : Int} (hp : PlanOk p) (h : 1 ≤ w ∧ w ≤ 20) : PlanOk (setW p w) := ⟨hp.load, hp.len, hp.ch, h, hp.ticks⟩
/-- With a wait, the bound of the cover lies in the limits. -/
def keepsW (r : Ru) (p : Pl) (v : Cv) (w : Int) : Prop := ((boundP r (setW p w) (coverL v)).1 = true ∧ v.lo ≤ (boundP r (setW p w) (coverL v)).2.1) ∧ (boundP r (setW p w) (coverL v)).2.2 ≤ v.hi
instance (r : Ru) (p : Pl) (v : Cv) (w : Int) : Decidable (keepsW r p v w) := inferInstanceAs (Decidable (_ ∧ _))
def shortF (r : Ru) (p : Pl) (v : Cv) : Nat → Int → Option Int
  | 0, _ => none
  | n + 1, w => if keepsW r p v w then some w else shortF r p v n (w + 1)
def shortP (r : Ru) (p : Pl) (v : Cv) : Option Int := shortF r p v 20 1
theorem shortF_cons {r : Ru} {p : Pl} {v : Cv} {n : Nat} {w : Int} : shortF r p v (n + 1) w = if keepsW r p v w then some w else shortF r p v n (w + 1) := rfl
def optW : Option Int → Int | none => 0 | some w => w
def optE : Option Int → Int | none => 12 | some _ => 0
def waitE (r : Ru) (p : Pl) (v : Cv) : Int := fstE (planEr r p).2 (coverE v)

theorem s_ShortestWait {r : Ru} {p : Pl} {v : Cv} (hl : p.ch.length ≤ 1000000000) : Contract Try.prog 77 [ruI r, spI p, scI v]
    (if waitE r p v = 0 then .tup [.int .i64 (optW (shortP r p v)), .int .i64 (optE (shortP r p v))] else .tup [.int .i64 0, .int .i64 (waitE r p v)]) := by
  refine contract_run Try.func77 k77 rfl ?_
  simp only [body77, b77, res77, b77k0, b77k1, b77k2, b77k3, ruI, ssI, sbI, spI, swI, scI, stI, srI, saI, snI, ↓reduceIte, reduceCtorEq, Nat.reduceEqDiff, Nat.reduceAdd, Nat.reduceMul, Nat.reduceSub, Nat.reduceLeDiff, Nat.reduceBEq, Int.reduceToNat, Int.reduceLE, Int.reduceLT, Int.reduceEq, Int.reduceNe, di0, di1, di2, di3, di4, di5, di6, di7, di8, di9, postX_ret, postX_normal, ex_some]
  refine calls_of (s_open hl) ?_; simp only [ruI, ssI, sbI, spI, swI, scI, stI, srI, saI, snI, res77, b77k0, b77k1, b77k2, b77k3, ↓reduceIte, reduceCtorEq, Nat.reduceEqDiff, Nat.reduceAdd, Nat.reduceMul, Nat.reduceSub, Nat.reduceLeDiff, Nat.reduceBEq, Int.reduceToNat, Int.reduceLE, Int.reduceLT, Int.reduceEq, Int.reduceNe, di0, di1, di2, di3, di4, di5, di6, di7, di8, di9, postX_ret, postX_normal, ex_some]
  refine calls_of (s_coverErr (v := v)) ?_; simp only [ruI, ssI, sbI, spI, swI, scI, stI, srI, saI, snI, res77, b77k0, b77k1, b77k2, b77k3, ↓reduceIte, reduceCtorEq, Nat.reduceEqDiff, Nat.reduceAdd, Nat.reduceMul, Nat.reduceSub, Nat.reduceLeDiff, Nat.reduceBEq, Int.reduceToNat, Int.reduceLE, Int.reduceLT, Int.reduceEq, Int.reduceNe, di0, di1, di2, di3, di4, di5, di6, di7, di8, di9, postX_ret, postX_normal, ex_some]
  refine calls_of (s_first (l := [(planEr r p).2, coverE v]) (by simp)) ?_; simp only [ruI, ssI, sbI, spI, swI, scI, stI, srI, saI, snI, res77, b77k0, b77k1, b77k2, b77k3, ↓reduceIte, reduceCtorEq, Nat.reduceEqDiff, Nat.reduceAdd, Nat.reduceMul, Nat.reduceSub, Nat.reduceLeDiff, Nat.reduceBEq, Int.reduceToNat, Int.reduceLE, Int.reduceLT, Int.reduceEq, Int.reduceNe, di0, di1, di2, di3, di4, di5, di6, di7, di8, di9, postX_ret, postX_normal, ex_some]
  rw [firstNZ_two]
  rw [show fstE (planEr r p).2 (coverE v) = waitE r p v from rfl]
  by_cases h : waitE r p v = 0
  case neg => simp only [h, ruI, ssI, sbI, spI, swI, scI, stI, srI, saI, snI, ↓reduceIte, reduceCtorEq, Nat.reduceEqDiff, Nat.reduceAdd, Nat.reduceMul, Nat.reduceSub, Nat.reduceLeDiff, Nat.reduceBEq, Int.reduceToNat, Int.reduceLE, Int.reduceLT, Int.reduceEq, Int.reduceNe, di0, di1, di2, di3, di4, di5, di6, di7, di8, di9, postX_ret, postX_normal, ex_some]
  simp only [h, ruI, ssI, sbI, spI, swI, scI, stI, srI, saI, snI, ↓reduceIte, reduceCtorEq, Nat.reduceEqDiff, Nat.reduceAdd, Nat.reduceMul, Nat.reduceSub, Nat.reduceLeDiff, Nat.reduceBEq, Int.reduceToNat, Int.reduceLE, Int.reduceLT, Int.reduceEq, Int.reduceNe, di0, di1, di2, di3, di4, di5, di6, di7, di8, di9, postX_ret, postX_normal, ex_some]
  unfold waitE at h
  rw [fstE_zero, planEr_zero] at h
  obtain ⟨⟨hr, hp⟩, hv⟩ := h
  obtain ⟨hcl, hcb⟩ := cover_ok hv
  refine calls_of (s_cover hv) ?_; simp only [ruI, ssI, sbI, spI, swI, scI, stI, srI, saI, snI, res77, b77k0, b77k1, b77k2, b77k3, ↓reduceIte, reduceCtorEq, Nat.reduceEqDiff, Nat.reduceAdd, Nat.reduceMul, Nat.reduceSub, Nat.reduceLeDiff, Nat.reduceBEq, Int.reduceToNat, Int.reduceLE, Int.reduceLT, Int.reduceEq, Int.reduceNe, di0, di1, di2, di3, di4, di5, di6, di7, di8, di9, postX_ret, postX_normal, ex_some]
  refine loop_keep (α := Int × Int) rfl (fun q => (21 - q.1).toNat) (fun q => (1 ≤ q.1 ∧ q.1 ≤ 21) ∧ shortP r p v = shortF r p v (21 - q.1).toNat q.1)
    (fun q => [(5, .ref 5 0), (8, .ref 8 0), (10, .imm (.slc 4 ((coverL v).map sbI))), (11, .imm (.int .i64 q.1))])
    (fun q => [(5, .box (scCells v)), (8, .box [.imm (.int .i64 r.I), .imm (.int .i64 r.A), .imm (.int .i64 r.lo), .imm (.int .i64 r.hi), .imm (.int .i64 r.T), .imm (.int .i64 p.load), .imm (snI p.ch), .imm (.int .i64 q.2), .imm (.int .i64 p.ticks)])]) (1, p.wait) ⟨⟨by omega, by omega⟩, rfl⟩ (by simp only [scCells, ruI, ssI, sbI, spI, swI, scI, stI, srI, saI, snI, ↓reduceIte, reduceCtorEq, Nat.reduceEqDiff, Nat.reduceAdd, Nat.reduceMul, Nat.reduceSub, Nat.reduceLeDiff, Nat.reduceBEq, Int.reduceToNat, Int.reduceLE, Int.reduceLT, Int.reduceEq, Int.reduceNe, di0, di1, di2, di3, di4, di5, di6, di7, di8, di9, postX_ret, postX_normal, ex_some] <;> rfl) ?_
  rintro ⟨w, w0⟩ ⟨hw, he⟩ ih
  dsimp only at hw he ⊢
  simp only [res77, b77k0, b77k1, b77k2, b77k3, scCells, ruI, ssI, sbI, spI, swI, scI, stI, srI, saI, snI, ↓reduceIte, reduceCtorEq, Nat.reduceEqDiff, Nat.reduceAdd, Nat.reduceMul, Nat.reduceSub, Nat.reduceLeDiff, Nat.reduceBEq, Int.reduceToNat, Int.reduceLE, Int.reduceLT, Int.reduceEq, Int.reduceNe, di0, di1, di2, di3, di4, di5, di6, di7, di8, di9, postX_ret, postX_normal, ex_some]
  split
  case isFalse h1 =>
    rw [show (21 - w).toNat = 0 by omega] at he
    simp only [shortF] at he
    rw [he]
    rfl
  rename_i h1
  rw [show (21 - w).toNat = (21 - (w + 1)).toNat + 1 by omega, shortF_cons] at he
  have hb := s_bound (r := r) (p := setW p w) (bs := coverL v) hr (setW_ok hp ⟨hw.1, h1⟩) (by omega) hcb
  simp only [setW] at hb
  refine calls_of hb ?_; simp only [ruI, ssI, sbI, spI, swI, scI, stI, srI, saI, snI, res77, b77k0, b77k1, b77k2, b77k3, ↓reduceIte, reduceCtorEq, Nat.reduceEqDiff, Nat.reduceAdd, Nat.reduceMul, Nat.reduceSub, Nat.reduceLeDiff, Nat.reduceBEq, Int.reduceToNat, Int.reduceLE, Int.reduceLT, Int.reduceEq, Int.reduceNe, di0, di1, di2, di3, di4, di5, di6, di7, di8, di9, postX_ret, postX_normal, ex_some]
  have hk : keepsW r p v w = (((boundP r ⟨p.load, p.ch, w, p.ticks⟩ (coverL v)).1 = true ∧ v.lo ≤ (boundP r ⟨p.load, p.ch, w, p.ticks⟩ (coverL v)).2.1) ∧ (boundP r ⟨p.load, p.ch, w, p.ticks⟩ (coverL v)).2.2 ≤ v.hi) := rfl
  generalize boundP r ⟨p.load, p.ch, w, p.ticks⟩ (coverL v) = B at hk
  obtain ⟨Bf, B1, B2⟩ := B
  dsimp only at hk ⊢
  cases Bf
  · rw [if_neg (by rw [hk]; simp)] at he
    simp only [ruI, ssI, sbI, spI, swI, scI, stI, srI, saI, snI, ↓reduceIte, reduceCtorEq, Nat.reduceEqDiff, Nat.reduceAdd, Nat.reduceMul, Nat.reduceSub, Nat.reduceLeDiff, Nat.reduceBEq, Int.reduceToNat, Int.reduceLE, Int.reduceLT, Int.reduceEq, Int.reduceNe, di0, di1, di2, di3, di4, di5, di6, di7, di8, di9, postX_ret, postX_normal, ex_some]
    simp only [show IntKind.wrap .i64 (w + 1) = w + 1 from wrap64 (by omega) (by omega)]
    refine ih (w + 1, w) _ _ (by dsimp only; omega) ⟨by dsimp only; omega, he⟩ (by simp only [scCells, ruI, ssI, sbI, spI, swI, scI, stI, srI, saI, snI, ↓reduceIte, reduceCtorEq, Nat.reduceEqDiff, Nat.reduceAdd, Nat.reduceMul, Nat.reduceSub, Nat.reduceLeDiff, Nat.reduceBEq, Int.reduceToNat, Int.reduceLE, Int.reduceLT, Int.reduceEq, Int.reduceNe, di0, di1, di2, di3, di4, di5, di6, di7, di8, di9, postX_ret, postX_normal, ex_some] <;> rfl)
  · simp only [ruI, ssI, sbI, spI, swI, scI, stI, srI, saI, snI, ↓reduceIte, reduceCtorEq, Nat.reduceEqDiff, Nat.reduceAdd, Nat.reduceMul, Nat.reduceSub, Nat.reduceLeDiff, Nat.reduceBEq, Int.reduceToNat, Int.reduceLE, Int.reduceLT, Int.reduceEq, Int.reduceNe, di0, di1, di2, di3, di4, di5, di6, di7, di8, di9, postX_ret, postX_normal, ex_some]
    by_cases k1 : v.lo ≤ B1
    case neg =>
      rw [if_neg (by rw [hk]; simp [k1])] at he
      simp only [k1, ruI, ssI, sbI, spI, swI, scI, stI, srI, saI, snI, ↓reduceIte, reduceCtorEq, Nat.reduceEqDiff, Nat.reduceAdd, Nat.reduceMul, Nat.reduceSub, Nat.reduceLeDiff, Nat.reduceBEq, Int.reduceToNat, Int.reduceLE, Int.reduceLT, Int.reduceEq, Int.reduceNe, di0, di1, di2, di3, di4, di5, di6, di7, di8, di9, postX_ret, postX_normal, ex_some]
      simp only [show IntKind.wrap .i64 (w + 1) = w + 1 from wrap64 (by omega) (by omega)]
      refine ih (w + 1, w) _ _ (by dsimp only; omega) ⟨by dsimp only; omega, he⟩ (by simp only [scCells, ruI, ssI, sbI, spI, swI, scI, stI, srI, saI, snI, ↓reduceIte, reduceCtorEq, Nat.reduceEqDiff, Nat.reduceAdd, Nat.reduceMul, Nat.reduceSub, Nat.reduceLeDiff, Nat.reduceBEq, Int.reduceToNat, Int.reduceLE, Int.reduceLT, Int.reduceEq, Int.reduceNe, di0, di1, di2, di3, di4, di5, di6, di7, di8, di9, postX_ret, postX_normal, ex_some] <;> rfl)
    simp only [k1, ruI, ssI, sbI, spI, swI, scI, stI, srI, saI, snI, ↓reduceIte, reduceCtorEq, Nat.reduceEqDiff, Nat.reduceAdd, Nat.reduceMul, Nat.reduceSub, Nat.reduceLeDiff, Nat.reduceBEq, Int.reduceToNat, Int.reduceLE, Int.reduceLT, Int.reduceEq, Int.reduceNe, di0, di1, di2, di3, di4, di5, di6, di7, di8, di9, postX_ret, postX_normal, ex_some]
    by_cases k2 : B2 ≤ v.hi
    case neg =>
      rw [if_neg (by rw [hk]; simp [k2])] at he
      simp only [k2, ruI, ssI, sbI, spI, swI, scI, stI, srI, saI, snI, ↓reduceIte, reduceCtorEq, Nat.reduceEqDiff, Nat.reduceAdd, Nat.reduceMul, Nat.reduceSub, Nat.reduceLeDiff, Nat.reduceBEq, Int.reduceToNat, Int.reduceLE, Int.reduceLT, Int.reduceEq, Int.reduceNe, di0, di1, di2, di3, di4, di5, di6, di7, di8, di9, postX_ret, postX_normal, ex_some]
      simp only [show IntKind.wrap .i64 (w + 1) = w + 1 from wrap64 (by omega) (by omega)]
      refine ih (w + 1, w) _ _ (by dsimp only; omega) ⟨by dsimp only; omega, he⟩ (by simp only [scCells, ruI, ssI, sbI, spI, swI, scI, stI, srI, saI, snI, ↓reduceIte, reduceCtorEq, Nat.reduceEqDiff, Nat.reduceAdd, Nat.reduceMul, Nat.reduceSub, Nat.reduceLeDiff, Nat.reduceBEq, Int.reduceToNat, Int.reduceLE, Int.reduceLT, Int.reduceEq, Int.reduceNe, di0, di1, di2, di3, di4, di5, di6, di7, di8, di9, postX_ret, postX_normal, ex_some] <;> rfl)
    rw [if_pos (by rw [hk]; exact ⟨⟨rfl, k1⟩, k2⟩)] at he
    simp only [k2, ruI, ssI, sbI, spI, swI, scI, stI, srI, saI, snI, ↓reduceIte, reduceCtorEq, Nat.reduceEqDiff, Nat.reduceAdd, Nat.reduceMul, Nat.reduceSub, Nat.reduceLeDiff, Nat.reduceBEq, Int.reduceToNat, Int.reduceLE, Int.reduceLT, Int.reduceEq, Int.reduceNe, di0, di1, di2, di3, di4, di5, di6, di7, di8, di9, postX_ret, postX_normal, ex_some]
    rw [he]
    rfl

theorem r_Shortest {r : Ru} {p : Pl} {v : Cv} (hr : Sg.Good r) (hp : PlanOk p) (hv : coverE v = 0) : Contract Try.prog 78 [ruI r, spI p, scI v] (.tup [.int .i64 (optW (shortP r p v)), .bool (shortP r p v).isSome]) := by
  have hpl := hp.len
  obtain ⟨hcl, hcb⟩ := cover_ok hv
  refine contract_run Try.func78 k78 rfl ?_
  simp only [body78, b78, res78, b78k0, b78k1, b78k2, ruI, ssI, sbI, spI, swI, scI, stI, srI, saI, snI, ↓reduceIte, reduceCtorEq, Nat.reduceEqDiff, Nat.reduceAdd, Nat.reduceMul, Nat.reduceSub, Nat.reduceLeDiff, Nat.reduceBEq, Int.reduceToNat, Int.reduceLE, Int.reduceLT, Int.reduceEq, Int.reduceNe, di0, di1, di2, di3, di4, di5, di6, di7, di8, di9, postX_ret, postX_normal, ex_some]
  refine loop_keep (α := Int) rfl (fun w => (21 - w).toNat) (fun w => (1 ≤ w ∧ w ≤ 21) ∧ shortP r p v = shortF r p v (21 - w).toNat w)
    (fun w => [(3, .ref 3 0), (4, .ref 4 0), (5, .ref 5 0), (8, .imm (.int .i64 w))])
    (fun _ => [(3, .box [.imm (.int .i64 r.I), .imm (.int .i64 r.A), .imm (.int .i64 r.lo), .imm (.int .i64 r.hi), .imm (.int .i64 r.T)]), (4, .box [.imm (.int .i64 p.load), .imm (snI p.ch), .imm (.int .i64 p.wait), .imm (.int .i64 p.ticks)]), (5, .box (scCells v))]) 1 ⟨⟨by omega, by omega⟩, rfl⟩ (by simp only [scCells, ruI, ssI, sbI, spI, swI, scI, stI, srI, saI, snI, ↓reduceIte, reduceCtorEq, Nat.reduceEqDiff, Nat.reduceAdd, Nat.reduceMul, Nat.reduceSub, Nat.reduceLeDiff, Nat.reduceBEq, Int.reduceToNat, Int.reduceLE, Int.reduceLT, Int.reduceEq, Int.reduceNe, di0, di1, di2, di3, di4, di5, di6, di7, di8, di9, postX_ret, postX_normal, ex_some] <;> rfl) ?_
  rintro w ⟨hw, he⟩ ih
  simp only [res78, b78k0, b78k1, b78k2, scCells, ruI, ssI, sbI, spI, swI, scI, stI, srI, saI, snI, ↓reduceIte, reduceCtorEq, Nat.reduceEqDiff, Nat.reduceAdd, Nat.reduceMul, Nat.reduceSub, Nat.reduceLeDiff, Nat.reduceBEq, Int.reduceToNat, Int.reduceLE, Int.reduceLT, Int.reduceEq, Int.reduceNe, di0, di1, di2, di3, di4, di5, di6, di7, di8, di9, postX_ret, postX_normal, ex_some]
  split
  case isFalse h1 =>
    rw [show (21 - w).toNat = 0 by omega] at he
    simp only [shortF] at he
    rw [he]
    rfl
  rename_i h1
  rw [show (21 - w).toNat = (21 - (w + 1)).toNat + 1 by omega, shortF_cons] at he
  refine calls_of (r_CopyPlan (p := p) (by omega)) ?_; simp only [ruI, ssI, sbI, spI, swI, scI, stI, srI, saI, snI, res78, b78k0, b78k1, b78k2, ↓reduceIte, reduceCtorEq, Nat.reduceEqDiff, Nat.reduceAdd, Nat.reduceMul, Nat.reduceSub, Nat.reduceLeDiff, Nat.reduceBEq, Int.reduceToNat, Int.reduceLE, Int.reduceLT, Int.reduceEq, Int.reduceNe, di0, di1, di2, di3, di4, di5, di6, di7, di8, di9, postX_ret, postX_normal, ex_some]
  refine calls_of (r_Cover hv) ?_; simp only [ruI, ssI, sbI, spI, swI, scI, stI, srI, saI, snI, res78, b78k0, b78k1, b78k2, ↓reduceIte, reduceCtorEq, Nat.reduceEqDiff, Nat.reduceAdd, Nat.reduceMul, Nat.reduceSub, Nat.reduceLeDiff, Nat.reduceBEq, Int.reduceToNat, Int.reduceLE, Int.reduceLT, Int.reduceEq, Int.reduceNe, di0, di1, di2, di3, di4, di5, di6, di7, di8, di9, postX_ret, postX_normal, ex_some]
  have hb := r_Bound (r := r) (p := setW p w) (bs := coverL v) hr (setW_ok hp ⟨hw.1, h1⟩) (by omega) hcb
  simp only [setW] at hb
  refine calls_of hb ?_; simp only [ruI, ssI, sbI, spI, swI, scI, stI, srI, saI, snI, res78, b78k0, b78k1, b78k2, ↓reduceIte, reduceCtorEq, Nat.reduceEqDiff, Nat.reduceAdd, Nat.reduceMul, Nat.reduceSub, Nat.reduceLeDiff, Nat.reduceBEq, Int.reduceToNat, Int.reduceLE, Int.reduceLT, Int.reduceEq, Int.reduceNe, di0, di1, di2, di3, di4, di5, di6, di7, di8, di9, postX_ret, postX_normal, ex_some]
  have hk : keepsW r p v w = (((boundP r ⟨p.load, p.ch, w, p.ticks⟩ (coverL v)).1 = true ∧ v.lo ≤ (boundP r ⟨p.load, p.ch, w, p.ticks⟩ (coverL v)).2.1) ∧ (boundP r ⟨p.load, p.ch, w, p.ticks⟩ (coverL v)).2.2 ≤ v.hi) := rfl
  generalize boundP r ⟨p.load, p.ch, w, p.ticks⟩ (coverL v) = B at hk
  obtain ⟨Bf, B1, B2⟩ := B
  dsimp only at hk ⊢
  cases Bf
  · rw [if_neg (by rw [hk]; simp)] at he
    simp only [ruI, ssI, sbI, spI, swI, scI, stI, srI, saI, snI, ↓reduceIte, reduceCtorEq, Nat.reduceEqDiff, Nat.reduceAdd, Nat.reduceMul, Nat.reduceSub, Nat.reduceLeDiff, Nat.reduceBEq, Int.reduceToNat, Int.reduceLE, Int.reduceLT, Int.reduceEq, Int.reduceNe, di0, di1, di2, di3, di4, di5, di6, di7, di8, di9, postX_ret, postX_normal, ex_some]
    simp only [show IntKind.wrap .i64 (w + 1) = w + 1 from wrap64 (by omega) (by omega)]
    refine ih (w + 1) _ _ (by omega) ⟨by omega, he⟩ (by simp only [scCells, ruI, ssI, sbI, spI, swI, scI, stI, srI, saI, snI, ↓reduceIte, reduceCtorEq, Nat.reduceEqDiff, Nat.reduceAdd, Nat.reduceMul, Nat.reduceSub, Nat.reduceLeDiff, Nat.reduceBEq, Int.reduceToNat, Int.reduceLE, Int.reduceLT, Int.reduceEq, Int.reduceNe, di0, di1, di2, di3, di4, di5, di6, di7, di8, di9, postX_ret, postX_normal, ex_some] <;> rfl)
  · simp only [ruI, ssI, sbI, spI, swI, scI, stI, srI, saI, snI, ↓reduceIte, reduceCtorEq, Nat.reduceEqDiff, Nat.reduceAdd, Nat.reduceMul, Nat.reduceSub, Nat.reduceLeDiff, Nat.reduceBEq, Int.reduceToNat, Int.reduceLE, Int.reduceLT, Int.reduceEq, Int.reduceNe, di0, di1, di2, di3, di4, di5, di6, di7, di8, di9, postX_ret, postX_normal, ex_some]
    by_cases k1 : v.lo ≤ B1
    case neg =>
      rw [if_neg (by rw [hk]; simp [k1])] at he
      simp only [k1, ruI, ssI, sbI, spI, swI, scI, stI, srI, saI, snI, ↓reduceIte, reduceCtorEq, Nat.reduceEqDiff, Nat.reduceAdd, Nat.reduceMul, Nat.reduceSub, Nat.reduceLeDiff, Nat.reduceBEq, Int.reduceToNat, Int.reduceLE, Int.reduceLT, Int.reduceEq, Int.reduceNe, di0, di1, di2, di3, di4, di5, di6, di7, di8, di9, postX_ret, postX_normal, ex_some]
      simp only [show IntKind.wrap .i64 (w + 1) = w + 1 from wrap64 (by omega) (by omega)]
      refine ih (w + 1) _ _ (by omega) ⟨by omega, he⟩ (by simp only [scCells, ruI, ssI, sbI, spI, swI, scI, stI, srI, saI, snI, ↓reduceIte, reduceCtorEq, Nat.reduceEqDiff, Nat.reduceAdd, Nat.reduceMul, Nat.reduceSub, Nat.reduceLeDiff, Nat.reduceBEq, Int.reduceToNat, Int.reduceLE, Int.reduceLT, Int.reduceEq, Int.reduceNe, di0, di1, di2, di3, di4, di5, di6, di7, di8, di9, postX_ret, postX_normal, ex_some] <;> rfl)
    simp only [k1, ruI, ssI, sbI, spI, swI, scI, stI, srI, saI, snI, ↓reduceIte, reduceCtorEq, Nat.reduceEqDiff, Nat.reduceAdd, Nat.reduceMul, Nat.reduceSub, Nat.reduceLeDiff, Nat.reduceBEq, Int.reduceToNat, Int.reduceLE, Int.reduceLT, Int.reduceEq, Int.reduceNe, di0, di1, di2, di3, di4, di5, di6, di7, di8, di9, postX_ret, postX_normal, ex_some]
    by_cases k2 : B2 ≤ v.hi
    case neg =>
      rw [if_neg (by rw [hk]; simp [k2])] at he
      simp only [k2, ruI, ssI, sbI, spI, swI, scI, stI, srI, saI, snI, ↓reduceIte, reduceCtorEq, Nat.reduceEqDiff, Nat.reduceAdd, Nat.reduceMul, Nat.reduceSub, Nat.reduceLeDiff, Nat.reduceBEq, Int.reduceToNat, Int.reduceLE, Int.reduceLT, Int.reduceEq, Int.reduceNe, di0, di1, di2, di3, di4, di5, di6, di7, di8, di9, postX_ret, postX_normal, ex_some]
      simp only [show IntKind.wrap .i64 (w + 1) = w + 1 from wrap64 (by omega) (by omega)]
      refine ih (w + 1) _ _ (by omega) ⟨by omega, he⟩ (by simp only [scCells, ruI, ssI, sbI, spI, swI, scI, stI, srI, saI, snI, ↓reduceIte, reduceCtorEq, Nat.reduceEqDiff, Nat.reduceAdd, Nat.reduceMul, Nat.reduceSub, Nat.reduceLeDiff, Nat.reduceBEq, Int.reduceToNat, Int.reduceLE, Int.reduceLT, Int.reduceEq, Int.reduceNe, di0, di1, di2, di3, di4, di5, di6, di7, di8, di9, postX_ret, postX_normal, ex_some] <;> rfl)
    rw [if_pos (by rw [hk]; exact ⟨⟨rfl, k1⟩, k2⟩)] at he
    simp only [k2, ruI, ssI, sbI, spI, swI, scI, stI, srI, saI, snI, ↓reduceIte, reduceCtorEq, Nat.reduceEqDiff, Nat.reduceAdd, Nat.reduceMul, Nat.reduceSub, Nat.reduceLeDiff, Nat.reduceBEq, Int.reduceToNat, Int.reduceLE, Int.reduceLT, Int.reduceEq, Int.reduceNe, di0, di1, di2, di3, di4, di5, di6, di7, di8, di9, postX_ret, postX_normal, ex_some]
    rw [he]
    rfl

theorem bfold_true : ∀ {l : List Bx} {y : Bool × Int × Int}, y.1 = true → (l.foldl bStp y).1 = true
  | [], _, h => h
  | b :: l, y, _ => bfold_true (l := l) (y := bStp y b) rfl
theorem bfold_init {l : List Bx} {y : Bool × Int × Int} (h : (l.foldl bStp y).1 = false) : l.foldl bStp y = y := by
  cases l with
  | nil => rfl
  | cons b l =>
    have := bfold_true (l := l) (y := bStp y b) rfl
    rw [List.foldl_cons] at h
    rw [h] at this
    cases this
theorem fold_init {α : Type} {f : Bool × Int × Int → α → Bool × Int × Int} (hf : ∀ y x, (f y x).1 = false → f y x = y) : ∀ {l : List α} {y : Bool × Int × Int}, (l.foldl f y).1 = false → l.foldl f y = y
  | [], _, _ => rfl
  | x :: l, y, h => by
    rw [List.foldl_cons] at h ⊢
    have h1 := fold_init hf h
    rw [h1] at h ⊢
    exact hf y x h
theorem bound_none {r : Ru} {p : Pl} {bs : List Bx} (h : (boundP r p bs).1 = false) : boundP r p bs = (false, 0, 0) :=
  fold_init (f := bOrd r p bs) (fun _ o ho => fold_init (f := bBox r p o) (fun _ _ hb => bfold_init hb) ho) h
end Go.DI

