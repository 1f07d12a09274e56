/- The functions of sums of states, as data. No condition. -/
import Derived.Test.YtadmimjaelodkaaSmGe
import Derived.Test.YtadmimjaelodkaaProg
import Derived.KernelRfl
namespace Go.DI
open Go.Proofs Go.RowKit
/-- guidevane/guidevanebase.CopyInts -/
def b1024 : DCode :=
 (.seq
  (.region [⟨(some 2), .mov, [.z 1], none, []⟩] false)
  (.seq
   (.region [⟨(some 3), (.bsl 1), [], none, []⟩,
     ⟨(some 4), .movv, [.t 0], none, []⟩,
     ⟨(some 5), (.appv 8), [.t 3, .t 4], none, [0, 1]⟩,
     ⟨(some 2), .mov, [.t 5], none, [2, 2, 0, 1, 2]⟩] false)
   (.ren 5 1000
    .ret)))
def d1024 : DFn := ⟨1, 6, [.tmp 2], b1024⟩
theorem body1024 : d1024.body = b1024 := rfl
theorem res1024 : d1024.res = [.tmp 2] := rfl
theorem k1024 : chkFnB Try.prog Try.f24 d1024 [] [1000] = true := by kernel_rfl

/-- guidevane/guidevanebase.CopyInts -/
def b2024 : DCode :=
 (.seq
  (.region [⟨(some 2), .mov, [.z 1], none, []⟩] false)
  (.seq
   (.region [⟨(some 3), (.bsl 1), [], none, []⟩,
     ⟨(some 4), .movv, [.t 0], none, []⟩,
     ⟨(some 5), (.appv 8), [.t 3, .t 4], none, [0, 1]⟩,
     ⟨(some 2), .mov, [.t 5], none, [2, 2, 0, 1, 2]⟩] false)
   (.ren 5 1001
    .ret)))
def d2024 : DFn := ⟨1, 6, [.tmp 2], b2024⟩
theorem body2024 : d2024.body = b2024 := rfl
theorem res2024 : d2024.res = [.tmp 2] := rfl
theorem k2024 : chkFnB Try.prog Try.f24 d2024 [] [1001] = true := by kernel_rfl

/-- guidevane/guidevanebase.CopyInts -/
def b3024 : DCode :=
 (.seq
  (.region [⟨(some 2), .mov, [.z 1], none, []⟩] false)
  (.seq
   (.region [⟨(some 3), (.bsl 1), [], none, []⟩,
     ⟨(some 4), .movv, [.t 0], none, []⟩,
     ⟨(some 5), (.appv 8), [.t 3, .t 4], none, [0, 1]⟩,
     ⟨(some 2), .mov, [.t 5], none, [2, 2, 0, 1, 2]⟩] false)
   (.ren 5 1002
    .ret)))
def d3024 : DFn := ⟨1, 6, [.tmp 2], b3024⟩
theorem body3024 : d3024.body = b3024 := rfl
theorem res3024 : d3024.res = [.tmp 2] := rfl
theorem k3024 : chkFnB Try.prog Try.f24 d3024 [] [1002] = true := by kernel_rfl

/-- guidevane/guidevaneref03.CopyState -/
def b1023 : DCode :=
 (.seq
  (.region [⟨(some 1), .box, [.t 0], none, []⟩,
    ⟨(some 2), (.alloc [(.imm (.slc 1 [])), (.imm (.slc 1 [])), (.imm (.slc 1 []))]), [], none, []⟩] false)
  (.seq
   (.region [⟨(some 3), (.faddr 0 false 1), [.t 1], none, []⟩,
     ⟨(some 4), (.loadf false 1 [1]), [.t 3], none, [0]⟩,
     ⟨(some 6), (.faddr 1 false 1), [.t 1], none, []⟩,
     ⟨(some 7), (.loadf false 1 [1]), [.t 6], none, [3]⟩,
     ⟨(some 9), (.faddr 2 false 1), [.t 1], none, []⟩,
     ⟨(some 10), (.loadf false 1 [1]), [.t 9], none, [6]⟩,
     ⟨(some 5), (.callb []), [.f 24, .t 4], none, [1]⟩,
     ⟨(some 8), (.callb []), [.f 24, .t 7], none, [4, 2]⟩,
     ⟨(some 11), (.callb []), [.f 24, .t 10], none, [7, 5]⟩,
     ⟨(some 12), (.buildr [(.cap0 1 []), (.cap0 1 []), (.cap0 1 [])] [(0, 1), (1, 1), (2, 1)]), [.t 5, .t 8, .t 11], none, [2, 5, 8]⟩,
     ⟨none, (.storef 3 [2]), [.t 2, .t 12], none, [9, 8, 0, 1, 2, 3, 4, 5, 6, 7, 8, 9]⟩] true)
   .ret))
def d1023 : DFn := ⟨1, 13, [.cell 2 true 3], b1023⟩
theorem body1023 : d1023.body = b1023 := rfl
theorem res1023 : d1023.res = [.cell 2 true 3] := rfl
theorem k1023 : chkFnB Try.prog Try.f23 d1023 [] [1000, 1001, 1002] = true := by kernel_rfl

/-- guidevane/guidevanelaw03.added -/
def b35k0 : DCode :=
 (.seq
  (.block 1
   (.region [⟨(some 17), (.faddr 0 false 1), [.t 5], none, []⟩,
     ⟨(some 18), (.loadf false 1 [5]), [.t 17], none, [0]⟩,
     ⟨(some 19), .mov, [.t 6], none, []⟩,
     ⟨(some 20), (.faddr 1 false 1), [.t 5], none, []⟩,
     ⟨(some 21), (.loadf false 1 [5]), [.t 20], none, [3]⟩,
     ⟨(some 22), .mov, [.t 6], none, []⟩,
     ⟨(some 23), (.faddr 0 false 1), [.t 2], none, []⟩,
     ⟨(some 24), (.loadf false 1 [2]), [.t 23], none, [6]⟩,
     ⟨(some 25), .mov, [.t 6], none, []⟩,
     ⟨(some 26), (.iaddr 1), [.t 24, .t 25], none, [7, 8]⟩,
     ⟨(some 27), (.loadf false 1 []), [.t 26], none, [9]⟩,
     ⟨(some 28), (.faddr 0 false 1), [.t 3], none, []⟩,
     ⟨(some 29), (.loadf false 1 [3]), [.t 28], none, [11]⟩,
     ⟨(some 30), .mov, [.t 6], none, []⟩,
     ⟨(some 31), (.iaddr 1), [.t 29, .t 30], none, [12, 13]⟩,
     ⟨(some 32), (.loadf false 1 []), [.t 31], none, [14]⟩,
     ⟨(some 33), (.bin .add), [.t 27, .t 32], none, [10, 15]⟩,
     ⟨(some 34), (.faddr 1 false 1), [.t 2], none, []⟩,
     ⟨(some 35), (.loadf false 1 [2]), [.t 34], none, [17]⟩,
     ⟨(some 36), .mov, [.t 6], none, []⟩,
     ⟨(some 37), (.iaddr 1), [.t 35, .t 36], none, [18, 19]⟩,
     ⟨(some 38), (.loadf false 1 []), [.t 37], none, [20]⟩,
     ⟨(some 39), (.faddr 1 false 1), [.t 3], none, []⟩,
     ⟨(some 40), (.loadf false 1 [3]), [.t 39], none, [22]⟩,
     ⟨(some 41), .mov, [.t 6], none, []⟩,
     ⟨(some 42), (.iaddr 1), [.t 40, .t 41], none, [23, 24]⟩,
     ⟨(some 43), (.loadf false 1 []), [.t 42], none, [25]⟩,
     ⟨(some 44), (.bin .add), [.t 38, .t 43], none, [21, 26]⟩,
     ⟨(some 45), (.iaddr 1), [.t 18, .t 19], none, [1, 2, 0, 1, 2, 6, 7, 8, 9, 10, 11, 12, 13, 14, 15, 16, 21, 26]⟩,
     ⟨none, (.storef 1 [1000, 1001, 1002]), [.t 45, .t 33], none, [28, 16, 0, 1, 2, 6, 7, 8, 9, 10, 11, 12, 13, 14, 15, 16, 21, 26]⟩,
     ⟨(some 46), (.iaddr 1), [.t 21, .t 22], none, [4, 5, 0, 1, 2, 3, 4, 5, 6, 7, 8, 9, 10, 11, 12, 13, 14, 15, 16, 17, 18, 19, 20, 21, 22, 23, 24, 25, 26, 27, 28, 29]⟩,
     ⟨none, (.storef 1 [1000, 1001, 1002]), [.t 46, .t 44], none, [30, 27, 29, 0, 1, 2, 3, 4, 5, 6, 7, 8, 9, 10, 11, 12, 13, 14, 15, 16, 17, 18, 19, 20, 21, 22, 23, 24, 25, 26, 27, 28, 29]⟩] true))
  (.region [⟨(some 15), .mov, [.t 6], none, []⟩,
    ⟨(some 16), (.bin .add), [.t 15, .c (.int .i64 1)], none, [0]⟩,
    ⟨(some 6), .mov, [.t 16], none, [1, 0, 1]⟩] false))
def b35l0 : DCode := .keep [2, 3, 4, 5, 6] [2, 3, 4, 5, 1000, 1001, 1002]
  (.seq
   (.seq
    (.region [⟨(some 10), .mov, [.t 6], none, []⟩,
      ⟨(some 11), (.faddr 0 false 1), [.t 5], none, []⟩,
      ⟨(some 12), (.load false 1), [.t 11], none, [1]⟩,
      ⟨(some 13), .len, [.t 12], none, [2]⟩,
      ⟨(some 14), (.bin .lss), [.t 10, .t 13], none, [0, 3]⟩] false)
    (.cond (.t 14)
     .skip
     (.exit 0)))
   (.keep [2, 3, 4, 5, 6] [2, 3, 4, 5, 1000, 1001, 1002] b35k0))
def b35k1 : DCode :=
 (.seq
  (.block 3
   (.region [⟨(some 54), (.faddr 2 false 1), [.t 5], none, []⟩,
     ⟨(some 55), (.load false 1), [.t 54], none, [0]⟩,
     ⟨(some 56), .mov, [.t 7], none, []⟩,
     ⟨(some 57), (.faddr 2 false 1), [.t 2], none, []⟩,
     ⟨(some 58), (.load false 1), [.t 57], none, [3]⟩,
     ⟨(some 59), .mov, [.t 7], none, []⟩,
     ⟨(some 60), (.iaddr 1), [.t 58, .t 59], none, [4, 5]⟩,
     ⟨(some 61), (.load false 1), [.t 60], none, [6]⟩,
     ⟨(some 62), (.faddr 2 false 1), [.t 3], none, []⟩,
     ⟨(some 63), (.load false 1), [.t 62], none, [8]⟩,
     ⟨(some 64), .mov, [.t 7], none, []⟩,
     ⟨(some 65), (.iaddr 1), [.t 63, .t 64], none, [9, 10]⟩,
     ⟨(some 66), (.load false 1), [.t 65], none, [11]⟩,
     ⟨(some 67), (.bin .add), [.t 61, .t 66], none, [7, 12]⟩,
     ⟨(some 68), (.iaddr 1), [.t 55, .t 56], none, [1, 2, 0, 1, 2, 3, 4, 5, 6, 7, 8, 9, 10, 11, 12, 13]⟩,
     ⟨none, (.store 1), [.t 68, .t 67], none, [14, 13, 0, 1, 2, 3, 4, 5, 6, 7, 8, 9, 10, 11, 12, 13]⟩] true))
  (.region [⟨(some 52), .mov, [.t 7], none, []⟩,
    ⟨(some 53), (.bin .add), [.t 52, .c (.int .i64 1)], none, [0]⟩,
    ⟨(some 7), .mov, [.t 53], none, [1, 0, 1]⟩] false))
def b35l1 : DCode := .keep [2, 3, 4, 5, 7] [2, 3, 4, 5, 1000, 1001, 1002]
  (.seq
   (.seq
    (.region [⟨(some 47), .mov, [.t 7], none, []⟩,
      ⟨(some 48), (.faddr 2 false 1), [.t 5], none, []⟩,
      ⟨(some 49), (.load false 1), [.t 48], none, [1]⟩,
      ⟨(some 50), .len, [.t 49], none, [2]⟩,
      ⟨(some 51), (.bin .lss), [.t 47, .t 50], none, [0, 3]⟩] false)
    (.cond (.t 51)
     .skip
     (.exit 2)))
   (.keep [2, 3, 4, 5, 7] [2, 3, 4, 5, 1000, 1001, 1002] b35k1))
def b35k2 : DCode :=
 (.seq
  (.region [⟨(some 69), (.load true 3), [.t 5], none, []⟩,
    ⟨none, (.store 3), [.t 4, .t 69], none, [0, 0]⟩] false)
  (.freeze [1000, 1001, 1002]
   .ret))
def b35k3 : DCode :=
 (.seq
  (.seq
   (.region [⟨(some 7), .mov, [.c (.int .i64 0)], none, []⟩] false)
   (.block 2
    (.loop b35l1)))
  (.keep [4, 5] [4, 5, 1000, 1001, 1002] b35k2))
def b35 : DCode :=
 (.seq
  (.region [⟨(some 2), .box, [.t 0], none, []⟩,
    ⟨(some 3), .box, [.t 1], none, []⟩,
    ⟨(some 4), (.alloc [(.imm (.slc 1 [])), (.imm (.slc 1 [])), (.imm (.slc 1 []))]), [], none, []⟩] false)
  (.seq
   (.region [⟨(some 8), (.load true 3), [.t 2], none, []⟩,
     ⟨(some 9), (.callb []), [.f 23, .t 8], none, [0]⟩,
     ⟨(some 5), (.alloc [(.imm (.slc 1 [])), (.imm (.slc 1 [])), (.imm (.slc 1 []))]), [], none, []⟩,
     ⟨none, (.store 3), [.t 5, .t 9], none, [2, 1, 1, 0, 1, 2]⟩] false)
   (.seq
    (.seq
     (.region [⟨(some 6), .mov, [.c (.int .i64 0)], none, []⟩] false)
     (.block 0
      (.loop b35l0)))
    (.keep [2, 3, 4, 5] [2, 3, 4, 5, 1000, 1001, 1002] b35k3))))
def d35 : DFn := ⟨2, 70, [.cell 4 true 3], b35⟩
theorem body35 : d35.body = b35 := rfl
theorem res35 : d35.res = [.cell 4 true 3] := rfl
theorem k35 : chkFn Try.prog Try.f35 d35 = true := by kernel_rfl

/-- guidevane/guidevanelaw03.sized -/
def b36 : DCode :=
 (.seq
  (.region [⟨(some 2), .box, [.t 0], none, []⟩,
    ⟨(some 3), .box, [.t 1], none, []⟩,
    ⟨(some 4), .mov, [.c (.bool false)], none, []⟩] false)
  (.seq
   (.region [⟨(some 6), (.load true 2), [.t 2], none, []⟩,
     ⟨(some 7), .call, [.f 40, .t 6], none, [0]⟩,
     ⟨(some 5), .mov, [.t 7], none, [1, 1, 0, 1]⟩] false)
   (.seq
    (.region [⟨(some 8), (.faddr 0 false 1), [.t 3], none, []⟩,
      ⟨(some 9), (.load false 1), [.t 8], none, [0]⟩,
      ⟨(some 10), .len, [.t 9], none, [1]⟩,
      ⟨(some 11), .mov, [.t 5], none, []⟩,
      ⟨(some 12), (.bin .eql), [.t 10, .t 11], none, [2, 3]⟩,
      ⟨(some 13), .mov, [.t 12], none, [4]⟩,
      ⟨(some 14), (.faddr 1 false 1), [.t 3], (some (13, true)), [5]⟩,
      ⟨(some 15), (.load false 1), [.t 14], (some (13, true)), [6, 5]⟩,
      ⟨(some 16), .len, [.t 15], (some (13, true)), [7, 5]⟩,
      ⟨(some 17), .mov, [.t 5], (some (13, true)), [5]⟩,
      ⟨(some 18), (.bin .eql), [.t 16, .t 17], (some (13, true)), [8, 9, 5]⟩,
      ⟨(some 19), .pick, [.t 13, .t 18, .c (.bool false)], none, [5, 10]⟩,
      ⟨(some 20), .mov, [.t 19], none, [11, 5]⟩,
      ⟨(some 21), (.faddr 2 false 1), [.t 3], (some (20, true)), [12]⟩,
      ⟨(some 22), (.load false 1), [.t 21], (some (20, true)), [13, 12]⟩,
      ⟨(some 23), .len, [.t 22], (some (20, true)), [14, 12]⟩,
      ⟨(some 24), (.faddr 1 false 1), [.t 2], (some (20, true)), [12]⟩,
      ⟨(some 25), (.load false 1), [.t 24], (some (20, true)), [16, 12]⟩,
      ⟨(some 26), .len, [.t 25], (some (20, true)), [17, 12]⟩,
      ⟨(some 27), (.bin .eql), [.t 23, .t 26], (some (20, true)), [15, 18, 12]⟩,
      ⟨(some 28), .pick, [.t 20, .t 27, .c (.bool false)], none, [12, 19]⟩,
      ⟨(some 4), .mov, [.t 28], none, [20, 12, 0, 1, 2, 3, 4, 5, 6, 7, 8, 9, 10, 11, 12, 13, 14, 15, 16, 17, 18, 19, 20]⟩] false)
    .ret)))
def d36 : DFn := ⟨2, 29, [.tmp 4], b36⟩
theorem body36 : d36.body = b36 := rfl
theorem res36 : d36.res = [.tmp 4] := rfl
theorem k36 : chkFn Try.prog Try.f36 d36 = true := by kernel_rfl

/-- guidevane/guidevanelaw03.WaveSums -/
def b4k0 : DCode :=
 (.region [⟨(some 107), .mov, [.t 7], none, []⟩,
   ⟨(some 108), (.iarr 2 1 false), [.t 5, .c (.int .i64 0)], none, []⟩,
   ⟨(some 109), (.load false 1), [.t 108], none, [1]⟩,
   ⟨(some 110), .mov, [.t 8], none, []⟩,
   ⟨(some 111), (.iaddr 1), [.t 109, .t 110], none, [2, 3]⟩,
   ⟨(some 112), (.load false 1), [.t 111], none, [4]⟩,
   ⟨(some 113), (.iarr 2 1 false), [.t 5, .c (.int .i64 1)], none, []⟩,
   ⟨(some 114), (.load false 1), [.t 113], none, [6]⟩,
   ⟨(some 115), .mov, [.t 8], none, []⟩,
   ⟨(some 116), (.iaddr 1), [.t 114, .t 115], none, [7, 8]⟩,
   ⟨(some 117), (.load false 1), [.t 116], none, [9]⟩,
   ⟨(some 118), (.bin .add), [.t 112, .t 117], none, [5, 10]⟩,
   ⟨(some 119), (.bsl 1), [.t 118], none, [11]⟩,
   ⟨(some 120), (.append 1 8 false), [.t 107, .t 119], none, [0, 12]⟩,
   ⟨(some 7), .mov, [.t 120], none, [13, 13, 0, 1, 2, 3, 4, 5, 6, 7, 8, 9, 10, 11, 12, 13]⟩] true)
def b4k1 : DCode :=
 (.region [⟨(some 89), .mov, [.t 8], none, []⟩,
   ⟨(some 90), (.bin .add), [.t 89, .c (.int .i64 1)], none, [0]⟩,
   ⟨(some 8), .mov, [.t 90], none, [1, 0, 1]⟩] false)
def b4k2 : DCode :=
 (.seq
  (.block 1
   (.seq
    (.seq
     (.region [⟨(some 91), (.iarr 2 1 false), [.t 5, .c (.int .i64 0)], none, []⟩,
       ⟨(some 92), (.load false 1), [.t 91], none, [0]⟩,
       ⟨(some 93), .mov, [.t 8], none, []⟩,
       ⟨(some 94), (.iaddr 1), [.t 92, .t 93], none, [1, 2]⟩,
       ⟨(some 95), (.load false 1), [.t 94], none, [3]⟩,
       ⟨(some 96), .call, [.f 34, .t 95, .c (.int .i64 (-500)), .c (.int .i64 500)], none, [4]⟩,
       ⟨(some 97), (.un .not), [.t 96], none, [5]⟩,
       ⟨(some 98), .mov, [.t 97], none, [6, 5]⟩,
       ⟨(some 99), (.iarr 2 1 false), [.t 5, .c (.int .i64 1)], (some (98, false)), [7]⟩,
       ⟨(some 100), (.load false 1), [.t 99], (some (98, false)), [8, 7]⟩,
       ⟨(some 101), .mov, [.t 8], (some (98, false)), [7]⟩,
       ⟨(some 102), (.iaddr 1), [.t 100, .t 101], (some (98, false)), [9, 10, 7]⟩,
       ⟨(some 103), (.load false 1), [.t 102], (some (98, false)), [11, 7]⟩,
       ⟨(some 104), .call, [.f 34, .t 103, .c (.int .i64 (-500)), .c (.int .i64 500)], (some (98, false)), [12, 7, 7]⟩,
       ⟨(some 105), (.un .not), [.t 104], (some (98, false)), [13, 7]⟩,
       ⟨(some 106), .pick, [.t 98, .c (.bool true), .t 105], none, [7, 14]⟩] false)
     (.cond (.t 106)
      (.seq
       (.region [⟨(some 6), .mov, [.c (.bool true)], none, []⟩] false)
       .ret)
      .skip))
    (.keep [3, 4, 5, 7, 8] [3, 4, 5, 7, 120] b4k0)))
  (.keep [3, 4, 5, 7, 8] [3, 4, 5, 7, 120] b4k1))
def b4l0 : DCode := .keep [3, 4, 5, 7, 8] [3, 4, 5, 7, 120]
  (.seq
   (.seq
    (.region [⟨(some 84), .mov, [.t 8], none, []⟩,
      ⟨(some 85), (.iarr 2 1 false), [.t 5, .c (.int .i64 0)], none, []⟩,
      ⟨(some 86), (.load false 1), [.t 85], none, [1]⟩,
      ⟨(some 87), .len, [.t 86], none, [2]⟩,
      ⟨(some 88), (.bin .lss), [.t 84, .t 87], none, [0, 3]⟩] false)
    (.cond (.t 88)
     .skip
     (.exit 0)))
   (.keep [3, 4, 5, 7, 8] [3, 4, 5, 7, 120] b4k2))
def b4k3 : DCode :=
 (.seq
  (.region [⟨(some 122), (.load true 2), [.t 3], none, []⟩,
    ⟨(some 123), .call, [.f 22, .t 122], none, [0]⟩,
    ⟨(some 124), (.iarr 2 3 true), [.t 4, .c (.int .i64 0)], none, []⟩,
    ⟨(some 125), (.load true 3), [.t 124], none, [2]⟩,
    ⟨(some 126), .call, [.f 23, .t 125], none, [3, 1]⟩,
    ⟨(some 127), (.iarr 2 1 false), [.t 5, .c (.int .i64 0)], none, []⟩,
    ⟨(some 128), (.load false 1), [.t 127], none, [5]⟩,
    ⟨(some 129), .call, [.f 24, .t 128], none, [6, 4]⟩,
    ⟨(some 130), .call, [.f 21, .t 123, .t 126, .t 129], none, [1, 4, 7, 7]⟩,
    ⟨(some 121), .mov, [.t 130], none, [8]⟩,
    ⟨(some 131), (.ext 0), [.t 121], none, [9]⟩,
    ⟨(some 132), (.ext 1), [.t 121], none, [9]⟩,
    ⟨(some 9), (.alloc [(.imm (.slc 1 [])), (.imm (.slc 1 [])), (.imm (.slc 1 []))]), [], none, []⟩,
    ⟨none, (.store 3), [.t 9, .t 131], none, [12, 10, 8, 0, 1, 2, 3, 4, 5, 6, 7, 8, 9, 10, 12]⟩,
    ⟨(some 10), .mov, [.t 132], none, [11, 13, 0, 1, 2, 3, 4, 5, 6, 7, 8, 9, 10, 11, 12, 13]⟩] true)
  (.seq
   (.region [⟨(some 134), (.load true 2), [.t 3], none, []⟩,
     ⟨(some 135), .call, [.f 22, .t 134], none, [0]⟩,
     ⟨(some 136), (.iarr 2 3 true), [.t 4, .c (.int .i64 1)], none, []⟩,
     ⟨(some 137), (.load true 3), [.t 136], none, [2]⟩,
     ⟨(some 138), .call, [.f 23, .t 137], none, [3, 1]⟩,
     ⟨(some 139), (.iarr 2 1 false), [.t 5, .c (.int .i64 1)], none, []⟩,
     ⟨(some 140), (.load false 1), [.t 139], none, [5]⟩,
     ⟨(some 141), .call, [.f 24, .t 140], none, [6, 4]⟩,
     ⟨(some 142), .call, [.f 21, .t 135, .t 138, .t 141], none, [1, 4, 7, 7]⟩,
     ⟨(some 133), .mov, [.t 142], none, [8]⟩,
     ⟨(some 143), (.ext 0), [.t 133], none, [9]⟩,
     ⟨(some 144), (.ext 1), [.t 133], none, [9]⟩,
     ⟨(some 11), (.alloc [(.imm (.slc 1 [])), (.imm (.slc 1 [])), (.imm (.slc 1 []))]), [], none, []⟩,
     ⟨none, (.store 3), [.t 11, .t 143], none, [12, 10, 8, 0, 1, 2, 3, 4, 5, 6, 7, 8, 9, 10, 12]⟩,
     ⟨(some 12), .mov, [.t 144], none, [11, 13, 0, 1, 2, 3, 4, 5, 6, 7, 8, 9, 10, 11, 12, 13]⟩] true)
   (.seq
    (.region [⟨(some 146), (.load true 2), [.t 3], none, []⟩,
      ⟨(some 147), .call, [.f 22, .t 146], none, [0]⟩,
      ⟨(some 148), (.iarr 2 3 true), [.t 4, .c (.int .i64 0)], none, []⟩,
      ⟨(some 149), (.load true 3), [.t 148], none, [2]⟩,
      ⟨(some 150), (.iarr 2 3 true), [.t 4, .c (.int .i64 1)], none, []⟩,
      ⟨(some 151), (.load true 3), [.t 150], none, [4]⟩,
      ⟨(some 152), .call, [.f 35, .t 149, .t 151], none, [3, 5, 1]⟩,
      ⟨(some 153), .movv, [.t 7], none, []⟩,
      ⟨(some 154), .call, [.f 21, .t 147, .t 152, .t 153], none, [1, 6, 7, 6]⟩,
      ⟨(some 145), .mov, [.t 154], none, [8]⟩,
      ⟨(some 155), (.ext 0), [.t 145], none, [9]⟩,
      ⟨(some 156), (.ext 1), [.t 145], none, [9]⟩,
      ⟨(some 13), (.alloc [(.imm (.slc 1 [])), (.imm (.slc 1 [])), (.imm (.slc 1 []))]), [], none, []⟩,
      ⟨none, (.store 3), [.t 13, .t 155], none, [12, 10, 8, 0, 1, 2, 3, 4, 5, 6, 7, 8, 9, 10, 12]⟩,
      ⟨(some 14), .mov, [.t 156], none, [11, 13, 0, 1, 2, 3, 4, 5, 6, 7, 8, 9, 10, 11, 12, 13]⟩] true)
    (.seq
     (.region [⟨(some 157), .mov, [.t 10], none, []⟩,
       ⟨(some 158), (.bin .eql), [.t 157, .c (.int .i64 0)], none, [0]⟩,
       ⟨(some 159), .mov, [.t 158], none, [1]⟩,
       ⟨(some 160), .mov, [.t 12], (some (159, true)), [2]⟩,
       ⟨(some 161), (.bin .eql), [.t 160, .c (.int .i64 0)], (some (159, true)), [3, 2]⟩,
       ⟨(some 162), .pick, [.t 159, .t 161, .c (.bool false)], none, [2, 4]⟩,
       ⟨(some 163), .mov, [.t 162], none, [5, 2]⟩,
       ⟨(some 164), .mov, [.t 14], (some (163, true)), [6]⟩,
       ⟨(some 165), (.bin .eql), [.t 164, .c (.int .i64 0)], (some (163, true)), [7, 6]⟩,
       ⟨(some 166), .pick, [.t 163, .t 165, .c (.bool false)], none, [6, 8]⟩,
       ⟨(some 167), .mov, [.t 166], none, [9, 6]⟩,
       ⟨(some 168), (.load true 2), [.t 3], (some (167, true)), [10]⟩,
       ⟨(some 169), (.load true 3), [.t 9], (some (167, true)), [10]⟩,
       ⟨(some 170), .call, [.f 36, .t 168, .t 169], (some (167, true)), [11, 12, 10, 10]⟩,
       ⟨(some 171), .pick, [.t 167, .t 170, .c (.bool false)], none, [10, 13]⟩,
       ⟨(some 172), .mov, [.t 171], none, [14, 13]⟩,
       ⟨(some 173), (.load true 2), [.t 3], (some (172, true)), [15]⟩,
       ⟨(some 174), (.load true 3), [.t 11], (some (172, true)), [15]⟩,
       ⟨(some 175), .call, [.f 36, .t 173, .t 174], (some (172, true)), [16, 17, 15, 15]⟩,
       ⟨(some 176), .pick, [.t 172, .t 175, .c (.bool false)], none, [15, 18]⟩,
       ⟨(some 177), .mov, [.t 176], none, [19, 18]⟩,
       ⟨(some 178), (.load true 3), [.t 13], (some (177, true)), [20]⟩,
       ⟨(some 179), (.load true 3), [.t 9], (some (177, true)), [20]⟩,
       ⟨(some 180), (.load true 3), [.t 11], (some (177, true)), [20]⟩,
       ⟨(some 181), .call, [.f 35, .t 179, .t 180], (some (177, true)), [22, 23, 20, 20]⟩,
       ⟨(some 182), .call, [.f 27, .t 178, .t 181], (some (177, true)), [21, 24, 24, 20]⟩,
       ⟨(some 183), .pick, [.t 177, .t 182, .c (.bool false)], none, [20, 25]⟩,
       ⟨(some 6), .mov, [.t 183], none, [26, 25, 0, 1, 2, 3, 4, 5, 6, 7, 8, 9, 10, 11, 12, 13, 14, 15, 16, 17, 18, 19, 20, 21, 22, 23, 24, 25, 26]⟩] true)
     .ret))))
def b4k4 : DCode :=
 (.seq
  (.region [⟨(some 7), (.ntok 1), [.c (.slc 1 [])], none, []⟩] false)
  (.seq
   (.seq
    (.region [⟨(some 8), .mov, [.c (.int .i64 0)], none, []⟩] false)
    (.block 0
     (.loop b4l0)))
   (.keep [3, 4, 5, 7] [3, 4, 5, 7, 120] b4k3)))
def b4k5 : DCode :=
 (.seq
  (.seq
   (.region [⟨(some 17), (.load true 2), [.t 3], none, []⟩,
     ⟨(some 18), .call, [.f 18, .t 17], none, [0]⟩,
     ⟨(some 19), (.un .not), [.t 18], none, [1]⟩,
     ⟨(some 20), .mov, [.t 19], none, [2, 1]⟩,
     ⟨(some 21), (.iarr 2 3 true), [.t 4, .c (.int .i64 0)], (some (20, false)), [3]⟩,
     ⟨(some 22), (.load true 3), [.t 21], (some (20, false)), [4, 3]⟩,
     ⟨(some 23), .call, [.f 19, .t 22], (some (20, false)), [5, 3, 3]⟩,
     ⟨(some 24), (.un .not), [.t 23], (some (20, false)), [6, 3]⟩,
     ⟨(some 25), .pick, [.t 20, .c (.bool true), .t 24], none, [3, 7]⟩,
     ⟨(some 26), .mov, [.t 25], none, [8, 6]⟩,
     ⟨(some 27), (.iarr 2 3 true), [.t 4, .c (.int .i64 1)], (some (26, false)), [9]⟩,
     ⟨(some 28), (.load true 3), [.t 27], (some (26, false)), [10, 9]⟩,
     ⟨(some 29), .call, [.f 19, .t 28], (some (26, false)), [11, 9, 9]⟩,
     ⟨(some 30), (.un .not), [.t 29], (some (26, false)), [12, 9]⟩,
     ⟨(some 31), .pick, [.t 26, .c (.bool true), .t 30], none, [9, 13]⟩,
     ⟨(some 32), .mov, [.t 31], none, [14, 12]⟩,
     ⟨(some 33), (.load true 2), [.t 3], (some (32, false)), [15]⟩,
     ⟨(some 34), (.iarr 2 3 true), [.t 4, .c (.int .i64 0)], (some (32, false)), [15]⟩,
     ⟨(some 35), (.load true 3), [.t 34], (some (32, false)), [17, 15]⟩,
     ⟨(some 36), .call, [.f 26, .t 33, .t 35], (some (32, false)), [16, 18, 15, 15]⟩,
     ⟨(some 37), (.bin .neq), [.t 36, .c (.int .i64 0)], (some (32, false)), [19, 15]⟩,
     ⟨(some 38), .pick, [.t 32, .c (.bool true), .t 37], none, [15, 20]⟩,
     ⟨(some 39), .mov, [.t 38], none, [21, 19]⟩,
     ⟨(some 40), (.load true 2), [.t 3], (some (39, false)), [22]⟩,
     ⟨(some 41), (.iarr 2 3 true), [.t 4, .c (.int .i64 1)], (some (39, false)), [22]⟩,
     ⟨(some 42), (.load true 3), [.t 41], (some (39, false)), [24, 22]⟩,
     ⟨(some 43), .call, [.f 26, .t 40, .t 42], (some (39, false)), [23, 25, 22, 22]⟩,
     ⟨(some 44), (.bin .neq), [.t 43, .c (.int .i64 0)], (some (39, false)), [26, 22]⟩,
     ⟨(some 45), .pick, [.t 39, .c (.bool true), .t 44], none, [22, 27]⟩,
     ⟨(some 46), .mov, [.t 45], none, [28, 26]⟩,
     ⟨(some 47), (.load true 2), [.t 3], (some (46, false)), [29]⟩,
     ⟨(some 48), .call, [.f 32, .t 47], (some (46, false)), [30, 29, 29]⟩,
     ⟨(some 49), (.un .not), [.t 48], (some (46, false)), [31, 29]⟩,
     ⟨(some 50), .pick, [.t 46, .c (.bool true), .t 49], none, [29, 32]⟩,
     ⟨(some 51), .mov, [.t 50], none, [33, 31]⟩,
     ⟨(some 52), (.iarr 2 3 true), [.t 4, .c (.int .i64 0)], (some (51, false)), [34]⟩,
     ⟨(some 53), (.load true 3), [.t 52], (some (51, false)), [35, 34]⟩,
     ⟨(some 54), .call, [.f 33, .t 53], (some (51, false)), [36, 34, 34]⟩,
     ⟨(some 55), (.un .not), [.t 54], (some (51, false)), [37, 34]⟩,
     ⟨(some 56), .pick, [.t 51, .c (.bool true), .t 55], none, [34, 38]⟩,
     ⟨(some 57), .mov, [.t 56], none, [39, 37]⟩,
     ⟨(some 58), (.iarr 2 3 true), [.t 4, .c (.int .i64 1)], (some (57, false)), [40]⟩,
     ⟨(some 59), (.load true 3), [.t 58], (some (57, false)), [41, 40]⟩,
     ⟨(some 60), .call, [.f 33, .t 59], (some (57, false)), [42, 40, 40]⟩,
     ⟨(some 61), (.un .not), [.t 60], (some (57, false)), [43, 40]⟩,
     ⟨(some 62), .pick, [.t 57, .c (.bool true), .t 61], none, [40, 44]⟩,
     ⟨(some 63), .mov, [.t 62], none, [45, 43]⟩,
     ⟨(some 64), (.iarr 2 1 false), [.t 5, .c (.int .i64 0)], (some (63, false)), [46]⟩,
     ⟨(some 65), (.load false 1), [.t 64], (some (63, false)), [47, 46]⟩,
     ⟨(some 66), .len, [.t 65], (some (63, false)), [48, 46]⟩,
     ⟨(some 67), (.bin .eql), [.t 66, .c (.int .i64 0)], (some (63, false)), [49, 46]⟩,
     ⟨(some 68), .pick, [.t 63, .c (.bool true), .t 67], none, [46, 50]⟩,
     ⟨(some 69), .mov, [.t 68], none, [51, 46]⟩,
     ⟨(some 70), (.iarr 2 1 false), [.t 5, .c (.int .i64 0)], (some (69, false)), [52]⟩,
     ⟨(some 71), (.load false 1), [.t 70], (some (69, false)), [53, 52]⟩,
     ⟨(some 72), .len, [.t 71], (some (69, false)), [54, 52]⟩,
     ⟨(some 73), (.bin .gtr), [.t 72, .c (.int .i64 20)], (some (69, false)), [55, 52]⟩,
     ⟨(some 74), .pick, [.t 69, .c (.bool true), .t 73], none, [52, 56]⟩,
     ⟨(some 75), .mov, [.t 74], none, [57, 52]⟩,
     ⟨(some 76), (.iarr 2 1 false), [.t 5, .c (.int .i64 1)], (some (75, false)), [58]⟩,
     ⟨(some 77), (.load false 1), [.t 76], (some (75, false)), [59, 58]⟩,
     ⟨(some 78), .len, [.t 77], (some (75, false)), [60, 58]⟩,
     ⟨(some 79), (.iarr 2 1 false), [.t 5, .c (.int .i64 0)], (some (75, false)), [58]⟩,
     ⟨(some 80), (.load false 1), [.t 79], (some (75, false)), [62, 58]⟩,
     ⟨(some 81), .len, [.t 80], (some (75, false)), [63, 58]⟩,
     ⟨(some 82), (.bin .neq), [.t 78, .t 81], (some (75, false)), [61, 64, 58]⟩,
     ⟨(some 83), .pick, [.t 75, .c (.bool true), .t 82], none, [58, 65]⟩] false)
   (.cond (.t 83)
    (.seq
     (.region [⟨(some 6), .mov, [.c (.bool true)], none, []⟩] false)
     .ret)
    .skip))
  (.keep [3, 4, 5] [3, 4, 5] b4k4))
def b4 : DCode :=
 (.seq
  (.region [⟨(some 3), .box, [.t 0], none, []⟩,
    ⟨(some 4), .box, [.t 1], none, []⟩,
    ⟨(some 5), .box, [.t 2], none, []⟩,
    ⟨(some 6), .mov, [.c (.bool false)], none, []⟩] false)
  (.seq
   (.seq
    (.region [⟨(some 15), .call, [.f 17], none, []⟩,
      ⟨(some 16), (.un .not), [.t 15], none, [0]⟩] false)
    (.cond (.t 16)
     (.seq
      (.region [⟨(some 6), .mov, [.c (.bool false)], none, []⟩] false)
      .ret)
     .skip))
   (.keep [3, 4, 5] [3, 4, 5] b4k5)))
def d4 : DFn := ⟨3, 184, [.tmp 6], b4⟩
theorem body4 : d4.body = b4 := rfl
theorem res4 : d4.res = [.tmp 6] := rfl
theorem k4 : chkFn Try.prog Try.f4 d4 = true := by kernel_rfl

end Go.DI

