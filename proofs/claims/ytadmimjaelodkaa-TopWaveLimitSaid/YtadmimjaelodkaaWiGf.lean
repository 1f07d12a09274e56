/- Contracts of lines, states, ticks. No condition. -/
import Derived.Test.YtadmimjaelodkaaWeGe
import Derived.Test.YtadmimjaelodkaaProg
import Derived.KernelRfl
import Derived.Test.YtadmimjaelodkaaWeGa
import Derived.IntWalk
/- The functions of lines and states of waves, as data. No condition. -/
namespace Go.DI
open Go.Proofs Go.RowKit
def b115 : DCode :=
 (.seq
  (.region [⟨(some 6), .mov, [.c (.bool false)], none, []⟩] false)
  (.seq
   (.region [⟨(some 7), .mov, [.t 1], none, []⟩,
     ⟨(some 8), .mov, [.t 0], none, []⟩,
     ⟨(some 9), (.bin .leq), [.t 7, .t 8], none, [0, 1]⟩,
     ⟨(some 10), .mov, [.t 9], none, [2]⟩,
     ⟨(some 11), .mov, [.t 0], (some (10, true)), [3]⟩,
     ⟨(some 12), .mov, [.t 2], (some (10, true)), [3]⟩,
     ⟨(some 13), (.bin .leq), [.t 11, .t 12], (some (10, true)), [4, 5, 3]⟩,
     ⟨(some 14), .pick, [.t 10, .t 13, .c (.bool false)], none, [3, 6]⟩,
     ⟨(some 6), .mov, [.t 14], none, [7, 3, 0, 1, 2, 3, 4, 5, 6, 7]⟩] false)
   .ret))
def d115 : DFn := ⟨3, 15, [.tmp 6], b115⟩
theorem body115 : d115.body = b115 := rfl
theorem res115 : d115.res = [.tmp 6] := rfl
theorem k115 : chkFn Try.prog Try.f115 d115 = true := by kernel_rfl

def b127 : DCode :=
 (.seq
  (.region [⟨(some 4), .mov, [.c (.bool false)], none, []⟩] false)
  (.seq
   (.region [⟨(some 5), .mov, [.t 0], none, []⟩,
     ⟨(some 6), .mov, [.t 1], none, []⟩,
     ⟨(some 7), (.un .neg), [.t 6], none, [1]⟩,
     ⟨(some 8), .mov, [.t 1], none, []⟩,
     ⟨(some 9), .call, [.f 115, .t 5, .t 7, .t 8], none, [0, 2, 3]⟩,
     ⟨(some 4), .mov, [.t 9], none, [4, 4, 0, 1, 2, 3, 4]⟩] false)
   .ret))
def d127 : DFn := ⟨2, 10, [.tmp 4], b127⟩
theorem body127 : d127.body = b127 := rfl
theorem res127 : d127.res = [.tmp 4] := rfl
theorem k127 : chkFn Try.prog Try.f127 d127 = true := by kernel_rfl

def b90k0 : DCode :=
 (.seq
  (.region [⟨(some 6), .mov, [.t 1], none, []⟩,
    ⟨(some 4), .mov, [.t 6], none, [0, 0]⟩] false)
  .ret)
def b90 : DCode :=
 (.seq
  (.region [⟨(some 4), .mov, [.c (.int .i64 0)], none, []⟩] false)
  (.seq
   (.seq
    (.region [⟨(some 5), .mov, [.t 0], none, []⟩] false)
    (.cond (.t 5)
     (.seq
      (.region [⟨(some 4), .mov, [.c (.int .i64 0)], none, []⟩] false)
      .ret)
     .skip))
   (.keep [1] [] b90k0)))
def d90 : DFn := ⟨2, 7, [.tmp 4], b90⟩
theorem body90 : d90.body = b90 := rfl
theorem res90 : d90.res = [.tmp 4] := rfl
theorem k90 : chkFn Try.prog Try.f90 d90 = true := by kernel_rfl

def b89k0 : DCode :=
 (.region [⟨(some 14), (.bin .add), [.t 7, .c (.int .i64 1)], none, []⟩,
   ⟨(some 7), .mov, [.t 14], none, [0]⟩] false)
def b89k1 : DCode :=
 (.seq
  (.block 1
   (.seq
    (.region [⟨(some 9), (.iaddr 1), [.t 5, .t 7], none, []⟩,
      ⟨(some 10), (.load false 1), [.t 9], none, [0]⟩,
      ⟨(some 4), .mov, [.t 10], none, [1, 0, 1]⟩] false)
    (.seq
     (.region [⟨(some 11), .mov, [.t 4], none, []⟩,
       ⟨(some 12), (.bin .neq), [.t 11, .c (.int .i64 0)], none, [0]⟩] false)
     (.cond (.t 12)
      (.seq
       (.region [⟨(some 13), .mov, [.t 4], none, []⟩,
         ⟨(some 2), .mov, [.t 13], none, [0, 0]⟩] false)
       .ret)
      .skip))))
  (.keep [5, 6, 7] [] b89k0))
def b89l0 : DCode := .keep [5, 6, 7] []
  (.seq
   (.region [⟨(some 8), (.bin .lss), [.t 7, .t 6], none, []⟩] false)
   (.seq
    (.cond (.t 8)
     .skip
     (.exit 0))
    (.keep [5, 6, 7] [] b89k1)))
def b89k2 : DCode :=
 (.seq
  (.region [⟨(some 2), .mov, [.c (.int .i64 0)], none, []⟩] false)
  .ret)
def b89 : DCode :=
 (.seq
  (.region [⟨(some 2), .mov, [.c (.int .i64 0)], none, []⟩] false)
  (.seq
   (.seq
    (.region [⟨(some 5), .movv, [.t 0], none, []⟩,
      ⟨(some 6), .len, [.t 5], none, [0]⟩,
      ⟨(some 7), .mov, [.c (.int .i64 0)], none, []⟩] false)
    (.block 0
     (.loop b89l0)))
   (.keep [] [] b89k2)))
def d89 : DFn := ⟨1, 15, [.tmp 2], b89⟩
theorem body89 : d89.body = b89 := rfl
theorem res89 : d89.res = [.tmp 2] := rfl
theorem k89 : chkFn Try.prog Try.f89 d89 = true := by kernel_rfl

def b133 : DCode :=
 (.seq
  (.region [⟨(some 1), .box, [.t 0], none, []⟩,
    ⟨(some 2), .mov, [.c (.int .i64 0)], none, []⟩] false)
  (.seq
   (.region [⟨(some 3), (.faddr 3 false 1), [.t 1], none, []⟩,
     ⟨(some 4), (.load false 1), [.t 3], none, [0]⟩,
     ⟨(some 5), (.bin .sub), [.t 4, .c (.int .i64 1)], none, [1]⟩,
     ⟨(some 2), .mov, [.t 5], none, [2, 0, 1, 2]⟩] false)
   .ret))
def d133 : DFn := ⟨1, 6, [.tmp 2], b133⟩
theorem body133 : d133.body = b133 := rfl
theorem res133 : d133.res = [.tmp 2] := rfl
theorem k133 : chkFn Try.prog Try.f133 d133 = true := by kernel_rfl

def b146 : DCode :=
 (.seq
  (.region [⟨(some 1), .box, [.t 0], none, []⟩,
    ⟨(some 2), (.alloc [(.imm (.slc 1 [])), (.imm (.slc 1 [])), (.imm (.slc 1 []))]), [], none, []⟩] false)
  (.seq
   (.region [⟨(some 3), (.faddr 3 false 1), [.t 1], none, []⟩,
     ⟨(some 4), (.load false 1), [.t 3], none, [0]⟩,
     ⟨(some 5), (.mksl (.int .i64 0) 8), [.t 4, .t 4], none, [1, 1]⟩,
     ⟨(some 6), (.faddr 3 false 1), [.t 1], none, []⟩,
     ⟨(some 7), (.load false 1), [.t 6], none, [3]⟩,
     ⟨(some 8), (.mksl (.int .i64 0) 8), [.t 7, .t 7], none, [4, 4]⟩,
     ⟨(some 9), (.faddr 0 true 2), [.t 1], none, []⟩,
     ⟨(some 10), (.faddr 1 false 1), [.t 9], none, [6]⟩,
     ⟨(some 11), (.load false 1), [.t 10], none, [7]⟩,
     ⟨(some 12), .len, [.t 11], none, [8]⟩,
     ⟨(some 13), (.mksl (.int .i64 0) 8), [.t 12, .t 12], none, [9, 9]⟩,
     ⟨(some 14), (.build [(.imm (.slc 1 [])), (.imm (.slc 1 [])), (.imm (.slc 1 []))] [(0, 1), (1, 1), (2, 1)]), [.t 5, .t 8, .t 13], none, [2, 5, 10]⟩,
     ⟨none, (.store 3), [.t 2, .t 14], none, [11, 0, 1, 2, 3, 4, 5, 6, 7, 8, 9, 10, 11]⟩] true)
   (.freeze [5, 8, 13]
    .ret)))
def d146 : DFn := ⟨1, 15, [.cell 2 true 3], b146⟩
theorem body146 : d146.body = b146 := rfl
theorem res146 : d146.res = [.cell 2 true 3] := rfl
theorem k146 : chkFn Try.prog Try.f146 d146 = true := by kernel_rfl

def b1146 : DCode :=
 (.seq
  (.region [⟨(some 1), .box, [.t 0], none, []⟩,
    ⟨(some 2), (.alloc [(.imm (.slc 1 [])), (.imm (.slc 1 [])), (.imm (.slc 1 []))]), [], none, []⟩] false)
  (.seq
   (.region [⟨(some 3), (.faddr 3 false 1), [.t 1], none, []⟩,
     ⟨(some 4), (.load false 1), [.t 3], none, [0]⟩,
     ⟨(some 5), (.mksl (.int .i64 0) 8), [.t 4, .t 4], none, [1, 1]⟩,
     ⟨(some 6), (.faddr 3 false 1), [.t 1], none, []⟩,
     ⟨(some 7), (.load false 1), [.t 6], none, [3]⟩,
     ⟨(some 8), (.mksl (.int .i64 0) 8), [.t 7, .t 7], none, [4, 4]⟩,
     ⟨(some 9), (.faddr 0 true 2), [.t 1], none, []⟩,
     ⟨(some 10), (.faddr 1 false 1), [.t 9], none, [6]⟩,
     ⟨(some 11), (.load false 1), [.t 10], none, [7]⟩,
     ⟨(some 12), .len, [.t 11], none, [8]⟩,
     ⟨(some 13), (.mksl (.int .i64 0) 8), [.t 12, .t 12], none, [9, 9]⟩,
     ⟨(some 14), (.build [(.imm (.slc 1 [])), (.imm (.slc 1 [])), (.imm (.slc 1 []))] [(0, 1), (1, 1), (2, 1)]), [.t 5, .t 8, .t 13], none, [2, 5, 10]⟩,
     ⟨none, (.store 3), [.t 2, .t 14], none, [11, 0, 1, 2, 3, 4, 5, 6, 7, 8, 9, 10, 11]⟩] true)
   (.ren 5 1000
    (.ren 8 1001
     (.ren 13 1002
      .ret)))))
def d1146 : DFn := ⟨1, 15, [.cell 2 true 3], b1146⟩
theorem body1146 : d1146.body = b1146 := rfl
theorem res1146 : d1146.res = [.cell 2 true 3] := rfl
theorem k1146 : chkFnB Try.prog Try.f146 d1146 [] [1000, 1001, 1002] = true := by kernel_rfl

def b93k0 : DCode :=
 (.seq
  (.block 1
   (.seq
    (.region [⟨(some 57), .mov, [.t 55], none, []⟩,
      ⟨(some 58), (.iaddr 1), [.t 53, .t 55], none, []⟩,
      ⟨(some 59), (.load false 1), [.t 58], none, [1]⟩,
      ⟨(some 8), .mov, [.t 57], none, [0, 0, 1, 2]⟩,
      ⟨(some 9), .mov, [.t 59], none, [2, 3, 0, 1, 2, 3]⟩] false)
    (.seq
     (.region [⟨(some 60), (.faddr 2 false 1), [.t 3], none, []⟩,
       ⟨(some 61), (.load false 1), [.t 60], none, [0]⟩,
       ⟨(some 62), .mov, [.t 8], none, []⟩,
       ⟨(some 63), (.bin .add), [.t 62, .c (.int .i64 1)], none, [2]⟩,
       ⟨(some 64), (.iaddr 1), [.t 61, .t 63], none, [1, 3]⟩,
       ⟨(some 65), (.load false 1), [.t 64], none, [4]⟩,
       ⟨(some 10), .mov, [.t 65], none, [5, 0, 1, 2, 3, 4, 5]⟩] false)
     (.seq
      (.region [⟨(some 66), (.faddr 0 true 2), [.t 3], none, []⟩,
        ⟨(some 67), (.faddr 0 false 1), [.t 66], none, [0]⟩,
        ⟨(some 68), (.load false 1), [.t 67], none, [1]⟩,
        ⟨(some 69), .mov, [.t 8], none, []⟩,
        ⟨(some 70), (.iaddr 2), [.t 68, .t 69], none, [2, 3]⟩,
        ⟨(some 71), (.faddr 1 false 1), [.t 70], none, [4]⟩,
        ⟨(some 72), (.load false 1), [.t 71], none, [5]⟩,
        ⟨(some 73), (.faddr 0 true 2), [.t 3], none, []⟩,
        ⟨(some 74), (.faddr 0 false 1), [.t 73], none, [7]⟩,
        ⟨(some 75), (.load false 1), [.t 74], none, [8]⟩,
        ⟨(some 76), .mov, [.t 8], none, []⟩,
        ⟨(some 77), (.bin .add), [.t 76, .c (.int .i64 1)], none, [10]⟩,
        ⟨(some 78), (.iaddr 2), [.t 75, .t 77], none, [9, 11]⟩,
        ⟨(some 79), (.faddr 1 false 1), [.t 78], none, [12]⟩,
        ⟨(some 80), (.load false 1), [.t 79], none, [13]⟩,
        ⟨(some 11), .mov, [.t 72], none, [6, 0, 1, 2, 3, 4, 5, 6]⟩,
        ⟨(some 12), .mov, [.t 80], none, [14, 15, 0, 1, 2, 3, 4, 5, 6, 7, 8, 9, 10, 11, 12, 13, 14, 15]⟩] true)
      (.seq
       (.region [⟨(some 81), (.faddr 0 false 1), [.t 4], none, []⟩,
         ⟨(some 82), (.load false 1), [.t 81], none, [0]⟩,
         ⟨(some 83), .mov, [.t 10], none, []⟩,
         ⟨(some 84), (.bin .sub), [.t 83, .c (.int .i64 1)], none, [2]⟩,
         ⟨(some 85), (.iaddr 1), [.t 82, .t 84], none, [1, 3]⟩,
         ⟨(some 86), (.load false 1), [.t 85], none, [4]⟩,
         ⟨(some 87), (.faddr 1 false 1), [.t 4], none, []⟩,
         ⟨(some 88), (.load false 1), [.t 87], none, [6]⟩,
         ⟨(some 89), .mov, [.t 10], none, []⟩,
         ⟨(some 90), (.iaddr 1), [.t 88, .t 89], none, [7, 8]⟩,
         ⟨(some 91), (.load false 1), [.t 90], none, [9]⟩,
         ⟨(some 13), .mov, [.t 86], none, [5, 0, 1, 2, 3, 4, 5]⟩,
         ⟨(some 14), .mov, [.t 91], none, [10, 11, 0, 1, 2, 3, 4, 5, 6, 7, 8, 9, 10, 11]⟩] true)
       (.seq
        (.region [⟨(some 92), .mov, [.t 11], none, []⟩,
          ⟨(some 93), (.bin .mul), [.c (.int .i64 2), .t 92], none, [0]⟩,
          ⟨(some 94), .mov, [.t 13], none, []⟩,
          ⟨(some 95), (.bin .mul), [.t 93, .t 94], none, [1, 2]⟩,
          ⟨(some 96), .mov, [.t 12], none, []⟩,
          ⟨(some 97), (.bin .mul), [.c (.int .i64 2), .t 96], none, [4]⟩,
          ⟨(some 98), .mov, [.t 14], none, []⟩,
          ⟨(some 99), (.bin .mul), [.t 97, .t 98], none, [5, 6]⟩,
          ⟨(some 100), (.bin .add), [.t 95, .t 99], none, [3, 7]⟩,
          ⟨(some 101), .mov, [.t 9], none, []⟩,
          ⟨(some 102), (.faddr 2 false 1), [.t 4], none, []⟩,
          ⟨(some 103), (.load false 1), [.t 102], none, [10]⟩,
          ⟨(some 104), .mov, [.t 8], none, []⟩,
          ⟨(some 105), (.iaddr 1), [.t 103, .t 104], none, [11, 12]⟩,
          ⟨(some 106), (.load false 1), [.t 105], none, [13]⟩,
          ⟨(some 107), (.bin .mul), [.t 101, .t 106], none, [9, 14]⟩,
          ⟨(some 108), (.bin .add), [.t 100, .t 107], none, [8, 15]⟩,
          ⟨(some 109), .mov, [.t 11], none, []⟩,
          ⟨(some 110), .mov, [.t 12], none, []⟩,
          ⟨(some 111), (.bin .add), [.t 109, .t 110], none, [17, 18]⟩,
          ⟨(some 112), .mov, [.t 9], none, []⟩,
          ⟨(some 113), (.bin .add), [.t 111, .t 112], none, [19, 20]⟩,
          ⟨(some 114), (.bin .quo), [.t 108, .t 113], none, [16, 21]⟩,
          ⟨(some 15), .mov, [.t 114], none, [22, 0, 1, 2, 3, 4, 5, 6, 7, 8, 9, 10, 11, 12, 13, 14, 15, 16, 17, 18, 19, 20, 21, 22]⟩] false)
        (.seq
         (.region [⟨(some 115), (.faddr 2 false 1), [.t 7], none, []⟩,
           ⟨(some 116), (.load false 1), [.t 115], none, [0]⟩,
           ⟨(some 117), .mov, [.t 8], none, []⟩,
           ⟨(some 118), .mov, [.t 15], none, []⟩,
           ⟨(some 119), (.iaddr 1), [.t 116, .t 117], none, [1, 2, 0, 1, 2, 3]⟩,
           ⟨none, (.store 1), [.t 119, .t 118], none, [4, 3, 0, 1, 2, 3]⟩] false)
         (.region [⟨(some 120), (.faddr 1 false 1), [.t 7], none, []⟩,
           ⟨(some 121), (.loadf false 1 [7]), [.t 120], none, [0]⟩,
           ⟨(some 122), .mov, [.t 10], none, []⟩,
           ⟨(some 123), (.bin .sub), [.t 122, .c (.int .i64 1)], none, [2]⟩,
           ⟨(some 124), (.faddr 0 false 1), [.t 7], none, []⟩,
           ⟨(some 125), (.loadf false 1 [7]), [.t 124], none, [4]⟩,
           ⟨(some 126), .mov, [.t 10], none, []⟩,
           ⟨(some 127), .mov, [.t 15], none, []⟩,
           ⟨(some 128), .mov, [.t 13], none, []⟩,
           ⟨(some 129), (.bin .sub), [.t 127, .t 128], none, [7, 8]⟩,
           ⟨(some 130), .mov, [.t 15], none, []⟩,
           ⟨(some 131), .mov, [.t 14], none, []⟩,
           ⟨(some 132), (.bin .sub), [.t 130, .t 131], none, [10, 11]⟩,
           ⟨(some 133), (.iaddr 1), [.t 121, .t 123], none, [1, 3, 0, 1, 2, 3, 7, 8, 9]⟩,
           ⟨none, (.storef 1 [1000, 1001, 1002]), [.t 133, .t 129], none, [13, 9, 0, 1, 2, 3, 7, 8, 9]⟩,
           ⟨(some 134), (.iaddr 1), [.t 125, .t 126], none, [5, 6, 0, 1, 2, 3, 4, 5, 6, 7, 8, 9, 10, 11, 12, 13, 14]⟩,
           ⟨none, (.storef 1 [1000, 1001, 1002]), [.t 134, .t 132], none, [15, 12, 14, 0, 1, 2, 3, 4, 5, 6, 7, 8, 9, 10, 11, 12, 13, 14]⟩] true))))))))
  (.region [⟨(some 135), (.bin .add), [.t 55, .c (.int .i64 1)], none, []⟩,
    ⟨(some 55), .mov, [.t 135], none, [0]⟩] false))
def b93l0 : DCode := .keep [3, 4, 6, 7, 53, 54, 55] [3, 4, 6, 7, 1000, 1001, 1002]
  (.seq
   (.region [⟨(some 56), (.bin .lss), [.t 55, .t 54], none, []⟩] false)
   (.seq
    (.cond (.t 56)
     .skip
     (.exit 0))
    (.keep [3, 4, 6, 7, 53, 54, 55] [3, 4, 6, 7, 1000, 1001, 1002] b93k0)))
def b93k1 : DCode :=
 (.seq
  (.region [⟨(some 136), (.load true 3), [.t 7], none, []⟩,
    ⟨none, (.store 3), [.t 6, .t 136], none, [0, 0]⟩] false)
  (.freeze [1000, 1001, 1002]
   .ret))
def b93 : DCode :=
 (.seq
  (.region [⟨(some 3), .box, [.t 0], none, []⟩,
    ⟨(some 4), .box, [.t 1], none, []⟩,
    ⟨(some 6), (.alloc [(.imm (.slc 1 [])), (.imm (.slc 1 [])), (.imm (.slc 1 []))]), [], none, []⟩] false)
  (.seq
   (.region [⟨(some 16), (.load true 4), [.t 3], none, []⟩,
     ⟨(some 17), (.callb []), [.f 146, .t 16], none, [0]⟩,
     ⟨(some 7), (.alloc [(.imm (.slc 1 [])), (.imm (.slc 1 [])), (.imm (.slc 1 []))]), [], none, []⟩,
     ⟨none, (.store 3), [.t 7, .t 17], none, [2, 1, 1, 0, 1, 2]⟩] false)
   (.seq
    (.region [⟨(some 18), (.faddr 0 false 1), [.t 7], none, []⟩,
      ⟨(some 19), (.load false 1), [.t 18], none, [0]⟩,
      ⟨(some 20), (.slice 1 true false), [.t 19, .c (.int .i64 1)], none, [1]⟩,
      ⟨(some 21), (.faddr 0 false 1), [.t 4], none, []⟩,
      ⟨(some 22), (.load false 1), [.t 21], none, [3]⟩,
      ⟨(some 23), .copy, [.t 20, .t 22], none, [2, 4]⟩] true)
    (.seq
     (.region [⟨(some 24), (.faddr 1 false 1), [.t 7], none, []⟩,
       ⟨(some 25), (.load false 1), [.t 24], none, [0]⟩,
       ⟨(some 26), (.faddr 1 false 1), [.t 4], none, []⟩,
       ⟨(some 27), (.load false 1), [.t 26], none, [2]⟩,
       ⟨(some 28), (.slice 1 true false), [.t 27, .c (.int .i64 1)], none, [3]⟩,
       ⟨(some 29), .copy, [.t 25, .t 28], none, [1, 4]⟩] true)
     (.seq
      (.region [⟨(some 30), (.faddr 0 false 1), [.t 7], none, []⟩,
        ⟨(some 31), (.load false 1), [.t 30], none, [0]⟩,
        ⟨(some 32), (.faddr 1 false 1), [.t 4], none, []⟩,
        ⟨(some 33), (.load false 1), [.t 32], none, [2]⟩,
        ⟨(some 34), (.iaddr 1), [.t 33, .c (.int .i64 0)], none, [3]⟩,
        ⟨(some 35), (.load false 1), [.t 34], none, [4]⟩,
        ⟨(some 36), (.un .neg), [.t 35], none, [5]⟩,
        ⟨(some 37), (.iaddr 1), [.t 31, .c (.int .i64 0)], none, [1, 0, 1, 2, 3, 4, 5, 6]⟩,
        ⟨none, (.store 1), [.t 37, .t 36], none, [7, 6, 0, 1, 2, 3, 4, 5, 6]⟩] true)
      (.seq
       (.region [⟨(some 38), (.faddr 1 false 1), [.t 7], none, []⟩,
         ⟨(some 39), (.load false 1), [.t 38], none, [0]⟩,
         ⟨(some 40), (.load true 4), [.t 3], none, []⟩,
         ⟨(some 41), .call, [.f 133, .t 40], none, [2]⟩,
         ⟨(some 42), (.faddr 0 false 1), [.t 4], none, []⟩,
         ⟨(some 43), (.load false 1), [.t 42], none, [4]⟩,
         ⟨(some 44), (.load true 4), [.t 3], none, []⟩,
         ⟨(some 45), .call, [.f 133, .t 44], none, [6, 3]⟩,
         ⟨(some 46), (.iaddr 1), [.t 43, .t 45], none, [5, 7]⟩,
         ⟨(some 47), (.load false 1), [.t 46], none, [8]⟩,
         ⟨(some 48), .mov, [.t 2], none, []⟩,
         ⟨(some 49), (.bin .add), [.t 47, .t 48], none, [9, 10]⟩,
         ⟨(some 50), (.iaddr 1), [.t 39, .t 41], none, [1, 3, 0, 1, 2, 3, 4, 5, 6, 7, 8, 9, 10, 11]⟩,
         ⟨none, (.store 1), [.t 50, .t 49], none, [12, 11, 7, 0, 1, 2, 3, 4, 5, 6, 7, 8, 9, 10, 11]⟩] true)
       (.seq
        (.seq
         (.region [⟨(some 51), (.faddr 0 true 2), [.t 3], none, []⟩,
           ⟨(some 52), (.faddr 1 false 1), [.t 51], none, [0]⟩,
           ⟨(some 53), (.load false 1), [.t 52], none, [1]⟩,
           ⟨(some 54), .len, [.t 53], none, [2]⟩,
           ⟨(some 55), .mov, [.c (.int .i64 0)], none, []⟩] false)
         (.block 0
          (.loop b93l0)))
        (.keep [6, 7] [6, 7, 1000, 1001, 1002] b93k1))))))))
def d93 : DFn := ⟨3, 137, [.cell 6 true 3], b93⟩
theorem body93 : d93.body = b93 := rfl
theorem res93 : d93.res = [.cell 6 true 3] := rfl
theorem k93 : chkFn Try.prog Try.f93 d93 = true := by kernel_rfl

def b147 : DCode :=
 (.seq
  (.region [⟨(some 2), .mov, [.c (.int .i64 0)], none, []⟩] false)
  (.seq
   (.region [⟨(some 3), .mov, [.t 0], none, []⟩,
     ⟨(some 4), .call, [.f 115, .t 3, .c (.int .i64 1), .c (.int .i64 200)], none, [0]⟩,
     ⟨(some 5), .call, [.f 90, .t 4, .c (.int .i64 2)], none, [1, 1]⟩,
     ⟨(some 2), .mov, [.t 5], none, [2, 2, 0, 1, 2]⟩] false)
   .ret))
def d147 : DFn := ⟨1, 6, [.tmp 2], b147⟩
theorem body147 : d147.body = b147 := rfl
theorem res147 : d147.res = [.tmp 2] := rfl
theorem k147 : chkFn Try.prog Try.f147 d147 = true := by kernel_rfl

def b59k0 : DCode :=
 (.region [⟨(some 51), (.bin .add), [.t 35, .c (.int .i64 1)], none, []⟩,
   ⟨(some 35), .mov, [.t 51], none, [0]⟩] false)
def b59k1 : DCode :=
 (.seq
  (.block 1
   (.seq
    (.region [⟨(some 37), .mov, [.t 35], none, []⟩,
      ⟨(some 38), (.iaddr 2), [.t 33, .t 35], none, []⟩,
      ⟨(some 39), (.load true 2), [.t 38], none, [1]⟩,
      ⟨(some 6), (.alloc [(.imm (.int .i64 0)), (.imm (.int .i64 0))]), [], none, []⟩,
      ⟨(some 5), .mov, [.t 37], none, [0, 0, 1, 2, 3]⟩,
      ⟨none, (.store 2), [.t 6, .t 39], none, [3, 2, 4, 0, 1, 2, 3, 4]⟩] false)
    (.seq
     (.region [⟨(some 40), (.faddr 0 false 1), [.t 6], none, []⟩,
       ⟨(some 41), (.load false 1), [.t 40], none, [0]⟩,
       ⟨(some 42), .call, [.f 115, .t 41, .c (.int .i64 1), .c (.int .i64 6)], none, [1]⟩,
       ⟨(some 43), (.un .not), [.t 42], none, [2]⟩,
       ⟨(some 44), .mov, [.t 43], none, [3, 2]⟩,
       ⟨(some 45), (.faddr 1 false 1), [.t 6], (some (44, false)), [4]⟩,
       ⟨(some 46), (.load false 1), [.t 45], (some (44, false)), [5, 4]⟩,
       ⟨(some 47), .call, [.f 115, .t 46, .c (.int .i64 1), .c (.int .i64 10)], (some (44, false)), [6, 4, 4]⟩,
       ⟨(some 48), (.un .not), [.t 47], (some (44, false)), [7, 4]⟩,
       ⟨(some 49), .pick, [.t 44, .c (.bool true), .t 48], none, [4, 8]⟩] false)
     (.cond (.t 49)
      (.seq
       (.region [⟨(some 50), .mov, [.t 5], none, []⟩,
         ⟨(some 2), .mov, [.t 50], none, [0, 0]⟩,
         ⟨(some 3), .mov, [.c (.int .i64 2)], none, [1, 0, 1]⟩] false)
       .ret)
      .skip))))
  (.keep [1, 33, 34, 35] [1] b59k0))
def b59l0 : DCode := .keep [1, 33, 34, 35] [1]
  (.seq
   (.region [⟨(some 36), (.bin .lss), [.t 35, .t 34], none, []⟩] false)
   (.seq
    (.cond (.t 36)
     .skip
     (.exit 0))
    (.keep [1, 33, 34, 35] [1] b59k1)))
def b59k2 : DCode :=
 (.seq
  (.region [⟨(some 2), .mov, [.c (.int .i64 0)], none, []⟩,
    ⟨(some 3), .mov, [.c (.int .i64 0)], none, [0, 0]⟩] false)
  .ret)
def b59k3 : DCode :=
 (.seq
  (.seq
   (.region [⟨(some 52), (.faddr 1 false 1), [.t 1], none, []⟩,
     ⟨(some 53), (.load false 1), [.t 52], none, [0]⟩,
     ⟨(some 54), .call, [.f 116, .t 53, .f 117], none, [1]⟩,
     ⟨(some 7), .mov, [.t 54], none, [2, 2, 0, 1, 2]⟩] false)
   (.seq
    (.region [⟨(some 55), .mov, [.t 7], none, []⟩,
      ⟨(some 56), (.bin .geq), [.t 55, .c (.int .i64 0)], none, [0]⟩] false)
    (.cond (.t 56)
     (.seq
      (.region [⟨(some 57), .mov, [.t 7], none, []⟩,
        ⟨(some 2), .mov, [.t 57], none, [0, 0]⟩,
        ⟨(some 3), .mov, [.c (.int .i64 2)], none, [1, 0, 1]⟩] false)
      .ret)
     .skip)))
  (.keep [] [] b59k2))
def b59k4 : DCode :=
 (.seq
  (.seq
   (.region [⟨(some 32), (.faddr 0 false 1), [.t 1], none, []⟩,
     ⟨(some 33), (.load false 1), [.t 32], none, [0]⟩,
     ⟨(some 34), .len, [.t 33], none, [1]⟩,
     ⟨(some 35), .mov, [.c (.int .i64 0)], none, []⟩] false)
   (.block 0
    (.loop b59l0)))
  (.keep [1] [1] b59k3))
def b59 : DCode :=
 (.seq
  (.region [⟨(some 1), .box, [.t 0], none, []⟩,
    ⟨(some 2), .mov, [.c (.int .i64 0)], none, []⟩,
    ⟨(some 3), .mov, [.c (.int .i64 0)], none, [1]⟩] false)
  (.seq
   (.region [⟨(some 8), (.faddr 0 false 1), [.t 1], none, []⟩,
     ⟨(some 9), (.load false 1), [.t 8], none, [0]⟩,
     ⟨(some 10), .len, [.t 9], none, [1]⟩,
     ⟨(some 11), (.bin .gtr), [.t 10, .c (.int .i64 0)], none, [2]⟩,
     ⟨(some 12), .call, [.f 90, .t 11, .c (.int .i64 10)], none, [3]⟩,
     ⟨(some 13), (.faddr 0 false 1), [.t 1], none, []⟩,
     ⟨(some 14), (.load false 1), [.t 13], none, [5]⟩,
     ⟨(some 15), .len, [.t 14], none, [6]⟩,
     ⟨(some 16), (.bin .leq), [.t 15, .c (.int .i64 4)], none, [7]⟩,
     ⟨(some 17), .call, [.f 90, .t 16, .c (.int .i64 8)], none, [8, 4]⟩,
     ⟨(some 18), (.faddr 1 false 1), [.t 1], none, []⟩,
     ⟨(some 19), (.load false 1), [.t 18], none, [10]⟩,
     ⟨(some 20), .len, [.t 19], none, [11]⟩,
     ⟨(some 21), (.faddr 0 false 1), [.t 1], none, []⟩,
     ⟨(some 22), (.load false 1), [.t 21], none, [13]⟩,
     ⟨(some 23), .len, [.t 22], none, [14]⟩,
     ⟨(some 24), (.bin .sub), [.t 23, .c (.int .i64 1)], none, [15]⟩,
     ⟨(some 25), (.bin .eql), [.t 20, .t 24], none, [12, 16]⟩,
     ⟨(some 26), .call, [.f 90, .t 25, .c (.int .i64 10)], none, [17, 9]⟩,
     ⟨(some 27), (.bsl 1), [.t 12, .t 17, .t 26], none, [4, 9, 18]⟩,
     ⟨(some 28), .call, [.f 89, .t 27], none, [19, 18]⟩,
     ⟨(some 4), .mov, [.t 28], none, [20, 20, 0, 1, 2, 3, 4, 5, 6, 7, 8, 9, 10, 11, 12, 13, 14, 15, 16, 17, 18, 19, 20]⟩] true)
   (.seq
    (.seq
     (.region [⟨(some 29), .mov, [.t 4], none, []⟩,
       ⟨(some 30), (.bin .neq), [.t 29, .c (.int .i64 0)], none, [0]⟩] false)
     (.cond (.t 30)
      (.seq
       (.region [⟨(some 31), .mov, [.t 4], none, []⟩,
         ⟨(some 2), .mov, [.c (.int .i64 0)], none, []⟩,
         ⟨(some 3), .mov, [.t 31], none, [0, 1, 0, 1]⟩] false)
       .ret)
      .skip))
    (.keep [1] [1] b59k4))))
def d59 : DFn := ⟨1, 58, [.tmp 2, .tmp 3], b59⟩
theorem body59 : d59.body = b59 := rfl
theorem res59 : d59.res = [.tmp 2, .tmp 3] := rfl
theorem k59 : chkFn Try.prog Try.f59 d59 = true := by kernel_rfl

def b117 : DCode :=
 (.seq
  (.region [⟨(some 2), .mov, [.c (.bool false)], none, []⟩] false)
  (.seq
   (.region [⟨(some 3), .mov, [.t 0], none, []⟩,
     ⟨(some 4), .call, [.f 115, .t 3, .c (.int .i64 0), .c (.int .i64 20)], none, [0]⟩,
     ⟨(some 5), (.un .not), [.t 4], none, [1]⟩,
     ⟨(some 2), .mov, [.t 5], none, [2, 1, 0, 1, 2]⟩] false)
   .ret))
def d117 : DFn := ⟨1, 6, [.tmp 2], b117⟩
theorem body117 : d117.body = b117 := rfl
theorem res117 : d117.res = [.tmp 2] := rfl
theorem k117 : chkFn Try.prog Try.f117 d117 = true := by kernel_rfl

def b103k0 : DCode :=
 (.seq
  (.block 1
   (.seq
    (.region [⟨(some 25), (.iaddr 2), [.t 21, .t 23], none, []⟩,
      ⟨(some 26), (.load true 2), [.t 25], none, [0]⟩,
      ⟨(some 8), (.alloc [(.imm (.int .i64 0)), (.imm (.int .i64 0))]), [], none, []⟩,
      ⟨none, (.store 2), [.t 8, .t 26], none, [2, 1, 0, 1, 2]⟩] false)
    (.seq
     (.region [⟨(some 27), (.faddr 2 false 1), [.t 6], none, []⟩,
       ⟨(some 28), (.load false 1), [.t 27], none, [0]⟩,
       ⟨(some 29), (.faddr 3 false 1), [.t 6], none, []⟩,
       ⟨(some 30), (.load false 1), [.t 29], none, [2]⟩,
       ⟨(some 31), (.bsl 1), [.t 30], none, [3]⟩,
       ⟨(some 32), (.append 1 8 false), [.t 28, .t 31], none, [1, 4]⟩,
       ⟨(some 33), (.faddr 2 false 1), [.t 6], none, [0, 1, 2, 3, 4, 5]⟩,
       ⟨none, (.store 1), [.t 33, .t 32], none, [6, 5, 5, 0, 1, 2, 3, 4, 5]⟩] false)
     (.region [⟨(some 34), (.faddr 3 false 1), [.t 6], none, []⟩,
       ⟨(some 35), (.load false 1), [.t 34], none, [0]⟩,
       ⟨(some 36), (.faddr 0 false 1), [.t 8], none, []⟩,
       ⟨(some 37), (.load false 1), [.t 36], none, [2]⟩,
       ⟨(some 38), (.bin .add), [.t 35, .t 37], none, [1, 3]⟩,
       ⟨(some 39), (.faddr 3 false 1), [.t 6], none, [0, 1, 2, 3, 4]⟩,
       ⟨none, (.store 1), [.t 39, .t 38], none, [5, 4, 0, 1, 2, 3, 4]⟩] false))))
  (.region [⟨(some 40), (.bin .add), [.t 23, .c (.int .i64 1)], none, []⟩,
    ⟨(some 23), .mov, [.t 40], none, [0]⟩] false))
def b103l0 : DCode := .keep [2, 6, 21, 22, 23] [2, 6, 32, 1006]
  (.seq
   (.region [⟨(some 24), (.bin .lss), [.t 23, .t 22], none, []⟩] false)
   (.seq
    (.cond (.t 24)
     .skip
     (.exit 0))
    (.keep [2, 6, 21, 22, 23] [2, 6, 32, 1006] b103k0)))
def b103k1 : DCode :=
 (.seq
  (.region [⟨(some 41), (.load true 4), [.t 6], none, []⟩,
    ⟨none, (.store 4), [.t 2, .t 41], none, [0, 0]⟩,
    ⟨(some 3), .mov, [.c (.int .i64 0)], none, [1, 0, 1]⟩] false)
  .ret)
def b103k2 : DCode :=
 (.seq
  (.region [⟨(some 18), (.load true 2), [.t 1], none, []⟩,
    ⟨(some 19), (.buildr [(.cap0 2 []), (.cap0 1 []), (.cap0 1 []), (.imm (.int .i64 0))] [(0, 2)]), [.t 18], none, [0]⟩,
    ⟨(some 6), (.alloc [(.cap0 2 []), (.cap0 1 []), (.cap0 1 []), (.imm (.int .i64 0))]), [], none, []⟩,
    ⟨none, (.store 4), [.t 6, .t 19], none, [2, 1, 0, 1, 2]⟩] false)
  (.mktok 6 2 1006 1
   (.seq
    (.seq
     (.region [⟨(some 20), (.faddr 0 false 1), [.t 1], none, []⟩,
       ⟨(some 21), (.load false 1), [.t 20], none, [0]⟩,
       ⟨(some 22), .len, [.t 21], none, [1]⟩,
       ⟨(some 23), .mov, [.c (.int .i64 0)], none, []⟩] false)
     (.block 0
      (.loop b103l0)))
    (.keep [2, 6] [2, 6, 32, 1006] b103k1))))
def b103 : DCode :=
 (.seq
  (.region [⟨(some 1), .box, [.t 0], none, []⟩,
    ⟨(some 2), (.alloc [(.imm (.slc 2 [])), (.imm (.slc 1 [])), (.imm (.slc 1 [])), (.imm (.int .i64 0))]), [], none, []⟩,
    ⟨(some 3), .mov, [.c (.int .i64 0)], none, []⟩] false)
  (.seq
   (.seq
    (.region [⟨(some 10), (.load true 2), [.t 1], none, []⟩,
      ⟨(some 11), .call, [.f 59, .t 10], none, [0]⟩,
      ⟨(some 9), .mov, [.t 11], none, [1]⟩,
      ⟨(some 12), (.ext 0), [.t 9], none, [2]⟩,
      ⟨(some 13), (.ext 1), [.t 9], none, [2]⟩,
      ⟨(some 4), .mov, [.t 12], none, [3, 1, 0, 1, 2, 3]⟩,
      ⟨(some 5), .mov, [.t 13], none, [4, 5, 0, 1, 2, 3, 4, 5]⟩] false)
    (.seq
     (.region [⟨(some 14), .mov, [.t 5], none, []⟩,
       ⟨(some 15), (.bin .neq), [.t 14, .c (.int .i64 0)], none, [0]⟩] false)
     (.cond (.t 15)
      (.seq
       (.region [⟨(some 16), (.build [(.imm (.slc 2 [])), (.imm (.slc 1 [])), (.imm (.slc 1 [])), (.imm (.int .i64 0))] []), [], none, []⟩,
         ⟨(some 17), .mov, [.t 5], none, []⟩,
         ⟨none, (.store 4), [.t 2, .t 16], none, [0, 0]⟩,
         ⟨(some 3), .mov, [.t 17], none, [1, 2, 0, 1, 2]⟩] false)
       .ret)
      .skip)))
   (.keep [1, 2] [1, 2, 32, 1006] b103k2)))
def d103 : DFn := ⟨1, 42, [.cell 2 true 4, .tmp 3], b103⟩
theorem body103 : d103.body = b103 := rfl
theorem res103 : d103.res = [.cell 2 true 4, .tmp 3] := rfl
theorem k103 : chkFn Try.prog Try.f103 d103 = true := by kernel_rfl

def b116k0 : DCode :=
 (.region [⟨(some 18), (.bin .add), [.t 8, .c (.int .i64 1)], none, []⟩,
   ⟨(some 8), .mov, [.t 18], none, [0]⟩] false)
def b116k1 : DCode :=
 (.seq
  (.block 1
   (.seq
    (.region [⟨(some 10), .mov, [.t 8], none, []⟩,
      ⟨(some 5), .mov, [.t 10], none, [0, 0]⟩] false)
    (.seq
     (.region [⟨(some 11), .mov, [.t 1], none, []⟩,
       ⟨(some 12), .movv, [.t 0], none, []⟩,
       ⟨(some 13), .mov, [.t 5], none, []⟩,
       ⟨(some 14), (.iaddr 1), [.t 12, .t 13], none, [1, 2]⟩,
       ⟨(some 15), (.load false 1), [.t 14], none, [3]⟩,
       ⟨(some 16), .call, [.t 11, .t 15], none, [0, 4]⟩] false)
     (.cond (.t 16)
      (.seq
       (.region [⟨(some 17), .mov, [.t 5], none, []⟩,
         ⟨(some 4), .mov, [.t 17], none, [0, 0]⟩] false)
       .ret)
      .skip))))
  (.keep [0, 1, 7, 8] [] b116k0))
def b116l0 : DCode := .keep [0, 1, 7, 8] []
  (.seq
   (.region [⟨(some 9), (.bin .lss), [.t 8, .t 7], none, []⟩] false)
   (.seq
    (.cond (.t 9)
     .skip
     (.exit 0))
    (.keep [0, 1, 7, 8] [] b116k1)))
def b116k2 : DCode :=
 (.seq
  (.region [⟨(some 4), .mov, [.c (.int .i64 (-1))], none, []⟩] false)
  .ret)
def b116 : DCode :=
 (.seq
  (.region [⟨(some 4), .mov, [.c (.int .i64 0)], none, []⟩] false)
  (.seq
   (.seq
    (.region [⟨(some 6), .movv, [.t 0], none, []⟩,
      ⟨(some 7), .len, [.t 6], none, [0]⟩,
      ⟨(some 8), .mov, [.c (.int .i64 0)], none, []⟩] false)
    (.block 0
     (.loop b116l0)))
   (.keep [] [] b116k2)))
def d116 : DFn := ⟨2, 19, [.tmp 4], b116⟩
theorem body116 : d116.body = b116 := rfl
theorem res116 : d116.res = [.tmp 4] := rfl
theorem k116 : chkFn Try.prog Try.f116 d116 = true := by kernel_rfl

def b1092k0 : DCode :=
 (.seq
  (.region [⟨(some 5), (.bsl 1), [], none, []⟩,
    ⟨(some 6), .movv, [.t 0], none, []⟩,
    ⟨(some 7), (.append 1 8 false), [.t 5, .t 6], none, [0, 1]⟩,
    ⟨(some 2), .mov, [.t 7], none, [2, 2, 0, 1, 2]⟩] false)
  (.ren 7 1000
   .ret))
def b1092 : DCode :=
 (.seq
  (.region [⟨(some 2), .mov, [.z 1], none, []⟩] false)
  (.seq
   (.seq
    (.region [⟨(some 3), .movv, [.t 0], none, []⟩,
      ⟨(some 4), (.snil false), [.t 3, .c (.slc 1 [])], none, [0]⟩] false)
    (.cond (.t 4)
     (.seq
      (.region [⟨(some 2), .mov, [.z 1], none, []⟩] false)
      .ret)
     .skip))
   (.keep [0] [] b1092k0)))
def d1092 : DFn := ⟨1, 8, [.tmp 2], b1092⟩
theorem body1092 : d1092.body = b1092 := rfl
theorem res1092 : d1092.res = [.tmp 2] := rfl
theorem k1092 : chkFnB Try.prog Try.f92 d1092 [] [1000] = true := by kernel_rfl

def b149k0 : DCode :=
 (.seq
  (.region [⟨(some 8), .movv, [.t 0], none, []⟩,
    ⟨(some 9), .mov, [.t 1], none, []⟩,
    ⟨(some 10), .movv, [.t 0], none, []⟩,
    ⟨(some 11), .len, [.t 10], none, [2]⟩,
    ⟨(some 12), (.bin .sub), [.t 11, .c (.int .i64 1)], none, [3]⟩,
    ⟨(some 13), (.mm false), [.t 9, .t 12], none, [1, 4]⟩,
    ⟨(some 14), (.iaddr 1), [.t 8, .t 13], none, [0, 5]⟩,
    ⟨(some 15), (.load false 1), [.t 14], none, [6]⟩,
    ⟨(some 4), .mov, [.t 15], none, [7, 0, 1, 2, 3, 4, 5, 6, 7]⟩] false)
  .ret)
def b149 : DCode :=
 (.seq
  (.region [⟨(some 4), .mov, [.c (.int .i64 0)], none, []⟩] false)
  (.seq
   (.seq
    (.region [⟨(some 5), .movv, [.t 0], none, []⟩,
      ⟨(some 6), .len, [.t 5], none, [0]⟩,
      ⟨(some 7), (.bin .eql), [.t 6, .c (.int .i64 0)], none, [1]⟩] false)
    (.cond (.t 7)
     (.seq
      (.region [⟨(some 4), .mov, [.c (.int .i64 0)], none, []⟩] false)
      .ret)
     .skip))
   (.keep [0, 1] [] b149k0)))
def d149 : DFn := ⟨2, 16, [.tmp 4], b149⟩
theorem body149 : d149.body = b149 := rfl
theorem res149 : d149.res = [.tmp 4] := rfl
theorem k149 : chkFn Try.prog Try.f149 d149 = true := by kernel_rfl

def b66k0 : DCode :=
 (.region [⟨(some 31), .mov, [.t 6], none, []⟩,
   ⟨(some 4), .mov, [.t 31], none, [0, 0]⟩] false)
def b66k1 : DCode :=
 (.region [⟨(some 32), (.bin .add), [.t 13, .c (.int .i64 1)], none, []⟩,
   ⟨(some 13), .mov, [.t 32], none, [0]⟩] false)
def b66k2 : DCode :=
 (.seq
  (.block 1
   (.seq
    (.region [⟨(some 15), .mov, [.t 13], none, []⟩,
      ⟨(some 16), (.iaddr 1), [.t 11, .t 13], none, []⟩,
      ⟨(some 17), (.load false 1), [.t 16], none, [1]⟩,
      ⟨(some 5), .mov, [.t 15], none, [0, 0, 1, 2]⟩,
      ⟨(some 6), .mov, [.t 17], none, [2, 3, 0, 1, 2, 3]⟩] false)
    (.seq
     (.seq
      (.region [⟨(some 18), .mov, [.t 6], none, []⟩,
        ⟨(some 19), .call, [.f 115, .t 18, .c (.int .i64 0), .c (.int .i64 1000)], none, [0]⟩,
        ⟨(some 20), .call, [.f 90, .t 19, .c (.int .i64 2)], none, [1, 1]⟩,
        ⟨(some 21), .mov, [.t 6], none, []⟩,
        ⟨(some 22), .mov, [.t 4], none, []⟩,
        ⟨(some 23), (.bin .geq), [.t 21, .t 22], none, [3, 4]⟩,
        ⟨(some 24), .call, [.f 90, .t 23, .c (.int .i64 9)], none, [5, 2]⟩,
        ⟨(some 25), (.bsl 1), [.t 20, .t 24], none, [2, 6]⟩,
        ⟨(some 26), .call, [.f 89, .t 25], none, [7, 6]⟩,
        ⟨(some 7), .mov, [.t 26], none, [8, 8, 0, 1, 2, 3, 4, 5, 6, 7, 8]⟩] false)
      (.seq
       (.region [⟨(some 27), .mov, [.t 7], none, []⟩,
         ⟨(some 28), (.bin .neq), [.t 27, .c (.int .i64 0)], none, [0]⟩] false)
       (.cond (.t 28)
        (.seq
         (.region [⟨(some 29), .mov, [.t 5], none, []⟩,
           ⟨(some 30), .mov, [.t 7], none, []⟩,
           ⟨(some 2), .mov, [.t 29], none, [0, 0]⟩,
           ⟨(some 3), .mov, [.t 30], none, [1, 2, 0, 1, 2]⟩] false)
         .ret)
        .skip)))
     (.keep [6, 11, 12, 13] [] b66k0))))
  (.keep [4, 11, 12, 13] [] b66k1))
def b66l0 : DCode := .keep [4, 11, 12, 13] []
  (.seq
   (.region [⟨(some 14), (.bin .lss), [.t 13, .t 12], none, []⟩] false)
   (.seq
    (.cond (.t 14)
     .skip
     (.exit 0))
    (.keep [4, 11, 12, 13] [] b66k2)))
def b66k3 : DCode :=
 (.seq
  (.region [⟨(some 2), .mov, [.c (.int .i64 0)], none, []⟩,
    ⟨(some 3), .mov, [.c (.int .i64 0)], none, [0, 0]⟩] false)
  .ret)
def b66k4 : DCode :=
 (.seq
  (.region [⟨(some 4), .mov, [.c (.int .i64 0)], none, []⟩] false)
  (.seq
   (.seq
    (.region [⟨(some 11), .movv, [.t 0], none, []⟩,
      ⟨(some 12), .len, [.t 11], none, [0]⟩,
      ⟨(some 13), .mov, [.c (.int .i64 0)], none, []⟩] false)
    (.block 0
     (.loop b66l0)))
   (.keep [] [] b66k3)))
def b66 : DCode :=
 (.seq
  (.region [⟨(some 2), .mov, [.c (.int .i64 0)], none, []⟩,
    ⟨(some 3), .mov, [.c (.int .i64 0)], none, [0]⟩] false)
  (.seq
   (.seq
    (.region [⟨(some 8), .movv, [.t 0], none, []⟩,
      ⟨(some 9), .len, [.t 8], none, [0]⟩,
      ⟨(some 10), (.bin .gtr), [.t 9, .c (.int .i64 60)], none, [1]⟩] false)
    (.cond (.t 10)
     (.seq
      (.region [⟨(some 2), .mov, [.c (.int .i64 0)], none, []⟩,
        ⟨(some 3), .mov, [.c (.int .i64 8)], none, [0, 0]⟩] false)
      .ret)
     .skip))
   (.keep [0] [] b66k4)))
def d66 : DFn := ⟨1, 33, [.tmp 2, .tmp 3], b66⟩
theorem body66 : d66.body = b66 := rfl
theorem res66 : d66.res = [.tmp 2, .tmp 3] := rfl
theorem k66 : chkFn Try.prog Try.f66 d66 = true := by kernel_rfl

def b122 : DCode :=
 (.seq
  (.region [⟨(some 2), .mov, [.c (.int .i64 0)], none, []⟩] false)
  (.seq
   (.region [⟨(some 6), .movv, [.t 0], none, []⟩,
     ⟨(some 7), .call, [.f 66, .t 6], none, [0]⟩,
     ⟨(some 5), .mov, [.t 7], none, [1]⟩,
     ⟨(some 8), (.ext 0), [.t 5], none, [2]⟩,
     ⟨(some 9), (.ext 1), [.t 5], none, [2]⟩,
     ⟨(some 3), .mov, [.t 8], none, [3, 1, 0, 1, 2, 3]⟩,
     ⟨(some 4), .mov, [.t 9], none, [4, 5, 0, 1, 2, 3, 4, 5]⟩] false)
   (.seq
    (.region [⟨(some 10), .mov, [.t 4], none, []⟩,
      ⟨(some 2), .mov, [.t 10], none, [0, 0]⟩] false)
    .ret)))
def d122 : DFn := ⟨1, 11, [.tmp 2], b122⟩
theorem body122 : d122.body = b122 := rfl
theorem res122 : d122.res = [.tmp 2] := rfl
theorem k122 : chkFn Try.prog Try.f122 d122 = true := by kernel_rfl

def b95 : DCode :=
 (.seq
  (.region [⟨(some 3), .box, [.t 0], none, []⟩,
    ⟨(some 6), (.alloc [(.imm (.slc 2 [])), (.imm (.slc 1 [])), (.imm (.slc 1 [])), (.imm (.int .i64 0))]), [], none, []⟩,
    ⟨(some 7), .mov, [.c (.int .i64 0)], none, []⟩] false)
  (.seq
   (.region [⟨(some 11), (.load true 2), [.t 3], none, []⟩,
     ⟨(some 12), .call, [.f 103, .t 11], none, [0]⟩,
     ⟨(some 10), .mov, [.t 12], none, [1]⟩,
     ⟨(some 13), (.ext 0), [.t 10], none, [2]⟩,
     ⟨(some 14), (.ext 1), [.t 10], none, [2]⟩,
     ⟨(some 8), (.alloc [(.imm (.slc 2 [])), (.imm (.slc 1 [])), (.imm (.slc 1 [])), (.imm (.int .i64 0))]), [], none, []⟩,
     ⟨none, (.store 4), [.t 8, .t 13], none, [5, 3, 1, 0, 1, 2, 3, 5]⟩,
     ⟨(some 9), .mov, [.t 14], none, [4, 6, 0, 1, 2, 3, 4, 5, 6]⟩] false)
   (.seq
    (.region [⟨(some 15), (.load true 4), [.t 8], none, []⟩,
      ⟨(some 16), .mov, [.t 9], none, []⟩,
      ⟨(some 17), .movv, [.t 1], none, []⟩,
      ⟨(some 18), .call, [.f 122, .t 17], none, [2]⟩,
      ⟨(some 19), .mov, [.t 2], none, []⟩,
      ⟨(some 20), .call, [.f 147, .t 19], none, [4, 3]⟩,
      ⟨(some 21), (.bsl 1), [.t 16, .t 18, .t 20], none, [1, 3, 5]⟩,
      ⟨(some 22), .call, [.f 89, .t 21], none, [6, 5]⟩,
      ⟨none, (.store 4), [.t 6, .t 15], none, [0, 7, 0]⟩,
      ⟨(some 7), .mov, [.t 22], none, [7, 8, 0, 1, 2, 3, 4, 5, 6, 7, 8]⟩] true)
    .ret)))
def d95 : DFn := ⟨3, 23, [.cell 6 true 4, .tmp 7], b95⟩
theorem body95 : d95.body = b95 := rfl
theorem res95 : d95.res = [.cell 6 true 4, .tmp 7] := rfl
theorem k95 : chkFn Try.prog Try.f95 d95 = true := by kernel_rfl

def b108 : DCode :=
 (.seq
  (.region [⟨(some 1), .box, [.t 0], none, []⟩,
    ⟨(some 2), .mov, [.c (.int .i64 0)], none, []⟩] false)
  (.seq
   (.region [⟨(some 3), (.faddr 0 false 1), [.t 1], none, []⟩,
     ⟨(some 4), (.load false 1), [.t 3], none, [0]⟩,
     ⟨(some 5), .call, [.f 115, .t 4, .c (.int .i64 0), .c (.int .i64 5)], none, [1]⟩,
     ⟨(some 6), .mov, [.t 5], none, [2, 2]⟩,
     ⟨(some 7), (.faddr 1 false 1), [.t 1], (some (6, true)), [3]⟩,
     ⟨(some 8), (.load false 1), [.t 7], (some (6, true)), [4, 3]⟩,
     ⟨(some 9), .call, [.f 115, .t 8, .c (.int .i64 1), .c (.int .i64 7)], (some (6, true)), [5, 3, 3]⟩,
     ⟨(some 10), .pick, [.t 6, .t 9, .c (.bool false)], none, [3, 6]⟩,
     ⟨(some 11), .call, [.f 90, .t 10, .c (.int .i64 2)], none, [7, 6]⟩,
     ⟨(some 12), (.faddr 2 false 1), [.t 1], none, []⟩,
     ⟨(some 13), (.load false 1), [.t 12], none, [9]⟩,
     ⟨(some 14), .call, [.f 147, .t 13], none, [10, 8]⟩,
     ⟨(some 15), (.faddr 3 true 2), [.t 1], none, []⟩,
     ⟨(some 16), (.faddr 0 false 1), [.t 15], none, [12]⟩,
     ⟨(some 17), (.load false 1), [.t 16], none, [13]⟩,
     ⟨(some 18), .call, [.f 127, .t 17, .c (.int .i64 1000000)], none, [14, 11]⟩,
     ⟨(some 19), .mov, [.t 18], none, [15, 15]⟩,
     ⟨(some 20), (.faddr 3 true 2), [.t 1], (some (19, true)), [16]⟩,
     ⟨(some 21), (.faddr 1 false 1), [.t 20], (some (19, true)), [17, 16]⟩,
     ⟨(some 22), (.load false 1), [.t 21], (some (19, true)), [18, 16]⟩,
     ⟨(some 23), .call, [.f 127, .t 22, .c (.int .i64 1000000)], (some (19, true)), [19, 16, 16]⟩,
     ⟨(some 24), .pick, [.t 19, .t 23, .c (.bool false)], none, [16, 20]⟩,
     ⟨(some 25), .call, [.f 90, .t 24, .c (.int .i64 2)], none, [21, 20]⟩,
     ⟨(some 26), (.faddr 3 true 2), [.t 1], none, []⟩,
     ⟨(some 27), (.faddr 0 false 1), [.t 26], none, [23]⟩,
     ⟨(some 28), (.load false 1), [.t 27], none, [24]⟩,
     ⟨(some 29), (.faddr 3 true 2), [.t 1], none, []⟩,
     ⟨(some 30), (.faddr 1 false 1), [.t 29], none, [26]⟩,
     ⟨(some 31), (.load false 1), [.t 30], none, [27]⟩,
     ⟨(some 32), (.bin .leq), [.t 28, .t 31], none, [25, 28]⟩,
     ⟨(some 33), .call, [.f 90, .t 32, .c (.int .i64 9)], none, [29, 22]⟩,
     ⟨(some 34), (.bsl 1), [.t 11, .t 14, .t 25, .t 33], none, [8, 11, 22, 30]⟩,
     ⟨(some 35), .call, [.f 89, .t 34], none, [31, 30]⟩,
     ⟨(some 2), .mov, [.t 35], none, [32, 32, 0, 1, 2, 3, 4, 5, 6, 7, 8, 9, 10, 11, 12, 13, 14, 15, 16, 17, 18, 19, 20, 21, 22, 23, 24, 25, 26, 27, 28, 29, 30, 31, 32]⟩] true)
   .ret))
def d108 : DFn := ⟨1, 36, [.tmp 2], b108⟩
theorem body108 : d108.body = b108 := rfl
theorem res108 : d108.res = [.tmp 2] := rfl
theorem k108 : chkFn Try.prog Try.f108 d108 = true := by kernel_rfl

def b96 : DCode :=
 (.seq
  (.region [⟨(some 2), .box, [.t 0], none, []⟩,
    ⟨(some 3), .box, [.t 1], none, []⟩,
    ⟨(some 4), .mov, [.c .nilf], none, []⟩] false)
  (.seq
   (.freeze [2, 3]
    (.region [⟨(some 5), (.mkfn 148 0), [.t 2, .t 3], none, []⟩,
      ⟨(some 4), .mov, [.t 5], none, [0, 0]⟩] false))
   .ret))
def d96 : DFn := ⟨2, 6, [.tmp 4], b96⟩
theorem body96 : d96.body = b96 := rfl
theorem res96 : d96.res = [.tmp 4] := rfl
theorem k96 : chkFn Try.prog Try.f96 d96 = true := by kernel_rfl

def b148k0 : DCode :=
 (.region [⟨(some 10), .mov, [.t 5], none, []⟩,
   ⟨(some 11), (.bin .add), [.t 10, .c (.int .i64 1)], none, [0]⟩,
   ⟨(some 5), .mov, [.t 11], none, [1, 0, 1]⟩] false)
def b148l0 : DCode := .keep [0, 1, 2, 4, 5] [0, 4]
  (.seq
   (.block 1
    (.seq
     (.region [⟨(some 12), (.load false 1), [.t 2], none, []⟩,
       ⟨(some 13), .mov, [.t 5], none, []⟩,
       ⟨(some 14), .call, [.f 149, .t 12, .t 13], none, [0, 1]⟩,
       ⟨(some 6), .mov, [.t 14], none, [2, 2, 0, 1, 2]⟩] false)
     (.seq
      (.region [⟨(some 15), (.faddr 0 false 1), [.t 4], none, []⟩,
        ⟨(some 16), (.load false 1), [.t 15], none, [0]⟩,
        ⟨(some 17), (.load true 4), [.t 1], none, []⟩,
        ⟨(some 18), .call, [.f 133, .t 17], none, [2]⟩,
        ⟨(some 19), (.iaddr 1), [.t 16, .t 18], none, [1, 3]⟩,
        ⟨(some 20), (.load false 1), [.t 19], none, [4]⟩,
        ⟨(some 21), (.bin .mul), [.c (.int .i64 2), .t 20], none, [5]⟩,
        ⟨(some 22), .mov, [.t 6], none, []⟩,
        ⟨(some 23), (.bin .add), [.t 21, .t 22], none, [6, 7]⟩,
        ⟨(some 7), .mov, [.t 23], none, [8, 3, 0, 1, 2, 3, 4, 5, 6, 7, 8]⟩] true)
      (.seq
       (.region [⟨(some 24), (.load true 4), [.t 1], none, []⟩,
         ⟨(some 25), (.load true 3), [.t 4], none, []⟩,
         ⟨(some 26), .mov, [.t 6], none, []⟩,
         ⟨(some 27), .call, [.f 93, .t 24, .t 25, .t 26], none, [0, 1, 2]⟩,
         ⟨none, (.store 3), [.t 4, .t 27], none, [3, 3, 0, 1, 2, 3]⟩] false)
       (.seq
        (.region [⟨(some 28), .mov, [.t 0], none, []⟩,
          ⟨(some 29), .mov, [.t 7], none, []⟩,
          ⟨(some 30), (.load true 3), [.t 4], none, []⟩,
          ⟨(some 31), .yield, [.t 28, .t 29, .t 30], none, [0, 1, 2]⟩,
          ⟨(some 32), (.un .not), [.t 31], none, [3]⟩] false)
        (.cond (.t 32)
         .ret
         .skip))))))
   (.keep [0, 1, 2, 4, 5] [0, 4] b148k0))
def b148 : DCode :=
 (.seq
  (.region [⟨(some 8), (.load true 4), [.t 1], none, []⟩,
    ⟨(some 9), .call, [.f 146, .t 8], none, [0]⟩,
    ⟨(some 4), (.alloc [(.imm (.slc 1 [])), (.imm (.slc 1 [])), (.imm (.slc 1 []))]), [], none, []⟩,
    ⟨none, (.store 3), [.t 4, .t 9], none, [2, 1, 1, 0, 1, 2]⟩] false)
  (.seq
   (.region [⟨(some 5), .mov, [.c (.int .i64 0)], none, []⟩] false)
   (.block 0
    (.loop b148l0))))
def d148 : DFn := ⟨3, 33, [], b148⟩
theorem body148 : d148.body = b148 := rfl
theorem res148 : d148.res = [] := rfl
theorem k148 : chkFnB Try.prog Try.f148 d148 [0] [0] = true := by kernel_rfl

def b39a0 : DCode :=
 (.region [⟨(some 11), .mov, [.t 25], none, []⟩] false)
def b39r0 : DCode :=
 (.block 1
  (.seq
   (.region [⟨(some 27), (.load false 1), [.t 10], none, []⟩,
     ⟨(some 28), .mov, [.t 11], none, []⟩,
     ⟨(some 29), (.bsl 1), [.t 28], none, [1]⟩,
     ⟨(some 30), (.append 1 8 false), [.t 27, .t 29], none, [0, 2]⟩,
     ⟨none, (.store 1), [.t 10, .t 30], none, [3, 3, 0, 1, 2, 3]⟩] false)
   (.seq
    (.region [⟨(some 31), (.load false 1), [.t 10], none, []⟩,
      ⟨(some 32), .len, [.t 31], none, [0]⟩,
      ⟨(some 33), (.load false 1), [.t 5], none, []⟩,
      ⟨(some 34), (.bin .eql), [.t 32, .t 33], none, [1, 2]⟩] false)
    (.cond (.t 34)
     (.exit 0)
     .skip))))
def b39k0 : DCode :=
 (.seq
  (.region [⟨(some 35), (.load false 1), [.t 10], none, []⟩,
    ⟨(some 6), .movv, [.t 35], none, [0, 0]⟩,
    ⟨(some 7), .mov, [.c (.int .i64 0)], none, [1, 0, 1]⟩] false)
  .ret)
def b39k1 : DCode :=
 (.seq
  (.region [⟨(some 10), (.alloc [(.cap0 1 [])]), [], none, []⟩] false)
  (.mktok 10 0 1010 1
   (.seq
    (.seq
     (.region [⟨(some 22), (.load true 4), [.t 8], none, []⟩,
       ⟨(some 23), .movv, [.t 1], none, []⟩,
       ⟨(some 24), .call, [.f 96, .t 22, .t 23], none, [0, 1]⟩] false)
     (.block 0
      (.rangeF (.t 24) [25, 26] [5, 10] [5, 10] [] [5, 10, 30, 1010] b39a0 b39r0)))
    (.keep [10] [10, 30, 1010] b39k0))))
def b39 : DCode :=
 (.seq
  (.region [⟨(some 3), .box, [.t 0], none, []⟩,
    ⟨(some 5), .box, [.t 2], none, []⟩,
    ⟨(some 6), .mov, [.c (.slc 1 [])], none, []⟩,
    ⟨(some 7), .mov, [.c (.int .i64 0)], none, [2]⟩] false)
  (.seq
   (.region [⟨(some 13), (.load true 2), [.t 3], none, []⟩,
     ⟨(some 14), .movv, [.t 1], none, []⟩,
     ⟨(some 15), (.load false 1), [.t 5], none, []⟩,
     ⟨(some 16), .call, [.f 95, .t 13, .t 14, .t 15], none, [0, 1, 2]⟩,
     ⟨(some 12), .mov, [.t 16], none, [3]⟩,
     ⟨(some 17), (.ext 0), [.t 12], none, [4]⟩,
     ⟨(some 18), (.ext 1), [.t 12], none, [4]⟩,
     ⟨(some 8), (.alloc [(.imm (.slc 2 [])), (.imm (.slc 1 [])), (.imm (.slc 1 [])), (.imm (.int .i64 0))]), [], none, []⟩,
     ⟨none, (.store 4), [.t 8, .t 17], none, [7, 5, 3, 0, 1, 2, 3, 4, 5, 7]⟩,
     ⟨(some 9), .mov, [.t 18], none, [6, 8, 0, 1, 2, 3, 4, 5, 6, 7, 8]⟩] false)
   (.seq
    (.seq
     (.region [⟨(some 19), .mov, [.t 9], none, []⟩,
       ⟨(some 20), (.bin .neq), [.t 19, .c (.int .i64 0)], none, [0]⟩] false)
     (.cond (.t 20)
      (.seq
       (.region [⟨(some 21), .mov, [.t 9], none, []⟩,
         ⟨(some 6), .mov, [.c (.slc 1 [])], none, []⟩,
         ⟨(some 7), .mov, [.t 21], none, [0, 1, 0, 1]⟩] false)
       .ret)
      .skip))
    (.keep [1, 5, 8] [5, 8] b39k1))))
def d39 : DFn := ⟨3, 36, [.tmp 6, .tmp 7], b39⟩
theorem body39 : d39.body = b39 := rfl
theorem res39 : d39.res = [.tmp 6, .tmp 7] := rfl
theorem k39 : chkFn Try.prog Try.f39 d39 = true := by kernel_rfl

def b111k0 : DCode :=
 (.region [⟨(some 29), (.load false 1), [.t 7], none, []⟩,
   ⟨(some 30), (.bin .add), [.t 29, .c (.int .i64 1)], none, [0]⟩,
   ⟨none, (.store 1), [.t 7, .t 30], none, [1, 0, 1]⟩] false)
def b111a0 : DCode :=
 (.region [⟨(some 8), .mov, [.t 12], none, []⟩] false)
def b111r0 : DCode :=
 (.block 1
  (.seq
   (.seq
    (.region [⟨(some 14), (.load false 1), [.t 7], none, []⟩,
      ⟨(some 15), (.faddr 2 false 1), [.t 5], none, []⟩,
      ⟨(some 16), (.load false 1), [.t 15], none, [1]⟩,
      ⟨(some 17), (.bin .eql), [.t 14, .t 16], none, [0, 2]⟩,
      ⟨(some 18), .mov, [.t 17], none, [3]⟩,
      ⟨(some 19), .mov, [.t 8], (some (18, false)), [4]⟩,
      ⟨(some 20), (.faddr 3 true 2), [.t 5], (some (18, false)), [4]⟩,
      ⟨(some 21), (.faddr 0 false 1), [.t 20], (some (18, false)), [6, 4]⟩,
      ⟨(some 22), (.load false 1), [.t 21], (some (18, false)), [7, 4]⟩,
      ⟨(some 23), (.faddr 3 true 2), [.t 5], (some (18, false)), [4]⟩,
      ⟨(some 24), (.faddr 1 false 1), [.t 23], (some (18, false)), [9, 4]⟩,
      ⟨(some 25), (.load false 1), [.t 24], (some (18, false)), [10, 4]⟩,
      ⟨(some 26), .call, [.f 115, .t 19, .t 22, .t 25], (some (18, false)), [5, 8, 11, 4, 4]⟩,
      ⟨(some 27), (.un .not), [.t 26], (some (18, false)), [12, 4]⟩,
      ⟨(some 28), .pick, [.t 18, .c (.bool true), .t 27], none, [4, 13]⟩] false)
    (.cond (.t 28)
     (.exit 0)
     .skip))
   (.keep [7] [5, 7] b111k0)))
def b111k1 : DCode :=
 (.seq
  (.region [⟨(some 31), (.load false 1), [.t 7], none, []⟩,
    ⟨(some 6), .mov, [.t 31], none, [0, 0]⟩] false)
  .ret)
def b111 : DCode :=
 (.seq
  (.region [⟨(some 3), .box, [.t 0], none, []⟩,
    ⟨(some 5), .box, [.t 2], none, []⟩,
    ⟨(some 6), .mov, [.c (.int .i64 0)], none, []⟩] false)
  (.seq
   (.region [⟨(some 7), (.alloc [(.imm (.int .i64 0))]), [], none, []⟩,
     ⟨none, (.store 1), [.t 7, .c (.int .i64 0)], none, [0, 0]⟩] false)
   (.seq
    (.seq
     (.region [⟨(some 9), (.load true 4), [.t 3], none, []⟩,
       ⟨(some 10), .movv, [.t 1], none, []⟩,
       ⟨(some 11), .call, [.f 96, .t 9, .t 10], none, [0, 1]⟩] false)
     (.block 0
      (.rangeF (.t 11) [12, 13] [5, 7] [5, 7] [] [5, 7] b111a0 b111r0)))
    (.keep [7] [7] b111k1))))
def d111 : DFn := ⟨3, 32, [.tmp 6], b111⟩
theorem body111 : d111.body = b111 := rfl
theorem res111 : d111.res = [.tmp 6] := rfl
theorem k111 : chkFn Try.prog Try.f111 d111 = true := by kernel_rfl

def b109k0 : DCode :=
 (.region [⟨(some 26), .mov, [.t 9], none, []⟩,
   ⟨(some 27), (.bin .add), [.t 26, .c (.int .i64 1)], none, [0]⟩,
   ⟨(some 9), .mov, [.t 27], none, [1, 0, 1]⟩] false)
def b109k1 : DCode :=
 (.seq
  (.block 1
   (.seq
    (.region [⟨(some 28), .movv, [.t 0], none, []⟩,
      ⟨(some 29), (.callb []), [.f 92, .t 28], none, [0]⟩,
      ⟨(some 30), .mov, [.t 9], none, []⟩,
      ⟨(some 31), (.bsl 1), [.t 30], none, [2]⟩,
      ⟨(some 32), (.append 1 8 false), [.t 29, .t 31], none, [1, 3, 1]⟩,
      ⟨(some 33), .mov, [.t 1], none, []⟩,
      ⟨(some 34), (.bin .sub), [.t 33, .c (.int .i64 1)], none, [5]⟩,
      ⟨(some 35), .mov, [.t 2], none, []⟩,
      ⟨(some 36), .mov, [.t 3], none, []⟩,
      ⟨(some 37), (.callb [1008]), [.f 109, .t 32, .t 34, .t 35, .t 36], none, [4, 6, 7, 8, 4]⟩,
      ⟨(some 38), (.un .not), [.t 37], none, [9]⟩] false)
    (.cond (.t 38)
     (.seq
      (.region [⟨(some 8), .mov, [.c (.bool false)], none, []⟩] false)
      .ret)
     .skip)))
  (.keep [0, 1, 2, 3, 9] [1008] b109k0))
def b109l0 : DCode := .keep [0, 1, 2, 3, 9] [1008]
  (.seq
   (.seq
    (.region [⟨(some 23), .mov, [.t 9], none, []⟩,
      ⟨(some 24), .mov, [.t 2], none, []⟩,
      ⟨(some 25), (.bin .leq), [.t 23, .t 24], none, [0, 1]⟩] false)
    (.cond (.t 25)
     .skip
     (.exit 0)))
   (.keep [0, 1, 2, 3, 9] [1008] b109k1))
def b109k2 : DCode :=
 (.seq
  (.region [⟨(some 8), .mov, [.c (.bool true)], none, []⟩] false)
  .ret)
def b109k3 : DCode :=
 (.seq
  (.seq
   (.region [⟨(some 19), .movv, [.t 0], none, []⟩,
     ⟨(some 20), .movv, [.t 0], none, []⟩,
     ⟨(some 21), .len, [.t 20], none, [1]⟩,
     ⟨(some 22), .call, [.f 149, .t 19, .t 21], none, [0, 2]⟩,
     ⟨(some 9), .mov, [.t 22], none, [3, 3, 0, 1, 2, 3]⟩] false)
   (.block 0
    (.loop b109l0)))
  (.keep [] [1008] b109k2))
def b109 : DCode :=
 (.seq
  (.region [⟨(some 8), .mov, [.c (.bool false)], none, []⟩] false)
  (.seq
   (.seq
    (.region [⟨(some 10), .mov, [.t 1], none, []⟩,
      ⟨(some 11), (.bin .eql), [.t 10, .c (.int .i64 1)], none, [0]⟩] false)
    (.cond (.t 11)
     (.seq
      (.region [⟨(some 12), .mov, [.t 3], none, []⟩,
        ⟨(some 13), .movv, [.t 0], none, []⟩,
        ⟨(some 14), (.callb []), [.f 92, .t 13], none, [1]⟩,
        ⟨(some 15), .mov, [.t 2], none, []⟩,
        ⟨(some 16), (.bsl 1), [.t 15], none, [3]⟩,
        ⟨(some 17), (.append 1 8 false), [.t 14, .t 16], none, [2, 4, 2]⟩,
        ⟨(some 18), (.callb [1008]), [.t 12, .t 17], none, [0, 5, 5]⟩,
        ⟨(some 8), .mov, [.t 18], none, [6, 6, 0, 1, 2, 3, 4, 5, 6]⟩] false)
      .ret)
     .skip))
   (.keep [0, 1, 2, 3] [1008] b109k3)))
def d109 : DFn := ⟨4, 39, [.tmp 8], b109⟩
theorem body109 : d109.body = b109 := rfl
theorem res109 : d109.res = [.tmp 8] := rfl
theorem k109 : chkFnB Try.prog Try.f109 d109 [1008] [1008] = true := by kernel_rfl

def b56k0 : DCode :=
 (.seq
  (.block 1
   (.region [⟨(some 33), .mov, [.t 9], none, []⟩,
     ⟨(some 34), (.faddr 0 false 1), [.t 3], none, []⟩,
     ⟨(some 35), (.load false 1), [.t 34], none, [1]⟩,
     ⟨(some 36), (.mkfn 110 0), [.t 6, .t 3, .t 8], none, []⟩,
     ⟨(some 37), (.callb [1008]), [.f 109, .c (.slc 1 []), .t 33, .t 35, .t 36], none, [0, 2, 3]⟩] false))
  (.region [⟨(some 31), .mov, [.t 9], none, []⟩,
    ⟨(some 32), (.bin .add), [.t 31, .c (.int .i64 1)], none, [0]⟩,
    ⟨(some 9), .mov, [.t 32], none, [1, 0, 1]⟩] false))
def b56l0 : DCode := .keep [3, 6, 8, 9] [1008]
  (.seq
   (.seq
    (.region [⟨(some 23), .mov, [.t 9], none, []⟩,
      ⟨(some 24), (.faddr 1 false 1), [.t 3], none, []⟩,
      ⟨(some 25), (.load false 1), [.t 24], none, [1]⟩,
      ⟨(some 26), (.bin .leq), [.t 23, .t 25], none, [0, 2]⟩,
      ⟨(some 27), .mov, [.t 26], none, [3]⟩,
      ⟨(some 28), (.load false 1), [.t 8], (some (27, true)), [4]⟩,
      ⟨(some 29), (.qnil false), [.t 28, .c (.slc 1 [])], (some (27, true)), [5, 4]⟩,
      ⟨(some 30), .pick, [.t 27, .t 29, .c (.bool false)], none, [4, 6]⟩] false)
    (.cond (.t 30)
     .skip
     (.exit 0)))
   (.keep [3, 6, 8, 9] [1008] b56k0))
def b56k1 : DCode :=
 (.seq
  (.region [⟨(some 38), (.load false 1), [.t 8], none, []⟩,
    ⟨(some 39), (.load false 1), [.t 8], none, []⟩,
    ⟨(some 40), (.qnil true), [.t 39, .c (.slc 1 [])], none, [1]⟩,
    ⟨(some 41), .call, [.f 90, .t 40, .c (.int .i64 12)], none, [2]⟩,
    ⟨(some 4), .movv, [.t 38], none, [0, 3, 0]⟩,
    ⟨(some 5), .mov, [.t 41], none, [3, 4, 0, 1, 2, 3, 4]⟩] true)
  .ret)
def b56k2 : DCode :=
 (.seq
  (.region [⟨(some 8), (.alloc [(.nils 1)]), [], none, []⟩] false)
  (.ren 8 1008
   (.seq
    (.seq
     (.region [⟨(some 9), .mov, [.c (.int .i64 1)], none, []⟩] false)
     (.block 0
      (.loop b56l0)))
    (.keep [8] [1008] b56k1))))
def b56 : DCode :=
 (.seq
  (.settle [2, 3]
   (.region [⟨(some 2), .box, [.t 0], none, []⟩,
     ⟨(some 3), .box, [.t 1], none, []⟩,
     ⟨(some 4), .mov, [.c (.slc 1 [])], none, []⟩,
     ⟨(some 5), .mov, [.c (.int .i64 0)], none, [2]⟩] false))
  (.seq
   (.settle [6]
    (.region [⟨(some 11), (.load true 2), [.t 2], none, []⟩,
      ⟨(some 12), .call, [.f 103, .t 11], none, [0]⟩,
      ⟨(some 10), .mov, [.t 12], none, [1]⟩,
      ⟨(some 13), (.ext 0), [.t 10], none, [2]⟩,
      ⟨(some 14), (.ext 1), [.t 10], none, [2]⟩,
      ⟨(some 6), (.alloc [(.imm (.slc 2 [])), (.imm (.slc 1 [])), (.imm (.slc 1 [])), (.imm (.int .i64 0))]), [], none, []⟩,
      ⟨none, (.store 4), [.t 6, .t 13], none, [5, 3, 1, 0, 1, 2, 3, 5]⟩,
      ⟨(some 7), .mov, [.t 14], none, [4, 6, 0, 1, 2, 3, 4, 5, 6]⟩] false))
   (.seq
    (.seq
     (.region [⟨(some 15), .mov, [.t 7], none, []⟩,
       ⟨(some 16), (.load true 5), [.t 3], none, []⟩,
       ⟨(some 17), .call, [.f 108, .t 16], none, [1]⟩,
       ⟨(some 18), (.bsl 1), [.t 15, .t 17], none, [0, 2]⟩,
       ⟨(some 19), .call, [.f 89, .t 18], none, [3, 2]⟩,
       ⟨(some 7), .mov, [.t 19], none, [4, 4, 0, 1, 2, 3, 4]⟩] false)
     (.seq
      (.region [⟨(some 20), .mov, [.t 7], none, []⟩,
        ⟨(some 21), (.bin .neq), [.t 20, .c (.int .i64 0)], none, [0]⟩] false)
      (.cond (.t 21)
       (.seq
        (.region [⟨(some 22), .mov, [.t 7], none, []⟩,
          ⟨(some 4), .mov, [.c (.slc 1 [])], none, []⟩,
          ⟨(some 5), .mov, [.t 22], none, [0, 1, 0, 1]⟩] false)
        .ret)
       .skip)))
    (.keep [3, 6] [] b56k2))))
def d56 : DFn := ⟨2, 42, [.tmp 4, .tmp 5], b56⟩
theorem body56 : d56.body = b56 := rfl
theorem res56 : d56.res = [.tmp 4, .tmp 5] := rfl
theorem k56 : chkFn Try.prog Try.f56 d56 = true := by kernel_rfl

def b110k0 : DCode :=
 (.seq
  (.region [⟨(some 14), (.load false 1), [.t 3], none, []⟩,
    ⟨(some 15), (.qnil false), [.t 14, .c (.slc 1 [])], none, [0]⟩,
    ⟨(some 5), .mov, [.t 15], none, [1, 0, 1]⟩] false)
  .ret)
def b110 : DCode :=
 (.seq
  (.region [⟨(some 5), .mov, [.c (.bool false)], none, []⟩] false)
  (.seq
   (.seq
    (.region [⟨(some 6), (.load true 4), [.t 1], none, []⟩,
      ⟨(some 7), .movv, [.t 0], none, []⟩,
      ⟨(some 8), (.load true 5), [.t 2], none, []⟩,
      ⟨(some 9), .call, [.f 111, .t 6, .t 7, .t 8], none, [0, 1, 2]⟩,
      ⟨(some 10), (.faddr 2 false 1), [.t 2], none, []⟩,
      ⟨(some 11), (.load false 1), [.t 10], none, [4]⟩,
      ⟨(some 12), (.bin .eql), [.t 9, .t 11], none, [3, 5]⟩] true)
    (.cond (.t 12)
     (.region [⟨(some 13), .movv, [.t 0], none, []⟩,
       ⟨none, (.store 1), [.t 3, .t 13], none, [0, 0]⟩] false)
     .skip))
   (.keep [3] [1008] b110k0)))
def d110 : DFn := ⟨4, 16, [.tmp 5], b110⟩
theorem body110 : d110.body = b110 := rfl
theorem res110 : d110.res = [.tmp 5] := rfl
theorem k110 : chkFnB Try.prog Try.f110 d110 [1008] [1008] = true := by kernel_rfl

end Go.DI

/- Lines, states and laws of waves as plain data. No condition. -/
set_option linter.unusedSimpArgs false
namespace Go.DI

abbrev W6 (n : Int) : Int := IntKind.wrap .i64 n
theorem wrap64 {n : Int} (h1 : -9223372036854775808 ≤ n) (h2 : n ≤ 9223372036854775807) : IntKind.wrap .i64 n = n := IntWalk.i64_in n ⟨h1, h2⟩

abbrev Pp := Int × Int
structure Ln where
  pp : List Pp
  ar : List Int
  deriving Inhabited, DecidableEq
structure Ow where
  pp : List Pp
  ar : List Int
  be : List Int
  n : Int
  deriving Inhabited, DecidableEq
structure Ws where
  F : List Int
  B : List Int
  L : List Int
  deriving Inhabited, DecidableEq
structure Tk where
  cl : Int
  mo : Int
  ti : Int
  lo : Int
  hi : Int
  deriving Inhabited, DecidableEq

def firstNZ : List Int → Int
  | [] => 0
  | x :: r => if x = 0 then firstNZ r else x
def fstE (a b : Int) : Int := if a = 0 then b else a
theorem firstNZ_two {a b : Int} : firstNZ [a, b] = fstE a b := by
  unfold firstNZ fstE
  split
  · unfold firstNZ; split
    · rename_i h; rw [h]; rfl
    · rfl
  · rfl

def idxF {α : Type} (p : α → Bool) : List α → Int
  | [] => -1
  | x :: r => if p x then 0 else if idxF p r = -1 then -1 else idxF p r + 1
theorem idxF_cons {α : Type} {p : α → Bool} {x : α} {r : List α} : idxF p (x :: r) = if p x then 0 else if idxF p r = -1 then -1 else idxF p r + 1 := rfl
theorem idxF_range {α : Type} {p : α → Bool} : ∀ (l : List α), -1 ≤ idxF p l ∧ idxF p l < l.length
  | [] => by simp [idxF]
  | x :: r => by
    have := idxF_range (p := p) r
    unfold idxF
    simp only [List.length_cons]
    split
    · omega
    · split <;> omega
theorem idxF_any {α : Type} {p : α → Bool} : ∀ (l : List α), (0 ≤ idxF p l) ↔ l.any p = true
  | [] => by simp [idxF]
  | x :: r => by
    have h := idxF_any (p := p) r
    have hr := idxF_range (p := p) r
    unfold idxF
    simp only [List.any_cons, Bool.or_eq_true]
    split
    · rename_i hx; simp [hx]
    · rename_i hx
      rw [← h]
      split <;> simp [hx] <;> omega
theorem idxF_none {α : Type} {p : α → Bool} {l : List α} : idxF p l = -1 ↔ ∀ x ∈ l, p x = false := by
  have h := idxF_any (p := p) l
  have hr := idxF_range (p := p) l
  constructor
  · intro k x hx
    cases hp : p x with
    | false => rfl
    | true =>
      have := h.2 (List.any_eq_true.2 ⟨x, hx, hp⟩)
      omega
  · intro k
    have : ¬ 0 ≤ idxF p l := by
      rw [h, List.any_eq_true]
      rintro ⟨x, hx, hp⟩
      rw [k x hx] at hp; cases hp
    omega
theorem idxF_drop {α : Type} [Inhabited α] {l : List α} {i : Nat} (h : i < l.length) : l.drop i = l.getD i default :: l.drop (i + 1) := by
  rw [List.drop_eq_getElem_cons h]
  congr 1
  rw [List.getD_eq_getElem?_getD]; simp [h]
theorem getD_drop {l : List Int} {i : Nat} (h : i < l.length) : l.drop i = l.getD i 0 :: l.drop (i + 1) := by
  rw [List.drop_eq_getElem_cons h]
  congr 1
  rw [List.getD_eq_getElem?_getD]; simp [h]
theorem getD_mem {α : Type} {l : List α} {i : Nat} {d : α} (h : i < l.length) : l.getD i d ∈ l := by rw [List.getD_eq_getElem?_getD]; simp [h]
def Seek {α : Type} (p : α → Bool) (l : List α) (i : Nat) : Prop := i ≤ l.length ∧ idxF p l = if idxF p (l.drop i) = -1 then -1 else idxF p (l.drop i) + i
theorem seek_zero {α : Type} {p : α → Bool} {l : List α} : Seek p l 0 := ⟨Nat.zero_le _, by simp⟩
theorem seek_hit {α : Type} {p : α → Bool} [Inhabited α] {l : List α} {i : Nat} (h : Seek p l i) (hi : i < l.length) (hp : p (l.getD i default) = true) : idxF p l = i := by
  have h2 := h.2
  rw [idxF_drop hi, idxF_cons, hp, if_pos rfl, if_neg (by omega)] at h2
  rw [h2]; simp
theorem seek_step {α : Type} {p : α → Bool} [Inhabited α] {l : List α} {i : Nat} (h : Seek p l i) (hi : i < l.length) (hp : p (l.getD i default) = false) : Seek p l (i + 1) := by
  have h2 := h.2
  have hr := idxF_range (p := p) (l.drop (i + 1))
  rw [idxF_drop hi, idxF_cons, hp] at h2
  simp only [Bool.false_eq_true, if_false] at h2
  refine ⟨by omega, ?_⟩
  rw [h2]
  split
  · rename_i h3; rw [if_pos rfl]
  · rename_i h3; rw [if_neg (by omega)]; omega
theorem seek_end {α : Type} {p : α → Bool} {l : List α} (h : Seek p l l.length) : idxF p l = -1 := by
  rw [h.2]; simp [idxF]

def badP (p : Pp) : Bool := !(decide (1 ≤ p.1 ∧ p.1 ≤ 6) && decide (1 ≤ p.2 ∧ p.2 ≤ 10))
def badA (n : Int) : Bool := !decide (0 ≤ n ∧ n ≤ 20)
def lenE (x : Ln) : Int := firstNZ [if 0 < (x.pp.length : Int) then 0 else 10, if (x.pp.length : Int) ≤ 4 then 0 else 8, if (x.ar.length : Int) = (x.pp.length : Int) - 1 then 0 else 10]
def chkL (x : Ln) : Int × Int :=
  if lenE x ≠ 0 then (0, lenE x) else if idxF badP x.pp ≠ -1 then (idxF badP x.pp, 2) else if 0 ≤ idxF badA x.ar then (idxF badA x.ar, 2) else (0, 0)
structure LineOk (x : Ln) : Prop where
  len : 1 ≤ x.pp.length ∧ x.pp.length ≤ 4
  ars : x.ar.length + 1 = x.pp.length
  pip : ∀ p ∈ x.pp, (1 ≤ p.1 ∧ p.1 ≤ 6) ∧ 1 ≤ p.2 ∧ p.2 ≤ 10
  are : ∀ n ∈ x.ar, 0 ≤ n ∧ n ≤ 20
theorem lenE_zero {x : Ln} : lenE x = 0 ↔ (1 ≤ x.pp.length ∧ x.pp.length ≤ 4) ∧ x.ar.length + 1 = x.pp.length := by
  unfold lenE
  constructor
  · intro h
    by_cases h1 : 0 < (x.pp.length : Int)
    · rw [if_pos h1] at h
      by_cases h2 : (x.pp.length : Int) ≤ 4
      · rw [if_pos h2] at h
        by_cases h3 : (x.ar.length : Int) = (x.pp.length : Int) - 1
        · omega
        · rw [if_neg h3] at h; cases h
      · rw [if_neg h2] at h; cases h
    · rw [if_neg h1] at h; cases h
  · rintro ⟨⟨h1, h2⟩, h3⟩
    rw [if_pos (show 0 < (x.pp.length : Int) by omega), if_pos (show (x.pp.length : Int) ≤ 4 by omega), if_pos (show (x.ar.length : Int) = (x.pp.length : Int) - 1 by omega)]
    rfl
theorem badP_false {p : Pp} : badP p = false ↔ (1 ≤ p.1 ∧ p.1 ≤ 6) ∧ 1 ≤ p.2 ∧ p.2 ≤ 10 := by simp [badP]
theorem badP_true {p : Pp} (h : ¬ ((1 ≤ p.1 ∧ p.1 ≤ 6) ∧ 1 ≤ p.2 ∧ p.2 ≤ 10)) : badP p = true := by
  cases hb : badP p with
  | false => exact absurd (badP_false.1 hb) h
  | true => rfl
theorem badA_false {n : Int} : badA n = false ↔ 0 ≤ n ∧ n ≤ 20 := by simp [badA]
theorem chkL_ok {x : Ln} : (chkL x).2 = 0 ↔ LineOk x := by
  unfold chkL
  constructor
  · intro h
    by_cases h1 : lenE x ≠ 0
    · rw [if_pos h1] at h; exact absurd h h1
    rw [if_neg h1] at h
    by_cases h2 : idxF badP x.pp ≠ -1
    · rw [if_pos h2] at h; cases h
    rw [if_neg h2] at h
    by_cases h3 : 0 ≤ idxF badA x.ar
    · rw [if_pos h3] at h; cases h
    have hr := idxF_range (p := badA) x.ar
    have e1 := lenE_zero.1 (Decidable.not_not.1 h1)
    exact ⟨e1.1, e1.2, fun p hp => badP_false.1 (idxF_none.1 (Decidable.not_not.1 h2) p hp), fun n hn => badA_false.1 (idxF_none.1 (by omega) n hn)⟩
  · intro h
    rw [if_neg (by rw [lenE_zero.2 ⟨h.len, h.ars⟩]; simp), if_neg (by rw [idxF_none.2 fun p hp => badP_false.2 (h.pip p hp)]; simp), if_neg (by rw [idxF_none.2 fun n hn => badA_false.2 (h.are n hn)]; simp)]

def begL : Int → List Pp → List Int
  | _, [] => []
  | a, p :: r => a :: begL (a + p.1) r
def cellsN : List Pp → Int
  | [] => 0
  | p :: r => p.1 + cellsN r
def opn (x : Ln) : Ow := ⟨x.pp, x.ar, begL 0 x.pp, cellsN x.pp⟩
theorem begL_length : ∀ (l : List Pp) (a : Int), (begL a l).length = l.length
  | [], _ => rfl
  | p :: r, a => by simp [begL, begL_length r]
theorem cellsN_bd : ∀ (l : List Pp), (∀ p ∈ l, 1 ≤ p.1 ∧ p.1 ≤ 6) → (l.length : Int) ≤ cellsN l ∧ cellsN l ≤ 6 * (l.length : Int)
  | [], _ => by simp [cellsN]
  | p :: r, h => by
    have h1 := h p (by simp)
    have h2 := cellsN_bd r fun q hq => h q (by simp [hq])
    simp only [cellsN, List.length_cons]
    omega
theorem begL_getD : ∀ (l : List Pp) (a : Int) (j : Nat), j < l.length → (begL a l).getD j 0 = a + cellsN (l.take j)
  | p :: r, a, 0, _ => by simp [begL, cellsN]
  | p :: r, a, j + 1, h => by
    have := begL_getD r (a + p.1) j (by simpa using h)
    simp only [begL, List.getD_cons_succ, List.take_succ_cons, cellsN, this]
    omega
theorem cellsN_take : ∀ (l : List Pp) (j : Nat), cellsN (l.take j) + cellsN (l.drop j) = cellsN l
  | [], j => by simp [cellsN]
  | p :: r, 0 => by simp [cellsN]
  | p :: r, j + 1 => by
    have := cellsN_take r j
    simp only [List.take_succ_cons, List.drop_succ_cons, cellsN]
    omega

def plainL (x : Ln) : Bool := !(x.pp.any fun p => decide (p.2 ≠ (x.pp.getD 0 default).2)) && !(x.ar.any fun n => decide (n ≠ 0))
theorem plainL_iff {x : Ln} : plainL x = true ↔ (∀ p ∈ x.pp, p.2 = (x.pp.getD 0 default).2) ∧ ∀ n ∈ x.ar, n = 0 := by
  unfold plainL
  simp
theorem begL_step {l : List Pp} {i : Nat} (h : i < l.length) : (begL 0 l).take i ++ [cellsN (l.take i)] = (begL 0 l).take (i + 1) := by
  rw [List.take_succ_eq_append_getElem (by rw [begL_length]; exact h)]
  congr 2
  have := begL_getD l 0 i h
  rw [List.getD_eq_getElem?_getD, List.getElem?_eq_getElem (by rw [begL_length]; exact h), Option.getD_some] at this
  omega
theorem cellsN_append : ∀ (l m : List Pp), cellsN (l ++ m) = cellsN l + cellsN m
  | [], m => by simp [cellsN]
  | p :: r, m => by simp [cellsN, cellsN_append r m]; omega
theorem cellsN_step {l : List Pp} {i : Nat} (h : i < l.length) : cellsN (l.take (i + 1)) = cellsN (l.take i) + (l.getD i default).1 := by
  rw [List.take_succ_eq_append_getElem h, cellsN_append]
  simp [cellsN, List.getD_eq_getElem?_getD, h]

def zeros (n : Nat) : List Int := List.replicate n 0
theorem zeros_len {n : Nat} : (zeros n).length = n := List.length_replicate
structure StateOk (x : Ow) (s : Ws) : Prop where
  f : (s.F.length : Int) = x.n
  b : (s.B.length : Int) = x.n
  l : s.L.length = x.ar.length
  fs : ∀ v ∈ s.F, -1000000 ≤ v ∧ v ≤ 1000000
  bs : ∀ v ∈ s.B, -1000000 ≤ v ∧ v ≤ 1000000
  ls : ∀ v ∈ s.L, -1000000 ≤ v ∧ v ≤ 1000000
def jP (y w A a c L : Int) : Int := W6 ((W6 (W6 (W6 (W6 (2 * y) * a) + W6 (W6 (2 * w) * c)) + W6 (A * L))).tdiv (W6 (W6 (y + w) + A)))
def jnc (x : Ow) (s : Ws) (j : Nat) (o : Ws) : Ws :=
  let af := (x.be.getD (j + 1) 0).toNat
  let a := s.F.getD (af - 1) 0
  let c := s.B.getD af 0
  let p := jP (x.pp.getD j default).2 (x.pp.getD (j + 1) default).2 (x.ar.getD j 0) a c (s.L.getD j 0)
  ⟨o.F.set af (W6 (p - c)), o.B.set (af - 1) (W6 (p - a)), o.L.set j p⟩
def jncs (x : Ow) (s : Ws) : Nat → Ws → Ws
  | 0, o => o
  | k + 1, o => jnc x s k (jncs x s k o)
def baseS (x : Ow) (s : Ws) (c : Int) : Ws :=
  ⟨W6 (0 - s.B.getD 0 0) :: s.F.take (x.n.toNat - 1), s.B.drop 1 ++ [W6 (s.F.getD (x.n.toNat - 1) 0 + c)], zeros x.ar.length⟩
def stp (x : Ow) (s : Ws) (c : Int) : Ws := jncs x s x.ar.length (baseS x s c)
def restS (x : Ow) : Ws := ⟨zeros x.n.toNat, zeros x.n.toNat, zeros x.ar.length⟩
structure Sh (x : Ow) (s : Ws) : Prop where
  f : (s.F.length : Int) = x.n
  b : (s.B.length : Int) = x.n
  l : s.L.length = x.ar.length
theorem sh_rest {x : Ow} (h : 0 ≤ x.n) : Sh x (restS x) := ⟨by simp only [restS, zeros_len]; omega, by simp only [restS, zeros_len]; omega, zeros_len⟩
theorem sh_jnc {x : Ow} {s o : Ws} {j : Nat} (h : Sh x o) : Sh x (jnc x s j o) := ⟨by simp only [jnc, List.length_set]; exact h.f, by simp only [jnc, List.length_set]; exact h.b, by simp only [jnc, List.length_set]; exact h.l⟩
theorem sh_jncs {x : Ow} {s : Ws} : ∀ {k : Nat} {o : Ws}, Sh x o → Sh x (jncs x s k o)
  | 0, _, h => h
  | _ + 1, _, h => sh_jnc (sh_jncs h)
theorem sh_base {x : Ow} {s : Ws} {c : Int} (h : Sh x s) (hn : 1 ≤ x.n) : Sh x (baseS x s c) := by
  have h1 := h.f; have h2 := h.b
  refine ⟨?_, ?_, zeros_len⟩
  · simp only [baseS, List.length_cons, List.length_take]; omega
  · simp only [baseS, List.length_append, List.length_drop, List.length_cons, List.length_nil]; omega
theorem sh_stp {x : Ow} {s : Ws} {c : Int} (h : Sh x s) (hn : 1 ≤ x.n) : Sh x (stp x s c) := sh_jncs (sh_base h hn)
structure OwOk (x : Ow) : Prop where
  len : 1 ≤ x.pp.length ∧ x.pp.length ≤ 4
  ars : x.ar.length + 1 = x.pp.length
  pip : ∀ p ∈ x.pp, (1 ≤ p.1 ∧ p.1 ≤ 6) ∧ 1 ≤ p.2 ∧ p.2 ≤ 10
  are : ∀ n ∈ x.ar, 0 ≤ n ∧ n ≤ 20
  be : x.be = begL 0 x.pp
  n : x.n = cellsN x.pp
theorem opn_ok {x : Ln} (h : LineOk x) : OwOk (opn x) := ⟨h.len, h.ars, h.pip, h.are, rfl, rfl⟩
theorem OwOk.nb {x : Ow} (h : OwOk x) : 1 ≤ x.n ∧ x.n ≤ 24 := by
  have := cellsN_bd x.pp fun p hp => (h.pip p hp).1
  have := h.len; have := h.n
  omega
theorem OwOk.bel {x : Ow} (h : OwOk x) : x.be.length = x.pp.length := by rw [h.be, begL_length]
theorem OwOk.at {x : Ow} (h : OwOk x) {j : Nat} (hj : j < x.ar.length) : 1 ≤ x.be.getD (j + 1) 0 ∧ x.be.getD (j + 1) 0 + 1 ≤ x.n := by
  have hl := h.ars
  have h1 := cellsN_take x.pp (j + 1)
  have h2 := cellsN_bd (x.pp.take (j + 1)) fun p hp => (h.pip p (List.mem_of_mem_take hp)).1
  have h3 := cellsN_bd (x.pp.drop (j + 1)) fun p hp => (h.pip p (List.mem_of_mem_drop hp)).1
  simp only [List.length_take, List.length_drop] at h2 h3
  rw [h.be, begL_getD _ _ _ (by omega), h.n]
  omega

theorem ticksE_def {n : Int} : (if 1 ≤ n ∧ n ≤ 200 then (0 : Int) else 2) = 0 ↔ 1 ≤ n ∧ n ≤ 200 := by
  split <;> simp_all
def lawScan : Int → Int → List Int → Int × Int
  | _, _, [] => (0, 0)
  | i, l, n :: r => if fstE (if 0 ≤ n ∧ n ≤ 1000 then 0 else 2) (if l ≤ n then 0 else 9) = 0 then lawScan (i + 1) n r else (i, fstE (if 0 ≤ n ∧ n ≤ 1000 then 0 else 2) (if l ≤ n then 0 else 9))
theorem lawScan_cons {i l n : Int} {r : List Int} : lawScan i l (n :: r) = if fstE (if 0 ≤ n ∧ n ≤ 1000 then 0 else 2) (if l ≤ n then 0 else 9) = 0 then lawScan (i + 1) n r else (i, fstE (if 0 ≤ n ∧ n ≤ 1000 then 0 else 2) (if l ≤ n then 0 else 9)) := rfl
def chkW (law : List Int) : Int × Int := if 60 < (law.length : Int) then (0, 8) else lawScan 0 0 law
def ticksE (n : Int) : Int := if 1 ≤ n ∧ n ≤ 200 then 0 else 2
def taskE (t : Tk) : Int :=
  firstNZ [if (0 ≤ t.cl ∧ t.cl ≤ 5) ∧ 1 ≤ t.mo ∧ t.mo ≤ 7 then 0 else 2, ticksE t.ti, if (-1000000 ≤ t.lo ∧ t.lo ≤ 1000000) ∧ -1000000 ≤ t.hi ∧ t.hi ≤ 1000000 then 0 else 2, if t.lo ≤ t.hi then 0 else 9]
def atL (law : List Int) (t : Nat) : Int := law.getD (min t (law.length - 1)) 0
def opnE (x : Ln) : Ow := if (chkL x).2 = 0 then opn x else ⟨[], [], [], 0⟩
def lawRunE (x : Ln) (law : List Int) (t : Int) : Int := firstNZ [(chkL x).2, (chkW law).2, ticksE t]
theorem fstE_zero {a b : Int} : fstE a b = 0 ↔ a = 0 ∧ b = 0 := by
  unfold fstE
  split
  · rename_i h; simp [h]
  · rename_i h; simp [h]
theorem firstNZ_zero : ∀ {l : List Int}, firstNZ l = 0 ↔ ∀ e ∈ l, e = 0
  | [] => by simp [firstNZ]
  | a :: r => by
    unfold firstNZ
    split
    · rename_i h; rw [firstNZ_zero]; simp [h]
    · rename_i h; simp [h]
theorem lawRunE_zero {x : Ln} {law : List Int} {t : Int} : lawRunE x law t = 0 ↔ LineOk x ∧ (chkW law).2 = 0 ∧ 1 ≤ t ∧ t ≤ 200 := by
  unfold lawRunE
  rw [firstNZ_zero]
  simp only [List.mem_cons, List.not_mem_nil, or_false, forall_eq_or_imp, forall_eq, chkL_ok]
  unfold ticksE
  rw [ticksE_def]
structure TkOk (t : Tk) : Prop where
  cl : 0 ≤ t.cl ∧ t.cl ≤ 5
  mo : 1 ≤ t.mo ∧ t.mo ≤ 7
  ti : 1 ≤ t.ti ∧ t.ti ≤ 200
  lo : -1000000 ≤ t.lo ∧ t.lo ≤ 1000000
  hi : -1000000 ≤ t.hi ∧ t.hi ≤ 1000000
  le : t.lo ≤ t.hi
theorem ite_zero {p : Prop} [Decidable p] {n : Int} (h : n ≠ 0) : (if p then (0 : Int) else n) = 0 ↔ p := by split <;> simp_all
theorem taskE_zero {t : Tk} : taskE t = 0 ↔ TkOk t := by
  unfold taskE ticksE
  rw [firstNZ_zero]
  simp only [List.mem_cons, List.not_mem_nil, or_false, forall_eq_or_imp, forall_eq]
  rw [ite_zero (by decide), ite_zero (by decide), ite_zero (by decide), ite_zero (by decide)]
  exact ⟨fun h => ⟨h.1.1, h.1.2, h.2.1, h.2.2.1.1, h.2.2.1.2, h.2.2.2⟩, fun h => ⟨⟨h.cl, h.mo⟩, h.ti, ⟨h.lo, h.hi⟩, h.le⟩⟩
theorem StateOk.sh {x : Ow} {s : Ws} (h : StateOk x s) : Sh x s := ⟨h.f, h.b, h.l⟩
def lawS (x : Ow) (law : List Int) : Nat → Ws
  | 0 => restS x
  | t + 1 => stp x (lawS x law t) (atL law t)
def valve (x : Ow) (law : List Int) (t : Nat) : Int := W6 (W6 (2 * (lawS x law t).F.getD (x.n.toNat - 1) 0) + atL law t)
theorem sh_law {x : Ow} (hn : 1 ≤ x.n) {law : List Int} : ∀ t, Sh x (lawS x law t)
  | 0 => sh_rest (by omega)
  | t + 1 => sh_stp (sh_law hn t) hn
def valveL (x : Ow) (law : List Int) (k : Nat) : List Int := (List.range k).map (valve x law)
theorem valveL_length {x : Ow} {law : List Int} {k : Nat} : (valveL x law k).length = k := by simp [valveL]
theorem valveL_succ {x : Ow} {law : List Int} {k : Nat} : valveL x law (k + 1) = valveL x law k ++ [valve x law k] := by simp [valveL, List.range_succ]
theorem valveL_get {x : Ow} {law : List Int} {k m : Nat} (h : m < k) : (valveL x law k).getD m default = valve x law m := by
  simp [valveL, List.getD_eq_getElem?_getD, h]
def outP (lo hi v : Int) : Bool := !decide (lo ≤ v ∧ v ≤ hi)
def beyN (x : Ow) (law : List Int) (t : Tk) : Int :=
  if idxF (outP t.lo t.hi) (valveL x law t.ti.toNat) = -1 then t.ti else idxF (outP t.lo t.hi) (valveL x law t.ti.toNat)
theorem atL_bd {law : List Int} {g : Int} (hg : 0 ≤ g) (h : ∀ n ∈ law, 0 ≤ n ∧ n ≤ g) (t : Nat) : 0 ≤ atL law t ∧ atL law t ≤ g := by
  unfold atL
  by_cases h0 : law.length = 0
  · have : law = [] := List.length_eq_zero_iff.1 h0
    subst this
    simp; omega
  · exact h _ (getD_mem (by omega))
def lawsL (g : Int) : Nat → List Int → List (List Int)
  | 0, law => [law ++ [g]]
  | m + 1, law => (List.range (g + 1 - atL law law.length).toNat).flatMap fun (i : Nat) => lawsL g m (law ++ [atL law law.length + (i : Int)])
def lawsR (g : Int) (m : Nat) (law : List Int) (n : Int) : List (List Int) := (List.range (g + 1 - n).toNat).flatMap fun (i : Nat) => lawsL g m (law ++ [n + (i : Int)])
theorem lawsR_step {g : Int} {m : Nat} {law : List Int} {n : Int} (h : n ≤ g) : lawsR g m law n = lawsL g m (law ++ [n]) ++ lawsR g m law (n + 1) := by
  unfold lawsR
  rw [show (g + 1 - n).toNat = (g + 1 - (n + 1)).toNat + 1 by omega, List.range_succ_eq_map, List.flatMap_cons, List.flatMap_map]
  congr 1
  · simp
  · congr 1
    funext i
    congr 3
    simp only [Nat.succ_eq_add_one]; omega
theorem lawsR_end {g : Int} {m : Nat} {law : List Int} {n : Int} (h : ¬ n ≤ g) : lawsR g m law n = [] := by
  unfold lawsR
  rw [show (g + 1 - n).toNat = 0 by omega]
  rfl
def keeps (x : Ow) (t : Tk) (law : List Int) : Bool := decide (beyN x law t = t.ti)
def fastL (x : Ow) (t : Tk) : Nat → Nat → List Int
  | _, 0 => []
  | c, k + 1 => match (lawsL t.cl c []).find? (keeps x t) with
    | some l => l
    | none => fastL x t (c + 1) k
def fast (x : Ow) (t : Tk) : List Int := fastL x t 0 t.mo.toNat
def fastE (x : Ln) (t : Tk) : Int := fstE (chkL x).2 (taskE t)
end Go.DI

/- Contracts: lines and states of waves. No condition. -/
set_option linter.unusedSimpArgs false
set_option linter.defProp false
namespace Go.DI
open Go.Proofs Go.RowKit

def ppI (p : Pp) : IV := .agg [.int .i64 p.1, .int .i64 p.2]
def nI (l : List Int) : IV := .slc 1 (l.map (.int .i64))
def lnI (x : Ln) : IV := .agg [.slc 2 (x.pp.map ppI), nI x.ar]
def owI (x : Ow) : IV := .agg [.slc 2 (x.pp.map ppI), nI x.ar, nI x.be, .int .i64 x.n]
def wsI (s : Ws) : IV := .agg [nI s.F, nI s.B, nI s.L]
def tkI (t : Tk) : IV := .agg [.int .i64 t.cl, .int .i64 t.mo, .int .i64 t.ti, .int .i64 t.lo, .int .i64 t.hi]
def e2I (q : Int × Int) : IV := .tup [.int .i64 q.1, .int .i64 q.2]
theorem cellsOf_cpx {k : FloatKind} {a b : Nat} : cellsOf (.imm (.cpx k a b)) = some [.imm (.cpx k a b)] := rfl

theorem loadI_cpx {K : DV → Option Res → Prop} {k : FloatKind} {a b : Nat} : loadI K (.cpx k a b) = K (.imm (.cpx k a b)) none := rfl
def vaE := And.intro @cellsOf_cpx <| And.intro @cellsOf_flt <| And.intro @loadI_cpx <| And.intro @ppI.eq_1 (And.intro @nI.eq_1 (And.intro @lnI.eq_1 (And.intro @owI.eq_1 (And.intro @wsI.eq_1 (And.intro @tkI.eq_1 @e2I.eq_1)))))

theorem w_within {x lo hi : Int} : Contract Try.prog 115 [.int .i64 x, .int .i64 lo, .int .i64 hi] (.bool (decide (lo ≤ x ∧ x ≤ hi))) := by
  refine contract_run Try.func115 k115 rfl ?_
  simp only [body115, b115, res115, ↓reduceIte, reduceCtorEq, Nat.reduceEqDiff, Nat.reduceAdd, Nat.reduceMul, Nat.reduceSub, Nat.reduceLeDiff, Nat.reduceBEq, Int.reduceToNat, Int.reduceLE, Int.reduceLT, Int.reduceEq, Int.reduceNe, di]
  split
  · rename_i h; simp [h]
  · rename_i h; simp [h]
theorem w_unless {b : Bool} {e : Int} : Contract Try.prog 90 [.bool b, .int .i64 e] (.int .i64 (if b = true then 0 else e)) := by
  refine contract_run Try.func90 k90 rfl ?_
  simp only [body90, b90, res90, b90k0, ↓reduceIte, reduceCtorEq, Nat.reduceEqDiff, Nat.reduceAdd, Nat.reduceMul, Nat.reduceSub, Nat.reduceLeDiff, Nat.reduceBEq, Int.reduceToNat, Int.reduceLE, Int.reduceLT, Int.reduceEq, Int.reduceNe, di]
  split <;> rfl
theorem w_isSized {x m : Int} (hm : 0 ≤ m ∧ m ≤ 1000000000) : Contract Try.prog 127 [.int .i64 x, .int .i64 m] (.bool (decide (-m ≤ x ∧ x ≤ m))) := by
  refine contract_run Try.func127 k127 rfl ?_
  simp only [body127, b127, res127, ↓reduceIte, reduceCtorEq, Nat.reduceEqDiff, Nat.reduceAdd, Nat.reduceMul, Nat.reduceSub, Nat.reduceLeDiff, Nat.reduceBEq, Int.reduceToNat, Int.reduceLE, Int.reduceLT, Int.reduceEq, Int.reduceNe, di]
  rw [wrap64 (n := 0 - m) (by omega) (by omega), Int.zero_sub]
  refine calls_of w_within ?_; simp only [res127, ↓reduceIte, reduceCtorEq, Nat.reduceEqDiff, Nat.reduceAdd, Nat.reduceMul, Nat.reduceSub, Nat.reduceLeDiff, Nat.reduceBEq, Int.reduceToNat, Int.reduceLE, Int.reduceLT, Int.reduceEq, Int.reduceNe, di]
theorem w_first {l : List Int} (hl : l.length ≤ 1000000000000) : Contract Try.prog 89 [.slc 1 (l.map (.int .i64))] (.int .i64 (firstNZ l)) := by
  refine contract_run Try.func89 k89 rfl ?_
  simp only [body89, b89, res89, b89k0, b89k1, b89k2, ↓reduceIte, reduceCtorEq, Nat.reduceEqDiff, Nat.reduceAdd, Nat.reduceMul, Nat.reduceSub, Nat.reduceLeDiff, Nat.reduceBEq, Int.reduceToNat, Int.reduceLE, Int.reduceLT, Int.reduceEq, Int.reduceNe, di]
  refine loop_keep (α := Nat) rfl (fun i => l.length - i) (fun i => i ≤ l.length ∧ firstNZ (l.drop i) = firstNZ l)
    (fun i => [(5, .imm (.slc 1 (l.map (.int .i64)))), (6, .imm (.int .i64 l.length)), (7, .imm (.int .i64 i))]) (fun _ => []) 0 ⟨Nat.zero_le _, rfl⟩ (by simp only [↓reduceIte, reduceCtorEq, Nat.reduceEqDiff, Nat.reduceAdd, Nat.reduceMul, Nat.reduceSub, Nat.reduceLeDiff, Nat.reduceBEq, Int.reduceToNat, Int.reduceLE, Int.reduceLT, Int.reduceEq, Int.reduceNe, di] <;> rfl) ?_
  intro i ⟨hi, he⟩ ih
  simp only [res89, b89k0, b89k1, b89k2, ↓reduceIte, reduceCtorEq, Nat.reduceEqDiff, Nat.reduceAdd, Nat.reduceMul, Nat.reduceSub, Nat.reduceLeDiff, Nat.reduceBEq, Int.reduceToNat, Int.reduceLE, Int.reduceLT, Int.reduceEq, Int.reduceNe, di]
  split
  · rename_i h
    have hd : l.drop i = l.getD i 0 :: l.drop (i + 1) := getD_drop (by omega)
    repeat (refine And.intro (by omega) ?_)
    split
    · rename_i h2
      rw [wrap64 (by omega) (by omega)]
      refine ih (i + 1) _ _ (by omega) ⟨by omega, ?_⟩ (by simp only [↓reduceIte, reduceCtorEq, Nat.reduceEqDiff, Nat.reduceAdd, Nat.reduceMul, Nat.reduceSub, Nat.reduceLeDiff, Nat.reduceBEq, Int.reduceToNat, Int.reduceLE, Int.reduceLT, Int.reduceEq, Int.reduceNe, di] <;> rfl)
      rw [← he, hd, firstNZ, if_pos h2]
    · rename_i h2
      rw [← he, hd, firstNZ, if_neg h2]
  · rename_i h
    have : i = l.length := by omega
    subst this
    rw [← he]
    simp [firstNZ]
theorem w_last {x : Ow} (h : 1 ≤ x.n ∧ x.n ≤ 1000000) : Contract Try.prog 133 [owI x] (.int .i64 (x.n - 1)) := by
  refine contract_run Try.func133 k133 rfl ?_
  simp only [body133, b133, res133, vaE, ↓reduceIte, reduceCtorEq, Nat.reduceEqDiff, Nat.reduceAdd, Nat.reduceMul, Nat.reduceSub, Nat.reduceLeDiff, Nat.reduceBEq, Int.reduceToNat, Int.reduceLE, Int.reduceLT, Int.reduceEq, Int.reduceNe, di]
  rw [wrap64 (by omega) (by omega)]
theorem nz {n : Nat} : (0 + n ≤ (List.replicate n (0 : Int)).length) = True := by simp
theorem nz1 {n : Nat} : (List.replicate n (0 : Int)).take n = zeros n := by unfold zeros; rw [List.take_of_length_le (by simp)]
theorem w_rest {x : Ow} (h : 0 ≤ x.n ∧ x.n ≤ 1000000) (ha : x.ar.length ≤ 1000000) : Contract Try.prog 146 [owI x] (wsI (restS x)) := by
  refine contract_run Try.func146 k146 rfl ?_
  simp only [body146, b146, res146, vaE, ↓reduceIte, reduceCtorEq, Nat.reduceEqDiff, Nat.reduceAdd, Nat.reduceMul, Nat.reduceSub, Nat.reduceLeDiff, Nat.reduceBEq, Int.reduceToNat, Int.reduceLE, Int.reduceLT, Int.reduceEq, Int.reduceNe, di]
  repeat (refine And.intro (by omega) ?_)
  simp only [nz, nz1, restS, ↓reduceIte, reduceCtorEq, Nat.reduceEqDiff, Nat.reduceAdd, Nat.reduceMul, Nat.reduceSub, Nat.reduceLeDiff, Nat.reduceBEq, Int.reduceToNat, Int.reduceLE, Int.reduceLT, Int.reduceEq, Int.reduceNe, di]
theorem b_rest {x : Ow} (h : 0 ≤ x.n ∧ x.n ≤ 1000000) (ha : x.ar.length ≤ 1000000) : BC Try.prog 146 [.imm (owI x)] (lookR []) fun r R' =>
    r = .agg [.vec 1000 0 x.n.toNat, .vec 1001 0 x.n.toNat, .vec 1002 0 x.ar.length] ∧ R' = lookR [(1000, .arr ((zeros x.n.toNat).map (.int .i64))), (1001, .arr ((zeros x.n.toNat).map (.int .i64))), (1002, .arr ((zeros x.ar.length).map (.int .i64)))] := by
  refine bc_run Try.func146 k1146 rfl rfl ?_
  simp only [body1146, b1146, res1146, vaE, ↓reduceIte, reduceCtorEq, Nat.reduceEqDiff, Nat.reduceAdd, Nat.reduceMul, Nat.reduceSub, Nat.reduceLeDiff, Nat.reduceBEq, Int.reduceToNat, Int.reduceLE, Int.reduceLT, Int.reduceEq, Int.reduceNe, di]
  repeat (refine And.intro (by omega) ?_)
  refine run_ren rfl (by first | decide | rfl) (by first | decide | rfl) (by first | decide | rfl) ?_
  simp only [↓reduceIte, reduceCtorEq, Nat.reduceEqDiff, Nat.reduceAdd, Nat.reduceMul, Nat.reduceSub, Nat.reduceLeDiff, Nat.reduceBEq, Int.reduceToNat, Int.reduceLE, Int.reduceLT, Int.reduceEq, Int.reduceNe, di]
  refine run_ren rfl (by first | decide | rfl) (by first | decide | rfl) (by first | decide | rfl) ?_
  simp only [↓reduceIte, reduceCtorEq, Nat.reduceEqDiff, Nat.reduceAdd, Nat.reduceMul, Nat.reduceSub, Nat.reduceLeDiff, Nat.reduceBEq, Int.reduceToNat, Int.reduceLE, Int.reduceLT, Int.reduceEq, Int.reduceNe, di]
  refine run_ren rfl (by first | decide | rfl) (by first | decide | rfl) (by first | decide | rfl) ?_
  simp only [↓reduceIte, reduceCtorEq, Nat.reduceEqDiff, Nat.reduceAdd, Nat.reduceMul, Nat.reduceSub, Nat.reduceLeDiff, Nat.reduceBEq, Int.reduceToNat, Int.reduceLE, Int.reduceLT, Int.reduceEq, Int.reduceNe, di]
  rw [outD_one res1146]
  exact ⟨.agg [.vec 1000 0 x.n.toNat, .vec 1001 0 x.n.toNat, .vec 1002 0 x.ar.length], rfl, rfl, rfl, rfl⟩
end Go.DI

/- Contracts: a tick. No condition. -/
set_option linter.unusedSimpArgs false
set_option maxRecDepth 100000
namespace Go.DI
open Go.Proofs Go.RowKit

theorem all_int (l : List Int) : ((l.map (IV.int .i64)).all fun v => !v.isAgg) = true := by simp [IV.isAgg]
theorem base_F {n : Nat} {F : List Int} {v : Int} (h : F.length = n) (hn : 1 ≤ n) : ((zeros n).take 1 ++ (F.take (n - 1) ++ (zeros n).drop (1 + min (n - 1) F.length))).set 0 v = v :: F.take (n - 1) := by
  rw [List.drop_of_length_le (by rw [zeros_len]; omega), List.append_nil]
  cases n with
  | zero => omega
  | succ k =>
    show (List.take 1 (List.replicate (k + 1) 0) ++ _).set 0 v = _
    rw [List.replicate_succ]
    rfl
theorem base_B {n : Nat} {B : List Int} {v : Int} (h : B.length = n) (hn : 1 ≤ n) : ((zeros n).take 0 ++ ((List.drop 1 (B.take B.length)).take n ++ (zeros n).drop (0 + min n (List.drop 1 (B.take B.length)).length))).set (n - 1) v = B.drop 1 ++ [v] := by
  rw [List.take_length, List.take_of_length_le (l := List.drop 1 B) (by rw [List.length_drop]; omega), List.take_zero, List.nil_append, List.length_drop, h, Nat.zero_add, Nat.min_eq_right (by omega)]
  have e : (zeros n).drop (n - 1) = [0] := by
    unfold zeros
    rw [List.drop_replicate, show n - (n - 1) = 1 by omega]
    rfl
  rw [e]
  rw [List.set_append_right _ _ (by rw [List.length_drop]; omega), List.length_drop, h, Nat.sub_self]
  rfl

theorem w_stepped {x : Ow} {s : Ws} {c : Int} (hx : OwOk x) (hs : Sh x s) : Contract Try.prog 93 [owI x, wsI s, .int .i64 c] (wsI (stp x s c)) := by
  have hn := hx.nb
  have hF := hs.f; have hB := hs.b; have hL := hs.l
  have ha := hx.ars; have hl := hx.len
  have hbe := hx.bel
  refine contract_run Try.func93 k93 rfl ?_
  simp only [body93, b93, res93, b93k0, b93k1, vaE, ↓reduceIte, reduceCtorEq, Nat.reduceEqDiff, Nat.reduceAdd, Nat.reduceMul, Nat.reduceSub, Nat.reduceLeDiff, Nat.reduceBEq, Int.reduceToNat, Int.reduceLE, Int.reduceLT, Int.reduceEq, Int.reduceNe, di]
  refine do_lend rfl (by rw [restr_look]; exact b_rest (x := x) (by omega) (by omega)) rfl rfl ?_
  rintro q R' ⟨rfl, rfl⟩
  refine ⟨_, rfl, rfl, ?_⟩
  simp only [res93, b93k0, b93k1, vaE, ↓reduceIte, reduceCtorEq, Nat.reduceEqDiff, Nat.reduceAdd, Nat.reduceMul, Nat.reduceSub, Nat.reduceLeDiff, Nat.reduceBEq, Int.reduceToNat, Int.reduceLE, Int.reduceLT, Int.reduceEq, Int.reduceNe, di]
  repeat (refine And.intro (by first | omega | exact all_int _ | (simp only [zeros_len, List.length_append, List.length_take, List.length_drop, List.length_set, List.length_cons, List.length_nil, List.length_map]; omega)) ?_)
  refine calls_of (w_last (x := x) (by omega)) ?_; simp only [vaE, res93, b93k0, b93k1, ↓reduceIte, reduceCtorEq, Nat.reduceEqDiff, Nat.reduceAdd, Nat.reduceMul, Nat.reduceSub, Nat.reduceLeDiff, Nat.reduceBEq, Int.reduceToNat, Int.reduceLE, Int.reduceLT, Int.reduceEq, Int.reduceNe, di]
  refine calls_of (w_last (x := x) (by omega)) ?_; simp only [vaE, res93, b93k0, b93k1, ↓reduceIte, reduceCtorEq, Nat.reduceEqDiff, Nat.reduceAdd, Nat.reduceMul, Nat.reduceSub, Nat.reduceLeDiff, Nat.reduceBEq, Int.reduceToNat, Int.reduceLE, Int.reduceLT, Int.reduceEq, Int.reduceNe, di]
  repeat (refine And.intro (by first | omega | exact all_int _ | (simp only [zeros_len, List.length_append, List.length_take, List.length_drop, List.length_set, List.length_cons, List.length_nil, List.length_map]; omega)) ?_)
  rw [base_F (by omega) (by omega), show (x.n - 1).toNat = x.n.toNat - 1 by omega, Nat.zero_add, base_B (by omega) (by omega)]
  refine loop_keep (α := Nat) rfl (fun j => x.ar.length - j) (fun j => j ≤ x.ar.length)
    (fun j => [(3, .ref 3 0), (4, .ref 4 0), (6, .ref 6 0), (7, .ref 7 0), (53, .imm (nI x.ar)), (54, .imm (.int .i64 x.ar.length)), (55, .imm (.int .i64 j))])
    (fun j => [(3, .box [.imm (.slc 2 (x.pp.map ppI)), .imm (nI x.ar), .imm (nI x.be), .imm (.int .i64 x.n)]), (4, .box [.imm (nI s.F), .imm (nI s.B), .imm (nI s.L)]),
      (6, .box [.imm (.slc 1 []), .imm (.slc 1 []), .imm (.slc 1 [])]), (7, .box [.vec 1000 0 x.n.toNat, .vec 1001 0 x.n.toNat, .vec 1002 0 x.ar.length]),
      (1000, .arr ((jncs x s j (baseS x s c)).F.map (.int .i64))), (1001, .arr ((jncs x s j (baseS x s c)).B.map (.int .i64))), (1002, .arr ((jncs x s j (baseS x s c)).L.map (.int .i64)))])
    0 (Nat.zero_le _) (by simp only [jncs, baseS, vaE, ↓reduceIte, reduceCtorEq, Nat.reduceEqDiff, Nat.reduceAdd, Nat.reduceMul, Nat.reduceSub, Nat.reduceLeDiff, Nat.reduceBEq, Int.reduceToNat, Int.reduceLE, Int.reduceLT, Int.reduceEq, Int.reduceNe, di] <;> rfl) ?_
  intro j hj ih
  have ho := sh_jncs (s := s) (k := j) (sh_base (c := c) hs hn.1)
  have h1 := ho.f; have h2 := ho.b; have h3 := ho.l
  simp only [res93, b93k0, b93k1, vaE, ↓reduceIte, reduceCtorEq, Nat.reduceEqDiff, Nat.reduceAdd, Nat.reduceMul, Nat.reduceSub, Nat.reduceLeDiff, Nat.reduceBEq, Int.reduceToNat, Int.reduceLE, Int.reduceLT, Int.reduceEq, Int.reduceNe, di]
  split
  · rename_i h
    have hlt : j < x.ar.length := by omega
    have hat := hx.at hlt
    rw [wrap64 (n := (j : Int) + 1) (by omega) (by omega), show ((j : Int) + 1).toNat = j + 1 by omega]
    rw [wrap64 (n := x.be.getD (j + 1) 0 - 1) (by omega) (by omega), show (x.be.getD (j + 1) 0 - 1).toNat = (x.be.getD (j + 1) 0).toNat - 1 by omega]
    have hp1 := hx.pip _ (getD_mem (l := x.pp) (d := default) (show j < x.pp.length by omega))
    have hp2 := hx.pip _ (getD_mem (l := x.pp) (d := default) (show j + 1 < x.pp.length by omega))
    have hA := hx.are _ (getD_mem (l := x.ar) (d := 0) hlt)
    repeat (refine And.intro (by first | omega | exact all_int _ | (simp only [zeros_len, List.length_append, List.length_take, List.length_drop, List.length_set, List.length_cons, List.length_nil, List.length_map]; omega)) ?_)
    refine And.intro ?_ ?_
    · rw [wrap64 (n := (x.pp.getD j default).snd + (x.pp.getD (j + 1) default).snd) (by omega) (by omega), wrap64 (by omega) (by omega)]
      omega
    repeat (refine And.intro (by first | omega | exact all_int _ | (simp only [zeros_len, List.length_append, List.length_take, List.length_drop, List.length_set, List.length_cons, List.length_nil, List.length_map]; omega)) ?_)
    simp only [Nat.zero_add]
    refine ih (j + 1) _ _ (by omega) (by omega) (by simp only [vaE, ↓reduceIte, reduceCtorEq, Nat.reduceEqDiff, Nat.reduceAdd, Nat.reduceMul, Nat.reduceSub, Nat.reduceLeDiff, Nat.reduceBEq, Int.reduceToNat, Int.reduceLE, Int.reduceLT, Int.reduceEq, Int.reduceNe, di] <;> rfl)
  · rename_i h
    have : j = x.ar.length := by omega
    subst this
    rw [if_pos (by omega), if_pos (by omega), if_pos (by omega), List.take_of_length_le (by omega), List.take_of_length_le (by omega), List.take_of_length_le (by omega)]
    rfl
end Go.DI

