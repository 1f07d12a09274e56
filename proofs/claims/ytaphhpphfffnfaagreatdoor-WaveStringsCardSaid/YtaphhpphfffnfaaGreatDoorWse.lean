/- The functions of lines and states of waves, as data. No condition. -/
import Derived.Test.YtaphhpphfffnfaaGreatDoorWsGe
import Derived.Test.YtaphhpphfffnfaaGreatDoorProg
import Derived.KernelRfl
namespace Go.DI
open Go.Proofs Go.RowKit
/-- guidevane/wave.within -/
def b148 : DCode :=
 (.seq
 (.region [⟨(some 6), .mov, [.c (.bool false)], none, []⟩] false)
 (.seq
 (.region [⟨(some 7), .mov, [.t 1], none, []⟩,
 ⟨(some 8), .mov, [.t 0], none, []⟩,
 ⟨(some 9), (.bin .leq), [.t 7, .t 8], none, [0, 1]⟩,
 ⟨(some 10), .mov, [.t 9], none, [2]⟩,
 ⟨(some 11), .mov, [.t 0], (some (10, true)), [3]⟩,
 ⟨(some 12), .mov, [.t 2], (some (10, true)), [3]⟩,
 ⟨(some 13), (.bin .leq), [.t 11, .t 12], (some (10, true)), [4, 5, 3]⟩,
 ⟨(some 14), .pick, [.t 10, .t 13, .c (.bool false)], none, [3, 6]⟩,
 ⟨(some 6), .mov, [.t 14], none, [7, 3, 0, 1, 2, 3, 4, 5, 6, 7]⟩] false)
 .ret))
def d148 : DFn := ⟨3, 15, [.tmp 6], b148⟩
theorem body148 : d148.body = b148 := rfl
theorem res148 : d148.res = [.tmp 6] := rfl
theorem k148 : chkFn Tryz.prog Tryz.f148 d148 = true := by kernel_rfl

/-- guidevane/wave.isSized -/
def b136 : DCode :=
 (.seq
 (.region [⟨(some 4), .mov, [.c (.bool false)], none, []⟩] false)
 (.seq
 (.region [⟨(some 5), .mov, [.t 0], none, []⟩,
 ⟨(some 6), .mov, [.t 1], none, []⟩,
 ⟨(some 7), (.un .neg), [.t 6], none, [1]⟩,
 ⟨(some 8), .mov, [.t 1], none, []⟩,
 ⟨(some 9), .call, [.f 148, .t 5, .t 7, .t 8], none, [0, 2, 3]⟩,
 ⟨(some 4), .mov, [.t 9], none, [4, 4, 0, 1, 2, 3, 4]⟩] false)
 .ret))
def d136 : DFn := ⟨2, 10, [.tmp 4], b136⟩
theorem body136 : d136.body = b136 := rfl
theorem res136 : d136.res = [.tmp 4] := rfl
theorem k136 : chkFn Tryz.prog Tryz.f136 d136 = true := by kernel_rfl

/-- guidevane/wave.unless -/
def b135k0 : DCode :=
 (.seq
 (.region [⟨(some 6), .mov, [.t 1], none, []⟩,
 ⟨(some 4), .mov, [.t 6], none, [0, 0]⟩] false)
 .ret)
def b135 : DCode :=
 (.seq
 (.region [⟨(some 4), .mov, [.c (.int .i64 0)], none, []⟩] false)
 (.seq
 (.seq
 (.region [⟨(some 5), .mov, [.t 0], none, []⟩] false)
 (.cond (.t 5)
 (.seq
 (.region [⟨(some 4), .mov, [.c (.int .i64 0)], none, []⟩] false)
 .ret)
 .skip))
 (.keep [1] [] b135k0)))
def d135 : DFn := ⟨2, 7, [.tmp 4], b135⟩
theorem body135 : d135.body = b135 := rfl
theorem res135 : d135.res = [.tmp 4] := rfl
theorem k135 : chkFn Tryz.prog Tryz.f135 d135 = true := by kernel_rfl

/-- guidevane/wave.first -/
def b134k0 : DCode :=
 (.region [⟨(some 14), (.bin .add), [.t 7, .c (.int .i64 1)], none, []⟩,
 ⟨(some 7), .mov, [.t 14], none, [0]⟩] false)
def b134k1 : DCode :=
 (.seq
 (.block 1
 (.seq
 (.region [⟨(some 9), (.iaddr 1), [.t 5, .t 7], none, []⟩,
 ⟨(some 10), (.load false 1), [.t 9], none, [0]⟩,
 ⟨(some 4), .mov, [.t 10], none, [1, 0, 1]⟩] false)
 (.seq
 (.region [⟨(some 11), .mov, [.t 4], none, []⟩,
 ⟨(some 12), (.bin .neq), [.t 11, .c (.int .i64 0)], none, [0]⟩] false)
 (.cond (.t 12)
 (.seq
 (.region [⟨(some 13), .mov, [.t 4], none, []⟩,
 ⟨(some 2), .mov, [.t 13], none, [0, 0]⟩] false)
 .ret)
 .skip))))
 (.keep [5, 6, 7] [] b134k0))
def b134l0 : DCode := .keep [5, 6, 7] []
 (.seq
 (.region [⟨(some 8), (.bin .lss), [.t 7, .t 6], none, []⟩] false)
 (.seq
 (.cond (.t 8)
 .skip
 (.exit 0))
 (.keep [5, 6, 7] [] b134k1)))
def b134k2 : DCode :=
 (.seq
 (.region [⟨(some 2), .mov, [.c (.int .i64 0)], none, []⟩] false)
 .ret)
def b134 : DCode :=
 (.seq
 (.region [⟨(some 2), .mov, [.c (.int .i64 0)], none, []⟩] false)
 (.seq
 (.seq
 (.region [⟨(some 5), .movv, [.t 0], none, []⟩,
 ⟨(some 6), .len, [.t 5], none, [0]⟩,
 ⟨(some 7), .mov, [.c (.int .i64 0)], none, []⟩] false)
 (.block 0
 (.loop b134l0)))
 (.keep [] [] b134k2)))
def d134 : DFn := ⟨1, 15, [.tmp 2], b134⟩
theorem body134 : d134.body = b134 := rfl
theorem res134 : d134.res = [.tmp 2] := rfl
theorem k134 : chkFn Tryz.prog Tryz.f134 d134 = true := by kernel_rfl

/-- (guidevane/wave.line).last -/
def b143 : DCode :=
 (.seq
 (.region [⟨(some 1), .box, [.t 0], none, []⟩,
 ⟨(some 2), .mov, [.c (.int .i64 0)], none, []⟩] false)
 (.seq
 (.region [⟨(some 3), (.faddr 3 false 1), [.t 1], none, []⟩,
 ⟨(some 4), (.load false 1), [.t 3], none, [0]⟩,
 ⟨(some 5), (.bin .sub), [.t 4, .c (.int .i64 1)], none, [1]⟩,
 ⟨(some 2), .mov, [.t 5], none, [2, 0, 1, 2]⟩] false)
 .ret))
def d143 : DFn := ⟨1, 6, [.tmp 2], b143⟩
theorem body143 : d143.body = b143 := rfl
theorem res143 : d143.res = [.tmp 2] := rfl
theorem k143 : chkFn Tryz.prog Tryz.f143 d143 = true := by kernel_rfl

/-- (guidevane/wave.line).rest -/
def b251 : DCode :=
 (.seq
 (.region [⟨(some 1), .box, [.t 0], none, []⟩,
 ⟨(some 2), (.alloc [(.imm (.slc 1 [])), (.imm (.slc 1 [])), (.imm (.slc 1 []))]), [], none, []⟩] false)
 (.seq
 (.region [⟨(some 3), (.faddr 3 false 1), [.t 1], none, []⟩,
 ⟨(some 4), (.load false 1), [.t 3], none, [0]⟩,
 ⟨(some 5), (.mksl (.int .i64 0) 8), [.t 4, .t 4], none, [1, 1]⟩,
 ⟨(some 6), (.faddr 3 false 1), [.t 1], none, []⟩,
 ⟨(some 7), (.load false 1), [.t 6], none, [3]⟩,
 ⟨(some 8), (.mksl (.int .i64 0) 8), [.t 7, .t 7], none, [4, 4]⟩,
 ⟨(some 9), (.faddr 0 true 2), [.t 1], none, []⟩,
 ⟨(some 10), (.faddr 1 false 1), [.t 9], none, [6]⟩,
 ⟨(some 11), (.load false 1), [.t 10], none, [7]⟩,
 ⟨(some 12), .len, [.t 11], none, [8]⟩,
 ⟨(some 13), (.mksl (.int .i64 0) 8), [.t 12, .t 12], none, [9, 9]⟩,
 ⟨(some 14), (.build [(.imm (.slc 1 [])), (.imm (.slc 1 [])), (.imm (.slc 1 []))] [(0, 1), (1, 1), (2, 1)]), [.t 5, .t 8, .t 13], none, [2, 5, 10]⟩,
 ⟨none, (.store 3), [.t 2, .t 14], none, [11, 0, 1, 2, 3, 4, 5, 6, 7, 8, 9, 10, 11]⟩] true)
 (.freeze [5, 8, 13]
 .ret)))
def d251 : DFn := ⟨1, 15, [.cell 2 true 3], b251⟩
theorem body251 : d251.body = b251 := rfl
theorem res251 : d251.res = [.cell 2 true 3] := rfl
theorem k251 : chkFn Tryz.prog Tryz.f251 d251 = true := by kernel_rfl

/-- (guidevane/wave.line).rest -/
def b1251 : DCode :=
 (.seq
 (.region [⟨(some 1), .box, [.t 0], none, []⟩,
 ⟨(some 2), (.alloc [(.imm (.slc 1 [])), (.imm (.slc 1 [])), (.imm (.slc 1 []))]), [], none, []⟩] false)
 (.seq
 (.region [⟨(some 3), (.faddr 3 false 1), [.t 1], none, []⟩,
 ⟨(some 4), (.load false 1), [.t 3], none, [0]⟩,
 ⟨(some 5), (.mksl (.int .i64 0) 8), [.t 4, .t 4], none, [1, 1]⟩,
 ⟨(some 6), (.faddr 3 false 1), [.t 1], none, []⟩,
 ⟨(some 7), (.load false 1), [.t 6], none, [3]⟩,
 ⟨(some 8), (.mksl (.int .i64 0) 8), [.t 7, .t 7], none, [4, 4]⟩,
 ⟨(some 9), (.faddr 0 true 2), [.t 1], none, []⟩,
 ⟨(some 10), (.faddr 1 false 1), [.t 9], none, [6]⟩,
 ⟨(some 11), (.load false 1), [.t 10], none, [7]⟩,
 ⟨(some 12), .len, [.t 11], none, [8]⟩,
 ⟨(some 13), (.mksl (.int .i64 0) 8), [.t 12, .t 12], none, [9, 9]⟩,
 ⟨(some 14), (.build [(.imm (.slc 1 [])), (.imm (.slc 1 [])), (.imm (.slc 1 []))] [(0, 1), (1, 1), (2, 1)]), [.t 5, .t 8, .t 13], none, [2, 5, 10]⟩,
 ⟨none, (.store 3), [.t 2, .t 14], none, [11, 0, 1, 2, 3, 4, 5, 6, 7, 8, 9, 10, 11]⟩] true)
 (.ren 5 1000
 (.ren 8 1001
 (.ren 13 1002
 .ret)))))
def d1251 : DFn := ⟨1, 15, [.cell 2 true 3], b1251⟩
theorem body1251 : d1251.body = b1251 := rfl
theorem res1251 : d1251.res = [.cell 2 true 3] := rfl
theorem k1251 : chkFnB Tryz.prog Tryz.f251 d1251 [] [1000, 1001, 1002] = true := by kernel_rfl

/-- (guidevane/wave.line).stepped -/
def b227k0 : DCode :=
 (.seq
 (.block 1
 (.seq
 (.region [⟨(some 57), .mov, [.t 55], none, []⟩,
 ⟨(some 58), (.iaddr 1), [.t 53, .t 55], none, []⟩,
 ⟨(some 59), (.load false 1), [.t 58], none, [1]⟩,
 ⟨(some 8), .mov, [.t 57], none, [0, 0, 1, 2]⟩,
 ⟨(some 9), .mov, [.t 59], none, [2, 3, 0, 1, 2, 3]⟩] false)
 (.seq
 (.region [⟨(some 60), (.faddr 2 false 1), [.t 3], none, []⟩,
 ⟨(some 61), (.load false 1), [.t 60], none, [0]⟩,
 ⟨(some 62), .mov, [.t 8], none, []⟩,
 ⟨(some 63), (.bin .add), [.t 62, .c (.int .i64 1)], none, [2]⟩,
 ⟨(some 64), (.iaddr 1), [.t 61, .t 63], none, [1, 3]⟩,
 ⟨(some 65), (.load false 1), [.t 64], none, [4]⟩,
 ⟨(some 10), .mov, [.t 65], none, [5, 0, 1, 2, 3, 4, 5]⟩] false)
 (.seq
 (.region [⟨(some 66), (.faddr 0 true 2), [.t 3], none, []⟩,
 ⟨(some 67), (.faddr 0 false 1), [.t 66], none, [0]⟩,
 ⟨(some 68), (.load false 1), [.t 67], none, [1]⟩,
 ⟨(some 69), .mov, [.t 8], none, []⟩,
 ⟨(some 70), (.iaddr 2), [.t 68, .t 69], none, [2, 3]⟩,
 ⟨(some 71), (.faddr 1 false 1), [.t 70], none, [4]⟩,
 ⟨(some 72), (.load false 1), [.t 71], none, [5]⟩,
 ⟨(some 73), (.faddr 0 true 2), [.t 3], none, []⟩,
 ⟨(some 74), (.faddr 0 false 1), [.t 73], none, [7]⟩,
 ⟨(some 75), (.load false 1), [.t 74], none, [8]⟩,
 ⟨(some 76), .mov, [.t 8], none, []⟩,
 ⟨(some 77), (.bin .add), [.t 76, .c (.int .i64 1)], none, [10]⟩,
 ⟨(some 78), (.iaddr 2), [.t 75, .t 77], none, [9, 11]⟩,
 ⟨(some 79), (.faddr 1 false 1), [.t 78], none, [12]⟩,
 ⟨(some 80), (.load false 1), [.t 79], none, [13]⟩,
 ⟨(some 11), .mov, [.t 72], none, [6, 0, 1, 2, 3, 4, 5, 6]⟩,
 ⟨(some 12), .mov, [.t 80], none, [14, 15, 0, 1, 2, 3, 4, 5, 6, 7, 8, 9, 10, 11, 12, 13, 14, 15]⟩] true)
 (.seq
 (.region [⟨(some 81), (.faddr 0 false 1), [.t 4], none, []⟩,
 ⟨(some 82), (.load false 1), [.t 81], none, [0]⟩,
 ⟨(some 83), .mov, [.t 10], none, []⟩,
 ⟨(some 84), (.bin .sub), [.t 83, .c (.int .i64 1)], none, [2]⟩,
 ⟨(some 85), (.iaddr 1), [.t 82, .t 84], none, [1, 3]⟩,
 ⟨(some 86), (.load false 1), [.t 85], none, [4]⟩,
 ⟨(some 87), (.faddr 1 false 1), [.t 4], none, []⟩,
 ⟨(some 88), (.load false 1), [.t 87], none, [6]⟩,
 ⟨(some 89), .mov, [.t 10], none, []⟩,
 ⟨(some 90), (.iaddr 1), [.t 88, .t 89], none, [7, 8]⟩,
 ⟨(some 91), (.load false 1), [.t 90], none, [9]⟩,
 ⟨(some 13), .mov, [.t 86], none, [5, 0, 1, 2, 3, 4, 5]⟩,
 ⟨(some 14), .mov, [.t 91], none, [10, 11, 0, 1, 2, 3, 4, 5, 6, 7, 8, 9, 10, 11]⟩] true)
 (.seq
 (.region [⟨(some 92), .mov, [.t 11], none, []⟩,
 ⟨(some 93), (.bin .mul), [.c (.int .i64 2), .t 92], none, [0]⟩,
 ⟨(some 94), .mov, [.t 13], none, []⟩,
 ⟨(some 95), (.bin .mul), [.t 93, .t 94], none, [1, 2]⟩,
 ⟨(some 96), .mov, [.t 12], none, []⟩,
 ⟨(some 97), (.bin .mul), [.c (.int .i64 2), .t 96], none, [4]⟩,
 ⟨(some 98), .mov, [.t 14], none, []⟩,
 ⟨(some 99), (.bin .mul), [.t 97, .t 98], none, [5, 6]⟩,
 ⟨(some 100), (.bin .add), [.t 95, .t 99], none, [3, 7]⟩,
 ⟨(some 101), .mov, [.t 9], none, []⟩,
 ⟨(some 102), (.faddr 2 false 1), [.t 4], none, []⟩,
 ⟨(some 103), (.load false 1), [.t 102], none, [10]⟩,
 ⟨(some 104), .mov, [.t 8], none, []⟩,
 ⟨(some 105), (.iaddr 1), [.t 103, .t 104], none, [11, 12]⟩,
 ⟨(some 106), (.load false 1), [.t 105], none, [13]⟩,
 ⟨(some 107), (.bin .mul), [.t 101, .t 106], none, [9, 14]⟩,
 ⟨(some 108), (.bin .add), [.t 100, .t 107], none, [8, 15]⟩,
 ⟨(some 109), .mov, [.t 11], none, []⟩,
 ⟨(some 110), .mov, [.t 12], none, []⟩,
 ⟨(some 111), (.bin .add), [.t 109, .t 110], none, [17, 18]⟩,
 ⟨(some 112), .mov, [.t 9], none, []⟩,
 ⟨(some 113), (.bin .add), [.t 111, .t 112], none, [19, 20]⟩,
 ⟨(some 114), (.bin .quo), [.t 108, .t 113], none, [16, 21]⟩,
 ⟨(some 15), .mov, [.t 114], none, [22, 0, 1, 2, 3, 4, 5, 6, 7, 8, 9, 10, 11, 12, 13, 14, 15, 16, 17, 18, 19, 20, 21, 22]⟩] false)
 (.seq
 (.region [⟨(some 115), (.faddr 2 false 1), [.t 7], none, []⟩,
 ⟨(some 116), (.load false 1), [.t 115], none, [0]⟩,
 ⟨(some 117), .mov, [.t 8], none, []⟩,
 ⟨(some 118), .mov, [.t 15], none, []⟩,
 ⟨(some 119), (.iaddr 1), [.t 116, .t 117], none, [1, 2, 0, 1, 2, 3]⟩,
 ⟨none, (.store 1), [.t 119, .t 118], none, [4, 3, 0, 1, 2, 3]⟩] false)
 (.region [⟨(some 120), (.faddr 1 false 1), [.t 7], none, []⟩,
 ⟨(some 121), (.loadf false 1 [7]), [.t 120], none, [0]⟩,
 ⟨(some 122), .mov, [.t 10], none, []⟩,
 ⟨(some 123), (.bin .sub), [.t 122, .c (.int .i64 1)], none, [2]⟩,
 ⟨(some 124), (.faddr 0 false 1), [.t 7], none, []⟩,
 ⟨(some 125), (.loadf false 1 [7]), [.t 124], none, [4]⟩,
 ⟨(some 126), .mov, [.t 10], none, []⟩,
 ⟨(some 127), .mov, [.t 15], none, []⟩,
 ⟨(some 128), .mov, [.t 13], none, []⟩,
 ⟨(some 129), (.bin .sub), [.t 127, .t 128], none, [7, 8]⟩,
 ⟨(some 130), .mov, [.t 15], none, []⟩,
 ⟨(some 131), .mov, [.t 14], none, []⟩,
 ⟨(some 132), (.bin .sub), [.t 130, .t 131], none, [10, 11]⟩,
 ⟨(some 133), (.iaddr 1), [.t 121, .t 123], none, [1, 3, 0, 1, 2, 3, 7, 8, 9]⟩,
 ⟨none, (.storef 1 [1000, 1001, 1002]), [.t 133, .t 129], none, [13, 9, 0, 1, 2, 3, 7, 8, 9]⟩,
 ⟨(some 134), (.iaddr 1), [.t 125, .t 126], none, [5, 6, 0, 1, 2, 3, 4, 5, 6, 7, 8, 9, 10, 11, 12, 13, 14]⟩,
 ⟨none, (.storef 1 [1000, 1001, 1002]), [.t 134, .t 132], none, [15, 12, 14, 0, 1, 2, 3, 4, 5, 6, 7, 8, 9, 10, 11, 12, 13, 14]⟩] true))))))))
 (.region [⟨(some 135), (.bin .add), [.t 55, .c (.int .i64 1)], none, []⟩,
 ⟨(some 55), .mov, [.t 135], none, [0]⟩] false))
def b227l0 : DCode := .keep [3, 4, 6, 7, 53, 54, 55] [3, 4, 6, 7, 1000, 1001, 1002]
 (.seq
 (.region [⟨(some 56), (.bin .lss), [.t 55, .t 54], none, []⟩] false)
 (.seq
 (.cond (.t 56)
 .skip
 (.exit 0))
 (.keep [3, 4, 6, 7, 53, 54, 55] [3, 4, 6, 7, 1000, 1001, 1002] b227k0)))
def b227k1 : DCode :=
 (.seq
 (.region [⟨(some 136), (.load true 3), [.t 7], none, []⟩,
 ⟨none, (.store 3), [.t 6, .t 136], none, [0, 0]⟩] false)
 (.freeze [1000, 1001, 1002]
 .ret))
def b227 : DCode :=
 (.seq
 (.region [⟨(some 3), .box, [.t 0], none, []⟩,
 ⟨(some 4), .box, [.t 1], none, []⟩,
 ⟨(some 6), (.alloc [(.imm (.slc 1 [])), (.imm (.slc 1 [])), (.imm (.slc 1 []))]), [], none, []⟩] false)
 (.seq
 (.region [⟨(some 16), (.load true 4), [.t 3], none, []⟩,
 ⟨(some 17), (.callb []), [.f 251, .t 16], none, [0]⟩,
 ⟨(some 7), (.alloc [(.imm (.slc 1 [])), (.imm (.slc 1 [])), (.imm (.slc 1 []))]), [], none, []⟩,
 ⟨none, (.store 3), [.t 7, .t 17], none, [2, 1, 1, 0, 1, 2]⟩] false)
 (.seq
 (.region [⟨(some 18), (.faddr 0 false 1), [.t 7], none, []⟩,
 ⟨(some 19), (.load false 1), [.t 18], none, [0]⟩,
 ⟨(some 20), (.slice 1 true false), [.t 19, .c (.int .i64 1)], none, [1]⟩,
 ⟨(some 21), (.faddr 0 false 1), [.t 4], none, []⟩,
 ⟨(some 22), (.load false 1), [.t 21], none, [3]⟩,
 ⟨(some 23), .copy, [.t 20, .t 22], none, [2, 4]⟩] true)
 (.seq
 (.region [⟨(some 24), (.faddr 1 false 1), [.t 7], none, []⟩,
 ⟨(some 25), (.load false 1), [.t 24], none, [0]⟩,
 ⟨(some 26), (.faddr 1 false 1), [.t 4], none, []⟩,
 ⟨(some 27), (.load false 1), [.t 26], none, [2]⟩,
 ⟨(some 28), (.slice 1 true false), [.t 27, .c (.int .i64 1)], none, [3]⟩,
 ⟨(some 29), .copy, [.t 25, .t 28], none, [1, 4]⟩] true)
 (.seq
 (.region [⟨(some 30), (.faddr 0 false 1), [.t 7], none, []⟩,
 ⟨(some 31), (.load false 1), [.t 30], none, [0]⟩,
 ⟨(some 32), (.faddr 1 false 1), [.t 4], none, []⟩,
 ⟨(some 33), (.load false 1), [.t 32], none, [2]⟩,
 ⟨(some 34), (.iaddr 1), [.t 33, .c (.int .i64 0)], none, [3]⟩,
 ⟨(some 35), (.load false 1), [.t 34], none, [4]⟩,
 ⟨(some 36), (.un .neg), [.t 35], none, [5]⟩,
 ⟨(some 37), (.iaddr 1), [.t 31, .c (.int .i64 0)], none, [1, 0, 1, 2, 3, 4, 5, 6]⟩,
 ⟨none, (.store 1), [.t 37, .t 36], none, [7, 6, 0, 1, 2, 3, 4, 5, 6]⟩] true)
 (.seq
 (.region [⟨(some 38), (.faddr 1 false 1), [.t 7], none, []⟩,
 ⟨(some 39), (.load false 1), [.t 38], none, [0]⟩,
 ⟨(some 40), (.load true 4), [.t 3], none, []⟩,
 ⟨(some 41), .call, [.f 143, .t 40], none, [2]⟩,
 ⟨(some 42), (.faddr 0 false 1), [.t 4], none, []⟩,
 ⟨(some 43), (.load false 1), [.t 42], none, [4]⟩,
 ⟨(some 44), (.load true 4), [.t 3], none, []⟩,
 ⟨(some 45), .call, [.f 143, .t 44], none, [6, 3]⟩,
 ⟨(some 46), (.iaddr 1), [.t 43, .t 45], none, [5, 7]⟩,
 ⟨(some 47), (.load false 1), [.t 46], none, [8]⟩,
 ⟨(some 48), .mov, [.t 2], none, []⟩,
 ⟨(some 49), (.bin .add), [.t 47, .t 48], none, [9, 10]⟩,
 ⟨(some 50), (.iaddr 1), [.t 39, .t 41], none, [1, 3, 0, 1, 2, 3, 4, 5, 6, 7, 8, 9, 10, 11]⟩,
 ⟨none, (.store 1), [.t 50, .t 49], none, [12, 11, 7, 0, 1, 2, 3, 4, 5, 6, 7, 8, 9, 10, 11]⟩] true)
 (.seq
 (.seq
 (.region [⟨(some 51), (.faddr 0 true 2), [.t 3], none, []⟩,
 ⟨(some 52), (.faddr 1 false 1), [.t 51], none, [0]⟩,
 ⟨(some 53), (.load false 1), [.t 52], none, [1]⟩,
 ⟨(some 54), .len, [.t 53], none, [2]⟩,
 ⟨(some 55), .mov, [.c (.int .i64 0)], none, []⟩] false)
 (.block 0
 (.loop b227l0)))
 (.keep [6, 7] [6, 7, 1000, 1001, 1002] b227k1))))))))
def d227 : DFn := ⟨3, 137, [.cell 6 true 3], b227⟩
theorem body227 : d227.body = b227 := rfl
theorem res227 : d227.res = [.cell 6 true 3] := rfl
theorem k227 : chkFn Tryz.prog Tryz.f227 d227 = true := by kernel_rfl

/-- guidevane/wave.closedErr -/
def b226 : DCode :=
 (.seq
 (.region [⟨(some 2), .mov, [.c (.int .i64 0)], none, []⟩] false)
 (.seq
 (.region [⟨(some 3), .mov, [.t 0], none, []⟩,
 ⟨(some 4), .call, [.f 136, .t 3, .c (.int .i64 1000)], none, [0]⟩,
 ⟨(some 5), .call, [.f 135, .t 4, .c (.int .i64 2)], none, [1, 1]⟩,
 ⟨(some 2), .mov, [.t 5], none, [2, 2, 0, 1, 2]⟩] false)
 .ret))
def d226 : DFn := ⟨1, 6, [.tmp 2], b226⟩
theorem body226 : d226.body = b226 := rfl
theorem res226 : d226.res = [.tmp 2] := rfl
theorem k226 : chkFn Tryz.prog Tryz.f226 d226 = true := by kernel_rfl

/-- guidevane/wave.ticksErr -/
def b249 : DCode :=
 (.seq
 (.region [⟨(some 2), .mov, [.c (.int .i64 0)], none, []⟩] false)
 (.seq
 (.region [⟨(some 3), .mov, [.t 0], none, []⟩,
 ⟨(some 4), .call, [.f 148, .t 3, .c (.int .i64 1), .c (.int .i64 200)], none, [0]⟩,
 ⟨(some 5), .call, [.f 135, .t 4, .c (.int .i64 2)], none, [1, 1]⟩,
 ⟨(some 2), .mov, [.t 5], none, [2, 2, 0, 1, 2]⟩] false)
 .ret))
def d249 : DFn := ⟨1, 6, [.tmp 2], b249⟩
theorem body249 : d249.body = b249 := rfl
theorem res249 : d249.res = [.tmp 2] := rfl
theorem k249 : chkFn Tryz.prog Tryz.f249 d249 = true := by kernel_rfl

/-- guidevane/wave.CheckLine -/
def b100k0 : DCode :=
 (.region [⟨(some 51), (.bin .add), [.t 35, .c (.int .i64 1)], none, []⟩,
 ⟨(some 35), .mov, [.t 51], none, [0]⟩] false)
def b100k1 : DCode :=
 (.seq
 (.block 1
 (.seq
 (.region [⟨(some 37), .mov, [.t 35], none, []⟩,
 ⟨(some 38), (.iaddr 2), [.t 33, .t 35], none, []⟩,
 ⟨(some 39), (.load true 2), [.t 38], none, [1]⟩,
 ⟨(some 6), (.alloc [(.imm (.int .i64 0)), (.imm (.int .i64 0))]), [], none, []⟩,
 ⟨(some 5), .mov, [.t 37], none, [0, 0, 1, 2, 3]⟩,
 ⟨none, (.store 2), [.t 6, .t 39], none, [3, 2, 4, 0, 1, 2, 3, 4]⟩] false)
 (.seq
 (.region [⟨(some 40), (.faddr 0 false 1), [.t 6], none, []⟩,
 ⟨(some 41), (.load false 1), [.t 40], none, [0]⟩,
 ⟨(some 42), .call, [.f 148, .t 41, .c (.int .i64 1), .c (.int .i64 6)], none, [1]⟩,
 ⟨(some 43), (.un .not), [.t 42], none, [2]⟩,
 ⟨(some 44), .mov, [.t 43], none, [3, 2]⟩,
 ⟨(some 45), (.faddr 1 false 1), [.t 6], (some (44, false)), [4]⟩,
 ⟨(some 46), (.load false 1), [.t 45], (some (44, false)), [5, 4]⟩,
 ⟨(some 47), .call, [.f 148, .t 46, .c (.int .i64 1), .c (.int .i64 10)], (some (44, false)), [6, 4, 4]⟩,
 ⟨(some 48), (.un .not), [.t 47], (some (44, false)), [7, 4]⟩,
 ⟨(some 49), .pick, [.t 44, .c (.bool true), .t 48], none, [4, 8]⟩] false)
 (.cond (.t 49)
 (.seq
 (.region [⟨(some 50), .mov, [.t 5], none, []⟩,
 ⟨(some 2), .mov, [.t 50], none, [0, 0]⟩,
 ⟨(some 3), .mov, [.c (.int .i64 2)], none, [1, 0, 1]⟩] false)
 .ret)
 .skip))))
 (.keep [1, 33, 34, 35] [1] b100k0))
def b100l0 : DCode := .keep [1, 33, 34, 35] [1]
 (.seq
 (.region [⟨(some 36), (.bin .lss), [.t 35, .t 34], none, []⟩] false)
 (.seq
 (.cond (.t 36)
 .skip
 (.exit 0))
 (.keep [1, 33, 34, 35] [1] b100k1)))
def b100k2 : DCode :=
 (.seq
 (.region [⟨(some 2), .mov, [.c (.int .i64 0)], none, []⟩,
 ⟨(some 3), .mov, [.c (.int .i64 0)], none, [0, 0]⟩] false)
 .ret)
def b100k3 : DCode :=
 (.seq
 (.seq
 (.region [⟨(some 52), (.faddr 1 false 1), [.t 1], none, []⟩,
 ⟨(some 53), (.load false 1), [.t 52], none, [0]⟩,
 ⟨(some 54), .call, [.f 198, .t 53, .f 199], none, [1]⟩,
 ⟨(some 7), .mov, [.t 54], none, [2, 2, 0, 1, 2]⟩] false)
 (.seq
 (.region [⟨(some 55), .mov, [.t 7], none, []⟩,
 ⟨(some 56), (.bin .geq), [.t 55, .c (.int .i64 0)], none, [0]⟩] false)
 (.cond (.t 56)
 (.seq
 (.region [⟨(some 57), .mov, [.t 7], none, []⟩,
 ⟨(some 2), .mov, [.t 57], none, [0, 0]⟩,
 ⟨(some 3), .mov, [.c (.int .i64 2)], none, [1, 0, 1]⟩] false)
 .ret)
 .skip)))
 (.keep [] [] b100k2))
def b100k4 : DCode :=
 (.seq
 (.seq
 (.region [⟨(some 32), (.faddr 0 false 1), [.t 1], none, []⟩,
 ⟨(some 33), (.load false 1), [.t 32], none, [0]⟩,
 ⟨(some 34), .len, [.t 33], none, [1]⟩,
 ⟨(some 35), .mov, [.c (.int .i64 0)], none, []⟩] false)
 (.block 0
 (.loop b100l0)))
 (.keep [1] [1] b100k3))
def b100 : DCode :=
 (.seq
 (.region [⟨(some 1), .box, [.t 0], none, []⟩,
 ⟨(some 2), .mov, [.c (.int .i64 0)], none, []⟩,
 ⟨(some 3), .mov, [.c (.int .i64 0)], none, [1]⟩] false)
 (.seq
 (.region [⟨(some 8), (.faddr 0 false 1), [.t 1], none, []⟩,
 ⟨(some 9), (.load false 1), [.t 8], none, [0]⟩,
 ⟨(some 10), .len, [.t 9], none, [1]⟩,
 ⟨(some 11), (.bin .gtr), [.t 10, .c (.int .i64 0)], none, [2]⟩,
 ⟨(some 12), .call, [.f 135, .t 11, .c (.int .i64 10)], none, [3]⟩,
 ⟨(some 13), (.faddr 0 false 1), [.t 1], none, []⟩,
 ⟨(some 14), (.load false 1), [.t 13], none, [5]⟩,
 ⟨(some 15), .len, [.t 14], none, [6]⟩,
 ⟨(some 16), (.bin .leq), [.t 15, .c (.int .i64 4)], none, [7]⟩,
 ⟨(some 17), .call, [.f 135, .t 16, .c (.int .i64 8)], none, [8, 4]⟩,
 ⟨(some 18), (.faddr 1 false 1), [.t 1], none, []⟩,
 ⟨(some 19), (.load false 1), [.t 18], none, [10]⟩,
 ⟨(some 20), .len, [.t 19], none, [11]⟩,
 ⟨(some 21), (.faddr 0 false 1), [.t 1], none, []⟩,
 ⟨(some 22), (.load false 1), [.t 21], none, [13]⟩,
 ⟨(some 23), .len, [.t 22], none, [14]⟩,
 ⟨(some 24), (.bin .sub), [.t 23, .c (.int .i64 1)], none, [15]⟩,
 ⟨(some 25), (.bin .eql), [.t 20, .t 24], none, [12, 16]⟩,
 ⟨(some 26), .call, [.f 135, .t 25, .c (.int .i64 10)], none, [17, 9]⟩,
 ⟨(some 27), (.bsl 1), [.t 12, .t 17, .t 26], none, [4, 9, 18]⟩,
 ⟨(some 28), .call, [.f 134, .t 27], none, [19, 18]⟩,
 ⟨(some 4), .mov, [.t 28], none, [20, 20, 0, 1, 2, 3, 4, 5, 6, 7, 8, 9, 10, 11, 12, 13, 14, 15, 16, 17, 18, 19, 20]⟩] true)
 (.seq
 (.seq
 (.region [⟨(some 29), .mov, [.t 4], none, []⟩,
 ⟨(some 30), (.bin .neq), [.t 29, .c (.int .i64 0)], none, [0]⟩] false)
 (.cond (.t 30)
 (.seq
 (.region [⟨(some 31), .mov, [.t 4], none, []⟩,
 ⟨(some 2), .mov, [.c (.int .i64 0)], none, []⟩,
 ⟨(some 3), .mov, [.t 31], none, [0, 1, 0, 1]⟩] false)
 .ret)
 .skip))
 (.keep [1] [1] b100k4))))
def d100 : DFn := ⟨1, 58, [.tmp 2, .tmp 3], b100⟩
theorem body100 : d100.body = b100 := rfl
theorem res100 : d100.res = [.tmp 2, .tmp 3] := rfl
theorem k100 : chkFn Tryz.prog Tryz.f100 d100 = true := by kernel_rfl

/-- guidevane/wave.CheckLine$1 -/
def b199 : DCode :=
 (.seq
 (.region [⟨(some 2), .mov, [.c (.bool false)], none, []⟩] false)
 (.seq
 (.region [⟨(some 3), .mov, [.t 0], none, []⟩,
 ⟨(some 4), .call, [.f 148, .t 3, .c (.int .i64 0), .c (.int .i64 20)], none, [0]⟩,
 ⟨(some 5), (.un .not), [.t 4], none, [1]⟩,
 ⟨(some 2), .mov, [.t 5], none, [2, 1, 0, 1, 2]⟩] false)
 .ret))
def d199 : DFn := ⟨1, 6, [.tmp 2], b199⟩
theorem body199 : d199.body = b199 := rfl
theorem res199 : d199.res = [.tmp 2] := rfl
theorem k199 : chkFn Tryz.prog Tryz.f199 d199 = true := by kernel_rfl

/-- guidevane/wave.open -/
def b145k0 : DCode :=
 (.seq
 (.block 1
 (.seq
 (.region [⟨(some 25), (.iaddr 2), [.t 21, .t 23], none, []⟩,
 ⟨(some 26), (.load true 2), [.t 25], none, [0]⟩,
 ⟨(some 8), (.alloc [(.imm (.int .i64 0)), (.imm (.int .i64 0))]), [], none, []⟩,
 ⟨none, (.store 2), [.t 8, .t 26], none, [2, 1, 0, 1, 2]⟩] false)
 (.seq
 (.region [⟨(some 27), (.faddr 2 false 1), [.t 6], none, []⟩,
 ⟨(some 28), (.load false 1), [.t 27], none, [0]⟩,
 ⟨(some 29), (.faddr 3 false 1), [.t 6], none, []⟩,
 ⟨(some 30), (.load false 1), [.t 29], none, [2]⟩,
 ⟨(some 31), (.bsl 1), [.t 30], none, [3]⟩,
 ⟨(some 32), (.append 1 8 false), [.t 28, .t 31], none, [1, 4]⟩,
 ⟨(some 33), (.faddr 2 false 1), [.t 6], none, [0, 1, 2, 3, 4, 5]⟩,
 ⟨none, (.store 1), [.t 33, .t 32], none, [6, 5, 5, 0, 1, 2, 3, 4, 5]⟩] false)
 (.region [⟨(some 34), (.faddr 3 false 1), [.t 6], none, []⟩,
 ⟨(some 35), (.load false 1), [.t 34], none, [0]⟩,
 ⟨(some 36), (.faddr 0 false 1), [.t 8], none, []⟩,
 ⟨(some 37), (.load false 1), [.t 36], none, [2]⟩,
 ⟨(some 38), (.bin .add), [.t 35, .t 37], none, [1, 3]⟩,
 ⟨(some 39), (.faddr 3 false 1), [.t 6], none, [0, 1, 2, 3, 4]⟩,
 ⟨none, (.store 1), [.t 39, .t 38], none, [5, 4, 0, 1, 2, 3, 4]⟩] false))))
 (.region [⟨(some 40), (.bin .add), [.t 23, .c (.int .i64 1)], none, []⟩,
 ⟨(some 23), .mov, [.t 40], none, [0]⟩] false))
def b145l0 : DCode := .keep [2, 6, 21, 22, 23] [2, 6, 32, 1006]
 (.seq
 (.region [⟨(some 24), (.bin .lss), [.t 23, .t 22], none, []⟩] false)
 (.seq
 (.cond (.t 24)
 .skip
 (.exit 0))
 (.keep [2, 6, 21, 22, 23] [2, 6, 32, 1006] b145k0)))
def b145k1 : DCode :=
 (.seq
 (.region [⟨(some 41), (.load true 4), [.t 6], none, []⟩,
 ⟨none, (.store 4), [.t 2, .t 41], none, [0, 0]⟩,
 ⟨(some 3), .mov, [.c (.int .i64 0)], none, [1, 0, 1]⟩] false)
 .ret)
def b145k2 : DCode :=
 (.seq
 (.region [⟨(some 18), (.load true 2), [.t 1], none, []⟩,
 ⟨(some 19), (.buildr [(.cap0 2 []), (.cap0 1 []), (.cap0 1 []), (.imm (.int .i64 0))] [(0, 2)]), [.t 18], none, [0]⟩,
 ⟨(some 6), (.alloc [(.cap0 2 []), (.cap0 1 []), (.cap0 1 []), (.imm (.int .i64 0))]), [], none, []⟩,
 ⟨none, (.store 4), [.t 6, .t 19], none, [2, 1, 0, 1, 2]⟩] false)
 (.mktok 6 2 1006 1
 (.seq
 (.seq
 (.region [⟨(some 20), (.faddr 0 false 1), [.t 1], none, []⟩,
 ⟨(some 21), (.load false 1), [.t 20], none, [0]⟩,
 ⟨(some 22), .len, [.t 21], none, [1]⟩,
 ⟨(some 23), .mov, [.c (.int .i64 0)], none, []⟩] false)
 (.block 0
 (.loop b145l0)))
 (.keep [2, 6] [2, 6, 32, 1006] b145k1))))
def b145 : DCode :=
 (.seq
 (.region [⟨(some 1), .box, [.t 0], none, []⟩,
 ⟨(some 2), (.alloc [(.imm (.slc 2 [])), (.imm (.slc 1 [])), (.imm (.slc 1 [])), (.imm (.int .i64 0))]), [], none, []⟩,
 ⟨(some 3), .mov, [.c (.int .i64 0)], none, []⟩] false)
 (.seq
 (.seq
 (.region [⟨(some 10), (.load true 2), [.t 1], none, []⟩,
 ⟨(some 11), .call, [.f 100, .t 10], none, [0]⟩,
 ⟨(some 9), .mov, [.t 11], none, [1]⟩,
 ⟨(some 12), (.ext 0), [.t 9], none, [2]⟩,
 ⟨(some 13), (.ext 1), [.t 9], none, [2]⟩,
 ⟨(some 4), .mov, [.t 12], none, [3, 1, 0, 1, 2, 3]⟩,
 ⟨(some 5), .mov, [.t 13], none, [4, 5, 0, 1, 2, 3, 4, 5]⟩] false)
 (.seq
 (.region [⟨(some 14), .mov, [.t 5], none, []⟩,
 ⟨(some 15), (.bin .neq), [.t 14, .c (.int .i64 0)], none, [0]⟩] false)
 (.cond (.t 15)
 (.seq
 (.region [⟨(some 16), (.build [(.imm (.slc 2 [])), (.imm (.slc 1 [])), (.imm (.slc 1 [])), (.imm (.int .i64 0))] []), [], none, []⟩,
 ⟨(some 17), .mov, [.t 5], none, []⟩,
 ⟨none, (.store 4), [.t 2, .t 16], none, [0, 0]⟩,
 ⟨(some 3), .mov, [.t 17], none, [1, 2, 0, 1, 2]⟩] false)
 .ret)
 .skip)))
 (.keep [1, 2] [1, 2, 32, 1006] b145k2)))
def d145 : DFn := ⟨1, 42, [.cell 2 true 4, .tmp 3], b145⟩
theorem body145 : d145.body = b145 := rfl
theorem res145 : d145.res = [.cell 2 true 4, .tmp 3] := rfl
theorem k145 : chkFn Tryz.prog Tryz.f145 d145 = true := by kernel_rfl

/-- (guidevane/wave.line).stateErr -/
def b284k0 : DCode :=
 (.region [⟨(some 55), (.bin .add), [.t 37, .c (.int .i64 1)], none, []⟩,
 ⟨(some 37), .mov, [.t 55], none, [0]⟩] false)
def b284k1 : DCode :=
 (.seq
 (.block 1
 (.seq
 (.region [⟨(some 39), .mov, [.t 37], none, []⟩,
 ⟨(some 40), (.iaddr 1), [.t 35, .t 37], none, []⟩,
 ⟨(some 41), (.load false 1), [.t 40], none, [1]⟩,
 ⟨(some 6), .mov, [.t 39], none, [0, 0, 1, 2]⟩,
 ⟨(some 7), .mov, [.t 41], none, [2, 3, 0, 1, 2, 3]⟩] false)
 (.seq
 (.region [⟨(some 42), .mov, [.t 7], none, []⟩,
 ⟨(some 43), .call, [.f 136, .t 42, .c (.int .i64 1000000)], none, [0]⟩,
 ⟨(some 44), (.un .not), [.t 43], none, [1]⟩,
 ⟨(some 45), .mov, [.t 44], none, [2, 1]⟩,
 ⟨(some 46), (.faddr 1 false 1), [.t 3], (some (45, false)), [3]⟩,
 ⟨(some 47), (.load false 1), [.t 46], (some (45, false)), [4, 3]⟩,
 ⟨(some 48), .mov, [.t 6], (some (45, false)), [3]⟩,
 ⟨(some 49), (.iaddr 1), [.t 47, .t 48], (some (45, false)), [5, 6, 3]⟩,
 ⟨(some 50), (.load false 1), [.t 49], (some (45, false)), [7, 3]⟩,
 ⟨(some 51), .call, [.f 136, .t 50, .c (.int .i64 1000000)], (some (45, false)), [8, 3, 3]⟩,
 ⟨(some 52), (.un .not), [.t 51], (some (45, false)), [9, 3]⟩,
 ⟨(some 53), .pick, [.t 45, .c (.bool true), .t 52], none, [3, 10]⟩] false)
 (.cond (.t 53)
 (.seq
 (.region [⟨(some 54), .mov, [.t 6], none, []⟩,
 ⟨(some 4), .mov, [.t 54], none, [0, 0]⟩,
 ⟨(some 5), .mov, [.c (.int .i64 2)], none, [1, 0, 1]⟩] false)
 .ret)
 .skip))))
 (.keep [3, 35, 36, 37] [3] b284k0))
def b284l0 : DCode := .keep [3, 35, 36, 37] [3]
 (.seq
 (.region [⟨(some 38), (.bin .lss), [.t 37, .t 36], none, []⟩] false)
 (.seq
 (.cond (.t 38)
 .skip
 (.exit 0))
 (.keep [3, 35, 36, 37] [3] b284k1)))
def b284k2 : DCode :=
 (.region [⟨(some 68), (.bin .add), [.t 59, .c (.int .i64 1)], none, []⟩,
 ⟨(some 59), .mov, [.t 68], none, [0]⟩] false)
def b284k3 : DCode :=
 (.seq
 (.block 3
 (.seq
 (.region [⟨(some 61), .mov, [.t 59], none, []⟩,
 ⟨(some 62), (.iaddr 1), [.t 57, .t 59], none, []⟩,
 ⟨(some 63), (.load false 1), [.t 62], none, [1]⟩,
 ⟨(some 8), .mov, [.t 61], none, [0, 0, 1, 2]⟩,
 ⟨(some 9), .mov, [.t 63], none, [2, 3, 0, 1, 2, 3]⟩] false)
 (.seq
 (.region [⟨(some 64), .mov, [.t 9], none, []⟩,
 ⟨(some 65), .call, [.f 136, .t 64, .c (.int .i64 1000000)], none, [0]⟩,
 ⟨(some 66), (.un .not), [.t 65], none, [1]⟩] false)
 (.cond (.t 66)
 (.seq
 (.region [⟨(some 67), .mov, [.t 8], none, []⟩,
 ⟨(some 4), .mov, [.t 67], none, [0, 0]⟩,
 ⟨(some 5), .mov, [.c (.int .i64 2)], none, [1, 0, 1]⟩] false)
 .ret)
 .skip))))
 (.keep [57, 58, 59] [] b284k2))
def b284l1 : DCode := .keep [57, 58, 59] []
 (.seq
 (.region [⟨(some 60), (.bin .lss), [.t 59, .t 58], none, []⟩] false)
 (.seq
 (.cond (.t 60)
 .skip
 (.exit 2))
 (.keep [57, 58, 59] [] b284k3)))
def b284k4 : DCode :=
 (.seq
 (.region [⟨(some 4), .mov, [.c (.int .i64 0)], none, []⟩,
 ⟨(some 5), .mov, [.c (.int .i64 0)], none, [0, 0]⟩] false)
 .ret)
def b284k5 : DCode :=
 (.seq
 (.seq
 (.region [⟨(some 56), (.faddr 2 false 1), [.t 3], none, []⟩,
 ⟨(some 57), (.load false 1), [.t 56], none, [0]⟩,
 ⟨(some 58), .len, [.t 57], none, [1]⟩,
 ⟨(some 59), .mov, [.c (.int .i64 0)], none, []⟩] false)
 (.block 2
 (.loop b284l1)))
 (.keep [] [] b284k4))
def b284k6 : DCode :=
 (.seq
 (.seq
 (.region [⟨(some 34), (.faddr 0 false 1), [.t 3], none, []⟩,
 ⟨(some 35), (.load false 1), [.t 34], none, [0]⟩,
 ⟨(some 36), .len, [.t 35], none, [1]⟩,
 ⟨(some 37), .mov, [.c (.int .i64 0)], none, []⟩] false)
 (.block 0
 (.loop b284l0)))
 (.keep [3] [3] b284k5))
def b284 : DCode :=
 (.seq
 (.region [⟨(some 2), .box, [.t 0], none, []⟩,
 ⟨(some 3), .box, [.t 1], none, []⟩,
 ⟨(some 4), .mov, [.c (.int .i64 0)], none, []⟩,
 ⟨(some 5), .mov, [.c (.int .i64 0)], none, [2]⟩] false)
 (.seq
 (.seq
 (.region [⟨(some 10), (.faddr 0 false 1), [.t 3], none, []⟩,
 ⟨(some 11), (.load false 1), [.t 10], none, [0]⟩,
 ⟨(some 12), .len, [.t 11], none, [1]⟩,
 ⟨(some 13), (.faddr 3 false 1), [.t 2], none, []⟩,
 ⟨(some 14), (.load false 1), [.t 13], none, [3]⟩,
 ⟨(some 15), (.bin .neq), [.t 12, .t 14], none, [2, 4]⟩,
 ⟨(some 16), .mov, [.t 15], none, [5]⟩,
 ⟨(some 17), (.faddr 1 false 1), [.t 3], (some (16, false)), [6]⟩,
 ⟨(some 18), (.load false 1), [.t 17], (some (16, false)), [7, 6]⟩,
 ⟨(some 19), .len, [.t 18], (some (16, false)), [8, 6]⟩,
 ⟨(some 20), (.faddr 3 false 1), [.t 2], (some (16, false)), [6]⟩,
 ⟨(some 21), (.load false 1), [.t 20], (some (16, false)), [10, 6]⟩,
 ⟨(some 22), (.bin .neq), [.t 19, .t 21], (some (16, false)), [9, 11, 6]⟩,
 ⟨(some 23), .pick, [.t 16, .c (.bool true), .t 22], none, [6, 12]⟩,
 ⟨(some 24), .mov, [.t 23], none, [13, 6]⟩,
 ⟨(some 25), (.faddr 2 false 1), [.t 3], (some (24, false)), [14]⟩,
 ⟨(some 26), (.load false 1), [.t 25], (some (24, false)), [15, 14]⟩,
 ⟨(some 27), .len, [.t 26], (some (24, false)), [16, 14]⟩,
 ⟨(some 28), (.faddr 0 true 2), [.t 2], (some (24, false)), [14]⟩,
 ⟨(some 29), (.faddr 1 false 1), [.t 28], (some (24, false)), [18, 14]⟩,
 ⟨(some 30), (.load false 1), [.t 29], (some (24, false)), [19, 14]⟩,
 ⟨(some 31), .len, [.t 30], (some (24, false)), [20, 14]⟩,
 ⟨(some 32), (.bin .neq), [.t 27, .t 31], (some (24, false)), [17, 21, 14]⟩,
 ⟨(some 33), .pick, [.t 24, .c (.bool true), .t 32], none, [14, 22]⟩] false)
 (.cond (.t 33)
 (.seq
 (.region [⟨(some 4), .mov, [.c (.int .i64 0)], none, []⟩,
 ⟨(some 5), .mov, [.c (.int .i64 10)], none, [0, 0]⟩] false)
 .ret)
 .skip))
 (.keep [3] [3] b284k6)))
def d284 : DFn := ⟨2, 69, [.tmp 4, .tmp 5], b284⟩
theorem body284 : d284.body = b284 := rfl
theorem res284 : d284.res = [.tmp 4, .tmp 5] := rfl
theorem k284 : chkFn Tryz.prog Tryz.f284 d284 = true := by kernel_rfl

/-- guidevane/wave.openState -/
def b225k0 : DCode :=
 (.seq
 (.region [⟨(some 21), (.load true 4), [.t 6], none, []⟩,
 ⟨(some 22), .mov, [.t 7], none, []⟩,
 ⟨none, (.store 4), [.t 4, .t 21], none, [0, 0]⟩,
 ⟨(some 5), .mov, [.t 22], none, [1, 2, 0, 1, 2]⟩] false)
 .ret)
def b225 : DCode :=
 (.seq
 (.region [⟨(some 2), .box, [.t 0], none, []⟩,
 ⟨(some 3), .box, [.t 1], none, []⟩,
 ⟨(some 4), (.alloc [(.imm (.slc 2 [])), (.imm (.slc 1 [])), (.imm (.slc 1 [])), (.imm (.int .i64 0))]), [], none, []⟩,
 ⟨(some 5), .mov, [.c (.int .i64 0)], none, []⟩] false)
 (.seq
 (.region [⟨(some 9), (.load true 2), [.t 2], none, []⟩,
 ⟨(some 10), .call, [.f 145, .t 9], none, [0]⟩,
 ⟨(some 8), .mov, [.t 10], none, [1]⟩,
 ⟨(some 11), (.ext 0), [.t 8], none, [2]⟩,
 ⟨(some 12), (.ext 1), [.t 8], none, [2]⟩,
 ⟨(some 6), (.alloc [(.imm (.slc 2 [])), (.imm (.slc 1 [])), (.imm (.slc 1 [])), (.imm (.int .i64 0))]), [], none, []⟩,
 ⟨none, (.store 4), [.t 6, .t 11], none, [5, 3, 1, 0, 1, 2, 3, 5]⟩,
 ⟨(some 7), .mov, [.t 12], none, [4, 6, 0, 1, 2, 3, 4, 5, 6]⟩] false)
 (.seq
 (.seq
 (.region [⟨(some 13), .mov, [.t 7], none, []⟩,
 ⟨(some 14), (.bin .eql), [.t 13, .c (.int .i64 0)], none, [0]⟩] false)
 (.cond (.t 14)
 (.region [⟨(some 16), (.load true 4), [.t 6], none, []⟩,
 ⟨(some 17), (.load true 3), [.t 3], none, []⟩,
 ⟨(some 18), .call, [.f 284, .t 16, .t 17], none, [0, 1]⟩,
 ⟨(some 15), .mov, [.t 18], none, [2]⟩,
 ⟨(some 19), (.ext 0), [.t 15], none, [3]⟩,
 ⟨(some 20), (.ext 1), [.t 15], none, [3]⟩,
 ⟨(some 7), .mov, [.t 20], none, [5, 2, 0, 1, 2, 3, 4, 5]⟩] false)
 .skip))
 (.keep [4, 6, 7] [4, 6] b225k0))))
def d225 : DFn := ⟨2, 23, [.cell 4 true 4, .tmp 5], b225⟩
theorem body225 : d225.body = b225 := rfl
theorem res225 : d225.res = [.cell 4 true 4, .tmp 5] := rfl
theorem k225 : chkFn Tryz.prog Tryz.f225 d225 = true := by kernel_rfl

/-- slices.IndexFunc[[]int,int] -/
def b198k0 : DCode :=
 (.region [⟨(some 18), (.bin .add), [.t 8, .c (.int .i64 1)], none, []⟩,
 ⟨(some 8), .mov, [.t 18], none, [0]⟩] false)
def b198k1 : DCode :=
 (.seq
 (.block 1
 (.seq
 (.region [⟨(some 10), .mov, [.t 8], none, []⟩,
 ⟨(some 5), .mov, [.t 10], none, [0, 0]⟩] false)
 (.seq
 (.region [⟨(some 11), .mov, [.t 1], none, []⟩,
 ⟨(some 12), .movv, [.t 0], none, []⟩,
 ⟨(some 13), .mov, [.t 5], none, []⟩,
 ⟨(some 14), (.iaddr 1), [.t 12, .t 13], none, [1, 2]⟩,
 ⟨(some 15), (.load false 1), [.t 14], none, [3]⟩,
 ⟨(some 16), .call, [.t 11, .t 15], none, [0, 4]⟩] false)
 (.cond (.t 16)
 (.seq
 (.region [⟨(some 17), .mov, [.t 5], none, []⟩,
 ⟨(some 4), .mov, [.t 17], none, [0, 0]⟩] false)
 .ret)
 .skip))))
 (.keep [0, 1, 7, 8] [] b198k0))
def b198l0 : DCode := .keep [0, 1, 7, 8] []
 (.seq
 (.region [⟨(some 9), (.bin .lss), [.t 8, .t 7], none, []⟩] false)
 (.seq
 (.cond (.t 9)
 .skip
 (.exit 0))
 (.keep [0, 1, 7, 8] [] b198k1)))
def b198k2 : DCode :=
 (.seq
 (.region [⟨(some 4), .mov, [.c (.int .i64 (-1))], none, []⟩] false)
 .ret)
def b198 : DCode :=
 (.seq
 (.region [⟨(some 4), .mov, [.c (.int .i64 0)], none, []⟩] false)
 (.seq
 (.seq
 (.region [⟨(some 6), .movv, [.t 0], none, []⟩,
 ⟨(some 7), .len, [.t 6], none, [0]⟩,
 ⟨(some 8), .mov, [.c (.int .i64 0)], none, []⟩] false)
 (.block 0
 (.loop b198l0)))
 (.keep [] [] b198k2)))
def d198 : DFn := ⟨2, 19, [.tmp 4], b198⟩
theorem body198 : d198.body = b198 := rfl
theorem res198 : d198.res = [.tmp 4] := rfl
theorem k198 : chkFn Tryz.prog Tryz.f198 d198 = true := by kernel_rfl

/-- slices.Clone[[]int,int] -/
def b178k0 : DCode :=
 (.seq
 (.region [⟨(some 5), (.bsl 1), [], none, []⟩,
 ⟨(some 6), .movv, [.t 0], none, []⟩,
 ⟨(some 7), (.append 1 8 false), [.t 5, .t 6], none, [0, 1]⟩,
 ⟨(some 2), .movv, [.t 7], none, [2, 2, 0, 1, 2]⟩] false)
 .ret)
def b178 : DCode :=
 (.seq
 (.region [⟨(some 2), .mov, [.c (.slc 1 [])], none, []⟩] false)
 (.seq
 (.seq
 (.region [⟨(some 3), .movv, [.t 0], none, []⟩,
 ⟨(some 4), (.snil false), [.t 3, .c (.slc 1 [])], none, [0]⟩] false)
 (.cond (.t 4)
 (.seq
 (.region [⟨(some 2), .mov, [.c (.slc 1 [])], none, []⟩] false)
 .ret)
 .skip))
 (.keep [0] [] b178k0)))
def d178 : DFn := ⟨1, 8, [.tmp 2], b178⟩
theorem body178 : d178.body = b178 := rfl
theorem res178 : d178.res = [.tmp 2] := rfl
theorem k178 : chkFn Tryz.prog Tryz.f178 d178 = true := by kernel_rfl

/-- slices.Clone[[]int,int] -/
def b1178k0 : DCode :=
 (.seq
 (.region [⟨(some 5), (.bsl 1), [], none, []⟩,
 ⟨(some 6), .movv, [.t 0], none, []⟩,
 ⟨(some 7), (.append 1 8 false), [.t 5, .t 6], none, [0, 1]⟩,
 ⟨(some 2), .mov, [.t 7], none, [2, 2, 0, 1, 2]⟩] false)
 (.ren 7 1000
 .ret))
def b1178 : DCode :=
 (.seq
 (.region [⟨(some 2), .mov, [.z 1], none, []⟩] false)
 (.seq
 (.seq
 (.region [⟨(some 3), .movv, [.t 0], none, []⟩,
 ⟨(some 4), (.snil false), [.t 3, .c (.slc 1 [])], none, [0]⟩] false)
 (.cond (.t 4)
 (.seq
 (.region [⟨(some 2), .mov, [.z 1], none, []⟩] false)
 .ret)
 .skip))
 (.keep [0] [] b1178k0)))
def d1178 : DFn := ⟨1, 8, [.tmp 2], b1178⟩
theorem body1178 : d1178.body = b1178 := rfl
theorem res1178 : d1178.res = [.tmp 2] := rfl
theorem k1178 : chkFnB Tryz.prog Tryz.f178 d1178 [] [1000] = true := by kernel_rfl

/-- guidevane/wave.Stepped -/
def b63 : DCode :=
 (.seq
 (.region [⟨(some 3), .box, [.t 0], none, []⟩,
 ⟨(some 4), .box, [.t 1], none, []⟩,
 ⟨(some 6), (.alloc [(.imm (.slc 1 [])), (.imm (.slc 1 [])), (.imm (.slc 1 []))]), [], none, []⟩,
 ⟨(some 7), .mov, [.c (.int .i64 0)], none, []⟩] false)
 (.seq
 (.region [⟨(some 8), (.load true 2), [.t 3], none, []⟩,
 ⟨(some 9), (.load true 3), [.t 4], none, []⟩,
 ⟨(some 10), .mov, [.t 2], none, []⟩,
 ⟨(some 11), (.bsl 1), [.t 10], none, [2]⟩,
 ⟨(some 12), .call, [.f 152, .t 8, .t 9, .t 11], none, [0, 1, 3]⟩,
 ⟨(some 13), (.ext 0), [.t 12], none, [4]⟩,
 ⟨(some 14), (.ext 1), [.t 12], none, [4]⟩,
 ⟨none, (.store 3), [.t 6, .t 13], none, [5, 4, 0, 1, 2, 3, 4, 5, 6]⟩,
 ⟨(some 7), .mov, [.t 14], none, [6, 7, 0, 1, 2, 3, 4, 5, 6, 7]⟩] false)
 .ret))
def d63 : DFn := ⟨3, 15, [.cell 6 true 3, .tmp 7], b63⟩
theorem body63 : d63.body = b63 := rfl
theorem res63 : d63.res = [.cell 6 true 3, .tmp 7] := rfl
theorem k63 : chkFn Tryz.prog Tryz.f63 d63 = true := by kernel_rfl

/-- guidevane/wave.RunOf -/
def b152k0 : DCode :=
 (.seq
 (.block 1
 (.seq
 (.region [⟨(some 32), (.iaddr 1), [.t 28, .t 30], none, []⟩,
 ⟨(some 33), (.load false 1), [.t 32], none, [0]⟩,
 ⟨(some 11), .mov, [.t 33], none, [1, 0, 1]⟩] false)
 (.region [⟨(some 34), .mov, [.t 9], none, []⟩,
 ⟨(some 35), .mov, [.t 11], none, []⟩,
 ⟨(some 36), .call, [.f 226, .t 35], none, [1]⟩,
 ⟨(some 37), (.bsl 1), [.t 34, .t 36], none, [0, 2]⟩,
 ⟨(some 38), .call, [.f 134, .t 37], none, [3, 2]⟩,
 ⟨(some 9), .mov, [.t 38], none, [4, 4, 0, 1, 2, 3, 4]⟩] false)))
 (.region [⟨(some 39), (.bin .add), [.t 30, .c (.int .i64 1)], none, []⟩,
 ⟨(some 30), .mov, [.t 39], none, [0]⟩] false))
def b152l0 : DCode := .keep [2, 4, 6, 8, 9, 28, 29, 30] [4, 6, 8]
 (.seq
 (.region [⟨(some 31), (.bin .lss), [.t 30, .t 29], none, []⟩] false)
 (.seq
 (.cond (.t 31)
 .skip
 (.exit 0))
 (.keep [2, 4, 6, 8, 9, 28, 29, 30] [4, 6, 8] b152k0)))
def b152k1 : DCode :=
 (.seq
 (.block 3
 (.seq
 (.region [⟨(some 58), (.iaddr 1), [.t 54, .t 56], none, []⟩,
 ⟨(some 59), (.load false 1), [.t 58], none, [0]⟩,
 ⟨(some 14), .mov, [.t 59], none, [1, 0, 1]⟩] false)
 (.region [⟨(some 60), (.load true 4), [.t 8], none, []⟩,
 ⟨(some 61), (.load true 3), [.t 12], none, []⟩,
 ⟨(some 62), .mov, [.t 14], none, []⟩,
 ⟨(some 63), .call, [.f 227, .t 60, .t 61, .t 62], none, [0, 1, 2]⟩,
 ⟨none, (.store 3), [.t 12, .t 63], none, [3, 3, 0, 1, 2, 3]⟩] false)))
 (.region [⟨(some 64), (.bin .add), [.t 56, .c (.int .i64 1)], none, []⟩,
 ⟨(some 56), .mov, [.t 64], none, [0]⟩] false))
def b152l1 : DCode := .keep [6, 8, 12, 54, 55, 56] [6, 8, 12]
 (.seq
 (.region [⟨(some 57), (.bin .lss), [.t 56, .t 55], none, []⟩] false)
 (.seq
 (.cond (.t 57)
 .skip
 (.exit 2))
 (.keep [6, 8, 12, 54, 55, 56] [6, 8, 12] b152k1)))
def b152k2 : DCode :=
 (.seq
 (.region [⟨(some 65), (.load true 3), [.t 12], none, []⟩,
 ⟨none, (.store 3), [.t 6, .t 65], none, [0, 0]⟩,
 ⟨(some 7), .mov, [.c (.int .i64 0)], none, [1, 0, 1]⟩] false)
 .ret)
def b152k3 : DCode :=
 (.seq
 (.region [⟨(some 44), (.faddr 0 false 1), [.t 4], none, []⟩,
 ⟨(some 45), (.load false 1), [.t 44], none, [0]⟩,
 ⟨(some 46), .call, [.f 178, .t 45], none, [1]⟩,
 ⟨(some 47), (.faddr 1 false 1), [.t 4], none, []⟩,
 ⟨(some 48), (.load false 1), [.t 47], none, [3]⟩,
 ⟨(some 49), .call, [.f 178, .t 48], none, [4, 2]⟩,
 ⟨(some 50), (.faddr 2 false 1), [.t 4], none, []⟩,
 ⟨(some 51), (.load false 1), [.t 50], none, [6]⟩,
 ⟨(some 52), .call, [.f 178, .t 51], none, [7, 5]⟩,
 ⟨(some 53), (.build [(.imm (.slc 1 [])), (.imm (.slc 1 [])), (.imm (.slc 1 []))] [(0, 1), (1, 1), (2, 1)]), [.t 46, .t 49, .t 52], none, [2, 5, 8]⟩,
 ⟨(some 12), (.alloc [(.imm (.slc 1 [])), (.imm (.slc 1 [])), (.imm (.slc 1 []))]), [], none, []⟩,
 ⟨none, (.store 3), [.t 12, .t 53], none, [10, 9, 8, 0, 1, 2, 3, 4, 5, 6, 7, 8, 9, 10]⟩] true)
 (.seq
 (.seq
 (.region [⟨(some 54), .movv, [.t 2], none, []⟩,
 ⟨(some 55), .len, [.t 54], none, [0]⟩,
 ⟨(some 56), .mov, [.c (.int .i64 0)], none, []⟩] false)
 (.block 2
 (.loop b152l1)))
 (.keep [6, 12] [6, 12] b152k2)))
def b152k4 : DCode :=
 (.seq
 (.seq
 (.region [⟨(some 40), .mov, [.t 9], none, []⟩,
 ⟨(some 41), (.bin .neq), [.t 40, .c (.int .i64 0)], none, [0]⟩] false)
 (.cond (.t 41)
 (.seq
 (.region [⟨(some 42), (.build [(.imm (.slc 1 [])), (.imm (.slc 1 [])), (.imm (.slc 1 []))] []), [], none, []⟩,
 ⟨(some 43), .mov, [.t 9], none, []⟩,
 ⟨none, (.store 3), [.t 6, .t 42], none, [0, 0]⟩,
 ⟨(some 7), .mov, [.t 43], none, [1, 2, 0, 1, 2]⟩] false)
 .ret)
 .skip))
 (.keep [2, 4, 6, 8] [4, 6, 8] b152k3))
def b152 : DCode :=
 (.seq
 (.region [⟨(some 3), .box, [.t 0], none, []⟩,
 ⟨(some 4), .box, [.t 1], none, []⟩,
 ⟨(some 6), (.alloc [(.imm (.slc 1 [])), (.imm (.slc 1 [])), (.imm (.slc 1 []))]), [], none, []⟩,
 ⟨(some 7), .mov, [.c (.int .i64 0)], none, []⟩] false)
 (.seq
 (.region [⟨(some 16), (.load true 2), [.t 3], none, []⟩,
 ⟨(some 17), (.load true 3), [.t 4], none, []⟩,
 ⟨(some 18), .call, [.f 225, .t 16, .t 17], none, [0, 1]⟩,
 ⟨(some 15), .mov, [.t 18], none, [2]⟩,
 ⟨(some 19), (.ext 0), [.t 15], none, [3]⟩,
 ⟨(some 20), (.ext 1), [.t 15], none, [3]⟩,
 ⟨(some 8), (.alloc [(.imm (.slc 2 [])), (.imm (.slc 1 [])), (.imm (.slc 1 [])), (.imm (.int .i64 0))]), [], none, []⟩,
 ⟨none, (.store 4), [.t 8, .t 19], none, [6, 4, 2, 0, 1, 2, 3, 4, 6]⟩,
 ⟨(some 9), .mov, [.t 20], none, [5, 7, 0, 1, 2, 3, 4, 5, 6, 7]⟩] false)
 (.seq
 (.region [⟨(some 21), .mov, [.t 9], none, []⟩,
 ⟨(some 22), .movv, [.t 2], none, []⟩,
 ⟨(some 23), .len, [.t 22], none, [1]⟩,
 ⟨(some 24), (.bin .leq), [.t 23, .c (.int .i64 200)], none, [2]⟩,
 ⟨(some 25), .call, [.f 135, .t 24, .c (.int .i64 8)], none, [3]⟩,
 ⟨(some 26), (.bsl 1), [.t 21, .t 25], none, [0, 4]⟩,
 ⟨(some 27), .call, [.f 134, .t 26], none, [5, 4]⟩,
 ⟨(some 9), .mov, [.t 27], none, [6, 6, 0, 1, 2, 3, 4, 5, 6]⟩] false)
 (.seq
 (.seq
 (.region [⟨(some 28), .movv, [.t 2], none, []⟩,
 ⟨(some 29), .len, [.t 28], none, [0]⟩,
 ⟨(some 30), .mov, [.c (.int .i64 0)], none, []⟩] false)
 (.block 0
 (.loop b152l0)))
 (.keep [2, 4, 6, 8, 9] [4, 6, 8] b152k4)))))
def d152 : DFn := ⟨3, 66, [.cell 6 true 3, .tmp 7], b152⟩
theorem body152 : d152.body = b152 := rfl
theorem res152 : d152.res = [.cell 6 true 3, .tmp 7] := rfl
theorem k152 : chkFn Tryz.prog Tryz.f152 d152 = true := by kernel_rfl

/-- guidevane/wave.at -/
def b252k0 : DCode :=
 (.seq
 (.region [⟨(some 8), .movv, [.t 0], none, []⟩,
 ⟨(some 9), .mov, [.t 1], none, []⟩,
 ⟨(some 10), .movv, [.t 0], none, []⟩,
 ⟨(some 11), .len, [.t 10], none, [2]⟩,
 ⟨(some 12), (.bin .sub), [.t 11, .c (.int .i64 1)], none, [3]⟩,
 ⟨(some 13), (.mm false), [.t 9, .t 12], none, [1, 4]⟩,
 ⟨(some 14), (.iaddr 1), [.t 8, .t 13], none, [0, 5]⟩,
 ⟨(some 15), (.load false 1), [.t 14], none, [6]⟩,
 ⟨(some 4), .mov, [.t 15], none, [7, 0, 1, 2, 3, 4, 5, 6, 7]⟩] false)
 .ret)
def b252 : DCode :=
 (.seq
 (.region [⟨(some 4), .mov, [.c (.int .i64 0)], none, []⟩] false)
 (.seq
 (.seq
 (.region [⟨(some 5), .movv, [.t 0], none, []⟩,
 ⟨(some 6), .len, [.t 5], none, [0]⟩,
 ⟨(some 7), (.bin .eql), [.t 6, .c (.int .i64 0)], none, [1]⟩] false)
 (.cond (.t 7)
 (.seq
 (.region [⟨(some 4), .mov, [.c (.int .i64 0)], none, []⟩] false)
 .ret)
 .skip))
 (.keep [0, 1] [] b252k0)))
def d252 : DFn := ⟨2, 16, [.tmp 4], b252⟩
theorem body252 : d252.body = b252 := rfl
theorem res252 : d252.res = [.tmp 4] := rfl
theorem k252 : chkFn Tryz.prog Tryz.f252 d252 = true := by kernel_rfl

/-- guidevane/wave.CheckLaw -/
def b291k0 : DCode :=
 (.region [⟨(some 31), .mov, [.t 6], none, []⟩,
 ⟨(some 4), .mov, [.t 31], none, [0, 0]⟩] false)
def b291k1 : DCode :=
 (.region [⟨(some 32), (.bin .add), [.t 13, .c (.int .i64 1)], none, []⟩,
 ⟨(some 13), .mov, [.t 32], none, [0]⟩] false)
def b291k2 : DCode :=
 (.seq
 (.block 1
 (.seq
 (.region [⟨(some 15), .mov, [.t 13], none, []⟩,
 ⟨(some 16), (.iaddr 1), [.t 11, .t 13], none, []⟩,
 ⟨(some 17), (.load false 1), [.t 16], none, [1]⟩,
 ⟨(some 5), .mov, [.t 15], none, [0, 0, 1, 2]⟩,
 ⟨(some 6), .mov, [.t 17], none, [2, 3, 0, 1, 2, 3]⟩] false)
 (.seq
 (.seq
 (.region [⟨(some 18), .mov, [.t 6], none, []⟩,
 ⟨(some 19), .call, [.f 148, .t 18, .c (.int .i64 0), .c (.int .i64 1000)], none, [0]⟩,
 ⟨(some 20), .call, [.f 135, .t 19, .c (.int .i64 2)], none, [1, 1]⟩,
 ⟨(some 21), .mov, [.t 6], none, []⟩,
 ⟨(some 22), .mov, [.t 4], none, []⟩,
 ⟨(some 23), (.bin .geq), [.t 21, .t 22], none, [3, 4]⟩,
 ⟨(some 24), .call, [.f 135, .t 23, .c (.int .i64 9)], none, [5, 2]⟩,
 ⟨(some 25), (.bsl 1), [.t 20, .t 24], none, [2, 6]⟩,
 ⟨(some 26), .call, [.f 134, .t 25], none, [7, 6]⟩,
 ⟨(some 7), .mov, [.t 26], none, [8, 8, 0, 1, 2, 3, 4, 5, 6, 7, 8]⟩] false)
 (.seq
 (.region [⟨(some 27), .mov, [.t 7], none, []⟩,
 ⟨(some 28), (.bin .neq), [.t 27, .c (.int .i64 0)], none, [0]⟩] false)
 (.cond (.t 28)
 (.seq
 (.region [⟨(some 29), .mov, [.t 5], none, []⟩,
 ⟨(some 30), .mov, [.t 7], none, []⟩,
 ⟨(some 2), .mov, [.t 29], none, [0, 0]⟩,
 ⟨(some 3), .mov, [.t 30], none, [1, 2, 0, 1, 2]⟩] false)
 .ret)
 .skip)))
 (.keep [6, 11, 12, 13] [] b291k0))))
 (.keep [4, 11, 12, 13] [] b291k1))
def b291l0 : DCode := .keep [4, 11, 12, 13] []
 (.seq
 (.region [⟨(some 14), (.bin .lss), [.t 13, .t 12], none, []⟩] false)
 (.seq
 (.cond (.t 14)
 .skip
 (.exit 0))
 (.keep [4, 11, 12, 13] [] b291k2)))
def b291k3 : DCode :=
 (.seq
 (.region [⟨(some 2), .mov, [.c (.int .i64 0)], none, []⟩,
 ⟨(some 3), .mov, [.c (.int .i64 0)], none, [0, 0]⟩] false)
 .ret)
def b291k4 : DCode :=
 (.seq
 (.region [⟨(some 4), .mov, [.c (.int .i64 0)], none, []⟩] false)
 (.seq
 (.seq
 (.region [⟨(some 11), .movv, [.t 0], none, []⟩,
 ⟨(some 12), .len, [.t 11], none, [0]⟩,
 ⟨(some 13), .mov, [.c (.int .i64 0)], none, []⟩] false)
 (.block 0
 (.loop b291l0)))
 (.keep [] [] b291k3)))
def b291 : DCode :=
 (.seq
 (.region [⟨(some 2), .mov, [.c (.int .i64 0)], none, []⟩,
 ⟨(some 3), .mov, [.c (.int .i64 0)], none, [0]⟩] false)
 (.seq
 (.seq
 (.region [⟨(some 8), .movv, [.t 0], none, []⟩,
 ⟨(some 9), .len, [.t 8], none, [0]⟩,
 ⟨(some 10), (.bin .gtr), [.t 9, .c (.int .i64 60)], none, [1]⟩] false)
 (.cond (.t 10)
 (.seq
 (.region [⟨(some 2), .mov, [.c (.int .i64 0)], none, []⟩,
 ⟨(some 3), .mov, [.c (.int .i64 8)], none, [0, 0]⟩] false)
 .ret)
 .skip))
 (.keep [0] [] b291k4)))
def d291 : DFn := ⟨1, 33, [.tmp 2, .tmp 3], b291⟩
theorem body291 : d291.body = b291 := rfl
theorem res291 : d291.res = [.tmp 2, .tmp 3] := rfl
theorem k291 : chkFn Tryz.prog Tryz.f291 d291 = true := by kernel_rfl

/-- guidevane/wave.lawErr -/
def b248 : DCode :=
 (.seq
 (.region [⟨(some 2), .mov, [.c (.int .i64 0)], none, []⟩] false)
 (.seq
 (.region [⟨(some 6), .movv, [.t 0], none, []⟩,
 ⟨(some 7), .call, [.f 291, .t 6], none, [0]⟩,
 ⟨(some 5), .mov, [.t 7], none, [1]⟩,
 ⟨(some 8), (.ext 0), [.t 5], none, [2]⟩,
 ⟨(some 9), (.ext 1), [.t 5], none, [2]⟩,
 ⟨(some 3), .mov, [.t 8], none, [3, 1, 0, 1, 2, 3]⟩,
 ⟨(some 4), .mov, [.t 9], none, [4, 5, 0, 1, 2, 3, 4, 5]⟩] false)
 (.seq
 (.region [⟨(some 10), .mov, [.t 4], none, []⟩,
 ⟨(some 2), .mov, [.t 10], none, [0, 0]⟩] false)
 .ret)))
def d248 : DFn := ⟨1, 11, [.tmp 2], b248⟩
theorem body248 : d248.body = b248 := rfl
theorem res248 : d248.res = [.tmp 2] := rfl
theorem k248 : chkFn Tryz.prog Tryz.f248 d248 = true := by kernel_rfl

/-- guidevane/wave.openRun -/
def b185 : DCode :=
 (.seq
 (.region [⟨(some 3), .box, [.t 0], none, []⟩,
 ⟨(some 6), (.alloc [(.imm (.slc 2 [])), (.imm (.slc 1 [])), (.imm (.slc 1 [])), (.imm (.int .i64 0))]), [], none, []⟩,
 ⟨(some 7), .mov, [.c (.int .i64 0)], none, []⟩] false)
 (.seq
 (.region [⟨(some 11), (.load true 2), [.t 3], none, []⟩,
 ⟨(some 12), .call, [.f 145, .t 11], none, [0]⟩,
 ⟨(some 10), .mov, [.t 12], none, [1]⟩,
 ⟨(some 13), (.ext 0), [.t 10], none, [2]⟩,
 ⟨(some 14), (.ext 1), [.t 10], none, [2]⟩,
 ⟨(some 8), (.alloc [(.imm (.slc 2 [])), (.imm (.slc 1 [])), (.imm (.slc 1 [])), (.imm (.int .i64 0))]), [], none, []⟩,
 ⟨none, (.store 4), [.t 8, .t 13], none, [5, 3, 1, 0, 1, 2, 3, 5]⟩,
 ⟨(some 9), .mov, [.t 14], none, [4, 6, 0, 1, 2, 3, 4, 5, 6]⟩] false)
 (.seq
 (.region [⟨(some 15), (.load true 4), [.t 8], none, []⟩,
 ⟨(some 16), .mov, [.t 9], none, []⟩,
 ⟨(some 17), .movv, [.t 1], none, []⟩,
 ⟨(some 18), .call, [.f 248, .t 17], none, [2]⟩,
 ⟨(some 19), .mov, [.t 2], none, []⟩,
 ⟨(some 20), .call, [.f 249, .t 19], none, [4, 3]⟩,
 ⟨(some 21), (.bsl 1), [.t 16, .t 18, .t 20], none, [1, 3, 5]⟩,
 ⟨(some 22), .call, [.f 134, .t 21], none, [6, 5]⟩,
 ⟨none, (.store 4), [.t 6, .t 15], none, [0, 7, 0]⟩,
 ⟨(some 7), .mov, [.t 22], none, [7, 8, 0, 1, 2, 3, 4, 5, 6, 7, 8]⟩] true)
 .ret)))
def d185 : DFn := ⟨3, 23, [.cell 6 true 4, .tmp 7], b185⟩
theorem body185 : d185.body = b185 := rfl
theorem res185 : d185.res = [.cell 6 true 4, .tmp 7] := rfl
theorem k185 : chkFn Tryz.prog Tryz.f185 d185 = true := by kernel_rfl

/-- guidevane/wave.taskErr -/
def b187 : DCode :=
 (.seq
 (.region [⟨(some 1), .box, [.t 0], none, []⟩,
 ⟨(some 2), .mov, [.c (.int .i64 0)], none, []⟩] false)
 (.seq
 (.region [⟨(some 3), (.faddr 0 false 1), [.t 1], none, []⟩,
 ⟨(some 4), (.load false 1), [.t 3], none, [0]⟩,
 ⟨(some 5), .call, [.f 148, .t 4, .c (.int .i64 0), .c (.int .i64 5)], none, [1]⟩,
 ⟨(some 6), .mov, [.t 5], none, [2, 2]⟩,
 ⟨(some 7), (.faddr 1 false 1), [.t 1], (some (6, true)), [3]⟩,
 ⟨(some 8), (.load false 1), [.t 7], (some (6, true)), [4, 3]⟩,
 ⟨(some 9), .call, [.f 148, .t 8, .c (.int .i64 1), .c (.int .i64 7)], (some (6, true)), [5, 3, 3]⟩,
 ⟨(some 10), .pick, [.t 6, .t 9, .c (.bool false)], none, [3, 6]⟩,
 ⟨(some 11), .call, [.f 135, .t 10, .c (.int .i64 2)], none, [7, 6]⟩,
 ⟨(some 12), (.faddr 2 false 1), [.t 1], none, []⟩,
 ⟨(some 13), (.load false 1), [.t 12], none, [9]⟩,
 ⟨(some 14), .call, [.f 249, .t 13], none, [10, 8]⟩,
 ⟨(some 15), (.faddr 3 true 2), [.t 1], none, []⟩,
 ⟨(some 16), (.faddr 0 false 1), [.t 15], none, [12]⟩,
 ⟨(some 17), (.load false 1), [.t 16], none, [13]⟩,
 ⟨(some 18), .call, [.f 136, .t 17, .c (.int .i64 1000000)], none, [14, 11]⟩,
 ⟨(some 19), .mov, [.t 18], none, [15, 15]⟩,
 ⟨(some 20), (.faddr 3 true 2), [.t 1], (some (19, true)), [16]⟩,
 ⟨(some 21), (.faddr 1 false 1), [.t 20], (some (19, true)), [17, 16]⟩,
 ⟨(some 22), (.load false 1), [.t 21], (some (19, true)), [18, 16]⟩,
 ⟨(some 23), .call, [.f 136, .t 22, .c (.int .i64 1000000)], (some (19, true)), [19, 16, 16]⟩,
 ⟨(some 24), .pick, [.t 19, .t 23, .c (.bool false)], none, [16, 20]⟩,
 ⟨(some 25), .call, [.f 135, .t 24, .c (.int .i64 2)], none, [21, 20]⟩,
 ⟨(some 26), (.faddr 3 true 2), [.t 1], none, []⟩,
 ⟨(some 27), (.faddr 0 false 1), [.t 26], none, [23]⟩,
 ⟨(some 28), (.load false 1), [.t 27], none, [24]⟩,
 ⟨(some 29), (.faddr 3 true 2), [.t 1], none, []⟩,
 ⟨(some 30), (.faddr 1 false 1), [.t 29], none, [26]⟩,
 ⟨(some 31), (.load false 1), [.t 30], none, [27]⟩,
 ⟨(some 32), (.bin .leq), [.t 28, .t 31], none, [25, 28]⟩,
 ⟨(some 33), .call, [.f 135, .t 32, .c (.int .i64 9)], none, [29, 22]⟩,
 ⟨(some 34), (.bsl 1), [.t 11, .t 14, .t 25, .t 33], none, [8, 11, 22, 30]⟩,
 ⟨(some 35), .call, [.f 134, .t 34], none, [31, 30]⟩,
 ⟨(some 2), .mov, [.t 35], none, [32, 32, 0, 1, 2, 3, 4, 5, 6, 7, 8, 9, 10, 11, 12, 13, 14, 15, 16, 17, 18, 19, 20, 21, 22, 23, 24, 25, 26, 27, 28, 29, 30, 31, 32]⟩] true)
 .ret))
def d187 : DFn := ⟨1, 36, [.tmp 2], b187⟩
theorem body187 : d187.body = b187 := rfl
theorem res187 : d187.res = [.tmp 2] := rfl
theorem k187 : chkFn Tryz.prog Tryz.f187 d187 = true := by kernel_rfl

/-- (guidevane/wave.line).run -/
def b186 : DCode :=
 (.seq
 (.region [⟨(some 2), .box, [.t 0], none, []⟩,
 ⟨(some 3), .box, [.t 1], none, []⟩,
 ⟨(some 4), .mov, [.c .nilf], none, []⟩] false)
 (.seq
 (.freeze [2, 3]
 (.region [⟨(some 5), (.mkfn 250 0), [.t 2, .t 3], none, []⟩,
 ⟨(some 4), .mov, [.t 5], none, [0, 0]⟩] false))
 .ret))
def d186 : DFn := ⟨2, 6, [.tmp 4], b186⟩
theorem body186 : d186.body = b186 := rfl
theorem res186 : d186.res = [.tmp 4] := rfl
theorem k186 : chkFn Tryz.prog Tryz.f186 d186 = true := by kernel_rfl

/-- (guidevane/wave.line).run$1 -/
def b250k0 : DCode :=
 (.region [⟨(some 10), .mov, [.t 5], none, []⟩,
 ⟨(some 11), (.bin .add), [.t 10, .c (.int .i64 1)], none, [0]⟩,
 ⟨(some 5), .mov, [.t 11], none, [1, 0, 1]⟩] false)
def b250l0 : DCode := .keep [0, 1, 2, 4, 5] [0, 4]
 (.seq
 (.block 1
 (.seq
 (.region [⟨(some 12), (.load false 1), [.t 2], none, []⟩,
 ⟨(some 13), .mov, [.t 5], none, []⟩,
 ⟨(some 14), .call, [.f 252, .t 12, .t 13], none, [0, 1]⟩,
 ⟨(some 6), .mov, [.t 14], none, [2, 2, 0, 1, 2]⟩] false)
 (.seq
 (.region [⟨(some 15), (.faddr 0 false 1), [.t 4], none, []⟩,
 ⟨(some 16), (.load false 1), [.t 15], none, [0]⟩,
 ⟨(some 17), (.load true 4), [.t 1], none, []⟩,
 ⟨(some 18), .call, [.f 143, .t 17], none, [2]⟩,
 ⟨(some 19), (.iaddr 1), [.t 16, .t 18], none, [1, 3]⟩,
 ⟨(some 20), (.load false 1), [.t 19], none, [4]⟩,
 ⟨(some 21), (.bin .mul), [.c (.int .i64 2), .t 20], none, [5]⟩,
 ⟨(some 22), .mov, [.t 6], none, []⟩,
 ⟨(some 23), (.bin .add), [.t 21, .t 22], none, [6, 7]⟩,
 ⟨(some 7), .mov, [.t 23], none, [8, 3, 0, 1, 2, 3, 4, 5, 6, 7, 8]⟩] true)
 (.seq
 (.region [⟨(some 24), (.load true 4), [.t 1], none, []⟩,
 ⟨(some 25), (.load true 3), [.t 4], none, []⟩,
 ⟨(some 26), .mov, [.t 6], none, []⟩,
 ⟨(some 27), .call, [.f 227, .t 24, .t 25, .t 26], none, [0, 1, 2]⟩,
 ⟨none, (.store 3), [.t 4, .t 27], none, [3, 3, 0, 1, 2, 3]⟩] false)
 (.seq
 (.region [⟨(some 28), .mov, [.t 0], none, []⟩,
 ⟨(some 29), .mov, [.t 7], none, []⟩,
 ⟨(some 30), (.load true 3), [.t 4], none, []⟩,
 ⟨(some 31), .yield, [.t 28, .t 29, .t 30], none, [0, 1, 2]⟩,
 ⟨(some 32), (.un .not), [.t 31], none, [3]⟩] false)
 (.cond (.t 32)
 .ret
 .skip))))))
 (.keep [0, 1, 2, 4, 5] [0, 4] b250k0))
def b250 : DCode :=
 (.seq
 (.region [⟨(some 8), (.load true 4), [.t 1], none, []⟩,
 ⟨(some 9), .call, [.f 251, .t 8], none, [0]⟩,
 ⟨(some 4), (.alloc [(.imm (.slc 1 [])), (.imm (.slc 1 [])), (.imm (.slc 1 []))]), [], none, []⟩,
 ⟨none, (.store 3), [.t 4, .t 9], none, [2, 1, 1, 0, 1, 2]⟩] false)
 (.seq
 (.region [⟨(some 5), .mov, [.c (.int .i64 0)], none, []⟩] false)
 (.block 0
 (.loop b250l0))))
def d250 : DFn := ⟨3, 33, [], b250⟩
theorem body250 : d250.body = b250 := rfl
theorem res250 : d250.res = [] := rfl
theorem k250 : chkFnB Tryz.prog Tryz.f250 d250 [0] [0] = true := by kernel_rfl

/-- guidevane/wave.ValvePressures -/
def b88a0 : DCode :=
 (.region [⟨(some 11), .mov, [.t 25], none, []⟩] false)
def b88r0 : DCode :=
 (.block 1
 (.seq
 (.region [⟨(some 27), (.load false 1), [.t 10], none, []⟩,
 ⟨(some 28), .mov, [.t 11], none, []⟩,
 ⟨(some 29), (.bsl 1), [.t 28], none, [1]⟩,
 ⟨(some 30), (.append 1 8 false), [.t 27, .t 29], none, [0, 2]⟩,
 ⟨none, (.store 1), [.t 10, .t 30], none, [3, 3, 0, 1, 2, 3]⟩] false)
 (.seq
 (.region [⟨(some 31), (.load false 1), [.t 10], none, []⟩,
 ⟨(some 32), .len, [.t 31], none, [0]⟩,
 ⟨(some 33), (.load false 1), [.t 5], none, []⟩,
 ⟨(some 34), (.bin .eql), [.t 32, .t 33], none, [1, 2]⟩] false)
 (.cond (.t 34)
 (.exit 0)
 .skip))))
def b88k0 : DCode :=
 (.seq
 (.region [⟨(some 35), (.load false 1), [.t 10], none, []⟩,
 ⟨(some 6), .movv, [.t 35], none, [0, 0]⟩,
 ⟨(some 7), .mov, [.c (.int .i64 0)], none, [1, 0, 1]⟩] false)
 .ret)
def b88k1 : DCode :=
 (.seq
 (.region [⟨(some 10), (.alloc [(.cap0 1 [])]), [], none, []⟩] false)
 (.mktok 10 0 1010 1
 (.seq
 (.seq
 (.region [⟨(some 22), (.load true 4), [.t 8], none, []⟩,
 ⟨(some 23), .movv, [.t 1], none, []⟩,
 ⟨(some 24), .call, [.f 186, .t 22, .t 23], none, [0, 1]⟩] false)
 (.block 0
 (.rangeF (.t 24) [25, 26] [5, 10] [5, 10] [] [5, 10, 30, 1010] b88a0 b88r0)))
 (.keep [10] [10, 30, 1010] b88k0))))
def b88 : DCode :=
 (.seq
 (.region [⟨(some 3), .box, [.t 0], none, []⟩,
 ⟨(some 5), .box, [.t 2], none, []⟩,
 ⟨(some 6), .mov, [.c (.slc 1 [])], none, []⟩,
 ⟨(some 7), .mov, [.c (.int .i64 0)], none, [2]⟩] false)
 (.seq
 (.region [⟨(some 13), (.load true 2), [.t 3], none, []⟩,
 ⟨(some 14), .movv, [.t 1], none, []⟩,
 ⟨(some 15), (.load false 1), [.t 5], none, []⟩,
 ⟨(some 16), .call, [.f 185, .t 13, .t 14, .t 15], none, [0, 1, 2]⟩,
 ⟨(some 12), .mov, [.t 16], none, [3]⟩,
 ⟨(some 17), (.ext 0), [.t 12], none, [4]⟩,
 ⟨(some 18), (.ext 1), [.t 12], none, [4]⟩,
 ⟨(some 8), (.alloc [(.imm (.slc 2 [])), (.imm (.slc 1 [])), (.imm (.slc 1 [])), (.imm (.int .i64 0))]), [], none, []⟩,
 ⟨none, (.store 4), [.t 8, .t 17], none, [7, 5, 3, 0, 1, 2, 3, 4, 5, 7]⟩,
 ⟨(some 9), .mov, [.t 18], none, [6, 8, 0, 1, 2, 3, 4, 5, 6, 7, 8]⟩] false)
 (.seq
 (.seq
 (.region [⟨(some 19), .mov, [.t 9], none, []⟩,
 ⟨(some 20), (.bin .neq), [.t 19, .c (.int .i64 0)], none, [0]⟩] false)
 (.cond (.t 20)
 (.seq
 (.region [⟨(some 21), .mov, [.t 9], none, []⟩,
 ⟨(some 6), .mov, [.c (.slc 1 [])], none, []⟩,
 ⟨(some 7), .mov, [.t 21], none, [0, 1, 0, 1]⟩] false)
 .ret)
 .skip))
 (.keep [1, 5, 8] [5, 8] b88k1))))
def d88 : DFn := ⟨3, 36, [.tmp 6, .tmp 7], b88⟩
theorem body88 : d88.body = b88 := rfl
theorem res88 : d88.res = [.tmp 6, .tmp 7] := rfl
theorem k88 : chkFn Tryz.prog Tryz.f88 d88 = true := by kernel_rfl

/-- (guidevane/wave.line).beyond -/
def b190k0 : DCode :=
 (.region [⟨(some 29), (.load false 1), [.t 7], none, []⟩,
 ⟨(some 30), (.bin .add), [.t 29, .c (.int .i64 1)], none, [0]⟩,
 ⟨none, (.store 1), [.t 7, .t 30], none, [1, 0, 1]⟩] false)
def b190a0 : DCode :=
 (.region [⟨(some 8), .mov, [.t 12], none, []⟩] false)
def b190r0 : DCode :=
 (.block 1
 (.seq
 (.seq
 (.region [⟨(some 14), (.load false 1), [.t 7], none, []⟩,
 ⟨(some 15), (.faddr 2 false 1), [.t 5], none, []⟩,
 ⟨(some 16), (.load false 1), [.t 15], none, [1]⟩,
 ⟨(some 17), (.bin .eql), [.t 14, .t 16], none, [0, 2]⟩,
 ⟨(some 18), .mov, [.t 17], none, [3]⟩,
 ⟨(some 19), .mov, [.t 8], (some (18, false)), [4]⟩,
 ⟨(some 20), (.faddr 3 true 2), [.t 5], (some (18, false)), [4]⟩,
 ⟨(some 21), (.faddr 0 false 1), [.t 20], (some (18, false)), [6, 4]⟩,
 ⟨(some 22), (.load false 1), [.t 21], (some (18, false)), [7, 4]⟩,
 ⟨(some 23), (.faddr 3 true 2), [.t 5], (some (18, false)), [4]⟩,
 ⟨(some 24), (.faddr 1 false 1), [.t 23], (some (18, false)), [9, 4]⟩,
 ⟨(some 25), (.load false 1), [.t 24], (some (18, false)), [10, 4]⟩,
 ⟨(some 26), .call, [.f 148, .t 19, .t 22, .t 25], (some (18, false)), [5, 8, 11, 4, 4]⟩,
 ⟨(some 27), (.un .not), [.t 26], (some (18, false)), [12, 4]⟩,
 ⟨(some 28), .pick, [.t 18, .c (.bool true), .t 27], none, [4, 13]⟩] false)
 (.cond (.t 28)
 (.exit 0)
 .skip))
 (.keep [7] [5, 7] b190k0)))
def b190k1 : DCode :=
 (.seq
 (.region [⟨(some 31), (.load false 1), [.t 7], none, []⟩,
 ⟨(some 6), .mov, [.t 31], none, [0, 0]⟩] false)
 .ret)
def b190 : DCode :=
 (.seq
 (.region [⟨(some 3), .box, [.t 0], none, []⟩,
 ⟨(some 5), .box, [.t 2], none, []⟩,
 ⟨(some 6), .mov, [.c (.int .i64 0)], none, []⟩] false)
 (.seq
 (.region [⟨(some 7), (.alloc [(.imm (.int .i64 0))]), [], none, []⟩,
 ⟨none, (.store 1), [.t 7, .c (.int .i64 0)], none, [0, 0]⟩] false)
 (.seq
 (.seq
 (.region [⟨(some 9), (.load true 4), [.t 3], none, []⟩,
 ⟨(some 10), .movv, [.t 1], none, []⟩,
 ⟨(some 11), .call, [.f 186, .t 9, .t 10], none, [0, 1]⟩] false)
 (.block 0
 (.rangeF (.t 11) [12, 13] [5, 7] [5, 7] [] [5, 7] b190a0 b190r0)))
 (.keep [7] [7] b190k1))))
def d190 : DFn := ⟨3, 32, [.tmp 6], b190⟩
theorem body190 : d190.body = b190 := rfl
theorem res190 : d190.res = [.tmp 6] := rfl
theorem k190 : chkFn Tryz.prog Tryz.f190 d190 = true := by kernel_rfl

/-- guidevane/wave.laws -/
def b188k0 : DCode :=
 (.region [⟨(some 26), .mov, [.t 9], none, []⟩,
 ⟨(some 27), (.bin .add), [.t 26, .c (.int .i64 1)], none, [0]⟩,
 ⟨(some 9), .mov, [.t 27], none, [1, 0, 1]⟩] false)
def b188k1 : DCode :=
 (.seq
 (.block 1
 (.seq
 (.region [⟨(some 28), .movv, [.t 0], none, []⟩,
 ⟨(some 29), (.callb []), [.f 178, .t 28], none, [0]⟩,
 ⟨(some 30), .mov, [.t 9], none, []⟩,
 ⟨(some 31), (.bsl 1), [.t 30], none, [2]⟩,
 ⟨(some 32), (.append 1 8 false), [.t 29, .t 31], none, [1, 3, 1]⟩,
 ⟨(some 33), .mov, [.t 1], none, []⟩,
 ⟨(some 34), (.bin .sub), [.t 33, .c (.int .i64 1)], none, [5]⟩,
 ⟨(some 35), .mov, [.t 2], none, []⟩,
 ⟨(some 36), .mov, [.t 3], none, []⟩,
 ⟨(some 37), (.callb [1008]), [.f 188, .t 32, .t 34, .t 35, .t 36], none, [4, 6, 7, 8, 4]⟩,
 ⟨(some 38), (.un .not), [.t 37], none, [9]⟩] false)
 (.cond (.t 38)
 (.seq
 (.region [⟨(some 8), .mov, [.c (.bool false)], none, []⟩] false)
 .ret)
 .skip)))
 (.keep [0, 1, 2, 3, 9] [1008] b188k0))
def b188l0 : DCode := .keep [0, 1, 2, 3, 9] [1008]
 (.seq
 (.seq
 (.region [⟨(some 23), .mov, [.t 9], none, []⟩,
 ⟨(some 24), .mov, [.t 2], none, []⟩,
 ⟨(some 25), (.bin .leq), [.t 23, .t 24], none, [0, 1]⟩] false)
 (.cond (.t 25)
 .skip
 (.exit 0)))
 (.keep [0, 1, 2, 3, 9] [1008] b188k1))
def b188k2 : DCode :=
 (.seq
 (.region [⟨(some 8), .mov, [.c (.bool true)], none, []⟩] false)
 .ret)
def b188k3 : DCode :=
 (.seq
 (.seq
 (.region [⟨(some 19), .movv, [.t 0], none, []⟩,
 ⟨(some 20), .movv, [.t 0], none, []⟩,
 ⟨(some 21), .len, [.t 20], none, [1]⟩,
 ⟨(some 22), .call, [.f 252, .t 19, .t 21], none, [0, 2]⟩,
 ⟨(some 9), .mov, [.t 22], none, [3, 3, 0, 1, 2, 3]⟩] false)
 (.block 0
 (.loop b188l0)))
 (.keep [] [1008] b188k2))
def b188 : DCode :=
 (.seq
 (.region [⟨(some 8), .mov, [.c (.bool false)], none, []⟩] false)
 (.seq
 (.seq
 (.region [⟨(some 10), .mov, [.t 1], none, []⟩,
 ⟨(some 11), (.bin .eql), [.t 10, .c (.int .i64 1)], none, [0]⟩] false)
 (.cond (.t 11)
 (.seq
 (.region [⟨(some 12), .mov, [.t 3], none, []⟩,
 ⟨(some 13), .movv, [.t 0], none, []⟩,
 ⟨(some 14), (.callb []), [.f 178, .t 13], none, [1]⟩,
 ⟨(some 15), .mov, [.t 2], none, []⟩,
 ⟨(some 16), (.bsl 1), [.t 15], none, [3]⟩,
 ⟨(some 17), (.append 1 8 false), [.t 14, .t 16], none, [2, 4, 2]⟩,
 ⟨(some 18), (.callb [1008]), [.t 12, .t 17], none, [0, 5, 5]⟩,
 ⟨(some 8), .mov, [.t 18], none, [6, 6, 0, 1, 2, 3, 4, 5, 6]⟩] false)
 .ret)
 .skip))
 (.keep [0, 1, 2, 3] [1008] b188k3)))
def d188 : DFn := ⟨4, 39, [.tmp 8], b188⟩
theorem body188 : d188.body = b188 := rfl
theorem res188 : d188.res = [.tmp 8] := rfl
theorem k188 : chkFnB Tryz.prog Tryz.f188 d188 [1008] [1008] = true := by kernel_rfl

/-- guidevane/wave.FastestLaw -/
def b91k0 : DCode :=
 (.seq
 (.block 1
 (.region [⟨(some 33), .mov, [.t 9], none, []⟩,
 ⟨(some 34), (.faddr 0 false 1), [.t 3], none, []⟩,
 ⟨(some 35), (.load false 1), [.t 34], none, [1]⟩,
 ⟨(some 36), (.mkfn 189 0), [.t 6, .t 3, .t 8], none, []⟩,
 ⟨(some 37), (.callb [1008]), [.f 188, .c (.slc 1 []), .t 33, .t 35, .t 36], none, [0, 2, 3]⟩] false))
 (.region [⟨(some 31), .mov, [.t 9], none, []⟩,
 ⟨(some 32), (.bin .add), [.t 31, .c (.int .i64 1)], none, [0]⟩,
 ⟨(some 9), .mov, [.t 32], none, [1, 0, 1]⟩] false))
def b91l0 : DCode := .keep [3, 6, 8, 9] [1008]
 (.seq
 (.seq
 (.region [⟨(some 23), .mov, [.t 9], none, []⟩,
 ⟨(some 24), (.faddr 1 false 1), [.t 3], none, []⟩,
 ⟨(some 25), (.load false 1), [.t 24], none, [1]⟩,
 ⟨(some 26), (.bin .leq), [.t 23, .t 25], none, [0, 2]⟩,
 ⟨(some 27), .mov, [.t 26], none, [3]⟩,
 ⟨(some 28), (.load false 1), [.t 8], (some (27, true)), [4]⟩,
 ⟨(some 29), (.qnil false), [.t 28, .c (.slc 1 [])], (some (27, true)), [5, 4]⟩,
 ⟨(some 30), .pick, [.t 27, .t 29, .c (.bool false)], none, [4, 6]⟩] false)
 (.cond (.t 30)
 .skip
 (.exit 0)))
 (.keep [3, 6, 8, 9] [1008] b91k0))
def b91k1 : DCode :=
 (.seq
 (.region [⟨(some 38), (.load false 1), [.t 8], none, []⟩,
 ⟨(some 39), (.load false 1), [.t 8], none, []⟩,
 ⟨(some 40), (.qnil true), [.t 39, .c (.slc 1 [])], none, [1]⟩,
 ⟨(some 41), .call, [.f 135, .t 40, .c (.int .i64 12)], none, [2]⟩,
 ⟨(some 4), .movv, [.t 38], none, [0, 3, 0]⟩,
 ⟨(some 5), .mov, [.t 41], none, [3, 4, 0, 1, 2, 3, 4]⟩] true)
 .ret)
def b91k2 : DCode :=
 (.seq
 (.region [⟨(some 8), (.alloc [(.nils 1)]), [], none, []⟩] false)
 (.ren 8 1008
 (.seq
 (.seq
 (.region [⟨(some 9), .mov, [.c (.int .i64 1)], none, []⟩] false)
 (.block 0
 (.loop b91l0)))
 (.keep [8] [1008] b91k1))))
def b91 : DCode :=
 (.seq
 (.settle [2, 3]
 (.region [⟨(some 2), .box, [.t 0], none, []⟩,
 ⟨(some 3), .box, [.t 1], none, []⟩,
 ⟨(some 4), .mov, [.c (.slc 1 [])], none, []⟩,
 ⟨(some 5), .mov, [.c (.int .i64 0)], none, [2]⟩] false))
 (.seq
 (.settle [6]
 (.region [⟨(some 11), (.load true 2), [.t 2], none, []⟩,
 ⟨(some 12), .call, [.f 145, .t 11], none, [0]⟩,
 ⟨(some 10), .mov, [.t 12], none, [1]⟩,
 ⟨(some 13), (.ext 0), [.t 10], none, [2]⟩,
 ⟨(some 14), (.ext 1), [.t 10], none, [2]⟩,
 ⟨(some 6), (.alloc [(.imm (.slc 2 [])), (.imm (.slc 1 [])), (.imm (.slc 1 [])), (.imm (.int .i64 0))]), [], none, []⟩,
 ⟨none, (.store 4), [.t 6, .t 13], none, [5, 3, 1, 0, 1, 2, 3, 5]⟩,
 ⟨(some 7), .mov, [.t 14], none, [4, 6, 0, 1, 2, 3, 4, 5, 6]⟩] false))
 (.seq
 (.seq
 (.region [⟨(some 15), .mov, [.t 7], none, []⟩,
 ⟨(some 16), (.load true 5), [.t 3], none, []⟩,
 ⟨(some 17), .call, [.f 187, .t 16], none, [1]⟩,
 ⟨(some 18), (.bsl 1), [.t 15, .t 17], none, [0, 2]⟩,
 ⟨(some 19), .call, [.f 134, .t 18], none, [3, 2]⟩,
 ⟨(some 7), .mov, [.t 19], none, [4, 4, 0, 1, 2, 3, 4]⟩] false)
 (.seq
 (.region [⟨(some 20), .mov, [.t 7], none, []⟩,
 ⟨(some 21), (.bin .neq), [.t 20, .c (.int .i64 0)], none, [0]⟩] false)
 (.cond (.t 21)
 (.seq
 (.region [⟨(some 22), .mov, [.t 7], none, []⟩,
 ⟨(some 4), .mov, [.c (.slc 1 [])], none, []⟩,
 ⟨(some 5), .mov, [.t 22], none, [0, 1, 0, 1]⟩] false)
 .ret)
 .skip)))
 (.keep [3, 6] [] b91k2))))
def d91 : DFn := ⟨2, 42, [.tmp 4, .tmp 5], b91⟩
theorem body91 : d91.body = b91 := rfl
theorem res91 : d91.res = [.tmp 4, .tmp 5] := rfl
theorem k91 : chkFn Tryz.prog Tryz.f91 d91 = true := by kernel_rfl

/-- guidevane/wave.FastestLaw$1 -/
def b189k0 : DCode :=
 (.seq
 (.region [⟨(some 14), (.load false 1), [.t 3], none, []⟩,
 ⟨(some 15), (.qnil false), [.t 14, .c (.slc 1 [])], none, [0]⟩,
 ⟨(some 5), .mov, [.t 15], none, [1, 0, 1]⟩] false)
 .ret)
def b189 : DCode :=
 (.seq
 (.region [⟨(some 5), .mov, [.c (.bool false)], none, []⟩] false)
 (.seq
 (.seq
 (.region [⟨(some 6), (.load true 4), [.t 1], none, []⟩,
 ⟨(some 7), .movv, [.t 0], none, []⟩,
 ⟨(some 8), (.load true 5), [.t 2], none, []⟩,
 ⟨(some 9), .call, [.f 190, .t 6, .t 7, .t 8], none, [0, 1, 2]⟩,
 ⟨(some 10), (.faddr 2 false 1), [.t 2], none, []⟩,
 ⟨(some 11), (.load false 1), [.t 10], none, [4]⟩,
 ⟨(some 12), (.bin .eql), [.t 9, .t 11], none, [3, 5]⟩] true)
 (.cond (.t 12)
 (.region [⟨(some 13), .movv, [.t 0], none, []⟩,
 ⟨none, (.store 1), [.t 3, .t 13], none, [0, 0]⟩] false)
 .skip))
 (.keep [3] [1008] b189k0)))
def d189 : DFn := ⟨4, 16, [.tmp 5], b189⟩
theorem body189 : d189.body = b189 := rfl
theorem res189 : d189.res = [.tmp 5] := rfl
theorem k189 : chkFnB Tryz.prog Tryz.f189 d189 [1008] [1008] = true := by kernel_rfl

end Go.DI

