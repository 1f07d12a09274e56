/- The functions of permitted ticks, as data. No condition. -/
import Derived.Test.YtnkdmcalkgecfaaGreatPeGe
import Derived.Test.YtnkdmcalkgecfaaGreatProg
import Derived.KernelRfl
namespace Go.DI
open Go.Proofs Go.RowKit
/-- math/bits.Mul -/
def b74k0 : DCode :=
 (.seq
 (.region [⟨(some 23), .mov, [.t 0], none, []⟩,
 ⟨(some 24), .mov, [.t 1], none, []⟩,
 ⟨(some 25), .call, [.f 102, .t 23, .t 24], none, [0, 1]⟩,
 ⟨(some 22), .mov, [.t 25], none, [2]⟩,
 ⟨(some 26), (.ext 0), [.t 22], none, [3]⟩,
 ⟨(some 27), (.ext 1), [.t 22], none, [3]⟩,
 ⟨(some 8), .mov, [.t 26], none, [4, 2, 0, 1, 2, 3, 4]⟩,
 ⟨(some 9), .mov, [.t 27], none, [5, 6, 0, 1, 2, 3, 4, 5, 6]⟩] false)
 (.seq
 (.region [⟨(some 28), .mov, [.t 8], none, []⟩,
 ⟨(some 29), .mov, [.t 9], none, []⟩,
 ⟨(some 4), .mov, [.t 28], none, [0, 0]⟩,
 ⟨(some 5), .mov, [.t 29], none, [1, 2, 0, 1, 2]⟩] false)
 .ret))
def b74 : DCode :=
 (.seq
 (.region [⟨(some 4), .mov, [.c (.int .u64 0)], none, []⟩,
 ⟨(some 5), .mov, [.c (.int .u64 0)], none, [0]⟩] false)
 (.seq
 (.cond (.c (.bool false))
 (.seq
 (.region [⟨(some 11), .mov, [.t 0], none, []⟩,
 ⟨(some 12), (.conv .u32), [.t 11], none, [0]⟩,
 ⟨(some 13), .mov, [.t 1], none, []⟩,
 ⟨(some 14), (.conv .u32), [.t 13], none, [2]⟩,
 ⟨(some 15), .call, [.f 101, .t 12, .t 14], none, [1, 3]⟩,
 ⟨(some 10), .mov, [.t 15], none, [4]⟩,
 ⟨(some 16), (.ext 0), [.t 10], none, [5]⟩,
 ⟨(some 17), (.ext 1), [.t 10], none, [5]⟩,
 ⟨(some 6), .mov, [.t 16], none, [6, 4, 0, 1, 2, 3, 4, 5, 6]⟩,
 ⟨(some 7), .mov, [.t 17], none, [7, 8, 0, 1, 2, 3, 4, 5, 6, 7, 8]⟩] false)
 (.seq
 (.region [⟨(some 18), .mov, [.t 6], none, []⟩,
 ⟨(some 19), (.conv .u64), [.t 18], none, [0]⟩,
 ⟨(some 20), .mov, [.t 7], none, []⟩,
 ⟨(some 21), (.conv .u64), [.t 20], none, [2]⟩,
 ⟨(some 4), .mov, [.t 19], none, [1, 0, 1]⟩,
 ⟨(some 5), .mov, [.t 21], none, [3, 4, 0, 1, 2, 3, 4]⟩] false)
 .ret))
 .skip)
 (.keep [0, 1] [] b74k0)))
def d74 : DFn := ⟨2, 30, [.tmp 4, .tmp 5], b74⟩
theorem body74 : d74.body = b74 := rfl
theorem res74 : d74.res = [.tmp 4, .tmp 5] := rfl
theorem k74 : chkFn Tryz.prog Tryz.f74 d74 = true := by kernel_rfl

/-- math/bits.Mul64 -/
def b102 : DCode :=
 (.seq
 (.region [⟨(some 4), .mov, [.c (.int .u64 0)], none, []⟩,
 ⟨(some 5), .mov, [.c (.int .u64 0)], none, [0]⟩] false)
 (.seq
 (.region [⟨(some 14), .mov, [.t 0], none, []⟩,
 ⟨(some 15), (.px (.bit .and)), [.t 14, .c (.int .u64 4294967295)], none, [0]⟩,
 ⟨(some 6), .mov, [.t 15], none, [1, 0, 1]⟩] false)
 (.seq
 (.region [⟨(some 16), .mov, [.t 0], none, []⟩,
 ⟨(some 17), (.px (.sh .shr)), [.t 16, .c (.int .u64 32)], none, [0]⟩,
 ⟨(some 7), .mov, [.t 17], none, [1, 0, 1]⟩] false)
 (.seq
 (.region [⟨(some 18), .mov, [.t 1], none, []⟩,
 ⟨(some 19), (.px (.bit .and)), [.t 18, .c (.int .u64 4294967295)], none, [0]⟩,
 ⟨(some 8), .mov, [.t 19], none, [1, 0, 1]⟩] false)
 (.seq
 (.region [⟨(some 20), .mov, [.t 1], none, []⟩,
 ⟨(some 21), (.px (.sh .shr)), [.t 20, .c (.int .u64 32)], none, [0]⟩,
 ⟨(some 9), .mov, [.t 21], none, [1, 0, 1]⟩] false)
 (.seq
 (.region [⟨(some 22), .mov, [.t 6], none, []⟩,
 ⟨(some 23), .mov, [.t 8], none, []⟩,
 ⟨(some 24), (.bin .mul), [.t 22, .t 23], none, [0, 1]⟩,
 ⟨(some 10), .mov, [.t 24], none, [2, 0, 1, 2]⟩] false)
 (.seq
 (.region [⟨(some 25), .mov, [.t 7], none, []⟩,
 ⟨(some 26), .mov, [.t 8], none, []⟩,
 ⟨(some 27), (.bin .mul), [.t 25, .t 26], none, [0, 1]⟩,
 ⟨(some 28), .mov, [.t 10], none, []⟩,
 ⟨(some 29), (.px (.sh .shr)), [.t 28, .c (.int .u64 32)], none, [3]⟩,
 ⟨(some 30), (.bin .add), [.t 27, .t 29], none, [2, 4]⟩,
 ⟨(some 11), .mov, [.t 30], none, [5, 0, 1, 2, 3, 4, 5]⟩] false)
 (.seq
 (.region [⟨(some 31), .mov, [.t 11], none, []⟩,
 ⟨(some 32), (.px (.bit .and)), [.t 31, .c (.int .u64 4294967295)], none, [0]⟩,
 ⟨(some 12), .mov, [.t 32], none, [1, 0, 1]⟩] false)
 (.seq
 (.region [⟨(some 33), .mov, [.t 11], none, []⟩,
 ⟨(some 34), (.px (.sh .shr)), [.t 33, .c (.int .u64 32)], none, [0]⟩,
 ⟨(some 13), .mov, [.t 34], none, [1, 0, 1]⟩] false)
 (.seq
 (.region [⟨(some 35), .mov, [.t 12], none, []⟩,
 ⟨(some 36), .mov, [.t 6], none, []⟩,
 ⟨(some 37), .mov, [.t 9], none, []⟩,
 ⟨(some 38), (.bin .mul), [.t 36, .t 37], none, [1, 2]⟩,
 ⟨(some 39), (.bin .add), [.t 35, .t 38], none, [0, 3]⟩,
 ⟨(some 12), .mov, [.t 39], none, [4, 0, 1, 2, 3, 4]⟩] false)
 (.seq
 (.region [⟨(some 40), .mov, [.t 7], none, []⟩,
 ⟨(some 41), .mov, [.t 9], none, []⟩,
 ⟨(some 42), (.bin .mul), [.t 40, .t 41], none, [0, 1]⟩,
 ⟨(some 43), .mov, [.t 13], none, []⟩,
 ⟨(some 44), (.bin .add), [.t 42, .t 43], none, [2, 3]⟩,
 ⟨(some 45), .mov, [.t 12], none, []⟩,
 ⟨(some 46), (.px (.sh .shr)), [.t 45, .c (.int .u64 32)], none, [5]⟩,
 ⟨(some 47), (.bin .add), [.t 44, .t 46], none, [4, 6]⟩,
 ⟨(some 4), .mov, [.t 47], none, [7, 0, 1, 2, 3, 4, 5, 6, 7]⟩] false)
 (.seq
 (.region [⟨(some 48), .mov, [.t 0], none, []⟩,
 ⟨(some 49), .mov, [.t 1], none, []⟩,
 ⟨(some 50), (.bin .mul), [.t 48, .t 49], none, [0, 1]⟩,
 ⟨(some 5), .mov, [.t 50], none, [2, 0, 1, 2]⟩] false)
 .ret))))))))))))
def d102 : DFn := ⟨2, 51, [.tmp 4, .tmp 5], b102⟩
theorem body102 : d102.body = b102 := rfl
theorem res102 : d102.res = [.tmp 4, .tmp 5] := rfl
theorem k102 : chkFn Tryz.prog Tryz.f102 d102 = true := by kernel_rfl

/-- guidevane/lake.PermittedFor -/
def b18k0 : DCode :=
 (.region [⟨(some 55), (.load false 1), [.t 11], none, []⟩,
 ⟨(some 56), (.bin .add), [.t 55, .c (.int .i64 1)], none, [0]⟩,
 ⟨none, (.store 1), [.t 11, .t 56], none, [1, 0, 1]⟩] false)
def b18a0 : DCode :=
 (.seq
 (.region [⟨(some 12), .mov, [.t 47], none, []⟩] false)
 (.region [⟨(some 13), .mov, [.t 48], none, []⟩] false))
def b18r0 : DCode :=
 (.block 1
 (.seq
 (.seq
 (.region [⟨(some 49), .mov, [.t 12], none, []⟩,
 ⟨(some 50), (.un .not), [.t 49], none, [0]⟩,
 ⟨(some 51), .mov, [.t 50], none, [1]⟩,
 ⟨(some 52), .mov, [.t 13], (some (51, false)), [2]⟩,
 ⟨(some 53), (.pnil true), [.t 52, .c .nilp], (some (51, false)), [3, 2]⟩,
 ⟨(some 54), .pick, [.t 51, .c (.bool true), .t 53], none, [2, 4]⟩] false)
 (.cond (.t 54)
 (.exit 0)
 .skip))
 (.keep [11] [11] b18k0)))
def b18k1 : DCode :=
 (.seq
 (.region [⟨(some 57), (.load false 1), [.t 11], none, []⟩,
 ⟨(some 6), .mov, [.t 57], none, [0, 0]⟩,
 ⟨(some 7), .mov, [.c (.int .i64 0)], none, [1, 0, 1]⟩] false)
 .ret)
def b18k2 : DCode :=
 (.seq
 (.region [⟨(some 32), (.faddr 10 false 1), [.t 5], none, []⟩,
 ⟨(some 33), (.load false 1), [.t 32], none, [0]⟩,
 ⟨(some 34), (.faddr 10 false 1), [.t 5], none, []⟩,
 ⟨(some 35), (.load false 1), [.t 34], none, [2]⟩,
 ⟨(some 36), .len, [.t 35], none, [3]⟩,
 ⟨(some 37), (.bin .sub), [.t 36, .c (.int .i64 1)], none, [4]⟩,
 ⟨(some 38), (.slice 3 true false), [.t 33, .t 37], none, [1, 5]⟩,
 ⟨(some 39), .call, [.f 44, .t 38, .c (.int .i64 200)], none, [6]⟩,
 ⟨(some 10), .movv, [.t 39], none, [7, 7, 0, 1, 2, 3, 4, 5, 6, 7]⟩] false)
 (.seq
 (.region [⟨(some 11), (.alloc [(.imm (.int .i64 0))]), [], none, []⟩,
 ⟨none, (.store 1), [.t 11, .c (.int .i64 0)], none, [0, 0]⟩] false)
 (.seq
 (.seq
 (.region [⟨(some 40), (.load true 3), [.t 8], none, []⟩,
 ⟨(some 41), (.load true 2), [.t 4], none, []⟩,
 ⟨(some 42), (.faddr 0 true 10), [.t 5], none, []⟩,
 ⟨(some 43), (.load true 10), [.t 42], none, [2]⟩,
 ⟨(some 44), .movv, [.t 10], none, []⟩,
 ⟨(some 45), .call, [.f 32, .t 44], none, [4]⟩,
 ⟨(some 46), (.callb []), [.f 31, .t 40, .t 41, .t 43, .t 45], none, [0, 1, 3, 5, 5]⟩] true)
 (.block 0
 (.rangeF (.t 46) [47, 48] [11] [11] [1000] [11] b18a0 b18r0)))
 (.keep [11] [11] b18k1))))
def b18 : DCode :=
 (.seq
 (.region [⟨(some 3), .box, [.t 0], none, []⟩,
 ⟨(some 4), .box, [.t 1], none, []⟩,
 ⟨(some 5), .box, [.t 2], none, []⟩,
 ⟨(some 6), .mov, [.c (.int .i64 0)], none, []⟩,
 ⟨(some 7), .mov, [.c (.int .i64 0)], none, [3]⟩] false)
 (.seq
 (.region [⟨(some 15), (.load true 3), [.t 3], none, []⟩,
 ⟨(some 16), (.load true 2), [.t 4], none, []⟩,
 ⟨(some 17), (.load true 11), [.t 5], none, []⟩,
 ⟨(some 18), .call, [.f 30, .t 15, .t 16, .t 17], none, [0, 1, 2]⟩,
 ⟨(some 14), .mov, [.t 18], none, [3]⟩,
 ⟨(some 19), (.ext 0), [.t 14], none, [4]⟩,
 ⟨(some 20), (.ext 1), [.t 14], none, [4]⟩,
 ⟨(some 8), (.alloc [(.imm (.slc 2 [])), (.imm (.slc 2 [])), (.imm (.int .i64 0))]), [], none, []⟩,
 ⟨none, (.store 3), [.t 8, .t 19], none, [7, 5, 3, 0, 1, 2, 3, 4, 5, 7]⟩,
 ⟨(some 9), .mov, [.t 20], none, [6, 8, 0, 1, 2, 3, 4, 5, 6, 7, 8]⟩] false)
 (.seq
 (.seq
 (.region [⟨(some 21), .mov, [.t 9], none, []⟩,
 ⟨(some 22), (.faddr 10 false 1), [.t 5], none, []⟩,
 ⟨(some 23), (.load false 1), [.t 22], none, [1]⟩,
 ⟨(some 24), .len, [.t 23], none, [2]⟩,
 ⟨(some 25), (.bin .gtr), [.t 24, .c (.int .i64 0)], none, [3]⟩,
 ⟨(some 26), .call, [.f 43, .t 25, .c (.int .i64 10)], none, [4]⟩,
 ⟨(some 27), (.bsl 1), [.t 21, .t 26], none, [0, 5]⟩,
 ⟨(some 28), .call, [.f 42, .t 27], none, [6, 5]⟩,
 ⟨(some 9), .mov, [.t 28], none, [7, 7, 0, 1, 2, 3, 4, 5, 6, 7]⟩] false)
 (.seq
 (.region [⟨(some 29), .mov, [.t 9], none, []⟩,
 ⟨(some 30), (.bin .neq), [.t 29, .c (.int .i64 0)], none, [0]⟩] false)
 (.cond (.t 30)
 (.seq
 (.region [⟨(some 31), .mov, [.t 9], none, []⟩,
 ⟨(some 6), .mov, [.c (.int .i64 0)], none, []⟩,
 ⟨(some 7), .mov, [.t 31], none, [0, 1, 0, 1]⟩] false)
 .ret)
 .skip)))
 (.keep [4, 5, 8] [4, 5, 8] b18k2))))
def d18 : DFn := ⟨3, 58, [.tmp 6, .tmp 7], b18⟩
theorem body18 : d18.body = b18 := rfl
theorem res18 : d18.res = [.tmp 6, .tmp 7] := rfl
theorem k18 : chkFn Tryz.prog Tryz.f18 d18 = true := by kernel_rfl

/-- guidevane/guidevanelaw01.LakePermitted -/
def b4k0 : DCode :=
 (.seq
 (.region [⟨(some 56), .mov, [.t 8], none, []⟩,
 ⟨(some 57), (.bin .eql), [.t 56, .c (.int .i64 0)], none, [0]⟩,
 ⟨(some 58), .mov, [.t 57], none, [1]⟩,
 ⟨(some 59), .mov, [.t 7], (some (58, true)), [2]⟩,
 ⟨(some 60), (.load true 3), [.t 3], (some (58, true)), [2]⟩,
 ⟨(some 61), (.load true 2), [.t 4], (some (58, true)), [2]⟩,
 ⟨(some 62), (.load true 11), [.t 5], (some (58, true)), [2]⟩,
 ⟨(some 63), .call, [.f 19, .t 60, .t 61, .t 62], (some (58, true)), [4, 5, 6, 2, 2]⟩,
 ⟨(some 64), (.bin .eql), [.t 59, .t 63], (some (58, true)), [3, 7, 2]⟩,
 ⟨(some 65), .pick, [.t 58, .t 64, .c (.bool false)], none, [2, 8]⟩,
 ⟨(some 6), .mov, [.t 65], none, [9, 7, 0, 1, 2, 3, 4, 5, 6, 7, 8, 9]⟩] false)
 .ret)
def b4k1 : DCode :=
 (.seq
 (.seq
 (.region [⟨(some 47), .mov, [.t 9], none, []⟩,
 ⟨(some 48), (.bin .neq), [.t 47, .c (.int .i64 0)], none, [0]⟩] false)
 (.cond (.t 48)
 (.seq
 (.region [⟨(some 49), .mov, [.t 8], none, []⟩,
 ⟨(some 50), .mov, [.t 9], none, []⟩,
 ⟨(some 51), (.bin .eql), [.t 49, .t 50], none, [0, 1]⟩,
 ⟨(some 52), .mov, [.t 51], none, [2]⟩,
 ⟨(some 53), .mov, [.t 7], (some (52, true)), [3]⟩,
 ⟨(some 54), (.bin .eql), [.t 53, .c (.int .i64 0)], (some (52, true)), [4, 3]⟩,
 ⟨(some 55), .pick, [.t 52, .t 54, .c (.bool false)], none, [3, 5]⟩,
 ⟨(some 6), .mov, [.t 55], none, [6, 3, 0, 1, 2, 3, 4, 5, 6]⟩] false)
 .ret)
 .skip))
 (.keep [3, 4, 5, 7, 8] [3, 4, 5] b4k0))
def b4k2 : DCode :=
 (.seq
 (.seq
 (.region [⟨(some 39), .mov, [.t 9], none, []⟩,
 ⟨(some 40), (.bin .eql), [.t 39, .c (.int .i64 0)], none, [0]⟩,
 ⟨(some 41), .mov, [.t 40], none, [1]⟩,
 ⟨(some 42), (.faddr 10 false 1), [.t 5], (some (41, true)), [2]⟩,
 ⟨(some 43), (.load false 1), [.t 42], (some (41, true)), [3, 2]⟩,
 ⟨(some 44), .len, [.t 43], (some (41, true)), [4, 2]⟩,
 ⟨(some 45), (.bin .eql), [.t 44, .c (.int .i64 0)], (some (41, true)), [5, 2]⟩,
 ⟨(some 46), .pick, [.t 41, .t 45, .c (.bool false)], none, [2, 6]⟩] false)
 (.cond (.t 46)
 (.region [⟨(some 9), .mov, [.c (.int .i64 10)], none, []⟩] false)
 .skip))
 (.keep [3, 4, 5, 7, 8, 9] [3, 4, 5] b4k1))
def b4k3 : DCode :=
 (.seq
 (.region [⟨(some 23), (.load true 3), [.t 3], none, []⟩,
 ⟨(some 24), .call, [.f 10, .t 23], none, [0]⟩,
 ⟨(some 25), (.load true 2), [.t 4], none, []⟩,
 ⟨(some 26), (.load true 11), [.t 5], none, []⟩,
 ⟨(some 27), .call, [.f 11, .t 26], none, [3, 1]⟩,
 ⟨(some 28), .call, [.f 18, .t 24, .t 25, .t 27], none, [1, 2, 4, 4]⟩,
 ⟨(some 22), .mov, [.t 28], none, [5]⟩,
 ⟨(some 29), (.ext 0), [.t 22], none, [6]⟩,
 ⟨(some 30), (.ext 1), [.t 22], none, [6]⟩,
 ⟨(some 7), .mov, [.t 29], none, [7, 5, 0, 1, 2, 3, 4, 5, 6, 7]⟩,
 ⟨(some 8), .mov, [.t 30], none, [8, 9, 0, 1, 2, 3, 4, 5, 6, 7, 8, 9]⟩] true)
 (.seq
 (.region [⟨(some 31), (.load true 3), [.t 3], none, []⟩,
 ⟨(some 32), (.load true 2), [.t 4], none, []⟩,
 ⟨(some 33), .call, [.f 15, .t 31, .t 32], none, [0, 1]⟩,
 ⟨(some 9), .mov, [.t 33], none, [2, 2, 0, 1, 2]⟩] false)
 (.seq
 (.seq
 (.region [⟨(some 34), .mov, [.t 9], none, []⟩,
 ⟨(some 35), (.bin .eql), [.t 34, .c (.int .i64 0)], none, [0]⟩] false)
 (.cond (.t 35)
 (.region [⟨(some 36), (.load true 3), [.t 3], none, []⟩,
 ⟨(some 37), (.load true 11), [.t 5], none, []⟩,
 ⟨(some 38), .call, [.f 16, .t 36, .t 37], none, [0, 1]⟩,
 ⟨(some 9), .mov, [.t 38], none, [2, 2, 0, 1, 2]⟩] false)
 .skip))
 (.keep [3, 4, 5, 7, 8, 9] [3, 4, 5] b4k2))))
def b4k4 : DCode :=
 (.seq
 (.seq
 (.region [⟨(some 12), (.load true 3), [.t 3], none, []⟩,
 ⟨(some 13), .call, [.f 7, .t 12], none, [0]⟩,
 ⟨(some 14), (.un .not), [.t 13], none, [1]⟩,
 ⟨(some 15), .mov, [.t 14], none, [2, 1]⟩,
 ⟨(some 16), (.faddr 10 false 1), [.t 5], (some (15, false)), [3]⟩,
 ⟨(some 17), (.load false 1), [.t 16], (some (15, false)), [4, 3]⟩,
 ⟨(some 18), .len, [.t 17], (some (15, false)), [5, 3]⟩,
 ⟨(some 19), .call, [.f 8, .t 18], (some (15, false)), [6, 3, 3]⟩,
 ⟨(some 20), (.un .not), [.t 19], (some (15, false)), [7, 3]⟩,
 ⟨(some 21), .pick, [.t 15, .c (.bool true), .t 20], none, [3, 8]⟩] false)
 (.cond (.t 21)
 (.seq
 (.region [⟨(some 6), .mov, [.c (.bool true)], none, []⟩] false)
 .ret)
 .skip))
 (.keep [3, 4, 5] [3, 4, 5] b4k3))
def b4 : DCode :=
 (.seq
 (.region [⟨(some 3), .box, [.t 0], none, []⟩,
 ⟨(some 4), .box, [.t 1], none, []⟩,
 ⟨(some 5), .box, [.t 2], none, []⟩,
 ⟨(some 6), .mov, [.c (.bool false)], none, []⟩] false)
 (.seq
 (.seq
 (.region [⟨(some 10), .call, [.f 6], none, []⟩,
 ⟨(some 11), (.un .not), [.t 10], none, [0]⟩] false)
 (.cond (.t 11)
 (.seq
 (.region [⟨(some 6), .mov, [.c (.bool false)], none, []⟩] false)
 .ret)
 .skip))
 (.keep [3, 4, 5] [3, 4, 5] b4k4)))
def d4 : DFn := ⟨3, 66, [.tmp 6], b4⟩
theorem k4 : chkFn Tryz.prog Tryz.f4 d4 = true := by kernel_rfl

end Go.DI

