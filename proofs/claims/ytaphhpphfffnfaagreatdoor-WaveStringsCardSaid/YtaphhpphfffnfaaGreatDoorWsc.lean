/- The functions of the strings of lines, as data. No condition. -/
import Derived.Test.YtaphhpphfffnfaaGreatDoorWsGe
import Derived.Test.YtaphhpphfffnfaaGreatDoorProg
import Derived.KernelRfl
namespace Go.DI
open Go.Proofs Go.RowKit
/-- guidevane/wave.FormatLine -/
def b12k0 : DCode :=
 (.region [⟨(some 28), .mov, [.t 3], none, []⟩,
 ⟨(some 29), .mov, [.t 6], none, []⟩,
 ⟨(some 30), .call, [.f 95, .t 29], none, [1]⟩,
 ⟨(some 31), (.bsl 1), [.t 30], none, [2]⟩,
 ⟨(some 32), (.append 1 16 false), [.t 28, .t 31], none, [0, 3, 2]⟩,
 ⟨(some 3), .mov, [.t 32], none, [4, 4, 0, 1, 2, 3, 4]⟩] false)
def b12k1 : DCode :=
 (.region [⟨(some 33), .mov, [.t 3], none, []⟩,
 ⟨(some 34), (.faddr 0 false 1), [.t 5], none, []⟩,
 ⟨(some 35), (.load false 1), [.t 34], none, [1]⟩,
 ⟨(some 36), .call, [.f 95, .t 35], none, [2]⟩,
 ⟨(some 37), (.bin .add), [.t 36, .c (.str ⟨#[120]⟩)], none, [3]⟩,
 ⟨(some 38), (.faddr 1 false 1), [.t 5], none, []⟩,
 ⟨(some 39), (.load false 1), [.t 38], none, [5]⟩,
 ⟨(some 40), .call, [.f 95, .t 39], none, [6, 3]⟩,
 ⟨(some 41), (.bin .add), [.t 37, .t 40], none, [4, 7]⟩,
 ⟨(some 42), (.bsl 1), [.t 41], none, [8]⟩,
 ⟨(some 43), (.append 1 16 false), [.t 33, .t 42], none, [0, 9, 7]⟩,
 ⟨(some 3), .mov, [.t 43], none, [10, 10, 0, 1, 2, 3, 4, 5, 6, 7, 8, 9, 10]⟩] true)
def b12k2 : DCode :=
 (.region [⟨(some 44), (.bin .add), [.t 10, .c (.int .i64 1)], none, []⟩,
 ⟨(some 10), .mov, [.t 44], none, [0]⟩] false)
def b12k3 : DCode :=
 (.seq
 (.block 1
 (.seq
 (.region [⟨(some 12), .mov, [.t 10], none, []⟩,
 ⟨(some 13), (.iaddr 2), [.t 8, .t 10], none, []⟩,
 ⟨(some 14), (.load true 2), [.t 13], none, [1]⟩,
 ⟨(some 5), (.alloc [(.imm (.int .i64 0)), (.imm (.int .i64 0))]), [], none, []⟩,
 ⟨(some 4), .mov, [.t 12], none, [0, 0, 1, 2, 3]⟩,
 ⟨none, (.store 2), [.t 5, .t 14], none, [3, 2, 4, 0, 1, 2, 3, 4]⟩] false)
 (.seq
 (.seq
 (.region [⟨(some 15), .mov, [.t 4], none, []⟩,
 ⟨(some 16), (.bin .gtr), [.t 15, .c (.int .i64 0)], none, [0]⟩] false)
 (.cond (.t 16)
 (.seq
 (.region [⟨(some 6), .mov, [.c (.int .i64 0)], none, []⟩] false)
 (.seq
 (.seq
 (.region [⟨(some 17), .mov, [.t 4], none, []⟩,
 ⟨(some 18), (.faddr 1 false 1), [.t 1], none, []⟩,
 ⟨(some 19), (.load false 1), [.t 18], none, [1]⟩,
 ⟨(some 20), .len, [.t 19], none, [2]⟩,
 ⟨(some 21), (.bin .leq), [.t 17, .t 20], none, [0, 3]⟩] false)
 (.cond (.t 21)
 (.region [⟨(some 22), (.faddr 1 false 1), [.t 1], none, []⟩,
 ⟨(some 23), (.load false 1), [.t 22], none, [0]⟩,
 ⟨(some 24), .mov, [.t 4], none, []⟩,
 ⟨(some 25), (.bin .sub), [.t 24, .c (.int .i64 1)], none, [2]⟩,
 ⟨(some 26), (.iaddr 1), [.t 23, .t 25], none, [1, 3]⟩,
 ⟨(some 27), (.load false 1), [.t 26], none, [4]⟩,
 ⟨(some 6), .mov, [.t 27], none, [5, 0, 1, 2, 3, 4, 5]⟩] false)
 .skip))
 (.keep [1, 3, 5, 6, 8, 9, 10] [1, 3, 5, 32, 43] b12k0)))
 .skip))
 (.keep [1, 3, 5, 8, 9, 10] [1, 3, 5, 32, 43] b12k1))))
 (.keep [1, 3, 8, 9, 10] [1, 3, 32, 43] b12k2))
def b12l0 : DCode := .keep [1, 3, 8, 9, 10] [1, 3, 32, 43]
 (.seq
 (.region [⟨(some 11), (.bin .lss), [.t 10, .t 9], none, []⟩] false)
 (.seq
 (.cond (.t 11)
 .skip
 (.exit 0))
 (.keep [1, 3, 8, 9, 10] [1, 3, 32, 43] b12k3)))
def b12k4 : DCode :=
 (.seq
 (.region [⟨(some 45), .movv, [.t 3], none, []⟩,
 ⟨(some 46), .call, [.f 96, .t 45, .c (.str ⟨#[32]⟩)], none, [0]⟩,
 ⟨(some 2), .mov, [.t 46], none, [1, 1, 0, 1]⟩] false)
 .ret)
def b12 : DCode :=
 (.seq
 (.region [⟨(some 1), .box, [.t 0], none, []⟩,
 ⟨(some 2), .mov, [.c (.str ⟨#[]⟩)], none, []⟩] false)
 (.seq
 (.region [⟨(some 3), (.ntok 1), [.c (.slc 1 [])], none, []⟩] false)
 (.seq
 (.seq
 (.region [⟨(some 7), (.faddr 0 false 1), [.t 1], none, []⟩,
 ⟨(some 8), (.load false 1), [.t 7], none, [0]⟩,
 ⟨(some 9), .len, [.t 8], none, [1]⟩,
 ⟨(some 10), .mov, [.c (.int .i64 0)], none, []⟩] false)
 (.block 0
 (.loop b12l0)))
 (.keep [3] [3, 32, 43] b12k4))))
def d12 : DFn := ⟨1, 47, [.tmp 2], b12⟩
theorem body12 : d12.body = b12 := rfl
theorem res12 : d12.res = [.tmp 2] := rfl
theorem k12 : chkFn Tryz.prog Tryz.f12 d12 = true := by kernel_rfl

/-- guidevane/wave.ParseLine -/
def b14k0 : DCode :=
 (.seq
 (.region [⟨(some 52), .mov, [.t 8], none, []⟩,
 ⟨(some 53), .call, [.f 99, .t 52, .c (.str ⟨#[120]⟩)], none, [0]⟩,
 ⟨(some 51), .mov, [.t 53], none, [1]⟩,
 ⟨(some 54), (.ext 0), [.t 51], none, [2]⟩,
 ⟨(some 55), (.ext 1), [.t 51], none, [2]⟩,
 ⟨(some 56), (.ext 2), [.t 51], none, [2]⟩,
 ⟨(some 11), .mov, [.t 54], none, [3, 1, 0, 1, 2, 3]⟩,
 ⟨(some 12), .mov, [.t 55], none, [4, 6, 0, 1, 2, 3, 4, 6]⟩,
 ⟨(some 13), .mov, [.t 56], none, [5, 7, 0, 1, 2, 3, 4, 5, 6, 7]⟩] false)
 (.seq
 (.region [⟨(some 58), .mov, [.t 11], none, []⟩,
 ⟨(some 59), .call, [.f 98, .t 58], none, [0]⟩,
 ⟨(some 57), .mov, [.t 59], none, [1]⟩,
 ⟨(some 60), (.ext 0), [.t 57], none, [2]⟩,
 ⟨(some 61), (.ext 1), [.t 57], none, [2]⟩,
 ⟨(some 14), .mov, [.t 60], none, [3, 1, 0, 1, 2, 3]⟩,
 ⟨(some 15), .mov, [.t 61], none, [4, 5, 0, 1, 2, 3, 4, 5]⟩] false)
 (.seq
 (.region [⟨(some 63), .mov, [.t 12], none, []⟩,
 ⟨(some 64), .call, [.f 98, .t 63], none, [0]⟩,
 ⟨(some 62), .mov, [.t 64], none, [1]⟩,
 ⟨(some 65), (.ext 0), [.t 62], none, [2]⟩,
 ⟨(some 66), (.ext 1), [.t 62], none, [2]⟩,
 ⟨(some 16), .mov, [.t 65], none, [3, 1, 0, 1, 2, 3]⟩,
 ⟨(some 17), .mov, [.t 66], none, [4, 5, 0, 1, 2, 3, 4, 5]⟩] false)
 (.region [⟨(some 67), (.faddr 0 false 1), [.t 6], none, []⟩,
 ⟨(some 68), (.load false 1), [.t 67], none, [0]⟩,
 ⟨(some 69), .mov, [.t 14], none, []⟩,
 ⟨(some 70), .mov, [.t 16], none, []⟩,
 ⟨(some 71), (.build [(.imm (.int .i64 0)), (.imm (.int .i64 0))] [(0, 1), (1, 1)]), [.t 69, .t 70], none, [2, 3]⟩,
 ⟨(some 72), (.bsl 2), [.t 71], none, [4]⟩,
 ⟨(some 73), (.append 2 16 false), [.t 68, .t 72], none, [1, 5]⟩,
 ⟨(some 74), .mov, [.t 5], none, []⟩,
 ⟨(some 75), .mov, [.t 74], none, [7, 6]⟩,
 ⟨(some 76), .mov, [.t 13], (some (75, true)), [8]⟩,
 ⟨(some 77), .pick, [.t 75, .t 76, .c (.bool false)], none, [8, 9]⟩,
 ⟨(some 78), .mov, [.t 77], none, [10, 8]⟩,
 ⟨(some 79), .mov, [.t 15], (some (78, true)), [11]⟩,
 ⟨(some 80), .pick, [.t 78, .t 79, .c (.bool false)], none, [11, 12]⟩,
 ⟨(some 81), .mov, [.t 80], none, [13, 11]⟩,
 ⟨(some 82), .mov, [.t 17], (some (81, true)), [14]⟩,
 ⟨(some 83), .pick, [.t 81, .t 82, .c (.bool false)], none, [14, 15]⟩,
 ⟨(some 84), (.faddr 0 false 1), [.t 6], none, [0, 1, 2, 3, 4, 5, 6]⟩,
 ⟨none, (.store 1), [.t 84, .t 73], none, [17, 6, 14, 0, 1, 2, 3, 4, 5, 6]⟩,
 ⟨(some 5), .mov, [.t 83], none, [16, 18, 0, 1, 2, 3, 4, 5, 6, 7, 8, 9, 10, 11, 12, 13, 14, 15, 16, 17, 18]⟩] false))))
def b14k1 : DCode :=
 (.region [⟨(some 85), (.bin .add), [.t 28, .c (.int .i64 1)], none, []⟩,
 ⟨(some 28), .mov, [.t 85], none, [0]⟩] false)
def b14k2 : DCode :=
 (.seq
 (.block 1
 (.seq
 (.region [⟨(some 30), .mov, [.t 28], none, []⟩,
 ⟨(some 31), (.iaddr 1), [.t 26, .t 28], none, []⟩,
 ⟨(some 32), (.load false 1), [.t 31], none, [1]⟩,
 ⟨(some 7), .mov, [.t 30], none, [0, 0, 1, 2]⟩,
 ⟨(some 8), .mov, [.t 32], none, [2, 3, 0, 1, 2, 3]⟩] false)
 (.seq
 (.seq
 (.region [⟨(some 33), .mov, [.t 7], none, []⟩,
 ⟨(some 34), (.bin .rem), [.t 33, .c (.int .i64 2)], none, [0]⟩,
 ⟨(some 35), (.bin .eql), [.t 34, .c (.int .i64 1)], none, [1]⟩] false)
 (.cond (.t 35)
 (.seq
 (.region [⟨(some 37), .mov, [.t 8], none, []⟩,
 ⟨(some 38), .call, [.f 98, .t 37], none, [0]⟩,
 ⟨(some 36), .mov, [.t 38], none, [1]⟩,
 ⟨(some 39), (.ext 0), [.t 36], none, [2]⟩,
 ⟨(some 40), (.ext 1), [.t 36], none, [2]⟩,
 ⟨(some 9), .mov, [.t 39], none, [3, 1, 0, 1, 2, 3]⟩,
 ⟨(some 10), .mov, [.t 40], none, [4, 5, 0, 1, 2, 3, 4, 5]⟩] false)
 (.seq
 (.region [⟨(some 41), (.faddr 1 false 1), [.t 6], none, []⟩,
 ⟨(some 42), (.load false 1), [.t 41], none, [0]⟩,
 ⟨(some 43), .mov, [.t 9], none, []⟩,
 ⟨(some 44), (.bsl 1), [.t 43], none, [2]⟩,
 ⟨(some 45), (.append 1 8 false), [.t 42, .t 44], none, [1, 3]⟩,
 ⟨(some 46), .mov, [.t 5], none, []⟩,
 ⟨(some 47), .mov, [.t 46], none, [5, 4]⟩,
 ⟨(some 48), .mov, [.t 10], (some (47, true)), [6]⟩,
 ⟨(some 49), .pick, [.t 47, .t 48, .c (.bool false)], none, [6, 7]⟩,
 ⟨(some 50), (.faddr 1 false 1), [.t 6], none, [0, 1, 2, 3, 4]⟩,
 ⟨none, (.store 1), [.t 50, .t 45], none, [9, 4, 6, 0, 1, 2, 3, 4]⟩,
 ⟨(some 5), .mov, [.t 49], none, [8, 10, 0, 1, 2, 3, 4, 5, 6, 7, 8, 9, 10]⟩] false)
 (.exit 1)))
 .skip))
 (.keep [2, 5, 6, 8, 26, 27, 28] [2, 6, 45, 73, 1006, 1007] b14k0))))
 (.keep [2, 5, 6, 26, 27, 28] [2, 6, 45, 73, 1006, 1007] b14k1))
def b14l0 : DCode := .keep [2, 5, 6, 26, 27, 28] [2, 6, 45, 73, 1006, 1007]
 (.seq
 (.region [⟨(some 29), (.bin .lss), [.t 28, .t 27], none, []⟩] false)
 (.seq
 (.cond (.t 29)
 .skip
 (.exit 0))
 (.keep [2, 5, 6, 26, 27, 28] [2, 6, 45, 73, 1006, 1007] b14k2)))
def b14k3 : DCode :=
 (.seq
 (.region [⟨(some 98), (.load true 2), [.t 6], none, []⟩,
 ⟨none, (.store 2), [.t 2, .t 98], none, [0, 0]⟩,
 ⟨(some 3), .mov, [.c (.int .i64 0)], none, [1, 0, 1]⟩] false)
 .ret)
def b14k4 : DCode :=
 (.seq
 (.seq
 (.region [⟨(some 90), (.load true 2), [.t 6], none, []⟩,
 ⟨(some 91), .call, [.f 100, .t 90], none, [0]⟩,
 ⟨(some 89), .mov, [.t 91], none, [1]⟩,
 ⟨(some 92), (.ext 0), [.t 89], none, [2]⟩,
 ⟨(some 93), (.ext 1), [.t 89], none, [2]⟩,
 ⟨(some 18), .mov, [.t 92], none, [3, 1, 0, 1, 2, 3]⟩,
 ⟨(some 19), .mov, [.t 93], none, [4, 5, 0, 1, 2, 3, 4, 5]⟩] false)
 (.seq
 (.region [⟨(some 94), .mov, [.t 19], none, []⟩,
 ⟨(some 95), (.bin .neq), [.t 94, .c (.int .i64 0)], none, [0]⟩] false)
 (.cond (.t 95)
 (.seq
 (.region [⟨(some 96), (.build [(.imm (.slc 2 [])), (.imm (.slc 1 []))] []), [], none, []⟩,
 ⟨(some 97), .mov, [.t 19], none, []⟩,
 ⟨none, (.store 2), [.t 2, .t 96], none, [0, 0]⟩,
 ⟨(some 3), .mov, [.t 97], none, [1, 2, 0, 1, 2]⟩] false)
 .ret)
 .skip)))
 (.keep [2, 6] [2, 6, 45, 73, 1006, 1007] b14k3))
def b14k5 : DCode :=
 (.seq
 (.seq
 (.region [⟨(some 86), .mov, [.t 5], none, []⟩,
 ⟨(some 87), (.un .not), [.t 86], none, [0]⟩] false)
 (.cond (.t 87)
 (.seq
 (.region [⟨(some 88), (.build [(.imm (.slc 2 [])), (.imm (.slc 1 []))] []), [], none, []⟩,
 ⟨none, (.store 2), [.t 2, .t 88], none, [0, 0]⟩,
 ⟨(some 3), .mov, [.c (.int .i64 7)], none, [1, 0, 1]⟩] false)
 .ret)
 .skip))
 (.keep [2, 6] [2, 6, 45, 73, 1006, 1007] b14k4))
def b14 : DCode :=
 (.seq
 (.region [⟨(some 2), (.alloc [(.imm (.slc 2 [])), (.imm (.slc 1 []))]), [], none, []⟩,
 ⟨(some 3), .mov, [.c (.int .i64 0)], none, []⟩] false)
 (.seq
 (.region [⟨(some 20), .mov, [.t 0], none, []⟩,
 ⟨(some 21), .call, [.f 97, .t 20, .c (.str ⟨#[32]⟩)], none, [0]⟩,
 ⟨(some 4), .movv, [.t 21], none, [1, 1, 0, 1]⟩] false)
 (.seq
 (.region [⟨(some 22), .movv, [.t 4], none, []⟩,
 ⟨(some 23), .len, [.t 22], none, [0]⟩,
 ⟨(some 24), (.bin .rem), [.t 23, .c (.int .i64 2)], none, [1]⟩,
 ⟨(some 25), (.bin .eql), [.t 24, .c (.int .i64 1)], none, [2]⟩,
 ⟨(some 5), .mov, [.t 25], none, [3, 0, 1, 2, 3]⟩] false)
 (.seq
 (.region [⟨(some 6), (.alloc [(.cap0 2 []), (.cap0 1 [])]), [], none, []⟩] false)
 (.mktok 6 0 1006 2
 (.mktok 6 1 1007 1
 (.seq
 (.seq
 (.region [⟨(some 26), .movv, [.t 4], none, []⟩,
 ⟨(some 27), .len, [.t 26], none, [0]⟩,
 ⟨(some 28), .mov, [.c (.int .i64 0)], none, []⟩] false)
 (.block 0
 (.loop b14l0)))
 (.keep [2, 5, 6] [2, 6, 45, 73, 1006, 1007] b14k5))))))))
def d14 : DFn := ⟨1, 99, [.cell 2 true 2, .tmp 3], b14⟩
theorem body14 : d14.body = b14 := rfl
theorem res14 : d14.res = [.cell 2 true 2, .tmp 3] := rfl
theorem k14 : chkFn Tryz.prog Tryz.f14 d14 = true := by kernel_rfl

/-- guidevane/wave.number -/
def b98 : DCode :=
 (.seq
 (.region [⟨(some 2), .mov, [.c (.int .i64 0)], none, []⟩,
 ⟨(some 3), .mov, [.c (.bool false)], none, [0]⟩] false)
 (.seq
 (.region [⟨(some 7), .mov, [.t 0], none, []⟩,
 ⟨(some 8), .call, [.f 109, .t 7], none, [0]⟩,
 ⟨(some 6), .mov, [.t 8], none, [1]⟩,
 ⟨(some 9), (.ext 0), [.t 6], none, [2]⟩,
 ⟨(some 10), (.ext 1), [.t 6], none, [2]⟩,
 ⟨(some 4), .mov, [.t 9], none, [3, 1, 0, 1, 2, 3]⟩,
 ⟨(some 5), .mov, [.t 10], none, [4, 5, 0, 1, 2, 3, 4, 5]⟩] false)
 (.seq
 (.region [⟨(some 11), .mov, [.t 4], none, []⟩,
 ⟨(some 12), .mov, [.t 5], none, []⟩,
 ⟨(some 13), (.inil false), [.t 12, .c .nili], none, [1]⟩,
 ⟨(some 14), .mov, [.t 13], none, [2]⟩,
 ⟨(some 15), .mov, [.t 4], (some (14, true)), [3]⟩,
 ⟨(some 16), (.bin .geq), [.t 15, .c (.int .i64 0)], (some (14, true)), [4, 3]⟩,
 ⟨(some 17), .pick, [.t 14, .t 16, .c (.bool false)], none, [3, 5]⟩,
 ⟨(some 18), .mov, [.t 17], none, [6, 3]⟩,
 ⟨(some 19), .mov, [.t 4], (some (18, true)), [7]⟩,
 ⟨(some 20), .call, [.f 95, .t 19], (some (18, true)), [8, 7, 7]⟩,
 ⟨(some 21), .mov, [.t 0], (some (18, true)), [7]⟩,
 ⟨(some 22), (.bin .eql), [.t 20, .t 21], (some (18, true)), [9, 10, 7]⟩,
 ⟨(some 23), .pick, [.t 18, .t 22, .c (.bool false)], none, [7, 11]⟩,
 ⟨(some 24), .mov, [.t 23], none, [12, 9]⟩,
 ⟨(some 25), .mov, [.t 0], (some (24, true)), [13]⟩,
 ⟨(some 26), .slen, [.t 25], (some (24, true)), [14, 13]⟩,
 ⟨(some 27), (.bin .leq), [.t 26, .c (.int .i64 3)], (some (24, true)), [15, 13]⟩,
 ⟨(some 28), .pick, [.t 24, .t 27, .c (.bool false)], none, [13, 16]⟩,
 ⟨(some 2), .mov, [.t 11], none, [0, 13, 0]⟩,
 ⟨(some 3), .mov, [.t 28], none, [17, 18, 0, 1, 2, 3, 4, 5, 6, 7, 8, 9, 10, 11, 12, 13, 14, 15, 16, 17, 18]⟩] false)
 .ret)))
def d98 : DFn := ⟨1, 29, [.tmp 2, .tmp 3], b98⟩
theorem body98 : d98.body = b98 := rfl
theorem res98 : d98.res = [.tmp 2, .tmp 3] := rfl
theorem k98 : chkFn Tryz.prog Tryz.f98 d98 = true := by kernel_rfl

/-- guidevane/guidevaneref03.FormatLine -/
def b16k0 : DCode :=
 (.region [⟨(some 27), .mov, [.t 3], none, []⟩,
 ⟨(some 28), (.bin .add), [.t 27, .c (.str ⟨#[32]⟩)], none, [0]⟩,
 ⟨(some 29), .mov, [.t 5], none, []⟩,
 ⟨(some 30), .call, [.f 103, .t 29], none, [2]⟩,
 ⟨(some 31), (.bin .add), [.t 28, .t 30], none, [1, 3]⟩,
 ⟨(some 32), (.bin .add), [.t 31, .c (.str ⟨#[32]⟩)], none, [4]⟩,
 ⟨(some 3), .mov, [.t 32], none, [5, 3, 0, 1, 2, 3, 4, 5]⟩] false)
def b16k1 : DCode :=
 (.region [⟨(some 33), .mov, [.t 3], none, []⟩,
 ⟨(some 34), (.faddr 0 false 1), [.t 1], none, []⟩,
 ⟨(some 35), (.load false 1), [.t 34], none, [1]⟩,
 ⟨(some 36), .mov, [.t 4], none, []⟩,
 ⟨(some 37), (.iaddr 2), [.t 35, .t 36], none, [2, 3]⟩,
 ⟨(some 38), (.faddr 0 false 1), [.t 37], none, [4]⟩,
 ⟨(some 39), (.load false 1), [.t 38], none, [5]⟩,
 ⟨(some 40), .call, [.f 103, .t 39], none, [6]⟩,
 ⟨(some 41), (.bin .add), [.t 33, .t 40], none, [0, 7]⟩,
 ⟨(some 42), (.bin .add), [.t 41, .c (.str ⟨#[120]⟩)], none, [8]⟩,
 ⟨(some 43), (.faddr 0 false 1), [.t 1], none, []⟩,
 ⟨(some 44), (.load false 1), [.t 43], none, [10]⟩,
 ⟨(some 45), .mov, [.t 4], none, []⟩,
 ⟨(some 46), (.iaddr 2), [.t 44, .t 45], none, [11, 12]⟩,
 ⟨(some 47), (.faddr 1 false 1), [.t 46], none, [13]⟩,
 ⟨(some 48), (.load false 1), [.t 47], none, [14]⟩,
 ⟨(some 49), .call, [.f 103, .t 48], none, [15, 7]⟩,
 ⟨(some 50), (.bin .add), [.t 42, .t 49], none, [9, 16]⟩,
 ⟨(some 3), .mov, [.t 50], none, [17, 16, 0, 1, 2, 3, 4, 5, 6, 7, 8, 9, 10, 11, 12, 13, 14, 15, 16, 17]⟩] true)
def b16k2 : DCode :=
 (.region [⟨(some 11), .mov, [.t 4], none, []⟩,
 ⟨(some 12), (.bin .add), [.t 11, .c (.int .i64 1)], none, [0]⟩,
 ⟨(some 4), .mov, [.t 12], none, [1, 0, 1]⟩] false)
def b16k3 : DCode :=
 (.seq
 (.block 1
 (.seq
 (.seq
 (.region [⟨(some 13), .mov, [.t 4], none, []⟩,
 ⟨(some 14), (.bin .gtr), [.t 13, .c (.int .i64 0)], none, [0]⟩] false)
 (.cond (.t 14)
 (.seq
 (.region [⟨(some 5), .mov, [.c (.int .i64 0)], none, []⟩] false)
 (.seq
 (.seq
 (.region [⟨(some 15), .mov, [.t 4], none, []⟩,
 ⟨(some 16), (.bin .sub), [.t 15, .c (.int .i64 1)], none, [0]⟩,
 ⟨(some 17), (.faddr 1 false 1), [.t 1], none, []⟩,
 ⟨(some 18), (.load false 1), [.t 17], none, [2]⟩,
 ⟨(some 19), .len, [.t 18], none, [3]⟩,
 ⟨(some 20), (.bin .lss), [.t 16, .t 19], none, [1, 4]⟩] false)
 (.cond (.t 20)
 (.region [⟨(some 21), (.faddr 1 false 1), [.t 1], none, []⟩,
 ⟨(some 22), (.load false 1), [.t 21], none, [0]⟩,
 ⟨(some 23), .mov, [.t 4], none, []⟩,
 ⟨(some 24), (.bin .sub), [.t 23, .c (.int .i64 1)], none, [2]⟩,
 ⟨(some 25), (.iaddr 1), [.t 22, .t 24], none, [1, 3]⟩,
 ⟨(some 26), (.load false 1), [.t 25], none, [4]⟩,
 ⟨(some 5), .mov, [.t 26], none, [5, 0, 1, 2, 3, 4, 5]⟩] false)
 .skip))
 (.keep [1, 3, 4, 5] [1] b16k0)))
 .skip))
 (.keep [1, 3, 4] [1] b16k1)))
 (.keep [1, 3, 4] [1] b16k2))
def b16l0 : DCode := .keep [1, 3, 4] [1]
 (.seq
 (.seq
 (.region [⟨(some 6), .mov, [.t 4], none, []⟩,
 ⟨(some 7), (.faddr 0 false 1), [.t 1], none, []⟩,
 ⟨(some 8), (.load false 1), [.t 7], none, [1]⟩,
 ⟨(some 9), .len, [.t 8], none, [2]⟩,
 ⟨(some 10), (.bin .lss), [.t 6, .t 9], none, [0, 3]⟩] false)
 (.cond (.t 10)
 .skip
 (.exit 0)))
 (.keep [1, 3, 4] [1] b16k3))
def b16k4 : DCode :=
 (.seq
 (.region [⟨(some 51), .mov, [.t 3], none, []⟩,
 ⟨(some 2), .mov, [.t 51], none, [0, 0]⟩] false)
 .ret)
def b16 : DCode :=
 (.seq
 (.region [⟨(some 1), .box, [.t 0], none, []⟩,
 ⟨(some 2), .mov, [.c (.str ⟨#[]⟩)], none, []⟩] false)
 (.seq
 (.region [⟨(some 3), .mov, [.c (.str ⟨#[]⟩)], none, []⟩] false)
 (.seq
 (.seq
 (.region [⟨(some 4), .mov, [.c (.int .i64 0)], none, []⟩] false)
 (.block 0
 (.loop b16l0)))
 (.keep [3] [] b16k4))))
def d16 : DFn := ⟨1, 52, [.tmp 2], b16⟩
theorem body16 : d16.body = b16 := rfl
theorem res16 : d16.res = [.tmp 2] := rfl
theorem k16 : chkFn Tryz.prog Tryz.f16 d16 = true := by kernel_rfl

/-- guidevane/guidevaneref03.ParseLine -/
def b15k0 : DCode :=
 (.seq
 (.region [⟨(some 42), (.faddr 1 false 1), [.t 5], none, []⟩,
 ⟨(some 43), (.load false 1), [.t 42], none, [0]⟩,
 ⟨(some 44), .mov, [.t 7], none, []⟩,
 ⟨(some 45), (.bsl 1), [.t 44], none, [2]⟩,
 ⟨(some 46), (.append 1 8 false), [.t 43, .t 45], none, [1, 3]⟩,
 ⟨(some 47), (.faddr 1 false 1), [.t 5], none, [0, 1, 2, 3, 4]⟩,
 ⟨none, (.store 1), [.t 47, .t 46], none, [5, 4, 4, 0, 1, 2, 3, 4]⟩] false)
 (.exit 1))
def b15k1 : DCode :=
 (.region [⟨(some 78), (.faddr 0 false 1), [.t 5], none, []⟩,
 ⟨(some 79), (.load false 1), [.t 78], none, [0]⟩,
 ⟨(some 80), .mov, [.t 10], none, []⟩,
 ⟨(some 81), .mov, [.t 12], none, []⟩,
 ⟨(some 82), (.build [(.imm (.int .i64 0)), (.imm (.int .i64 0))] [(0, 1), (1, 1)]), [.t 80, .t 81], none, [2, 3]⟩,
 ⟨(some 83), (.bsl 2), [.t 82], none, [4]⟩,
 ⟨(some 84), (.append 2 16 false), [.t 79, .t 83], none, [1, 5]⟩,
 ⟨(some 85), (.faddr 0 false 1), [.t 5], none, [0, 1, 2, 3, 4, 5, 6]⟩,
 ⟨none, (.store 1), [.t 85, .t 84], none, [7, 6, 6, 0, 1, 2, 3, 4, 5, 6]⟩] false)
def b15k2 : DCode :=
 (.seq
 (.region [⟨(some 58), .movv, [.t 9], none, []⟩,
 ⟨(some 59), (.iaddr 1), [.t 58, .c (.int .i64 0)], none, [0]⟩,
 ⟨(some 60), (.load false 1), [.t 59], none, [1]⟩,
 ⟨(some 61), .call, [.f 102, .t 60], none, [2]⟩,
 ⟨(some 57), .mov, [.t 61], none, [3]⟩,
 ⟨(some 62), (.ext 0), [.t 57], none, [4]⟩,
 ⟨(some 63), (.ext 1), [.t 57], none, [4]⟩,
 ⟨(some 10), .mov, [.t 62], none, [5, 3, 0, 1, 2, 3, 4, 5]⟩,
 ⟨(some 11), .mov, [.t 63], none, [6, 7, 0, 1, 2, 3, 4, 5, 6, 7]⟩] false)
 (.seq
 (.region [⟨(some 65), .movv, [.t 9], none, []⟩,
 ⟨(some 66), (.iaddr 1), [.t 65, .c (.int .i64 1)], none, [0]⟩,
 ⟨(some 67), (.load false 1), [.t 66], none, [1]⟩,
 ⟨(some 68), .call, [.f 102, .t 67], none, [2]⟩,
 ⟨(some 64), .mov, [.t 68], none, [3]⟩,
 ⟨(some 69), (.ext 0), [.t 64], none, [4]⟩,
 ⟨(some 70), (.ext 1), [.t 64], none, [4]⟩,
 ⟨(some 12), .mov, [.t 69], none, [5, 3, 0, 1, 2, 3, 4, 5]⟩,
 ⟨(some 13), .mov, [.t 70], none, [6, 7, 0, 1, 2, 3, 4, 5, 6, 7]⟩] false)
 (.seq
 (.seq
 (.region [⟨(some 71), .mov, [.t 11], none, []⟩,
 ⟨(some 72), (.un .not), [.t 71], none, [0]⟩,
 ⟨(some 73), .mov, [.t 72], none, [1]⟩,
 ⟨(some 74), .mov, [.t 13], (some (73, false)), [2]⟩,
 ⟨(some 75), (.un .not), [.t 74], (some (73, false)), [3, 2]⟩,
 ⟨(some 76), .pick, [.t 73, .c (.bool true), .t 75], none, [2, 4]⟩] false)
 (.cond (.t 76)
 (.seq
 (.region [⟨(some 77), (.build [(.imm (.slc 2 [])), (.imm (.slc 1 []))] []), [], none, []⟩,
 ⟨none, (.store 2), [.t 2, .t 77], none, [0, 0]⟩,
 ⟨(some 3), .mov, [.c (.int .i64 7)], none, [1, 0, 1]⟩] false)
 .ret)
 .skip))
 (.keep [2, 4, 5, 6, 10, 12] [2, 5, 46, 84, 1005, 1006] b15k1))))
def b15k3 : DCode :=
 (.seq
 (.region [⟨(some 48), .movv, [.t 4], none, []⟩,
 ⟨(some 49), .mov, [.t 6], none, []⟩,
 ⟨(some 50), (.iaddr 1), [.t 48, .t 49], none, [0, 1]⟩,
 ⟨(some 51), (.load false 1), [.t 50], none, [2]⟩,
 ⟨(some 52), .call, [.f 101, .t 51, .c (.int .u8 120)], none, [3]⟩,
 ⟨(some 9), .movv, [.t 52], none, [4, 4, 0, 1, 2, 3, 4]⟩] false)
 (.seq
 (.seq
 (.region [⟨(some 53), .movv, [.t 9], none, []⟩,
 ⟨(some 54), .len, [.t 53], none, [0]⟩,
 ⟨(some 55), (.bin .neq), [.t 54, .c (.int .i64 2)], none, [1]⟩] false)
 (.cond (.t 55)
 (.seq
 (.region [⟨(some 56), (.build [(.imm (.slc 2 [])), (.imm (.slc 1 []))] []), [], none, []⟩,
 ⟨none, (.store 2), [.t 2, .t 56], none, [0, 0]⟩,
 ⟨(some 3), .mov, [.c (.int .i64 7)], none, [1, 0, 1]⟩] false)
 .ret)
 .skip))
 (.keep [2, 4, 5, 6, 9] [2, 5, 46, 84, 1005, 1006] b15k2)))
def b15k4 : DCode :=
 (.region [⟨(some 26), .mov, [.t 6], none, []⟩,
 ⟨(some 27), (.bin .add), [.t 26, .c (.int .i64 1)], none, [0]⟩,
 ⟨(some 6), .mov, [.t 27], none, [1, 0, 1]⟩] false)
def b15k5 : DCode :=
 (.seq
 (.block 1
 (.seq
 (.seq
 (.region [⟨(some 28), .mov, [.t 6], none, []⟩,
 ⟨(some 29), (.bin .rem), [.t 28, .c (.int .i64 2)], none, [0]⟩,
 ⟨(some 30), (.bin .eql), [.t 29, .c (.int .i64 1)], none, [1]⟩] false)
 (.cond (.t 30)
 (.seq
 (.region [⟨(some 32), .movv, [.t 4], none, []⟩,
 ⟨(some 33), .mov, [.t 6], none, []⟩,
 ⟨(some 34), (.iaddr 1), [.t 32, .t 33], none, [0, 1]⟩,
 ⟨(some 35), (.load false 1), [.t 34], none, [2]⟩,
 ⟨(some 36), .call, [.f 102, .t 35], none, [3]⟩,
 ⟨(some 31), .mov, [.t 36], none, [4]⟩,
 ⟨(some 37), (.ext 0), [.t 31], none, [5]⟩,
 ⟨(some 38), (.ext 1), [.t 31], none, [5]⟩,
 ⟨(some 7), .mov, [.t 37], none, [6, 4, 0, 1, 2, 3, 4, 5, 6]⟩,
 ⟨(some 8), .mov, [.t 38], none, [7, 8, 0, 1, 2, 3, 4, 5, 6, 7, 8]⟩] false)
 (.seq
 (.seq
 (.region [⟨(some 39), .mov, [.t 8], none, []⟩,
 ⟨(some 40), (.un .not), [.t 39], none, [0]⟩] false)
 (.cond (.t 40)
 (.seq
 (.region [⟨(some 41), (.build [(.imm (.slc 2 [])), (.imm (.slc 1 []))] []), [], none, []⟩,
 ⟨none, (.store 2), [.t 2, .t 41], none, [0, 0]⟩,
 ⟨(some 3), .mov, [.c (.int .i64 7)], none, [1, 0, 1]⟩] false)
 .ret)
 .skip))
 (.keep [2, 4, 5, 6, 7] [2, 5, 46, 84, 1005, 1006] b15k0)))
 .skip))
 (.keep [2, 4, 5, 6] [2, 5, 46, 84, 1005, 1006] b15k3)))
 (.keep [2, 4, 5, 6] [2, 5, 46, 84, 1005, 1006] b15k4))
def b15l0 : DCode := .keep [2, 4, 5, 6] [2, 5, 46, 84, 1005, 1006]
 (.seq
 (.seq
 (.region [⟨(some 22), .mov, [.t 6], none, []⟩,
 ⟨(some 23), .movv, [.t 4], none, []⟩,
 ⟨(some 24), .len, [.t 23], none, [1]⟩,
 ⟨(some 25), (.bin .lss), [.t 22, .t 24], none, [0, 2]⟩] false)
 (.cond (.t 25)
 .skip
 (.exit 0)))
 (.keep [2, 4, 5, 6] [2, 5, 46, 84, 1005, 1006] b15k5))
def b15k6 : DCode :=
 (.seq
 (.region [⟨(some 92), (.load true 2), [.t 5], none, []⟩,
 ⟨none, (.store 2), [.t 2, .t 92], none, [0, 0]⟩,
 ⟨(some 3), .mov, [.c (.int .i64 0)], none, [1, 0, 1]⟩] false)
 .ret)
def b15k7 : DCode :=
 (.seq
 (.seq
 (.region [⟨(some 86), (.load true 2), [.t 5], none, []⟩,
 ⟨(some 87), .call, [.f 18, .t 86], none, [0]⟩,
 ⟨(some 14), .mov, [.t 87], none, [1, 1, 0, 1]⟩] false)
 (.seq
 (.region [⟨(some 88), .mov, [.t 14], none, []⟩,
 ⟨(some 89), (.bin .neq), [.t 88, .c (.int .i64 0)], none, [0]⟩] false)
 (.cond (.t 89)
 (.seq
 (.region [⟨(some 90), (.build [(.imm (.slc 2 [])), (.imm (.slc 1 []))] []), [], none, []⟩,
 ⟨(some 91), .mov, [.t 14], none, []⟩,
 ⟨none, (.store 2), [.t 2, .t 90], none, [0, 0]⟩,
 ⟨(some 3), .mov, [.t 91], none, [1, 2, 0, 1, 2]⟩] false)
 .ret)
 .skip)))
 (.keep [2, 5] [2, 5, 46, 84, 1005, 1006] b15k6))
def b15k8 : DCode :=
 (.seq
 (.region [⟨(some 5), (.alloc [(.cap0 2 []), (.cap0 1 [])]), [], none, []⟩] false)
 (.mktok 5 0 1005 2
 (.mktok 5 1 1006 1
 (.seq
 (.seq
 (.region [⟨(some 6), .mov, [.c (.int .i64 0)], none, []⟩] false)
 (.block 0
 (.loop b15l0)))
 (.keep [2, 5] [2, 5, 46, 84, 1005, 1006] b15k7)))))
def b15 : DCode :=
 (.seq
 (.region [⟨(some 2), (.alloc [(.imm (.slc 2 [])), (.imm (.slc 1 []))]), [], none, []⟩,
 ⟨(some 3), .mov, [.c (.int .i64 0)], none, []⟩] false)
 (.seq
 (.region [⟨(some 15), .mov, [.t 0], none, []⟩,
 ⟨(some 16), .call, [.f 101, .t 15, .c (.int .u8 32)], none, [0]⟩,
 ⟨(some 4), .movv, [.t 16], none, [1, 1, 0, 1]⟩] false)
 (.seq
 (.seq
 (.region [⟨(some 17), .movv, [.t 4], none, []⟩,
 ⟨(some 18), .len, [.t 17], none, [0]⟩,
 ⟨(some 19), (.bin .rem), [.t 18, .c (.int .i64 2)], none, [1]⟩,
 ⟨(some 20), (.bin .eql), [.t 19, .c (.int .i64 0)], none, [2]⟩] false)
 (.cond (.t 20)
 (.seq
 (.region [⟨(some 21), (.build [(.imm (.slc 2 [])), (.imm (.slc 1 []))] []), [], none, []⟩,
 ⟨none, (.store 2), [.t 2, .t 21], none, [0, 0]⟩,
 ⟨(some 3), .mov, [.c (.int .i64 7)], none, [1, 0, 1]⟩] false)
 .ret)
 .skip))
 (.keep [2, 4] [2, 46, 84, 1005, 1006] b15k8))))
def d15 : DFn := ⟨1, 93, [.cell 2 true 2, .tmp 3], b15⟩
theorem body15 : d15.body = b15 := rfl
theorem res15 : d15.res = [.cell 2 true 2, .tmp 3] := rfl
theorem k15 : chkFn Tryz.prog Tryz.f15 d15 = true := by kernel_rfl

/-- guidevane/guidevaneref03.number -/
def b102 : DCode :=
 (.seq
 (.region [⟨(some 2), .mov, [.c (.int .i64 0)], none, []⟩,
 ⟨(some 3), .mov, [.c (.bool false)], none, [0]⟩] false)
 (.seq
 (.region [⟨(some 7), .mov, [.t 0], none, []⟩,
 ⟨(some 8), .call, [.f 111, .t 7, .c (.int .i64 3)], none, [0]⟩,
 ⟨(some 6), .mov, [.t 8], none, [1]⟩,
 ⟨(some 9), (.ext 0), [.t 6], none, [2]⟩,
 ⟨(some 10), (.ext 1), [.t 6], none, [2]⟩,
 ⟨(some 4), .mov, [.t 9], none, [3, 1, 0, 1, 2, 3]⟩,
 ⟨(some 5), .mov, [.t 10], none, [4, 5, 0, 1, 2, 3, 4, 5]⟩] false)
 (.seq
 (.region [⟨(some 11), .mov, [.t 4], none, []⟩,
 ⟨(some 12), .mov, [.t 5], none, []⟩,
 ⟨(some 13), .mov, [.t 12], none, [1]⟩,
 ⟨(some 14), .mov, [.t 0], (some (13, true)), [2]⟩,
 ⟨(some 15), .sidx, [.t 14, .c (.int .i64 0)], (some (13, true)), [3, 2]⟩,
 ⟨(some 16), (.bin .neq), [.t 15, .c (.int .u8 45)], (some (13, true)), [4, 2]⟩,
 ⟨(some 17), .pick, [.t 13, .t 16, .c (.bool false)], none, [2, 5]⟩,
 ⟨(some 2), .mov, [.t 11], none, [0, 2, 0]⟩,
 ⟨(some 3), .mov, [.t 17], none, [6, 7, 0, 1, 2, 3, 4, 5, 6, 7]⟩] true)
 .ret)))
def d102 : DFn := ⟨1, 18, [.tmp 2, .tmp 3], b102⟩
theorem body102 : d102.body = b102 := rfl
theorem res102 : d102.res = [.tmp 2, .tmp 3] := rfl
theorem k102 : chkFn Tryz.prog Tryz.f102 d102 = true := by kernel_rfl

/-- guidevane/guidevaneref03.SameLine -/
def b17k0 : DCode :=
 (.region [⟨(some 26), .mov, [.t 5], none, []⟩,
 ⟨(some 27), (.bin .add), [.t 26, .c (.int .i64 1)], none, [0]⟩,
 ⟨(some 5), .mov, [.t 27], none, [1, 0, 1]⟩] false)
def b17k1 : DCode :=
 (.seq
 (.block 1
 (.seq
 (.region [⟨(some 28), (.faddr 0 false 1), [.t 2], none, []⟩,
 ⟨(some 29), (.load false 1), [.t 28], none, [0]⟩,
 ⟨(some 30), .mov, [.t 5], none, []⟩,
 ⟨(some 31), (.iaddr 2), [.t 29, .t 30], none, [1, 2]⟩,
 ⟨(some 32), (.load true 2), [.t 31], none, [3]⟩,
 ⟨(some 33), (.faddr 0 false 1), [.t 3], none, []⟩,
 ⟨(some 34), (.load false 1), [.t 33], none, [5]⟩,
 ⟨(some 35), .mov, [.t 5], none, []⟩,
 ⟨(some 36), (.iaddr 2), [.t 34, .t 35], none, [6, 7]⟩,
 ⟨(some 37), (.load true 2), [.t 36], none, [8]⟩,
 ⟨(some 38), (.eqs [false, false] true), [.t 32, .t 37], none, [4, 9]⟩] true)
 (.cond (.t 38)
 (.seq
 (.region [⟨(some 4), .mov, [.c (.bool false)], none, []⟩] false)
 .ret)
 .skip)))
 (.keep [2, 3, 5] [2, 3] b17k0))
def b17l0 : DCode := .keep [2, 3, 5] [2, 3]
 (.seq
 (.seq
 (.region [⟨(some 21), .mov, [.t 5], none, []⟩,
 ⟨(some 22), (.faddr 0 false 1), [.t 2], none, []⟩,
 ⟨(some 23), (.load false 1), [.t 22], none, [1]⟩,
 ⟨(some 24), .len, [.t 23], none, [2]⟩,
 ⟨(some 25), (.bin .lss), [.t 21, .t 24], none, [0, 3]⟩] false)
 (.cond (.t 25)
 .skip
 (.exit 0)))
 (.keep [2, 3, 5] [2, 3] b17k1))
def b17k2 : DCode :=
 (.seq
 (.region [⟨(some 4), .mov, [.c (.bool true)], none, []⟩] false)
 .ret)
def b17k3 : DCode :=
 (.seq
 (.seq
 (.region [⟨(some 5), .mov, [.c (.int .i64 0)], none, []⟩] false)
 (.block 0
 (.loop b17l0)))
 (.keep [] [] b17k2))
def b17 : DCode :=
 (.seq
 (.region [⟨(some 2), .box, [.t 0], none, []⟩,
 ⟨(some 3), .box, [.t 1], none, []⟩,
 ⟨(some 4), .mov, [.c (.bool false)], none, []⟩] false)
 (.seq
 (.seq
 (.region [⟨(some 6), (.faddr 0 false 1), [.t 2], none, []⟩,
 ⟨(some 7), (.load false 1), [.t 6], none, [0]⟩,
 ⟨(some 8), .len, [.t 7], none, [1]⟩,
 ⟨(some 9), (.faddr 0 false 1), [.t 3], none, []⟩,
 ⟨(some 10), (.load false 1), [.t 9], none, [3]⟩,
 ⟨(some 11), .len, [.t 10], none, [4]⟩,
 ⟨(some 12), (.bin .neq), [.t 8, .t 11], none, [2, 5]⟩,
 ⟨(some 13), .mov, [.t 12], none, [6]⟩,
 ⟨(some 14), (.faddr 1 false 1), [.t 2], (some (13, false)), [7]⟩,
 ⟨(some 15), (.load false 1), [.t 14], (some (13, false)), [8, 7]⟩,
 ⟨(some 16), (.faddr 1 false 1), [.t 3], (some (13, false)), [7]⟩,
 ⟨(some 17), (.load false 1), [.t 16], (some (13, false)), [10, 7]⟩,
 ⟨(some 18), .call, [.f 93, .t 15, .t 17], (some (13, false)), [9, 11, 7, 7]⟩,
 ⟨(some 19), (.un .not), [.t 18], (some (13, false)), [12, 7]⟩,
 ⟨(some 20), .pick, [.t 13, .c (.bool true), .t 19], none, [7, 13]⟩] false)
 (.cond (.t 20)
 (.seq
 (.region [⟨(some 4), .mov, [.c (.bool false)], none, []⟩] false)
 .ret)
 .skip))
 (.keep [2, 3] [2, 3] b17k3)))
def d17 : DFn := ⟨2, 39, [.tmp 4], b17⟩
theorem body17 : d17.body = b17 := rfl
theorem res17 : d17.res = [.tmp 4] := rfl
theorem k17 : chkFn Tryz.prog Tryz.f17 d17 = true := by kernel_rfl

/-- guidevane/guidevanelaw03.WaveStrings -/
def b3k0 : DCode :=
 (.seq
 (.region [⟨(some 54), .mov, [.t 5], none, []⟩,
 ⟨(some 55), .call, [.f 14, .t 54], none, [0]⟩,
 ⟨(some 53), .mov, [.t 55], none, [1]⟩,
 ⟨(some 56), (.ext 0), [.t 53], none, [2]⟩,
 ⟨(some 57), (.ext 1), [.t 53], none, [2]⟩,
 ⟨(some 10), (.alloc [(.imm (.slc 2 [])), (.imm (.slc 1 []))]), [], none, []⟩,
 ⟨none, (.store 2), [.t 10, .t 56], none, [5, 3, 1, 0, 1, 2, 3, 5]⟩,
 ⟨(some 11), .mov, [.t 57], none, [4, 6, 0, 1, 2, 3, 4, 5, 6]⟩] false)
 (.seq
 (.region [⟨(some 58), .mov, [.t 11], none, []⟩,
 ⟨(some 59), (.bin .eql), [.t 58, .c (.int .i64 0)], none, [0]⟩,
 ⟨(some 60), .mov, [.t 59], none, [1]⟩,
 ⟨(some 61), (.load true 2), [.t 10], (some (60, true)), [2]⟩,
 ⟨(some 62), (.load true 2), [.t 2], (some (60, true)), [2]⟩,
 ⟨(some 63), .call, [.f 17, .t 61, .t 62], (some (60, true)), [3, 4, 2, 2]⟩,
 ⟨(some 64), .pick, [.t 60, .t 63, .c (.bool false)], none, [2, 5]⟩,
 ⟨(some 4), .mov, [.t 64], none, [6, 5, 0, 1, 2, 3, 4, 5, 6]⟩] false)
 .ret))
def b3k1 : DCode :=
 (.seq
 (.seq
 (.region [⟨(some 50), (.load true 2), [.t 2], none, []⟩,
 ⟨(some 51), .call, [.f 18, .t 50], none, [0]⟩,
 ⟨(some 52), (.bin .neq), [.t 51, .c (.int .i64 0)], none, [1]⟩] false)
 (.cond (.t 52)
 (.seq
 (.region [⟨(some 4), .mov, [.c (.bool true)], none, []⟩] false)
 .ret)
 .skip))
 (.keep [2, 5] [2] b3k0))
def b3k2 : DCode :=
 (.seq
 (.region [⟨(some 22), (.load true 2), [.t 2], none, []⟩,
 ⟨(some 23), .call, [.f 13, .t 22], none, [0]⟩,
 ⟨(some 24), .call, [.f 12, .t 23], none, [1, 1]⟩,
 ⟨(some 5), .mov, [.t 24], none, [2, 2, 0, 1, 2]⟩] false)
 (.seq
 (.region [⟨(some 26), .mov, [.t 1], none, []⟩,
 ⟨(some 27), .call, [.f 14, .t 26], none, [0]⟩,
 ⟨(some 25), .mov, [.t 27], none, [1]⟩,
 ⟨(some 28), (.ext 0), [.t 25], none, [2]⟩,
 ⟨(some 29), (.ext 1), [.t 25], none, [2]⟩,
 ⟨(some 6), (.alloc [(.imm (.slc 2 [])), (.imm (.slc 1 []))]), [], none, []⟩,
 ⟨none, (.store 2), [.t 6, .t 28], none, [5, 3, 1, 0, 1, 2, 3, 5]⟩,
 ⟨(some 7), .mov, [.t 29], none, [4, 6, 0, 1, 2, 3, 4, 5, 6]⟩] false)
 (.seq
 (.region [⟨(some 31), .mov, [.t 1], none, []⟩,
 ⟨(some 32), .call, [.f 15, .t 31], none, [0]⟩,
 ⟨(some 30), .mov, [.t 32], none, [1]⟩,
 ⟨(some 33), (.ext 0), [.t 30], none, [2]⟩,
 ⟨(some 34), (.ext 1), [.t 30], none, [2]⟩,
 ⟨(some 8), (.alloc [(.imm (.slc 2 [])), (.imm (.slc 1 []))]), [], none, []⟩,
 ⟨none, (.store 2), [.t 8, .t 33], none, [5, 3, 1, 0, 1, 2, 3, 5]⟩,
 ⟨(some 9), .mov, [.t 34], none, [4, 6, 0, 1, 2, 3, 4, 5, 6]⟩] false)
 (.seq
 (.seq
 (.region [⟨(some 35), .mov, [.t 5], none, []⟩,
 ⟨(some 36), (.load true 2), [.t 2], none, []⟩,
 ⟨(some 37), .call, [.f 16, .t 36], none, [1]⟩,
 ⟨(some 38), (.bin .neq), [.t 35, .t 37], none, [0, 2]⟩,
 ⟨(some 39), .mov, [.t 38], none, [3, 2]⟩,
 ⟨(some 40), .mov, [.t 7], (some (39, false)), [4]⟩,
 ⟨(some 41), .mov, [.t 9], (some (39, false)), [4]⟩,
 ⟨(some 42), (.bin .neq), [.t 40, .t 41], (some (39, false)), [5, 6, 4]⟩,
 ⟨(some 43), .pick, [.t 39, .c (.bool true), .t 42], none, [4, 7]⟩,
 ⟨(some 44), .mov, [.t 43], none, [8, 4]⟩,
 ⟨(some 45), (.load true 2), [.t 6], (some (44, false)), [9]⟩,
 ⟨(some 46), (.load true 2), [.t 8], (some (44, false)), [9]⟩,
 ⟨(some 47), .call, [.f 17, .t 45, .t 46], (some (44, false)), [10, 11, 9, 9]⟩,
 ⟨(some 48), (.un .not), [.t 47], (some (44, false)), [12, 9]⟩,
 ⟨(some 49), .pick, [.t 44, .c (.bool true), .t 48], none, [9, 13]⟩] false)
 (.cond (.t 49)
 (.seq
 (.region [⟨(some 4), .mov, [.c (.bool false)], none, []⟩] false)
 .ret)
 .skip))
 (.keep [2, 5] [2] b3k1)))))
def b3k3 : DCode :=
 (.seq
 (.seq
 (.region [⟨(some 14), (.load true 2), [.t 2], none, []⟩,
 ⟨(some 15), .call, [.f 11, .t 14], none, [0]⟩,
 ⟨(some 16), (.un .not), [.t 15], none, [1]⟩,
 ⟨(some 17), .mov, [.t 16], none, [2, 1]⟩,
 ⟨(some 18), .mov, [.t 1], (some (17, false)), [3]⟩,
 ⟨(some 19), .slen, [.t 18], (some (17, false)), [4, 3]⟩,
 ⟨(some 20), (.bin .gtr), [.t 19, .c (.int .i64 60)], (some (17, false)), [5, 3]⟩,
 ⟨(some 21), .pick, [.t 17, .c (.bool true), .t 20], none, [3, 6]⟩] false)
 (.cond (.t 21)
 (.seq
 (.region [⟨(some 4), .mov, [.c (.bool true)], none, []⟩] false)
 .ret)
 .skip))
 (.keep [1, 2] [2] b3k2))
def b3 : DCode :=
 (.seq
 (.region [⟨(some 2), .box, [.t 0], none, []⟩,
 ⟨(some 4), .mov, [.c (.bool false)], none, []⟩] false)
 (.seq
 (.seq
 (.region [⟨(some 12), .call, [.f 10], none, []⟩,
 ⟨(some 13), (.un .not), [.t 12], none, [0]⟩] false)
 (.cond (.t 13)
 (.seq
 (.region [⟨(some 4), .mov, [.c (.bool false)], none, []⟩] false)
 .ret)
 .skip))
 (.keep [1, 2] [2] b3k3)))
def d3 : DFn := ⟨2, 65, [.tmp 4], b3⟩
theorem body3 : d3.body = b3 := rfl
theorem res3 : d3.res = [.tmp 4] := rfl
theorem k3 : chkFn Tryz.prog Tryz.f3 d3 = true := by kernel_rfl

end Go.DI

