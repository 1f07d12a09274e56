/- The functions of the strings of lakes, as data. No condition. -/
import Derived.Test.YtaphhpphfffnfaaGreatDoorLfGe
import Derived.Test.YtaphhpphfffnfaaGreatDoorProg
import Derived.KernelRfl
namespace Go.DI
open Go.Proofs Go.RowKit
/-- guidevane/lake.join -/
def b116k0 : DCode :=
 (.seq
 (.block 3
 (.seq
 (.region [⟨(some 19), (.iaddr 1), [.t 15, .t 17], none, []⟩,
 ⟨(some 20), (.load false 1), [.t 19], none, [0]⟩,
 ⟨(some 8), .mov, [.t 20], none, [1, 0, 1]⟩] false)
 (.region [⟨(some 21), .mov, [.t 6], none, []⟩,
 ⟨(some 22), .mov, [.t 8], none, []⟩,
 ⟨(some 23), .call, [.f 95, .t 22], none, [1]⟩,
 ⟨(some 24), (.bsl 1), [.t 23], none, [2]⟩,
 ⟨(some 25), (.append 1 16 false), [.t 21, .t 24], none, [0, 3, 2]⟩,
 ⟨(some 6), .mov, [.t 25], none, [4, 4, 0, 1, 2, 3, 4]⟩] false)))
 (.region [⟨(some 26), (.bin .add), [.t 17, .c (.int .i64 1)], none, []⟩,
 ⟨(some 17), .mov, [.t 26], none, [0]⟩] false))
def b116l0 : DCode := .keep [3, 6, 9, 10, 11, 15, 16, 17] [3, 6, 25, 31]
 (.seq
 (.region [⟨(some 18), (.bin .lss), [.t 17, .t 16], none, []⟩] false)
 (.seq
 (.cond (.t 18)
 .skip
 (.exit 2))
 (.keep [3, 6, 9, 10, 11, 15, 16, 17] [3, 6, 25, 31] b116k0)))
def b116k1 : DCode :=
 (.region [⟨(some 27), .mov, [.t 3], none, []⟩,
 ⟨(some 28), .movv, [.t 6], none, []⟩,
 ⟨(some 29), .call, [.f 96, .t 28, .c (.str ⟨#[32]⟩)], none, [1]⟩,
 ⟨(some 30), (.bsl 1), [.t 29], none, [2]⟩,
 ⟨(some 31), (.append 1 16 false), [.t 27, .t 30], none, [0, 3, 2]⟩,
 ⟨(some 3), .mov, [.t 31], none, [4, 4, 0, 1, 2, 3, 4]⟩] false)
def b116k2 : DCode :=
 (.region [⟨(some 32), (.bin .add), [.t 11, .c (.int .i64 1)], none, []⟩,
 ⟨(some 11), .mov, [.t 32], none, [0]⟩] false)
def b116k3 : DCode :=
 (.seq
 (.block 1
 (.seq
 (.region [⟨(some 13), (.iaddr 1), [.t 9, .t 11], none, []⟩,
 ⟨(some 14), (.load false 1), [.t 13], none, [0]⟩,
 ⟨(some 5), .movv, [.t 14], none, [1, 0, 1]⟩] false)
 (.seq
 (.region [⟨(some 6), (.ntok 1), [.c (.slc 1 [])], none, []⟩] false)
 (.seq
 (.seq
 (.region [⟨(some 15), .movv, [.t 5], none, []⟩,
 ⟨(some 16), .len, [.t 15], none, [0]⟩,
 ⟨(some 17), .mov, [.c (.int .i64 0)], none, []⟩] false)
 (.block 2
 (.loop b116l0)))
 (.keep [3, 6, 9, 10, 11] [3, 6, 25, 31] b116k1)))))
 (.keep [3, 9, 10, 11] [3, 31] b116k2))
def b116l1 : DCode := .keep [3, 9, 10, 11] [3, 31]
 (.seq
 (.region [⟨(some 12), (.bin .lss), [.t 11, .t 10], none, []⟩] false)
 (.seq
 (.cond (.t 12)
 .skip
 (.exit 0))
 (.keep [3, 9, 10, 11] [3, 31] b116k3)))
def b116k4 : DCode :=
 (.seq
 (.region [⟨(some 33), .movv, [.t 3], none, []⟩,
 ⟨(some 34), .call, [.f 96, .t 33, .c (.str ⟨#[59]⟩)], none, [0]⟩,
 ⟨(some 2), .mov, [.t 34], none, [1, 1, 0, 1]⟩] false)
 .ret)
def b116 : DCode :=
 (.seq
 (.region [⟨(some 2), .mov, [.c (.str ⟨#[]⟩)], none, []⟩] false)
 (.seq
 (.region [⟨(some 3), (.ntok 1), [.c (.slc 1 [])], none, []⟩] false)
 (.seq
 (.seq
 (.region [⟨(some 9), .movv, [.t 0], none, []⟩,
 ⟨(some 10), .len, [.t 9], none, [0]⟩,
 ⟨(some 11), .mov, [.c (.int .i64 0)], none, []⟩] false)
 (.block 0
 (.loop b116l1)))
 (.keep [3] [3, 31] b116k4))))
def d116 : DFn := ⟨1, 35, [.tmp 2], b116⟩
theorem body116 : d116.body = b116 := rfl
theorem res116 : d116.res = [.tmp 2] := rfl
theorem k116 : chkFn Tryz.prog Tryz.f116 d116 = true := by kernel_rfl

/-- guidevane/lake.split -/
def b117k0 : DCode :=
 (.region [⟨(some 68), .mov, [.t 14], none, []⟩,
 ⟨(some 69), .mov, [.t 17], none, []⟩,
 ⟨(some 70), (.bsl 1), [.t 69], none, [1]⟩,
 ⟨(some 71), (.append 1 8 false), [.t 68, .t 70], none, [0, 2]⟩,
 ⟨(some 14), .mov, [.t 71], none, [3, 3, 0, 1, 2, 3]⟩] false)
def b117k1 : DCode :=
 (.region [⟨(some 72), (.bin .add), [.t 34, .c (.int .i64 1)], none, []⟩,
 ⟨(some 34), .mov, [.t 72], none, [0]⟩] false)
def b117k2 : DCode :=
 (.seq
 (.block 3
 (.seq
 (.region [⟨(some 36), .mov, [.t 34], none, []⟩,
 ⟨(some 37), (.iaddr 1), [.t 32, .t 34], none, []⟩,
 ⟨(some 38), (.load false 1), [.t 37], none, [1]⟩,
 ⟨(some 15), .mov, [.t 36], none, [0, 0, 1, 2]⟩,
 ⟨(some 16), .mov, [.t 38], none, [2, 3, 0, 1, 2, 3]⟩] false)
 (.seq
 (.region [⟨(some 40), .mov, [.t 16], none, []⟩,
 ⟨(some 41), .call, [.f 109, .t 40], none, [0]⟩,
 ⟨(some 39), .mov, [.t 41], none, [1]⟩,
 ⟨(some 42), (.ext 0), [.t 39], none, [2]⟩,
 ⟨(some 43), (.ext 1), [.t 39], none, [2]⟩,
 ⟨(some 17), .mov, [.t 42], none, [3, 1, 0, 1, 2, 3]⟩,
 ⟨(some 18), .mov, [.t 43], none, [4, 5, 0, 1, 2, 3, 4, 5]⟩] false)
 (.seq
 (.seq
 (.region [⟨(some 44), .mov, [.t 18], none, []⟩,
 ⟨(some 45), (.inil true), [.t 44, .c .nili], none, [0]⟩,
 ⟨(some 46), .mov, [.t 45], none, [1]⟩,
 ⟨(some 47), .mov, [.t 17], (some (46, false)), [2]⟩,
 ⟨(some 48), .call, [.f 95, .t 47], (some (46, false)), [3, 2, 2]⟩,
 ⟨(some 49), .mov, [.t 16], (some (46, false)), [2]⟩,
 ⟨(some 50), (.bin .neq), [.t 48, .t 49], (some (46, false)), [4, 5, 2]⟩,
 ⟨(some 51), .pick, [.t 46, .c (.bool true), .t 50], none, [2, 6]⟩,
 ⟨(some 52), .mov, [.t 51], none, [7, 4]⟩,
 ⟨(some 53), .mov, [.t 17], (some (52, false)), [8]⟩,
 ⟨(some 54), (.bin .lss), [.t 53, .c (.int .i64 0)], (some (52, false)), [9, 8]⟩,
 ⟨(some 55), .mov, [.t 54], (some (52, false)), [10, 8, 8]⟩,
 ⟨(some 56), .mov, [.t 15], (some (55, true)), [11]⟩,
 ⟨(some 57), .mov, [.t 3], (some (55, true)), [11]⟩,
 ⟨(some 58), (.bin .neq), [.t 56, .t 57], (some (55, true)), [12, 13, 11]⟩,
 ⟨(some 59), .pick, [.t 55, .t 58, .c (.bool false)], (some (52, false)), [11, 14, 8]⟩,
 ⟨(some 60), .pick, [.t 52, .c (.bool true), .t 59], none, [8, 15]⟩,
 ⟨(some 61), .mov, [.t 60], none, [16, 11]⟩,
 ⟨(some 62), .mov, [.t 16], (some (61, false)), [17]⟩,
 ⟨(some 63), .call, [.f 211, .t 62, .c (.str ⟨#[45]⟩)], (some (61, false)), [18, 17, 17]⟩,
 ⟨(some 64), .slen, [.t 63], (some (61, false)), [19, 17]⟩,
 ⟨(some 65), .mov, [.t 2], (some (61, false)), [17]⟩,
 ⟨(some 66), (.bin .gtr), [.t 64, .t 65], (some (61, false)), [20, 21, 17]⟩,
 ⟨(some 67), .pick, [.t 61, .c (.bool true), .t 66], none, [17, 22]⟩] false)
 (.cond (.t 67)
 (.seq
 (.region [⟨(some 8), .mov, [.c (.slc 1 [])], none, []⟩,
 ⟨(some 9), .mov, [.c (.bool false)], none, [0, 0]⟩] false)
 .ret)
 .skip))
 (.keep [1, 2, 3, 10, 14, 17, 20, 21, 22, 32, 33, 34] [10, 14, 71, 76] b117k0)))))
 (.keep [1, 2, 3, 10, 14, 20, 21, 22, 32, 33, 34] [10, 14, 71, 76] b117k1))
def b117l0 : DCode := .keep [1, 2, 3, 10, 14, 20, 21, 22, 32, 33, 34] [10, 14, 71, 76]
 (.seq
 (.region [⟨(some 35), (.bin .lss), [.t 34, .t 33], none, []⟩] false)
 (.seq
 (.cond (.t 35)
 .skip
 (.exit 2))
 (.keep [1, 2, 3, 10, 14, 20, 21, 22, 32, 33, 34] [10, 14, 71, 76] b117k2)))
def b117k3 : DCode :=
 (.region [⟨(some 73), .mov, [.t 10], none, []⟩,
 ⟨(some 74), .movv, [.t 14], none, []⟩,
 ⟨(some 75), (.bsl 1), [.t 74], none, [1]⟩,
 ⟨(some 76), (.append 1 24 false), [.t 73, .t 75], none, [0, 2]⟩,
 ⟨(some 10), .mov, [.t 76], none, [3, 3, 0, 1, 2, 3]⟩] false)
def b117k4 : DCode :=
 (.seq
 (.region [⟨(some 14), (.ntok 1), [.c (.slc 1 [])], none, []⟩] false)
 (.seq
 (.seq
 (.region [⟨(some 32), .movv, [.t 13], none, []⟩,
 ⟨(some 33), .len, [.t 32], none, [0]⟩,
 ⟨(some 34), .mov, [.c (.int .i64 0)], none, []⟩] false)
 (.block 2
 (.loop b117l0)))
 (.keep [1, 2, 3, 10, 14, 20, 21, 22] [10, 14, 71, 76] b117k3)))
def b117k5 : DCode :=
 (.region [⟨(some 77), (.bin .add), [.t 22, .c (.int .i64 1)], none, []⟩,
 ⟨(some 22), .mov, [.t 77], none, [0]⟩] false)
def b117k6 : DCode :=
 (.seq
 (.block 1
 (.seq
 (.region [⟨(some 24), (.iaddr 1), [.t 20, .t 22], none, []⟩,
 ⟨(some 25), (.load false 1), [.t 24], none, [0]⟩,
 ⟨(some 12), .mov, [.t 25], none, [1, 0, 1]⟩] false)
 (.seq
 (.region [⟨(some 26), .mov, [.t 12], none, []⟩,
 ⟨(some 27), .call, [.f 97, .t 26, .c (.str ⟨#[32]⟩)], none, [0]⟩,
 ⟨(some 13), .movv, [.t 27], none, [1, 1, 0, 1]⟩] false)
 (.seq
 (.seq
 (.region [⟨(some 28), .movv, [.t 13], none, []⟩,
 ⟨(some 29), .len, [.t 28], none, [0]⟩,
 ⟨(some 30), .mov, [.t 1], none, []⟩,
 ⟨(some 31), (.bin .neq), [.t 29, .t 30], none, [1, 2]⟩] false)
 (.cond (.t 31)
 (.seq
 (.region [⟨(some 8), .mov, [.c (.slc 1 [])], none, []⟩,
 ⟨(some 9), .mov, [.c (.bool false)], none, [0, 0]⟩] false)
 .ret)
 .skip))
 (.keep [1, 2, 3, 10, 13, 20, 21, 22] [10, 76] b117k4)))))
 (.keep [1, 2, 3, 10, 20, 21, 22] [10, 76] b117k5))
def b117l1 : DCode := .keep [1, 2, 3, 10, 20, 21, 22] [10, 76]
 (.seq
 (.region [⟨(some 23), (.bin .lss), [.t 22, .t 21], none, []⟩] false)
 (.seq
 (.cond (.t 23)
 .skip
 (.exit 0))
 (.keep [1, 2, 3, 10, 20, 21, 22] [10, 76] b117k6)))
def b117k7 : DCode :=
 (.seq
 (.region [⟨(some 78), .movv, [.t 10], none, []⟩,
 ⟨(some 8), .movv, [.t 78], none, [0, 0]⟩,
 ⟨(some 9), .mov, [.c (.bool true)], none, [1, 0, 1]⟩] false)
 .ret)
def b117 : DCode :=
 (.seq
 (.region [⟨(some 8), .mov, [.c (.slc 1 [])], none, []⟩,
 ⟨(some 9), .mov, [.c (.bool false)], none, [0]⟩] false)
 (.seq
 (.region [⟨(some 10), (.ntok 1), [.c (.slc 1 [])], none, []⟩] false)
 (.seq
 (.seq
 (.region [⟨(some 19), .mov, [.t 0], none, []⟩,
 ⟨(some 20), .call, [.f 97, .t 19, .c (.str ⟨#[59]⟩)], none, [0]⟩,
 ⟨(some 21), .len, [.t 20], none, [1]⟩,
 ⟨(some 22), .mov, [.c (.int .i64 0)], none, []⟩] false)
 (.block 0
 (.loop b117l1)))
 (.keep [10] [10, 76] b117k7))))
def d117 : DFn := ⟨4, 79, [.tmp 8, .tmp 9], b117⟩
theorem body117 : d117.body = b117 := rfl
theorem res117 : d117.res = [.tmp 8, .tmp 9] := rfl
theorem k117 : chkFn Tryz.prog Tryz.f117 d117 = true := by kernel_rfl

/-- guidevane/lake.FormatFlows -/
def b35k0 : DCode :=
 (.seq
 (.block 1
 (.seq
 (.region [⟨(some 10), (.iaddr 3), [.t 6, .t 8], none, []⟩,
 ⟨(some 11), (.load true 3), [.t 10], none, [0]⟩,
 ⟨(some 5), (.alloc [(.imm (.int .i64 0)), (.imm (.int .i64 0)), (.imm (.int .i64 0))]), [], none, []⟩,
 ⟨none, (.store 3), [.t 5, .t 11], none, [2, 1, 0, 1, 2]⟩] false)
 (.region [⟨(some 12), .mov, [.t 3], none, []⟩,
 ⟨(some 13), (.faddr 0 false 1), [.t 5], none, []⟩,
 ⟨(some 14), (.load false 1), [.t 13], none, [1]⟩,
 ⟨(some 15), (.faddr 1 false 1), [.t 5], none, []⟩,
 ⟨(some 16), (.load false 1), [.t 15], none, [3]⟩,
 ⟨(some 17), (.faddr 2 false 1), [.t 5], none, []⟩,
 ⟨(some 18), (.load false 1), [.t 17], none, [5]⟩,
 ⟨(some 19), (.bsl 1), [.t 14, .t 16, .t 18], none, [2, 4, 6]⟩,
 ⟨(some 20), (.bsl 1), [.t 19], none, [7]⟩,
 ⟨(some 21), (.append 1 24 false), [.t 12, .t 20], none, [0, 8]⟩,
 ⟨(some 3), .mov, [.t 21], none, [9, 9, 0, 1, 2, 3, 4, 5, 6, 7, 8, 9]⟩] false)))
 (.region [⟨(some 22), (.bin .add), [.t 8, .c (.int .i64 1)], none, []⟩,
 ⟨(some 8), .mov, [.t 22], none, [0]⟩] false))
def b35l0 : DCode := .keep [3, 6, 7, 8] [3, 21]
 (.seq
 (.region [⟨(some 9), (.bin .lss), [.t 8, .t 7], none, []⟩] false)
 (.seq
 (.cond (.t 9)
 .skip
 (.exit 0))
 (.keep [3, 6, 7, 8] [3, 21] b35k0)))
def b35k1 : DCode :=
 (.seq
 (.region [⟨(some 23), .movv, [.t 3], none, []⟩,
 ⟨(some 24), .call, [.f 116, .t 23], none, [0]⟩,
 ⟨(some 2), .mov, [.t 24], none, [1, 1, 0, 1]⟩] false)
 .ret)
def b35 : DCode :=
 (.seq
 (.region [⟨(some 2), .mov, [.c (.str ⟨#[]⟩)], none, []⟩] false)
 (.seq
 (.region [⟨(some 3), (.ntok 1), [.c (.slc 1 [])], none, []⟩] false)
 (.seq
 (.seq
 (.region [⟨(some 6), .movv, [.t 0], none, []⟩,
 ⟨(some 7), .len, [.t 6], none, [0]⟩,
 ⟨(some 8), .mov, [.c (.int .i64 0)], none, []⟩] false)
 (.block 0
 (.loop b35l0)))
 (.keep [3] [3, 21] b35k1))))
def d35 : DFn := ⟨1, 25, [.tmp 2], b35⟩
theorem body35 : d35.body = b35 := rfl
theorem res35 : d35.res = [.tmp 2] := rfl
theorem k35 : chkFn Tryz.prog Tryz.f35 d35 = true := by kernel_rfl

/-- guidevane/lake.ParseFlows -/
def b37k0 : DCode :=
 (.seq
 (.block 1
 (.seq
 (.region [⟨(some 26), (.iaddr 1), [.t 22, .t 24], none, []⟩,
 ⟨(some 27), (.load false 1), [.t 26], none, [0]⟩,
 ⟨(some 8), .movv, [.t 27], none, [1, 0, 1]⟩] false)
 (.region [⟨(some 28), .mov, [.t 6], none, []⟩,
 ⟨(some 29), .movv, [.t 8], none, []⟩,
 ⟨(some 30), (.iaddr 1), [.t 29, .c (.int .i64 0)], none, [1]⟩,
 ⟨(some 31), (.load false 1), [.t 30], none, [2]⟩,
 ⟨(some 32), .movv, [.t 8], none, []⟩,
 ⟨(some 33), (.iaddr 1), [.t 32, .c (.int .i64 1)], none, [4]⟩,
 ⟨(some 34), (.load false 1), [.t 33], none, [5]⟩,
 ⟨(some 35), .movv, [.t 8], none, []⟩,
 ⟨(some 36), (.iaddr 1), [.t 35, .c (.int .i64 2)], none, [7]⟩,
 ⟨(some 37), (.load false 1), [.t 36], none, [8]⟩,
 ⟨(some 38), (.build [(.imm (.int .i64 0)), (.imm (.int .i64 0)), (.imm (.int .i64 0))] [(0, 1), (1, 1), (2, 1)]), [.t 31, .t 34, .t 37], none, [3, 6, 9]⟩,
 ⟨(some 39), (.bsl 3), [.t 38], none, [10]⟩,
 ⟨(some 40), (.append 3 24 false), [.t 28, .t 39], none, [0, 11]⟩,
 ⟨(some 6), .mov, [.t 40], none, [12, 12, 0, 1, 2, 3, 4, 5, 6, 7, 8, 9, 10, 11, 12]⟩] true)))
 (.region [⟨(some 41), (.bin .add), [.t 24, .c (.int .i64 1)], none, []⟩,
 ⟨(some 24), .mov, [.t 41], none, [0]⟩] false))
def b37l0 : DCode := .keep [6, 22, 23, 24] [6, 40]
 (.seq
 (.region [⟨(some 25), (.bin .lss), [.t 24, .t 23], none, []⟩] false)
 (.seq
 (.cond (.t 25)
 .skip
 (.exit 0))
 (.keep [6, 22, 23, 24] [6, 40] b37k0)))
def b37k1 : DCode :=
 (.seq
 (.region [⟨(some 47), .movv, [.t 6], none, []⟩,
 ⟨(some 2), .movv, [.t 47], none, [0, 0]⟩,
 ⟨(some 3), .mov, [.c (.int .i64 0)], none, [1, 0, 1]⟩] false)
 .ret)
def b37k2 : DCode :=
 (.seq
 (.seq
 (.region [⟨(some 42), .movv, [.t 6], none, []⟩,
 ⟨(some 43), .call, [.f 120, .t 42], none, [0]⟩,
 ⟨(some 9), .mov, [.t 43], none, [1, 1, 0, 1]⟩] false)
 (.seq
 (.region [⟨(some 44), .mov, [.t 9], none, []⟩,
 ⟨(some 45), (.bin .neq), [.t 44, .c (.int .i64 0)], none, [0]⟩] false)
 (.cond (.t 45)
 (.seq
 (.region [⟨(some 46), .mov, [.t 9], none, []⟩,
 ⟨(some 2), .mov, [.c (.slc 3 [])], none, []⟩,
 ⟨(some 3), .mov, [.t 46], none, [0, 1, 0, 1]⟩] false)
 .ret)
 .skip)))
 (.keep [6] [6, 40] b37k1))
def b37k3 : DCode :=
 (.seq
 (.region [⟨(some 6), (.ntok 3), [.c (.slc 3 [])], none, []⟩] false)
 (.seq
 (.seq
 (.region [⟨(some 22), .movv, [.t 4], none, []⟩,
 ⟨(some 23), .len, [.t 22], none, [0]⟩,
 ⟨(some 24), .mov, [.c (.int .i64 0)], none, []⟩] false)
 (.block 0
 (.loop b37l0)))
 (.keep [6] [6, 40] b37k2)))
def b37k4 : DCode :=
 (.seq
 (.region [⟨(some 16), .mov, [.t 0], none, []⟩,
 ⟨(some 17), .call, [.f 117, .t 16, .c (.int .i64 3), .c (.int .i64 8), .c (.int .i64 2)], none, [0]⟩,
 ⟨(some 15), .mov, [.t 17], none, [1]⟩,
 ⟨(some 18), (.ext 0), [.t 15], none, [2]⟩,
 ⟨(some 19), (.ext 1), [.t 15], none, [2]⟩,
 ⟨(some 4), .movv, [.t 18], none, [3, 1, 0, 1, 2, 3]⟩,
 ⟨(some 5), .mov, [.t 19], none, [4, 5, 0, 1, 2, 3, 4, 5]⟩] false)
 (.seq
 (.seq
 (.region [⟨(some 20), .mov, [.t 5], none, []⟩,
 ⟨(some 21), (.un .not), [.t 20], none, [0]⟩] false)
 (.cond (.t 21)
 (.seq
 (.region [⟨(some 2), .mov, [.c (.slc 3 [])], none, []⟩,
 ⟨(some 3), .mov, [.c (.int .i64 7)], none, [0, 0]⟩] false)
 .ret)
 .skip))
 (.keep [4] [] b37k3)))
def b37k5 : DCode :=
 (.seq
 (.seq
 (.region [⟨(some 13), .mov, [.t 0], none, []⟩,
 ⟨(some 14), (.bin .eql), [.t 13, .c (.str ⟨#[]⟩)], none, [0]⟩] false)
 (.cond (.t 14)
 (.seq
 (.region [⟨(some 2), .mov, [.c (.slc 3 [])], none, []⟩,
 ⟨(some 3), .mov, [.c (.int .i64 0)], none, [0, 0]⟩] false)
 .ret)
 .skip))
 (.keep [0] [] b37k4))
def b37 : DCode :=
 (.seq
 (.region [⟨(some 2), .mov, [.c (.slc 3 [])], none, []⟩,
 ⟨(some 3), .mov, [.c (.int .i64 0)], none, [0]⟩] false)
 (.seq
 (.seq
 (.region [⟨(some 10), .mov, [.t 0], none, []⟩,
 ⟨(some 11), .slen, [.t 10], none, [0]⟩,
 ⟨(some 12), (.bin .gtr), [.t 11, .c (.int .i64 60000)], none, [1]⟩] false)
 (.cond (.t 12)
 (.seq
 (.region [⟨(some 2), .mov, [.c (.slc 3 [])], none, []⟩,
 ⟨(some 3), .mov, [.c (.int .i64 8)], none, [0, 0]⟩] false)
 .ret)
 .skip))
 (.keep [0] [] b37k5)))
def d37 : DFn := ⟨1, 48, [.tmp 2, .tmp 3], b37⟩
theorem body37 : d37.body = b37 := rfl
theorem res37 : d37.res = [.tmp 2, .tmp 3] := rfl
theorem k37 : chkFn Tryz.prog Tryz.f37 d37 = true := by kernel_rfl

/-- guidevane/guidevaneref01.FormatFlows -/
def b39k0 : DCode :=
 (.region [⟨(some 15), .mov, [.t 3], none, []⟩,
 ⟨(some 16), .movv, [.t 0], none, []⟩,
 ⟨(some 17), .mov, [.t 4], none, []⟩,
 ⟨(some 18), (.iaddr 3), [.t 16, .t 17], none, [1, 2]⟩,
 ⟨(some 19), (.faddr 0 false 1), [.t 18], none, [3]⟩,
 ⟨(some 20), (.load false 1), [.t 19], none, [4]⟩,
 ⟨(some 21), .call, [.f 103, .t 20], none, [5]⟩,
 ⟨(some 22), (.bin .add), [.t 15, .t 21], none, [0, 6]⟩,
 ⟨(some 23), (.bin .add), [.t 22, .c (.str ⟨#[32]⟩)], none, [7]⟩,
 ⟨(some 24), .movv, [.t 0], none, []⟩,
 ⟨(some 25), .mov, [.t 4], none, []⟩,
 ⟨(some 26), (.iaddr 3), [.t 24, .t 25], none, [9, 10]⟩,
 ⟨(some 27), (.faddr 1 false 1), [.t 26], none, [11]⟩,
 ⟨(some 28), (.load false 1), [.t 27], none, [12]⟩,
 ⟨(some 29), .call, [.f 103, .t 28], none, [13, 6]⟩,
 ⟨(some 30), (.bin .add), [.t 23, .t 29], none, [8, 14]⟩,
 ⟨(some 31), (.bin .add), [.t 30, .c (.str ⟨#[32]⟩)], none, [15]⟩,
 ⟨(some 32), .movv, [.t 0], none, []⟩,
 ⟨(some 33), .mov, [.t 4], none, []⟩,
 ⟨(some 34), (.iaddr 3), [.t 32, .t 33], none, [17, 18]⟩,
 ⟨(some 35), (.faddr 2 false 1), [.t 34], none, [19]⟩,
 ⟨(some 36), (.load false 1), [.t 35], none, [20]⟩,
 ⟨(some 37), .call, [.f 103, .t 36], none, [21, 14]⟩,
 ⟨(some 38), (.bin .add), [.t 31, .t 37], none, [16, 22]⟩,
 ⟨(some 3), .mov, [.t 38], none, [23, 22, 0, 1, 2, 3, 4, 5, 6, 7, 8, 9, 10, 11, 12, 13, 14, 15, 16, 17, 18, 19, 20, 21, 22, 23]⟩] true)
def b39k1 : DCode :=
 (.region [⟨(some 9), .mov, [.t 4], none, []⟩,
 ⟨(some 10), (.bin .add), [.t 9, .c (.int .i64 1)], none, [0]⟩,
 ⟨(some 4), .mov, [.t 10], none, [1, 0, 1]⟩] false)
def b39k2 : DCode :=
 (.seq
 (.block 1
 (.seq
 (.seq
 (.region [⟨(some 11), .mov, [.t 4], none, []⟩,
 ⟨(some 12), (.bin .gtr), [.t 11, .c (.int .i64 0)], none, [0]⟩] false)
 (.cond (.t 12)
 (.region [⟨(some 13), .mov, [.t 3], none, []⟩,
 ⟨(some 14), (.bin .add), [.t 13, .c (.str ⟨#[59]⟩)], none, [0]⟩,
 ⟨(some 3), .mov, [.t 14], none, [1, 0, 1]⟩] false)
 .skip))
 (.keep [0, 3, 4] [] b39k0)))
 (.keep [0, 3, 4] [] b39k1))
def b39l0 : DCode := .keep [0, 3, 4] []
 (.seq
 (.seq
 (.region [⟨(some 5), .mov, [.t 4], none, []⟩,
 ⟨(some 6), .movv, [.t 0], none, []⟩,
 ⟨(some 7), .len, [.t 6], none, [1]⟩,
 ⟨(some 8), (.bin .lss), [.t 5, .t 7], none, [0, 2]⟩] false)
 (.cond (.t 8)
 .skip
 (.exit 0)))
 (.keep [0, 3, 4] [] b39k2))
def b39k3 : DCode :=
 (.seq
 (.region [⟨(some 39), .mov, [.t 3], none, []⟩,
 ⟨(some 2), .mov, [.t 39], none, [0, 0]⟩] false)
 .ret)
def b39 : DCode :=
 (.seq
 (.region [⟨(some 2), .mov, [.c (.str ⟨#[]⟩)], none, []⟩] false)
 (.seq
 (.region [⟨(some 3), .mov, [.c (.str ⟨#[]⟩)], none, []⟩] false)
 (.seq
 (.seq
 (.region [⟨(some 4), .mov, [.c (.int .i64 0)], none, []⟩] false)
 (.block 0
 (.loop b39l0)))
 (.keep [3] [] b39k3))))
def d39 : DFn := ⟨1, 40, [.tmp 2], b39⟩
theorem body39 : d39.body = b39 := rfl
theorem res39 : d39.res = [.tmp 2] := rfl
theorem k39 : chkFn Tryz.prog Tryz.f39 d39 = true := by kernel_rfl

/-- guidevane/guidevaneref01.ParseFlows -/
def b38k0 : DCode :=
 (.region [⟨(some 75), .mov, [.t 4], none, []⟩,
 ⟨(some 76), .mov, [.t 8], none, []⟩,
 ⟨(some 77), .mov, [.t 10], none, []⟩,
 ⟨(some 78), .mov, [.t 12], none, []⟩,
 ⟨(some 79), (.build [(.imm (.int .i64 0)), (.imm (.int .i64 0)), (.imm (.int .i64 0))] [(0, 1), (1, 1), (2, 1)]), [.t 76, .t 77, .t 78], none, [1, 2, 3]⟩,
 ⟨(some 80), (.bsl 3), [.t 79], none, [4]⟩,
 ⟨(some 81), (.append 3 24 false), [.t 75, .t 80], none, [0, 5]⟩,
 ⟨(some 4), .mov, [.t 81], none, [6, 6, 0, 1, 2, 3, 4, 5, 6]⟩] false)
def b38k1 : DCode :=
 (.seq
 (.region [⟨(some 37), .movv, [.t 7], none, []⟩,
 ⟨(some 38), (.iaddr 1), [.t 37, .c (.int .i64 0)], none, [0]⟩,
 ⟨(some 39), (.load false 1), [.t 38], none, [1]⟩,
 ⟨(some 40), .call, [.f 111, .t 39, .c (.int .i64 8)], none, [2]⟩,
 ⟨(some 36), .mov, [.t 40], none, [3]⟩,
 ⟨(some 41), (.ext 0), [.t 36], none, [4]⟩,
 ⟨(some 42), (.ext 1), [.t 36], none, [4]⟩,
 ⟨(some 8), .mov, [.t 41], none, [5, 3, 0, 1, 2, 3, 4, 5]⟩,
 ⟨(some 9), .mov, [.t 42], none, [6, 7, 0, 1, 2, 3, 4, 5, 6, 7]⟩] false)
 (.seq
 (.region [⟨(some 44), .movv, [.t 7], none, []⟩,
 ⟨(some 45), (.iaddr 1), [.t 44, .c (.int .i64 1)], none, [0]⟩,
 ⟨(some 46), (.load false 1), [.t 45], none, [1]⟩,
 ⟨(some 47), .call, [.f 111, .t 46, .c (.int .i64 8)], none, [2]⟩,
 ⟨(some 43), .mov, [.t 47], none, [3]⟩,
 ⟨(some 48), (.ext 0), [.t 43], none, [4]⟩,
 ⟨(some 49), (.ext 1), [.t 43], none, [4]⟩,
 ⟨(some 10), .mov, [.t 48], none, [5, 3, 0, 1, 2, 3, 4, 5]⟩,
 ⟨(some 11), .mov, [.t 49], none, [6, 7, 0, 1, 2, 3, 4, 5, 6, 7]⟩] false)
 (.seq
 (.region [⟨(some 51), .movv, [.t 7], none, []⟩,
 ⟨(some 52), (.iaddr 1), [.t 51, .c (.int .i64 2)], none, [0]⟩,
 ⟨(some 53), (.load false 1), [.t 52], none, [1]⟩,
 ⟨(some 54), .call, [.f 111, .t 53, .c (.int .i64 8)], none, [2]⟩,
 ⟨(some 50), .mov, [.t 54], none, [3]⟩,
 ⟨(some 55), (.ext 0), [.t 50], none, [4]⟩,
 ⟨(some 56), (.ext 1), [.t 50], none, [4]⟩,
 ⟨(some 12), .mov, [.t 55], none, [5, 3, 0, 1, 2, 3, 4, 5]⟩,
 ⟨(some 13), .mov, [.t 56], none, [6, 7, 0, 1, 2, 3, 4, 5, 6, 7]⟩] false)
 (.seq
 (.seq
 (.region [⟨(some 57), .mov, [.t 9], none, []⟩,
 ⟨(some 58), (.un .not), [.t 57], none, [0]⟩,
 ⟨(some 59), .mov, [.t 58], none, [1]⟩,
 ⟨(some 60), .mov, [.t 11], (some (59, false)), [2]⟩,
 ⟨(some 61), (.un .not), [.t 60], (some (59, false)), [3, 2]⟩,
 ⟨(some 62), .pick, [.t 59, .c (.bool true), .t 61], none, [2, 4]⟩,
 ⟨(some 63), .mov, [.t 62], none, [5, 2]⟩,
 ⟨(some 64), .mov, [.t 13], (some (63, false)), [6]⟩,
 ⟨(some 65), (.un .not), [.t 64], (some (63, false)), [7, 6]⟩,
 ⟨(some 66), .pick, [.t 63, .c (.bool true), .t 65], none, [6, 8]⟩,
 ⟨(some 67), .mov, [.t 66], none, [9, 6]⟩,
 ⟨(some 68), .mov, [.t 8], (some (67, false)), [10]⟩,
 ⟨(some 69), (.bin .lss), [.t 68, .c (.int .i64 0)], (some (67, false)), [11, 10]⟩,
 ⟨(some 70), .pick, [.t 67, .c (.bool true), .t 69], none, [10, 12]⟩,
 ⟨(some 71), .mov, [.t 70], none, [13, 10]⟩,
 ⟨(some 72), .mov, [.t 10], (some (71, false)), [14]⟩,
 ⟨(some 73), (.bin .lss), [.t 72, .c (.int .i64 0)], (some (71, false)), [15, 14]⟩,
 ⟨(some 74), .pick, [.t 71, .c (.bool true), .t 73], none, [14, 16]⟩] false)
 (.cond (.t 74)
 (.seq
 (.region [⟨(some 2), .mov, [.c (.slc 3 [])], none, []⟩,
 ⟨(some 3), .mov, [.c (.int .i64 7)], none, [0, 0]⟩] false)
 .ret)
 .skip))
 (.keep [4, 5, 6, 8, 10, 12] [4, 81] b38k0)))))
def b38k2 : DCode :=
 (.region [⟨(some 26), .mov, [.t 6], none, []⟩,
 ⟨(some 27), (.bin .add), [.t 26, .c (.int .i64 1)], none, [0]⟩,
 ⟨(some 6), .mov, [.t 27], none, [1, 0, 1]⟩] false)
def b38k3 : DCode :=
 (.seq
 (.block 1
 (.seq
 (.region [⟨(some 28), .movv, [.t 5], none, []⟩,
 ⟨(some 29), .mov, [.t 6], none, []⟩,
 ⟨(some 30), (.iaddr 1), [.t 28, .t 29], none, [0, 1]⟩,
 ⟨(some 31), (.load false 1), [.t 30], none, [2]⟩,
 ⟨(some 32), .call, [.f 101, .t 31, .c (.int .u8 32)], none, [3]⟩,
 ⟨(some 7), .movv, [.t 32], none, [4, 4, 0, 1, 2, 3, 4]⟩] false)
 (.seq
 (.seq
 (.region [⟨(some 33), .movv, [.t 7], none, []⟩,
 ⟨(some 34), .len, [.t 33], none, [0]⟩,
 ⟨(some 35), (.bin .neq), [.t 34, .c (.int .i64 3)], none, [1]⟩] false)
 (.cond (.t 35)
 (.seq
 (.region [⟨(some 2), .mov, [.c (.slc 3 [])], none, []⟩,
 ⟨(some 3), .mov, [.c (.int .i64 7)], none, [0, 0]⟩] false)
 .ret)
 .skip))
 (.keep [4, 5, 6, 7] [4, 81] b38k1))))
 (.keep [4, 5, 6] [4, 81] b38k2))
def b38l0 : DCode := .keep [4, 5, 6] [4, 81]
 (.seq
 (.seq
 (.region [⟨(some 22), .mov, [.t 6], none, []⟩,
 ⟨(some 23), .movv, [.t 5], none, []⟩,
 ⟨(some 24), .len, [.t 23], none, [1]⟩,
 ⟨(some 25), (.bin .lss), [.t 22, .t 24], none, [0, 2]⟩] false)
 (.cond (.t 25)
 .skip
 (.exit 0)))
 (.keep [4, 5, 6] [4, 81] b38k3))
def b38k4 : DCode :=
 (.seq
 (.region [⟨(some 87), .movv, [.t 4], none, []⟩,
 ⟨(some 2), .movv, [.t 87], none, [0, 0]⟩,
 ⟨(some 3), .mov, [.c (.int .i64 0)], none, [1, 0, 1]⟩] false)
 .ret)
def b38k5 : DCode :=
 (.seq
 (.seq
 (.region [⟨(some 82), .movv, [.t 4], none, []⟩,
 ⟨(some 83), .call, [.f 41, .t 82], none, [0]⟩,
 ⟨(some 14), .mov, [.t 83], none, [1, 1, 0, 1]⟩] false)
 (.seq
 (.region [⟨(some 84), .mov, [.t 14], none, []⟩,
 ⟨(some 85), (.bin .neq), [.t 84, .c (.int .i64 0)], none, [0]⟩] false)
 (.cond (.t 85)
 (.seq
 (.region [⟨(some 86), .mov, [.t 14], none, []⟩,
 ⟨(some 2), .mov, [.c (.slc 3 [])], none, []⟩,
 ⟨(some 3), .mov, [.t 86], none, [0, 1, 0, 1]⟩] false)
 .ret)
 .skip)))
 (.keep [4] [4, 81] b38k4))
def b38k6 : DCode :=
 (.seq
 (.region [⟨(some 4), (.ntok 3), [.c (.slc 3 [])], none, []⟩] false)
 (.seq
 (.region [⟨(some 20), .mov, [.t 0], none, []⟩,
 ⟨(some 21), .call, [.f 101, .t 20, .c (.int .u8 59)], none, [0]⟩,
 ⟨(some 5), .movv, [.t 21], none, [1, 1, 0, 1]⟩] false)
 (.seq
 (.seq
 (.region [⟨(some 6), .mov, [.c (.int .i64 0)], none, []⟩] false)
 (.block 0
 (.loop b38l0)))
 (.keep [4] [4, 81] b38k5))))
def b38k7 : DCode :=
 (.seq
 (.seq
 (.region [⟨(some 18), .mov, [.t 0], none, []⟩,
 ⟨(some 19), (.bin .eql), [.t 18, .c (.str ⟨#[]⟩)], none, [0]⟩] false)
 (.cond (.t 19)
 (.seq
 (.region [⟨(some 2), .mov, [.c (.slc 3 [])], none, []⟩,
 ⟨(some 3), .mov, [.c (.int .i64 0)], none, [0, 0]⟩] false)
 .ret)
 .skip))
 (.keep [0] [] b38k6))
def b38 : DCode :=
 (.seq
 (.region [⟨(some 2), .mov, [.c (.slc 3 [])], none, []⟩,
 ⟨(some 3), .mov, [.c (.int .i64 0)], none, [0]⟩] false)
 (.seq
 (.seq
 (.region [⟨(some 15), .mov, [.t 0], none, []⟩,
 ⟨(some 16), .slen, [.t 15], none, [0]⟩,
 ⟨(some 17), (.bin .gtr), [.t 16, .c (.int .i64 60000)], none, [1]⟩] false)
 (.cond (.t 17)
 (.seq
 (.region [⟨(some 2), .mov, [.c (.slc 3 [])], none, []⟩,
 ⟨(some 3), .mov, [.c (.int .i64 8)], none, [0, 0]⟩] false)
 .ret)
 .skip))
 (.keep [0] [] b38k7)))
def d38 : DFn := ⟨1, 88, [.tmp 2, .tmp 3], b38⟩
theorem body38 : d38.body = b38 := rfl
theorem res38 : d38.res = [.tmp 2, .tmp 3] := rfl
theorem k38 : chkFn Tryz.prog Tryz.f38 d38 = true := by kernel_rfl

/-- guidevane/guidevaneref01.SameList -/
def b40k0 : DCode :=
 (.region [⟨(some 15), .mov, [.t 5], none, []⟩,
 ⟨(some 16), (.bin .add), [.t 15, .c (.int .i64 1)], none, [0]⟩,
 ⟨(some 5), .mov, [.t 16], none, [1, 0, 1]⟩] false)
def b40k1 : DCode :=
 (.seq
 (.block 1
 (.seq
 (.region [⟨(some 17), .movv, [.t 0], none, []⟩,
 ⟨(some 18), .mov, [.t 5], none, []⟩,
 ⟨(some 19), (.iaddr 3), [.t 17, .t 18], none, [0, 1]⟩,
 ⟨(some 20), (.load true 3), [.t 19], none, [2]⟩,
 ⟨(some 21), .movv, [.t 1], none, []⟩,
 ⟨(some 22), .mov, [.t 5], none, []⟩,
 ⟨(some 23), (.iaddr 3), [.t 21, .t 22], none, [4, 5]⟩,
 ⟨(some 24), (.load true 3), [.t 23], none, [6]⟩,
 ⟨(some 25), (.eqs [false, false, false] true), [.t 20, .t 24], none, [3, 7]⟩] true)
 (.cond (.t 25)
 (.seq
 (.region [⟨(some 4), .mov, [.c (.bool false)], none, []⟩] false)
 .ret)
 .skip)))
 (.keep [0, 1, 5] [] b40k0))
def b40l0 : DCode := .keep [0, 1, 5] []
 (.seq
 (.seq
 (.region [⟨(some 11), .mov, [.t 5], none, []⟩,
 ⟨(some 12), .movv, [.t 0], none, []⟩,
 ⟨(some 13), .len, [.t 12], none, [1]⟩,
 ⟨(some 14), (.bin .lss), [.t 11, .t 13], none, [0, 2]⟩] false)
 (.cond (.t 14)
 .skip
 (.exit 0)))
 (.keep [0, 1, 5] [] b40k1))
def b40k2 : DCode :=
 (.seq
 (.region [⟨(some 4), .mov, [.c (.bool true)], none, []⟩] false)
 .ret)
def b40k3 : DCode :=
 (.seq
 (.seq
 (.region [⟨(some 5), .mov, [.c (.int .i64 0)], none, []⟩] false)
 (.block 0
 (.loop b40l0)))
 (.keep [] [] b40k2))
def b40 : DCode :=
 (.seq
 (.region [⟨(some 4), .mov, [.c (.bool false)], none, []⟩] false)
 (.seq
 (.seq
 (.region [⟨(some 6), .movv, [.t 0], none, []⟩,
 ⟨(some 7), .len, [.t 6], none, [0]⟩,
 ⟨(some 8), .movv, [.t 1], none, []⟩,
 ⟨(some 9), .len, [.t 8], none, [2]⟩,
 ⟨(some 10), (.bin .neq), [.t 7, .t 9], none, [1, 3]⟩] false)
 (.cond (.t 10)
 (.seq
 (.region [⟨(some 4), .mov, [.c (.bool false)], none, []⟩] false)
 .ret)
 .skip))
 (.keep [0, 1] [] b40k3)))
def d40 : DFn := ⟨2, 26, [.tmp 4], b40⟩
theorem body40 : d40.body = b40 := rfl
theorem res40 : d40.res = [.tmp 4] := rfl
theorem k40 : chkFn Tryz.prog Tryz.f40 d40 = true := by kernel_rfl

/-- guidevane/guidevanelaw01.LakeTableStrings -/
def b5k0 : DCode :=
 (.seq
 (.region [⟨(some 64), .mov, [.t 5], none, []⟩,
 ⟨(some 65), .call, [.f 29, .t 64], none, [0]⟩,
 ⟨(some 63), .mov, [.t 65], none, [1]⟩,
 ⟨(some 66), (.ext 0), [.t 63], none, [2]⟩,
 ⟨(some 67), (.ext 1), [.t 63], none, [2]⟩,
 ⟨(some 10), (.alloc [(.imm (.slc 2 []))]), [], none, []⟩,
 ⟨none, (.store 1), [.t 10, .t 66], none, [5, 3, 1, 0, 1, 2, 3, 5]⟩,
 ⟨(some 11), .mov, [.t 67], none, [4, 6, 0, 1, 2, 3, 4, 5, 6]⟩] false)
 (.seq
 (.region [⟨(some 68), .mov, [.t 11], none, []⟩,
 ⟨(some 69), (.bin .eql), [.t 68, .c (.int .i64 0)], none, [0]⟩,
 ⟨(some 70), .mov, [.t 69], none, [1]⟩,
 ⟨(some 71), (.load true 1), [.t 10], (some (70, true)), [2]⟩,
 ⟨(some 72), (.load true 1), [.t 2], (some (70, true)), [2]⟩,
 ⟨(some 73), .call, [.f 32, .t 71, .t 72], (some (70, true)), [3, 4, 2, 2]⟩,
 ⟨(some 74), .pick, [.t 70, .t 73, .c (.bool false)], none, [2, 5]⟩,
 ⟨(some 4), .mov, [.t 74], none, [6, 5, 0, 1, 2, 3, 4, 5, 6]⟩] false)
 .ret))
def b5k1 : DCode :=
 (.seq
 (.seq
 (.region [⟨(some 60), (.load true 1), [.t 2], none, []⟩,
 ⟨(some 61), .call, [.f 33, .t 60], none, [0]⟩,
 ⟨(some 62), (.bin .neq), [.t 61, .c (.int .i64 0)], none, [1]⟩] false)
 (.cond (.t 62)
 (.seq
 (.region [⟨(some 4), .mov, [.c (.bool true)], none, []⟩] false)
 .ret)
 .skip))
 (.keep [2, 5] [2] b5k0))
def b5k2 : DCode :=
 (.seq
 (.region [⟨(some 32), (.load true 1), [.t 2], none, []⟩,
 ⟨(some 33), .call, [.f 28, .t 32], none, [0]⟩,
 ⟨(some 34), .call, [.f 27, .t 33], none, [1, 1]⟩,
 ⟨(some 5), .mov, [.t 34], none, [2, 2, 0, 1, 2]⟩] false)
 (.seq
 (.region [⟨(some 36), .mov, [.t 1], none, []⟩,
 ⟨(some 37), .call, [.f 29, .t 36], none, [0]⟩,
 ⟨(some 35), .mov, [.t 37], none, [1]⟩,
 ⟨(some 38), (.ext 0), [.t 35], none, [2]⟩,
 ⟨(some 39), (.ext 1), [.t 35], none, [2]⟩,
 ⟨(some 6), (.alloc [(.imm (.slc 2 []))]), [], none, []⟩,
 ⟨none, (.store 1), [.t 6, .t 38], none, [5, 3, 1, 0, 1, 2, 3, 5]⟩,
 ⟨(some 7), .mov, [.t 39], none, [4, 6, 0, 1, 2, 3, 4, 5, 6]⟩] false)
 (.seq
 (.region [⟨(some 41), .mov, [.t 1], none, []⟩,
 ⟨(some 42), .call, [.f 30, .t 41], none, [0]⟩,
 ⟨(some 40), .mov, [.t 42], none, [1]⟩,
 ⟨(some 43), (.ext 0), [.t 40], none, [2]⟩,
 ⟨(some 44), (.ext 1), [.t 40], none, [2]⟩,
 ⟨(some 8), (.alloc [(.imm (.slc 2 []))]), [], none, []⟩,
 ⟨none, (.store 1), [.t 8, .t 43], none, [5, 3, 1, 0, 1, 2, 3, 5]⟩,
 ⟨(some 9), .mov, [.t 44], none, [4, 6, 0, 1, 2, 3, 4, 5, 6]⟩] false)
 (.seq
 (.seq
 (.region [⟨(some 45), .mov, [.t 5], none, []⟩,
 ⟨(some 46), (.load true 1), [.t 2], none, []⟩,
 ⟨(some 47), .call, [.f 31, .t 46], none, [1]⟩,
 ⟨(some 48), (.bin .neq), [.t 45, .t 47], none, [0, 2]⟩,
 ⟨(some 49), .mov, [.t 48], none, [3, 2]⟩,
 ⟨(some 50), .mov, [.t 7], (some (49, false)), [4]⟩,
 ⟨(some 51), .mov, [.t 9], (some (49, false)), [4]⟩,
 ⟨(some 52), (.bin .neq), [.t 50, .t 51], (some (49, false)), [5, 6, 4]⟩,
 ⟨(some 53), .pick, [.t 49, .c (.bool true), .t 52], none, [4, 7]⟩,
 ⟨(some 54), .mov, [.t 53], none, [8, 4]⟩,
 ⟨(some 55), (.load true 1), [.t 6], (some (54, false)), [9]⟩,
 ⟨(some 56), (.load true 1), [.t 8], (some (54, false)), [9]⟩,
 ⟨(some 57), .call, [.f 32, .t 55, .t 56], (some (54, false)), [10, 11, 9, 9]⟩,
 ⟨(some 58), (.un .not), [.t 57], (some (54, false)), [12, 9]⟩,
 ⟨(some 59), .pick, [.t 54, .c (.bool true), .t 58], none, [9, 13]⟩] false)
 (.cond (.t 59)
 (.seq
 (.region [⟨(some 4), .mov, [.c (.bool false)], none, []⟩] false)
 .ret)
 .skip))
 (.keep [2, 5] [2] b5k1)))))
def b5k3 : DCode :=
 (.seq
 (.seq
 (.region [⟨(some 14), (.load true 1), [.t 2], none, []⟩,
 ⟨(some 15), .call, [.f 26, .t 14], none, [0]⟩,
 ⟨(some 16), (.un .not), [.t 15], none, [1]⟩,
 ⟨(some 17), .mov, [.t 16], none, [2, 1]⟩,
 ⟨(some 18), .mov, [.t 1], (some (17, false)), [3]⟩,
 ⟨(some 19), .slen, [.t 18], (some (17, false)), [4, 3]⟩,
 ⟨(some 20), (.bin .gtr), [.t 19, .c (.int .i64 300)], (some (17, false)), [5, 3]⟩,
 ⟨(some 21), .mov, [.t 20], (some (17, false)), [6, 3, 3]⟩,
 ⟨(some 22), .mov, [.t 1], (some (21, true)), [7]⟩,
 ⟨(some 23), .slen, [.t 22], (some (21, true)), [8, 7]⟩,
 ⟨(some 24), (.bin .leq), [.t 23, .c (.int .i64 60000)], (some (21, true)), [9, 7]⟩,
 ⟨(some 25), .pick, [.t 21, .t 24, .c (.bool false)], (some (17, false)), [7, 10, 3]⟩,
 ⟨(some 26), .pick, [.t 17, .c (.bool true), .t 25], none, [3, 11]⟩,
 ⟨(some 27), .mov, [.t 26], none, [12, 7]⟩,
 ⟨(some 28), .mov, [.t 1], (some (27, false)), [13]⟩,
 ⟨(some 29), .slen, [.t 28], (some (27, false)), [14, 13]⟩,
 ⟨(some 30), (.bin .gtr), [.t 29, .c (.int .i64 60010)], (some (27, false)), [15, 13]⟩,
 ⟨(some 31), .pick, [.t 27, .c (.bool true), .t 30], none, [13, 16]⟩] false)
 (.cond (.t 31)
 (.seq
 (.region [⟨(some 4), .mov, [.c (.bool true)], none, []⟩] false)
 .ret)
 .skip))
 (.keep [1, 2] [2] b5k2))
def b5 : DCode :=
 (.seq
 (.region [⟨(some 2), .box, [.t 0], none, []⟩,
 ⟨(some 4), .mov, [.c (.bool false)], none, []⟩] false)
 (.seq
 (.seq
 (.region [⟨(some 12), .call, [.f 25], none, []⟩,
 ⟨(some 13), (.un .not), [.t 12], none, [0]⟩] false)
 (.cond (.t 13)
 (.seq
 (.region [⟨(some 4), .mov, [.c (.bool false)], none, []⟩] false)
 .ret)
 .skip))
 (.keep [1, 2] [2] b5k3)))
def d5 : DFn := ⟨2, 75, [.tmp 4], b5⟩
theorem k5 : chkFn Tryz.prog Tryz.f5 d5 = true := by kernel_rfl

/-- guidevane/guidevanelaw01.LakeFlowStrings -/
def b6k0 : DCode :=
 (.seq
 (.region [⟨(some 65), .mov, [.t 5], none, []⟩,
 ⟨(some 66), .call, [.f 37, .t 65], none, [0]⟩,
 ⟨(some 64), .mov, [.t 66], none, [1]⟩,
 ⟨(some 67), (.ext 0), [.t 64], none, [2]⟩,
 ⟨(some 68), (.ext 1), [.t 64], none, [2]⟩,
 ⟨(some 10), .movv, [.t 67], none, [3, 1, 0, 1, 2, 3]⟩,
 ⟨(some 11), .mov, [.t 68], none, [4, 5, 0, 1, 2, 3, 4, 5]⟩] false)
 (.seq
 (.region [⟨(some 69), .mov, [.t 11], none, []⟩,
 ⟨(some 70), (.bin .eql), [.t 69, .c (.int .i64 0)], none, [0]⟩,
 ⟨(some 71), .mov, [.t 70], none, [1]⟩,
 ⟨(some 72), .movv, [.t 10], (some (71, true)), [2]⟩,
 ⟨(some 73), .movv, [.t 0], (some (71, true)), [2]⟩,
 ⟨(some 74), .call, [.f 40, .t 72, .t 73], (some (71, true)), [3, 4, 2, 2]⟩,
 ⟨(some 75), .pick, [.t 71, .t 74, .c (.bool false)], none, [2, 5]⟩,
 ⟨(some 4), .mov, [.t 75], none, [6, 5, 0, 1, 2, 3, 4, 5, 6]⟩] false)
 .ret))
def b6k1 : DCode :=
 (.seq
 (.seq
 (.region [⟨(some 61), .movv, [.t 0], none, []⟩,
 ⟨(some 62), .call, [.f 41, .t 61], none, [0]⟩,
 ⟨(some 63), (.bin .neq), [.t 62, .c (.int .i64 0)], none, [1]⟩] false)
 (.cond (.t 63)
 (.seq
 (.region [⟨(some 4), .mov, [.c (.bool true)], none, []⟩] false)
 .ret)
 .skip))
 (.keep [0, 5] [] b6k0))
def b6k2 : DCode :=
 (.seq
 (.region [⟨(some 33), .movv, [.t 0], none, []⟩,
 ⟨(some 34), .call, [.f 36, .t 33], none, [0]⟩,
 ⟨(some 35), .call, [.f 35, .t 34], none, [1, 1]⟩,
 ⟨(some 5), .mov, [.t 35], none, [2, 2, 0, 1, 2]⟩] false)
 (.seq
 (.region [⟨(some 37), .mov, [.t 1], none, []⟩,
 ⟨(some 38), .call, [.f 37, .t 37], none, [0]⟩,
 ⟨(some 36), .mov, [.t 38], none, [1]⟩,
 ⟨(some 39), (.ext 0), [.t 36], none, [2]⟩,
 ⟨(some 40), (.ext 1), [.t 36], none, [2]⟩,
 ⟨(some 6), .movv, [.t 39], none, [3, 1, 0, 1, 2, 3]⟩,
 ⟨(some 7), .mov, [.t 40], none, [4, 5, 0, 1, 2, 3, 4, 5]⟩] false)
 (.seq
 (.region [⟨(some 42), .mov, [.t 1], none, []⟩,
 ⟨(some 43), .call, [.f 38, .t 42], none, [0]⟩,
 ⟨(some 41), .mov, [.t 43], none, [1]⟩,
 ⟨(some 44), (.ext 0), [.t 41], none, [2]⟩,
 ⟨(some 45), (.ext 1), [.t 41], none, [2]⟩,
 ⟨(some 8), .movv, [.t 44], none, [3, 1, 0, 1, 2, 3]⟩,
 ⟨(some 9), .mov, [.t 45], none, [4, 5, 0, 1, 2, 3, 4, 5]⟩] false)
 (.seq
 (.seq
 (.region [⟨(some 46), .mov, [.t 5], none, []⟩,
 ⟨(some 47), .movv, [.t 0], none, []⟩,
 ⟨(some 48), .call, [.f 39, .t 47], none, [1]⟩,
 ⟨(some 49), (.bin .neq), [.t 46, .t 48], none, [0, 2]⟩,
 ⟨(some 50), .mov, [.t 49], none, [3, 2]⟩,
 ⟨(some 51), .mov, [.t 7], (some (50, false)), [4]⟩,
 ⟨(some 52), .mov, [.t 9], (some (50, false)), [4]⟩,
 ⟨(some 53), (.bin .neq), [.t 51, .t 52], (some (50, false)), [5, 6, 4]⟩,
 ⟨(some 54), .pick, [.t 50, .c (.bool true), .t 53], none, [4, 7]⟩,
 ⟨(some 55), .mov, [.t 54], none, [8, 4]⟩,
 ⟨(some 56), .movv, [.t 6], (some (55, false)), [9]⟩,
 ⟨(some 57), .movv, [.t 8], (some (55, false)), [9]⟩,
 ⟨(some 58), .call, [.f 40, .t 56, .t 57], (some (55, false)), [10, 11, 9, 9]⟩,
 ⟨(some 59), (.un .not), [.t 58], (some (55, false)), [12, 9]⟩,
 ⟨(some 60), .pick, [.t 55, .c (.bool true), .t 59], none, [9, 13]⟩] false)
 (.cond (.t 60)
 (.seq
 (.region [⟨(some 4), .mov, [.c (.bool false)], none, []⟩] false)
 .ret)
 .skip))
 (.keep [0, 5] [] b6k1)))))
def b6k3 : DCode :=
 (.seq
 (.seq
 (.region [⟨(some 14), .movv, [.t 0], none, []⟩,
 ⟨(some 15), .len, [.t 14], none, [0]⟩,
 ⟨(some 16), .call, [.f 34, .t 15], none, [1]⟩,
 ⟨(some 17), (.un .not), [.t 16], none, [2]⟩,
 ⟨(some 18), .mov, [.t 17], none, [3, 2]⟩,
 ⟨(some 19), .mov, [.t 1], (some (18, false)), [4]⟩,
 ⟨(some 20), .slen, [.t 19], (some (18, false)), [5, 4]⟩,
 ⟨(some 21), (.bin .gtr), [.t 20, .c (.int .i64 300)], (some (18, false)), [6, 4]⟩,
 ⟨(some 22), .mov, [.t 21], (some (18, false)), [7, 4, 4]⟩,
 ⟨(some 23), .mov, [.t 1], (some (22, true)), [8]⟩,
 ⟨(some 24), .slen, [.t 23], (some (22, true)), [9, 8]⟩,
 ⟨(some 25), (.bin .leq), [.t 24, .c (.int .i64 60000)], (some (22, true)), [10, 8]⟩,
 ⟨(some 26), .pick, [.t 22, .t 25, .c (.bool false)], (some (18, false)), [8, 11, 4]⟩,
 ⟨(some 27), .pick, [.t 18, .c (.bool true), .t 26], none, [4, 12]⟩,
 ⟨(some 28), .mov, [.t 27], none, [13, 8]⟩,
 ⟨(some 29), .mov, [.t 1], (some (28, false)), [14]⟩,
 ⟨(some 30), .slen, [.t 29], (some (28, false)), [15, 14]⟩,
 ⟨(some 31), (.bin .gtr), [.t 30, .c (.int .i64 60010)], (some (28, false)), [16, 14]⟩,
 ⟨(some 32), .pick, [.t 28, .c (.bool true), .t 31], none, [14, 17]⟩] false)
 (.cond (.t 32)
 (.seq
 (.region [⟨(some 4), .mov, [.c (.bool true)], none, []⟩] false)
 .ret)
 .skip))
 (.keep [0, 1] [] b6k2))
def b6 : DCode :=
 (.seq
 (.region [⟨(some 4), .mov, [.c (.bool false)], none, []⟩] false)
 (.seq
 (.seq
 (.region [⟨(some 12), .call, [.f 25], none, []⟩,
 ⟨(some 13), (.un .not), [.t 12], none, [0]⟩] false)
 (.cond (.t 13)
 (.seq
 (.region [⟨(some 4), .mov, [.c (.bool false)], none, []⟩] false)
 .ret)
 .skip))
 (.keep [0, 1] [] b6k3)))
def d6 : DFn := ⟨2, 76, [.tmp 4], b6⟩
theorem body6 : d6.body = b6 := rfl
theorem res6 : d6.res = [.tmp 4] := rfl
theorem k6 : chkFn Tryz.prog Tryz.f6 d6 = true := by kernel_rfl

/-- guidevane/guidevanetop.TopLakeKept -/
def b7k0 : DCode :=
 (.seq
 (.region [⟨(some 137), .mov, [.t 13], none, []⟩,
 ⟨(some 138), .movv, [.t 2], none, []⟩,
 ⟨(some 139), .mov, [.t 15], none, []⟩,
 ⟨(some 140), (.iaddr 3), [.t 138, .t 139], none, [1, 2]⟩,
 ⟨(some 141), (.faddr 0 false 1), [.t 140], none, [3]⟩,
 ⟨(some 142), (.load false 1), [.t 141], none, [4]⟩,
 ⟨(some 143), (.bin .add), [.t 137, .t 142], none, [0, 5]⟩,
 ⟨(some 144), .movv, [.t 2], none, []⟩,
 ⟨(some 145), .mov, [.t 15], none, []⟩,
 ⟨(some 146), (.iaddr 3), [.t 144, .t 145], none, [7, 8]⟩,
 ⟨(some 147), (.faddr 1 false 1), [.t 146], none, [9]⟩,
 ⟨(some 148), (.load false 1), [.t 147], none, [10]⟩,
 ⟨(some 149), (.bin .add), [.t 143, .t 148], none, [6, 11]⟩,
 ⟨(some 13), .mov, [.t 149], none, [12, 0, 1, 2, 3, 4, 5, 6, 7, 8, 9, 10, 11, 12]⟩] true)
 (.region [⟨(some 150), .mov, [.t 14], none, []⟩,
 ⟨(some 151), .movv, [.t 2], none, []⟩,
 ⟨(some 152), .mov, [.t 15], none, []⟩,
 ⟨(some 153), (.iaddr 3), [.t 151, .t 152], none, [1, 2]⟩,
 ⟨(some 154), (.faddr 0 false 1), [.t 153], none, [3]⟩,
 ⟨(some 155), (.load false 1), [.t 154], none, [4]⟩,
 ⟨(some 156), .movv, [.t 2], none, []⟩,
 ⟨(some 157), .mov, [.t 15], none, []⟩,
 ⟨(some 158), (.iaddr 3), [.t 156, .t 157], none, [6, 7]⟩,
 ⟨(some 159), (.faddr 2 false 1), [.t 158], none, [8]⟩,
 ⟨(some 160), (.load false 1), [.t 159], none, [9]⟩,
 ⟨(some 161), (.bin .add), [.t 155, .t 160], none, [5, 10]⟩,
 ⟨(some 162), (.bsl 1), [.t 161], none, [11]⟩,
 ⟨(some 163), (.append 1 8 false), [.t 150, .t 162], none, [0, 12]⟩,
 ⟨(some 14), .mov, [.t 163], none, [13, 13, 0, 1, 2, 3, 4, 5, 6, 7, 8, 9, 10, 11, 12, 13]⟩] true))
def b7k1 : DCode :=
 (.region [⟨(some 122), .mov, [.t 15], none, []⟩,
 ⟨(some 123), (.bin .add), [.t 122, .c (.int .i64 1)], none, [0]⟩,
 ⟨(some 15), .mov, [.t 123], none, [1, 0, 1]⟩] false)
def b7k2 : DCode :=
 (.seq
 (.block 1
 (.seq
 (.seq
 (.region [⟨(some 124), .movv, [.t 2], none, []⟩,
 ⟨(some 125), .mov, [.t 15], none, []⟩,
 ⟨(some 126), (.iaddr 3), [.t 124, .t 125], none, [0, 1]⟩,
 ⟨(some 127), (.faddr 0 false 1), [.t 126], none, [2]⟩,
 ⟨(some 128), (.load false 1), [.t 127], none, [3]⟩,
 ⟨(some 129), .movv, [.t 2], none, []⟩,
 ⟨(some 130), .mov, [.t 15], none, []⟩,
 ⟨(some 131), (.iaddr 3), [.t 129, .t 130], none, [5, 6]⟩,
 ⟨(some 132), (.faddr 2 false 1), [.t 131], none, [7]⟩,
 ⟨(some 133), (.load false 1), [.t 132], none, [8]⟩,
 ⟨(some 134), (.bin .add), [.t 128, .t 133], none, [4, 9]⟩,
 ⟨(some 135), .call, [.f 47, .t 134, .c (.int .i64 (-10000000)), .c (.int .i64 10000000)], none, [10]⟩,
 ⟨(some 136), (.un .not), [.t 135], none, [11]⟩] true)
 (.cond (.t 136)
 (.seq
 (.region [⟨(some 6), .mov, [.c (.bool true)], none, []⟩] false)
 .ret)
 .skip))
 (.keep [2, 3, 4, 7, 11, 12, 13, 14, 15] [3, 4, 7, 12, 14, 163] b7k0)))
 (.keep [2, 3, 4, 7, 11, 12, 13, 14, 15] [3, 4, 7, 12, 14, 163] b7k1))
def b7l0 : DCode := .keep [2, 3, 4, 7, 11, 12, 13, 14, 15] [3, 4, 7, 12, 14, 163]
 (.seq
 (.seq
 (.region [⟨(some 118), .mov, [.t 15], none, []⟩,
 ⟨(some 119), .movv, [.t 2], none, []⟩,
 ⟨(some 120), .len, [.t 119], none, [1]⟩,
 ⟨(some 121), (.bin .lss), [.t 118, .t 120], none, [0, 2]⟩] false)
 (.cond (.t 121)
 .skip
 (.exit 0)))
 (.keep [2, 3, 4, 7, 11, 12, 13, 14, 15] [3, 4, 7, 12, 14, 163] b7k2))
def b7k3 : DCode :=
 (.region [⟨(some 232), .mov, [.t 17], none, []⟩,
 ⟨(some 233), .mov, [.t 19], none, []⟩,
 ⟨(some 234), (.load true 2), [.t 20], none, []⟩,
 ⟨(some 235), (.build [(.imm (.int .i64 0)), (.imm (.int .i64 0)), (.imm (.int .i64 0))] [(0, 1), (1, 2)]), [.t 233, .t 234], none, [1, 2]⟩,
 ⟨(some 236), (.bsl 3), [.t 235], none, [3]⟩,
 ⟨(some 237), (.append 3 24 false), [.t 232, .t 236], none, [0, 4]⟩,
 ⟨(some 17), .mov, [.t 237], none, [5, 5, 0, 1, 2, 3, 4, 5]⟩] false)
def b7k4 : DCode :=
 (.region [⟨(some 203), .mov, [.t 19], none, []⟩,
 ⟨(some 204), (.bin .add), [.t 203, .c (.int .i64 1)], none, [0]⟩,
 ⟨(some 19), .mov, [.t 204], none, [1, 0, 1]⟩] false)
def b7k5 : DCode :=
 (.seq
 (.block 3
 (.seq
 (.region [⟨(some 206), (.load true 1), [.t 7], none, []⟩,
 ⟨(some 207), .call, [.f 28, .t 206], none, [0]⟩,
 ⟨(some 208), .movv, [.t 18], none, []⟩,
 ⟨(some 209), .mov, [.t 19], none, []⟩,
 ⟨(some 210), (.iaddr 2), [.t 208, .t 209], none, [2, 3]⟩,
 ⟨(some 211), (.faddr 0 false 1), [.t 210], none, [4]⟩,
 ⟨(some 212), (.load false 1), [.t 211], none, [5]⟩,
 ⟨(some 213), .call, [.f 49, .t 207, .t 212], none, [1, 6, 1]⟩,
 ⟨(some 205), .mov, [.t 213], none, [7]⟩,
 ⟨(some 214), (.ext 0), [.t 205], none, [8]⟩,
 ⟨(some 215), (.ext 1), [.t 205], none, [8]⟩,
 ⟨(some 20), (.alloc [(.imm (.int .i64 0)), (.imm (.int .i64 0))]), [], none, []⟩,
 ⟨none, (.store 2), [.t 20, .t 214], none, [11, 9, 7, 0, 1, 2, 3, 4, 5, 6, 7, 8, 9, 11]⟩,
 ⟨(some 21), .mov, [.t 215], none, [10, 12, 0, 1, 2, 3, 4, 5, 6, 7, 8, 9, 10, 11, 12]⟩] true)
 (.seq
 (.seq
 (.region [⟨(some 216), .mov, [.t 21], none, []⟩,
 ⟨(some 217), (.bin .neq), [.t 216, .c (.int .i64 0)], none, [0]⟩,
 ⟨(some 218), .mov, [.t 217], none, [1]⟩,
 ⟨(some 219), (.load true 1), [.t 7], (some (218, false)), [2]⟩,
 ⟨(some 220), (.faddr 0 false 1), [.t 20], (some (218, false)), [2]⟩,
 ⟨(some 221), (.load false 1), [.t 220], (some (218, false)), [4, 2]⟩,
 ⟨(some 222), .call, [.f 50, .t 219, .t 221], (some (218, false)), [3, 5, 2, 2]⟩,
 ⟨(some 223), (.un .not), [.t 222], (some (218, false)), [6, 2]⟩,
 ⟨(some 224), .pick, [.t 218, .c (.bool true), .t 223], none, [2, 7]⟩,
 ⟨(some 225), .mov, [.t 224], none, [8, 6]⟩,
 ⟨(some 226), (.load true 1), [.t 7], (some (225, false)), [9]⟩,
 ⟨(some 227), (.faddr 1 false 1), [.t 20], (some (225, false)), [9]⟩,
 ⟨(some 228), (.load false 1), [.t 227], (some (225, false)), [11, 9]⟩,
 ⟨(some 229), .call, [.f 50, .t 226, .t 228], (some (225, false)), [10, 12, 9, 9]⟩,
 ⟨(some 230), (.un .not), [.t 229], (some (225, false)), [13, 9]⟩,
 ⟨(some 231), .pick, [.t 225, .c (.bool true), .t 230], none, [9, 14]⟩] false)
 (.cond (.t 231)
 (.seq
 (.region [⟨(some 6), .mov, [.c (.bool false)], none, []⟩] false)
 .ret)
 .skip))
 (.keep [4, 7, 14, 17, 18, 19, 20] [4, 7, 14, 17, 20, 163, 198, 237] b7k3))))
 (.keep [4, 7, 14, 17, 18, 19] [4, 7, 14, 17, 163, 198, 237] b7k4))
def b7l1 : DCode := .keep [4, 7, 14, 17, 18, 19] [4, 7, 14, 17, 163, 198, 237]
 (.seq
 (.seq
 (.region [⟨(some 199), .mov, [.t 19], none, []⟩,
 ⟨(some 200), .movv, [.t 18], none, []⟩,
 ⟨(some 201), .len, [.t 200], none, [1]⟩,
 ⟨(some 202), (.bin .lss), [.t 199, .t 201], none, [0, 2]⟩] false)
 (.cond (.t 202)
 .skip
 (.exit 2)))
 (.keep [4, 7, 14, 17, 18, 19] [4, 7, 14, 17, 163, 198, 237] b7k5))
def b7k6 : DCode :=
 (.seq
 (.region [⟨(some 270), .movv, [.t 17], none, []⟩,
 ⟨(some 271), .call, [.f 53, .t 270], none, [0]⟩,
 ⟨(some 272), .mov, [.t 24], none, []⟩,
 ⟨(some 273), .mov, [.t 24], none, []⟩,
 ⟨(some 274), (.build [(.imm (.int .i64 0)), (.imm (.int .i64 0))] [(0, 1), (1, 1)]), [.t 272, .t 273], none, [2, 3]⟩,
 ⟨(some 275), (.build [(.imm (.int .i64 0)), (.imm (.int .i64 0)), (.imm (.int .i64 0))] [(1, 2)]), [.t 274], none, [4]⟩,
 ⟨(some 276), (.bsl 3), [.t 275], none, [5]⟩,
 ⟨(some 277), (.append 3 24 false), [.t 271, .t 276], none, [1, 6, 1]⟩,
 ⟨(some 25), .movv, [.t 277], none, [7, 7, 0, 1, 2, 3, 4, 5, 6, 7]⟩] false)
 (.seq
 (.region [⟨(some 279), (.load true 1), [.t 7], none, []⟩,
 ⟨(some 280), .call, [.f 28, .t 279], none, [0]⟩,
 ⟨(some 281), .movv, [.t 14], none, []⟩,
 ⟨(some 282), .call, [.f 52, .t 281], none, [2, 1]⟩,
 ⟨(some 283), .movv, [.t 25], none, []⟩,
 ⟨(some 284), .call, [.f 54, .t 280, .t 282, .t 283], none, [1, 3, 4, 3]⟩,
 ⟨(some 278), .mov, [.t 284], none, [5]⟩,
 ⟨(some 285), (.ext 0), [.t 278], none, [6]⟩,
 ⟨(some 286), (.ext 1), [.t 278], none, [6]⟩,
 ⟨(some 26), .movv, [.t 285], none, [7, 5, 0, 1, 2, 3, 4, 5, 6, 7]⟩,
 ⟨(some 27), .mov, [.t 286], none, [8, 9, 0, 1, 2, 3, 4, 5, 6, 7, 8, 9]⟩] false)
 (.seq
 (.region [⟨(some 287), .mov, [.t 27], none, []⟩,
 ⟨(some 288), (.bin .eql), [.t 287, .c (.int .i64 0)], none, [0]⟩,
 ⟨(some 289), .mov, [.t 288], none, [1]⟩,
 ⟨(some 290), .movv, [.t 26], (some (289, true)), [2]⟩,
 ⟨(some 291), .len, [.t 290], (some (289, true)), [3, 2]⟩,
 ⟨(some 292), .call, [.f 47, .t 291, .c (.int .i64 1), .c (.int .i64 2)], (some (289, true)), [4, 2, 2]⟩,
 ⟨(some 293), .pick, [.t 289, .t 292, .c (.bool false)], none, [2, 5]⟩,
 ⟨(some 6), .mov, [.t 293], none, [6, 5, 0, 1, 2, 3, 4, 5, 6]⟩] false)
 .ret)))
def b7k7 : DCode :=
 (.seq
 (.region [⟨(some 260), .movv, [.t 17], none, []⟩,
 ⟨(some 261), (.iaddr 3), [.t 260, .c (.int .i64 0)], none, [0]⟩,
 ⟨(some 262), (.faddr 1 true 2), [.t 261], none, [1]⟩,
 ⟨(some 263), (.faddr 1 false 1), [.t 262], none, [2]⟩,
 ⟨(some 264), (.load false 1), [.t 263], none, [3]⟩,
 ⟨(some 265), (.bin .add), [.t 264, .c (.int .i64 1)], none, [4]⟩,
 ⟨(some 24), .mov, [.t 265], none, [5, 0, 1, 2, 3, 4, 5]⟩] false)
 (.seq
 (.seq
 (.region [⟨(some 266), (.load true 1), [.t 7], none, []⟩,
 ⟨(some 267), .mov, [.t 24], none, []⟩,
 ⟨(some 268), .call, [.f 50, .t 266, .t 267], none, [0, 1]⟩,
 ⟨(some 269), (.un .not), [.t 268], none, [2]⟩] false)
 (.cond (.t 269)
 (.seq
 (.region [⟨(some 6), .mov, [.c (.bool true)], none, []⟩] false)
 .ret)
 .skip))
 (.keep [7, 14, 17, 24] [7, 14, 17, 163, 237] b7k6)))
def b7k8 : DCode :=
 (.seq
 (.region [⟨(some 239), (.load true 1), [.t 7], none, []⟩,
 ⟨(some 240), .call, [.f 28, .t 239], none, [0]⟩,
 ⟨(some 241), .movv, [.t 14], none, []⟩,
 ⟨(some 242), .call, [.f 52, .t 241], none, [2, 1]⟩,
 ⟨(some 243), .movv, [.t 17], none, []⟩,
 ⟨(some 244), .call, [.f 53, .t 243], none, [4, 3]⟩,
 ⟨(some 245), .call, [.f 51, .t 240, .t 242, .t 244], none, [1, 3, 5, 5]⟩,
 ⟨(some 238), .mov, [.t 245], none, [6]⟩,
 ⟨(some 246), (.ext 0), [.t 238], none, [7]⟩,
 ⟨(some 247), (.ext 1), [.t 238], none, [7]⟩,
 ⟨(some 22), (.alloc [(.imm (.int .i64 0)), (.imm (.int .i64 0))]), [], none, []⟩,
 ⟨none, (.store 2), [.t 22, .t 246], none, [10, 8, 6, 0, 1, 2, 3, 4, 5, 6, 7, 8, 10]⟩,
 ⟨(some 23), .mov, [.t 247], none, [9, 11, 0, 1, 2, 3, 4, 5, 6, 7, 8, 9, 10, 11]⟩] false)
 (.seq
 (.seq
 (.region [⟨(some 248), .mov, [.t 23], none, []⟩,
 ⟨(some 249), (.bin .neq), [.t 248, .c (.int .i64 0)], none, [0]⟩,
 ⟨(some 250), .mov, [.t 249], none, [1]⟩,
 ⟨(some 251), (.faddr 0 false 1), [.t 4], (some (250, false)), [2]⟩,
 ⟨(some 252), (.load false 1), [.t 251], (some (250, false)), [3, 2]⟩,
 ⟨(some 253), (.faddr 0 false 1), [.t 22], (some (250, false)), [2]⟩,
 ⟨(some 254), (.load false 1), [.t 253], (some (250, false)), [5, 2]⟩,
 ⟨(some 255), (.faddr 1 false 1), [.t 22], (some (250, false)), [2]⟩,
 ⟨(some 256), (.load false 1), [.t 255], (some (250, false)), [7, 2]⟩,
 ⟨(some 257), .call, [.f 47, .t 252, .t 254, .t 256], (some (250, false)), [4, 6, 8, 2, 2]⟩,
 ⟨(some 258), (.un .not), [.t 257], (some (250, false)), [9, 2]⟩,
 ⟨(some 259), .pick, [.t 250, .c (.bool true), .t 258], none, [2, 10]⟩] false)
 (.cond (.t 259)
 (.seq
 (.region [⟨(some 6), .mov, [.c (.bool false)], none, []⟩] false)
 .ret)
 .skip))
 (.keep [7, 14, 17] [7, 14, 17, 163, 237] b7k7)))
def b7k9 : DCode :=
 (.seq
 (.region [⟨(some 17), (.ntok 3), [.c (.slc 3 [])], none, []⟩] false)
 (.seq
 (.region [⟨(some 195), (.load true 2), [.t 4], none, []⟩,
 ⟨(some 196), (.bsl 2), [.t 195], none, [0]⟩,
 ⟨(some 197), .movv, [.t 11], none, []⟩,
 ⟨(some 198), (.append 2 16 false), [.t 196, .t 197], none, [1, 2]⟩,
 ⟨(some 18), .movv, [.t 198], none, [3, 3, 0, 1, 2, 3]⟩] false)
 (.seq
 (.seq
 (.region [⟨(some 19), .mov, [.c (.int .i64 0)], none, []⟩] false)
 (.block 2
 (.loop b7l1)))
 (.keep [4, 7, 14, 17] [4, 7, 14, 17, 163, 237] b7k8))))
def b7k10 : DCode :=
 (.seq
 (.seq
 (.region [⟨(some 192), (.faddr 1 false 1), [.t 12], none, []⟩,
 ⟨(some 193), (.load false 1), [.t 192], none, [0]⟩,
 ⟨(some 194), (.bin .gtr), [.t 193, .c (.int .i64 0)], none, [1]⟩] false)
 (.cond (.t 194)
 (.seq
 (.region [⟨(some 6), .mov, [.c (.bool true)], none, []⟩] false)
 .ret)
 .skip))
 (.keep [4, 7, 11, 14] [4, 7, 14, 163] b7k9))
def b7k11 : DCode :=
 (.seq
 (.region [⟨(some 164), .movv, [.t 11], none, []⟩,
 ⟨(some 165), .movv, [.t 11], none, []⟩,
 ⟨(some 166), .len, [.t 165], none, [1]⟩,
 ⟨(some 167), (.bin .sub), [.t 166, .c (.int .i64 1)], none, [2]⟩,
 ⟨(some 168), (.iaddr 2), [.t 164, .t 167], none, [0, 3]⟩,
 ⟨(some 169), (.load true 2), [.t 168], none, [4]⟩,
 ⟨(some 16), (.alloc [(.imm (.int .i64 0)), (.imm (.int .i64 0))]), [], none, []⟩,
 ⟨none, (.store 2), [.t 16, .t 169], none, [6, 5, 0, 1, 2, 3, 4, 5, 6]⟩] false)
 (.seq
 (.seq
 (.region [⟨(some 170), (.load true 3), [.t 3], none, []⟩,
 ⟨(some 171), (.load true 2), [.t 16], none, []⟩,
 ⟨(some 172), .call, [.f 48, .t 170, .t 171], none, [0, 1]⟩,
 ⟨(some 173), (.bin .neq), [.t 172, .c (.int .i64 0)], none, [2]⟩,
 ⟨(some 174), .mov, [.t 173], none, [3, 2]⟩,
 ⟨(some 175), (.faddr 0 false 1), [.t 16], (some (174, false)), [4]⟩,
 ⟨(some 176), (.load false 1), [.t 175], (some (174, false)), [5, 4]⟩,
 ⟨(some 177), (.faddr 1 false 1), [.t 16], (some (174, false)), [4]⟩,
 ⟨(some 178), (.load false 1), [.t 177], (some (174, false)), [7, 4]⟩,
 ⟨(some 179), (.bin .add), [.t 176, .t 178], (some (174, false)), [6, 8, 4]⟩,
 ⟨(some 180), (.faddr 1 false 1), [.t 12], (some (174, false)), [4]⟩,
 ⟨(some 181), (.load false 1), [.t 180], (some (174, false)), [10, 4]⟩,
 ⟨(some 182), (.bin .add), [.t 179, .t 181], (some (174, false)), [9, 11, 4]⟩,
 ⟨(some 183), (.faddr 0 false 1), [.t 4], (some (174, false)), [4]⟩,
 ⟨(some 184), (.load false 1), [.t 183], (some (174, false)), [13, 4]⟩,
 ⟨(some 185), (.faddr 1 false 1), [.t 4], (some (174, false)), [4]⟩,
 ⟨(some 186), (.load false 1), [.t 185], (some (174, false)), [15, 4]⟩,
 ⟨(some 187), (.bin .add), [.t 184, .t 186], (some (174, false)), [14, 16, 4]⟩,
 ⟨(some 188), .mov, [.t 13], (some (174, false)), [4]⟩,
 ⟨(some 189), (.bin .add), [.t 187, .t 188], (some (174, false)), [17, 18, 4]⟩,
 ⟨(some 190), (.bin .neq), [.t 182, .t 189], (some (174, false)), [12, 19, 4]⟩,
 ⟨(some 191), .pick, [.t 174, .c (.bool true), .t 190], none, [4, 20]⟩] false)
 (.cond (.t 191)
 (.seq
 (.region [⟨(some 6), .mov, [.c (.bool false)], none, []⟩] false)
 .ret)
 .skip))
 (.keep [4, 7, 11, 12, 14] [4, 7, 12, 14, 163] b7k10)))
def b7k12 : DCode :=
 (.seq
 (.region [⟨(some 13), .mov, [.c (.int .i64 0)], none, []⟩] false)
 (.seq
 (.region [⟨(some 14), (.ntok 1), [.c (.slc 1 [])], none, []⟩] false)
 (.seq
 (.seq
 (.region [⟨(some 15), .mov, [.c (.int .i64 0)], none, []⟩] false)
 (.block 0
 (.loop b7l0)))
 (.keep [3, 4, 7, 11, 12, 13, 14] [3, 4, 7, 12, 14, 163] b7k11))))
def b7k13 : DCode :=
 (.seq
 (.seq
 (.region [⟨(some 102), .movv, [.t 11], none, []⟩,
 ⟨(some 103), .len, [.t 102], none, [0]⟩,
 ⟨(some 104), .movv, [.t 2], none, []⟩,
 ⟨(some 105), .len, [.t 104], none, [2]⟩,
 ⟨(some 106), (.bin .neq), [.t 103, .t 105], none, [1, 3]⟩,
 ⟨(some 107), .mov, [.t 106], none, [4]⟩,
 ⟨(some 108), (.faddr 0 false 1), [.t 12], (some (107, false)), [5]⟩,
 ⟨(some 109), (.load false 1), [.t 108], (some (107, false)), [6, 5]⟩,
 ⟨(some 110), (.bin .neq), [.t 109, .c (.int .i64 0)], (some (107, false)), [7, 5]⟩,
 ⟨(some 111), .pick, [.t 107, .c (.bool true), .t 110], none, [5, 8]⟩,
 ⟨(some 112), .mov, [.t 111], none, [9, 5]⟩,
 ⟨(some 113), (.faddr 1 false 1), [.t 12], (some (112, false)), [10]⟩,
 ⟨(some 114), (.load false 1), [.t 113], (some (112, false)), [11, 10]⟩,
 ⟨(some 115), .call, [.f 47, .t 114, .c (.int .i64 0), .c (.int .i64 16000000000)], (some (112, false)), [12, 10, 10]⟩,
 ⟨(some 116), (.un .not), [.t 115], (some (112, false)), [13, 10]⟩,
 ⟨(some 117), .pick, [.t 112, .c (.bool true), .t 116], none, [10, 14]⟩] false)
 (.cond (.t 117)
 (.seq
 (.region [⟨(some 6), .mov, [.c (.bool false)], none, []⟩] false)
 .ret)
 .skip))
 (.keep [2, 3, 4, 7, 11, 12] [3, 4, 7, 12] b7k12))
def b7k14 : DCode :=
 (.seq
 (.region [⟨(some 90), (.load true 3), [.t 3], none, []⟩,
 ⟨(some 91), .call, [.f 46, .t 90], none, [0]⟩,
 ⟨(some 92), (.load true 2), [.t 4], none, []⟩,
 ⟨(some 93), .movv, [.t 9], none, []⟩,
 ⟨(some 94), .call, [.f 45, .t 91, .t 92, .t 93], none, [1, 2, 3, 1]⟩,
 ⟨(some 89), .mov, [.t 94], none, [4]⟩,
 ⟨(some 95), (.ext 0), [.t 89], none, [5]⟩,
 ⟨(some 96), (.ext 1), [.t 89], none, [5]⟩,
 ⟨(some 97), (.ext 2), [.t 89], none, [5]⟩,
 ⟨(some 12), (.alloc [(.imm (.int .i64 0)), (.imm (.int .i64 0))]), [], none, []⟩,
 ⟨(some 11), .movv, [.t 95], none, [6, 4, 0, 1, 2, 3, 4, 5, 6, 9]⟩,
 ⟨none, (.store 2), [.t 12, .t 96], none, [9, 7, 10, 0, 1, 2, 3, 4, 5, 6, 7, 9, 10]⟩,
 ⟨(some 8), .mov, [.t 97], none, [8, 11, 0, 1, 2, 3, 4, 5, 6, 7, 8, 9, 10, 11]⟩] true)
 (.seq
 (.seq
 (.region [⟨(some 98), .mov, [.t 8], none, []⟩,
 ⟨(some 99), (.bin .neq), [.t 98, .c (.int .i64 0)], none, [0]⟩] false)
 (.cond (.t 99)
 (.seq
 (.region [⟨(some 100), .mov, [.t 8], none, []⟩,
 ⟨(some 101), (.bin .eql), [.t 100, .c (.int .i64 22)], none, [0]⟩,
 ⟨(some 6), .mov, [.t 101], none, [1, 0, 1]⟩] false)
 .ret)
 .skip))
 (.keep [2, 3, 4, 7, 11, 12] [3, 4, 7, 12] b7k13)))
def b7k15 : DCode :=
 (.seq
 (.region [⟨(some 54), (.faddr 2 false 1), [.t 3], none, []⟩,
 ⟨none, (.store 1), [.t 54, .c (.int .i64 0)], none, [0]⟩] false)
 (.seq
 (.region [⟨(some 56), (.faddr 0 true 1), [.t 3], none, []⟩,
 ⟨(some 57), (.load true 1), [.t 56], none, [0]⟩,
 ⟨(some 58), .call, [.f 28, .t 57], none, [1]⟩,
 ⟨(some 59), .call, [.f 27, .t 58], none, [2, 2]⟩,
 ⟨(some 60), .call, [.f 29, .t 59], none, [3, 3]⟩,
 ⟨(some 55), .mov, [.t 60], none, [4]⟩,
 ⟨(some 61), (.ext 0), [.t 55], none, [5]⟩,
 ⟨(some 62), (.ext 1), [.t 55], none, [5]⟩,
 ⟨(some 7), (.alloc [(.imm (.slc 2 []))]), [], none, []⟩,
 ⟨none, (.store 1), [.t 7, .t 61], none, [8, 6, 4, 0, 1, 2, 3, 4, 5, 6, 8]⟩,
 ⟨(some 8), .mov, [.t 62], none, [7, 9, 0, 1, 2, 3, 4, 5, 6, 7, 8, 9]⟩] false)
 (.seq
 (.region [⟨(some 64), .movv, [.t 2], none, []⟩,
 ⟨(some 65), .call, [.f 36, .t 64], none, [0]⟩,
 ⟨(some 66), .call, [.f 35, .t 65], none, [1, 1]⟩,
 ⟨(some 67), .call, [.f 37, .t 66], none, [2, 2]⟩,
 ⟨(some 63), .mov, [.t 67], none, [3]⟩,
 ⟨(some 68), (.ext 0), [.t 63], none, [4]⟩,
 ⟨(some 69), (.ext 1), [.t 63], none, [4]⟩,
 ⟨(some 9), .movv, [.t 68], none, [5, 3, 0, 1, 2, 3, 4, 5]⟩,
 ⟨(some 10), .mov, [.t 69], none, [6, 7, 0, 1, 2, 3, 4, 5, 6, 7]⟩] false)
 (.seq
 (.seq
 (.region [⟨(some 70), .mov, [.t 8], none, []⟩,
 ⟨(some 71), (.bin .neq), [.t 70, .c (.int .i64 0)], none, [0]⟩,
 ⟨(some 72), .mov, [.t 71], none, [1]⟩,
 ⟨(some 73), .mov, [.t 10], (some (72, false)), [2]⟩,
 ⟨(some 74), (.bin .neq), [.t 73, .c (.int .i64 0)], (some (72, false)), [3, 2]⟩,
 ⟨(some 75), .pick, [.t 72, .c (.bool true), .t 74], none, [2, 4]⟩,
 ⟨(some 76), .mov, [.t 75], none, [5, 2]⟩,
 ⟨(some 77), (.load true 1), [.t 7], (some (76, false)), [6]⟩,
 ⟨(some 78), (.faddr 0 true 1), [.t 3], (some (76, false)), [6]⟩,
 ⟨(some 79), (.load true 1), [.t 78], (some (76, false)), [8, 6]⟩,
 ⟨(some 80), .call, [.f 32, .t 77, .t 79], (some (76, false)), [7, 9, 6, 6]⟩,
 ⟨(some 81), (.un .not), [.t 80], (some (76, false)), [10, 6]⟩,
 ⟨(some 82), .pick, [.t 76, .c (.bool true), .t 81], none, [6, 11]⟩,
 ⟨(some 83), .mov, [.t 82], none, [12, 10]⟩,
 ⟨(some 84), .movv, [.t 9], (some (83, false)), [13]⟩,
 ⟨(some 85), .movv, [.t 2], (some (83, false)), [13]⟩,
 ⟨(some 86), .call, [.f 40, .t 84, .t 85], (some (83, false)), [14, 15, 13, 13]⟩,
 ⟨(some 87), (.un .not), [.t 86], (some (83, false)), [16, 13]⟩,
 ⟨(some 88), .pick, [.t 83, .c (.bool true), .t 87], none, [13, 17]⟩] false)
 (.cond (.t 88)
 (.seq
 (.region [⟨(some 6), .mov, [.c (.bool false)], none, []⟩] false)
 .ret)
 .skip))
 (.keep [2, 3, 4, 7, 9] [3, 4, 7] b7k14)))))
def b7k16 : DCode :=
 (.seq
 (.seq
 (.region [⟨(some 30), (.load true 3), [.t 3], none, []⟩,
 ⟨(some 31), .call, [.f 43, .t 30], none, [0]⟩,
 ⟨(some 32), (.un .not), [.t 31], none, [1]⟩,
 ⟨(some 33), .mov, [.t 32], none, [2, 1]⟩,
 ⟨(some 34), .movv, [.t 2], (some (33, false)), [3]⟩,
 ⟨(some 35), .len, [.t 34], (some (33, false)), [4, 3]⟩,
 ⟨(some 36), (.bin .eql), [.t 35, .c (.int .i64 0)], (some (33, false)), [5, 3]⟩,
 ⟨(some 37), .pick, [.t 33, .c (.bool true), .t 36], none, [3, 6]⟩,
 ⟨(some 38), .mov, [.t 37], none, [7, 3]⟩,
 ⟨(some 39), .movv, [.t 2], (some (38, false)), [8]⟩,
 ⟨(some 40), .len, [.t 39], (some (38, false)), [9, 8]⟩,
 ⟨(some 41), (.bin .gtr), [.t 40, .c (.int .i64 8)], (some (38, false)), [10, 8]⟩,
 ⟨(some 42), .pick, [.t 38, .c (.bool true), .t 41], none, [8, 11]⟩,
 ⟨(some 43), .mov, [.t 42], none, [12, 8]⟩,
 ⟨(some 44), (.load true 3), [.t 3], (some (43, false)), [13]⟩,
 ⟨(some 45), (.load true 2), [.t 4], (some (43, false)), [13]⟩,
 ⟨(some 46), .call, [.f 44, .t 44, .t 45], (some (43, false)), [14, 15, 13, 13]⟩,
 ⟨(some 47), (.bin .neq), [.t 46, .c (.int .i64 0)], (some (43, false)), [16, 13]⟩,
 ⟨(some 48), .pick, [.t 43, .c (.bool true), .t 47], none, [13, 17]⟩,
 ⟨(some 49), .mov, [.t 48], none, [18, 16]⟩,
 ⟨(some 50), .movv, [.t 2], (some (49, false)), [19]⟩,
 ⟨(some 51), .call, [.f 41, .t 50], (some (49, false)), [20, 19, 19]⟩,
 ⟨(some 52), (.bin .neq), [.t 51, .c (.int .i64 0)], (some (49, false)), [21, 19]⟩,
 ⟨(some 53), .pick, [.t 49, .c (.bool true), .t 52], none, [19, 22]⟩] false)
 (.cond (.t 53)
 (.seq
 (.region [⟨(some 6), .mov, [.c (.bool true)], none, []⟩] false)
 .ret)
 .skip))
 (.keep [2, 3, 4] [3, 4] b7k15))
def b7 : DCode :=
 (.seq
 (.region [⟨(some 3), .box, [.t 0], none, []⟩,
 ⟨(some 4), .box, [.t 1], none, []⟩,
 ⟨(some 6), .mov, [.c (.bool false)], none, []⟩] false)
 (.seq
 (.seq
 (.region [⟨(some 28), .call, [.f 42], none, []⟩,
 ⟨(some 29), (.un .not), [.t 28], none, [0]⟩] false)
 (.cond (.t 29)
 (.seq
 (.region [⟨(some 6), .mov, [.c (.bool false)], none, []⟩] false)
 .ret)
 .skip))
 (.keep [2, 3, 4] [3, 4] b7k16)))
def d7 : DFn := ⟨3, 294, [.tmp 6], b7⟩
theorem k7 : chkFn Tryz.prog Tryz.f7 d7 = true := by kernel_rfl

end Go.DI

