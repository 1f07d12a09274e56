/- The functions of oscillations in the reference and the statements, as data. No condition. -/
import Derived.Test.YtadmimjaelodkaaSmGe
import Derived.Test.YtadmimjaelodkaaProg
import Derived.KernelRfl
namespace Go.DI
open Go.Proofs Go.RowKit
/-- guidevane/guidevaneref03.FlowErr -/
def b82k0 : DCode :=
 (.seq
 (.region [⟨(some 2), .mov, [.c (.int .i64 0)], none, []⟩] false)
 .ret)
def b82 : DCode :=
 (.seq
 (.region [⟨(some 1), .box, [.t 0], none, []⟩,
 ⟨(some 2), .mov, [.c (.int .i64 0)], none, []⟩] false)
 (.seq
 (.seq
 (.region [⟨(some 3), (.faddr 0 false 1), [.t 1], none, []⟩,
 ⟨(some 4), (.load false 1), [.t 3], none, [0]⟩,
 ⟨(some 5), .call, [.f 34, .t 4, .c (.int .i64 (-10)), .c (.int .i64 10)], none, [1]⟩,
 ⟨(some 6), (.un .not), [.t 5], none, [2]⟩,
 ⟨(some 7), .mov, [.t 6], none, [3, 2]⟩,
 ⟨(some 8), (.faddr 1 false 1), [.t 1], (some (7, false)), [4]⟩,
 ⟨(some 9), (.load false 1), [.t 8], (some (7, false)), [5, 4]⟩,
 ⟨(some 10), .call, [.f 34, .t 9, .c (.int .i64 (-10)), .c (.int .i64 10)], (some (7, false)), [6, 4, 4]⟩,
 ⟨(some 11), (.un .not), [.t 10], (some (7, false)), [7, 4]⟩,
 ⟨(some 12), .pick, [.t 7, .c (.bool true), .t 11], none, [4, 8]⟩] false)
 (.cond (.t 12)
 (.seq
 (.region [⟨(some 2), .mov, [.c (.int .i64 2)], none, []⟩] false)
 .ret)
 .skip))
 (.keep [] [] b82k0)))
def d82 : DFn := ⟨1, 13, [.tmp 2], b82⟩
theorem body82 : d82.body = b82 := rfl
theorem res82 : d82.res = [.tmp 2] := rfl
theorem k82 : chkFn Try.prog Try.f82 d82 = true := by kernel_rfl

/-- guidevane/guidevaneref03.Steady -/
def b83k0 : DCode :=
 (.seq
 (.block 3
 (.region [⟨(some 60), (.faddr 1 false 1), [.t 7], none, []⟩,
 ⟨(some 61), (.load false 1), [.t 60], none, [0]⟩,
 ⟨(some 62), (.load true 2), [.t 11], none, []⟩,
 ⟨(some 63), .mov, [.t 1], none, []⟩,
 ⟨(some 64), (.un .neg), [.t 63], none, [3]⟩,
 ⟨(some 65), .mov, [.t 14], none, []⟩,
 ⟨(some 66), (.bin .mul), [.t 64, .t 65], none, [4, 5]⟩,
 ⟨(some 67), .call, [.f 141, .t 62, .t 66], none, [2, 6]⟩,
 ⟨(some 68), (.bsl 2), [.t 67], none, [7]⟩,
 ⟨(some 69), (.append 2 16 false), [.t 61, .t 68], none, [1, 8, 7]⟩,
 ⟨(some 70), (.faddr 2 false 1), [.t 7], none, []⟩,
 ⟨(some 71), (.load false 1), [.t 70], none, [10]⟩,
 ⟨(some 72), (.load true 2), [.t 12], none, []⟩,
 ⟨(some 73), .mov, [.t 1], none, []⟩,
 ⟨(some 74), .mov, [.t 14], none, []⟩,
 ⟨(some 75), (.bin .add), [.t 74, .c (.int .i64 1)], none, [14]⟩,
 ⟨(some 76), (.bin .mul), [.t 73, .t 75], none, [13, 15]⟩,
 ⟨(some 77), .call, [.f 141, .t 72, .t 76], none, [12, 16, 9]⟩,
 ⟨(some 78), (.bsl 2), [.t 77], none, [17]⟩,
 ⟨(some 79), (.append 2 16 false), [.t 71, .t 78], none, [11, 18, 17]⟩,
 ⟨(some 80), (.faddr 1 false 1), [.t 7], none, [0, 1, 2, 3, 4, 5, 6, 7, 8, 9, 10, 11]⟩,
 ⟨none, (.store 1), [.t 80, .t 69], none, [20, 9, 19, 0, 1, 2, 3, 4, 5, 6, 7, 8, 9, 10, 11]⟩,
 ⟨(some 81), (.faddr 2 false 1), [.t 7], none, [0, 1, 2, 3, 4, 5, 6, 7, 8, 9, 10, 11, 12, 13, 14, 15, 16, 17, 18, 19, 20, 21]⟩,
 ⟨none, (.store 1), [.t 81, .t 79], none, [22, 19, 21, 0, 1, 2, 3, 4, 5, 6, 7, 8, 9, 10, 11, 12, 13, 14, 15, 16, 17, 18, 19, 20, 21]⟩] true))
 (.region [⟨(some 58), .mov, [.t 14], none, []⟩,
 ⟨(some 59), (.bin .add), [.t 58, .c (.int .i64 1)], none, [0]⟩,
 ⟨(some 14), .mov, [.t 59], none, [1, 0, 1]⟩] false))
def b83l0 : DCode := .keep [1, 3, 6, 7, 8, 9, 11, 12, 13, 14] [3, 6, 7, 8, 11, 12, 69, 79, 113, 1001, 1002, 1003]
 (.seq
 (.seq
 (.region [⟨(some 55), .mov, [.t 14], none, []⟩,
 ⟨(some 56), .mov, [.t 13], none, []⟩,
 ⟨(some 57), (.bin .lss), [.t 55, .t 56], none, [0, 1]⟩] false)
 (.cond (.t 57)
 .skip
 (.exit 2)))
 (.keep [1, 3, 6, 7, 8, 9, 11, 12, 13, 14] [3, 6, 7, 8, 11, 12, 69, 79, 113, 1001, 1002, 1003] b83k0))
def b83k1 : DCode :=
 (.seq
 (.region [⟨(some 82), (.load true 2), [.t 12], none, []⟩,
 ⟨(some 83), .mov, [.t 1], none, []⟩,
 ⟨(some 84), .mov, [.t 13], none, []⟩,
 ⟨(some 85), (.bin .mul), [.t 83, .t 84], none, [1, 2]⟩,
 ⟨(some 86), .call, [.f 141, .t 82, .t 85], none, [0, 3]⟩,
 ⟨(some 87), (.load true 2), [.t 11], none, []⟩,
 ⟨(some 88), .mov, [.t 1], none, []⟩,
 ⟨(some 89), (.un .neg), [.t 88], none, [6]⟩,
 ⟨(some 90), .mov, [.t 13], none, []⟩,
 ⟨(some 91), (.bin .mul), [.t 89, .t 90], none, [7, 8]⟩,
 ⟨(some 92), .call, [.f 141, .t 87, .t 91], none, [5, 9, 4]⟩,
 ⟨(some 93), .call, [.f 52, .t 86, .t 92], none, [4, 10, 10]⟩,
 ⟨(some 94), (.faddr 4 true 2), [.t 7], none, [0, 1, 2, 3, 4, 5, 6, 7, 8, 9, 10, 11]⟩,
 ⟨none, (.store 2), [.t 94, .t 93], none, [12, 11, 11, 0, 1, 2, 3, 4, 5, 6, 7, 8, 9, 10, 11]⟩] true)
 (.seq
 (.region [⟨(some 95), (.faddr 0 false 1), [.t 3], none, []⟩,
 ⟨(some 96), (.load false 1), [.t 95], none, [0]⟩,
 ⟨(some 97), .mov, [.t 9], none, []⟩,
 ⟨(some 98), (.iaddr 2), [.t 96, .t 97], none, [1, 2]⟩,
 ⟨(some 99), (.load true 2), [.t 98], none, [3]⟩,
 ⟨(some 100), .mov, [.t 1], none, []⟩,
 ⟨(some 101), (.load true 4), [.t 8], none, []⟩,
 ⟨(some 102), .call, [.f 142, .t 99, .t 100, .t 101], none, [4, 5, 6]⟩,
 ⟨none, (.store 4), [.t 8, .t 102], none, [7, 7, 0, 1, 2, 3, 4, 5, 6, 7]⟩] true)
 (.seq
 (.region [⟨(some 103), .mov, [.t 9], none, []⟩,
 ⟨(some 104), (.faddr 1 false 1), [.t 3], none, []⟩,
 ⟨(some 105), (.load false 1), [.t 104], none, [1]⟩,
 ⟨(some 106), .len, [.t 105], none, [2]⟩,
 ⟨(some 107), (.bin .lss), [.t 103, .t 106], none, [0, 3]⟩] false)
 (.cond (.t 107)
 (.seq
 (.region [⟨(some 108), (.faddr 3 false 1), [.t 7], none, []⟩,
 ⟨(some 109), (.load false 1), [.t 108], none, [0]⟩,
 ⟨(some 110), (.faddr 0 true 2), [.t 8], none, []⟩,
 ⟨(some 111), (.load true 2), [.t 110], none, [2]⟩,
 ⟨(some 112), (.bsl 2), [.t 111], none, [3]⟩,
 ⟨(some 113), (.append 2 16 false), [.t 109, .t 112], none, [1, 4]⟩,
 ⟨(some 114), (.faddr 3 false 1), [.t 7], none, [0, 1, 2, 3, 4, 5]⟩,
 ⟨none, (.store 1), [.t 114, .t 113], none, [6, 5, 5, 0, 1, 2, 3, 4, 5]⟩] false)
 (.region [⟨(some 115), (.faddr 1 false 1), [.t 3], none, []⟩,
 ⟨(some 116), (.load false 1), [.t 115], none, [0]⟩,
 ⟨(some 117), .mov, [.t 9], none, []⟩,
 ⟨(some 118), (.iaddr 1), [.t 116, .t 117], none, [1, 2]⟩,
 ⟨(some 119), (.load false 1), [.t 118], none, [3]⟩,
 ⟨(some 120), .mov, [.t 1], none, []⟩,
 ⟨(some 121), (.load true 4), [.t 8], none, []⟩,
 ⟨(some 122), .call, [.f 143, .t 119, .t 120, .t 121], none, [4, 5, 6]⟩,
 ⟨none, (.store 4), [.t 8, .t 122], none, [7, 7, 0, 1, 2, 3, 4, 5, 6, 7]⟩] true))
 .skip))))
def b83k2 : DCode :=
 (.region [⟨(some 28), .mov, [.t 9], none, []⟩,
 ⟨(some 29), (.bin .add), [.t 28, .c (.int .i64 1)], none, [0]⟩,
 ⟨(some 9), .mov, [.t 29], none, [1, 0, 1]⟩] false)
def b83k3 : DCode :=
 (.seq
 (.block 1
 (.seq
 (.region [⟨(some 30), (.faddr 2 true 2), [.t 8], none, []⟩,
 ⟨(some 31), (.load true 2), [.t 30], none, [0]⟩,
 ⟨(some 32), (.faddr 0 false 1), [.t 3], none, []⟩,
 ⟨(some 33), (.load false 1), [.t 32], none, [2]⟩,
 ⟨(some 34), .mov, [.t 9], none, []⟩,
 ⟨(some 35), (.iaddr 2), [.t 33, .t 34], none, [3, 4]⟩,
 ⟨(some 36), (.faddr 1 false 1), [.t 35], none, [5]⟩,
 ⟨(some 37), (.load false 1), [.t 36], none, [6]⟩,
 ⟨(some 38), .call, [.f 105, .t 31, .t 37], none, [1, 7]⟩,
 ⟨(some 10), (.alloc [(.imm (.int .i64 0)), (.imm (.int .i64 0))]), [], none, []⟩,
 ⟨none, (.store 2), [.t 10, .t 38], none, [9, 8, 8, 0, 1, 2, 3, 4, 5, 6, 7, 8, 9]⟩] true)
 (.seq
 (.region [⟨(some 39), (.faddr 0 true 2), [.t 8], none, []⟩,
 ⟨(some 40), (.load true 2), [.t 39], none, [0]⟩,
 ⟨(some 41), (.load true 2), [.t 10], none, []⟩,
 ⟨(some 42), .call, [.f 140, .t 40, .t 41], none, [1, 2]⟩,
 ⟨(some 43), .call, [.f 105, .t 42, .c (.int .i64 2)], none, [3, 3]⟩,
 ⟨(some 44), (.faddr 0 true 2), [.t 8], none, []⟩,
 ⟨(some 45), (.load true 2), [.t 44], none, [5]⟩,
 ⟨(some 46), (.load true 2), [.t 10], none, []⟩,
 ⟨(some 47), .call, [.f 52, .t 45, .t 46], none, [6, 7, 4]⟩,
 ⟨(some 48), .call, [.f 105, .t 47, .c (.int .i64 2)], none, [8, 8]⟩,
 ⟨(some 11), (.alloc [(.imm (.int .i64 0)), (.imm (.int .i64 0))]), [], none, []⟩,
 ⟨(some 12), (.alloc [(.imm (.int .i64 0)), (.imm (.int .i64 0))]), [], none, []⟩,
 ⟨none, (.store 2), [.t 11, .t 43], none, [10, 4, 9, 0, 1, 2, 3, 4, 10, 11]⟩,
 ⟨none, (.store 2), [.t 12, .t 48], none, [11, 9, 12, 0, 1, 2, 3, 4, 5, 6, 7, 8, 9, 10, 11, 12]⟩] true)
 (.seq
 (.region [⟨(some 49), (.faddr 0 false 1), [.t 3], none, []⟩,
 ⟨(some 50), (.load false 1), [.t 49], none, [0]⟩,
 ⟨(some 51), .mov, [.t 9], none, []⟩,
 ⟨(some 52), (.iaddr 2), [.t 50, .t 51], none, [1, 2]⟩,
 ⟨(some 53), (.faddr 0 false 1), [.t 52], none, [3]⟩,
 ⟨(some 54), (.load false 1), [.t 53], none, [4]⟩,
 ⟨(some 13), .mov, [.t 54], none, [5, 0, 1, 2, 3, 4, 5]⟩] false)
 (.seq
 (.seq
 (.region [⟨(some 14), .mov, [.c (.int .i64 0)], none, []⟩] false)
 (.block 2
 (.loop b83l0)))
 (.keep [1, 3, 6, 7, 8, 9, 11, 12, 13] [3, 6, 7, 8, 11, 12, 69, 79, 113, 1001, 1002, 1003] b83k1))))))
 (.keep [1, 3, 6, 7, 8, 9] [3, 6, 7, 8, 69, 79, 113, 1001, 1002, 1003] b83k2))
def b83l1 : DCode := .keep [1, 3, 6, 7, 8, 9] [3, 6, 7, 8, 69, 79, 113, 1001, 1002, 1003]
 (.seq
 (.seq
 (.region [⟨(some 23), .mov, [.t 9], none, []⟩,
 ⟨(some 24), (.faddr 0 false 1), [.t 3], none, []⟩,
 ⟨(some 25), (.load false 1), [.t 24], none, [1]⟩,
 ⟨(some 26), .len, [.t 25], none, [2]⟩,
 ⟨(some 27), (.bin .lss), [.t 23, .t 26], none, [0, 3]⟩] false)
 (.cond (.t 27)
 .skip
 (.exit 0)))
 (.keep [1, 3, 6, 7, 8, 9] [3, 6, 7, 8, 69, 79, 113, 1001, 1002, 1003] b83k3))
def b83k4 : DCode :=
 (.seq
 (.region [⟨(some 123), (.load true 6), [.t 7], none, []⟩,
 ⟨none, (.store 6), [.t 6, .t 123], none, [0, 0]⟩] false)
 .ret)
def b83 : DCode :=
 (.seq
 (.region [⟨(some 3), .box, [.t 0], none, []⟩,
 ⟨(some 5), .box, [.t 2], none, []⟩,
 ⟨(some 6), (.alloc [(.imm (.int .i64 0)), (.imm (.slc 2 [])), (.imm (.slc 2 [])), (.imm (.slc 2 [])), (.imm (.int .i64 0)), (.imm (.int .i64 0))]), [], none, []⟩] false)
 (.seq
 (.region [⟨(some 15), .mov, [.t 1], none, []⟩,
 ⟨(some 16), (.buildr [(.imm (.int .i64 0)), (.cap0 2 []), (.cap0 2 []), (.cap0 2 []), (.imm (.int .i64 0)), (.imm (.int .i64 0))] [(0, 1)]), [.t 15], none, [0]⟩,
 ⟨(some 7), (.alloc [(.imm (.int .i64 0)), (.cap0 2 []), (.cap0 2 []), (.cap0 2 []), (.imm (.int .i64 0)), (.imm (.int .i64 0))]), [], none, []⟩,
 ⟨none, (.store 6), [.t 7, .t 16], none, [2, 1, 0, 1, 2]⟩] false)
 (.mktok 7 1 1001 2
 (.mktok 7 2 1002 2
 (.mktok 7 3 1003 2
 (.seq
 (.region [⟨(some 17), (.load true 2), [.t 5], none, []⟩,
 ⟨(some 18), (.load true 2), [.t 3], none, []⟩,
 ⟨(some 19), .call, [.f 106, .t 18], none, [1]⟩,
 ⟨(some 20), (.bin .mul), [.c (.int .i64 2), .t 19], none, [2]⟩,
 ⟨(some 21), .call, [.f 139, .t 17, .t 20], none, [0, 3, 2]⟩,
 ⟨(some 22), (.build [(.imm (.int .i64 0)), (.imm (.int .i64 0)), (.imm (.int .i64 0)), (.imm (.int .i64 0))] [(2, 2)]), [.t 21], none, [4]⟩,
 ⟨(some 8), (.alloc [(.imm (.int .i64 0)), (.imm (.int .i64 0)), (.imm (.int .i64 0)), (.imm (.int .i64 0))]), [], none, []⟩,
 ⟨none, (.store 4), [.t 8, .t 22], none, [6, 5, 4, 0, 1, 2, 3, 4, 5, 6]⟩] true)
 (.seq
 (.seq
 (.region [⟨(some 9), .mov, [.c (.int .i64 0)], none, []⟩] false)
 (.block 0
 (.loop b83l1)))
 (.keep [6, 7] [6, 7, 69, 79, 113, 1001, 1002, 1003] b83k4))))))))
def d83 : DFn := ⟨3, 124, [.cell 6 true 6], b83⟩
theorem body83 : d83.body = b83 := rfl
theorem res83 : d83.res = [.cell 6 true 6] := rfl
theorem k83 : chkFn Try.prog Try.f83 d83 = true := by kernel_rfl

/-- guidevane/guidevaneref03.SteadyErr -/
def b84k0 : DCode :=
 (.region [⟨(some 56), .mov, [.t 8], none, []⟩,
 ⟨(some 57), (.bin .add), [.t 56, .c (.int .i64 1)], none, [0]⟩,
 ⟨(some 8), .mov, [.t 57], none, [1, 0, 1]⟩] false)
def b84k1 : DCode :=
 (.seq
 (.block 1
 (.seq
 (.region [⟨(some 58), .movv, [.t 7], none, []⟩,
 ⟨(some 59), .mov, [.t 8], none, []⟩,
 ⟨(some 60), (.iaddr 2), [.t 58, .t 59], none, [0, 1]⟩,
 ⟨(some 61), (.faddr 0 false 1), [.t 60], none, [2]⟩,
 ⟨(some 62), (.load false 1), [.t 61], none, [3]⟩,
 ⟨(some 63), .call, [.f 34, .t 62, .c (.int .i64 (-1000000)), .c (.int .i64 1000000)], none, [4]⟩,
 ⟨(some 64), (.un .not), [.t 63], none, [5]⟩,
 ⟨(some 65), .mov, [.t 64], none, [6, 5]⟩,
 ⟨(some 66), .movv, [.t 7], (some (65, false)), [7]⟩,
 ⟨(some 67), .mov, [.t 8], (some (65, false)), [7]⟩,
 ⟨(some 68), (.iaddr 2), [.t 66, .t 67], (some (65, false)), [8, 9, 7]⟩,
 ⟨(some 69), (.faddr 1 false 1), [.t 68], (some (65, false)), [10, 7]⟩,
 ⟨(some 70), (.load false 1), [.t 69], (some (65, false)), [11, 7]⟩,
 ⟨(some 71), .call, [.f 34, .t 70, .c (.int .i64 (-1000000)), .c (.int .i64 1000000)], (some (65, false)), [12, 7, 7]⟩,
 ⟨(some 72), (.un .not), [.t 71], (some (65, false)), [13, 7]⟩,
 ⟨(some 73), .pick, [.t 65, .c (.bool true), .t 72], none, [7, 14]⟩] false)
 (.cond (.t 73)
 (.seq
 (.region [⟨(some 4), .mov, [.c (.int .i64 2)], none, []⟩] false)
 .ret)
 .skip)))
 (.keep [7, 8] [41, 44, 47, 51] b84k0))
def b84l0 : DCode := .keep [7, 8] [41, 44, 47, 51]
 (.seq
 (.seq
 (.region [⟨(some 52), .mov, [.t 8], none, []⟩,
 ⟨(some 53), .movv, [.t 7], none, []⟩,
 ⟨(some 54), .len, [.t 53], none, [1]⟩,
 ⟨(some 55), (.bin .lss), [.t 52, .t 54], none, [0, 2]⟩] false)
 (.cond (.t 55)
 .skip
 (.exit 0)))
 (.keep [7, 8] [41, 44, 47, 51] b84k1))
def b84k2 : DCode :=
 (.seq
 (.region [⟨(some 4), .mov, [.c (.int .i64 0)], none, []⟩] false)
 .ret)
def b84k3 : DCode :=
 (.seq
 (.region [⟨(some 38), (.bsl 2), [], none, []⟩,
 ⟨(some 39), (.faddr 1 false 1), [.t 3], none, []⟩,
 ⟨(some 40), (.load false 1), [.t 39], none, [1]⟩,
 ⟨(some 41), (.append 2 16 false), [.t 38, .t 40], none, [0, 2]⟩,
 ⟨(some 42), (.faddr 2 false 1), [.t 3], none, []⟩,
 ⟨(some 43), (.load false 1), [.t 42], none, [4]⟩,
 ⟨(some 44), (.append 2 16 false), [.t 41, .t 43], none, [3, 5, 3]⟩,
 ⟨(some 45), (.faddr 3 false 1), [.t 3], none, []⟩,
 ⟨(some 46), (.load false 1), [.t 45], none, [7]⟩,
 ⟨(some 47), (.append 2 16 false), [.t 44, .t 46], none, [6, 8, 6]⟩,
 ⟨(some 48), (.faddr 4 true 2), [.t 3], none, []⟩,
 ⟨(some 49), (.load true 2), [.t 48], none, [10]⟩,
 ⟨(some 50), (.bsl 2), [.t 49], none, [11]⟩,
 ⟨(some 51), (.append 2 16 false), [.t 47, .t 50], none, [9, 12, 9]⟩,
 ⟨(some 7), .movv, [.t 51], none, [13, 13, 0, 1, 2, 3, 4, 5, 6, 7, 8, 9, 10, 11, 12, 13]⟩] true)
 (.seq
 (.seq
 (.region [⟨(some 8), .mov, [.c (.int .i64 0)], none, []⟩] false)
 (.block 0
 (.loop b84l0)))
 (.keep [] [] b84k2)))
def b84k4 : DCode :=
 (.seq
 (.region [⟨(some 15), (.load true 2), [.t 2], none, []⟩,
 ⟨(some 16), .call, [.f 40, .t 15], none, [0]⟩,
 ⟨(some 6), .mov, [.t 16], none, [1, 1, 0, 1]⟩] false)
 (.seq
 (.seq
 (.region [⟨(some 17), (.faddr 1 false 1), [.t 3], none, []⟩,
 ⟨(some 18), (.load false 1), [.t 17], none, [0]⟩,
 ⟨(some 19), .len, [.t 18], none, [1]⟩,
 ⟨(some 20), .mov, [.t 6], none, []⟩,
 ⟨(some 21), (.bin .neq), [.t 19, .t 20], none, [2, 3]⟩,
 ⟨(some 22), .mov, [.t 21], none, [4]⟩,
 ⟨(some 23), (.faddr 2 false 1), [.t 3], (some (22, false)), [5]⟩,
 ⟨(some 24), (.load false 1), [.t 23], (some (22, false)), [6, 5]⟩,
 ⟨(some 25), .len, [.t 24], (some (22, false)), [7, 5]⟩,
 ⟨(some 26), .mov, [.t 6], (some (22, false)), [5]⟩,
 ⟨(some 27), (.bin .neq), [.t 25, .t 26], (some (22, false)), [8, 9, 5]⟩,
 ⟨(some 28), .pick, [.t 22, .c (.bool true), .t 27], none, [5, 10]⟩,
 ⟨(some 29), .mov, [.t 28], none, [11, 5]⟩,
 ⟨(some 30), (.faddr 3 false 1), [.t 3], (some (29, false)), [12]⟩,
 ⟨(some 31), (.load false 1), [.t 30], (some (29, false)), [13, 12]⟩,
 ⟨(some 32), .len, [.t 31], (some (29, false)), [14, 12]⟩,
 ⟨(some 33), (.faddr 1 false 1), [.t 2], (some (29, false)), [12]⟩,
 ⟨(some 34), (.load false 1), [.t 33], (some (29, false)), [16, 12]⟩,
 ⟨(some 35), .len, [.t 34], (some (29, false)), [17, 12]⟩,
 ⟨(some 36), (.bin .neq), [.t 32, .t 35], (some (29, false)), [15, 18, 12]⟩,
 ⟨(some 37), .pick, [.t 29, .c (.bool true), .t 36], none, [12, 19]⟩] false)
 (.cond (.t 37)
 (.seq
 (.region [⟨(some 4), .mov, [.c (.int .i64 10)], none, []⟩] false)
 .ret)
 .skip))
 (.keep [3] [] b84k3)))
def b84 : DCode :=
 (.seq
 (.settle [2, 3]
 (.region [⟨(some 2), .box, [.t 0], none, []⟩,
 ⟨(some 3), .box, [.t 1], none, []⟩,
 ⟨(some 4), .mov, [.c (.int .i64 0)], none, []⟩] false))
 (.seq
 (.seq
 (.region [⟨(some 9), (.faddr 0 false 1), [.t 3], none, []⟩,
 ⟨(some 10), (.load false 1), [.t 9], none, [0]⟩,
 ⟨(some 11), .call, [.f 47, .t 10], none, [1]⟩,
 ⟨(some 5), .mov, [.t 11], none, [2, 2, 0, 1, 2]⟩] false)
 (.seq
 (.region [⟨(some 12), .mov, [.t 5], none, []⟩,
 ⟨(some 13), (.bin .neq), [.t 12, .c (.int .i64 0)], none, [0]⟩] false)
 (.cond (.t 13)
 (.seq
 (.region [⟨(some 14), .mov, [.t 5], none, []⟩,
 ⟨(some 4), .mov, [.t 14], none, [0, 0]⟩] false)
 .ret)
 .skip)))
 (.keep [2, 3] [] b84k4)))
def d84 : DFn := ⟨2, 74, [.tmp 4], b84⟩
theorem body84 : d84.body = b84 := rfl
theorem res84 : d84.res = [.tmp 4] := rfl
theorem k84 : chkFn Try.prog Try.f84 d84 = true := by kernel_rfl

/-- guidevane/guidevaneref03.StateAt -/
def b85 : DCode :=
 (.seq
 (.region [⟨(some 2), .box, [.t 0], none, []⟩,
 ⟨(some 4), (.alloc [(.imm (.slc 1 [])), (.imm (.slc 1 [])), (.imm (.slc 1 []))]), [], none, []⟩,
 ⟨(some 5), .mov, [.c (.int .i64 0)], none, []⟩] false)
 (.seq
 (.region [⟨(some 7), (.faddr 0 false 1), [.t 2], none, []⟩,
 ⟨(some 8), (.load false 1), [.t 7], none, [0]⟩,
 ⟨(some 9), .mov, [.t 1], none, []⟩,
 ⟨(some 10), .call, [.f 144, .t 9, .c (.int .i64 4)], none, [2]⟩,
 ⟨(some 11), (.bin .mul), [.t 8, .t 10], none, [1, 3]⟩,
 ⟨(some 6), .mov, [.t 11], none, [4, 3, 0, 1, 2, 3, 4]⟩] true)
 (.seq
 (.region [⟨(some 12), (.faddr 1 false 1), [.t 2], none, []⟩,
 ⟨(some 13), (.load false 1), [.t 12], none, [0]⟩,
 ⟨(some 14), .mov, [.t 6], none, []⟩,
 ⟨(some 15), .call, [.f 145, .t 13, .t 14], none, [1, 2]⟩,
 ⟨(some 16), (.faddr 2 false 1), [.t 2], none, []⟩,
 ⟨(some 17), (.load false 1), [.t 16], none, [4]⟩,
 ⟨(some 18), .mov, [.t 6], none, []⟩,
 ⟨(some 19), .call, [.f 145, .t 17, .t 18], none, [5, 6, 3]⟩,
 ⟨(some 20), (.faddr 3 false 1), [.t 2], none, []⟩,
 ⟨(some 21), (.load false 1), [.t 20], none, [8]⟩,
 ⟨(some 22), .mov, [.t 6], none, []⟩,
 ⟨(some 23), .call, [.f 145, .t 21, .t 22], none, [9, 10, 7]⟩,
 ⟨(some 24), (.build [(.imm (.slc 1 [])), (.imm (.slc 1 [])), (.imm (.slc 1 []))] [(0, 1), (1, 1), (2, 1)]), [.t 15, .t 19, .t 23], none, [3, 7, 11]⟩,
 ⟨(some 25), (.faddr 4 true 2), [.t 2], none, []⟩,
 ⟨(some 26), (.load true 2), [.t 25], none, [13]⟩,
 ⟨(some 27), .mov, [.t 6], none, []⟩,
 ⟨(some 28), .call, [.f 141, .t 26, .t 27], none, [14, 15, 11]⟩,
 ⟨(some 29), (.field 0 false 1), [.t 28], none, [16]⟩,
 ⟨none, (.store 3), [.t 4, .t 24], none, [12, 16, 0, 1, 2, 3, 4, 5, 6, 7, 8, 9, 10, 11, 12]⟩,
 ⟨(some 5), .mov, [.t 29], none, [17, 18, 0, 1, 2, 3, 4, 5, 6, 7, 8, 9, 10, 11, 12, 13, 14, 15, 16, 17, 18]⟩] true)
 .ret)))
def d85 : DFn := ⟨2, 30, [.cell 4 true 3, .tmp 5], b85⟩
theorem body85 : d85.body = b85 := rfl
theorem res85 : d85.res = [.cell 4 true 3, .tmp 5] := rfl
theorem k85 : chkFn Try.prog Try.f85 d85 = true := by kernel_rfl

/-- guidevane/guidevaneref03.reals -/
def b145k0 : DCode :=
 (.seq
 (.block 1
 (.region [⟨(some 13), .mov, [.t 5], none, []⟩,
 ⟨(some 14), .movv, [.t 0], none, []⟩,
 ⟨(some 15), .mov, [.t 6], none, []⟩,
 ⟨(some 16), (.iaddr 2), [.t 14, .t 15], none, [1, 2]⟩,
 ⟨(some 17), (.load true 2), [.t 16], none, [3]⟩,
 ⟨(some 18), .mov, [.t 1], none, []⟩,
 ⟨(some 19), .call, [.f 141, .t 17, .t 18], none, [4, 5]⟩,
 ⟨(some 20), (.field 0 false 1), [.t 19], none, [6]⟩,
 ⟨(some 21), (.bsl 1), [.t 20], none, [7]⟩,
 ⟨(some 22), (.append 1 8 false), [.t 13, .t 21], none, [0, 8, 6]⟩,
 ⟨(some 5), .mov, [.t 22], none, [9, 9, 0, 1, 2, 3, 4, 5, 6, 7, 8, 9]⟩] false))
 (.region [⟨(some 11), .mov, [.t 6], none, []⟩,
 ⟨(some 12), (.bin .add), [.t 11, .c (.int .i64 1)], none, [0]⟩,
 ⟨(some 6), .mov, [.t 12], none, [1, 0, 1]⟩] false))
def b145l0 : DCode := .keep [0, 1, 5, 6] [5, 22]
 (.seq
 (.seq
 (.region [⟨(some 7), .mov, [.t 6], none, []⟩,
 ⟨(some 8), .movv, [.t 0], none, []⟩,
 ⟨(some 9), .len, [.t 8], none, [1]⟩,
 ⟨(some 10), (.bin .lss), [.t 7, .t 9], none, [0, 2]⟩] false)
 (.cond (.t 10)
 .skip
 (.exit 0)))
 (.keep [0, 1, 5, 6] [5, 22] b145k0))
def b145k1 : DCode :=
 (.seq
 (.region [⟨(some 23), .movv, [.t 5], none, []⟩,
 ⟨(some 4), .movv, [.t 23], none, [0, 0]⟩] false)
 .ret)
def b145 : DCode :=
 (.seq
 (.region [⟨(some 4), .mov, [.c (.slc 1 [])], none, []⟩] false)
 (.seq
 (.region [⟨(some 5), (.ntok 1), [.c (.slc 1 [])], none, []⟩] false)
 (.seq
 (.seq
 (.region [⟨(some 6), .mov, [.c (.int .i64 0)], none, []⟩] false)
 (.block 0
 (.loop b145l0)))
 (.keep [5] [5, 22] b145k1))))
def d145 : DFn := ⟨2, 24, [.tmp 4], b145⟩
theorem body145 : d145.body = b145 := rfl
theorem res145 : d145.res = [.tmp 4] := rfl
theorem k145 : chkFn Try.prog Try.f145 d145 = true := by kernel_rfl

/-- guidevane/guidevaneref03.CopySteady -/
def b80 : DCode :=
 (.seq
 (.region [⟨(some 1), .box, [.t 0], none, []⟩,
 ⟨(some 2), (.alloc [(.imm (.int .i64 0)), (.imm (.slc 2 [])), (.imm (.slc 2 [])), (.imm (.slc 2 [])), (.imm (.int .i64 0)), (.imm (.int .i64 0))]), [], none, []⟩] false)
 (.seq
 (.region [⟨(some 3), (.faddr 1 false 1), [.t 1], none, []⟩,
 ⟨(some 4), (.load false 1), [.t 3], none, [0]⟩,
 ⟨(some 5), .call, [.f 137, .t 4], none, [1]⟩,
 ⟨(some 6), (.faddr 2 false 1), [.t 1], none, []⟩,
 ⟨(some 7), (.load false 1), [.t 6], none, [3]⟩,
 ⟨(some 8), .call, [.f 137, .t 7], none, [4, 2]⟩,
 ⟨(some 9), (.faddr 3 false 1), [.t 1], none, []⟩,
 ⟨(some 10), (.load false 1), [.t 9], none, [6]⟩,
 ⟨(some 11), .call, [.f 137, .t 10], none, [7, 5]⟩,
 ⟨(some 12), (.faddr 1 false 1), [.t 1], none, [0, 1, 2, 3, 4, 6, 7]⟩,
 ⟨none, (.store 1), [.t 12, .t 5], none, [9, 2, 8, 0, 1, 2, 3, 4, 6, 7]⟩,
 ⟨(some 13), (.faddr 2 false 1), [.t 1], none, [0, 1, 2, 3, 4, 5, 6, 7, 9, 10]⟩,
 ⟨none, (.store 1), [.t 13, .t 8], none, [11, 5, 10, 0, 1, 2, 3, 4, 5, 6, 7, 9, 10]⟩,
 ⟨(some 14), (.faddr 3 false 1), [.t 1], none, [0, 1, 2, 3, 4, 5, 6, 7, 8, 9, 10, 11, 12]⟩,
 ⟨none, (.store 1), [.t 14, .t 11], none, [13, 8, 12, 0, 1, 2, 3, 4, 5, 6, 7, 8, 9, 10, 11, 12]⟩] true)
 (.seq
 (.region [⟨(some 15), (.load true 6), [.t 1], none, []⟩,
 ⟨none, (.store 6), [.t 2, .t 15], none, [0, 0]⟩] false)
 .ret)))
def d80 : DFn := ⟨1, 16, [.cell 2 true 6], b80⟩
theorem body80 : d80.body = b80 := rfl
theorem res80 : d80.res = [.cell 2 true 6] := rfl
theorem k80 : chkFn Try.prog Try.f80 d80 = true := by kernel_rfl

/-- guidevane/guidevaneref03.SameSteady -/
def b81 : DCode :=
 (.seq
 (.region [⟨(some 2), .box, [.t 0], none, []⟩,
 ⟨(some 3), .box, [.t 1], none, []⟩,
 ⟨(some 4), .mov, [.c (.bool false)], none, []⟩] false)
 (.seq
 (.region [⟨(some 5), (.faddr 0 false 1), [.t 2], none, []⟩,
 ⟨(some 6), (.load false 1), [.t 5], none, [0]⟩,
 ⟨(some 7), (.faddr 0 false 1), [.t 3], none, []⟩,
 ⟨(some 8), (.load false 1), [.t 7], none, [2]⟩,
 ⟨(some 9), (.bin .eql), [.t 6, .t 8], none, [1, 3]⟩,
 ⟨(some 10), .mov, [.t 9], none, [4]⟩,
 ⟨(some 11), (.faddr 4 true 2), [.t 2], (some (10, true)), [5]⟩,
 ⟨(some 12), (.load true 2), [.t 11], (some (10, true)), [6, 5]⟩,
 ⟨(some 13), (.faddr 4 true 2), [.t 3], (some (10, true)), [5]⟩,
 ⟨(some 14), (.load true 2), [.t 13], (some (10, true)), [8, 5]⟩,
 ⟨(some 15), (.eqs [false, false] false), [.t 12, .t 14], (some (10, true)), [7, 9, 5]⟩,
 ⟨(some 16), .pick, [.t 10, .t 15, .c (.bool false)], none, [5, 10]⟩,
 ⟨(some 17), .mov, [.t 16], none, [11, 5]⟩,
 ⟨(some 18), (.faddr 1 false 1), [.t 2], (some (17, true)), [12]⟩,
 ⟨(some 19), (.load false 1), [.t 18], (some (17, true)), [13, 12]⟩,
 ⟨(some 20), (.faddr 1 false 1), [.t 3], (some (17, true)), [12]⟩,
 ⟨(some 21), (.load false 1), [.t 20], (some (17, true)), [15, 12]⟩,
 ⟨(some 22), .call, [.f 138, .t 19, .t 21], (some (17, true)), [14, 16, 12, 12]⟩,
 ⟨(some 23), .pick, [.t 17, .t 22, .c (.bool false)], none, [12, 17]⟩,
 ⟨(some 24), .mov, [.t 23], none, [18, 17]⟩,
 ⟨(some 25), (.faddr 2 false 1), [.t 2], (some (24, true)), [19]⟩,
 ⟨(some 26), (.load false 1), [.t 25], (some (24, true)), [20, 19]⟩,
 ⟨(some 27), (.faddr 2 false 1), [.t 3], (some (24, true)), [19]⟩,
 ⟨(some 28), (.load false 1), [.t 27], (some (24, true)), [22, 19]⟩,
 ⟨(some 29), .call, [.f 138, .t 26, .t 28], (some (24, true)), [21, 23, 19, 19]⟩,
 ⟨(some 30), .pick, [.t 24, .t 29, .c (.bool false)], none, [19, 24]⟩,
 ⟨(some 31), .mov, [.t 30], none, [25, 24]⟩,
 ⟨(some 32), (.faddr 3 false 1), [.t 2], (some (31, true)), [26]⟩,
 ⟨(some 33), (.load false 1), [.t 32], (some (31, true)), [27, 26]⟩,
 ⟨(some 34), (.faddr 3 false 1), [.t 3], (some (31, true)), [26]⟩,
 ⟨(some 35), (.load false 1), [.t 34], (some (31, true)), [29, 26]⟩,
 ⟨(some 36), .call, [.f 138, .t 33, .t 35], (some (31, true)), [28, 30, 26, 26]⟩,
 ⟨(some 37), .pick, [.t 31, .t 36, .c (.bool false)], none, [26, 31]⟩,
 ⟨(some 4), .mov, [.t 37], none, [32, 31, 0, 1, 2, 3, 4, 5, 6, 7, 8, 9, 10, 11, 12, 13, 14, 15, 16, 17, 18, 19, 20, 21, 22, 23, 24, 25, 26, 27, 28, 29, 30, 31, 32]⟩] false)
 .ret))
def d81 : DFn := ⟨2, 38, [.tmp 4], b81⟩
theorem body81 : d81.body = b81 := rfl
theorem res81 : d81.res = [.tmp 4] := rfl
theorem k81 : chkFn Try.prog Try.f81 d81 = true := by kernel_rfl

/-- guidevane/guidevanelaw03.WaveOscillations -/
def b15k0 : DCode :=
 (.seq
 (.region [⟨(some 157), (.faddr 0 true 6), [.t 5], none, []⟩,
 ⟨(some 158), (.load true 6), [.t 157], none, [0]⟩,
 ⟨(some 159), (.faddr 6 false 1), [.t 5], none, []⟩,
 ⟨(some 160), (.load false 1), [.t 159], none, [2]⟩,
 ⟨(some 161), .call, [.f 85, .t 158, .t 160], none, [1, 3]⟩,
 ⟨(some 156), .mov, [.t 161], none, [4]⟩,
 ⟨(some 162), (.ext 0), [.t 156], none, [5]⟩,
 ⟨(some 163), (.ext 1), [.t 156], none, [5]⟩,
 ⟨(some 14), (.alloc [(.imm (.slc 1 [])), (.imm (.slc 1 [])), (.imm (.slc 1 []))]), [], none, []⟩,
 ⟨none, (.store 3), [.t 14, .t 162], none, [8, 6, 4, 0, 1, 2, 3, 4, 5, 6, 8]⟩,
 ⟨(some 15), .mov, [.t 163], none, [7, 9, 0, 1, 2, 3, 4, 5, 6, 7, 8, 9]⟩] false)
 (.seq
 (.region [⟨(some 164), .mov, [.t 11], none, []⟩,
 ⟨(some 165), (.bin .eql), [.t 164, .c (.int .i64 0)], none, [0]⟩,
 ⟨(some 166), .mov, [.t 165], none, [1]⟩,
 ⟨(some 167), (.load true 3), [.t 9], (some (166, true)), [2]⟩,
 ⟨(some 168), (.load true 3), [.t 14], (some (166, true)), [2]⟩,
 ⟨(some 169), .call, [.f 27, .t 167, .t 168], (some (166, true)), [3, 4, 2, 2]⟩,
 ⟨(some 170), .pick, [.t 166, .t 169, .c (.bool false)], none, [2, 5]⟩,
 ⟨(some 171), .mov, [.t 170], none, [6, 5]⟩,
 ⟨(some 172), .mov, [.t 10], (some (171, true)), [7]⟩,
 ⟨(some 173), .mov, [.t 15], (some (171, true)), [7]⟩,
 ⟨(some 174), (.bin .eql), [.t 172, .t 173], (some (171, true)), [8, 9, 7]⟩,
 ⟨(some 175), .pick, [.t 171, .t 174, .c (.bool false)], none, [7, 10]⟩,
 ⟨(some 6), .mov, [.t 175], none, [11, 7, 0, 1, 2, 3, 4, 5, 6, 7, 8, 9, 10, 11]⟩] false)
 .ret))
def b15k1 : DCode :=
 (.seq
 (.seq
 (.region [⟨(some 142), .mov, [.t 12], none, []⟩,
 ⟨(some 143), (.bin .neq), [.t 142, .c (.int .i64 0)], none, [0]⟩] false)
 (.cond (.t 143)
 (.seq
 (.region [⟨(some 144), .mov, [.t 11], none, []⟩,
 ⟨(some 145), .mov, [.t 12], none, []⟩,
 ⟨(some 146), (.bin .eql), [.t 144, .t 145], none, [0, 1]⟩,
 ⟨(some 147), .mov, [.t 146], none, [2]⟩,
 ⟨(some 148), (.load true 3), [.t 9], (some (147, true)), [3]⟩,
 ⟨(some 149), (.build [(.imm (.slc 1 [])), (.imm (.slc 1 [])), (.imm (.slc 1 []))] []), [], (some (147, true)), [3]⟩,
 ⟨(some 150), .call, [.f 27, .t 148, .t 149], (some (147, true)), [4, 5, 3, 3]⟩,
 ⟨(some 151), .pick, [.t 147, .t 150, .c (.bool false)], none, [3, 6]⟩,
 ⟨(some 152), .mov, [.t 151], none, [7, 6]⟩,
 ⟨(some 153), .mov, [.t 10], (some (152, true)), [8]⟩,
 ⟨(some 154), (.bin .eql), [.t 153, .c (.int .i64 0)], (some (152, true)), [9, 8]⟩,
 ⟨(some 155), .pick, [.t 152, .t 154, .c (.bool false)], none, [8, 10]⟩,
 ⟨(some 6), .mov, [.t 155], none, [11, 8, 0, 1, 2, 3, 4, 5, 6, 7, 8, 9, 10, 11]⟩] false)
 .ret)
 .skip))
 (.keep [5, 9, 10, 11] [5, 9] b15k0))
def b15k2 : DCode :=
 (.seq
 (.seq
 (.region [⟨(some 130), (.load true 2), [.t 3], none, []⟩,
 ⟨(some 131), (.faddr 0 true 6), [.t 5], none, []⟩,
 ⟨(some 132), (.load true 6), [.t 131], none, [1]⟩,
 ⟨(some 133), .call, [.f 84, .t 130, .t 132], none, [0, 2]⟩,
 ⟨(some 12), .mov, [.t 133], none, [3, 3, 0, 1, 2, 3]⟩] false)
 (.seq
 (.region [⟨(some 134), .mov, [.t 12], none, []⟩,
 ⟨(some 135), (.bin .eql), [.t 134, .c (.int .i64 0)], none, [0]⟩,
 ⟨(some 136), .mov, [.t 135], none, [1]⟩,
 ⟨(some 137), (.faddr 6 false 1), [.t 5], (some (136, true)), [2]⟩,
 ⟨(some 138), (.load false 1), [.t 137], (some (136, true)), [3, 2]⟩,
 ⟨(some 139), .call, [.f 34, .t 138, .c (.int .i64 0), .c (.int .i64 1000000000000)], (some (136, true)), [4, 2, 2]⟩,
 ⟨(some 140), (.un .not), [.t 139], (some (136, true)), [5, 2]⟩,
 ⟨(some 141), .pick, [.t 136, .t 140, .c (.bool false)], none, [2, 6]⟩] false)
 (.cond (.t 141)
 (.region [⟨(some 12), .mov, [.c (.int .i64 2)], none, []⟩] false)
 .skip)))
 (.keep [5, 9, 10, 11, 12] [5, 9] b15k1))
def b15k3 : DCode :=
 (.seq
 (.seq
 (.region [⟨(some 98), .mov, [.t 13], none, []⟩,
 ⟨(some 99), (.bin .neq), [.t 98, .c (.int .i64 0)], none, [0]⟩,
 ⟨(some 100), .mov, [.t 99], none, [1]⟩,
 ⟨(some 101), .mov, [.t 8], (some (100, true)), [2]⟩,
 ⟨(some 102), .mov, [.t 13], (some (100, true)), [2]⟩,
 ⟨(some 103), (.bin .neq), [.t 101, .t 102], (some (100, true)), [3, 4, 2]⟩,
 ⟨(some 104), .mov, [.t 103], (some (100, true)), [5, 2, 2]⟩,
 ⟨(some 105), (.load true 6), [.t 7], (some (104, false)), [6]⟩,
 ⟨(some 106), (.build [(.imm (.int .i64 0)), (.imm (.slc 2 [])), (.imm (.slc 2 [])), (.imm (.slc 2 [])), (.imm (.int .i64 0)), (.imm (.int .i64 0))] []), [], (some (104, false)), [6]⟩,
 ⟨(some 107), .call, [.f 81, .t 105, .t 106], (some (104, false)), [7, 8, 6, 6]⟩,
 ⟨(some 108), (.un .not), [.t 107], (some (104, false)), [9, 6]⟩,
 ⟨(some 109), .pick, [.t 104, .c (.bool true), .t 108], (some (100, true)), [6, 10, 2]⟩,
 ⟨(some 110), .pick, [.t 100, .t 109, .c (.bool false)], none, [2, 11]⟩,
 ⟨(some 111), .mov, [.t 110], none, [12, 9]⟩,
 ⟨(some 112), .mov, [.t 13], (some (111, false)), [13]⟩,
 ⟨(some 113), (.bin .eql), [.t 112, .c (.int .i64 0)], (some (111, false)), [14, 13]⟩,
 ⟨(some 114), .mov, [.t 113], (some (111, false)), [15, 13, 13]⟩,
 ⟨(some 115), .mov, [.t 8], (some (114, true)), [16]⟩,
 ⟨(some 116), (.bin .neq), [.t 115, .c (.int .i64 0)], (some (114, true)), [17, 16]⟩,
 ⟨(some 117), .mov, [.t 116], (some (114, true)), [18, 16, 16]⟩,
 ⟨(some 118), (.load true 6), [.t 7], (some (117, false)), [19]⟩,
 ⟨(some 119), (.load true 2), [.t 3], (some (117, false)), [19]⟩,
 ⟨(some 120), (.faddr 0 true 6), [.t 5], (some (117, false)), [19]⟩,
 ⟨(some 121), (.faddr 0 false 1), [.t 120], (some (117, false)), [22, 19]⟩,
 ⟨(some 122), (.load false 1), [.t 121], (some (117, false)), [23, 19]⟩,
 ⟨(some 123), (.load true 2), [.t 4], (some (117, false)), [19]⟩,
 ⟨(some 124), .call, [.f 83, .t 119, .t 122, .t 123], (some (117, false)), [21, 24, 25, 19, 19]⟩,
 ⟨(some 125), .call, [.f 81, .t 118, .t 124], (some (117, false)), [20, 26, 26, 19]⟩,
 ⟨(some 126), (.un .not), [.t 125], (some (117, false)), [27, 19]⟩,
 ⟨(some 127), .pick, [.t 117, .c (.bool true), .t 126], (some (114, true)), [19, 28, 16]⟩,
 ⟨(some 128), .pick, [.t 114, .t 127, .c (.bool false)], (some (111, false)), [16, 29, 13]⟩,
 ⟨(some 129), .pick, [.t 111, .c (.bool true), .t 128], none, [13, 30]⟩] true)
 (.cond (.t 129)
 (.seq
 (.region [⟨(some 6), .mov, [.c (.bool false)], none, []⟩] false)
 .ret)
 .skip))
 (.keep [3, 5, 9, 10, 11] [3, 5, 9] b15k2))
def b15k4 : DCode :=
 (.seq
 (.region [⟨(some 90), (.faddr 0 true 6), [.t 5], none, []⟩,
 ⟨(some 91), (.faddr 0 false 1), [.t 90], none, [0]⟩,
 ⟨(some 92), (.load false 1), [.t 91], none, [1]⟩,
 ⟨(some 93), .call, [.f 47, .t 92], none, [2]⟩,
 ⟨(some 13), .mov, [.t 93], none, [3, 3, 0, 1, 2, 3]⟩] false)
 (.seq
 (.seq
 (.region [⟨(some 94), .mov, [.t 13], none, []⟩,
 ⟨(some 95), (.bin .eql), [.t 94, .c (.int .i64 0)], none, [0]⟩] false)
 (.cond (.t 95)
 (.region [⟨(some 96), (.load true 2), [.t 4], none, []⟩,
 ⟨(some 97), .call, [.f 82, .t 96], none, [0]⟩,
 ⟨(some 13), .mov, [.t 97], none, [1, 1, 0, 1]⟩] false)
 .skip))
 (.keep [3, 4, 5, 7, 8, 9, 10, 11, 13] [3, 4, 5, 7, 9] b15k3)))
def b15k5 : DCode :=
 (.seq
 (.region [⟨(some 43), (.load true 2), [.t 3], none, []⟩,
 ⟨(some 44), .call, [.f 22, .t 43], none, [0]⟩,
 ⟨(some 45), (.faddr 0 true 6), [.t 5], none, []⟩,
 ⟨(some 46), (.faddr 0 false 1), [.t 45], none, [2]⟩,
 ⟨(some 47), (.load false 1), [.t 46], none, [3]⟩,
 ⟨(some 48), (.load true 2), [.t 4], none, []⟩,
 ⟨(some 49), .call, [.f 78, .t 44, .t 47, .t 48], none, [1, 4, 5, 1]⟩,
 ⟨(some 42), .mov, [.t 49], none, [6]⟩,
 ⟨(some 50), (.ext 0), [.t 42], none, [7]⟩,
 ⟨(some 51), (.ext 1), [.t 42], none, [7]⟩,
 ⟨(some 7), (.alloc [(.imm (.int .i64 0)), (.imm (.slc 2 [])), (.imm (.slc 2 [])), (.imm (.slc 2 [])), (.imm (.int .i64 0)), (.imm (.int .i64 0))]), [], none, []⟩,
 ⟨none, (.store 6), [.t 7, .t 50], none, [10, 8, 6, 0, 1, 2, 3, 4, 5, 6, 7, 8, 10]⟩,
 ⟨(some 8), .mov, [.t 51], none, [9, 11, 0, 1, 2, 3, 4, 5, 6, 7, 8, 9, 10, 11]⟩] true)
 (.seq
 (.region [⟨(some 53), (.load true 2), [.t 3], none, []⟩,
 ⟨(some 54), .call, [.f 22, .t 53], none, [0]⟩,
 ⟨(some 55), (.faddr 0 true 6), [.t 5], none, []⟩,
 ⟨(some 56), (.load true 6), [.t 55], none, [2]⟩,
 ⟨(some 57), .call, [.f 80, .t 56], none, [3, 1]⟩,
 ⟨(some 58), (.faddr 6 false 1), [.t 5], none, []⟩,
 ⟨(some 59), (.load false 1), [.t 58], none, [5]⟩,
 ⟨(some 60), .call, [.f 79, .t 54, .t 57, .t 59], none, [1, 4, 6, 4]⟩,
 ⟨(some 52), .mov, [.t 60], none, [7]⟩,
 ⟨(some 61), (.ext 0), [.t 52], none, [8]⟩,
 ⟨(some 62), (.ext 1), [.t 52], none, [8]⟩,
 ⟨(some 63), (.ext 2), [.t 52], none, [8]⟩,
 ⟨(some 9), (.alloc [(.imm (.slc 1 [])), (.imm (.slc 1 [])), (.imm (.slc 1 []))]), [], none, []⟩,
 ⟨none, (.store 3), [.t 9, .t 61], none, [12, 9, 7, 0, 1, 2, 3, 4, 5, 6, 7, 8, 9, 12]⟩,
 ⟨(some 10), .mov, [.t 62], none, [10, 13, 0, 1, 2, 3, 4, 5, 6, 7, 8, 9, 10, 12, 13]⟩,
 ⟨(some 11), .mov, [.t 63], none, [11, 14, 0, 1, 2, 3, 4, 5, 6, 7, 8, 9, 10, 11, 12, 13, 14]⟩] true)
 (.seq
 (.region [⟨(some 64), (.load true 2), [.t 3], none, []⟩,
 ⟨(some 65), .call, [.f 37, .t 64], none, [0]⟩,
 ⟨(some 12), .mov, [.t 65], none, [1, 1, 0, 1]⟩] false)
 (.seq
 (.seq
 (.region [⟨(some 66), .mov, [.t 12], none, []⟩,
 ⟨(some 67), (.bin .neq), [.t 66, .c (.int .i64 0)], none, [0]⟩] false)
 (.cond (.t 67)
 (.seq
 (.region [⟨(some 68), .mov, [.t 8], none, []⟩,
 ⟨(some 69), .mov, [.t 12], none, []⟩,
 ⟨(some 70), (.bin .eql), [.t 68, .t 69], none, [0, 1]⟩,
 ⟨(some 71), .mov, [.t 70], none, [2]⟩,
 ⟨(some 72), .mov, [.t 11], (some (71, true)), [3]⟩,
 ⟨(some 73), .mov, [.t 12], (some (71, true)), [3]⟩,
 ⟨(some 74), (.bin .eql), [.t 72, .t 73], (some (71, true)), [4, 5, 3]⟩,
 ⟨(some 75), .pick, [.t 71, .t 74, .c (.bool false)], none, [3, 6]⟩,
 ⟨(some 76), .mov, [.t 75], none, [7, 3]⟩,
 ⟨(some 77), (.load true 6), [.t 7], (some (76, true)), [8]⟩,
 ⟨(some 78), (.build [(.imm (.int .i64 0)), (.imm (.slc 2 [])), (.imm (.slc 2 [])), (.imm (.slc 2 [])), (.imm (.int .i64 0)), (.imm (.int .i64 0))] []), [], (some (76, true)), [8]⟩,
 ⟨(some 79), .call, [.f 81, .t 77, .t 78], (some (76, true)), [9, 10, 8, 8]⟩,
 ⟨(some 80), .pick, [.t 76, .t 79, .c (.bool false)], none, [8, 11]⟩,
 ⟨(some 81), .mov, [.t 80], none, [12, 11]⟩,
 ⟨(some 82), (.load true 3), [.t 9], (some (81, true)), [13]⟩,
 ⟨(some 83), (.build [(.imm (.slc 1 [])), (.imm (.slc 1 [])), (.imm (.slc 1 []))] []), [], (some (81, true)), [13]⟩,
 ⟨(some 84), .call, [.f 27, .t 82, .t 83], (some (81, true)), [14, 15, 13, 13]⟩,
 ⟨(some 85), .pick, [.t 81, .t 84, .c (.bool false)], none, [13, 16]⟩,
 ⟨(some 86), .mov, [.t 85], none, [17, 16]⟩,
 ⟨(some 87), .mov, [.t 10], (some (86, true)), [18]⟩,
 ⟨(some 88), (.bin .eql), [.t 87, .c (.int .i64 0)], (some (86, true)), [19, 18]⟩,
 ⟨(some 89), .pick, [.t 86, .t 88, .c (.bool false)], none, [18, 20]⟩,
 ⟨(some 6), .mov, [.t 89], none, [21, 18, 0, 1, 2, 3, 4, 5, 6, 7, 8, 9, 10, 11, 12, 13, 14, 15, 16, 17, 18, 19, 20, 21]⟩] false)
 .ret)
 .skip))
 (.keep [3, 4, 5, 7, 8, 9, 10, 11] [3, 4, 5, 7, 9] b15k4)))))
def b15k6 : DCode :=
 (.seq
 (.seq
 (.region [⟨(some 18), (.load true 2), [.t 3], none, []⟩,
 ⟨(some 19), .call, [.f 18, .t 18], none, [0]⟩,
 ⟨(some 20), (.un .not), [.t 19], none, [1]⟩,
 ⟨(some 21), .mov, [.t 20], none, [2, 1]⟩,
 ⟨(some 22), (.faddr 0 true 6), [.t 5], (some (21, false)), [3]⟩,
 ⟨(some 23), (.faddr 1 false 1), [.t 22], (some (21, false)), [4, 3]⟩,
 ⟨(some 24), (.load false 1), [.t 23], (some (21, false)), [5, 3]⟩,
 ⟨(some 25), .len, [.t 24], (some (21, false)), [6, 3]⟩,
 ⟨(some 26), (.bin .gtr), [.t 25, .c (.int .i64 30)], (some (21, false)), [7, 3]⟩,
 ⟨(some 27), .pick, [.t 21, .c (.bool true), .t 26], none, [3, 8]⟩,
 ⟨(some 28), .mov, [.t 27], none, [9, 3]⟩,
 ⟨(some 29), (.faddr 0 true 6), [.t 5], (some (28, false)), [10]⟩,
 ⟨(some 30), (.faddr 2 false 1), [.t 29], (some (28, false)), [11, 10]⟩,
 ⟨(some 31), (.load false 1), [.t 30], (some (28, false)), [12, 10]⟩,
 ⟨(some 32), .len, [.t 31], (some (28, false)), [13, 10]⟩,
 ⟨(some 33), (.bin .gtr), [.t 32, .c (.int .i64 30)], (some (28, false)), [14, 10]⟩,
 ⟨(some 34), .pick, [.t 28, .c (.bool true), .t 33], none, [10, 15]⟩,
 ⟨(some 35), .mov, [.t 34], none, [16, 10]⟩,
 ⟨(some 36), (.faddr 0 true 6), [.t 5], (some (35, false)), [17]⟩,
 ⟨(some 37), (.faddr 3 false 1), [.t 36], (some (35, false)), [18, 17]⟩,
 ⟨(some 38), (.load false 1), [.t 37], (some (35, false)), [19, 17]⟩,
 ⟨(some 39), .len, [.t 38], (some (35, false)), [20, 17]⟩,
 ⟨(some 40), (.bin .gtr), [.t 39, .c (.int .i64 10)], (some (35, false)), [21, 17]⟩,
 ⟨(some 41), .pick, [.t 35, .c (.bool true), .t 40], none, [17, 22]⟩] false)
 (.cond (.t 41)
 (.seq
 (.region [⟨(some 6), .mov, [.c (.bool true)], none, []⟩] false)
 .ret)
 .skip))
 (.keep [3, 4, 5] [3, 4, 5] b15k5))
def b15 : DCode :=
 (.seq
 (.region [⟨(some 3), .box, [.t 0], none, []⟩,
 ⟨(some 4), .box, [.t 1], none, []⟩,
 ⟨(some 5), .box, [.t 2], none, []⟩,
 ⟨(some 6), .mov, [.c (.bool false)], none, []⟩] false)
 (.seq
 (.seq
 (.region [⟨(some 16), .call, [.f 17], none, []⟩,
 ⟨(some 17), (.un .not), [.t 16], none, [0]⟩] false)
 (.cond (.t 17)
 (.seq
 (.region [⟨(some 6), .mov, [.c (.bool false)], none, []⟩] false)
 .ret)
 .skip))
 (.keep [3, 4, 5] [3, 4, 5] b15k6)))
def d15 : DFn := ⟨3, 176, [.tmp 6], b15⟩
theorem body15 : d15.body = b15 := rfl
theorem res15 : d15.res = [.tmp 6] := rfl
theorem k15 : chkFn Try.prog Try.f15 d15 = true := by kernel_rfl

end Go.DI

