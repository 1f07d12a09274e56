/- The functions of oscillations in the reference and the statements, as data. No condition. -/
import Derived.Test.YtadmimjaelodkaaSmGe
import Derived.Test.YtadmimjaelodkaaProg
import Derived.KernelRfl
namespace Go.DI
open Go.Proofs Go.RowKit
/-- guidevane/guidevaneref03.FlowErr -/
def b82k0 : DCode :=
 (.seq
 (.region [⟨(some 2), .mov, [.c (.int .i64 0)], none, []⟩] false)
 .ret)
def b82 : DCode :=
 (.seq
 (.region [⟨(some 1), .box, [.t 0], none, []⟩,
 ⟨(some 2), .mov, [.c (.int .i64 0)], none, []⟩] false)
 (.seq
 (.seq
 (.region [⟨(some 3), (.faddr 0 false 1), [.t 1], none, []⟩,
 ⟨(some 4), (.load false 1), [.t 3], none, [0]⟩,
 ⟨(some 5), .call, [.f 34, .t 4, .c (.int .i64 (-10)), .c (.int .i64 10)], none, [1]⟩,
 ⟨(some 6), (.un .not), [.t 5], none, [2]⟩,
 ⟨(some 7), .mov, [.t 6], none, [3, 2]⟩,
 ⟨(some 8), (.faddr 1 false 1), [.t 1], (some (7, false)), [4]⟩,
 ⟨(some 9), (.load false 1), [.t 8], (some (7, false)), [5, 4]⟩,
 ⟨(some 10), .call, [.f 34, .t 9, .c (.int .i64 (-10)), .c (.int .i64 10)], (some (7, false)), [6, 4, 4]⟩,
 ⟨(some 11), (.un .not), [.t 10], (some (7, false)), [7, 4]⟩,
 ⟨(some 12), .pick, [.t 7, .c (.bool true), .t 11], none, [4, 8]⟩] false)
 (.cond (.t 12)
 (.seq
 (.region [⟨(some 2), .mov, [.c (.int .i64 2)], none, []⟩] false)
 .ret)
 .skip))
 (.keep [] [] b82k0)))
def d82 : DFn := ⟨1, 13, [.tmp 2], b82⟩
theorem body82 : d82.body = b82 := rfl
theorem res82 : d82.res = [.tmp 2] := rfl
theorem k82 : chkFn Try.prog Try.f82 d82 = true := by kernel_rfl

/-- guidevane/guidevaneref03.SteadyErr -/
def b84k0 : DCode :=
 (.region [⟨(some 56), .mov, [.t 8], none, []⟩,
 ⟨(some 57), (.bin .add), [.t 56, .c (.int .i64 1)], none, [0]⟩,
 ⟨(some 8), .mov, [.t 57], none, [1, 0, 1]⟩] false)
def b84k1 : DCode :=
 (.seq
 (.block 1
 (.seq
 (.region [⟨(some 58), .movv, [.t 7], none, []⟩,
 ⟨(some 59), .mov, [.t 8], none, []⟩,
 ⟨(some 60), (.iaddr 2), [.t 58, .t 59], none, [0, 1]⟩,
 ⟨(some 61), (.faddr 0 false 1), [.t 60], none, [2]⟩,
 ⟨(some 62), (.load false 1), [.t 61], none, [3]⟩,
 ⟨(some 63), .call, [.f 34, .t 62, .c (.int .i64 (-1000000)), .c (.int .i64 1000000)], none, [4]⟩,
 ⟨(some 64), (.un .not), [.t 63], none, [5]⟩,
 ⟨(some 65), .mov, [.t 64], none, [6, 5]⟩,
 ⟨(some 66), .movv, [.t 7], (some (65, false)), [7]⟩,
 ⟨(some 67), .mov, [.t 8], (some (65, false)), [7]⟩,
 ⟨(some 68), (.iaddr 2), [.t 66, .t 67], (some (65, false)), [8, 9, 7]⟩,
 ⟨(some 69), (.faddr 1 false 1), [.t 68], (some (65, false)), [10, 7]⟩,
 ⟨(some 70), (.load false 1), [.t 69], (some (65, false)), [11, 7]⟩,
 ⟨(some 71), .call, [.f 34, .t 70, .c (.int .i64 (-1000000)), .c (.int .i64 1000000)], (some (65, false)), [12, 7, 7]⟩,
 ⟨(some 72), (.un .not), [.t 71], (some (65, false)), [13, 7]⟩,
 ⟨(some 73), .pick, [.t 65, .c (.bool true), .t 72], none, [7, 14]⟩] false)
 (.cond (.t 73)
 (.seq
 (.region [⟨(some 4), .mov, [.c (.int .i64 2)], none, []⟩] false)
 .ret)
 .skip)))
 (.keep [7, 8] [41, 44, 47, 51] b84k0))
def b84l0 : DCode := .keep [7, 8] [41, 44, 47, 51]
 (.seq
 (.seq
 (.region [⟨(some 52), .mov, [.t 8], none, []⟩,
 ⟨(some 53), .movv, [.t 7], none, []⟩,
 ⟨(some 54), .len, [.t 53], none, [1]⟩,
 ⟨(some 55), (.bin .lss), [.t 52, .t 54], none, [0, 2]⟩] false)
 (.cond (.t 55)
 .skip
 (.exit 0)))
 (.keep [7, 8] [41, 44, 47, 51] b84k1))
def b84k2 : DCode :=
 (.seq
 (.region [⟨(some 4), .mov, [.c (.int .i64 0)], none, []⟩] false)
 .ret)
def b84k3 : DCode :=
 (.seq
 (.region [⟨(some 38), (.bsl 2), [], none, []⟩,
 ⟨(some 39), (.faddr 1 false 1), [.t 3], none, []⟩,
 ⟨(some 40), (.load false 1), [.t 39], none, [1]⟩,
 ⟨(some 41), (.append 2 16 false), [.t 38, .t 40], none, [0, 2]⟩,
 ⟨(some 42), (.faddr 2 false 1), [.t 3], none, []⟩,
 ⟨(some 43), (.load false 1), [.t 42], none, [4]⟩,
 ⟨(some 44), (.append 2 16 false), [.t 41, .t 43], none, [3, 5, 3]⟩,
 ⟨(some 45), (.faddr 3 false 1), [.t 3], none, []⟩,
 ⟨(some 46), (.load false 1), [.t 45], none, [7]⟩,
 ⟨(some 47), (.append 2 16 false), [.t 44, .t 46], none, [6, 8, 6]⟩,
 ⟨(some 48), (.faddr 4 true 2), [.t 3], none, []⟩,
 ⟨(some 49), (.load true 2), [.t 48], none, [10]⟩,
 ⟨(some 50), (.bsl 2), [.t 49], none, [11]⟩,
 ⟨(some 51), (.append 2 16 false), [.t 47, .t 50], none, [9, 12, 9]⟩,
 ⟨(some 7), .movv, [.t 51], none, [13, 13, 0, 1, 2, 3, 4, 5, 6, 7, 8, 9, 10, 11, 12, 13]⟩] true)
 (.seq
 (.seq
 (.region [⟨(some 8), .mov, [.c (.int .i64 0)], none, []⟩] false)
 (.block 0
 (.loop b84l0)))
 (.keep [] [] b84k2)))
def b84k4 : DCode :=
 (.seq
 (.region [⟨(some 15), (.load true 2), [.t 2], none, []⟩,
 ⟨(some 16), .call, [.f 40, .t 15], none, [0]⟩,
 ⟨(some 6), .mov, [.t 16], none, [1, 1, 0, 1]⟩] false)
 (.seq
 (.seq
 (.region [⟨(some 17), (.faddr 1 false 1), [.t 3], none, []⟩,
 ⟨(some 18), (.load false 1), [.t 17], none, [0]⟩,
 ⟨(some 19), .len, [.t 18], none, [1]⟩,
 ⟨(some 20), .mov, [.t 6], none, []⟩,
 ⟨(some 21), (.bin .neq), [.t 19, .t 20], none, [2, 3]⟩,
 ⟨(some 22), .mov, [.t 21], none, [4]⟩,
 ⟨(some 23), (.faddr 2 false 1), [.t 3], (some (22, false)), [5]⟩,
 ⟨(some 24), (.load false 1), [.t 23], (some (22, false)), [6, 5]⟩,
 ⟨(some 25), .len, [.t 24], (some (22, false)), [7, 5]⟩,
 ⟨(some 26), .mov, [.t 6], (some (22, false)), [5]⟩,
 ⟨(some 27), (.bin .neq), [.t 25, .t 26], (some (22, false)), [8, 9, 5]⟩,
 ⟨(some 28), .pick, [.t 22, .c (.bool true), .t 27], none, [5, 10]⟩,
 ⟨(some 29), .mov, [.t 28], none, [11, 5]⟩,
 ⟨(some 30), (.faddr 3 false 1), [.t 3], (some (29, false)), [12]⟩,
 ⟨(some 31), (.load false 1), [.t 30], (some (29, false)), [13, 12]⟩,
 ⟨(some 32), .len, [.t 31], (some (29, false)), [14, 12]⟩,
 ⟨(some 33), (.faddr 1 false 1), [.t 2], (some (29, false)), [12]⟩,
 ⟨(some 34), (.load false 1), [.t 33], (some (29, false)), [16, 12]⟩,
 ⟨(some 35), .len, [.t 34], (some (29, false)), [17, 12]⟩,
 ⟨(some 36), (.bin .neq), [.t 32, .t 35], (some (29, false)), [15, 18, 12]⟩,
 ⟨(some 37), .pick, [.t 29, .c (.bool true), .t 36], none, [12, 19]⟩] false)
 (.cond (.t 37)
 (.seq
 (.region [⟨(some 4), .mov, [.c (.int .i64 10)], none, []⟩] false)
 .ret)
 .skip))
 (.keep [3] [] b84k3)))
def b84 : DCode :=
 (.seq
 (.settle [2, 3]
 (.region [⟨(some 2), .box, [.t 0], none, []⟩,
 ⟨(some 3), .box, [.t 1], none, []⟩,
 ⟨(some 4), .mov, [.c (.int .i64 0)], none, []⟩] false))
 (.seq
 (.seq
 (.region [⟨(some 9), (.faddr 0 false 1), [.t 3], none, []⟩,
 ⟨(some 10), (.load false 1), [.t 9], none, [0]⟩,
 ⟨(some 11), .call, [.f 47, .t 10], none, [1]⟩,
 ⟨(some 5), .mov, [.t 11], none, [2, 2, 0, 1, 2]⟩] false)
 (.seq
 (.region [⟨(some 12), .mov, [.t 5], none, []⟩,
 ⟨(some 13), (.bin .neq), [.t 12, .c (.int .i64 0)], none, [0]⟩] false)
 (.cond (.t 13)
 (.seq
 (.region [⟨(some 14), .mov, [.t 5], none, []⟩,
 ⟨(some 4), .mov, [.t 14], none, [0, 0]⟩] false)
 .ret)
 .skip)))
 (.keep [2, 3] [] b84k4)))
def d84 : DFn := ⟨2, 74, [.tmp 4], b84⟩
theorem body84 : d84.body = b84 := rfl
theorem res84 : d84.res = [.tmp 4] := rfl
theorem k84 : chkFn Try.prog Try.f84 d84 = true := by kernel_rfl

/-- guidevane/guidevaneref03.CopySteady -/
def b80 : DCode :=
 (.seq
 (.region [⟨(some 1), .box, [.t 0], none, []⟩,
 ⟨(some 2), (.alloc [(.imm (.int .i64 0)), (.imm (.slc 2 [])), (.imm (.slc 2 [])), (.imm (.slc 2 [])), (.imm (.int .i64 0)), (.imm (.int .i64 0))]), [], none, []⟩] false)
 (.seq
 (.region [⟨(some 3), (.faddr 1 false 1), [.t 1], none, []⟩,
 ⟨(some 4), (.load false 1), [.t 3], none, [0]⟩,
 ⟨(some 5), .call, [.f 137, .t 4], none, [1]⟩,
 ⟨(some 6), (.faddr 2 false 1), [.t 1], none, []⟩,
 ⟨(some 7), (.load false 1), [.t 6], none, [3]⟩,
 ⟨(some 8), .call, [.f 137, .t 7], none, [4, 2]⟩,
 ⟨(some 9), (.faddr 3 false 1), [.t 1], none, []⟩,
 ⟨(some 10), (.load false 1), [.t 9], none, [6]⟩,
 ⟨(some 11), .call, [.f 137, .t 10], none, [7, 5]⟩,
 ⟨(some 12), (.faddr 1 false 1), [.t 1], none, [0, 1, 2, 3, 4, 6, 7]⟩,
 ⟨none, (.store 1), [.t 12, .t 5], none, [9, 2, 8, 0, 1, 2, 3, 4, 6, 7]⟩,
 ⟨(some 13), (.faddr 2 false 1), [.t 1], none, [0, 1, 2, 3, 4, 5, 6, 7, 9, 10]⟩,
 ⟨none, (.store 1), [.t 13, .t 8], none, [11, 5, 10, 0, 1, 2, 3, 4, 5, 6, 7, 9, 10]⟩,
 ⟨(some 14), (.faddr 3 false 1), [.t 1], none, [0, 1, 2, 3, 4, 5, 6, 7, 8, 9, 10, 11, 12]⟩,
 ⟨none, (.store 1), [.t 14, .t 11], none, [13, 8, 12, 0, 1, 2, 3, 4, 5, 6, 7, 8, 9, 10, 11, 12]⟩] true)
 (.seq
 (.region [⟨(some 15), (.load true 6), [.t 1], none, []⟩,
 ⟨none, (.store 6), [.t 2, .t 15], none, [0, 0]⟩] false)
 .ret)))
def d80 : DFn := ⟨1, 16, [.cell 2 true 6], b80⟩
theorem body80 : d80.body = b80 := rfl
theorem res80 : d80.res = [.cell 2 true 6] := rfl
theorem k80 : chkFn Try.prog Try.f80 d80 = true := by kernel_rfl

/-- guidevane/guidevanelaw03.WaveAgree -/
def b16k0 : DCode :=
 (.region [⟨(some 154), (.load true 3), [.t 19], none, []⟩,
 ⟨(some 155), .call, [.f 23, .t 154], none, [0]⟩,
 ⟨none, (.store 3), [.t 11, .t 155], none, [1, 1, 0, 1]⟩] false)
def b16k1 : DCode :=
 (.seq
 (.region [⟨(some 138), (.load true 2), [.t 3], none, []⟩,
 ⟨(some 139), .call, [.f 22, .t 138], none, [0]⟩,
 ⟨(some 140), (.load true 3), [.t 11], none, []⟩,
 ⟨(some 141), .call, [.f 23, .t 140], none, [2, 1]⟩,
 ⟨(some 142), .mov, [.t 17], none, []⟩,
 ⟨(some 143), .call, [.f 25, .t 139, .t 141, .t 142], none, [1, 3, 4, 3]⟩,
 ⟨(some 137), .mov, [.t 143], none, [5]⟩,
 ⟨(some 144), (.ext 0), [.t 137], none, [6]⟩,
 ⟨(some 145), (.ext 1), [.t 137], none, [6]⟩,
 ⟨(some 19), (.alloc [(.imm (.slc 1 [])), (.imm (.slc 1 [])), (.imm (.slc 1 []))]), [], none, []⟩,
 ⟨none, (.store 3), [.t 19, .t 144], none, [9, 7, 5, 0, 1, 2, 3, 4, 5, 6, 7, 9]⟩,
 ⟨(some 20), .mov, [.t 145], none, [8, 10, 0, 1, 2, 3, 4, 5, 6, 7, 8, 9, 10]⟩] true)
 (.seq
 (.seq
 (.region [⟨(some 146), .mov, [.t 20], none, []⟩,
 ⟨(some 147), (.bin .neq), [.t 146, .c (.int .i64 0)], none, [0]⟩,
 ⟨(some 148), .mov, [.t 147], none, [1]⟩,
 ⟨(some 149), (.load true 3), [.t 19], (some (148, false)), [2]⟩,
 ⟨(some 150), (.load true 3), [.t 16], (some (148, false)), [2]⟩,
 ⟨(some 151), .call, [.f 27, .t 149, .t 150], (some (148, false)), [3, 4, 2, 2]⟩,
 ⟨(some 152), (.un .not), [.t 151], (some (148, false)), [5, 2]⟩,
 ⟨(some 153), .pick, [.t 148, .c (.bool true), .t 152], none, [2, 6]⟩] false)
 (.cond (.t 153)
 (.seq
 (.region [⟨(some 6), .mov, [.c (.bool false)], none, []⟩] false)
 .ret)
 .skip))
 (.keep [3, 7, 11, 14, 15, 19] [3, 7, 11, 14, 19] b16k0)))
def b16k2 : DCode :=
 (.seq
 (.seq
 (.region [⟨(some 134), .mov, [.t 17], none, []⟩,
 ⟨(some 135), .call, [.f 28, .t 134], none, [0]⟩,
 ⟨(some 136), (.bin .neq), [.t 135, .c (.int .i64 0)], none, [1]⟩] false)
 (.cond (.t 136)
 (.seq
 (.region [⟨(some 6), .mov, [.c (.bool true)], none, []⟩] false)
 .ret)
 .skip))
 (.keep [3, 7, 11, 14, 15, 16, 17] [3, 7, 11, 14, 16] b16k1))
def b16k3 : DCode :=
 (.region [⟨(some 114), .mov, [.t 15], none, []⟩,
 ⟨(some 115), (.bin .add), [.t 114, .c (.int .i64 1)], none, [0]⟩,
 ⟨(some 15), .mov, [.t 115], none, [1, 0, 1]⟩] false)
def b16k4 : DCode :=
 (.seq
 (.block 1
 (.seq
 (.region [⟨(some 117), (.load true 2), [.t 3], none, []⟩,
 ⟨(some 118), .call, [.f 22, .t 117], none, [0]⟩,
 ⟨(some 119), (.load true 6), [.t 7], none, []⟩,
 ⟨(some 120), .call, [.f 80, .t 119], none, [2, 1]⟩,
 ⟨(some 121), .mov, [.t 15], none, []⟩,
 ⟨(some 122), .call, [.f 79, .t 118, .t 120, .t 121], none, [1, 3, 4, 3]⟩,
 ⟨(some 116), .mov, [.t 122], none, [5]⟩,
 ⟨(some 123), (.ext 0), [.t 116], none, [6]⟩,
 ⟨(some 124), (.ext 1), [.t 116], none, [6]⟩,
 ⟨(some 125), (.ext 2), [.t 116], none, [6]⟩,
 ⟨(some 16), (.alloc [(.imm (.slc 1 [])), (.imm (.slc 1 [])), (.imm (.slc 1 []))]), [], none, []⟩,
 ⟨none, (.store 3), [.t 16, .t 123], none, [10, 7, 5, 0, 1, 2, 3, 4, 5, 6, 7, 10]⟩,
 ⟨(some 17), .mov, [.t 124], none, [8, 11, 0, 1, 2, 3, 4, 5, 6, 7, 8, 10, 11]⟩,
 ⟨(some 18), .mov, [.t 125], none, [9, 12, 0, 1, 2, 3, 4, 5, 6, 7, 8, 9, 10, 11, 12]⟩] true)
 (.seq
 (.seq
 (.region [⟨(some 126), .mov, [.t 18], none, []⟩,
 ⟨(some 127), (.bin .neq), [.t 126, .c (.int .i64 0)], none, [0]⟩,
 ⟨(some 128), .mov, [.t 127], none, [1]⟩,
 ⟨(some 129), (.load true 2), [.t 3], (some (128, false)), [2]⟩,
 ⟨(some 130), (.load true 3), [.t 11], (some (128, false)), [2]⟩,
 ⟨(some 131), .call, [.f 26, .t 129, .t 130], (some (128, false)), [3, 4, 2, 2]⟩,
 ⟨(some 132), (.bin .neq), [.t 131, .c (.int .i64 0)], (some (128, false)), [5, 2]⟩,
 ⟨(some 133), .pick, [.t 128, .c (.bool true), .t 132], none, [2, 6]⟩] false)
 (.cond (.t 133)
 (.seq
 (.region [⟨(some 6), .mov, [.c (.bool false)], none, []⟩] false)
 .ret)
 .skip))
 (.keep [3, 7, 11, 14, 15, 16, 17] [3, 7, 11, 14, 16] b16k2))))
 (.keep [3, 7, 11, 14, 15] [3, 7, 11, 14] b16k3))
def b16l0 : DCode := .keep [3, 7, 11, 14, 15] [3, 7, 11, 14]
 (.seq
 (.seq
 (.region [⟨(some 112), .mov, [.t 15], none, []⟩,
 ⟨(some 113), (.bin .leq), [.t 112, .c (.int .i64 4)], none, [0]⟩] false)
 (.cond (.t 113)
 .skip
 (.exit 0)))
 (.keep [3, 7, 11, 14, 15] [3, 7, 11, 14] b16k4))
def b16k5 : DCode :=
 (.seq
 (.region [⟨(some 156), (.load true 3), [.t 11], none, []⟩,
 ⟨(some 157), (.load true 3), [.t 14], none, []⟩,
 ⟨(some 158), .call, [.f 27, .t 156, .t 157], none, [0, 1]⟩,
 ⟨(some 6), .mov, [.t 158], none, [2, 2, 0, 1, 2]⟩] false)
 .ret)
def b16k6 : DCode :=
 (.seq
 (.region [⟨(some 110), (.load true 3), [.t 11], none, []⟩,
 ⟨(some 111), .call, [.f 23, .t 110], none, [0]⟩,
 ⟨(some 14), (.alloc [(.imm (.slc 1 [])), (.imm (.slc 1 [])), (.imm (.slc 1 []))]), [], none, []⟩,
 ⟨none, (.store 3), [.t 14, .t 111], none, [2, 1, 1, 0, 1, 2]⟩] false)
 (.seq
 (.seq
 (.region [⟨(some 15), .mov, [.c (.int .i64 1)], none, []⟩] false)
 (.block 0
 (.loop b16l0)))
 (.keep [11, 14] [11, 14] b16k5)))
def b16k7 : DCode :=
 (.seq
 (.region [⟨(some 95), (.load true 2), [.t 3], none, []⟩,
 ⟨(some 96), .call, [.f 22, .t 95], none, [0]⟩,
 ⟨(some 97), (.load true 6), [.t 7], none, []⟩,
 ⟨(some 98), .call, [.f 80, .t 97], none, [2, 1]⟩,
 ⟨(some 99), .call, [.f 79, .t 96, .t 98, .c (.int .i64 0)], none, [1, 3, 3]⟩,
 ⟨(some 94), .mov, [.t 99], none, [4]⟩,
 ⟨(some 100), (.ext 0), [.t 94], none, [5]⟩,
 ⟨(some 101), (.ext 1), [.t 94], none, [5]⟩,
 ⟨(some 102), (.ext 2), [.t 94], none, [5]⟩,
 ⟨(some 11), (.alloc [(.imm (.slc 1 [])), (.imm (.slc 1 [])), (.imm (.slc 1 []))]), [], none, []⟩,
 ⟨none, (.store 3), [.t 11, .t 100], none, [9, 6, 4, 0, 1, 2, 3, 4, 5, 6, 9]⟩,
 ⟨(some 12), .mov, [.t 101], none, [7, 10, 0, 1, 2, 3, 4, 5, 6, 7, 9, 10]⟩,
 ⟨(some 13), .mov, [.t 102], none, [8, 11, 0, 1, 2, 3, 4, 5, 6, 7, 8, 9, 10, 11]⟩] true)
 (.seq
 (.seq
 (.region [⟨(some 103), .mov, [.t 13], none, []⟩,
 ⟨(some 104), (.bin .neq), [.t 103, .c (.int .i64 0)], none, [0]⟩,
 ⟨(some 105), .mov, [.t 104], none, [1]⟩,
 ⟨(some 106), (.load true 3), [.t 11], (some (105, false)), [2]⟩,
 ⟨(some 107), .call, [.f 19, .t 106], (some (105, false)), [3, 2, 2]⟩,
 ⟨(some 108), (.un .not), [.t 107], (some (105, false)), [4, 2]⟩,
 ⟨(some 109), .pick, [.t 105, .c (.bool true), .t 108], none, [2, 5]⟩] false)
 (.cond (.t 109)
 (.seq
 (.region [⟨(some 6), .mov, [.c (.bool false)], none, []⟩] false)
 .ret)
 .skip))
 (.keep [3, 7, 11] [3, 7, 11] b16k6)))
def b16k8 : DCode :=
 (.seq
 (.seq
 (.region [⟨(some 90), (.load true 2), [.t 3], none, []⟩,
 ⟨(some 91), (.load true 6), [.t 7], none, []⟩,
 ⟨(some 92), .call, [.f 84, .t 90, .t 91], none, [0, 1]⟩,
 ⟨(some 93), (.bin .neq), [.t 92, .c (.int .i64 0)], none, [2]⟩] false)
 (.cond (.t 93)
 (.seq
 (.region [⟨(some 6), .mov, [.c (.bool true)], none, []⟩] false)
 .ret)
 .skip))
 (.keep [3, 7] [3, 7] b16k7))
def b16k9 : DCode :=
 (.seq
 (.region [⟨(some 42), (.load true 2), [.t 3], none, []⟩,
 ⟨(some 43), .call, [.f 22, .t 42], none, [0]⟩,
 ⟨(some 44), .mov, [.t 1], none, []⟩,
 ⟨(some 45), (.load true 2), [.t 5], none, []⟩,
 ⟨(some 46), .call, [.f 78, .t 43, .t 44, .t 45], none, [1, 2, 3, 1]⟩,
 ⟨(some 41), .mov, [.t 46], none, [4]⟩,
 ⟨(some 47), (.ext 0), [.t 41], none, [5]⟩,
 ⟨(some 48), (.ext 1), [.t 41], none, [5]⟩,
 ⟨(some 7), (.alloc [(.imm (.int .i64 0)), (.imm (.slc 2 [])), (.imm (.slc 2 [])), (.imm (.slc 2 [])), (.imm (.int .i64 0)), (.imm (.int .i64 0))]), [], none, []⟩,
 ⟨none, (.store 6), [.t 7, .t 47], none, [8, 6, 4, 0, 1, 2, 3, 4, 5, 6, 8]⟩,
 ⟨(some 8), .mov, [.t 48], none, [7, 9, 0, 1, 2, 3, 4, 5, 6, 7, 8, 9]⟩] true)
 (.seq
 (.region [⟨(some 50), (.load true 2), [.t 3], none, []⟩,
 ⟨(some 51), .call, [.f 22, .t 50], none, [0]⟩,
 ⟨(some 52), .call, [.f 44, .t 51], none, [1, 1]⟩,
 ⟨(some 49), .mov, [.t 52], none, [2]⟩,
 ⟨(some 53), (.ext 0), [.t 49], none, [3]⟩,
 ⟨(some 54), (.ext 1), [.t 49], none, [3]⟩,
 ⟨(some 9), .movv, [.t 53], none, [4, 2, 0, 1, 2, 3, 4]⟩,
 ⟨(some 10), .mov, [.t 54], none, [5, 6, 0, 1, 2, 3, 4, 5, 6]⟩] false)
 (.seq
 (.seq
 (.region [⟨(some 55), .mov, [.t 8], none, []⟩,
 ⟨(some 56), (.bin .neq), [.t 55, .c (.int .i64 0)], none, [0]⟩,
 ⟨(some 57), .mov, [.t 56], none, [1]⟩,
 ⟨(some 58), .mov, [.t 10], (some (57, false)), [2]⟩,
 ⟨(some 59), (.bin .neq), [.t 58, .c (.int .i64 0)], (some (57, false)), [3, 2]⟩,
 ⟨(some 60), .pick, [.t 57, .c (.bool true), .t 59], none, [2, 4]⟩,
 ⟨(some 61), .mov, [.t 60], none, [5, 2]⟩,
 ⟨(some 62), (.faddr 1 false 1), [.t 7], (some (61, false)), [6]⟩,
 ⟨(some 63), (.load false 1), [.t 62], (some (61, false)), [7, 6]⟩,
 ⟨(some 64), .len, [.t 63], (some (61, false)), [8, 6]⟩,
 ⟨(some 65), (.bin .gtr), [.t 64, .c (.int .i64 30)], (some (61, false)), [9, 6]⟩,
 ⟨(some 66), .pick, [.t 61, .c (.bool true), .t 65], none, [6, 10]⟩,
 ⟨(some 67), .mov, [.t 66], none, [11, 6]⟩,
 ⟨(some 68), (.faddr 2 false 1), [.t 7], (some (67, false)), [12]⟩,
 ⟨(some 69), (.load false 1), [.t 68], (some (67, false)), [13, 12]⟩,
 ⟨(some 70), .len, [.t 69], (some (67, false)), [14, 12]⟩,
 ⟨(some 71), (.bin .gtr), [.t 70, .c (.int .i64 30)], (some (67, false)), [15, 12]⟩,
 ⟨(some 72), .pick, [.t 67, .c (.bool true), .t 71], none, [12, 16]⟩,
 ⟨(some 73), .mov, [.t 72], none, [17, 12]⟩,
 ⟨(some 74), (.faddr 3 false 1), [.t 7], (some (73, false)), [18]⟩,
 ⟨(some 75), (.load false 1), [.t 74], (some (73, false)), [19, 18]⟩,
 ⟨(some 76), .len, [.t 75], (some (73, false)), [20, 18]⟩,
 ⟨(some 77), (.bin .gtr), [.t 76, .c (.int .i64 10)], (some (73, false)), [21, 18]⟩,
 ⟨(some 78), .pick, [.t 73, .c (.bool true), .t 77], none, [18, 22]⟩,
 ⟨(some 79), .mov, [.t 78], none, [23, 18]⟩,
 ⟨(some 80), .movv, [.t 9], (some (79, false)), [24]⟩,
 ⟨(some 81), .mov, [.t 1], (some (79, false)), [24]⟩,
 ⟨(some 82), .call, [.f 51, .t 80, .t 81], (some (79, false)), [25, 26, 24, 24]⟩,
 ⟨(some 83), .mov, [.t 82], (some (79, false)), [27, 27, 24]⟩,
 ⟨(some 84), (.faddr 4 true 2), [.t 7], (some (83, true)), [28]⟩,
 ⟨(some 85), (.load true 2), [.t 84], (some (83, true)), [29, 28]⟩,
 ⟨(some 86), (.build [(.imm (.int .i64 0)), (.imm (.int .i64 0))] []), [], (some (83, true)), [28]⟩,
 ⟨(some 87), (.eqs [false, false] true), [.t 85, .t 86], (some (83, true)), [30, 31, 28]⟩,
 ⟨(some 88), .pick, [.t 83, .t 87, .c (.bool false)], (some (79, false)), [28, 32, 24]⟩,
 ⟨(some 89), .pick, [.t 79, .c (.bool true), .t 88], none, [24, 33]⟩] false)
 (.cond (.t 89)
 (.seq
 (.region [⟨(some 6), .mov, [.c (.bool false)], none, []⟩] false)
 .ret)
 .skip))
 (.keep [3, 7] [3, 7] b16k8))))
def b16k10 : DCode :=
 (.seq
 (.seq
 (.region [⟨(some 23), (.load true 2), [.t 3], none, []⟩,
 ⟨(some 24), .call, [.f 18, .t 23], none, [0]⟩,
 ⟨(some 25), (.un .not), [.t 24], none, [1]⟩,
 ⟨(some 26), .mov, [.t 25], none, [2, 1]⟩,
 ⟨(some 27), (.load true 2), [.t 3], (some (26, false)), [3]⟩,
 ⟨(some 28), .call, [.f 37, .t 27], (some (26, false)), [4, 3, 3]⟩,
 ⟨(some 29), (.bin .neq), [.t 28, .c (.int .i64 0)], (some (26, false)), [5, 3]⟩,
 ⟨(some 30), .pick, [.t 26, .c (.bool true), .t 29], none, [3, 6]⟩,
 ⟨(some 31), .mov, [.t 30], none, [7, 5]⟩,
 ⟨(some 32), .mov, [.t 1], (some (31, false)), [8]⟩,
 ⟨(some 33), .call, [.f 47, .t 32], (some (31, false)), [9, 8, 8]⟩,
 ⟨(some 34), (.bin .neq), [.t 33, .c (.int .i64 0)], (some (31, false)), [10, 8]⟩,
 ⟨(some 35), .pick, [.t 31, .c (.bool true), .t 34], none, [8, 11]⟩,
 ⟨(some 36), .mov, [.t 35], none, [12, 10]⟩,
 ⟨(some 37), (.load true 2), [.t 5], (some (36, false)), [13]⟩,
 ⟨(some 38), .call, [.f 82, .t 37], (some (36, false)), [14, 13, 13]⟩,
 ⟨(some 39), (.bin .neq), [.t 38, .c (.int .i64 0)], (some (36, false)), [15, 13]⟩,
 ⟨(some 40), .pick, [.t 36, .c (.bool true), .t 39], none, [13, 16]⟩] false)
 (.cond (.t 40)
 (.seq
 (.region [⟨(some 6), .mov, [.c (.bool true)], none, []⟩] false)
 .ret)
 .skip))
 (.keep [1, 3, 5] [3, 5] b16k9))
def b16 : DCode :=
 (.seq
 (.region [⟨(some 3), .box, [.t 0], none, []⟩,
 ⟨(some 5), .box, [.t 2], none, []⟩,
 ⟨(some 6), .mov, [.c (.bool false)], none, []⟩] false)
 (.seq
 (.seq
 (.region [⟨(some 21), .call, [.f 17], none, []⟩,
 ⟨(some 22), (.un .not), [.t 21], none, [0]⟩] false)
 (.cond (.t 22)
 (.seq
 (.region [⟨(some 6), .mov, [.c (.bool false)], none, []⟩] false)
 .ret)
 .skip))
 (.keep [1, 3, 5] [3, 5] b16k10)))
def d16 : DFn := ⟨3, 159, [.tmp 6], b16⟩
theorem body16 : d16.body = b16 := rfl
theorem res16 : d16.res = [.tmp 6] := rfl
theorem k16 : chkFn Try.prog Try.f16 d16 = true := by kernel_rfl

end Go.DI

