/- The functions of the reference's matrices, as data. No condition. -/
import Derived.Test.YtadmimjaelodkaaSmGe
import Derived.Test.YtadmimjaelodkaaProg
import Derived.KernelRfl
namespace Go.DI
open Go.Proofs Go.RowKit
/-- guidevane/guidevanelaw03.WaveQuarters -/
def b6k0 : DCode :=
 (.seq
 (.region [⟨(some 126), .mov, [.t 8], none, []⟩,
 ⟨(some 127), (.bin .eql), [.t 126, .c (.int .i64 0)], none, [0]⟩,
 ⟨(some 128), .mov, [.t 127], none, [1]⟩,
 ⟨(some 129), (.load true 4), [.t 7], (some (128, true)), [2]⟩,
 ⟨(some 130), (.load true 4), [.t 12], (some (128, true)), [2]⟩,
 ⟨(some 131), (.eqs [false, false, false, false] false), [.t 129, .t 130], (some (128, true)), [3, 4, 2]⟩,
 ⟨(some 132), .pick, [.t 128, .t 131, .c (.bool false)], none, [2, 5]⟩,
 ⟨(some 4), .mov, [.t 132], none, [6, 2, 0, 1, 2, 3, 4, 5, 6]⟩] false)
 .ret)
def b6k1 : DCode :=
 (.seq
 (.seq
 (.region [⟨(some 117), .mov, [.t 13], none, []⟩,
 ⟨(some 118), (.un .not), [.t 117], none, [0]⟩] false)
 (.cond (.t 118)
 (.seq
 (.region [⟨(some 119), .mov, [.t 8], none, []⟩,
 ⟨(some 120), (.bin .eql), [.t 119, .c (.int .i64 21)], none, [0]⟩,
 ⟨(some 121), .mov, [.t 120], none, [1]⟩,
 ⟨(some 122), (.load true 4), [.t 7], (some (121, true)), [2]⟩,
 ⟨(some 123), (.build [(.imm (.int .i64 0)), (.imm (.int .i64 0)), (.imm (.int .i64 0)), (.imm (.int .i64 0))] []), [], (some (121, true)), [2]⟩,
 ⟨(some 124), (.eqs [false, false, false, false] false), [.t 122, .t 123], (some (121, true)), [3, 4, 2]⟩,
 ⟨(some 125), .pick, [.t 121, .t 124, .c (.bool false)], none, [2, 5]⟩,
 ⟨(some 4), .mov, [.t 125], none, [6, 2, 0, 1, 2, 3, 4, 5, 6]⟩] false)
 .ret)
 .skip))
 (.keep [7, 8, 12] [7, 12] b6k0))
def b6k2 : DCode :=
 (.seq
 (.region [⟨(some 103), (.load true 2), [.t 2], none, []⟩,
 ⟨(some 104), .mov, [.t 1], none, []⟩,
 ⟨(some 105), .call, [.f 48, .t 103, .t 104], none, [0, 1]⟩,
 ⟨(some 102), .mov, [.t 105], none, [2]⟩,
 ⟨(some 106), (.ext 0), [.t 102], none, [3]⟩,
 ⟨(some 107), (.ext 1), [.t 102], none, [3]⟩,
 ⟨(some 12), (.alloc [(.imm (.int .i64 0)), (.imm (.int .i64 0)), (.imm (.int .i64 0)), (.imm (.int .i64 0))]), [], none, []⟩,
 ⟨none, (.store 4), [.t 12, .t 106], none, [6, 4, 2, 0, 1, 2, 3, 4, 6]⟩,
 ⟨(some 13), .mov, [.t 107], none, [5, 7, 0, 1, 2, 3, 4, 5, 6, 7]⟩] false)
 (.seq
 (.seq
 (.region [⟨(some 108), .mov, [.t 6], none, []⟩,
 ⟨(some 109), (.bin .neq), [.t 108, .c (.int .i64 0)], none, [0]⟩,
 ⟨(some 110), .mov, [.t 109], none, [1]⟩,
 ⟨(some 111), (.load true 9), [.t 5], (some (110, false)), [2]⟩,
 ⟨(some 112), (.load true 2), [.t 2], (some (110, false)), [2]⟩,
 ⟨(some 113), .mov, [.t 1], (some (110, false)), [2]⟩,
 ⟨(some 114), .call, [.f 49, .t 112, .t 113], (some (110, false)), [4, 5, 2, 2]⟩,
 ⟨(some 115), (.eqs [false, false, false, false, false, false, false, false, false] true), [.t 111, .t 114], (some (110, false)), [3, 6, 2]⟩,
 ⟨(some 116), .pick, [.t 110, .c (.bool true), .t 115], none, [2, 7]⟩] true)
 (.cond (.t 116)
 (.seq
 (.region [⟨(some 4), .mov, [.c (.bool false)], none, []⟩] false)
 .ret)
 .skip))
 (.keep [7, 8, 12, 13] [7, 12] b6k1)))
def b6k3 : DCode :=
 (.seq
 (.seq
 (.region [⟨(some 80), .mov, [.t 1], none, []⟩,
 ⟨(some 81), .call, [.f 47, .t 80], none, [0]⟩,
 ⟨(some 11), .mov, [.t 81], none, [1, 1, 0, 1]⟩] false)
 (.seq
 (.region [⟨(some 82), .mov, [.t 11], none, []⟩,
 ⟨(some 83), (.bin .neq), [.t 82, .c (.int .i64 0)], none, [0]⟩] false)
 (.cond (.t 83)
 (.seq
 (.region [⟨(some 84), .mov, [.t 6], none, []⟩,
 ⟨(some 85), .mov, [.t 11], none, []⟩,
 ⟨(some 86), (.bin .eql), [.t 84, .t 85], none, [0, 1]⟩,
 ⟨(some 87), .mov, [.t 86], none, [2]⟩,
 ⟨(some 88), .mov, [.t 8], (some (87, true)), [3]⟩,
 ⟨(some 89), .mov, [.t 11], (some (87, true)), [3]⟩,
 ⟨(some 90), (.bin .eql), [.t 88, .t 89], (some (87, true)), [4, 5, 3]⟩,
 ⟨(some 91), .pick, [.t 87, .t 90, .c (.bool false)], none, [3, 6]⟩,
 ⟨(some 92), .mov, [.t 91], none, [7, 3]⟩,
 ⟨(some 93), (.load true 9), [.t 5], (some (92, true)), [8]⟩,
 ⟨(some 94), (.build [(.imm (.int .i64 0)), (.imm (.int .i64 0)), (.imm (.int .i64 0)), (.imm (.int .i64 0)), (.imm (.int .i64 0)), (.imm (.int .i64 0)), (.imm (.int .i64 0)), (.imm (.int .i64 0)), (.imm (.int .i64 0))] []), [], (some (92, true)), [8]⟩,
 ⟨(some 95), (.eqs [false, false, false, false, false, false, false, false, false] false), [.t 93, .t 94], (some (92, true)), [9, 10, 8]⟩,
 ⟨(some 96), .pick, [.t 92, .t 95, .c (.bool false)], none, [8, 11]⟩,
 ⟨(some 97), .mov, [.t 96], none, [12, 8]⟩,
 ⟨(some 98), (.load true 4), [.t 7], (some (97, true)), [13]⟩,
 ⟨(some 99), (.build [(.imm (.int .i64 0)), (.imm (.int .i64 0)), (.imm (.int .i64 0)), (.imm (.int .i64 0))] []), [], (some (97, true)), [13]⟩,
 ⟨(some 100), (.eqs [false, false, false, false] false), [.t 98, .t 99], (some (97, true)), [14, 15, 13]⟩,
 ⟨(some 101), .pick, [.t 97, .t 100, .c (.bool false)], none, [13, 16]⟩,
 ⟨(some 4), .mov, [.t 101], none, [17, 13, 0, 1, 2, 3, 4, 5, 6, 7, 8, 9, 10, 11, 12, 13, 14, 15, 16, 17]⟩] false)
 .ret)
 .skip)))
 (.keep [1, 2, 5, 6, 7, 8] [2, 5, 7] b6k2))
def b6k4 : DCode :=
 (.seq
 (.seq
 (.region [⟨(some 71), .mov, [.t 10], none, []⟩,
 ⟨(some 72), (.bin .neq), [.t 71, .c (.int .i64 0)], none, [0]⟩,
 ⟨(some 73), .mov, [.t 72], none, [1]⟩,
 ⟨(some 74), .movv, [.t 9], (some (73, false)), [2]⟩,
 ⟨(some 75), (.load true 2), [.t 2], (some (73, false)), [2]⟩,
 ⟨(some 76), .call, [.f 46, .t 75], (some (73, false)), [4, 2, 2]⟩,
 ⟨(some 77), .call, [.f 45, .t 74, .t 76], (some (73, false)), [3, 5, 5, 2]⟩,
 ⟨(some 78), (.un .not), [.t 77], (some (73, false)), [6, 2]⟩,
 ⟨(some 79), .pick, [.t 73, .c (.bool true), .t 78], none, [2, 7]⟩] false)
 (.cond (.t 79)
 (.seq
 (.region [⟨(some 4), .mov, [.c (.bool false)], none, []⟩] false)
 .ret)
 .skip))
 (.keep [1, 2, 5, 6, 7, 8] [2, 5, 7] b6k3))
def b6k5 : DCode :=
 (.seq
 (.region [⟨(some 20), (.load true 2), [.t 2], none, []⟩,
 ⟨(some 21), .call, [.f 22, .t 20], none, [0]⟩,
 ⟨(some 22), .mov, [.t 1], none, []⟩,
 ⟨(some 23), .call, [.f 42, .t 21, .t 22], none, [1, 2, 1]⟩,
 ⟨(some 19), .mov, [.t 23], none, [3]⟩,
 ⟨(some 24), (.ext 0), [.t 19], none, [4]⟩,
 ⟨(some 25), (.ext 1), [.t 19], none, [4]⟩,
 ⟨(some 5), (.alloc [(.imm (.int .i64 0)), (.imm (.int .i64 0)), (.imm (.int .i64 0)), (.imm (.int .i64 0)), (.imm (.int .i64 0)), (.imm (.int .i64 0)), (.imm (.int .i64 0)), (.imm (.int .i64 0)), (.imm (.int .i64 0))]), [], none, []⟩,
 ⟨none, (.store 9), [.t 5, .t 24], none, [7, 5, 3, 0, 1, 2, 3, 4, 5, 7]⟩,
 ⟨(some 6), .mov, [.t 25], none, [6, 8, 0, 1, 2, 3, 4, 5, 6, 7, 8]⟩] false)
 (.seq
 (.region [⟨(some 27), (.load true 2), [.t 2], none, []⟩,
 ⟨(some 28), .call, [.f 22, .t 27], none, [0]⟩,
 ⟨(some 29), .mov, [.t 1], none, []⟩,
 ⟨(some 30), .call, [.f 43, .t 28, .t 29], none, [1, 2, 1]⟩,
 ⟨(some 26), .mov, [.t 30], none, [3]⟩,
 ⟨(some 31), (.ext 0), [.t 26], none, [4]⟩,
 ⟨(some 32), (.ext 1), [.t 26], none, [4]⟩,
 ⟨(some 7), (.alloc [(.imm (.int .i64 0)), (.imm (.int .i64 0)), (.imm (.int .i64 0)), (.imm (.int .i64 0))]), [], none, []⟩,
 ⟨none, (.store 4), [.t 7, .t 31], none, [7, 5, 3, 0, 1, 2, 3, 4, 5, 7]⟩,
 ⟨(some 8), .mov, [.t 32], none, [6, 8, 0, 1, 2, 3, 4, 5, 6, 7, 8]⟩] false)
 (.seq
 (.region [⟨(some 34), (.load true 2), [.t 2], none, []⟩,
 ⟨(some 35), .call, [.f 22, .t 34], none, [0]⟩,
 ⟨(some 36), .call, [.f 44, .t 35], none, [1, 1]⟩,
 ⟨(some 33), .mov, [.t 36], none, [2]⟩,
 ⟨(some 37), (.ext 0), [.t 33], none, [3]⟩,
 ⟨(some 38), (.ext 1), [.t 33], none, [3]⟩,
 ⟨(some 9), .movv, [.t 37], none, [4, 2, 0, 1, 2, 3, 4]⟩,
 ⟨(some 10), .mov, [.t 38], none, [5, 6, 0, 1, 2, 3, 4, 5, 6]⟩] false)
 (.seq
 (.region [⟨(some 39), (.load true 2), [.t 2], none, []⟩,
 ⟨(some 40), .call, [.f 37, .t 39], none, [0]⟩,
 ⟨(some 11), .mov, [.t 40], none, [1, 1, 0, 1]⟩] false)
 (.seq
 (.seq
 (.region [⟨(some 41), .mov, [.t 11], none, []⟩,
 ⟨(some 42), (.bin .neq), [.t 41, .c (.int .i64 0)], none, [0]⟩] false)
 (.cond (.t 42)
 (.seq
 (.region [⟨(some 43), .mov, [.t 6], none, []⟩,
 ⟨(some 44), .mov, [.t 11], none, []⟩,
 ⟨(some 45), (.bin .eql), [.t 43, .t 44], none, [0, 1]⟩,
 ⟨(some 46), .mov, [.t 45], none, [2]⟩,
 ⟨(some 47), .mov, [.t 8], (some (46, true)), [3]⟩,
 ⟨(some 48), .mov, [.t 11], (some (46, true)), [3]⟩,
 ⟨(some 49), (.bin .eql), [.t 47, .t 48], (some (46, true)), [4, 5, 3]⟩,
 ⟨(some 50), .pick, [.t 46, .t 49, .c (.bool false)], none, [3, 6]⟩,
 ⟨(some 51), .mov, [.t 50], none, [7, 3]⟩,
 ⟨(some 52), .mov, [.t 10], (some (51, true)), [8]⟩,
 ⟨(some 53), .mov, [.t 11], (some (51, true)), [8]⟩,
 ⟨(some 54), (.bin .eql), [.t 52, .t 53], (some (51, true)), [9, 10, 8]⟩,
 ⟨(some 55), .pick, [.t 51, .t 54, .c (.bool false)], none, [8, 11]⟩,
 ⟨(some 56), .mov, [.t 55], none, [12, 8]⟩,
 ⟨(some 57), (.load true 9), [.t 5], (some (56, true)), [13]⟩,
 ⟨(some 58), (.build [(.imm (.int .i64 0)), (.imm (.int .i64 0)), (.imm (.int .i64 0)), (.imm (.int .i64 0)), (.imm (.int .i64 0)), (.imm (.int .i64 0)), (.imm (.int .i64 0)), (.imm (.int .i64 0)), (.imm (.int .i64 0))] []), [], (some (56, true)), [13]⟩,
 ⟨(some 59), (.eqs [false, false, false, false, false, false, false, false, false] false), [.t 57, .t 58], (some (56, true)), [14, 15, 13]⟩,
 ⟨(some 60), .pick, [.t 56, .t 59, .c (.bool false)], none, [13, 16]⟩,
 ⟨(some 61), .mov, [.t 60], none, [17, 13]⟩,
 ⟨(some 62), (.load true 4), [.t 7], (some (61, true)), [18]⟩,
 ⟨(some 63), (.build [(.imm (.int .i64 0)), (.imm (.int .i64 0)), (.imm (.int .i64 0)), (.imm (.int .i64 0))] []), [], (some (61, true)), [18]⟩,
 ⟨(some 64), (.eqs [false, false, false, false] false), [.t 62, .t 63], (some (61, true)), [19, 20, 18]⟩,
 ⟨(some 65), .pick, [.t 61, .t 64, .c (.bool false)], none, [18, 21]⟩,
 ⟨(some 66), .mov, [.t 65], none, [22, 18]⟩,
 ⟨(some 67), .movv, [.t 9], (some (66, true)), [23]⟩,
 ⟨(some 68), .len, [.t 67], (some (66, true)), [24, 23]⟩,
 ⟨(some 69), (.bin .eql), [.t 68, .c (.int .i64 0)], (some (66, true)), [25, 23]⟩,
 ⟨(some 70), .pick, [.t 66, .t 69, .c (.bool false)], none, [23, 26]⟩,
 ⟨(some 4), .mov, [.t 70], none, [27, 23, 0, 1, 2, 3, 4, 5, 6, 7, 8, 9, 10, 11, 12, 13, 14, 15, 16, 17, 18, 19, 20, 21, 22, 23, 24, 25, 26, 27]⟩] false)
 .ret)
 .skip))
 (.keep [1, 2, 5, 6, 7, 8, 9, 10] [2, 5, 7] b6k4))))))
def b6k6 : DCode :=
 (.seq
 (.seq
 (.region [⟨(some 16), (.load true 2), [.t 2], none, []⟩,
 ⟨(some 17), .call, [.f 18, .t 16], none, [0]⟩,
 ⟨(some 18), (.un .not), [.t 17], none, [1]⟩] false)
 (.cond (.t 18)
 (.seq
 (.region [⟨(some 4), .mov, [.c (.bool true)], none, []⟩] false)
 .ret)
 .skip))
 (.keep [1, 2] [2] b6k5))
def b6 : DCode :=
 (.seq
 (.region [⟨(some 2), .box, [.t 0], none, []⟩,
 ⟨(some 4), .mov, [.c (.bool false)], none, []⟩] false)
 (.seq
 (.seq
 (.region [⟨(some 14), .call, [.f 17], none, []⟩,
 ⟨(some 15), (.un .not), [.t 14], none, [0]⟩] false)
 (.cond (.t 15)
 (.seq
 (.region [⟨(some 4), .mov, [.c (.bool false)], none, []⟩] false)
 .ret)
 .skip))
 (.keep [1, 2] [2] b6k6)))
end Go.DI

