/- The functions of the statement about resonances, as data. No condition. -/
import Derived.Test.YtadmimjaelodkaaSmGe
import Derived.Test.YtadmimjaelodkaaProg
import Derived.KernelRfl
namespace Go.DI
open Go.Proofs Go.RowKit
/-- guidevane/guidevanelaw03.WaveResonant -/
def b7k0 : DCode :=
 (.region [⟨(some 101), .mov, [.t 12], none, []⟩,
 ⟨(some 102), (.bin .add), [.t 101, .c (.int .i64 1)], none, [0]⟩,
 ⟨(some 12), .mov, [.t 102], none, [1, 0, 1]⟩] false)
def b7k1 : DCode :=
 (.seq
 (.block 1
 (.seq
 (.region [⟨(some 103), .movv, [.t 11], none, []⟩,
 ⟨(some 104), .mov, [.t 12], none, []⟩,
 ⟨(some 105), (.iaddr 2), [.t 103, .t 104], none, [0, 1]⟩,
 ⟨(some 106), (.faddr 0 false 1), [.t 105], none, [2]⟩,
 ⟨(some 107), (.load false 1), [.t 106], none, [3]⟩,
 ⟨(some 108), .call, [.f 34, .t 107, .c (.int .i64 (-1073741824)), .c (.int .i64 1073741824)], none, [4]⟩,
 ⟨(some 109), (.un .not), [.t 108], none, [5]⟩,
 ⟨(some 110), .mov, [.t 109], none, [6, 5]⟩,
 ⟨(some 111), .movv, [.t 11], (some (110, false)), [7]⟩,
 ⟨(some 112), .mov, [.t 12], (some (110, false)), [7]⟩,
 ⟨(some 113), (.iaddr 2), [.t 111, .t 112], (some (110, false)), [8, 9, 7]⟩,
 ⟨(some 114), (.faddr 1 false 1), [.t 113], (some (110, false)), [10, 7]⟩,
 ⟨(some 115), (.load false 1), [.t 114], (some (110, false)), [11, 7]⟩,
 ⟨(some 116), .call, [.f 34, .t 115, .c (.int .i64 (-1073741824)), .c (.int .i64 1073741824)], (some (110, false)), [12, 7, 7]⟩,
 ⟨(some 117), (.un .not), [.t 116], (some (110, false)), [13, 7]⟩,
 ⟨(some 118), .pick, [.t 110, .c (.bool true), .t 117], none, [7, 14]⟩] false)
 (.cond (.t 118)
 (.seq
 (.region [⟨(some 4), .mov, [.c (.bool false)], none, []⟩] false)
 .ret)
 .skip)))
 (.keep [7, 9, 10, 11, 12] [7, 9] b7k0))
def b7l0 : DCode := .keep [7, 9, 10, 11, 12] [7, 9]
 (.seq
 (.seq
 (.region [⟨(some 97), .mov, [.t 12], none, []⟩,
 ⟨(some 98), .movv, [.t 11], none, []⟩,
 ⟨(some 99), .len, [.t 98], none, [1]⟩,
 ⟨(some 100), (.bin .lss), [.t 97, .t 99], none, [0, 2]⟩] false)
 (.cond (.t 100)
 .skip
 (.exit 0)))
 (.keep [7, 9, 10, 11, 12] [7, 9] b7k1))
def b7k2 : DCode :=
 (.seq
 (.region [⟨(some 147), (.faddr 2 true 2), [.t 9], none, []⟩,
 ⟨(some 148), (.load true 2), [.t 147], none, [0]⟩,
 ⟨(some 149), (.build [(.imm (.int .i64 0)), (.imm (.int .i64 0))] []), [], none, []⟩,
 ⟨(some 150), (.eqs [false, false] true), [.t 148, .t 149], none, [1, 2]⟩,
 ⟨(some 151), .mov, [.t 150], none, [3]⟩,
 ⟨(some 152), (.faddr 0 true 2), [.t 9], (some (151, true)), [4]⟩,
 ⟨(some 153), (.load true 2), [.t 152], (some (151, true)), [5, 4]⟩,
 ⟨(some 154), (.faddr 6 true 2), [.t 7], (some (151, true)), [4]⟩,
 ⟨(some 155), (.load true 2), [.t 154], (some (151, true)), [7, 4]⟩,
 ⟨(some 156), .call, [.f 53, .t 153, .t 155], (some (151, true)), [6, 8, 4, 4]⟩,
 ⟨(some 157), (.faddr 2 true 2), [.t 9], (some (151, true)), [4]⟩,
 ⟨(some 158), (.load true 2), [.t 157], (some (151, true)), [10, 4]⟩,
 ⟨(some 159), (.faddr 2 true 2), [.t 7], (some (151, true)), [4]⟩,
 ⟨(some 160), (.load true 2), [.t 159], (some (151, true)), [12, 4]⟩,
 ⟨(some 161), .call, [.f 53, .t 158, .t 160], (some (151, true)), [11, 13, 9, 4]⟩,
 ⟨(some 162), (.eqs [false, false] false), [.t 156, .t 161], (some (151, true)), [9, 14, 4]⟩,
 ⟨(some 163), .pick, [.t 151, .t 162, .c (.bool false)], none, [4, 15]⟩,
 ⟨(some 4), .mov, [.t 163], none, [16, 14, 0, 1, 2, 3, 4, 5, 6, 7, 8, 9, 10, 11, 12, 13, 14, 15, 16]⟩] true)
 .ret)
def b7k3 : DCode :=
 (.seq
 (.seq
 (.region [⟨(some 143), .mov, [.t 10], none, []⟩,
 ⟨(some 144), (.bin .neq), [.t 143, .c (.int .i64 0)], none, [0]⟩] false)
 (.cond (.t 144)
 (.seq
 (.region [⟨(some 145), .mov, [.t 10], none, []⟩,
 ⟨(some 146), (.bin .eql), [.t 145, .c (.int .i64 21)], none, [0]⟩,
 ⟨(some 4), .mov, [.t 146], none, [1, 0, 1]⟩] false)
 .ret)
 .skip))
 (.keep [7, 9] [7, 9] b7k2))
def b7k4 : DCode :=
 (.seq
 (.seq
 (.region [⟨(some 119), (.faddr 8 false 1), [.t 7], none, []⟩,
 ⟨(some 120), (.load false 1), [.t 119], none, [0]⟩,
 ⟨(some 121), .call, [.f 34, .t 120, .c (.int .i64 1), .c (.int .i64 10000)], none, [1]⟩,
 ⟨(some 122), (.un .not), [.t 121], none, [2]⟩,
 ⟨(some 123), .mov, [.t 122], none, [3, 2]⟩,
 ⟨(some 124), (.faddr 0 true 2), [.t 7], (some (123, false)), [4]⟩,
 ⟨(some 125), (.load true 2), [.t 124], (some (123, false)), [5, 4]⟩,
 ⟨(some 126), (.faddr 6 true 2), [.t 7], (some (123, false)), [4]⟩,
 ⟨(some 127), (.load true 2), [.t 126], (some (123, false)), [7, 4]⟩,
 ⟨(some 128), .call, [.f 53, .t 125, .t 127], (some (123, false)), [6, 8, 4, 4]⟩,
 ⟨(some 129), (.faddr 2 true 2), [.t 7], (some (123, false)), [4]⟩,
 ⟨(some 130), (.load true 2), [.t 129], (some (123, false)), [10, 4]⟩,
 ⟨(some 131), (.faddr 4 true 2), [.t 7], (some (123, false)), [4]⟩,
 ⟨(some 132), (.load true 2), [.t 131], (some (123, false)), [12, 4]⟩,
 ⟨(some 133), .call, [.f 53, .t 130, .t 132], (some (123, false)), [11, 13, 9, 4]⟩,
 ⟨(some 134), .call, [.f 52, .t 128, .t 133], (some (123, false)), [9, 14, 14, 4]⟩,
 ⟨(some 135), (.faddr 8 false 1), [.t 7], (some (123, false)), [4]⟩,
 ⟨(some 136), (.load false 1), [.t 135], (some (123, false)), [16, 4]⟩,
 ⟨(some 137), (.faddr 8 false 1), [.t 7], (some (123, false)), [4]⟩,
 ⟨(some 138), (.load false 1), [.t 137], (some (123, false)), [18, 4]⟩,
 ⟨(some 139), (.bin .mul), [.t 136, .t 138], (some (123, false)), [17, 19, 4]⟩,
 ⟨(some 140), (.build [(.imm (.int .i64 0)), (.imm (.int .i64 0))] [(0, 1)]), [.t 139], (some (123, false)), [20, 4]⟩,
 ⟨(some 141), (.eqs [false, false] true), [.t 134, .t 140], (some (123, false)), [15, 21, 4]⟩,
 ⟨(some 142), .pick, [.t 123, .c (.bool true), .t 141], none, [4, 22]⟩] true)
 (.cond (.t 142)
 (.seq
 (.region [⟨(some 4), .mov, [.c (.bool false)], none, []⟩] false)
 .ret)
 .skip))
 (.keep [7, 9, 10] [7, 9] b7k3))
def b7k5 : DCode :=
 (.seq
 (.region [⟨(some 84), (.faddr 0 true 2), [.t 7], none, []⟩,
 ⟨(some 85), (.load true 2), [.t 84], none, [0]⟩,
 ⟨(some 86), (.faddr 2 true 2), [.t 7], none, []⟩,
 ⟨(some 87), (.load true 2), [.t 86], none, [2]⟩,
 ⟨(some 88), (.faddr 4 true 2), [.t 7], none, []⟩,
 ⟨(some 89), (.load true 2), [.t 88], none, [4]⟩,
 ⟨(some 90), (.faddr 6 true 2), [.t 7], none, []⟩,
 ⟨(some 91), (.load true 2), [.t 90], none, [6]⟩,
 ⟨(some 92), (.faddr 0 true 2), [.t 9], none, []⟩,
 ⟨(some 93), (.load true 2), [.t 92], none, [8]⟩,
 ⟨(some 94), (.faddr 2 true 2), [.t 9], none, []⟩,
 ⟨(some 95), (.load true 2), [.t 94], none, [10]⟩,
 ⟨(some 96), (.bsl 2), [.t 85, .t 87, .t 89, .t 91, .t 93, .t 95], none, [1, 3, 5, 7, 9, 11]⟩,
 ⟨(some 11), .movv, [.t 96], none, [12, 0, 1, 2, 3, 4, 5, 6, 7, 8, 9, 10, 11, 12]⟩] false)
 (.seq
 (.seq
 (.region [⟨(some 12), .mov, [.c (.int .i64 0)], none, []⟩] false)
 (.block 0
 (.loop b7l0)))
 (.keep [7, 9, 10] [7, 9] b7k4)))
def b7k6 : DCode :=
 (.seq
 (.region [⟨(some 29), (.load true 2), [.t 2], none, []⟩,
 ⟨(some 30), .call, [.f 22, .t 29], none, [0]⟩,
 ⟨(some 31), .call, [.f 44, .t 30], none, [1, 1]⟩,
 ⟨(some 28), .mov, [.t 31], none, [2]⟩,
 ⟨(some 32), (.ext 0), [.t 28], none, [3]⟩,
 ⟨(some 33), (.ext 1), [.t 28], none, [3]⟩,
 ⟨(some 5), .movv, [.t 32], none, [4, 2, 0, 1, 2, 3, 4]⟩,
 ⟨(some 6), .mov, [.t 33], none, [5, 6, 0, 1, 2, 3, 4, 5, 6]⟩] false)
 (.seq
 (.region [⟨(some 35), (.load true 2), [.t 2], none, []⟩,
 ⟨(some 36), .call, [.f 22, .t 35], none, [0]⟩,
 ⟨(some 37), .mov, [.t 1], none, []⟩,
 ⟨(some 38), .call, [.f 42, .t 36, .t 37], none, [1, 2, 1]⟩,
 ⟨(some 34), .mov, [.t 38], none, [3]⟩,
 ⟨(some 39), (.ext 0), [.t 34], none, [4]⟩,
 ⟨(some 40), (.ext 1), [.t 34], none, [4]⟩,
 ⟨(some 7), (.alloc [(.imm (.int .i64 0)), (.imm (.int .i64 0)), (.imm (.int .i64 0)), (.imm (.int .i64 0)), (.imm (.int .i64 0)), (.imm (.int .i64 0)), (.imm (.int .i64 0)), (.imm (.int .i64 0)), (.imm (.int .i64 0))]), [], none, []⟩,
 ⟨none, (.store 9), [.t 7, .t 39], none, [7, 5, 3, 0, 1, 2, 3, 4, 5, 7]⟩,
 ⟨(some 8), .mov, [.t 40], none, [6, 8, 0, 1, 2, 3, 4, 5, 6, 7, 8]⟩] false)
 (.seq
 (.region [⟨(some 42), (.load true 2), [.t 2], none, []⟩,
 ⟨(some 43), .call, [.f 22, .t 42], none, [0]⟩,
 ⟨(some 44), .mov, [.t 1], none, []⟩,
 ⟨(some 45), .call, [.f 43, .t 43, .t 44], none, [1, 2, 1]⟩,
 ⟨(some 41), .mov, [.t 45], none, [3]⟩,
 ⟨(some 46), (.ext 0), [.t 41], none, [4]⟩,
 ⟨(some 47), (.ext 1), [.t 41], none, [4]⟩,
 ⟨(some 9), (.alloc [(.imm (.int .i64 0)), (.imm (.int .i64 0)), (.imm (.int .i64 0)), (.imm (.int .i64 0))]), [], none, []⟩,
 ⟨none, (.store 4), [.t 9, .t 46], none, [7, 5, 3, 0, 1, 2, 3, 4, 5, 7]⟩,
 ⟨(some 10), .mov, [.t 47], none, [6, 8, 0, 1, 2, 3, 4, 5, 6, 7, 8]⟩] false)
 (.seq
 (.seq
 (.region [⟨(some 48), .mov, [.t 6], none, []⟩,
 ⟨(some 49), (.bin .neq), [.t 48, .c (.int .i64 0)], none, [0]⟩,
 ⟨(some 50), .mov, [.t 49], none, [1]⟩,
 ⟨(some 51), .mov, [.t 8], (some (50, false)), [2]⟩,
 ⟨(some 52), (.bin .neq), [.t 51, .c (.int .i64 0)], (some (50, false)), [3, 2]⟩,
 ⟨(some 53), .pick, [.t 50, .c (.bool true), .t 52], none, [2, 4]⟩,
 ⟨(some 54), .mov, [.t 53], none, [5, 2]⟩,
 ⟨(some 55), (.load true 2), [.t 2], (some (54, false)), [6]⟩,
 ⟨(some 56), .call, [.f 32, .t 55], (some (54, false)), [7, 6, 6]⟩,
 ⟨(some 57), .mov, [.t 56], (some (54, false)), [8, 8, 6]⟩,
 ⟨(some 58), .movv, [.t 5], (some (57, true)), [9]⟩,
 ⟨(some 59), (.load true 2), [.t 2], (some (57, true)), [9]⟩,
 ⟨(some 60), .call, [.f 40, .t 59], (some (57, true)), [11, 9, 9]⟩,
 ⟨(some 61), .call, [.f 50, .t 60], (some (57, true)), [12, 12, 9]⟩,
 ⟨(some 62), .call, [.f 45, .t 58, .t 61], (some (57, true)), [10, 13, 13, 9]⟩,
 ⟨(some 63), (.un .not), [.t 62], (some (57, true)), [14, 9]⟩,
 ⟨(some 64), .pick, [.t 57, .t 63, .c (.bool false)], (some (54, false)), [9, 15, 6]⟩,
 ⟨(some 65), .pick, [.t 54, .c (.bool true), .t 64], none, [6, 16]⟩,
 ⟨(some 66), .mov, [.t 65], none, [17, 14]⟩,
 ⟨(some 67), .mov, [.t 10], (some (66, false)), [18]⟩,
 ⟨(some 68), (.bin .eql), [.t 67, .c (.int .i64 21)], (some (66, false)), [19, 18]⟩,
 ⟨(some 69), .movv, [.t 5], (some (66, false)), [18]⟩,
 ⟨(some 70), .mov, [.t 1], (some (66, false)), [18]⟩,
 ⟨(some 71), .call, [.f 51, .t 69, .t 70], (some (66, false)), [21, 22, 18, 18]⟩,
 ⟨(some 72), (.beq true), [.t 68, .t 71], (some (66, false)), [20, 23, 18]⟩,
 ⟨(some 73), .pick, [.t 66, .c (.bool true), .t 72], none, [18, 24]⟩,
 ⟨(some 74), .mov, [.t 73], none, [25, 23]⟩,
 ⟨(some 75), (.faddr 6 true 2), [.t 7], (some (74, false)), [26]⟩,
 ⟨(some 76), (.load true 2), [.t 75], (some (74, false)), [27, 26]⟩,
 ⟨(some 77), (.build [(.imm (.int .i64 0)), (.imm (.int .i64 0))] []), [], (some (74, false)), [26]⟩,
 ⟨(some 78), (.eqs [false, false] false), [.t 76, .t 77], (some (74, false)), [28, 29, 26]⟩,
 ⟨(some 79), .movv, [.t 5], (some (74, false)), [26]⟩,
 ⟨(some 80), .mov, [.t 1], (some (74, false)), [26]⟩,
 ⟨(some 81), .call, [.f 51, .t 79, .t 80], (some (74, false)), [31, 32, 26, 26]⟩,
 ⟨(some 82), (.beq true), [.t 78, .t 81], (some (74, false)), [30, 33, 26]⟩,
 ⟨(some 83), .pick, [.t 74, .c (.bool true), .t 82], none, [26, 34]⟩] true)
 (.cond (.t 83)
 (.seq
 (.region [⟨(some 4), .mov, [.c (.bool false)], none, []⟩] false)
 .ret)
 .skip))
 (.keep [7, 9, 10] [7, 9] b7k5)))))
def b7k7 : DCode :=
 (.seq
 (.seq
 (.region [⟨(some 15), (.load true 2), [.t 2], none, []⟩,
 ⟨(some 16), .call, [.f 18, .t 15], none, [0]⟩,
 ⟨(some 17), (.un .not), [.t 16], none, [1]⟩,
 ⟨(some 18), .mov, [.t 17], none, [2, 1]⟩,
 ⟨(some 19), (.load true 2), [.t 2], (some (18, false)), [3]⟩,
 ⟨(some 20), .call, [.f 37, .t 19], (some (18, false)), [4, 3, 3]⟩,
 ⟨(some 21), (.bin .neq), [.t 20, .c (.int .i64 0)], (some (18, false)), [5, 3]⟩,
 ⟨(some 22), .pick, [.t 18, .c (.bool true), .t 21], none, [3, 6]⟩,
 ⟨(some 23), .mov, [.t 22], none, [7, 5]⟩,
 ⟨(some 24), .mov, [.t 1], (some (23, false)), [8]⟩,
 ⟨(some 25), .call, [.f 47, .t 24], (some (23, false)), [9, 8, 8]⟩,
 ⟨(some 26), (.bin .neq), [.t 25, .c (.int .i64 0)], (some (23, false)), [10, 8]⟩,
 ⟨(some 27), .pick, [.t 23, .c (.bool true), .t 26], none, [8, 11]⟩] false)
 (.cond (.t 27)
 (.seq
 (.region [⟨(some 4), .mov, [.c (.bool true)], none, []⟩] false)
 .ret)
 .skip))
 (.keep [1, 2] [2] b7k6))
def b7 : DCode :=
 (.seq
 (.region [⟨(some 2), .box, [.t 0], none, []⟩,
 ⟨(some 4), .mov, [.c (.bool false)], none, []⟩] false)
 (.seq
 (.seq
 (.region [⟨(some 13), .call, [.f 17], none, []⟩,
 ⟨(some 14), (.un .not), [.t 13], none, [0]⟩] false)
 (.cond (.t 14)
 (.seq
 (.region [⟨(some 4), .mov, [.c (.bool false)], none, []⟩] false)
 .ret)
 .skip))
 (.keep [1, 2] [2] b7k7)))
end Go.DI

