/- The function of the statement LakeBeginnings, as data. No condition. -/
import Derived.Test.YtnkdmcalkgecfaaGreatPeGe
import Derived.Test.YtnkdmcalkgecfaaGreatProg
import Derived.KernelRfl
namespace Go.DI
open Go.Proofs Go.RowKit
/-- guidevane/guidevanelaw01.LakeBeginnings -/
def b5k0 : DCode :=
 (.seq
 (.region [⟨(some 137), (.faddr 0 true 10), [.t 5], none, []⟩,
 ⟨(some 138), (.load true 10), [.t 137], none, [0]⟩,
 ⟨(some 13), (.alloc [(.imm (.int .i64 0)), (.imm (.int .i64 0)), (.imm (.int .i64 0)), (.imm (.int .i64 0)), (.imm (.int .i64 0)), (.imm (.int .i64 0)), (.imm (.int .i64 0)), (.imm (.int .i64 0)), (.imm (.int .i64 0)), (.imm (.int .i64 0))]), [], none, []⟩,
 ⟨none, (.store 10), [.t 13, .t 138], none, [2, 1, 0, 1, 2]⟩] false)
 (.seq
 (.region [⟨(some 139), (.faddr 0 true 1), [.t 3], none, []⟩,
 ⟨(some 140), (.load true 1), [.t 139], none, [0]⟩,
 ⟨(some 141), (.faddr 0 true 5), [.t 13], none, []⟩,
 ⟨(some 142), (.load true 5), [.t 141], none, [2]⟩,
 ⟨(some 143), .call, [.f 22, .t 140, .t 142], none, [1, 3]⟩,
 ⟨(some 144), (.faddr 1 true 1), [.t 3], none, []⟩,
 ⟨(some 145), (.load true 1), [.t 144], none, [5]⟩,
 ⟨(some 146), (.faddr 5 true 5), [.t 13], none, []⟩,
 ⟨(some 147), (.load true 5), [.t 146], none, [7]⟩,
 ⟨(some 148), .call, [.f 22, .t 145, .t 147], none, [6, 8, 4]⟩,
 ⟨(some 149), (.faddr 0 true 5), [.t 13], none, [0, 1, 2, 3, 4, 7, 8]⟩,
 ⟨none, (.store 5), [.t 149, .t 143], none, [10, 4, 9, 0, 1, 2, 3, 4, 7, 8]⟩,
 ⟨(some 150), (.faddr 5 true 5), [.t 13], none, [0, 1, 2, 3, 4, 5, 6, 7, 8, 9, 10, 11]⟩,
 ⟨none, (.store 5), [.t 150, .t 148], none, [12, 9, 11, 0, 1, 2, 3, 4, 5, 6, 7, 8, 9, 10, 11]⟩] true)
 (.seq
 (.region [⟨(some 152), (.load true 3), [.t 3], none, []⟩,
 ⟨(some 153), .call, [.f 10, .t 152], none, [0]⟩,
 ⟨(some 154), (.load true 2), [.t 4], none, []⟩,
 ⟨(some 155), (.load true 10), [.t 13], none, []⟩,
 ⟨(some 156), (.faddr 10 false 1), [.t 5], none, []⟩,
 ⟨(some 157), (.load false 1), [.t 156], none, [4]⟩,
 ⟨(some 158), .call, [.f 21, .t 157], none, [5, 1]⟩,
 ⟨(some 159), (.build [(.imm (.int .i64 0)), (.imm (.int .i64 0)), (.imm (.int .i64 0)), (.imm (.int .i64 0)), (.imm (.int .i64 0)), (.imm (.int .i64 0)), (.imm (.int .i64 0)), (.imm (.int .i64 0)), (.imm (.int .i64 0)), (.imm (.int .i64 0)), (.imm (.slc 3 []))] [(0, 10), (10, 1)]), [.t 155, .t 158], none, [3, 6]⟩,
 ⟨(some 160), .call, [.f 9, .t 153, .t 154, .t 159], none, [1, 2, 7, 6]⟩,
 ⟨(some 151), .mov, [.t 160], none, [8]⟩,
 ⟨(some 161), (.ext 0), [.t 151], none, [9]⟩,
 ⟨(some 162), (.ext 1), [.t 151], none, [9]⟩,
 ⟨(some 14), (.alloc [(.imm (.int .i64 0)), (.imm (.int .i64 0)), (.imm (.int .i64 0))]), [], none, []⟩,
 ⟨none, (.store 3), [.t 14, .t 161], none, [12, 10, 8, 0, 1, 2, 3, 4, 5, 6, 7, 8, 9, 10, 12]⟩,
 ⟨(some 15), .mov, [.t 162], none, [11, 13, 0, 1, 2, 3, 4, 5, 6, 7, 8, 9, 10, 11, 12, 13]⟩] true)
 (.seq
 (.region [⟨(some 163), .mov, [.t 15], none, []⟩,
 ⟨(some 164), (.bin .eql), [.t 163, .c (.int .i64 0)], none, [0]⟩,
 ⟨(some 165), .mov, [.t 164], none, [1]⟩,
 ⟨(some 166), (.faddr 0 false 1), [.t 14], (some (165, true)), [2]⟩,
 ⟨(some 167), (.load false 1), [.t 166], (some (165, true)), [3, 2]⟩,
 ⟨(some 168), (.faddr 0 false 1), [.t 7], (some (165, true)), [2]⟩,
 ⟨(some 169), (.load false 1), [.t 168], (some (165, true)), [5, 2]⟩,
 ⟨(some 170), (.bin .lss), [.t 167, .t 169], (some (165, true)), [4, 6, 2]⟩,
 ⟨(some 171), .pick, [.t 165, .t 170, .c (.bool false)], none, [2, 7]⟩,
 ⟨(some 172), .mov, [.t 171], none, [8, 2]⟩,
 ⟨(some 173), .mov, [.t 15], (some (172, false)), [9]⟩,
 ⟨(some 174), (.bin .neq), [.t 173, .c (.int .i64 0)], (some (172, false)), [10, 9]⟩,
 ⟨(some 175), .mov, [.t 174], (some (172, false)), [11, 9, 9]⟩,
 ⟨(some 176), .mov, [.t 15], (some (175, true)), [12]⟩,
 ⟨(some 177), (.bin .neq), [.t 176, .c (.int .i64 12)], (some (175, true)), [13, 12]⟩,
 ⟨(some 178), .pick, [.t 175, .t 177, .c (.bool false)], (some (172, false)), [12, 14, 9]⟩,
 ⟨(some 179), .mov, [.t 178], (some (172, false)), [15, 12, 9]⟩,
 ⟨(some 180), .mov, [.t 15], (some (179, true)), [16]⟩,
 ⟨(some 181), (.bin .neq), [.t 180, .c (.int .i64 22)], (some (179, true)), [17, 16]⟩,
 ⟨(some 182), .pick, [.t 179, .t 181, .c (.bool false)], (some (172, false)), [16, 18, 9]⟩,
 ⟨(some 183), .pick, [.t 172, .c (.bool true), .t 182], none, [9, 19]⟩] false)
 (.cond (.t 183)
 (.seq
 (.region [⟨(some 6), .mov, [.c (.bool false)], none, []⟩] false)
 .ret)
 .skip)))))
def b5k1 : DCode :=
 (.seq
 (.region [⟨(some 94), (.load true 3), [.t 3], none, []⟩,
 ⟨(some 95), .call, [.f 10, .t 94], none, [0]⟩,
 ⟨(some 96), (.load true 2), [.t 4], none, []⟩,
 ⟨(some 97), (.faddr 0 true 10), [.t 5], none, []⟩,
 ⟨(some 98), (.load true 10), [.t 97], none, [3]⟩,
 ⟨(some 99), (.faddr 10 false 1), [.t 5], none, []⟩,
 ⟨(some 100), (.load false 1), [.t 99], none, [5]⟩,
 ⟨(some 101), (.faddr 0 false 1), [.t 7], none, []⟩,
 ⟨(some 102), (.load false 1), [.t 101], none, [7]⟩,
 ⟨(some 103), (.bin .sub), [.t 102, .c (.int .i64 1)], none, [8]⟩,
 ⟨(some 104), (.slice 3 false true), [.t 100, .t 103], none, [6, 9]⟩,
 ⟨(some 105), .call, [.f 21, .t 104], none, [10, 1]⟩,
 ⟨(some 106), (.build [(.imm (.int .i64 0)), (.imm (.int .i64 0)), (.imm (.int .i64 0)), (.imm (.int .i64 0)), (.imm (.int .i64 0)), (.imm (.int .i64 0)), (.imm (.int .i64 0)), (.imm (.int .i64 0)), (.imm (.int .i64 0)), (.imm (.int .i64 0)), (.imm (.slc 3 []))] [(0, 10), (10, 1)]), [.t 98, .t 105], none, [4, 11]⟩,
 ⟨(some 107), .call, [.f 9, .t 95, .t 96, .t 106], none, [1, 2, 12, 11]⟩,
 ⟨(some 93), .mov, [.t 107], none, [13]⟩,
 ⟨(some 108), (.ext 0), [.t 93], none, [14]⟩,
 ⟨(some 109), (.ext 1), [.t 93], none, [14]⟩,
 ⟨(some 9), (.alloc [(.imm (.int .i64 0)), (.imm (.int .i64 0)), (.imm (.int .i64 0))]), [], none, []⟩,
 ⟨none, (.store 3), [.t 9, .t 108], none, [17, 15, 13, 0, 1, 2, 3, 4, 5, 6, 7, 8, 9, 10, 11, 12, 13, 14, 15, 17]⟩,
 ⟨(some 10), .mov, [.t 109], none, [16, 18, 0, 1, 2, 3, 4, 5, 6, 7, 8, 9, 10, 11, 12, 13, 14, 15, 16, 17, 18]⟩] true)
 (.seq
 (.region [⟨(some 111), (.load true 3), [.t 3], none, []⟩,
 ⟨(some 112), .call, [.f 10, .t 111], none, [0]⟩,
 ⟨(some 113), (.load true 2), [.t 4], none, []⟩,
 ⟨(some 114), (.faddr 0 true 10), [.t 5], none, []⟩,
 ⟨(some 115), (.load true 10), [.t 114], none, [3]⟩,
 ⟨(some 116), (.faddr 10 false 1), [.t 5], none, []⟩,
 ⟨(some 117), (.load false 1), [.t 116], none, [5]⟩,
 ⟨(some 118), (.faddr 0 false 1), [.t 7], none, []⟩,
 ⟨(some 119), (.load false 1), [.t 118], none, [7]⟩,
 ⟨(some 120), (.slice 3 false true), [.t 117, .t 119], none, [6, 8]⟩,
 ⟨(some 121), .call, [.f 21, .t 120], none, [9, 1]⟩,
 ⟨(some 122), (.build [(.imm (.int .i64 0)), (.imm (.int .i64 0)), (.imm (.int .i64 0)), (.imm (.int .i64 0)), (.imm (.int .i64 0)), (.imm (.int .i64 0)), (.imm (.int .i64 0)), (.imm (.int .i64 0)), (.imm (.int .i64 0)), (.imm (.int .i64 0)), (.imm (.slc 3 []))] [(0, 10), (10, 1)]), [.t 115, .t 121], none, [4, 10]⟩,
 ⟨(some 123), .call, [.f 9, .t 112, .t 113, .t 122], none, [1, 2, 11, 10]⟩,
 ⟨(some 110), .mov, [.t 123], none, [12]⟩,
 ⟨(some 124), (.ext 0), [.t 110], none, [13]⟩,
 ⟨(some 125), (.ext 1), [.t 110], none, [13]⟩,
 ⟨(some 11), (.alloc [(.imm (.int .i64 0)), (.imm (.int .i64 0)), (.imm (.int .i64 0))]), [], none, []⟩,
 ⟨none, (.store 3), [.t 11, .t 124], none, [16, 14, 12, 0, 1, 2, 3, 4, 5, 6, 7, 8, 9, 10, 11, 12, 13, 14, 16]⟩,
 ⟨(some 12), .mov, [.t 125], none, [15, 17, 0, 1, 2, 3, 4, 5, 6, 7, 8, 9, 10, 11, 12, 13, 14, 15, 16, 17]⟩] true)
 (.seq
 (.seq
 (.region [⟨(some 126), .mov, [.t 10], none, []⟩,
 ⟨(some 127), (.bin .neq), [.t 126, .c (.int .i64 12)], none, [0]⟩,
 ⟨(some 128), .mov, [.t 127], none, [1]⟩,
 ⟨(some 129), .mov, [.t 12], (some (128, false)), [2]⟩,
 ⟨(some 130), (.bin .neq), [.t 129, .c (.int .i64 0)], (some (128, false)), [3, 2]⟩,
 ⟨(some 131), .pick, [.t 128, .c (.bool true), .t 130], none, [2, 4]⟩,
 ⟨(some 132), .mov, [.t 131], none, [5, 2]⟩,
 ⟨(some 133), (.load true 3), [.t 11], (some (132, false)), [6]⟩,
 ⟨(some 134), (.load true 3), [.t 7], (some (132, false)), [6]⟩,
 ⟨(some 135), (.eqs [false, false, false] true), [.t 133, .t 134], (some (132, false)), [7, 8, 6]⟩,
 ⟨(some 136), .pick, [.t 132, .c (.bool true), .t 135], none, [6, 9]⟩] false)
 (.cond (.t 136)
 (.seq
 (.region [⟨(some 6), .mov, [.c (.bool false)], none, []⟩] false)
 .ret)
 .skip))
 (.keep [3, 4, 5, 7] [3, 4, 5, 7] b5k0))))
def b5k2 : DCode :=
 (.seq
 (.block 1
 (.region [⟨(some 205), .mov, [.t 18], none, []⟩,
 ⟨(some 206), (.faddr 10 false 1), [.t 5], none, []⟩,
 ⟨(some 207), (.load false 1), [.t 206], none, [1]⟩,
 ⟨(some 208), (.faddr 10 false 1), [.t 5], none, []⟩,
 ⟨(some 209), (.load false 1), [.t 208], none, [3]⟩,
 ⟨(some 210), .len, [.t 209], none, [4]⟩,
 ⟨(some 211), (.bin .sub), [.t 210, .c (.int .i64 1)], none, [5]⟩,
 ⟨(some 212), (.iaddr 3), [.t 207, .t 211], none, [2, 6]⟩,
 ⟨(some 213), (.load true 3), [.t 212], none, [7]⟩,
 ⟨(some 214), (.bsl 3), [.t 213], none, [8]⟩,
 ⟨(some 215), (.append 3 24 false), [.t 205, .t 214], none, [0, 9]⟩,
 ⟨(some 18), .mov, [.t 215], none, [10, 10, 0, 1, 2, 3, 4, 5, 6, 7, 8, 9, 10]⟩] false))
 (.region [⟨(some 203), .mov, [.t 19], none, []⟩,
 ⟨(some 204), (.bin .add), [.t 203, .c (.int .i64 1)], none, [0]⟩,
 ⟨(some 19), .mov, [.t 204], none, [1, 0, 1]⟩] false))
def b5l0 : DCode := .keep [3, 4, 5, 16, 18, 19] [3, 4, 5, 18, 215, 242]
 (.seq
 (.seq
 (.region [⟨(some 200), .mov, [.t 19], none, []⟩,
 ⟨(some 201), .mov, [.t 16], none, []⟩,
 ⟨(some 202), (.bin .lss), [.t 200, .t 201], none, [0, 1]⟩] false)
 (.cond (.t 202)
 .skip
 (.exit 0)))
 (.keep [3, 4, 5, 16, 18, 19] [3, 4, 5, 18, 215, 242] b5k2))
def b5k3 : DCode :=
 (.seq
 (.region [⟨(some 232), .mov, [.t 18], none, []⟩,
 ⟨(some 233), (.faddr 10 false 1), [.t 5], none, []⟩,
 ⟨(some 234), (.load false 1), [.t 233], none, [1]⟩,
 ⟨(some 235), (.faddr 10 false 1), [.t 5], none, []⟩,
 ⟨(some 236), (.load false 1), [.t 235], none, [3]⟩,
 ⟨(some 237), .len, [.t 236], none, [4]⟩,
 ⟨(some 238), (.bin .sub), [.t 237, .c (.int .i64 1)], none, [5]⟩,
 ⟨(some 239), (.iaddr 3), [.t 234, .t 238], none, [2, 6]⟩,
 ⟨(some 240), (.load true 3), [.t 239], none, [7]⟩,
 ⟨(some 241), (.bsl 3), [.t 240], none, [8]⟩,
 ⟨(some 242), (.append 3 24 false), [.t 232, .t 241], none, [0, 9]⟩,
 ⟨(some 18), .mov, [.t 242], none, [10, 10, 0, 1, 2, 3, 4, 5, 6, 7, 8, 9, 10]⟩] false)
 (.seq
 (.region [⟨(some 244), (.load true 3), [.t 3], none, []⟩,
 ⟨(some 245), .call, [.f 10, .t 244], none, [0]⟩,
 ⟨(some 246), (.load true 2), [.t 4], none, []⟩,
 ⟨(some 247), (.faddr 0 true 10), [.t 5], none, []⟩,
 ⟨(some 248), (.load true 10), [.t 247], none, [3]⟩,
 ⟨(some 249), .movv, [.t 18], none, []⟩,
 ⟨(some 250), (.build [(.imm (.int .i64 0)), (.imm (.int .i64 0)), (.imm (.int .i64 0)), (.imm (.int .i64 0)), (.imm (.int .i64 0)), (.imm (.int .i64 0)), (.imm (.int .i64 0)), (.imm (.int .i64 0)), (.imm (.int .i64 0)), (.imm (.int .i64 0)), (.imm (.slc 3 []))] [(0, 10), (10, 1)]), [.t 248, .t 249], none, [4, 5]⟩,
 ⟨(some 251), .call, [.f 9, .t 245, .t 246, .t 250], none, [1, 2, 6, 1]⟩,
 ⟨(some 243), .mov, [.t 251], none, [7]⟩,
 ⟨(some 252), (.ext 0), [.t 243], none, [8]⟩,
 ⟨(some 253), (.ext 1), [.t 243], none, [8]⟩,
 ⟨(some 22), (.alloc [(.imm (.int .i64 0)), (.imm (.int .i64 0)), (.imm (.int .i64 0))]), [], none, []⟩,
 ⟨none, (.store 3), [.t 22, .t 252], none, [11, 9, 7, 0, 1, 2, 3, 4, 5, 6, 7, 8, 9, 11]⟩,
 ⟨(some 23), .mov, [.t 253], none, [10, 12, 0, 1, 2, 3, 4, 5, 6, 7, 8, 9, 10, 11, 12]⟩] true)
 (.seq
 (.region [⟨(some 254), .mov, [.t 23], none, []⟩,
 ⟨(some 255), (.bin .eql), [.t 254, .c (.int .i64 0)], none, [0]⟩,
 ⟨(some 256), .mov, [.t 255], none, [1]⟩,
 ⟨(some 257), .mov, [.t 23], (some (256, false)), [2]⟩,
 ⟨(some 258), (.bin .eql), [.t 257, .c (.int .i64 22)], (some (256, false)), [3, 2]⟩,
 ⟨(some 259), .pick, [.t 256, .c (.bool true), .t 258], none, [2, 4]⟩,
 ⟨(some 6), .mov, [.t 259], none, [5, 2, 0, 1, 2, 3, 4, 5]⟩] false)
 .ret)))
def b5k4 : DCode :=
 (.seq
 (.seq
 (.region [⟨(some 230), .mov, [.t 16], none, []⟩,
 ⟨(some 231), (.bin .eql), [.t 230, .c (.int .i64 200)], none, [0]⟩] false)
 (.cond (.t 231)
 (.seq
 (.region [⟨(some 6), .mov, [.c (.bool true)], none, []⟩] false)
 .ret)
 .skip))
 (.keep [3, 4, 5, 18] [3, 4, 5, 18, 215, 242] b5k3))
def b5k5 : DCode :=
 (.seq
 (.seq
 (.region [⟨(some 217), (.load true 3), [.t 3], none, []⟩,
 ⟨(some 218), .call, [.f 10, .t 217], none, [0]⟩,
 ⟨(some 219), (.load true 2), [.t 4], none, []⟩,
 ⟨(some 220), (.faddr 0 true 10), [.t 5], none, []⟩,
 ⟨(some 221), (.load true 10), [.t 220], none, [3]⟩,
 ⟨(some 222), .movv, [.t 18], none, []⟩,
 ⟨(some 223), .call, [.f 21, .t 222], none, [5, 1]⟩,
 ⟨(some 224), (.build [(.imm (.int .i64 0)), (.imm (.int .i64 0)), (.imm (.int .i64 0)), (.imm (.int .i64 0)), (.imm (.int .i64 0)), (.imm (.int .i64 0)), (.imm (.int .i64 0)), (.imm (.int .i64 0)), (.imm (.int .i64 0)), (.imm (.int .i64 0)), (.imm (.slc 3 []))] [(0, 10), (10, 1)]), [.t 221, .t 223], none, [4, 6]⟩,
 ⟨(some 225), .call, [.f 9, .t 218, .t 219, .t 224], none, [1, 2, 7, 6]⟩,
 ⟨(some 216), .mov, [.t 225], none, [8]⟩,
 ⟨(some 226), (.ext 0), [.t 216], none, [9]⟩,
 ⟨(some 227), (.ext 1), [.t 216], none, [9]⟩,
 ⟨(some 20), (.alloc [(.imm (.int .i64 0)), (.imm (.int .i64 0)), (.imm (.int .i64 0))]), [], none, []⟩,
 ⟨none, (.store 3), [.t 20, .t 226], none, [12, 10, 8, 0, 1, 2, 3, 4, 5, 6, 7, 8, 9, 10, 12]⟩,
 ⟨(some 21), .mov, [.t 227], none, [11, 13, 0, 1, 2, 3, 4, 5, 6, 7, 8, 9, 10, 11, 12, 13]⟩] true)
 (.seq
 (.region [⟨(some 228), .mov, [.t 21], none, []⟩,
 ⟨(some 229), (.bin .neq), [.t 228, .c (.int .i64 12)], none, [0]⟩] false)
 (.cond (.t 229)
 (.seq
 (.region [⟨(some 6), .mov, [.c (.bool false)], none, []⟩] false)
 .ret)
 .skip)))
 (.keep [3, 4, 5, 16, 18] [3, 4, 5, 18, 215, 242] b5k4))
def b5k6 : DCode :=
 (.seq
 (.region [⟨(some 18), (.ntok 3), [.c (.slc 3 [])], none, []⟩] false)
 (.seq
 (.seq
 (.region [⟨(some 19), .mov, [.c (.int .i64 0)], none, []⟩] false)
 (.block 0
 (.loop b5l0)))
 (.keep [3, 4, 5, 16, 18] [3, 4, 5, 18, 215, 242] b5k5)))
def b5k7 : DCode :=
 (.seq
 (.region [⟨(some 185), (.load true 3), [.t 3], none, []⟩,
 ⟨(some 186), .call, [.f 10, .t 185], none, [0]⟩,
 ⟨(some 187), (.load true 2), [.t 4], none, []⟩,
 ⟨(some 188), (.load true 11), [.t 5], none, []⟩,
 ⟨(some 189), .call, [.f 11, .t 188], none, [3, 1]⟩,
 ⟨(some 190), .call, [.f 18, .t 186, .t 187, .t 189], none, [1, 2, 4, 4]⟩,
 ⟨(some 184), .mov, [.t 190], none, [5]⟩,
 ⟨(some 191), (.ext 0), [.t 184], none, [6]⟩,
 ⟨(some 192), (.ext 1), [.t 184], none, [6]⟩,
 ⟨(some 16), .mov, [.t 191], none, [7, 5, 0, 1, 2, 3, 4, 5, 6, 7]⟩,
 ⟨(some 17), .mov, [.t 192], none, [8, 9, 0, 1, 2, 3, 4, 5, 6, 7, 8, 9]⟩] true)
 (.seq
 (.seq
 (.region [⟨(some 193), .mov, [.t 17], none, []⟩,
 ⟨(some 194), (.bin .neq), [.t 193, .c (.int .i64 0)], none, [0]⟩,
 ⟨(some 195), .mov, [.t 194], none, [1]⟩,
 ⟨(some 196), .mov, [.t 16], (some (195, false)), [2]⟩,
 ⟨(some 197), .call, [.f 20, .t 196, .c (.int .i64 0), .c (.int .i64 200)], (some (195, false)), [3, 2, 2]⟩,
 ⟨(some 198), (.un .not), [.t 197], (some (195, false)), [4, 2]⟩,
 ⟨(some 199), .pick, [.t 195, .c (.bool true), .t 198], none, [2, 5]⟩] false)
 (.cond (.t 199)
 (.seq
 (.region [⟨(some 6), .mov, [.c (.bool false)], none, []⟩] false)
 .ret)
 .skip))
 (.keep [3, 4, 5, 16] [3, 4, 5] b5k6)))
def b5k8 : DCode :=
 (.seq
 (.seq
 (.region [⟨(some 72), .mov, [.t 8], none, []⟩,
 ⟨(some 73), (.bin .eql), [.t 72, .c (.int .i64 0)], none, [0]⟩] false)
 (.cond (.t 73)
 (.seq
 (.seq
 (.region [⟨(some 74), (.faddr 0 false 1), [.t 7], none, []⟩,
 ⟨(some 75), (.load false 1), [.t 74], none, [0]⟩,
 ⟨(some 76), (.faddr 10 false 1), [.t 5], none, []⟩,
 ⟨(some 77), (.load false 1), [.t 76], none, [2]⟩,
 ⟨(some 78), .len, [.t 77], none, [3]⟩,
 ⟨(some 79), .call, [.f 20, .t 75, .c (.int .i64 1), .t 78], none, [1, 4]⟩,
 ⟨(some 80), (.un .not), [.t 79], none, [5]⟩,
 ⟨(some 81), .mov, [.t 80], none, [6, 5]⟩,
 ⟨(some 82), (.faddr 1 false 1), [.t 7], (some (81, false)), [7]⟩,
 ⟨(some 83), (.load false 1), [.t 82], (some (81, false)), [8, 7]⟩,
 ⟨(some 84), .call, [.f 20, .t 83, .c (.int .i64 0), .c (.int .i64 1)], (some (81, false)), [9, 7, 7]⟩,
 ⟨(some 85), (.un .not), [.t 84], (some (81, false)), [10, 7]⟩,
 ⟨(some 86), .pick, [.t 81, .c (.bool true), .t 85], none, [7, 11]⟩,
 ⟨(some 87), .mov, [.t 86], none, [12, 10]⟩,
 ⟨(some 88), (.faddr 2 false 1), [.t 7], (some (87, false)), [13]⟩,
 ⟨(some 89), (.load false 1), [.t 88], (some (87, false)), [14, 13]⟩,
 ⟨(some 90), .call, [.f 20, .t 89, .c (.int .i64 0), .c (.int .i64 3)], (some (87, false)), [15, 13, 13]⟩,
 ⟨(some 91), (.un .not), [.t 90], (some (87, false)), [16, 13]⟩,
 ⟨(some 92), .pick, [.t 87, .c (.bool true), .t 91], none, [13, 17]⟩] false)
 (.cond (.t 92)
 (.seq
 (.region [⟨(some 6), .mov, [.c (.bool false)], none, []⟩] false)
 .ret)
 .skip))
 (.keep [3, 4, 5, 7] [3, 4, 5, 7] b5k1))
 .skip))
 (.keep [3, 4, 5] [3, 4, 5] b5k7))
def b5k9 : DCode :=
 (.seq
 (.region [⟨(some 54), (.load true 3), [.t 3], none, []⟩,
 ⟨(some 55), .call, [.f 10, .t 54], none, [0]⟩,
 ⟨(some 56), (.load true 2), [.t 4], none, []⟩,
 ⟨(some 57), (.load true 11), [.t 5], none, []⟩,
 ⟨(some 58), .call, [.f 11, .t 57], none, [3, 1]⟩,
 ⟨(some 59), .call, [.f 9, .t 55, .t 56, .t 58], none, [1, 2, 4, 4]⟩,
 ⟨(some 53), .mov, [.t 59], none, [5]⟩,
 ⟨(some 60), (.ext 0), [.t 53], none, [6]⟩,
 ⟨(some 61), (.ext 1), [.t 53], none, [6]⟩,
 ⟨(some 7), (.alloc [(.imm (.int .i64 0)), (.imm (.int .i64 0)), (.imm (.int .i64 0))]), [], none, []⟩,
 ⟨none, (.store 3), [.t 7, .t 60], none, [9, 7, 5, 0, 1, 2, 3, 4, 5, 6, 7, 9]⟩,
 ⟨(some 8), .mov, [.t 61], none, [8, 10, 0, 1, 2, 3, 4, 5, 6, 7, 8, 9, 10]⟩] true)
 (.seq
 (.seq
 (.region [⟨(some 62), .mov, [.t 8], none, []⟩,
 ⟨(some 63), (.bin .neq), [.t 62, .c (.int .i64 0)], none, [0]⟩,
 ⟨(some 64), .mov, [.t 63], none, [1]⟩,
 ⟨(some 65), .mov, [.t 8], (some (64, true)), [2]⟩,
 ⟨(some 66), (.bin .neq), [.t 65, .c (.int .i64 12)], (some (64, true)), [3, 2]⟩,
 ⟨(some 67), .pick, [.t 64, .t 66, .c (.bool false)], none, [2, 4]⟩,
 ⟨(some 68), .mov, [.t 67], none, [5, 2]⟩,
 ⟨(some 69), .mov, [.t 8], (some (68, true)), [6]⟩,
 ⟨(some 70), (.bin .neq), [.t 69, .c (.int .i64 22)], (some (68, true)), [7, 6]⟩,
 ⟨(some 71), .pick, [.t 68, .t 70, .c (.bool false)], none, [6, 8]⟩] false)
 (.cond (.t 71)
 (.seq
 (.region [⟨(some 6), .mov, [.c (.bool false)], none, []⟩] false)
 .ret)
 .skip))
 (.keep [3, 4, 5, 7, 8] [3, 4, 5, 7] b5k8)))
def b5k10 : DCode :=
 (.seq
 (.seq
 (.region [⟨(some 26), (.load true 3), [.t 3], none, []⟩,
 ⟨(some 27), .call, [.f 7, .t 26], none, [0]⟩,
 ⟨(some 28), (.un .not), [.t 27], none, [1]⟩,
 ⟨(some 29), .mov, [.t 28], none, [2, 1]⟩,
 ⟨(some 30), (.load true 3), [.t 3], (some (29, false)), [3]⟩,
 ⟨(some 31), (.load true 2), [.t 4], (some (29, false)), [3]⟩,
 ⟨(some 32), .call, [.f 15, .t 30, .t 31], (some (29, false)), [4, 5, 3, 3]⟩,
 ⟨(some 33), (.bin .neq), [.t 32, .c (.int .i64 0)], (some (29, false)), [6, 3]⟩,
 ⟨(some 34), .pick, [.t 29, .c (.bool true), .t 33], none, [3, 7]⟩,
 ⟨(some 35), .mov, [.t 34], none, [8, 6]⟩,
 ⟨(some 36), (.faddr 10 false 1), [.t 5], (some (35, false)), [9]⟩,
 ⟨(some 37), (.load false 1), [.t 36], (some (35, false)), [10, 9]⟩,
 ⟨(some 38), .len, [.t 37], (some (35, false)), [11, 9]⟩,
 ⟨(some 39), (.bin .eql), [.t 38, .c (.int .i64 0)], (some (35, false)), [12, 9]⟩,
 ⟨(some 40), .pick, [.t 35, .c (.bool true), .t 39], none, [9, 13]⟩,
 ⟨(some 41), .mov, [.t 40], none, [14, 9]⟩,
 ⟨(some 42), (.faddr 10 false 1), [.t 5], (some (41, false)), [15]⟩,
 ⟨(some 43), (.load false 1), [.t 42], (some (41, false)), [16, 15]⟩,
 ⟨(some 44), .len, [.t 43], (some (41, false)), [17, 15]⟩,
 ⟨(some 45), (.bin .gtr), [.t 44, .c (.int .i64 20)], (some (41, false)), [18, 15]⟩,
 ⟨(some 46), .pick, [.t 41, .c (.bool true), .t 45], none, [15, 19]⟩,
 ⟨(some 47), .mov, [.t 46], none, [20, 15]⟩,
 ⟨(some 48), (.load true 3), [.t 3], (some (47, false)), [21]⟩,
 ⟨(some 49), (.load true 11), [.t 5], (some (47, false)), [21]⟩,
 ⟨(some 50), .call, [.f 16, .t 48, .t 49], (some (47, false)), [22, 23, 21, 21]⟩,
 ⟨(some 51), (.bin .neq), [.t 50, .c (.int .i64 0)], (some (47, false)), [24, 21]⟩,
 ⟨(some 52), .pick, [.t 47, .c (.bool true), .t 51], none, [21, 25]⟩] false)
 (.cond (.t 52)
 (.seq
 (.region [⟨(some 6), .mov, [.c (.bool true)], none, []⟩] false)
 .ret)
 .skip))
 (.keep [3, 4, 5] [3, 4, 5] b5k9))
def b5 : DCode :=
 (.seq
 (.region [⟨(some 3), .box, [.t 0], none, []⟩,
 ⟨(some 4), .box, [.t 1], none, []⟩,
 ⟨(some 5), .box, [.t 2], none, []⟩,
 ⟨(some 6), .mov, [.c (.bool false)], none, []⟩] false)
 (.seq
 (.seq
 (.region [⟨(some 24), .call, [.f 6], none, []⟩,
 ⟨(some 25), (.un .not), [.t 24], none, [0]⟩] false)
 (.cond (.t 25)
 (.seq
 (.region [⟨(some 6), .mov, [.c (.bool false)], none, []⟩] false)
 .ret)
 .skip))
 (.keep [3, 4, 5] [3, 4, 5] b5k10)))
def d5 : DFn := ⟨3, 260, [.tmp 6], b5⟩
theorem body5 : d5.body = b5 := rfl
theorem res5 : d5.res = [.tmp 6] := rfl
theorem k5 : chkFn Tryz.prog Tryz.f5 d5 = true := by kernel_rfl

/-- guidevane/guidevanelaw01.wider -/
def b22 : DCode :=
 (.seq
 (.region [⟨(some 2), .box, [.t 0], none, []⟩,
 ⟨(some 3), .box, [.t 1], none, []⟩,
 ⟨(some 4), (.alloc [(.imm (.int .i64 0)), (.imm (.int .i64 0)), (.imm (.int .i64 0)), (.imm (.int .i64 0)), (.imm (.int .i64 0))]), [], none, []⟩] false)
 (.seq
 (.region [⟨(some 5), (.load true 1), [.t 2], none, []⟩,
 ⟨(some 6), .call, [.f 45, .t 5], none, [0]⟩,
 ⟨(some 7), (.field 0 false 1), [.t 6], none, [1]⟩,
 ⟨(some 8), (.faddr 0 true 2), [.t 3], none, []⟩,
 ⟨(some 9), (.faddr 0 false 1), [.t 8], none, [3]⟩,
 ⟨(some 10), (.load false 1), [.t 9], none, [4]⟩,
 ⟨(some 11), (.bin .sub), [.t 10, .c (.int .i64 1)], none, [5]⟩,
 ⟨(some 12), (.mm true), [.t 7, .t 11], none, [2, 6]⟩,
 ⟨(some 13), (.load true 1), [.t 2], none, []⟩,
 ⟨(some 14), .call, [.f 46, .t 13], none, [8, 1]⟩,
 ⟨(some 15), (.field 0 false 1), [.t 14], none, [9]⟩,
 ⟨(some 16), (.faddr 0 true 2), [.t 3], none, []⟩,
 ⟨(some 17), (.faddr 1 false 1), [.t 16], none, [11]⟩,
 ⟨(some 18), (.load false 1), [.t 17], none, [12]⟩,
 ⟨(some 19), (.bin .add), [.t 18, .c (.int .i64 1)], none, [13]⟩,
 ⟨(some 20), (.mm false), [.t 15, .t 19], none, [10, 14]⟩,
 ⟨(some 21), (.build [(.imm (.int .i64 0)), (.imm (.int .i64 0))] [(0, 1), (1, 1)]), [.t 12, .t 20], none, [7, 15]⟩,
 ⟨(some 22), (.faddr 0 true 2), [.t 3], none, [0, 1, 2, 3, 4, 5, 6, 7, 8, 9, 10, 11, 12, 13, 14, 15, 16]⟩,
 ⟨none, (.store 2), [.t 22, .t 21], none, [17, 16, 9, 0, 1, 2, 3, 4, 5, 6, 7, 8, 9, 10, 11, 12, 13, 14, 15, 16]⟩] true)
 (.seq
 (.region [⟨(some 23), (.faddr 2 false 1), [.t 3], none, []⟩,
 ⟨(some 24), (.load false 1), [.t 23], none, [0]⟩,
 ⟨(some 25), (.bin .add), [.t 24, .c (.int .i64 1)], none, [1]⟩,
 ⟨(some 26), (.mm false), [.c (.int .i64 1000000), .t 25], none, [2]⟩,
 ⟨(some 27), (.faddr 3 false 1), [.t 3], none, []⟩,
 ⟨(some 28), (.load false 1), [.t 27], none, [4]⟩,
 ⟨(some 29), (.bin .add), [.t 28, .c (.int .i64 1)], none, [5]⟩,
 ⟨(some 30), (.mm false), [.c (.int .i64 1000000), .t 29], none, [6]⟩,
 ⟨(some 31), (.faddr 2 false 1), [.t 3], none, [0, 1, 2, 3, 4, 5]⟩,
 ⟨none, (.store 1), [.t 31, .t 26], none, [8, 3, 0, 1, 2, 3, 4, 5]⟩,
 ⟨(some 32), (.faddr 3 false 1), [.t 3], none, [0, 1, 2, 3, 4, 5, 6, 7, 8, 9]⟩,
 ⟨none, (.store 1), [.t 32, .t 30], none, [10, 7, 9, 0, 1, 2, 3, 4, 5, 6, 7, 8, 9]⟩] false)
 (.seq
 (.region [⟨(some 33), (.load true 5), [.t 3], none, []⟩,
 ⟨none, (.store 5), [.t 4, .t 33], none, [0, 0]⟩] false)
 .ret))))
def d22 : DFn := ⟨2, 34, [.cell 4 true 5], b22⟩
theorem body22 : d22.body = b22 := rfl
theorem res22 : d22.res = [.cell 4 true 5] := rfl
theorem k22 : chkFn Tryz.prog Tryz.f22 d22 = true := by kernel_rfl

end Go.DI

