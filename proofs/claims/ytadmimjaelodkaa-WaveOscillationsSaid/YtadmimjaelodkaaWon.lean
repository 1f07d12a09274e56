/- The functions of the reference's matrices, as data. No condition. -/
import Derived.Test.YtadmimjaelodkaaSmGe
import Derived.Test.YtadmimjaelodkaaProg
import Derived.KernelRfl
namespace Go.DI
open Go.Proofs Go.RowKit
/-- guidevane/guidevaneref03.Times -/
def b141k0 : DCode :=
 (.seq
 (.block 1
 (.region [⟨(some 12), (.faddr 1 false 1), [.t 2], none, []⟩,
 ⟨(some 13), (.load false 1), [.t 12], none, [0]⟩,
 ⟨(some 14), (.un .neg), [.t 13], none, [1]⟩,
 ⟨(some 15), (.faddr 0 false 1), [.t 2], none, []⟩,
 ⟨(some 16), (.load false 1), [.t 15], none, [3]⟩,
 ⟨(some 17), (.build [(.imm (.int .i64 0)), (.imm (.int .i64 0))] [(0, 1), (1, 1)]), [.t 14, .t 16], none, [2, 4]⟩,
 ⟨none, (.store 2), [.t 2, .t 17], none, [5, 0, 1, 2, 3, 4, 5]⟩] false))
 (.region [⟨(some 10), .mov, [.t 5], none, []⟩,
 ⟨(some 11), (.bin .add), [.t 10, .c (.int .i64 1)], none, [0]⟩,
 ⟨(some 5), .mov, [.t 11], none, [1, 0, 1]⟩] false))
def b141l0 : DCode := .keep [1, 2, 4, 5] [2, 4]
 (.seq
 (.seq
 (.region [⟨(some 6), .mov, [.t 5], none, []⟩,
 ⟨(some 7), .mov, [.t 1], none, []⟩,
 ⟨(some 8), .call, [.f 144, .t 7, .c (.int .i64 4)], none, [1]⟩,
 ⟨(some 9), (.bin .lss), [.t 6, .t 8], none, [0, 2]⟩] false)
 (.cond (.t 9)
 .skip
 (.exit 0)))
 (.keep [1, 2, 4, 5] [2, 4] b141k0))
def b141k1 : DCode :=
 (.seq
 (.region [⟨(some 18), (.load true 2), [.t 2], none, []⟩,
 ⟨none, (.store 2), [.t 4, .t 18], none, [0, 0]⟩] false)
 .ret)
def b141 : DCode :=
 (.seq
 (.region [⟨(some 2), .box, [.t 0], none, []⟩,
 ⟨(some 4), (.alloc [(.imm (.int .i64 0)), (.imm (.int .i64 0))]), [], none, []⟩] false)
 (.seq
 (.seq
 (.region [⟨(some 5), .mov, [.c (.int .i64 0)], none, []⟩] false)
 (.block 0
 (.loop b141l0)))
 (.keep [2, 4] [2, 4] b141k1)))
def d141 : DFn := ⟨2, 19, [.cell 4 true 2], b141⟩
theorem body141 : d141.body = b141 := rfl
theorem res141 : d141.res = [.cell 4 true 2] := rfl
theorem k141 : chkFn Try.prog Try.f141 d141 = true := by kernel_rfl

/-- guidevane/guidevaneref03.scaled -/
def b139 : DCode :=
 (.seq
 (.region [⟨(some 2), .box, [.t 0], none, []⟩,
 ⟨(some 4), (.alloc [(.imm (.int .i64 0)), (.imm (.int .i64 0))]), [], none, []⟩] false)
 (.seq
 (.region [⟨(some 5), .mov, [.t 1], none, []⟩,
 ⟨(some 6), (.faddr 0 false 1), [.t 2], none, []⟩,
 ⟨(some 7), (.load false 1), [.t 6], none, [1]⟩,
 ⟨(some 8), (.bin .mul), [.t 5, .t 7], none, [0, 2]⟩,
 ⟨(some 9), .mov, [.t 1], none, []⟩,
 ⟨(some 10), (.faddr 1 false 1), [.t 2], none, []⟩,
 ⟨(some 11), (.load false 1), [.t 10], none, [5]⟩,
 ⟨(some 12), (.bin .mul), [.t 9, .t 11], none, [4, 6]⟩,
 ⟨(some 13), (.build [(.imm (.int .i64 0)), (.imm (.int .i64 0))] [(0, 1), (1, 1)]), [.t 8, .t 12], none, [3, 7]⟩,
 ⟨none, (.store 2), [.t 4, .t 13], none, [8, 0, 1, 2, 3, 4, 5, 6, 7, 8]⟩] false)
 .ret))
def d139 : DFn := ⟨2, 14, [.cell 4 true 2], b139⟩
theorem body139 : d139.body = b139 := rfl
theorem res139 : d139.res = [.cell 4 true 2] := rfl
theorem k139 : chkFn Try.prog Try.f139 d139 = true := by kernel_rfl

/-- guidevane/guidevaneref03.over -/
def b105 : DCode :=
 (.seq
 (.region [⟨(some 2), .box, [.t 0], none, []⟩,
 ⟨(some 4), (.alloc [(.imm (.int .i64 0)), (.imm (.int .i64 0))]), [], none, []⟩] false)
 (.seq
 (.region [⟨(some 5), (.faddr 0 false 1), [.t 2], none, []⟩,
 ⟨(some 6), (.load false 1), [.t 5], none, [0]⟩,
 ⟨(some 7), .mov, [.t 1], none, []⟩,
 ⟨(some 8), (.bin .quo), [.t 6, .t 7], none, [1, 2]⟩,
 ⟨(some 9), (.faddr 1 false 1), [.t 2], none, []⟩,
 ⟨(some 10), (.load false 1), [.t 9], none, [4]⟩,
 ⟨(some 11), .mov, [.t 1], none, []⟩,
 ⟨(some 12), (.bin .quo), [.t 10, .t 11], none, [5, 6]⟩,
 ⟨(some 13), (.build [(.imm (.int .i64 0)), (.imm (.int .i64 0))] [(0, 1), (1, 1)]), [.t 8, .t 12], none, [3, 7]⟩,
 ⟨none, (.store 2), [.t 4, .t 13], none, [8, 0, 1, 2, 3, 4, 5, 6, 7, 8]⟩] true)
 .ret))
def d105 : DFn := ⟨2, 14, [.cell 4 true 2], b105⟩
theorem body105 : d105.body = b105 := rfl
theorem res105 : d105.res = [.cell 4 true 2] := rfl
theorem k105 : chkFn Try.prog Try.f105 d105 = true := by kernel_rfl

/-- guidevane/guidevaneref03.cosine -/
def b155 : DCode :=
 (.seq
 (.region [⟨(some 2), .mov, [.c (.int .i64 0)], none, []⟩] false)
 (.seq
 (.region [⟨(some 3), (.build [(.imm (.int .i64 0)), (.imm (.int .i64 0))] [(0, 1)]), [.c (.int .i64 1)], none, []⟩,
 ⟨(some 4), .mov, [.t 0], none, []⟩,
 ⟨(some 5), .call, [.f 141, .t 3, .t 4], none, [0, 1]⟩,
 ⟨(some 6), (.field 0 false 1), [.t 5], none, [2]⟩,
 ⟨(some 2), .mov, [.t 6], none, [3, 2, 0, 1, 2, 3]⟩] false)
 .ret))
def d155 : DFn := ⟨1, 7, [.tmp 2], b155⟩
theorem body155 : d155.body = b155 := rfl
theorem res155 : d155.res = [.tmp 2] := rfl
theorem k155 : chkFn Try.prog Try.f155 d155 = true := by kernel_rfl

/-- guidevane/guidevaneref03.sine -/
def b156 : DCode :=
 (.seq
 (.region [⟨(some 2), .mov, [.c (.int .i64 0)], none, []⟩] false)
 (.seq
 (.region [⟨(some 3), (.build [(.imm (.int .i64 0)), (.imm (.int .i64 0))] [(0, 1)]), [.c (.int .i64 1)], none, []⟩,
 ⟨(some 4), .mov, [.t 0], none, []⟩,
 ⟨(some 5), .call, [.f 141, .t 3, .t 4], none, [0, 1]⟩,
 ⟨(some 6), (.field 1 false 1), [.t 5], none, [2]⟩,
 ⟨(some 2), .mov, [.t 6], none, [3, 2, 0, 1, 2, 3]⟩] false)
 .ret))
def d156 : DFn := ⟨1, 7, [.tmp 2], b156⟩
theorem body156 : d156.body = b156 := rfl
theorem res156 : d156.res = [.tmp 2] := rfl
theorem k156 : chkFn Try.prog Try.f156 d156 = true := by kernel_rfl

/-- guidevane/guidevaneref03.through -/
def b142 : DCode :=
 (.seq
 (.region [⟨(some 3), .box, [.t 0], none, []⟩,
 ⟨(some 5), .box, [.t 2], none, []⟩,
 ⟨(some 6), (.alloc [(.imm (.int .i64 0)), (.imm (.int .i64 0)), (.imm (.int .i64 0)), (.imm (.int .i64 0))]), [], none, []⟩] false)
 (.seq
 (.region [⟨(some 9), .mov, [.t 1], none, []⟩,
 ⟨(some 10), (.faddr 0 false 1), [.t 3], none, []⟩,
 ⟨(some 11), (.load false 1), [.t 10], none, [1]⟩,
 ⟨(some 12), (.bin .mul), [.t 9, .t 11], none, [0, 2]⟩,
 ⟨(some 13), .call, [.f 155, .t 12], none, [3]⟩,
 ⟨(some 14), .mov, [.t 1], none, []⟩,
 ⟨(some 15), (.faddr 0 false 1), [.t 3], none, []⟩,
 ⟨(some 16), (.load false 1), [.t 15], none, [6]⟩,
 ⟨(some 17), (.bin .mul), [.t 14, .t 16], none, [5, 7]⟩,
 ⟨(some 18), .call, [.f 156, .t 17], none, [8, 4]⟩,
 ⟨(some 7), .mov, [.t 13], none, [4, 9, 0, 1, 2, 3, 4]⟩,
 ⟨(some 8), .mov, [.t 18], none, [9, 10, 0, 1, 2, 3, 4, 5, 6, 7, 8, 9, 10]⟩] true)
 (.seq
 (.region [⟨(some 19), (.faddr 0 true 2), [.t 5], none, []⟩,
 ⟨(some 20), (.load true 2), [.t 19], none, [0]⟩,
 ⟨(some 21), .mov, [.t 7], none, []⟩,
 ⟨(some 22), .call, [.f 139, .t 20, .t 21], none, [1, 2]⟩,
 ⟨(some 23), (.faddr 2 true 2), [.t 5], none, []⟩,
 ⟨(some 24), (.load true 2), [.t 23], none, [4]⟩,
 ⟨(some 25), (.faddr 1 false 1), [.t 3], none, []⟩,
 ⟨(some 26), (.load false 1), [.t 25], none, [6]⟩,
 ⟨(some 27), .call, [.f 105, .t 24, .t 26], none, [5, 7, 3]⟩,
 ⟨(some 28), .call, [.f 141, .t 27, .c (.int .i64 3)], none, [8, 8]⟩,
 ⟨(some 29), .mov, [.t 8], none, []⟩,
 ⟨(some 30), .call, [.f 139, .t 28, .t 29], none, [9, 10, 9]⟩,
 ⟨(some 31), .call, [.f 140, .t 22, .t 30], none, [3, 11, 11]⟩,
 ⟨(some 32), (.faddr 2 true 2), [.t 5], none, []⟩,
 ⟨(some 33), (.load true 2), [.t 32], none, [13]⟩,
 ⟨(some 34), .mov, [.t 7], none, []⟩,
 ⟨(some 35), .call, [.f 139, .t 33, .t 34], none, [14, 15, 12]⟩,
 ⟨(some 36), (.faddr 0 true 2), [.t 5], none, []⟩,
 ⟨(some 37), (.load true 2), [.t 36], none, [17]⟩,
 ⟨(some 38), (.faddr 1 false 1), [.t 3], none, []⟩,
 ⟨(some 39), (.load false 1), [.t 38], none, [19]⟩,
 ⟨(some 40), .call, [.f 139, .t 37, .t 39], none, [18, 20, 16]⟩,
 ⟨(some 41), .call, [.f 141, .t 40, .c (.int .i64 3)], none, [21, 21]⟩,
 ⟨(some 42), .mov, [.t 8], none, []⟩,
 ⟨(some 43), .call, [.f 139, .t 41, .t 42], none, [22, 23, 22]⟩,
 ⟨(some 44), .call, [.f 140, .t 35, .t 43], none, [16, 24, 24]⟩,
 ⟨(some 45), (.build [(.imm (.int .i64 0)), (.imm (.int .i64 0)), (.imm (.int .i64 0)), (.imm (.int .i64 0))] [(0, 2), (2, 2)]), [.t 31, .t 44], none, [12, 25]⟩,
 ⟨none, (.store 4), [.t 6, .t 45], none, [26, 25, 0, 1, 2, 3, 4, 5, 6, 7, 8, 9, 10, 11, 12, 13, 14, 15, 16, 17, 18, 19, 20, 21, 22, 23, 24, 25, 26]⟩] true)
 .ret)))
def d142 : DFn := ⟨3, 46, [.cell 6 true 4], b142⟩
theorem body142 : d142.body = b142 := rfl
theorem res142 : d142.res = [.cell 6 true 4] := rfl
theorem k142 : chkFn Try.prog Try.f142 d142 = true := by kernel_rfl

/-- guidevane/guidevaneref03.beyond -/
def b143 : DCode :=
 (.seq
 (.region [⟨(some 5), .box, [.t 2], none, []⟩,
 ⟨(some 6), (.alloc [(.imm (.int .i64 0)), (.imm (.int .i64 0)), (.imm (.int .i64 0)), (.imm (.int .i64 0))]), [], none, []⟩] false)
 (.seq
 (.region [⟨(some 8), (.build [(.imm (.int .i64 0)), (.imm (.int .i64 0))] [(0, 1)]), [.c (.int .i64 1)], none, []⟩,
 ⟨(some 9), (.build [(.imm (.int .i64 0)), (.imm (.int .i64 0))] [(0, 1)]), [.c (.int .i64 1)], none, []⟩,
 ⟨(some 10), .mov, [.t 1], none, []⟩,
 ⟨(some 11), (.un .neg), [.t 10], none, [2]⟩,
 ⟨(some 12), .call, [.f 141, .t 9, .t 11], none, [1, 3]⟩,
 ⟨(some 13), .call, [.f 52, .t 8, .t 12], none, [0, 4, 4]⟩,
 ⟨(some 7), (.alloc [(.imm (.int .i64 0)), (.imm (.int .i64 0))]), [], none, []⟩,
 ⟨none, (.store 2), [.t 7, .t 13], none, [6, 5, 5, 0, 1, 2, 3, 4, 5, 6]⟩] false)
 (.seq
 (.region [⟨(some 14), (.faddr 0 true 2), [.t 5], none, []⟩,
 ⟨(some 15), (.load true 2), [.t 14], none, [0]⟩,
 ⟨(some 16), (.faddr 2 true 2), [.t 5], none, []⟩,
 ⟨(some 17), (.load true 2), [.t 16], none, [2]⟩,
 ⟨(some 18), (.load true 2), [.t 7], none, []⟩,
 ⟨(some 19), (.faddr 0 true 2), [.t 5], none, []⟩,
 ⟨(some 20), (.load true 2), [.t 19], none, [5]⟩,
 ⟨(some 21), .call, [.f 53, .t 18, .t 20], none, [4, 6]⟩,
 ⟨(some 22), .mov, [.t 0], none, []⟩,
 ⟨(some 23), .call, [.f 139, .t 21, .t 22], none, [7, 8, 7]⟩,
 ⟨(some 24), .call, [.f 52, .t 17, .t 23], none, [3, 9, 9]⟩,
 ⟨(some 25), (.build [(.imm (.int .i64 0)), (.imm (.int .i64 0)), (.imm (.int .i64 0)), (.imm (.int .i64 0))] [(0, 2), (2, 2)]), [.t 15, .t 24], none, [1, 10]⟩,
 ⟨none, (.store 4), [.t 6, .t 25], none, [11, 10, 0, 1, 2, 3, 4, 5, 6, 7, 8, 9, 10, 11]⟩] true)
 .ret)))
def d143 : DFn := ⟨3, 26, [.cell 6 true 4], b143⟩
theorem body143 : d143.body = b143 := rfl
theorem res143 : d143.res = [.cell 6 true 4] := rfl
theorem k143 : chkFn Try.prog Try.f143 d143 = true := by kernel_rfl

/-- guidevane/guidevaneref03.Product -/
def b106k0 : DCode :=
 (.seq
 (.block 1
 (.region [⟨(some 12), .mov, [.t 3], none, []⟩,
 ⟨(some 13), (.faddr 0 false 1), [.t 1], none, []⟩,
 ⟨(some 14), (.load false 1), [.t 13], none, [1]⟩,
 ⟨(some 15), .mov, [.t 4], none, []⟩,
 ⟨(some 16), (.iaddr 2), [.t 14, .t 15], none, [2, 3]⟩,
 ⟨(some 17), (.faddr 1 false 1), [.t 16], none, [4]⟩,
 ⟨(some 18), (.load false 1), [.t 17], none, [5]⟩,
 ⟨(some 19), (.bin .mul), [.t 12, .t 18], none, [0, 6]⟩,
 ⟨(some 3), .mov, [.t 19], none, [7, 0, 1, 2, 3, 4, 5, 6, 7]⟩] false))
 (.region [⟨(some 10), .mov, [.t 4], none, []⟩,
 ⟨(some 11), (.bin .add), [.t 10, .c (.int .i64 1)], none, [0]⟩,
 ⟨(some 4), .mov, [.t 11], none, [1, 0, 1]⟩] false))
def b106l0 : DCode := .keep [1, 3, 4] [1]
 (.seq
 (.seq
 (.region [⟨(some 5), .mov, [.t 4], none, []⟩,
 ⟨(some 6), (.faddr 0 false 1), [.t 1], none, []⟩,
 ⟨(some 7), (.load false 1), [.t 6], none, [1]⟩,
 ⟨(some 8), .len, [.t 7], none, [2]⟩,
 ⟨(some 9), (.bin .lss), [.t 5, .t 8], none, [0, 3]⟩] false)
 (.cond (.t 9)
 .skip
 (.exit 0)))
 (.keep [1, 3, 4] [1] b106k0))
def b106k1 : DCode :=
 (.seq
 (.region [⟨(some 20), .mov, [.t 3], none, []⟩,
 ⟨(some 2), .mov, [.t 20], none, [0, 0]⟩] false)
 .ret)
def b106 : DCode :=
 (.seq
 (.region [⟨(some 1), .box, [.t 0], none, []⟩,
 ⟨(some 2), .mov, [.c (.int .i64 0)], none, []⟩] false)
 (.seq
 (.region [⟨(some 3), .mov, [.c (.int .i64 1)], none, []⟩] false)
 (.seq
 (.seq
 (.region [⟨(some 4), .mov, [.c (.int .i64 0)], none, []⟩] false)
 (.block 0
 (.loop b106l0)))
 (.keep [3] [] b106k1))))
def d106 : DFn := ⟨1, 21, [.tmp 2], b106⟩
theorem body106 : d106.body = b106 := rfl
theorem res106 : d106.res = [.tmp 2] := rfl
theorem k106 : chkFn Try.prog Try.f106 d106 = true := by kernel_rfl

/-- guidevane/guidevanelaw03.WaveQuarters -/
def b6k0 : DCode :=
 (.seq
 (.region [⟨(some 126), .mov, [.t 8], none, []⟩,
 ⟨(some 127), (.bin .eql), [.t 126, .c (.int .i64 0)], none, [0]⟩,
 ⟨(some 128), .mov, [.t 127], none, [1]⟩,
 ⟨(some 129), (.load true 4), [.t 7], (some (128, true)), [2]⟩,
 ⟨(some 130), (.load true 4), [.t 12], (some (128, true)), [2]⟩,
 ⟨(some 131), (.eqs [false, false, false, false] false), [.t 129, .t 130], (some (128, true)), [3, 4, 2]⟩,
 ⟨(some 132), .pick, [.t 128, .t 131, .c (.bool false)], none, [2, 5]⟩,
 ⟨(some 4), .mov, [.t 132], none, [6, 2, 0, 1, 2, 3, 4, 5, 6]⟩] false)
 .ret)
def b6k1 : DCode :=
 (.seq
 (.seq
 (.region [⟨(some 117), .mov, [.t 13], none, []⟩,
 ⟨(some 118), (.un .not), [.t 117], none, [0]⟩] false)
 (.cond (.t 118)
 (.seq
 (.region [⟨(some 119), .mov, [.t 8], none, []⟩,
 ⟨(some 120), (.bin .eql), [.t 119, .c (.int .i64 21)], none, [0]⟩,
 ⟨(some 121), .mov, [.t 120], none, [1]⟩,
 ⟨(some 122), (.load true 4), [.t 7], (some (121, true)), [2]⟩,
 ⟨(some 123), (.build [(.imm (.int .i64 0)), (.imm (.int .i64 0)), (.imm (.int .i64 0)), (.imm (.int .i64 0))] []), [], (some (121, true)), [2]⟩,
 ⟨(some 124), (.eqs [false, false, false, false] false), [.t 122, .t 123], (some (121, true)), [3, 4, 2]⟩,
 ⟨(some 125), .pick, [.t 121, .t 124, .c (.bool false)], none, [2, 5]⟩,
 ⟨(some 4), .mov, [.t 125], none, [6, 2, 0, 1, 2, 3, 4, 5, 6]⟩] false)
 .ret)
 .skip))
 (.keep [7, 8, 12] [7, 12] b6k0))
def b6k2 : DCode :=
 (.seq
 (.region [⟨(some 103), (.load true 2), [.t 2], none, []⟩,
 ⟨(some 104), .mov, [.t 1], none, []⟩,
 ⟨(some 105), .call, [.f 48, .t 103, .t 104], none, [0, 1]⟩,
 ⟨(some 102), .mov, [.t 105], none, [2]⟩,
 ⟨(some 106), (.ext 0), [.t 102], none, [3]⟩,
 ⟨(some 107), (.ext 1), [.t 102], none, [3]⟩,
 ⟨(some 12), (.alloc [(.imm (.int .i64 0)), (.imm (.int .i64 0)), (.imm (.int .i64 0)), (.imm (.int .i64 0))]), [], none, []⟩,
 ⟨none, (.store 4), [.t 12, .t 106], none, [6, 4, 2, 0, 1, 2, 3, 4, 6]⟩,
 ⟨(some 13), .mov, [.t 107], none, [5, 7, 0, 1, 2, 3, 4, 5, 6, 7]⟩] false)
 (.seq
 (.seq
 (.region [⟨(some 108), .mov, [.t 6], none, []⟩,
 ⟨(some 109), (.bin .neq), [.t 108, .c (.int .i64 0)], none, [0]⟩,
 ⟨(some 110), .mov, [.t 109], none, [1]⟩,
 ⟨(some 111), (.load true 9), [.t 5], (some (110, false)), [2]⟩,
 ⟨(some 112), (.load true 2), [.t 2], (some (110, false)), [2]⟩,
 ⟨(some 113), .mov, [.t 1], (some (110, false)), [2]⟩,
 ⟨(some 114), .call, [.f 49, .t 112, .t 113], (some (110, false)), [4, 5, 2, 2]⟩,
 ⟨(some 115), (.eqs [false, false, false, false, false, false, false, false, false] true), [.t 111, .t 114], (some (110, false)), [3, 6, 2]⟩,
 ⟨(some 116), .pick, [.t 110, .c (.bool true), .t 115], none, [2, 7]⟩] true)
 (.cond (.t 116)
 (.seq
 (.region [⟨(some 4), .mov, [.c (.bool false)], none, []⟩] false)
 .ret)
 .skip))
 (.keep [7, 8, 12, 13] [7, 12] b6k1)))
def b6k3 : DCode :=
 (.seq
 (.seq
 (.region [⟨(some 80), .mov, [.t 1], none, []⟩,
 ⟨(some 81), .call, [.f 47, .t 80], none, [0]⟩,
 ⟨(some 11), .mov, [.t 81], none, [1, 1, 0, 1]⟩] false)
 (.seq
 (.region [⟨(some 82), .mov, [.t 11], none, []⟩,
 ⟨(some 83), (.bin .neq), [.t 82, .c (.int .i64 0)], none, [0]⟩] false)
 (.cond (.t 83)
 (.seq
 (.region [⟨(some 84), .mov, [.t 6], none, []⟩,
 ⟨(some 85), .mov, [.t 11], none, []⟩,
 ⟨(some 86), (.bin .eql), [.t 84, .t 85], none, [0, 1]⟩,
 ⟨(some 87), .mov, [.t 86], none, [2]⟩,
 ⟨(some 88), .mov, [.t 8], (some (87, true)), [3]⟩,
 ⟨(some 89), .mov, [.t 11], (some (87, true)), [3]⟩,
 ⟨(some 90), (.bin .eql), [.t 88, .t 89], (some (87, true)), [4, 5, 3]⟩,
 ⟨(some 91), .pick, [.t 87, .t 90, .c (.bool false)], none, [3, 6]⟩,
 ⟨(some 92), .mov, [.t 91], none, [7, 3]⟩,
 ⟨(some 93), (.load true 9), [.t 5], (some (92, true)), [8]⟩,
 ⟨(some 94), (.build [(.imm (.int .i64 0)), (.imm (.int .i64 0)), (.imm (.int .i64 0)), (.imm (.int .i64 0)), (.imm (.int .i64 0)), (.imm (.int .i64 0)), (.imm (.int .i64 0)), (.imm (.int .i64 0)), (.imm (.int .i64 0))] []), [], (some (92, true)), [8]⟩,
 ⟨(some 95), (.eqs [false, false, false, false, false, false, false, false, false] false), [.t 93, .t 94], (some (92, true)), [9, 10, 8]⟩,
 ⟨(some 96), .pick, [.t 92, .t 95, .c (.bool false)], none, [8, 11]⟩,
 ⟨(some 97), .mov, [.t 96], none, [12, 8]⟩,
 ⟨(some 98), (.load true 4), [.t 7], (some (97, true)), [13]⟩,
 ⟨(some 99), (.build [(.imm (.int .i64 0)), (.imm (.int .i64 0)), (.imm (.int .i64 0)), (.imm (.int .i64 0))] []), [], (some (97, true)), [13]⟩,
 ⟨(some 100), (.eqs [false, false, false, false] false), [.t 98, .t 99], (some (97, true)), [14, 15, 13]⟩,
 ⟨(some 101), .pick, [.t 97, .t 100, .c (.bool false)], none, [13, 16]⟩,
 ⟨(some 4), .mov, [.t 101], none, [17, 13, 0, 1, 2, 3, 4, 5, 6, 7, 8, 9, 10, 11, 12, 13, 14, 15, 16, 17]⟩] false)
 .ret)
 .skip)))
 (.keep [1, 2, 5, 6, 7, 8] [2, 5, 7] b6k2))
def b6k4 : DCode :=
 (.seq
 (.seq
 (.region [⟨(some 71), .mov, [.t 10], none, []⟩,
 ⟨(some 72), (.bin .neq), [.t 71, .c (.int .i64 0)], none, [0]⟩,
 ⟨(some 73), .mov, [.t 72], none, [1]⟩,
 ⟨(some 74), .movv, [.t 9], (some (73, false)), [2]⟩,
 ⟨(some 75), (.load true 2), [.t 2], (some (73, false)), [2]⟩,
 ⟨(some 76), .call, [.f 46, .t 75], (some (73, false)), [4, 2, 2]⟩,
 ⟨(some 77), .call, [.f 45, .t 74, .t 76], (some (73, false)), [3, 5, 5, 2]⟩,
 ⟨(some 78), (.un .not), [.t 77], (some (73, false)), [6, 2]⟩,
 ⟨(some 79), .pick, [.t 73, .c (.bool true), .t 78], none, [2, 7]⟩] false)
 (.cond (.t 79)
 (.seq
 (.region [⟨(some 4), .mov, [.c (.bool false)], none, []⟩] false)
 .ret)
 .skip))
 (.keep [1, 2, 5, 6, 7, 8] [2, 5, 7] b6k3))
def b6k5 : DCode :=
 (.seq
 (.region [⟨(some 20), (.load true 2), [.t 2], none, []⟩,
 ⟨(some 21), .call, [.f 22, .t 20], none, [0]⟩,
 ⟨(some 22), .mov, [.t 1], none, []⟩,
 ⟨(some 23), .call, [.f 42, .t 21, .t 22], none, [1, 2, 1]⟩,
 ⟨(some 19), .mov, [.t 23], none, [3]⟩,
 ⟨(some 24), (.ext 0), [.t 19], none, [4]⟩,
 ⟨(some 25), (.ext 1), [.t 19], none, [4]⟩,
 ⟨(some 5), (.alloc [(.imm (.int .i64 0)), (.imm (.int .i64 0)), (.imm (.int .i64 0)), (.imm (.int .i64 0)), (.imm (.int .i64 0)), (.imm (.int .i64 0)), (.imm (.int .i64 0)), (.imm (.int .i64 0)), (.imm (.int .i64 0))]), [], none, []⟩,
 ⟨none, (.store 9), [.t 5, .t 24], none, [7, 5, 3, 0, 1, 2, 3, 4, 5, 7]⟩,
 ⟨(some 6), .mov, [.t 25], none, [6, 8, 0, 1, 2, 3, 4, 5, 6, 7, 8]⟩] false)
 (.seq
 (.region [⟨(some 27), (.load true 2), [.t 2], none, []⟩,
 ⟨(some 28), .call, [.f 22, .t 27], none, [0]⟩,
 ⟨(some 29), .mov, [.t 1], none, []⟩,
 ⟨(some 30), .call, [.f 43, .t 28, .t 29], none, [1, 2, 1]⟩,
 ⟨(some 26), .mov, [.t 30], none, [3]⟩,
 ⟨(some 31), (.ext 0), [.t 26], none, [4]⟩,
 ⟨(some 32), (.ext 1), [.t 26], none, [4]⟩,
 ⟨(some 7), (.alloc [(.imm (.int .i64 0)), (.imm (.int .i64 0)), (.imm (.int .i64 0)), (.imm (.int .i64 0))]), [], none, []⟩,
 ⟨none, (.store 4), [.t 7, .t 31], none, [7, 5, 3, 0, 1, 2, 3, 4, 5, 7]⟩,
 ⟨(some 8), .mov, [.t 32], none, [6, 8, 0, 1, 2, 3, 4, 5, 6, 7, 8]⟩] false)
 (.seq
 (.region [⟨(some 34), (.load true 2), [.t 2], none, []⟩,
 ⟨(some 35), .call, [.f 22, .t 34], none, [0]⟩,
 ⟨(some 36), .call, [.f 44, .t 35], none, [1, 1]⟩,
 ⟨(some 33), .mov, [.t 36], none, [2]⟩,
 ⟨(some 37), (.ext 0), [.t 33], none, [3]⟩,
 ⟨(some 38), (.ext 1), [.t 33], none, [3]⟩,
 ⟨(some 9), .movv, [.t 37], none, [4, 2, 0, 1, 2, 3, 4]⟩,
 ⟨(some 10), .mov, [.t 38], none, [5, 6, 0, 1, 2, 3, 4, 5, 6]⟩] false)
 (.seq
 (.region [⟨(some 39), (.load true 2), [.t 2], none, []⟩,
 ⟨(some 40), .call, [.f 37, .t 39], none, [0]⟩,
 ⟨(some 11), .mov, [.t 40], none, [1, 1, 0, 1]⟩] false)
 (.seq
 (.seq
 (.region [⟨(some 41), .mov, [.t 11], none, []⟩,
 ⟨(some 42), (.bin .neq), [.t 41, .c (.int .i64 0)], none, [0]⟩] false)
 (.cond (.t 42)
 (.seq
 (.region [⟨(some 43), .mov, [.t 6], none, []⟩,
 ⟨(some 44), .mov, [.t 11], none, []⟩,
 ⟨(some 45), (.bin .eql), [.t 43, .t 44], none, [0, 1]⟩,
 ⟨(some 46), .mov, [.t 45], none, [2]⟩,
 ⟨(some 47), .mov, [.t 8], (some (46, true)), [3]⟩,
 ⟨(some 48), .mov, [.t 11], (some (46, true)), [3]⟩,
 ⟨(some 49), (.bin .eql), [.t 47, .t 48], (some (46, true)), [4, 5, 3]⟩,
 ⟨(some 50), .pick, [.t 46, .t 49, .c (.bool false)], none, [3, 6]⟩,
 ⟨(some 51), .mov, [.t 50], none, [7, 3]⟩,
 ⟨(some 52), .mov, [.t 10], (some (51, true)), [8]⟩,
 ⟨(some 53), .mov, [.t 11], (some (51, true)), [8]⟩,
 ⟨(some 54), (.bin .eql), [.t 52, .t 53], (some (51, true)), [9, 10, 8]⟩,
 ⟨(some 55), .pick, [.t 51, .t 54, .c (.bool false)], none, [8, 11]⟩,
 ⟨(some 56), .mov, [.t 55], none, [12, 8]⟩,
 ⟨(some 57), (.load true 9), [.t 5], (some (56, true)), [13]⟩,
 ⟨(some 58), (.build [(.imm (.int .i64 0)), (.imm (.int .i64 0)), (.imm (.int .i64 0)), (.imm (.int .i64 0)), (.imm (.int .i64 0)), (.imm (.int .i64 0)), (.imm (.int .i64 0)), (.imm (.int .i64 0)), (.imm (.int .i64 0))] []), [], (some (56, true)), [13]⟩,
 ⟨(some 59), (.eqs [false, false, false, false, false, false, false, false, false] false), [.t 57, .t 58], (some (56, true)), [14, 15, 13]⟩,
 ⟨(some 60), .pick, [.t 56, .t 59, .c (.bool false)], none, [13, 16]⟩,
 ⟨(some 61), .mov, [.t 60], none, [17, 13]⟩,
 ⟨(some 62), (.load true 4), [.t 7], (some (61, true)), [18]⟩,
 ⟨(some 63), (.build [(.imm (.int .i64 0)), (.imm (.int .i64 0)), (.imm (.int .i64 0)), (.imm (.int .i64 0))] []), [], (some (61, true)), [18]⟩,
 ⟨(some 64), (.eqs [false, false, false, false] false), [.t 62, .t 63], (some (61, true)), [19, 20, 18]⟩,
 ⟨(some 65), .pick, [.t 61, .t 64, .c (.bool false)], none, [18, 21]⟩,
 ⟨(some 66), .mov, [.t 65], none, [22, 18]⟩,
 ⟨(some 67), .movv, [.t 9], (some (66, true)), [23]⟩,
 ⟨(some 68), .len, [.t 67], (some (66, true)), [24, 23]⟩,
 ⟨(some 69), (.bin .eql), [.t 68, .c (.int .i64 0)], (some (66, true)), [25, 23]⟩,
 ⟨(some 70), .pick, [.t 66, .t 69, .c (.bool false)], none, [23, 26]⟩,
 ⟨(some 4), .mov, [.t 70], none, [27, 23, 0, 1, 2, 3, 4, 5, 6, 7, 8, 9, 10, 11, 12, 13, 14, 15, 16, 17, 18, 19, 20, 21, 22, 23, 24, 25, 26, 27]⟩] false)
 .ret)
 .skip))
 (.keep [1, 2, 5, 6, 7, 8, 9, 10] [2, 5, 7] b6k4))))))
def b6k6 : DCode :=
 (.seq
 (.seq
 (.region [⟨(some 16), (.load true 2), [.t 2], none, []⟩,
 ⟨(some 17), .call, [.f 18, .t 16], none, [0]⟩,
 ⟨(some 18), (.un .not), [.t 17], none, [1]⟩] false)
 (.cond (.t 18)
 (.seq
 (.region [⟨(some 4), .mov, [.c (.bool true)], none, []⟩] false)
 .ret)
 .skip))
 (.keep [1, 2] [2] b6k5))
def b6 : DCode :=
 (.seq
 (.region [⟨(some 2), .box, [.t 0], none, []⟩,
 ⟨(some 4), .mov, [.c (.bool false)], none, []⟩] false)
 (.seq
 (.seq
 (.region [⟨(some 14), .call, [.f 17], none, []⟩,
 ⟨(some 15), (.un .not), [.t 14], none, [0]⟩] false)
 (.cond (.t 15)
 (.seq
 (.region [⟨(some 4), .mov, [.c (.bool false)], none, []⟩] false)
 .ret)
 .skip))
 (.keep [1, 2] [2] b6k6)))
end Go.DI

