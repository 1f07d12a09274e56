/- The functions of the lakes, of their reference and of the statements, as data. No condition. -/
import Derived.Test.YtaphhpphfffnfaaGreatDoorLfGe
import Derived.Test.YtaphhpphfffnfaaGreatDoorProg
import Derived.KernelRfl
namespace Go.DI
open Go.Proofs Go.RowKit
/-- guidevane/lake.Usable -/
def b115k0 : DCode :=
 (.seq
 (.region [⟨(some 20), (.faddr 0 true 2), [.t 6], none, []⟩,
 ⟨(some 21), (.iarr 2 1 true), [.t 20, .c (.int .i64 0)], none, [0]⟩,
 ⟨(some 22), (.loadf true 1 [6]), [.t 21], none, [1]⟩,
 ⟨(some 23), (.faddr 0 true 2), [.t 6], none, []⟩,
 ⟨(some 24), (.iarr 2 1 true), [.t 23, .c (.int .i64 1)], none, [3]⟩,
 ⟨(some 25), (.loadf true 1 [6]), [.t 24], none, [4]⟩,
 ⟨(some 8), (.alloc [(.imm (.slc 2 []))]), [], none, []⟩,
 ⟨(some 9), (.alloc [(.imm (.slc 2 []))]), [], none, []⟩,
 ⟨none, (.storef 1 [8]), [.t 8, .t 22], none, [6, 2, 0, 1, 2, 6, 7]⟩,
 ⟨none, (.storef 1 [9]), [.t 9, .t 25], none, [7, 5, 8, 0, 1, 2, 3, 4, 5, 6, 7, 8]⟩] true)
 (.seq
 (.region [⟨(some 26), (.faddr 0 false 1), [.t 3], none, []⟩,
 ⟨(some 27), (.load false 1), [.t 26], none, [0]⟩,
 ⟨(some 28), (.load true 1), [.t 8], none, []⟩,
 ⟨(some 29), .call, [.f 209, .t 28], none, [2]⟩,
 ⟨(some 30), (.field 1 false 1), [.t 29], none, [3]⟩,
 ⟨(some 31), (.bin .sub), [.t 27, .t 30], none, [1, 4]⟩,
 ⟨(some 32), (.load true 1), [.t 9], none, []⟩,
 ⟨(some 33), .call, [.f 210, .t 32], none, [6, 3]⟩,
 ⟨(some 34), (.field 1 false 1), [.t 33], none, [7]⟩,
 ⟨(some 35), (.faddr 1 false 1), [.t 3], none, []⟩,
 ⟨(some 36), (.load false 1), [.t 35], none, [9]⟩,
 ⟨(some 37), (.bin .sub), [.t 34, .t 36], none, [8, 10]⟩,
 ⟨(some 38), (.mm false), [.t 31, .t 37], none, [5, 11]⟩,
 ⟨(some 39), (.faddr 1 false 1), [.t 3], none, []⟩,
 ⟨(some 40), (.load false 1), [.t 39], none, [13]⟩,
 ⟨(some 41), (.load true 1), [.t 9], none, []⟩,
 ⟨(some 42), .call, [.f 209, .t 41], none, [15, 7]⟩,
 ⟨(some 43), (.field 1 false 1), [.t 42], none, [16]⟩,
 ⟨(some 44), (.bin .sub), [.t 40, .t 43], none, [14, 17]⟩,
 ⟨(some 45), (.load true 1), [.t 8], none, []⟩,
 ⟨(some 46), .call, [.f 210, .t 45], none, [19, 16]⟩,
 ⟨(some 47), (.field 1 false 1), [.t 46], none, [20]⟩,
 ⟨(some 48), (.faddr 0 false 1), [.t 3], none, []⟩,
 ⟨(some 49), (.load false 1), [.t 48], none, [22]⟩,
 ⟨(some 50), (.bin .sub), [.t 47, .t 49], none, [21, 23]⟩,
 ⟨(some 51), (.mm false), [.t 44, .t 50], none, [18, 24]⟩,
 ⟨(some 52), (.build [(.imm (.int .i64 0)), (.imm (.int .i64 0))] [(0, 1), (1, 1)]), [.t 38, .t 51], none, [12, 25]⟩,
 ⟨none, (.store 2), [.t 4, .t 52], none, [26, 20, 0, 1, 2, 3, 4, 5, 6, 7, 8, 9, 10, 11, 12, 13, 14, 15, 16, 17, 18, 19, 20, 21, 22, 23, 24, 25, 26]⟩,
 ⟨(some 5), .mov, [.c (.int .i64 0)], none, [27, 0, 1, 2, 3, 4, 5, 6, 7, 8, 9, 10, 11, 12, 13, 14, 15, 16, 17, 18, 19, 20, 21, 22, 23, 24, 25, 26, 27]⟩] true)
 .ret))
def b115 : DCode :=
 (.seq
 (.region [⟨(some 2), .box, [.t 0], none, []⟩,
 ⟨(some 3), .box, [.t 1], none, []⟩,
 ⟨(some 4), (.alloc [(.imm (.int .i64 0)), (.imm (.int .i64 0))]), [], none, []⟩,
 ⟨(some 5), .mov, [.c (.int .i64 0)], none, []⟩] false)
 (.seq
 (.region [⟨(some 11), (.load true 3), [.t 2], none, []⟩,
 ⟨(some 12), (.load true 2), [.t 3], none, []⟩,
 ⟨(some 13), .call, [.f 123, .t 11, .t 12], none, [0, 1]⟩,
 ⟨(some 10), .mov, [.t 13], none, [2]⟩,
 ⟨(some 14), (.ext 0), [.t 10], none, [3]⟩,
 ⟨(some 15), (.ext 1), [.t 10], none, [3]⟩,
 ⟨(some 6), (.alloc [(.imm (.slc 2 [])), (.imm (.slc 2 [])), (.imm (.int .i64 0))]), [], none, []⟩,
 ⟨none, (.store 3), [.t 6, .t 14], none, [6, 4, 2, 0, 1, 2, 3, 4, 6]⟩,
 ⟨(some 7), .mov, [.t 15], none, [5, 7, 0, 1, 2, 3, 4, 5, 6, 7]⟩] false)
 (.seq
 (.seq
 (.region [⟨(some 16), .mov, [.t 7], none, []⟩,
 ⟨(some 17), (.bin .neq), [.t 16, .c (.int .i64 0)], none, [0]⟩] false)
 (.cond (.t 17)
 (.seq
 (.region [⟨(some 18), (.build [(.imm (.int .i64 0)), (.imm (.int .i64 0))] []), [], none, []⟩,
 ⟨(some 19), .mov, [.t 7], none, []⟩,
 ⟨none, (.store 2), [.t 4, .t 18], none, [0, 0]⟩,
 ⟨(some 5), .mov, [.t 19], none, [1, 2, 0, 1, 2]⟩] false)
 .ret)
 .skip))
 (.keep [3, 4, 6] [3, 4, 6] b115k0))))
def d115 : DFn := ⟨2, 53, [.cell 4 true 2, .tmp 5], b115⟩
theorem body115 : d115.body = b115 := rfl
theorem res115 : d115.res = [.cell 4 true 2, .tmp 5] := rfl
theorem k115 : chkFn Tryz.prog Tryz.f115 d115 = true := by kernel_rfl

/-- guidevane/lake.Step -/
def b113k0 : DCode :=
 (.seq
 (.region [⟨(some 31), (.load true 3), [.t 9], none, []⟩,
 ⟨(some 32), (.load true 2), [.t 4], none, []⟩,
 ⟨(some 33), (.load true 3), [.t 5], none, []⟩,
 ⟨(some 34), .call, [.f 125, .t 31, .t 32, .t 33], none, [0, 1, 2]⟩,
 ⟨(some 30), .mov, [.t 34], none, [3]⟩,
 ⟨(some 35), (.ext 0), [.t 30], none, [4]⟩,
 ⟨(some 36), (.ext 1), [.t 30], none, [4]⟩,
 ⟨(some 37), (.ext 2), [.t 30], none, [4]⟩,
 ⟨(some 11), (.alloc [(.imm (.int .i64 0)), (.imm (.int .i64 0))]), [], none, []⟩,
 ⟨(some 12), (.alloc [(.imm (.int .i64 0)), (.imm (.int .i64 0))]), [], none, []⟩,
 ⟨none, (.store 2), [.t 11, .t 35], none, [8, 5, 3, 0, 1, 2, 3, 4, 5, 8, 9]⟩,
 ⟨none, (.store 2), [.t 12, .t 36], none, [9, 6, 10, 0, 1, 2, 3, 4, 5, 6, 8, 9, 10]⟩,
 ⟨(some 13), .mov, [.t 37], none, [7, 11, 0, 1, 2, 3, 4, 5, 6, 7, 8, 9, 10, 11]⟩] false)
 (.seq
 (.region [⟨(some 38), (.loadf true 2 [11]), [.t 11], none, []⟩,
 ⟨(some 39), (.loadf true 2 [12]), [.t 12], none, []⟩,
 ⟨(some 40), .mov, [.t 13], none, []⟩,
 ⟨(some 41), .call, [.f 208, .t 40, .c (.int .i64 22)], none, [2]⟩,
 ⟨none, (.storef 2 [6]), [.t 6, .t 38], none, [0, 3, 0]⟩,
 ⟨none, (.storef 2 [7]), [.t 7, .t 39], none, [1, 4, 0, 1, 4]⟩,
 ⟨(some 8), .mov, [.t 41], none, [3, 5, 0, 1, 2, 3, 4, 5]⟩] true)
 .ret))
def b113 : DCode :=
 (.seq
 (.region [⟨(some 3), .box, [.t 0], none, []⟩,
 ⟨(some 4), .box, [.t 1], none, []⟩,
 ⟨(some 5), .box, [.t 2], none, []⟩,
 ⟨(some 6), (.alloc [(.imm (.int .i64 0)), (.imm (.int .i64 0))]), [], none, []⟩,
 ⟨(some 7), (.alloc [(.imm (.int .i64 0)), (.imm (.int .i64 0))]), [], none, []⟩,
 ⟨(some 8), .mov, [.c (.int .i64 0)], none, []⟩] false)
 (.seq
 (.region [⟨(some 15), (.load true 3), [.t 3], none, []⟩,
 ⟨(some 16), (.load true 2), [.t 4], none, []⟩,
 ⟨(some 17), .call, [.f 123, .t 15, .t 16], none, [0, 1]⟩,
 ⟨(some 14), .mov, [.t 17], none, [2]⟩,
 ⟨(some 18), (.ext 0), [.t 14], none, [3]⟩,
 ⟨(some 19), (.ext 1), [.t 14], none, [3]⟩,
 ⟨(some 9), (.alloc [(.imm (.slc 2 [])), (.imm (.slc 2 [])), (.imm (.int .i64 0))]), [], none, []⟩,
 ⟨none, (.store 3), [.t 9, .t 18], none, [6, 4, 2, 0, 1, 2, 3, 4, 6]⟩,
 ⟨(some 10), .mov, [.t 19], none, [5, 7, 0, 1, 2, 3, 4, 5, 6, 7]⟩] false)
 (.seq
 (.seq
 (.region [⟨(some 20), .mov, [.t 10], none, []⟩,
 ⟨(some 21), (.load true 3), [.t 5], none, []⟩,
 ⟨(some 22), .call, [.f 207, .t 21], none, [1]⟩,
 ⟨(some 23), (.bsl 1), [.t 20, .t 22], none, [0, 2]⟩,
 ⟨(some 24), .call, [.f 124, .t 23], none, [3, 2]⟩,
 ⟨(some 10), .mov, [.t 24], none, [4, 4, 0, 1, 2, 3, 4]⟩] false)
 (.seq
 (.region [⟨(some 25), .mov, [.t 10], none, []⟩,
 ⟨(some 26), (.bin .neq), [.t 25, .c (.int .i64 0)], none, [0]⟩] false)
 (.cond (.t 26)
 (.seq
 (.region [⟨(some 27), (.build [(.imm (.int .i64 0)), (.imm (.int .i64 0))] []), [], none, []⟩,
 ⟨(some 28), (.build [(.imm (.int .i64 0)), (.imm (.int .i64 0))] []), [], none, []⟩,
 ⟨(some 29), .mov, [.t 10], none, []⟩,
 ⟨none, (.store 2), [.t 6, .t 27], none, [0, 0]⟩,
 ⟨none, (.store 2), [.t 7, .t 28], none, [1, 3, 0, 1, 3]⟩,
 ⟨(some 8), .mov, [.t 29], none, [2, 4, 0, 1, 2, 3, 4]⟩] false)
 .ret)
 .skip)))
 (.keep [4, 5, 6, 7, 9] [4, 5, 6, 7, 9] b113k0))))
def d113 : DFn := ⟨3, 42, [.cell 6 true 2, .cell 7 true 2, .tmp 8], b113⟩
theorem body113 : d113.body = b113 := rfl
theorem res113 : d113.res = [.cell 6 true 2, .cell 7 true 2, .tmp 8] := rfl
theorem k113 : chkFn Tryz.prog Tryz.f113 d113 = true := by kernel_rfl

/-- guidevane/lake.CheckPair -/
def b276 : DCode :=
 (.seq
 (.region [⟨(some 1), .box, [.t 0], none, []⟩,
 ⟨(some 2), .mov, [.c (.int .i64 0)], none, []⟩] false)
 (.seq
 (.region [⟨(some 3), (.faddr 0 true 1), [.t 1], none, []⟩,
 ⟨(some 4), (.load true 1), [.t 3], none, [0]⟩,
 ⟨(some 5), .call, [.f 118, .t 4], none, [1]⟩,
 ⟨(some 6), (.faddr 1 true 1), [.t 1], none, []⟩,
 ⟨(some 7), (.load true 1), [.t 6], none, [3]⟩,
 ⟨(some 8), .call, [.f 118, .t 7], none, [4, 2]⟩,
 ⟨(some 9), (.faddr 2 false 1), [.t 1], none, []⟩,
 ⟨(some 10), (.load false 1), [.t 9], none, [6]⟩,
 ⟨(some 11), .call, [.f 270, .t 10, .c (.int .i64 0), .c (.int .i64 1000)], none, [7, 5]⟩,
 ⟨(some 12), .call, [.f 208, .t 11, .c (.int .i64 2)], none, [8, 8]⟩,
 ⟨(some 13), (.bsl 1), [.t 5, .t 8, .t 12], none, [2, 5, 9]⟩,
 ⟨(some 14), .call, [.f 124, .t 13], none, [10, 9]⟩,
 ⟨(some 2), .mov, [.t 14], none, [11, 11, 0, 1, 2, 3, 4, 5, 6, 7, 8, 9, 10, 11]⟩] true)
 .ret))
def d276 : DFn := ⟨1, 15, [.tmp 2], b276⟩
theorem body276 : d276.body = b276 := rfl
theorem res276 : d276.res = [.tmp 2] := rfl
theorem k276 : chkFn Tryz.prog Tryz.f276 d276 = true := by kernel_rfl

/-- guidevane/lake.AgreedOf -/
def b51k0 : DCode :=
 (.seq
 (.region [⟨(some 31), (.load true 2), [.t 10], none, []⟩,
 ⟨none, (.store 2), [.t 6, .t 31], none, [0, 0]⟩,
 ⟨(some 7), .mov, [.c (.int .i64 0)], none, [1, 0, 1]⟩] false)
 .ret)
def b51k1 : DCode :=
 (.seq
 (.region [⟨(some 24), .movv, [.t 8], none, []⟩,
 ⟨(some 25), .call, [.f 132, .t 24], none, [0]⟩,
 ⟨(some 23), .mov, [.t 25], none, [1]⟩,
 ⟨(some 26), (.ext 0), [.t 23], none, [2]⟩,
 ⟨(some 27), (.ext 1), [.t 23], none, [2]⟩,
 ⟨(some 10), (.alloc [(.imm (.int .i64 0)), (.imm (.int .i64 0))]), [], none, []⟩,
 ⟨none, (.store 2), [.t 10, .t 26], none, [5, 3, 1, 0, 1, 2, 3, 5]⟩,
 ⟨(some 11), .mov, [.t 27], none, [4, 6, 0, 1, 2, 3, 4, 5, 6]⟩] false)
 (.seq
 (.seq
 (.region [⟨(some 28), .mov, [.t 11], none, []⟩,
 ⟨(some 29), (.un .not), [.t 28], none, [0]⟩] false)
 (.cond (.t 29)
 (.seq
 (.region [⟨(some 30), (.build [(.imm (.int .i64 0)), (.imm (.int .i64 0))] []), [], none, []⟩,
 ⟨none, (.store 2), [.t 6, .t 30], none, [0, 0]⟩,
 ⟨(some 7), .mov, [.c (.int .i64 13)], none, [1, 0, 1]⟩] false)
 .ret)
 .skip))
 (.keep [6, 10] [6, 10] b51k0)))
def b51 : DCode :=
 (.seq
 (.region [⟨(some 3), .box, [.t 0], none, []⟩,
 ⟨(some 6), (.alloc [(.imm (.int .i64 0)), (.imm (.int .i64 0))]), [], none, []⟩,
 ⟨(some 7), .mov, [.c (.int .i64 0)], none, []⟩] false)
 (.seq
 (.region [⟨(some 13), (.load true 1), [.t 3], none, []⟩,
 ⟨(some 14), .movv, [.t 1], none, []⟩,
 ⟨(some 15), .movv, [.t 2], none, []⟩,
 ⟨(some 16), .call, [.f 131, .t 13, .t 14, .t 15], none, [0, 1, 2]⟩,
 ⟨(some 12), .mov, [.t 16], none, [3]⟩,
 ⟨(some 17), (.ext 0), [.t 12], none, [4]⟩,
 ⟨(some 18), (.ext 1), [.t 12], none, [4]⟩,
 ⟨(some 8), .movv, [.t 17], none, [5, 3, 0, 1, 2, 3, 4, 5]⟩,
 ⟨(some 9), .mov, [.t 18], none, [6, 7, 0, 1, 2, 3, 4, 5, 6, 7]⟩] false)
 (.seq
 (.seq
 (.region [⟨(some 19), .mov, [.t 9], none, []⟩,
 ⟨(some 20), (.bin .neq), [.t 19, .c (.int .i64 0)], none, [0]⟩] false)
 (.cond (.t 20)
 (.seq
 (.region [⟨(some 21), (.build [(.imm (.int .i64 0)), (.imm (.int .i64 0))] []), [], none, []⟩,
 ⟨(some 22), .mov, [.t 9], none, []⟩,
 ⟨none, (.store 2), [.t 6, .t 21], none, [0, 0]⟩,
 ⟨(some 7), .mov, [.t 22], none, [1, 2, 0, 1, 2]⟩] false)
 .ret)
 .skip))
 (.keep [6, 8] [6] b51k1))))
def d51 : DFn := ⟨3, 32, [.cell 6 true 2, .tmp 7], b51⟩
theorem body51 : d51.body = b51 := rfl
theorem res51 : d51.res = [.cell 6 true 2, .tmp 7] := rfl
theorem k51 : chkFn Tryz.prog Tryz.f51 d51 = true := by kernel_rfl

/-- guidevane/lake.LevelAt -/
def b49k0 : DCode :=
 (.seq
 (.region [⟨(some 19), (.load true 1), [.t 6], none, []⟩,
 ⟨(some 20), .mov, [.t 1], none, []⟩,
 ⟨(some 21), .call, [.f 128, .t 19, .t 20], none, [0, 1]⟩,
 ⟨(some 8), (.alloc [(.imm (.int .i64 0)), (.imm (.int .i64 0)), (.imm (.int .i64 0))]), [], none, []⟩,
 ⟨none, (.store 3), [.t 8, .t 21], none, [3, 2, 2, 0, 1, 2, 3]⟩] false)
 (.seq
 (.region [⟨(some 22), (.faddr 0 false 1), [.t 8], none, []⟩,
 ⟨(some 23), (.load false 1), [.t 22], none, [0]⟩,
 ⟨(some 24), (.faddr 0 false 1), [.t 8], none, []⟩,
 ⟨(some 25), (.load false 1), [.t 24], none, [2]⟩,
 ⟨(some 26), (.faddr 1 false 1), [.t 8], none, []⟩,
 ⟨(some 27), (.load false 1), [.t 26], none, [4]⟩,
 ⟨(some 28), (.mm false), [.t 27, .c (.int .i64 1)], none, [5]⟩,
 ⟨(some 29), (.bin .add), [.t 25, .t 28], none, [3, 6]⟩,
 ⟨(some 30), (.build [(.imm (.int .i64 0)), (.imm (.int .i64 0))] [(0, 1), (1, 1)]), [.t 23, .t 29], none, [1, 7]⟩,
 ⟨none, (.store 2), [.t 4, .t 30], none, [8, 0, 1, 2, 3, 4, 5, 6, 7, 8]⟩,
 ⟨(some 5), .mov, [.c (.int .i64 0)], none, [9, 0, 1, 2, 3, 4, 5, 6, 7, 8, 9]⟩] false)
 .ret))
def b49 : DCode :=
 (.seq
 (.region [⟨(some 2), .box, [.t 0], none, []⟩,
 ⟨(some 4), (.alloc [(.imm (.int .i64 0)), (.imm (.int .i64 0))]), [], none, []⟩,
 ⟨(some 5), .mov, [.c (.int .i64 0)], none, []⟩] false)
 (.seq
 (.region [⟨(some 10), (.load true 1), [.t 2], none, []⟩,
 ⟨(some 11), .mov, [.t 1], none, []⟩,
 ⟨(some 12), .call, [.f 127, .t 10, .t 11], none, [0, 1]⟩,
 ⟨(some 9), .mov, [.t 12], none, [2]⟩,
 ⟨(some 13), (.ext 0), [.t 9], none, [3]⟩,
 ⟨(some 14), (.ext 1), [.t 9], none, [3]⟩,
 ⟨(some 6), (.alloc [(.imm (.slc 2 []))]), [], none, []⟩,
 ⟨none, (.store 1), [.t 6, .t 13], none, [6, 4, 2, 0, 1, 2, 3, 4, 6]⟩,
 ⟨(some 7), .mov, [.t 14], none, [5, 7, 0, 1, 2, 3, 4, 5, 6, 7]⟩] false)
 (.seq
 (.seq
 (.region [⟨(some 15), .mov, [.t 7], none, []⟩,
 ⟨(some 16), (.bin .neq), [.t 15, .c (.int .i64 0)], none, [0]⟩] false)
 (.cond (.t 16)
 (.seq
 (.region [⟨(some 17), (.build [(.imm (.int .i64 0)), (.imm (.int .i64 0))] []), [], none, []⟩,
 ⟨(some 18), .mov, [.t 7], none, []⟩,
 ⟨none, (.store 2), [.t 4, .t 17], none, [0, 0]⟩,
 ⟨(some 5), .mov, [.t 18], none, [1, 2, 0, 1, 2]⟩] false)
 .ret)
 .skip))
 (.keep [1, 4, 6] [4, 6] b49k0))))
def d49 : DFn := ⟨2, 31, [.cell 4 true 2, .tmp 5], b49⟩
theorem body49 : d49.body = b49 := rfl
theorem res49 : d49.res = [.cell 4 true 2, .tmp 5] := rfl
theorem k49 : chkFn Tryz.prog Tryz.f49 d49 = true := by kernel_rfl

/-- guidevane/lake.CheckTable -/
def b212k0 : DCode :=
 (.seq
 (.region [⟨(some 61), .mov, [.t 5], none, []⟩,
 ⟨(some 62), (.bin .gtr), [.t 61, .c (.int .i64 1)], none, [0]⟩,
 ⟨(some 63), .mov, [.t 62], none, [1]⟩,
 ⟨(some 64), (.load true 4), [.t 7], (some (63, true)), [2]⟩,
 ⟨(some 65), (.faddr 0 false 1), [.t 1], (some (63, true)), [2]⟩,
 ⟨(some 66), (.load false 1), [.t 65], (some (63, true)), [4, 2]⟩,
 ⟨(some 67), .mov, [.t 5], (some (63, true)), [2]⟩,
 ⟨(some 68), (.bin .sub), [.t 67, .c (.int .i64 2)], (some (63, true)), [6, 2]⟩,
 ⟨(some 69), (.iaddr 2), [.t 66, .t 68], (some (63, true)), [5, 7, 2]⟩,
 ⟨(some 70), (.load true 2), [.t 69], (some (63, true)), [8, 2]⟩,
 ⟨(some 71), (.faddr 0 false 1), [.t 1], (some (63, true)), [2]⟩,
 ⟨(some 72), (.load false 1), [.t 71], (some (63, true)), [10, 2]⟩,
 ⟨(some 73), .mov, [.t 5], (some (63, true)), [2]⟩,
 ⟨(some 74), (.bin .sub), [.t 73, .c (.int .i64 1)], (some (63, true)), [12, 2]⟩,
 ⟨(some 75), (.iaddr 2), [.t 72, .t 74], (some (63, true)), [11, 13, 2]⟩,
 ⟨(some 76), (.load true 2), [.t 75], (some (63, true)), [14, 2]⟩,
 ⟨(some 77), (.build [(.imm (.int .i64 0)), (.imm (.int .i64 0)), (.imm (.int .i64 0)), (.imm (.int .i64 0))] [(0, 2), (2, 2)]), [.t 70, .t 76], (some (63, true)), [9, 15, 2]⟩,
 ⟨(some 78), .call, [.f 272, .t 64, .t 77], (some (63, true)), [3, 16, 2, 2]⟩,
 ⟨(some 79), .pick, [.t 63, .t 78, .c (.bool false)], none, [2, 17]⟩] true)
 (.cond (.t 79)
 (.seq
 (.region [⟨(some 80), .mov, [.t 5], none, []⟩,
 ⟨(some 2), .mov, [.t 80], none, [0, 0]⟩,
 ⟨(some 3), .mov, [.c (.int .i64 22)], none, [1, 0, 1]⟩] false)
 .ret)
 .skip))
def b212k1 : DCode :=
 (.seq
 (.region [⟨(some 44), (.faddr 0 false 1), [.t 1], none, []⟩,
 ⟨(some 45), (.load false 1), [.t 44], none, [0]⟩,
 ⟨(some 46), .mov, [.t 5], none, []⟩,
 ⟨(some 47), (.bin .sub), [.t 46, .c (.int .i64 1)], none, [2]⟩,
 ⟨(some 48), (.iaddr 2), [.t 45, .t 47], none, [1, 3]⟩,
 ⟨(some 49), (.load true 2), [.t 48], none, [4]⟩,
 ⟨(some 50), (.load true 2), [.t 6], none, []⟩,
 ⟨(some 51), (.build [(.imm (.int .i64 0)), (.imm (.int .i64 0)), (.imm (.int .i64 0)), (.imm (.int .i64 0))] [(0, 2), (2, 2)]), [.t 49, .t 50], none, [5, 6]⟩,
 ⟨(some 7), (.alloc [(.imm (.int .i64 0)), (.imm (.int .i64 0)), (.imm (.int .i64 0)), (.imm (.int .i64 0))]), [], none, []⟩,
 ⟨none, (.store 4), [.t 7, .t 51], none, [8, 7, 0, 1, 2, 3, 4, 5, 6, 7, 8]⟩] true)
 (.seq
 (.seq
 (.region [⟨(some 52), (.load true 4), [.t 7], none, []⟩,
 ⟨(some 53), .call, [.f 220, .t 52], none, [0]⟩,
 ⟨(some 54), (.bin .leq), [.t 53, .c (.int .i64 0)], none, [1]⟩,
 ⟨(some 55), .mov, [.t 54], none, [2, 1]⟩,
 ⟨(some 56), (.load true 4), [.t 7], (some (55, false)), [3]⟩,
 ⟨(some 57), .call, [.f 221, .t 56], (some (55, false)), [4, 3, 3]⟩,
 ⟨(some 58), (.bin .leq), [.t 57, .c (.int .i64 0)], (some (55, false)), [5, 3]⟩,
 ⟨(some 59), .pick, [.t 55, .c (.bool true), .t 58], none, [3, 6]⟩] false)
 (.cond (.t 59)
 (.seq
 (.region [⟨(some 60), .mov, [.t 5], none, []⟩,
 ⟨(some 2), .mov, [.t 60], none, [0, 0]⟩,
 ⟨(some 3), .mov, [.c (.int .i64 9)], none, [1, 0, 1]⟩] false)
 .ret)
 .skip))
 (.keep [1, 5, 7, 24, 25, 26] [1, 7] b212k0)))
def b212k2 : DCode :=
 (.seq
 (.seq
 (.region [⟨(some 42), .mov, [.t 5], none, []⟩,
 ⟨(some 43), (.bin .eql), [.t 42, .c (.int .i64 0)], none, [0]⟩] false)
 (.cond (.t 43)
 (.exit 1)
 .skip))
 (.keep [1, 5, 6, 24, 25, 26] [1, 6] b212k1))
def b212k3 : DCode :=
 (.region [⟨(some 81), (.bin .add), [.t 26, .c (.int .i64 1)], none, []⟩,
 ⟨(some 26), .mov, [.t 81], none, [0]⟩] false)
def b212k4 : DCode :=
 (.seq
 (.block 1
 (.seq
 (.region [⟨(some 28), .mov, [.t 26], none, []⟩,
 ⟨(some 29), (.iaddr 2), [.t 24, .t 26], none, []⟩,
 ⟨(some 30), (.load true 2), [.t 29], none, [1]⟩,
 ⟨(some 6), (.alloc [(.imm (.int .i64 0)), (.imm (.int .i64 0))]), [], none, []⟩,
 ⟨(some 5), .mov, [.t 28], none, [0, 0, 1, 2, 3]⟩,
 ⟨none, (.store 2), [.t 6, .t 30], none, [3, 2, 4, 0, 1, 2, 3, 4]⟩] false)
 (.seq
 (.seq
 (.region [⟨(some 31), (.faddr 0 false 1), [.t 6], none, []⟩,
 ⟨(some 32), (.load false 1), [.t 31], none, [0]⟩,
 ⟨(some 33), .call, [.f 270, .t 32, .c (.int .i64 0), .c (.int .i64 1000000)], none, [1]⟩,
 ⟨(some 34), (.un .not), [.t 33], none, [2]⟩,
 ⟨(some 35), .mov, [.t 34], none, [3, 2]⟩,
 ⟨(some 36), (.faddr 1 false 1), [.t 6], (some (35, false)), [4]⟩,
 ⟨(some 37), (.load false 1), [.t 36], (some (35, false)), [5, 4]⟩,
 ⟨(some 38), .call, [.f 270, .t 37, .c (.int .i64 0), .c (.int .i64 1000000000)], (some (35, false)), [6, 4, 4]⟩,
 ⟨(some 39), (.un .not), [.t 38], (some (35, false)), [7, 4]⟩,
 ⟨(some 40), .pick, [.t 35, .c (.bool true), .t 39], none, [4, 8]⟩] false)
 (.cond (.t 40)
 (.seq
 (.region [⟨(some 41), .mov, [.t 5], none, []⟩,
 ⟨(some 2), .mov, [.t 41], none, [0, 0]⟩,
 ⟨(some 3), .mov, [.c (.int .i64 2)], none, [1, 0, 1]⟩] false)
 .ret)
 .skip))
 (.keep [1, 5, 6, 24, 25, 26] [1, 6] b212k2))))
 (.keep [1, 24, 25, 26] [1] b212k3))
def b212l0 : DCode := .keep [1, 24, 25, 26] [1]
 (.seq
 (.region [⟨(some 27), (.bin .lss), [.t 26, .t 25], none, []⟩] false)
 (.seq
 (.cond (.t 27)
 .skip
 (.exit 0))
 (.keep [1, 24, 25, 26] [1] b212k4)))
def b212k5 : DCode :=
 (.seq
 (.region [⟨(some 2), .mov, [.c (.int .i64 0)], none, []⟩,
 ⟨(some 3), .mov, [.c (.int .i64 0)], none, [0, 0]⟩] false)
 .ret)
def b212k6 : DCode :=
 (.seq
 (.seq
 (.region [⟨(some 23), (.faddr 0 false 1), [.t 1], none, []⟩,
 ⟨(some 24), (.load false 1), [.t 23], none, [0]⟩,
 ⟨(some 25), .len, [.t 24], none, [1]⟩,
 ⟨(some 26), .mov, [.c (.int .i64 0)], none, []⟩] false)
 (.block 0
 (.loop b212l0)))
 (.keep [] [] b212k5))
def b212 : DCode :=
 (.seq
 (.region [⟨(some 1), .box, [.t 0], none, []⟩,
 ⟨(some 2), .mov, [.c (.int .i64 0)], none, []⟩,
 ⟨(some 3), .mov, [.c (.int .i64 0)], none, [1]⟩] false)
 (.seq
 (.seq
 (.region [⟨(some 8), (.faddr 0 false 1), [.t 1], none, []⟩,
 ⟨(some 9), (.load false 1), [.t 8], none, [0]⟩,
 ⟨(some 10), .len, [.t 9], none, [1]⟩,
 ⟨(some 11), (.bin .gtr), [.t 10, .c (.int .i64 1)], none, [2]⟩,
 ⟨(some 12), .call, [.f 208, .t 11, .c (.int .i64 10)], none, [3]⟩,
 ⟨(some 13), (.faddr 0 false 1), [.t 1], none, []⟩,
 ⟨(some 14), (.load false 1), [.t 13], none, [5]⟩,
 ⟨(some 15), .len, [.t 14], none, [6]⟩,
 ⟨(some 16), (.bin .leq), [.t 15, .c (.int .i64 10)], none, [7]⟩,
 ⟨(some 17), .call, [.f 208, .t 16, .c (.int .i64 8)], none, [8, 4]⟩,
 ⟨(some 18), (.bsl 1), [.t 12, .t 17], none, [4, 9]⟩,
 ⟨(some 19), .call, [.f 124, .t 18], none, [10, 9]⟩,
 ⟨(some 4), .mov, [.t 19], none, [11, 11, 0, 1, 2, 3, 4, 5, 6, 7, 8, 9, 10, 11]⟩] true)
 (.seq
 (.region [⟨(some 20), .mov, [.t 4], none, []⟩,
 ⟨(some 21), (.bin .neq), [.t 20, .c (.int .i64 0)], none, [0]⟩] false)
 (.cond (.t 21)
 (.seq
 (.region [⟨(some 22), .mov, [.t 4], none, []⟩,
 ⟨(some 2), .mov, [.c (.int .i64 0)], none, []⟩,
 ⟨(some 3), .mov, [.t 22], none, [0, 1, 0, 1]⟩] false)
 .ret)
 .skip)))
 (.keep [1] [1] b212k6)))
def d212 : DFn := ⟨1, 82, [.tmp 2, .tmp 3], b212⟩
theorem body212 : d212.body = b212 := rfl
theorem res212 : d212.res = [.tmp 2, .tmp 3] := rfl
theorem k212 : chkFn Tryz.prog Tryz.f212 d212 = true := by kernel_rfl

/-- guidevane/lake.openState -/
def b123k0 : DCode :=
 (.seq
 (.region [⟨(some 18), (.load true 3), [.t 6], none, []⟩,
 ⟨(some 19), .mov, [.t 7], none, []⟩,
 ⟨none, (.store 3), [.t 4, .t 18], none, [0, 0]⟩,
 ⟨(some 5), .mov, [.t 19], none, [1, 2, 0, 1, 2]⟩] false)
 .ret)
def b123 : DCode :=
 (.seq
 (.region [⟨(some 2), .box, [.t 0], none, []⟩,
 ⟨(some 3), .box, [.t 1], none, []⟩,
 ⟨(some 4), (.alloc [(.imm (.slc 2 [])), (.imm (.slc 2 [])), (.imm (.int .i64 0))]), [], none, []⟩,
 ⟨(some 5), .mov, [.c (.int .i64 0)], none, []⟩] false)
 (.seq
 (.region [⟨(some 9), (.load true 3), [.t 2], none, []⟩,
 ⟨(some 10), .call, [.f 215, .t 9], none, [0]⟩,
 ⟨(some 8), .mov, [.t 10], none, [1]⟩,
 ⟨(some 11), (.ext 0), [.t 8], none, [2]⟩,
 ⟨(some 12), (.ext 1), [.t 8], none, [2]⟩,
 ⟨(some 6), (.alloc [(.imm (.slc 2 [])), (.imm (.slc 2 [])), (.imm (.int .i64 0))]), [], none, []⟩,
 ⟨none, (.store 3), [.t 6, .t 11], none, [5, 3, 1, 0, 1, 2, 3, 5]⟩,
 ⟨(some 7), .mov, [.t 12], none, [4, 6, 0, 1, 2, 3, 4, 5, 6]⟩] false)
 (.seq
 (.seq
 (.region [⟨(some 13), .mov, [.t 7], none, []⟩,
 ⟨(some 14), (.bin .eql), [.t 13, .c (.int .i64 0)], none, [0]⟩] false)
 (.cond (.t 14)
 (.region [⟨(some 15), (.load true 3), [.t 6], none, []⟩,
 ⟨(some 16), (.load true 2), [.t 3], none, []⟩,
 ⟨(some 17), .call, [.f 216, .t 15, .t 16], none, [0, 1]⟩,
 ⟨(some 7), .mov, [.t 17], none, [2, 2, 0, 1, 2]⟩] false)
 .skip))
 (.keep [4, 6, 7] [4, 6] b123k0))))
def d123 : DFn := ⟨2, 20, [.cell 4 true 3, .tmp 5], b123⟩
theorem body123 : d123.body = b123 := rfl
theorem res123 : d123.res = [.cell 4 true 3, .tmp 5] := rfl
theorem k123 : chkFn Tryz.prog Tryz.f123 d123 = true := by kernel_rfl

/-- (guidevane/lake.table).bottom -/
def b209 : DCode :=
 (.seq
 (.region [⟨(some 1), .box, [.t 0], none, []⟩,
 ⟨(some 2), (.alloc [(.imm (.int .i64 0)), (.imm (.int .i64 0))]), [], none, []⟩] false)
 (.seq
 (.region [⟨(some 3), (.faddr 0 true 1), [.t 1], none, []⟩,
 ⟨(some 4), (.faddr 0 false 1), [.t 3], none, [0]⟩,
 ⟨(some 5), (.load false 1), [.t 4], none, [1]⟩,
 ⟨(some 6), (.iaddr 2), [.t 5, .c (.int .i64 0)], none, [2]⟩,
 ⟨(some 7), (.load true 2), [.t 6], none, [3]⟩,
 ⟨none, (.store 2), [.t 2, .t 7], none, [4, 0, 1, 2, 3, 4]⟩] false)
 .ret))
def d209 : DFn := ⟨1, 8, [.cell 2 true 2], b209⟩
theorem body209 : d209.body = b209 := rfl
theorem res209 : d209.res = [.cell 2 true 2] := rfl
theorem k209 : chkFn Tryz.prog Tryz.f209 d209 = true := by kernel_rfl

/-- (guidevane/lake.table).top -/
def b210 : DCode :=
 (.seq
 (.region [⟨(some 1), .box, [.t 0], none, []⟩,
 ⟨(some 2), (.alloc [(.imm (.int .i64 0)), (.imm (.int .i64 0))]), [], none, []⟩] false)
 (.seq
 (.region [⟨(some 3), (.faddr 0 true 1), [.t 1], none, []⟩,
 ⟨(some 4), (.faddr 0 false 1), [.t 3], none, [0]⟩,
 ⟨(some 5), (.load false 1), [.t 4], none, [1]⟩,
 ⟨(some 6), (.faddr 0 true 1), [.t 1], none, []⟩,
 ⟨(some 7), (.faddr 0 false 1), [.t 6], none, [3]⟩,
 ⟨(some 8), (.load false 1), [.t 7], none, [4]⟩,
 ⟨(some 9), .len, [.t 8], none, [5]⟩,
 ⟨(some 10), (.bin .sub), [.t 9, .c (.int .i64 1)], none, [6]⟩,
 ⟨(some 11), (.iaddr 2), [.t 5, .t 10], none, [2, 7]⟩,
 ⟨(some 12), (.load true 2), [.t 11], none, [8]⟩,
 ⟨none, (.store 2), [.t 2, .t 12], none, [9, 0, 1, 2, 3, 4, 5, 6, 7, 8, 9]⟩] false)
 .ret))
def d210 : DFn := ⟨1, 13, [.cell 2 true 2], b210⟩
theorem body210 : d210.body = b210 := rfl
theorem res210 : d210.res = [.cell 2 true 2] := rfl
theorem k210 : chkFn Tryz.prog Tryz.f210 d210 = true := by kernel_rfl

/-- guidevane/lake.first -/
def b124k0 : DCode :=
 (.region [⟨(some 14), (.bin .add), [.t 7, .c (.int .i64 1)], none, []⟩,
 ⟨(some 7), .mov, [.t 14], none, [0]⟩] false)
def b124k1 : DCode :=
 (.seq
 (.block 1
 (.seq
 (.region [⟨(some 9), (.iaddr 1), [.t 5, .t 7], none, []⟩,
 ⟨(some 10), (.load false 1), [.t 9], none, [0]⟩,
 ⟨(some 4), .mov, [.t 10], none, [1, 0, 1]⟩] false)
 (.seq
 (.region [⟨(some 11), .mov, [.t 4], none, []⟩,
 ⟨(some 12), (.bin .neq), [.t 11, .c (.int .i64 0)], none, [0]⟩] false)
 (.cond (.t 12)
 (.seq
 (.region [⟨(some 13), .mov, [.t 4], none, []⟩,
 ⟨(some 2), .mov, [.t 13], none, [0, 0]⟩] false)
 .ret)
 .skip))))
 (.keep [5, 6, 7] [] b124k0))
def b124l0 : DCode := .keep [5, 6, 7] []
 (.seq
 (.region [⟨(some 8), (.bin .lss), [.t 7, .t 6], none, []⟩] false)
 (.seq
 (.cond (.t 8)
 .skip
 (.exit 0))
 (.keep [5, 6, 7] [] b124k1)))
def b124k2 : DCode :=
 (.seq
 (.region [⟨(some 2), .mov, [.c (.int .i64 0)], none, []⟩] false)
 .ret)
def b124 : DCode :=
 (.seq
 (.region [⟨(some 2), .mov, [.c (.int .i64 0)], none, []⟩] false)
 (.seq
 (.seq
 (.region [⟨(some 5), .movv, [.t 0], none, []⟩,
 ⟨(some 6), .len, [.t 5], none, [0]⟩,
 ⟨(some 7), .mov, [.c (.int .i64 0)], none, []⟩] false)
 (.block 0
 (.loop b124l0)))
 (.keep [] [] b124k2)))
def d124 : DFn := ⟨1, 15, [.tmp 2], b124⟩
theorem body124 : d124.body = b124 := rfl
theorem res124 : d124.res = [.tmp 2] := rfl
theorem k124 : chkFn Tryz.prog Tryz.f124 d124 = true := by kernel_rfl

/-- guidevane/lake.flowsErr -/
def b207 : DCode :=
 (.seq
 (.region [⟨(some 1), .box, [.t 0], none, []⟩,
 ⟨(some 2), .mov, [.c (.int .i64 0)], none, []⟩] false)
 (.seq
 (.region [⟨(some 3), .mov, [.f 269], none, []⟩] false)
 (.seq
 (.region [⟨(some 4), .mov, [.t 3], none, []⟩,
 ⟨(some 5), (.faddr 0 false 1), [.t 1], none, []⟩,
 ⟨(some 6), (.load false 1), [.t 5], none, [1]⟩,
 ⟨(some 7), .call, [.t 4, .t 6], none, [0, 2]⟩,
 ⟨(some 8), .mov, [.t 7], none, [3, 3]⟩,
 ⟨(some 9), .mov, [.t 3], (some (8, true)), [4]⟩,
 ⟨(some 10), (.faddr 1 false 1), [.t 1], (some (8, true)), [4]⟩,
 ⟨(some 11), (.load false 1), [.t 10], (some (8, true)), [6, 4]⟩,
 ⟨(some 12), .call, [.t 9, .t 11], (some (8, true)), [5, 7, 4, 4]⟩,
 ⟨(some 13), .pick, [.t 8, .t 12, .c (.bool false)], none, [4, 8]⟩,
 ⟨(some 14), .mov, [.t 13], none, [9, 8]⟩,
 ⟨(some 15), (.faddr 2 false 1), [.t 1], (some (14, true)), [10]⟩,
 ⟨(some 16), (.load false 1), [.t 15], (some (14, true)), [11, 10]⟩,
 ⟨(some 17), .call, [.f 270, .t 16, .c (.int .i64 (-10000000)), .c (.int .i64 10000000)], (some (14, true)), [12, 10, 10]⟩,
 ⟨(some 18), .pick, [.t 14, .t 17, .c (.bool false)], none, [10, 13]⟩,
 ⟨(some 19), .call, [.f 208, .t 18, .c (.int .i64 2)], none, [14, 13]⟩,
 ⟨(some 2), .mov, [.t 19], none, [15, 15, 0, 1, 2, 3, 4, 5, 6, 7, 8, 9, 10, 11, 12, 13, 14, 15]⟩] false)
 .ret)))
def d207 : DFn := ⟨1, 20, [.tmp 2], b207⟩
theorem body207 : d207.body = b207 := rfl
theorem res207 : d207.res = [.tmp 2] := rfl
theorem k207 : chkFn Tryz.prog Tryz.f207 d207 = true := by kernel_rfl

/-- (guidevane/lake.pair).step -/
def b125k0 : DCode :=
 (.seq
 (.region [⟨(some 69), .mov, [.t 12], none, []⟩,
 ⟨(some 70), (.iarr 2 1 false), [.t 9, .t 69], none, [0]⟩,
 ⟨(some 71), (.load false 1), [.t 70], none, [1]⟩,
 ⟨(some 72), (.load true 1), [.t 13], none, []⟩,
 ⟨(some 73), .call, [.f 210, .t 72], none, [3]⟩,
 ⟨(some 74), (.field 1 false 1), [.t 73], none, [4]⟩,
 ⟨(some 75), (.bin .sub), [.t 71, .t 74], none, [2, 5]⟩,
 ⟨(some 76), (.mm true), [.c (.int .i64 0), .t 75], none, [6]⟩,
 ⟨(some 15), .mov, [.t 76], none, [7, 4, 0, 1, 2, 3, 4, 5, 6, 7]⟩] true)
 (.seq
 (.region [⟨(some 77), (.faddr 1 false 1), [.t 11], none, []⟩,
 ⟨(some 78), (.load false 1), [.t 77], none, [0]⟩,
 ⟨(some 79), .mov, [.t 15], none, []⟩,
 ⟨(some 80), (.bin .add), [.t 78, .t 79], none, [1, 2]⟩,
 ⟨(some 81), (.faddr 1 false 1), [.t 11], none, [0, 1, 2, 3]⟩,
 ⟨none, (.store 1), [.t 81, .t 80], none, [4, 3, 0, 1, 2, 3]⟩] false)
 (.region [⟨(some 82), .mov, [.t 12], none, []⟩,
 ⟨(some 83), (.iarr 2 1 false), [.t 9, .t 82], none, [0]⟩,
 ⟨(some 84), (.load false 1), [.t 83], none, [1]⟩,
 ⟨(some 85), .mov, [.t 15], none, []⟩,
 ⟨(some 86), (.bin .sub), [.t 84, .t 85], none, [2, 3]⟩,
 ⟨(some 87), (.iarr 2 1 false), [.t 9, .t 82], none, [0, 0, 1, 2, 3, 4]⟩,
 ⟨none, (.store 1), [.t 87, .t 86], none, [5, 4, 0, 1, 2, 3, 4]⟩] false)))
def b125k1 : DCode :=
 (.region [⟨(some 88), (.bin .add), [.t 34, .c (.int .i64 1)], none, []⟩,
 ⟨(some 34), .mov, [.t 88], none, [0]⟩] false)
def b125k2 : DCode :=
 (.seq
 (.block 1
 (.seq
 (.region [⟨(some 36), .mov, [.t 34], none, []⟩,
 ⟨(some 37), (.index 2 1 true), [.t 33, .t 34], none, []⟩,
 ⟨(some 13), (.alloc [(.imm (.slc 2 []))]), [], none, []⟩,
 ⟨(some 12), .mov, [.t 36], none, [0, 0, 1, 2]⟩,
 ⟨none, (.store 1), [.t 13, .t 37], none, [2, 1, 3, 0, 1, 2, 3]⟩] false)
 (.seq
 (.region [⟨(some 38), (.load true 1), [.t 13], none, []⟩,
 ⟨(some 39), .mov, [.t 12], none, []⟩,
 ⟨(some 40), (.iarr 2 1 false), [.t 9, .t 39], none, [1]⟩,
 ⟨(some 41), (.load false 1), [.t 40], none, [2]⟩,
 ⟨(some 42), (.faddr 2 false 1), [.t 3], none, []⟩,
 ⟨(some 43), (.load false 1), [.t 42], none, [4]⟩,
 ⟨(some 44), .call, [.f 217, .t 38, .t 41, .t 43], none, [0, 3, 5]⟩,
 ⟨(some 14), .mov, [.t 44], none, [6, 6, 0, 1, 2, 3, 4, 5, 6]⟩] true)
 (.seq
 (.region [⟨(some 45), (.faddr 0 false 1), [.t 11], none, []⟩,
 ⟨(some 46), (.load false 1), [.t 45], none, [0]⟩,
 ⟨(some 47), .mov, [.t 14], none, []⟩,
 ⟨(some 48), (.bin .add), [.t 46, .t 47], none, [1, 2]⟩,
 ⟨(some 49), (.faddr 0 false 1), [.t 11], none, [0, 1, 2, 3]⟩,
 ⟨none, (.store 1), [.t 49, .t 48], none, [4, 3, 0, 1, 2, 3]⟩] false)
 (.seq
 (.region [⟨(some 50), .mov, [.t 12], none, []⟩,
 ⟨(some 51), (.iarr 2 1 false), [.t 9, .t 50], none, [0]⟩,
 ⟨(some 52), (.load false 1), [.t 51], none, [1]⟩,
 ⟨(some 53), .mov, [.t 12], none, []⟩,
 ⟨(some 54), (.iarr 2 1 false), [.t 10, .t 53], none, [3]⟩,
 ⟨(some 55), (.load false 1), [.t 54], none, [4]⟩,
 ⟨(some 56), .mov, [.t 14], none, []⟩,
 ⟨(some 57), (.bin .sub), [.t 55, .t 56], none, [5, 6]⟩,
 ⟨(some 58), (.bin .add), [.t 52, .t 57], none, [2, 7]⟩,
 ⟨(some 59), (.iarr 2 1 false), [.t 9, .t 50], none, [0, 0, 1, 2, 3, 4, 5, 6, 7, 8]⟩,
 ⟨none, (.store 1), [.t 59, .t 58], none, [9, 8, 0, 1, 2, 3, 4, 5, 6, 7, 8]⟩] true)
 (.seq
 (.seq
 (.region [⟨(some 60), .mov, [.t 12], none, []⟩,
 ⟨(some 61), (.iarr 2 1 false), [.t 9, .t 60], none, [0]⟩,
 ⟨(some 62), (.load false 1), [.t 61], none, [1]⟩,
 ⟨(some 63), (.load true 1), [.t 13], none, []⟩,
 ⟨(some 64), .call, [.f 209, .t 63], none, [3]⟩,
 ⟨(some 65), (.field 1 false 1), [.t 64], none, [4]⟩,
 ⟨(some 66), (.bin .lss), [.t 62, .t 65], none, [2, 5]⟩] true)
 (.cond (.t 66)
 (.seq
 (.region [⟨(some 67), (.build [(.imm (.int .i64 0)), (.imm (.int .i64 0))] []), [], none, []⟩,
 ⟨(some 68), (.build [(.imm (.int .i64 0)), (.imm (.int .i64 0))] []), [], none, []⟩,
 ⟨none, (.store 2), [.t 6, .t 67], none, [0, 0]⟩,
 ⟨none, (.store 2), [.t 7, .t 68], none, [1, 2, 0, 1, 2]⟩,
 ⟨(some 8), .mov, [.c (.bool false)], none, [3, 0, 1, 2, 3]⟩] false)
 .ret)
 .skip))
 (.keep [3, 6, 7, 9, 10, 11, 12, 13, 33, 34] [3, 6, 7, 9, 10, 11, 13] b125k0)))))))
 (.keep [3, 6, 7, 9, 10, 11, 33, 34] [3, 6, 7, 9, 10, 11] b125k1))
def b125l0 : DCode := .keep [3, 6, 7, 9, 10, 11, 33, 34] [3, 6, 7, 9, 10, 11]
 (.seq
 (.region [⟨(some 35), (.bin .lss), [.t 34, .c (.int .i64 2)], none, []⟩] false)
 (.seq
 (.cond (.t 35)
 .skip
 (.exit 0))
 (.keep [3, 6, 7, 9, 10, 11, 33, 34] [3, 6, 7, 9, 10, 11] b125k2)))
def b125k3 : DCode :=
 (.seq
 (.region [⟨(some 89), (.iarr 2 1 false), [.t 9, .c (.int .i64 0)], none, []⟩,
 ⟨(some 90), (.loadf false 1 [9]), [.t 89], none, [0]⟩,
 ⟨(some 91), (.iarr 2 1 false), [.t 9, .c (.int .i64 1)], none, []⟩,
 ⟨(some 92), (.loadf false 1 [9]), [.t 91], none, [2]⟩,
 ⟨(some 93), (.build [(.imm (.int .i64 0)), (.imm (.int .i64 0))] [(0, 1), (1, 1)]), [.t 90, .t 92], none, [1, 3]⟩,
 ⟨(some 94), (.loadf true 2 [11]), [.t 11], none, []⟩,
 ⟨none, (.storef 2 [6]), [.t 6, .t 93], none, [4, 0, 1, 2, 3, 4]⟩,
 ⟨none, (.storef 2 [7]), [.t 7, .t 94], none, [5, 6, 0, 1, 2, 3, 4, 5, 6]⟩,
 ⟨(some 8), .mov, [.c (.bool true)], none, [7, 0, 1, 2, 3, 4, 5, 6, 7]⟩] true)
 .ret)
def b125 : DCode :=
 (.seq
 (.region [⟨(some 3), .box, [.t 0], none, []⟩,
 ⟨(some 4), .box, [.t 1], none, []⟩,
 ⟨(some 5), .box, [.t 2], none, []⟩,
 ⟨(some 6), (.alloc [(.imm (.int .i64 0)), (.imm (.int .i64 0))]), [], none, []⟩,
 ⟨(some 7), (.alloc [(.imm (.int .i64 0)), (.imm (.int .i64 0))]), [], none, []⟩,
 ⟨(some 8), .mov, [.c (.bool false)], none, []⟩] false)
 (.seq
 (.region [⟨(some 16), (.faddr 0 false 1), [.t 4], none, []⟩,
 ⟨(some 17), (.load false 1), [.t 16], none, [0]⟩,
 ⟨(some 18), (.faddr 1 false 1), [.t 4], none, []⟩,
 ⟨(some 19), (.load false 1), [.t 18], none, [2]⟩,
 ⟨(some 20), (.build [(.imm (.int .i64 0)), (.imm (.int .i64 0))] [(0, 1), (1, 1)]), [.t 17, .t 19], none, [1, 3]⟩,
 ⟨(some 9), (.alloc [(.imm (.int .i64 0)), (.imm (.int .i64 0))]), [], none, []⟩,
 ⟨none, (.store 2), [.t 9, .t 20], none, [5, 4, 0, 1, 2, 3, 4, 5]⟩] false)
 (.seq
 (.region [⟨(some 21), (.faddr 0 false 1), [.t 5], none, []⟩,
 ⟨(some 22), (.load false 1), [.t 21], none, [0]⟩,
 ⟨(some 23), (.faddr 2 false 1), [.t 5], none, []⟩,
 ⟨(some 24), (.load false 1), [.t 23], none, [2]⟩,
 ⟨(some 25), (.bin .add), [.t 22, .t 24], none, [1, 3]⟩,
 ⟨(some 26), (.faddr 1 false 1), [.t 5], none, []⟩,
 ⟨(some 27), (.load false 1), [.t 26], none, [5]⟩,
 ⟨(some 28), (.faddr 2 false 1), [.t 5], none, []⟩,
 ⟨(some 29), (.load false 1), [.t 28], none, [7]⟩,
 ⟨(some 30), (.bin .sub), [.t 27, .t 29], none, [6, 8]⟩,
 ⟨(some 31), (.build [(.imm (.int .i64 0)), (.imm (.int .i64 0))] [(0, 1), (1, 1)]), [.t 25, .t 30], none, [4, 9]⟩,
 ⟨(some 10), (.alloc [(.imm (.int .i64 0)), (.imm (.int .i64 0))]), [], none, []⟩,
 ⟨none, (.store 2), [.t 10, .t 31], none, [11, 10, 0, 1, 2, 3, 4, 5, 6, 7, 8, 9, 10, 11]⟩] false)
 (.seq
 (.region [⟨(some 11), (.alloc [(.imm (.int .i64 0)), (.imm (.int .i64 0))]), [], none, []⟩] false)
 (.seq
 (.seq
 (.region [⟨(some 32), (.faddr 0 true 2), [.t 3], none, []⟩,
 ⟨(some 33), (.load true 2), [.t 32], none, [0]⟩,
 ⟨(some 34), .mov, [.c (.int .i64 0)], none, []⟩] false)
 (.block 0
 (.loop b125l0)))
 (.keep [6, 7, 9, 11] [6, 7, 9, 11] b125k3))))))
def d125 : DFn := ⟨3, 95, [.cell 6 true 2, .cell 7 true 2, .tmp 8], b125⟩
theorem body125 : d125.body = b125 := rfl
theorem res125 : d125.res = [.cell 6 true 2, .cell 7 true 2, .tmp 8] := rfl
theorem k125 : chkFn Tryz.prog Tryz.f125 d125 = true := by kernel_rfl

/-- guidevane/lake.unless -/
def b208k0 : DCode :=
 (.seq
 (.region [⟨(some 6), .mov, [.t 1], none, []⟩,
 ⟨(some 4), .mov, [.t 6], none, [0, 0]⟩] false)
 .ret)
def b208 : DCode :=
 (.seq
 (.region [⟨(some 4), .mov, [.c (.int .i64 0)], none, []⟩] false)
 (.seq
 (.seq
 (.region [⟨(some 5), .mov, [.t 0], none, []⟩] false)
 (.cond (.t 5)
 (.seq
 (.region [⟨(some 4), .mov, [.c (.int .i64 0)], none, []⟩] false)
 .ret)
 .skip))
 (.keep [1] [] b208k0)))
def d208 : DFn := ⟨2, 7, [.tmp 4], b208⟩
theorem body208 : d208.body = b208 := rfl
theorem res208 : d208.res = [.tmp 4] := rfl
theorem k208 : chkFn Tryz.prog Tryz.f208 d208 = true := by kernel_rfl

/-- guidevane/lake.tableErr -/
def b118 : DCode :=
 (.seq
 (.region [⟨(some 1), .box, [.t 0], none, []⟩,
 ⟨(some 2), .mov, [.c (.int .i64 0)], none, []⟩] false)
 (.seq
 (.region [⟨(some 6), (.load true 1), [.t 1], none, []⟩,
 ⟨(some 7), .call, [.f 212, .t 6], none, [0]⟩,
 ⟨(some 5), .mov, [.t 7], none, [1]⟩,
 ⟨(some 8), (.ext 0), [.t 5], none, [2]⟩,
 ⟨(some 9), (.ext 1), [.t 5], none, [2]⟩,
 ⟨(some 3), .mov, [.t 8], none, [3, 1, 0, 1, 2, 3]⟩,
 ⟨(some 4), .mov, [.t 9], none, [4, 5, 0, 1, 2, 3, 4, 5]⟩] false)
 (.seq
 (.region [⟨(some 10), .mov, [.t 4], none, []⟩,
 ⟨(some 2), .mov, [.t 10], none, [0, 0]⟩] false)
 .ret)))
def d118 : DFn := ⟨1, 11, [.tmp 2], b118⟩
theorem body118 : d118.body = b118 := rfl
theorem res118 : d118.res = [.tmp 2] := rfl
theorem k118 : chkFn Tryz.prog Tryz.f118 d118 = true := by kernel_rfl

/-- guidevane/lake.within -/
def b270 : DCode :=
 (.seq
 (.region [⟨(some 6), .mov, [.c (.bool false)], none, []⟩] false)
 (.seq
 (.region [⟨(some 7), .mov, [.t 1], none, []⟩,
 ⟨(some 8), .mov, [.t 0], none, []⟩,
 ⟨(some 9), (.bin .leq), [.t 7, .t 8], none, [0, 1]⟩,
 ⟨(some 10), .mov, [.t 9], none, [2]⟩,
 ⟨(some 11), .mov, [.t 0], (some (10, true)), [3]⟩,
 ⟨(some 12), .mov, [.t 2], (some (10, true)), [3]⟩,
 ⟨(some 13), (.bin .leq), [.t 11, .t 12], (some (10, true)), [4, 5, 3]⟩,
 ⟨(some 14), .pick, [.t 10, .t 13, .c (.bool false)], none, [3, 6]⟩,
 ⟨(some 6), .mov, [.t 14], none, [7, 3, 0, 1, 2, 3, 4, 5, 6, 7]⟩] false)
 .ret))
def d270 : DFn := ⟨3, 15, [.tmp 6], b270⟩
theorem body270 : d270.body = b270 := rfl
theorem res270 : d270.res = [.tmp 6] := rfl
theorem k270 : chkFn Tryz.prog Tryz.f270 d270 = true := by kernel_rfl

/-- guidevane/lake.permitted -/
def b131k0 : DCode :=
 (.seq
 (.block 3
 (.seq
 (.region [⟨(some 48), (.iaddr 1), [.t 44, .t 46], none, []⟩,
 ⟨(some 49), (.load false 1), [.t 48], none, [0]⟩,
 ⟨(some 16), .mov, [.t 49], none, [1, 0, 1]⟩] false)
 (.region [⟨(some 50), .mov, [.t 14], none, []⟩,
 ⟨(some 51), .mov, [.t 16], none, []⟩,
 ⟨(some 52), (.bin .add), [.t 50, .t 51], none, [0, 1]⟩,
 ⟨(some 14), .mov, [.t 52], none, [2, 0, 1, 2]⟩] false)))
 (.region [⟨(some 53), (.bin .add), [.t 46, .c (.int .i64 1)], none, []⟩,
 ⟨(some 46), .mov, [.t 53], none, [0]⟩] false))
def b131l0 : DCode := .keep [1, 9, 11, 13, 14, 35, 36, 37, 44, 45, 46] [9, 11, 13, 73]
 (.seq
 (.region [⟨(some 47), (.bin .lss), [.t 46, .t 45], none, []⟩] false)
 (.seq
 (.cond (.t 47)
 .skip
 (.exit 2))
 (.keep [1, 9, 11, 13, 14, 35, 36, 37, 44, 45, 46] [9, 11, 13, 73] b131k0)))
def b131k1 : DCode :=
 (.region [⟨(some 54), .mov, [.t 11], none, []⟩,
 ⟨(some 55), (.load true 1), [.t 9], none, []⟩,
 ⟨(some 56), (.faddr 1 true 2), [.t 13], none, []⟩,
 ⟨(some 57), (.faddr 0 false 1), [.t 56], none, [2]⟩,
 ⟨(some 58), (.load false 1), [.t 57], none, [3]⟩,
 ⟨(some 59), .call, [.f 224, .t 55, .t 58], none, [1, 4]⟩,
 ⟨(some 60), (.field 1 false 1), [.t 59], none, [5]⟩,
 ⟨(some 61), .mov, [.t 14], none, []⟩,
 ⟨(some 62), (.bin .sub), [.t 60, .t 61], none, [6, 7]⟩,
 ⟨(some 63), (.load true 1), [.t 9], none, []⟩,
 ⟨(some 64), (.faddr 1 true 2), [.t 13], none, []⟩,
 ⟨(some 65), (.faddr 1 false 1), [.t 64], none, [10]⟩,
 ⟨(some 66), (.load false 1), [.t 65], none, [11]⟩,
 ⟨(some 67), .call, [.f 224, .t 63, .t 66], none, [9, 12, 5]⟩,
 ⟨(some 68), (.field 0 false 1), [.t 67], none, [13]⟩,
 ⟨(some 69), .mov, [.t 14], none, []⟩,
 ⟨(some 70), (.bin .sub), [.t 68, .t 69], none, [14, 15]⟩,
 ⟨(some 71), (.build [(.imm (.int .i64 0)), (.imm (.int .i64 0))] [(0, 1), (1, 1)]), [.t 62, .t 70], none, [8, 16]⟩,
 ⟨(some 72), (.bsl 2), [.t 71], none, [17]⟩,
 ⟨(some 73), (.append 2 16 false), [.t 54, .t 72], none, [0, 18, 13]⟩,
 ⟨(some 11), .mov, [.t 73], none, [19, 19, 0, 1, 2, 3, 4, 5, 6, 7, 8, 9, 10, 11, 12, 13, 14, 15, 16, 17, 18, 19]⟩] true)
def b131k2 : DCode :=
 (.region [⟨(some 74), (.bin .add), [.t 37, .c (.int .i64 1)], none, []⟩,
 ⟨(some 37), .mov, [.t 74], none, [0]⟩] false)
def b131k3 : DCode :=
 (.seq
 (.block 1
 (.seq
 (.region [⟨(some 39), (.iaddr 3), [.t 35, .t 37], none, []⟩,
 ⟨(some 40), (.load true 3), [.t 39], none, [0]⟩,
 ⟨(some 13), (.alloc [(.imm (.int .i64 0)), (.imm (.int .i64 0)), (.imm (.int .i64 0))]), [], none, []⟩,
 ⟨none, (.store 3), [.t 13, .t 40], none, [2, 1, 0, 1, 2]⟩] false)
 (.seq
 (.region [⟨(some 14), .mov, [.c (.int .i64 0)], none, []⟩] false)
 (.seq
 (.seq
 (.region [⟨(some 41), .movv, [.t 1], none, []⟩,
 ⟨(some 42), (.faddr 0 false 1), [.t 13], none, []⟩,
 ⟨(some 43), (.load false 1), [.t 42], none, [1]⟩,
 ⟨(some 44), (.slice 1 false true), [.t 41, .t 43], none, [0, 2]⟩,
 ⟨(some 45), .len, [.t 44], none, [3]⟩,
 ⟨(some 46), .mov, [.c (.int .i64 0)], none, []⟩] false)
 (.block 2
 (.loop b131l0)))
 (.keep [1, 9, 11, 13, 14, 35, 36, 37] [9, 11, 13, 73] b131k1)))))
 (.keep [1, 9, 11, 35, 36, 37] [9, 11, 73] b131k2))
def b131l1 : DCode := .keep [1, 9, 11, 35, 36, 37] [9, 11, 73]
 (.seq
 (.region [⟨(some 38), (.bin .lss), [.t 37, .t 36], none, []⟩] false)
 (.seq
 (.cond (.t 38)
 .skip
 (.exit 0))
 (.keep [1, 9, 11, 35, 36, 37] [9, 11, 73] b131k3)))
def b131k4 : DCode :=
 (.seq
 (.region [⟨(some 75), .movv, [.t 11], none, []⟩,
 ⟨(some 6), .movv, [.t 75], none, [0, 0]⟩,
 ⟨(some 7), .mov, [.c (.int .i64 0)], none, [1, 0, 1]⟩] false)
 .ret)
def b131k5 : DCode :=
 (.seq
 (.region [⟨(some 11), (.ntok 2), [.c (.slc 2 [])], none, []⟩] false)
 (.seq
 (.seq
 (.region [⟨(some 35), .movv, [.t 2], none, []⟩,
 ⟨(some 36), .len, [.t 35], none, [0]⟩,
 ⟨(some 37), .mov, [.c (.int .i64 0)], none, []⟩] false)
 (.block 0
 (.loop b131l1)))
 (.keep [11] [11, 73] b131k4)))
def b131k6 : DCode :=
 (.seq
 (.region [⟨(some 26), (.load true 1), [.t 3], none, []⟩,
 ⟨(some 27), (.build [(.imm (.slc 2 []))] [(0, 1)]), [.t 26], none, [0]⟩,
 ⟨(some 9), (.alloc [(.imm (.slc 2 []))]), [], none, []⟩,
 ⟨none, (.store 1), [.t 9, .t 27], none, [2, 1, 0, 1, 2]⟩] false)
 (.seq
 (.seq
 (.region [⟨(some 28), (.load true 1), [.t 9], none, []⟩,
 ⟨(some 29), .movv, [.t 1], none, []⟩,
 ⟨(some 30), .movv, [.t 2], none, []⟩,
 ⟨(some 31), .call, [.f 223, .t 28, .t 29, .t 30], none, [0, 1, 2]⟩,
 ⟨(some 10), .mov, [.t 31], none, [3, 3, 0, 1, 2, 3]⟩] false)
 (.seq
 (.region [⟨(some 32), .mov, [.t 10], none, []⟩,
 ⟨(some 33), (.bin .neq), [.t 32, .c (.int .i64 0)], none, [0]⟩] false)
 (.cond (.t 33)
 (.seq
 (.region [⟨(some 34), .mov, [.t 10], none, []⟩,
 ⟨(some 6), .mov, [.c (.slc 2 [])], none, []⟩,
 ⟨(some 7), .mov, [.t 34], none, [0, 1, 0, 1]⟩] false)
 .ret)
 .skip)))
 (.keep [1, 2, 9] [9] b131k5)))
def b131 : DCode :=
 (.seq
 (.region [⟨(some 3), .box, [.t 0], none, []⟩,
 ⟨(some 6), .mov, [.c (.slc 2 [])], none, []⟩,
 ⟨(some 7), .mov, [.c (.int .i64 0)], none, [1]⟩] false)
 (.seq
 (.seq
 (.region [⟨(some 17), (.load true 1), [.t 3], none, []⟩,
 ⟨(some 18), .call, [.f 118, .t 17], none, [0]⟩,
 ⟨(some 19), .movv, [.t 1], none, []⟩,
 ⟨(some 20), .call, [.f 222, .t 19], none, [2, 1]⟩,
 ⟨(some 21), (.bsl 1), [.t 18, .t 20], none, [1, 3]⟩,
 ⟨(some 22), .call, [.f 124, .t 21], none, [4, 3]⟩,
 ⟨(some 8), .mov, [.t 22], none, [5, 5, 0, 1, 2, 3, 4, 5]⟩] false)
 (.seq
 (.region [⟨(some 23), .mov, [.t 8], none, []⟩,
 ⟨(some 24), (.bin .neq), [.t 23, .c (.int .i64 0)], none, [0]⟩] false)
 (.cond (.t 24)
 (.seq
 (.region [⟨(some 25), .mov, [.t 8], none, []⟩,
 ⟨(some 6), .mov, [.c (.slc 2 [])], none, []⟩,
 ⟨(some 7), .mov, [.t 25], none, [0, 1, 0, 1]⟩] false)
 .ret)
 .skip)))
 (.keep [1, 2, 3] [3] b131k6)))
def d131 : DFn := ⟨3, 76, [.tmp 6, .tmp 7], b131⟩
theorem body131 : d131.body = b131 := rfl
theorem res131 : d131.res = [.tmp 6, .tmp 7] := rfl
theorem k131 : chkFn Tryz.prog Tryz.f131 d131 = true := by kernel_rfl

/-- guidevane/lake.common -/
def b132k0 : DCode :=
 (.seq
 (.block 1
 (.seq
 (.region [⟨(some 15), (.iaddr 2), [.t 11, .t 13], none, []⟩,
 ⟨(some 16), (.load true 2), [.t 15], none, [0]⟩,
 ⟨(some 6), (.alloc [(.imm (.int .i64 0)), (.imm (.int .i64 0))]), [], none, []⟩,
 ⟨none, (.store 2), [.t 6, .t 16], none, [2, 1, 0, 1, 2]⟩] false)
 (.region [⟨(some 17), (.faddr 0 false 1), [.t 4], none, []⟩,
 ⟨(some 18), (.load false 1), [.t 17], none, [0]⟩,
 ⟨(some 19), (.faddr 0 false 1), [.t 6], none, []⟩,
 ⟨(some 20), (.load false 1), [.t 19], none, [2]⟩,
 ⟨(some 21), (.mm true), [.t 18, .t 20], none, [1, 3]⟩,
 ⟨(some 22), (.faddr 1 false 1), [.t 4], none, []⟩,
 ⟨(some 23), (.load false 1), [.t 22], none, [5]⟩,
 ⟨(some 24), (.faddr 1 false 1), [.t 6], none, []⟩,
 ⟨(some 25), (.load false 1), [.t 24], none, [7]⟩,
 ⟨(some 26), (.mm false), [.t 23, .t 25], none, [6, 8]⟩,
 ⟨(some 27), (.build [(.imm (.int .i64 0)), (.imm (.int .i64 0))] [(0, 1), (1, 1)]), [.t 21, .t 26], none, [4, 9]⟩,
 ⟨none, (.store 2), [.t 4, .t 27], none, [10, 0, 1, 2, 3, 4, 5, 6, 7, 8, 9, 10]⟩] false)))
 (.region [⟨(some 28), (.bin .add), [.t 13, .c (.int .i64 1)], none, []⟩,
 ⟨(some 13), .mov, [.t 28], none, [0]⟩] false))
def b132l0 : DCode := .keep [2, 4, 11, 12, 13] [2, 4]
 (.seq
 (.region [⟨(some 14), (.bin .lss), [.t 13, .t 12], none, []⟩] false)
 (.seq
 (.cond (.t 14)
 .skip
 (.exit 0))
 (.keep [2, 4, 11, 12, 13] [2, 4] b132k0)))
def b132k1 : DCode :=
 (.seq
 (.region [⟨(some 29), (.loadf true 2 [4]), [.t 4], none, []⟩,
 ⟨(some 30), (.faddr 0 false 1), [.t 4], none, []⟩,
 ⟨(some 31), (.loadf false 1 [4]), [.t 30], none, [1]⟩,
 ⟨(some 32), (.faddr 1 false 1), [.t 4], none, []⟩,
 ⟨(some 33), (.loadf false 1 [4]), [.t 32], none, [3]⟩,
 ⟨(some 34), (.bin .leq), [.t 31, .t 33], none, [2, 4]⟩,
 ⟨none, (.storef 2 [2]), [.t 2, .t 29], none, [0, 0]⟩,
 ⟨(some 3), .mov, [.t 34], none, [5, 6, 0, 1, 2, 3, 4, 5, 6]⟩] true)
 .ret)
def b132 : DCode :=
 (.seq
 (.region [⟨(some 2), (.alloc [(.imm (.int .i64 0)), (.imm (.int .i64 0))]), [], none, []⟩,
 ⟨(some 3), .mov, [.c (.bool false)], none, []⟩] false)
 (.seq
 (.region [⟨(some 7), .movv, [.t 0], none, []⟩,
 ⟨(some 8), (.iaddr 2), [.t 7, .c (.int .i64 0)], none, [0]⟩,
 ⟨(some 9), (.load true 2), [.t 8], none, [1]⟩,
 ⟨(some 4), (.alloc [(.imm (.int .i64 0)), (.imm (.int .i64 0))]), [], none, []⟩,
 ⟨none, (.store 2), [.t 4, .t 9], none, [3, 2, 0, 1, 2, 3]⟩] false)
 (.seq
 (.seq
 (.region [⟨(some 10), .movv, [.t 0], none, []⟩,
 ⟨(some 11), (.slice 2 true false), [.t 10, .c (.int .i64 1)], none, [0]⟩,
 ⟨(some 12), .len, [.t 11], none, [1]⟩,
 ⟨(some 13), .mov, [.c (.int .i64 0)], none, []⟩] false)
 (.block 0
 (.loop b132l0)))
 (.keep [2, 4] [2, 4] b132k1))))
def d132 : DFn := ⟨1, 35, [.cell 2 true 2, .tmp 3], b132⟩
theorem body132 : d132.body = b132 := rfl
theorem res132 : d132.res = [.cell 2 true 2, .tmp 3] := rfl
theorem k132 : chkFn Tryz.prog Tryz.f132 d132 = true := by kernel_rfl

/-- guidevane/lake.openVolume -/
def b127k0 : DCode :=
 (.seq
 (.region [⟨(some 14), (.load true 1), [.t 2], none, []⟩,
 ⟨(some 15), (.build [(.imm (.slc 2 []))] [(0, 1)]), [.t 14], none, [0]⟩,
 ⟨(some 7), (.alloc [(.imm (.slc 2 []))]), [], none, []⟩,
 ⟨none, (.store 1), [.t 7, .t 15], none, [2, 1, 0, 1, 2]⟩] false)
 (.seq
 (.region [⟨(some 16), (.load true 1), [.t 7], none, []⟩,
 ⟨(some 17), (.load true 1), [.t 7], none, []⟩,
 ⟨(some 18), .mov, [.t 1], none, []⟩,
 ⟨(some 19), .call, [.f 218, .t 17, .t 18], none, [1, 2]⟩,
 ⟨(some 20), .call, [.f 208, .t 19, .c (.int .i64 2)], none, [3, 3]⟩,
 ⟨none, (.store 1), [.t 4, .t 16], none, [0, 4, 0]⟩,
 ⟨(some 5), .mov, [.t 20], none, [4, 5, 0, 1, 2, 3, 4, 5]⟩] true)
 .ret))
def b127 : DCode :=
 (.seq
 (.region [⟨(some 2), .box, [.t 0], none, []⟩,
 ⟨(some 4), (.alloc [(.imm (.slc 2 []))]), [], none, []⟩,
 ⟨(some 5), .mov, [.c (.int .i64 0)], none, []⟩] false)
 (.seq
 (.seq
 (.region [⟨(some 8), (.load true 1), [.t 2], none, []⟩,
 ⟨(some 9), .call, [.f 118, .t 8], none, [0]⟩,
 ⟨(some 6), .mov, [.t 9], none, [1, 1, 0, 1]⟩] false)
 (.seq
 (.region [⟨(some 10), .mov, [.t 6], none, []⟩,
 ⟨(some 11), (.bin .neq), [.t 10, .c (.int .i64 0)], none, [0]⟩] false)
 (.cond (.t 11)
 (.seq
 (.region [⟨(some 12), (.build [(.imm (.slc 2 []))] []), [], none, []⟩,
 ⟨(some 13), .mov, [.t 6], none, []⟩,
 ⟨none, (.store 1), [.t 4, .t 12], none, [0, 0]⟩,
 ⟨(some 5), .mov, [.t 13], none, [1, 2, 0, 1, 2]⟩] false)
 .ret)
 .skip)))
 (.keep [1, 2, 4] [2, 4] b127k0)))
def d127 : DFn := ⟨2, 21, [.cell 4 true 1, .tmp 5], b127⟩
theorem body127 : d127.body = b127 := rfl
theorem res127 : d127.res = [.cell 4 true 1, .tmp 5] := rfl
theorem k127 : chkFn Tryz.prog Tryz.f127 d127 = true := by kernel_rfl

/-- (guidevane/lake.table).levelAt -/
def b128 : DCode :=
 (.seq
 (.region [⟨(some 2), .box, [.t 0], none, []⟩,
 ⟨(some 4), (.alloc [(.imm (.int .i64 0)), (.imm (.int .i64 0)), (.imm (.int .i64 0))]), [], none, []⟩] false)
 (.seq
 (.region [⟨(some 7), (.load true 1), [.t 2], none, []⟩,
 ⟨(some 8), .mov, [.t 1], none, []⟩,
 ⟨(some 9), .call, [.f 219, .t 7, .t 8], none, [0, 1]⟩,
 ⟨(some 5), (.alloc [(.imm (.int .i64 0)), (.imm (.int .i64 0)), (.imm (.int .i64 0)), (.imm (.int .i64 0))]), [], none, []⟩,
 ⟨none, (.store 4), [.t 5, .t 9], none, [3, 2, 2, 0, 1, 2, 3]⟩] false)
 (.seq
 (.region [⟨(some 10), .mov, [.t 1], none, []⟩,
 ⟨(some 11), (.faddr 0 true 2), [.t 5], none, []⟩,
 ⟨(some 12), (.faddr 1 false 1), [.t 11], none, [1]⟩,
 ⟨(some 13), (.load false 1), [.t 12], none, [2]⟩,
 ⟨(some 14), (.bin .sub), [.t 10, .t 13], none, [0, 3]⟩,
 ⟨(some 15), (.load true 4), [.t 5], none, []⟩,
 ⟨(some 16), .call, [.f 220, .t 15], none, [5]⟩,
 ⟨(some 17), (.bin .mul), [.t 14, .t 16], none, [4, 6]⟩,
 ⟨(some 6), .mov, [.t 17], none, [7, 6, 0, 1, 2, 3, 4, 5, 6, 7]⟩] true)
 (.seq
 (.region [⟨(some 18), (.faddr 0 true 2), [.t 5], none, []⟩,
 ⟨(some 19), (.faddr 0 false 1), [.t 18], none, [0]⟩,
 ⟨(some 20), (.load false 1), [.t 19], none, [1]⟩,
 ⟨(some 21), .mov, [.t 6], none, []⟩,
 ⟨(some 22), (.load true 4), [.t 5], none, []⟩,
 ⟨(some 23), .call, [.f 221, .t 22], none, [4]⟩,
 ⟨(some 24), (.bin .quo), [.t 21, .t 23], none, [3, 5]⟩,
 ⟨(some 25), (.bin .add), [.t 20, .t 24], none, [2, 6]⟩,
 ⟨(some 26), .mov, [.t 6], none, []⟩,
 ⟨(some 27), (.load true 4), [.t 5], none, []⟩,
 ⟨(some 28), .call, [.f 221, .t 27], none, [9, 5]⟩,
 ⟨(some 29), (.bin .rem), [.t 26, .t 28], none, [8, 10]⟩,
 ⟨(some 30), (.load true 4), [.t 5], none, []⟩,
 ⟨(some 31), .call, [.f 221, .t 30], none, [12, 10]⟩,
 ⟨(some 32), (.build [(.imm (.int .i64 0)), (.imm (.int .i64 0)), (.imm (.int .i64 0))] [(0, 1), (1, 1), (2, 1)]), [.t 25, .t 29, .t 31], none, [7, 11, 13]⟩,
 ⟨none, (.store 3), [.t 4, .t 32], none, [14, 13, 0, 1, 2, 3, 4, 5, 6, 7, 8, 9, 10, 11, 12, 13, 14]⟩] true)
 .ret))))
def d128 : DFn := ⟨2, 33, [.cell 4 true 3], b128⟩
theorem body128 : d128.body = b128 := rfl
theorem res128 : d128.res = [.cell 4 true 3] := rfl
theorem k128 : chkFn Tryz.prog Tryz.f128 d128 = true := by kernel_rfl

/-- (guidevane/lake.piece).height -/
def b220 : DCode :=
 (.seq
 (.region [⟨(some 1), .box, [.t 0], none, []⟩,
 ⟨(some 2), .mov, [.c (.int .i64 0)], none, []⟩] false)
 (.seq
 (.region [⟨(some 3), (.faddr 2 true 2), [.t 1], none, []⟩,
 ⟨(some 4), (.faddr 0 false 1), [.t 3], none, [0]⟩,
 ⟨(some 5), (.load false 1), [.t 4], none, [1]⟩,
 ⟨(some 6), (.faddr 0 true 2), [.t 1], none, []⟩,
 ⟨(some 7), (.faddr 0 false 1), [.t 6], none, [3]⟩,
 ⟨(some 8), (.load false 1), [.t 7], none, [4]⟩,
 ⟨(some 9), (.bin .sub), [.t 5, .t 8], none, [2, 5]⟩,
 ⟨(some 2), .mov, [.t 9], none, [6, 0, 1, 2, 3, 4, 5, 6]⟩] false)
 .ret))
def d220 : DFn := ⟨1, 10, [.tmp 2], b220⟩
theorem body220 : d220.body = b220 := rfl
theorem res220 : d220.res = [.tmp 2] := rfl
theorem k220 : chkFn Tryz.prog Tryz.f220 d220 = true := by kernel_rfl

/-- (guidevane/lake.piece).volume -/
def b221 : DCode :=
 (.seq
 (.region [⟨(some 1), .box, [.t 0], none, []⟩,
 ⟨(some 2), .mov, [.c (.int .i64 0)], none, []⟩] false)
 (.seq
 (.region [⟨(some 3), (.faddr 2 true 2), [.t 1], none, []⟩,
 ⟨(some 4), (.faddr 1 false 1), [.t 3], none, [0]⟩,
 ⟨(some 5), (.load false 1), [.t 4], none, [1]⟩,
 ⟨(some 6), (.faddr 0 true 2), [.t 1], none, []⟩,
 ⟨(some 7), (.faddr 1 false 1), [.t 6], none, [3]⟩,
 ⟨(some 8), (.load false 1), [.t 7], none, [4]⟩,
 ⟨(some 9), (.bin .sub), [.t 5, .t 8], none, [2, 5]⟩,
 ⟨(some 2), .mov, [.t 9], none, [6, 0, 1, 2, 3, 4, 5, 6]⟩] false)
 .ret))
def d221 : DFn := ⟨1, 10, [.tmp 2], b221⟩
theorem body221 : d221.body = b221 := rfl
theorem res221 : d221.res = [.tmp 2] := rfl
theorem k221 : chkFn Tryz.prog Tryz.f221 d221 = true := by kernel_rfl

/-- (guidevane/lake.piece).narrower -/
def b272 : DCode :=
 (.seq
 (.region [⟨(some 2), .box, [.t 0], none, []⟩,
 ⟨(some 3), .box, [.t 1], none, []⟩,
 ⟨(some 4), .mov, [.c (.bool false)], none, []⟩] false)
 (.seq
 (.region [⟨(some 5), (.load true 4), [.t 2], none, []⟩,
 ⟨(some 6), .call, [.f 221, .t 5], none, [0]⟩,
 ⟨(some 7), (.load true 4), [.t 3], none, []⟩,
 ⟨(some 8), .call, [.f 220, .t 7], none, [2, 1]⟩,
 ⟨(some 9), (.bin .mul), [.t 6, .t 8], none, [1, 3]⟩,
 ⟨(some 10), (.load true 4), [.t 3], none, []⟩,
 ⟨(some 11), .call, [.f 221, .t 10], none, [5, 3]⟩,
 ⟨(some 12), (.load true 4), [.t 2], none, []⟩,
 ⟨(some 13), .call, [.f 220, .t 12], none, [7, 6]⟩,
 ⟨(some 14), (.bin .mul), [.t 11, .t 13], none, [6, 8]⟩,
 ⟨(some 15), (.bin .lss), [.t 9, .t 14], none, [4, 9]⟩,
 ⟨(some 4), .mov, [.t 15], none, [10, 8, 0, 1, 2, 3, 4, 5, 6, 7, 8, 9, 10]⟩] true)
 .ret))
def d272 : DFn := ⟨2, 16, [.tmp 4], b272⟩
theorem body272 : d272.body = b272 := rfl
theorem res272 : d272.res = [.tmp 4] := rfl
theorem k272 : chkFn Tryz.prog Tryz.f272 d272 = true := by kernel_rfl

/-- (guidevane/lake.table).volumeAt -/
def b224 : DCode :=
 (.seq
 (.region [⟨(some 2), .box, [.t 0], none, []⟩,
 ⟨(some 3), .box, [.t 1], none, []⟩,
 ⟨(some 4), (.alloc [(.imm (.int .i64 0)), (.imm (.int .i64 0))]), [], none, []⟩] false)
 (.seq
 (.freeze [3]
 (.region [⟨(some 7), (.load true 1), [.t 2], none, []⟩,
 ⟨(some 8), (.mkfn 281 0), [.t 3], none, []⟩,
 ⟨(some 9), .call, [.f 277, .t 7, .t 8], none, [0, 1]⟩,
 ⟨(some 5), (.alloc [(.imm (.int .i64 0)), (.imm (.int .i64 0)), (.imm (.int .i64 0)), (.imm (.int .i64 0))]), [], none, []⟩,
 ⟨none, (.store 4), [.t 5, .t 9], none, [3, 2, 2, 0, 1, 2, 3]⟩] false))
 (.seq
 (.region [⟨(some 10), (.load false 1), [.t 3], none, []⟩,
 ⟨(some 11), (.faddr 0 true 2), [.t 5], none, []⟩,
 ⟨(some 12), (.faddr 0 false 1), [.t 11], none, [1]⟩,
 ⟨(some 13), (.load false 1), [.t 12], none, [2]⟩,
 ⟨(some 14), (.bin .sub), [.t 10, .t 13], none, [0, 3]⟩,
 ⟨(some 15), (.load true 4), [.t 5], none, []⟩,
 ⟨(some 16), .call, [.f 221, .t 15], none, [5]⟩,
 ⟨(some 17), (.bin .mul), [.t 14, .t 16], none, [4, 6]⟩,
 ⟨(some 6), .mov, [.t 17], none, [7, 6, 0, 1, 2, 3, 4, 5, 6, 7]⟩] true)
 (.seq
 (.region [⟨(some 18), (.faddr 0 true 2), [.t 5], none, []⟩,
 ⟨(some 19), (.faddr 1 false 1), [.t 18], none, [0]⟩,
 ⟨(some 20), (.load false 1), [.t 19], none, [1]⟩,
 ⟨(some 21), .mov, [.t 6], none, []⟩,
 ⟨(some 22), (.load true 4), [.t 5], none, []⟩,
 ⟨(some 23), .call, [.f 220, .t 22], none, [4]⟩,
 ⟨(some 24), .call, [.f 282, .t 21, .t 23], none, [3, 5, 5]⟩,
 ⟨(some 25), (.bin .add), [.t 20, .t 24], none, [2, 6]⟩,
 ⟨(some 26), (.faddr 0 true 2), [.t 5], none, []⟩,
 ⟨(some 27), (.faddr 1 false 1), [.t 26], none, [8]⟩,
 ⟨(some 28), (.load false 1), [.t 27], none, [9]⟩,
 ⟨(some 29), .mov, [.t 6], none, []⟩,
 ⟨(some 30), (.load true 4), [.t 5], none, []⟩,
 ⟨(some 31), .call, [.f 220, .t 30], none, [12, 6]⟩,
 ⟨(some 32), .call, [.f 283, .t 29, .t 31], none, [11, 13, 13]⟩,
 ⟨(some 33), (.bin .add), [.t 28, .t 32], none, [10, 14]⟩,
 ⟨(some 34), (.build [(.imm (.int .i64 0)), (.imm (.int .i64 0))] [(0, 1), (1, 1)]), [.t 25, .t 33], none, [7, 15]⟩,
 ⟨none, (.store 2), [.t 4, .t 34], none, [16, 14, 0, 1, 2, 3, 4, 5, 6, 7, 8, 9, 10, 11, 12, 13, 14, 15, 16]⟩] true)
 .ret))))
def d224 : DFn := ⟨2, 35, [.cell 4 true 2], b224⟩
theorem body224 : d224.body = b224 := rfl
theorem res224 : d224.res = [.cell 4 true 2] := rfl
theorem k224 : chkFn Tryz.prog Tryz.f224 d224 = true := by kernel_rfl

/-- (guidevane/lake.table).byVolume -/
def b219 : DCode :=
 (.seq
 (.region [⟨(some 2), .box, [.t 0], none, []⟩,
 ⟨(some 3), .box, [.t 1], none, []⟩,
 ⟨(some 4), (.alloc [(.imm (.int .i64 0)), (.imm (.int .i64 0)), (.imm (.int .i64 0)), (.imm (.int .i64 0))]), [], none, []⟩] false)
 (.seq
 (.freeze [3]
 (.region [⟨(some 5), (.load true 1), [.t 2], none, []⟩,
 ⟨(some 6), (.mkfn 278 0), [.t 3], none, []⟩,
 ⟨(some 7), .call, [.f 277, .t 5, .t 6], none, [0, 1]⟩,
 ⟨none, (.store 4), [.t 4, .t 7], none, [2, 2, 0, 1, 2]⟩] false))
 .ret))
def d219 : DFn := ⟨2, 8, [.cell 4 true 4], b219⟩
theorem body219 : d219.body = b219 := rfl
theorem res219 : d219.res = [.cell 4 true 4] := rfl
theorem k219 : chkFn Tryz.prog Tryz.f219 d219 = true := by kernel_rfl

/-- guidevane/lake.ticksErr -/
def b120k0 : DCode :=
 (.region [⟨(some 20), (.bin .add), [.t 11, .c (.int .i64 1)], none, []⟩,
 ⟨(some 11), .mov, [.t 20], none, [0]⟩] false)
def b120k1 : DCode :=
 (.seq
 (.block 1
 (.seq
 (.region [⟨(some 13), (.iaddr 3), [.t 9, .t 11], none, []⟩,
 ⟨(some 14), (.load true 3), [.t 13], none, [0]⟩,
 ⟨(some 4), (.alloc [(.imm (.int .i64 0)), (.imm (.int .i64 0)), (.imm (.int .i64 0))]), [], none, []⟩,
 ⟨none, (.store 3), [.t 4, .t 14], none, [2, 1, 0, 1, 2]⟩] false)
 (.seq
 (.region [⟨(some 15), (.load true 3), [.t 4], none, []⟩,
 ⟨(some 16), .call, [.f 207, .t 15], none, [0]⟩,
 ⟨(some 5), .mov, [.t 16], none, [1, 1, 0, 1]⟩] false)
 (.seq
 (.region [⟨(some 17), .mov, [.t 5], none, []⟩,
 ⟨(some 18), (.bin .neq), [.t 17, .c (.int .i64 0)], none, [0]⟩] false)
 (.cond (.t 18)
 (.seq
 (.region [⟨(some 19), .mov, [.t 5], none, []⟩,
 ⟨(some 2), .mov, [.t 19], none, [0, 0]⟩] false)
 .ret)
 .skip)))))
 (.keep [9, 10, 11] [] b120k0))
def b120l0 : DCode := .keep [9, 10, 11] []
 (.seq
 (.region [⟨(some 12), (.bin .lss), [.t 11, .t 10], none, []⟩] false)
 (.seq
 (.cond (.t 12)
 .skip
 (.exit 0))
 (.keep [9, 10, 11] [] b120k1)))
def b120k2 : DCode :=
 (.seq
 (.region [⟨(some 2), .mov, [.c (.int .i64 0)], none, []⟩] false)
 .ret)
def b120k3 : DCode :=
 (.seq
 (.seq
 (.region [⟨(some 9), .movv, [.t 0], none, []⟩,
 ⟨(some 10), .len, [.t 9], none, [0]⟩,
 ⟨(some 11), .mov, [.c (.int .i64 0)], none, []⟩] false)
 (.block 0
 (.loop b120l0)))
 (.keep [] [] b120k2))
def b120 : DCode :=
 (.seq
 (.region [⟨(some 2), .mov, [.c (.int .i64 0)], none, []⟩] false)
 (.seq
 (.seq
 (.region [⟨(some 6), .movv, [.t 0], none, []⟩,
 ⟨(some 7), .len, [.t 6], none, [0]⟩,
 ⟨(some 8), (.bin .gtr), [.t 7, .c (.int .i64 200)], none, [1]⟩] false)
 (.cond (.t 8)
 (.seq
 (.region [⟨(some 2), .mov, [.c (.int .i64 8)], none, []⟩] false)
 .ret)
 .skip))
 (.keep [0] [] b120k3)))
def d120 : DFn := ⟨1, 21, [.tmp 2], b120⟩
theorem body120 : d120.body = b120 := rfl
theorem res120 : d120.res = [.tmp 2] := rfl
theorem k120 : chkFn Tryz.prog Tryz.f120 d120 = true := by kernel_rfl

/-- guidevane/lake.openPair -/
def b215 : DCode :=
 (.seq
 (.region [⟨(some 1), .box, [.t 0], none, []⟩,
 ⟨(some 2), (.alloc [(.imm (.slc 2 [])), (.imm (.slc 2 [])), (.imm (.int .i64 0))]), [], none, []⟩,
 ⟨(some 3), .mov, [.c (.int .i64 0)], none, []⟩] false)
 (.seq
 (.region [⟨(some 4), (.faddr 0 true 1), [.t 1], none, []⟩,
 ⟨(some 5), (.load true 1), [.t 4], none, [0]⟩,
 ⟨(some 6), (.build [(.imm (.slc 2 []))] [(0, 1)]), [.t 5], none, [1]⟩,
 ⟨(some 7), (.faddr 1 true 1), [.t 1], none, []⟩,
 ⟨(some 8), (.load true 1), [.t 7], none, [3]⟩,
 ⟨(some 9), (.build [(.imm (.slc 2 []))] [(0, 1)]), [.t 8], none, [4]⟩,
 ⟨(some 10), (.build [(.imm (.slc 2 [])), (.imm (.slc 2 []))] [(0, 1), (1, 1)]), [.t 6, .t 9], none, [2, 5]⟩,
 ⟨(some 11), (.faddr 2 false 1), [.t 1], none, []⟩,
 ⟨(some 12), (.load false 1), [.t 11], none, [7]⟩,
 ⟨(some 13), (.build [(.imm (.slc 2 [])), (.imm (.slc 2 [])), (.imm (.int .i64 0))] [(0, 2), (2, 1)]), [.t 10, .t 12], none, [6, 8]⟩,
 ⟨(some 14), (.load true 3), [.t 1], none, []⟩,
 ⟨(some 15), .call, [.f 276, .t 14], none, [10]⟩,
 ⟨none, (.store 3), [.t 2, .t 13], none, [9, 11, 0, 1, 2, 3, 4, 5, 6, 7, 8, 9]⟩,
 ⟨(some 3), .mov, [.t 15], none, [11, 12, 0, 1, 2, 3, 4, 5, 6, 7, 8, 9, 10, 11, 12]⟩] true)
 .ret))
def d215 : DFn := ⟨1, 16, [.cell 2 true 3, .tmp 3], b215⟩
theorem body215 : d215.body = b215 := rfl
theorem res215 : d215.res = [.cell 2 true 3, .tmp 3] := rfl
theorem k215 : chkFn Tryz.prog Tryz.f215 d215 = true := by kernel_rfl

/-- (guidevane/lake.pair).stateErr -/
def b216 : DCode :=
 (.seq
 (.region [⟨(some 2), .box, [.t 0], none, []⟩,
 ⟨(some 3), .box, [.t 1], none, []⟩,
 ⟨(some 4), .mov, [.c (.int .i64 0)], none, []⟩] false)
 (.seq
 (.region [⟨(some 5), (.faddr 0 true 2), [.t 2], none, []⟩,
 ⟨(some 6), (.iarr 2 1 true), [.t 5, .c (.int .i64 0)], none, [0]⟩,
 ⟨(some 7), (.load true 1), [.t 6], none, [1]⟩,
 ⟨(some 8), (.faddr 0 false 1), [.t 3], none, []⟩,
 ⟨(some 9), (.load false 1), [.t 8], none, [3]⟩,
 ⟨(some 10), .call, [.f 218, .t 7, .t 9], none, [2, 4]⟩,
 ⟨(some 11), .mov, [.t 10], none, [5, 5]⟩,
 ⟨(some 12), (.faddr 0 true 2), [.t 2], (some (11, true)), [6]⟩,
 ⟨(some 13), (.iarr 2 1 true), [.t 12, .c (.int .i64 1)], (some (11, true)), [7, 6]⟩,
 ⟨(some 14), (.load true 1), [.t 13], (some (11, true)), [8, 6]⟩,
 ⟨(some 15), (.faddr 1 false 1), [.t 3], (some (11, true)), [6]⟩,
 ⟨(some 16), (.load false 1), [.t 15], (some (11, true)), [10, 6]⟩,
 ⟨(some 17), .call, [.f 218, .t 14, .t 16], (some (11, true)), [9, 11, 6, 6]⟩,
 ⟨(some 18), .pick, [.t 11, .t 17, .c (.bool false)], none, [6, 12]⟩,
 ⟨(some 19), .call, [.f 208, .t 18, .c (.int .i64 2)], none, [13, 12]⟩,
 ⟨(some 4), .mov, [.t 19], none, [14, 14, 0, 1, 2, 3, 4, 5, 6, 7, 8, 9, 10, 11, 12, 13, 14]⟩] false)
 .ret))
def d216 : DFn := ⟨2, 20, [.tmp 4], b216⟩
theorem body216 : d216.body = b216 := rfl
theorem res216 : d216.res = [.tmp 4] := rfl
theorem k216 : chkFn Tryz.prog Tryz.f216 d216 = true := by kernel_rfl

/-- guidevane/lake.flowsErr$1 -/
def b269 : DCode :=
 (.seq
 (.region [⟨(some 2), .mov, [.c (.bool false)], none, []⟩] false)
 (.seq
 (.region [⟨(some 3), .mov, [.t 0], none, []⟩,
 ⟨(some 4), .call, [.f 270, .t 3, .c (.int .i64 0), .c (.int .i64 10000000)], none, [0]⟩,
 ⟨(some 2), .mov, [.t 4], none, [1, 1, 0, 1]⟩] false)
 .ret))
def d269 : DFn := ⟨1, 5, [.tmp 2], b269⟩
theorem body269 : d269.body = b269 := rfl
theorem res269 : d269.res = [.tmp 2] := rfl
theorem k269 : chkFn Tryz.prog Tryz.f269 d269 = true := by kernel_rfl

/-- (guidevane/lake.table).evaporated -/
def b217 : DCode :=
 (.seq
 (.region [⟨(some 3), .box, [.t 0], none, []⟩,
 ⟨(some 6), .mov, [.c (.int .i64 0)], none, []⟩] false)
 (.seq
 (.region [⟨(some 8), (.load true 1), [.t 3], none, []⟩,
 ⟨(some 9), .mov, [.t 1], none, []⟩,
 ⟨(some 10), .call, [.f 219, .t 8, .t 9], none, [0, 1]⟩,
 ⟨(some 7), (.alloc [(.imm (.int .i64 0)), (.imm (.int .i64 0)), (.imm (.int .i64 0)), (.imm (.int .i64 0))]), [], none, []⟩,
 ⟨none, (.store 4), [.t 7, .t 10], none, [3, 2, 2, 0, 1, 2, 3]⟩] false)
 (.seq
 (.region [⟨(some 11), .mov, [.t 2], none, []⟩,
 ⟨(some 12), (.load true 4), [.t 7], none, []⟩,
 ⟨(some 13), .call, [.f 221, .t 12], none, [1]⟩,
 ⟨(some 14), (.bin .mul), [.t 11, .t 13], none, [0, 2]⟩,
 ⟨(some 15), (.load true 4), [.t 7], none, []⟩,
 ⟨(some 16), .call, [.f 220, .t 15], none, [4, 2]⟩,
 ⟨(some 17), (.bin .mul), [.c (.int .i64 1000), .t 16], none, [5]⟩,
 ⟨(some 18), (.bin .quo), [.t 14, .t 17], none, [3, 6]⟩,
 ⟨(some 19), .mov, [.t 1], none, []⟩,
 ⟨(some 20), (.load true 1), [.t 3], none, []⟩,
 ⟨(some 21), .call, [.f 209, .t 20], none, [9, 5]⟩,
 ⟨(some 22), (.field 1 false 1), [.t 21], none, [10]⟩,
 ⟨(some 23), (.bin .sub), [.t 19, .t 22], none, [8, 11]⟩,
 ⟨(some 24), (.mm false), [.t 18, .t 23], none, [7, 12]⟩,
 ⟨(some 6), .mov, [.t 24], none, [13, 10, 0, 1, 2, 3, 4, 5, 6, 7, 8, 9, 10, 11, 12, 13]⟩] true)
 .ret)))
def d217 : DFn := ⟨3, 25, [.tmp 6], b217⟩
theorem body217 : d217.body = b217 := rfl
theorem res217 : d217.res = [.tmp 6] := rfl
theorem k217 : chkFn Tryz.prog Tryz.f217 d217 = true := by kernel_rfl

/-- guidevane/lake.netErr -/
def b222k0 : DCode :=
 (.seq
 (.region [⟨(some 7), .movv, [.t 0], none, []⟩,
 ⟨(some 8), .call, [.f 243, .t 7, .f 279], none, [0]⟩,
 ⟨(some 3), .mov, [.t 8], none, [1, 1, 0, 1]⟩] false)
 (.seq
 (.region [⟨(some 9), .mov, [.t 3], none, []⟩,
 ⟨(some 10), (.un .not), [.t 9], none, [0]⟩,
 ⟨(some 11), .call, [.f 208, .t 10, .c (.int .i64 2)], none, [1]⟩,
 ⟨(some 2), .mov, [.t 11], none, [2, 2, 0, 1, 2]⟩] false)
 .ret))
def b222 : DCode :=
 (.seq
 (.region [⟨(some 2), .mov, [.c (.int .i64 0)], none, []⟩] false)
 (.seq
 (.seq
 (.region [⟨(some 4), .movv, [.t 0], none, []⟩,
 ⟨(some 5), .len, [.t 4], none, [0]⟩,
 ⟨(some 6), (.bin .gtr), [.t 5, .c (.int .i64 200)], none, [1]⟩] false)
 (.cond (.t 6)
 (.seq
 (.region [⟨(some 2), .mov, [.c (.int .i64 8)], none, []⟩] false)
 .ret)
 .skip))
 (.keep [0] [] b222k0)))
def d222 : DFn := ⟨1, 12, [.tmp 2], b222⟩
theorem body222 : d222.body = b222 := rfl
theorem res222 : d222.res = [.tmp 2] := rfl
theorem k222 : chkFn Tryz.prog Tryz.f222 d222 = true := by kernel_rfl

/-- (guidevane/lake.table).readingsErr -/
def b223k0 : DCode :=
 (.region [⟨(some 67), (.bin .add), [.t 29, .c (.int .i64 1)], none, []⟩,
 ⟨(some 29), .mov, [.t 67], none, [0]⟩] false)
def b223k1 : DCode :=
 (.seq
 (.block 1
 (.seq
 (.region [⟨(some 31), (.iaddr 3), [.t 27, .t 29], none, []⟩,
 ⟨(some 32), (.load true 3), [.t 31], none, [0]⟩,
 ⟨(some 10), (.alloc [(.imm (.int .i64 0)), (.imm (.int .i64 0)), (.imm (.int .i64 0))]), [], none, []⟩,
 ⟨none, (.store 3), [.t 10, .t 32], none, [2, 1, 0, 1, 2]⟩] false)
 (.seq
 (.region [⟨(some 33), (.faddr 0 false 1), [.t 10], none, []⟩,
 ⟨(some 34), (.load false 1), [.t 33], none, [0]⟩,
 ⟨(some 35), .movv, [.t 1], none, []⟩,
 ⟨(some 36), .len, [.t 35], none, [2]⟩,
 ⟨(some 37), .call, [.f 270, .t 34, .c (.int .i64 0), .t 36], none, [1, 3]⟩,
 ⟨(some 38), .mov, [.t 37], none, [4, 4]⟩,
 ⟨(some 39), .mov, [.t 8], (some (38, true)), [5]⟩,
 ⟨(some 40), (.faddr 1 true 2), [.t 10], (some (38, true)), [5]⟩,
 ⟨(some 41), (.faddr 0 false 1), [.t 40], (some (38, true)), [7, 5]⟩,
 ⟨(some 42), (.load false 1), [.t 41], (some (38, true)), [8, 5]⟩,
 ⟨(some 43), .call, [.t 39, .t 42], (some (38, true)), [6, 9, 5, 5]⟩,
 ⟨(some 44), .pick, [.t 38, .t 43, .c (.bool false)], none, [5, 10]⟩,
 ⟨(some 45), .mov, [.t 44], none, [11, 10]⟩,
 ⟨(some 46), .mov, [.t 8], (some (45, true)), [12]⟩,
 ⟨(some 47), (.faddr 1 true 2), [.t 10], (some (45, true)), [12]⟩,
 ⟨(some 48), (.faddr 1 false 1), [.t 47], (some (45, true)), [14, 12]⟩,
 ⟨(some 49), (.load false 1), [.t 48], (some (45, true)), [15, 12]⟩,
 ⟨(some 50), .call, [.t 46, .t 49], (some (45, true)), [13, 16, 12, 12]⟩,
 ⟨(some 51), .pick, [.t 45, .t 50, .c (.bool false)], none, [12, 17]⟩,
 ⟨(some 11), .mov, [.t 51], none, [18, 17, 0, 1, 2, 3, 4, 5, 6, 7, 8, 9, 10, 11, 12, 13, 14, 15, 16, 17, 18]⟩] false)
 (.seq
 (.region [⟨(some 52), .mov, [.t 11], none, []⟩,
 ⟨(some 53), .call, [.f 208, .t 52, .c (.int .i64 2)], none, [0]⟩,
 ⟨(some 54), (.faddr 1 true 2), [.t 10], none, []⟩,
 ⟨(some 55), (.faddr 0 false 1), [.t 54], none, [2]⟩,
 ⟨(some 56), (.load false 1), [.t 55], none, [3]⟩,
 ⟨(some 57), (.faddr 1 true 2), [.t 10], none, []⟩,
 ⟨(some 58), (.faddr 1 false 1), [.t 57], none, [5]⟩,
 ⟨(some 59), (.load false 1), [.t 58], none, [6]⟩,
 ⟨(some 60), (.bin .leq), [.t 56, .t 59], none, [4, 7]⟩,
 ⟨(some 61), .call, [.f 208, .t 60, .c (.int .i64 9)], none, [8, 1]⟩,
 ⟨(some 62), (.bsl 1), [.t 53, .t 61], none, [1, 9]⟩,
 ⟨(some 63), .call, [.f 124, .t 62], none, [10, 9]⟩,
 ⟨(some 12), .mov, [.t 63], none, [11, 11, 0, 1, 2, 3, 4, 5, 6, 7, 8, 9, 10, 11]⟩] true)
 (.seq
 (.region [⟨(some 64), .mov, [.t 12], none, []⟩,
 ⟨(some 65), (.bin .neq), [.t 64, .c (.int .i64 0)], none, [0]⟩] false)
 (.cond (.t 65)
 (.seq
 (.region [⟨(some 66), .mov, [.t 12], none, []⟩,
 ⟨(some 6), .mov, [.t 66], none, [0, 0]⟩] false)
 .ret)
 .skip))))))
 (.keep [1, 8, 27, 28, 29] [3] b223k0))
def b223l0 : DCode := .keep [1, 8, 27, 28, 29] [3]
 (.seq
 (.region [⟨(some 30), (.bin .lss), [.t 29, .t 28], none, []⟩] false)
 (.seq
 (.cond (.t 30)
 .skip
 (.exit 0))
 (.keep [1, 8, 27, 28, 29] [3] b223k1)))
def b223k2 : DCode :=
 (.seq
 (.region [⟨(some 6), .mov, [.c (.int .i64 0)], none, []⟩] false)
 .ret)
def b223k3 : DCode :=
 (.seq
 (.freeze [3]
 (.region [⟨(some 26), (.mkfn 280 0), [.t 3], none, []⟩,
 ⟨(some 8), .mov, [.t 26], none, [0, 0]⟩] false))
 (.seq
 (.seq
 (.region [⟨(some 27), .movv, [.t 2], none, []⟩,
 ⟨(some 28), .len, [.t 27], none, [0]⟩,
 ⟨(some 29), .mov, [.c (.int .i64 0)], none, []⟩] false)
 (.block 0
 (.loop b223l0)))
 (.keep [] [] b223k2)))
def b223 : DCode :=
 (.seq
 (.region [⟨(some 3), .box, [.t 0], none, []⟩,
 ⟨(some 6), .mov, [.c (.int .i64 0)], none, []⟩] false)
 (.seq
 (.seq
 (.region [⟨(some 13), .movv, [.t 2], none, []⟩,
 ⟨(some 14), .len, [.t 13], none, [0]⟩,
 ⟨(some 15), (.bin .gtr), [.t 14, .c (.int .i64 0)], none, [1]⟩,
 ⟨(some 16), .call, [.f 208, .t 15, .c (.int .i64 10)], none, [2]⟩,
 ⟨(some 17), .movv, [.t 2], none, []⟩,
 ⟨(some 18), .len, [.t 17], none, [4]⟩,
 ⟨(some 19), (.bin .leq), [.t 18, .c (.int .i64 10)], none, [5]⟩,
 ⟨(some 20), .call, [.f 208, .t 19, .c (.int .i64 8)], none, [6, 3]⟩,
 ⟨(some 21), (.bsl 1), [.t 16, .t 20], none, [3, 7]⟩,
 ⟨(some 22), .call, [.f 124, .t 21], none, [8, 7]⟩,
 ⟨(some 7), .mov, [.t 22], none, [9, 9, 0, 1, 2, 3, 4, 5, 6, 7, 8, 9]⟩] false)
 (.seq
 (.region [⟨(some 23), .mov, [.t 7], none, []⟩,
 ⟨(some 24), (.bin .neq), [.t 23, .c (.int .i64 0)], none, [0]⟩] false)
 (.cond (.t 24)
 (.seq
 (.region [⟨(some 25), .mov, [.t 7], none, []⟩,
 ⟨(some 6), .mov, [.t 25], none, [0, 0]⟩] false)
 .ret)
 .skip)))
 (.keep [1, 2, 3] [3] b223k3)))
def d223 : DFn := ⟨3, 68, [.tmp 6], b223⟩
theorem body223 : d223.body = b223 := rfl
theorem res223 : d223.res = [.tmp 6] := rfl
theorem k223 : chkFn Tryz.prog Tryz.f223 d223 = true := by kernel_rfl

/-- (guidevane/lake.table).holds -/
def b218 : DCode :=
 (.seq
 (.region [⟨(some 2), .box, [.t 0], none, []⟩,
 ⟨(some 4), .mov, [.c (.bool false)], none, []⟩] false)
 (.seq
 (.region [⟨(some 5), .mov, [.t 1], none, []⟩,
 ⟨(some 6), (.load true 1), [.t 2], none, []⟩,
 ⟨(some 7), .call, [.f 209, .t 6], none, [1]⟩,
 ⟨(some 8), (.field 1 false 1), [.t 7], none, [2]⟩,
 ⟨(some 9), (.load true 1), [.t 2], none, []⟩,
 ⟨(some 10), .call, [.f 210, .t 9], none, [4, 2]⟩,
 ⟨(some 11), (.field 1 false 1), [.t 10], none, [5]⟩,
 ⟨(some 12), .call, [.f 270, .t 5, .t 8, .t 11], none, [0, 3, 6, 5]⟩,
 ⟨(some 4), .mov, [.t 12], none, [7, 7, 0, 1, 2, 3, 4, 5, 6, 7]⟩] true)
 .ret))
def d218 : DFn := ⟨2, 13, [.tmp 4], b218⟩
theorem body218 : d218.body = b218 := rfl
theorem res218 : d218.res = [.tmp 4] := rfl
theorem k218 : chkFn Tryz.prog Tryz.f218 d218 = true := by kernel_rfl

/-- (guidevane/lake.table).pieceTo -/
def b277 : DCode :=
 (.seq
 (.region [⟨(some 2), .box, [.t 0], none, []⟩,
 ⟨(some 4), (.alloc [(.imm (.int .i64 0)), (.imm (.int .i64 0)), (.imm (.int .i64 0)), (.imm (.int .i64 0))]), [], none, []⟩] false)
 (.seq
 (.region [⟨(some 6), (.faddr 0 true 1), [.t 2], none, []⟩,
 ⟨(some 7), (.faddr 0 false 1), [.t 6], none, [0]⟩,
 ⟨(some 8), (.load false 1), [.t 7], none, [1]⟩,
 ⟨(some 9), (.slice 2 true false), [.t 8, .c (.int .i64 1)], none, [2]⟩,
 ⟨(some 10), .mov, [.t 1], none, []⟩,
 ⟨(some 11), .call, [.f 313, .t 9, .t 10], none, [3, 4]⟩,
 ⟨(some 12), (.bin .add), [.c (.int .i64 1), .t 11], none, [5]⟩,
 ⟨(some 5), .mov, [.t 12], none, [6, 5, 0, 1, 2, 3, 4, 5, 6]⟩] false)
 (.seq
 (.region [⟨(some 13), (.faddr 0 true 1), [.t 2], none, []⟩,
 ⟨(some 14), (.faddr 0 false 1), [.t 13], none, [0]⟩,
 ⟨(some 15), (.load false 1), [.t 14], none, [1]⟩,
 ⟨(some 16), .mov, [.t 5], none, []⟩,
 ⟨(some 17), (.bin .sub), [.t 16, .c (.int .i64 1)], none, [3]⟩,
 ⟨(some 18), (.iaddr 2), [.t 15, .t 17], none, [2, 4]⟩,
 ⟨(some 19), (.load true 2), [.t 18], none, [5]⟩,
 ⟨(some 20), (.faddr 0 true 1), [.t 2], none, []⟩,
 ⟨(some 21), (.faddr 0 false 1), [.t 20], none, [7]⟩,
 ⟨(some 22), (.load false 1), [.t 21], none, [8]⟩,
 ⟨(some 23), .mov, [.t 5], none, []⟩,
 ⟨(some 24), (.iaddr 2), [.t 22, .t 23], none, [9, 10]⟩,
 ⟨(some 25), (.load true 2), [.t 24], none, [11]⟩,
 ⟨(some 26), (.build [(.imm (.int .i64 0)), (.imm (.int .i64 0)), (.imm (.int .i64 0)), (.imm (.int .i64 0))] [(0, 2), (2, 2)]), [.t 19, .t 25], none, [6, 12]⟩,
 ⟨none, (.store 4), [.t 4, .t 26], none, [13, 0, 1, 2, 3, 4, 5, 6, 7, 8, 9, 10, 11, 12, 13]⟩] true)
 .ret)))
def d277 : DFn := ⟨2, 27, [.cell 4 true 4], b277⟩
theorem body277 : d277.body = b277 := rfl
theorem res277 : d277.res = [.cell 4 true 4] := rfl
theorem k277 : chkFn Tryz.prog Tryz.f277 d277 = true := by kernel_rfl

/-- (guidevane/lake.table).volumeAt$1 -/
def b281 : DCode :=
 (.seq
 (.region [⟨(some 2), .box, [.t 0], none, []⟩,
 ⟨(some 3), .mov, [.c (.bool false)], none, []⟩] false)
 (.seq
 (.region [⟨(some 4), (.faddr 0 false 1), [.t 2], none, []⟩,
 ⟨(some 5), (.load false 1), [.t 4], none, [0]⟩,
 ⟨(some 6), (.load false 1), [.t 1], none, []⟩,
 ⟨(some 7), (.bin .geq), [.t 5, .t 6], none, [1, 2]⟩,
 ⟨(some 3), .mov, [.t 7], none, [3, 0, 1, 2, 3]⟩] false)
 .ret))
def d281 : DFn := ⟨2, 8, [.tmp 3], b281⟩
theorem body281 : d281.body = b281 := rfl
theorem res281 : d281.res = [.tmp 3] := rfl
theorem k281 : chkFn Tryz.prog Tryz.f281 d281 = true := by kernel_rfl

/-- guidevane/lake.floor -/
def b282k0 : DCode :=
 (.seq
 (.region [⟨(some 15), .mov, [.t 5], none, []⟩,
 ⟨(some 4), .mov, [.t 15], none, [0, 0]⟩] false)
 .ret)
def b282 : DCode :=
 (.seq
 (.region [⟨(some 4), .mov, [.c (.int .i64 0)], none, []⟩] false)
 (.seq
 (.region [⟨(some 6), .mov, [.t 0], none, []⟩,
 ⟨(some 7), .mov, [.t 1], none, []⟩,
 ⟨(some 8), (.bin .quo), [.t 6, .t 7], none, [0, 1]⟩,
 ⟨(some 5), .mov, [.t 8], none, [2, 0, 1, 2]⟩] false)
 (.seq
 (.seq
 (.region [⟨(some 9), .mov, [.t 0], none, []⟩,
 ⟨(some 10), .mov, [.t 1], none, []⟩,
 ⟨(some 11), (.bin .rem), [.t 9, .t 10], none, [0, 1]⟩,
 ⟨(some 12), (.bin .lss), [.t 11, .c (.int .i64 0)], none, [2]⟩] false)
 (.cond (.t 12)
 (.region [⟨(some 13), .mov, [.t 5], none, []⟩,
 ⟨(some 14), (.bin .sub), [.t 13, .c (.int .i64 1)], none, [0]⟩,
 ⟨(some 5), .mov, [.t 14], none, [1, 0, 1]⟩] false)
 .skip))
 (.keep [5] [] b282k0))))
def d282 : DFn := ⟨2, 16, [.tmp 4], b282⟩
theorem body282 : d282.body = b282 := rfl
theorem res282 : d282.res = [.tmp 4] := rfl
theorem k282 : chkFn Tryz.prog Tryz.f282 d282 = true := by kernel_rfl

/-- guidevane/lake.ceil -/
def b283 : DCode :=
 (.seq
 (.region [⟨(some 4), .mov, [.c (.int .i64 0)], none, []⟩] false)
 (.seq
 (.region [⟨(some 5), .mov, [.t 0], none, []⟩,
 ⟨(some 6), (.un .neg), [.t 5], none, [0]⟩,
 ⟨(some 7), .mov, [.t 1], none, []⟩,
 ⟨(some 8), .call, [.f 282, .t 6, .t 7], none, [1, 2]⟩,
 ⟨(some 9), (.un .neg), [.t 8], none, [3]⟩,
 ⟨(some 4), .mov, [.t 9], none, [4, 3, 0, 1, 2, 3, 4]⟩] false)
 .ret))
def d283 : DFn := ⟨2, 10, [.tmp 4], b283⟩
theorem body283 : d283.body = b283 := rfl
theorem res283 : d283.res = [.tmp 4] := rfl
theorem k283 : chkFn Tryz.prog Tryz.f283 d283 = true := by kernel_rfl

/-- (guidevane/lake.table).byVolume$1 -/
def b278 : DCode :=
 (.seq
 (.region [⟨(some 2), .box, [.t 0], none, []⟩,
 ⟨(some 3), .mov, [.c (.bool false)], none, []⟩] false)
 (.seq
 (.region [⟨(some 4), (.faddr 1 false 1), [.t 2], none, []⟩,
 ⟨(some 5), (.load false 1), [.t 4], none, [0]⟩,
 ⟨(some 6), (.load false 1), [.t 1], none, []⟩,
 ⟨(some 7), (.bin .geq), [.t 5, .t 6], none, [1, 2]⟩,
 ⟨(some 3), .mov, [.t 7], none, [3, 0, 1, 2, 3]⟩] false)
 .ret))
def d278 : DFn := ⟨2, 8, [.tmp 3], b278⟩
theorem body278 : d278.body = b278 := rfl
theorem res278 : d278.res = [.tmp 3] := rfl
theorem k278 : chkFn Tryz.prog Tryz.f278 d278 = true := by kernel_rfl

/-- slices.ContainsFunc[[]int,int] -/
def b243 : DCode :=
 (.seq
 (.region [⟨(some 4), .mov, [.c (.bool false)], none, []⟩] false)
 (.seq
 (.region [⟨(some 5), .movv, [.t 0], none, []⟩,
 ⟨(some 6), .mov, [.t 1], none, []⟩,
 ⟨(some 7), .call, [.f 198, .t 5, .t 6], none, [0, 1]⟩,
 ⟨(some 8), (.bin .geq), [.t 7, .c (.int .i64 0)], none, [2]⟩,
 ⟨(some 4), .mov, [.t 8], none, [3, 2, 0, 1, 2, 3]⟩] false)
 .ret))
def d243 : DFn := ⟨2, 9, [.tmp 4], b243⟩
theorem body243 : d243.body = b243 := rfl
theorem res243 : d243.res = [.tmp 4] := rfl
theorem k243 : chkFn Tryz.prog Tryz.f243 d243 = true := by kernel_rfl

/-- guidevane/lake.netErr$1 -/
def b279 : DCode :=
 (.seq
 (.region [⟨(some 2), .mov, [.c (.bool false)], none, []⟩] false)
 (.seq
 (.region [⟨(some 3), .mov, [.t 0], none, []⟩,
 ⟨(some 4), .call, [.f 270, .t 3, .c (.int .i64 (-10000000)), .c (.int .i64 10000000)], none, [0]⟩,
 ⟨(some 5), (.un .not), [.t 4], none, [1]⟩,
 ⟨(some 2), .mov, [.t 5], none, [2, 1, 0, 1, 2]⟩] false)
 .ret))
def d279 : DFn := ⟨1, 6, [.tmp 2], b279⟩
theorem body279 : d279.body = b279 := rfl
theorem res279 : d279.res = [.tmp 2] := rfl
theorem k279 : chkFn Tryz.prog Tryz.f279 d279 = true := by kernel_rfl

/-- (guidevane/lake.table).readingsErr$1 -/
def b280 : DCode :=
 (.seq
 (.region [⟨(some 3), .mov, [.c (.bool false)], none, []⟩] false)
 (.seq
 (.region [⟨(some 4), .mov, [.t 0], none, []⟩,
 ⟨(some 5), (.load true 1), [.t 1], none, []⟩,
 ⟨(some 6), .call, [.f 209, .t 5], none, [1]⟩,
 ⟨(some 7), (.field 0 false 1), [.t 6], none, [2]⟩,
 ⟨(some 8), (.load true 1), [.t 1], none, []⟩,
 ⟨(some 9), .call, [.f 210, .t 8], none, [4, 2]⟩,
 ⟨(some 10), (.field 0 false 1), [.t 9], none, [5]⟩,
 ⟨(some 11), .call, [.f 270, .t 4, .t 7, .t 10], none, [0, 3, 6, 5]⟩,
 ⟨(some 3), .mov, [.t 11], none, [7, 7, 0, 1, 2, 3, 4, 5, 6, 7]⟩] true)
 .ret))
def d280 : DFn := ⟨2, 12, [.tmp 3], b280⟩
theorem body280 : d280.body = b280 := rfl
theorem res280 : d280.res = [.tmp 3] := rfl
theorem k280 : chkFn Tryz.prog Tryz.f280 d280 = true := by kernel_rfl

/-- slices.IndexFunc[[]guidevane/api.LakeKnot,guidevane/api.LakeKnot] -/
def b313k0 : DCode :=
 (.region [⟨(some 18), (.bin .add), [.t 8, .c (.int .i64 1)], none, []⟩,
 ⟨(some 8), .mov, [.t 18], none, [0]⟩] false)
def b313k1 : DCode :=
 (.seq
 (.block 1
 (.seq
 (.region [⟨(some 10), .mov, [.t 8], none, []⟩,
 ⟨(some 5), .mov, [.t 10], none, [0, 0]⟩] false)
 (.seq
 (.region [⟨(some 11), .mov, [.t 1], none, []⟩,
 ⟨(some 12), .movv, [.t 0], none, []⟩,
 ⟨(some 13), .mov, [.t 5], none, []⟩,
 ⟨(some 14), (.iaddr 2), [.t 12, .t 13], none, [1, 2]⟩,
 ⟨(some 15), (.load true 2), [.t 14], none, [3]⟩,
 ⟨(some 16), .call, [.t 11, .t 15], none, [0, 4]⟩] false)
 (.cond (.t 16)
 (.seq
 (.region [⟨(some 17), .mov, [.t 5], none, []⟩,
 ⟨(some 4), .mov, [.t 17], none, [0, 0]⟩] false)
 .ret)
 .skip))))
 (.keep [0, 1, 7, 8] [] b313k0))
def b313l0 : DCode := .keep [0, 1, 7, 8] []
 (.seq
 (.region [⟨(some 9), (.bin .lss), [.t 8, .t 7], none, []⟩] false)
 (.seq
 (.cond (.t 9)
 .skip
 (.exit 0))
 (.keep [0, 1, 7, 8] [] b313k1)))
def b313k2 : DCode :=
 (.seq
 (.region [⟨(some 4), .mov, [.c (.int .i64 (-1))], none, []⟩] false)
 .ret)
def b313 : DCode :=
 (.seq
 (.region [⟨(some 4), .mov, [.c (.int .i64 0)], none, []⟩] false)
 (.seq
 (.seq
 (.region [⟨(some 6), .movv, [.t 0], none, []⟩,
 ⟨(some 7), .len, [.t 6], none, [0]⟩,
 ⟨(some 8), .mov, [.c (.int .i64 0)], none, []⟩] false)
 (.block 0
 (.loop b313l0)))
 (.keep [] [] b313k2)))
def d313 : DFn := ⟨2, 19, [.tmp 4], b313⟩
theorem body313 : d313.body = b313 := rfl
theorem res313 : d313.res = [.tmp 4] := rfl
theorem k313 : chkFn Tryz.prog Tryz.f313 d313 = true := by kernel_rfl

/-- slices.IndexFunc[[]int,int] -/
def b198k0 : DCode :=
 (.region [⟨(some 18), (.bin .add), [.t 8, .c (.int .i64 1)], none, []⟩,
 ⟨(some 8), .mov, [.t 18], none, [0]⟩] false)
def b198k1 : DCode :=
 (.seq
 (.block 1
 (.seq
 (.region [⟨(some 10), .mov, [.t 8], none, []⟩,
 ⟨(some 5), .mov, [.t 10], none, [0, 0]⟩] false)
 (.seq
 (.region [⟨(some 11), .mov, [.t 1], none, []⟩,
 ⟨(some 12), .movv, [.t 0], none, []⟩,
 ⟨(some 13), .mov, [.t 5], none, []⟩,
 ⟨(some 14), (.iaddr 1), [.t 12, .t 13], none, [1, 2]⟩,
 ⟨(some 15), (.load false 1), [.t 14], none, [3]⟩,
 ⟨(some 16), .call, [.t 11, .t 15], none, [0, 4]⟩] false)
 (.cond (.t 16)
 (.seq
 (.region [⟨(some 17), .mov, [.t 5], none, []⟩,
 ⟨(some 4), .mov, [.t 17], none, [0, 0]⟩] false)
 .ret)
 .skip))))
 (.keep [0, 1, 7, 8] [] b198k0))
def b198l0 : DCode := .keep [0, 1, 7, 8] []
 (.seq
 (.region [⟨(some 9), (.bin .lss), [.t 8, .t 7], none, []⟩] false)
 (.seq
 (.cond (.t 9)
 .skip
 (.exit 0))
 (.keep [0, 1, 7, 8] [] b198k1)))
def b198k2 : DCode :=
 (.seq
 (.region [⟨(some 4), .mov, [.c (.int .i64 (-1))], none, []⟩] false)
 .ret)
def b198 : DCode :=
 (.seq
 (.region [⟨(some 4), .mov, [.c (.int .i64 0)], none, []⟩] false)
 (.seq
 (.seq
 (.region [⟨(some 6), .movv, [.t 0], none, []⟩,
 ⟨(some 7), .len, [.t 6], none, [0]⟩,
 ⟨(some 8), .mov, [.c (.int .i64 0)], none, []⟩] false)
 (.block 0
 (.loop b198l0)))
 (.keep [] [] b198k2)))
def d198 : DFn := ⟨2, 19, [.tmp 4], b198⟩
theorem body198 : d198.body = b198 := rfl
theorem res198 : d198.res = [.tmp 4] := rfl
theorem k198 : chkFn Tryz.prog Tryz.f198 d198 = true := by kernel_rfl

end Go.DI

