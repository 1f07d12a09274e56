/- Contracts of the statements' examples. No condition. -/
import Derived.Test.YtadmimjaelodkaaSmGe
import Derived.Test.YtadmimjaelodkaaProg
import Derived.KernelRfl
import Derived.Test.YtadmimjaelodkaaWoGh
import Derived.Test.YtadmimjaelodkaaWoGj
/- The functions of the reference and of the statements about waves, as data. No condition. -/
namespace Go.DI
open Go.Proofs Go.RowKit
def b34 : DCode :=
 (.seq
 (.region [⟨(some 6), .mov, [.c (.bool false)], none, []⟩] false)
 (.seq
 (.region [⟨(some 7), .mov, [.t 1], none, []⟩,
 ⟨(some 8), .mov, [.t 0], none, []⟩,
 ⟨(some 9), (.bin .leq), [.t 7, .t 8], none, [0, 1]⟩,
 ⟨(some 10), .mov, [.t 9], none, [2]⟩,
 ⟨(some 11), .mov, [.t 0], (some (10, true)), [3]⟩,
 ⟨(some 12), .mov, [.t 2], (some (10, true)), [3]⟩,
 ⟨(some 13), (.bin .leq), [.t 11, .t 12], (some (10, true)), [4, 5, 3]⟩,
 ⟨(some 14), .pick, [.t 10, .t 13, .c (.bool false)], none, [3, 6]⟩,
 ⟨(some 6), .mov, [.t 14], none, [7, 3, 0, 1, 2, 3, 4, 5, 6, 7]⟩] false)
 .ret))
def d34 : DFn := ⟨3, 15, [.tmp 6], b34⟩
theorem body34 : d34.body = b34 := rfl
theorem res34 : d34.res = [.tmp 6] := rfl
theorem k34 : chkFn Try.prog Try.f34 d34 = true := by kernel_rfl

def b45k0 : DCode :=
 (.region [⟨(some 15), .mov, [.t 5], none, []⟩,
 ⟨(some 16), (.bin .add), [.t 15, .c (.int .i64 1)], none, [0]⟩,
 ⟨(some 5), .mov, [.t 16], none, [1, 0, 1]⟩] false)
def b45k1 : DCode :=
 (.seq
 (.block 1
 (.seq
 (.region [⟨(some 17), .movv, [.t 0], none, []⟩,
 ⟨(some 18), .mov, [.t 5], none, []⟩,
 ⟨(some 19), (.iaddr 1), [.t 17, .t 18], none, [0, 1]⟩,
 ⟨(some 20), (.load false 1), [.t 19], none, [2]⟩,
 ⟨(some 21), .movv, [.t 1], none, []⟩,
 ⟨(some 22), .mov, [.t 5], none, []⟩,
 ⟨(some 23), (.iaddr 1), [.t 21, .t 22], none, [4, 5]⟩,
 ⟨(some 24), (.load false 1), [.t 23], none, [6]⟩,
 ⟨(some 25), (.bin .neq), [.t 20, .t 24], none, [3, 7]⟩] true)
 (.cond (.t 25)
 (.seq
 (.region [⟨(some 4), .mov, [.c (.bool false)], none, []⟩] false)
 .ret)
 .skip)))
 (.keep [0, 1, 5] [] b45k0))
def b45l0 : DCode := .keep [0, 1, 5] []
 (.seq
 (.seq
 (.region [⟨(some 11), .mov, [.t 5], none, []⟩,
 ⟨(some 12), .movv, [.t 0], none, []⟩,
 ⟨(some 13), .len, [.t 12], none, [1]⟩,
 ⟨(some 14), (.bin .lss), [.t 11, .t 13], none, [0, 2]⟩] false)
 (.cond (.t 14)
 .skip
 (.exit 0)))
 (.keep [0, 1, 5] [] b45k1))
def b45k2 : DCode :=
 (.seq
 (.region [⟨(some 4), .mov, [.c (.bool true)], none, []⟩] false)
 .ret)
def b45k3 : DCode :=
 (.seq
 (.seq
 (.region [⟨(some 5), .mov, [.c (.int .i64 0)], none, []⟩] false)
 (.block 0
 (.loop b45l0)))
 (.keep [] [] b45k2))
def b45 : DCode :=
 (.seq
 (.region [⟨(some 4), .mov, [.c (.bool false)], none, []⟩] false)
 (.seq
 (.seq
 (.region [⟨(some 6), .movv, [.t 0], none, []⟩,
 ⟨(some 7), .len, [.t 6], none, [0]⟩,
 ⟨(some 8), .movv, [.t 1], none, []⟩,
 ⟨(some 9), .len, [.t 8], none, [2]⟩,
 ⟨(some 10), (.bin .neq), [.t 7, .t 9], none, [1, 3]⟩] false)
 (.cond (.t 10)
 (.seq
 (.region [⟨(some 4), .mov, [.c (.bool false)], none, []⟩] false)
 .ret)
 .skip))
 (.keep [0, 1] [] b45k3)))
def d45 : DFn := ⟨2, 26, [.tmp 4], b45⟩
theorem body45 : d45.body = b45 := rfl
theorem res45 : d45.res = [.tmp 4] := rfl
theorem k45 : chkFn Try.prog Try.f45 d45 = true := by kernel_rfl

def b24 : DCode :=
 (.seq
 (.region [⟨(some 2), .mov, [.c (.slc 1 [])], none, []⟩] false)
 (.seq
 (.region [⟨(some 3), (.bsl 1), [], none, []⟩,
 ⟨(some 4), .movv, [.t 0], none, []⟩,
 ⟨(some 5), (.append 1 8 false), [.t 3, .t 4], none, [0, 1]⟩,
 ⟨(some 2), .movv, [.t 5], none, [2, 2, 0, 1, 2]⟩] false)
 .ret))
def d24 : DFn := ⟨1, 6, [.tmp 2], b24⟩
theorem body24 : d24.body = b24 := rfl
theorem res24 : d24.res = [.tmp 2] := rfl
theorem k24 : chkFn Try.prog Try.f24 d24 = true := by kernel_rfl

def b51k0 : DCode :=
 (.region [⟨(some 10), .mov, [.t 5], none, []⟩,
 ⟨(some 11), (.bin .add), [.t 10, .c (.int .i64 1)], none, [0]⟩,
 ⟨(some 5), .mov, [.t 11], none, [1, 0, 1]⟩] false)
def b51k1 : DCode :=
 (.seq
 (.block 1
 (.seq
 (.region [⟨(some 12), .movv, [.t 0], none, []⟩,
 ⟨(some 13), .mov, [.t 5], none, []⟩,
 ⟨(some 14), (.iaddr 1), [.t 12, .t 13], none, [0, 1]⟩,
 ⟨(some 15), (.load false 1), [.t 14], none, [2]⟩,
 ⟨(some 16), .mov, [.t 1], none, []⟩,
 ⟨(some 17), (.bin .eql), [.t 15, .t 16], none, [3, 4]⟩] false)
 (.cond (.t 17)
 (.seq
 (.region [⟨(some 4), .mov, [.c (.bool true)], none, []⟩] false)
 .ret)
 .skip)))
 (.keep [0, 1, 5] [] b51k0))
def b51l0 : DCode := .keep [0, 1, 5] []
 (.seq
 (.seq
 (.region [⟨(some 6), .mov, [.t 5], none, []⟩,
 ⟨(some 7), .movv, [.t 0], none, []⟩,
 ⟨(some 8), .len, [.t 7], none, [1]⟩,
 ⟨(some 9), (.bin .lss), [.t 6, .t 8], none, [0, 2]⟩] false)
 (.cond (.t 9)
 .skip
 (.exit 0)))
 (.keep [0, 1, 5] [] b51k1))
def b51k2 : DCode :=
 (.seq
 (.region [⟨(some 4), .mov, [.c (.bool false)], none, []⟩] false)
 .ret)
def b51 : DCode :=
 (.seq
 (.region [⟨(some 4), .mov, [.c (.bool false)], none, []⟩] false)
 (.seq
 (.seq
 (.region [⟨(some 5), .mov, [.c (.int .i64 0)], none, []⟩] false)
 (.block 0
 (.loop b51l0)))
 (.keep [] [] b51k2)))
def d51 : DFn := ⟨2, 18, [.tmp 4], b51⟩
theorem body51 : d51.body = b51 := rfl
theorem res51 : d51.res = [.tmp 4] := rfl
theorem k51 : chkFn Try.prog Try.f51 d51 = true := by kernel_rfl

def b137 : DCode :=
 (.seq
 (.region [⟨(some 2), .mov, [.c (.slc 2 [])], none, []⟩] false)
 (.seq
 (.region [⟨(some 3), (.bsl 2), [], none, []⟩,
 ⟨(some 4), .movv, [.t 0], none, []⟩,
 ⟨(some 5), (.append 2 16 false), [.t 3, .t 4], none, [0, 1]⟩,
 ⟨(some 2), .movv, [.t 5], none, [2, 2, 0, 1, 2]⟩] false)
 .ret))
def d137 : DFn := ⟨1, 6, [.tmp 2], b137⟩
theorem body137 : d137.body = b137 := rfl
theorem res137 : d137.res = [.tmp 2] := rfl
theorem k137 : chkFn Try.prog Try.f137 d137 = true := by kernel_rfl

def b22 : DCode :=
 (.seq
 (.region [⟨(some 1), .box, [.t 0], none, []⟩,
 ⟨(some 2), (.alloc [(.imm (.slc 2 [])), (.imm (.slc 1 []))]), [], none, []⟩] false)
 (.seq
 (.region [⟨(some 3), (.bsl 2), [], none, []⟩,
 ⟨(some 4), (.faddr 0 false 1), [.t 1], none, []⟩,
 ⟨(some 5), (.load false 1), [.t 4], none, [1]⟩,
 ⟨(some 6), (.appq 2 16), [.t 3, .t 5], none, [0, 2]⟩,
 ⟨(some 7), (.faddr 1 false 1), [.t 1], none, []⟩,
 ⟨(some 8), (.load false 1), [.t 7], none, [4]⟩,
 ⟨(some 9), .call, [.f 24, .t 8], none, [5, 3]⟩,
 ⟨(some 10), (.build [(.imm (.slc 2 [])), (.imm (.slc 1 []))] [(0, 1), (1, 1)]), [.t 6, .t 9], none, [3, 6]⟩,
 ⟨none, (.store 2), [.t 2, .t 10], none, [7, 6, 0, 1, 2, 3, 4, 5, 6, 7]⟩] true)
 .ret))
def d22 : DFn := ⟨1, 11, [.cell 2 true 2], b22⟩
theorem body22 : d22.body = b22 := rfl
theorem res22 : d22.res = [.cell 2 true 2] := rfl
theorem k22 : chkFn Try.prog Try.f22 d22 = true := by kernel_rfl

def b23 : DCode :=
 (.seq
 (.region [⟨(some 1), .box, [.t 0], none, []⟩,
 ⟨(some 2), (.alloc [(.imm (.slc 1 [])), (.imm (.slc 1 [])), (.imm (.slc 1 []))]), [], none, []⟩] false)
 (.seq
 (.region [⟨(some 3), (.faddr 0 false 1), [.t 1], none, []⟩,
 ⟨(some 4), (.load false 1), [.t 3], none, [0]⟩,
 ⟨(some 5), .call, [.f 24, .t 4], none, [1]⟩,
 ⟨(some 6), (.faddr 1 false 1), [.t 1], none, []⟩,
 ⟨(some 7), (.load false 1), [.t 6], none, [3]⟩,
 ⟨(some 8), .call, [.f 24, .t 7], none, [4, 2]⟩,
 ⟨(some 9), (.faddr 2 false 1), [.t 1], none, []⟩,
 ⟨(some 10), (.load false 1), [.t 9], none, [6]⟩,
 ⟨(some 11), .call, [.f 24, .t 10], none, [7, 5]⟩,
 ⟨(some 12), (.build [(.imm (.slc 1 [])), (.imm (.slc 1 [])), (.imm (.slc 1 []))] [(0, 1), (1, 1), (2, 1)]), [.t 5, .t 8, .t 11], none, [2, 5, 8]⟩,
 ⟨none, (.store 3), [.t 2, .t 12], none, [9, 8, 0, 1, 2, 3, 4, 5, 6, 7, 8, 9]⟩] true)
 .ret))
def d23 : DFn := ⟨1, 13, [.cell 2 true 3], b23⟩
theorem body23 : d23.body = b23 := rfl
theorem res23 : d23.res = [.cell 2 true 3] := rfl
theorem k23 : chkFn Try.prog Try.f23 d23 = true := by kernel_rfl

def b26k0 : DCode :=
 (.seq
 (.region [⟨(some 14), (.load true 2), [.t 2], none, []⟩,
 ⟨(some 15), (.load true 3), [.t 3], none, []⟩,
 ⟨(some 16), .call, [.f 74, .t 14, .t 15], none, [0, 1]⟩,
 ⟨(some 13), .mov, [.t 16], none, [2]⟩,
 ⟨(some 17), (.ext 0), [.t 13], none, [3]⟩,
 ⟨(some 18), (.ext 1), [.t 13], none, [3]⟩,
 ⟨(some 6), .mov, [.t 17], none, [4, 2, 0, 1, 2, 3, 4]⟩,
 ⟨(some 7), .mov, [.t 18], none, [5, 6, 0, 1, 2, 3, 4, 5, 6]⟩] false)
 (.seq
 (.region [⟨(some 19), .mov, [.t 7], none, []⟩,
 ⟨(some 4), .mov, [.t 19], none, [0, 0]⟩] false)
 .ret))
def b26 : DCode :=
 (.seq
 (.region [⟨(some 2), .box, [.t 0], none, []⟩,
 ⟨(some 3), .box, [.t 1], none, []⟩,
 ⟨(some 4), .mov, [.c (.int .i64 0)], none, []⟩] false)
 (.seq
 (.seq
 (.region [⟨(some 8), (.load true 2), [.t 2], none, []⟩,
 ⟨(some 9), .call, [.f 37, .t 8], none, [0]⟩,
 ⟨(some 5), .mov, [.t 9], none, [1, 1, 0, 1]⟩] false)
 (.seq
 (.region [⟨(some 10), .mov, [.t 5], none, []⟩,
 ⟨(some 11), (.bin .neq), [.t 10, .c (.int .i64 0)], none, [0]⟩] false)
 (.cond (.t 11)
 (.seq
 (.region [⟨(some 12), .mov, [.t 5], none, []⟩,
 ⟨(some 4), .mov, [.t 12], none, [0, 0]⟩] false)
 .ret)
 .skip)))
 (.keep [2, 3] [2, 3] b26k0)))
def d26 : DFn := ⟨2, 20, [.tmp 4], b26⟩
theorem body26 : d26.body = b26 := rfl
theorem res26 : d26.res = [.tmp 4] := rfl
theorem k26 : chkFn Try.prog Try.f26 d26 = true := by kernel_rfl

def b27 : DCode :=
 (.seq
 (.region [⟨(some 2), .box, [.t 0], none, []⟩,
 ⟨(some 3), .box, [.t 1], none, []⟩,
 ⟨(some 4), .mov, [.c (.bool false)], none, []⟩] false)
 (.seq
 (.region [⟨(some 5), (.faddr 0 false 1), [.t 2], none, []⟩,
 ⟨(some 6), (.load false 1), [.t 5], none, [0]⟩,
 ⟨(some 7), (.faddr 0 false 1), [.t 3], none, []⟩,
 ⟨(some 8), (.load false 1), [.t 7], none, [2]⟩,
 ⟨(some 9), .call, [.f 45, .t 6, .t 8], none, [1, 3]⟩,
 ⟨(some 10), .mov, [.t 9], none, [4, 4]⟩,
 ⟨(some 11), (.faddr 1 false 1), [.t 2], (some (10, true)), [5]⟩,
 ⟨(some 12), (.load false 1), [.t 11], (some (10, true)), [6, 5]⟩,
 ⟨(some 13), (.faddr 1 false 1), [.t 3], (some (10, true)), [5]⟩,
 ⟨(some 14), (.load false 1), [.t 13], (some (10, true)), [8, 5]⟩,
 ⟨(some 15), .call, [.f 45, .t 12, .t 14], (some (10, true)), [7, 9, 5, 5]⟩,
 ⟨(some 16), .pick, [.t 10, .t 15, .c (.bool false)], none, [5, 10]⟩,
 ⟨(some 17), .mov, [.t 16], none, [11, 10]⟩,
 ⟨(some 18), (.faddr 2 false 1), [.t 2], (some (17, true)), [12]⟩,
 ⟨(some 19), (.load false 1), [.t 18], (some (17, true)), [13, 12]⟩,
 ⟨(some 20), (.faddr 2 false 1), [.t 3], (some (17, true)), [12]⟩,
 ⟨(some 21), (.load false 1), [.t 20], (some (17, true)), [15, 12]⟩,
 ⟨(some 22), .call, [.f 45, .t 19, .t 21], (some (17, true)), [14, 16, 12, 12]⟩,
 ⟨(some 23), .pick, [.t 17, .t 22, .c (.bool false)], none, [12, 17]⟩,
 ⟨(some 4), .mov, [.t 23], none, [18, 17, 0, 1, 2, 3, 4, 5, 6, 7, 8, 9, 10, 11, 12, 13, 14, 15, 16, 17, 18]⟩] false)
 .ret))
def d27 : DFn := ⟨2, 24, [.tmp 4], b27⟩
theorem body27 : d27.body = b27 := rfl
theorem res27 : d27.res = [.tmp 4] := rfl
theorem k27 : chkFn Try.prog Try.f27 d27 = true := by kernel_rfl

def b28k0 : DCode :=
 (.seq
 (.region [⟨(some 2), .mov, [.c (.int .i64 0)], none, []⟩] false)
 .ret)
def b28 : DCode :=
 (.seq
 (.region [⟨(some 2), .mov, [.c (.int .i64 0)], none, []⟩] false)
 (.seq
 (.seq
 (.region [⟨(some 3), .mov, [.t 0], none, []⟩,
 ⟨(some 4), .call, [.f 34, .t 3, .c (.int .i64 (-1000)), .c (.int .i64 1000)], none, [0]⟩,
 ⟨(some 5), (.un .not), [.t 4], none, [1]⟩] false)
 (.cond (.t 5)
 (.seq
 (.region [⟨(some 2), .mov, [.c (.int .i64 2)], none, []⟩] false)
 .ret)
 .skip))
 (.keep [] [] b28k0)))
def d28 : DFn := ⟨1, 6, [.tmp 2], b28⟩
theorem body28 : d28.body = b28 := rfl
theorem res28 : d28.res = [.tmp 2] := rfl
theorem k28 : chkFn Try.prog Try.f28 d28 = true := by kernel_rfl

def b37 : DCode :=
 (.seq
 (.region [⟨(some 1), .box, [.t 0], none, []⟩,
 ⟨(some 2), .mov, [.c (.int .i64 0)], none, []⟩] false)
 (.seq
 (.region [⟨(some 6), (.load true 2), [.t 1], none, []⟩,
 ⟨(some 7), .call, [.f 61, .t 6], none, [0]⟩,
 ⟨(some 5), .mov, [.t 7], none, [1]⟩,
 ⟨(some 8), (.ext 0), [.t 5], none, [2]⟩,
 ⟨(some 9), (.ext 1), [.t 5], none, [2]⟩,
 ⟨(some 3), .mov, [.t 8], none, [3, 1, 0, 1, 2, 3]⟩,
 ⟨(some 4), .mov, [.t 9], none, [4, 5, 0, 1, 2, 3, 4, 5]⟩] false)
 (.seq
 (.region [⟨(some 10), .mov, [.t 4], none, []⟩,
 ⟨(some 2), .mov, [.t 10], none, [0, 0]⟩] false)
 .ret)))
def d37 : DFn := ⟨1, 11, [.tmp 2], b37⟩
theorem body37 : d37.body = b37 := rfl
theorem res37 : d37.res = [.tmp 2] := rfl
theorem k37 : chkFn Try.prog Try.f37 d37 = true := by kernel_rfl

def b40 : DCode :=
 (.seq
 (.region [⟨(some 1), .box, [.t 0], none, []⟩,
 ⟨(some 2), .mov, [.c (.int .i64 0)], none, []⟩] false)
 (.seq
 (.region [⟨(some 3), (.load true 2), [.t 1], none, []⟩,
 ⟨(some 4), .call, [.f 97, .t 3], none, [0]⟩,
 ⟨(some 5), .len, [.t 4], none, [1]⟩,
 ⟨(some 2), .mov, [.t 5], none, [2, 1, 0, 1, 2]⟩] false)
 .ret))
def d40 : DFn := ⟨1, 6, [.tmp 2], b40⟩
theorem body40 : d40.body = b40 := rfl
theorem res40 : d40.res = [.tmp 2] := rfl
theorem k40 : chkFn Try.prog Try.f40 d40 = true := by kernel_rfl

def b47k0 : DCode :=
 (.seq
 (.region [⟨(some 2), .mov, [.c (.int .i64 0)], none, []⟩] false)
 .ret)
def b47 : DCode :=
 (.seq
 (.region [⟨(some 2), .mov, [.c (.int .i64 0)], none, []⟩] false)
 (.seq
 (.seq
 (.region [⟨(some 3), .mov, [.t 0], none, []⟩,
 ⟨(some 4), .call, [.f 34, .t 3, .c (.int .i64 0), .c (.int .i64 3)], none, [0]⟩,
 ⟨(some 5), (.un .not), [.t 4], none, [1]⟩] false)
 (.cond (.t 5)
 (.seq
 (.region [⟨(some 2), .mov, [.c (.int .i64 2)], none, []⟩] false)
 .ret)
 .skip))
 (.keep [] [] b47k0)))
def d47 : DFn := ⟨1, 6, [.tmp 2], b47⟩
theorem body47 : d47.body = b47 := rfl
theorem res47 : d47.res = [.tmp 2] := rfl
theorem k47 : chkFn Try.prog Try.f47 d47 = true := by kernel_rfl

def b61k0 : DCode :=
 (.region [⟨(some 27), .mov, [.t 4], none, []⟩,
 ⟨(some 28), (.bin .add), [.t 27, .c (.int .i64 1)], none, [0]⟩,
 ⟨(some 4), .mov, [.t 28], none, [1, 0, 1]⟩] false)
def b61k1 : DCode :=
 (.seq
 (.block 1
 (.seq
 (.region [⟨(some 29), (.faddr 0 false 1), [.t 1], none, []⟩,
 ⟨(some 30), (.load false 1), [.t 29], none, [0]⟩,
 ⟨(some 31), .mov, [.t 4], none, []⟩,
 ⟨(some 32), (.iaddr 2), [.t 30, .t 31], none, [1, 2]⟩,
 ⟨(some 33), (.faddr 0 false 1), [.t 32], none, [3]⟩,
 ⟨(some 34), (.load false 1), [.t 33], none, [4]⟩,
 ⟨(some 35), .call, [.f 34, .t 34, .c (.int .i64 1), .c (.int .i64 6)], none, [5]⟩,
 ⟨(some 36), (.un .not), [.t 35], none, [6]⟩,
 ⟨(some 37), .mov, [.t 36], none, [7, 6]⟩,
 ⟨(some 38), (.faddr 0 false 1), [.t 1], (some (37, false)), [8]⟩,
 ⟨(some 39), (.load false 1), [.t 38], (some (37, false)), [9, 8]⟩,
 ⟨(some 40), .mov, [.t 4], (some (37, false)), [8]⟩,
 ⟨(some 41), (.iaddr 2), [.t 39, .t 40], (some (37, false)), [10, 11, 8]⟩,
 ⟨(some 42), (.faddr 1 false 1), [.t 41], (some (37, false)), [12, 8]⟩,
 ⟨(some 43), (.load false 1), [.t 42], (some (37, false)), [13, 8]⟩,
 ⟨(some 44), .call, [.f 34, .t 43, .c (.int .i64 1), .c (.int .i64 10)], (some (37, false)), [14, 8, 8]⟩,
 ⟨(some 45), (.un .not), [.t 44], (some (37, false)), [15, 8]⟩,
 ⟨(some 46), .pick, [.t 37, .c (.bool true), .t 45], none, [8, 16]⟩] false)
 (.cond (.t 46)
 (.seq
 (.region [⟨(some 47), .mov, [.t 4], none, []⟩,
 ⟨(some 2), .mov, [.t 47], none, [0, 0]⟩,
 ⟨(some 3), .mov, [.c (.int .i64 2)], none, [1, 0, 1]⟩] false)
 .ret)
 .skip)))
 (.keep [1, 4] [1] b61k0))
def b61l0 : DCode := .keep [1, 4] [1]
 (.seq
 (.seq
 (.region [⟨(some 22), .mov, [.t 4], none, []⟩,
 ⟨(some 23), (.faddr 0 false 1), [.t 1], none, []⟩,
 ⟨(some 24), (.load false 1), [.t 23], none, [1]⟩,
 ⟨(some 25), .len, [.t 24], none, [2]⟩,
 ⟨(some 26), (.bin .lss), [.t 22, .t 25], none, [0, 3]⟩] false)
 (.cond (.t 26)
 .skip
 (.exit 0)))
 (.keep [1, 4] [1] b61k1))
def b61k2 : DCode :=
 (.region [⟨(some 53), .mov, [.t 5], none, []⟩,
 ⟨(some 54), (.bin .add), [.t 53, .c (.int .i64 1)], none, [0]⟩,
 ⟨(some 5), .mov, [.t 54], none, [1, 0, 1]⟩] false)
def b61k3 : DCode :=
 (.seq
 (.block 3
 (.seq
 (.region [⟨(some 55), (.faddr 1 false 1), [.t 1], none, []⟩,
 ⟨(some 56), (.load false 1), [.t 55], none, [0]⟩,
 ⟨(some 57), .mov, [.t 5], none, []⟩,
 ⟨(some 58), (.iaddr 1), [.t 56, .t 57], none, [1, 2]⟩,
 ⟨(some 59), (.load false 1), [.t 58], none, [3]⟩,
 ⟨(some 60), .call, [.f 34, .t 59, .c (.int .i64 0), .c (.int .i64 20)], none, [4]⟩,
 ⟨(some 61), (.un .not), [.t 60], none, [5]⟩] false)
 (.cond (.t 61)
 (.seq
 (.region [⟨(some 62), .mov, [.t 5], none, []⟩,
 ⟨(some 2), .mov, [.t 62], none, [0, 0]⟩,
 ⟨(some 3), .mov, [.c (.int .i64 2)], none, [1, 0, 1]⟩] false)
 .ret)
 .skip)))
 (.keep [1, 5] [1] b61k2))
def b61l1 : DCode := .keep [1, 5] [1]
 (.seq
 (.seq
 (.region [⟨(some 48), .mov, [.t 5], none, []⟩,
 ⟨(some 49), (.faddr 1 false 1), [.t 1], none, []⟩,
 ⟨(some 50), (.load false 1), [.t 49], none, [1]⟩,
 ⟨(some 51), .len, [.t 50], none, [2]⟩,
 ⟨(some 52), (.bin .lss), [.t 48, .t 51], none, [0, 3]⟩] false)
 (.cond (.t 52)
 .skip
 (.exit 2)))
 (.keep [1, 5] [1] b61k3))
def b61k4 : DCode :=
 (.seq
 (.region [⟨(some 2), .mov, [.c (.int .i64 0)], none, []⟩,
 ⟨(some 3), .mov, [.c (.int .i64 0)], none, [0, 0]⟩] false)
 .ret)
def b61k5 : DCode :=
 (.seq
 (.seq
 (.region [⟨(some 5), .mov, [.c (.int .i64 0)], none, []⟩] false)
 (.block 2
 (.loop b61l1)))
 (.keep [] [] b61k4))
def b61k6 : DCode :=
 (.seq
 (.seq
 (.region [⟨(some 4), .mov, [.c (.int .i64 0)], none, []⟩] false)
 (.block 0
 (.loop b61l0)))
 (.keep [1] [1] b61k5))
def b61k7 : DCode :=
 (.seq
 (.seq
 (.region [⟨(some 14), (.faddr 1 false 1), [.t 1], none, []⟩,
 ⟨(some 15), (.load false 1), [.t 14], none, [0]⟩,
 ⟨(some 16), .len, [.t 15], none, [1]⟩,
 ⟨(some 17), (.faddr 0 false 1), [.t 1], none, []⟩,
 ⟨(some 18), (.load false 1), [.t 17], none, [3]⟩,
 ⟨(some 19), .len, [.t 18], none, [4]⟩,
 ⟨(some 20), (.bin .sub), [.t 19, .c (.int .i64 1)], none, [5]⟩,
 ⟨(some 21), (.bin .neq), [.t 16, .t 20], none, [2, 6]⟩] false)
 (.cond (.t 21)
 (.seq
 (.region [⟨(some 2), .mov, [.c (.int .i64 0)], none, []⟩,
 ⟨(some 3), .mov, [.c (.int .i64 10)], none, [0, 0]⟩] false)
 .ret)
 .skip))
 (.keep [1] [1] b61k6))
def b61k8 : DCode :=
 (.seq
 (.seq
 (.region [⟨(some 10), (.faddr 0 false 1), [.t 1], none, []⟩,
 ⟨(some 11), (.load false 1), [.t 10], none, [0]⟩,
 ⟨(some 12), .len, [.t 11], none, [1]⟩,
 ⟨(some 13), (.bin .gtr), [.t 12, .c (.int .i64 4)], none, [2]⟩] false)
 (.cond (.t 13)
 (.seq
 (.region [⟨(some 2), .mov, [.c (.int .i64 0)], none, []⟩,
 ⟨(some 3), .mov, [.c (.int .i64 8)], none, [0, 0]⟩] false)
 .ret)
 .skip))
 (.keep [1] [1] b61k7))
def b61 : DCode :=
 (.seq
 (.region [⟨(some 1), .box, [.t 0], none, []⟩,
 ⟨(some 2), .mov, [.c (.int .i64 0)], none, []⟩,
 ⟨(some 3), .mov, [.c (.int .i64 0)], none, [1]⟩] false)
 (.seq
 (.seq
 (.region [⟨(some 6), (.faddr 0 false 1), [.t 1], none, []⟩,
 ⟨(some 7), (.load false 1), [.t 6], none, [0]⟩,
 ⟨(some 8), .len, [.t 7], none, [1]⟩,
 ⟨(some 9), (.bin .eql), [.t 8, .c (.int .i64 0)], none, [2]⟩] false)
 (.cond (.t 9)
 (.seq
 (.region [⟨(some 2), .mov, [.c (.int .i64 0)], none, []⟩,
 ⟨(some 3), .mov, [.c (.int .i64 10)], none, [0, 0]⟩] false)
 .ret)
 .skip))
 (.keep [1] [1] b61k8)))
def d61 : DFn := ⟨1, 63, [.tmp 2, .tmp 3], b61⟩
theorem body61 : d61.body = b61 := rfl
theorem res61 : d61.res = [.tmp 2, .tmp 3] := rfl
theorem k61 : chkFn Try.prog Try.f61 d61 = true := by kernel_rfl

def b74k0 : DCode :=
 (.region [⟨(some 35), .mov, [.t 7], none, []⟩,
 ⟨(some 36), (.bin .add), [.t 35, .c (.int .i64 1)], none, [0]⟩,
 ⟨(some 7), .mov, [.t 36], none, [1, 0, 1]⟩] false)
def b74k1 : DCode :=
 (.seq
 (.block 1
 (.seq
 (.region [⟨(some 37), (.faddr 0 false 1), [.t 3], none, []⟩,
 ⟨(some 38), (.load false 1), [.t 37], none, [0]⟩,
 ⟨(some 39), .mov, [.t 7], none, []⟩,
 ⟨(some 40), (.iaddr 1), [.t 38, .t 39], none, [1, 2]⟩,
 ⟨(some 41), (.load false 1), [.t 40], none, [3]⟩,
 ⟨(some 42), .call, [.f 34, .t 41, .c (.int .i64 (-1000000)), .c (.int .i64 1000000)], none, [4]⟩,
 ⟨(some 43), (.un .not), [.t 42], none, [5]⟩,
 ⟨(some 44), .mov, [.t 43], none, [6, 5]⟩,
 ⟨(some 45), (.faddr 1 false 1), [.t 3], (some (44, false)), [7]⟩,
 ⟨(some 46), (.load false 1), [.t 45], (some (44, false)), [8, 7]⟩,
 ⟨(some 47), .mov, [.t 7], (some (44, false)), [7]⟩,
 ⟨(some 48), (.iaddr 1), [.t 46, .t 47], (some (44, false)), [9, 10, 7]⟩,
 ⟨(some 49), (.load false 1), [.t 48], (some (44, false)), [11, 7]⟩,
 ⟨(some 50), .call, [.f 34, .t 49, .c (.int .i64 (-1000000)), .c (.int .i64 1000000)], (some (44, false)), [12, 7, 7]⟩,
 ⟨(some 51), (.un .not), [.t 50], (some (44, false)), [13, 7]⟩,
 ⟨(some 52), .pick, [.t 44, .c (.bool true), .t 51], none, [7, 14]⟩] false)
 (.cond (.t 52)
 (.seq
 (.region [⟨(some 53), .mov, [.t 7], none, []⟩,
 ⟨(some 4), .mov, [.t 53], none, [0, 0]⟩,
 ⟨(some 5), .mov, [.c (.int .i64 2)], none, [1, 0, 1]⟩] false)
 .ret)
 .skip)))
 (.keep [3, 6, 7] [3] b74k0))
def b74l0 : DCode := .keep [3, 6, 7] [3]
 (.seq
 (.seq
 (.region [⟨(some 32), .mov, [.t 7], none, []⟩,
 ⟨(some 33), .mov, [.t 6], none, []⟩,
 ⟨(some 34), (.bin .lss), [.t 32, .t 33], none, [0, 1]⟩] false)
 (.cond (.t 34)
 .skip
 (.exit 0)))
 (.keep [3, 6, 7] [3] b74k1))
def b74k2 : DCode :=
 (.region [⟨(some 59), .mov, [.t 8], none, []⟩,
 ⟨(some 60), (.bin .add), [.t 59, .c (.int .i64 1)], none, [0]⟩,
 ⟨(some 8), .mov, [.t 60], none, [1, 0, 1]⟩] false)
def b74k3 : DCode :=
 (.seq
 (.block 3
 (.seq
 (.region [⟨(some 61), (.faddr 2 false 1), [.t 3], none, []⟩,
 ⟨(some 62), (.load false 1), [.t 61], none, [0]⟩,
 ⟨(some 63), .mov, [.t 8], none, []⟩,
 ⟨(some 64), (.iaddr 1), [.t 62, .t 63], none, [1, 2]⟩,
 ⟨(some 65), (.load false 1), [.t 64], none, [3]⟩,
 ⟨(some 66), .call, [.f 34, .t 65, .c (.int .i64 (-1000000)), .c (.int .i64 1000000)], none, [4]⟩,
 ⟨(some 67), (.un .not), [.t 66], none, [5]⟩] false)
 (.cond (.t 67)
 (.seq
 (.region [⟨(some 68), .mov, [.t 8], none, []⟩,
 ⟨(some 4), .mov, [.t 68], none, [0, 0]⟩,
 ⟨(some 5), .mov, [.c (.int .i64 2)], none, [1, 0, 1]⟩] false)
 .ret)
 .skip)))
 (.keep [3, 8] [3] b74k2))
def b74l1 : DCode := .keep [3, 8] [3]
 (.seq
 (.seq
 (.region [⟨(some 54), .mov, [.t 8], none, []⟩,
 ⟨(some 55), (.faddr 2 false 1), [.t 3], none, []⟩,
 ⟨(some 56), (.load false 1), [.t 55], none, [1]⟩,
 ⟨(some 57), .len, [.t 56], none, [2]⟩,
 ⟨(some 58), (.bin .lss), [.t 54, .t 57], none, [0, 3]⟩] false)
 (.cond (.t 58)
 .skip
 (.exit 2)))
 (.keep [3, 8] [3] b74k3))
def b74k4 : DCode :=
 (.seq
 (.region [⟨(some 4), .mov, [.c (.int .i64 0)], none, []⟩,
 ⟨(some 5), .mov, [.c (.int .i64 0)], none, [0, 0]⟩] false)
 .ret)
def b74k5 : DCode :=
 (.seq
 (.seq
 (.region [⟨(some 8), .mov, [.c (.int .i64 0)], none, []⟩] false)
 (.block 2
 (.loop b74l1)))
 (.keep [] [] b74k4))
def b74k6 : DCode :=
 (.seq
 (.seq
 (.region [⟨(some 7), .mov, [.c (.int .i64 0)], none, []⟩] false)
 (.block 0
 (.loop b74l0)))
 (.keep [3] [3] b74k5))
def b74 : DCode :=
 (.seq
 (.region [⟨(some 2), .box, [.t 0], none, []⟩,
 ⟨(some 3), .box, [.t 1], none, []⟩,
 ⟨(some 4), .mov, [.c (.int .i64 0)], none, []⟩,
 ⟨(some 5), .mov, [.c (.int .i64 0)], none, [2]⟩] false)
 (.seq
 (.region [⟨(some 9), (.load true 2), [.t 2], none, []⟩,
 ⟨(some 10), .call, [.f 40, .t 9], none, [0]⟩,
 ⟨(some 6), .mov, [.t 10], none, [1, 1, 0, 1]⟩] false)
 (.seq
 (.seq
 (.region [⟨(some 11), (.faddr 0 false 1), [.t 3], none, []⟩,
 ⟨(some 12), (.load false 1), [.t 11], none, [0]⟩,
 ⟨(some 13), .len, [.t 12], none, [1]⟩,
 ⟨(some 14), .mov, [.t 6], none, []⟩,
 ⟨(some 15), (.bin .neq), [.t 13, .t 14], none, [2, 3]⟩,
 ⟨(some 16), .mov, [.t 15], none, [4]⟩,
 ⟨(some 17), (.faddr 1 false 1), [.t 3], (some (16, false)), [5]⟩,
 ⟨(some 18), (.load false 1), [.t 17], (some (16, false)), [6, 5]⟩,
 ⟨(some 19), .len, [.t 18], (some (16, false)), [7, 5]⟩,
 ⟨(some 20), .mov, [.t 6], (some (16, false)), [5]⟩,
 ⟨(some 21), (.bin .neq), [.t 19, .t 20], (some (16, false)), [8, 9, 5]⟩,
 ⟨(some 22), .pick, [.t 16, .c (.bool true), .t 21], none, [5, 10]⟩,
 ⟨(some 23), .mov, [.t 22], none, [11, 5]⟩,
 ⟨(some 24), (.faddr 2 false 1), [.t 3], (some (23, false)), [12]⟩,
 ⟨(some 25), (.load false 1), [.t 24], (some (23, false)), [13, 12]⟩,
 ⟨(some 26), .len, [.t 25], (some (23, false)), [14, 12]⟩,
 ⟨(some 27), (.faddr 1 false 1), [.t 2], (some (23, false)), [12]⟩,
 ⟨(some 28), (.load false 1), [.t 27], (some (23, false)), [16, 12]⟩,
 ⟨(some 29), .len, [.t 28], (some (23, false)), [17, 12]⟩,
 ⟨(some 30), (.bin .neq), [.t 26, .t 29], (some (23, false)), [15, 18, 12]⟩,
 ⟨(some 31), .pick, [.t 23, .c (.bool true), .t 30], none, [12, 19]⟩] false)
 (.cond (.t 31)
 (.seq
 (.region [⟨(some 4), .mov, [.c (.int .i64 0)], none, []⟩,
 ⟨(some 5), .mov, [.c (.int .i64 10)], none, [0, 0]⟩] false)
 .ret)
 .skip))
 (.keep [3, 6] [3] b74k6))))
def d74 : DFn := ⟨2, 69, [.tmp 4, .tmp 5], b74⟩
theorem body74 : d74.body = b74 := rfl
theorem res74 : d74.res = [.tmp 4, .tmp 5] := rfl
theorem k74 : chkFn Try.prog Try.f74 d74 = true := by kernel_rfl

def b97k0 : DCode :=
 (.seq
 (.block 3
 (.region [⟨(some 23), .mov, [.t 3], none, []⟩,
 ⟨(some 24), .mov, [.t 4], none, []⟩,
 ⟨(some 25), (.bsl 1), [.t 24], none, [1]⟩,
 ⟨(some 26), (.append 1 8 false), [.t 23, .t 25], none, [0, 2]⟩,
 ⟨(some 3), .mov, [.t 26], none, [3, 3, 0, 1, 2, 3]⟩] false))
 (.region [⟨(some 21), .mov, [.t 5], none, []⟩,
 ⟨(some 22), (.bin .add), [.t 21, .c (.int .i64 1)], none, [0]⟩,
 ⟨(some 5), .mov, [.t 22], none, [1, 0, 1]⟩] false))
def b97l0 : DCode := .keep [1, 3, 4, 5] [1, 3, 26]
 (.seq
 (.seq
 (.region [⟨(some 13), .mov, [.t 5], none, []⟩,
 ⟨(some 14), (.faddr 0 false 1), [.t 1], none, []⟩,
 ⟨(some 15), (.load false 1), [.t 14], none, [1]⟩,
 ⟨(some 16), .mov, [.t 4], none, []⟩,
 ⟨(some 17), (.iaddr 2), [.t 15, .t 16], none, [2, 3]⟩,
 ⟨(some 18), (.faddr 0 false 1), [.t 17], none, [4]⟩,
 ⟨(some 19), (.load false 1), [.t 18], none, [5]⟩,
 ⟨(some 20), (.bin .lss), [.t 13, .t 19], none, [0, 6]⟩] false)
 (.cond (.t 20)
 .skip
 (.exit 2)))
 (.keep [1, 3, 4, 5] [1, 3, 26] b97k0))
def b97k1 : DCode :=
 (.region [⟨(some 11), .mov, [.t 4], none, []⟩,
 ⟨(some 12), (.bin .add), [.t 11, .c (.int .i64 1)], none, [0]⟩,
 ⟨(some 4), .mov, [.t 12], none, [1, 0, 1]⟩] false)
def b97k2 : DCode :=
 (.seq
 (.block 1
 (.seq
 (.region [⟨(some 5), .mov, [.c (.int .i64 0)], none, []⟩] false)
 (.block 2
 (.loop b97l0))))
 (.keep [1, 3, 4] [1, 3, 26] b97k1))
def b97l1 : DCode := .keep [1, 3, 4] [1, 3, 26]
 (.seq
 (.seq
 (.region [⟨(some 6), .mov, [.t 4], none, []⟩,
 ⟨(some 7), (.faddr 0 false 1), [.t 1], none, []⟩,
 ⟨(some 8), (.load false 1), [.t 7], none, [1]⟩,
 ⟨(some 9), .len, [.t 8], none, [2]⟩,
 ⟨(some 10), (.bin .lss), [.t 6, .t 9], none, [0, 3]⟩] false)
 (.cond (.t 10)
 .skip
 (.exit 0)))
 (.keep [1, 3, 4] [1, 3, 26] b97k2))
def b97k3 : DCode :=
 (.seq
 (.region [⟨(some 27), .movv, [.t 3], none, []⟩,
 ⟨(some 2), .movv, [.t 27], none, [0, 0]⟩] false)
 .ret)
def b97 : DCode :=
 (.seq
 (.region [⟨(some 1), .box, [.t 0], none, []⟩,
 ⟨(some 2), .mov, [.c (.slc 1 [])], none, []⟩] false)
 (.seq
 (.region [⟨(some 3), (.ntok 1), [.c (.slc 1 [])], none, []⟩] false)
 (.seq
 (.seq
 (.region [⟨(some 4), .mov, [.c (.int .i64 0)], none, []⟩] false)
 (.block 0
 (.loop b97l1)))
 (.keep [3] [3, 26] b97k3))))
def d97 : DFn := ⟨1, 28, [.tmp 2], b97⟩
theorem body97 : d97.body = b97 := rfl
theorem res97 : d97.res = [.tmp 2] := rfl
theorem k97 : chkFn Try.prog Try.f97 d97 = true := by kernel_rfl

def b86 : DCode :=
 (.seq
 (.region [⟨(some 0), (.alloc [(.imm (.slc 2 [])), (.imm (.slc 1 []))]), [], none, []⟩] false)
 (.seq
 (.region [⟨(some 1), (.build [(.imm (.int .i64 0)), (.imm (.int .i64 0))] [(0, 1), (1, 1)]), [.c (.int .i64 2), .c (.int .i64 3)], none, []⟩,
 ⟨(some 2), (.bsl 2), [.t 1], none, [0]⟩,
 ⟨(some 3), (.build [(.imm (.slc 2 [])), (.imm (.slc 1 []))] [(0, 1)]), [.t 2], none, [1]⟩,
 ⟨none, (.store 2), [.t 0, .t 3], none, [2, 0, 1, 2]⟩] false)
 .ret))
def d86 : DFn := ⟨0, 4, [.cell 0 true 2], b86⟩
theorem body86 : d86.body = b86 := rfl
theorem res86 : d86.res = [.cell 0 true 2] := rfl
theorem k86 : chkFn Try.prog Try.f86 d86 = true := by kernel_rfl

def b87 : DCode :=
 (.seq
 (.region [⟨(some 0), (.alloc [(.imm (.slc 2 [])), (.imm (.slc 1 []))]), [], none, []⟩] false)
 (.seq
 (.region [⟨(some 1), (.build [(.imm (.int .i64 0)), (.imm (.int .i64 0))] [(0, 1), (1, 1)]), [.c (.int .i64 1), .c (.int .i64 1)], none, []⟩,
 ⟨(some 2), (.build [(.imm (.int .i64 0)), (.imm (.int .i64 0))] [(0, 1), (1, 1)]), [.c (.int .i64 1), .c (.int .i64 3)], none, []⟩,
 ⟨(some 3), (.bsl 2), [.t 1, .t 2], none, [0, 1]⟩,
 ⟨(some 4), (.bsl 1), [.c (.int .i64 2)], none, []⟩,
 ⟨(some 5), (.build [(.imm (.slc 2 [])), (.imm (.slc 1 []))] [(0, 1), (1, 1)]), [.t 3, .t 4], none, [2, 3]⟩,
 ⟨none, (.store 2), [.t 0, .t 5], none, [4, 0, 1, 2, 3, 4]⟩] false)
 .ret))
def d87 : DFn := ⟨0, 6, [.cell 0 true 2], b87⟩
theorem body87 : d87.body = b87 := rfl
theorem res87 : d87.res = [.cell 0 true 2] := rfl
theorem k87 : chkFn Try.prog Try.f87 d87 = true := by kernel_rfl

def b17 : DCode :=
 (.seq
 (.region [⟨(some 0), .mov, [.c (.bool false)], none, []⟩] false)
 (.seq
 (.region [⟨(some 12), .call, [.f 86], none, []⟩,
 ⟨(some 13), (.bsl 1), [.c (.int .i64 5)], none, []⟩,
 ⟨(some 14), .call, [.f 39, .t 12, .t 13, .c (.int .i64 9)], none, [0, 1, 0]⟩,
 ⟨(some 11), .mov, [.t 14], none, [2]⟩,
 ⟨(some 15), (.ext 0), [.t 11], none, [3]⟩,
 ⟨(some 16), (.ext 1), [.t 11], none, [3]⟩,
 ⟨(some 1), .movv, [.t 15], none, [4, 2, 0, 1, 2, 3, 4]⟩,
 ⟨(some 2), .mov, [.t 16], none, [5, 6, 0, 1, 2, 3, 4, 5, 6]⟩] false)
 (.seq
 (.region [⟨(some 18), .call, [.f 87], none, []⟩,
 ⟨(some 19), (.bsl 1), [.c (.int .i64 7), .c (.int .i64 0)], none, []⟩,
 ⟨(some 20), (.bsl 1), [.c (.int .i64 0), .c (.int .i64 0)], none, []⟩,
 ⟨(some 21), (.bsl 1), [.c (.int .i64 3)], none, []⟩,
 ⟨(some 22), (.build [(.imm (.slc 1 [])), (.imm (.slc 1 [])), (.imm (.slc 1 []))] [(0, 1), (1, 1), (2, 1)]), [.t 19, .t 20, .t 21], none, [1, 2, 3]⟩,
 ⟨(some 23), .call, [.f 25, .t 18, .t 22, .c (.int .i64 0)], none, [0, 4, 0]⟩,
 ⟨(some 17), .mov, [.t 23], none, [5]⟩,
 ⟨(some 24), (.ext 0), [.t 17], none, [6]⟩,
 ⟨(some 25), (.ext 1), [.t 17], none, [6]⟩,
 ⟨(some 3), (.alloc [(.imm (.slc 1 [])), (.imm (.slc 1 [])), (.imm (.slc 1 []))]), [], none, []⟩,
 ⟨none, (.store 3), [.t 3, .t 24], none, [9, 7, 5, 0, 1, 2, 3, 4, 5, 6, 7, 9]⟩,
 ⟨(some 4), .mov, [.t 25], none, [8, 10, 0, 1, 2, 3, 4, 5, 6, 7, 8, 9, 10]⟩] false)
 (.seq
 (.region [⟨(some 27), .call, [.f 86], none, []⟩,
 ⟨(some 28), (.build [(.imm (.int .i64 0)), (.imm (.int .i64 0))] [(0, 1), (1, 1)]), [.c (.int .i64 (-2)), .c (.int .i64 2)], none, []⟩,
 ⟨(some 29), (.build [(.imm (.int .i64 0)), (.imm (.int .i64 0)), (.imm (.int .i64 0)), (.imm (.int .i64 0)), (.imm (.int .i64 0))] [(0, 1), (1, 1), (2, 1), (3, 2)]), [.c (.int .i64 4), .c (.int .i64 7), .c (.int .i64 20), .t 28], none, [1]⟩,
 ⟨(some 30), .call, [.f 56, .t 27, .t 29], none, [0, 2, 0]⟩,
 ⟨(some 26), .mov, [.t 30], none, [3]⟩,
 ⟨(some 31), (.ext 0), [.t 26], none, [4]⟩,
 ⟨(some 32), (.ext 1), [.t 26], none, [4]⟩,
 ⟨(some 5), .movv, [.t 31], none, [5, 3, 0, 1, 2, 3, 4, 5]⟩,
 ⟨(some 6), .mov, [.t 32], none, [6, 7, 0, 1, 2, 3, 4, 5, 6, 7]⟩] false)
 (.seq
 (.region [⟨(some 34), .call, [.f 87], none, []⟩,
 ⟨(some 35), .call, [.f 43, .t 34, .c (.int .i64 1)], none, [0, 0]⟩,
 ⟨(some 33), .mov, [.t 35], none, [1]⟩,
 ⟨(some 36), (.ext 0), [.t 33], none, [2]⟩,
 ⟨(some 37), (.ext 1), [.t 33], none, [2]⟩,
 ⟨(some 7), (.alloc [(.imm (.int .i64 0)), (.imm (.int .i64 0)), (.imm (.int .i64 0)), (.imm (.int .i64 0))]), [], none, []⟩,
 ⟨none, (.store 4), [.t 7, .t 36], none, [5, 3, 1, 0, 1, 2, 3, 5]⟩,
 ⟨(some 8), .mov, [.t 37], none, [4, 6, 0, 1, 2, 3, 4, 5, 6]⟩] false)
 (.seq
 (.region [⟨(some 39), (.build [(.imm (.int .i64 0)), (.imm (.int .i64 0))] [(0, 1), (1, 1)]), [.c (.int .i64 1), .c (.int .i64 3)], none, []⟩,
 ⟨(some 40), (.bsl 2), [.t 39], none, [0]⟩,
 ⟨(some 41), (.build [(.imm (.slc 2 [])), (.imm (.slc 1 []))] [(0, 1)]), [.t 40], none, [1]⟩,
 ⟨(some 42), .call, [.f 44, .t 41], none, [2]⟩,
 ⟨(some 38), .mov, [.t 42], none, [3]⟩,
 ⟨(some 43), (.ext 0), [.t 38], none, [4]⟩,
 ⟨(some 44), (.ext 1), [.t 38], none, [4]⟩,
 ⟨(some 9), .movv, [.t 43], none, [5, 3, 0, 1, 2, 3, 4, 5]⟩,
 ⟨(some 10), .mov, [.t 44], none, [6, 7, 0, 1, 2, 3, 4, 5, 6, 7]⟩] false)
 (.seq
 (.region [⟨(some 45), .mov, [.t 2], none, []⟩,
 ⟨(some 46), (.bin .eql), [.t 45, .c (.int .i64 0)], none, [0]⟩,
 ⟨(some 47), .mov, [.t 46], none, [1]⟩,
 ⟨(some 48), .movv, [.t 1], (some (47, true)), [2]⟩,
 ⟨(some 49), (.bsl 1), [.c (.int .i64 5), .c (.int .i64 5), .c (.int .i64 5), .c (.int .i64 5), .c (.int .i64 (-5)), .c (.int .i64 (-5)), .c (.int .i64 (-5)), .c (.int .i64 (-5)), .c (.int .i64 5)], (some (47, true)), [2]⟩,
 ⟨(some 50), .call, [.f 45, .t 48, .t 49], (some (47, true)), [3, 4, 2, 2]⟩,
 ⟨(some 51), .pick, [.t 47, .t 50, .c (.bool false)], none, [2, 5]⟩,
 ⟨(some 52), .mov, [.t 51], none, [6, 5]⟩,
 ⟨(some 53), .mov, [.t 4], (some (52, true)), [7]⟩,
 ⟨(some 54), (.bin .eql), [.t 53, .c (.int .i64 0)], (some (52, true)), [8, 7]⟩,
 ⟨(some 55), .pick, [.t 52, .t 54, .c (.bool false)], none, [7, 9]⟩,
 ⟨(some 56), .mov, [.t 55], none, [10, 7]⟩,
 ⟨(some 57), (.load true 3), [.t 3], (some (56, true)), [11]⟩,
 ⟨(some 58), (.bsl 1), [.c (.int .i64 0), .c (.int .i64 3)], (some (56, true)), [11]⟩,
 ⟨(some 59), (.bsl 1), [.c (.int .i64 (-4)), .c (.int .i64 0)], (some (56, true)), [11]⟩,
 ⟨(some 60), (.bsl 1), [.c (.int .i64 3)], (some (56, true)), [11]⟩,
 ⟨(some 61), (.build [(.imm (.slc 1 [])), (.imm (.slc 1 [])), (.imm (.slc 1 []))] [(0, 1), (1, 1), (2, 1)]), [.t 58, .t 59, .t 60], (some (56, true)), [13, 14, 15, 11]⟩,
 ⟨(some 62), .call, [.f 27, .t 57, .t 61], (some (56, true)), [12, 16, 11, 11]⟩,
 ⟨(some 63), .pick, [.t 56, .t 62, .c (.bool false)], none, [11, 17]⟩,
 ⟨(some 64), .mov, [.t 63], none, [18, 17]⟩,
 ⟨(some 65), .mov, [.t 6], (some (64, true)), [19]⟩,
 ⟨(some 66), (.bin .eql), [.t 65, .c (.int .i64 0)], (some (64, true)), [20, 19]⟩,
 ⟨(some 67), .pick, [.t 64, .t 66, .c (.bool false)], none, [19, 21]⟩,
 ⟨(some 68), .mov, [.t 67], none, [22, 19]⟩,
 ⟨(some 69), .movv, [.t 5], (some (68, true)), [23]⟩,
 ⟨(some 70), (.bsl 1), [.c (.int .i64 1), .c (.int .i64 1), .c (.int .i64 1), .c (.int .i64 1), .c (.int .i64 4)], (some (68, true)), [23]⟩,
 ⟨(some 71), .call, [.f 45, .t 69, .t 70], (some (68, true)), [24, 25, 23, 23]⟩,
 ⟨(some 72), .pick, [.t 68, .t 71, .c (.bool false)], none, [23, 26]⟩,
 ⟨(some 73), .mov, [.t 72], none, [27, 26]⟩,
 ⟨(some 74), .mov, [.t 8], (some (73, true)), [28]⟩,
 ⟨(some 75), (.bin .eql), [.t 74, .c (.int .i64 0)], (some (73, true)), [29, 28]⟩,
 ⟨(some 76), .pick, [.t 73, .t 75, .c (.bool false)], none, [28, 30]⟩,
 ⟨(some 77), .mov, [.t 76], none, [31, 28]⟩,
 ⟨(some 78), (.load true 4), [.t 7], (some (77, true)), [32]⟩,
 ⟨(some 79), (.build [(.imm (.int .i64 0)), (.imm (.int .i64 0))] [(0, 1), (1, 1)]), [.c (.int .i64 (-2)), .c (.int .i64 (-2))], (some (77, true)), [32]⟩,
 ⟨(some 80), (.build [(.imm (.int .i64 0)), (.imm (.int .i64 0))] [(0, 1)]), [.c (.int .i64 9)], (some (77, true)), [32]⟩,
 ⟨(some 81), (.build [(.imm (.int .i64 0)), (.imm (.int .i64 0)), (.imm (.int .i64 0)), (.imm (.int .i64 0))] [(0, 2), (2, 2)]), [.t 79, .t 80], (some (77, true)), [34, 35, 32]⟩,
 ⟨(some 82), (.eqs [false, false, false, false] false), [.t 78, .t 81], (some (77, true)), [33, 36, 32]⟩,
 ⟨(some 83), .pick, [.t 77, .t 82, .c (.bool false)], none, [32, 37]⟩,
 ⟨(some 84), .mov, [.t 83], none, [38, 32]⟩,
 ⟨(some 85), .mov, [.t 10], (some (84, true)), [39]⟩,
 ⟨(some 86), (.bin .eql), [.t 85, .c (.int .i64 0)], (some (84, true)), [40, 39]⟩,
 ⟨(some 87), .pick, [.t 84, .t 86, .c (.bool false)], none, [39, 41]⟩,
 ⟨(some 88), .mov, [.t 87], none, [42, 39]⟩,
 ⟨(some 89), .movv, [.t 9], (some (88, true)), [43]⟩,
 ⟨(some 90), (.bsl 1), [.c (.int .i64 1), .c (.int .i64 3)], (some (88, true)), [43]⟩,
 ⟨(some 91), .call, [.f 45, .t 89, .t 90], (some (88, true)), [44, 45, 43, 43]⟩,
 ⟨(some 92), .pick, [.t 88, .t 91, .c (.bool false)], none, [43, 46]⟩,
 ⟨(some 0), .mov, [.t 92], none, [47, 46, 0, 1, 2, 3, 4, 5, 6, 7, 8, 9, 10, 11, 12, 13, 14, 15, 16, 17, 18, 19, 20, 21, 22, 23, 24, 25, 26, 27, 28, 29, 30, 31, 32, 33, 34, 35, 36, 37, 38, 39, 40, 41, 42, 43, 44, 45, 46, 47]⟩] false)
 .ret)))))))
def d17 : DFn := ⟨0, 93, [.tmp 0], b17⟩
theorem body17 : d17.body = b17 := rfl
theorem res17 : d17.res = [.tmp 0] := rfl
theorem k17 : chkFn Try.prog Try.f17 d17 = true := by kernel_rfl

def b18 : DCode :=
 (.seq
 (.region [⟨(some 1), .box, [.t 0], none, []⟩,
 ⟨(some 2), .mov, [.c (.bool false)], none, []⟩] false)
 (.seq
 (.region [⟨(some 3), (.faddr 0 false 1), [.t 1], none, []⟩,
 ⟨(some 4), (.load false 1), [.t 3], none, [0]⟩,
 ⟨(some 5), .len, [.t 4], none, [1]⟩,
 ⟨(some 6), (.bin .leq), [.t 5, .c (.int .i64 6)], none, [2]⟩,
 ⟨(some 7), .mov, [.t 6], none, [3]⟩,
 ⟨(some 8), (.faddr 1 false 1), [.t 1], (some (7, true)), [4]⟩,
 ⟨(some 9), (.load false 1), [.t 8], (some (7, true)), [5, 4]⟩,
 ⟨(some 10), .len, [.t 9], (some (7, true)), [6, 4]⟩,
 ⟨(some 11), (.bin .leq), [.t 10, .c (.int .i64 6)], (some (7, true)), [7, 4]⟩,
 ⟨(some 12), .pick, [.t 7, .t 11, .c (.bool false)], none, [4, 8]⟩,
 ⟨(some 2), .mov, [.t 12], none, [9, 4, 0, 1, 2, 3, 4, 5, 6, 7, 8, 9]⟩] false)
 .ret))
def d18 : DFn := ⟨1, 13, [.tmp 2], b18⟩
theorem body18 : d18.body = b18 := rfl
theorem res18 : d18.res = [.tmp 2] := rfl
theorem k18 : chkFn Try.prog Try.f18 d18 = true := by kernel_rfl

def b19 : DCode :=
 (.seq
 (.region [⟨(some 1), .box, [.t 0], none, []⟩,
 ⟨(some 2), .mov, [.c (.bool false)], none, []⟩] false)
 (.seq
 (.region [⟨(some 3), (.faddr 0 false 1), [.t 1], none, []⟩,
 ⟨(some 4), (.load false 1), [.t 3], none, [0]⟩,
 ⟨(some 5), .len, [.t 4], none, [1]⟩,
 ⟨(some 6), (.bin .leq), [.t 5, .c (.int .i64 30)], none, [2]⟩,
 ⟨(some 7), .mov, [.t 6], none, [3]⟩,
 ⟨(some 8), (.faddr 1 false 1), [.t 1], (some (7, true)), [4]⟩,
 ⟨(some 9), (.load false 1), [.t 8], (some (7, true)), [5, 4]⟩,
 ⟨(some 10), .len, [.t 9], (some (7, true)), [6, 4]⟩,
 ⟨(some 11), (.bin .leq), [.t 10, .c (.int .i64 30)], (some (7, true)), [7, 4]⟩,
 ⟨(some 12), .pick, [.t 7, .t 11, .c (.bool false)], none, [4, 8]⟩,
 ⟨(some 13), .mov, [.t 12], none, [9, 4]⟩,
 ⟨(some 14), (.faddr 2 false 1), [.t 1], (some (13, true)), [10]⟩,
 ⟨(some 15), (.load false 1), [.t 14], (some (13, true)), [11, 10]⟩,
 ⟨(some 16), .len, [.t 15], (some (13, true)), [12, 10]⟩,
 ⟨(some 17), (.bin .leq), [.t 16, .c (.int .i64 10)], (some (13, true)), [13, 10]⟩,
 ⟨(some 18), .pick, [.t 13, .t 17, .c (.bool false)], none, [10, 14]⟩,
 ⟨(some 2), .mov, [.t 18], none, [15, 10, 0, 1, 2, 3, 4, 5, 6, 7, 8, 9, 10, 11, 12, 13, 14, 15]⟩] false)
 .ret))
def d19 : DFn := ⟨1, 19, [.tmp 2], b19⟩
theorem body19 : d19.body = b19 := rfl
theorem res19 : d19.res = [.tmp 2] := rfl
theorem k19 : chkFn Try.prog Try.f19 d19 = true := by kernel_rfl

def b9k0 : DCode :=
 (.seq
 (.region [⟨(some 48), .mov, [.t 6], none, []⟩,
 ⟨(some 49), (.bin .eql), [.t 48, .c (.int .i64 0)], none, [0]⟩,
 ⟨(some 50), .mov, [.t 49], none, [1]⟩,
 ⟨(some 51), .mov, [.t 5], (some (50, true)), [2]⟩,
 ⟨(some 52), (.load true 2), [.t 1], (some (50, true)), [2]⟩,
 ⟨(some 53), .call, [.f 32, .t 52], (some (50, true)), [4, 2, 2]⟩,
 ⟨(some 54), (.beq false), [.t 51, .t 53], (some (50, true)), [3, 5, 2]⟩,
 ⟨(some 55), .pick, [.t 50, .t 54, .c (.bool false)], none, [2, 6]⟩,
 ⟨(some 2), .mov, [.t 55], none, [7, 5, 0, 1, 2, 3, 4, 5, 6, 7]⟩] false)
 .ret)
def b9k1 : DCode :=
 (.seq
 (.seq
 (.region [⟨(some 39), .mov, [.t 8], none, []⟩,
 ⟨(some 40), (.bin .neq), [.t 39, .c (.int .i64 0)], none, [0]⟩] false)
 (.cond (.t 40)
 (.seq
 (.region [⟨(some 41), .mov, [.t 6], none, []⟩,
 ⟨(some 42), .mov, [.t 8], none, []⟩,
 ⟨(some 43), (.bin .eql), [.t 41, .t 42], none, [0, 1]⟩,
 ⟨(some 44), .mov, [.t 43], none, [2]⟩,
 ⟨(some 45), .mov, [.t 5], (some (44, true)), [3]⟩,
 ⟨(some 46), (.un .not), [.t 45], (some (44, true)), [4, 3]⟩,
 ⟨(some 47), .pick, [.t 44, .t 46, .c (.bool false)], none, [3, 5]⟩,
 ⟨(some 2), .mov, [.t 47], none, [6, 3, 0, 1, 2, 3, 4, 5, 6]⟩] false)
 .ret)
 .skip))
 (.keep [1, 5, 6] [1] b9k0))
def b9k2 : DCode :=
 (.seq
 (.region [⟨(some 15), (.load true 2), [.t 1], none, []⟩,
 ⟨(some 16), .call, [.f 22, .t 15], none, [0]⟩,
 ⟨(some 17), .call, [.f 59, .t 16], none, [1, 1]⟩,
 ⟨(some 14), .mov, [.t 17], none, [2]⟩,
 ⟨(some 18), (.ext 0), [.t 14], none, [3]⟩,
 ⟨(some 19), (.ext 1), [.t 14], none, [3]⟩,
 ⟨(some 3), .mov, [.t 18], none, [4, 2, 0, 1, 2, 3, 4]⟩,
 ⟨(some 4), .mov, [.t 19], none, [5, 6, 0, 1, 2, 3, 4, 5, 6]⟩] false)
 (.seq
 (.region [⟨(some 21), (.load true 2), [.t 1], none, []⟩,
 ⟨(some 22), .call, [.f 22, .t 21], none, [0]⟩,
 ⟨(some 23), .call, [.f 60, .t 22], none, [1, 1]⟩,
 ⟨(some 20), .mov, [.t 23], none, [2]⟩,
 ⟨(some 24), (.ext 0), [.t 20], none, [3]⟩,
 ⟨(some 25), (.ext 1), [.t 20], none, [3]⟩,
 ⟨(some 5), .mov, [.t 24], none, [4, 2, 0, 1, 2, 3, 4]⟩,
 ⟨(some 6), .mov, [.t 25], none, [5, 6, 0, 1, 2, 3, 4, 5, 6]⟩] false)
 (.seq
 (.region [⟨(some 27), (.load true 2), [.t 1], none, []⟩,
 ⟨(some 28), .call, [.f 61, .t 27], none, [0]⟩,
 ⟨(some 26), .mov, [.t 28], none, [1]⟩,
 ⟨(some 29), (.ext 0), [.t 26], none, [2]⟩,
 ⟨(some 30), (.ext 1), [.t 26], none, [2]⟩,
 ⟨(some 7), .mov, [.t 29], none, [3, 1, 0, 1, 2, 3]⟩,
 ⟨(some 8), .mov, [.t 30], none, [4, 5, 0, 1, 2, 3, 4, 5]⟩] false)
 (.seq
 (.seq
 (.region [⟨(some 31), .mov, [.t 4], none, []⟩,
 ⟨(some 32), .mov, [.t 8], none, []⟩,
 ⟨(some 33), (.bin .neq), [.t 31, .t 32], none, [0, 1]⟩,
 ⟨(some 34), .mov, [.t 33], none, [2]⟩,
 ⟨(some 35), .mov, [.t 3], (some (34, false)), [3]⟩,
 ⟨(some 36), .mov, [.t 7], (some (34, false)), [3]⟩,
 ⟨(some 37), (.bin .neq), [.t 35, .t 36], (some (34, false)), [4, 5, 3]⟩,
 ⟨(some 38), .pick, [.t 34, .c (.bool true), .t 37], none, [3, 6]⟩] false)
 (.cond (.t 38)
 (.seq
 (.region [⟨(some 2), .mov, [.c (.bool false)], none, []⟩] false)
 .ret)
 .skip))
 (.keep [1, 5, 6, 8] [1] b9k1)))))
def b9k3 : DCode :=
 (.seq
 (.seq
 (.region [⟨(some 11), (.load true 2), [.t 1], none, []⟩,
 ⟨(some 12), .call, [.f 18, .t 11], none, [0]⟩,
 ⟨(some 13), (.un .not), [.t 12], none, [1]⟩] false)
 (.cond (.t 13)
 (.seq
 (.region [⟨(some 2), .mov, [.c (.bool true)], none, []⟩] false)
 .ret)
 .skip))
 (.keep [1] [1] b9k2))
def b9 : DCode :=
 (.seq
 (.region [⟨(some 1), .box, [.t 0], none, []⟩,
 ⟨(some 2), .mov, [.c (.bool false)], none, []⟩] false)
 (.seq
 (.seq
 (.region [⟨(some 9), .call, [.f 17], none, []⟩,
 ⟨(some 10), (.un .not), [.t 9], none, [0]⟩] false)
 (.cond (.t 10)
 (.seq
 (.region [⟨(some 2), .mov, [.c (.bool false)], none, []⟩] false)
 .ret)
 .skip))
 (.keep [1] [1] b9k3)))
def b3k0 : DCode :=
 (.seq
 (.region [⟨(some 121), .mov, [.t 8], none, []⟩,
 ⟨(some 122), (.bin .eql), [.t 121, .c (.int .i64 0)], none, [0]⟩,
 ⟨(some 123), .mov, [.t 122], none, [1]⟩,
 ⟨(some 124), (.load true 3), [.t 7], (some (123, true)), [2]⟩,
 ⟨(some 125), (.load true 2), [.t 3], (some (123, true)), [2]⟩,
 ⟨(some 126), (.load true 3), [.t 4], (some (123, true)), [2]⟩,
 ⟨(some 127), .movv, [.t 2], (some (123, true)), [2]⟩,
 ⟨(some 128), .call, [.f 31, .t 125, .t 126, .t 127], (some (123, true)), [4, 5, 6, 2, 2]⟩,
 ⟨(some 129), .call, [.f 27, .t 124, .t 128], (some (123, true)), [3, 7, 7, 2]⟩,
 ⟨(some 130), .pick, [.t 123, .t 129, .c (.bool false)], none, [2, 8]⟩,
 ⟨(some 6), .mov, [.t 130], none, [9, 8, 0, 1, 2, 3, 4, 5, 6, 7, 8, 9]⟩] true)
 .ret)
def b3k1 : DCode :=
 (.seq
 (.seq
 (.region [⟨(some 109), .movv, [.t 2], none, []⟩,
 ⟨(some 110), .call, [.f 30, .t 109], none, [0]⟩,
 ⟨(some 12), .mov, [.t 110], none, [1, 1, 0, 1]⟩] false)
 (.seq
 (.region [⟨(some 111), .mov, [.t 12], none, []⟩,
 ⟨(some 112), (.bin .neq), [.t 111, .c (.int .i64 0)], none, [0]⟩] false)
 (.cond (.t 112)
 (.seq
 (.region [⟨(some 113), .mov, [.t 8], none, []⟩,
 ⟨(some 114), .mov, [.t 12], none, []⟩,
 ⟨(some 115), (.bin .eql), [.t 113, .t 114], none, [0, 1]⟩,
 ⟨(some 116), .mov, [.t 115], none, [2]⟩,
 ⟨(some 117), (.load true 3), [.t 7], (some (116, true)), [3]⟩,
 ⟨(some 118), (.build [(.imm (.slc 1 [])), (.imm (.slc 1 [])), (.imm (.slc 1 []))] []), [], (some (116, true)), [3]⟩,
 ⟨(some 119), .call, [.f 27, .t 117, .t 118], (some (116, true)), [4, 5, 3, 3]⟩,
 ⟨(some 120), .pick, [.t 116, .t 119, .c (.bool false)], none, [3, 6]⟩,
 ⟨(some 6), .mov, [.t 120], none, [7, 6, 0, 1, 2, 3, 4, 5, 6, 7]⟩] false)
 .ret)
 .skip)))
 (.keep [2, 3, 4, 7, 8] [3, 4, 7] b3k0))
def b3k2 : DCode :=
 (.seq
 (.seq
 (.region [⟨(some 77), .mov, [.t 9], none, []⟩,
 ⟨(some 78), .call, [.f 28, .t 77], none, [0]⟩,
 ⟨(some 13), .mov, [.t 78], none, [1, 1, 0, 1]⟩] false)
 (.seq
 (.region [⟨(some 79), .mov, [.t 13], none, []⟩,
 ⟨(some 80), (.bin .neq), [.t 79, .c (.int .i64 0)], none, [0]⟩,
 ⟨(some 81), .mov, [.t 80], none, [1]⟩,
 ⟨(some 82), .mov, [.t 11], (some (81, true)), [2]⟩,
 ⟨(some 83), .mov, [.t 13], (some (81, true)), [2]⟩,
 ⟨(some 84), (.bin .neq), [.t 82, .t 83], (some (81, true)), [3, 4, 2]⟩,
 ⟨(some 85), .mov, [.t 84], (some (81, true)), [5, 2, 2]⟩,
 ⟨(some 86), (.load true 3), [.t 10], (some (85, false)), [6]⟩,
 ⟨(some 87), (.build [(.imm (.slc 1 [])), (.imm (.slc 1 [])), (.imm (.slc 1 []))] []), [], (some (85, false)), [6]⟩,
 ⟨(some 88), .call, [.f 27, .t 86, .t 87], (some (85, false)), [7, 8, 6, 6]⟩,
 ⟨(some 89), (.un .not), [.t 88], (some (85, false)), [9, 6]⟩,
 ⟨(some 90), .pick, [.t 85, .c (.bool true), .t 89], (some (81, true)), [6, 10, 2]⟩,
 ⟨(some 91), .pick, [.t 81, .t 90, .c (.bool false)], none, [2, 11]⟩,
 ⟨(some 92), .mov, [.t 91], none, [12, 9]⟩,
 ⟨(some 93), .mov, [.t 13], (some (92, false)), [13]⟩,
 ⟨(some 94), (.bin .eql), [.t 93, .c (.int .i64 0)], (some (92, false)), [14, 13]⟩,
 ⟨(some 95), .mov, [.t 94], (some (92, false)), [15, 13, 13]⟩,
 ⟨(some 96), .mov, [.t 11], (some (95, true)), [16]⟩,
 ⟨(some 97), (.bin .neq), [.t 96, .c (.int .i64 0)], (some (95, true)), [17, 16]⟩,
 ⟨(some 98), .mov, [.t 97], (some (95, true)), [18, 16, 16]⟩,
 ⟨(some 99), (.load true 3), [.t 10], (some (98, false)), [19]⟩,
 ⟨(some 100), (.load true 2), [.t 3], (some (98, false)), [19]⟩,
 ⟨(some 101), (.load true 3), [.t 4], (some (98, false)), [19]⟩,
 ⟨(some 102), .mov, [.t 9], (some (98, false)), [19]⟩,
 ⟨(some 103), .call, [.f 29, .t 100, .t 101, .t 102], (some (98, false)), [21, 22, 23, 19, 19]⟩,
 ⟨(some 104), .call, [.f 27, .t 99, .t 103], (some (98, false)), [20, 24, 24, 19]⟩,
 ⟨(some 105), (.un .not), [.t 104], (some (98, false)), [25, 19]⟩,
 ⟨(some 106), .pick, [.t 98, .c (.bool true), .t 105], (some (95, true)), [19, 26, 16]⟩,
 ⟨(some 107), .pick, [.t 95, .t 106, .c (.bool false)], (some (92, false)), [16, 27, 13]⟩,
 ⟨(some 108), .pick, [.t 92, .c (.bool true), .t 107], none, [13, 28]⟩] true)
 (.cond (.t 108)
 (.seq
 (.region [⟨(some 6), .mov, [.c (.bool false)], none, []⟩] false)
 .ret)
 .skip)))
 (.keep [2, 3, 4, 7, 8] [3, 4, 7] b3k1))
def b3k3 : DCode :=
 (.seq
 (.region [⟨(some 46), (.load true 2), [.t 3], none, []⟩,
 ⟨(some 47), .call, [.f 22, .t 46], none, [0]⟩,
 ⟨(some 48), (.load true 3), [.t 4], none, []⟩,
 ⟨(some 49), .call, [.f 23, .t 48], none, [2, 1]⟩,
 ⟨(some 50), .mov, [.t 9], none, []⟩,
 ⟨(some 51), .call, [.f 25, .t 47, .t 49, .t 50], none, [1, 3, 4, 3]⟩,
 ⟨(some 45), .mov, [.t 51], none, [5]⟩,
 ⟨(some 52), (.ext 0), [.t 45], none, [6]⟩,
 ⟨(some 53), (.ext 1), [.t 45], none, [6]⟩,
 ⟨(some 10), (.alloc [(.imm (.slc 1 [])), (.imm (.slc 1 [])), (.imm (.slc 1 []))]), [], none, []⟩,
 ⟨none, (.store 3), [.t 10, .t 52], none, [9, 7, 5, 0, 1, 2, 3, 4, 5, 6, 7, 9]⟩,
 ⟨(some 11), .mov, [.t 53], none, [8, 10, 0, 1, 2, 3, 4, 5, 6, 7, 8, 9, 10]⟩] true)
 (.seq
 (.region [⟨(some 54), (.load true 2), [.t 3], none, []⟩,
 ⟨(some 55), (.load true 3), [.t 4], none, []⟩,
 ⟨(some 56), .call, [.f 26, .t 54, .t 55], none, [0, 1]⟩,
 ⟨(some 12), .mov, [.t 56], none, [2, 2, 0, 1, 2]⟩] false)
 (.seq
 (.seq
 (.region [⟨(some 57), .mov, [.t 12], none, []⟩,
 ⟨(some 58), (.bin .neq), [.t 57, .c (.int .i64 0)], none, [0]⟩] false)
 (.cond (.t 58)
 (.seq
 (.region [⟨(some 59), .mov, [.t 8], none, []⟩,
 ⟨(some 60), .mov, [.t 12], none, []⟩,
 ⟨(some 61), (.bin .eql), [.t 59, .t 60], none, [0, 1]⟩,
 ⟨(some 62), .mov, [.t 61], none, [2]⟩,
 ⟨(some 63), .mov, [.t 11], (some (62, true)), [3]⟩,
 ⟨(some 64), .mov, [.t 12], (some (62, true)), [3]⟩,
 ⟨(some 65), (.bin .eql), [.t 63, .t 64], (some (62, true)), [4, 5, 3]⟩,
 ⟨(some 66), .pick, [.t 62, .t 65, .c (.bool false)], none, [3, 6]⟩,
 ⟨(some 67), .mov, [.t 66], none, [7, 3]⟩,
 ⟨(some 68), (.load true 3), [.t 7], (some (67, true)), [8]⟩,
 ⟨(some 69), (.build [(.imm (.slc 1 [])), (.imm (.slc 1 [])), (.imm (.slc 1 []))] []), [], (some (67, true)), [8]⟩,
 ⟨(some 70), .call, [.f 27, .t 68, .t 69], (some (67, true)), [9, 10, 8, 8]⟩,
 ⟨(some 71), .pick, [.t 67, .t 70, .c (.bool false)], none, [8, 11]⟩,
 ⟨(some 72), .mov, [.t 71], none, [12, 11]⟩,
 ⟨(some 73), (.load true 3), [.t 10], (some (72, true)), [13]⟩,
 ⟨(some 74), (.build [(.imm (.slc 1 [])), (.imm (.slc 1 [])), (.imm (.slc 1 []))] []), [], (some (72, true)), [13]⟩,
 ⟨(some 75), .call, [.f 27, .t 73, .t 74], (some (72, true)), [14, 15, 13, 13]⟩,
 ⟨(some 76), .pick, [.t 72, .t 75, .c (.bool false)], none, [13, 16]⟩,
 ⟨(some 6), .mov, [.t 76], none, [17, 16, 0, 1, 2, 3, 4, 5, 6, 7, 8, 9, 10, 11, 12, 13, 14, 15, 16, 17]⟩] false)
 .ret)
 .skip))
 (.keep [2, 3, 4, 7, 8, 9, 10, 11] [3, 4, 7, 10] b3k2))))
def b3k4 : DCode :=
 (.seq
 (.region [⟨(some 30), (.load true 2), [.t 3], none, []⟩,
 ⟨(some 31), .call, [.f 22, .t 30], none, [0]⟩,
 ⟨(some 32), (.load true 3), [.t 4], none, []⟩,
 ⟨(some 33), .call, [.f 23, .t 32], none, [2, 1]⟩,
 ⟨(some 34), .movv, [.t 2], none, []⟩,
 ⟨(some 35), .call, [.f 24, .t 34], none, [4, 3]⟩,
 ⟨(some 36), .call, [.f 21, .t 31, .t 33, .t 35], none, [1, 3, 5, 5]⟩,
 ⟨(some 29), .mov, [.t 36], none, [6]⟩,
 ⟨(some 37), (.ext 0), [.t 29], none, [7]⟩,
 ⟨(some 38), (.ext 1), [.t 29], none, [7]⟩,
 ⟨(some 7), (.alloc [(.imm (.slc 1 [])), (.imm (.slc 1 [])), (.imm (.slc 1 []))]), [], none, []⟩,
 ⟨none, (.store 3), [.t 7, .t 37], none, [10, 8, 6, 0, 1, 2, 3, 4, 5, 6, 7, 8, 10]⟩,
 ⟨(some 8), .mov, [.t 38], none, [9, 11, 0, 1, 2, 3, 4, 5, 6, 7, 8, 9, 10, 11]⟩] true)
 (.seq
 (.region [⟨(some 9), .mov, [.c (.int .i64 0)], none, []⟩] false)
 (.seq
 (.seq
 (.region [⟨(some 39), .movv, [.t 2], none, []⟩,
 ⟨(some 40), .len, [.t 39], none, [0]⟩,
 ⟨(some 41), (.bin .gtr), [.t 40, .c (.int .i64 0)], none, [1]⟩] false)
 (.cond (.t 41)
 (.region [⟨(some 42), .movv, [.t 2], none, []⟩,
 ⟨(some 43), (.iaddr 1), [.t 42, .c (.int .i64 0)], none, [0]⟩,
 ⟨(some 44), (.load false 1), [.t 43], none, [1]⟩,
 ⟨(some 9), .mov, [.t 44], none, [2, 0, 1, 2]⟩] false)
 .skip))
 (.keep [2, 3, 4, 7, 8, 9] [3, 4, 7] b3k3))))
def b3k5 : DCode :=
 (.seq
 (.seq
 (.region [⟨(some 16), (.load true 2), [.t 3], none, []⟩,
 ⟨(some 17), .call, [.f 18, .t 16], none, [0]⟩,
 ⟨(some 18), (.un .not), [.t 17], none, [1]⟩,
 ⟨(some 19), .mov, [.t 18], none, [2, 1]⟩,
 ⟨(some 20), (.load true 3), [.t 4], (some (19, false)), [3]⟩,
 ⟨(some 21), .call, [.f 19, .t 20], (some (19, false)), [4, 3, 3]⟩,
 ⟨(some 22), (.un .not), [.t 21], (some (19, false)), [5, 3]⟩,
 ⟨(some 23), .pick, [.t 19, .c (.bool true), .t 22], none, [3, 6]⟩,
 ⟨(some 24), .mov, [.t 23], none, [7, 5]⟩,
 ⟨(some 25), .movv, [.t 2], (some (24, false)), [8]⟩,
 ⟨(some 26), .call, [.f 20, .t 25], (some (24, false)), [9, 8, 8]⟩,
 ⟨(some 27), (.un .not), [.t 26], (some (24, false)), [10, 8]⟩,
 ⟨(some 28), .pick, [.t 24, .c (.bool true), .t 27], none, [8, 11]⟩] false)
 (.cond (.t 28)
 (.seq
 (.region [⟨(some 6), .mov, [.c (.bool true)], none, []⟩] false)
 .ret)
 .skip))
 (.keep [2, 3, 4] [3, 4] b3k4))
def b3 : DCode :=
 (.seq
 (.region [⟨(some 3), .box, [.t 0], none, []⟩,
 ⟨(some 4), .box, [.t 1], none, []⟩,
 ⟨(some 6), .mov, [.c (.bool false)], none, []⟩] false)
 (.seq
 (.seq
 (.region [⟨(some 14), .call, [.f 17], none, []⟩,
 ⟨(some 15), (.un .not), [.t 14], none, [0]⟩] false)
 (.cond (.t 15)
 (.seq
 (.region [⟨(some 6), .mov, [.c (.bool false)], none, []⟩] false)
 .ret)
 .skip))
 (.keep [2, 3, 4] [3, 4] b3k5)))
def d3 : DFn := ⟨3, 131, [.tmp 6], b3⟩
theorem k3 : chkFn Try.prog Try.f3 d3 = true := by kernel_rfl

end Go.DI

/- Contracts: what the reference and the statements share; the examples. No condition. -/
set_option linter.unusedSimpArgs false
set_option maxRecDepth 100000
namespace Go.DI
open Go.Proofs Go.RowKit

theorem eq_of_getD {α : Type} (d : α) {l m : List α} (h : l.length = m.length) (k : ∀ j, j < l.length → l.getD j d = m.getD j d) : l = m := by
 apply List.ext_getElem h
 intro j h1 h2
 have := k j h1
 simpa [List.getD_eq_getElem?_getD, h1, h2] using this
theorem c_Within {x lo hi : Int} : Contract Try.prog 34 [.int .i64 x, .int .i64 lo, .int .i64 hi] (.bool (decide (lo ≤ x ∧ x ≤ hi))) := by
 refine contract_run Try.func34 k34 rfl ?_
 simp only [body34, b34, res34, ↓reduceIte, reduceCtorEq, Nat.reduceEqDiff, Nat.reduceAdd, Nat.reduceMul, Nat.reduceSub, Nat.reduceLeDiff, Nat.reduceBEq, Int.reduceToNat, Int.reduceLE, Int.reduceLT, Int.reduceEq, Int.reduceNe, di]
 split
 ·rename_i h; simp [h]
 ·rename_i h; simp [h]
theorem c_Ints {a b : List Int} (ha : a.length ≤ 1000000000000) : Contract Try.prog 45 [nI a, nI b] (.bool (decide (a = b))) := by
 refine contract_run Try.func45 k45 rfl ?_
 simp only [body45, b45, res45, b45k0, b45k1, b45k2, b45k3, vaE, ↓reduceIte, reduceCtorEq, Nat.reduceEqDiff, Nat.reduceAdd, Nat.reduceMul, Nat.reduceSub, Nat.reduceLeDiff, Nat.reduceBEq, Int.reduceToNat, Int.reduceLE, Int.reduceLT, Int.reduceEq, Int.reduceNe, di]
 split
 ·rename_i hl
  have hl : a.length = b.length := by omega
  refine loop_keep (α := Nat) rfl (fun i => a.length - i) (fun i => i ≤ a.length ∧ ∀ j, j < i → a.getD j 0 = b.getD j 0)
   (fun i => [(0, .imm (nI a)), (1, .imm (nI b)), (5, .imm (.int .i64 i))]) (fun _ => []) 0 ⟨Nat.zero_le _, fun j hj => by omega⟩ (by simp only [vaE, ↓reduceIte, reduceCtorEq, Nat.reduceEqDiff, Nat.reduceAdd, Nat.reduceMul, Nat.reduceSub, Nat.reduceLeDiff, Nat.reduceBEq, Int.reduceToNat, Int.reduceLE, Int.reduceLT, Int.reduceEq, Int.reduceNe, di] <;> rfl) ?_
  intro i ⟨hi, he⟩ ih
  simp only [res45, b45k0, b45k1, b45k2, b45k3, vaE, ↓reduceIte, reduceCtorEq, Nat.reduceEqDiff, Nat.reduceAdd, Nat.reduceMul, Nat.reduceSub, Nat.reduceLeDiff, Nat.reduceBEq, Int.reduceToNat, Int.reduceLE, Int.reduceLT, Int.reduceEq, Int.reduceNe, di]
  split
  ·rename_i h
   repeat (refine And.intro (by omega) ?_)
   split
   ·rename_i h2
    rw [wrap64 (by omega) (by omega)]
    refine ih (i + 1) _ _ (by omega) ⟨by omega, fun j hj => ?_⟩ (by simp only [vaE, ↓reduceIte, reduceCtorEq, Nat.reduceEqDiff, Nat.reduceAdd, Nat.reduceMul, Nat.reduceSub, Nat.reduceLeDiff, Nat.reduceBEq, Int.reduceToNat, Int.reduceLE, Int.reduceLT, Int.reduceEq, Int.reduceNe, di] <;> rfl)
    by_cases e : j = i
    ·subst e; exact h2
    ·exact he j (by omega)
   ·rename_i h2
    have : ¬ a = b := fun k => h2 (by rw [k])
    rw [decide_eq_false this]
  ·rename_i h
   have : a = b := eq_of_getD 0 hl (fun j hj => he j (by omega))
   rw [decide_eq_true this]
 ·rename_i hl
  have : ¬ a = b := fun k => hl (by rw [k])
  rw [decide_eq_false this]
theorem c_CopyInts {a : List Int} (ha : a.length ≤ 1000000000000) : Contract Try.prog 24 [nI a] (nI a) := by
 refine contract_run Try.func24 k24 rfl ?_
 simp only [body24, b24, res24, vaE, ↓reduceIte, reduceCtorEq, Nat.reduceEqDiff, Nat.reduceAdd, Nat.reduceMul, Nat.reduceSub, Nat.reduceLeDiff, Nat.reduceBEq, Int.reduceToNat, Int.reduceLE, Int.reduceLT, Int.reduceEq, Int.reduceNe, di]
 omega
theorem r_CopyLine {x : Ln} (hx : Few x) : Contract Try.prog 22 [lnI x] (lnI x) := by
 refine contract_run Try.func22 k22 rfl ?_
 simp only [body22, b22, res22, vaE, ↓reduceIte, reduceCtorEq, Nat.reduceEqDiff, Nat.reduceAdd, Nat.reduceMul, Nat.reduceSub, Nat.reduceLeDiff, Nat.reduceBEq, Int.reduceToNat, Int.reduceLE, Int.reduceLT, Int.reduceEq, Int.reduceNe, di]
 have h1 := hx.1
 repeat (refine And.intro (by first | omega | exact all_int _ | (simp only [zeros_len, List.length_append, List.length_take, List.length_drop, List.length_set, List.length_cons, List.length_nil, List.length_map]; omega)) ?_)
 refine calls_of (c_CopyInts (a := x.ar) (by have := hx.2; omega)) ?_; simp only [vaE, res22, ↓reduceIte, reduceCtorEq, Nat.reduceEqDiff, Nat.reduceAdd, Nat.reduceMul, Nat.reduceSub, Nat.reduceLeDiff, Nat.reduceBEq, Int.reduceToNat, Int.reduceLE, Int.reduceLT, Int.reduceEq, Int.reduceNe, di]
theorem r_CopyState {s : Ws} (hs : FewS s) : Contract Try.prog 23 [wsI s] (wsI s) := by
 refine contract_run Try.func23 k23 rfl ?_
 simp only [body23, b23, res23, vaE, ↓reduceIte, reduceCtorEq, Nat.reduceEqDiff, Nat.reduceAdd, Nat.reduceMul, Nat.reduceSub, Nat.reduceLeDiff, Nat.reduceBEq, Int.reduceToNat, Int.reduceLE, Int.reduceLT, Int.reduceEq, Int.reduceNe, di]
 refine calls_of (c_CopyInts (a := s.F) (by have := hs.1; omega)) ?_; simp only [vaE, res23, ↓reduceIte, reduceCtorEq, Nat.reduceEqDiff, Nat.reduceAdd, Nat.reduceMul, Nat.reduceSub, Nat.reduceLeDiff, Nat.reduceBEq, Int.reduceToNat, Int.reduceLE, Int.reduceLT, Int.reduceEq, Int.reduceNe, di]
 refine calls_of (c_CopyInts (a := s.B) (by have := hs.2.1; omega)) ?_; simp only [vaE, res23, ↓reduceIte, reduceCtorEq, Nat.reduceEqDiff, Nat.reduceAdd, Nat.reduceMul, Nat.reduceSub, Nat.reduceLeDiff, Nat.reduceBEq, Int.reduceToNat, Int.reduceLE, Int.reduceLT, Int.reduceEq, Int.reduceNe, di]
 refine calls_of (c_CopyInts (a := s.L) (by have := hs.2.2; omega)) ?_; simp only [vaE, res23, ↓reduceIte, reduceCtorEq, Nat.reduceEqDiff, Nat.reduceAdd, Nat.reduceMul, Nat.reduceSub, Nat.reduceLeDiff, Nat.reduceBEq, Int.reduceToNat, Int.reduceLE, Int.reduceLT, Int.reduceEq, Int.reduceNe, di]
theorem r_SameState {a b : Ws} (hs : FewS a) : Contract Try.prog 27 [wsI a, wsI b] (.bool (decide (a = b))) := by
 have key : (a = b) ↔ (a.F = b.F ∧ a.B = b.B) ∧ a.L = b.L := by
  cases a; cases b; simp [and_assoc]
 refine contract_run Try.func27 k27 rfl ?_
 simp only [body27, b27, res27, vaE, ↓reduceIte, reduceCtorEq, Nat.reduceEqDiff, Nat.reduceAdd, Nat.reduceMul, Nat.reduceSub, Nat.reduceLeDiff, Nat.reduceBEq, Int.reduceToNat, Int.reduceLE, Int.reduceLT, Int.reduceEq, Int.reduceNe, di]
 refine calls_of (c_Ints (a := a.F) (b := b.F) (by have := hs.1; omega)) ?_; simp only [vaE, res27, ↓reduceIte, reduceCtorEq, Nat.reduceEqDiff, Nat.reduceAdd, Nat.reduceMul, Nat.reduceSub, Nat.reduceLeDiff, Nat.reduceBEq, Int.reduceToNat, Int.reduceLE, Int.reduceLT, Int.reduceEq, Int.reduceNe, di]
 by_cases h1 : a.F = b.F
 rotate_left
 ·simp only [h1, vaE, ↓reduceIte, reduceCtorEq, Nat.reduceEqDiff, Nat.reduceAdd, Nat.reduceMul, Nat.reduceSub, Nat.reduceLeDiff, Nat.reduceBEq, Int.reduceToNat, Int.reduceLE, Int.reduceLT, Int.reduceEq, Int.reduceNe, di]
  rw [decide_eq_false (fun k => h1 (key.1 k).1.1)]
 simp only [h1, vaE, ↓reduceIte, reduceCtorEq, Nat.reduceEqDiff, Nat.reduceAdd, Nat.reduceMul, Nat.reduceSub, Nat.reduceLeDiff, Nat.reduceBEq, Int.reduceToNat, Int.reduceLE, Int.reduceLT, Int.reduceEq, Int.reduceNe, di]
 refine calls_of (c_Ints (a := a.B) (b := b.B) (by have := hs.2.1; omega)) ?_; simp only [vaE, res27, ↓reduceIte, reduceCtorEq, Nat.reduceEqDiff, Nat.reduceAdd, Nat.reduceMul, Nat.reduceSub, Nat.reduceLeDiff, Nat.reduceBEq, Int.reduceToNat, Int.reduceLE, Int.reduceLT, Int.reduceEq, Int.reduceNe, di]
 by_cases h2 : a.B = b.B
 rotate_left
 ·simp only [h2, vaE, ↓reduceIte, reduceCtorEq, Nat.reduceEqDiff, Nat.reduceAdd, Nat.reduceMul, Nat.reduceSub, Nat.reduceLeDiff, Nat.reduceBEq, Int.reduceToNat, Int.reduceLE, Int.reduceLT, Int.reduceEq, Int.reduceNe, di]
  rw [decide_eq_false (fun k => h2 (key.1 k).1.2)]
 simp only [h2, vaE, ↓reduceIte, reduceCtorEq, Nat.reduceEqDiff, Nat.reduceAdd, Nat.reduceMul, Nat.reduceSub, Nat.reduceLeDiff, Nat.reduceBEq, Int.reduceToNat, Int.reduceLE, Int.reduceLT, Int.reduceEq, Int.reduceNe, di]
 refine calls_of (c_Ints (a := a.L) (b := b.L) (by have := hs.2.2; omega)) ?_; simp only [vaE, res27, ↓reduceIte, reduceCtorEq, Nat.reduceEqDiff, Nat.reduceAdd, Nat.reduceMul, Nat.reduceSub, Nat.reduceLeDiff, Nat.reduceBEq, Int.reduceToNat, Int.reduceLE, Int.reduceLT, Int.reduceEq, Int.reduceNe, di]
 congr 2
 rw [decide_eq_decide, key]
 exact ⟨fun k => ⟨⟨h1, h2⟩, k⟩, fun k => k.2⟩

def pipeX : Ln := ⟨[(2, 3)], []⟩
def lineX : Ln := ⟨[(1, 1), (1, 3)], [2]⟩
theorem l_Pipe : Contract Try.prog 86 [] (lnI pipeX) := by
 refine contract_run Try.func86 k86 rfl ?_
 simp only [body86, b86, res86, pipeX, vaE, ↓reduceIte, reduceCtorEq, Nat.reduceEqDiff, Nat.reduceAdd, Nat.reduceMul, Nat.reduceSub, Nat.reduceLeDiff, Nat.reduceBEq, Int.reduceToNat, Int.reduceLE, Int.reduceLT, Int.reduceEq, Int.reduceNe, di]
theorem l_Line : Contract Try.prog 87 [] (lnI lineX) := by
 refine contract_run Try.func87 k87 rfl ?_
 simp only [body87, b87, res87, lineX, vaE, ↓reduceIte, reduceCtorEq, Nat.reduceEqDiff, Nat.reduceAdd, Nat.reduceMul, Nat.reduceSub, Nat.reduceLeDiff, Nat.reduceBEq, Int.reduceToNat, Int.reduceLE, Int.reduceLT, Int.reduceEq, Int.reduceNe, di]
theorem few_pipe : Few pipeX := ⟨by decide, by decide⟩
theorem few_line : Few lineX := ⟨by decide, by decide⟩
theorem a_1 : Contract Try.prog 39 [lnI pipeX, nI [5], .int .i64 9] (.tup [nI [5, 5, 5, 5, -5, -5, -5, -5, 5], .int .i64 0]) := by
 have h := w_ValvePressures (x := pipeX) (law := [5]) (t := 9) few_pipe (by decide)
 rwa [if_pos (by decide), show valveL (opn pipeX) [5] (9 : Int).toNat = [5, 5, 5, 5, -5, -5, -5, -5, 5] by decide] at h
theorem a_2 : Contract Try.prog 25 [lnI lineX, wsI ⟨[7, 0], [0, 0], [3]⟩, .int .i64 0] (.tup [wsI ⟨[0, 3], [-4, 0], [3]⟩, .int .i64 0]) := by
 have h := w_Stepped (x := lineX) (s := ⟨[7, 0], [0, 0], [3]⟩) (c := 0) few_line ⟨by decide, by decide, by decide⟩
 rwa [if_pos (by decide), show stp (opn lineX) ⟨[7, 0], [0, 0], [3]⟩ 0 = ⟨[0, 3], [-4, 0], [3]⟩ by decide] at h
theorem a_3 : Contract Try.prog 56 [lnI pipeX, tkI ⟨4, 7, 20, -2, 2⟩] (.tup [nI [1, 1, 1, 1, 4], .int .i64 0]) := by
 have h := w_FastestLaw (x := pipeX) (t := ⟨4, 7, 20, -2, 2⟩) few_pipe
 rwa [if_pos (by decide), show fast (opn pipeX) ⟨4, 7, 20, -2, 2⟩ = [1, 1, 1, 1, 4] by kernel_rfl] at h
theorem a_4 : Contract Try.prog 43 [lnI lineX, .int .i64 1] (.tup [ratI ((-2, -2), (9, 0)), .int .i64 0]) := by
 have h := w_ImpedanceAt (x := lineX) (h := 1) few_line
 rwa [if_pos (by decide), if_neg (by decide), show impL (lowM (lineMat (opn lineX) 1)) = ((-2, -2), (9, 0)) by decide] at h
def pipeZ : Ln := ⟨[(1, 3)], []⟩
theorem a_5 : Contract Try.prog 44 [lnI pipeZ] (.tup [nI [1, 3], .int .i64 0]) := by
 have h := w_ResonancesOf (x := pipeZ) ⟨by decide, by decide⟩
 rwa [if_pos (by decide), show resL (opn pipeZ) = [1, 3] by decide] at h
theorem l_awake : Contract Try.prog 17 [] (.bool true) := by
 refine contract_run Try.func17 k17 rfl ?_
 simp only [body17, b17, res17, vaE, ↓reduceIte, reduceCtorEq, Nat.reduceEqDiff, Nat.reduceAdd, Nat.reduceMul, Nat.reduceSub, Nat.reduceLeDiff, Nat.reduceBEq, Int.reduceToNat, Int.reduceLE, Int.reduceLT, Int.reduceEq, Int.reduceNe, di]
 refine calls_of l_Pipe ?_; simp only [vaE, res17, ↓reduceIte, reduceCtorEq, Nat.reduceEqDiff, Nat.reduceAdd, Nat.reduceMul, Nat.reduceSub, Nat.reduceLeDiff, Nat.reduceBEq, Int.reduceToNat, Int.reduceLE, Int.reduceLT, Int.reduceEq, Int.reduceNe, di]
 simp only [pipeX, vaE, ↓reduceIte, reduceCtorEq, Nat.reduceEqDiff, Nat.reduceAdd, Nat.reduceMul, Nat.reduceSub, Nat.reduceLeDiff, Nat.reduceBEq, Int.reduceToNat, Int.reduceLE, Int.reduceLT, Int.reduceEq, Int.reduceNe, di]
 refine calls_of a_1 ?_; simp only [vaE, res17, ↓reduceIte, reduceCtorEq, Nat.reduceEqDiff, Nat.reduceAdd, Nat.reduceMul, Nat.reduceSub, Nat.reduceLeDiff, Nat.reduceBEq, Int.reduceToNat, Int.reduceLE, Int.reduceLT, Int.reduceEq, Int.reduceNe, di]
 refine calls_of l_Line ?_; simp only [vaE, res17, ↓reduceIte, reduceCtorEq, Nat.reduceEqDiff, Nat.reduceAdd, Nat.reduceMul, Nat.reduceSub, Nat.reduceLeDiff, Nat.reduceBEq, Int.reduceToNat, Int.reduceLE, Int.reduceLT, Int.reduceEq, Int.reduceNe, di]
 refine calls_of a_2 ?_; simp only [vaE, res17, ↓reduceIte, reduceCtorEq, Nat.reduceEqDiff, Nat.reduceAdd, Nat.reduceMul, Nat.reduceSub, Nat.reduceLeDiff, Nat.reduceBEq, Int.reduceToNat, Int.reduceLE, Int.reduceLT, Int.reduceEq, Int.reduceNe, di]
 refine calls_of l_Pipe ?_; simp only [vaE, res17, ↓reduceIte, reduceCtorEq, Nat.reduceEqDiff, Nat.reduceAdd, Nat.reduceMul, Nat.reduceSub, Nat.reduceLeDiff, Nat.reduceBEq, Int.reduceToNat, Int.reduceLE, Int.reduceLT, Int.reduceEq, Int.reduceNe, di]
 refine calls_of a_3 ?_; simp only [vaE, res17, ↓reduceIte, reduceCtorEq, Nat.reduceEqDiff, Nat.reduceAdd, Nat.reduceMul, Nat.reduceSub, Nat.reduceLeDiff, Nat.reduceBEq, Int.reduceToNat, Int.reduceLE, Int.reduceLT, Int.reduceEq, Int.reduceNe, di]
 refine calls_of l_Line ?_; simp only [vaE, res17, ↓reduceIte, reduceCtorEq, Nat.reduceEqDiff, Nat.reduceAdd, Nat.reduceMul, Nat.reduceSub, Nat.reduceLeDiff, Nat.reduceBEq, Int.reduceToNat, Int.reduceLE, Int.reduceLT, Int.reduceEq, Int.reduceNe, di]
 refine calls_of a_4 ?_; simp only [vaE, res17, ↓reduceIte, reduceCtorEq, Nat.reduceEqDiff, Nat.reduceAdd, Nat.reduceMul, Nat.reduceSub, Nat.reduceLeDiff, Nat.reduceBEq, Int.reduceToNat, Int.reduceLE, Int.reduceLT, Int.reduceEq, Int.reduceNe, di]
 simp only [ratI, vaE, ↓reduceIte, reduceCtorEq, Nat.reduceEqDiff, Nat.reduceAdd, Nat.reduceMul, Nat.reduceSub, Nat.reduceLeDiff, Nat.reduceBEq, Int.reduceToNat, Int.reduceLE, Int.reduceLT, Int.reduceEq, Int.reduceNe, di]
 refine calls_of a_5 ?_; simp only [vaE, res17, ↓reduceIte, reduceCtorEq, Nat.reduceEqDiff, Nat.reduceAdd, Nat.reduceMul, Nat.reduceSub, Nat.reduceLeDiff, Nat.reduceBEq, Int.reduceToNat, Int.reduceLE, Int.reduceLT, Int.reduceEq, Int.reduceNe, di]
 refine calls_of (c_Ints (a := [5, 5, 5, 5, -5, -5, -5, -5, 5]) (b := [5, 5, 5, 5, -5, -5, -5, -5, 5]) (by decide)) ?_; simp only [vaE, res17, ↓reduceIte, reduceCtorEq, Nat.reduceEqDiff, Nat.reduceAdd, Nat.reduceMul, Nat.reduceSub, Nat.reduceLeDiff, Nat.reduceBEq, Int.reduceToNat, Int.reduceLE, Int.reduceLT, Int.reduceEq, Int.reduceNe, di]
 refine calls_of (r_SameState (a := ⟨[0, 3], [-4, 0], [3]⟩) (b := ⟨[0, 3], [-4, 0], [3]⟩) ⟨by decide, by decide, by decide⟩) ?_; simp only [vaE, res17, ↓reduceIte, reduceCtorEq, Nat.reduceEqDiff, Nat.reduceAdd, Nat.reduceMul, Nat.reduceSub, Nat.reduceLeDiff, Nat.reduceBEq, Int.reduceToNat, Int.reduceLE, Int.reduceLT, Int.reduceEq, Int.reduceNe, di]
 refine calls_of (c_Ints (a := [1, 1, 1, 1, 4]) (b := [1, 1, 1, 1, 4]) (by decide)) ?_; simp only [vaE, res17, ↓reduceIte, reduceCtorEq, Nat.reduceEqDiff, Nat.reduceAdd, Nat.reduceMul, Nat.reduceSub, Nat.reduceLeDiff, Nat.reduceBEq, Int.reduceToNat, Int.reduceLE, Int.reduceLT, Int.reduceEq, Int.reduceNe, di]
 refine calls_of (c_Ints (a := [1, 3]) (b := [1, 3]) (by decide)) ?_; simp only [vaE, res17, ↓reduceIte, reduceCtorEq, Nat.reduceEqDiff, Nat.reduceAdd, Nat.reduceMul, Nat.reduceSub, Nat.reduceLeDiff, Nat.reduceBEq, Int.reduceToNat, Int.reduceLE, Int.reduceLT, Int.reduceEq, Int.reduceNe, di]

theorem l_few {x : Ln} : Contract Try.prog 18 [lnI x] (.bool (decide (x.pp.length ≤ 6 ∧ x.ar.length ≤ 6))) := by
 refine contract_run Try.func18 k18 rfl ?_
 simp only [body18, b18, res18, vaE, ↓reduceIte, reduceCtorEq, Nat.reduceEqDiff, Nat.reduceAdd, Nat.reduceMul, Nat.reduceSub, Nat.reduceLeDiff, Nat.reduceBEq, Int.reduceToNat, Int.reduceLE, Int.reduceLT, Int.reduceEq, Int.reduceNe, di]
 by_cases h1 : (x.pp.length : Int) ≤ 6
 ·rw [if_pos h1]
  congr 2
  rw [decide_eq_decide]
  omega
 ·rw [if_neg h1, decide_eq_false (by omega)]
end Go.DI

