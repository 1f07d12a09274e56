/- Contracts of witnesses. No condition. -/
import Derived.Test.YtdpfjbghiahbeaaKhGm
/- The reference's functions of witnesses, as data. No condition. -/
namespace Go.DI
open Go.Proofs Go.RowKit
/-- guidevane/guidevaneref04.CopyStates -/
def b32 : DCode :=
 (.seq
  (.region [⟨(some 2), .mov, [.c (.slc 2 [])], none, []⟩] false)
  (.seq
   (.region [⟨(some 3), (.bsl 2), [], none, []⟩,
     ⟨(some 4), .movv, [.t 0], none, []⟩,
     ⟨(some 5), (.append 2 16 false), [.t 3, .t 4], none, [0, 1]⟩,
     ⟨(some 2), .movv, [.t 5], none, [2, 2, 0, 1, 2]⟩] false)
   .ret))
def d32 : DFn := ⟨1, 6, [.tmp 2], b32⟩
theorem body32 : d32.body = b32 := rfl
theorem res32 : d32.res = [.tmp 2] := rfl
theorem k32 : chkFn Try.prog Try.f32 d32 = true := by kernel_rfl

/-- guidevane/guidevaneref04.CopyWitness -/
def b34 : DCode :=
 (.seq
  (.region [⟨(some 1), .box, [.t 0], none, []⟩,
    ⟨(some 2), (.alloc [(.imm (.slc 1 [])), (.imm (.int .i64 0)), (.imm (.int .i64 0)), (.imm (.int .i64 0)), (.imm (.int .i64 0))]), [], none, []⟩] false)
  (.seq
   (.region [⟨(some 3), (.faddr 0 false 1), [.t 1], none, []⟩,
     ⟨(some 4), (.load false 1), [.t 3], none, [0]⟩,
     ⟨(some 5), .call, [.f 43, .t 4], none, [1]⟩,
     ⟨(some 6), (.faddr 0 false 1), [.t 1], none, [0, 1, 2]⟩,
     ⟨none, (.store 1), [.t 6, .t 5], none, [3, 2, 2, 0, 1, 2]⟩] false)
   (.seq
    (.region [⟨(some 7), (.load true 5), [.t 1], none, []⟩,
      ⟨none, (.store 5), [.t 2, .t 7], none, [0, 0]⟩] false)
    .ret)))
def d34 : DFn := ⟨1, 8, [.cell 2 true 5], b34⟩
theorem body34 : d34.body = b34 := rfl
theorem res34 : d34.res = [.cell 2 true 5] := rfl
theorem k34 : chkFn Try.prog Try.f34 d34 = true := by kernel_rfl

/-- guidevane/guidevaneref04.SameWitness -/
def b36 : DCode :=
 (.seq
  (.region [⟨(some 2), .box, [.t 0], none, []⟩,
    ⟨(some 3), .box, [.t 1], none, []⟩,
    ⟨(some 4), .mov, [.c (.bool false)], none, []⟩] false)
  (.seq
   (.region [⟨(some 5), (.faddr 0 false 1), [.t 2], none, []⟩,
     ⟨(some 6), (.load false 1), [.t 5], none, [0]⟩,
     ⟨(some 7), (.faddr 0 false 1), [.t 3], none, []⟩,
     ⟨(some 8), (.load false 1), [.t 7], none, [2]⟩,
     ⟨(some 9), .call, [.f 46, .t 6, .t 8], none, [1, 3]⟩,
     ⟨(some 10), .mov, [.t 9], none, [4, 4]⟩,
     ⟨(some 11), (.faddr 1 true 2), [.t 2], (some (10, true)), [5]⟩,
     ⟨(some 12), (.load true 2), [.t 11], (some (10, true)), [6, 5]⟩,
     ⟨(some 13), (.faddr 1 true 2), [.t 3], (some (10, true)), [5]⟩,
     ⟨(some 14), (.load true 2), [.t 13], (some (10, true)), [8, 5]⟩,
     ⟨(some 15), (.eqs [false, false] false), [.t 12, .t 14], (some (10, true)), [7, 9, 5]⟩,
     ⟨(some 16), .pick, [.t 10, .t 15, .c (.bool false)], none, [5, 10]⟩,
     ⟨(some 17), .mov, [.t 16], none, [11, 5]⟩,
     ⟨(some 18), (.faddr 3 false 1), [.t 2], (some (17, true)), [12]⟩,
     ⟨(some 19), (.load false 1), [.t 18], (some (17, true)), [13, 12]⟩,
     ⟨(some 20), (.faddr 3 false 1), [.t 3], (some (17, true)), [12]⟩,
     ⟨(some 21), (.load false 1), [.t 20], (some (17, true)), [15, 12]⟩,
     ⟨(some 22), (.bin .eql), [.t 19, .t 21], (some (17, true)), [14, 16, 12]⟩,
     ⟨(some 23), .pick, [.t 17, .t 22, .c (.bool false)], none, [12, 17]⟩,
     ⟨(some 24), .mov, [.t 23], none, [18, 12]⟩,
     ⟨(some 25), (.faddr 4 false 1), [.t 2], (some (24, true)), [19]⟩,
     ⟨(some 26), (.load false 1), [.t 25], (some (24, true)), [20, 19]⟩,
     ⟨(some 27), (.faddr 4 false 1), [.t 3], (some (24, true)), [19]⟩,
     ⟨(some 28), (.load false 1), [.t 27], (some (24, true)), [22, 19]⟩,
     ⟨(some 29), (.bin .eql), [.t 26, .t 28], (some (24, true)), [21, 23, 19]⟩,
     ⟨(some 30), .pick, [.t 24, .t 29, .c (.bool false)], none, [19, 24]⟩,
     ⟨(some 4), .mov, [.t 30], none, [25, 19, 0, 1, 2, 3, 4, 5, 6, 7, 8, 9, 10, 11, 12, 13, 14, 15, 16, 17, 18, 19, 20, 21, 22, 23, 24, 25]⟩] false)
   .ret))
def d36 : DFn := ⟨2, 31, [.tmp 4], b36⟩
theorem body36 : d36.body = b36 := rfl
theorem res36 : d36.res = [.tmp 4] := rfl
theorem k36 : chkFn Try.prog Try.f36 d36 = true := by kernel_rfl

/-- guidevane/guidevaneref04.StartsErr -/
def b38k0 : DCode :=
 (.region [⟨(some 15), .mov, [.t 3], none, []⟩,
   ⟨(some 16), (.bin .add), [.t 15, .c (.int .i64 1)], none, [0]⟩,
   ⟨(some 3), .mov, [.t 16], none, [1, 0, 1]⟩] false)
def b38k1 : DCode :=
 (.seq
  (.block 1
   (.seq
    (.region [⟨(some 17), .movv, [.t 0], none, []⟩,
      ⟨(some 18), .mov, [.t 3], none, []⟩,
      ⟨(some 19), (.iaddr 2), [.t 17, .t 18], none, [0, 1]⟩,
      ⟨(some 20), (.load true 2), [.t 19], none, [2]⟩,
      ⟨(some 21), .call, [.f 19, .t 20], none, [3]⟩,
      ⟨(some 4), .mov, [.t 21], none, [4, 4, 0, 1, 2, 3, 4]⟩] false)
    (.seq
     (.region [⟨(some 22), .mov, [.t 4], none, []⟩,
       ⟨(some 23), (.bin .neq), [.t 22, .c (.int .i64 0)], none, [0]⟩] false)
     (.cond (.t 23)
      (.seq
       (.region [⟨(some 24), .mov, [.t 4], none, []⟩,
         ⟨(some 2), .mov, [.t 24], none, [0, 0]⟩] false)
       .ret)
      .skip))))
  (.keep [0, 3] [] b38k0))
def b38l0 : DCode := .keep [0, 3] []
  (.seq
   (.seq
    (.region [⟨(some 11), .mov, [.t 3], none, []⟩,
      ⟨(some 12), .movv, [.t 0], none, []⟩,
      ⟨(some 13), .len, [.t 12], none, [1]⟩,
      ⟨(some 14), (.bin .lss), [.t 11, .t 13], none, [0, 2]⟩] false)
    (.cond (.t 14)
     .skip
     (.exit 0)))
   (.keep [0, 3] [] b38k1))
def b38k2 : DCode :=
 (.seq
  (.region [⟨(some 2), .mov, [.c (.int .i64 0)], none, []⟩] false)
  .ret)
def b38k3 : DCode :=
 (.seq
  (.seq
   (.region [⟨(some 3), .mov, [.c (.int .i64 0)], none, []⟩] false)
   (.block 0
    (.loop b38l0)))
  (.keep [] [] b38k2))
def b38k4 : DCode :=
 (.seq
  (.seq
   (.region [⟨(some 8), .movv, [.t 0], none, []⟩,
     ⟨(some 9), .len, [.t 8], none, [0]⟩,
     ⟨(some 10), (.bin .gtr), [.t 9, .c (.int .i64 40)], none, [1]⟩] false)
   (.cond (.t 10)
    (.seq
     (.region [⟨(some 2), .mov, [.c (.int .i64 8)], none, []⟩] false)
     .ret)
    .skip))
  (.keep [0] [] b38k3))
def b38 : DCode :=
 (.seq
  (.region [⟨(some 2), .mov, [.c (.int .i64 0)], none, []⟩] false)
  (.seq
   (.seq
    (.region [⟨(some 5), .movv, [.t 0], none, []⟩,
      ⟨(some 6), .len, [.t 5], none, [0]⟩,
      ⟨(some 7), (.bin .eql), [.t 6, .c (.int .i64 0)], none, [1]⟩] false)
    (.cond (.t 7)
     (.seq
      (.region [⟨(some 2), .mov, [.c (.int .i64 10)], none, []⟩] false)
      .ret)
     .skip))
   (.keep [0] [] b38k4)))
def d38 : DFn := ⟨1, 25, [.tmp 2], b38⟩
theorem body38 : d38.body = b38 := rfl
theorem res38 : d38.res = [.tmp 2] := rfl
theorem k38 : chkFn Try.prog Try.f38 d38 = true := by kernel_rfl

/-- guidevane/guidevanelaw04.few -/
def b29 : DCode :=
 (.seq
  (.region [⟨(some 1), .box, [.t 0], none, []⟩,
    ⟨(some 2), .mov, [.c (.bool false)], none, []⟩] false)
  (.seq
   (.region [⟨(some 3), (.faddr 0 false 1), [.t 1], none, []⟩,
     ⟨(some 4), (.load false 1), [.t 3], none, [0]⟩,
     ⟨(some 5), .len, [.t 4], none, [1]⟩,
     ⟨(some 6), (.bin .leq), [.t 5, .c (.int .i64 6)], none, [2]⟩,
     ⟨(some 7), .mov, [.t 6], none, [3]⟩,
     ⟨(some 8), (.faddr 0 false 1), [.t 1], (some (7, false)), [4]⟩,
     ⟨(some 9), (.load false 1), [.t 8], (some (7, false)), [5, 4]⟩,
     ⟨(some 10), .len, [.t 9], (some (7, false)), [6, 4]⟩,
     ⟨(some 11), (.bin .gtr), [.t 10, .c (.int .i64 40)], (some (7, false)), [7, 4]⟩,
     ⟨(some 12), .mov, [.t 11], (some (7, false)), [8, 4, 4]⟩,
     ⟨(some 13), (.faddr 0 false 1), [.t 1], (some (12, true)), [9]⟩,
     ⟨(some 14), (.load false 1), [.t 13], (some (12, true)), [10, 9]⟩,
     ⟨(some 15), .len, [.t 14], (some (12, true)), [11, 9]⟩,
     ⟨(some 16), (.bin .leq), [.t 15, .c (.int .i64 42)], (some (12, true)), [12, 9]⟩,
     ⟨(some 17), .pick, [.t 12, .t 16, .c (.bool false)], (some (7, false)), [9, 13, 4]⟩,
     ⟨(some 18), .pick, [.t 7, .c (.bool true), .t 17], none, [4, 14]⟩,
     ⟨(some 19), .mov, [.t 18], none, [15, 9]⟩,
     ⟨(some 20), (.faddr 1 true 5), [.t 1], (some (19, true)), [16]⟩,
     ⟨(some 21), (.faddr 0 false 1), [.t 20], (some (19, true)), [17, 16]⟩,
     ⟨(some 22), (.load false 1), [.t 21], (some (19, true)), [18, 16]⟩,
     ⟨(some 23), .len, [.t 22], (some (19, true)), [19, 16]⟩,
     ⟨(some 24), (.bin .leq), [.t 23, .c (.int .i64 10)], (some (19, true)), [20, 16]⟩,
     ⟨(some 25), .pick, [.t 19, .t 24, .c (.bool false)], none, [16, 21]⟩,
     ⟨(some 26), .mov, [.t 25], none, [22, 16]⟩,
     ⟨(some 27), (.faddr 6 false 1), [.t 1], (some (26, true)), [23]⟩,
     ⟨(some 28), (.load false 1), [.t 27], (some (26, true)), [24, 23]⟩,
     ⟨(some 29), .len, [.t 28], (some (26, true)), [25, 23]⟩,
     ⟨(some 30), (.bin .leq), [.t 29, .c (.int .i64 6)], (some (26, true)), [26, 23]⟩,
     ⟨(some 31), .mov, [.t 30], (some (26, true)), [27, 23, 23]⟩,
     ⟨(some 32), (.faddr 6 false 1), [.t 1], (some (31, false)), [28]⟩,
     ⟨(some 33), (.load false 1), [.t 32], (some (31, false)), [29, 28]⟩,
     ⟨(some 34), .len, [.t 33], (some (31, false)), [30, 28]⟩,
     ⟨(some 35), (.bin .gtr), [.t 34, .c (.int .i64 64)], (some (31, false)), [31, 28]⟩,
     ⟨(some 36), .mov, [.t 35], (some (31, false)), [32, 28, 28]⟩,
     ⟨(some 37), (.faddr 6 false 1), [.t 1], (some (36, true)), [33]⟩,
     ⟨(some 38), (.load false 1), [.t 37], (some (36, true)), [34, 33]⟩,
     ⟨(some 39), .len, [.t 38], (some (36, true)), [35, 33]⟩,
     ⟨(some 40), (.bin .leq), [.t 39, .c (.int .i64 66)], (some (36, true)), [36, 33]⟩,
     ⟨(some 41), .pick, [.t 36, .t 40, .c (.bool false)], (some (31, false)), [33, 37, 28]⟩,
     ⟨(some 42), .pick, [.t 31, .c (.bool true), .t 41], (some (26, true)), [28, 38, 23]⟩,
     ⟨(some 43), .pick, [.t 26, .t 42, .c (.bool false)], none, [23, 39]⟩,
     ⟨(some 2), .mov, [.t 43], none, [40, 33, 0, 1, 2, 3, 4, 5, 6, 7, 8, 9, 10, 11, 12, 13, 14, 15, 16, 17, 18, 19, 20, 21, 22, 23, 24, 25, 26, 27, 28, 29, 30, 31, 32, 33, 34, 35, 36, 37, 38, 39, 40]⟩] false)
   .ret))
def d29 : DFn := ⟨1, 44, [.tmp 2], b29⟩
theorem body29 : d29.body = b29 := rfl
theorem res29 : d29.res = [.tmp 2] := rfl
theorem k29 : chkFn Try.prog Try.f29 d29 = true := by kernel_rfl

end Go.DI

/- Contracts: witnesses, of the program and of the reference. No condition. -/
set_option linter.unusedSimpArgs false
set_option maxRecDepth 20000
namespace Go.DI
open Go.Proofs Go.RowKit Sg

theorem loads_ne {p : Pl} {o : List Int} (hp : PlanOk p) : loadsP p o ≠ [] := by
  intro h
  have h1 := loadsF_length (p := p) (o := o) p.ticks.toNat 0 p.load
  have h2 := hp.ticks
  unfold loadsP at h
  rw [h] at h1
  simp at h1
  omega

/-- The error of a witness for a valid plan. -/
def witE (r : Ru) (p : Pl) (w : Wt) : Int :=
  fstE (orderE p w.ord) (fstE (stateErr w.st) (fstE (fricErr r w.k) (if highL r w.st (loadsP p w.ord) w.k = w.lev then 0 else 19)))
def chkW (r : Ru) (p : Pl) (w : Wt) : Int := fstE (planEr r p).2 (witE r p w)

theorem s_CheckWitness {r : Ru} {p : Pl} {w : Wt} (hl : p.ch.length ≤ 1000000000) : Contract Try.prog 33 [ruI r, spI p, swI w] (.int .i64 (chkW r p w)) := by
  refine contract_run Try.func33 k33 rfl ?_
  simp only [body33, b33, res33, b33k0, b33k1, ruI, ssI, sbI, spI, swI, scI, stI, srI, saI, snI, ↓reduceIte, reduceCtorEq, Nat.reduceEqDiff, Nat.reduceAdd, Nat.reduceMul, Nat.reduceSub, Nat.reduceLeDiff, Nat.reduceBEq, Int.reduceToNat, Int.reduceLE, Int.reduceLT, Int.reduceEq, Int.reduceNe, di0, di1, di2, di3, di4, di5, di6, di7, di8, di9, postX_ret, postX_normal, ex_some]
  refine calls_of (s_open hl) ?_; simp only [ruI, ssI, sbI, spI, swI, scI, stI, srI, saI, snI, res33, b33k0, b33k1, ↓reduceIte, reduceCtorEq, Nat.reduceEqDiff, Nat.reduceAdd, Nat.reduceMul, Nat.reduceSub, Nat.reduceLeDiff, Nat.reduceBEq, Int.reduceToNat, Int.reduceLE, Int.reduceLT, Int.reduceEq, Int.reduceNe, di0, di1, di2, di3, di4, di5, di6, di7, di8, di9, postX_ret, postX_normal, ex_some]
  unfold chkW fstE
  by_cases hE : (planEr r p).2 = 0
  case neg =>
    simp only [hE, ruI, ssI, sbI, spI, swI, scI, stI, srI, saI, snI, ↓reduceIte, reduceCtorEq, Nat.reduceEqDiff, Nat.reduceAdd, Nat.reduceMul, Nat.reduceSub, Nat.reduceLeDiff, Nat.reduceBEq, Int.reduceToNat, Int.reduceLE, Int.reduceLT, Int.reduceEq, Int.reduceNe, di0, di1, di2, di3, di4, di5, di6, di7, di8, di9, postX_ret, postX_normal, ex_some]
  obtain ⟨hr, hp⟩ := planEr_zero.1 hE
  simp only [hE, ruI, ssI, sbI, spI, swI, scI, stI, srI, saI, snI, ↓reduceIte, reduceCtorEq, Nat.reduceEqDiff, Nat.reduceAdd, Nat.reduceMul, Nat.reduceSub, Nat.reduceLeDiff, Nat.reduceBEq, Int.reduceToNat, Int.reduceLE, Int.reduceLT, Int.reduceEq, Int.reduceNe, di0, di1, di2, di3, di4, di5, di6, di7, di8, di9, postX_ret, postX_normal, ex_some]
  refine calls_of (s_orderErr hp) ?_; simp only [ruI, ssI, sbI, spI, swI, scI, stI, srI, saI, snI, res33, b33k0, b33k1, ↓reduceIte, reduceCtorEq, Nat.reduceEqDiff, Nat.reduceAdd, Nat.reduceMul, Nat.reduceSub, Nat.reduceLeDiff, Nat.reduceBEq, Int.reduceToNat, Int.reduceLE, Int.reduceLT, Int.reduceEq, Int.reduceNe, di0, di1, di2, di3, di4, di5, di6, di7, di8, di9, postX_ret, postX_normal, ex_some]
  refine calls_of s_stateErr ?_; simp only [ruI, ssI, sbI, spI, swI, scI, stI, srI, saI, snI, res33, b33k0, b33k1, ↓reduceIte, reduceCtorEq, Nat.reduceEqDiff, Nat.reduceAdd, Nat.reduceMul, Nat.reduceSub, Nat.reduceLeDiff, Nat.reduceBEq, Int.reduceToNat, Int.reduceLE, Int.reduceLT, Int.reduceEq, Int.reduceNe, di0, di1, di2, di3, di4, di5, di6, di7, di8, di9, postX_ret, postX_normal, ex_some]
  refine calls_of s_fricErr ?_; simp only [ruI, ssI, sbI, spI, swI, scI, stI, srI, saI, snI, res33, b33k0, b33k1, ↓reduceIte, reduceCtorEq, Nat.reduceEqDiff, Nat.reduceAdd, Nat.reduceMul, Nat.reduceSub, Nat.reduceLeDiff, Nat.reduceBEq, Int.reduceToNat, Int.reduceLE, Int.reduceLT, Int.reduceEq, Int.reduceNe, di0, di1, di2, di3, di4, di5, di6, di7, di8, di9, postX_ret, postX_normal, ex_some]
  refine calls_of (s_first (l := [orderE p w.ord, stateErr w.st, fricErr r w.k]) (by simp)) ?_; simp only [ruI, ssI, sbI, spI, swI, scI, stI, srI, saI, snI, res33, b33k0, b33k1, ↓reduceIte, reduceCtorEq, Nat.reduceEqDiff, Nat.reduceAdd, Nat.reduceMul, Nat.reduceSub, Nat.reduceLeDiff, Nat.reduceBEq, Int.reduceToNat, Int.reduceLE, Int.reduceLT, Int.reduceEq, Int.reduceNe, di0, di1, di2, di3, di4, di5, di6, di7, di8, di9, postX_ret, postX_normal, ex_some]
  rw [firstNZ_three]
  unfold witE
  by_cases h : fstE (orderE p w.ord) (fstE (stateErr w.st) (fricErr r w.k)) = 0
  case neg =>
    simp only [h, ruI, ssI, sbI, spI, swI, scI, stI, srI, saI, snI, ↓reduceIte, reduceCtorEq, Nat.reduceEqDiff, Nat.reduceAdd, Nat.reduceMul, Nat.reduceSub, Nat.reduceLeDiff, Nat.reduceBEq, Int.reduceToNat, Int.reduceLE, Int.reduceLT, Int.reduceEq, Int.reduceNe, di0, di1, di2, di3, di4, di5, di6, di7, di8, di9, postX_ret, postX_normal, ex_some]
    unfold fstE at h ⊢
    congr 2
    by_cases h1 : orderE p w.ord = 0
    · rw [if_pos h1, if_pos h1] at *
      by_cases h2 : stateErr w.st = 0
      · rw [if_pos h2, if_pos h2] at *
        rw [if_neg h]
      · rw [if_neg h2, if_neg h2]
    · rw [if_neg h1, if_neg h1]
  simp only [h, ruI, ssI, sbI, spI, swI, scI, stI, srI, saI, snI, ↓reduceIte, reduceCtorEq, Nat.reduceEqDiff, Nat.reduceAdd, Nat.reduceMul, Nat.reduceSub, Nat.reduceLeDiff, Nat.reduceBEq, Int.reduceToNat, Int.reduceLE, Int.reduceLT, Int.reduceEq, Int.reduceNe, di0, di1, di2, di3, di4, di5, di6, di7, di8, di9, postX_ret, postX_normal, ex_some]
  rw [fstE_zero, fstE_zero] at h
  obtain ⟨h1, h2, h3⟩ := h
  obtain ⟨k1, k2, k3⟩ := orderE_zero h1
  have hix := orderE_idx hp k1 k2
  have hst := stateErr_zero.1 h2
  have hk := fricErr_zero.1 h3
  have g1 := hr.lo; have g2 := hr.hi
  refine calls_of (s_loads (r := r) hp hix) ?_; simp only [ruI, ssI, sbI, spI, swI, scI, stI, srI, saI, snI, res33, b33k0, b33k1, ↓reduceIte, reduceCtorEq, Nat.reduceEqDiff, Nat.reduceAdd, Nat.reduceMul, Nat.reduceSub, Nat.reduceLeDiff, Nat.reduceBEq, Int.reduceToNat, Int.reduceLE, Int.reduceLT, Int.reduceEq, Int.reduceNe, di0, di1, di2, di3, di4, di5, di6, di7, di8, di9, postX_ret, postX_normal, ex_some]
  refine calls_of (s_highest (s := w.st) (k := w.k) hr (by omega) (loads_ok hp k3) (by omega) (loads_ne hp)) ?_; simp only [ruI, ssI, sbI, spI, swI, scI, stI, srI, saI, snI, res33, b33k0, b33k1, ↓reduceIte, reduceCtorEq, Nat.reduceEqDiff, Nat.reduceAdd, Nat.reduceMul, Nat.reduceSub, Nat.reduceLeDiff, Nat.reduceBEq, Int.reduceToNat, Int.reduceLE, Int.reduceLT, Int.reduceEq, Int.reduceNe, di0, di1, di2, di3, di4, di5, di6, di7, di8, di9, postX_ret, postX_normal, ex_some]
  refine calls_of s_unless ?_; simp only [ruI, ssI, sbI, spI, swI, scI, stI, srI, saI, snI, res33, b33k0, b33k1, ↓reduceIte, reduceCtorEq, Nat.reduceEqDiff, Nat.reduceAdd, Nat.reduceMul, Nat.reduceSub, Nat.reduceLeDiff, Nat.reduceBEq, Int.reduceToNat, Int.reduceLE, Int.reduceLT, Int.reduceEq, Int.reduceNe, di0, di1, di2, di3, di4, di5, di6, di7, di8, di9, postX_ret, postX_normal, ex_some]
  unfold fstE
  rw [if_pos h1, if_pos h2, if_pos h3]

theorem r_CopyStates {l : List Sta} (hl : l.length ≤ 1000000000) : Contract Try.prog 32 [.slc 2 (l.map ssI)] (.slc 2 (l.map ssI)) := by
  refine contract_run Try.func32 k32 rfl ?_
  simp only [body32, b32, res32, ruI, ssI, sbI, spI, swI, scI, stI, srI, saI, snI, ↓reduceIte, reduceCtorEq, Nat.reduceEqDiff, Nat.reduceAdd, Nat.reduceMul, Nat.reduceSub, Nat.reduceLeDiff, Nat.reduceBEq, Int.reduceToNat, Int.reduceLE, Int.reduceLT, Int.reduceEq, Int.reduceNe, di0, di1, di2, di3, di4, di5, di6, di7, di8, di9, postX_ret, postX_normal, ex_some]
  omega

theorem r_CopyWitness {w : Wt} (hl : w.ord.length ≤ 1000000000) : Contract Try.prog 34 [swI w] (swI w) := by
  refine contract_run Try.func34 k34 rfl ?_
  simp only [body34, b34, res34, ruI, ssI, sbI, spI, swI, scI, stI, srI, saI, snI, ↓reduceIte, reduceCtorEq, Nat.reduceEqDiff, Nat.reduceAdd, Nat.reduceMul, Nat.reduceSub, Nat.reduceLeDiff, Nat.reduceBEq, Int.reduceToNat, Int.reduceLE, Int.reduceLT, Int.reduceEq, Int.reduceNe, di0, di1, di2, di3, di4, di5, di6, di7, di8, di9, postX_ret, postX_normal, ex_some]
  refine calls_of (c_CopyInts (a := w.ord) (by omega)) ?_; simp only [ruI, ssI, sbI, spI, swI, scI, stI, srI, saI, snI, res34, ↓reduceIte, reduceCtorEq, Nat.reduceEqDiff, Nat.reduceAdd, Nat.reduceMul, Nat.reduceSub, Nat.reduceLeDiff, Nat.reduceBEq, Int.reduceToNat, Int.reduceLE, Int.reduceLT, Int.reduceEq, Int.reduceNe, di0, di1, di2, di3, di4, di5, di6, di7, di8, di9, postX_ret, postX_normal, ex_some]

theorem r_SameWitness {v w : Wt} (hl : v.ord.length ≤ 1000000000) : Contract Try.prog 36 [swI v, swI w] (.bool (decide (v.ord = w.ord ∧ v.st = w.st ∧ v.k = w.k ∧ v.lev = w.lev))) := by
  refine contract_run Try.func36 k36 rfl ?_
  simp only [body36, b36, res36, ruI, ssI, sbI, spI, swI, scI, stI, srI, saI, snI, ↓reduceIte, reduceCtorEq, Nat.reduceEqDiff, Nat.reduceAdd, Nat.reduceMul, Nat.reduceSub, Nat.reduceLeDiff, Nat.reduceBEq, Int.reduceToNat, Int.reduceLE, Int.reduceLT, Int.reduceEq, Int.reduceNe, di0, di1, di2, di3, di4, di5, di6, di7, di8, di9, postX_ret, postX_normal, ex_some]
  refine calls_of (c_Ints (a := v.ord) (b := w.ord) (by omega)) ?_; simp only [ruI, ssI, sbI, spI, swI, scI, stI, srI, saI, snI, res36, ↓reduceIte, reduceCtorEq, Nat.reduceEqDiff, Nat.reduceAdd, Nat.reduceMul, Nat.reduceSub, Nat.reduceLeDiff, Nat.reduceBEq, Int.reduceToNat, Int.reduceLE, Int.reduceLT, Int.reduceEq, Int.reduceNe, di0, di1, di2, di3, di4, di5, di6, di7, di8, di9, postX_ret, postX_normal, ex_some]
  by_cases h1 : v.ord = w.ord
  case neg =>
    simp only [h1, ruI, ssI, sbI, spI, swI, scI, stI, srI, saI, snI, ↓reduceIte, reduceCtorEq, Nat.reduceEqDiff, Nat.reduceAdd, Nat.reduceMul, Nat.reduceSub, Nat.reduceLeDiff, Nat.reduceBEq, Int.reduceToNat, Int.reduceLE, Int.reduceLT, Int.reduceEq, Int.reduceNe, di0, di1, di2, di3, di4, di5, di6, di7, di8, di9, postX_ret, postX_normal, ex_some]
    simp
  simp only [h1, ruI, ssI, sbI, spI, swI, scI, stI, srI, saI, snI, ↓reduceIte, reduceCtorEq, Nat.reduceEqDiff, Nat.reduceAdd, Nat.reduceMul, Nat.reduceSub, Nat.reduceLeDiff, Nat.reduceBEq, Int.reduceToNat, Int.reduceLE, Int.reduceLT, Int.reduceEq, Int.reduceNe, di0, di1, di2, di3, di4, di5, di6, di7, di8, di9, postX_ret, postX_normal, ex_some]
  have e : (v.st.L = w.st.L ∧ v.st.F = w.st.F) ↔ v.st = w.st := by
    constructor
    · intro h; cases hv : v.st; cases hw : w.st; rw [hv, hw] at h; simpa using h
    · intro h; rw [h]; exact ⟨rfl, rfl⟩
  simp only [e]
  by_cases h2 : v.st = w.st
  case neg => simp only [h2, ruI, ssI, sbI, spI, swI, scI, stI, srI, saI, snI, ↓reduceIte, reduceCtorEq, Nat.reduceEqDiff, Nat.reduceAdd, Nat.reduceMul, Nat.reduceSub, Nat.reduceLeDiff, Nat.reduceBEq, Int.reduceToNat, Int.reduceLE, Int.reduceLT, Int.reduceEq, Int.reduceNe, di0, di1, di2, di3, di4, di5, di6, di7, di8, di9, postX_ret, postX_normal, ex_some]; simp
  simp only [h2, ruI, ssI, sbI, spI, swI, scI, stI, srI, saI, snI, ↓reduceIte, reduceCtorEq, Nat.reduceEqDiff, Nat.reduceAdd, Nat.reduceMul, Nat.reduceSub, Nat.reduceLeDiff, Nat.reduceBEq, Int.reduceToNat, Int.reduceLE, Int.reduceLT, Int.reduceEq, Int.reduceNe, di0, di1, di2, di3, di4, di5, di6, di7, di8, di9, postX_ret, postX_normal, ex_some]
  by_cases h4 : v.k = w.k
  case neg => simp only [h4, ruI, ssI, sbI, spI, swI, scI, stI, srI, saI, snI, ↓reduceIte, reduceCtorEq, Nat.reduceEqDiff, Nat.reduceAdd, Nat.reduceMul, Nat.reduceSub, Nat.reduceLeDiff, Nat.reduceBEq, Int.reduceToNat, Int.reduceLE, Int.reduceLT, Int.reduceEq, Int.reduceNe, di0, di1, di2, di3, di4, di5, di6, di7, di8, di9, postX_ret, postX_normal, ex_some]; simp
  simp only [h4, ruI, ssI, sbI, spI, swI, scI, stI, srI, saI, snI, ↓reduceIte, reduceCtorEq, Nat.reduceEqDiff, Nat.reduceAdd, Nat.reduceMul, Nat.reduceSub, Nat.reduceLeDiff, Nat.reduceBEq, Int.reduceToNat, Int.reduceLE, Int.reduceLT, Int.reduceEq, Int.reduceNe, di0, di1, di2, di3, di4, di5, di6, di7, di8, di9, postX_ret, postX_normal, ex_some]

/-- The error of starts. -/
def startsE (ss : List Sta) : Int := fstE (if 0 < ss.length then 0 else 10) (fstE (if ss.length ≤ 40 then 0 else 8) (if (ss.any fun s => !decide (stateErr s = 0)) = true then 2 else 0))
theorem stateErr_two {s : Sta} (h : ¬ stateErr s = 0) : stateErr s = 2 := by
  unfold stateErr at h ⊢
  split
  · rename_i k; rw [if_pos k] at h; exact (h rfl).elim
  · rfl

theorem r_StartsErr {ss : List Sta} (hn : ss.length ≤ 1000000000) : Contract Try.prog 38 [.slc 2 (ss.map ssI)] (.int .i64 (startsE ss)) := by
  refine contract_run Try.func38 k38 rfl ?_
  simp only [body38, b38, res38, b38k0, b38k1, b38k2, b38k3, b38k4, ruI, ssI, sbI, spI, swI, scI, stI, srI, saI, snI, ↓reduceIte, reduceCtorEq, Nat.reduceEqDiff, Nat.reduceAdd, Nat.reduceMul, Nat.reduceSub, Nat.reduceLeDiff, Nat.reduceBEq, Int.reduceToNat, Int.reduceLE, Int.reduceLT, Int.reduceEq, Int.reduceNe, di0, di1, di2, di3, di4, di5, di6, di7, di8, di9, postX_ret, postX_normal, ex_some]
  unfold startsE fstE
  by_cases h1 : ss.length = 0
  · rw [if_pos (by omega), if_neg (show ¬ 0 < ss.length by omega)]
    rfl
  rw [if_neg (by omega), if_pos (show 0 < ss.length by omega), if_pos rfl]
  by_cases h2 : ss.length ≤ 40
  case neg =>
    rw [if_pos (by omega), if_neg h2]
    rfl
  rw [if_neg (by omega), if_pos h2, if_pos rfl]
  refine loop_keep (α := Nat) rfl (fun i => ss.length - i) (fun i => i ≤ ss.length ∧ (ss.any fun s => !decide (stateErr s = 0)) = ((ss.drop i).any fun s => !decide (stateErr s = 0)))
    (fun i => [(0, .imm (.slc 2 (ss.map ssI))), (3, .imm (.int .i64 i))]) (fun _ => []) 0 ⟨Nat.zero_le _, rfl⟩ (by simp only [ruI, ssI, sbI, spI, swI, scI, stI, srI, saI, snI, ↓reduceIte, reduceCtorEq, Nat.reduceEqDiff, Nat.reduceAdd, Nat.reduceMul, Nat.reduceSub, Nat.reduceLeDiff, Nat.reduceBEq, Int.reduceToNat, Int.reduceLE, Int.reduceLT, Int.reduceEq, Int.reduceNe, di0, di1, di2, di3, di4, di5, di6, di7, di8, di9, postX_ret, postX_normal, ex_some] <;> rfl) ?_
  intro i ⟨hi, he⟩ ih
  simp only [res38, b38k0, b38k1, b38k2, b38k3, b38k4, ruI, ssI, sbI, spI, swI, scI, stI, srI, saI, snI, ↓reduceIte, reduceCtorEq, Nat.reduceEqDiff, Nat.reduceAdd, Nat.reduceMul, Nat.reduceSub, Nat.reduceLeDiff, Nat.reduceBEq, Int.reduceToNat, Int.reduceLE, Int.reduceLT, Int.reduceEq, Int.reduceNe, di0, di1, di2, di3, di4, di5, di6, di7, di8, di9, postX_ret, postX_normal, ex_some]
  split
  case isFalse h =>
    rw [List.drop_of_length_le (by omega), List.any_nil] at he
    rw [he]
    rfl
  rename_i h
  have hlt : i < ss.length := by omega
  have hd : ss.drop i = ss.getD i default :: ss.drop (i + 1) := by
    rw [List.drop_eq_getElem_cons hlt, List.getD_eq_getElem?_getD]
    simp [hlt]
  rw [hd, List.any_cons] at he
  repeat (refine And.intro (by omega) ?_)
  generalize ss.getD i default = s at he
  refine calls_of (r_StateErr (s := s)) ?_
  simp only [res38, b38k0, b38k1, b38k2, b38k3, b38k4, ruI, ssI, sbI, spI, swI, scI, stI, srI, saI, snI, ↓reduceIte, reduceCtorEq, Nat.reduceEqDiff, Nat.reduceAdd, Nat.reduceMul, Nat.reduceSub, Nat.reduceLeDiff, Nat.reduceBEq, Int.reduceToNat, Int.reduceLE, Int.reduceLT, Int.reduceEq, Int.reduceNe, di0, di1, di2, di3, di4, di5, di6, di7, di8, di9, postX_ret, postX_normal, ex_some]
  by_cases h3 : stateErr s = 0
  · simp only [h3, ruI, ssI, sbI, spI, swI, scI, stI, srI, saI, snI, ↓reduceIte, reduceCtorEq, Nat.reduceEqDiff, Nat.reduceAdd, Nat.reduceMul, Nat.reduceSub, Nat.reduceLeDiff, Nat.reduceBEq, Int.reduceToNat, Int.reduceLE, Int.reduceLT, Int.reduceEq, Int.reduceNe, di0, di1, di2, di3, di4, di5, di6, di7, di8, di9, postX_ret, postX_normal, ex_some]
    rw [wrap64 (by omega) (by omega)]
    exact ih (i + 1) _ _ (by omega) ⟨by omega, by rw [he]; simp [h3]⟩ (by simp only [ruI, ssI, sbI, spI, swI, scI, stI, srI, saI, snI, ↓reduceIte, reduceCtorEq, Nat.reduceEqDiff, Nat.reduceAdd, Nat.reduceMul, Nat.reduceSub, Nat.reduceLeDiff, Nat.reduceBEq, Int.reduceToNat, Int.reduceLE, Int.reduceLT, Int.reduceEq, Int.reduceNe, di0, di1, di2, di3, di4, di5, di6, di7, di8, di9, postX_ret, postX_normal, ex_some] <;> rfl)
  · simp only [h3, ruI, ssI, sbI, spI, swI, scI, stI, srI, saI, snI, ↓reduceIte, reduceCtorEq, Nat.reduceEqDiff, Nat.reduceAdd, Nat.reduceMul, Nat.reduceSub, Nat.reduceLeDiff, Nat.reduceBEq, Int.reduceToNat, Int.reduceLE, Int.reduceLT, Int.reduceEq, Int.reduceNe, di0, di1, di2, di3, di4, di5, di6, di7, di8, di9, postX_ret, postX_normal, ex_some]
    rw [he]
    simp [h3, stateErr_two h3]

def wZ : Wt := ⟨[], ⟨0, 0⟩, 0, 0⟩
def wCells (w : Wt) : List DV := [.imm (snI w.ord), .imm (.int .i64 w.st.L), .imm (.int .i64 w.st.F), .imm (.int .i64 w.k), .imm (.int .i64 w.lev)]
end Go.DI

/- The statement SurgeWitnesses, as a contract. No condition. -/
set_option linter.unusedSimpArgs false
set_option maxRecDepth 20000
namespace Go.DI
open Go.Proofs Go.RowKit Sg

def clI (ss : List Sta) (w : Wt) (bs : List Bx) : IV := .agg [.slc 2 (ss.map ssI), snI w.ord, .int .i64 w.st.L, .int .i64 w.st.F, .int .i64 w.k, .int .i64 w.lev, .slc 4 (bs.map sbI)]
def fewC (ss : List Sta) (w : Wt) (bs : List Bx) : Prop := (ss.length ≤ 6 ∨ (40 < ss.length ∧ ss.length ≤ 42)) ∧ w.ord.length ≤ 10 ∧ (bs.length ≤ 6 ∨ (64 < bs.length ∧ bs.length ≤ 66))
instance (ss : List Sta) (w : Wt) (bs : List Bx) : Decidable (fewC ss w bs) := inferInstanceAs (Decidable (_ ∧ _))
theorem l_few {ss : List Sta} {w : Wt} {bs : List Bx} : Contract Try.prog 29 [clI ss w bs] (.bool (decide (fewC ss w bs))) := by
  refine contract_run Try.func29 k29 rfl ?_
  simp only [body29, b29, res29, clI, ruI, ssI, sbI, spI, swI, scI, stI, srI, saI, snI, ↓reduceIte, reduceCtorEq, Nat.reduceEqDiff, Nat.reduceAdd, Nat.reduceMul, Nat.reduceSub, Nat.reduceLeDiff, Nat.reduceBEq, Int.reduceToNat, Int.reduceLE, Int.reduceLT, Int.reduceEq, Int.reduceNe, di0, di1, di2, di3, di4, di5, di6, di7, di8, di9, postX_ret, postX_normal, ex_some]
  by_cases a1 : (ss.length : Int) ≤ 6 <;> by_cases a2 : (40 : Int) < (ss.length : Int) <;> by_cases a3 : (ss.length : Int) ≤ 42 <;> by_cases a4 : (w.ord.length : Int) ≤ 10 <;> by_cases a5 : (bs.length : Int) ≤ 6 <;> by_cases a6 : (64 : Int) < (bs.length : Int) <;> by_cases a7 : (bs.length : Int) ≤ 66 <;>
    simp only [a1, a2, a3, a4, a5, a6, a7, ruI, ssI, sbI, spI, swI, scI, stI, srI, saI, snI, ↓reduceIte, reduceCtorEq, Nat.reduceEqDiff, Nat.reduceAdd, Nat.reduceMul, Nat.reduceSub, Nat.reduceLeDiff, Nat.reduceBEq, Int.reduceToNat, Int.reduceLE, Int.reduceLT, Int.reduceEq, Int.reduceNe, di0, di1, di2, di3, di4, di5, di6, di7, di8, di9, postX_ret, postX_normal, ex_some] <;> first | (exfalso; omega) | rw [decide_eq_true (show fewC ss w bs by unfold fewC; omega)] | rw [decide_eq_false (show ¬ fewC ss w bs by unfold fewC; omega)]

/-- The best one of those seen. -/
def Best (r : Ru) (p : Pl) (L : List (List Int × Sta × Int)) : Option Wt → Prop
  | none => L = []
  | some v => (v.ord, v.st, v.k) ∈ L ∧ v.lev = highL r v.st (loadsP p v.ord) v.k ∧ ∀ t ∈ L, highL r t.2.1 (loadsP p t.1) t.2.2 ≤ v.lev
theorem best_stp {r : Ru} {p : Pl} {L : List (List Int × Sta × Int)} {y : Option Wt} {o : List Int} {s : Sta} {k : Int} (h : Best r p L y) : Best r p (L ++ [(o, s, k)]) (wStp r p o s y k) := by
  cases y with
  | none =>
    have h : L = [] := h
    subst h
    exact ⟨by simp, rfl, fun t ht => by simp at ht; subst ht; exact Int.le_refl _⟩
  | some v =>
    obtain ⟨h1, h2, h3⟩ := h
    unfold wStp
    dsimp only
    split
    · rename_i h4
      refine ⟨by simp, rfl, fun t ht => ?_⟩
      rcases List.mem_append.1 ht with ht | ht
      · have := h3 t ht; dsimp only; omega
      · simp at ht; subst ht; exact Int.le_refl _
    · rename_i h4
      refine ⟨by simp [h1], h2, fun t ht => ?_⟩
      rcases List.mem_append.1 ht with ht | ht
      · exact h3 t ht
      · simp at ht; subst ht; dsimp only; omega
theorem best_fold {α : Type} {r : Ru} {p : Pl} {f : Option Wt → α → Option Wt} {g : α → List (List Int × Sta × Int)} (hf : ∀ L y x, Best r p L y → Best r p (L ++ g x) (f y x)) : ∀ (xs : List α) (L : List (List Int × Sta × Int)) (y : Option Wt), Best r p L y → Best r p (L ++ xs.flatMap g) (xs.foldl f y)
  | [], L, y, h => by simpa using h
  | x :: xs, L, y, h => by
    have := best_fold hf xs (L ++ g x) (f y x) (hf L y x h)
    simpa using this
def triples (r : Ru) (p : Pl) (ss : List Sta) : List (List Int × Sta × Int) := (ordersP p).flatMap fun o => ss.flatMap fun s => [r.lo, r.hi].flatMap fun k => [(o, s, k)]
theorem worstP_Best {r : Ru} {p : Pl} {ss : List Sta} : Best r p (triples r p ss) (worstP r p ss) :=
  best_fold (g := fun o => ss.flatMap fun s => [r.lo, r.hi].flatMap fun k => [(o, s, k)]) (fun L y o h =>
    best_fold (g := fun s => [r.lo, r.hi].flatMap fun k => [(o, s, k)]) (fun L y s h => best_fold (g := fun k => [(o, s, k)]) (fun _ _ _ h => best_stp h) [r.lo, r.hi] L y h) ss L y h) (ordersP p) [] none rfl
theorem worstP_best {r : Ru} {p : Pl} {ss : List Sta} {v : Wt} (h : worstP r p ss = some v) : (∃ o ∈ ordersP p, ∃ s ∈ ss, ∃ k, (k = r.lo ∨ k = r.hi) ∧ v.ord = o ∧ v.st = s ∧ v.k = k ∧ v.lev = highL r s (loadsP p o) k) ∧
    ∀ o ∈ ordersP p, ∀ s ∈ ss, ∀ k, (k = r.lo ∨ k = r.hi) → highL r s (loadsP p o) k ≤ v.lev := by
  have hb := worstP_Best (r := r) (p := p) (ss := ss)
  rw [h] at hb
  obtain ⟨h1, h2, h3⟩ := hb
  constructor
  · simp only [triples, List.mem_flatMap, List.mem_cons, List.not_mem_nil, or_false, Prod.mk.injEq] at h1
    obtain ⟨o, ho, s, hs, k, hk, e1, e2, e3⟩ := h1
    subst e1; subst e2; subst e3
    exact ⟨_, ho, _, hs, _, hk, rfl, rfl, rfl, h2⟩
  · intro o ho s hs k hk
    refine h3 (o, s, k) ?_
    simp only [triples, List.mem_flatMap, List.mem_cons, List.not_mem_nil, or_false, Prod.mk.injEq]
    exact ⟨o, ho, s, hs, k, hk, rfl, rfl, rfl⟩
theorem worstP_none {r : Ru} {p : Pl} {ss : List Sta} (h0 : 0 < ss.length) : worstP r p ss = none ↔ ordersP p = [] := by
  have hb := worstP_Best (r := r) (p := p) (ss := ss)
  constructor
  · intro h
    rw [h] at hb
    have hb : triples r p ss = [] := hb
    cases ho : ordersP p with
    | nil => rfl
    | cons o l =>
      cases ss with
      | nil => simp at h0
      | cons s ss =>
        exfalso
        have : (o, s, r.lo) ∈ triples r p (s :: ss) := by
          simp only [triples, List.mem_flatMap, List.mem_cons, List.not_mem_nil, or_false, Prod.mk.injEq, ho]
          exact ⟨o, .inl rfl, s, .inl rfl, r.lo, .inl rfl, rfl, rfl, rfl⟩
        rw [hb] at this
        cases this
  · intro h
    unfold worstP
    rw [h]
    rfl

theorem worstR_starts {r : Ru} {p : Pl} {ss : List Sta} (h : (planEr r p).2 = 0) : worstR r p ss = if startsE ss = 0 then (match worstP r p ss with | none => (wZ, 12) | some w => (w, 0)) else (wZ, startsE ss) := by
  unfold worstR worstE startsE
  rw [show fstE (planEr r p).2 (fstE (if 0 < ss.length then 0 else 10) (if ss.length ≤ 40 then 0 else 8)) = fstE (if 0 < ss.length then 0 else 10) (if ss.length ≤ 40 then 0 else 8) from if_pos h]
  unfold fstE
  by_cases h1 : 0 < ss.length
  case neg =>
    rw [if_neg h1, if_neg (show ¬ (10 : Int) = 0 by decide), if_neg (show ¬ (10 : Int) = 0 by decide), if_pos (show (10 : Int) ≠ 0 by decide), if_neg (show ¬ (10 : Int) = 0 by decide)]
    rfl
  rw [if_pos h1, if_pos rfl, if_pos rfl]
  by_cases h2 : ss.length ≤ 40
  case neg =>
    rw [if_neg h2, if_neg (show ¬ (8 : Int) = 0 by decide), if_pos (show (8 : Int) ≠ 0 by decide), if_neg (show ¬ (8 : Int) = 0 by decide)]
    rfl
  rw [if_pos h2, if_pos rfl, if_neg (show ¬ (0 : Int) ≠ 0 by decide)]
  cases hB : (ss.any fun s => !decide (stateErr s = 0)) <;> rfl
theorem startsE_ok {ss : List Sta} (h : startsE ss = 0) : (0 < ss.length ∧ ss.length ≤ 40) ∧ ∀ s ∈ ss, stateErr s = 0 := by
  unfold startsE at h
  rw [fstE_zero, fstE_zero] at h
  obtain ⟨h1, h2, h3⟩ := h
  have h3' : (ss.any fun s => !decide (stateErr s = 0)) = false := by
    cases hB : (ss.any fun s => !decide (stateErr s = 0))
    · rfl
    · rw [hB, if_pos rfl] at h3; cases h3
  refine ⟨⟨?_, ?_⟩, fun s hs => ?_⟩
  · by_cases k : 0 < ss.length
    · exact k
    · rw [if_neg k] at h1; cases h1
  · by_cases k : ss.length ≤ 40
    · exact k
    · rw [if_neg k] at h2; cases h2
  · have := List.any_eq_false.1 h3' s hs
    simpa using this

end Go.DI

