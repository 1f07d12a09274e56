/- Contracts of the reference: plans, orders, loads. No condition. -/
import Derived.Test.YtdpfjbghiahbeaaKgGl
/- The reference's functions of plans, as data. No condition. -/
namespace Go.DI
open Go.Proofs Go.RowKit
/-- guidevane/guidevaneref04.CheckPlan -/
def b44k0 : DCode :=
 (.seq
  (.region [⟨(some 31), (.faddr 1 false 1), [.t 1], none, []⟩,
    ⟨(some 32), (.load false 1), [.t 31], none, [0]⟩,
    ⟨(some 33), .mov, [.t 5], none, []⟩,
    ⟨(some 34), (.iaddr 1), [.t 32, .t 33], none, [1, 2]⟩,
    ⟨(some 35), (.load false 1), [.t 34], none, [3]⟩,
    ⟨(some 36), (.bin .eql), [.t 35, .c (.int .i64 0)], none, [4]⟩] false)
  (.cond (.t 36)
   (.seq
    (.region [⟨(some 37), .mov, [.t 5], none, []⟩,
      ⟨(some 2), .mov, [.t 37], none, [0, 0]⟩,
      ⟨(some 3), .mov, [.c (.int .i64 11)], none, [1, 0, 1]⟩] false)
    .ret)
   .skip))
def b44k1 : DCode :=
 (.region [⟨(some 21), .mov, [.t 5], none, []⟩,
   ⟨(some 22), (.bin .add), [.t 21, .c (.int .i64 1)], none, [0]⟩,
   ⟨(some 5), .mov, [.t 22], none, [1, 0, 1]⟩] false)
def b44k2 : DCode :=
 (.seq
  (.block 1
   (.seq
    (.seq
     (.region [⟨(some 23), (.faddr 1 false 1), [.t 1], none, []⟩,
       ⟨(some 24), (.load false 1), [.t 23], none, [0]⟩,
       ⟨(some 25), .mov, [.t 5], none, []⟩,
       ⟨(some 26), (.iaddr 1), [.t 24, .t 25], none, [1, 2]⟩,
       ⟨(some 27), (.load false 1), [.t 26], none, [3]⟩,
       ⟨(some 28), .call, [.f 27, .t 27, .c (.int .i64 (-1000)), .c (.int .i64 1000)], none, [4]⟩,
       ⟨(some 29), (.un .not), [.t 28], none, [5]⟩] false)
     (.cond (.t 29)
      (.seq
       (.region [⟨(some 30), .mov, [.t 5], none, []⟩,
         ⟨(some 2), .mov, [.t 30], none, [0, 0]⟩,
         ⟨(some 3), .mov, [.c (.int .i64 2)], none, [1, 0, 1]⟩] false)
       .ret)
      .skip))
    (.keep [1, 5] [1] b44k0)))
  (.keep [1, 5] [1] b44k1))
def b44l0 : DCode := .keep [1, 5] [1]
  (.seq
   (.seq
    (.region [⟨(some 16), .mov, [.t 5], none, []⟩,
      ⟨(some 17), (.faddr 1 false 1), [.t 1], none, []⟩,
      ⟨(some 18), (.load false 1), [.t 17], none, [1]⟩,
      ⟨(some 19), .len, [.t 18], none, [2]⟩,
      ⟨(some 20), (.bin .lss), [.t 16, .t 19], none, [0, 3]⟩] false)
    (.cond (.t 20)
     .skip
     (.exit 0)))
   (.keep [1, 5] [1] b44k2))
def b44k3 : DCode :=
 (.seq
  (.region [⟨(some 2), .mov, [.c (.int .i64 0)], none, []⟩,
    ⟨(some 3), .mov, [.c (.int .i64 0)], none, [0, 0]⟩] false)
  .ret)
def b44k4 : DCode :=
 (.seq
  (.seq
   (.region [⟨(some 38), (.faddr 2 false 1), [.t 1], none, []⟩,
     ⟨(some 39), (.load false 1), [.t 38], none, [0]⟩,
     ⟨(some 40), .call, [.f 27, .t 39, .c (.int .i64 1), .c (.int .i64 20)], none, [1]⟩,
     ⟨(some 41), (.un .not), [.t 40], none, [2]⟩,
     ⟨(some 42), .mov, [.t 41], none, [3, 2]⟩,
     ⟨(some 43), (.faddr 3 false 1), [.t 1], (some (42, false)), [4]⟩,
     ⟨(some 44), (.load false 1), [.t 43], (some (42, false)), [5, 4]⟩,
     ⟨(some 45), .call, [.f 27, .t 44, .c (.int .i64 1), .c (.int .i64 200)], (some (42, false)), [6, 4, 4]⟩,
     ⟨(some 46), (.un .not), [.t 45], (some (42, false)), [7, 4]⟩,
     ⟨(some 47), .pick, [.t 42, .c (.bool true), .t 46], none, [4, 8]⟩] false)
   (.cond (.t 47)
    (.seq
     (.region [⟨(some 2), .mov, [.c (.int .i64 0)], none, []⟩,
       ⟨(some 3), .mov, [.c (.int .i64 2)], none, [0, 0]⟩] false)
     .ret)
    .skip))
  (.keep [] [] b44k3))
def b44k5 : DCode :=
 (.seq
  (.seq
   (.region [⟨(some 5), .mov, [.c (.int .i64 0)], none, []⟩] false)
   (.block 0
    (.loop b44l0)))
  (.keep [1] [1] b44k4))
def b44k6 : DCode :=
 (.seq
  (.seq
   (.region [⟨(some 12), (.faddr 1 false 1), [.t 1], none, []⟩,
     ⟨(some 13), (.load false 1), [.t 12], none, [0]⟩,
     ⟨(some 14), .len, [.t 13], none, [1]⟩,
     ⟨(some 15), (.bin .gtr), [.t 14, .c (.int .i64 4)], none, [2]⟩] false)
   (.cond (.t 15)
    (.seq
     (.region [⟨(some 2), .mov, [.c (.int .i64 0)], none, []⟩,
       ⟨(some 3), .mov, [.c (.int .i64 8)], none, [0, 0]⟩] false)
     .ret)
    .skip))
  (.keep [1] [1] b44k5))
def b44 : DCode :=
 (.seq
  (.region [⟨(some 1), .box, [.t 0], none, []⟩,
    ⟨(some 2), .mov, [.c (.int .i64 0)], none, []⟩,
    ⟨(some 3), .mov, [.c (.int .i64 0)], none, [1]⟩] false)
  (.seq
   (.seq
    (.region [⟨(some 6), (.faddr 0 false 1), [.t 1], none, []⟩,
      ⟨(some 7), (.load false 1), [.t 6], none, [0]⟩,
      ⟨(some 8), .call, [.f 21, .t 7], none, [1]⟩,
      ⟨(some 4), .mov, [.t 8], none, [2, 2, 0, 1, 2]⟩] false)
    (.seq
     (.region [⟨(some 9), .mov, [.t 4], none, []⟩,
       ⟨(some 10), (.bin .neq), [.t 9, .c (.int .i64 0)], none, [0]⟩] false)
     (.cond (.t 10)
      (.seq
       (.region [⟨(some 11), .mov, [.t 4], none, []⟩,
         ⟨(some 2), .mov, [.c (.int .i64 0)], none, []⟩,
         ⟨(some 3), .mov, [.t 11], none, [0, 1, 0, 1]⟩] false)
       .ret)
      .skip)))
   (.keep [1] [1] b44k6)))
def d44 : DFn := ⟨1, 48, [.tmp 2, .tmp 3], b44⟩
theorem body44 : d44.body = b44 := rfl
theorem res44 : d44.res = [.tmp 2, .tmp 3] := rfl
theorem k44 : chkFn Try.prog Try.f44 d44 = true := by kernel_rfl

/-- guidevane/guidevaneref04.PlanErr -/
def b35k0 : DCode :=
 (.seq
  (.region [⟨(some 14), (.load true 4), [.t 3], none, []⟩,
    ⟨(some 15), .call, [.f 44, .t 14], none, [0]⟩,
    ⟨(some 13), .mov, [.t 15], none, [1]⟩,
    ⟨(some 16), (.ext 0), [.t 13], none, [2]⟩,
    ⟨(some 17), (.ext 1), [.t 13], none, [2]⟩,
    ⟨(some 6), .mov, [.t 16], none, [3, 1, 0, 1, 2, 3]⟩,
    ⟨(some 7), .mov, [.t 17], none, [4, 5, 0, 1, 2, 3, 4, 5]⟩] false)
  (.seq
   (.region [⟨(some 18), .mov, [.t 7], none, []⟩,
     ⟨(some 4), .mov, [.t 18], none, [0, 0]⟩] false)
   .ret))
def b35 : DCode :=
 (.seq
  (.region [⟨(some 2), .box, [.t 0], none, []⟩,
    ⟨(some 3), .box, [.t 1], none, []⟩,
    ⟨(some 4), .mov, [.c (.int .i64 0)], none, []⟩] false)
  (.seq
   (.seq
    (.region [⟨(some 8), (.load true 5), [.t 2], none, []⟩,
      ⟨(some 9), .call, [.f 17, .t 8], none, [0]⟩,
      ⟨(some 5), .mov, [.t 9], none, [1, 1, 0, 1]⟩] false)
    (.seq
     (.region [⟨(some 10), .mov, [.t 5], none, []⟩,
       ⟨(some 11), (.bin .neq), [.t 10, .c (.int .i64 0)], none, [0]⟩] false)
     (.cond (.t 11)
      (.seq
       (.region [⟨(some 12), .mov, [.t 5], none, []⟩,
         ⟨(some 4), .mov, [.t 12], none, [0, 0]⟩] false)
       .ret)
      .skip)))
   (.keep [3] [3] b35k0)))
def d35 : DFn := ⟨2, 19, [.tmp 4], b35⟩
theorem body35 : d35.body = b35 := rfl
theorem res35 : d35.res = [.tmp 4] := rfl
theorem k35 : chkFn Try.prog Try.f35 d35 = true := by kernel_rfl

/-- guidevane/guidevaneref04.CopyPlan -/
def b31 : DCode :=
 (.seq
  (.region [⟨(some 1), .box, [.t 0], none, []⟩,
    ⟨(some 2), (.alloc [(.imm (.int .i64 0)), (.imm (.slc 1 [])), (.imm (.int .i64 0)), (.imm (.int .i64 0))]), [], none, []⟩] false)
  (.seq
   (.region [⟨(some 3), (.faddr 1 false 1), [.t 1], none, []⟩,
     ⟨(some 4), (.load false 1), [.t 3], none, [0]⟩,
     ⟨(some 5), .call, [.f 43, .t 4], none, [1]⟩,
     ⟨(some 6), (.faddr 1 false 1), [.t 1], none, [0, 1, 2]⟩,
     ⟨none, (.store 1), [.t 6, .t 5], none, [3, 2, 2, 0, 1, 2]⟩] false)
   (.seq
    (.region [⟨(some 7), (.load true 4), [.t 1], none, []⟩,
      ⟨none, (.store 4), [.t 2, .t 7], none, [0, 0]⟩] false)
    .ret)))
def d31 : DFn := ⟨1, 8, [.cell 2 true 4], b31⟩
theorem body31 : d31.body = b31 := rfl
theorem res31 : d31.res = [.cell 2 true 4] := rfl
theorem k31 : chkFn Try.prog Try.f31 d31 = true := by kernel_rfl

/-- guidevane/guidevanelaw04.Few -/
def b28k0 : DCode :=
 (.seq
  (.region [⟨(some 10), (.load true 4), [.t 1], none, []⟩,
    ⟨(some 11), .call, [.f 44, .t 10], none, [0]⟩,
    ⟨(some 9), .mov, [.t 11], none, [1]⟩,
    ⟨(some 12), (.ext 0), [.t 9], none, [2]⟩,
    ⟨(some 13), (.ext 1), [.t 9], none, [2]⟩,
    ⟨(some 3), .mov, [.t 12], none, [3, 1, 0, 1, 2, 3]⟩,
    ⟨(some 4), .mov, [.t 13], none, [4, 5, 0, 1, 2, 3, 4, 5]⟩] false)
  (.seq
   (.region [⟨(some 14), .mov, [.t 4], none, []⟩,
     ⟨(some 15), (.bin .neq), [.t 14, .c (.int .i64 0)], none, [0]⟩,
     ⟨(some 16), .mov, [.t 15], none, [1]⟩,
     ⟨(some 17), (.faddr 1 false 1), [.t 1], (some (16, false)), [2]⟩,
     ⟨(some 18), (.load false 1), [.t 17], (some (16, false)), [3, 2]⟩,
     ⟨(some 19), .len, [.t 18], (some (16, false)), [4, 2]⟩,
     ⟨(some 20), (.bin .leq), [.t 19, .c (.int .i64 3)], (some (16, false)), [5, 2]⟩,
     ⟨(some 21), .mov, [.t 20], (some (16, false)), [6, 2, 2]⟩,
     ⟨(some 22), (.faddr 3 false 1), [.t 1], (some (21, true)), [7]⟩,
     ⟨(some 23), (.load false 1), [.t 22], (some (21, true)), [8, 7]⟩,
     ⟨(some 24), (.bin .leq), [.t 23, .c (.int .i64 40)], (some (21, true)), [9, 7]⟩,
     ⟨(some 25), .pick, [.t 21, .t 24, .c (.bool false)], (some (16, false)), [7, 10, 2]⟩,
     ⟨(some 26), .pick, [.t 16, .c (.bool true), .t 25], none, [2, 11]⟩,
     ⟨(some 2), .mov, [.t 26], none, [12, 7, 0, 1, 2, 3, 4, 5, 6, 7, 8, 9, 10, 11, 12]⟩] false)
   .ret))
def b28 : DCode :=
 (.seq
  (.region [⟨(some 1), .box, [.t 0], none, []⟩,
    ⟨(some 2), .mov, [.c (.bool false)], none, []⟩] false)
  (.seq
   (.seq
    (.region [⟨(some 5), (.faddr 1 false 1), [.t 1], none, []⟩,
      ⟨(some 6), (.load false 1), [.t 5], none, [0]⟩,
      ⟨(some 7), .len, [.t 6], none, [1]⟩,
      ⟨(some 8), (.bin .gtr), [.t 7, .c (.int .i64 6)], none, [2]⟩] false)
    (.cond (.t 8)
     (.seq
      (.region [⟨(some 2), .mov, [.c (.bool false)], none, []⟩] false)
      .ret)
     .skip))
   (.keep [1] [1] b28k0)))
def d28 : DFn := ⟨1, 27, [.tmp 2], b28⟩
theorem body28 : d28.body = b28 := rfl
theorem res28 : d28.res = [.tmp 2] := rfl
theorem k28 : chkFn Try.prog Try.f28 d28 = true := by kernel_rfl

end Go.DI

/- Contracts: the reference's orders. No condition. -/
set_option linter.unusedSimpArgs false
namespace Go.DI
open Go.Proofs Go.RowKit Sg

end Go.DI

/- Contracts: the reference's plans, orders and loads. No condition. -/
set_option linter.unusedSimpArgs false
namespace Go.DI
open Go.Proofs Go.RowKit Sg

theorem r_CheckPlan0 {p : Pl} : Contract Try.prog 44 [spI p] (.tup [.int .i64 (planE p).1, .int .i64 (planE p).2]) := by
  refine contract_run Try.func44 k44 rfl ?_
  simp only [body44, b44, res44, b44k0, b44k1, b44k2, b44k3, b44k4, b44k5, b44k6, ruI, ssI, sbI, spI, swI, scI, stI, srI, saI, snI, ↓reduceIte, reduceCtorEq, Nat.reduceEqDiff, Nat.reduceAdd, Nat.reduceMul, Nat.reduceSub, Nat.reduceLeDiff, Nat.reduceBEq, Int.reduceToNat, Int.reduceLE, Int.reduceLT, Int.reduceEq, Int.reduceNe, di0, di1, di2, di3, di4, di5, di6, di7, di8, di9, postX_ret, postX_normal, ex_some]
  refine calls_of r_LoadErr ?_; simp only [ruI, ssI, sbI, spI, swI, scI, stI, srI, saI, snI, res44, b44k0, b44k1, b44k2, b44k3, b44k4, b44k5, b44k6, ↓reduceIte, reduceCtorEq, Nat.reduceEqDiff, Nat.reduceAdd, Nat.reduceMul, Nat.reduceSub, Nat.reduceLeDiff, Nat.reduceBEq, Int.reduceToNat, Int.reduceLE, Int.reduceLT, Int.reduceEq, Int.reduceNe, di0, di1, di2, di3, di4, di5, di6, di7, di8, di9, postX_ret, postX_normal, ex_some]
  by_cases h1 : loadErr p.load = 0
  case neg =>
    have hp : planE p = (0, loadErr p.load) := by
      unfold planE fstE
      rw [if_neg h1, if_neg h1]
    rw [hp]
    simp only [h1, ruI, ssI, sbI, spI, swI, scI, stI, srI, saI, snI, ↓reduceIte, reduceCtorEq, Nat.reduceEqDiff, Nat.reduceAdd, Nat.reduceMul, Nat.reduceSub, Nat.reduceLeDiff, Nat.reduceBEq, Int.reduceToNat, Int.reduceLE, Int.reduceLT, Int.reduceEq, Int.reduceNe, di0, di1, di2, di3, di4, di5, di6, di7, di8, di9, postX_ret, postX_normal, ex_some]
  simp only [h1, ruI, ssI, sbI, spI, swI, scI, stI, srI, saI, snI, ↓reduceIte, reduceCtorEq, Nat.reduceEqDiff, Nat.reduceAdd, Nat.reduceMul, Nat.reduceSub, Nat.reduceLeDiff, Nat.reduceBEq, Int.reduceToNat, Int.reduceLE, Int.reduceLT, Int.reduceEq, Int.reduceNe, di0, di1, di2, di3, di4, di5, di6, di7, di8, di9, postX_ret, postX_normal, ex_some]
  by_cases h2 : p.ch.length ≤ 4
  case neg =>
    have hp : planE p = (0, 8) := by
      have : lenE p.ch.length = 8 := if_neg h2
      unfold planE fstE
      rw [if_pos h1, this, if_neg (by decide)]
    rw [hp, if_pos (by omega)]
  rw [if_neg (by omega)]
  have h0 : fstE (loadErr p.load) (lenE p.ch.length) = 0 := by rw [fstE_zero, lenE_zero]; exact ⟨h1, h2⟩
  refine loop_keep (α := Nat) rfl (fun i => p.ch.length - i) (fun i => i ≤ p.ch.length ∧ scanC p.ch 0 = scanC (p.ch.drop i) i)
    (fun i => [(1, .ref 1 0), (5, .imm (.int .i64 i))]) (fun _ => [(1, .box [.imm (.int .i64 p.load), .imm (snI p.ch), .imm (.int .i64 p.wait), .imm (.int .i64 p.ticks)])]) 0 ⟨Nat.zero_le _, rfl⟩ (by simp only [ruI, ssI, sbI, spI, swI, scI, stI, srI, saI, snI, ↓reduceIte, reduceCtorEq, Nat.reduceEqDiff, Nat.reduceAdd, Nat.reduceMul, Nat.reduceSub, Nat.reduceLeDiff, Nat.reduceBEq, Int.reduceToNat, Int.reduceLE, Int.reduceLT, Int.reduceEq, Int.reduceNe, di0, di1, di2, di3, di4, di5, di6, di7, di8, di9, postX_ret, postX_normal, ex_some] <;> rfl) ?_
  intro i ⟨hi, he⟩ ih
  simp only [res44, b44k0, b44k1, b44k2, b44k3, b44k4, b44k5, b44k6, ruI, ssI, sbI, spI, swI, scI, stI, srI, saI, snI, ↓reduceIte, reduceCtorEq, Nat.reduceEqDiff, Nat.reduceAdd, Nat.reduceMul, Nat.reduceSub, Nat.reduceLeDiff, Nat.reduceBEq, Int.reduceToNat, Int.reduceLE, Int.reduceLT, Int.reduceEq, Int.reduceNe, di0, di1, di2, di3, di4, di5, di6, di7, di8, di9, postX_ret, postX_normal, ex_some]
  split
  · rename_i h
    have hlt : i < p.ch.length := by omega
    rw [getD_drop hlt] at he
    obtain ⟨x, hxe⟩ : ∃ x, p.ch.getD i 0 = x := ⟨_, rfl⟩
    simp only [hxe] at he ⊢
    rw [scanC_cons] at he
    repeat (refine And.intro (by omega) ?_)
    refine calls_of c_Wi ?_; simp only [ruI, ssI, sbI, spI, swI, scI, stI, srI, saI, snI, res44, b44k0, b44k1, b44k2, b44k3, b44k4, b44k5, b44k6, ↓reduceIte, reduceCtorEq, Nat.reduceEqDiff, Nat.reduceAdd, Nat.reduceMul, Nat.reduceSub, Nat.reduceLeDiff, Nat.reduceBEq, Int.reduceToNat, Int.reduceLE, Int.reduceLT, Int.reduceEq, Int.reduceNe, di0, di1, di2, di3, di4, di5, di6, di7, di8, di9, postX_ret, postX_normal, ex_some]
    by_cases h3 : Wi x (-1000) 1000
    case neg =>
      have hc : changeErr x = 2 := by unfold changeErr fstE; rw [if_neg h3]; rfl
      rw [hc, if_neg (by decide)] at he
      have hp : planE p = ((i : Int), 2) := by unfold planE; rw [if_pos h0, he]
      rw [hp]
      simp only [h3, ruI, ssI, sbI, spI, swI, scI, stI, srI, saI, snI, ↓reduceIte, reduceCtorEq, Nat.reduceEqDiff, Nat.reduceAdd, Nat.reduceMul, Nat.reduceSub, Nat.reduceLeDiff, Nat.reduceBEq, Int.reduceToNat, Int.reduceLE, Int.reduceLT, Int.reduceEq, Int.reduceNe, di0, di1, di2, di3, di4, di5, di6, di7, di8, di9, postX_ret, postX_normal, ex_some]
    simp only [h3, ruI, ssI, sbI, spI, swI, scI, stI, srI, saI, snI, ↓reduceIte, reduceCtorEq, Nat.reduceEqDiff, Nat.reduceAdd, Nat.reduceMul, Nat.reduceSub, Nat.reduceLeDiff, Nat.reduceBEq, Int.reduceToNat, Int.reduceLE, Int.reduceLT, Int.reduceEq, Int.reduceNe, di0, di1, di2, di3, di4, di5, di6, di7, di8, di9, postX_ret, postX_normal, ex_some]
    repeat (refine And.intro (by omega) ?_)
    simp only [hxe]
    by_cases h4 : x = 0
    · have hc : changeErr x = 11 := by unfold changeErr fstE; rw [if_pos h3, if_pos rfl, if_neg (by simp [h4])]
      rw [hc, if_neg (by decide)] at he
      have hp : planE p = ((i : Int), 11) := by unfold planE; rw [if_pos h0, he]
      rw [hp]
      simp only [h4, ruI, ssI, sbI, spI, swI, scI, stI, srI, saI, snI, ↓reduceIte, reduceCtorEq, Nat.reduceEqDiff, Nat.reduceAdd, Nat.reduceMul, Nat.reduceSub, Nat.reduceLeDiff, Nat.reduceBEq, Int.reduceToNat, Int.reduceLE, Int.reduceLT, Int.reduceEq, Int.reduceNe, di0, di1, di2, di3, di4, di5, di6, di7, di8, di9, postX_ret, postX_normal, ex_some]
    · have hc : changeErr x = 0 := by unfold changeErr fstE; rw [if_pos h3, if_pos rfl, if_pos (by simp [h4])]
      rw [hc, if_pos rfl] at he
      simp only [h4, ruI, ssI, sbI, spI, swI, scI, stI, srI, saI, snI, ↓reduceIte, reduceCtorEq, Nat.reduceEqDiff, Nat.reduceAdd, Nat.reduceMul, Nat.reduceSub, Nat.reduceLeDiff, Nat.reduceBEq, Int.reduceToNat, Int.reduceLE, Int.reduceLT, Int.reduceEq, Int.reduceNe, di0, di1, di2, di3, di4, di5, di6, di7, di8, di9, postX_ret, postX_normal, ex_some]
      rw [wrap64 (by omega) (by omega)]
      refine ih (i + 1) _ _ (by omega) ⟨by omega, he⟩ (by simp only [ruI, ssI, sbI, spI, swI, scI, stI, srI, saI, snI, ↓reduceIte, reduceCtorEq, Nat.reduceEqDiff, Nat.reduceAdd, Nat.reduceMul, Nat.reduceSub, Nat.reduceLeDiff, Nat.reduceBEq, Int.reduceToNat, Int.reduceLE, Int.reduceLT, Int.reduceEq, Int.reduceNe, di0, di1, di2, di3, di4, di5, di6, di7, di8, di9, postX_ret, postX_normal, ex_some] <;> rfl)
  · rename_i h
    have : i = p.ch.length := by omega
    subst this
    simp only [List.drop_length, scanC] at he
    have hp : planE p = (0, if Wi p.wait 1 20 ∧ Wi p.ticks 1 200 then 0 else 2) := by unfold planE; rw [if_pos h0, he]
    rw [hp]
    refine calls_of c_Wi ?_; simp only [ruI, ssI, sbI, spI, swI, scI, stI, srI, saI, snI, res44, b44k0, b44k1, b44k2, b44k3, b44k4, b44k5, b44k6, ↓reduceIte, reduceCtorEq, Nat.reduceEqDiff, Nat.reduceAdd, Nat.reduceMul, Nat.reduceSub, Nat.reduceLeDiff, Nat.reduceBEq, Int.reduceToNat, Int.reduceLE, Int.reduceLT, Int.reduceEq, Int.reduceNe, di0, di1, di2, di3, di4, di5, di6, di7, di8, di9, postX_ret, postX_normal, ex_some]
    by_cases h5 : Wi p.wait 1 20
    case neg => simp only [h5, ruI, ssI, sbI, spI, swI, scI, stI, srI, saI, snI, ↓reduceIte, reduceCtorEq, Nat.reduceEqDiff, Nat.reduceAdd, Nat.reduceMul, Nat.reduceSub, Nat.reduceLeDiff, Nat.reduceBEq, Int.reduceToNat, Int.reduceLE, Int.reduceLT, Int.reduceEq, Int.reduceNe, di0, di1, di2, di3, di4, di5, di6, di7, di8, di9, postX_ret, postX_normal, ex_some]; simp
    simp only [h5, ruI, ssI, sbI, spI, swI, scI, stI, srI, saI, snI, ↓reduceIte, reduceCtorEq, Nat.reduceEqDiff, Nat.reduceAdd, Nat.reduceMul, Nat.reduceSub, Nat.reduceLeDiff, Nat.reduceBEq, Int.reduceToNat, Int.reduceLE, Int.reduceLT, Int.reduceEq, Int.reduceNe, di0, di1, di2, di3, di4, di5, di6, di7, di8, di9, postX_ret, postX_normal, ex_some]
    refine calls_of c_Wi ?_; simp only [ruI, ssI, sbI, spI, swI, scI, stI, srI, saI, snI, res44, b44k0, b44k1, b44k2, b44k3, b44k4, b44k5, b44k6, ↓reduceIte, reduceCtorEq, Nat.reduceEqDiff, Nat.reduceAdd, Nat.reduceMul, Nat.reduceSub, Nat.reduceLeDiff, Nat.reduceBEq, Int.reduceToNat, Int.reduceLE, Int.reduceLT, Int.reduceEq, Int.reduceNe, di0, di1, di2, di3, di4, di5, di6, di7, di8, di9, postX_ret, postX_normal, ex_some]
    by_cases h6 : Wi p.ticks 1 200
    case neg => simp only [h6, ruI, ssI, sbI, spI, swI, scI, stI, srI, saI, snI, ↓reduceIte, reduceCtorEq, Nat.reduceEqDiff, Nat.reduceAdd, Nat.reduceMul, Nat.reduceSub, Nat.reduceLeDiff, Nat.reduceBEq, Int.reduceToNat, Int.reduceLE, Int.reduceLT, Int.reduceEq, Int.reduceNe, di0, di1, di2, di3, di4, di5, di6, di7, di8, di9, postX_ret, postX_normal, ex_some]
    simp only [h6, ruI, ssI, sbI, spI, swI, scI, stI, srI, saI, snI, ↓reduceIte, reduceCtorEq, Nat.reduceEqDiff, Nat.reduceAdd, Nat.reduceMul, Nat.reduceSub, Nat.reduceLeDiff, Nat.reduceBEq, Int.reduceToNat, Int.reduceLE, Int.reduceLT, Int.reduceEq, Int.reduceNe, di0, di1, di2, di3, di4, di5, di6, di7, di8, di9, postX_ret, postX_normal, ex_some]

theorem r_CheckPlan {p : Pl} (_ : p.ch.length ≤ 1000000000) : Contract Try.prog 44 [spI p] (.tup [.int .i64 (planE p).1, .int .i64 (planE p).2]) := r_CheckPlan0

theorem r_PlanErr0 {r : Ru} {p : Pl} : Contract Try.prog 35 [ruI r, spI p] (.int .i64 (planEr r p).2) := by
  refine contract_run Try.func35 k35 rfl ?_
  simp only [body35, b35, res35, b35k0, ruI, ssI, sbI, spI, swI, scI, stI, srI, saI, snI, ↓reduceIte, reduceCtorEq, Nat.reduceEqDiff, Nat.reduceAdd, Nat.reduceMul, Nat.reduceSub, Nat.reduceLeDiff, Nat.reduceBEq, Int.reduceToNat, Int.reduceLE, Int.reduceLT, Int.reduceEq, Int.reduceNe, di0, di1, di2, di3, di4, di5, di6, di7, di8, di9, postX_ret, postX_normal, ex_some]
  refine calls_of r_RulesErr ?_; simp only [ruI, ssI, sbI, spI, swI, scI, stI, srI, saI, snI, res35, b35k0, ↓reduceIte, reduceCtorEq, Nat.reduceEqDiff, Nat.reduceAdd, Nat.reduceMul, Nat.reduceSub, Nat.reduceLeDiff, Nat.reduceBEq, Int.reduceToNat, Int.reduceLE, Int.reduceLT, Int.reduceEq, Int.reduceNe, di0, di1, di2, di3, di4, di5, di6, di7, di8, di9, postX_ret, postX_normal, ex_some]
  unfold planEr
  by_cases h : rulesErr r = 0
  · simp only [h, ruI, ssI, sbI, spI, swI, scI, stI, srI, saI, snI, ↓reduceIte, reduceCtorEq, Nat.reduceEqDiff, Nat.reduceAdd, Nat.reduceMul, Nat.reduceSub, Nat.reduceLeDiff, Nat.reduceBEq, Int.reduceToNat, Int.reduceLE, Int.reduceLT, Int.reduceEq, Int.reduceNe, di0, di1, di2, di3, di4, di5, di6, di7, di8, di9, postX_ret, postX_normal, ex_some]
    refine calls_of (r_CheckPlan0 (p := p)) ?_; simp only [ruI, ssI, sbI, spI, swI, scI, stI, srI, saI, snI, res35, b35k0, ↓reduceIte, reduceCtorEq, Nat.reduceEqDiff, Nat.reduceAdd, Nat.reduceMul, Nat.reduceSub, Nat.reduceLeDiff, Nat.reduceBEq, Int.reduceToNat, Int.reduceLE, Int.reduceLT, Int.reduceEq, Int.reduceNe, di0, di1, di2, di3, di4, di5, di6, di7, di8, di9, postX_ret, postX_normal, ex_some]
  · simp only [h, ruI, ssI, sbI, spI, swI, scI, stI, srI, saI, snI, ↓reduceIte, reduceCtorEq, Nat.reduceEqDiff, Nat.reduceAdd, Nat.reduceMul, Nat.reduceSub, Nat.reduceLeDiff, Nat.reduceBEq, Int.reduceToNat, Int.reduceLE, Int.reduceLT, Int.reduceEq, Int.reduceNe, di0, di1, di2, di3, di4, di5, di6, di7, di8, di9, postX_ret, postX_normal, ex_some]

theorem r_CopyPlan {p : Pl} (hl : p.ch.length ≤ 1000000000) : Contract Try.prog 31 [spI p] (spI p) := by
  refine contract_run Try.func31 k31 rfl ?_
  simp only [body31, b31, res31, ruI, ssI, sbI, spI, swI, scI, stI, srI, saI, snI, ↓reduceIte, reduceCtorEq, Nat.reduceEqDiff, Nat.reduceAdd, Nat.reduceMul, Nat.reduceSub, Nat.reduceLeDiff, Nat.reduceBEq, Int.reduceToNat, Int.reduceLE, Int.reduceLT, Int.reduceEq, Int.reduceNe, di0, di1, di2, di3, di4, di5, di6, di7, di8, di9, postX_ret, postX_normal, ex_some]
  refine calls_of (c_CopyInts (a := p.ch) (by omega)) ?_; simp only [ruI, ssI, sbI, spI, swI, scI, stI, srI, saI, snI, res31, ↓reduceIte, reduceCtorEq, Nat.reduceEqDiff, Nat.reduceAdd, Nat.reduceMul, Nat.reduceSub, Nat.reduceLeDiff, Nat.reduceBEq, Int.reduceToNat, Int.reduceLE, Int.reduceLT, Int.reduceEq, Int.reduceNe, di0, di1, di2, di3, di4, di5, di6, di7, di8, di9, postX_ret, postX_normal, ex_some]

end Go.DI

/- The statement SurgePlans, as a contract. No condition. -/
set_option linter.unusedSimpArgs false
set_option maxRecDepth 20000
namespace Go.DI
open Go.Proofs Go.RowKit Sg

def FewP (p : Pl) : Prop := p.ch.length ≤ 6 ∧ ((planE p).2 ≠ 0 ∨ p.ch.length ≤ 3 ∧ p.ticks ≤ 40)
instance (p : Pl) : Decidable (FewP p) := inferInstanceAs (Decidable (_ ∧ _))
theorem l_Few {p : Pl} : Contract Try.prog 28 [spI p] (.bool (decide (FewP p))) := by
  refine contract_run Try.func28 k28 rfl ?_
  simp only [body28, b28, res28, b28k0, ruI, ssI, sbI, spI, swI, scI, stI, srI, saI, snI, ↓reduceIte, reduceCtorEq, Nat.reduceEqDiff, Nat.reduceAdd, Nat.reduceMul, Nat.reduceSub, Nat.reduceLeDiff, Nat.reduceBEq, Int.reduceToNat, Int.reduceLE, Int.reduceLT, Int.reduceEq, Int.reduceNe, di0, di1, di2, di3, di4, di5, di6, di7, di8, di9, postX_ret, postX_normal, ex_some]
  by_cases h1 : p.ch.length ≤ 6
  case neg =>
    rw [if_pos (by omega), decide_eq_false (fun k => h1 k.1)]
  rw [if_neg (by omega)]
  refine calls_of (r_CheckPlan (by omega)) ?_; simp only [ruI, ssI, sbI, spI, swI, scI, stI, srI, saI, snI, res28, b28k0, ↓reduceIte, reduceCtorEq, Nat.reduceEqDiff, Nat.reduceAdd, Nat.reduceMul, Nat.reduceSub, Nat.reduceLeDiff, Nat.reduceBEq, Int.reduceToNat, Int.reduceLE, Int.reduceLT, Int.reduceEq, Int.reduceNe, di0, di1, di2, di3, di4, di5, di6, di7, di8, di9, postX_ret, postX_normal, ex_some]
  by_cases h2 : (planE p).2 = 0
  · simp only [h2, ruI, ssI, sbI, spI, swI, scI, stI, srI, saI, snI, ↓reduceIte, reduceCtorEq, Nat.reduceEqDiff, Nat.reduceAdd, Nat.reduceMul, Nat.reduceSub, Nat.reduceLeDiff, Nat.reduceBEq, Int.reduceToNat, Int.reduceLE, Int.reduceLT, Int.reduceEq, Int.reduceNe, di0, di1, di2, di3, di4, di5, di6, di7, di8, di9, postX_ret, postX_normal, ex_some]
    by_cases h3 : (p.ch.length : Int) ≤ 3
    · simp only [h3, ruI, ssI, sbI, spI, swI, scI, stI, srI, saI, snI, ↓reduceIte, reduceCtorEq, Nat.reduceEqDiff, Nat.reduceAdd, Nat.reduceMul, Nat.reduceSub, Nat.reduceLeDiff, Nat.reduceBEq, Int.reduceToNat, Int.reduceLE, Int.reduceLT, Int.reduceEq, Int.reduceNe, di0, di1, di2, di3, di4, di5, di6, di7, di8, di9, postX_ret, postX_normal, ex_some]
      congr 2
      rw [decide_eq_decide]
      unfold FewP
      rw [h2]
      omega
    · simp only [h3, ruI, ssI, sbI, spI, swI, scI, stI, srI, saI, snI, ↓reduceIte, reduceCtorEq, Nat.reduceEqDiff, Nat.reduceAdd, Nat.reduceMul, Nat.reduceSub, Nat.reduceLeDiff, Nat.reduceBEq, Int.reduceToNat, Int.reduceLE, Int.reduceLT, Int.reduceEq, Int.reduceNe, di0, di1, di2, di3, di4, di5, di6, di7, di8, di9, postX_ret, postX_normal, ex_some]
      rw [decide_eq_false (fun k => by have := k.2; rw [h2] at this; omega)]
  · simp only [h2, ruI, ssI, sbI, spI, swI, scI, stI, srI, saI, snI, ↓reduceIte, reduceCtorEq, Nat.reduceEqDiff, Nat.reduceAdd, Nat.reduceMul, Nat.reduceSub, Nat.reduceLeDiff, Nat.reduceBEq, Int.reduceToNat, Int.reduceLE, Int.reduceLT, Int.reduceEq, Int.reduceNe, di0, di1, di2, di3, di4, di5, di6, di7, di8, di9, postX_ret, postX_normal, ex_some]
    rw [decide_eq_true (show FewP p from ⟨h1, .inl h2⟩)]

end Go.DI

