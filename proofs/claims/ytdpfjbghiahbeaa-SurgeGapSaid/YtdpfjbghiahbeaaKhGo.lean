/- Contracts of covers. No condition. -/
import Derived.Test.YtdpfjbghiahbeaaKhGn
/- The reference's functions of covers, as data. No condition. -/
namespace Go.DI
open Go.Proofs Go.RowKit
/-- guidevane/guidevaneref04.BoxesErr -/
def b59k0 : DCode :=
 (.region [⟨(some 15), .mov, [.t 3], none, []⟩,
   ⟨(some 16), (.bin .add), [.t 15, .c (.int .i64 1)], none, [0]⟩,
   ⟨(some 3), .mov, [.t 16], none, [1, 0, 1]⟩] false)
def b59k1 : DCode :=
 (.seq
  (.block 1
   (.seq
    (.region [⟨(some 17), .movv, [.t 0], none, []⟩,
      ⟨(some 18), .mov, [.t 3], none, []⟩,
      ⟨(some 19), (.iaddr 4), [.t 17, .t 18], none, [0, 1]⟩,
      ⟨(some 20), (.load true 4), [.t 19], none, [2]⟩,
      ⟨(some 21), .call, [.f 24, .t 20], none, [3]⟩,
      ⟨(some 4), .mov, [.t 21], none, [4, 4, 0, 1, 2, 3, 4]⟩] false)
    (.seq
     (.region [⟨(some 22), .mov, [.t 4], none, []⟩,
       ⟨(some 23), (.bin .neq), [.t 22, .c (.int .i64 0)], none, [0]⟩] false)
     (.cond (.t 23)
      (.seq
       (.region [⟨(some 24), .mov, [.t 4], none, []⟩,
         ⟨(some 2), .mov, [.t 24], none, [0, 0]⟩] false)
       .ret)
      .skip))))
  (.keep [0, 3] [] b59k0))
def b59l0 : DCode := .keep [0, 3] []
  (.seq
   (.seq
    (.region [⟨(some 11), .mov, [.t 3], none, []⟩,
      ⟨(some 12), .movv, [.t 0], none, []⟩,
      ⟨(some 13), .len, [.t 12], none, [1]⟩,
      ⟨(some 14), (.bin .lss), [.t 11, .t 13], none, [0, 2]⟩] false)
    (.cond (.t 14)
     .skip
     (.exit 0)))
   (.keep [0, 3] [] b59k1))
def b59k2 : DCode :=
 (.seq
  (.region [⟨(some 2), .mov, [.c (.int .i64 0)], none, []⟩] false)
  .ret)
def b59k3 : DCode :=
 (.seq
  (.seq
   (.region [⟨(some 3), .mov, [.c (.int .i64 0)], none, []⟩] false)
   (.block 0
    (.loop b59l0)))
  (.keep [] [] b59k2))
def b59k4 : DCode :=
 (.seq
  (.seq
   (.region [⟨(some 8), .movv, [.t 0], none, []⟩,
     ⟨(some 9), .len, [.t 8], none, [0]⟩,
     ⟨(some 10), (.bin .gtr), [.t 9, .c (.int .i64 64)], none, [1]⟩] false)
   (.cond (.t 10)
    (.seq
     (.region [⟨(some 2), .mov, [.c (.int .i64 8)], none, []⟩] false)
     .ret)
    .skip))
  (.keep [0] [] b59k3))
def b59 : DCode :=
 (.seq
  (.region [⟨(some 2), .mov, [.c (.int .i64 0)], none, []⟩] false)
  (.seq
   (.seq
    (.region [⟨(some 5), .movv, [.t 0], none, []⟩,
      ⟨(some 6), .len, [.t 5], none, [0]⟩,
      ⟨(some 7), (.bin .eql), [.t 6, .c (.int .i64 0)], none, [1]⟩] false)
    (.cond (.t 7)
     (.seq
      (.region [⟨(some 2), .mov, [.c (.int .i64 10)], none, []⟩] false)
      .ret)
     .skip))
   (.keep [0] [] b59k4)))
def d59 : DFn := ⟨1, 25, [.tmp 2], b59⟩
theorem body59 : d59.body = b59 := rfl
theorem res59 : d59.res = [.tmp 2] := rfl
theorem k59 : chkFn Try.prog Try.f59 d59 = true := by kernel_rfl

/-- guidevane/guidevaneref04.CopyBoxes -/
def b61 : DCode :=
 (.seq
  (.region [⟨(some 2), .mov, [.c (.slc 4 [])], none, []⟩] false)
  (.seq
   (.region [⟨(some 3), (.bsl 4), [], none, []⟩,
     ⟨(some 4), .movv, [.t 0], none, []⟩,
     ⟨(some 5), (.append 4 32 false), [.t 3, .t 4], none, [0, 1]⟩,
     ⟨(some 2), .movv, [.t 5], none, [2, 2, 0, 1, 2]⟩] false)
   .ret))
def d61 : DFn := ⟨1, 6, [.tmp 2], b61⟩
theorem body61 : d61.body = b61 := rfl
theorem res61 : d61.res = [.tmp 2] := rfl
theorem k61 : chkFn Try.prog Try.f61 d61 = true := by kernel_rfl

end Go.DI

/- Contracts: covers of boxes, of the program and of the reference. No condition. -/
set_option linter.unusedSimpArgs false
set_option maxRecDepth 20000
namespace Go.DI
open Go.Proofs Go.RowKit Sg

end Go.DI

/- Contracts: states that boxes do not cover, of the program and of the reference. No condition. -/
set_option linter.unusedSimpArgs false
set_option maxRecDepth 20000
namespace Go.DI
open Go.Proofs Go.RowKit Sg

end Go.DI

/- Contracts: the reference's covers; the statement SurgeCovers. No condition. -/
set_option linter.unusedSimpArgs false
set_option maxRecDepth 20000
namespace Go.DI
open Go.Proofs Go.RowKit Sg

theorem r_BoxErrS {b : Bx} : Contract Try.prog 24 [sbI b] (.int .i64 (boxErr b)) := r_BoxErr

theorem r_BoxesErr {bs : List Bx} (hn : bs.length ≤ 1000000000) : Contract Try.prog 59 [.slc 4 (bs.map sbI)] (.int .i64 (boxesE bs)) := by
  refine contract_run Try.func59 k59 rfl ?_
  simp only [body59, b59, res59, b59k0, b59k1, b59k2, b59k3, b59k4, ruI, ssI, sbI, spI, swI, scI, stI, srI, saI, snI, ↓reduceIte, reduceCtorEq, Nat.reduceEqDiff, Nat.reduceAdd, Nat.reduceMul, Nat.reduceSub, Nat.reduceLeDiff, Nat.reduceBEq, Int.reduceToNat, Int.reduceLE, Int.reduceLT, Int.reduceEq, Int.reduceNe, di0, di1, di2, di3, di4, di5, di6, di7, di8, di9, postX_ret, postX_normal, ex_some]
  unfold boxesE fstE
  by_cases h1 : bs.length = 0
  · rw [if_pos (by omega), if_neg (show ¬ 0 < bs.length by omega)]
    rfl
  rw [if_neg (by omega), if_pos (show 0 < bs.length by omega), if_pos rfl]
  by_cases h2 : bs.length ≤ 64
  case neg =>
    rw [if_pos (by omega), if_neg h2]
    rfl
  rw [if_neg (by omega), if_pos h2, if_pos rfl]
  refine loop_keep (α := Nat) rfl (fun i => bs.length - i) (fun i => i ≤ bs.length ∧ scanB bs = scanB (bs.drop i))
    (fun i => [(0, .imm (.slc 4 (bs.map sbI))), (3, .imm (.int .i64 i))]) (fun _ => []) 0 ⟨Nat.zero_le _, rfl⟩ (by simp only [ruI, ssI, sbI, spI, swI, scI, stI, srI, saI, snI, ↓reduceIte, reduceCtorEq, Nat.reduceEqDiff, Nat.reduceAdd, Nat.reduceMul, Nat.reduceSub, Nat.reduceLeDiff, Nat.reduceBEq, Int.reduceToNat, Int.reduceLE, Int.reduceLT, Int.reduceEq, Int.reduceNe, di0, di1, di2, di3, di4, di5, di6, di7, di8, di9, postX_ret, postX_normal, ex_some] <;> rfl) ?_
  intro i ⟨hi, hs⟩ ih
  simp only [res59, b59k0, b59k1, b59k2, b59k3, b59k4, ruI, ssI, sbI, spI, swI, scI, stI, srI, saI, snI, ↓reduceIte, reduceCtorEq, Nat.reduceEqDiff, Nat.reduceAdd, Nat.reduceMul, Nat.reduceSub, Nat.reduceLeDiff, Nat.reduceBEq, Int.reduceToNat, Int.reduceLE, Int.reduceLT, Int.reduceEq, Int.reduceNe, di0, di1, di2, di3, di4, di5, di6, di7, di8, di9, postX_ret, postX_normal, ex_some]
  split
  case isFalse h =>
    rw [List.drop_of_length_le (by omega)] at hs
    rw [hs]
    rfl
  rename_i h
  have hlt : i < bs.length := by omega
  have hd : bs.drop i = bs.getD i default :: bs.drop (i + 1) := by
    rw [List.drop_eq_getElem_cons hlt, List.getD_eq_getElem?_getD]
    simp [hlt]
  rw [hd] at hs
  generalize bs.getD i default = b at hs
  repeat (refine And.intro (by omega) ?_)
  refine calls_of (r_BoxErrS (b := b)) ?_
  simp only [res59, b59k0, b59k1, b59k2, b59k3, b59k4, ruI, ssI, sbI, spI, swI, scI, stI, srI, saI, snI, ↓reduceIte, reduceCtorEq, Nat.reduceEqDiff, Nat.reduceAdd, Nat.reduceMul, Nat.reduceSub, Nat.reduceLeDiff, Nat.reduceBEq, Int.reduceToNat, Int.reduceLE, Int.reduceLT, Int.reduceEq, Int.reduceNe, di0, di1, di2, di3, di4, di5, di6, di7, di8, di9, postX_ret, postX_normal, ex_some]
  rw [show scanB (b :: bs.drop (i + 1)) = if boxErr b = 0 then scanB (bs.drop (i + 1)) else boxErr b from rfl] at hs
  by_cases h3 : boxErr b = 0
  · rw [if_pos h3] at hs
    simp only [h3, ruI, ssI, sbI, spI, swI, scI, stI, srI, saI, snI, ↓reduceIte, reduceCtorEq, Nat.reduceEqDiff, Nat.reduceAdd, Nat.reduceMul, Nat.reduceSub, Nat.reduceLeDiff, Nat.reduceBEq, Int.reduceToNat, Int.reduceLE, Int.reduceLT, Int.reduceEq, Int.reduceNe, di0, di1, di2, di3, di4, di5, di6, di7, di8, di9, postX_ret, postX_normal, ex_some]
    rw [wrap64 (by omega) (by omega)]
    exact ih (i + 1) _ _ (by omega) ⟨by omega, hs⟩ (by simp only [ruI, ssI, sbI, spI, swI, scI, stI, srI, saI, snI, ↓reduceIte, reduceCtorEq, Nat.reduceEqDiff, Nat.reduceAdd, Nat.reduceMul, Nat.reduceSub, Nat.reduceLeDiff, Nat.reduceBEq, Int.reduceToNat, Int.reduceLE, Int.reduceLT, Int.reduceEq, Int.reduceNe, di0, di1, di2, di3, di4, di5, di6, di7, di8, di9, postX_ret, postX_normal, ex_some] <;> rfl)
  · rw [if_neg h3] at hs
    simp only [h3, ruI, ssI, sbI, spI, swI, scI, stI, srI, saI, snI, ↓reduceIte, reduceCtorEq, Nat.reduceEqDiff, Nat.reduceAdd, Nat.reduceMul, Nat.reduceSub, Nat.reduceLeDiff, Nat.reduceBEq, Int.reduceToNat, Int.reduceLE, Int.reduceLT, Int.reduceEq, Int.reduceNe, di0, di1, di2, di3, di4, di5, di6, di7, di8, di9, postX_ret, postX_normal, ex_some]
    rw [hs]

theorem r_CopyBoxes {l : List Bx} (hl : l.length ≤ 1000000000) : Contract Try.prog 61 [.slc 4 (l.map sbI)] (.slc 4 (l.map sbI)) := by
  refine contract_run Try.func61 k61 rfl ?_
  simp only [body61, b61, res61, ruI, ssI, sbI, spI, swI, scI, stI, srI, saI, snI, ↓reduceIte, reduceCtorEq, Nat.reduceEqDiff, Nat.reduceAdd, Nat.reduceMul, Nat.reduceSub, Nat.reduceLeDiff, Nat.reduceBEq, Int.reduceToNat, Int.reduceLE, Int.reduceLT, Int.reduceEq, Int.reduceNe, di0, di1, di2, di3, di4, di5, di6, di7, di8, di9, postX_ret, postX_normal, ex_some]
  omega

end Go.DI

