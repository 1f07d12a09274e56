/- Contracts of the reference: runs. No condition. -/
import Derived.Test.YtdpfjbghiahbeaaKuGj
import Derived.Test.YtdpfjbghiahbeaaKuGk
/- The reference's functions of runs, and the law of runs, as data. No condition. -/
namespace Go.DI
open Go.Proofs Go.RowKit
/-- guidevane/guidevanebase.CopyInts -/
def b43 : DCode :=
 (.seq
  (.region [⟨(some 2), .mov, [.c (.slc 1 [])], none, []⟩] false)
  (.seq
   (.region [⟨(some 3), (.bsl 1), [], none, []⟩,
     ⟨(some 4), .movv, [.t 0], none, []⟩,
     ⟨(some 5), (.append 1 8 false), [.t 3, .t 4], none, [0, 1]⟩,
     ⟨(some 2), .movv, [.t 5], none, [2, 2, 0, 1, 2]⟩] false)
   .ret))
def d43 : DFn := ⟨1, 6, [.tmp 2], b43⟩
theorem body43 : d43.body = b43 := rfl
theorem res43 : d43.res = [.tmp 2] := rfl
theorem k43 : chkFn Try.prog Try.f43 d43 = true := by kernel_rfl

/-- guidevane/guidevaneref04.Run -/
def b54k0 : DCode :=
 (.seq
  (.block 1
   (.seq
    (.region [⟨(some 17), (.load true 5), [.t 4], none, []⟩,
      ⟨(some 18), (.load true 2), [.t 5], none, []⟩,
      ⟨(some 19), .movv, [.t 2], none, []⟩,
      ⟨(some 20), .mov, [.t 10], none, []⟩,
      ⟨(some 21), (.iaddr 1), [.t 19, .t 20], none, [2, 3]⟩,
      ⟨(some 22), (.load false 1), [.t 21], none, [4]⟩,
      ⟨(some 23), .mov, [.t 3], none, []⟩,
      ⟨(some 24), .call, [.f 23, .t 17, .t 18, .t 22, .t 23], none, [0, 1, 5, 6]⟩,
      ⟨none, (.store 2), [.t 5, .t 24], none, [7, 7, 0, 1, 2, 3, 4, 5, 6, 7]⟩] true)
    (.region [⟨(some 25), .mov, [.t 9], none, []⟩,
      ⟨(some 26), (.load true 2), [.t 5], none, []⟩,
      ⟨(some 27), (.bsl 2), [.t 26], none, [1]⟩,
      ⟨(some 28), (.append 2 16 false), [.t 25, .t 27], none, [0, 2]⟩,
      ⟨(some 9), .mov, [.t 28], none, [3, 3, 0, 1, 2, 3]⟩] false)))
  (.region [⟨(some 15), .mov, [.t 10], none, []⟩,
    ⟨(some 16), (.bin .add), [.t 15, .c (.int .i64 1)], none, [0]⟩,
    ⟨(some 10), .mov, [.t 16], none, [1, 0, 1]⟩] false))
def b54l0 : DCode := .keep [2, 3, 4, 5, 9, 10] [4, 5, 9, 28]
  (.seq
   (.seq
    (.region [⟨(some 11), .mov, [.t 10], none, []⟩,
      ⟨(some 12), .movv, [.t 2], none, []⟩,
      ⟨(some 13), .len, [.t 12], none, [1]⟩,
      ⟨(some 14), (.bin .lss), [.t 11, .t 13], none, [0, 2]⟩] false)
    (.cond (.t 14)
     .skip
     (.exit 0)))
   (.keep [2, 3, 4, 5, 9, 10] [4, 5, 9, 28] b54k0))
def b54k1 : DCode :=
 (.seq
  (.region [⟨(some 29), .movv, [.t 9], none, []⟩,
    ⟨(some 8), .movv, [.t 29], none, [0, 0]⟩] false)
  .ret)
def b54 : DCode :=
 (.seq
  (.region [⟨(some 4), .box, [.t 0], none, []⟩,
    ⟨(some 5), .box, [.t 1], none, []⟩,
    ⟨(some 8), .mov, [.c (.slc 2 [])], none, []⟩] false)
  (.seq
   (.region [⟨(some 9), (.ntok 2), [.c (.slc 2 [])], none, []⟩] false)
   (.seq
    (.seq
     (.region [⟨(some 10), .mov, [.c (.int .i64 0)], none, []⟩] false)
     (.block 0
      (.loop b54l0)))
    (.keep [9] [9, 28] b54k1))))
def d54 : DFn := ⟨4, 30, [.tmp 8], b54⟩
theorem body54 : d54.body = b54 := rfl
theorem res54 : d54.res = [.tmp 8] := rfl
theorem k54 : chkFn Try.prog Try.f54 d54 = true := by kernel_rfl

end Go.DI

/- Contracts: the reference's runs. No condition. -/
set_option linter.unusedSimpArgs false
namespace Go.DI
open Go.Proofs Go.RowKit Sg

theorem c_CopyInts {a : List Int} (ha : a.length ≤ 1000000000000) : Contract Try.prog 43 [.slc 1 (a.map (.int .i64))] (.slc 1 (a.map (.int .i64))) := by
  refine contract_run Try.func43 k43 rfl ?_
  simp only [body43, b43, res43, ↓reduceIte, reduceCtorEq, Nat.reduceEqDiff, Nat.reduceAdd, Nat.reduceMul, Nat.reduceSub, Nat.reduceLeDiff, Nat.reduceBEq, Int.reduceToNat, Int.reduceLE, Int.reduceLT, Int.reduceEq, Int.reduceNe, di0, di1, di2, di3, di4, di5, di6, di7, di8, di9, postX_ret, postX_normal, ex_some]
  omega

theorem r_Run {r : Ru} {s : Sta} {ls : List Int} {k : Int} (hr : Sg.Good r) (hs : (-1000000 ≤ s.L ∧ s.L ≤ 1000000) ∧ -1000 ≤ s.F ∧ s.F ≤ 1000) (hl : Loads ls) (hk : 0 ≤ k ∧ k ≤ 100) : Contract Try.prog 54 [ruI r, ssI s, snI ls, .int .i64 k] (.slc 2 ((runL r k s ls).map ssI)) := by
  have hl1 := hl.1
  refine contract_run Try.func54 k54 rfl ?_
  simp only [body54, b54, res54, b54k0, b54k1, ruI, ssI, sbI, spI, swI, scI, stI, srI, saI, snI, ↓reduceIte, reduceCtorEq, Nat.reduceEqDiff, Nat.reduceAdd, Nat.reduceMul, Nat.reduceSub, Nat.reduceLeDiff, Nat.reduceBEq, Int.reduceToNat, Int.reduceLE, Int.reduceLT, Int.reduceEq, Int.reduceNe, di0, di1, di2, di3, di4, di5, di6, di7, di8, di9, postX_ret, postX_normal, ex_some]
  refine loop_keep (α := Nat × Sta × List Sta) rfl (fun q => ls.length - q.1) (fun q => q.1 ≤ ls.length ∧ (-(1000000 + 2000 * (q.1 : Int)) ≤ q.2.1.L ∧ q.2.1.L ≤ 1000000 + 2000 * (q.1 : Int)) ∧ (-1000 ≤ q.2.1.F ∧ q.2.1.F ≤ 1000) ∧ q.2.2.length = q.1 ∧ q.2.2 ++ runL r k q.2.1 (ls.drop q.1) = runL r k s ls)
    (fun q => [(2, .imm (snI ls)), (3, .imm (.int .i64 k)), (4, .ref 4 0), (5, .ref 5 0), (9, .own 9), (10, .imm (.int .i64 q.1))])
    (fun q => [(4, .box [.imm (.int .i64 r.I), .imm (.int .i64 r.A), .imm (.int .i64 r.lo), .imm (.int .i64 r.hi), .imm (.int .i64 r.T)]), (5, .box [.imm (.int .i64 q.2.1.L), .imm (.int .i64 q.2.1.F)]), (9, .tok 2 (q.2.2.map ssI))])
    (0, s, []) ⟨Nat.zero_le _, by simpa using hs.1, hs.2, rfl, rfl⟩ (by simp only [ruI, ssI, sbI, spI, swI, scI, stI, srI, saI, snI, ↓reduceIte, reduceCtorEq, Nat.reduceEqDiff, Nat.reduceAdd, Nat.reduceMul, Nat.reduceSub, Nat.reduceLeDiff, Nat.reduceBEq, Int.reduceToNat, Int.reduceLE, Int.reduceLT, Int.reduceEq, Int.reduceNe, di0, di1, di2, di3, di4, di5, di6, di7, di8, di9, postX_ret, postX_normal, ex_some] <;> rfl) ?_
  rintro ⟨i, s1, out⟩ ⟨hi, hb1, hb2, hlen, he⟩ ih
  dsimp only at hi hb1 hb2 hlen he ⊢
  simp only [res54, b54k0, b54k1, ruI, ssI, sbI, spI, swI, scI, stI, srI, saI, snI, ↓reduceIte, reduceCtorEq, Nat.reduceEqDiff, Nat.reduceAdd, Nat.reduceMul, Nat.reduceSub, Nat.reduceLeDiff, Nat.reduceBEq, Int.reduceToNat, Int.reduceLE, Int.reduceLT, Int.reduceEq, Int.reduceNe, di0, di1, di2, di3, di4, di5, di6, di7, di8, di9, postX_ret, postX_normal, ex_some]
  split
  case isFalse h =>
    have : i = ls.length := by omega
    subst this
    rw [List.drop_length] at he
    simp only [runL, List.append_nil] at he
    rw [he]
  rename_i h
  have hlt : i < ls.length := by omega
  rw [getD_drop hlt] at he
  have hld := hl.2 _ (getD_mem hlt)
  generalize ls.getD i 0 = load at he hld
  have hb3 := stp_bd (k := k) (s := s1) (load := load) (m := 1000000 + 2000 * (i : Int)) hr hb1 hld
  repeat (refine And.intro (by omega) ?_)
  refine calls_of (r_Step (s := s1) (load := load) (k := k) hr ⟨by omega, hb2, hld, hk⟩) ?_; simp only [ruI, ssI, sbI, spI, swI, scI, stI, srI, saI, snI, res54, b54k0, b54k1, ↓reduceIte, reduceCtorEq, Nat.reduceEqDiff, Nat.reduceAdd, Nat.reduceMul, Nat.reduceSub, Nat.reduceLeDiff, Nat.reduceBEq, Int.reduceToNat, Int.reduceLE, Int.reduceLT, Int.reduceEq, Int.reduceNe, di0, di1, di2, di3, di4, di5, di6, di7, di8, di9, postX_ret, postX_normal, ex_some]
  repeat (refine And.intro (by omega) ?_)
  rw [wrap64 (by omega) (by omega)]
  refine ih (i + 1, stp r s1 load k, out ++ [stp r s1 load k]) _ _ (by dsimp only; omega) ⟨by dsimp only; omega, by dsimp only; omega, by dsimp only; omega, by simp [hlen], ?_⟩ (by simp only [ruI, ssI, sbI, spI, swI, scI, stI, srI, saI, snI, ↓reduceIte, reduceCtorEq, Nat.reduceEqDiff, Nat.reduceAdd, Nat.reduceMul, Nat.reduceSub, Nat.reduceLeDiff, Nat.reduceBEq, Int.reduceToNat, Int.reduceLE, Int.reduceLT, Int.reduceEq, Int.reduceNe, di0, di1, di2, di3, di4, di5, di6, di7, di8, di9, postX_ret, postX_normal, ex_some, List.map_append] <;> rfl)
  dsimp only
  rw [← he]
  simp [runL]

end Go.DI

