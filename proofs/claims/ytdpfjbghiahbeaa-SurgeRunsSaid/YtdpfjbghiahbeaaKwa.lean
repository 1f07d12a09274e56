/- The statement SurgeRuns, as a contract. No condition. -/
import Derived.Test.YtdpfjbghiahbeaaKl
set_option linter.unusedSimpArgs false
set_option maxRecDepth 20000
namespace Go.DI
open Go.Proofs Go.RowKit Sg

def shortL (n : Nat) : Prop := n ≤ 40 ∨ (200 < n ∧ n ≤ 202)
instance (n : Nat) : Decidable (shortL n) := inferInstanceAs (Decidable (_ ∨ _))
theorem l_short {l : List Int} : Contract Try.prog 49 [snI l] (.bool (decide (shortL l.length))) := by
  refine contract_run Try.func49 k49 rfl ?_
  simp only [body49, b49, res49, ruI, ssI, sbI, spI, swI, scI, stI, srI, saI, snI, ↓reduceIte, reduceCtorEq, Nat.reduceEqDiff, Nat.reduceAdd, Nat.reduceMul, Nat.reduceSub, Nat.reduceLeDiff, Nat.reduceBEq, Int.reduceToNat, Int.reduceLE, Int.reduceLT, Int.reduceEq, Int.reduceNe, di0, di1, di2, di3, di4, di5, di6, di7, di8, di9, postX_ret, postX_normal, ex_some]
  by_cases h1 : (l.length : Int) ≤ 40
  · simp only [h1, ruI, ssI, sbI, spI, swI, scI, stI, srI, saI, snI, ↓reduceIte, reduceCtorEq, Nat.reduceEqDiff, Nat.reduceAdd, Nat.reduceMul, Nat.reduceSub, Nat.reduceLeDiff, Nat.reduceBEq, Int.reduceToNat, Int.reduceLE, Int.reduceLT, Int.reduceEq, Int.reduceNe, di0, di1, di2, di3, di4, di5, di6, di7, di8, di9, postX_ret, postX_normal, ex_some]
    rw [decide_eq_true (show shortL l.length from .inl (by omega))]
  simp only [h1, ruI, ssI, sbI, spI, swI, scI, stI, srI, saI, snI, ↓reduceIte, reduceCtorEq, Nat.reduceEqDiff, Nat.reduceAdd, Nat.reduceMul, Nat.reduceSub, Nat.reduceLeDiff, Nat.reduceBEq, Int.reduceToNat, Int.reduceLE, Int.reduceLT, Int.reduceEq, Int.reduceNe, di0, di1, di2, di3, di4, di5, di6, di7, di8, di9, postX_ret, postX_normal, ex_some]
  by_cases h2 : 200 < (l.length : Int)
  · simp only [h2, ruI, ssI, sbI, spI, swI, scI, stI, srI, saI, snI, ↓reduceIte, reduceCtorEq, Nat.reduceEqDiff, Nat.reduceAdd, Nat.reduceMul, Nat.reduceSub, Nat.reduceLeDiff, Nat.reduceBEq, Int.reduceToNat, Int.reduceLE, Int.reduceLT, Int.reduceEq, Int.reduceNe, di0, di1, di2, di3, di4, di5, di6, di7, di8, di9, postX_ret, postX_normal, ex_some]
    congr 2
    rw [decide_eq_decide]
    unfold shortL
    omega
  · simp only [h2, ruI, ssI, sbI, spI, swI, scI, stI, srI, saI, snI, ↓reduceIte, reduceCtorEq, Nat.reduceEqDiff, Nat.reduceAdd, Nat.reduceMul, Nat.reduceSub, Nat.reduceLeDiff, Nat.reduceBEq, Int.reduceToNat, Int.reduceLE, Int.reduceLT, Int.reduceEq, Int.reduceNe, di0, di1, di2, di3, di4, di5, di6, di7, di8, di9, postX_ret, postX_normal, ex_some]
    rw [decide_eq_false (show ¬ shortL l.length by unfold shortL; omega)]

theorem tail_SurgeRuns {r : Ru} {b : Bx} {ls : List Int} {k load : Int} {Y : List Bx} {Z : Bx} {E2 E3 : Int} (hn : ls.length ≤ 202)
    (h2 : E2 = fstE (fstE (rulesErr r) (boxErr b)) (loadsErr ls)) (h3 : E3 = fstE (fstE (rulesErr r) (boxErr b)) (loadErr load))
    (hY : E2 = 0 → Y = brunL r b ls) (hY0 : ¬ E2 = 0 → Y = []) (hZ : E3 = 0 → Z = bstp r b load) (hZ0 : ¬ E3 = 0 → Z = ⟨0, 0, 0, 0⟩) :
    run Try.prog b8k5 [] (d8.post (.bool true)) (mkS [(3, .ref 3 0), (4, .ref 4 0), (5, .ref 5 0), (10, .imm (.slc 4 (Y.map sbI))), (11, .imm (.int .i64 E2)), (12, .imm (.int .i64 load)), (13, .ref 13 0), (14, .imm (.int .i64 E3)), (16, .imm (.int .i64 (rulesErr r)))]
      [(3, .box [.imm (.int .i64 r.I), .imm (.int .i64 r.A), .imm (.int .i64 r.lo), .imm (.int .i64 r.hi), .imm (.int .i64 r.T)]), (4, .box [.imm (.int .i64 b.ll), .imm (.int .i64 b.lh), .imm (.int .i64 b.fl), .imm (.int .i64 b.fh)]), (5, .box [.imm (snI ls), .imm (.int .i64 k)]),
        (13, .box [.imm (.int .i64 Z.ll), .imm (.int .i64 Z.lh), .imm (.int .i64 Z.fl), .imm (.int .i64 Z.fh)])]) := by
  have cb := s_CheckBox (r := r) (b := b)
  have rb := r_BoxErr (b := b)
  have rl := r_LoadErr (n := load)
  have rs := r_LoadsErr (l := ls) (by omega)
  by_cases e1 : rulesErr r = 0
  case neg =>
    have a2 : E2 = rulesErr r := by rw [h2]; simp only [fstE, e1, ruI, ssI, sbI, spI, swI, scI, stI, srI, saI, snI, ↓reduceIte, reduceCtorEq, Nat.reduceEqDiff, Nat.reduceAdd, Nat.reduceMul, Nat.reduceSub, Nat.reduceLeDiff, Nat.reduceBEq, Int.reduceToNat, Int.reduceLE, Int.reduceLT, Int.reduceEq, Int.reduceNe, di0, di1, di2, di3, di4, di5, di6, di7, di8, di9, postX_ret, postX_normal, ex_some]
    have a3 : E3 = rulesErr r := by rw [h3]; simp only [fstE, e1, ruI, ssI, sbI, spI, swI, scI, stI, srI, saI, snI, ↓reduceIte, reduceCtorEq, Nat.reduceEqDiff, Nat.reduceAdd, Nat.reduceMul, Nat.reduceSub, Nat.reduceLeDiff, Nat.reduceBEq, Int.reduceToNat, Int.reduceLE, Int.reduceLT, Int.reduceEq, Int.reduceNe, di0, di1, di2, di3, di4, di5, di6, di7, di8, di9, postX_ret, postX_normal, ex_some]
    rw [hY0 (by rw [a2]; exact e1), hZ0 (by rw [a3]; exact e1), a2, a3]
    simp only [fstE, e1, ruI, ssI, sbI, spI, swI, scI, stI, srI, saI, snI, ↓reduceIte, reduceCtorEq, Nat.reduceEqDiff, Nat.reduceAdd, Nat.reduceMul, Nat.reduceSub, Nat.reduceLeDiff, Nat.reduceBEq, Int.reduceToNat, Int.reduceLE, Int.reduceLT, Int.reduceEq, Int.reduceNe, di0, di1, di2, di3, di4, di5, di6, di7, di8, di9, postX_ret, postX_normal, ex_some] at cb
    simp only [res8, b8k0, b8k1, b8k2, b8k3, b8k4, b8k5, b8k6, b8k7, b8k8, b8k9, b8k10, b8k11, e1, ruI, ssI, sbI, spI, swI, scI, stI, srI, saI, snI, ↓reduceIte, reduceCtorEq, Nat.reduceEqDiff, Nat.reduceAdd, Nat.reduceMul, Nat.reduceSub, Nat.reduceLeDiff, Nat.reduceBEq, Int.reduceToNat, Int.reduceLE, Int.reduceLT, Int.reduceEq, Int.reduceNe, di0, di1, di2, di3, di4, di5, di6, di7, di8, di9, postX_ret, postX_normal, ex_some]
    refine calls_of cb ?_; simp only [ruI, ssI, sbI, spI, swI, scI, stI, srI, saI, snI, res8, b8k0, b8k1, b8k2, b8k3, b8k4, b8k5, b8k6, b8k7, b8k8, b8k9, b8k10, b8k11, ↓reduceIte, reduceCtorEq, Nat.reduceEqDiff, Nat.reduceAdd, Nat.reduceMul, Nat.reduceSub, Nat.reduceLeDiff, Nat.reduceBEq, Int.reduceToNat, Int.reduceLE, Int.reduceLT, Int.reduceEq, Int.reduceNe, di0, di1, di2, di3, di4, di5, di6, di7, di8, di9, postX_ret, postX_normal, ex_some]
    simp only [e1, ruI, ssI, sbI, spI, swI, scI, stI, srI, saI, snI, ↓reduceIte, reduceCtorEq, Nat.reduceEqDiff, Nat.reduceAdd, Nat.reduceMul, Nat.reduceSub, Nat.reduceLeDiff, Nat.reduceBEq, Int.reduceToNat, Int.reduceLE, Int.reduceLT, Int.reduceEq, Int.reduceNe, di0, di1, di2, di3, di4, di5, di6, di7, di8, di9, postX_ret, postX_normal, ex_some]
  have hg := rules_ok.1 e1
  rw [e1] at h2 h3 cb
  simp only [res8, b8k0, b8k1, b8k2, b8k3, b8k4, b8k5, b8k6, b8k7, b8k8, b8k9, b8k10, b8k11, e1, ruI, ssI, sbI, spI, swI, scI, stI, srI, saI, snI, ↓reduceIte, reduceCtorEq, Nat.reduceEqDiff, Nat.reduceAdd, Nat.reduceMul, Nat.reduceSub, Nat.reduceLeDiff, Nat.reduceBEq, Int.reduceToNat, Int.reduceLE, Int.reduceLT, Int.reduceEq, Int.reduceNe, di0, di1, di2, di3, di4, di5, di6, di7, di8, di9, postX_ret, postX_normal, ex_some]
  refine calls_of rb ?_; simp only [ruI, ssI, sbI, spI, swI, scI, stI, srI, saI, snI, res8, b8k0, b8k1, b8k2, b8k3, b8k4, b8k5, b8k6, b8k7, b8k8, b8k9, b8k10, b8k11, ↓reduceIte, reduceCtorEq, Nat.reduceEqDiff, Nat.reduceAdd, Nat.reduceMul, Nat.reduceSub, Nat.reduceLeDiff, Nat.reduceBEq, Int.reduceToNat, Int.reduceLE, Int.reduceLT, Int.reduceEq, Int.reduceNe, di0, di1, di2, di3, di4, di5, di6, di7, di8, di9, postX_ret, postX_normal, ex_some]
  by_cases e2 : boxErr b = 0
  case neg =>
    have a2 : E2 = boxErr b := by rw [h2]; simp only [fstE, e2, ruI, ssI, sbI, spI, swI, scI, stI, srI, saI, snI, ↓reduceIte, reduceCtorEq, Nat.reduceEqDiff, Nat.reduceAdd, Nat.reduceMul, Nat.reduceSub, Nat.reduceLeDiff, Nat.reduceBEq, Int.reduceToNat, Int.reduceLE, Int.reduceLT, Int.reduceEq, Int.reduceNe, di0, di1, di2, di3, di4, di5, di6, di7, di8, di9, postX_ret, postX_normal, ex_some]
    have a3 : E3 = boxErr b := by rw [h3]; simp only [fstE, e2, ruI, ssI, sbI, spI, swI, scI, stI, srI, saI, snI, ↓reduceIte, reduceCtorEq, Nat.reduceEqDiff, Nat.reduceAdd, Nat.reduceMul, Nat.reduceSub, Nat.reduceLeDiff, Nat.reduceBEq, Int.reduceToNat, Int.reduceLE, Int.reduceLT, Int.reduceEq, Int.reduceNe, di0, di1, di2, di3, di4, di5, di6, di7, di8, di9, postX_ret, postX_normal, ex_some]
    rw [hY0 (by rw [a2]; exact e2), hZ0 (by rw [a3]; exact e2), a2, a3]
    simp only [fstE, e2, ruI, ssI, sbI, spI, swI, scI, stI, srI, saI, snI, ↓reduceIte, reduceCtorEq, Nat.reduceEqDiff, Nat.reduceAdd, Nat.reduceMul, Nat.reduceSub, Nat.reduceLeDiff, Nat.reduceBEq, Int.reduceToNat, Int.reduceLE, Int.reduceLT, Int.reduceEq, Int.reduceNe, di0, di1, di2, di3, di4, di5, di6, di7, di8, di9, postX_ret, postX_normal, ex_some] at cb
    refine calls_of cb ?_; simp only [ruI, ssI, sbI, spI, swI, scI, stI, srI, saI, snI, res8, b8k0, b8k1, b8k2, b8k3, b8k4, b8k5, b8k6, b8k7, b8k8, b8k9, b8k10, b8k11, ↓reduceIte, reduceCtorEq, Nat.reduceEqDiff, Nat.reduceAdd, Nat.reduceMul, Nat.reduceSub, Nat.reduceLeDiff, Nat.reduceBEq, Int.reduceToNat, Int.reduceLE, Int.reduceLT, Int.reduceEq, Int.reduceNe, di0, di1, di2, di3, di4, di5, di6, di7, di8, di9, postX_ret, postX_normal, ex_some]
    simp only [e2, ruI, ssI, sbI, spI, swI, scI, stI, srI, saI, snI, ↓reduceIte, reduceCtorEq, Nat.reduceEqDiff, Nat.reduceAdd, Nat.reduceMul, Nat.reduceSub, Nat.reduceLeDiff, Nat.reduceBEq, Int.reduceToNat, Int.reduceLE, Int.reduceLT, Int.reduceEq, Int.reduceNe, di0, di1, di2, di3, di4, di5, di6, di7, di8, di9, postX_ret, postX_normal, ex_some]
  rw [e2] at h2 h3 cb
  have hbx := boxErr_zero.1 e2
  simp only [fstE, ruI, ssI, sbI, spI, swI, scI, stI, srI, saI, snI, ↓reduceIte, reduceCtorEq, Nat.reduceEqDiff, Nat.reduceAdd, Nat.reduceMul, Nat.reduceSub, Nat.reduceLeDiff, Nat.reduceBEq, Int.reduceToNat, Int.reduceLE, Int.reduceLT, Int.reduceEq, Int.reduceNe, di0, di1, di2, di3, di4, di5, di6, di7, di8, di9, postX_ret, postX_normal, ex_some] at cb
  simp only [e2]
  refine calls_of cb ?_; simp only [ruI, ssI, sbI, spI, swI, scI, stI, srI, saI, snI, res8, b8k0, b8k1, b8k2, b8k3, b8k4, b8k5, b8k6, b8k7, b8k8, b8k9, b8k10, b8k11, ↓reduceIte, reduceCtorEq, Nat.reduceEqDiff, Nat.reduceAdd, Nat.reduceMul, Nat.reduceSub, Nat.reduceLeDiff, Nat.reduceBEq, Int.reduceToNat, Int.reduceLE, Int.reduceLT, Int.reduceEq, Int.reduceNe, di0, di1, di2, di3, di4, di5, di6, di7, di8, di9, postX_ret, postX_normal, ex_some]
  refine calls_of rl ?_; simp only [ruI, ssI, sbI, spI, swI, scI, stI, srI, saI, snI, res8, b8k0, b8k1, b8k2, b8k3, b8k4, b8k5, b8k6, b8k7, b8k8, b8k9, b8k10, b8k11, ↓reduceIte, reduceCtorEq, Nat.reduceEqDiff, Nat.reduceAdd, Nat.reduceMul, Nat.reduceSub, Nat.reduceLeDiff, Nat.reduceBEq, Int.reduceToNat, Int.reduceLE, Int.reduceLT, Int.reduceEq, Int.reduceNe, di0, di1, di2, di3, di4, di5, di6, di7, di8, di9, postX_ret, postX_normal, ex_some]
  by_cases ef : loadErr load = 0
  case neg =>
    have a3 : E3 = loadErr load := by rw [h3]; simp only [fstE, ruI, ssI, sbI, spI, swI, scI, stI, srI, saI, snI, ↓reduceIte, reduceCtorEq, Nat.reduceEqDiff, Nat.reduceAdd, Nat.reduceMul, Nat.reduceSub, Nat.reduceLeDiff, Nat.reduceBEq, Int.reduceToNat, Int.reduceLE, Int.reduceLT, Int.reduceEq, Int.reduceNe, di0, di1, di2, di3, di4, di5, di6, di7, di8, di9, postX_ret, postX_normal, ex_some]
    rw [hZ0 (by rw [a3]; exact ef), a3]
    simp only [ef, ruI, ssI, sbI, spI, swI, scI, stI, srI, saI, snI, ↓reduceIte, reduceCtorEq, Nat.reduceEqDiff, Nat.reduceAdd, Nat.reduceMul, Nat.reduceSub, Nat.reduceLeDiff, Nat.reduceBEq, Int.reduceToNat, Int.reduceLE, Int.reduceLT, Int.reduceEq, Int.reduceNe, di0, di1, di2, di3, di4, di5, di6, di7, di8, di9, postX_ret, postX_normal, ex_some]
    refine calls_of rs ?_; simp only [ruI, ssI, sbI, spI, swI, scI, stI, srI, saI, snI, res8, b8k0, b8k1, b8k2, b8k3, b8k4, b8k5, b8k6, b8k7, b8k8, b8k9, b8k10, b8k11, ↓reduceIte, reduceCtorEq, Nat.reduceEqDiff, Nat.reduceAdd, Nat.reduceMul, Nat.reduceSub, Nat.reduceLeDiff, Nat.reduceBEq, Int.reduceToNat, Int.reduceLE, Int.reduceLT, Int.reduceEq, Int.reduceNe, di0, di1, di2, di3, di4, di5, di6, di7, di8, di9, postX_ret, postX_normal, ex_some]
    by_cases ec : loadsErr ls = 0
    case neg =>
      have a2 : E2 = loadsErr ls := by rw [h2]; simp only [fstE, ruI, ssI, sbI, spI, swI, scI, stI, srI, saI, snI, ↓reduceIte, reduceCtorEq, Nat.reduceEqDiff, Nat.reduceAdd, Nat.reduceMul, Nat.reduceSub, Nat.reduceLeDiff, Nat.reduceBEq, Int.reduceToNat, Int.reduceLE, Int.reduceLT, Int.reduceEq, Int.reduceNe, di0, di1, di2, di3, di4, di5, di6, di7, di8, di9, postX_ret, postX_normal, ex_some]
      rw [hY0 (by rw [a2]; exact ec), a2]
      simp only [ec, ruI, ssI, sbI, spI, swI, scI, stI, srI, saI, snI, ↓reduceIte, reduceCtorEq, Nat.reduceEqDiff, Nat.reduceAdd, Nat.reduceMul, Nat.reduceSub, Nat.reduceLeDiff, Nat.reduceBEq, Int.reduceToNat, Int.reduceLE, Int.reduceLT, Int.reduceEq, Int.reduceNe, di0, di1, di2, di3, di4, di5, di6, di7, di8, di9, postX_ret, postX_normal, ex_some]
    have a2 : E2 = 0 := by rw [h2, ec]; rfl
    rw [hY a2, a2]
    have hrun := r_BoxRun (r := r) (b := b) (ls := ls) hg (by omega) ⟨by omega, (loadsErr_zero.1 ec).2⟩
    have hsame := r_SameBoxes (a := brunL r b ls) (b := brunL r b ls) (by rw [brunL_length]; omega)
    simp only [ec, ruI, ssI, sbI, spI, swI, scI, stI, srI, saI, snI, ↓reduceIte, reduceCtorEq, Nat.reduceEqDiff, Nat.reduceAdd, Nat.reduceMul, Nat.reduceSub, Nat.reduceLeDiff, Nat.reduceBEq, Int.reduceToNat, Int.reduceLE, Int.reduceLT, Int.reduceEq, Int.reduceNe, di0, di1, di2, di3, di4, di5, di6, di7, di8, di9, postX_ret, postX_normal, ex_some]
    refine calls_of hrun ?_; simp only [ruI, ssI, sbI, spI, swI, scI, stI, srI, saI, snI, res8, b8k0, b8k1, b8k2, b8k3, b8k4, b8k5, b8k6, b8k7, b8k8, b8k9, b8k10, b8k11, ↓reduceIte, reduceCtorEq, Nat.reduceEqDiff, Nat.reduceAdd, Nat.reduceMul, Nat.reduceSub, Nat.reduceLeDiff, Nat.reduceBEq, Int.reduceToNat, Int.reduceLE, Int.reduceLT, Int.reduceEq, Int.reduceNe, di0, di1, di2, di3, di4, di5, di6, di7, di8, di9, postX_ret, postX_normal, ex_some]
    refine calls_of hsame ?_; simp only [ruI, ssI, sbI, spI, swI, scI, stI, srI, saI, snI, res8, b8k0, b8k1, b8k2, b8k3, b8k4, b8k5, b8k6, b8k7, b8k8, b8k9, b8k10, b8k11, ↓reduceIte, reduceCtorEq, Nat.reduceEqDiff, Nat.reduceAdd, Nat.reduceMul, Nat.reduceSub, Nat.reduceLeDiff, Nat.reduceBEq, Int.reduceToNat, Int.reduceLE, Int.reduceLT, Int.reduceEq, Int.reduceNe, di0, di1, di2, di3, di4, di5, di6, di7, di8, di9, postX_ret, postX_normal, ex_some]
  · have a3 : E3 = 0 := by rw [h3, ef]; rfl
    have hst := r_BoxStep (r := r) (b := b) (load := load) hg (by omega) (by omega) (by omega) (by omega) (loadErr_zero.1 ef)
    rw [hZ a3, a3]
    simp only [ef, ruI, ssI, sbI, spI, swI, scI, stI, srI, saI, snI, ↓reduceIte, reduceCtorEq, Nat.reduceEqDiff, Nat.reduceAdd, Nat.reduceMul, Nat.reduceSub, Nat.reduceLeDiff, Nat.reduceBEq, Int.reduceToNat, Int.reduceLE, Int.reduceLT, Int.reduceEq, Int.reduceNe, di0, di1, di2, di3, di4, di5, di6, di7, di8, di9, postX_ret, postX_normal, ex_some]
    refine calls_of hst ?_; simp only [ruI, ssI, sbI, spI, swI, scI, stI, srI, saI, snI, res8, b8k0, b8k1, b8k2, b8k3, b8k4, b8k5, b8k6, b8k7, b8k8, b8k9, b8k10, b8k11, ↓reduceIte, reduceCtorEq, Nat.reduceEqDiff, Nat.reduceAdd, Nat.reduceMul, Nat.reduceSub, Nat.reduceLeDiff, Nat.reduceBEq, Int.reduceToNat, Int.reduceLE, Int.reduceLT, Int.reduceEq, Int.reduceNe, di0, di1, di2, di3, di4, di5, di6, di7, di8, di9, postX_ret, postX_normal, ex_some]
    refine calls_of rs ?_; simp only [ruI, ssI, sbI, spI, swI, scI, stI, srI, saI, snI, res8, b8k0, b8k1, b8k2, b8k3, b8k4, b8k5, b8k6, b8k7, b8k8, b8k9, b8k10, b8k11, ↓reduceIte, reduceCtorEq, Nat.reduceEqDiff, Nat.reduceAdd, Nat.reduceMul, Nat.reduceSub, Nat.reduceLeDiff, Nat.reduceBEq, Int.reduceToNat, Int.reduceLE, Int.reduceLT, Int.reduceEq, Int.reduceNe, di0, di1, di2, di3, di4, di5, di6, di7, di8, di9, postX_ret, postX_normal, ex_some]
    by_cases ec : loadsErr ls = 0
    case neg =>
      have a2 : E2 = loadsErr ls := by rw [h2]; simp only [fstE, ruI, ssI, sbI, spI, swI, scI, stI, srI, saI, snI, ↓reduceIte, reduceCtorEq, Nat.reduceEqDiff, Nat.reduceAdd, Nat.reduceMul, Nat.reduceSub, Nat.reduceLeDiff, Nat.reduceBEq, Int.reduceToNat, Int.reduceLE, Int.reduceLT, Int.reduceEq, Int.reduceNe, di0, di1, di2, di3, di4, di5, di6, di7, di8, di9, postX_ret, postX_normal, ex_some]
      rw [hY0 (by rw [a2]; exact ec), a2]
      simp only [ec, ruI, ssI, sbI, spI, swI, scI, stI, srI, saI, snI, ↓reduceIte, reduceCtorEq, Nat.reduceEqDiff, Nat.reduceAdd, Nat.reduceMul, Nat.reduceSub, Nat.reduceLeDiff, Nat.reduceBEq, Int.reduceToNat, Int.reduceLE, Int.reduceLT, Int.reduceEq, Int.reduceNe, di0, di1, di2, di3, di4, di5, di6, di7, di8, di9, postX_ret, postX_normal, ex_some]
    have a2 : E2 = 0 := by rw [h2, ec]; rfl
    rw [hY a2, a2]
    have hrun := r_BoxRun (r := r) (b := b) (ls := ls) hg (by omega) ⟨by omega, (loadsErr_zero.1 ec).2⟩
    have hsame := r_SameBoxes (a := brunL r b ls) (b := brunL r b ls) (by rw [brunL_length]; omega)
    simp only [ec, ruI, ssI, sbI, spI, swI, scI, stI, srI, saI, snI, ↓reduceIte, reduceCtorEq, Nat.reduceEqDiff, Nat.reduceAdd, Nat.reduceMul, Nat.reduceSub, Nat.reduceLeDiff, Nat.reduceBEq, Int.reduceToNat, Int.reduceLE, Int.reduceLT, Int.reduceEq, Int.reduceNe, di0, di1, di2, di3, di4, di5, di6, di7, di8, di9, postX_ret, postX_normal, ex_some]
    refine calls_of hrun ?_; simp only [ruI, ssI, sbI, spI, swI, scI, stI, srI, saI, snI, res8, b8k0, b8k1, b8k2, b8k3, b8k4, b8k5, b8k6, b8k7, b8k8, b8k9, b8k10, b8k11, ↓reduceIte, reduceCtorEq, Nat.reduceEqDiff, Nat.reduceAdd, Nat.reduceMul, Nat.reduceSub, Nat.reduceLeDiff, Nat.reduceBEq, Int.reduceToNat, Int.reduceLE, Int.reduceLT, Int.reduceEq, Int.reduceNe, di0, di1, di2, di3, di4, di5, di6, di7, di8, di9, postX_ret, postX_normal, ex_some]
    refine calls_of hsame ?_; simp only [ruI, ssI, sbI, spI, swI, scI, stI, srI, saI, snI, res8, b8k0, b8k1, b8k2, b8k3, b8k4, b8k5, b8k6, b8k7, b8k8, b8k9, b8k10, b8k11, ↓reduceIte, reduceCtorEq, Nat.reduceEqDiff, Nat.reduceAdd, Nat.reduceMul, Nat.reduceSub, Nat.reduceLeDiff, Nat.reduceBEq, Int.reduceToNat, Int.reduceLE, Int.reduceLT, Int.reduceEq, Int.reduceNe, di0, di1, di2, di3, di4, di5, di6, di7, di8, di9, postX_ret, postX_normal, ex_some]

theorem mid_SurgeRuns {r : Ru} {b : Bx} {ls : List Int} {k load : Int} {X : List Sta} {Y : List Bx} {E1 E2 : Int} (hn : ls.length ≤ 202)
    (h1 : E1 = runE r ⟨b.ll, b.fh⟩ ls k) (h2 : E2 = fstE (fstE (rulesErr r) (boxErr b)) (loadsErr ls))
    (hX : E1 = 0 → X = runL r k ⟨b.ll, b.fh⟩ ls) (hX0 : ¬ E1 = 0 → X = [])
    (hY : E2 = 0 → Y = brunL r b ls) (hY0 : ¬ E2 = 0 → Y = []) :
    run Try.prog b8k9 [] (d8.post (.bool true)) (mkS [(3, .ref 3 0), (4, .ref 4 0), (5, .ref 5 0), (7, .ref 7 0), (8, .imm (.slc 2 (X.map ssI))), (9, .imm (.int .i64 E1)), (10, .imm (.slc 4 (Y.map sbI))), (11, .imm (.int .i64 E2)), (12, .imm (.int .i64 load))]
      [(3, .box [.imm (.int .i64 r.I), .imm (.int .i64 r.A), .imm (.int .i64 r.lo), .imm (.int .i64 r.hi), .imm (.int .i64 r.T)]), (4, .box [.imm (.int .i64 b.ll), .imm (.int .i64 b.lh), .imm (.int .i64 b.fl), .imm (.int .i64 b.fh)]), (5, .box [.imm (snI ls), .imm (.int .i64 k)]),
        (7, .box [.imm (.int .i64 b.ll), .imm (.int .i64 b.fh)])]) := by
  obtain ⟨Z, E3, hst, h3, hZ, hZ0⟩ : ∃ Z E3, Contract Try.prog 25 [ruI r, sbI b, .int .i64 load] (.tup [sbI Z, .int .i64 E3]) ∧ E3 = bstdE r b load ∧ (E3 = 0 → Z = bstp r b load) ∧ (¬ E3 = 0 → Z = ⟨0, 0, 0, 0⟩) := by
    have := s_BoxStep (r := r) (b := b) (load := load)
    by_cases h : bstdE r b load = 0
    · rw [if_pos h] at this; exact ⟨_, _, this, h.symm, fun _ => rfl, fun k => (k rfl).elim⟩
    · rw [if_neg h] at this; exact ⟨_, _, this, rfl, fun k => (h k).elim, fun _ => rfl⟩
  have tl := tail_SurgeRuns (r := r) (b := b) (ls := ls) (k := k) (load := load) (Y := Y) (Z := Z) (E2 := E2) (E3 := E3) hn h2 h3 hY hY0 hZ hZ0
  have ss := r_StateErr (s := ⟨b.ll, b.fh⟩)
  have rs := r_LoadsErr (l := ls) (by omega)
  simp only [b8k9, res8, ruI, ssI, sbI, spI, swI, scI, stI, srI, saI, snI, ↓reduceIte, reduceCtorEq, Nat.reduceEqDiff, Nat.reduceAdd, Nat.reduceMul, Nat.reduceSub, Nat.reduceLeDiff, Nat.reduceBEq, Int.reduceToNat, Int.reduceLE, Int.reduceLT, Int.reduceEq, Int.reduceNe, di0, di1, di2, di3, di4, di5, di6, di7, di8, di9, postX_ret, postX_normal, ex_some]
  refine calls_of hst ?_; simp only [res8, b8k8, b8k7, b8k6, ruI, ssI, sbI, spI, swI, scI, stI, srI, saI, snI, ↓reduceIte, reduceCtorEq, Nat.reduceEqDiff, Nat.reduceAdd, Nat.reduceMul, Nat.reduceSub, Nat.reduceLeDiff, Nat.reduceBEq, Int.reduceToNat, Int.reduceLE, Int.reduceLT, Int.reduceEq, Int.reduceNe, di0, di1, di2, di3, di4, di5, di6, di7, di8, di9, postX_ret, postX_normal, ex_some]
  refine calls_of r_RulesErr ?_; simp only [res8, b8k8, b8k7, b8k6, ruI, ssI, sbI, spI, swI, scI, stI, srI, saI, snI, ↓reduceIte, reduceCtorEq, Nat.reduceEqDiff, Nat.reduceAdd, Nat.reduceMul, Nat.reduceSub, Nat.reduceLeDiff, Nat.reduceBEq, Int.reduceToNat, Int.reduceLE, Int.reduceLT, Int.reduceEq, Int.reduceNe, di0, di1, di2, di3, di4, di5, di6, di7, di8, di9, postX_ret, postX_normal, ex_some]
  unfold runE at h1
  by_cases e1 : rulesErr r = 0
  case neg =>
    have a1 : E1 = rulesErr r := by rw [h1]; simp only [fstE, e1, ruI, ssI, sbI, spI, swI, scI, stI, srI, saI, snI, ↓reduceIte, reduceCtorEq, Nat.reduceEqDiff, Nat.reduceAdd, Nat.reduceMul, Nat.reduceSub, Nat.reduceLeDiff, Nat.reduceBEq, Int.reduceToNat, Int.reduceLE, Int.reduceLT, Int.reduceEq, Int.reduceNe, di0, di1, di2, di3, di4, di5, di6, di7, di8, di9, postX_ret, postX_normal, ex_some]
    rw [hX0 (by rw [a1]; exact e1), a1]
    simp only [e1, ruI, ssI, sbI, spI, swI, scI, stI, srI, saI, snI, ↓reduceIte, reduceCtorEq, Nat.reduceEqDiff, Nat.reduceAdd, Nat.reduceMul, Nat.reduceSub, Nat.reduceLeDiff, Nat.reduceBEq, Int.reduceToNat, Int.reduceLE, Int.reduceLT, Int.reduceEq, Int.reduceNe, di0, di1, di2, di3, di4, di5, di6, di7, di8, di9, postX_ret, postX_normal, ex_some]
    exact tl
  rw [e1] at h1 tl
  simp only [e1, ruI, ssI, sbI, spI, swI, scI, stI, srI, saI, snI, ↓reduceIte, reduceCtorEq, Nat.reduceEqDiff, Nat.reduceAdd, Nat.reduceMul, Nat.reduceSub, Nat.reduceLeDiff, Nat.reduceBEq, Int.reduceToNat, Int.reduceLE, Int.reduceLT, Int.reduceEq, Int.reduceNe, di0, di1, di2, di3, di4, di5, di6, di7, di8, di9, postX_ret, postX_normal, ex_some]
  refine calls_of ss ?_; simp only [res8, b8k8, b8k7, b8k6, ruI, ssI, sbI, spI, swI, scI, stI, srI, saI, snI, ↓reduceIte, reduceCtorEq, Nat.reduceEqDiff, Nat.reduceAdd, Nat.reduceMul, Nat.reduceSub, Nat.reduceLeDiff, Nat.reduceBEq, Int.reduceToNat, Int.reduceLE, Int.reduceLT, Int.reduceEq, Int.reduceNe, di0, di1, di2, di3, di4, di5, di6, di7, di8, di9, postX_ret, postX_normal, ex_some]
  by_cases e2 : stateErr ⟨b.ll, b.fh⟩ = 0
  case neg =>
    have a1 : E1 = stateErr ⟨b.ll, b.fh⟩ := by rw [h1]; simp only [fstE, e2, ruI, ssI, sbI, spI, swI, scI, stI, srI, saI, snI, ↓reduceIte, reduceCtorEq, Nat.reduceEqDiff, Nat.reduceAdd, Nat.reduceMul, Nat.reduceSub, Nat.reduceLeDiff, Nat.reduceBEq, Int.reduceToNat, Int.reduceLE, Int.reduceLT, Int.reduceEq, Int.reduceNe, di0, di1, di2, di3, di4, di5, di6, di7, di8, di9, postX_ret, postX_normal, ex_some]
    rw [hX0 (by rw [a1]; exact e2), a1]
    simp only [e2, ruI, ssI, sbI, spI, swI, scI, stI, srI, saI, snI, ↓reduceIte, reduceCtorEq, Nat.reduceEqDiff, Nat.reduceAdd, Nat.reduceMul, Nat.reduceSub, Nat.reduceLeDiff, Nat.reduceBEq, Int.reduceToNat, Int.reduceLE, Int.reduceLT, Int.reduceEq, Int.reduceNe, di0, di1, di2, di3, di4, di5, di6, di7, di8, di9, postX_ret, postX_normal, ex_some]
    exact tl
  rw [e2] at h1
  simp only [e2, ruI, ssI, sbI, spI, swI, scI, stI, srI, saI, snI, ↓reduceIte, reduceCtorEq, Nat.reduceEqDiff, Nat.reduceAdd, Nat.reduceMul, Nat.reduceSub, Nat.reduceLeDiff, Nat.reduceBEq, Int.reduceToNat, Int.reduceLE, Int.reduceLT, Int.reduceEq, Int.reduceNe, di0, di1, di2, di3, di4, di5, di6, di7, di8, di9, postX_ret, postX_normal, ex_some]
  refine calls_of rs ?_; simp only [res8, b8k8, b8k7, b8k6, ruI, ssI, sbI, spI, swI, scI, stI, srI, saI, snI, ↓reduceIte, reduceCtorEq, Nat.reduceEqDiff, Nat.reduceAdd, Nat.reduceMul, Nat.reduceSub, Nat.reduceLeDiff, Nat.reduceBEq, Int.reduceToNat, Int.reduceLE, Int.reduceLT, Int.reduceEq, Int.reduceNe, di0, di1, di2, di3, di4, di5, di6, di7, di8, di9, postX_ret, postX_normal, ex_some]
  by_cases e3 : loadsErr ls = 0
  case neg =>
    have a1 : E1 = loadsErr ls := by rw [h1]; simp only [fstE, e3, ruI, ssI, sbI, spI, swI, scI, stI, srI, saI, snI, ↓reduceIte, reduceCtorEq, Nat.reduceEqDiff, Nat.reduceAdd, Nat.reduceMul, Nat.reduceSub, Nat.reduceLeDiff, Nat.reduceBEq, Int.reduceToNat, Int.reduceLE, Int.reduceLT, Int.reduceEq, Int.reduceNe, di0, di1, di2, di3, di4, di5, di6, di7, di8, di9, postX_ret, postX_normal, ex_some]
    rw [hX0 (by rw [a1]; exact e3), a1]
    simp only [e3, ruI, ssI, sbI, spI, swI, scI, stI, srI, saI, snI, ↓reduceIte, reduceCtorEq, Nat.reduceEqDiff, Nat.reduceAdd, Nat.reduceMul, Nat.reduceSub, Nat.reduceLeDiff, Nat.reduceBEq, Int.reduceToNat, Int.reduceLE, Int.reduceLT, Int.reduceEq, Int.reduceNe, di0, di1, di2, di3, di4, di5, di6, di7, di8, di9, postX_ret, postX_normal, ex_some]
    exact tl
  have e3' := loadsErr_zero.1 e3
  rw [e3] at h1
  simp only [e3, ruI, ssI, sbI, spI, swI, scI, stI, srI, saI, snI, ↓reduceIte, reduceCtorEq, Nat.reduceEqDiff, Nat.reduceAdd, Nat.reduceMul, Nat.reduceSub, Nat.reduceLeDiff, Nat.reduceBEq, Int.reduceToNat, Int.reduceLE, Int.reduceLT, Int.reduceEq, Int.reduceNe, di0, di1, di2, di3, di4, di5, di6, di7, di8, di9, postX_ret, postX_normal, ex_some]
  refine calls_of (r_FrictionErr (r := r) (k := k)) ?_; simp only [res8, b8k8, b8k7, b8k6, ruI, ssI, sbI, spI, swI, scI, stI, srI, saI, snI, ↓reduceIte, reduceCtorEq, Nat.reduceEqDiff, Nat.reduceAdd, Nat.reduceMul, Nat.reduceSub, Nat.reduceLeDiff, Nat.reduceBEq, Int.reduceToNat, Int.reduceLE, Int.reduceLT, Int.reduceEq, Int.reduceNe, di0, di1, di2, di3, di4, di5, di6, di7, di8, di9, postX_ret, postX_normal, ex_some]
  by_cases e4 : fricErr r k = 0
  case neg =>
    have a1 : E1 = fricErr r k := by rw [h1]; simp only [fstE, e4, ruI, ssI, sbI, spI, swI, scI, stI, srI, saI, snI, ↓reduceIte, reduceCtorEq, Nat.reduceEqDiff, Nat.reduceAdd, Nat.reduceMul, Nat.reduceSub, Nat.reduceLeDiff, Nat.reduceBEq, Int.reduceToNat, Int.reduceLE, Int.reduceLT, Int.reduceEq, Int.reduceNe, di0, di1, di2, di3, di4, di5, di6, di7, di8, di9, postX_ret, postX_normal, ex_some]
    rw [hX0 (by rw [a1]; exact e4), a1]
    simp only [e4, ruI, ssI, sbI, spI, swI, scI, stI, srI, saI, snI, ↓reduceIte, reduceCtorEq, Nat.reduceEqDiff, Nat.reduceAdd, Nat.reduceMul, Nat.reduceSub, Nat.reduceLeDiff, Nat.reduceBEq, Int.reduceToNat, Int.reduceLE, Int.reduceLT, Int.reduceEq, Int.reduceNe, di0, di1, di2, di3, di4, di5, di6, di7, di8, di9, postX_ret, postX_normal, ex_some]
    exact tl
  rw [e4] at h1
  have a1 : E1 = 0 := by rw [h1]; rfl
  rw [hX a1, a1]
  have hg := rules_ok.1 e1
  have e2' := stateErr_zero.1 e2
  have e4' := fricErr_zero.1 e4
  have g1 := hg.lo; have g2 := hg.hi
  dsimp only at e2'
  have hrun := r_Run (r := r) (s := ⟨b.ll, b.fh⟩) (ls := ls) (k := k) hg (by dsimp only; omega) ⟨by omega, e3'.2⟩ (by omega)
  have hsame := r_SameStates (a := runL r k ⟨b.ll, b.fh⟩ ls) (b := runL r k ⟨b.ll, b.fh⟩ ls) (by rw [runL_length]; omega)
  simp only [e4, ruI, ssI, sbI, spI, swI, scI, stI, srI, saI, snI, ↓reduceIte, reduceCtorEq, Nat.reduceEqDiff, Nat.reduceAdd, Nat.reduceMul, Nat.reduceSub, Nat.reduceLeDiff, Nat.reduceBEq, Int.reduceToNat, Int.reduceLE, Int.reduceLT, Int.reduceEq, Int.reduceNe, di0, di1, di2, di3, di4, di5, di6, di7, di8, di9, postX_ret, postX_normal, ex_some]
  refine calls_of hrun ?_; simp only [res8, b8k8, b8k7, b8k6, ruI, ssI, sbI, spI, swI, scI, stI, srI, saI, snI, ↓reduceIte, reduceCtorEq, Nat.reduceEqDiff, Nat.reduceAdd, Nat.reduceMul, Nat.reduceSub, Nat.reduceLeDiff, Nat.reduceBEq, Int.reduceToNat, Int.reduceLE, Int.reduceLT, Int.reduceEq, Int.reduceNe, di0, di1, di2, di3, di4, di5, di6, di7, di8, di9, postX_ret, postX_normal, ex_some]
  refine calls_of hsame ?_; simp only [res8, b8k8, b8k7, b8k6, ruI, ssI, sbI, spI, swI, scI, stI, srI, saI, snI, ↓reduceIte, reduceCtorEq, Nat.reduceEqDiff, Nat.reduceAdd, Nat.reduceMul, Nat.reduceSub, Nat.reduceLeDiff, Nat.reduceBEq, Int.reduceToNat, Int.reduceLE, Int.reduceLT, Int.reduceEq, Int.reduceNe, di0, di1, di2, di3, di4, di5, di6, di7, di8, di9, postX_ret, postX_normal, ex_some]
  try simp only [decide_true, ruI, ssI, sbI, spI, swI, scI, stI, srI, saI, snI, ↓reduceIte, reduceCtorEq, Nat.reduceEqDiff, Nat.reduceAdd, Nat.reduceMul, Nat.reduceSub, Nat.reduceLeDiff, Nat.reduceBEq, Int.reduceToNat, Int.reduceLE, Int.reduceLT, Int.reduceEq, Int.reduceNe, di0, di1, di2, di3, di4, di5, di6, di7, di8, di9, postX_ret, postX_normal, ex_some]
  exact tl

theorem l_SurgeRuns {r : Ru} {b : Bx} {ls : List Int} {k : Int} : Contract Try.prog 8 [ruI r, sbI b, srI ls k] (.bool true) := by
  refine contract_run Try.func8 k8 rfl ?_
  simp only [body8, b8, res8, b8k11, ruI, ssI, sbI, spI, swI, scI, stI, srI, saI, snI, ↓reduceIte, reduceCtorEq, Nat.reduceEqDiff, Nat.reduceAdd, Nat.reduceMul, Nat.reduceSub, Nat.reduceLeDiff, Nat.reduceBEq, Int.reduceToNat, Int.reduceLE, Int.reduceLT, Int.reduceEq, Int.reduceNe, di0, di1, di2, di3, di4, di5, di6, di7, di8, di9, postX_ret, postX_normal, ex_some]
  refine calls_of s_awake ?_; simp only [res8, b8k11, ruI, ssI, sbI, spI, swI, scI, stI, srI, saI, snI, ↓reduceIte, reduceCtorEq, Nat.reduceEqDiff, Nat.reduceAdd, Nat.reduceMul, Nat.reduceSub, Nat.reduceLeDiff, Nat.reduceBEq, Int.reduceToNat, Int.reduceLE, Int.reduceLT, Int.reduceEq, Int.reduceNe, di0, di1, di2, di3, di4, di5, di6, di7, di8, di9, postX_ret, postX_normal, ex_some]
  refine calls_of l_short ?_; simp only [res8, b8k11, ruI, ssI, sbI, spI, swI, scI, stI, srI, saI, snI, ↓reduceIte, reduceCtorEq, Nat.reduceEqDiff, Nat.reduceAdd, Nat.reduceMul, Nat.reduceSub, Nat.reduceLeDiff, Nat.reduceBEq, Int.reduceToNat, Int.reduceLE, Int.reduceLT, Int.reduceEq, Int.reduceNe, di0, di1, di2, di3, di4, di5, di6, di7, di8, di9, postX_ret, postX_normal, ex_some]
  by_cases hs : shortL ls.length
  case neg => simp only [hs, ruI, ssI, sbI, spI, swI, scI, stI, srI, saI, snI, ↓reduceIte, reduceCtorEq, Nat.reduceEqDiff, Nat.reduceAdd, Nat.reduceMul, Nat.reduceSub, Nat.reduceLeDiff, Nat.reduceBEq, Int.reduceToNat, Int.reduceLE, Int.reduceLT, Int.reduceEq, Int.reduceNe, di0, di1, di2, di3, di4, di5, di6, di7, di8, di9, postX_ret, postX_normal, ex_some]
  have hn : ls.length ≤ 202 := by unfold shortL at hs; omega
  have hc := c_CopyInts (a := ls) (by omega)
  obtain ⟨X, E1, hR, h1, hX, hX0⟩ : ∃ X E1, Contract Try.prog 50 [ruI r, ssI ⟨b.ll, b.fh⟩, srI ls k] (.tup [.slc 2 (X.map ssI), .int .i64 E1]) ∧ E1 = runE r ⟨b.ll, b.fh⟩ ls k ∧ (E1 = 0 → X = runL r k ⟨b.ll, b.fh⟩ ls) ∧ (¬ E1 = 0 → X = []) := by
    have := s_RunOf (r := r) (s := ⟨b.ll, b.fh⟩) (ls := ls) (k := k) (by omega)
    by_cases h : runE r ⟨b.ll, b.fh⟩ ls k = 0
    · rw [if_pos h] at this; exact ⟨_, _, this, h.symm, fun _ => rfl, fun k => (k rfl).elim⟩
    · rw [if_neg h] at this; exact ⟨[], _, this, rfl, fun k => (h k).elim, fun _ => rfl⟩
  obtain ⟨Y, E2, hB, h2, hY, hY0⟩ : ∃ Y E2, Contract Try.prog 51 [ruI r, sbI b, snI ls] (.tup [.slc 4 (Y.map sbI), .int .i64 E2]) ∧ E2 = brunE r b ls ∧ (E2 = 0 → Y = brunL r b ls) ∧ (¬ E2 = 0 → Y = []) := by
    have := s_BoxRun (r := r) (b := b) (ls := ls) (by omega)
    by_cases h : brunE r b ls = 0
    · rw [if_pos h] at this; exact ⟨_, _, this, h.symm, fun _ => rfl, fun k => (k rfl).elim⟩
    · rw [if_neg h] at this; exact ⟨[], _, this, rfl, fun k => (h k).elim, fun _ => rfl⟩
  have md := fun load => mid_SurgeRuns (r := r) (b := b) (ls := ls) (k := k) (load := load) (X := X) (Y := Y) (E1 := E1) (E2 := E2) hn h1 h2 hX hX0 hY hY0
  simp only [hs, decide_true, res8, b8k10, ruI, ssI, sbI, spI, swI, scI, stI, srI, saI, snI, ↓reduceIte, reduceCtorEq, Nat.reduceEqDiff, Nat.reduceAdd, Nat.reduceMul, Nat.reduceSub, Nat.reduceLeDiff, Nat.reduceBEq, Int.reduceToNat, Int.reduceLE, Int.reduceLT, Int.reduceEq, Int.reduceNe, di0, di1, di2, di3, di4, di5, di6, di7, di8, di9, postX_ret, postX_normal, ex_some]
  refine calls_of hc ?_; simp only [res8, b8k10, ruI, ssI, sbI, spI, swI, scI, stI, srI, saI, snI, ↓reduceIte, reduceCtorEq, Nat.reduceEqDiff, Nat.reduceAdd, Nat.reduceMul, Nat.reduceSub, Nat.reduceLeDiff, Nat.reduceBEq, Int.reduceToNat, Int.reduceLE, Int.reduceLT, Int.reduceEq, Int.reduceNe, di0, di1, di2, di3, di4, di5, di6, di7, di8, di9, postX_ret, postX_normal, ex_some]
  refine calls_of hR ?_; simp only [res8, b8k10, ruI, ssI, sbI, spI, swI, scI, stI, srI, saI, snI, ↓reduceIte, reduceCtorEq, Nat.reduceEqDiff, Nat.reduceAdd, Nat.reduceMul, Nat.reduceSub, Nat.reduceLeDiff, Nat.reduceBEq, Int.reduceToNat, Int.reduceLE, Int.reduceLT, Int.reduceEq, Int.reduceNe, di0, di1, di2, di3, di4, di5, di6, di7, di8, di9, postX_ret, postX_normal, ex_some]
  refine calls_of hc ?_; simp only [res8, b8k10, ruI, ssI, sbI, spI, swI, scI, stI, srI, saI, snI, ↓reduceIte, reduceCtorEq, Nat.reduceEqDiff, Nat.reduceAdd, Nat.reduceMul, Nat.reduceSub, Nat.reduceLeDiff, Nat.reduceBEq, Int.reduceToNat, Int.reduceLE, Int.reduceLT, Int.reduceEq, Int.reduceNe, di0, di1, di2, di3, di4, di5, di6, di7, di8, di9, postX_ret, postX_normal, ex_some]
  refine calls_of hB ?_; simp only [res8, b8k10, ruI, ssI, sbI, spI, swI, scI, stI, srI, saI, snI, ↓reduceIte, reduceCtorEq, Nat.reduceEqDiff, Nat.reduceAdd, Nat.reduceMul, Nat.reduceSub, Nat.reduceLeDiff, Nat.reduceBEq, Int.reduceToNat, Int.reduceLE, Int.reduceLT, Int.reduceEq, Int.reduceNe, di0, di1, di2, di3, di4, di5, di6, di7, di8, di9, postX_ret, postX_normal, ex_some]
  split
  · rename_i h
    repeat (refine And.intro (by omega) ?_)
    exact md _
  · exact md 0
end Go.DI

