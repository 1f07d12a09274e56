/- The statement SurgeGap, as a contract. No condition. -/
import Derived.Test.YtdpfjbghiahbeaaKhGq
set_option linter.unusedSimpArgs false
set_option maxRecDepth 20000
namespace Go.DI
open Go.Proofs Go.RowKit Sg

def clC (ss : List Sta) (w : Wt) (bs : List Bx) : List DV := [.imm (.slc 2 (ss.map ssI)), .imm (snI w.ord), .imm (.int .i64 w.st.L), .imm (.int .i64 w.st.F), .imm (.int .i64 w.k), .imm (.int .i64 w.lev), .imm (.slc 4 (bs.map sbI))]
theorem sta_eq {a b : Sta} : (a.L = b.L ∧ a.F = b.F) ↔ a = b := by
  constructor
  · intro h; cases a; cases b; simpa using h
  · intro h; rw [h]; exact ⟨rfl, rfl⟩

theorem sta_dec {a b : Sta} : (decide (a.L = b.L) && decide (a.F = b.F)) = decide (a = b) := by
  rw [Bool.eq_iff_iff, Bool.and_eq_true, decide_eq_true_eq, decide_eq_true_eq, decide_eq_true_eq]
  exact sta_eq

theorem ga3_SurgeGap {ss : List Sta} {x w g : Wt} {bs : List Bx} {b1 b2 : Int} (hn : bs.length ≤ 66) (hG : ∀ b ∈ bs, InB b g.st → b1 ≤ g.lev ∧ g.lev ≤ b2) (hW : ∀ b ∈ bs, InB b w.st → b1 ≤ w.lev ∧ w.lev ≤ b2) :
    run Try.prog b9k6 [] (d9.post (.bool true)) (mkS [(5, .ref 5 0), (7, .ref 7 0), (9, .ref 9 0), (15, .ref 15 0)]
      [(5, .box (clC ss x bs)), (7, .box (wCells w)), (9, .box [.imm (.int .i64 b1), .imm (.int .i64 b2)]), (15, .box (wCells g))]) := by
  simp only [b9k6, res9, b9k5, clC, wCells, ruI, ssI, sbI, spI, swI, scI, stI, srI, saI, snI, ↓reduceIte, reduceCtorEq, Nat.reduceEqDiff, Nat.reduceAdd, Nat.reduceMul, Nat.reduceSub, Nat.reduceLeDiff, Nat.reduceBEq, Int.reduceToNat, Int.reduceLE, Int.reduceLT, Int.reduceEq, Int.reduceNe, di0, di1, di2, di3, di4, di5, di6, di7, di8, di9, postX_ret, postX_normal, ex_some]
  refine loop_keep (α := Nat) rfl (fun i => bs.length - i) (fun i => i ≤ bs.length)
    (fun i => [(5, .ref 5 0), (7, .ref 7 0), (9, .ref 9 0), (15, .ref 15 0), (17, .imm (.int .i64 i))])
    (fun _ => [(5, .box (clC ss x bs)), (7, .box (wCells w)), (9, .box [.imm (.int .i64 b1), .imm (.int .i64 b2)]), (15, .box (wCells g))]) 0 (Nat.zero_le _) (by simp only [clC, wCells, ruI, ssI, sbI, spI, swI, scI, stI, srI, saI, snI, ↓reduceIte, reduceCtorEq, Nat.reduceEqDiff, Nat.reduceAdd, Nat.reduceMul, Nat.reduceSub, Nat.reduceLeDiff, Nat.reduceBEq, Int.reduceToNat, Int.reduceLE, Int.reduceLT, Int.reduceEq, Int.reduceNe, di0, di1, di2, di3, di4, di5, di6, di7, di8, di9, postX_ret, postX_normal, ex_some] <;> rfl) ?_
  intro i hi ih
  simp only [res9, b9k0, b9k1, b9k2, b9k3, b9k4, b9k5, b9k6, b9k7, b9k8, b9k9, b9k10, b9k11, b9k12, b9k13, clC, wCells, ruI, ssI, sbI, spI, swI, scI, stI, srI, saI, snI, ↓reduceIte, reduceCtorEq, Nat.reduceEqDiff, Nat.reduceAdd, Nat.reduceMul, Nat.reduceSub, Nat.reduceLeDiff, Nat.reduceBEq, Int.reduceToNat, Int.reduceLE, Int.reduceLT, Int.reduceEq, Int.reduceNe, di0, di1, di2, di3, di4, di5, di6, di7, di8, di9, postX_ret, postX_normal, ex_some]
  split
  case isFalse h => trivial
  rename_i h
  have hlt : i < bs.length := by omega
  have hm : bs.getD i default ∈ bs := by rw [List.getD_eq_getElem?_getD]; simp [hlt]
  have r1 := r_In (b := bs.getD i default) (s := g.st)
  have r2 := r_In (b := bs.getD i default) (s := w.st)
  have g1 := hG _ hm
  have g2 := hW _ hm
  repeat (refine And.intro (by omega) ?_)
  refine calls_of r1 ?_; simp only [ruI, ssI, sbI, spI, swI, scI, stI, srI, saI, snI, res9, b9k0, b9k1, b9k2, b9k3, b9k4, b9k5, b9k6, b9k7, b9k8, b9k9, b9k10, b9k11, b9k12, b9k13, ↓reduceIte, reduceCtorEq, Nat.reduceEqDiff, Nat.reduceAdd, Nat.reduceMul, Nat.reduceSub, Nat.reduceLeDiff, Nat.reduceBEq, Int.reduceToNat, Int.reduceLE, Int.reduceLT, Int.reduceEq, Int.reduceNe, di0, di1, di2, di3, di4, di5, di6, di7, di8, di9, postX_ret, postX_normal, ex_some]
  by_cases k1 : InB (bs.getD i default) g.st
  · simp only [k1, ruI, ssI, sbI, spI, swI, scI, stI, srI, saI, snI, ↓reduceIte, reduceCtorEq, Nat.reduceEqDiff, Nat.reduceAdd, Nat.reduceMul, Nat.reduceSub, Nat.reduceLeDiff, Nat.reduceBEq, Int.reduceToNat, Int.reduceLE, Int.reduceLT, Int.reduceEq, Int.reduceNe, di0, di1, di2, di3, di4, di5, di6, di7, di8, di9, postX_ret, postX_normal, ex_some]
    refine calls_of c_Wi ?_; simp only [ruI, ssI, sbI, spI, swI, scI, stI, srI, saI, snI, res9, b9k0, b9k1, b9k2, b9k3, b9k4, b9k5, b9k6, b9k7, b9k8, b9k9, b9k10, b9k11, b9k12, b9k13, ↓reduceIte, reduceCtorEq, Nat.reduceEqDiff, Nat.reduceAdd, Nat.reduceMul, Nat.reduceSub, Nat.reduceLeDiff, Nat.reduceBEq, Int.reduceToNat, Int.reduceLE, Int.reduceLT, Int.reduceEq, Int.reduceNe, di0, di1, di2, di3, di4, di5, di6, di7, di8, di9, postX_ret, postX_normal, ex_some]
    rw [if_pos (show Wi g.lev b1 b2 from g1 k1)]
    repeat (refine And.intro (by omega) ?_)
    refine calls_of r2 ?_; simp only [ruI, ssI, sbI, spI, swI, scI, stI, srI, saI, snI, res9, b9k0, b9k1, b9k2, b9k3, b9k4, b9k5, b9k6, b9k7, b9k8, b9k9, b9k10, b9k11, b9k12, b9k13, ↓reduceIte, reduceCtorEq, Nat.reduceEqDiff, Nat.reduceAdd, Nat.reduceMul, Nat.reduceSub, Nat.reduceLeDiff, Nat.reduceBEq, Int.reduceToNat, Int.reduceLE, Int.reduceLT, Int.reduceEq, Int.reduceNe, di0, di1, di2, di3, di4, di5, di6, di7, di8, di9, postX_ret, postX_normal, ex_some]
    by_cases k2 : InB (bs.getD i default) w.st
    · simp only [k2, ruI, ssI, sbI, spI, swI, scI, stI, srI, saI, snI, ↓reduceIte, reduceCtorEq, Nat.reduceEqDiff, Nat.reduceAdd, Nat.reduceMul, Nat.reduceSub, Nat.reduceLeDiff, Nat.reduceBEq, Int.reduceToNat, Int.reduceLE, Int.reduceLT, Int.reduceEq, Int.reduceNe, di0, di1, di2, di3, di4, di5, di6, di7, di8, di9, postX_ret, postX_normal, ex_some]
      refine calls_of c_Wi ?_; simp only [ruI, ssI, sbI, spI, swI, scI, stI, srI, saI, snI, res9, b9k0, b9k1, b9k2, b9k3, b9k4, b9k5, b9k6, b9k7, b9k8, b9k9, b9k10, b9k11, b9k12, b9k13, ↓reduceIte, reduceCtorEq, Nat.reduceEqDiff, Nat.reduceAdd, Nat.reduceMul, Nat.reduceSub, Nat.reduceLeDiff, Nat.reduceBEq, Int.reduceToNat, Int.reduceLE, Int.reduceLT, Int.reduceEq, Int.reduceNe, di0, di1, di2, di3, di4, di5, di6, di7, di8, di9, postX_ret, postX_normal, ex_some]
      rw [if_pos (show Wi w.lev b1 b2 from g2 k2)]
      simp only [show IntKind.wrap .i64 ((i : Int) + 1) = (i : Int) + 1 from wrap64 (by omega) (by omega)]
      exact ih (i + 1) _ _ (by omega) (by omega) (by simp only [clC, wCells, ruI, ssI, sbI, spI, swI, scI, stI, srI, saI, snI, ↓reduceIte, reduceCtorEq, Nat.reduceEqDiff, Nat.reduceAdd, Nat.reduceMul, Nat.reduceSub, Nat.reduceLeDiff, Nat.reduceBEq, Int.reduceToNat, Int.reduceLE, Int.reduceLT, Int.reduceEq, Int.reduceNe, di0, di1, di2, di3, di4, di5, di6, di7, di8, di9, postX_ret, postX_normal, ex_some] <;> rfl)
    · simp only [k2, ruI, ssI, sbI, spI, swI, scI, stI, srI, saI, snI, ↓reduceIte, reduceCtorEq, Nat.reduceEqDiff, Nat.reduceAdd, Nat.reduceMul, Nat.reduceSub, Nat.reduceLeDiff, Nat.reduceBEq, Int.reduceToNat, Int.reduceLE, Int.reduceLT, Int.reduceEq, Int.reduceNe, di0, di1, di2, di3, di4, di5, di6, di7, di8, di9, postX_ret, postX_normal, ex_some]
      simp only [show IntKind.wrap .i64 ((i : Int) + 1) = (i : Int) + 1 from wrap64 (by omega) (by omega)]
      exact ih (i + 1) _ _ (by omega) (by omega) (by simp only [clC, wCells, ruI, ssI, sbI, spI, swI, scI, stI, srI, saI, snI, ↓reduceIte, reduceCtorEq, Nat.reduceEqDiff, Nat.reduceAdd, Nat.reduceMul, Nat.reduceSub, Nat.reduceLeDiff, Nat.reduceBEq, Int.reduceToNat, Int.reduceLE, Int.reduceLT, Int.reduceEq, Int.reduceNe, di0, di1, di2, di3, di4, di5, di6, di7, di8, di9, postX_ret, postX_normal, ex_some] <;> rfl)
  · simp only [k1, ruI, ssI, sbI, spI, swI, scI, stI, srI, saI, snI, ↓reduceIte, reduceCtorEq, Nat.reduceEqDiff, Nat.reduceAdd, Nat.reduceMul, Nat.reduceSub, Nat.reduceLeDiff, Nat.reduceBEq, Int.reduceToNat, Int.reduceLE, Int.reduceLT, Int.reduceEq, Int.reduceNe, di0, di1, di2, di3, di4, di5, di6, di7, di8, di9, postX_ret, postX_normal, ex_some]
    repeat (refine And.intro (by omega) ?_)
    refine calls_of r2 ?_; simp only [ruI, ssI, sbI, spI, swI, scI, stI, srI, saI, snI, res9, b9k0, b9k1, b9k2, b9k3, b9k4, b9k5, b9k6, b9k7, b9k8, b9k9, b9k10, b9k11, b9k12, b9k13, ↓reduceIte, reduceCtorEq, Nat.reduceEqDiff, Nat.reduceAdd, Nat.reduceMul, Nat.reduceSub, Nat.reduceLeDiff, Nat.reduceBEq, Int.reduceToNat, Int.reduceLE, Int.reduceLT, Int.reduceEq, Int.reduceNe, di0, di1, di2, di3, di4, di5, di6, di7, di8, di9, postX_ret, postX_normal, ex_some]
    by_cases k2 : InB (bs.getD i default) w.st
    · simp only [k2, ruI, ssI, sbI, spI, swI, scI, stI, srI, saI, snI, ↓reduceIte, reduceCtorEq, Nat.reduceEqDiff, Nat.reduceAdd, Nat.reduceMul, Nat.reduceSub, Nat.reduceLeDiff, Nat.reduceBEq, Int.reduceToNat, Int.reduceLE, Int.reduceLT, Int.reduceEq, Int.reduceNe, di0, di1, di2, di3, di4, di5, di6, di7, di8, di9, postX_ret, postX_normal, ex_some]
      refine calls_of c_Wi ?_; simp only [ruI, ssI, sbI, spI, swI, scI, stI, srI, saI, snI, res9, b9k0, b9k1, b9k2, b9k3, b9k4, b9k5, b9k6, b9k7, b9k8, b9k9, b9k10, b9k11, b9k12, b9k13, ↓reduceIte, reduceCtorEq, Nat.reduceEqDiff, Nat.reduceAdd, Nat.reduceMul, Nat.reduceSub, Nat.reduceLeDiff, Nat.reduceBEq, Int.reduceToNat, Int.reduceLE, Int.reduceLT, Int.reduceEq, Int.reduceNe, di0, di1, di2, di3, di4, di5, di6, di7, di8, di9, postX_ret, postX_normal, ex_some]
      rw [if_pos (show Wi w.lev b1 b2 from g2 k2)]
      simp only [show IntKind.wrap .i64 ((i : Int) + 1) = (i : Int) + 1 from wrap64 (by omega) (by omega)]
      exact ih (i + 1) _ _ (by omega) (by omega) (by simp only [clC, wCells, ruI, ssI, sbI, spI, swI, scI, stI, srI, saI, snI, ↓reduceIte, reduceCtorEq, Nat.reduceEqDiff, Nat.reduceAdd, Nat.reduceMul, Nat.reduceSub, Nat.reduceLeDiff, Nat.reduceBEq, Int.reduceToNat, Int.reduceLE, Int.reduceLT, Int.reduceEq, Int.reduceNe, di0, di1, di2, di3, di4, di5, di6, di7, di8, di9, postX_ret, postX_normal, ex_some] <;> rfl)
    · simp only [k2, ruI, ssI, sbI, spI, swI, scI, stI, srI, saI, snI, ↓reduceIte, reduceCtorEq, Nat.reduceEqDiff, Nat.reduceAdd, Nat.reduceMul, Nat.reduceSub, Nat.reduceLeDiff, Nat.reduceBEq, Int.reduceToNat, Int.reduceLE, Int.reduceLT, Int.reduceEq, Int.reduceNe, di0, di1, di2, di3, di4, di5, di6, di7, di8, di9, postX_ret, postX_normal, ex_some]
      simp only [show IntKind.wrap .i64 ((i : Int) + 1) = (i : Int) + 1 from wrap64 (by omega) (by omega)]
      exact ih (i + 1) _ _ (by omega) (by omega) (by simp only [clC, wCells, ruI, ssI, sbI, spI, swI, scI, stI, srI, saI, snI, ↓reduceIte, reduceCtorEq, Nat.reduceEqDiff, Nat.reduceAdd, Nat.reduceMul, Nat.reduceSub, Nat.reduceLeDiff, Nat.reduceBEq, Int.reduceToNat, Int.reduceLE, Int.reduceLT, Int.reduceEq, Int.reduceNe, di0, di1, di2, di3, di4, di5, di6, di7, di8, di9, postX_ret, postX_normal, ex_some] <;> rfl)

theorem ga2_SurgeGap {r : Ru} {ss : List Sta} {x w g : Wt} {bs : List Bx} {b1 b2 : Int} (hs : ss.length ≤ 42) (hn : bs.length ≤ 66) (hG : ∀ b ∈ bs, InB b g.st → b1 ≤ g.lev ∧ g.lev ≤ b2) (hW : ∀ b ∈ bs, InB b w.st → b1 ≤ w.lev ∧ w.lev ≤ b2)
    (hS : ∀ s ∈ ss, g.st = s → (g.k = r.lo ∨ g.k = r.hi) → g.lev ≤ w.lev) :
    run Try.prog b9k7 [] (d9.post (.bool true)) (mkS [(3, .ref 3 0), (5, .ref 5 0), (7, .ref 7 0), (9, .ref 9 0), (15, .ref 15 0)]
      [(3, .box (ruC r)), (5, .box (clC ss x bs)), (7, .box (wCells w)), (9, .box [.imm (.int .i64 b1), .imm (.int .i64 b2)]), (15, .box (wCells g))]) := by
  have go := ga3_SurgeGap (ss := ss) (x := x) hn hG hW
  simp only [clC, wCells] at go
  simp only [b9k7, res9, ruC, clC, wCells, ruI, ssI, sbI, spI, swI, scI, stI, srI, saI, snI, ↓reduceIte, reduceCtorEq, Nat.reduceEqDiff, Nat.reduceAdd, Nat.reduceMul, Nat.reduceSub, Nat.reduceLeDiff, Nat.reduceBEq, Int.reduceToNat, Int.reduceLE, Int.reduceLT, Int.reduceEq, Int.reduceNe, di0, di1, di2, di3, di4, di5, di6, di7, di8, di9, postX_ret, postX_normal, ex_some]
  refine loop_keep (α := Nat) rfl (fun i => ss.length - i) (fun i => i ≤ ss.length)
    (fun i => [(3, .ref 3 0), (5, .ref 5 0), (7, .ref 7 0), (9, .ref 9 0), (15, .ref 15 0), (16, .imm (.int .i64 i))])
    (fun _ => [(3, .box (ruC r)), (5, .box (clC ss x bs)), (7, .box (wCells w)), (9, .box [.imm (.int .i64 b1), .imm (.int .i64 b2)]), (15, .box (wCells g))]) 0 (Nat.zero_le _) (by simp only [ruC, clC, wCells, ruI, ssI, sbI, spI, swI, scI, stI, srI, saI, snI, ↓reduceIte, reduceCtorEq, Nat.reduceEqDiff, Nat.reduceAdd, Nat.reduceMul, Nat.reduceSub, Nat.reduceLeDiff, Nat.reduceBEq, Int.reduceToNat, Int.reduceLE, Int.reduceLT, Int.reduceEq, Int.reduceNe, di0, di1, di2, di3, di4, di5, di6, di7, di8, di9, postX_ret, postX_normal, ex_some] <;> rfl) ?_
  intro i hi ih
  simp only [res9, b9k1, b9k2, ruC, clC, wCells, ruI, ssI, sbI, spI, swI, scI, stI, srI, saI, snI, ↓reduceIte, reduceCtorEq, Nat.reduceEqDiff, Nat.reduceAdd, Nat.reduceMul, Nat.reduceSub, Nat.reduceLeDiff, Nat.reduceBEq, Int.reduceToNat, Int.reduceLE, Int.reduceLT, Int.reduceEq, Int.reduceNe, di0, di1, di2, di3, di4, di5, di6, di7, di8, di9, postX_ret, postX_normal, ex_some]
  split
  case isFalse h => exact go
  rename_i h
  have hlt : i < ss.length := by omega
  have hm : ss.getD i default ∈ ss := by rw [List.getD_eq_getElem?_getD]; simp [hlt]
  have g1 := hS _ hm
  repeat (refine And.intro (by omega) ?_)
  generalize ss.getD i default = s at g1
  simp only [sta_eq]
  by_cases k1 : g.st = s
  case neg =>
    simp only [k1, ruI, ssI, sbI, spI, swI, scI, stI, srI, saI, snI, ↓reduceIte, reduceCtorEq, Nat.reduceEqDiff, Nat.reduceAdd, Nat.reduceMul, Nat.reduceSub, Nat.reduceLeDiff, Nat.reduceBEq, Int.reduceToNat, Int.reduceLE, Int.reduceLT, Int.reduceEq, Int.reduceNe, di0, di1, di2, di3, di4, di5, di6, di7, di8, di9, postX_ret, postX_normal, ex_some]
    simp only [show IntKind.wrap .i64 ((i : Int) + 1) = (i : Int) + 1 from wrap64 (by omega) (by omega)]
    exact ih (i + 1) _ _ (by omega) (by omega) (by simp only [ruC, clC, wCells, ruI, ssI, sbI, spI, swI, scI, stI, srI, saI, snI, ↓reduceIte, reduceCtorEq, Nat.reduceEqDiff, Nat.reduceAdd, Nat.reduceMul, Nat.reduceSub, Nat.reduceLeDiff, Nat.reduceBEq, Int.reduceToNat, Int.reduceLE, Int.reduceLT, Int.reduceEq, Int.reduceNe, di0, di1, di2, di3, di4, di5, di6, di7, di8, di9, postX_ret, postX_normal, ex_some] <;> rfl)
  simp only [eq_true k1, ruI, ssI, sbI, spI, swI, scI, stI, srI, saI, snI, ↓reduceIte, reduceCtorEq, Nat.reduceEqDiff, Nat.reduceAdd, Nat.reduceMul, Nat.reduceSub, Nat.reduceLeDiff, Nat.reduceBEq, Int.reduceToNat, Int.reduceLE, Int.reduceLT, Int.reduceEq, Int.reduceNe, di0, di1, di2, di3, di4, di5, di6, di7, di8, di9, postX_ret, postX_normal, ex_some]
  have g2 := g1 k1
  by_cases k2 : g.k = r.lo
  · have := g2 (.inl k2)
    simp only [eq_true k2, ruI, ssI, sbI, spI, swI, scI, stI, srI, saI, snI, ↓reduceIte, reduceCtorEq, Nat.reduceEqDiff, Nat.reduceAdd, Nat.reduceMul, Nat.reduceSub, Nat.reduceLeDiff, Nat.reduceBEq, Int.reduceToNat, Int.reduceLE, Int.reduceLT, Int.reduceEq, Int.reduceNe, di0, di1, di2, di3, di4, di5, di6, di7, di8, di9, postX_ret, postX_normal, ex_some]
    rw [if_neg (show ¬ w.lev < g.lev by omega)]
    simp only [show IntKind.wrap .i64 ((i : Int) + 1) = (i : Int) + 1 from wrap64 (by omega) (by omega)]
    exact ih (i + 1) _ _ (by omega) (by omega) (by simp only [ruC, clC, wCells, ruI, ssI, sbI, spI, swI, scI, stI, srI, saI, snI, ↓reduceIte, reduceCtorEq, Nat.reduceEqDiff, Nat.reduceAdd, Nat.reduceMul, Nat.reduceSub, Nat.reduceLeDiff, Nat.reduceBEq, Int.reduceToNat, Int.reduceLE, Int.reduceLT, Int.reduceEq, Int.reduceNe, di0, di1, di2, di3, di4, di5, di6, di7, di8, di9, postX_ret, postX_normal, ex_some] <;> rfl)
  simp only [k2, ruI, ssI, sbI, spI, swI, scI, stI, srI, saI, snI, ↓reduceIte, reduceCtorEq, Nat.reduceEqDiff, Nat.reduceAdd, Nat.reduceMul, Nat.reduceSub, Nat.reduceLeDiff, Nat.reduceBEq, Int.reduceToNat, Int.reduceLE, Int.reduceLT, Int.reduceEq, Int.reduceNe, di0, di1, di2, di3, di4, di5, di6, di7, di8, di9, postX_ret, postX_normal, ex_some]
  by_cases k3 : g.k = r.hi
  · have := g2 (.inr k3)
    simp only [eq_true k3, ruI, ssI, sbI, spI, swI, scI, stI, srI, saI, snI, ↓reduceIte, reduceCtorEq, Nat.reduceEqDiff, Nat.reduceAdd, Nat.reduceMul, Nat.reduceSub, Nat.reduceLeDiff, Nat.reduceBEq, Int.reduceToNat, Int.reduceLE, Int.reduceLT, Int.reduceEq, Int.reduceNe, di0, di1, di2, di3, di4, di5, di6, di7, di8, di9, postX_ret, postX_normal, ex_some]
    rw [if_neg (show ¬ w.lev < g.lev by omega)]
    simp only [show IntKind.wrap .i64 ((i : Int) + 1) = (i : Int) + 1 from wrap64 (by omega) (by omega)]
    exact ih (i + 1) _ _ (by omega) (by omega) (by simp only [ruC, clC, wCells, ruI, ssI, sbI, spI, swI, scI, stI, srI, saI, snI, ↓reduceIte, reduceCtorEq, Nat.reduceEqDiff, Nat.reduceAdd, Nat.reduceMul, Nat.reduceSub, Nat.reduceLeDiff, Nat.reduceBEq, Int.reduceToNat, Int.reduceLE, Int.reduceLT, Int.reduceEq, Int.reduceNe, di0, di1, di2, di3, di4, di5, di6, di7, di8, di9, postX_ret, postX_normal, ex_some] <;> rfl)
  simp only [k3, ruI, ssI, sbI, spI, swI, scI, stI, srI, saI, snI, ↓reduceIte, reduceCtorEq, Nat.reduceEqDiff, Nat.reduceAdd, Nat.reduceMul, Nat.reduceSub, Nat.reduceLeDiff, Nat.reduceBEq, Int.reduceToNat, Int.reduceLE, Int.reduceLT, Int.reduceEq, Int.reduceNe, di0, di1, di2, di3, di4, di5, di6, di7, di8, di9, postX_ret, postX_normal, ex_some]
  simp only [show IntKind.wrap .i64 ((i : Int) + 1) = (i : Int) + 1 from wrap64 (by omega) (by omega)]
  exact ih (i + 1) _ _ (by omega) (by omega) (by simp only [ruC, clC, wCells, ruI, ssI, sbI, spI, swI, scI, stI, srI, saI, snI, ↓reduceIte, reduceCtorEq, Nat.reduceEqDiff, Nat.reduceAdd, Nat.reduceMul, Nat.reduceSub, Nat.reduceLeDiff, Nat.reduceBEq, Int.reduceToNat, Int.reduceLE, Int.reduceLT, Int.reduceEq, Int.reduceNe, di0, di1, di2, di3, di4, di5, di6, di7, di8, di9, postX_ret, postX_normal, ex_some] <;> rfl)

theorem ga1_SurgeGap {r : Ru} {p : Pl} {ss : List Sta} {x w : Wt} {bs : List Bx} (hr : Sg.Good r) (hp : PlanOk p) (hs : ss.length ≤ 42) (hn : bs.length ≤ 66) (hx : x.ord.length ≤ 10) (hb : ∀ b ∈ bs, boxErr b = 0) (hw : worstP r p ss = some w) (hcw : chkW r p w = 0) :
    run Try.prog b9k8 [] (d9.post (.bool true)) (mkS [(3, .ref 3 0), (4, .ref 4 0), (5, .ref 5 0), (7, .ref 7 0), (9, .ref 9 0)]
      [(3, .box (ruC r)), (4, .box (spC p)), (5, .box (clC ss x bs)), (7, .box (wCells w)), (9, .box [.imm (.int .i64 (boundP r p bs).2.1), .imm (.int .i64 (boundP r p bs).2.2)])]) := by
  have hpl := hp.len
  obtain ⟨-, hbest⟩ := worstP_best hw
  have inbd : ∀ g : Wt, chkW r p g = 0 → ∀ b ∈ bs, InB b g.st → (boundP r p bs).2.1 ≤ g.lev ∧ g.lev ≤ (boundP r p bs).2.2 := by
    intro g hg b hbm hin
    obtain ⟨-, h1, h2, h3, h4⟩ := chkW_zero.1 hg
    rw [← h4]
    exact high_bound hr hp (orders_iff.2 h1) h3 hbm (hb b hbm) hin
  have most : ∀ g : Wt, chkW r p g = 0 → ∀ s ∈ ss, g.st = s → (g.k = r.lo ∨ g.k = r.hi) → g.lev ≤ w.lev := by
    intro g hg s hsm e hk
    obtain ⟨-, h1, h2, h3, h4⟩ := chkW_zero.1 hg
    rw [← h4, e]
    exact hbest _ (orders_iff.2 h1) s hsm _ hk
  have cp := r_CopyPlan (p := p) (by omega)
  have cx := r_CopyWitness (w := x) (by omega)
  have hwl : w.ord.length ≤ 1000 := by
    obtain ⟨-, h1, -⟩ := chkW_zero.1 hcw
    have := (orderE_zero h1).1
    omega
  have cw := r_CopyWitness (w := w) (by omega)
  have ck := s_CheckWitness (r := r) (p := p) (w := x) (by omega)
  have gx : chkW r p x = 0 → _ := fun h => ga2_SurgeGap (r := r) (ss := ss) (x := x) (w := w) (g := x) hs hn (inbd x h) (inbd w hcw) (most x h)
  have gw := ga2_SurgeGap (r := r) (ss := ss) (x := x) (w := w) (g := w) hs hn (inbd w hcw) (inbd w hcw) (most w hcw)
  simp only [ruC, clC, wCells] at gx gw
  simp only [b9k8, res9, ruC, spC, clC, wCells, ruI, ssI, sbI, spI, swI, scI, stI, srI, saI, snI, ↓reduceIte, reduceCtorEq, Nat.reduceEqDiff, Nat.reduceAdd, Nat.reduceMul, Nat.reduceSub, Nat.reduceLeDiff, Nat.reduceBEq, Int.reduceToNat, Int.reduceLE, Int.reduceLT, Int.reduceEq, Int.reduceNe, di0, di1, di2, di3, di4, di5, di6, di7, di8, di9, postX_ret, postX_normal, ex_some]
  refine calls_of cp ?_; simp only [ruI, ssI, sbI, spI, swI, scI, stI, srI, saI, snI, res9, b9k8, b9k9, b9k10, b9k11, b9k12, b9k13, ↓reduceIte, reduceCtorEq, Nat.reduceEqDiff, Nat.reduceAdd, Nat.reduceMul, Nat.reduceSub, Nat.reduceLeDiff, Nat.reduceBEq, Int.reduceToNat, Int.reduceLE, Int.reduceLT, Int.reduceEq, Int.reduceNe, di0, di1, di2, di3, di4, di5, di6, di7, di8, di9, postX_ret, postX_normal, ex_some]
  refine calls_of cx ?_; simp only [ruI, ssI, sbI, spI, swI, scI, stI, srI, saI, snI, res9, b9k8, b9k9, b9k10, b9k11, b9k12, b9k13, ↓reduceIte, reduceCtorEq, Nat.reduceEqDiff, Nat.reduceAdd, Nat.reduceMul, Nat.reduceSub, Nat.reduceLeDiff, Nat.reduceBEq, Int.reduceToNat, Int.reduceLE, Int.reduceLT, Int.reduceEq, Int.reduceNe, di0, di1, di2, di3, di4, di5, di6, di7, di8, di9, postX_ret, postX_normal, ex_some]
  refine calls_of ck ?_; simp only [ruI, ssI, sbI, spI, swI, scI, stI, srI, saI, snI, res9, b9k8, b9k9, b9k10, b9k11, b9k12, b9k13, ↓reduceIte, reduceCtorEq, Nat.reduceEqDiff, Nat.reduceAdd, Nat.reduceMul, Nat.reduceSub, Nat.reduceLeDiff, Nat.reduceBEq, Int.reduceToNat, Int.reduceLE, Int.reduceLT, Int.reduceEq, Int.reduceNe, di0, di1, di2, di3, di4, di5, di6, di7, di8, di9, postX_ret, postX_normal, ex_some]
  by_cases h : chkW r p x = 0
  · simp only [h, ruI, ssI, sbI, spI, swI, scI, stI, srI, saI, snI, ↓reduceIte, reduceCtorEq, Nat.reduceEqDiff, Nat.reduceAdd, Nat.reduceMul, Nat.reduceSub, Nat.reduceLeDiff, Nat.reduceBEq, Int.reduceToNat, Int.reduceLE, Int.reduceLT, Int.reduceEq, Int.reduceNe, di0, di1, di2, di3, di4, di5, di6, di7, di8, di9, postX_ret, postX_normal, ex_some]
    exact gx h
  · simp only [h, ruI, ssI, sbI, spI, swI, scI, stI, srI, saI, snI, ↓reduceIte, reduceCtorEq, Nat.reduceEqDiff, Nat.reduceAdd, Nat.reduceMul, Nat.reduceSub, Nat.reduceLeDiff, Nat.reduceBEq, Int.reduceToNat, Int.reduceLE, Int.reduceLT, Int.reduceEq, Int.reduceNe, di0, di1, di2, di3, di4, di5, di6, di7, di8, di9, postX_ret, postX_normal, ex_some]
    refine calls_of cw ?_; simp only [ruI, ssI, sbI, spI, swI, scI, stI, srI, saI, snI, res9, b9k8, b9k9, b9k10, b9k11, b9k12, b9k13, ↓reduceIte, reduceCtorEq, Nat.reduceEqDiff, Nat.reduceAdd, Nat.reduceMul, Nat.reduceSub, Nat.reduceLeDiff, Nat.reduceBEq, Int.reduceToNat, Int.reduceLE, Int.reduceLT, Int.reduceEq, Int.reduceNe, di0, di1, di2, di3, di4, di5, di6, di7, di8, di9, postX_ret, postX_normal, ex_some]
    exact gw

theorem ga0_SurgeGap {r : Ru} {p : Pl} {ss : List Sta} {x w : Wt} {bs : List Bx} (hr : Sg.Good r) (hp : PlanOk p) (hs : ss.length ≤ 42) (hn : bs.length ≤ 66) (hx : x.ord.length ≤ 10) (hb : ∀ b ∈ bs, boxErr b = 0) (hw : worstP r p ss = some w) (hcw : chkW r p w = 0) :
    run Try.prog b9k10 [] (d9.post (.bool true)) (mkS [(3, .ref 3 0), (4, .ref 4 0), (5, .ref 5 0), (7, .ref 7 0), (9, .ref 9 0)]
      [(3, .box (ruC r)), (4, .box (spC p)), (5, .box (clC ss x bs)), (7, .box (wCells w)), (9, .box [.imm (.int .i64 (boundP r p bs).2.1), .imm (.int .i64 (boundP r p bs).2.2)])]) := by
  have go := ga1_SurgeGap hr hp hs hn hx hb hw hcw
  simp only [ruC, spC, clC, wCells] at go
  obtain ⟨⟨o, ho, s0, hs0, k0, hk0, -, e0, -, -⟩, -⟩ := worstP_best hw
  simp only [b9k10, res9, b9k9, ruC, spC, clC, wCells, ruI, ssI, sbI, spI, swI, scI, stI, srI, saI, snI, ↓reduceIte, reduceCtorEq, Nat.reduceEqDiff, Nat.reduceAdd, Nat.reduceMul, Nat.reduceSub, Nat.reduceLeDiff, Nat.reduceBEq, Int.reduceToNat, Int.reduceLE, Int.reduceLT, Int.reduceEq, Int.reduceNe, di0, di1, di2, di3, di4, di5, di6, di7, di8, di9, postX_ret, postX_normal, ex_some]
  refine loop_keep (α := Nat × Bool) rfl (fun q => ss.length - q.1) (fun q => q.1 ≤ ss.length ∧ (q.2 || (ss.drop q.1).any fun s => decide (s = w.st)) = ss.any fun s => decide (s = w.st))
    (fun q => [(3, .ref 3 0), (4, .ref 4 0), (5, .ref 5 0), (7, .ref 7 0), (9, .ref 9 0), (13, .imm (.bool q.2)), (14, .imm (.int .i64 q.1))])
    (fun _ => [(3, .box (ruC r)), (4, .box (spC p)), (5, .box (clC ss x bs)), (7, .box (wCells w)), (9, .box [.imm (.int .i64 (boundP r p bs).2.1), .imm (.int .i64 (boundP r p bs).2.2)])]) (0, false) ⟨Nat.zero_le _, by simp⟩ (by simp only [ruC, spC, clC, wCells, ruI, ssI, sbI, spI, swI, scI, stI, srI, saI, snI, ↓reduceIte, reduceCtorEq, Nat.reduceEqDiff, Nat.reduceAdd, Nat.reduceMul, Nat.reduceSub, Nat.reduceLeDiff, Nat.reduceBEq, Int.reduceToNat, Int.reduceLE, Int.reduceLT, Int.reduceEq, Int.reduceNe, di0, di1, di2, di3, di4, di5, di6, di7, di8, di9, postX_ret, postX_normal, ex_some] <;> rfl) ?_
  rintro ⟨i, t⟩ ⟨hi, he⟩ ih
  dsimp only at hi he ⊢
  simp only [res9, b9k0, ruC, spC, clC, wCells, ruI, ssI, sbI, spI, swI, scI, stI, srI, saI, snI, ↓reduceIte, reduceCtorEq, Nat.reduceEqDiff, Nat.reduceAdd, Nat.reduceMul, Nat.reduceSub, Nat.reduceLeDiff, Nat.reduceBEq, Int.reduceToNat, Int.reduceLE, Int.reduceLT, Int.reduceEq, Int.reduceNe, di0, di1, di2, di3, di4, di5, di6, di7, di8, di9, postX_ret, postX_normal, ex_some]
  split
  case isFalse h =>
    rw [List.drop_of_length_le (by omega), List.any_nil, Bool.or_false] at he
    have hany : (ss.any fun s => decide (s = w.st)) = true := by
      rw [List.any_eq_true]
      exact ⟨s0, hs0, by rw [e0]; simp⟩
    rw [he, hany]
    simp only [ruI, ssI, sbI, spI, swI, scI, stI, srI, saI, snI, ↓reduceIte, reduceCtorEq, Nat.reduceEqDiff, Nat.reduceAdd, Nat.reduceMul, Nat.reduceSub, Nat.reduceLeDiff, Nat.reduceBEq, Int.reduceToNat, Int.reduceLE, Int.reduceLT, Int.reduceEq, Int.reduceNe, di0, di1, di2, di3, di4, di5, di6, di7, di8, di9, postX_ret, postX_normal, ex_some]
    exact go
  rename_i h
  have hlt : i < ss.length := by omega
  have hd : ss.drop i = ss.getD i default :: ss.drop (i + 1) := by
    rw [List.drop_eq_getElem_cons hlt, List.getD_eq_getElem?_getD]
    simp [hlt]
  rw [hd, List.any_cons, ← Bool.or_assoc] at he
  cases t
  · simp only [ruI, ssI, sbI, spI, swI, scI, stI, srI, saI, snI, ↓reduceIte, reduceCtorEq, Nat.reduceEqDiff, Nat.reduceAdd, Nat.reduceMul, Nat.reduceSub, Nat.reduceLeDiff, Nat.reduceBEq, Int.reduceToNat, Int.reduceLE, Int.reduceLT, Int.reduceEq, Int.reduceNe, di0, di1, di2, di3, di4, di5, di6, di7, di8, di9, postX_ret, postX_normal, ex_some]
    repeat (refine And.intro (by omega) ?_)
    rw [sta_dec]
    simp only [show IntKind.wrap .i64 ((i : Int) + 1) = (i : Int) + 1 from wrap64 (by omega) (by omega)]
    refine ih (i + 1, decide (ss.getD i default = w.st)) _ _ (by dsimp only; omega) ⟨by dsimp only; omega, by rw [← he]; rfl⟩ (by simp only [ruC, spC, clC, wCells, ruI, ssI, sbI, spI, swI, scI, stI, srI, saI, snI, ↓reduceIte, reduceCtorEq, Nat.reduceEqDiff, Nat.reduceAdd, Nat.reduceMul, Nat.reduceSub, Nat.reduceLeDiff, Nat.reduceBEq, Int.reduceToNat, Int.reduceLE, Int.reduceLT, Int.reduceEq, Int.reduceNe, di0, di1, di2, di3, di4, di5, di6, di7, di8, di9, postX_ret, postX_normal, ex_some] <;> rfl)
  · simp only [ruI, ssI, sbI, spI, swI, scI, stI, srI, saI, snI, ↓reduceIte, reduceCtorEq, Nat.reduceEqDiff, Nat.reduceAdd, Nat.reduceMul, Nat.reduceSub, Nat.reduceLeDiff, Nat.reduceBEq, Int.reduceToNat, Int.reduceLE, Int.reduceLT, Int.reduceEq, Int.reduceNe, di0, di1, di2, di3, di4, di5, di6, di7, di8, di9, postX_ret, postX_normal, ex_some]
    simp only [show IntKind.wrap .i64 ((i : Int) + 1) = (i : Int) + 1 from wrap64 (by omega) (by omega)]
    refine ih (i + 1, true) _ _ (by dsimp only; omega) ⟨by dsimp only; omega, by rw [← he]; rfl⟩ (by simp only [ruC, spC, clC, wCells, ruI, ssI, sbI, spI, swI, scI, stI, srI, saI, snI, ↓reduceIte, reduceCtorEq, Nat.reduceEqDiff, Nat.reduceAdd, Nat.reduceMul, Nat.reduceSub, Nat.reduceLeDiff, Nat.reduceBEq, Int.reduceToNat, Int.reduceLE, Int.reduceLT, Int.reduceEq, Int.reduceNe, di0, di1, di2, di3, di4, di5, di6, di7, di8, di9, postX_ret, postX_normal, ex_some] <;> rfl)

theorem l_SurgeGap {r : Ru} {p : Pl} {ss : List Sta} {x : Wt} {bs : List Bx} : Contract Try.prog 9 [ruI r, spI p, clI ss x bs] (.bool true) := by
  refine contract_run Try.func9 k9 rfl ?_
  simp only [body9, b9, res9, b9k11, b9k12, b9k13, clI, ruI, ssI, sbI, spI, swI, scI, stI, srI, saI, snI, ↓reduceIte, reduceCtorEq, Nat.reduceEqDiff, Nat.reduceAdd, Nat.reduceMul, Nat.reduceSub, Nat.reduceLeDiff, Nat.reduceBEq, Int.reduceToNat, Int.reduceLE, Int.reduceLT, Int.reduceEq, Int.reduceNe, di0, di1, di2, di3, di4, di5, di6, di7, di8, di9, postX_ret, postX_normal, ex_some]
  refine calls_of s_awake ?_; simp only [ruI, ssI, sbI, spI, swI, scI, stI, srI, saI, snI, res9, b9k11, b9k12, b9k13, ↓reduceIte, reduceCtorEq, Nat.reduceEqDiff, Nat.reduceAdd, Nat.reduceMul, Nat.reduceSub, Nat.reduceLeDiff, Nat.reduceBEq, Int.reduceToNat, Int.reduceLE, Int.reduceLT, Int.reduceEq, Int.reduceNe, di0, di1, di2, di3, di4, di5, di6, di7, di8, di9, postX_ret, postX_normal, ex_some]
  refine calls_of l_Few ?_; simp only [ruI, ssI, sbI, spI, swI, scI, stI, srI, saI, snI, res9, b9k11, b9k12, b9k13, ↓reduceIte, reduceCtorEq, Nat.reduceEqDiff, Nat.reduceAdd, Nat.reduceMul, Nat.reduceSub, Nat.reduceLeDiff, Nat.reduceBEq, Int.reduceToNat, Int.reduceLE, Int.reduceLT, Int.reduceEq, Int.reduceNe, di0, di1, di2, di3, di4, di5, di6, di7, di8, di9, postX_ret, postX_normal, ex_some]
  by_cases hf : FewP p
  case neg =>
    simp only [hf, ruI, ssI, sbI, spI, swI, scI, stI, srI, saI, snI, ↓reduceIte, reduceCtorEq, Nat.reduceEqDiff, Nat.reduceAdd, Nat.reduceMul, Nat.reduceSub, Nat.reduceLeDiff, Nat.reduceBEq, Int.reduceToNat, Int.reduceLE, Int.reduceLT, Int.reduceEq, Int.reduceNe, di0, di1, di2, di3, di4, di5, di6, di7, di8, di9, postX_ret, postX_normal, ex_some]
    all_goals (rw [if_neg (fun k => k.1)]; trivial)
  simp only [hf, ruI, ssI, sbI, spI, swI, scI, stI, srI, saI, snI, ↓reduceIte, reduceCtorEq, Nat.reduceEqDiff, Nat.reduceAdd, Nat.reduceMul, Nat.reduceSub, Nat.reduceLeDiff, Nat.reduceBEq, Int.reduceToNat, Int.reduceLE, Int.reduceLT, Int.reduceEq, Int.reduceNe, di0, di1, di2, di3, di4, di5, di6, di7, di8, di9, postX_ret, postX_normal, ex_some]
  have lf := l_few (ss := ss) (w := x) (bs := bs)
  simp only [clI] at lf
  refine calls_of lf ?_; simp only [ruI, ssI, sbI, spI, swI, scI, stI, srI, saI, snI, res9, b9k11, b9k12, b9k13, ↓reduceIte, reduceCtorEq, Nat.reduceEqDiff, Nat.reduceAdd, Nat.reduceMul, Nat.reduceSub, Nat.reduceLeDiff, Nat.reduceBEq, Int.reduceToNat, Int.reduceLE, Int.reduceLT, Int.reduceEq, Int.reduceNe, di0, di1, di2, di3, di4, di5, di6, di7, di8, di9, postX_ret, postX_normal, ex_some]
  by_cases hc : fewC ss x bs
  case neg =>
    simp only [hc, ruI, ssI, sbI, spI, swI, scI, stI, srI, saI, snI, ↓reduceIte, reduceCtorEq, Nat.reduceEqDiff, Nat.reduceAdd, Nat.reduceMul, Nat.reduceSub, Nat.reduceLeDiff, Nat.reduceBEq, Int.reduceToNat, Int.reduceLE, Int.reduceLT, Int.reduceEq, Int.reduceNe, di0, di1, di2, di3, di4, di5, di6, di7, di8, di9, postX_ret, postX_normal, ex_some]
    all_goals (rw [if_neg (fun k => k.1)]; trivial)
  simp only [hc, ruI, ssI, sbI, spI, swI, scI, stI, srI, saI, snI, ↓reduceIte, reduceCtorEq, Nat.reduceEqDiff, Nat.reduceAdd, Nat.reduceMul, Nat.reduceSub, Nat.reduceLeDiff, Nat.reduceBEq, Int.reduceToNat, Int.reduceLE, Int.reduceLT, Int.reduceEq, Int.reduceNe, di0, di1, di2, di3, di4, di5, di6, di7, di8, di9, postX_ret, postX_normal, ex_some]
  refine calls_of r_PlanErr0 ?_; simp only [ruI, ssI, sbI, spI, swI, scI, stI, srI, saI, snI, res9, b9k11, b9k12, b9k13, ↓reduceIte, reduceCtorEq, Nat.reduceEqDiff, Nat.reduceAdd, Nat.reduceMul, Nat.reduceSub, Nat.reduceLeDiff, Nat.reduceBEq, Int.reduceToNat, Int.reduceLE, Int.reduceLT, Int.reduceEq, Int.reduceNe, di0, di1, di2, di3, di4, di5, di6, di7, di8, di9, postX_ret, postX_normal, ex_some]
  by_cases hE : (planEr r p).2 = 0
  case neg =>
    simp only [hE, ruI, ssI, sbI, spI, swI, scI, stI, srI, saI, snI, ↓reduceIte, reduceCtorEq, Nat.reduceEqDiff, Nat.reduceAdd, Nat.reduceMul, Nat.reduceSub, Nat.reduceLeDiff, Nat.reduceBEq, Int.reduceToNat, Int.reduceLE, Int.reduceLT, Int.reduceEq, Int.reduceNe, di0, di1, di2, di3, di4, di5, di6, di7, di8, di9, postX_ret, postX_normal, ex_some]
    all_goals (rw [if_neg (fun k => k.1)]; trivial)
  simp only [hE, ruI, ssI, sbI, spI, swI, scI, stI, srI, saI, snI, ↓reduceIte, reduceCtorEq, Nat.reduceEqDiff, Nat.reduceAdd, Nat.reduceMul, Nat.reduceSub, Nat.reduceLeDiff, Nat.reduceBEq, Int.reduceToNat, Int.reduceLE, Int.reduceLT, Int.reduceEq, Int.reduceNe, di0, di1, di2, di3, di4, di5, di6, di7, di8, di9, postX_ret, postX_normal, ex_some]
  have hsl : ss.length ≤ 42 := by have := hc.1; omega
  have hwl : x.ord.length ≤ 10 := hc.2.1
  have hbl : bs.length ≤ 66 := by have := hc.2.2; omega
  have rs := r_StartsErr (ss := ss) (by omega)
  have rb := r_BoxesErr (bs := bs) (by omega)
  refine calls_of rs ?_; simp only [ruI, ssI, sbI, spI, swI, scI, stI, srI, saI, snI, res9, b9k11, b9k12, b9k13, ↓reduceIte, reduceCtorEq, Nat.reduceEqDiff, Nat.reduceAdd, Nat.reduceMul, Nat.reduceSub, Nat.reduceLeDiff, Nat.reduceBEq, Int.reduceToNat, Int.reduceLE, Int.reduceLT, Int.reduceEq, Int.reduceNe, di0, di1, di2, di3, di4, di5, di6, di7, di8, di9, postX_ret, postX_normal, ex_some]
  by_cases hS : startsE ss = 0
  case neg =>
    simp only [hS, ruI, ssI, sbI, spI, swI, scI, stI, srI, saI, snI, ↓reduceIte, reduceCtorEq, Nat.reduceEqDiff, Nat.reduceAdd, Nat.reduceMul, Nat.reduceSub, Nat.reduceLeDiff, Nat.reduceBEq, Int.reduceToNat, Int.reduceLE, Int.reduceLT, Int.reduceEq, Int.reduceNe, di0, di1, di2, di3, di4, di5, di6, di7, di8, di9, postX_ret, postX_normal, ex_some]
    all_goals (rw [if_neg (fun k => k.1)]; trivial)
  simp only [hS, ruI, ssI, sbI, spI, swI, scI, stI, srI, saI, snI, ↓reduceIte, reduceCtorEq, Nat.reduceEqDiff, Nat.reduceAdd, Nat.reduceMul, Nat.reduceSub, Nat.reduceLeDiff, Nat.reduceBEq, Int.reduceToNat, Int.reduceLE, Int.reduceLT, Int.reduceEq, Int.reduceNe, di0, di1, di2, di3, di4, di5, di6, di7, di8, di9, postX_ret, postX_normal, ex_some]
  refine calls_of rb ?_; simp only [ruI, ssI, sbI, spI, swI, scI, stI, srI, saI, snI, res9, b9k11, b9k12, b9k13, ↓reduceIte, reduceCtorEq, Nat.reduceEqDiff, Nat.reduceAdd, Nat.reduceMul, Nat.reduceSub, Nat.reduceLeDiff, Nat.reduceBEq, Int.reduceToNat, Int.reduceLE, Int.reduceLT, Int.reduceEq, Int.reduceNe, di0, di1, di2, di3, di4, di5, di6, di7, di8, di9, postX_ret, postX_normal, ex_some]
  by_cases hB : boxesE bs = 0
  case neg =>
    simp only [hB, ruI, ssI, sbI, spI, swI, scI, stI, srI, saI, snI, ↓reduceIte, reduceCtorEq, Nat.reduceEqDiff, Nat.reduceAdd, Nat.reduceMul, Nat.reduceSub, Nat.reduceLeDiff, Nat.reduceBEq, Int.reduceToNat, Int.reduceLE, Int.reduceLT, Int.reduceEq, Int.reduceNe, di0, di1, di2, di3, di4, di5, di6, di7, di8, di9, postX_ret, postX_normal, ex_some]
    all_goals (rw [if_neg (fun k => k.1)]; trivial)
  simp only [hB, ruI, ssI, sbI, spI, swI, scI, stI, srI, saI, snI, ↓reduceIte, reduceCtorEq, Nat.reduceEqDiff, Nat.reduceAdd, Nat.reduceMul, Nat.reduceSub, Nat.reduceLeDiff, Nat.reduceBEq, Int.reduceToNat, Int.reduceLE, Int.reduceLT, Int.reduceEq, Int.reduceNe, di0, di1, di2, di3, di4, di5, di6, di7, di8, di9, postX_ret, postX_normal, ex_some]
  obtain ⟨hr, hp⟩ := planEr_zero.1 hE
  have hpl := hp.len
  obtain ⟨hss0, hss⟩ := startsE_ok hS
  have hB2 := hB
  unfold boxesE at hB2
  rw [fstE_zero, fstE_zero, scanB_zero] at hB2
  obtain ⟨⟨hB3, _⟩, hbx⟩ := hB2
  have hbne : bs ≠ [] := by
    intro k
    rw [k] at hB3
    cases hB3
  have hbE : boundE r p bs = 0 := by unfold boundE; rw [fstE_zero]; exact ⟨hE, hB⟩
  have cp := r_CopyPlan (p := p) (by omega)
  have cs := r_CopyStates (l := ss) (by omega)
  have cb := r_CopyBoxes (l := bs) (by omega)
  have s1 := s_WorstOf (r := r) (p := p) (ss := ss) (by omega) (by omega)
  have s2 := s_BoundOf (r := r) (p := p) (bs := bs) (by omega) (by omega)
  have s3 := s_OrdersOf (r := r) (p := p) (by omega)
  rw [worstR_starts hE, if_pos hS] at s1
  rw [if_pos hbE] at s2
  rw [if_pos hE] at s3
  have zz := r_SameWitness (v := wZ) (w := wZ) (by decide)
  simp only [wZ, List.map_nil] at zz
  have hfd := bound_found (r := r) (p := p) (bs := bs) hp.ticks.1 hbne
  refine calls_of cp ?_; simp only [ruI, ssI, sbI, spI, swI, scI, stI, srI, saI, snI, res9, b9k11, b9k12, b9k13, ↓reduceIte, reduceCtorEq, Nat.reduceEqDiff, Nat.reduceAdd, Nat.reduceMul, Nat.reduceSub, Nat.reduceLeDiff, Nat.reduceBEq, Int.reduceToNat, Int.reduceLE, Int.reduceLT, Int.reduceEq, Int.reduceNe, di0, di1, di2, di3, di4, di5, di6, di7, di8, di9, postX_ret, postX_normal, ex_some]
  refine calls_of cs ?_; simp only [ruI, ssI, sbI, spI, swI, scI, stI, srI, saI, snI, res9, b9k11, b9k12, b9k13, ↓reduceIte, reduceCtorEq, Nat.reduceEqDiff, Nat.reduceAdd, Nat.reduceMul, Nat.reduceSub, Nat.reduceLeDiff, Nat.reduceBEq, Int.reduceToNat, Int.reduceLE, Int.reduceLT, Int.reduceEq, Int.reduceNe, di0, di1, di2, di3, di4, di5, di6, di7, di8, di9, postX_ret, postX_normal, ex_some]
  cases hw : worstP r p ss with
  | none =>
    have hno := (worstP_none hss0.1).1 hw
    rw [hw] at s1
    have hbf : (boundP r p bs).1 = false := by
      cases hb : (boundP r p bs).1
      · rfl
      · exact absurd hno (hfd.1 hb)
    rw [hbf] at s2
    rw [hno] at s3
    refine calls_of s1 ?_; simp only [ruI, ssI, sbI, spI, swI, scI, stI, srI, saI, snI, res9, b9k11, b9k12, b9k13, ↓reduceIte, reduceCtorEq, Nat.reduceEqDiff, Nat.reduceAdd, Nat.reduceMul, Nat.reduceSub, Nat.reduceLeDiff, Nat.reduceBEq, Int.reduceToNat, Int.reduceLE, Int.reduceLT, Int.reduceEq, Int.reduceNe, di0, di1, di2, di3, di4, di5, di6, di7, di8, di9, postX_ret, postX_normal, ex_some]
    refine calls_of cp ?_; simp only [ruI, ssI, sbI, spI, swI, scI, stI, srI, saI, snI, res9, b9k11, b9k12, b9k13, ↓reduceIte, reduceCtorEq, Nat.reduceEqDiff, Nat.reduceAdd, Nat.reduceMul, Nat.reduceSub, Nat.reduceLeDiff, Nat.reduceBEq, Int.reduceToNat, Int.reduceLE, Int.reduceLT, Int.reduceEq, Int.reduceNe, di0, di1, di2, di3, di4, di5, di6, di7, di8, di9, postX_ret, postX_normal, ex_some]
    refine calls_of cb ?_; simp only [ruI, ssI, sbI, spI, swI, scI, stI, srI, saI, snI, res9, b9k11, b9k12, b9k13, ↓reduceIte, reduceCtorEq, Nat.reduceEqDiff, Nat.reduceAdd, Nat.reduceMul, Nat.reduceSub, Nat.reduceLeDiff, Nat.reduceBEq, Int.reduceToNat, Int.reduceLE, Int.reduceLT, Int.reduceEq, Int.reduceNe, di0, di1, di2, di3, di4, di5, di6, di7, di8, di9, postX_ret, postX_normal, ex_some]
    refine calls_of s2 ?_; simp only [ruI, ssI, sbI, spI, swI, scI, stI, srI, saI, snI, res9, b9k11, b9k12, b9k13, ↓reduceIte, reduceCtorEq, Nat.reduceEqDiff, Nat.reduceAdd, Nat.reduceMul, Nat.reduceSub, Nat.reduceLeDiff, Nat.reduceBEq, Int.reduceToNat, Int.reduceLE, Int.reduceLT, Int.reduceEq, Int.reduceNe, di0, di1, di2, di3, di4, di5, di6, di7, di8, di9, postX_ret, postX_normal, ex_some]
    refine calls_of cp ?_; simp only [ruI, ssI, sbI, spI, swI, scI, stI, srI, saI, snI, res9, b9k11, b9k12, b9k13, ↓reduceIte, reduceCtorEq, Nat.reduceEqDiff, Nat.reduceAdd, Nat.reduceMul, Nat.reduceSub, Nat.reduceLeDiff, Nat.reduceBEq, Int.reduceToNat, Int.reduceLE, Int.reduceLT, Int.reduceEq, Int.reduceNe, di0, di1, di2, di3, di4, di5, di6, di7, di8, di9, postX_ret, postX_normal, ex_some]
    refine calls_of s3 ?_; simp only [ruI, ssI, sbI, spI, swI, scI, stI, srI, saI, snI, res9, b9k11, b9k12, b9k13, ↓reduceIte, reduceCtorEq, Nat.reduceEqDiff, Nat.reduceAdd, Nat.reduceMul, Nat.reduceSub, Nat.reduceLeDiff, Nat.reduceBEq, Int.reduceToNat, Int.reduceLE, Int.reduceLT, Int.reduceEq, Int.reduceNe, di0, di1, di2, di3, di4, di5, di6, di7, di8, di9, postX_ret, postX_normal, ex_some]
    simp only [wZ, List.map_nil, List.length_nil, ruI, ssI, sbI, spI, swI, scI, stI, srI, saI, snI, ↓reduceIte, reduceCtorEq, Nat.reduceEqDiff, Nat.reduceAdd, Nat.reduceMul, Nat.reduceSub, Nat.reduceLeDiff, Nat.reduceBEq, Int.reduceToNat, Int.reduceLE, Int.reduceLT, Int.reduceEq, Int.reduceNe, di0, di1, di2, di3, di4, di5, di6, di7, di8, di9, postX_ret, postX_normal, ex_some]
    refine calls_of zz ?_; simp only [ruI, ssI, sbI, spI, swI, scI, stI, srI, saI, snI, res9, b9k11, b9k12, b9k13, ↓reduceIte, reduceCtorEq, Nat.reduceEqDiff, Nat.reduceAdd, Nat.reduceMul, Nat.reduceSub, Nat.reduceLeDiff, Nat.reduceBEq, Int.reduceToNat, Int.reduceLE, Int.reduceLT, Int.reduceEq, Int.reduceNe, di0, di1, di2, di3, di4, di5, di6, di7, di8, di9, postX_ret, postX_normal, ex_some]
  | some w =>
    rw [hw] at s1
    have hne : ordersP p ≠ [] := by
      intro k
      rw [(worstP_none hss0.1).2 k] at hw
      cases hw
    have hpos := List.length_pos_iff.2 hne
    rw [hfd.2 hne, if_pos rfl] at s2
    rw [if_pos hpos] at s3
    obtain ⟨⟨o, ho, s0, hs0, k0, hk0, e1, e2, e3, e4⟩, hbest⟩ := worstP_best hw
    have hle := hr.le
    have hk01 : r.lo ≤ w.k ∧ w.k ≤ r.hi := by rw [e3]; rcases hk0 with rfl | rfl <;> omega
    have hcw : chkW r p w = 0 := chkW_zero.2 ⟨hE, by rw [e1]; exact orders_iff.1 ho, by rw [e2]; exact hss _ hs0, hk01, by rw [e1, e2, e3, e4]⟩
    have h24 : (ordersP p).length ≤ 24 := by
      rcases hf.2 with k | k
      · have := planE_ok hp
        rw [this] at k
        exact absurd rfl k
      · exact orders_24 k.1
    have hwo : w.ord.length ≤ 4 := by rw [e1, (orders_mem ho).1]; omega
    have cw := r_CopyWitness (w := w) (by omega)
    have ck := s_CheckWitness (r := r) (p := p) (w := w) (by omega)
    rw [hcw] at ck
    have lf2 := l_few (ss := []) (w := w) (bs := [])
    rw [decide_eq_true (show fewC [] w [] from ⟨.inl (by simp), by omega, .inl (by simp)⟩)] at lf2
    simp only [clI, List.map_nil] at lf2
    have go := ga0_SurgeGap hr hp hsl hbl hwl hbx hw hcw
    simp only [ruC, spC, clC, wCells] at go
    refine calls_of s1 ?_; simp only [ruI, ssI, sbI, spI, swI, scI, stI, srI, saI, snI, res9, b9k11, b9k12, b9k13, ↓reduceIte, reduceCtorEq, Nat.reduceEqDiff, Nat.reduceAdd, Nat.reduceMul, Nat.reduceSub, Nat.reduceLeDiff, Nat.reduceBEq, Int.reduceToNat, Int.reduceLE, Int.reduceLT, Int.reduceEq, Int.reduceNe, di0, di1, di2, di3, di4, di5, di6, di7, di8, di9, postX_ret, postX_normal, ex_some]
    refine calls_of cp ?_; simp only [ruI, ssI, sbI, spI, swI, scI, stI, srI, saI, snI, res9, b9k11, b9k12, b9k13, ↓reduceIte, reduceCtorEq, Nat.reduceEqDiff, Nat.reduceAdd, Nat.reduceMul, Nat.reduceSub, Nat.reduceLeDiff, Nat.reduceBEq, Int.reduceToNat, Int.reduceLE, Int.reduceLT, Int.reduceEq, Int.reduceNe, di0, di1, di2, di3, di4, di5, di6, di7, di8, di9, postX_ret, postX_normal, ex_some]
    refine calls_of cb ?_; simp only [ruI, ssI, sbI, spI, swI, scI, stI, srI, saI, snI, res9, b9k11, b9k12, b9k13, ↓reduceIte, reduceCtorEq, Nat.reduceEqDiff, Nat.reduceAdd, Nat.reduceMul, Nat.reduceSub, Nat.reduceLeDiff, Nat.reduceBEq, Int.reduceToNat, Int.reduceLE, Int.reduceLT, Int.reduceEq, Int.reduceNe, di0, di1, di2, di3, di4, di5, di6, di7, di8, di9, postX_ret, postX_normal, ex_some]
    refine calls_of s2 ?_; simp only [ruI, ssI, sbI, spI, swI, scI, stI, srI, saI, snI, res9, b9k11, b9k12, b9k13, ↓reduceIte, reduceCtorEq, Nat.reduceEqDiff, Nat.reduceAdd, Nat.reduceMul, Nat.reduceSub, Nat.reduceLeDiff, Nat.reduceBEq, Int.reduceToNat, Int.reduceLE, Int.reduceLT, Int.reduceEq, Int.reduceNe, di0, di1, di2, di3, di4, di5, di6, di7, di8, di9, postX_ret, postX_normal, ex_some]
    refine calls_of cp ?_; simp only [ruI, ssI, sbI, spI, swI, scI, stI, srI, saI, snI, res9, b9k11, b9k12, b9k13, ↓reduceIte, reduceCtorEq, Nat.reduceEqDiff, Nat.reduceAdd, Nat.reduceMul, Nat.reduceSub, Nat.reduceLeDiff, Nat.reduceBEq, Int.reduceToNat, Int.reduceLE, Int.reduceLT, Int.reduceEq, Int.reduceNe, di0, di1, di2, di3, di4, di5, di6, di7, di8, di9, postX_ret, postX_normal, ex_some]
    refine calls_of s3 ?_; simp only [ruI, ssI, sbI, spI, swI, scI, stI, srI, saI, snI, res9, b9k11, b9k12, b9k13, ↓reduceIte, reduceCtorEq, Nat.reduceEqDiff, Nat.reduceAdd, Nat.reduceMul, Nat.reduceSub, Nat.reduceLeDiff, Nat.reduceBEq, Int.reduceToNat, Int.reduceLE, Int.reduceLT, Int.reduceEq, Int.reduceNe, di0, di1, di2, di3, di4, di5, di6, di7, di8, di9, postX_ret, postX_normal, ex_some]
    rw [if_pos ⟨by omega, by omega⟩]
    refine calls_of lf2 ?_; simp only [ruI, ssI, sbI, spI, swI, scI, stI, srI, saI, snI, res9, b9k11, b9k12, b9k13, ↓reduceIte, reduceCtorEq, Nat.reduceEqDiff, Nat.reduceAdd, Nat.reduceMul, Nat.reduceSub, Nat.reduceLeDiff, Nat.reduceBEq, Int.reduceToNat, Int.reduceLE, Int.reduceLT, Int.reduceEq, Int.reduceNe, di0, di1, di2, di3, di4, di5, di6, di7, di8, di9, postX_ret, postX_normal, ex_some]
    refine calls_of cp ?_; simp only [ruI, ssI, sbI, spI, swI, scI, stI, srI, saI, snI, res9, b9k11, b9k12, b9k13, ↓reduceIte, reduceCtorEq, Nat.reduceEqDiff, Nat.reduceAdd, Nat.reduceMul, Nat.reduceSub, Nat.reduceLeDiff, Nat.reduceBEq, Int.reduceToNat, Int.reduceLE, Int.reduceLT, Int.reduceEq, Int.reduceNe, di0, di1, di2, di3, di4, di5, di6, di7, di8, di9, postX_ret, postX_normal, ex_some]
    refine calls_of cw ?_; simp only [ruI, ssI, sbI, spI, swI, scI, stI, srI, saI, snI, res9, b9k11, b9k12, b9k13, ↓reduceIte, reduceCtorEq, Nat.reduceEqDiff, Nat.reduceAdd, Nat.reduceMul, Nat.reduceSub, Nat.reduceLeDiff, Nat.reduceBEq, Int.reduceToNat, Int.reduceLE, Int.reduceLT, Int.reduceEq, Int.reduceNe, di0, di1, di2, di3, di4, di5, di6, di7, di8, di9, postX_ret, postX_normal, ex_some]
    refine calls_of ck ?_; simp only [ruI, ssI, sbI, spI, swI, scI, stI, srI, saI, snI, res9, b9k11, b9k12, b9k13, ↓reduceIte, reduceCtorEq, Nat.reduceEqDiff, Nat.reduceAdd, Nat.reduceMul, Nat.reduceSub, Nat.reduceLeDiff, Nat.reduceBEq, Int.reduceToNat, Int.reduceLE, Int.reduceLT, Int.reduceEq, Int.reduceNe, di0, di1, di2, di3, di4, di5, di6, di7, di8, di9, postX_ret, postX_normal, ex_some]
    rw [if_neg (show ¬ (¬ w.k = r.lo ∧ ¬ w.k = r.hi) by rw [e3]; rcases hk0 with rfl | rfl <;> simp)]
    exact go
end Go.DI

