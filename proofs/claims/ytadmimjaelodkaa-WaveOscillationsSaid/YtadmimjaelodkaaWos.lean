/- Law: the steady oscillation of a line, and the state and the closing at a tick of any oscillation. No condition. -/
import Derived.Test.YtadmimjaelodkaaWor
set_option linter.unusedSimpArgs false
set_option maxRecDepth 100000
namespace Go.DI
open Go.Proofs Go.RowKit

def atI (s : Sty) (t : Int) : IV := .agg [.int .i64 s.q, .slc 2 (s.F.map gI), .slc 2 (s.B.map gI), .slc 2 (s.L.map gI), .int .i64 s.c.1, .int .i64 s.c.2, .int .i64 t]
theorem few_satZ {x : Ln} {s : Sty} {t : Int} (hs : FewG s) : FewS (satZ x s t) := by
 unfold satZ
 split
 ·refine ⟨?_, ?_, ?_⟩
  ·show (reL _ _).length ≤ _; unfold reL; rw [List.length_map]; exact hs.1
  ·show (reL _ _).length ≤ _; unfold reL; rw [List.length_map]; exact hs.2.1
  ·show (reL _ _).length ≤ _; unfold reL; rw [List.length_map]; exact hs.2.2
 ·exact few_empty
theorem tail_WaveOscillations {x : Ln} {s : Sty} {t : Int} (hx : LineOk x) (hs : FewG s) :
  run Try.prog b15k2 [] (d15.post (.bool true)) (mkS [(3, .ref 3 0), (5, .ref 5 0), (9, .ref 9 0), (10, .imm (.int .i64 (satC x s t))), (11, .imm (.int .i64 (satE x s t)))]
   [(3, .box [.imm (.slc 2 (x.pp.map ppI)), .imm (nI x.ar)]), (5, .box [.imm (.int .i64 s.q), .imm (.slc 2 (s.F.map gI)), .imm (.slc 2 (s.B.map gI)), .imm (.slc 2 (s.L.map gI)), .imm (.int .i64 s.c.1), .imm (.int .i64 s.c.2), .imm (.int .i64 t)]),
    (9, .box [.imm (nI (satZ x s t).F), .imm (nI (satZ x s t).B), .imm (nI (satZ x s t).L)])]) := by
 have fz := few_satZ (x := x) (t := t) hs
 have q1 := r_SteadyErr hx hs
 simp only [stdI] at q1
 simp only [b15k2, res15, b15k0, b15k1, b15k2, b15k3, b15k4, b15k5, b15k6, vaE, ↓reduceIte, reduceCtorEq, Nat.reduceEqDiff, Nat.reduceAdd, Nat.reduceMul, Nat.reduceSub, Nat.reduceLeDiff, Nat.reduceBEq, Int.reduceToNat, Int.reduceLE, Int.reduceLT, Int.reduceEq, Int.reduceNe, di]
 refine calls_of q1 ?_; simp only [vaE, res15, b15k0, b15k1, b15k2, b15k3, b15k4, b15k5, b15k6, ↓reduceIte, reduceCtorEq, Nat.reduceEqDiff, Nat.reduceAdd, Nat.reduceMul, Nat.reduceSub, Nat.reduceLeDiff, Nat.reduceBEq, Int.reduceToNat, Int.reduceLE, Int.reduceLT, Int.reduceEq, Int.reduceNe, di]
 by_cases h0 : stdE x s = 0
 rotate_left
 ·have e1 : satE x s t = stdE x s := by unfold satE fstE; rw [if_neg h0]
  have z1 : satZ x s t = emptyS := by unfold satZ; rw [e1, if_neg h0]
  have z2 : satC x s t = 0 := by unfold satC; rw [e1, if_neg h0]
  rw [e1, z1, z2]
  simp only [h0, vaE, ↓reduceIte, reduceCtorEq, Nat.reduceEqDiff, Nat.reduceAdd, Nat.reduceMul, Nat.reduceSub, Nat.reduceLeDiff, Nat.reduceBEq, Int.reduceToNat, Int.reduceLE, Int.reduceLT, Int.reduceEq, Int.reduceNe, di]
  refine calls_of (r_SameState (a := emptyS) (b := emptyS) few_empty) ?_; simp only [vaE, res15, b15k0, b15k1, b15k2, b15k3, b15k4, b15k5, b15k6, ↓reduceIte, reduceCtorEq, Nat.reduceEqDiff, Nat.reduceAdd, Nat.reduceMul, Nat.reduceSub, Nat.reduceLeDiff, Nat.reduceBEq, Int.reduceToNat, Int.reduceLE, Int.reduceLT, Int.reduceEq, Int.reduceNe, di]
 have e1 : satE x s t = tickE t := by unfold satE fstE; rw [if_pos h0]
 rw [e1]
 simp only [h0, vaE, ↓reduceIte, reduceCtorEq, Nat.reduceEqDiff, Nat.reduceAdd, Nat.reduceMul, Nat.reduceSub, Nat.reduceLeDiff, Nat.reduceBEq, Int.reduceToNat, Int.reduceLE, Int.reduceLT, Int.reduceEq, Int.reduceNe, di]
 refine calls_of c_Within ?_; simp only [vaE, res15, b15k0, b15k1, b15k2, b15k3, b15k4, b15k5, b15k6, ↓reduceIte, reduceCtorEq, Nat.reduceEqDiff, Nat.reduceAdd, Nat.reduceMul, Nat.reduceSub, Nat.reduceLeDiff, Nat.reduceBEq, Int.reduceToNat, Int.reduceLE, Int.reduceLT, Int.reduceEq, Int.reduceNe, di]
 by_cases ht : 0 ≤ t ∧ t ≤ 1000000000000
 rotate_left
 ·have e2 : tickE t = 2 := by unfold tickE; rw [if_neg ht]
  have z1 : satZ x s t = emptyS := by unfold satZ; rw [e1, e2]; rfl
  have z2 : satC x s t = 0 := by unfold satC; rw [e1, e2]; rfl
  rw [e2, z1, z2]
  simp only [ht, vaE, ↓reduceIte, reduceCtorEq, Nat.reduceEqDiff, Nat.reduceAdd, Nat.reduceMul, Nat.reduceSub, Nat.reduceLeDiff, Nat.reduceBEq, Int.reduceToNat, Int.reduceLE, Int.reduceLT, Int.reduceEq, Int.reduceNe, di]
  refine calls_of (r_SameState (a := emptyS) (b := emptyS) few_empty) ?_; simp only [vaE, res15, b15k0, b15k1, b15k2, b15k3, b15k4, b15k5, b15k6, ↓reduceIte, reduceCtorEq, Nat.reduceEqDiff, Nat.reduceAdd, Nat.reduceMul, Nat.reduceSub, Nat.reduceLeDiff, Nat.reduceBEq, Int.reduceToNat, Int.reduceLE, Int.reduceLT, Int.reduceEq, Int.reduceNe, di]
 have e2 : tickE t = 0 := tickE_zero.2 ht
 have z1 : satZ x s t = satS s t := by unfold satZ; rw [e1, e2]; rfl
 have z2 : satC x s t = (gmul (turnG (satP s t)) s.c).1 := by unfold satC; rw [e1, e2]; rfl
 have hz := h0
 unfold stdE at hz
 rw [fstE_zero, fstE_zero, fstE_zero, prtE_zero] at hz
 have hq : 0 ≤ s.q ∧ s.q ≤ 3 := by
  have := hz.1.1.2
  unfold quarterE at this
  split at this
  ·assumption
  ·omega
 have q2 := r_StateAt (t := t) hs hq hz.2
 simp only [stdI] at q2
 rw [z1] at fz
 rw [e2, z1, z2]
 simp only [ht, vaE, ↓reduceIte, reduceCtorEq, Nat.reduceEqDiff, Nat.reduceAdd, Nat.reduceMul, Nat.reduceSub, Nat.reduceLeDiff, Nat.reduceBEq, Int.reduceToNat, Int.reduceLE, Int.reduceLT, Int.reduceEq, Int.reduceNe, di]
 refine calls_of q2 ?_; simp only [vaE, res15, b15k0, b15k1, b15k2, b15k3, b15k4, b15k5, b15k6, ↓reduceIte, reduceCtorEq, Nat.reduceEqDiff, Nat.reduceAdd, Nat.reduceMul, Nat.reduceSub, Nat.reduceLeDiff, Nat.reduceBEq, Int.reduceToNat, Int.reduceLE, Int.reduceLT, Int.reduceEq, Int.reduceNe, di]
 refine calls_of (r_SameState (a := satS s t) (b := satS s t) fz) ?_; simp only [vaE, res15, b15k0, b15k1, b15k2, b15k3, b15k4, b15k5, b15k6, ↓reduceIte, reduceCtorEq, Nat.reduceEqDiff, Nat.reduceAdd, Nat.reduceMul, Nat.reduceSub, Nat.reduceLeDiff, Nat.reduceBEq, Int.reduceToNat, Int.reduceLE, Int.reduceLT, Int.reduceEq, Int.reduceNe, di]
theorem few_osZ {x : Ln} {h : Int} {g : Ga} : FewG (osZ x h g) := by
 unfold osZ
 split
 ·rename_i h0
  have hm : matE x h = 0 := by unfold osE at h0; rw [fstE_zero] at h0; exact h0.1
  have hx := (matE_zero.1 hm).1
  have how := opn_ok hx
  have e1 := fwA_len (h := h) (f := (2 * g.1, 2 * g.2)) how (opn x).pp.length (Nat.le_refl _)
  have e2 := bwA_len (h := h) (f := (2 * g.1, 2 * g.2)) how (opn x).pp.length (Nat.le_refl _)
  have e3 := leA_len (x := opn x) (h := h) (f := (2 * g.1, 2 * g.2)) (opn x).ar.length
  have e4 := cells_le how (opn x).pp.length
  have e5 := how.ars; have e6 := how.len
  exact ⟨by show (fwA _ _ _ _).length ≤ _; omega, by show (bwA _ _ _ _).length ≤ _; omega, by show (leA _ _ _ _).length ≤ _; omega⟩
 ·exact ⟨by decide, by decide, by decide⟩
theorem few_emptySt : FewG emptySt := ⟨by decide, by decide, by decide⟩
theorem l_WaveOscillations {x : Ln} {g : Ga} {s : Sty} {t : Int} : Contract Try.prog 15 [lnI x, gI g, atI s t] (.bool true) := by
 refine contract_run Try.func15 k15 rfl ?_
 simp only [body15, b15, res15, b15k3, b15k4, b15k5, b15k6, atI, gI, vaE, ↓reduceIte, reduceCtorEq, Nat.reduceEqDiff, Nat.reduceAdd, Nat.reduceMul, Nat.reduceSub, Nat.reduceLeDiff, Nat.reduceBEq, Int.reduceToNat, Int.reduceLE, Int.reduceLT, Int.reduceEq, Int.reduceNe, di]
 refine calls_of l_awake ?_; simp only [vaE, res15, b15k3, b15k4, b15k5, b15k6, ↓reduceIte, reduceCtorEq, Nat.reduceEqDiff, Nat.reduceAdd, Nat.reduceMul, Nat.reduceSub, Nat.reduceLeDiff, Nat.reduceBEq, Int.reduceToNat, Int.reduceLE, Int.reduceLT, Int.reduceEq, Int.reduceNe, di]
 refine calls_of l_few ?_; simp only [vaE, res15, b15k3, b15k4, b15k5, b15k6, ↓reduceIte, reduceCtorEq, Nat.reduceEqDiff, Nat.reduceAdd, Nat.reduceMul, Nat.reduceSub, Nat.reduceLeDiff, Nat.reduceBEq, Int.reduceToNat, Int.reduceLE, Int.reduceLT, Int.reduceEq, Int.reduceNe, di]
 by_cases hf : x.pp.length ≤ 6 ∧ x.ar.length ≤ 6
 rotate_left
 ·simp only [hf, vaE, ↓reduceIte, reduceCtorEq, Nat.reduceEqDiff, Nat.reduceAdd, Nat.reduceMul, Nat.reduceSub, Nat.reduceLeDiff, Nat.reduceBEq, Int.reduceToNat, Int.reduceLE, Int.reduceLT, Int.reduceEq, Int.reduceNe, di]
  all_goals (rw [if_neg (fun k => k.1)]; trivial)
 simp only [hf, vaE, ↓reduceIte, reduceCtorEq, Nat.reduceEqDiff, Nat.reduceAdd, Nat.reduceMul, Nat.reduceSub, Nat.reduceLeDiff, Nat.reduceBEq, Int.reduceToNat, Int.reduceLE, Int.reduceLT, Int.reduceEq, Int.reduceNe, di]
 by_cases h30 : 30 < (s.F.length : Int)
 ·simp only [h30, vaE, ↓reduceIte, reduceCtorEq, Nat.reduceEqDiff, Nat.reduceAdd, Nat.reduceMul, Nat.reduceSub, Nat.reduceLeDiff, Nat.reduceBEq, Int.reduceToNat, Int.reduceLE, Int.reduceLT, Int.reduceEq, Int.reduceNe, di]
  all_goals (rw [if_neg (fun k => k.1)]; trivial)
 by_cases h31 : 30 < (s.B.length : Int)
 ·simp only [h30, h31, vaE, ↓reduceIte, reduceCtorEq, Nat.reduceEqDiff, Nat.reduceAdd, Nat.reduceMul, Nat.reduceSub, Nat.reduceLeDiff, Nat.reduceBEq, Int.reduceToNat, Int.reduceLE, Int.reduceLT, Int.reduceEq, Int.reduceNe, di]
  all_goals (rw [if_neg (fun k => k.1)]; trivial)
 by_cases h32 : 10 < (s.L.length : Int)
 ·simp only [h30, h31, h32, vaE, ↓reduceIte, reduceCtorEq, Nat.reduceEqDiff, Nat.reduceAdd, Nat.reduceMul, Nat.reduceSub, Nat.reduceLeDiff, Nat.reduceBEq, Int.reduceToNat, Int.reduceLE, Int.reduceLT, Int.reduceEq, Int.reduceNe, di]
  all_goals (rw [if_neg (fun k => k.1)]; trivial)
 simp only [h30, h31, h32, vaE, ↓reduceIte, reduceCtorEq, Nat.reduceEqDiff, Nat.reduceAdd, Nat.reduceMul, Nat.reduceSub, Nat.reduceLeDiff, Nat.reduceBEq, Int.reduceToNat, Int.reduceLE, Int.reduceLT, Int.reduceEq, Int.reduceNe, di]
 have hx : Few x := ⟨by omega, by omega⟩
 have hs : FewG s := ⟨by omega, by omega, by omega⟩
 have q1 := w_SteadyOf (h := s.q) (g := g) hx
 have q2 := w_StateAt (t := t) hx hs
 have q3 := r_CopySteady hs
 simp only [gI, stdI] at q1
 simp only [stdI] at q2 q3
 refine calls_of (r_CopyLine hx) ?_; simp only [vaE, res15, b15k3, b15k4, b15k5, b15k6, ↓reduceIte, reduceCtorEq, Nat.reduceEqDiff, Nat.reduceAdd, Nat.reduceMul, Nat.reduceSub, Nat.reduceLeDiff, Nat.reduceBEq, Int.reduceToNat, Int.reduceLE, Int.reduceLT, Int.reduceEq, Int.reduceNe, di]
 refine calls_of q1 ?_; simp only [vaE, res15, b15k3, b15k4, b15k5, b15k6, ↓reduceIte, reduceCtorEq, Nat.reduceEqDiff, Nat.reduceAdd, Nat.reduceMul, Nat.reduceSub, Nat.reduceLeDiff, Nat.reduceBEq, Int.reduceToNat, Int.reduceLE, Int.reduceLT, Int.reduceEq, Int.reduceNe, di]
 refine calls_of (r_CopyLine hx) ?_; simp only [vaE, res15, b15k3, b15k4, b15k5, b15k6, ↓reduceIte, reduceCtorEq, Nat.reduceEqDiff, Nat.reduceAdd, Nat.reduceMul, Nat.reduceSub, Nat.reduceLeDiff, Nat.reduceBEq, Int.reduceToNat, Int.reduceLE, Int.reduceLT, Int.reduceEq, Int.reduceNe, di]
 refine calls_of q3 ?_; simp only [vaE, res15, b15k3, b15k4, b15k5, b15k6, ↓reduceIte, reduceCtorEq, Nat.reduceEqDiff, Nat.reduceAdd, Nat.reduceMul, Nat.reduceSub, Nat.reduceLeDiff, Nat.reduceBEq, Int.reduceToNat, Int.reduceLE, Int.reduceLT, Int.reduceEq, Int.reduceNe, di]
 refine calls_of q2 ?_; simp only [vaE, res15, b15k3, b15k4, b15k5, b15k6, ↓reduceIte, reduceCtorEq, Nat.reduceEqDiff, Nat.reduceAdd, Nat.reduceMul, Nat.reduceSub, Nat.reduceLeDiff, Nat.reduceBEq, Int.reduceToNat, Int.reduceLE, Int.reduceLT, Int.reduceEq, Int.reduceNe, di]
 refine calls_of (r_LineErr hx) ?_; simp only [vaE, res15, b15k3, b15k4, b15k5, b15k6, ↓reduceIte, reduceCtorEq, Nat.reduceEqDiff, Nat.reduceAdd, Nat.reduceMul, Nat.reduceSub, Nat.reduceLeDiff, Nat.reduceBEq, Int.reduceToNat, Int.reduceLE, Int.reduceLT, Int.reduceEq, Int.reduceNe, di]
 have same : ∀ (a : Sty), FewG a → Contract Try.prog 81 [stdI a, stdI a] (.bool true) := fun a ha => by
  have := r_SameSteady (a := a) (b := a) ha
  rwa [decide_eq_true rfl] at this
 by_cases h0 : (chkL x).2 = 0
 rotate_left
 ·have m1 : matE x s.q = (chkL x).2 := by unfold matE fstE; rw [if_neg h0]
  have e1 : osE x s.q g = (chkL x).2 := by unfold osE fstE; rw [m1, if_neg h0]
  have e2 : stdE x s = (chkL x).2 := by unfold stdE fstE; simp [h0]
  have e3 : satE x s t = (chkL x).2 := by unfold satE fstE; rw [e2, if_neg h0]
  have z1 : osZ x s.q g = emptySt := by unfold osZ; rw [e1, if_neg h0]
  have z2 : satZ x s t = emptyS := by unfold satZ; rw [e3, if_neg h0]
  have z3 : satC x s t = 0 := by unfold satC; rw [e3, if_neg h0]
  have q4 := same emptySt few_emptySt
  simp only [stdI, emptySt, List.map_nil] at q4
  rw [e1, e3, z1, z2, z3]
  simp only [h0, emptySt, vaE, ↓reduceIte, reduceCtorEq, Nat.reduceEqDiff, Nat.reduceAdd, Nat.reduceMul, Nat.reduceSub, Nat.reduceLeDiff, Nat.reduceBEq, Int.reduceToNat, Int.reduceLE, Int.reduceLT, Int.reduceEq, Int.reduceNe, di]
  refine calls_of q4 ?_; simp only [vaE, res15, b15k3, b15k4, b15k5, b15k6, ↓reduceIte, reduceCtorEq, Nat.reduceEqDiff, Nat.reduceAdd, Nat.reduceMul, Nat.reduceSub, Nat.reduceLeDiff, Nat.reduceBEq, Int.reduceToNat, Int.reduceLE, Int.reduceLT, Int.reduceEq, Int.reduceNe, di]
  refine calls_of (r_SameState (a := emptyS) (b := emptyS) few_empty) ?_; simp only [vaE, res15, b15k3, b15k4, b15k5, b15k6, ↓reduceIte, reduceCtorEq, Nat.reduceEqDiff, Nat.reduceAdd, Nat.reduceMul, Nat.reduceSub, Nat.reduceLeDiff, Nat.reduceBEq, Int.reduceToNat, Int.reduceLE, Int.reduceLT, Int.reduceEq, Int.reduceNe, di]
 simp only [h0, vaE, ↓reduceIte, reduceCtorEq, Nat.reduceEqDiff, Nat.reduceAdd, Nat.reduceMul, Nat.reduceSub, Nat.reduceLeDiff, Nat.reduceBEq, Int.reduceToNat, Int.reduceLE, Int.reduceLT, Int.reduceEq, Int.reduceNe, di]
 have hxo := chkL_ok.1 h0
 have m1 : matE x s.q = quarterE s.q := by unfold matE fstE; rw [if_pos h0]
 have tl := tail_WaveOscillations (t := t) hxo hs
 refine calls_of r_QuarterErr ?_; simp only [vaE, res15, b15k3, b15k4, b15k5, b15k6, ↓reduceIte, reduceCtorEq, Nat.reduceEqDiff, Nat.reduceAdd, Nat.reduceMul, Nat.reduceSub, Nat.reduceLeDiff, Nat.reduceBEq, Int.reduceToNat, Int.reduceLE, Int.reduceLT, Int.reduceEq, Int.reduceNe, di]
 by_cases hq : quarterE s.q = 0
 rotate_left
 ·have e1 : osE x s.q g = quarterE s.q := by unfold osE fstE; rw [m1, if_neg hq]
  have z1 : osZ x s.q g = emptySt := by unfold osZ; rw [e1, if_neg hq]
  have q4 := same emptySt few_emptySt
  simp only [stdI, emptySt, List.map_nil] at q4
  rw [e1, z1]
  simp only [hq, emptySt, vaE, ↓reduceIte, reduceCtorEq, Nat.reduceEqDiff, Nat.reduceAdd, Nat.reduceMul, Nat.reduceSub, Nat.reduceLeDiff, Nat.reduceBEq, Int.reduceToNat, Int.reduceLE, Int.reduceLT, Int.reduceEq, Int.reduceNe, di]
  refine calls_of q4 ?_; simp only [vaE, res15, b15k3, b15k4, b15k5, b15k6, ↓reduceIte, reduceCtorEq, Nat.reduceEqDiff, Nat.reduceAdd, Nat.reduceMul, Nat.reduceSub, Nat.reduceLeDiff, Nat.reduceBEq, Int.reduceToNat, Int.reduceLE, Int.reduceLT, Int.reduceEq, Int.reduceNe, di]
  simp only [hq, vaE, ↓reduceIte, reduceCtorEq, Nat.reduceEqDiff, Nat.reduceAdd, Nat.reduceMul, Nat.reduceSub, Nat.reduceLeDiff, Nat.reduceBEq, Int.reduceToNat, Int.reduceLE, Int.reduceLT, Int.reduceEq, Int.reduceNe, di]
  exact tl
 simp only [hq, vaE, ↓reduceIte, reduceCtorEq, Nat.reduceEqDiff, Nat.reduceAdd, Nat.reduceMul, Nat.reduceSub, Nat.reduceLeDiff, Nat.reduceBEq, Int.reduceToNat, Int.reduceLE, Int.reduceLT, Int.reduceEq, Int.reduceNe, di]
 have q5 := r_FlowErr (g := g)
 simp only [gI] at q5
 refine calls_of q5 ?_; simp only [vaE, res15, b15k3, b15k4, b15k5, b15k6, ↓reduceIte, reduceCtorEq, Nat.reduceEqDiff, Nat.reduceAdd, Nat.reduceMul, Nat.reduceSub, Nat.reduceLeDiff, Nat.reduceBEq, Int.reduceToNat, Int.reduceLE, Int.reduceLT, Int.reduceEq, Int.reduceNe, di]
 have e1 : osE x s.q g = flowE g := by unfold osE fstE; rw [m1, if_pos hq]
 by_cases hg : flowE g = 0
 rotate_left
 ·have z1 : osZ x s.q g = emptySt := by unfold osZ; rw [e1, if_neg hg]
  have q4 := same emptySt few_emptySt
  simp only [stdI, emptySt, List.map_nil] at q4
  rw [e1, z1]
  simp only [hg, emptySt, vaE, ↓reduceIte, reduceCtorEq, Nat.reduceEqDiff, Nat.reduceAdd, Nat.reduceMul, Nat.reduceSub, Nat.reduceLeDiff, Nat.reduceBEq, Int.reduceToNat, Int.reduceLE, Int.reduceLT, Int.reduceEq, Int.reduceNe, di]
  refine calls_of q4 ?_; simp only [vaE, res15, b15k3, b15k4, b15k5, b15k6, ↓reduceIte, reduceCtorEq, Nat.reduceEqDiff, Nat.reduceAdd, Nat.reduceMul, Nat.reduceSub, Nat.reduceLeDiff, Nat.reduceBEq, Int.reduceToNat, Int.reduceLE, Int.reduceLT, Int.reduceEq, Int.reduceNe, di]
  simp only [hg, vaE, ↓reduceIte, reduceCtorEq, Nat.reduceEqDiff, Nat.reduceAdd, Nat.reduceMul, Nat.reduceSub, Nat.reduceLeDiff, Nat.reduceBEq, Int.reduceToNat, Int.reduceLE, Int.reduceLT, Int.reduceEq, Int.reduceNe, di]
  exact tl
 have fo := few_osZ (x := x) (h := s.q) (g := g)
 have z1 : osZ x s.q g = styF (opn x) s.q (2 * g.1, 2 * g.2) := by unfold osZ; rw [e1, if_pos hg]
 have hqq : 0 ≤ s.q ∧ s.q ≤ 3 := by
  unfold quarterE at hq
  split at hq
  ·assumption
  ·omega
 have hgo : floOk g := by
  unfold flowE at hg
  split at hg
  ·assumption
  ·omega
 have q6 := r_Steady (x := x) hxo hqq hgo
 rw [z1] at fo
 rw [e1, z1]
 generalize styF (opn x) s.q (2 * g.1, 2 * g.2) = u at *
 have q4 := same u fo
 simp only [gI, stdI] at q4 q6
 simp only [hg, vaE, ↓reduceIte, reduceCtorEq, Nat.reduceEqDiff, Nat.reduceAdd, Nat.reduceMul, Nat.reduceSub, Nat.reduceLeDiff, Nat.reduceBEq, Int.reduceToNat, Int.reduceLE, Int.reduceLT, Int.reduceEq, Int.reduceNe, di]
 refine calls_of q6 ?_; simp only [vaE, res15, b15k3, b15k4, b15k5, b15k6, ↓reduceIte, reduceCtorEq, Nat.reduceEqDiff, Nat.reduceAdd, Nat.reduceMul, Nat.reduceSub, Nat.reduceLeDiff, Nat.reduceBEq, Int.reduceToNat, Int.reduceLE, Int.reduceLT, Int.reduceEq, Int.reduceNe, di]
 refine calls_of q4 ?_; simp only [vaE, res15, b15k3, b15k4, b15k5, b15k6, ↓reduceIte, reduceCtorEq, Nat.reduceEqDiff, Nat.reduceAdd, Nat.reduceMul, Nat.reduceSub, Nat.reduceLeDiff, Nat.reduceBEq, Int.reduceToNat, Int.reduceLE, Int.reduceLT, Int.reduceEq, Int.reduceNe, di]
 exact tl
end Go.DI

