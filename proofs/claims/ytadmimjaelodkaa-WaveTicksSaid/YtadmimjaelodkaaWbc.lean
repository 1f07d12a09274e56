/- The statement WaveTicks, as a contract. No condition. -/
import Derived.Test.YtadmimjaelodkaaWbb
set_option linter.unusedSimpArgs false
set_option maxRecDepth 100000
namespace Go.DI
open Go.Proofs Go.RowKit

theorem l_fewCells {s : Ws} : Contract Try.prog 19 [wsI s] (.bool (decide (s.F.length ≤ 30 ∧ s.B.length ≤ 30 ∧ s.L.length ≤ 10))) := by
  refine contract_run Try.func19 k19 rfl ?_
  simp only [body19, b19, res19, vaE, ↓reduceIte, reduceCtorEq, Nat.reduceEqDiff, Nat.reduceAdd, Nat.reduceMul, Nat.reduceSub, Nat.reduceLeDiff, Nat.reduceBEq, Int.reduceToNat, Int.reduceLE, Int.reduceLT, Int.reduceEq, Int.reduceNe, di]
  by_cases h1 : (s.F.length : Int) ≤ 30 ∧ (s.B.length : Int) ≤ 30
  · rw [if_pos h1]
    congr 2
    rw [decide_eq_decide]
    omega
  · rw [if_neg h1, decide_eq_false (by omega)]
def shortL (n : Nat) : Prop := n ≤ 70 ∨ (200 < n ∧ n ≤ 202)
instance (n : Nat) : Decidable (shortL n) := inferInstanceAs (Decidable (_ ∨ _))
theorem l_short {l : List Int} : Contract Try.prog 20 [nI l] (.bool (decide (shortL l.length))) := by
  refine contract_run Try.func20 k20 rfl ?_
  simp only [body20, b20, res20, vaE, ↓reduceIte, reduceCtorEq, Nat.reduceEqDiff, Nat.reduceAdd, Nat.reduceMul, Nat.reduceSub, Nat.reduceLeDiff, Nat.reduceBEq, Int.reduceToNat, Int.reduceLE, Int.reduceLT, Int.reduceEq, Int.reduceNe, di]
  by_cases h1 : (l.length : Int) ≤ 70
  · simp only [h1, vaE, ↓reduceIte, reduceCtorEq, Nat.reduceEqDiff, Nat.reduceAdd, Nat.reduceMul, Nat.reduceSub, Nat.reduceLeDiff, Nat.reduceBEq, Int.reduceToNat, Int.reduceLE, Int.reduceLT, Int.reduceEq, Int.reduceNe, di]
    rw [decide_eq_true (show shortL l.length from .inl (by omega))]
  simp only [h1, vaE, ↓reduceIte, reduceCtorEq, Nat.reduceEqDiff, Nat.reduceAdd, Nat.reduceMul, Nat.reduceSub, Nat.reduceLeDiff, Nat.reduceBEq, Int.reduceToNat, Int.reduceLE, Int.reduceLT, Int.reduceEq, Int.reduceNe, di]
  by_cases h2 : 200 < (l.length : Int)
  · simp only [h2, vaE, ↓reduceIte, reduceCtorEq, Nat.reduceEqDiff, Nat.reduceAdd, Nat.reduceMul, Nat.reduceSub, Nat.reduceLeDiff, Nat.reduceBEq, Int.reduceToNat, Int.reduceLE, Int.reduceLT, Int.reduceEq, Int.reduceNe, di]
    congr 2
    rw [decide_eq_decide]
    unfold shortL
    omega
  · simp only [h2, vaE, ↓reduceIte, reduceCtorEq, Nat.reduceEqDiff, Nat.reduceAdd, Nat.reduceMul, Nat.reduceSub, Nat.reduceLeDiff, Nat.reduceBEq, Int.reduceToNat, Int.reduceLE, Int.reduceLT, Int.reduceEq, Int.reduceNe, di]
    rw [decide_eq_false (show ¬ shortL l.length by unfold shortL; omega)]

theorem fold_close : ∀ (cl : List Int) (e : Int), cl.foldl (fun e n => fstE e (closeE n)) e = fstE e (firstNZ (cl.map closeE))
  | [], e => by unfold fstE; split <;> simp_all [firstNZ]
  | n :: r, e => by
    rw [List.foldl_cons, fold_close r, List.map_cons, firstNZ_cons]
    unfold fstE
    by_cases h : e = 0
    · rw [if_pos h, if_pos h]
    · rw [if_neg h, if_neg h, if_neg h]
theorem runE_closes {x : Ln} {s : Ws} {cl : List Int} (h : stE x s = 0) : runE x s cl = closesE cl := by
  unfold runE closesE
  rw [fold_close, h]
  by_cases h2 : 200 < (cl.length : Int)
  · rw [if_neg (by omega), if_pos h2]; rfl
  · rw [if_pos (show (cl.length : Int) ≤ 200 by omega), if_neg h2]; rfl
theorem runE_one {x : Ln} {s : Ws} {n : Int} (h : stE x s = 0) : runE x s [n] = closeE n := by
  rw [runE_closes h]
  show firstNZ [closeE n] = _
  unfold firstNZ
  split
  · rename_i h; rw [h]; rfl
  · rfl
theorem runE_odd {x : Ln} {s : Ws} {cl : List Int} (h : stE x s ≠ 0) : runE x s cl = stE x s := by
  unfold runE
  rw [fold_close]
  unfold fstE
  rw [if_neg h, if_neg h]

def emptyS : Ws := ⟨[], [], []⟩
def runZ (x : Ln) (s : Ws) (cl : List Int) : Ws := if runE x s cl = 0 then runS (opn x) s cl else emptyS
theorem w_RunOf' {x : Ln} {s : Ws} {cl : List Int} (hx : Few x) (hs : FewS s) (hc : cl.length ≤ 1000000) : Contract Try.prog 21 [lnI x, wsI s, nI cl] (.tup [wsI (runZ x s cl), .int .i64 (runE x s cl)]) := by
  have h := w_RunOf hx hs hc
  unfold runZ
  split at h
  · rename_i h0; rw [if_pos h0, h0]; exact h
  · rename_i h0; rw [if_neg h0]; exact h
theorem w_Stepped' {x : Ln} {s : Ws} {c : Int} (hx : Few x) (hs : FewS s) : Contract Try.prog 25 [lnI x, wsI s, .int .i64 c] (.tup [wsI (runZ x s [c]), .int .i64 (runE x s [c])]) := by
  have h := w_Stepped (c := c) hx hs
  unfold runZ
  split at h
  · rename_i h0; rw [if_pos h0, h0]; exact h
  · rename_i h0; rw [if_neg h0]; exact h
theorem few_sh {x : Ow} {s : Ws} (hx : OwOk x) (h : Sh x s) : FewS s := by
  have := hx.nb; have := hx.ars; have := hx.len
  have := h.f; have := h.b; have := h.l
  exact ⟨by omega, by omega, by omega⟩
theorem few_empty : FewS emptyS := ⟨by decide, by decide, by decide⟩
theorem few_runZ {x : Ln} {s : Ws} {cl : List Int} : FewS (runZ x s cl) := by
  unfold runZ
  split
  · rename_i h
    have hz := stE_zero.1 (runE_zero.1 h).1.1
    exact few_sh (opn_ok hz.1) (sh_run (opn_ok hz.1).nb.1 hz.2.sh)
  · exact few_empty
theorem tail_WaveTicks {x : Ln} {s : Ws} {cl : List Int} {c : Int} (hx : Few x) (hs : FewS s) (hc : cl.length ≤ 1000000) :
    run Try.prog b3k3 [] (d3.post (.bool true)) (mkS [(2, .imm (nI cl)), (3, .ref 3 0), (4, .ref 4 0), (7, .ref 7 0), (8, .imm (.int .i64 (runE x s cl))), (9, .imm (.int .i64 c))]
      [(3, .box [.imm (.slc 2 (x.pp.map ppI)), .imm (nI x.ar)]), (4, .box [.imm (nI s.F), .imm (nI s.B), .imm (nI s.L)]), (7, .box [.imm (nI (runZ x s cl).F), .imm (nI (runZ x s cl).B), .imm (nI (runZ x s cl).L)])]) := by
  simp only [b3k3, res3, b3k0, b3k1, b3k2, b3k3, b3k4, b3k5, vaE, ↓reduceIte, reduceCtorEq, Nat.reduceEqDiff, Nat.reduceAdd, Nat.reduceMul, Nat.reduceSub, Nat.reduceLeDiff, Nat.reduceBEq, Int.reduceToNat, Int.reduceLE, Int.reduceLT, Int.reduceEq, Int.reduceNe, di]
  refine calls_of (r_CopyLine hx) ?_; simp only [vaE, res3, b3k0, b3k1, b3k2, b3k3, b3k4, b3k5, ↓reduceIte, reduceCtorEq, Nat.reduceEqDiff, Nat.reduceAdd, Nat.reduceMul, Nat.reduceSub, Nat.reduceLeDiff, Nat.reduceBEq, Int.reduceToNat, Int.reduceLE, Int.reduceLT, Int.reduceEq, Int.reduceNe, di]
  refine calls_of (r_CopyState hs) ?_; simp only [vaE, res3, b3k0, b3k1, b3k2, b3k3, b3k4, b3k5, ↓reduceIte, reduceCtorEq, Nat.reduceEqDiff, Nat.reduceAdd, Nat.reduceMul, Nat.reduceSub, Nat.reduceLeDiff, Nat.reduceBEq, Int.reduceToNat, Int.reduceLE, Int.reduceLT, Int.reduceEq, Int.reduceNe, di]
  refine calls_of (w_Stepped' (c := c) hx hs) ?_; simp only [vaE, res3, b3k0, b3k1, b3k2, b3k3, b3k4, b3k5, ↓reduceIte, reduceCtorEq, Nat.reduceEqDiff, Nat.reduceAdd, Nat.reduceMul, Nat.reduceSub, Nat.reduceLeDiff, Nat.reduceBEq, Int.reduceToNat, Int.reduceLE, Int.reduceLT, Int.reduceEq, Int.reduceNe, di]
  refine calls_of (r_StateErr hx hs) ?_; simp only [vaE, res3, b3k0, b3k1, b3k2, b3k3, b3k4, b3k5, ↓reduceIte, reduceCtorEq, Nat.reduceEqDiff, Nat.reduceAdd, Nat.reduceMul, Nat.reduceSub, Nat.reduceLeDiff, Nat.reduceBEq, Int.reduceToNat, Int.reduceLE, Int.reduceLT, Int.reduceEq, Int.reduceNe, di]
  by_cases h0 : stE x s = 0
  rotate_left
  · have e1 := runE_odd (cl := cl) h0
    have e2 := runE_odd (cl := [c]) h0
    have z1 : runZ x s cl = emptyS := by unfold runZ; rw [e1, if_neg h0]
    have z2 : runZ x s [c] = emptyS := by unfold runZ; rw [e2, if_neg h0]
    rw [e1, e2, z1, z2]
    simp only [h0, vaE, ↓reduceIte, reduceCtorEq, Nat.reduceEqDiff, Nat.reduceAdd, Nat.reduceMul, Nat.reduceSub, Nat.reduceLeDiff, Nat.reduceBEq, Int.reduceToNat, Int.reduceLE, Int.reduceLT, Int.reduceEq, Int.reduceNe, di]
    refine calls_of (r_SameState (a := emptyS) (b := emptyS) few_empty) ?_; simp only [vaE, res3, b3k0, b3k1, b3k2, b3k3, b3k4, b3k5, ↓reduceIte, reduceCtorEq, Nat.reduceEqDiff, Nat.reduceAdd, Nat.reduceMul, Nat.reduceSub, Nat.reduceLeDiff, Nat.reduceBEq, Int.reduceToNat, Int.reduceLE, Int.reduceLT, Int.reduceEq, Int.reduceNe, di]
    refine calls_of (r_SameState (a := emptyS) (b := emptyS) few_empty) ?_; simp only [vaE, res3, b3k0, b3k1, b3k2, b3k3, b3k4, b3k5, ↓reduceIte, reduceCtorEq, Nat.reduceEqDiff, Nat.reduceAdd, Nat.reduceMul, Nat.reduceSub, Nat.reduceLeDiff, Nat.reduceBEq, Int.reduceToNat, Int.reduceLE, Int.reduceLT, Int.reduceEq, Int.reduceNe, di]
  have e1 := runE_closes (cl := cl) h0
  have e2 := runE_one (n := c) h0
  have z1 : runZ x s cl = if closesE cl = 0 then runS (opn x) s cl else emptyS := by unfold runZ; rw [e1]
  have z2 : runZ x s [c] = if closeE c = 0 then stp (opn x) s c else emptyS := by unfold runZ; rw [e2]; rfl
  have hz := stE_zero.1 h0
  have how := opn_ok hz.1
  rw [e1, e2]
  simp only [h0, vaE, ↓reduceIte, reduceCtorEq, Nat.reduceEqDiff, Nat.reduceAdd, Nat.reduceMul, Nat.reduceSub, Nat.reduceLeDiff, Nat.reduceBEq, Int.reduceToNat, Int.reduceLE, Int.reduceLT, Int.reduceEq, Int.reduceNe, di]
  refine calls_of r_ClosingErr ?_; simp only [vaE, res3, b3k0, b3k1, b3k2, b3k3, b3k4, b3k5, ↓reduceIte, reduceCtorEq, Nat.reduceEqDiff, Nat.reduceAdd, Nat.reduceMul, Nat.reduceSub, Nat.reduceLeDiff, Nat.reduceBEq, Int.reduceToNat, Int.reduceLE, Int.reduceLT, Int.reduceEq, Int.reduceNe, di]
  have fz := few_runZ (x := x) (s := s) (cl := cl)
  have fz2 := few_runZ (x := x) (s := s) (cl := [c])
  by_cases hd : closeE c = 0
  · rw [if_pos hd] at z2
    rw [z2] at fz2
    simp only [hd, z2, vaE, ↓reduceIte, reduceCtorEq, Nat.reduceEqDiff, Nat.reduceAdd, Nat.reduceMul, Nat.reduceSub, Nat.reduceLeDiff, Nat.reduceBEq, Int.reduceToNat, Int.reduceLE, Int.reduceLT, Int.reduceEq, Int.reduceNe, di]
    refine calls_of (r_Stepped (c := c) hz.1 hz.2.sh) ?_; simp only [vaE, res3, b3k0, b3k1, b3k2, b3k3, b3k4, b3k5, ↓reduceIte, reduceCtorEq, Nat.reduceEqDiff, Nat.reduceAdd, Nat.reduceMul, Nat.reduceSub, Nat.reduceLeDiff, Nat.reduceBEq, Int.reduceToNat, Int.reduceLE, Int.reduceLT, Int.reduceEq, Int.reduceNe, di]
    refine calls_of (r_SameState (a := stp (opn x) s c) (b := stp (opn x) s c) fz2) ?_; simp only [vaE, res3, b3k0, b3k1, b3k2, b3k3, b3k4, b3k5, ↓reduceIte, reduceCtorEq, Nat.reduceEqDiff, Nat.reduceAdd, Nat.reduceMul, Nat.reduceSub, Nat.reduceLeDiff, Nat.reduceBEq, Int.reduceToNat, Int.reduceLE, Int.reduceLT, Int.reduceEq, Int.reduceNe, di]
    refine calls_of (r_ClosingsErr hc) ?_; simp only [vaE, res3, b3k0, b3k1, b3k2, b3k3, b3k4, b3k5, ↓reduceIte, reduceCtorEq, Nat.reduceEqDiff, Nat.reduceAdd, Nat.reduceMul, Nat.reduceSub, Nat.reduceLeDiff, Nat.reduceBEq, Int.reduceToNat, Int.reduceLE, Int.reduceLT, Int.reduceEq, Int.reduceNe, di]
    by_cases hl : closesE cl = 0
    · rw [if_pos hl] at z1
      rw [z1] at fz
      simp only [hl, z1, vaE, ↓reduceIte, reduceCtorEq, Nat.reduceEqDiff, Nat.reduceAdd, Nat.reduceMul, Nat.reduceSub, Nat.reduceLeDiff, Nat.reduceBEq, Int.reduceToNat, Int.reduceLE, Int.reduceLT, Int.reduceEq, Int.reduceNe, di]
      refine calls_of (r_Run hz.1 hs hz.2.sh hc) ?_; simp only [vaE, res3, b3k0, b3k1, b3k2, b3k3, b3k4, b3k5, ↓reduceIte, reduceCtorEq, Nat.reduceEqDiff, Nat.reduceAdd, Nat.reduceMul, Nat.reduceSub, Nat.reduceLeDiff, Nat.reduceBEq, Int.reduceToNat, Int.reduceLE, Int.reduceLT, Int.reduceEq, Int.reduceNe, di]
      refine calls_of (r_SameState (a := runS (opn x) s cl) (b := runS (opn x) s cl) fz) ?_; simp only [vaE, res3, b3k0, b3k1, b3k2, b3k3, b3k4, b3k5, ↓reduceIte, reduceCtorEq, Nat.reduceEqDiff, Nat.reduceAdd, Nat.reduceMul, Nat.reduceSub, Nat.reduceLeDiff, Nat.reduceBEq, Int.reduceToNat, Int.reduceLE, Int.reduceLT, Int.reduceEq, Int.reduceNe, di]
    · rw [if_neg hl] at z1
      simp only [hl, z1, vaE, ↓reduceIte, reduceCtorEq, Nat.reduceEqDiff, Nat.reduceAdd, Nat.reduceMul, Nat.reduceSub, Nat.reduceLeDiff, Nat.reduceBEq, Int.reduceToNat, Int.reduceLE, Int.reduceLT, Int.reduceEq, Int.reduceNe, di]
      refine calls_of (r_SameState (a := emptyS) (b := emptyS) few_empty) ?_; simp only [vaE, res3, b3k0, b3k1, b3k2, b3k3, b3k4, b3k5, ↓reduceIte, reduceCtorEq, Nat.reduceEqDiff, Nat.reduceAdd, Nat.reduceMul, Nat.reduceSub, Nat.reduceLeDiff, Nat.reduceBEq, Int.reduceToNat, Int.reduceLE, Int.reduceLT, Int.reduceEq, Int.reduceNe, di]
  · rw [if_neg hd] at z2
    simp only [hd, z2, vaE, ↓reduceIte, reduceCtorEq, Nat.reduceEqDiff, Nat.reduceAdd, Nat.reduceMul, Nat.reduceSub, Nat.reduceLeDiff, Nat.reduceBEq, Int.reduceToNat, Int.reduceLE, Int.reduceLT, Int.reduceEq, Int.reduceNe, di]
    refine calls_of (r_SameState (a := emptyS) (b := emptyS) few_empty) ?_; simp only [vaE, res3, b3k0, b3k1, b3k2, b3k3, b3k4, b3k5, ↓reduceIte, reduceCtorEq, Nat.reduceEqDiff, Nat.reduceAdd, Nat.reduceMul, Nat.reduceSub, Nat.reduceLeDiff, Nat.reduceBEq, Int.reduceToNat, Int.reduceLE, Int.reduceLT, Int.reduceEq, Int.reduceNe, di]
    simp only [hd, vaE, ↓reduceIte, reduceCtorEq, Nat.reduceEqDiff, Nat.reduceAdd, Nat.reduceMul, Nat.reduceSub, Nat.reduceLeDiff, Nat.reduceBEq, Int.reduceToNat, Int.reduceLE, Int.reduceLT, Int.reduceEq, Int.reduceNe, di]
    refine calls_of (r_ClosingsErr hc) ?_; simp only [vaE, res3, b3k0, b3k1, b3k2, b3k3, b3k4, b3k5, ↓reduceIte, reduceCtorEq, Nat.reduceEqDiff, Nat.reduceAdd, Nat.reduceMul, Nat.reduceSub, Nat.reduceLeDiff, Nat.reduceBEq, Int.reduceToNat, Int.reduceLE, Int.reduceLT, Int.reduceEq, Int.reduceNe, di]
    by_cases hl : closesE cl = 0
    · rw [if_pos hl] at z1
      rw [z1] at fz
      simp only [hl, z1, vaE, ↓reduceIte, reduceCtorEq, Nat.reduceEqDiff, Nat.reduceAdd, Nat.reduceMul, Nat.reduceSub, Nat.reduceLeDiff, Nat.reduceBEq, Int.reduceToNat, Int.reduceLE, Int.reduceLT, Int.reduceEq, Int.reduceNe, di]
      refine calls_of (r_Run hz.1 hs hz.2.sh hc) ?_; simp only [vaE, res3, b3k0, b3k1, b3k2, b3k3, b3k4, b3k5, ↓reduceIte, reduceCtorEq, Nat.reduceEqDiff, Nat.reduceAdd, Nat.reduceMul, Nat.reduceSub, Nat.reduceLeDiff, Nat.reduceBEq, Int.reduceToNat, Int.reduceLE, Int.reduceLT, Int.reduceEq, Int.reduceNe, di]
      refine calls_of (r_SameState (a := runS (opn x) s cl) (b := runS (opn x) s cl) fz) ?_; simp only [vaE, res3, b3k0, b3k1, b3k2, b3k3, b3k4, b3k5, ↓reduceIte, reduceCtorEq, Nat.reduceEqDiff, Nat.reduceAdd, Nat.reduceMul, Nat.reduceSub, Nat.reduceLeDiff, Nat.reduceBEq, Int.reduceToNat, Int.reduceLE, Int.reduceLT, Int.reduceEq, Int.reduceNe, di]
    · rw [if_neg hl] at z1
      simp only [hl, z1, vaE, ↓reduceIte, reduceCtorEq, Nat.reduceEqDiff, Nat.reduceAdd, Nat.reduceMul, Nat.reduceSub, Nat.reduceLeDiff, Nat.reduceBEq, Int.reduceToNat, Int.reduceLE, Int.reduceLT, Int.reduceEq, Int.reduceNe, di]
      refine calls_of (r_SameState (a := emptyS) (b := emptyS) few_empty) ?_; simp only [vaE, res3, b3k0, b3k1, b3k2, b3k3, b3k4, b3k5, ↓reduceIte, reduceCtorEq, Nat.reduceEqDiff, Nat.reduceAdd, Nat.reduceMul, Nat.reduceSub, Nat.reduceLeDiff, Nat.reduceBEq, Int.reduceToNat, Int.reduceLE, Int.reduceLT, Int.reduceEq, Int.reduceNe, di]
theorem l_WaveTicks {x : Ln} {s : Ws} {cl : List Int} : Contract Try.prog 3 [lnI x, wsI s, nI cl] (.bool true) := by
  refine contract_run Try.func3 k3 rfl ?_
  simp only [body3, b3, res3, b3k4, b3k5, vaE, ↓reduceIte, reduceCtorEq, Nat.reduceEqDiff, Nat.reduceAdd, Nat.reduceMul, Nat.reduceSub, Nat.reduceLeDiff, Nat.reduceBEq, Int.reduceToNat, Int.reduceLE, Int.reduceLT, Int.reduceEq, Int.reduceNe, di]
  refine calls_of l_awake ?_; simp only [vaE, res3, b3k4, b3k5, ↓reduceIte, reduceCtorEq, Nat.reduceEqDiff, Nat.reduceAdd, Nat.reduceMul, Nat.reduceSub, Nat.reduceLeDiff, Nat.reduceBEq, Int.reduceToNat, Int.reduceLE, Int.reduceLT, Int.reduceEq, Int.reduceNe, di]
  refine calls_of l_few ?_; simp only [vaE, res3, b3k4, b3k5, ↓reduceIte, reduceCtorEq, Nat.reduceEqDiff, Nat.reduceAdd, Nat.reduceMul, Nat.reduceSub, Nat.reduceLeDiff, Nat.reduceBEq, Int.reduceToNat, Int.reduceLE, Int.reduceLT, Int.reduceEq, Int.reduceNe, di]
  by_cases hf : x.pp.length ≤ 6 ∧ x.ar.length ≤ 6
  rotate_left
  · simp only [hf, vaE, ↓reduceIte, reduceCtorEq, Nat.reduceEqDiff, Nat.reduceAdd, Nat.reduceMul, Nat.reduceSub, Nat.reduceLeDiff, Nat.reduceBEq, Int.reduceToNat, Int.reduceLE, Int.reduceLT, Int.reduceEq, Int.reduceNe, di]
  simp only [hf, vaE, ↓reduceIte, reduceCtorEq, Nat.reduceEqDiff, Nat.reduceAdd, Nat.reduceMul, Nat.reduceSub, Nat.reduceLeDiff, Nat.reduceBEq, Int.reduceToNat, Int.reduceLE, Int.reduceLT, Int.reduceEq, Int.reduceNe, di]
  refine calls_of l_fewCells ?_; simp only [vaE, res3, b3k4, b3k5, ↓reduceIte, reduceCtorEq, Nat.reduceEqDiff, Nat.reduceAdd, Nat.reduceMul, Nat.reduceSub, Nat.reduceLeDiff, Nat.reduceBEq, Int.reduceToNat, Int.reduceLE, Int.reduceLT, Int.reduceEq, Int.reduceNe, di]
  by_cases hf2 : s.F.length ≤ 30 ∧ s.B.length ≤ 30 ∧ s.L.length ≤ 10
  rotate_left
  · simp only [hf2, vaE, ↓reduceIte, reduceCtorEq, Nat.reduceEqDiff, Nat.reduceAdd, Nat.reduceMul, Nat.reduceSub, Nat.reduceLeDiff, Nat.reduceBEq, Int.reduceToNat, Int.reduceLE, Int.reduceLT, Int.reduceEq, Int.reduceNe, di]
  simp only [hf2, vaE, ↓reduceIte, reduceCtorEq, Nat.reduceEqDiff, Nat.reduceAdd, Nat.reduceMul, Nat.reduceSub, Nat.reduceLeDiff, Nat.reduceBEq, Int.reduceToNat, Int.reduceLE, Int.reduceLT, Int.reduceEq, Int.reduceNe, di]
  refine calls_of l_short ?_; simp only [vaE, res3, b3k4, b3k5, ↓reduceIte, reduceCtorEq, Nat.reduceEqDiff, Nat.reduceAdd, Nat.reduceMul, Nat.reduceSub, Nat.reduceLeDiff, Nat.reduceBEq, Int.reduceToNat, Int.reduceLE, Int.reduceLT, Int.reduceEq, Int.reduceNe, di]
  by_cases hf3 : shortL cl.length
  rotate_left
  · simp only [hf3, vaE, ↓reduceIte, reduceCtorEq, Nat.reduceEqDiff, Nat.reduceAdd, Nat.reduceMul, Nat.reduceSub, Nat.reduceLeDiff, Nat.reduceBEq, Int.reduceToNat, Int.reduceLE, Int.reduceLT, Int.reduceEq, Int.reduceNe, di]
  simp only [hf3, vaE, ↓reduceIte, reduceCtorEq, Nat.reduceEqDiff, Nat.reduceAdd, Nat.reduceMul, Nat.reduceSub, Nat.reduceLeDiff, Nat.reduceBEq, Int.reduceToNat, Int.reduceLE, Int.reduceLT, Int.reduceEq, Int.reduceNe, di]
  have hx : Few x := ⟨by omega, by omega⟩
  have hs : FewS s := ⟨by omega, by omega, by omega⟩
  have hc : cl.length ≤ 1000000 := by unfold shortL at hf3; omega
  refine calls_of (r_CopyLine hx) ?_; simp only [vaE, res3, b3k4, b3k5, ↓reduceIte, reduceCtorEq, Nat.reduceEqDiff, Nat.reduceAdd, Nat.reduceMul, Nat.reduceSub, Nat.reduceLeDiff, Nat.reduceBEq, Int.reduceToNat, Int.reduceLE, Int.reduceLT, Int.reduceEq, Int.reduceNe, di]
  refine calls_of (r_CopyState hs) ?_; simp only [vaE, res3, b3k4, b3k5, ↓reduceIte, reduceCtorEq, Nat.reduceEqDiff, Nat.reduceAdd, Nat.reduceMul, Nat.reduceSub, Nat.reduceLeDiff, Nat.reduceBEq, Int.reduceToNat, Int.reduceLE, Int.reduceLT, Int.reduceEq, Int.reduceNe, di]
  refine calls_of (c_CopyInts (a := cl) (by omega)) ?_; simp only [vaE, res3, b3k4, b3k5, ↓reduceIte, reduceCtorEq, Nat.reduceEqDiff, Nat.reduceAdd, Nat.reduceMul, Nat.reduceSub, Nat.reduceLeDiff, Nat.reduceBEq, Int.reduceToNat, Int.reduceLE, Int.reduceLT, Int.reduceEq, Int.reduceNe, di]
  refine calls_of (w_RunOf' hx hs hc) ?_; simp only [vaE, res3, b3k4, b3k5, ↓reduceIte, reduceCtorEq, Nat.reduceEqDiff, Nat.reduceAdd, Nat.reduceMul, Nat.reduceSub, Nat.reduceLeDiff, Nat.reduceBEq, Int.reduceToNat, Int.reduceLE, Int.reduceLT, Int.reduceEq, Int.reduceNe, di]
  split
  · rename_i h
    refine ⟨h, ?_⟩
    exact tail_WaveTicks hx hs hc
  · exact tail_WaveTicks hx hs hc
end Go.DI

