/- The statement WaveTasks, as a contract. No condition. -/
import Derived.Test.YtadmimjaelodkaaWcg
import Derived.Test.YtadmimjaelodkaaWce
set_option linter.unusedSimpArgs false
set_option maxRecDepth 100000
namespace Go.DI
open Go.Proofs Go.RowKit

def fbZ (x : Ln) (law : List Int) (t : Tk) : Int := if fbE x law t = 0 then (if beyN (opn x) law t = t.ti then 0 else beyN (opn x) law t) else 0
def fbW (x : Ln) (law : List Int) (t : Tk) : Int := if fbE x law t = 0 then (if beyN (opn x) law t = t.ti then 12 else 0) else fbE x law t
theorem w_FirstBeyond' {x : Ln} {law : List Int} {t : Tk} (hx : Few x) (hl : law.length ≤ 1000000) : Contract Try.prog 62 [lnI x, nI law, tkI t] (e2I (fbZ x law t, fbW x law t)) := by
  have h := w_FirstBeyond (t := t) hx hl
  unfold fbZ fbW
  split at h
  · rename_i h0
    rw [if_pos h0, if_pos h0]
    split at h
    · rename_i h1; rw [if_pos h1, if_pos h1]; exact h
    · rename_i h1; rw [if_neg h1, if_neg h1]; exact h
  · rename_i h0; rw [if_neg h0, if_neg h0]; exact h
def fastZ (x : Ln) (t : Tk) : List Int := if fastE x t = 0 then fast (opn x) t else []
def fastW (x : Ln) (t : Tk) : Int := if fastE x t = 0 then (if fast (opn x) t = [] then 12 else 0) else fastE x t
theorem w_FastestLaw' {x : Ln} {t : Tk} (hx : Few x) : Contract Try.prog 56 [lnI x, tkI t] (.tup [nI (fastZ x t), .int .i64 (fastW x t)]) := by
  have h := w_FastestLaw (t := t) hx
  unfold fastZ fastW
  split at h
  · rename_i h0; rw [if_pos h0, if_pos h0]; exact h
  · rename_i h0; rw [if_neg h0, if_neg h0]; exact h

theorem fastL_len {x : Ow} {t : Tk} : ∀ (k c : Nat), (fastL x t c k).length ≤ c + k
  | 0, c => Nat.zero_le _
  | k + 1, c => by
    unfold fastL
    rw [lawsL_nil]
    split
    · rename_i l h
      have := refL_elem c 0 l (List.mem_of_find?_eq_some h)
      omega
    · have := fastL_len (x := x) (t := t) k (c + 1)
      omega
theorem fast_len {x : Ow} {t : Tk} (ht : TkOk t) : (fast x t).length ≤ 1000000000000 := by
  have := fastL_len (x := x) (t := t) t.mo.toNat 0
  have := ht.mo
  unfold fast
  omega
theorem tail_WaveTasks {x : Ln} {t : Tk} (hx : LineOk x) :
    run Try.prog b10k2 [] (d10.post (.bool true)) (mkS [(3, .ref 3 0), (5, .ref 5 0), (9, .imm (nI (fastZ x t))), (10, .imm (.int .i64 (fastW x t)))]
      [(3, .box [.imm (.slc 2 (x.pp.map ppI)), .imm (nI x.ar)]), (5, .box [.imm (.int .i64 t.cl), .imm (.int .i64 t.mo), .imm (.int .i64 t.ti), .imm (.int .i64 t.lo), .imm (.int .i64 t.hi)])]) := by
  have e2 : fastE x t = taskE t := by unfold fastE fstE; rw [if_pos (chkL_ok.2 hx)]
  simp only [b10k2, res10, b10k0, b10k1, b10k2, b10k3, b10k4, b10k5, b10k6, vaE, ↓reduceIte, reduceCtorEq, Nat.reduceEqDiff, Nat.reduceAdd, Nat.reduceMul, Nat.reduceSub, Nat.reduceLeDiff, Nat.reduceBEq, Int.reduceToNat, Int.reduceLE, Int.reduceLT, Int.reduceEq, Int.reduceNe, di]
  refine calls_of r_TaskErr ?_; simp only [vaE, res10, b10k0, b10k1, b10k2, b10k3, b10k4, b10k5, b10k6, ↓reduceIte, reduceCtorEq, Nat.reduceEqDiff, Nat.reduceAdd, Nat.reduceMul, Nat.reduceSub, Nat.reduceLeDiff, Nat.reduceBEq, Int.reduceToNat, Int.reduceLE, Int.reduceLT, Int.reduceEq, Int.reduceNe, di]
  by_cases h0 : taskE t = 0
  rotate_left
  · have z3 : fastZ x t = [] := by unfold fastZ; rw [e2, if_neg h0]
    have z4 : fastW x t = taskE t := by unfold fastW; rw [e2, if_neg h0]
    rw [z3, z4]
    simp only [h0, vaE, ↓reduceIte, reduceCtorEq, Nat.reduceEqDiff, Nat.reduceAdd, Nat.reduceMul, Nat.reduceSub, Nat.reduceLeDiff, Nat.reduceBEq, Int.reduceToNat, Int.reduceLE, Int.reduceLT, Int.reduceEq, Int.reduceNe, di]
  have ht := taskE_zero.1 h0
  have z3 : fastZ x t = fast (opn x) t := by unfold fastZ; rw [e2, if_pos h0]
  have z4 : fastW x t = if fast (opn x) t = [] then 12 else 0 := by unfold fastW; rw [e2, if_pos h0]
  simp only [h0, vaE, ↓reduceIte, reduceCtorEq, Nat.reduceEqDiff, Nat.reduceAdd, Nat.reduceMul, Nat.reduceSub, Nat.reduceLeDiff, Nat.reduceBEq, Int.reduceToNat, Int.reduceLE, Int.reduceLT, Int.reduceEq, Int.reduceNe, di]
  refine calls_of (r_Fastest hx ht) ?_; simp only [vaE, res10, b10k0, b10k1, b10k2, b10k3, b10k4, b10k5, b10k6, ↓reduceIte, reduceCtorEq, Nat.reduceEqDiff, Nat.reduceAdd, Nat.reduceMul, Nat.reduceSub, Nat.reduceLeDiff, Nat.reduceBEq, Int.reduceToNat, Int.reduceLE, Int.reduceLT, Int.reduceEq, Int.reduceNe, di]
  rw [z3, z4]
  by_cases h1 : fast (opn x) t = []
  · simp only [h1, vaE, ↓reduceIte, reduceCtorEq, Nat.reduceEqDiff, Nat.reduceAdd, Nat.reduceMul, Nat.reduceSub, Nat.reduceLeDiff, Nat.reduceBEq, Int.reduceToNat, Int.reduceLE, Int.reduceLT, Int.reduceEq, Int.reduceNe, di]
  · simp only [h1, vaE, ↓reduceIte, reduceCtorEq, Nat.reduceEqDiff, Nat.reduceAdd, Nat.reduceMul, Nat.reduceSub, Nat.reduceLeDiff, Nat.reduceBEq, Int.reduceToNat, Int.reduceLE, Int.reduceLT, Int.reduceEq, Int.reduceNe, di]
    refine calls_of (c_Ints (a := fast (opn x) t) (b := fast (opn x) t) (fast_len ht)) ?_; simp only [vaE, res10, b10k0, b10k1, b10k2, b10k3, b10k4, b10k5, b10k6, ↓reduceIte, reduceCtorEq, Nat.reduceEqDiff, Nat.reduceAdd, Nat.reduceMul, Nat.reduceSub, Nat.reduceLeDiff, Nat.reduceBEq, Int.reduceToNat, Int.reduceLE, Int.reduceLT, Int.reduceEq, Int.reduceNe, di]
theorem l_WaveTasks {x : Ln} {law : List Int} {t : Tk} : Contract Try.prog 10 [lnI x, nI law, tkI t] (.bool true) := by
  refine contract_run Try.func10 k10 rfl ?_
  simp only [body10, b10, res10, b10k3, b10k4, b10k5, b10k6, vaE, ↓reduceIte, reduceCtorEq, Nat.reduceEqDiff, Nat.reduceAdd, Nat.reduceMul, Nat.reduceSub, Nat.reduceLeDiff, Nat.reduceBEq, Int.reduceToNat, Int.reduceLE, Int.reduceLT, Int.reduceEq, Int.reduceNe, di]
  refine calls_of l_awake ?_; simp only [vaE, res10, b10k3, b10k4, b10k5, b10k6, ↓reduceIte, reduceCtorEq, Nat.reduceEqDiff, Nat.reduceAdd, Nat.reduceMul, Nat.reduceSub, Nat.reduceLeDiff, Nat.reduceBEq, Int.reduceToNat, Int.reduceLE, Int.reduceLT, Int.reduceEq, Int.reduceNe, di]
  refine calls_of l_few ?_; simp only [vaE, res10, b10k3, b10k4, b10k5, b10k6, ↓reduceIte, reduceCtorEq, Nat.reduceEqDiff, Nat.reduceAdd, Nat.reduceMul, Nat.reduceSub, Nat.reduceLeDiff, Nat.reduceBEq, Int.reduceToNat, Int.reduceLE, Int.reduceLT, Int.reduceEq, Int.reduceNe, di]
  by_cases hf : x.pp.length ≤ 6 ∧ x.ar.length ≤ 6
  rotate_left
  · simp only [hf, false_and, vaE, ↓reduceIte, reduceCtorEq, Nat.reduceEqDiff, Nat.reduceAdd, Nat.reduceMul, Nat.reduceSub, Nat.reduceLeDiff, Nat.reduceBEq, Int.reduceToNat, Int.reduceLE, Int.reduceLT, Int.reduceEq, Int.reduceNe, di]
  simp only [hf, vaE, ↓reduceIte, reduceCtorEq, Nat.reduceEqDiff, Nat.reduceAdd, Nat.reduceMul, Nat.reduceSub, Nat.reduceLeDiff, Nat.reduceBEq, Int.reduceToNat, Int.reduceLE, Int.reduceLT, Int.reduceEq, Int.reduceNe, di]
  have hx : Few x := ⟨by omega, by omega⟩
  by_cases hl : (70 : Int) < law.length
  · simp only [hl, vaE, ↓reduceIte, reduceCtorEq, Nat.reduceEqDiff, Nat.reduceAdd, Nat.reduceMul, Nat.reduceSub, Nat.reduceLeDiff, Nat.reduceBEq, Int.reduceToNat, Int.reduceLE, Int.reduceLT, Int.reduceEq, Int.reduceNe, di]
  simp only [hl, vaE, ↓reduceIte, reduceCtorEq, Nat.reduceEqDiff, Nat.reduceAdd, Nat.reduceMul, Nat.reduceSub, Nat.reduceLeDiff, Nat.reduceBEq, Int.reduceToNat, Int.reduceLE, Int.reduceLT, Int.reduceEq, Int.reduceNe, di]
  have hl2 : law.length ≤ 1000000 := by omega
  refine calls_of r_TaskErr ?_; simp only [vaE, res10, b10k3, b10k4, b10k5, b10k6, ↓reduceIte, reduceCtorEq, Nat.reduceEqDiff, Nat.reduceAdd, Nat.reduceMul, Nat.reduceSub, Nat.reduceLeDiff, Nat.reduceBEq, Int.reduceToNat, Int.reduceLE, Int.reduceLT, Int.reduceEq, Int.reduceNe, di]
  split
  · trivial
  refine calls_of (r_CopyLine hx) ?_; simp only [vaE, res10, b10k3, b10k4, b10k5, b10k6, ↓reduceIte, reduceCtorEq, Nat.reduceEqDiff, Nat.reduceAdd, Nat.reduceMul, Nat.reduceSub, Nat.reduceLeDiff, Nat.reduceBEq, Int.reduceToNat, Int.reduceLE, Int.reduceLT, Int.reduceEq, Int.reduceNe, di]
  refine calls_of (c_CopyInts (a := law) (by omega)) ?_; simp only [vaE, res10, b10k3, b10k4, b10k5, b10k6, ↓reduceIte, reduceCtorEq, Nat.reduceEqDiff, Nat.reduceAdd, Nat.reduceMul, Nat.reduceSub, Nat.reduceLeDiff, Nat.reduceBEq, Int.reduceToNat, Int.reduceLE, Int.reduceLT, Int.reduceEq, Int.reduceNe, di]
  refine calls_of (w_FirstBeyond' (t := t) hx hl2) ?_; simp only [vaE, res10, b10k3, b10k4, b10k5, b10k6, ↓reduceIte, reduceCtorEq, Nat.reduceEqDiff, Nat.reduceAdd, Nat.reduceMul, Nat.reduceSub, Nat.reduceLeDiff, Nat.reduceBEq, Int.reduceToNat, Int.reduceLE, Int.reduceLT, Int.reduceEq, Int.reduceNe, di]
  refine calls_of (r_CopyLine hx) ?_; simp only [vaE, res10, b10k3, b10k4, b10k5, b10k6, ↓reduceIte, reduceCtorEq, Nat.reduceEqDiff, Nat.reduceAdd, Nat.reduceMul, Nat.reduceSub, Nat.reduceLeDiff, Nat.reduceBEq, Int.reduceToNat, Int.reduceLE, Int.reduceLT, Int.reduceEq, Int.reduceNe, di]
  refine calls_of (w_FastestLaw' (t := t) hx) ?_; simp only [vaE, res10, b10k3, b10k4, b10k5, b10k6, ↓reduceIte, reduceCtorEq, Nat.reduceEqDiff, Nat.reduceAdd, Nat.reduceMul, Nat.reduceSub, Nat.reduceLeDiff, Nat.reduceBEq, Int.reduceToNat, Int.reduceLE, Int.reduceLT, Int.reduceEq, Int.reduceNe, di]
  refine calls_of (r_LineErr hx) ?_; simp only [vaE, res10, b10k3, b10k4, b10k5, b10k6, ↓reduceIte, reduceCtorEq, Nat.reduceEqDiff, Nat.reduceAdd, Nat.reduceMul, Nat.reduceSub, Nat.reduceLeDiff, Nat.reduceBEq, Int.reduceToNat, Int.reduceLE, Int.reduceLT, Int.reduceEq, Int.reduceNe, di]
  by_cases h0 : (chkL x).2 = 0
  rotate_left
  · have e1 : fbE x law t = (chkL x).2 := by unfold fbE firstNZ; rw [if_neg h0]
    have e2 : fastE x t = (chkL x).2 := by unfold fastE fstE; rw [if_neg h0]
    have z1 : fbZ x law t = 0 := by unfold fbZ; rw [e1, if_neg h0]
    have z2 : fbW x law t = (chkL x).2 := by unfold fbW; rw [e1, if_neg h0]
    have z3 : fastZ x t = [] := by unfold fastZ; rw [e2, if_neg h0]
    have z4 : fastW x t = (chkL x).2 := by unfold fastW; rw [e2, if_neg h0]
    rw [z1, z2, z3, z4]
    simp only [h0, vaE, ↓reduceIte, reduceCtorEq, Nat.reduceEqDiff, Nat.reduceAdd, Nat.reduceMul, Nat.reduceSub, Nat.reduceLeDiff, Nat.reduceBEq, Int.reduceToNat, Int.reduceLE, Int.reduceLT, Int.reduceEq, Int.reduceNe, di]
  simp only [h0, vaE, ↓reduceIte, reduceCtorEq, Nat.reduceEqDiff, Nat.reduceAdd, Nat.reduceMul, Nat.reduceSub, Nat.reduceLeDiff, Nat.reduceBEq, Int.reduceToNat, Int.reduceLE, Int.reduceLT, Int.reduceEq, Int.reduceNe, di]
  have hxo := chkL_ok.1 h0
  refine calls_of (r_LawErr hl2) ?_; simp only [vaE, res10, b10k3, b10k4, b10k5, b10k6, ↓reduceIte, reduceCtorEq, Nat.reduceEqDiff, Nat.reduceAdd, Nat.reduceMul, Nat.reduceSub, Nat.reduceLeDiff, Nat.reduceBEq, Int.reduceToNat, Int.reduceLE, Int.reduceLT, Int.reduceEq, Int.reduceNe, di]
  by_cases hw : (chkW law).2 = 0
  rotate_left
  · have e1 : fbE x law t = (chkW law).2 := by unfold fbE firstNZ; rw [if_pos h0]; unfold firstNZ; rw [if_neg hw]
    have z1 : fbZ x law t = 0 := by unfold fbZ; rw [e1, if_neg hw]
    have z2 : fbW x law t = (chkW law).2 := by unfold fbW; rw [e1, if_neg hw]
    rw [z1, z2]
    simp only [hw, vaE, ↓reduceIte, reduceCtorEq, Nat.reduceEqDiff, Nat.reduceAdd, Nat.reduceMul, Nat.reduceSub, Nat.reduceLeDiff, Nat.reduceBEq, Int.reduceToNat, Int.reduceLE, Int.reduceLT, Int.reduceEq, Int.reduceNe, di]
    exact tail_WaveTasks hxo
  have e1 : fbE x law t = taskE t := by unfold fbE firstNZ; rw [if_pos h0]; unfold firstNZ; rw [if_pos hw]; unfold firstNZ; split <;> simp_all [firstNZ]
  simp only [hw, vaE, ↓reduceIte, reduceCtorEq, Nat.reduceEqDiff, Nat.reduceAdd, Nat.reduceMul, Nat.reduceSub, Nat.reduceLeDiff, Nat.reduceBEq, Int.reduceToNat, Int.reduceLE, Int.reduceLT, Int.reduceEq, Int.reduceNe, di]
  refine calls_of r_TaskErr ?_; simp only [vaE, res10, b10k3, b10k4, b10k5, b10k6, ↓reduceIte, reduceCtorEq, Nat.reduceEqDiff, Nat.reduceAdd, Nat.reduceMul, Nat.reduceSub, Nat.reduceLeDiff, Nat.reduceBEq, Int.reduceToNat, Int.reduceLE, Int.reduceLT, Int.reduceEq, Int.reduceNe, di]
  by_cases ht0 : taskE t = 0
  rotate_left
  · have z1 : fbZ x law t = 0 := by unfold fbZ; rw [e1, if_neg ht0]
    have z2 : fbW x law t = taskE t := by unfold fbW; rw [e1, if_neg ht0]
    rw [z1, z2]
    simp only [ht0, vaE, ↓reduceIte, reduceCtorEq, Nat.reduceEqDiff, Nat.reduceAdd, Nat.reduceMul, Nat.reduceSub, Nat.reduceLeDiff, Nat.reduceBEq, Int.reduceToNat, Int.reduceLE, Int.reduceLT, Int.reduceEq, Int.reduceNe, di]
    exact tail_WaveTasks hxo
  have ht := taskE_zero.1 ht0
  have z1 : fbZ x law t = if beyN (opn x) law t = t.ti then 0 else beyN (opn x) law t := by unfold fbZ; rw [e1, if_pos ht0]
  have z2 : fbW x law t = if beyN (opn x) law t = t.ti then 12 else 0 := by unfold fbW; rw [e1, if_pos ht0]
  simp only [ht0, vaE, ↓reduceIte, reduceCtorEq, Nat.reduceEqDiff, Nat.reduceAdd, Nat.reduceMul, Nat.reduceSub, Nat.reduceLeDiff, Nat.reduceBEq, Int.reduceToNat, Int.reduceLE, Int.reduceLT, Int.reduceEq, Int.reduceNe, di]
  have hb := r_Beyond (law := law) hxo hl2 ht
  rw [z1, z2]
  by_cases hk : keeps (opn x) t law = true
  · have hk2 : beyN (opn x) law t = t.ti := of_decide_eq_true hk
    rw [if_pos hk] at hb
    refine calls_of hb ?_; simp only [vaE, res10, b10k3, b10k4, b10k5, b10k6, ↓reduceIte, reduceCtorEq, Nat.reduceEqDiff, Nat.reduceAdd, Nat.reduceMul, Nat.reduceSub, Nat.reduceLeDiff, Nat.reduceBEq, Int.reduceToNat, Int.reduceLE, Int.reduceLT, Int.reduceEq, Int.reduceNe, di]
    simp only [hk2, vaE, ↓reduceIte, reduceCtorEq, Nat.reduceEqDiff, Nat.reduceAdd, Nat.reduceMul, Nat.reduceSub, Nat.reduceLeDiff, Nat.reduceBEq, Int.reduceToNat, Int.reduceLE, Int.reduceLT, Int.reduceEq, Int.reduceNe, di]
    exact tail_WaveTasks hxo
  · have hk2 : ¬ beyN (opn x) law t = t.ti := of_decide_eq_false (Bool.not_eq_true _ ▸ hk)
    rw [if_neg hk] at hb
    refine calls_of hb ?_; simp only [vaE, res10, b10k3, b10k4, b10k5, b10k6, ↓reduceIte, reduceCtorEq, Nat.reduceEqDiff, Nat.reduceAdd, Nat.reduceMul, Nat.reduceSub, Nat.reduceLeDiff, Nat.reduceBEq, Int.reduceToNat, Int.reduceLE, Int.reduceLT, Int.reduceEq, Int.reduceNe, di]
    simp only [hk2, vaE, ↓reduceIte, reduceCtorEq, Nat.reduceEqDiff, Nat.reduceAdd, Nat.reduceMul, Nat.reduceSub, Nat.reduceLeDiff, Nat.reduceBEq, Int.reduceToNat, Int.reduceLE, Int.reduceLT, Int.reduceEq, Int.reduceNe, di]
    exact tail_WaveTasks hxo
end Go.DI

