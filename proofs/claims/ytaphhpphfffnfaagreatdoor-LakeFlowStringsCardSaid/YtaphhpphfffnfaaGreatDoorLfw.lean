/- Contracts: the program's steps, runs and usable volumes, as it hands them out. No condition. -/
import Derived.Test.YtaphhpphfffnfaaGreatDoorLfv
set_option linter.unusedSimpArgs false
namespace Go.DI
open Go.Proofs Go.RowKit Lk

def stepE (p : Pair) (s : Sta) (x : Flow) : Int := if bothErr p s = 0 then flowErr x else bothErr p s
/-- A step as it is handed out. -/
def stepO (p : Pair) (s : Sta) (x : Flow) : Sta × (Int × Int) × Int :=
  if stepE p s x = 0 then
    match Lk.step p s x with
    | some (t, e, f) => (t, (e, f), 0)
    | none => ((0, 0), (0, 0), 22)
  else ((0, 0), (0, 0), stepE p s x)
def outI (r : Sta × (Int × Int) × Int) : IV := .tup [.agg [.int .i64 r.1.1, .int .i64 r.1.2], .agg [.int .i64 r.2.1.1, .int .i64 r.2.1.2], .int .i64 r.2.2]

theorem bothErr_ok {p : Pair} {s : Sta} : bothErr p s = 0 ↔ VPair p ∧ stOk p s := by
  unfold bothErr
  constructor
  · intro h
    split at h
    · rename_i h1
      split at h
      · rename_i h2; exact ⟨pairErr_ok.1 h1, h2⟩
      · omega
    · contradiction
  · intro ⟨h1, h2⟩
    rw [if_pos (pairErr_ok.2 h1), if_pos h2]
theorem flowErr_ok {x : Flow} : flowErr x = 0 ↔ flowOk x := by
  unfold flowErr
  split
  · rename_i h; simp [h]
  · rename_i h; simp [h]

theorem p_Step {p : Pair} {s : Sta} {x : Flow} (h : Sm p) : Contract Tryz.prog 113 [lpI p, stI s, flI x] (outI (stepO p s x)) := by
  unfold stepO
  refine contract_run Tryz.func113 k113 rfl ?_
  simp only [body113, b113, res113, b113k0, lkE, ↓reduceIte, reduceCtorEq, Nat.reduceEqDiff, Nat.reduceAdd, Nat.reduceMul, Nat.reduceSub, Nat.reduceLeDiff, Nat.reduceBEq, Int.reduceToNat, Int.reduceLE, Int.reduceLT, Int.reduceEq, Int.reduceNe, di]
  refine calls_of (p_openState h) ?_; simp only [lkE, res113, b113k0, ↓reduceIte, reduceCtorEq, Nat.reduceEqDiff, Nat.reduceAdd, Nat.reduceMul, Nat.reduceSub, Nat.reduceLeDiff, Nat.reduceBEq, Int.reduceToNat, Int.reduceLE, Int.reduceLT, Int.reduceEq, Int.reduceNe, di]
  refine calls_of p_flowsErr ?_; simp only [lkE, res113, b113k0, ↓reduceIte, reduceCtorEq, Nat.reduceEqDiff, Nat.reduceAdd, Nat.reduceMul, Nat.reduceSub, Nat.reduceLeDiff, Nat.reduceBEq, Int.reduceToNat, Int.reduceLE, Int.reduceLT, Int.reduceEq, Int.reduceNe, di]
  refine calls_of p_first2 ?_; simp only [lkE, res113, b113k0, ↓reduceIte, reduceCtorEq, Nat.reduceEqDiff, Nat.reduceAdd, Nat.reduceMul, Nat.reduceSub, Nat.reduceLeDiff, Nat.reduceBEq, Int.reduceToNat, Int.reduceLE, Int.reduceLT, Int.reduceEq, Int.reduceNe, di]
  unfold stepE
  by_cases h0 : bothErr p s = 0
  · simp only [if_pos h0]
    have hv := bothErr_ok.1 h0
    by_cases h1 : flowErr x = 0
    · simp only [if_pos h1, lkE, ↓reduceIte, reduceCtorEq, Nat.reduceEqDiff, Nat.reduceAdd, Nat.reduceMul, Nat.reduceSub, Nat.reduceLeDiff, Nat.reduceBEq, Int.reduceToNat, Int.reduceLE, Int.reduceLT, Int.reduceEq, Int.reduceNe, di]
      refine calls_of (p_step hv.1 hv.2 (flowErr_ok.1 h1)) ?_; simp only [lkE, res113, b113k0, ↓reduceIte, reduceCtorEq, Nat.reduceEqDiff, Nat.reduceAdd, Nat.reduceMul, Nat.reduceSub, Nat.reduceLeDiff, Nat.reduceBEq, Int.reduceToNat, Int.reduceLE, Int.reduceLT, Int.reduceEq, Int.reduceNe, di]
      cases hst : Lk.step p s x with
      | none =>
        simp only [stepI, res113, b113k0, lkE, ↓reduceIte, reduceCtorEq, Nat.reduceEqDiff, Nat.reduceAdd, Nat.reduceMul, Nat.reduceSub, Nat.reduceLeDiff, Nat.reduceBEq, Int.reduceToNat, Int.reduceLE, Int.reduceLT, Int.reduceEq, Int.reduceNe, di]
        refine calls_of p_unless ?_; simp only [lkE, res113, b113k0, ↓reduceIte, reduceCtorEq, Nat.reduceEqDiff, Nat.reduceAdd, Nat.reduceMul, Nat.reduceSub, Nat.reduceLeDiff, Nat.reduceBEq, Int.reduceToNat, Int.reduceLE, Int.reduceLT, Int.reduceEq, Int.reduceNe, di]
        rfl
      | some r =>
        obtain ⟨t, e, f⟩ := r
        simp only [stepI, res113, b113k0, lkE, ↓reduceIte, reduceCtorEq, Nat.reduceEqDiff, Nat.reduceAdd, Nat.reduceMul, Nat.reduceSub, Nat.reduceLeDiff, Nat.reduceBEq, Int.reduceToNat, Int.reduceLE, Int.reduceLT, Int.reduceEq, Int.reduceNe, di]
        refine calls_of p_unless ?_; simp only [lkE, res113, b113k0, ↓reduceIte, reduceCtorEq, Nat.reduceEqDiff, Nat.reduceAdd, Nat.reduceMul, Nat.reduceSub, Nat.reduceLeDiff, Nat.reduceBEq, Int.reduceToNat, Int.reduceLE, Int.reduceLT, Int.reduceEq, Int.reduceNe, di]
        rfl
    · simp only [if_neg h1, lkE, ↓reduceIte, reduceCtorEq, Nat.reduceEqDiff, Nat.reduceAdd, Nat.reduceMul, Nat.reduceSub, Nat.reduceLeDiff, Nat.reduceBEq, Int.reduceToNat, Int.reduceLE, Int.reduceLT, Int.reduceEq, Int.reduceNe, di]
      rfl
  · simp only [if_neg h0, lkE, ↓reduceIte, reduceCtorEq, Nat.reduceEqDiff, Nat.reduceAdd, Nat.reduceMul, Nat.reduceSub, Nat.reduceLeDiff, Nat.reduceBEq, Int.reduceToNat, Int.reduceLE, Int.reduceLT, Int.reduceEq, Int.reduceNe, di]
    rfl

/-- The error of flows, tick by tick. -/
def listErr (l : List Flow) : Int := if 200 < l.length then 8 else (firstE (fun i => flowErr (l.getD i default)) l.length 0).2

theorem listErr_ok {l : List Flow} : listErr l = 0 ↔ l.length ≤ 200 ∧ ∀ x ∈ l, flowOk x := by
  unfold listErr
  constructor
  · intro h
    split at h
    · omega
    · refine ⟨by omega, fun x hx => ?_⟩
      rw [firstE_ok] at h
      obtain ⟨i, hi, rfl⟩ := List.getElem_of_mem hx
      have := h i (by omega) (by omega)
      rw [flowErr_ok, List.getD_eq_getElem?_getD] at this
      simpa [hi] using this
  · intro ⟨h1, h2⟩
    rw [if_neg (by omega), firstE_ok]
    intro j _ hj
    have hj : j < l.length := by omega
    rw [flowErr_ok, List.getD_eq_getElem?_getD]
    simpa [hj] using h2 _ (List.getElem_mem hj)

theorem p_ticksErr {l : List Flow} (hl : l.length ≤ 1000000000000) : Contract Tryz.prog 120 [.slc 3 (l.map flI)] (.int .i64 (listErr l)) := by
  unfold listErr
  refine contract_run Tryz.func120 k120 rfl ?_
  simp only [body120, b120, res120, b120k0, b120k1, b120k2, b120k3, ↓reduceIte, reduceCtorEq, Nat.reduceEqDiff, Nat.reduceAdd, Nat.reduceMul, Nat.reduceSub, Nat.reduceLeDiff, Nat.reduceBEq, Int.reduceToNat, Int.reduceLE, Int.reduceLT, Int.reduceEq, Int.reduceNe, di]
  split
  · rename_i h
    rw [if_pos (by omega)]
  · rename_i h
    rw [if_neg (by omega)]
    refine loop_keep (α := Nat) rfl (fun i => l.length - i) (fun i => i ≤ l.length ∧ (firstE (fun i => flowErr (l.getD i default)) (l.length - i) i).2 = (firstE (fun i => flowErr (l.getD i default)) l.length 0).2)
      (fun i => [(9, .imm (.slc 3 (l.map flI))), (10, .imm (.int .i64 l.length)), (11, .imm (.int .i64 i))]) (fun _ => []) 0 ⟨Nat.zero_le _, rfl⟩ (by simp only [↓reduceIte, reduceCtorEq, Nat.reduceEqDiff, Nat.reduceAdd, Nat.reduceMul, Nat.reduceSub, Nat.reduceLeDiff, Nat.reduceBEq, Int.reduceToNat, Int.reduceLE, Int.reduceLT, Int.reduceEq, Int.reduceNe, di] <;> rfl) ?_
    intro i ⟨hi, he⟩ ih
    simp only [res120, b120k0, b120k1, b120k2, b120k3, lkE, ↓reduceIte, reduceCtorEq, Nat.reduceEqDiff, Nat.reduceAdd, Nat.reduceMul, Nat.reduceSub, Nat.reduceLeDiff, Nat.reduceBEq, Int.reduceToNat, Int.reduceLE, Int.reduceLT, Int.reduceEq, Int.reduceNe, di]
    split
    · rename_i h1
      rw [show l.length - i = (l.length - (i + 1)) + 1 by omega, firstE_succ] at he
      repeat (refine And.intro (by omega) ?_)
      have hc := p_flowsErr (x := l.getD i default)
      refine calls_of hc ?_; simp only [lkE, res120, b120k0, b120k1, b120k2, b120k3, ↓reduceIte, reduceCtorEq, Nat.reduceEqDiff, Nat.reduceAdd, Nat.reduceMul, Nat.reduceSub, Nat.reduceLeDiff, Nat.reduceBEq, Int.reduceToNat, Int.reduceLE, Int.reduceLT, Int.reduceEq, Int.reduceNe, di]
      split
      · rename_i h2
        rw [if_pos h2] at he
        rw [wrap64 (by omega) (by omega)]
        exact ih (i + 1) _ _ (by omega) ⟨by omega, he⟩ (by simp only [↓reduceIte, reduceCtorEq, Nat.reduceEqDiff, Nat.reduceAdd, Nat.reduceMul, Nat.reduceSub, Nat.reduceLeDiff, Nat.reduceBEq, Int.reduceToNat, Int.reduceLE, Int.reduceLT, Int.reduceEq, Int.reduceNe, di] <;> rfl)
      · rename_i h2
        rw [if_neg h2] at he
        rw [← he]
    · rename_i h1
      rw [show l.length - i = 0 by omega] at he
      rw [← he]
      rfl

theorem p_Usable {p : Pair} {s : Sta} (h : Sm p) : Contract Tryz.prog 115 [lpI p, stI s]
    (if bothErr p s = 0 then .tup [stI (min (s.1 - (bot p.u).2) ((top p.l).2 - s.2), min (s.2 - (bot p.l).2) ((top p.u).2 - s.1)), .int .i64 0] else .tup [stI (0, 0), .int .i64 (bothErr p s)]) := by
  refine contract_run Tryz.func115 k115 rfl ?_
  simp only [body115, b115, res115, b115k0, lkE, ↓reduceIte, reduceCtorEq, Nat.reduceEqDiff, Nat.reduceAdd, Nat.reduceMul, Nat.reduceSub, Nat.reduceLeDiff, Nat.reduceBEq, Int.reduceToNat, Int.reduceLE, Int.reduceLT, Int.reduceEq, Int.reduceNe, di]
  refine calls_of (p_openState h) ?_; simp only [lkE, res115, b115k0, ↓reduceIte, reduceCtorEq, Nat.reduceEqDiff, Nat.reduceAdd, Nat.reduceMul, Nat.reduceSub, Nat.reduceLeDiff, Nat.reduceBEq, Int.reduceToNat, Int.reduceLE, Int.reduceLT, Int.reduceEq, Int.reduceNe, di]
  split
  · rename_i h0
    have hv := bothErr_ok.1 h0
    have zu := valid_len hv.1.u
    have zl := valid_len hv.1.l
    have bu := hv.1.u.range (i := 0) zu.1
    have bl := hv.1.l.range (i := 0) zl.1
    have tu := hv.1.u.range (i := p.u.length - 1) (by omega)
    have tl := hv.1.l.range (i := p.l.length - 1) (by omega)
    have cu : (bot p.u).2 = (kn p.u 0).2 := rfl
    have cl : (bot p.l).2 = (kn p.l 0).2 := rfl
    have du : (top p.u).2 = (kn p.u (p.u.length - 1)).2 := rfl
    have dl : (top p.l).2 = (kn p.l (p.l.length - 1)).2 := rfl
    obtain ⟨⟨vu1, vu2⟩, ⟨vl1, vl2⟩⟩ := hv.2
    repeat (refine And.intro (by omega) ?_)
    refine calls_of (p_bottom zu.1) ?_; simp only [lkE, res115, b115k0, ↓reduceIte, reduceCtorEq, Nat.reduceEqDiff, Nat.reduceAdd, Nat.reduceMul, Nat.reduceSub, Nat.reduceLeDiff, Nat.reduceBEq, Int.reduceToNat, Int.reduceLE, Int.reduceLT, Int.reduceEq, Int.reduceNe, di]
    refine calls_of (p_top zl.1 zl.2) ?_; simp only [lkE, res115, b115k0, ↓reduceIte, reduceCtorEq, Nat.reduceEqDiff, Nat.reduceAdd, Nat.reduceMul, Nat.reduceSub, Nat.reduceLeDiff, Nat.reduceBEq, Int.reduceToNat, Int.reduceLE, Int.reduceLT, Int.reduceEq, Int.reduceNe, di]
    refine calls_of (p_bottom zl.1) ?_; simp only [lkE, res115, b115k0, ↓reduceIte, reduceCtorEq, Nat.reduceEqDiff, Nat.reduceAdd, Nat.reduceMul, Nat.reduceSub, Nat.reduceLeDiff, Nat.reduceBEq, Int.reduceToNat, Int.reduceLE, Int.reduceLT, Int.reduceEq, Int.reduceNe, di]
    refine calls_of (p_top zu.1 zu.2) ?_; simp only [lkE, res115, b115k0, ↓reduceIte, reduceCtorEq, Nat.reduceEqDiff, Nat.reduceAdd, Nat.reduceMul, Nat.reduceSub, Nat.reduceLeDiff, Nat.reduceBEq, Int.reduceToNat, Int.reduceLE, Int.reduceLT, Int.reduceEq, Int.reduceNe, di]
    rw [wrap64 (n := s.1 - (bot p.u).2) (by omega) (by omega), wrap64 (n := (top p.l).2 - s.2) (by omega) (by omega), wrap64 (n := s.2 - (bot p.l).2) (by omega) (by omega), wrap64 (n := (top p.u).2 - s.1) (by omega) (by omega)]
  · rename_i h0
    rfl

end Go.DI

