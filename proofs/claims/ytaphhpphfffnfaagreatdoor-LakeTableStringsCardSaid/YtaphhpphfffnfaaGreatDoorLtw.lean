/- Contracts: the program's steps, runs and usable volumes, as it hands them out. No condition. -/
import Derived.Test.YtaphhpphfffnfaaGreatDoorLtv
set_option linter.unusedSimpArgs false
namespace Go.DI
open Go.Proofs Go.RowKit Lk

def stepE (p : Pair) (s : Sta) (x : Flow) : Int := if bothErr p s = 0 then flowErr x else bothErr p s
/-- A step as it is handed out. -/
def stepO (p : Pair) (s : Sta) (x : Flow) : Sta × (Int × Int) × Int :=
  if stepE p s x = 0 then
    match Lk.step p s x with
    | some (t, e, f) => (t, (e, f), 0)
    | none => ((0, 0), (0, 0), 22)
  else ((0, 0), (0, 0), stepE p s x)
def outI (r : Sta × (Int × Int) × Int) : IV := .tup [.agg [.int .i64 r.1.1, .int .i64 r.1.2], .agg [.int .i64 r.2.1.1, .int .i64 r.2.1.2], .int .i64 r.2.2]

theorem bothErr_ok {p : Pair} {s : Sta} : bothErr p s = 0 ↔ VPair p ∧ stOk p s := by
  unfold bothErr
  constructor
  · intro h
    split at h
    · rename_i h1
      split at h
      · rename_i h2; exact ⟨pairErr_ok.1 h1, h2⟩
      · omega
    · contradiction
  · intro ⟨h1, h2⟩
    rw [if_pos (pairErr_ok.2 h1), if_pos h2]
theorem flowErr_ok {x : Flow} : flowErr x = 0 ↔ flowOk x := by
  unfold flowErr
  split
  · rename_i h; simp [h]
  · rename_i h; simp [h]

theorem p_Step {p : Pair} {s : Sta} {x : Flow} (h : Sm p) : Contract Tryz.prog 113 [lpI p, stI s, flI x] (outI (stepO p s x)) := by
  unfold stepO
  refine contract_run Tryz.func113 k113 rfl ?_
  simp only [body113, b113, res113, b113k0, lkE, ↓reduceIte, reduceCtorEq, Nat.reduceEqDiff, Nat.reduceAdd, Nat.reduceMul, Nat.reduceSub, Nat.reduceLeDiff, Nat.reduceBEq, Int.reduceToNat, Int.reduceLE, Int.reduceLT, Int.reduceEq, Int.reduceNe, di]
  refine calls_of (p_openState h) ?_; simp only [lkE, res113, b113k0, ↓reduceIte, reduceCtorEq, Nat.reduceEqDiff, Nat.reduceAdd, Nat.reduceMul, Nat.reduceSub, Nat.reduceLeDiff, Nat.reduceBEq, Int.reduceToNat, Int.reduceLE, Int.reduceLT, Int.reduceEq, Int.reduceNe, di]
  refine calls_of p_flowsErr ?_; simp only [lkE, res113, b113k0, ↓reduceIte, reduceCtorEq, Nat.reduceEqDiff, Nat.reduceAdd, Nat.reduceMul, Nat.reduceSub, Nat.reduceLeDiff, Nat.reduceBEq, Int.reduceToNat, Int.reduceLE, Int.reduceLT, Int.reduceEq, Int.reduceNe, di]
  refine calls_of p_first2 ?_; simp only [lkE, res113, b113k0, ↓reduceIte, reduceCtorEq, Nat.reduceEqDiff, Nat.reduceAdd, Nat.reduceMul, Nat.reduceSub, Nat.reduceLeDiff, Nat.reduceBEq, Int.reduceToNat, Int.reduceLE, Int.reduceLT, Int.reduceEq, Int.reduceNe, di]
  unfold stepE
  by_cases h0 : bothErr p s = 0
  · simp only [if_pos h0]
    have hv := bothErr_ok.1 h0
    by_cases h1 : flowErr x = 0
    · simp only [if_pos h1, lkE, ↓reduceIte, reduceCtorEq, Nat.reduceEqDiff, Nat.reduceAdd, Nat.reduceMul, Nat.reduceSub, Nat.reduceLeDiff, Nat.reduceBEq, Int.reduceToNat, Int.reduceLE, Int.reduceLT, Int.reduceEq, Int.reduceNe, di]
      refine calls_of (p_step hv.1 hv.2 (flowErr_ok.1 h1)) ?_; simp only [lkE, res113, b113k0, ↓reduceIte, reduceCtorEq, Nat.reduceEqDiff, Nat.reduceAdd, Nat.reduceMul, Nat.reduceSub, Nat.reduceLeDiff, Nat.reduceBEq, Int.reduceToNat, Int.reduceLE, Int.reduceLT, Int.reduceEq, Int.reduceNe, di]
      cases hst : Lk.step p s x with
      | none =>
        simp only [stepI, res113, b113k0, lkE, ↓reduceIte, reduceCtorEq, Nat.reduceEqDiff, Nat.reduceAdd, Nat.reduceMul, Nat.reduceSub, Nat.reduceLeDiff, Nat.reduceBEq, Int.reduceToNat, Int.reduceLE, Int.reduceLT, Int.reduceEq, Int.reduceNe, di]
        refine calls_of p_unless ?_; simp only [lkE, res113, b113k0, ↓reduceIte, reduceCtorEq, Nat.reduceEqDiff, Nat.reduceAdd, Nat.reduceMul, Nat.reduceSub, Nat.reduceLeDiff, Nat.reduceBEq, Int.reduceToNat, Int.reduceLE, Int.reduceLT, Int.reduceEq, Int.reduceNe, di]
        rfl
      | some r =>
        obtain ⟨t, e, f⟩ := r
        simp only [stepI, res113, b113k0, lkE, ↓reduceIte, reduceCtorEq, Nat.reduceEqDiff, Nat.reduceAdd, Nat.reduceMul, Nat.reduceSub, Nat.reduceLeDiff, Nat.reduceBEq, Int.reduceToNat, Int.reduceLE, Int.reduceLT, Int.reduceEq, Int.reduceNe, di]
        refine calls_of p_unless ?_; simp only [lkE, res113, b113k0, ↓reduceIte, reduceCtorEq, Nat.reduceEqDiff, Nat.reduceAdd, Nat.reduceMul, Nat.reduceSub, Nat.reduceLeDiff, Nat.reduceBEq, Int.reduceToNat, Int.reduceLE, Int.reduceLT, Int.reduceEq, Int.reduceNe, di]
        rfl
    · simp only [if_neg h1, lkE, ↓reduceIte, reduceCtorEq, Nat.reduceEqDiff, Nat.reduceAdd, Nat.reduceMul, Nat.reduceSub, Nat.reduceLeDiff, Nat.reduceBEq, Int.reduceToNat, Int.reduceLE, Int.reduceLT, Int.reduceEq, Int.reduceNe, di]
      rfl
  · simp only [if_neg h0, lkE, ↓reduceIte, reduceCtorEq, Nat.reduceEqDiff, Nat.reduceAdd, Nat.reduceMul, Nat.reduceSub, Nat.reduceLeDiff, Nat.reduceBEq, Int.reduceToNat, Int.reduceLE, Int.reduceLT, Int.reduceEq, Int.reduceNe, di]
    rfl

theorem p_Usable {p : Pair} {s : Sta} (h : Sm p) : Contract Tryz.prog 115 [lpI p, stI s]
    (if bothErr p s = 0 then .tup [stI (min (s.1 - (bot p.u).2) ((top p.l).2 - s.2), min (s.2 - (bot p.l).2) ((top p.u).2 - s.1)), .int .i64 0] else .tup [stI (0, 0), .int .i64 (bothErr p s)]) := by
  refine contract_run Tryz.func115 k115 rfl ?_
  simp only [body115, b115, res115, b115k0, lkE, ↓reduceIte, reduceCtorEq, Nat.reduceEqDiff, Nat.reduceAdd, Nat.reduceMul, Nat.reduceSub, Nat.reduceLeDiff, Nat.reduceBEq, Int.reduceToNat, Int.reduceLE, Int.reduceLT, Int.reduceEq, Int.reduceNe, di]
  refine calls_of (p_openState h) ?_; simp only [lkE, res115, b115k0, ↓reduceIte, reduceCtorEq, Nat.reduceEqDiff, Nat.reduceAdd, Nat.reduceMul, Nat.reduceSub, Nat.reduceLeDiff, Nat.reduceBEq, Int.reduceToNat, Int.reduceLE, Int.reduceLT, Int.reduceEq, Int.reduceNe, di]
  split
  · rename_i h0
    have hv := bothErr_ok.1 h0
    have zu := valid_len hv.1.u
    have zl := valid_len hv.1.l
    have bu := hv.1.u.range (i := 0) zu.1
    have bl := hv.1.l.range (i := 0) zl.1
    have tu := hv.1.u.range (i := p.u.length - 1) (by omega)
    have tl := hv.1.l.range (i := p.l.length - 1) (by omega)
    have cu : (bot p.u).2 = (kn p.u 0).2 := rfl
    have cl : (bot p.l).2 = (kn p.l 0).2 := rfl
    have du : (top p.u).2 = (kn p.u (p.u.length - 1)).2 := rfl
    have dl : (top p.l).2 = (kn p.l (p.l.length - 1)).2 := rfl
    obtain ⟨⟨vu1, vu2⟩, ⟨vl1, vl2⟩⟩ := hv.2
    repeat (refine And.intro (by omega) ?_)
    refine calls_of (p_bottom zu.1) ?_; simp only [lkE, res115, b115k0, ↓reduceIte, reduceCtorEq, Nat.reduceEqDiff, Nat.reduceAdd, Nat.reduceMul, Nat.reduceSub, Nat.reduceLeDiff, Nat.reduceBEq, Int.reduceToNat, Int.reduceLE, Int.reduceLT, Int.reduceEq, Int.reduceNe, di]
    refine calls_of (p_top zl.1 zl.2) ?_; simp only [lkE, res115, b115k0, ↓reduceIte, reduceCtorEq, Nat.reduceEqDiff, Nat.reduceAdd, Nat.reduceMul, Nat.reduceSub, Nat.reduceLeDiff, Nat.reduceBEq, Int.reduceToNat, Int.reduceLE, Int.reduceLT, Int.reduceEq, Int.reduceNe, di]
    refine calls_of (p_bottom zl.1) ?_; simp only [lkE, res115, b115k0, ↓reduceIte, reduceCtorEq, Nat.reduceEqDiff, Nat.reduceAdd, Nat.reduceMul, Nat.reduceSub, Nat.reduceLeDiff, Nat.reduceBEq, Int.reduceToNat, Int.reduceLE, Int.reduceLT, Int.reduceEq, Int.reduceNe, di]
    refine calls_of (p_top zu.1 zu.2) ?_; simp only [lkE, res115, b115k0, ↓reduceIte, reduceCtorEq, Nat.reduceEqDiff, Nat.reduceAdd, Nat.reduceMul, Nat.reduceSub, Nat.reduceLeDiff, Nat.reduceBEq, Int.reduceToNat, Int.reduceLE, Int.reduceLT, Int.reduceEq, Int.reduceNe, di]
    rw [wrap64 (n := s.1 - (bot p.u).2) (by omega) (by omega), wrap64 (n := (top p.l).2 - s.2) (by omega) (by omega), wrap64 (n := s.2 - (bot p.l).2) (by omega) (by omega), wrap64 (n := (top p.u).2 - s.1) (by omega) (by omega)]
  · rename_i h0
    rfl

end Go.DI

