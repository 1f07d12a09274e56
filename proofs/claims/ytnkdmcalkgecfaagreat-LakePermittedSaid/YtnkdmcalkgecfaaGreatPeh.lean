/- The statement LakePermitted, on data. No condition. -/
import Derived.Test.YtnkdmcalkgecfaaGreatPee
import Derived.Test.YtnkdmcalkgecfaaGreatPeg
set_option linter.unusedSimpArgs false
namespace Go.DI
open Go.Proofs Go.RowKit Lk

theorem l_LakePermitted {p : Pair} {s : Sta} {x : Tsk} : Contract Tryz.prog 4 [lpI p, stI s, tskI x] (.bool true) := by
  refine contract_run Tryz.func4 k4 rfl ?_
  simp only [body4, b4, res4, b4k0, b4k1, b4k2, b4k3, b4k4, limI, limsI, tskI, hgtI, lkE, ↓reduceIte, reduceCtorEq, Nat.reduceEqDiff, Nat.reduceAdd, Nat.reduceMul, Nat.reduceSub, Nat.reduceLeDiff, Nat.reduceBEq, Int.reduceToNat, Int.reduceLE, Int.reduceLT, Int.reduceEq, Int.reduceNe, di]
  refine calls_of l_awake ?_; simp only [limI, limsI, tskI, hgtI, res4, b4k0, b4k1, b4k2, b4k3, b4k4, lkE, ↓reduceIte, reduceCtorEq, Nat.reduceEqDiff, Nat.reduceAdd, Nat.reduceMul, Nat.reduceSub, Nat.reduceLeDiff, Nat.reduceBEq, Int.reduceToNat, Int.reduceLE, Int.reduceLT, Int.reduceEq, Int.reduceNe, di]
  refine calls_of l_FewPair ?_; simp only [limI, limsI, tskI, hgtI, res4, b4k0, b4k1, b4k2, b4k3, b4k4, lkE, ↓reduceIte, reduceCtorEq, Nat.reduceEqDiff, Nat.reduceAdd, Nat.reduceMul, Nat.reduceSub, Nat.reduceLeDiff, Nat.reduceBEq, Int.reduceToNat, Int.reduceLE, Int.reduceLT, Int.reduceEq, Int.reduceNe, di]
  split
  rotate_left
  · trivial
  rename_i h0
  have hsm : Sm p := ⟨by omega, by omega⟩
  refine calls_of l_short ?_; simp only [limI, limsI, tskI, hgtI, res4, b4k0, b4k1, b4k2, b4k3, b4k4, lkE, ↓reduceIte, reduceCtorEq, Nat.reduceEqDiff, Nat.reduceAdd, Nat.reduceMul, Nat.reduceSub, Nat.reduceLeDiff, Nat.reduceBEq, Int.reduceToNat, Int.reduceLE, Int.reduceLT, Int.reduceEq, Int.reduceNe, di]
  split
  rotate_left
  · trivial
  rename_i hsh
  have hl : x.fs.length ≤ 202 := by omega
  have hcp := r_CopyPair (p := p) (by omega) (by omega)
  have hct := r_CopyTask (x := x) (by omega)
  have hB := r_BothErr (s := s) hsm
  have hV := p_PermittedFor (s := s) (x := x) hsm (by omega)
  refine calls_of hcp ?_; simp only [limI, limsI, tskI, hgtI, res4, b4k0, b4k1, b4k2, b4k3, b4k4, lkE, ↓reduceIte, reduceCtorEq, Nat.reduceEqDiff, Nat.reduceAdd, Nat.reduceMul, Nat.reduceSub, Nat.reduceLeDiff, Nat.reduceBEq, Int.reduceToNat, Int.reduceLE, Int.reduceLT, Int.reduceEq, Int.reduceNe, di]
  refine calls_of hct ?_; simp only [limI, limsI, tskI, hgtI, res4, b4k0, b4k1, b4k2, b4k3, b4k4, lkE, ↓reduceIte, reduceCtorEq, Nat.reduceEqDiff, Nat.reduceAdd, Nat.reduceMul, Nat.reduceSub, Nat.reduceLeDiff, Nat.reduceBEq, Int.reduceToNat, Int.reduceLE, Int.reduceLT, Int.reduceEq, Int.reduceNe, di]
  refine calls_of hV ?_; simp only [limI, limsI, tskI, hgtI, res4, b4k0, b4k1, b4k2, b4k3, b4k4, lkE, ↓reduceIte, reduceCtorEq, Nat.reduceEqDiff, Nat.reduceAdd, Nat.reduceMul, Nat.reduceSub, Nat.reduceLeDiff, Nat.reduceBEq, Int.reduceToNat, Int.reduceLE, Int.reduceLT, Int.reduceEq, Int.reduceNe, di]
  refine calls_of hB ?_; simp only [limI, limsI, tskI, hgtI, res4, b4k0, b4k1, b4k2, b4k3, b4k4, lkE, ↓reduceIte, reduceCtorEq, Nat.reduceEqDiff, Nat.reduceAdd, Nat.reduceMul, Nat.reduceSub, Nat.reduceLeDiff, Nat.reduceBEq, Int.reduceToNat, Int.reduceLE, Int.reduceLT, Int.reduceEq, Int.reduceNe, di]
  by_cases h2 : bothErr p s = 0
  case neg =>
    have hte : taskE p s x = bothErr p s := by unfold taskE; rw [if_neg h2]
    have e1 : perE p s x = bothErr p s := by unfold perE; rw [hte, if_neg h2]
    have e2 : perO p s x = 0 := by unfold perO; rw [e1, if_neg h2]
    rw [e1, e2]
    simp only [h2, res4, b4k0, b4k1, b4k2, b4k3, b4k4, limI, limsI, tskI, hgtI, lkE, ↓reduceIte, reduceCtorEq, Nat.reduceEqDiff, Nat.reduceAdd, Nat.reduceMul, Nat.reduceSub, Nat.reduceLeDiff, Nat.reduceBEq, Int.reduceToNat, Int.reduceLE, Int.reduceLT, Int.reduceEq, Int.reduceNe, di]
    rw [if_neg (fun k => k.1.1)]
    trivial
  have hvp := pairErr_ok.1 (show pairErr p = 0 by unfold bothErr at h2; split at h2 <;> omega)
  have hTE := r_TaskErr (x := x) hvp (by omega)
  simp only [h2, res4, b4k0, b4k1, b4k2, b4k3, b4k4, limI, limsI, tskI, hgtI, lkE, ↓reduceIte, reduceCtorEq, Nat.reduceEqDiff, Nat.reduceAdd, Nat.reduceMul, Nat.reduceSub, Nat.reduceLeDiff, Nat.reduceBEq, Int.reduceToNat, Int.reduceLE, Int.reduceLT, Int.reduceEq, Int.reduceNe, di]
  refine calls_of hTE ?_; simp only [limI, limsI, tskI, hgtI, res4, b4k0, b4k1, b4k2, b4k3, b4k4, lkE, ↓reduceIte, reduceCtorEq, Nat.reduceEqDiff, Nat.reduceAdd, Nat.reduceMul, Nat.reduceSub, Nat.reduceLeDiff, Nat.reduceBEq, Int.reduceToNat, Int.reduceLE, Int.reduceLT, Int.reduceEq, Int.reduceNe, di]
  have hte : taskE p s x = taskErr p x := by unfold taskE; rw [if_pos h2]
  by_cases h3 : taskErr p x = 0
  case neg =>
    have e1 : perE p s x = taskErr p x := by unfold perE; rw [hte, if_neg h3]
    have e2 : perO p s x = 0 := by unfold perO; rw [e1, if_neg h3]
    rw [e1, e2]
    simp only [h3, res4, b4k0, b4k1, b4k2, b4k3, b4k4, limI, limsI, tskI, hgtI, lkE, ↓reduceIte, reduceCtorEq, Nat.reduceEqDiff, Nat.reduceAdd, Nat.reduceMul, Nat.reduceSub, Nat.reduceLeDiff, Nat.reduceBEq, Int.reduceToNat, Int.reduceLE, Int.reduceLT, Int.reduceEq, Int.reduceNe, di]
    rw [if_neg (fun k => k.1.1)]
    trivial
  simp only [h3, res4, b4k0, b4k1, b4k2, b4k3, b4k4, limI, limsI, tskI, hgtI, lkE, ↓reduceIte, reduceCtorEq, Nat.reduceEqDiff, Nat.reduceAdd, Nat.reduceMul, Nat.reduceSub, Nat.reduceLeDiff, Nat.reduceBEq, Int.reduceToNat, Int.reduceLE, Int.reduceLT, Int.reduceEq, Int.reduceNe, di]
  by_cases h4 : x.fs.length = 0
  · have e1 : perE p s x = 10 := by unfold perE; rw [hte, if_pos h3, if_neg (by omega)]
    have e2 : perO p s x = 0 := by unfold perO; rw [e1]; rfl
    rw [if_pos (by omega), if_pos e1, e2]
    rfl
  · have e1 : perE p s x = 0 := by unfold perE; rw [hte, if_pos h3, if_pos (by omega)]
    have e2 : perO p s x = permL p x.L [s] s (againL x.fs) := by unfold perO; rw [if_pos e1]
    obtain ⟨_, hst, hL, hn, hf⟩ := taskE_ok (hte.trans h3)
    rw [if_neg (by omega), if_pos e1, e2]
    refine calls_of (r_PermittedFor hvp hst hL (by omega) (by omega) hf) ?_; simp only [limI, limsI, tskI, hgtI, res4, b4k0, b4k1, b4k2, b4k3, b4k4, lkE, ↓reduceIte, reduceCtorEq, Nat.reduceEqDiff, Nat.reduceAdd, Nat.reduceMul, Nat.reduceSub, Nat.reduceLeDiff, Nat.reduceBEq, Int.reduceToNat, Int.reduceLE, Int.reduceLT, Int.reduceEq, Int.reduceNe, di]
end Go.DI

