/- The statement LakeLimits, on data. No condition. -/
import Derived.Test.YtnkdmcalkgecfaaGreatLmGo
import Derived.Test.YtnkdmcalkgecfaaGreatLma
set_option linter.unusedSimpArgs false
namespace Go.DI
open Go.Proofs Go.RowKit Lk

theorem l_LakeLimits {p : Pair} {s : Sta} {x : Tsk} : Contract Tryz.prog 3 [lpI p, stI s, tskI x] (.bool true) := by
  refine contract_run Tryz.func3 k3 rfl ?_
  simp only [body3, b3, res3, b3k0, b3k1, b3k2, b3k3, b3k4, b3k5, limI, limsI, tskI, hgtI, lkE, ↓reduceIte, reduceCtorEq, Nat.reduceEqDiff, Nat.reduceAdd, Nat.reduceMul, Nat.reduceSub, Nat.reduceLeDiff, Nat.reduceBEq, Int.reduceToNat, Int.reduceLE, Int.reduceLT, Int.reduceEq, Int.reduceNe, di]
  refine calls_of l_awake ?_; simp only [limI, limsI, tskI, hgtI, res3, b3k0, b3k1, b3k2, b3k3, b3k4, b3k5, lkE, ↓reduceIte, reduceCtorEq, Nat.reduceEqDiff, Nat.reduceAdd, Nat.reduceMul, Nat.reduceSub, Nat.reduceLeDiff, Nat.reduceBEq, Int.reduceToNat, Int.reduceLE, Int.reduceLT, Int.reduceEq, Int.reduceNe, di]
  refine calls_of l_FewPair ?_; simp only [limI, limsI, tskI, hgtI, res3, b3k0, b3k1, b3k2, b3k3, b3k4, b3k5, lkE, ↓reduceIte, reduceCtorEq, Nat.reduceEqDiff, Nat.reduceAdd, Nat.reduceMul, Nat.reduceSub, Nat.reduceLeDiff, Nat.reduceBEq, Int.reduceToNat, Int.reduceLE, Int.reduceLT, Int.reduceEq, Int.reduceNe, di]
  split
  · rename_i h0
    have hsm : Sm p := ⟨by omega, by omega⟩
    refine calls_of l_short ?_; simp only [limI, limsI, tskI, hgtI, res3, b3k0, b3k1, b3k2, b3k3, b3k4, b3k5, lkE, ↓reduceIte, reduceCtorEq, Nat.reduceEqDiff, Nat.reduceAdd, Nat.reduceMul, Nat.reduceSub, Nat.reduceLeDiff, Nat.reduceBEq, Int.reduceToNat, Int.reduceLE, Int.reduceLT, Int.reduceEq, Int.reduceNe, di]
    split
    · rename_i hsh
      have hl : x.fs.length ≤ 202 := by omega
      have hcp := r_CopyPair (p := p) (by omega) (by omega)
      have hct := r_CopyTask (x := x) (by omega)
      have hB := r_BothErr (s := s) hsm
      have hP := r_PairErr hsm
      have hC := p_CheckLimits (L := x.L) hsm
      obtain ⟨⟨v, e⟩, hve⟩ : ∃ q, vioO p s x = q := ⟨_, rfl⟩
      have hV := p_ViolationOf (s := s) (x := x) hsm (by omega) v e hve
      rw [vio3_eq] at hV
      generalize hvt : vioT v = vt at hV
      obtain ⟨a, b, c⟩ := vt
      refine calls_of hcp ?_; simp only [limI, limsI, tskI, hgtI, res3, b3k0, b3k1, b3k2, b3k3, b3k4, b3k5, lkE, ↓reduceIte, reduceCtorEq, Nat.reduceEqDiff, Nat.reduceAdd, Nat.reduceMul, Nat.reduceSub, Nat.reduceLeDiff, Nat.reduceBEq, Int.reduceToNat, Int.reduceLE, Int.reduceLT, Int.reduceEq, Int.reduceNe, di]
      refine calls_of hct ?_; simp only [limI, limsI, tskI, hgtI, res3, b3k0, b3k1, b3k2, b3k3, b3k4, b3k5, lkE, ↓reduceIte, reduceCtorEq, Nat.reduceEqDiff, Nat.reduceAdd, Nat.reduceMul, Nat.reduceSub, Nat.reduceLeDiff, Nat.reduceBEq, Int.reduceToNat, Int.reduceLE, Int.reduceLT, Int.reduceEq, Int.reduceNe, di]
      refine calls_of hV ?_; simp only [limI, limsI, tskI, hgtI, res3, b3k0, b3k1, b3k2, b3k3, b3k4, b3k5, lkE, ↓reduceIte, reduceCtorEq, Nat.reduceEqDiff, Nat.reduceAdd, Nat.reduceMul, Nat.reduceSub, Nat.reduceLeDiff, Nat.reduceBEq, Int.reduceToNat, Int.reduceLE, Int.reduceLT, Int.reduceEq, Int.reduceNe, di]
      refine calls_of hP ?_; simp only [limI, limsI, tskI, hgtI, res3, b3k0, b3k1, b3k2, b3k3, b3k4, b3k5, lkE, ↓reduceIte, reduceCtorEq, Nat.reduceEqDiff, Nat.reduceAdd, Nat.reduceMul, Nat.reduceSub, Nat.reduceLeDiff, Nat.reduceBEq, Int.reduceToNat, Int.reduceLE, Int.reduceLT, Int.reduceEq, Int.reduceNe, di]
      by_cases h1 : pairErr p = 0
      case neg =>
        rw [if_neg h1] at hC
        simp only [h1, res3, b3k0, b3k1, b3k2, b3k3, b3k4, b3k5, limI, limsI, tskI, hgtI, lkE, ↓reduceIte, reduceCtorEq, Nat.reduceEqDiff, Nat.reduceAdd, Nat.reduceMul, Nat.reduceSub, Nat.reduceLeDiff, Nat.reduceBEq, Int.reduceToNat, Int.reduceLE, Int.reduceLT, Int.reduceEq, Int.reduceNe, di]
        refine calls_of hcp ?_; simp only [limI, limsI, tskI, hgtI, res3, b3k0, b3k1, b3k2, b3k3, b3k4, b3k5, lkE, ↓reduceIte, reduceCtorEq, Nat.reduceEqDiff, Nat.reduceAdd, Nat.reduceMul, Nat.reduceSub, Nat.reduceLeDiff, Nat.reduceBEq, Int.reduceToNat, Int.reduceLE, Int.reduceLT, Int.reduceEq, Int.reduceNe, di]
        repeat (refine And.intro (by omega) ?_)
        refine calls_of hC ?_; simp only [limI, limsI, tskI, hgtI, res3, b3k0, b3k1, b3k2, b3k3, b3k4, b3k5, lkE, ↓reduceIte, reduceCtorEq, Nat.reduceEqDiff, Nat.reduceAdd, Nat.reduceMul, Nat.reduceSub, Nat.reduceLeDiff, Nat.reduceBEq, Int.reduceToNat, Int.reduceLE, Int.reduceLT, Int.reduceEq, Int.reduceNe, di]
        have hbe : bothErr p s = pairErr p := by unfold bothErr; rw [if_neg h1]
        have hte : taskE p s x = pairErr p := by unfold taskE; rw [if_neg (by rw [hbe]; exact h1), hbe]
        unfold vioO at hve
        rw [if_neg (by rw [hte]; exact h1), hte] at hve
        cases hve
        cases hvt
        rw [hbe] at hB
        refine calls_of hB ?_; simp only [limI, limsI, tskI, hgtI, res3, b3k0, b3k1, b3k2, b3k3, b3k4, b3k5, lkE, ↓reduceIte, reduceCtorEq, Nat.reduceEqDiff, Nat.reduceAdd, Nat.reduceMul, Nat.reduceSub, Nat.reduceLeDiff, Nat.reduceBEq, Int.reduceToNat, Int.reduceLE, Int.reduceLT, Int.reduceEq, Int.reduceNe, di]
        simp only [h1, res3, b3k0, b3k1, b3k2, b3k3, b3k4, b3k5, limI, limsI, tskI, hgtI, lkE, ↓reduceIte, reduceCtorEq, Nat.reduceEqDiff, Nat.reduceAdd, Nat.reduceMul, Nat.reduceSub, Nat.reduceLeDiff, Nat.reduceBEq, Int.reduceToNat, Int.reduceLE, Int.reduceLT, Int.reduceEq, Int.reduceNe, di]
      have hvp := pairErr_ok.1 h1
      have hLE := r_LimitsErr (L := x.L) hvp
      rw [if_pos h1] at hC
      simp only [h1, res3, b3k0, b3k1, b3k2, b3k3, b3k4, b3k5, limI, limsI, tskI, hgtI, lkE, ↓reduceIte, reduceCtorEq, Nat.reduceEqDiff, Nat.reduceAdd, Nat.reduceMul, Nat.reduceSub, Nat.reduceLeDiff, Nat.reduceBEq, Int.reduceToNat, Int.reduceLE, Int.reduceLT, Int.reduceEq, Int.reduceNe, di]
      repeat (refine And.intro (by omega) ?_)
      refine calls_of hLE ?_; simp only [limI, limsI, tskI, hgtI, res3, b3k0, b3k1, b3k2, b3k3, b3k4, b3k5, lkE, ↓reduceIte, reduceCtorEq, Nat.reduceEqDiff, Nat.reduceAdd, Nat.reduceMul, Nat.reduceSub, Nat.reduceLeDiff, Nat.reduceBEq, Int.reduceToNat, Int.reduceLE, Int.reduceLT, Int.reduceEq, Int.reduceNe, di]
      refine calls_of hcp ?_; simp only [limI, limsI, tskI, hgtI, res3, b3k0, b3k1, b3k2, b3k3, b3k4, b3k5, lkE, ↓reduceIte, reduceCtorEq, Nat.reduceEqDiff, Nat.reduceAdd, Nat.reduceMul, Nat.reduceSub, Nat.reduceLeDiff, Nat.reduceBEq, Int.reduceToNat, Int.reduceLE, Int.reduceLT, Int.reduceEq, Int.reduceNe, di]
      repeat (refine And.intro (by omega) ?_)
      refine calls_of hC ?_; simp only [limI, limsI, tskI, hgtI, res3, b3k0, b3k1, b3k2, b3k3, b3k4, b3k5, lkE, ↓reduceIte, reduceCtorEq, Nat.reduceEqDiff, Nat.reduceAdd, Nat.reduceMul, Nat.reduceSub, Nat.reduceLeDiff, Nat.reduceBEq, Int.reduceToNat, Int.reduceLE, Int.reduceLT, Int.reduceEq, Int.reduceNe, di]
      refine calls_of hB ?_; simp only [limI, limsI, tskI, hgtI, res3, b3k0, b3k1, b3k2, b3k3, b3k4, b3k5, lkE, ↓reduceIte, reduceCtorEq, Nat.reduceEqDiff, Nat.reduceAdd, Nat.reduceMul, Nat.reduceSub, Nat.reduceLeDiff, Nat.reduceBEq, Int.reduceToNat, Int.reduceLE, Int.reduceLT, Int.reduceEq, Int.reduceNe, di]
      by_cases h2 : bothErr p s = 0
      case neg =>
        have hte : taskE p s x = bothErr p s := by unfold taskE; rw [if_neg h2]
        unfold vioO at hve
        rw [if_neg (by rw [hte]; exact h2), hte] at hve
        cases hve
        cases hvt
        simp only [h2, res3, b3k0, b3k1, b3k2, b3k3, b3k4, b3k5, limI, limsI, tskI, hgtI, lkE, ↓reduceIte, reduceCtorEq, Nat.reduceEqDiff, Nat.reduceAdd, Nat.reduceMul, Nat.reduceSub, Nat.reduceLeDiff, Nat.reduceBEq, Int.reduceToNat, Int.reduceLE, Int.reduceLT, Int.reduceEq, Int.reduceNe, di]
      have hTE := r_TaskErr (x := x) hvp (by omega)
      simp only [h2, res3, b3k0, b3k1, b3k2, b3k3, b3k4, b3k5, limI, limsI, tskI, hgtI, lkE, ↓reduceIte, reduceCtorEq, Nat.reduceEqDiff, Nat.reduceAdd, Nat.reduceMul, Nat.reduceSub, Nat.reduceLeDiff, Nat.reduceBEq, Int.reduceToNat, Int.reduceLE, Int.reduceLT, Int.reduceEq, Int.reduceNe, di]
      refine calls_of hTE ?_; simp only [limI, limsI, tskI, hgtI, res3, b3k0, b3k1, b3k2, b3k3, b3k4, b3k5, lkE, ↓reduceIte, reduceCtorEq, Nat.reduceEqDiff, Nat.reduceAdd, Nat.reduceMul, Nat.reduceSub, Nat.reduceLeDiff, Nat.reduceBEq, Int.reduceToNat, Int.reduceLE, Int.reduceLT, Int.reduceEq, Int.reduceNe, di]
      have hte : taskE p s x = taskErr p x := by unfold taskE; rw [if_pos h2]
      unfold vioO at hve
      rw [hte] at hve
      by_cases h3 : taskErr p x = 0
      case neg =>
        rw [if_neg h3] at hve
        cases hve
        cases hvt
        simp only [h3, res3, b3k0, b3k1, b3k2, b3k3, b3k4, b3k5, limI, limsI, tskI, hgtI, lkE, ↓reduceIte, reduceCtorEq, Nat.reduceEqDiff, Nat.reduceAdd, Nat.reduceMul, Nat.reduceSub, Nat.reduceLeDiff, Nat.reduceBEq, Int.reduceToNat, Int.reduceLE, Int.reduceLT, Int.reduceEq, Int.reduceNe, di]
      rw [if_pos h3] at hve
      obtain ⟨_, hst, hL, hn, hf⟩ := taskE_ok (hte.trans h3)
      have hR := r_ViolationOf hvp hst hL (by omega) hf
      rw [hve, vio3_eq, hvt] at hR
      simp only [h3, res3, b3k0, b3k1, b3k2, b3k3, b3k4, b3k5, limI, limsI, tskI, hgtI, lkE, ↓reduceIte, reduceCtorEq, Nat.reduceEqDiff, Nat.reduceAdd, Nat.reduceMul, Nat.reduceSub, Nat.reduceLeDiff, Nat.reduceBEq, Int.reduceToNat, Int.reduceLE, Int.reduceLT, Int.reduceEq, Int.reduceNe, di]
      refine calls_of hR ?_; simp only [limI, limsI, tskI, hgtI, res3, b3k0, b3k1, b3k2, b3k3, b3k4, b3k5, lkE, ↓reduceIte, reduceCtorEq, Nat.reduceEqDiff, Nat.reduceAdd, Nat.reduceMul, Nat.reduceSub, Nat.reduceLeDiff, Nat.reduceBEq, Int.reduceToNat, Int.reduceLE, Int.reduceLT, Int.reduceEq, Int.reduceNe, di]
    · trivial
  · trivial
end Go.DI

