/- The statement LakeUsable, on data. No condition. -/
import Derived.Test.YtbmlfeikdhpdfaaJk
import Derived.Test.YtbmlfeikdhpdfaaUsa
set_option linter.unusedSimpArgs false
namespace Go.DI
open Go.Proofs Go.RowKit Lk

theorem dry_lake {l : List Kn} {v g : Int} (hv : isV l v) : lakeStep l 0 v g = if v + g < (bot l).2 then none else some (v + g - max 0 (v + g - (top l).2), 0, max 0 (v + g - (top l).2)) := by
  unfold lakeStep
  rw [evap_dry hv]
  simp only [Int.sub_zero]

theorem vpair_dry {p : Pair} (h : VPair p) : VPair ⟨p.u, p.l, 0⟩ := ⟨h.u, h.l, ⟨by show (0 : Int) ≤ 0; omega, by show (0 : Int) ≤ 1000; omega⟩⟩

theorem dry_step {p : Pair} {s : Sta} (h : VPair p) (hs : stOk p s) {e : Int} (he : -10000000 ≤ e ∧ e ≤ 10000000) :
    stepO ⟨p.u, p.l, 0⟩ s ⟨0, 0, e⟩ =
      if s.1 + e < (bot p.u).2 ∨ s.2 - e < (bot p.l).2 then ((0, 0), (0, 0), 22)
      else ((s.1 + e - max 0 (s.1 + e - (top p.u).2), s.2 - e - max 0 (s.2 - e - (top p.l).2)), (0, max 0 (s.1 + e - (top p.u).2) + max 0 (s.2 - e - (top p.l).2)), 0) := by
  have hb : bothErr ⟨p.u, p.l, 0⟩ s = 0 := bothErr_ok.2 ⟨vpair_dry h, hs⟩
  have hf : flowErr ⟨0, 0, e⟩ = 0 := flowErr_ok.2 ⟨⟨by show (0 : Int) ≤ 0; omega, by show (0 : Int) ≤ 10000000; omega⟩, ⟨by show (0 : Int) ≤ 0; omega, by show (0 : Int) ≤ 10000000; omega⟩, he⟩
  unfold stepO stepE
  rw [if_pos hb, if_pos hf]
  unfold Lk.step
  dsimp only
  rw [dry_lake hs.1, dry_lake hs.2, Int.zero_add, Int.zero_sub, ← Int.sub_eq_add_neg]
  by_cases h1 : s.1 + e < (bot p.u).2
  · rw [if_pos h1, if_pos (show s.1 + e < (bot p.u).2 ∨ s.2 - e < (bot p.l).2 from Or.inl h1)]
  · rw [if_neg h1]
    by_cases h2 : s.2 - e < (bot p.l).2
    · rw [if_pos h2, if_pos (show s.1 + e < (bot p.u).2 ∨ s.2 - e < (bot p.l).2 from Or.inr h2)]
    · rw [if_neg h2, if_neg (by omega)]
      rfl

theorem l_LakeUsable {p : Pair} {s : Sta} {ex : Int} : Contract Try.prog 3 [lpI p, stI s, .int .i64 ex] (.bool true) := by
  refine contract_run Try.func3 k3 rfl ?_
  simp only [body3, b3, res3, b3k0, b3k1, b3k2, b3k3, b3k4, b3k5, knI, tabI, pieceI, pairI, lpI, stI, flI, rdI, rnI, getD_kn, ↓reduceIte, reduceCtorEq, Nat.reduceEqDiff, Nat.reduceAdd, Nat.reduceMul, Nat.reduceSub, Nat.reduceLeDiff, Nat.reduceBEq, Int.reduceToNat, Int.reduceLE, Int.reduceLT, Int.reduceEq, Int.reduceNe, di0, di1, di2, di3, di4, di5, di6, di7, di8, di9, postX_ret, postX_normal, ex_some]
  refine calls_of l_awake ?_; simp only [knI, tabI, pieceI, pairI, lpI, stI, flI, rdI, rnI, getD_kn, res3, b3k0, b3k1, b3k2, b3k3, b3k4, b3k5, ↓reduceIte, reduceCtorEq, Nat.reduceEqDiff, Nat.reduceAdd, Nat.reduceMul, Nat.reduceSub, Nat.reduceLeDiff, Nat.reduceBEq, Int.reduceToNat, Int.reduceLE, Int.reduceLT, Int.reduceEq, Int.reduceNe, di0, di1, di2, di3, di4, di5, di6, di7, di8, di9, postX_ret, postX_normal, ex_some]
  refine calls_of l_FewPair ?_; simp only [knI, tabI, pieceI, pairI, lpI, stI, flI, rdI, rnI, getD_kn, res3, b3k0, b3k1, b3k2, b3k3, b3k4, b3k5, ↓reduceIte, reduceCtorEq, Nat.reduceEqDiff, Nat.reduceAdd, Nat.reduceMul, Nat.reduceSub, Nat.reduceLeDiff, Nat.reduceBEq, Int.reduceToNat, Int.reduceLE, Int.reduceLT, Int.reduceEq, Int.reduceNe, di0, di1, di2, di3, di4, di5, di6, di7, di8, di9, postX_ret, postX_normal, ex_some]
  split
  · rename_i h0
    have hsm : Sm p := ⟨by omega, by omega⟩
    refine calls_of (r_BothErr hsm) ?_; simp only [knI, tabI, pieceI, pairI, lpI, stI, flI, rdI, rnI, getD_kn, res3, b3k0, b3k1, b3k2, b3k3, b3k4, b3k5, ↓reduceIte, reduceCtorEq, Nat.reduceEqDiff, Nat.reduceAdd, Nat.reduceMul, Nat.reduceSub, Nat.reduceLeDiff, Nat.reduceBEq, Int.reduceToNat, Int.reduceLE, Int.reduceLT, Int.reduceEq, Int.reduceNe, di0, di1, di2, di3, di4, di5, di6, di7, di8, di9, postX_ret, postX_normal, ex_some]
    split
    · rename_i h1
      have hv := bothErr_ok.1 h1
      refine calls_of c_Within ?_; simp only [knI, tabI, pieceI, pairI, lpI, stI, flI, rdI, rnI, getD_kn, res3, b3k0, b3k1, b3k2, b3k3, b3k4, b3k5, ↓reduceIte, reduceCtorEq, Nat.reduceEqDiff, Nat.reduceAdd, Nat.reduceMul, Nat.reduceSub, Nat.reduceLeDiff, Nat.reduceBEq, Int.reduceToNat, Int.reduceLE, Int.reduceLT, Int.reduceEq, Int.reduceNe, di0, di1, di2, di3, di4, di5, di6, di7, di8, di9, postX_ret, postX_normal, ex_some]
      split
      · rename_i h2
        have hsd : Sm ⟨p.u, p.l, 0⟩ := ⟨hsm.u, hsm.l⟩
        have hbd : bothErr ⟨p.u, p.l, 0⟩ s = 0 := bothErr_ok.2 ⟨vpair_dry hv.1, hv.2⟩
        have zu := valid_len hv.1.u
        have zl := valid_len hv.1.l
        have bu := hv.1.u.range (i := 0) zu.1
        have bl := hv.1.l.range (i := 0) zl.1
        have tu := hv.1.u.range (i := p.u.length - 1) (by omega)
        have tl := hv.1.l.range (i := p.l.length - 1) (by omega)
        have cu : (bot p.u).2 = (kn p.u 0).2 := rfl
        have cl : (bot p.l).2 = (kn p.l 0).2 := rfl
        have du : (top p.u).2 = (kn p.u (p.u.length - 1)).2 := rfl
        have dl : (top p.l).2 = (kn p.l (p.l.length - 1)).2 := rfl
        have vu1 := hv.2.1.1
        have vu2 := hv.2.1.2
        have vl1 := hv.2.2.1
        have vl2 := hv.2.2.2
        refine calls_of (r_CopyPair (p := p) (by omega) (by omega)) ?_; simp only [knI, tabI, pieceI, pairI, lpI, stI, flI, rdI, rnI, getD_kn, res3, b3k0, b3k1, b3k2, b3k3, b3k4, b3k5, ↓reduceIte, reduceCtorEq, Nat.reduceEqDiff, Nat.reduceAdd, Nat.reduceMul, Nat.reduceSub, Nat.reduceLeDiff, Nat.reduceBEq, Int.reduceToNat, Int.reduceLE, Int.reduceLT, Int.reduceEq, Int.reduceNe, di0, di1, di2, di3, di4, di5, di6, di7, di8, di9, postX_ret, postX_normal, ex_some]
        refine calls_of (r_CopyPair (p := ⟨p.u, p.l, 0⟩) (by dsimp only; omega) (by dsimp only; omega)) ?_; simp only [knI, tabI, pieceI, pairI, lpI, stI, flI, rdI, rnI, getD_kn, res3, b3k0, b3k1, b3k2, b3k3, b3k4, b3k5, ↓reduceIte, reduceCtorEq, Nat.reduceEqDiff, Nat.reduceAdd, Nat.reduceMul, Nat.reduceSub, Nat.reduceLeDiff, Nat.reduceBEq, Int.reduceToNat, Int.reduceLE, Int.reduceLT, Int.reduceEq, Int.reduceNe, di0, di1, di2, di3, di4, di5, di6, di7, di8, di9, postX_ret, postX_normal, ex_some]
        have hU := p_Usable (p := ⟨p.u, p.l, 0⟩) (s := s) hsd
        rw [if_pos hbd] at hU
        refine calls_of hU ?_; simp only [knI, tabI, pieceI, pairI, lpI, stI, flI, rdI, rnI, getD_kn, res3, b3k0, b3k1, b3k2, b3k3, b3k4, b3k5, ↓reduceIte, reduceCtorEq, Nat.reduceEqDiff, Nat.reduceAdd, Nat.reduceMul, Nat.reduceSub, Nat.reduceLeDiff, Nat.reduceBEq, Int.reduceToNat, Int.reduceLE, Int.reduceLT, Int.reduceEq, Int.reduceNe, di0, di1, di2, di3, di4, di5, di6, di7, di8, di9, postX_ret, postX_normal, ex_some]
        refine calls_of c_Within ?_; simp only [knI, tabI, pieceI, pairI, lpI, stI, flI, rdI, rnI, getD_kn, res3, b3k0, b3k1, b3k2, b3k3, b3k4, b3k5, ↓reduceIte, reduceCtorEq, Nat.reduceEqDiff, Nat.reduceAdd, Nat.reduceMul, Nat.reduceSub, Nat.reduceLeDiff, Nat.reduceBEq, Int.reduceToNat, Int.reduceLE, Int.reduceLT, Int.reduceEq, Int.reduceNe, di0, di1, di2, di3, di4, di5, di6, di7, di8, di9, postX_ret, postX_normal, ex_some]
        rw [if_pos (by omega)]
        refine calls_of c_Within ?_; simp only [knI, tabI, pieceI, pairI, lpI, stI, flI, rdI, rnI, getD_kn, res3, b3k0, b3k1, b3k2, b3k3, b3k4, b3k5, ↓reduceIte, reduceCtorEq, Nat.reduceEqDiff, Nat.reduceAdd, Nat.reduceMul, Nat.reduceSub, Nat.reduceLeDiff, Nat.reduceBEq, Int.reduceToNat, Int.reduceLE, Int.reduceLT, Int.reduceEq, Int.reduceNe, di0, di1, di2, di3, di4, di5, di6, di7, di8, di9, postX_ret, postX_normal, ex_some]
        rw [if_pos (by omega)]
        refine calls_of (r_CopyPair (p := ⟨p.u, p.l, 0⟩) (by dsimp only; omega) (by dsimp only; omega)) ?_; simp only [knI, tabI, pieceI, pairI, lpI, stI, flI, rdI, rnI, getD_kn, res3, b3k0, b3k1, b3k2, b3k3, b3k4, b3k5, ↓reduceIte, reduceCtorEq, Nat.reduceEqDiff, Nat.reduceAdd, Nat.reduceMul, Nat.reduceSub, Nat.reduceLeDiff, Nat.reduceBEq, Int.reduceToNat, Int.reduceLE, Int.reduceLT, Int.reduceEq, Int.reduceNe, di0, di1, di2, di3, di4, di5, di6, di7, di8, di9, postX_ret, postX_normal, ex_some]
        have hS := p_Step (p := ⟨p.u, p.l, 0⟩) (s := s) (x := ⟨0, 0, ex⟩) hsd
        rw [dry_step hv.1 hv.2 h2] at hS
        by_cases hb : s.1 + ex < (bot p.u).2 ∨ s.2 - ex < (bot p.l).2
        · rw [if_pos hb] at hS
          refine calls_of hS ?_
          simp only [outI, res3, b3k0, b3k1, b3k2, b3k3, b3k4, b3k5, knI, tabI, pieceI, pairI, lpI, stI, flI, rdI, rnI, getD_kn, ↓reduceIte, reduceCtorEq, Nat.reduceEqDiff, Nat.reduceAdd, Nat.reduceMul, Nat.reduceSub, Nat.reduceLeDiff, Nat.reduceBEq, Int.reduceToNat, Int.reduceLE, Int.reduceLT, Int.reduceEq, Int.reduceNe, di0, di1, di2, di3, di4, di5, di6, di7, di8, di9, postX_ret, postX_normal, ex_some]
          rw [wrap64 (n := 0 - min (s.1 - (bot p.u).2) ((top p.l).2 - s.2)) (by omega) (by omega)]
          refine calls_of c_Within ?_; simp only [knI, tabI, pieceI, pairI, lpI, stI, flI, rdI, rnI, getD_kn, res3, b3k0, b3k1, b3k2, b3k3, b3k4, b3k5, ↓reduceIte, reduceCtorEq, Nat.reduceEqDiff, Nat.reduceAdd, Nat.reduceMul, Nat.reduceSub, Nat.reduceLeDiff, Nat.reduceBEq, Int.reduceToNat, Int.reduceLE, Int.reduceLT, Int.reduceEq, Int.reduceNe, di0, di1, di2, di3, di4, di5, di6, di7, di8, di9, postX_ret, postX_normal, ex_some]
          have hw : ¬ (0 - min (s.1 - (bot p.u).2) ((top p.l).2 - s.2) ≤ ex ∧ ex ≤ min (s.2 - (bot p.l).2) ((top p.u).2 - s.1)) := by omega
          rw [if_neg (by rw [decide_eq_false hw]; decide)]
          trivial
        · rw [if_neg hb] at hS
          refine calls_of hS ?_
          simp only [outI, res3, b3k0, b3k1, b3k2, b3k3, b3k4, b3k5, knI, tabI, pieceI, pairI, lpI, stI, flI, rdI, rnI, getD_kn, ↓reduceIte, reduceCtorEq, Nat.reduceEqDiff, Nat.reduceAdd, Nat.reduceMul, Nat.reduceSub, Nat.reduceLeDiff, Nat.reduceBEq, Int.reduceToNat, Int.reduceLE, Int.reduceLT, Int.reduceEq, Int.reduceNe, di0, di1, di2, di3, di4, di5, di6, di7, di8, di9, postX_ret, postX_normal, ex_some]
          rw [wrap64 (n := 0 - min (s.1 - (bot p.u).2) ((top p.l).2 - s.2)) (by omega) (by omega)]
          refine calls_of c_Within ?_; simp only [knI, tabI, pieceI, pairI, lpI, stI, flI, rdI, rnI, getD_kn, res3, b3k0, b3k1, b3k2, b3k3, b3k4, b3k5, ↓reduceIte, reduceCtorEq, Nat.reduceEqDiff, Nat.reduceAdd, Nat.reduceMul, Nat.reduceSub, Nat.reduceLeDiff, Nat.reduceBEq, Int.reduceToNat, Int.reduceLE, Int.reduceLT, Int.reduceEq, Int.reduceNe, di0, di1, di2, di3, di4, di5, di6, di7, di8, di9, postX_ret, postX_normal, ex_some]
          by_cases hz : max 0 (s.1 + ex - (top p.u).2) + max 0 (s.2 - ex - (top p.l).2) = 0
          · rw [if_neg (by rw [decide_eq_true hz, decide_eq_true (by omega)]; decide), if_pos hz]
            have y1 : s.1 + ex - max 0 (s.1 + ex - (top p.u).2) = s.1 + ex := by omega
            have y2 : s.2 - ex - max 0 (s.2 - ex - (top p.l).2) = s.2 - ex := by omega
            have hy : stOk p (s.1 + ex, s.2 - ex) := ⟨⟨by dsimp only; omega, by dsimp only; omega⟩, ⟨by dsimp only; omega, by dsimp only; omega⟩⟩
            have hB := p_Step (p := ⟨p.u, p.l, 0⟩) (s := (s.1 + ex, s.2 - ex)) (x := ⟨0, 0, -ex⟩) hsd
            have hstep := dry_step hv.1 hy (e := -ex) (by omega)
            rw [if_neg (by dsimp only; omega)] at hstep
            have e1 : s.1 + ex + -ex = s.1 := by omega
            have e2 : s.2 - ex - -ex = s.2 := by omega
            have e3 : max 0 (s.1 - (top p.u).2) = 0 := by omega
            have e4 : max 0 (s.2 - (top p.l).2) = 0 := by omega
            dsimp only at hstep
            rw [e1, e2, e3, e4, Int.sub_zero, Int.sub_zero, Int.add_zero] at hstep
            rw [hstep] at hB
            rw [wrap64 (n := 0 - ex) (by omega) (by omega), y1, y2, Int.zero_sub]
            refine calls_of hB ?_
            simp only [outI, res3, b3k0, b3k1, b3k2, b3k3, b3k4, b3k5, knI, tabI, pieceI, pairI, lpI, stI, flI, rdI, rnI, getD_kn, ↓reduceIte, reduceCtorEq, Nat.reduceEqDiff, Nat.reduceAdd, Nat.reduceMul, Nat.reduceSub, Nat.reduceLeDiff, Nat.reduceBEq, Int.reduceToNat, Int.reduceLE, Int.reduceLT, Int.reduceEq, Int.reduceNe, di0, di1, di2, di3, di4, di5, di6, di7, di8, di9, postX_ret, postX_normal, ex_some]
          · rw [if_neg (by rw [decide_eq_false hz, decide_eq_false (by omega)]; decide), if_neg hz]
            trivial
      · rename_i h2
        trivial
    · rename_i h1
      trivial
  · rename_i h0
    trivial
end Go.DI

