/- The statement LakeBetween, on data. No condition. -/
import Derived.Test.YtbmlfeikdhpdfaaJk
import Derived.Test.YtbmlfeikdhpdfaaBea
set_option linter.unusedSimpArgs false
set_option maxRecDepth 100000
namespace Go.DI
open Go.Proofs Go.RowKit Lk

/-- A fraction in lowest terms. -/
theorem reduced {n d : Int} (n0 : 0 < n) (n1 : n ≤ 1000000000) (d0 : 0 < d) (d1 : d ≤ 1000000000) :
    ∃ g a b : Int, 0 < g ∧ n = g * a ∧ d = g * b ∧ areaI n d = .agg [.int .i64 a, .int .i64 b] ∧ (Int.gcd a b : Int) = 1 ∧ 0 < a ∧ a ≤ 1000000000 ∧ 0 < b ∧ b ≤ 1000000000 := by
  have hg : 0 < Int.gcd n d := Int.gcd_pos_of_ne_zero_left _ (by omega)
  have hn : (Int.gcd n d : Int) ∣ n := Int.gcd_dvd_left _ _
  have hd : (Int.gcd n d : Int) ∣ d := Int.gcd_dvd_right _ _
  have hc := Int.gcd_ediv_gcd_ediv_gcd hg
  have e1 := Int.mul_ediv_cancel' hn
  have e2 := Int.mul_ediv_cancel' hd
  have e3 : areaI n d = .agg [.int .i64 (n / (Int.gcd n d : Int)), .int .i64 (d / (Int.gcd n d : Int))] := rfl
  generalize n / (Int.gcd n d : Int) = a at *
  generalize d / (Int.gcd n d : Int) = b at *
  have hg' : 0 < (Int.gcd n d : Int) := by omega
  generalize (Int.gcd n d : Int) = g at *
  have a0 : 0 < a := by
    apply Decidable.byContradiction
    intro k
    have := Int.mul_nonpos_of_nonneg_of_nonpos (show 0 ≤ g by omega) (show a ≤ 0 by omega)
    omega
  have b0 : 0 < b := by
    apply Decidable.byContradiction
    intro k
    have := Int.mul_nonpos_of_nonneg_of_nonpos (show 0 ≤ g by omega) (show b ≤ 0 by omega)
    omega
  have a1 := Int.mul_le_mul_of_nonneg_right (show 1 ≤ g by omega) (show 0 ≤ a by omega)
  have b1 := Int.mul_le_mul_of_nonneg_right (show 1 ≤ g by omega) (show 0 ≤ b by omega)
  exact ⟨g, a, b, hg', e1.symm, e2.symm, e3, by rw [hc]; rfl, a0, by omega, b0, by omega⟩

theorem l_small {a b : Int} (hg : (Int.gcd a b : Int) = 1) (a0 : 0 < a) (a1 : a ≤ 1000000000) (b0 : 0 < b) (b1 : b ≤ 1000000000) : Contract Try.prog 48 [.agg [.int .i64 a, .int .i64 b]] (.bool true) := by
  have h1 := c_IsLowest (n := a) (d := b) (by omega) (by omega) (by omega) (by omega)
  rw [decide_eq_true ⟨b0, hg⟩] at h1
  have h2 := c_IsSmall (n := a) (d := b)
  rw [decide_eq_true ⟨⟨by omega, by omega⟩, by omega, by omega⟩] at h2
  refine contract_run Try.func48 k48 rfl ?_
  simp only [body48, b48, res48, knI, tabI, pieceI, pairI, lpI, stI, flI, rdI, rnI, getD_kn, ↓reduceIte, reduceCtorEq, Nat.reduceEqDiff, Nat.reduceAdd, Nat.reduceMul, Nat.reduceSub, Nat.reduceLeDiff, Nat.reduceBEq, Int.reduceToNat, Int.reduceLE, Int.reduceLT, Int.reduceEq, Int.reduceNe, di0, di1, di2, di3, di4, di5, di6, di7, di8, di9, postX_ret, postX_normal, ex_some]
  refine calls_of h1 ?_; simp only [knI, tabI, pieceI, pairI, lpI, stI, flI, rdI, rnI, getD_kn, res48, ↓reduceIte, reduceCtorEq, Nat.reduceEqDiff, Nat.reduceAdd, Nat.reduceMul, Nat.reduceSub, Nat.reduceLeDiff, Nat.reduceBEq, Int.reduceToNat, Int.reduceLE, Int.reduceLT, Int.reduceEq, Int.reduceNe, di0, di1, di2, di3, di4, di5, di6, di7, di8, di9, postX_ret, postX_normal, ex_some]
  refine calls_of h2 ?_; simp only [knI, tabI, pieceI, pairI, lpI, stI, flI, rdI, rnI, getD_kn, res48, ↓reduceIte, reduceCtorEq, Nat.reduceEqDiff, Nat.reduceAdd, Nat.reduceMul, Nat.reduceSub, Nat.reduceLeDiff, Nat.reduceBEq, Int.reduceToNat, Int.reduceLE, Int.reduceLT, Int.reduceEq, Int.reduceNe, di0, di1, di2, di3, di4, di5, di6, di7, di8, di9, postX_ret, postX_normal, ex_some]

theorem cross {g a b h c d : Int} (hg : 0 < g) (hh : 0 < h) (k : g * a * (h * d) ≤ h * c * (g * b)) : a * d ≤ c * b := by
  have e1 : g * a * (h * d) = g * h * (a * d) := by grind
  have e2 : h * c * (g * b) = g * h * (c * b) := by grind
  rw [e1, e2] at k
  exact Int.le_of_mul_le_mul_left k (Int.mul_pos hg hh)

theorem bound18 {a b : Int} (a0 : 0 < a) (a1 : a ≤ 1000000000) (b0 : 0 < b) (b1 : b ≤ 1000000000) : 0 ≤ a * b ∧ a * b ≤ 1000000000000000000 := by
  refine ⟨Int.mul_nonneg (by omega) (by omega), ?_⟩
  have h := Int.mul_le_mul a1 b1 (by omega) (by omega)
  omega

theorem l_LakeBetween {l : List Kn} {v more : Int} : Contract Try.prog 8 [tabI l, .int .i64 v, .int .i64 more] (.bool true) := by
  refine contract_run Try.func8 k8 rfl ?_
  simp only [body8, b8, res8, b8k0, b8k1, b8k2, b8k3, b8k4, b8k5, b8k6, knI, tabI, pieceI, pairI, lpI, stI, flI, rdI, rnI, getD_kn, ↓reduceIte, reduceCtorEq, Nat.reduceEqDiff, Nat.reduceAdd, Nat.reduceMul, Nat.reduceSub, Nat.reduceLeDiff, Nat.reduceBEq, Int.reduceToNat, Int.reduceLE, Int.reduceLT, Int.reduceEq, Int.reduceNe, di0, di1, di2, di3, di4, di5, di6, di7, di8, di9, postX_ret, postX_normal, ex_some]
  refine calls_of l_awake ?_; simp only [knI, tabI, pieceI, pairI, lpI, stI, flI, rdI, rnI, getD_kn, res8, b8k0, b8k1, b8k2, b8k3, b8k4, b8k5, b8k6, ↓reduceIte, reduceCtorEq, Nat.reduceEqDiff, Nat.reduceAdd, Nat.reduceMul, Nat.reduceSub, Nat.reduceLeDiff, Nat.reduceBEq, Int.reduceToNat, Int.reduceLE, Int.reduceLT, Int.reduceEq, Int.reduceNe, di0, di1, di2, di3, di4, di5, di6, di7, di8, di9, postX_ret, postX_normal, ex_some]
  refine calls_of l_Few ?_; simp only [knI, tabI, pieceI, pairI, lpI, stI, flI, rdI, rnI, getD_kn, res8, b8k0, b8k1, b8k2, b8k3, b8k4, b8k5, b8k6, ↓reduceIte, reduceCtorEq, Nat.reduceEqDiff, Nat.reduceAdd, Nat.reduceMul, Nat.reduceSub, Nat.reduceLeDiff, Nat.reduceBEq, Int.reduceToNat, Int.reduceLE, Int.reduceLT, Int.reduceEq, Int.reduceNe, di0, di1, di2, di3, di4, di5, di6, di7, di8, di9, postX_ret, postX_normal, ex_some]
  split
  · rename_i h0
    refine calls_of (r_TableErr (by omega)) ?_; simp only [knI, tabI, pieceI, pairI, lpI, stI, flI, rdI, rnI, getD_kn, res8, b8k0, b8k1, b8k2, b8k3, b8k4, b8k5, b8k6, ↓reduceIte, reduceCtorEq, Nat.reduceEqDiff, Nat.reduceAdd, Nat.reduceMul, Nat.reduceSub, Nat.reduceLeDiff, Nat.reduceBEq, Int.reduceToNat, Int.reduceLE, Int.reduceLT, Int.reduceEq, Int.reduceNe, di0, di1, di2, di3, di4, di5, di6, di7, di8, di9, postX_ret, postX_normal, ex_some]
    split
    · rename_i h1
      have hv := chkT_ok.1 h1
      have hz := valid_len hv
      refine calls_of (r_IsVolume hz.1 hz.2) ?_; simp only [knI, tabI, pieceI, pairI, lpI, stI, flI, rdI, rnI, getD_kn, res8, b8k0, b8k1, b8k2, b8k3, b8k4, b8k5, b8k6, ↓reduceIte, reduceCtorEq, Nat.reduceEqDiff, Nat.reduceAdd, Nat.reduceMul, Nat.reduceSub, Nat.reduceLeDiff, Nat.reduceBEq, Int.reduceToNat, Int.reduceLE, Int.reduceLT, Int.reduceEq, Int.reduceNe, di0, di1, di2, di3, di4, di5, di6, di7, di8, di9, postX_ret, postX_normal, ex_some]
      split
      · rename_i h2
        refine calls_of c_Within ?_; simp only [knI, tabI, pieceI, pairI, lpI, stI, flI, rdI, rnI, getD_kn, res8, b8k0, b8k1, b8k2, b8k3, b8k4, b8k5, b8k6, ↓reduceIte, reduceCtorEq, Nat.reduceEqDiff, Nat.reduceAdd, Nat.reduceMul, Nat.reduceSub, Nat.reduceLeDiff, Nat.reduceBEq, Int.reduceToNat, Int.reduceLE, Int.reduceLT, Int.reduceEq, Int.reduceNe, di0, di1, di2, di3, di4, di5, di6, di7, di8, di9, postX_ret, postX_normal, ex_some]
        split
        · rename_i h3
          have hcp := r_Copy (l := l) (by omega)
          have hL := fun v => p_LevelAt (l := l) (v := v) (by omega)
          have hV := fun x => p_VolumeAt (l := l) (x := x) (by omega)
          have hA := fun v => p_AreaAt (l := l) (v := v) (by omega)
          simp only [if_pos h1] at hL hV hA
          have li := level_isL hv h2
          have en := enclose hv h2
          have hLv := hL v
          rw [if_pos h2] at hLv
          have hVa := hV (levLo l v)
          rw [if_pos li.1] at hVa
          have hVb := hV (levHi l v)
          rw [if_pos li.2.1] at hVb
          have hIa := r_IsLevel (x := levLo l v) hz.1 hz.2
          rw [decide_eq_true li.1] at hIa
          have hIb := r_IsLevel (x := levHi l v) hz.1 hz.2
          rw [decide_eq_true li.2.1] at hIb
          have bl1 := isL_bd hv li.1
          have bl2 := isL_bd hv li.2.1
          refine calls_of hcp ?_; simp only [knI, tabI, pieceI, pairI, lpI, stI, flI, rdI, rnI, getD_kn, res8, b8k0, b8k1, b8k2, b8k3, b8k4, b8k5, b8k6, ↓reduceIte, reduceCtorEq, Nat.reduceEqDiff, Nat.reduceAdd, Nat.reduceMul, Nat.reduceSub, Nat.reduceLeDiff, Nat.reduceBEq, Int.reduceToNat, Int.reduceLE, Int.reduceLT, Int.reduceEq, Int.reduceNe, di0, di1, di2, di3, di4, di5, di6, di7, di8, di9, postX_ret, postX_normal, ex_some]
          refine calls_of hLv ?_; simp only [knI, tabI, pieceI, pairI, lpI, stI, flI, rdI, rnI, getD_kn, res8, b8k0, b8k1, b8k2, b8k3, b8k4, b8k5, b8k6, ↓reduceIte, reduceCtorEq, Nat.reduceEqDiff, Nat.reduceAdd, Nat.reduceMul, Nat.reduceSub, Nat.reduceLeDiff, Nat.reduceBEq, Int.reduceToNat, Int.reduceLE, Int.reduceLT, Int.reduceEq, Int.reduceNe, di0, di1, di2, di3, di4, di5, di6, di7, di8, di9, postX_ret, postX_normal, ex_some]
          refine calls_of hIa ?_; simp only [knI, tabI, pieceI, pairI, lpI, stI, flI, rdI, rnI, getD_kn, res8, b8k0, b8k1, b8k2, b8k3, b8k4, b8k5, b8k6, ↓reduceIte, reduceCtorEq, Nat.reduceEqDiff, Nat.reduceAdd, Nat.reduceMul, Nat.reduceSub, Nat.reduceLeDiff, Nat.reduceBEq, Int.reduceToNat, Int.reduceLE, Int.reduceLT, Int.reduceEq, Int.reduceNe, di0, di1, di2, di3, di4, di5, di6, di7, di8, di9, postX_ret, postX_normal, ex_some]
          refine calls_of hIb ?_; simp only [knI, tabI, pieceI, pairI, lpI, stI, flI, rdI, rnI, getD_kn, res8, b8k0, b8k1, b8k2, b8k3, b8k4, b8k5, b8k6, ↓reduceIte, reduceCtorEq, Nat.reduceEqDiff, Nat.reduceAdd, Nat.reduceMul, Nat.reduceSub, Nat.reduceLeDiff, Nat.reduceBEq, Int.reduceToNat, Int.reduceLE, Int.reduceLT, Int.reduceEq, Int.reduceNe, di0, di1, di2, di3, di4, di5, di6, di7, di8, di9, postX_ret, postX_normal, ex_some]
          refine calls_of c_Within ?_; simp only [knI, tabI, pieceI, pairI, lpI, stI, flI, rdI, rnI, getD_kn, res8, b8k0, b8k1, b8k2, b8k3, b8k4, b8k5, b8k6, ↓reduceIte, reduceCtorEq, Nat.reduceEqDiff, Nat.reduceAdd, Nat.reduceMul, Nat.reduceSub, Nat.reduceLeDiff, Nat.reduceBEq, Int.reduceToNat, Int.reduceLE, Int.reduceLT, Int.reduceEq, Int.reduceNe, di0, di1, di2, di3, di4, di5, di6, di7, di8, di9, postX_ret, postX_normal, ex_some]
          rw [wrap64 (n := levHi l v - levLo l v) (by omega) (by omega)]
          simp only [if_pos (show 0 ≤ levHi l v - levLo l v ∧ levHi l v - levLo l v ≤ 1 by omega), knI, tabI, pieceI, pairI, lpI, stI, flI, rdI, rnI, getD_kn, ↓reduceIte, reduceCtorEq, Nat.reduceEqDiff, Nat.reduceAdd, Nat.reduceMul, Nat.reduceSub, Nat.reduceLeDiff, Nat.reduceBEq, Int.reduceToNat, Int.reduceLE, Int.reduceLT, Int.reduceEq, Int.reduceNe, di0, di1, di2, di3, di4, di5, di6, di7, di8, di9, postX_ret, postX_normal, ex_some]
          refine calls_of hcp ?_; simp only [knI, tabI, pieceI, pairI, lpI, stI, flI, rdI, rnI, getD_kn, res8, b8k0, b8k1, b8k2, b8k3, b8k4, b8k5, b8k6, ↓reduceIte, reduceCtorEq, Nat.reduceEqDiff, Nat.reduceAdd, Nat.reduceMul, Nat.reduceSub, Nat.reduceLeDiff, Nat.reduceBEq, Int.reduceToNat, Int.reduceLE, Int.reduceLT, Int.reduceEq, Int.reduceNe, di0, di1, di2, di3, di4, di5, di6, di7, di8, di9, postX_ret, postX_normal, ex_some]
          refine calls_of hVa ?_; simp only [knI, tabI, pieceI, pairI, lpI, stI, flI, rdI, rnI, getD_kn, res8, b8k0, b8k1, b8k2, b8k3, b8k4, b8k5, b8k6, ↓reduceIte, reduceCtorEq, Nat.reduceEqDiff, Nat.reduceAdd, Nat.reduceMul, Nat.reduceSub, Nat.reduceLeDiff, Nat.reduceBEq, Int.reduceToNat, Int.reduceLE, Int.reduceLT, Int.reduceEq, Int.reduceNe, di0, di1, di2, di3, di4, di5, di6, di7, di8, di9, postX_ret, postX_normal, ex_some]
          refine calls_of hcp ?_; simp only [knI, tabI, pieceI, pairI, lpI, stI, flI, rdI, rnI, getD_kn, res8, b8k0, b8k1, b8k2, b8k3, b8k4, b8k5, b8k6, ↓reduceIte, reduceCtorEq, Nat.reduceEqDiff, Nat.reduceAdd, Nat.reduceMul, Nat.reduceSub, Nat.reduceLeDiff, Nat.reduceBEq, Int.reduceToNat, Int.reduceLE, Int.reduceLT, Int.reduceEq, Int.reduceNe, di0, di1, di2, di3, di4, di5, di6, di7, di8, di9, postX_ret, postX_normal, ex_some]
          refine calls_of hVb ?_; simp only [knI, tabI, pieceI, pairI, lpI, stI, flI, rdI, rnI, getD_kn, res8, b8k0, b8k1, b8k2, b8k3, b8k4, b8k5, b8k6, ↓reduceIte, reduceCtorEq, Nat.reduceEqDiff, Nat.reduceAdd, Nat.reduceMul, Nat.reduceSub, Nat.reduceLeDiff, Nat.reduceBEq, Int.reduceToNat, Int.reduceLE, Int.reduceLT, Int.reduceEq, Int.reduceNe, di0, di1, di2, di3, di4, di5, di6, di7, di8, di9, postX_ret, postX_normal, ex_some]
          rw [if_pos ⟨by omega, by omega⟩]
          refine loop_keep (α := Nat) rfl (fun i => l.length - i) (fun i => i ≤ l.length)
            (fun i => [(1, .imm (.int .i64 v)), (2, .imm (.int .i64 more)), (3, .ref 3 0), (7, .ref 7 0), (13, .imm (.int .i64 i))])
            (fun _ => [(3, .box [.imm (.slc 2 (l.map knI))]), (7, .box [.imm (.int .i64 (levLo l v)), .imm (.int .i64 (levHi l v))])]) 0 (Nat.zero_le _) (by simp only [↓reduceIte, reduceCtorEq, Nat.reduceEqDiff, Nat.reduceAdd, Nat.reduceMul, Nat.reduceSub, Nat.reduceLeDiff, Nat.reduceBEq, Int.reduceToNat, Int.reduceLE, Int.reduceLT, Int.reduceEq, Int.reduceNe, di0, di1, di2, di3, di4, di5, di6, di7, di8, di9, postX_ret, postX_normal, ex_some] <;> rfl) ?_
          intro i hi ih
          simp only [res8, b8k0, b8k1, b8k2, b8k3, b8k4, b8k5, b8k6, knI, tabI, pieceI, pairI, lpI, stI, flI, rdI, rnI, getD_kn, ↓reduceIte, reduceCtorEq, Nat.reduceEqDiff, Nat.reduceAdd, Nat.reduceMul, Nat.reduceSub, Nat.reduceLeDiff, Nat.reduceBEq, Int.reduceToNat, Int.reduceLE, Int.reduceLT, Int.reduceEq, Int.reduceNe, di0, di1, di2, di3, di4, di5, di6, di7, di8, di9, postX_ret, postX_normal, ex_some]
          split
          · rename_i h4
            obtain ⟨k1, k2, k3, k4, k5, k6⟩ := at_knot hv (i := i) (by omega)
            have hLk := hL (kn l i).2
            rw [if_pos k1, k3, k4] at hLk
            have hVk := hV (kn l i).1
            rw [if_pos k2, k5, k6] at hVk
            repeat (refine And.intro (by omega) ?_)
            refine calls_of hcp ?_; simp only [knI, tabI, pieceI, pairI, lpI, stI, flI, rdI, rnI, getD_kn, res8, b8k0, b8k1, b8k2, b8k3, b8k4, b8k5, b8k6, ↓reduceIte, reduceCtorEq, Nat.reduceEqDiff, Nat.reduceAdd, Nat.reduceMul, Nat.reduceSub, Nat.reduceLeDiff, Nat.reduceBEq, Int.reduceToNat, Int.reduceLE, Int.reduceLT, Int.reduceEq, Int.reduceNe, di0, di1, di2, di3, di4, di5, di6, di7, di8, di9, postX_ret, postX_normal, ex_some]
            refine calls_of hLk ?_; simp only [knI, tabI, pieceI, pairI, lpI, stI, flI, rdI, rnI, getD_kn, res8, b8k0, b8k1, b8k2, b8k3, b8k4, b8k5, b8k6, ↓reduceIte, reduceCtorEq, Nat.reduceEqDiff, Nat.reduceAdd, Nat.reduceMul, Nat.reduceSub, Nat.reduceLeDiff, Nat.reduceBEq, Int.reduceToNat, Int.reduceLE, Int.reduceLT, Int.reduceEq, Int.reduceNe, di0, di1, di2, di3, di4, di5, di6, di7, di8, di9, postX_ret, postX_normal, ex_some]
            refine calls_of hcp ?_; simp only [knI, tabI, pieceI, pairI, lpI, stI, flI, rdI, rnI, getD_kn, res8, b8k0, b8k1, b8k2, b8k3, b8k4, b8k5, b8k6, ↓reduceIte, reduceCtorEq, Nat.reduceEqDiff, Nat.reduceAdd, Nat.reduceMul, Nat.reduceSub, Nat.reduceLeDiff, Nat.reduceBEq, Int.reduceToNat, Int.reduceLE, Int.reduceLT, Int.reduceEq, Int.reduceNe, di0, di1, di2, di3, di4, di5, di6, di7, di8, di9, postX_ret, postX_normal, ex_some]
            refine calls_of hVk ?_; simp only [knI, tabI, pieceI, pairI, lpI, stI, flI, rdI, rnI, getD_kn, res8, b8k0, b8k1, b8k2, b8k3, b8k4, b8k5, b8k6, ↓reduceIte, reduceCtorEq, Nat.reduceEqDiff, Nat.reduceAdd, Nat.reduceMul, Nat.reduceSub, Nat.reduceLeDiff, Nat.reduceBEq, Int.reduceToNat, Int.reduceLE, Int.reduceLT, Int.reduceEq, Int.reduceNe, di0, di1, di2, di3, di4, di5, di6, di7, di8, di9, postX_ret, postX_normal, ex_some]
            rw [wrap64 (by omega) (by omega)]
            exact ih (i + 1) _ _ (by omega) (by omega) (by simp only [↓reduceIte, reduceCtorEq, Nat.reduceEqDiff, Nat.reduceAdd, Nat.reduceMul, Nat.reduceSub, Nat.reduceLeDiff, Nat.reduceBEq, Int.reduceToNat, Int.reduceLE, Int.reduceLT, Int.reduceEq, Int.reduceNe, di0, di1, di2, di3, di4, di5, di6, di7, di8, di9, postX_ret, postX_normal, ex_some] <;> rfl)
          · rename_i h4
            have bv := isV_bd hv h2
            refine calls_of (r_Top hz.1 hz.2) ?_; simp only [knI, tabI, pieceI, pairI, lpI, stI, flI, rdI, rnI, getD_kn, res8, b8k0, b8k1, b8k2, b8k3, b8k4, b8k5, b8k6, ↓reduceIte, reduceCtorEq, Nat.reduceEqDiff, Nat.reduceAdd, Nat.reduceMul, Nat.reduceSub, Nat.reduceLeDiff, Nat.reduceBEq, Int.reduceToNat, Int.reduceLE, Int.reduceLT, Int.reduceEq, Int.reduceNe, di0, di1, di2, di3, di4, di5, di6, di7, di8, di9, postX_ret, postX_normal, ex_some]
            rw [wrap64 (n := v + more) (by omega) (by omega)]
            have hw : isV l (min (v + more) (top l).2) ∧ v ≤ min (v + more) (top l).2 := by
              have e1 := h2.1
              have e2 := h2.2
              refine ⟨⟨by omega, by omega⟩, by omega⟩
            generalize min (v + more) (top l).2 = w at *
            have hLw := hL w
            rw [if_pos hw.1] at hLw
            have hAv := hA v
            rw [if_pos h2] at hAv
            have hAw := hA w
            rw [if_pos hw.1] at hAw
            have lm := level_mono hv h2 hw.1 hw.2
            have am := atV_mono hv h2 hw.1 hw.2
            obtain ⟨i1, e1, i11, i12, _⟩ := at_volume hv h2
            obtain ⟨i2, e2, i21, i22, _⟩ := at_volume hv hw.1
            rw [e1] at hAv am
            rw [e2] at hAw am
            have ar := area_mono hv i11 am i22
            have p1 := dv_pos hv i11 i12
            have p2 := dh_pos hv i11 i12
            have p3 := dv_pos hv i21 i22
            have p4 := dh_pos hv i21 i22
            obtain ⟨g, a, b, g0, ea, eb, eI, eg, a0, a1, b0, b1⟩ := reduced p1.1 p1.2 p2.1 (by omega)
            obtain ⟨h, c, d, h0', ec, ed, eI', eh, c0, c1, d0, d1⟩ := reduced p3.1 p3.2 p4.1 (by omega)
            rw [eI] at hAv
            rw [eI'] at hAw
            rw [ea, eb, ec, ed] at ar
            have cr := cross g0 h0' ar
            have q1 := bound18 a0 a1 d0 d1
            have q2 := bound18 c0 c1 b0 b1
            have hC := c_Cmp (a := a) (b := b) (c := c) (d := d) (by omega) (by omega) (by omega) (by omega)
            refine calls_of hcp ?_; simp only [knI, tabI, pieceI, pairI, lpI, stI, flI, rdI, rnI, getD_kn, res8, b8k0, b8k1, b8k2, b8k3, b8k4, b8k5, b8k6, ↓reduceIte, reduceCtorEq, Nat.reduceEqDiff, Nat.reduceAdd, Nat.reduceMul, Nat.reduceSub, Nat.reduceLeDiff, Nat.reduceBEq, Int.reduceToNat, Int.reduceLE, Int.reduceLT, Int.reduceEq, Int.reduceNe, di0, di1, di2, di3, di4, di5, di6, di7, di8, di9, postX_ret, postX_normal, ex_some]
            refine calls_of hLw ?_; simp only [knI, tabI, pieceI, pairI, lpI, stI, flI, rdI, rnI, getD_kn, res8, b8k0, b8k1, b8k2, b8k3, b8k4, b8k5, b8k6, ↓reduceIte, reduceCtorEq, Nat.reduceEqDiff, Nat.reduceAdd, Nat.reduceMul, Nat.reduceSub, Nat.reduceLeDiff, Nat.reduceBEq, Int.reduceToNat, Int.reduceLE, Int.reduceLT, Int.reduceEq, Int.reduceNe, di0, di1, di2, di3, di4, di5, di6, di7, di8, di9, postX_ret, postX_normal, ex_some]
            refine calls_of hcp ?_; simp only [knI, tabI, pieceI, pairI, lpI, stI, flI, rdI, rnI, getD_kn, res8, b8k0, b8k1, b8k2, b8k3, b8k4, b8k5, b8k6, ↓reduceIte, reduceCtorEq, Nat.reduceEqDiff, Nat.reduceAdd, Nat.reduceMul, Nat.reduceSub, Nat.reduceLeDiff, Nat.reduceBEq, Int.reduceToNat, Int.reduceLE, Int.reduceLT, Int.reduceEq, Int.reduceNe, di0, di1, di2, di3, di4, di5, di6, di7, di8, di9, postX_ret, postX_normal, ex_some]
            refine calls_of hAv ?_; simp only [knI, tabI, pieceI, pairI, lpI, stI, flI, rdI, rnI, getD_kn, res8, b8k0, b8k1, b8k2, b8k3, b8k4, b8k5, b8k6, ↓reduceIte, reduceCtorEq, Nat.reduceEqDiff, Nat.reduceAdd, Nat.reduceMul, Nat.reduceSub, Nat.reduceLeDiff, Nat.reduceBEq, Int.reduceToNat, Int.reduceLE, Int.reduceLT, Int.reduceEq, Int.reduceNe, di0, di1, di2, di3, di4, di5, di6, di7, di8, di9, postX_ret, postX_normal, ex_some]
            refine calls_of hcp ?_; simp only [knI, tabI, pieceI, pairI, lpI, stI, flI, rdI, rnI, getD_kn, res8, b8k0, b8k1, b8k2, b8k3, b8k4, b8k5, b8k6, ↓reduceIte, reduceCtorEq, Nat.reduceEqDiff, Nat.reduceAdd, Nat.reduceMul, Nat.reduceSub, Nat.reduceLeDiff, Nat.reduceBEq, Int.reduceToNat, Int.reduceLE, Int.reduceLT, Int.reduceEq, Int.reduceNe, di0, di1, di2, di3, di4, di5, di6, di7, di8, di9, postX_ret, postX_normal, ex_some]
            refine calls_of hAw ?_; simp only [knI, tabI, pieceI, pairI, lpI, stI, flI, rdI, rnI, getD_kn, res8, b8k0, b8k1, b8k2, b8k3, b8k4, b8k5, b8k6, ↓reduceIte, reduceCtorEq, Nat.reduceEqDiff, Nat.reduceAdd, Nat.reduceMul, Nat.reduceSub, Nat.reduceLeDiff, Nat.reduceBEq, Int.reduceToNat, Int.reduceLE, Int.reduceLT, Int.reduceEq, Int.reduceNe, di0, di1, di2, di3, di4, di5, di6, di7, di8, di9, postX_ret, postX_normal, ex_some]
            rw [if_pos ⟨by omega, by omega⟩]
            refine calls_of (l_small eg a0 a1 b0 b1) ?_; simp only [knI, tabI, pieceI, pairI, lpI, stI, flI, rdI, rnI, getD_kn, res8, b8k0, b8k1, b8k2, b8k3, b8k4, b8k5, b8k6, ↓reduceIte, reduceCtorEq, Nat.reduceEqDiff, Nat.reduceAdd, Nat.reduceMul, Nat.reduceSub, Nat.reduceLeDiff, Nat.reduceBEq, Int.reduceToNat, Int.reduceLE, Int.reduceLT, Int.reduceEq, Int.reduceNe, di0, di1, di2, di3, di4, di5, di6, di7, di8, di9, postX_ret, postX_normal, ex_some]
            refine calls_of (l_small eh c0 c1 d0 d1) ?_; simp only [knI, tabI, pieceI, pairI, lpI, stI, flI, rdI, rnI, getD_kn, res8, b8k0, b8k1, b8k2, b8k3, b8k4, b8k5, b8k6, ↓reduceIte, reduceCtorEq, Nat.reduceEqDiff, Nat.reduceAdd, Nat.reduceMul, Nat.reduceSub, Nat.reduceLeDiff, Nat.reduceBEq, Int.reduceToNat, Int.reduceLE, Int.reduceLT, Int.reduceEq, Int.reduceNe, di0, di1, di2, di3, di4, di5, di6, di7, di8, di9, postX_ret, postX_normal, ex_some]
            refine calls_of hC ?_; simp only [knI, tabI, pieceI, pairI, lpI, stI, flI, rdI, rnI, getD_kn, res8, b8k0, b8k1, b8k2, b8k3, b8k4, b8k5, b8k6, ↓reduceIte, reduceCtorEq, Nat.reduceEqDiff, Nat.reduceAdd, Nat.reduceMul, Nat.reduceSub, Nat.reduceLeDiff, Nat.reduceBEq, Int.reduceToNat, Int.reduceLE, Int.reduceLT, Int.reduceEq, Int.reduceNe, di0, di1, di2, di3, di4, di5, di6, di7, di8, di9, postX_ret, postX_normal, ex_some]
            have sg := sign_cases (a * d - c * b)
            rw [decide_eq_true (by omega)]
        · trivial
      · trivial
    · trivial
  · trivial
end Go.DI

