/- The statement SurgeAreas, as a contract. No condition. -/
import Derived.Test.YtdpfjbghiahbeaaKfGt
set_option linter.unusedSimpArgs false
set_option maxRecDepth 20000
namespace Go.DI
open Go.Proofs Go.RowKit Sg

def twoM (t : Th) : Th := ⟨t.len, t.sec, t.loss, t.head, 2 * t.mach⟩
theorem two_num {t : Th} : thNum (twoM t) = 2 * thNum t ∧ thDen (twoM t) = thDen t := by
  unfold thNum thDen twoM
  dsimp only
  refine ⟨?_, rfl⟩
  rw [show t.len * t.sec * 1000 * (2 * t.mach) = 2 * (t.len * t.sec * 1000 * t.mach) by rw [Int.mul_left_comm]]
theorem two_ok {t : Th} (h : thE t = 0) (h3 : t.mach ≤ 3) : thE (twoM t) = 0 := by
  rw [thE_zero] at h ⊢
  refine ⟨h.1, ?_⟩
  unfold twoM
  dsimp only
  omega
theorem low_gcd {t : Th} (h : thE t = 0) : (Int.gcd (lowP t).1 (lowP t).2 : Int) = 1 := by
  have hp := th_parts h
  have hg0 := Wd.div_gcd (thNum t) (thDen t) (by omega)
  unfold lowP
  dsimp only
  rw [Int.gcd_ediv_gcd_ediv_gcd (by omega)]
  rfl
theorem low_rat {t : Th} (h : thE t = 0) : Rat.divInt (lowP t).1 (lowP t).2 = Rat.divInt (thNum t) (thDen t) := by
  have hp := th_parts h
  have hl := low_bd h
  have hg0 := Wd.div_gcd (thNum t) (thDen t) (by omega)
  have hgn : (Int.gcd (thNum t) (thDen t) : Int) ∣ thNum t := Int.gcd_dvd_left _ _
  have hgd : (Int.gcd (thNum t) (thDen t) : Int) ∣ thDen t := Int.gcd_dvd_right _ _
  rw [Rat.divInt_eq_divInt_iff (by omega) (by omega)]
  unfold lowP
  dsimp only
  generalize (Int.gcd (thNum t) (thDen t) : Int) = g at *
  obtain ⟨a, ha⟩ := hgn
  obtain ⟨b, hb⟩ := hgd
  rw [ha, hb, Int.mul_ediv_cancel_left _ (by omega), Int.mul_ediv_cancel_left _ (by omega)]
  rw [Int.mul_comm g b, Int.mul_comm g a, ← Int.mul_assoc, Int.mul_right_comm]
theorem damp_mono {t : Th} {lo hi k : Int} (h : thE t = 0) (hk : 0 ≤ k) : dampA t lo hi ≤ dampA t (lo + k) (hi + k) := by
  have hp := th_parts h
  have h1 : lo * thDen t ≤ (lo + k) * thDen t := Int.mul_le_mul_of_nonneg_right (by omega) (by omega)
  have h2 : hi * thDen t ≤ (hi + k) * thDen t := Int.mul_le_mul_of_nonneg_right (by omega) (by omega)
  unfold dampA
  split <;> split <;> (try split) <;> (try split) <;> omega

def thC (t : Th) : List DV := [.imm (.int .i64 t.len), .imm (.int .i64 t.sec), .imm (.int .i64 t.loss), .imm (.int .i64 t.head), .imm (.int .i64 t.mach)]
def frC (x : Int × Int) : List DV := [.imm (.int .i64 x.1), .imm (.int .i64 x.2)]

theorem ar0_SurgeAreas {t : Th} (h : thE t = 0) (h3 : t.mach ≤ 3) :
    run Try.prog b10k1 [] (d10.post (.bool true)) (mkS [(3, .ref 3 0), (7, .ref 7 0)] [(3, .box (thC t)), (7, .box (frC (lowP t)))]) := by
  have h2 := two_ok h h3
  have hm := (thE_zero.1 h).2
  have hl := low_bd h
  have hl2 := low_bd h2
  have st := s_ThomaOf (t := twoM t)
  rw [if_pos h2] at st
  rw [show thI (twoM t) = .agg [.int .i64 t.len, .int .i64 t.sec, .int .i64 t.loss, .int .i64 t.head, .int .i64 (2 * t.mach)] from rfl] at st
  simp only [b10k1, b10k0, res10, thC, frC, ruI, ssI, sbI, spI, swI, scI, stI, srI, saI, snI, ↓reduceIte, reduceCtorEq, Nat.reduceEqDiff, Nat.reduceAdd, Nat.reduceMul, Nat.reduceSub, Nat.reduceLeDiff, Nat.reduceBEq, Int.reduceToNat, Int.reduceLE, Int.reduceLT, Int.reduceEq, Int.reduceNe, di0, di1, di2, di3, di4, di5, di6, di7, di8, di9, postX_ret, postX_normal, ex_some]
  simp only [show IntKind.wrap .i64 (2 * t.mach) = 2 * t.mach from wrap64 (by omega) (by omega)]
  by_cases hs2 : thSmall (twoM t)
  case neg =>
    rw [if_neg hs2] at st
    simp only [frI] at st
    refine calls_of st ?_; simp only [ruI, ssI, sbI, spI, swI, scI, stI, srI, saI, snI, res10, b10k0, b10k1, b10k2, b10k3, b10k4, b10k5, b10k6, b10k7, b10k8, ↓reduceIte, reduceCtorEq, Nat.reduceEqDiff, Nat.reduceAdd, Nat.reduceMul, Nat.reduceSub, Nat.reduceLeDiff, Nat.reduceBEq, Int.reduceToNat, Int.reduceLE, Int.reduceLT, Int.reduceEq, Int.reduceNe, di0, di1, di2, di3, di4, di5, di6, di7, di8, di9, postX_ret, postX_normal, ex_some]
  rw [if_pos hs2] at st
  simp only [frI] at st
  refine calls_of st ?_; simp only [ruI, ssI, sbI, spI, swI, scI, stI, srI, saI, snI, res10, b10k0, b10k1, b10k2, b10k3, b10k4, b10k5, b10k6, b10k7, b10k8, ↓reduceIte, reduceCtorEq, Nat.reduceEqDiff, Nat.reduceAdd, Nat.reduceMul, Nat.reduceSub, Nat.reduceLeDiff, Nat.reduceBEq, Int.reduceToNat, Int.reduceLE, Int.reduceLT, Int.reduceEq, Int.reduceNe, di0, di1, di2, di3, di4, di5, di6, di7, di8, di9, postX_ret, postX_normal, ex_some]
  have hs3 : thSmall (twoM t) := hs2
  have r1 := low_rat h
  have r2 := low_rat h2
  have g2 := low_gcd h2
  have hnum := two_num (t := t)
  have hp := th_parts h
  have req : Rat.divInt (lowP (twoM t)).1 (lowP (twoM t)).2 = (2 : Int) * Rat.divInt (lowP t).1 (lowP t).2 := by
    rw [r1, r2, hnum.1, hnum.2, show (((2 : Int) : Int) : Rat) = Rat.divInt 2 1 from (Rat.num_divInt_den ((2 : Int) : Rat)).symm, Rat.divInt_mul_divInt, Int.one_mul]
  have cl := Wd.c_IsLowest (n := (lowP (twoM t)).1) (d := (lowP (twoM t)).2) (by omega) (by omega) (by omega) (by omega)
  rw [decide_eq_true (show 0 < (lowP (twoM t)).2 ∧ (Int.gcd (lowP (twoM t)).1 (lowP (twoM t)).2 : Int) = 1 from ⟨by omega, g2⟩)] at cl
  have cs := Wd.c_IsSmall (n := (lowP (twoM t)).1) (d := (lowP (twoM t)).2)
  rw [decide_eq_true (show (-1000000000 ≤ (lowP (twoM t)).1 ∧ (lowP (twoM t)).1 ≤ 1000000000) ∧ 1 ≤ (lowP (twoM t)).2 ∧ (lowP (twoM t)).2 ≤ 1000000000 from ⟨⟨by omega, hs3.1⟩, by omega, hs3.2⟩)] at cs
  have f1 := c_RatioFrom (x := lowP (twoM t)) (by omega) (by omega)
  have f2 := c_RatioFrom (x := lowP t) (by omega) (by omega)
  have ri := Wd.c_RatioInt (n := 2) (by decide) (by decide)
  have fw1 : Wd.Fw 2 (Rat.divInt (lowP t).1 (lowP t).2) := Wd.fw_divInt (by omega) (by omega) (by omega)
  have fw2 : Wd.Fw 2 (Rat.divInt (lowP (twoM t)).1 (lowP (twoM t)).2) := Wd.fw_divInt (by omega) (by omega) (by omega)
  have fw3 : Wd.Fw 1 ((2 : Int) : Rat) := Wd.fw_int (by decide) (by decide)
  have rm := Wd.c_RatioMul (p := ((2 : Int) : Rat)) (q := Rat.divInt (lowP t).1 (lowP t).2) fw3 fw1 (by decide)
  rw [← req] at rm
  have rc := Wd.c_RatioCmp (p := Rat.divInt (lowP (twoM t)).1 (lowP (twoM t)).2) (q := Rat.divInt (lowP (twoM t)).1 (lowP (twoM t)).2) fw2 fw2 (by decide)
  rw [show Wd.cmpR (Rat.divInt (lowP (twoM t)).1 (lowP (twoM t)).2) (Rat.divInt (lowP (twoM t)).1 (lowP (twoM t)).2) = 0 by unfold Wd.cmpR; rw [Int.sub_self]; rfl] at rc
  simp only [frI, Wd.ratio] at f1 f2 ri rm rc
  refine calls_of cl ?_; simp only [ruI, ssI, sbI, spI, swI, scI, stI, srI, saI, snI, res10, b10k0, b10k1, b10k2, b10k3, b10k4, b10k5, b10k6, b10k7, b10k8, ↓reduceIte, reduceCtorEq, Nat.reduceEqDiff, Nat.reduceAdd, Nat.reduceMul, Nat.reduceSub, Nat.reduceLeDiff, Nat.reduceBEq, Int.reduceToNat, Int.reduceLE, Int.reduceLT, Int.reduceEq, Int.reduceNe, di0, di1, di2, di3, di4, di5, di6, di7, di8, di9, postX_ret, postX_normal, ex_some]
  refine calls_of cs ?_; simp only [ruI, ssI, sbI, spI, swI, scI, stI, srI, saI, snI, res10, b10k0, b10k1, b10k2, b10k3, b10k4, b10k5, b10k6, b10k7, b10k8, ↓reduceIte, reduceCtorEq, Nat.reduceEqDiff, Nat.reduceAdd, Nat.reduceMul, Nat.reduceSub, Nat.reduceLeDiff, Nat.reduceBEq, Int.reduceToNat, Int.reduceLE, Int.reduceLT, Int.reduceEq, Int.reduceNe, di0, di1, di2, di3, di4, di5, di6, di7, di8, di9, postX_ret, postX_normal, ex_some]
  refine calls_of f1 ?_; simp only [ruI, ssI, sbI, spI, swI, scI, stI, srI, saI, snI, res10, b10k0, b10k1, b10k2, b10k3, b10k4, b10k5, b10k6, b10k7, b10k8, ↓reduceIte, reduceCtorEq, Nat.reduceEqDiff, Nat.reduceAdd, Nat.reduceMul, Nat.reduceSub, Nat.reduceLeDiff, Nat.reduceBEq, Int.reduceToNat, Int.reduceLE, Int.reduceLT, Int.reduceEq, Int.reduceNe, di0, di1, di2, di3, di4, di5, di6, di7, di8, di9, postX_ret, postX_normal, ex_some]
  refine calls_of ri ?_; simp only [ruI, ssI, sbI, spI, swI, scI, stI, srI, saI, snI, res10, b10k0, b10k1, b10k2, b10k3, b10k4, b10k5, b10k6, b10k7, b10k8, ↓reduceIte, reduceCtorEq, Nat.reduceEqDiff, Nat.reduceAdd, Nat.reduceMul, Nat.reduceSub, Nat.reduceLeDiff, Nat.reduceBEq, Int.reduceToNat, Int.reduceLE, Int.reduceLT, Int.reduceEq, Int.reduceNe, di0, di1, di2, di3, di4, di5, di6, di7, di8, di9, postX_ret, postX_normal, ex_some]
  refine calls_of f2 ?_; simp only [ruI, ssI, sbI, spI, swI, scI, stI, srI, saI, snI, res10, b10k0, b10k1, b10k2, b10k3, b10k4, b10k5, b10k6, b10k7, b10k8, ↓reduceIte, reduceCtorEq, Nat.reduceEqDiff, Nat.reduceAdd, Nat.reduceMul, Nat.reduceSub, Nat.reduceLeDiff, Nat.reduceBEq, Int.reduceToNat, Int.reduceLE, Int.reduceLT, Int.reduceEq, Int.reduceNe, di0, di1, di2, di3, di4, di5, di6, di7, di8, di9, postX_ret, postX_normal, ex_some]
  refine calls_of rm ?_; simp only [ruI, ssI, sbI, spI, swI, scI, stI, srI, saI, snI, res10, b10k0, b10k1, b10k2, b10k3, b10k4, b10k5, b10k6, b10k7, b10k8, ↓reduceIte, reduceCtorEq, Nat.reduceEqDiff, Nat.reduceAdd, Nat.reduceMul, Nat.reduceSub, Nat.reduceLeDiff, Nat.reduceBEq, Int.reduceToNat, Int.reduceLE, Int.reduceLT, Int.reduceEq, Int.reduceNe, di0, di1, di2, di3, di4, di5, di6, di7, di8, di9, postX_ret, postX_normal, ex_some]
  refine calls_of rc ?_; simp only [ruI, ssI, sbI, spI, swI, scI, stI, srI, saI, snI, res10, b10k0, b10k1, b10k2, b10k3, b10k4, b10k5, b10k6, b10k7, b10k8, ↓reduceIte, reduceCtorEq, Nat.reduceEqDiff, Nat.reduceAdd, Nat.reduceMul, Nat.reduceSub, Nat.reduceLeDiff, Nat.reduceBEq, Int.reduceToNat, Int.reduceLE, Int.reduceLT, Int.reduceEq, Int.reduceNe, di0, di1, di2, di3, di4, di5, di6, di7, di8, di9, postX_ret, postX_normal, ex_some]

theorem ar1_SurgeAreas {t : Th} {lo hi m : Int} (h : thE t = 0) (hA : areasE lo hi = 0) (hm : m ≤ 9223372036854775807) :
    run Try.prog b10k4 [] (d10.post (.bool true)) (mkS [(2, .imm (.int .i64 m)), (3, .ref 3 0), (4, .ref 4 0), (7, .ref 7 0), (9, .imm (.int .i64 (dampA t lo hi))), (13, .imm (.bool (decide (thSmall t))))]
      [(3, .box (thC t)), (4, .box (frC (lo, hi))), (7, .box (frC (if thSmall t then lowP t else (0, 0))))]) := by
  have hA2 := areasE_zero.1 hA
  have go := fun h3 => ar0_SurgeAreas (t := t) h h3
  simp only [thC, frC] at go
  simp only [b10k4, b10k3, b10k2, res10, thC, frC, ruI, ssI, sbI, spI, swI, scI, stI, srI, saI, snI, ↓reduceIte, reduceCtorEq, Nat.reduceEqDiff, Nat.reduceAdd, Nat.reduceMul, Nat.reduceSub, Nat.reduceLeDiff, Nat.reduceBEq, Int.reduceToNat, Int.reduceLE, Int.reduceLT, Int.reduceEq, Int.reduceNe, di0, di1, di2, di3, di4, di5, di6, di7, di8, di9, postX_ret, postX_normal, ex_some]
  by_cases h0 : m < 0
  · simp only [h0, ruI, ssI, sbI, spI, swI, scI, stI, srI, saI, snI, ↓reduceIte, reduceCtorEq, Nat.reduceEqDiff, Nat.reduceAdd, Nat.reduceMul, Nat.reduceSub, Nat.reduceLeDiff, Nat.reduceBEq, Int.reduceToNat, Int.reduceLE, Int.reduceLT, Int.reduceEq, Int.reduceNe, di0, di1, di2, di3, di4, di5, di6, di7, di8, di9, postX_ret, postX_normal, ex_some]
  simp only [h0, ruI, ssI, sbI, spI, swI, scI, stI, srI, saI, snI, ↓reduceIte, reduceCtorEq, Nat.reduceEqDiff, Nat.reduceAdd, Nat.reduceMul, Nat.reduceSub, Nat.reduceLeDiff, Nat.reduceBEq, Int.reduceToNat, Int.reduceLE, Int.reduceLT, Int.reduceEq, Int.reduceNe, di0, di1, di2, di3, di4, di5, di6, di7, di8, di9, postX_ret, postX_normal, ex_some]
  have c := c_Mod (n := m) (d := 1000) (by decide) ⟨by omega, hm⟩ (by decide)
  have hr1 := Int.emod_nonneg m (show (1000 : Int) ≠ 0 by decide)
  have hr2 := Int.emod_lt_of_pos m (show (0 : Int) < 1000 by decide)
  have hmono := damp_mono (lo := lo) (hi := hi) (k := m % 1000) h hr1
  refine calls_of c ?_; simp only [ruI, ssI, sbI, spI, swI, scI, stI, srI, saI, snI, res10, b10k2, b10k3, b10k4, b10k5, b10k6, b10k7, b10k8, ↓reduceIte, reduceCtorEq, Nat.reduceEqDiff, Nat.reduceAdd, Nat.reduceMul, Nat.reduceSub, Nat.reduceLeDiff, Nat.reduceBEq, Int.reduceToNat, Int.reduceLE, Int.reduceLT, Int.reduceEq, Int.reduceNe, di0, di1, di2, di3, di4, di5, di6, di7, di8, di9, postX_ret, postX_normal, ex_some]
  generalize m % 1000 = k at c hr1 hr2 hmono ⊢
  simp only [show IntKind.wrap .i64 (1000000000 - k) = 1000000000 - k from wrap64 (by omega) (by omega)]
  by_cases h1 : 1000000000 - k < hi
  · simp only [h1, ruI, ssI, sbI, spI, swI, scI, stI, srI, saI, snI, ↓reduceIte, reduceCtorEq, Nat.reduceEqDiff, Nat.reduceAdd, Nat.reduceMul, Nat.reduceSub, Nat.reduceLeDiff, Nat.reduceBEq, Int.reduceToNat, Int.reduceLE, Int.reduceLT, Int.reduceEq, Int.reduceNe, di0, di1, di2, di3, di4, di5, di6, di7, di8, di9, postX_ret, postX_normal, ex_some]
  simp only [h1, ruI, ssI, sbI, spI, swI, scI, stI, srI, saI, snI, ↓reduceIte, reduceCtorEq, Nat.reduceEqDiff, Nat.reduceAdd, Nat.reduceMul, Nat.reduceSub, Nat.reduceLeDiff, Nat.reduceBEq, Int.reduceToNat, Int.reduceLE, Int.reduceLT, Int.reduceEq, Int.reduceNe, di0, di1, di2, di3, di4, di5, di6, di7, di8, di9, postX_ret, postX_normal, ex_some]
  refine calls_of c ?_; simp only [ruI, ssI, sbI, spI, swI, scI, stI, srI, saI, snI, res10, b10k2, b10k3, b10k4, b10k5, b10k6, b10k7, b10k8, ↓reduceIte, reduceCtorEq, Nat.reduceEqDiff, Nat.reduceAdd, Nat.reduceMul, Nat.reduceSub, Nat.reduceLeDiff, Nat.reduceBEq, Int.reduceToNat, Int.reduceLE, Int.reduceLT, Int.reduceEq, Int.reduceNe, di0, di1, di2, di3, di4, di5, di6, di7, di8, di9, postX_ret, postX_normal, ex_some]
  simp only [show IntKind.wrap .i64 (lo + k) = lo + k from wrap64 (by omega) (by omega)]
  refine calls_of c ?_; simp only [ruI, ssI, sbI, spI, swI, scI, stI, srI, saI, snI, res10, b10k2, b10k3, b10k4, b10k5, b10k6, b10k7, b10k8, ↓reduceIte, reduceCtorEq, Nat.reduceEqDiff, Nat.reduceAdd, Nat.reduceMul, Nat.reduceSub, Nat.reduceLeDiff, Nat.reduceBEq, Int.reduceToNat, Int.reduceLE, Int.reduceLT, Int.reduceEq, Int.reduceNe, di0, di1, di2, di3, di4, di5, di6, di7, di8, di9, postX_ret, postX_normal, ex_some]
  simp only [show IntKind.wrap .i64 (hi + k) = hi + k from wrap64 (by omega) (by omega)]
  have sd := s_IsDamped (t := t) (lo := lo + k) (hi := hi + k)
  rw [if_pos (show fstE (thE t) (areasE (lo + k) (hi + k)) = 0 by rw [fstE_zero, areasE_zero]; exact ⟨h, by omega, by omega, by omega⟩)] at sd
  simp only [thI] at sd
  refine calls_of sd ?_; simp only [ruI, ssI, sbI, spI, swI, scI, stI, srI, saI, snI, res10, b10k2, b10k3, b10k4, b10k5, b10k6, b10k7, b10k8, ↓reduceIte, reduceCtorEq, Nat.reduceEqDiff, Nat.reduceAdd, Nat.reduceMul, Nat.reduceSub, Nat.reduceLeDiff, Nat.reduceBEq, Int.reduceToNat, Int.reduceLE, Int.reduceLT, Int.reduceEq, Int.reduceNe, di0, di1, di2, di3, di4, di5, di6, di7, di8, di9, postX_ret, postX_normal, ex_some]
  rw [if_neg (show ¬ dampA t (lo + k) (hi + k) < dampA t lo hi by omega)]
  by_cases hs : thSmall t
  · simp only [hs, ruI, ssI, sbI, spI, swI, scI, stI, srI, saI, snI, ↓reduceIte, reduceCtorEq, Nat.reduceEqDiff, Nat.reduceAdd, Nat.reduceMul, Nat.reduceSub, Nat.reduceLeDiff, Nat.reduceBEq, Int.reduceToNat, Int.reduceLE, Int.reduceLT, Int.reduceEq, Int.reduceNe, di0, di1, di2, di3, di4, di5, di6, di7, di8, di9, postX_ret, postX_normal, ex_some]
    by_cases h3 : 3 < t.mach
    · simp only [h3, ruI, ssI, sbI, spI, swI, scI, stI, srI, saI, snI, ↓reduceIte, reduceCtorEq, Nat.reduceEqDiff, Nat.reduceAdd, Nat.reduceMul, Nat.reduceSub, Nat.reduceLeDiff, Nat.reduceBEq, Int.reduceToNat, Int.reduceLE, Int.reduceLT, Int.reduceEq, Int.reduceNe, di0, di1, di2, di3, di4, di5, di6, di7, di8, di9, postX_ret, postX_normal, ex_some]
    · simp only [h3, ruI, ssI, sbI, spI, swI, scI, stI, srI, saI, snI, ↓reduceIte, reduceCtorEq, Nat.reduceEqDiff, Nat.reduceAdd, Nat.reduceMul, Nat.reduceSub, Nat.reduceLeDiff, Nat.reduceBEq, Int.reduceToNat, Int.reduceLE, Int.reduceLT, Int.reduceEq, Int.reduceNe, di0, di1, di2, di3, di4, di5, di6, di7, di8, di9, postX_ret, postX_normal, ex_some]
      exact go (by omega)
  · simp only [hs, ruI, ssI, sbI, spI, swI, scI, stI, srI, saI, snI, ↓reduceIte, reduceCtorEq, Nat.reduceEqDiff, Nat.reduceAdd, Nat.reduceMul, Nat.reduceSub, Nat.reduceLeDiff, Nat.reduceBEq, Int.reduceToNat, Int.reduceLE, Int.reduceLT, Int.reduceEq, Int.reduceNe, di0, di1, di2, di3, di4, di5, di6, di7, di8, di9, postX_ret, postX_normal, ex_some]
    all_goals (rw [if_neg (fun k => k.1)]; trivial)

theorem l_SurgeAreas {t : Th} {lo hi m : Int} (hm : m ≤ 9223372036854775807) : Contract Try.prog 10 [thI t, stI lo hi, .int .i64 m] (.bool true) := by
  have st := s_ThomaOf (t := t)
  have sd := s_IsDamped (t := t) (lo := lo) (hi := hi)
  have rt := r_ThomaErr (t := t)
  have ra := r_AreasErr (lo := lo) (hi := hi)
  have rT := fun h => r_Thoma (t := t) h
  have rD := fun h h2 => r_Damped (t := t) (lo := lo) (hi := hi) h h2
  have go := fun h h2 => ar1_SurgeAreas (t := t) (lo := lo) (hi := hi) (m := m) h h2 hm
  simp only [thI, frI, thC, frC] at st sd rt rT rD go
  refine contract_run Try.func10 k10 rfl ?_
  simp only [body10, b10, res10, b10k5, b10k6, b10k7, b10k8, thI, ruI, ssI, sbI, spI, swI, scI, stI, srI, saI, snI, ↓reduceIte, reduceCtorEq, Nat.reduceEqDiff, Nat.reduceAdd, Nat.reduceMul, Nat.reduceSub, Nat.reduceLeDiff, Nat.reduceBEq, Int.reduceToNat, Int.reduceLE, Int.reduceLT, Int.reduceEq, Int.reduceNe, di0, di1, di2, di3, di4, di5, di6, di7, di8, di9, postX_ret, postX_normal, ex_some]
  refine calls_of s_awake ?_; simp only [ruI, ssI, sbI, spI, swI, scI, stI, srI, saI, snI, res10, b10k5, b10k6, b10k7, b10k8, ↓reduceIte, reduceCtorEq, Nat.reduceEqDiff, Nat.reduceAdd, Nat.reduceMul, Nat.reduceSub, Nat.reduceLeDiff, Nat.reduceBEq, Int.reduceToNat, Int.reduceLE, Int.reduceLT, Int.reduceEq, Int.reduceNe, di0, di1, di2, di3, di4, di5, di6, di7, di8, di9, postX_ret, postX_normal, ex_some]
  by_cases h : thE t = 0
  case neg =>
    rw [if_neg h] at st
    rw [show fstE (thE t) (areasE lo hi) = thE t from if_neg h, if_neg h] at sd
    refine calls_of st ?_; simp only [ruI, ssI, sbI, spI, swI, scI, stI, srI, saI, snI, res10, b10k5, b10k6, b10k7, b10k8, ↓reduceIte, reduceCtorEq, Nat.reduceEqDiff, Nat.reduceAdd, Nat.reduceMul, Nat.reduceSub, Nat.reduceLeDiff, Nat.reduceBEq, Int.reduceToNat, Int.reduceLE, Int.reduceLT, Int.reduceEq, Int.reduceNe, di0, di1, di2, di3, di4, di5, di6, di7, di8, di9, postX_ret, postX_normal, ex_some]
    refine calls_of sd ?_; simp only [ruI, ssI, sbI, spI, swI, scI, stI, srI, saI, snI, res10, b10k5, b10k6, b10k7, b10k8, ↓reduceIte, reduceCtorEq, Nat.reduceEqDiff, Nat.reduceAdd, Nat.reduceMul, Nat.reduceSub, Nat.reduceLeDiff, Nat.reduceBEq, Int.reduceToNat, Int.reduceLE, Int.reduceLT, Int.reduceEq, Int.reduceNe, di0, di1, di2, di3, di4, di5, di6, di7, di8, di9, postX_ret, postX_normal, ex_some]
    refine calls_of rt ?_; simp only [ruI, ssI, sbI, spI, swI, scI, stI, srI, saI, snI, res10, b10k5, b10k6, b10k7, b10k8, ↓reduceIte, reduceCtorEq, Nat.reduceEqDiff, Nat.reduceAdd, Nat.reduceMul, Nat.reduceSub, Nat.reduceLeDiff, Nat.reduceBEq, Int.reduceToNat, Int.reduceLE, Int.reduceLT, Int.reduceEq, Int.reduceNe, di0, di1, di2, di3, di4, di5, di6, di7, di8, di9, postX_ret, postX_normal, ex_some]
    simp only [h, ruI, ssI, sbI, spI, swI, scI, stI, srI, saI, snI, ↓reduceIte, reduceCtorEq, Nat.reduceEqDiff, Nat.reduceAdd, Nat.reduceMul, Nat.reduceSub, Nat.reduceLeDiff, Nat.reduceBEq, Int.reduceToNat, Int.reduceLE, Int.reduceLT, Int.reduceEq, Int.reduceNe, di0, di1, di2, di3, di4, di5, di6, di7, di8, di9, postX_ret, postX_normal, ex_some]
  have rT := rT h
  rw [if_pos h] at st
  rw [show fstE (thE t) (areasE lo hi) = areasE lo hi from if_pos h] at sd
  rw [h] at rt
  by_cases hs : thSmall t
  · rw [if_pos hs] at st
    rw [decide_eq_true hs] at rT
    refine calls_of st ?_; simp only [ruI, ssI, sbI, spI, swI, scI, stI, srI, saI, snI, res10, b10k5, b10k6, b10k7, b10k8, ↓reduceIte, reduceCtorEq, Nat.reduceEqDiff, Nat.reduceAdd, Nat.reduceMul, Nat.reduceSub, Nat.reduceLeDiff, Nat.reduceBEq, Int.reduceToNat, Int.reduceLE, Int.reduceLT, Int.reduceEq, Int.reduceNe, di0, di1, di2, di3, di4, di5, di6, di7, di8, di9, postX_ret, postX_normal, ex_some]
    by_cases hA : areasE lo hi = 0
    · rw [if_pos hA] at sd
      have go := go h hA
      rw [if_pos hs, decide_eq_true hs] at go
      refine calls_of sd ?_; simp only [ruI, ssI, sbI, spI, swI, scI, stI, srI, saI, snI, res10, b10k5, b10k6, b10k7, b10k8, ↓reduceIte, reduceCtorEq, Nat.reduceEqDiff, Nat.reduceAdd, Nat.reduceMul, Nat.reduceSub, Nat.reduceLeDiff, Nat.reduceBEq, Int.reduceToNat, Int.reduceLE, Int.reduceLT, Int.reduceEq, Int.reduceNe, di0, di1, di2, di3, di4, di5, di6, di7, di8, di9, postX_ret, postX_normal, ex_some]
      refine calls_of rt ?_; simp only [ruI, ssI, sbI, spI, swI, scI, stI, srI, saI, snI, res10, b10k5, b10k6, b10k7, b10k8, ↓reduceIte, reduceCtorEq, Nat.reduceEqDiff, Nat.reduceAdd, Nat.reduceMul, Nat.reduceSub, Nat.reduceLeDiff, Nat.reduceBEq, Int.reduceToNat, Int.reduceLE, Int.reduceLT, Int.reduceEq, Int.reduceNe, di0, di1, di2, di3, di4, di5, di6, di7, di8, di9, postX_ret, postX_normal, ex_some]
      refine calls_of rT ?_; simp only [ruI, ssI, sbI, spI, swI, scI, stI, srI, saI, snI, res10, b10k5, b10k6, b10k7, b10k8, ↓reduceIte, reduceCtorEq, Nat.reduceEqDiff, Nat.reduceAdd, Nat.reduceMul, Nat.reduceSub, Nat.reduceLeDiff, Nat.reduceBEq, Int.reduceToNat, Int.reduceLE, Int.reduceLT, Int.reduceEq, Int.reduceNe, di0, di1, di2, di3, di4, di5, di6, di7, di8, di9, postX_ret, postX_normal, ex_some]
      refine calls_of ra ?_; simp only [ruI, ssI, sbI, spI, swI, scI, stI, srI, saI, snI, res10, b10k5, b10k6, b10k7, b10k8, ↓reduceIte, reduceCtorEq, Nat.reduceEqDiff, Nat.reduceAdd, Nat.reduceMul, Nat.reduceSub, Nat.reduceLeDiff, Nat.reduceBEq, Int.reduceToNat, Int.reduceLE, Int.reduceLT, Int.reduceEq, Int.reduceNe, di0, di1, di2, di3, di4, di5, di6, di7, di8, di9, postX_ret, postX_normal, ex_some]
      simp only [hA, ruI, ssI, sbI, spI, swI, scI, stI, srI, saI, snI, ↓reduceIte, reduceCtorEq, Nat.reduceEqDiff, Nat.reduceAdd, Nat.reduceMul, Nat.reduceSub, Nat.reduceLeDiff, Nat.reduceBEq, Int.reduceToNat, Int.reduceLE, Int.reduceLT, Int.reduceEq, Int.reduceNe, di0, di1, di2, di3, di4, di5, di6, di7, di8, di9, postX_ret, postX_normal, ex_some]
      refine calls_of (rD h hA) ?_; simp only [ruI, ssI, sbI, spI, swI, scI, stI, srI, saI, snI, res10, b10k5, b10k6, b10k7, b10k8, ↓reduceIte, reduceCtorEq, Nat.reduceEqDiff, Nat.reduceAdd, Nat.reduceMul, Nat.reduceSub, Nat.reduceLeDiff, Nat.reduceBEq, Int.reduceToNat, Int.reduceLE, Int.reduceLT, Int.reduceEq, Int.reduceNe, di0, di1, di2, di3, di4, di5, di6, di7, di8, di9, postX_ret, postX_normal, ex_some]
      exact go
    · rw [if_neg hA] at sd
      refine calls_of sd ?_; simp only [ruI, ssI, sbI, spI, swI, scI, stI, srI, saI, snI, res10, b10k5, b10k6, b10k7, b10k8, ↓reduceIte, reduceCtorEq, Nat.reduceEqDiff, Nat.reduceAdd, Nat.reduceMul, Nat.reduceSub, Nat.reduceLeDiff, Nat.reduceBEq, Int.reduceToNat, Int.reduceLE, Int.reduceLT, Int.reduceEq, Int.reduceNe, di0, di1, di2, di3, di4, di5, di6, di7, di8, di9, postX_ret, postX_normal, ex_some]
      refine calls_of rt ?_; simp only [ruI, ssI, sbI, spI, swI, scI, stI, srI, saI, snI, res10, b10k5, b10k6, b10k7, b10k8, ↓reduceIte, reduceCtorEq, Nat.reduceEqDiff, Nat.reduceAdd, Nat.reduceMul, Nat.reduceSub, Nat.reduceLeDiff, Nat.reduceBEq, Int.reduceToNat, Int.reduceLE, Int.reduceLT, Int.reduceEq, Int.reduceNe, di0, di1, di2, di3, di4, di5, di6, di7, di8, di9, postX_ret, postX_normal, ex_some]
      refine calls_of rT ?_; simp only [ruI, ssI, sbI, spI, swI, scI, stI, srI, saI, snI, res10, b10k5, b10k6, b10k7, b10k8, ↓reduceIte, reduceCtorEq, Nat.reduceEqDiff, Nat.reduceAdd, Nat.reduceMul, Nat.reduceSub, Nat.reduceLeDiff, Nat.reduceBEq, Int.reduceToNat, Int.reduceLE, Int.reduceLT, Int.reduceEq, Int.reduceNe, di0, di1, di2, di3, di4, di5, di6, di7, di8, di9, postX_ret, postX_normal, ex_some]
      refine calls_of ra ?_; simp only [ruI, ssI, sbI, spI, swI, scI, stI, srI, saI, snI, res10, b10k5, b10k6, b10k7, b10k8, ↓reduceIte, reduceCtorEq, Nat.reduceEqDiff, Nat.reduceAdd, Nat.reduceMul, Nat.reduceSub, Nat.reduceLeDiff, Nat.reduceBEq, Int.reduceToNat, Int.reduceLE, Int.reduceLT, Int.reduceEq, Int.reduceNe, di0, di1, di2, di3, di4, di5, di6, di7, di8, di9, postX_ret, postX_normal, ex_some]
      simp only [hA, ruI, ssI, sbI, spI, swI, scI, stI, srI, saI, snI, ↓reduceIte, reduceCtorEq, Nat.reduceEqDiff, Nat.reduceAdd, Nat.reduceMul, Nat.reduceSub, Nat.reduceLeDiff, Nat.reduceBEq, Int.reduceToNat, Int.reduceLE, Int.reduceLT, Int.reduceEq, Int.reduceNe, di0, di1, di2, di3, di4, di5, di6, di7, di8, di9, postX_ret, postX_normal, ex_some]
  · rw [if_neg hs] at st
    rw [decide_eq_false hs] at rT
    refine calls_of st ?_; simp only [ruI, ssI, sbI, spI, swI, scI, stI, srI, saI, snI, res10, b10k5, b10k6, b10k7, b10k8, ↓reduceIte, reduceCtorEq, Nat.reduceEqDiff, Nat.reduceAdd, Nat.reduceMul, Nat.reduceSub, Nat.reduceLeDiff, Nat.reduceBEq, Int.reduceToNat, Int.reduceLE, Int.reduceLT, Int.reduceEq, Int.reduceNe, di0, di1, di2, di3, di4, di5, di6, di7, di8, di9, postX_ret, postX_normal, ex_some]
    by_cases hA : areasE lo hi = 0
    · rw [if_pos hA] at sd
      have go := go h hA
      rw [if_neg hs, decide_eq_false hs] at go
      refine calls_of sd ?_; simp only [ruI, ssI, sbI, spI, swI, scI, stI, srI, saI, snI, res10, b10k5, b10k6, b10k7, b10k8, ↓reduceIte, reduceCtorEq, Nat.reduceEqDiff, Nat.reduceAdd, Nat.reduceMul, Nat.reduceSub, Nat.reduceLeDiff, Nat.reduceBEq, Int.reduceToNat, Int.reduceLE, Int.reduceLT, Int.reduceEq, Int.reduceNe, di0, di1, di2, di3, di4, di5, di6, di7, di8, di9, postX_ret, postX_normal, ex_some]
      refine calls_of rt ?_; simp only [ruI, ssI, sbI, spI, swI, scI, stI, srI, saI, snI, res10, b10k5, b10k6, b10k7, b10k8, ↓reduceIte, reduceCtorEq, Nat.reduceEqDiff, Nat.reduceAdd, Nat.reduceMul, Nat.reduceSub, Nat.reduceLeDiff, Nat.reduceBEq, Int.reduceToNat, Int.reduceLE, Int.reduceLT, Int.reduceEq, Int.reduceNe, di0, di1, di2, di3, di4, di5, di6, di7, di8, di9, postX_ret, postX_normal, ex_some]
      refine calls_of rT ?_; simp only [ruI, ssI, sbI, spI, swI, scI, stI, srI, saI, snI, res10, b10k5, b10k6, b10k7, b10k8, ↓reduceIte, reduceCtorEq, Nat.reduceEqDiff, Nat.reduceAdd, Nat.reduceMul, Nat.reduceSub, Nat.reduceLeDiff, Nat.reduceBEq, Int.reduceToNat, Int.reduceLE, Int.reduceLT, Int.reduceEq, Int.reduceNe, di0, di1, di2, di3, di4, di5, di6, di7, di8, di9, postX_ret, postX_normal, ex_some]
      refine calls_of ra ?_; simp only [ruI, ssI, sbI, spI, swI, scI, stI, srI, saI, snI, res10, b10k5, b10k6, b10k7, b10k8, ↓reduceIte, reduceCtorEq, Nat.reduceEqDiff, Nat.reduceAdd, Nat.reduceMul, Nat.reduceSub, Nat.reduceLeDiff, Nat.reduceBEq, Int.reduceToNat, Int.reduceLE, Int.reduceLT, Int.reduceEq, Int.reduceNe, di0, di1, di2, di3, di4, di5, di6, di7, di8, di9, postX_ret, postX_normal, ex_some]
      simp only [hA, ruI, ssI, sbI, spI, swI, scI, stI, srI, saI, snI, ↓reduceIte, reduceCtorEq, Nat.reduceEqDiff, Nat.reduceAdd, Nat.reduceMul, Nat.reduceSub, Nat.reduceLeDiff, Nat.reduceBEq, Int.reduceToNat, Int.reduceLE, Int.reduceLT, Int.reduceEq, Int.reduceNe, di0, di1, di2, di3, di4, di5, di6, di7, di8, di9, postX_ret, postX_normal, ex_some]
      refine calls_of (rD h hA) ?_; simp only [ruI, ssI, sbI, spI, swI, scI, stI, srI, saI, snI, res10, b10k5, b10k6, b10k7, b10k8, ↓reduceIte, reduceCtorEq, Nat.reduceEqDiff, Nat.reduceAdd, Nat.reduceMul, Nat.reduceSub, Nat.reduceLeDiff, Nat.reduceBEq, Int.reduceToNat, Int.reduceLE, Int.reduceLT, Int.reduceEq, Int.reduceNe, di0, di1, di2, di3, di4, di5, di6, di7, di8, di9, postX_ret, postX_normal, ex_some]
      exact go
    · rw [if_neg hA] at sd
      refine calls_of sd ?_; simp only [ruI, ssI, sbI, spI, swI, scI, stI, srI, saI, snI, res10, b10k5, b10k6, b10k7, b10k8, ↓reduceIte, reduceCtorEq, Nat.reduceEqDiff, Nat.reduceAdd, Nat.reduceMul, Nat.reduceSub, Nat.reduceLeDiff, Nat.reduceBEq, Int.reduceToNat, Int.reduceLE, Int.reduceLT, Int.reduceEq, Int.reduceNe, di0, di1, di2, di3, di4, di5, di6, di7, di8, di9, postX_ret, postX_normal, ex_some]
      refine calls_of rt ?_; simp only [ruI, ssI, sbI, spI, swI, scI, stI, srI, saI, snI, res10, b10k5, b10k6, b10k7, b10k8, ↓reduceIte, reduceCtorEq, Nat.reduceEqDiff, Nat.reduceAdd, Nat.reduceMul, Nat.reduceSub, Nat.reduceLeDiff, Nat.reduceBEq, Int.reduceToNat, Int.reduceLE, Int.reduceLT, Int.reduceEq, Int.reduceNe, di0, di1, di2, di3, di4, di5, di6, di7, di8, di9, postX_ret, postX_normal, ex_some]
      refine calls_of rT ?_; simp only [ruI, ssI, sbI, spI, swI, scI, stI, srI, saI, snI, res10, b10k5, b10k6, b10k7, b10k8, ↓reduceIte, reduceCtorEq, Nat.reduceEqDiff, Nat.reduceAdd, Nat.reduceMul, Nat.reduceSub, Nat.reduceLeDiff, Nat.reduceBEq, Int.reduceToNat, Int.reduceLE, Int.reduceLT, Int.reduceEq, Int.reduceNe, di0, di1, di2, di3, di4, di5, di6, di7, di8, di9, postX_ret, postX_normal, ex_some]
      refine calls_of ra ?_; simp only [ruI, ssI, sbI, spI, swI, scI, stI, srI, saI, snI, res10, b10k5, b10k6, b10k7, b10k8, ↓reduceIte, reduceCtorEq, Nat.reduceEqDiff, Nat.reduceAdd, Nat.reduceMul, Nat.reduceSub, Nat.reduceLeDiff, Nat.reduceBEq, Int.reduceToNat, Int.reduceLE, Int.reduceLT, Int.reduceEq, Int.reduceNe, di0, di1, di2, di3, di4, di5, di6, di7, di8, di9, postX_ret, postX_normal, ex_some]
      simp only [hA, ruI, ssI, sbI, spI, swI, scI, stI, srI, saI, snI, ↓reduceIte, reduceCtorEq, Nat.reduceEqDiff, Nat.reduceAdd, Nat.reduceMul, Nat.reduceSub, Nat.reduceLeDiff, Nat.reduceBEq, Int.reduceToNat, Int.reduceLE, Int.reduceLT, Int.reduceEq, Int.reduceNe, di0, di1, di2, di3, di4, di5, di6, di7, di8, di9, postX_ret, postX_normal, ex_some]
end Go.DI

