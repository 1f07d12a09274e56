/- The statement WaveEveryLaw, as a contract. No condition. -/
import Derived.Test.YtadmimjaelodkaaWei
import Derived.Test.YtadmimjaelodkaaWej
set_option linter.unusedSimpArgs false
set_option maxRecDepth 100000
namespace Go.DI
open Go.Proofs Go.RowKit

theorem r_LawErr0 {law : List Int} : Contract Try.prog 38 [nI law] (.int .i64 (chkW law).2) := by
  by_cases h : law.length ≤ 1000000
  · exact r_LawErr h
  have hc : Contract Try.prog 67 [nI law] (e2I (chkW law)) := by
    refine contract_run Try.func67 k67 rfl ?_
    simp only [body67, b67, res67, b67k0, b67k1, b67k2, b67k3, b67k4, vaE, ↓reduceIte, reduceCtorEq, Nat.reduceEqDiff, Nat.reduceAdd, Nat.reduceMul, Nat.reduceSub, Nat.reduceLeDiff, Nat.reduceBEq, Int.reduceToNat, Int.reduceLE, Int.reduceLT, Int.reduceEq, Int.reduceNe, di]
    unfold chkW
    rw [if_pos (by omega), if_pos (by omega)]
  refine contract_run Try.func38 k38 rfl ?_
  simp only [body38, b38, res38, vaE, ↓reduceIte, reduceCtorEq, Nat.reduceEqDiff, Nat.reduceAdd, Nat.reduceMul, Nat.reduceSub, Nat.reduceLeDiff, Nat.reduceBEq, Int.reduceToNat, Int.reduceLE, Int.reduceLT, Int.reduceEq, Int.reduceNe, di]
  refine calls_of hc ?_; simp only [vaE, res38, ↓reduceIte, reduceCtorEq, Nat.reduceEqDiff, Nat.reduceAdd, Nat.reduceMul, Nat.reduceSub, Nat.reduceLeDiff, Nat.reduceBEq, Int.reduceToNat, Int.reduceLE, Int.reduceLT, Int.reduceEq, Int.reduceNe, di]
theorem asc_mono : ∀ {l : List Int} {a : Int} {i j : Nat}, Asc a l → i ≤ j → j < l.length → l.getD i 0 ≤ l.getD j 0
  | n :: r, a, 0, 0, h, _, _ => Int.le_refl _
  | n :: r, a, 0, j + 1, h, _, hj => by
    have := asc_le (j := j) h.2 (by simpa using hj)
    rw [List.getD_cons_succ]
    exact this
  | n :: r, a, i + 1, j + 1, h, hij, hj => by
    rw [List.getD_cons_succ, List.getD_cons_succ]
    exact asc_mono h.2 (by omega) (by simpa using hj)
  | n :: r, a, i + 1, 0, h, hij, hj => by omega
theorem asc_bd : ∀ {l : List Int} {a : Int} {j : Nat}, Asc a l → j < l.length → 0 ≤ l.getD j 0 ∧ l.getD j 0 ≤ 1000
  | n :: r, a, 0, h, _ => h.1.1
  | n :: r, a, j + 1, h, hj => by
    rw [List.getD_cons_succ]
    exact asc_bd h.2 (by simpa using hj)
theorem atL_rng {law : List Int} (h : Asc 0 law) (t : Nat) : 0 ≤ atL law t ∧ atL law t ≤ 1000 := by
  unfold atL
  by_cases h0 : law.length = 0
  · have : law = [] := List.length_eq_zero_iff.1 h0
    subst this; simp
  · exact asc_bd h (by omega)
theorem atL_mono {law : List Int} (h : Asc 0 law) (s t : Nat) (hst : s ≤ t) : atL law s ≤ atL law t := by
  unfold atL
  by_cases h0 : law.length = 0
  · have : law = [] := List.length_eq_zero_iff.1 h0
    subst this; simp
  · exact asc_mono h (by omega) (by omega)

theorem l_WaveEveryLaw {x : Ln} {law : List Int} {n : Int} : Contract Try.prog 5 [lnI x, nI law, .int .i64 n] (.bool true) := by
  refine contract_run Try.func5 k5 rfl ?_
  simp only [body5, b5, res5, b5k0, b5k1, b5k2, b5k3, b5k4, b5k5, b5k6, vaE, ↓reduceIte, reduceCtorEq, Nat.reduceEqDiff, Nat.reduceAdd, Nat.reduceMul, Nat.reduceSub, Nat.reduceLeDiff, Nat.reduceBEq, Int.reduceToNat, Int.reduceLE, Int.reduceLT, Int.reduceEq, Int.reduceNe, di]
  refine calls_of l_awake ?_; simp only [vaE, res5, b5k0, b5k1, b5k2, b5k3, b5k4, b5k5, b5k6, ↓reduceIte, reduceCtorEq, Nat.reduceEqDiff, Nat.reduceAdd, Nat.reduceMul, Nat.reduceSub, Nat.reduceLeDiff, Nat.reduceBEq, Int.reduceToNat, Int.reduceLE, Int.reduceLT, Int.reduceEq, Int.reduceNe, di]
  refine calls_of l_few ?_; simp only [vaE, res5, b5k0, b5k1, b5k2, b5k3, b5k4, b5k5, b5k6, ↓reduceIte, reduceCtorEq, Nat.reduceEqDiff, Nat.reduceAdd, Nat.reduceMul, Nat.reduceSub, Nat.reduceLeDiff, Nat.reduceBEq, Int.reduceToNat, Int.reduceLE, Int.reduceLT, Int.reduceEq, Int.reduceNe, di]
  by_cases hf : x.pp.length ≤ 6 ∧ x.ar.length ≤ 6
  rotate_left
  · simp only [hf, false_and, vaE, ↓reduceIte, reduceCtorEq, Nat.reduceEqDiff, Nat.reduceAdd, Nat.reduceMul, Nat.reduceSub, Nat.reduceLeDiff, Nat.reduceBEq, Int.reduceToNat, Int.reduceLE, Int.reduceLT, Int.reduceEq, Int.reduceNe, di]
  simp only [hf, vaE, ↓reduceIte, reduceCtorEq, Nat.reduceEqDiff, Nat.reduceAdd, Nat.reduceMul, Nat.reduceSub, Nat.reduceLeDiff, Nat.reduceBEq, Int.reduceToNat, Int.reduceLE, Int.reduceLT, Int.reduceEq, Int.reduceNe, di]
  have hx : Few x := ⟨by omega, by omega⟩
  refine calls_of (r_LineErr hx) ?_; simp only [vaE, res5, b5k0, b5k1, b5k2, b5k3, b5k4, b5k5, b5k6, ↓reduceIte, reduceCtorEq, Nat.reduceEqDiff, Nat.reduceAdd, Nat.reduceMul, Nat.reduceSub, Nat.reduceLeDiff, Nat.reduceBEq, Int.reduceToNat, Int.reduceLE, Int.reduceLT, Int.reduceEq, Int.reduceNe, di]
  by_cases h0 : (chkL x).2 = 0
  rotate_left
  · simp only [h0, false_and, vaE, ↓reduceIte, reduceCtorEq, Nat.reduceEqDiff, Nat.reduceAdd, Nat.reduceMul, Nat.reduceSub, Nat.reduceLeDiff, Nat.reduceBEq, Int.reduceToNat, Int.reduceLE, Int.reduceLT, Int.reduceEq, Int.reduceNe, di]
  simp only [h0, vaE, ↓reduceIte, reduceCtorEq, Nat.reduceEqDiff, Nat.reduceAdd, Nat.reduceMul, Nat.reduceSub, Nat.reduceLeDiff, Nat.reduceBEq, Int.reduceToNat, Int.reduceLE, Int.reduceLT, Int.reduceEq, Int.reduceNe, di]
  have hxo := chkL_ok.1 h0
  refine calls_of (r_IsPlain hxo) ?_; simp only [vaE, res5, b5k0, b5k1, b5k2, b5k3, b5k4, b5k5, b5k6, ↓reduceIte, reduceCtorEq, Nat.reduceEqDiff, Nat.reduceAdd, Nat.reduceMul, Nat.reduceSub, Nat.reduceLeDiff, Nat.reduceBEq, Int.reduceToNat, Int.reduceLE, Int.reduceLT, Int.reduceEq, Int.reduceNe, di]
  cases hp : plainL x
  · simp only [hp, vaE, ↓reduceIte, reduceCtorEq, Nat.reduceEqDiff, Nat.reduceAdd, Nat.reduceMul, Nat.reduceSub, Nat.reduceLeDiff, Nat.reduceBEq, Int.reduceToNat, Int.reduceLE, Int.reduceLT, Int.reduceEq, Int.reduceNe, di]
  simp only [hp, vaE, ↓reduceIte, reduceCtorEq, Nat.reduceEqDiff, Nat.reduceAdd, Nat.reduceMul, Nat.reduceSub, Nat.reduceLeDiff, Nat.reduceBEq, Int.reduceToNat, Int.reduceLE, Int.reduceLT, Int.reduceEq, Int.reduceNe, di]
  refine calls_of r_LawErr0 ?_; simp only [vaE, res5, b5k0, b5k1, b5k2, b5k3, b5k4, b5k5, b5k6, ↓reduceIte, reduceCtorEq, Nat.reduceEqDiff, Nat.reduceAdd, Nat.reduceMul, Nat.reduceSub, Nat.reduceLeDiff, Nat.reduceBEq, Int.reduceToNat, Int.reduceLE, Int.reduceLT, Int.reduceEq, Int.reduceNe, di]
  by_cases hw : (chkW law).2 = 0
  rotate_left
  · simp only [hw, vaE, ↓reduceIte, reduceCtorEq, Nat.reduceEqDiff, Nat.reduceAdd, Nat.reduceMul, Nat.reduceSub, Nat.reduceLeDiff, Nat.reduceBEq, Int.reduceToNat, Int.reduceLE, Int.reduceLT, Int.reduceEq, Int.reduceNe, di]
  simp only [hw, vaE, ↓reduceIte, reduceCtorEq, Nat.reduceEqDiff, Nat.reduceAdd, Nat.reduceMul, Nat.reduceSub, Nat.reduceLeDiff, Nat.reduceBEq, Int.reduceToNat, Int.reduceLE, Int.reduceLT, Int.reduceEq, Int.reduceNe, di]
  refine calls_of c_Within ?_; simp only [vaE, res5, b5k0, b5k1, b5k2, b5k3, b5k4, b5k5, b5k6, ↓reduceIte, reduceCtorEq, Nat.reduceEqDiff, Nat.reduceAdd, Nat.reduceMul, Nat.reduceSub, Nat.reduceLeDiff, Nat.reduceBEq, Int.reduceToNat, Int.reduceLE, Int.reduceLT, Int.reduceEq, Int.reduceNe, di]
  by_cases hn : 1 ≤ n ∧ n ≤ 60
  rotate_left
  · simp only [hn, vaE, ↓reduceIte, reduceCtorEq, Nat.reduceEqDiff, Nat.reduceAdd, Nat.reduceMul, Nat.reduceSub, Nat.reduceLeDiff, Nat.reduceBEq, Int.reduceToNat, Int.reduceLE, Int.reduceLT, Int.reduceEq, Int.reduceNe, di]
  simp only [hn, vaE, ↓reduceIte, reduceCtorEq, Nat.reduceEqDiff, Nat.reduceAdd, Nat.reduceMul, Nat.reduceSub, Nat.reduceLeDiff, Nat.reduceBEq, Int.reduceToNat, Int.reduceLE, Int.reduceLT, Int.reduceEq, Int.reduceNe, di]
  have hasc := chkW_asc.1 hw
  have hr : lawRunE x law n = 0 := lawRunE_zero.2 ⟨hxo, hw, by omega⟩
  have hv := w_ValvePressures (law := law) (t := n) hx (by omega)
  rw [if_pos hr] at hv
  refine calls_of (r_CopyLine hx) ?_; simp only [vaE, res5, b5k0, b5k1, b5k2, b5k3, b5k4, b5k5, b5k6, ↓reduceIte, reduceCtorEq, Nat.reduceEqDiff, Nat.reduceAdd, Nat.reduceMul, Nat.reduceSub, Nat.reduceLeDiff, Nat.reduceBEq, Int.reduceToNat, Int.reduceLE, Int.reduceLT, Int.reduceEq, Int.reduceNe, di]
  refine calls_of (c_CopyInts (a := law) (by omega)) ?_; simp only [vaE, res5, b5k0, b5k1, b5k2, b5k3, b5k4, b5k5, b5k6, ↓reduceIte, reduceCtorEq, Nat.reduceEqDiff, Nat.reduceAdd, Nat.reduceMul, Nat.reduceSub, Nat.reduceLeDiff, Nat.reduceBEq, Int.reduceToNat, Int.reduceLE, Int.reduceLT, Int.reduceEq, Int.reduceNe, di]
  refine calls_of hv ?_; simp only [vaE, res5, b5k0, b5k1, b5k2, b5k3, b5k4, b5k5, b5k6, ↓reduceIte, reduceCtorEq, Nat.reduceEqDiff, Nat.reduceAdd, Nat.reduceMul, Nat.reduceSub, Nat.reduceLeDiff, Nat.reduceBEq, Int.reduceToNat, Int.reduceLE, Int.reduceLT, Int.reduceEq, Int.reduceNe, di]
  have hvl := valveL_length (x := opn x) (law := law) (k := n.toNat)
  rw [if_pos (by omega)]
  have hN := (opn_ok hxo).nb
  refine calls_of (r_Cells hxo) ?_; simp only [vaE, res5, b5k0, b5k1, b5k2, b5k3, b5k4, b5k5, b5k6, ↓reduceIte, reduceCtorEq, Nat.reduceEqDiff, Nat.reduceAdd, Nat.reduceMul, Nat.reduceSub, Nat.reduceLeDiff, Nat.reduceBEq, Int.reduceToNat, Int.reduceLE, Int.reduceLT, Int.reduceEq, Int.reduceNe, di]
  rw [wrap64 (n := 2 * (opn x).n) (by omega) (by omega)]
  have hb0 := fun t => (atL_rng hasc.2 t).1
  have hb1 := fun t => (atL_rng hasc.2 t).2
  have hmo := atL_mono hasc.2
  have hval := plain_valve (law := law) hxo hp (by decide) hb0 hb1 hmo
  have heb := fun t => eV_bd (f := atL law) (n := (opn x).n.toNat) (by omega) hb0 hmo t t (Nat.le_refl _)
  refine loop_keep (α := Nat) rfl (fun t => n.toNat - t) (fun t => (t : Int) ≤ n)
    (fun t => [(1, .imm (nI law)), (2, .imm (.int .i64 n)), (7, .imm (nI (valveL (opn x) law n.toNat))), (9, .imm (.int .i64 (2 * (opn x).n))), (10, .imm (.int .i64 t))]) (fun _ => [])
    0 (by omega) (by simp only [vaE, ↓reduceIte, reduceCtorEq, Nat.reduceEqDiff, Nat.reduceAdd, Nat.reduceMul, Nat.reduceSub, Nat.reduceLeDiff, Nat.reduceBEq, Int.reduceToNat, Int.reduceLE, Int.reduceLT, Int.reduceEq, Int.reduceNe, di] <;> rfl) ?_
  intro t ht ih
  simp only [res5, b5k0, b5k1, b5k2, b5k3, b5k4, b5k5, b5k6, vaE, ↓reduceIte, reduceCtorEq, Nat.reduceEqDiff, Nat.reduceAdd, Nat.reduceMul, Nat.reduceSub, Nat.reduceLeDiff, Nat.reduceBEq, Int.reduceToNat, Int.reduceLE, Int.reduceLT, Int.reduceEq, Int.reduceNe, di]
  split
  rotate_left
  · first | trivial | rfl
  rename_i htn
  have hgt := valveL_get (x := opn x) (law := law) (k := n.toNat) (m := t) (by omega)
  have hgt : (valveL (opn x) law n.toNat).getD t 0 = valve (opn x) law t := hgt
  have hvt := hval t
  have f0 := hb0 t
  have f1 := hb1 t
  refine calls_of (r_ClosingAt (law := law) (t := t) (by omega) (by omega)) ?_; simp only [vaE, res5, b5k0, b5k1, b5k2, b5k3, b5k4, b5k5, b5k6, ↓reduceIte, reduceCtorEq, Nat.reduceEqDiff, Nat.reduceAdd, Nat.reduceMul, Nat.reduceSub, Nat.reduceLeDiff, Nat.reduceBEq, Int.reduceToNat, Int.reduceLE, Int.reduceLT, Int.reduceEq, Int.reduceNe, di]
  repeat (refine And.intro (by first | omega | exact all_int _ | (simp only [zeros_len, List.length_append, List.length_take, List.length_drop, List.length_set, List.length_cons, List.length_nil, List.length_map]; omega)) ?_)
  rw [hgt]
  rw [wrap64 (n := 0 - atL law t) (by omega) (by omega)]
  refine calls_of c_Within ?_; simp only [vaE, res5, b5k0, b5k1, b5k2, b5k3, b5k4, b5k5, b5k6, ↓reduceIte, reduceCtorEq, Nat.reduceEqDiff, Nat.reduceAdd, Nat.reduceMul, Nat.reduceSub, Nat.reduceLeDiff, Nat.reduceBEq, Int.reduceToNat, Int.reduceLE, Int.reduceLT, Int.reduceEq, Int.reduceNe, di]
  have hin : 0 - atL law t ≤ valve (opn x) law t ∧ valve (opn x) law t ≤ atL law t := by
    rw [hvt]
    split
    · have := heb (t - 2 * (opn x).n.toNat)
      have := hmo (t - 2 * (opn x).n.toNat) t (by omega)
      omega
    · omega
  simp only [hin, vaE, ↓reduceIte, reduceCtorEq, Nat.reduceEqDiff, Nat.reduceAdd, Nat.reduceMul, Nat.reduceSub, Nat.reduceLeDiff, Nat.reduceBEq, Int.reduceToNat, Int.reduceLE, Int.reduceLT, Int.reduceEq, Int.reduceNe, di]
  by_cases hr2 : (t : Int) < 2 * (opn x).n
  · rw [if_neg (by omega)] at hvt
    simp only [hr2, vaE, ↓reduceIte, reduceCtorEq, Nat.reduceEqDiff, Nat.reduceAdd, Nat.reduceMul, Nat.reduceSub, Nat.reduceLeDiff, Nat.reduceBEq, Int.reduceToNat, Int.reduceLE, Int.reduceLT, Int.reduceEq, Int.reduceNe, di]
    repeat (refine And.intro (by first | omega | exact all_int _ | (simp only [zeros_len, List.length_append, List.length_take, List.length_drop, List.length_set, List.length_cons, List.length_nil, List.length_map]; omega)) ?_)
    rw [hgt, if_pos hvt, if_neg (by omega), wrap64 (n := (t : Int) + 1) (by omega) (by omega)]
    exact ih (t + 1) _ _ (by omega) (by omega) (by simp only [vaE, ↓reduceIte, reduceCtorEq, Nat.reduceEqDiff, Nat.reduceAdd, Nat.reduceMul, Nat.reduceSub, Nat.reduceLeDiff, Nat.reduceBEq, Int.reduceToNat, Int.reduceLE, Int.reduceLT, Int.reduceEq, Int.reduceNe, di] <;> rfl)
  · rw [if_pos (by omega)] at hvt
    simp only [hr2, vaE, ↓reduceIte, reduceCtorEq, Nat.reduceEqDiff, Nat.reduceAdd, Nat.reduceMul, Nat.reduceSub, Nat.reduceLeDiff, Nat.reduceBEq, Int.reduceToNat, Int.reduceLE, Int.reduceLT, Int.reduceEq, Int.reduceNe, di]
    rw [if_pos (by omega)]
    rw [wrap64 (n := (t : Int) - 2 * (opn x).n) (by omega) (by omega), show ((t : Int) - 2 * (opn x).n).toNat = t - 2 * (opn x).n.toNat by omega]
    have hgs := valveL_get (x := opn x) (law := law) (k := n.toNat) (m := t - 2 * (opn x).n.toNat) (by omega)
    have hgs : (valveL (opn x) law n.toNat).getD (t - 2 * (opn x).n.toNat) 0 = valve (opn x) law (t - 2 * (opn x).n.toNat) := hgs
    have hvs := hval (t - 2 * (opn x).n.toNat)
    repeat (refine And.intro (by first | omega | exact all_int _ | (simp only [zeros_len, List.length_append, List.length_take, List.length_drop, List.length_set, List.length_cons, List.length_nil, List.length_map]; omega)) ?_)
    rw [hgt, hgs, show (t : Int) - 2 * (opn x).n = ((t - 2 * (opn x).n.toNat : Nat) : Int) by omega]
    refine calls_of (r_ClosingAt (law := law) (t := t - 2 * (opn x).n.toNat) (by omega) (by omega)) ?_; simp only [vaE, res5, b5k0, b5k1, b5k2, b5k3, b5k4, b5k5, b5k6, ↓reduceIte, reduceCtorEq, Nat.reduceEqDiff, Nat.reduceAdd, Nat.reduceMul, Nat.reduceSub, Nat.reduceLeDiff, Nat.reduceBEq, Int.reduceToNat, Int.reduceLE, Int.reduceLT, Int.reduceEq, Int.reduceNe, di]
    have f2 := hb0 (t - 2 * (opn x).n.toNat)
    have f3 := hb1 (t - 2 * (opn x).n.toNat)
    have heq : valve (opn x) law t + valve (opn x) law (t - 2 * (opn x).n.toNat) = atL law t - atL law (t - 2 * (opn x).n.toNat) := by
      rw [hvt, hvs]
      have h4 := heb (t - 2 * (opn x).n.toNat)
      by_cases h5 : 2 * (opn x).n.toNat ≤ t - 2 * (opn x).n.toNat
      · rw [if_pos h5]
        have := eV_hi (f := atL law) (n := (opn x).n.toNat) (by omega) h5
        omega
      · rw [if_neg h5]
        have := eV_lo (f := atL law) (n := (opn x).n.toNat) (t := t - 2 * (opn x).n.toNat) (by omega)
        omega
    rw [heq, if_pos rfl, wrap64 (n := (t : Int) + 1) (by omega) (by omega)]
    exact ih (t + 1) _ _ (by omega) (by omega) (by simp only [vaE, ↓reduceIte, reduceCtorEq, Nat.reduceEqDiff, Nat.reduceAdd, Nat.reduceMul, Nat.reduceSub, Nat.reduceLeDiff, Nat.reduceBEq, Int.reduceToNat, Int.reduceLE, Int.reduceLT, Int.reduceEq, Int.reduceNe, di] <;> rfl)
end Go.DI

