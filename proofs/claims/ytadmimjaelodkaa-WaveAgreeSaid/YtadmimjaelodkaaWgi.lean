/- Contracts: the steady oscillation of a line. No condition. -/
import Derived.Test.YtadmimjaelodkaaWoGj
import Derived.Test.YtadmimjaelodkaaWgb
import Derived.Test.YtadmimjaelodkaaWgh
set_option linter.unusedSimpArgs false
set_option maxRecDepth 100000
namespace Go.DI
open Go.Proofs Go.RowKit

def nA (g : Ga) : Nat := FloatKind.f64.nearest g.1
def nB (g : Ga) : Nat := FloatKind.f64.nearest g.2
theorem CC_near {g : Ga} (h : Bd (nrm g)) : CC (nA g) (nB g) g := by
 obtain ⟨h1, h2⟩ := part_le (Nat.le_refl _) h
 exact ⟨i2f_F h1, i2f_F h2⟩
theorem CC_two : CC 4611686018427387904 0 (2, 0) := ⟨⟨false, 4503599627370496, -51, by decide, ⟨51, by decide, by decide⟩⟩, F_zero⟩
theorem Bd_le {a b : Nat} (h : a ≤ b) (hb : b ≤ 9007199254740000 := by decide) : Bd a := by unfold Bd; omega
theorem Bd_mul {a b m n : Nat} (h1 : a ≤ m) (h2 : b ≤ n) (hb : m * n ≤ 9007199254740000 := by decide) : Bd (a * b) := Bd_le (Nat.le_trans (Nat.mul_le_mul h1 h2) hb) (Nat.le_refl _)
theorem w_number128 {g : Ga} : Contract Try.prog 128 [gI g] (.cpx .f64 (nA g) (nB g)) := by
 refine contract_run Try.func128 k128 rfl ?_
 simp only [body128, b128, res128, gI, vaE, ↓reduceIte, reduceCtorEq, Nat.reduceEqDiff, Nat.reduceAdd, Nat.reduceMul, Nat.reduceSub, Nat.reduceLeDiff, Nat.reduceBEq, Int.reduceToNat, Int.reduceLE, Int.reduceLT, Int.reduceEq, Int.reduceNe, di]
 rfl
theorem w_divided {a b : Nat} {g : Ga} {n : Int} (h : CC a b g) (hg : Bd (nrm g)) (hn : n ≠ 0) : Contract Try.prog 130 [.cpx .f64 a b, .int .i64 n] (.cpx .f64 (nA (govr g n)) (nB (govr g n))) := by
 have hb := part_B62 (Nat.le_refl (nrm g)) (by unfold Bd at hg; omega)
 refine contract_run Try.func130 k130 rfl ?_
 simp only [body130, b130, res130, vaE, ↓reduceIte, reduceCtorEq, Nat.reduceEqDiff, Nat.reduceAdd, Nat.reduceMul, Nat.reduceSub, Nat.reduceLeDiff, Nat.reduceBEq, Int.reduceToNat, Int.reduceLE, Int.reduceLT, Int.reduceEq, Int.reduceNe, di]
 refine calls_of (w_whole h hg) ?_; simp only [vaE, res130, ↓reduceIte, reduceCtorEq, Nat.reduceEqDiff, Nat.reduceAdd, Nat.reduceMul, Nat.reduceSub, Nat.reduceLeDiff, Nat.reduceBEq, Int.reduceToNat, Int.reduceLE, Int.reduceLT, Int.reduceEq, Int.reduceNe, di]
 refine calls_of (w_over hb.1 hb.2 hn) ?_; simp only [vaE, res130, ↓reduceIte, reduceCtorEq, Nat.reduceEqDiff, Nat.reduceAdd, Nat.reduceMul, Nat.reduceSub, Nat.reduceLeDiff, Nat.reduceBEq, Int.reduceToNat, Int.reduceLE, Int.reduceLT, Int.reduceEq, Int.reduceNe, di]
 refine calls_of w_number128 ?_; simp only [vaE, res130, ↓reduceIte, reduceCtorEq, Nat.reduceEqDiff, Nat.reduceAdd, Nat.reduceMul, Nat.reduceSub, Nat.reduceLeDiff, Nat.reduceBEq, Int.reduceToNat, Int.reduceLE, Int.reduceLT, Int.reduceEq, Int.reduceNe, di]
def partOk (g : Ga) : Prop := (-1000000 ≤ g.1 ∧ g.1 ≤ 1000000) ∧ -1000000 ≤ g.2 ∧ g.2 ≤ 1000000
instance (g : Ga) : Decidable (partOk g) := by unfold partOk; infer_instance
theorem w_isPart {g : Ga} : Contract Try.prog 135 [gI g] (.bool (decide (partOk g))) := by
 refine contract_run Try.func135 k135 rfl ?_
 simp only [body135, b135, res135, gI, vaE, ↓reduceIte, reduceCtorEq, Nat.reduceEqDiff, Nat.reduceAdd, Nat.reduceMul, Nat.reduceSub, Nat.reduceLeDiff, Nat.reduceBEq, Int.reduceToNat, Int.reduceLE, Int.reduceLT, Int.reduceEq, Int.reduceNe, di]
 refine calls_of (w_isSized (by decide)) ?_; simp only [vaE, res135, ↓reduceIte, reduceCtorEq, Nat.reduceEqDiff, Nat.reduceAdd, Nat.reduceMul, Nat.reduceSub, Nat.reduceLeDiff, Nat.reduceBEq, Int.reduceToNat, Int.reduceLE, Int.reduceLT, Int.reduceEq, Int.reduceNe, di]
 by_cases h1 : -1000000 ≤ g.1 ∧ g.1 ≤ 1000000
 ·simp only [h1, vaE, ↓reduceIte, reduceCtorEq, Nat.reduceEqDiff, Nat.reduceAdd, Nat.reduceMul, Nat.reduceSub, Nat.reduceLeDiff, Nat.reduceBEq, Int.reduceToNat, Int.reduceLE, Int.reduceLT, Int.reduceEq, Int.reduceNe, di]
  refine calls_of (w_isSized (by decide)) ?_; simp only [vaE, res135, ↓reduceIte, reduceCtorEq, Nat.reduceEqDiff, Nat.reduceAdd, Nat.reduceMul, Nat.reduceSub, Nat.reduceLeDiff, Nat.reduceBEq, Int.reduceToNat, Int.reduceLE, Int.reduceLT, Int.reduceEq, Int.reduceNe, di]
  by_cases h2 : -1000000 ≤ g.2 ∧ g.2 ≤ 1000000
  ·rw [decide_eq_true h2, decide_eq_true (show partOk g from ⟨h1, h2⟩)]
  ·rw [decide_eq_false h2, decide_eq_false (show ¬ partOk g from fun k => h2 k.2)]
 ·simp only [h1, vaE, ↓reduceIte, reduceCtorEq, Nat.reduceEqDiff, Nat.reduceAdd, Nat.reduceMul, Nat.reduceSub, Nat.reduceLeDiff, Nat.reduceBEq, Int.reduceToNat, Int.reduceLE, Int.reduceLT, Int.reduceEq, Int.reduceNe, di]
  rw [decide_eq_false (show ¬ partOk g from fun k => h1 k.1)]
def stdI (s : Sty) : IV := .agg [.int .i64 s.q, .slc 2 (s.F.map gI), .slc 2 (s.B.map gI), .slc 2 (s.L.map gI), .int .i64 s.c.1, .int .i64 s.c.2]
def floOk (g : Ga) : Prop := (-10 ≤ g.1 ∧ g.1 ≤ 10) ∧ -10 ≤ g.2 ∧ g.2 ≤ 10
instance (g : Ga) : Decidable (floOk g) := by unfold floOk; infer_instance
def flowE (g : Ga) : Int := if floOk g then 0 else 2
def osE (x : Ln) (h : Int) (g : Ga) : Int := fstE (matE x h) (flowE g)
def osZ (x : Ln) (h : Int) (g : Ga) : Sty := if osE x h g = 0 then styF (opn x) h (2 * g.1, 2 * g.2) else emptySt
theorem w_SteadyOf {x : Ln} {h : Int} {g : Ga} (hx : Few x) : Contract Try.prog 78 [lnI x, .int .i64 h, gI g] (.tup [stdI (osZ x h g), .int .i64 (osE x h g)]) := by
 refine contract_run Try.func78 k78 rfl ?_
 simp only [body78, b78, res78, b78k0, b78k1, b78k2, b78k3, b78k4, b78k5, b78k6, b78k7, b78k8, gI, vaE, ↓reduceIte, reduceCtorEq, Nat.reduceEqDiff, Nat.reduceAdd, Nat.reduceMul, Nat.reduceSub, Nat.reduceLeDiff, Nat.reduceBEq, Int.reduceToNat, Int.reduceLE, Int.reduceLT, Int.reduceEq, Int.reduceNe, di]
 refine calls_of (w_openQuarter hx) ?_; simp only [vaE, res78, b78k0, b78k1, b78k2, b78k3, b78k4, b78k5, b78k6, b78k7, b78k8, ↓reduceIte, reduceCtorEq, Nat.reduceEqDiff, Nat.reduceAdd, Nat.reduceMul, Nat.reduceSub, Nat.reduceLeDiff, Nat.reduceBEq, Int.reduceToNat, Int.reduceLE, Int.reduceLT, Int.reduceEq, Int.reduceNe, di]
 refine calls_of (w_isSized (by decide)) ?_; simp only [vaE, res78, b78k0, b78k1, b78k2, b78k3, b78k4, b78k5, b78k6, b78k7, b78k8, ↓reduceIte, reduceCtorEq, Nat.reduceEqDiff, Nat.reduceAdd, Nat.reduceMul, Nat.reduceSub, Nat.reduceLeDiff, Nat.reduceBEq, Int.reduceToNat, Int.reduceLE, Int.reduceLT, Int.reduceEq, Int.reduceNe, di]
 have bad : ¬ floOk g → osE x h g = fstE (matE x h) 2 ∧ osE x h g ≠ 0 ∧ osZ x h g = emptySt := by
  intro hn
  have e1 : osE x h g = fstE (matE x h) 2 := by unfold osE flowE; rw [if_neg hn]
  have e2 : osE x h g ≠ 0 := by rw [e1, Ne, fstE_zero]; omega
  exact ⟨e1, e2, by unfold osZ; rw [if_neg e2]⟩
 by_cases h1 : -10 ≤ g.1 ∧ g.1 ≤ 10
 rotate_left
 ·obtain ⟨e1, e2, e3⟩ := bad fun k => h1 k.1
  simp only [h1, vaE, ↓reduceIte, reduceCtorEq, Nat.reduceEqDiff, Nat.reduceAdd, Nat.reduceMul, Nat.reduceSub, Nat.reduceLeDiff, Nat.reduceBEq, Int.reduceToNat, Int.reduceLE, Int.reduceLT, Int.reduceEq, Int.reduceNe, di]
  refine calls_of w_unless ?_; simp only [vaE, res78, b78k0, b78k1, b78k2, b78k3, b78k4, b78k5, b78k6, b78k7, b78k8, ↓reduceIte, reduceCtorEq, Nat.reduceEqDiff, Nat.reduceAdd, Nat.reduceMul, Nat.reduceSub, Nat.reduceLeDiff, Nat.reduceBEq, Int.reduceToNat, Int.reduceLE, Int.reduceLT, Int.reduceEq, Int.reduceNe, di]
  refine calls_of (w_first (l := [matE x h, 2]) (by simp)) ?_; simp only [vaE, res78, b78k0, b78k1, b78k2, b78k3, b78k4, b78k5, b78k6, b78k7, b78k8, ↓reduceIte, reduceCtorEq, Nat.reduceEqDiff, Nat.reduceAdd, Nat.reduceMul, Nat.reduceSub, Nat.reduceLeDiff, Nat.reduceBEq, Int.reduceToNat, Int.reduceLE, Int.reduceLT, Int.reduceEq, Int.reduceNe, di]
  rw [firstNZ_two, ← e1, e3]
  simp only [e2, vaE, ↓reduceIte, reduceCtorEq, Nat.reduceEqDiff, Nat.reduceAdd, Nat.reduceMul, Nat.reduceSub, Nat.reduceLeDiff, Nat.reduceBEq, Int.reduceToNat, Int.reduceLE, Int.reduceLT, Int.reduceEq, Int.reduceNe, di]
  rfl
 simp only [h1, vaE, ↓reduceIte, reduceCtorEq, Nat.reduceEqDiff, Nat.reduceAdd, Nat.reduceMul, Nat.reduceSub, Nat.reduceLeDiff, Nat.reduceBEq, Int.reduceToNat, Int.reduceLE, Int.reduceLT, Int.reduceEq, Int.reduceNe, di]
 refine calls_of (w_isSized (by decide)) ?_; simp only [vaE, res78, b78k0, b78k1, b78k2, b78k3, b78k4, b78k5, b78k6, b78k7, b78k8, ↓reduceIte, reduceCtorEq, Nat.reduceEqDiff, Nat.reduceAdd, Nat.reduceMul, Nat.reduceSub, Nat.reduceLeDiff, Nat.reduceBEq, Int.reduceToNat, Int.reduceLE, Int.reduceLT, Int.reduceEq, Int.reduceNe, di]
 by_cases h2 : -10 ≤ g.2 ∧ g.2 ≤ 10
 rotate_left
 ·obtain ⟨e1, e2, e3⟩ := bad fun k => h2 k.2
  simp only [h2, vaE, ↓reduceIte, reduceCtorEq, Nat.reduceEqDiff, Nat.reduceAdd, Nat.reduceMul, Nat.reduceSub, Nat.reduceLeDiff, Nat.reduceBEq, Int.reduceToNat, Int.reduceLE, Int.reduceLT, Int.reduceEq, Int.reduceNe, di]
  refine calls_of w_unless ?_; simp only [vaE, res78, b78k0, b78k1, b78k2, b78k3, b78k4, b78k5, b78k6, b78k7, b78k8, ↓reduceIte, reduceCtorEq, Nat.reduceEqDiff, Nat.reduceAdd, Nat.reduceMul, Nat.reduceSub, Nat.reduceLeDiff, Nat.reduceBEq, Int.reduceToNat, Int.reduceLE, Int.reduceLT, Int.reduceEq, Int.reduceNe, di]
  refine calls_of (w_first (l := [matE x h, 2]) (by simp)) ?_; simp only [vaE, res78, b78k0, b78k1, b78k2, b78k3, b78k4, b78k5, b78k6, b78k7, b78k8, ↓reduceIte, reduceCtorEq, Nat.reduceEqDiff, Nat.reduceAdd, Nat.reduceMul, Nat.reduceSub, Nat.reduceLeDiff, Nat.reduceBEq, Int.reduceToNat, Int.reduceLE, Int.reduceLT, Int.reduceEq, Int.reduceNe, di]
  rw [firstNZ_two, ← e1, e3]
  simp only [e2, vaE, ↓reduceIte, reduceCtorEq, Nat.reduceEqDiff, Nat.reduceAdd, Nat.reduceMul, Nat.reduceSub, Nat.reduceLeDiff, Nat.reduceBEq, Int.reduceToNat, Int.reduceLE, Int.reduceLT, Int.reduceEq, Int.reduceNe, di]
  rfl
 have hfl : floOk g := ⟨h1, h2⟩
 simp only [h2, vaE, ↓reduceIte, reduceCtorEq, Nat.reduceEqDiff, Nat.reduceAdd, Nat.reduceMul, Nat.reduceSub, Nat.reduceLeDiff, Nat.reduceBEq, Int.reduceToNat, Int.reduceLE, Int.reduceLT, Int.reduceEq, Int.reduceNe, di]
 refine calls_of w_unless ?_; simp only [vaE, res78, b78k0, b78k1, b78k2, b78k3, b78k4, b78k5, b78k6, b78k7, b78k8, ↓reduceIte, reduceCtorEq, Nat.reduceEqDiff, Nat.reduceAdd, Nat.reduceMul, Nat.reduceSub, Nat.reduceLeDiff, Nat.reduceBEq, Int.reduceToNat, Int.reduceLE, Int.reduceLT, Int.reduceEq, Int.reduceNe, di]
 refine calls_of (w_first (l := [matE x h, 0]) (by simp)) ?_; simp only [vaE, res78, b78k0, b78k1, b78k2, b78k3, b78k4, b78k5, b78k6, b78k7, b78k8, ↓reduceIte, reduceCtorEq, Nat.reduceEqDiff, Nat.reduceAdd, Nat.reduceMul, Nat.reduceSub, Nat.reduceLeDiff, Nat.reduceBEq, Int.reduceToNat, Int.reduceLE, Int.reduceLT, Int.reduceEq, Int.reduceNe, di]
 have hos : osE x h g = fstE (matE x h) 0 := by unfold osE flowE; rw [if_pos hfl]
 rw [firstNZ_two, ← hos]
 by_cases h0 : osE x h g = 0
 rotate_left
 ·have e3 : osZ x h g = emptySt := by unfold osZ; rw [if_neg h0]
  rw [e3]
  simp only [h0, vaE, ↓reduceIte, reduceCtorEq, Nat.reduceEqDiff, Nat.reduceAdd, Nat.reduceMul, Nat.reduceSub, Nat.reduceLeDiff, Nat.reduceBEq, Int.reduceToNat, Int.reduceLE, Int.reduceLT, Int.reduceEq, Int.reduceNe, di]
  rfl
 have e3 : osZ x h g = styF (opn x) h (2 * g.1, 2 * g.2) := by unfold osZ; rw [if_pos h0]
 rw [h0, e3]
 have hm : matE x h = 0 := by rw [hos, fstE_zero] at h0; exact h0.1
 have hz := matE_zero.1 hm
 have hox : opnE x = opn x := by unfold opnE; rw [if_pos (chkL_ok.2 hz.1)]
 have how := opn_ok hz.1
 have hh := hz.2
 rw [hox]
 simp only [vaE, ↓reduceIte, reduceCtorEq, Nat.reduceEqDiff, Nat.reduceAdd, Nat.reduceMul, Nat.reduceSub, Nat.reduceLeDiff, Nat.reduceBEq, Int.reduceToNat, Int.reduceLE, Int.reduceLT, Int.reduceEq, Int.reduceNe, di]
 have hgn : nrm g ≤ 20 := by unfold nrm; omega
 have q0 := w_number128 (g := g)
 simp only [gI] at q0
 refine calls_of q0 ?_; simp only [vaE, res78, b78k0, b78k1, b78k2, b78k3, b78k4, b78k5, b78k6, b78k7, b78k8, ↓reduceIte, reduceCtorEq, Nat.reduceEqDiff, Nat.reduceAdd, Nat.reduceMul, Nat.reduceSub, Nat.reduceLeDiff, Nat.reduceBEq, Int.reduceToNat, Int.reduceLE, Int.reduceLT, Int.reduceEq, Int.reduceNe, di]
 obtain ⟨a1, b1, e1, c1⟩ := mulC CC_two (CC_near (Bd_le hgn)) (Bd_mul (show nrm (2, 0) ≤ 2 by decide) hgn); simp only [e1, vaE, ↓reduceIte, reduceCtorEq, Nat.reduceEqDiff, Nat.reduceAdd, Nat.reduceMul, Nat.reduceSub, Nat.reduceLeDiff, Nat.reduceBEq, Int.reduceToNat, Int.reduceLE, Int.reduceLT, Int.reduceEq, Int.reduceNe, di]
 have hf2 : gmul (2, 0) g = (2 * g.1, 2 * g.2) := by unfold gmul; simp
 rw [hf2] at c1
 have hfn : nrm (2 * g.1, 2 * g.2) ≤ 40 := by unfold nrm at hgn ⊢; dsimp only at hgn ⊢; omega
 generalize (2 * g.1, 2 * g.2) = f at *
 have hlen := hz.1.len
 have hars := hz.1.ars
 refine loop_keep (α := Nat × Nat × Nat) rfl (fun q => x.pp.length - q.1) (fun q => q.1 ≤ x.pp.length ∧ CC q.2.1 q.2.2 (gsc (prodP (x.pp.take q.1)) f))
  (fun q => [(1, .imm (.int .i64 h)), (6, .ref 6 0), (8, .ref 8 0), (10, .ref 10 0), (11, .imm (.cpx .f64 q.2.1 q.2.2)), (12, .imm (.cpx .f64 0 0)), (52, .imm (.slc 2 (x.pp.map ppI))), (53, .imm (.int .i64 x.pp.length)), (54, .imm (.int .i64 q.1))])
  (fun _ => [(6, .box [.imm (.int .i64 0), .imm (.slc 2 []), .imm (.slc 2 []), .imm (.slc 2 []), .imm (.int .i64 0), .imm (.int .i64 0)]), (8, .box [.imm (.slc 2 (x.pp.map ppI)), .imm (nI x.ar), .imm (nI (opn x).be), .imm (.int .i64 (opn x).n)]), (10, .box [.imm (.int .i64 h), .own 1001, .own 1002, .own 1003, .imm (.int .i64 0), .imm (.int .i64 0)]), (1001, .tok 2 []), (1002, .tok 2 []), (1003, .tok 2 [])]) (0, a1, b1) ⟨Nat.zero_le _, by simpa [prodP, gsc] using c1⟩ (by simp only [nI, vaE, ↓reduceIte, reduceCtorEq, Nat.reduceEqDiff, Nat.reduceAdd, Nat.reduceMul, Nat.reduceSub, Nat.reduceLeDiff, Nat.reduceBEq, Int.reduceToNat, Int.reduceLE, Int.reduceLT, Int.reduceEq, Int.reduceNe, di] <;> rfl) ?_
 rintro ⟨k, qa, qb⟩ ⟨hk, hc⟩ ih
 dsimp only at hk hc ⊢
 simp only [res78, b78k0, b78k1, b78k2, b78k3, b78k4, b78k5, b78k6, b78k7, b78k8, nI, vaE, ↓reduceIte, reduceCtorEq, Nat.reduceEqDiff, Nat.reduceAdd, Nat.reduceMul, Nat.reduceSub, Nat.reduceLeDiff, Nat.reduceBEq, Int.reduceToNat, Int.reduceLE, Int.reduceLT, Int.reduceEq, Int.reduceNe, di]
 split
 ·rename_i hlt0
  have hlt : k < x.pp.length := by omega
  have hp := hz.1.pip _ (getD_mem (d := default) hlt)
  repeat (refine And.intro (by first | omega | exact all_int _ | (simp only [zeros_len, List.length_append, List.length_take, List.length_drop, List.length_set, List.length_cons, List.length_nil, List.length_map]; omega)) ?_)
  have hpt := prod_tk how k
  have hn1 : nrm (gsc (prodP (x.pp.take k)) f) ≤ 400000 := by
   rw [nrm_gsc]
   have : (prodP ((opn x).pp.take k)).natAbs ≤ 10000 := by omega
   exact Nat.mul_le_mul this hfn
  have hy : nrm ((x.pp.getD k default).2, 0) ≤ 10 := by rw [nrm_real]; omega
  have cy : CC (FloatKind.f64.nearest (x.pp.getD k default).2) 0 ((x.pp.getD k default).2, 0) := ⟨i2f_F (by unfold Fl.Sm; omega), F_zero⟩
  obtain ⟨a2, b2, e2, c2⟩ := mulC hc cy (Bd_mul hn1 hy); simp only [e1, e2, vaE, ↓reduceIte, reduceCtorEq, Nat.reduceEqDiff, Nat.reduceAdd, Nat.reduceMul, Nat.reduceSub, Nat.reduceLeDiff, Nat.reduceBEq, Int.reduceToNat, Int.reduceLE, Int.reduceLT, Int.reduceEq, Int.reduceNe, di]
  rw [gsc_real, ← prod_take1 hlt] at c2
  rw [wrap64 (n := (k : Int) + 1) (by omega) (by omega)]
  exact ih (k + 1, a2, b2) _ _ (by dsimp only; omega) ⟨by dsimp only; omega, c2⟩ (by simp only [vaE, ↓reduceIte, reduceCtorEq, Nat.reduceEqDiff, Nat.reduceAdd, Nat.reduceMul, Nat.reduceSub, Nat.reduceLeDiff, Nat.reduceBEq, Int.reduceToNat, Int.reduceLE, Int.reduceLT, Int.reduceEq, Int.reduceNe, di] <;> rfl)
 rename_i hge
 have hke : k = x.pp.length := by omega
 subst hke
 clear ih
 rw [List.take_length] at hc
 have hst0 := stF_zero (x := opn x) (h := h) (f := f)
 refine loop_keep (α := Nat × Nat × Nat × Nat × Nat) rfl (fun q => x.pp.length - q.1) (fun q => q.1 ≤ x.pp.length ∧ CC q.2.1 q.2.2.1 (hdF (opn x) h f q.1).2 ∧ CC q.2.2.2.1 q.2.2.2.2 (hdF (opn x) h f q.1).1)
  (fun q => [(1, .imm (.int .i64 h)), (6, .ref 6 0), (8, .ref 8 0), (10, .ref 10 0), (11, .imm (.cpx .f64 q.2.1 q.2.2.1)), (12, .imm (.cpx .f64 q.2.2.2.1 q.2.2.2.2)), (67, .imm (.slc 2 (x.pp.map ppI))), (68, .imm (.int .i64 x.pp.length)), (69, .imm (.int .i64 q.1))])
  (fun q => [(6, .box [.imm (.int .i64 0), .imm (.slc 2 []), .imm (.slc 2 []), .imm (.slc 2 []), .imm (.int .i64 0), .imm (.int .i64 0)]), (8, .box [.imm (.slc 2 (x.pp.map ppI)), .imm (nI x.ar), .imm (nI (opn x).be), .imm (.int .i64 (opn x).n)]), (10, .box [.imm (.int .i64 h), .own 1001, .own 1002, .own 1003, .imm (.int .i64 0), .imm (.int .i64 0)]), (1001, .tok 2 ((fwA (opn x) h f q.1).map gI)), (1002, .tok 2 ((bwA (opn x) h f q.1).map gI)), (1003, .tok 2 ((leA (opn x) h f (q.1 - 1)).map gI))]) (0, qa, qb, 0, 0) ⟨Nat.zero_le _, by show CC _ _ (stF (opn x) h f 0).2; rw [hst0]; exact hc, by show CC _ _ (stF (opn x) h f 0).1; rw [hst0]; exact CC_zero⟩ (by simp only [fwA, bwA, leA, List.map_nil, nI, vaE, ↓reduceIte, reduceCtorEq, Nat.reduceEqDiff, Nat.reduceAdd, Nat.reduceMul, Nat.reduceSub, Nat.reduceLeDiff, Nat.reduceBEq, Int.reduceToNat, Int.reduceLE, Int.reduceLT, Int.reduceEq, Int.reduceNe, di] <;> rfl) ?_
 rintro ⟨j, qa, qb, pa, pb⟩ ⟨hj, hcq, hcp⟩ ih
 dsimp only at hj hcq hcp ⊢
 simp only [res78, b78k4, b78k5, b78k6, b78k7, b78k8, nI, vaE, ↓reduceIte, reduceCtorEq, Nat.reduceEqDiff, Nat.reduceAdd, Nat.reduceMul, Nat.reduceSub, Nat.reduceLeDiff, Nat.reduceBEq, Int.reduceToNat, Int.reduceLE, Int.reduceLT, Int.reduceEq, Int.reduceNe, di]
 split
 ·rename_i hlt0
  have hlt : j < x.pp.length := by omega
  have hp := hz.1.pip _ (getD_mem (d := default) hlt)
  obtain ⟨n1, n2⟩ := hd_nrm (h := h) how hfn (show j ≤ (opn x).pp.length from hj)
  have hll := leA_len (x := opn x) (h := h) (f := f) (j - 1)
  obtain ⟨s1, s2⟩ := stF_nrm (h := h) how hfn (show j < (opn x).pp.length from hlt)
  repeat (refine And.intro (by first | omega | exact all_int _ | (simp only [zeros_len, List.length_append, List.length_take, List.length_drop, List.length_set, List.length_cons, List.length_nil, List.length_map]; omega)) ?_)
  split
  case' isTrue =>
   rename_i hpos
   obtain ⟨d1, d2, d3⟩ := hd_pos (x := opn x) (h := h) (f := f) (j := j) (by omega)
   have ha := hz.1.are _ (getD_mem (l := x.ar) (d := 0) (show j - 1 < x.ar.length by omega))
   have ca : CC (FloatKind.f64.nearest (x.ar.getD (j - 1) 0)) 0 (x.ar.getD (j - 1) 0, 0) := ⟨i2f_F (by unfold Fl.Sm; omega), F_zero⟩
   have nar : nrm (x.ar.getD (j - 1) 0, 0) ≤ 20 := by rw [nrm_real]; omega
   rw [d1] at hcp
   have q1 := w_whole hcp (Bd_le s1)
   simp only [gI] at q1
   refine calls_of q1 ?_; simp only [vaE, res78, b78k4, b78k5, b78k6, b78k7, b78k8, ↓reduceIte, reduceCtorEq, Nat.reduceEqDiff, Nat.reduceAdd, Nat.reduceMul, Nat.reduceSub, Nat.reduceLeDiff, Nat.reduceBEq, Int.reduceToNat, Int.reduceLE, Int.reduceLT, Int.reduceEq, Int.reduceNe, di]
   rw [wrap64 (n := (j : Int) - 1) (by omega) (by omega), show ((j : Int) - 1).toNat = j - 1 by omega, wrap64 (n := 0 - h) (by omega) (by omega), Int.zero_sub]
   repeat (refine And.intro (by first | omega | exact all_int _ | (simp only [zeros_len, List.length_append, List.length_take, List.length_drop, List.length_set, List.length_cons, List.length_nil, List.length_map]; omega)) ?_)
   refine calls_of w_turn ?_; simp only [vaE, res78, b78k4, b78k5, b78k6, b78k7, b78k8, ↓reduceIte, reduceCtorEq, Nat.reduceEqDiff, Nat.reduceAdd, Nat.reduceMul, Nat.reduceSub, Nat.reduceLeDiff, Nat.reduceBEq, Int.reduceToNat, Int.reduceLE, Int.reduceLT, Int.reduceEq, Int.reduceNe, di]
   have ntu := nrm_sub (1, 0) (turnG (-h))
   rw [nrm_turn, show nrm (1, 0) = 1 from rfl] at ntu
   obtain ⟨a2, b2, e2, c2⟩ := subC CC_one (CC_turn (-h)) (by rw [nrm_turn]; show (2 : Nat) < 9007199254740992; decide); simp only [e1, e2, vaE, ↓reduceIte, reduceCtorEq, Nat.reduceEqDiff, Nat.reduceAdd, Nat.reduceMul, Nat.reduceSub, Nat.reduceLeDiff, Nat.reduceBEq, Int.reduceToNat, Int.reduceLE, Int.reduceLT, Int.reduceEq, Int.reduceNe, di]
   obtain ⟨a3, b3, e3, c3⟩ := mulC ca c2 (Bd_mul nar ntu); simp only [e1, e2, e3, vaE, ↓reduceIte, reduceCtorEq, Nat.reduceEqDiff, Nat.reduceAdd, Nat.reduceMul, Nat.reduceSub, Nat.reduceLeDiff, Nat.reduceBEq, Int.reduceToNat, Int.reduceLE, Int.reduceLT, Int.reduceEq, Int.reduceNe, di]
   have n4 := nrm_mul_le nar ntu
   obtain ⟨a4, b4, e4, c4⟩ := mulC c3 hcp (Bd_mul n4 s1); simp only [e1, e2, e3, e4, vaE, ↓reduceIte, reduceCtorEq, Nat.reduceEqDiff, Nat.reduceAdd, Nat.reduceMul, Nat.reduceSub, Nat.reduceLeDiff, Nat.reduceBEq, Int.reduceToNat, Int.reduceLE, Int.reduceLT, Int.reduceEq, Int.reduceNe, di]
   have n5 := nrm_mul_le n4 s1
   obtain ⟨a5, b5, e5, c5⟩ := subC hcq c4 (by unfold Bd; omega); simp only [e1, e2, e3, e4, e5, vaE, ↓reduceIte, reduceCtorEq, Nat.reduceEqDiff, Nat.reduceAdd, Nat.reduceMul, Nat.reduceSub, Nat.reduceLeDiff, Nat.reduceBEq, Int.reduceToNat, Int.reduceLE, Int.reduceLT, Int.reduceEq, Int.reduceNe, di]
   have hcq2 : CC a5 b5 (stF (opn x) h f j).2 := by rw [d2, ← prog_by]; exact c5
   have hl3 : List.map gI (leA (opn x) h f j) = List.map gI (leA (opn x) h f (j - 1)) ++ [.agg [.int .i64 (stF (opn x) h f j).1.1, .int .i64 (stF (opn x) h f j).1.2]] := by rw [d3, List.map_append]; rfl
   rw [← hl3]
   clear e2 e3 e4 e5 c1 c2 c3 c4 c5 n4 n5 ntu hl3 d1 d2 d3 hcq q1
   generalize a5 = qa5 at hcq2 ⊢
   generalize b5 = qb5 at hcq2 ⊢
  case' isFalse =>
   rename_i hpos
   obtain ⟨d1, d2⟩ := hd_zero (x := opn x) (h := h) (f := f) (j := j) (by omega)
   rw [d1] at hcq hcp
   rw [d2]
   have hcq2 := hcq
   clear hcq
   clear d1 d2
   generalize qa = qa5 at hcq2 ⊢
   generalize qb = qb5 at hcq2 ⊢
  all_goals
   clear hpos hll n1 n2
   have hy0 : (x.pp.getD j default).2 ≠ 0 := by omega
   obtain ⟨w1, w2, w3⟩ := wav_nrm (h := h) how hfn (show j < (opn x).pp.length from hlt)
   simp only [b78k3, res78, b78k4, b78k5, b78k6, b78k7, b78k8, vaE, ↓reduceIte, reduceCtorEq, Nat.reduceEqDiff, Nat.reduceAdd, Nat.reduceMul, Nat.reduceSub, Nat.reduceLeDiff, Nat.reduceBEq, Int.reduceToNat, Int.reduceLE, Int.reduceLT, Int.reduceEq, Int.reduceNe, di]
   refine calls_of (w_divided hcq2 (Bd_le s2) hy0) ?_; simp only [vaE, res78, b78k0, b78k1, b78k2, b78k3, b78k4, b78k5, b78k6, b78k7, b78k8, ↓reduceIte, reduceCtorEq, Nat.reduceEqDiff, Nat.reduceAdd, Nat.reduceMul, Nat.reduceSub, Nat.reduceLeDiff, Nat.reduceBEq, Int.reduceToNat, Int.reduceLE, Int.reduceLT, Int.reduceEq, Int.reduceNe, di]
   have cf : CC (nA (floF (opn x) h f j)) (nB (floF (opn x) h f j)) (floF (opn x) h f j) := CC_near (Bd_le w1)
   simp only [show govr (stF (opn x) h f j).2 (x.pp.getD j default).2 = floF (opn x) h f j from rfl]
   obtain ⟨a2, b2, e2, c2⟩ := addC hcp cf (by unfold Bd; omega); simp only [e1, e2, vaE, ↓reduceIte, reduceCtorEq, Nat.reduceEqDiff, Nat.reduceAdd, Nat.reduceMul, Nat.reduceSub, Nat.reduceLeDiff, Nat.reduceBEq, Int.reduceToNat, Int.reduceLE, Int.reduceLT, Int.reduceEq, Int.reduceNe, di]
   have m1 := nrm_add (stF (opn x) h f j).1 (floF (opn x) h f j)
   refine calls_of (w_divided c2 (by unfold Bd; omega) (show (2 : Int) ≠ 0 by decide)) ?_; simp only [vaE, res78, b78k0, b78k1, b78k2, b78k3, b78k4, b78k5, b78k6, b78k7, b78k8, ↓reduceIte, reduceCtorEq, Nat.reduceEqDiff, Nat.reduceAdd, Nat.reduceMul, Nat.reduceSub, Nat.reduceLeDiff, Nat.reduceBEq, Int.reduceToNat, Int.reduceLE, Int.reduceLT, Int.reduceEq, Int.reduceNe, di]
   obtain ⟨a3, b3, e3, c3⟩ := subC hcp cf (by unfold Bd; omega); simp only [e1, e2, e3, vaE, ↓reduceIte, reduceCtorEq, Nat.reduceEqDiff, Nat.reduceAdd, Nat.reduceMul, Nat.reduceSub, Nat.reduceLeDiff, Nat.reduceBEq, Int.reduceToNat, Int.reduceLE, Int.reduceLT, Int.reduceEq, Int.reduceNe, di]
   have m2 := nrm_sub (stF (opn x) h f j).1 (floF (opn x) h f j)
   refine calls_of (w_divided c3 (by unfold Bd; omega) (show (2 : Int) ≠ 0 by decide)) ?_; simp only [vaE, res78, b78k0, b78k1, b78k2, b78k3, b78k4, b78k5, b78k6, b78k7, b78k8, ↓reduceIte, reduceCtorEq, Nat.reduceEqDiff, Nat.reduceAdd, Nat.reduceMul, Nat.reduceSub, Nat.reduceLeDiff, Nat.reduceBEq, Int.reduceToNat, Int.reduceLE, Int.reduceLT, Int.reduceEq, Int.reduceNe, di]
   simp only [show govr (gadd (stF (opn x) h f j).1 (floF (opn x) h f j)) 2 = entF (opn x) h f j from rfl, show govr (gsub (stF (opn x) h f j).1 (floF (opn x) h f j)) 2 = leaF (opn x) h f j from rfl]
   have cE : CC (nA (entF (opn x) h f j)) (nB (entF (opn x) h f j)) (entF (opn x) h f j) := CC_near (Bd_le w2)
   have cL : CC (nA (leaF (opn x) h f j)) (nB (leaF (opn x) h f j)) (leaF (opn x) h f j) := CC_near (Bd_le w3)
   have ef := fwA_len (h := h) (f := f) how j (by show j ≤ x.pp.length; omega)
   have eb := bwA_len (h := h) (f := f) how j (by show j ≤ x.pp.length; omega)
   have ec := cells_le how j
   have el := leA_len (x := opn x) (h := h) (f := f) j
   refine loop_keep (α := Nat) rfl (fun i => (x.pp.getD j default).1.toNat - i) (fun i => (i : Int) ≤ (x.pp.getD j default).1)
    (fun i => [(1, .imm (.int .i64 h)), (6, .ref 6 0), (8, .ref 8 0), (10, .ref 10 0), (11, .imm (.cpx .f64 qa5 qb5)), (12, .imm (.cpx .f64 pa pb)), (16, .ref 16 0), (17, .imm (.cpx .f64 (nA (floF (opn x) h f j)) (nB (floF (opn x) h f j)))), (18, .imm (.cpx .f64 (nA (entF (opn x) h f j)) (nB (entF (opn x) h f j)))), (19, .imm (.cpx .f64 (nA (leaF (opn x) h f j)) (nB (leaF (opn x) h f j)))), (67, .imm (.slc 2 (x.pp.map ppI))), (68, .imm (.int .i64 x.pp.length)), (69, .imm (.int .i64 j)), (114, .imm (.int .i64 (x.pp.getD j default).1)), (115, .imm (.int .i64 i))])
    (fun i => [(6, .box [.imm (.int .i64 0), .imm (.slc 2 []), .imm (.slc 2 []), .imm (.slc 2 []), .imm (.int .i64 0), .imm (.int .i64 0)]), (8, .box [.imm (.slc 2 (x.pp.map ppI)), .imm (nI x.ar), .imm (nI (opn x).be), .imm (.int .i64 (opn x).n)]), (10, .box [.imm (.int .i64 h), .own 1001, .own 1002, .own 1003, .imm (.int .i64 0), .imm (.int .i64 0)]), (16, .box [.imm (.int .i64 (x.pp.getD j default).1), .imm (.int .i64 (x.pp.getD j default).2)]), (1001, .tok 2 ((fwA (opn x) h f j ++ fwK (opn x) h f j i).map gI)), (1002, .tok 2 ((bwA (opn x) h f j ++ bwK (opn x) h f j i).map gI)), (1003, .tok 2 ((leA (opn x) h f j).map gI))]) 0 (by show (0 : Int) ≤ _; omega) (by simp only [fwK, bwK, List.range_zero, List.map_nil, List.append_nil, nI, vaE, ↓reduceIte, reduceCtorEq, Nat.reduceEqDiff, Nat.reduceAdd, Nat.reduceMul, Nat.reduceSub, Nat.reduceLeDiff, Nat.reduceBEq, Int.reduceToNat, Int.reduceLE, Int.reduceLT, Int.reduceEq, Int.reduceNe, di] <;> rfl) ?_
   intro i hi ih2
   simp only [res78, b78k0, b78k1, b78k2, b78k3, b78k4, b78k5, b78k6, b78k7, b78k8, nI, vaE, ↓reduceIte, reduceCtorEq, Nat.reduceEqDiff, Nat.reduceAdd, Nat.reduceMul, Nat.reduceSub, Nat.reduceLeDiff, Nat.reduceBEq, Int.reduceToNat, Int.reduceLE, Int.reduceLT, Int.reduceEq, Int.reduceNe, di]
   split
   ·rename_i hlt2
    have hhi : 0 ≤ h * (i : Int) ∧ h * (i : Int) ≤ 18 := by
     have : (i : Int) ≤ 6 := by omega
     rcases (show h = 0 ∨ h = 1 ∨ h = 2 ∨ h = 3 by omega) with e | e | e | e <;> rw [e] <;> omega
    have hhi1 : 0 ≤ h * ((i : Int) + 1) ∧ h * ((i : Int) + 1) ≤ 24 := by rw [Int.mul_add]; omega
    have hb1 := fwK_len (x := opn x) (h := h) (f := f) (k := j) (n := i)
    have hb2 := bwK_len (x := opn x) (h := h) (f := f) (k := j) (n := i)
    rw [wrap64 (n := 0 - h) (by omega) (by omega), Int.zero_sub, Int.neg_mul, wrap64 (n := -(h * (i : Int))) (by omega) (by omega)]
    refine calls_of w_turn ?_; simp only [vaE, res78, b78k0, b78k1, b78k2, b78k3, b78k4, b78k5, b78k6, b78k7, b78k8, ↓reduceIte, reduceCtorEq, Nat.reduceEqDiff, Nat.reduceAdd, Nat.reduceMul, Nat.reduceSub, Nat.reduceLeDiff, Nat.reduceBEq, Int.reduceToNat, Int.reduceLE, Int.reduceLT, Int.reduceEq, Int.reduceNe, di]
    obtain ⟨a4, b4, e4, c4⟩ := mulC cE (CC_turn (-(h * (i : Int)))) (by rw [nrm_turn]; unfold Bd; omega); simp only [e1, e2, e3, e4, vaE, ↓reduceIte, reduceCtorEq, Nat.reduceEqDiff, Nat.reduceAdd, Nat.reduceMul, Nat.reduceSub, Nat.reduceLeDiff, Nat.reduceBEq, Int.reduceToNat, Int.reduceLE, Int.reduceLT, Int.reduceEq, Int.reduceNe, di]
    rw [gmul_comm] at c4
    have q4 := w_whole c4 (by rw [nrm_tmul]; exact Bd_le w2)
    simp only [gI] at q4
    refine calls_of q4 ?_; simp only [vaE, res78, b78k0, b78k1, b78k2, b78k3, b78k4, b78k5, b78k6, b78k7, b78k8, ↓reduceIte, reduceCtorEq, Nat.reduceEqDiff, Nat.reduceAdd, Nat.reduceMul, Nat.reduceSub, Nat.reduceLeDiff, Nat.reduceBEq, Int.reduceToNat, Int.reduceLE, Int.reduceLT, Int.reduceEq, Int.reduceNe, di]
    rw [wrap64 (n := (i : Int) + 1) (by omega) (by omega), wrap64 (n := h * ((i : Int) + 1)) (by omega) (by omega)]
    repeat (refine And.intro (by first | omega | exact all_int _ | (simp only [zeros_len, List.length_append, List.length_take, List.length_drop, List.length_set, List.length_cons, List.length_nil, List.length_map]; omega)) ?_)
    refine calls_of w_turn ?_; simp only [vaE, res78, b78k0, b78k1, b78k2, b78k3, b78k4, b78k5, b78k6, b78k7, b78k8, ↓reduceIte, reduceCtorEq, Nat.reduceEqDiff, Nat.reduceAdd, Nat.reduceMul, Nat.reduceSub, Nat.reduceLeDiff, Nat.reduceBEq, Int.reduceToNat, Int.reduceLE, Int.reduceLT, Int.reduceEq, Int.reduceNe, di]
    obtain ⟨a5, b5, e5, c5⟩ := mulC cL (CC_turn (h * ((i : Int) + 1))) (by rw [nrm_turn]; unfold Bd; omega); simp only [e1, e2, e3, e4, e5, vaE, ↓reduceIte, reduceCtorEq, Nat.reduceEqDiff, Nat.reduceAdd, Nat.reduceMul, Nat.reduceSub, Nat.reduceLeDiff, Nat.reduceBEq, Int.reduceToNat, Int.reduceLE, Int.reduceLT, Int.reduceEq, Int.reduceNe, di]
    rw [gmul_comm] at c5
    have q5 := w_whole c5 (by rw [nrm_tmul]; exact Bd_le w3)
    simp only [gI] at q5
    refine calls_of q5 ?_; simp only [vaE, res78, b78k0, b78k1, b78k2, b78k3, b78k4, b78k5, b78k6, b78k7, b78k8, ↓reduceIte, reduceCtorEq, Nat.reduceEqDiff, Nat.reduceAdd, Nat.reduceMul, Nat.reduceSub, Nat.reduceLeDiff, Nat.reduceBEq, Int.reduceToNat, Int.reduceLE, Int.reduceLT, Int.reduceEq, Int.reduceNe, di]
    repeat (refine And.intro (by first | omega | exact all_int _ | (simp only [zeros_len, List.length_append, List.length_take, List.length_drop, List.length_set, List.length_cons, List.length_nil, List.length_map]; omega)) ?_)
    rw [wrap64 (n := (i : Int) + 1) (by omega) (by omega)]
    refine ih2 (i + 1) _ _ (by omega) (by omega) ?_
    rw [fwK_step, bwK_step, ← List.append_assoc, ← List.append_assoc, List.map_append (l₁ := fwA (opn x) h f j ++ fwK (opn x) h f j i), List.map_append (l₁ := bwA (opn x) h f j ++ bwK (opn x) h f j i)]
    simp only [vaE, ↓reduceIte, reduceCtorEq, Nat.reduceEqDiff, Nat.reduceAdd, Nat.reduceMul, Nat.reduceSub, Nat.reduceLeDiff, Nat.reduceBEq, Int.reduceToNat, Int.reduceLE, Int.reduceLT, Int.reduceEq, Int.reduceNe, di] <;> rfl
   ·rename_i hge2
    have hie : i = (x.pp.getD j default).1.toNat := by omega
    subst hie
    clear ih2
    have hT : 0 ≤ h * (x.pp.getD j default).1 ∧ h * (x.pp.getD j default).1 ≤ 18 := by
     have : (x.pp.getD j default).1 ≤ 6 := by omega
     rcases (show h = 0 ∨ h = 1 ∨ h = 2 ∨ h = 3 by omega) with e | e | e | e <;> rw [e] <;> omega
    rw [wrap64 (n := h * (x.pp.getD j default).1) (by omega) (by omega)]
    refine calls_of w_cosine ?_; simp only [vaE, res78, b78k0, b78k1, b78k2, b78k3, b78k4, b78k5, b78k6, b78k7, b78k8, ↓reduceIte, reduceCtorEq, Nat.reduceEqDiff, Nat.reduceAdd, Nat.reduceMul, Nat.reduceSub, Nat.reduceLeDiff, Nat.reduceBEq, Int.reduceToNat, Int.reduceLE, Int.reduceLT, Int.reduceEq, Int.reduceNe, di]
    rw [wrap64 (n := h * (x.pp.getD j default).1) (by omega) (by omega)]
    refine calls_of w_sine ?_; simp only [vaE, res78, b78k0, b78k1, b78k2, b78k3, b78k4, b78k5, b78k6, b78k7, b78k8, ↓reduceIte, reduceCtorEq, Nat.reduceEqDiff, Nat.reduceAdd, Nat.reduceMul, Nat.reduceSub, Nat.reduceLeDiff, Nat.reduceBEq, Int.reduceToNat, Int.reduceLE, Int.reduceLT, Int.reduceEq, Int.reduceNe, di]
    have hcT := nrm_cos (h * (x.pp.getD j default).1)
    have hsT := nrm_sin (h * (x.pp.getD j default).1)
    have hy : nrm ((x.pp.getD j default).2, 0) ≤ 10 := by rw [nrm_real]; omega
    have cy : CC (FloatKind.f64.nearest (x.pp.getD j default).2) 0 ((x.pp.getD j default).2, 0) := ⟨i2f_F (by unfold Fl.Sm; omega), F_zero⟩
    have n5 := nrm_mul_le (show nrm (0, 1) ≤ 1 by decide) hsT
    have n6 := nrm_mul_le n5 hy
    obtain ⟨a4, b4, e4, c4⟩ := mulC (CC_cos (h * (x.pp.getD j default).1)) hcp (Bd_mul hcT s1); simp only [e1, e2, e3, e4, vaE, ↓reduceIte, reduceCtorEq, Nat.reduceEqDiff, Nat.reduceAdd, Nat.reduceMul, Nat.reduceSub, Nat.reduceLeDiff, Nat.reduceBEq, Int.reduceToNat, Int.reduceLE, Int.reduceLT, Int.reduceEq, Int.reduceNe, di]
    obtain ⟨a5, b5, e5, c5⟩ := mulC CC_i (CC_sin (h * (x.pp.getD j default).1)) (Bd_mul (show nrm (0, 1) ≤ 1 by decide) hsT); simp only [e1, e2, e3, e4, e5, vaE, ↓reduceIte, reduceCtorEq, Nat.reduceEqDiff, Nat.reduceAdd, Nat.reduceMul, Nat.reduceSub, Nat.reduceLeDiff, Nat.reduceBEq, Int.reduceToNat, Int.reduceLE, Int.reduceLT, Int.reduceEq, Int.reduceNe, di]
    obtain ⟨a6, b6, e6, c6⟩ := mulC c5 cf (Bd_mul n5 w1); simp only [e1, e2, e3, e4, e5, e6, vaE, ↓reduceIte, reduceCtorEq, Nat.reduceEqDiff, Nat.reduceAdd, Nat.reduceMul, Nat.reduceSub, Nat.reduceLeDiff, Nat.reduceBEq, Int.reduceToNat, Int.reduceLE, Int.reduceLT, Int.reduceEq, Int.reduceNe, di]
    have n7 := nrm_mul_le hcT s1
    have n8 := nrm_mul_le n5 w1
    obtain ⟨a7, b7, e7, c7⟩ := subC c4 c6 (by unfold Bd; omega); simp only [e1, e2, e3, e4, e5, e6, e7, vaE, ↓reduceIte, reduceCtorEq, Nat.reduceEqDiff, Nat.reduceAdd, Nat.reduceMul, Nat.reduceSub, Nat.reduceLeDiff, Nat.reduceBEq, Int.reduceToNat, Int.reduceLE, Int.reduceLT, Int.reduceEq, Int.reduceNe, di]
    obtain ⟨a8, b8, e8, c8⟩ := mulC (CC_cos (h * (x.pp.getD j default).1)) hcq2 (Bd_mul hcT s2); simp only [e1, e2, e3, e4, e5, e6, e7, e8, vaE, ↓reduceIte, reduceCtorEq, Nat.reduceEqDiff, Nat.reduceAdd, Nat.reduceMul, Nat.reduceSub, Nat.reduceLeDiff, Nat.reduceBEq, Int.reduceToNat, Int.reduceLE, Int.reduceLT, Int.reduceEq, Int.reduceNe, di]
    obtain ⟨a9, b9, e9, c9⟩ := mulC c5 cy (Bd_mul n5 hy); simp only [e1, e2, e3, e4, e5, e6, e7, e8, e9, vaE, ↓reduceIte, reduceCtorEq, Nat.reduceEqDiff, Nat.reduceAdd, Nat.reduceMul, Nat.reduceSub, Nat.reduceLeDiff, Nat.reduceBEq, Int.reduceToNat, Int.reduceLE, Int.reduceLT, Int.reduceEq, Int.reduceNe, di]
    obtain ⟨a10, b10, e10, c10⟩ := mulC c9 hcp (Bd_mul n6 s1); simp only [e1, e2, e3, e4, e5, e6, e7, e8, e9, e10, vaE, ↓reduceIte, reduceCtorEq, Nat.reduceEqDiff, Nat.reduceAdd, Nat.reduceMul, Nat.reduceSub, Nat.reduceLeDiff, Nat.reduceBEq, Int.reduceToNat, Int.reduceLE, Int.reduceLT, Int.reduceEq, Int.reduceNe, di]
    have n9 := nrm_mul_le hcT s2
    have n10 := nrm_mul_le n6 s1
    obtain ⟨a11, b11, e11, c11⟩ := subC c8 c10 (by unfold Bd; omega); simp only [e1, e2, e3, e4, e5, e6, e7, e8, e9, e10, e11, vaE, ↓reduceIte, reduceCtorEq, Nat.reduceEqDiff, Nat.reduceAdd, Nat.reduceMul, Nat.reduceSub, Nat.reduceLeDiff, Nat.reduceBEq, Int.reduceToNat, Int.reduceLE, Int.reduceLT, Int.reduceEq, Int.reduceNe, di]
    have hthr := prog_thr (y := (x.pp.getD j default).2) (T := h * (x.pp.getD j default).1) (p := (stF (opn x) h f j).1) (q := (stF (opn x) h f j).2)
    rw [show thrA (x.pp.getD j default).2 (h * (x.pp.getD j default).1) ((stF (opn x) h f j).1, (stF (opn x) h f j).2) = afF (opn x) h f j from st_af how hlt, Prod.ext_iff] at hthr
    have c7 : CC a7 b7 (afF (opn x) h f j).1 := by rw [← hthr.1]; exact c7
    have c11 : CC a11 b11 (afF (opn x) h f j).2 := by rw [← hthr.2]; exact c11
    rw [wrap64 (n := (j : Int) + 1) (by omega) (by omega)]
    exact ih (j + 1, a11, b11, a7, b7) _ _ (by dsimp only; omega) ⟨by dsimp only; omega, c11, c7⟩ (by simp only [fwA, bwA, Nat.add_sub_cancel, vaE, ↓reduceIte, reduceCtorEq, Nat.reduceEqDiff, Nat.reduceAdd, Nat.reduceMul, Nat.reduceSub, Nat.reduceLeDiff, Nat.reduceBEq, Int.reduceToNat, Int.reduceLE, Int.reduceLT, Int.reduceEq, Int.reduceNe, di] <;> rfl)
 rename_i hge2
 have hje : j = x.pp.length := by omega
 obtain ⟨m, hm⟩ : ∃ m, x.pp.length = m + 1 := ⟨x.pp.length - 1, by omega⟩
 have hpm := hz.1.pip _ (getD_mem (l := x.pp) (d := default) (show m < x.pp.length by omega))
 obtain ⟨c, hcn⟩ : ∃ c : Nat, (x.pp.getD m default).1 = (c : Int) + 1 := ⟨((x.pp.getD m default).1 - 1).toNat, by omega⟩
 obtain ⟨z1, z2, z3⟩ := last_w (h := h) (f := f) how (m := m) (c := c) hm hcn
 obtain ⟨w1, w2, w3⟩ := wav_nrm (h := h) how hfn (show m < (opn x).pp.length by show m < x.pp.length; omega)
 have lb := bwA_len (h := h) (f := f) how (m + 1) (by show m + 1 ≤ x.pp.length; omega)
 have lf := fwA_len (h := h) (f := f) how (m + 1) (by show m + 1 ≤ x.pp.length; omega)
 rw [show (opn x).pp.take (m + 1) = x.pp from List.take_of_length_le (by show x.pp.length ≤ _; omega)] at lb lf
 have hnb := how.nb
 have hopn : (opn x).n = cellsN x.pp := rfl
 refine calls_of (w_last (x := opn x) (by omega)) ?_; simp only [vaE, res78, b78k0, b78k1, b78k2, b78k3, b78k4, b78k5, b78k6, b78k7, b78k8, ↓reduceIte, reduceCtorEq, Nat.reduceEqDiff, Nat.reduceAdd, Nat.reduceMul, Nat.reduceSub, Nat.reduceLeDiff, Nat.reduceBEq, Int.reduceToNat, Int.reduceLE, Int.reduceLT, Int.reduceEq, Int.reduceNe, di]
 rw [hje, hm]
 simp only [hopn]
 repeat (refine And.intro (by first | omega | exact all_int _ | (simp only [zeros_len, List.length_append, List.length_take, List.length_drop, List.length_set, List.length_cons, List.length_nil, List.length_map]; omega)) ?_)
 rw [show (bwA (opn x) h f (m + 1)).getD (cellsN x.pp - 1).toNat default = bw1 (opn x) h f m c from z1]
 have qb := w_number128 (g := bw1 (opn x) h f m c)
 have qf := w_number128 (g := fw1 (opn x) h f m c)
 simp only [gI] at qb qf
 simp only [gI, vaE, ↓reduceIte, reduceCtorEq, Nat.reduceEqDiff, Nat.reduceAdd, Nat.reduceMul, Nat.reduceSub, Nat.reduceLeDiff, Nat.reduceBEq, Int.reduceToNat, Int.reduceLE, Int.reduceLT, Int.reduceEq, Int.reduceNe, di]
 refine calls_of qb ?_; simp only [vaE, res78, b78k0, b78k1, b78k2, b78k3, b78k4, b78k5, b78k6, b78k7, b78k8, ↓reduceIte, reduceCtorEq, Nat.reduceEqDiff, Nat.reduceAdd, Nat.reduceMul, Nat.reduceSub, Nat.reduceLeDiff, Nat.reduceBEq, Int.reduceToNat, Int.reduceLE, Int.reduceLT, Int.reduceEq, Int.reduceNe, di]
 repeat (refine And.intro (by first | omega | exact all_int _ | (simp only [zeros_len, List.length_append, List.length_take, List.length_drop, List.length_set, List.length_cons, List.length_nil, List.length_map]; omega)) ?_)
 rw [show (fwA (opn x) h f (m + 1)).getD (cellsN x.pp - 1).toNat default = fw1 (opn x) h f m c from z2]
 simp only [gI, vaE, ↓reduceIte, reduceCtorEq, Nat.reduceEqDiff, Nat.reduceAdd, Nat.reduceMul, Nat.reduceSub, Nat.reduceLeDiff, Nat.reduceBEq, Int.reduceToNat, Int.reduceLE, Int.reduceLT, Int.reduceEq, Int.reduceNe, di]
 refine calls_of qf ?_; simp only [vaE, res78, b78k0, b78k1, b78k2, b78k3, b78k4, b78k5, b78k6, b78k7, b78k8, ↓reduceIte, reduceCtorEq, Nat.reduceEqDiff, Nat.reduceAdd, Nat.reduceMul, Nat.reduceSub, Nat.reduceLeDiff, Nat.reduceBEq, Int.reduceToNat, Int.reduceLE, Int.reduceLT, Int.reduceEq, Int.reduceNe, di]
 rw [wrap64 (n := 0 - h) (by omega) (by omega), Int.zero_sub]
 refine calls_of w_turn ?_; simp only [vaE, res78, b78k0, b78k1, b78k2, b78k3, b78k4, b78k5, b78k6, b78k7, b78k8, ↓reduceIte, reduceCtorEq, Nat.reduceEqDiff, Nat.reduceAdd, Nat.reduceMul, Nat.reduceSub, Nat.reduceLeDiff, Nat.reduceBEq, Int.reduceToNat, Int.reduceLE, Int.reduceLT, Int.reduceEq, Int.reduceNe, di]
 have nb : nrm (bw1 (opn x) h f m c) ≤ 550000000000 := by unfold bw1; rw [nrm_tmul]; exact w3
 have nf : nrm (fw1 (opn x) h f m c) ≤ 550000000000 := by unfold fw1; rw [nrm_tmul]; exact w2
 have cb : CC (nA (bw1 (opn x) h f m c)) (nB (bw1 (opn x) h f m c)) (bw1 (opn x) h f m c) := CC_near (Bd_le nb)
 have cf : CC (nA (fw1 (opn x) h f m c)) (nB (fw1 (opn x) h f m c)) (fw1 (opn x) h f m c) := CC_near (Bd_le nf)
 obtain ⟨a2, b2, e2, c2⟩ := mulC cf (CC_turn (-h)) (by rw [nrm_turn]; unfold Bd; omega); simp only [e1, e2, vaE, ↓reduceIte, reduceCtorEq, Nat.reduceEqDiff, Nat.reduceAdd, Nat.reduceMul, Nat.reduceSub, Nat.reduceLeDiff, Nat.reduceBEq, Int.reduceToNat, Int.reduceLE, Int.reduceLT, Int.reduceEq, Int.reduceNe, di]
 have n2 := nrm_mul_le nf (show nrm (turnG (-h)) ≤ 1 by rw [nrm_turn]; exact Nat.le_refl _)
 obtain ⟨a3, b3, e3, c3⟩ := subC cb c2 (by unfold Bd; omega); simp only [e1, e2, e3, vaE, ↓reduceIte, reduceCtorEq, Nat.reduceEqDiff, Nat.reduceAdd, Nat.reduceMul, Nat.reduceSub, Nat.reduceLeDiff, Nat.reduceBEq, Int.reduceToNat, Int.reduceLE, Int.reduceLT, Int.reduceEq, Int.reduceNe, di]
 have n3 := nrm_sub (bw1 (opn x) h f m c) (gmul (fw1 (opn x) h f m c) (turnG (-h)))
 have q3 := w_whole c3 (by unfold Bd; omega)
 rw [z3] at q3
 simp only [gI] at q3
 refine calls_of q3 ?_; simp only [vaE, res78, b78k0, b78k1, b78k2, b78k3, b78k4, b78k5, b78k6, b78k7, b78k8, ↓reduceIte, reduceCtorEq, Nat.reduceEqDiff, Nat.reduceAdd, Nat.reduceMul, Nat.reduceSub, Nat.reduceLeDiff, Nat.reduceBEq, Int.reduceToNat, Int.reduceLE, Int.reduceLT, Int.reduceEq, Int.reduceNe, di]
 have hst : styF (opn x) h f = ⟨h, fwA (opn x) h f (m + 1), bwA (opn x) h f (m + 1), leA (opn x) h f m, cl1 (opn x) h f m⟩ := by
  unfold styF
  rw [show (opn x).pp.length = m + 1 from hm, show (opn x).ar.length = m by show x.ar.length = m; omega]
  rfl
 rw [hst]
 rfl
end Go.DI

