/- Contracts of impedances and resonances. No condition. -/
import Derived.Test.YtadmimjaelodkaaWoGi
/- Contracts: the matrix of a line in lowest terms, the impedance, resonances. No condition. -/
set_option linter.unusedSimpArgs false
set_option maxRecDepth 100000
namespace Go.DI
open Go.Proofs Go.RowKit

def B62 (n : Int) : Prop := -4611686018427387904 ≤ n ∧ n ≤ 4611686018427387904
theorem w_divisor {l : List Int} (hl : l.length ≤ 1000000) (hb : ∀ n ∈ l, B62 n) : Contract Try.prog 101 [nI l] (.int .i64 (gcdS l)) := by
 refine contract_run Try.func101 k101 rfl ?_
 simp only [body101, b101, res101, b101k0, b101k1, b101k2, b101k3, vaE, ↓reduceIte, reduceCtorEq, Nat.reduceEqDiff, Nat.reduceAdd, Nat.reduceMul, Nat.reduceSub, Nat.reduceLeDiff, Nat.reduceBEq, Int.reduceToNat, Int.reduceLE, Int.reduceLT, Int.reduceEq, Int.reduceNe, di]
 refine loop_keep (α := Nat × Int) rfl (fun q => l.length - q.1) (fun q => q.1 ≤ l.length ∧ B62 q.2 ∧ (gcdL q.2 (l.drop q.1)).natAbs = (gcdS l).natAbs)
  (fun q => [(3, .imm (.int .i64 q.2)), (6, .imm (nI l)), (7, .imm (.int .i64 l.length)), (8, .imm (.int .i64 q.1))]) (fun _ => []) (0, 0) ⟨Nat.zero_le _, by unfold B62; omega, rfl⟩ (by simp only [vaE, ↓reduceIte, reduceCtorEq, Nat.reduceEqDiff, Nat.reduceAdd, Nat.reduceMul, Nat.reduceSub, Nat.reduceLeDiff, Nat.reduceBEq, Int.reduceToNat, Int.reduceLE, Int.reduceLT, Int.reduceEq, Int.reduceNe, di] <;> rfl) ?_
 rintro ⟨i, a⟩ ⟨hi, ha, hg⟩ ih
 dsimp only at hi ha hg ⊢
 simp only [res101, b101k0, b101k1, b101k2, b101k3, vaE, ↓reduceIte, reduceCtorEq, Nat.reduceEqDiff, Nat.reduceAdd, Nat.reduceMul, Nat.reduceSub, Nat.reduceLeDiff, Nat.reduceBEq, Int.reduceToNat, Int.reduceLE, Int.reduceLT, Int.reduceEq, Int.reduceNe, di]
 split
 ·rename_i h
  have hlt : i < l.length := by omega
  have hbn := hb _ (getD_mem (d := 0) hlt)
  rw [getD_drop hlt] at hg
  repeat (refine And.intro (by omega) ?_)
  refine loop_keep (α := Int × Int) rfl (fun q => q.2.natAbs) (fun q => B62 q.1 ∧ B62 q.2 ∧ gcdE q.1 q.2 = gcdE a (l.getD i 0))
   (fun q => [(3, .imm (.int .i64 q.1)), (5, .imm (.int .i64 q.2)), (6, .imm (nI l)), (7, .imm (.int .i64 l.length)), (8, .imm (.int .i64 i))]) (fun _ => []) (a, l.getD i 0) ⟨ha, hbn, rfl⟩ (by simp only [vaE, ↓reduceIte, reduceCtorEq, Nat.reduceEqDiff, Nat.reduceAdd, Nat.reduceMul, Nat.reduceSub, Nat.reduceLeDiff, Nat.reduceBEq, Int.reduceToNat, Int.reduceLE, Int.reduceLT, Int.reduceEq, Int.reduceNe, di] <;> rfl) ?_
  rintro ⟨u, v⟩ ⟨hu, hv, he⟩ ih2
  dsimp only at hu hv he ⊢
  simp only [res101, b101k0, b101k1, b101k2, b101k3, vaE, ↓reduceIte, reduceCtorEq, Nat.reduceEqDiff, Nat.reduceAdd, Nat.reduceMul, Nat.reduceSub, Nat.reduceLeDiff, Nat.reduceBEq, Int.reduceToNat, Int.reduceLE, Int.reduceLT, Int.reduceEq, Int.reduceNe, di]
  split
  ·rename_i hv0
   subst hv0
   rw [gcdE_zero] at he
   rw [wrap64 (by omega) (by omega)]
   refine ih (i + 1, u) _ _ (by dsimp only; omega) ⟨by dsimp only; omega, hu, ?_⟩ (by simp only [vaE, ↓reduceIte, reduceCtorEq, Nat.reduceEqDiff, Nat.reduceAdd, Nat.reduceMul, Nat.reduceSub, Nat.reduceLeDiff, Nat.reduceBEq, Int.reduceToNat, Int.reduceLE, Int.reduceLT, Int.reduceEq, Int.reduceNe, di] <;> rfl)
   dsimp only
   rw [gcdL_abs, he]
   exact hg
  ·rename_i hv0
   have hm := Int.tmod_eq_emod (a := u) (b := v)
   have hlt2 : (u.tmod v).natAbs < v.natAbs := by
    rw [Int.natAbs_tmod]
    exact Nat.mod_lt _ (by omega)
   have hbm : B62 (u.tmod v) := by unfold B62 at hv ⊢; omega
   refine ⟨hv0, ?_⟩
   exact ih2 (v, u.tmod v) _ _ hlt2 ⟨hv, hbm, by rw [gcdE_step]; exact he⟩ (by simp only [vaE, ↓reduceIte, reduceCtorEq, Nat.reduceEqDiff, Nat.reduceAdd, Nat.reduceMul, Nat.reduceSub, Nat.reduceLeDiff, Nat.reduceBEq, Int.reduceToNat, Int.reduceLE, Int.reduceLT, Int.reduceEq, Int.reduceNe, di] <;> rfl)
 ·rename_i h
  have : i = l.length := by omega
  subst this
  rw [List.drop_length] at hg
  have hg : a.natAbs = (gcdS l).natAbs := hg
  have h0 := gcdL_nonneg l 0 (by omega)
  have h1 : 0 ≤ gcdS l := h0
  unfold B62 at ha
  rw [wrap64 (by omega) (by omega)]
  congr 2
  omega

theorem tdiv_bd {a n : Int} (h : B62 a) : B62 (a.tdiv n) := by
 unfold B62 at h ⊢
 have := Int.natAbs_tdiv a n
 have h2 : (a.tdiv n).natAbs ≤ a.natAbs := by rw [this]; exact Nat.div_le_self _ _
 omega
theorem w_over {g : Ga} {n : Int} (h1 : B62 g.1) (h2 : B62 g.2) (hn : n ≠ 0) : Contract Try.prog 102 [gI g, .int .i64 n] (gI (govr g n)) := by
 have b1 := tdiv_bd (n := n) h1
 have b2 := tdiv_bd (n := n) h2
 unfold B62 at b1 b2
 refine contract_run Try.func102 k102 rfl ?_
 simp only [body102, b102, res102, gI, vaE, ↓reduceIte, reduceCtorEq, Nat.reduceEqDiff, Nat.reduceAdd, Nat.reduceMul, Nat.reduceSub, Nat.reduceLeDiff, Nat.reduceBEq, Int.reduceToNat, Int.reduceLE, Int.reduceLT, Int.reduceEq, Int.reduceNe, di]
 rw [wrap64 (by omega) (by omega), wrap64 (by omega) (by omega)]
 exact ⟨hn, hn, rfl⟩

theorem w_quarterErr {h : Int} : Contract Try.prog 134 [.int .i64 h] (.int .i64 (quarterE h)) := by
 refine contract_run Try.func134 k134 rfl ?_
 simp only [body134, b134, res134, ↓reduceIte, reduceCtorEq, Nat.reduceEqDiff, Nat.reduceAdd, Nat.reduceMul, Nat.reduceSub, Nat.reduceLeDiff, Nat.reduceBEq, Int.reduceToNat, Int.reduceLE, Int.reduceLT, Int.reduceEq, Int.reduceNe, di]
 refine calls_of w_within ?_; simp only [res134, ↓reduceIte, reduceCtorEq, Nat.reduceEqDiff, Nat.reduceAdd, Nat.reduceMul, Nat.reduceSub, Nat.reduceLeDiff, Nat.reduceBEq, Int.reduceToNat, Int.reduceLE, Int.reduceLT, Int.reduceEq, Int.reduceNe, di]
 refine calls_of w_unless ?_; simp only [res134, ↓reduceIte, reduceCtorEq, Nat.reduceEqDiff, Nat.reduceAdd, Nat.reduceMul, Nat.reduceSub, Nat.reduceLeDiff, Nat.reduceBEq, Int.reduceToNat, Int.reduceLE, Int.reduceLT, Int.reduceEq, Int.reduceNe, di]
 unfold quarterE
 simp
theorem w_openQuarter {x : Ln} {h : Int} (hx : Few x) : Contract Try.prog 98 [lnI x, .int .i64 h] (.tup [owI (opnE x), .int .i64 (matE x h)]) := by
 refine contract_run Try.func98 k98 rfl ?_
 simp only [body98, b98, res98, vaE, ↓reduceIte, reduceCtorEq, Nat.reduceEqDiff, Nat.reduceAdd, Nat.reduceMul, Nat.reduceSub, Nat.reduceLeDiff, Nat.reduceBEq, Int.reduceToNat, Int.reduceLE, Int.reduceLT, Int.reduceEq, Int.reduceNe, di]
 refine calls_of (w_open' hx) ?_; simp only [vaE, res98, ↓reduceIte, reduceCtorEq, Nat.reduceEqDiff, Nat.reduceAdd, Nat.reduceMul, Nat.reduceSub, Nat.reduceLeDiff, Nat.reduceBEq, Int.reduceToNat, Int.reduceLE, Int.reduceLT, Int.reduceEq, Int.reduceNe, di]
 refine calls_of w_quarterErr ?_; simp only [vaE, res98, ↓reduceIte, reduceCtorEq, Nat.reduceEqDiff, Nat.reduceAdd, Nat.reduceMul, Nat.reduceSub, Nat.reduceLeDiff, Nat.reduceBEq, Int.reduceToNat, Int.reduceLE, Int.reduceLT, Int.reduceEq, Int.reduceNe, di]
 refine calls_of (w_first (l := [(chkL x).2, quarterE h]) (by simp)) ?_; simp only [vaE, res98, ↓reduceIte, reduceCtorEq, Nat.reduceEqDiff, Nat.reduceAdd, Nat.reduceMul, Nat.reduceSub, Nat.reduceLeDiff, Nat.reduceBEq, Int.reduceToNat, Int.reduceLE, Int.reduceLT, Int.reduceEq, Int.reduceNe, di]
 rw [firstNZ_two]
 rfl
theorem matE_zero {x : Ln} {h : Int} : matE x h = 0 ↔ LineOk x ∧ 0 ≤ h ∧ h ≤ 3 := by
 unfold matE quarterE
 rw [fstE_zero, chkL_ok, ite_zero (by decide)]
def mxI (m : Mx) : IV := .agg [.int .i64 m.a.1, .int .i64 m.a.2, .int .i64 m.b.1, .int .i64 m.b.2, .int .i64 m.c.1, .int .i64 m.c.2, .int .i64 m.d.1, .int .i64 m.d.2, .int .i64 m.den]
def zeroM : Mx := ⟨(0, 0), (0, 0), (0, 0), (0, 0), 0⟩
theorem part_B62 {g : Ga} {n : Nat} (h : nrm g ≤ n) (hn : n ≤ 4611686018427387904) : B62 g.1 ∧ B62 g.2 := by
 unfold nrm at h; unfold B62; omega
theorem w_MatrixOf {x : Ln} {h : Int} (hx : Few x) : Contract Try.prog 42 [lnI x, .int .i64 h] (if matE x h = 0 then .tup [mxI (lowM (lineMat (opn x) h)), .int .i64 0] else .tup [mxI zeroM, .int .i64 (matE x h)]) := by
 refine contract_run Try.func42 k42 rfl ?_
 simp only [body42, b42, res42, b42k0, b42k1, b42k2, b42k3, b42k4, vaE, ↓reduceIte, reduceCtorEq, Nat.reduceEqDiff, Nat.reduceAdd, Nat.reduceMul, Nat.reduceSub, Nat.reduceLeDiff, Nat.reduceBEq, Int.reduceToNat, Int.reduceLE, Int.reduceLT, Int.reduceEq, Int.reduceNe, di]
 refine calls_of (w_openQuarter hx) ?_; simp only [vaE, res42, b42k0, b42k1, b42k2, b42k3, b42k4, ↓reduceIte, reduceCtorEq, Nat.reduceEqDiff, Nat.reduceAdd, Nat.reduceMul, Nat.reduceSub, Nat.reduceLeDiff, Nat.reduceBEq, Int.reduceToNat, Int.reduceLE, Int.reduceLT, Int.reduceEq, Int.reduceNe, di]
 split
 rotate_left
 ·rfl
 rename_i h0
 have hz := matE_zero.1 h0
 have hox : opnE x = opn x := by unfold opnE; rw [if_pos (chkL_ok.2 hz.1)]
 have how := opn_ok hz.1
 rw [hox]
 obtain ⟨r, hr, hc⟩ := w_matrix (x := opn x) (h := h) how hz.2
 obtain ⟨q, rfl, hq1, hq2, hq3, hq4⟩ := MI_bits hr
 obtain ⟨hb, hd1, hd2⟩ := lineMat_bd (x := opn x) (h := h) how
 generalize lineMat (opn x) h = M at *
 simp only [MBits.iv] at hc
 refine calls_of hc ?_; simp only [vaE, res42, b42k0, b42k1, b42k2, b42k3, b42k4, ↓reduceIte, reduceCtorEq, Nat.reduceEqDiff, Nat.reduceAdd, Nat.reduceMul, Nat.reduceSub, Nat.reduceLeDiff, Nat.reduceBEq, Int.reduceToNat, Int.reduceLE, Int.reduceLT, Int.reduceEq, Int.reduceNe, di]
 have bd : ∀ {g : Ga}, nrm g ≤ 9173385100000 → Bd (nrm g) := fun k => by unfold Bd; omega
 repeat (refine And.intro (by decide) ?_)
 refine calls_of (w_whole hq1 (bd hb.a)) ?_; simp only [vaE, res42, b42k0, b42k1, b42k2, b42k3, b42k4, ↓reduceIte, reduceCtorEq, Nat.reduceEqDiff, Nat.reduceAdd, Nat.reduceMul, Nat.reduceSub, Nat.reduceLeDiff, Nat.reduceBEq, Int.reduceToNat, Int.reduceLE, Int.reduceLT, Int.reduceEq, Int.reduceNe, di]
 simp only [gI, vaE, ↓reduceIte, reduceCtorEq, Nat.reduceEqDiff, Nat.reduceAdd, Nat.reduceMul, Nat.reduceSub, Nat.reduceLeDiff, Nat.reduceBEq, Int.reduceToNat, Int.reduceLE, Int.reduceLT, Int.reduceEq, Int.reduceNe, di]
 repeat (refine And.intro (by decide) ?_)
 refine calls_of (w_whole hq2 (bd hb.b)) ?_; simp only [vaE, res42, b42k0, b42k1, b42k2, b42k3, b42k4, ↓reduceIte, reduceCtorEq, Nat.reduceEqDiff, Nat.reduceAdd, Nat.reduceMul, Nat.reduceSub, Nat.reduceLeDiff, Nat.reduceBEq, Int.reduceToNat, Int.reduceLE, Int.reduceLT, Int.reduceEq, Int.reduceNe, di]
 simp only [gI, vaE, ↓reduceIte, reduceCtorEq, Nat.reduceEqDiff, Nat.reduceAdd, Nat.reduceMul, Nat.reduceSub, Nat.reduceLeDiff, Nat.reduceBEq, Int.reduceToNat, Int.reduceLE, Int.reduceLT, Int.reduceEq, Int.reduceNe, di]
 repeat (refine And.intro (by decide) ?_)
 refine calls_of (w_whole hq3 (bd hb.c)) ?_; simp only [vaE, res42, b42k0, b42k1, b42k2, b42k3, b42k4, ↓reduceIte, reduceCtorEq, Nat.reduceEqDiff, Nat.reduceAdd, Nat.reduceMul, Nat.reduceSub, Nat.reduceLeDiff, Nat.reduceBEq, Int.reduceToNat, Int.reduceLE, Int.reduceLT, Int.reduceEq, Int.reduceNe, di]
 simp only [gI, vaE, ↓reduceIte, reduceCtorEq, Nat.reduceEqDiff, Nat.reduceAdd, Nat.reduceMul, Nat.reduceSub, Nat.reduceLeDiff, Nat.reduceBEq, Int.reduceToNat, Int.reduceLE, Int.reduceLT, Int.reduceEq, Int.reduceNe, di]
 repeat (refine And.intro (by decide) ?_)
 refine calls_of (w_whole hq4 (bd hb.d)) ?_; simp only [vaE, res42, b42k0, b42k1, b42k2, b42k3, b42k4, ↓reduceIte, reduceCtorEq, Nat.reduceEqDiff, Nat.reduceAdd, Nat.reduceMul, Nat.reduceSub, Nat.reduceLeDiff, Nat.reduceBEq, Int.reduceToNat, Int.reduceLE, Int.reduceLT, Int.reduceEq, Int.reduceNe, di]
 simp only [gI, vaE, ↓reduceIte, reduceCtorEq, Nat.reduceEqDiff, Nat.reduceAdd, Nat.reduceMul, Nat.reduceSub, Nat.reduceLeDiff, Nat.reduceBEq, Int.reduceToNat, Int.reduceLE, Int.reduceLT, Int.reduceEq, Int.reduceNe, di]
 have pa := part_B62 hb.a (by decide)
 have pb := part_B62 hb.b (by decide)
 have pc := part_B62 hb.c (by decide)
 have pd := part_B62 hb.d (by decide)
 obtain ⟨⟨g1, g1'⟩, ⟨g2, g2'⟩, ⟨g3, g3'⟩, g4, g4'⟩ := redG_bd hd1
 have m3 : ∀ {d u v : Int}, 1 ≤ d → d ≤ M.den → B62 u → B62 v → ∀ n ∈ [d, u, v], B62 n := by
  intro d u v h1 h2 hu hv n hn
  simp only [List.mem_cons, List.not_mem_nil, or_false] at hn
  rcases hn with rfl | rfl | rfl
  ·unfold B62; omega
  ·exact hu
  ·exact hv
 refine run_round rfl ?_
 simp only [res42, b42k0, b42k1, b42k2, b42k3, b42k4, wr01, wr12, wr23, wr34, vaE, ↓reduceIte, reduceCtorEq, Nat.reduceEqDiff, Nat.reduceAdd, Nat.reduceMul, Nat.reduceSub, Nat.reduceLeDiff, Nat.reduceBEq, Int.reduceToNat, Int.reduceLE, Int.reduceLT, Int.reduceEq, Int.reduceNe, di]
 repeat (refine And.intro (by decide) ?_)
 refine calls_of (w_divisor (l := [M.den, M.a.1, M.a.2]) (by simp) (m3 hd1 (Int.le_refl _) pa.1 pa.2)) ?_; simp only [vaE, res42, b42k0, b42k1, b42k2, b42k3, b42k4, ↓reduceIte, reduceCtorEq, Nat.reduceEqDiff, Nat.reduceAdd, Nat.reduceMul, Nat.reduceSub, Nat.reduceLeDiff, Nat.reduceBEq, Int.reduceToNat, Int.reduceLE, Int.reduceLT, Int.reduceEq, Int.reduceNe, di]
 rw [show gcdS [M.den, M.a.1, M.a.2] = redG1 M from rfl]
 simp only [wr01, wr12, wr23, wr34, vaE, ↓reduceIte, reduceCtorEq, Nat.reduceEqDiff, Nat.reduceAdd, Nat.reduceMul, Nat.reduceSub, Nat.reduceLeDiff, Nat.reduceBEq, Int.reduceToNat, Int.reduceLE, Int.reduceLT, Int.reduceEq, Int.reduceNe, di]
 refine run_round rfl ?_
 simp only [res42, b42k0, b42k1, b42k2, b42k3, b42k4, wr01, wr12, wr23, wr34, vaE, ↓reduceIte, reduceCtorEq, Nat.reduceEqDiff, Nat.reduceAdd, Nat.reduceMul, Nat.reduceSub, Nat.reduceLeDiff, Nat.reduceBEq, Int.reduceToNat, Int.reduceLE, Int.reduceLT, Int.reduceEq, Int.reduceNe, di]
 repeat (refine And.intro (by decide) ?_)
 refine calls_of (w_divisor (l := [redG1 M, M.b.1, M.b.2]) (by simp) (m3 g1 g1' pb.1 pb.2)) ?_; simp only [vaE, res42, b42k0, b42k1, b42k2, b42k3, b42k4, ↓reduceIte, reduceCtorEq, Nat.reduceEqDiff, Nat.reduceAdd, Nat.reduceMul, Nat.reduceSub, Nat.reduceLeDiff, Nat.reduceBEq, Int.reduceToNat, Int.reduceLE, Int.reduceLT, Int.reduceEq, Int.reduceNe, di]
 rw [show gcdS [redG1 M, M.b.1, M.b.2] = redG2 M from rfl]
 simp only [wr01, wr12, wr23, wr34, vaE, ↓reduceIte, reduceCtorEq, Nat.reduceEqDiff, Nat.reduceAdd, Nat.reduceMul, Nat.reduceSub, Nat.reduceLeDiff, Nat.reduceBEq, Int.reduceToNat, Int.reduceLE, Int.reduceLT, Int.reduceEq, Int.reduceNe, di]
 refine run_round rfl ?_
 simp only [res42, b42k0, b42k1, b42k2, b42k3, b42k4, wr01, wr12, wr23, wr34, vaE, ↓reduceIte, reduceCtorEq, Nat.reduceEqDiff, Nat.reduceAdd, Nat.reduceMul, Nat.reduceSub, Nat.reduceLeDiff, Nat.reduceBEq, Int.reduceToNat, Int.reduceLE, Int.reduceLT, Int.reduceEq, Int.reduceNe, di]
 repeat (refine And.intro (by decide) ?_)
 refine calls_of (w_divisor (l := [redG2 M, M.c.1, M.c.2]) (by simp) (m3 g2 g2' pc.1 pc.2)) ?_; simp only [vaE, res42, b42k0, b42k1, b42k2, b42k3, b42k4, ↓reduceIte, reduceCtorEq, Nat.reduceEqDiff, Nat.reduceAdd, Nat.reduceMul, Nat.reduceSub, Nat.reduceLeDiff, Nat.reduceBEq, Int.reduceToNat, Int.reduceLE, Int.reduceLT, Int.reduceEq, Int.reduceNe, di]
 rw [show gcdS [redG2 M, M.c.1, M.c.2] = redG3 M from rfl]
 simp only [wr01, wr12, wr23, wr34, vaE, ↓reduceIte, reduceCtorEq, Nat.reduceEqDiff, Nat.reduceAdd, Nat.reduceMul, Nat.reduceSub, Nat.reduceLeDiff, Nat.reduceBEq, Int.reduceToNat, Int.reduceLE, Int.reduceLT, Int.reduceEq, Int.reduceNe, di]
 refine run_round rfl ?_
 simp only [res42, b42k0, b42k1, b42k2, b42k3, b42k4, wr01, wr12, wr23, wr34, vaE, ↓reduceIte, reduceCtorEq, Nat.reduceEqDiff, Nat.reduceAdd, Nat.reduceMul, Nat.reduceSub, Nat.reduceLeDiff, Nat.reduceBEq, Int.reduceToNat, Int.reduceLE, Int.reduceLT, Int.reduceEq, Int.reduceNe, di]
 repeat (refine And.intro (by decide) ?_)
 refine calls_of (w_divisor (l := [redG3 M, M.d.1, M.d.2]) (by simp) (m3 g3 g3' pd.1 pd.2)) ?_; simp only [vaE, res42, b42k0, b42k1, b42k2, b42k3, b42k4, ↓reduceIte, reduceCtorEq, Nat.reduceEqDiff, Nat.reduceAdd, Nat.reduceMul, Nat.reduceSub, Nat.reduceLeDiff, Nat.reduceBEq, Int.reduceToNat, Int.reduceLE, Int.reduceLT, Int.reduceEq, Int.reduceNe, di]
 rw [show gcdS [redG3 M, M.d.1, M.d.2] = redG M from rfl]
 simp only [wr01, wr12, wr23, wr34, vaE, ↓reduceIte, reduceCtorEq, Nat.reduceEqDiff, Nat.reduceAdd, Nat.reduceMul, Nat.reduceSub, Nat.reduceLeDiff, Nat.reduceBEq, Int.reduceToNat, Int.reduceLE, Int.reduceLT, Int.reduceEq, Int.reduceNe, di]
 refine run_round rfl ?_
 simp only [res42, b42k0, b42k1, b42k2, b42k3, b42k4, wr01, wr12, wr23, wr34, vaE, ↓reduceIte, reduceCtorEq, Nat.reduceEqDiff, Nat.reduceAdd, Nat.reduceMul, Nat.reduceSub, Nat.reduceLeDiff, Nat.reduceBEq, Int.reduceToNat, Int.reduceLE, Int.reduceLT, Int.reduceEq, Int.reduceNe, di]
 refine run_round rfl ?_
 simp only [res42, b42k0, b42k1, b42k2, b42k3, b42k4, wr01, wr12, wr23, wr34, vaE, ↓reduceIte, reduceCtorEq, Nat.reduceEqDiff, Nat.reduceAdd, Nat.reduceMul, Nat.reduceSub, Nat.reduceLeDiff, Nat.reduceBEq, Int.reduceToNat, Int.reduceLE, Int.reduceLT, Int.reduceEq, Int.reduceNe, di]
 repeat (refine And.intro (by decide) ?_)
 refine calls_of (w_over (g := M.a) (n := redG M) pa.1 pa.2 (by omega)) ?_
 simp only [gI, res42, b42k0, b42k1, b42k2, b42k3, b42k4, wr01, wr12, wr23, wr34, vaE, ↓reduceIte, reduceCtorEq, Nat.reduceEqDiff, Nat.reduceAdd, Nat.reduceMul, Nat.reduceSub, Nat.reduceLeDiff, Nat.reduceBEq, Int.reduceToNat, Int.reduceLE, Int.reduceLT, Int.reduceEq, Int.reduceNe, di]
 refine run_round rfl ?_
 simp only [res42, b42k0, b42k1, b42k2, b42k3, b42k4, wr01, wr12, wr23, wr34, vaE, ↓reduceIte, reduceCtorEq, Nat.reduceEqDiff, Nat.reduceAdd, Nat.reduceMul, Nat.reduceSub, Nat.reduceLeDiff, Nat.reduceBEq, Int.reduceToNat, Int.reduceLE, Int.reduceLT, Int.reduceEq, Int.reduceNe, di]
 repeat (refine And.intro (by decide) ?_)
 refine calls_of (w_over (g := M.b) (n := redG M) pb.1 pb.2 (by omega)) ?_
 simp only [gI, res42, b42k0, b42k1, b42k2, b42k3, b42k4, wr01, wr12, wr23, wr34, vaE, ↓reduceIte, reduceCtorEq, Nat.reduceEqDiff, Nat.reduceAdd, Nat.reduceMul, Nat.reduceSub, Nat.reduceLeDiff, Nat.reduceBEq, Int.reduceToNat, Int.reduceLE, Int.reduceLT, Int.reduceEq, Int.reduceNe, di]
 refine run_round rfl ?_
 simp only [res42, b42k0, b42k1, b42k2, b42k3, b42k4, wr01, wr12, wr23, wr34, vaE, ↓reduceIte, reduceCtorEq, Nat.reduceEqDiff, Nat.reduceAdd, Nat.reduceMul, Nat.reduceSub, Nat.reduceLeDiff, Nat.reduceBEq, Int.reduceToNat, Int.reduceLE, Int.reduceLT, Int.reduceEq, Int.reduceNe, di]
 repeat (refine And.intro (by decide) ?_)
 refine calls_of (w_over (g := M.c) (n := redG M) pc.1 pc.2 (by omega)) ?_
 simp only [gI, res42, b42k0, b42k1, b42k2, b42k3, b42k4, wr01, wr12, wr23, wr34, vaE, ↓reduceIte, reduceCtorEq, Nat.reduceEqDiff, Nat.reduceAdd, Nat.reduceMul, Nat.reduceSub, Nat.reduceLeDiff, Nat.reduceBEq, Int.reduceToNat, Int.reduceLE, Int.reduceLT, Int.reduceEq, Int.reduceNe, di]
 refine run_round rfl ?_
 simp only [res42, b42k0, b42k1, b42k2, b42k3, b42k4, wr01, wr12, wr23, wr34, vaE, ↓reduceIte, reduceCtorEq, Nat.reduceEqDiff, Nat.reduceAdd, Nat.reduceMul, Nat.reduceSub, Nat.reduceLeDiff, Nat.reduceBEq, Int.reduceToNat, Int.reduceLE, Int.reduceLT, Int.reduceEq, Int.reduceNe, di]
 repeat (refine And.intro (by decide) ?_)
 refine calls_of (w_over (g := M.d) (n := redG M) pd.1 pd.2 (by omega)) ?_
 simp only [gI, res42, b42k0, b42k1, b42k2, b42k3, b42k4, wr01, wr12, wr23, wr34, vaE, ↓reduceIte, reduceCtorEq, Nat.reduceEqDiff, Nat.reduceAdd, Nat.reduceMul, Nat.reduceSub, Nat.reduceLeDiff, Nat.reduceBEq, Int.reduceToNat, Int.reduceLE, Int.reduceLT, Int.reduceEq, Int.reduceNe, di]
 refine run_round rfl ?_
 simp only [res42, b42k0, b42k1, b42k2, b42k3, b42k4, wr01, wr12, wr23, wr34, vaE, ↓reduceIte, reduceCtorEq, Nat.reduceEqDiff, Nat.reduceAdd, Nat.reduceMul, Nat.reduceSub, Nat.reduceLeDiff, Nat.reduceBEq, Int.reduceToNat, Int.reduceLE, Int.reduceLT, Int.reduceEq, Int.reduceNe, di]
 have hden : (M.den.tdiv (redG M)).natAbs ≤ M.den.natAbs := by rw [Int.natAbs_tdiv]; exact Nat.div_le_self _ _
 rw [wrap64 (by omega) (by omega)]
 exact ⟨by omega, rfl⟩

theorem lowM_B62 {m : Mx} {n : Nat} (hb : MB m n) (hn : n ≤ 4611686018427387904) : (B62 (lowM m).b.1 ∧ B62 (lowM m).b.2) ∧ B62 (lowM m).d.1 ∧ B62 (lowM m).d.2 := by
 have pb := part_B62 hb.b hn
 have pd := part_B62 hb.d hn
 exact ⟨⟨tdiv_bd pb.1, tdiv_bd pb.2⟩, tdiv_bd pd.1, tdiv_bd pd.2⟩
def ratI (q : Ga × Ga) : IV := .agg [.int .i64 q.1.1, .int .i64 q.1.2, .int .i64 q.2.1, .int .i64 q.2.2]
theorem w_ImpedanceAt {x : Ln} {h : Int} (hx : Few x) : Contract Try.prog 43 [lnI x, .int .i64 h]
  (if matE x h = 0 then (if (lowM (lineMat (opn x) h)).d = (0, 0) then .tup [ratI ((0, 0), (0, 0)), .int .i64 21] else .tup [ratI (impL (lowM (lineMat (opn x) h))), .int .i64 0]) else .tup [ratI ((0, 0), (0, 0)), .int .i64 (matE x h)]) := by
 have hm := w_MatrixOf (h := h) hx
 refine contract_run Try.func43 k43 rfl ?_
 simp only [body43, b43, res43, b43k0, b43k1, b43k2, vaE, ↓reduceIte, reduceCtorEq, Nat.reduceEqDiff, Nat.reduceAdd, Nat.reduceMul, Nat.reduceSub, Nat.reduceLeDiff, Nat.reduceBEq, Int.reduceToNat, Int.reduceLE, Int.reduceLT, Int.reduceEq, Int.reduceNe, di]
 by_cases h0 : matE x h = 0
 rotate_left
 ·rw [if_neg h0] at hm ⊢
  refine calls_of hm ?_; simp only [vaE, res43, b43k0, b43k1, b43k2, ↓reduceIte, reduceCtorEq, Nat.reduceEqDiff, Nat.reduceAdd, Nat.reduceMul, Nat.reduceSub, Nat.reduceLeDiff, Nat.reduceBEq, Int.reduceToNat, Int.reduceLE, Int.reduceLT, Int.reduceEq, Int.reduceNe, di]
  simp only [mxI, zeroM, vaE, ↓reduceIte, reduceCtorEq, Nat.reduceEqDiff, Nat.reduceAdd, Nat.reduceMul, Nat.reduceSub, Nat.reduceLeDiff, Nat.reduceBEq, Int.reduceToNat, Int.reduceLE, Int.reduceLT, Int.reduceEq, Int.reduceNe, di]
  refine calls_of w_unless ?_; simp only [vaE, res43, b43k0, b43k1, b43k2, ↓reduceIte, reduceCtorEq, Nat.reduceEqDiff, Nat.reduceAdd, Nat.reduceMul, Nat.reduceSub, Nat.reduceLeDiff, Nat.reduceBEq, Int.reduceToNat, Int.reduceLE, Int.reduceLT, Int.reduceEq, Int.reduceNe, di]
  refine calls_of (w_first (l := [matE x h, 21]) (by simp)) ?_; simp only [vaE, res43, b43k0, b43k1, b43k2, ↓reduceIte, reduceCtorEq, Nat.reduceEqDiff, Nat.reduceAdd, Nat.reduceMul, Nat.reduceSub, Nat.reduceLeDiff, Nat.reduceBEq, Int.reduceToNat, Int.reduceLE, Int.reduceLT, Int.reduceEq, Int.reduceNe, di]
  rw [firstNZ_two, show fstE (matE x h) 21 = matE x h from if_neg h0]
  simp only [h0, vaE, ↓reduceIte, reduceCtorEq, Nat.reduceEqDiff, Nat.reduceAdd, Nat.reduceMul, Nat.reduceSub, Nat.reduceLeDiff, Nat.reduceBEq, Int.reduceToNat, Int.reduceLE, Int.reduceLT, Int.reduceEq, Int.reduceNe, di]
  rfl
 rw [if_pos h0] at hm ⊢
 have hz := matE_zero.1 h0
 have how := opn_ok hz.1
 obtain ⟨hb, hd1, hd2⟩ := lineMat_bd (x := opn x) (h := h) how
 obtain ⟨⟨pb1, pb2⟩, pd1, pd2⟩ := lowM_B62 hb (by decide)
 generalize lowM (lineMat (opn x) h) = M at *
 refine calls_of hm ?_; simp only [vaE, res43, b43k0, b43k1, b43k2, ↓reduceIte, reduceCtorEq, Nat.reduceEqDiff, Nat.reduceAdd, Nat.reduceMul, Nat.reduceSub, Nat.reduceLeDiff, Nat.reduceBEq, Int.reduceToNat, Int.reduceLE, Int.reduceLT, Int.reduceEq, Int.reduceNe, di]
 simp only [mxI, vaE, ↓reduceIte, reduceCtorEq, Nat.reduceEqDiff, Nat.reduceAdd, Nat.reduceMul, Nat.reduceSub, Nat.reduceLeDiff, Nat.reduceBEq, Int.reduceToNat, Int.reduceLE, Int.reduceLT, Int.reduceEq, Int.reduceNe, di]
 have hdd : (decide (M.d.1 = 0) && decide (M.d.2 = 0)) = decide (M.d = (0, 0)) := by
  rw [Bool.eq_iff_iff]; simp [Prod.ext_iff]
 have hbb : (decide (M.b.1 = 0) && decide (M.b.2 = 0)) = decide (M.b = (0, 0)) := by
  rw [Bool.eq_iff_iff]; simp [Prod.ext_iff]
 rw [hdd]
 by_cases hdz : M.d = (0, 0)
 ·simp only [hdz, decide_true, Bool.not_true, if_true, vaE, ↓reduceIte, reduceCtorEq, Nat.reduceEqDiff, Nat.reduceAdd, Nat.reduceMul, Nat.reduceSub, Nat.reduceLeDiff, Nat.reduceBEq, Int.reduceToNat, Int.reduceLE, Int.reduceLT, Int.reduceEq, Int.reduceNe, di]
  refine calls_of w_unless ?_; simp only [vaE, res43, b43k0, b43k1, b43k2, ↓reduceIte, reduceCtorEq, Nat.reduceEqDiff, Nat.reduceAdd, Nat.reduceMul, Nat.reduceSub, Nat.reduceLeDiff, Nat.reduceBEq, Int.reduceToNat, Int.reduceLE, Int.reduceLT, Int.reduceEq, Int.reduceNe, di]
  refine calls_of (w_first (l := [0, 21]) (by simp)) ?_; simp only [vaE, res43, b43k0, b43k1, b43k2, ↓reduceIte, reduceCtorEq, Nat.reduceEqDiff, Nat.reduceAdd, Nat.reduceMul, Nat.reduceSub, Nat.reduceLeDiff, Nat.reduceBEq, Int.reduceToNat, Int.reduceLE, Int.reduceLT, Int.reduceEq, Int.reduceNe, di]
  rfl
 simp only [decide_false, Bool.not_false, if_neg hdz, hdz, vaE, ↓reduceIte, reduceCtorEq, Nat.reduceEqDiff, Nat.reduceAdd, Nat.reduceMul, Nat.reduceSub, Nat.reduceLeDiff, Nat.reduceBEq, Int.reduceToNat, Int.reduceLE, Int.reduceLT, Int.reduceEq, Int.reduceNe, di]
 refine calls_of w_unless ?_; simp only [vaE, res43, b43k0, b43k1, b43k2, ↓reduceIte, reduceCtorEq, Nat.reduceEqDiff, Nat.reduceAdd, Nat.reduceMul, Nat.reduceSub, Nat.reduceLeDiff, Nat.reduceBEq, Int.reduceToNat, Int.reduceLE, Int.reduceLT, Int.reduceEq, Int.reduceNe, di]
 refine calls_of (w_first (l := [0, 0]) (by simp)) ?_; simp only [vaE, res43, b43k0, b43k1, b43k2, ↓reduceIte, reduceCtorEq, Nat.reduceEqDiff, Nat.reduceAdd, Nat.reduceMul, Nat.reduceSub, Nat.reduceLeDiff, Nat.reduceBEq, Int.reduceToNat, Int.reduceLE, Int.reduceLT, Int.reduceEq, Int.reduceNe, di]
 rw [show firstNZ [0, 0] = 0 from rfl]
 simp only [vaE, ↓reduceIte, reduceCtorEq, Nat.reduceEqDiff, Nat.reduceAdd, Nat.reduceMul, Nat.reduceSub, Nat.reduceLeDiff, Nat.reduceBEq, Int.reduceToNat, Int.reduceLE, Int.reduceLT, Int.reduceEq, Int.reduceNe, di]
 by_cases hbz : M.b = (0, 0)
 ·have hb1 : M.b.1 = 0 ∧ M.b.2 = 0 := by rw [hbz]; exact ⟨rfl, rfl⟩
  rw [if_pos hb1]
  unfold impL
  rw [if_pos hbz]
  rfl
 have hb1 : ¬ (M.b.1 = 0 ∧ M.b.2 = 0) := fun k => hbz (Prod.ext k.1 k.2)
 rw [if_neg hb1]
 have hall : ∀ n ∈ [M.b.1, M.b.2, M.d.1, M.d.2], B62 n := by
  intro n hn
  simp only [List.mem_cons, List.not_mem_nil, or_false] at hn
  rcases hn with rfl | rfl | rfl | rfl
  ·exact pb1
  ·exact pb2
  ·exact pd1
  ·exact pd2
 refine calls_of (w_divisor (l := [M.b.1, M.b.2, M.d.1, M.d.2]) (by simp) hall) ?_; simp only [vaE, res43, b43k0, b43k1, b43k2, ↓reduceIte, reduceCtorEq, Nat.reduceEqDiff, Nat.reduceAdd, Nat.reduceMul, Nat.reduceSub, Nat.reduceLeDiff, Nat.reduceBEq, Int.reduceToNat, Int.reduceLE, Int.reduceLT, Int.reduceEq, Int.reduceNe, di]
 have hg1 : 1 ≤ gcdS [M.b.1, M.b.2, M.d.1, M.d.2] := by
  refine gcdL_pos _ 0 ?_
  by_cases h1 : M.b.1 = 0
  ·exact ⟨M.b.2, by simp, fun h2 => hb1 ⟨h1, h2⟩⟩
  ·exact ⟨M.b.1, by simp, h1⟩
 have hg2 : gcdS [M.b.1, M.b.2, M.d.1, M.d.2] ≤ 4611686018427387904 := gcdL_ub _ (by omega) hall
 have himp : impL M = (govr M.b (impG M), govr M.d (impG M)) := by unfold impL; rw [if_neg hbz]
 rw [himp]
 unfold impG
 generalize gcdS [M.b.1, M.b.2, M.d.1, M.d.2] = g at hg1 hg2 ⊢
 have fin : ∀ {n : Int}, n ≠ 0 → Contract Try.prog 102 [.agg [.int .i64 M.b.1, .int .i64 M.b.2], .int .i64 n] (gI (govr M.b n)) ∧ Contract Try.prog 102 [.agg [.int .i64 M.d.1, .int .i64 M.d.2], .int .i64 n] (gI (govr M.d n)) := fun hn => ⟨w_over pb1 pb2 hn, w_over pd1 pd2 hn⟩
 by_cases hneg : M.d.1 < 0 ∨ M.d.1 = 0 ∧ M.d.2 < 0
 ·rw [if_pos hneg, if_neg (fun k => hneg.elim k.1 k.2), wrap64 (by omega) (by omega), Int.zero_sub]
  refine calls_of (fin (n := -g) (by omega)).1 ?_; simp only [gI, res43, b43k0, b43k1, b43k2, vaE, ↓reduceIte, reduceCtorEq, Nat.reduceEqDiff, Nat.reduceAdd, Nat.reduceMul, Nat.reduceSub, Nat.reduceLeDiff, Nat.reduceBEq, Int.reduceToNat, Int.reduceLE, Int.reduceLT, Int.reduceEq, Int.reduceNe, di]
  refine calls_of (fin (n := -g) (by omega)).2 ?_; simp only [gI, res43, b43k0, b43k1, b43k2, vaE, ↓reduceIte, reduceCtorEq, Nat.reduceEqDiff, Nat.reduceAdd, Nat.reduceMul, Nat.reduceSub, Nat.reduceLeDiff, Nat.reduceBEq, Int.reduceToNat, Int.reduceLE, Int.reduceLT, Int.reduceEq, Int.reduceNe, di]
  rfl
 ·rw [if_neg hneg, if_pos (show ¬ M.d.1 < 0 ∧ ¬ (M.d.1 = 0 ∧ M.d.2 < 0) from ⟨fun k => hneg (.inl k), fun k => hneg (.inr k)⟩)]
  refine calls_of (fin (n := g) (by omega)).1 ?_; simp only [gI, res43, b43k0, b43k1, b43k2, vaE, ↓reduceIte, reduceCtorEq, Nat.reduceEqDiff, Nat.reduceAdd, Nat.reduceMul, Nat.reduceSub, Nat.reduceLeDiff, Nat.reduceBEq, Int.reduceToNat, Int.reduceLE, Int.reduceLT, Int.reduceEq, Int.reduceNe, di]
  refine calls_of (fin (n := g) (by omega)).2 ?_; simp only [gI, res43, b43k0, b43k1, b43k2, vaE, ↓reduceIte, reduceCtorEq, Nat.reduceEqDiff, Nat.reduceAdd, Nat.reduceMul, Nat.reduceSub, Nat.reduceLeDiff, Nat.reduceBEq, Int.reduceToNat, Int.reduceLE, Int.reduceLT, Int.reduceEq, Int.reduceNe, di]
  rfl

theorem w_ResonancesOf {x : Ln} (hx : Few x) : Contract Try.prog 44 [lnI x] (if (chkL x).2 = 0 then .tup [nI (resL (opn x)), .int .i64 0] else .tup [nI [], .int .i64 (chkL x).2]) := by
 have ho := w_open' hx
 refine contract_run Try.func44 k44 rfl ?_
 simp only [body44, b44, res44, b44k0, b44k1, b44k2, b44k3, vaE, ↓reduceIte, reduceCtorEq, Nat.reduceEqDiff, Nat.reduceAdd, Nat.reduceMul, Nat.reduceSub, Nat.reduceLeDiff, Nat.reduceBEq, Int.reduceToNat, Int.reduceLE, Int.reduceLT, Int.reduceEq, Int.reduceNe, di]
 refine calls_of ho ?_; simp only [vaE, res44, b44k0, b44k1, b44k2, b44k3, ↓reduceIte, reduceCtorEq, Nat.reduceEqDiff, Nat.reduceAdd, Nat.reduceMul, Nat.reduceSub, Nat.reduceLeDiff, Nat.reduceBEq, Int.reduceToNat, Int.reduceLE, Int.reduceLT, Int.reduceEq, Int.reduceNe, di]
 split
 rotate_left
 ·rfl
 rename_i h0
 have hok := chkL_ok.1 h0
 have hox : opnE x = opn x := by unfold opnE; rw [if_pos h0]
 have how := opn_ok hok
 rw [hox]
 refine loop_keep (α := Nat) rfl (fun k => 4 - k) (fun k => k ≤ 4)
  (fun k => [(4, .ref 4 0), (6, .own 6), (16, .imm (.int .i64 k))]) (fun k => [(4, .box [.imm (.slc 2 ((opn x).pp.map ppI)), .imm (nI (opn x).ar), .imm (nI (opn x).be), .imm (.int .i64 (opn x).n)]), (6, .tok 1 ((resP (opn x) k).map (.int .i64)))]) 0 (by omega) (by simp only [vaE, ↓reduceIte, reduceCtorEq, Nat.reduceEqDiff, Nat.reduceAdd, Nat.reduceMul, Nat.reduceSub, Nat.reduceLeDiff, Nat.reduceBEq, Int.reduceToNat, Int.reduceLE, Int.reduceLT, Int.reduceEq, Int.reduceNe, di] <;> rfl) ?_
 intro k hk ih
 have hlen := resP_len (x := opn x) (k := k)
 simp only [res44, b44k0, b44k1, b44k2, b44k3, vaE, ↓reduceIte, reduceCtorEq, Nat.reduceEqDiff, Nat.reduceAdd, Nat.reduceMul, Nat.reduceSub, Nat.reduceLeDiff, Nat.reduceBEq, Int.reduceToNat, Int.reduceLE, Int.reduceLT, Int.reduceEq, Int.reduceNe, di]
 split
 ·rename_i h
  have hlt : k < 4 := by omega
  obtain ⟨r, hr, hc⟩ := w_matrix (x := opn x) (h := (k : Int)) how (by omega)
  obtain ⟨q, rfl, hq1, hq2, hq3, hq4⟩ := MI_bits hr
  have hst := resP_step (x := opn x) hlt
  simp only [MBits.iv] at hc
  refine calls_of hc ?_; simp only [vaE, res44, b44k0, b44k1, b44k2, b44k3, ↓reduceIte, reduceCtorEq, Nat.reduceEqDiff, Nat.reduceAdd, Nat.reduceMul, Nat.reduceSub, Nat.reduceLeDiff, Nat.reduceBEq, Int.reduceToNat, Int.reduceLE, Int.reduceLT, Int.reduceEq, Int.reduceNe, di]
  have he := eqC hq4 CC_zero
  simp only [he, vaE, ↓reduceIte, reduceCtorEq, Nat.reduceEqDiff, Nat.reduceAdd, Nat.reduceMul, Nat.reduceSub, Nat.reduceLeDiff, Nat.reduceBEq, Int.reduceToNat, Int.reduceLE, Int.reduceLT, Int.reduceEq, Int.reduceNe, di]
  repeat (refine And.intro (by decide) ?_)
  split
  ·rename_i hd
   rw [if_pos hd] at hst
   repeat (refine And.intro (by first | omega | exact all_int _ | (simp only [zeros_len, List.length_append, List.length_take, List.length_drop, List.length_set, List.length_cons, List.length_nil, List.length_map]; omega)) ?_)
   rw [wrap64 (by omega) (by omega)]
   exact ih (k + 1) _ _ (by omega) (by omega) (by rw [hst]; simp only [vaE, ↓reduceIte, reduceCtorEq, Nat.reduceEqDiff, Nat.reduceAdd, Nat.reduceMul, Nat.reduceSub, Nat.reduceLeDiff, Nat.reduceBEq, Int.reduceToNat, Int.reduceLE, Int.reduceLT, Int.reduceEq, Int.reduceNe, di] <;> rfl)
  ·rename_i hd
   rw [if_neg hd, List.append_nil] at hst
   rw [wrap64 (by omega) (by omega)]
   exact ih (k + 1) _ _ (by omega) (by omega) (by rw [hst]; simp only [vaE, ↓reduceIte, reduceCtorEq, Nat.reduceEqDiff, Nat.reduceAdd, Nat.reduceMul, Nat.reduceSub, Nat.reduceLeDiff, Nat.reduceBEq, Int.reduceToNat, Int.reduceLE, Int.reduceLT, Int.reduceEq, Int.reduceNe, di] <;> rfl)
 ·rename_i h
  have : k = 4 := by omega
  subst this
  rfl
end Go.DI

