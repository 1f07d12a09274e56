/- Contracts: whole complex numbers, matrices in the reference. No condition. -/
import Derived.Test.YtadmimjaelodkaaWom
import Derived.Test.YtadmimjaelodkaaWon
set_option linter.unusedSimpArgs false
set_option maxRecDepth 100000
namespace Go.DI
open Go.Proofs Go.RowKit

theorem c_Mod4 {n : Int} : Contract Try.prog 144 [.int .i64 n, .int .i64 4] (.int .i64 (n % 4)) := by
 have h1 := Int.tmod_lt_of_pos n (show (0 : Int) < 4 by decide)
 have h2 := Int.tmod_lt_of_pos (-n) (show (0 : Int) < 4 by decide)
 rw [Int.neg_tmod] at h2
 have h3 := Int.mul_tdiv_add_tmod n 4
 refine contract_run Try.func144 k144 rfl ?_
 simp only [body144, b144, res144, b144k0, vaE, ↓reduceIte, reduceCtorEq, Nat.reduceEqDiff, Nat.reduceAdd, Nat.reduceMul, Nat.reduceSub, Nat.reduceLeDiff, Nat.reduceBEq, Int.reduceToNat, Int.reduceLE, Int.reduceLT, Int.reduceEq, Int.reduceNe, di]
 split
 ·rename_i h
  rw [wrap64 (by omega) (by omega)]
  congr 2
  omega
 ·rename_i h
  congr 2
  omega
def rotG (g : Ga) : Nat → Ga
 | 0 => g
 | k + 1 => (-(rotG g k).2, (rotG g k).1)
theorem rotG_turn {g : Ga} {p : Int} : rotG g (p % 4).toNat = gmul (turnG p) g := by
 have h : p % 4 = 0 ∨ p % 4 = 1 ∨ p % 4 = 2 ∨ p % 4 = 3 := by omega
 unfold turnG gmul
 rcases h with h | h | h | h <;> rw [h] <;> simp [rotG]
theorem rotG_GB {g : Ga} {n : Int} (h : GB n g) : ∀ k, GB n (rotG g k)
 | 0 => h
 | k + 1 => by
  have ih := rotG_GB h k
  have h1 := ih.1
  have h2 := ih.2
  exact ⟨by show -n ≤ -(rotG g k).2 ∧ -(rotG g k).2 ≤ n; omega, h1⟩
theorem r_Times {g : Ga} {p : Int} (hg : GB 1000000000000000 g) : Contract Try.prog 141 [gI g, .int .i64 p] (gI (gmul (turnG p) g)) := by
 refine contract_run Try.func141 k141 rfl ?_
 simp only [body141, b141, res141, b141k0, b141k1, gI, vaE, ↓reduceIte, reduceCtorEq, Nat.reduceEqDiff, Nat.reduceAdd, Nat.reduceMul, Nat.reduceSub, Nat.reduceLeDiff, Nat.reduceBEq, Int.reduceToNat, Int.reduceLE, Int.reduceLT, Int.reduceEq, Int.reduceNe, di]
 refine loop_keep (α := Nat) rfl (fun k => (p % 4).toNat - k) (fun k => (k : Int) ≤ p % 4)
  (fun k => [(1, .imm (.int .i64 p)), (2, .ref 2 0), (4, .ref 4 0), (5, .imm (.int .i64 k))])
  (fun k => [(2, .box [.imm (.int .i64 (rotG g k).1), .imm (.int .i64 (rotG g k).2)]), (4, .box [.imm (.int .i64 0), .imm (.int .i64 0)])]) 0 (by omega) (by simp only [rotG, vaE, ↓reduceIte, reduceCtorEq, Nat.reduceEqDiff, Nat.reduceAdd, Nat.reduceMul, Nat.reduceSub, Nat.reduceLeDiff, Nat.reduceBEq, Int.reduceToNat, Int.reduceLE, Int.reduceLT, Int.reduceEq, Int.reduceNe, di] <;> rfl) ?_
 intro k hk ih
 simp only [res141, b141k0, b141k1, vaE, ↓reduceIte, reduceCtorEq, Nat.reduceEqDiff, Nat.reduceAdd, Nat.reduceMul, Nat.reduceSub, Nat.reduceLeDiff, Nat.reduceBEq, Int.reduceToNat, Int.reduceLE, Int.reduceLT, Int.reduceEq, Int.reduceNe, di]
 refine calls_of c_Mod4 ?_; simp only [vaE, res141, b141k0, b141k1, ↓reduceIte, reduceCtorEq, Nat.reduceEqDiff, Nat.reduceAdd, Nat.reduceMul, Nat.reduceSub, Nat.reduceLeDiff, Nat.reduceBEq, Int.reduceToNat, Int.reduceLE, Int.reduceLT, Int.reduceEq, Int.reduceNe, di]
 split
 ·rename_i h
  have hb := (rotG_GB hg k).2
  rw [wrap64 (n := 0 - (rotG g k).2) (by omega) (by omega), wrap64 (n := (k : Int) + 1) (by omega) (by omega), Int.zero_sub]
  exact ih (k + 1) _ _ (by omega) (by omega) (by simp only [rotG, vaE, ↓reduceIte, reduceCtorEq, Nat.reduceEqDiff, Nat.reduceAdd, Nat.reduceMul, Nat.reduceSub, Nat.reduceLeDiff, Nat.reduceBEq, Int.reduceToNat, Int.reduceLE, Int.reduceLT, Int.reduceEq, Int.reduceNe, di] <;> rfl)
 ·rename_i h
  rw [← rotG_turn, show (p % 4).toNat = k by omega]
theorem c_GAdd {u v : Ga} (hu : GB 1000000000000000 u) (hv : GB 1000000000000000 v) : Contract Try.prog 140 [gI u, gI v] (gI (gadd u v)) := by
 have h1 := hu.1; have h2 := hu.2; have h3 := hv.1; have h4 := hv.2
 refine contract_run Try.func140 k140 rfl ?_
 simp only [body140, b140, res140, gI, vaE, ↓reduceIte, reduceCtorEq, Nat.reduceEqDiff, Nat.reduceAdd, Nat.reduceMul, Nat.reduceSub, Nat.reduceLeDiff, Nat.reduceBEq, Int.reduceToNat, Int.reduceLE, Int.reduceLT, Int.reduceEq, Int.reduceNe, di]
 rw [wrap64 (n := u.1 + v.1) (by omega) (by omega), wrap64 (n := u.2 + v.2) (by omega) (by omega)]
 rfl
theorem r_scaled {g : Ga} {n : Int} (h : GB 1000000000000000 (gsc n g)) : Contract Try.prog 139 [gI g, .int .i64 n] (gI (gsc n g)) := by
 have h1 : -1000000000000000 ≤ n * g.1 ∧ n * g.1 ≤ 1000000000000000 := h.1
 have h2 : -1000000000000000 ≤ n * g.2 ∧ n * g.2 ≤ 1000000000000000 := h.2
 refine contract_run Try.func139 k139 rfl ?_
 simp only [body139, b139, res139, gI, vaE, ↓reduceIte, reduceCtorEq, Nat.reduceEqDiff, Nat.reduceAdd, Nat.reduceMul, Nat.reduceSub, Nat.reduceLeDiff, Nat.reduceBEq, Int.reduceToNat, Int.reduceLE, Int.reduceLT, Int.reduceEq, Int.reduceNe, di]
 rw [wrap64 (n := n * g.1) (by omega) (by omega), wrap64 (n := n * g.2) (by omega) (by omega)]
 rfl
theorem r_over {g : Ga} {n : Int} (h1 : B62 g.1) (h2 : B62 g.2) (hn : n ≠ 0) : Contract Try.prog 105 [gI g, .int .i64 n] (gI (govr g n)) := by
 have b1 := tdiv_bd (n := n) h1
 have b2 := tdiv_bd (n := n) h2
 unfold B62 at b1 b2
 refine contract_run Try.func105 k105 rfl ?_
 simp only [body105, b105, res105, gI, vaE, ↓reduceIte, reduceCtorEq, Nat.reduceEqDiff, Nat.reduceAdd, Nat.reduceMul, Nat.reduceSub, Nat.reduceLeDiff, Nat.reduceBEq, Int.reduceToNat, Int.reduceLE, Int.reduceLT, Int.reduceEq, Int.reduceNe, di]
 rw [wrap64 (by omega) (by omega), wrap64 (by omega) (by omega)]
 exact ⟨hn, hn, rfl⟩
theorem r_cosine {p : Int} : Contract Try.prog 155 [.int .i64 p] (.int .i64 (turnG p).1) := by
 refine contract_run Try.func155 k155 rfl ?_
 simp only [body155, b155, res155, vaE, ↓reduceIte, reduceCtorEq, Nat.reduceEqDiff, Nat.reduceAdd, Nat.reduceMul, Nat.reduceSub, Nat.reduceLeDiff, Nat.reduceBEq, Int.reduceToNat, Int.reduceLE, Int.reduceLT, Int.reduceEq, Int.reduceNe, di]
 have h := r_Times (g := (1, 0)) (p := p) ⟨by decide, by decide⟩
 simp only [gI] at h
 refine calls_of h ?_; simp only [vaE, res155, ↓reduceIte, reduceCtorEq, Nat.reduceEqDiff, Nat.reduceAdd, Nat.reduceMul, Nat.reduceSub, Nat.reduceLeDiff, Nat.reduceBEq, Int.reduceToNat, Int.reduceLE, Int.reduceLT, Int.reduceEq, Int.reduceNe, di]
 congr 2
 simp [gmul]
theorem r_sine {p : Int} : Contract Try.prog 156 [.int .i64 p] (.int .i64 (turnG p).2) := by
 refine contract_run Try.func156 k156 rfl ?_
 simp only [body156, b156, res156, vaE, ↓reduceIte, reduceCtorEq, Nat.reduceEqDiff, Nat.reduceAdd, Nat.reduceMul, Nat.reduceSub, Nat.reduceLeDiff, Nat.reduceBEq, Int.reduceToNat, Int.reduceLE, Int.reduceLT, Int.reduceEq, Int.reduceNe, di]
 have h := r_Times (g := (1, 0)) (p := p) ⟨by decide, by decide⟩
 simp only [gI] at h
 refine calls_of h ?_; simp only [vaE, res156, ↓reduceIte, reduceCtorEq, Nat.reduceEqDiff, Nat.reduceAdd, Nat.reduceMul, Nat.reduceSub, Nat.reduceLeDiff, Nat.reduceBEq, Int.reduceToNat, Int.reduceLE, Int.reduceLT, Int.reduceEq, Int.reduceNe, di]
 congr 2
 simp [gmul]
end Go.DI

