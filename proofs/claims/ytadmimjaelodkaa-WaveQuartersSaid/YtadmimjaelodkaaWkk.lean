/- Contracts: whole complex numbers, matrices in the reference. No condition. -/
import Derived.Test.YtadmimjaelodkaaWki
import Derived.Test.YtadmimjaelodkaaWkj
set_option linter.unusedSimpArgs false
set_option maxRecDepth 100000
namespace Go.DI
open Go.Proofs Go.RowKit

theorem c_Size {n : Int} (h : B62 n) : Contract Try.prog 157 [.int .i64 n] (.int .i64 (n.natAbs : Nat)) := by
  unfold B62 at h
  refine contract_run Try.func157 k157 rfl ?_
  simp only [body157, b157, res157, vaE, ↓reduceIte, reduceCtorEq, Nat.reduceEqDiff, Nat.reduceAdd, Nat.reduceMul, Nat.reduceSub, Nat.reduceLeDiff, Nat.reduceBEq, Int.reduceToNat, Int.reduceLE, Int.reduceLT, Int.reduceEq, Int.reduceNe, di]
  rw [wrap64 (n := 0 - n) (by omega) (by omega)]
  congr 2
  omega
theorem c_Gcd {a b : Int} (ha : B62 a) (hb : B62 b) : Contract Try.prog 153 [.int .i64 a, .int .i64 b] (.int .i64 (gcdE a b)) := by
  refine contract_run Try.func153 k153 rfl ?_
  simp only [body153, b153, res153, b153k0, b153k1, vaE, ↓reduceIte, reduceCtorEq, Nat.reduceEqDiff, Nat.reduceAdd, Nat.reduceMul, Nat.reduceSub, Nat.reduceLeDiff, Nat.reduceBEq, Int.reduceToNat, Int.reduceLE, Int.reduceLT, Int.reduceEq, Int.reduceNe, di]
  refine loop_keep (α := Int × Int) rfl (fun q => q.2.natAbs) (fun q => B62 q.1 ∧ B62 q.2 ∧ gcdE q.1 q.2 = gcdE a b)
    (fun q => [(0, .imm (.int .i64 q.1)), (1, .imm (.int .i64 q.2))]) (fun _ => []) (a, b) ⟨ha, hb, rfl⟩ (by simp only [vaE, ↓reduceIte, reduceCtorEq, Nat.reduceEqDiff, Nat.reduceAdd, Nat.reduceMul, Nat.reduceSub, Nat.reduceLeDiff, Nat.reduceBEq, Int.reduceToNat, Int.reduceLE, Int.reduceLT, Int.reduceEq, Int.reduceNe, di] <;> rfl) ?_
  rintro ⟨u, v⟩ ⟨hu, hv, he⟩ ih2
  dsimp only at hu hv he ⊢
  simp only [res153, b153k0, b153k1, vaE, ↓reduceIte, reduceCtorEq, Nat.reduceEqDiff, Nat.reduceAdd, Nat.reduceMul, Nat.reduceSub, Nat.reduceLeDiff, Nat.reduceBEq, Int.reduceToNat, Int.reduceLE, Int.reduceLT, Int.reduceEq, Int.reduceNe, di]
  split
  · rename_i hv0
    subst hv0
    rw [gcdE_zero] at he
    refine calls_of (c_Size hu) ?_; simp only [vaE, res153, b153k0, b153k1, ↓reduceIte, reduceCtorEq, Nat.reduceEqDiff, Nat.reduceAdd, Nat.reduceMul, Nat.reduceSub, Nat.reduceLeDiff, Nat.reduceBEq, Int.reduceToNat, Int.reduceLE, Int.reduceLT, Int.reduceEq, Int.reduceNe, di]
    rw [he]
  · rename_i hv0
    have hlt2 : (u.tmod v).natAbs < v.natAbs := by
      rw [Int.natAbs_tmod]
      exact Nat.mod_lt _ (by omega)
    have hbm : B62 (u.tmod v) := by unfold B62 at hv ⊢; omega
    refine ⟨hv0, ?_⟩
    exact ih2 (v, u.tmod v) _ _ hlt2 ⟨hv, hbm, by rw [gcdE_step]; exact he⟩ (by simp only [vaE, ↓reduceIte, reduceCtorEq, Nat.reduceEqDiff, Nat.reduceAdd, Nat.reduceMul, Nat.reduceSub, Nat.reduceLeDiff, Nat.reduceBEq, Int.reduceToNat, Int.reduceLE, Int.reduceLT, Int.reduceEq, Int.reduceNe, di] <;> rfl)
def gcdG : Int → List Ga → Int
  | n, [] => n
  | n, g :: r => gcdG (gcdE (gcdE n g.1) g.2) r
theorem gcdE_B62 {a b : Int} (ha : B62 a) (hb : B62 b) : B62 (gcdE a b) := by
  have h1 := gcdE_ub (m := 4611686018427387904) ha hb
  have h2 := gcdE_nonneg a b
  exact ⟨by omega, h1⟩
theorem r_divisor {n : Int} {l : List Ga} (hl : l.length ≤ 1000000) (hn : B62 n) (hb : ∀ g ∈ l, B62 g.1 ∧ B62 g.2) : Contract Try.prog 104 [.int .i64 n, .slc 2 (l.map gI)] (.int .i64 (gcdG n l)) := by
  refine contract_run Try.func104 k104 rfl ?_
  simp only [body104, b104, res104, b104k0, b104k1, vaE, ↓reduceIte, reduceCtorEq, Nat.reduceEqDiff, Nat.reduceAdd, Nat.reduceMul, Nat.reduceSub, Nat.reduceLeDiff, Nat.reduceBEq, Int.reduceToNat, Int.reduceLE, Int.reduceLT, Int.reduceEq, Int.reduceNe, di]
  refine loop_keep (α := Nat × Int) rfl (fun q => l.length - q.1) (fun q => q.1 ≤ l.length ∧ B62 q.2 ∧ gcdG q.2 (l.drop q.1) = gcdG n l)
    (fun q => [(0, .imm (.int .i64 q.2)), (1, .imm (.slc 2 (l.map gI))), (5, .imm (.int .i64 q.1))]) (fun _ => []) (0, n) ⟨Nat.zero_le _, hn, rfl⟩ (by simp only [vaE, ↓reduceIte, reduceCtorEq, Nat.reduceEqDiff, Nat.reduceAdd, Nat.reduceMul, Nat.reduceSub, Nat.reduceLeDiff, Nat.reduceBEq, Int.reduceToNat, Int.reduceLE, Int.reduceLT, Int.reduceEq, Int.reduceNe, di] <;> rfl) ?_
  rintro ⟨i, a⟩ ⟨hi, ha, he⟩ ih
  dsimp only at hi ha he ⊢
  simp only [res104, b104k0, b104k1, gI, vaE, ↓reduceIte, reduceCtorEq, Nat.reduceEqDiff, Nat.reduceAdd, Nat.reduceMul, Nat.reduceSub, Nat.reduceLeDiff, Nat.reduceBEq, Int.reduceToNat, Int.reduceLE, Int.reduceLT, Int.reduceEq, Int.reduceNe, di]
  split
  · rename_i h
    have hlt : i < l.length := by omega
    have hg := hb _ (getD_mem (d := default) hlt)
    rw [idxF_drop hlt] at he
    repeat (refine And.intro (by first | omega | exact all_int _ | (simp only [zeros_len, List.length_append, List.length_take, List.length_drop, List.length_set, List.length_cons, List.length_nil, List.length_map]; omega)) ?_)
    refine calls_of (c_Gcd ha hg.1) ?_; simp only [vaE, res104, b104k0, b104k1, ↓reduceIte, reduceCtorEq, Nat.reduceEqDiff, Nat.reduceAdd, Nat.reduceMul, Nat.reduceSub, Nat.reduceLeDiff, Nat.reduceBEq, Int.reduceToNat, Int.reduceLE, Int.reduceLT, Int.reduceEq, Int.reduceNe, di]
    simp only [gI, res104, b104k0, b104k1, vaE, ↓reduceIte, reduceCtorEq, Nat.reduceEqDiff, Nat.reduceAdd, Nat.reduceMul, Nat.reduceSub, Nat.reduceLeDiff, Nat.reduceBEq, Int.reduceToNat, Int.reduceLE, Int.reduceLT, Int.reduceEq, Int.reduceNe, di]
    repeat (refine And.intro (by first | omega | exact all_int _ | (simp only [zeros_len, List.length_append, List.length_take, List.length_drop, List.length_set, List.length_cons, List.length_nil, List.length_map]; omega)) ?_)
    refine calls_of (c_Gcd (gcdE_B62 ha hg.1) hg.2) ?_; simp only [vaE, res104, b104k0, b104k1, ↓reduceIte, reduceCtorEq, Nat.reduceEqDiff, Nat.reduceAdd, Nat.reduceMul, Nat.reduceSub, Nat.reduceLeDiff, Nat.reduceBEq, Int.reduceToNat, Int.reduceLE, Int.reduceLT, Int.reduceEq, Int.reduceNe, di]
    rw [wrap64 (by omega) (by omega)]
    exact ih (i + 1, gcdE (gcdE a (l.getD i default).1) (l.getD i default).2) _ _ (by dsimp only; omega) ⟨by dsimp only; omega, gcdE_B62 (gcdE_B62 ha hg.1) hg.2, he⟩ (by simp only [vaE, ↓reduceIte, reduceCtorEq, Nat.reduceEqDiff, Nat.reduceAdd, Nat.reduceMul, Nat.reduceSub, Nat.reduceLeDiff, Nat.reduceBEq, Int.reduceToNat, Int.reduceLE, Int.reduceLT, Int.reduceEq, Int.reduceNe, di] <;> rfl)
  · rename_i h
    have : i = l.length := by omega
    subst this
    rw [List.drop_length] at he
    rw [← he]
    rfl
theorem c_Mod4 {n : Int} : Contract Try.prog 144 [.int .i64 n, .int .i64 4] (.int .i64 (n % 4)) := by
  have h1 := Int.tmod_lt_of_pos n (show (0 : Int) < 4 by decide)
  have h2 := Int.tmod_lt_of_pos (-n) (show (0 : Int) < 4 by decide)
  rw [Int.neg_tmod] at h2
  have h3 := Int.mul_tdiv_add_tmod n 4
  refine contract_run Try.func144 k144 rfl ?_
  simp only [body144, b144, res144, b144k0, vaE, ↓reduceIte, reduceCtorEq, Nat.reduceEqDiff, Nat.reduceAdd, Nat.reduceMul, Nat.reduceSub, Nat.reduceLeDiff, Nat.reduceBEq, Int.reduceToNat, Int.reduceLE, Int.reduceLT, Int.reduceEq, Int.reduceNe, di]
  split
  · rename_i h
    rw [wrap64 (by omega) (by omega)]
    congr 2
    omega
  · rename_i h
    congr 2
    omega
def rotG (g : Ga) : Nat → Ga
  | 0 => g
  | k + 1 => (-(rotG g k).2, (rotG g k).1)
theorem rotG_turn {g : Ga} {p : Int} : rotG g (p % 4).toNat = gmul (turnG p) g := by
  have h : p % 4 = 0 ∨ p % 4 = 1 ∨ p % 4 = 2 ∨ p % 4 = 3 := by omega
  unfold turnG gmul
  rcases h with h | h | h | h <;> rw [h] <;> simp [rotG]
theorem rotG_GB {g : Ga} {n : Int} (h : GB n g) : ∀ k, GB n (rotG g k)
  | 0 => h
  | k + 1 => by
    have ih := rotG_GB h k
    have h1 := ih.1
    have h2 := ih.2
    exact ⟨by show -n ≤ -(rotG g k).2 ∧ -(rotG g k).2 ≤ n; omega, h1⟩
theorem r_Times {g : Ga} {p : Int} (hg : GB 1000000000000000 g) : Contract Try.prog 141 [gI g, .int .i64 p] (gI (gmul (turnG p) g)) := by
  refine contract_run Try.func141 k141 rfl ?_
  simp only [body141, b141, res141, b141k0, b141k1, gI, vaE, ↓reduceIte, reduceCtorEq, Nat.reduceEqDiff, Nat.reduceAdd, Nat.reduceMul, Nat.reduceSub, Nat.reduceLeDiff, Nat.reduceBEq, Int.reduceToNat, Int.reduceLE, Int.reduceLT, Int.reduceEq, Int.reduceNe, di]
  refine loop_keep (α := Nat) rfl (fun k => (p % 4).toNat - k) (fun k => (k : Int) ≤ p % 4)
    (fun k => [(1, .imm (.int .i64 p)), (2, .ref 2 0), (4, .ref 4 0), (5, .imm (.int .i64 k))])
    (fun k => [(2, .box [.imm (.int .i64 (rotG g k).1), .imm (.int .i64 (rotG g k).2)]), (4, .box [.imm (.int .i64 0), .imm (.int .i64 0)])]) 0 (by omega) (by simp only [rotG, vaE, ↓reduceIte, reduceCtorEq, Nat.reduceEqDiff, Nat.reduceAdd, Nat.reduceMul, Nat.reduceSub, Nat.reduceLeDiff, Nat.reduceBEq, Int.reduceToNat, Int.reduceLE, Int.reduceLT, Int.reduceEq, Int.reduceNe, di] <;> rfl) ?_
  intro k hk ih
  simp only [res141, b141k0, b141k1, vaE, ↓reduceIte, reduceCtorEq, Nat.reduceEqDiff, Nat.reduceAdd, Nat.reduceMul, Nat.reduceSub, Nat.reduceLeDiff, Nat.reduceBEq, Int.reduceToNat, Int.reduceLE, Int.reduceLT, Int.reduceEq, Int.reduceNe, di]
  refine calls_of c_Mod4 ?_; simp only [vaE, res141, b141k0, b141k1, ↓reduceIte, reduceCtorEq, Nat.reduceEqDiff, Nat.reduceAdd, Nat.reduceMul, Nat.reduceSub, Nat.reduceLeDiff, Nat.reduceBEq, Int.reduceToNat, Int.reduceLE, Int.reduceLT, Int.reduceEq, Int.reduceNe, di]
  split
  · rename_i h
    have hb := (rotG_GB hg k).2
    rw [wrap64 (n := 0 - (rotG g k).2) (by omega) (by omega), wrap64 (n := (k : Int) + 1) (by omega) (by omega), Int.zero_sub]
    exact ih (k + 1) _ _ (by omega) (by omega) (by simp only [rotG, vaE, ↓reduceIte, reduceCtorEq, Nat.reduceEqDiff, Nat.reduceAdd, Nat.reduceMul, Nat.reduceSub, Nat.reduceLeDiff, Nat.reduceBEq, Int.reduceToNat, Int.reduceLE, Int.reduceLT, Int.reduceEq, Int.reduceNe, di] <;> rfl)
  · rename_i h
    rw [← rotG_turn, show (p % 4).toNat = k by omega]
theorem c_GAdd {u v : Ga} (hu : GB 1000000000000000 u) (hv : GB 1000000000000000 v) : Contract Try.prog 140 [gI u, gI v] (gI (gadd u v)) := by
  have h1 := hu.1; have h2 := hu.2; have h3 := hv.1; have h4 := hv.2
  refine contract_run Try.func140 k140 rfl ?_
  simp only [body140, b140, res140, gI, vaE, ↓reduceIte, reduceCtorEq, Nat.reduceEqDiff, Nat.reduceAdd, Nat.reduceMul, Nat.reduceSub, Nat.reduceLeDiff, Nat.reduceBEq, Int.reduceToNat, Int.reduceLE, Int.reduceLT, Int.reduceEq, Int.reduceNe, di]
  rw [wrap64 (n := u.1 + v.1) (by omega) (by omega), wrap64 (n := u.2 + v.2) (by omega) (by omega)]
  rfl
theorem r_scaled {g : Ga} {n : Int} (h : GB 1000000000000000 (gsc n g)) : Contract Try.prog 139 [gI g, .int .i64 n] (gI (gsc n g)) := by
  have h1 : -1000000000000000 ≤ n * g.1 ∧ n * g.1 ≤ 1000000000000000 := h.1
  have h2 : -1000000000000000 ≤ n * g.2 ∧ n * g.2 ≤ 1000000000000000 := h.2
  refine contract_run Try.func139 k139 rfl ?_
  simp only [body139, b139, res139, gI, vaE, ↓reduceIte, reduceCtorEq, Nat.reduceEqDiff, Nat.reduceAdd, Nat.reduceMul, Nat.reduceSub, Nat.reduceLeDiff, Nat.reduceBEq, Int.reduceToNat, Int.reduceLE, Int.reduceLT, Int.reduceEq, Int.reduceNe, di]
  rw [wrap64 (n := n * g.1) (by omega) (by omega), wrap64 (n := n * g.2) (by omega) (by omega)]
  rfl
theorem r_over {g : Ga} {n : Int} (h1 : B62 g.1) (h2 : B62 g.2) (hn : n ≠ 0) : Contract Try.prog 105 [gI g, .int .i64 n] (gI (govr g n)) := by
  have b1 := tdiv_bd (n := n) h1
  have b2 := tdiv_bd (n := n) h2
  unfold B62 at b1 b2
  refine contract_run Try.func105 k105 rfl ?_
  simp only [body105, b105, res105, gI, vaE, ↓reduceIte, reduceCtorEq, Nat.reduceEqDiff, Nat.reduceAdd, Nat.reduceMul, Nat.reduceSub, Nat.reduceLeDiff, Nat.reduceBEq, Int.reduceToNat, Int.reduceLE, Int.reduceLT, Int.reduceEq, Int.reduceNe, di]
  rw [wrap64 (by omega) (by omega), wrap64 (by omega) (by omega)]
  exact ⟨hn, hn, rfl⟩
theorem r_cosine {p : Int} : Contract Try.prog 155 [.int .i64 p] (.int .i64 (turnG p).1) := by
  refine contract_run Try.func155 k155 rfl ?_
  simp only [body155, b155, res155, vaE, ↓reduceIte, reduceCtorEq, Nat.reduceEqDiff, Nat.reduceAdd, Nat.reduceMul, Nat.reduceSub, Nat.reduceLeDiff, Nat.reduceBEq, Int.reduceToNat, Int.reduceLE, Int.reduceLT, Int.reduceEq, Int.reduceNe, di]
  have h := r_Times (g := (1, 0)) (p := p) ⟨by decide, by decide⟩
  simp only [gI] at h
  refine calls_of h ?_; simp only [vaE, res155, ↓reduceIte, reduceCtorEq, Nat.reduceEqDiff, Nat.reduceAdd, Nat.reduceMul, Nat.reduceSub, Nat.reduceLeDiff, Nat.reduceBEq, Int.reduceToNat, Int.reduceLE, Int.reduceLT, Int.reduceEq, Int.reduceNe, di]
  congr 2
  simp [gmul]
theorem r_sine {p : Int} : Contract Try.prog 156 [.int .i64 p] (.int .i64 (turnG p).2) := by
  refine contract_run Try.func156 k156 rfl ?_
  simp only [body156, b156, res156, vaE, ↓reduceIte, reduceCtorEq, Nat.reduceEqDiff, Nat.reduceAdd, Nat.reduceMul, Nat.reduceSub, Nat.reduceLeDiff, Nat.reduceBEq, Int.reduceToNat, Int.reduceLE, Int.reduceLT, Int.reduceEq, Int.reduceNe, di]
  have h := r_Times (g := (1, 0)) (p := p) ⟨by decide, by decide⟩
  simp only [gI] at h
  refine calls_of h ?_; simp only [vaE, res156, ↓reduceIte, reduceCtorEq, Nat.reduceEqDiff, Nat.reduceAdd, Nat.reduceMul, Nat.reduceSub, Nat.reduceLeDiff, Nat.reduceBEq, Int.reduceToNat, Int.reduceLE, Int.reduceLT, Int.reduceEq, Int.reduceNe, di]
  congr 2
  simp [gmul]
end Go.DI

