/- The statement WaveQuarters, as a contract. No condition. -/
import Derived.Test.YtadmimjaelodkaaWoo
import Derived.Test.YtadmimjaelodkaaWog
set_option linter.unusedSimpArgs false
set_option maxRecDepth 100000
namespace Go.DI
open Go.Proofs Go.RowKit

def ampI (a : Ga × Ga) : IV := .agg [.int .i64 a.1.1, .int .i64 a.1.2, .int .i64 a.2.1, .int .i64 a.2.2]
theorem unit_mul {s M n : Int} (hs : s = 0 ∨ s = 1 ∨ s = -1) (h : -M ≤ n ∧ n ≤ M) : -M ≤ s * n ∧ s * n ≤ M := by
 rcases hs with rfl | rfl | rfl <;> omega
theorem turn_unit (T : Int) : ((turnG T).1 = 0 ∨ (turnG T).1 = 1 ∨ (turnG T).1 = -1) ∧ ((turnG T).2 = 0 ∨ (turnG T).2 = 1 ∨ (turnG T).2 = -1) := by
 rcases turn_cases T with h | h | h | h <;> rw [h] <;> simp
theorem gsc_unit {s M : Int} {u : Ga} (hs : s = 0 ∨ s = 1 ∨ s = -1) (h : GB M u) : GB M (gsc s u) := ⟨unit_mul hs h.1, unit_mul hs h.2⟩
theorem GB.mono {M K : Int} {u : Ga} (h : GB M u) (k : M ≤ K) : GB K u := by
 have h1 := h.1; have h2 := h.2
 exact ⟨by omega, by omega⟩
theorem turn_GB {T M : Int} {u : Ga} (h : GB M u) : GB M (gmul (turnG T) u) := by
 have h1 := h.1; have h2 := h.2
 unfold gmul
 rcases turn_cases T with e | e | e | e <;> rw [e] <;> exact ⟨by show -M ≤ _ - _ ∧ _ - _ ≤ M; omega, by show -M ≤ _ + _ ∧ _ + _ ≤ M; omega⟩
theorem govr_GB {g : Ga} {n M : Int} (h : GB M g) : GB M (govr g n) := by
 have key : ∀ a : Int, -M ≤ a ∧ a ≤ M → -M ≤ a.tdiv n ∧ a.tdiv n ≤ M := by
  intro a ha
  have := Int.natAbs_tdiv a n
  have h2 : (a.tdiv n).natAbs ≤ a.natAbs := by rw [this]; exact Nat.div_le_self _ _
  omega
 exact ⟨key _ h.1, key _ h.2⟩
theorem gsc_GB2 {y M : Int} {u : Ga} (hy : 0 ≤ y ∧ y ≤ 20) (hM : 0 ≤ M) (h : GB M u) : GB (20 * M) (gsc y u) := ⟨mul_bd (k := 20) hy hM h.1, mul_bd (k := 20) hy hM h.2⟩
theorem gadd_GB {M K : Int} {u v : Ga} (hu : GB M u) (hv : GB K v) : GB (M + K) (gadd u v) := by
 have h1 := hu.1; have h2 := hu.2; have h3 := hv.1; have h4 := hv.2
 exact ⟨by show -(M + K) ≤ u.1 + v.1 ∧ u.1 + v.1 ≤ M + K; omega, by show -(M + K) ≤ u.2 + v.2 ∧ u.2 + v.2 ≤ M + K; omega⟩
theorem GB_B62 {M : Int} {u : Ga} (h : GB M u) (hM : M ≤ 4611686018427387904) : B62 u.1 ∧ B62 u.2 := by
 have h1 := h.1; have h2 := h.2
 exact ⟨⟨by omega, by omega⟩, by omega, by omega⟩
theorem r_through {p : Pp} {h : Int} {a : Ga × Ga} (hp : (1 ≤ p.1 ∧ p.1 ≤ 6) ∧ 1 ≤ p.2 ∧ p.2 ≤ 10) (hh : 0 ≤ h ∧ h ≤ 3) (h1 : GB 1000000000000 a.1) (h2 : GB 1000000000000 a.2) :
  Contract Try.prog 142 [ppI p, .int .i64 h, ampI a] (ampI (thrA p.2 (h * p.1) a)) := by
 have hT : -9223372036854775808 ≤ h * p.1 ∧ h * p.1 ≤ 9223372036854775807 := by
  have := mul_bd (y := h) (k := 3) (M := 6) (a := p.1) hh (by decide) (by omega)
  omega
 have hu := turn_unit (h * p.1)
 have q1 := r_scaled (g := a.1) (n := (turnG (h * p.1)).1) ((gsc_unit hu.1 h1).mono (by decide))
 have q2 := r_over (g := a.2) (n := p.2) (GB_B62 h2 (by decide)).1 (GB_B62 h2 (by decide)).2 (by omega)
 have b2 := govr_GB (n := p.2) h2
 have q3 := r_Times (p := 3) (b2.mono (by decide))
 have b3 := turn_GB (T := 3) b2
 have q4 := r_scaled (n := (turnG (h * p.1)).2) ((gsc_unit hu.2 b3).mono (by decide))
 have q5 := c_GAdd ((gsc_unit hu.1 h1).mono (by decide)) ((gsc_unit hu.2 b3).mono (by decide))
 have q6 := r_scaled (g := a.2) (n := (turnG (h * p.1)).1) ((gsc_unit hu.1 h2).mono (by decide))
 have b6 := gsc_GB2 (y := p.2) (by omega) (by decide) h1
 have q7 := r_scaled (g := a.1) (n := p.2) (b6.mono (by decide))
 have q8 := r_Times (p := 3) (b6.mono (by decide))
 have b8 := turn_GB (T := 3) b6
 have q9 := r_scaled (n := (turnG (h * p.1)).2) ((gsc_unit hu.2 b8).mono (by decide))
 have q10 := c_GAdd ((gsc_unit hu.1 h2).mono (by decide)) ((gsc_unit hu.2 b8).mono (by decide))
 simp only [gI] at q1 q2 q3 q4 q5 q6 q7 q8 q9 q10
 refine contract_run Try.func142 k142 rfl ?_
 simp only [body142, b142, res142, ampI, vaE, ↓reduceIte, reduceCtorEq, Nat.reduceEqDiff, Nat.reduceAdd, Nat.reduceMul, Nat.reduceSub, Nat.reduceLeDiff, Nat.reduceBEq, Int.reduceToNat, Int.reduceLE, Int.reduceLT, Int.reduceEq, Int.reduceNe, di]
 rw [wrap64 hT.1 hT.2]
 refine calls_of r_cosine ?_; simp only [vaE, res142, ↓reduceIte, reduceCtorEq, Nat.reduceEqDiff, Nat.reduceAdd, Nat.reduceMul, Nat.reduceSub, Nat.reduceLeDiff, Nat.reduceBEq, Int.reduceToNat, Int.reduceLE, Int.reduceLT, Int.reduceEq, Int.reduceNe, di]
 rw [wrap64 hT.1 hT.2]
 refine calls_of r_sine ?_; simp only [vaE, res142, ↓reduceIte, reduceCtorEq, Nat.reduceEqDiff, Nat.reduceAdd, Nat.reduceMul, Nat.reduceSub, Nat.reduceLeDiff, Nat.reduceBEq, Int.reduceToNat, Int.reduceLE, Int.reduceLT, Int.reduceEq, Int.reduceNe, di]
 refine calls_of q1 ?_; simp only [vaE, res142, ↓reduceIte, reduceCtorEq, Nat.reduceEqDiff, Nat.reduceAdd, Nat.reduceMul, Nat.reduceSub, Nat.reduceLeDiff, Nat.reduceBEq, Int.reduceToNat, Int.reduceLE, Int.reduceLT, Int.reduceEq, Int.reduceNe, di]
 refine calls_of q2 ?_; simp only [vaE, res142, ↓reduceIte, reduceCtorEq, Nat.reduceEqDiff, Nat.reduceAdd, Nat.reduceMul, Nat.reduceSub, Nat.reduceLeDiff, Nat.reduceBEq, Int.reduceToNat, Int.reduceLE, Int.reduceLT, Int.reduceEq, Int.reduceNe, di]
 refine calls_of q3 ?_; simp only [vaE, res142, ↓reduceIte, reduceCtorEq, Nat.reduceEqDiff, Nat.reduceAdd, Nat.reduceMul, Nat.reduceSub, Nat.reduceLeDiff, Nat.reduceBEq, Int.reduceToNat, Int.reduceLE, Int.reduceLT, Int.reduceEq, Int.reduceNe, di]
 refine calls_of q4 ?_; simp only [vaE, res142, ↓reduceIte, reduceCtorEq, Nat.reduceEqDiff, Nat.reduceAdd, Nat.reduceMul, Nat.reduceSub, Nat.reduceLeDiff, Nat.reduceBEq, Int.reduceToNat, Int.reduceLE, Int.reduceLT, Int.reduceEq, Int.reduceNe, di]
 refine calls_of q5 ?_; simp only [vaE, res142, ↓reduceIte, reduceCtorEq, Nat.reduceEqDiff, Nat.reduceAdd, Nat.reduceMul, Nat.reduceSub, Nat.reduceLeDiff, Nat.reduceBEq, Int.reduceToNat, Int.reduceLE, Int.reduceLT, Int.reduceEq, Int.reduceNe, di]
 refine calls_of q6 ?_; simp only [vaE, res142, ↓reduceIte, reduceCtorEq, Nat.reduceEqDiff, Nat.reduceAdd, Nat.reduceMul, Nat.reduceSub, Nat.reduceLeDiff, Nat.reduceBEq, Int.reduceToNat, Int.reduceLE, Int.reduceLT, Int.reduceEq, Int.reduceNe, di]
 refine calls_of q7 ?_; simp only [vaE, res142, ↓reduceIte, reduceCtorEq, Nat.reduceEqDiff, Nat.reduceAdd, Nat.reduceMul, Nat.reduceSub, Nat.reduceLeDiff, Nat.reduceBEq, Int.reduceToNat, Int.reduceLE, Int.reduceLT, Int.reduceEq, Int.reduceNe, di]
 refine calls_of q8 ?_; simp only [vaE, res142, ↓reduceIte, reduceCtorEq, Nat.reduceEqDiff, Nat.reduceAdd, Nat.reduceMul, Nat.reduceSub, Nat.reduceLeDiff, Nat.reduceBEq, Int.reduceToNat, Int.reduceLE, Int.reduceLT, Int.reduceEq, Int.reduceNe, di]
 refine calls_of q9 ?_; simp only [vaE, res142, ↓reduceIte, reduceCtorEq, Nat.reduceEqDiff, Nat.reduceAdd, Nat.reduceMul, Nat.reduceSub, Nat.reduceLeDiff, Nat.reduceBEq, Int.reduceToNat, Int.reduceLE, Int.reduceLT, Int.reduceEq, Int.reduceNe, di]
 refine calls_of q10 ?_; simp only [vaE, res142, ↓reduceIte, reduceCtorEq, Nat.reduceEqDiff, Nat.reduceAdd, Nat.reduceMul, Nat.reduceSub, Nat.reduceLeDiff, Nat.reduceBEq, Int.reduceToNat, Int.reduceLE, Int.reduceLT, Int.reduceEq, Int.reduceNe, di]
 rfl
theorem c_GMulS {u v : Ga} (hu : GB 2 u) (hv : GB 1000000000000 v) : Contract Try.prog 53 [gI u, gI v] (gI (gmul u v)) ∧ GB 4000000000000 (gmul u v) := by
 have u1 := hu.1; have u2 := hu.2
 have key : ∀ a b : Int, -2 ≤ a ∧ a ≤ 2 → -1000000000000 ≤ b ∧ b ≤ 1000000000000 → -2000000000000 ≤ a * b ∧ a * b ≤ 2000000000000 := by
  intro a b ha hb
  have : a = -2 ∨ a = -1 ∨ a = 0 ∨ a = 1 ∨ a = 2 := by omega
  rcases this with rfl | rfl | rfl | rfl | rfl <;> omega
 have e1 := key _ _ hu.1 hv.1
 have e2 := key _ _ hu.2 hv.2
 have e3 := key _ _ hu.1 hv.2
 have e4 := key _ _ hu.2 hv.1
 constructor
 ·refine contract_run Try.func53 k53 rfl ?_
  simp only [body53, b53, res53, gI, vaE, ↓reduceIte, reduceCtorEq, Nat.reduceEqDiff, Nat.reduceAdd, Nat.reduceMul, Nat.reduceSub, Nat.reduceLeDiff, Nat.reduceBEq, Int.reduceToNat, Int.reduceLE, Int.reduceLT, Int.reduceEq, Int.reduceNe, di]
  rw [wrap64 (n := u.1 * v.1) (by omega) (by omega), wrap64 (n := u.2 * v.2) (by omega) (by omega), wrap64 (n := u.1 * v.2) (by omega) (by omega), wrap64 (n := u.2 * v.1) (by omega) (by omega), wrap64 (n := u.1 * v.1 - u.2 * v.2) (by omega) (by omega), wrap64 (n := u.1 * v.2 + u.2 * v.1) (by omega) (by omega)]
  rfl
 ·exact ⟨by show -4000000000000 ≤ u.1 * v.1 - u.2 * v.2 ∧ u.1 * v.1 - u.2 * v.2 ≤ 4000000000000; omega, by show -4000000000000 ≤ u.1 * v.2 + u.2 * v.1 ∧ u.1 * v.2 + u.2 * v.1 ≤ 4000000000000; omega⟩
theorem r_beyond {area h : Int} {a : Ga × Ga} (ha : 0 ≤ area ∧ area ≤ 20) (hh : 0 ≤ h ∧ h ≤ 3) (h1 : GB 1000000000000 a.1) (h2 : GB 1000000000000 a.2) :
  Contract Try.prog 143 [.int .i64 area, .int .i64 h, ampI a] (ampI (byA area h a)) := by
 have g1 : GB 1 ((1, 0) : Ga) := ⟨by decide, by decide⟩
 have bt := turn_GB (T := -h) g1
 have q1 := r_Times (g := (1, 0)) (p := -h) (g1.mono (by decide))
 have q2 := c_GSub (u := (1, 0)) (g1.mono (by decide)) (bt.mono (by decide))
 have b2 : GB 2 (gsub (1, 0) (gmul (turnG (-h)) (1, 0))) := by
  have e1 := bt.1; have e2 := bt.2
  exact ⟨by show -2 ≤ 1 - _ ∧ 1 - _ ≤ 2; omega, by show -2 ≤ 0 - _ ∧ 0 - _ ≤ 2; omega⟩
 obtain ⟨q3, b3⟩ := c_GMulS b2 h1
 have b4 := gsc_GB2 ha (by decide) b3
 have q4 := r_scaled (b4.mono (by decide))
 have q5 := c_GSub (h2.mono (by decide)) (b4.mono (by decide))
 simp only [gI] at q1 q2 q3 q4 q5
 refine contract_run Try.func143 k143 rfl ?_
 simp only [body143, b143, res143, ampI, vaE, ↓reduceIte, reduceCtorEq, Nat.reduceEqDiff, Nat.reduceAdd, Nat.reduceMul, Nat.reduceSub, Nat.reduceLeDiff, Nat.reduceBEq, Int.reduceToNat, Int.reduceLE, Int.reduceLT, Int.reduceEq, Int.reduceNe, di]
 rw [wrap64 (n := 0 - h) (by omega) (by omega), Int.zero_sub]
 refine calls_of q1 ?_; simp only [vaE, res143, ↓reduceIte, reduceCtorEq, Nat.reduceEqDiff, Nat.reduceAdd, Nat.reduceMul, Nat.reduceSub, Nat.reduceLeDiff, Nat.reduceBEq, Int.reduceToNat, Int.reduceLE, Int.reduceLT, Int.reduceEq, Int.reduceNe, di]
 refine calls_of q2 ?_; simp only [vaE, res143, ↓reduceIte, reduceCtorEq, Nat.reduceEqDiff, Nat.reduceAdd, Nat.reduceMul, Nat.reduceSub, Nat.reduceLeDiff, Nat.reduceBEq, Int.reduceToNat, Int.reduceLE, Int.reduceLT, Int.reduceEq, Int.reduceNe, di]
 refine calls_of q3 ?_; simp only [vaE, res143, ↓reduceIte, reduceCtorEq, Nat.reduceEqDiff, Nat.reduceAdd, Nat.reduceMul, Nat.reduceSub, Nat.reduceLeDiff, Nat.reduceBEq, Int.reduceToNat, Int.reduceLE, Int.reduceLT, Int.reduceEq, Int.reduceNe, di]
 refine calls_of q4 ?_; simp only [vaE, res143, ↓reduceIte, reduceCtorEq, Nat.reduceEqDiff, Nat.reduceAdd, Nat.reduceMul, Nat.reduceSub, Nat.reduceLeDiff, Nat.reduceBEq, Int.reduceToNat, Int.reduceLE, Int.reduceLT, Int.reduceEq, Int.reduceNe, di]
 refine calls_of q5 ?_; simp only [vaE, res143, ↓reduceIte, reduceCtorEq, Nat.reduceEqDiff, Nat.reduceAdd, Nat.reduceMul, Nat.reduceSub, Nat.reduceLeDiff, Nat.reduceBEq, Int.reduceToNat, Int.reduceLE, Int.reduceLT, Int.reduceEq, Int.reduceNe, di]
 rfl
theorem r_Product {x : Ln} (hx : LineOk x) : Contract Try.prog 106 [lnI x] (.int .i64 (prodP x.pp)) := by
 have how := opn_ok hx
 have hlen := hx.len
 refine contract_run Try.func106 k106 rfl ?_
 simp only [body106, b106, res106, b106k0, b106k1, vaE, ↓reduceIte, reduceCtorEq, Nat.reduceEqDiff, Nat.reduceAdd, Nat.reduceMul, Nat.reduceSub, Nat.reduceLeDiff, Nat.reduceBEq, Int.reduceToNat, Int.reduceLE, Int.reduceLT, Int.reduceEq, Int.reduceNe, di]
 refine loop_keep (α := Nat) rfl (fun k => x.pp.length - k) (fun k => k ≤ x.pp.length)
  (fun k => [(1, .ref 1 0), (3, .imm (.int .i64 (prodP (x.pp.take k)))), (4, .imm (.int .i64 k))]) (fun _ => [(1, .box [.imm (.slc 2 (x.pp.map ppI)), .imm (nI x.ar)])]) 0 (Nat.zero_le _) (by simp only [prodP, List.take_zero, vaE, ↓reduceIte, reduceCtorEq, Nat.reduceEqDiff, Nat.reduceAdd, Nat.reduceMul, Nat.reduceSub, Nat.reduceLeDiff, Nat.reduceBEq, Int.reduceToNat, Int.reduceLE, Int.reduceLT, Int.reduceEq, Int.reduceNe, di] <;> rfl) ?_
 intro k hk ih
 simp only [res106, b106k0, b106k1, vaE, ↓reduceIte, reduceCtorEq, Nat.reduceEqDiff, Nat.reduceAdd, Nat.reduceMul, Nat.reduceSub, Nat.reduceLeDiff, Nat.reduceBEq, Int.reduceToNat, Int.reduceLE, Int.reduceLT, Int.reduceEq, Int.reduceNe, di]
 split
 ·rename_i h
  have hlt : k < x.pp.length := by omega
  have e2 : x.pp.take (k + 1) = x.pp.take k ++ [x.pp.getD k default] := by
   rw [List.take_succ_eq_append_getElem hlt]
   simp [List.getD_eq_getElem?_getD, hlt]
  have e : ∀ l m : List Pp, prodP (l ++ m) = prodP l * prodP m := by
   intro l m
   induction l with
   | nil => simp [prodP]
   | cons a l ih => simp [prodP, ih, Int.mul_assoc]
  have e3 : prodP (x.pp.take (k + 1)) = prodP (x.pp.take k) * (x.pp.getD k default).2 := by rw [e2, e]; simp [prodP]
  obtain ⟨b1, b2⟩ := prodP_bd (x.pp.take (k + 1)) fun p hp => (hx.pip p (List.mem_of_mem_take hp)).2
  have hb : (10 : Int) ^ (x.pp.take (k + 1)).length ≤ 10000 := by
   have : (x.pp.take (k + 1)).length = 0 ∨ (x.pp.take (k + 1)).length = 1 ∨ (x.pp.take (k + 1)).length = 2 ∨ (x.pp.take (k + 1)).length = 3 ∨ (x.pp.take (k + 1)).length = 4 := by rw [List.length_take]; omega
   rcases this with e | e | e | e | e <;> rw [e] <;> decide
  repeat (refine And.intro (by first | omega | exact all_int _ | (simp only [zeros_len, List.length_append, List.length_take, List.length_drop, List.length_set, List.length_cons, List.length_nil, List.length_map]; omega)) ?_)
  rw [← e3, wrap64 (n := prodP (x.pp.take (k + 1))) (by omega) (by omega), wrap64 (n := (k : Int) + 1) (by omega) (by omega)]
  exact ih (k + 1) _ _ (by omega) (by omega) (by simp only [vaE, ↓reduceIte, reduceCtorEq, Nat.reduceEqDiff, Nat.reduceAdd, Nat.reduceMul, Nat.reduceSub, Nat.reduceLeDiff, Nat.reduceBEq, Int.reduceToNat, Int.reduceLE, Int.reduceLT, Int.reduceEq, Int.reduceNe, di] <;> rfl)
 ·rename_i h
  have : k = x.pp.length := by omega
  subst this
  rw [List.take_length]
end Go.DI

