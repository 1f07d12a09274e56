/- The statement WaveQuarters, as a contract. No condition. -/
import Derived.Test.YtadmimjaelodkaaWkk
import Derived.Test.YtadmimjaelodkaaWke
set_option linter.unusedSimpArgs false
set_option maxRecDepth 100000
namespace Go.DI
open Go.Proofs Go.RowKit

def ampI (a : Ga × Ga) : IV := .agg [.int .i64 a.1.1, .int .i64 a.1.2, .int .i64 a.2.1, .int .i64 a.2.2]
theorem unit_mul {s M n : Int} (hs : s = 0 ∨ s = 1 ∨ s = -1) (h : -M ≤ n ∧ n ≤ M) : -M ≤ s * n ∧ s * n ≤ M := by
  rcases hs with rfl | rfl | rfl <;> omega
theorem turn_unit (T : Int) : ((turnG T).1 = 0 ∨ (turnG T).1 = 1 ∨ (turnG T).1 = -1) ∧ ((turnG T).2 = 0 ∨ (turnG T).2 = 1 ∨ (turnG T).2 = -1) := by
  rcases turn_cases T with h | h | h | h <;> rw [h] <;> simp
theorem gsc_unit {s M : Int} {u : Ga} (hs : s = 0 ∨ s = 1 ∨ s = -1) (h : GB M u) : GB M (gsc s u) := ⟨unit_mul hs h.1, unit_mul hs h.2⟩
theorem GB.mono {M K : Int} {u : Ga} (h : GB M u) (k : M ≤ K) : GB K u := by
  have h1 := h.1; have h2 := h.2
  exact ⟨by omega, by omega⟩
theorem turn_GB {T M : Int} {u : Ga} (h : GB M u) : GB M (gmul (turnG T) u) := by
  have h1 := h.1; have h2 := h.2
  unfold gmul
  rcases turn_cases T with e | e | e | e <;> rw [e] <;> exact ⟨by show -M ≤ _ - _ ∧ _ - _ ≤ M; omega, by show -M ≤ _ + _ ∧ _ + _ ≤ M; omega⟩
theorem govr_GB {g : Ga} {n M : Int} (h : GB M g) : GB M (govr g n) := by
  have key : ∀ a : Int, -M ≤ a ∧ a ≤ M → -M ≤ a.tdiv n ∧ a.tdiv n ≤ M := by
    intro a ha
    have := Int.natAbs_tdiv a n
    have h2 : (a.tdiv n).natAbs ≤ a.natAbs := by rw [this]; exact Nat.div_le_self _ _
    omega
  exact ⟨key _ h.1, key _ h.2⟩
theorem gsc_GB2 {y M : Int} {u : Ga} (hy : 0 ≤ y ∧ y ≤ 20) (hM : 0 ≤ M) (h : GB M u) : GB (20 * M) (gsc y u) := ⟨mul_bd (k := 20) hy hM h.1, mul_bd (k := 20) hy hM h.2⟩
theorem GB_B62 {M : Int} {u : Ga} (h : GB M u) (hM : M ≤ 4611686018427387904) : B62 u.1 ∧ B62 u.2 := by
  have h1 := h.1; have h2 := h.2
  exact ⟨⟨by omega, by omega⟩, by omega, by omega⟩
theorem r_through {p : Pp} {h : Int} {a : Ga × Ga} (hp : (1 ≤ p.1 ∧ p.1 ≤ 6) ∧ 1 ≤ p.2 ∧ p.2 ≤ 10) (hh : 0 ≤ h ∧ h ≤ 3) (h1 : GB 1000000000000 a.1) (h2 : GB 1000000000000 a.2) :
    Contract Try.prog 142 [ppI p, .int .i64 h, ampI a] (ampI (thrA p.2 (h * p.1) a)) := by
  have hT : -9223372036854775808 ≤ h * p.1 ∧ h * p.1 ≤ 9223372036854775807 := by
    have := mul_bd (y := h) (k := 3) (M := 6) (a := p.1) hh (by decide) (by omega)
    omega
  have hu := turn_unit (h * p.1)
  have q1 := r_scaled (g := a.1) (n := (turnG (h * p.1)).1) ((gsc_unit hu.1 h1).mono (by decide))
  have q2 := r_over (g := a.2) (n := p.2) (GB_B62 h2 (by decide)).1 (GB_B62 h2 (by decide)).2 (by omega)
  have b2 := govr_GB (n := p.2) h2
  have q3 := r_Times (p := 3) (b2.mono (by decide))
  have b3 := turn_GB (T := 3) b2
  have q4 := r_scaled (n := (turnG (h * p.1)).2) ((gsc_unit hu.2 b3).mono (by decide))
  have q5 := c_GAdd ((gsc_unit hu.1 h1).mono (by decide)) ((gsc_unit hu.2 b3).mono (by decide))
  have q6 := r_scaled (g := a.2) (n := (turnG (h * p.1)).1) ((gsc_unit hu.1 h2).mono (by decide))
  have b6 := gsc_GB2 (y := p.2) (by omega) (by decide) h1
  have q7 := r_scaled (g := a.1) (n := p.2) (b6.mono (by decide))
  have q8 := r_Times (p := 3) (b6.mono (by decide))
  have b8 := turn_GB (T := 3) b6
  have q9 := r_scaled (n := (turnG (h * p.1)).2) ((gsc_unit hu.2 b8).mono (by decide))
  have q10 := c_GAdd ((gsc_unit hu.1 h2).mono (by decide)) ((gsc_unit hu.2 b8).mono (by decide))
  simp only [gI] at q1 q2 q3 q4 q5 q6 q7 q8 q9 q10
  refine contract_run Try.func142 k142 rfl ?_
  simp only [body142, b142, res142, ampI, vaE, ↓reduceIte, reduceCtorEq, Nat.reduceEqDiff, Nat.reduceAdd, Nat.reduceMul, Nat.reduceSub, Nat.reduceLeDiff, Nat.reduceBEq, Int.reduceToNat, Int.reduceLE, Int.reduceLT, Int.reduceEq, Int.reduceNe, di]
  rw [wrap64 hT.1 hT.2]
  refine calls_of r_cosine ?_; simp only [vaE, res142, ↓reduceIte, reduceCtorEq, Nat.reduceEqDiff, Nat.reduceAdd, Nat.reduceMul, Nat.reduceSub, Nat.reduceLeDiff, Nat.reduceBEq, Int.reduceToNat, Int.reduceLE, Int.reduceLT, Int.reduceEq, Int.reduceNe, di]
  rw [wrap64 hT.1 hT.2]
  refine calls_of r_sine ?_; simp only [vaE, res142, ↓reduceIte, reduceCtorEq, Nat.reduceEqDiff, Nat.reduceAdd, Nat.reduceMul, Nat.reduceSub, Nat.reduceLeDiff, Nat.reduceBEq, Int.reduceToNat, Int.reduceLE, Int.reduceLT, Int.reduceEq, Int.reduceNe, di]
  refine calls_of q1 ?_; simp only [vaE, res142, ↓reduceIte, reduceCtorEq, Nat.reduceEqDiff, Nat.reduceAdd, Nat.reduceMul, Nat.reduceSub, Nat.reduceLeDiff, Nat.reduceBEq, Int.reduceToNat, Int.reduceLE, Int.reduceLT, Int.reduceEq, Int.reduceNe, di]
  refine calls_of q2 ?_; simp only [vaE, res142, ↓reduceIte, reduceCtorEq, Nat.reduceEqDiff, Nat.reduceAdd, Nat.reduceMul, Nat.reduceSub, Nat.reduceLeDiff, Nat.reduceBEq, Int.reduceToNat, Int.reduceLE, Int.reduceLT, Int.reduceEq, Int.reduceNe, di]
  refine calls_of q3 ?_; simp only [vaE, res142, ↓reduceIte, reduceCtorEq, Nat.reduceEqDiff, Nat.reduceAdd, Nat.reduceMul, Nat.reduceSub, Nat.reduceLeDiff, Nat.reduceBEq, Int.reduceToNat, Int.reduceLE, Int.reduceLT, Int.reduceEq, Int.reduceNe, di]
  refine calls_of q4 ?_; simp only [vaE, res142, ↓reduceIte, reduceCtorEq, Nat.reduceEqDiff, Nat.reduceAdd, Nat.reduceMul, Nat.reduceSub, Nat.reduceLeDiff, Nat.reduceBEq, Int.reduceToNat, Int.reduceLE, Int.reduceLT, Int.reduceEq, Int.reduceNe, di]
  refine calls_of q5 ?_; simp only [vaE, res142, ↓reduceIte, reduceCtorEq, Nat.reduceEqDiff, Nat.reduceAdd, Nat.reduceMul, Nat.reduceSub, Nat.reduceLeDiff, Nat.reduceBEq, Int.reduceToNat, Int.reduceLE, Int.reduceLT, Int.reduceEq, Int.reduceNe, di]
  refine calls_of q6 ?_; simp only [vaE, res142, ↓reduceIte, reduceCtorEq, Nat.reduceEqDiff, Nat.reduceAdd, Nat.reduceMul, Nat.reduceSub, Nat.reduceLeDiff, Nat.reduceBEq, Int.reduceToNat, Int.reduceLE, Int.reduceLT, Int.reduceEq, Int.reduceNe, di]
  refine calls_of q7 ?_; simp only [vaE, res142, ↓reduceIte, reduceCtorEq, Nat.reduceEqDiff, Nat.reduceAdd, Nat.reduceMul, Nat.reduceSub, Nat.reduceLeDiff, Nat.reduceBEq, Int.reduceToNat, Int.reduceLE, Int.reduceLT, Int.reduceEq, Int.reduceNe, di]
  refine calls_of q8 ?_; simp only [vaE, res142, ↓reduceIte, reduceCtorEq, Nat.reduceEqDiff, Nat.reduceAdd, Nat.reduceMul, Nat.reduceSub, Nat.reduceLeDiff, Nat.reduceBEq, Int.reduceToNat, Int.reduceLE, Int.reduceLT, Int.reduceEq, Int.reduceNe, di]
  refine calls_of q9 ?_; simp only [vaE, res142, ↓reduceIte, reduceCtorEq, Nat.reduceEqDiff, Nat.reduceAdd, Nat.reduceMul, Nat.reduceSub, Nat.reduceLeDiff, Nat.reduceBEq, Int.reduceToNat, Int.reduceLE, Int.reduceLT, Int.reduceEq, Int.reduceNe, di]
  refine calls_of q10 ?_; simp only [vaE, res142, ↓reduceIte, reduceCtorEq, Nat.reduceEqDiff, Nat.reduceAdd, Nat.reduceMul, Nat.reduceSub, Nat.reduceLeDiff, Nat.reduceBEq, Int.reduceToNat, Int.reduceLE, Int.reduceLT, Int.reduceEq, Int.reduceNe, di]
  rfl
theorem c_GMulS {u v : Ga} (hu : GB 2 u) (hv : GB 1000000000000 v) : Contract Try.prog 53 [gI u, gI v] (gI (gmul u v)) ∧ GB 4000000000000 (gmul u v) := by
  have u1 := hu.1; have u2 := hu.2
  have key : ∀ a b : Int, -2 ≤ a ∧ a ≤ 2 → -1000000000000 ≤ b ∧ b ≤ 1000000000000 → -2000000000000 ≤ a * b ∧ a * b ≤ 2000000000000 := by
    intro a b ha hb
    have : a = -2 ∨ a = -1 ∨ a = 0 ∨ a = 1 ∨ a = 2 := by omega
    rcases this with rfl | rfl | rfl | rfl | rfl <;> omega
  have e1 := key _ _ hu.1 hv.1
  have e2 := key _ _ hu.2 hv.2
  have e3 := key _ _ hu.1 hv.2
  have e4 := key _ _ hu.2 hv.1
  constructor
  · refine contract_run Try.func53 k53 rfl ?_
    simp only [body53, b53, res53, gI, vaE, ↓reduceIte, reduceCtorEq, Nat.reduceEqDiff, Nat.reduceAdd, Nat.reduceMul, Nat.reduceSub, Nat.reduceLeDiff, Nat.reduceBEq, Int.reduceToNat, Int.reduceLE, Int.reduceLT, Int.reduceEq, Int.reduceNe, di]
    rw [wrap64 (n := u.1 * v.1) (by omega) (by omega), wrap64 (n := u.2 * v.2) (by omega) (by omega), wrap64 (n := u.1 * v.2) (by omega) (by omega), wrap64 (n := u.2 * v.1) (by omega) (by omega), wrap64 (n := u.1 * v.1 - u.2 * v.2) (by omega) (by omega), wrap64 (n := u.1 * v.2 + u.2 * v.1) (by omega) (by omega)]
    rfl
  · exact ⟨by show -4000000000000 ≤ u.1 * v.1 - u.2 * v.2 ∧ u.1 * v.1 - u.2 * v.2 ≤ 4000000000000; omega, by show -4000000000000 ≤ u.1 * v.2 + u.2 * v.1 ∧ u.1 * v.2 + u.2 * v.1 ≤ 4000000000000; omega⟩
theorem r_beyond {area h : Int} {a : Ga × Ga} (ha : 0 ≤ area ∧ area ≤ 20) (hh : 0 ≤ h ∧ h ≤ 3) (h1 : GB 1000000000000 a.1) (h2 : GB 1000000000000 a.2) :
    Contract Try.prog 143 [.int .i64 area, .int .i64 h, ampI a] (ampI (byA area h a)) := by
  have g1 : GB 1 ((1, 0) : Ga) := ⟨by decide, by decide⟩
  have bt := turn_GB (T := -h) g1
  have q1 := r_Times (g := (1, 0)) (p := -h) (g1.mono (by decide))
  have q2 := c_GSub (u := (1, 0)) (g1.mono (by decide)) (bt.mono (by decide))
  have b2 : GB 2 (gsub (1, 0) (gmul (turnG (-h)) (1, 0))) := by
    have e1 := bt.1; have e2 := bt.2
    exact ⟨by show -2 ≤ 1 - _ ∧ 1 - _ ≤ 2; omega, by show -2 ≤ 0 - _ ∧ 0 - _ ≤ 2; omega⟩
  obtain ⟨q3, b3⟩ := c_GMulS b2 h1
  have b4 := gsc_GB2 ha (by decide) b3
  have q4 := r_scaled (b4.mono (by decide))
  have q5 := c_GSub (h2.mono (by decide)) (b4.mono (by decide))
  simp only [gI] at q1 q2 q3 q4 q5
  refine contract_run Try.func143 k143 rfl ?_
  simp only [body143, b143, res143, ampI, vaE, ↓reduceIte, reduceCtorEq, Nat.reduceEqDiff, Nat.reduceAdd, Nat.reduceMul, Nat.reduceSub, Nat.reduceLeDiff, Nat.reduceBEq, Int.reduceToNat, Int.reduceLE, Int.reduceLT, Int.reduceEq, Int.reduceNe, di]
  rw [wrap64 (n := 0 - h) (by omega) (by omega), Int.zero_sub]
  refine calls_of q1 ?_; simp only [vaE, res143, ↓reduceIte, reduceCtorEq, Nat.reduceEqDiff, Nat.reduceAdd, Nat.reduceMul, Nat.reduceSub, Nat.reduceLeDiff, Nat.reduceBEq, Int.reduceToNat, Int.reduceLE, Int.reduceLT, Int.reduceEq, Int.reduceNe, di]
  refine calls_of q2 ?_; simp only [vaE, res143, ↓reduceIte, reduceCtorEq, Nat.reduceEqDiff, Nat.reduceAdd, Nat.reduceMul, Nat.reduceSub, Nat.reduceLeDiff, Nat.reduceBEq, Int.reduceToNat, Int.reduceLE, Int.reduceLT, Int.reduceEq, Int.reduceNe, di]
  refine calls_of q3 ?_; simp only [vaE, res143, ↓reduceIte, reduceCtorEq, Nat.reduceEqDiff, Nat.reduceAdd, Nat.reduceMul, Nat.reduceSub, Nat.reduceLeDiff, Nat.reduceBEq, Int.reduceToNat, Int.reduceLE, Int.reduceLT, Int.reduceEq, Int.reduceNe, di]
  refine calls_of q4 ?_; simp only [vaE, res143, ↓reduceIte, reduceCtorEq, Nat.reduceEqDiff, Nat.reduceAdd, Nat.reduceMul, Nat.reduceSub, Nat.reduceLeDiff, Nat.reduceBEq, Int.reduceToNat, Int.reduceLE, Int.reduceLT, Int.reduceEq, Int.reduceNe, di]
  refine calls_of q5 ?_; simp only [vaE, res143, ↓reduceIte, reduceCtorEq, Nat.reduceEqDiff, Nat.reduceAdd, Nat.reduceMul, Nat.reduceSub, Nat.reduceLeDiff, Nat.reduceBEq, Int.reduceToNat, Int.reduceLE, Int.reduceLT, Int.reduceEq, Int.reduceNe, di]
  rfl
theorem r_Product {x : Ln} (hx : LineOk x) : Contract Try.prog 106 [lnI x] (.int .i64 (prodP x.pp)) := by
  have how := opn_ok hx
  have hlen := hx.len
  refine contract_run Try.func106 k106 rfl ?_
  simp only [body106, b106, res106, b106k0, b106k1, vaE, ↓reduceIte, reduceCtorEq, Nat.reduceEqDiff, Nat.reduceAdd, Nat.reduceMul, Nat.reduceSub, Nat.reduceLeDiff, Nat.reduceBEq, Int.reduceToNat, Int.reduceLE, Int.reduceLT, Int.reduceEq, Int.reduceNe, di]
  refine loop_keep (α := Nat) rfl (fun k => x.pp.length - k) (fun k => k ≤ x.pp.length)
    (fun k => [(1, .ref 1 0), (3, .imm (.int .i64 (prodP (x.pp.take k)))), (4, .imm (.int .i64 k))]) (fun _ => [(1, .box [.imm (.slc 2 (x.pp.map ppI)), .imm (nI x.ar)])]) 0 (Nat.zero_le _) (by simp only [prodP, List.take_zero, vaE, ↓reduceIte, reduceCtorEq, Nat.reduceEqDiff, Nat.reduceAdd, Nat.reduceMul, Nat.reduceSub, Nat.reduceLeDiff, Nat.reduceBEq, Int.reduceToNat, Int.reduceLE, Int.reduceLT, Int.reduceEq, Int.reduceNe, di] <;> rfl) ?_
  intro k hk ih
  simp only [res106, b106k0, b106k1, vaE, ↓reduceIte, reduceCtorEq, Nat.reduceEqDiff, Nat.reduceAdd, Nat.reduceMul, Nat.reduceSub, Nat.reduceLeDiff, Nat.reduceBEq, Int.reduceToNat, Int.reduceLE, Int.reduceLT, Int.reduceEq, Int.reduceNe, di]
  split
  · rename_i h
    have hlt : k < x.pp.length := by omega
    have e2 : x.pp.take (k + 1) = x.pp.take k ++ [x.pp.getD k default] := by
      rw [List.take_succ_eq_append_getElem hlt]
      simp [List.getD_eq_getElem?_getD, hlt]
    have e : ∀ l m : List Pp, prodP (l ++ m) = prodP l * prodP m := by
      intro l m
      induction l with
      | nil => simp [prodP]
      | cons a l ih => simp [prodP, ih, Int.mul_assoc]
    have e3 : prodP (x.pp.take (k + 1)) = prodP (x.pp.take k) * (x.pp.getD k default).2 := by rw [e2, e]; simp [prodP]
    obtain ⟨b1, b2⟩ := prodP_bd (x.pp.take (k + 1)) fun p hp => (hx.pip p (List.mem_of_mem_take hp)).2
    have hb : (10 : Int) ^ (x.pp.take (k + 1)).length ≤ 10000 := by
      have : (x.pp.take (k + 1)).length = 0 ∨ (x.pp.take (k + 1)).length = 1 ∨ (x.pp.take (k + 1)).length = 2 ∨ (x.pp.take (k + 1)).length = 3 ∨ (x.pp.take (k + 1)).length = 4 := by rw [List.length_take]; omega
      rcases this with e | e | e | e | e <;> rw [e] <;> decide
    repeat (refine And.intro (by first | omega | exact all_int _ | (simp only [zeros_len, List.length_append, List.length_take, List.length_drop, List.length_set, List.length_cons, List.length_nil, List.length_map]; omega)) ?_)
    rw [← e3, wrap64 (n := prodP (x.pp.take (k + 1))) (by omega) (by omega), wrap64 (n := (k : Int) + 1) (by omega) (by omega)]
    exact ih (k + 1) _ _ (by omega) (by omega) (by simp only [vaE, ↓reduceIte, reduceCtorEq, Nat.reduceEqDiff, Nat.reduceAdd, Nat.reduceMul, Nat.reduceSub, Nat.reduceLeDiff, Nat.reduceBEq, Int.reduceToNat, Int.reduceLE, Int.reduceLT, Int.reduceEq, Int.reduceNe, di] <;> rfl)
  · rename_i h
    have : k = x.pp.length := by omega
    subst this
    rw [List.take_length]
theorem ampG_one (u : Ga × Ga) : ampG 1 u = u := by
  unfold ampG gsc
  simp
/-- The amplitudes ahead of a pipe. -/
def stA (x : Ow) (h : Int) (b : Bool) (k : Nat) : Ga × Ga := if k < x.pp.length then ampG (prodP (x.pp.drop k)) (colM b (preM x h k)) else colM b (lineMat x h)
theorem r_ends {x : Ln} {h : Int} {b : Bool} (hx : LineOk x) (hh : 0 ≤ h ∧ h ≤ 3) : Contract Try.prog 107 [lnI x, .int .i64 h, ampI (stA (opn x) h b 0)] (ampI (colM b (lineMat (opn x) h))) := by
  have how := opn_ok hx
  have hlen := hx.len
  have hars := hx.ars
  refine contract_run Try.func107 k107 rfl ?_
  simp only [body107, b107, res107, b107k0, b107k1, b107k2, ampI, vaE, ↓reduceIte, reduceCtorEq, Nat.reduceEqDiff, Nat.reduceAdd, Nat.reduceMul, Nat.reduceSub, Nat.reduceLeDiff, Nat.reduceBEq, Int.reduceToNat, Int.reduceLE, Int.reduceLT, Int.reduceEq, Int.reduceNe, di]
  refine loop_keep (α := Nat) rfl (fun k => x.pp.length - k) (fun k => k ≤ x.pp.length)
    (fun k => [(1, .imm (.int .i64 h)), (3, .ref 3 0), (5, .ref 5 0), (6, .ref 6 0), (7, .imm (.int .i64 k))])
    (fun k => [(3, .box [.imm (.slc 2 (x.pp.map ppI)), .imm (nI x.ar)]), (5, .box [.imm (.int .i64 (stA (opn x) h b k).1.1), .imm (.int .i64 (stA (opn x) h b k).1.2), .imm (.int .i64 (stA (opn x) h b k).2.1), .imm (.int .i64 (stA (opn x) h b k).2.2)]), (6, .box [.imm (.int .i64 0), .imm (.int .i64 0), .imm (.int .i64 0), .imm (.int .i64 0)])]) 0 (Nat.zero_le _) (by simp only [vaE, ↓reduceIte, reduceCtorEq, Nat.reduceEqDiff, Nat.reduceAdd, Nat.reduceMul, Nat.reduceSub, Nat.reduceLeDiff, Nat.reduceBEq, Int.reduceToNat, Int.reduceLE, Int.reduceLT, Int.reduceEq, Int.reduceNe, di] <;> rfl) ?_
  intro k hk ih
  simp only [res107, b107k0, b107k1, b107k2, vaE, ↓reduceIte, reduceCtorEq, Nat.reduceEqDiff, Nat.reduceAdd, Nat.reduceMul, Nat.reduceSub, Nat.reduceLeDiff, Nat.reduceBEq, Int.reduceToNat, Int.reduceLE, Int.reduceLT, Int.reduceEq, Int.reduceNe, di]
  split
  · rename_i hlt0
    have hlt : k < x.pp.length := by omega
    have hp := hx.pip _ (getD_mem (d := default) hlt)
    have est : stA (opn x) h b k = ampG (prodP (x.pp.drop k)) (colM b (preM (opn x) h k)) := if_pos hlt
    have hR := prod_bd how k
    have hR1 := prod_bd how (k + 1)
    have hst := col_GB (R := prodP (x.pp.drop k)) (b := b) (pre_TB (h := h) how hlt) hR
    have q1 := r_through (a := ampG (prodP (x.pp.drop k)) (colM b (preM (opn x) h k))) hp hh hst.1 hst.2
    have ethr : thrA (x.pp.getD k default).2 (h * (x.pp.getD k default).1) (ampG (prodP (x.pp.drop k)) (colM b (preM (opn x) h k))) = ampG (prodP (x.pp.drop (k + 1))) (colM b (lineM (opn x) h k)) := by
      rw [prod_step hlt, thr_col (by omega), lineM_pre k]; rfl
    rw [ethr, ← est] at q1
    have hsl := col_GB (R := prodP (x.pp.drop (k + 1))) (b := b) (line_TB (h := h) how hlt) hR1
    simp only [ampI] at q1
    repeat (refine And.intro (by first | omega | exact all_int _ | (simp only [zeros_len, List.length_append, List.length_take, List.length_drop, List.length_set, List.length_cons, List.length_nil, List.length_map]; omega)) ?_)
    refine calls_of q1 ?_; simp only [vaE, res107, b107k0, b107k1, b107k2, ↓reduceIte, reduceCtorEq, Nat.reduceEqDiff, Nat.reduceAdd, Nat.reduceMul, Nat.reduceSub, Nat.reduceLeDiff, Nat.reduceBEq, Int.reduceToNat, Int.reduceLE, Int.reduceLT, Int.reduceEq, Int.reduceNe, di]
    split
    · rename_i hlt2
      have ha := hx.are _ (getD_mem (l := x.ar) (d := 0) (show k < x.ar.length by omega))
      have q2 := r_beyond (h := h) ha hh hsl.1 hsl.2
      rw [by_col, show ampG (prodP (x.pp.drop (k + 1))) (colM b (mtimes (chamM (x.ar.getD k 0) h) (lineM (opn x) h k))) = stA (opn x) h b (k + 1) from (if_pos (show k + 1 < (opn x).pp.length by show k + 1 < x.pp.length; omega)).symm] at q2
      simp only [ampI] at q2
      repeat (refine And.intro (by first | omega | exact all_int _ | (simp only [zeros_len, List.length_append, List.length_take, List.length_drop, List.length_set, List.length_cons, List.length_nil, List.length_map]; omega)) ?_)
      refine calls_of q2 ?_; simp only [vaE, res107, b107k0, b107k1, b107k2, ↓reduceIte, reduceCtorEq, Nat.reduceEqDiff, Nat.reduceAdd, Nat.reduceMul, Nat.reduceSub, Nat.reduceLeDiff, Nat.reduceBEq, Int.reduceToNat, Int.reduceLE, Int.reduceLT, Int.reduceEq, Int.reduceNe, di]
      rw [wrap64 (n := (k : Int) + 1) (by omega) (by omega)]
      exact ih (k + 1) _ _ (by omega) (by omega) (by simp only [vaE, ↓reduceIte, reduceCtorEq, Nat.reduceEqDiff, Nat.reduceAdd, Nat.reduceMul, Nat.reduceSub, Nat.reduceLeDiff, Nat.reduceBEq, Int.reduceToNat, Int.reduceLE, Int.reduceLT, Int.reduceEq, Int.reduceNe, di] <;> rfl)
    · rename_i hlt2
      have he : ampG (prodP (x.pp.drop (k + 1))) (colM b (lineM (opn x) h k)) = stA (opn x) h b (k + 1) := by
        rw [List.drop_of_length_le (by omega), show prodP [] = 1 from rfl, ampG_one]
        have hke : k = x.ar.length := by omega
        unfold stA
        rw [if_neg (by show ¬ k + 1 < x.pp.length; omega), hke]
        rfl
      rw [he, wrap64 (n := (k : Int) + 1) (by omega) (by omega)]
      exact ih (k + 1) _ _ (by omega) (by omega) (by simp only [vaE, ↓reduceIte, reduceCtorEq, Nat.reduceEqDiff, Nat.reduceAdd, Nat.reduceMul, Nat.reduceSub, Nat.reduceLeDiff, Nat.reduceBEq, Int.reduceToNat, Int.reduceLE, Int.reduceLT, Int.reduceEq, Int.reduceNe, di] <;> rfl)
  · rename_i hlt0
    have e : stA (opn x) h b k = colM b (lineMat (opn x) h) := if_neg (by show ¬ k < x.pp.length; omega)
    rw [e]
theorem gcdE_zl {a : Int} (h : 1 ≤ a) : gcdE 0 a = a := by rw [gcdE_comm, gcdE_zero]; omega
theorem gcdG_red {m : Mx} (h : 1 ≤ m.den) : gcdG m.den [m.a, m.b, m.c, m.d] = redG m := by
  obtain ⟨⟨h1, _⟩, ⟨h2, _⟩, ⟨h3, _⟩, _⟩ := redG_bd h
  have e1 : redG1 m = gcdE (gcdE m.den m.a.1) m.a.2 := by
    show gcdE (gcdE (gcdE 0 m.den) m.a.1) m.a.2 = _
    rw [gcdE_zl h]
  have e2 : redG2 m = gcdE (gcdE (redG1 m) m.b.1) m.b.2 := by
    show gcdE (gcdE (gcdE 0 (redG1 m)) m.b.1) m.b.2 = _
    rw [gcdE_zl h1]
  have e3 : redG3 m = gcdE (gcdE (redG2 m) m.c.1) m.c.2 := by
    show gcdE (gcdE (gcdE 0 (redG2 m)) m.c.1) m.c.2 = _
    rw [gcdE_zl h2]
  have e4 : redG m = gcdE (gcdE (redG3 m) m.d.1) m.d.2 := by
    show gcdE (gcdE (gcdE 0 (redG3 m)) m.d.1) m.d.2 = _
    rw [gcdE_zl h3]
  rw [e4, e3, e2, e1]
  rfl
theorem r_Matrix {x : Ln} {h : Int} (hx : LineOk x) (hh : 0 ≤ h ∧ h ≤ 3) : Contract Try.prog 49 [lnI x, .int .i64 h] (mxI (lowM (lineMat (opn x) h))) := by
  have how := opn_ok hx
  have hlen := hx.len
  have hd := (prod_bd how 0)
  rw [List.drop_zero] at hd
  have hden := den_line (h := h) how
  have q1 := r_ends (h := h) (b := true) hx hh
  have q2 := r_ends (h := h) (b := false) hx hh
  have s1 : stA (opn x) h true 0 = ((prodP x.pp, 0), (0, 0)) := by
    unfold stA
    rw [if_pos (by show 0 < x.pp.length; omega)]
    show ((prodP x.pp * 1, prodP x.pp * 0), (prodP x.pp * 0, prodP x.pp * 0)) = _
    simp
  have s2 : stA (opn x) h false 0 = ((0, 0), (prodP x.pp, 0)) := by
    unfold stA
    rw [if_pos (by show 0 < x.pp.length; omega)]
    show ((prodP x.pp * 0, prodP x.pp * 0), (prodP x.pp * 1, prodP x.pp * 0)) = _
    simp
  rw [s1] at q1
  rw [s2] at q2
  have htb := lineMat_TB (h := h) how
  have hg := (redG_bd (m := lineMat (opn x) h) (by rw [hden]; exact hd.1)).2.2.2
  have hred := gcdG_red (m := lineMat (opn x) h) (by rw [hden]; exact hd.1)
  have t1 := htb.a; have t2 := htb.b; have t3 := htb.c; have t4 := htb.d
  rw [show (opn x).pp = x.pp from rfl] at hd hden
  generalize lineMat (opn x) h = m at *
  have ba := GB_B62 (nrm_GB (k := 12500000) (u := m.a) (n := 12500000) (by omega) (by decide)) (by decide)
  have bb := GB_B62 (nrm_GB (k := 12500000) (u := m.b) (n := 12500000) (by omega) (by decide)) (by decide)
  have bc := GB_B62 (nrm_GB (k := 12500000) (u := m.c) (n := 12500000) (by omega) (by decide)) (by decide)
  have bd := GB_B62 (nrm_GB (k := 12500000) (u := m.d) (n := 12500000) (by omega) (by decide)) (by decide)
  have q3 := r_divisor (n := m.den) (l := [m.a, m.b, m.c, m.d]) (by simp) (by rw [hden]; exact ⟨by omega, by omega⟩) (by
    intro g hg
    simp only [List.mem_cons, List.not_mem_nil, or_false] at hg
    rcases hg with rfl | rfl | rfl | rfl
    · exact ba
    · exact bb
    · exact bc
    · exact bd)
  rw [hred] at q3
  have hg0 : redG m ≠ 0 := by omega
  have p1 := r_over ba.1 ba.2 hg0
  have p2 := r_over bb.1 bb.2 hg0
  have p3 := r_over bc.1 bc.2 hg0
  have p4 := r_over bd.1 bd.2 hg0
  simp only [ampI, colM, if_true, Bool.false_eq_true, if_false] at q1 q2
  rw [hden] at q3
  simp only [gI, List.map_cons, List.map_nil] at q3 p1 p2 p3 p4
  refine contract_run Try.func49 k49 rfl ?_
  simp only [body49, b49, res49, mxI, lowM, vaE, ↓reduceIte, reduceCtorEq, Nat.reduceEqDiff, Nat.reduceAdd, Nat.reduceMul, Nat.reduceSub, Nat.reduceLeDiff, Nat.reduceBEq, Int.reduceToNat, Int.reduceLE, Int.reduceLT, Int.reduceEq, Int.reduceNe, di]
  refine calls_of (r_Product hx) ?_; simp only [vaE, res49, ↓reduceIte, reduceCtorEq, Nat.reduceEqDiff, Nat.reduceAdd, Nat.reduceMul, Nat.reduceSub, Nat.reduceLeDiff, Nat.reduceBEq, Int.reduceToNat, Int.reduceLE, Int.reduceLT, Int.reduceEq, Int.reduceNe, di]
  refine calls_of q1 ?_; simp only [vaE, res49, ↓reduceIte, reduceCtorEq, Nat.reduceEqDiff, Nat.reduceAdd, Nat.reduceMul, Nat.reduceSub, Nat.reduceLeDiff, Nat.reduceBEq, Int.reduceToNat, Int.reduceLE, Int.reduceLT, Int.reduceEq, Int.reduceNe, di]
  refine calls_of q2 ?_; simp only [vaE, res49, ↓reduceIte, reduceCtorEq, Nat.reduceEqDiff, Nat.reduceAdd, Nat.reduceMul, Nat.reduceSub, Nat.reduceLeDiff, Nat.reduceBEq, Int.reduceToNat, Int.reduceLE, Int.reduceLT, Int.reduceEq, Int.reduceNe, di]
  refine calls_of q3 ?_; simp only [vaE, res49, ↓reduceIte, reduceCtorEq, Nat.reduceEqDiff, Nat.reduceAdd, Nat.reduceMul, Nat.reduceSub, Nat.reduceLeDiff, Nat.reduceBEq, Int.reduceToNat, Int.reduceLE, Int.reduceLT, Int.reduceEq, Int.reduceNe, di]
  refine calls_of p1 ?_; simp only [vaE, res49, ↓reduceIte, reduceCtorEq, Nat.reduceEqDiff, Nat.reduceAdd, Nat.reduceMul, Nat.reduceSub, Nat.reduceLeDiff, Nat.reduceBEq, Int.reduceToNat, Int.reduceLE, Int.reduceLT, Int.reduceEq, Int.reduceNe, di]
  refine calls_of p2 ?_; simp only [vaE, res49, ↓reduceIte, reduceCtorEq, Nat.reduceEqDiff, Nat.reduceAdd, Nat.reduceMul, Nat.reduceSub, Nat.reduceLeDiff, Nat.reduceBEq, Int.reduceToNat, Int.reduceLE, Int.reduceLT, Int.reduceEq, Int.reduceNe, di]
  refine calls_of p3 ?_; simp only [vaE, res49, ↓reduceIte, reduceCtorEq, Nat.reduceEqDiff, Nat.reduceAdd, Nat.reduceMul, Nat.reduceSub, Nat.reduceLeDiff, Nat.reduceBEq, Int.reduceToNat, Int.reduceLE, Int.reduceLT, Int.reduceEq, Int.reduceNe, di]
  refine calls_of p4 ?_; simp only [vaE, res49, ↓reduceIte, reduceCtorEq, Nat.reduceEqDiff, Nat.reduceAdd, Nat.reduceMul, Nat.reduceSub, Nat.reduceLeDiff, Nat.reduceBEq, Int.reduceToNat, Int.reduceLE, Int.reduceLT, Int.reduceEq, Int.reduceNe, di]
  have hq := tdiv_bd (n := redG m) (show B62 (prodP x.pp) by exact ⟨by omega, by omega⟩)
  unfold B62 at hq
  rw [wrap64 (by omega) (by omega), hden]
  exact ⟨hg0, rfl⟩
def impZ (m : Mx) : Ga × Ga := if m.d = (0, 0) then ((0, 0), (0, 0)) else impL m
theorem tail_Impedance {m : Mx} {z : IV} (bb : B62 m.b.1 ∧ B62 m.b.2) (bd : B62 m.d.1 ∧ B62 m.d.2) (hg : impG m ≠ 0)
    (hz : z = .tup [.agg [.int .i64 (govr m.b (impG m)).1, .int .i64 (govr m.b (impG m)).2, .int .i64 (govr m.d (impG m)).1, .int .i64 (govr m.d (impG m)).2], .bool true]) :
    run Try.prog b48k0 [] (d48.post z) (mkS [(4, .ref 4 0), (6, .ref 6 0), (7, .imm (.int .i64 (impG m)))]
      [(4, .box [.imm (.int .i64 0), .imm (.int .i64 0), .imm (.int .i64 0), .imm (.int .i64 0)]),
        (6, .box [.imm (.int .i64 m.a.1), .imm (.int .i64 m.a.2), .imm (.int .i64 m.b.1), .imm (.int .i64 m.b.2), .imm (.int .i64 m.c.1), .imm (.int .i64 m.c.2), .imm (.int .i64 m.d.1), .imm (.int .i64 m.d.2), .imm (.int .i64 m.den)])]) := by
  subst hz
  have p1 := r_over bb.1 bb.2 hg
  have p2 := r_over bd.1 bd.2 hg
  simp only [gI] at p1 p2
  simp only [b48k0, res48, b48k0, b48k1, b48k2, vaE, ↓reduceIte, reduceCtorEq, Nat.reduceEqDiff, Nat.reduceAdd, Nat.reduceMul, Nat.reduceSub, Nat.reduceLeDiff, Nat.reduceBEq, Int.reduceToNat, Int.reduceLE, Int.reduceLT, Int.reduceEq, Int.reduceNe, di]
  refine calls_of p1 ?_; simp only [vaE, res48, b48k0, b48k1, b48k2, ↓reduceIte, reduceCtorEq, Nat.reduceEqDiff, Nat.reduceAdd, Nat.reduceMul, Nat.reduceSub, Nat.reduceLeDiff, Nat.reduceBEq, Int.reduceToNat, Int.reduceLE, Int.reduceLT, Int.reduceEq, Int.reduceNe, di]
  refine calls_of p2 ?_; simp only [vaE, res48, b48k0, b48k1, b48k2, ↓reduceIte, reduceCtorEq, Nat.reduceEqDiff, Nat.reduceAdd, Nat.reduceMul, Nat.reduceSub, Nat.reduceLeDiff, Nat.reduceBEq, Int.reduceToNat, Int.reduceLE, Int.reduceLT, Int.reduceEq, Int.reduceNe, di]
theorem r_Impedance {x : Ln} {h : Int} (hx : LineOk x) (hh : 0 ≤ h ∧ h ≤ 3) : Contract Try.prog 48 [lnI x, .int .i64 h] (.tup [ratI (impZ (lowM (lineMat (opn x) h))), .bool (decide ((lowM (lineMat (opn x) h)).d ≠ (0, 0)))]) := by
  have how := opn_ok hx
  have q1 := r_Matrix (h := h) hx hh
  obtain ⟨hlow, _⟩ := low_ok (h := h) how
  generalize lowM (lineMat (opn x) h) = m at *
  simp only [mxI] at q1
  have bb := GB_B62 hlow.b (by decide)
  have bd := GB_B62 hlow.d (by decide)
  have q2 := r_divisor (n := 0) (l := [m.b, m.d]) (by simp) ⟨by decide, by decide⟩ (by
    intro g hg
    simp only [List.mem_cons, List.not_mem_nil, or_false] at hg
    rcases hg with rfl | rfl
    · exact bb
    · exact bd)
  rw [show gcdG 0 [m.b, m.d] = gcdS [m.b.1, m.b.2, m.d.1, m.d.2] from rfl] at q2
  simp only [gI, List.map_cons, List.map_nil] at q2
  refine contract_run Try.func48 k48 rfl ?_
  simp only [body48, b48, res48, b48k1, b48k2, ratI, vaE, ↓reduceIte, reduceCtorEq, Nat.reduceEqDiff, Nat.reduceAdd, Nat.reduceMul, Nat.reduceSub, Nat.reduceLeDiff, Nat.reduceBEq, Int.reduceToNat, Int.reduceLE, Int.reduceLT, Int.reduceEq, Int.reduceNe, di]
  refine calls_of q1 ?_; simp only [vaE, res48, b48k1, b48k2, ↓reduceIte, reduceCtorEq, Nat.reduceEqDiff, Nat.reduceAdd, Nat.reduceMul, Nat.reduceSub, Nat.reduceLeDiff, Nat.reduceBEq, Int.reduceToNat, Int.reduceLE, Int.reduceLT, Int.reduceEq, Int.reduceNe, di]
  have ed : (m.d.1 = 0 ∧ m.d.2 = 0) ↔ m.d = (0, 0) := ⟨fun k => Prod.ext k.1 k.2, fun k => by rw [k]; exact ⟨rfl, rfl⟩⟩
  have eb : (m.b.1 = 0 ∧ m.b.2 = 0) ↔ m.b = (0, 0) := ⟨fun k => Prod.ext k.1 k.2, fun k => by rw [k]; exact ⟨rfl, rfl⟩⟩
  by_cases hd : m.d = (0, 0)
  · rw [if_pos (ed.2 hd)]
    unfold impZ
    rw [if_pos hd, decide_eq_false (fun k => k hd)]
  rw [if_neg (fun k => hd (ed.1 k)), decide_eq_true hd]
  have hz : impZ m = impL m := if_neg hd
  rw [hz]
  by_cases hb : m.b = (0, 0)
  · rw [if_pos (eb.2 hb)]
    unfold impL
    rw [if_pos hb]
  rw [if_neg (fun k => hb (eb.1 k))]
  have hL : impL m = (govr m.b (impG m), govr m.d (impG m)) := if_neg hb
  rw [hL]
  have hpos : 1 ≤ gcdS [m.b.1, m.b.2, m.d.1, m.d.2] := gcdL_pos _ _ (by
    by_cases e : m.d.1 = 0
    · exact ⟨m.d.2, by simp, fun e2 => hd (Prod.ext e e2)⟩
    · exact ⟨m.d.1, by simp, e⟩)
  have hub : gcdS [m.b.1, m.b.2, m.d.1, m.d.2] ≤ 4611686018427387904 := gcdL_ub _ (by decide) (by
    intro n hn
    simp only [List.mem_cons, List.not_mem_nil, or_false] at hn
    rcases hn with rfl | rfl | rfl | rfl
    · exact bb.1
    · exact bb.2
    · exact bd.1
    · exact bd.2)
  refine calls_of q2 ?_; simp only [vaE, res48, b48k1, b48k2, ↓reduceIte, reduceCtorEq, Nat.reduceEqDiff, Nat.reduceAdd, Nat.reduceMul, Nat.reduceSub, Nat.reduceLeDiff, Nat.reduceBEq, Int.reduceToNat, Int.reduceLE, Int.reduceLT, Int.reduceEq, Int.reduceNe, di]
  have key : ∀ n, n = impG m → run Try.prog b48k0 [] (d48.post (.tup [.agg [.int .i64 (govr m.b (impG m)).1, .int .i64 (govr m.b (impG m)).2, .int .i64 (govr m.d (impG m)).1, .int .i64 (govr m.d (impG m)).2], .bool true])) (mkS [(4, .ref 4 0), (6, .ref 6 0), (7, .imm (.int .i64 n))]
      [(4, .box [.imm (.int .i64 0), .imm (.int .i64 0), .imm (.int .i64 0), .imm (.int .i64 0)]),
        (6, .box [.imm (.int .i64 m.a.1), .imm (.int .i64 m.a.2), .imm (.int .i64 m.b.1), .imm (.int .i64 m.b.2), .imm (.int .i64 m.c.1), .imm (.int .i64 m.c.2), .imm (.int .i64 m.d.1), .imm (.int .i64 m.d.2), .imm (.int .i64 m.den)])]) := by
    rintro n rfl
    exact tail_Impedance bb bd (by unfold impG; split <;> omega) rfl
  split
  · rename_i hc
    exact key _ (by unfold impG; rw [if_neg (by omega)])
  · rename_i hc
    rw [wrap64 (n := 0 - _) (by omega) (by omega)]
    exact key _ (by unfold impG; rw [if_pos (by omega)]; omega)
theorem r_Resonances {x : Ln} (hx : LineOk x) : Contract Try.prog 46 [lnI x] (nI (resL (opn x))) := by
  have how := opn_ok hx
  refine contract_run Try.func46 k46 rfl ?_
  simp only [body46, b46, res46, b46k0, b46k1, b46k2, vaE, ↓reduceIte, reduceCtorEq, Nat.reduceEqDiff, Nat.reduceAdd, Nat.reduceMul, Nat.reduceSub, Nat.reduceLeDiff, Nat.reduceBEq, Int.reduceToNat, Int.reduceLE, Int.reduceLT, Int.reduceEq, Int.reduceNe, di]
  refine loop_keep (α := Nat) rfl (fun k => 4 - k) (fun k => k ≤ 4)
    (fun k => [(1, .ref 1 0), (3, .own 3), (4, .imm (.int .i64 k))]) (fun k => [(1, .box [.imm (.slc 2 (x.pp.map ppI)), .imm (nI x.ar)]), (3, .tok 1 ((resP (opn x) k).map (.int .i64)))]) 0 (by omega) (by simp only [vaE, ↓reduceIte, reduceCtorEq, Nat.reduceEqDiff, Nat.reduceAdd, Nat.reduceMul, Nat.reduceSub, Nat.reduceLeDiff, Nat.reduceBEq, Int.reduceToNat, Int.reduceLE, Int.reduceLT, Int.reduceEq, Int.reduceNe, di] <;> rfl) ?_
  intro k hk ih
  have hrl := resP_len (x := opn x) (k := k)
  simp only [res46, b46k0, b46k1, b46k2, vaE, ↓reduceIte, reduceCtorEq, Nat.reduceEqDiff, Nat.reduceAdd, Nat.reduceMul, Nat.reduceSub, Nat.reduceLeDiff, Nat.reduceBEq, Int.reduceToNat, Int.reduceLE, Int.reduceLT, Int.reduceEq, Int.reduceNe, di]
  split
  · rename_i h
    have hk4 : k < 4 := by omega
    have q := r_Impedance (h := (k : Int)) hx (by omega)
    have hst := resP_step (x := opn x) hk4
    have hd0 := (low_ok (h := (k : Int)) how).2
    simp only [ratI] at q
    refine calls_of q ?_; simp only [vaE, res46, b46k0, b46k1, b46k2, ↓reduceIte, reduceCtorEq, Nat.reduceEqDiff, Nat.reduceAdd, Nat.reduceMul, Nat.reduceSub, Nat.reduceLeDiff, Nat.reduceBEq, Int.reduceToNat, Int.reduceLE, Int.reduceLT, Int.reduceEq, Int.reduceNe, di]
    rw [wrap64 (n := (k : Int) + 1) (by omega) (by omega)]
    by_cases hd : (lowM (lineMat (opn x) k)).d = (0, 0)
    · rw [if_pos (hd0.1 hd)] at hst
      simp only [hd, vaE, ↓reduceIte, reduceCtorEq, Nat.reduceEqDiff, Nat.reduceAdd, Nat.reduceMul, Nat.reduceSub, Nat.reduceLeDiff, Nat.reduceBEq, Int.reduceToNat, Int.reduceLE, Int.reduceLT, Int.reduceEq, Int.reduceNe, di]
      repeat (refine And.intro (by first | omega | exact all_int _ | (simp only [zeros_len, List.length_append, List.length_take, List.length_drop, List.length_set, List.length_cons, List.length_nil, List.length_map]; omega)) ?_)
      exact ih (k + 1) _ _ (by omega) (by omega) (by rw [hst]; simp only [vaE, ↓reduceIte, reduceCtorEq, Nat.reduceEqDiff, Nat.reduceAdd, Nat.reduceMul, Nat.reduceSub, Nat.reduceLeDiff, Nat.reduceBEq, Int.reduceToNat, Int.reduceLE, Int.reduceLT, Int.reduceEq, Int.reduceNe, di] <;> rfl)
    · rw [if_neg (fun h => hd (hd0.2 h))] at hst
      simp only [hd, vaE, ↓reduceIte, reduceCtorEq, Nat.reduceEqDiff, Nat.reduceAdd, Nat.reduceMul, Nat.reduceSub, Nat.reduceLeDiff, Nat.reduceBEq, Int.reduceToNat, Int.reduceLE, Int.reduceLT, Int.reduceEq, Int.reduceNe, di]
      exact ih (k + 1) _ _ (by omega) (by omega) (by rw [hst, List.append_nil]; simp only [vaE, ↓reduceIte, reduceCtorEq, Nat.reduceEqDiff, Nat.reduceAdd, Nat.reduceMul, Nat.reduceSub, Nat.reduceLeDiff, Nat.reduceBEq, Int.reduceToNat, Int.reduceLE, Int.reduceLT, Int.reduceEq, Int.reduceNe, di] <;> rfl)
  · rename_i h
    rw [show k = 4 by omega, resP_four]
def matZ (x : Ln) (h : Int) : Mx := if matE x h = 0 then lowM (lineMat (opn x) h) else zeroM
theorem w_MatrixOf' {x : Ln} {h : Int} (hx : Few x) : Contract Try.prog 42 [lnI x, .int .i64 h] (.tup [mxI (matZ x h), .int .i64 (matE x h)]) := by
  have k := w_MatrixOf (h := h) hx
  unfold matZ
  split at k
  · rename_i h0; rw [if_pos h0, h0]; exact k
  · rename_i h0; rw [if_neg h0]; exact k
def iqZ (x : Ln) (h : Int) : Ga × Ga := if matE x h = 0 then impZ (lowM (lineMat (opn x) h)) else ((0, 0), (0, 0))
def iqE (x : Ln) (h : Int) : Int := if matE x h = 0 then (if (lowM (lineMat (opn x) h)).d = (0, 0) then 21 else 0) else matE x h
theorem w_ImpedanceAt' {x : Ln} {h : Int} (hx : Few x) : Contract Try.prog 43 [lnI x, .int .i64 h] (.tup [ratI (iqZ x h), .int .i64 (iqE x h)]) := by
  have k := w_ImpedanceAt (h := h) hx
  unfold iqZ iqE impZ
  split at k
  · rename_i h0
    rw [if_pos h0, if_pos h0]
    split at k
    · rename_i h1; rw [if_pos h1, if_pos h1]; exact k
    · rename_i h1; rw [if_neg h1, if_neg h1]; exact k
  · rename_i h0; rw [if_neg h0, if_neg h0]; exact k
def resZ (x : Ln) : List Int := if (chkL x).2 = 0 then resL (opn x) else []
theorem w_ResonancesOf' {x : Ln} (hx : Few x) : Contract Try.prog 44 [lnI x] (.tup [nI (resZ x), .int .i64 (chkL x).2]) := by
  have k := w_ResonancesOf hx
  unfold resZ
  split at k
  · rename_i h0; rw [if_pos h0, h0]; exact k
  · rename_i h0; rw [if_neg h0]; exact k
theorem l_WaveQuarters {x : Ln} {h : Int} : Contract Try.prog 6 [lnI x, .int .i64 h] (.bool true) := by
  refine contract_run Try.func6 k6 rfl ?_
  simp only [body6, b6, res6, b6k0, b6k1, b6k2, b6k3, b6k4, b6k5, b6k6, vaE, ↓reduceIte, reduceCtorEq, Nat.reduceEqDiff, Nat.reduceAdd, Nat.reduceMul, Nat.reduceSub, Nat.reduceLeDiff, Nat.reduceBEq, Int.reduceToNat, Int.reduceLE, Int.reduceLT, Int.reduceEq, Int.reduceNe, di]
  refine calls_of l_awake ?_; simp only [vaE, res6, b6k0, b6k1, b6k2, b6k3, b6k4, b6k5, b6k6, ↓reduceIte, reduceCtorEq, Nat.reduceEqDiff, Nat.reduceAdd, Nat.reduceMul, Nat.reduceSub, Nat.reduceLeDiff, Nat.reduceBEq, Int.reduceToNat, Int.reduceLE, Int.reduceLT, Int.reduceEq, Int.reduceNe, di]
  refine calls_of l_few ?_; simp only [vaE, res6, b6k0, b6k1, b6k2, b6k3, b6k4, b6k5, b6k6, ↓reduceIte, reduceCtorEq, Nat.reduceEqDiff, Nat.reduceAdd, Nat.reduceMul, Nat.reduceSub, Nat.reduceLeDiff, Nat.reduceBEq, Int.reduceToNat, Int.reduceLE, Int.reduceLT, Int.reduceEq, Int.reduceNe, di]
  by_cases hf : x.pp.length ≤ 6 ∧ x.ar.length ≤ 6
  rotate_left
  · simp only [hf, vaE, ↓reduceIte, reduceCtorEq, Nat.reduceEqDiff, Nat.reduceAdd, Nat.reduceMul, Nat.reduceSub, Nat.reduceLeDiff, Nat.reduceBEq, Int.reduceToNat, Int.reduceLE, Int.reduceLT, Int.reduceEq, Int.reduceNe, di]
  simp only [hf, vaE, ↓reduceIte, reduceCtorEq, Nat.reduceEqDiff, Nat.reduceAdd, Nat.reduceMul, Nat.reduceSub, Nat.reduceLeDiff, Nat.reduceBEq, Int.reduceToNat, Int.reduceLE, Int.reduceLT, Int.reduceEq, Int.reduceNe, di]
  have hx : Few x := ⟨by omega, by omega⟩
  have q1 := w_MatrixOf' (h := h) hx
  have q2 := w_ImpedanceAt' (h := h) hx
  simp only [mxI] at q1
  simp only [ratI] at q2
  refine calls_of (r_CopyLine hx) ?_; simp only [vaE, res6, b6k0, b6k1, b6k2, b6k3, b6k4, b6k5, b6k6, ↓reduceIte, reduceCtorEq, Nat.reduceEqDiff, Nat.reduceAdd, Nat.reduceMul, Nat.reduceSub, Nat.reduceLeDiff, Nat.reduceBEq, Int.reduceToNat, Int.reduceLE, Int.reduceLT, Int.reduceEq, Int.reduceNe, di]
  refine calls_of q1 ?_; simp only [vaE, res6, b6k0, b6k1, b6k2, b6k3, b6k4, b6k5, b6k6, ↓reduceIte, reduceCtorEq, Nat.reduceEqDiff, Nat.reduceAdd, Nat.reduceMul, Nat.reduceSub, Nat.reduceLeDiff, Nat.reduceBEq, Int.reduceToNat, Int.reduceLE, Int.reduceLT, Int.reduceEq, Int.reduceNe, di]
  refine calls_of (r_CopyLine hx) ?_; simp only [vaE, res6, b6k0, b6k1, b6k2, b6k3, b6k4, b6k5, b6k6, ↓reduceIte, reduceCtorEq, Nat.reduceEqDiff, Nat.reduceAdd, Nat.reduceMul, Nat.reduceSub, Nat.reduceLeDiff, Nat.reduceBEq, Int.reduceToNat, Int.reduceLE, Int.reduceLT, Int.reduceEq, Int.reduceNe, di]
  refine calls_of q2 ?_; simp only [vaE, res6, b6k0, b6k1, b6k2, b6k3, b6k4, b6k5, b6k6, ↓reduceIte, reduceCtorEq, Nat.reduceEqDiff, Nat.reduceAdd, Nat.reduceMul, Nat.reduceSub, Nat.reduceLeDiff, Nat.reduceBEq, Int.reduceToNat, Int.reduceLE, Int.reduceLT, Int.reduceEq, Int.reduceNe, di]
  refine calls_of (r_CopyLine hx) ?_; simp only [vaE, res6, b6k0, b6k1, b6k2, b6k3, b6k4, b6k5, b6k6, ↓reduceIte, reduceCtorEq, Nat.reduceEqDiff, Nat.reduceAdd, Nat.reduceMul, Nat.reduceSub, Nat.reduceLeDiff, Nat.reduceBEq, Int.reduceToNat, Int.reduceLE, Int.reduceLT, Int.reduceEq, Int.reduceNe, di]
  refine calls_of (w_ResonancesOf' hx) ?_; simp only [vaE, res6, b6k0, b6k1, b6k2, b6k3, b6k4, b6k5, b6k6, ↓reduceIte, reduceCtorEq, Nat.reduceEqDiff, Nat.reduceAdd, Nat.reduceMul, Nat.reduceSub, Nat.reduceLeDiff, Nat.reduceBEq, Int.reduceToNat, Int.reduceLE, Int.reduceLT, Int.reduceEq, Int.reduceNe, di]
  refine calls_of (r_LineErr hx) ?_; simp only [vaE, res6, b6k0, b6k1, b6k2, b6k3, b6k4, b6k5, b6k6, ↓reduceIte, reduceCtorEq, Nat.reduceEqDiff, Nat.reduceAdd, Nat.reduceMul, Nat.reduceSub, Nat.reduceLeDiff, Nat.reduceBEq, Int.reduceToNat, Int.reduceLE, Int.reduceLT, Int.reduceEq, Int.reduceNe, di]
  by_cases h0 : (chkL x).2 = 0
  rotate_left
  · have e1 : matE x h = (chkL x).2 := by unfold matE fstE; rw [if_neg h0]
    have z1 : matZ x h = zeroM := by unfold matZ; rw [e1, if_neg h0]
    have z2 : iqZ x h = ((0, 0), (0, 0)) := by unfold iqZ; rw [e1, if_neg h0]
    have z3 : iqE x h = (chkL x).2 := by unfold iqE; rw [e1, if_neg h0]
    have z4 : resZ x = [] := by unfold resZ; rw [if_neg h0]
    rw [e1, z1, z2, z3, z4]
    simp only [h0, zeroM, vaE, ↓reduceIte, reduceCtorEq, Nat.reduceEqDiff, Nat.reduceAdd, Nat.reduceMul, Nat.reduceSub, Nat.reduceLeDiff, Nat.reduceBEq, Int.reduceToNat, Int.reduceLE, Int.reduceLT, Int.reduceEq, Int.reduceNe, di]
  simp only [h0, vaE, ↓reduceIte, reduceCtorEq, Nat.reduceEqDiff, Nat.reduceAdd, Nat.reduceMul, Nat.reduceSub, Nat.reduceLeDiff, Nat.reduceBEq, Int.reduceToNat, Int.reduceLE, Int.reduceLT, Int.reduceEq, Int.reduceNe, di]
  have hxo := chkL_ok.1 h0
  have hrl : (resL (opn x)).length ≤ 4 := resP_len (k := 4)
  rw [show resZ x = resL (opn x) from if_pos h0]
  refine calls_of (r_Resonances hxo) ?_; simp only [vaE, res6, b6k0, b6k1, b6k2, b6k3, b6k4, b6k5, b6k6, ↓reduceIte, reduceCtorEq, Nat.reduceEqDiff, Nat.reduceAdd, Nat.reduceMul, Nat.reduceSub, Nat.reduceLeDiff, Nat.reduceBEq, Int.reduceToNat, Int.reduceLE, Int.reduceLT, Int.reduceEq, Int.reduceNe, di]
  refine calls_of (c_Ints (a := resL (opn x)) (b := resL (opn x)) (by omega)) ?_; simp only [vaE, res6, b6k0, b6k1, b6k2, b6k3, b6k4, b6k5, b6k6, ↓reduceIte, reduceCtorEq, Nat.reduceEqDiff, Nat.reduceAdd, Nat.reduceMul, Nat.reduceSub, Nat.reduceLeDiff, Nat.reduceBEq, Int.reduceToNat, Int.reduceLE, Int.reduceLT, Int.reduceEq, Int.reduceNe, di]
  refine calls_of r_QuarterErr ?_; simp only [vaE, res6, b6k0, b6k1, b6k2, b6k3, b6k4, b6k5, b6k6, ↓reduceIte, reduceCtorEq, Nat.reduceEqDiff, Nat.reduceAdd, Nat.reduceMul, Nat.reduceSub, Nat.reduceLeDiff, Nat.reduceBEq, Int.reduceToNat, Int.reduceLE, Int.reduceLT, Int.reduceEq, Int.reduceNe, di]
  have e1 : matE x h = quarterE h := by unfold matE fstE; rw [if_pos h0]
  by_cases hq : quarterE h = 0
  rotate_left
  · have z1 : matZ x h = zeroM := by unfold matZ; rw [e1, if_neg hq]
    have z2 : iqZ x h = ((0, 0), (0, 0)) := by unfold iqZ; rw [e1, if_neg hq]
    have z3 : iqE x h = quarterE h := by unfold iqE; rw [e1, if_neg hq]
    rw [e1, z1, z2, z3]
    simp only [hq, zeroM, vaE, ↓reduceIte, reduceCtorEq, Nat.reduceEqDiff, Nat.reduceAdd, Nat.reduceMul, Nat.reduceSub, Nat.reduceLeDiff, Nat.reduceBEq, Int.reduceToNat, Int.reduceLE, Int.reduceLT, Int.reduceEq, Int.reduceNe, di]
  have hm0 : matE x h = 0 := e1.trans hq
  have hh := (matE_zero.1 hm0).2
  have z1 : matZ x h = lowM (lineMat (opn x) h) := if_pos hm0
  have z2 : iqZ x h = impZ (lowM (lineMat (opn x) h)) := if_pos hm0
  have z3 : iqE x h = if (lowM (lineMat (opn x) h)).d = (0, 0) then 21 else 0 := if_pos hm0
  have p1 := r_Impedance (h := h) hxo hh
  have p2 := r_Matrix (h := h) hxo hh
  rw [hm0, z1, z2, z3]
  generalize lowM (lineMat (opn x) h) = m at *
  simp only [ratI] at p1
  simp only [mxI] at p2
  simp only [hq, vaE, ↓reduceIte, reduceCtorEq, Nat.reduceEqDiff, Nat.reduceAdd, Nat.reduceMul, Nat.reduceSub, Nat.reduceLeDiff, Nat.reduceBEq, Int.reduceToNat, Int.reduceLE, Int.reduceLT, Int.reduceEq, Int.reduceNe, di]
  refine calls_of p1 ?_; simp only [vaE, res6, b6k0, b6k1, b6k2, b6k3, b6k4, b6k5, b6k6, ↓reduceIte, reduceCtorEq, Nat.reduceEqDiff, Nat.reduceAdd, Nat.reduceMul, Nat.reduceSub, Nat.reduceLeDiff, Nat.reduceBEq, Int.reduceToNat, Int.reduceLE, Int.reduceLT, Int.reduceEq, Int.reduceNe, di]
  refine calls_of p2 ?_; simp only [vaE, res6, b6k0, b6k1, b6k2, b6k3, b6k4, b6k5, b6k6, ↓reduceIte, reduceCtorEq, Nat.reduceEqDiff, Nat.reduceAdd, Nat.reduceMul, Nat.reduceSub, Nat.reduceLeDiff, Nat.reduceBEq, Int.reduceToNat, Int.reduceLE, Int.reduceLT, Int.reduceEq, Int.reduceNe, di]
  by_cases hd : m.d = (0, 0)
  · have hz : impZ m = ((0, 0), (0, 0)) := if_pos hd
    rw [hz]
    simp only [hd, vaE, ↓reduceIte, reduceCtorEq, Nat.reduceEqDiff, Nat.reduceAdd, Nat.reduceMul, Nat.reduceSub, Nat.reduceLeDiff, Nat.reduceBEq, Int.reduceToNat, Int.reduceLE, Int.reduceLT, Int.reduceEq, Int.reduceNe, di]
  · simp only [hd, vaE, ↓reduceIte, reduceCtorEq, Nat.reduceEqDiff, Nat.reduceAdd, Nat.reduceMul, Nat.reduceSub, Nat.reduceLeDiff, Nat.reduceBEq, Int.reduceToNat, Int.reduceLE, Int.reduceLT, Int.reduceEq, Int.reduceNe, di]
end Go.DI

