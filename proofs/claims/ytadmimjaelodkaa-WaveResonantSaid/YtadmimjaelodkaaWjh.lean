/- The statement WaveResonant, as a contract. No condition. -/
import Derived.Test.YtadmimjaelodkaaWjf
import Derived.Test.YtadmimjaelodkaaWjg
import Derived.Test.YtadmimjaelodkaaWjd
set_option linter.unusedSimpArgs false
set_option maxRecDepth 100000
namespace Go.DI
open Go.Proofs Go.RowKit

theorem c_Has {l : List Int} {n : Int} (hl : l.length ≤ 1000000) : Contract Try.prog 51 [nI l, .int .i64 n] (.bool (decide (n ∈ l))) := by
  refine contract_run Try.func51 k51 rfl ?_
  simp only [body51, b51, res51, b51k0, b51k1, b51k2, vaE, ↓reduceIte, reduceCtorEq, Nat.reduceEqDiff, Nat.reduceAdd, Nat.reduceMul, Nat.reduceSub, Nat.reduceLeDiff, Nat.reduceBEq, Int.reduceToNat, Int.reduceLE, Int.reduceLT, Int.reduceEq, Int.reduceNe, di]
  refine loop_keep (α := Nat) rfl (fun i => l.length - i) (fun i => i ≤ l.length ∧ (n ∈ l ↔ n ∈ l.drop i))
    (fun i => [(0, .imm (nI l)), (1, .imm (.int .i64 n)), (5, .imm (.int .i64 i))]) (fun _ => []) 0 ⟨Nat.zero_le _, Iff.rfl⟩ (by simp only [vaE, ↓reduceIte, reduceCtorEq, Nat.reduceEqDiff, Nat.reduceAdd, Nat.reduceMul, Nat.reduceSub, Nat.reduceLeDiff, Nat.reduceBEq, Int.reduceToNat, Int.reduceLE, Int.reduceLT, Int.reduceEq, Int.reduceNe, di] <;> rfl) ?_
  rintro i ⟨hi, he⟩ ih
  simp only [res51, b51k0, b51k1, b51k2, vaE, ↓reduceIte, reduceCtorEq, Nat.reduceEqDiff, Nat.reduceAdd, Nat.reduceMul, Nat.reduceSub, Nat.reduceLeDiff, Nat.reduceBEq, Int.reduceToNat, Int.reduceLE, Int.reduceLT, Int.reduceEq, Int.reduceNe, di]
  split
  · rename_i h
    have hlt : i < l.length := by omega
    repeat (refine And.intro (by first | omega | exact all_int _ | (simp only [zeros_len, List.length_append, List.length_take, List.length_drop, List.length_set, List.length_cons, List.length_nil, List.length_map]; omega)) ?_)
    rw [getD_drop hlt, List.mem_cons] at he
    split
    · rename_i h2
      rw [decide_eq_true (he.2 (.inl h2.symm))]
    · rename_i h2
      rw [wrap64 (by omega) (by omega)]
      exact ih (i + 1) _ _ (by omega) ⟨by omega, he.trans ⟨fun k => k.resolve_left (fun e => h2 e.symm), .inr⟩⟩ (by simp only [vaE, ↓reduceIte, reduceCtorEq, Nat.reduceEqDiff, Nat.reduceAdd, Nat.reduceMul, Nat.reduceSub, Nat.reduceLeDiff, Nat.reduceBEq, Int.reduceToNat, Int.reduceLE, Int.reduceLT, Int.reduceEq, Int.reduceNe, di] <;> rfl)
  · rename_i h
    have : i = l.length := by omega
    subst this
    rw [List.drop_length] at he
    rw [decide_eq_false (fun k => by have := he.1 k; cases this)]
theorem gmul_bd {u v : Ga} (hu : GB 12500000 u) (hv : GB 12500000 v) : ((-156250000000000 ≤ u.1 * v.1 ∧ u.1 * v.1 ≤ 156250000000000) ∧ -156250000000000 ≤ u.2 * v.2 ∧ u.2 * v.2 ≤ 156250000000000) ∧ (-156250000000000 ≤ u.1 * v.2 ∧ u.1 * v.2 ≤ 156250000000000) ∧ -156250000000000 ≤ u.2 * v.1 ∧ u.2 * v.1 ≤ 156250000000000 := by
  have key : ∀ a b : Int, -12500000 ≤ a ∧ a ≤ 12500000 → -12500000 ≤ b ∧ b ≤ 12500000 → -156250000000000 ≤ a * b ∧ a * b ≤ 156250000000000 := by
    intro a b ha hb
    have h1 := Int.natAbs_mul a b
    have h2 : a.natAbs * b.natAbs ≤ 12500000 * 12500000 := Nat.mul_le_mul (by omega) (by omega)
    omega
  exact ⟨⟨key _ _ hu.1 hv.1, key _ _ hu.2 hv.2⟩, key _ _ hu.1 hv.2, key _ _ hu.2 hv.1⟩
theorem c_GMul {u v : Ga} (hu : GB 12500000 u) (hv : GB 12500000 v) : Contract Try.prog 53 [gI u, gI v] (gI (gmul u v)) := by
  have hb := gmul_bd hu hv
  refine contract_run Try.func53 k53 rfl ?_
  simp only [body53, b53, res53, gI, vaE, ↓reduceIte, reduceCtorEq, Nat.reduceEqDiff, Nat.reduceAdd, Nat.reduceMul, Nat.reduceSub, Nat.reduceLeDiff, Nat.reduceBEq, Int.reduceToNat, Int.reduceLE, Int.reduceLT, Int.reduceEq, Int.reduceNe, di]
  rw [wrap64 (n := u.1 * v.1) (by omega) (by omega), wrap64 (n := u.2 * v.2) (by omega) (by omega), wrap64 (n := u.1 * v.2) (by omega) (by omega), wrap64 (n := u.2 * v.1) (by omega) (by omega), wrap64 (n := u.1 * v.1 - u.2 * v.2) (by omega) (by omega), wrap64 (n := u.1 * v.2 + u.2 * v.1) (by omega) (by omega)]
  rfl
theorem c_GSub {u v : Ga} (hu : GB 1000000000000000 u) (hv : GB 1000000000000000 v) : Contract Try.prog 52 [gI u, gI v] (gI (gsub u v)) := by
  have h1 := hu.1; have h2 := hu.2; have h3 := hv.1; have h4 := hv.2
  refine contract_run Try.func52 k52 rfl ?_
  simp only [body52, b52, res52, gI, vaE, ↓reduceIte, reduceCtorEq, Nat.reduceEqDiff, Nat.reduceAdd, Nat.reduceMul, Nat.reduceSub, Nat.reduceLeDiff, Nat.reduceBEq, Int.reduceToNat, Int.reduceLE, Int.reduceLT, Int.reduceEq, Int.reduceNe, di]
  rw [wrap64 (n := u.1 - v.1) (by omega) (by omega), wrap64 (n := u.2 - v.2) (by omega) (by omega)]
  rfl
theorem gmul_GB {u v : Ga} (hu : GB 12500000 u) (hv : GB 12500000 v) : GB 1000000000000000 (gmul u v) := by
  have hb := gmul_bd hu hv
  exact ⟨by show -1000000000000000 ≤ u.1 * v.1 - u.2 * v.2 ∧ u.1 * v.1 - u.2 * v.2 ≤ 1000000000000000; omega, by show -1000000000000000 ≤ u.1 * v.2 + u.2 * v.1 ∧ u.1 * v.2 + u.2 * v.1 ≤ 1000000000000000; omega⟩
theorem r_QuarterErr {h : Int} : Contract Try.prog 47 [.int .i64 h] (.int .i64 (quarterE h)) := by
  refine contract_run Try.func47 k47 rfl ?_
  simp only [body47, b47, res47, b47k0, vaE, ↓reduceIte, reduceCtorEq, Nat.reduceEqDiff, Nat.reduceAdd, Nat.reduceMul, Nat.reduceSub, Nat.reduceLeDiff, Nat.reduceBEq, Int.reduceToNat, Int.reduceLE, Int.reduceLT, Int.reduceEq, Int.reduceNe, di]
  refine calls_of c_Within ?_; simp only [vaE, res47, b47k0, ↓reduceIte, reduceCtorEq, Nat.reduceEqDiff, Nat.reduceAdd, Nat.reduceMul, Nat.reduceSub, Nat.reduceLeDiff, Nat.reduceBEq, Int.reduceToNat, Int.reduceLE, Int.reduceLT, Int.reduceEq, Int.reduceNe, di]
  unfold quarterE
  split <;> rfl
theorem l_odd {n : Int} (hn : 0 ≤ n ∧ n ≤ 1000000) : Contract Try.prog 50 [.int .i64 n] (nI (if n % 2 = 1 then [1, 3] else [])) := by
  refine contract_run Try.func50 k50 rfl ?_
  simp only [body50, b50, res50, b50k0, vaE, ↓reduceIte, reduceCtorEq, Nat.reduceEqDiff, Nat.reduceAdd, Nat.reduceMul, Nat.reduceSub, Nat.reduceLeDiff, Nat.reduceBEq, Int.reduceToNat, Int.reduceLE, Int.reduceLT, Int.reduceEq, Int.reduceNe, di]
  rw [Int.tmod_eq_emod_of_nonneg hn.1]
  by_cases h : n % 2 = 1
  · rw [if_pos h, if_pos h]; rfl
  · rw [if_neg h, if_neg h]; rfl
theorem tail_WaveResonant {m : Mx} {z : Ga × Ga} {e : Int} (hm : LowOk m) (hc : m.d = (0, 0) ∧ z = ((0, 0), (0, 0)) ∧ e = 21 ∨ m.d ≠ (0, 0) ∧ z = impL m ∧ e = 0) :
    run Try.prog b7k5 [] (d7.post (.bool true)) (mkS [(7, .ref 7 0), (9, .ref 9 0), (10, .imm (.int .i64 e))]
      [(7, .box [.imm (.int .i64 m.a.1), .imm (.int .i64 m.a.2), .imm (.int .i64 m.b.1), .imm (.int .i64 m.b.2), .imm (.int .i64 m.c.1), .imm (.int .i64 m.c.2), .imm (.int .i64 m.d.1), .imm (.int .i64 m.d.2), .imm (.int .i64 m.den)]),
        (9, .box [.imm (.int .i64 z.1.1), .imm (.int .i64 z.1.2), .imm (.int .i64 z.2.1), .imm (.int .i64 z.2.2)])]) := by
  have hz : GB 12500000 z.1 ∧ GB 12500000 z.2 := by
    rcases hc with ⟨_, h, _⟩ | ⟨hd, h, _⟩
    · rw [h]
      exact ⟨⟨by decide, by decide⟩, by decide, by decide⟩
    · rw [h]
      exact (imp_ok hm.b hm.d (by decide) hd).1
  obtain ⟨P, hP, hl, hB⟩ : ∃ P : List Ga, P.map gI = [gI m.a, gI m.b, gI m.c, gI m.d, gI z.1, gI z.2] ∧ P.length = 6 ∧ ∀ g ∈ P, GB 12500000 g := by
    refine ⟨[m.a, m.b, m.c, m.d, z.1, z.2], rfl, rfl, fun g hg => ?_⟩
    simp only [List.mem_cons, List.not_mem_nil, or_false] at hg
    rcases hg with rfl | rfl | rfl | rfl | rfl | rfl
    · exact hm.a
    · exact hm.b
    · exact hm.c
    · exact hm.d
    · exact hz.1
    · exact hz.2
  simp only [b7k5, res7, b7k5, b7k6, b7k7, vaE, ↓reduceIte, reduceCtorEq, Nat.reduceEqDiff, Nat.reduceAdd, Nat.reduceMul, Nat.reduceSub, Nat.reduceLeDiff, Nat.reduceBEq, Int.reduceToNat, Int.reduceLE, Int.reduceLT, Int.reduceEq, Int.reduceNe, di]
  refine loop_keep (α := Nat) rfl (fun i => P.length - i) (fun i => i ≤ P.length)
    (fun i => [(7, .ref 7 0), (9, .ref 9 0), (10, .imm (.int .i64 e)), (11, .imm (.slc 2 (P.map gI))), (12, .imm (.int .i64 i))])
    (fun _ => [(7, .box [.imm (.int .i64 m.a.1), .imm (.int .i64 m.a.2), .imm (.int .i64 m.b.1), .imm (.int .i64 m.b.2), .imm (.int .i64 m.c.1), .imm (.int .i64 m.c.2), .imm (.int .i64 m.d.1), .imm (.int .i64 m.d.2), .imm (.int .i64 m.den)]),
        (9, .box [.imm (.int .i64 z.1.1), .imm (.int .i64 z.1.2), .imm (.int .i64 z.2.1), .imm (.int .i64 z.2.2)])]) 0 (by omega) (by rw [hP]; simp only [gI, vaE, ↓reduceIte, reduceCtorEq, Nat.reduceEqDiff, Nat.reduceAdd, Nat.reduceMul, Nat.reduceSub, Nat.reduceLeDiff, Nat.reduceBEq, Int.reduceToNat, Int.reduceLE, Int.reduceLT, Int.reduceEq, Int.reduceNe, di] <;> rfl) ?_
  intro i hi ih
  simp only [res7, b7k5, b7k6, b7k7, b7k1, b7k0, gI, vaE, ↓reduceIte, reduceCtorEq, Nat.reduceEqDiff, Nat.reduceAdd, Nat.reduceMul, Nat.reduceSub, Nat.reduceLeDiff, Nat.reduceBEq, Int.reduceToNat, Int.reduceLE, Int.reduceLT, Int.reduceEq, Int.reduceNe, di]
  split
  · rename_i h
    have hg := hB _ (getD_mem (d := default) (show i < P.length by omega))
    have hg1 := hg.1
    have hg2 := hg.2
    repeat (refine And.intro (by first | omega | exact all_int _ | (simp only [zeros_len, List.length_append, List.length_take, List.length_drop, List.length_set, List.length_cons, List.length_nil, List.length_map]; omega)) ?_)
    refine calls_of c_Within ?_; simp only [vaE, res7, b7k5, b7k6, b7k7, ↓reduceIte, reduceCtorEq, Nat.reduceEqDiff, Nat.reduceAdd, Nat.reduceMul, Nat.reduceSub, Nat.reduceLeDiff, Nat.reduceBEq, Int.reduceToNat, Int.reduceLE, Int.reduceLT, Int.reduceEq, Int.reduceNe, di]
    rw [if_pos (by omega)]
    simp only [res7, b7k5, b7k6, b7k7, gI, vaE, ↓reduceIte, reduceCtorEq, Nat.reduceEqDiff, Nat.reduceAdd, Nat.reduceMul, Nat.reduceSub, Nat.reduceLeDiff, Nat.reduceBEq, Int.reduceToNat, Int.reduceLE, Int.reduceLT, Int.reduceEq, Int.reduceNe, di]
    repeat (refine And.intro (by first | omega | exact all_int _ | (simp only [zeros_len, List.length_append, List.length_take, List.length_drop, List.length_set, List.length_cons, List.length_nil, List.length_map]; omega)) ?_)
    refine calls_of c_Within ?_; simp only [vaE, res7, b7k5, b7k6, b7k7, ↓reduceIte, reduceCtorEq, Nat.reduceEqDiff, Nat.reduceAdd, Nat.reduceMul, Nat.reduceSub, Nat.reduceLeDiff, Nat.reduceBEq, Int.reduceToNat, Int.reduceLE, Int.reduceLT, Int.reduceEq, Int.reduceNe, di]
    rw [if_pos (by omega), wrap64 (n := (i : Int) + 1) (by omega) (by omega)]
    exact ih (i + 1) _ _ (by omega) (by omega) (by simp only [gI, vaE, ↓reduceIte, reduceCtorEq, Nat.reduceEqDiff, Nat.reduceAdd, Nat.reduceMul, Nat.reduceSub, Nat.reduceLeDiff, Nat.reduceBEq, Int.reduceToNat, Int.reduceLE, Int.reduceLT, Int.reduceEq, Int.reduceNe, di] <;> rfl)
  · rename_i h
    have p1 := c_GMul hm.a hm.d
    have p2 := c_GMul hm.b hm.c
    have p3 := c_GSub (gmul_GB hm.a hm.d) (gmul_GB hm.b hm.c)
    have hdet : gsub (gmul m.a m.d) (gmul m.b m.c) = (m.den * m.den, 0) := hm.det
    have hden := hm.den
    have hdd := mul_bd (y := m.den) (k := 10000) (M := 10000) (by omega) (by decide) (show -10000 ≤ m.den ∧ m.den ≤ 10000 by omega)
    rw [hdet] at p3
    simp only [gI] at p1 p2 p3
    simp only [b7k4, res7, b7k0, b7k1, b7k2, b7k3, b7k4, b7k5, b7k6, b7k7, vaE, ↓reduceIte, reduceCtorEq, Nat.reduceEqDiff, Nat.reduceAdd, Nat.reduceMul, Nat.reduceSub, Nat.reduceLeDiff, Nat.reduceBEq, Int.reduceToNat, Int.reduceLE, Int.reduceLT, Int.reduceEq, Int.reduceNe, di]
    refine calls_of c_Within ?_; simp only [vaE, res7, b7k0, b7k1, b7k2, b7k3, b7k4, b7k5, b7k6, b7k7, ↓reduceIte, reduceCtorEq, Nat.reduceEqDiff, Nat.reduceAdd, Nat.reduceMul, Nat.reduceSub, Nat.reduceLeDiff, Nat.reduceBEq, Int.reduceToNat, Int.reduceLE, Int.reduceLT, Int.reduceEq, Int.reduceNe, di]
    rw [if_pos (by omega)]
    refine calls_of p1 ?_; simp only [vaE, res7, b7k0, b7k1, b7k2, b7k3, b7k4, b7k5, b7k6, b7k7, ↓reduceIte, reduceCtorEq, Nat.reduceEqDiff, Nat.reduceAdd, Nat.reduceMul, Nat.reduceSub, Nat.reduceLeDiff, Nat.reduceBEq, Int.reduceToNat, Int.reduceLE, Int.reduceLT, Int.reduceEq, Int.reduceNe, di]
    refine calls_of p2 ?_; simp only [vaE, res7, b7k0, b7k1, b7k2, b7k3, b7k4, b7k5, b7k6, b7k7, ↓reduceIte, reduceCtorEq, Nat.reduceEqDiff, Nat.reduceAdd, Nat.reduceMul, Nat.reduceSub, Nat.reduceLeDiff, Nat.reduceBEq, Int.reduceToNat, Int.reduceLE, Int.reduceLT, Int.reduceEq, Int.reduceNe, di]
    refine calls_of p3 ?_; simp only [vaE, res7, b7k0, b7k1, b7k2, b7k3, b7k4, b7k5, b7k6, b7k7, ↓reduceIte, reduceCtorEq, Nat.reduceEqDiff, Nat.reduceAdd, Nat.reduceMul, Nat.reduceSub, Nat.reduceLeDiff, Nat.reduceBEq, Int.reduceToNat, Int.reduceLE, Int.reduceLT, Int.reduceEq, Int.reduceNe, di]
    rw [wrap64 (n := m.den * m.den) (by omega) (by omega)]
    rw [if_pos rfl]
    rcases hc with ⟨hd, hz0, he⟩ | ⟨hd, hz0, he⟩
    · subst he
      rfl
    · subst he
      obtain ⟨_, hne, hmul⟩ := imp_ok hm.b hm.d (by decide) hd
      rw [← hz0] at hne hmul
      have p4 := c_GMul hz.1 hm.d
      have p5 := c_GMul hz.2 hm.b
      rw [hmul] at p4
      simp only [gI] at p4 p5
      have hnz : (decide (z.2.1 = 0) && decide (z.2.2 = 0)) = false := by
        cases hb : (decide (z.2.1 = 0) && decide (z.2.2 = 0))
        · rfl
        · simp only [Bool.and_eq_true, decide_eq_true_eq] at hb
          exact absurd (Prod.ext hb.1 hb.2) hne
      rw [if_pos rfl, if_pos hnz]
      refine calls_of p4 ?_; simp only [vaE, res7, b7k0, b7k1, b7k2, b7k3, b7k4, b7k5, b7k6, b7k7, ↓reduceIte, reduceCtorEq, Nat.reduceEqDiff, Nat.reduceAdd, Nat.reduceMul, Nat.reduceSub, Nat.reduceLeDiff, Nat.reduceBEq, Int.reduceToNat, Int.reduceLE, Int.reduceLT, Int.reduceEq, Int.reduceNe, di]
      refine calls_of p5 ?_; simp only [vaE, res7, b7k0, b7k1, b7k2, b7k3, b7k4, b7k5, b7k6, b7k7, ↓reduceIte, reduceCtorEq, Nat.reduceEqDiff, Nat.reduceAdd, Nat.reduceMul, Nat.reduceSub, Nat.reduceLeDiff, Nat.reduceBEq, Int.reduceToNat, Int.reduceLE, Int.reduceLT, Int.reduceEq, Int.reduceNe, di]
theorem l_WaveResonant {x : Ln} {h : Int} : Contract Try.prog 7 [lnI x, .int .i64 h] (.bool true) := by
  refine contract_run Try.func7 k7 rfl ?_
  simp only [body7, b7, res7, b7k6, b7k7, vaE, ↓reduceIte, reduceCtorEq, Nat.reduceEqDiff, Nat.reduceAdd, Nat.reduceMul, Nat.reduceSub, Nat.reduceLeDiff, Nat.reduceBEq, Int.reduceToNat, Int.reduceLE, Int.reduceLT, Int.reduceEq, Int.reduceNe, di]
  refine calls_of l_awake ?_; simp only [vaE, res7, b7k6, b7k7, ↓reduceIte, reduceCtorEq, Nat.reduceEqDiff, Nat.reduceAdd, Nat.reduceMul, Nat.reduceSub, Nat.reduceLeDiff, Nat.reduceBEq, Int.reduceToNat, Int.reduceLE, Int.reduceLT, Int.reduceEq, Int.reduceNe, di]
  refine calls_of l_few ?_; simp only [vaE, res7, b7k6, b7k7, ↓reduceIte, reduceCtorEq, Nat.reduceEqDiff, Nat.reduceAdd, Nat.reduceMul, Nat.reduceSub, Nat.reduceLeDiff, Nat.reduceBEq, Int.reduceToNat, Int.reduceLE, Int.reduceLT, Int.reduceEq, Int.reduceNe, di]
  by_cases hf : x.pp.length ≤ 6 ∧ x.ar.length ≤ 6
  rotate_left
  · simp only [hf, false_and, vaE, ↓reduceIte, reduceCtorEq, Nat.reduceEqDiff, Nat.reduceAdd, Nat.reduceMul, Nat.reduceSub, Nat.reduceLeDiff, Nat.reduceBEq, Int.reduceToNat, Int.reduceLE, Int.reduceLT, Int.reduceEq, Int.reduceNe, di]
  simp only [hf, vaE, ↓reduceIte, reduceCtorEq, Nat.reduceEqDiff, Nat.reduceAdd, Nat.reduceMul, Nat.reduceSub, Nat.reduceLeDiff, Nat.reduceBEq, Int.reduceToNat, Int.reduceLE, Int.reduceLT, Int.reduceEq, Int.reduceNe, di]
  have hx : Few x := ⟨by omega, by omega⟩
  refine calls_of (r_LineErr hx) ?_; simp only [vaE, res7, b7k6, b7k7, ↓reduceIte, reduceCtorEq, Nat.reduceEqDiff, Nat.reduceAdd, Nat.reduceMul, Nat.reduceSub, Nat.reduceLeDiff, Nat.reduceBEq, Int.reduceToNat, Int.reduceLE, Int.reduceLT, Int.reduceEq, Int.reduceNe, di]
  by_cases h0 : (chkL x).2 = 0
  rotate_left
  · simp only [h0, false_and, vaE, ↓reduceIte, reduceCtorEq, Nat.reduceEqDiff, Nat.reduceAdd, Nat.reduceMul, Nat.reduceSub, Nat.reduceLeDiff, Nat.reduceBEq, Int.reduceToNat, Int.reduceLE, Int.reduceLT, Int.reduceEq, Int.reduceNe, di]
  have hxo := chkL_ok.1 h0
  simp only [h0, vaE, ↓reduceIte, reduceCtorEq, Nat.reduceEqDiff, Nat.reduceAdd, Nat.reduceMul, Nat.reduceSub, Nat.reduceLeDiff, Nat.reduceBEq, Int.reduceToNat, Int.reduceLE, Int.reduceLT, Int.reduceEq, Int.reduceNe, di]
  refine calls_of r_QuarterErr ?_; simp only [vaE, res7, b7k6, b7k7, ↓reduceIte, reduceCtorEq, Nat.reduceEqDiff, Nat.reduceAdd, Nat.reduceMul, Nat.reduceSub, Nat.reduceLeDiff, Nat.reduceBEq, Int.reduceToNat, Int.reduceLE, Int.reduceLT, Int.reduceEq, Int.reduceNe, di]
  by_cases hq : quarterE h = 0
  rotate_left
  · simp only [hq, vaE, ↓reduceIte, reduceCtorEq, Nat.reduceEqDiff, Nat.reduceAdd, Nat.reduceMul, Nat.reduceSub, Nat.reduceLeDiff, Nat.reduceBEq, Int.reduceToNat, Int.reduceLE, Int.reduceLT, Int.reduceEq, Int.reduceNe, di]
  simp only [hq, vaE, ↓reduceIte, reduceCtorEq, Nat.reduceEqDiff, Nat.reduceAdd, Nat.reduceMul, Nat.reduceSub, Nat.reduceLeDiff, Nat.reduceBEq, Int.reduceToNat, Int.reduceLE, Int.reduceLT, Int.reduceEq, Int.reduceNe, di]
  have how := opn_ok hxo
  have hm0 : matE x h = 0 := fstE_zero.2 ⟨h0, hq⟩
  have hR := w_ResonancesOf hx
  rw [if_pos h0] at hR
  have hM := w_MatrixOf (h := h) hx
  rw [if_pos hm0] at hM
  have hZ := w_ImpedanceAt (h := h) hx
  rw [if_pos hm0] at hZ
  obtain ⟨hlow, hd0⟩ := low_ok (h := h) how
  have hmem : h ∈ resL (opn x) ↔ (lowM (lineMat (opn x) h)).d = (0, 0) := by
    rw [hd0]
    unfold resL
    rw [List.mem_filter]
    simp only [decide_eq_true_eq]
    refine ⟨fun k => k.2, fun k => ⟨?_, k⟩⟩
    have := (matE_zero.1 hm0).2
    have : h = 0 ∨ h = 1 ∨ h = 2 ∨ h = 3 := by omega
    rcases this with rfl | rfl | rfl | rfl <;> simp
  have hpr := fun hp => plain_res (x := x) hxo hp
  have hlen : (resL (opn x)).length ≤ 4 := resP_len (k := 4)
  have hN := how.nb
  generalize lowM (lineMat (opn x) h) = m at *
  generalize resL (opn x) = l at *
  have hzz : ∃ z : Ga × Ga, ∃ e : Int, Contract Try.prog 43 [lnI x, .int .i64 h] (.tup [ratI z, .int .i64 e]) ∧ (m.d = (0, 0) ∧ z = ((0, 0), (0, 0)) ∧ e = 21 ∨ m.d ≠ (0, 0) ∧ z = impL m ∧ e = 0) := by
    by_cases hd : m.d = (0, 0)
    · rw [if_pos hd] at hZ
      exact ⟨_, _, hZ, .inl ⟨hd, rfl, rfl⟩⟩
    · rw [if_neg hd] at hZ
      exact ⟨_, _, hZ, .inr ⟨hd, rfl, rfl⟩⟩
  obtain ⟨z, e, hZ, hcase⟩ := hzz
  simp only [mxI] at hM
  simp only [ratI] at hZ
  refine calls_of (r_CopyLine hx) ?_; simp only [vaE, res7, b7k6, b7k7, ↓reduceIte, reduceCtorEq, Nat.reduceEqDiff, Nat.reduceAdd, Nat.reduceMul, Nat.reduceSub, Nat.reduceLeDiff, Nat.reduceBEq, Int.reduceToNat, Int.reduceLE, Int.reduceLT, Int.reduceEq, Int.reduceNe, di]
  refine calls_of hR ?_; simp only [vaE, res7, b7k6, b7k7, ↓reduceIte, reduceCtorEq, Nat.reduceEqDiff, Nat.reduceAdd, Nat.reduceMul, Nat.reduceSub, Nat.reduceLeDiff, Nat.reduceBEq, Int.reduceToNat, Int.reduceLE, Int.reduceLT, Int.reduceEq, Int.reduceNe, di]
  refine calls_of (r_CopyLine hx) ?_; simp only [vaE, res7, b7k6, b7k7, ↓reduceIte, reduceCtorEq, Nat.reduceEqDiff, Nat.reduceAdd, Nat.reduceMul, Nat.reduceSub, Nat.reduceLeDiff, Nat.reduceBEq, Int.reduceToNat, Int.reduceLE, Int.reduceLT, Int.reduceEq, Int.reduceNe, di]
  refine calls_of hM ?_; simp only [vaE, res7, b7k6, b7k7, ↓reduceIte, reduceCtorEq, Nat.reduceEqDiff, Nat.reduceAdd, Nat.reduceMul, Nat.reduceSub, Nat.reduceLeDiff, Nat.reduceBEq, Int.reduceToNat, Int.reduceLE, Int.reduceLT, Int.reduceEq, Int.reduceNe, di]
  refine calls_of (r_CopyLine hx) ?_; simp only [vaE, res7, b7k6, b7k7, ↓reduceIte, reduceCtorEq, Nat.reduceEqDiff, Nat.reduceAdd, Nat.reduceMul, Nat.reduceSub, Nat.reduceLeDiff, Nat.reduceBEq, Int.reduceToNat, Int.reduceLE, Int.reduceLT, Int.reduceEq, Int.reduceNe, di]
  refine calls_of hZ ?_; simp only [vaE, res7, b7k6, b7k7, ↓reduceIte, reduceCtorEq, Nat.reduceEqDiff, Nat.reduceAdd, Nat.reduceMul, Nat.reduceSub, Nat.reduceLeDiff, Nat.reduceBEq, Int.reduceToNat, Int.reduceLE, Int.reduceLT, Int.reduceEq, Int.reduceNe, di]
  refine calls_of (r_IsPlain hxo) ?_; simp only [vaE, res7, b7k6, b7k7, ↓reduceIte, reduceCtorEq, Nat.reduceEqDiff, Nat.reduceAdd, Nat.reduceMul, Nat.reduceSub, Nat.reduceLeDiff, Nat.reduceBEq, Int.reduceToNat, Int.reduceLE, Int.reduceLT, Int.reduceEq, Int.reduceNe, di]
  have heb : decide (e = 21) = decide (h ∈ l) := by
    rw [decide_eq_decide, hmem]
    rcases hcase with ⟨h1, _, h2⟩ | ⟨h1, _, h2⟩
    · simp [h1, h2]
    · simp [h1, h2]
  have hdb : (decide (m.d.1 = 0) && decide (m.d.2 = 0)) = decide (h ∈ l) := by
    rw [Bool.eq_iff_iff, Bool.and_eq_true, decide_eq_true_eq, decide_eq_true_eq, decide_eq_true_eq, hmem]
    exact ⟨fun k => Prod.ext k.1 k.2, fun k => by rw [k]; exact ⟨rfl, rfl⟩⟩
  have tail := tail_WaveResonant hlow hcase
  cases hp : plainL x
  · simp only [hp, vaE, ↓reduceIte, reduceCtorEq, Nat.reduceEqDiff, Nat.reduceAdd, Nat.reduceMul, Nat.reduceSub, Nat.reduceLeDiff, Nat.reduceBEq, Int.reduceToNat, Int.reduceLE, Int.reduceLT, Int.reduceEq, Int.reduceNe, di]
    refine calls_of (c_Has (l := l) (n := h) (by omega)) ?_; simp only [vaE, res7, b7k6, b7k7, ↓reduceIte, reduceCtorEq, Nat.reduceEqDiff, Nat.reduceAdd, Nat.reduceMul, Nat.reduceSub, Nat.reduceLeDiff, Nat.reduceBEq, Int.reduceToNat, Int.reduceLE, Int.reduceLT, Int.reduceEq, Int.reduceNe, di]
    rw [heb, if_pos (beq_self_eq_true _)]
    refine calls_of (c_Has (l := l) (n := h) (by omega)) ?_; simp only [vaE, res7, b7k6, b7k7, ↓reduceIte, reduceCtorEq, Nat.reduceEqDiff, Nat.reduceAdd, Nat.reduceMul, Nat.reduceSub, Nat.reduceLeDiff, Nat.reduceBEq, Int.reduceToNat, Int.reduceLE, Int.reduceLT, Int.reduceEq, Int.reduceNe, di]
    rw [hdb, if_neg (by simp)]
    exact tail
  · have hpl := hpr hp
    simp only [hp, vaE, ↓reduceIte, reduceCtorEq, Nat.reduceEqDiff, Nat.reduceAdd, Nat.reduceMul, Nat.reduceSub, Nat.reduceLeDiff, Nat.reduceBEq, Int.reduceToNat, Int.reduceLE, Int.reduceLT, Int.reduceEq, Int.reduceNe, di]
    refine calls_of (r_Cells hxo) ?_; simp only [vaE, res7, b7k6, b7k7, ↓reduceIte, reduceCtorEq, Nat.reduceEqDiff, Nat.reduceAdd, Nat.reduceMul, Nat.reduceSub, Nat.reduceLeDiff, Nat.reduceBEq, Int.reduceToNat, Int.reduceLE, Int.reduceLT, Int.reduceEq, Int.reduceNe, di]
    have ho := l_odd (n := (opn x).n) (by omega)
    rw [← hpl] at ho
    refine calls_of ho ?_; simp only [vaE, res7, b7k6, b7k7, ↓reduceIte, reduceCtorEq, Nat.reduceEqDiff, Nat.reduceAdd, Nat.reduceMul, Nat.reduceSub, Nat.reduceLeDiff, Nat.reduceBEq, Int.reduceToNat, Int.reduceLE, Int.reduceLT, Int.reduceEq, Int.reduceNe, di]
    refine calls_of (c_Ints (a := l) (b := l) (by omega)) ?_; simp only [vaE, res7, b7k6, b7k7, ↓reduceIte, reduceCtorEq, Nat.reduceEqDiff, Nat.reduceAdd, Nat.reduceMul, Nat.reduceSub, Nat.reduceLeDiff, Nat.reduceBEq, Int.reduceToNat, Int.reduceLE, Int.reduceLT, Int.reduceEq, Int.reduceNe, di]
    refine calls_of (c_Has (l := l) (n := h) (by omega)) ?_; simp only [vaE, res7, b7k6, b7k7, ↓reduceIte, reduceCtorEq, Nat.reduceEqDiff, Nat.reduceAdd, Nat.reduceMul, Nat.reduceSub, Nat.reduceLeDiff, Nat.reduceBEq, Int.reduceToNat, Int.reduceLE, Int.reduceLT, Int.reduceEq, Int.reduceNe, di]
    rw [heb, if_pos (beq_self_eq_true _)]
    refine calls_of (c_Has (l := l) (n := h) (by omega)) ?_; simp only [vaE, res7, b7k6, b7k7, ↓reduceIte, reduceCtorEq, Nat.reduceEqDiff, Nat.reduceAdd, Nat.reduceMul, Nat.reduceSub, Nat.reduceLeDiff, Nat.reduceBEq, Int.reduceToNat, Int.reduceLE, Int.reduceLT, Int.reduceEq, Int.reduceNe, di]
    rw [hdb, if_neg (by simp)]
    exact tail
end Go.DI

