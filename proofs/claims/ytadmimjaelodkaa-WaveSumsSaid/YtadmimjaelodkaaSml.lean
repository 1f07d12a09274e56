/- The statement WaveEnergy, as a contract. No condition. -/
import Derived.Test.YtadmimjaelodkaaSmj
import Derived.Test.YtadmimjaelodkaaSmk
set_option linter.unusedSimpArgs false
set_option maxRecDepth 100000
namespace Go.DI
open Go.Proofs Go.RowKit

def bigP (v : Int) : Bool := !decide (-10000 ≤ v ∧ v ≤ 10000)
def SmallL (l : List Int) : Prop := ∀ v ∈ l, -10000 ≤ v ∧ v ≤ 10000
theorem smallL_iff {l : List Int} : idxF bigP l = -1 ↔ SmallL l := by
  rw [idxF_none]
  unfold SmallL bigP
  simp
theorem l_small {s : Ws} (hs : FewS s) : Contract Try.prog 33 [wsI s] (.bool (decide (idxF bigP (s.F ++ s.B ++ s.L) = -1))) := by
  have hF := hs.1
  have hB := hs.2.1
  have hL := hs.2.2
  refine contract_run Try.func33 k33 rfl ?_
  simp only [body33, b33, res33, b33k0, b33k1, b33k2, vaE, ↓reduceIte, reduceCtorEq, Nat.reduceEqDiff, Nat.reduceAdd, Nat.reduceMul, Nat.reduceSub, Nat.reduceLeDiff, Nat.reduceBEq, Int.reduceToNat, Int.reduceLE, Int.reduceLT, Int.reduceEq, Int.reduceNe, di]
  repeat (refine And.intro (by first | omega | exact all_int _ | (simp only [zeros_len, List.length_append, List.length_take, List.length_drop, List.length_set, List.length_cons, List.length_nil, List.length_map]; omega)) ?_)
  have hll : (s.F ++ s.B ++ s.L).length ≤ 3000000 := by simp only [List.length_append]; omega
  generalize s.F ++ s.B ++ s.L = l at *
  refine loop_keep (α := Nat) rfl (fun i => l.length - i) (fun i => Seek bigP l i)
    (fun i => [(3, .imm (nI l)), (4, .imm (.int .i64 i))]) (fun _ => [(8, .tok 1 (l.map (.int .i64)))]) 0 seek_zero (by simp only [vaE, ↓reduceIte, reduceCtorEq, Nat.reduceEqDiff, Nat.reduceAdd, Nat.reduceMul, Nat.reduceSub, Nat.reduceLeDiff, Nat.reduceBEq, Int.reduceToNat, Int.reduceLE, Int.reduceLT, Int.reduceEq, Int.reduceNe, di] <;> rfl) ?_
  intro i hk ih
  have hi := hk.1
  simp only [res33, b33k0, b33k1, b33k2, vaE, ↓reduceIte, reduceCtorEq, Nat.reduceEqDiff, Nat.reduceAdd, Nat.reduceMul, Nat.reduceSub, Nat.reduceLeDiff, Nat.reduceBEq, Int.reduceToNat, Int.reduceLE, Int.reduceLT, Int.reduceEq, Int.reduceNe, di]
  split
  · rename_i h
    have hlt : i < l.length := by omega
    repeat (refine And.intro (by first | omega | exact all_int _ | (simp only [zeros_len, List.length_append, List.length_take, List.length_drop, List.length_set, List.length_cons, List.length_nil, List.length_map]; omega)) ?_)
    refine calls_of c_Within ?_; simp only [vaE, res33, b33k0, b33k1, b33k2, ↓reduceIte, reduceCtorEq, Nat.reduceEqDiff, Nat.reduceAdd, Nat.reduceMul, Nat.reduceSub, Nat.reduceLeDiff, Nat.reduceBEq, Int.reduceToNat, Int.reduceLE, Int.reduceLT, Int.reduceEq, Int.reduceNe, di]
    by_cases h1 : -10000 ≤ l.getD i 0 ∧ l.getD i 0 ≤ 10000
    · simp only [h1, vaE, ↓reduceIte, reduceCtorEq, Nat.reduceEqDiff, Nat.reduceAdd, Nat.reduceMul, Nat.reduceSub, Nat.reduceLeDiff, Nat.reduceBEq, Int.reduceToNat, Int.reduceLE, Int.reduceLT, Int.reduceEq, Int.reduceNe, di]
      rw [wrap64 (by omega) (by omega)]
      exact ih (i + 1) _ _ (by omega) (seek_step hk hlt (by show bigP (l.getD i 0) = false; unfold bigP; rw [decide_eq_true h1]; rfl)) (by simp only [vaE, ↓reduceIte, reduceCtorEq, Nat.reduceEqDiff, Nat.reduceAdd, Nat.reduceMul, Nat.reduceSub, Nat.reduceLeDiff, Nat.reduceBEq, Int.reduceToNat, Int.reduceLE, Int.reduceLT, Int.reduceEq, Int.reduceNe, di] <;> rfl)
    · simp only [h1, vaE, ↓reduceIte, reduceCtorEq, Nat.reduceEqDiff, Nat.reduceAdd, Nat.reduceMul, Nat.reduceSub, Nat.reduceLeDiff, Nat.reduceBEq, Int.reduceToNat, Int.reduceLE, Int.reduceLT, Int.reduceEq, Int.reduceNe, di]
      have hit := seek_hit hk hlt (show bigP (l.getD i 0) = true by unfold bigP; rw [decide_eq_false h1]; rfl)
      rw [decide_eq_false (by omega)]
  · rename_i h
    have : i = l.length := by omega
    rw [this] at hk
    rw [decide_eq_true (seek_end hk)]

theorem getD_mem0 {l : List Int} {M : Int} (h : ∀ v ∈ l, -M ≤ v ∧ v ≤ M) (hM : 0 ≤ M) (i : Nat) : -M ≤ l.getD i 0 ∧ l.getD i 0 ≤ M := by
  by_cases hi : i < l.length
  · exact h _ (getD_mem hi)
  · rw [getD_out (by omega)]; omega
theorem mem_getD {l : List Int} {v : Int} (h : v ∈ l) : ∃ i, i < l.length ∧ v = l.getD i 0 := by
  obtain ⟨i, hi, rfl⟩ := List.getElem_of_mem h
  exact ⟨i, hi, by simp [List.getD_eq_getElem?_getD, hi]⟩
theorem gd_ok {x : Ln} {s : Ws} {M : Int} (hM : M ≤ 500000) (hs : Sh (opn x) s) (hg : Gd M s) : StateOk (opn x) s := by
  refine ⟨hs.f, hs.b, hs.l, fun v hv => ?_, fun v hv => ?_, fun v hv => ?_⟩
  · obtain ⟨i, _, rfl⟩ := mem_getD hv
    have := (hg.b i).1; omega
  · obtain ⟨i, _, rfl⟩ := mem_getD hv
    have := (hg.b i).2; omega
  · obtain ⟨i, _, rfl⟩ := mem_getD hv
    have := hg.l i; omega
theorem small_gd {x : Ln} {s : Ws} (hx : LineOk x) (h : SmallL (s.F ++ s.B ++ s.L)) : Gd 10000 s ∧ EnI x s ≤ 2 * (226000 * 226000) := by
  have hF := getD_mem0 (l := s.F) (M := 10000) (fun v hv => h v (by simp [hv])) (by decide)
  have hB := getD_mem0 (l := s.B) (M := 10000) (fun v hv => h v (by simp [hv])) (by decide)
  have hL := getD_mem0 (l := s.L) (M := 10000) (fun v hv => h v (by simp [hv])) (by decide)
  have hg : Gd 10000 s := ⟨fun i => ⟨hF i, hB i⟩, fun j => by have := hL j; omega⟩
  refine ⟨hg, ?_⟩
  have hn := (opn_ok hx).nb
  have hars := hx.ars
  have hlen := hx.len
  have h1 := sumN_le (k := (opn x).n.toNat) (c := 4000000000) (f := enF (fun i => (admL x.pp).getD i 0) (fun i => s.F.getD i 0) (fun i => s.B.getD i 0)) (fun i hi => by
    have hy := adm_bd hx hi
    have f1 := sq_bd (hF i)
    have f2 := sq_bd (hB i)
    have f3 := sq_nonneg (s.F.getD i 0)
    have f4 := sq_nonneg (s.B.getD i 0)
    have p1 : 2 * (admL x.pp).getD i 0 * (s.F.getD i 0 * s.F.getD i 0 + s.B.getD i 0 * s.B.getD i 0) ≤ 20 * (s.F.getD i 0 * s.F.getD i 0 + s.B.getD i 0 * s.B.getD i 0) := Int.mul_le_mul_of_nonneg_right (by omega) (by omega)
    show 2 * (admL x.pp).getD i 0 * (s.F.getD i 0 * s.F.getD i 0 + s.B.getD i 0 * s.B.getD i 0) ≤ _
    omega)
  have h2 := sumN_le (k := x.ar.length) (c := 2000000000) (f := fun j => x.ar.getD j 0 * (s.L.getD j 0 * s.L.getD j 0)) (fun j _ => by
    have hA := ar_bd hx j
    have f1 := sq_bd (hL j)
    have f3 := sq_nonneg (s.L.getD j 0)
    have p1 : x.ar.getD j 0 * (s.L.getD j 0 * s.L.getD j 0) ≤ 20 * (s.L.getD j 0 * s.L.getD j 0) := Int.mul_le_mul_of_nonneg_right (by omega) (by omega)
    show x.ar.getD j 0 * (s.L.getD j 0 * s.L.getD j 0) ≤ _
    omega)
  unfold EnI
  omega
theorem gd_mono {M M' : Int} {s : Ws} (h : M ≤ M') (hg : Gd M s) : Gd M' s := ⟨fun i => by have := hg.b i; omega, fun j => by have := hg.l j; omega⟩
end Go.DI

