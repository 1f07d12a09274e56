/- The statement LakeSeasons, on data. No condition. -/
import Derived.Test.YtbmlfeikdhpdfaaJk
import Derived.Test.YtbmlfeikdhpdfaaSea
import Derived.Test.YtbmlfeikdhpdfaaJl
set_option linter.unusedSimpArgs false
set_option maxRecDepth 100000
namespace Go.DI
open Go.Proofs Go.Proofs.Ytbmlfeikdhpdfaa Go.RowKit Lk

/-- A season: its first day, its last day, its level. -/
structure Sea where
  a : Int
  b : Int
  lv : Int
deriving Inhabited
def seI (s : Sea) : IV := .agg [.int .i64 s.a, .int .i64 s.b, .int .i64 s.lv]
def seaOk (s : Sea) : Prop := Wi s.a 0 364 ∧ Wi s.b 0 364 ∧ Wi s.lv 0 1000000
instance (s : Sea) : Decidable (seaOk s) := inferInstanceAs (Decidable (_ ∧ _ ∧ _))
def inSea (s : Sea) (d : Int) : Bool := if s.a ≤ s.b then decide (Wi d s.a s.b) else decide (s.a ≤ d ∨ d ≤ s.b)
def lvl (d : Int) : List Sea → Int → Int
  | [], x => x
  | s :: r, x => lvl d r (if inSea s d = true then max x s.lv else x)
def minOn (l : List Sea) (date : Int) : Int × Int :=
  if 12 < l.length then (0, 8) else if ∀ s ∈ l, seaOk s then if Wi date 0 100000 then (lvl (date.tmod 365) l 0, 0) else (0, 2) else (0, 2)
theorem lvl_cons {d x : Int} {s : Sea} {r : List Sea} : lvl d (s :: r) x = lvl d r (if inSea s d = true then max x s.lv else x) := rfl

theorem drop_getD {α : Type} [Inhabited α] {l : List α} {i : Nat} (h : i < l.length) : l.drop i = l.getD i default :: l.drop (i + 1) := by
  rw [List.drop_eq_getElem_cons (by omega)]
  congr 1
  rw [List.getD_eq_getElem?_getD]; simp [h]
theorem mem_getD {α : Type} [Inhabited α] {l : List α} {i : Nat} (h : i < l.length) : l.getD i default ∈ l := by
  rw [List.getD_eq_getElem?_getD]; simp [h]
theorem all_getD {α : Type} [Inhabited α] {l : List α} {p : α → Prop} (h : ∀ i, i < l.length → p (l.getD i default)) : ∀ x ∈ l, p x := by
  intro x hx
  obtain ⟨i, hi, he⟩ := List.getElem_of_mem hx
  have := h i hi
  rw [List.getD_eq_getElem?_getD] at this
  simp [hi, he] at this
  exact this

theorem p_isDay {n : Int} : Contract Try.prog 94 [.int .i64 n] (.bool (decide (Wi n 0 364))) := by
  refine contract_run Try.func94 k94 rfl ?_
  simp only [body94, b94, res94, knI, tabI, pieceI, pairI, lpI, stI, flI, rdI, rnI, getD_kn, ↓reduceIte, reduceCtorEq, Nat.reduceEqDiff, Nat.reduceAdd, Nat.reduceMul, Nat.reduceSub, Nat.reduceLeDiff, Nat.reduceBEq, Int.reduceToNat, Int.reduceLE, Int.reduceLT, Int.reduceEq, Int.reduceNe, di0, di1, di2, di3, di4, di5, di6, di7, di8, di9, postX_ret, postX_normal, ex_some]
  refine calls_of p_within ?_; simp only [knI, tabI, pieceI, pairI, lpI, stI, flI, rdI, rnI, getD_kn, res94, ↓reduceIte, reduceCtorEq, Nat.reduceEqDiff, Nat.reduceAdd, Nat.reduceMul, Nat.reduceSub, Nat.reduceLeDiff, Nat.reduceBEq, Int.reduceToNat, Int.reduceLE, Int.reduceLT, Int.reduceEq, Int.reduceNe, di0, di1, di2, di3, di4, di5, di6, di7, di8, di9, postX_ret, postX_normal, ex_some]

theorem p_contains {s : Sea} {d : Int} : Contract Try.prog 95 [seI s, .int .i64 d] (.bool (inSea s d)) := by
  unfold inSea
  refine contract_run Try.func95 k95 rfl ?_
  simp only [body95, b95, res95, b95k0, seI, knI, tabI, pieceI, pairI, lpI, stI, flI, rdI, rnI, getD_kn, ↓reduceIte, reduceCtorEq, Nat.reduceEqDiff, Nat.reduceAdd, Nat.reduceMul, Nat.reduceSub, Nat.reduceLeDiff, Nat.reduceBEq, Int.reduceToNat, Int.reduceLE, Int.reduceLT, Int.reduceEq, Int.reduceNe, di0, di1, di2, di3, di4, di5, di6, di7, di8, di9, postX_ret, postX_normal, ex_some]
  split
  · rename_i h
    refine calls_of p_within ?_; simp only [knI, tabI, pieceI, pairI, lpI, stI, flI, rdI, rnI, getD_kn, res95, b95k0, ↓reduceIte, reduceCtorEq, Nat.reduceEqDiff, Nat.reduceAdd, Nat.reduceMul, Nat.reduceSub, Nat.reduceLeDiff, Nat.reduceBEq, Int.reduceToNat, Int.reduceLE, Int.reduceLT, Int.reduceEq, Int.reduceNe, di0, di1, di2, di3, di4, di5, di6, di7, di8, di9, postX_ret, postX_normal, ex_some]
  · rename_i h
    split
    · rename_i h2; simp [h2]
    · rename_i h2; simp [h2]

theorem p_MinimumOn {l : List Sea} {date : Int} (hl : l.length ≤ 1000000000000) : Contract Try.prog 50 [.slc 3 (l.map seI), .int .i64 date] (.tup [.int .i64 (minOn l date).1, .int .i64 (minOn l date).2]) := by
  unfold minOn
  refine contract_run Try.func50 k50 rfl ?_
  simp only [body50, b50, res50, b50k0, b50k1, b50k2, b50k3, b50k4, b50k5, b50k6, b50k7, knI, tabI, pieceI, pairI, lpI, stI, flI, rdI, rnI, getD_kn, ↓reduceIte, reduceCtorEq, Nat.reduceEqDiff, Nat.reduceAdd, Nat.reduceMul, Nat.reduceSub, Nat.reduceLeDiff, Nat.reduceBEq, Int.reduceToNat, Int.reduceLE, Int.reduceLT, Int.reduceEq, Int.reduceNe, di0, di1, di2, di3, di4, di5, di6, di7, di8, di9, postX_ret, postX_normal, ex_some]
  split
  · rename_i h
    rw [if_pos (by omega)]
  · rename_i h
    rw [if_neg (by omega)]
    refine loop_keep (α := Nat) rfl (fun i => l.length - i) (fun i => i ≤ l.length ∧ ∀ j, j < i → seaOk (l.getD j default))
      (fun i => [(0, .imm (.slc 3 (l.map seI))), (1, .imm (.int .i64 date)), (6, .imm (.func 94 [] [])), (15, .imm (.slc 3 (l.map seI))), (16, .imm (.int .i64 l.length)), (17, .imm (.int .i64 i))])
      (fun _ => []) 0 ⟨Nat.zero_le _, fun j hj => by omega⟩ (by simp only [↓reduceIte, reduceCtorEq, Nat.reduceEqDiff, Nat.reduceAdd, Nat.reduceMul, Nat.reduceSub, Nat.reduceLeDiff, Nat.reduceBEq, Int.reduceToNat, Int.reduceLE, Int.reduceLT, Int.reduceEq, Int.reduceNe, di0, di1, di2, di3, di4, di5, di6, di7, di8, di9, postX_ret, postX_normal, ex_some] <;> rfl) ?_
    intro i ⟨hi, he⟩ ih
    simp only [res50, b50k0, b50k1, b50k2, b50k3, b50k4, b50k5, b50k6, b50k7, seI, knI, tabI, pieceI, pairI, lpI, stI, flI, rdI, rnI, getD_kn, ↓reduceIte, reduceCtorEq, Nat.reduceEqDiff, Nat.reduceAdd, Nat.reduceMul, Nat.reduceSub, Nat.reduceLeDiff, Nat.reduceBEq, Int.reduceToNat, Int.reduceLE, Int.reduceLT, Int.reduceEq, Int.reduceNe, di0, di1, di2, di3, di4, di5, di6, di7, di8, di9, postX_ret, postX_normal, ex_some]
    split
    · rename_i h1
      repeat (refine And.intro (by omega) ?_)
      have hm := mem_getD (l := l) (i := i) (by omega)
      have bad : ¬ seaOk (l.getD i default) → ¬ ∀ s ∈ l, seaOk s := fun k k2 => k (k2 _ hm)
      have he2 : seaOk (l.getD i default) → ∀ j, j < i + 1 → seaOk (l.getD j default) := by
        intro k j hj
        by_cases e : j = i
        · subst e; exact k
        · exact he j (by omega)
      generalize l.getD i default = s at *
      refine calls_of p_isDay ?_; simp only [knI, tabI, pieceI, pairI, lpI, stI, flI, rdI, rnI, getD_kn, res50, b50k0, b50k1, b50k2, b50k3, b50k4, b50k5, b50k6, b50k7, ↓reduceIte, reduceCtorEq, Nat.reduceEqDiff, Nat.reduceAdd, Nat.reduceMul, Nat.reduceSub, Nat.reduceLeDiff, Nat.reduceBEq, Int.reduceToNat, Int.reduceLE, Int.reduceLT, Int.reduceEq, Int.reduceNe, di0, di1, di2, di3, di4, di5, di6, di7, di8, di9, postX_ret, postX_normal, ex_some]
      split
      · rename_i c1
        refine calls_of p_isDay ?_; simp only [knI, tabI, pieceI, pairI, lpI, stI, flI, rdI, rnI, getD_kn, res50, b50k0, b50k1, b50k2, b50k3, b50k4, b50k5, b50k6, b50k7, ↓reduceIte, reduceCtorEq, Nat.reduceEqDiff, Nat.reduceAdd, Nat.reduceMul, Nat.reduceSub, Nat.reduceLeDiff, Nat.reduceBEq, Int.reduceToNat, Int.reduceLE, Int.reduceLT, Int.reduceEq, Int.reduceNe, di0, di1, di2, di3, di4, di5, di6, di7, di8, di9, postX_ret, postX_normal, ex_some]
        split
        · rename_i c2
          refine calls_of p_within ?_; simp only [knI, tabI, pieceI, pairI, lpI, stI, flI, rdI, rnI, getD_kn, res50, b50k0, b50k1, b50k2, b50k3, b50k4, b50k5, b50k6, b50k7, ↓reduceIte, reduceCtorEq, Nat.reduceEqDiff, Nat.reduceAdd, Nat.reduceMul, Nat.reduceSub, Nat.reduceLeDiff, Nat.reduceBEq, Int.reduceToNat, Int.reduceLE, Int.reduceLT, Int.reduceEq, Int.reduceNe, di0, di1, di2, di3, di4, di5, di6, di7, di8, di9, postX_ret, postX_normal, ex_some]
          split
          · rename_i c3
            rw [wrap64 (by omega) (by omega)]
            exact ih (i + 1) _ _ (by omega) ⟨by omega, he2 ⟨c1, c2, c3⟩⟩ (by simp only [seI, ↓reduceIte, reduceCtorEq, Nat.reduceEqDiff, Nat.reduceAdd, Nat.reduceMul, Nat.reduceSub, Nat.reduceLeDiff, Nat.reduceBEq, Int.reduceToNat, Int.reduceLE, Int.reduceLT, Int.reduceEq, Int.reduceNe, di0, di1, di2, di3, di4, di5, di6, di7, di8, di9, postX_ret, postX_normal, ex_some] <;> rfl)
          · rename_i c3
            rw [if_neg (bad fun k => c3 k.2.2)]
        · rename_i c2
          rw [if_neg (bad fun k => c2 k.2.1)]
      · rename_i c1
        rw [if_neg (bad fun k => c1 k.1)]
    · rename_i h1
      have hall : ∀ s ∈ l, seaOk s := all_getD (fun j hj => he j (by omega))
      rw [if_pos hall]
      refine calls_of p_within ?_; simp only [knI, tabI, pieceI, pairI, lpI, stI, flI, rdI, rnI, getD_kn, res50, b50k0, b50k1, b50k2, b50k3, b50k4, b50k5, b50k6, b50k7, ↓reduceIte, reduceCtorEq, Nat.reduceEqDiff, Nat.reduceAdd, Nat.reduceMul, Nat.reduceSub, Nat.reduceLeDiff, Nat.reduceBEq, Int.reduceToNat, Int.reduceLE, Int.reduceLT, Int.reduceEq, Int.reduceNe, di0, di1, di2, di3, di4, di5, di6, di7, di8, di9, postX_ret, postX_normal, ex_some]
      split
      · rename_i h2
        try rw [if_pos h2]
        refine loop_keep (α := Nat × Int) rfl (fun x => l.length - x.1) (fun x => x.1 ≤ l.length ∧ lvl (date.tmod 365) (l.drop x.1) x.2 = lvl (date.tmod 365) l 0)
          (fun x => [(1, .imm (.int .i64 date)), (9, .imm (.int .i64 x.2)), (43, .imm (.slc 3 (l.map seI))), (44, .imm (.int .i64 l.length)), (45, .imm (.int .i64 x.1))])
          (fun _ => []) (0, 0) ⟨Nat.zero_le _, rfl⟩ (by simp only [↓reduceIte, reduceCtorEq, Nat.reduceEqDiff, Nat.reduceAdd, Nat.reduceMul, Nat.reduceSub, Nat.reduceLeDiff, Nat.reduceBEq, Int.reduceToNat, Int.reduceLE, Int.reduceLT, Int.reduceEq, Int.reduceNe, di0, di1, di2, di3, di4, di5, di6, di7, di8, di9, postX_ret, postX_normal, ex_some] <;> rfl) ?_
        rintro ⟨i, x⟩ ⟨hi, he⟩ ih
        dsimp only at hi he
        simp only [res50, b50k0, b50k1, b50k2, b50k3, b50k4, b50k5, b50k6, b50k7, seI, knI, tabI, pieceI, pairI, lpI, stI, flI, rdI, rnI, getD_kn, ↓reduceIte, reduceCtorEq, Nat.reduceEqDiff, Nat.reduceAdd, Nat.reduceMul, Nat.reduceSub, Nat.reduceLeDiff, Nat.reduceBEq, Int.reduceToNat, Int.reduceLE, Int.reduceLT, Int.reduceEq, Int.reduceNe, di0, di1, di2, di3, di4, di5, di6, di7, di8, di9, postX_ret, postX_normal, ex_some]
        split
        · rename_i h3
          repeat (refine And.intro (by omega) ?_)
          rw [drop_getD (by omega), lvl_cons] at he
          refine calls_of (p_contains (s := l.getD i default) (d := date.tmod 365)) ?_
          simp only [seI, res50, b50k0, b50k1, b50k2, b50k3, b50k4, b50k5, b50k6, b50k7, knI, tabI, pieceI, pairI, lpI, stI, flI, rdI, rnI, getD_kn, ↓reduceIte, reduceCtorEq, Nat.reduceEqDiff, Nat.reduceAdd, Nat.reduceMul, Nat.reduceSub, Nat.reduceLeDiff, Nat.reduceBEq, Int.reduceToNat, Int.reduceLE, Int.reduceLT, Int.reduceEq, Int.reduceNe, di0, di1, di2, di3, di4, di5, di6, di7, di8, di9, postX_ret, postX_normal, ex_some]
          split
          · rename_i h4
            rw [if_pos h4] at he
            rw [wrap64 (by omega) (by omega)]
            exact ih (i + 1, _) _ _ (by dsimp only; omega) ⟨by dsimp only; omega, he⟩ (by simp only [seI, ↓reduceIte, reduceCtorEq, Nat.reduceEqDiff, Nat.reduceAdd, Nat.reduceMul, Nat.reduceSub, Nat.reduceLeDiff, Nat.reduceBEq, Int.reduceToNat, Int.reduceLE, Int.reduceLT, Int.reduceEq, Int.reduceNe, di0, di1, di2, di3, di4, di5, di6, di7, di8, di9, postX_ret, postX_normal, ex_some] <;> rfl)
          · rename_i h4
            rw [if_neg (by simpa using h4)] at he
            rw [wrap64 (by omega) (by omega)]
            exact ih (i + 1, _) _ _ (by dsimp only; omega) ⟨by dsimp only; omega, he⟩ (by simp only [seI, ↓reduceIte, reduceCtorEq, Nat.reduceEqDiff, Nat.reduceAdd, Nat.reduceMul, Nat.reduceSub, Nat.reduceLeDiff, Nat.reduceBEq, Int.reduceToNat, Int.reduceLE, Int.reduceLT, Int.reduceEq, Int.reduceNe, di0, di1, di2, di3, di4, di5, di6, di7, di8, di9, postX_ret, postX_normal, ex_some] <;> rfl)
        · rename_i h3
          rw [List.drop_eq_nil_of_le (by omega)] at he
          rw [← he]
          rfl
      · rename_i h2
        try rw [if_neg h2]
        try rfl

theorem r_MinimumOn {l : List Sea} {date : Int} (hl : l.length ≤ 1000000000000) : Contract Try.prog 52 [.slc 3 (l.map seI), .int .i64 date] (.tup [.int .i64 (minOn l date).1, .int .i64 (minOn l date).2]) := by
  unfold minOn
  refine contract_run Try.func52 k52 rfl ?_
  simp only [body52, b52, res52, b52k0, b52k1, b52k2, b52k3, b52k4, b52k5, b52k6, b52k7, b52k8, knI, tabI, pieceI, pairI, lpI, stI, flI, rdI, rnI, getD_kn, ↓reduceIte, reduceCtorEq, Nat.reduceEqDiff, Nat.reduceAdd, Nat.reduceMul, Nat.reduceSub, Nat.reduceLeDiff, Nat.reduceBEq, Int.reduceToNat, Int.reduceLE, Int.reduceLT, Int.reduceEq, Int.reduceNe, di0, di1, di2, di3, di4, di5, di6, di7, di8, di9, postX_ret, postX_normal, ex_some]
  split
  · rename_i h
    rw [if_pos (by omega)]
  · rename_i h
    rw [if_neg (by omega)]
    refine loop_keep (α := Nat) rfl (fun i => l.length - i) (fun i => i ≤ l.length ∧ ∀ j, j < i → seaOk (l.getD j default))
      (fun i => [(0, .imm (.slc 3 (l.map seI))), (1, .imm (.int .i64 date)), (6, .imm (.int .i64 i))])
      (fun _ => []) 0 ⟨Nat.zero_le _, fun j hj => by omega⟩ (by simp only [↓reduceIte, reduceCtorEq, Nat.reduceEqDiff, Nat.reduceAdd, Nat.reduceMul, Nat.reduceSub, Nat.reduceLeDiff, Nat.reduceBEq, Int.reduceToNat, Int.reduceLE, Int.reduceLT, Int.reduceEq, Int.reduceNe, di0, di1, di2, di3, di4, di5, di6, di7, di8, di9, postX_ret, postX_normal, ex_some] <;> rfl) ?_
    intro i ⟨hi, he⟩ ih
    simp only [res52, b52k0, b52k1, b52k2, b52k3, b52k4, b52k5, b52k6, b52k7, b52k8, seI, knI, tabI, pieceI, pairI, lpI, stI, flI, rdI, rnI, getD_kn, ↓reduceIte, reduceCtorEq, Nat.reduceEqDiff, Nat.reduceAdd, Nat.reduceMul, Nat.reduceSub, Nat.reduceLeDiff, Nat.reduceBEq, Int.reduceToNat, Int.reduceLE, Int.reduceLT, Int.reduceEq, Int.reduceNe, di0, di1, di2, di3, di4, di5, di6, di7, di8, di9, postX_ret, postX_normal, ex_some]
    split
    · rename_i h1
      repeat (refine And.intro (by omega) ?_)
      have hm := mem_getD (l := l) (i := i) (by omega)
      have bad : ¬ seaOk (l.getD i default) → ¬ ∀ s ∈ l, seaOk s := fun k k2 => k (k2 _ hm)
      have he2 : seaOk (l.getD i default) → ∀ j, j < i + 1 → seaOk (l.getD j default) := by
        intro k j hj
        by_cases e : j = i
        · subst e; exact k
        · exact he j (by omega)
      refine calls_of c_Within ?_; simp only [knI, tabI, pieceI, pairI, lpI, stI, flI, rdI, rnI, getD_kn, res52, b52k0, b52k1, b52k2, b52k3, b52k4, b52k5, b52k6, b52k7, b52k8, ↓reduceIte, reduceCtorEq, Nat.reduceEqDiff, Nat.reduceAdd, Nat.reduceMul, Nat.reduceSub, Nat.reduceLeDiff, Nat.reduceBEq, Int.reduceToNat, Int.reduceLE, Int.reduceLT, Int.reduceEq, Int.reduceNe, di0, di1, di2, di3, di4, di5, di6, di7, di8, di9, postX_ret, postX_normal, ex_some]
      split
      · rename_i c1
        simp only [seI, knI, tabI, pieceI, pairI, lpI, stI, flI, rdI, rnI, getD_kn, ↓reduceIte, reduceCtorEq, Nat.reduceEqDiff, Nat.reduceAdd, Nat.reduceMul, Nat.reduceSub, Nat.reduceLeDiff, Nat.reduceBEq, Int.reduceToNat, Int.reduceLE, Int.reduceLT, Int.reduceEq, Int.reduceNe, di0, di1, di2, di3, di4, di5, di6, di7, di8, di9, postX_ret, postX_normal, ex_some]
        repeat (refine And.intro (by omega) ?_)
        refine calls_of c_Within ?_; simp only [knI, tabI, pieceI, pairI, lpI, stI, flI, rdI, rnI, getD_kn, res52, b52k0, b52k1, b52k2, b52k3, b52k4, b52k5, b52k6, b52k7, b52k8, ↓reduceIte, reduceCtorEq, Nat.reduceEqDiff, Nat.reduceAdd, Nat.reduceMul, Nat.reduceSub, Nat.reduceLeDiff, Nat.reduceBEq, Int.reduceToNat, Int.reduceLE, Int.reduceLT, Int.reduceEq, Int.reduceNe, di0, di1, di2, di3, di4, di5, di6, di7, di8, di9, postX_ret, postX_normal, ex_some]
        split
        · rename_i c2
          simp only [seI, knI, tabI, pieceI, pairI, lpI, stI, flI, rdI, rnI, getD_kn, ↓reduceIte, reduceCtorEq, Nat.reduceEqDiff, Nat.reduceAdd, Nat.reduceMul, Nat.reduceSub, Nat.reduceLeDiff, Nat.reduceBEq, Int.reduceToNat, Int.reduceLE, Int.reduceLT, Int.reduceEq, Int.reduceNe, di0, di1, di2, di3, di4, di5, di6, di7, di8, di9, postX_ret, postX_normal, ex_some]
          repeat (refine And.intro (by omega) ?_)
          refine calls_of c_Within ?_; simp only [knI, tabI, pieceI, pairI, lpI, stI, flI, rdI, rnI, getD_kn, res52, b52k0, b52k1, b52k2, b52k3, b52k4, b52k5, b52k6, b52k7, b52k8, ↓reduceIte, reduceCtorEq, Nat.reduceEqDiff, Nat.reduceAdd, Nat.reduceMul, Nat.reduceSub, Nat.reduceLeDiff, Nat.reduceBEq, Int.reduceToNat, Int.reduceLE, Int.reduceLT, Int.reduceEq, Int.reduceNe, di0, di1, di2, di3, di4, di5, di6, di7, di8, di9, postX_ret, postX_normal, ex_some]
          split
          · rename_i c3
            rw [wrap64 (by omega) (by omega)]
            exact ih (i + 1) _ _ (by omega) ⟨by omega, he2 ⟨c1, c2, c3⟩⟩ (by simp only [seI, ↓reduceIte, reduceCtorEq, Nat.reduceEqDiff, Nat.reduceAdd, Nat.reduceMul, Nat.reduceSub, Nat.reduceLeDiff, Nat.reduceBEq, Int.reduceToNat, Int.reduceLE, Int.reduceLT, Int.reduceEq, Int.reduceNe, di0, di1, di2, di3, di4, di5, di6, di7, di8, di9, postX_ret, postX_normal, ex_some] <;> rfl)
          · rename_i c3
            rw [if_neg (bad fun k => c3 k.2.2)]
        · rename_i c2
          rw [if_neg (bad fun k => c2 k.2.1)]
      · rename_i c1
        rw [if_neg (bad fun k => c1 k.1)]
    · rename_i h1
      have hall : ∀ s ∈ l, seaOk s := all_getD (fun j hj => he j (by omega))
      rw [if_pos hall]
      refine calls_of c_Within ?_; simp only [knI, tabI, pieceI, pairI, lpI, stI, flI, rdI, rnI, getD_kn, res52, b52k0, b52k1, b52k2, b52k3, b52k4, b52k5, b52k6, b52k7, b52k8, ↓reduceIte, reduceCtorEq, Nat.reduceEqDiff, Nat.reduceAdd, Nat.reduceMul, Nat.reduceSub, Nat.reduceLeDiff, Nat.reduceBEq, Int.reduceToNat, Int.reduceLE, Int.reduceLT, Int.reduceEq, Int.reduceNe, di0, di1, di2, di3, di4, di5, di6, di7, di8, di9, postX_ret, postX_normal, ex_some]
      split
      · rename_i h2
        rw [if_pos (show Wi date 0 100000 from h2)]
        refine loop_keep (α := Nat × Int) rfl (fun x => l.length - x.1) (fun x => x.1 ≤ l.length ∧ lvl (date.tmod 365) (l.drop x.1) x.2 = lvl (date.tmod 365) l 0)
          (fun x => [(0, .imm (.slc 3 (l.map seI))), (7, .imm (.int .i64 (date.tmod 365))), (8, .imm (.int .i64 x.2)), (9, .imm (.int .i64 x.1))])
          (fun _ => []) (0, 0) ⟨Nat.zero_le _, rfl⟩ (by simp only [↓reduceIte, reduceCtorEq, Nat.reduceEqDiff, Nat.reduceAdd, Nat.reduceMul, Nat.reduceSub, Nat.reduceLeDiff, Nat.reduceBEq, Int.reduceToNat, Int.reduceLE, Int.reduceLT, Int.reduceEq, Int.reduceNe, di0, di1, di2, di3, di4, di5, di6, di7, di8, di9, postX_ret, postX_normal, ex_some] <;> rfl) ?_
        rintro ⟨i, x⟩ ⟨hi, he⟩ ih
        dsimp only at hi he
        simp only [res52, b52k0, b52k1, b52k2, b52k3, b52k4, b52k5, b52k6, b52k7, b52k8, seI, knI, tabI, pieceI, pairI, lpI, stI, flI, rdI, rnI, getD_kn, ↓reduceIte, reduceCtorEq, Nat.reduceEqDiff, Nat.reduceAdd, Nat.reduceMul, Nat.reduceSub, Nat.reduceLeDiff, Nat.reduceBEq, Int.reduceToNat, Int.reduceLE, Int.reduceLT, Int.reduceEq, Int.reduceNe, di0, di1, di2, di3, di4, di5, di6, di7, di8, di9, postX_ret, postX_normal, ex_some]
        split
        · rename_i h3
          repeat (refine And.intro (by omega) ?_)
          rw [drop_getD (by omega), lvl_cons] at he
          have hin : inSea (l.getD i default) (date.tmod 365) = if (l.getD i default).a ≤ (l.getD i default).b then decide (Wi (date.tmod 365) (l.getD i default).a (l.getD i default).b) else decide ((l.getD i default).a ≤ date.tmod 365 ∨ date.tmod 365 ≤ (l.getD i default).b) := rfl
          refine calls_of c_Within ?_; simp only [knI, tabI, pieceI, pairI, lpI, stI, flI, rdI, rnI, getD_kn, res52, b52k0, b52k1, b52k2, b52k3, b52k4, b52k5, b52k6, b52k7, b52k8, ↓reduceIte, reduceCtorEq, Nat.reduceEqDiff, Nat.reduceAdd, Nat.reduceMul, Nat.reduceSub, Nat.reduceLeDiff, Nat.reduceBEq, Int.reduceToNat, Int.reduceLE, Int.reduceLT, Int.reduceEq, Int.reduceNe, di0, di1, di2, di3, di4, di5, di6, di7, di8, di9, postX_ret, postX_normal, ex_some]
          simp only [seI, knI, tabI, pieceI, pairI, lpI, stI, flI, rdI, rnI, getD_kn, ↓reduceIte, reduceCtorEq, Nat.reduceEqDiff, Nat.reduceAdd, Nat.reduceMul, Nat.reduceSub, Nat.reduceLeDiff, Nat.reduceBEq, Int.reduceToNat, Int.reduceLE, Int.reduceLT, Int.reduceEq, Int.reduceNe, di0, di1, di2, di3, di4, di5, di6, di7, di8, di9, postX_ret, postX_normal, ex_some]
          repeat (refine And.intro (by omega) ?_)
          split
          · rename_i h4
            rw [if_neg (by omega)] at hin
            split
            · rename_i h5
              rw [hin, if_pos (decide_eq_true (by omega))] at he
              try simp only [seI, knI, tabI, pieceI, pairI, lpI, stI, flI, rdI, rnI, getD_kn, ↓reduceIte, reduceCtorEq, Nat.reduceEqDiff, Nat.reduceAdd, Nat.reduceMul, Nat.reduceSub, Nat.reduceLeDiff, Nat.reduceBEq, Int.reduceToNat, Int.reduceLE, Int.reduceLT, Int.reduceEq, Int.reduceNe, di0, di1, di2, di3, di4, di5, di6, di7, di8, di9, postX_ret, postX_normal, ex_some]
              repeat (refine And.intro (by omega) ?_)
              rw [wrap64 (by omega) (by omega)]
              exact ih (i + 1, _) _ _ (by dsimp only; omega) ⟨by dsimp only; omega, he⟩ (by simp only [seI, ↓reduceIte, reduceCtorEq, Nat.reduceEqDiff, Nat.reduceAdd, Nat.reduceMul, Nat.reduceSub, Nat.reduceLeDiff, Nat.reduceBEq, Int.reduceToNat, Int.reduceLE, Int.reduceLT, Int.reduceEq, Int.reduceNe, di0, di1, di2, di3, di4, di5, di6, di7, di8, di9, postX_ret, postX_normal, ex_some] <;> rfl)
            · rename_i h5
              try simp only [seI, knI, tabI, pieceI, pairI, lpI, stI, flI, rdI, rnI, getD_kn, ↓reduceIte, reduceCtorEq, Nat.reduceEqDiff, Nat.reduceAdd, Nat.reduceMul, Nat.reduceSub, Nat.reduceLeDiff, Nat.reduceBEq, Int.reduceToNat, Int.reduceLE, Int.reduceLT, Int.reduceEq, Int.reduceNe, di0, di1, di2, di3, di4, di5, di6, di7, di8, di9, postX_ret, postX_normal, ex_some]
              repeat (refine And.intro (by omega) ?_)
              split
              · rename_i h6
                rw [hin, if_pos (decide_eq_true (by omega))] at he
                try simp only [seI, knI, tabI, pieceI, pairI, lpI, stI, flI, rdI, rnI, getD_kn, ↓reduceIte, reduceCtorEq, Nat.reduceEqDiff, Nat.reduceAdd, Nat.reduceMul, Nat.reduceSub, Nat.reduceLeDiff, Nat.reduceBEq, Int.reduceToNat, Int.reduceLE, Int.reduceLT, Int.reduceEq, Int.reduceNe, di0, di1, di2, di3, di4, di5, di6, di7, di8, di9, postX_ret, postX_normal, ex_some]
                repeat (refine And.intro (by omega) ?_)
                rw [wrap64 (by omega) (by omega)]
                exact ih (i + 1, _) _ _ (by dsimp only; omega) ⟨by dsimp only; omega, he⟩ (by simp only [seI, ↓reduceIte, reduceCtorEq, Nat.reduceEqDiff, Nat.reduceAdd, Nat.reduceMul, Nat.reduceSub, Nat.reduceLeDiff, Nat.reduceBEq, Int.reduceToNat, Int.reduceLE, Int.reduceLT, Int.reduceEq, Int.reduceNe, di0, di1, di2, di3, di4, di5, di6, di7, di8, di9, postX_ret, postX_normal, ex_some] <;> rfl)
              · rename_i h6
                rw [hin, if_neg (by rw [decide_eq_false (by omega)]; decide)] at he
                try simp only [seI, knI, tabI, pieceI, pairI, lpI, stI, flI, rdI, rnI, getD_kn, ↓reduceIte, reduceCtorEq, Nat.reduceEqDiff, Nat.reduceAdd, Nat.reduceMul, Nat.reduceSub, Nat.reduceLeDiff, Nat.reduceBEq, Int.reduceToNat, Int.reduceLE, Int.reduceLT, Int.reduceEq, Int.reduceNe, di0, di1, di2, di3, di4, di5, di6, di7, di8, di9, postX_ret, postX_normal, ex_some]
                repeat (refine And.intro (by omega) ?_)
                rw [wrap64 (by omega) (by omega)]
                exact ih (i + 1, _) _ _ (by dsimp only; omega) ⟨by dsimp only; omega, he⟩ (by simp only [seI, ↓reduceIte, reduceCtorEq, Nat.reduceEqDiff, Nat.reduceAdd, Nat.reduceMul, Nat.reduceSub, Nat.reduceLeDiff, Nat.reduceBEq, Int.reduceToNat, Int.reduceLE, Int.reduceLT, Int.reduceEq, Int.reduceNe, di0, di1, di2, di3, di4, di5, di6, di7, di8, di9, postX_ret, postX_normal, ex_some] <;> rfl)
          · rename_i h4
            rw [if_pos (by omega)] at hin
            split
            · rename_i h5
              rw [hin, if_pos (decide_eq_true (show Wi _ _ _ from h5))] at he
              repeat (refine And.intro (by omega) ?_)
              rw [wrap64 (by omega) (by omega)]
              exact ih (i + 1, _) _ _ (by dsimp only; omega) ⟨by dsimp only; omega, he⟩ (by simp only [seI, ↓reduceIte, reduceCtorEq, Nat.reduceEqDiff, Nat.reduceAdd, Nat.reduceMul, Nat.reduceSub, Nat.reduceLeDiff, Nat.reduceBEq, Int.reduceToNat, Int.reduceLE, Int.reduceLT, Int.reduceEq, Int.reduceNe, di0, di1, di2, di3, di4, di5, di6, di7, di8, di9, postX_ret, postX_normal, ex_some] <;> rfl)
            · rename_i h5
              rw [hin, if_neg (by rw [decide_eq_false (show ¬ Wi _ _ _ from h5)]; decide)] at he
              repeat (refine And.intro (by omega) ?_)
              rw [wrap64 (by omega) (by omega)]
              exact ih (i + 1, _) _ _ (by dsimp only; omega) ⟨by dsimp only; omega, he⟩ (by simp only [seI, ↓reduceIte, reduceCtorEq, Nat.reduceEqDiff, Nat.reduceAdd, Nat.reduceMul, Nat.reduceSub, Nat.reduceLeDiff, Nat.reduceBEq, Int.reduceToNat, Int.reduceLE, Int.reduceLT, Int.reduceEq, Int.reduceNe, di0, di1, di2, di3, di4, di5, di6, di7, di8, di9, postX_ret, postX_normal, ex_some] <;> rfl)
        · rename_i h3
          rw [List.drop_eq_nil_of_le (by omega)] at he
          rw [← he]
          rfl
      · rename_i h2
        rw [if_neg (show ¬ Wi date 0 100000 from h2)]

theorem r_CopySeasons {l : List Sea} (hl : l.length ≤ 1000000000) : Contract Try.prog 51 [.slc 3 (l.map seI)] (.slc 3 (l.map seI)) := by
  refine contract_run Try.func51 k51 rfl ?_
  simp only [body51, b51, res51, knI, tabI, pieceI, pairI, lpI, stI, flI, rdI, rnI, getD_kn, ↓reduceIte, reduceCtorEq, Nat.reduceEqDiff, Nat.reduceAdd, Nat.reduceMul, Nat.reduceSub, Nat.reduceLeDiff, Nat.reduceBEq, Int.reduceToNat, Int.reduceLE, Int.reduceLT, Int.reduceEq, Int.reduceNe, di0, di1, di2, di3, di4, di5, di6, di7, di8, di9, postX_ret, postX_normal, ex_some]
  omega

theorem minOn_year {l : List Sea} {date : Int} (h0 : 0 ≤ date) (h1 : date ≤ 99635) : minOn l (date + 365) = minOn l date := by
  have e : (date + 365).tmod 365 = date.tmod 365 := by
    rw [Int.tmod_eq_emod_of_nonneg (by omega), Int.tmod_eq_emod_of_nonneg (by omega)]
    omega
  unfold minOn
  rw [e, if_pos (show Wi (date + 365) 0 100000 from ⟨by omega, by omega⟩), if_pos (show Wi date 0 100000 from ⟨by omega, by omega⟩)]

theorem l_LakeSeasons {l : List Sea} {date : Int} : Contract Try.prog 9 [.slc 3 (l.map seI), .int .i64 date] (.bool true) := by
  refine contract_run Try.func9 k9 rfl ?_
  simp only [body9, b9, res9, b9k0, b9k1, b9k2, b9k3, knI, tabI, pieceI, pairI, lpI, stI, flI, rdI, rnI, getD_kn, ↓reduceIte, reduceCtorEq, Nat.reduceEqDiff, Nat.reduceAdd, Nat.reduceMul, Nat.reduceSub, Nat.reduceLeDiff, Nat.reduceBEq, Int.reduceToNat, Int.reduceLE, Int.reduceLT, Int.reduceEq, Int.reduceNe, di0, di1, di2, di3, di4, di5, di6, di7, di8, di9, postX_ret, postX_normal, ex_some]
  refine calls_of l_awake ?_; simp only [knI, tabI, pieceI, pairI, lpI, stI, flI, rdI, rnI, getD_kn, res9, b9k0, b9k1, b9k2, b9k3, ↓reduceIte, reduceCtorEq, Nat.reduceEqDiff, Nat.reduceAdd, Nat.reduceMul, Nat.reduceSub, Nat.reduceLeDiff, Nat.reduceBEq, Int.reduceToNat, Int.reduceLE, Int.reduceLT, Int.reduceEq, Int.reduceNe, di0, di1, di2, di3, di4, di5, di6, di7, di8, di9, postX_ret, postX_normal, ex_some]
  split
  · trivial
  · rename_i h
    have hc := r_CopySeasons (l := l) (by omega)
    refine calls_of hc ?_; simp only [knI, tabI, pieceI, pairI, lpI, stI, flI, rdI, rnI, getD_kn, res9, b9k0, b9k1, b9k2, b9k3, ↓reduceIte, reduceCtorEq, Nat.reduceEqDiff, Nat.reduceAdd, Nat.reduceMul, Nat.reduceSub, Nat.reduceLeDiff, Nat.reduceBEq, Int.reduceToNat, Int.reduceLE, Int.reduceLT, Int.reduceEq, Int.reduceNe, di0, di1, di2, di3, di4, di5, di6, di7, di8, di9, postX_ret, postX_normal, ex_some]
    refine calls_of (p_MinimumOn (by omega)) ?_; simp only [knI, tabI, pieceI, pairI, lpI, stI, flI, rdI, rnI, getD_kn, res9, b9k0, b9k1, b9k2, b9k3, ↓reduceIte, reduceCtorEq, Nat.reduceEqDiff, Nat.reduceAdd, Nat.reduceMul, Nat.reduceSub, Nat.reduceLeDiff, Nat.reduceBEq, Int.reduceToNat, Int.reduceLE, Int.reduceLT, Int.reduceEq, Int.reduceNe, di0, di1, di2, di3, di4, di5, di6, di7, di8, di9, postX_ret, postX_normal, ex_some]
    refine calls_of (r_MinimumOn (by omega)) ?_; simp only [knI, tabI, pieceI, pairI, lpI, stI, flI, rdI, rnI, getD_kn, res9, b9k0, b9k1, b9k2, b9k3, ↓reduceIte, reduceCtorEq, Nat.reduceEqDiff, Nat.reduceAdd, Nat.reduceMul, Nat.reduceSub, Nat.reduceLeDiff, Nat.reduceBEq, Int.reduceToNat, Int.reduceLE, Int.reduceLT, Int.reduceEq, Int.reduceNe, di0, di1, di2, di3, di4, di5, di6, di7, di8, di9, postX_ret, postX_normal, ex_some]
    split
    · rename_i h2
      refine calls_of c_Within ?_; simp only [knI, tabI, pieceI, pairI, lpI, stI, flI, rdI, rnI, getD_kn, res9, b9k0, b9k1, b9k2, b9k3, ↓reduceIte, reduceCtorEq, Nat.reduceEqDiff, Nat.reduceAdd, Nat.reduceMul, Nat.reduceSub, Nat.reduceLeDiff, Nat.reduceBEq, Int.reduceToNat, Int.reduceLE, Int.reduceLT, Int.reduceEq, Int.reduceNe, di0, di1, di2, di3, di4, di5, di6, di7, di8, di9, postX_ret, postX_normal, ex_some]
      split
      · rename_i h3
        have hy := minOn_year (l := l) h3.1 h3.2
        have hm := p_MinimumOn (l := l) (date := date + 365) (by omega)
        rw [hy] at hm
        refine calls_of hc ?_; simp only [knI, tabI, pieceI, pairI, lpI, stI, flI, rdI, rnI, getD_kn, res9, b9k0, b9k1, b9k2, b9k3, ↓reduceIte, reduceCtorEq, Nat.reduceEqDiff, Nat.reduceAdd, Nat.reduceMul, Nat.reduceSub, Nat.reduceLeDiff, Nat.reduceBEq, Int.reduceToNat, Int.reduceLE, Int.reduceLT, Int.reduceEq, Int.reduceNe, di0, di1, di2, di3, di4, di5, di6, di7, di8, di9, postX_ret, postX_normal, ex_some]
        rw [wrap64 (by omega) (by omega)]
        refine calls_of hm ?_; simp only [knI, tabI, pieceI, pairI, lpI, stI, flI, rdI, rnI, getD_kn, res9, b9k0, b9k1, b9k2, b9k3, ↓reduceIte, reduceCtorEq, Nat.reduceEqDiff, Nat.reduceAdd, Nat.reduceMul, Nat.reduceSub, Nat.reduceLeDiff, Nat.reduceBEq, Int.reduceToNat, Int.reduceLE, Int.reduceLT, Int.reduceEq, Int.reduceNe, di0, di1, di2, di3, di4, di5, di6, di7, di8, di9, postX_ret, postX_normal, ex_some]
        rw [if_pos h2]; trivial
      · trivial
    · rename_i h2
      trivial

theorem rep_season {m : Nat} (xs : List IV) (h : RepF Try.prog (m + 2) 155 xs) : ∃ x : Sea, mkE Try.prog 155 xs = seI x := by
  obtain ⟨a, b, rfl, h1, c, d, rfl, h2, e, f, rfl, h3, rfl⟩ := repF_struct Try.underlying155 h
  obtain ⟨x, rfl, _⟩ := rep_int h1
  obtain ⟨y, rfl, _⟩ := rep_int h2
  obtain ⟨z, rfl, _⟩ := rep_int h3
  exact ⟨⟨x, y, z⟩, mkE_struct Try.underlying155⟩
theorem cells_season : Try.prog.cellsOf 155 = 3 := by kernel_rfl
theorem arg_seasons {m : Nat} {xs : List IV} (h : RepF Try.prog (m + 3) 96 xs) : ∃ l : List Sea, mkE Try.prog 96 xs = .slc 3 (l.map seI) := by
  obtain ⟨l, rfl⟩ := repF_slice Try.underlying96 cells_season rep_season h
  exact ⟨l, mkE_one Try.underlying96 (fun _ k => by cases k)⟩
end Go.DI

