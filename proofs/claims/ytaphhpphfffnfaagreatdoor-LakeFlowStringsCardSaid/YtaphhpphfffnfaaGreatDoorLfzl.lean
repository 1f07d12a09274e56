/- The statement LakeFlowStrings: what it computes. No condition. -/
import Derived.Test.YtaphhpphfffnfaaGreatDoorLfzk
set_option linter.unusedSimpArgs false
set_option maxRecDepth 100000
namespace Go.DI
open Go.Proofs Go.RowKit Go.Lib Lk

theorem parse_fl {l : List Flow} (hb : FlB l) (h : listErr l = 0) : parseFl (fmtF l) = (l, 0) := by
  obtain ⟨h1, h2⟩ := listErr_ok.1 h
  have hs := fmtRows_size (fl_rows hb (by omega)) (by rw [List.length_map]; omega)
  unfold parseFl
  rw [if_neg (show ¬ 60000 < (fmtF l).size from Nat.not_lt.2 hs)]
  by_cases hl : l = []
  · subst hl
    rfl
  have hne : l.map flR ≠ [] := by
    intro e
    exact hl (List.map_eq_nil_iff.1 e)
  have hr := rows_fmt (n := 3) (k := 7) (sg := sgF 2) (rows := l.map flR) hne (by decide) (by
    intro r hr
    obtain ⟨x, hx, rfl⟩ := List.mem_map.1 hr
    have hk := h2 x hx
    unfold flowOk Wi at hk
    refine ⟨rfl, fun j hj => ?_⟩
    match j, hj with
    | 0, _ => exact ⟨by show x.up.natAbs < 100000000; omega, .inr hk.1.1⟩
    | 1, _ => exact ⟨by show x.low.natAbs < 100000000; omega, .inr hk.2.1.1⟩
    | 2, _ => exact ⟨by show x.ex.natAbs < 100000000; omega, .inl rfl⟩)
  have hn : ¬ fmtF l = ⟨#[]⟩ := by
    intro e
    have hc := cut_rows hne
    rw [show fmtRows (l.map flR) = ⟨#[]⟩ from e] at hc
    have hr2 := hr
    rw [show fmtRows (l.map flR) = ⟨#[]⟩ from e] at hr2
    have : parseRows 3 (7 + 1) (sgF 2) ⟨#[]⟩ = none := by
      unfold parseRows
      rw [if_neg]
      decide
    rw [this] at hr2
    cases hr2
  rw [if_neg hn]
  show flwR (parseRows 3 (7 + 1) (sgF 2) (fmtRows (l.map flR))) = _
  rw [hr]
  show (if listErr ((l.map flR).map flOf) = 0 then ((l.map flR).map flOf, (0 : Int)) else ([], listErr ((l.map flR).map flOf))) = _
  rw [fl_rt, if_pos h]
theorem parse_lenF {s : ByteArray} (h : s.size ≤ 1000000) : (parseFl s).1.length ≤ 1000000000000 := by
  unfold parseFl
  split
  · exact Nat.zero_le _
  split
  · exact Nat.zero_le _
  · cases hr : parseRows 3 8 (sgF 2) s with
    | none => exact Nat.zero_le _
    | some rows =>
      have := (parseRows_len hr).2
      unfold flwR
      dsimp only
      split
      · rw [List.length_map]; omega
      · exact Nat.zero_le _
theorem l_LakeFlowStrings {l : List Flow} {s : ByteArray} (hb : FlB l) : Contract Tryz.prog 6 [.slc 3 (l.map flI), .str s] (.bool true) := by
  refine contract_run Tryz.func6 k6 rfl ?_
  simp only [body6, b6, res6, b6k0, b6k1, b6k2, b6k3, lkE, ↓reduceIte, reduceCtorEq, Nat.reduceEqDiff, Nat.reduceAdd, Nat.reduceMul, Nat.reduceSub, Nat.reduceLeDiff, Nat.reduceBEq, Int.reduceToNat, Int.reduceLE, Int.reduceLT, Int.reduceEq, Int.reduceNe, di]
  refine calls_of l_awake ?_; simp only [lkE, res6, b6k0, b6k1, b6k2, b6k3, ↓reduceIte, reduceCtorEq, Nat.reduceEqDiff, Nat.reduceAdd, Nat.reduceMul, Nat.reduceSub, Nat.reduceLeDiff, Nat.reduceBEq, Int.reduceToNat, Int.reduceLE, Int.reduceLT, Int.reduceEq, Int.reduceNe, di]
  refine calls_of (l_short (n := l.length)) ?_; simp only [lkE, res6, b6k0, b6k1, b6k2, b6k3, ↓reduceIte, reduceCtorEq, Nat.reduceEqDiff, Nat.reduceAdd, Nat.reduceMul, Nat.reduceSub, Nat.reduceLeDiff, Nat.reduceBEq, Int.reduceToNat, Int.reduceLE, Int.reduceLT, Int.reduceEq, Int.reduceNe, di]
  by_cases h12 : (l.length : Int) ≤ 24 ∨ 200 < (l.length : Int) ∧ (l.length : Int) ≤ 202
  rotate_left
  · simp only [h12, lkE, ↓reduceIte, reduceCtorEq, Nat.reduceEqDiff, Nat.reduceAdd, Nat.reduceMul, Nat.reduceSub, Nat.reduceLeDiff, Nat.reduceBEq, Int.reduceToNat, Int.reduceLE, Int.reduceLT, Int.reduceEq, Int.reduceNe, di]
  simp only [h12, lkE, ↓reduceIte, reduceCtorEq, Nat.reduceEqDiff, Nat.reduceAdd, Nat.reduceMul, Nat.reduceSub, Nat.reduceLeDiff, Nat.reduceBEq, Int.reduceToNat, Int.reduceLE, Int.reduceLT, Int.reduceEq, Int.reduceNe, di]
  have hl : l.length ≤ 1000 := by omega
  have cc := r_CopyList (l := l) (by omega)
  have hgo : ∀ {P : Prop}, (s.size ≤ 1000000 → P) → (if 300 < (s.size : Int) then (if ¬ (s.size : Int) ≤ 60000 ∧ ¬ 60010 < (s.size : Int) then P else True) else (if 60010 < (s.size : Int) then True else P)) := by
    intro P h
    split
    · split
      · exact h (by omega)
      · trivial
    · split
      · trivial
      · exact h (by omega)
  refine hgo fun hs => ?_
  refine calls_of cc ?_; simp only [lkE, res6, b6k0, b6k1, b6k2, b6k3, ↓reduceIte, reduceCtorEq, Nat.reduceEqDiff, Nat.reduceAdd, Nat.reduceMul, Nat.reduceSub, Nat.reduceLeDiff, Nat.reduceBEq, Int.reduceToNat, Int.reduceLE, Int.reduceLT, Int.reduceEq, Int.reduceNe, di]
  refine calls_of (p_FormatFlows hb hl) ?_; simp only [lkE, res6, b6k0, b6k1, b6k2, b6k3, ↓reduceIte, reduceCtorEq, Nat.reduceEqDiff, Nat.reduceAdd, Nat.reduceMul, Nat.reduceSub, Nat.reduceLeDiff, Nat.reduceBEq, Int.reduceToNat, Int.reduceLE, Int.reduceLT, Int.reduceEq, Int.reduceNe, di]
  refine calls_of (p_ParseFlows (s := s) hs) ?_; simp only [lkE, res6, b6k0, b6k1, b6k2, b6k3, ↓reduceIte, reduceCtorEq, Nat.reduceEqDiff, Nat.reduceAdd, Nat.reduceMul, Nat.reduceSub, Nat.reduceLeDiff, Nat.reduceBEq, Int.reduceToNat, Int.reduceLE, Int.reduceLT, Int.reduceEq, Int.reduceNe, di]
  refine calls_of (r_ParseFlows (s := s) hs) ?_; simp only [lkE, res6, b6k0, b6k1, b6k2, b6k3, ↓reduceIte, reduceCtorEq, Nat.reduceEqDiff, Nat.reduceAdd, Nat.reduceMul, Nat.reduceSub, Nat.reduceLeDiff, Nat.reduceBEq, Int.reduceToNat, Int.reduceLE, Int.reduceLT, Int.reduceEq, Int.reduceNe, di]
  refine calls_of (r_FormatFlows hb hl) ?_; simp only [lkE, res6, b6k0, b6k1, b6k2, b6k3, ↓reduceIte, reduceCtorEq, Nat.reduceEqDiff, Nat.reduceAdd, Nat.reduceMul, Nat.reduceSub, Nat.reduceLeDiff, Nat.reduceBEq, Int.reduceToNat, Int.reduceLE, Int.reduceLT, Int.reduceEq, Int.reduceNe, di]
  rw [if_pos (str_beq.2 rfl)]
  refine calls_of (r_SameList (a := (parseFl s).1) (b := (parseFl s).1) (parse_lenF hs)) ?_; simp only [lkE, res6, b6k0, b6k1, b6k2, b6k3, ↓reduceIte, reduceCtorEq, Nat.reduceEqDiff, Nat.reduceAdd, Nat.reduceMul, Nat.reduceSub, Nat.reduceLeDiff, Nat.reduceBEq, Int.reduceToNat, Int.reduceLE, Int.reduceLT, Int.reduceEq, Int.reduceNe, di]
  refine calls_of (r_ListErr (l := l) (by omega)) ?_; simp only [lkE, res6, b6k0, b6k1, b6k2, b6k3, ↓reduceIte, reduceCtorEq, Nat.reduceEqDiff, Nat.reduceAdd, Nat.reduceMul, Nat.reduceSub, Nat.reduceLeDiff, Nat.reduceBEq, Int.reduceToNat, Int.reduceLE, Int.reduceLT, Int.reduceEq, Int.reduceNe, di]
  by_cases h0 : listErr l = 0
  rotate_left
  · simp only [h0, lkE, ↓reduceIte, reduceCtorEq, Nat.reduceEqDiff, Nat.reduceAdd, Nat.reduceMul, Nat.reduceSub, Nat.reduceLeDiff, Nat.reduceBEq, Int.reduceToNat, Int.reduceLE, Int.reduceLT, Int.reduceEq, Int.reduceNe, di]
  have c := p_ParseFlows (s := fmtF l) (Nat.le_trans (fmtRows_size (fl_rows hb hl) (by rw [List.length_map]; have := (listErr_ok.1 h0).1; omega)) (by decide))
  rw [parse_fl hb h0] at c
  simp only [h0, lkE, ↓reduceIte, reduceCtorEq, Nat.reduceEqDiff, Nat.reduceAdd, Nat.reduceMul, Nat.reduceSub, Nat.reduceLeDiff, Nat.reduceBEq, Int.reduceToNat, Int.reduceLE, Int.reduceLT, Int.reduceEq, Int.reduceNe, di]
  refine calls_of c ?_; simp only [lkE, res6, b6k0, b6k1, b6k2, b6k3, ↓reduceIte, reduceCtorEq, Nat.reduceEqDiff, Nat.reduceAdd, Nat.reduceMul, Nat.reduceSub, Nat.reduceLeDiff, Nat.reduceBEq, Int.reduceToNat, Int.reduceLE, Int.reduceLT, Int.reduceEq, Int.reduceNe, di]
  refine calls_of (r_SameList (a := l) (b := l) (by omega)) ?_; simp only [lkE, res6, b6k0, b6k1, b6k2, b6k3, ↓reduceIte, reduceCtorEq, Nat.reduceEqDiff, Nat.reduceAdd, Nat.reduceMul, Nat.reduceSub, Nat.reduceLeDiff, Nat.reduceBEq, Int.reduceToNat, Int.reduceLE, Int.reduceLT, Int.reduceEq, Int.reduceNe, di]
end Go.DI

