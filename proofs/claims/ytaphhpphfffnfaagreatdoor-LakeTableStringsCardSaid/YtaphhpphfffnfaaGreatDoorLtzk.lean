/- The statement LakeTableStrings: what it computes. No condition. -/
import Derived.Test.YtaphhpphfffnfaaGreatDoorLtzh
import Derived.Test.YtaphhpphfffnfaaGreatDoorLtzj
set_option linter.unusedSimpArgs false
set_option maxRecDepth 100000
namespace Go.DI
open Go.Proofs Go.RowKit Go.Lib Lk

theorem fmtRows_size {rows : List (List Int)} (h : RowsB rows) (hl : rows.length ≤ 800) : (fmtRows rows).size ≤ 60000 := by
  have := join_len (c := 59) (B := 66) (l := rows.map rowW) (fun w hw => by
    obtain ⟨r, hr, rfl⟩ := List.mem_map.1 hw
    exact rowW_len (h.row r hr))
  rw [List.length_map] at this
  unfold fmtRows
  rw [bs_size]
  omega
theorem kn_rt (l : List Kn) : (l.map knR).map knOf = l := by
  rw [List.map_map]
  conv => rhs; rw [← List.map_id l]
  rfl
theorem parse_tab {l : List Kn} (hb : KnB l) (h : Valid l) : parseTab (fmtT l) = (l, 0) := by
  have h2 := h.two
  have h10 := h.ten
  have hs := fmtRows_size (kn_rows hb (by omega)) (by rw [List.length_map]; omega)
  have hr := rows_fmt (n := 2) (k := 9) (sg := sgF (-1)) (rows := l.map knR) (by
      intro e
      have := congrArg List.length e
      rw [List.length_map, List.length_nil] at this
      omega) (by decide) (by
    intro r hr
    obtain ⟨x, hx, rfl⟩ := List.mem_map.1 hr
    obtain ⟨i, hi, e⟩ := List.getElem_of_mem hx
    have hk := h.range hi
    have hkx : kn l i = x := by
      show l.getD i default = x
      rw [List.getD_eq_getElem?_getD, List.getElem?_eq_getElem hi, e]; rfl
    rw [hkx] at hk
    refine ⟨rfl, fun j hj => ?_⟩
    match j, hj with
    | 0, _ => exact ⟨by show x.1.natAbs < 10000000000; omega, .inr hk.1⟩
    | 1, _ => exact ⟨by show x.2.natAbs < 10000000000; omega, .inr hk.2.2.1⟩)
  unfold parseTab
  rw [if_neg (show ¬ 60000 < (fmtT l).size from Nat.not_lt.2 hs)]
  show tabR (parseRows 2 (9 + 1) (sgF (-1)) (fmtRows (l.map knR))) = _
  rw [hr]
  show (if (chkT ((l.map knR).map knOf)).2 = 0 then ((l.map knR).map knOf, (0 : Int)) else ([], (chkT ((l.map knR).map knOf)).2)) = _
  rw [kn_rt, if_pos (chkT_ok.2 h)]
theorem parse_len {s : ByteArray} (h : s.size ≤ 1000000) : (parseTab s).1.length ≤ 1000000000000 := by
  unfold parseTab
  split
  · exact Nat.zero_le _
  · cases hr : parseRows 2 10 (sgF (-1)) s with
    | none => exact Nat.zero_le _
    | some rows =>
      have := (parseRows_len hr).2
      unfold tabR
      dsimp only
      split
      · rw [List.length_map]; omega
      · exact Nat.zero_le _
theorem l_LakeTableStrings {l : List Kn} {s : ByteArray} (hb : KnB l) : Contract Tryz.prog 5 [tabI l, .str s] (.bool true) := by
  refine contract_run Tryz.func5 k5 rfl ?_
  simp only [body5, b5, res5, b5k0, b5k1, b5k2, b5k3, lkE, ↓reduceIte, reduceCtorEq, Nat.reduceEqDiff, Nat.reduceAdd, Nat.reduceMul, Nat.reduceSub, Nat.reduceLeDiff, Nat.reduceBEq, Int.reduceToNat, Int.reduceLE, Int.reduceLT, Int.reduceEq, Int.reduceNe, di]
  refine calls_of l_awake ?_; simp only [lkE, res5, b5k0, b5k1, b5k2, b5k3, ↓reduceIte, reduceCtorEq, Nat.reduceEqDiff, Nat.reduceAdd, Nat.reduceMul, Nat.reduceSub, Nat.reduceLeDiff, Nat.reduceBEq, Int.reduceToNat, Int.reduceLE, Int.reduceLT, Int.reduceEq, Int.reduceNe, di]
  refine calls_of l_Few ?_; simp only [lkE, res5, b5k0, b5k1, b5k2, b5k3, ↓reduceIte, reduceCtorEq, Nat.reduceEqDiff, Nat.reduceAdd, Nat.reduceMul, Nat.reduceSub, Nat.reduceLeDiff, Nat.reduceBEq, Int.reduceToNat, Int.reduceLE, Int.reduceLT, Int.reduceEq, Int.reduceNe, di]
  by_cases h12 : l.length ≤ 12
  rotate_left
  · rw [if_neg h12]
    trivial
  rw [if_pos h12]
  have hl : l.length ≤ 1000 := by omega
  have cc := r_Copy (l := l) (by omega)
  have hgo : ∀ {P : Prop}, (s.size ≤ 1000000 → P) → (if 300 < (s.size : Int) then (if ¬ (s.size : Int) ≤ 60000 ∧ ¬ 60010 < (s.size : Int) then P else True) else (if 60010 < (s.size : Int) then True else P)) := by
    intro P h
    split
    · split
      · exact h (by omega)
      · trivial
    · split
      · trivial
      · exact h (by omega)
  refine hgo fun hs => ?_
  refine calls_of cc ?_; simp only [lkE, res5, b5k0, b5k1, b5k2, b5k3, ↓reduceIte, reduceCtorEq, Nat.reduceEqDiff, Nat.reduceAdd, Nat.reduceMul, Nat.reduceSub, Nat.reduceLeDiff, Nat.reduceBEq, Int.reduceToNat, Int.reduceLE, Int.reduceLT, Int.reduceEq, Int.reduceNe, di]
  refine calls_of (p_FormatTable hb hl) ?_; simp only [lkE, res5, b5k0, b5k1, b5k2, b5k3, ↓reduceIte, reduceCtorEq, Nat.reduceEqDiff, Nat.reduceAdd, Nat.reduceMul, Nat.reduceSub, Nat.reduceLeDiff, Nat.reduceBEq, Int.reduceToNat, Int.reduceLE, Int.reduceLT, Int.reduceEq, Int.reduceNe, di]
  refine calls_of (p_ParseTable (s := s) hs) ?_; simp only [lkE, res5, b5k0, b5k1, b5k2, b5k3, ↓reduceIte, reduceCtorEq, Nat.reduceEqDiff, Nat.reduceAdd, Nat.reduceMul, Nat.reduceSub, Nat.reduceLeDiff, Nat.reduceBEq, Int.reduceToNat, Int.reduceLE, Int.reduceLT, Int.reduceEq, Int.reduceNe, di]
  refine calls_of (r_ParseTable (s := s) hs) ?_; simp only [lkE, res5, b5k0, b5k1, b5k2, b5k3, ↓reduceIte, reduceCtorEq, Nat.reduceEqDiff, Nat.reduceAdd, Nat.reduceMul, Nat.reduceSub, Nat.reduceLeDiff, Nat.reduceBEq, Int.reduceToNat, Int.reduceLE, Int.reduceLT, Int.reduceEq, Int.reduceNe, di]
  refine calls_of (r_FormatTable hb hl) ?_; simp only [lkE, res5, b5k0, b5k1, b5k2, b5k3, ↓reduceIte, reduceCtorEq, Nat.reduceEqDiff, Nat.reduceAdd, Nat.reduceMul, Nat.reduceSub, Nat.reduceLeDiff, Nat.reduceBEq, Int.reduceToNat, Int.reduceLE, Int.reduceLT, Int.reduceEq, Int.reduceNe, di]
  rw [if_pos (str_beq.2 rfl)]
  refine calls_of (r_Same (a := (parseTab s).1) (b := (parseTab s).1) (parse_len hs)) ?_; simp only [lkE, res5, b5k0, b5k1, b5k2, b5k3, ↓reduceIte, reduceCtorEq, Nat.reduceEqDiff, Nat.reduceAdd, Nat.reduceMul, Nat.reduceSub, Nat.reduceLeDiff, Nat.reduceBEq, Int.reduceToNat, Int.reduceLE, Int.reduceLT, Int.reduceEq, Int.reduceNe, di]
  refine calls_of (r_TableErr (l := l) (by omega)) ?_; simp only [lkE, res5, b5k0, b5k1, b5k2, b5k3, ↓reduceIte, reduceCtorEq, Nat.reduceEqDiff, Nat.reduceAdd, Nat.reduceMul, Nat.reduceSub, Nat.reduceLeDiff, Nat.reduceBEq, Int.reduceToNat, Int.reduceLE, Int.reduceLT, Int.reduceEq, Int.reduceNe, di]
  by_cases h0 : (chkT l).2 = 0
  rotate_left
  · simp only [h0, lkE, ↓reduceIte, reduceCtorEq, Nat.reduceEqDiff, Nat.reduceAdd, Nat.reduceMul, Nat.reduceSub, Nat.reduceLeDiff, Nat.reduceBEq, Int.reduceToNat, Int.reduceLE, Int.reduceLT, Int.reduceEq, Int.reduceNe, di]
  have hv := chkT_ok.1 h0
  have c := p_ParseTable (s := fmtT l) (Nat.le_trans (fmtRows_size (kn_rows hb hl) (by rw [List.length_map]; omega)) (by decide))
  rw [parse_tab hb hv] at c
  simp only [h0, lkE, ↓reduceIte, reduceCtorEq, Nat.reduceEqDiff, Nat.reduceAdd, Nat.reduceMul, Nat.reduceSub, Nat.reduceLeDiff, Nat.reduceBEq, Int.reduceToNat, Int.reduceLE, Int.reduceLT, Int.reduceEq, Int.reduceNe, di]
  refine calls_of c ?_; simp only [lkE, res5, b5k0, b5k1, b5k2, b5k3, ↓reduceIte, reduceCtorEq, Nat.reduceEqDiff, Nat.reduceAdd, Nat.reduceMul, Nat.reduceSub, Nat.reduceLeDiff, Nat.reduceBEq, Int.reduceToNat, Int.reduceLE, Int.reduceLT, Int.reduceEq, Int.reduceNe, di]
  refine calls_of (r_Same (a := l) (b := l) (by omega)) ?_; simp only [lkE, res5, b5k0, b5k1, b5k2, b5k3, ↓reduceIte, reduceCtorEq, Nat.reduceEqDiff, Nat.reduceAdd, Nat.reduceMul, Nat.reduceSub, Nat.reduceLeDiff, Nat.reduceBEq, Int.reduceToNat, Int.reduceLE, Int.reduceLT, Int.reduceEq, Int.reduceNe, di]
end Go.DI

