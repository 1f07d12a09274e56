/- The statement SurgeCovered, as a contract. No condition. -/
import Derived.Test.YtdpfjbghiahbeaaKgGq
set_option linter.unusedSimpArgs false
set_option maxRecDepth 20000
namespace Go.DI
open Go.Proofs Go.RowKit Sg

theorem bd_ok {r : Ru} {p : Pl} {bs : List Bx} (hr : Sg.Good r) (hp : PlanOk p) (h0 : bs ≠ []) (h1 : bs.length ≤ 64) (h2 : ∀ b ∈ bs, boxErr b = 0) :
    Contract Try.prog 60 [ruI r, spI p, .slc 4 (bs.map sbI)] (.tup [stI (boundP r p bs).2.1 (boundP r p bs).2.2, .int .i64 (if ordersP p = [] then 12 else 0)]) := by
  have hE : (planEr r p).2 = 0 := planEr_zero.2 ⟨hr, hp⟩
  have hpl := hp.len
  have s := s_BoundOf (r := r) (p := p) (bs := bs) (by omega) (by omega)
  rw [if_pos (show boundE r p bs = 0 by unfold boundE; rw [fstE_zero]; exact ⟨hE, boxesE_ok h0 h1 h2⟩)] at s
  have hf := bound_found (r := r) (p := p) (bs := bs) hp.ticks.1 h0
  by_cases ho : ordersP p = []
  · rw [if_neg (fun k => (hf.1 k) ho)] at s
    rw [if_pos ho]
    exact s
  · rw [if_pos (hf.2 ho)] at s
    rw [if_neg ho]
    exact s

theorem ct1_SurgeCovered {r : Ru} {p : Pl} {v : Cv} (hr : Sg.Good r) (hp : PlanOk p) (hv : coverE v = 0) (hl1 : (coverL v).length ≠ 1) (h300 : countB v.b ≤ 300) :
    run Try.prog b14k4 [] (d14.post (.bool true)) (mkS [(3, .ref 3 0), (4, .ref 4 0), (5, .ref 5 0), (7, .imm (.slc 4 ((coverL v).map sbI)))] (wtR r p v)) := by
  obtain ⟨hcl, hcb⟩ := cover_ok hv
  obtain ⟨hne, -⟩ := cover_ne hv
  obtain ⟨hb, -⟩ := coverE_zero.1 hv
  have hpl := hp.len
  have hpos := List.length_pos_iff.2 hne
  have hdl : ((coverL v).drop 1).length = (coverL v).length - 1 := List.length_drop
  have hd1 : (coverL v).drop 1 ≠ [] := List.length_pos_iff.1 (by omega)
  have hdb : ∀ b ∈ (coverL v).drop 1, boxErr b = 0 := fun b h => hcb b (List.mem_of_mem_drop h)
  have cp := r_CopyPlan (p := p) (by omega)
  have cb1 := r_CopyBoxes (l := (coverL v).drop 1) (by omega)
  have cb := r_CopyBoxes (l := coverL v) (by omega)
  have s1 := s_CoversAll (r := r) (b := v.b) (bs := (coverL v).drop 1) (by omega)
  obtain ⟨s, hgap⟩ := cover_gap hv
  have ba := bd_ok hr hp hne hcl hcb
  have bb := bd_ok hr hp hd1 (by omega) hdb
  have bc := bd_ok (bs := [v.b]) hr hp (by simp) (by simp) (by simp [hb])
  have hb0 : ordersP p ≠ [] → _ := fun ho => cover_bounds (r := r) hr hp hv ho hd1
  simp only [b14k4, b14k3, b14k2, b14k1, res14, wtR, ruC, spC, scCells, ruI, ssI, sbI, spI, swI, scI, stI, srI, saI, snI, ↓reduceIte, reduceCtorEq, Nat.reduceEqDiff, Nat.reduceAdd, Nat.reduceMul, Nat.reduceSub, Nat.reduceLeDiff, Nat.reduceBEq, Int.reduceToNat, Int.reduceLE, Int.reduceLT, Int.reduceEq, Int.reduceNe, di0, di1, di2, di3, di4, di5, di6, di7, di8, di9, postX_ret, postX_normal, ex_some]
  rw [if_pos (show covAE r v.b ((coverL v).drop 1) = 0 by
    unfold covAE
    rw [fstE_zero, fstE_zero, fstE_zero, if_neg (show ¬ 4000 < countB v.b by omega)]
    exact ⟨⟨rules_ok.2 hr, hb⟩, boxesE_ok hd1 (by omega) hdb, rfl⟩), hgap] at s1
  repeat (refine And.intro (by omega) ?_)
  rw [List.take_length]
  refine calls_of cb1 ?_; simp only [ruI, ssI, sbI, spI, swI, scI, stI, srI, saI, snI, res14, b14k0, b14k1, b14k2, b14k3, b14k4, b14k5, b14k6, b14k7, b14k8, b14k9, b14k10, ↓reduceIte, reduceCtorEq, Nat.reduceEqDiff, Nat.reduceAdd, Nat.reduceMul, Nat.reduceSub, Nat.reduceLeDiff, Nat.reduceBEq, Int.reduceToNat, Int.reduceLE, Int.reduceLT, Int.reduceEq, Int.reduceNe, di0, di1, di2, di3, di4, di5, di6, di7, di8, di9, postX_ret, postX_normal, ex_some]
  refine calls_of s1 ?_; simp only [ruI, ssI, sbI, spI, swI, scI, stI, srI, saI, snI, res14, b14k0, b14k1, b14k2, b14k3, b14k4, b14k5, b14k6, b14k7, b14k8, b14k9, b14k10, ↓reduceIte, reduceCtorEq, Nat.reduceEqDiff, Nat.reduceAdd, Nat.reduceMul, Nat.reduceSub, Nat.reduceLeDiff, Nat.reduceBEq, Int.reduceToNat, Int.reduceLE, Int.reduceLT, Int.reduceEq, Int.reduceNe, di0, di1, di2, di3, di4, di5, di6, di7, di8, di9, postX_ret, postX_normal, ex_some]
  simp only [uncE, ruI, ssI, sbI, spI, swI, scI, stI, srI, saI, snI, ↓reduceIte, reduceCtorEq, Nat.reduceEqDiff, Nat.reduceAdd, Nat.reduceMul, Nat.reduceSub, Nat.reduceLeDiff, Nat.reduceBEq, Int.reduceToNat, Int.reduceLE, Int.reduceLT, Int.reduceEq, Int.reduceNe, di0, di1, di2, di3, di4, di5, di6, di7, di8, di9, postX_ret, postX_normal, ex_some]
  refine calls_of cp ?_; simp only [ruI, ssI, sbI, spI, swI, scI, stI, srI, saI, snI, res14, b14k0, b14k1, b14k2, b14k3, b14k4, b14k5, b14k6, b14k7, b14k8, b14k9, b14k10, ↓reduceIte, reduceCtorEq, Nat.reduceEqDiff, Nat.reduceAdd, Nat.reduceMul, Nat.reduceSub, Nat.reduceLeDiff, Nat.reduceBEq, Int.reduceToNat, Int.reduceLE, Int.reduceLT, Int.reduceEq, Int.reduceNe, di0, di1, di2, di3, di4, di5, di6, di7, di8, di9, postX_ret, postX_normal, ex_some]
  refine calls_of cb ?_; simp only [ruI, ssI, sbI, spI, swI, scI, stI, srI, saI, snI, res14, b14k0, b14k1, b14k2, b14k3, b14k4, b14k5, b14k6, b14k7, b14k8, b14k9, b14k10, ↓reduceIte, reduceCtorEq, Nat.reduceEqDiff, Nat.reduceAdd, Nat.reduceMul, Nat.reduceSub, Nat.reduceLeDiff, Nat.reduceBEq, Int.reduceToNat, Int.reduceLE, Int.reduceLT, Int.reduceEq, Int.reduceNe, di0, di1, di2, di3, di4, di5, di6, di7, di8, di9, postX_ret, postX_normal, ex_some]
  refine calls_of ba ?_; simp only [ruI, ssI, sbI, spI, swI, scI, stI, srI, saI, snI, res14, b14k0, b14k1, b14k2, b14k3, b14k4, b14k5, b14k6, b14k7, b14k8, b14k9, b14k10, ↓reduceIte, reduceCtorEq, Nat.reduceEqDiff, Nat.reduceAdd, Nat.reduceMul, Nat.reduceSub, Nat.reduceLeDiff, Nat.reduceBEq, Int.reduceToNat, Int.reduceLE, Int.reduceLT, Int.reduceEq, Int.reduceNe, di0, di1, di2, di3, di4, di5, di6, di7, di8, di9, postX_ret, postX_normal, ex_some]
  refine calls_of cp ?_; simp only [ruI, ssI, sbI, spI, swI, scI, stI, srI, saI, snI, res14, b14k0, b14k1, b14k2, b14k3, b14k4, b14k5, b14k6, b14k7, b14k8, b14k9, b14k10, ↓reduceIte, reduceCtorEq, Nat.reduceEqDiff, Nat.reduceAdd, Nat.reduceMul, Nat.reduceSub, Nat.reduceLeDiff, Nat.reduceBEq, Int.reduceToNat, Int.reduceLE, Int.reduceLT, Int.reduceEq, Int.reduceNe, di0, di1, di2, di3, di4, di5, di6, di7, di8, di9, postX_ret, postX_normal, ex_some]
  repeat (refine And.intro (by omega) ?_)
  rw [List.take_length]
  refine calls_of cb1 ?_; simp only [ruI, ssI, sbI, spI, swI, scI, stI, srI, saI, snI, res14, b14k0, b14k1, b14k2, b14k3, b14k4, b14k5, b14k6, b14k7, b14k8, b14k9, b14k10, ↓reduceIte, reduceCtorEq, Nat.reduceEqDiff, Nat.reduceAdd, Nat.reduceMul, Nat.reduceSub, Nat.reduceLeDiff, Nat.reduceBEq, Int.reduceToNat, Int.reduceLE, Int.reduceLT, Int.reduceEq, Int.reduceNe, di0, di1, di2, di3, di4, di5, di6, di7, di8, di9, postX_ret, postX_normal, ex_some]
  refine calls_of bb ?_; simp only [ruI, ssI, sbI, spI, swI, scI, stI, srI, saI, snI, res14, b14k0, b14k1, b14k2, b14k3, b14k4, b14k5, b14k6, b14k7, b14k8, b14k9, b14k10, ↓reduceIte, reduceCtorEq, Nat.reduceEqDiff, Nat.reduceAdd, Nat.reduceMul, Nat.reduceSub, Nat.reduceLeDiff, Nat.reduceBEq, Int.reduceToNat, Int.reduceLE, Int.reduceLT, Int.reduceEq, Int.reduceNe, di0, di1, di2, di3, di4, di5, di6, di7, di8, di9, postX_ret, postX_normal, ex_some]
  refine calls_of cp ?_; simp only [ruI, ssI, sbI, spI, swI, scI, stI, srI, saI, snI, res14, b14k0, b14k1, b14k2, b14k3, b14k4, b14k5, b14k6, b14k7, b14k8, b14k9, b14k10, ↓reduceIte, reduceCtorEq, Nat.reduceEqDiff, Nat.reduceAdd, Nat.reduceMul, Nat.reduceSub, Nat.reduceLeDiff, Nat.reduceBEq, Int.reduceToNat, Int.reduceLE, Int.reduceLT, Int.reduceEq, Int.reduceNe, di0, di1, di2, di3, di4, di5, di6, di7, di8, di9, postX_ret, postX_normal, ex_some]
  refine calls_of bc ?_; simp only [ruI, ssI, sbI, spI, swI, scI, stI, srI, saI, snI, res14, b14k0, b14k1, b14k2, b14k3, b14k4, b14k5, b14k6, b14k7, b14k8, b14k9, b14k10, ↓reduceIte, reduceCtorEq, Nat.reduceEqDiff, Nat.reduceAdd, Nat.reduceMul, Nat.reduceSub, Nat.reduceLeDiff, Nat.reduceBEq, Int.reduceToNat, Int.reduceLE, Int.reduceLT, Int.reduceEq, Int.reduceNe, di0, di1, di2, di3, di4, di5, di6, di7, di8, di9, postX_ret, postX_normal, ex_some]
  by_cases ho : ordersP p = []
  · simp only [ho, ruI, ssI, sbI, spI, swI, scI, stI, srI, saI, snI, ↓reduceIte, reduceCtorEq, Nat.reduceEqDiff, Nat.reduceAdd, Nat.reduceMul, Nat.reduceSub, Nat.reduceLeDiff, Nat.reduceBEq, Int.reduceToNat, Int.reduceLE, Int.reduceLT, Int.reduceEq, Int.reduceNe, di0, di1, di2, di3, di4, di5, di6, di7, di8, di9, postX_ret, postX_normal, ex_some]
  · obtain ⟨⟨k1, k2⟩, k3, k4⟩ := hb0 ho
    simp only [ho, k1, k2, k3, k4, ruI, ssI, sbI, spI, swI, scI, stI, srI, saI, snI, ↓reduceIte, reduceCtorEq, Nat.reduceEqDiff, Nat.reduceAdd, Nat.reduceMul, Nat.reduceSub, Nat.reduceLeDiff, Nat.reduceBEq, Int.reduceToNat, Int.reduceLE, Int.reduceLT, Int.reduceEq, Int.reduceNe, di0, di1, di2, di3, di4, di5, di6, di7, di8, di9, postX_ret, postX_normal, ex_some]

theorem ct0_SurgeCovered {r : Ru} {p : Pl} {v : Cv} (hr : Sg.Good r) (hp : PlanOk p) (hv : coverE v = 0) (h300 : countB v.b ≤ 300) :
    run Try.prog b14k7 [] (d14.post (.bool true)) (mkS [(3, .ref 3 0), (4, .ref 4 0), (5, .ref 5 0), (7, .imm (.slc 4 ((coverL v).map sbI)))] (wtR r p v)) := by
  obtain ⟨hcl, hcb⟩ := cover_ok hv
  obtain ⟨hne, -⟩ := cover_ne hv
  obtain ⟨hb, -⟩ := coverE_zero.1 hv
  have hpos := List.length_pos_iff.2 hne
  have hsum := cover_sum hv
  have h0 := (count_bd hb).1
  have go := fun hl1 => ct1_SurgeCovered (r := r) (p := p) (v := v) hr hp hv hl1 h300
  have hone := cover_one hv
  simp only [wtR, ruC, spC, scCells] at go
  have hnn : ∀ l : List Bx, (∀ b ∈ l, boxErr b = 0) → 0 ≤ sumC l := by
    intro l
    induction l with
    | nil => intro _; exact Int.le_refl _
    | cons b l ih => intro h; have := (count_bd (h b (by simp))).1; have := ih (fun x hx => h x (by simp [hx])); simp only [sumC]; omega
  simp only [b14k7, res14, wtR, ruC, spC, scCells, ruI, ssI, sbI, spI, swI, scI, stI, srI, saI, snI, ↓reduceIte, reduceCtorEq, Nat.reduceEqDiff, Nat.reduceAdd, Nat.reduceMul, Nat.reduceSub, Nat.reduceLeDiff, Nat.reduceBEq, Int.reduceToNat, Int.reduceLE, Int.reduceLT, Int.reduceEq, Int.reduceNe, di0, di1, di2, di3, di4, di5, di6, di7, di8, di9, postX_ret, postX_normal, ex_some]
  refine loop_keep (α := Nat × Int) rfl (fun q => (coverL v).length - q.1) (fun q => q.1 ≤ (coverL v).length ∧ 0 ≤ q.2 ∧ q.2 + sumC ((coverL v).drop q.1) = countB v.b)
    (fun q => [(3, .ref 3 0), (4, .ref 4 0), (5, .ref 5 0), (7, .imm (.slc 4 ((coverL v).map sbI))), (11, .imm (.int .i64 q.2)), (12, .imm (.int .i64 q.1))])
    (fun _ => wtR r p v) (0, 0) ⟨Nat.zero_le _, Int.le_refl _, by simpa using hsum⟩ (by simp only [wtR, ruC, spC, scCells, ruI, ssI, sbI, spI, swI, scI, stI, srI, saI, snI, ↓reduceIte, reduceCtorEq, Nat.reduceEqDiff, Nat.reduceAdd, Nat.reduceMul, Nat.reduceSub, Nat.reduceLeDiff, Nat.reduceBEq, Int.reduceToNat, Int.reduceLE, Int.reduceLT, Int.reduceEq, Int.reduceNe, di0, di1, di2, di3, di4, di5, di6, di7, di8, di9, postX_ret, postX_normal, ex_some] <;> rfl) ?_
  rintro ⟨i, c⟩ ⟨hi, hc, he⟩ ih
  dsimp only at hi hc he ⊢
  simp only [res14, b14k0, b14k6, b14k5, wtR, ruC, spC, scCells, ruI, ssI, sbI, spI, swI, scI, stI, srI, saI, snI, ↓reduceIte, reduceCtorEq, Nat.reduceEqDiff, Nat.reduceAdd, Nat.reduceMul, Nat.reduceSub, Nat.reduceLeDiff, Nat.reduceBEq, Int.reduceToNat, Int.reduceLE, Int.reduceLT, Int.reduceEq, Int.reduceNe, di0, di1, di2, di3, di4, di5, di6, di7, di8, di9, postX_ret, postX_normal, ex_some]
  split
  · rename_i h
    have hlt : i < (coverL v).length := by omega
    have hd : (coverL v).drop i = (coverL v).getD i default :: (coverL v).drop (i + 1) := by
      rw [List.drop_eq_getElem_cons hlt, List.getD_eq_getElem?_getD]
      simp [hlt]
    have hm : (coverL v).getD i default ∈ coverL v := by rw [List.getD_eq_getElem?_getD]; simp [hlt]
    rw [hd] at he
    simp only [sumC] at he
    have hrest := hnn ((coverL v).drop (i + 1)) (fun b h => hcb b (List.mem_of_mem_drop h))
    have hcn := (count_bd (hcb _ hm)).1
    have rc := r_Count (b := (coverL v).getD i default) (hcb _ hm)
    repeat (refine And.intro (by omega) ?_)
    refine calls_of rc ?_; simp only [ruI, ssI, sbI, spI, swI, scI, stI, srI, saI, snI, res14, b14k5, b14k6, b14k7, b14k8, b14k9, b14k10, ↓reduceIte, reduceCtorEq, Nat.reduceEqDiff, Nat.reduceAdd, Nat.reduceMul, Nat.reduceSub, Nat.reduceLeDiff, Nat.reduceBEq, Int.reduceToNat, Int.reduceLE, Int.reduceLT, Int.reduceEq, Int.reduceNe, di0, di1, di2, di3, di4, di5, di6, di7, di8, di9, postX_ret, postX_normal, ex_some]
    simp only [show IntKind.wrap .i64 (c + countB ((coverL v).getD i default)) = c + countB ((coverL v).getD i default) from wrap64 (by omega) (by omega)]
    simp only [show IntKind.wrap .i64 ((i : Int) + 1) = (i : Int) + 1 from wrap64 (by omega) (by omega)]
    exact ih (i + 1, c + countB ((coverL v).getD i default)) _ _ (by dsimp only; omega) ⟨by dsimp only; omega, by dsimp only; omega, by dsimp only; omega⟩ (by simp only [wtR, ruC, spC, scCells, ruI, ssI, sbI, spI, swI, scI, stI, srI, saI, snI, ↓reduceIte, reduceCtorEq, Nat.reduceEqDiff, Nat.reduceAdd, Nat.reduceMul, Nat.reduceSub, Nat.reduceLeDiff, Nat.reduceBEq, Int.reduceToNat, Int.reduceLE, Int.reduceLT, Int.reduceEq, Int.reduceNe, di0, di1, di2, di3, di4, di5, di6, di7, di8, di9, postX_ret, postX_normal, ex_some] <;> rfl)
  · rename_i h
    rw [List.drop_of_length_le (by omega)] at he
    simp only [sumC, Int.add_zero] at he
    have rc := r_Count (b := v.b) hb
    refine calls_of rc ?_; simp only [ruI, ssI, sbI, spI, swI, scI, stI, srI, saI, snI, res14, b14k5, b14k6, b14k7, b14k8, b14k9, b14k10, ↓reduceIte, reduceCtorEq, Nat.reduceEqDiff, Nat.reduceAdd, Nat.reduceMul, Nat.reduceSub, Nat.reduceLeDiff, Nat.reduceBEq, Int.reduceToNat, Int.reduceLE, Int.reduceLT, Int.reduceEq, Int.reduceNe, di0, di1, di2, di3, di4, di5, di6, di7, di8, di9, postX_ret, postX_normal, ex_some]
    rw [if_pos he]
    by_cases hl1 : (coverL v).length = 1
    · rw [hone hl1]
      simp only [List.map_cons, List.map_nil, List.length_cons, List.length_nil, ruI, ssI, sbI, spI, swI, scI, stI, srI, saI, snI, ↓reduceIte, reduceCtorEq, Nat.reduceEqDiff, Nat.reduceAdd, Nat.reduceMul, Nat.reduceSub, Nat.reduceLeDiff, Nat.reduceBEq, Int.reduceToNat, Int.reduceLE, Int.reduceLT, Int.reduceEq, Int.reduceNe, di0, di1, di2, di3, di4, di5, di6, di7, di8, di9, postX_ret, postX_normal, ex_some]
      rw [if_pos (show ((1 : Nat) : Int) = 1 from rfl)]
      refine ⟨by decide, ?_⟩
      simp
    · rw [if_neg (show ¬ ((coverL v).length : Int) = 1 by omega)]
      exact go hl1

theorem l_SurgeCovered {r : Ru} {p : Pl} {v : Cv} : Contract Try.prog 14 [ruI r, spI p, scI v] (.bool true) := by
  refine contract_run Try.func14 k14 rfl ?_
  simp only [body14, b14, res14, b14k8, b14k9, b14k10, ruI, ssI, sbI, spI, swI, scI, stI, srI, saI, snI, ↓reduceIte, reduceCtorEq, Nat.reduceEqDiff, Nat.reduceAdd, Nat.reduceMul, Nat.reduceSub, Nat.reduceLeDiff, Nat.reduceBEq, Int.reduceToNat, Int.reduceLE, Int.reduceLT, Int.reduceEq, Int.reduceNe, di0, di1, di2, di3, di4, di5, di6, di7, di8, di9, postX_ret, postX_normal, ex_some]
  refine calls_of s_awake ?_; simp only [ruI, ssI, sbI, spI, swI, scI, stI, srI, saI, snI, res14, b14k8, b14k9, b14k10, ↓reduceIte, reduceCtorEq, Nat.reduceEqDiff, Nat.reduceAdd, Nat.reduceMul, Nat.reduceSub, Nat.reduceLeDiff, Nat.reduceBEq, Int.reduceToNat, Int.reduceLE, Int.reduceLT, Int.reduceEq, Int.reduceNe, di0, di1, di2, di3, di4, di5, di6, di7, di8, di9, postX_ret, postX_normal, ex_some]
  refine calls_of l_Few ?_; simp only [ruI, ssI, sbI, spI, swI, scI, stI, srI, saI, snI, res14, b14k8, b14k9, b14k10, ↓reduceIte, reduceCtorEq, Nat.reduceEqDiff, Nat.reduceAdd, Nat.reduceMul, Nat.reduceSub, Nat.reduceLeDiff, Nat.reduceBEq, Int.reduceToNat, Int.reduceLE, Int.reduceLT, Int.reduceEq, Int.reduceNe, di0, di1, di2, di3, di4, di5, di6, di7, di8, di9, postX_ret, postX_normal, ex_some]
  by_cases hf : FewP p
  case neg =>
    simp only [hf, ruI, ssI, sbI, spI, swI, scI, stI, srI, saI, snI, ↓reduceIte, reduceCtorEq, Nat.reduceEqDiff, Nat.reduceAdd, Nat.reduceMul, Nat.reduceSub, Nat.reduceLeDiff, Nat.reduceBEq, Int.reduceToNat, Int.reduceLE, Int.reduceLT, Int.reduceEq, Int.reduceNe, di0, di1, di2, di3, di4, di5, di6, di7, di8, di9, postX_ret, postX_normal, ex_some]
    all_goals (rw [if_neg (fun k => k.1)]; trivial)
  simp only [hf, ruI, ssI, sbI, spI, swI, scI, stI, srI, saI, snI, ↓reduceIte, reduceCtorEq, Nat.reduceEqDiff, Nat.reduceAdd, Nat.reduceMul, Nat.reduceSub, Nat.reduceLeDiff, Nat.reduceBEq, Int.reduceToNat, Int.reduceLE, Int.reduceLT, Int.reduceEq, Int.reduceNe, di0, di1, di2, di3, di4, di5, di6, di7, di8, di9, postX_ret, postX_normal, ex_some]
  by_cases h0 : 20 < p.ticks
  · simp only [h0, ruI, ssI, sbI, spI, swI, scI, stI, srI, saI, snI, ↓reduceIte, reduceCtorEq, Nat.reduceEqDiff, Nat.reduceAdd, Nat.reduceMul, Nat.reduceSub, Nat.reduceLeDiff, Nat.reduceBEq, Int.reduceToNat, Int.reduceLE, Int.reduceLT, Int.reduceEq, Int.reduceNe, di0, di1, di2, di3, di4, di5, di6, di7, di8, di9, postX_ret, postX_normal, ex_some]
    all_goals (rw [if_neg (fun k => k.1)]; trivial)
  simp only [h0, ruI, ssI, sbI, spI, swI, scI, stI, srI, saI, snI, ↓reduceIte, reduceCtorEq, Nat.reduceEqDiff, Nat.reduceAdd, Nat.reduceMul, Nat.reduceSub, Nat.reduceLeDiff, Nat.reduceBEq, Int.reduceToNat, Int.reduceLE, Int.reduceLT, Int.reduceEq, Int.reduceNe, di0, di1, di2, di3, di4, di5, di6, di7, di8, di9, postX_ret, postX_normal, ex_some]
  refine calls_of r_PlanErr0 ?_; simp only [ruI, ssI, sbI, spI, swI, scI, stI, srI, saI, snI, res14, b14k8, b14k9, b14k10, ↓reduceIte, reduceCtorEq, Nat.reduceEqDiff, Nat.reduceAdd, Nat.reduceMul, Nat.reduceSub, Nat.reduceLeDiff, Nat.reduceBEq, Int.reduceToNat, Int.reduceLE, Int.reduceLT, Int.reduceEq, Int.reduceNe, di0, di1, di2, di3, di4, di5, di6, di7, di8, di9, postX_ret, postX_normal, ex_some]
  by_cases hE : (planEr r p).2 = 0
  case neg =>
    simp only [hE, ruI, ssI, sbI, spI, swI, scI, stI, srI, saI, snI, ↓reduceIte, reduceCtorEq, Nat.reduceEqDiff, Nat.reduceAdd, Nat.reduceMul, Nat.reduceSub, Nat.reduceLeDiff, Nat.reduceBEq, Int.reduceToNat, Int.reduceLE, Int.reduceLT, Int.reduceEq, Int.reduceNe, di0, di1, di2, di3, di4, di5, di6, di7, di8, di9, postX_ret, postX_normal, ex_some]
    all_goals (rw [if_neg (fun k => k.1)]; trivial)
  simp only [hE, ruI, ssI, sbI, spI, swI, scI, stI, srI, saI, snI, ↓reduceIte, reduceCtorEq, Nat.reduceEqDiff, Nat.reduceAdd, Nat.reduceMul, Nat.reduceSub, Nat.reduceLeDiff, Nat.reduceBEq, Int.reduceToNat, Int.reduceLE, Int.reduceLT, Int.reduceEq, Int.reduceNe, di0, di1, di2, di3, di4, di5, di6, di7, di8, di9, postX_ret, postX_normal, ex_some]
  have rc := r_CoverErr (v := v)
  refine calls_of rc ?_; simp only [ruI, ssI, sbI, spI, swI, scI, stI, srI, saI, snI, res14, b14k8, b14k9, b14k10, ↓reduceIte, reduceCtorEq, Nat.reduceEqDiff, Nat.reduceAdd, Nat.reduceMul, Nat.reduceSub, Nat.reduceLeDiff, Nat.reduceBEq, Int.reduceToNat, Int.reduceLE, Int.reduceLT, Int.reduceEq, Int.reduceNe, di0, di1, di2, di3, di4, di5, di6, di7, di8, di9, postX_ret, postX_normal, ex_some]
  by_cases hv : coverE v = 0
  case neg =>
    simp only [hv, ruI, ssI, sbI, spI, swI, scI, stI, srI, saI, snI, ↓reduceIte, reduceCtorEq, Nat.reduceEqDiff, Nat.reduceAdd, Nat.reduceMul, Nat.reduceSub, Nat.reduceLeDiff, Nat.reduceBEq, Int.reduceToNat, Int.reduceLE, Int.reduceLT, Int.reduceEq, Int.reduceNe, di0, di1, di2, di3, di4, di5, di6, di7, di8, di9, postX_ret, postX_normal, ex_some]
    all_goals (rw [if_neg (fun k => k.1)]; trivial)
  simp only [hv, ruI, ssI, sbI, spI, swI, scI, stI, srI, saI, snI, ↓reduceIte, reduceCtorEq, Nat.reduceEqDiff, Nat.reduceAdd, Nat.reduceMul, Nat.reduceSub, Nat.reduceLeDiff, Nat.reduceBEq, Int.reduceToNat, Int.reduceLE, Int.reduceLT, Int.reduceEq, Int.reduceNe, di0, di1, di2, di3, di4, di5, di6, di7, di8, di9, postX_ret, postX_normal, ex_some]
  by_cases h1 : 3 < v.parts
  · simp only [h1, ruI, ssI, sbI, spI, swI, scI, stI, srI, saI, snI, ↓reduceIte, reduceCtorEq, Nat.reduceEqDiff, Nat.reduceAdd, Nat.reduceMul, Nat.reduceSub, Nat.reduceLeDiff, Nat.reduceBEq, Int.reduceToNat, Int.reduceLE, Int.reduceLT, Int.reduceEq, Int.reduceNe, di0, di1, di2, di3, di4, di5, di6, di7, di8, di9, postX_ret, postX_normal, ex_some]
    all_goals (rw [if_neg (fun k => k.1)]; trivial)
  simp only [h1, ruI, ssI, sbI, spI, swI, scI, stI, srI, saI, snI, ↓reduceIte, reduceCtorEq, Nat.reduceEqDiff, Nat.reduceAdd, Nat.reduceMul, Nat.reduceSub, Nat.reduceLeDiff, Nat.reduceBEq, Int.reduceToNat, Int.reduceLE, Int.reduceLT, Int.reduceEq, Int.reduceNe, di0, di1, di2, di3, di4, di5, di6, di7, di8, di9, postX_ret, postX_normal, ex_some]
  obtain ⟨hb, hpa, -⟩ := coverE_zero.1 hv
  refine calls_of (r_Count (b := v.b) hb) ?_; simp only [ruI, ssI, sbI, spI, swI, scI, stI, srI, saI, snI, res14, b14k8, b14k9, b14k10, ↓reduceIte, reduceCtorEq, Nat.reduceEqDiff, Nat.reduceAdd, Nat.reduceMul, Nat.reduceSub, Nat.reduceLeDiff, Nat.reduceBEq, Int.reduceToNat, Int.reduceLE, Int.reduceLT, Int.reduceEq, Int.reduceNe, di0, di1, di2, di3, di4, di5, di6, di7, di8, di9, postX_ret, postX_normal, ex_some]
  by_cases h2 : 300 < countB v.b
  · simp only [h2, ruI, ssI, sbI, spI, swI, scI, stI, srI, saI, snI, ↓reduceIte, reduceCtorEq, Nat.reduceEqDiff, Nat.reduceAdd, Nat.reduceMul, Nat.reduceSub, Nat.reduceLeDiff, Nat.reduceBEq, Int.reduceToNat, Int.reduceLE, Int.reduceLT, Int.reduceEq, Int.reduceNe, di0, di1, di2, di3, di4, di5, di6, di7, di8, di9, postX_ret, postX_normal, ex_some]
    all_goals (rw [if_neg (fun k => k.1)]; trivial)
  simp only [h2, ruI, ssI, sbI, spI, swI, scI, stI, srI, saI, snI, ↓reduceIte, reduceCtorEq, Nat.reduceEqDiff, Nat.reduceAdd, Nat.reduceMul, Nat.reduceSub, Nat.reduceLeDiff, Nat.reduceBEq, Int.reduceToNat, Int.reduceLE, Int.reduceLT, Int.reduceEq, Int.reduceNe, di0, di1, di2, di3, di4, di5, di6, di7, di8, di9, postX_ret, postX_normal, ex_some]
  obtain ⟨hr, hp⟩ := planEr_zero.1 hE
  have hpl := hp.len
  obtain ⟨hcl, hcb⟩ := cover_ok hv
  obtain ⟨hne, hlen⟩ := cover_ne hv
  have hpos := List.length_pos_iff.2 hne
  have h9 : (coverL v).length ≤ 9 := by
    have : v.parts.toNat ≤ 3 := by omega
    have := Nat.mul_le_mul this this
    omega
  have s3 := s_CoverOf (r := r) (v := v)
  rw [if_pos (show fstE (rulesErr r) (coverE v) = 0 by rw [fstE_zero]; exact ⟨rules_ok.2 hr, hv⟩)] at s3
  have rbe := r_BoxesErr (bs := coverL v) (by omega)
  rw [boxesE_ok hne hcl hcb] at rbe
  have cb := r_CopyBoxes (l := coverL v) (by omega)
  have s1 := s_CoversAll (r := r) (b := v.b) (bs := coverL v) (by omega)
  rw [if_pos (show covAE r v.b (coverL v) = 0 by
    unfold covAE
    rw [fstE_zero, fstE_zero, fstE_zero, if_neg (show ¬ 4000 < countB v.b by omega)]
    exact ⟨⟨rules_ok.2 hr, hb⟩, boxesE_ok hne hcl hcb, rfl⟩), cover_all hv] at s1
  have go := ct0_SurgeCovered hr hp hv (by omega)
  simp only [wtR, ruC, spC, scCells] at go
  refine calls_of s3 ?_; simp only [ruI, ssI, sbI, spI, swI, scI, stI, srI, saI, snI, res14, b14k8, b14k9, b14k10, ↓reduceIte, reduceCtorEq, Nat.reduceEqDiff, Nat.reduceAdd, Nat.reduceMul, Nat.reduceSub, Nat.reduceLeDiff, Nat.reduceBEq, Int.reduceToNat, Int.reduceLE, Int.reduceLT, Int.reduceEq, Int.reduceNe, di0, di1, di2, di3, di4, di5, di6, di7, di8, di9, postX_ret, postX_normal, ex_some]
  rw [if_pos ⟨by omega, by omega⟩]
  refine calls_of rbe ?_; simp only [ruI, ssI, sbI, spI, swI, scI, stI, srI, saI, snI, res14, b14k8, b14k9, b14k10, ↓reduceIte, reduceCtorEq, Nat.reduceEqDiff, Nat.reduceAdd, Nat.reduceMul, Nat.reduceSub, Nat.reduceLeDiff, Nat.reduceBEq, Int.reduceToNat, Int.reduceLE, Int.reduceLT, Int.reduceEq, Int.reduceNe, di0, di1, di2, di3, di4, di5, di6, di7, di8, di9, postX_ret, postX_normal, ex_some]
  refine calls_of cb ?_; simp only [ruI, ssI, sbI, spI, swI, scI, stI, srI, saI, snI, res14, b14k8, b14k9, b14k10, ↓reduceIte, reduceCtorEq, Nat.reduceEqDiff, Nat.reduceAdd, Nat.reduceMul, Nat.reduceSub, Nat.reduceLeDiff, Nat.reduceBEq, Int.reduceToNat, Int.reduceLE, Int.reduceLT, Int.reduceEq, Int.reduceNe, di0, di1, di2, di3, di4, di5, di6, di7, di8, di9, postX_ret, postX_normal, ex_some]
  refine calls_of s1 ?_; simp only [ruI, ssI, sbI, spI, swI, scI, stI, srI, saI, snI, res14, b14k8, b14k9, b14k10, ↓reduceIte, reduceCtorEq, Nat.reduceEqDiff, Nat.reduceAdd, Nat.reduceMul, Nat.reduceSub, Nat.reduceLeDiff, Nat.reduceBEq, Int.reduceToNat, Int.reduceLE, Int.reduceLT, Int.reduceEq, Int.reduceNe, di0, di1, di2, di3, di4, di5, di6, di7, di8, di9, postX_ret, postX_normal, ex_some]
  simp only [uncE, uncS, ruI, ssI, sbI, spI, swI, scI, stI, srI, saI, snI, ↓reduceIte, reduceCtorEq, Nat.reduceEqDiff, Nat.reduceAdd, Nat.reduceMul, Nat.reduceSub, Nat.reduceLeDiff, Nat.reduceBEq, Int.reduceToNat, Int.reduceLE, Int.reduceLT, Int.reduceEq, Int.reduceNe, di0, di1, di2, di3, di4, di5, di6, di7, di8, di9, postX_ret, postX_normal, ex_some]
  exact go
end Go.DI

