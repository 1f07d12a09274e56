/- Contracts of readings that contradict each other, and what the parameters hold. No condition. -/
import Derived.Test.YtbmlfeikdhpdfaaJj
import Derived.Test.YtbmlfeikdhpdfaaJl
import Derived.Test.YtbmlfeikdhpdfaaJh
/- Contracts: readings that contradict each other. No condition. -/
set_option linter.unusedSimpArgs false
set_option maxRecDepth 100000
namespace Go.DI
open Go.Proofs Go.RowKit Lk

theorem mem_getD' {α : Type} {l : List α} {i : Nat} {d : α} (h : i < l.length) : l.getD i d ∈ l := by
  rw [List.getD_eq_getElem?_getD]; simp [h]

/-- Readings that are right. -/
structure VRead (l : List Kn) (net : List Int) (rs : List Rdg) : Prop where
  v : Valid l
  n : net.length ≤ 200
  b : ∀ x ∈ net, -10000000 ≤ x ∧ x ≤ 10000000
  p : 0 < rs.length
  q : rs.length ≤ 10
  ok : ∀ x ∈ rs, rdgErr l net.length x = 0

theorem allErr_ok {l : List Kn} {net : List Int} {rs : List Rdg} (h : allErr l net rs = 0) : VRead l net rs := by
  unfold allErr at h
  split at h
  · rename_i h1
    split at h
    · rename_i h2
      have h3 := rdErr_ok h
      have h4 := netErrP_ok.1 h2
      refine ⟨chkT_ok.1 h1, h4.1, h4.2, h3.1, h3.2.1, fun x hx => ?_⟩
      obtain ⟨i, hi, rfl⟩ := List.getElem_of_mem hx
      have := h3.2.2 i hi
      rw [List.getD_eq_getElem?_getD] at this
      simpa [hi] using this
    · contradiction
  · contradiction

theorem r_NetErr {net : List Int} (hl : net.length ≤ 1000000000000) : Contract Try.prog 74 [.slc 1 (net.map (.int .i64))] (.int .i64 (netErrP net)) := by
  unfold netErrP
  refine contract_run Try.func74 k74 rfl ?_
  simp only [body74, b74, res74, b74k0, b74k1, b74k2, b74k3, ↓reduceIte, reduceCtorEq, Nat.reduceEqDiff, Nat.reduceAdd, Nat.reduceMul, Nat.reduceSub, Nat.reduceLeDiff, Nat.reduceBEq, Int.reduceToNat, Int.reduceLE, Int.reduceLT, Int.reduceEq, Int.reduceNe, di0, di1, di2, di3, di4, di5, di6, di7, di8, di9, postX_ret, postX_normal, ex_some]
  split
  · rename_i h
    rw [if_pos (by omega)]
  · rename_i h
    rw [if_neg (by omega)]
    refine loop_keep (α := Nat) rfl (fun i => net.length - i) (fun i => i ≤ net.length ∧ ∀ j, j < i → Wi (net.getD j 0) (-10000000) 10000000)
      (fun i => [(0, .imm (.slc 1 (net.map (.int .i64)))), (3, .imm (.int .i64 i))]) (fun _ => []) 0 ⟨Nat.zero_le _, fun j hj => by omega⟩ (by simp only [↓reduceIte, reduceCtorEq, Nat.reduceEqDiff, Nat.reduceAdd, Nat.reduceMul, Nat.reduceSub, Nat.reduceLeDiff, Nat.reduceBEq, Int.reduceToNat, Int.reduceLE, Int.reduceLT, Int.reduceEq, Int.reduceNe, di0, di1, di2, di3, di4, di5, di6, di7, di8, di9, postX_ret, postX_normal, ex_some] <;> rfl) ?_
    intro i ⟨hi, he⟩ ih
    simp only [res74, b74k0, b74k1, b74k2, b74k3, ↓reduceIte, reduceCtorEq, Nat.reduceEqDiff, Nat.reduceAdd, Nat.reduceMul, Nat.reduceSub, Nat.reduceLeDiff, Nat.reduceBEq, Int.reduceToNat, Int.reduceLE, Int.reduceLT, Int.reduceEq, Int.reduceNe, di0, di1, di2, di3, di4, di5, di6, di7, di8, di9, postX_ret, postX_normal, ex_some]
    split
    · rename_i h1
      repeat (refine And.intro (by omega) ?_)
      refine calls_of c_Within ?_; simp only [res74, b74k0, b74k1, b74k2, b74k3, ↓reduceIte, reduceCtorEq, Nat.reduceEqDiff, Nat.reduceAdd, Nat.reduceMul, Nat.reduceSub, Nat.reduceLeDiff, Nat.reduceBEq, Int.reduceToNat, Int.reduceLE, Int.reduceLT, Int.reduceEq, Int.reduceNe, di0, di1, di2, di3, di4, di5, di6, di7, di8, di9, postX_ret, postX_normal, ex_some]
      split
      · rename_i h2
        rw [wrap64 (by omega) (by omega)]
        refine ih (i + 1) _ _ (by omega) ⟨by omega, fun j hj => ?_⟩ (by simp only [↓reduceIte, reduceCtorEq, Nat.reduceEqDiff, Nat.reduceAdd, Nat.reduceMul, Nat.reduceSub, Nat.reduceLeDiff, Nat.reduceBEq, Int.reduceToNat, Int.reduceLE, Int.reduceLT, Int.reduceEq, Int.reduceNe, di0, di1, di2, di3, di4, di5, di6, di7, di8, di9, postX_ret, postX_normal, ex_some] <;> rfl)
        by_cases e : j = i
        · subst e; exact h2
        · exact he j (by omega)
      · rename_i h2
        rw [if_pos ⟨net.getD i 0, mem_getD' (by omega), h2⟩]
    · rename_i h1
      rw [if_neg]
      rintro ⟨x, hx, hn⟩
      obtain ⟨j, hj, rfl⟩ := List.getElem_of_mem hx
      have := he j (by omega)
      rw [List.getD_eq_getElem?_getD] at this
      simp [hj] at this
      exact hn this

theorem r_ReadingsErr {l : List Kn} {net : List Int} {rs : List Rdg} (h : Valid l) : Contract Try.prog 75 [tabI l, .slc 1 (net.map (.int .i64)), .slc 3 (rs.map rdI)] (.int .i64 (rdErr l net.length rs)) := by
  have hz := valid_len h
  unfold rdErr
  refine contract_run Try.func75 k75 rfl ?_
  simp only [body75, b75, res75, b75k0, b75k1, b75k2, b75k3, b75k4, b75k5, knI, tabI, pieceI, pairI, lpI, stI, flI, rdI, rnI, getD_kn, ↓reduceIte, reduceCtorEq, Nat.reduceEqDiff, Nat.reduceAdd, Nat.reduceMul, Nat.reduceSub, Nat.reduceLeDiff, Nat.reduceBEq, Int.reduceToNat, Int.reduceLE, Int.reduceLT, Int.reduceEq, Int.reduceNe, di0, di1, di2, di3, di4, di5, di6, di7, di8, di9, postX_ret, postX_normal, ex_some]
  by_cases h1 : rs.length = 0
  · simp only [if_pos (show (rs.length : Int) = 0 by omega), if_pos h1, knI, tabI, pieceI, pairI, lpI, stI, flI, rdI, rnI, getD_kn, ↓reduceIte, reduceCtorEq, Nat.reduceEqDiff, Nat.reduceAdd, Nat.reduceMul, Nat.reduceSub, Nat.reduceLeDiff, Nat.reduceBEq, Int.reduceToNat, Int.reduceLE, Int.reduceLT, Int.reduceEq, Int.reduceNe, di0, di1, di2, di3, di4, di5, di6, di7, di8, di9, postX_ret, postX_normal, ex_some]
  · by_cases h2 : 10 < rs.length
    · simp only [if_neg (show ¬ (rs.length : Int) = 0 by omega), if_neg h1, if_pos h2, if_pos (show (10 : Int) < rs.length by omega), knI, tabI, pieceI, pairI, lpI, stI, flI, rdI, rnI, getD_kn, ↓reduceIte, reduceCtorEq, Nat.reduceEqDiff, Nat.reduceAdd, Nat.reduceMul, Nat.reduceSub, Nat.reduceLeDiff, Nat.reduceBEq, Int.reduceToNat, Int.reduceLE, Int.reduceLT, Int.reduceEq, Int.reduceNe, di0, di1, di2, di3, di4, di5, di6, di7, di8, di9, postX_ret, postX_normal, ex_some]
    · simp only [if_neg (show ¬ (rs.length : Int) = 0 by omega), if_neg h1, if_neg h2, if_neg (show ¬ (10 : Int) < rs.length by omega), knI, tabI, pieceI, pairI, lpI, stI, flI, rdI, rnI, getD_kn, ↓reduceIte, reduceCtorEq, Nat.reduceEqDiff, Nat.reduceAdd, Nat.reduceMul, Nat.reduceSub, Nat.reduceLeDiff, Nat.reduceBEq, Int.reduceToNat, Int.reduceLE, Int.reduceLT, Int.reduceEq, Int.reduceNe, di0, di1, di2, di3, di4, di5, di6, di7, di8, di9, postX_ret, postX_normal, ex_some]
      refine loop_keep (α := Nat) rfl (fun i => rs.length - i) (fun i => i ≤ rs.length ∧ (firstE (fun i => rdgErr l net.length (rs.getD i default)) (rs.length - i) i).2 = (firstE (fun i => rdgErr l net.length (rs.getD i default)) rs.length 0).2)
        (fun i => [(1, .imm (.slc 1 (net.map (.int .i64)))), (2, .imm (.slc 3 (rs.map rdI))), (3, .ref 3 0), (7, .imm (.int .i64 i))]) (fun _ => [(3, .box [.imm (.slc 2 (l.map knI))])]) 0 ⟨Nat.zero_le _, rfl⟩ (by simp only [↓reduceIte, reduceCtorEq, Nat.reduceEqDiff, Nat.reduceAdd, Nat.reduceMul, Nat.reduceSub, Nat.reduceLeDiff, Nat.reduceBEq, Int.reduceToNat, Int.reduceLE, Int.reduceLT, Int.reduceEq, Int.reduceNe, di0, di1, di2, di3, di4, di5, di6, di7, di8, di9, postX_ret, postX_normal, ex_some] <;> rfl) ?_
      intro i ⟨hi, he⟩ ih
      simp only [res75, b75k0, b75k1, b75k2, b75k3, b75k4, b75k5, knI, tabI, pieceI, pairI, lpI, stI, flI, rdI, rnI, getD_kn, ↓reduceIte, reduceCtorEq, Nat.reduceEqDiff, Nat.reduceAdd, Nat.reduceMul, Nat.reduceSub, Nat.reduceLeDiff, Nat.reduceBEq, Int.reduceToNat, Int.reduceLE, Int.reduceLT, Int.reduceEq, Int.reduceNe, di0, di1, di2, di3, di4, di5, di6, di7, di8, di9, postX_ret, postX_normal, ex_some]
      split
      · rename_i h3
        rw [show rs.length - i = (rs.length - (i + 1)) + 1 by omega, firstE_succ] at he
        repeat (refine And.intro (by omega) ?_)
        have bad : ¬ (Wi (rs.getD i default).tick 0 net.length ∧ isL l (rs.getD i default).lo ∧ isL l (rs.getD i default).hi) → rdgErr l net.length (rs.getD i default) = 2 := fun k => by unfold rdgErr; rw [if_pos k]
        refine calls_of c_Within ?_; simp only [knI, tabI, pieceI, pairI, lpI, stI, flI, rdI, rnI, getD_kn, res75, b75k0, b75k1, b75k2, b75k3, b75k4, b75k5, ↓reduceIte, reduceCtorEq, Nat.reduceEqDiff, Nat.reduceAdd, Nat.reduceMul, Nat.reduceSub, Nat.reduceLeDiff, Nat.reduceBEq, Int.reduceToNat, Int.reduceLE, Int.reduceLT, Int.reduceEq, Int.reduceNe, di0, di1, di2, di3, di4, di5, di6, di7, di8, di9, postX_ret, postX_normal, ex_some]
        split
        · rename_i c1
          repeat (refine And.intro (by omega) ?_)
          refine calls_of (r_IsLevel hz.1 hz.2) ?_; simp only [knI, tabI, pieceI, pairI, lpI, stI, flI, rdI, rnI, getD_kn, res75, b75k0, b75k1, b75k2, b75k3, b75k4, b75k5, ↓reduceIte, reduceCtorEq, Nat.reduceEqDiff, Nat.reduceAdd, Nat.reduceMul, Nat.reduceSub, Nat.reduceLeDiff, Nat.reduceBEq, Int.reduceToNat, Int.reduceLE, Int.reduceLT, Int.reduceEq, Int.reduceNe, di0, di1, di2, di3, di4, di5, di6, di7, di8, di9, postX_ret, postX_normal, ex_some]
          split
          · rename_i c2
            repeat (refine And.intro (by omega) ?_)
            refine calls_of (r_IsLevel hz.1 hz.2) ?_; simp only [knI, tabI, pieceI, pairI, lpI, stI, flI, rdI, rnI, getD_kn, res75, b75k0, b75k1, b75k2, b75k3, b75k4, b75k5, ↓reduceIte, reduceCtorEq, Nat.reduceEqDiff, Nat.reduceAdd, Nat.reduceMul, Nat.reduceSub, Nat.reduceLeDiff, Nat.reduceBEq, Int.reduceToNat, Int.reduceLE, Int.reduceLT, Int.reduceEq, Int.reduceNe, di0, di1, di2, di3, di4, di5, di6, di7, di8, di9, postX_ret, postX_normal, ex_some]
            split
            · rename_i c3
              have e : rdgErr l net.length (rs.getD i default) = if (rs.getD i default).lo ≤ (rs.getD i default).hi then 0 else 9 := by
                unfold rdgErr
                rw [if_neg (fun k => k ⟨c1, c2, c3⟩)]
                split
                · rw [if_neg (by omega)]
                · rw [if_pos (by omega)]
              repeat (refine And.intro (by omega) ?_)
              split
              · rename_i c4
                rw [if_neg (by omega)] at e
                rw [e, if_neg (by omega)] at he
                rw [← he]
              · rename_i c4
                rw [if_pos (by omega)] at e
                rw [if_pos e] at he
                rw [wrap64 (by omega) (by omega)]
                exact ih (i + 1) _ _ (by omega) ⟨by omega, he⟩ (by simp only [↓reduceIte, reduceCtorEq, Nat.reduceEqDiff, Nat.reduceAdd, Nat.reduceMul, Nat.reduceSub, Nat.reduceLeDiff, Nat.reduceBEq, Int.reduceToNat, Int.reduceLE, Int.reduceLT, Int.reduceEq, Int.reduceNe, di0, di1, di2, di3, di4, di5, di6, di7, di8, di9, postX_ret, postX_normal, ex_some] <;> rfl)
            · rename_i c3
              rw [bad (fun k => c3 k.2.2), if_neg (by omega)] at he
              rw [← he]
          · rename_i c2
            rw [bad (fun k => c2 k.2.1), if_neg (by omega)] at he
            rw [← he]
        · rename_i c1
          rw [bad (fun k => c1 k.1), if_neg (by omega)] at he
          rw [← he]
      · rename_i h3
        rw [show rs.length - i = 0 by omega] at he
        rw [← he]
        rfl

theorem r_AllErr {l : List Kn} {net : List Int} {rs : List Rdg} (hl : l.length ≤ 1000000000000) (hn : net.length ≤ 1000000000000) : Contract Try.prog 32 [tabI l, .slc 1 (net.map (.int .i64)), .slc 3 (rs.map rdI)] (.int .i64 (allErr l net rs)) := by
  unfold allErr
  refine contract_run Try.func32 k32 rfl ?_
  simp only [body32, b32, res32, b32k0, b32k1, knI, tabI, pieceI, pairI, lpI, stI, flI, rdI, rnI, getD_kn, ↓reduceIte, reduceCtorEq, Nat.reduceEqDiff, Nat.reduceAdd, Nat.reduceMul, Nat.reduceSub, Nat.reduceLeDiff, Nat.reduceBEq, Int.reduceToNat, Int.reduceLE, Int.reduceLT, Int.reduceEq, Int.reduceNe, di0, di1, di2, di3, di4, di5, di6, di7, di8, di9, postX_ret, postX_normal, ex_some]
  refine calls_of (r_TableErr hl) ?_; simp only [knI, tabI, pieceI, pairI, lpI, stI, flI, rdI, rnI, getD_kn, res32, b32k0, b32k1, ↓reduceIte, reduceCtorEq, Nat.reduceEqDiff, Nat.reduceAdd, Nat.reduceMul, Nat.reduceSub, Nat.reduceLeDiff, Nat.reduceBEq, Int.reduceToNat, Int.reduceLE, Int.reduceLT, Int.reduceEq, Int.reduceNe, di0, di1, di2, di3, di4, di5, di6, di7, di8, di9, postX_ret, postX_normal, ex_some]
  by_cases h1 : (chkT l).2 = 0
  · simp only [if_pos h1, knI, tabI, pieceI, pairI, lpI, stI, flI, rdI, rnI, getD_kn, ↓reduceIte, reduceCtorEq, Nat.reduceEqDiff, Nat.reduceAdd, Nat.reduceMul, Nat.reduceSub, Nat.reduceLeDiff, Nat.reduceBEq, Int.reduceToNat, Int.reduceLE, Int.reduceLT, Int.reduceEq, Int.reduceNe, di0, di1, di2, di3, di4, di5, di6, di7, di8, di9, postX_ret, postX_normal, ex_some]
    refine calls_of (r_NetErr hn) ?_; simp only [knI, tabI, pieceI, pairI, lpI, stI, flI, rdI, rnI, getD_kn, res32, b32k0, b32k1, ↓reduceIte, reduceCtorEq, Nat.reduceEqDiff, Nat.reduceAdd, Nat.reduceMul, Nat.reduceSub, Nat.reduceLeDiff, Nat.reduceBEq, Int.reduceToNat, Int.reduceLE, Int.reduceLT, Int.reduceEq, Int.reduceNe, di0, di1, di2, di3, di4, di5, di6, di7, di8, di9, postX_ret, postX_normal, ex_some]
    by_cases h2 : netErrP net = 0
    · simp only [if_pos h2, knI, tabI, pieceI, pairI, lpI, stI, flI, rdI, rnI, getD_kn, ↓reduceIte, reduceCtorEq, Nat.reduceEqDiff, Nat.reduceAdd, Nat.reduceMul, Nat.reduceSub, Nat.reduceLeDiff, Nat.reduceBEq, Int.reduceToNat, Int.reduceLE, Int.reduceLT, Int.reduceEq, Int.reduceNe, di0, di1, di2, di3, di4, di5, di6, di7, di8, di9, postX_ret, postX_normal, ex_some]
      refine calls_of (r_ReadingsErr (chkT_ok.1 h1)) ?_; simp only [knI, tabI, pieceI, pairI, lpI, stI, flI, rdI, rnI, getD_kn, res32, b32k0, b32k1, ↓reduceIte, reduceCtorEq, Nat.reduceEqDiff, Nat.reduceAdd, Nat.reduceMul, Nat.reduceSub, Nat.reduceLeDiff, Nat.reduceBEq, Int.reduceToNat, Int.reduceLE, Int.reduceLT, Int.reduceEq, Int.reduceNe, di0, di1, di2, di3, di4, di5, di6, di7, di8, di9, postX_ret, postX_normal, ex_some]
    · simp only [if_neg h2, knI, tabI, pieceI, pairI, lpI, stI, flI, rdI, rnI, getD_kn, ↓reduceIte, reduceCtorEq, Nat.reduceEqDiff, Nat.reduceAdd, Nat.reduceMul, Nat.reduceSub, Nat.reduceLeDiff, Nat.reduceBEq, Int.reduceToNat, Int.reduceLE, Int.reduceLT, Int.reduceEq, Int.reduceNe, di0, di1, di2, di3, di4, di5, di6, di7, di8, di9, postX_ret, postX_normal, ex_some]
  · simp only [if_neg h1, knI, tabI, pieceI, pairI, lpI, stI, flI, rdI, rnI, getD_kn, ↓reduceIte, reduceCtorEq, Nat.reduceEqDiff, Nat.reduceAdd, Nat.reduceMul, Nat.reduceSub, Nat.reduceLeDiff, Nat.reduceBEq, Int.reduceToNat, Int.reduceLE, Int.reduceLT, Int.reduceEq, Int.reduceNe, di0, di1, di2, di3, di4, di5, di6, di7, di8, di9, postX_ret, postX_normal, ex_some]

theorem r_permitted {l : List Kn} {net : List Int} {rs : List Rdg} {r : Rdg} (h : VRead l net rs) (hr : r ∈ rs) : Contract Try.prog 76 [tabI l, .slc 1 (net.map (.int .i64)), rdI r] (rnI (perm l net r)) := by
  obtain ⟨⟨t1, t2⟩, l1, l2, l3⟩ := rdgErr_ok (h.ok r hr)
  have hv := h.v
  have hn := h.n
  have b1 := volume_isV hv l1
  have b2 := volume_isV hv l2
  have b3 := isV_bd hv b1.2.1
  have b4 := isV_bd hv b2.1
  refine contract_run Try.func76 k76 rfl ?_
  simp only [body76, b76, res76, b76k0, b76k1, knI, tabI, pieceI, pairI, lpI, stI, flI, rdI, rnI, getD_kn, ↓reduceIte, reduceCtorEq, Nat.reduceEqDiff, Nat.reduceAdd, Nat.reduceMul, Nat.reduceSub, Nat.reduceLeDiff, Nat.reduceBEq, Int.reduceToNat, Int.reduceLE, Int.reduceLT, Int.reduceEq, Int.reduceNe, di0, di1, di2, di3, di4, di5, di6, di7, di8, di9, postX_ret, postX_normal, ex_some]
  refine loop_keep (α := Nat) rfl (fun j => r.tick.toNat - j) (fun j => j ≤ r.tick.toNat)
    (fun j => [(1, .imm (.slc 1 (net.map (.int .i64)))), (3, .ref 3 0), (5, .ref 5 0), (6, .ref 6 0), (7, .imm (.int .i64 (sumTo net j))), (8, .imm (.int .i64 j))])
    (fun j => [(3, .box [.imm (.slc 2 (l.map knI))]), (5, .box [.imm (.int .i64 r.tick), .imm (.int .i64 r.lo), .imm (.int .i64 r.hi)]), (6, .box [.imm (.int .i64 0), .imm (.int .i64 0)])]) 0 (Nat.zero_le _) (by simp only [↓reduceIte, reduceCtorEq, Nat.reduceEqDiff, Nat.reduceAdd, Nat.reduceMul, Nat.reduceSub, Nat.reduceLeDiff, Nat.reduceBEq, Int.reduceToNat, Int.reduceLE, Int.reduceLT, Int.reduceEq, Int.reduceNe, di0, di1, di2, di3, di4, di5, di6, di7, di8, di9, postX_ret, postX_normal, ex_some] <;> rfl) ?_
  intro j hj ih
  have sb := sumTo_bd h.b j
  have sb2 := sumTo_bd h.b (j + 1)
  simp only [res76, b76k0, b76k1, knI, tabI, pieceI, pairI, lpI, stI, flI, rdI, rnI, getD_kn, ↓reduceIte, reduceCtorEq, Nat.reduceEqDiff, Nat.reduceAdd, Nat.reduceMul, Nat.reduceSub, Nat.reduceLeDiff, Nat.reduceBEq, Int.reduceToNat, Int.reduceLE, Int.reduceLT, Int.reduceEq, Int.reduceNe, di0, di1, di2, di3, di4, di5, di6, di7, di8, di9, postX_ret, postX_normal, ex_some]
  split
  · rename_i h4
    repeat (refine And.intro (by omega) ?_)
    rw [show sumTo net j + net.getD j 0 = sumTo net (j + 1) from rfl, wrap64 (n := sumTo net (j + 1)) (by omega) (by omega), wrap64 (n := (j : Int) + 1) (by omega) (by omega)]
    exact ih (j + 1) _ _ (by omega) (by omega) (by simp only [↓reduceIte, reduceCtorEq, Nat.reduceEqDiff, Nat.reduceAdd, Nat.reduceMul, Nat.reduceSub, Nat.reduceLeDiff, Nat.reduceBEq, Int.reduceToNat, Int.reduceLE, Int.reduceLT, Int.reduceEq, Int.reduceNe, di0, di1, di2, di3, di4, di5, di6, di7, di8, di9, postX_ret, postX_normal, ex_some] <;> rfl)
  · rename_i h4
    have : j = r.tick.toNat := by omega
    subst this
    refine calls_of (r_VolumeAt hv l1) ?_; simp only [knI, tabI, pieceI, pairI, lpI, stI, flI, rdI, rnI, getD_kn, res76, b76k0, b76k1, ↓reduceIte, reduceCtorEq, Nat.reduceEqDiff, Nat.reduceAdd, Nat.reduceMul, Nat.reduceSub, Nat.reduceLeDiff, Nat.reduceBEq, Int.reduceToNat, Int.reduceLE, Int.reduceLT, Int.reduceEq, Int.reduceNe, di0, di1, di2, di3, di4, di5, di6, di7, di8, di9, postX_ret, postX_normal, ex_some]
    refine calls_of (r_VolumeAt hv l2) ?_; simp only [knI, tabI, pieceI, pairI, lpI, stI, flI, rdI, rnI, getD_kn, res76, b76k0, b76k1, ↓reduceIte, reduceCtorEq, Nat.reduceEqDiff, Nat.reduceAdd, Nat.reduceMul, Nat.reduceSub, Nat.reduceLeDiff, Nat.reduceBEq, Int.reduceToNat, Int.reduceLE, Int.reduceLT, Int.reduceEq, Int.reduceNe, di0, di1, di2, di3, di4, di5, di6, di7, di8, di9, postX_ret, postX_normal, ex_some]
    rw [wrap64 (n := volHi l r.lo - sumTo net r.tick.toNat) (by omega) (by omega), wrap64 (n := volLo l r.hi - sumTo net r.tick.toNat) (by omega) (by omega)]
    rfl

theorem rn_map {α : Type} [Inhabited α] {f : α → Rn} {rs : List α} {i : Nat} (h : i < rs.length) : rn (rs.map f) i = f (rs.getD i default) := by
  unfold rn
  rw [List.getD_eq_getElem?_getD, List.getD_eq_getElem?_getD]
  simp [h]

theorem r_AgreedOf {l : List Kn} {net : List Int} {rs : List Rdg} (h : VRead l net rs) :
    Contract Try.prog 33 [tabI l, .slc 1 (net.map (.int .i64)), .slc 3 (rs.map rdI)]
    (if (meets (rs.map (perm l net)) (rs.length - 1)).1 ≤ (meets (rs.map (perm l net)) (rs.length - 1)).2 then .tup [rnI (meets (rs.map (perm l net)) (rs.length - 1)), .bool true] else .tup [rnI (0, 0), .bool false]) := by
  have hp := h.p
  have hq := h.q
  refine contract_run Try.func33 k33 rfl ?_
  simp only [body33, b33, res33, b33k0, b33k1, b33k2, knI, tabI, pieceI, pairI, lpI, stI, flI, rdI, rnI, getD_kn, ↓reduceIte, reduceCtorEq, Nat.reduceEqDiff, Nat.reduceAdd, Nat.reduceMul, Nat.reduceSub, Nat.reduceLeDiff, Nat.reduceBEq, Int.reduceToNat, Int.reduceLE, Int.reduceLT, Int.reduceEq, Int.reduceNe, di0, di1, di2, di3, di4, di5, di6, di7, di8, di9, postX_ret, postX_normal, ex_some]
  repeat (refine And.intro (by omega) ?_)
  have h0 := r_permitted h (mem_getD' (l := rs) (i := 0) (d := default) h.p)
  have m0 : perm l net (rs.getD 0 default) = meets (rs.map (perm l net)) 0 := (rn_map h.p).symm
  rw [m0] at h0
  refine calls_of h0 ?_
  simp only [rnI, res33, b33k0, b33k1, b33k2, knI, tabI, pieceI, pairI, lpI, stI, flI, rdI, rnI, getD_kn, ↓reduceIte, reduceCtorEq, Nat.reduceEqDiff, Nat.reduceAdd, Nat.reduceMul, Nat.reduceSub, Nat.reduceLeDiff, Nat.reduceBEq, Int.reduceToNat, Int.reduceLE, Int.reduceLT, Int.reduceEq, Int.reduceNe, di0, di1, di2, di3, di4, di5, di6, di7, di8, di9, postX_ret, postX_normal, ex_some]
  refine loop_keep (α := Nat) rfl (fun j => rs.length - j) (fun j => j ≤ rs.length - 1)
    (fun j => [(1, .imm (.slc 1 (net.map (.int .i64)))), (2, .imm (.slc 3 (rs.map rdI))), (3, .ref 3 0), (6, .ref 6 0), (8, .ref 8 0), (9, .imm (.int .i64 ((j : Int) + 1)))])
    (fun j => [(3, .box [.imm (.slc 2 (l.map knI))]), (6, .box [.imm (.int .i64 0), .imm (.int .i64 0)]), (8, .box [.imm (.int .i64 (meets (rs.map (perm l net)) j).1), .imm (.int .i64 (meets (rs.map (perm l net)) j).2)])]) 0 (Nat.zero_le _) (by simp only [↓reduceIte, reduceCtorEq, Nat.reduceEqDiff, Nat.reduceAdd, Nat.reduceMul, Nat.reduceSub, Nat.reduceLeDiff, Nat.reduceBEq, Int.reduceToNat, Int.reduceLE, Int.reduceLT, Int.reduceEq, Int.reduceNe, di0, di1, di2, di3, di4, di5, di6, di7, di8, di9, postX_ret, postX_normal, ex_some] <;> rfl) ?_
  intro j hj ih
  simp only [res33, b33k0, b33k1, b33k2, knI, tabI, pieceI, pairI, lpI, stI, flI, rdI, rnI, getD_kn, ↓reduceIte, reduceCtorEq, Nat.reduceEqDiff, Nat.reduceAdd, Nat.reduceMul, Nat.reduceSub, Nat.reduceLeDiff, Nat.reduceBEq, Int.reduceToNat, Int.reduceLE, Int.reduceLT, Int.reduceEq, Int.reduceNe, di0, di1, di2, di3, di4, di5, di6, di7, di8, di9, postX_ret, postX_normal, ex_some]
  split
  · rename_i h4
    have hj1 := r_permitted h (mem_getD' (l := rs) (i := j + 1) (d := default) (by omega))
    have mj : perm l net (rs.getD (j + 1) default) = rn (rs.map (perm l net)) (j + 1) := (rn_map (by omega)).symm
    rw [mj] at hj1
    have hi : ((j : Int) + 1).toNat = j + 1 := by omega
    simp only [hi]
    repeat (refine And.intro (by omega) ?_)
    refine calls_of hj1 ?_
    simp only [rnI, res33, b33k0, b33k1, b33k2, knI, tabI, pieceI, pairI, lpI, stI, flI, rdI, rnI, getD_kn, ↓reduceIte, reduceCtorEq, Nat.reduceEqDiff, Nat.reduceAdd, Nat.reduceMul, Nat.reduceSub, Nat.reduceLeDiff, Nat.reduceBEq, Int.reduceToNat, Int.reduceLE, Int.reduceLT, Int.reduceEq, Int.reduceNe, di0, di1, di2, di3, di4, di5, di6, di7, di8, di9, postX_ret, postX_normal, ex_some]
    rw [wrap64 (n := (j : Int) + 1 + 1) (by omega) (by omega)]
    exact ih (j + 1) _ _ (by omega) (by omega) (by simp only [↓reduceIte, reduceCtorEq, Nat.reduceEqDiff, Nat.reduceAdd, Nat.reduceMul, Nat.reduceSub, Nat.reduceLeDiff, Nat.reduceBEq, Int.reduceToNat, Int.reduceLE, Int.reduceLT, Int.reduceEq, Int.reduceNe, di0, di1, di2, di3, di4, di5, di6, di7, di8, di9, postX_ret, postX_normal, ex_some] <;> rfl)
  · rename_i h4
    have hj2 : j = rs.length - 1 := by omega
    subst hj2
    split
    · rename_i h5
      rw [if_neg (by omega)]
    · rename_i h5
      rw [if_pos (by omega)]

theorem r_AgreedOf1 {l : List Kn} {net : List Int} {rs : List Rdg} {r : Rdg} (h : VRead l net rs) (hr : r ∈ rs) :
    Contract Try.prog 33 [tabI l, .slc 1 (net.map (.int .i64)), .slc 3 [rdI r]]
    (if (perm l net r).1 ≤ (perm l net r).2 then .tup [rnI (perm l net r), .bool true] else .tup [rnI (0, 0), .bool false]) :=
  r_AgreedOf (rs := [r]) ⟨h.v, h.n, h.b, by simp, by simp, fun x hx => h.ok x (by simp at hx; subst hx; exact hr)⟩

theorem r_AgreedOf2 {l : List Kn} {net : List Int} {rs : List Rdg} {r q : Rdg} (h : VRead l net rs) (hr : r ∈ rs) (hq : q ∈ rs) :
    Contract Try.prog 33 [tabI l, .slc 1 (net.map (.int .i64)), .slc 3 [rdI r, rdI q]]
    (if (meet (perm l net r) (perm l net q)).1 ≤ (meet (perm l net r) (perm l net q)).2 then .tup [rnI (meet (perm l net r) (perm l net q)), .bool true] else .tup [rnI (0, 0), .bool false]) :=
  r_AgreedOf (rs := [r, q]) ⟨h.v, h.n, h.b, by simp, by simp, fun x hx => h.ok x (by simp at hx; rcases hx with rfl | rfl <;> assumption)⟩

theorem p_common1 {r : Rn} : Contract Try.prog 73 [.slc 2 [rnI r]] (.tup [rnI r, .bool (decide (r.1 ≤ r.2))]) := p_common (rs := [r]) (by simp) (by simp)
theorem p_common2 {r q : Rn} : Contract Try.prog 73 [.slc 2 [rnI r, rnI q]] (.tup [rnI (meet r q), .bool (decide ((meet r q).1 ≤ (meet r q).2))]) := p_common (rs := [r, q]) (by simp) (by simp)

/-- The least set, as the program has it. -/
def conI (rs : List Rn) : List Int := (contra rs).map (fun i : Nat => (i : Int))

theorem findN_succ {p : Nat → Bool} {m i : Nat} : findN p (m + 1) i = if p i = true then some i else findN p m (i + 1) := rfl
theorem find2_succ {q : Nat → Nat → Bool} {n m i : Nat} : find2 q n (m + 1) i = match findN (q i) (n - (i + 1)) (i + 1) with
    | some k => some (i, k)
    | none => find2 q n m (i + 1) := rfl

theorem contra_one {rs : List Rn} {i : Nat} (h : findN (empty1 rs) rs.length 0 = some i) : contra rs = [i] := by
  unfold contra
  rw [h]
theorem contra_two {rs : List Rn} {i k : Nat} (h0 : findN (empty1 rs) rs.length 0 = none) (h : find2 (empty2 rs) rs.length rs.length 0 = some (i, k)) : contra rs = [i, k] := by
  unfold contra
  rw [h0, h]
theorem contra_none {rs : List Rn} (h0 : findN (empty1 rs) rs.length 0 = none) (h : find2 (empty2 rs) rs.length rs.length 0 = none) : contra rs = [] := by
  unfold contra
  rw [h0, h]

theorem con_len {rs : List Rn} : (conI rs).length ≤ 2 := by
  unfold conI contra
  rw [List.length_map]
  split
  · simp
  · split
    · simp
    · simp

theorem r_CopyReadings {l : List Rdg} (hl : l.length ≤ 1000000000) : Contract Try.prog 30 [.slc 3 (l.map rdI)] (.slc 3 (l.map rdI)) := by
  refine contract_run Try.func30 k30 rfl ?_
  simp only [body30, b30, res30, knI, tabI, pieceI, pairI, lpI, stI, flI, rdI, rnI, getD_kn, ↓reduceIte, reduceCtorEq, Nat.reduceEqDiff, Nat.reduceAdd, Nat.reduceMul, Nat.reduceSub, Nat.reduceLeDiff, Nat.reduceBEq, Int.reduceToNat, Int.reduceLE, Int.reduceLT, Int.reduceEq, Int.reduceNe, di0, di1, di2, di3, di4, di5, di6, di7, di8, di9, postX_ret, postX_normal, ex_some]
  omega

theorem r_Contradicting {l : List Kn} {net : List Int} {rs : List Rdg} (h : VRead l net rs) :
    Contract Try.prog 34 [tabI l, .slc 1 (net.map (.int .i64)), .slc 3 (rs.map rdI)]
    (.tup [.slc 1 ((conI (rs.map (perm l net))).map (.int .i64)), .bool (decide (contra (rs.map (perm l net)) ≠ []))]) := by
  have hp := h.p
  have hq := h.q
  have hlen : (rs.map (perm l net)).length = rs.length := by simp
  refine contract_run Try.func34 k34 rfl ?_
  simp only [body34, b34, res34, b34k0, b34k1, b34k2, b34k3, b34k4, b34k5, b34k6, b34k7, knI, tabI, pieceI, pairI, lpI, stI, flI, rdI, rnI, getD_kn, ↓reduceIte, reduceCtorEq, Nat.reduceEqDiff, Nat.reduceAdd, Nat.reduceMul, Nat.reduceSub, Nat.reduceLeDiff, Nat.reduceBEq, Int.reduceToNat, Int.reduceLE, Int.reduceLT, Int.reduceEq, Int.reduceNe, di0, di1, di2, di3, di4, di5, di6, di7, di8, di9, postX_ret, postX_normal, ex_some]
  refine loop_keep (α := Nat) rfl (fun i => rs.length - i) (fun i => i ≤ rs.length ∧ findN (empty1 (rs.map (perm l net))) (rs.length - i) i = findN (empty1 (rs.map (perm l net))) rs.length 0)
    (fun i => [(1, .imm (.slc 1 (net.map (.int .i64)))), (2, .imm (.slc 3 (rs.map rdI))), (3, .ref 3 0), (8, .imm (.int .i64 i))])
    (fun _ => [(3, .box [.imm (.slc 2 (l.map knI))])]) 0 ⟨Nat.zero_le _, rfl⟩ (by simp only [↓reduceIte, reduceCtorEq, Nat.reduceEqDiff, Nat.reduceAdd, Nat.reduceMul, Nat.reduceSub, Nat.reduceLeDiff, Nat.reduceBEq, Int.reduceToNat, Int.reduceLE, Int.reduceLT, Int.reduceEq, Int.reduceNe, di0, di1, di2, di3, di4, di5, di6, di7, di8, di9, postX_ret, postX_normal, ex_some] <;> rfl) ?_
  intro i ⟨hi, he⟩ ih
  simp only [res34, b34k0, b34k1, b34k2, b34k3, b34k4, b34k5, b34k6, b34k7, knI, tabI, pieceI, pairI, lpI, stI, flI, rdI, rnI, getD_kn, ↓reduceIte, reduceCtorEq, Nat.reduceEqDiff, Nat.reduceAdd, Nat.reduceMul, Nat.reduceSub, Nat.reduceLeDiff, Nat.reduceBEq, Int.reduceToNat, Int.reduceLE, Int.reduceLT, Int.reduceEq, Int.reduceNe, di0, di1, di2, di3, di4, di5, di6, di7, di8, di9, postX_ret, postX_normal, ex_some]
  split
  · rename_i h1
    have hm := mem_getD' (l := rs) (i := i) (d := default) (by omega)
    have hA := r_AgreedOf1 h hm
    have hr : rn (rs.map (perm l net)) i = perm l net (rs.getD i default) := rn_map (by omega)
    rw [show rs.length - i = (rs.length - (i + 1)) + 1 by omega, findN_succ] at he
    have hE : empty1 (rs.map (perm l net)) i = decide ((perm l net (rs.getD i default)).2 < (perm l net (rs.getD i default)).1) := by unfold empty1; rw [hr]
    repeat (refine And.intro (by omega) ?_)
    by_cases h2 : (perm l net (rs.getD i default)).1 ≤ (perm l net (rs.getD i default)).2
    · rw [if_pos h2] at hA
      rw [if_neg (by rw [hE, decide_eq_false (by omega)]; decide)] at he
      refine calls_of hA ?_
      simp only [rnI, res34, b34k0, b34k1, b34k2, b34k3, b34k4, b34k5, b34k6, b34k7, knI, tabI, pieceI, pairI, lpI, stI, flI, rdI, rnI, getD_kn, ↓reduceIte, reduceCtorEq, Nat.reduceEqDiff, Nat.reduceAdd, Nat.reduceMul, Nat.reduceSub, Nat.reduceLeDiff, Nat.reduceBEq, Int.reduceToNat, Int.reduceLE, Int.reduceLT, Int.reduceEq, Int.reduceNe, di0, di1, di2, di3, di4, di5, di6, di7, di8, di9, postX_ret, postX_normal, ex_some]
      rw [wrap64 (by omega) (by omega)]
      exact ih (i + 1) _ _ (by omega) ⟨by omega, he⟩ (by simp only [↓reduceIte, reduceCtorEq, Nat.reduceEqDiff, Nat.reduceAdd, Nat.reduceMul, Nat.reduceSub, Nat.reduceLeDiff, Nat.reduceBEq, Int.reduceToNat, Int.reduceLE, Int.reduceLT, Int.reduceEq, Int.reduceNe, di0, di1, di2, di3, di4, di5, di6, di7, di8, di9, postX_ret, postX_normal, ex_some] <;> rfl)
    · rw [if_neg h2] at hA
      rw [if_pos (by rw [hE, decide_eq_true (by omega)])] at he
      have hc := contra_one (rs := rs.map (perm l net)) (i := i) (by rw [hlen]; exact he.symm)
      refine calls_of hA ?_
      simp only [rnI, res34, b34k0, b34k1, b34k2, b34k3, b34k4, b34k5, b34k6, b34k7, knI, tabI, pieceI, pairI, lpI, stI, flI, rdI, rnI, getD_kn, ↓reduceIte, reduceCtorEq, Nat.reduceEqDiff, Nat.reduceAdd, Nat.reduceMul, Nat.reduceSub, Nat.reduceLeDiff, Nat.reduceBEq, Int.reduceToNat, Int.reduceLE, Int.reduceLT, Int.reduceEq, Int.reduceNe, di0, di1, di2, di3, di4, di5, di6, di7, di8, di9, postX_ret, postX_normal, ex_some]
      unfold conI
      rw [hc]
      rfl
  · rename_i h1
    have h0 : findN (empty1 (rs.map (perm l net))) rs.length 0 = none := by
      rw [← he, show rs.length - i = 0 by omega]; rfl
    refine loop_keep (α := Nat) rfl (fun i => rs.length - i) (fun i => i ≤ rs.length ∧ find2 (empty2 (rs.map (perm l net))) rs.length (rs.length - i) i = find2 (empty2 (rs.map (perm l net))) rs.length rs.length 0)
      (fun i => [(1, .imm (.slc 1 (net.map (.int .i64)))), (2, .imm (.slc 3 (rs.map rdI))), (3, .ref 3 0), (11, .imm (.int .i64 i))])
      (fun _ => [(3, .box [.imm (.slc 2 (l.map knI))])]) 0 ⟨Nat.zero_le _, rfl⟩ (by simp only [↓reduceIte, reduceCtorEq, Nat.reduceEqDiff, Nat.reduceAdd, Nat.reduceMul, Nat.reduceSub, Nat.reduceLeDiff, Nat.reduceBEq, Int.reduceToNat, Int.reduceLE, Int.reduceLT, Int.reduceEq, Int.reduceNe, di0, di1, di2, di3, di4, di5, di6, di7, di8, di9, postX_ret, postX_normal, ex_some] <;> rfl) ?_
    clear ih hi he h1 i
    intro i ⟨hi, he⟩ ih
    simp only [res34, b34k0, b34k1, b34k2, b34k3, b34k4, b34k5, b34k6, b34k7, knI, tabI, pieceI, pairI, lpI, stI, flI, rdI, rnI, getD_kn, ↓reduceIte, reduceCtorEq, Nat.reduceEqDiff, Nat.reduceAdd, Nat.reduceMul, Nat.reduceSub, Nat.reduceLeDiff, Nat.reduceBEq, Int.reduceToNat, Int.reduceLE, Int.reduceLT, Int.reduceEq, Int.reduceNe, di0, di1, di2, di3, di4, di5, di6, di7, di8, di9, postX_ret, postX_normal, ex_some]
    split
    · rename_i h1
      have hm := mem_getD' (l := rs) (i := i) (d := default) (by omega)
      have hr : rn (rs.map (perm l net)) i = perm l net (rs.getD i default) := rn_map (by omega)
      rw [show rs.length - i = (rs.length - (i + 1)) + 1 by omega, find2_succ] at he
      rw [wrap64 (by omega) (by omega)]
      refine loop_keep (α := Nat) rfl (fun j => rs.length - (i + 1 + j)) (fun j => i + 1 + j ≤ rs.length ∧ findN (empty2 (rs.map (perm l net)) i) (rs.length - (i + 1 + j)) (i + 1 + j) = findN (empty2 (rs.map (perm l net)) i) (rs.length - (i + 1)) (i + 1))
        (fun j => [(1, .imm (.slc 1 (net.map (.int .i64)))), (2, .imm (.slc 3 (rs.map rdI))), (3, .ref 3 0), (11, .imm (.int .i64 i)), (12, .imm (.int .i64 ((i : Int) + 1 + j)))])
        (fun _ => [(3, .box [.imm (.slc 2 (l.map knI))])]) 0 ⟨by omega, rfl⟩ (by simp only [↓reduceIte, reduceCtorEq, Nat.reduceEqDiff, Nat.reduceAdd, Nat.reduceMul, Nat.reduceSub, Nat.reduceLeDiff, Nat.reduceBEq, Int.reduceToNat, Int.reduceLE, Int.reduceLT, Int.reduceEq, Int.reduceNe, di0, di1, di2, di3, di4, di5, di6, di7, di8, di9, postX_ret, postX_normal, ex_some] <;> rfl) ?_
      intro j ⟨hj, hf⟩ ih2
      simp only [res34, b34k0, b34k1, b34k2, b34k3, b34k4, b34k5, b34k6, b34k7, knI, tabI, pieceI, pairI, lpI, stI, flI, rdI, rnI, getD_kn, ↓reduceIte, reduceCtorEq, Nat.reduceEqDiff, Nat.reduceAdd, Nat.reduceMul, Nat.reduceSub, Nat.reduceLeDiff, Nat.reduceBEq, Int.reduceToNat, Int.reduceLE, Int.reduceLT, Int.reduceEq, Int.reduceNe, di0, di1, di2, di3, di4, di5, di6, di7, di8, di9, postX_ret, postX_normal, ex_some]
      split
      · rename_i h2
        have hk : i + 1 + j < rs.length := by omega
        have hmk := mem_getD' (l := rs) (i := i + 1 + j) (d := default) hk
        have hA := r_AgreedOf2 h hm hmk
        have hrk : rn (rs.map (perm l net)) (i + 1 + j) = perm l net (rs.getD (i + 1 + j) default) := rn_map hk
        rw [show rs.length - (i + 1 + j) = (rs.length - (i + 1 + (j + 1))) + 1 by omega, findN_succ] at hf
        have hE : empty2 (rs.map (perm l net)) i (i + 1 + j) = decide ((meet (perm l net (rs.getD i default)) (perm l net (rs.getD (i + 1 + j) default))).2 < (meet (perm l net (rs.getD i default)) (perm l net (rs.getD (i + 1 + j) default))).1) := by unfold empty2; rw [hr, hrk]
        have ht : ((i : Int) + 1 + j).toNat = i + 1 + j := by omega
        simp only [ht]
        repeat (refine And.intro (by omega) ?_)
        by_cases h3 : (meet (perm l net (rs.getD i default)) (perm l net (rs.getD (i + 1 + j) default))).1 ≤ (meet (perm l net (rs.getD i default)) (perm l net (rs.getD (i + 1 + j) default))).2
        · rw [if_pos h3] at hA
          rw [if_neg (by rw [hE, decide_eq_false (by omega)]; decide)] at hf
          refine calls_of hA ?_
          simp only [rnI, res34, b34k0, b34k1, b34k2, b34k3, b34k4, b34k5, b34k6, b34k7, knI, tabI, pieceI, pairI, lpI, stI, flI, rdI, rnI, getD_kn, ↓reduceIte, reduceCtorEq, Nat.reduceEqDiff, Nat.reduceAdd, Nat.reduceMul, Nat.reduceSub, Nat.reduceLeDiff, Nat.reduceBEq, Int.reduceToNat, Int.reduceLE, Int.reduceLT, Int.reduceEq, Int.reduceNe, di0, di1, di2, di3, di4, di5, di6, di7, di8, di9, postX_ret, postX_normal, ex_some]
          rw [wrap64 (by omega) (by omega)]
          exact ih2 (j + 1) _ _ (by omega) ⟨by omega, hf⟩ (by simp only [↓reduceIte, reduceCtorEq, Nat.reduceEqDiff, Nat.reduceAdd, Nat.reduceMul, Nat.reduceSub, Nat.reduceLeDiff, Nat.reduceBEq, Int.reduceToNat, Int.reduceLE, Int.reduceLT, Int.reduceEq, Int.reduceNe, di0, di1, di2, di3, di4, di5, di6, di7, di8, di9, postX_ret, postX_normal, ex_some] <;> rfl)
        · rw [if_neg h3] at hA
          rw [if_pos (by rw [hE, decide_eq_true (by omega)])] at hf
          rw [← hf] at he
          have hc := contra_two (rs := rs.map (perm l net)) (i := i) (k := i + 1 + j) (by rw [hlen]; exact h0) (by rw [hlen]; exact he.symm)
          refine calls_of hA ?_
          simp only [rnI, res34, b34k0, b34k1, b34k2, b34k3, b34k4, b34k5, b34k6, b34k7, knI, tabI, pieceI, pairI, lpI, stI, flI, rdI, rnI, getD_kn, ↓reduceIte, reduceCtorEq, Nat.reduceEqDiff, Nat.reduceAdd, Nat.reduceMul, Nat.reduceSub, Nat.reduceLeDiff, Nat.reduceBEq, Int.reduceToNat, Int.reduceLE, Int.reduceLT, Int.reduceEq, Int.reduceNe, di0, di1, di2, di3, di4, di5, di6, di7, di8, di9, postX_ret, postX_normal, ex_some]
          unfold conI
          rw [hc]
          rfl
      · rename_i h2
        rw [show rs.length - (i + 1 + j) = 0 by omega] at hf
        rw [← hf] at he
        rw [wrap64 (by omega) (by omega)]
        exact ih (i + 1) _ _ (by omega) ⟨by omega, he⟩ (by simp only [↓reduceIte, reduceCtorEq, Nat.reduceEqDiff, Nat.reduceAdd, Nat.reduceMul, Nat.reduceSub, Nat.reduceLeDiff, Nat.reduceBEq, Int.reduceToNat, Int.reduceLE, Int.reduceLT, Int.reduceEq, Int.reduceNe, di0, di1, di2, di3, di4, di5, di6, di7, di8, di9, postX_ret, postX_normal, ex_some] <;> rfl)
    · rename_i h1
      have h3 : find2 (empty2 (rs.map (perm l net))) rs.length rs.length 0 = none := by
        rw [← he, show rs.length - i = 0 by omega]; rfl
      have hc := contra_none (rs := rs.map (perm l net)) (by rw [hlen]; exact h0) (by rw [hlen]; exact h3)
      unfold conI
      rw [hc]
      rfl

theorem p_Contradicting {l : List Kn} {net : List Int} {rs : List Rdg} (hl : l.length ≤ 1000000000000) (hn : net.length ≤ 1000000000000) :
    Contract Try.prog 31 [tabI l, .slc 1 (net.map (.int .i64)), .slc 3 (rs.map rdI)]
    (if allErr l net rs = 0 then .tup [.slc 1 ((conI (rs.map (perm l net))).map (.int .i64)), .int .i64 (if contra (rs.map (perm l net)) = [] then 12 else 0)] else .tup [.slc 1 [], .int .i64 (allErr l net rs)]) := by
  have hP := p_permitted (rs := rs) hl hn
  refine contract_run Try.func31 k31 rfl ?_
  simp only [body31, b31, res31, b31k0, b31k1, b31k2, b31k3, b31k4, b31k5, b31k6, b31k7, b31k8, knI, tabI, pieceI, pairI, lpI, stI, flI, rdI, rnI, getD_kn, ↓reduceIte, reduceCtorEq, Nat.reduceEqDiff, Nat.reduceAdd, Nat.reduceMul, Nat.reduceSub, Nat.reduceLeDiff, Nat.reduceBEq, Int.reduceToNat, Int.reduceLE, Int.reduceLT, Int.reduceEq, Int.reduceNe, di0, di1, di2, di3, di4, di5, di6, di7, di8, di9, postX_ret, postX_normal, ex_some]
  by_cases h00 : allErr l net rs = 0
  · rw [if_pos h00] at hP ⊢
    have hv := allErr_ok h00
    have hp := hv.p
    have hq := hv.q
    have hlen : (rs.map (perm l net)).length = rs.length := by simp
    generalize rs.map (perm l net) = R at *
    generalize rs.length = n at *
    refine calls_of hP ?_; simp only [knI, tabI, pieceI, pairI, lpI, stI, flI, rdI, rnI, getD_kn, res31, b31k0, b31k1, b31k2, b31k3, b31k4, b31k5, b31k6, b31k7, b31k8, ↓reduceIte, reduceCtorEq, Nat.reduceEqDiff, Nat.reduceAdd, Nat.reduceMul, Nat.reduceSub, Nat.reduceLeDiff, Nat.reduceBEq, Int.reduceToNat, Int.reduceLE, Int.reduceLT, Int.reduceEq, Int.reduceNe, di0, di1, di2, di3, di4, di5, di6, di7, di8, di9, postX_ret, postX_normal, ex_some]
    refine loop_keep (α := Nat) rfl (fun i => n - i) (fun i => i ≤ n ∧ findN (empty1 R) (n - i) i = findN (empty1 R) n 0)
      (fun i => [(8, .imm (.slc 2 (R.map rnI))), (30, .imm (.slc 2 (R.map rnI))), (31, .imm (.int .i64 R.length)), (32, .imm (.int .i64 i))])
      (fun _ => []) 0 ⟨Nat.zero_le _, rfl⟩ (by simp only [↓reduceIte, reduceCtorEq, Nat.reduceEqDiff, Nat.reduceAdd, Nat.reduceMul, Nat.reduceSub, Nat.reduceLeDiff, Nat.reduceBEq, Int.reduceToNat, Int.reduceLE, Int.reduceLT, Int.reduceEq, Int.reduceNe, di0, di1, di2, di3, di4, di5, di6, di7, di8, di9, postX_ret, postX_normal, ex_some] <;> rfl) ?_
    intro i ⟨hi, he⟩ ih
    simp only [res31, b31k0, b31k1, b31k2, b31k3, b31k4, b31k5, b31k6, b31k7, b31k8, knI, tabI, pieceI, pairI, lpI, stI, flI, rdI, rnI, getD_kn, ↓reduceIte, reduceCtorEq, Nat.reduceEqDiff, Nat.reduceAdd, Nat.reduceMul, Nat.reduceSub, Nat.reduceLeDiff, Nat.reduceBEq, Int.reduceToNat, Int.reduceLE, Int.reduceLT, Int.reduceEq, Int.reduceNe, di0, di1, di2, di3, di4, di5, di6, di7, di8, di9, postX_ret, postX_normal, ex_some]
    split
    · rename_i h1
      have hE : empty1 R i = decide ((rn R i).2 < (rn R i).1) := rfl
      rw [show n - i = (n - (i + 1)) + 1 by omega, findN_succ] at he
      have hA := p_common1 (r := rn R i)
      repeat (refine And.intro (by omega) ?_)
      by_cases h2 : (rn R i).1 ≤ (rn R i).2
      · rw [decide_eq_true h2] at hA
        rw [if_neg (by rw [hE, decide_eq_false (by omega)]; decide)] at he
        refine calls_of hA ?_
        simp only [rnI, res31, b31k0, b31k1, b31k2, b31k3, b31k4, b31k5, b31k6, b31k7, b31k8, knI, tabI, pieceI, pairI, lpI, stI, flI, rdI, rnI, getD_kn, ↓reduceIte, reduceCtorEq, Nat.reduceEqDiff, Nat.reduceAdd, Nat.reduceMul, Nat.reduceSub, Nat.reduceLeDiff, Nat.reduceBEq, Int.reduceToNat, Int.reduceLE, Int.reduceLT, Int.reduceEq, Int.reduceNe, di0, di1, di2, di3, di4, di5, di6, di7, di8, di9, postX_ret, postX_normal, ex_some]
        rw [wrap64 (by omega) (by omega)]
        exact ih (i + 1) _ _ (by omega) ⟨by omega, he⟩ (by simp only [↓reduceIte, reduceCtorEq, Nat.reduceEqDiff, Nat.reduceAdd, Nat.reduceMul, Nat.reduceSub, Nat.reduceLeDiff, Nat.reduceBEq, Int.reduceToNat, Int.reduceLE, Int.reduceLT, Int.reduceEq, Int.reduceNe, di0, di1, di2, di3, di4, di5, di6, di7, di8, di9, postX_ret, postX_normal, ex_some] <;> rfl)
      · rw [decide_eq_false h2] at hA
        rw [if_pos (by rw [hE, decide_eq_true (by omega)])] at he
        have hc := contra_one (rs := R) (i := i) (by rw [hlen]; exact he.symm)
        refine calls_of hA ?_
        simp only [rnI, res31, b31k0, b31k1, b31k2, b31k3, b31k4, b31k5, b31k6, b31k7, b31k8, knI, tabI, pieceI, pairI, lpI, stI, flI, rdI, rnI, getD_kn, ↓reduceIte, reduceCtorEq, Nat.reduceEqDiff, Nat.reduceAdd, Nat.reduceMul, Nat.reduceSub, Nat.reduceLeDiff, Nat.reduceBEq, Int.reduceToNat, Int.reduceLE, Int.reduceLT, Int.reduceEq, Int.reduceNe, di0, di1, di2, di3, di4, di5, di6, di7, di8, di9, postX_ret, postX_normal, ex_some]
        unfold conI
        rw [hc]
        rfl
    · rename_i h1
      have h0 : findN (empty1 R) n 0 = none := by
        rw [← he, show n - i = 0 by omega]; rfl
      refine loop_keep (α := Nat) rfl (fun i => n - i) (fun i => i ≤ n ∧ find2 (empty2 R) n (n - i) i = find2 (empty2 R) n n 0)
        (fun i => [(8, .imm (.slc 2 (R.map rnI))), (48, .imm (.slc 2 (R.map rnI))), (49, .imm (.int .i64 R.length)), (50, .imm (.int .i64 i))])
        (fun _ => []) 0 ⟨Nat.zero_le _, rfl⟩ (by simp only [↓reduceIte, reduceCtorEq, Nat.reduceEqDiff, Nat.reduceAdd, Nat.reduceMul, Nat.reduceSub, Nat.reduceLeDiff, Nat.reduceBEq, Int.reduceToNat, Int.reduceLE, Int.reduceLT, Int.reduceEq, Int.reduceNe, di0, di1, di2, di3, di4, di5, di6, di7, di8, di9, postX_ret, postX_normal, ex_some] <;> rfl) ?_
      clear ih hi he h1 i
      intro i ⟨hi, he⟩ ih
      simp only [res31, b31k0, b31k1, b31k2, b31k3, b31k4, b31k5, b31k6, b31k7, b31k8, knI, tabI, pieceI, pairI, lpI, stI, flI, rdI, rnI, getD_kn, ↓reduceIte, reduceCtorEq, Nat.reduceEqDiff, Nat.reduceAdd, Nat.reduceMul, Nat.reduceSub, Nat.reduceLeDiff, Nat.reduceBEq, Int.reduceToNat, Int.reduceLE, Int.reduceLT, Int.reduceEq, Int.reduceNe, di0, di1, di2, di3, di4, di5, di6, di7, di8, di9, postX_ret, postX_normal, ex_some]
      split
      · rename_i h1
        rw [show n - i = (n - (i + 1)) + 1 by omega, find2_succ] at he
        rw [wrap64 (by omega) (by omega)]
        repeat (refine And.intro (by omega) ?_)
        have hd : List.drop ((i : Int) + 1).toNat (List.take R.length R) = R.drop (i + 1) := by
          rw [List.take_length, show ((i : Int) + 1).toNat = i + 1 by omega]
        have hdl : (R.drop (i + 1)).length = n - (i + 1) := by rw [List.length_drop, hlen]
        simp only [hd]
        refine loop_keep (α := Nat) rfl (fun j => n - (i + 1 + j)) (fun j => i + 1 + j ≤ n ∧ findN (empty2 R i) (n - (i + 1 + j)) (i + 1 + j) = findN (empty2 R i) (n - (i + 1)) (i + 1))
          (fun j => [(8, .imm (.slc 2 (R.map rnI))), (14, .imm (.int .i64 i)), (15, .ref 15 0), (48, .imm (.slc 2 (R.map rnI))), (49, .imm (.int .i64 R.length)), (50, .imm (.int .i64 i)),
            (58, .imm (.slc 2 ((R.drop (i + 1)).map rnI))), (59, .imm (.int .i64 (R.drop (i + 1)).length)), (60, .imm (.int .i64 j))])
          (fun _ => [(15, .box [.imm (.int .i64 (rn R i).1), .imm (.int .i64 (rn R i).2)])]) 0 ⟨by omega, rfl⟩ (by simp only [↓reduceIte, reduceCtorEq, Nat.reduceEqDiff, Nat.reduceAdd, Nat.reduceMul, Nat.reduceSub, Nat.reduceLeDiff, Nat.reduceBEq, Int.reduceToNat, Int.reduceLE, Int.reduceLT, Int.reduceEq, Int.reduceNe, di0, di1, di2, di3, di4, di5, di6, di7, di8, di9, postX_ret, postX_normal, ex_some] <;> rfl) ?_
        intro j ⟨hj, hf⟩ ih2
        simp only [res31, b31k0, b31k1, b31k2, b31k3, b31k4, b31k5, b31k6, b31k7, b31k8, hdl, knI, tabI, pieceI, pairI, lpI, stI, flI, rdI, rnI, getD_kn, ↓reduceIte, reduceCtorEq, Nat.reduceEqDiff, Nat.reduceAdd, Nat.reduceMul, Nat.reduceSub, Nat.reduceLeDiff, Nat.reduceBEq, Int.reduceToNat, Int.reduceLE, Int.reduceLT, Int.reduceEq, Int.reduceNe, di0, di1, di2, di3, di4, di5, di6, di7, di8, di9, postX_ret, postX_normal, ex_some]
        split
        · rename_i h2
          have hk : i + 1 + j < n := by omega
          have hg : kn (R.drop (i + 1)) j = rn R (i + 1 + j) := by
            unfold kn rn
            rw [List.getD_eq_getElem?_getD, List.getD_eq_getElem?_getD, List.getElem?_drop]
          have hA := p_common2 (r := rn R i) (q := rn R (i + 1 + j))
          rw [show n - (i + 1 + j) = (n - (i + 1 + (j + 1))) + 1 by omega, findN_succ] at hf
          have hE : empty2 R i (i + 1 + j) = decide ((meet (rn R i) (rn R (i + 1 + j))).2 < (meet (rn R i) (rn R (i + 1 + j))).1) := rfl
          simp only [hg]
          repeat (refine And.intro (by omega) ?_)
          by_cases h3 : (meet (rn R i) (rn R (i + 1 + j))).1 ≤ (meet (rn R i) (rn R (i + 1 + j))).2
          · rw [decide_eq_true h3] at hA
            rw [if_neg (by rw [hE, decide_eq_false (by omega)]; decide)] at hf
            refine calls_of hA ?_
            simp only [rnI, res31, b31k0, b31k1, b31k2, b31k3, b31k4, b31k5, b31k6, b31k7, b31k8, knI, tabI, pieceI, pairI, lpI, stI, flI, rdI, rnI, getD_kn, ↓reduceIte, reduceCtorEq, Nat.reduceEqDiff, Nat.reduceAdd, Nat.reduceMul, Nat.reduceSub, Nat.reduceLeDiff, Nat.reduceBEq, Int.reduceToNat, Int.reduceLE, Int.reduceLT, Int.reduceEq, Int.reduceNe, di0, di1, di2, di3, di4, di5, di6, di7, di8, di9, postX_ret, postX_normal, ex_some]
            rw [wrap64 (by omega) (by omega)]
            exact ih2 (j + 1) _ _ (by omega) ⟨by omega, hf⟩ (by simp only [hdl, ↓reduceIte, reduceCtorEq, Nat.reduceEqDiff, Nat.reduceAdd, Nat.reduceMul, Nat.reduceSub, Nat.reduceLeDiff, Nat.reduceBEq, Int.reduceToNat, Int.reduceLE, Int.reduceLT, Int.reduceEq, Int.reduceNe, di0, di1, di2, di3, di4, di5, di6, di7, di8, di9, postX_ret, postX_normal, ex_some] <;> rfl)
          · rw [decide_eq_false h3] at hA
            rw [if_pos (by rw [hE, decide_eq_true (by omega)])] at hf
            rw [← hf] at he
            have hc := contra_two (rs := R) (i := i) (k := i + 1 + j) (by rw [hlen]; exact h0) (by rw [hlen]; exact he.symm)
            refine calls_of hA ?_
            simp only [rnI, res31, b31k0, b31k1, b31k2, b31k3, b31k4, b31k5, b31k6, b31k7, b31k8, knI, tabI, pieceI, pairI, lpI, stI, flI, rdI, rnI, getD_kn, ↓reduceIte, reduceCtorEq, Nat.reduceEqDiff, Nat.reduceAdd, Nat.reduceMul, Nat.reduceSub, Nat.reduceLeDiff, Nat.reduceBEq, Int.reduceToNat, Int.reduceLE, Int.reduceLT, Int.reduceEq, Int.reduceNe, di0, di1, di2, di3, di4, di5, di6, di7, di8, di9, postX_ret, postX_normal, ex_some]
            unfold conI
            rw [hc]
            rw [wrap64 (n := (i : Int) + 1) (by omega) (by omega), wrap64 (n := (i : Int) + 1 + j) (by omega) (by omega)]
            rfl
        · rename_i h2
          rw [show n - (i + 1 + j) = 0 by omega] at hf
          rw [← hf] at he
          rw [wrap64 (by omega) (by omega)]
          exact ih (i + 1) _ _ (by omega) ⟨by omega, he⟩ (by simp only [↓reduceIte, reduceCtorEq, Nat.reduceEqDiff, Nat.reduceAdd, Nat.reduceMul, Nat.reduceSub, Nat.reduceLeDiff, Nat.reduceBEq, Int.reduceToNat, Int.reduceLE, Int.reduceLT, Int.reduceEq, Int.reduceNe, di0, di1, di2, di3, di4, di5, di6, di7, di8, di9, postX_ret, postX_normal, ex_some] <;> rfl)
      · rename_i h1
        have h3 : find2 (empty2 R) n n 0 = none := by
          rw [← he, show n - i = 0 by omega]; rfl
        have hc := contra_none (rs := R) (by rw [hlen]; exact h0) (by rw [hlen]; exact h3)
        unfold conI
        rw [hc]
        rfl
  · rw [if_neg h00] at hP ⊢
    refine calls_of hP ?_; simp only [knI, tabI, pieceI, pairI, lpI, stI, flI, rdI, rnI, getD_kn, res31, b31k0, b31k1, b31k2, b31k3, b31k4, b31k5, b31k6, b31k7, b31k8, ↓reduceIte, reduceCtorEq, Nat.reduceEqDiff, Nat.reduceAdd, Nat.reduceMul, Nat.reduceSub, Nat.reduceLeDiff, Nat.reduceBEq, Int.reduceToNat, Int.reduceLE, Int.reduceLT, Int.reduceEq, Int.reduceNe, di0, di1, di2, di3, di4, di5, di6, di7, di8, di9, postX_ret, postX_normal, ex_some]
    simp only [if_neg h00, knI, tabI, pieceI, pairI, lpI, stI, flI, rdI, rnI, getD_kn, ↓reduceIte, reduceCtorEq, Nat.reduceEqDiff, Nat.reduceAdd, Nat.reduceMul, Nat.reduceSub, Nat.reduceLeDiff, Nat.reduceBEq, Int.reduceToNat, Int.reduceLE, Int.reduceLT, Int.reduceEq, Int.reduceNe, di0, di1, di2, di3, di4, di5, di6, di7, di8, di9, postX_ret, postX_normal, ex_some]
end Go.DI

/- What the parameters' types of the lakes' readings hold, as data. No condition. -/
set_option maxRecDepth 100000
namespace Go.DI
open Go.Proofs Go.Proofs.Ytbmlfeikdhpdfaa Go.RowKit Lk

theorem cells_of_int : Try.prog.cellsOf 3 = 1 := by kernel_rfl
theorem el_int {m : Nat} (xs : List IV) (h : RepF Try.prog (m + 1) 3 xs) : ∃ n : Int, mkE Try.prog 3 xs = .int .i64 n := by
  obtain ⟨n, e, _⟩ := arg_int h
  exact ⟨n, e⟩
theorem arg_ints {m : Nat} {xs : List IV} (h : RepF Try.prog (m + 2) 52 xs) : ∃ l : List Int, mkE Try.prog 52 xs = .slc 1 (l.map (.int .i64)) := by
  obtain ⟨l, rfl⟩ := repF_slice Try.underlying52 cells_of_int el_int h
  exact ⟨l, mkE_one Try.underlying52 (fun _ k => by cases k)⟩
theorem rep_range {m : Nat} {xs : List IV} (h : RepF Try.prog (m + 2) 57 xs) : ∃ a b : Int, xs = [.int .i64 a, .int .i64 b] := by
  obtain ⟨a, b, rfl, h1, c, d, rfl, h2, rfl⟩ := repF_struct Try.underlying57 h
  obtain ⟨x, rfl, _⟩ := rep_int h1
  obtain ⟨y, rfl, _⟩ := rep_int h2
  exact ⟨x, y, rfl⟩
theorem rep_reading {m : Nat} (xs : List IV) (h : RepF Try.prog (m + 3) 75 xs) : ∃ r : Rdg, mkE Try.prog 75 xs = rdI r := by
  obtain ⟨a, b, rfl, h1, c, d, rfl, h2, rfl⟩ := repF_struct Try.underlying75 h
  obtain ⟨x, rfl, _⟩ := rep_int h1
  obtain ⟨y, z, rfl⟩ := rep_range h2
  exact ⟨⟨x, y, z⟩, mkE_struct Try.underlying75⟩
theorem cells_reading : Try.prog.cellsOf 75 = 3 := by kernel_rfl
theorem rep_readings {m : Nat} {xs : List IV} (h : RepF Try.prog (m + 4) 53 xs) : ∃ l : List Rdg, xs = [.slc 3 (l.map rdI)] :=
  repF_slice Try.underlying53 cells_reading rep_reading h
theorem arg_readings {m : Nat} {xs : List IV} (h : RepF Try.prog (m + 4) 53 xs) : ∃ l : List Rdg, mkE Try.prog 53 xs = .slc 3 (l.map rdI) := by
  obtain ⟨l, rfl⟩ := rep_readings h
  exact ⟨l, mkE_one Try.underlying53 (fun _ k => by cases k)⟩
end Go.DI

