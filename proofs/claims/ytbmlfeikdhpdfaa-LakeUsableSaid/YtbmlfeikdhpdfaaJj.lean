/- Contracts of the reference, readings. No condition. -/
import Derived.Test.YtbmlfeikdhpdfaaJh
import Derived.Test.YtbmlfeikdhpdfaaJf
import Derived.Test.YtbmlfeikdhpdfaaJi
/- Contracts: the reference's tables of lakes. No condition. -/
set_option linter.unusedSimpArgs false
namespace Go.DI
open Go.Proofs Go.RowKit Lk

theorem r_Bottom {l : List Kn} (h : 0 < l.length) : Contract Try.prog 70 [tabI l] (knI (bot l)) := by
  refine contract_run Try.func70 k70 rfl ?_
  simp only [body70, b70, res70, knI, tabI, pieceI, pairI, lpI, stI, flI, rdI, rnI, getD_kn, ↓reduceIte, reduceCtorEq, Nat.reduceEqDiff, Nat.reduceAdd, Nat.reduceMul, Nat.reduceSub, Nat.reduceLeDiff, Nat.reduceBEq, Int.reduceToNat, Int.reduceLE, Int.reduceLT, Int.reduceEq, Int.reduceNe, di0, di1, di2, di3, di4, di5, di6, di7, di8, di9, postX_ret, postX_normal, ex_some]
  repeat (refine And.intro (by omega) ?_)
  rfl
theorem r_Top {l : List Kn} (h : 0 < l.length) (hl : l.length ≤ 1000000000000) : Contract Try.prog 47 [tabI l] (knI (top l)) := by
  have e : IntKind.wrap .i64 ((l.length : Int) - 1) = ((l.length - 1 : Nat) : Int) := by rw [wrap64 (by omega) (by omega)]; omega
  refine contract_run Try.func47 k47 rfl ?_
  simp only [body47, b47, res47, knI, tabI, pieceI, pairI, lpI, stI, flI, rdI, rnI, getD_kn, ↓reduceIte, reduceCtorEq, Nat.reduceEqDiff, Nat.reduceAdd, Nat.reduceMul, Nat.reduceSub, Nat.reduceLeDiff, Nat.reduceBEq, Int.reduceToNat, Int.reduceLE, Int.reduceLT, Int.reduceEq, Int.reduceNe, di0, di1, di2, di3, di4, di5, di6, di7, di8, di9, postX_ret, postX_normal, ex_some]
  simp only [e, i_toNat]
  repeat (refine And.intro (by omega) ?_)
  rfl
theorem r_IsLevel {l : List Kn} {x : Int} (h : 0 < l.length) (hl : l.length ≤ 1000000000000) : Contract Try.prog 41 [tabI l, .int .i64 x] (.bool (decide (isL l x))) := by
  refine contract_run Try.func41 k41 rfl ?_
  simp only [body41, b41, res41, knI, tabI, pieceI, pairI, lpI, stI, flI, rdI, rnI, getD_kn, ↓reduceIte, reduceCtorEq, Nat.reduceEqDiff, Nat.reduceAdd, Nat.reduceMul, Nat.reduceSub, Nat.reduceLeDiff, Nat.reduceBEq, Int.reduceToNat, Int.reduceLE, Int.reduceLT, Int.reduceEq, Int.reduceNe, di0, di1, di2, di3, di4, di5, di6, di7, di8, di9, postX_ret, postX_normal, ex_some]
  refine calls_of (r_Bottom h) ?_; simp only [knI, tabI, pieceI, pairI, lpI, stI, flI, rdI, rnI, getD_kn, res41, ↓reduceIte, reduceCtorEq, Nat.reduceEqDiff, Nat.reduceAdd, Nat.reduceMul, Nat.reduceSub, Nat.reduceLeDiff, Nat.reduceBEq, Int.reduceToNat, Int.reduceLE, Int.reduceLT, Int.reduceEq, Int.reduceNe, di0, di1, di2, di3, di4, di5, di6, di7, di8, di9, postX_ret, postX_normal, ex_some]
  refine calls_of (r_Top h hl) ?_; simp only [knI, tabI, pieceI, pairI, lpI, stI, flI, rdI, rnI, getD_kn, res41, ↓reduceIte, reduceCtorEq, Nat.reduceEqDiff, Nat.reduceAdd, Nat.reduceMul, Nat.reduceSub, Nat.reduceLeDiff, Nat.reduceBEq, Int.reduceToNat, Int.reduceLE, Int.reduceLT, Int.reduceEq, Int.reduceNe, di0, di1, di2, di3, di4, di5, di6, di7, di8, di9, postX_ret, postX_normal, ex_some]
  refine calls_of c_Within ?_; simp only [knI, tabI, pieceI, pairI, lpI, stI, flI, rdI, rnI, getD_kn, res41, ↓reduceIte, reduceCtorEq, Nat.reduceEqDiff, Nat.reduceAdd, Nat.reduceMul, Nat.reduceSub, Nat.reduceLeDiff, Nat.reduceBEq, Int.reduceToNat, Int.reduceLE, Int.reduceLT, Int.reduceEq, Int.reduceNe, di0, di1, di2, di3, di4, di5, di6, di7, di8, di9, postX_ret, postX_normal, ex_some]
  rfl
theorem r_IsVolume {l : List Kn} {x : Int} (h : 0 < l.length) (hl : l.length ≤ 1000000000000) : Contract Try.prog 43 [tabI l, .int .i64 x] (.bool (decide (isV l x))) := by
  refine contract_run Try.func43 k43 rfl ?_
  simp only [body43, b43, res43, knI, tabI, pieceI, pairI, lpI, stI, flI, rdI, rnI, getD_kn, ↓reduceIte, reduceCtorEq, Nat.reduceEqDiff, Nat.reduceAdd, Nat.reduceMul, Nat.reduceSub, Nat.reduceLeDiff, Nat.reduceBEq, Int.reduceToNat, Int.reduceLE, Int.reduceLT, Int.reduceEq, Int.reduceNe, di0, di1, di2, di3, di4, di5, di6, di7, di8, di9, postX_ret, postX_normal, ex_some]
  refine calls_of (r_Bottom h) ?_; simp only [knI, tabI, pieceI, pairI, lpI, stI, flI, rdI, rnI, getD_kn, res43, ↓reduceIte, reduceCtorEq, Nat.reduceEqDiff, Nat.reduceAdd, Nat.reduceMul, Nat.reduceSub, Nat.reduceLeDiff, Nat.reduceBEq, Int.reduceToNat, Int.reduceLE, Int.reduceLT, Int.reduceEq, Int.reduceNe, di0, di1, di2, di3, di4, di5, di6, di7, di8, di9, postX_ret, postX_normal, ex_some]
  refine calls_of (r_Top h hl) ?_; simp only [knI, tabI, pieceI, pairI, lpI, stI, flI, rdI, rnI, getD_kn, res43, ↓reduceIte, reduceCtorEq, Nat.reduceEqDiff, Nat.reduceAdd, Nat.reduceMul, Nat.reduceSub, Nat.reduceLeDiff, Nat.reduceBEq, Int.reduceToNat, Int.reduceLE, Int.reduceLT, Int.reduceEq, Int.reduceNe, di0, di1, di2, di3, di4, di5, di6, di7, di8, di9, postX_ret, postX_normal, ex_some]
  refine calls_of c_Within ?_; simp only [knI, tabI, pieceI, pairI, lpI, stI, flI, rdI, rnI, getD_kn, res43, ↓reduceIte, reduceCtorEq, Nat.reduceEqDiff, Nat.reduceAdd, Nat.reduceMul, Nat.reduceSub, Nat.reduceLeDiff, Nat.reduceBEq, Int.reduceToNat, Int.reduceLE, Int.reduceLT, Int.reduceEq, Int.reduceNe, di0, di1, di2, di3, di4, di5, di6, di7, di8, di9, postX_ret, postX_normal, ex_some]
  rfl

theorem r_piece {l : List Kn} {i : Nat} (h0 : 0 < i) (hi : i < l.length) (hl : l.length ≤ 1000000000000) (ka : KB (kn l i)) (kb : KB (kn l (i - 1))) (hd : dh l i ≠ 0) : Contract Try.prog 86 [tabI l, .int .i64 i] (ratio (Rat.divInt (dv l i) (dh l i))) := by
  have e : IntKind.wrap .i64 ((i : Int) - 1) = ((i - 1 : Nat) : Int) := by rw [wrap64 (by omega) (by omega)]; omega
  unfold KB at ka kb
  have e1 : (kn l i).2 - (kn l (i - 1)).2 = dv l i := rfl
  have e2 : (kn l i).1 - (kn l (i - 1)).1 = dh l i := rfl
  refine contract_run Try.func86 k86 rfl ?_
  simp only [body86, b86, res86, knI, tabI, pieceI, pairI, lpI, stI, flI, rdI, rnI, getD_kn, ↓reduceIte, reduceCtorEq, Nat.reduceEqDiff, Nat.reduceAdd, Nat.reduceMul, Nat.reduceSub, Nat.reduceLeDiff, Nat.reduceBEq, Int.reduceToNat, Int.reduceLE, Int.reduceLT, Int.reduceEq, Int.reduceNe, di0, di1, di2, di3, di4, di5, di6, di7, di8, di9, postX_ret, postX_normal, ex_some]
  simp only [e, i_toNat]
  repeat (refine And.intro (by omega) ?_)
  rw [wrap64 (n := (kn l i).2 - (kn l (i - 1)).2) (by omega) (by omega), wrap64 (n := (kn l i).1 - (kn l (i - 1)).1) (by omega) (by omega), e1, e2]
  refine calls_of (c_RatioOf (by omega) (by omega) (by omega) (by omega) hd) ?_
  simp only [ratio, res86, knI, tabI, pieceI, pairI, lpI, stI, flI, rdI, rnI, getD_kn, ↓reduceIte, reduceCtorEq, Nat.reduceEqDiff, Nat.reduceAdd, Nat.reduceMul, Nat.reduceSub, Nat.reduceLeDiff, Nat.reduceBEq, Int.reduceToNat, Int.reduceLE, Int.reduceLT, Int.reduceEq, Int.reduceNe, di0, di1, di2, di3, di4, di5, di6, di7, di8, di9, postX_ret, postX_normal, ex_some]

theorem fw_piece {l : List Kn} {i : Nat} (ka : KB (kn l i)) (kb : KB (kn l (i - 1))) (hd : dh l i ≠ 0) : Fw 2 (Rat.divInt (dv l i) (dh l i)) := by
  unfold KB at ka kb
  have e1 : (kn l i).2 - (kn l (i - 1)).2 = dv l i := rfl
  have e2 : (kn l i).1 - (kn l (i - 1)).1 = dh l i := rfl
  exact fw_divInt (by omega) (by omega) hd

theorem r_CheckTable {l : List Kn} (hl : l.length ≤ 1000000000000) : Contract Try.prog 40 [tabI l] (pairI (chkT l)) := by
  refine contract_run Try.func40 k40 rfl ?_
  simp only [body40, b40, res40, b40k0, b40k1, b40k2, b40k3, b40k4, b40k5, b40k6, b40k7, knI, tabI, pieceI, pairI, lpI, stI, flI, rdI, rnI, getD_kn, ↓reduceIte, reduceCtorEq, Nat.reduceEqDiff, Nat.reduceAdd, Nat.reduceMul, Nat.reduceSub, Nat.reduceLeDiff, Nat.reduceBEq, Int.reduceToNat, Int.reduceLE, Int.reduceLT, Int.reduceEq, Int.reduceNe, di0, di1, di2, di3, di4, di5, di6, di7, di8, di9, postX_ret, postX_normal, ex_some]
  unfold chkT
  by_cases h1 : l.length < 2
  · simp only [if_pos (show (l.length : Int) < 2 by omega), if_pos h1, ↓reduceIte, reduceCtorEq, Nat.reduceEqDiff, Nat.reduceAdd, Nat.reduceMul, Nat.reduceSub, Nat.reduceLeDiff, Nat.reduceBEq, Int.reduceToNat, Int.reduceLE, Int.reduceLT, Int.reduceEq, Int.reduceNe, di0, di1, di2, di3, di4, di5, di6, di7, di8, di9, postX_ret, postX_normal, ex_some]
  · by_cases h2 : 10 < l.length
    · simp only [if_neg (show ¬ (l.length : Int) < 2 by omega), if_pos (show 10 < (l.length : Int) by omega), if_neg h1, if_pos h2, ↓reduceIte, reduceCtorEq, Nat.reduceEqDiff, Nat.reduceAdd, Nat.reduceMul, Nat.reduceSub, Nat.reduceLeDiff, Nat.reduceBEq, Int.reduceToNat, Int.reduceLE, Int.reduceLT, Int.reduceEq, Int.reduceNe, di0, di1, di2, di3, di4, di5, di6, di7, di8, di9, postX_ret, postX_normal, ex_some]
    · simp only [if_neg (show ¬ (l.length : Int) < 2 by omega), if_neg (show ¬ 10 < (l.length : Int) by omega), if_neg h1, if_neg h2, ↓reduceIte, reduceCtorEq, Nat.reduceEqDiff, Nat.reduceAdd, Nat.reduceMul, Nat.reduceSub, Nat.reduceLeDiff, Nat.reduceBEq, Int.reduceToNat, Int.reduceLE, Int.reduceLT, Int.reduceEq, Int.reduceNe, di0, di1, di2, di3, di4, di5, di6, di7, di8, di9, postX_ret, postX_normal, ex_some]
      refine loop_keep (α := Nat) rfl (fun i => l.length - i) (fun i => i ≤ l.length ∧ (∀ j, j < i → knotErr l j = 0) ∧ firstE (knotErr l) (l.length - i) i = firstE (knotErr l) l.length 0)
        (fun i => [(1, .ref 1 0), (4, .imm (.int .i64 i))]) (fun _ => [(1, .box [.imm (.slc 2 (l.map knI))])]) 0 ⟨Nat.zero_le _, fun j hj => by omega, rfl⟩ (by simp only [↓reduceIte, reduceCtorEq, Nat.reduceEqDiff, Nat.reduceAdd, Nat.reduceMul, Nat.reduceSub, Nat.reduceLeDiff, Nat.reduceBEq, Int.reduceToNat, Int.reduceLE, Int.reduceLT, Int.reduceEq, Int.reduceNe, di0, di1, di2, di3, di4, di5, di6, di7, di8, di9, postX_ret, postX_normal, ex_some] <;> rfl) ?_
      intro i ⟨hi, hb, he⟩ ih
      rw [← he]
      simp only [res40, b40k0, b40k1, b40k2, b40k3, b40k4, b40k5, b40k6, b40k7, ↓reduceIte, reduceCtorEq, Nat.reduceEqDiff, Nat.reduceAdd, Nat.reduceMul, Nat.reduceSub, Nat.reduceLeDiff, Nat.reduceBEq, Int.reduceToNat, Int.reduceLE, Int.reduceLT, Int.reduceEq, Int.reduceNe, di0, di1, di2, di3, di4, di5, di6, di7, di8, di9, postX_ret, postX_normal, ex_some]
      split
      · rename_i h
        have hil : i < l.length := by omega
        rw [show l.length - i = (l.length - (i + 1)) + 1 by omega, firstE_succ]
        have hnext : knotErr l i = 0 → firstE (knotErr l) (l.length - (i + 1)) (i + 1) = firstE (knotErr l) l.length 0 := by
          intro k
          rw [← he, show l.length - i = (l.length - (i + 1)) + 1 by omega, firstE_succ, if_pos k]
        have hbn : knotErr l i = 0 → ∀ j, j < i + 1 → knotErr l j = 0 := by
          intro k j hj
          by_cases e : j = i
          · subst e; exact k
          · exact hb j (by omega)
        repeat (refine And.intro (by omega) ?_)
        simp only [knI, tabI, pieceI, pairI, lpI, stI, flI, rdI, rnI, getD_kn, ↓reduceIte, reduceCtorEq, Nat.reduceEqDiff, Nat.reduceAdd, Nat.reduceMul, Nat.reduceSub, Nat.reduceLeDiff, Nat.reduceBEq, Int.reduceToNat, Int.reduceLE, Int.reduceLT, Int.reduceEq, Int.reduceNe, di0, di1, di2, di3, di4, di5, di6, di7, di8, di9, postX_ret, postX_normal, ex_some]
        refine calls_of c_Within ?_; simp only [knI, tabI, pieceI, pairI, lpI, stI, flI, rdI, rnI, getD_kn, res40, b40k0, b40k1, b40k2, b40k3, b40k4, b40k5, b40k6, b40k7, ↓reduceIte, reduceCtorEq, Nat.reduceEqDiff, Nat.reduceAdd, Nat.reduceMul, Nat.reduceSub, Nat.reduceLeDiff, Nat.reduceBEq, Int.reduceToNat, Int.reduceLE, Int.reduceLT, Int.reduceEq, Int.reduceNe, di0, di1, di2, di3, di4, di5, di6, di7, di8, di9, postX_ret, postX_normal, ex_some]
        have hbad : ¬ (Wi (kn l i).1 0 1000000 ∧ Wi (kn l i).2 0 1000000000) → knotErr l i = 2 := fun k => by unfold knotErr; rw [if_pos k]
        split
        · rename_i a1
          refine calls_of c_Within ?_; simp only [knI, tabI, pieceI, pairI, lpI, stI, flI, rdI, rnI, getD_kn, res40, b40k0, b40k1, b40k2, b40k3, b40k4, b40k5, b40k6, b40k7, ↓reduceIte, reduceCtorEq, Nat.reduceEqDiff, Nat.reduceAdd, Nat.reduceMul, Nat.reduceSub, Nat.reduceLeDiff, Nat.reduceBEq, Int.reduceToNat, Int.reduceLE, Int.reduceLT, Int.reduceEq, Int.reduceNe, di0, di1, di2, di3, di4, di5, di6, di7, di8, di9, postX_ret, postX_normal, ex_some]
          split
          · rename_i a2
            split
            · rename_i a3
              have k0 : knotErr l i = 0 := by unfold knotErr Wi; rw [if_neg (by simp [a1, a2]), if_pos (by omega)]
              rw [if_pos k0, wrap64 (by omega) (by omega)]
              rw [hnext k0]
              refine ih (i + 1) _ _ (by omega) ⟨by omega, hbn k0, hnext k0⟩ (by simp only [↓reduceIte, reduceCtorEq, Nat.reduceEqDiff, Nat.reduceAdd, Nat.reduceMul, Nat.reduceSub, Nat.reduceLeDiff, Nat.reduceBEq, Int.reduceToNat, Int.reduceLE, Int.reduceLT, Int.reduceEq, Int.reduceNe, di0, di1, di2, di3, di4, di5, di6, di7, di8, di9, postX_ret, postX_normal, ex_some] <;> rfl)
            · rename_i a3
              have hi0 : 0 < i := by omega
              have e1 : IntKind.wrap .i64 ((i : Int) - 1) = ((i - 1 : Nat) : Int) := by rw [wrap64 (by omega) (by omega)]; omega
              have kb1 : KB (kn l (i - 1)) := kb_of (hb (i - 1) (by omega))
              have kb2 : KB (kn l i) := by unfold KB; omega
              have ke : knotErr l i = if (kn l i).1 ≤ (kn l (i - 1)).1 ∨ (kn l i).2 ≤ (kn l (i - 1)).2 then 9
                  else if 1 < i ∧ ((kn l i).2 - (kn l (i - 1)).2) * ((kn l (i - 1)).1 - (kn l (i - 2)).1) < ((kn l (i - 1)).2 - (kn l (i - 2)).2) * ((kn l i).1 - (kn l (i - 1)).1) then 22 else 0 := by
                unfold knotErr Wi; rw [if_neg (by simp [a1, a2]), if_neg (by omega)]
              simp only [e1, knI, tabI, pieceI, pairI, lpI, stI, flI, rdI, rnI, getD_kn, ↓reduceIte, reduceCtorEq, Nat.reduceEqDiff, Nat.reduceAdd, Nat.reduceMul, Nat.reduceSub, Nat.reduceLeDiff, Nat.reduceBEq, Int.reduceToNat, Int.reduceLE, Int.reduceLT, Int.reduceEq, Int.reduceNe, di0, di1, di2, di3, di4, di5, di6, di7, di8, di9, postX_ret, postX_normal, ex_some]
              repeat (refine And.intro (by omega) ?_)
              split
              · rename_i a4
                have k9 : knotErr l i = 9 := ke.trans (if_pos (.inl (by omega)))
                rw [k9, if_neg (by omega)]
              · rename_i a4
                repeat (refine And.intro (by omega) ?_)
                split
                · rename_i a5
                  have k9 : knotErr l i = 9 := ke.trans (if_pos (.inr (by omega)))
                  rw [k9, if_neg (by omega)]
                · rename_i a5
                  rw [if_neg (show ¬ ((kn l i).1 ≤ (kn l (i - 1)).1 ∨ (kn l i).2 ≤ (kn l (i - 1)).2) by omega)] at ke
                  split
                  · rename_i a6
                    have kb3 : KB (kn l (i - 2)) := kb_of (hb (i - 2) (by omega))
                    have hp1 := r_piece (l := l) (i := i) hi0 hil hl kb2 kb1 (by unfold dh; omega)
                    have hm := hb (i - 1) (by omega)
                    have hm1 : (kn l (i - 2)).1 < (kn l (i - 1)).1 := by
                      have ee : i - 1 - 1 = i - 2 := by omega
                      unfold knotErr at hm
                      rw [ee] at hm
                      split at hm
                      · omega
                      · split at hm
                        · omega
                        · split at hm
                          · omega
                          · omega
                    have e2 : dh l (i - 1) = (kn l (i - 1)).1 - (kn l (i - 2)).1 := by unfold dh; rw [show i - 1 - 1 = i - 2 by omega]
                    have e3 : dv l (i - 1) = (kn l (i - 1)).2 - (kn l (i - 2)).2 := by unfold dv; rw [show i - 1 - 1 = i - 2 by omega]
                    have kb3' : KB (kn l (i - 1 - 1)) := by rw [show i - 1 - 1 = i - 2 by omega]; exact kb3
                    have hp2 := r_piece (l := l) (i := i - 1) (by omega) (by omega) hl kb1 kb3' (by omega)
                    refine calls_of hp1 ?_; simp only [knI, tabI, pieceI, pairI, lpI, stI, flI, rdI, rnI, getD_kn, res40, b40k0, b40k1, b40k2, b40k3, b40k4, b40k5, b40k6, b40k7, ↓reduceIte, reduceCtorEq, Nat.reduceEqDiff, Nat.reduceAdd, Nat.reduceMul, Nat.reduceSub, Nat.reduceLeDiff, Nat.reduceBEq, Int.reduceToNat, Int.reduceLE, Int.reduceLT, Int.reduceEq, Int.reduceNe, di0, di1, di2, di3, di4, di5, di6, di7, di8, di9, postX_ret, postX_normal, ex_some]
                    simp only [e1]
                    refine calls_of hp2 ?_; simp only [knI, tabI, pieceI, pairI, lpI, stI, flI, rdI, rnI, getD_kn, res40, b40k0, b40k1, b40k2, b40k3, b40k4, b40k5, b40k6, b40k7, ↓reduceIte, reduceCtorEq, Nat.reduceEqDiff, Nat.reduceAdd, Nat.reduceMul, Nat.reduceSub, Nat.reduceLeDiff, Nat.reduceBEq, Int.reduceToNat, Int.reduceLE, Int.reduceLT, Int.reduceEq, Int.reduceNe, di0, di1, di2, di3, di4, di5, di6, di7, di8, di9, postX_ret, postX_normal, ex_some]
                    refine calls_of (c_RatioCmp (fw_piece kb2 kb1 (by unfold dh; omega)) (fw_piece (i := i - 1) kb1 kb3' (by omega)) (by omega)) ?_; simp only [knI, tabI, pieceI, pairI, lpI, stI, flI, rdI, rnI, getD_kn, res40, b40k0, b40k1, b40k2, b40k3, b40k4, b40k5, b40k6, b40k7, ↓reduceIte, reduceCtorEq, Nat.reduceEqDiff, Nat.reduceAdd, Nat.reduceMul, Nat.reduceSub, Nat.reduceLeDiff, Nat.reduceBEq, Int.reduceToNat, Int.reduceLE, Int.reduceLT, Int.reduceEq, Int.reduceNe, di0, di1, di2, di3, di4, di5, di6, di7, di8, di9, postX_ret, postX_normal, ex_some]
                    have hlt : cmpR (Rat.divInt (dv l i) (dh l i)) (Rat.divInt (dv l (i - 1)) (dh l (i - 1))) < 0 ↔ ((kn l i).2 - (kn l (i - 1)).2) * ((kn l (i - 1)).1 - (kn l (i - 2)).1) < ((kn l (i - 1)).2 - (kn l (i - 2)).2) * ((kn l i).1 - (kn l (i - 1)).1) := by
                      rw [cmpR_neg, rlt (by unfold dh; omega) (by omega), e2, e3]
                      rfl
                    split
                    · rename_i a7
                      rw [if_pos ⟨by omega, hlt.1 a7⟩] at ke
                      rw [ke, if_neg (by omega)]
                    · rename_i a7
                      rw [if_neg (fun k => a7 (hlt.2 k.2))] at ke
                      rw [if_pos ke, wrap64 (by omega) (by omega), hnext ke]
                      refine ih (i + 1) _ _ (by omega) ⟨by omega, hbn ke, hnext ke⟩ (by simp only [↓reduceIte, reduceCtorEq, Nat.reduceEqDiff, Nat.reduceAdd, Nat.reduceMul, Nat.reduceSub, Nat.reduceLeDiff, Nat.reduceBEq, Int.reduceToNat, Int.reduceLE, Int.reduceLT, Int.reduceEq, Int.reduceNe, di0, di1, di2, di3, di4, di5, di6, di7, di8, di9, postX_ret, postX_normal, ex_some] <;> rfl)
                  · rename_i a6
                    rw [if_neg (fun k => a6 (by have := k.1; omega))] at ke
                    rw [if_pos ke, wrap64 (by omega) (by omega), hnext ke]
                    refine ih (i + 1) _ _ (by omega) ⟨by omega, hbn ke, hnext ke⟩ (by simp only [↓reduceIte, reduceCtorEq, Nat.reduceEqDiff, Nat.reduceAdd, Nat.reduceMul, Nat.reduceSub, Nat.reduceLeDiff, Nat.reduceBEq, Int.reduceToNat, Int.reduceLE, Int.reduceLT, Int.reduceEq, Int.reduceNe, di0, di1, di2, di3, di4, di5, di6, di7, di8, di9, postX_ret, postX_normal, ex_some] <;> rfl)
          · rename_i a2
            rw [hbad (fun k => a2 k.2), if_neg (by omega)]
        · rename_i a1
          rw [hbad (fun k => a1 k.1), if_neg (by omega)]
      · rename_i h
        rw [show l.length - i = 0 by omega]
        rfl

theorem r_TableErr {l : List Kn} (hl : l.length ≤ 1000000000000) : Contract Try.prog 46 [tabI l] (.int .i64 (chkT l).2) := by
  refine contract_run Try.func46 k46 rfl ?_
  simp only [body46, b46, res46, knI, tabI, pieceI, pairI, lpI, stI, flI, rdI, rnI, getD_kn, ↓reduceIte, reduceCtorEq, Nat.reduceEqDiff, Nat.reduceAdd, Nat.reduceMul, Nat.reduceSub, Nat.reduceLeDiff, Nat.reduceBEq, Int.reduceToNat, Int.reduceLE, Int.reduceLT, Int.reduceEq, Int.reduceNe, di0, di1, di2, di3, di4, di5, di6, di7, di8, di9, postX_ret, postX_normal, ex_some]
  refine calls_of (r_CheckTable hl) ?_; simp only [knI, tabI, pieceI, pairI, lpI, stI, flI, rdI, rnI, getD_kn, res46, ↓reduceIte, reduceCtorEq, Nat.reduceEqDiff, Nat.reduceAdd, Nat.reduceMul, Nat.reduceSub, Nat.reduceLeDiff, Nat.reduceBEq, Int.reduceToNat, Int.reduceLE, Int.reduceLT, Int.reduceEq, Int.reduceNe, di0, di1, di2, di3, di4, di5, di6, di7, di8, di9, postX_ret, postX_normal, ex_some]

theorem idx_succ {p : Kn → Bool} {l : List Kn} {m i : Nat} : idx p l (m + 1) i = if p (kn l i) then i else idx p l m (i + 1) := rfl

theorem r_above {l : List Kn} {v : Int} (h : Valid l) (hv : v ≤ (top l).2) : Contract Try.prog 90 [tabI l, .int .i64 v] (.int .i64 (atV l v)) := by
  have hs := atV_spec h hv
  have hl := valid_len h
  refine contract_run Try.func90 k90 rfl ?_
  simp only [body90, b90, res90, b90k0, b90k1, knI, tabI, pieceI, pairI, lpI, stI, flI, rdI, rnI, getD_kn, ↓reduceIte, reduceCtorEq, Nat.reduceEqDiff, Nat.reduceAdd, Nat.reduceMul, Nat.reduceSub, Nat.reduceLeDiff, Nat.reduceBEq, Int.reduceToNat, Int.reduceLE, Int.reduceLT, Int.reduceEq, Int.reduceNe, di0, di1, di2, di3, di4, di5, di6, di7, di8, di9, postX_ret, postX_normal, ex_some]
  refine loop_keep (α := Nat) rfl (fun i => l.length - i) (fun i => 1 ≤ i ∧ i < l.length ∧ idx (fun k => decide (v ≤ k.2)) l (l.length - i) i = atV l v)
    (fun i => [(1, .imm (.int .i64 v)), (2, .ref 2 0), (5, .imm (.int .i64 i))]) (fun _ => [(2, .box [.imm (.slc 2 (l.map knI))])]) 1 ⟨by omega, by have := h.two; omega, rfl⟩ (by simp only [↓reduceIte, reduceCtorEq, Nat.reduceEqDiff, Nat.reduceAdd, Nat.reduceMul, Nat.reduceSub, Nat.reduceLeDiff, Nat.reduceBEq, Int.reduceToNat, Int.reduceLE, Int.reduceLT, Int.reduceEq, Int.reduceNe, di0, di1, di2, di3, di4, di5, di6, di7, di8, di9, postX_ret, postX_normal, ex_some] <;> rfl) ?_
  intro i ⟨hi, hi2, he⟩ ih
  simp only [res90, b90k0, b90k1, knI, tabI, pieceI, pairI, lpI, stI, flI, rdI, rnI, getD_kn, ↓reduceIte, reduceCtorEq, Nat.reduceEqDiff, Nat.reduceAdd, Nat.reduceMul, Nat.reduceSub, Nat.reduceLeDiff, Nat.reduceBEq, Int.reduceToNat, Int.reduceLE, Int.reduceLT, Int.reduceEq, Int.reduceNe, di0, di1, di2, di3, di4, di5, di6, di7, di8, di9, postX_ret, postX_normal, ex_some]
  repeat (refine And.intro (by omega) ?_)
  rw [show l.length - i = (l.length - (i + 1)) + 1 by omega, idx_succ] at he
  split
  · rename_i h1
    rw [if_neg (by simpa using h1)] at he
    have hne : i + 1 < l.length := by
      apply Decidable.byContradiction
      intro hn
      have : i = l.length - 1 := by omega
      subst this
      unfold top at hv
      omega
    rw [wrap64 (by omega) (by omega)]
    exact ih (i + 1) _ _ (by omega) ⟨by omega, hne, he⟩ (by simp only [↓reduceIte, reduceCtorEq, Nat.reduceEqDiff, Nat.reduceAdd, Nat.reduceMul, Nat.reduceSub, Nat.reduceLeDiff, Nat.reduceBEq, Int.reduceToNat, Int.reduceLE, Int.reduceLT, Int.reduceEq, Int.reduceNe, di0, di1, di2, di3, di4, di5, di6, di7, di8, di9, postX_ret, postX_normal, ex_some] <;> rfl)
  · rename_i h1
    rw [if_pos (by simp; omega)] at he
    rw [he]

theorem fw_prod {l : List Kn} {i : Nat} {n : Int} (h : Valid l) (h0 : 0 < i) (hi : i < l.length) (h1 : -1000000000 ≤ n) (h2 : n ≤ 1000000000) : Fw 3 (Rat.divInt (n * dv l i) (dh l i)) ∧ Fw 3 (Rat.divInt (n * dh l i) (dv l i)) := by
  have dp := dh_pos h h0 hi
  have dq := dv_pos h h0 hi
  have b1 := mul_bd (x := n) (y := dv l i) (by omega) (by omega) (by omega) (by omega)
  have b2 := mul_bd (x := n) (y := dh l i) (by omega) (by omega) (by omega) (by omega)
  exact ⟨fw_divInt (by omega) (by omega) (by omega), fw_divInt (by omega) (by omega) (by omega)⟩

theorem r_volume {l : List Kn} {x : Int} (h : Valid l) (hx : isL l x) {i : Nat} (hi : atL l x = i) :
    Contract Try.prog 88 [tabI l, .int .i64 x] (ratio (Rat.divInt ((kn l (i - 1)).2 * dh l i + (x - (kn l (i - 1)).1) * dv l i) (dh l i))) := by
  obtain ⟨i', hi', i1, i2, i3, i4, i5⟩ := at_level h hx
  have : i' = i := by omega
  subst this
  have hl := valid_len h
  have hx2 := hx.2
  have ra := h.range i2
  have rb := h.range (i := i' - 1) (by omega)
  have dp := dh_pos h i1 i2
  refine contract_run Try.func88 k88 rfl ?_
  simp only [body88, b88, res88, b88k0, b88k1, knI, tabI, pieceI, pairI, lpI, stI, flI, rdI, rnI, getD_kn, ↓reduceIte, reduceCtorEq, Nat.reduceEqDiff, Nat.reduceAdd, Nat.reduceMul, Nat.reduceSub, Nat.reduceLeDiff, Nat.reduceBEq, Int.reduceToNat, Int.reduceLE, Int.reduceLT, Int.reduceEq, Int.reduceNe, di0, di1, di2, di3, di4, di5, di6, di7, di8, di9, postX_ret, postX_normal, ex_some]
  refine loop_keep (α := Nat) rfl (fun i => l.length - i) (fun i => 1 ≤ i ∧ i < l.length ∧ idx (fun k => decide (x ≤ k.1)) l (l.length - i) i = atL l x)
    (fun i => [(1, .imm (.int .i64 x)), (2, .ref 2 0), (4, .ref 4 0), (5, .imm (.int .i64 i))]) (fun _ => [(2, .box [.imm (.slc 2 (l.map knI))]), (4, .box [.imm (.int .i64 0), .imm (.slc 1 []), .imm (.int .i64 0), .imm (.slc 1 [])])]) 1 ⟨by omega, by have := h.two; omega, rfl⟩ (by simp only [↓reduceIte, reduceCtorEq, Nat.reduceEqDiff, Nat.reduceAdd, Nat.reduceMul, Nat.reduceSub, Nat.reduceLeDiff, Nat.reduceBEq, Int.reduceToNat, Int.reduceLE, Int.reduceLT, Int.reduceEq, Int.reduceNe, di0, di1, di2, di3, di4, di5, di6, di7, di8, di9, postX_ret, postX_normal, ex_some] <;> rfl) ?_
  intro i ⟨hi, hi2, he⟩ ih
  simp only [res88, b88k0, b88k1, knI, tabI, pieceI, pairI, lpI, stI, flI, rdI, rnI, getD_kn, ↓reduceIte, reduceCtorEq, Nat.reduceEqDiff, Nat.reduceAdd, Nat.reduceMul, Nat.reduceSub, Nat.reduceLeDiff, Nat.reduceBEq, Int.reduceToNat, Int.reduceLE, Int.reduceLT, Int.reduceEq, Int.reduceNe, di0, di1, di2, di3, di4, di5, di6, di7, di8, di9, postX_ret, postX_normal, ex_some]
  repeat (refine And.intro (by omega) ?_)
  rw [show l.length - i = (l.length - (i + 1)) + 1 by omega, idx_succ] at he
  split
  · rename_i h1
    rw [if_neg (by simpa using h1)] at he
    have hne : i + 1 < l.length := by
      apply Decidable.byContradiction
      intro hn
      have : i = l.length - 1 := by omega
      subst this
      unfold top at hx2
      omega
    rw [wrap64 (by omega) (by omega)]
    exact ih (i + 1) _ _ (by omega) ⟨by omega, hne, he⟩ (by simp only [↓reduceIte, reduceCtorEq, Nat.reduceEqDiff, Nat.reduceAdd, Nat.reduceMul, Nat.reduceSub, Nat.reduceLeDiff, Nat.reduceBEq, Int.reduceToNat, Int.reduceLE, Int.reduceLT, Int.reduceEq, Int.reduceNe, di0, di1, di2, di3, di4, di5, di6, di7, di8, di9, postX_ret, postX_normal, ex_some] <;> rfl)
  · rename_i h1
    rw [if_pos (by simp; omega)] at he
    have : i = i' := by omega
    subst this
    have e : IntKind.wrap .i64 ((i : Int) - 1) = ((i - 1 : Nat) : Int) := by rw [wrap64 (by omega) (by omega)]; omega
    simp only [e, knI, tabI, pieceI, pairI, lpI, stI, flI, rdI, rnI, getD_kn, ↓reduceIte, reduceCtorEq, Nat.reduceEqDiff, Nat.reduceAdd, Nat.reduceMul, Nat.reduceSub, Nat.reduceLeDiff, Nat.reduceBEq, Int.reduceToNat, Int.reduceLE, Int.reduceLT, Int.reduceEq, Int.reduceNe, di0, di1, di2, di3, di4, di5, di6, di7, di8, di9, postX_ret, postX_normal, ex_some]
    repeat (refine And.intro (by omega) ?_)
    refine calls_of (c_RatioInt (by omega) (by omega)) ?_; simp only [knI, tabI, pieceI, pairI, lpI, stI, flI, rdI, rnI, getD_kn, res88, b88k0, b88k1, ↓reduceIte, reduceCtorEq, Nat.reduceEqDiff, Nat.reduceAdd, Nat.reduceMul, Nat.reduceSub, Nat.reduceLeDiff, Nat.reduceBEq, Int.reduceToNat, Int.reduceLE, Int.reduceLT, Int.reduceEq, Int.reduceNe, di0, di1, di2, di3, di4, di5, di6, di7, di8, di9, postX_ret, postX_normal, ex_some]
    rw [wrap64 (n := x - (kn l (i - 1)).1) (by omega) (by omega)]
    refine calls_of (c_RatioInt (by omega) (by omega)) ?_; simp only [knI, tabI, pieceI, pairI, lpI, stI, flI, rdI, rnI, getD_kn, res88, b88k0, b88k1, ↓reduceIte, reduceCtorEq, Nat.reduceEqDiff, Nat.reduceAdd, Nat.reduceMul, Nat.reduceSub, Nat.reduceLeDiff, Nat.reduceBEq, Int.reduceToNat, Int.reduceLE, Int.reduceLT, Int.reduceEq, Int.reduceNe, di0, di1, di2, di3, di4, di5, di6, di7, di8, di9, postX_ret, postX_normal, ex_some]
    refine calls_of (r_piece i1 i2 hl.2 (kb_valid h i2) (kb_valid h (by omega)) (by omega)) ?_; simp only [knI, tabI, pieceI, pairI, lpI, stI, flI, rdI, rnI, getD_kn, res88, b88k0, b88k1, ↓reduceIte, reduceCtorEq, Nat.reduceEqDiff, Nat.reduceAdd, Nat.reduceMul, Nat.reduceSub, Nat.reduceLeDiff, Nat.reduceBEq, Int.reduceToNat, Int.reduceLE, Int.reduceLT, Int.reduceEq, Int.reduceNe, di0, di1, di2, di3, di4, di5, di6, di7, di8, di9, postX_ret, postX_normal, ex_some]
    have f1 : Fw 2 ((x - (kn l (i - 1)).1 : Int) : Rat) := fw_int (by omega) (by omega)
    have f2 : Fw 2 (((kn l (i - 1)).2 : Int) : Rat) := fw_int (by omega) (by omega)
    have f3 := (fw_prod (n := x - (kn l (i - 1)).1) h i1 i2 (by omega) (by omega)).1
    rw [← int_mul] at f3
    refine calls_of (c_RatioMul f1 (fw_piece (kb_valid h i2) (kb_valid h (by omega)) (by omega)) (by omega)) ?_; simp only [knI, tabI, pieceI, pairI, lpI, stI, flI, rdI, rnI, getD_kn, res88, b88k0, b88k1, ↓reduceIte, reduceCtorEq, Nat.reduceEqDiff, Nat.reduceAdd, Nat.reduceMul, Nat.reduceSub, Nat.reduceLeDiff, Nat.reduceBEq, Int.reduceToNat, Int.reduceLE, Int.reduceLT, Int.reduceEq, Int.reduceNe, di0, di1, di2, di3, di4, di5, di6, di7, di8, di9, postX_ret, postX_normal, ex_some]
    refine calls_of (c_RatioAdd f2 f3 (by omega)) ?_
    rw [add_int_mul dp.1]
    simp only [ratio, res88, b88k0, b88k1, knI, tabI, pieceI, pairI, lpI, stI, flI, rdI, rnI, getD_kn, ↓reduceIte, reduceCtorEq, Nat.reduceEqDiff, Nat.reduceAdd, Nat.reduceMul, Nat.reduceSub, Nat.reduceLeDiff, Nat.reduceBEq, Int.reduceToNat, Int.reduceLE, Int.reduceLT, Int.reduceEq, Int.reduceNe, di0, di1, di2, di3, di4, di5, di6, di7, di8, di9, postX_ret, postX_normal, ex_some]

theorem r_Level {l : List Kn} {v : Int} (h : Valid l) (hv : isV l v) {i : Nat} (hi : atV l v = i) :
    Contract Try.prog 89 [tabI l, .int .i64 v] (ratio (Rat.divInt ((kn l (i - 1)).1 * dv l i + (v - (kn l (i - 1)).2) * dh l i) (dv l i))) := by
  obtain ⟨i', hi', i1, i2, i3, i4, i5⟩ := at_volume h hv
  have : i' = i := by omega
  subst this
  have hl := valid_len h
  have ra := h.range i2
  have rb := h.range (i := i' - 1) (by omega)
  have dp := dh_pos h i1 i2
  have dq := dv_pos h i1 i2
  have e : IntKind.wrap .i64 ((i' : Int) - 1) = ((i' - 1 : Nat) : Int) := by rw [wrap64 (by omega) (by omega)]; omega
  have hab := r_above h hv.2
  rw [hi] at hab
  refine contract_run Try.func89 k89 rfl ?_
  simp only [body89, b89, res89, knI, tabI, pieceI, pairI, lpI, stI, flI, rdI, rnI, getD_kn, ↓reduceIte, reduceCtorEq, Nat.reduceEqDiff, Nat.reduceAdd, Nat.reduceMul, Nat.reduceSub, Nat.reduceLeDiff, Nat.reduceBEq, Int.reduceToNat, Int.reduceLE, Int.reduceLT, Int.reduceEq, Int.reduceNe, di0, di1, di2, di3, di4, di5, di6, di7, di8, di9, postX_ret, postX_normal, ex_some]
  refine calls_of hab ?_; simp only [knI, tabI, pieceI, pairI, lpI, stI, flI, rdI, rnI, getD_kn, res89, ↓reduceIte, reduceCtorEq, Nat.reduceEqDiff, Nat.reduceAdd, Nat.reduceMul, Nat.reduceSub, Nat.reduceLeDiff, Nat.reduceBEq, Int.reduceToNat, Int.reduceLE, Int.reduceLT, Int.reduceEq, Int.reduceNe, di0, di1, di2, di3, di4, di5, di6, di7, di8, di9, postX_ret, postX_normal, ex_some]
  simp only [e, knI, tabI, pieceI, pairI, lpI, stI, flI, rdI, rnI, getD_kn, ↓reduceIte, reduceCtorEq, Nat.reduceEqDiff, Nat.reduceAdd, Nat.reduceMul, Nat.reduceSub, Nat.reduceLeDiff, Nat.reduceBEq, Int.reduceToNat, Int.reduceLE, Int.reduceLT, Int.reduceEq, Int.reduceNe, di0, di1, di2, di3, di4, di5, di6, di7, di8, di9, postX_ret, postX_normal, ex_some]
  repeat (refine And.intro (by omega) ?_)
  refine calls_of (c_RatioInt (by omega) (by omega)) ?_; simp only [knI, tabI, pieceI, pairI, lpI, stI, flI, rdI, rnI, getD_kn, res89, ↓reduceIte, reduceCtorEq, Nat.reduceEqDiff, Nat.reduceAdd, Nat.reduceMul, Nat.reduceSub, Nat.reduceLeDiff, Nat.reduceBEq, Int.reduceToNat, Int.reduceLE, Int.reduceLT, Int.reduceEq, Int.reduceNe, di0, di1, di2, di3, di4, di5, di6, di7, di8, di9, postX_ret, postX_normal, ex_some]
  rw [wrap64 (n := v - (kn l (i' - 1)).2) (by omega) (by omega)]
  refine calls_of (c_RatioInt (by omega) (by omega)) ?_; simp only [knI, tabI, pieceI, pairI, lpI, stI, flI, rdI, rnI, getD_kn, res89, ↓reduceIte, reduceCtorEq, Nat.reduceEqDiff, Nat.reduceAdd, Nat.reduceMul, Nat.reduceSub, Nat.reduceLeDiff, Nat.reduceBEq, Int.reduceToNat, Int.reduceLE, Int.reduceLT, Int.reduceEq, Int.reduceNe, di0, di1, di2, di3, di4, di5, di6, di7, di8, di9, postX_ret, postX_normal, ex_some]
  refine calls_of (r_piece i1 i2 hl.2 (kb_valid h i2) (kb_valid h (by omega)) (by omega)) ?_; simp only [knI, tabI, pieceI, pairI, lpI, stI, flI, rdI, rnI, getD_kn, res89, ↓reduceIte, reduceCtorEq, Nat.reduceEqDiff, Nat.reduceAdd, Nat.reduceMul, Nat.reduceSub, Nat.reduceLeDiff, Nat.reduceBEq, Int.reduceToNat, Int.reduceLE, Int.reduceLT, Int.reduceEq, Int.reduceNe, di0, di1, di2, di3, di4, di5, di6, di7, di8, di9, postX_ret, postX_normal, ex_some]
  have f1 : Fw 2 ((v - (kn l (i' - 1)).2 : Int) : Rat) := fw_int (by omega) (by omega)
  have f2 : Fw 2 (((kn l (i' - 1)).1 : Int) : Rat) := fw_int (by omega) (by omega)
  have f3 := (fw_prod (n := v - (kn l (i' - 1)).2) h i1 i2 (by omega) (by omega)).2
  rw [← int_div] at f3
  have hne : Rat.divInt (dv l i') (dh l i') ≠ 0 := by
    intro k
    have := (rlt (a := 0) (b := 1) (c := dv l i') (d := dh l i') (by omega) dp.1).2 (by omega)
    rw [k] at this
    exact absurd this (by decide)
  refine calls_of (c_RatioDiv f1 (fw_piece (kb_valid h i2) (kb_valid h (by omega)) (by omega)) (by omega) hne) ?_; simp only [knI, tabI, pieceI, pairI, lpI, stI, flI, rdI, rnI, getD_kn, res89, ↓reduceIte, reduceCtorEq, Nat.reduceEqDiff, Nat.reduceAdd, Nat.reduceMul, Nat.reduceSub, Nat.reduceLeDiff, Nat.reduceBEq, Int.reduceToNat, Int.reduceLE, Int.reduceLT, Int.reduceEq, Int.reduceNe, di0, di1, di2, di3, di4, di5, di6, di7, di8, di9, postX_ret, postX_normal, ex_some]
  refine calls_of (c_RatioAdd f2 f3 (by omega)) ?_
  rw [int_div, add_int dq.1]
  simp only [ratio, res89, knI, tabI, pieceI, pairI, lpI, stI, flI, rdI, rnI, getD_kn, ↓reduceIte, reduceCtorEq, Nat.reduceEqDiff, Nat.reduceAdd, Nat.reduceMul, Nat.reduceSub, Nat.reduceLeDiff, Nat.reduceBEq, Int.reduceToNat, Int.reduceLE, Int.reduceLT, Int.reduceEq, Int.reduceNe, di0, di1, di2, di3, di4, di5, di6, di7, di8, di9, postX_ret, postX_normal, ex_some]

theorem r_rounded {q : Rat} (hq : Fw 4 q) (h1 : q.floor.natAbs < 1000000000000000000) (h2 : q.ceil.natAbs < 1000000000000000000) : Contract Try.prog 87 [ratio q] (.agg [.int .i64 q.floor, .int .i64 q.ceil]) := by
  refine contract_run Try.func87 k87 rfl ?_
  simp only [ratio, body87, b87, res87, knI, tabI, pieceI, pairI, lpI, stI, flI, rdI, rnI, getD_kn, ↓reduceIte, reduceCtorEq, Nat.reduceEqDiff, Nat.reduceAdd, Nat.reduceMul, Nat.reduceSub, Nat.reduceLeDiff, Nat.reduceBEq, Int.reduceToNat, Int.reduceLE, Int.reduceLT, Int.reduceEq, Int.reduceNe, di0, di1, di2, di3, di4, di5, di6, di7, di8, di9, postX_ret, postX_normal, ex_some]
  refine calls_of (c_RatioFloor hq (by omega)) ?_; simp only [knI, tabI, pieceI, pairI, lpI, stI, flI, rdI, rnI, getD_kn, res87, ↓reduceIte, reduceCtorEq, Nat.reduceEqDiff, Nat.reduceAdd, Nat.reduceMul, Nat.reduceSub, Nat.reduceLeDiff, Nat.reduceBEq, Int.reduceToNat, Int.reduceLE, Int.reduceLT, Int.reduceEq, Int.reduceNe, di0, di1, di2, di3, di4, di5, di6, di7, di8, di9, postX_ret, postX_normal, ex_some]
  refine calls_of (c_WideInt h1) ?_; simp only [knI, tabI, pieceI, pairI, lpI, stI, flI, rdI, rnI, getD_kn, res87, ↓reduceIte, reduceCtorEq, Nat.reduceEqDiff, Nat.reduceAdd, Nat.reduceMul, Nat.reduceSub, Nat.reduceLeDiff, Nat.reduceBEq, Int.reduceToNat, Int.reduceLE, Int.reduceLT, Int.reduceEq, Int.reduceNe, di0, di1, di2, di3, di4, di5, di6, di7, di8, di9, postX_ret, postX_normal, ex_some]
  refine calls_of (c_RatioCeil hq (by omega)) ?_; simp only [knI, tabI, pieceI, pairI, lpI, stI, flI, rdI, rnI, getD_kn, res87, ↓reduceIte, reduceCtorEq, Nat.reduceEqDiff, Nat.reduceAdd, Nat.reduceMul, Nat.reduceSub, Nat.reduceLeDiff, Nat.reduceBEq, Int.reduceToNat, Int.reduceLE, Int.reduceLT, Int.reduceEq, Int.reduceNe, di0, di1, di2, di3, di4, di5, di6, di7, di8, di9, postX_ret, postX_normal, ex_some]
  refine calls_of (c_WideInt h2) ?_; simp only [knI, tabI, pieceI, pairI, lpI, stI, flI, rdI, rnI, getD_kn, res87, ↓reduceIte, reduceCtorEq, Nat.reduceEqDiff, Nat.reduceAdd, Nat.reduceMul, Nat.reduceSub, Nat.reduceLeDiff, Nat.reduceBEq, Int.reduceToNat, Int.reduceLE, Int.reduceLT, Int.reduceEq, Int.reduceNe, di0, di1, di2, di3, di4, di5, di6, di7, di8, di9, postX_ret, postX_normal, ex_some]
end Go.DI

/- Contracts: the reference's levels, volumes, steps and runs; copies. No condition. -/
set_option linter.unusedSimpArgs false
namespace Go.DI
open Go.Proofs Go.RowKit Lk

theorem rounded_level {l : List Kn} {v : Int} (h : Valid l) (hv : isV l v) {i : Nat} (hi : atV l v = i) :
    let q := Rat.divInt ((kn l (i - 1)).1 * dv l i + (v - (kn l (i - 1)).2) * dh l i) (dv l i)
    Fw 4 q ∧ q.floor = levLo l v ∧ q.ceil = levHi l v := by
  obtain ⟨i', hi', i1, i2, i3, i4, i5⟩ := at_volume h hv
  have : i' = i := by omega
  subst this
  have ra := h.range i2
  have rb := h.range (i := i' - 1) (by omega)
  have dp := dh_pos h i1 i2
  have dq := dv_pos h i1 i2
  have b1 := mul_bd (x := (kn l (i' - 1)).1) (y := dv l i') (by omega) (by omega) (by omega) (by omega)
  have b2 := mul_bd (x := v - (kn l (i' - 1)).2) (y := dh l i') (by omega) (by omega) (by omega) (by omega)
  intro q
  refine ⟨fw_divInt (by omega) (by omega) (by omega), ?_, ?_⟩
  · unfold levLo
    rw [hi, floor_divInt dq.1, shift_floor dq.1]
  · unfold levHi
    rw [hi, ceil_divInt dq.1, shift_ceil dq.1]
theorem rounded_volume {l : List Kn} {x : Int} (h : Valid l) (hx : isL l x) {i : Nat} (hi : atL l x = i) :
    let q := Rat.divInt ((kn l (i - 1)).2 * dh l i + (x - (kn l (i - 1)).1) * dv l i) (dh l i)
    Fw 4 q ∧ q.floor = volLo l x ∧ q.ceil = volHi l x := by
  obtain ⟨i', hi', i1, i2, i3, i4, i5⟩ := at_level h hx
  have : i' = i := by omega
  subst this
  have ra := h.range i2
  have rb := h.range (i := i' - 1) (by omega)
  have dp := dh_pos h i1 i2
  have dq := dv_pos h i1 i2
  have b1 := mul_bd (x := (kn l (i' - 1)).2) (y := dh l i') (by omega) (by omega) (by omega) (by omega)
  have b2 := mul_bd (x := x - (kn l (i' - 1)).1) (y := dv l i') (by omega) (by omega) (by omega) (by omega)
  intro q
  refine ⟨fw_divInt (by omega) (by omega) (by omega), ?_, ?_⟩
  · unfold volLo
    rw [hi, floor_divInt dp.1, shift_floor dp.1]
  · unfold volHi
    rw [hi, ceil_divInt dp.1, shift_ceil dp.1]

theorem isL_bd {l : List Kn} (h : Valid l) {x : Int} (hx : isL l x) : 0 ≤ x ∧ x ≤ 1000000 := by
  have z := valid_len h
  have a := h.range (i := 0) z.1
  have b := h.range (i := l.length - 1) (by omega)
  unfold isL Wi bot top at hx
  omega
theorem isV_bd {l : List Kn} (h : Valid l) {x : Int} (hx : isV l x) : 0 ≤ x ∧ x ≤ 1000000000 := by
  have z := valid_len h
  have a := h.range (i := 0) z.1
  have b := h.range (i := l.length - 1) (by omega)
  unfold isV Wi bot top at hx
  omega

theorem r_VolumeAt {l : List Kn} {x : Int} (h : Valid l) (hx : isL l x) : Contract Try.prog 42 [tabI l, .int .i64 x] (.agg [.int .i64 (volLo l x), .int .i64 (volHi l x)]) := by
  obtain ⟨i, hi, i1, i2, i3, i4, i5⟩ := at_level h hx
  have hr := rounded_volume h hx hi
  have hb := volume_isV h hx
  have b1 := isV_bd h hb.1
  have b2 := isV_bd h hb.2.1
  have hc := r_rounded hr.1 (by omega) (by omega)
  rw [hr.2.1, hr.2.2] at hc
  refine contract_run Try.func42 k42 rfl ?_
  simp only [body42, b42, res42, knI, tabI, pieceI, pairI, lpI, stI, flI, rdI, rnI, getD_kn, ↓reduceIte, reduceCtorEq, Nat.reduceEqDiff, Nat.reduceAdd, Nat.reduceMul, Nat.reduceSub, Nat.reduceLeDiff, Nat.reduceBEq, Int.reduceToNat, Int.reduceLE, Int.reduceLT, Int.reduceEq, Int.reduceNe, di0, di1, di2, di3, di4, di5, di6, di7, di8, di9, postX_ret, postX_normal, ex_some]
  refine calls_of (r_volume h hx hi) ?_; simp only [knI, tabI, pieceI, pairI, lpI, stI, flI, rdI, rnI, getD_kn, res42, ↓reduceIte, reduceCtorEq, Nat.reduceEqDiff, Nat.reduceAdd, Nat.reduceMul, Nat.reduceSub, Nat.reduceLeDiff, Nat.reduceBEq, Int.reduceToNat, Int.reduceLE, Int.reduceLT, Int.reduceEq, Int.reduceNe, di0, di1, di2, di3, di4, di5, di6, di7, di8, di9, postX_ret, postX_normal, ex_some]
  refine calls_of hc ?_; simp only [knI, tabI, pieceI, pairI, lpI, stI, flI, rdI, rnI, getD_kn, res42, ↓reduceIte, reduceCtorEq, Nat.reduceEqDiff, Nat.reduceAdd, Nat.reduceMul, Nat.reduceSub, Nat.reduceLeDiff, Nat.reduceBEq, Int.reduceToNat, Int.reduceLE, Int.reduceLT, Int.reduceEq, Int.reduceNe, di0, di1, di2, di3, di4, di5, di6, di7, di8, di9, postX_ret, postX_normal, ex_some]
theorem r_LevelAt {l : List Kn} {v : Int} (h : Valid l) (hv : isV l v) : Contract Try.prog 44 [tabI l, .int .i64 v] (.agg [.int .i64 (levLo l v), .int .i64 (levHi l v)]) := by
  obtain ⟨i, hi, i1, i2, i3, i4, i5⟩ := at_volume h hv
  have hr := rounded_level h hv hi
  have hb := level_isL h hv
  have b1 := isL_bd h hb.1
  have b2 := isL_bd h hb.2.1
  have hc := r_rounded hr.1 (by omega) (by omega)
  rw [hr.2.1, hr.2.2] at hc
  refine contract_run Try.func44 k44 rfl ?_
  simp only [body44, b44, res44, knI, tabI, pieceI, pairI, lpI, stI, flI, rdI, rnI, getD_kn, ↓reduceIte, reduceCtorEq, Nat.reduceEqDiff, Nat.reduceAdd, Nat.reduceMul, Nat.reduceSub, Nat.reduceLeDiff, Nat.reduceBEq, Int.reduceToNat, Int.reduceLE, Int.reduceLT, Int.reduceEq, Int.reduceNe, di0, di1, di2, di3, di4, di5, di6, di7, di8, di9, postX_ret, postX_normal, ex_some]
  refine calls_of (r_Level h hv hi) ?_; simp only [knI, tabI, pieceI, pairI, lpI, stI, flI, rdI, rnI, getD_kn, res44, ↓reduceIte, reduceCtorEq, Nat.reduceEqDiff, Nat.reduceAdd, Nat.reduceMul, Nat.reduceSub, Nat.reduceLeDiff, Nat.reduceBEq, Int.reduceToNat, Int.reduceLE, Int.reduceLT, Int.reduceEq, Int.reduceNe, di0, di1, di2, di3, di4, di5, di6, di7, di8, di9, postX_ret, postX_normal, ex_some]
  refine calls_of hc ?_; simp only [knI, tabI, pieceI, pairI, lpI, stI, flI, rdI, rnI, getD_kn, res44, ↓reduceIte, reduceCtorEq, Nat.reduceEqDiff, Nat.reduceAdd, Nat.reduceMul, Nat.reduceSub, Nat.reduceLeDiff, Nat.reduceBEq, Int.reduceToNat, Int.reduceLE, Int.reduceLT, Int.reduceEq, Int.reduceNe, di0, di1, di2, di3, di4, di5, di6, di7, di8, di9, postX_ret, postX_normal, ex_some]

theorem r_AreaAt {l : List Kn} {v : Int} (h : Valid l) (hv : isV l v) : Contract Try.prog 45 [tabI l, .int .i64 v] (areaI (dv l (atV l v)) (dh l (atV l v))) := by
  obtain ⟨i, hi, i1, i2, i3, i4, i5⟩ := at_volume h hv
  have hl := valid_len h
  have ra := h.range i2
  have rb := h.range (i := i - 1) (by omega)
  have dp := dh_pos h i1 i2
  have dq := dv_pos h i1 i2
  have e : IntKind.wrap .i64 ((i : Int) - 1) = ((i - 1 : Nat) : Int) := by rw [wrap64 (by omega) (by omega)]; omega
  have hab := r_above h hv.2
  have e1 : (kn l i).2 - (kn l (i - 1)).2 = dv l i := rfl
  have e2 : (kn l i).1 - (kn l (i - 1)).1 = dh l i := rfl
  rw [hi] at hab ⊢
  unfold areaI
  refine contract_run Try.func45 k45 rfl ?_
  simp only [body45, b45, res45, knI, tabI, pieceI, pairI, lpI, stI, flI, rdI, rnI, getD_kn, ↓reduceIte, reduceCtorEq, Nat.reduceEqDiff, Nat.reduceAdd, Nat.reduceMul, Nat.reduceSub, Nat.reduceLeDiff, Nat.reduceBEq, Int.reduceToNat, Int.reduceLE, Int.reduceLT, Int.reduceEq, Int.reduceNe, di0, di1, di2, di3, di4, di5, di6, di7, di8, di9, postX_ret, postX_normal, ex_some]
  refine calls_of hab ?_; simp only [knI, tabI, pieceI, pairI, lpI, stI, flI, rdI, rnI, getD_kn, res45, ↓reduceIte, reduceCtorEq, Nat.reduceEqDiff, Nat.reduceAdd, Nat.reduceMul, Nat.reduceSub, Nat.reduceLeDiff, Nat.reduceBEq, Int.reduceToNat, Int.reduceLE, Int.reduceLT, Int.reduceEq, Int.reduceNe, di0, di1, di2, di3, di4, di5, di6, di7, di8, di9, postX_ret, postX_normal, ex_some]
  simp only [e, knI, tabI, pieceI, pairI, lpI, stI, flI, rdI, rnI, getD_kn, ↓reduceIte, reduceCtorEq, Nat.reduceEqDiff, Nat.reduceAdd, Nat.reduceMul, Nat.reduceSub, Nat.reduceLeDiff, Nat.reduceBEq, Int.reduceToNat, Int.reduceLE, Int.reduceLT, Int.reduceEq, Int.reduceNe, di0, di1, di2, di3, di4, di5, di6, di7, di8, di9, postX_ret, postX_normal, ex_some]
  repeat (refine And.intro (by omega) ?_)
  rw [wrap64 (n := (kn l i).2 - (kn l (i - 1)).2) (by omega) (by omega), wrap64 (n := (kn l i).1 - (kn l (i - 1)).1) (by omega) (by omega), e1, e2]
  refine calls_of (c_Lowest (by omega) (by omega) dp.1 (by omega)) ?_; simp only [knI, tabI, pieceI, pairI, lpI, stI, flI, rdI, rnI, getD_kn, res45, ↓reduceIte, reduceCtorEq, Nat.reduceEqDiff, Nat.reduceAdd, Nat.reduceMul, Nat.reduceSub, Nat.reduceLeDiff, Nat.reduceBEq, Int.reduceToNat, Int.reduceLE, Int.reduceLT, Int.reduceEq, Int.reduceNe, di0, di1, di2, di3, di4, di5, di6, di7, di8, di9, postX_ret, postX_normal, ex_some]

theorem r_evaporated {l : List Kn} {v rate : Int} (h : Valid l) (hv : isV l v) (hr : Wi rate 0 1000) : Contract Try.prog 71 [tabI l, .int .i64 rate, .int .i64 v] (.int .i64 (evap l rate v)) := by
  obtain ⟨i, hi, i1, i2, i3, i4, i5⟩ := at_volume h hv
  have hl := valid_len h
  have ra := h.range i2
  have rb := h.range (i := i - 1) (by omega)
  have rz := h.range (i := 0) (by omega)
  have dp := dh_pos h i1 i2
  have dq := dv_pos h i1 i2
  have hab := r_above h hv.2
  rw [hi] at hab
  have hm := mul_bd (x := rate) (y := dv l i) (by unfold Wi at hr; omega) (by unfold Wi at hr; omega) (by omega) (by omega)
  have hm0 : 0 ≤ rate * dv l i := Int.mul_nonneg hr.1 (by omega)
  have hq := ediv_bd (n := rate * dv l i) (d := 1000 * dh l i) (by omega) (by omega) (by omega)
  have hbv := hv.1
  have cu : (bot l).2 = (kn l 0).2 := rfl
  unfold Wi at hr
  have f1 : Fw 2 ((rate : Int) : Rat) := fw_int (by omega) (by omega)
  have f2 : Fw 2 (((1000 : Int)) : Rat) := fw_int (by decide) (by omega)
  have f3 : Fw 3 (Rat.divInt (rate * dv l i) (dh l i)) := fw_divInt (by omega) (by omega) (by omega)
  have f4 : Fw 4 (Rat.divInt (rate * dv l i) (dh l i * 1000)) := fw_divInt (by omega) (by omega) (by omega)
  have fl : (Rat.divInt (rate * dv l i) (dh l i * 1000)).floor = rate * dv l i / (1000 * dh l i) := by rw [floor_divInt (by omega), Int.mul_comm 1000]
  have hce : (Rat.divInt (rate * dv l i) (dh l i * 1000)).ceil.natAbs < 1000000000000000000 := by
    rw [ceil_divInt (by omega), cdiv_eq (by omega)]
    have hm3 := mul_bd (x := rate) (y := dv l i) (by omega) (by omega) (by omega) (by omega)
    have hlt : rate * dv l i ≤ 1000 * 1000000000 := Int.mul_le_mul (by omega) (by omega) (by omega) (by omega)
    have h5 := Int.ediv_le_self (a := rate * dv l i) (dh l i * 1000) hm0
    have h6 := Int.ediv_nonneg hm0 (show 0 ≤ dh l i * 1000 by omega)
    have h7 := Int.emod_nonneg (rate * dv l i) (show dh l i * 1000 ≠ 0 by omega)
    omega
  have hfl : (Rat.divInt (rate * dv l i) (dh l i * 1000)).floor.natAbs < 1000000000000000000 := by
    rw [floor_divInt (by omega)]
    have hlt : rate * dv l i ≤ 1000 * 1000000000 := Int.mul_le_mul (by omega) (by omega) (by omega) (by omega)
    have h5 := Int.ediv_le_self (a := rate * dv l i) (dh l i * 1000) hm0
    have h6 := Int.ediv_nonneg hm0 (show 0 ≤ dh l i * 1000 by omega)
    omega
  have hc := r_rounded f4 hfl hce
  rw [fl] at hc
  refine contract_run Try.func71 k71 rfl ?_
  simp only [body71, b71, res71, knI, tabI, pieceI, pairI, lpI, stI, flI, rdI, rnI, getD_kn, ↓reduceIte, reduceCtorEq, Nat.reduceEqDiff, Nat.reduceAdd, Nat.reduceMul, Nat.reduceSub, Nat.reduceLeDiff, Nat.reduceBEq, Int.reduceToNat, Int.reduceLE, Int.reduceLT, Int.reduceEq, Int.reduceNe, di0, di1, di2, di3, di4, di5, di6, di7, di8, di9, postX_ret, postX_normal, ex_some]
  refine calls_of hab ?_; simp only [knI, tabI, pieceI, pairI, lpI, stI, flI, rdI, rnI, getD_kn, res71, ↓reduceIte, reduceCtorEq, Nat.reduceEqDiff, Nat.reduceAdd, Nat.reduceMul, Nat.reduceSub, Nat.reduceLeDiff, Nat.reduceBEq, Int.reduceToNat, Int.reduceLE, Int.reduceLT, Int.reduceEq, Int.reduceNe, di0, di1, di2, di3, di4, di5, di6, di7, di8, di9, postX_ret, postX_normal, ex_some]
  refine calls_of (c_RatioInt (by omega) (by omega)) ?_; simp only [knI, tabI, pieceI, pairI, lpI, stI, flI, rdI, rnI, getD_kn, res71, ↓reduceIte, reduceCtorEq, Nat.reduceEqDiff, Nat.reduceAdd, Nat.reduceMul, Nat.reduceSub, Nat.reduceLeDiff, Nat.reduceBEq, Int.reduceToNat, Int.reduceLE, Int.reduceLT, Int.reduceEq, Int.reduceNe, di0, di1, di2, di3, di4, di5, di6, di7, di8, di9, postX_ret, postX_normal, ex_some]
  refine calls_of (r_piece i1 i2 hl.2 (kb_valid h i2) (kb_valid h (by omega)) (by omega)) ?_; simp only [knI, tabI, pieceI, pairI, lpI, stI, flI, rdI, rnI, getD_kn, res71, ↓reduceIte, reduceCtorEq, Nat.reduceEqDiff, Nat.reduceAdd, Nat.reduceMul, Nat.reduceSub, Nat.reduceLeDiff, Nat.reduceBEq, Int.reduceToNat, Int.reduceLE, Int.reduceLT, Int.reduceEq, Int.reduceNe, di0, di1, di2, di3, di4, di5, di6, di7, di8, di9, postX_ret, postX_normal, ex_some]
  refine calls_of (c_RatioMul f1 (fw_piece (kb_valid h i2) (kb_valid h (by omega)) (by omega)) (by omega)) ?_
  rw [int_mul]
  simp only [res71, knI, tabI, pieceI, pairI, lpI, stI, flI, rdI, rnI, getD_kn, ↓reduceIte, reduceCtorEq, Nat.reduceEqDiff, Nat.reduceAdd, Nat.reduceMul, Nat.reduceSub, Nat.reduceLeDiff, Nat.reduceBEq, Int.reduceToNat, Int.reduceLE, Int.reduceLT, Int.reduceEq, Int.reduceNe, di0, di1, di2, di3, di4, di5, di6, di7, di8, di9, postX_ret, postX_normal, ex_some]
  refine calls_of (c_RatioInt (by omega) (by omega)) ?_; simp only [knI, tabI, pieceI, pairI, lpI, stI, flI, rdI, rnI, getD_kn, res71, ↓reduceIte, reduceCtorEq, Nat.reduceEqDiff, Nat.reduceAdd, Nat.reduceMul, Nat.reduceSub, Nat.reduceLeDiff, Nat.reduceBEq, Int.reduceToNat, Int.reduceLE, Int.reduceLT, Int.reduceEq, Int.reduceNe, di0, di1, di2, di3, di4, di5, di6, di7, di8, di9, postX_ret, postX_normal, ex_some]
  have hne : ((1000 : Int) : Rat) ≠ 0 := by decide
  refine calls_of (c_RatioDiv f3 f2 (by omega) hne) ?_
  rw [div_int]
  simp only [res71, knI, tabI, pieceI, pairI, lpI, stI, flI, rdI, rnI, getD_kn, ↓reduceIte, reduceCtorEq, Nat.reduceEqDiff, Nat.reduceAdd, Nat.reduceMul, Nat.reduceSub, Nat.reduceLeDiff, Nat.reduceBEq, Int.reduceToNat, Int.reduceLE, Int.reduceLT, Int.reduceEq, Int.reduceNe, di0, di1, di2, di3, di4, di5, di6, di7, di8, di9, postX_ret, postX_normal, ex_some]
  refine calls_of hc ?_; simp only [knI, tabI, pieceI, pairI, lpI, stI, flI, rdI, rnI, getD_kn, res71, ↓reduceIte, reduceCtorEq, Nat.reduceEqDiff, Nat.reduceAdd, Nat.reduceMul, Nat.reduceSub, Nat.reduceLeDiff, Nat.reduceBEq, Int.reduceToNat, Int.reduceLE, Int.reduceLT, Int.reduceEq, Int.reduceNe, di0, di1, di2, di3, di4, di5, di6, di7, di8, di9, postX_ret, postX_normal, ex_some]
  refine calls_of (r_Bottom hl.1) ?_; simp only [knI, tabI, pieceI, pairI, lpI, stI, flI, rdI, rnI, getD_kn, res71, ↓reduceIte, reduceCtorEq, Nat.reduceEqDiff, Nat.reduceAdd, Nat.reduceMul, Nat.reduceSub, Nat.reduceLeDiff, Nat.reduceBEq, Int.reduceToNat, Int.reduceLE, Int.reduceLT, Int.reduceEq, Int.reduceNe, di0, di1, di2, di3, di4, di5, di6, di7, di8, di9, postX_ret, postX_normal, ex_some]
  unfold evap
  rw [hi, wrap64 (n := v - (bot l).2) (by omega) (by omega)]
end Go.DI

/- Contracts: the reference's pairs, steps and runs; copies. No condition. -/
set_option linter.unusedSimpArgs false
namespace Go.DI
open Go.Proofs Go.RowKit Lk

theorem r_PairErr {p : Pair} (h : Sm p) : Contract Try.prog 20 [lpI p] (.int .i64 (pairErr p)) := by
  unfold pairErr
  refine contract_run Try.func20 k20 rfl ?_
  simp only [body20, b20, res20, b20k0, b20k1, b20k2, knI, tabI, pieceI, pairI, lpI, stI, flI, rdI, rnI, getD_kn, ↓reduceIte, reduceCtorEq, Nat.reduceEqDiff, Nat.reduceAdd, Nat.reduceMul, Nat.reduceSub, Nat.reduceLeDiff, Nat.reduceBEq, Int.reduceToNat, Int.reduceLE, Int.reduceLT, Int.reduceEq, Int.reduceNe, di0, di1, di2, di3, di4, di5, di6, di7, di8, di9, postX_ret, postX_normal, ex_some]
  repeat (refine And.intro (by omega) ?_)
  refine calls_of (r_TableErr h.u) ?_; simp only [knI, tabI, pieceI, pairI, lpI, stI, flI, rdI, rnI, getD_kn, res20, b20k0, b20k1, b20k2, ↓reduceIte, reduceCtorEq, Nat.reduceEqDiff, Nat.reduceAdd, Nat.reduceMul, Nat.reduceSub, Nat.reduceLeDiff, Nat.reduceBEq, Int.reduceToNat, Int.reduceLE, Int.reduceLT, Int.reduceEq, Int.reduceNe, di0, di1, di2, di3, di4, di5, di6, di7, di8, di9, postX_ret, postX_normal, ex_some]
  split
  · rename_i h1
    repeat (refine And.intro (by omega) ?_)
    refine calls_of (r_TableErr h.l) ?_; simp only [knI, tabI, pieceI, pairI, lpI, stI, flI, rdI, rnI, getD_kn, res20, b20k0, b20k1, b20k2, ↓reduceIte, reduceCtorEq, Nat.reduceEqDiff, Nat.reduceAdd, Nat.reduceMul, Nat.reduceSub, Nat.reduceLeDiff, Nat.reduceBEq, Int.reduceToNat, Int.reduceLE, Int.reduceLT, Int.reduceEq, Int.reduceNe, di0, di1, di2, di3, di4, di5, di6, di7, di8, di9, postX_ret, postX_normal, ex_some]
    split
    · rename_i h2
      refine calls_of c_Within ?_; simp only [knI, tabI, pieceI, pairI, lpI, stI, flI, rdI, rnI, getD_kn, res20, b20k0, b20k1, b20k2, ↓reduceIte, reduceCtorEq, Nat.reduceEqDiff, Nat.reduceAdd, Nat.reduceMul, Nat.reduceSub, Nat.reduceLeDiff, Nat.reduceBEq, Int.reduceToNat, Int.reduceLE, Int.reduceLT, Int.reduceEq, Int.reduceNe, di0, di1, di2, di3, di4, di5, di6, di7, di8, di9, postX_ret, postX_normal, ex_some]
      split
      · rename_i h3; rw [if_pos (show Wi p.rate 0 1000 from h3)]
      · rename_i h3; rw [if_neg (show ¬ Wi p.rate 0 1000 from h3)]
    · rename_i h2
      rfl
  · rename_i h1
    rfl

theorem r_StateErr {p : Pair} {s : Sta} (h : VPair p) : Contract Try.prog 58 [lpI p, stI s] (.int .i64 (if stOk p s then 0 else 2)) := by
  have hu := valid_len h.u
  have hl := valid_len h.l
  refine contract_run Try.func58 k58 rfl ?_
  simp only [body58, b58, res58, b58k0, knI, tabI, pieceI, pairI, lpI, stI, flI, rdI, rnI, getD_kn, ↓reduceIte, reduceCtorEq, Nat.reduceEqDiff, Nat.reduceAdd, Nat.reduceMul, Nat.reduceSub, Nat.reduceLeDiff, Nat.reduceBEq, Int.reduceToNat, Int.reduceLE, Int.reduceLT, Int.reduceEq, Int.reduceNe, di0, di1, di2, di3, di4, di5, di6, di7, di8, di9, postX_ret, postX_normal, ex_some]
  repeat (refine And.intro (by omega) ?_)
  refine calls_of (r_IsVolume hu.1 hu.2) ?_; simp only [knI, tabI, pieceI, pairI, lpI, stI, flI, rdI, rnI, getD_kn, res58, b58k0, ↓reduceIte, reduceCtorEq, Nat.reduceEqDiff, Nat.reduceAdd, Nat.reduceMul, Nat.reduceSub, Nat.reduceLeDiff, Nat.reduceBEq, Int.reduceToNat, Int.reduceLE, Int.reduceLT, Int.reduceEq, Int.reduceNe, di0, di1, di2, di3, di4, di5, di6, di7, di8, di9, postX_ret, postX_normal, ex_some]
  split
  · rename_i h1
    repeat (refine And.intro (by omega) ?_)
    refine calls_of (r_IsVolume hl.1 hl.2) ?_; simp only [knI, tabI, pieceI, pairI, lpI, stI, flI, rdI, rnI, getD_kn, res58, b58k0, ↓reduceIte, reduceCtorEq, Nat.reduceEqDiff, Nat.reduceAdd, Nat.reduceMul, Nat.reduceSub, Nat.reduceLeDiff, Nat.reduceBEq, Int.reduceToNat, Int.reduceLE, Int.reduceLT, Int.reduceEq, Int.reduceNe, di0, di1, di2, di3, di4, di5, di6, di7, di8, di9, postX_ret, postX_normal, ex_some]
    split
    · rename_i h2; rw [if_pos (show stOk p s from ⟨h1, h2⟩)]
    · rename_i h2; rw [if_neg (show ¬ stOk p s from fun k => h2 k.2)]
  · rename_i h1
    rw [if_neg (show ¬ stOk p s from fun k => h1 k.1)]

theorem r_BothErr {p : Pair} {s : Sta} (h : Sm p) : Contract Try.prog 14 [lpI p, stI s] (.int .i64 (bothErr p s)) := by
  unfold bothErr
  refine contract_run Try.func14 k14 rfl ?_
  simp only [body14, b14, res14, b14k0, knI, tabI, pieceI, pairI, lpI, stI, flI, rdI, rnI, getD_kn, ↓reduceIte, reduceCtorEq, Nat.reduceEqDiff, Nat.reduceAdd, Nat.reduceMul, Nat.reduceSub, Nat.reduceLeDiff, Nat.reduceBEq, Int.reduceToNat, Int.reduceLE, Int.reduceLT, Int.reduceEq, Int.reduceNe, di0, di1, di2, di3, di4, di5, di6, di7, di8, di9, postX_ret, postX_normal, ex_some]
  refine calls_of (r_PairErr h) ?_; simp only [knI, tabI, pieceI, pairI, lpI, stI, flI, rdI, rnI, getD_kn, res14, b14k0, ↓reduceIte, reduceCtorEq, Nat.reduceEqDiff, Nat.reduceAdd, Nat.reduceMul, Nat.reduceSub, Nat.reduceLeDiff, Nat.reduceBEq, Int.reduceToNat, Int.reduceLE, Int.reduceLT, Int.reduceEq, Int.reduceNe, di0, di1, di2, di3, di4, di5, di6, di7, di8, di9, postX_ret, postX_normal, ex_some]
  split
  · rename_i h1
    refine calls_of (r_StateErr (pairErr_ok.1 h1)) ?_; simp only [knI, tabI, pieceI, pairI, lpI, stI, flI, rdI, rnI, getD_kn, res14, b14k0, ↓reduceIte, reduceCtorEq, Nat.reduceEqDiff, Nat.reduceAdd, Nat.reduceMul, Nat.reduceSub, Nat.reduceLeDiff, Nat.reduceBEq, Int.reduceToNat, Int.reduceLE, Int.reduceLT, Int.reduceEq, Int.reduceNe, di0, di1, di2, di3, di4, di5, di6, di7, di8, di9, postX_ret, postX_normal, ex_some]
  · rename_i h1
    rfl

theorem r_FlowsErr {x : Flow} : Contract Try.prog 23 [flI x] (.int .i64 (flowErr x)) := by
  unfold flowErr
  refine contract_run Try.func23 k23 rfl ?_
  simp only [body23, b23, res23, b23k0, knI, tabI, pieceI, pairI, lpI, stI, flI, rdI, rnI, getD_kn, ↓reduceIte, reduceCtorEq, Nat.reduceEqDiff, Nat.reduceAdd, Nat.reduceMul, Nat.reduceSub, Nat.reduceLeDiff, Nat.reduceBEq, Int.reduceToNat, Int.reduceLE, Int.reduceLT, Int.reduceEq, Int.reduceNe, di0, di1, di2, di3, di4, di5, di6, di7, di8, di9, postX_ret, postX_normal, ex_some]
  refine calls_of c_Within ?_; simp only [knI, tabI, pieceI, pairI, lpI, stI, flI, rdI, rnI, getD_kn, res23, b23k0, ↓reduceIte, reduceCtorEq, Nat.reduceEqDiff, Nat.reduceAdd, Nat.reduceMul, Nat.reduceSub, Nat.reduceLeDiff, Nat.reduceBEq, Int.reduceToNat, Int.reduceLE, Int.reduceLT, Int.reduceEq, Int.reduceNe, di0, di1, di2, di3, di4, di5, di6, di7, di8, di9, postX_ret, postX_normal, ex_some]
  split
  · rename_i h1
    refine calls_of c_Within ?_; simp only [knI, tabI, pieceI, pairI, lpI, stI, flI, rdI, rnI, getD_kn, res23, b23k0, ↓reduceIte, reduceCtorEq, Nat.reduceEqDiff, Nat.reduceAdd, Nat.reduceMul, Nat.reduceSub, Nat.reduceLeDiff, Nat.reduceBEq, Int.reduceToNat, Int.reduceLE, Int.reduceLT, Int.reduceEq, Int.reduceNe, di0, di1, di2, di3, di4, di5, di6, di7, di8, di9, postX_ret, postX_normal, ex_some]
    split
    · rename_i h2
      refine calls_of c_Within ?_; simp only [knI, tabI, pieceI, pairI, lpI, stI, flI, rdI, rnI, getD_kn, res23, b23k0, ↓reduceIte, reduceCtorEq, Nat.reduceEqDiff, Nat.reduceAdd, Nat.reduceMul, Nat.reduceSub, Nat.reduceLeDiff, Nat.reduceBEq, Int.reduceToNat, Int.reduceLE, Int.reduceLT, Int.reduceEq, Int.reduceNe, di0, di1, di2, di3, di4, di5, di6, di7, di8, di9, postX_ret, postX_normal, ex_some]
      split
      · rename_i h3; rw [if_pos (show flowOk x from ⟨h1, h2, h3⟩)]
      · rename_i h3; rw [if_neg (show ¬ flowOk x from fun k => h3 k.2.2)]
    · rename_i h2
      rw [if_neg (show ¬ flowOk x from fun k => h2 k.2.1)]
  · rename_i h1
    rw [if_neg (show ¬ flowOk x from fun k => h1 k.1)]

theorem r_ListErr {l : List Flow} (hl : l.length ≤ 1000000000000) : Contract Try.prog 55 [.slc 3 (l.map flI)] (.int .i64 (listErr l)) := by
  unfold listErr
  refine contract_run Try.func55 k55 rfl ?_
  simp only [body55, b55, res55, b55k0, b55k1, b55k2, b55k3, ↓reduceIte, reduceCtorEq, Nat.reduceEqDiff, Nat.reduceAdd, Nat.reduceMul, Nat.reduceSub, Nat.reduceLeDiff, Nat.reduceBEq, Int.reduceToNat, Int.reduceLE, Int.reduceLT, Int.reduceEq, Int.reduceNe, di0, di1, di2, di3, di4, di5, di6, di7, di8, di9, postX_ret, postX_normal, ex_some]
  split
  · rename_i h
    rw [if_pos (by omega)]
  · rename_i h
    rw [if_neg (by omega)]
    refine loop_keep (α := Nat) rfl (fun i => l.length - i) (fun i => i ≤ l.length ∧ (firstE (fun i => flowErr (l.getD i default)) (l.length - i) i).2 = (firstE (fun i => flowErr (l.getD i default)) l.length 0).2)
      (fun i => [(0, .imm (.slc 3 (l.map flI))), (3, .imm (.int .i64 i))]) (fun _ => []) 0 ⟨Nat.zero_le _, rfl⟩ (by simp only [↓reduceIte, reduceCtorEq, Nat.reduceEqDiff, Nat.reduceAdd, Nat.reduceMul, Nat.reduceSub, Nat.reduceLeDiff, Nat.reduceBEq, Int.reduceToNat, Int.reduceLE, Int.reduceLT, Int.reduceEq, Int.reduceNe, di0, di1, di2, di3, di4, di5, di6, di7, di8, di9, postX_ret, postX_normal, ex_some] <;> rfl) ?_
    intro i ⟨hi, he⟩ ih
    simp only [res55, b55k0, b55k1, b55k2, b55k3, knI, tabI, pieceI, pairI, lpI, stI, flI, rdI, rnI, getD_kn, ↓reduceIte, reduceCtorEq, Nat.reduceEqDiff, Nat.reduceAdd, Nat.reduceMul, Nat.reduceSub, Nat.reduceLeDiff, Nat.reduceBEq, Int.reduceToNat, Int.reduceLE, Int.reduceLT, Int.reduceEq, Int.reduceNe, di0, di1, di2, di3, di4, di5, di6, di7, di8, di9, postX_ret, postX_normal, ex_some]
    split
    · rename_i h1
      rw [show l.length - i = (l.length - (i + 1)) + 1 by omega, firstE_succ] at he
      repeat (refine And.intro (by omega) ?_)
      have hc := r_FlowsErr (x := l.getD i default)
      refine calls_of hc ?_; simp only [knI, tabI, pieceI, pairI, lpI, stI, flI, rdI, rnI, getD_kn, res55, b55k0, b55k1, b55k2, b55k3, ↓reduceIte, reduceCtorEq, Nat.reduceEqDiff, Nat.reduceAdd, Nat.reduceMul, Nat.reduceSub, Nat.reduceLeDiff, Nat.reduceBEq, Int.reduceToNat, Int.reduceLE, Int.reduceLT, Int.reduceEq, Int.reduceNe, di0, di1, di2, di3, di4, di5, di6, di7, di8, di9, postX_ret, postX_normal, ex_some]
      split
      · rename_i h2
        rw [if_pos h2] at he
        rw [wrap64 (by omega) (by omega)]
        exact ih (i + 1) _ _ (by omega) ⟨by omega, he⟩ (by simp only [↓reduceIte, reduceCtorEq, Nat.reduceEqDiff, Nat.reduceAdd, Nat.reduceMul, Nat.reduceSub, Nat.reduceLeDiff, Nat.reduceBEq, Int.reduceToNat, Int.reduceLE, Int.reduceLT, Int.reduceEq, Int.reduceNe, di0, di1, di2, di3, di4, di5, di6, di7, di8, di9, postX_ret, postX_normal, ex_some] <;> rfl)
      · rename_i h2
        rw [if_neg h2] at he
        rw [← he]
    · rename_i h1
      rw [show l.length - i = 0 by omega] at he
      rw [← he]
      rfl

def usable (p : Pair) (s : Sta) : Sta := (min (s.1 - (bot p.u).2) ((top p.l).2 - s.2), min (s.2 - (bot p.l).2) ((top p.u).2 - s.1))

theorem r_Usable {p : Pair} {s : Sta} (h : VPair p) (hs : stOk p s) : Contract Try.prog 22 [lpI p, stI s] (stI (usable p s)) := by
  unfold usable
  have zu := valid_len h.u
  have zl := valid_len h.l
  have bu := h.u.range (i := 0) zu.1
  have bl := h.l.range (i := 0) zl.1
  have tu := h.u.range (i := p.u.length - 1) (by omega)
  have tl := h.l.range (i := p.l.length - 1) (by omega)
  have cu : (bot p.u).2 = (kn p.u 0).2 := rfl
  have cl : (bot p.l).2 = (kn p.l 0).2 := rfl
  have du : (top p.u).2 = (kn p.u (p.u.length - 1)).2 := rfl
  have dl : (top p.l).2 = (kn p.l (p.l.length - 1)).2 := rfl
  obtain ⟨⟨vu1, vu2⟩, ⟨vl1, vl2⟩⟩ := hs
  refine contract_run Try.func22 k22 rfl ?_
  simp only [body22, b22, res22, knI, tabI, pieceI, pairI, lpI, stI, flI, rdI, rnI, getD_kn, ↓reduceIte, reduceCtorEq, Nat.reduceEqDiff, Nat.reduceAdd, Nat.reduceMul, Nat.reduceSub, Nat.reduceLeDiff, Nat.reduceBEq, Int.reduceToNat, Int.reduceLE, Int.reduceLT, Int.reduceEq, Int.reduceNe, di0, di1, di2, di3, di4, di5, di6, di7, di8, di9, postX_ret, postX_normal, ex_some]
  repeat (refine And.intro (by omega) ?_)
  refine calls_of (r_Top zu.1 zu.2) ?_; simp only [knI, tabI, pieceI, pairI, lpI, stI, flI, rdI, rnI, getD_kn, res22, ↓reduceIte, reduceCtorEq, Nat.reduceEqDiff, Nat.reduceAdd, Nat.reduceMul, Nat.reduceSub, Nat.reduceLeDiff, Nat.reduceBEq, Int.reduceToNat, Int.reduceLE, Int.reduceLT, Int.reduceEq, Int.reduceNe, di0, di1, di2, di3, di4, di5, di6, di7, di8, di9, postX_ret, postX_normal, ex_some]
  repeat (refine And.intro (by omega) ?_)
  refine calls_of (r_Top zl.1 zl.2) ?_; simp only [knI, tabI, pieceI, pairI, lpI, stI, flI, rdI, rnI, getD_kn, res22, ↓reduceIte, reduceCtorEq, Nat.reduceEqDiff, Nat.reduceAdd, Nat.reduceMul, Nat.reduceSub, Nat.reduceLeDiff, Nat.reduceBEq, Int.reduceToNat, Int.reduceLE, Int.reduceLT, Int.reduceEq, Int.reduceNe, di0, di1, di2, di3, di4, di5, di6, di7, di8, di9, postX_ret, postX_normal, ex_some]
  repeat (refine And.intro (by omega) ?_)
  refine calls_of (r_Bottom zu.1) ?_; simp only [knI, tabI, pieceI, pairI, lpI, stI, flI, rdI, rnI, getD_kn, res22, ↓reduceIte, reduceCtorEq, Nat.reduceEqDiff, Nat.reduceAdd, Nat.reduceMul, Nat.reduceSub, Nat.reduceLeDiff, Nat.reduceBEq, Int.reduceToNat, Int.reduceLE, Int.reduceLT, Int.reduceEq, Int.reduceNe, di0, di1, di2, di3, di4, di5, di6, di7, di8, di9, postX_ret, postX_normal, ex_some]
  repeat (refine And.intro (by omega) ?_)
  refine calls_of (r_Bottom zl.1) ?_; simp only [knI, tabI, pieceI, pairI, lpI, stI, flI, rdI, rnI, getD_kn, res22, ↓reduceIte, reduceCtorEq, Nat.reduceEqDiff, Nat.reduceAdd, Nat.reduceMul, Nat.reduceSub, Nat.reduceLeDiff, Nat.reduceBEq, Int.reduceToNat, Int.reduceLE, Int.reduceLT, Int.reduceEq, Int.reduceNe, di0, di1, di2, di3, di4, di5, di6, di7, di8, di9, postX_ret, postX_normal, ex_some]
  rw [wrap64 (n := s.1 - (bot p.u).2) (by omega) (by omega), wrap64 (n := (top p.l).2 - s.2) (by omega) (by omega), wrap64 (n := s.2 - (bot p.l).2) (by omega) (by omega), wrap64 (n := (top p.u).2 - s.1) (by omega) (by omega)]

theorem r_Step {p : Pair} {s : Sta} {x : Flow} (h : VPair p) (hs : stOk p s) (hx : flowOk x) : Contract Try.prog 24 [lpI p, stI s, flI x] (stepI (Lk.step p s x)) := by
  have zu := valid_len h.u
  have zl := valid_len h.l
  have vu := hs.1
  have vl := hs.2
  have eu := evap_in h.u vu h.r.1
  have el := evap_in h.l vl h.r.1
  have pu := r_evaporated h.u vu h.r
  have pl := r_evaporated h.l vl h.r
  have bu := h.u.range (i := 0) zu.1
  have bl := h.l.range (i := 0) zl.1
  have tu := h.u.range (i := p.u.length - 1) (by omega)
  have tl := h.l.range (i := p.l.length - 1) (by omega)
  have cu : (bot p.u).2 = (kn p.u 0).2 := rfl
  have cl : (bot p.l).2 = (kn p.l 0).2 := rfl
  have du : (top p.u).2 = (kn p.u (p.u.length - 1)).2 := rfl
  have dl : (top p.l).2 = (kn p.l (p.l.length - 1)).2 := rfl
  have vu1 := vu.1
  have vu2 := vu.2
  have vl1 := vl.1
  have vl2 := vl.2
  obtain ⟨⟨x1, x2⟩, ⟨x3, x4⟩, ⟨x5, x6⟩⟩ := hx
  have hU := lakeStep_none (l := p.u) (rate := p.rate) (v := s.1) (g := x.up + x.ex)
  have hU' := lakeStep_go (l := p.u) (rate := p.rate) (v := s.1) (g := x.up + x.ex)
  have hL := lakeStep_none (l := p.l) (rate := p.rate) (v := s.2) (g := x.low - x.ex)
  have hL' := lakeStep_go (l := p.l) (rate := p.rate) (v := s.2) (g := x.low - x.ex)
  unfold Lk.step
  generalize evap p.u p.rate s.1 = ea at *
  generalize evap p.l p.rate s.2 = eb at *
  have k1 : IntKind.wrap .i64 (s.1 - ea) = s.1 - ea := wrap64 (by omega) (by omega)
  have k2 : IntKind.wrap .i64 (s.1 - ea + x.up) = s.1 - ea + x.up := wrap64 (by omega) (by omega)
  have k3 : IntKind.wrap .i64 (s.1 - ea + x.up + x.ex) = s.1 - ea + x.up + x.ex := wrap64 (by omega) (by omega)
  have k4 : IntKind.wrap .i64 (s.2 - eb) = s.2 - eb := wrap64 (by omega) (by omega)
  have k5 : IntKind.wrap .i64 (s.2 - eb + x.low) = s.2 - eb + x.low := wrap64 (by omega) (by omega)
  have k6 : IntKind.wrap .i64 (s.2 - eb + x.low - x.ex) = s.2 - eb + x.low - x.ex := wrap64 (by omega) (by omega)
  have k7 : IntKind.wrap .i64 (ea + eb) = ea + eb := wrap64 (by omega) (by omega)
  refine contract_run Try.func24 k24 rfl ?_
  simp only [body24, b24, res24, b24k0, knI, tabI, pieceI, pairI, lpI, stI, flI, rdI, rnI, getD_kn, ↓reduceIte, reduceCtorEq, Nat.reduceEqDiff, Nat.reduceAdd, Nat.reduceMul, Nat.reduceSub, Nat.reduceLeDiff, Nat.reduceBEq, Int.reduceToNat, Int.reduceLE, Int.reduceLT, Int.reduceEq, Int.reduceNe, di0, di1, di2, di3, di4, di5, di6, di7, di8, di9, postX_ret, postX_normal, ex_some]
  repeat (refine And.intro (by omega) ?_)
  refine calls_of pu ?_; simp only [knI, tabI, pieceI, pairI, lpI, stI, flI, rdI, rnI, getD_kn, res24, b24k0, ↓reduceIte, reduceCtorEq, Nat.reduceEqDiff, Nat.reduceAdd, Nat.reduceMul, Nat.reduceSub, Nat.reduceLeDiff, Nat.reduceBEq, Int.reduceToNat, Int.reduceLE, Int.reduceLT, Int.reduceEq, Int.reduceNe, di0, di1, di2, di3, di4, di5, di6, di7, di8, di9, postX_ret, postX_normal, ex_some]
  repeat (refine And.intro (by omega) ?_)
  refine calls_of pl ?_; simp only [knI, tabI, pieceI, pairI, lpI, stI, flI, rdI, rnI, getD_kn, res24, b24k0, ↓reduceIte, reduceCtorEq, Nat.reduceEqDiff, Nat.reduceAdd, Nat.reduceMul, Nat.reduceSub, Nat.reduceLeDiff, Nat.reduceBEq, Int.reduceToNat, Int.reduceLE, Int.reduceLT, Int.reduceEq, Int.reduceNe, di0, di1, di2, di3, di4, di5, di6, di7, di8, di9, postX_ret, postX_normal, ex_some]
  simp only [k1, k2, k3, k4, k5, k6, k7]
  repeat (refine And.intro (by omega) ?_)
  refine calls_of (r_Bottom zu.1) ?_; simp only [knI, tabI, pieceI, pairI, lpI, stI, flI, rdI, rnI, getD_kn, res24, b24k0, ↓reduceIte, reduceCtorEq, Nat.reduceEqDiff, Nat.reduceAdd, Nat.reduceMul, Nat.reduceSub, Nat.reduceLeDiff, Nat.reduceBEq, Int.reduceToNat, Int.reduceLE, Int.reduceLT, Int.reduceEq, Int.reduceNe, di0, di1, di2, di3, di4, di5, di6, di7, di8, di9, postX_ret, postX_normal, ex_some]
  have mU : s.1 - ea + x.up + x.ex = s.1 + (x.up + x.ex) - ea := by omega
  have mL : s.2 - eb + x.low - x.ex = s.2 + (x.low - x.ex) - eb := by omega
  have hrest : ¬ s.1 - ea + x.up + x.ex < (bot p.u).2 → ¬ s.2 - eb + x.low - x.ex < (bot p.l).2 →
      IntKind.wrap .i64 (s.1 - ea + x.up + x.ex - (top p.u).2) = s.1 - ea + x.up + x.ex - (top p.u).2 ∧ IntKind.wrap .i64 (s.2 - eb + x.low - x.ex - (top p.l).2) = s.2 - eb + x.low - x.ex - (top p.l).2 ∧
      IntKind.wrap .i64 (s.1 - ea + x.up + x.ex - max 0 (s.1 - ea + x.up + x.ex - (top p.u).2)) = s.1 - ea + x.up + x.ex - max 0 (s.1 - ea + x.up + x.ex - (top p.u).2) ∧
      IntKind.wrap .i64 (s.2 - eb + x.low - x.ex - max 0 (s.2 - eb + x.low - x.ex - (top p.l).2)) = s.2 - eb + x.low - x.ex - max 0 (s.2 - eb + x.low - x.ex - (top p.l).2) ∧
      IntKind.wrap .i64 (max 0 (s.1 - ea + x.up + x.ex - (top p.u).2) + max 0 (s.2 - eb + x.low - x.ex - (top p.l).2)) = max 0 (s.1 - ea + x.up + x.ex - (top p.u).2) + max 0 (s.2 - eb + x.low - x.ex - (top p.l).2) :=
    fun _ _ => ⟨wrap64 (by omega) (by omega), wrap64 (by omega) (by omega), wrap64 (by omega) (by omega), wrap64 (by omega) (by omega), wrap64 (by omega) (by omega)⟩
  split
  · rename_i h1
    rw [hU (by omega)]
    rfl
  · rename_i h1
    repeat (refine And.intro (by omega) ?_)
    refine calls_of (r_Bottom zl.1) ?_; simp only [knI, tabI, pieceI, pairI, lpI, stI, flI, rdI, rnI, getD_kn, res24, b24k0, ↓reduceIte, reduceCtorEq, Nat.reduceEqDiff, Nat.reduceAdd, Nat.reduceMul, Nat.reduceSub, Nat.reduceLeDiff, Nat.reduceBEq, Int.reduceToNat, Int.reduceLE, Int.reduceLT, Int.reduceEq, Int.reduceNe, di0, di1, di2, di3, di4, di5, di6, di7, di8, di9, postX_ret, postX_normal, ex_some]
    split
    · rename_i h2
      rw [hU' (by omega), hL (by omega)]
      rfl
    · rename_i h2
      obtain ⟨j1, j2, j3, j4, j5⟩ := hrest h1 h2
      rw [hU' (by omega), hL' (by omega)]
      repeat (refine And.intro (by omega) ?_)
      refine calls_of (r_Top zu.1 zu.2) ?_; simp only [knI, tabI, pieceI, pairI, lpI, stI, flI, rdI, rnI, getD_kn, res24, b24k0, ↓reduceIte, reduceCtorEq, Nat.reduceEqDiff, Nat.reduceAdd, Nat.reduceMul, Nat.reduceSub, Nat.reduceLeDiff, Nat.reduceBEq, Int.reduceToNat, Int.reduceLE, Int.reduceLT, Int.reduceEq, Int.reduceNe, di0, di1, di2, di3, di4, di5, di6, di7, di8, di9, postX_ret, postX_normal, ex_some]
      simp only [j1]
      repeat (refine And.intro (by omega) ?_)
      refine calls_of (r_Top zl.1 zl.2) ?_; simp only [knI, tabI, pieceI, pairI, lpI, stI, flI, rdI, rnI, getD_kn, res24, b24k0, ↓reduceIte, reduceCtorEq, Nat.reduceEqDiff, Nat.reduceAdd, Nat.reduceMul, Nat.reduceSub, Nat.reduceLeDiff, Nat.reduceBEq, Int.reduceToNat, Int.reduceLE, Int.reduceLT, Int.reduceEq, Int.reduceNe, di0, di1, di2, di3, di4, di5, di6, di7, di8, di9, postX_ret, postX_normal, ex_some]
      simp only [j2, j3, j4, j5, k7]
      rw [mU, mL]
      rfl

theorem r_RunOf {p : Pair} {s : Sta} {l : List Flow} (h : VPair p) (hs : stOk p s) (hl : l.length ≤ 1000) (hf : ∀ x ∈ l, flowOk x) :
    Contract Try.prog 56 [lpI p, stI s, .slc 3 (l.map flI)] (.tup [.slc 2 ((runP p s l).1.map stI), .agg [.int .i64 (runP p s l).2.1.1, .int .i64 (runP p s l).2.1.2], .bool (runP p s l).2.2]) := by
  refine contract_run Try.func56 k56 rfl ?_
  simp only [body56, b56, res56, b56k0, b56k1, b56k2, b56k3, knI, tabI, pieceI, pairI, lpI, stI, flI, rdI, rnI, getD_kn, ↓reduceIte, reduceCtorEq, Nat.reduceEqDiff, Nat.reduceAdd, Nat.reduceMul, Nat.reduceSub, Nat.reduceLeDiff, Nat.reduceBEq, Int.reduceToNat, Int.reduceLE, Int.reduceLT, Int.reduceEq, Int.reduceNe, di0, di1, di2, di3, di4, di5, di6, di7, di8, di9, postX_ret, postX_normal, ex_some]
  refine loop_keep (α := Nat × Sta × List Sta × Int × Int) rfl (fun x => l.length - x.1)
    (fun x => x.1 ≤ l.length ∧ stOk p x.2.1 ∧ x.2.2.1.length = x.1 ∧ 0 ≤ x.2.2.2.1 ∧ x.2.2.2.1 ≤ 2000000000 * x.1 ∧ 0 ≤ x.2.2.2.2 ∧ x.2.2.2.2 ≤ 2000000000 * x.1 ∧
      runP p s l = (x.2.2.1 ++ (runP p x.2.1 (l.drop x.1)).1, (x.2.2.2.1 + (runP p x.2.1 (l.drop x.1)).2.1.1, x.2.2.2.2 + (runP p x.2.1 (l.drop x.1)).2.1.2), (runP p x.2.1 (l.drop x.1)).2.2))
    (fun x => [(2, .imm (.slc 3 (l.map flI))), (3, .ref 3 0), (4, .ref 4 0), (7, .ref 7 0), (9, .own 9), (10, .ref 10 0), (11, .imm (.int .i64 x.1))])
    (fun x => [(3, .box [.imm (.slc 2 (p.u.map knI)), .imm (.slc 2 (p.l.map knI)), .imm (.int .i64 p.rate)]), (4, .box [.imm (.int .i64 x.2.1.1), .imm (.int .i64 x.2.1.2)]), (7, .box [.imm (.int .i64 0), .imm (.int .i64 0)]),
      (9, .tok 2 (x.2.2.1.map stI)), (10, .box [.imm (.int .i64 x.2.2.2.1), .imm (.int .i64 x.2.2.2.2)])])
    (0, s, [], 0, 0) ⟨Nat.zero_le _, hs, rfl, by dsimp only; omega, by dsimp only; omega, by dsimp only; omega, by dsimp only; omega, by simp⟩ (by simp only [↓reduceIte, reduceCtorEq, Nat.reduceEqDiff, Nat.reduceAdd, Nat.reduceMul, Nat.reduceSub, Nat.reduceLeDiff, Nat.reduceBEq, Int.reduceToNat, Int.reduceLE, Int.reduceLT, Int.reduceEq, Int.reduceNe, di0, di1, di2, di3, di4, di5, di6, di7, di8, di9, postX_ret, postX_normal, ex_some] <;> rfl) ?_
  rintro ⟨i, c, o, E, F⟩ ⟨hi, hc, ho, hE0, hE1, hF0, hF1, hr⟩ ih
  dsimp only at hi hc ho hE0 hE1 hF0 hF1 hr
  simp only [res56, b56k0, b56k1, b56k2, b56k3, knI, tabI, pieceI, pairI, lpI, stI, flI, rdI, rnI, getD_kn, ↓reduceIte, reduceCtorEq, Nat.reduceEqDiff, Nat.reduceAdd, Nat.reduceMul, Nat.reduceSub, Nat.reduceLeDiff, Nat.reduceBEq, Int.reduceToNat, Int.reduceLE, Int.reduceLT, Int.reduceEq, Int.reduceNe, di0, di1, di2, di3, di4, di5, di6, di7, di8, di9, postX_ret, postX_normal, ex_some]
  split
  · rename_i h2
    have hx : flowOk (l.getD i default) := hf _ (by
      rw [List.getD_eq_getElem?_getD]; simp [show i < l.length by omega])
    have hd := fl_getD (l := l) (i := i) (by omega)
    repeat (refine And.intro (by omega) ?_)
    have hst := r_Step h hc hx
    rw [hd] at hr
    cases hss : Lk.step p c (l.getD i default) with
    | none =>
      rw [hss] at hst
      rw [runP_none hss] at hr
      refine calls_of hst ?_
      simp only [stepI, res56, b56k0, b56k1, b56k2, b56k3, knI, tabI, pieceI, pairI, lpI, stI, flI, rdI, rnI, getD_kn, ↓reduceIte, reduceCtorEq, Nat.reduceEqDiff, Nat.reduceAdd, Nat.reduceMul, Nat.reduceSub, Nat.reduceLeDiff, Nat.reduceBEq, Int.reduceToNat, Int.reduceLE, Int.reduceLT, Int.reduceEq, Int.reduceNe, di0, di1, di2, di3, di4, di5, di6, di7, di8, di9, postX_ret, postX_normal, ex_some]
      rw [hr]
      simp only [Int.add_zero, List.append_nil]
    | some r =>
      obtain ⟨t, e, f⟩ := r
      have hs2 := step_some h hc hx hss
      rw [hss] at hst
      rw [runP_some hss] at hr
      refine calls_of hst ?_
      simp only [stepI, res56, b56k0, b56k1, b56k2, b56k3, knI, tabI, pieceI, pairI, lpI, stI, flI, rdI, rnI, getD_kn, ↓reduceIte, reduceCtorEq, Nat.reduceEqDiff, Nat.reduceAdd, Nat.reduceMul, Nat.reduceSub, Nat.reduceLeDiff, Nat.reduceBEq, Int.reduceToNat, Int.reduceLE, Int.reduceLT, Int.reduceEq, Int.reduceNe, di0, di1, di2, di3, di4, di5, di6, di7, di8, di9, postX_ret, postX_normal, ex_some]
      rw [wrap64 (n := E + e) (by omega) (by omega), wrap64 (n := F + f) (by omega) (by omega), wrap64 (n := (i : Int) + 1) (by omega) (by omega)]
      repeat (refine And.intro (by omega) ?_)
      refine ih (i + 1, t, o ++ [t], E + e, F + f) _ _ (by dsimp only; omega) ⟨by dsimp only; omega, hs2.1, by simp [ho], by dsimp only; omega, by dsimp only; omega, by dsimp only; omega, by dsimp only; omega, ?_⟩ (by simp only [st_snoc, knI, tabI, pieceI, pairI, lpI, stI, flI, rdI, rnI, getD_kn, ↓reduceIte, reduceCtorEq, Nat.reduceEqDiff, Nat.reduceAdd, Nat.reduceMul, Nat.reduceSub, Nat.reduceLeDiff, Nat.reduceBEq, Int.reduceToNat, Int.reduceLE, Int.reduceLT, Int.reduceEq, Int.reduceNe, di0, di1, di2, di3, di4, di5, di6, di7, di8, di9, postX_ret, postX_normal, ex_some] <;> rfl)
      rw [hr]
      simp only [List.append_assoc, List.cons_append, List.nil_append, Int.add_assoc]
  · rename_i h2
    rw [List.drop_eq_nil_of_le (by omega)] at hr
    rw [hr]
    simp only [runP, Int.add_zero, List.append_nil]

theorem r_SameStates {a b : List Sta} (ha : a.length ≤ 1000000000000) : Contract Try.prog 57 [.slc 2 (a.map stI), .slc 2 (b.map stI)] (.bool (decide (a = b))) := by
  refine contract_run Try.func57 k57 rfl ?_
  simp only [body57, b57, res57, b57k0, b57k1, b57k2, b57k3, knI, tabI, pieceI, pairI, lpI, stI, flI, rdI, rnI, getD_kn, ↓reduceIte, reduceCtorEq, Nat.reduceEqDiff, Nat.reduceAdd, Nat.reduceMul, Nat.reduceSub, Nat.reduceLeDiff, Nat.reduceBEq, Int.reduceToNat, Int.reduceLE, Int.reduceLT, Int.reduceEq, Int.reduceNe, di0, di1, di2, di3, di4, di5, di6, di7, di8, di9, postX_ret, postX_normal, ex_some]
  split
  · rename_i hl
    have hl : a.length = b.length := by omega
    refine loop_keep (α := Nat) rfl (fun i => a.length - i) (fun i => i ≤ a.length ∧ ∀ j, j < i → a.getD j default = b.getD j default)
      (fun i => [(0, .imm (.slc 2 (a.map stI))), (1, .imm (.slc 2 (b.map stI))), (5, .imm (.int .i64 i))]) (fun _ => []) 0 ⟨Nat.zero_le _, fun j hj => by omega⟩ (by simp only [↓reduceIte, reduceCtorEq, Nat.reduceEqDiff, Nat.reduceAdd, Nat.reduceMul, Nat.reduceSub, Nat.reduceLeDiff, Nat.reduceBEq, Int.reduceToNat, Int.reduceLE, Int.reduceLT, Int.reduceEq, Int.reduceNe, di0, di1, di2, di3, di4, di5, di6, di7, di8, di9, postX_ret, postX_normal, ex_some] <;> rfl) ?_
    intro i ⟨hi, he⟩ ih
    simp only [res57, b57k0, b57k1, b57k2, b57k3, knI, tabI, pieceI, pairI, lpI, stI, flI, rdI, rnI, getD_kn, ↓reduceIte, reduceCtorEq, Nat.reduceEqDiff, Nat.reduceAdd, Nat.reduceMul, Nat.reduceSub, Nat.reduceLeDiff, Nat.reduceBEq, Int.reduceToNat, Int.reduceLE, Int.reduceLT, Int.reduceEq, Int.reduceNe, di0, di1, di2, di3, di4, di5, di6, di7, di8, di9, postX_ret, postX_normal, ex_some]
    split
    · rename_i h
      repeat (refine And.intro (by omega) ?_)
      split
      · rename_i h2
        have : ¬ a = b := fun k => by subst k; simp at h2
        rw [decide_eq_false this]
      · rename_i h2
        have h3 : kn a i = kn b i := by
          simp only [Bool.not_eq_false, Bool.and_eq_true, decide_eq_true_eq] at h2
          exact Prod.ext h2.1 h2.2
        rw [wrap64 (by omega) (by omega)]
        refine ih (i + 1) _ _ (by omega) ⟨by omega, fun j hj => ?_⟩ (by simp only [↓reduceIte, reduceCtorEq, Nat.reduceEqDiff, Nat.reduceAdd, Nat.reduceMul, Nat.reduceSub, Nat.reduceLeDiff, Nat.reduceBEq, Int.reduceToNat, Int.reduceLE, Int.reduceLT, Int.reduceEq, Int.reduceNe, di0, di1, di2, di3, di4, di5, di6, di7, di8, di9, postX_ret, postX_normal, ex_some] <;> rfl)
        by_cases e : j = i
        · subst e; exact h3
        · exact he j (by omega)
    · rename_i h
      have : a = b := eq_of_getD default hl (fun j hj => he j (by omega))
      rw [decide_eq_true this]
  · rename_i hl
    have : ¬ a = b := fun k => hl (by rw [k])
    rw [decide_eq_false this]

theorem r_Copy {l : List Kn} (hl : l.length ≤ 1000000000) : Contract Try.prog 28 [tabI l] (tabI l) := by
  refine contract_run Try.func28 k28 rfl ?_
  simp only [body28, b28, res28, knI, tabI, pieceI, pairI, lpI, stI, flI, rdI, rnI, getD_kn, ↓reduceIte, reduceCtorEq, Nat.reduceEqDiff, Nat.reduceAdd, Nat.reduceMul, Nat.reduceSub, Nat.reduceLeDiff, Nat.reduceBEq, Int.reduceToNat, Int.reduceLE, Int.reduceLT, Int.reduceEq, Int.reduceNe, di0, di1, di2, di3, di4, di5, di6, di7, di8, di9, postX_ret, postX_normal, ex_some]
  omega
theorem r_CopyList {l : List Flow} (hl : l.length ≤ 1000000000) : Contract Try.prog 54 [.slc 3 (l.map flI)] (.slc 3 (l.map flI)) := by
  refine contract_run Try.func54 k54 rfl ?_
  simp only [body54, b54, res54, knI, tabI, pieceI, pairI, lpI, stI, flI, rdI, rnI, getD_kn, ↓reduceIte, reduceCtorEq, Nat.reduceEqDiff, Nat.reduceAdd, Nat.reduceMul, Nat.reduceSub, Nat.reduceLeDiff, Nat.reduceBEq, Int.reduceToNat, Int.reduceLE, Int.reduceLT, Int.reduceEq, Int.reduceNe, di0, di1, di2, di3, di4, di5, di6, di7, di8, di9, postX_ret, postX_normal, ex_some]
  omega
theorem r_CopyPair {p : Pair} (h1 : p.u.length ≤ 1000000000) (h2 : p.l.length ≤ 1000000000) : Contract Try.prog 16 [lpI p] (lpI p) := by
  refine contract_run Try.func16 k16 rfl ?_
  simp only [body16, b16, res16, knI, tabI, pieceI, pairI, lpI, stI, flI, rdI, rnI, getD_kn, ↓reduceIte, reduceCtorEq, Nat.reduceEqDiff, Nat.reduceAdd, Nat.reduceMul, Nat.reduceSub, Nat.reduceLeDiff, Nat.reduceBEq, Int.reduceToNat, Int.reduceLE, Int.reduceLT, Int.reduceEq, Int.reduceNe, di0, di1, di2, di3, di4, di5, di6, di7, di8, di9, postX_ret, postX_normal, ex_some]
  repeat (refine And.intro (by omega) ?_)
  refine calls_of (r_Copy h1) ?_; simp only [knI, tabI, pieceI, pairI, lpI, stI, flI, rdI, rnI, getD_kn, res16, ↓reduceIte, reduceCtorEq, Nat.reduceEqDiff, Nat.reduceAdd, Nat.reduceMul, Nat.reduceSub, Nat.reduceLeDiff, Nat.reduceBEq, Int.reduceToNat, Int.reduceLE, Int.reduceLT, Int.reduceEq, Int.reduceNe, di0, di1, di2, di3, di4, di5, di6, di7, di8, di9, postX_ret, postX_normal, ex_some]
  repeat (refine And.intro (by omega) ?_)
  refine calls_of (r_Copy h2) ?_; simp only [knI, tabI, pieceI, pairI, lpI, stI, flI, rdI, rnI, getD_kn, res16, ↓reduceIte, reduceCtorEq, Nat.reduceEqDiff, Nat.reduceAdd, Nat.reduceMul, Nat.reduceSub, Nat.reduceLeDiff, Nat.reduceBEq, Int.reduceToNat, Int.reduceLE, Int.reduceLT, Int.reduceEq, Int.reduceNe, di0, di1, di2, di3, di4, di5, di6, di7, di8, di9, postX_ret, postX_normal, ex_some]
end Go.DI

/- Contracts: the program's readings of gauges. No condition. -/
set_option linter.unusedSimpArgs false
namespace Go.DI
open Go.Proofs Go.RowKit Lk

theorem indexF_pos {α : Type} {p : α → Bool} : ∀ {l : List α} {i : Nat}, 0 ≤ indexF p l i ↔ ∃ x ∈ l, p x = true
  | [], i => by simp [indexF]
  | x :: r, i => by
    rw [indexF_cons]
    split
    · rename_i h
      constructor
      · intro _; exact ⟨x, by simp, h⟩
      · intro _; omega
    · rename_i h
      rw [indexF_pos]
      simp [h]

theorem p_IndexInts {l : List Int} {p : Int → Bool} {g : FuncId} {cap : List IV} (hl : l.length ≤ 1000000000000) (hp : ∀ k ∈ l, Contract Try.prog g (.int .i64 k :: cap) (.bool (p k))) :
    Contract Try.prog 134 [.slc 1 (l.map (.int .i64)), .func g [] cap] (.int .i64 (indexF p l 0)) := by
  refine contract_run Try.func134 k134 rfl ?_
  simp only [body134, b134, res134, b134k0, b134k1, b134k2, ↓reduceIte, reduceCtorEq, Nat.reduceEqDiff, Nat.reduceAdd, Nat.reduceMul, Nat.reduceSub, Nat.reduceLeDiff, Nat.reduceBEq, Int.reduceToNat, Int.reduceLE, Int.reduceLT, Int.reduceEq, Int.reduceNe, di0, di1, di2, di3, di4, di5, di6, di7, di8, di9, postX_ret, postX_normal, ex_some]
  refine loop_keep (α := Nat) rfl (fun i => l.length - i) (fun i => i ≤ l.length ∧ indexF p (l.drop i) i = indexF p l 0)
    (fun i => [(0, .imm (.slc 1 (l.map (.int .i64)))), (1, .imm (.func g [] cap)), (7, .imm (.int .i64 l.length)), (8, .imm (.int .i64 i))]) (fun _ => []) 0 ⟨Nat.zero_le _, rfl⟩ (by simp only [↓reduceIte, reduceCtorEq, Nat.reduceEqDiff, Nat.reduceAdd, Nat.reduceMul, Nat.reduceSub, Nat.reduceLeDiff, Nat.reduceBEq, Int.reduceToNat, Int.reduceLE, Int.reduceLT, Int.reduceEq, Int.reduceNe, di0, di1, di2, di3, di4, di5, di6, di7, di8, di9, postX_ret, postX_normal, ex_some] <;> rfl) ?_
  intro i ⟨hi, he⟩ ih
  simp only [res134, b134k0, b134k1, b134k2, ↓reduceIte, reduceCtorEq, Nat.reduceEqDiff, Nat.reduceAdd, Nat.reduceMul, Nat.reduceSub, Nat.reduceLeDiff, Nat.reduceBEq, Int.reduceToNat, Int.reduceLE, Int.reduceLT, Int.reduceEq, Int.reduceNe, di0, di1, di2, di3, di4, di5, di6, di7, di8, di9, postX_ret, postX_normal, ex_some]
  split
  · rename_i h
    have hx : l.drop i = l.getD i 0 :: l.drop (i + 1) := by
      rw [List.drop_eq_getElem_cons (by omega)]
      congr 1
      rw [List.getD_eq_getElem?_getD]; simp [show i < l.length by omega]
    have hm : l.getD i 0 ∈ l := List.mem_of_mem_drop (by rw [hx]; simp)
    rw [hx, indexF_cons] at he
    repeat (refine And.intro (by omega) ?_)
    refine calls_of (hp _ hm) ?_; simp only [res134, b134k0, b134k1, b134k2, ↓reduceIte, reduceCtorEq, Nat.reduceEqDiff, Nat.reduceAdd, Nat.reduceMul, Nat.reduceSub, Nat.reduceLeDiff, Nat.reduceBEq, Int.reduceToNat, Int.reduceLE, Int.reduceLT, Int.reduceEq, Int.reduceNe, di0, di1, di2, di3, di4, di5, di6, di7, di8, di9, postX_ret, postX_normal, ex_some]
    split
    · rename_i h1
      rw [if_pos h1] at he
      rw [he]
    · rename_i h1
      rw [if_neg (by simpa using h1)] at he
      rw [wrap64 (by omega) (by omega)]
      exact ih (i + 1) _ _ (by omega) ⟨by omega, he⟩ (by simp only [↓reduceIte, reduceCtorEq, Nat.reduceEqDiff, Nat.reduceAdd, Nat.reduceMul, Nat.reduceSub, Nat.reduceLeDiff, Nat.reduceBEq, Int.reduceToNat, Int.reduceLE, Int.reduceLT, Int.reduceEq, Int.reduceNe, di0, di1, di2, di3, di4, di5, di6, di7, di8, di9, postX_ret, postX_normal, ex_some] <;> rfl)
  · rename_i h
    rw [← he, List.drop_eq_nil_of_le (by omega)]
    rfl

theorem p_ContainsInts {l : List Int} {p : Int → Bool} {g : FuncId} {cap : List IV} (hl : l.length ≤ 1000000000000) (hp : ∀ k ∈ l, Contract Try.prog g (.int .i64 k :: cap) (.bool (p k))) :
    Contract Try.prog 122 [.slc 1 (l.map (.int .i64)), .func g [] cap] (.bool (decide (∃ x ∈ l, p x = true))) := by
  refine contract_run Try.func122 k122 rfl ?_
  simp only [body122, b122, res122, ↓reduceIte, reduceCtorEq, Nat.reduceEqDiff, Nat.reduceAdd, Nat.reduceMul, Nat.reduceSub, Nat.reduceLeDiff, Nat.reduceBEq, Int.reduceToNat, Int.reduceLE, Int.reduceLT, Int.reduceEq, Int.reduceNe, di0, di1, di2, di3, di4, di5, di6, di7, di8, di9, postX_ret, postX_normal, ex_some]
  refine calls_of (p_IndexInts hl hp) ?_; simp only [res122, ↓reduceIte, reduceCtorEq, Nat.reduceEqDiff, Nat.reduceAdd, Nat.reduceMul, Nat.reduceSub, Nat.reduceLeDiff, Nat.reduceBEq, Int.reduceToNat, Int.reduceLE, Int.reduceLT, Int.reduceEq, Int.reduceNe, di0, di1, di2, di3, di4, di5, di6, di7, di8, di9, postX_ret, postX_normal, ex_some]
  simp only [indexF_pos]

def netErrP (net : List Int) : Int := if 200 < net.length then 8 else if ∃ x ∈ net, ¬ Wi x (-10000000) 10000000 then 2 else 0
theorem netErrP_ok {net : List Int} : netErrP net = 0 ↔ net.length ≤ 200 ∧ ∀ x ∈ net, -10000000 ≤ x ∧ x ≤ 10000000 := by
  unfold netErrP
  constructor
  · intro h
    split at h
    · omega
    · split at h
      · omega
      · rename_i k
        refine ⟨by omega, fun x hx => ?_⟩
        apply Decidable.byContradiction
        intro hn
        exact k ⟨x, hx, hn⟩
  · intro ⟨h1, h2⟩
    rw [if_neg (by omega), if_neg]
    rintro ⟨x, hx, hn⟩
    exact hn (h2 x hx)

theorem p_netOdd {n : Int} : Contract Try.prog 123 [.int .i64 n] (.bool (decide (¬ Wi n (-10000000) 10000000))) := by
  refine contract_run Try.func123 k123 rfl ?_
  simp only [body123, b123, res123, ↓reduceIte, reduceCtorEq, Nat.reduceEqDiff, Nat.reduceAdd, Nat.reduceMul, Nat.reduceSub, Nat.reduceLeDiff, Nat.reduceBEq, Int.reduceToNat, Int.reduceLE, Int.reduceLT, Int.reduceEq, Int.reduceNe, di0, di1, di2, di3, di4, di5, di6, di7, di8, di9, postX_ret, postX_normal, ex_some]
  refine calls_of p_within ?_; simp only [res123, ↓reduceIte, reduceCtorEq, Nat.reduceEqDiff, Nat.reduceAdd, Nat.reduceMul, Nat.reduceSub, Nat.reduceLeDiff, Nat.reduceBEq, Int.reduceToNat, Int.reduceLE, Int.reduceLT, Int.reduceEq, Int.reduceNe, di0, di1, di2, di3, di4, di5, di6, di7, di8, di9, postX_ret, postX_normal, ex_some]
  simp

theorem p_netErr {net : List Int} (hl : net.length ≤ 1000000000000) : Contract Try.prog 104 [.slc 1 (net.map (.int .i64))] (.int .i64 (netErrP net)) := by
  unfold netErrP
  refine contract_run Try.func104 k104 rfl ?_
  simp only [body104, b104, res104, b104k0, ↓reduceIte, reduceCtorEq, Nat.reduceEqDiff, Nat.reduceAdd, Nat.reduceMul, Nat.reduceSub, Nat.reduceLeDiff, Nat.reduceBEq, Int.reduceToNat, Int.reduceLE, Int.reduceLT, Int.reduceEq, Int.reduceNe, di0, di1, di2, di3, di4, di5, di6, di7, di8, di9, postX_ret, postX_normal, ex_some]
  split
  · rename_i h
    rw [if_pos (by omega)]
  · rename_i h
    rw [if_neg (by omega)]
    refine calls_of (p_ContainsInts (p := fun n => decide (¬ Wi n (-10000000) 10000000)) (cap := []) hl (fun k _ => p_netOdd)) ?_; simp only [res104, b104k0, ↓reduceIte, reduceCtorEq, Nat.reduceEqDiff, Nat.reduceAdd, Nat.reduceMul, Nat.reduceSub, Nat.reduceLeDiff, Nat.reduceBEq, Int.reduceToNat, Int.reduceLE, Int.reduceLT, Int.reduceEq, Int.reduceNe, di0, di1, di2, di3, di4, di5, di6, di7, di8, di9, postX_ret, postX_normal, ex_some]
    refine calls_of p_unless ?_; simp only [res104, b104k0, ↓reduceIte, reduceCtorEq, Nat.reduceEqDiff, Nat.reduceAdd, Nat.reduceMul, Nat.reduceSub, Nat.reduceLeDiff, Nat.reduceBEq, Int.reduceToNat, Int.reduceLE, Int.reduceLT, Int.reduceEq, Int.reduceNe, di0, di1, di2, di3, di4, di5, di6, di7, di8, di9, postX_ret, postX_normal, ex_some]
    split
    · rename_i h2
      first | rfl | (rw [if_neg h2]) | (rw [if_pos h2])
    · rename_i h2
      first | rfl | (rw [if_neg h2]) | (rw [if_pos h2]) | (rw [if_pos (Decidable.not_not.1 h2)])

def rdErr (l : List Kn) (n : Int) (rs : List Rdg) : Int := if rs.length = 0 then 10 else if 10 < rs.length then 8 else (firstE (fun i => rdgErr l n (rs.getD i default)) rs.length 0).2

theorem p_isLevel {l : List Kn} {x : Int} (h : 0 < l.length) (hl : l.length ≤ 1000000000000) : Contract Try.prog 124 [.int .i64 x, .ptr (.agg [.slc 2 (l.map knI)])] (.bool (decide (isL l x))) := by
  refine contract_run Try.func124 k124 rfl ?_
  simp only [body124, b124, res124, knI, tabI, pieceI, pairI, lpI, stI, flI, rdI, rnI, getD_kn, ↓reduceIte, reduceCtorEq, Nat.reduceEqDiff, Nat.reduceAdd, Nat.reduceMul, Nat.reduceSub, Nat.reduceLeDiff, Nat.reduceBEq, Int.reduceToNat, Int.reduceLE, Int.reduceLT, Int.reduceEq, Int.reduceNe, di0, di1, di2, di3, di4, di5, di6, di7, di8, di9, postX_ret, postX_normal, ex_some]
  refine calls_of (p_bottom h) ?_; simp only [knI, tabI, pieceI, pairI, lpI, stI, flI, rdI, rnI, getD_kn, res124, ↓reduceIte, reduceCtorEq, Nat.reduceEqDiff, Nat.reduceAdd, Nat.reduceMul, Nat.reduceSub, Nat.reduceLeDiff, Nat.reduceBEq, Int.reduceToNat, Int.reduceLE, Int.reduceLT, Int.reduceEq, Int.reduceNe, di0, di1, di2, di3, di4, di5, di6, di7, di8, di9, postX_ret, postX_normal, ex_some]
  refine calls_of (p_top h hl) ?_; simp only [knI, tabI, pieceI, pairI, lpI, stI, flI, rdI, rnI, getD_kn, res124, ↓reduceIte, reduceCtorEq, Nat.reduceEqDiff, Nat.reduceAdd, Nat.reduceMul, Nat.reduceSub, Nat.reduceLeDiff, Nat.reduceBEq, Int.reduceToNat, Int.reduceLE, Int.reduceLT, Int.reduceEq, Int.reduceNe, di0, di1, di2, di3, di4, di5, di6, di7, di8, di9, postX_ret, postX_normal, ex_some]
  refine calls_of p_within ?_; simp only [knI, tabI, pieceI, pairI, lpI, stI, flI, rdI, rnI, getD_kn, res124, ↓reduceIte, reduceCtorEq, Nat.reduceEqDiff, Nat.reduceAdd, Nat.reduceMul, Nat.reduceSub, Nat.reduceLeDiff, Nat.reduceBEq, Int.reduceToNat, Int.reduceLE, Int.reduceLT, Int.reduceEq, Int.reduceNe, di0, di1, di2, di3, di4, di5, di6, di7, di8, di9, postX_ret, postX_normal, ex_some]
  rfl

theorem p_readingsErr {l : List Kn} {net : List Int} {rs : List Rdg} (h : Valid l) : Contract Try.prog 105 [tabI l, .slc 1 (net.map (.int .i64)), .slc 3 (rs.map rdI)] (.int .i64 (rdErr l net.length rs)) := by
  have hz := valid_len h
  unfold rdErr
  refine contract_run Try.func105 k105 rfl ?_
  simp only [body105, b105, res105, b105k0, b105k1, b105k2, b105k3, knI, tabI, pieceI, pairI, lpI, stI, flI, rdI, rnI, getD_kn, ↓reduceIte, reduceCtorEq, Nat.reduceEqDiff, Nat.reduceAdd, Nat.reduceMul, Nat.reduceSub, Nat.reduceLeDiff, Nat.reduceBEq, Int.reduceToNat, Int.reduceLE, Int.reduceLT, Int.reduceEq, Int.reduceNe, di0, di1, di2, di3, di4, di5, di6, di7, di8, di9, postX_ret, postX_normal, ex_some]
  refine calls_of p_unless ?_; simp only [knI, tabI, pieceI, pairI, lpI, stI, flI, rdI, rnI, getD_kn, res105, b105k0, b105k1, b105k2, b105k3, ↓reduceIte, reduceCtorEq, Nat.reduceEqDiff, Nat.reduceAdd, Nat.reduceMul, Nat.reduceSub, Nat.reduceLeDiff, Nat.reduceBEq, Int.reduceToNat, Int.reduceLE, Int.reduceLT, Int.reduceEq, Int.reduceNe, di0, di1, di2, di3, di4, di5, di6, di7, di8, di9, postX_ret, postX_normal, ex_some]
  refine calls_of p_unless ?_; simp only [knI, tabI, pieceI, pairI, lpI, stI, flI, rdI, rnI, getD_kn, res105, b105k0, b105k1, b105k2, b105k3, ↓reduceIte, reduceCtorEq, Nat.reduceEqDiff, Nat.reduceAdd, Nat.reduceMul, Nat.reduceSub, Nat.reduceLeDiff, Nat.reduceBEq, Int.reduceToNat, Int.reduceLE, Int.reduceLT, Int.reduceEq, Int.reduceNe, di0, di1, di2, di3, di4, di5, di6, di7, di8, di9, postX_ret, postX_normal, ex_some]
  refine calls_of p_first2 ?_; simp only [knI, tabI, pieceI, pairI, lpI, stI, flI, rdI, rnI, getD_kn, res105, b105k0, b105k1, b105k2, b105k3, ↓reduceIte, reduceCtorEq, Nat.reduceEqDiff, Nat.reduceAdd, Nat.reduceMul, Nat.reduceSub, Nat.reduceLeDiff, Nat.reduceBEq, Int.reduceToNat, Int.reduceLE, Int.reduceLT, Int.reduceEq, Int.reduceNe, di0, di1, di2, di3, di4, di5, di6, di7, di8, di9, postX_ret, postX_normal, ex_some]
  by_cases h1 : rs.length = 0
  · simp only [if_neg (show ¬ 0 < (rs.length : Int) by omega), if_pos h1, ↓reduceIte, reduceCtorEq, Nat.reduceEqDiff, Nat.reduceAdd, Nat.reduceMul, Nat.reduceSub, Nat.reduceLeDiff, Nat.reduceBEq, Int.reduceToNat, Int.reduceLE, Int.reduceLT, Int.reduceEq, Int.reduceNe, di0, di1, di2, di3, di4, di5, di6, di7, di8, di9, postX_ret, postX_normal, ex_some]
  · by_cases h2 : 10 < rs.length
    · simp only [if_pos (show 0 < (rs.length : Int) by omega), if_neg (show ¬ (rs.length : Int) ≤ 10 by omega), if_neg h1, if_pos h2, ↓reduceIte, reduceCtorEq, Nat.reduceEqDiff, Nat.reduceAdd, Nat.reduceMul, Nat.reduceSub, Nat.reduceLeDiff, Nat.reduceBEq, Int.reduceToNat, Int.reduceLE, Int.reduceLT, Int.reduceEq, Int.reduceNe, di0, di1, di2, di3, di4, di5, di6, di7, di8, di9, postX_ret, postX_normal, ex_some]
    · simp only [if_pos (show 0 < (rs.length : Int) by omega), if_pos (show (rs.length : Int) ≤ 10 by omega), if_neg h1, if_neg h2, ↓reduceIte, reduceCtorEq, Nat.reduceEqDiff, Nat.reduceAdd, Nat.reduceMul, Nat.reduceSub, Nat.reduceLeDiff, Nat.reduceBEq, Int.reduceToNat, Int.reduceLE, Int.reduceLT, Int.reduceEq, Int.reduceNe, di0, di1, di2, di3, di4, di5, di6, di7, di8, di9, postX_ret, postX_normal, ex_some]
      refine loop_keep (α := Nat) rfl (fun i => rs.length - i) (fun i => i ≤ rs.length ∧ (firstE (fun i => rdgErr l net.length (rs.getD i default)) (rs.length - i) i).2 = (firstE (fun i => rdgErr l net.length (rs.getD i default)) rs.length 0).2)
        (fun i => [(1, .imm (.slc 1 (net.map (.int .i64)))), (8, .imm (.func 124 [] [.ptr (.agg [.slc 2 (l.map knI)])])), (27, .imm (.slc 3 (rs.map rdI))), (28, .imm (.int .i64 rs.length)), (29, .imm (.int .i64 i))]) (fun _ => [(3, .fza [.slc 2 (l.map knI)])]) 0 ⟨Nat.zero_le _, rfl⟩ (by simp only [↓reduceIte, reduceCtorEq, Nat.reduceEqDiff, Nat.reduceAdd, Nat.reduceMul, Nat.reduceSub, Nat.reduceLeDiff, Nat.reduceBEq, Int.reduceToNat, Int.reduceLE, Int.reduceLT, Int.reduceEq, Int.reduceNe, di0, di1, di2, di3, di4, di5, di6, di7, di8, di9, postX_ret, postX_normal, ex_some] <;> rfl) ?_
      intro i ⟨hi, he⟩ ih
      simp only [res105, b105k0, b105k1, b105k2, b105k3, rdI, knI, tabI, pieceI, pairI, lpI, stI, flI, rdI, rnI, getD_kn, ↓reduceIte, reduceCtorEq, Nat.reduceEqDiff, Nat.reduceAdd, Nat.reduceMul, Nat.reduceSub, Nat.reduceLeDiff, Nat.reduceBEq, Int.reduceToNat, Int.reduceLE, Int.reduceLT, Int.reduceEq, Int.reduceNe, di0, di1, di2, di3, di4, di5, di6, di7, di8, di9, postX_ret, postX_normal, ex_some]
      split
      · rename_i h3
        rw [show rs.length - i = (rs.length - (i + 1)) + 1 by omega, firstE_succ] at he
        repeat (refine And.intro (by omega) ?_)
        generalize rs.getD i default = r at *
        have bad : ¬ (Wi r.tick 0 net.length ∧ isL l r.lo ∧ isL l r.hi) → rdgErr l net.length r = 2 := fun k => by unfold rdgErr; rw [if_pos k]
        refine calls_of p_within ?_; simp only [knI, tabI, pieceI, pairI, lpI, stI, flI, rdI, rnI, getD_kn, res105, b105k0, b105k1, b105k2, b105k3, ↓reduceIte, reduceCtorEq, Nat.reduceEqDiff, Nat.reduceAdd, Nat.reduceMul, Nat.reduceSub, Nat.reduceLeDiff, Nat.reduceBEq, Int.reduceToNat, Int.reduceLE, Int.reduceLT, Int.reduceEq, Int.reduceNe, di0, di1, di2, di3, di4, di5, di6, di7, di8, di9, postX_ret, postX_normal, ex_some]
        split
        · rename_i c1
          refine calls_of (p_isLevel hz.1 hz.2) ?_; simp only [knI, tabI, pieceI, pairI, lpI, stI, flI, rdI, rnI, getD_kn, res105, b105k0, b105k1, b105k2, b105k3, ↓reduceIte, reduceCtorEq, Nat.reduceEqDiff, Nat.reduceAdd, Nat.reduceMul, Nat.reduceSub, Nat.reduceLeDiff, Nat.reduceBEq, Int.reduceToNat, Int.reduceLE, Int.reduceLT, Int.reduceEq, Int.reduceNe, di0, di1, di2, di3, di4, di5, di6, di7, di8, di9, postX_ret, postX_normal, ex_some]
          split
          · rename_i c2
            refine calls_of (p_isLevel hz.1 hz.2) ?_; simp only [knI, tabI, pieceI, pairI, lpI, stI, flI, rdI, rnI, getD_kn, res105, b105k0, b105k1, b105k2, b105k3, ↓reduceIte, reduceCtorEq, Nat.reduceEqDiff, Nat.reduceAdd, Nat.reduceMul, Nat.reduceSub, Nat.reduceLeDiff, Nat.reduceBEq, Int.reduceToNat, Int.reduceLE, Int.reduceLT, Int.reduceEq, Int.reduceNe, di0, di1, di2, di3, di4, di5, di6, di7, di8, di9, postX_ret, postX_normal, ex_some]
            refine calls_of p_unless ?_; simp only [knI, tabI, pieceI, pairI, lpI, stI, flI, rdI, rnI, getD_kn, res105, b105k0, b105k1, b105k2, b105k3, ↓reduceIte, reduceCtorEq, Nat.reduceEqDiff, Nat.reduceAdd, Nat.reduceMul, Nat.reduceSub, Nat.reduceLeDiff, Nat.reduceBEq, Int.reduceToNat, Int.reduceLE, Int.reduceLT, Int.reduceEq, Int.reduceNe, di0, di1, di2, di3, di4, di5, di6, di7, di8, di9, postX_ret, postX_normal, ex_some]
            refine calls_of p_unless ?_; simp only [knI, tabI, pieceI, pairI, lpI, stI, flI, rdI, rnI, getD_kn, res105, b105k0, b105k1, b105k2, b105k3, ↓reduceIte, reduceCtorEq, Nat.reduceEqDiff, Nat.reduceAdd, Nat.reduceMul, Nat.reduceSub, Nat.reduceLeDiff, Nat.reduceBEq, Int.reduceToNat, Int.reduceLE, Int.reduceLT, Int.reduceEq, Int.reduceNe, di0, di1, di2, di3, di4, di5, di6, di7, di8, di9, postX_ret, postX_normal, ex_some]
            refine calls_of p_first2 ?_; simp only [knI, tabI, pieceI, pairI, lpI, stI, flI, rdI, rnI, getD_kn, res105, b105k0, b105k1, b105k2, b105k3, ↓reduceIte, reduceCtorEq, Nat.reduceEqDiff, Nat.reduceAdd, Nat.reduceMul, Nat.reduceSub, Nat.reduceLeDiff, Nat.reduceBEq, Int.reduceToNat, Int.reduceLE, Int.reduceLT, Int.reduceEq, Int.reduceNe, di0, di1, di2, di3, di4, di5, di6, di7, di8, di9, postX_ret, postX_normal, ex_some]
            by_cases c3 : isL l r.hi
            · simp only [if_pos c3, knI, tabI, pieceI, pairI, lpI, stI, flI, rdI, rnI, getD_kn, ↓reduceIte, reduceCtorEq, Nat.reduceEqDiff, Nat.reduceAdd, Nat.reduceMul, Nat.reduceSub, Nat.reduceLeDiff, Nat.reduceBEq, Int.reduceToNat, Int.reduceLE, Int.reduceLT, Int.reduceEq, Int.reduceNe, di0, di1, di2, di3, di4, di5, di6, di7, di8, di9, postX_ret, postX_normal, ex_some]
              have e : rdgErr l net.length r = if r.lo ≤ r.hi then 0 else 9 := by
                unfold rdgErr
                rw [if_neg (fun k => k ⟨c1, c2, c3⟩)]
                split
                · rw [if_neg (by omega)]
                · rw [if_pos (by omega)]
              by_cases c4 : r.lo ≤ r.hi
              · rw [if_pos c4] at e
                rw [if_pos e] at he
                simp only [if_pos c4, knI, tabI, pieceI, pairI, lpI, stI, flI, rdI, rnI, getD_kn, ↓reduceIte, reduceCtorEq, Nat.reduceEqDiff, Nat.reduceAdd, Nat.reduceMul, Nat.reduceSub, Nat.reduceLeDiff, Nat.reduceBEq, Int.reduceToNat, Int.reduceLE, Int.reduceLT, Int.reduceEq, Int.reduceNe, di0, di1, di2, di3, di4, di5, di6, di7, di8, di9, postX_ret, postX_normal, ex_some]
                rw [wrap64 (by omega) (by omega)]
                exact ih (i + 1) _ _ (by omega) ⟨by omega, he⟩ (by simp only [↓reduceIte, reduceCtorEq, Nat.reduceEqDiff, Nat.reduceAdd, Nat.reduceMul, Nat.reduceSub, Nat.reduceLeDiff, Nat.reduceBEq, Int.reduceToNat, Int.reduceLE, Int.reduceLT, Int.reduceEq, Int.reduceNe, di0, di1, di2, di3, di4, di5, di6, di7, di8, di9, postX_ret, postX_normal, ex_some] <;> rfl)
              · rw [if_neg c4] at e
                rw [e, if_neg (by omega)] at he
                simp only [if_neg c4, knI, tabI, pieceI, pairI, lpI, stI, flI, rdI, rnI, getD_kn, ↓reduceIte, reduceCtorEq, Nat.reduceEqDiff, Nat.reduceAdd, Nat.reduceMul, Nat.reduceSub, Nat.reduceLeDiff, Nat.reduceBEq, Int.reduceToNat, Int.reduceLE, Int.reduceLT, Int.reduceEq, Int.reduceNe, di0, di1, di2, di3, di4, di5, di6, di7, di8, di9, postX_ret, postX_normal, ex_some]
                rw [← he]
            · simp only [if_neg c3, knI, tabI, pieceI, pairI, lpI, stI, flI, rdI, rnI, getD_kn, ↓reduceIte, reduceCtorEq, Nat.reduceEqDiff, Nat.reduceAdd, Nat.reduceMul, Nat.reduceSub, Nat.reduceLeDiff, Nat.reduceBEq, Int.reduceToNat, Int.reduceLE, Int.reduceLT, Int.reduceEq, Int.reduceNe, di0, di1, di2, di3, di4, di5, di6, di7, di8, di9, postX_ret, postX_normal, ex_some]
              rw [bad (fun k => c3 k.2.2), if_neg (by omega)] at he
              rw [← he]
          · rename_i c2
            refine calls_of p_unless ?_; simp only [knI, tabI, pieceI, pairI, lpI, stI, flI, rdI, rnI, getD_kn, res105, b105k0, b105k1, b105k2, b105k3, ↓reduceIte, reduceCtorEq, Nat.reduceEqDiff, Nat.reduceAdd, Nat.reduceMul, Nat.reduceSub, Nat.reduceLeDiff, Nat.reduceBEq, Int.reduceToNat, Int.reduceLE, Int.reduceLT, Int.reduceEq, Int.reduceNe, di0, di1, di2, di3, di4, di5, di6, di7, di8, di9, postX_ret, postX_normal, ex_some]
            refine calls_of p_unless ?_; simp only [knI, tabI, pieceI, pairI, lpI, stI, flI, rdI, rnI, getD_kn, res105, b105k0, b105k1, b105k2, b105k3, ↓reduceIte, reduceCtorEq, Nat.reduceEqDiff, Nat.reduceAdd, Nat.reduceMul, Nat.reduceSub, Nat.reduceLeDiff, Nat.reduceBEq, Int.reduceToNat, Int.reduceLE, Int.reduceLT, Int.reduceEq, Int.reduceNe, di0, di1, di2, di3, di4, di5, di6, di7, di8, di9, postX_ret, postX_normal, ex_some]
            refine calls_of p_first2 ?_; simp only [knI, tabI, pieceI, pairI, lpI, stI, flI, rdI, rnI, getD_kn, res105, b105k0, b105k1, b105k2, b105k3, ↓reduceIte, reduceCtorEq, Nat.reduceEqDiff, Nat.reduceAdd, Nat.reduceMul, Nat.reduceSub, Nat.reduceLeDiff, Nat.reduceBEq, Int.reduceToNat, Int.reduceLE, Int.reduceLT, Int.reduceEq, Int.reduceNe, di0, di1, di2, di3, di4, di5, di6, di7, di8, di9, postX_ret, postX_normal, ex_some]
            rw [bad (fun k => c2 k.2.1), if_neg (by omega)] at he
            rw [← he]
        · rename_i c1
          refine calls_of p_unless ?_; simp only [knI, tabI, pieceI, pairI, lpI, stI, flI, rdI, rnI, getD_kn, res105, b105k0, b105k1, b105k2, b105k3, ↓reduceIte, reduceCtorEq, Nat.reduceEqDiff, Nat.reduceAdd, Nat.reduceMul, Nat.reduceSub, Nat.reduceLeDiff, Nat.reduceBEq, Int.reduceToNat, Int.reduceLE, Int.reduceLT, Int.reduceEq, Int.reduceNe, di0, di1, di2, di3, di4, di5, di6, di7, di8, di9, postX_ret, postX_normal, ex_some]
          refine calls_of p_unless ?_; simp only [knI, tabI, pieceI, pairI, lpI, stI, flI, rdI, rnI, getD_kn, res105, b105k0, b105k1, b105k2, b105k3, ↓reduceIte, reduceCtorEq, Nat.reduceEqDiff, Nat.reduceAdd, Nat.reduceMul, Nat.reduceSub, Nat.reduceLeDiff, Nat.reduceBEq, Int.reduceToNat, Int.reduceLE, Int.reduceLT, Int.reduceEq, Int.reduceNe, di0, di1, di2, di3, di4, di5, di6, di7, di8, di9, postX_ret, postX_normal, ex_some]
          refine calls_of p_first2 ?_; simp only [knI, tabI, pieceI, pairI, lpI, stI, flI, rdI, rnI, getD_kn, res105, b105k0, b105k1, b105k2, b105k3, ↓reduceIte, reduceCtorEq, Nat.reduceEqDiff, Nat.reduceAdd, Nat.reduceMul, Nat.reduceSub, Nat.reduceLeDiff, Nat.reduceBEq, Int.reduceToNat, Int.reduceLE, Int.reduceLT, Int.reduceEq, Int.reduceNe, di0, di1, di2, di3, di4, di5, di6, di7, di8, di9, postX_ret, postX_normal, ex_some]
          rw [bad (fun k => c1 k.1), if_neg (by omega)] at he
          rw [← he]
      · rename_i h3
        rw [show rs.length - i = 0 by omega] at he
        rw [← he]
        rfl
end Go.DI

/- Contracts: the program's agreed range. No condition. -/
set_option linter.unusedSimpArgs false
namespace Go.DI
open Go.Proofs Go.RowKit Lk

theorem rn_snoc {l : List Rn} {a b : Int} : l.map rnI ++ [IV.agg [.int .i64 a, .int .i64 b]] = (l ++ [(a, b)]).map rnI := by simp [rnI]

def allErr (l : List Kn) (net : List Int) (rs : List Rdg) : Int := if (chkT l).2 = 0 then if netErrP net = 0 then rdErr l net.length rs else netErrP net else (chkT l).2

theorem rdErr_ok {l : List Kn} {n : Int} {rs : List Rdg} (h : rdErr l n rs = 0) : 0 < rs.length ∧ rs.length ≤ 10 ∧ ∀ i, i < rs.length → rdgErr l n (rs.getD i default) = 0 := by
  unfold rdErr at h
  split at h
  · omega
  · split at h
    · omega
    · rw [firstE_ok] at h
      exact ⟨by omega, by omega, fun i hi => h i (by omega) (by omega)⟩

theorem sumTo_bd {net : List Int} (h : ∀ x ∈ net, -10000000 ≤ x ∧ x ≤ 10000000) : ∀ n : Nat, -10000000 * (n : Int) ≤ sumTo net n ∧ sumTo net n ≤ 10000000 * n
  | 0 => by simp [sumTo]
  | n + 1 => by
    have ih := sumTo_bd h n
    have e : -10000000 ≤ net.getD n 0 ∧ net.getD n 0 ≤ 10000000 := by
      rw [List.getD_eq_getElem?_getD]
      cases hn : net[n]? with
      | none => simp
      | some x => simpa using h x (List.mem_of_getElem? hn)
    unfold sumTo
    omega

theorem getD_take {net : List Int} {j n : Nat} (h : j < n) : (net.take n).getD j 0 = net.getD j 0 := by
  rw [List.getD_eq_getElem?_getD, List.getD_eq_getElem?_getD, List.getElem?_take_of_lt h]

theorem take_snoc {α : Type} {l : List α} {i : Nat} {d : α} (h : i < l.length) : l.take (i + 1) = l.take i ++ [l.getD i d] := by
  rw [List.take_succ_eq_append_getElem h, List.getD_eq_getElem?_getD]
  simp [h]

theorem p_permitted {l : List Kn} {net : List Int} {rs : List Rdg} (hl : l.length ≤ 1000000000000) (hn : net.length ≤ 1000000000000) :
    Contract Try.prog 72 [tabI l, .slc 1 (net.map (.int .i64)), .slc 3 (rs.map rdI)]
    (if allErr l net rs = 0 then .tup [.slc 2 ((rs.map (perm l net)).map rnI), .int .i64 0] else .tup [.slc 2 [], .int .i64 (allErr l net rs)]) := by
  refine contract_run Try.func72 k72 rfl ?_
  simp only [body72, b72, res72, b72k0, b72k1, b72k2, b72k3, b72k4, b72k5, b72k6, knI, tabI, pieceI, pairI, lpI, stI, flI, rdI, rnI, getD_kn, ↓reduceIte, reduceCtorEq, Nat.reduceEqDiff, Nat.reduceAdd, Nat.reduceMul, Nat.reduceSub, Nat.reduceLeDiff, Nat.reduceBEq, Int.reduceToNat, Int.reduceLE, Int.reduceLT, Int.reduceEq, Int.reduceNe, di0, di1, di2, di3, di4, di5, di6, di7, di8, di9, postX_ret, postX_normal, ex_some]
  refine calls_of (p_tableErr hl) ?_; simp only [knI, tabI, pieceI, pairI, lpI, stI, flI, rdI, rnI, getD_kn, res72, b72k0, b72k1, b72k2, b72k3, b72k4, b72k5, b72k6, ↓reduceIte, reduceCtorEq, Nat.reduceEqDiff, Nat.reduceAdd, Nat.reduceMul, Nat.reduceSub, Nat.reduceLeDiff, Nat.reduceBEq, Int.reduceToNat, Int.reduceLE, Int.reduceLT, Int.reduceEq, Int.reduceNe, di0, di1, di2, di3, di4, di5, di6, di7, di8, di9, postX_ret, postX_normal, ex_some]
  refine calls_of (p_netErr hn) ?_; simp only [knI, tabI, pieceI, pairI, lpI, stI, flI, rdI, rnI, getD_kn, res72, b72k0, b72k1, b72k2, b72k3, b72k4, b72k5, b72k6, ↓reduceIte, reduceCtorEq, Nat.reduceEqDiff, Nat.reduceAdd, Nat.reduceMul, Nat.reduceSub, Nat.reduceLeDiff, Nat.reduceBEq, Int.reduceToNat, Int.reduceLE, Int.reduceLT, Int.reduceEq, Int.reduceNe, di0, di1, di2, di3, di4, di5, di6, di7, di8, di9, postX_ret, postX_normal, ex_some]
  refine calls_of p_first2 ?_; simp only [knI, tabI, pieceI, pairI, lpI, stI, flI, rdI, rnI, getD_kn, res72, b72k0, b72k1, b72k2, b72k3, b72k4, b72k5, b72k6, ↓reduceIte, reduceCtorEq, Nat.reduceEqDiff, Nat.reduceAdd, Nat.reduceMul, Nat.reduceSub, Nat.reduceLeDiff, Nat.reduceBEq, Int.reduceToNat, Int.reduceLE, Int.reduceLT, Int.reduceEq, Int.reduceNe, di0, di1, di2, di3, di4, di5, di6, di7, di8, di9, postX_ret, postX_normal, ex_some]
  unfold allErr
  by_cases h0 : (chkT l).2 = 0
  · simp only [if_pos h0]
    have hv := chkT_ok.1 h0
    by_cases h1 : netErrP net = 0
    · simp only [if_pos h1, knI, tabI, pieceI, pairI, lpI, stI, flI, rdI, rnI, getD_kn, ↓reduceIte, reduceCtorEq, Nat.reduceEqDiff, Nat.reduceAdd, Nat.reduceMul, Nat.reduceSub, Nat.reduceLeDiff, Nat.reduceBEq, Int.reduceToNat, Int.reduceLE, Int.reduceLT, Int.reduceEq, Int.reduceNe, di0, di1, di2, di3, di4, di5, di6, di7, di8, di9, postX_ret, postX_normal, ex_some]
      have hne := netErrP_ok.1 h1
      refine calls_of (p_readingsErr hv) ?_; simp only [knI, tabI, pieceI, pairI, lpI, stI, flI, rdI, rnI, getD_kn, res72, b72k0, b72k1, b72k2, b72k3, b72k4, b72k5, b72k6, ↓reduceIte, reduceCtorEq, Nat.reduceEqDiff, Nat.reduceAdd, Nat.reduceMul, Nat.reduceSub, Nat.reduceLeDiff, Nat.reduceBEq, Int.reduceToNat, Int.reduceLE, Int.reduceLT, Int.reduceEq, Int.reduceNe, di0, di1, di2, di3, di4, di5, di6, di7, di8, di9, postX_ret, postX_normal, ex_some]
      by_cases h2 : rdErr l net.length rs = 0
      · simp only [if_pos h2, knI, tabI, pieceI, pairI, lpI, stI, flI, rdI, rnI, getD_kn, ↓reduceIte, reduceCtorEq, Nat.reduceEqDiff, Nat.reduceAdd, Nat.reduceMul, Nat.reduceSub, Nat.reduceLeDiff, Nat.reduceBEq, Int.reduceToNat, Int.reduceLE, Int.reduceLT, Int.reduceEq, Int.reduceNe, di0, di1, di2, di3, di4, di5, di6, di7, di8, di9, postX_ret, postX_normal, ex_some]
        have hr := rdErr_ok h2
        refine loop_keep (α := Nat) rfl (fun i => rs.length - i) (fun i => i ≤ rs.length)
          (fun i => [(1, .imm (.slc 1 (net.map (.int .i64)))), (9, .ref 9 0), (11, .own 11), (35, .imm (.slc 3 (rs.map rdI))), (36, .imm (.int .i64 rs.length)), (37, .imm (.int .i64 i))])
          (fun i => [(9, .box [.imm (.slc 2 (l.map knI))]), (11, .tok 2 (((rs.take i).map (perm l net)).map rnI))]) 0 (Nat.zero_le _) (by simp only [↓reduceIte, reduceCtorEq, Nat.reduceEqDiff, Nat.reduceAdd, Nat.reduceMul, Nat.reduceSub, Nat.reduceLeDiff, Nat.reduceBEq, Int.reduceToNat, Int.reduceLE, Int.reduceLT, Int.reduceEq, Int.reduceNe, di0, di1, di2, di3, di4, di5, di6, di7, di8, di9, postX_ret, postX_normal, ex_some] <;> rfl) ?_
        intro i hi ih
        simp only [res72, b72k0, b72k1, b72k2, b72k3, b72k4, b72k5, b72k6, knI, tabI, pieceI, pairI, lpI, stI, flI, rdI, rnI, getD_kn, ↓reduceIte, reduceCtorEq, Nat.reduceEqDiff, Nat.reduceAdd, Nat.reduceMul, Nat.reduceSub, Nat.reduceLeDiff, Nat.reduceBEq, Int.reduceToNat, Int.reduceLE, Int.reduceLT, Int.reduceEq, Int.reduceNe, di0, di1, di2, di3, di4, di5, di6, di7, di8, di9, postX_ret, postX_normal, ex_some]
        split
        · rename_i h3
          obtain ⟨⟨t1, t2⟩, l1, l2, l3⟩ := rdgErr_ok (hr.2.2 i (by omega))
          have b1 := volume_isV hv l1
          have b2 := volume_isV hv l2
          have b3 := isV_bd hv b1.2.1
          have b4 := isV_bd hv b2.1
          have htk := take_snoc (d := default) (show i < rs.length by omega)
          repeat (refine And.intro (by omega) ?_)
          generalize hrr : rs.getD i default = r at *
          repeat (refine And.intro (by omega) ?_)
          refine loop_keep (α := Nat) rfl (fun j => r.tick.toNat - j) (fun j => j ≤ r.tick.toNat)
            (fun j => [(1, .imm (.slc 1 (net.map (.int .i64)))), (9, .ref 9 0), (11, .own 11), (13, .ref 13 0), (14, .imm (.int .i64 (sumTo net j))), (35, .imm (.slc 3 (rs.map rdI))), (36, .imm (.int .i64 rs.length)), (37, .imm (.int .i64 i)),
              (44, .imm (.slc 1 ((net.take r.tick.toNat).map (.int .i64)))), (45, .imm (.int .i64 (net.take r.tick.toNat).length)), (46, .imm (.int .i64 j))])
            (fun j => [(9, .box [.imm (.slc 2 (l.map knI))]), (11, .tok 2 (((rs.take i).map (perm l net)).map rnI)), (13, .box [.imm (.int .i64 r.tick), .imm (.int .i64 r.lo), .imm (.int .i64 r.hi)])]) 0 (Nat.zero_le _) (by simp only [↓reduceIte, reduceCtorEq, Nat.reduceEqDiff, Nat.reduceAdd, Nat.reduceMul, Nat.reduceSub, Nat.reduceLeDiff, Nat.reduceBEq, Int.reduceToNat, Int.reduceLE, Int.reduceLT, Int.reduceEq, Int.reduceNe, di0, di1, di2, di3, di4, di5, di6, di7, di8, di9, postX_ret, postX_normal, ex_some] <;> rfl) ?_
          intro j hj ih2
          have sb := sumTo_bd hne.2 j
          have sb2 := sumTo_bd hne.2 (j + 1)
          have hlen : (net.take r.tick.toNat).length = r.tick.toNat := by rw [List.length_take]; omega
          simp only [res72, b72k0, b72k1, b72k2, b72k3, b72k4, b72k5, b72k6, hlen, knI, tabI, pieceI, pairI, lpI, stI, flI, rdI, rnI, getD_kn, ↓reduceIte, reduceCtorEq, Nat.reduceEqDiff, Nat.reduceAdd, Nat.reduceMul, Nat.reduceSub, Nat.reduceLeDiff, Nat.reduceBEq, Int.reduceToNat, Int.reduceLE, Int.reduceLT, Int.reduceEq, Int.reduceNe, di0, di1, di2, di3, di4, di5, di6, di7, di8, di9, postX_ret, postX_normal, ex_some]
          split
          · rename_i h4
            repeat (refine And.intro (by omega) ?_)
            rw [getD_take (by omega), show sumTo net j + net.getD j 0 = sumTo net (j + 1) from rfl, wrap64 (n := sumTo net (j + 1)) (by omega) (by omega), wrap64 (n := (j : Int) + 1) (by omega) (by omega)]
            exact ih2 (j + 1) _ _ (by omega) (by omega) (by simp only [hlen, ↓reduceIte, reduceCtorEq, Nat.reduceEqDiff, Nat.reduceAdd, Nat.reduceMul, Nat.reduceSub, Nat.reduceLeDiff, Nat.reduceBEq, Int.reduceToNat, Int.reduceLE, Int.reduceLT, Int.reduceEq, Int.reduceNe, di0, di1, di2, di3, di4, di5, di6, di7, di8, di9, postX_ret, postX_normal, ex_some] <;> rfl)
          · rename_i h4
            have : j = r.tick.toNat := by omega
            subst this
            refine calls_of (p_volumeAt hv l1) ?_; simp only [knI, tabI, pieceI, pairI, lpI, stI, flI, rdI, rnI, getD_kn, res72, b72k0, b72k1, b72k2, b72k3, b72k4, b72k5, b72k6, ↓reduceIte, reduceCtorEq, Nat.reduceEqDiff, Nat.reduceAdd, Nat.reduceMul, Nat.reduceSub, Nat.reduceLeDiff, Nat.reduceBEq, Int.reduceToNat, Int.reduceLE, Int.reduceLT, Int.reduceEq, Int.reduceNe, di0, di1, di2, di3, di4, di5, di6, di7, di8, di9, postX_ret, postX_normal, ex_some]
            refine calls_of (p_volumeAt hv l2) ?_; simp only [knI, tabI, pieceI, pairI, lpI, stI, flI, rdI, rnI, getD_kn, res72, b72k0, b72k1, b72k2, b72k3, b72k4, b72k5, b72k6, ↓reduceIte, reduceCtorEq, Nat.reduceEqDiff, Nat.reduceAdd, Nat.reduceMul, Nat.reduceSub, Nat.reduceLeDiff, Nat.reduceBEq, Int.reduceToNat, Int.reduceLE, Int.reduceLT, Int.reduceEq, Int.reduceNe, di0, di1, di2, di3, di4, di5, di6, di7, di8, di9, postX_ret, postX_normal, ex_some]
            rw [wrap64 (n := volHi l r.lo - sumTo net r.tick.toNat) (by omega) (by omega), wrap64 (n := volLo l r.hi - sumTo net r.tick.toNat) (by omega) (by omega), wrap64 (n := (i : Int) + 1) (by omega) (by omega)]
            refine ⟨by simp; omega, by simp; omega, ?_⟩
            refine ih (i + 1) _ _ (by omega) (by omega) ?_
            rw [htk, List.map_append]
            simp only [rn_snoc, knI, tabI, pieceI, pairI, lpI, stI, flI, rdI, rnI, getD_kn, ↓reduceIte, reduceCtorEq, Nat.reduceEqDiff, Nat.reduceAdd, Nat.reduceMul, Nat.reduceSub, Nat.reduceLeDiff, Nat.reduceBEq, Int.reduceToNat, Int.reduceLE, Int.reduceLT, Int.reduceEq, Int.reduceNe, di0, di1, di2, di3, di4, di5, di6, di7, di8, di9, postX_ret, postX_normal, ex_some]
            rfl
        · rename_i h3
          rw [List.take_of_length_le (by omega)]
      · simp only [if_neg h2, knI, tabI, pieceI, pairI, lpI, stI, flI, rdI, rnI, getD_kn, ↓reduceIte, reduceCtorEq, Nat.reduceEqDiff, Nat.reduceAdd, Nat.reduceMul, Nat.reduceSub, Nat.reduceLeDiff, Nat.reduceBEq, Int.reduceToNat, Int.reduceLE, Int.reduceLT, Int.reduceEq, Int.reduceNe, di0, di1, di2, di3, di4, di5, di6, di7, di8, di9, postX_ret, postX_normal, ex_some]
    · simp only [if_neg h1, knI, tabI, pieceI, pairI, lpI, stI, flI, rdI, rnI, getD_kn, ↓reduceIte, reduceCtorEq, Nat.reduceEqDiff, Nat.reduceAdd, Nat.reduceMul, Nat.reduceSub, Nat.reduceLeDiff, Nat.reduceBEq, Int.reduceToNat, Int.reduceLE, Int.reduceLT, Int.reduceEq, Int.reduceNe, di0, di1, di2, di3, di4, di5, di6, di7, di8, di9, postX_ret, postX_normal, ex_some]
  · simp only [if_neg h0, knI, tabI, pieceI, pairI, lpI, stI, flI, rdI, rnI, getD_kn, ↓reduceIte, reduceCtorEq, Nat.reduceEqDiff, Nat.reduceAdd, Nat.reduceMul, Nat.reduceSub, Nat.reduceLeDiff, Nat.reduceBEq, Int.reduceToNat, Int.reduceLE, Int.reduceLT, Int.reduceEq, Int.reduceNe, di0, di1, di2, di3, di4, di5, di6, di7, di8, di9, postX_ret, postX_normal, ex_some]

theorem p_common {rs : List Rn} (h : 0 < rs.length) (hl : rs.length ≤ 1000000000) : Contract Try.prog 73 [.slc 2 (rs.map rnI)] (.tup [rnI (meets rs (rs.length - 1)), .bool (decide ((meets rs (rs.length - 1)).1 ≤ (meets rs (rs.length - 1)).2))]) := by
  refine contract_run Try.func73 k73 rfl ?_
  simp only [body73, b73, res73, b73k0, b73k1, knI, tabI, pieceI, pairI, lpI, stI, flI, rdI, rnI, getD_kn, ↓reduceIte, reduceCtorEq, Nat.reduceEqDiff, Nat.reduceAdd, Nat.reduceMul, Nat.reduceSub, Nat.reduceLeDiff, Nat.reduceBEq, Int.reduceToNat, Int.reduceLE, Int.reduceLT, Int.reduceEq, Int.reduceNe, di0, di1, di2, di3, di4, di5, di6, di7, di8, di9, postX_ret, postX_normal, ex_some]
  repeat (refine And.intro (by omega) ?_)
  have hlen : ((rs.take rs.length).drop 1).length = rs.length - 1 := by simp
  have hget : ∀ j, j < rs.length - 1 → kn ((rs.take rs.length).drop 1) j = rn rs (j + 1) := by
    intro j hj
    unfold kn rn
    rw [List.take_length, List.getD_eq_getElem?_getD, List.getD_eq_getElem?_getD, List.getElem?_drop, Nat.add_comm]
  refine loop_keep (α := Nat) rfl (fun j => rs.length - j) (fun j => j ≤ rs.length - 1)
    (fun j => [(2, .ref 2 0), (4, .ref 4 0), (11, .imm (.slc 2 (((rs.take rs.length).drop 1).map rnI))), (12, .imm (.int .i64 ((rs.take rs.length).drop 1).length)), (13, .imm (.int .i64 j))])
    (fun j => [(2, .box [.imm (.int .i64 0), .imm (.int .i64 0)]), (4, .box [.imm (.int .i64 (meets rs j).1), .imm (.int .i64 (meets rs j).2)])]) 0 (Nat.zero_le _) (by simp only [↓reduceIte, reduceCtorEq, Nat.reduceEqDiff, Nat.reduceAdd, Nat.reduceMul, Nat.reduceSub, Nat.reduceLeDiff, Nat.reduceBEq, Int.reduceToNat, Int.reduceLE, Int.reduceLT, Int.reduceEq, Int.reduceNe, di0, di1, di2, di3, di4, di5, di6, di7, di8, di9, postX_ret, postX_normal, ex_some] <;> rfl) ?_
  intro j hj ih
  simp only [res73, b73k0, b73k1, hlen, knI, tabI, pieceI, pairI, lpI, stI, flI, rdI, rnI, getD_kn, ↓reduceIte, reduceCtorEq, Nat.reduceEqDiff, Nat.reduceAdd, Nat.reduceMul, Nat.reduceSub, Nat.reduceLeDiff, Nat.reduceBEq, Int.reduceToNat, Int.reduceLE, Int.reduceLT, Int.reduceEq, Int.reduceNe, di0, di1, di2, di3, di4, di5, di6, di7, di8, di9, postX_ret, postX_normal, ex_some]
  split
  · rename_i h4
    repeat (refine And.intro (by omega) ?_)
    rw [hget j (by omega), wrap64 (by omega) (by omega)]
    exact ih (j + 1) _ _ (by omega) (by omega) (by simp only [hlen, ↓reduceIte, reduceCtorEq, Nat.reduceEqDiff, Nat.reduceAdd, Nat.reduceMul, Nat.reduceSub, Nat.reduceLeDiff, Nat.reduceBEq, Int.reduceToNat, Int.reduceLE, Int.reduceLT, Int.reduceEq, Int.reduceNe, di0, di1, di2, di3, di4, di5, di6, di7, di8, di9, postX_ret, postX_normal, ex_some] <;> rfl)
  · rename_i h4
    have : j = rs.length - 1 := by omega
    subst this
    rfl

theorem p_AgreedOf {l : List Kn} {net : List Int} {rs : List Rdg} (hl : l.length ≤ 1000000000000) (hn : net.length ≤ 1000000000000) :
    Contract Try.prog 27 [tabI l, .slc 1 (net.map (.int .i64)), .slc 3 (rs.map rdI)]
    (if allErr l net rs = 0 then if (meets (rs.map (perm l net)) (rs.length - 1)).1 ≤ (meets (rs.map (perm l net)) (rs.length - 1)).2 then .tup [rnI (meets (rs.map (perm l net)) (rs.length - 1)), .int .i64 0] else .tup [rnI (0, 0), .int .i64 13]
      else .tup [rnI (0, 0), .int .i64 (allErr l net rs)]) := by
  have hc := p_permitted (rs := rs) hl hn
  refine contract_run Try.func27 k27 rfl ?_
  simp only [body27, b27, res27, b27k0, b27k1, knI, tabI, pieceI, pairI, lpI, stI, flI, rdI, rnI, getD_kn, ↓reduceIte, reduceCtorEq, Nat.reduceEqDiff, Nat.reduceAdd, Nat.reduceMul, Nat.reduceSub, Nat.reduceLeDiff, Nat.reduceBEq, Int.reduceToNat, Int.reduceLE, Int.reduceLT, Int.reduceEq, Int.reduceNe, di0, di1, di2, di3, di4, di5, di6, di7, di8, di9, postX_ret, postX_normal, ex_some]
  by_cases h0 : allErr l net rs = 0
  · rw [if_pos h0] at hc ⊢
    have hr : 0 < rs.length ∧ rs.length ≤ 10 := by
      unfold allErr at h0
      split at h0
      · split at h0
        · have := rdErr_ok h0; omega
        · contradiction
      · contradiction
    have hcm := p_common (rs := rs.map (perm l net)) (by simp; omega) (by simp; omega)
    rw [List.length_map] at hcm
    refine calls_of hc ?_; simp only [knI, tabI, pieceI, pairI, lpI, stI, flI, rdI, rnI, getD_kn, res27, b27k0, b27k1, ↓reduceIte, reduceCtorEq, Nat.reduceEqDiff, Nat.reduceAdd, Nat.reduceMul, Nat.reduceSub, Nat.reduceLeDiff, Nat.reduceBEq, Int.reduceToNat, Int.reduceLE, Int.reduceLT, Int.reduceEq, Int.reduceNe, di0, di1, di2, di3, di4, di5, di6, di7, di8, di9, postX_ret, postX_normal, ex_some]
    refine calls_of hcm ?_; simp only [knI, tabI, pieceI, pairI, lpI, stI, flI, rdI, rnI, getD_kn, res27, b27k0, b27k1, ↓reduceIte, reduceCtorEq, Nat.reduceEqDiff, Nat.reduceAdd, Nat.reduceMul, Nat.reduceSub, Nat.reduceLeDiff, Nat.reduceBEq, Int.reduceToNat, Int.reduceLE, Int.reduceLT, Int.reduceEq, Int.reduceNe, di0, di1, di2, di3, di4, di5, di6, di7, di8, di9, postX_ret, postX_normal, ex_some]
    split
    · rfl
    · rfl
  · rw [if_neg h0] at hc ⊢
    refine calls_of hc ?_; simp only [knI, tabI, pieceI, pairI, lpI, stI, flI, rdI, rnI, getD_kn, res27, b27k0, b27k1, ↓reduceIte, reduceCtorEq, Nat.reduceEqDiff, Nat.reduceAdd, Nat.reduceMul, Nat.reduceSub, Nat.reduceLeDiff, Nat.reduceBEq, Int.reduceToNat, Int.reduceLE, Int.reduceLT, Int.reduceEq, Int.reduceNe, di0, di1, di2, di3, di4, di5, di6, di7, di8, di9, postX_ret, postX_normal, ex_some]
    rw [if_neg h0]; trivial
end Go.DI

