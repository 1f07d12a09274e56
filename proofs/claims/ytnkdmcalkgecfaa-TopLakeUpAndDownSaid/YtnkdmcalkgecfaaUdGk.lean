/- Contracts of the reference, readings. No condition. -/
import Derived.Test.YtnkdmcalkgecfaaUdGi
import Derived.Test.YtnkdmcalkgecfaaUdGg
import Derived.Test.YtnkdmcalkgecfaaUdGj
/- Contracts: the reference's tables of lakes. No condition. -/
set_option linter.unusedSimpArgs false
namespace Go.DI
open Go.Proofs Go.RowKit Lk

theorem r_Bottom {l : List Kn} (h : 0 < l.length) : Contract Try.prog 55 [tabI l] (knI (bot l)) := by
  refine contract_run Try.func55 k55 rfl ?_
  simp only [body55, b55, res55, lkE, ↓reduceIte, reduceCtorEq, Nat.reduceEqDiff, Nat.reduceAdd, Nat.reduceMul, Nat.reduceSub, Nat.reduceLeDiff, Nat.reduceBEq, Int.reduceToNat, Int.reduceLE, Int.reduceLT, Int.reduceEq, Int.reduceNe, di]
  repeat (refine And.intro (by omega) ?_)
  rfl
theorem r_Top {l : List Kn} (h : 0 < l.length) (hl : l.length ≤ 1000000000000) : Contract Try.prog 56 [tabI l] (knI (top l)) := by
  have e : IntKind.wrap .i64 ((l.length : Int) - 1) = ((l.length - 1 : Nat) : Int) := by rw [wrap64 (by omega) (by omega)]; omega
  refine contract_run Try.func56 k56 rfl ?_
  simp only [body56, b56, res56, lkE, ↓reduceIte, reduceCtorEq, Nat.reduceEqDiff, Nat.reduceAdd, Nat.reduceMul, Nat.reduceSub, Nat.reduceLeDiff, Nat.reduceBEq, Int.reduceToNat, Int.reduceLE, Int.reduceLT, Int.reduceEq, Int.reduceNe, di]
  simp only [e, i_toNat]
  repeat (refine And.intro (by omega) ?_)
  rfl
theorem r_IsLevel {l : List Kn} {x : Int} (h : 0 < l.length) (hl : l.length ≤ 1000000000000) : Contract Try.prog 57 [tabI l, .int .i64 x] (.bool (decide (isL l x))) := by
  refine contract_run Try.func57 k57 rfl ?_
  simp only [body57, b57, res57, lkE, ↓reduceIte, reduceCtorEq, Nat.reduceEqDiff, Nat.reduceAdd, Nat.reduceMul, Nat.reduceSub, Nat.reduceLeDiff, Nat.reduceBEq, Int.reduceToNat, Int.reduceLE, Int.reduceLT, Int.reduceEq, Int.reduceNe, di]
  refine calls_of (r_Bottom h) ?_; simp only [lkE, res57, ↓reduceIte, reduceCtorEq, Nat.reduceEqDiff, Nat.reduceAdd, Nat.reduceMul, Nat.reduceSub, Nat.reduceLeDiff, Nat.reduceBEq, Int.reduceToNat, Int.reduceLE, Int.reduceLT, Int.reduceEq, Int.reduceNe, di]
  refine calls_of (r_Top h hl) ?_; simp only [lkE, res57, ↓reduceIte, reduceCtorEq, Nat.reduceEqDiff, Nat.reduceAdd, Nat.reduceMul, Nat.reduceSub, Nat.reduceLeDiff, Nat.reduceBEq, Int.reduceToNat, Int.reduceLE, Int.reduceLT, Int.reduceEq, Int.reduceNe, di]
  refine calls_of c_Within ?_; simp only [lkE, res57, ↓reduceIte, reduceCtorEq, Nat.reduceEqDiff, Nat.reduceAdd, Nat.reduceMul, Nat.reduceSub, Nat.reduceLeDiff, Nat.reduceBEq, Int.reduceToNat, Int.reduceLE, Int.reduceLT, Int.reduceEq, Int.reduceNe, di]
  rfl
theorem r_IsVolume {l : List Kn} {x : Int} (h : 0 < l.length) (hl : l.length ≤ 1000000000000) : Contract Try.prog 35 [tabI l, .int .i64 x] (.bool (decide (isV l x))) := by
  refine contract_run Try.func35 k35 rfl ?_
  simp only [body35, b35, res35, lkE, ↓reduceIte, reduceCtorEq, Nat.reduceEqDiff, Nat.reduceAdd, Nat.reduceMul, Nat.reduceSub, Nat.reduceLeDiff, Nat.reduceBEq, Int.reduceToNat, Int.reduceLE, Int.reduceLT, Int.reduceEq, Int.reduceNe, di]
  refine calls_of (r_Bottom h) ?_; simp only [lkE, res35, ↓reduceIte, reduceCtorEq, Nat.reduceEqDiff, Nat.reduceAdd, Nat.reduceMul, Nat.reduceSub, Nat.reduceLeDiff, Nat.reduceBEq, Int.reduceToNat, Int.reduceLE, Int.reduceLT, Int.reduceEq, Int.reduceNe, di]
  refine calls_of (r_Top h hl) ?_; simp only [lkE, res35, ↓reduceIte, reduceCtorEq, Nat.reduceEqDiff, Nat.reduceAdd, Nat.reduceMul, Nat.reduceSub, Nat.reduceLeDiff, Nat.reduceBEq, Int.reduceToNat, Int.reduceLE, Int.reduceLT, Int.reduceEq, Int.reduceNe, di]
  refine calls_of c_Within ?_; simp only [lkE, res35, ↓reduceIte, reduceCtorEq, Nat.reduceEqDiff, Nat.reduceAdd, Nat.reduceMul, Nat.reduceSub, Nat.reduceLeDiff, Nat.reduceBEq, Int.reduceToNat, Int.reduceLE, Int.reduceLT, Int.reduceEq, Int.reduceNe, di]
  rfl

theorem r_piece {l : List Kn} {i : Nat} (h0 : 0 < i) (hi : i < l.length) (hl : l.length ≤ 1000000000000) (ka : KB (kn l i)) (kb : KB (kn l (i - 1))) (hd : dh l i ≠ 0) : Contract Try.prog 67 [tabI l, .int .i64 i] (ratio (Rat.divInt (dv l i) (dh l i))) := by
  have e : IntKind.wrap .i64 ((i : Int) - 1) = ((i - 1 : Nat) : Int) := by rw [wrap64 (by omega) (by omega)]; omega
  unfold KB at ka kb
  have e1 : (kn l i).2 - (kn l (i - 1)).2 = dv l i := rfl
  have e2 : (kn l i).1 - (kn l (i - 1)).1 = dh l i := rfl
  refine contract_run Try.func67 k67 rfl ?_
  simp only [body67, b67, res67, lkE, ↓reduceIte, reduceCtorEq, Nat.reduceEqDiff, Nat.reduceAdd, Nat.reduceMul, Nat.reduceSub, Nat.reduceLeDiff, Nat.reduceBEq, Int.reduceToNat, Int.reduceLE, Int.reduceLT, Int.reduceEq, Int.reduceNe, di]
  simp only [e, i_toNat]
  repeat (refine And.intro (by omega) ?_)
  rw [wrap64 (n := (kn l i).2 - (kn l (i - 1)).2) (by omega) (by omega), wrap64 (n := (kn l i).1 - (kn l (i - 1)).1) (by omega) (by omega), e1, e2]
  refine calls_of (c_RatioOf (by omega) (by omega) (by omega) (by omega) hd) ?_
  simp only [ratio, res67, lkE, ↓reduceIte, reduceCtorEq, Nat.reduceEqDiff, Nat.reduceAdd, Nat.reduceMul, Nat.reduceSub, Nat.reduceLeDiff, Nat.reduceBEq, Int.reduceToNat, Int.reduceLE, Int.reduceLT, Int.reduceEq, Int.reduceNe, di]

theorem fw_piece {l : List Kn} {i : Nat} (ka : KB (kn l i)) (kb : KB (kn l (i - 1))) (hd : dh l i ≠ 0) : Fw 2 (Rat.divInt (dv l i) (dh l i)) := by
  unfold KB at ka kb
  have e1 : (kn l i).2 - (kn l (i - 1)).2 = dv l i := rfl
  have e2 : (kn l i).1 - (kn l (i - 1)).1 = dh l i := rfl
  exact fw_divInt (by omega) (by omega) hd

theorem r_CheckTable {l : List Kn} (hl : l.length ≤ 1000000000000) : Contract Try.prog 54 [tabI l] (pairI (chkT l)) := by
  refine contract_run Try.func54 k54 rfl ?_
  simp only [body54, b54, res54, b54k0, b54k1, b54k2, b54k3, b54k4, b54k5, b54k6, b54k7, lkE, ↓reduceIte, reduceCtorEq, Nat.reduceEqDiff, Nat.reduceAdd, Nat.reduceMul, Nat.reduceSub, Nat.reduceLeDiff, Nat.reduceBEq, Int.reduceToNat, Int.reduceLE, Int.reduceLT, Int.reduceEq, Int.reduceNe, di]
  unfold chkT
  by_cases h1 : l.length < 2
  · simp only [if_pos (show (l.length : Int) < 2 by omega), if_pos h1, ↓reduceIte, reduceCtorEq, Nat.reduceEqDiff, Nat.reduceAdd, Nat.reduceMul, Nat.reduceSub, Nat.reduceLeDiff, Nat.reduceBEq, Int.reduceToNat, Int.reduceLE, Int.reduceLT, Int.reduceEq, Int.reduceNe, di]
  · by_cases h2 : 10 < l.length
    · simp only [if_neg (show ¬ (l.length : Int) < 2 by omega), if_pos (show 10 < (l.length : Int) by omega), if_neg h1, if_pos h2, ↓reduceIte, reduceCtorEq, Nat.reduceEqDiff, Nat.reduceAdd, Nat.reduceMul, Nat.reduceSub, Nat.reduceLeDiff, Nat.reduceBEq, Int.reduceToNat, Int.reduceLE, Int.reduceLT, Int.reduceEq, Int.reduceNe, di]
    · simp only [if_neg (show ¬ (l.length : Int) < 2 by omega), if_neg (show ¬ 10 < (l.length : Int) by omega), if_neg h1, if_neg h2, ↓reduceIte, reduceCtorEq, Nat.reduceEqDiff, Nat.reduceAdd, Nat.reduceMul, Nat.reduceSub, Nat.reduceLeDiff, Nat.reduceBEq, Int.reduceToNat, Int.reduceLE, Int.reduceLT, Int.reduceEq, Int.reduceNe, di]
      refine loop_keep (α := Nat) rfl (fun i => l.length - i) (fun i => i ≤ l.length ∧ (∀ j, j < i → knotErr l j = 0) ∧ firstE (knotErr l) (l.length - i) i = firstE (knotErr l) l.length 0)
        (fun i => [(1, .ref 1 0), (4, .imm (.int .i64 i))]) (fun _ => [(1, .box [.imm (.slc 2 (l.map knI))])]) 0 ⟨Nat.zero_le _, fun j hj => by omega, rfl⟩ (by simp only [↓reduceIte, reduceCtorEq, Nat.reduceEqDiff, Nat.reduceAdd, Nat.reduceMul, Nat.reduceSub, Nat.reduceLeDiff, Nat.reduceBEq, Int.reduceToNat, Int.reduceLE, Int.reduceLT, Int.reduceEq, Int.reduceNe, di] <;> rfl) ?_
      intro i ⟨hi, hb, he⟩ ih
      rw [← he]
      simp only [res54, b54k0, b54k1, b54k2, b54k3, b54k4, b54k5, b54k6, b54k7, ↓reduceIte, reduceCtorEq, Nat.reduceEqDiff, Nat.reduceAdd, Nat.reduceMul, Nat.reduceSub, Nat.reduceLeDiff, Nat.reduceBEq, Int.reduceToNat, Int.reduceLE, Int.reduceLT, Int.reduceEq, Int.reduceNe, di]
      split
      · rename_i h
        have hil : i < l.length := by omega
        rw [show l.length - i = (l.length - (i + 1)) + 1 by omega, firstE_succ]
        have hnext : knotErr l i = 0 → firstE (knotErr l) (l.length - (i + 1)) (i + 1) = firstE (knotErr l) l.length 0 := by
          intro k
          rw [← he, show l.length - i = (l.length - (i + 1)) + 1 by omega, firstE_succ, if_pos k]
        have hbn : knotErr l i = 0 → ∀ j, j < i + 1 → knotErr l j = 0 := by
          intro k j hj
          by_cases e : j = i
          · subst e; exact k
          · exact hb j (by omega)
        repeat (refine And.intro (by omega) ?_)
        simp only [lkE, ↓reduceIte, reduceCtorEq, Nat.reduceEqDiff, Nat.reduceAdd, Nat.reduceMul, Nat.reduceSub, Nat.reduceLeDiff, Nat.reduceBEq, Int.reduceToNat, Int.reduceLE, Int.reduceLT, Int.reduceEq, Int.reduceNe, di]
        refine calls_of c_Within ?_; simp only [lkE, res54, b54k0, b54k1, b54k2, b54k3, b54k4, b54k5, b54k6, b54k7, ↓reduceIte, reduceCtorEq, Nat.reduceEqDiff, Nat.reduceAdd, Nat.reduceMul, Nat.reduceSub, Nat.reduceLeDiff, Nat.reduceBEq, Int.reduceToNat, Int.reduceLE, Int.reduceLT, Int.reduceEq, Int.reduceNe, di]
        have hbad : ¬ (Wi (kn l i).1 0 1000000 ∧ Wi (kn l i).2 0 1000000000) → knotErr l i = 2 := fun k => by unfold knotErr; rw [if_pos k]
        split
        · rename_i a1
          refine calls_of c_Within ?_; simp only [lkE, res54, b54k0, b54k1, b54k2, b54k3, b54k4, b54k5, b54k6, b54k7, ↓reduceIte, reduceCtorEq, Nat.reduceEqDiff, Nat.reduceAdd, Nat.reduceMul, Nat.reduceSub, Nat.reduceLeDiff, Nat.reduceBEq, Int.reduceToNat, Int.reduceLE, Int.reduceLT, Int.reduceEq, Int.reduceNe, di]
          split
          · rename_i a2
            split
            · rename_i a3
              have k0 : knotErr l i = 0 := by unfold knotErr Wi; rw [if_neg (by simp [a1, a2]), if_pos (by omega)]
              rw [if_pos k0, wrap64 (by omega) (by omega)]
              rw [hnext k0]
              refine ih (i + 1) _ _ (by omega) ⟨by omega, hbn k0, hnext k0⟩ (by simp only [↓reduceIte, reduceCtorEq, Nat.reduceEqDiff, Nat.reduceAdd, Nat.reduceMul, Nat.reduceSub, Nat.reduceLeDiff, Nat.reduceBEq, Int.reduceToNat, Int.reduceLE, Int.reduceLT, Int.reduceEq, Int.reduceNe, di] <;> rfl)
            · rename_i a3
              have hi0 : 0 < i := by omega
              have e1 : IntKind.wrap .i64 ((i : Int) - 1) = ((i - 1 : Nat) : Int) := by rw [wrap64 (by omega) (by omega)]; omega
              have kb1 : KB (kn l (i - 1)) := kb_of (hb (i - 1) (by omega))
              have kb2 : KB (kn l i) := by unfold KB; omega
              have ke : knotErr l i = if (kn l i).1 ≤ (kn l (i - 1)).1 ∨ (kn l i).2 ≤ (kn l (i - 1)).2 then 9
                  else if 1 < i ∧ ((kn l i).2 - (kn l (i - 1)).2) * ((kn l (i - 1)).1 - (kn l (i - 2)).1) < ((kn l (i - 1)).2 - (kn l (i - 2)).2) * ((kn l i).1 - (kn l (i - 1)).1) then 22 else 0 := by
                unfold knotErr Wi; rw [if_neg (by simp [a1, a2]), if_neg (by omega)]
              simp only [e1, lkE, ↓reduceIte, reduceCtorEq, Nat.reduceEqDiff, Nat.reduceAdd, Nat.reduceMul, Nat.reduceSub, Nat.reduceLeDiff, Nat.reduceBEq, Int.reduceToNat, Int.reduceLE, Int.reduceLT, Int.reduceEq, Int.reduceNe, di]
              repeat (refine And.intro (by omega) ?_)
              split
              · rename_i a4
                have k9 : knotErr l i = 9 := ke.trans (if_pos (.inl (by omega)))
                rw [k9, if_neg (by omega)]
              · rename_i a4
                repeat (refine And.intro (by omega) ?_)
                split
                · rename_i a5
                  have k9 : knotErr l i = 9 := ke.trans (if_pos (.inr (by omega)))
                  rw [k9, if_neg (by omega)]
                · rename_i a5
                  rw [if_neg (show ¬ ((kn l i).1 ≤ (kn l (i - 1)).1 ∨ (kn l i).2 ≤ (kn l (i - 1)).2) by omega)] at ke
                  split
                  · rename_i a6
                    have kb3 : KB (kn l (i - 2)) := kb_of (hb (i - 2) (by omega))
                    have hp1 := r_piece (l := l) (i := i) hi0 hil hl kb2 kb1 (by unfold dh; omega)
                    have hm := hb (i - 1) (by omega)
                    have hm1 : (kn l (i - 2)).1 < (kn l (i - 1)).1 := by
                      have ee : i - 1 - 1 = i - 2 := by omega
                      unfold knotErr at hm
                      rw [ee] at hm
                      split at hm
                      · omega
                      · split at hm
                        · omega
                        · split at hm
                          · omega
                          · omega
                    have e2 : dh l (i - 1) = (kn l (i - 1)).1 - (kn l (i - 2)).1 := by unfold dh; rw [show i - 1 - 1 = i - 2 by omega]
                    have e3 : dv l (i - 1) = (kn l (i - 1)).2 - (kn l (i - 2)).2 := by unfold dv; rw [show i - 1 - 1 = i - 2 by omega]
                    have kb3' : KB (kn l (i - 1 - 1)) := by rw [show i - 1 - 1 = i - 2 by omega]; exact kb3
                    have hp2 := r_piece (l := l) (i := i - 1) (by omega) (by omega) hl kb1 kb3' (by omega)
                    refine calls_of hp1 ?_; simp only [lkE, res54, b54k0, b54k1, b54k2, b54k3, b54k4, b54k5, b54k6, b54k7, ↓reduceIte, reduceCtorEq, Nat.reduceEqDiff, Nat.reduceAdd, Nat.reduceMul, Nat.reduceSub, Nat.reduceLeDiff, Nat.reduceBEq, Int.reduceToNat, Int.reduceLE, Int.reduceLT, Int.reduceEq, Int.reduceNe, di]
                    simp only [e1]
                    refine calls_of hp2 ?_; simp only [lkE, res54, b54k0, b54k1, b54k2, b54k3, b54k4, b54k5, b54k6, b54k7, ↓reduceIte, reduceCtorEq, Nat.reduceEqDiff, Nat.reduceAdd, Nat.reduceMul, Nat.reduceSub, Nat.reduceLeDiff, Nat.reduceBEq, Int.reduceToNat, Int.reduceLE, Int.reduceLT, Int.reduceEq, Int.reduceNe, di]
                    refine calls_of (c_RatioCmp (fw_piece kb2 kb1 (by unfold dh; omega)) (fw_piece (i := i - 1) kb1 kb3' (by omega)) (by omega)) ?_; simp only [lkE, res54, b54k0, b54k1, b54k2, b54k3, b54k4, b54k5, b54k6, b54k7, ↓reduceIte, reduceCtorEq, Nat.reduceEqDiff, Nat.reduceAdd, Nat.reduceMul, Nat.reduceSub, Nat.reduceLeDiff, Nat.reduceBEq, Int.reduceToNat, Int.reduceLE, Int.reduceLT, Int.reduceEq, Int.reduceNe, di]
                    have hlt : cmpR (Rat.divInt (dv l i) (dh l i)) (Rat.divInt (dv l (i - 1)) (dh l (i - 1))) < 0 ↔ ((kn l i).2 - (kn l (i - 1)).2) * ((kn l (i - 1)).1 - (kn l (i - 2)).1) < ((kn l (i - 1)).2 - (kn l (i - 2)).2) * ((kn l i).1 - (kn l (i - 1)).1) := by
                      rw [cmpR_neg, rlt (by unfold dh; omega) (by omega), e2, e3]
                      rfl
                    split
                    · rename_i a7
                      rw [if_pos ⟨by omega, hlt.1 a7⟩] at ke
                      rw [ke, if_neg (by omega)]
                    · rename_i a7
                      rw [if_neg (fun k => a7 (hlt.2 k.2))] at ke
                      rw [if_pos ke, wrap64 (by omega) (by omega), hnext ke]
                      refine ih (i + 1) _ _ (by omega) ⟨by omega, hbn ke, hnext ke⟩ (by simp only [↓reduceIte, reduceCtorEq, Nat.reduceEqDiff, Nat.reduceAdd, Nat.reduceMul, Nat.reduceSub, Nat.reduceLeDiff, Nat.reduceBEq, Int.reduceToNat, Int.reduceLE, Int.reduceLT, Int.reduceEq, Int.reduceNe, di] <;> rfl)
                  · rename_i a6
                    rw [if_neg (fun k => a6 (by have := k.1; omega))] at ke
                    rw [if_pos ke, wrap64 (by omega) (by omega), hnext ke]
                    refine ih (i + 1) _ _ (by omega) ⟨by omega, hbn ke, hnext ke⟩ (by simp only [↓reduceIte, reduceCtorEq, Nat.reduceEqDiff, Nat.reduceAdd, Nat.reduceMul, Nat.reduceSub, Nat.reduceLeDiff, Nat.reduceBEq, Int.reduceToNat, Int.reduceLE, Int.reduceLT, Int.reduceEq, Int.reduceNe, di] <;> rfl)
          · rename_i a2
            rw [hbad (fun k => a2 k.2), if_neg (by omega)]
        · rename_i a1
          rw [hbad (fun k => a1 k.1), if_neg (by omega)]
      · rename_i h
        rw [show l.length - i = 0 by omega]
        rfl

theorem r_TableErr {l : List Kn} (hl : l.length ≤ 1000000000000) : Contract Try.prog 34 [tabI l] (.int .i64 (chkT l).2) := by
  refine contract_run Try.func34 k34 rfl ?_
  simp only [body34, b34, res34, lkE, ↓reduceIte, reduceCtorEq, Nat.reduceEqDiff, Nat.reduceAdd, Nat.reduceMul, Nat.reduceSub, Nat.reduceLeDiff, Nat.reduceBEq, Int.reduceToNat, Int.reduceLE, Int.reduceLT, Int.reduceEq, Int.reduceNe, di]
  refine calls_of (r_CheckTable hl) ?_; simp only [lkE, res34, ↓reduceIte, reduceCtorEq, Nat.reduceEqDiff, Nat.reduceAdd, Nat.reduceMul, Nat.reduceSub, Nat.reduceLeDiff, Nat.reduceBEq, Int.reduceToNat, Int.reduceLE, Int.reduceLT, Int.reduceEq, Int.reduceNe, di]

end Go.DI

/- Contracts: the reference's levels, volumes, steps and runs; copies. No condition. -/
set_option linter.unusedSimpArgs false
namespace Go.DI
open Go.Proofs Go.RowKit Lk

theorem isL_bd {l : List Kn} (h : Valid l) {x : Int} (hx : isL l x) : 0 ≤ x ∧ x ≤ 1000000 := by
  have z := valid_len h
  have a := h.range (i := 0) z.1
  have b := h.range (i := l.length - 1) (by omega)
  unfold isL Wi bot top at hx
  omega
end Go.DI

/- Contracts: the reference's pairs, steps and runs; copies. No condition. -/
set_option linter.unusedSimpArgs false
namespace Go.DI
open Go.Proofs Go.RowKit Lk

theorem r_PairErr {p : Pair} (h : Sm p) : Contract Try.prog 18 [lpI p] (.int .i64 (pairErr p)) := by
  unfold pairErr
  refine contract_run Try.func18 k18 rfl ?_
  simp only [body18, b18, res18, b18k0, b18k1, b18k2, lkE, ↓reduceIte, reduceCtorEq, Nat.reduceEqDiff, Nat.reduceAdd, Nat.reduceMul, Nat.reduceSub, Nat.reduceLeDiff, Nat.reduceBEq, Int.reduceToNat, Int.reduceLE, Int.reduceLT, Int.reduceEq, Int.reduceNe, di]
  repeat (refine And.intro (by omega) ?_)
  refine calls_of (r_TableErr h.u) ?_; simp only [lkE, res18, b18k0, b18k1, b18k2, ↓reduceIte, reduceCtorEq, Nat.reduceEqDiff, Nat.reduceAdd, Nat.reduceMul, Nat.reduceSub, Nat.reduceLeDiff, Nat.reduceBEq, Int.reduceToNat, Int.reduceLE, Int.reduceLT, Int.reduceEq, Int.reduceNe, di]
  split
  · rename_i h1
    repeat (refine And.intro (by omega) ?_)
    refine calls_of (r_TableErr h.l) ?_; simp only [lkE, res18, b18k0, b18k1, b18k2, ↓reduceIte, reduceCtorEq, Nat.reduceEqDiff, Nat.reduceAdd, Nat.reduceMul, Nat.reduceSub, Nat.reduceLeDiff, Nat.reduceBEq, Int.reduceToNat, Int.reduceLE, Int.reduceLT, Int.reduceEq, Int.reduceNe, di]
    split
    · rename_i h2
      refine calls_of c_Within ?_; simp only [lkE, res18, b18k0, b18k1, b18k2, ↓reduceIte, reduceCtorEq, Nat.reduceEqDiff, Nat.reduceAdd, Nat.reduceMul, Nat.reduceSub, Nat.reduceLeDiff, Nat.reduceBEq, Int.reduceToNat, Int.reduceLE, Int.reduceLT, Int.reduceEq, Int.reduceNe, di]
      split
      · rename_i h3; rw [if_pos (show Wi p.rate 0 1000 from h3)]
      · rename_i h3; rw [if_neg (show ¬ Wi p.rate 0 1000 from h3)]
    · rename_i h2
      rfl
  · rename_i h1
    rfl

theorem r_StateErr {p : Pair} {s : Sta} (h : VPair p) : Contract Try.prog 19 [lpI p, stI s] (.int .i64 (if stOk p s then 0 else 2)) := by
  have hu := valid_len h.u
  have hl := valid_len h.l
  refine contract_run Try.func19 k19 rfl ?_
  simp only [body19, b19, res19, b19k0, lkE, ↓reduceIte, reduceCtorEq, Nat.reduceEqDiff, Nat.reduceAdd, Nat.reduceMul, Nat.reduceSub, Nat.reduceLeDiff, Nat.reduceBEq, Int.reduceToNat, Int.reduceLE, Int.reduceLT, Int.reduceEq, Int.reduceNe, di]
  repeat (refine And.intro (by omega) ?_)
  refine calls_of (r_IsVolume hu.1 hu.2) ?_; simp only [lkE, res19, b19k0, ↓reduceIte, reduceCtorEq, Nat.reduceEqDiff, Nat.reduceAdd, Nat.reduceMul, Nat.reduceSub, Nat.reduceLeDiff, Nat.reduceBEq, Int.reduceToNat, Int.reduceLE, Int.reduceLT, Int.reduceEq, Int.reduceNe, di]
  split
  · rename_i h1
    repeat (refine And.intro (by omega) ?_)
    refine calls_of (r_IsVolume hl.1 hl.2) ?_; simp only [lkE, res19, b19k0, ↓reduceIte, reduceCtorEq, Nat.reduceEqDiff, Nat.reduceAdd, Nat.reduceMul, Nat.reduceSub, Nat.reduceLeDiff, Nat.reduceBEq, Int.reduceToNat, Int.reduceLE, Int.reduceLT, Int.reduceEq, Int.reduceNe, di]
    split
    · rename_i h2; rw [if_pos (show stOk p s from ⟨h1, h2⟩)]
    · rename_i h2; rw [if_neg (show ¬ stOk p s from fun k => h2 k.2)]
  · rename_i h1
    rw [if_neg (show ¬ stOk p s from fun k => h1 k.1)]

theorem r_BothErr {p : Pair} {s : Sta} (h : Sm p) : Contract Try.prog 6 [lpI p, stI s] (.int .i64 (bothErr p s)) := by
  unfold bothErr
  refine contract_run Try.func6 k6 rfl ?_
  simp only [body6, b6, res6, b6k0, lkE, ↓reduceIte, reduceCtorEq, Nat.reduceEqDiff, Nat.reduceAdd, Nat.reduceMul, Nat.reduceSub, Nat.reduceLeDiff, Nat.reduceBEq, Int.reduceToNat, Int.reduceLE, Int.reduceLT, Int.reduceEq, Int.reduceNe, di]
  refine calls_of (r_PairErr h) ?_; simp only [lkE, res6, b6k0, ↓reduceIte, reduceCtorEq, Nat.reduceEqDiff, Nat.reduceAdd, Nat.reduceMul, Nat.reduceSub, Nat.reduceLeDiff, Nat.reduceBEq, Int.reduceToNat, Int.reduceLE, Int.reduceLT, Int.reduceEq, Int.reduceNe, di]
  split
  · rename_i h1
    refine calls_of (r_StateErr (pairErr_ok.1 h1)) ?_; simp only [lkE, res6, b6k0, ↓reduceIte, reduceCtorEq, Nat.reduceEqDiff, Nat.reduceAdd, Nat.reduceMul, Nat.reduceSub, Nat.reduceLeDiff, Nat.reduceBEq, Int.reduceToNat, Int.reduceLE, Int.reduceLT, Int.reduceEq, Int.reduceNe, di]
  · rename_i h1
    rfl

theorem r_FlowsErr {x : Flow} : Contract Try.prog 37 [flI x] (.int .i64 (flowErr x)) := by
  unfold flowErr
  refine contract_run Try.func37 k37 rfl ?_
  simp only [body37, b37, res37, b37k0, lkE, ↓reduceIte, reduceCtorEq, Nat.reduceEqDiff, Nat.reduceAdd, Nat.reduceMul, Nat.reduceSub, Nat.reduceLeDiff, Nat.reduceBEq, Int.reduceToNat, Int.reduceLE, Int.reduceLT, Int.reduceEq, Int.reduceNe, di]
  refine calls_of c_Within ?_; simp only [lkE, res37, b37k0, ↓reduceIte, reduceCtorEq, Nat.reduceEqDiff, Nat.reduceAdd, Nat.reduceMul, Nat.reduceSub, Nat.reduceLeDiff, Nat.reduceBEq, Int.reduceToNat, Int.reduceLE, Int.reduceLT, Int.reduceEq, Int.reduceNe, di]
  split
  · rename_i h1
    refine calls_of c_Within ?_; simp only [lkE, res37, b37k0, ↓reduceIte, reduceCtorEq, Nat.reduceEqDiff, Nat.reduceAdd, Nat.reduceMul, Nat.reduceSub, Nat.reduceLeDiff, Nat.reduceBEq, Int.reduceToNat, Int.reduceLE, Int.reduceLT, Int.reduceEq, Int.reduceNe, di]
    split
    · rename_i h2
      refine calls_of c_Within ?_; simp only [lkE, res37, b37k0, ↓reduceIte, reduceCtorEq, Nat.reduceEqDiff, Nat.reduceAdd, Nat.reduceMul, Nat.reduceSub, Nat.reduceLeDiff, Nat.reduceBEq, Int.reduceToNat, Int.reduceLE, Int.reduceLT, Int.reduceEq, Int.reduceNe, di]
      split
      · rename_i h3; rw [if_pos (show flowOk x from ⟨h1, h2, h3⟩)]
      · rename_i h3; rw [if_neg (show ¬ flowOk x from fun k => h3 k.2.2)]
    · rename_i h2
      rw [if_neg (show ¬ flowOk x from fun k => h2 k.2.1)]
  · rename_i h1
    rw [if_neg (show ¬ flowOk x from fun k => h1 k.1)]

theorem r_ListErr {l : List Flow} (hl : l.length ≤ 1000000000000) : Contract Try.prog 21 [.slc 3 (l.map flI)] (.int .i64 (listErr l)) := by
  unfold listErr
  refine contract_run Try.func21 k21 rfl ?_
  simp only [body21, b21, res21, b21k0, b21k1, b21k2, b21k3, ↓reduceIte, reduceCtorEq, Nat.reduceEqDiff, Nat.reduceAdd, Nat.reduceMul, Nat.reduceSub, Nat.reduceLeDiff, Nat.reduceBEq, Int.reduceToNat, Int.reduceLE, Int.reduceLT, Int.reduceEq, Int.reduceNe, di]
  split
  · rename_i h
    rw [if_pos (by omega)]
  · rename_i h
    rw [if_neg (by omega)]
    refine loop_keep (α := Nat) rfl (fun i => l.length - i) (fun i => i ≤ l.length ∧ (firstE (fun i => flowErr (l.getD i default)) (l.length - i) i).2 = (firstE (fun i => flowErr (l.getD i default)) l.length 0).2)
      (fun i => [(0, .imm (.slc 3 (l.map flI))), (3, .imm (.int .i64 i))]) (fun _ => []) 0 ⟨Nat.zero_le _, rfl⟩ (by simp only [↓reduceIte, reduceCtorEq, Nat.reduceEqDiff, Nat.reduceAdd, Nat.reduceMul, Nat.reduceSub, Nat.reduceLeDiff, Nat.reduceBEq, Int.reduceToNat, Int.reduceLE, Int.reduceLT, Int.reduceEq, Int.reduceNe, di] <;> rfl) ?_
    intro i ⟨hi, he⟩ ih
    simp only [res21, b21k0, b21k1, b21k2, b21k3, lkE, ↓reduceIte, reduceCtorEq, Nat.reduceEqDiff, Nat.reduceAdd, Nat.reduceMul, Nat.reduceSub, Nat.reduceLeDiff, Nat.reduceBEq, Int.reduceToNat, Int.reduceLE, Int.reduceLT, Int.reduceEq, Int.reduceNe, di]
    split
    · rename_i h1
      rw [show l.length - i = (l.length - (i + 1)) + 1 by omega, firstE_succ] at he
      repeat (refine And.intro (by omega) ?_)
      have hc := r_FlowsErr (x := l.getD i default)
      refine calls_of hc ?_; simp only [lkE, res21, b21k0, b21k1, b21k2, b21k3, ↓reduceIte, reduceCtorEq, Nat.reduceEqDiff, Nat.reduceAdd, Nat.reduceMul, Nat.reduceSub, Nat.reduceLeDiff, Nat.reduceBEq, Int.reduceToNat, Int.reduceLE, Int.reduceLT, Int.reduceEq, Int.reduceNe, di]
      split
      · rename_i h2
        rw [if_pos h2] at he
        rw [wrap64 (by omega) (by omega)]
        exact ih (i + 1) _ _ (by omega) ⟨by omega, he⟩ (by simp only [↓reduceIte, reduceCtorEq, Nat.reduceEqDiff, Nat.reduceAdd, Nat.reduceMul, Nat.reduceSub, Nat.reduceLeDiff, Nat.reduceBEq, Int.reduceToNat, Int.reduceLE, Int.reduceLT, Int.reduceEq, Int.reduceNe, di] <;> rfl)
      · rename_i h2
        rw [if_neg h2] at he
        rw [← he]
    · rename_i h1
      rw [show l.length - i = 0 by omega] at he
      rw [← he]
      rfl

theorem r_Copy {l : List Kn} (hl : l.length ≤ 1000000000) : Contract Try.prog 26 [tabI l] (tabI l) := by
  refine contract_run Try.func26 k26 rfl ?_
  simp only [body26, b26, res26, lkE, ↓reduceIte, reduceCtorEq, Nat.reduceEqDiff, Nat.reduceAdd, Nat.reduceMul, Nat.reduceSub, Nat.reduceLeDiff, Nat.reduceBEq, Int.reduceToNat, Int.reduceLE, Int.reduceLT, Int.reduceEq, Int.reduceNe, di]
  omega
theorem r_CopyList {l : List Flow} (hl : l.length ≤ 1000000000) : Contract Try.prog 10 [.slc 3 (l.map flI)] (.slc 3 (l.map flI)) := by
  refine contract_run Try.func10 k10 rfl ?_
  simp only [body10, b10, res10, lkE, ↓reduceIte, reduceCtorEq, Nat.reduceEqDiff, Nat.reduceAdd, Nat.reduceMul, Nat.reduceSub, Nat.reduceLeDiff, Nat.reduceBEq, Int.reduceToNat, Int.reduceLE, Int.reduceLT, Int.reduceEq, Int.reduceNe, di]
  omega
theorem r_CopyPair {p : Pair} (h1 : p.u.length ≤ 1000000000) (h2 : p.l.length ≤ 1000000000) : Contract Try.prog 9 [lpI p] (lpI p) := by
  refine contract_run Try.func9 k9 rfl ?_
  simp only [body9, b9, res9, lkE, ↓reduceIte, reduceCtorEq, Nat.reduceEqDiff, Nat.reduceAdd, Nat.reduceMul, Nat.reduceSub, Nat.reduceLeDiff, Nat.reduceBEq, Int.reduceToNat, Int.reduceLE, Int.reduceLT, Int.reduceEq, Int.reduceNe, di]
  repeat (refine And.intro (by omega) ?_)
  refine calls_of (r_Copy h1) ?_; simp only [lkE, res9, ↓reduceIte, reduceCtorEq, Nat.reduceEqDiff, Nat.reduceAdd, Nat.reduceMul, Nat.reduceSub, Nat.reduceLeDiff, Nat.reduceBEq, Int.reduceToNat, Int.reduceLE, Int.reduceLT, Int.reduceEq, Int.reduceNe, di]
  repeat (refine And.intro (by omega) ?_)
  refine calls_of (r_Copy h2) ?_; simp only [lkE, res9, ↓reduceIte, reduceCtorEq, Nat.reduceEqDiff, Nat.reduceAdd, Nat.reduceMul, Nat.reduceSub, Nat.reduceLeDiff, Nat.reduceBEq, Int.reduceToNat, Int.reduceLE, Int.reduceLT, Int.reduceEq, Int.reduceNe, di]
end Go.DI

/- Contracts: the program's readings of gauges. No condition. -/
set_option linter.unusedSimpArgs false
namespace Go.DI
open Go.Proofs Go.RowKit Lk

end Go.DI

/- Contracts: the program's agreed range. No condition. -/
set_option linter.unusedSimpArgs false
namespace Go.DI
open Go.Proofs Go.RowKit Lk

end Go.DI

