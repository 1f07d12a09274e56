/- Contracts: the program's readings of gauges. No condition. -/
import Derived.Test.YtaphhpphfffnfaaGreatDoorLfzb
set_option linter.unusedSimpArgs false
namespace Go.DI
open Go.Proofs Go.RowKit Lk

theorem indexF_pos {α : Type} {p : α → Bool} : ∀ {l : List α} {i : Nat}, 0 ≤ indexF p l i ↔ ∃ x ∈ l, p x = true
  | [], i => by simp [indexF]
  | x :: r, i => by
    rw [indexF_cons]
    split
    · rename_i h
      constructor
      · intro _; exact ⟨x, by simp, h⟩
      · intro _; omega
    · rename_i h
      rw [indexF_pos]
      simp [h]

theorem p_IndexInts {l : List Int} {p : Int → Bool} {g : FuncId} {cap : List IV} (hl : l.length ≤ 1000000000000) (hp : ∀ k ∈ l, Contract Tryz.prog g (.int .i64 k :: cap) (.bool (p k))) :
    Contract Tryz.prog 198 [.slc 1 (l.map (.int .i64)), .func g [] cap] (.int .i64 (indexF p l 0)) := by
  refine contract_run Tryz.func198 k198 rfl ?_
  simp only [body198, b198, res198, b198k0, b198k1, b198k2, ↓reduceIte, reduceCtorEq, Nat.reduceEqDiff, Nat.reduceAdd, Nat.reduceMul, Nat.reduceSub, Nat.reduceLeDiff, Nat.reduceBEq, Int.reduceToNat, Int.reduceLE, Int.reduceLT, Int.reduceEq, Int.reduceNe, di]
  refine loop_keep (α := Nat) rfl (fun i => l.length - i) (fun i => i ≤ l.length ∧ indexF p (l.drop i) i = indexF p l 0)
    (fun i => [(0, .imm (.slc 1 (l.map (.int .i64)))), (1, .imm (.func g [] cap)), (7, .imm (.int .i64 l.length)), (8, .imm (.int .i64 i))]) (fun _ => []) 0 ⟨Nat.zero_le _, rfl⟩ (by simp only [↓reduceIte, reduceCtorEq, Nat.reduceEqDiff, Nat.reduceAdd, Nat.reduceMul, Nat.reduceSub, Nat.reduceLeDiff, Nat.reduceBEq, Int.reduceToNat, Int.reduceLE, Int.reduceLT, Int.reduceEq, Int.reduceNe, di] <;> rfl) ?_
  intro i ⟨hi, he⟩ ih
  simp only [res198, b198k0, b198k1, b198k2, ↓reduceIte, reduceCtorEq, Nat.reduceEqDiff, Nat.reduceAdd, Nat.reduceMul, Nat.reduceSub, Nat.reduceLeDiff, Nat.reduceBEq, Int.reduceToNat, Int.reduceLE, Int.reduceLT, Int.reduceEq, Int.reduceNe, di]
  split
  · rename_i h
    have hx : l.drop i = l.getD i 0 :: l.drop (i + 1) := by
      rw [List.drop_eq_getElem_cons (by omega)]
      congr 1
      rw [List.getD_eq_getElem?_getD]; simp [show i < l.length by omega]
    have hm : l.getD i 0 ∈ l := List.mem_of_mem_drop (by rw [hx]; simp)
    rw [hx, indexF_cons] at he
    repeat (refine And.intro (by omega) ?_)
    refine calls_of (hp _ hm) ?_; simp only [res198, b198k0, b198k1, b198k2, ↓reduceIte, reduceCtorEq, Nat.reduceEqDiff, Nat.reduceAdd, Nat.reduceMul, Nat.reduceSub, Nat.reduceLeDiff, Nat.reduceBEq, Int.reduceToNat, Int.reduceLE, Int.reduceLT, Int.reduceEq, Int.reduceNe, di]
    split
    · rename_i h1
      rw [if_pos h1] at he
      rw [he]
    · rename_i h1
      rw [if_neg (by simpa using h1)] at he
      rw [wrap64 (by omega) (by omega)]
      exact ih (i + 1) _ _ (by omega) ⟨by omega, he⟩ (by simp only [↓reduceIte, reduceCtorEq, Nat.reduceEqDiff, Nat.reduceAdd, Nat.reduceMul, Nat.reduceSub, Nat.reduceLeDiff, Nat.reduceBEq, Int.reduceToNat, Int.reduceLE, Int.reduceLT, Int.reduceEq, Int.reduceNe, di] <;> rfl)
  · rename_i h
    rw [← he, List.drop_eq_nil_of_le (by omega)]
    rfl

theorem p_ContainsInts {l : List Int} {p : Int → Bool} {g : FuncId} {cap : List IV} (hl : l.length ≤ 1000000000000) (hp : ∀ k ∈ l, Contract Tryz.prog g (.int .i64 k :: cap) (.bool (p k))) :
    Contract Tryz.prog 243 [.slc 1 (l.map (.int .i64)), .func g [] cap] (.bool (decide (∃ x ∈ l, p x = true))) := by
  refine contract_run Tryz.func243 k243 rfl ?_
  simp only [body243, b243, res243, ↓reduceIte, reduceCtorEq, Nat.reduceEqDiff, Nat.reduceAdd, Nat.reduceMul, Nat.reduceSub, Nat.reduceLeDiff, Nat.reduceBEq, Int.reduceToNat, Int.reduceLE, Int.reduceLT, Int.reduceEq, Int.reduceNe, di]
  refine calls_of (p_IndexInts hl hp) ?_; simp only [res243, ↓reduceIte, reduceCtorEq, Nat.reduceEqDiff, Nat.reduceAdd, Nat.reduceMul, Nat.reduceSub, Nat.reduceLeDiff, Nat.reduceBEq, Int.reduceToNat, Int.reduceLE, Int.reduceLT, Int.reduceEq, Int.reduceNe, di]
  simp only [indexF_pos]

def netErrP (net : List Int) : Int := if 200 < net.length then 8 else if ∃ x ∈ net, ¬ Wi x (-10000000) 10000000 then 2 else 0
theorem netErrP_ok {net : List Int} : netErrP net = 0 ↔ net.length ≤ 200 ∧ ∀ x ∈ net, -10000000 ≤ x ∧ x ≤ 10000000 := by
  unfold netErrP
  constructor
  · intro h
    split at h
    · omega
    · split at h
      · omega
      · rename_i k
        refine ⟨by omega, fun x hx => ?_⟩
        apply Decidable.byContradiction
        intro hn
        exact k ⟨x, hx, hn⟩
  · intro ⟨h1, h2⟩
    rw [if_neg (by omega), if_neg]
    rintro ⟨x, hx, hn⟩
    exact hn (h2 x hx)

theorem p_netOdd {n : Int} : Contract Tryz.prog 279 [.int .i64 n] (.bool (decide (¬ Wi n (-10000000) 10000000))) := by
  refine contract_run Tryz.func279 k279 rfl ?_
  simp only [body279, b279, res279, ↓reduceIte, reduceCtorEq, Nat.reduceEqDiff, Nat.reduceAdd, Nat.reduceMul, Nat.reduceSub, Nat.reduceLeDiff, Nat.reduceBEq, Int.reduceToNat, Int.reduceLE, Int.reduceLT, Int.reduceEq, Int.reduceNe, di]
  refine calls_of p_within ?_; simp only [res279, ↓reduceIte, reduceCtorEq, Nat.reduceEqDiff, Nat.reduceAdd, Nat.reduceMul, Nat.reduceSub, Nat.reduceLeDiff, Nat.reduceBEq, Int.reduceToNat, Int.reduceLE, Int.reduceLT, Int.reduceEq, Int.reduceNe, di]
  simp

theorem p_netErr {net : List Int} (hl : net.length ≤ 1000000000000) : Contract Tryz.prog 222 [.slc 1 (net.map (.int .i64))] (.int .i64 (netErrP net)) := by
  unfold netErrP
  refine contract_run Tryz.func222 k222 rfl ?_
  simp only [body222, b222, res222, b222k0, ↓reduceIte, reduceCtorEq, Nat.reduceEqDiff, Nat.reduceAdd, Nat.reduceMul, Nat.reduceSub, Nat.reduceLeDiff, Nat.reduceBEq, Int.reduceToNat, Int.reduceLE, Int.reduceLT, Int.reduceEq, Int.reduceNe, di]
  split
  · rename_i h
    rw [if_pos (by omega)]
  · rename_i h
    rw [if_neg (by omega)]
    refine calls_of (p_ContainsInts (p := fun n => decide (¬ Wi n (-10000000) 10000000)) (cap := []) hl (fun k _ => p_netOdd)) ?_; simp only [res222, b222k0, ↓reduceIte, reduceCtorEq, Nat.reduceEqDiff, Nat.reduceAdd, Nat.reduceMul, Nat.reduceSub, Nat.reduceLeDiff, Nat.reduceBEq, Int.reduceToNat, Int.reduceLE, Int.reduceLT, Int.reduceEq, Int.reduceNe, di]
    refine calls_of p_unless ?_; simp only [res222, b222k0, ↓reduceIte, reduceCtorEq, Nat.reduceEqDiff, Nat.reduceAdd, Nat.reduceMul, Nat.reduceSub, Nat.reduceLeDiff, Nat.reduceBEq, Int.reduceToNat, Int.reduceLE, Int.reduceLT, Int.reduceEq, Int.reduceNe, di]
    split
    · rename_i h2
      first | rfl | (rw [if_neg h2]) | (rw [if_pos h2])
    · rename_i h2
      first | rfl | (rw [if_neg h2]) | (rw [if_pos h2]) | (rw [if_pos (Decidable.not_not.1 h2)])

def rdErr (l : List Kn) (n : Int) (rs : List Rdg) : Int := if rs.length = 0 then 10 else if 10 < rs.length then 8 else (firstE (fun i => rdgErr l n (rs.getD i default)) rs.length 0).2

theorem p_isLevel {l : List Kn} {x : Int} (h : 0 < l.length) (hl : l.length ≤ 1000000000000) : Contract Tryz.prog 280 [.int .i64 x, .ptr (.agg [.slc 2 (l.map knI)])] (.bool (decide (isL l x))) := by
  refine contract_run Tryz.func280 k280 rfl ?_
  simp only [body280, b280, res280, lkE, ↓reduceIte, reduceCtorEq, Nat.reduceEqDiff, Nat.reduceAdd, Nat.reduceMul, Nat.reduceSub, Nat.reduceLeDiff, Nat.reduceBEq, Int.reduceToNat, Int.reduceLE, Int.reduceLT, Int.reduceEq, Int.reduceNe, di]
  refine calls_of (p_bottom h) ?_; simp only [lkE, res280, ↓reduceIte, reduceCtorEq, Nat.reduceEqDiff, Nat.reduceAdd, Nat.reduceMul, Nat.reduceSub, Nat.reduceLeDiff, Nat.reduceBEq, Int.reduceToNat, Int.reduceLE, Int.reduceLT, Int.reduceEq, Int.reduceNe, di]
  refine calls_of (p_top h hl) ?_; simp only [lkE, res280, ↓reduceIte, reduceCtorEq, Nat.reduceEqDiff, Nat.reduceAdd, Nat.reduceMul, Nat.reduceSub, Nat.reduceLeDiff, Nat.reduceBEq, Int.reduceToNat, Int.reduceLE, Int.reduceLT, Int.reduceEq, Int.reduceNe, di]
  refine calls_of p_within ?_; simp only [lkE, res280, ↓reduceIte, reduceCtorEq, Nat.reduceEqDiff, Nat.reduceAdd, Nat.reduceMul, Nat.reduceSub, Nat.reduceLeDiff, Nat.reduceBEq, Int.reduceToNat, Int.reduceLE, Int.reduceLT, Int.reduceEq, Int.reduceNe, di]
  rfl

theorem p_readingsErr {l : List Kn} {net : List Int} {rs : List Rdg} (h : Valid l) : Contract Tryz.prog 223 [tabI l, .slc 1 (net.map (.int .i64)), .slc 3 (rs.map rdI)] (.int .i64 (rdErr l net.length rs)) := by
  have hz := valid_len h
  unfold rdErr
  refine contract_run Tryz.func223 k223 rfl ?_
  simp only [body223, b223, res223, b223k0, b223k1, b223k2, b223k3, lkE, ↓reduceIte, reduceCtorEq, Nat.reduceEqDiff, Nat.reduceAdd, Nat.reduceMul, Nat.reduceSub, Nat.reduceLeDiff, Nat.reduceBEq, Int.reduceToNat, Int.reduceLE, Int.reduceLT, Int.reduceEq, Int.reduceNe, di]
  refine calls_of p_unless ?_; simp only [lkE, res223, b223k0, b223k1, b223k2, b223k3, ↓reduceIte, reduceCtorEq, Nat.reduceEqDiff, Nat.reduceAdd, Nat.reduceMul, Nat.reduceSub, Nat.reduceLeDiff, Nat.reduceBEq, Int.reduceToNat, Int.reduceLE, Int.reduceLT, Int.reduceEq, Int.reduceNe, di]
  refine calls_of p_unless ?_; simp only [lkE, res223, b223k0, b223k1, b223k2, b223k3, ↓reduceIte, reduceCtorEq, Nat.reduceEqDiff, Nat.reduceAdd, Nat.reduceMul, Nat.reduceSub, Nat.reduceLeDiff, Nat.reduceBEq, Int.reduceToNat, Int.reduceLE, Int.reduceLT, Int.reduceEq, Int.reduceNe, di]
  refine calls_of p_first2 ?_; simp only [lkE, res223, b223k0, b223k1, b223k2, b223k3, ↓reduceIte, reduceCtorEq, Nat.reduceEqDiff, Nat.reduceAdd, Nat.reduceMul, Nat.reduceSub, Nat.reduceLeDiff, Nat.reduceBEq, Int.reduceToNat, Int.reduceLE, Int.reduceLT, Int.reduceEq, Int.reduceNe, di]
  by_cases h1 : rs.length = 0
  · simp only [if_neg (show ¬ 0 < (rs.length : Int) by omega), if_pos h1, ↓reduceIte, reduceCtorEq, Nat.reduceEqDiff, Nat.reduceAdd, Nat.reduceMul, Nat.reduceSub, Nat.reduceLeDiff, Nat.reduceBEq, Int.reduceToNat, Int.reduceLE, Int.reduceLT, Int.reduceEq, Int.reduceNe, di]
  · by_cases h2 : 10 < rs.length
    · simp only [if_pos (show 0 < (rs.length : Int) by omega), if_neg (show ¬ (rs.length : Int) ≤ 10 by omega), if_neg h1, if_pos h2, ↓reduceIte, reduceCtorEq, Nat.reduceEqDiff, Nat.reduceAdd, Nat.reduceMul, Nat.reduceSub, Nat.reduceLeDiff, Nat.reduceBEq, Int.reduceToNat, Int.reduceLE, Int.reduceLT, Int.reduceEq, Int.reduceNe, di]
    · simp only [if_pos (show 0 < (rs.length : Int) by omega), if_pos (show (rs.length : Int) ≤ 10 by omega), if_neg h1, if_neg h2, ↓reduceIte, reduceCtorEq, Nat.reduceEqDiff, Nat.reduceAdd, Nat.reduceMul, Nat.reduceSub, Nat.reduceLeDiff, Nat.reduceBEq, Int.reduceToNat, Int.reduceLE, Int.reduceLT, Int.reduceEq, Int.reduceNe, di]
      refine loop_keep (α := Nat) rfl (fun i => rs.length - i) (fun i => i ≤ rs.length ∧ (firstE (fun i => rdgErr l net.length (rs.getD i default)) (rs.length - i) i).2 = (firstE (fun i => rdgErr l net.length (rs.getD i default)) rs.length 0).2)
        (fun i => [(1, .imm (.slc 1 (net.map (.int .i64)))), (8, .imm (.func 280 [] [.ptr (.agg [.slc 2 (l.map knI)])])), (27, .imm (.slc 3 (rs.map rdI))), (28, .imm (.int .i64 rs.length)), (29, .imm (.int .i64 i))]) (fun _ => [(3, .fza [.slc 2 (l.map knI)])]) 0 ⟨Nat.zero_le _, rfl⟩ (by simp only [↓reduceIte, reduceCtorEq, Nat.reduceEqDiff, Nat.reduceAdd, Nat.reduceMul, Nat.reduceSub, Nat.reduceLeDiff, Nat.reduceBEq, Int.reduceToNat, Int.reduceLE, Int.reduceLT, Int.reduceEq, Int.reduceNe, di] <;> rfl) ?_
      intro i ⟨hi, he⟩ ih
      simp only [res223, b223k0, b223k1, b223k2, b223k3, rdI, lkE, ↓reduceIte, reduceCtorEq, Nat.reduceEqDiff, Nat.reduceAdd, Nat.reduceMul, Nat.reduceSub, Nat.reduceLeDiff, Nat.reduceBEq, Int.reduceToNat, Int.reduceLE, Int.reduceLT, Int.reduceEq, Int.reduceNe, di]
      split
      · rename_i h3
        rw [show rs.length - i = (rs.length - (i + 1)) + 1 by omega, firstE_succ] at he
        repeat (refine And.intro (by omega) ?_)
        generalize rs.getD i default = r at *
        have bad : ¬ (Wi r.tick 0 net.length ∧ isL l r.lo ∧ isL l r.hi) → rdgErr l net.length r = 2 := fun k => by unfold rdgErr; rw [if_pos k]
        refine calls_of p_within ?_; simp only [lkE, res223, b223k0, b223k1, b223k2, b223k3, ↓reduceIte, reduceCtorEq, Nat.reduceEqDiff, Nat.reduceAdd, Nat.reduceMul, Nat.reduceSub, Nat.reduceLeDiff, Nat.reduceBEq, Int.reduceToNat, Int.reduceLE, Int.reduceLT, Int.reduceEq, Int.reduceNe, di]
        split
        · rename_i c1
          refine calls_of (p_isLevel hz.1 hz.2) ?_; simp only [lkE, res223, b223k0, b223k1, b223k2, b223k3, ↓reduceIte, reduceCtorEq, Nat.reduceEqDiff, Nat.reduceAdd, Nat.reduceMul, Nat.reduceSub, Nat.reduceLeDiff, Nat.reduceBEq, Int.reduceToNat, Int.reduceLE, Int.reduceLT, Int.reduceEq, Int.reduceNe, di]
          split
          · rename_i c2
            refine calls_of (p_isLevel hz.1 hz.2) ?_; simp only [lkE, res223, b223k0, b223k1, b223k2, b223k3, ↓reduceIte, reduceCtorEq, Nat.reduceEqDiff, Nat.reduceAdd, Nat.reduceMul, Nat.reduceSub, Nat.reduceLeDiff, Nat.reduceBEq, Int.reduceToNat, Int.reduceLE, Int.reduceLT, Int.reduceEq, Int.reduceNe, di]
            refine calls_of p_unless ?_; simp only [lkE, res223, b223k0, b223k1, b223k2, b223k3, ↓reduceIte, reduceCtorEq, Nat.reduceEqDiff, Nat.reduceAdd, Nat.reduceMul, Nat.reduceSub, Nat.reduceLeDiff, Nat.reduceBEq, Int.reduceToNat, Int.reduceLE, Int.reduceLT, Int.reduceEq, Int.reduceNe, di]
            refine calls_of p_unless ?_; simp only [lkE, res223, b223k0, b223k1, b223k2, b223k3, ↓reduceIte, reduceCtorEq, Nat.reduceEqDiff, Nat.reduceAdd, Nat.reduceMul, Nat.reduceSub, Nat.reduceLeDiff, Nat.reduceBEq, Int.reduceToNat, Int.reduceLE, Int.reduceLT, Int.reduceEq, Int.reduceNe, di]
            refine calls_of p_first2 ?_; simp only [lkE, res223, b223k0, b223k1, b223k2, b223k3, ↓reduceIte, reduceCtorEq, Nat.reduceEqDiff, Nat.reduceAdd, Nat.reduceMul, Nat.reduceSub, Nat.reduceLeDiff, Nat.reduceBEq, Int.reduceToNat, Int.reduceLE, Int.reduceLT, Int.reduceEq, Int.reduceNe, di]
            by_cases c3 : isL l r.hi
            · simp only [if_pos c3, lkE, ↓reduceIte, reduceCtorEq, Nat.reduceEqDiff, Nat.reduceAdd, Nat.reduceMul, Nat.reduceSub, Nat.reduceLeDiff, Nat.reduceBEq, Int.reduceToNat, Int.reduceLE, Int.reduceLT, Int.reduceEq, Int.reduceNe, di]
              have e : rdgErr l net.length r = if r.lo ≤ r.hi then 0 else 9 := by
                unfold rdgErr
                rw [if_neg (fun k => k ⟨c1, c2, c3⟩)]
                split
                · rw [if_neg (by omega)]
                · rw [if_pos (by omega)]
              by_cases c4 : r.lo ≤ r.hi
              · rw [if_pos c4] at e
                rw [if_pos e] at he
                simp only [if_pos c4, lkE, ↓reduceIte, reduceCtorEq, Nat.reduceEqDiff, Nat.reduceAdd, Nat.reduceMul, Nat.reduceSub, Nat.reduceLeDiff, Nat.reduceBEq, Int.reduceToNat, Int.reduceLE, Int.reduceLT, Int.reduceEq, Int.reduceNe, di]
                rw [wrap64 (by omega) (by omega)]
                exact ih (i + 1) _ _ (by omega) ⟨by omega, he⟩ (by simp only [↓reduceIte, reduceCtorEq, Nat.reduceEqDiff, Nat.reduceAdd, Nat.reduceMul, Nat.reduceSub, Nat.reduceLeDiff, Nat.reduceBEq, Int.reduceToNat, Int.reduceLE, Int.reduceLT, Int.reduceEq, Int.reduceNe, di] <;> rfl)
              · rw [if_neg c4] at e
                rw [e, if_neg (by omega)] at he
                simp only [if_neg c4, lkE, ↓reduceIte, reduceCtorEq, Nat.reduceEqDiff, Nat.reduceAdd, Nat.reduceMul, Nat.reduceSub, Nat.reduceLeDiff, Nat.reduceBEq, Int.reduceToNat, Int.reduceLE, Int.reduceLT, Int.reduceEq, Int.reduceNe, di]
                rw [← he]
            · simp only [if_neg c3, lkE, ↓reduceIte, reduceCtorEq, Nat.reduceEqDiff, Nat.reduceAdd, Nat.reduceMul, Nat.reduceSub, Nat.reduceLeDiff, Nat.reduceBEq, Int.reduceToNat, Int.reduceLE, Int.reduceLT, Int.reduceEq, Int.reduceNe, di]
              rw [bad (fun k => c3 k.2.2), if_neg (by omega)] at he
              rw [← he]
          · rename_i c2
            refine calls_of p_unless ?_; simp only [lkE, res223, b223k0, b223k1, b223k2, b223k3, ↓reduceIte, reduceCtorEq, Nat.reduceEqDiff, Nat.reduceAdd, Nat.reduceMul, Nat.reduceSub, Nat.reduceLeDiff, Nat.reduceBEq, Int.reduceToNat, Int.reduceLE, Int.reduceLT, Int.reduceEq, Int.reduceNe, di]
            refine calls_of p_unless ?_; simp only [lkE, res223, b223k0, b223k1, b223k2, b223k3, ↓reduceIte, reduceCtorEq, Nat.reduceEqDiff, Nat.reduceAdd, Nat.reduceMul, Nat.reduceSub, Nat.reduceLeDiff, Nat.reduceBEq, Int.reduceToNat, Int.reduceLE, Int.reduceLT, Int.reduceEq, Int.reduceNe, di]
            refine calls_of p_first2 ?_; simp only [lkE, res223, b223k0, b223k1, b223k2, b223k3, ↓reduceIte, reduceCtorEq, Nat.reduceEqDiff, Nat.reduceAdd, Nat.reduceMul, Nat.reduceSub, Nat.reduceLeDiff, Nat.reduceBEq, Int.reduceToNat, Int.reduceLE, Int.reduceLT, Int.reduceEq, Int.reduceNe, di]
            rw [bad (fun k => c2 k.2.1), if_neg (by omega)] at he
            rw [← he]
        · rename_i c1
          refine calls_of p_unless ?_; simp only [lkE, res223, b223k0, b223k1, b223k2, b223k3, ↓reduceIte, reduceCtorEq, Nat.reduceEqDiff, Nat.reduceAdd, Nat.reduceMul, Nat.reduceSub, Nat.reduceLeDiff, Nat.reduceBEq, Int.reduceToNat, Int.reduceLE, Int.reduceLT, Int.reduceEq, Int.reduceNe, di]
          refine calls_of p_unless ?_; simp only [lkE, res223, b223k0, b223k1, b223k2, b223k3, ↓reduceIte, reduceCtorEq, Nat.reduceEqDiff, Nat.reduceAdd, Nat.reduceMul, Nat.reduceSub, Nat.reduceLeDiff, Nat.reduceBEq, Int.reduceToNat, Int.reduceLE, Int.reduceLT, Int.reduceEq, Int.reduceNe, di]
          refine calls_of p_first2 ?_; simp only [lkE, res223, b223k0, b223k1, b223k2, b223k3, ↓reduceIte, reduceCtorEq, Nat.reduceEqDiff, Nat.reduceAdd, Nat.reduceMul, Nat.reduceSub, Nat.reduceLeDiff, Nat.reduceBEq, Int.reduceToNat, Int.reduceLE, Int.reduceLT, Int.reduceEq, Int.reduceNe, di]
          rw [bad (fun k => c1 k.1), if_neg (by omega)] at he
          rw [← he]
      · rename_i h3
        rw [show rs.length - i = 0 by omega] at he
        rw [← he]
        rfl
end Go.DI

