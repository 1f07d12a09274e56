/- Contracts: laws in the reference. No condition. -/
import Derived.Test.YtadmimjaelodkaaWed
import Derived.Test.YtadmimjaelodkaaWea
import Derived.Test.YtadmimjaelodkaaWeb
set_option linter.unusedSimpArgs false
set_option maxRecDepth 100000
namespace Go.DI
open Go.Proofs Go.RowKit

theorem r_ClosingAt {law : List Int} {t : Nat} (h : law.length ≤ 1000000) (ht : t ≤ 1000000) : Contract Try.prog 41 [nI law, .int .i64 t] (.int .i64 (atL law t)) := by
  refine contract_run Try.func41 k41 rfl ?_
  simp only [body41, b41, res41, b41k0, vaE, ↓reduceIte, reduceCtorEq, Nat.reduceEqDiff, Nat.reduceAdd, Nat.reduceMul, Nat.reduceSub, Nat.reduceLeDiff, Nat.reduceBEq, Int.reduceToNat, Int.reduceLE, Int.reduceLT, Int.reduceEq, Int.reduceNe, di]
  split
  · rename_i h0
    have : law = [] := List.length_eq_zero_iff.1 (by omega)
    subst this
    rfl
  · rename_i h0
    rw [wrap64 (by omega) (by omega)]
    refine ⟨by omega, by omega, ?_⟩
    rw [show (min (t : Int) ((law.length : Int) - 1)).toNat = min t (law.length - 1) by omega]
    rfl
theorem r_CheckLaw {law : List Int} (hl : law.length ≤ 1000000) : Contract Try.prog 67 [nI law] (e2I (chkW law)) := by
  refine contract_run Try.func67 k67 rfl ?_
  simp only [body67, b67, res67, b67k0, b67k1, b67k2, b67k3, b67k4, vaE, ↓reduceIte, reduceCtorEq, Nat.reduceEqDiff, Nat.reduceAdd, Nat.reduceMul, Nat.reduceSub, Nat.reduceLeDiff, Nat.reduceBEq, Int.reduceToNat, Int.reduceLE, Int.reduceLT, Int.reduceEq, Int.reduceNe, di]
  unfold chkW
  split
  · rfl
  rename_i h
  refine loop_keep (α := Nat) rfl (fun i => law.length - i) (fun i => i ≤ law.length ∧ lawScan i (if i = 0 then 0 else law.getD (i - 1) 0) (law.drop i) = lawScan 0 0 law)
    (fun i => [(0, .imm (nI law)), (4, .imm (.int .i64 i))]) (fun _ => []) 0 ⟨Nat.zero_le _, rfl⟩ (by simp only [vaE, ↓reduceIte, reduceCtorEq, Nat.reduceEqDiff, Nat.reduceAdd, Nat.reduceMul, Nat.reduceSub, Nat.reduceLeDiff, Nat.reduceBEq, Int.reduceToNat, Int.reduceLE, Int.reduceLT, Int.reduceEq, Int.reduceNe, di] <;> rfl) ?_
  rintro i ⟨hi, he⟩ ih
  simp only [res67, b67k0, b67k1, b67k2, b67k3, b67k4, vaE, ↓reduceIte, reduceCtorEq, Nat.reduceEqDiff, Nat.reduceAdd, Nat.reduceMul, Nat.reduceSub, Nat.reduceLeDiff, Nat.reduceBEq, Int.reduceToNat, Int.reduceLE, Int.reduceLT, Int.reduceEq, Int.reduceNe, di]
  split
  rotate_left
  · rename_i h
    have : i = law.length := by omega
    subst this
    rw [List.drop_length] at he
    rw [← he]
    rfl
  rename_i h
  have hlt : i < law.length := by omega
  rw [getD_drop hlt, lawScan_cons] at he
  repeat (refine And.intro (by omega) ?_)
  refine calls_of c_Within ?_; simp only [vaE, res67, b67k0, b67k1, b67k2, b67k3, b67k4, ↓reduceIte, reduceCtorEq, Nat.reduceEqDiff, Nat.reduceAdd, Nat.reduceMul, Nat.reduceSub, Nat.reduceLeDiff, Nat.reduceBEq, Int.reduceToNat, Int.reduceLE, Int.reduceLT, Int.reduceEq, Int.reduceNe, di]
  by_cases h1 : 0 ≤ law.getD i 0 ∧ law.getD i 0 ≤ 1000
  rotate_left
  · rw [if_neg h1] at he
    simp only [h1, vaE, ↓reduceIte, reduceCtorEq, Nat.reduceEqDiff, Nat.reduceAdd, Nat.reduceMul, Nat.reduceSub, Nat.reduceLeDiff, Nat.reduceBEq, Int.reduceToNat, Int.reduceLE, Int.reduceLT, Int.reduceEq, Int.reduceNe, di]
    rw [if_neg (show ¬ fstE 2 (if (if i = 0 then 0 else law.getD (i - 1) 0) ≤ law.getD i 0 then 0 else 9) = 0 by unfold fstE; rw [if_neg (by decide)]; decide)] at he
    rw [← he]
    rfl
  rw [if_pos h1] at he
  simp only [h1, vaE, ↓reduceIte, reduceCtorEq, Nat.reduceEqDiff, Nat.reduceAdd, Nat.reduceMul, Nat.reduceSub, Nat.reduceLeDiff, Nat.reduceBEq, Int.reduceToNat, Int.reduceLE, Int.reduceLT, Int.reduceEq, Int.reduceNe, di]
  have hf : ∀ e : Int, fstE 0 e = e := fun e => if_pos rfl
  rw [hf] at he
  have go : (if i = 0 then 0 else law.getD (i - 1) 0) ≤ law.getD i 0 → lawScan (i + 1 : Nat) (if i + 1 = 0 then 0 else law.getD (i + 1 - 1) 0) (law.drop (i + 1)) = lawScan 0 0 law := by
    intro k
    rw [if_pos k, if_pos rfl] at he
    rw [if_neg (by omega), Nat.add_sub_cancel]
    exact he
  by_cases h2 : 0 < (i : Int)
  · simp only [h2, vaE, ↓reduceIte, reduceCtorEq, Nat.reduceEqDiff, Nat.reduceAdd, Nat.reduceMul, Nat.reduceSub, Nat.reduceLeDiff, Nat.reduceBEq, Int.reduceToNat, Int.reduceLE, Int.reduceLT, Int.reduceEq, Int.reduceNe, di]
    rw [wrap64 (n := (i : Int) - 1) (by omega) (by omega), show ((i : Int) - 1).toNat = i - 1 by omega]
    repeat (refine And.intro (by omega) ?_)
    rw [if_neg (show ¬ i = 0 by omega)] at he go
    by_cases h3 : law.getD i 0 < law.getD (i - 1) 0
    · rw [if_neg (show ¬ law.getD (i - 1) 0 ≤ law.getD i 0 by omega)] at he
      simp only [h3, vaE, ↓reduceIte, reduceCtorEq, Nat.reduceEqDiff, Nat.reduceAdd, Nat.reduceMul, Nat.reduceSub, Nat.reduceLeDiff, Nat.reduceBEq, Int.reduceToNat, Int.reduceLE, Int.reduceLT, Int.reduceEq, Int.reduceNe, di]
      rw [if_neg (by decide)] at he
      rw [← he]
    · simp only [h3, vaE, ↓reduceIte, reduceCtorEq, Nat.reduceEqDiff, Nat.reduceAdd, Nat.reduceMul, Nat.reduceSub, Nat.reduceLeDiff, Nat.reduceBEq, Int.reduceToNat, Int.reduceLE, Int.reduceLT, Int.reduceEq, Int.reduceNe, di]
      rw [wrap64 (by omega) (by omega)]
      exact ih (i + 1) _ _ (by omega) ⟨by omega, go (by omega)⟩ (by simp only [vaE, ↓reduceIte, reduceCtorEq, Nat.reduceEqDiff, Nat.reduceAdd, Nat.reduceMul, Nat.reduceSub, Nat.reduceLeDiff, Nat.reduceBEq, Int.reduceToNat, Int.reduceLE, Int.reduceLT, Int.reduceEq, Int.reduceNe, di] <;> rfl)
  · have hi0 : i = 0 := by omega
    subst hi0
    simp only [h2, vaE, ↓reduceIte, reduceCtorEq, Nat.reduceEqDiff, Nat.reduceAdd, Nat.reduceMul, Nat.reduceSub, Nat.reduceLeDiff, Nat.reduceBEq, Int.reduceToNat, Int.reduceLE, Int.reduceLT, Int.reduceEq, Int.reduceNe, di]
    rw [wrap64 (by omega) (by omega)]
    exact ih 1 _ _ (by omega) ⟨by omega, go (by rw [if_pos rfl]; omega)⟩ (by simp only [vaE, ↓reduceIte, reduceCtorEq, Nat.reduceEqDiff, Nat.reduceAdd, Nat.reduceMul, Nat.reduceSub, Nat.reduceLeDiff, Nat.reduceBEq, Int.reduceToNat, Int.reduceLE, Int.reduceLT, Int.reduceEq, Int.reduceNe, di] <;> rfl)
theorem r_LawErr {law : List Int} (hl : law.length ≤ 1000000) : Contract Try.prog 38 [nI law] (.int .i64 (chkW law).2) := by
  refine contract_run Try.func38 k38 rfl ?_
  simp only [body38, b38, res38, vaE, ↓reduceIte, reduceCtorEq, Nat.reduceEqDiff, Nat.reduceAdd, Nat.reduceMul, Nat.reduceSub, Nat.reduceLeDiff, Nat.reduceBEq, Int.reduceToNat, Int.reduceLE, Int.reduceLT, Int.reduceEq, Int.reduceNe, di]
  refine calls_of (r_CheckLaw hl) ?_; simp only [vaE, res38, ↓reduceIte, reduceCtorEq, Nat.reduceEqDiff, Nat.reduceAdd, Nat.reduceMul, Nat.reduceSub, Nat.reduceLeDiff, Nat.reduceBEq, Int.reduceToNat, Int.reduceLE, Int.reduceLT, Int.reduceEq, Int.reduceNe, di]
end Go.DI

