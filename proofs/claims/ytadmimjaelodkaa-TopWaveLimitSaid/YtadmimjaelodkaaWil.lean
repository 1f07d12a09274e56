/- Contracts: laws in the reference. No condition. -/
import Derived.Test.YtadmimjaelodkaaWif
import Derived.Test.YtadmimjaelodkaaWha
import Derived.Test.YtadmimjaelodkaaWib
set_option linter.unusedSimpArgs false
set_option maxRecDepth 100000
namespace Go.DI
open Go.Proofs Go.RowKit

theorem r_TicksErr {n : Int} : Contract Try.prog 68 [.int .i64 n] (.int .i64 (ticksE n)) := by
  refine contract_run Try.func68 k68 rfl ?_
  simp only [body68, b68, res68, b68k0, vaE, ↓reduceIte, reduceCtorEq, Nat.reduceEqDiff, Nat.reduceAdd, Nat.reduceMul, Nat.reduceSub, Nat.reduceLeDiff, Nat.reduceBEq, Int.reduceToNat, Int.reduceLE, Int.reduceLT, Int.reduceEq, Int.reduceNe, di]
  refine calls_of c_Within ?_; simp only [vaE, res68, b68k0, ↓reduceIte, reduceCtorEq, Nat.reduceEqDiff, Nat.reduceAdd, Nat.reduceMul, Nat.reduceSub, Nat.reduceLeDiff, Nat.reduceBEq, Int.reduceToNat, Int.reduceLE, Int.reduceLT, Int.reduceEq, Int.reduceNe, di]
  unfold ticksE
  split <;> rfl
theorem r_CheckLaw {law : List Int} (hl : law.length ≤ 1000000) : Contract Try.prog 67 [nI law] (e2I (chkW law)) := by
  refine contract_run Try.func67 k67 rfl ?_
  simp only [body67, b67, res67, b67k0, b67k1, b67k2, b67k3, b67k4, vaE, ↓reduceIte, reduceCtorEq, Nat.reduceEqDiff, Nat.reduceAdd, Nat.reduceMul, Nat.reduceSub, Nat.reduceLeDiff, Nat.reduceBEq, Int.reduceToNat, Int.reduceLE, Int.reduceLT, Int.reduceEq, Int.reduceNe, di]
  unfold chkW
  split
  · rfl
  rename_i h
  refine loop_keep (α := Nat) rfl (fun i => law.length - i) (fun i => i ≤ law.length ∧ lawScan i (if i = 0 then 0 else law.getD (i - 1) 0) (law.drop i) = lawScan 0 0 law)
    (fun i => [(0, .imm (nI law)), (4, .imm (.int .i64 i))]) (fun _ => []) 0 ⟨Nat.zero_le _, rfl⟩ (by simp only [vaE, ↓reduceIte, reduceCtorEq, Nat.reduceEqDiff, Nat.reduceAdd, Nat.reduceMul, Nat.reduceSub, Nat.reduceLeDiff, Nat.reduceBEq, Int.reduceToNat, Int.reduceLE, Int.reduceLT, Int.reduceEq, Int.reduceNe, di] <;> rfl) ?_
  rintro i ⟨hi, he⟩ ih
  simp only [res67, b67k0, b67k1, b67k2, b67k3, b67k4, vaE, ↓reduceIte, reduceCtorEq, Nat.reduceEqDiff, Nat.reduceAdd, Nat.reduceMul, Nat.reduceSub, Nat.reduceLeDiff, Nat.reduceBEq, Int.reduceToNat, Int.reduceLE, Int.reduceLT, Int.reduceEq, Int.reduceNe, di]
  split
  rotate_left
  · rename_i h
    have : i = law.length := by omega
    subst this
    rw [List.drop_length] at he
    rw [← he]
    rfl
  rename_i h
  have hlt : i < law.length := by omega
  rw [getD_drop hlt, lawScan_cons] at he
  repeat (refine And.intro (by omega) ?_)
  refine calls_of c_Within ?_; simp only [vaE, res67, b67k0, b67k1, b67k2, b67k3, b67k4, ↓reduceIte, reduceCtorEq, Nat.reduceEqDiff, Nat.reduceAdd, Nat.reduceMul, Nat.reduceSub, Nat.reduceLeDiff, Nat.reduceBEq, Int.reduceToNat, Int.reduceLE, Int.reduceLT, Int.reduceEq, Int.reduceNe, di]
  by_cases h1 : 0 ≤ law.getD i 0 ∧ law.getD i 0 ≤ 1000
  rotate_left
  · rw [if_neg h1] at he
    simp only [h1, vaE, ↓reduceIte, reduceCtorEq, Nat.reduceEqDiff, Nat.reduceAdd, Nat.reduceMul, Nat.reduceSub, Nat.reduceLeDiff, Nat.reduceBEq, Int.reduceToNat, Int.reduceLE, Int.reduceLT, Int.reduceEq, Int.reduceNe, di]
    rw [if_neg (show ¬ fstE 2 (if (if i = 0 then 0 else law.getD (i - 1) 0) ≤ law.getD i 0 then 0 else 9) = 0 by unfold fstE; rw [if_neg (by decide)]; decide)] at he
    rw [← he]
    rfl
  rw [if_pos h1] at he
  simp only [h1, vaE, ↓reduceIte, reduceCtorEq, Nat.reduceEqDiff, Nat.reduceAdd, Nat.reduceMul, Nat.reduceSub, Nat.reduceLeDiff, Nat.reduceBEq, Int.reduceToNat, Int.reduceLE, Int.reduceLT, Int.reduceEq, Int.reduceNe, di]
  have hf : ∀ e : Int, fstE 0 e = e := fun e => if_pos rfl
  rw [hf] at he
  have go : (if i = 0 then 0 else law.getD (i - 1) 0) ≤ law.getD i 0 → lawScan (i + 1 : Nat) (if i + 1 = 0 then 0 else law.getD (i + 1 - 1) 0) (law.drop (i + 1)) = lawScan 0 0 law := by
    intro k
    rw [if_pos k, if_pos rfl] at he
    rw [if_neg (by omega), Nat.add_sub_cancel]
    exact he
  by_cases h2 : 0 < (i : Int)
  · simp only [h2, vaE, ↓reduceIte, reduceCtorEq, Nat.reduceEqDiff, Nat.reduceAdd, Nat.reduceMul, Nat.reduceSub, Nat.reduceLeDiff, Nat.reduceBEq, Int.reduceToNat, Int.reduceLE, Int.reduceLT, Int.reduceEq, Int.reduceNe, di]
    rw [wrap64 (n := (i : Int) - 1) (by omega) (by omega), show ((i : Int) - 1).toNat = i - 1 by omega]
    repeat (refine And.intro (by omega) ?_)
    rw [if_neg (show ¬ i = 0 by omega)] at he go
    by_cases h3 : law.getD i 0 < law.getD (i - 1) 0
    · rw [if_neg (show ¬ law.getD (i - 1) 0 ≤ law.getD i 0 by omega)] at he
      simp only [h3, vaE, ↓reduceIte, reduceCtorEq, Nat.reduceEqDiff, Nat.reduceAdd, Nat.reduceMul, Nat.reduceSub, Nat.reduceLeDiff, Nat.reduceBEq, Int.reduceToNat, Int.reduceLE, Int.reduceLT, Int.reduceEq, Int.reduceNe, di]
      rw [if_neg (by decide)] at he
      rw [← he]
    · simp only [h3, vaE, ↓reduceIte, reduceCtorEq, Nat.reduceEqDiff, Nat.reduceAdd, Nat.reduceMul, Nat.reduceSub, Nat.reduceLeDiff, Nat.reduceBEq, Int.reduceToNat, Int.reduceLE, Int.reduceLT, Int.reduceEq, Int.reduceNe, di]
      rw [wrap64 (by omega) (by omega)]
      exact ih (i + 1) _ _ (by omega) ⟨by omega, go (by omega)⟩ (by simp only [vaE, ↓reduceIte, reduceCtorEq, Nat.reduceEqDiff, Nat.reduceAdd, Nat.reduceMul, Nat.reduceSub, Nat.reduceLeDiff, Nat.reduceBEq, Int.reduceToNat, Int.reduceLE, Int.reduceLT, Int.reduceEq, Int.reduceNe, di] <;> rfl)
  · have hi0 : i = 0 := by omega
    subst hi0
    simp only [h2, vaE, ↓reduceIte, reduceCtorEq, Nat.reduceEqDiff, Nat.reduceAdd, Nat.reduceMul, Nat.reduceSub, Nat.reduceLeDiff, Nat.reduceBEq, Int.reduceToNat, Int.reduceLE, Int.reduceLT, Int.reduceEq, Int.reduceNe, di]
    rw [wrap64 (by omega) (by omega)]
    exact ih 1 _ _ (by omega) ⟨by omega, go (by rw [if_pos rfl]; omega)⟩ (by simp only [vaE, ↓reduceIte, reduceCtorEq, Nat.reduceEqDiff, Nat.reduceAdd, Nat.reduceMul, Nat.reduceSub, Nat.reduceLeDiff, Nat.reduceBEq, Int.reduceToNat, Int.reduceLE, Int.reduceLT, Int.reduceEq, Int.reduceNe, di] <;> rfl)
theorem r_LawErr {law : List Int} (hl : law.length ≤ 1000000) : Contract Try.prog 38 [nI law] (.int .i64 (chkW law).2) := by
  refine contract_run Try.func38 k38 rfl ?_
  simp only [body38, b38, res38, vaE, ↓reduceIte, reduceCtorEq, Nat.reduceEqDiff, Nat.reduceAdd, Nat.reduceMul, Nat.reduceSub, Nat.reduceLeDiff, Nat.reduceBEq, Int.reduceToNat, Int.reduceLE, Int.reduceLT, Int.reduceEq, Int.reduceNe, di]
  refine calls_of (r_CheckLaw hl) ?_; simp only [vaE, res38, ↓reduceIte, reduceCtorEq, Nat.reduceEqDiff, Nat.reduceAdd, Nat.reduceMul, Nat.reduceSub, Nat.reduceLeDiff, Nat.reduceBEq, Int.reduceToNat, Int.reduceLE, Int.reduceLT, Int.reduceEq, Int.reduceNe, di]
theorem r_TaskErr {t : Tk} : Contract Try.prog 55 [tkI t] (.int .i64 (taskE t)) := by
  have key : taskE t = if ¬ ((0 ≤ t.cl ∧ t.cl ≤ 5) ∧ 1 ≤ t.mo ∧ t.mo ≤ 7) then 2 else if ticksE t.ti ≠ 0 then ticksE t.ti else if ¬ ((-1000000 ≤ t.lo ∧ t.lo ≤ 1000000) ∧ -1000000 ≤ t.hi ∧ t.hi ≤ 1000000) then 2 else if t.hi < t.lo then 9 else 0 := by
    unfold taskE
    have h5 : t.hi < t.lo ↔ ¬ t.lo ≤ t.hi := by omega
    simp only [h5]
    by_cases h1 : (0 ≤ t.cl ∧ t.cl ≤ 5) ∧ 1 ≤ t.mo ∧ t.mo ≤ 7 <;> by_cases h2 : ticksE t.ti = 0 <;> by_cases h3 : (-1000000 ≤ t.lo ∧ t.lo ≤ 1000000) ∧ -1000000 ≤ t.hi ∧ t.hi ≤ 1000000 <;> by_cases h4 : t.lo ≤ t.hi <;> simp [h1, h2, h3, h4, firstNZ]
  rw [key]
  refine contract_run Try.func55 k55 rfl ?_
  simp only [body55, b55, res55, b55k0, b55k1, b55k2, b55k3, vaE, ↓reduceIte, reduceCtorEq, Nat.reduceEqDiff, Nat.reduceAdd, Nat.reduceMul, Nat.reduceSub, Nat.reduceLeDiff, Nat.reduceBEq, Int.reduceToNat, Int.reduceLE, Int.reduceLT, Int.reduceEq, Int.reduceNe, di]
  refine calls_of c_Within ?_; simp only [vaE, res55, b55k0, b55k1, b55k2, b55k3, ↓reduceIte, reduceCtorEq, Nat.reduceEqDiff, Nat.reduceAdd, Nat.reduceMul, Nat.reduceSub, Nat.reduceLeDiff, Nat.reduceBEq, Int.reduceToNat, Int.reduceLE, Int.reduceLT, Int.reduceEq, Int.reduceNe, di]
  by_cases h1 : 0 ≤ t.cl ∧ t.cl ≤ 5
  rotate_left
  · simp only [h1, false_and, vaE, ↓reduceIte, reduceCtorEq, Nat.reduceEqDiff, Nat.reduceAdd, Nat.reduceMul, Nat.reduceSub, Nat.reduceLeDiff, Nat.reduceBEq, Int.reduceToNat, Int.reduceLE, Int.reduceLT, Int.reduceEq, Int.reduceNe, di]
  simp only [h1, vaE, ↓reduceIte, reduceCtorEq, Nat.reduceEqDiff, Nat.reduceAdd, Nat.reduceMul, Nat.reduceSub, Nat.reduceLeDiff, Nat.reduceBEq, Int.reduceToNat, Int.reduceLE, Int.reduceLT, Int.reduceEq, Int.reduceNe, di]
  refine calls_of c_Within ?_; simp only [vaE, res55, b55k0, b55k1, b55k2, b55k3, ↓reduceIte, reduceCtorEq, Nat.reduceEqDiff, Nat.reduceAdd, Nat.reduceMul, Nat.reduceSub, Nat.reduceLeDiff, Nat.reduceBEq, Int.reduceToNat, Int.reduceLE, Int.reduceLT, Int.reduceEq, Int.reduceNe, di]
  by_cases h2 : 1 ≤ t.mo ∧ t.mo ≤ 7
  rotate_left
  · simp only [h2, vaE, ↓reduceIte, reduceCtorEq, Nat.reduceEqDiff, Nat.reduceAdd, Nat.reduceMul, Nat.reduceSub, Nat.reduceLeDiff, Nat.reduceBEq, Int.reduceToNat, Int.reduceLE, Int.reduceLT, Int.reduceEq, Int.reduceNe, di]
  simp only [h2, vaE, ↓reduceIte, reduceCtorEq, Nat.reduceEqDiff, Nat.reduceAdd, Nat.reduceMul, Nat.reduceSub, Nat.reduceLeDiff, Nat.reduceBEq, Int.reduceToNat, Int.reduceLE, Int.reduceLT, Int.reduceEq, Int.reduceNe, di]
  refine calls_of r_TicksErr ?_; simp only [vaE, res55, b55k0, b55k1, b55k2, b55k3, ↓reduceIte, reduceCtorEq, Nat.reduceEqDiff, Nat.reduceAdd, Nat.reduceMul, Nat.reduceSub, Nat.reduceLeDiff, Nat.reduceBEq, Int.reduceToNat, Int.reduceLE, Int.reduceLT, Int.reduceEq, Int.reduceNe, di]
  by_cases h3 : ticksE t.ti = 0
  rotate_left
  · simp only [h3, vaE, ↓reduceIte, reduceCtorEq, Nat.reduceEqDiff, Nat.reduceAdd, Nat.reduceMul, Nat.reduceSub, Nat.reduceLeDiff, Nat.reduceBEq, Int.reduceToNat, Int.reduceLE, Int.reduceLT, Int.reduceEq, Int.reduceNe, di]
    rw [if_pos h3]
  simp only [h3, vaE, ↓reduceIte, reduceCtorEq, Nat.reduceEqDiff, Nat.reduceAdd, Nat.reduceMul, Nat.reduceSub, Nat.reduceLeDiff, Nat.reduceBEq, Int.reduceToNat, Int.reduceLE, Int.reduceLT, Int.reduceEq, Int.reduceNe, di]
  refine calls_of c_Within ?_; simp only [vaE, res55, b55k0, b55k1, b55k2, b55k3, ↓reduceIte, reduceCtorEq, Nat.reduceEqDiff, Nat.reduceAdd, Nat.reduceMul, Nat.reduceSub, Nat.reduceLeDiff, Nat.reduceBEq, Int.reduceToNat, Int.reduceLE, Int.reduceLT, Int.reduceEq, Int.reduceNe, di]
  by_cases h4 : -1000000 ≤ t.lo ∧ t.lo ≤ 1000000
  rotate_left
  · simp only [h4, false_and, vaE, ↓reduceIte, reduceCtorEq, Nat.reduceEqDiff, Nat.reduceAdd, Nat.reduceMul, Nat.reduceSub, Nat.reduceLeDiff, Nat.reduceBEq, Int.reduceToNat, Int.reduceLE, Int.reduceLT, Int.reduceEq, Int.reduceNe, di]
  simp only [h4, vaE, ↓reduceIte, reduceCtorEq, Nat.reduceEqDiff, Nat.reduceAdd, Nat.reduceMul, Nat.reduceSub, Nat.reduceLeDiff, Nat.reduceBEq, Int.reduceToNat, Int.reduceLE, Int.reduceLT, Int.reduceEq, Int.reduceNe, di]
  refine calls_of c_Within ?_; simp only [vaE, res55, b55k0, b55k1, b55k2, b55k3, ↓reduceIte, reduceCtorEq, Nat.reduceEqDiff, Nat.reduceAdd, Nat.reduceMul, Nat.reduceSub, Nat.reduceLeDiff, Nat.reduceBEq, Int.reduceToNat, Int.reduceLE, Int.reduceLT, Int.reduceEq, Int.reduceNe, di]
  by_cases h5 : -1000000 ≤ t.hi ∧ t.hi ≤ 1000000
  rotate_left
  · simp only [h5, vaE, ↓reduceIte, reduceCtorEq, Nat.reduceEqDiff, Nat.reduceAdd, Nat.reduceMul, Nat.reduceSub, Nat.reduceLeDiff, Nat.reduceBEq, Int.reduceToNat, Int.reduceLE, Int.reduceLT, Int.reduceEq, Int.reduceNe, di]
  simp only [h5, vaE, ↓reduceIte, reduceCtorEq, Nat.reduceEqDiff, Nat.reduceAdd, Nat.reduceMul, Nat.reduceSub, Nat.reduceLeDiff, Nat.reduceBEq, Int.reduceToNat, Int.reduceLE, Int.reduceLT, Int.reduceEq, Int.reduceNe, di]
  split <;> rfl

end Go.DI

