/- The statement WaveResonant, as a contract. No condition. -/
import Derived.Test.YtadmimjaelodkaaWgb
import Derived.Test.YtadmimjaelodkaaWol
import Derived.Test.YtadmimjaelodkaaWgf
set_option linter.unusedSimpArgs false
set_option maxRecDepth 100000
namespace Go.DI
open Go.Proofs Go.RowKit

theorem c_Has {l : List Int} {n : Int} (hl : l.length ≤ 1000000) : Contract Try.prog 51 [nI l, .int .i64 n] (.bool (decide (n ∈ l))) := by
 refine contract_run Try.func51 k51 rfl ?_
 simp only [body51, b51, res51, b51k0, b51k1, b51k2, vaE, ↓reduceIte, reduceCtorEq, Nat.reduceEqDiff, Nat.reduceAdd, Nat.reduceMul, Nat.reduceSub, Nat.reduceLeDiff, Nat.reduceBEq, Int.reduceToNat, Int.reduceLE, Int.reduceLT, Int.reduceEq, Int.reduceNe, di]
 refine loop_keep (α := Nat) rfl (fun i => l.length - i) (fun i => i ≤ l.length ∧ (n ∈ l ↔ n ∈ l.drop i))
  (fun i => [(0, .imm (nI l)), (1, .imm (.int .i64 n)), (5, .imm (.int .i64 i))]) (fun _ => []) 0 ⟨Nat.zero_le _, Iff.rfl⟩ (by simp only [vaE, ↓reduceIte, reduceCtorEq, Nat.reduceEqDiff, Nat.reduceAdd, Nat.reduceMul, Nat.reduceSub, Nat.reduceLeDiff, Nat.reduceBEq, Int.reduceToNat, Int.reduceLE, Int.reduceLT, Int.reduceEq, Int.reduceNe, di] <;> rfl) ?_
 rintro i ⟨hi, he⟩ ih
 simp only [res51, b51k0, b51k1, b51k2, vaE, ↓reduceIte, reduceCtorEq, Nat.reduceEqDiff, Nat.reduceAdd, Nat.reduceMul, Nat.reduceSub, Nat.reduceLeDiff, Nat.reduceBEq, Int.reduceToNat, Int.reduceLE, Int.reduceLT, Int.reduceEq, Int.reduceNe, di]
 split
 ·rename_i h
  have hlt : i < l.length := by omega
  repeat (refine And.intro (by first | omega | exact all_int _ | (simp only [zeros_len, List.length_append, List.length_take, List.length_drop, List.length_set, List.length_cons, List.length_nil, List.length_map]; omega)) ?_)
  rw [getD_drop hlt, List.mem_cons] at he
  split
  ·rename_i h2
   rw [decide_eq_true (he.2 (.inl h2.symm))]
  ·rename_i h2
   rw [wrap64 (by omega) (by omega)]
   exact ih (i + 1) _ _ (by omega) ⟨by omega, he.trans ⟨fun k => k.resolve_left (fun e => h2 e.symm), .inr⟩⟩ (by simp only [vaE, ↓reduceIte, reduceCtorEq, Nat.reduceEqDiff, Nat.reduceAdd, Nat.reduceMul, Nat.reduceSub, Nat.reduceLeDiff, Nat.reduceBEq, Int.reduceToNat, Int.reduceLE, Int.reduceLT, Int.reduceEq, Int.reduceNe, di] <;> rfl)
 ·rename_i h
  have : i = l.length := by omega
  subst this
  rw [List.drop_length] at he
  rw [decide_eq_false (fun k => by have := he.1 k; cases this)]
theorem r_QuarterErr {h : Int} : Contract Try.prog 47 [.int .i64 h] (.int .i64 (quarterE h)) := by
 refine contract_run Try.func47 k47 rfl ?_
 simp only [body47, b47, res47, b47k0, vaE, ↓reduceIte, reduceCtorEq, Nat.reduceEqDiff, Nat.reduceAdd, Nat.reduceMul, Nat.reduceSub, Nat.reduceLeDiff, Nat.reduceBEq, Int.reduceToNat, Int.reduceLE, Int.reduceLT, Int.reduceEq, Int.reduceNe, di]
 refine calls_of c_Within ?_; simp only [vaE, res47, b47k0, ↓reduceIte, reduceCtorEq, Nat.reduceEqDiff, Nat.reduceAdd, Nat.reduceMul, Nat.reduceSub, Nat.reduceLeDiff, Nat.reduceBEq, Int.reduceToNat, Int.reduceLE, Int.reduceLT, Int.reduceEq, Int.reduceNe, di]
 unfold quarterE
 split <;> rfl
end Go.DI

