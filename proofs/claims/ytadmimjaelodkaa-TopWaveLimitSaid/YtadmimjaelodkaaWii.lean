/- The statement WaveStates, as a contract. No condition. -/
import Derived.Test.YtadmimjaelodkaaWig
import Derived.Test.YtadmimjaelodkaaWih
set_option linter.unusedSimpArgs false
set_option maxRecDepth 100000
namespace Go.DI
open Go.Proofs Go.RowKit

def presK (s : Ws) (k : Nat) : List Int := (List.range k).map fun i => W6 (s.F.getD i 0 + s.B.getD i 0)
theorem presK_succ {s : Ws} {k : Nat} : presK s (k + 1) = presK s k ++ [W6 (s.F.getD k 0 + s.B.getD k 0)] := by simp [presK, List.range_succ]
theorem presK_length {s : Ws} {k : Nat} : (presK s k).length = k := by simp [presK]
theorem w_pressures {s : Ws} (hs : FewS s) (hl : s.F.length = s.B.length) : Contract Try.prog 126 [wsI s] (nI (presK s s.F.length)) := by
  have hf := hs.1
  refine contract_run Try.func126 k126 rfl ?_
  simp only [body126, b126, res126, b126k0, b126k1, vaE, ↓reduceIte, reduceCtorEq, Nat.reduceEqDiff, Nat.reduceAdd, Nat.reduceMul, Nat.reduceSub, Nat.reduceLeDiff, Nat.reduceBEq, Int.reduceToNat, Int.reduceLE, Int.reduceLT, Int.reduceEq, Int.reduceNe, di]
  refine loop_keep (α := Nat) rfl (fun i => s.F.length - i) (fun i => i ≤ s.F.length)
    (fun i => [(1, .ref 1 0), (3, .own 3), (7, .imm (nI s.F)), (8, .imm (.int .i64 s.F.length)), (9, .imm (.int .i64 i))])
    (fun i => [(1, .box [.imm (nI s.F), .imm (nI s.B), .imm (nI s.L)]), (3, .tok 1 ((presK s i).map (.int .i64)))]) 0 (Nat.zero_le _) (by simp only [vaE, ↓reduceIte, reduceCtorEq, Nat.reduceEqDiff, Nat.reduceAdd, Nat.reduceMul, Nat.reduceSub, Nat.reduceLeDiff, Nat.reduceBEq, Int.reduceToNat, Int.reduceLE, Int.reduceLT, Int.reduceEq, Int.reduceNe, di] <;> rfl) ?_
  intro i hi ih
  have hpl := presK_length (s := s) (k := i)
  simp only [res126, b126k0, b126k1, vaE, ↓reduceIte, reduceCtorEq, Nat.reduceEqDiff, Nat.reduceAdd, Nat.reduceMul, Nat.reduceSub, Nat.reduceLeDiff, Nat.reduceBEq, Int.reduceToNat, Int.reduceLE, Int.reduceLT, Int.reduceEq, Int.reduceNe, di]
  split
  · rename_i h
    repeat (refine And.intro (by first | omega | exact all_int _ | (simp only [zeros_len, List.length_append, List.length_take, List.length_drop, List.length_set, List.length_cons, List.length_nil, List.length_map]; omega)) ?_)
    rw [wrap64 (n := (i : Int) + 1) (by omega) (by omega)]
    refine ih (i + 1) _ _ (by omega) (by omega) ?_
    rw [presK_succ]
    simp only [vaE, ↓reduceIte, reduceCtorEq, Nat.reduceEqDiff, Nat.reduceAdd, Nat.reduceMul, Nat.reduceSub, Nat.reduceLeDiff, Nat.reduceBEq, Int.reduceToNat, Int.reduceLE, Int.reduceLT, Int.reduceEq, Int.reduceNe, di] <;> rfl
  · rename_i h
    rw [show s.F.length = i by omega]
end Go.DI

