/- The statement WaveTicks, as a contract. No condition. -/
import Derived.Test.YtadmimjaelodkaaSme
set_option linter.unusedSimpArgs false
set_option maxRecDepth 100000
namespace Go.DI
open Go.Proofs Go.RowKit

theorem l_fewCells {s : Ws} : Contract Try.prog 19 [wsI s] (.bool (decide (s.F.length ≤ 30 ∧ s.B.length ≤ 30 ∧ s.L.length ≤ 10))) := by
  refine contract_run Try.func19 k19 rfl ?_
  simp only [body19, b19, res19, vaE, ↓reduceIte, reduceCtorEq, Nat.reduceEqDiff, Nat.reduceAdd, Nat.reduceMul, Nat.reduceSub, Nat.reduceLeDiff, Nat.reduceBEq, Int.reduceToNat, Int.reduceLE, Int.reduceLT, Int.reduceEq, Int.reduceNe, di]
  by_cases h1 : (s.F.length : Int) ≤ 30 ∧ (s.B.length : Int) ≤ 30
  · rw [if_pos h1]
    congr 2
    rw [decide_eq_decide]
    omega
  · rw [if_neg h1, decide_eq_false (by omega)]
def emptyS : Ws := ⟨[], [], []⟩
def runZ (x : Ln) (s : Ws) (cl : List Int) : Ws := if runE x s cl = 0 then runS (opn x) s cl else emptyS
theorem w_RunOf' {x : Ln} {s : Ws} {cl : List Int} (hx : Few x) (hs : FewS s) (hc : cl.length ≤ 1000000) : Contract Try.prog 21 [lnI x, wsI s, nI cl] (.tup [wsI (runZ x s cl), .int .i64 (runE x s cl)]) := by
  have h := w_RunOf hx hs hc
  unfold runZ
  split at h
  · rename_i h0; rw [if_pos h0, h0]; exact h
  · rename_i h0; rw [if_neg h0]; exact h
theorem few_sh {x : Ow} {s : Ws} (hx : OwOk x) (h : Sh x s) : FewS s := by
  have := hx.nb; have := hx.ars; have := hx.len
  have := h.f; have := h.b; have := h.l
  exact ⟨by omega, by omega, by omega⟩
end Go.DI

