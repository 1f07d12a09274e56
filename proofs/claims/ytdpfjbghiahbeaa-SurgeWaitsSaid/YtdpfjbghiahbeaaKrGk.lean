/- Steps and boxes: monotone, enclosed. No condition. -/
import Derived.Test.YtdpfjbghiahbeaaKsGf
import Derived.Test.YtdpfjbghiahbeaaKrGj
/- Steps as plain data: never crossing. No condition. -/
namespace Go.DI.Sg

end Go.DI.Sg

/- Boxes as plain data: enclosed. No condition. -/
namespace Go.DI
open Sg

end Go.DI

/- The statement SurgeEnclosed, as a contract. No condition. -/
set_option linter.unusedSimpArgs false
set_option maxRecDepth 20000
namespace Go.DI
open Go.Proofs Go.RowKit Sg

def rngE (lo hi m : Int) : Int := if Wi lo (-m) m ∧ Wi hi (-m) m then (if hi < lo then 9 else 0) else 2
theorem r_rangeErr {lo hi m : Int} (hm : 0 ≤ m ∧ m ≤ 1000000) : Contract Try.prog 97 [stI lo hi, .int .i64 m] (.int .i64 (rngE lo hi m)) := by
  unfold rngE
  refine contract_run Try.func97 k97 rfl ?_
  simp only [body97, b97, res97, b97k0, b97k1, ruI, ssI, sbI, spI, swI, scI, stI, srI, saI, snI, ↓reduceIte, reduceCtorEq, Nat.reduceEqDiff, Nat.reduceAdd, Nat.reduceMul, Nat.reduceSub, Nat.reduceLeDiff, Nat.reduceBEq, Int.reduceToNat, Int.reduceLE, Int.reduceLT, Int.reduceEq, Int.reduceNe, di0, di1, di2, di3, di4, di5, di6, di7, di8, di9, postX_ret, postX_normal, ex_some]
  simp only [show IntKind.wrap .i64 (0 - m) = -m by rw [Int.zero_sub]; exact wrap64 (by omega) (by omega)]
  refine calls_of c_Wi ?_; simp only [ruI, ssI, sbI, spI, swI, scI, stI, srI, saI, snI, res97, b97k0, b97k1, ↓reduceIte, reduceCtorEq, Nat.reduceEqDiff, Nat.reduceAdd, Nat.reduceMul, Nat.reduceSub, Nat.reduceLeDiff, Nat.reduceBEq, Int.reduceToNat, Int.reduceLE, Int.reduceLT, Int.reduceEq, Int.reduceNe, di0, di1, di2, di3, di4, di5, di6, di7, di8, di9, postX_ret, postX_normal, ex_some]
  by_cases h1 : Wi lo (-m) m
  case neg => simp only [h1, false_and, decide_false, ruI, ssI, sbI, spI, swI, scI, stI, srI, saI, snI, ↓reduceIte, reduceCtorEq, Nat.reduceEqDiff, Nat.reduceAdd, Nat.reduceMul, Nat.reduceSub, Nat.reduceLeDiff, Nat.reduceBEq, Int.reduceToNat, Int.reduceLE, Int.reduceLT, Int.reduceEq, Int.reduceNe, di0, di1, di2, di3, di4, di5, di6, di7, di8, di9, postX_ret, postX_normal, ex_some]
  simp only [h1, decide_true, ruI, ssI, sbI, spI, swI, scI, stI, srI, saI, snI, ↓reduceIte, reduceCtorEq, Nat.reduceEqDiff, Nat.reduceAdd, Nat.reduceMul, Nat.reduceSub, Nat.reduceLeDiff, Nat.reduceBEq, Int.reduceToNat, Int.reduceLE, Int.reduceLT, Int.reduceEq, Int.reduceNe, di0, di1, di2, di3, di4, di5, di6, di7, di8, di9, postX_ret, postX_normal, ex_some]
  simp only [show IntKind.wrap .i64 (0 - m) = -m by rw [Int.zero_sub]; exact wrap64 (by omega) (by omega)]
  refine calls_of c_Wi ?_; simp only [ruI, ssI, sbI, spI, swI, scI, stI, srI, saI, snI, res97, b97k0, b97k1, ↓reduceIte, reduceCtorEq, Nat.reduceEqDiff, Nat.reduceAdd, Nat.reduceMul, Nat.reduceSub, Nat.reduceLeDiff, Nat.reduceBEq, Int.reduceToNat, Int.reduceLE, Int.reduceLT, Int.reduceEq, Int.reduceNe, di0, di1, di2, di3, di4, di5, di6, di7, di8, di9, postX_ret, postX_normal, ex_some]
  by_cases h2 : Wi hi (-m) m
  case neg => simp only [h2, and_false, decide_false, ruI, ssI, sbI, spI, swI, scI, stI, srI, saI, snI, ↓reduceIte, reduceCtorEq, Nat.reduceEqDiff, Nat.reduceAdd, Nat.reduceMul, Nat.reduceSub, Nat.reduceLeDiff, Nat.reduceBEq, Int.reduceToNat, Int.reduceLE, Int.reduceLT, Int.reduceEq, Int.reduceNe, di0, di1, di2, di3, di4, di5, di6, di7, di8, di9, postX_ret, postX_normal, ex_some]
  simp only [h2, decide_true, and_self, ruI, ssI, sbI, spI, swI, scI, stI, srI, saI, snI, ↓reduceIte, reduceCtorEq, Nat.reduceEqDiff, Nat.reduceAdd, Nat.reduceMul, Nat.reduceSub, Nat.reduceLeDiff, Nat.reduceBEq, Int.reduceToNat, Int.reduceLE, Int.reduceLT, Int.reduceEq, Int.reduceNe, di0, di1, di2, di3, di4, di5, di6, di7, di8, di9, postX_ret, postX_normal, ex_some]
  try split <;> rfl

theorem r_BoxErr {b : Bx} : Contract Try.prog 24 [sbI b] (.int .i64 (boxErr b)) := by
  refine contract_run Try.func24 k24 rfl ?_
  simp only [body24, b24, res24, b24k0, ruI, ssI, sbI, spI, swI, scI, stI, srI, saI, snI, ↓reduceIte, reduceCtorEq, Nat.reduceEqDiff, Nat.reduceAdd, Nat.reduceMul, Nat.reduceSub, Nat.reduceLeDiff, Nat.reduceBEq, Int.reduceToNat, Int.reduceLE, Int.reduceLT, Int.reduceEq, Int.reduceNe, di0, di1, di2, di3, di4, di5, di6, di7, di8, di9, postX_ret, postX_normal, ex_some]
  refine calls_of (r_rangeErr (lo := b.ll) (hi := b.lh) (m := 100000) (by omega)) ?_; simp only [ruI, ssI, sbI, spI, swI, scI, stI, srI, saI, snI, res24, b24k0, ↓reduceIte, reduceCtorEq, Nat.reduceEqDiff, Nat.reduceAdd, Nat.reduceMul, Nat.reduceSub, Nat.reduceLeDiff, Nat.reduceBEq, Int.reduceToNat, Int.reduceLE, Int.reduceLT, Int.reduceEq, Int.reduceNe, di0, di1, di2, di3, di4, di5, di6, di7, di8, di9, postX_ret, postX_normal, ex_some]
  have e : boxErr b = if rngE b.ll b.lh 100000 = 0 then rngE b.fl b.fh 1000 else rngE b.ll b.lh 100000 := by
    unfold boxErr rngE
    by_cases h1 : Wi b.ll (-100000) 100000 ∧ Wi b.lh (-100000) 100000
    · rw [if_neg (fun k => k h1), if_pos h1]
      by_cases h2 : b.lh < b.ll
      · rw [if_pos h2, if_pos h2, if_neg (by decide)]
      · rw [if_neg h2, if_neg h2, if_pos rfl]
        by_cases h3 : Wi b.fl (-1000) 1000 ∧ Wi b.fh (-1000) 1000
        · rw [if_neg (fun k => k h3), if_pos h3]
        · rw [if_pos h3, if_neg h3]
    · rw [if_pos h1, if_neg h1, if_neg (by decide)]
  rw [e]
  split
  · refine calls_of (r_rangeErr (lo := b.fl) (hi := b.fh) (m := 1000) (by omega)) ?_; simp only [ruI, ssI, sbI, spI, swI, scI, stI, srI, saI, snI, res24, b24k0, ↓reduceIte, reduceCtorEq, Nat.reduceEqDiff, Nat.reduceAdd, Nat.reduceMul, Nat.reduceSub, Nat.reduceLeDiff, Nat.reduceBEq, Int.reduceToNat, Int.reduceLE, Int.reduceLT, Int.reduceEq, Int.reduceNe, di0, di1, di2, di3, di4, di5, di6, di7, di8, di9, postX_ret, postX_normal, ex_some]
  · rfl

end Go.DI

