/- Contracts: the reference's covers; the statement SurgeCovers. No condition. -/
import Derived.Test.YtdpfjbghiahbeaaKtGo
set_option linter.unusedSimpArgs false
set_option maxRecDepth 20000
namespace Go.DI
open Go.Proofs Go.RowKit Sg

theorem r_BoxErrS {b : Bx} : Contract Try.prog 24 [sbI b] (.int .i64 (boxErr b)) := r_BoxErr

theorem r_CoverErr {v : Cv} : Contract Try.prog 76 [scI v] (.int .i64 (coverE v)) := by
  have rb := r_BoxErrS (b := v.b)
  refine contract_run Try.func76 k76 rfl ?_
  simp only [body76, b76, res76, b76k0, b76k1, b76k2, ruI, ssI, sbI, spI, swI, scI, stI, srI, saI, snI, ↓reduceIte, reduceCtorEq, Nat.reduceEqDiff, Nat.reduceAdd, Nat.reduceMul, Nat.reduceSub, Nat.reduceLeDiff, Nat.reduceBEq, Int.reduceToNat, Int.reduceLE, Int.reduceLT, Int.reduceEq, Int.reduceNe, di0, di1, di2, di3, di4, di5, di6, di7, di8, di9, postX_ret, postX_normal, ex_some]
  refine calls_of rb ?_; simp only [ruI, ssI, sbI, spI, swI, scI, stI, srI, saI, snI, res76, b76k0, b76k1, b76k2, ↓reduceIte, reduceCtorEq, Nat.reduceEqDiff, Nat.reduceAdd, Nat.reduceMul, Nat.reduceSub, Nat.reduceLeDiff, Nat.reduceBEq, Int.reduceToNat, Int.reduceLE, Int.reduceLT, Int.reduceEq, Int.reduceNe, di0, di1, di2, di3, di4, di5, di6, di7, di8, di9, postX_ret, postX_normal, ex_some]
  unfold coverE
  by_cases h1 : boxErr v.b = 0
  case neg =>
    unfold fstE
    simp only [h1, ruI, ssI, sbI, spI, swI, scI, stI, srI, saI, snI, ↓reduceIte, reduceCtorEq, Nat.reduceEqDiff, Nat.reduceAdd, Nat.reduceMul, Nat.reduceSub, Nat.reduceLeDiff, Nat.reduceBEq, Int.reduceToNat, Int.reduceLE, Int.reduceLT, Int.reduceEq, Int.reduceNe, di0, di1, di2, di3, di4, di5, di6, di7, di8, di9, postX_ret, postX_normal, ex_some]
  rw [show fstE (boxErr v.b) _ = _ from if_pos h1]
  simp only [h1, ruI, ssI, sbI, spI, swI, scI, stI, srI, saI, snI, ↓reduceIte, reduceCtorEq, Nat.reduceEqDiff, Nat.reduceAdd, Nat.reduceMul, Nat.reduceSub, Nat.reduceLeDiff, Nat.reduceBEq, Int.reduceToNat, Int.reduceLE, Int.reduceLT, Int.reduceEq, Int.reduceNe, di0, di1, di2, di3, di4, di5, di6, di7, di8, di9, postX_ret, postX_normal, ex_some]
  refine calls_of c_Wi ?_; simp only [ruI, ssI, sbI, spI, swI, scI, stI, srI, saI, snI, res76, b76k0, b76k1, b76k2, ↓reduceIte, reduceCtorEq, Nat.reduceEqDiff, Nat.reduceAdd, Nat.reduceMul, Nat.reduceSub, Nat.reduceLeDiff, Nat.reduceBEq, Int.reduceToNat, Int.reduceLE, Int.reduceLT, Int.reduceEq, Int.reduceNe, di0, di1, di2, di3, di4, di5, di6, di7, di8, di9, postX_ret, postX_normal, ex_some]
  by_cases w1 : Wi v.parts 1 8
  case neg =>
    simp only [w1, ruI, ssI, sbI, spI, swI, scI, stI, srI, saI, snI, ↓reduceIte, reduceCtorEq, Nat.reduceEqDiff, Nat.reduceAdd, Nat.reduceMul, Nat.reduceSub, Nat.reduceLeDiff, Nat.reduceBEq, Int.reduceToNat, Int.reduceLE, Int.reduceLT, Int.reduceEq, Int.reduceNe, di0, di1, di2, di3, di4, di5, di6, di7, di8, di9, postX_ret, postX_normal, ex_some]
    unfold fstE
    simp
  simp only [w1, ruI, ssI, sbI, spI, swI, scI, stI, srI, saI, snI, ↓reduceIte, reduceCtorEq, Nat.reduceEqDiff, Nat.reduceAdd, Nat.reduceMul, Nat.reduceSub, Nat.reduceLeDiff, Nat.reduceBEq, Int.reduceToNat, Int.reduceLE, Int.reduceLT, Int.reduceEq, Int.reduceNe, di0, di1, di2, di3, di4, di5, di6, di7, di8, di9, postX_ret, postX_normal, ex_some]
  refine calls_of c_Wi ?_; simp only [ruI, ssI, sbI, spI, swI, scI, stI, srI, saI, snI, res76, b76k0, b76k1, b76k2, ↓reduceIte, reduceCtorEq, Nat.reduceEqDiff, Nat.reduceAdd, Nat.reduceMul, Nat.reduceSub, Nat.reduceLeDiff, Nat.reduceBEq, Int.reduceToNat, Int.reduceLE, Int.reduceLT, Int.reduceEq, Int.reduceNe, di0, di1, di2, di3, di4, di5, di6, di7, di8, di9, postX_ret, postX_normal, ex_some]
  by_cases w2 : Wi v.lo (-100000) 100000
  case neg =>
    simp only [w2, ruI, ssI, sbI, spI, swI, scI, stI, srI, saI, snI, ↓reduceIte, reduceCtorEq, Nat.reduceEqDiff, Nat.reduceAdd, Nat.reduceMul, Nat.reduceSub, Nat.reduceLeDiff, Nat.reduceBEq, Int.reduceToNat, Int.reduceLE, Int.reduceLT, Int.reduceEq, Int.reduceNe, di0, di1, di2, di3, di4, di5, di6, di7, di8, di9, postX_ret, postX_normal, ex_some]
    unfold fstE
    simp
  simp only [w2, ruI, ssI, sbI, spI, swI, scI, stI, srI, saI, snI, ↓reduceIte, reduceCtorEq, Nat.reduceEqDiff, Nat.reduceAdd, Nat.reduceMul, Nat.reduceSub, Nat.reduceLeDiff, Nat.reduceBEq, Int.reduceToNat, Int.reduceLE, Int.reduceLT, Int.reduceEq, Int.reduceNe, di0, di1, di2, di3, di4, di5, di6, di7, di8, di9, postX_ret, postX_normal, ex_some]
  refine calls_of c_Wi ?_; simp only [ruI, ssI, sbI, spI, swI, scI, stI, srI, saI, snI, res76, b76k0, b76k1, b76k2, ↓reduceIte, reduceCtorEq, Nat.reduceEqDiff, Nat.reduceAdd, Nat.reduceMul, Nat.reduceSub, Nat.reduceLeDiff, Nat.reduceBEq, Int.reduceToNat, Int.reduceLE, Int.reduceLT, Int.reduceEq, Int.reduceNe, di0, di1, di2, di3, di4, di5, di6, di7, di8, di9, postX_ret, postX_normal, ex_some]
  by_cases w3 : Wi v.hi (-100000) 100000
  case neg =>
    simp only [w3, ruI, ssI, sbI, spI, swI, scI, stI, srI, saI, snI, ↓reduceIte, reduceCtorEq, Nat.reduceEqDiff, Nat.reduceAdd, Nat.reduceMul, Nat.reduceSub, Nat.reduceLeDiff, Nat.reduceBEq, Int.reduceToNat, Int.reduceLE, Int.reduceLT, Int.reduceEq, Int.reduceNe, di0, di1, di2, di3, di4, di5, di6, di7, di8, di9, postX_ret, postX_normal, ex_some]
    unfold fstE
    simp
  simp only [w3, ruI, ssI, sbI, spI, swI, scI, stI, srI, saI, snI, ↓reduceIte, reduceCtorEq, Nat.reduceEqDiff, Nat.reduceAdd, Nat.reduceMul, Nat.reduceSub, Nat.reduceLeDiff, Nat.reduceBEq, Int.reduceToNat, Int.reduceLE, Int.reduceLT, Int.reduceEq, Int.reduceNe, di0, di1, di2, di3, di4, di5, di6, di7, di8, di9, postX_ret, postX_normal, ex_some]
  unfold fstE
  by_cases w4 : v.hi < v.lo
  · rw [if_pos w4, if_neg (show ¬ v.lo ≤ v.hi by omega)]
    simp
  · rw [if_neg w4, if_pos (show v.lo ≤ v.hi by omega)]
    simp

theorem r_parts {lo hi c : Int} (hd : DivOk lo hi c) : Contract Try.prog 138 [stI lo hi, .int .i64 c] (.slc 2 ((divL lo hi c).map fun x => stI x.1 x.2)) := by
  have h1 := hd.a1; have h2 := hd.a2; have h3 := hd.a3; have h4 := hd.a4
  refine contract_run Try.func138 k138 rfl ?_
  simp only [body138, b138, res138, b138k0, b138k1, b138k2, ruI, ssI, sbI, spI, swI, scI, stI, srI, saI, snI, ↓reduceIte, reduceCtorEq, Nat.reduceEqDiff, Nat.reduceAdd, Nat.reduceMul, Nat.reduceSub, Nat.reduceLeDiff, Nat.reduceBEq, Int.reduceToNat, Int.reduceLE, Int.reduceLT, Int.reduceEq, Int.reduceNe, di0, di1, di2, di3, di4, di5, di6, di7, di8, di9, postX_ret, postX_normal, ex_some]
  rw [show IntKind.wrap .i64 (hi - lo) = hi - lo from wrap64 (by omega) (by omega)]
  rw [show IntKind.wrap .i64 (hi - lo + 1) = hi - lo + 1 from wrap64 (by omega) (by omega)]
  refine loop_keep (α := Nat × List (Int × Int)) rfl (fun q => c.toNat - q.1) (fun q => q.1 ≤ c.toNat ∧ q.2.length ≤ q.1 ∧ q.2 ++ divR lo hi c q.1 = divL lo hi c)
    (fun q => [(1, .imm (.int .i64 c)), (2, .ref 2 0), (5, .own 5), (6, .imm (.int .i64 (hi - lo + 1))), (7, .imm (.int .i64 q.1))])
    (fun q => [(2, .box [.imm (.int .i64 lo), .imm (.int .i64 hi)]), (5, .tok 2 (q.2.map fun x => stI x.1 x.2))]) (0, []) ⟨Nat.zero_le _, by simp, rfl⟩ (by simp only [ruI, ssI, sbI, spI, swI, scI, stI, srI, saI, snI, ↓reduceIte, reduceCtorEq, Nat.reduceEqDiff, Nat.reduceAdd, Nat.reduceMul, Nat.reduceSub, Nat.reduceLeDiff, Nat.reduceBEq, Int.reduceToNat, Int.reduceLE, Int.reduceLT, Int.reduceEq, Int.reduceNe, di0, di1, di2, di3, di4, di5, di6, di7, di8, di9, postX_ret, postX_normal, ex_some] <;> rfl) ?_
  rintro ⟨i, L⟩ ⟨hi8, hL, he⟩ ih
  dsimp only at hi8 hL he ⊢
  simp only [res138, b138k0, b138k1, b138k2, ruI, ssI, sbI, spI, swI, scI, stI, srI, saI, snI, ↓reduceIte, reduceCtorEq, Nat.reduceEqDiff, Nat.reduceAdd, Nat.reduceMul, Nat.reduceSub, Nat.reduceLeDiff, Nat.reduceBEq, Int.reduceToNat, Int.reduceLE, Int.reduceLT, Int.reduceEq, Int.reduceNe, di0, di1, di2, di3, di4, di5, di6, di7, di8, di9, postX_ret, postX_normal, ex_some]
  split
  case isFalse h =>
    rw [divR_end (by omega), List.append_nil] at he
    rw [he]
  rename_i h
  have b1 := div_bd hd (i := i) (by omega)
  have b2 := div_bd hd (i := i + 1) (by omega)
  push_cast at b2
  rw [show IntKind.wrap .i64 ((i : Int) * (hi - lo + 1)) = (i : Int) * (hi - lo + 1) from wrap64 (by omega) (by omega)]
  refine calls_of (c_Floor (n := (i : Int) * (hi - lo + 1)) (d := c) (by omega) (by omega)) ?_; simp only [ruI, ssI, sbI, spI, swI, scI, stI, srI, saI, snI, res138, b138k0, b138k1, b138k2, ↓reduceIte, reduceCtorEq, Nat.reduceEqDiff, Nat.reduceAdd, Nat.reduceMul, Nat.reduceSub, Nat.reduceLeDiff, Nat.reduceBEq, Int.reduceToNat, Int.reduceLE, Int.reduceLT, Int.reduceEq, Int.reduceNe, di0, di1, di2, di3, di4, di5, di6, di7, di8, di9, postX_ret, postX_normal, ex_some]
  simp only [show IntKind.wrap .i64 ((i : Int) + 1) = (i : Int) + 1 from wrap64 (by omega) (by omega)]
  rw [show IntKind.wrap .i64 (((i : Int) + 1) * (hi - lo + 1)) = ((i : Int) + 1) * (hi - lo + 1) from wrap64 (by omega) (by omega)]
  refine calls_of (c_Floor (n := ((i : Int) + 1) * (hi - lo + 1)) (d := c) (by omega) (by omega)) ?_; simp only [ruI, ssI, sbI, spI, swI, scI, stI, srI, saI, snI, res138, b138k0, b138k1, b138k2, ↓reduceIte, reduceCtorEq, Nat.reduceEqDiff, Nat.reduceAdd, Nat.reduceMul, Nat.reduceSub, Nat.reduceLeDiff, Nat.reduceBEq, Int.reduceToNat, Int.reduceLE, Int.reduceLT, Int.reduceEq, Int.reduceNe, di0, di1, di2, di3, di4, di5, di6, di7, di8, di9, postX_ret, postX_normal, ex_some]
  rw [divR_step (by omega)] at he
  unfold oneD divP at he
  dsimp only at he
  generalize ((i : Int) * (hi - lo + 1)) / c = q1 at b1 he ⊢
  generalize (((i : Int) + 1) * (hi - lo + 1)) / c = q2 at b2 he ⊢
  simp only [show IntKind.wrap .i64 (lo + q1) = lo + q1 from wrap64 (by omega) (by omega)]
  simp only [show IntKind.wrap .i64 (lo + q2) = lo + q2 from wrap64 (by omega) (by omega)]
  simp only [show IntKind.wrap .i64 (lo + q2 - 1) = lo + q2 - 1 from wrap64 (by omega) (by omega)]
  by_cases hq : lo + q1 ≤ lo + q2 - 1
  · rw [if_pos hq] at he
    simp only [hq, ruI, ssI, sbI, spI, swI, scI, stI, srI, saI, snI, ↓reduceIte, reduceCtorEq, Nat.reduceEqDiff, Nat.reduceAdd, Nat.reduceMul, Nat.reduceSub, Nat.reduceLeDiff, Nat.reduceBEq, Int.reduceToNat, Int.reduceLE, Int.reduceLT, Int.reduceEq, Int.reduceNe, di0, di1, di2, di3, di4, di5, di6, di7, di8, di9, postX_ret, postX_normal, ex_some]
    repeat (refine And.intro (by omega) ?_)
    simp only [show IntKind.wrap .i64 ((i : Int) + 1) = (i : Int) + 1 from wrap64 (by omega) (by omega)]
    refine ih (i + 1, L ++ [(lo + q1, lo + q2 - 1)]) _ _ (by dsimp only; omega) ⟨by dsimp only; omega, by simp; omega, by rw [List.append_assoc]; exact he⟩ (by simp only [List.map_append, List.map_cons, List.map_nil, ruI, ssI, sbI, spI, swI, scI, stI, srI, saI, snI, ↓reduceIte, reduceCtorEq, Nat.reduceEqDiff, Nat.reduceAdd, Nat.reduceMul, Nat.reduceSub, Nat.reduceLeDiff, Nat.reduceBEq, Int.reduceToNat, Int.reduceLE, Int.reduceLT, Int.reduceEq, Int.reduceNe, di0, di1, di2, di3, di4, di5, di6, di7, di8, di9, postX_ret, postX_normal, ex_some] <;> rfl)
  · rw [if_neg hq] at he
    simp only [hq, ruI, ssI, sbI, spI, swI, scI, stI, srI, saI, snI, ↓reduceIte, reduceCtorEq, Nat.reduceEqDiff, Nat.reduceAdd, Nat.reduceMul, Nat.reduceSub, Nat.reduceLeDiff, Nat.reduceBEq, Int.reduceToNat, Int.reduceLE, Int.reduceLT, Int.reduceEq, Int.reduceNe, di0, di1, di2, di3, di4, di5, di6, di7, di8, di9, postX_ret, postX_normal, ex_some]
    simp only [show IntKind.wrap .i64 ((i : Int) + 1) = (i : Int) + 1 from wrap64 (by omega) (by omega)]
    refine ih (i + 1, L) _ _ (by dsimp only; omega) ⟨by dsimp only; omega, by dsimp only; omega, he⟩ (by simp only [ruI, ssI, sbI, spI, swI, scI, stI, srI, saI, snI, ↓reduceIte, reduceCtorEq, Nat.reduceEqDiff, Nat.reduceAdd, Nat.reduceMul, Nat.reduceSub, Nat.reduceLeDiff, Nat.reduceBEq, Int.reduceToNat, Int.reduceLE, Int.reduceLT, Int.reduceEq, Int.reduceNe, di0, di1, di2, di3, di4, di5, di6, di7, di8, di9, postX_ret, postX_normal, ex_some] <;> rfl)

theorem r_Cover {v : Cv} (hv : coverE v = 0) : Contract Try.prog 82 [scI v] (.slc 4 ((coverL v).map sbI)) := by
  obtain ⟨hb, hp, -⟩ := coverE_zero.1 hv
  rw [boxErr_zero] at hb
  have d1 : DivOk v.b.ll v.b.lh v.parts := ⟨by omega, by omega, by omega, hp⟩
  have d2 : DivOk v.b.fl v.b.fh v.parts := ⟨by omega, by omega, by omega, hp⟩
  have n1 : (divL v.b.ll v.b.lh v.parts).length ≤ 8 := by
    have := divR_length (lo := v.b.ll) (hi := v.b.lh) (c := v.parts) (i := 0)
    unfold divL
    omega
  have n2 : (divL v.b.fl v.b.fh v.parts).length ≤ 8 := by
    have := divR_length (lo := v.b.fl) (hi := v.b.fh) (c := v.parts) (i := 0)
    unfold divL
    omega
  have i1 := r_parts d1
  have i2 := r_parts d2
  have hcov : coverL v = (divL v.b.ll v.b.lh v.parts).flatMap fun x => (divL v.b.fl v.b.fh v.parts).map fun y => bxOf x y := rfl
  rw [hcov]
  generalize divL v.b.ll v.b.lh v.parts = X at i1 n1 ⊢
  generalize divL v.b.fl v.b.fh v.parts = Y at i2 n2 ⊢
  refine contract_run Try.func82 k82 rfl ?_
  simp only [body82, b82, res82, b82k0, b82k1, b82k2, b82k3, ruI, ssI, sbI, spI, swI, scI, stI, srI, saI, snI, ↓reduceIte, reduceCtorEq, Nat.reduceEqDiff, Nat.reduceAdd, Nat.reduceMul, Nat.reduceSub, Nat.reduceLeDiff, Nat.reduceBEq, Int.reduceToNat, Int.reduceLE, Int.reduceLT, Int.reduceEq, Int.reduceNe, di0, di1, di2, di3, di4, di5, di6, di7, di8, di9, postX_ret, postX_normal, ex_some]
  refine calls_of i1 ?_; simp only [ruI, ssI, sbI, spI, swI, scI, stI, srI, saI, snI, res82, b82k0, b82k1, b82k2, b82k3, ↓reduceIte, reduceCtorEq, Nat.reduceEqDiff, Nat.reduceAdd, Nat.reduceMul, Nat.reduceSub, Nat.reduceLeDiff, Nat.reduceBEq, Int.reduceToNat, Int.reduceLE, Int.reduceLT, Int.reduceEq, Int.reduceNe, di0, di1, di2, di3, di4, di5, di6, di7, di8, di9, postX_ret, postX_normal, ex_some]
  refine calls_of i2 ?_; simp only [ruI, ssI, sbI, spI, swI, scI, stI, srI, saI, snI, res82, b82k0, b82k1, b82k2, b82k3, ↓reduceIte, reduceCtorEq, Nat.reduceEqDiff, Nat.reduceAdd, Nat.reduceMul, Nat.reduceSub, Nat.reduceLeDiff, Nat.reduceBEq, Int.reduceToNat, Int.reduceLE, Int.reduceLT, Int.reduceEq, Int.reduceNe, di0, di1, di2, di3, di4, di5, di6, di7, di8, di9, postX_ret, postX_normal, ex_some]
  refine loop_keep (α := Nat × List Bx) rfl (fun q => X.length - q.1) (fun q => q.1 ≤ X.length ∧ q.2.length ≤ 8 * q.1 ∧ q.2 ++ ((X.drop q.1).flatMap fun x => Y.map fun y => bxOf x y) = X.flatMap fun x => Y.map fun y => bxOf x y)
    (fun q => [(3, .imm (.slc 2 (X.map fun x => stI x.1 x.2))), (4, .imm (.slc 2 (Y.map fun x => stI x.1 x.2))), (5, .own 5), (6, .imm (.int .i64 q.1))])
    (fun q => [(5, .tok 4 (q.2.map sbI))]) (0, []) ⟨Nat.zero_le _, by simp, by simp⟩ (by simp only [ruI, ssI, sbI, spI, swI, scI, stI, srI, saI, snI, ↓reduceIte, reduceCtorEq, Nat.reduceEqDiff, Nat.reduceAdd, Nat.reduceMul, Nat.reduceSub, Nat.reduceLeDiff, Nat.reduceBEq, Int.reduceToNat, Int.reduceLE, Int.reduceLT, Int.reduceEq, Int.reduceNe, di0, di1, di2, di3, di4, di5, di6, di7, di8, di9, postX_ret, postX_normal, ex_some] <;> rfl) ?_
  rintro ⟨i, L⟩ ⟨hi, hL, he⟩ ih
  dsimp only at hi hL he ⊢
  simp only [res82, b82k0, b82k1, b82k2, b82k3, ruI, ssI, sbI, spI, swI, scI, stI, srI, saI, snI, ↓reduceIte, reduceCtorEq, Nat.reduceEqDiff, Nat.reduceAdd, Nat.reduceMul, Nat.reduceSub, Nat.reduceLeDiff, Nat.reduceBEq, Int.reduceToNat, Int.reduceLE, Int.reduceLT, Int.reduceEq, Int.reduceNe, di0, di1, di2, di3, di4, di5, di6, di7, di8, di9, postX_ret, postX_normal, ex_some]
  split
  case isFalse h =>
    rw [List.drop_of_length_le (by omega), List.flatMap_nil, List.append_nil] at he
    rw [he]
  rename_i h
  have hlt : i < X.length := by omega
  have hd : X.drop i = X.getD i default :: X.drop (i + 1) := by
    rw [List.drop_eq_getElem_cons hlt, List.getD_eq_getElem?_getD]
    simp [hlt]
  rw [hd, List.flatMap_cons] at he
  refine loop_keep (α := Nat × List Bx) rfl (fun q => Y.length - q.1) (fun q => q.1 ≤ Y.length ∧ q.2.length ≤ 8 * i + q.1 ∧ q.2 ++ ((Y.drop q.1).map fun y => bxOf (X.getD i default) y) = L ++ Y.map fun y => bxOf (X.getD i default) y)
    (fun q => [(3, .imm (.slc 2 (X.map fun x => stI x.1 x.2))), (4, .imm (.slc 2 (Y.map fun x => stI x.1 x.2))), (5, .own 5), (6, .imm (.int .i64 i)), (7, .imm (.int .i64 q.1))])
    (fun q => [(5, .tok 4 (q.2.map sbI))]) (0, L) ⟨Nat.zero_le _, by dsimp only; omega, by simp⟩ (by simp only [ruI, ssI, sbI, spI, swI, scI, stI, srI, saI, snI, ↓reduceIte, reduceCtorEq, Nat.reduceEqDiff, Nat.reduceAdd, Nat.reduceMul, Nat.reduceSub, Nat.reduceLeDiff, Nat.reduceBEq, Int.reduceToNat, Int.reduceLE, Int.reduceLT, Int.reduceEq, Int.reduceNe, di0, di1, di2, di3, di4, di5, di6, di7, di8, di9, postX_ret, postX_normal, ex_some] <;> rfl) ?_
  rintro ⟨j, L2⟩ ⟨hj, hL2, he2⟩ ih2
  dsimp only at hj hL2 he2 ⊢
  simp only [res82, b82k0, b82k1, b82k2, b82k3, ruI, ssI, sbI, spI, swI, scI, stI, srI, saI, snI, ↓reduceIte, reduceCtorEq, Nat.reduceEqDiff, Nat.reduceAdd, Nat.reduceMul, Nat.reduceSub, Nat.reduceLeDiff, Nat.reduceBEq, Int.reduceToNat, Int.reduceLE, Int.reduceLT, Int.reduceEq, Int.reduceNe, di0, di1, di2, di3, di4, di5, di6, di7, di8, di9, postX_ret, postX_normal, ex_some]
  split
  case isFalse h2 =>
    rw [List.drop_of_length_le (by omega), List.map_nil, List.append_nil] at he2
    simp only [show IntKind.wrap .i64 ((i : Int) + 1) = (i : Int) + 1 from wrap64 (by omega) (by omega)]
    refine ih (i + 1, L2) _ _ (by dsimp only; omega) ⟨by dsimp only; omega, by dsimp only; omega, by dsimp only; rw [he2, List.append_assoc]; exact he⟩ (by simp only [ruI, ssI, sbI, spI, swI, scI, stI, srI, saI, snI, ↓reduceIte, reduceCtorEq, Nat.reduceEqDiff, Nat.reduceAdd, Nat.reduceMul, Nat.reduceSub, Nat.reduceLeDiff, Nat.reduceBEq, Int.reduceToNat, Int.reduceLE, Int.reduceLT, Int.reduceEq, Int.reduceNe, di0, di1, di2, di3, di4, di5, di6, di7, di8, di9, postX_ret, postX_normal, ex_some] <;> rfl)
  rename_i h2
  have hlt2 : j < Y.length := by omega
  have hd2 : Y.drop j = Y.getD j default :: Y.drop (j + 1) := by
    rw [List.drop_eq_getElem_cons hlt2, List.getD_eq_getElem?_getD]
    simp [hlt2]
  rw [hd2, List.map_cons] at he2
  repeat (refine And.intro (by omega) ?_)
  simp only [show IntKind.wrap .i64 ((j : Int) + 1) = (j : Int) + 1 from wrap64 (by omega) (by omega)]
  refine ih2 (j + 1, L2 ++ [bxOf (X.getD i default) (Y.getD j default)]) _ _ (by dsimp only; omega) ⟨by dsimp only; omega, by simp; omega, by dsimp only; rw [List.append_assoc]; exact he2⟩ (by simp only [List.map_append, List.map_cons, List.map_nil, bxOf, ruI, ssI, sbI, spI, swI, scI, stI, srI, saI, snI, ↓reduceIte, reduceCtorEq, Nat.reduceEqDiff, Nat.reduceAdd, Nat.reduceMul, Nat.reduceSub, Nat.reduceLeDiff, Nat.reduceBEq, Int.reduceToNat, Int.reduceLE, Int.reduceLT, Int.reduceEq, Int.reduceNe, di0, di1, di2, di3, di4, di5, di6, di7, di8, di9, postX_ret, postX_normal, ex_some] <;> rfl)

theorem r_BoxesErr {bs : List Bx} (hn : bs.length ≤ 1000000000) : Contract Try.prog 59 [.slc 4 (bs.map sbI)] (.int .i64 (boxesE bs)) := by
  refine contract_run Try.func59 k59 rfl ?_
  simp only [body59, b59, res59, b59k0, b59k1, b59k2, b59k3, b59k4, ruI, ssI, sbI, spI, swI, scI, stI, srI, saI, snI, ↓reduceIte, reduceCtorEq, Nat.reduceEqDiff, Nat.reduceAdd, Nat.reduceMul, Nat.reduceSub, Nat.reduceLeDiff, Nat.reduceBEq, Int.reduceToNat, Int.reduceLE, Int.reduceLT, Int.reduceEq, Int.reduceNe, di0, di1, di2, di3, di4, di5, di6, di7, di8, di9, postX_ret, postX_normal, ex_some]
  unfold boxesE fstE
  by_cases h1 : bs.length = 0
  · rw [if_pos (by omega), if_neg (show ¬ 0 < bs.length by omega)]
    rfl
  rw [if_neg (by omega), if_pos (show 0 < bs.length by omega), if_pos rfl]
  by_cases h2 : bs.length ≤ 64
  case neg =>
    rw [if_pos (by omega), if_neg h2]
    rfl
  rw [if_neg (by omega), if_pos h2, if_pos rfl]
  refine loop_keep (α := Nat) rfl (fun i => bs.length - i) (fun i => i ≤ bs.length ∧ scanB bs = scanB (bs.drop i))
    (fun i => [(0, .imm (.slc 4 (bs.map sbI))), (3, .imm (.int .i64 i))]) (fun _ => []) 0 ⟨Nat.zero_le _, rfl⟩ (by simp only [ruI, ssI, sbI, spI, swI, scI, stI, srI, saI, snI, ↓reduceIte, reduceCtorEq, Nat.reduceEqDiff, Nat.reduceAdd, Nat.reduceMul, Nat.reduceSub, Nat.reduceLeDiff, Nat.reduceBEq, Int.reduceToNat, Int.reduceLE, Int.reduceLT, Int.reduceEq, Int.reduceNe, di0, di1, di2, di3, di4, di5, di6, di7, di8, di9, postX_ret, postX_normal, ex_some] <;> rfl) ?_
  intro i ⟨hi, hs⟩ ih
  simp only [res59, b59k0, b59k1, b59k2, b59k3, b59k4, ruI, ssI, sbI, spI, swI, scI, stI, srI, saI, snI, ↓reduceIte, reduceCtorEq, Nat.reduceEqDiff, Nat.reduceAdd, Nat.reduceMul, Nat.reduceSub, Nat.reduceLeDiff, Nat.reduceBEq, Int.reduceToNat, Int.reduceLE, Int.reduceLT, Int.reduceEq, Int.reduceNe, di0, di1, di2, di3, di4, di5, di6, di7, di8, di9, postX_ret, postX_normal, ex_some]
  split
  case isFalse h =>
    rw [List.drop_of_length_le (by omega)] at hs
    rw [hs]
    rfl
  rename_i h
  have hlt : i < bs.length := by omega
  have hd : bs.drop i = bs.getD i default :: bs.drop (i + 1) := by
    rw [List.drop_eq_getElem_cons hlt, List.getD_eq_getElem?_getD]
    simp [hlt]
  rw [hd] at hs
  generalize bs.getD i default = b at hs
  repeat (refine And.intro (by omega) ?_)
  refine calls_of (r_BoxErrS (b := b)) ?_
  simp only [res59, b59k0, b59k1, b59k2, b59k3, b59k4, ruI, ssI, sbI, spI, swI, scI, stI, srI, saI, snI, ↓reduceIte, reduceCtorEq, Nat.reduceEqDiff, Nat.reduceAdd, Nat.reduceMul, Nat.reduceSub, Nat.reduceLeDiff, Nat.reduceBEq, Int.reduceToNat, Int.reduceLE, Int.reduceLT, Int.reduceEq, Int.reduceNe, di0, di1, di2, di3, di4, di5, di6, di7, di8, di9, postX_ret, postX_normal, ex_some]
  rw [show scanB (b :: bs.drop (i + 1)) = if boxErr b = 0 then scanB (bs.drop (i + 1)) else boxErr b from rfl] at hs
  by_cases h3 : boxErr b = 0
  · rw [if_pos h3] at hs
    simp only [h3, ruI, ssI, sbI, spI, swI, scI, stI, srI, saI, snI, ↓reduceIte, reduceCtorEq, Nat.reduceEqDiff, Nat.reduceAdd, Nat.reduceMul, Nat.reduceSub, Nat.reduceLeDiff, Nat.reduceBEq, Int.reduceToNat, Int.reduceLE, Int.reduceLT, Int.reduceEq, Int.reduceNe, di0, di1, di2, di3, di4, di5, di6, di7, di8, di9, postX_ret, postX_normal, ex_some]
    rw [wrap64 (by omega) (by omega)]
    exact ih (i + 1) _ _ (by omega) ⟨by omega, hs⟩ (by simp only [ruI, ssI, sbI, spI, swI, scI, stI, srI, saI, snI, ↓reduceIte, reduceCtorEq, Nat.reduceEqDiff, Nat.reduceAdd, Nat.reduceMul, Nat.reduceSub, Nat.reduceLeDiff, Nat.reduceBEq, Int.reduceToNat, Int.reduceLE, Int.reduceLT, Int.reduceEq, Int.reduceNe, di0, di1, di2, di3, di4, di5, di6, di7, di8, di9, postX_ret, postX_normal, ex_some] <;> rfl)
  · rw [if_neg h3] at hs
    simp only [h3, ruI, ssI, sbI, spI, swI, scI, stI, srI, saI, snI, ↓reduceIte, reduceCtorEq, Nat.reduceEqDiff, Nat.reduceAdd, Nat.reduceMul, Nat.reduceSub, Nat.reduceLeDiff, Nat.reduceBEq, Int.reduceToNat, Int.reduceLE, Int.reduceLT, Int.reduceEq, Int.reduceNe, di0, di1, di2, di3, di4, di5, di6, di7, di8, di9, postX_ret, postX_normal, ex_some]
    rw [hs]

theorem r_CopyBoxes {l : List Bx} (hl : l.length ≤ 1000000000) : Contract Try.prog 61 [.slc 4 (l.map sbI)] (.slc 4 (l.map sbI)) := by
  refine contract_run Try.func61 k61 rfl ?_
  simp only [body61, b61, res61, ruI, ssI, sbI, spI, swI, scI, stI, srI, saI, snI, ↓reduceIte, reduceCtorEq, Nat.reduceEqDiff, Nat.reduceAdd, Nat.reduceMul, Nat.reduceSub, Nat.reduceLeDiff, Nat.reduceBEq, Int.reduceToNat, Int.reduceLE, Int.reduceLT, Int.reduceEq, Int.reduceNe, di0, di1, di2, di3, di4, di5, di6, di7, di8, di9, postX_ret, postX_normal, ex_some]
  omega

theorem r_Count {b : Bx} (h : boxErr b = 0) : Contract Try.prog 80 [sbI b] (.int .i64 (countB b)) := by
  have hc := count_bd h
  have hb := boxErr_zero.1 h
  refine contract_run Try.func80 k80 rfl ?_
  simp only [body80, b80, res80, ruI, ssI, sbI, spI, swI, scI, stI, srI, saI, snI, ↓reduceIte, reduceCtorEq, Nat.reduceEqDiff, Nat.reduceAdd, Nat.reduceMul, Nat.reduceSub, Nat.reduceLeDiff, Nat.reduceBEq, Int.reduceToNat, Int.reduceLE, Int.reduceLT, Int.reduceEq, Int.reduceNe, di0, di1, di2, di3, di4, di5, di6, di7, di8, di9, postX_ret, postX_normal, ex_some]
  simp only [show IntKind.wrap .i64 (b.lh - b.ll) = b.lh - b.ll from wrap64 (by omega) (by omega)]
  simp only [show IntKind.wrap .i64 (b.lh - b.ll + 1) = b.lh - b.ll + 1 from wrap64 (by omega) (by omega)]
  simp only [show IntKind.wrap .i64 (b.fh - b.fl) = b.fh - b.fl from wrap64 (by omega) (by omega)]
  simp only [show IntKind.wrap .i64 (b.fh - b.fl + 1) = b.fh - b.fl + 1 from wrap64 (by omega) (by omega)]
  rw [show (b.lh - b.ll + 1) * (b.fh - b.fl + 1) = countB b from rfl]
  simp only [show IntKind.wrap .i64 (countB b) = countB b from wrap64 (by omega) (by omega)]

theorem inB_eq {b : Bx} {s : Sta} : inB b s = decide (InB b s) := by
  unfold inB
  rw [decide_eq_decide]
  unfold InB Wi
  omega

theorem r_Uncovered {b : Bx} {bs : List Bx} (hb0 : boxErr b = 0) (hn : bs.length ≤ 1000000000) : Contract Try.prog 83 [sbI b, .slc 4 (bs.map sbI)] (.tup [ssI (uncS (uncP b bs)), .bool (uncP b bs).isSome]) := by
  have hb := boxErr_zero.1 hb0
  refine contract_run Try.func83 k83 rfl ?_
  simp only [body83, b83, res83, b83k0, b83k1, b83k2, b83k3, b83k4, b83k5, b83k6, ruI, ssI, sbI, spI, swI, scI, stI, srI, saI, snI, ↓reduceIte, reduceCtorEq, Nat.reduceEqDiff, Nat.reduceAdd, Nat.reduceMul, Nat.reduceSub, Nat.reduceLeDiff, Nat.reduceBEq, Int.reduceToNat, Int.reduceLE, Int.reduceLT, Int.reduceEq, Int.reduceNe, di0, di1, di2, di3, di4, di5, di6, di7, di8, di9, postX_ret, postX_normal, ex_some]
  refine loop_keep (α := Int) rfl (fun L => (b.lh + 1 - L).toNat) (fun L => (b.ll ≤ L ∧ L ≤ b.lh + 1) ∧ uncP b bs = (levelsF b.fl (b.fh - b.fl + 1).toNat L (b.lh + 1 - L).toNat).find? fun s => !covd bs s)
    (fun L => [(1, .imm (.slc 4 (bs.map sbI))), (2, .ref 2 0), (4, .ref 4 0), (6, .imm (.int .i64 L))])
    (fun _ => [(2, .box [.imm (.int .i64 b.ll), .imm (.int .i64 b.lh), .imm (.int .i64 b.fl), .imm (.int .i64 b.fh)]), (4, .box [.imm (.int .i64 0), .imm (.int .i64 0)])]) b.ll ⟨⟨by omega, by omega⟩, by unfold uncP statesB; congr 2; omega⟩ (by simp only [ruI, ssI, sbI, spI, swI, scI, stI, srI, saI, snI, ↓reduceIte, reduceCtorEq, Nat.reduceEqDiff, Nat.reduceAdd, Nat.reduceMul, Nat.reduceSub, Nat.reduceLeDiff, Nat.reduceBEq, Int.reduceToNat, Int.reduceLE, Int.reduceLT, Int.reduceEq, Int.reduceNe, di0, di1, di2, di3, di4, di5, di6, di7, di8, di9, postX_ret, postX_normal, ex_some] <;> rfl) ?_
  rintro L ⟨hL, he⟩ ih
  simp only [res83, b83k0, b83k1, b83k2, b83k3, b83k4, b83k5, b83k6, ruI, ssI, sbI, spI, swI, scI, stI, srI, saI, snI, ↓reduceIte, reduceCtorEq, Nat.reduceEqDiff, Nat.reduceAdd, Nat.reduceMul, Nat.reduceSub, Nat.reduceLeDiff, Nat.reduceBEq, Int.reduceToNat, Int.reduceLE, Int.reduceLT, Int.reduceEq, Int.reduceNe, di0, di1, di2, di3, di4, di5, di6, di7, di8, di9, postX_ret, postX_normal, ex_some]
  split
  case isFalse h5 =>
    rw [show (b.lh + 1 - L).toNat = 0 by omega] at he
    simp only [levelsF, List.find?_nil] at he
    rw [he]
    rfl
  rename_i h5
  rw [show (b.lh + 1 - L).toNat = (b.lh + 1 - (L + 1)).toNat + 1 by omega] at he
  simp only [levelsF] at he
  refine loop_keep (α := Int) rfl (fun F => (b.fh + 1 - F).toNat) (fun F => (b.fl ≤ F ∧ F ≤ b.fh + 1) ∧ uncP b bs = (flowsF L F (b.fh + 1 - F).toNat ++ levelsF b.fl (b.fh - b.fl + 1).toNat (L + 1) (b.lh + 1 - (L + 1)).toNat).find? fun s => !covd bs s)
    (fun F => [(1, .imm (.slc 4 (bs.map sbI))), (2, .ref 2 0), (4, .ref 4 0), (6, .imm (.int .i64 L)), (7, .imm (.int .i64 F))])
    (fun _ => [(2, .box [.imm (.int .i64 b.ll), .imm (.int .i64 b.lh), .imm (.int .i64 b.fl), .imm (.int .i64 b.fh)]), (4, .box [.imm (.int .i64 0), .imm (.int .i64 0)])]) b.fl ⟨⟨by omega, by omega⟩, by rw [he]; congr 3; omega⟩ (by simp only [ruI, ssI, sbI, spI, swI, scI, stI, srI, saI, snI, ↓reduceIte, reduceCtorEq, Nat.reduceEqDiff, Nat.reduceAdd, Nat.reduceMul, Nat.reduceSub, Nat.reduceLeDiff, Nat.reduceBEq, Int.reduceToNat, Int.reduceLE, Int.reduceLT, Int.reduceEq, Int.reduceNe, di0, di1, di2, di3, di4, di5, di6, di7, di8, di9, postX_ret, postX_normal, ex_some] <;> rfl) ?_
  rintro F ⟨hF, he2⟩ ih2
  simp only [res83, b83k0, b83k1, b83k2, b83k3, b83k4, b83k5, b83k6, ruI, ssI, sbI, spI, swI, scI, stI, srI, saI, snI, ↓reduceIte, reduceCtorEq, Nat.reduceEqDiff, Nat.reduceAdd, Nat.reduceMul, Nat.reduceSub, Nat.reduceLeDiff, Nat.reduceBEq, Int.reduceToNat, Int.reduceLE, Int.reduceLT, Int.reduceEq, Int.reduceNe, di0, di1, di2, di3, di4, di5, di6, di7, di8, di9, postX_ret, postX_normal, ex_some]
  split
  case isFalse h6 =>
    rw [show (b.fh + 1 - F).toNat = 0 by omega] at he2
    simp only [flowsF, List.nil_append] at he2
    rw [wrap64 (by omega) (by omega)]
    exact ih (L + 1) _ _ (by omega) ⟨⟨by omega, by omega⟩, he2⟩ (by simp only [ruI, ssI, sbI, spI, swI, scI, stI, srI, saI, snI, ↓reduceIte, reduceCtorEq, Nat.reduceEqDiff, Nat.reduceAdd, Nat.reduceMul, Nat.reduceSub, Nat.reduceLeDiff, Nat.reduceBEq, Int.reduceToNat, Int.reduceLE, Int.reduceLT, Int.reduceEq, Int.reduceNe, di0, di1, di2, di3, di4, di5, di6, di7, di8, di9, postX_ret, postX_normal, ex_some] <;> rfl)
  rename_i h6
  rw [show (b.fh + 1 - F).toNat = (b.fh + 1 - (F + 1)).toNat + 1 by omega] at he2
  simp only [flowsF, List.cons_append, List.find?_cons] at he2
  refine loop_keep (α := Nat × Bool) rfl (fun q => bs.length - q.1) (fun q => q.1 ≤ bs.length ∧ (q.2 || covd (bs.drop q.1) ⟨L, F⟩) = covd bs ⟨L, F⟩)
    (fun q => [(1, .imm (.slc 4 (bs.map sbI))), (2, .ref 2 0), (4, .ref 4 0), (6, .imm (.int .i64 L)), (7, .imm (.int .i64 F)), (8, .ref 8 0), (9, .imm (.bool q.2)), (10, .imm (.int .i64 q.1))])
    (fun _ => [(2, .box [.imm (.int .i64 b.ll), .imm (.int .i64 b.lh), .imm (.int .i64 b.fl), .imm (.int .i64 b.fh)]), (4, .box [.imm (.int .i64 0), .imm (.int .i64 0)]), (8, .box [.imm (.int .i64 L), .imm (.int .i64 F)])]) (0, false) ⟨Nat.zero_le _, by simp⟩ (by simp only [ruI, ssI, sbI, spI, swI, scI, stI, srI, saI, snI, ↓reduceIte, reduceCtorEq, Nat.reduceEqDiff, Nat.reduceAdd, Nat.reduceMul, Nat.reduceSub, Nat.reduceLeDiff, Nat.reduceBEq, Int.reduceToNat, Int.reduceLE, Int.reduceLT, Int.reduceEq, Int.reduceNe, di0, di1, di2, di3, di4, di5, di6, di7, di8, di9, postX_ret, postX_normal, ex_some] <;> rfl) ?_
  rintro ⟨i, t⟩ ⟨hi, he3⟩ ih3
  dsimp only at hi he3 ⊢
  simp only [res83, b83k0, b83k1, b83k2, b83k3, b83k4, b83k5, b83k6, ruI, ssI, sbI, spI, swI, scI, stI, srI, saI, snI, ↓reduceIte, reduceCtorEq, Nat.reduceEqDiff, Nat.reduceAdd, Nat.reduceMul, Nat.reduceSub, Nat.reduceLeDiff, Nat.reduceBEq, Int.reduceToNat, Int.reduceLE, Int.reduceLT, Int.reduceEq, Int.reduceNe, di0, di1, di2, di3, di4, di5, di6, di7, di8, di9, postX_ret, postX_normal, ex_some]
  split
  · rename_i h7
    have hlt : i < bs.length := by omega
    have hd : bs.drop i = bs.getD i default :: bs.drop (i + 1) := by
      rw [List.drop_eq_getElem_cons hlt, List.getD_eq_getElem?_getD]
      simp [hlt]
    rw [hd] at he3
    have he4 : (t || inB (bs.getD i default) ⟨L, F⟩ || covd (bs.drop (i + 1)) ⟨L, F⟩) = covd bs ⟨L, F⟩ := by
      rw [← he3, Bool.or_assoc]
      rfl
    have ri := r_In (b := bs.getD i default) (s := ⟨L, F⟩)
    rw [← inB_eq] at ri
    generalize bs.getD i default = x at he4 ri ⊢
    cases t
    · simp only [ruI, ssI, sbI, spI, swI, scI, stI, srI, saI, snI, ↓reduceIte, reduceCtorEq, Nat.reduceEqDiff, Nat.reduceAdd, Nat.reduceMul, Nat.reduceSub, Nat.reduceLeDiff, Nat.reduceBEq, Int.reduceToNat, Int.reduceLE, Int.reduceLT, Int.reduceEq, Int.reduceNe, di0, di1, di2, di3, di4, di5, di6, di7, di8, di9, postX_ret, postX_normal, ex_some]
      repeat (refine And.intro (by omega) ?_)
      refine calls_of ri ?_; simp only [ruI, ssI, sbI, spI, swI, scI, stI, srI, saI, snI, res83, b83k0, b83k1, b83k2, b83k3, b83k4, b83k5, b83k6, ↓reduceIte, reduceCtorEq, Nat.reduceEqDiff, Nat.reduceAdd, Nat.reduceMul, Nat.reduceSub, Nat.reduceLeDiff, Nat.reduceBEq, Int.reduceToNat, Int.reduceLE, Int.reduceLT, Int.reduceEq, Int.reduceNe, di0, di1, di2, di3, di4, di5, di6, di7, di8, di9, postX_ret, postX_normal, ex_some]
      simp only [show IntKind.wrap .i64 ((i : Int) + 1) = (i : Int) + 1 from wrap64 (by omega) (by omega)]
      exact ih3 (i + 1, inB x ⟨L, F⟩) _ _ (by dsimp only; omega) ⟨by dsimp only; omega, by rw [← he4]; rfl⟩ (by simp only [ruI, ssI, sbI, spI, swI, scI, stI, srI, saI, snI, ↓reduceIte, reduceCtorEq, Nat.reduceEqDiff, Nat.reduceAdd, Nat.reduceMul, Nat.reduceSub, Nat.reduceLeDiff, Nat.reduceBEq, Int.reduceToNat, Int.reduceLE, Int.reduceLT, Int.reduceEq, Int.reduceNe, di0, di1, di2, di3, di4, di5, di6, di7, di8, di9, postX_ret, postX_normal, ex_some] <;> rfl)
    · simp only [ruI, ssI, sbI, spI, swI, scI, stI, srI, saI, snI, ↓reduceIte, reduceCtorEq, Nat.reduceEqDiff, Nat.reduceAdd, Nat.reduceMul, Nat.reduceSub, Nat.reduceLeDiff, Nat.reduceBEq, Int.reduceToNat, Int.reduceLE, Int.reduceLT, Int.reduceEq, Int.reduceNe, di0, di1, di2, di3, di4, di5, di6, di7, di8, di9, postX_ret, postX_normal, ex_some]
      simp only [show IntKind.wrap .i64 ((i : Int) + 1) = (i : Int) + 1 from wrap64 (by omega) (by omega)]
      exact ih3 (i + 1, true) _ _ (by dsimp only; omega) ⟨by dsimp only; omega, by rw [← he4]; rfl⟩ (by simp only [ruI, ssI, sbI, spI, swI, scI, stI, srI, saI, snI, ↓reduceIte, reduceCtorEq, Nat.reduceEqDiff, Nat.reduceAdd, Nat.reduceMul, Nat.reduceSub, Nat.reduceLeDiff, Nat.reduceBEq, Int.reduceToNat, Int.reduceLE, Int.reduceLT, Int.reduceEq, Int.reduceNe, di0, di1, di2, di3, di4, di5, di6, di7, di8, di9, postX_ret, postX_normal, ex_some] <;> rfl)
  · rename_i h7
    rw [List.drop_of_length_le (by omega)] at he3
    have he5 : t = covd bs ⟨L, F⟩ := by rw [← he3]; simp [covd]
    rw [← he5] at he2
    cases t
    · simp only [Bool.not_false] at he2
      rw [he2]
      simp only [uncS, Option.isSome, ruI, ssI, sbI, spI, swI, scI, stI, srI, saI, snI, ↓reduceIte, reduceCtorEq, Nat.reduceEqDiff, Nat.reduceAdd, Nat.reduceMul, Nat.reduceSub, Nat.reduceLeDiff, Nat.reduceBEq, Int.reduceToNat, Int.reduceLE, Int.reduceLT, Int.reduceEq, Int.reduceNe, di0, di1, di2, di3, di4, di5, di6, di7, di8, di9, postX_ret, postX_normal, ex_some]
    · simp only [Bool.not_true] at he2
      simp only [ruI, ssI, sbI, spI, swI, scI, stI, srI, saI, snI, ↓reduceIte, reduceCtorEq, Nat.reduceEqDiff, Nat.reduceAdd, Nat.reduceMul, Nat.reduceSub, Nat.reduceLeDiff, Nat.reduceBEq, Int.reduceToNat, Int.reduceLE, Int.reduceLT, Int.reduceEq, Int.reduceNe, di0, di1, di2, di3, di4, di5, di6, di7, di8, di9, postX_ret, postX_normal, ex_some]
      rw [wrap64 (by omega) (by omega)]
      exact ih2 (F + 1) _ _ (by omega) ⟨⟨by omega, by omega⟩, he2⟩ (by simp only [ruI, ssI, sbI, spI, swI, scI, stI, srI, saI, snI, ↓reduceIte, reduceCtorEq, Nat.reduceEqDiff, Nat.reduceAdd, Nat.reduceMul, Nat.reduceSub, Nat.reduceLeDiff, Nat.reduceBEq, Int.reduceToNat, Int.reduceLE, Int.reduceLT, Int.reduceEq, Int.reduceNe, di0, di1, di2, di3, di4, di5, di6, di7, di8, di9, postX_ret, postX_normal, ex_some] <;> rfl)

def scCells (v : Cv) : List DV := [.imm (.int .i64 v.b.ll), .imm (.int .i64 v.b.lh), .imm (.int .i64 v.b.fl), .imm (.int .i64 v.b.fh), .imm (.int .i64 v.parts), .imm (.int .i64 v.lo), .imm (.int .i64 v.hi)]
def covBE (b : Bx) (bs : List Bx) : Int := fstE (boxErr b) (fstE (boxesE bs) (if 4000 < countB b then 8 else 0))
theorem tail_SurgeCovers {v : Cv} {bs : List Bx} {S : Sta} {F : Int} (hn : bs.length ≤ 66) (h1 : covBE v.b bs = 0 → F = uncE (uncP v.b bs) ∧ S = uncS (uncP v.b bs)) (h0 : ¬ covBE v.b bs = 0 → F = covBE v.b bs ∧ S = ⟨0, 0⟩) :
    run Try.prog b13k4 [] (d13.post (.bool true)) (mkS [(2, .imm (.slc 4 (bs.map sbI))), (4, .ref 4 0), (9, .ref 9 0), (10, .imm (.int .i64 F))]
      [(4, .box (scCells v)), (9, .box [.imm (.int .i64 S.L), .imm (.int .i64 S.F)])]) := by
  have rb := r_BoxErrS (b := v.b)
  have rbs := r_BoxesErr (bs := bs) (by omega)
  simp only [b13k4, res13, b13k0, b13k1, b13k2, b13k3, scCells, ruI, ssI, sbI, spI, swI, scI, stI, srI, saI, snI, ↓reduceIte, reduceCtorEq, Nat.reduceEqDiff, Nat.reduceAdd, Nat.reduceMul, Nat.reduceSub, Nat.reduceLeDiff, Nat.reduceBEq, Int.reduceToNat, Int.reduceLE, Int.reduceLT, Int.reduceEq, Int.reduceNe, di0, di1, di2, di3, di4, di5, di6, di7, di8, di9, postX_ret, postX_normal, ex_some]
  refine calls_of rb ?_; simp only [ruI, ssI, sbI, spI, swI, scI, stI, srI, saI, snI, res13, b13k0, b13k1, b13k2, b13k3, b13k4, b13k5, b13k6, b13k7, ↓reduceIte, reduceCtorEq, Nat.reduceEqDiff, Nat.reduceAdd, Nat.reduceMul, Nat.reduceSub, Nat.reduceLeDiff, Nat.reduceBEq, Int.reduceToNat, Int.reduceLE, Int.reduceLT, Int.reduceEq, Int.reduceNe, di0, di1, di2, di3, di4, di5, di6, di7, di8, di9, postX_ret, postX_normal, ex_some]
  unfold covBE at h1 h0
  by_cases e1 : boxErr v.b = 0
  case neg =>
    rw [show fstE (boxErr v.b) _ = _ from if_neg e1] at h1 h0
    obtain ⟨rfl, rfl⟩ := h0 e1
    simp only [e1, ruI, ssI, sbI, spI, swI, scI, stI, srI, saI, snI, ↓reduceIte, reduceCtorEq, Nat.reduceEqDiff, Nat.reduceAdd, Nat.reduceMul, Nat.reduceSub, Nat.reduceLeDiff, Nat.reduceBEq, Int.reduceToNat, Int.reduceLE, Int.reduceLT, Int.reduceEq, Int.reduceNe, di0, di1, di2, di3, di4, di5, di6, di7, di8, di9, postX_ret, postX_normal, ex_some]
  rw [show fstE (boxErr v.b) _ = _ from if_pos e1] at h1 h0
  simp only [e1, ruI, ssI, sbI, spI, swI, scI, stI, srI, saI, snI, ↓reduceIte, reduceCtorEq, Nat.reduceEqDiff, Nat.reduceAdd, Nat.reduceMul, Nat.reduceSub, Nat.reduceLeDiff, Nat.reduceBEq, Int.reduceToNat, Int.reduceLE, Int.reduceLT, Int.reduceEq, Int.reduceNe, di0, di1, di2, di3, di4, di5, di6, di7, di8, di9, postX_ret, postX_normal, ex_some]
  refine calls_of rbs ?_; simp only [ruI, ssI, sbI, spI, swI, scI, stI, srI, saI, snI, res13, b13k0, b13k1, b13k2, b13k3, b13k4, b13k5, b13k6, b13k7, ↓reduceIte, reduceCtorEq, Nat.reduceEqDiff, Nat.reduceAdd, Nat.reduceMul, Nat.reduceSub, Nat.reduceLeDiff, Nat.reduceBEq, Int.reduceToNat, Int.reduceLE, Int.reduceLT, Int.reduceEq, Int.reduceNe, di0, di1, di2, di3, di4, di5, di6, di7, di8, di9, postX_ret, postX_normal, ex_some]
  by_cases e2 : boxesE bs = 0
  case neg =>
    rw [show fstE (boxesE bs) _ = _ from if_neg e2] at h1 h0
    obtain ⟨rfl, rfl⟩ := h0 e2
    simp only [e2, ruI, ssI, sbI, spI, swI, scI, stI, srI, saI, snI, ↓reduceIte, reduceCtorEq, Nat.reduceEqDiff, Nat.reduceAdd, Nat.reduceMul, Nat.reduceSub, Nat.reduceLeDiff, Nat.reduceBEq, Int.reduceToNat, Int.reduceLE, Int.reduceLT, Int.reduceEq, Int.reduceNe, di0, di1, di2, di3, di4, di5, di6, di7, di8, di9, postX_ret, postX_normal, ex_some]
  rw [show fstE (boxesE bs) _ = _ from if_pos e2] at h1 h0
  simp only [e2, ruI, ssI, sbI, spI, swI, scI, stI, srI, saI, snI, ↓reduceIte, reduceCtorEq, Nat.reduceEqDiff, Nat.reduceAdd, Nat.reduceMul, Nat.reduceSub, Nat.reduceLeDiff, Nat.reduceBEq, Int.reduceToNat, Int.reduceLE, Int.reduceLT, Int.reduceEq, Int.reduceNe, di0, di1, di2, di3, di4, di5, di6, di7, di8, di9, postX_ret, postX_normal, ex_some]
  refine calls_of (r_Count (b := v.b) e1) ?_; simp only [ruI, ssI, sbI, spI, swI, scI, stI, srI, saI, snI, res13, b13k0, b13k1, b13k2, b13k3, b13k4, b13k5, b13k6, b13k7, ↓reduceIte, reduceCtorEq, Nat.reduceEqDiff, Nat.reduceAdd, Nat.reduceMul, Nat.reduceSub, Nat.reduceLeDiff, Nat.reduceBEq, Int.reduceToNat, Int.reduceLE, Int.reduceLT, Int.reduceEq, Int.reduceNe, di0, di1, di2, di3, di4, di5, di6, di7, di8, di9, postX_ret, postX_normal, ex_some]
  by_cases e3 : 4000 < countB v.b
  · rw [if_pos e3] at h1 h0
    obtain ⟨rfl, rfl⟩ := h0 (by decide)
    simp only [e3, ruI, ssI, sbI, spI, swI, scI, stI, srI, saI, snI, ↓reduceIte, reduceCtorEq, Nat.reduceEqDiff, Nat.reduceAdd, Nat.reduceMul, Nat.reduceSub, Nat.reduceLeDiff, Nat.reduceBEq, Int.reduceToNat, Int.reduceLE, Int.reduceLT, Int.reduceEq, Int.reduceNe, di0, di1, di2, di3, di4, di5, di6, di7, di8, di9, postX_ret, postX_normal, ex_some]
  rw [if_neg e3] at h1 h0
  obtain ⟨rfl, rfl⟩ := h1 rfl
  simp only [e3, ruI, ssI, sbI, spI, swI, scI, stI, srI, saI, snI, ↓reduceIte, reduceCtorEq, Nat.reduceEqDiff, Nat.reduceAdd, Nat.reduceMul, Nat.reduceSub, Nat.reduceLeDiff, Nat.reduceBEq, Int.reduceToNat, Int.reduceLE, Int.reduceLT, Int.reduceEq, Int.reduceNe, di0, di1, di2, di3, di4, di5, di6, di7, di8, di9, postX_ret, postX_normal, ex_some]
  refine calls_of (r_Uncovered (b := v.b) (bs := bs) e1 (by omega)) ?_; simp only [ruI, ssI, sbI, spI, swI, scI, stI, srI, saI, snI, res13, b13k0, b13k1, b13k2, b13k3, b13k4, b13k5, b13k6, b13k7, ↓reduceIte, reduceCtorEq, Nat.reduceEqDiff, Nat.reduceAdd, Nat.reduceMul, Nat.reduceSub, Nat.reduceLeDiff, Nat.reduceBEq, Int.reduceToNat, Int.reduceLE, Int.reduceLT, Int.reduceEq, Int.reduceNe, di0, di1, di2, di3, di4, di5, di6, di7, di8, di9, postX_ret, postX_normal, ex_some]
  cases uncP v.b bs with
  | none => simp only [uncE, uncS, Option.isSome, ruI, ssI, sbI, spI, swI, scI, stI, srI, saI, snI, ↓reduceIte, reduceCtorEq, Nat.reduceEqDiff, Nat.reduceAdd, Nat.reduceMul, Nat.reduceSub, Nat.reduceLeDiff, Nat.reduceBEq, Int.reduceToNat, Int.reduceLE, Int.reduceLT, Int.reduceEq, Int.reduceNe, di0, di1, di2, di3, di4, di5, di6, di7, di8, di9, postX_ret, postX_normal, ex_some]
  | some s => simp only [uncE, uncS, Option.isSome, ruI, ssI, sbI, spI, swI, scI, stI, srI, saI, snI, ↓reduceIte, reduceCtorEq, Nat.reduceEqDiff, Nat.reduceAdd, Nat.reduceMul, Nat.reduceSub, Nat.reduceLeDiff, Nat.reduceBEq, Int.reduceToNat, Int.reduceLE, Int.reduceLT, Int.reduceEq, Int.reduceNe, di0, di1, di2, di3, di4, di5, di6, di7, di8, di9, postX_ret, postX_normal, ex_some]

theorem mid_SurgeCovers {v : Cv} {bs L : List Bx} {E F : Int} {S : Sta} (hn : bs.length ≤ 66) (h1 : covBE v.b bs = 0 → F = uncE (uncP v.b bs) ∧ S = uncS (uncP v.b bs)) (h0 : ¬ covBE v.b bs = 0 → F = covBE v.b bs ∧ S = ⟨0, 0⟩)
    (hE : E = coverE v) (hL : E = 0 → L = coverL v) (hL0 : ¬ E = 0 → L = []) :
    run Try.prog b13k5 [] (d13.post (.bool true)) (mkS [(2, .imm (.slc 4 (bs.map sbI))), (4, .ref 4 0), (7, .imm (.slc 4 (L.map sbI))), (8, .imm (.int .i64 E)), (9, .ref 9 0), (10, .imm (.int .i64 F))]
      [(4, .box (scCells v)), (9, .box [.imm (.int .i64 S.L), .imm (.int .i64 S.F)])]) := by
  have tl := tail_SurgeCovers hn h1 h0
  have rc := r_CoverErr (v := v)
  simp only [scCells] at tl
  simp only [b13k5, res13, scCells, ruI, ssI, sbI, spI, swI, scI, stI, srI, saI, snI, ↓reduceIte, reduceCtorEq, Nat.reduceEqDiff, Nat.reduceAdd, Nat.reduceMul, Nat.reduceSub, Nat.reduceLeDiff, Nat.reduceBEq, Int.reduceToNat, Int.reduceLE, Int.reduceLT, Int.reduceEq, Int.reduceNe, di0, di1, di2, di3, di4, di5, di6, di7, di8, di9, postX_ret, postX_normal, ex_some]
  refine calls_of rc ?_; simp only [ruI, ssI, sbI, spI, swI, scI, stI, srI, saI, snI, res13, b13k5, b13k6, b13k7, ↓reduceIte, reduceCtorEq, Nat.reduceEqDiff, Nat.reduceAdd, Nat.reduceMul, Nat.reduceSub, Nat.reduceLeDiff, Nat.reduceBEq, Int.reduceToNat, Int.reduceLE, Int.reduceLT, Int.reduceEq, Int.reduceNe, di0, di1, di2, di3, di4, di5, di6, di7, di8, di9, postX_ret, postX_normal, ex_some]
  by_cases e1 : coverE v = 0
  · rw [hL (by rw [hE]; exact e1), hE]
    simp only [e1, ruI, ssI, sbI, spI, swI, scI, stI, srI, saI, snI, ↓reduceIte, reduceCtorEq, Nat.reduceEqDiff, Nat.reduceAdd, Nat.reduceMul, Nat.reduceSub, Nat.reduceLeDiff, Nat.reduceBEq, Int.reduceToNat, Int.reduceLE, Int.reduceLT, Int.reduceEq, Int.reduceNe, di0, di1, di2, di3, di4, di5, di6, di7, di8, di9, postX_ret, postX_normal, ex_some]
    have hl64 : (coverL v).length ≤ 64 := by
      obtain ⟨hb, hp, -⟩ := coverE_zero.1 e1
      have h1 := length_flat (l := divL v.b.ll v.b.lh v.parts) (m := 8) (g := fun x => (divL v.b.fl v.b.fh v.parts).map fun y => bxOf x y) fun x _ => by
        rw [List.length_map]
        have := divR_length (lo := v.b.fl) (hi := v.b.fh) (c := v.parts) (i := 0)
        unfold divL
        omega
      have h2 := divR_length (lo := v.b.ll) (hi := v.b.lh) (c := v.parts) (i := 0)
      unfold coverL
      unfold divL at h1 ⊢
      omega
    have hs := r_SameBoxes (a := coverL v) (b := coverL v) (by omega)
    refine calls_of (r_Cover e1) ?_; simp only [ruI, ssI, sbI, spI, swI, scI, stI, srI, saI, snI, res13, b13k5, b13k6, b13k7, ↓reduceIte, reduceCtorEq, Nat.reduceEqDiff, Nat.reduceAdd, Nat.reduceMul, Nat.reduceSub, Nat.reduceLeDiff, Nat.reduceBEq, Int.reduceToNat, Int.reduceLE, Int.reduceLT, Int.reduceEq, Int.reduceNe, di0, di1, di2, di3, di4, di5, di6, di7, di8, di9, postX_ret, postX_normal, ex_some]
    refine calls_of hs ?_; simp only [ruI, ssI, sbI, spI, swI, scI, stI, srI, saI, snI, res13, b13k5, b13k6, b13k7, ↓reduceIte, reduceCtorEq, Nat.reduceEqDiff, Nat.reduceAdd, Nat.reduceMul, Nat.reduceSub, Nat.reduceLeDiff, Nat.reduceBEq, Int.reduceToNat, Int.reduceLE, Int.reduceLT, Int.reduceEq, Int.reduceNe, di0, di1, di2, di3, di4, di5, di6, di7, di8, di9, postX_ret, postX_normal, ex_some]
    exact tl
  · rw [hL0 (by rw [hE]; exact e1), hE]
    simp only [e1, ruI, ssI, sbI, spI, swI, scI, stI, srI, saI, snI, ↓reduceIte, reduceCtorEq, Nat.reduceEqDiff, Nat.reduceAdd, Nat.reduceMul, Nat.reduceSub, Nat.reduceLeDiff, Nat.reduceBEq, Int.reduceToNat, Int.reduceLE, Int.reduceLT, Int.reduceEq, Int.reduceNe, di0, di1, di2, di3, di4, di5, di6, di7, di8, di9, postX_ret, postX_normal, ex_some]
    exact tl

theorem l_SurgeCovers {r : Ru} {v : Cv} {bs : List Bx} : Contract Try.prog 13 [ruI r, scI v, .slc 4 (bs.map sbI)] (.bool true) := by
  refine contract_run Try.func13 k13 rfl ?_
  simp only [body13, b13, res13, b13k7, ruI, ssI, sbI, spI, swI, scI, stI, srI, saI, snI, ↓reduceIte, reduceCtorEq, Nat.reduceEqDiff, Nat.reduceAdd, Nat.reduceMul, Nat.reduceSub, Nat.reduceLeDiff, Nat.reduceBEq, Int.reduceToNat, Int.reduceLE, Int.reduceLT, Int.reduceEq, Int.reduceNe, di0, di1, di2, di3, di4, di5, di6, di7, di8, di9, postX_ret, postX_normal, ex_some]
  refine calls_of s_awake ?_; simp only [ruI, ssI, sbI, spI, swI, scI, stI, srI, saI, snI, res13, b13k7, ↓reduceIte, reduceCtorEq, Nat.reduceEqDiff, Nat.reduceAdd, Nat.reduceMul, Nat.reduceSub, Nat.reduceLeDiff, Nat.reduceBEq, Int.reduceToNat, Int.reduceLE, Int.reduceLT, Int.reduceEq, Int.reduceNe, di0, di1, di2, di3, di4, di5, di6, di7, di8, di9, postX_ret, postX_normal, ex_some]
  have lf := l_few (ss := []) (w := wZ) (bs := bs)
  simp only [clI, wZ, List.map_nil] at lf
  refine calls_of lf ?_; simp only [ruI, ssI, sbI, spI, swI, scI, stI, srI, saI, snI, res13, b13k7, ↓reduceIte, reduceCtorEq, Nat.reduceEqDiff, Nat.reduceAdd, Nat.reduceMul, Nat.reduceSub, Nat.reduceLeDiff, Nat.reduceBEq, Int.reduceToNat, Int.reduceLE, Int.reduceLT, Int.reduceEq, Int.reduceNe, di0, di1, di2, di3, di4, di5, di6, di7, di8, di9, postX_ret, postX_normal, ex_some]
  by_cases hc : fewC [] ⟨[], ⟨0, 0⟩, 0, 0⟩ bs
  case neg => simp only [hc, ruI, ssI, sbI, spI, swI, scI, stI, srI, saI, snI, ↓reduceIte, reduceCtorEq, Nat.reduceEqDiff, Nat.reduceAdd, Nat.reduceMul, Nat.reduceSub, Nat.reduceLeDiff, Nat.reduceBEq, Int.reduceToNat, Int.reduceLE, Int.reduceLT, Int.reduceEq, Int.reduceNe, di0, di1, di2, di3, di4, di5, di6, di7, di8, di9, postX_ret, postX_normal, ex_some]
  simp only [hc, ruI, ssI, sbI, spI, swI, scI, stI, srI, saI, snI, ↓reduceIte, reduceCtorEq, Nat.reduceEqDiff, Nat.reduceAdd, Nat.reduceMul, Nat.reduceSub, Nat.reduceLeDiff, Nat.reduceBEq, Int.reduceToNat, Int.reduceLE, Int.reduceLT, Int.reduceEq, Int.reduceNe, di0, di1, di2, di3, di4, di5, di6, di7, di8, di9, postX_ret, postX_normal, ex_some]
  have hbl : bs.length ≤ 66 := by have := hc.2.2; omega
  have rb := r_BoxErrS (b := v.b)
  refine calls_of rb ?_; simp only [ruI, ssI, sbI, spI, swI, scI, stI, srI, saI, snI, res13, b13k7, ↓reduceIte, reduceCtorEq, Nat.reduceEqDiff, Nat.reduceAdd, Nat.reduceMul, Nat.reduceSub, Nat.reduceLeDiff, Nat.reduceBEq, Int.reduceToNat, Int.reduceLE, Int.reduceLT, Int.reduceEq, Int.reduceNe, di0, di1, di2, di3, di4, di5, di6, di7, di8, di9, postX_ret, postX_normal, ex_some]
  have s1 := s_CoverOf (r := r) (v := v)
  have s2 := s_CoversAll (r := r) (b := v.b) (bs := bs) (by omega)
  have cb := r_CopyBoxes (l := bs) (by omega)
  have go : run Try.prog b13k6 [] (d13.post (.bool true)) (mkS [(2, .imm (.slc 4 (bs.map sbI))), (3, .ref 3 0), (4, .ref 4 0)] [(3, .box [.imm (.int .i64 r.I), .imm (.int .i64 r.A), .imm (.int .i64 r.lo), .imm (.int .i64 r.hi), .imm (.int .i64 r.T)]), (4, .box (scCells v))]) := by
    simp only [b13k6, res13, scCells, ruI, ssI, sbI, spI, swI, scI, stI, srI, saI, snI, ↓reduceIte, reduceCtorEq, Nat.reduceEqDiff, Nat.reduceAdd, Nat.reduceMul, Nat.reduceSub, Nat.reduceLeDiff, Nat.reduceBEq, Int.reduceToNat, Int.reduceLE, Int.reduceLT, Int.reduceEq, Int.reduceNe, di0, di1, di2, di3, di4, di5, di6, di7, di8, di9, postX_ret, postX_normal, ex_some]
    by_cases e0 : rulesErr r = 0
    case neg =>
      have a1 : fstE (rulesErr r) (coverE v) = rulesErr r := if_neg e0
      have a2 : covAE r v.b bs = rulesErr r := by unfold covAE; rw [show fstE (rulesErr r) (boxErr v.b) = rulesErr r from if_neg e0]; exact if_neg e0
      rw [a1, if_neg e0] at s1
      rw [a2, if_neg e0] at s2
      refine calls_of s1 ?_; simp only [ruI, ssI, sbI, spI, swI, scI, stI, srI, saI, snI, res13, b13k6, b13k7, ↓reduceIte, reduceCtorEq, Nat.reduceEqDiff, Nat.reduceAdd, Nat.reduceMul, Nat.reduceSub, Nat.reduceLeDiff, Nat.reduceBEq, Int.reduceToNat, Int.reduceLE, Int.reduceLT, Int.reduceEq, Int.reduceNe, di0, di1, di2, di3, di4, di5, di6, di7, di8, di9, postX_ret, postX_normal, ex_some]
      refine calls_of cb ?_; simp only [ruI, ssI, sbI, spI, swI, scI, stI, srI, saI, snI, res13, b13k6, b13k7, ↓reduceIte, reduceCtorEq, Nat.reduceEqDiff, Nat.reduceAdd, Nat.reduceMul, Nat.reduceSub, Nat.reduceLeDiff, Nat.reduceBEq, Int.reduceToNat, Int.reduceLE, Int.reduceLT, Int.reduceEq, Int.reduceNe, di0, di1, di2, di3, di4, di5, di6, di7, di8, di9, postX_ret, postX_normal, ex_some]
      refine calls_of s2 ?_; simp only [ruI, ssI, sbI, spI, swI, scI, stI, srI, saI, snI, res13, b13k6, b13k7, ↓reduceIte, reduceCtorEq, Nat.reduceEqDiff, Nat.reduceAdd, Nat.reduceMul, Nat.reduceSub, Nat.reduceLeDiff, Nat.reduceBEq, Int.reduceToNat, Int.reduceLE, Int.reduceLT, Int.reduceEq, Int.reduceNe, di0, di1, di2, di3, di4, di5, di6, di7, di8, di9, postX_ret, postX_normal, ex_some]
      refine calls_of r_RulesErr ?_; simp only [ruI, ssI, sbI, spI, swI, scI, stI, srI, saI, snI, res13, b13k6, b13k7, ↓reduceIte, reduceCtorEq, Nat.reduceEqDiff, Nat.reduceAdd, Nat.reduceMul, Nat.reduceSub, Nat.reduceLeDiff, Nat.reduceBEq, Int.reduceToNat, Int.reduceLE, Int.reduceLT, Int.reduceEq, Int.reduceNe, di0, di1, di2, di3, di4, di5, di6, di7, di8, di9, postX_ret, postX_normal, ex_some]
      simp only [e0, ruI, ssI, sbI, spI, swI, scI, stI, srI, saI, snI, ↓reduceIte, reduceCtorEq, Nat.reduceEqDiff, Nat.reduceAdd, Nat.reduceMul, Nat.reduceSub, Nat.reduceLeDiff, Nat.reduceBEq, Int.reduceToNat, Int.reduceLE, Int.reduceLT, Int.reduceEq, Int.reduceNe, di0, di1, di2, di3, di4, di5, di6, di7, di8, di9, postX_ret, postX_normal, ex_some]
    have a1 : fstE (rulesErr r) (coverE v) = coverE v := if_pos e0
    have a2 : covAE r v.b bs = covBE v.b bs := by unfold covAE covBE; rw [show fstE (rulesErr r) (boxErr v.b) = boxErr v.b from if_pos e0]
    rw [a1] at s1
    rw [a2] at s2
    obtain ⟨L, hL, hL1, hL0⟩ : ∃ L : List Bx, (if coverE v = 0 then IV.tup [.slc 4 ((coverL v).map sbI), .int .i64 0] else .tup [.slc 4 [], .int .i64 (coverE v)]) = .tup [.slc 4 (L.map sbI), .int .i64 (coverE v)] ∧ (coverE v = 0 → L = coverL v) ∧ (¬ coverE v = 0 → L = []) := by
      by_cases h : coverE v = 0
      · exact ⟨_, by rw [if_pos h, h], fun _ => rfl, fun k => (k h).elim⟩
      · exact ⟨[], by rw [if_neg h]; rfl, fun k => (h k).elim, fun _ => rfl⟩
    obtain ⟨S, F, hS, hS1, hS0⟩ : ∃ (S : Sta) (F : Int), (if covBE v.b bs = 0 then IV.tup [ssI (uncS (uncP v.b bs)), .int .i64 (uncE (uncP v.b bs))] else .tup [ssI ⟨0, 0⟩, .int .i64 (covBE v.b bs)]) = .tup [ssI S, .int .i64 F] ∧ (covBE v.b bs = 0 → F = uncE (uncP v.b bs) ∧ S = uncS (uncP v.b bs)) ∧ (¬ covBE v.b bs = 0 → F = covBE v.b bs ∧ S = ⟨0, 0⟩) := by
      by_cases h : covBE v.b bs = 0
      · exact ⟨_, _, if_pos h, fun _ => ⟨rfl, rfl⟩, fun k => (k h).elim⟩
      · exact ⟨_, _, if_neg h, fun k => (h k).elim, fun _ => ⟨rfl, rfl⟩⟩
    rw [hL] at s1
    rw [hS] at s2
    have md := mid_SurgeCovers hbl hS1 hS0 rfl hL1 hL0
    refine calls_of s1 ?_; simp only [ruI, ssI, sbI, spI, swI, scI, stI, srI, saI, snI, res13, b13k6, b13k7, ↓reduceIte, reduceCtorEq, Nat.reduceEqDiff, Nat.reduceAdd, Nat.reduceMul, Nat.reduceSub, Nat.reduceLeDiff, Nat.reduceBEq, Int.reduceToNat, Int.reduceLE, Int.reduceLT, Int.reduceEq, Int.reduceNe, di0, di1, di2, di3, di4, di5, di6, di7, di8, di9, postX_ret, postX_normal, ex_some]
    refine calls_of cb ?_; simp only [ruI, ssI, sbI, spI, swI, scI, stI, srI, saI, snI, res13, b13k6, b13k7, ↓reduceIte, reduceCtorEq, Nat.reduceEqDiff, Nat.reduceAdd, Nat.reduceMul, Nat.reduceSub, Nat.reduceLeDiff, Nat.reduceBEq, Int.reduceToNat, Int.reduceLE, Int.reduceLT, Int.reduceEq, Int.reduceNe, di0, di1, di2, di3, di4, di5, di6, di7, di8, di9, postX_ret, postX_normal, ex_some]
    refine calls_of s2 ?_; simp only [ruI, ssI, sbI, spI, swI, scI, stI, srI, saI, snI, res13, b13k6, b13k7, ↓reduceIte, reduceCtorEq, Nat.reduceEqDiff, Nat.reduceAdd, Nat.reduceMul, Nat.reduceSub, Nat.reduceLeDiff, Nat.reduceBEq, Int.reduceToNat, Int.reduceLE, Int.reduceLT, Int.reduceEq, Int.reduceNe, di0, di1, di2, di3, di4, di5, di6, di7, di8, di9, postX_ret, postX_normal, ex_some]
    refine calls_of r_RulesErr ?_; simp only [ruI, ssI, sbI, spI, swI, scI, stI, srI, saI, snI, res13, b13k6, b13k7, ↓reduceIte, reduceCtorEq, Nat.reduceEqDiff, Nat.reduceAdd, Nat.reduceMul, Nat.reduceSub, Nat.reduceLeDiff, Nat.reduceBEq, Int.reduceToNat, Int.reduceLE, Int.reduceLT, Int.reduceEq, Int.reduceNe, di0, di1, di2, di3, di4, di5, di6, di7, di8, di9, postX_ret, postX_normal, ex_some]
    simp only [e0, ruI, ssI, sbI, spI, swI, scI, stI, srI, saI, snI, ↓reduceIte, reduceCtorEq, Nat.reduceEqDiff, Nat.reduceAdd, Nat.reduceMul, Nat.reduceSub, Nat.reduceLeDiff, Nat.reduceBEq, Int.reduceToNat, Int.reduceLE, Int.reduceLT, Int.reduceEq, Int.reduceNe, di0, di1, di2, di3, di4, di5, di6, di7, di8, di9, postX_ret, postX_normal, ex_some]
    exact md
  simp only [scCells] at go
  by_cases e1 : boxErr v.b = 0
  · simp only [e1, ruI, ssI, sbI, spI, swI, scI, stI, srI, saI, snI, ↓reduceIte, reduceCtorEq, Nat.reduceEqDiff, Nat.reduceAdd, Nat.reduceMul, Nat.reduceSub, Nat.reduceLeDiff, Nat.reduceBEq, Int.reduceToNat, Int.reduceLE, Int.reduceLT, Int.reduceEq, Int.reduceNe, di0, di1, di2, di3, di4, di5, di6, di7, di8, di9, postX_ret, postX_normal, ex_some]
    refine calls_of (r_Count (b := v.b) e1) ?_; simp only [ruI, ssI, sbI, spI, swI, scI, stI, srI, saI, snI, res13, b13k7, ↓reduceIte, reduceCtorEq, Nat.reduceEqDiff, Nat.reduceAdd, Nat.reduceMul, Nat.reduceSub, Nat.reduceLeDiff, Nat.reduceBEq, Int.reduceToNat, Int.reduceLE, Int.reduceLT, Int.reduceEq, Int.reduceNe, di0, di1, di2, di3, di4, di5, di6, di7, di8, di9, postX_ret, postX_normal, ex_some]
    by_cases k1 : 300 < countB v.b
    · simp only [k1, ruI, ssI, sbI, spI, swI, scI, stI, srI, saI, snI, ↓reduceIte, reduceCtorEq, Nat.reduceEqDiff, Nat.reduceAdd, Nat.reduceMul, Nat.reduceSub, Nat.reduceLeDiff, Nat.reduceBEq, Int.reduceToNat, Int.reduceLE, Int.reduceLT, Int.reduceEq, Int.reduceNe, di0, di1, di2, di3, di4, di5, di6, di7, di8, di9, postX_ret, postX_normal, ex_some]
      refine calls_of (r_Count (b := v.b) e1) ?_; simp only [ruI, ssI, sbI, spI, swI, scI, stI, srI, saI, snI, res13, b13k7, ↓reduceIte, reduceCtorEq, Nat.reduceEqDiff, Nat.reduceAdd, Nat.reduceMul, Nat.reduceSub, Nat.reduceLeDiff, Nat.reduceBEq, Int.reduceToNat, Int.reduceLE, Int.reduceLT, Int.reduceEq, Int.reduceNe, di0, di1, di2, di3, di4, di5, di6, di7, di8, di9, postX_ret, postX_normal, ex_some]
      by_cases k2 : countB v.b ≤ 4000
      · simp only [k2, ruI, ssI, sbI, spI, swI, scI, stI, srI, saI, snI, ↓reduceIte, reduceCtorEq, Nat.reduceEqDiff, Nat.reduceAdd, Nat.reduceMul, Nat.reduceSub, Nat.reduceLeDiff, Nat.reduceBEq, Int.reduceToNat, Int.reduceLE, Int.reduceLT, Int.reduceEq, Int.reduceNe, di0, di1, di2, di3, di4, di5, di6, di7, di8, di9, postX_ret, postX_normal, ex_some]
      · simp only [k2, ruI, ssI, sbI, spI, swI, scI, stI, srI, saI, snI, ↓reduceIte, reduceCtorEq, Nat.reduceEqDiff, Nat.reduceAdd, Nat.reduceMul, Nat.reduceSub, Nat.reduceLeDiff, Nat.reduceBEq, Int.reduceToNat, Int.reduceLE, Int.reduceLT, Int.reduceEq, Int.reduceNe, di0, di1, di2, di3, di4, di5, di6, di7, di8, di9, postX_ret, postX_normal, ex_some]
        exact go
    · simp only [k1, ruI, ssI, sbI, spI, swI, scI, stI, srI, saI, snI, ↓reduceIte, reduceCtorEq, Nat.reduceEqDiff, Nat.reduceAdd, Nat.reduceMul, Nat.reduceSub, Nat.reduceLeDiff, Nat.reduceBEq, Int.reduceToNat, Int.reduceLE, Int.reduceLT, Int.reduceEq, Int.reduceNe, di0, di1, di2, di3, di4, di5, di6, di7, di8, di9, postX_ret, postX_normal, ex_some]
      exact go
  · simp only [e1, ruI, ssI, sbI, spI, swI, scI, stI, srI, saI, snI, ↓reduceIte, reduceCtorEq, Nat.reduceEqDiff, Nat.reduceAdd, Nat.reduceMul, Nat.reduceSub, Nat.reduceLeDiff, Nat.reduceBEq, Int.reduceToNat, Int.reduceLE, Int.reduceLT, Int.reduceEq, Int.reduceNe, di0, di1, di2, di3, di4, di5, di6, di7, di8, di9, postX_ret, postX_normal, ex_some]
    exact go
end Go.DI

