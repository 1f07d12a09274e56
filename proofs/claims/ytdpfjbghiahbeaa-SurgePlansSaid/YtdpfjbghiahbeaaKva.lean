/- The statement SurgePlans, as a contract. No condition. -/
import Derived.Test.YtdpfjbghiahbeaaKvGm
set_option linter.unusedSimpArgs false
set_option maxRecDepth 20000
namespace Go.DI
open Go.Proofs Go.RowKit Sg

def FewP (p : Pl) : Prop := p.ch.length ≤ 6 ∧ ((planE p).2 ≠ 0 ∨ p.ch.length ≤ 3 ∧ p.ticks ≤ 40)
instance (p : Pl) : Decidable (FewP p) := inferInstanceAs (Decidable (_ ∧ _))
theorem l_Few {p : Pl} : Contract Try.prog 28 [spI p] (.bool (decide (FewP p))) := by
  refine contract_run Try.func28 k28 rfl ?_
  simp only [body28, b28, res28, b28k0, ruI, ssI, sbI, spI, swI, scI, stI, srI, saI, snI, ↓reduceIte, reduceCtorEq, Nat.reduceEqDiff, Nat.reduceAdd, Nat.reduceMul, Nat.reduceSub, Nat.reduceLeDiff, Nat.reduceBEq, Int.reduceToNat, Int.reduceLE, Int.reduceLT, Int.reduceEq, Int.reduceNe, di0, di1, di2, di3, di4, di5, di6, di7, di8, di9, postX_ret, postX_normal, ex_some]
  by_cases h1 : p.ch.length ≤ 6
  case neg =>
    rw [if_pos (by omega), decide_eq_false (fun k => h1 k.1)]
  rw [if_neg (by omega)]
  refine calls_of (r_CheckPlan (by omega)) ?_; simp only [ruI, ssI, sbI, spI, swI, scI, stI, srI, saI, snI, res28, b28k0, ↓reduceIte, reduceCtorEq, Nat.reduceEqDiff, Nat.reduceAdd, Nat.reduceMul, Nat.reduceSub, Nat.reduceLeDiff, Nat.reduceBEq, Int.reduceToNat, Int.reduceLE, Int.reduceLT, Int.reduceEq, Int.reduceNe, di0, di1, di2, di3, di4, di5, di6, di7, di8, di9, postX_ret, postX_normal, ex_some]
  by_cases h2 : (planE p).2 = 0
  · simp only [h2, ruI, ssI, sbI, spI, swI, scI, stI, srI, saI, snI, ↓reduceIte, reduceCtorEq, Nat.reduceEqDiff, Nat.reduceAdd, Nat.reduceMul, Nat.reduceSub, Nat.reduceLeDiff, Nat.reduceBEq, Int.reduceToNat, Int.reduceLE, Int.reduceLT, Int.reduceEq, Int.reduceNe, di0, di1, di2, di3, di4, di5, di6, di7, di8, di9, postX_ret, postX_normal, ex_some]
    by_cases h3 : (p.ch.length : Int) ≤ 3
    · simp only [h3, ruI, ssI, sbI, spI, swI, scI, stI, srI, saI, snI, ↓reduceIte, reduceCtorEq, Nat.reduceEqDiff, Nat.reduceAdd, Nat.reduceMul, Nat.reduceSub, Nat.reduceLeDiff, Nat.reduceBEq, Int.reduceToNat, Int.reduceLE, Int.reduceLT, Int.reduceEq, Int.reduceNe, di0, di1, di2, di3, di4, di5, di6, di7, di8, di9, postX_ret, postX_normal, ex_some]
      congr 2
      rw [decide_eq_decide]
      unfold FewP
      rw [h2]
      omega
    · simp only [h3, ruI, ssI, sbI, spI, swI, scI, stI, srI, saI, snI, ↓reduceIte, reduceCtorEq, Nat.reduceEqDiff, Nat.reduceAdd, Nat.reduceMul, Nat.reduceSub, Nat.reduceLeDiff, Nat.reduceBEq, Int.reduceToNat, Int.reduceLE, Int.reduceLT, Int.reduceEq, Int.reduceNe, di0, di1, di2, di3, di4, di5, di6, di7, di8, di9, postX_ret, postX_normal, ex_some]
      rw [decide_eq_false (fun k => by have := k.2; rw [h2] at this; omega)]
  · simp only [h2, ruI, ssI, sbI, spI, swI, scI, stI, srI, saI, snI, ↓reduceIte, reduceCtorEq, Nat.reduceEqDiff, Nat.reduceAdd, Nat.reduceMul, Nat.reduceSub, Nat.reduceLeDiff, Nat.reduceBEq, Int.reduceToNat, Int.reduceLE, Int.reduceLT, Int.reduceEq, Int.reduceNe, di0, di1, di2, di3, di4, di5, di6, di7, di8, di9, postX_ret, postX_normal, ex_some]
    rw [decide_eq_true (show FewP p from ⟨h1, .inl h2⟩)]

theorem s_OrdersOf {r : Ru} {p : Pl} (hl : p.ch.length ≤ 1000000000) : Contract Try.prog 41 [ruI r, spI p] (if (planEr r p).2 = 0 then .tup [.slc 1 ((ordersP p).map snI), .int .i64 (if 0 < (ordersP p).length then 0 else 12)] else .tup [.slc 1 [], .int .i64 (planEr r p).2]) := by
  refine contract_run Try.func41 k41 rfl ?_
  simp only [body41, b41, res41, b41k0, ruI, ssI, sbI, spI, swI, scI, stI, srI, saI, snI, ↓reduceIte, reduceCtorEq, Nat.reduceEqDiff, Nat.reduceAdd, Nat.reduceMul, Nat.reduceSub, Nat.reduceLeDiff, Nat.reduceBEq, Int.reduceToNat, Int.reduceLE, Int.reduceLT, Int.reduceEq, Int.reduceNe, di0, di1, di2, di3, di4, di5, di6, di7, di8, di9, postX_ret, postX_normal, ex_some]
  refine calls_of (s_open hl) ?_; simp only [ruI, ssI, sbI, spI, swI, scI, stI, srI, saI, snI, res41, b41k0, ↓reduceIte, reduceCtorEq, Nat.reduceEqDiff, Nat.reduceAdd, Nat.reduceMul, Nat.reduceSub, Nat.reduceLeDiff, Nat.reduceBEq, Int.reduceToNat, Int.reduceLE, Int.reduceLT, Int.reduceEq, Int.reduceNe, di0, di1, di2, di3, di4, di5, di6, di7, di8, di9, postX_ret, postX_normal, ex_some]
  by_cases h : (planEr r p).2 = 0
  · obtain ⟨hr, hp⟩ := planEr_zero.1 h
    simp only [h, ruI, ssI, sbI, spI, swI, scI, stI, srI, saI, snI, ↓reduceIte, reduceCtorEq, Nat.reduceEqDiff, Nat.reduceAdd, Nat.reduceMul, Nat.reduceSub, Nat.reduceLeDiff, Nat.reduceBEq, Int.reduceToNat, Int.reduceLE, Int.reduceLT, Int.reduceEq, Int.reduceNe, di0, di1, di2, di3, di4, di5, di6, di7, di8, di9, postX_ret, postX_normal, ex_some]
    refine calls_of (s_all hp) ?_
    simp only [res41, b41k0, ruI, ssI, sbI, spI, swI, scI, stI, srI, saI, snI, ↓reduceIte, reduceCtorEq, Nat.reduceEqDiff, Nat.reduceAdd, Nat.reduceMul, Nat.reduceSub, Nat.reduceLeDiff, Nat.reduceBEq, Int.reduceToNat, Int.reduceLE, Int.reduceLT, Int.reduceEq, Int.reduceNe, di0, di1, di2, di3, di4, di5, di6, di7, di8, di9, postX_ret, postX_normal, ex_some]
    refine calls_of s_unless ?_; simp only [ruI, ssI, sbI, spI, swI, scI, stI, srI, saI, snI, res41, b41k0, ↓reduceIte, reduceCtorEq, Nat.reduceEqDiff, Nat.reduceAdd, Nat.reduceMul, Nat.reduceSub, Nat.reduceLeDiff, Nat.reduceBEq, Int.reduceToNat, Int.reduceLE, Int.reduceLT, Int.reduceEq, Int.reduceNe, di0, di1, di2, di3, di4, di5, di6, di7, di8, di9, postX_ret, postX_normal, ex_some]
    congr 6
    exact propext (by omega)
  · simp only [h, ruI, ssI, sbI, spI, swI, scI, stI, srI, saI, snI, ↓reduceIte, reduceCtorEq, Nat.reduceEqDiff, Nat.reduceAdd, Nat.reduceMul, Nat.reduceSub, Nat.reduceLeDiff, Nat.reduceBEq, Int.reduceToNat, Int.reduceLE, Int.reduceLT, Int.reduceEq, Int.reduceNe, di0, di1, di2, di3, di4, di5, di6, di7, di8, di9, postX_ret, postX_normal, ex_some]

theorem tail_SurgePlans {p : Pl} {o X : List Int} {E : Int} (hp : PlanOk p) (hol : o.length ≤ 10) (hE : E = orderE p o) (hX : E = 0 → X = loadsP p o) (hX0 : ¬ E = 0 → X = []) :
    run Try.prog b7k3 [] (d7.post (.bool true)) (mkS [(2, .imm (snI o)), (4, .ref 4 0), (11, .imm (snI X)), (12, .imm (.int .i64 E))]
      [(4, .box [.imm (.int .i64 p.load), .imm (snI p.ch), .imm (.int .i64 p.wait), .imm (.int .i64 p.ticks)])]) := by
  have hoe := r_OrderErr (p := p) (o := o) hp
  have ht := hp.ticks
  simp only [b7k3, res7, b7k0, b7k1, b7k2, b7k3, b7k4, b7k5, b7k6, b7k7, b7k8, b7k9, ruI, ssI, sbI, spI, swI, scI, stI, srI, saI, snI, ↓reduceIte, reduceCtorEq, Nat.reduceEqDiff, Nat.reduceAdd, Nat.reduceMul, Nat.reduceSub, Nat.reduceLeDiff, Nat.reduceBEq, Int.reduceToNat, Int.reduceLE, Int.reduceLT, Int.reduceEq, Int.reduceNe, di0, di1, di2, di3, di4, di5, di6, di7, di8, di9, postX_ret, postX_normal, ex_some]
  refine calls_of hoe ?_; simp only [ruI, ssI, sbI, spI, swI, scI, stI, srI, saI, snI, res7, b7k0, b7k1, b7k2, b7k3, b7k4, b7k5, b7k6, b7k7, b7k8, b7k9, ↓reduceIte, reduceCtorEq, Nat.reduceEqDiff, Nat.reduceAdd, Nat.reduceMul, Nat.reduceSub, Nat.reduceLeDiff, Nat.reduceBEq, Int.reduceToNat, Int.reduceLE, Int.reduceLT, Int.reduceEq, Int.reduceNe, di0, di1, di2, di3, di4, di5, di6, di7, di8, di9, postX_ret, postX_normal, ex_some]
  by_cases h : orderE p o = 0
  · rw [hX (by rw [hE]; exact h), hE]
    obtain ⟨h3, h4, h5⟩ := orderE_zero h
    have rl := r_Loads hp (orderE_idx hp h3 h4) (by omega)
    have hi := c_Ints (a := loadsP p o) (b := loadsP p o) (by unfold loadsP; rw [loadsF_length]; omega)
    simp only [h, ruI, ssI, sbI, spI, swI, scI, stI, srI, saI, snI, ↓reduceIte, reduceCtorEq, Nat.reduceEqDiff, Nat.reduceAdd, Nat.reduceMul, Nat.reduceSub, Nat.reduceLeDiff, Nat.reduceBEq, Int.reduceToNat, Int.reduceLE, Int.reduceLT, Int.reduceEq, Int.reduceNe, di0, di1, di2, di3, di4, di5, di6, di7, di8, di9, postX_ret, postX_normal, ex_some]
    refine calls_of rl ?_; simp only [ruI, ssI, sbI, spI, swI, scI, stI, srI, saI, snI, res7, b7k0, b7k1, b7k2, b7k3, b7k4, b7k5, b7k6, b7k7, b7k8, b7k9, ↓reduceIte, reduceCtorEq, Nat.reduceEqDiff, Nat.reduceAdd, Nat.reduceMul, Nat.reduceSub, Nat.reduceLeDiff, Nat.reduceBEq, Int.reduceToNat, Int.reduceLE, Int.reduceLT, Int.reduceEq, Int.reduceNe, di0, di1, di2, di3, di4, di5, di6, di7, di8, di9, postX_ret, postX_normal, ex_some]
    refine calls_of hi ?_; simp only [ruI, ssI, sbI, spI, swI, scI, stI, srI, saI, snI, res7, b7k0, b7k1, b7k2, b7k3, b7k4, b7k5, b7k6, b7k7, b7k8, b7k9, ↓reduceIte, reduceCtorEq, Nat.reduceEqDiff, Nat.reduceAdd, Nat.reduceMul, Nat.reduceSub, Nat.reduceLeDiff, Nat.reduceBEq, Int.reduceToNat, Int.reduceLE, Int.reduceLT, Int.reduceEq, Int.reduceNe, di0, di1, di2, di3, di4, di5, di6, di7, di8, di9, postX_ret, postX_normal, ex_some]
  · rw [hX0 (by rw [hE]; exact h), hE]
    simp only [h, ruI, ssI, sbI, spI, swI, scI, stI, srI, saI, snI, ↓reduceIte, reduceCtorEq, Nat.reduceEqDiff, Nat.reduceAdd, Nat.reduceMul, Nat.reduceSub, Nat.reduceLeDiff, Nat.reduceBEq, Int.reduceToNat, Int.reduceLE, Int.reduceLT, Int.reduceEq, Int.reduceNe, di0, di1, di2, di3, di4, di5, di6, di7, di8, di9, postX_ret, postX_normal, ex_some]

theorem loop_SurgePlans {p : Pl} {o X : List Int} {E : Int} (hp : PlanOk p) (hol : o.length ≤ 10) (hE : E = orderE p o) (hX : E = 0 → X = loadsP p o) (hX0 : ¬ E = 0 → X = []) :
    run Try.prog b7k4 [] (d7.post (.bool true)) (mkS [(2, .imm (snI o)), (4, .ref 4 0), (9, .imm (.slc 1 ((ordersP p).map snI))), (11, .imm (snI X)), (12, .imm (.int .i64 E)), (15, .imm (.slc 1 ((ordersP p).map snI)))]
      [(4, .box [.imm (.int .i64 p.load), .imm (snI p.ch), .imm (.int .i64 p.wait), .imm (.int .i64 p.ticks)])]) := by
  have hlen := orders_length hp
  simp only [b7k4, res7, ruI, ssI, sbI, spI, swI, scI, stI, srI, saI, snI, ↓reduceIte, reduceCtorEq, Nat.reduceEqDiff, Nat.reduceAdd, Nat.reduceMul, Nat.reduceSub, Nat.reduceLeDiff, Nat.reduceBEq, Int.reduceToNat, Int.reduceLE, Int.reduceLT, Int.reduceEq, Int.reduceNe, di0, di1, di2, di3, di4, di5, di6, di7, di8, di9, postX_ret, postX_normal, ex_some]
  refine loop_keep (α := Nat) rfl (fun i => (ordersP p).length - i) (fun i => i ≤ (ordersP p).length)
    (fun i => [(2, .imm (snI o)), (4, .ref 4 0), (9, .imm (.slc 1 ((ordersP p).map snI))), (11, .imm (snI X)), (12, .imm (.int .i64 E)), (15, .imm (.slc 1 ((ordersP p).map snI))), (16, .imm (.int .i64 i))])
    (fun _ => [(4, .box [.imm (.int .i64 p.load), .imm (snI p.ch), .imm (.int .i64 p.wait), .imm (.int .i64 p.ticks)])]) 0 (Nat.zero_le _) (by simp only [ruI, ssI, sbI, spI, swI, scI, stI, srI, saI, snI, ↓reduceIte, reduceCtorEq, Nat.reduceEqDiff, Nat.reduceAdd, Nat.reduceMul, Nat.reduceSub, Nat.reduceLeDiff, Nat.reduceBEq, Int.reduceToNat, Int.reduceLE, Int.reduceLT, Int.reduceEq, Int.reduceNe, di0, di1, di2, di3, di4, di5, di6, di7, di8, di9, postX_ret, postX_normal, ex_some] <;> rfl) ?_
  intro i hi ih
  simp only [b7k0, b7k1, res7, ruI, ssI, sbI, spI, swI, scI, stI, srI, saI, snI, ↓reduceIte, reduceCtorEq, Nat.reduceEqDiff, Nat.reduceAdd, Nat.reduceMul, Nat.reduceSub, Nat.reduceLeDiff, Nat.reduceBEq, Int.reduceToNat, Int.reduceLE, Int.reduceLT, Int.reduceEq, Int.reduceNe, di0, di1, di2, di3, di4, di5, di6, di7, di8, di9, postX_ret, postX_normal, ex_some]
  split
  · rename_i h
    have hlt : i < (ordersP p).length := by omega
    repeat (refine And.intro (by omega) ?_)
    have hi := c_Ints (a := (ordersP p).getD i default) (b := (ordersP p).getD i default) (by
      have hm : (ordersP p).getD i default ∈ ordersP p := by rw [List.getD_eq_getElem?_getD]; simp [hlt]
      rw [(orders_mem hm).1]
      have := hp.len
      omega)
    refine calls_of hi ?_
    simp only [b7k0, res7, ruI, ssI, sbI, spI, swI, scI, stI, srI, saI, snI, ↓reduceIte, reduceCtorEq, Nat.reduceEqDiff, Nat.reduceAdd, Nat.reduceMul, Nat.reduceSub, Nat.reduceLeDiff, Nat.reduceBEq, Int.reduceToNat, Int.reduceLE, Int.reduceLT, Int.reduceEq, Int.reduceNe, di0, di1, di2, di3, di4, di5, di6, di7, di8, di9, postX_ret, postX_normal, ex_some]
    rw [wrap64 (by omega) (by omega)]
    exact ih (i + 1) _ _ (by omega) (by omega) (by simp only [ruI, ssI, sbI, spI, swI, scI, stI, srI, saI, snI, ↓reduceIte, reduceCtorEq, Nat.reduceEqDiff, Nat.reduceAdd, Nat.reduceMul, Nat.reduceSub, Nat.reduceLeDiff, Nat.reduceBEq, Int.reduceToNat, Int.reduceLE, Int.reduceLT, Int.reduceEq, Int.reduceNe, di0, di1, di2, di3, di4, di5, di6, di7, di8, di9, postX_ret, postX_normal, ex_some] <;> rfl)
  · exact tail_SurgePlans hp hol hE hX hX0

theorem l_SurgePlans {r : Ru} {p : Pl} {o : List Int} : Contract Try.prog 7 [ruI r, spI p, snI o] (.bool true) := by
  refine contract_run Try.func7 k7 rfl ?_
  simp only [body7, b7, res7, b7k5, b7k6, b7k7, b7k8, b7k9, ruI, ssI, sbI, spI, swI, scI, stI, srI, saI, snI, ↓reduceIte, reduceCtorEq, Nat.reduceEqDiff, Nat.reduceAdd, Nat.reduceMul, Nat.reduceSub, Nat.reduceLeDiff, Nat.reduceBEq, Int.reduceToNat, Int.reduceLE, Int.reduceLT, Int.reduceEq, Int.reduceNe, di0, di1, di2, di3, di4, di5, di6, di7, di8, di9, postX_ret, postX_normal, ex_some]
  refine calls_of s_awake ?_; simp only [ruI, ssI, sbI, spI, swI, scI, stI, srI, saI, snI, res7, b7k5, b7k6, b7k7, b7k8, b7k9, ↓reduceIte, reduceCtorEq, Nat.reduceEqDiff, Nat.reduceAdd, Nat.reduceMul, Nat.reduceSub, Nat.reduceLeDiff, Nat.reduceBEq, Int.reduceToNat, Int.reduceLE, Int.reduceLT, Int.reduceEq, Int.reduceNe, di0, di1, di2, di3, di4, di5, di6, di7, di8, di9, postX_ret, postX_normal, ex_some]
  refine calls_of l_Few ?_; simp only [ruI, ssI, sbI, spI, swI, scI, stI, srI, saI, snI, res7, b7k5, b7k6, b7k7, b7k8, b7k9, ↓reduceIte, reduceCtorEq, Nat.reduceEqDiff, Nat.reduceAdd, Nat.reduceMul, Nat.reduceSub, Nat.reduceLeDiff, Nat.reduceBEq, Int.reduceToNat, Int.reduceLE, Int.reduceLT, Int.reduceEq, Int.reduceNe, di0, di1, di2, di3, di4, di5, di6, di7, di8, di9, postX_ret, postX_normal, ex_some]
  by_cases hf : FewP p
  case neg =>
    simp only [hf, ruI, ssI, sbI, spI, swI, scI, stI, srI, saI, snI, ↓reduceIte, reduceCtorEq, Nat.reduceEqDiff, Nat.reduceAdd, Nat.reduceMul, Nat.reduceSub, Nat.reduceLeDiff, Nat.reduceBEq, Int.reduceToNat, Int.reduceLE, Int.reduceLT, Int.reduceEq, Int.reduceNe, di0, di1, di2, di3, di4, di5, di6, di7, di8, di9, postX_ret, postX_normal, ex_some]
    rw [if_neg (fun k => k.1)]
    trivial
  simp only [hf, ruI, ssI, sbI, spI, swI, scI, stI, srI, saI, snI, ↓reduceIte, reduceCtorEq, Nat.reduceEqDiff, Nat.reduceAdd, Nat.reduceMul, Nat.reduceSub, Nat.reduceLeDiff, Nat.reduceBEq, Int.reduceToNat, Int.reduceLE, Int.reduceLT, Int.reduceEq, Int.reduceNe, di0, di1, di2, di3, di4, di5, di6, di7, di8, di9, postX_ret, postX_normal, ex_some]
  by_cases ho : (o.length : Int) ≤ 10
  case neg =>
    rw [if_pos (by omega)]
    trivial
  rw [if_neg (by omega)]
  have hpl : p.ch.length ≤ 6 := hf.1
  have cp := r_CopyPlan (p := p) (by omega)
  have s1 := s_CheckPlan (r := r) (p := p) (by omega)
  have s2 := s_OrdersOf (r := r) (p := p) (by omega)
  have s3 := s_LoadsOf (r := r) (p := p) (o := o) (by omega)
  have ci := c_CopyInts (a := o) (by omega)
  have rp := r_CheckPlan (p := p) (by omega)
  refine calls_of cp ?_; simp only [ruI, ssI, sbI, spI, swI, scI, stI, srI, saI, snI, res7, b7k5, b7k6, b7k7, b7k8, b7k9, ↓reduceIte, reduceCtorEq, Nat.reduceEqDiff, Nat.reduceAdd, Nat.reduceMul, Nat.reduceSub, Nat.reduceLeDiff, Nat.reduceBEq, Int.reduceToNat, Int.reduceLE, Int.reduceLT, Int.reduceEq, Int.reduceNe, di0, di1, di2, di3, di4, di5, di6, di7, di8, di9, postX_ret, postX_normal, ex_some]
  refine calls_of s1 ?_; simp only [ruI, ssI, sbI, spI, swI, scI, stI, srI, saI, snI, res7, b7k5, b7k6, b7k7, b7k8, b7k9, ↓reduceIte, reduceCtorEq, Nat.reduceEqDiff, Nat.reduceAdd, Nat.reduceMul, Nat.reduceSub, Nat.reduceLeDiff, Nat.reduceBEq, Int.reduceToNat, Int.reduceLE, Int.reduceLT, Int.reduceEq, Int.reduceNe, di0, di1, di2, di3, di4, di5, di6, di7, di8, di9, postX_ret, postX_normal, ex_some]
  refine calls_of cp ?_; simp only [ruI, ssI, sbI, spI, swI, scI, stI, srI, saI, snI, res7, b7k5, b7k6, b7k7, b7k8, b7k9, ↓reduceIte, reduceCtorEq, Nat.reduceEqDiff, Nat.reduceAdd, Nat.reduceMul, Nat.reduceSub, Nat.reduceLeDiff, Nat.reduceBEq, Int.reduceToNat, Int.reduceLE, Int.reduceLT, Int.reduceEq, Int.reduceNe, di0, di1, di2, di3, di4, di5, di6, di7, di8, di9, postX_ret, postX_normal, ex_some]
  by_cases hE : (planEr r p).2 = 0
  case neg =>
    rw [if_neg hE] at s2
    have hlo : loE r p o = (planEr r p).2 := by unfold loE fstE; rw [if_neg hE]
    rw [hlo, if_neg hE] at s3
    refine calls_of s2 ?_; simp only [ruI, ssI, sbI, spI, swI, scI, stI, srI, saI, snI, res7, b7k5, b7k6, b7k7, b7k8, b7k9, ↓reduceIte, reduceCtorEq, Nat.reduceEqDiff, Nat.reduceAdd, Nat.reduceMul, Nat.reduceSub, Nat.reduceLeDiff, Nat.reduceBEq, Int.reduceToNat, Int.reduceLE, Int.reduceLT, Int.reduceEq, Int.reduceNe, di0, di1, di2, di3, di4, di5, di6, di7, di8, di9, postX_ret, postX_normal, ex_some]
    refine calls_of cp ?_; simp only [ruI, ssI, sbI, spI, swI, scI, stI, srI, saI, snI, res7, b7k5, b7k6, b7k7, b7k8, b7k9, ↓reduceIte, reduceCtorEq, Nat.reduceEqDiff, Nat.reduceAdd, Nat.reduceMul, Nat.reduceSub, Nat.reduceLeDiff, Nat.reduceBEq, Int.reduceToNat, Int.reduceLE, Int.reduceLT, Int.reduceEq, Int.reduceNe, di0, di1, di2, di3, di4, di5, di6, di7, di8, di9, postX_ret, postX_normal, ex_some]
    refine calls_of ci ?_; simp only [ruI, ssI, sbI, spI, swI, scI, stI, srI, saI, snI, res7, b7k5, b7k6, b7k7, b7k8, b7k9, ↓reduceIte, reduceCtorEq, Nat.reduceEqDiff, Nat.reduceAdd, Nat.reduceMul, Nat.reduceSub, Nat.reduceLeDiff, Nat.reduceBEq, Int.reduceToNat, Int.reduceLE, Int.reduceLT, Int.reduceEq, Int.reduceNe, di0, di1, di2, di3, di4, di5, di6, di7, di8, di9, postX_ret, postX_normal, ex_some]
    refine calls_of s3 ?_; simp only [ruI, ssI, sbI, spI, swI, scI, stI, srI, saI, snI, res7, b7k5, b7k6, b7k7, b7k8, b7k9, ↓reduceIte, reduceCtorEq, Nat.reduceEqDiff, Nat.reduceAdd, Nat.reduceMul, Nat.reduceSub, Nat.reduceLeDiff, Nat.reduceBEq, Int.reduceToNat, Int.reduceLE, Int.reduceLT, Int.reduceEq, Int.reduceNe, di0, di1, di2, di3, di4, di5, di6, di7, di8, di9, postX_ret, postX_normal, ex_some]
    refine calls_of r_RulesErr ?_; simp only [ruI, ssI, sbI, spI, swI, scI, stI, srI, saI, snI, res7, b7k5, b7k6, b7k7, b7k8, b7k9, ↓reduceIte, reduceCtorEq, Nat.reduceEqDiff, Nat.reduceAdd, Nat.reduceMul, Nat.reduceSub, Nat.reduceLeDiff, Nat.reduceBEq, Int.reduceToNat, Int.reduceLE, Int.reduceLT, Int.reduceEq, Int.reduceNe, di0, di1, di2, di3, di4, di5, di6, di7, di8, di9, postX_ret, postX_normal, ex_some]
    by_cases e1 : rulesErr r = 0
    · have e2 : planEr r p = planE p := by unfold planEr; rw [if_pos e1]
      rw [e2] at hE ⊢
      simp only [e1, ruI, ssI, sbI, spI, swI, scI, stI, srI, saI, snI, ↓reduceIte, reduceCtorEq, Nat.reduceEqDiff, Nat.reduceAdd, Nat.reduceMul, Nat.reduceSub, Nat.reduceLeDiff, Nat.reduceBEq, Int.reduceToNat, Int.reduceLE, Int.reduceLT, Int.reduceEq, Int.reduceNe, di0, di1, di2, di3, di4, di5, di6, di7, di8, di9, postX_ret, postX_normal, ex_some]
      refine calls_of rp ?_; simp only [ruI, ssI, sbI, spI, swI, scI, stI, srI, saI, snI, res7, b7k5, b7k6, b7k7, b7k8, b7k9, ↓reduceIte, reduceCtorEq, Nat.reduceEqDiff, Nat.reduceAdd, Nat.reduceMul, Nat.reduceSub, Nat.reduceLeDiff, Nat.reduceBEq, Int.reduceToNat, Int.reduceLE, Int.reduceLT, Int.reduceEq, Int.reduceNe, di0, di1, di2, di3, di4, di5, di6, di7, di8, di9, postX_ret, postX_normal, ex_some]
      simp only [hE, ruI, ssI, sbI, spI, swI, scI, stI, srI, saI, snI, ↓reduceIte, reduceCtorEq, Nat.reduceEqDiff, Nat.reduceAdd, Nat.reduceMul, Nat.reduceSub, Nat.reduceLeDiff, Nat.reduceBEq, Int.reduceToNat, Int.reduceLE, Int.reduceLT, Int.reduceEq, Int.reduceNe, di0, di1, di2, di3, di4, di5, di6, di7, di8, di9, postX_ret, postX_normal, ex_some]
      rfl
    · have e2 : planEr r p = (0, rulesErr r) := by unfold planEr; rw [if_neg e1]
      rw [e2] at hE ⊢
      simp only [e1, ruI, ssI, sbI, spI, swI, scI, stI, srI, saI, snI, ↓reduceIte, reduceCtorEq, Nat.reduceEqDiff, Nat.reduceAdd, Nat.reduceMul, Nat.reduceSub, Nat.reduceLeDiff, Nat.reduceBEq, Int.reduceToNat, Int.reduceLE, Int.reduceLT, Int.reduceEq, Int.reduceNe, di0, di1, di2, di3, di4, di5, di6, di7, di8, di9, postX_ret, postX_normal, ex_some]
      rfl
  obtain ⟨hr, hp⟩ := planEr_zero.1 hE
  have e0 : planEr r p = (0, 0) := by
    unfold planEr
    rw [if_pos (rules_ok.2 hr), planE_ok hp]
  rw [if_pos hE] at s2
  rw [planE_ok hp] at rp
  have hlo : loE r p o = orderE p o := by unfold loE fstE; rw [if_pos hE]
  rw [hlo] at s3
  have hoe := r_OrderErr (p := p) (o := o) hp
  have hor := r_Orders hp
  have hol := orders_length hp
  simp only [e0, ruI, ssI, sbI, spI, swI, scI, stI, srI, saI, snI, ↓reduceIte, reduceCtorEq, Nat.reduceEqDiff, Nat.reduceAdd, Nat.reduceMul, Nat.reduceSub, Nat.reduceLeDiff, Nat.reduceBEq, Int.reduceToNat, Int.reduceLE, Int.reduceLT, Int.reduceEq, Int.reduceNe, di0, di1, di2, di3, di4, di5, di6, di7, di8, di9, postX_ret, postX_normal, ex_some]
  refine calls_of s2 ?_; simp only [ruI, ssI, sbI, spI, swI, scI, stI, srI, saI, snI, res7, b7k5, b7k6, b7k7, b7k8, b7k9, ↓reduceIte, reduceCtorEq, Nat.reduceEqDiff, Nat.reduceAdd, Nat.reduceMul, Nat.reduceSub, Nat.reduceLeDiff, Nat.reduceBEq, Int.reduceToNat, Int.reduceLE, Int.reduceLT, Int.reduceEq, Int.reduceNe, di0, di1, di2, di3, di4, di5, di6, di7, di8, di9, postX_ret, postX_normal, ex_some]
  refine calls_of cp ?_; simp only [ruI, ssI, sbI, spI, swI, scI, stI, srI, saI, snI, res7, b7k5, b7k6, b7k7, b7k8, b7k9, ↓reduceIte, reduceCtorEq, Nat.reduceEqDiff, Nat.reduceAdd, Nat.reduceMul, Nat.reduceSub, Nat.reduceLeDiff, Nat.reduceBEq, Int.reduceToNat, Int.reduceLE, Int.reduceLT, Int.reduceEq, Int.reduceNe, di0, di1, di2, di3, di4, di5, di6, di7, di8, di9, postX_ret, postX_normal, ex_some]
  refine calls_of ci ?_; simp only [ruI, ssI, sbI, spI, swI, scI, stI, srI, saI, snI, res7, b7k5, b7k6, b7k7, b7k8, b7k9, ↓reduceIte, reduceCtorEq, Nat.reduceEqDiff, Nat.reduceAdd, Nat.reduceMul, Nat.reduceSub, Nat.reduceLeDiff, Nat.reduceBEq, Int.reduceToNat, Int.reduceLE, Int.reduceLT, Int.reduceEq, Int.reduceNe, di0, di1, di2, di3, di4, di5, di6, di7, di8, di9, postX_ret, postX_normal, ex_some]
  refine calls_of s3 ?_
  obtain ⟨X, hX, hX1, hX0⟩ : ∃ X : List Int, (if orderE p o = 0 then IV.tup [snI (loadsP p o), .int .i64 0] else .tup [snI [], .int .i64 (orderE p o)]) = IV.tup [snI X, .int .i64 (orderE p o)] ∧ (orderE p o = 0 → X = loadsP p o) ∧ (¬ orderE p o = 0 → X = []) := by
    by_cases h : orderE p o = 0
    · exact ⟨loadsP p o, by rw [if_pos h, h], fun _ => rfl, fun k => (k h).elim⟩
    · exact ⟨[], by rw [if_neg h], fun k => (h k).elim, fun _ => rfl⟩
  have lp := loop_SurgePlans hp (by omega) rfl hX1 hX0
  rw [hX]
  generalize orderE p o = E at lp
  have rr := r_RulesErr (r := r)
  rw [rules_ok.2 hr] at rr
  simp only [res7, b7k5, b7k6, b7k7, b7k8, b7k9, ruI, ssI, sbI, spI, swI, scI, stI, srI, saI, snI, ↓reduceIte, reduceCtorEq, Nat.reduceEqDiff, Nat.reduceAdd, Nat.reduceMul, Nat.reduceSub, Nat.reduceLeDiff, Nat.reduceBEq, Int.reduceToNat, Int.reduceLE, Int.reduceLT, Int.reduceEq, Int.reduceNe, di0, di1, di2, di3, di4, di5, di6, di7, di8, di9, postX_ret, postX_normal, ex_some]
  refine calls_of rr ?_; simp only [ruI, ssI, sbI, spI, swI, scI, stI, srI, saI, snI, res7, b7k5, b7k6, b7k7, b7k8, b7k9, ↓reduceIte, reduceCtorEq, Nat.reduceEqDiff, Nat.reduceAdd, Nat.reduceMul, Nat.reduceSub, Nat.reduceLeDiff, Nat.reduceBEq, Int.reduceToNat, Int.reduceLE, Int.reduceLT, Int.reduceEq, Int.reduceNe, di0, di1, di2, di3, di4, di5, di6, di7, di8, di9, postX_ret, postX_normal, ex_some]
  refine calls_of rp ?_; simp only [ruI, ssI, sbI, spI, swI, scI, stI, srI, saI, snI, res7, b7k5, b7k6, b7k7, b7k8, b7k9, ↓reduceIte, reduceCtorEq, Nat.reduceEqDiff, Nat.reduceAdd, Nat.reduceMul, Nat.reduceSub, Nat.reduceLeDiff, Nat.reduceBEq, Int.reduceToNat, Int.reduceLE, Int.reduceLT, Int.reduceEq, Int.reduceNe, di0, di1, di2, di3, di4, di5, di6, di7, di8, di9, postX_ret, postX_normal, ex_some]
  refine calls_of hor ?_; simp only [ruI, ssI, sbI, spI, swI, scI, stI, srI, saI, snI, res7, b7k5, b7k6, b7k7, b7k8, b7k9, ↓reduceIte, reduceCtorEq, Nat.reduceEqDiff, Nat.reduceAdd, Nat.reduceMul, Nat.reduceSub, Nat.reduceLeDiff, Nat.reduceBEq, Int.reduceToNat, Int.reduceLE, Int.reduceLT, Int.reduceEq, Int.reduceNe, di0, di1, di2, di3, di4, di5, di6, di7, di8, di9, postX_ret, postX_normal, ex_some]
  by_cases hz : (ordersP p).length = 0
  · rw [if_pos (by omega), if_neg (show ¬ 0 < (ordersP p).length by omega), if_pos (by omega)]
    exact lp
  · rw [if_neg (by omega), if_pos (show 0 < (ordersP p).length by omega), if_pos (by omega)]
    exact lp
end Go.DI

