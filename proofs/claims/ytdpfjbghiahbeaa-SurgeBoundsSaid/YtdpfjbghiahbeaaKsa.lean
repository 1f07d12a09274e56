/- The statement SurgeBounds, as a contract. No condition. -/
import Derived.Test.YtdpfjbghiahbeaaKsGp
set_option linter.unusedSimpArgs false
set_option maxRecDepth 20000
namespace Go.DI
open Go.Proofs Go.RowKit Sg

def ruC (r : Ru) : List DV := [.imm (.int .i64 r.I), .imm (.int .i64 r.A), .imm (.int .i64 r.lo), .imm (.int .i64 r.hi), .imm (.int .i64 r.T)]
def spC (p : Pl) : List DV := [.imm (.int .i64 p.load), .imm (snI p.ch), .imm (.int .i64 p.wait), .imm (.int .i64 p.ticks)]
def ccC (bs : List Bx) (v : Cv) : List DV := [.imm (.slc 4 (bs.map sbI)), .imm (.int .i64 v.b.ll), .imm (.int .i64 v.b.lh), .imm (.int .i64 v.b.fl), .imm (.int .i64 v.b.fh), .imm (.int .i64 v.parts), .imm (.int .i64 v.lo), .imm (.int .i64 v.hi)]
def bdR (r : Ru) (p : Pl) (bs : List Bx) (v : Cv) : List (Nat × Res) := [(3, .box (ruC r)), (4, .box (spC p)), (5, .box (ccC bs v))]

theorem bt1_SurgeBounds {r : Ru} {p : Pl} {bs : List Bx} {v : Cv} (hl : p.ch.length ≤ 6) :
    run Try.prog b11k1 [] (d11.post (.bool true)) (mkS [(3, .ref 3 0), (4, .ref 4 0), (5, .ref 5 0), (10, .imm (.int .i64 (waitE r p v)))] (bdR r p bs v)) := by
  have sw := s_ShortestWait (r := r) (p := p) (v := v) (by omega)
  have cp := r_CopyPlan (p := p) (by omega)
  simp only [b11k1, res11, b11k0, bdR, ruC, spC, ccC, ruI, ssI, sbI, spI, swI, scI, stI, srI, saI, snI, ↓reduceIte, reduceCtorEq, Nat.reduceEqDiff, Nat.reduceAdd, Nat.reduceMul, Nat.reduceSub, Nat.reduceLeDiff, Nat.reduceBEq, Int.reduceToNat, Int.reduceLE, Int.reduceLT, Int.reduceEq, Int.reduceNe, di0, di1, di2, di3, di4, di5, di6, di7, di8, di9, postX_ret, postX_normal, ex_some]
  refine calls_of cp ?_; simp only [ruI, ssI, sbI, spI, swI, scI, stI, srI, saI, snI, res11, b11k0, b11k1, b11k2, b11k3, b11k4, b11k5, b11k6, ↓reduceIte, reduceCtorEq, Nat.reduceEqDiff, Nat.reduceAdd, Nat.reduceMul, Nat.reduceSub, Nat.reduceLeDiff, Nat.reduceBEq, Int.reduceToNat, Int.reduceLE, Int.reduceLT, Int.reduceEq, Int.reduceNe, di0, di1, di2, di3, di4, di5, di6, di7, di8, di9, postX_ret, postX_normal, ex_some]
  by_cases h : waitE r p v = 0
  case neg =>
    rw [if_neg h] at sw
    refine calls_of sw ?_; simp only [ruI, ssI, sbI, spI, swI, scI, stI, srI, saI, snI, res11, b11k0, b11k1, b11k2, b11k3, b11k4, b11k5, b11k6, ↓reduceIte, reduceCtorEq, Nat.reduceEqDiff, Nat.reduceAdd, Nat.reduceMul, Nat.reduceSub, Nat.reduceLeDiff, Nat.reduceBEq, Int.reduceToNat, Int.reduceLE, Int.reduceLT, Int.reduceEq, Int.reduceNe, di0, di1, di2, di3, di4, di5, di6, di7, di8, di9, postX_ret, postX_normal, ex_some]
    simp only [h, ruI, ssI, sbI, spI, swI, scI, stI, srI, saI, snI, ↓reduceIte, reduceCtorEq, Nat.reduceEqDiff, Nat.reduceAdd, Nat.reduceMul, Nat.reduceSub, Nat.reduceLeDiff, Nat.reduceBEq, Int.reduceToNat, Int.reduceLE, Int.reduceLT, Int.reduceEq, Int.reduceNe, di0, di1, di2, di3, di4, di5, di6, di7, di8, di9, postX_ret, postX_normal, ex_some]
  rw [if_pos h] at sw
  refine calls_of sw ?_; simp only [ruI, ssI, sbI, spI, swI, scI, stI, srI, saI, snI, res11, b11k0, b11k1, b11k2, b11k3, b11k4, b11k5, b11k6, ↓reduceIte, reduceCtorEq, Nat.reduceEqDiff, Nat.reduceAdd, Nat.reduceMul, Nat.reduceSub, Nat.reduceLeDiff, Nat.reduceBEq, Int.reduceToNat, Int.reduceLE, Int.reduceLT, Int.reduceEq, Int.reduceNe, di0, di1, di2, di3, di4, di5, di6, di7, di8, di9, postX_ret, postX_normal, ex_some]
  simp only [h, ruI, ssI, sbI, spI, swI, scI, stI, srI, saI, snI, ↓reduceIte, reduceCtorEq, Nat.reduceEqDiff, Nat.reduceAdd, Nat.reduceMul, Nat.reduceSub, Nat.reduceLeDiff, Nat.reduceBEq, Int.reduceToNat, Int.reduceLE, Int.reduceLT, Int.reduceEq, Int.reduceNe, di0, di1, di2, di3, di4, di5, di6, di7, di8, di9, postX_ret, postX_normal, ex_some]
  unfold waitE at h
  rw [fstE_zero, planEr_zero] at h
  obtain ⟨⟨hr, hp⟩, hv⟩ := h
  have sh := r_Shortest hr hp hv
  refine calls_of sh ?_; simp only [ruI, ssI, sbI, spI, swI, scI, stI, srI, saI, snI, res11, b11k0, b11k1, b11k2, b11k3, b11k4, b11k5, b11k6, ↓reduceIte, reduceCtorEq, Nat.reduceEqDiff, Nat.reduceAdd, Nat.reduceMul, Nat.reduceSub, Nat.reduceLeDiff, Nat.reduceBEq, Int.reduceToNat, Int.reduceLE, Int.reduceLT, Int.reduceEq, Int.reduceNe, di0, di1, di2, di3, di4, di5, di6, di7, di8, di9, postX_ret, postX_normal, ex_some]
  cases shortP r p v with
  | none => simp only [optW, optE, Option.isSome, ruI, ssI, sbI, spI, swI, scI, stI, srI, saI, snI, ↓reduceIte, reduceCtorEq, Nat.reduceEqDiff, Nat.reduceAdd, Nat.reduceMul, Nat.reduceSub, Nat.reduceLeDiff, Nat.reduceBEq, Int.reduceToNat, Int.reduceLE, Int.reduceLT, Int.reduceEq, Int.reduceNe, di0, di1, di2, di3, di4, di5, di6, di7, di8, di9, postX_ret, postX_normal, ex_some]
  | some w => simp only [optW, optE, Option.isSome, ruI, ssI, sbI, spI, swI, scI, stI, srI, saI, snI, ↓reduceIte, reduceCtorEq, Nat.reduceEqDiff, Nat.reduceAdd, Nat.reduceMul, Nat.reduceSub, Nat.reduceLeDiff, Nat.reduceBEq, Int.reduceToNat, Int.reduceLE, Int.reduceLT, Int.reduceEq, Int.reduceNe, di0, di1, di2, di3, di4, di5, di6, di7, di8, di9, postX_ret, postX_normal, ex_some]

theorem bt2_SurgeBounds {r : Ru} {p : Pl} {bs : List Bx} {v : Cv} (hl : p.ch.length ≤ 6) :
    run Try.prog b11k2 [] (d11.post (.bool true)) (mkS [(3, .ref 3 0), (4, .ref 4 0), (5, .ref 5 0), (10, .imm (.int .i64 (waitE r p v)))] (bdR r p bs v)) := by
  have go := bt1_SurgeBounds (r := r) (p := p) (bs := bs) (v := v) hl
  simp only [bdR, ruC, spC, ccC] at go
  simp only [b11k2, res11, bdR, ruC, spC, ccC, ruI, ssI, sbI, spI, swI, scI, stI, srI, saI, snI, ↓reduceIte, reduceCtorEq, Nat.reduceEqDiff, Nat.reduceAdd, Nat.reduceMul, Nat.reduceSub, Nat.reduceLeDiff, Nat.reduceBEq, Int.reduceToNat, Int.reduceLE, Int.reduceLT, Int.reduceEq, Int.reduceNe, di0, di1, di2, di3, di4, di5, di6, di7, di8, di9, postX_ret, postX_normal, ex_some]
  by_cases h : waitE r p v = 0
  case neg =>
    simp only [h, ruI, ssI, sbI, spI, swI, scI, stI, srI, saI, snI, ↓reduceIte, reduceCtorEq, Nat.reduceEqDiff, Nat.reduceAdd, Nat.reduceMul, Nat.reduceSub, Nat.reduceLeDiff, Nat.reduceBEq, Int.reduceToNat, Int.reduceLE, Int.reduceLT, Int.reduceEq, Int.reduceNe, di0, di1, di2, di3, di4, di5, di6, di7, di8, di9, postX_ret, postX_normal, ex_some]
    exact go
  rw [h] at go
  simp only [h, ruI, ssI, sbI, spI, swI, scI, stI, srI, saI, snI, ↓reduceIte, reduceCtorEq, Nat.reduceEqDiff, Nat.reduceAdd, Nat.reduceMul, Nat.reduceSub, Nat.reduceLeDiff, Nat.reduceBEq, Int.reduceToNat, Int.reduceLE, Int.reduceLT, Int.reduceEq, Int.reduceNe, di0, di1, di2, di3, di4, di5, di6, di7, di8, di9, postX_ret, postX_normal, ex_some]
  by_cases h1 : 2 < v.parts
  · simp only [h1, ruI, ssI, sbI, spI, swI, scI, stI, srI, saI, snI, ↓reduceIte, reduceCtorEq, Nat.reduceEqDiff, Nat.reduceAdd, Nat.reduceMul, Nat.reduceSub, Nat.reduceLeDiff, Nat.reduceBEq, Int.reduceToNat, Int.reduceLE, Int.reduceLT, Int.reduceEq, Int.reduceNe, di0, di1, di2, di3, di4, di5, di6, di7, di8, di9, postX_ret, postX_normal, ex_some]
    rw [if_neg (fun k => k.1)]
    trivial
  simp only [h1, ruI, ssI, sbI, spI, swI, scI, stI, srI, saI, snI, ↓reduceIte, reduceCtorEq, Nat.reduceEqDiff, Nat.reduceAdd, Nat.reduceMul, Nat.reduceSub, Nat.reduceLeDiff, Nat.reduceBEq, Int.reduceToNat, Int.reduceLE, Int.reduceLT, Int.reduceEq, Int.reduceNe, di0, di1, di2, di3, di4, di5, di6, di7, di8, di9, postX_ret, postX_normal, ex_some]
  by_cases h2 : (2 : Int) < (p.ch.length : Int)
  · simp only [h2, ruI, ssI, sbI, spI, swI, scI, stI, srI, saI, snI, ↓reduceIte, reduceCtorEq, Nat.reduceEqDiff, Nat.reduceAdd, Nat.reduceMul, Nat.reduceSub, Nat.reduceLeDiff, Nat.reduceBEq, Int.reduceToNat, Int.reduceLE, Int.reduceLT, Int.reduceEq, Int.reduceNe, di0, di1, di2, di3, di4, di5, di6, di7, di8, di9, postX_ret, postX_normal, ex_some]
    rw [if_neg (fun k => k.1)]
    trivial
  simp only [h2, ruI, ssI, sbI, spI, swI, scI, stI, srI, saI, snI, ↓reduceIte, reduceCtorEq, Nat.reduceEqDiff, Nat.reduceAdd, Nat.reduceMul, Nat.reduceSub, Nat.reduceLeDiff, Nat.reduceBEq, Int.reduceToNat, Int.reduceLE, Int.reduceLT, Int.reduceEq, Int.reduceNe, di0, di1, di2, di3, di4, di5, di6, di7, di8, di9, postX_ret, postX_normal, ex_some]
  by_cases h3 : 12 < p.ticks
  · simp only [h3, ruI, ssI, sbI, spI, swI, scI, stI, srI, saI, snI, ↓reduceIte, reduceCtorEq, Nat.reduceEqDiff, Nat.reduceAdd, Nat.reduceMul, Nat.reduceSub, Nat.reduceLeDiff, Nat.reduceBEq, Int.reduceToNat, Int.reduceLE, Int.reduceLT, Int.reduceEq, Int.reduceNe, di0, di1, di2, di3, di4, di5, di6, di7, di8, di9, postX_ret, postX_normal, ex_some]
  simp only [h3, ruI, ssI, sbI, spI, swI, scI, stI, srI, saI, snI, ↓reduceIte, reduceCtorEq, Nat.reduceEqDiff, Nat.reduceAdd, Nat.reduceMul, Nat.reduceSub, Nat.reduceLeDiff, Nat.reduceBEq, Int.reduceToNat, Int.reduceLE, Int.reduceLT, Int.reduceEq, Int.reduceNe, di0, di1, di2, di3, di4, di5, di6, di7, di8, di9, postX_ret, postX_normal, ex_some]
  exact go

theorem bt3_SurgeBounds {r : Ru} {p : Pl} {bs : List Bx} {v : Cv} (hl : p.ch.length ≤ 6) :
    run Try.prog b11k3 [] (d11.post (.bool true)) (mkS [(3, .ref 3 0), (4, .ref 4 0), (5, .ref 5 0), (10, .imm (.int .i64 (planEr r p).2))] (bdR r p bs v)) := by
  have go := bt2_SurgeBounds (r := r) (p := p) (bs := bs) (v := v) hl
  have rc := r_CoverErr (v := v)
  simp only [bdR, ruC, spC, ccC] at go
  simp only [b11k3, res11, bdR, ruC, spC, ccC, ruI, ssI, sbI, spI, swI, scI, stI, srI, saI, snI, ↓reduceIte, reduceCtorEq, Nat.reduceEqDiff, Nat.reduceAdd, Nat.reduceMul, Nat.reduceSub, Nat.reduceLeDiff, Nat.reduceBEq, Int.reduceToNat, Int.reduceLE, Int.reduceLT, Int.reduceEq, Int.reduceNe, di0, di1, di2, di3, di4, di5, di6, di7, di8, di9, postX_ret, postX_normal, ex_some]
  by_cases h : (planEr r p).2 = 0
  · have e : waitE r p v = coverE v := by unfold waitE fstE; rw [if_pos h]
    rw [e] at go
    simp only [h, ruI, ssI, sbI, spI, swI, scI, stI, srI, saI, snI, ↓reduceIte, reduceCtorEq, Nat.reduceEqDiff, Nat.reduceAdd, Nat.reduceMul, Nat.reduceSub, Nat.reduceLeDiff, Nat.reduceBEq, Int.reduceToNat, Int.reduceLE, Int.reduceLT, Int.reduceEq, Int.reduceNe, di0, di1, di2, di3, di4, di5, di6, di7, di8, di9, postX_ret, postX_normal, ex_some]
    refine calls_of rc ?_; simp only [ruI, ssI, sbI, spI, swI, scI, stI, srI, saI, snI, res11, b11k3, b11k4, b11k5, b11k6, ↓reduceIte, reduceCtorEq, Nat.reduceEqDiff, Nat.reduceAdd, Nat.reduceMul, Nat.reduceSub, Nat.reduceLeDiff, Nat.reduceBEq, Int.reduceToNat, Int.reduceLE, Int.reduceLT, Int.reduceEq, Int.reduceNe, di0, di1, di2, di3, di4, di5, di6, di7, di8, di9, postX_ret, postX_normal, ex_some]
    exact go
  · have e : waitE r p v = (planEr r p).2 := by unfold waitE fstE; rw [if_neg h]
    rw [e] at go
    simp only [h, ruI, ssI, sbI, spI, swI, scI, stI, srI, saI, snI, ↓reduceIte, reduceCtorEq, Nat.reduceEqDiff, Nat.reduceAdd, Nat.reduceMul, Nat.reduceSub, Nat.reduceLeDiff, Nat.reduceBEq, Int.reduceToNat, Int.reduceLE, Int.reduceLT, Int.reduceEq, Int.reduceNe, di0, di1, di2, di3, di4, di5, di6, di7, di8, di9, postX_ret, postX_normal, ex_some]
    exact go

theorem bt4_SurgeBounds {r : Ru} {p : Pl} {bs : List Bx} {v : Cv} {S1 S2 E : Int} (hl : p.ch.length ≤ 6) (hn : bs.length ≤ 66)
    (h1 : boundE r p bs = 0 → (S1 = (boundP r p bs).2.1 ∧ S2 = (boundP r p bs).2.2) ∧ E = if (boundP r p bs).1 = true then 0 else 12) (h0 : ¬ boundE r p bs = 0 → (S1 = 0 ∧ S2 = 0) ∧ E = boundE r p bs) :
    run Try.prog b11k4 [] (d11.post (.bool true)) (mkS [(3, .ref 3 0), (4, .ref 4 0), (5, .ref 5 0), (7, .ref 7 0), (8, .imm (.int .i64 E)), (9, .imm (.int .i64 (boundE r p bs))), (10, .imm (.int .i64 (planEr r p).2))]
      (bdR r p bs v ++ [(7, .box [.imm (.int .i64 S1), .imm (.int .i64 S2)])])) := by
  have go := bt3_SurgeBounds (r := r) (p := p) (bs := bs) (v := v) hl
  simp only [bdR, ruC, spC, ccC] at go
  simp only [b11k4, res11, bdR, ruC, spC, ccC, List.cons_append, List.nil_append, ruI, ssI, sbI, spI, swI, scI, stI, srI, saI, snI, ↓reduceIte, reduceCtorEq, Nat.reduceEqDiff, Nat.reduceAdd, Nat.reduceMul, Nat.reduceSub, Nat.reduceLeDiff, Nat.reduceBEq, Int.reduceToNat, Int.reduceLE, Int.reduceLT, Int.reduceEq, Int.reduceNe, di0, di1, di2, di3, di4, di5, di6, di7, di8, di9, postX_ret, postX_normal, ex_some]
  by_cases h : boundE r p bs = 0
  case neg =>
    obtain ⟨⟨rfl, rfl⟩, rfl⟩ := h0 h
    simp only [h, ruI, ssI, sbI, spI, swI, scI, stI, srI, saI, snI, ↓reduceIte, reduceCtorEq, Nat.reduceEqDiff, Nat.reduceAdd, Nat.reduceMul, Nat.reduceSub, Nat.reduceLeDiff, Nat.reduceBEq, Int.reduceToNat, Int.reduceLE, Int.reduceLT, Int.reduceEq, Int.reduceNe, di0, di1, di2, di3, di4, di5, di6, di7, di8, di9, postX_ret, postX_normal, ex_some]
    exact go
  obtain ⟨⟨rfl, rfl⟩, rfl⟩ := h1 h
  simp only [h, ruI, ssI, sbI, spI, swI, scI, stI, srI, saI, snI, ↓reduceIte, reduceCtorEq, Nat.reduceEqDiff, Nat.reduceAdd, Nat.reduceMul, Nat.reduceSub, Nat.reduceLeDiff, Nat.reduceBEq, Int.reduceToNat, Int.reduceLE, Int.reduceLT, Int.reduceEq, Int.reduceNe, di0, di1, di2, di3, di4, di5, di6, di7, di8, di9, postX_ret, postX_normal, ex_some]
  unfold boundE at h
  rw [fstE_zero, planEr_zero] at h
  obtain ⟨⟨hr, hp⟩, hb⟩ := h
  unfold boxesE at hb
  rw [fstE_zero, scanB_zero] at hb
  have rb := r_Bound (r := r) (p := p) (bs := bs) hr hp (by omega) hb.2
  refine calls_of rb ?_; simp only [ruI, ssI, sbI, spI, swI, scI, stI, srI, saI, snI, res11, b11k4, b11k5, b11k6, ↓reduceIte, reduceCtorEq, Nat.reduceEqDiff, Nat.reduceAdd, Nat.reduceMul, Nat.reduceSub, Nat.reduceLeDiff, Nat.reduceBEq, Int.reduceToNat, Int.reduceLE, Int.reduceLT, Int.reduceEq, Int.reduceNe, di0, di1, di2, di3, di4, di5, di6, di7, di8, di9, postX_ret, postX_normal, ex_some]
  cases hf : (boundP r p bs).1
  · rw [bound_none hf]
    simp only [ruI, ssI, sbI, spI, swI, scI, stI, srI, saI, snI, ↓reduceIte, reduceCtorEq, Nat.reduceEqDiff, Nat.reduceAdd, Nat.reduceMul, Nat.reduceSub, Nat.reduceLeDiff, Nat.reduceBEq, Int.reduceToNat, Int.reduceLE, Int.reduceLT, Int.reduceEq, Int.reduceNe, di0, di1, di2, di3, di4, di5, di6, di7, di8, di9, postX_ret, postX_normal, ex_some]
    exact go
  · simp only [ruI, ssI, sbI, spI, swI, scI, stI, srI, saI, snI, ↓reduceIte, reduceCtorEq, Nat.reduceEqDiff, Nat.reduceAdd, Nat.reduceMul, Nat.reduceSub, Nat.reduceLeDiff, Nat.reduceBEq, Int.reduceToNat, Int.reduceLE, Int.reduceLT, Int.reduceEq, Int.reduceNe, di0, di1, di2, di3, di4, di5, di6, di7, di8, di9, postX_ret, postX_normal, ex_some]
    exact go

theorem l_SurgeBounds {r : Ru} {p : Pl} {bs : List Bx} {v : Cv} : Contract Try.prog 11 [ruI r, spI p, .agg [.slc 4 (bs.map sbI), .int .i64 v.b.ll, .int .i64 v.b.lh, .int .i64 v.b.fl, .int .i64 v.b.fh, .int .i64 v.parts, .int .i64 v.lo, .int .i64 v.hi]] (.bool true) := by
  refine contract_run Try.func11 k11 rfl ?_
  simp only [body11, b11, res11, b11k5, b11k6, ruI, ssI, sbI, spI, swI, scI, stI, srI, saI, snI, ↓reduceIte, reduceCtorEq, Nat.reduceEqDiff, Nat.reduceAdd, Nat.reduceMul, Nat.reduceSub, Nat.reduceLeDiff, Nat.reduceBEq, Int.reduceToNat, Int.reduceLE, Int.reduceLT, Int.reduceEq, Int.reduceNe, di0, di1, di2, di3, di4, di5, di6, di7, di8, di9, postX_ret, postX_normal, ex_some]
  refine calls_of s_awake ?_; simp only [ruI, ssI, sbI, spI, swI, scI, stI, srI, saI, snI, res11, b11k5, b11k6, ↓reduceIte, reduceCtorEq, Nat.reduceEqDiff, Nat.reduceAdd, Nat.reduceMul, Nat.reduceSub, Nat.reduceLeDiff, Nat.reduceBEq, Int.reduceToNat, Int.reduceLE, Int.reduceLT, Int.reduceEq, Int.reduceNe, di0, di1, di2, di3, di4, di5, di6, di7, di8, di9, postX_ret, postX_normal, ex_some]
  refine calls_of l_Few ?_; simp only [ruI, ssI, sbI, spI, swI, scI, stI, srI, saI, snI, res11, b11k5, b11k6, ↓reduceIte, reduceCtorEq, Nat.reduceEqDiff, Nat.reduceAdd, Nat.reduceMul, Nat.reduceSub, Nat.reduceLeDiff, Nat.reduceBEq, Int.reduceToNat, Int.reduceLE, Int.reduceLT, Int.reduceEq, Int.reduceNe, di0, di1, di2, di3, di4, di5, di6, di7, di8, di9, postX_ret, postX_normal, ex_some]
  by_cases hf : FewP p
  case neg => simp only [hf, ruI, ssI, sbI, spI, swI, scI, stI, srI, saI, snI, ↓reduceIte, reduceCtorEq, Nat.reduceEqDiff, Nat.reduceAdd, Nat.reduceMul, Nat.reduceSub, Nat.reduceLeDiff, Nat.reduceBEq, Int.reduceToNat, Int.reduceLE, Int.reduceLT, Int.reduceEq, Int.reduceNe, di0, di1, di2, di3, di4, di5, di6, di7, di8, di9, postX_ret, postX_normal, ex_some]
  simp only [hf, ruI, ssI, sbI, spI, swI, scI, stI, srI, saI, snI, ↓reduceIte, reduceCtorEq, Nat.reduceEqDiff, Nat.reduceAdd, Nat.reduceMul, Nat.reduceSub, Nat.reduceLeDiff, Nat.reduceBEq, Int.reduceToNat, Int.reduceLE, Int.reduceLT, Int.reduceEq, Int.reduceNe, di0, di1, di2, di3, di4, di5, di6, di7, di8, di9, postX_ret, postX_normal, ex_some]
  have lf := l_few (ss := []) (w := wZ) (bs := bs)
  simp only [clI, wZ, List.map_nil] at lf
  refine calls_of lf ?_; simp only [ruI, ssI, sbI, spI, swI, scI, stI, srI, saI, snI, res11, b11k5, b11k6, ↓reduceIte, reduceCtorEq, Nat.reduceEqDiff, Nat.reduceAdd, Nat.reduceMul, Nat.reduceSub, Nat.reduceLeDiff, Nat.reduceBEq, Int.reduceToNat, Int.reduceLE, Int.reduceLT, Int.reduceEq, Int.reduceNe, di0, di1, di2, di3, di4, di5, di6, di7, di8, di9, postX_ret, postX_normal, ex_some]
  by_cases hc : fewC [] ⟨[], ⟨0, 0⟩, 0, 0⟩ bs
  case neg => simp only [hc, ruI, ssI, sbI, spI, swI, scI, stI, srI, saI, snI, ↓reduceIte, reduceCtorEq, Nat.reduceEqDiff, Nat.reduceAdd, Nat.reduceMul, Nat.reduceSub, Nat.reduceLeDiff, Nat.reduceBEq, Int.reduceToNat, Int.reduceLE, Int.reduceLT, Int.reduceEq, Int.reduceNe, di0, di1, di2, di3, di4, di5, di6, di7, di8, di9, postX_ret, postX_normal, ex_some]
  simp only [hc, ruI, ssI, sbI, spI, swI, scI, stI, srI, saI, snI, ↓reduceIte, reduceCtorEq, Nat.reduceEqDiff, Nat.reduceAdd, Nat.reduceMul, Nat.reduceSub, Nat.reduceLeDiff, Nat.reduceBEq, Int.reduceToNat, Int.reduceLE, Int.reduceLT, Int.reduceEq, Int.reduceNe, di0, di1, di2, di3, di4, di5, di6, di7, di8, di9, postX_ret, postX_normal, ex_some]
  have hbl : bs.length ≤ 66 := by have := hc.2.2; omega
  have hpl : p.ch.length ≤ 6 := hf.1
  have cp := r_CopyPlan (p := p) (by omega)
  have cb := r_CopyBoxes (l := bs) (by omega)
  have s1 := s_BoundOf (r := r) (p := p) (bs := bs) (by omega) (by omega)
  have rp := r_PlanErr (r := r) (p := p) (by omega)
  have rb := r_BoxesErr (bs := bs) (by omega)
  obtain ⟨S1, S2, E, hS, hS1, hS0⟩ : ∃ (S1 S2 E : Int), (if boundE r p bs = 0 then IV.tup [stI (boundP r p bs).2.1 (boundP r p bs).2.2, .int .i64 (if (boundP r p bs).1 = true then 0 else 12)] else .tup [stI 0 0, .int .i64 (boundE r p bs)]) = .tup [stI S1 S2, .int .i64 E] ∧ (boundE r p bs = 0 → (S1 = (boundP r p bs).2.1 ∧ S2 = (boundP r p bs).2.2) ∧ E = if (boundP r p bs).1 = true then 0 else 12) ∧ (¬ boundE r p bs = 0 → (S1 = 0 ∧ S2 = 0) ∧ E = boundE r p bs) := by
    by_cases h : boundE r p bs = 0
    · exact ⟨_, _, _, if_pos h, fun _ => ⟨⟨rfl, rfl⟩, rfl⟩, fun k => (k h).elim⟩
    · exact ⟨_, _, _, if_neg h, fun k => (h k).elim, fun _ => ⟨⟨rfl, rfl⟩, rfl⟩⟩
  rw [hS] at s1
  have go := bt4_SurgeBounds (v := v) hpl hbl hS1 hS0
  simp only [bdR, ruC, spC, ccC, List.cons_append, List.nil_append] at go
  refine calls_of cp ?_; simp only [ruI, ssI, sbI, spI, swI, scI, stI, srI, saI, snI, res11, b11k5, b11k6, ↓reduceIte, reduceCtorEq, Nat.reduceEqDiff, Nat.reduceAdd, Nat.reduceMul, Nat.reduceSub, Nat.reduceLeDiff, Nat.reduceBEq, Int.reduceToNat, Int.reduceLE, Int.reduceLT, Int.reduceEq, Int.reduceNe, di0, di1, di2, di3, di4, di5, di6, di7, di8, di9, postX_ret, postX_normal, ex_some]
  refine calls_of cb ?_; simp only [ruI, ssI, sbI, spI, swI, scI, stI, srI, saI, snI, res11, b11k5, b11k6, ↓reduceIte, reduceCtorEq, Nat.reduceEqDiff, Nat.reduceAdd, Nat.reduceMul, Nat.reduceSub, Nat.reduceLeDiff, Nat.reduceBEq, Int.reduceToNat, Int.reduceLE, Int.reduceLT, Int.reduceEq, Int.reduceNe, di0, di1, di2, di3, di4, di5, di6, di7, di8, di9, postX_ret, postX_normal, ex_some]
  refine calls_of s1 ?_; simp only [ruI, ssI, sbI, spI, swI, scI, stI, srI, saI, snI, res11, b11k5, b11k6, ↓reduceIte, reduceCtorEq, Nat.reduceEqDiff, Nat.reduceAdd, Nat.reduceMul, Nat.reduceSub, Nat.reduceLeDiff, Nat.reduceBEq, Int.reduceToNat, Int.reduceLE, Int.reduceLT, Int.reduceEq, Int.reduceNe, di0, di1, di2, di3, di4, di5, di6, di7, di8, di9, postX_ret, postX_normal, ex_some]
  refine calls_of rp ?_; simp only [ruI, ssI, sbI, spI, swI, scI, stI, srI, saI, snI, res11, b11k5, b11k6, ↓reduceIte, reduceCtorEq, Nat.reduceEqDiff, Nat.reduceAdd, Nat.reduceMul, Nat.reduceSub, Nat.reduceLeDiff, Nat.reduceBEq, Int.reduceToNat, Int.reduceLE, Int.reduceLT, Int.reduceEq, Int.reduceNe, di0, di1, di2, di3, di4, di5, di6, di7, di8, di9, postX_ret, postX_normal, ex_some]
  by_cases h : (planEr r p).2 = 0
  · have e : boundE r p bs = boxesE bs := by unfold boundE fstE; rw [if_pos h]
    rw [e] at go
    simp only [h, ruI, ssI, sbI, spI, swI, scI, stI, srI, saI, snI, ↓reduceIte, reduceCtorEq, Nat.reduceEqDiff, Nat.reduceAdd, Nat.reduceMul, Nat.reduceSub, Nat.reduceLeDiff, Nat.reduceBEq, Int.reduceToNat, Int.reduceLE, Int.reduceLT, Int.reduceEq, Int.reduceNe, di0, di1, di2, di3, di4, di5, di6, di7, di8, di9, postX_ret, postX_normal, ex_some]
    refine calls_of rb ?_; simp only [ruI, ssI, sbI, spI, swI, scI, stI, srI, saI, snI, res11, b11k5, b11k6, ↓reduceIte, reduceCtorEq, Nat.reduceEqDiff, Nat.reduceAdd, Nat.reduceMul, Nat.reduceSub, Nat.reduceLeDiff, Nat.reduceBEq, Int.reduceToNat, Int.reduceLE, Int.reduceLT, Int.reduceEq, Int.reduceNe, di0, di1, di2, di3, di4, di5, di6, di7, di8, di9, postX_ret, postX_normal, ex_some]
    rw [h] at go
    exact go
  · have e : boundE r p bs = (planEr r p).2 := by unfold boundE fstE; rw [if_neg h]
    rw [e] at go
    simp only [h, ruI, ssI, sbI, spI, swI, scI, stI, srI, saI, snI, ↓reduceIte, reduceCtorEq, Nat.reduceEqDiff, Nat.reduceAdd, Nat.reduceMul, Nat.reduceSub, Nat.reduceLeDiff, Nat.reduceBEq, Int.reduceToNat, Int.reduceLE, Int.reduceLT, Int.reduceEq, Int.reduceNe, di0, di1, di2, di3, di4, di5, di6, di7, di8, di9, postX_ret, postX_normal, ex_some]
    exact go
end Go.DI

