/- Contracts of the reference: limits. No condition. -/
import Derived.Test.YtnkdmcalkgecfaaGreatPeGn
/- Contracts: the reference's limits. No condition. -/
set_option linter.unusedSimpArgs false
namespace Go.DI
open Go.Proofs Go.RowKit Lk

theorem c_RatioNeg {p : Rat} : Contract Tryz.prog 100 [ratio p] (ratio (-p)) := by
  refine contract_run Tryz.func100 k100 rfl ?_
  simp only [ratio, body100, b100, res100, ↓reduceIte, reduceCtorEq, Nat.reduceEqDiff, Nat.reduceAdd, Nat.reduceMul, Nat.reduceSub, Nat.reduceLeDiff, Nat.reduceBEq, Int.reduceToNat, Int.reduceLE, Int.reduceLT, Int.reduceEq, Int.reduceNe, di]
  repeat (refine And.intro (by omega) ?_)
  refine calls_of (c_WideNeg (z := p.num)) ?_; simp only [wide, ratio, res100, ↓reduceIte, reduceCtorEq, Nat.reduceEqDiff, Nat.reduceAdd, Nat.reduceMul, Nat.reduceSub, Nat.reduceLeDiff, Nat.reduceBEq, Int.reduceToNat, Int.reduceLE, Int.reduceLT, Int.reduceEq, Int.reduceNe, di]
  rfl
theorem fw_neg {k : Nat} {q : Rat} (h : Fw k q) : Fw k (-q) := by
  unfold Fw at *
  rw [show (-q).num = -q.num from rfl, show (-q).den = q.den from rfl, Int.natAbs_neg]
  exact h
theorem c_RatioSub {p q : Rat} {i j : Nat} (hp : Fw i p) (hq : Fw j q) (h : i + j ≤ 90000) : Contract Tryz.prog 73 [ratio p, ratio q] (ratio (p - q)) := by
  have hc := c_RatioAdd hp (fw_neg hq) h
  rw [← Rat.sub_eq_add_neg] at hc
  refine contract_run Tryz.func73 k73 rfl ?_
  simp only [ratio, body73, b73, res73, ↓reduceIte, reduceCtorEq, Nat.reduceEqDiff, Nat.reduceAdd, Nat.reduceMul, Nat.reduceSub, Nat.reduceLeDiff, Nat.reduceBEq, Int.reduceToNat, Int.reduceLE, Int.reduceLT, Int.reduceEq, Int.reduceNe, di]
  refine calls_of (c_RatioNeg (p := q)) ?_; simp only [wide, ratio, res73, ↓reduceIte, reduceCtorEq, Nat.reduceEqDiff, Nat.reduceAdd, Nat.reduceMul, Nat.reduceSub, Nat.reduceLeDiff, Nat.reduceBEq, Int.reduceToNat, Int.reduceLE, Int.reduceLT, Int.reduceEq, Int.reduceNe, di]
  refine calls_of hc ?_; simp only [wide, ratio, res73, ↓reduceIte, reduceCtorEq, Nat.reduceEqDiff, Nat.reduceAdd, Nat.reduceMul, Nat.reduceSub, Nat.reduceLeDiff, Nat.reduceBEq, Int.reduceToNat, Int.reduceLE, Int.reduceLT, Int.reduceEq, Int.reduceNe, di]

theorem fw_sub {p q : Rat} {i j : Nat} (hp : Fw i p) (hq : Fw j q) : Fw (i + j + 1) (p - q) := by
  have hq' := fw_neg hq
  rw [Rat.sub_eq_add_neg]
  generalize -q = r at *
  have k1 : (p.num * r.den).natAbs < 1000000000 ^ (i + j) := by rw [Int.natAbs_mul]; exact pow_mul_lt hp.1 hq'.2
  have k2 : (r.num * p.den).natAbs < 1000000000 ^ (i + j) := by rw [Int.natAbs_mul, Nat.add_comm i j]; exact pow_mul_lt hq'.1 hp.2
  have k3 : ((p.den : Int) * r.den).natAbs < 1000000000 ^ (i + j) := by rw [Int.natAbs_mul]; exact pow_mul_lt hp.2 hq'.2
  have d1 := den_pos p
  have d2 := den_pos r
  have hne : (p.den : Int) * r.den ≠ 0 := Int.ne_of_gt (Int.mul_pos d1 d2)
  rw [← add_parts]
  refine fw_divInt ?_ ?_ hne
  · rw [Nat.pow_succ]; omega
  · rw [Nat.pow_succ]; omega

theorem fw_lvl {l : List Kn} {v : Int} (h : Valid l) (hv : isV l v) : Fw 2 (lvl l v) := by
  obtain ⟨i, hi, i1, i2, i3, i4, i5⟩ := at_volume h hv
  have ra := h.range i2
  have rb := h.range (i := i - 1) (by omega)
  have dp := dh_pos h i1 i2
  have dq := dv_pos h i1 i2
  have m1 := mul_bd (x := (kn l (i - 1)).1) (y := dv l i) (by omega) (by omega) (by omega) (by omega)
  have b1 : 0 ≤ (kn l (i - 1)).1 * dv l i ∧ (kn l (i - 1)).1 * dv l i ≤ 1000000 * 1000000000 := ⟨Int.mul_nonneg (by omega) (by omega), Int.mul_le_mul (by omega) (by omega) (by omega) (by omega)⟩
  have b2 : 0 ≤ (v - (kn l (i - 1)).2) * dh l i ∧ (v - (kn l (i - 1)).2) * dh l i ≤ 1000000000 * 1000000 := ⟨Int.mul_nonneg (by omega) (by omega), Int.mul_le_mul (by omega) (by omega) (by omega) (by omega)⟩
  unfold lvl
  rw [hi]
  exact fw_divInt (by omega) (by omega) (by omega)

theorem r_lvl {l : List Kn} {v : Int} (h : Valid l) (hv : isV l v) : Contract Tryz.prog 69 [tabI l, .int .i64 v] (ratio (lvl l v)) := r_Level h hv rfl

theorem r_volumeOf {s : Sta} {k : Nat} : Contract Tryz.prog 70 [stI s, .int .i64 k] (.int .i64 (if k = 0 then s.1 else s.2)) := by
  refine contract_run Tryz.func70 k70 rfl ?_
  simp only [body70, b70, res70, b70k0, limI, limsI, tskI, hgtI, lkE, ↓reduceIte, reduceCtorEq, Nat.reduceEqDiff, Nat.reduceAdd, Nat.reduceMul, Nat.reduceSub, Nat.reduceLeDiff, Nat.reduceBEq, Int.reduceToNat, Int.reduceLE, Int.reduceLT, Int.reduceEq, Int.reduceNe, di]
  split
  · rename_i h; rw [if_pos (by omega)]
  · rename_i h; rw [if_neg (by omega)]
theorem r_tableOf {p : Pair} {k : Nat} : Contract Tryz.prog 67 [lpI p, .int .i64 k] (tabI (if k = 0 then p.u else p.l)) := by
  refine contract_run Tryz.func67 k67 rfl ?_
  simp only [body67, b67, res67, b67k0, limI, limsI, tskI, hgtI, lkE, ↓reduceIte, reduceCtorEq, Nat.reduceEqDiff, Nat.reduceAdd, Nat.reduceMul, Nat.reduceSub, Nat.reduceLeDiff, Nat.reduceBEq, Int.reduceToNat, Int.reduceLE, Int.reduceLT, Int.reduceEq, Int.reduceNe, di]
  repeat (refine And.intro (by omega) ?_)
  split
  · rename_i h; rw [if_pos (by omega)]
  · rename_i h; rw [if_neg (by omega)]
theorem r_limitOf {L : Lims} {k : Nat} : Contract Tryz.prog 68 [limsI L, .int .i64 k] (limI (if k = 0 then L.u else L.l)) := by
  refine contract_run Tryz.func68 k68 rfl ?_
  simp only [body68, b68, res68, b68k0, limI, limsI, tskI, hgtI, lkE, ↓reduceIte, reduceCtorEq, Nat.reduceEqDiff, Nat.reduceAdd, Nat.reduceMul, Nat.reduceSub, Nat.reduceLeDiff, Nat.reduceBEq, Int.reduceToNat, Int.reduceLE, Int.reduceLT, Int.reduceEq, Int.reduceNe, di]
  repeat (refine And.intro (by omega) ?_)
  split
  · rename_i h; rw [if_pos (by omega)]
  · rename_i h; rw [if_neg (by omega)]

theorem r_limitErr {l : List Kn} {x : Lim} (h : Valid l) : Contract Tryz.prog 35 [tabI l, limI x] (.int .i64 (limErr l x)) := by
  have hz := valid_len h
  have bad : ¬ limOk l x → limErr l x = 2 := fun k => by unfold limErr; rw [if_neg k]
  refine contract_run Tryz.func35 k35 rfl ?_
  simp only [body35, b35, res35, b35k0, b35k1, limI, limsI, tskI, hgtI, lkE, ↓reduceIte, reduceCtorEq, Nat.reduceEqDiff, Nat.reduceAdd, Nat.reduceMul, Nat.reduceSub, Nat.reduceLeDiff, Nat.reduceBEq, Int.reduceToNat, Int.reduceLE, Int.reduceLT, Int.reduceEq, Int.reduceNe, di]
  refine calls_of (r_IsLevel hz.1 hz.2) ?_; simp only [limI, limsI, tskI, hgtI, res35, b35k0, b35k1, lkE, ↓reduceIte, reduceCtorEq, Nat.reduceEqDiff, Nat.reduceAdd, Nat.reduceMul, Nat.reduceSub, Nat.reduceLeDiff, Nat.reduceBEq, Int.reduceToNat, Int.reduceLE, Int.reduceLT, Int.reduceEq, Int.reduceNe, di]
  by_cases c1 : isL l x.lo
  case neg => rw [bad (fun k => c1 k.1)]; simp only [c1, res35, b35k0, b35k1, limI, limsI, tskI, hgtI, lkE, ↓reduceIte, reduceCtorEq, Nat.reduceEqDiff, Nat.reduceAdd, Nat.reduceMul, Nat.reduceSub, Nat.reduceLeDiff, Nat.reduceBEq, Int.reduceToNat, Int.reduceLE, Int.reduceLT, Int.reduceEq, Int.reduceNe, di]
  simp only [c1, res35, b35k0, b35k1, limI, limsI, tskI, hgtI, lkE, ↓reduceIte, reduceCtorEq, Nat.reduceEqDiff, Nat.reduceAdd, Nat.reduceMul, Nat.reduceSub, Nat.reduceLeDiff, Nat.reduceBEq, Int.reduceToNat, Int.reduceLE, Int.reduceLT, Int.reduceEq, Int.reduceNe, di]
  refine calls_of (r_IsLevel hz.1 hz.2) ?_; simp only [limI, limsI, tskI, hgtI, res35, b35k0, b35k1, lkE, ↓reduceIte, reduceCtorEq, Nat.reduceEqDiff, Nat.reduceAdd, Nat.reduceMul, Nat.reduceSub, Nat.reduceLeDiff, Nat.reduceBEq, Int.reduceToNat, Int.reduceLE, Int.reduceLT, Int.reduceEq, Int.reduceNe, di]
  by_cases c2 : isL l x.hi
  case neg => rw [bad (fun k => c2 k.2.1)]; simp only [c2, res35, b35k0, b35k1, limI, limsI, tskI, hgtI, lkE, ↓reduceIte, reduceCtorEq, Nat.reduceEqDiff, Nat.reduceAdd, Nat.reduceMul, Nat.reduceSub, Nat.reduceLeDiff, Nat.reduceBEq, Int.reduceToNat, Int.reduceLE, Int.reduceLT, Int.reduceEq, Int.reduceNe, di]
  simp only [c2, res35, b35k0, b35k1, limI, limsI, tskI, hgtI, lkE, ↓reduceIte, reduceCtorEq, Nat.reduceEqDiff, Nat.reduceAdd, Nat.reduceMul, Nat.reduceSub, Nat.reduceLeDiff, Nat.reduceBEq, Int.reduceToNat, Int.reduceLE, Int.reduceLT, Int.reduceEq, Int.reduceNe, di]
  refine calls_of c_Within ?_; simp only [limI, limsI, tskI, hgtI, res35, b35k0, b35k1, lkE, ↓reduceIte, reduceCtorEq, Nat.reduceEqDiff, Nat.reduceAdd, Nat.reduceMul, Nat.reduceSub, Nat.reduceLeDiff, Nat.reduceBEq, Int.reduceToNat, Int.reduceLE, Int.reduceLT, Int.reduceEq, Int.reduceNe, di]
  by_cases c3 : Wi x.fall 0 1000000
  case neg => rw [bad (fun k => c3 k.2.2.1)]; unfold Wi at c3; simp only [c3, res35, b35k0, b35k1, limI, limsI, tskI, hgtI, lkE, ↓reduceIte, reduceCtorEq, Nat.reduceEqDiff, Nat.reduceAdd, Nat.reduceMul, Nat.reduceSub, Nat.reduceLeDiff, Nat.reduceBEq, Int.reduceToNat, Int.reduceLE, Int.reduceLT, Int.reduceEq, Int.reduceNe, di]
  have c3' := c3
  unfold Wi at c3'
  simp only [c3', res35, b35k0, b35k1, limI, limsI, tskI, hgtI, lkE, ↓reduceIte, reduceCtorEq, Nat.reduceEqDiff, Nat.reduceAdd, Nat.reduceMul, Nat.reduceSub, Nat.reduceLeDiff, Nat.reduceBEq, Int.reduceToNat, Int.reduceLE, Int.reduceLT, Int.reduceEq, Int.reduceNe, di]
  refine calls_of c_Within ?_; simp only [limI, limsI, tskI, hgtI, res35, b35k0, b35k1, lkE, ↓reduceIte, reduceCtorEq, Nat.reduceEqDiff, Nat.reduceAdd, Nat.reduceMul, Nat.reduceSub, Nat.reduceLeDiff, Nat.reduceBEq, Int.reduceToNat, Int.reduceLE, Int.reduceLT, Int.reduceEq, Int.reduceNe, di]
  by_cases c4 : Wi x.rise 0 1000000
  case neg => rw [bad (fun k => c4 k.2.2.2.1)]; unfold Wi at c4; simp only [c4, res35, b35k0, b35k1, limI, limsI, tskI, hgtI, lkE, ↓reduceIte, reduceCtorEq, Nat.reduceEqDiff, Nat.reduceAdd, Nat.reduceMul, Nat.reduceSub, Nat.reduceLeDiff, Nat.reduceBEq, Int.reduceToNat, Int.reduceLE, Int.reduceLT, Int.reduceEq, Int.reduceNe, di]
  have c4' := c4
  unfold Wi at c4'
  simp only [c4', res35, b35k0, b35k1, limI, limsI, tskI, hgtI, lkE, ↓reduceIte, reduceCtorEq, Nat.reduceEqDiff, Nat.reduceAdd, Nat.reduceMul, Nat.reduceSub, Nat.reduceLeDiff, Nat.reduceBEq, Int.reduceToNat, Int.reduceLE, Int.reduceLT, Int.reduceEq, Int.reduceNe, di]
  refine calls_of c_Within ?_; simp only [limI, limsI, tskI, hgtI, res35, b35k0, b35k1, lkE, ↓reduceIte, reduceCtorEq, Nat.reduceEqDiff, Nat.reduceAdd, Nat.reduceMul, Nat.reduceSub, Nat.reduceLeDiff, Nat.reduceBEq, Int.reduceToNat, Int.reduceLE, Int.reduceLT, Int.reduceEq, Int.reduceNe, di]
  by_cases c5 : Wi x.win 1 200
  case neg => rw [bad (fun k => c5 k.2.2.2.2)]; unfold Wi at c5; simp only [c5, res35, b35k0, b35k1, limI, limsI, tskI, hgtI, lkE, ↓reduceIte, reduceCtorEq, Nat.reduceEqDiff, Nat.reduceAdd, Nat.reduceMul, Nat.reduceSub, Nat.reduceLeDiff, Nat.reduceBEq, Int.reduceToNat, Int.reduceLE, Int.reduceLT, Int.reduceEq, Int.reduceNe, di]
  have c5' := c5
  unfold Wi at c5'
  simp only [c5', res35, b35k0, b35k1, limI, limsI, tskI, hgtI, lkE, ↓reduceIte, reduceCtorEq, Nat.reduceEqDiff, Nat.reduceAdd, Nat.reduceMul, Nat.reduceSub, Nat.reduceLeDiff, Nat.reduceBEq, Int.reduceToNat, Int.reduceLE, Int.reduceLT, Int.reduceEq, Int.reduceNe, di]
  unfold limErr
  rw [if_pos (show limOk l x from ⟨c1, c2, c3, c4, c5⟩)]
  split
  · rename_i k; rw [if_neg (by omega)]
  · rename_i k; rw [if_pos (by omega)]

theorem r_LimitsErr {p : Pair} {L : Lims} (h : VPair p) : Contract Tryz.prog 13 [lpI p, limsI L] (.int .i64 (limsErr p L)) := by
  unfold limsErr
  refine contract_run Tryz.func13 k13 rfl ?_
  simp only [body13, b13, res13, b13k0, limI, limsI, tskI, hgtI, lkE, ↓reduceIte, reduceCtorEq, Nat.reduceEqDiff, Nat.reduceAdd, Nat.reduceMul, Nat.reduceSub, Nat.reduceLeDiff, Nat.reduceBEq, Int.reduceToNat, Int.reduceLE, Int.reduceLT, Int.reduceEq, Int.reduceNe, di]
  repeat (refine And.intro (by omega) ?_)
  refine calls_of (r_limitErr (x := L.u) h.u) ?_; simp only [limI, limsI, tskI, hgtI, res13, b13k0, lkE, ↓reduceIte, reduceCtorEq, Nat.reduceEqDiff, Nat.reduceAdd, Nat.reduceMul, Nat.reduceSub, Nat.reduceLeDiff, Nat.reduceBEq, Int.reduceToNat, Int.reduceLE, Int.reduceLT, Int.reduceEq, Int.reduceNe, di]
  by_cases c : limErr p.u L.u = 0
  · simp only [c, res13, b13k0, limI, limsI, tskI, hgtI, lkE, ↓reduceIte, reduceCtorEq, Nat.reduceEqDiff, Nat.reduceAdd, Nat.reduceMul, Nat.reduceSub, Nat.reduceLeDiff, Nat.reduceBEq, Int.reduceToNat, Int.reduceLE, Int.reduceLT, Int.reduceEq, Int.reduceNe, di]
    repeat (refine And.intro (by omega) ?_)
    refine calls_of (r_limitErr (x := L.l) h.l) ?_; simp only [limI, limsI, tskI, hgtI, res13, b13k0, lkE, ↓reduceIte, reduceCtorEq, Nat.reduceEqDiff, Nat.reduceAdd, Nat.reduceMul, Nat.reduceSub, Nat.reduceLeDiff, Nat.reduceBEq, Int.reduceToNat, Int.reduceLE, Int.reduceLT, Int.reduceEq, Int.reduceNe, di]
  · simp only [c, res13, b13k0, limI, limsI, tskI, hgtI, lkE, ↓reduceIte, reduceCtorEq, Nat.reduceEqDiff, Nat.reduceAdd, Nat.reduceMul, Nat.reduceSub, Nat.reduceLeDiff, Nat.reduceBEq, Int.reduceToNat, Int.reduceLE, Int.reduceLT, Int.reduceEq, Int.reduceNe, di]

theorem r_TaskErr {p : Pair} {x : Tsk} (h : VPair p) (hl : x.fs.length ≤ 1000000000000) : Contract Tryz.prog 16 [lpI p, tskI x] (.int .i64 (taskErr p x)) := by
  unfold taskErr
  refine contract_run Tryz.func16 k16 rfl ?_
  simp only [body16, b16, res16, b16k0, limI, limsI, tskI, hgtI, lkE, ↓reduceIte, reduceCtorEq, Nat.reduceEqDiff, Nat.reduceAdd, Nat.reduceMul, Nat.reduceSub, Nat.reduceLeDiff, Nat.reduceBEq, Int.reduceToNat, Int.reduceLE, Int.reduceLT, Int.reduceEq, Int.reduceNe, di]
  repeat (refine And.intro (by omega) ?_)
  refine calls_of (r_LimitsErr (L := x.L) h) ?_; simp only [limI, limsI, tskI, hgtI, res16, b16k0, lkE, ↓reduceIte, reduceCtorEq, Nat.reduceEqDiff, Nat.reduceAdd, Nat.reduceMul, Nat.reduceSub, Nat.reduceLeDiff, Nat.reduceBEq, Int.reduceToNat, Int.reduceLE, Int.reduceLT, Int.reduceEq, Int.reduceNe, di]
  by_cases c : limsErr p x.L = 0
  · simp only [c, res16, b16k0, limI, limsI, tskI, hgtI, lkE, ↓reduceIte, reduceCtorEq, Nat.reduceEqDiff, Nat.reduceAdd, Nat.reduceMul, Nat.reduceSub, Nat.reduceLeDiff, Nat.reduceBEq, Int.reduceToNat, Int.reduceLE, Int.reduceLT, Int.reduceEq, Int.reduceNe, di]
    refine calls_of (r_ListErr hl) ?_; simp only [limI, limsI, tskI, hgtI, res16, b16k0, lkE, ↓reduceIte, reduceCtorEq, Nat.reduceEqDiff, Nat.reduceAdd, Nat.reduceMul, Nat.reduceSub, Nat.reduceLeDiff, Nat.reduceBEq, Int.reduceToNat, Int.reduceLE, Int.reduceLT, Int.reduceEq, Int.reduceNe, di]
  · simp only [c, res16, b16k0, limI, limsI, tskI, hgtI, lkE, ↓reduceIte, reduceCtorEq, Nat.reduceEqDiff, Nat.reduceAdd, Nat.reduceMul, Nat.reduceSub, Nat.reduceLeDiff, Nat.reduceBEq, Int.reduceToNat, Int.reduceLE, Int.reduceLT, Int.reduceEq, Int.reduceNe, di]
end Go.DI

/- Contracts: the reference's violation at a tick, and the first one. No condition. -/
set_option linter.unusedSimpArgs false
namespace Go.DI
open Go.Proofs Go.RowKit Lk

theorem kindOf_b {x : Lim} {now before : Rat} : kindOf x now before = if decide (now < (x.lo : Rat)) = true then some 0 else if decide ((x.hi : Rat) < now) = true then some 1 else if decide ((x.fall : Rat) < before - now) = true then some 2 else if decide ((x.rise : Rat) < now - before) = true then some 3 else none := by
  unfold kindOf
  simp only [decide_eq_true_eq]

theorem r_At {p : Pair} {L : Lims} {ss : List Sta} {t : Nat} (hp : VPair p) (hL : limOk p.u L.u ∧ limOk p.l L.l) (hs : ∀ s ∈ ss, stOk p s) (ht : t < ss.length) (hn : ss.length ≤ 1000000) :
    Contract Tryz.prog 41 [lpI p, limsI L, .slc 2 (ss.map stI), .int .i64 t] (.tup [vio3 ((vAt p L (nth ss) t).map fun q => (t, q)), .bool (vAt p L (nth ss) t).isSome]) := by
  have hin : ∀ i, i < ss.length → stOk p (kn ss i) := fun i hi => hs _ (by unfold kn; rw [List.getD_eq_getElem?_getD]; simp [hi])
  obtain ⟨⟨u1, u2, u3, u4, u5⟩, l1, l2, l3, l4, l5⟩ := hL
  have ub1 := isL_bd hp.u u1
  have ub2 := isL_bd hp.u u2
  have lb1 := isL_bd hp.l l1
  have lb2 := isL_bd hp.l l2
  unfold Wi at u3 u4 u5 l3 l4 l5
  have su := hin t ht
  have hva : vAt p L (nth ss) t = match kindOf L.u (lvl p.u (kn ss t).1) (lvl p.u (kn ss (t - L.u.win.toNat)).1) with | some k => some (0, k) | none => (kindOf L.l (lvl p.l (kn ss t).2) (lvl p.l (kn ss (t - L.l.win.toNat)).2)).map fun k => (1, k) := rfl
  rw [hva]
  have sb1 := hin (t - L.u.win.toNat) (by omega)
  have sb2 := hin (t - L.l.win.toNat) (by omega)
  have hw1 : IntKind.wrap .i64 (0 + 1) = 1 := by decide
  have hw2 : IntKind.wrap .i64 (1 + 1) = 2 := by decide
  have hw3 : IntKind.wrap .i64 (2 + 1) = 3 := by decide
  have hw4 : IntKind.wrap .i64 (3 + 1) = 4 := by decide
  have n1 : max 0 ((t : Int) - L.u.win) = ((t - L.u.win.toNat : Nat) : Int) := by omega
  have n2 : max 0 ((t : Int) - L.l.win) = ((t - L.l.win.toNat : Nat) : Int) := by omega
  refine contract_run Tryz.func41 k41 rfl ?_
  simp only [body41, b41, res41, b41k0, b41k1, b41k2, b41k3, b41k4, limI, limsI, tskI, hgtI, lkE, ↓reduceIte, reduceCtorEq, Nat.reduceEqDiff, Nat.reduceAdd, Nat.reduceMul, Nat.reduceSub, Nat.reduceLeDiff, Nat.reduceBEq, Int.reduceToNat, Int.reduceLE, Int.reduceLT, Int.reduceEq, Int.reduceNe, di]
  refine run_round rfl ?_
  simp only [res41, b41k0, b41k1, b41k2, b41k3, b41k4, limI, limsI, tskI, hgtI, lkE, ↓reduceIte, reduceCtorEq, Nat.reduceEqDiff, Nat.reduceAdd, Nat.reduceMul, Nat.reduceSub, Nat.reduceLeDiff, Nat.reduceBEq, Int.reduceToNat, Int.reduceLE, Int.reduceLT, Int.reduceEq, Int.reduceNe, di]
  refine calls_of (r_tableOf (k := 0)) ?_; simp only [ratio, limI, limsI, tskI, hgtI, res41, b41k0, b41k1, b41k2, b41k3, b41k4, lkE, ↓reduceIte, reduceCtorEq, Nat.reduceEqDiff, Nat.reduceAdd, Nat.reduceMul, Nat.reduceSub, Nat.reduceLeDiff, Nat.reduceBEq, Int.reduceToNat, Int.reduceLE, Int.reduceLT, Int.reduceEq, Int.reduceNe, di]
  repeat (refine And.intro (by omega) ?_)
  refine calls_of (r_limitOf (k := 0)) ?_; simp only [ratio, limI, limsI, tskI, hgtI, res41, b41k0, b41k1, b41k2, b41k3, b41k4, lkE, ↓reduceIte, reduceCtorEq, Nat.reduceEqDiff, Nat.reduceAdd, Nat.reduceMul, Nat.reduceSub, Nat.reduceLeDiff, Nat.reduceBEq, Int.reduceToNat, Int.reduceLE, Int.reduceLT, Int.reduceEq, Int.reduceNe, di]
  repeat (refine And.intro (by omega) ?_)
  refine calls_of (r_volumeOf (s := kn ss t) (k := 0)) ?_; simp only [ratio, limI, limsI, tskI, hgtI, res41, b41k0, b41k1, b41k2, b41k3, b41k4, lkE, ↓reduceIte, reduceCtorEq, Nat.reduceEqDiff, Nat.reduceAdd, Nat.reduceMul, Nat.reduceSub, Nat.reduceLeDiff, Nat.reduceBEq, Int.reduceToNat, Int.reduceLE, Int.reduceLT, Int.reduceEq, Int.reduceNe, di]
  refine calls_of (r_lvl hp.u su.1) ?_; simp only [ratio, limI, limsI, tskI, hgtI, res41, b41k0, b41k1, b41k2, b41k3, b41k4, lkE, ↓reduceIte, reduceCtorEq, Nat.reduceEqDiff, Nat.reduceAdd, Nat.reduceMul, Nat.reduceSub, Nat.reduceLeDiff, Nat.reduceBEq, Int.reduceToNat, Int.reduceLE, Int.reduceLT, Int.reduceEq, Int.reduceNe, di]
  simp only [show IntKind.wrap .i64 ((t : Int) - L.u.win) = (t : Int) - L.u.win from wrap64 (by omega) (by omega)]
  simp only [n1, i_toNat]
  repeat (refine And.intro (by omega) ?_)
  refine calls_of (r_volumeOf (s := kn ss (t - L.u.win.toNat)) (k := 0)) ?_; simp only [ratio, limI, limsI, tskI, hgtI, res41, b41k0, b41k1, b41k2, b41k3, b41k4, lkE, ↓reduceIte, reduceCtorEq, Nat.reduceEqDiff, Nat.reduceAdd, Nat.reduceMul, Nat.reduceSub, Nat.reduceLeDiff, Nat.reduceBEq, Int.reduceToNat, Int.reduceLE, Int.reduceLT, Int.reduceEq, Int.reduceNe, di]
  refine calls_of (r_lvl hp.u sb1.1) ?_; simp only [ratio, limI, limsI, tskI, hgtI, res41, b41k0, b41k1, b41k2, b41k3, b41k4, lkE, ↓reduceIte, reduceCtorEq, Nat.reduceEqDiff, Nat.reduceAdd, Nat.reduceMul, Nat.reduceSub, Nat.reduceLeDiff, Nat.reduceBEq, Int.reduceToNat, Int.reduceLE, Int.reduceLT, Int.reduceEq, Int.reduceNe, di]
  have fu1 := fw_lvl hp.u su.1
  have fu2 := fw_lvl hp.u sb1.1
  generalize lvl p.u (kn ss t).1 = nowu at *
  generalize lvl p.u (kn ss (t - L.u.win.toNat)).1 = befu at *
  have gu0 : Fw 1 ((L.u.lo : Int) : Rat) := fw_int (by omega) (by omega)
  have gu1 : Fw 1 ((L.u.hi : Int) : Rat) := fw_int (by omega) (by omega)
  have gu2 : Fw 1 ((L.u.fall : Int) : Rat) := fw_int (by omega) (by omega)
  have gu3 : Fw 1 ((L.u.rise : Int) : Rat) := fw_int (by omega) (by omega)
  refine calls_of (c_RatioInt (n := L.u.lo) (by omega) (by omega)) ?_; simp only [ratio, limI, limsI, tskI, hgtI, res41, b41k0, b41k1, b41k2, b41k3, b41k4, lkE, ↓reduceIte, reduceCtorEq, Nat.reduceEqDiff, Nat.reduceAdd, Nat.reduceMul, Nat.reduceSub, Nat.reduceLeDiff, Nat.reduceBEq, Int.reduceToNat, Int.reduceLE, Int.reduceLT, Int.reduceEq, Int.reduceNe, di]
  refine calls_of (c_RatioCmp fu1 gu0 (by omega)) ?_; simp only [ratio, limI, limsI, tskI, hgtI, res41, b41k0, b41k1, b41k2, b41k3, b41k4, lkE, ↓reduceIte, reduceCtorEq, Nat.reduceEqDiff, Nat.reduceAdd, Nat.reduceMul, Nat.reduceSub, Nat.reduceLeDiff, Nat.reduceBEq, Int.reduceToNat, Int.reduceLE, Int.reduceLT, Int.reduceEq, Int.reduceNe, di]
  refine calls_of (c_RatioInt (n := L.u.hi) (by omega) (by omega)) ?_; simp only [ratio, limI, limsI, tskI, hgtI, res41, b41k0, b41k1, b41k2, b41k3, b41k4, lkE, ↓reduceIte, reduceCtorEq, Nat.reduceEqDiff, Nat.reduceAdd, Nat.reduceMul, Nat.reduceSub, Nat.reduceLeDiff, Nat.reduceBEq, Int.reduceToNat, Int.reduceLE, Int.reduceLT, Int.reduceEq, Int.reduceNe, di]
  refine calls_of (c_RatioCmp fu1 gu1 (by omega)) ?_; simp only [ratio, limI, limsI, tskI, hgtI, res41, b41k0, b41k1, b41k2, b41k3, b41k4, lkE, ↓reduceIte, reduceCtorEq, Nat.reduceEqDiff, Nat.reduceAdd, Nat.reduceMul, Nat.reduceSub, Nat.reduceLeDiff, Nat.reduceBEq, Int.reduceToNat, Int.reduceLE, Int.reduceLT, Int.reduceEq, Int.reduceNe, di]
  refine calls_of (c_RatioSub fu2 fu1 (by omega)) ?_; simp only [ratio, limI, limsI, tskI, hgtI, res41, b41k0, b41k1, b41k2, b41k3, b41k4, lkE, ↓reduceIte, reduceCtorEq, Nat.reduceEqDiff, Nat.reduceAdd, Nat.reduceMul, Nat.reduceSub, Nat.reduceLeDiff, Nat.reduceBEq, Int.reduceToNat, Int.reduceLE, Int.reduceLT, Int.reduceEq, Int.reduceNe, di]
  refine calls_of (c_RatioInt (n := L.u.fall) (by omega) (by omega)) ?_; simp only [ratio, limI, limsI, tskI, hgtI, res41, b41k0, b41k1, b41k2, b41k3, b41k4, lkE, ↓reduceIte, reduceCtorEq, Nat.reduceEqDiff, Nat.reduceAdd, Nat.reduceMul, Nat.reduceSub, Nat.reduceLeDiff, Nat.reduceBEq, Int.reduceToNat, Int.reduceLE, Int.reduceLT, Int.reduceEq, Int.reduceNe, di]
  refine calls_of (c_RatioCmp (fw_sub fu2 fu1) gu2 (by omega)) ?_; simp only [ratio, limI, limsI, tskI, hgtI, res41, b41k0, b41k1, b41k2, b41k3, b41k4, lkE, ↓reduceIte, reduceCtorEq, Nat.reduceEqDiff, Nat.reduceAdd, Nat.reduceMul, Nat.reduceSub, Nat.reduceLeDiff, Nat.reduceBEq, Int.reduceToNat, Int.reduceLE, Int.reduceLT, Int.reduceEq, Int.reduceNe, di]
  refine calls_of (c_RatioSub fu1 fu2 (by omega)) ?_; simp only [ratio, limI, limsI, tskI, hgtI, res41, b41k0, b41k1, b41k2, b41k3, b41k4, lkE, ↓reduceIte, reduceCtorEq, Nat.reduceEqDiff, Nat.reduceAdd, Nat.reduceMul, Nat.reduceSub, Nat.reduceLeDiff, Nat.reduceBEq, Int.reduceToNat, Int.reduceLE, Int.reduceLT, Int.reduceEq, Int.reduceNe, di]
  refine calls_of (c_RatioInt (n := L.u.rise) (by omega) (by omega)) ?_; simp only [ratio, limI, limsI, tskI, hgtI, res41, b41k0, b41k1, b41k2, b41k3, b41k4, lkE, ↓reduceIte, reduceCtorEq, Nat.reduceEqDiff, Nat.reduceAdd, Nat.reduceMul, Nat.reduceSub, Nat.reduceLeDiff, Nat.reduceBEq, Int.reduceToNat, Int.reduceLE, Int.reduceLT, Int.reduceEq, Int.reduceNe, di]
  refine calls_of (c_RatioCmp (fw_sub fu1 fu2) gu3 (by omega)) ?_; simp only [ratio, limI, limsI, tskI, hgtI, res41, b41k0, b41k1, b41k2, b41k3, b41k4, lkE, ↓reduceIte, reduceCtorEq, Nat.reduceEqDiff, Nat.reduceAdd, Nat.reduceMul, Nat.reduceSub, Nat.reduceLeDiff, Nat.reduceBEq, Int.reduceToNat, Int.reduceLE, Int.reduceLT, Int.reduceEq, Int.reduceNe, di]
  simp only [cmpR_neg, cmpR_pos]
  rw [kindOf_b (x := L.u) (now := nowu) (before := befu)]
  generalize decide (nowu < (L.u.lo : Rat)) = ku0
  generalize decide ((L.u.hi : Rat) < nowu) = ku1
  generalize decide ((L.u.fall : Rat) < befu - nowu) = ku2
  generalize decide ((L.u.rise : Rat) < nowu - befu) = ku3
  cases ku0 with
  | true =>
    refine run_round rfl ?_
    simp only [hw1, hw2, hw3, hw4, res41, b41k0, b41k1, b41k2, b41k3, b41k4, limI, limsI, tskI, hgtI, lkE, ↓reduceIte, reduceCtorEq, Nat.reduceEqDiff, Nat.reduceAdd, Nat.reduceMul, Nat.reduceSub, Nat.reduceLeDiff, Nat.reduceBEq, Int.reduceToNat, Int.reduceLE, Int.reduceLT, Int.reduceEq, Int.reduceNe, di]
    repeat (refine And.intro (by omega) ?_)
    rfl
  | false =>
    refine run_round rfl ?_
    simp only [hw1, hw2, hw3, hw4, res41, b41k0, b41k1, b41k2, b41k3, b41k4, limI, limsI, tskI, hgtI, lkE, ↓reduceIte, reduceCtorEq, Nat.reduceEqDiff, Nat.reduceAdd, Nat.reduceMul, Nat.reduceSub, Nat.reduceLeDiff, Nat.reduceBEq, Int.reduceToNat, Int.reduceLE, Int.reduceLT, Int.reduceEq, Int.reduceNe, di]
    repeat (refine And.intro (by omega) ?_)
    cases ku1 with
    | true =>
      refine run_round rfl ?_
      simp only [hw1, hw2, hw3, hw4, res41, b41k0, b41k1, b41k2, b41k3, b41k4, limI, limsI, tskI, hgtI, lkE, ↓reduceIte, reduceCtorEq, Nat.reduceEqDiff, Nat.reduceAdd, Nat.reduceMul, Nat.reduceSub, Nat.reduceLeDiff, Nat.reduceBEq, Int.reduceToNat, Int.reduceLE, Int.reduceLT, Int.reduceEq, Int.reduceNe, di]
      repeat (refine And.intro (by omega) ?_)
      rfl
    | false =>
      refine run_round rfl ?_
      simp only [hw1, hw2, hw3, hw4, res41, b41k0, b41k1, b41k2, b41k3, b41k4, limI, limsI, tskI, hgtI, lkE, ↓reduceIte, reduceCtorEq, Nat.reduceEqDiff, Nat.reduceAdd, Nat.reduceMul, Nat.reduceSub, Nat.reduceLeDiff, Nat.reduceBEq, Int.reduceToNat, Int.reduceLE, Int.reduceLT, Int.reduceEq, Int.reduceNe, di]
      repeat (refine And.intro (by omega) ?_)
      cases ku2 with
      | true =>
        refine run_round rfl ?_
        simp only [hw1, hw2, hw3, hw4, res41, b41k0, b41k1, b41k2, b41k3, b41k4, limI, limsI, tskI, hgtI, lkE, ↓reduceIte, reduceCtorEq, Nat.reduceEqDiff, Nat.reduceAdd, Nat.reduceMul, Nat.reduceSub, Nat.reduceLeDiff, Nat.reduceBEq, Int.reduceToNat, Int.reduceLE, Int.reduceLT, Int.reduceEq, Int.reduceNe, di]
        repeat (refine And.intro (by omega) ?_)
        rfl
      | false =>
        refine run_round rfl ?_
        simp only [hw1, hw2, hw3, hw4, res41, b41k0, b41k1, b41k2, b41k3, b41k4, limI, limsI, tskI, hgtI, lkE, ↓reduceIte, reduceCtorEq, Nat.reduceEqDiff, Nat.reduceAdd, Nat.reduceMul, Nat.reduceSub, Nat.reduceLeDiff, Nat.reduceBEq, Int.reduceToNat, Int.reduceLE, Int.reduceLT, Int.reduceEq, Int.reduceNe, di]
        repeat (refine And.intro (by omega) ?_)
        cases ku3 with
        | true =>
          refine run_round rfl ?_
          simp only [hw1, hw2, hw3, hw4, res41, b41k0, b41k1, b41k2, b41k3, b41k4, limI, limsI, tskI, hgtI, lkE, ↓reduceIte, reduceCtorEq, Nat.reduceEqDiff, Nat.reduceAdd, Nat.reduceMul, Nat.reduceSub, Nat.reduceLeDiff, Nat.reduceBEq, Int.reduceToNat, Int.reduceLE, Int.reduceLT, Int.reduceEq, Int.reduceNe, di]
          repeat (refine And.intro (by omega) ?_)
          rfl
        | false =>
          refine run_round rfl ?_
          simp only [hw1, hw2, hw3, hw4, res41, b41k0, b41k1, b41k2, b41k3, b41k4, limI, limsI, tskI, hgtI, lkE, ↓reduceIte, reduceCtorEq, Nat.reduceEqDiff, Nat.reduceAdd, Nat.reduceMul, Nat.reduceSub, Nat.reduceLeDiff, Nat.reduceBEq, Int.reduceToNat, Int.reduceLE, Int.reduceLT, Int.reduceEq, Int.reduceNe, di]
          repeat (refine And.intro (by omega) ?_)
          refine run_round rfl ?_
          simp only [hw1, hw2, hw3, hw4, res41, b41k0, b41k1, b41k2, b41k3, b41k4, limI, limsI, tskI, hgtI, lkE, ↓reduceIte, reduceCtorEq, Nat.reduceEqDiff, Nat.reduceAdd, Nat.reduceMul, Nat.reduceSub, Nat.reduceLeDiff, Nat.reduceBEq, Int.reduceToNat, Int.reduceLE, Int.reduceLT, Int.reduceEq, Int.reduceNe, di]
          repeat (refine And.intro (by omega) ?_)
          refine run_round rfl ?_
          simp only [hw1, hw2, hw3, hw4, res41, b41k0, b41k1, b41k2, b41k3, b41k4, limI, limsI, tskI, hgtI, lkE, ↓reduceIte, reduceCtorEq, Nat.reduceEqDiff, Nat.reduceAdd, Nat.reduceMul, Nat.reduceSub, Nat.reduceLeDiff, Nat.reduceBEq, Int.reduceToNat, Int.reduceLE, Int.reduceLT, Int.reduceEq, Int.reduceNe, di]
          repeat (refine And.intro (by omega) ?_)
          refine calls_of (r_tableOf (k := 1)) ?_; simp only [ratio, limI, limsI, tskI, hgtI, res41, b41k0, b41k1, b41k2, b41k3, b41k4, lkE, ↓reduceIte, reduceCtorEq, Nat.reduceEqDiff, Nat.reduceAdd, Nat.reduceMul, Nat.reduceSub, Nat.reduceLeDiff, Nat.reduceBEq, Int.reduceToNat, Int.reduceLE, Int.reduceLT, Int.reduceEq, Int.reduceNe, di]
          repeat (refine And.intro (by omega) ?_)
          refine calls_of (r_limitOf (k := 1)) ?_; simp only [ratio, limI, limsI, tskI, hgtI, res41, b41k0, b41k1, b41k2, b41k3, b41k4, lkE, ↓reduceIte, reduceCtorEq, Nat.reduceEqDiff, Nat.reduceAdd, Nat.reduceMul, Nat.reduceSub, Nat.reduceLeDiff, Nat.reduceBEq, Int.reduceToNat, Int.reduceLE, Int.reduceLT, Int.reduceEq, Int.reduceNe, di]
          repeat (refine And.intro (by omega) ?_)
          refine calls_of (r_volumeOf (s := kn ss t) (k := 1)) ?_; simp only [ratio, limI, limsI, tskI, hgtI, res41, b41k0, b41k1, b41k2, b41k3, b41k4, lkE, ↓reduceIte, reduceCtorEq, Nat.reduceEqDiff, Nat.reduceAdd, Nat.reduceMul, Nat.reduceSub, Nat.reduceLeDiff, Nat.reduceBEq, Int.reduceToNat, Int.reduceLE, Int.reduceLT, Int.reduceEq, Int.reduceNe, di]
          refine calls_of (r_lvl hp.l su.2) ?_; simp only [ratio, limI, limsI, tskI, hgtI, res41, b41k0, b41k1, b41k2, b41k3, b41k4, lkE, ↓reduceIte, reduceCtorEq, Nat.reduceEqDiff, Nat.reduceAdd, Nat.reduceMul, Nat.reduceSub, Nat.reduceLeDiff, Nat.reduceBEq, Int.reduceToNat, Int.reduceLE, Int.reduceLT, Int.reduceEq, Int.reduceNe, di]
          simp only [show IntKind.wrap .i64 ((t : Int) - L.l.win) = (t : Int) - L.l.win from wrap64 (by omega) (by omega)]
          simp only [n2, i_toNat]
          repeat (refine And.intro (by omega) ?_)
          refine calls_of (r_volumeOf (s := kn ss (t - L.l.win.toNat)) (k := 1)) ?_; simp only [ratio, limI, limsI, tskI, hgtI, res41, b41k0, b41k1, b41k2, b41k3, b41k4, lkE, ↓reduceIte, reduceCtorEq, Nat.reduceEqDiff, Nat.reduceAdd, Nat.reduceMul, Nat.reduceSub, Nat.reduceLeDiff, Nat.reduceBEq, Int.reduceToNat, Int.reduceLE, Int.reduceLT, Int.reduceEq, Int.reduceNe, di]
          refine calls_of (r_lvl hp.l sb2.2) ?_; simp only [ratio, limI, limsI, tskI, hgtI, res41, b41k0, b41k1, b41k2, b41k3, b41k4, lkE, ↓reduceIte, reduceCtorEq, Nat.reduceEqDiff, Nat.reduceAdd, Nat.reduceMul, Nat.reduceSub, Nat.reduceLeDiff, Nat.reduceBEq, Int.reduceToNat, Int.reduceLE, Int.reduceLT, Int.reduceEq, Int.reduceNe, di]
          have fl1 := fw_lvl hp.l su.2
          have fl2 := fw_lvl hp.l sb2.2
          generalize lvl p.l (kn ss t).2 = nowl at *
          generalize lvl p.l (kn ss (t - L.l.win.toNat)).2 = befl at *
          have gl0 : Fw 1 ((L.l.lo : Int) : Rat) := fw_int (by omega) (by omega)
          have gl1 : Fw 1 ((L.l.hi : Int) : Rat) := fw_int (by omega) (by omega)
          have gl2 : Fw 1 ((L.l.fall : Int) : Rat) := fw_int (by omega) (by omega)
          have gl3 : Fw 1 ((L.l.rise : Int) : Rat) := fw_int (by omega) (by omega)
          refine calls_of (c_RatioInt (n := L.l.lo) (by omega) (by omega)) ?_; simp only [ratio, limI, limsI, tskI, hgtI, res41, b41k0, b41k1, b41k2, b41k3, b41k4, lkE, ↓reduceIte, reduceCtorEq, Nat.reduceEqDiff, Nat.reduceAdd, Nat.reduceMul, Nat.reduceSub, Nat.reduceLeDiff, Nat.reduceBEq, Int.reduceToNat, Int.reduceLE, Int.reduceLT, Int.reduceEq, Int.reduceNe, di]
          refine calls_of (c_RatioCmp fl1 gl0 (by omega)) ?_; simp only [ratio, limI, limsI, tskI, hgtI, res41, b41k0, b41k1, b41k2, b41k3, b41k4, lkE, ↓reduceIte, reduceCtorEq, Nat.reduceEqDiff, Nat.reduceAdd, Nat.reduceMul, Nat.reduceSub, Nat.reduceLeDiff, Nat.reduceBEq, Int.reduceToNat, Int.reduceLE, Int.reduceLT, Int.reduceEq, Int.reduceNe, di]
          refine calls_of (c_RatioInt (n := L.l.hi) (by omega) (by omega)) ?_; simp only [ratio, limI, limsI, tskI, hgtI, res41, b41k0, b41k1, b41k2, b41k3, b41k4, lkE, ↓reduceIte, reduceCtorEq, Nat.reduceEqDiff, Nat.reduceAdd, Nat.reduceMul, Nat.reduceSub, Nat.reduceLeDiff, Nat.reduceBEq, Int.reduceToNat, Int.reduceLE, Int.reduceLT, Int.reduceEq, Int.reduceNe, di]
          refine calls_of (c_RatioCmp fl1 gl1 (by omega)) ?_; simp only [ratio, limI, limsI, tskI, hgtI, res41, b41k0, b41k1, b41k2, b41k3, b41k4, lkE, ↓reduceIte, reduceCtorEq, Nat.reduceEqDiff, Nat.reduceAdd, Nat.reduceMul, Nat.reduceSub, Nat.reduceLeDiff, Nat.reduceBEq, Int.reduceToNat, Int.reduceLE, Int.reduceLT, Int.reduceEq, Int.reduceNe, di]
          refine calls_of (c_RatioSub fl2 fl1 (by omega)) ?_; simp only [ratio, limI, limsI, tskI, hgtI, res41, b41k0, b41k1, b41k2, b41k3, b41k4, lkE, ↓reduceIte, reduceCtorEq, Nat.reduceEqDiff, Nat.reduceAdd, Nat.reduceMul, Nat.reduceSub, Nat.reduceLeDiff, Nat.reduceBEq, Int.reduceToNat, Int.reduceLE, Int.reduceLT, Int.reduceEq, Int.reduceNe, di]
          refine calls_of (c_RatioInt (n := L.l.fall) (by omega) (by omega)) ?_; simp only [ratio, limI, limsI, tskI, hgtI, res41, b41k0, b41k1, b41k2, b41k3, b41k4, lkE, ↓reduceIte, reduceCtorEq, Nat.reduceEqDiff, Nat.reduceAdd, Nat.reduceMul, Nat.reduceSub, Nat.reduceLeDiff, Nat.reduceBEq, Int.reduceToNat, Int.reduceLE, Int.reduceLT, Int.reduceEq, Int.reduceNe, di]
          refine calls_of (c_RatioCmp (fw_sub fl2 fl1) gl2 (by omega)) ?_; simp only [ratio, limI, limsI, tskI, hgtI, res41, b41k0, b41k1, b41k2, b41k3, b41k4, lkE, ↓reduceIte, reduceCtorEq, Nat.reduceEqDiff, Nat.reduceAdd, Nat.reduceMul, Nat.reduceSub, Nat.reduceLeDiff, Nat.reduceBEq, Int.reduceToNat, Int.reduceLE, Int.reduceLT, Int.reduceEq, Int.reduceNe, di]
          refine calls_of (c_RatioSub fl1 fl2 (by omega)) ?_; simp only [ratio, limI, limsI, tskI, hgtI, res41, b41k0, b41k1, b41k2, b41k3, b41k4, lkE, ↓reduceIte, reduceCtorEq, Nat.reduceEqDiff, Nat.reduceAdd, Nat.reduceMul, Nat.reduceSub, Nat.reduceLeDiff, Nat.reduceBEq, Int.reduceToNat, Int.reduceLE, Int.reduceLT, Int.reduceEq, Int.reduceNe, di]
          refine calls_of (c_RatioInt (n := L.l.rise) (by omega) (by omega)) ?_; simp only [ratio, limI, limsI, tskI, hgtI, res41, b41k0, b41k1, b41k2, b41k3, b41k4, lkE, ↓reduceIte, reduceCtorEq, Nat.reduceEqDiff, Nat.reduceAdd, Nat.reduceMul, Nat.reduceSub, Nat.reduceLeDiff, Nat.reduceBEq, Int.reduceToNat, Int.reduceLE, Int.reduceLT, Int.reduceEq, Int.reduceNe, di]
          refine calls_of (c_RatioCmp (fw_sub fl1 fl2) gl3 (by omega)) ?_; simp only [ratio, limI, limsI, tskI, hgtI, res41, b41k0, b41k1, b41k2, b41k3, b41k4, lkE, ↓reduceIte, reduceCtorEq, Nat.reduceEqDiff, Nat.reduceAdd, Nat.reduceMul, Nat.reduceSub, Nat.reduceLeDiff, Nat.reduceBEq, Int.reduceToNat, Int.reduceLE, Int.reduceLT, Int.reduceEq, Int.reduceNe, di]
          simp only [cmpR_neg, cmpR_pos]
          rw [kindOf_b (x := L.l) (now := nowl) (before := befl)]
          generalize decide (nowl < (L.l.lo : Rat)) = kl0
          generalize decide ((L.l.hi : Rat) < nowl) = kl1
          generalize decide ((L.l.fall : Rat) < befl - nowl) = kl2
          generalize decide ((L.l.rise : Rat) < nowl - befl) = kl3
          cases kl0 with
          | true =>
            refine run_round rfl ?_
            simp only [hw1, hw2, hw3, hw4, res41, b41k0, b41k1, b41k2, b41k3, b41k4, limI, limsI, tskI, hgtI, lkE, ↓reduceIte, reduceCtorEq, Nat.reduceEqDiff, Nat.reduceAdd, Nat.reduceMul, Nat.reduceSub, Nat.reduceLeDiff, Nat.reduceBEq, Int.reduceToNat, Int.reduceLE, Int.reduceLT, Int.reduceEq, Int.reduceNe, di]
            repeat (refine And.intro (by omega) ?_)
            rfl
          | false =>
            refine run_round rfl ?_
            simp only [hw1, hw2, hw3, hw4, res41, b41k0, b41k1, b41k2, b41k3, b41k4, limI, limsI, tskI, hgtI, lkE, ↓reduceIte, reduceCtorEq, Nat.reduceEqDiff, Nat.reduceAdd, Nat.reduceMul, Nat.reduceSub, Nat.reduceLeDiff, Nat.reduceBEq, Int.reduceToNat, Int.reduceLE, Int.reduceLT, Int.reduceEq, Int.reduceNe, di]
            repeat (refine And.intro (by omega) ?_)
            cases kl1 with
            | true =>
              refine run_round rfl ?_
              simp only [hw1, hw2, hw3, hw4, res41, b41k0, b41k1, b41k2, b41k3, b41k4, limI, limsI, tskI, hgtI, lkE, ↓reduceIte, reduceCtorEq, Nat.reduceEqDiff, Nat.reduceAdd, Nat.reduceMul, Nat.reduceSub, Nat.reduceLeDiff, Nat.reduceBEq, Int.reduceToNat, Int.reduceLE, Int.reduceLT, Int.reduceEq, Int.reduceNe, di]
              repeat (refine And.intro (by omega) ?_)
              rfl
            | false =>
              refine run_round rfl ?_
              simp only [hw1, hw2, hw3, hw4, res41, b41k0, b41k1, b41k2, b41k3, b41k4, limI, limsI, tskI, hgtI, lkE, ↓reduceIte, reduceCtorEq, Nat.reduceEqDiff, Nat.reduceAdd, Nat.reduceMul, Nat.reduceSub, Nat.reduceLeDiff, Nat.reduceBEq, Int.reduceToNat, Int.reduceLE, Int.reduceLT, Int.reduceEq, Int.reduceNe, di]
              repeat (refine And.intro (by omega) ?_)
              cases kl2 with
              | true =>
                refine run_round rfl ?_
                simp only [hw1, hw2, hw3, hw4, res41, b41k0, b41k1, b41k2, b41k3, b41k4, limI, limsI, tskI, hgtI, lkE, ↓reduceIte, reduceCtorEq, Nat.reduceEqDiff, Nat.reduceAdd, Nat.reduceMul, Nat.reduceSub, Nat.reduceLeDiff, Nat.reduceBEq, Int.reduceToNat, Int.reduceLE, Int.reduceLT, Int.reduceEq, Int.reduceNe, di]
                repeat (refine And.intro (by omega) ?_)
                rfl
              | false =>
                refine run_round rfl ?_
                simp only [hw1, hw2, hw3, hw4, res41, b41k0, b41k1, b41k2, b41k3, b41k4, limI, limsI, tskI, hgtI, lkE, ↓reduceIte, reduceCtorEq, Nat.reduceEqDiff, Nat.reduceAdd, Nat.reduceMul, Nat.reduceSub, Nat.reduceLeDiff, Nat.reduceBEq, Int.reduceToNat, Int.reduceLE, Int.reduceLT, Int.reduceEq, Int.reduceNe, di]
                repeat (refine And.intro (by omega) ?_)
                cases kl3 with
                | true =>
                  refine run_round rfl ?_
                  simp only [hw1, hw2, hw3, hw4, res41, b41k0, b41k1, b41k2, b41k3, b41k4, limI, limsI, tskI, hgtI, lkE, ↓reduceIte, reduceCtorEq, Nat.reduceEqDiff, Nat.reduceAdd, Nat.reduceMul, Nat.reduceSub, Nat.reduceLeDiff, Nat.reduceBEq, Int.reduceToNat, Int.reduceLE, Int.reduceLT, Int.reduceEq, Int.reduceNe, di]
                  repeat (refine And.intro (by omega) ?_)
                  rfl
                | false =>
                  refine run_round rfl ?_
                  simp only [hw1, hw2, hw3, hw4, res41, b41k0, b41k1, b41k2, b41k3, b41k4, limI, limsI, tskI, hgtI, lkE, ↓reduceIte, reduceCtorEq, Nat.reduceEqDiff, Nat.reduceAdd, Nat.reduceMul, Nat.reduceSub, Nat.reduceLeDiff, Nat.reduceBEq, Int.reduceToNat, Int.reduceLE, Int.reduceLT, Int.reduceEq, Int.reduceNe, di]
                  repeat (refine And.intro (by omega) ?_)
                  refine run_round rfl ?_
                  simp only [hw1, hw2, hw3, hw4, res41, b41k0, b41k1, b41k2, b41k3, b41k4, limI, limsI, tskI, hgtI, lkE, ↓reduceIte, reduceCtorEq, Nat.reduceEqDiff, Nat.reduceAdd, Nat.reduceMul, Nat.reduceSub, Nat.reduceLeDiff, Nat.reduceBEq, Int.reduceToNat, Int.reduceLE, Int.reduceLT, Int.reduceEq, Int.reduceNe, di]
                  repeat (refine And.intro (by omega) ?_)
                  refine run_round rfl ?_
                  simp only [hw1, hw2, hw3, hw4, res41, b41k0, b41k1, b41k2, b41k3, b41k4, limI, limsI, tskI, hgtI, lkE, ↓reduceIte, reduceCtorEq, Nat.reduceEqDiff, Nat.reduceAdd, Nat.reduceMul, Nat.reduceSub, Nat.reduceLeDiff, Nat.reduceBEq, Int.reduceToNat, Int.reduceLE, Int.reduceLT, Int.reduceEq, Int.reduceNe, di]
                  repeat (refine And.intro (by omega) ?_)
                  rfl
end Go.DI

/- Contracts: the reference's first violation; copies of tasks. No condition. -/
set_option linter.unusedSimpArgs false
namespace Go.DI
open Go.Proofs Go.RowKit Lk

theorem r_CopyTask {x : Tsk} (hl : x.fs.length ≤ 1000000000) : Contract Tryz.prog 11 [tskI x] (tskI x) := by
  refine contract_run Tryz.func11 k11 rfl ?_
  simp only [body11, b11, res11, limI, limsI, tskI, hgtI, lkE, ↓reduceIte, reduceCtorEq, Nat.reduceEqDiff, Nat.reduceAdd, Nat.reduceMul, Nat.reduceSub, Nat.reduceLeDiff, Nat.reduceBEq, Int.reduceToNat, Int.reduceLE, Int.reduceLT, Int.reduceEq, Int.reduceNe, di]
  repeat (refine And.intro (by omega) ?_)
  refine calls_of (r_CopyList hl) ?_; simp only [limI, limsI, tskI, hgtI, res11, lkE, ↓reduceIte, reduceCtorEq, Nat.reduceEqDiff, Nat.reduceAdd, Nat.reduceMul, Nat.reduceSub, Nat.reduceLeDiff, Nat.reduceBEq, Int.reduceToNat, Int.reduceLE, Int.reduceLT, Int.reduceEq, Int.reduceNe, di]

end Go.DI

