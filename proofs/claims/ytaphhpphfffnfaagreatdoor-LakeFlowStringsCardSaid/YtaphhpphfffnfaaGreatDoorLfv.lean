/- Contracts: the program's pairs of lakes, states and steps. No condition. -/
import Derived.Test.YtaphhpphfffnfaaGreatDoorLfu
set_option linter.unusedSimpArgs false
namespace Go.DI
open Go.Proofs Go.RowKit Lk

/-- Tables that are not too long to be looked through. -/
structure Sm (p : Pair) : Prop where
  u : p.u.length ≤ 1000000000000
  l : p.l.length ≤ 1000000000000

def pairErr (p : Pair) : Int := if (chkT p.u).2 = 0 then if (chkT p.l).2 = 0 then if Wi p.rate 0 1000 then 0 else 2 else (chkT p.l).2 else (chkT p.u).2
def bothErr (p : Pair) (s : Sta) : Int := if pairErr p = 0 then if stOk p s then 0 else 2 else pairErr p
def flowErr (x : Flow) : Int := if flowOk x then 0 else 2

theorem pairErr_ok {p : Pair} : pairErr p = 0 ↔ VPair p := by
  unfold pairErr
  constructor
  · intro h
    split at h
    · rename_i h1
      split at h
      · rename_i h2
        split at h
        · rename_i h3; exact ⟨chkT_ok.1 h1, chkT_ok.1 h2, h3⟩
        · omega
      · contradiction
    · contradiction
  · intro h
    rw [if_pos (chkT_ok.2 h.u), if_pos (chkT_ok.2 h.l), if_pos h.r]

theorem p_CheckPair {p : Pair} (h : Sm p) : Contract Tryz.prog 276 [lpI p] (.int .i64 (pairErr p)) := by
  refine contract_run Tryz.func276 k276 rfl ?_
  simp only [lpI, body276, b276, res276, lkE, ↓reduceIte, reduceCtorEq, Nat.reduceEqDiff, Nat.reduceAdd, Nat.reduceMul, Nat.reduceSub, Nat.reduceLeDiff, Nat.reduceBEq, Int.reduceToNat, Int.reduceLE, Int.reduceLT, Int.reduceEq, Int.reduceNe, di]
  refine calls_of (p_tableErr h.u) ?_; simp only [lkE, res276, ↓reduceIte, reduceCtorEq, Nat.reduceEqDiff, Nat.reduceAdd, Nat.reduceMul, Nat.reduceSub, Nat.reduceLeDiff, Nat.reduceBEq, Int.reduceToNat, Int.reduceLE, Int.reduceLT, Int.reduceEq, Int.reduceNe, di]
  refine calls_of (p_tableErr h.l) ?_; simp only [lkE, res276, ↓reduceIte, reduceCtorEq, Nat.reduceEqDiff, Nat.reduceAdd, Nat.reduceMul, Nat.reduceSub, Nat.reduceLeDiff, Nat.reduceBEq, Int.reduceToNat, Int.reduceLE, Int.reduceLT, Int.reduceEq, Int.reduceNe, di]
  refine calls_of p_within ?_; simp only [lkE, res276, ↓reduceIte, reduceCtorEq, Nat.reduceEqDiff, Nat.reduceAdd, Nat.reduceMul, Nat.reduceSub, Nat.reduceLeDiff, Nat.reduceBEq, Int.reduceToNat, Int.reduceLE, Int.reduceLT, Int.reduceEq, Int.reduceNe, di]
  refine calls_of p_unless ?_; simp only [lkE, res276, ↓reduceIte, reduceCtorEq, Nat.reduceEqDiff, Nat.reduceAdd, Nat.reduceMul, Nat.reduceSub, Nat.reduceLeDiff, Nat.reduceBEq, Int.reduceToNat, Int.reduceLE, Int.reduceLT, Int.reduceEq, Int.reduceNe, di]
  refine calls_of p_first3 ?_; simp only [lkE, res276, ↓reduceIte, reduceCtorEq, Nat.reduceEqDiff, Nat.reduceAdd, Nat.reduceMul, Nat.reduceSub, Nat.reduceLeDiff, Nat.reduceBEq, Int.reduceToNat, Int.reduceLE, Int.reduceLT, Int.reduceEq, Int.reduceNe, di]
  unfold pairErr
  rfl

theorem p_openPair {p : Pair} (h : Sm p) : Contract Tryz.prog 215 [lpI p] (.tup [lpI p, .int .i64 (pairErr p)]) := by
  refine contract_run Tryz.func215 k215 rfl ?_
  simp only [lpI, body215, b215, res215, lkE, ↓reduceIte, reduceCtorEq, Nat.reduceEqDiff, Nat.reduceAdd, Nat.reduceMul, Nat.reduceSub, Nat.reduceLeDiff, Nat.reduceBEq, Int.reduceToNat, Int.reduceLE, Int.reduceLT, Int.reduceEq, Int.reduceNe, di]
  refine calls_of (p_CheckPair h) ?_; simp only [lkE, res215, ↓reduceIte, reduceCtorEq, Nat.reduceEqDiff, Nat.reduceAdd, Nat.reduceMul, Nat.reduceSub, Nat.reduceLeDiff, Nat.reduceBEq, Int.reduceToNat, Int.reduceLE, Int.reduceLT, Int.reduceEq, Int.reduceNe, di]

theorem p_stateErr {p : Pair} {s : Sta} (h : VPair p) : Contract Tryz.prog 216 [lpI p, stI s] (.int .i64 (if stOk p s then 0 else 2)) := by
  have hu := valid_len h.u
  have hl := valid_len h.l
  unfold stOk
  refine contract_run Tryz.func216 k216 rfl ?_
  simp only [lpI, stI, body216, b216, res216, lkE, ↓reduceIte, reduceCtorEq, Nat.reduceEqDiff, Nat.reduceAdd, Nat.reduceMul, Nat.reduceSub, Nat.reduceLeDiff, Nat.reduceBEq, Int.reduceToNat, Int.reduceLE, Int.reduceLT, Int.reduceEq, Int.reduceNe, di]
  repeat (refine And.intro (by omega) ?_)
  refine calls_of (p_holds hu.1 hu.2) ?_; simp only [lkE, res216, ↓reduceIte, reduceCtorEq, Nat.reduceEqDiff, Nat.reduceAdd, Nat.reduceMul, Nat.reduceSub, Nat.reduceLeDiff, Nat.reduceBEq, Int.reduceToNat, Int.reduceLE, Int.reduceLT, Int.reduceEq, Int.reduceNe, di]
  split
  · rename_i h1
    repeat (refine And.intro (by omega) ?_)
    refine calls_of (p_holds hl.1 hl.2) ?_; simp only [lkE, res216, ↓reduceIte, reduceCtorEq, Nat.reduceEqDiff, Nat.reduceAdd, Nat.reduceMul, Nat.reduceSub, Nat.reduceLeDiff, Nat.reduceBEq, Int.reduceToNat, Int.reduceLE, Int.reduceLT, Int.reduceEq, Int.reduceNe, di]
    refine calls_of p_unless ?_; simp only [lkE, res216, ↓reduceIte, reduceCtorEq, Nat.reduceEqDiff, Nat.reduceAdd, Nat.reduceMul, Nat.reduceSub, Nat.reduceLeDiff, Nat.reduceBEq, Int.reduceToNat, Int.reduceLE, Int.reduceLT, Int.reduceEq, Int.reduceNe, di]
    simp [h1]
  · rename_i h1
    refine calls_of p_unless ?_; simp only [lkE, res216, ↓reduceIte, reduceCtorEq, Nat.reduceEqDiff, Nat.reduceAdd, Nat.reduceMul, Nat.reduceSub, Nat.reduceLeDiff, Nat.reduceBEq, Int.reduceToNat, Int.reduceLE, Int.reduceLT, Int.reduceEq, Int.reduceNe, di]
    simp [h1]

theorem p_openState {p : Pair} {s : Sta} (h : Sm p) : Contract Tryz.prog 123 [lpI p, stI s] (.tup [lpI p, .int .i64 (bothErr p s)]) := by
  refine contract_run Tryz.func123 k123 rfl ?_
  simp only [body123, b123, res123, b123k0, lkE, ↓reduceIte, reduceCtorEq, Nat.reduceEqDiff, Nat.reduceAdd, Nat.reduceMul, Nat.reduceSub, Nat.reduceLeDiff, Nat.reduceBEq, Int.reduceToNat, Int.reduceLE, Int.reduceLT, Int.reduceEq, Int.reduceNe, di]
  refine calls_of (p_openPair h) ?_; simp only [lkE, res123, b123k0, ↓reduceIte, reduceCtorEq, Nat.reduceEqDiff, Nat.reduceAdd, Nat.reduceMul, Nat.reduceSub, Nat.reduceLeDiff, Nat.reduceBEq, Int.reduceToNat, Int.reduceLE, Int.reduceLT, Int.reduceEq, Int.reduceNe, di]
  unfold bothErr
  split
  · rename_i h1
    refine calls_of (p_stateErr (pairErr_ok.1 h1)) ?_; simp only [lkE, res123, b123k0, ↓reduceIte, reduceCtorEq, Nat.reduceEqDiff, Nat.reduceAdd, Nat.reduceMul, Nat.reduceSub, Nat.reduceLeDiff, Nat.reduceBEq, Int.reduceToNat, Int.reduceLE, Int.reduceLT, Int.reduceEq, Int.reduceNe, di]
  · rename_i h1
    rfl

theorem p_isFlow {n : Int} : Contract Tryz.prog 269 [.int .i64 n] (.bool (decide (Wi n 0 10000000))) := by
  refine contract_run Tryz.func269 k269 rfl ?_
  simp only [body269, b269, res269, lkE, ↓reduceIte, reduceCtorEq, Nat.reduceEqDiff, Nat.reduceAdd, Nat.reduceMul, Nat.reduceSub, Nat.reduceLeDiff, Nat.reduceBEq, Int.reduceToNat, Int.reduceLE, Int.reduceLT, Int.reduceEq, Int.reduceNe, di]
  refine calls_of p_within ?_; simp only [lkE, res269, ↓reduceIte, reduceCtorEq, Nat.reduceEqDiff, Nat.reduceAdd, Nat.reduceMul, Nat.reduceSub, Nat.reduceLeDiff, Nat.reduceBEq, Int.reduceToNat, Int.reduceLE, Int.reduceLT, Int.reduceEq, Int.reduceNe, di]

theorem p_flowsErr {x : Flow} : Contract Tryz.prog 207 [flI x] (.int .i64 (flowErr x)) := by
  unfold flowErr flowOk
  refine contract_run Tryz.func207 k207 rfl ?_
  simp only [body207, b207, res207, lkE, ↓reduceIte, reduceCtorEq, Nat.reduceEqDiff, Nat.reduceAdd, Nat.reduceMul, Nat.reduceSub, Nat.reduceLeDiff, Nat.reduceBEq, Int.reduceToNat, Int.reduceLE, Int.reduceLT, Int.reduceEq, Int.reduceNe, di]
  refine calls_of p_isFlow ?_; simp only [lkE, res207, ↓reduceIte, reduceCtorEq, Nat.reduceEqDiff, Nat.reduceAdd, Nat.reduceMul, Nat.reduceSub, Nat.reduceLeDiff, Nat.reduceBEq, Int.reduceToNat, Int.reduceLE, Int.reduceLT, Int.reduceEq, Int.reduceNe, di]
  split
  · rename_i h1
    refine calls_of p_isFlow ?_; simp only [lkE, res207, ↓reduceIte, reduceCtorEq, Nat.reduceEqDiff, Nat.reduceAdd, Nat.reduceMul, Nat.reduceSub, Nat.reduceLeDiff, Nat.reduceBEq, Int.reduceToNat, Int.reduceLE, Int.reduceLT, Int.reduceEq, Int.reduceNe, di]
    split
    · rename_i h2
      refine calls_of p_within ?_; simp only [lkE, res207, ↓reduceIte, reduceCtorEq, Nat.reduceEqDiff, Nat.reduceAdd, Nat.reduceMul, Nat.reduceSub, Nat.reduceLeDiff, Nat.reduceBEq, Int.reduceToNat, Int.reduceLE, Int.reduceLT, Int.reduceEq, Int.reduceNe, di]
      refine calls_of p_unless ?_; simp only [lkE, res207, ↓reduceIte, reduceCtorEq, Nat.reduceEqDiff, Nat.reduceAdd, Nat.reduceMul, Nat.reduceSub, Nat.reduceLeDiff, Nat.reduceBEq, Int.reduceToNat, Int.reduceLE, Int.reduceLT, Int.reduceEq, Int.reduceNe, di]
      simp [h1, h2]
    · rename_i h2
      refine calls_of p_unless ?_; simp only [lkE, res207, ↓reduceIte, reduceCtorEq, Nat.reduceEqDiff, Nat.reduceAdd, Nat.reduceMul, Nat.reduceSub, Nat.reduceLeDiff, Nat.reduceBEq, Int.reduceToNat, Int.reduceLE, Int.reduceLT, Int.reduceEq, Int.reduceNe, di]
      simp [h1, h2]
  · rename_i h1
    refine calls_of p_unless ?_; simp only [lkE, res207, ↓reduceIte, reduceCtorEq, Nat.reduceEqDiff, Nat.reduceAdd, Nat.reduceMul, Nat.reduceSub, Nat.reduceLeDiff, Nat.reduceBEq, Int.reduceToNat, Int.reduceLE, Int.reduceLT, Int.reduceEq, Int.reduceNe, di]
    simp [h1]

theorem p_evaporated {l : List Kn} {v rate : Int} (h : Valid l) (hv : isV l v) (hr : Wi rate 0 1000) : Contract Tryz.prog 217 [tabI l, .int .i64 v, .int .i64 rate] (.int .i64 (evap l rate v)) := by
  have hz := valid_len h
  have hb := p_byVolume h hv.2
  obtain ⟨i, hi, i1, i2, i3, i4, i5⟩ := at_volume h hv
  have dp := dh_pos h i1 i2
  have dq := dv_pos h i1 i2
  have ka := kb_valid h i2
  have kb := kb_valid h (i := i - 1) (by omega)
  have rb := h.range (i := 0) hz.1
  have rt := h.range (i := i) i2
  have hm := mul_bd (x := rate) (y := dv l i) (by unfold Wi at hr; omega) (by unfold Wi at hr; omega) (by omega) (by omega)
  have hm0 : 0 ≤ rate * dv l i := Int.mul_nonneg hr.1 (by omega)
  have hbv := hv.1
  unfold bot at hbv
  have hq := ediv_bd (n := rate * dv l i) (d := 1000 * dh l i) (by omega) (by omega) (by omega)
  rw [hi] at hb
  refine contract_run Tryz.func217 k217 rfl ?_
  simp only [body217, b217, res217, lkE, ↓reduceIte, reduceCtorEq, Nat.reduceEqDiff, Nat.reduceAdd, Nat.reduceMul, Nat.reduceSub, Nat.reduceLeDiff, Nat.reduceBEq, Int.reduceToNat, Int.reduceLE, Int.reduceLT, Int.reduceEq, Int.reduceNe, di]
  refine calls_of hb ?_; simp only [lkE, res217, ↓reduceIte, reduceCtorEq, Nat.reduceEqDiff, Nat.reduceAdd, Nat.reduceMul, Nat.reduceSub, Nat.reduceLeDiff, Nat.reduceBEq, Int.reduceToNat, Int.reduceLE, Int.reduceLT, Int.reduceEq, Int.reduceNe, di]
  refine calls_of (p_volume kb ka) ?_; simp only [lkE, res217, ↓reduceIte, reduceCtorEq, Nat.reduceEqDiff, Nat.reduceAdd, Nat.reduceMul, Nat.reduceSub, Nat.reduceLeDiff, Nat.reduceBEq, Int.reduceToNat, Int.reduceLE, Int.reduceLT, Int.reduceEq, Int.reduceNe, di]
  refine calls_of (p_height kb ka) ?_; simp only [lkE, res217, ↓reduceIte, reduceCtorEq, Nat.reduceEqDiff, Nat.reduceAdd, Nat.reduceMul, Nat.reduceSub, Nat.reduceLeDiff, Nat.reduceBEq, Int.reduceToNat, Int.reduceLE, Int.reduceLT, Int.reduceEq, Int.reduceNe, di]
  rw [show (kn l i).2 - (kn l (i - 1)).2 = dv l i from rfl, show (kn l i).1 - (kn l (i - 1)).1 = dh l i from rfl]
  rw [wrap64 (n := rate * dv l i) (by omega) (by omega), wrap64 (n := 1000 * dh l i) (by omega) (by omega), Int.tdiv_eq_ediv_of_nonneg hm0]
  refine ⟨by omega, ?_⟩
  refine calls_of (p_bottom hz.1) ?_; simp only [lkE, res217, ↓reduceIte, reduceCtorEq, Nat.reduceEqDiff, Nat.reduceAdd, Nat.reduceMul, Nat.reduceSub, Nat.reduceLeDiff, Nat.reduceBEq, Int.reduceToNat, Int.reduceLE, Int.reduceLT, Int.reduceEq, Int.reduceNe, di]
  unfold evap
  rw [hi, wrap64 (n := rate * dv l i / (1000 * dh l i)) (by omega) (by omega), wrap64 (n := v - (bot l).2) (by unfold bot; omega) (by unfold bot; omega)]

def stepI (r : Option (Sta × Int × Int)) : IV := match r with
  | some (t, e, f) => .tup [.agg [.int .i64 t.1, .int .i64 t.2], .agg [.int .i64 e, .int .i64 f], .bool true]
  | none => .tup [.agg [.int .i64 0, .int .i64 0], .agg [.int .i64 0, .int .i64 0], .bool false]

/-- A round of a loop, entered. -/
theorem run_round {P : Program} {k : List KF} {Q : Ex → St → Prop} {st : St} {live ids : List Nat} {a c : DCode} (hc : c = .keep live ids a) (h : run P a (.again c :: k) Q (st.keep live ids)) : run P (.loop c) k Q st := by
  subst hc
  exact run_loop h

theorem lakeStep_none {l : List Kn} {rate v g : Int} (h : v + g - evap l rate v < (bot l).2) : lakeStep l rate v g = none := by
  unfold lakeStep; dsimp only; rw [if_pos h]
theorem lakeStep_go {l : List Kn} {rate v g : Int} (h : ¬ v + g - evap l rate v < (bot l).2) : lakeStep l rate v g = some (v + g - evap l rate v - max 0 (v + g - evap l rate v - (top l).2), evap l rate v, max 0 (v + g - evap l rate v - (top l).2)) := by
  unfold lakeStep; dsimp only; rw [if_neg h]

theorem p_step {p : Pair} {s : Sta} {x : Flow} (h : VPair p) (hs : stOk p s) (hx : flowOk x) : Contract Tryz.prog 125 [lpI p, stI s, flI x] (stepI (Lk.step p s x)) := by
  have zu := valid_len h.u
  have zl := valid_len h.l
  have vu := hs.1
  have vl := hs.2
  have eu := evap_in h.u vu h.r.1
  have el := evap_in h.l vl h.r.1
  have pu := p_evaporated h.u vu h.r
  have pl := p_evaporated h.l vl h.r
  have bu := h.u.range (i := 0) zu.1
  have bl := h.l.range (i := 0) zl.1
  have tu := h.u.range (i := p.u.length - 1) (by omega)
  have tl := h.l.range (i := p.l.length - 1) (by omega)
  have cu : (bot p.u).2 = (kn p.u 0).2 := rfl
  have cl : (bot p.l).2 = (kn p.l 0).2 := rfl
  have du : (top p.u).2 = (kn p.u (p.u.length - 1)).2 := rfl
  have dl : (top p.l).2 = (kn p.l (p.l.length - 1)).2 := rfl
  have vu1 := vu.1
  have vu2 := vu.2
  have vl1 := vl.1
  have vl2 := vl.2
  obtain ⟨⟨x1, x2⟩, ⟨x3, x4⟩, ⟨x5, x6⟩⟩ := hx
  have w1 : IntKind.wrap .i64 (x.up + x.ex) = x.up + x.ex := wrap64 (by omega) (by omega)
  have w2 : IntKind.wrap .i64 (x.low - x.ex) = x.low - x.ex := wrap64 (by omega) (by omega)
  have hU := lakeStep_none (l := p.u) (rate := p.rate) (v := s.1) (g := x.up + x.ex)
  have hU' := lakeStep_go (l := p.u) (rate := p.rate) (v := s.1) (g := x.up + x.ex)
  have hL := lakeStep_none (l := p.l) (rate := p.rate) (v := s.2) (g := x.low - x.ex)
  have hL' := lakeStep_go (l := p.l) (rate := p.rate) (v := s.2) (g := x.low - x.ex)
  unfold Lk.step
  generalize evap p.u p.rate s.1 = ea at *
  generalize evap p.l p.rate s.2 = eb at *
  refine contract_run Tryz.func125 k125 rfl ?_
  simp only [body125, b125, res125, b125k0, b125k1, b125k2, b125k3, w1, w2, lkE, ↓reduceIte, reduceCtorEq, Nat.reduceEqDiff, Nat.reduceAdd, Nat.reduceMul, Nat.reduceSub, Nat.reduceLeDiff, Nat.reduceBEq, Int.reduceToNat, Int.reduceLE, Int.reduceLT, Int.reduceEq, Int.reduceNe, di]
  have k1 : IntKind.wrap .i64 (x.up + x.ex - ea) = x.up + x.ex - ea := wrap64 (by omega) (by omega)
  have k2 : IntKind.wrap .i64 (s.1 + (x.up + x.ex - ea)) = s.1 + (x.up + x.ex - ea) := wrap64 (by omega) (by omega)
  have k3 : IntKind.wrap .i64 (x.low - x.ex - eb) = x.low - x.ex - eb := wrap64 (by omega) (by omega)
  have k4 : IntKind.wrap .i64 (s.2 + (x.low - x.ex - eb)) = s.2 + (x.low - x.ex - eb) := wrap64 (by omega) (by omega)
  have k5 : IntKind.wrap .i64 ea = ea := wrap64 (by omega) (by omega)
  have k6 : IntKind.wrap .i64 (ea + eb) = ea + eb := wrap64 (by omega) (by omega)
  refine run_round rfl ?_
  simp only [res125, b125k0, b125k1, b125k2, b125k3, lkE, ↓reduceIte, reduceCtorEq, Nat.reduceEqDiff, Nat.reduceAdd, Nat.reduceMul, Nat.reduceSub, Nat.reduceLeDiff, Nat.reduceBEq, Int.reduceToNat, Int.reduceLE, Int.reduceLT, Int.reduceEq, Int.reduceNe, di]
  repeat (refine And.intro (by omega) ?_)
  refine calls_of pu ?_; simp only [lkE, res125, b125k0, b125k1, b125k2, b125k3, ↓reduceIte, reduceCtorEq, Nat.reduceEqDiff, Nat.reduceAdd, Nat.reduceMul, Nat.reduceSub, Nat.reduceLeDiff, Nat.reduceBEq, Int.reduceToNat, Int.reduceLE, Int.reduceLT, Int.reduceEq, Int.reduceNe, di]
  repeat (refine And.intro (by omega) ?_)
  refine calls_of (p_bottom zu.1) ?_; simp only [lkE, res125, b125k0, b125k1, b125k2, b125k3, ↓reduceIte, reduceCtorEq, Nat.reduceEqDiff, Nat.reduceAdd, Nat.reduceMul, Nat.reduceSub, Nat.reduceLeDiff, Nat.reduceBEq, Int.reduceToNat, Int.reduceLE, Int.reduceLT, Int.reduceEq, Int.reduceNe, di]
  simp only [k1, k2]
  have mU : s.1 + (x.up + x.ex - ea) = s.1 + (x.up + x.ex) - ea := by omega
  have mL : s.2 + (x.low - x.ex - eb) = s.2 + (x.low - x.ex) - eb := by omega
  split
  · rename_i h1
    rw [hU (by omega)]
    rfl
  · rename_i h1
    rw [hU' (by omega)]
    repeat (refine And.intro (by omega) ?_)
    refine calls_of (p_top zu.1 zu.2) ?_; simp only [lkE, res125, b125k0, b125k1, b125k2, b125k3, ↓reduceIte, reduceCtorEq, Nat.reduceEqDiff, Nat.reduceAdd, Nat.reduceMul, Nat.reduceSub, Nat.reduceLeDiff, Nat.reduceBEq, Int.reduceToNat, Int.reduceLE, Int.reduceLT, Int.reduceEq, Int.reduceNe, di]
    have k7 : IntKind.wrap .i64 (s.1 + (x.up + x.ex - ea) - (top p.u).2) = s.1 + (x.up + x.ex - ea) - (top p.u).2 := wrap64 (by omega) (by omega)
    have k8 : IntKind.wrap .i64 (max 0 (s.1 + (x.up + x.ex - ea) - (top p.u).2)) = max 0 (s.1 + (x.up + x.ex - ea) - (top p.u).2) := wrap64 (by omega) (by omega)
    have k9 : IntKind.wrap .i64 (s.1 + (x.up + x.ex - ea) - max 0 (s.1 + (x.up + x.ex - ea) - (top p.u).2)) = s.1 + (x.up + x.ex - ea) - max 0 (s.1 + (x.up + x.ex - ea) - (top p.u).2) := wrap64 (by omega) (by omega)
    simp only [k5, k7, k8, k9, Int.zero_add]
    repeat (refine And.intro (by omega) ?_)
    have hfa : 0 ≤ max 0 (s.1 + (x.up + x.ex - ea) - (top p.u).2) ∧ max 0 (s.1 + (x.up + x.ex - ea) - (top p.u).2) ≤ 20000000 := by omega
    rw [mU] at *
    generalize max 0 (s.1 + (x.up + x.ex) - ea - (top p.u).2) = fa at *
    generalize s.1 + (x.up + x.ex) - ea = va at *
    have q1 : IntKind.wrap .i64 1 = 1 := wrap64 (by omega) (by omega)
    have q2 : IntKind.wrap .i64 (1 + 1) = 2 := wrap64 (by omega) (by omega)
    refine run_round rfl ?_
    simp only [q1, res125, b125k0, b125k1, b125k2, b125k3, lkE, ↓reduceIte, reduceCtorEq, Nat.reduceEqDiff, Nat.reduceAdd, Nat.reduceMul, Nat.reduceSub, Nat.reduceLeDiff, Nat.reduceBEq, Int.reduceToNat, Int.reduceLE, Int.reduceLT, Int.reduceEq, Int.reduceNe, di]
    repeat (refine And.intro (by omega) ?_)
    refine calls_of pl ?_; simp only [lkE, res125, b125k0, b125k1, b125k2, b125k3, ↓reduceIte, reduceCtorEq, Nat.reduceEqDiff, Nat.reduceAdd, Nat.reduceMul, Nat.reduceSub, Nat.reduceLeDiff, Nat.reduceBEq, Int.reduceToNat, Int.reduceLE, Int.reduceLT, Int.reduceEq, Int.reduceNe, di]
    repeat (refine And.intro (by omega) ?_)
    refine calls_of (p_bottom zl.1) ?_; simp only [lkE, res125, b125k0, b125k1, b125k2, b125k3, ↓reduceIte, reduceCtorEq, Nat.reduceEqDiff, Nat.reduceAdd, Nat.reduceMul, Nat.reduceSub, Nat.reduceLeDiff, Nat.reduceBEq, Int.reduceToNat, Int.reduceLE, Int.reduceLT, Int.reduceEq, Int.reduceNe, di]
    simp only [k3, k4]
    split
    · rename_i h2
      rw [hL (by omega)]
      rfl
    · rename_i h2
      rw [hL' (by omega)]
      repeat (refine And.intro (by omega) ?_)
      refine calls_of (p_top zl.1 zl.2) ?_; simp only [lkE, res125, b125k0, b125k1, b125k2, b125k3, ↓reduceIte, reduceCtorEq, Nat.reduceEqDiff, Nat.reduceAdd, Nat.reduceMul, Nat.reduceSub, Nat.reduceLeDiff, Nat.reduceBEq, Int.reduceToNat, Int.reduceLE, Int.reduceLT, Int.reduceEq, Int.reduceNe, di]
      have k10 : IntKind.wrap .i64 (s.2 + (x.low - x.ex - eb) - (top p.l).2) = s.2 + (x.low - x.ex - eb) - (top p.l).2 := wrap64 (by omega) (by omega)
      have k12 : IntKind.wrap .i64 (s.2 + (x.low - x.ex - eb) - max 0 (s.2 + (x.low - x.ex - eb) - (top p.l).2)) = s.2 + (x.low - x.ex - eb) - max 0 (s.2 + (x.low - x.ex - eb) - (top p.l).2) := wrap64 (by omega) (by omega)
      have k13 : IntKind.wrap .i64 (fa + max 0 (s.2 + (x.low - x.ex - eb) - (top p.l).2)) = fa + max 0 (s.2 + (x.low - x.ex - eb) - (top p.l).2) := wrap64 (by omega) (by omega)
      simp only [k6, k10, k12, k13]
      repeat (refine And.intro (by omega) ?_)
      rw [mL] at *
      generalize max 0 (s.2 + (x.low - x.ex) - eb - (top p.l).2) = fb at *
      generalize s.2 + (x.low - x.ex) - eb = vb at *
      refine run_round rfl ?_
      simp only [q2, res125, b125k0, b125k1, b125k2, b125k3, lkE, ↓reduceIte, reduceCtorEq, Nat.reduceEqDiff, Nat.reduceAdd, Nat.reduceMul, Nat.reduceSub, Nat.reduceLeDiff, Nat.reduceBEq, Int.reduceToNat, Int.reduceLE, Int.reduceLT, Int.reduceEq, Int.reduceNe, di]
      repeat (refine And.intro (by omega) ?_)
      rfl
end Go.DI

