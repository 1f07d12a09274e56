/- Law: from the state of a steady oscillation at a tick the grid reaches that at the next tick; at a resonance its closing is always 0. No condition. -/
import Derived.Test.YtadmimjaelodkaaWgs
import Derived.Test.YtadmimjaelodkaaWgm
import Derived.Test.YtadmimjaelodkaaWgza
set_option linter.unusedSimpArgs false
set_option maxRecDepth 100000
namespace Go.DI
open Go.Proofs Go.RowKit

theorem few_satS {u : Sty} {t : Int} (hs : FewG u) : FewS (satS u t) := by
 refine ⟨?_, ?_, ?_⟩
 ·show (reL _ _).length ≤ _; unfold reL; rw [List.length_map]; exact hs.1
 ·show (reL _ _).length ≤ _; unfold reL; rw [List.length_map]; exact hs.2.1
 ·show (reL _ _).length ≤ _; unfold reL; rw [List.length_map]; exact hs.2.2
theorem tail_WaveAgree {x : Ln} {u : Sty} (hx : Few x) (hxo : LineOk x) (hl : u.F.length ≤ 30 ∧ u.B.length ≤ 30 ∧ u.L.length ≤ 10) (hz : stdE x u = 0)
  (ok : ∀ t, StateOk (opn x) (satS u t)) (tick : ∀ t, stp (opn x) (satS u t) (gmul (turnG (satP u (t + 1))) u.c).1 = satS u (t + 1)) :
  run Try.prog b16k7 [] (d16.post (.bool true)) (mkS [(3, .ref 3 0), (7, .ref 7 0)]
   [(3, .box [.imm (.slc 2 (x.pp.map ppI)), .imm (nI x.ar)]), (7, .box [.imm (.int .i64 u.q), .imm (.slc 2 (u.F.map gI)), .imm (.slc 2 (u.B.map gI)), .imm (.slc 2 (u.L.map gI)), .imm (.int .i64 u.c.1), .imm (.int .i64 u.c.2)])]) := by
 have hs : FewG u := ⟨by omega, by omega, by omega⟩
 have q3 := r_CopySteady hs
 have sat : ∀ t : Int, 0 ≤ t → t ≤ 4 → Contract Try.prog 79 [lnI x, stdI u, .int .i64 t] (.tup [wsI (satS u t), .int .i64 (gmul (turnG (satP u t)) u.c).1, .int .i64 0]) := by
  intro t h0 h1
  have e : satE x u t = 0 := fstE_zero.2 ⟨hz, tickE_zero.2 ⟨h0, by omega⟩⟩
  have w := w_StateAt (t := t) hx hs
  rw [show satZ x u t = satS u t by unfold satZ; rw [if_pos e], show satC x u t = (gmul (turnG (satP u t)) u.c).1 by unfold satC; rw [if_pos e], e] at w
  exact w
 have fS : ∀ t, FewS (satS u t) := fun t => few_satS hs
 have st0 : ∀ t, stE x (satS u t) = 0 := fun t => stE_zero.2 ⟨hxo, ok t⟩
 have q0 := sat 0 (by decide) (by decide)
 simp only [stdI] at q3 sat q0
 simp only [body16, b16, res16, b16k8, b16k9, b16k10, b16k7, vaE, ↓reduceIte, reduceCtorEq, Nat.reduceEqDiff, Nat.reduceAdd, Nat.reduceMul, Nat.reduceSub, Nat.reduceLeDiff, Nat.reduceBEq, Int.reduceToNat, Int.reduceLE, Int.reduceLT, Int.reduceEq, Int.reduceNe, di]
 refine calls_of (r_CopyLine hx) ?_; simp only [vaE, res16, b16k0, b16k1, b16k2, b16k3, b16k4, b16k5, b16k6, b16k7, b16k8, b16k9, b16k10, ↓reduceIte, reduceCtorEq, Nat.reduceEqDiff, Nat.reduceAdd, Nat.reduceMul, Nat.reduceSub, Nat.reduceLeDiff, Nat.reduceBEq, Int.reduceToNat, Int.reduceLE, Int.reduceLT, Int.reduceEq, Int.reduceNe, di]
 refine calls_of q3 ?_; simp only [vaE, res16, b16k0, b16k1, b16k2, b16k3, b16k4, b16k5, b16k6, b16k7, b16k8, b16k9, b16k10, ↓reduceIte, reduceCtorEq, Nat.reduceEqDiff, Nat.reduceAdd, Nat.reduceMul, Nat.reduceSub, Nat.reduceLeDiff, Nat.reduceBEq, Int.reduceToNat, Int.reduceLE, Int.reduceLT, Int.reduceEq, Int.reduceNe, di]
 refine calls_of q0 ?_; simp only [vaE, res16, b16k0, b16k1, b16k2, b16k3, b16k4, b16k5, b16k6, b16k7, b16k8, b16k9, b16k10, ↓reduceIte, reduceCtorEq, Nat.reduceEqDiff, Nat.reduceAdd, Nat.reduceMul, Nat.reduceSub, Nat.reduceLeDiff, Nat.reduceBEq, Int.reduceToNat, Int.reduceLE, Int.reduceLT, Int.reduceEq, Int.reduceNe, di]
 refine calls_of (l_fewCells (s := satS u 0)) ?_; simp only [vaE, res16, b16k0, b16k1, b16k2, b16k3, b16k4, b16k5, b16k6, b16k7, b16k8, b16k9, b16k10, ↓reduceIte, reduceCtorEq, Nat.reduceEqDiff, Nat.reduceAdd, Nat.reduceMul, Nat.reduceSub, Nat.reduceLeDiff, Nat.reduceBEq, Int.reduceToNat, Int.reduceLE, Int.reduceLT, Int.reduceEq, Int.reduceNe, di]
 have hl0 : (satS u 0).F.length ≤ 30 ∧ (satS u 0).B.length ≤ 30 ∧ (satS u 0).L.length ≤ 10 := by
  refine ⟨?_, ?_, ?_⟩
  ·show (reL _ _).length ≤ _; unfold reL; rw [List.length_map]; exact hl.1
  ·show (reL _ _).length ≤ _; unfold reL; rw [List.length_map]; exact hl.2.1
  ·show (reL _ _).length ≤ _; unfold reL; rw [List.length_map]; exact hl.2.2
 simp only [hl0, and_self, vaE, ↓reduceIte, reduceCtorEq, Nat.reduceEqDiff, Nat.reduceAdd, Nat.reduceMul, Nat.reduceSub, Nat.reduceLeDiff, Nat.reduceBEq, Int.reduceToNat, Int.reduceLE, Int.reduceLT, Int.reduceEq, Int.reduceNe, di]
 refine calls_of (r_CopyState (fS 0)) ?_; simp only [vaE, res16, b16k0, b16k1, b16k2, b16k3, b16k4, b16k5, b16k6, b16k7, b16k8, b16k9, b16k10, ↓reduceIte, reduceCtorEq, Nat.reduceEqDiff, Nat.reduceAdd, Nat.reduceMul, Nat.reduceSub, Nat.reduceLeDiff, Nat.reduceBEq, Int.reduceToNat, Int.reduceLE, Int.reduceLT, Int.reduceEq, Int.reduceNe, di]
 refine loop_keep (α := Nat) rfl (fun k => 4 - k) (fun k => k ≤ 4)
  (fun k => [(3, .ref 3 0), (7, .ref 7 0), (11, .ref 11 0), (14, .ref 14 0), (15, .imm (.int .i64 ((k : Int) + 1)))])
  (fun k => [(3, .box [.imm (.slc 2 (x.pp.map ppI)), .imm (nI x.ar)]), (7, .box [.imm (.int .i64 u.q), .imm (.slc 2 (u.F.map gI)), .imm (.slc 2 (u.B.map gI)), .imm (.slc 2 (u.L.map gI)), .imm (.int .i64 u.c.1), .imm (.int .i64 u.c.2)]),
   (11, .box [.imm (nI (satS u k).F), .imm (nI (satS u k).B), .imm (nI (satS u k).L)]), (14, .box [.imm (nI (satS u 0).F), .imm (nI (satS u 0).B), .imm (nI (satS u 0).L)])]) 0 (Nat.zero_le _) (by simp only [vaE, ↓reduceIte, reduceCtorEq, Nat.reduceEqDiff, Nat.reduceAdd, Nat.reduceMul, Nat.reduceSub, Nat.reduceLeDiff, Nat.reduceBEq, Int.reduceToNat, Int.reduceLE, Int.reduceLT, Int.reduceEq, Int.reduceNe, di] <;> rfl) ?_
 intro k hk ih
 simp only [res16, b16k0, b16k1, b16k2, b16k3, b16k4, b16k5, b16k6, b16k7, b16k8, b16k9, b16k10, vaE, ↓reduceIte, reduceCtorEq, Nat.reduceEqDiff, Nat.reduceAdd, Nat.reduceMul, Nat.reduceSub, Nat.reduceLeDiff, Nat.reduceBEq, Int.reduceToNat, Int.reduceLE, Int.reduceLT, Int.reduceEq, Int.reduceNe, di]
 split
 rotate_left
 ·rename_i hge
  have hk4 : k = 4 := by omega
  subst hk4
  have e4 : satS u ((4 : Nat) : Int) = satS u 0 := rfl
  rw [e4]
  refine calls_of (r_SameState (a := satS u 0) (b := satS u 0) (fS 0)) ?_; simp only [vaE, res16, b16k0, b16k1, b16k2, b16k3, b16k4, b16k5, b16k6, b16k7, b16k8, b16k9, b16k10, ↓reduceIte, reduceCtorEq, Nat.reduceEqDiff, Nat.reduceAdd, Nat.reduceMul, Nat.reduceSub, Nat.reduceLeDiff, Nat.reduceBEq, Int.reduceToNat, Int.reduceLE, Int.reduceLT, Int.reduceEq, Int.reduceNe, di]
 rename_i hlt0
 have qk := sat ((k : Int) + 1) (by omega) (by omega)
 have tk := tick (k : Int)
 have s0 := st0 (k : Int)
 refine calls_of (r_CopyLine hx) ?_; simp only [vaE, res16, b16k0, b16k1, b16k2, b16k3, b16k4, b16k5, b16k6, b16k7, b16k8, b16k9, b16k10, ↓reduceIte, reduceCtorEq, Nat.reduceEqDiff, Nat.reduceAdd, Nat.reduceMul, Nat.reduceSub, Nat.reduceLeDiff, Nat.reduceBEq, Int.reduceToNat, Int.reduceLE, Int.reduceLT, Int.reduceEq, Int.reduceNe, di]
 refine calls_of q3 ?_; simp only [vaE, res16, b16k0, b16k1, b16k2, b16k3, b16k4, b16k5, b16k6, b16k7, b16k8, b16k9, b16k10, ↓reduceIte, reduceCtorEq, Nat.reduceEqDiff, Nat.reduceAdd, Nat.reduceMul, Nat.reduceSub, Nat.reduceLeDiff, Nat.reduceBEq, Int.reduceToNat, Int.reduceLE, Int.reduceLT, Int.reduceEq, Int.reduceNe, di]
 refine calls_of qk ?_; simp only [vaE, res16, b16k0, b16k1, b16k2, b16k3, b16k4, b16k5, b16k6, b16k7, b16k8, b16k9, b16k10, ↓reduceIte, reduceCtorEq, Nat.reduceEqDiff, Nat.reduceAdd, Nat.reduceMul, Nat.reduceSub, Nat.reduceLeDiff, Nat.reduceBEq, Int.reduceToNat, Int.reduceLE, Int.reduceLT, Int.reduceEq, Int.reduceNe, di]
 refine calls_of (r_StateErr hx (fS k)) ?_; simp only [vaE, res16, b16k0, b16k1, b16k2, b16k3, b16k4, b16k5, b16k6, b16k7, b16k8, b16k9, b16k10, ↓reduceIte, reduceCtorEq, Nat.reduceEqDiff, Nat.reduceAdd, Nat.reduceMul, Nat.reduceSub, Nat.reduceLeDiff, Nat.reduceBEq, Int.reduceToNat, Int.reduceLE, Int.reduceLT, Int.reduceEq, Int.reduceNe, di]
 simp only [s0, vaE, ↓reduceIte, reduceCtorEq, Nat.reduceEqDiff, Nat.reduceAdd, Nat.reduceMul, Nat.reduceSub, Nat.reduceLeDiff, Nat.reduceBEq, Int.reduceToNat, Int.reduceLE, Int.reduceLT, Int.reduceEq, Int.reduceNe, di]
 refine calls_of r_ClosingErr ?_; simp only [vaE, res16, b16k0, b16k1, b16k2, b16k3, b16k4, b16k5, b16k6, b16k7, b16k8, b16k9, b16k10, ↓reduceIte, reduceCtorEq, Nat.reduceEqDiff, Nat.reduceAdd, Nat.reduceMul, Nat.reduceSub, Nat.reduceLeDiff, Nat.reduceBEq, Int.reduceToNat, Int.reduceLE, Int.reduceLT, Int.reduceEq, Int.reduceNe, di]
 by_cases hc : closeE (gmul (turnG (satP u ((k : Int) + 1))) u.c).1 = 0
 rotate_left
 ·simp only [hc, vaE, ↓reduceIte, reduceCtorEq, Nat.reduceEqDiff, Nat.reduceAdd, Nat.reduceMul, Nat.reduceSub, Nat.reduceLeDiff, Nat.reduceBEq, Int.reduceToNat, Int.reduceLE, Int.reduceLT, Int.reduceEq, Int.reduceNe, di]
 simp only [hc, vaE, ↓reduceIte, reduceCtorEq, Nat.reduceEqDiff, Nat.reduceAdd, Nat.reduceMul, Nat.reduceSub, Nat.reduceLeDiff, Nat.reduceBEq, Int.reduceToNat, Int.reduceLE, Int.reduceLT, Int.reduceEq, Int.reduceNe, di]
 have re : runE x (satS u k) [(gmul (turnG (satP u ((k : Int) + 1))) u.c).1] = 0 := by rw [runE_one s0]; exact hc
 have rz : runZ x (satS u k) [(gmul (turnG (satP u ((k : Int) + 1))) u.c).1] = satS u ((k : Int) + 1) := by
  unfold runZ
  rw [if_pos re]
  exact tk
 have w1 := w_Stepped' (c := (gmul (turnG (satP u ((k : Int) + 1))) u.c).1) hx (fS k)
 rw [rz, re] at w1
 refine calls_of (r_CopyLine hx) ?_; simp only [vaE, res16, b16k0, b16k1, b16k2, b16k3, b16k4, b16k5, b16k6, b16k7, b16k8, b16k9, b16k10, ↓reduceIte, reduceCtorEq, Nat.reduceEqDiff, Nat.reduceAdd, Nat.reduceMul, Nat.reduceSub, Nat.reduceLeDiff, Nat.reduceBEq, Int.reduceToNat, Int.reduceLE, Int.reduceLT, Int.reduceEq, Int.reduceNe, di]
 refine calls_of (r_CopyState (fS k)) ?_; simp only [vaE, res16, b16k0, b16k1, b16k2, b16k3, b16k4, b16k5, b16k6, b16k7, b16k8, b16k9, b16k10, ↓reduceIte, reduceCtorEq, Nat.reduceEqDiff, Nat.reduceAdd, Nat.reduceMul, Nat.reduceSub, Nat.reduceLeDiff, Nat.reduceBEq, Int.reduceToNat, Int.reduceLE, Int.reduceLT, Int.reduceEq, Int.reduceNe, di]
 refine calls_of w1 ?_; simp only [vaE, res16, b16k0, b16k1, b16k2, b16k3, b16k4, b16k5, b16k6, b16k7, b16k8, b16k9, b16k10, ↓reduceIte, reduceCtorEq, Nat.reduceEqDiff, Nat.reduceAdd, Nat.reduceMul, Nat.reduceSub, Nat.reduceLeDiff, Nat.reduceBEq, Int.reduceToNat, Int.reduceLE, Int.reduceLT, Int.reduceEq, Int.reduceNe, di]
 refine calls_of (r_SameState (a := satS u ((k : Int) + 1)) (b := satS u ((k : Int) + 1)) (fS _)) ?_; simp only [vaE, res16, b16k0, b16k1, b16k2, b16k3, b16k4, b16k5, b16k6, b16k7, b16k8, b16k9, b16k10, ↓reduceIte, reduceCtorEq, Nat.reduceEqDiff, Nat.reduceAdd, Nat.reduceMul, Nat.reduceSub, Nat.reduceLeDiff, Nat.reduceBEq, Int.reduceToNat, Int.reduceLE, Int.reduceLT, Int.reduceEq, Int.reduceNe, di]
 refine calls_of (r_CopyState (fS ((k : Int) + 1))) ?_; simp only [vaE, res16, b16k0, b16k1, b16k2, b16k3, b16k4, b16k5, b16k6, b16k7, b16k8, b16k9, b16k10, ↓reduceIte, reduceCtorEq, Nat.reduceEqDiff, Nat.reduceAdd, Nat.reduceMul, Nat.reduceSub, Nat.reduceLeDiff, Nat.reduceBEq, Int.reduceToNat, Int.reduceLE, Int.reduceLT, Int.reduceEq, Int.reduceNe, di]
 rw [wrap64 (n := (k : Int) + 1 + 1) (by omega) (by omega)]
 refine ih (k + 1) _ _ (by omega) (by omega) ?_
 rw [show ((k + 1 : Nat) : Int) = (k : Int) + 1 from rfl]
 simp only [vaE, ↓reduceIte, reduceCtorEq, Nat.reduceEqDiff, Nat.reduceAdd, Nat.reduceMul, Nat.reduceSub, Nat.reduceLeDiff, Nat.reduceBEq, Int.reduceToNat, Int.reduceLE, Int.reduceLT, Int.reduceEq, Int.reduceNe, di] <;> rfl
theorem l_WaveAgree {x : Ln} {h : Int} {g : Ga} : Contract Try.prog 16 [lnI x, .int .i64 h, gI g] (.bool true) := by
 refine contract_run Try.func16 k16 rfl ?_
 simp only [body16, b16, res16, b16k8, b16k9, b16k10, gI, vaE, ↓reduceIte, reduceCtorEq, Nat.reduceEqDiff, Nat.reduceAdd, Nat.reduceMul, Nat.reduceSub, Nat.reduceLeDiff, Nat.reduceBEq, Int.reduceToNat, Int.reduceLE, Int.reduceLT, Int.reduceEq, Int.reduceNe, di]
 refine calls_of l_awake ?_; simp only [vaE, res16, b16k8, b16k9, b16k10, ↓reduceIte, reduceCtorEq, Nat.reduceEqDiff, Nat.reduceAdd, Nat.reduceMul, Nat.reduceSub, Nat.reduceLeDiff, Nat.reduceBEq, Int.reduceToNat, Int.reduceLE, Int.reduceLT, Int.reduceEq, Int.reduceNe, di]
 refine calls_of l_few ?_; simp only [vaE, res16, b16k8, b16k9, b16k10, ↓reduceIte, reduceCtorEq, Nat.reduceEqDiff, Nat.reduceAdd, Nat.reduceMul, Nat.reduceSub, Nat.reduceLeDiff, Nat.reduceBEq, Int.reduceToNat, Int.reduceLE, Int.reduceLT, Int.reduceEq, Int.reduceNe, di]
 by_cases hf : x.pp.length ≤ 6 ∧ x.ar.length ≤ 6
 rotate_left
 ·simp only [hf, vaE, ↓reduceIte, reduceCtorEq, Nat.reduceEqDiff, Nat.reduceAdd, Nat.reduceMul, Nat.reduceSub, Nat.reduceLeDiff, Nat.reduceBEq, Int.reduceToNat, Int.reduceLE, Int.reduceLT, Int.reduceEq, Int.reduceNe, di]
 simp only [hf, vaE, ↓reduceIte, reduceCtorEq, Nat.reduceEqDiff, Nat.reduceAdd, Nat.reduceMul, Nat.reduceSub, Nat.reduceLeDiff, Nat.reduceBEq, Int.reduceToNat, Int.reduceLE, Int.reduceLT, Int.reduceEq, Int.reduceNe, di]
 have hx : Few x := ⟨by omega, by omega⟩
 refine calls_of (r_LineErr hx) ?_; simp only [vaE, res16, b16k8, b16k9, b16k10, ↓reduceIte, reduceCtorEq, Nat.reduceEqDiff, Nat.reduceAdd, Nat.reduceMul, Nat.reduceSub, Nat.reduceLeDiff, Nat.reduceBEq, Int.reduceToNat, Int.reduceLE, Int.reduceLT, Int.reduceEq, Int.reduceNe, di]
 by_cases h0 : (chkL x).2 = 0
 rotate_left
 ·simp only [h0, vaE, ↓reduceIte, reduceCtorEq, Nat.reduceEqDiff, Nat.reduceAdd, Nat.reduceMul, Nat.reduceSub, Nat.reduceLeDiff, Nat.reduceBEq, Int.reduceToNat, Int.reduceLE, Int.reduceLT, Int.reduceEq, Int.reduceNe, di]
 simp only [h0, vaE, ↓reduceIte, reduceCtorEq, Nat.reduceEqDiff, Nat.reduceAdd, Nat.reduceMul, Nat.reduceSub, Nat.reduceLeDiff, Nat.reduceBEq, Int.reduceToNat, Int.reduceLE, Int.reduceLT, Int.reduceEq, Int.reduceNe, di]
 have hxo := chkL_ok.1 h0
 refine calls_of r_QuarterErr ?_; simp only [vaE, res16, b16k8, b16k9, b16k10, ↓reduceIte, reduceCtorEq, Nat.reduceEqDiff, Nat.reduceAdd, Nat.reduceMul, Nat.reduceSub, Nat.reduceLeDiff, Nat.reduceBEq, Int.reduceToNat, Int.reduceLE, Int.reduceLT, Int.reduceEq, Int.reduceNe, di]
 by_cases hq : quarterE h = 0
 rotate_left
 ·simp only [hq, vaE, ↓reduceIte, reduceCtorEq, Nat.reduceEqDiff, Nat.reduceAdd, Nat.reduceMul, Nat.reduceSub, Nat.reduceLeDiff, Nat.reduceBEq, Int.reduceToNat, Int.reduceLE, Int.reduceLT, Int.reduceEq, Int.reduceNe, di]
 simp only [hq, vaE, ↓reduceIte, reduceCtorEq, Nat.reduceEqDiff, Nat.reduceAdd, Nat.reduceMul, Nat.reduceSub, Nat.reduceLeDiff, Nat.reduceBEq, Int.reduceToNat, Int.reduceLE, Int.reduceLT, Int.reduceEq, Int.reduceNe, di]
 have q5 := r_FlowErr (g := g)
 simp only [gI] at q5
 refine calls_of q5 ?_; simp only [vaE, res16, b16k8, b16k9, b16k10, ↓reduceIte, reduceCtorEq, Nat.reduceEqDiff, Nat.reduceAdd, Nat.reduceMul, Nat.reduceSub, Nat.reduceLeDiff, Nat.reduceBEq, Int.reduceToNat, Int.reduceLE, Int.reduceLT, Int.reduceEq, Int.reduceNe, di]
 by_cases hg : flowE g = 0
 rotate_left
 ·simp only [hg, vaE, ↓reduceIte, reduceCtorEq, Nat.reduceEqDiff, Nat.reduceAdd, Nat.reduceMul, Nat.reduceSub, Nat.reduceLeDiff, Nat.reduceBEq, Int.reduceToNat, Int.reduceLE, Int.reduceLT, Int.reduceEq, Int.reduceNe, di]
 simp only [hg, vaE, ↓reduceIte, reduceCtorEq, Nat.reduceEqDiff, Nat.reduceAdd, Nat.reduceMul, Nat.reduceSub, Nat.reduceLeDiff, Nat.reduceBEq, Int.reduceToNat, Int.reduceLE, Int.reduceLT, Int.reduceEq, Int.reduceNe, di]
 have how := opn_ok hxo
 have hm : matE x h = 0 := fstE_zero.2 ⟨h0, hq⟩
 have e0 : osE x h g = 0 := fstE_zero.2 ⟨hm, hg⟩
 have z0 : osZ x h g = styF (opn x) h (2 * g.1, 2 * g.2) := by unfold osZ; rw [if_pos e0]
 have fo := few_osZ (x := x) (h := h) (g := g)
 have q1 := w_SteadyOf (h := h) (g := g) hx
 have hR := w_ResonancesOf hx
 rw [if_pos h0] at hR
 rw [z0] at fo
 rw [z0, e0] at q1
 have l1 : (styF (opn x) h (2 * g.1, 2 * g.2)).F.length ≤ 30 ∧ (styF (opn x) h (2 * g.1, 2 * g.2)).B.length ≤ 30 ∧ (styF (opn x) h (2 * g.1, 2 * g.2)).L.length ≤ 10 := by
  have e1 := fwA_len (h := h) (f := (2 * g.1, 2 * g.2)) how (opn x).pp.length (Nat.le_refl _)
  have e2 := bwA_len (h := h) (f := (2 * g.1, 2 * g.2)) how (opn x).pp.length (Nat.le_refl _)
  have e3 := leA_len (x := opn x) (h := h) (f := (2 * g.1, 2 * g.2)) (opn x).ar.length
  have e4 := cells_le how (opn x).pp.length
  have e5 := hxo.ars
  have e6 := hxo.len
  have e7 : (opn x).ar.length = x.ar.length := rfl
  exact ⟨by show (fwA _ _ _ _).length ≤ _; omega, by show (bwA _ _ _ _).length ≤ _; omega, by show (leA _ _ _ _).length ≤ _; omega⟩
 have hres : h ∈ resL (opn x) → (styF (opn x) h (2 * g.1, 2 * g.2)).c = (0, 0) := fun hmem => by
  unfold resL at hmem
  rw [List.mem_filter] at hmem
  exact sty_res hxo (by simpa using hmem.2)
 have tl : stdE x (styF (opn x) h (2 * g.1, 2 * g.2)) = 0 → _ := fun hz =>
  tail_WaveAgree hx hxo l1 hz (fun t => sty_ok hxo (by
   have hzs := hz
   unfold stdE at hzs
   rw [fstE_zero, fstE_zero, fstE_zero, prtE_zero] at hzs
   exact hzs.2)) (fun t => sty_tick hxo (by
   have hzs := hz
   unfold stdE at hzs
   rw [fstE_zero, fstE_zero, fstE_zero, prtE_zero] at hzs
   exact hzs.2))
 have q7 := r_SteadyErr hxo fo
 have hlen : (resL (opn x)).length ≤ 4 := resP_len (k := 4)
 generalize styF (opn x) h (2 * g.1, 2 * g.2) = s at *
 simp only [gI, stdI] at q1 q7
 refine calls_of (r_CopyLine hx) ?_; simp only [vaE, res16, b16k8, b16k9, b16k10, ↓reduceIte, reduceCtorEq, Nat.reduceEqDiff, Nat.reduceAdd, Nat.reduceMul, Nat.reduceSub, Nat.reduceLeDiff, Nat.reduceBEq, Int.reduceToNat, Int.reduceLE, Int.reduceLT, Int.reduceEq, Int.reduceNe, di]
 refine calls_of q1 ?_; simp only [vaE, res16, b16k8, b16k9, b16k10, ↓reduceIte, reduceCtorEq, Nat.reduceEqDiff, Nat.reduceAdd, Nat.reduceMul, Nat.reduceSub, Nat.reduceLeDiff, Nat.reduceBEq, Int.reduceToNat, Int.reduceLE, Int.reduceLT, Int.reduceEq, Int.reduceNe, di]
 refine calls_of (r_CopyLine hx) ?_; simp only [vaE, res16, b16k8, b16k9, b16k10, ↓reduceIte, reduceCtorEq, Nat.reduceEqDiff, Nat.reduceAdd, Nat.reduceMul, Nat.reduceSub, Nat.reduceLeDiff, Nat.reduceBEq, Int.reduceToNat, Int.reduceLE, Int.reduceLT, Int.reduceEq, Int.reduceNe, di]
 refine calls_of hR ?_; simp only [vaE, res16, b16k8, b16k9, b16k10, ↓reduceIte, reduceCtorEq, Nat.reduceEqDiff, Nat.reduceAdd, Nat.reduceMul, Nat.reduceSub, Nat.reduceLeDiff, Nat.reduceBEq, Int.reduceToNat, Int.reduceLE, Int.reduceLT, Int.reduceEq, Int.reduceNe, di]
 rw [if_pos ⟨by omega, by omega, by omega⟩]
 refine calls_of (c_Has (l := resL (opn x)) (n := h) (by omega)) ?_; simp only [vaE, res16, b16k8, b16k9, b16k10, ↓reduceIte, reduceCtorEq, Nat.reduceEqDiff, Nat.reduceAdd, Nat.reduceMul, Nat.reduceSub, Nat.reduceLeDiff, Nat.reduceBEq, Int.reduceToNat, Int.reduceLE, Int.reduceLT, Int.reduceEq, Int.reduceNe, di]
 by_cases hmem : h ∈ resL (opn x)
 ·have hc := hres hmem
  have c1 : s.c.1 = 0 := by rw [hc]
  have c2 : s.c.2 = 0 := by rw [hc]
  rw [c1, c2] at q7 tl
  rw [c1, c2]
  simp only [hmem, vaE, ↓reduceIte, reduceCtorEq, Nat.reduceEqDiff, Nat.reduceAdd, Nat.reduceMul, Nat.reduceSub, Nat.reduceLeDiff, Nat.reduceBEq, Int.reduceToNat, Int.reduceLE, Int.reduceLT, Int.reduceEq, Int.reduceNe, di]
  refine calls_of q7 ?_; simp only [vaE, res16, b16k8, b16k9, b16k10, ↓reduceIte, reduceCtorEq, Nat.reduceEqDiff, Nat.reduceAdd, Nat.reduceMul, Nat.reduceSub, Nat.reduceLeDiff, Nat.reduceBEq, Int.reduceToNat, Int.reduceLE, Int.reduceLT, Int.reduceEq, Int.reduceNe, di]
  by_cases hz : stdE x s = 0
  ·simp only [hz, vaE, ↓reduceIte, reduceCtorEq, Nat.reduceEqDiff, Nat.reduceAdd, Nat.reduceMul, Nat.reduceSub, Nat.reduceLeDiff, Nat.reduceBEq, Int.reduceToNat, Int.reduceLE, Int.reduceLT, Int.reduceEq, Int.reduceNe, di]
   exact tl hz
  ·simp only [hz, vaE, ↓reduceIte, reduceCtorEq, Nat.reduceEqDiff, Nat.reduceAdd, Nat.reduceMul, Nat.reduceSub, Nat.reduceLeDiff, Nat.reduceBEq, Int.reduceToNat, Int.reduceLE, Int.reduceLT, Int.reduceEq, Int.reduceNe, di]
 ·simp only [hmem, vaE, ↓reduceIte, reduceCtorEq, Nat.reduceEqDiff, Nat.reduceAdd, Nat.reduceMul, Nat.reduceSub, Nat.reduceLeDiff, Nat.reduceBEq, Int.reduceToNat, Int.reduceLE, Int.reduceLT, Int.reduceEq, Int.reduceNe, di]
  refine calls_of q7 ?_; simp only [vaE, res16, b16k8, b16k9, b16k10, ↓reduceIte, reduceCtorEq, Nat.reduceEqDiff, Nat.reduceAdd, Nat.reduceMul, Nat.reduceSub, Nat.reduceLeDiff, Nat.reduceBEq, Int.reduceToNat, Int.reduceLE, Int.reduceLT, Int.reduceEq, Int.reduceNe, di]
  by_cases hz : stdE x s = 0
  ·simp only [hz, vaE, ↓reduceIte, reduceCtorEq, Nat.reduceEqDiff, Nat.reduceAdd, Nat.reduceMul, Nat.reduceSub, Nat.reduceLeDiff, Nat.reduceBEq, Int.reduceToNat, Int.reduceLE, Int.reduceLT, Int.reduceEq, Int.reduceNe, di]
   exact tl hz
  ·simp only [hz, vaE, ↓reduceIte, reduceCtorEq, Nat.reduceEqDiff, Nat.reduceAdd, Nat.reduceMul, Nat.reduceSub, Nat.reduceLeDiff, Nat.reduceBEq, Int.reduceToNat, Int.reduceLE, Int.reduceLT, Int.reduceEq, Int.reduceNe, di]
end Go.DI

