/- The statement TopLakeUpAndDown, on data. No condition. -/
import Derived.Test.YtnkdmcalkgecfaaUdGo
import Derived.Test.YtnkdmcalkgecfaaUdb
import Derived.Test.YtnkdmcalkgecfaaUda
set_option linter.unusedSimpArgs false
namespace Go.DI
open Go.Proofs Go.RowKit Lk

theorem l_lakeShown : Contract Try.prog 4 [] (.bool true) := by
  have h1 : Contract Try.prog 15 [tabI tabA, .int .i64 1501] (.tup [.agg [.int .i64 125, .int .i64 126], .int .i64 0]) := by
    have h := p_LevelAt (l := tabA) (v := 1501) (by decide)
    rw [if_pos (by decide), if_pos (by decide), show levLo tabA 1501 = 125 by decide, show levHi tabA 1501 = 126 by decide] at h
    exact h
  have h2 : Contract Try.prog 13 [lpI pairA, stI (2950, 500), flI ⟨0, 0, 200⟩] (.tup [.agg [.int .i64 3000, .int .i64 295], .agg [.int .i64 15, .int .i64 140], .int .i64 0]) := by
    have h := p_Step (p := pairA) (s := (2950, 500)) (x := ⟨0, 0, 200⟩) ⟨by decide, by decide⟩
    rw [show stepO pairA (2950, 500) ⟨0, 0, 200⟩ = ((3000, 295), (15, 140), 0) by decide +kernel] at h
    exact h
  refine contract_run Try.func4 k4 rfl ?_
  simp only [body4, b4, res4, limI, limsI, tskI, hgtI, lkE, ↓reduceIte, reduceCtorEq, Nat.reduceEqDiff, Nat.reduceAdd, Nat.reduceMul, Nat.reduceSub, Nat.reduceLeDiff, Nat.reduceBEq, Int.reduceToNat, Int.reduceLE, Int.reduceLT, Int.reduceEq, Int.reduceNe, di]
  refine calls_of l_Pair ?_; simp only [limI, limsI, tskI, hgtI, res4, lkE, ↓reduceIte, reduceCtorEq, Nat.reduceEqDiff, Nat.reduceAdd, Nat.reduceMul, Nat.reduceSub, Nat.reduceLeDiff, Nat.reduceBEq, Int.reduceToNat, Int.reduceLE, Int.reduceLT, Int.reduceEq, Int.reduceNe, di]
  refine calls_of h2 ?_; simp only [limI, limsI, tskI, hgtI, res4, lkE, ↓reduceIte, reduceCtorEq, Nat.reduceEqDiff, Nat.reduceAdd, Nat.reduceMul, Nat.reduceSub, Nat.reduceLeDiff, Nat.reduceBEq, Int.reduceToNat, Int.reduceLE, Int.reduceLT, Int.reduceEq, Int.reduceNe, di]
  refine calls_of l_Table ?_; simp only [limI, limsI, tskI, hgtI, res4, lkE, ↓reduceIte, reduceCtorEq, Nat.reduceEqDiff, Nat.reduceAdd, Nat.reduceMul, Nat.reduceSub, Nat.reduceLeDiff, Nat.reduceBEq, Int.reduceToNat, Int.reduceLE, Int.reduceLT, Int.reduceEq, Int.reduceNe, di]
  refine calls_of h1 ?_; simp only [limI, limsI, tskI, hgtI, res4, lkE, ↓reduceIte, reduceCtorEq, Nat.reduceEqDiff, Nat.reduceAdd, Nat.reduceMul, Nat.reduceSub, Nat.reduceLeDiff, Nat.reduceBEq, Int.reduceToNat, Int.reduceLE, Int.reduceLT, Int.reduceEq, Int.reduceNe, di]

theorem l_TopLakeUpAndDown {p : Pair} {s : Sta} {x : Tsk} : Contract Try.prog 3 [lpI p, stI s, tskI x] (.bool true) := by
  refine contract_run Try.func3 k3 rfl ?_
  simp only [body3, b3, res3, b3k0, b3k1, b3k2, b3k3, b3k4, b3k5, b3k6, b3k7, b3k8, b3k9, b3k10, b3k11, limI, limsI, tskI, hgtI, lkE, ↓reduceIte, reduceCtorEq, Nat.reduceEqDiff, Nat.reduceAdd, Nat.reduceMul, Nat.reduceSub, Nat.reduceLeDiff, Nat.reduceBEq, Int.reduceToNat, Int.reduceLE, Int.reduceLT, Int.reduceEq, Int.reduceNe, di]
  refine calls_of l_lakeShown ?_; simp only [limI, limsI, tskI, hgtI, res3, b3k0, b3k1, b3k2, b3k3, b3k4, b3k5, b3k6, b3k7, b3k8, b3k9, b3k10, b3k11, lkE, ↓reduceIte, reduceCtorEq, Nat.reduceEqDiff, Nat.reduceAdd, Nat.reduceMul, Nat.reduceSub, Nat.reduceLeDiff, Nat.reduceBEq, Int.reduceToNat, Int.reduceLE, Int.reduceLT, Int.reduceEq, Int.reduceNe, di]
  refine calls_of l_FewPair ?_; simp only [limI, limsI, tskI, hgtI, res3, b3k0, b3k1, b3k2, b3k3, b3k4, b3k5, b3k6, b3k7, b3k8, b3k9, b3k10, b3k11, lkE, ↓reduceIte, reduceCtorEq, Nat.reduceEqDiff, Nat.reduceAdd, Nat.reduceMul, Nat.reduceSub, Nat.reduceLeDiff, Nat.reduceBEq, Int.reduceToNat, Int.reduceLE, Int.reduceLT, Int.reduceEq, Int.reduceNe, di]
  by_cases h0 : p.u.length ≤ 12 ∧ p.l.length ≤ 12
  case neg =>
    simp only [h0, res3, b3k0, b3k1, b3k2, b3k3, b3k4, b3k5, b3k6, b3k7, b3k8, b3k9, b3k10, b3k11, limI, limsI, tskI, hgtI, lkE, ↓reduceIte, reduceCtorEq, Nat.reduceEqDiff, Nat.reduceAdd, Nat.reduceMul, Nat.reduceSub, Nat.reduceLeDiff, Nat.reduceBEq, Int.reduceToNat, Int.reduceLE, Int.reduceLT, Int.reduceEq, Int.reduceNe, di]
    rw [if_neg (fun k => k.1)]
    trivial
  have hsm : Sm p := ⟨by omega, by omega⟩
  simp only [h0, res3, b3k0, b3k1, b3k2, b3k3, b3k4, b3k5, b3k6, b3k7, b3k8, b3k9, b3k10, b3k11, limI, limsI, tskI, hgtI, lkE, ↓reduceIte, reduceCtorEq, Nat.reduceEqDiff, Nat.reduceAdd, Nat.reduceMul, Nat.reduceSub, Nat.reduceLeDiff, Nat.reduceBEq, Int.reduceToNat, Int.reduceLE, Int.reduceLT, Int.reduceEq, Int.reduceNe, di]
  by_cases hn : ¬ (x.fs.length : Int) = 0 ∧ ¬ 8 < (x.fs.length : Int)
  case neg =>
    rw [if_neg hn]
    trivial
  have hB := r_BothErr (s := s) hsm
  rw [if_pos hn]
  refine calls_of hB ?_; simp only [limI, limsI, tskI, hgtI, res3, b3k0, b3k1, b3k2, b3k3, b3k4, b3k5, b3k6, b3k7, b3k8, b3k9, b3k10, b3k11, lkE, ↓reduceIte, reduceCtorEq, Nat.reduceEqDiff, Nat.reduceAdd, Nat.reduceMul, Nat.reduceSub, Nat.reduceLeDiff, Nat.reduceBEq, Int.reduceToNat, Int.reduceLE, Int.reduceLT, Int.reduceEq, Int.reduceNe, di]
  by_cases h1 : bothErr p s = 0
  case neg =>
    simp only [h1, res3, b3k0, b3k1, b3k2, b3k3, b3k4, b3k5, b3k6, b3k7, b3k8, b3k9, b3k10, b3k11, limI, limsI, tskI, hgtI, lkE, ↓reduceIte, reduceCtorEq, Nat.reduceEqDiff, Nat.reduceAdd, Nat.reduceMul, Nat.reduceSub, Nat.reduceLeDiff, Nat.reduceBEq, Int.reduceToNat, Int.reduceLE, Int.reduceLT, Int.reduceEq, Int.reduceNe, di]
  obtain ⟨hvp, hst⟩ := bothErr_ok.1 h1
  simp only [h1, res3, b3k0, b3k1, b3k2, b3k3, b3k4, b3k5, b3k6, b3k7, b3k8, b3k9, b3k10, b3k11, limI, limsI, tskI, hgtI, lkE, ↓reduceIte, reduceCtorEq, Nat.reduceEqDiff, Nat.reduceAdd, Nat.reduceMul, Nat.reduceSub, Nat.reduceLeDiff, Nat.reduceBEq, Int.reduceToNat, Int.reduceLE, Int.reduceLT, Int.reduceEq, Int.reduceNe, di]
  refine calls_of (r_TaskErr (x := x) hvp (by omega)) ?_; simp only [limI, limsI, tskI, hgtI, res3, b3k0, b3k1, b3k2, b3k3, b3k4, b3k5, b3k6, b3k7, b3k8, b3k9, b3k10, b3k11, lkE, ↓reduceIte, reduceCtorEq, Nat.reduceEqDiff, Nat.reduceAdd, Nat.reduceMul, Nat.reduceSub, Nat.reduceLeDiff, Nat.reduceBEq, Int.reduceToNat, Int.reduceLE, Int.reduceLT, Int.reduceEq, Int.reduceNe, di]
  by_cases h2 : taskErr p x = 0
  case neg => simp only [h2, res3, b3k0, b3k1, b3k2, b3k3, b3k4, b3k5, b3k6, b3k7, b3k8, b3k9, b3k10, b3k11, limI, limsI, tskI, hgtI, lkE, ↓reduceIte, reduceCtorEq, Nat.reduceEqDiff, Nat.reduceAdd, Nat.reduceMul, Nat.reduceSub, Nat.reduceLeDiff, Nat.reduceBEq, Int.reduceToNat, Int.reduceLE, Int.reduceLT, Int.reduceEq, Int.reduceNe, di]
  simp only [h2, res3, b3k0, b3k1, b3k2, b3k3, b3k4, b3k5, b3k6, b3k7, b3k8, b3k9, b3k10, b3k11, limI, limsI, tskI, hgtI, lkE, ↓reduceIte, reduceCtorEq, Nat.reduceEqDiff, Nat.reduceAdd, Nat.reduceMul, Nat.reduceSub, Nat.reduceLeDiff, Nat.reduceBEq, Int.reduceToNat, Int.reduceLE, Int.reduceLT, Int.reduceEq, Int.reduceNe, di]
  have hte : taskE p s x = 0 := by unfold taskE; rw [if_pos h1]; exact h2
  obtain ⟨_, _, hL, _, hf⟩ := taskE_ok hte
  have hln : 1 ≤ x.fs.length ∧ x.fs.length ≤ 8 := by omega
  refine loop_keep (α := Nat) rfl (fun i => x.fs.length - i) (fun i => i ≤ x.fs.length)
    (fun i => [(3, .ref 3 0), (4, .ref 4 0), (5, .ref 5 0), (7, .own 7), (8, .own 8), (9, .imm (.int .i64 i))])
    (fun i => [(3, .box [.imm (.slc 2 (p.u.map knI)), .imm (.slc 2 (p.l.map knI)), .imm (.int .i64 0)]), (4, .box [.imm (.int .i64 s.1), .imm (.int .i64 s.2)]),
      (5, .box [.imm (.int .i64 x.L.u.lo), .imm (.int .i64 x.L.u.hi), .imm (.int .i64 x.L.u.fall), .imm (.int .i64 x.L.u.rise), .imm (.int .i64 x.L.u.win), .imm (.int .i64 x.L.l.lo), .imm (.int .i64 x.L.l.hi), .imm (.int .i64 x.L.l.fall), .imm (.int .i64 x.L.l.rise), .imm (.int .i64 x.L.l.win), .imm (.slc 3 (x.fs.map flI))]),
      (7, .tok 3 ((((x.fs.map (·.ex)).take i).map dryF).map flI)), (8, .tok 3 ((((x.fs.map (·.ex)).reverse.take i).map fun e => dryF (-e)).map flI))]) 0 (Nat.zero_le _) (by simp only [limI, limsI, tskI, hgtI, lkE, ↓reduceIte, reduceCtorEq, Nat.reduceEqDiff, Nat.reduceAdd, Nat.reduceMul, Nat.reduceSub, Nat.reduceLeDiff, Nat.reduceBEq, Int.reduceToNat, Int.reduceLE, Int.reduceLT, Int.reduceEq, Int.reduceNe, di] <;> rfl) ?_
  intro i hi ih
  simp only [res3, b3k0, b3k1, b3k2, b3k3, b3k4, b3k5, b3k6, b3k7, b3k8, b3k9, b3k10, b3k11, limI, limsI, tskI, hgtI, lkE, ↓reduceIte, reduceCtorEq, Nat.reduceEqDiff, Nat.reduceAdd, Nat.reduceMul, Nat.reduceSub, Nat.reduceLeDiff, Nat.reduceBEq, Int.reduceToNat, Int.reduceLE, Int.reduceLT, Int.reduceEq, Int.reduceNe, di]
  split
  · rename_i h
    have hlt : i < x.fs.length := by omega
    simp only [show IntKind.wrap .i64 ((x.fs.length : Int) - 1) = (x.fs.length : Int) - 1 from wrap64 (by omega) (by omega)]
    simp only [show IntKind.wrap .i64 ((x.fs.length : Int) - 1 - i) = (x.fs.length : Int) - 1 - i from wrap64 (by omega) (by omega)]
    have lt1 : ((x.fs.map (·.ex)).take i).length = i := by simp; omega
    have lt2 : ((x.fs.map (·.ex)).reverse.take i).length = i := by simp; omega
    have hidx : ((x.fs.length : Int) - 1 - i).toNat = x.fs.length - 1 - i := by omega
    have hfb : flowOk (x.fs.getD (x.fs.length - 1 - i) default) := hf _ (by rw [List.getD_eq_getElem?_getD]; simp [show x.fs.length - 1 - i < x.fs.length by omega])
    have hx1 := hfb.2.2
    unfold Wi at hx1
    have e1 : (((x.fs.map (·.ex)).take i).map dryF).map flI ++ [IV.agg [.int .i64 0, .int .i64 0, .int .i64 (x.fs.getD i default).ex]] = (((x.fs.map (·.ex)).take (i + 1)).map dryF).map flI := by
      rw [List.take_add_one, List.map_append, List.map_append]
      congr 1
      rw [List.getD_eq_getElem?_getD]
      simp [hlt, dryF, flI]
    have e2 : (((x.fs.map (·.ex)).reverse.take i).map fun e => dryF (-e)).map flI ++ [IV.agg [.int .i64 0, .int .i64 0, .int .i64 (0 - (x.fs.getD (x.fs.length - 1 - i) default).ex)]] = (((x.fs.map (·.ex)).reverse.take (i + 1)).map fun e => dryF (-e)).map flI := by
      rw [List.take_add_one, List.map_append, List.map_append]
      congr 1
      rw [List.getD_eq_getElem?_getD, List.getElem?_reverse (by simpa using hlt)]
      simp [show x.fs.length - 1 - i < x.fs.length by omega, dryF, flI]
    simp only [lt1, lt2, hidx]
    simp only [show IntKind.wrap .i64 (0 - (x.fs.getD (x.fs.length - 1 - i) default).ex) = 0 - (x.fs.getD (x.fs.length - 1 - i) default).ex from wrap64 (by omega) (by omega)]
    simp only [show IntKind.wrap .i64 ((i : Int) + 1) = (i : Int) + 1 from wrap64 (by omega) (by omega)]
    repeat (refine And.intro (by omega) ?_)
    simp only [e1, e2]
    exact ih (i + 1) _ _ (by omega) (by omega) (by simp only [limI, limsI, tskI, hgtI, lkE, ↓reduceIte, reduceCtorEq, Nat.reduceEqDiff, Nat.reduceAdd, Nat.reduceMul, Nat.reduceSub, Nat.reduceLeDiff, Nat.reduceBEq, Int.reduceToNat, Int.reduceLE, Int.reduceLT, Int.reduceEq, Int.reduceNe, di] <;> rfl)
  rename_i h
  have hie : i = x.fs.length := by omega
  subst hie
  have hcp := r_CopyPair (p := dryP p) (by show p.u.length ≤ _; omega) (by show p.l.length ≤ _; omega)
  have tk1 : (x.fs.map (·.ex)).take x.fs.length = x.fs.map (·.ex) := List.take_of_length_le (by simp)
  have tk2 : (x.fs.map (·.ex)).reverse.take x.fs.length = (x.fs.map (·.ex)).reverse := List.take_of_length_le (by simp)
  have hes : ∀ e ∈ x.fs.map (·.ex), -10000000 ≤ e ∧ e ≤ 10000000 := by
    intro e he
    obtain ⟨y, hy, rfl⟩ := List.mem_map.1 he
    exact (hf y hy).2.2
  have hel : (x.fs.map (·.ex)).length = x.fs.length := by simp
  simp only [tk1, tk2] at ih ⊢
  clear ih
  generalize x.fs.map (·.ex) = es at *
  have hu : ∀ y ∈ es.map dryF, flowOk y := fun y hy => by obtain ⟨e, he, rfl⟩ := List.mem_map.1 hy; exact dry_flow (hes e he)
  have hbk : ∀ y ∈ es.reverse.map (fun e => dryF (-e)), flowOk y := fun y hy => by
    obtain ⟨e, he, rfl⟩ := List.mem_map.1 hy
    have := hes e (List.mem_reverse.1 he)
    exact dry_flow (by omega)
  have hLu : listErr (es.map dryF) = 0 := listErr_ok.2 ⟨by simp; omega, hu⟩
  have hLb : listErr (es.reverse.map fun e => dryF (-e)) = 0 := listErr_ok.2 ⟨by simp; omega, hbk⟩
  have hsd : Sm (dryP p) := ⟨hsm.u, hsm.l⟩
  have hB0 : bothErr (dryP p) s = 0 := bothErr_ok.2 ⟨dryP_ok hvp, hst⟩
  have hR := p_RunOf (p := dryP p) (s := s) (l := es.map dryF) hsd (by simp; omega)
  rw [if_pos hB0, if_pos hLu] at hR
  have hc1 := r_CopyList (l := es.map dryF) (by simp; omega)
  have hc2 := r_CopyList (l := es.reverse.map fun e => dryF (-e)) (by simp; omega)
  refine calls_of hcp ?_; simp only [limI, limsI, tskI, hgtI, res3, b3k0, b3k1, b3k2, b3k3, b3k4, b3k5, b3k6, b3k7, b3k8, b3k9, b3k10, b3k11, lkE, ↓reduceIte, reduceCtorEq, Nat.reduceEqDiff, Nat.reduceAdd, Nat.reduceMul, Nat.reduceSub, Nat.reduceLeDiff, Nat.reduceBEq, Int.reduceToNat, Int.reduceLE, Int.reduceLT, Int.reduceEq, Int.reduceNe, di]
  refine calls_of hc1 ?_; simp only [limI, limsI, tskI, hgtI, res3, b3k0, b3k1, b3k2, b3k3, b3k4, b3k5, b3k6, b3k7, b3k8, b3k9, b3k10, b3k11, lkE, ↓reduceIte, reduceCtorEq, Nat.reduceEqDiff, Nat.reduceAdd, Nat.reduceMul, Nat.reduceSub, Nat.reduceLeDiff, Nat.reduceBEq, Int.reduceToNat, Int.reduceLE, Int.reduceLT, Int.reduceEq, Int.reduceNe, di]
  by_cases h3 : (runP (dryP p) s (es.map dryF)).2.2 = true
  case neg =>
    rw [if_neg h3] at hR
    refine calls_of hR ?_; simp only [limI, limsI, tskI, hgtI, res3, b3k0, b3k1, b3k2, b3k3, b3k4, b3k5, b3k6, b3k7, b3k8, b3k9, b3k10, b3k11, lkE, ↓reduceIte, reduceCtorEq, Nat.reduceEqDiff, Nat.reduceAdd, Nat.reduceMul, Nat.reduceSub, Nat.reduceLeDiff, Nat.reduceBEq, Int.reduceToNat, Int.reduceLE, Int.reduceLT, Int.reduceEq, Int.reduceNe, di]
  rw [if_pos h3] at hR
  refine calls_of hR ?_; simp only [limI, limsI, tskI, hgtI, res3, b3k0, b3k1, b3k2, b3k3, b3k4, b3k5, b3k6, b3k7, b3k8, b3k9, b3k10, b3k11, lkE, ↓reduceIte, reduceCtorEq, Nat.reduceEqDiff, Nat.reduceAdd, Nat.reduceMul, Nat.reduceSub, Nat.reduceLeDiff, Nat.reduceBEq, Int.reduceToNat, Int.reduceLE, Int.reduceLT, Int.reduceEq, Int.reduceNe, di]
  have hlen := (runP_len (p := dryP p) (s := s) (l := es.map dryF)).2 h3
  rw [List.length_map] at hlen
  have hsp := (runP_spec (dryP_ok hvp) (s := s) (l := es.map dryF) hst hu).2
  have hev := dry_evap hvp hes hst
  have hne : es ≠ [] := by intro k; rw [k] at hel; simp at hel; omega
  have hm : (es.map dryF).length = es.length := by simp
  rw [if_pos (by omega)]
  refine calls_of c_Within ?_; simp only [limI, limsI, tskI, hgtI, res3, b3k0, b3k1, b3k2, b3k3, b3k4, b3k5, b3k6, b3k7, b3k8, b3k9, b3k10, b3k11, lkE, ↓reduceIte, reduceCtorEq, Nat.reduceEqDiff, Nat.reduceAdd, Nat.reduceMul, Nat.reduceSub, Nat.reduceLeDiff, Nat.reduceBEq, Int.reduceToNat, Int.reduceLE, Int.reduceLT, Int.reduceEq, Int.reduceNe, di]
  have hin : 0 ≤ (runP (dryP p) s (es.map dryF)).2.1.2 ∧ (runP (dryP p) s (es.map dryF)).2.1.2 ≤ 16000000000 := by omega
  simp only [hin, hev, res3, b3k0, b3k1, b3k2, b3k3, b3k4, b3k5, b3k6, b3k7, b3k8, b3k9, b3k10, b3k11, limI, limsI, tskI, hgtI, lkE, ↓reduceIte, reduceCtorEq, Nat.reduceEqDiff, Nat.reduceAdd, Nat.reduceMul, Nat.reduceSub, Nat.reduceLeDiff, Nat.reduceBEq, Int.reduceToNat, Int.reduceLE, Int.reduceLT, Int.reduceEq, Int.reduceNe, di]
  by_cases h4 : (runP (dryP p) s (es.map dryF)).2.1.2 = 0
  case neg => simp only [h4, res3, b3k0, b3k1, b3k2, b3k3, b3k4, b3k5, b3k6, b3k7, b3k8, b3k9, b3k10, b3k11, limI, limsI, tskI, hgtI, lkE, ↓reduceIte, reduceCtorEq, Nat.reduceEqDiff, Nat.reduceAdd, Nat.reduceMul, Nat.reduceSub, Nat.reduceLeDiff, Nat.reduceBEq, Int.reduceToNat, Int.reduceLE, Int.reduceLT, Int.reduceEq, Int.reduceNe, di]
  simp only [h4, res3, b3k0, b3k1, b3k2, b3k3, b3k4, b3k5, b3k6, b3k7, b3k8, b3k9, b3k10, b3k11, limI, limsI, tskI, hgtI, lkE, ↓reduceIte, reduceCtorEq, Nat.reduceEqDiff, Nat.reduceAdd, Nat.reduceMul, Nat.reduceSub, Nat.reduceLeDiff, Nat.reduceBEq, Int.reduceToNat, Int.reduceLE, Int.reduceLT, Int.reduceEq, Int.reduceNe, di]
  obtain ⟨hall, hback⟩ := dry_run hvp hes hst h3 h4
  have hub := up_back hvp (L := x.L) hes hst hne h3 h4
  generalize hrun : (runP (dryP p) s (es.map dryF)).1 = run at *
  have hrn : run ≠ [] := by
    intro k
    rw [k] at hlen
    exact hne (List.length_eq_zero_iff.1 hlen.symm)
  have hrl : 1 ≤ run.length := List.length_pos_iff.2 hrn
  have n1 : ((run.length : Int) - 1) = ((run.length - 1 : Nat) : Int) := by omega
  simp only [show IntKind.wrap .i64 ((run.length : Int) - 1) = (run.length : Int) - 1 from wrap64 (by omega) (by omega)]
  simp only [n1, i_toNat, ← lastS_kn (s := s) hrn]
  repeat (refine And.intro (by omega) ?_)
  have hlo : stOk p (lastS s run) := by
    rw [lastS_kn hrn]
    exact hall _ (by unfold kn; rw [List.getD_eq_getElem?_getD]; simp [show run.length - 1 < run.length by omega])
  generalize hlast : lastS s run = last at *
  have hB1 : bothErr (dryP p) last = 0 := bothErr_ok.2 ⟨dryP_ok hvp, hlo⟩
  have hR2 := p_RunOf (p := dryP p) (s := last) (l := es.reverse.map fun e => dryF (-e)) hsd (by simp; omega)
  rw [if_pos hB1, if_pos hLb, hback] at hR2
  simp only [if_true] at hR2
  have hdl : (s :: run).dropLast.reverse.length = run.length := by simp
  have hdk : ∀ i, i < run.length → kn (s :: run).dropLast.reverse i = kn (s :: run) (run.length - 1 - i) := fun i hi => back_kn hi
  generalize (s :: run).dropLast.reverse = down at *
  refine calls_of hcp ?_; simp only [limI, limsI, tskI, hgtI, res3, b3k0, b3k1, b3k2, b3k3, b3k4, b3k5, b3k6, b3k7, b3k8, b3k9, b3k10, b3k11, lkE, ↓reduceIte, reduceCtorEq, Nat.reduceEqDiff, Nat.reduceAdd, Nat.reduceMul, Nat.reduceSub, Nat.reduceLeDiff, Nat.reduceBEq, Int.reduceToNat, Int.reduceLE, Int.reduceLT, Int.reduceEq, Int.reduceNe, di]
  repeat (refine And.intro (by omega) ?_)
  refine calls_of hc2 ?_; simp only [limI, limsI, tskI, hgtI, res3, b3k0, b3k1, b3k2, b3k3, b3k4, b3k5, b3k6, b3k7, b3k8, b3k9, b3k10, b3k11, lkE, ↓reduceIte, reduceCtorEq, Nat.reduceEqDiff, Nat.reduceAdd, Nat.reduceMul, Nat.reduceSub, Nat.reduceLeDiff, Nat.reduceBEq, Int.reduceToNat, Int.reduceLE, Int.reduceLT, Int.reduceEq, Int.reduceNe, di]
  refine calls_of hR2 ?_; simp only [limI, limsI, tskI, hgtI, res3, b3k0, b3k1, b3k2, b3k3, b3k4, b3k5, b3k6, b3k7, b3k8, b3k9, b3k10, b3k11, lkE, ↓reduceIte, reduceCtorEq, Nat.reduceEqDiff, Nat.reduceAdd, Nat.reduceMul, Nat.reduceSub, Nat.reduceLeDiff, Nat.reduceBEq, Int.reduceToNat, Int.reduceLE, Int.reduceLT, Int.reduceEq, Int.reduceNe, di]
  have n2 : ((down.length : Int) - 1) = ((run.length - 1 : Nat) : Int) := by omega
  have hdk0 : kn down (run.length - 1) = s := by
    rw [hdk _ (by omega), show run.length - 1 - (run.length - 1) = 0 by omega]
    rfl
  rw [if_pos (by omega)]
  simp only [show IntKind.wrap .i64 ((down.length : Int) - 1) = (down.length : Int) - 1 from wrap64 (by omega) (by omega)]
  simp only [n2, i_toNat, hdk0, limI, limsI, tskI, hgtI, lkE, ↓reduceIte, reduceCtorEq, Nat.reduceEqDiff, Nat.reduceAdd, Nat.reduceMul, Nat.reduceSub, Nat.reduceLeDiff, Nat.reduceBEq, Int.reduceToNat, Int.reduceLE, Int.reduceLT, Int.reduceEq, Int.reduceNe, di]
  repeat (refine And.intro (by omega) ?_)
  refine loop_keep (α := Nat) rfl (fun i => run.length - i) (fun i => i ≤ run.length)
    (fun i => [(3, .ref 3 0), (4, .ref 4 0), (5, .ref 5 0), (7, .own 7), (8, .own 8), (10, .imm (.slc 2 (run.map stI))), (13, .ref 13 0), (14, .imm (.slc 2 (down.map stI))), (16, .imm (.int .i64 i))])
    (fun i => [(3, .box [.imm (.slc 2 (p.u.map knI)), .imm (.slc 2 (p.l.map knI)), .imm (.int .i64 0)]), (4, .box [.imm (.int .i64 s.1), .imm (.int .i64 s.2)]),
      (5, .box [.imm (.int .i64 x.L.u.lo), .imm (.int .i64 x.L.u.hi), .imm (.int .i64 x.L.u.fall), .imm (.int .i64 x.L.u.rise), .imm (.int .i64 x.L.u.win), .imm (.int .i64 x.L.l.lo), .imm (.int .i64 x.L.l.hi), .imm (.int .i64 x.L.l.fall), .imm (.int .i64 x.L.l.rise), .imm (.int .i64 x.L.l.win), .imm (.slc 3 (x.fs.map flI))]),
      (7, .tok 3 ((es.map dryF).map flI)), (8, .tok 3 ((es.reverse.map fun e => dryF (-e)).map flI)), (13, .box [.imm (.int .i64 last.1), .imm (.int .i64 last.2)])]) 0 (Nat.zero_le _) (by simp only [limI, limsI, tskI, hgtI, lkE, ↓reduceIte, reduceCtorEq, Nat.reduceEqDiff, Nat.reduceAdd, Nat.reduceMul, Nat.reduceSub, Nat.reduceLeDiff, Nat.reduceBEq, Int.reduceToNat, Int.reduceLE, Int.reduceLT, Int.reduceEq, Int.reduceNe, di] <;> rfl) ?_
  intro i hi ih
  simp only [res3, b3k0, b3k1, b3k2, b3k3, b3k4, b3k5, b3k6, b3k7, b3k8, b3k9, b3k10, b3k11, limI, limsI, tskI, hgtI, lkE, ↓reduceIte, reduceCtorEq, Nat.reduceEqDiff, Nat.reduceAdd, Nat.reduceMul, Nat.reduceSub, Nat.reduceLeDiff, Nat.reduceBEq, Int.reduceToNat, Int.reduceLE, Int.reduceLT, Int.reduceEq, Int.reduceNe, di]
  simp only [show IntKind.wrap .i64 ((i : Int) + 1) = (i : Int) + 1 from wrap64 (by omega) (by omega)]
  split
  · rename_i h
    have hlt : i + 1 < run.length := by omega
    have n3 : ((run.length : Int) - 2 - i).toNat = run.length - 2 - i := by omega
    have hk : kn down i = kn run (run.length - 2 - i) := by
      rw [hdk i (by omega), show run.length - 1 - i = (run.length - 2 - i) + 1 by omega]
      rfl
    simp only [show IntKind.wrap .i64 ((run.length : Int) - 2) = (run.length : Int) - 2 from wrap64 (by omega) (by omega)]
    simp only [show IntKind.wrap .i64 ((run.length : Int) - 2 - i) = (run.length : Int) - 2 - i from wrap64 (by omega) (by omega)]
    simp only [n3, hk, limI, limsI, tskI, hgtI, lkE, ↓reduceIte, reduceCtorEq, Nat.reduceEqDiff, Nat.reduceAdd, Nat.reduceMul, Nat.reduceSub, Nat.reduceLeDiff, Nat.reduceBEq, Int.reduceToNat, Int.reduceLE, Int.reduceLT, Int.reduceEq, Int.reduceNe, di]
    repeat (refine And.intro (by omega) ?_)
    exact ih (i + 1) _ _ (by omega) (by omega) (by simp only [limI, limsI, tskI, hgtI, lkE, ↓reduceIte, reduceCtorEq, Nat.reduceEqDiff, Nat.reduceAdd, Nat.reduceMul, Nat.reduceSub, Nat.reduceLeDiff, Nat.reduceBEq, Int.reduceToNat, Int.reduceLE, Int.reduceLT, Int.reduceEq, Int.reduceNe, di] <;> rfl)
  clear ih
  have hlz : limErr p.u x.L.u = 0 ∧ limErr p.l x.L.l = 0 := by
    unfold taskErr limsErr at h2
    by_cases c1 : limErr p.u x.L.u = 0
    · rw [if_pos c1] at h2
      by_cases c2 : limErr p.l x.L.l = 0
      · exact ⟨c1, c2⟩
      · rw [if_neg c2] at h2; exact absurd h2 c2
    · rw [if_neg c1, if_neg c1] at h2; exact absurd h2 c1
  have hwd : ∀ (l : List Kn) (X : Lim), limErr l X = 0 → limErr l ⟨X.lo, X.hi, 1000000, 1000000, X.win⟩ = 0 := by
    intro l X hX
    obtain ⟨⟨a1, a2, _, _, a5⟩, a6⟩ := limErr_ok hX
    unfold limErr
    rw [if_pos (show limOk l ⟨X.lo, X.hi, 1000000, 1000000, X.win⟩ from ⟨a1, a2, by show Wi 1000000 0 1000000; unfold Wi; omega, by show Wi 1000000 0 1000000; unfold Wi; omega, a5⟩), if_pos a6]
  have hTw : ∀ (q : Sta) (fs : List Flow), bothErr (dryP p) q = 0 → listErr fs = 0 → taskE (dryP p) q ⟨widL x.L, fs⟩ = 0 := by
    intro q fs hq hfs
    unfold taskE taskErr limsErr
    rw [if_pos hq]
    have w1 : limErr (dryP p).u (widL x.L).u = 0 := hwd _ _ hlz.1
    have w2 : limErr (dryP p).l (widL x.L).l = 0 := hwd _ _ hlz.2
    dsimp only
    rw [if_pos w1, if_pos w2, hfs]
  have hv1 : vioO (dryP p) s ⟨widL x.L, es.map dryF⟩ = vio (dryP p) (widL x.L) [s] s (es.map dryF) := by unfold vioO; rw [if_pos (hTw s _ hB0 hLu)]
  have hv2 : vioO (dryP p) last ⟨widL x.L, es.reverse.map fun e => dryF (-e)⟩ = vio (dryP p) (widL x.L) [last] last (es.reverse.map fun e => dryF (-e)) := by unfold vioO; rw [if_pos (hTw last _ hB1 hLb)]
  have hV1 := p_ViolationOf (p := dryP p) (s := s) (x := ⟨widL x.L, es.map dryF⟩) hsd (by simp; omega) _ _ hv1
  have hV2 := p_ViolationOf (p := dryP p) (s := last) (x := ⟨widL x.L, es.reverse.map fun e => dryF (-e)⟩) hsd (by simp; omega) _ _ hv2
  rw [vio3_eq] at hV1 hV2
  refine calls_of hcp ?_; simp only [limI, limsI, tskI, hgtI, res3, b3k0, b3k1, b3k2, b3k3, b3k4, b3k5, b3k6, b3k7, b3k8, b3k9, b3k10, b3k11, lkE, ↓reduceIte, reduceCtorEq, Nat.reduceEqDiff, Nat.reduceAdd, Nat.reduceMul, Nat.reduceSub, Nat.reduceLeDiff, Nat.reduceBEq, Int.reduceToNat, Int.reduceLE, Int.reduceLT, Int.reduceEq, Int.reduceNe, di]
  repeat (refine And.intro (by omega) ?_)
  refine calls_of hc1 ?_; simp only [limI, limsI, tskI, hgtI, res3, b3k0, b3k1, b3k2, b3k3, b3k4, b3k5, b3k6, b3k7, b3k8, b3k9, b3k10, b3k11, lkE, ↓reduceIte, reduceCtorEq, Nat.reduceEqDiff, Nat.reduceAdd, Nat.reduceMul, Nat.reduceSub, Nat.reduceLeDiff, Nat.reduceBEq, Int.reduceToNat, Int.reduceLE, Int.reduceLT, Int.reduceEq, Int.reduceNe, di]
  refine calls_of hV1 ?_; simp only [limI, limsI, tskI, hgtI, res3, b3k0, b3k1, b3k2, b3k3, b3k4, b3k5, b3k6, b3k7, b3k8, b3k9, b3k10, b3k11, lkE, ↓reduceIte, reduceCtorEq, Nat.reduceEqDiff, Nat.reduceAdd, Nat.reduceMul, Nat.reduceSub, Nat.reduceLeDiff, Nat.reduceBEq, Int.reduceToNat, Int.reduceLE, Int.reduceLT, Int.reduceEq, Int.reduceNe, di]
  refine calls_of hcp ?_; simp only [limI, limsI, tskI, hgtI, res3, b3k0, b3k1, b3k2, b3k3, b3k4, b3k5, b3k6, b3k7, b3k8, b3k9, b3k10, b3k11, lkE, ↓reduceIte, reduceCtorEq, Nat.reduceEqDiff, Nat.reduceAdd, Nat.reduceMul, Nat.reduceSub, Nat.reduceLeDiff, Nat.reduceBEq, Int.reduceToNat, Int.reduceLE, Int.reduceLT, Int.reduceEq, Int.reduceNe, di]
  repeat (refine And.intro (by omega) ?_)
  refine calls_of hc2 ?_; simp only [limI, limsI, tskI, hgtI, res3, b3k0, b3k1, b3k2, b3k3, b3k4, b3k5, b3k6, b3k7, b3k8, b3k9, b3k10, b3k11, lkE, ↓reduceIte, reduceCtorEq, Nat.reduceEqDiff, Nat.reduceAdd, Nat.reduceMul, Nat.reduceSub, Nat.reduceLeDiff, Nat.reduceBEq, Int.reduceToNat, Int.reduceLE, Int.reduceLT, Int.reduceEq, Int.reduceNe, di]
  refine calls_of hV2 ?_; simp only [limI, limsI, tskI, hgtI, res3, b3k0, b3k1, b3k2, b3k3, b3k4, b3k5, b3k6, b3k7, b3k8, b3k9, b3k10, b3k11, lkE, ↓reduceIte, reduceCtorEq, Nat.reduceEqDiff, Nat.reduceAdd, Nat.reduceMul, Nat.reduceSub, Nat.reduceLeDiff, Nat.reduceBEq, Int.reduceToNat, Int.reduceLE, Int.reduceLT, Int.reduceEq, Int.reduceNe, di]
  rcases hub with ⟨u1, u2⟩ | ⟨t, a, k, u1, u2, u3, u4, u5⟩
  · rw [u1]
    simp only [res3, b3k0, b3k1, b3k2, b3k3, b3k4, b3k5, b3k6, b3k7, b3k8, b3k9, b3k10, b3k11, limI, limsI, tskI, hgtI, lkE, ↓reduceIte, reduceCtorEq, Nat.reduceEqDiff, Nat.reduceAdd, Nat.reduceMul, Nat.reduceSub, Nat.reduceLeDiff, Nat.reduceBEq, Int.reduceToNat, Int.reduceLE, Int.reduceLT, Int.reduceEq, Int.reduceNe, di]
    rcases u2 with u2 | u2
    · rw [if_pos u2]; trivial
    · rw [if_neg (by omega), u2]; rfl
  · rw [u1]
    simp only [vioT, res3, b3k0, b3k1, b3k2, b3k3, b3k4, b3k5, b3k6, b3k7, b3k8, b3k9, b3k10, b3k11, limI, limsI, tskI, hgtI, lkE, ↓reduceIte, reduceCtorEq, Nat.reduceEqDiff, Nat.reduceAdd, Nat.reduceMul, Nat.reduceSub, Nat.reduceLeDiff, Nat.reduceBEq, Int.reduceToNat, Int.reduceLE, Int.reduceLT, Int.reduceEq, Int.reduceNe, di]
    refine calls_of c_Within ?_; simp only [limI, limsI, tskI, hgtI, res3, b3k0, b3k1, b3k2, b3k3, b3k4, b3k5, b3k6, b3k7, b3k8, b3k9, b3k10, b3k11, lkE, ↓reduceIte, reduceCtorEq, Nat.reduceEqDiff, Nat.reduceAdd, Nat.reduceMul, Nat.reduceSub, Nat.reduceLeDiff, Nat.reduceBEq, Int.reduceToNat, Int.reduceLE, Int.reduceLT, Int.reduceEq, Int.reduceNe, di]
    have hw1 : (1 : Int) ≤ t ∧ (t : Int) ≤ es.length := by omega
    have hw2 : (k : Int) ≤ 1 := by omega
    simp only [hw1, hw2, res3, b3k0, b3k1, b3k2, b3k3, b3k4, b3k5, b3k6, b3k7, b3k8, b3k9, b3k10, b3k11, limI, limsI, tskI, hgtI, lkE, ↓reduceIte, reduceCtorEq, Nat.reduceEqDiff, Nat.reduceAdd, Nat.reduceMul, Nat.reduceSub, Nat.reduceLeDiff, Nat.reduceBEq, Int.reduceToNat, Int.reduceLE, Int.reduceLT, Int.reduceEq, Int.reduceNe, di]
    rcases u5 with u5 | u5
    · have u6 : (t : Int) = es.length := by omega
      simp only [u6, res3, b3k0, b3k1, b3k2, b3k3, b3k4, b3k5, b3k6, b3k7, b3k8, b3k9, b3k10, b3k11, limI, limsI, tskI, hgtI, lkE, ↓reduceIte, reduceCtorEq, Nat.reduceEqDiff, Nat.reduceAdd, Nat.reduceMul, Nat.reduceSub, Nat.reduceLeDiff, Nat.reduceBEq, Int.reduceToNat, Int.reduceLE, Int.reduceLT, Int.reduceEq, Int.reduceNe, di]
    · by_cases u6 : (t : Int) = es.length
      · simp only [u6, res3, b3k0, b3k1, b3k2, b3k3, b3k4, b3k5, b3k6, b3k7, b3k8, b3k9, b3k10, b3k11, limI, limsI, tskI, hgtI, lkE, ↓reduceIte, reduceCtorEq, Nat.reduceEqDiff, Nat.reduceAdd, Nat.reduceMul, Nat.reduceSub, Nat.reduceLeDiff, Nat.reduceBEq, Int.reduceToNat, Int.reduceLE, Int.reduceLT, Int.reduceEq, Int.reduceNe, di]
      · simp only [u6, u5, res3, b3k0, b3k1, b3k2, b3k3, b3k4, b3k5, b3k6, b3k7, b3k8, b3k9, b3k10, b3k11, limI, limsI, tskI, hgtI, lkE, ↓reduceIte, reduceCtorEq, Nat.reduceEqDiff, Nat.reduceAdd, Nat.reduceMul, Nat.reduceSub, Nat.reduceLeDiff, Nat.reduceBEq, Int.reduceToNat, Int.reduceLE, Int.reduceLT, Int.reduceEq, Int.reduceNe, di]
end Go.DI

