/- The statement WaveSums, as a contract. No condition. -/
import Derived.Test.YtadmimjaelodkaaSmp
import Derived.Test.YtadmimjaelodkaaSmq
set_option linter.unusedSimpArgs false
set_option maxRecDepth 100000
namespace Go.DI
open Go.Proofs Go.RowKit

theorem l_added {a b : Ws} (ha : FewS a) (h1 : a.F.length = b.F.length) (h2 : a.B.length = b.B.length) (h3 : a.L.length = b.L.length) (h4 : a.F.length = a.B.length) (n1 : a.F.length ≠ 0) : Contract Try.prog 35 [wsI a, wsI b] (wsI (addS a b)) := by
  by_cases h : a.L = []
  · exact l_addedZ ha h1 h2 h4 n1 h
  · exact l_addedN ha h1 h2 h3 h4 n1 (fun k => h (List.eq_nil_of_length_eq_zero k))
theorem l_sized {x : Ln} {s : Ws} (hx : LineOk x) (hs : Sh (opn x) s) : Contract Try.prog 36 [lnI x, wsI s] (.bool true) := by
  have hF := hs.f; have hB := hs.b; have hL := hs.l
  have har : (opn x).ar.length = x.ar.length := rfl
  refine contract_run Try.func36 k36 rfl ?_
  simp only [body36, b36, res36, vaE, ↓reduceIte, reduceCtorEq, Nat.reduceEqDiff, Nat.reduceAdd, Nat.reduceMul, Nat.reduceSub, Nat.reduceLeDiff, Nat.reduceBEq, Int.reduceToNat, Int.reduceLE, Int.reduceLT, Int.reduceEq, Int.reduceNe, di]
  refine calls_of (r_Cells hx) ?_; simp only [vaE, res36, ↓reduceIte, reduceCtorEq, Nat.reduceEqDiff, Nat.reduceAdd, Nat.reduceMul, Nat.reduceSub, Nat.reduceLeDiff, Nat.reduceBEq, Int.reduceToNat, Int.reduceLE, Int.reduceLT, Int.reduceEq, Int.reduceNe, di]
  simp only [hF, hB, hL, har, decide_true, beq_self_eq_true, vaE, ↓reduceIte, reduceCtorEq, Nat.reduceEqDiff, Nat.reduceAdd, Nat.reduceMul, Nat.reduceSub, Nat.reduceLeDiff, Nat.reduceBEq, Int.reduceToNat, Int.reduceLE, Int.reduceLT, Int.reduceEq, Int.reduceNe, di]

theorem bothL_step {cl dl : List Int} {i : Nat} (h : i < cl.length) (hl : dl.length = cl.length) : (bothL cl dl).take (i + 1) = (bothL cl dl).take i ++ [W6 (cl.getD i 0 + dl.getD i 0)] := by
  unfold bothL
  rw [List.take_succ_eq_append_getElem (by rw [List.length_zipWith]; omega), List.getElem_zipWith]
  simp [List.getD_eq_getElem?_getD, h, show i < dl.length by omega]
theorem bothL_length {cl dl : List Int} (hl : dl.length = cl.length) : (bothL cl dl).length = cl.length := by unfold bothL; rw [List.length_zipWith]; omega
theorem bothL_mid {cl dl : List Int} (h1 : ∀ v ∈ cl, -500 ≤ v ∧ v ≤ 500) (h2 : ∀ v ∈ dl, -500 ≤ v ∧ v ≤ 500) : ∀ v ∈ bothL cl dl, -1000 ≤ v ∧ v ≤ 1000 := by
  intro v hv
  unfold bothL at hv
  obtain ⟨i, hi, rfl⟩ := List.getElem_of_mem hv
  rw [List.getElem_zipWith]
  rw [List.length_zipWith] at hi
  have a := h1 _ (List.getElem_mem (l := cl) (n := i) (by omega))
  have b := h2 _ (List.getElem_mem (l := dl) (n := i) (by omega))
  rw [show W6 (cl[i] + dl[i]) = cl[i] + dl[i] from w6 (by omega) (by omega)]
  omega
theorem addL_at {a b : List Int} {M : Int} (ha : ∀ i, -M ≤ a.getD i 0 ∧ a.getD i 0 ≤ M) (hb : ∀ i, -M ≤ b.getD i 0 ∧ b.getD i 0 ≤ M) (hM : M ≤ 1000000000) {i : Nat} (hi : i < a.length) : (addL a b).getD i 0 = a.getD i 0 + b.getD i 0 := by
  have h1 := ha i; have h2 := hb i
  unfold addL
  rw [List.getD_eq_getElem?_getD, List.getElem?_map, List.getElem?_range hi]
  exact w6 (by omega) (by omega)
theorem closeE_mid {v : Int} (h : -1000 ≤ v ∧ v ≤ 1000) : closeE v = 0 := by
  unfold closeE
  rw [if_pos h]
theorem addL_out {a b : List Int} {i : Nat} (hi : ¬ i < a.length) : (addL a b).getD i 0 = 0 := getD_out (by rw [addL_length]; omega)
theorem add_gd {x : Ln} {s u : Ws} (hs : Sh (opn x) s) {M : Int} (hM : 0 ≤ M ∧ M ≤ 100000) (gs : Gd M s) (gu : Gd M u) : Gd (2 * M) (addS s u) ∧ Sh (opn x) (addS s u) ∧ SumR (opn x).n.toNat s u (addS s u) := by
  have sF := hs.f; have sB := hs.b; have sL := hs.l
  have e1 : ∀ i, i < s.F.length → (addL s.F u.F).getD i 0 = s.F.getD i 0 + u.F.getD i 0 := fun i hi => addL_at (M := M) (fun i => (gs.b i).1) (fun i => (gu.b i).1) (by omega) hi
  have e2 : ∀ i, i < s.B.length → (addL s.B u.B).getD i 0 = s.B.getD i 0 + u.B.getD i 0 := fun i hi => addL_at (M := M) (fun i => (gs.b i).2) (fun i => (gu.b i).2) (by omega) hi
  have e3 : ∀ i, i < s.L.length → (addL s.L u.L).getD i 0 = s.L.getD i 0 + u.L.getD i 0 := fun i hi => addL_at (M := 2 * M) (fun i => by have := gs.l i; omega) (fun i => by have := gu.l i; omega) (by omega) hi
  refine ⟨⟨fun i => ⟨?_, ?_⟩, fun j => ?_⟩, ⟨by show ((addL s.F u.F).length : Int) = _; rw [addL_length]; exact sF, by show ((addL s.B u.B).length : Int) = _; rw [addL_length]; exact sB, by show (addL s.L u.L).length = _; rw [addL_length]; exact sL⟩, fun i hi => ⟨e1 i (by omega), e2 i (by omega)⟩⟩
  · show _ ≤ (addL s.F u.F).getD i 0 ∧ (addL s.F u.F).getD i 0 ≤ _
    by_cases hi : i < s.F.length
    · rw [e1 i hi]; have := (gs.b i).1; have := (gu.b i).1; omega
    · rw [addL_out hi]; omega
  · show _ ≤ (addL s.B u.B).getD i 0 ∧ (addL s.B u.B).getD i 0 ≤ _
    by_cases hi : i < s.B.length
    · rw [e2 i hi]; have := (gs.b i).2; have := (gu.b i).2; omega
    · rw [addL_out hi]; omega
  · show _ ≤ (addL s.L u.L).getD j 0 ∧ (addL s.L u.L).getD j 0 ≤ _
    by_cases hi : j < s.L.length
    · rw [e3 j hi]; have := gs.l j; have := gu.l j; omega
    · rw [addL_out hi]; omega
theorem runE_mid {x : Ln} {s : Ws} {cl : List Int} (h0 : stE x s = 0) (hl : cl.length ≤ 20) (hc : ∀ v ∈ cl, -1000 ≤ v ∧ v ≤ 1000) : runE x s cl = 0 :=
  runE_zero.2 ⟨⟨h0, by omega⟩, fun n hn => closeE_mid (hc n hn)⟩
theorem sum_law {x : Ln} {s u : Ws} {cl dl : List Int} (hx : LineOk x) (hp : plainL x = true) (hs : Sh (opn x) s) (hu : Sh (opn x) u) (gs : Gd 10000 s) (gu : Gd 10000 u) (hl : cl.length ≤ 20) (hne : cl ≠ []) (hd : dl.length = cl.length) (h1 : ∀ v ∈ cl, -500 ≤ v ∧ v ≤ 500) (h2 : ∀ v ∈ dl, -500 ≤ v ∧ v ≤ 500) :
    stE x (addS s u) = 0 ∧ runS (opn x) (addS s u) (bothL cl dl) = addS (runS (opn x) s cl) (runS (opn x) u dl) := by
  have hn := (opn_ok hx).nb
  obtain ⟨N, hN⟩ : ∃ N, (opn x).n.toNat = N + 1 := ⟨(opn x).n.toNat - 1, by omega⟩
  obtain ⟨g, sh, r⟩ := add_gd hs (by decide) gs gu
  rw [hN] at r
  obtain ⟨q1, q2, q3, q4⟩ := sum_run hx hp hN cl dl 20000 s u (addS s u) hd.symm h1 h2 (by decide) (by omega) hs hu sh (gd_mono (by decide) gs) (gd_mono (by decide) gu) g r
  refine ⟨stE_zero.2 ⟨hx, gd_ok (by decide) sh g⟩, ?_⟩
  have sA := sh_run (l := cl) hn.1 hs
  have sB := sh_run (l := dl) hn.1 hu
  have sU := sh_run (l := bothL cl dl) hn.1 sh
  obtain ⟨_, shAB, rAB⟩ := add_gd sA (M := 20000 + 1000 * cl.length) (by omega) q3 q4
  rw [hN] at rAB
  have q2 := q2 hne
  have e3 : ∀ j, j < x.ar.length → (addS (runS (opn x) s cl) (runS (opn x) u dl)).L.getD j 0 = (runS (opn x) s cl).L.getD j 0 + (runS (opn x) u dl).L.getD j 0 := fun j hj =>
    addL_at (M := 2 * (20000 + 1000 * cl.length)) (fun i => by have := q3.l i; omega) (fun i => by have := q4.l i; omega) (by omega) (by have := sA.l; have : (opn x).ar.length = x.ar.length := rfl; omega)
  have f1 := sU.f; have f2 := sU.b; have f3 := sU.l
  have g1 := shAB.f; have g2 := shAB.b; have g3 := shAB.l
  have har : (opn x).ar.length = x.ar.length := rfl
  generalize runS (opn x) (addS s u) (bothL cl dl) = U at *
  generalize runS (opn x) s cl = A at *
  generalize runS (opn x) u dl = B at *
  generalize addS A B = W at *
  have k1 : U.F = W.F := eq_getD 0 (by omega) fun j hj => by rw [(q1 j (by omega)).1, (rAB j (by omega)).1]
  have k2 : U.B = W.B := eq_getD 0 (by omega) fun j hj => by rw [(q1 j (by omega)).2, (rAB j (by omega)).2]
  have k3 : U.L = W.L := eq_getD 0 (by omega) fun j hj => by rw [q2 j (by omega), e3 j (by omega)]
  cases U; cases W
  simp only at k1 k2 k3
  rw [k1, k2, k3]
theorem l_WaveSums {x : Ln} {s u : Ws} {cl dl : List Int} : Contract Try.prog 4 [lnI x, .agg [nI s.F, nI s.B, nI s.L, nI u.F, nI u.B, nI u.L], .agg [nI cl, nI dl]] (.bool true) := by
  refine contract_run Try.func4 k4 rfl ?_
  simp only [body4, b4, res4, b4k0, b4k1, b4k2, b4k3, b4k4, b4k5, vaE, ↓reduceIte, reduceCtorEq, Nat.reduceEqDiff, Nat.reduceAdd, Nat.reduceMul, Nat.reduceSub, Nat.reduceLeDiff, Nat.reduceBEq, Int.reduceToNat, Int.reduceLE, Int.reduceLT, Int.reduceEq, Int.reduceNe, di]
  refine calls_of l_awake ?_; simp only [vaE, res4, b4k0, b4k1, b4k2, b4k3, b4k4, b4k5, ↓reduceIte, reduceCtorEq, Nat.reduceEqDiff, Nat.reduceAdd, Nat.reduceMul, Nat.reduceSub, Nat.reduceLeDiff, Nat.reduceBEq, Int.reduceToNat, Int.reduceLE, Int.reduceLT, Int.reduceEq, Int.reduceNe, di]
  refine calls_of l_few ?_; simp only [vaE, res4, b4k0, b4k1, b4k2, b4k3, b4k4, b4k5, ↓reduceIte, reduceCtorEq, Nat.reduceEqDiff, Nat.reduceAdd, Nat.reduceMul, Nat.reduceSub, Nat.reduceLeDiff, Nat.reduceBEq, Int.reduceToNat, Int.reduceLE, Int.reduceLT, Int.reduceEq, Int.reduceNe, di]
  by_cases hf : x.pp.length ≤ 6 ∧ x.ar.length ≤ 6
  rotate_left
  · simp only [hf, vaE, ↓reduceIte, reduceCtorEq, Nat.reduceEqDiff, Nat.reduceAdd, Nat.reduceMul, Nat.reduceSub, Nat.reduceLeDiff, Nat.reduceBEq, Int.reduceToNat, Int.reduceLE, Int.reduceLT, Int.reduceEq, Int.reduceNe, di]
  simp only [hf, vaE, ↓reduceIte, reduceCtorEq, Nat.reduceEqDiff, Nat.reduceAdd, Nat.reduceMul, Nat.reduceSub, Nat.reduceLeDiff, Nat.reduceBEq, Int.reduceToNat, Int.reduceLE, Int.reduceLT, Int.reduceEq, Int.reduceNe, di]
  repeat (refine And.intro (by omega) ?_)
  refine calls_of (l_fewCells (s := s)) ?_; simp only [vaE, res4, b4k0, b4k1, b4k2, b4k3, b4k4, b4k5, ↓reduceIte, reduceCtorEq, Nat.reduceEqDiff, Nat.reduceAdd, Nat.reduceMul, Nat.reduceSub, Nat.reduceLeDiff, Nat.reduceBEq, Int.reduceToNat, Int.reduceLE, Int.reduceLT, Int.reduceEq, Int.reduceNe, di]
  by_cases hf2 : s.F.length ≤ 30 ∧ s.B.length ≤ 30 ∧ s.L.length ≤ 10
  rotate_left
  · simp only [hf2, vaE, ↓reduceIte, reduceCtorEq, Nat.reduceEqDiff, Nat.reduceAdd, Nat.reduceMul, Nat.reduceSub, Nat.reduceLeDiff, Nat.reduceBEq, Int.reduceToNat, Int.reduceLE, Int.reduceLT, Int.reduceEq, Int.reduceNe, di]
  simp only [hf2, vaE, ↓reduceIte, reduceCtorEq, Nat.reduceEqDiff, Nat.reduceAdd, Nat.reduceMul, Nat.reduceSub, Nat.reduceLeDiff, Nat.reduceBEq, Int.reduceToNat, Int.reduceLE, Int.reduceLT, Int.reduceEq, Int.reduceNe, di]
  repeat (refine And.intro (by omega) ?_)
  refine calls_of (l_fewCells (s := u)) ?_; simp only [vaE, res4, b4k0, b4k1, b4k2, b4k3, b4k4, b4k5, ↓reduceIte, reduceCtorEq, Nat.reduceEqDiff, Nat.reduceAdd, Nat.reduceMul, Nat.reduceSub, Nat.reduceLeDiff, Nat.reduceBEq, Int.reduceToNat, Int.reduceLE, Int.reduceLT, Int.reduceEq, Int.reduceNe, di]
  by_cases hf3 : u.F.length ≤ 30 ∧ u.B.length ≤ 30 ∧ u.L.length ≤ 10
  rotate_left
  · simp only [hf3, vaE, ↓reduceIte, reduceCtorEq, Nat.reduceEqDiff, Nat.reduceAdd, Nat.reduceMul, Nat.reduceSub, Nat.reduceLeDiff, Nat.reduceBEq, Int.reduceToNat, Int.reduceLE, Int.reduceLT, Int.reduceEq, Int.reduceNe, di]
  simp only [hf3, vaE, ↓reduceIte, reduceCtorEq, Nat.reduceEqDiff, Nat.reduceAdd, Nat.reduceMul, Nat.reduceSub, Nat.reduceLeDiff, Nat.reduceBEq, Int.reduceToNat, Int.reduceLE, Int.reduceLT, Int.reduceEq, Int.reduceNe, di]
  have hx : Few x := ⟨by omega, by omega⟩
  have hs : FewS s := ⟨by omega, by omega, by omega⟩
  have hu : FewS u := ⟨by omega, by omega, by omega⟩
  repeat (refine And.intro (by omega) ?_)
  refine calls_of (r_StateErr (s := s) hx hs) ?_; simp only [vaE, res4, b4k0, b4k1, b4k2, b4k3, b4k4, b4k5, ↓reduceIte, reduceCtorEq, Nat.reduceEqDiff, Nat.reduceAdd, Nat.reduceMul, Nat.reduceSub, Nat.reduceLeDiff, Nat.reduceBEq, Int.reduceToNat, Int.reduceLE, Int.reduceLT, Int.reduceEq, Int.reduceNe, di]
  by_cases h0 : stE x s = 0
  rotate_left
  · simp only [h0, vaE, ↓reduceIte, reduceCtorEq, Nat.reduceEqDiff, Nat.reduceAdd, Nat.reduceMul, Nat.reduceSub, Nat.reduceLeDiff, Nat.reduceBEq, Int.reduceToNat, Int.reduceLE, Int.reduceLT, Int.reduceEq, Int.reduceNe, di]
  simp only [h0, vaE, ↓reduceIte, reduceCtorEq, Nat.reduceEqDiff, Nat.reduceAdd, Nat.reduceMul, Nat.reduceSub, Nat.reduceLeDiff, Nat.reduceBEq, Int.reduceToNat, Int.reduceLE, Int.reduceLT, Int.reduceEq, Int.reduceNe, di]
  repeat (refine And.intro (by omega) ?_)
  refine calls_of (r_StateErr (s := u) hx hu) ?_; simp only [vaE, res4, b4k0, b4k1, b4k2, b4k3, b4k4, b4k5, ↓reduceIte, reduceCtorEq, Nat.reduceEqDiff, Nat.reduceAdd, Nat.reduceMul, Nat.reduceSub, Nat.reduceLeDiff, Nat.reduceBEq, Int.reduceToNat, Int.reduceLE, Int.reduceLT, Int.reduceEq, Int.reduceNe, di]
  by_cases h1 : stE x u = 0
  rotate_left
  · simp only [h1, vaE, ↓reduceIte, reduceCtorEq, Nat.reduceEqDiff, Nat.reduceAdd, Nat.reduceMul, Nat.reduceSub, Nat.reduceLeDiff, Nat.reduceBEq, Int.reduceToNat, Int.reduceLE, Int.reduceLT, Int.reduceEq, Int.reduceNe, di]
  simp only [h1, vaE, ↓reduceIte, reduceCtorEq, Nat.reduceEqDiff, Nat.reduceAdd, Nat.reduceMul, Nat.reduceSub, Nat.reduceLeDiff, Nat.reduceBEq, Int.reduceToNat, Int.reduceLE, Int.reduceLT, Int.reduceEq, Int.reduceNe, di]
  have hz := stE_zero.1 h0
  have hz1 := stE_zero.1 h1
  have hxo := hz.1
  refine calls_of (r_IsPlain hxo) ?_; simp only [vaE, res4, b4k0, b4k1, b4k2, b4k3, b4k4, b4k5, ↓reduceIte, reduceCtorEq, Nat.reduceEqDiff, Nat.reduceAdd, Nat.reduceMul, Nat.reduceSub, Nat.reduceLeDiff, Nat.reduceBEq, Int.reduceToNat, Int.reduceLE, Int.reduceLT, Int.reduceEq, Int.reduceNe, di]
  by_cases hp : plainL x = true
  rotate_left
  · simp only [hp, vaE, ↓reduceIte, reduceCtorEq, Nat.reduceEqDiff, Nat.reduceAdd, Nat.reduceMul, Nat.reduceSub, Nat.reduceLeDiff, Nat.reduceBEq, Int.reduceToNat, Int.reduceLE, Int.reduceLT, Int.reduceEq, Int.reduceNe, di]
  simp only [hp, vaE, ↓reduceIte, reduceCtorEq, Nat.reduceEqDiff, Nat.reduceAdd, Nat.reduceMul, Nat.reduceSub, Nat.reduceLeDiff, Nat.reduceBEq, Int.reduceToNat, Int.reduceLE, Int.reduceLT, Int.reduceEq, Int.reduceNe, di]
  repeat (refine And.intro (by omega) ?_)
  refine calls_of (l_small (s := s) hs) ?_; simp only [vaE, res4, b4k0, b4k1, b4k2, b4k3, b4k4, b4k5, ↓reduceIte, reduceCtorEq, Nat.reduceEqDiff, Nat.reduceAdd, Nat.reduceMul, Nat.reduceSub, Nat.reduceLeDiff, Nat.reduceBEq, Int.reduceToNat, Int.reduceLE, Int.reduceLT, Int.reduceEq, Int.reduceNe, di]
  by_cases hsm : idxF bigP (s.F ++ s.B ++ s.L) = -1
  rotate_left
  · simp only [hsm, vaE, ↓reduceIte, reduceCtorEq, Nat.reduceEqDiff, Nat.reduceAdd, Nat.reduceMul, Nat.reduceSub, Nat.reduceLeDiff, Nat.reduceBEq, Int.reduceToNat, Int.reduceLE, Int.reduceLT, Int.reduceEq, Int.reduceNe, di]
  simp only [hsm, vaE, ↓reduceIte, reduceCtorEq, Nat.reduceEqDiff, Nat.reduceAdd, Nat.reduceMul, Nat.reduceSub, Nat.reduceLeDiff, Nat.reduceBEq, Int.reduceToNat, Int.reduceLE, Int.reduceLT, Int.reduceEq, Int.reduceNe, di]
  repeat (refine And.intro (by omega) ?_)
  refine calls_of (l_small (s := u) hu) ?_; simp only [vaE, res4, b4k0, b4k1, b4k2, b4k3, b4k4, b4k5, ↓reduceIte, reduceCtorEq, Nat.reduceEqDiff, Nat.reduceAdd, Nat.reduceMul, Nat.reduceSub, Nat.reduceLeDiff, Nat.reduceBEq, Int.reduceToNat, Int.reduceLE, Int.reduceLT, Int.reduceEq, Int.reduceNe, di]
  by_cases hsm1 : idxF bigP (u.F ++ u.B ++ u.L) = -1
  rotate_left
  · simp only [hsm1, vaE, ↓reduceIte, reduceCtorEq, Nat.reduceEqDiff, Nat.reduceAdd, Nat.reduceMul, Nat.reduceSub, Nat.reduceLeDiff, Nat.reduceBEq, Int.reduceToNat, Int.reduceLE, Int.reduceLT, Int.reduceEq, Int.reduceNe, di]
  simp only [hsm1, vaE, ↓reduceIte, reduceCtorEq, Nat.reduceEqDiff, Nat.reduceAdd, Nat.reduceMul, Nat.reduceSub, Nat.reduceLeDiff, Nat.reduceBEq, Int.reduceToNat, Int.reduceLE, Int.reduceLT, Int.reduceEq, Int.reduceNe, di]
  by_cases hc0 : (cl.length : Int) = 0
  · simp only [hc0, vaE, ↓reduceIte, reduceCtorEq, Nat.reduceEqDiff, Nat.reduceAdd, Nat.reduceMul, Nat.reduceSub, Nat.reduceLeDiff, Nat.reduceBEq, Int.reduceToNat, Int.reduceLE, Int.reduceLT, Int.reduceEq, Int.reduceNe, di]
    decide
  by_cases hc1 : (20 : Int) < (cl.length : Int)
  · simp only [hc0, hc1, vaE, ↓reduceIte, reduceCtorEq, Nat.reduceEqDiff, Nat.reduceAdd, Nat.reduceMul, Nat.reduceSub, Nat.reduceLeDiff, Nat.reduceBEq, Int.reduceToNat, Int.reduceLE, Int.reduceLT, Int.reduceEq, Int.reduceNe, di]
    decide
  by_cases hc2 : (dl.length : Int) = (cl.length : Int)
  rotate_left
  · simp only [hc0, hc1, hc2, vaE, ↓reduceIte, reduceCtorEq, Nat.reduceEqDiff, Nat.reduceAdd, Nat.reduceMul, Nat.reduceSub, Nat.reduceLeDiff, Nat.reduceBEq, Int.reduceToNat, Int.reduceLE, Int.reduceLT, Int.reduceEq, Int.reduceNe, di]
    decide
  simp only [hc0, hc1, hc2, vaE, ↓reduceIte, reduceCtorEq, Nat.reduceEqDiff, Nat.reduceAdd, Nat.reduceMul, Nat.reduceSub, Nat.reduceLeDiff, Nat.reduceBEq, Int.reduceToNat, Int.reduceLE, Int.reduceLT, Int.reduceEq, Int.reduceNe, di]
  repeat (refine And.intro (by omega) ?_)
  have hld : dl.length = cl.length := by omega
  have hlb := bothL_length hld
  refine loop_keep (α := Nat) rfl (fun i => cl.length - i) (fun i => i ≤ cl.length ∧ ∀ k, k < i → (-500 ≤ cl.getD k 0 ∧ cl.getD k 0 ≤ 500) ∧ -500 ≤ dl.getD k 0 ∧ dl.getD k 0 ≤ 500)
    (fun i => [(3, .ref 3 0), (4, .ref 4 0), (5, .ref 5 0), (7, .own 7), (8, .imm (.int .i64 i))])
    (fun i => [(3, .box [.imm (.slc 2 (x.pp.map ppI)), .imm (nI x.ar)]), (4, .box [.imm (nI s.F), .imm (nI s.B), .imm (nI s.L), .imm (nI u.F), .imm (nI u.B), .imm (nI u.L)]),
      (5, .box [.imm (nI cl), .imm (nI dl)]), (7, .tok 1 (((bothL cl dl).take i).map (.int .i64)))])
    0 ⟨Nat.zero_le _, fun k hk => absurd hk (by omega)⟩ (by simp only [nI, vaE, ↓reduceIte, reduceCtorEq, Nat.reduceEqDiff, Nat.reduceAdd, Nat.reduceMul, Nat.reduceSub, Nat.reduceLeDiff, Nat.reduceBEq, Int.reduceToNat, Int.reduceLE, Int.reduceLT, Int.reduceEq, Int.reduceNe, di] <;> rfl) ?_
  rintro i ⟨hi, hk⟩ ih
  simp only [res4, b4k0, b4k1, b4k2, b4k3, b4k4, b4k5, nI, vaE, ↓reduceIte, reduceCtorEq, Nat.reduceEqDiff, Nat.reduceAdd, Nat.reduceMul, Nat.reduceSub, Nat.reduceLeDiff, Nat.reduceBEq, Int.reduceToNat, Int.reduceLE, Int.reduceLT, Int.reduceEq, Int.reduceNe, di]
  repeat (refine And.intro (by omega) ?_)
  split
  · rename_i hlt0
    have hlt : i < cl.length := by omega
    repeat (refine And.intro (by first | omega | exact all_int _ | (simp only [zeros_len, List.length_append, List.length_take, List.length_drop, List.length_set, List.length_cons, List.length_nil, List.length_map]; omega)) ?_)
    refine calls_of c_Within ?_; simp only [vaE, res4, b4k0, b4k1, b4k2, b4k3, b4k4, b4k5, ↓reduceIte, reduceCtorEq, Nat.reduceEqDiff, Nat.reduceAdd, Nat.reduceMul, Nat.reduceSub, Nat.reduceLeDiff, Nat.reduceBEq, Int.reduceToNat, Int.reduceLE, Int.reduceLT, Int.reduceEq, Int.reduceNe, di]
    by_cases m1 : -500 ≤ cl.getD i 0 ∧ cl.getD i 0 ≤ 500
    rotate_left
    · simp only [m1, vaE, ↓reduceIte, reduceCtorEq, Nat.reduceEqDiff, Nat.reduceAdd, Nat.reduceMul, Nat.reduceSub, Nat.reduceLeDiff, Nat.reduceBEq, Int.reduceToNat, Int.reduceLE, Int.reduceLT, Int.reduceEq, Int.reduceNe, di]
    simp only [m1, vaE, ↓reduceIte, reduceCtorEq, Nat.reduceEqDiff, Nat.reduceAdd, Nat.reduceMul, Nat.reduceSub, Nat.reduceLeDiff, Nat.reduceBEq, Int.reduceToNat, Int.reduceLE, Int.reduceLT, Int.reduceEq, Int.reduceNe, di]
    repeat (refine And.intro (by first | omega | exact all_int _ | (simp only [zeros_len, List.length_append, List.length_take, List.length_drop, List.length_set, List.length_cons, List.length_nil, List.length_map]; omega)) ?_)
    refine calls_of c_Within ?_; simp only [vaE, res4, b4k0, b4k1, b4k2, b4k3, b4k4, b4k5, ↓reduceIte, reduceCtorEq, Nat.reduceEqDiff, Nat.reduceAdd, Nat.reduceMul, Nat.reduceSub, Nat.reduceLeDiff, Nat.reduceBEq, Int.reduceToNat, Int.reduceLE, Int.reduceLT, Int.reduceEq, Int.reduceNe, di]
    by_cases m2 : -500 ≤ dl.getD i 0 ∧ dl.getD i 0 ≤ 500
    rotate_left
    · simp only [m2, vaE, ↓reduceIte, reduceCtorEq, Nat.reduceEqDiff, Nat.reduceAdd, Nat.reduceMul, Nat.reduceSub, Nat.reduceLeDiff, Nat.reduceBEq, Int.reduceToNat, Int.reduceLE, Int.reduceLT, Int.reduceEq, Int.reduceNe, di]
    simp only [m2, vaE, ↓reduceIte, reduceCtorEq, Nat.reduceEqDiff, Nat.reduceAdd, Nat.reduceMul, Nat.reduceSub, Nat.reduceLeDiff, Nat.reduceBEq, Int.reduceToNat, Int.reduceLE, Int.reduceLT, Int.reduceEq, Int.reduceNe, di]
    repeat (refine And.intro (by first | omega | exact all_int _ | (simp only [zeros_len, List.length_append, List.length_take, List.length_drop, List.length_set, List.length_cons, List.length_nil, List.length_map]; omega)) ?_)
    rw [wrap64 (n := (i : Int) + 1) (by omega) (by omega)]
    refine ih (i + 1) _ _ (by omega) ⟨by omega, fun k hki => ?_⟩ ?_
    · by_cases he : k = i
      · subst he; exact ⟨m1, m2⟩
      · exact hk k (by omega)
    · rw [bothL_step hlt hld, List.map_append]
      simp only [vaE, ↓reduceIte, reduceCtorEq, Nat.reduceEqDiff, Nat.reduceAdd, Nat.reduceMul, Nat.reduceSub, Nat.reduceLeDiff, Nat.reduceBEq, Int.reduceToNat, Int.reduceLE, Int.reduceLT, Int.reduceEq, Int.reduceNe, di] <;> rfl
  · rename_i hge
    have hie : i = cl.length := by omega
    subst hie
    have hm1 : ∀ v ∈ cl, -500 ≤ v ∧ v ≤ 500 := fun v hv => by
      obtain ⟨k, hk', rfl⟩ := mem_getD hv
      exact (hk k hk').1
    have hm2 : ∀ v ∈ dl, -500 ≤ v ∧ v ≤ 500 := fun v hv => by
      obtain ⟨k, hk', rfl⟩ := mem_getD hv
      exact (hk k (by omega)).2
    rw [List.take_of_length_le (by omega)]
    have gs := (small_gd hxo (smallL_iff.1 hsm)).1
    have gu := (small_gd hxo (smallL_iff.1 hsm1)).1
    have hsh := hz.2.sh; have hsu := hz1.2.sh
    obtain ⟨k1, k2⟩ := sum_law hxo hp hsh hsu gs gu (by omega) (fun h => hc0 (by rw [h]; rfl)) hld hm1 hm2
    have how := opn_ok hxo
    have r1 : runE x s cl = 0 := runE_mid h0 (by omega) (fun v hv => by have := hm1 v hv; omega)
    have r2 : runE x u dl = 0 := runE_mid h1 (by omega) (fun v hv => by have := hm2 v hv; omega)
    have r3 : runE x (addS s u) (bothL cl dl) = 0 := runE_mid k1 (by omega) (bothL_mid hm1 hm2)
    have w1 := w_RunOf' (cl := cl) hx hs (by omega)
    have w2 := w_RunOf' (cl := dl) hx hu (by omega)
    have sh3 : Sh (opn x) (addS s u) := (add_gd hsh (by decide) gs gu).2.1
    have w3 := w_RunOf' (cl := bothL cl dl) hx (few_sh how sh3) (by omega)
    rw [show runZ x s cl = runS (opn x) s cl by unfold runZ; rw [if_pos r1], r1] at w1
    rw [show runZ x u dl = runS (opn x) u dl by unfold runZ; rw [if_pos r2], r2] at w2
    rw [show runZ x (addS s u) (bothL cl dl) = addS (runS (opn x) s cl) (runS (opn x) u dl) by unfold runZ; rw [if_pos r3, k2], r3] at w3
    have sA := sh_run (l := cl) how.nb.1 hsh
    have sB := sh_run (l := dl) how.nb.1 hsu
    have nA := how.nb
    have la := l_added (b := u) (few_sh how hsh) (by have := hsh.f; have := hsu.f; omega) (by have := hsh.b; have := hsu.b; omega) (by rw [hsh.l, hsu.l]) (by have := hsh.f; have := hsh.b; omega) (by have := hsh.f; omega)
    have lb := l_added (b := runS (opn x) u dl) (few_sh how sA) (by have := sA.f; have := sB.f; omega) (by have := sA.b; have := sB.b; omega) (by rw [sA.l, sB.l]) (by have := sA.f; have := sA.b; omega) (by have := sA.f; omega)
    have z1 := l_sized hxo sA
    have z2 := l_sized hxo sB
    have shW : Sh (opn x) (addS (runS (opn x) s cl) (runS (opn x) u dl)) := by rw [← k2]; exact sh_run how.nb.1 sh3
    have fW := few_sh how shW
    generalize runS (opn x) s cl = A at *
    generalize runS (opn x) u dl = B at *
    refine calls_of (r_CopyLine hx) ?_; simp only [vaE, res4, b4k0, b4k1, b4k2, b4k3, b4k4, b4k5, ↓reduceIte, reduceCtorEq, Nat.reduceEqDiff, Nat.reduceAdd, Nat.reduceMul, Nat.reduceSub, Nat.reduceLeDiff, Nat.reduceBEq, Int.reduceToNat, Int.reduceLE, Int.reduceLT, Int.reduceEq, Int.reduceNe, di]
    repeat (refine And.intro (by omega) ?_)
    refine calls_of (r_CopyState (s := s) hs) ?_; simp only [vaE, res4, b4k0, b4k1, b4k2, b4k3, b4k4, b4k5, ↓reduceIte, reduceCtorEq, Nat.reduceEqDiff, Nat.reduceAdd, Nat.reduceMul, Nat.reduceSub, Nat.reduceLeDiff, Nat.reduceBEq, Int.reduceToNat, Int.reduceLE, Int.reduceLT, Int.reduceEq, Int.reduceNe, di]
    repeat (refine And.intro (by omega) ?_)
    refine calls_of (c_CopyInts (a := cl) (by omega)) ?_; simp only [vaE, res4, b4k0, b4k1, b4k2, b4k3, b4k4, b4k5, ↓reduceIte, reduceCtorEq, Nat.reduceEqDiff, Nat.reduceAdd, Nat.reduceMul, Nat.reduceSub, Nat.reduceLeDiff, Nat.reduceBEq, Int.reduceToNat, Int.reduceLE, Int.reduceLT, Int.reduceEq, Int.reduceNe, di]
    refine calls_of w1 ?_; simp only [vaE, res4, b4k0, b4k1, b4k2, b4k3, b4k4, b4k5, ↓reduceIte, reduceCtorEq, Nat.reduceEqDiff, Nat.reduceAdd, Nat.reduceMul, Nat.reduceSub, Nat.reduceLeDiff, Nat.reduceBEq, Int.reduceToNat, Int.reduceLE, Int.reduceLT, Int.reduceEq, Int.reduceNe, di]
    refine calls_of (r_CopyLine hx) ?_; simp only [vaE, res4, b4k0, b4k1, b4k2, b4k3, b4k4, b4k5, ↓reduceIte, reduceCtorEq, Nat.reduceEqDiff, Nat.reduceAdd, Nat.reduceMul, Nat.reduceSub, Nat.reduceLeDiff, Nat.reduceBEq, Int.reduceToNat, Int.reduceLE, Int.reduceLT, Int.reduceEq, Int.reduceNe, di]
    repeat (refine And.intro (by omega) ?_)
    refine calls_of (r_CopyState (s := u) hu) ?_; simp only [vaE, res4, b4k0, b4k1, b4k2, b4k3, b4k4, b4k5, ↓reduceIte, reduceCtorEq, Nat.reduceEqDiff, Nat.reduceAdd, Nat.reduceMul, Nat.reduceSub, Nat.reduceLeDiff, Nat.reduceBEq, Int.reduceToNat, Int.reduceLE, Int.reduceLT, Int.reduceEq, Int.reduceNe, di]
    repeat (refine And.intro (by omega) ?_)
    refine calls_of (c_CopyInts (a := dl) (by omega)) ?_; simp only [vaE, res4, b4k0, b4k1, b4k2, b4k3, b4k4, b4k5, ↓reduceIte, reduceCtorEq, Nat.reduceEqDiff, Nat.reduceAdd, Nat.reduceMul, Nat.reduceSub, Nat.reduceLeDiff, Nat.reduceBEq, Int.reduceToNat, Int.reduceLE, Int.reduceLT, Int.reduceEq, Int.reduceNe, di]
    refine calls_of w2 ?_; simp only [vaE, res4, b4k0, b4k1, b4k2, b4k3, b4k4, b4k5, ↓reduceIte, reduceCtorEq, Nat.reduceEqDiff, Nat.reduceAdd, Nat.reduceMul, Nat.reduceSub, Nat.reduceLeDiff, Nat.reduceBEq, Int.reduceToNat, Int.reduceLE, Int.reduceLT, Int.reduceEq, Int.reduceNe, di]
    refine calls_of (r_CopyLine hx) ?_; simp only [vaE, res4, b4k0, b4k1, b4k2, b4k3, b4k4, b4k5, ↓reduceIte, reduceCtorEq, Nat.reduceEqDiff, Nat.reduceAdd, Nat.reduceMul, Nat.reduceSub, Nat.reduceLeDiff, Nat.reduceBEq, Int.reduceToNat, Int.reduceLE, Int.reduceLT, Int.reduceEq, Int.reduceNe, di]
    repeat (refine And.intro (by omega) ?_)
    refine calls_of la ?_; simp only [vaE, res4, b4k0, b4k1, b4k2, b4k3, b4k4, b4k5, ↓reduceIte, reduceCtorEq, Nat.reduceEqDiff, Nat.reduceAdd, Nat.reduceMul, Nat.reduceSub, Nat.reduceLeDiff, Nat.reduceBEq, Int.reduceToNat, Int.reduceLE, Int.reduceLT, Int.reduceEq, Int.reduceNe, di]
    refine calls_of w3 ?_; simp only [vaE, res4, b4k0, b4k1, b4k2, b4k3, b4k4, b4k5, ↓reduceIte, reduceCtorEq, Nat.reduceEqDiff, Nat.reduceAdd, Nat.reduceMul, Nat.reduceSub, Nat.reduceLeDiff, Nat.reduceBEq, Int.reduceToNat, Int.reduceLE, Int.reduceLT, Int.reduceEq, Int.reduceNe, di]
    refine calls_of z1 ?_; simp only [vaE, res4, b4k0, b4k1, b4k2, b4k3, b4k4, b4k5, ↓reduceIte, reduceCtorEq, Nat.reduceEqDiff, Nat.reduceAdd, Nat.reduceMul, Nat.reduceSub, Nat.reduceLeDiff, Nat.reduceBEq, Int.reduceToNat, Int.reduceLE, Int.reduceLT, Int.reduceEq, Int.reduceNe, di]
    refine calls_of z2 ?_; simp only [vaE, res4, b4k0, b4k1, b4k2, b4k3, b4k4, b4k5, ↓reduceIte, reduceCtorEq, Nat.reduceEqDiff, Nat.reduceAdd, Nat.reduceMul, Nat.reduceSub, Nat.reduceLeDiff, Nat.reduceBEq, Int.reduceToNat, Int.reduceLE, Int.reduceLT, Int.reduceEq, Int.reduceNe, di]
    refine calls_of lb ?_; simp only [vaE, res4, b4k0, b4k1, b4k2, b4k3, b4k4, b4k5, ↓reduceIte, reduceCtorEq, Nat.reduceEqDiff, Nat.reduceAdd, Nat.reduceMul, Nat.reduceSub, Nat.reduceLeDiff, Nat.reduceBEq, Int.reduceToNat, Int.reduceLE, Int.reduceLT, Int.reduceEq, Int.reduceNe, di]
    refine calls_of (r_SameState fW) ?_; simp only [vaE, res4, b4k0, b4k1, b4k2, b4k3, b4k4, b4k5, ↓reduceIte, reduceCtorEq, Nat.reduceEqDiff, Nat.reduceAdd, Nat.reduceMul, Nat.reduceSub, Nat.reduceLeDiff, Nat.reduceBEq, Int.reduceToNat, Int.reduceLE, Int.reduceLT, Int.reduceEq, Int.reduceNe, di]

end Go.DI

