/- Contracts of the reference: oscillations. No condition. -/
import Derived.Test.YtadmimjaelodkaaWgk
import Derived.Test.YtadmimjaelodkaaWgp
import Derived.Test.YtadmimjaelodkaaWgq
set_option linter.unusedSimpArgs false
set_option maxRecDepth 100000
namespace Go.DI
open Go.Proofs Go.RowKit

theorem c_CopyGausses {a : List Ga} (ha : a.length ≤ 1000000000) : Contract Try.prog 137 [.slc 2 (a.map gI)] (.slc 2 (a.map gI)) := by
 refine contract_run Try.func137 k137 rfl ?_
 simp only [body137, b137, res137, vaE, ↓reduceIte, reduceCtorEq, Nat.reduceEqDiff, Nat.reduceAdd, Nat.reduceMul, Nat.reduceSub, Nat.reduceLeDiff, Nat.reduceBEq, Int.reduceToNat, Int.reduceLE, Int.reduceLT, Int.reduceEq, Int.reduceNe, di]
 omega
theorem r_CopySteady {s : Sty} (hs : FewG s) : Contract Try.prog 80 [stdI s] (stdI s) := by
 have h1 := hs.1; have h2 := hs.2.1; have h3 := hs.2.2
 refine contract_run Try.func80 k80 rfl ?_
 simp only [body80, b80, res80, stdI, vaE, ↓reduceIte, reduceCtorEq, Nat.reduceEqDiff, Nat.reduceAdd, Nat.reduceMul, Nat.reduceSub, Nat.reduceLeDiff, Nat.reduceBEq, Int.reduceToNat, Int.reduceLE, Int.reduceLT, Int.reduceEq, Int.reduceNe, di]
 refine calls_of (c_CopyGausses (a := s.F) (by omega)) ?_; simp only [vaE, res80, ↓reduceIte, reduceCtorEq, Nat.reduceEqDiff, Nat.reduceAdd, Nat.reduceMul, Nat.reduceSub, Nat.reduceLeDiff, Nat.reduceBEq, Int.reduceToNat, Int.reduceLE, Int.reduceLT, Int.reduceEq, Int.reduceNe, di]
 refine calls_of (c_CopyGausses (a := s.B) (by omega)) ?_; simp only [vaE, res80, ↓reduceIte, reduceCtorEq, Nat.reduceEqDiff, Nat.reduceAdd, Nat.reduceMul, Nat.reduceSub, Nat.reduceLeDiff, Nat.reduceBEq, Int.reduceToNat, Int.reduceLE, Int.reduceLT, Int.reduceEq, Int.reduceNe, di]
 refine calls_of (c_CopyGausses (a := s.L) (by omega)) ?_; simp only [vaE, res80, ↓reduceIte, reduceCtorEq, Nat.reduceEqDiff, Nat.reduceAdd, Nat.reduceMul, Nat.reduceSub, Nat.reduceLeDiff, Nat.reduceBEq, Int.reduceToNat, Int.reduceLE, Int.reduceLT, Int.reduceEq, Int.reduceNe, di]
theorem r_FlowErr {g : Ga} : Contract Try.prog 82 [gI g] (.int .i64 (flowE g)) := by
 refine contract_run Try.func82 k82 rfl ?_
 simp only [body82, b82, res82, b82k0, gI, vaE, ↓reduceIte, reduceCtorEq, Nat.reduceEqDiff, Nat.reduceAdd, Nat.reduceMul, Nat.reduceSub, Nat.reduceLeDiff, Nat.reduceBEq, Int.reduceToNat, Int.reduceLE, Int.reduceLT, Int.reduceEq, Int.reduceNe, di]
 refine calls_of c_Within ?_; simp only [vaE, res82, b82k0, ↓reduceIte, reduceCtorEq, Nat.reduceEqDiff, Nat.reduceAdd, Nat.reduceMul, Nat.reduceSub, Nat.reduceLeDiff, Nat.reduceBEq, Int.reduceToNat, Int.reduceLE, Int.reduceLT, Int.reduceEq, Int.reduceNe, di]
 unfold flowE
 by_cases h1 : -10 ≤ g.1 ∧ g.1 ≤ 10
 ·simp only [h1, vaE, ↓reduceIte, reduceCtorEq, Nat.reduceEqDiff, Nat.reduceAdd, Nat.reduceMul, Nat.reduceSub, Nat.reduceLeDiff, Nat.reduceBEq, Int.reduceToNat, Int.reduceLE, Int.reduceLT, Int.reduceEq, Int.reduceNe, di]
  refine calls_of c_Within ?_; simp only [vaE, res82, b82k0, ↓reduceIte, reduceCtorEq, Nat.reduceEqDiff, Nat.reduceAdd, Nat.reduceMul, Nat.reduceSub, Nat.reduceLeDiff, Nat.reduceBEq, Int.reduceToNat, Int.reduceLE, Int.reduceLT, Int.reduceEq, Int.reduceNe, di]
  by_cases h2 : -10 ≤ g.2 ∧ g.2 ≤ 10
  ·simp only [h2, vaE, ↓reduceIte, reduceCtorEq, Nat.reduceEqDiff, Nat.reduceAdd, Nat.reduceMul, Nat.reduceSub, Nat.reduceLeDiff, Nat.reduceBEq, Int.reduceToNat, Int.reduceLE, Int.reduceLT, Int.reduceEq, Int.reduceNe, di]
   rw [if_pos (show floOk g from ⟨h1, h2⟩)]
  ·simp only [h2, vaE, ↓reduceIte, reduceCtorEq, Nat.reduceEqDiff, Nat.reduceAdd, Nat.reduceMul, Nat.reduceSub, Nat.reduceLeDiff, Nat.reduceBEq, Int.reduceToNat, Int.reduceLE, Int.reduceLT, Int.reduceEq, Int.reduceNe, di]
   rw [if_neg (show ¬ floOk g from fun k => h2 k.2)]
 ·simp only [h1, vaE, ↓reduceIte, reduceCtorEq, Nat.reduceEqDiff, Nat.reduceAdd, Nat.reduceMul, Nat.reduceSub, Nat.reduceLeDiff, Nat.reduceBEq, Int.reduceToNat, Int.reduceLE, Int.reduceLT, Int.reduceEq, Int.reduceNe, di]
  rw [if_neg (show ¬ floOk g from fun k => h1 k.1)]
theorem r_SteadyErr {x : Ln} {s : Sty} (hx : LineOk x) (hs : FewG s) : Contract Try.prog 84 [lnI x, stdI s] (.int .i64 (stdE x s)) := by
 have h1 := hs.1; have h2 := hs.2.1; have h3 := hs.2.2
 have hl0 : (chkL x).2 = 0 := chkL_ok.2 hx
 have hox : opnE x = opn x := by unfold opnE; rw [if_pos hl0]
 refine contract_run Try.func84 k84 rfl ?_
 simp only [body84, b84, res84, b84k0, b84k1, b84k2, b84k3, b84k4, stdI, vaE, ↓reduceIte, reduceCtorEq, Nat.reduceEqDiff, Nat.reduceAdd, Nat.reduceMul, Nat.reduceSub, Nat.reduceLeDiff, Nat.reduceBEq, Int.reduceToNat, Int.reduceLE, Int.reduceLT, Int.reduceEq, Int.reduceNe, di]
 refine calls_of r_QuarterErr ?_; simp only [vaE, res84, b84k0, b84k1, b84k2, b84k3, b84k4, ↓reduceIte, reduceCtorEq, Nat.reduceEqDiff, Nat.reduceAdd, Nat.reduceMul, Nat.reduceSub, Nat.reduceLeDiff, Nat.reduceBEq, Int.reduceToNat, Int.reduceLE, Int.reduceLT, Int.reduceEq, Int.reduceNe, di]
 have hstd : stdE x s = fstE (fstE (quarterE s.q) (shpE (opn x) s)) (prtE (allG s)) := by
  unfold stdE
  rw [hl0, hox]
  rfl
 split
 rotate_left
 ·rename_i hq
  rw [hstd]
  unfold fstE
  simp only [hq, if_false]
 rename_i hq
 rw [hq] at hstd
 refine calls_of (r_Cells hx) ?_; simp only [vaE, res84, b84k0, b84k1, b84k2, b84k3, b84k4, ↓reduceIte, reduceCtorEq, Nat.reduceEqDiff, Nat.reduceAdd, Nat.reduceMul, Nat.reduceSub, Nat.reduceLeDiff, Nat.reduceBEq, Int.reduceToNat, Int.reduceLE, Int.reduceLT, Int.reduceEq, Int.reduceNe, di]
 by_cases c1 : (s.F.length : Int) = (opn x).n
 rotate_left
 ·simp only [c1, vaE, ↓reduceIte, reduceCtorEq, Nat.reduceEqDiff, Nat.reduceAdd, Nat.reduceMul, Nat.reduceSub, Nat.reduceLeDiff, Nat.reduceBEq, Int.reduceToNat, Int.reduceLE, Int.reduceLT, Int.reduceEq, Int.reduceNe, di]
  rw [hstd, show shpE (opn x) s = 10 by unfold shpE; rw [if_neg (fun k => c1 k.1.1)]]
  rfl
 simp only [c1, vaE, ↓reduceIte, reduceCtorEq, Nat.reduceEqDiff, Nat.reduceAdd, Nat.reduceMul, Nat.reduceSub, Nat.reduceLeDiff, Nat.reduceBEq, Int.reduceToNat, Int.reduceLE, Int.reduceLT, Int.reduceEq, Int.reduceNe, di]
 by_cases c2 : (s.B.length : Int) = (opn x).n
 rotate_left
 ·simp only [c2, vaE, ↓reduceIte, reduceCtorEq, Nat.reduceEqDiff, Nat.reduceAdd, Nat.reduceMul, Nat.reduceSub, Nat.reduceLeDiff, Nat.reduceBEq, Int.reduceToNat, Int.reduceLE, Int.reduceLT, Int.reduceEq, Int.reduceNe, di]
  rw [hstd, show shpE (opn x) s = 10 by unfold shpE; rw [if_neg (fun k => c2 k.1.2)]]
  rfl
 simp only [c2, vaE, ↓reduceIte, reduceCtorEq, Nat.reduceEqDiff, Nat.reduceAdd, Nat.reduceMul, Nat.reduceSub, Nat.reduceLeDiff, Nat.reduceBEq, Int.reduceToNat, Int.reduceLE, Int.reduceLT, Int.reduceEq, Int.reduceNe, di]
 by_cases c3 : (s.L.length : Int) = (x.ar.length : Int)
 rotate_left
 ·simp only [c3, vaE, ↓reduceIte, reduceCtorEq, Nat.reduceEqDiff, Nat.reduceAdd, Nat.reduceMul, Nat.reduceSub, Nat.reduceLeDiff, Nat.reduceBEq, Int.reduceToNat, Int.reduceLE, Int.reduceLT, Int.reduceEq, Int.reduceNe, di]
  rw [hstd, show shpE (opn x) s = 10 by unfold shpE; rw [if_neg (fun k => c3 (by have := k.2; have : (opn x).ar.length = x.ar.length := rfl; omega))]]
  rfl
 simp only [c3, vaE, ↓reduceIte, reduceCtorEq, Nat.reduceEqDiff, Nat.reduceAdd, Nat.reduceMul, Nat.reduceSub, Nat.reduceLeDiff, Nat.reduceBEq, Int.reduceToNat, Int.reduceLE, Int.reduceLT, Int.reduceEq, Int.reduceNe, di]
 have hshp : shpE (opn x) s = 0 := by unfold shpE; rw [if_pos ⟨⟨c1, c2⟩, by show s.L.length = x.ar.length; omega⟩]
 rw [hstd, hshp]
 repeat (refine And.intro (by first | omega | exact all_int _ | (simp only [zeros_len, List.length_append, List.length_take, List.length_drop, List.length_set, List.length_cons, List.length_nil, List.length_map]; omega)) ?_)
 have hll : (allG s).length ≤ 3000001 := by unfold allG; simp only [List.length_append, List.length_cons, List.length_nil]; omega
 have hmap : List.map gI (s.F ++ s.B ++ s.L) ++ [.agg [.int .i64 s.c.1, .int .i64 s.c.2]] = List.map gI (allG s) := by
  unfold allG
  rw [List.map_append (l₁ := s.F ++ s.B ++ s.L)]
  rfl
 rw [hmap]
 generalize allG s = l at *
 refine loop_keep (α := Nat) rfl (fun i => l.length - i) (fun i => i ≤ l.length ∧ ∀ j, j < i → partOk (l.getD j default))
  (fun i => [(7, .imm (.slc 2 (l.map gI))), (8, .imm (.int .i64 i))]) (fun _ => [(41, .tok 2 (l.map gI))]) 0 ⟨Nat.zero_le _, fun j hj => by omega⟩ (by simp only [vaE, ↓reduceIte, reduceCtorEq, Nat.reduceEqDiff, Nat.reduceAdd, Nat.reduceMul, Nat.reduceSub, Nat.reduceLeDiff, Nat.reduceBEq, Int.reduceToNat, Int.reduceLE, Int.reduceLT, Int.reduceEq, Int.reduceNe, di] <;> rfl) ?_
 rintro i ⟨hi, he⟩ ih
 simp only [res84, b84k0, b84k1, b84k2, b84k3, b84k4, gI, vaE, ↓reduceIte, reduceCtorEq, Nat.reduceEqDiff, Nat.reduceAdd, Nat.reduceMul, Nat.reduceSub, Nat.reduceLeDiff, Nat.reduceBEq, Int.reduceToNat, Int.reduceLE, Int.reduceLT, Int.reduceEq, Int.reduceNe, di]
 split
 ·rename_i h
  have hlt : i < l.length := by omega
  have bad : ¬ partOk (l.getD i default) → (2 : Int) = fstE (fstE 0 0) (prtE l) := fun k => by
   have : prtE l = 2 := by
    unfold prtE
    rw [if_neg]
    intro hc
    exact k (by simpa using (List.all_eq_true.1 hc) _ (getD_mem (d := default) hlt))
   rw [this]; rfl
  repeat (refine And.intro (by first | omega | exact all_int _ | (simp only [zeros_len, List.length_append, List.length_take, List.length_drop, List.length_set, List.length_cons, List.length_nil, List.length_map]; omega)) ?_)
  refine calls_of c_Within ?_; simp only [vaE, res84, b84k0, b84k1, b84k2, b84k3, b84k4, ↓reduceIte, reduceCtorEq, Nat.reduceEqDiff, Nat.reduceAdd, Nat.reduceMul, Nat.reduceSub, Nat.reduceLeDiff, Nat.reduceBEq, Int.reduceToNat, Int.reduceLE, Int.reduceLT, Int.reduceEq, Int.reduceNe, di]
  by_cases c4 : -1000000 ≤ (l.getD i default).1 ∧ (l.getD i default).1 ≤ 1000000
  rotate_left
  ·simp only [c4, vaE, ↓reduceIte, reduceCtorEq, Nat.reduceEqDiff, Nat.reduceAdd, Nat.reduceMul, Nat.reduceSub, Nat.reduceLeDiff, Nat.reduceBEq, Int.reduceToNat, Int.reduceLE, Int.reduceLT, Int.reduceEq, Int.reduceNe, di]
   rw [← bad fun k => c4 k.1]
  simp only [c4, gI, vaE, ↓reduceIte, reduceCtorEq, Nat.reduceEqDiff, Nat.reduceAdd, Nat.reduceMul, Nat.reduceSub, Nat.reduceLeDiff, Nat.reduceBEq, Int.reduceToNat, Int.reduceLE, Int.reduceLT, Int.reduceEq, Int.reduceNe, di]
  repeat (refine And.intro (by first | omega | exact all_int _ | (simp only [zeros_len, List.length_append, List.length_take, List.length_drop, List.length_set, List.length_cons, List.length_nil, List.length_map]; omega)) ?_)
  refine calls_of c_Within ?_; simp only [vaE, res84, b84k0, b84k1, b84k2, b84k3, b84k4, ↓reduceIte, reduceCtorEq, Nat.reduceEqDiff, Nat.reduceAdd, Nat.reduceMul, Nat.reduceSub, Nat.reduceLeDiff, Nat.reduceBEq, Int.reduceToNat, Int.reduceLE, Int.reduceLT, Int.reduceEq, Int.reduceNe, di]
  by_cases c5 : -1000000 ≤ (l.getD i default).2 ∧ (l.getD i default).2 ≤ 1000000
  rotate_left
  ·simp only [c5, vaE, ↓reduceIte, reduceCtorEq, Nat.reduceEqDiff, Nat.reduceAdd, Nat.reduceMul, Nat.reduceSub, Nat.reduceLeDiff, Nat.reduceBEq, Int.reduceToNat, Int.reduceLE, Int.reduceLT, Int.reduceEq, Int.reduceNe, di]
   rw [← bad fun k => c5 k.2]
  simp only [c5, vaE, ↓reduceIte, reduceCtorEq, Nat.reduceEqDiff, Nat.reduceAdd, Nat.reduceMul, Nat.reduceSub, Nat.reduceLeDiff, Nat.reduceBEq, Int.reduceToNat, Int.reduceLE, Int.reduceLT, Int.reduceEq, Int.reduceNe, di]
  rw [wrap64 (n := (i : Int) + 1) (by omega) (by omega)]
  refine ih (i + 1) _ _ (by omega) ⟨by omega, fun j hj => ?_⟩ (by simp only [vaE, ↓reduceIte, reduceCtorEq, Nat.reduceEqDiff, Nat.reduceAdd, Nat.reduceMul, Nat.reduceSub, Nat.reduceLeDiff, Nat.reduceBEq, Int.reduceToNat, Int.reduceLE, Int.reduceLT, Int.reduceEq, Int.reduceNe, di] <;> rfl)
  by_cases e : j = i
  ·subst e; exact ⟨c4, c5⟩
  ·exact he j (by omega)
 ·rename_i h
  have hie : i = l.length := by omega
  subst hie
  have : prtE l = 0 := prtE_zero.2 fun g hg => by
   obtain ⟨k, hk, rfl⟩ := List.getElem_of_mem hg
   have := he k hk
   rwa [List.getD_eq_getElem?_getD, List.getElem?_eq_getElem hk] at this
  rw [this]
  rfl
end Go.DI

