/- Contracts of the reference: oscillations. No condition. -/
import Derived.Test.YtadmimjaelodkaaWok
import Derived.Test.YtadmimjaelodkaaWop
import Derived.Test.YtadmimjaelodkaaWoq
set_option linter.unusedSimpArgs false
set_option maxRecDepth 100000
namespace Go.DI
open Go.Proofs Go.RowKit

theorem c_CopyGausses {a : List Ga} (ha : a.length ≤ 1000000000) : Contract Try.prog 137 [.slc 2 (a.map gI)] (.slc 2 (a.map gI)) := by
 refine contract_run Try.func137 k137 rfl ?_
 simp only [body137, b137, res137, vaE, ↓reduceIte, reduceCtorEq, Nat.reduceEqDiff, Nat.reduceAdd, Nat.reduceMul, Nat.reduceSub, Nat.reduceLeDiff, Nat.reduceBEq, Int.reduceToNat, Int.reduceLE, Int.reduceLT, Int.reduceEq, Int.reduceNe, di]
 omega
theorem r_CopySteady {s : Sty} (hs : FewG s) : Contract Try.prog 80 [stdI s] (stdI s) := by
 have h1 := hs.1; have h2 := hs.2.1; have h3 := hs.2.2
 refine contract_run Try.func80 k80 rfl ?_
 simp only [body80, b80, res80, stdI, vaE, ↓reduceIte, reduceCtorEq, Nat.reduceEqDiff, Nat.reduceAdd, Nat.reduceMul, Nat.reduceSub, Nat.reduceLeDiff, Nat.reduceBEq, Int.reduceToNat, Int.reduceLE, Int.reduceLT, Int.reduceEq, Int.reduceNe, di]
 refine calls_of (c_CopyGausses (a := s.F) (by omega)) ?_; simp only [vaE, res80, ↓reduceIte, reduceCtorEq, Nat.reduceEqDiff, Nat.reduceAdd, Nat.reduceMul, Nat.reduceSub, Nat.reduceLeDiff, Nat.reduceBEq, Int.reduceToNat, Int.reduceLE, Int.reduceLT, Int.reduceEq, Int.reduceNe, di]
 refine calls_of (c_CopyGausses (a := s.B) (by omega)) ?_; simp only [vaE, res80, ↓reduceIte, reduceCtorEq, Nat.reduceEqDiff, Nat.reduceAdd, Nat.reduceMul, Nat.reduceSub, Nat.reduceLeDiff, Nat.reduceBEq, Int.reduceToNat, Int.reduceLE, Int.reduceLT, Int.reduceEq, Int.reduceNe, di]
 refine calls_of (c_CopyGausses (a := s.L) (by omega)) ?_; simp only [vaE, res80, ↓reduceIte, reduceCtorEq, Nat.reduceEqDiff, Nat.reduceAdd, Nat.reduceMul, Nat.reduceSub, Nat.reduceLeDiff, Nat.reduceBEq, Int.reduceToNat, Int.reduceLE, Int.reduceLT, Int.reduceEq, Int.reduceNe, di]
theorem c_Gausses {a b : List Ga} (ha : a.length ≤ 1000000000) : Contract Try.prog 138 [.slc 2 (a.map gI), .slc 2 (b.map gI)] (.bool (decide (a = b))) := by
 refine contract_run Try.func138 k138 rfl ?_
 simp only [body138, b138, res138, b138k0, b138k1, b138k2, b138k3, vaE, ↓reduceIte, reduceCtorEq, Nat.reduceEqDiff, Nat.reduceAdd, Nat.reduceMul, Nat.reduceSub, Nat.reduceLeDiff, Nat.reduceBEq, Int.reduceToNat, Int.reduceLE, Int.reduceLT, Int.reduceEq, Int.reduceNe, di]
 split
 ·rename_i hl
  have hl : a.length = b.length := by omega
  refine loop_keep (α := Nat) rfl (fun i => a.length - i) (fun i => i ≤ a.length ∧ ∀ j, j < i → a.getD j default = b.getD j default)
   (fun i => [(0, .imm (.slc 2 (a.map gI))), (1, .imm (.slc 2 (b.map gI))), (5, .imm (.int .i64 i))]) (fun _ => []) 0 ⟨Nat.zero_le _, fun j hj => by omega⟩ (by simp only [vaE, ↓reduceIte, reduceCtorEq, Nat.reduceEqDiff, Nat.reduceAdd, Nat.reduceMul, Nat.reduceSub, Nat.reduceLeDiff, Nat.reduceBEq, Int.reduceToNat, Int.reduceLE, Int.reduceLT, Int.reduceEq, Int.reduceNe, di] <;> rfl) ?_
  intro i ⟨hi, he⟩ ih
  simp only [res138, b138k0, b138k1, b138k2, b138k3, gI, vaE, ↓reduceIte, reduceCtorEq, Nat.reduceEqDiff, Nat.reduceAdd, Nat.reduceMul, Nat.reduceSub, Nat.reduceLeDiff, Nat.reduceBEq, Int.reduceToNat, Int.reduceLE, Int.reduceLT, Int.reduceEq, Int.reduceNe, di]
  split
  ·rename_i h
   repeat (refine And.intro (by omega) ?_)
   split
   ·rename_i h2
    rw [decide_eq_false (fun k => by subst k; simp at h2)]
   ·rename_i h2
    have hg : a.getD i default = b.getD i default := Prod.ext (by simp at h2; first | exact h2.1 | grind) (by simp at h2; first | exact h2.2 | grind)
    rw [wrap64 (by omega) (by omega)]
    refine ih (i + 1) _ _ (by omega) ⟨by omega, fun j hj => ?_⟩ (by simp only [vaE, ↓reduceIte, reduceCtorEq, Nat.reduceEqDiff, Nat.reduceAdd, Nat.reduceMul, Nat.reduceSub, Nat.reduceLeDiff, Nat.reduceBEq, Int.reduceToNat, Int.reduceLE, Int.reduceLT, Int.reduceEq, Int.reduceNe, di] <;> rfl)
    by_cases e : j = i
    ·subst e; exact hg
    ·exact he j (by omega)
  ·rename_i h
   have : a = b := eq_of_getD default hl (fun j hj => he j (by omega))
   rw [decide_eq_true this]
 ·rename_i hl
  have : ¬ a = b := fun k => hl (by rw [k])
  rw [decide_eq_false this]
theorem r_FlowErr {g : Ga} : Contract Try.prog 82 [gI g] (.int .i64 (flowE g)) := by
 refine contract_run Try.func82 k82 rfl ?_
 simp only [body82, b82, res82, b82k0, gI, vaE, ↓reduceIte, reduceCtorEq, Nat.reduceEqDiff, Nat.reduceAdd, Nat.reduceMul, Nat.reduceSub, Nat.reduceLeDiff, Nat.reduceBEq, Int.reduceToNat, Int.reduceLE, Int.reduceLT, Int.reduceEq, Int.reduceNe, di]
 refine calls_of c_Within ?_; simp only [vaE, res82, b82k0, ↓reduceIte, reduceCtorEq, Nat.reduceEqDiff, Nat.reduceAdd, Nat.reduceMul, Nat.reduceSub, Nat.reduceLeDiff, Nat.reduceBEq, Int.reduceToNat, Int.reduceLE, Int.reduceLT, Int.reduceEq, Int.reduceNe, di]
 unfold flowE
 by_cases h1 : -10 ≤ g.1 ∧ g.1 ≤ 10
 ·simp only [h1, vaE, ↓reduceIte, reduceCtorEq, Nat.reduceEqDiff, Nat.reduceAdd, Nat.reduceMul, Nat.reduceSub, Nat.reduceLeDiff, Nat.reduceBEq, Int.reduceToNat, Int.reduceLE, Int.reduceLT, Int.reduceEq, Int.reduceNe, di]
  refine calls_of c_Within ?_; simp only [vaE, res82, b82k0, ↓reduceIte, reduceCtorEq, Nat.reduceEqDiff, Nat.reduceAdd, Nat.reduceMul, Nat.reduceSub, Nat.reduceLeDiff, Nat.reduceBEq, Int.reduceToNat, Int.reduceLE, Int.reduceLT, Int.reduceEq, Int.reduceNe, di]
  by_cases h2 : -10 ≤ g.2 ∧ g.2 ≤ 10
  ·simp only [h2, vaE, ↓reduceIte, reduceCtorEq, Nat.reduceEqDiff, Nat.reduceAdd, Nat.reduceMul, Nat.reduceSub, Nat.reduceLeDiff, Nat.reduceBEq, Int.reduceToNat, Int.reduceLE, Int.reduceLT, Int.reduceEq, Int.reduceNe, di]
   rw [if_pos (show floOk g from ⟨h1, h2⟩)]
  ·simp only [h2, vaE, ↓reduceIte, reduceCtorEq, Nat.reduceEqDiff, Nat.reduceAdd, Nat.reduceMul, Nat.reduceSub, Nat.reduceLeDiff, Nat.reduceBEq, Int.reduceToNat, Int.reduceLE, Int.reduceLT, Int.reduceEq, Int.reduceNe, di]
   rw [if_neg (show ¬ floOk g from fun k => h2 k.2)]
 ·simp only [h1, vaE, ↓reduceIte, reduceCtorEq, Nat.reduceEqDiff, Nat.reduceAdd, Nat.reduceMul, Nat.reduceSub, Nat.reduceLeDiff, Nat.reduceBEq, Int.reduceToNat, Int.reduceLE, Int.reduceLT, Int.reduceEq, Int.reduceNe, di]
  rw [if_neg (show ¬ floOk g from fun k => h1 k.1)]
theorem r_reals {p : Int} {l : List Ga} (hl : l.length ≤ 1000000) (hp : ∀ g ∈ l, partOk g) : Contract Try.prog 145 [.slc 2 (l.map gI), .int .i64 p] (nI (reL p l)) := by
 refine contract_run Try.func145 k145 rfl ?_
 simp only [body145, b145, res145, b145k0, b145k1, vaE, ↓reduceIte, reduceCtorEq, Nat.reduceEqDiff, Nat.reduceAdd, Nat.reduceMul, Nat.reduceSub, Nat.reduceLeDiff, Nat.reduceBEq, Int.reduceToNat, Int.reduceLE, Int.reduceLT, Int.reduceEq, Int.reduceNe, di]
 refine loop_keep (α := Nat) rfl (fun i => l.length - i) (fun i => i ≤ l.length)
  (fun i => [(0, .imm (.slc 2 (l.map gI))), (1, .imm (.int .i64 p)), (5, .own 5), (6, .imm (.int .i64 i))])
  (fun i => [(5, .tok 1 ((reL p (l.take i)).map (.int .i64)))]) 0 (Nat.zero_le _) (by simp only [reL, List.take_zero, List.map_nil, vaE, ↓reduceIte, reduceCtorEq, Nat.reduceEqDiff, Nat.reduceAdd, Nat.reduceMul, Nat.reduceSub, Nat.reduceLeDiff, Nat.reduceBEq, Int.reduceToNat, Int.reduceLE, Int.reduceLT, Int.reduceEq, Int.reduceNe, di] <;> rfl) ?_
 intro i hi ih
 have hr : (reL p (l.take i)).length = i := by unfold reL; rw [List.length_map, List.length_take]; omega
 simp only [res145, b145k0, b145k1, gI, vaE, ↓reduceIte, reduceCtorEq, Nat.reduceEqDiff, Nat.reduceAdd, Nat.reduceMul, Nat.reduceSub, Nat.reduceLeDiff, Nat.reduceBEq, Int.reduceToNat, Int.reduceLE, Int.reduceLT, Int.reduceEq, Int.reduceNe, di]
 split
 ·rename_i hlt
  have hlt : i < l.length := by omega
  have hg := hp _ (getD_mem (d := default) hlt)
  unfold partOk at hg
  repeat (refine And.intro (by first | omega | exact all_int _ | (simp only [zeros_len, List.length_append, List.length_take, List.length_drop, List.length_set, List.length_cons, List.length_nil, List.length_map]; omega)) ?_)
  have w1 := r_Times (g := l.getD i default) (p := p) ⟨by omega, by omega⟩
  simp only [gI] at w1
  refine calls_of w1 ?_; simp only [vaE, res145, b145k0, b145k1, ↓reduceIte, reduceCtorEq, Nat.reduceEqDiff, Nat.reduceAdd, Nat.reduceMul, Nat.reduceSub, Nat.reduceLeDiff, Nat.reduceBEq, Int.reduceToNat, Int.reduceLE, Int.reduceLT, Int.reduceEq, Int.reduceNe, di]
  repeat (refine And.intro (by first | omega | exact all_int _ | (simp only [zeros_len, List.length_append, List.length_take, List.length_drop, List.length_set, List.length_cons, List.length_nil, List.length_map]; omega)) ?_)
  rw [wrap64 (n := (i : Int) + 1) (by omega) (by omega)]
  refine ih (i + 1) _ _ (by omega) (by omega) ?_
  rw [show reL p (l.take (i + 1)) = reL p (l.take i) ++ [(gmul (turnG p) (l.getD i default)).1] by
   unfold reL
   rw [List.take_succ_eq_append_getElem hlt, List.map_append]
   simp [List.getD_eq_getElem?_getD, hlt], List.map_append]
  simp only [vaE, ↓reduceIte, reduceCtorEq, Nat.reduceEqDiff, Nat.reduceAdd, Nat.reduceMul, Nat.reduceSub, Nat.reduceLeDiff, Nat.reduceBEq, Int.reduceToNat, Int.reduceLE, Int.reduceLT, Int.reduceEq, Int.reduceNe, di] <;> rfl
 ·rename_i hge
  have hie : i = l.length := by omega
  subst hie
  rw [List.take_length]
theorem r_StateAt {s : Sty} {t : Int} (hs : FewG s) (hq : 0 ≤ s.q ∧ s.q ≤ 3) (hp : ∀ g ∈ allG s, partOk g) : Contract Try.prog 85 [stdI s, .int .i64 t] (.tup [wsI (satS s t), .int .i64 (gmul (turnG (satP s t)) s.c).1]) := by
 have pF : ∀ g ∈ s.F, partOk g := fun g hg => hp g (by simp [allG, hg])
 have pB : ∀ g ∈ s.B, partOk g := fun g hg => hp g (by simp [allG, hg])
 have pL : ∀ g ∈ s.L, partOk g := fun g hg => hp g (by simp [allG, hg])
 have pc : partOk s.c := hp _ (by simp [allG])
 have hpw : 0 ≤ s.q * (t % 4) ∧ s.q * (t % 4) ≤ 9 := by
  rcases (show s.q = 0 ∨ s.q = 1 ∨ s.q = 2 ∨ s.q = 3 by omega) with e | e | e | e <;> rw [e] <;> omega
 refine contract_run Try.func85 k85 rfl ?_
 simp only [body85, b85, res85, stdI, vaE, ↓reduceIte, reduceCtorEq, Nat.reduceEqDiff, Nat.reduceAdd, Nat.reduceMul, Nat.reduceSub, Nat.reduceLeDiff, Nat.reduceBEq, Int.reduceToNat, Int.reduceLE, Int.reduceLT, Int.reduceEq, Int.reduceNe, di]
 refine calls_of c_Mod4 ?_; simp only [vaE, res85, ↓reduceIte, reduceCtorEq, Nat.reduceEqDiff, Nat.reduceAdd, Nat.reduceMul, Nat.reduceSub, Nat.reduceLeDiff, Nat.reduceBEq, Int.reduceToNat, Int.reduceLE, Int.reduceLT, Int.reduceEq, Int.reduceNe, di]
 rw [wrap64 (n := s.q * (t % 4)) (by omega) (by omega), show s.q * (t % 4) = satP s t from rfl]
 refine calls_of (r_reals hs.1 pF) ?_; simp only [vaE, res85, ↓reduceIte, reduceCtorEq, Nat.reduceEqDiff, Nat.reduceAdd, Nat.reduceMul, Nat.reduceSub, Nat.reduceLeDiff, Nat.reduceBEq, Int.reduceToNat, Int.reduceLE, Int.reduceLT, Int.reduceEq, Int.reduceNe, di]
 refine calls_of (r_reals hs.2.1 pB) ?_; simp only [vaE, res85, ↓reduceIte, reduceCtorEq, Nat.reduceEqDiff, Nat.reduceAdd, Nat.reduceMul, Nat.reduceSub, Nat.reduceLeDiff, Nat.reduceBEq, Int.reduceToNat, Int.reduceLE, Int.reduceLT, Int.reduceEq, Int.reduceNe, di]
 refine calls_of (r_reals hs.2.2 pL) ?_; simp only [vaE, res85, ↓reduceIte, reduceCtorEq, Nat.reduceEqDiff, Nat.reduceAdd, Nat.reduceMul, Nat.reduceSub, Nat.reduceLeDiff, Nat.reduceBEq, Int.reduceToNat, Int.reduceLE, Int.reduceLT, Int.reduceEq, Int.reduceNe, di]
 unfold partOk at pc
 have w1 := r_Times (g := s.c) (p := satP s t) ⟨by omega, by omega⟩
 simp only [gI] at w1
 refine calls_of w1 ?_; simp only [vaE, res85, ↓reduceIte, reduceCtorEq, Nat.reduceEqDiff, Nat.reduceAdd, Nat.reduceMul, Nat.reduceSub, Nat.reduceLeDiff, Nat.reduceBEq, Int.reduceToNat, Int.reduceLE, Int.reduceLT, Int.reduceEq, Int.reduceNe, di]
 rfl
theorem r_SameSteady {a b : Sty} (hs : FewG a) : Contract Try.prog 81 [stdI a, stdI b] (.bool (decide (a = b))) := by
 have h1 := hs.1; have h2 := hs.2.1; have h3 := hs.2.2
 have key : (a = b) ↔ ((((a.q = b.q ∧ a.c.1 = b.c.1 ∧ a.c.2 = b.c.2) ∧ a.F = b.F) ∧ a.B = b.B) ∧ a.L = b.L) := by
  cases a; cases b; simp [Prod.ext_iff]; grind
 refine contract_run Try.func81 k81 rfl ?_
 simp only [body81, b81, res81, stdI, vaE, ↓reduceIte, reduceCtorEq, Nat.reduceEqDiff, Nat.reduceAdd, Nat.reduceMul, Nat.reduceSub, Nat.reduceLeDiff, Nat.reduceBEq, Int.reduceToNat, Int.reduceLE, Int.reduceLT, Int.reduceEq, Int.reduceNe, di]
 by_cases k1 : a.q = b.q ∧ a.c.1 = b.c.1 ∧ a.c.2 = b.c.2
 rotate_left
 ·simp only [k1, vaE, ↓reduceIte, reduceCtorEq, Nat.reduceEqDiff, Nat.reduceAdd, Nat.reduceMul, Nat.reduceSub, Nat.reduceLeDiff, Nat.reduceBEq, Int.reduceToNat, Int.reduceLE, Int.reduceLT, Int.reduceEq, Int.reduceNe, di]
  rw [decide_eq_false (fun k => k1 (key.1 k).1.1.1)]
 simp only [k1, vaE, ↓reduceIte, reduceCtorEq, Nat.reduceEqDiff, Nat.reduceAdd, Nat.reduceMul, Nat.reduceSub, Nat.reduceLeDiff, Nat.reduceBEq, Int.reduceToNat, Int.reduceLE, Int.reduceLT, Int.reduceEq, Int.reduceNe, di]
 refine calls_of (c_Gausses (a := a.F) (b := b.F) (by omega)) ?_; simp only [vaE, res81, ↓reduceIte, reduceCtorEq, Nat.reduceEqDiff, Nat.reduceAdd, Nat.reduceMul, Nat.reduceSub, Nat.reduceLeDiff, Nat.reduceBEq, Int.reduceToNat, Int.reduceLE, Int.reduceLT, Int.reduceEq, Int.reduceNe, di]
 by_cases k2 : a.F = b.F
 rotate_left
 ·simp only [k2, vaE, ↓reduceIte, reduceCtorEq, Nat.reduceEqDiff, Nat.reduceAdd, Nat.reduceMul, Nat.reduceSub, Nat.reduceLeDiff, Nat.reduceBEq, Int.reduceToNat, Int.reduceLE, Int.reduceLT, Int.reduceEq, Int.reduceNe, di]
  rw [decide_eq_false (fun k => k2 (key.1 k).1.1.2)]
 simp only [k2, vaE, ↓reduceIte, reduceCtorEq, Nat.reduceEqDiff, Nat.reduceAdd, Nat.reduceMul, Nat.reduceSub, Nat.reduceLeDiff, Nat.reduceBEq, Int.reduceToNat, Int.reduceLE, Int.reduceLT, Int.reduceEq, Int.reduceNe, di]
 refine calls_of (c_Gausses (a := a.B) (b := b.B) (by omega)) ?_; simp only [vaE, res81, ↓reduceIte, reduceCtorEq, Nat.reduceEqDiff, Nat.reduceAdd, Nat.reduceMul, Nat.reduceSub, Nat.reduceLeDiff, Nat.reduceBEq, Int.reduceToNat, Int.reduceLE, Int.reduceLT, Int.reduceEq, Int.reduceNe, di]
 by_cases k3 : a.B = b.B
 rotate_left
 ·simp only [k3, vaE, ↓reduceIte, reduceCtorEq, Nat.reduceEqDiff, Nat.reduceAdd, Nat.reduceMul, Nat.reduceSub, Nat.reduceLeDiff, Nat.reduceBEq, Int.reduceToNat, Int.reduceLE, Int.reduceLT, Int.reduceEq, Int.reduceNe, di]
  rw [decide_eq_false (fun k => k3 (key.1 k).1.2)]
 simp only [k3, vaE, ↓reduceIte, reduceCtorEq, Nat.reduceEqDiff, Nat.reduceAdd, Nat.reduceMul, Nat.reduceSub, Nat.reduceLeDiff, Nat.reduceBEq, Int.reduceToNat, Int.reduceLE, Int.reduceLT, Int.reduceEq, Int.reduceNe, di]
 refine calls_of (c_Gausses (a := a.L) (b := b.L) (by omega)) ?_; simp only [vaE, res81, ↓reduceIte, reduceCtorEq, Nat.reduceEqDiff, Nat.reduceAdd, Nat.reduceMul, Nat.reduceSub, Nat.reduceLeDiff, Nat.reduceBEq, Int.reduceToNat, Int.reduceLE, Int.reduceLT, Int.reduceEq, Int.reduceNe, di]
 by_cases k4 : a.L = b.L
 ·rw [decide_eq_true k4, decide_eq_true (key.2 ⟨⟨⟨k1, k2⟩, k3⟩, k4⟩)]
 ·rw [decide_eq_false k4, decide_eq_false (fun k => k4 (key.1 k).2)]
theorem r_SteadyErr {x : Ln} {s : Sty} (hx : LineOk x) (hs : FewG s) : Contract Try.prog 84 [lnI x, stdI s] (.int .i64 (stdE x s)) := by
 have h1 := hs.1; have h2 := hs.2.1; have h3 := hs.2.2
 have hl0 : (chkL x).2 = 0 := chkL_ok.2 hx
 have hox : opnE x = opn x := by unfold opnE; rw [if_pos hl0]
 refine contract_run Try.func84 k84 rfl ?_
 simp only [body84, b84, res84, b84k0, b84k1, b84k2, b84k3, b84k4, stdI, vaE, ↓reduceIte, reduceCtorEq, Nat.reduceEqDiff, Nat.reduceAdd, Nat.reduceMul, Nat.reduceSub, Nat.reduceLeDiff, Nat.reduceBEq, Int.reduceToNat, Int.reduceLE, Int.reduceLT, Int.reduceEq, Int.reduceNe, di]
 refine calls_of r_QuarterErr ?_; simp only [vaE, res84, b84k0, b84k1, b84k2, b84k3, b84k4, ↓reduceIte, reduceCtorEq, Nat.reduceEqDiff, Nat.reduceAdd, Nat.reduceMul, Nat.reduceSub, Nat.reduceLeDiff, Nat.reduceBEq, Int.reduceToNat, Int.reduceLE, Int.reduceLT, Int.reduceEq, Int.reduceNe, di]
 have hstd : stdE x s = fstE (fstE (quarterE s.q) (shpE (opn x) s)) (prtE (allG s)) := by
  unfold stdE
  rw [hl0, hox]
  rfl
 split
 rotate_left
 ·rename_i hq
  rw [hstd]
  unfold fstE
  simp only [hq, if_false]
 rename_i hq
 rw [hq] at hstd
 refine calls_of (r_Cells hx) ?_; simp only [vaE, res84, b84k0, b84k1, b84k2, b84k3, b84k4, ↓reduceIte, reduceCtorEq, Nat.reduceEqDiff, Nat.reduceAdd, Nat.reduceMul, Nat.reduceSub, Nat.reduceLeDiff, Nat.reduceBEq, Int.reduceToNat, Int.reduceLE, Int.reduceLT, Int.reduceEq, Int.reduceNe, di]
 by_cases c1 : (s.F.length : Int) = (opn x).n
 rotate_left
 ·simp only [c1, vaE, ↓reduceIte, reduceCtorEq, Nat.reduceEqDiff, Nat.reduceAdd, Nat.reduceMul, Nat.reduceSub, Nat.reduceLeDiff, Nat.reduceBEq, Int.reduceToNat, Int.reduceLE, Int.reduceLT, Int.reduceEq, Int.reduceNe, di]
  rw [hstd, show shpE (opn x) s = 10 by unfold shpE; rw [if_neg (fun k => c1 k.1.1)]]
  rfl
 simp only [c1, vaE, ↓reduceIte, reduceCtorEq, Nat.reduceEqDiff, Nat.reduceAdd, Nat.reduceMul, Nat.reduceSub, Nat.reduceLeDiff, Nat.reduceBEq, Int.reduceToNat, Int.reduceLE, Int.reduceLT, Int.reduceEq, Int.reduceNe, di]
 by_cases c2 : (s.B.length : Int) = (opn x).n
 rotate_left
 ·simp only [c2, vaE, ↓reduceIte, reduceCtorEq, Nat.reduceEqDiff, Nat.reduceAdd, Nat.reduceMul, Nat.reduceSub, Nat.reduceLeDiff, Nat.reduceBEq, Int.reduceToNat, Int.reduceLE, Int.reduceLT, Int.reduceEq, Int.reduceNe, di]
  rw [hstd, show shpE (opn x) s = 10 by unfold shpE; rw [if_neg (fun k => c2 k.1.2)]]
  rfl
 simp only [c2, vaE, ↓reduceIte, reduceCtorEq, Nat.reduceEqDiff, Nat.reduceAdd, Nat.reduceMul, Nat.reduceSub, Nat.reduceLeDiff, Nat.reduceBEq, Int.reduceToNat, Int.reduceLE, Int.reduceLT, Int.reduceEq, Int.reduceNe, di]
 by_cases c3 : (s.L.length : Int) = (x.ar.length : Int)
 rotate_left
 ·simp only [c3, vaE, ↓reduceIte, reduceCtorEq, Nat.reduceEqDiff, Nat.reduceAdd, Nat.reduceMul, Nat.reduceSub, Nat.reduceLeDiff, Nat.reduceBEq, Int.reduceToNat, Int.reduceLE, Int.reduceLT, Int.reduceEq, Int.reduceNe, di]
  rw [hstd, show shpE (opn x) s = 10 by unfold shpE; rw [if_neg (fun k => c3 (by have := k.2; have : (opn x).ar.length = x.ar.length := rfl; omega))]]
  rfl
 simp only [c3, vaE, ↓reduceIte, reduceCtorEq, Nat.reduceEqDiff, Nat.reduceAdd, Nat.reduceMul, Nat.reduceSub, Nat.reduceLeDiff, Nat.reduceBEq, Int.reduceToNat, Int.reduceLE, Int.reduceLT, Int.reduceEq, Int.reduceNe, di]
 have hshp : shpE (opn x) s = 0 := by unfold shpE; rw [if_pos ⟨⟨c1, c2⟩, by show s.L.length = x.ar.length; omega⟩]
 rw [hstd, hshp]
 repeat (refine And.intro (by first | omega | exact all_int _ | (simp only [zeros_len, List.length_append, List.length_take, List.length_drop, List.length_set, List.length_cons, List.length_nil, List.length_map]; omega)) ?_)
 have hll : (allG s).length ≤ 3000001 := by unfold allG; simp only [List.length_append, List.length_cons, List.length_nil]; omega
 have hmap : List.map gI (s.F ++ s.B ++ s.L) ++ [.agg [.int .i64 s.c.1, .int .i64 s.c.2]] = List.map gI (allG s) := by
  unfold allG
  rw [List.map_append (l₁ := s.F ++ s.B ++ s.L)]
  rfl
 rw [hmap]
 generalize allG s = l at *
 refine loop_keep (α := Nat) rfl (fun i => l.length - i) (fun i => i ≤ l.length ∧ ∀ j, j < i → partOk (l.getD j default))
  (fun i => [(7, .imm (.slc 2 (l.map gI))), (8, .imm (.int .i64 i))]) (fun _ => [(41, .tok 2 (l.map gI))]) 0 ⟨Nat.zero_le _, fun j hj => by omega⟩ (by simp only [vaE, ↓reduceIte, reduceCtorEq, Nat.reduceEqDiff, Nat.reduceAdd, Nat.reduceMul, Nat.reduceSub, Nat.reduceLeDiff, Nat.reduceBEq, Int.reduceToNat, Int.reduceLE, Int.reduceLT, Int.reduceEq, Int.reduceNe, di] <;> rfl) ?_
 rintro i ⟨hi, he⟩ ih
 simp only [res84, b84k0, b84k1, b84k2, b84k3, b84k4, gI, vaE, ↓reduceIte, reduceCtorEq, Nat.reduceEqDiff, Nat.reduceAdd, Nat.reduceMul, Nat.reduceSub, Nat.reduceLeDiff, Nat.reduceBEq, Int.reduceToNat, Int.reduceLE, Int.reduceLT, Int.reduceEq, Int.reduceNe, di]
 split
 ·rename_i h
  have hlt : i < l.length := by omega
  have bad : ¬ partOk (l.getD i default) → (2 : Int) = fstE (fstE 0 0) (prtE l) := fun k => by
   have : prtE l = 2 := by
    unfold prtE
    rw [if_neg]
    intro hc
    exact k (by simpa using (List.all_eq_true.1 hc) _ (getD_mem (d := default) hlt))
   rw [this]; rfl
  repeat (refine And.intro (by first | omega | exact all_int _ | (simp only [zeros_len, List.length_append, List.length_take, List.length_drop, List.length_set, List.length_cons, List.length_nil, List.length_map]; omega)) ?_)
  refine calls_of c_Within ?_; simp only [vaE, res84, b84k0, b84k1, b84k2, b84k3, b84k4, ↓reduceIte, reduceCtorEq, Nat.reduceEqDiff, Nat.reduceAdd, Nat.reduceMul, Nat.reduceSub, Nat.reduceLeDiff, Nat.reduceBEq, Int.reduceToNat, Int.reduceLE, Int.reduceLT, Int.reduceEq, Int.reduceNe, di]
  by_cases c4 : -1000000 ≤ (l.getD i default).1 ∧ (l.getD i default).1 ≤ 1000000
  rotate_left
  ·simp only [c4, vaE, ↓reduceIte, reduceCtorEq, Nat.reduceEqDiff, Nat.reduceAdd, Nat.reduceMul, Nat.reduceSub, Nat.reduceLeDiff, Nat.reduceBEq, Int.reduceToNat, Int.reduceLE, Int.reduceLT, Int.reduceEq, Int.reduceNe, di]
   rw [← bad fun k => c4 k.1]
  simp only [c4, gI, vaE, ↓reduceIte, reduceCtorEq, Nat.reduceEqDiff, Nat.reduceAdd, Nat.reduceMul, Nat.reduceSub, Nat.reduceLeDiff, Nat.reduceBEq, Int.reduceToNat, Int.reduceLE, Int.reduceLT, Int.reduceEq, Int.reduceNe, di]
  repeat (refine And.intro (by first | omega | exact all_int _ | (simp only [zeros_len, List.length_append, List.length_take, List.length_drop, List.length_set, List.length_cons, List.length_nil, List.length_map]; omega)) ?_)
  refine calls_of c_Within ?_; simp only [vaE, res84, b84k0, b84k1, b84k2, b84k3, b84k4, ↓reduceIte, reduceCtorEq, Nat.reduceEqDiff, Nat.reduceAdd, Nat.reduceMul, Nat.reduceSub, Nat.reduceLeDiff, Nat.reduceBEq, Int.reduceToNat, Int.reduceLE, Int.reduceLT, Int.reduceEq, Int.reduceNe, di]
  by_cases c5 : -1000000 ≤ (l.getD i default).2 ∧ (l.getD i default).2 ≤ 1000000
  rotate_left
  ·simp only [c5, vaE, ↓reduceIte, reduceCtorEq, Nat.reduceEqDiff, Nat.reduceAdd, Nat.reduceMul, Nat.reduceSub, Nat.reduceLeDiff, Nat.reduceBEq, Int.reduceToNat, Int.reduceLE, Int.reduceLT, Int.reduceEq, Int.reduceNe, di]
   rw [← bad fun k => c5 k.2]
  simp only [c5, vaE, ↓reduceIte, reduceCtorEq, Nat.reduceEqDiff, Nat.reduceAdd, Nat.reduceMul, Nat.reduceSub, Nat.reduceLeDiff, Nat.reduceBEq, Int.reduceToNat, Int.reduceLE, Int.reduceLT, Int.reduceEq, Int.reduceNe, di]
  rw [wrap64 (n := (i : Int) + 1) (by omega) (by omega)]
  refine ih (i + 1) _ _ (by omega) ⟨by omega, fun j hj => ?_⟩ (by simp only [vaE, ↓reduceIte, reduceCtorEq, Nat.reduceEqDiff, Nat.reduceAdd, Nat.reduceMul, Nat.reduceSub, Nat.reduceLeDiff, Nat.reduceBEq, Int.reduceToNat, Int.reduceLE, Int.reduceLT, Int.reduceEq, Int.reduceNe, di] <;> rfl)
  by_cases e : j = i
  ·subst e; exact ⟨c4, c5⟩
  ·exact he j (by omega)
 ·rename_i h
  have hie : i = l.length := by omega
  subst hie
  have : prtE l = 0 := prtE_zero.2 fun g hg => by
   obtain ⟨k, hk, rfl⟩ := List.getElem_of_mem hg
   have := he k hk
   rwa [List.getD_eq_getElem?_getD, List.getElem?_eq_getElem hk] at this
  rw [this]
  rfl
theorem r_Steady {x : Ln} {h : Int} {g : Ga} (hx : LineOk x) (hh : 0 ≤ h ∧ h ≤ 3) (hg : floOk g) : Contract Try.prog 83 [lnI x, .int .i64 h, gI g] (stdI (styF (opn x) h (2 * g.1, 2 * g.2))) := by
 have how := opn_ok hx
 have hlen := hx.len
 have hars := hx.ars
 have hfn : nrm (2 * g.1, 2 * g.2) ≤ 40 := by unfold floOk at hg; unfold nrm; dsimp only; omega
 have hpt := prod_tk how x.pp.length
 rw [show (opn x).pp.take x.pp.length = x.pp from List.take_length] at hpt
 refine contract_run Try.func83 k83 rfl ?_
 simp only [body83, b83, res83, b83k0, b83k1, b83k2, b83k3, b83k4, gI, vaE, ↓reduceIte, reduceCtorEq, Nat.reduceEqDiff, Nat.reduceAdd, Nat.reduceMul, Nat.reduceSub, Nat.reduceLeDiff, Nat.reduceBEq, Int.reduceToNat, Int.reduceLE, Int.reduceLT, Int.reduceEq, Int.reduceNe, di]
 refine calls_of (r_Product hx) ?_; simp only [vaE, res83, b83k0, b83k1, b83k2, b83k3, b83k4, ↓reduceIte, reduceCtorEq, Nat.reduceEqDiff, Nat.reduceAdd, Nat.reduceMul, Nat.reduceSub, Nat.reduceLeDiff, Nat.reduceBEq, Int.reduceToNat, Int.reduceLE, Int.reduceLT, Int.reduceEq, Int.reduceNe, di]
 rw [wrap64 (n := 2 * prodP x.pp) (by omega) (by omega)]
 have hg2 : gsc (2 * prodP x.pp) g = gsc (prodP x.pp) (2 * g.1, 2 * g.2) := by unfold gsc; simp only [Prod.mk.injEq]; constructor <;> grind
 have hst0 := stF_zero (x := opn x) (h := h) (f := (2 * g.1, 2 * g.2))
 have hnq : nrm (gsc (prodP x.pp) (2 * g.1, 2 * g.2)) ≤ 400000 := by
  rw [nrm_gsc]
  have : (prodP x.pp).natAbs ≤ 10000 := by omega
  exact Nat.mul_le_mul this hfn
 have q0 := r_scaled (g := g) (n := 2 * prodP x.pp) (by rw [hg2]; exact nrm_GB hnq (by decide))
 rw [hg2] at q0
 simp only [gI] at q0
 refine calls_of q0 ?_; simp only [vaE, res83, b83k0, b83k1, b83k2, b83k3, b83k4, ↓reduceIte, reduceCtorEq, Nat.reduceEqDiff, Nat.reduceAdd, Nat.reduceMul, Nat.reduceSub, Nat.reduceLeDiff, Nat.reduceBEq, Int.reduceToNat, Int.reduceLE, Int.reduceLT, Int.reduceEq, Int.reduceNe, di]
 generalize hf : (2 * g.1, 2 * g.2) = f at *
 have stz : (if 0 < x.pp.length then stF (opn x) h f 0 else afF (opn x) h f (0 - 1)) = ((0, 0), gsc (prodP x.pp) f) := by rw [if_pos (by omega), hst0]; rfl
 refine loop_keep (α := Nat) rfl (fun k => x.pp.length - k) (fun k => k ≤ x.pp.length)
  (fun k => [(1, .imm (.int .i64 h)), (3, .ref 3 0), (6, .ref 6 0), (7, .ref 7 0), (8, .ref 8 0), (9, .imm (.int .i64 k))])
  (fun k => [(3, .box [.imm (.slc 2 (x.pp.map ppI)), .imm (nI x.ar)]), (6, .box [.imm (.int .i64 0), .imm (.slc 2 []), .imm (.slc 2 []), .imm (.slc 2 []), .imm (.int .i64 0), .imm (.int .i64 0)]),
   (7, .box [.imm (.int .i64 h), .own 1001, .own 1002, .own 1003, .imm (.int .i64 (clA (opn x) h f k).1), .imm (.int .i64 (clA (opn x) h f k).2)]),
   (8, .box [.imm (.int .i64 (if k < x.pp.length then stF (opn x) h f k else afF (opn x) h f (k - 1)).1.1), .imm (.int .i64 (if k < x.pp.length then stF (opn x) h f k else afF (opn x) h f (k - 1)).1.2), .imm (.int .i64 (if k < x.pp.length then stF (opn x) h f k else afF (opn x) h f (k - 1)).2.1), .imm (.int .i64 (if k < x.pp.length then stF (opn x) h f k else afF (opn x) h f (k - 1)).2.2)]),
   (1001, .tok 2 ((fwA (opn x) h f k).map gI)), (1002, .tok 2 ((bwA (opn x) h f k).map gI)), (1003, .tok 2 ((leA (opn x) h f (min k x.ar.length)).map gI))]) 0 (Nat.zero_le _) (by simp only [stz, fwA, bwA, leA, clA, Nat.zero_min, List.map_nil, nI, vaE, ↓reduceIte, reduceCtorEq, Nat.reduceEqDiff, Nat.reduceAdd, Nat.reduceMul, Nat.reduceSub, Nat.reduceLeDiff, Nat.reduceBEq, Int.reduceToNat, Int.reduceLE, Int.reduceLT, Int.reduceEq, Int.reduceNe, di] <;> rfl) ?_
 intro k hk ih
 simp only [res83, b83k0, b83k1, b83k2, b83k3, b83k4, nI, vaE, ↓reduceIte, reduceCtorEq, Nat.reduceEqDiff, Nat.reduceAdd, Nat.reduceMul, Nat.reduceSub, Nat.reduceLeDiff, Nat.reduceBEq, Int.reduceToNat, Int.reduceLE, Int.reduceLT, Int.reduceEq, Int.reduceNe, di]
 split
 rotate_left
 ·rename_i hge
  have hke : k = x.pp.length := by omega
  subst hke
  rw [show min x.pp.length x.ar.length = x.ar.length by omega]
  rfl
 rename_i hlt0
 have hlt : k < x.pp.length := by omega
 have hp := hx.pip _ (getD_mem (d := default) hlt)
 have hy0 : (x.pp.getD k default).2 ≠ 0 := by omega
 obtain ⟨s1, s2⟩ := stF_nrm (h := h) how hfn (show k < (opn x).pp.length from hlt)
 obtain ⟨w1, w2, w3⟩ := wav_nrm (h := h) how hfn (show k < (opn x).pp.length from hlt)
 simp only [hlt, if_true]
 repeat (refine And.intro (by first | omega | exact all_int _ | (simp only [zeros_len, List.length_append, List.length_take, List.length_drop, List.length_set, List.length_cons, List.length_nil, List.length_map]; omega)) ?_)
 have b2 := nrm_GB (k := 1000000000000) s2 (by decide)
 have b1 := nrm_GB (k := 1000000000000) s1 (by decide)
 have q1 := r_over (g := (stF (opn x) h f k).2) (n := (x.pp.getD k default).2) (GB_B62 b2 (by decide)).1 (GB_B62 b2 (by decide)).2 hy0
 rw [show govr (stF (opn x) h f k).2 (x.pp.getD k default).2 = floF (opn x) h f k from rfl] at q1
 simp only [gI] at q1
 refine calls_of q1 ?_; simp only [vaE, res83, b83k0, b83k1, b83k2, b83k3, b83k4, ↓reduceIte, reduceCtorEq, Nat.reduceEqDiff, Nat.reduceAdd, Nat.reduceMul, Nat.reduceSub, Nat.reduceLeDiff, Nat.reduceBEq, Int.reduceToNat, Int.reduceLE, Int.reduceLT, Int.reduceEq, Int.reduceNe, di]
 have bf := nrm_GB (k := 1000000000000) w1 (by decide)
 have be := nrm_GB (k := 1000000000000) w2 (by decide)
 have bl := nrm_GB (k := 1000000000000) w3 (by decide)
 have q2 := c_GAdd (b1.mono (by decide)) (bf.mono (by decide))
 have ba := gadd_GB b1 bf
 have q3 := r_over (n := 2) (GB_B62 ba (by decide)).1 (GB_B62 ba (by decide)).2 (by decide)
 have q4 := c_GSub (b1.mono (by decide)) (bf.mono (by decide))
 have bs : GB 2000000000000 (gsub (stF (opn x) h f k).1 (floF (opn x) h f k)) := nrm_GB (Nat.le_trans (nrm_sub _ _) (Nat.add_le_add s1 w1)) (by decide)
 have q5 := r_over (n := 2) (GB_B62 bs (by decide)).1 (GB_B62 bs (by decide)).2 (by decide)
 rw [show govr (gadd (stF (opn x) h f k).1 (floF (opn x) h f k)) 2 = entF (opn x) h f k from rfl] at q3
 rw [show govr (gsub (stF (opn x) h f k).1 (floF (opn x) h f k)) 2 = leaF (opn x) h f k from rfl] at q5
 simp only [gI] at q2 q3 q4 q5
 refine calls_of q2 ?_; simp only [vaE, res83, b83k0, b83k1, b83k2, b83k3, b83k4, ↓reduceIte, reduceCtorEq, Nat.reduceEqDiff, Nat.reduceAdd, Nat.reduceMul, Nat.reduceSub, Nat.reduceLeDiff, Nat.reduceBEq, Int.reduceToNat, Int.reduceLE, Int.reduceLT, Int.reduceEq, Int.reduceNe, di]
 refine calls_of q3 ?_; simp only [vaE, res83, b83k0, b83k1, b83k2, b83k3, b83k4, ↓reduceIte, reduceCtorEq, Nat.reduceEqDiff, Nat.reduceAdd, Nat.reduceMul, Nat.reduceSub, Nat.reduceLeDiff, Nat.reduceBEq, Int.reduceToNat, Int.reduceLE, Int.reduceLT, Int.reduceEq, Int.reduceNe, di]
 refine calls_of q4 ?_; simp only [vaE, res83, b83k0, b83k1, b83k2, b83k3, b83k4, ↓reduceIte, reduceCtorEq, Nat.reduceEqDiff, Nat.reduceAdd, Nat.reduceMul, Nat.reduceSub, Nat.reduceLeDiff, Nat.reduceBEq, Int.reduceToNat, Int.reduceLE, Int.reduceLT, Int.reduceEq, Int.reduceNe, di]
 refine calls_of q5 ?_; simp only [vaE, res83, b83k0, b83k1, b83k2, b83k3, b83k4, ↓reduceIte, reduceCtorEq, Nat.reduceEqDiff, Nat.reduceAdd, Nat.reduceMul, Nat.reduceSub, Nat.reduceLeDiff, Nat.reduceBEq, Int.reduceToNat, Int.reduceLE, Int.reduceLT, Int.reduceEq, Int.reduceNe, di]
 repeat (refine And.intro (by first | omega | exact all_int _ | (simp only [zeros_len, List.length_append, List.length_take, List.length_drop, List.length_set, List.length_cons, List.length_nil, List.length_map]; omega)) ?_)
 have ef := fwA_len (h := h) (f := f) how k (by show k ≤ x.pp.length; omega)
 have eb := bwA_len (h := h) (f := f) how k (by show k ≤ x.pp.length; omega)
 have ec := cells_le how k
 have el := leA_len (x := opn x) (h := h) (f := f) (min k x.ar.length)
 refine loop_keep (α := Nat) rfl (fun i => (x.pp.getD k default).1.toNat - i) (fun i => (i : Int) ≤ (x.pp.getD k default).1)
  (fun i => [(1, .imm (.int .i64 h)), (3, .ref 3 0), (6, .ref 6 0), (7, .ref 7 0), (8, .ref 8 0), (9, .imm (.int .i64 k)), (11, .ref 11 0), (12, .ref 12 0), (13, .imm (.int .i64 (x.pp.getD k default).1)), (14, .imm (.int .i64 i))])
  (fun i => [(3, .box [.imm (.slc 2 (x.pp.map ppI)), .imm (nI x.ar)]), (6, .box [.imm (.int .i64 0), .imm (.slc 2 []), .imm (.slc 2 []), .imm (.slc 2 []), .imm (.int .i64 0), .imm (.int .i64 0)]),
   (7, .box [.imm (.int .i64 h), .own 1001, .own 1002, .own 1003, .imm (.int .i64 (clA (opn x) h f k).1), .imm (.int .i64 (clA (opn x) h f k).2)]),
   (8, .box [.imm (.int .i64 (stF (opn x) h f k).1.1), .imm (.int .i64 (stF (opn x) h f k).1.2), .imm (.int .i64 (stF (opn x) h f k).2.1), .imm (.int .i64 (stF (opn x) h f k).2.2)]),
   (11, .box [.imm (.int .i64 (entF (opn x) h f k).1), .imm (.int .i64 (entF (opn x) h f k).2)]), (12, .box [.imm (.int .i64 (leaF (opn x) h f k).1), .imm (.int .i64 (leaF (opn x) h f k).2)]),
   (1001, .tok 2 ((fwA (opn x) h f k ++ fwK (opn x) h f k i).map gI)), (1002, .tok 2 ((bwA (opn x) h f k ++ bwK (opn x) h f k i).map gI)), (1003, .tok 2 ((leA (opn x) h f (min k x.ar.length)).map gI))]) 0 (by show (0 : Int) ≤ _; omega) (by simp only [fwK, bwK, List.range_zero, List.map_nil, List.append_nil, nI, vaE, ↓reduceIte, reduceCtorEq, Nat.reduceEqDiff, Nat.reduceAdd, Nat.reduceMul, Nat.reduceSub, Nat.reduceLeDiff, Nat.reduceBEq, Int.reduceToNat, Int.reduceLE, Int.reduceLT, Int.reduceEq, Int.reduceNe, di] <;> rfl) ?_
 intro i hi ih2
 simp only [res83, b83k0, b83k1, b83k2, b83k3, b83k4, nI, vaE, ↓reduceIte, reduceCtorEq, Nat.reduceEqDiff, Nat.reduceAdd, Nat.reduceMul, Nat.reduceSub, Nat.reduceLeDiff, Nat.reduceBEq, Int.reduceToNat, Int.reduceLE, Int.reduceLT, Int.reduceEq, Int.reduceNe, di]
 split
 ·rename_i hlt2
  have hhi : 0 ≤ h * (i : Int) ∧ h * (i : Int) ≤ 18 := by
   have : (i : Int) ≤ 6 := by omega
   rcases (show h = 0 ∨ h = 1 ∨ h = 2 ∨ h = 3 by omega) with e | e | e | e <;> rw [e] <;> omega
  have hhi1 : 0 ≤ h * ((i : Int) + 1) ∧ h * ((i : Int) + 1) ≤ 24 := by rw [Int.mul_add]; omega
  have hb1 := fwK_len (x := opn x) (h := h) (f := f) (k := k) (n := i)
  have hb2 := bwK_len (x := opn x) (h := h) (f := f) (k := k) (n := i)
  rw [wrap64 (n := 0 - h) (by omega) (by omega), Int.zero_sub, Int.neg_mul, wrap64 (n := -(h * (i : Int))) (by omega) (by omega)]
  have q6 := r_Times (g := entF (opn x) h f k) (p := -(h * (i : Int))) (be.mono (by decide))
  have q7 := r_Times (g := leaF (opn x) h f k) (p := h * ((i : Int) + 1)) (bl.mono (by decide))
  simp only [gI] at q6 q7
  refine calls_of q6 ?_; simp only [vaE, res83, b83k0, b83k1, b83k2, b83k3, b83k4, ↓reduceIte, reduceCtorEq, Nat.reduceEqDiff, Nat.reduceAdd, Nat.reduceMul, Nat.reduceSub, Nat.reduceLeDiff, Nat.reduceBEq, Int.reduceToNat, Int.reduceLE, Int.reduceLT, Int.reduceEq, Int.reduceNe, di]
  rw [wrap64 (n := (i : Int) + 1) (by omega) (by omega), wrap64 (n := h * ((i : Int) + 1)) (by omega) (by omega)]
  repeat (refine And.intro (by first | omega | exact all_int _ | (simp only [zeros_len, List.length_append, List.length_take, List.length_drop, List.length_set, List.length_cons, List.length_nil, List.length_map]; omega)) ?_)
  refine calls_of q7 ?_; simp only [vaE, res83, b83k0, b83k1, b83k2, b83k3, b83k4, ↓reduceIte, reduceCtorEq, Nat.reduceEqDiff, Nat.reduceAdd, Nat.reduceMul, Nat.reduceSub, Nat.reduceLeDiff, Nat.reduceBEq, Int.reduceToNat, Int.reduceLE, Int.reduceLT, Int.reduceEq, Int.reduceNe, di]
  repeat (refine And.intro (by first | omega | exact all_int _ | (simp only [zeros_len, List.length_append, List.length_take, List.length_drop, List.length_set, List.length_cons, List.length_nil, List.length_map]; omega)) ?_)
  rw [wrap64 (n := (i : Int) + 1) (by omega) (by omega)]
  refine ih2 (i + 1) _ _ (by omega) (by omega) ?_
  rw [fwK_step, bwK_step, ← List.append_assoc, ← List.append_assoc, List.map_append (l₁ := fwA (opn x) h f k ++ fwK (opn x) h f k i), List.map_append (l₁ := bwA (opn x) h f k ++ bwK (opn x) h f k i)]
  simp only [vaE, ↓reduceIte, reduceCtorEq, Nat.reduceEqDiff, Nat.reduceAdd, Nat.reduceMul, Nat.reduceSub, Nat.reduceLeDiff, Nat.reduceBEq, Int.reduceToNat, Int.reduceLE, Int.reduceLT, Int.reduceEq, Int.reduceNe, di] <;> rfl
 ·rename_i hge2
  have hie : i = (x.pp.getD k default).1.toNat := by omega
  subst hie
  clear ih2
  have hT : 0 ≤ h * (x.pp.getD k default).1 ∧ h * (x.pp.getD k default).1 ≤ 18 := by
   have : (x.pp.getD k default).1 ≤ 6 := by omega
   rcases (show h = 0 ∨ h = 1 ∨ h = 2 ∨ h = 3 by omega) with e | e | e | e <;> rw [e] <;> omega
  rw [wrap64 (n := h * (x.pp.getD k default).1) (by omega) (by omega)]
  have q6 := r_Times (g := leaF (opn x) h f k) (p := h * (x.pp.getD k default).1) (bl.mono (by decide))
  have q7 := r_Times (g := entF (opn x) h f k) (p := -(h * (x.pp.getD k default).1)) (be.mono (by decide))
  have b6 := turn_GB (T := h * (x.pp.getD k default).1) bl
  have b7 := turn_GB (T := -(h * (x.pp.getD k default).1)) be
  have q8 := c_GSub (b6.mono (by decide)) (b7.mono (by decide))
  rw [show gsub (gmul (turnG (h * (x.pp.getD k default).1)) (leaF (opn x) h f k)) (gmul (turnG (-(h * (x.pp.getD k default).1))) (entF (opn x) h f k)) = cl1 (opn x) h f k from rfl] at q8
  simp only [gI] at q6 q7 q8
  refine calls_of q6 ?_; simp only [vaE, res83, b83k0, b83k1, b83k2, b83k3, b83k4, ↓reduceIte, reduceCtorEq, Nat.reduceEqDiff, Nat.reduceAdd, Nat.reduceMul, Nat.reduceSub, Nat.reduceLeDiff, Nat.reduceBEq, Int.reduceToNat, Int.reduceLE, Int.reduceLT, Int.reduceEq, Int.reduceNe, di]
  rw [wrap64 (n := 0 - h) (by omega) (by omega), Int.zero_sub, Int.neg_mul, wrap64 (n := -(h * (x.pp.getD k default).1)) (by omega) (by omega)]
  refine calls_of q7 ?_; simp only [vaE, res83, b83k0, b83k1, b83k2, b83k3, b83k4, ↓reduceIte, reduceCtorEq, Nat.reduceEqDiff, Nat.reduceAdd, Nat.reduceMul, Nat.reduceSub, Nat.reduceLeDiff, Nat.reduceBEq, Int.reduceToNat, Int.reduceLE, Int.reduceLT, Int.reduceEq, Int.reduceNe, di]
  refine calls_of q8 ?_; simp only [vaE, res83, b83k0, b83k1, b83k2, b83k3, b83k4, ↓reduceIte, reduceCtorEq, Nat.reduceEqDiff, Nat.reduceAdd, Nat.reduceMul, Nat.reduceSub, Nat.reduceLeDiff, Nat.reduceBEq, Int.reduceToNat, Int.reduceLE, Int.reduceLT, Int.reduceEq, Int.reduceNe, di]
  repeat (refine And.intro (by first | omega | exact all_int _ | (simp only [zeros_len, List.length_append, List.length_take, List.length_drop, List.length_set, List.length_cons, List.length_nil, List.length_map]; omega)) ?_)
  have q9 := r_through (h := h) (a := stF (opn x) h f k) hp hh b1 b2
  rw [show thrA (x.pp.getD k default).2 (h * (x.pp.getD k default).1) (stF (opn x) h f k) = afF (opn x) h f k from st_af how hlt] at q9
  simp only [ampI] at q9
  refine calls_of q9 ?_; simp only [vaE, res83, b83k0, b83k1, b83k2, b83k3, b83k4, ↓reduceIte, reduceCtorEq, Nat.reduceEqDiff, Nat.reduceAdd, Nat.reduceMul, Nat.reduceSub, Nat.reduceLeDiff, Nat.reduceBEq, Int.reduceToNat, Int.reduceLE, Int.reduceLT, Int.reduceEq, Int.reduceNe, di]
  obtain ⟨a1, a2⟩ := afF_nrm (h := h) how hfn (show k < (opn x).pp.length from hlt)
  have c1 := nrm_GB (k := 1000000000000) a1 (by decide)
  have c2 := nrm_GB (k := 1000000000000) a2 (by decide)
  split
  ·rename_i hlt3
   have hlt3 : k < x.ar.length := by omega
   have ha := hx.are _ (getD_mem (l := x.ar) (d := 0) hlt3)
   have q10 := r_beyond (h := h) (a := afF (opn x) h f k) ha hh c1 c2
   rw [show byA (x.ar.getD k 0) h (afF (opn x) h f k) = stF (opn x) h f (k + 1) from af_st] at q10
   simp only [ampI] at q10
   repeat (refine And.intro (by first | omega | exact all_int _ | (simp only [zeros_len, List.length_append, List.length_take, List.length_drop, List.length_set, List.length_cons, List.length_nil, List.length_map]; omega)) ?_)
   refine calls_of q10 ?_; simp only [vaE, res83, b83k0, b83k1, b83k2, b83k3, b83k4, ↓reduceIte, reduceCtorEq, Nat.reduceEqDiff, Nat.reduceAdd, Nat.reduceMul, Nat.reduceSub, Nat.reduceLeDiff, Nat.reduceBEq, Int.reduceToNat, Int.reduceLE, Int.reduceLT, Int.reduceEq, Int.reduceNe, di]
   rw [wrap64 (n := (k : Int) + 1) (by omega) (by omega)]
   refine ih (k + 1) _ _ (by omega) (by omega) ?_
   rw [if_pos (show k + 1 < x.pp.length by omega), show min (k + 1) x.ar.length = k + 1 by omega, show min k x.ar.length = k by omega]
   simp only [fwA, bwA, clA, leA, List.map_append (l₁ := leA (opn x) h f k), vaE, ↓reduceIte, reduceCtorEq, Nat.reduceEqDiff, Nat.reduceAdd, Nat.reduceMul, Nat.reduceSub, Nat.reduceLeDiff, Nat.reduceBEq, Int.reduceToNat, Int.reduceLE, Int.reduceLT, Int.reduceEq, Int.reduceNe, di] <;> rfl
  ·rename_i hge3
   rw [wrap64 (n := (k : Int) + 1) (by omega) (by omega)]
   refine ih (k + 1) _ _ (by omega) (by omega) ?_
   rw [if_neg (show ¬ k + 1 < x.pp.length by omega), show min (k + 1) x.ar.length = min k x.ar.length by omega, Nat.add_sub_cancel]
   simp only [fwA, bwA, clA, vaE, ↓reduceIte, reduceCtorEq, Nat.reduceEqDiff, Nat.reduceAdd, Nat.reduceMul, Nat.reduceSub, Nat.reduceLeDiff, Nat.reduceBEq, Int.reduceToNat, Int.reduceLE, Int.reduceLT, Int.reduceEq, Int.reduceNe, di] <;> rfl
end Go.DI

