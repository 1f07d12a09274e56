/- Contracts: for how many ticks flows are permitted, in the program and in the reference. No condition. -/
import Derived.Test.YtnkdmcalkgecfaaGreatPec
import Derived.Test.YtnkdmcalkgecfaaGreatPed
set_option linter.unusedSimpArgs false
set_option maxRecDepth 100000
namespace Go.DI
open Go.Proofs Go.RowKit Lk

def lastF (fs : List Flow) : Flow := fs.getD (fs.length - 1) default
def againL (fs : List Flow) : List Flow := List.replicate 200 (lastF fs)
def perE (p : Pair) (s : Sta) (x : Tsk) : Int := if taskE p s x = 0 then if 0 < x.fs.length then 0 else 10 else taskE p s x
def perO (p : Pair) (s : Sta) (x : Tsk) : Nat := if perE p s x = 0 then permL p x.L [s] s (againL x.fs) else 0
theorem drop_last {fs : List Flow} (h : 0 < fs.length) : fs.drop (fs.length - 1) = [lastF fs] := by
  rw [fl_getD (by omega), show fs.length - 1 + 1 = fs.length by omega, List.drop_length]
  rfl
theorem lastF_mem {fs : List Flow} (h : 0 < fs.length) : lastF fs ∈ fs := by
  unfold lastF
  rw [List.getD_eq_getElem?_getD, List.getElem?_eq_getElem (show fs.length - 1 < fs.length by omega)]
  exact List.getElem_mem _
theorem wat_len {p : Pair} {L : Lims} : ∀ {l : List Flow} {ss : List Sta} {s : Sta}, (wat p L ss s l).length ≤ l.length
  | [], _, _ => Nat.le_refl _
  | x :: r, ss, s => by
    unfold wat
    cases hs : Lk.step p s x with
    | none => simp
    | some q =>
      obtain ⟨t, e, f⟩ := q
      exact Nat.succ_le_succ wat_len
theorem p_PermittedFor {p : Pair} {s : Sta} {x : Tsk} (h : Sm p) (hl : x.fs.length ≤ 1000000000000) : Contract Tryz.prog 18 [lpI p, stI s, tskI x] (.tup [.int .i64 (perO p s x), .int .i64 (perE p s x)]) := by
  have ho : Contract Tryz.prog 30 [lpI p, stI s, tskI x] (.tup [lpI p, .int .i64 (taskE p s x)]) := p_openTask h hl
  have hpe : perE p s x = if taskE p s x = 0 then if (0 : Int) < (x.fs.length : Int) then 0 else 10 else taskE p s x := by
    unfold perE
    by_cases h0 : 0 < x.fs.length
    · rw [if_pos h0, if_pos (show (0 : Int) < (x.fs.length : Int) by omega)]
    · rw [if_neg h0, if_neg (show ¬ (0 : Int) < (x.fs.length : Int) by omega)]
  refine contract_run Tryz.func18 k18 rfl ?_
  simp only [body18, b18, res18, b18k0, b18k1, b18k2, limI, limsI, tskI, hgtI, lkE, ↓reduceIte, reduceCtorEq, Nat.reduceEqDiff, Nat.reduceAdd, Nat.reduceMul, Nat.reduceSub, Nat.reduceLeDiff, Nat.reduceBEq, Int.reduceToNat, Int.reduceLE, Int.reduceLT, Int.reduceEq, Int.reduceNe, di]
  refine calls_of ho ?_; simp only [limI, limsI, tskI, hgtI, res18, b18k0, b18k1, b18k2, lkE, ↓reduceIte, reduceCtorEq, Nat.reduceEqDiff, Nat.reduceAdd, Nat.reduceMul, Nat.reduceSub, Nat.reduceLeDiff, Nat.reduceBEq, Int.reduceToNat, Int.reduceLE, Int.reduceLT, Int.reduceEq, Int.reduceNe, di]
  refine calls_of p_unless ?_; simp only [limI, limsI, tskI, hgtI, res18, b18k0, b18k1, b18k2, lkE, ↓reduceIte, reduceCtorEq, Nat.reduceEqDiff, Nat.reduceAdd, Nat.reduceMul, Nat.reduceSub, Nat.reduceLeDiff, Nat.reduceBEq, Int.reduceToNat, Int.reduceLE, Int.reduceLT, Int.reduceEq, Int.reduceNe, di]
  refine calls_of p_first2 ?_; simp only [limI, limsI, tskI, hgtI, res18, b18k0, b18k1, b18k2, lkE, ↓reduceIte, reduceCtorEq, Nat.reduceEqDiff, Nat.reduceAdd, Nat.reduceMul, Nat.reduceSub, Nat.reduceLeDiff, Nat.reduceBEq, Int.reduceToNat, Int.reduceLE, Int.reduceLT, Int.reduceEq, Int.reduceNe, di]
  rw [← hpe]
  by_cases hE : perE p s x = 0
  case neg =>
    rw [show perO p s x = 0 by unfold perO; rw [if_neg hE]]
    simp only [hE, res18, b18k0, b18k1, b18k2, limI, limsI, tskI, hgtI, lkE, ↓reduceIte, reduceCtorEq, Nat.reduceEqDiff, Nat.reduceAdd, Nat.reduceMul, Nat.reduceSub, Nat.reduceLeDiff, Nat.reduceBEq, Int.reduceToNat, Int.reduceLE, Int.reduceLT, Int.reduceEq, Int.reduceNe, di]
  rw [show perO p s x = permL p x.L [s] s (againL x.fs) by unfold perO; rw [if_pos hE]]
  have hte : taskE p s x = 0 ∧ 0 < x.fs.length := by
    unfold perE at hE
    split at hE
    · rename_i h1
      split at hE
      · rename_i h2; exact ⟨h1, h2⟩
      · omega
    · rename_i h1; exact absurd hE h1
  obtain ⟨hp, hs, hL, hn, hf⟩ := taskE_ok hte.1
  simp only [hE, res18, b18k0, b18k1, b18k2, limI, limsI, tskI, hgtI, lkE, ↓reduceIte, reduceCtorEq, Nat.reduceEqDiff, Nat.reduceAdd, Nat.reduceMul, Nat.reduceSub, Nat.reduceLeDiff, Nat.reduceBEq, Int.reduceToNat, Int.reduceLE, Int.reduceLT, Int.reduceEq, Int.reduceNe, di]
  rw [wrap64 (n := (x.fs.length : Int) - 1) (by omega) (by omega)]
  repeat (refine And.intro (by omega) ?_)
  rw [List.take_length, show ((x.fs.length : Int) - 1).toNat = x.fs.length - 1 by omega, drop_last hte.2]
  refine calls_of (p_Repeat (x := lastF x.fs)) ?_; simp only [limI, limsI, tskI, hgtI, res18, b18k0, b18k1, b18k2, lkE, ↓reduceIte, reduceCtorEq, Nat.reduceEqDiff, Nat.reduceAdd, Nat.reduceMul, Nat.reduceSub, Nat.reduceLeDiff, Nat.reduceBEq, Int.reduceToNat, Int.reduceLE, Int.reduceLT, Int.reduceEq, Int.reduceNe, di]
  rw [show List.replicate 200 (lastF x.fs) = againL x.fs from rfl]
  have hf2 : ∀ y ∈ againL x.fs, flowOk y := fun y hy => by
    rw [List.eq_of_mem_replicate hy]; exact hf _ (lastF_mem hte.2)
  have hl2 : (againL x.fs).length = 200 := List.length_replicate
  generalize againL x.fs = fs at *
  refine calls_of p_Values ?_; simp only [limI, limsI, tskI, hgtI, res18, b18k0, b18k1, b18k2, lkE, ↓reduceIte, reduceCtorEq, Nat.reduceEqDiff, Nat.reduceAdd, Nat.reduceMul, Nat.reduceSub, Nat.reduceLeDiff, Nat.reduceBEq, Int.reduceToNat, Int.reduceLE, Int.reduceLT, Int.reduceEq, Int.reduceNe, di]
  refine do_lend rfl (by rw [restr_look]; exact b_watch (p := p) (s := s) (L := x.L) (fs := fs)) rfl rfl ?_
  rintro q R' ⟨rfl, rfl⟩
  refine ⟨_, rfl, rfl, ?_⟩
  simp only [res18, b18k0, b18k1, b18k2, limI, limsI, tskI, hgtI, lkE, ↓reduceIte, reduceCtorEq, Nat.reduceEqDiff, Nat.reduceAdd, Nat.reduceMul, Nat.reduceSub, Nat.reduceLeDiff, Nat.reduceBEq, Int.reduceToNat, Int.reduceLE, Int.reduceLT, Int.reduceEq, Int.reduceNe, di]
  have hw := it_watch (s := s) hp hs hL hf2 (by omega)
  have hyl := wat_len (p := p) (L := x.L) (l := fs) (ss := [s]) (s := s)
  rw [← permW_wat]
  generalize wat p x.L [s] s fs = ys at *
  refine range_keep (gf := 57) (first := []) (caps := watC p x.L fs) (ys.map watI) false rfl rfl rfl rfl (fun l => by rw [restr_look, withSeq_look]; exact hw l) (fun z hz => by obtain ⟨q, _, rfl⟩ := List.mem_map.1 hz; rfl) rfl
    (fun n (c : Nat) => c = n ∧ n + permW (ys.drop n) = permW ys ∧ n ≤ ys.length) (fun c => [(11, .box [.imm (.int .i64 c)])]) 0 (by simp) (by rw [keepRes_look]; simp only [limI, limsI, tskI, hgtI, lkE, ↓reduceIte, reduceCtorEq, Nat.reduceEqDiff, Nat.reduceAdd, Nat.reduceMul, Nat.reduceSub, Nat.reduceLeDiff, Nat.reduceBEq, Int.reduceToNat, Int.reduceLE, Int.reduceLT, Int.reduceEq, Int.reduceNe, di] <;> rfl) ?_ ?_
  · rintro _ z n hx ⟨rfl, hi, hi2⟩
    simp only [List.getElem?_map, Option.map_eq_some_iff] at hx
    obtain ⟨⟨b, w⟩, hx, rfl⟩ := hx
    have hlt := (List.getElem?_eq_some_iff.1 hx).1
    have hd : ys.drop n = (b, w) :: ys.drop (n + 1) := by
      rw [List.drop_eq_getElem_cons hlt]
      congr 1
      exact (List.getElem?_eq_some_iff.1 hx).2
    rw [hd] at hi
    cases b with
    | false =>
      have e : permW ys = n := by simp only [permW] at hi; omega
      rw [e]
      simp only [watI, b18a0, b18r0, res18, b18k0, b18k1, b18k2, limI, limsI, tskI, hgtI, lkE, ↓reduceIte, reduceCtorEq, Nat.reduceEqDiff, Nat.reduceAdd, Nat.reduceMul, Nat.reduceSub, Nat.reduceLeDiff, Nat.reduceBEq, Int.reduceToNat, Int.reduceLE, Int.reduceLT, Int.reduceEq, Int.reduceNe, di]
    | true =>
      cases w with
      | none =>
        simp only [permW] at hi
        simp only [watI, vioI, b18a0, b18r0, res18, b18k0, b18k1, b18k2, limI, limsI, tskI, hgtI, lkE, ↓reduceIte, reduceCtorEq, Nat.reduceEqDiff, Nat.reduceAdd, Nat.reduceMul, Nat.reduceSub, Nat.reduceLeDiff, Nat.reduceBEq, Int.reduceToNat, Int.reduceLE, Int.reduceLT, Int.reduceEq, Int.reduceNe, di]
        rw [wrap64 (n := (n : Int) + 1) (by omega) (by omega)]
        exact ⟨n + 1, ⟨rfl, by omega, by omega⟩, rfl⟩
      | some w =>
        obtain ⟨t, a, k⟩ := w
        have e : permW ys = n := by simp only [permW] at hi; omega
        rw [e]
        simp only [watI, vioI, b18a0, b18r0, res18, b18k0, b18k1, b18k2, limI, limsI, tskI, hgtI, lkE, ↓reduceIte, reduceCtorEq, Nat.reduceEqDiff, Nat.reduceAdd, Nat.reduceMul, Nat.reduceSub, Nat.reduceLeDiff, Nat.reduceBEq, Int.reduceToNat, Int.reduceLE, Int.reduceLT, Int.reduceEq, Int.reduceNe, di]
  · rintro _ _ ⟨rfl, hi, _⟩
    rw [List.length_map] at hi ⊢
    have e : permW ys = ys.length := by rw [List.drop_length] at hi; simp only [permW] at hi; omega
    rw [e]
    simp only [b18a0, b18r0, res18, b18k0, b18k1, b18k2, limI, limsI, tskI, hgtI, lkE, ↓reduceIte, reduceCtorEq, Nat.reduceEqDiff, Nat.reduceAdd, Nat.reduceMul, Nat.reduceSub, Nat.reduceLeDiff, Nat.reduceBEq, Int.reduceToNat, Int.reduceLE, Int.reduceLT, Int.reduceEq, Int.reduceNe, di]
theorem r_PermittedFor {p : Pair} {s : Sta} {x : Tsk} (hp : VPair p) (hs : stOk p s) (hL : limOk p.u x.L.u ∧ limOk p.l x.L.l) (h0 : 0 < x.fs.length) (hl : x.fs.length ≤ 1000) (hf : ∀ y ∈ x.fs, flowOk y) :
    Contract Tryz.prog 19 [lpI p, stI s, tskI x] (.int .i64 (permL p x.L [s] s (againL x.fs))) := by
  have hf2 : ∀ y ∈ againL x.fs, flowOk y := fun y hy => by
    rw [List.eq_of_mem_replicate hy]; exact hf _ (lastF_mem h0)
  have hl2 : (againL x.fs).length = 200 := List.length_replicate
  have hgd : x.fs.getD (x.fs.length - 1) default = lastF x.fs := rfl
  obtain ⟨hsc, hsc2⟩ := perm_scan (p := p) (L := x.L) (l := againL x.fs) (ss := [s]) (s := s)
  have hlen := (runP_len (p := p) (s := s) (l := againL x.fs)).1
  have hok : ∀ q ∈ [s] ++ (runP p s (againL x.fs)).1, stOk p q := by
    intro q hq
    rcases List.mem_append.1 hq with hq | hq
    · rw [List.mem_singleton] at hq; subst hq; exact hs
    · exact (runP_spec hp hs hf2).1 q hq
  refine contract_run Tryz.func19 k19 rfl ?_
  simp only [body19, b19, res19, b19k0, b19k1, b19k2, b19k3, b19k4, limI, limsI, tskI, hgtI, lkE, ↓reduceIte, reduceCtorEq, Nat.reduceEqDiff, Nat.reduceAdd, Nat.reduceMul, Nat.reduceSub, Nat.reduceLeDiff, Nat.reduceBEq, Int.reduceToNat, Int.reduceLE, Int.reduceLT, Int.reduceEq, Int.reduceNe, di]
  refine loop_keep (α := Nat) rfl (fun i => 200 - i) (fun i => i ≤ 200)
    (fun i => [(3, .ref 3 0), (4, .ref 4 0), (5, .ref 5 0), (7, .own 7), (8, .imm (.int .i64 i))])
    (fun i => [(3, .box [.imm (.slc 2 (p.u.map knI)), .imm (.slc 2 (p.l.map knI)), .imm (.int .i64 p.rate)]), (4, .box [.imm (.int .i64 s.1), .imm (.int .i64 s.2)]),
      (5, .box [.imm (.int .i64 x.L.u.lo), .imm (.int .i64 x.L.u.hi), .imm (.int .i64 x.L.u.fall), .imm (.int .i64 x.L.u.rise), .imm (.int .i64 x.L.u.win), .imm (.int .i64 x.L.l.lo), .imm (.int .i64 x.L.l.hi), .imm (.int .i64 x.L.l.fall), .imm (.int .i64 x.L.l.rise), .imm (.int .i64 x.L.l.win), .imm (.slc 3 (x.fs.map flI))]),
      (7, .tok 3 ((List.replicate i (lastF x.fs)).map flI))]) 0 (Nat.zero_le _) (by simp only [limI, limsI, tskI, hgtI, lkE, ↓reduceIte, reduceCtorEq, Nat.reduceEqDiff, Nat.reduceAdd, Nat.reduceMul, Nat.reduceSub, Nat.reduceLeDiff, Nat.reduceBEq, Int.reduceToNat, Int.reduceLE, Int.reduceLT, Int.reduceEq, Int.reduceNe, di] <;> rfl) ?_
  intro i hi ih
  have hri : (List.replicate i (lastF x.fs)).length = i := List.length_replicate
  simp only [res19, b19k0, b19k1, b19k2, b19k3, b19k4, limI, limsI, tskI, hgtI, lkE, ↓reduceIte, reduceCtorEq, Nat.reduceEqDiff, Nat.reduceAdd, Nat.reduceMul, Nat.reduceSub, Nat.reduceLeDiff, Nat.reduceBEq, Int.reduceToNat, Int.reduceLE, Int.reduceLT, Int.reduceEq, Int.reduceNe, di]
  split
  · rename_i hlt0
    have hlt : i < 200 := by omega
    rw [wrap64 (n := (x.fs.length : Int) - 1) (by omega) (by omega)]
    repeat (refine And.intro (by omega) ?_)
    rw [wrap64 (n := (i : Int) + 1) (by omega) (by omega), show ((x.fs.length : Int) - 1).toNat = x.fs.length - 1 by omega, hgd]
    refine ih (i + 1) _ _ (by omega) (by omega) ?_
    rw [List.replicate_succ', List.map_append]
    simp only [limI, limsI, tskI, hgtI, lkE, ↓reduceIte, reduceCtorEq, Nat.reduceEqDiff, Nat.reduceAdd, Nat.reduceMul, Nat.reduceSub, Nat.reduceLeDiff, Nat.reduceBEq, Int.reduceToNat, Int.reduceLE, Int.reduceLT, Int.reduceEq, Int.reduceNe, di] <;> rfl
  · rename_i hge
    have hie : i = 200 := by omega
    subst hie
    clear ih hri
    rw [show List.replicate 200 (lastF x.fs) = againL x.fs from rfl]
    refine calls_of (r_RunOf hp hs (by omega) hf2) ?_; simp only [limI, limsI, tskI, hgtI, res19, b19k0, b19k1, b19k2, b19k3, b19k4, lkE, ↓reduceIte, reduceCtorEq, Nat.reduceEqDiff, Nat.reduceAdd, Nat.reduceMul, Nat.reduceSub, Nat.reduceLeDiff, Nat.reduceBEq, Int.reduceToNat, Int.reduceLE, Int.reduceLT, Int.reduceEq, Int.reduceNe, di]
    rw [← hsc]
    clear hsc
    generalize (runP p s (againL x.fs)).1 = run at *
    repeat (refine And.intro (by omega) ?_)
    have e2 : [s] ++ run = s :: run := rfl
    have e1 : [s].length = 1 := rfl
    rw [e2, e1] at *
    have hlen1 : (s :: run).length = run.length + 1 := rfl
    refine loop_keep (α := Nat) rfl (fun i => (s :: run).length - i) (fun i => (1 ≤ i ∧ i ≤ (s :: run).length) ∧ scan p x.L (nth (s :: run)) ((s :: run).length - i) i = scan p x.L (nth (s :: run)) run.length 1)
      (fun i => [(3, .ref 3 0), (5, .ref 5 0), (9, .imm (.slc 2 (run.map stI))), (12, .imm (.slc 2 ((s :: run).map stI))), (13, .imm (.int .i64 i))])
      (fun i => [(3, .box [.imm (.slc 2 (p.u.map knI)), .imm (.slc 2 (p.l.map knI)), .imm (.int .i64 p.rate)]),
        (5, .box [.imm (.int .i64 x.L.u.lo), .imm (.int .i64 x.L.u.hi), .imm (.int .i64 x.L.u.fall), .imm (.int .i64 x.L.u.rise), .imm (.int .i64 x.L.u.win), .imm (.int .i64 x.L.l.lo), .imm (.int .i64 x.L.l.hi), .imm (.int .i64 x.L.l.fall), .imm (.int .i64 x.L.l.rise), .imm (.int .i64 x.L.l.win), .imm (.slc 3 (x.fs.map flI))]),
        (42, .tok 2 ((s :: run).map stI))]) 1 ⟨⟨by omega, by simp⟩, by simp⟩ (by simp only [limI, limsI, tskI, hgtI, lkE, ↓reduceIte, reduceCtorEq, Nat.reduceEqDiff, Nat.reduceAdd, Nat.reduceMul, Nat.reduceSub, Nat.reduceLeDiff, Nat.reduceBEq, Int.reduceToNat, Int.reduceLE, Int.reduceLT, Int.reduceEq, Int.reduceNe, di] <;> rfl) ?_
    rintro i ⟨⟨i1, i2⟩, hi⟩ ih
    simp only [res19, b19k0, b19k1, b19k2, b19k3, b19k4, limI, limsI, tskI, hgtI, lkE, ↓reduceIte, reduceCtorEq, Nat.reduceEqDiff, Nat.reduceAdd, Nat.reduceMul, Nat.reduceSub, Nat.reduceLeDiff, Nat.reduceBEq, Int.reduceToNat, Int.reduceLE, Int.reduceLT, Int.reduceEq, Int.reduceNe, di]
    split
    · rename_i h
      have hlt : i < (s :: run).length := by omega
      refine calls_of (r_At (ss := s :: run) (t := i) hp hL hok hlt (by omega)) ?_; simp only [limI, limsI, tskI, hgtI, res19, b19k0, b19k1, b19k2, b19k3, b19k4, lkE, ↓reduceIte, reduceCtorEq, Nat.reduceEqDiff, Nat.reduceAdd, Nat.reduceMul, Nat.reduceSub, Nat.reduceLeDiff, Nat.reduceBEq, Int.reduceToNat, Int.reduceLE, Int.reduceLT, Int.reduceEq, Int.reduceNe, di]
      rw [show (s :: run).length - i = ((s :: run).length - (i + 1)) + 1 by omega, scan] at hi
      cases hv : vAt p x.L (nth (s :: run)) i with
      | none =>
        rw [hv] at hi
        simp only [Option.isSome_none, Option.map_none, vio3, res19, b19k0, b19k1, b19k2, b19k3, b19k4, limI, limsI, tskI, hgtI, lkE, ↓reduceIte, reduceCtorEq, Nat.reduceEqDiff, Nat.reduceAdd, Nat.reduceMul, Nat.reduceSub, Nat.reduceLeDiff, Nat.reduceBEq, Int.reduceToNat, Int.reduceLE, Int.reduceLT, Int.reduceEq, Int.reduceNe, di]
        rw [wrap64 (by omega) (by omega)]
        refine ih (i + 1) _ _ (by omega) ⟨⟨by omega, by omega⟩, ?_⟩ (by simp only [limI, limsI, tskI, hgtI, lkE, ↓reduceIte, reduceCtorEq, Nat.reduceEqDiff, Nat.reduceAdd, Nat.reduceMul, Nat.reduceSub, Nat.reduceLeDiff, Nat.reduceBEq, Int.reduceToNat, Int.reduceLE, Int.reduceLT, Int.reduceEq, Int.reduceNe, di] <;> rfl)
        dsimp only at hi
        exact hi
      | some q =>
        obtain ⟨a, k⟩ := q
        rw [hv] at hi
        rw [← hi]
        simp only [Option.isSome_some, Option.map_some, vio3, res19, b19k0, b19k1, b19k2, b19k3, b19k4, limI, limsI, tskI, hgtI, lkE, ↓reduceIte, reduceCtorEq, Nat.reduceEqDiff, Nat.reduceAdd, Nat.reduceMul, Nat.reduceSub, Nat.reduceLeDiff, Nat.reduceBEq, Int.reduceToNat, Int.reduceLE, Int.reduceLT, Int.reduceEq, Int.reduceNe, di]
        rw [wrap64 (n := (i : Int) - 1) (by omega) (by omega), show ((i : Int) - 1) = ((i - 1 : Nat) : Int) by omega]
    · rename_i h
      have hie : i = (s :: run).length := by omega
      subst hie
      rw [Nat.sub_self] at hi
      rw [← hi]
      rfl
end Go.DI

