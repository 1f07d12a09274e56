/- Contracts: for how many ticks flows are permitted, in the program and in the reference. No condition. -/
import Derived.Test.YtnkdmcalkgecfaaGreatBec
import Derived.Test.YtnkdmcalkgecfaaGreatBed
set_option linter.unusedSimpArgs false
set_option maxRecDepth 100000
namespace Go.DI
open Go.Proofs Go.RowKit Lk

def lastF (fs : List Flow) : Flow := fs.getD (fs.length - 1) default
def againL (fs : List Flow) : List Flow := List.replicate 200 (lastF fs)
def perE (p : Pair) (s : Sta) (x : Tsk) : Int := if taskE p s x = 0 then if 0 < x.fs.length then 0 else 10 else taskE p s x
def perO (p : Pair) (s : Sta) (x : Tsk) : Nat := if perE p s x = 0 then permL p x.L [s] s (againL x.fs) else 0
theorem drop_last {fs : List Flow} (h : 0 < fs.length) : fs.drop (fs.length - 1) = [lastF fs] := by
  rw [fl_getD (by omega), show fs.length - 1 + 1 = fs.length by omega, List.drop_length]
  rfl
theorem lastF_mem {fs : List Flow} (h : 0 < fs.length) : lastF fs ∈ fs := by
  unfold lastF
  rw [List.getD_eq_getElem?_getD, List.getElem?_eq_getElem (show fs.length - 1 < fs.length by omega)]
  exact List.getElem_mem _
theorem wat_len {p : Pair} {L : Lims} : ∀ {l : List Flow} {ss : List Sta} {s : Sta}, (wat p L ss s l).length ≤ l.length
  | [], _, _ => Nat.le_refl _
  | x :: r, ss, s => by
    unfold wat
    cases hs : Lk.step p s x with
    | none => simp
    | some q =>
      obtain ⟨t, e, f⟩ := q
      exact Nat.succ_le_succ wat_len
theorem p_PermittedFor {p : Pair} {s : Sta} {x : Tsk} (h : Sm p) (hl : x.fs.length ≤ 1000000000000) : Contract Tryz.prog 18 [lpI p, stI s, tskI x] (.tup [.int .i64 (perO p s x), .int .i64 (perE p s x)]) := by
  have ho : Contract Tryz.prog 30 [lpI p, stI s, tskI x] (.tup [lpI p, .int .i64 (taskE p s x)]) := p_openTask h hl
  have hpe : perE p s x = if taskE p s x = 0 then if (0 : Int) < (x.fs.length : Int) then 0 else 10 else taskE p s x := by
    unfold perE
    by_cases h0 : 0 < x.fs.length
    · rw [if_pos h0, if_pos (show (0 : Int) < (x.fs.length : Int) by omega)]
    · rw [if_neg h0, if_neg (show ¬ (0 : Int) < (x.fs.length : Int) by omega)]
  refine contract_run Tryz.func18 k18 rfl ?_
  simp only [body18, b18, res18, b18k0, b18k1, b18k2, limI, limsI, tskI, hgtI, lkE, ↓reduceIte, reduceCtorEq, Nat.reduceEqDiff, Nat.reduceAdd, Nat.reduceMul, Nat.reduceSub, Nat.reduceLeDiff, Nat.reduceBEq, Int.reduceToNat, Int.reduceLE, Int.reduceLT, Int.reduceEq, Int.reduceNe, di]
  refine calls_of ho ?_; simp only [limI, limsI, tskI, hgtI, res18, b18k0, b18k1, b18k2, lkE, ↓reduceIte, reduceCtorEq, Nat.reduceEqDiff, Nat.reduceAdd, Nat.reduceMul, Nat.reduceSub, Nat.reduceLeDiff, Nat.reduceBEq, Int.reduceToNat, Int.reduceLE, Int.reduceLT, Int.reduceEq, Int.reduceNe, di]
  refine calls_of p_unless ?_; simp only [limI, limsI, tskI, hgtI, res18, b18k0, b18k1, b18k2, lkE, ↓reduceIte, reduceCtorEq, Nat.reduceEqDiff, Nat.reduceAdd, Nat.reduceMul, Nat.reduceSub, Nat.reduceLeDiff, Nat.reduceBEq, Int.reduceToNat, Int.reduceLE, Int.reduceLT, Int.reduceEq, Int.reduceNe, di]
  refine calls_of p_first2 ?_; simp only [limI, limsI, tskI, hgtI, res18, b18k0, b18k1, b18k2, lkE, ↓reduceIte, reduceCtorEq, Nat.reduceEqDiff, Nat.reduceAdd, Nat.reduceMul, Nat.reduceSub, Nat.reduceLeDiff, Nat.reduceBEq, Int.reduceToNat, Int.reduceLE, Int.reduceLT, Int.reduceEq, Int.reduceNe, di]
  rw [← hpe]
  by_cases hE : perE p s x = 0
  case neg =>
    rw [show perO p s x = 0 by unfold perO; rw [if_neg hE]]
    simp only [hE, res18, b18k0, b18k1, b18k2, limI, limsI, tskI, hgtI, lkE, ↓reduceIte, reduceCtorEq, Nat.reduceEqDiff, Nat.reduceAdd, Nat.reduceMul, Nat.reduceSub, Nat.reduceLeDiff, Nat.reduceBEq, Int.reduceToNat, Int.reduceLE, Int.reduceLT, Int.reduceEq, Int.reduceNe, di]
  rw [show perO p s x = permL p x.L [s] s (againL x.fs) by unfold perO; rw [if_pos hE]]
  have hte : taskE p s x = 0 ∧ 0 < x.fs.length := by
    unfold perE at hE
    split at hE
    · rename_i h1
      split at hE
      · rename_i h2; exact ⟨h1, h2⟩
      · omega
    · rename_i h1; exact absurd hE h1
  obtain ⟨hp, hs, hL, hn, hf⟩ := taskE_ok hte.1
  simp only [hE, res18, b18k0, b18k1, b18k2, limI, limsI, tskI, hgtI, lkE, ↓reduceIte, reduceCtorEq, Nat.reduceEqDiff, Nat.reduceAdd, Nat.reduceMul, Nat.reduceSub, Nat.reduceLeDiff, Nat.reduceBEq, Int.reduceToNat, Int.reduceLE, Int.reduceLT, Int.reduceEq, Int.reduceNe, di]
  rw [wrap64 (n := (x.fs.length : Int) - 1) (by omega) (by omega)]
  repeat (refine And.intro (by omega) ?_)
  rw [List.take_length, show ((x.fs.length : Int) - 1).toNat = x.fs.length - 1 by omega, drop_last hte.2]
  refine calls_of (p_Repeat (x := lastF x.fs)) ?_; simp only [limI, limsI, tskI, hgtI, res18, b18k0, b18k1, b18k2, lkE, ↓reduceIte, reduceCtorEq, Nat.reduceEqDiff, Nat.reduceAdd, Nat.reduceMul, Nat.reduceSub, Nat.reduceLeDiff, Nat.reduceBEq, Int.reduceToNat, Int.reduceLE, Int.reduceLT, Int.reduceEq, Int.reduceNe, di]
  rw [show List.replicate 200 (lastF x.fs) = againL x.fs from rfl]
  have hf2 : ∀ y ∈ againL x.fs, flowOk y := fun y hy => by
    rw [List.eq_of_mem_replicate hy]; exact hf _ (lastF_mem hte.2)
  have hl2 : (againL x.fs).length = 200 := List.length_replicate
  generalize againL x.fs = fs at *
  refine calls_of p_Values ?_; simp only [limI, limsI, tskI, hgtI, res18, b18k0, b18k1, b18k2, lkE, ↓reduceIte, reduceCtorEq, Nat.reduceEqDiff, Nat.reduceAdd, Nat.reduceMul, Nat.reduceSub, Nat.reduceLeDiff, Nat.reduceBEq, Int.reduceToNat, Int.reduceLE, Int.reduceLT, Int.reduceEq, Int.reduceNe, di]
  refine do_lend rfl (by rw [restr_look]; exact b_watch (p := p) (s := s) (L := x.L) (fs := fs)) rfl rfl ?_
  rintro q R' ⟨rfl, rfl⟩
  refine ⟨_, rfl, rfl, ?_⟩
  simp only [res18, b18k0, b18k1, b18k2, limI, limsI, tskI, hgtI, lkE, ↓reduceIte, reduceCtorEq, Nat.reduceEqDiff, Nat.reduceAdd, Nat.reduceMul, Nat.reduceSub, Nat.reduceLeDiff, Nat.reduceBEq, Int.reduceToNat, Int.reduceLE, Int.reduceLT, Int.reduceEq, Int.reduceNe, di]
  have hw := it_watch (s := s) hp hs hL hf2 (by omega)
  have hyl := wat_len (p := p) (L := x.L) (l := fs) (ss := [s]) (s := s)
  rw [← permW_wat]
  generalize wat p x.L [s] s fs = ys at *
  refine range_keep (gf := 57) (first := []) (caps := watC p x.L fs) (ys.map watI) false rfl rfl rfl rfl (fun l => by rw [restr_look, withSeq_look]; exact hw l) (fun z hz => by obtain ⟨q, _, rfl⟩ := List.mem_map.1 hz; rfl) rfl
    (fun n (c : Nat) => c = n ∧ n + permW (ys.drop n) = permW ys ∧ n ≤ ys.length) (fun c => [(11, .box [.imm (.int .i64 c)])]) 0 (by simp) (by rw [keepRes_look]; simp only [limI, limsI, tskI, hgtI, lkE, ↓reduceIte, reduceCtorEq, Nat.reduceEqDiff, Nat.reduceAdd, Nat.reduceMul, Nat.reduceSub, Nat.reduceLeDiff, Nat.reduceBEq, Int.reduceToNat, Int.reduceLE, Int.reduceLT, Int.reduceEq, Int.reduceNe, di] <;> rfl) ?_ ?_
  · rintro _ z n hx ⟨rfl, hi, hi2⟩
    simp only [List.getElem?_map, Option.map_eq_some_iff] at hx
    obtain ⟨⟨b, w⟩, hx, rfl⟩ := hx
    have hlt := (List.getElem?_eq_some_iff.1 hx).1
    have hd : ys.drop n = (b, w) :: ys.drop (n + 1) := by
      rw [List.drop_eq_getElem_cons hlt]
      congr 1
      exact (List.getElem?_eq_some_iff.1 hx).2
    rw [hd] at hi
    cases b with
    | false =>
      have e : permW ys = n := by simp only [permW] at hi; omega
      rw [e]
      simp only [watI, b18a0, b18r0, res18, b18k0, b18k1, b18k2, limI, limsI, tskI, hgtI, lkE, ↓reduceIte, reduceCtorEq, Nat.reduceEqDiff, Nat.reduceAdd, Nat.reduceMul, Nat.reduceSub, Nat.reduceLeDiff, Nat.reduceBEq, Int.reduceToNat, Int.reduceLE, Int.reduceLT, Int.reduceEq, Int.reduceNe, di]
    | true =>
      cases w with
      | none =>
        simp only [permW] at hi
        simp only [watI, vioI, b18a0, b18r0, res18, b18k0, b18k1, b18k2, limI, limsI, tskI, hgtI, lkE, ↓reduceIte, reduceCtorEq, Nat.reduceEqDiff, Nat.reduceAdd, Nat.reduceMul, Nat.reduceSub, Nat.reduceLeDiff, Nat.reduceBEq, Int.reduceToNat, Int.reduceLE, Int.reduceLT, Int.reduceEq, Int.reduceNe, di]
        rw [wrap64 (n := (n : Int) + 1) (by omega) (by omega)]
        exact ⟨n + 1, ⟨rfl, by omega, by omega⟩, rfl⟩
      | some w =>
        obtain ⟨t, a, k⟩ := w
        have e : permW ys = n := by simp only [permW] at hi; omega
        rw [e]
        simp only [watI, vioI, b18a0, b18r0, res18, b18k0, b18k1, b18k2, limI, limsI, tskI, hgtI, lkE, ↓reduceIte, reduceCtorEq, Nat.reduceEqDiff, Nat.reduceAdd, Nat.reduceMul, Nat.reduceSub, Nat.reduceLeDiff, Nat.reduceBEq, Int.reduceToNat, Int.reduceLE, Int.reduceLT, Int.reduceEq, Int.reduceNe, di]
  · rintro _ _ ⟨rfl, hi, _⟩
    rw [List.length_map] at hi ⊢
    have e : permW ys = ys.length := by rw [List.drop_length] at hi; simp only [permW] at hi; omega
    rw [e]
    simp only [b18a0, b18r0, res18, b18k0, b18k1, b18k2, limI, limsI, tskI, hgtI, lkE, ↓reduceIte, reduceCtorEq, Nat.reduceEqDiff, Nat.reduceAdd, Nat.reduceMul, Nat.reduceSub, Nat.reduceLeDiff, Nat.reduceBEq, Int.reduceToNat, Int.reduceLE, Int.reduceLT, Int.reduceEq, Int.reduceNe, di]
end Go.DI

