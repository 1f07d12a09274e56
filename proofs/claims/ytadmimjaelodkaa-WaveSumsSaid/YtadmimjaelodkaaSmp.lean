/- The statement WaveSums, as a contract. No condition. -/
import Derived.Test.YtadmimjaelodkaaSml
import Derived.Test.YtadmimjaelodkaaSmo
set_option linter.unusedSimpArgs false
set_option maxRecDepth 100000
namespace Go.DI
open Go.Proofs Go.RowKit

theorem b_CopyState {s : Ws} (hs : FewS s) (n1 : s.F.length ≠ 0) (n2 : s.B.length ≠ 0) (n3 : s.L.length ≠ 0) : BC Try.prog 23 [.imm (wsI s)] (lookR []) fun r R' => r = .agg [.vec 1000 0 s.F.length, .vec 1001 0 s.B.length, .vec 1002 0 s.L.length] ∧ R' = lookR [(1000, .arr (s.F.map (IV.int .i64))), (1001, .arr (s.B.map (IV.int .i64))), (1002, .arr (s.L.map (IV.int .i64)))] := by
  have h1 := hs.1; have h2 := hs.2.1; have h3 := hs.2.2
  refine bc_run Try.func23 k1023 rfl rfl ?_
  simp only [body1023, b1023, res1023, vaE, ↓reduceIte, reduceCtorEq, Nat.reduceEqDiff, Nat.reduceAdd, Nat.reduceMul, Nat.reduceSub, Nat.reduceLeDiff, Nat.reduceBEq, Int.reduceToNat, Int.reduceLE, Int.reduceLT, Int.reduceEq, Int.reduceNe, di]
  refine do_lend rfl (by rw [restr_look]; exact b_CopyInts1 (l := s.F) (by omega) n1) rfl rfl ?_
  rintro r R' ⟨rfl, rfl⟩
  refine ⟨_, rfl, rfl, ?_⟩
  simp only [res1023, vaE, ↓reduceIte, reduceCtorEq, Nat.reduceEqDiff, Nat.reduceAdd, Nat.reduceMul, Nat.reduceSub, Nat.reduceLeDiff, Nat.reduceBEq, Int.reduceToNat, Int.reduceLE, Int.reduceLT, Int.reduceEq, Int.reduceNe, di]
  refine do_lend rfl (by rw [restr_look]; exact b_CopyInts2 (l := s.B) (by omega) n2) rfl rfl ?_
  rintro r R' ⟨rfl, rfl⟩
  refine ⟨_, rfl, rfl, ?_⟩
  simp only [res1023, vaE, ↓reduceIte, reduceCtorEq, Nat.reduceEqDiff, Nat.reduceAdd, Nat.reduceMul, Nat.reduceSub, Nat.reduceLeDiff, Nat.reduceBEq, Int.reduceToNat, Int.reduceLE, Int.reduceLT, Int.reduceEq, Int.reduceNe, di]
  refine do_lend rfl (by rw [restr_look]; exact b_CopyInts3 (l := s.L) (by omega) n3) rfl rfl ?_
  rintro r R' ⟨rfl, rfl⟩
  refine ⟨_, rfl, rfl, ?_⟩
  simp only [res1023, vaE, ↓reduceIte, reduceCtorEq, Nat.reduceEqDiff, Nat.reduceAdd, Nat.reduceMul, Nat.reduceSub, Nat.reduceLeDiff, Nat.reduceBEq, Int.reduceToNat, Int.reduceLE, Int.reduceLT, Int.reduceEq, Int.reduceNe, di]
  rw [outD_one res1023]
  exact ⟨.agg [.vec 1000 0 s.F.length, .vec 1001 0 s.B.length, .vec 1002 0 s.L.length], rfl, rfl, rfl⟩
theorem b_CopyStateZ {s : Ws} (hs : FewS s) (n1 : s.F.length ≠ 0) (n2 : s.B.length ≠ 0) (n3 : s.L = []) : BC Try.prog 23 [.imm (wsI s)] (lookR []) fun r R' => r = .agg [.vec 1000 0 s.F.length, .vec 1001 0 s.B.length, .imm (.slc 1 [])] ∧ R' = lookR [(1000, .arr (s.F.map (IV.int .i64))), (1001, .arr (s.B.map (IV.int .i64)))] := by
  have h1 := hs.1; have h2 := hs.2.1; have h3 := hs.2.2
  refine bc_run Try.func23 k1023 rfl rfl ?_
  simp only [body1023, b1023, res1023, vaE, ↓reduceIte, reduceCtorEq, Nat.reduceEqDiff, Nat.reduceAdd, Nat.reduceMul, Nat.reduceSub, Nat.reduceLeDiff, Nat.reduceBEq, Int.reduceToNat, Int.reduceLE, Int.reduceLT, Int.reduceEq, Int.reduceNe, di]
  refine do_lend rfl (by rw [restr_look]; exact b_CopyInts1 (l := s.F) (by omega) n1) rfl rfl ?_
  rintro r R' ⟨rfl, rfl⟩
  refine ⟨_, rfl, rfl, ?_⟩
  simp only [res1023, vaE, ↓reduceIte, reduceCtorEq, Nat.reduceEqDiff, Nat.reduceAdd, Nat.reduceMul, Nat.reduceSub, Nat.reduceLeDiff, Nat.reduceBEq, Int.reduceToNat, Int.reduceLE, Int.reduceLT, Int.reduceEq, Int.reduceNe, di]
  refine do_lend rfl (by rw [restr_look]; exact b_CopyInts2 (l := s.B) (by omega) n2) rfl rfl ?_
  rintro r R' ⟨rfl, rfl⟩
  refine ⟨_, rfl, rfl, ?_⟩
  simp only [res1023, vaE, ↓reduceIte, reduceCtorEq, Nat.reduceEqDiff, Nat.reduceAdd, Nat.reduceMul, Nat.reduceSub, Nat.reduceLeDiff, Nat.reduceBEq, Int.reduceToNat, Int.reduceLE, Int.reduceLT, Int.reduceEq, Int.reduceNe, di]
  refine do_lend rfl (by rw [restr_look]; exact b_CopyInts3z (l := s.L) (by rw [n3]; rfl)) rfl rfl ?_
  rintro r R' ⟨rfl, rfl⟩
  refine ⟨_, rfl, rfl, ?_⟩
  simp only [res1023, vaE, ↓reduceIte, reduceCtorEq, Nat.reduceEqDiff, Nat.reduceAdd, Nat.reduceMul, Nat.reduceSub, Nat.reduceLeDiff, Nat.reduceBEq, Int.reduceToNat, Int.reduceLE, Int.reduceLT, Int.reduceEq, Int.reduceNe, di]
  rw [outD_one res1023]
  exact ⟨.agg [.vec 1000 0 s.F.length, .vec 1001 0 s.B.length, .imm (.slc 1 [])], rfl, rfl, rfl⟩
def addK (a b : List Int) (k : Nat) : List Int := (List.range a.length).map fun i => if i < k then W6 (a.getD i 0 + b.getD i 0) else a.getD i 0
def addL (a b : List Int) : List Int := (List.range a.length).map fun i => W6 (a.getD i 0 + b.getD i 0)
def addS (a b : Ws) : Ws := ⟨addL a.F b.F, addL a.B b.B, addL a.L b.L⟩
theorem addK_zero {a b : List Int} : addK a b 0 = a := by
  refine eq_getD 0 (by simp [addK]) fun j hj => ?_
  have hj : j < a.length := by simpa [addK] using hj
  simp [addK, List.getD_eq_getElem?_getD, hj]
theorem addK_length {a b : List Int} {k : Nat} : (addK a b k).length = a.length := by simp [addK]
theorem addK_step {a b : List Int} {k : Nat} (h : k < a.length) : (addK a b k).set k (W6 (a.getD k 0 + b.getD k 0)) = addK a b (k + 1) := by
  refine eq_getD 0 (by simp [addK]) fun j hj => ?_
  have hj : j < a.length := by simpa [addK] using hj
  rw [getD_set_if]
  have e : ∀ k, (addK a b k).getD j 0 = if j < k then W6 (a.getD j 0 + b.getD j 0) else a.getD j 0 := by
    intro k
    simp [addK, List.getD_eq_getElem?_getD, hj]
  rw [e, e, addK_length]
  by_cases h1 : k = j
  · subst h1
    rw [if_pos ⟨rfl, h⟩, if_pos (by omega)]
  · rw [if_neg (fun k => h1 k.1)]
    by_cases h2 : j < k
    · rw [if_pos h2, if_pos (by omega)]
    · rw [if_neg h2, if_neg (by omega)]
theorem addK_end {a b : List Int} : addK a b a.length = addL a b := by
  unfold addK addL
  refine List.map_congr_left fun i hi => ?_
  rw [if_pos (List.mem_range.1 hi)]
theorem addL_length {a b : List Int} : (addL a b).length = a.length := by simp [addL]
theorem l_addedN {a b : Ws} (ha : FewS a) (h1 : a.F.length = b.F.length) (h2 : a.B.length = b.B.length) (h3 : a.L.length = b.L.length) (h4 : a.F.length = a.B.length) (n1 : a.F.length ≠ 0) (n3 : a.L.length ≠ 0) : Contract Try.prog 35 [wsI a, wsI b] (wsI (addS a b)) := by
  have l1 := ha.1; have l2 := ha.2.1; have l3 := ha.2.2
  have n2 : a.B.length ≠ 0 := by omega
  have z3 : a.L.length = a.L.length := rfl
  refine contract_run Try.func35 k35 rfl ?_
  simp only [body35, b35, res35, b35k0, b35k1, b35k2, b35k3, vaE, ↓reduceIte, reduceCtorEq, Nat.reduceEqDiff, Nat.reduceAdd, Nat.reduceMul, Nat.reduceSub, Nat.reduceLeDiff, Nat.reduceBEq, Int.reduceToNat, Int.reduceLE, Int.reduceLT, Int.reduceEq, Int.reduceNe, di]
  refine do_lend rfl (by rw [restr_look]; exact b_CopyState ha n1 n2 n3) rfl rfl ?_
  rintro r R' ⟨rfl, rfl⟩
  refine ⟨_, rfl, rfl, ?_⟩
  simp only [res35, b35k0, b35k1, b35k2, b35k3, vaE, ↓reduceIte, reduceCtorEq, Nat.reduceEqDiff, Nat.reduceAdd, Nat.reduceMul, Nat.reduceSub, Nat.reduceLeDiff, Nat.reduceBEq, Int.reduceToNat, Int.reduceLE, Int.reduceLT, Int.reduceEq, Int.reduceNe, di]
  refine loop_keep (α := Nat) rfl (fun i => a.F.length - i) (fun i => i ≤ a.F.length)
    (fun i => [(2, .ref 2 0), (3, .ref 3 0), (4, .ref 4 0), (5, .ref 5 0), (6, .imm (.int .i64 i))])
    (fun i => [(2, .box [.imm (nI a.F), .imm (nI a.B), .imm (nI a.L)]), (3, .box [.imm (nI b.F), .imm (nI b.B), .imm (nI b.L)]),
      (4, .box [.imm (.slc 1 []), .imm (.slc 1 []), .imm (.slc 1 [])]), (5, .box [.vec 1000 0 a.F.length, .vec 1001 0 a.B.length, .vec 1002 0 a.L.length]),
      (1000, .arr ((addK a.F b.F i).map (.int .i64))), (1001, .arr ((addK a.B b.B i).map (.int .i64))), (1002, .arr (a.L.map (.int .i64)))])
    0 (Nat.zero_le _) (by simp only [addK_zero, nI, vaE, ↓reduceIte, reduceCtorEq, Nat.reduceEqDiff, Nat.reduceAdd, Nat.reduceMul, Nat.reduceSub, Nat.reduceLeDiff, Nat.reduceBEq, Int.reduceToNat, Int.reduceLE, Int.reduceLT, Int.reduceEq, Int.reduceNe, di] <;> rfl) ?_
  intro i hi ih
  have e1 := addK_length (a := a.F) (b := b.F) (k := i)
  have e2 := addK_length (a := a.B) (b := b.B) (k := i)
  simp only [res35, b35k0, b35k1, b35k2, b35k3, nI, vaE, ↓reduceIte, reduceCtorEq, Nat.reduceEqDiff, Nat.reduceAdd, Nat.reduceMul, Nat.reduceSub, Nat.reduceLeDiff, Nat.reduceBEq, Int.reduceToNat, Int.reduceLE, Int.reduceLT, Int.reduceEq, Int.reduceNe, di]
  rw [wrap64 (n := (i : Int) + 1) (by omega) (by omega)]
  split
  · rename_i h
    have hlt : i < a.F.length := by omega
    repeat (refine And.intro (by first | omega | exact all_int _ | (simp only [zeros_len, List.length_append, List.length_take, List.length_drop, List.length_set, List.length_cons, List.length_nil, List.length_map]; omega)) ?_)
    simp only [Int.toNat_natCast, Nat.zero_add]
    refine ih (i + 1) _ _ (by omega) (by omega) ?_
    rw [← addK_step hlt, ← addK_step (a := a.B) (by omega)]
    simp only [nI, vaE, ↓reduceIte, reduceCtorEq, Nat.reduceEqDiff, Nat.reduceAdd, Nat.reduceMul, Nat.reduceSub, Nat.reduceLeDiff, Nat.reduceBEq, Int.reduceToNat, Int.reduceLE, Int.reduceLT, Int.reduceEq, Int.reduceNe, di] <;> rfl
  rename_i h
  have hie : i = a.F.length := by omega
  subst hie
  clear ih
  rw [addK_end, show addK a.B b.B a.F.length = addL a.B b.B by rw [h4]; exact addK_end]
  refine loop_keep (α := Nat) rfl (fun i => a.L.length - i) (fun i => i ≤ a.L.length)
    (fun i => [(2, .ref 2 0), (3, .ref 3 0), (4, .ref 4 0), (5, .ref 5 0), (7, .imm (.int .i64 i))])
    (fun i => [(2, .box [.imm (nI a.F), .imm (nI a.B), .imm (nI a.L)]), (3, .box [.imm (nI b.F), .imm (nI b.B), .imm (nI b.L)]),
      (4, .box [.imm (.slc 1 []), .imm (.slc 1 []), .imm (.slc 1 [])]), (5, .box [.vec 1000 0 a.F.length, .vec 1001 0 a.B.length, .vec 1002 0 a.L.length]),
      (1000, .arr ((addL a.F b.F).map (.int .i64))), (1001, .arr ((addL a.B b.B).map (.int .i64))), (1002, .arr ((addK a.L b.L i).map (.int .i64)))])
    0 (Nat.zero_le _) (by simp only [addK_zero, nI, vaE, ↓reduceIte, reduceCtorEq, Nat.reduceEqDiff, Nat.reduceAdd, Nat.reduceMul, Nat.reduceSub, Nat.reduceLeDiff, Nat.reduceBEq, Int.reduceToNat, Int.reduceLE, Int.reduceLT, Int.reduceEq, Int.reduceNe, di] <;> rfl) ?_
  intro i hi ih
  have e1 := addK_length (a := a.L) (b := b.L) (k := i)
  simp only [res35, b35k0, b35k1, b35k2, b35k3, nI, vaE, ↓reduceIte, reduceCtorEq, Nat.reduceEqDiff, Nat.reduceAdd, Nat.reduceMul, Nat.reduceSub, Nat.reduceLeDiff, Nat.reduceBEq, Int.reduceToNat, Int.reduceLE, Int.reduceLT, Int.reduceEq, Int.reduceNe, di]
  rw [wrap64 (n := (i : Int) + 1) (by omega) (by omega)]
  split
  · rename_i h
    have hlt : i < a.L.length := by omega
    repeat (refine And.intro (by first | omega | exact all_int _ | (simp only [zeros_len, List.length_append, List.length_take, List.length_drop, List.length_set, List.length_cons, List.length_nil, List.length_map]; omega)) ?_)
    simp only [Int.toNat_natCast, Nat.zero_add]
    refine ih (i + 1) _ _ (by omega) (by omega) ?_
    rw [← addK_step hlt]
    simp only [nI, vaE, ↓reduceIte, reduceCtorEq, Nat.reduceEqDiff, Nat.reduceAdd, Nat.reduceMul, Nat.reduceSub, Nat.reduceLeDiff, Nat.reduceBEq, Int.reduceToNat, Int.reduceLE, Int.reduceLT, Int.reduceEq, Int.reduceNe, di] <;> rfl
  rename_i h
  have hie : i = a.L.length := by omega
  subst hie
  clear ih
  rw [addK_end]
  rw [if_pos (by rw [addL_length]; omega), if_pos (by rw [addL_length]; omega), if_pos (by rw [addL_length]; omega), List.take_of_length_le (by rw [addL_length]; omega), List.take_of_length_le (by rw [addL_length]; omega), List.take_of_length_le (by rw [addL_length]; omega)]
  rfl
theorem l_addedZ {a b : Ws} (ha : FewS a) (h1 : a.F.length = b.F.length) (h2 : a.B.length = b.B.length) (h4 : a.F.length = a.B.length) (n1 : a.F.length ≠ 0) (n3 : a.L = []) : Contract Try.prog 35 [wsI a, wsI b] (wsI (addS a b)) := by
  have l1 := ha.1; have l2 := ha.2.1; have l3 := ha.2.2
  have n2 : a.B.length ≠ 0 := by omega
  have z3 : a.L.length = 0 := by rw [n3]; rfl
  refine contract_run Try.func35 k35 rfl ?_
  simp only [body35, b35, res35, b35k0, b35k1, b35k2, b35k3, vaE, ↓reduceIte, reduceCtorEq, Nat.reduceEqDiff, Nat.reduceAdd, Nat.reduceMul, Nat.reduceSub, Nat.reduceLeDiff, Nat.reduceBEq, Int.reduceToNat, Int.reduceLE, Int.reduceLT, Int.reduceEq, Int.reduceNe, di]
  refine do_lend rfl (by rw [restr_look]; exact b_CopyStateZ ha n1 n2 n3) rfl rfl ?_
  rintro r R' ⟨rfl, rfl⟩
  refine ⟨_, rfl, rfl, ?_⟩
  simp only [res35, b35k0, b35k1, b35k2, b35k3, vaE, ↓reduceIte, reduceCtorEq, Nat.reduceEqDiff, Nat.reduceAdd, Nat.reduceMul, Nat.reduceSub, Nat.reduceLeDiff, Nat.reduceBEq, Int.reduceToNat, Int.reduceLE, Int.reduceLT, Int.reduceEq, Int.reduceNe, di]
  refine loop_keep (α := Nat) rfl (fun i => a.F.length - i) (fun i => i ≤ a.F.length)
    (fun i => [(2, .ref 2 0), (3, .ref 3 0), (4, .ref 4 0), (5, .ref 5 0), (6, .imm (.int .i64 i))])
    (fun i => [(2, .box [.imm (nI a.F), .imm (nI a.B), .imm (nI a.L)]), (3, .box [.imm (nI b.F), .imm (nI b.B), .imm (nI b.L)]),
      (4, .box [.imm (.slc 1 []), .imm (.slc 1 []), .imm (.slc 1 [])]), (5, .box [.vec 1000 0 a.F.length, .vec 1001 0 a.B.length, .imm (.slc 1 [])]),
      (1000, .arr ((addK a.F b.F i).map (.int .i64))), (1001, .arr ((addK a.B b.B i).map (.int .i64)))])
    0 (Nat.zero_le _) (by simp only [addK_zero, nI, vaE, ↓reduceIte, reduceCtorEq, Nat.reduceEqDiff, Nat.reduceAdd, Nat.reduceMul, Nat.reduceSub, Nat.reduceLeDiff, Nat.reduceBEq, Int.reduceToNat, Int.reduceLE, Int.reduceLT, Int.reduceEq, Int.reduceNe, di] <;> rfl) ?_
  intro i hi ih
  have e1 := addK_length (a := a.F) (b := b.F) (k := i)
  have e2 := addK_length (a := a.B) (b := b.B) (k := i)
  simp only [res35, b35k0, b35k1, b35k2, b35k3, nI, vaE, ↓reduceIte, reduceCtorEq, Nat.reduceEqDiff, Nat.reduceAdd, Nat.reduceMul, Nat.reduceSub, Nat.reduceLeDiff, Nat.reduceBEq, Int.reduceToNat, Int.reduceLE, Int.reduceLT, Int.reduceEq, Int.reduceNe, di]
  rw [wrap64 (n := (i : Int) + 1) (by omega) (by omega)]
  split
  · rename_i h
    have hlt : i < a.F.length := by omega
    repeat (refine And.intro (by first | omega | exact all_int _ | (simp only [zeros_len, List.length_append, List.length_take, List.length_drop, List.length_set, List.length_cons, List.length_nil, List.length_map]; omega)) ?_)
    simp only [Int.toNat_natCast, Nat.zero_add]
    refine ih (i + 1) _ _ (by omega) (by omega) ?_
    rw [← addK_step hlt, ← addK_step (a := a.B) (by omega)]
    simp only [nI, vaE, ↓reduceIte, reduceCtorEq, Nat.reduceEqDiff, Nat.reduceAdd, Nat.reduceMul, Nat.reduceSub, Nat.reduceLeDiff, Nat.reduceBEq, Int.reduceToNat, Int.reduceLE, Int.reduceLT, Int.reduceEq, Int.reduceNe, di] <;> rfl
  rename_i h
  have hie : i = a.F.length := by omega
  subst hie
  clear ih
  rw [addK_end, show addK a.B b.B a.F.length = addL a.B b.B by rw [h4]; exact addK_end]
  refine run_loop ?_
  simp only [res35, b35k0, b35k1, b35k2, b35k3, b35l1, nI, vaE, ↓reduceIte, reduceCtorEq, Nat.reduceEqDiff, Nat.reduceAdd, Nat.reduceMul, Nat.reduceSub, Nat.reduceLeDiff, Nat.reduceBEq, Int.reduceToNat, Int.reduceLE, Int.reduceLT, Int.reduceEq, Int.reduceNe, di]
  rw [if_pos (by rw [addL_length]; omega), if_pos (by rw [addL_length]; omega), List.take_of_length_le (by rw [addL_length]; omega), List.take_of_length_le (by rw [addL_length]; omega)]
  have hz : (addS a b).L = [] := List.eq_nil_of_length_eq_zero (by show (addL a.L b.L).length = 0; rw [addL_length]; exact z3)
  rw [hz]
  rfl
end Go.DI

