/- The statement WaveStates, as a contract. No condition. -/
import Derived.Test.YtadmimjaelodkaaWfc
import Derived.Test.YtadmimjaelodkaaWfd
set_option linter.unusedSimpArgs false
set_option maxRecDepth 100000
namespace Go.DI
open Go.Proofs Go.RowKit

/-- The admittance of each cell. -/
def admL : List Pp → List Int
  | [] => []
  | p :: r => List.replicate p.1.toNat p.2 ++ admL r
theorem admL_length : ∀ (l : List Pp), (∀ p ∈ l, 1 ≤ p.1 ∧ p.1 ≤ 6) → ((admL l).length : Int) = cellsN l
  | [], _ => rfl
  | p :: r, h => by
    have h1 := h p (by simp)
    have h2 := admL_length r fun q hq => h q (by simp [hq])
    simp only [admL, List.length_append, List.length_replicate, cellsN]
    omega
/-- A cell's pipe is one, and has its admittance. -/
theorem ofL_adm : ∀ (l : List Pp) (k i : Nat), i < (ofL k l).length → ∃ j : Nat, j < l.length ∧ (ofL k l).getD i 0 = ((k + j : Nat) : Int) ∧ (l.getD j default).2 = (admL l).getD i 0
  | [], k, i, h => by simp [ofL] at h
  | p :: r, k, i, h => by
    by_cases hi : i < p.1.toNat
    · refine ⟨0, by simp, ?_, ?_⟩
      · simp only [ofL, List.getD_eq_getElem?_getD]
        rw [List.getElem?_append_left (by rw [List.length_replicate]; exact hi)]
        simp [hi]
      · simp only [admL, List.getD_eq_getElem?_getD]
        rw [List.getElem?_append_left (by rw [List.length_replicate]; exact hi)]
        simp [hi]
    · simp only [ofL, List.length_append, List.length_replicate] at h
      obtain ⟨j, h1, h2, h3⟩ := ofL_adm r (k + 1) (i - p.1.toNat) (by omega)
      refine ⟨j + 1, by simpa using h1, ?_, ?_⟩
      · simp only [ofL, List.getD_eq_getElem?_getD] at h2 ⊢
        rw [List.getElem?_append_right (by rw [List.length_replicate]; omega), List.length_replicate, h2]
        omega
      · simp only [admL, List.getD_cons_succ]
        rw [h3]
        simp only [List.getD_eq_getElem?_getD]
        rw [List.getElem?_append_right (by rw [List.length_replicate]; omega), List.length_replicate]
/-- What the iterator of admittances yields. -/
def adY : Nat → List Int → List (List IV)
  | _, [] => []
  | c, y :: r => [.int .i64 c, .int .i64 y] :: adY (c + 1) r
theorem adY_length : ∀ (c : Nat) (l : List Int), (adY c l).length = l.length
  | c, [] => rfl
  | c, y :: r => by simp [adY, adY_length (c + 1) r]
theorem adY_get : ∀ {l : List Int} {c n : Nat} {y : List IV}, (adY c l)[n]? = some y → n < l.length ∧ y = [.int .i64 (c + n : Nat), .int .i64 (l.getD n 0)]
  | [], c, n, y, h => by simp [adY] at h
  | v :: l, c, 0, y, h => by simp [adY] at h; exact ⟨by simp, by rw [← h]; simp⟩
  | v :: l, c, n + 1, y, h => by
    simp only [adY, List.getElem?_cons_succ] at h
    obtain ⟨h1, h2⟩ := adY_get h
    exact ⟨by simpa using h1, by rw [h2, List.getD_cons_succ, show c + 1 + n = c + (n + 1) by omega]⟩
theorem it_admittances {x : Ow} (hx : OwOk x) (l : Nat) :
    BC Try.prog 124 [.imm (owI x), .yld l] (lookR [(0, .seq l (false, some (adY 0 (admL x.pp))))]) fun _ R' => seqOver l false R' := by
  have hlen := hx.len
  have hall := cellsN_bd x.pp fun p hp => (hx.pip p hp).1
  refine bc_run Try.func124 k124 rfl rfl ?_
  simp only [body124, b124, res124, b124k0, b124k1, b124k2, b124k3, b124k4, vaE, ↓reduceIte, reduceCtorEq, Nat.reduceEqDiff, Nat.reduceAdd, Nat.reduceMul, Nat.reduceSub, Nat.reduceLeDiff, Nat.reduceBEq, Int.reduceToNat, Int.reduceLE, Int.reduceLT, Int.reduceEq, Int.reduceNe, di]
  refine loop_keep (α := Nat) rfl (fun k => x.pp.length - k) (fun k => k ≤ x.pp.length)
    (fun k => [(1, .yld l), (4, .imm (.int .i64 (cellsN (x.pp.take k)))), (9, .imm (.slc 2 (x.pp.map ppI))), (10, .imm (.int .i64 x.pp.length)), (11, .imm (.int .i64 k))])
    (fun k => [(0, .seq l (false, some (adY (cellsN (x.pp.take k)).toNat (admL (x.pp.drop k)))))]) 0 (Nat.zero_le _) (by simp only [vaE, ↓reduceIte, reduceCtorEq, Nat.reduceEqDiff, Nat.reduceAdd, Nat.reduceMul, Nat.reduceSub, Nat.reduceLeDiff, Nat.reduceBEq, Int.reduceToNat, Int.reduceLE, Int.reduceLT, Int.reduceEq, Int.reduceNe, di] <;> rfl) ?_
  intro k hk ih
  have hbk := cellsN_bd (x.pp.take k) fun p hp => (hx.pip p (List.mem_of_mem_take hp)).1
  have hct := cellsN_take x.pp k
  have hbd := cellsN_bd (x.pp.drop k) fun p hp => (hx.pip p (List.mem_of_mem_drop hp)).1
  simp only [res124, b124k0, b124k1, b124k2, b124k3, b124k4, vaE, ↓reduceIte, reduceCtorEq, Nat.reduceEqDiff, Nat.reduceAdd, Nat.reduceMul, Nat.reduceSub, Nat.reduceLeDiff, Nat.reduceBEq, Int.reduceToNat, Int.reduceLE, Int.reduceLT, Int.reduceEq, Int.reduceNe, di]
  split
  rotate_left
  · rename_i h
    have : k = x.pp.length := by omega
    subst this
    rw [List.drop_length, outD_nil res124]
    exact ⟨_, rfl, rfl, .inl ⟨rfl, rfl⟩⟩
  rename_i h
  have hlt : k < x.pp.length := by omega
  have hp := hx.pip _ (getD_mem (d := default) hlt)
  have hcs := cellsN_step hlt
  have hdr : x.pp.drop k = x.pp.getD k default :: x.pp.drop (k + 1) := idxF_drop hlt
  repeat (refine And.intro (by first | omega | exact all_int _ | (simp only [zeros_len, List.length_append, List.length_take, List.length_drop, List.length_set, List.length_cons, List.length_nil, List.length_map]; omega)) ?_)
  refine loop_keep (α := Nat) rfl (fun n => (x.pp.getD k default).1.toNat - n) (fun n => (n : Int) ≤ (x.pp.getD k default).1)
    (fun n => [(1, .yld l), (4, .imm (.int .i64 (cellsN (x.pp.take k) + n))), (6, .ref 6 0), (9, .imm (.slc 2 (x.pp.map ppI))), (10, .imm (.int .i64 x.pp.length)), (11, .imm (.int .i64 k)), (16, .imm (.int .i64 (x.pp.getD k default).1)), (17, .imm (.int .i64 n))])
    (fun n => [(0, .seq l (false, some (adY ((cellsN (x.pp.take k)).toNat + n) (List.replicate ((x.pp.getD k default).1.toNat - n) (x.pp.getD k default).2 ++ admL (x.pp.drop (k + 1)))))), (6, .box [.imm (.int .i64 (x.pp.getD k default).1), .imm (.int .i64 (x.pp.getD k default).2)])]) 0 (by omega) (by rw [hdr]; simp only [Int.add_zero, Nat.add_zero, Nat.sub_zero, admL, vaE, ↓reduceIte, reduceCtorEq, Nat.reduceEqDiff, Nat.reduceAdd, Nat.reduceMul, Nat.reduceSub, Nat.reduceLeDiff, Nat.reduceBEq, Int.reduceToNat, Int.reduceLE, Int.reduceLT, Int.reduceEq, Int.reduceNe, di] <;> rfl) ?_
  intro n hn ih2
  simp only [res124, b124k0, b124k1, b124k2, b124k3, b124k4, vaE, ↓reduceIte, reduceCtorEq, Nat.reduceEqDiff, Nat.reduceAdd, Nat.reduceMul, Nat.reduceSub, Nat.reduceLeDiff, Nat.reduceBEq, Int.reduceToNat, Int.reduceLE, Int.reduceLT, Int.reduceEq, Int.reduceNe, di]
  split
  rotate_left
  · rename_i h2
    have : n = (x.pp.getD k default).1.toNat := by omega
    subst this
    rw [wrap64 (n := (k : Int) + 1) (by omega) (by omega), Nat.sub_self]
    refine ih (k + 1) _ _ (by omega) (by omega) ?_
    rw [hcs, show cellsN (x.pp.take k) + (((x.pp.getD k default).1.toNat : Nat) : Int) = cellsN (x.pp.take k) + (x.pp.getD k default).1 by omega, show (cellsN (x.pp.take k)).toNat + (x.pp.getD k default).1.toNat = (cellsN (x.pp.take k) + (x.pp.getD k default).1).toNat by omega]
    simp only [vaE, ↓reduceIte, reduceCtorEq, Nat.reduceEqDiff, Nat.reduceAdd, Nat.reduceMul, Nat.reduceSub, Nat.reduceLeDiff, Nat.reduceBEq, Int.reduceToNat, Int.reduceLE, Int.reduceLT, Int.reduceEq, Int.reduceNe, di] <;> rfl
  rename_i h2
  rw [show (x.pp.getD k default).1.toNat - n = ((x.pp.getD k default).1.toNat - (n + 1)) + 1 by omega, List.replicate_succ, List.cons_append]
  have hcn : cellsN (x.pp.take k) + (n : Int) = (((cellsN (x.pp.take k)).toNat + n : Nat) : Int) := by omega
  rw [hcn]
  refine do_yield rfl rfl rfl ?_ ?_
  · intro _
    simp only [res124, b124k0, b124k1, b124k2, b124k3, b124k4, vaE, ↓reduceIte, reduceCtorEq, Nat.reduceEqDiff, Nat.reduceAdd, Nat.reduceMul, Nat.reduceSub, Nat.reduceLeDiff, Nat.reduceBEq, Int.reduceToNat, Int.reduceLE, Int.reduceLT, Int.reduceEq, Int.reduceNe, di]
    rw [wrap64 (n := (n : Int) + 1) (by omega) (by omega), wrap64 (by omega) (by omega)]
    refine ih2 (n + 1) _ _ (by omega) (by omega) ?_
    rw [show (((cellsN (x.pp.take k)).toNat + n : Nat) : Int) + 1 = cellsN (x.pp.take k) + ((n + 1 : Nat) : Int) by omega]
    simp only [vaE, ↓reduceIte, reduceCtorEq, Nat.reduceEqDiff, Nat.reduceAdd, Nat.reduceMul, Nat.reduceSub, Nat.reduceLeDiff, Nat.reduceBEq, Int.reduceToNat, Int.reduceLE, Int.reduceLT, Int.reduceEq, Int.reduceNe, di] <;> rfl
  · simp only [res124, b124k0, b124k1, b124k2, b124k3, b124k4, vaE, ↓reduceIte, reduceCtorEq, Nat.reduceEqDiff, Nat.reduceAdd, Nat.reduceMul, Nat.reduceSub, Nat.reduceLeDiff, Nat.reduceBEq, Int.reduceToNat, Int.reduceLE, Int.reduceLT, Int.reduceEq, Int.reduceNe, di]
    rw [outD_nil res124]
    exact ⟨_, rfl, rfl, .inr rfl⟩

def presK (s : Ws) (k : Nat) : List Int := (List.range k).map fun i => W6 (s.F.getD i 0 + s.B.getD i 0)
theorem presK_succ {s : Ws} {k : Nat} : presK s (k + 1) = presK s k ++ [W6 (s.F.getD k 0 + s.B.getD k 0)] := by simp [presK, List.range_succ]
theorem presK_length {s : Ws} {k : Nat} : (presK s k).length = k := by simp [presK]
def flowK (ys : List Int) (s : Ws) (k : Nat) : List Int := (List.range k).map fun i => W6 (ys.getD i 0 * W6 (s.F.getD i 0 - s.B.getD i 0))
theorem flowK_succ {ys : List Int} {s : Ws} {k : Nat} : flowK ys s (k + 1) = flowK ys s k ++ [W6 (ys.getD k 0 * W6 (s.F.getD k 0 - s.B.getD k 0))] := by simp [flowK, List.range_succ]
theorem flowK_length {ys : List Int} {s : Ws} {k : Nat} : (flowK ys s k).length = k := by simp [flowK]
def enK (ys : List Int) (s : Ws) : Nat → Int
  | 0 => 0
  | k + 1 => W6 (enK ys s k + W6 (W6 (2 * ys.getD k 0) * W6 (W6 (s.F.getD k 0 * s.F.getD k 0) + W6 (s.B.getD k 0 * s.B.getD k 0))))
def enA (ar : List Int) (s : Ws) (e : Int) : Nat → Int
  | 0 => e
  | k + 1 => W6 (enA ar s e k + W6 (W6 (ar.getD k 0 * s.L.getD k 0) * s.L.getD k 0))
/-- The energy of a state. -/
def enS (x : Ow) (s : Ws) : Int := enA x.ar s (enK (admL x.pp) s x.n.toNat) x.ar.length

theorem w_pressures {s : Ws} (hs : FewS s) (hl : s.F.length = s.B.length) : Contract Try.prog 126 [wsI s] (nI (presK s s.F.length)) := by
  have hf := hs.1
  refine contract_run Try.func126 k126 rfl ?_
  simp only [body126, b126, res126, b126k0, b126k1, vaE, ↓reduceIte, reduceCtorEq, Nat.reduceEqDiff, Nat.reduceAdd, Nat.reduceMul, Nat.reduceSub, Nat.reduceLeDiff, Nat.reduceBEq, Int.reduceToNat, Int.reduceLE, Int.reduceLT, Int.reduceEq, Int.reduceNe, di]
  refine loop_keep (α := Nat) rfl (fun i => s.F.length - i) (fun i => i ≤ s.F.length)
    (fun i => [(1, .ref 1 0), (3, .own 3), (7, .imm (nI s.F)), (8, .imm (.int .i64 s.F.length)), (9, .imm (.int .i64 i))])
    (fun i => [(1, .box [.imm (nI s.F), .imm (nI s.B), .imm (nI s.L)]), (3, .tok 1 ((presK s i).map (.int .i64)))]) 0 (Nat.zero_le _) (by simp only [vaE, ↓reduceIte, reduceCtorEq, Nat.reduceEqDiff, Nat.reduceAdd, Nat.reduceMul, Nat.reduceSub, Nat.reduceLeDiff, Nat.reduceBEq, Int.reduceToNat, Int.reduceLE, Int.reduceLT, Int.reduceEq, Int.reduceNe, di] <;> rfl) ?_
  intro i hi ih
  have hpl := presK_length (s := s) (k := i)
  simp only [res126, b126k0, b126k1, vaE, ↓reduceIte, reduceCtorEq, Nat.reduceEqDiff, Nat.reduceAdd, Nat.reduceMul, Nat.reduceSub, Nat.reduceLeDiff, Nat.reduceBEq, Int.reduceToNat, Int.reduceLE, Int.reduceLT, Int.reduceEq, Int.reduceNe, di]
  split
  · rename_i h
    repeat (refine And.intro (by first | omega | exact all_int _ | (simp only [zeros_len, List.length_append, List.length_take, List.length_drop, List.length_set, List.length_cons, List.length_nil, List.length_map]; omega)) ?_)
    rw [wrap64 (n := (i : Int) + 1) (by omega) (by omega)]
    refine ih (i + 1) _ _ (by omega) (by omega) ?_
    rw [presK_succ]
    simp only [vaE, ↓reduceIte, reduceCtorEq, Nat.reduceEqDiff, Nat.reduceAdd, Nat.reduceMul, Nat.reduceSub, Nat.reduceLeDiff, Nat.reduceBEq, Int.reduceToNat, Int.reduceLE, Int.reduceLT, Int.reduceEq, Int.reduceNe, di] <;> rfl
  · rename_i h
    rw [show s.F.length = i by omega]
theorem r_Pressures {x : Ln} {s : Ws} (hs : FewS s) (hl : s.F.length = s.B.length) : Contract Try.prog 75 [lnI x, wsI s] (nI (presK s s.F.length)) := by
  have hf := hs.1
  refine contract_run Try.func75 k75 rfl ?_
  simp only [body75, b75, res75, b75k0, b75k1, vaE, ↓reduceIte, reduceCtorEq, Nat.reduceEqDiff, Nat.reduceAdd, Nat.reduceMul, Nat.reduceSub, Nat.reduceLeDiff, Nat.reduceBEq, Int.reduceToNat, Int.reduceLE, Int.reduceLT, Int.reduceEq, Int.reduceNe, di]
  refine loop_keep (α := Nat) rfl (fun i => s.F.length - i) (fun i => i ≤ s.F.length)
    (fun i => [(3, .ref 3 0), (5, .own 5), (6, .imm (.int .i64 i))])
    (fun i => [(3, .box [.imm (nI s.F), .imm (nI s.B), .imm (nI s.L)]), (5, .tok 1 ((presK s i).map (.int .i64)))]) 0 (Nat.zero_le _) (by simp only [vaE, ↓reduceIte, reduceCtorEq, Nat.reduceEqDiff, Nat.reduceAdd, Nat.reduceMul, Nat.reduceSub, Nat.reduceLeDiff, Nat.reduceBEq, Int.reduceToNat, Int.reduceLE, Int.reduceLT, Int.reduceEq, Int.reduceNe, di] <;> rfl) ?_
  intro i hi ih
  have hpl := presK_length (s := s) (k := i)
  simp only [res75, b75k0, b75k1, vaE, ↓reduceIte, reduceCtorEq, Nat.reduceEqDiff, Nat.reduceAdd, Nat.reduceMul, Nat.reduceSub, Nat.reduceLeDiff, Nat.reduceBEq, Int.reduceToNat, Int.reduceLE, Int.reduceLT, Int.reduceEq, Int.reduceNe, di]
  split
  · rename_i h
    repeat (refine And.intro (by first | omega | exact all_int _ | (simp only [zeros_len, List.length_append, List.length_take, List.length_drop, List.length_set, List.length_cons, List.length_nil, List.length_map]; omega)) ?_)
    rw [wrap64 (n := (i : Int) + 1) (by omega) (by omega)]
    refine ih (i + 1) _ _ (by omega) (by omega) ?_
    rw [presK_succ]
    simp only [vaE, ↓reduceIte, reduceCtorEq, Nat.reduceEqDiff, Nat.reduceAdd, Nat.reduceMul, Nat.reduceSub, Nat.reduceLeDiff, Nat.reduceBEq, Int.reduceToNat, Int.reduceLE, Int.reduceLT, Int.reduceEq, Int.reduceNe, di] <;> rfl
  · rename_i h
    rw [show s.F.length = i by omega]
theorem r_Flows {x : Ln} {s : Ws} (hx : LineOk x) (hs : FewS s) (hl : s.F.length = s.B.length) (hn : (s.F.length : Int) = (opn x).n) : Contract Try.prog 76 [lnI x, wsI s] (nI (flowK (admL x.pp) s s.F.length)) := by
  have hf := hs.1
  have hol := ofL_length x.pp 0 fun p hp => (hx.pip p hp).1
  have hcn : (opn x).n = cellsN x.pp := rfl
  refine contract_run Try.func76 k76 rfl ?_
  simp only [body76, b76, res76, b76k0, b76k1, vaE, ↓reduceIte, reduceCtorEq, Nat.reduceEqDiff, Nat.reduceAdd, Nat.reduceMul, Nat.reduceSub, Nat.reduceLeDiff, Nat.reduceBEq, Int.reduceToNat, Int.reduceLE, Int.reduceLT, Int.reduceEq, Int.reduceNe, di]
  refine calls_of (r_Of hx) ?_; simp only [vaE, res76, b76k0, b76k1, ↓reduceIte, reduceCtorEq, Nat.reduceEqDiff, Nat.reduceAdd, Nat.reduceMul, Nat.reduceSub, Nat.reduceLeDiff, Nat.reduceBEq, Int.reduceToNat, Int.reduceLE, Int.reduceLT, Int.reduceEq, Int.reduceNe, di]
  refine loop_keep (α := Nat) rfl (fun i => s.F.length - i) (fun i => i ≤ s.F.length)
    (fun i => [(2, .ref 2 0), (3, .ref 3 0), (5, .imm (nI (ofL 0 x.pp))), (6, .own 6), (7, .imm (.int .i64 i))])
    (fun i => [(2, .box [.imm (.slc 2 (x.pp.map ppI)), .imm (nI x.ar)]), (3, .box [.imm (nI s.F), .imm (nI s.B), .imm (nI s.L)]), (6, .tok 1 ((flowK (admL x.pp) s i).map (.int .i64)))]) 0 (Nat.zero_le _) (by simp only [vaE, ↓reduceIte, reduceCtorEq, Nat.reduceEqDiff, Nat.reduceAdd, Nat.reduceMul, Nat.reduceSub, Nat.reduceLeDiff, Nat.reduceBEq, Int.reduceToNat, Int.reduceLE, Int.reduceLT, Int.reduceEq, Int.reduceNe, di] <;> rfl) ?_
  intro i hi ih
  have hpl := flowK_length (ys := admL x.pp) (s := s) (k := i)
  simp only [res76, b76k0, b76k1, vaE, ↓reduceIte, reduceCtorEq, Nat.reduceEqDiff, Nat.reduceAdd, Nat.reduceMul, Nat.reduceSub, Nat.reduceLeDiff, Nat.reduceBEq, Int.reduceToNat, Int.reduceLE, Int.reduceLT, Int.reduceEq, Int.reduceNe, di]
  split
  · rename_i h
    obtain ⟨j, hj, e1, e2⟩ := ofL_adm x.pp 0 i (by omega)
    rw [e1, Nat.zero_add, Int.toNat_natCast, e2]
    repeat (refine And.intro (by first | omega | exact all_int _ | (simp only [zeros_len, List.length_append, List.length_take, List.length_drop, List.length_set, List.length_cons, List.length_nil, List.length_map]; omega)) ?_)
    rw [wrap64 (n := (i : Int) + 1) (by omega) (by omega)]
    refine ih (i + 1) _ _ (by omega) (by omega) ?_
    rw [flowK_succ]
    simp only [vaE, ↓reduceIte, reduceCtorEq, Nat.reduceEqDiff, Nat.reduceAdd, Nat.reduceMul, Nat.reduceSub, Nat.reduceLeDiff, Nat.reduceBEq, Int.reduceToNat, Int.reduceLE, Int.reduceLT, Int.reduceEq, Int.reduceNe, di] <;> rfl
  · rename_i h
    rw [show s.F.length = i by omega]
theorem r_Energy {x : Ln} {s : Ws} (hx : LineOk x) (hs : FewS s) (hl : s.F.length = s.B.length) (hn : (s.F.length : Int) = (opn x).n) (hL : s.L.length = x.ar.length) : Contract Try.prog 77 [lnI x, wsI s] (.int .i64 (enS (opn x) s)) := by
  have hf := hs.1
  have hll := hs.2.2
  have hol := ofL_length x.pp 0 fun p hp => (hx.pip p hp).1
  have hcn : (opn x).n = cellsN x.pp := rfl
  refine contract_run Try.func77 k77 rfl ?_
  simp only [body77, b77, res77, b77k0, b77k1, b77k2, b77k3, vaE, ↓reduceIte, reduceCtorEq, Nat.reduceEqDiff, Nat.reduceAdd, Nat.reduceMul, Nat.reduceSub, Nat.reduceLeDiff, Nat.reduceBEq, Int.reduceToNat, Int.reduceLE, Int.reduceLT, Int.reduceEq, Int.reduceNe, di]
  refine calls_of (r_Of hx) ?_; simp only [vaE, res77, b77k0, b77k1, b77k2, b77k3, ↓reduceIte, reduceCtorEq, Nat.reduceEqDiff, Nat.reduceAdd, Nat.reduceMul, Nat.reduceSub, Nat.reduceLeDiff, Nat.reduceBEq, Int.reduceToNat, Int.reduceLE, Int.reduceLT, Int.reduceEq, Int.reduceNe, di]
  refine loop_keep (α := Nat) rfl (fun i => s.F.length - i) (fun i => i ≤ s.F.length)
    (fun i => [(2, .ref 2 0), (3, .ref 3 0), (5, .imm (nI (ofL 0 x.pp))), (6, .imm (.int .i64 (enK (admL x.pp) s i))), (7, .imm (.int .i64 i))])
    (fun i => [(2, .box [.imm (.slc 2 (x.pp.map ppI)), .imm (nI x.ar)]), (3, .box [.imm (nI s.F), .imm (nI s.B), .imm (nI s.L)])]) 0 (Nat.zero_le _) (by simp only [vaE, ↓reduceIte, reduceCtorEq, Nat.reduceEqDiff, Nat.reduceAdd, Nat.reduceMul, Nat.reduceSub, Nat.reduceLeDiff, Nat.reduceBEq, Int.reduceToNat, Int.reduceLE, Int.reduceLT, Int.reduceEq, Int.reduceNe, di] <;> rfl) ?_
  intro i hi ih
  simp only [res77, b77k0, b77k1, b77k2, b77k3, vaE, ↓reduceIte, reduceCtorEq, Nat.reduceEqDiff, Nat.reduceAdd, Nat.reduceMul, Nat.reduceSub, Nat.reduceLeDiff, Nat.reduceBEq, Int.reduceToNat, Int.reduceLE, Int.reduceLT, Int.reduceEq, Int.reduceNe, di]
  split
  · rename_i h
    obtain ⟨j, hj, e1, e2⟩ := ofL_adm x.pp 0 i (by omega)
    rw [e1, Nat.zero_add, Int.toNat_natCast, e2]
    repeat (refine And.intro (by first | omega | exact all_int _ | (simp only [zeros_len, List.length_append, List.length_take, List.length_drop, List.length_set, List.length_cons, List.length_nil, List.length_map]; omega)) ?_)
    rw [wrap64 (n := (i : Int) + 1) (by omega) (by omega)]
    exact ih (i + 1) _ _ (by omega) (by omega) (by simp only [enK, vaE, ↓reduceIte, reduceCtorEq, Nat.reduceEqDiff, Nat.reduceAdd, Nat.reduceMul, Nat.reduceSub, Nat.reduceLeDiff, Nat.reduceBEq, Int.reduceToNat, Int.reduceLE, Int.reduceLT, Int.reduceEq, Int.reduceNe, di] <;> rfl)
  rename_i h
  have hie : i = s.F.length := by omega
  refine loop_keep (α := Nat) rfl (fun j => x.ar.length - j) (fun j => j ≤ x.ar.length)
    (fun j => [(2, .ref 2 0), (3, .ref 3 0), (6, .imm (.int .i64 (enA x.ar s (enK (admL x.pp) s i) j))), (8, .imm (.int .i64 j))])
    (fun j => [(2, .box [.imm (.slc 2 (x.pp.map ppI)), .imm (nI x.ar)]), (3, .box [.imm (nI s.F), .imm (nI s.B), .imm (nI s.L)])]) 0 (Nat.zero_le _) (by simp only [enA, vaE, ↓reduceIte, reduceCtorEq, Nat.reduceEqDiff, Nat.reduceAdd, Nat.reduceMul, Nat.reduceSub, Nat.reduceLeDiff, Nat.reduceBEq, Int.reduceToNat, Int.reduceLE, Int.reduceLT, Int.reduceEq, Int.reduceNe, di] <;> rfl) ?_
  intro j hj ih2
  simp only [res77, b77k0, b77k1, b77k2, b77k3, vaE, ↓reduceIte, reduceCtorEq, Nat.reduceEqDiff, Nat.reduceAdd, Nat.reduceMul, Nat.reduceSub, Nat.reduceLeDiff, Nat.reduceBEq, Int.reduceToNat, Int.reduceLE, Int.reduceLT, Int.reduceEq, Int.reduceNe, di]
  split
  · rename_i h2
    repeat (refine And.intro (by first | omega | exact all_int _ | (simp only [zeros_len, List.length_append, List.length_take, List.length_drop, List.length_set, List.length_cons, List.length_nil, List.length_map]; omega)) ?_)
    rw [wrap64 (n := (j : Int) + 1) (by omega) (by omega)]
    exact ih2 (j + 1) _ _ (by omega) (by omega) (by simp only [enA, vaE, ↓reduceIte, reduceCtorEq, Nat.reduceEqDiff, Nat.reduceAdd, Nat.reduceMul, Nat.reduceSub, Nat.reduceLeDiff, Nat.reduceBEq, Int.reduceToNat, Int.reduceLE, Int.reduceLT, Int.reduceEq, Int.reduceNe, di] <;> rfl)
  · rename_i h2
    unfold enS
    rw [show (opn x).ar.length = j by show x.ar.length = j; omega, show (opn x).n.toNat = i by omega]
    rfl

def presZ (x : Ln) (s : Ws) : List Int := if stE x s = 0 then presK s s.F.length else []
def flowZ (x : Ln) (s : Ws) : List Int := if stE x s = 0 then flowK (admL x.pp) s s.F.length else []
def enZ (x : Ln) (s : Ws) : Int := if stE x s = 0 then enS (opn x) s else 0
theorem w_PressuresOf {x : Ln} {s : Ws} (hx : Few x) (hs : FewS s) : Contract Try.prog 72 [lnI x, wsI s] (.tup [nI (presZ x s), .int .i64 (stE x s)]) := by
  refine contract_run Try.func72 k72 rfl ?_
  simp only [body72, b72, res72, b72k0, vaE, ↓reduceIte, reduceCtorEq, Nat.reduceEqDiff, Nat.reduceAdd, Nat.reduceMul, Nat.reduceSub, Nat.reduceLeDiff, Nat.reduceBEq, Int.reduceToNat, Int.reduceLE, Int.reduceLT, Int.reduceEq, Int.reduceNe, di]
  refine calls_of (w_openState hx hs) ?_; simp only [vaE, res72, b72k0, ↓reduceIte, reduceCtorEq, Nat.reduceEqDiff, Nat.reduceAdd, Nat.reduceMul, Nat.reduceSub, Nat.reduceLeDiff, Nat.reduceBEq, Int.reduceToNat, Int.reduceLE, Int.reduceLT, Int.reduceEq, Int.reduceNe, di]
  unfold presZ
  by_cases h0 : stE x s = 0
  · simp only [h0, vaE, ↓reduceIte, reduceCtorEq, Nat.reduceEqDiff, Nat.reduceAdd, Nat.reduceMul, Nat.reduceSub, Nat.reduceLeDiff, Nat.reduceBEq, Int.reduceToNat, Int.reduceLE, Int.reduceLT, Int.reduceEq, Int.reduceNe, di]
    have hz := (stE_zero.1 h0).2
    have h1 := hz.f
    have h2 := hz.b
    refine calls_of (w_pressures (s := s) hs (by omega)) ?_; simp only [vaE, res72, b72k0, ↓reduceIte, reduceCtorEq, Nat.reduceEqDiff, Nat.reduceAdd, Nat.reduceMul, Nat.reduceSub, Nat.reduceLeDiff, Nat.reduceBEq, Int.reduceToNat, Int.reduceLE, Int.reduceLT, Int.reduceEq, Int.reduceNe, di]
  · simp only [h0, vaE, ↓reduceIte, reduceCtorEq, Nat.reduceEqDiff, Nat.reduceAdd, Nat.reduceMul, Nat.reduceSub, Nat.reduceLeDiff, Nat.reduceBEq, Int.reduceToNat, Int.reduceLE, Int.reduceLT, Int.reduceEq, Int.reduceNe, di]
theorem w_FlowsOf {x : Ln} {s : Ws} (hx : Few x) (hs : FewS s) : Contract Try.prog 73 [lnI x, wsI s] (.tup [nI (flowZ x s), .int .i64 (stE x s)]) := by
  refine contract_run Try.func73 k73 rfl ?_
  simp only [body73, b73, res73, b73k0, b73k1, vaE, ↓reduceIte, reduceCtorEq, Nat.reduceEqDiff, Nat.reduceAdd, Nat.reduceMul, Nat.reduceSub, Nat.reduceLeDiff, Nat.reduceBEq, Int.reduceToNat, Int.reduceLE, Int.reduceLT, Int.reduceEq, Int.reduceNe, di]
  refine calls_of (w_openState hx hs) ?_; simp only [vaE, res73, b73k0, b73k1, ↓reduceIte, reduceCtorEq, Nat.reduceEqDiff, Nat.reduceAdd, Nat.reduceMul, Nat.reduceSub, Nat.reduceLeDiff, Nat.reduceBEq, Int.reduceToNat, Int.reduceLE, Int.reduceLT, Int.reduceEq, Int.reduceNe, di]
  unfold flowZ
  by_cases h0 : stE x s = 0
  rotate_left
  · simp only [h0, vaE, ↓reduceIte, reduceCtorEq, Nat.reduceEqDiff, Nat.reduceAdd, Nat.reduceMul, Nat.reduceSub, Nat.reduceLeDiff, Nat.reduceBEq, Int.reduceToNat, Int.reduceLE, Int.reduceLT, Int.reduceEq, Int.reduceNe, di]
  simp only [h0, vaE, ↓reduceIte, reduceCtorEq, Nat.reduceEqDiff, Nat.reduceAdd, Nat.reduceMul, Nat.reduceSub, Nat.reduceLeDiff, Nat.reduceBEq, Int.reduceToNat, Int.reduceLE, Int.reduceLT, Int.reduceEq, Int.reduceNe, di]
  have hz := stE_zero.1 h0
  have hf := hz.2.f
  have hb := hz.2.b
  have how := opn_ok hz.1
  have hox : opnE x = opn x := by unfold opnE; rw [if_pos (chkL_ok.2 hz.1)]
  have hal := admL_length x.pp fun p hp => (hz.1.pip p hp).1
  have hcn : (opn x).n = cellsN x.pp := rfl
  have hF := hs.1
  rw [hox]
  refine range_plain (gf := 124) (first := [owI (opn x)]) (caps := []) (adY 0 (admL x.pp)) false rfl rfl (it_admittances how) (by
      intro y hy
      obtain ⟨n, hn⟩ := List.getElem?_of_mem hy
      rw [(adY_get hn).2]; rfl) rfl (fun n (y : Nat) => y = n) (fun y => [(3, .box [.imm (nI s.F), .imm (nI s.B), .imm (nI s.L)]), (8, .box [.own 1008]), (1008, .tok 1 ((flowK (admL x.pp) s y).map (IV.int .i64)))]) 0 rfl (by rw [keepRes_look]; simp only [vaE, ↓reduceIte, reduceCtorEq, Nat.reduceEqDiff, Nat.reduceAdd, Nat.reduceMul, Nat.reduceSub, Nat.reduceLeDiff, Nat.reduceBEq, Int.reduceToNat, Int.reduceLE, Int.reduceLT, Int.reduceEq, Int.reduceNe, di] <;> rfl) ?_ ?_
  · rintro n y m hy rfl
    obtain ⟨hm, rfl⟩ := adY_get hy
    have hvl := flowK_length (ys := admL x.pp) (s := s) (k := m)
    simp only [b73a0, b73r0, vaE, ↓reduceIte, reduceCtorEq, Nat.reduceEqDiff, Nat.reduceAdd, Nat.reduceMul, Nat.reduceSub, Nat.reduceLeDiff, Nat.reduceBEq, Int.reduceToNat, Int.reduceLE, Int.reduceLT, Int.reduceEq, Int.reduceNe, di]
    repeat (refine And.intro (by first | omega | exact all_int _ | (simp only [zeros_len, List.length_append, List.length_take, List.length_drop, List.length_set, List.length_cons, List.length_nil, List.length_map]; omega)) ?_)
    rw [Nat.zero_add, ← flowK_succ]
    exact ⟨m + 1, rfl, rfl⟩
  · intro y _ hy
    have hye : y = s.F.length := by rw [hy, adY_length]; omega
    rw [hye]
    simp only [res73, b73k0, b73k1, vaE, ↓reduceIte, reduceCtorEq, Nat.reduceEqDiff, Nat.reduceAdd, Nat.reduceMul, Nat.reduceSub, Nat.reduceLeDiff, Nat.reduceBEq, Int.reduceToNat, Int.reduceLE, Int.reduceLT, Int.reduceEq, Int.reduceNe, di]
theorem w_EnergyOf {x : Ln} {s : Ws} (hx : Few x) (hs : FewS s) : Contract Try.prog 65 [lnI x, wsI s] (.tup [.int .i64 (enZ x s), .int .i64 (stE x s)]) := by
  refine contract_run Try.func65 k65 rfl ?_
  simp only [body65, b65, res65, b65k0, b65k1, b65k2, b65k3, vaE, ↓reduceIte, reduceCtorEq, Nat.reduceEqDiff, Nat.reduceAdd, Nat.reduceMul, Nat.reduceSub, Nat.reduceLeDiff, Nat.reduceBEq, Int.reduceToNat, Int.reduceLE, Int.reduceLT, Int.reduceEq, Int.reduceNe, di]
  refine calls_of (w_openState hx hs) ?_; simp only [vaE, res65, b65k0, b65k1, b65k2, b65k3, ↓reduceIte, reduceCtorEq, Nat.reduceEqDiff, Nat.reduceAdd, Nat.reduceMul, Nat.reduceSub, Nat.reduceLeDiff, Nat.reduceBEq, Int.reduceToNat, Int.reduceLE, Int.reduceLT, Int.reduceEq, Int.reduceNe, di]
  unfold enZ
  by_cases h0 : stE x s = 0
  rotate_left
  · simp only [h0, vaE, ↓reduceIte, reduceCtorEq, Nat.reduceEqDiff, Nat.reduceAdd, Nat.reduceMul, Nat.reduceSub, Nat.reduceLeDiff, Nat.reduceBEq, Int.reduceToNat, Int.reduceLE, Int.reduceLT, Int.reduceEq, Int.reduceNe, di]
  simp only [h0, vaE, ↓reduceIte, reduceCtorEq, Nat.reduceEqDiff, Nat.reduceAdd, Nat.reduceMul, Nat.reduceSub, Nat.reduceLeDiff, Nat.reduceBEq, Int.reduceToNat, Int.reduceLE, Int.reduceLT, Int.reduceEq, Int.reduceNe, di]
  have hz := stE_zero.1 h0
  have hf := hz.2.f
  have hb := hz.2.b
  have hL := hz.2.l
  have how := opn_ok hz.1
  have hox : opnE x = opn x := by unfold opnE; rw [if_pos (chkL_ok.2 hz.1)]
  have hal := admL_length x.pp fun p hp => (hz.1.pip p hp).1
  have hcn : (opn x).n = cellsN x.pp := rfl
  have har : (opn x).ar = x.ar := rfl
  have hF := hs.1
  have hLL := hs.2.2
  rw [hox]
  refine range_plain (gf := 124) (first := [owI (opn x)]) (caps := []) (adY 0 (admL x.pp)) false rfl rfl (it_admittances how) (by
      intro y hy
      obtain ⟨n, hn⟩ := List.getElem?_of_mem hy
      rw [(adY_get hn).2]; rfl) rfl (fun n (y : Nat) => y = n) (fun y => [(2, .box [.imm (.slc 2 (x.pp.map ppI)), .imm (nI x.ar)]), (3, .box [.imm (nI s.F), .imm (nI s.B), .imm (nI s.L)]), (8, .box [.imm (.int .i64 (enK (admL x.pp) s y))])]) 0 rfl (by rw [keepRes_look]; simp only [vaE, ↓reduceIte, reduceCtorEq, Nat.reduceEqDiff, Nat.reduceAdd, Nat.reduceMul, Nat.reduceSub, Nat.reduceLeDiff, Nat.reduceBEq, Int.reduceToNat, Int.reduceLE, Int.reduceLT, Int.reduceEq, Int.reduceNe, di] <;> rfl) ?_ ?_
  · rintro n y m hy rfl
    obtain ⟨hm, rfl⟩ := adY_get hy
    simp only [b65a0, b65r0, b65l1, Nat.zero_add, vaE, ↓reduceIte, reduceCtorEq, Nat.reduceEqDiff, Nat.reduceAdd, Nat.reduceMul, Nat.reduceSub, Nat.reduceLeDiff, Nat.reduceBEq, Int.reduceToNat, Int.reduceLE, Int.reduceLT, Int.reduceEq, Int.reduceNe, di]
    repeat (refine And.intro (by first | omega | exact all_int _ | (simp only [zeros_len, List.length_append, List.length_take, List.length_drop, List.length_set, List.length_cons, List.length_nil, List.length_map]; omega)) ?_)
    exact ⟨m + 1, rfl, rfl⟩
  · intro y _ hy
    have hye : y = s.F.length := by rw [hy, adY_length]; omega
    rw [hye]
    simp only [res65, b65k0, b65k1, b65k2, b65k3, vaE, ↓reduceIte, reduceCtorEq, Nat.reduceEqDiff, Nat.reduceAdd, Nat.reduceMul, Nat.reduceSub, Nat.reduceLeDiff, Nat.reduceBEq, Int.reduceToNat, Int.reduceLE, Int.reduceLT, Int.reduceEq, Int.reduceNe, di]
    refine loop_keep (α := Nat) rfl (fun j => s.L.length - j) (fun j => j ≤ s.L.length)
      (fun j => [(2, .ref 2 0), (8, .ref 8 0), (55, .imm (nI s.L)), (56, .imm (.int .i64 s.L.length)), (57, .imm (.int .i64 j))])
      (fun j => [(2, .box [.imm (.slc 2 (x.pp.map ppI)), .imm (nI x.ar)]), (8, .box [.imm (.int .i64 (enA x.ar s (enK (admL x.pp) s s.F.length) j))])]) 0 (Nat.zero_le _) (by simp only [enA, vaE, ↓reduceIte, reduceCtorEq, Nat.reduceEqDiff, Nat.reduceAdd, Nat.reduceMul, Nat.reduceSub, Nat.reduceLeDiff, Nat.reduceBEq, Int.reduceToNat, Int.reduceLE, Int.reduceLT, Int.reduceEq, Int.reduceNe, di] <;> rfl) ?_
    intro j hj ih2
    simp only [res65, b65k0, b65k1, b65k2, b65k3, vaE, ↓reduceIte, reduceCtorEq, Nat.reduceEqDiff, Nat.reduceAdd, Nat.reduceMul, Nat.reduceSub, Nat.reduceLeDiff, Nat.reduceBEq, Int.reduceToNat, Int.reduceLE, Int.reduceLT, Int.reduceEq, Int.reduceNe, di]
    split
    · rename_i h2
      rw [har] at hL
      repeat (refine And.intro (by first | omega | exact all_int _ | (simp only [zeros_len, List.length_append, List.length_take, List.length_drop, List.length_set, List.length_cons, List.length_nil, List.length_map]; omega)) ?_)
      rw [wrap64 (n := (j : Int) + 1) (by omega) (by omega)]
      exact ih2 (j + 1) _ _ (by omega) (by omega) (by simp only [enA, vaE, ↓reduceIte, reduceCtorEq, Nat.reduceEqDiff, Nat.reduceAdd, Nat.reduceMul, Nat.reduceSub, Nat.reduceLeDiff, Nat.reduceBEq, Int.reduceToNat, Int.reduceLE, Int.reduceLT, Int.reduceEq, Int.reduceNe, di] <;> rfl)
    · rename_i h2
      unfold enS
      rw [show (opn x).ar.length = j by omega, show (opn x).n.toNat = s.F.length by omega]
      rfl
def chkZ (x : Ln) (s : Ws) : Int := if (chkL x).2 = 0 then (chkS (opn x) s).1 else 0
theorem w_CheckState' {x : Ln} {s : Ws} (hx : Few x) (hs : FewS s) : Contract Try.prog 71 [lnI x, wsI s] (e2I (chkZ x s, stE x s)) := by
  have h := w_CheckState hx hs
  unfold chkZ stE
  split at h
  · rename_i h0; rw [if_pos h0, if_pos h0]; exact h
  · rename_i h0; rw [if_neg h0, if_neg h0]; exact h
theorem l_WaveStates {x : Ln} {s : Ws} : Contract Try.prog 14 [lnI x, wsI s] (.bool true) := by
  refine contract_run Try.func14 k14 rfl ?_
  simp only [body14, b14, res14, b14k0, b14k1, b14k2, b14k3, b14k4, vaE, ↓reduceIte, reduceCtorEq, Nat.reduceEqDiff, Nat.reduceAdd, Nat.reduceMul, Nat.reduceSub, Nat.reduceLeDiff, Nat.reduceBEq, Int.reduceToNat, Int.reduceLE, Int.reduceLT, Int.reduceEq, Int.reduceNe, di]
  refine calls_of l_awake ?_; simp only [vaE, res14, b14k0, b14k1, b14k2, b14k3, b14k4, ↓reduceIte, reduceCtorEq, Nat.reduceEqDiff, Nat.reduceAdd, Nat.reduceMul, Nat.reduceSub, Nat.reduceLeDiff, Nat.reduceBEq, Int.reduceToNat, Int.reduceLE, Int.reduceLT, Int.reduceEq, Int.reduceNe, di]
  refine calls_of l_few ?_; simp only [vaE, res14, b14k0, b14k1, b14k2, b14k3, b14k4, ↓reduceIte, reduceCtorEq, Nat.reduceEqDiff, Nat.reduceAdd, Nat.reduceMul, Nat.reduceSub, Nat.reduceLeDiff, Nat.reduceBEq, Int.reduceToNat, Int.reduceLE, Int.reduceLT, Int.reduceEq, Int.reduceNe, di]
  by_cases hf : x.pp.length ≤ 6 ∧ x.ar.length ≤ 6
  rotate_left
  · simp only [hf, vaE, ↓reduceIte, reduceCtorEq, Nat.reduceEqDiff, Nat.reduceAdd, Nat.reduceMul, Nat.reduceSub, Nat.reduceLeDiff, Nat.reduceBEq, Int.reduceToNat, Int.reduceLE, Int.reduceLT, Int.reduceEq, Int.reduceNe, di]
  simp only [hf, vaE, ↓reduceIte, reduceCtorEq, Nat.reduceEqDiff, Nat.reduceAdd, Nat.reduceMul, Nat.reduceSub, Nat.reduceLeDiff, Nat.reduceBEq, Int.reduceToNat, Int.reduceLE, Int.reduceLT, Int.reduceEq, Int.reduceNe, di]
  refine calls_of l_fewCells ?_; simp only [vaE, res14, b14k0, b14k1, b14k2, b14k3, b14k4, ↓reduceIte, reduceCtorEq, Nat.reduceEqDiff, Nat.reduceAdd, Nat.reduceMul, Nat.reduceSub, Nat.reduceLeDiff, Nat.reduceBEq, Int.reduceToNat, Int.reduceLE, Int.reduceLT, Int.reduceEq, Int.reduceNe, di]
  by_cases hf2 : s.F.length ≤ 30 ∧ s.B.length ≤ 30 ∧ s.L.length ≤ 10
  rotate_left
  · simp only [hf2, vaE, ↓reduceIte, reduceCtorEq, Nat.reduceEqDiff, Nat.reduceAdd, Nat.reduceMul, Nat.reduceSub, Nat.reduceLeDiff, Nat.reduceBEq, Int.reduceToNat, Int.reduceLE, Int.reduceLT, Int.reduceEq, Int.reduceNe, di]
  simp only [hf2, vaE, ↓reduceIte, reduceCtorEq, Nat.reduceEqDiff, Nat.reduceAdd, Nat.reduceMul, Nat.reduceSub, Nat.reduceLeDiff, Nat.reduceBEq, Int.reduceToNat, Int.reduceLE, Int.reduceLT, Int.reduceEq, Int.reduceNe, di]
  have hx : Few x := ⟨by omega, by omega⟩
  have hs : FewS s := ⟨by omega, by omega, by omega⟩
  refine calls_of (r_CopyLine hx) ?_; simp only [vaE, res14, b14k0, b14k1, b14k2, b14k3, b14k4, ↓reduceIte, reduceCtorEq, Nat.reduceEqDiff, Nat.reduceAdd, Nat.reduceMul, Nat.reduceSub, Nat.reduceLeDiff, Nat.reduceBEq, Int.reduceToNat, Int.reduceLE, Int.reduceLT, Int.reduceEq, Int.reduceNe, di]
  refine calls_of (r_CopyState hs) ?_; simp only [vaE, res14, b14k0, b14k1, b14k2, b14k3, b14k4, ↓reduceIte, reduceCtorEq, Nat.reduceEqDiff, Nat.reduceAdd, Nat.reduceMul, Nat.reduceSub, Nat.reduceLeDiff, Nat.reduceBEq, Int.reduceToNat, Int.reduceLE, Int.reduceLT, Int.reduceEq, Int.reduceNe, di]
  refine calls_of (w_CheckState' hx hs) ?_; simp only [vaE, res14, b14k0, b14k1, b14k2, b14k3, b14k4, ↓reduceIte, reduceCtorEq, Nat.reduceEqDiff, Nat.reduceAdd, Nat.reduceMul, Nat.reduceSub, Nat.reduceLeDiff, Nat.reduceBEq, Int.reduceToNat, Int.reduceLE, Int.reduceLT, Int.reduceEq, Int.reduceNe, di]
  refine calls_of (r_CopyLine hx) ?_; simp only [vaE, res14, b14k0, b14k1, b14k2, b14k3, b14k4, ↓reduceIte, reduceCtorEq, Nat.reduceEqDiff, Nat.reduceAdd, Nat.reduceMul, Nat.reduceSub, Nat.reduceLeDiff, Nat.reduceBEq, Int.reduceToNat, Int.reduceLE, Int.reduceLT, Int.reduceEq, Int.reduceNe, di]
  refine calls_of (r_CopyState hs) ?_; simp only [vaE, res14, b14k0, b14k1, b14k2, b14k3, b14k4, ↓reduceIte, reduceCtorEq, Nat.reduceEqDiff, Nat.reduceAdd, Nat.reduceMul, Nat.reduceSub, Nat.reduceLeDiff, Nat.reduceBEq, Int.reduceToNat, Int.reduceLE, Int.reduceLT, Int.reduceEq, Int.reduceNe, di]
  refine calls_of (w_PressuresOf hx hs) ?_; simp only [vaE, res14, b14k0, b14k1, b14k2, b14k3, b14k4, ↓reduceIte, reduceCtorEq, Nat.reduceEqDiff, Nat.reduceAdd, Nat.reduceMul, Nat.reduceSub, Nat.reduceLeDiff, Nat.reduceBEq, Int.reduceToNat, Int.reduceLE, Int.reduceLT, Int.reduceEq, Int.reduceNe, di]
  refine calls_of (r_CopyLine hx) ?_; simp only [vaE, res14, b14k0, b14k1, b14k2, b14k3, b14k4, ↓reduceIte, reduceCtorEq, Nat.reduceEqDiff, Nat.reduceAdd, Nat.reduceMul, Nat.reduceSub, Nat.reduceLeDiff, Nat.reduceBEq, Int.reduceToNat, Int.reduceLE, Int.reduceLT, Int.reduceEq, Int.reduceNe, di]
  refine calls_of (r_CopyState hs) ?_; simp only [vaE, res14, b14k0, b14k1, b14k2, b14k3, b14k4, ↓reduceIte, reduceCtorEq, Nat.reduceEqDiff, Nat.reduceAdd, Nat.reduceMul, Nat.reduceSub, Nat.reduceLeDiff, Nat.reduceBEq, Int.reduceToNat, Int.reduceLE, Int.reduceLT, Int.reduceEq, Int.reduceNe, di]
  refine calls_of (w_FlowsOf hx hs) ?_; simp only [vaE, res14, b14k0, b14k1, b14k2, b14k3, b14k4, ↓reduceIte, reduceCtorEq, Nat.reduceEqDiff, Nat.reduceAdd, Nat.reduceMul, Nat.reduceSub, Nat.reduceLeDiff, Nat.reduceBEq, Int.reduceToNat, Int.reduceLE, Int.reduceLT, Int.reduceEq, Int.reduceNe, di]
  refine calls_of (r_CopyLine hx) ?_; simp only [vaE, res14, b14k0, b14k1, b14k2, b14k3, b14k4, ↓reduceIte, reduceCtorEq, Nat.reduceEqDiff, Nat.reduceAdd, Nat.reduceMul, Nat.reduceSub, Nat.reduceLeDiff, Nat.reduceBEq, Int.reduceToNat, Int.reduceLE, Int.reduceLT, Int.reduceEq, Int.reduceNe, di]
  refine calls_of (r_CopyState hs) ?_; simp only [vaE, res14, b14k0, b14k1, b14k2, b14k3, b14k4, ↓reduceIte, reduceCtorEq, Nat.reduceEqDiff, Nat.reduceAdd, Nat.reduceMul, Nat.reduceSub, Nat.reduceLeDiff, Nat.reduceBEq, Int.reduceToNat, Int.reduceLE, Int.reduceLT, Int.reduceEq, Int.reduceNe, di]
  refine calls_of (w_EnergyOf hx hs) ?_; simp only [vaE, res14, b14k0, b14k1, b14k2, b14k3, b14k4, ↓reduceIte, reduceCtorEq, Nat.reduceEqDiff, Nat.reduceAdd, Nat.reduceMul, Nat.reduceSub, Nat.reduceLeDiff, Nat.reduceBEq, Int.reduceToNat, Int.reduceLE, Int.reduceLT, Int.reduceEq, Int.reduceNe, di]
  refine calls_of (r_LineErr hx) ?_; simp only [vaE, res14, b14k0, b14k1, b14k2, b14k3, b14k4, ↓reduceIte, reduceCtorEq, Nat.reduceEqDiff, Nat.reduceAdd, Nat.reduceMul, Nat.reduceSub, Nat.reduceLeDiff, Nat.reduceBEq, Int.reduceToNat, Int.reduceLE, Int.reduceLT, Int.reduceEq, Int.reduceNe, di]
  by_cases h0 : (chkL x).2 = 0
  rotate_left
  · have e1 : stE x s = (chkL x).2 := by unfold stE; rw [if_neg h0]
    have z0 : chkZ x s = 0 := by unfold chkZ; rw [if_neg h0]
    have z1 : presZ x s = [] := by unfold presZ; rw [e1, if_neg h0]
    have z2 : flowZ x s = [] := by unfold flowZ; rw [e1, if_neg h0]
    have z3 : enZ x s = 0 := by unfold enZ; rw [e1, if_neg h0]
    rw [e1, z0, z1, z2, z3]
    simp only [h0, vaE, ↓reduceIte, reduceCtorEq, Nat.reduceEqDiff, Nat.reduceAdd, Nat.reduceMul, Nat.reduceSub, Nat.reduceLeDiff, Nat.reduceBEq, Int.reduceToNat, Int.reduceLE, Int.reduceLT, Int.reduceEq, Int.reduceNe, di]
    rw [if_pos (show IntKind.wrap .i64 (0 + 0) = 0 from rfl)]
    trivial
  have hxo := chkL_ok.1 h0
  simp only [h0, vaE, ↓reduceIte, reduceCtorEq, Nat.reduceEqDiff, Nat.reduceAdd, Nat.reduceMul, Nat.reduceSub, Nat.reduceLeDiff, Nat.reduceBEq, Int.reduceToNat, Int.reduceLE, Int.reduceLT, Int.reduceEq, Int.reduceNe, di]
  refine calls_of (r_CheckState hxo hs) ?_; simp only [vaE, res14, b14k0, b14k1, b14k2, b14k3, b14k4, ↓reduceIte, reduceCtorEq, Nat.reduceEqDiff, Nat.reduceAdd, Nat.reduceMul, Nat.reduceSub, Nat.reduceLeDiff, Nat.reduceBEq, Int.reduceToNat, Int.reduceLE, Int.reduceLT, Int.reduceEq, Int.reduceNe, di]
  have e1 : stE x s = (chkS (opn x) s).2 := by unfold stE; rw [if_pos h0]
  have z0 : chkZ x s = (chkS (opn x) s).1 := by unfold chkZ; rw [if_pos h0]
  rw [z0, ← e1]
  by_cases h1 : stE x s = 0
  rotate_left
  · have z1 : presZ x s = [] := by unfold presZ; rw [if_neg h1]
    have z2 : flowZ x s = [] := by unfold flowZ; rw [if_neg h1]
    have z3 : enZ x s = 0 := by unfold enZ; rw [if_neg h1]
    rw [z1, z2, z3]
    simp only [h1, vaE, ↓reduceIte, reduceCtorEq, Nat.reduceEqDiff, Nat.reduceAdd, Nat.reduceMul, Nat.reduceSub, Nat.reduceLeDiff, Nat.reduceBEq, Int.reduceToNat, Int.reduceLE, Int.reduceLT, Int.reduceEq, Int.reduceNe, di]
    rw [if_pos (show IntKind.wrap .i64 (0 + 0) = 0 from rfl)]
    trivial
  have z1 : presZ x s = presK s s.F.length := by unfold presZ; rw [if_pos h1]
  have z2 : flowZ x s = flowK (admL x.pp) s s.F.length := by unfold flowZ; rw [if_pos h1]
  have z3 : enZ x s = enS (opn x) s := by unfold enZ; rw [if_pos h1]
  have hz := (stE_zero.1 h1).2
  have hF := hz.f
  have hB := hz.b
  have hL := hz.l
  have hpl := presK_length (s := s) (k := s.F.length)
  have hfl := flowK_length (ys := admL x.pp) (s := s) (k := s.F.length)
  rw [z1, z2, z3]
  simp only [h1, vaE, ↓reduceIte, reduceCtorEq, Nat.reduceEqDiff, Nat.reduceAdd, Nat.reduceMul, Nat.reduceSub, Nat.reduceLeDiff, Nat.reduceBEq, Int.reduceToNat, Int.reduceLE, Int.reduceLT, Int.reduceEq, Int.reduceNe, di]
  refine calls_of (r_Pressures (x := x) hs (by omega)) ?_; simp only [vaE, res14, b14k0, b14k1, b14k2, b14k3, b14k4, ↓reduceIte, reduceCtorEq, Nat.reduceEqDiff, Nat.reduceAdd, Nat.reduceMul, Nat.reduceSub, Nat.reduceLeDiff, Nat.reduceBEq, Int.reduceToNat, Int.reduceLE, Int.reduceLT, Int.reduceEq, Int.reduceNe, di]
  refine calls_of (c_Ints (a := presK s s.F.length) (b := presK s s.F.length) (by omega)) ?_; simp only [vaE, res14, b14k0, b14k1, b14k2, b14k3, b14k4, ↓reduceIte, reduceCtorEq, Nat.reduceEqDiff, Nat.reduceAdd, Nat.reduceMul, Nat.reduceSub, Nat.reduceLeDiff, Nat.reduceBEq, Int.reduceToNat, Int.reduceLE, Int.reduceLT, Int.reduceEq, Int.reduceNe, di]
  refine calls_of (r_Flows hxo hs (by omega) hF) ?_; simp only [vaE, res14, b14k0, b14k1, b14k2, b14k3, b14k4, ↓reduceIte, reduceCtorEq, Nat.reduceEqDiff, Nat.reduceAdd, Nat.reduceMul, Nat.reduceSub, Nat.reduceLeDiff, Nat.reduceBEq, Int.reduceToNat, Int.reduceLE, Int.reduceLT, Int.reduceEq, Int.reduceNe, di]
  refine calls_of (c_Ints (a := flowK (admL x.pp) s s.F.length) (b := flowK (admL x.pp) s s.F.length) (by omega)) ?_; simp only [vaE, res14, b14k0, b14k1, b14k2, b14k3, b14k4, ↓reduceIte, reduceCtorEq, Nat.reduceEqDiff, Nat.reduceAdd, Nat.reduceMul, Nat.reduceSub, Nat.reduceLeDiff, Nat.reduceBEq, Int.reduceToNat, Int.reduceLE, Int.reduceLT, Int.reduceEq, Int.reduceNe, di]
  refine calls_of (r_Energy hxo hs (by omega) hF hL) ?_; simp only [vaE, res14, b14k0, b14k1, b14k2, b14k3, b14k4, ↓reduceIte, reduceCtorEq, Nat.reduceEqDiff, Nat.reduceAdd, Nat.reduceMul, Nat.reduceSub, Nat.reduceLeDiff, Nat.reduceBEq, Int.reduceToNat, Int.reduceLE, Int.reduceLT, Int.reduceEq, Int.reduceNe, di]
end Go.DI

