/- The statement WaveStates, as a contract. No condition. -/
import Derived.Test.YtadmimjaelodkaaWgf
import Derived.Test.YtadmimjaelodkaaWgg
set_option linter.unusedSimpArgs false
set_option maxRecDepth 100000
namespace Go.DI
open Go.Proofs Go.RowKit

/-- The admittance of each cell. -/
def admL : List Pp → List Int
  | [] => []
  | p :: r => List.replicate p.1.toNat p.2 ++ admL r
theorem admL_length : ∀ (l : List Pp), (∀ p ∈ l, 1 ≤ p.1 ∧ p.1 ≤ 6) → ((admL l).length : Int) = cellsN l
  | [], _ => rfl
  | p :: r, h => by
    have h1 := h p (by simp)
    have h2 := admL_length r fun q hq => h q (by simp [hq])
    simp only [admL, List.length_append, List.length_replicate, cellsN]
    omega
/-- What the iterator of admittances yields. -/
def adY : Nat → List Int → List (List IV)
  | _, [] => []
  | c, y :: r => [.int .i64 c, .int .i64 y] :: adY (c + 1) r
theorem adY_length : ∀ (c : Nat) (l : List Int), (adY c l).length = l.length
  | c, [] => rfl
  | c, y :: r => by simp [adY, adY_length (c + 1) r]
theorem adY_get : ∀ {l : List Int} {c n : Nat} {y : List IV}, (adY c l)[n]? = some y → n < l.length ∧ y = [.int .i64 (c + n : Nat), .int .i64 (l.getD n 0)]
  | [], c, n, y, h => by simp [adY] at h
  | v :: l, c, 0, y, h => by simp [adY] at h; exact ⟨by simp, by rw [← h]; simp⟩
  | v :: l, c, n + 1, y, h => by
    simp only [adY, List.getElem?_cons_succ] at h
    obtain ⟨h1, h2⟩ := adY_get h
    exact ⟨by simpa using h1, by rw [h2, List.getD_cons_succ, show c + 1 + n = c + (n + 1) by omega]⟩
theorem it_admittances {x : Ow} (hx : OwOk x) (l : Nat) :
    BC Try.prog 124 [.imm (owI x), .yld l] (lookR [(0, .seq l (false, some (adY 0 (admL x.pp))))]) fun _ R' => seqOver l false R' := by
  have hlen := hx.len
  have hall := cellsN_bd x.pp fun p hp => (hx.pip p hp).1
  refine bc_run Try.func124 k124 rfl rfl ?_
  simp only [body124, b124, res124, b124k0, b124k1, b124k2, b124k3, b124k4, vaE, ↓reduceIte, reduceCtorEq, Nat.reduceEqDiff, Nat.reduceAdd, Nat.reduceMul, Nat.reduceSub, Nat.reduceLeDiff, Nat.reduceBEq, Int.reduceToNat, Int.reduceLE, Int.reduceLT, Int.reduceEq, Int.reduceNe, di]
  refine loop_keep (α := Nat) rfl (fun k => x.pp.length - k) (fun k => k ≤ x.pp.length)
    (fun k => [(1, .yld l), (4, .imm (.int .i64 (cellsN (x.pp.take k)))), (9, .imm (.slc 2 (x.pp.map ppI))), (10, .imm (.int .i64 x.pp.length)), (11, .imm (.int .i64 k))])
    (fun k => [(0, .seq l (false, some (adY (cellsN (x.pp.take k)).toNat (admL (x.pp.drop k)))))]) 0 (Nat.zero_le _) (by simp only [vaE, ↓reduceIte, reduceCtorEq, Nat.reduceEqDiff, Nat.reduceAdd, Nat.reduceMul, Nat.reduceSub, Nat.reduceLeDiff, Nat.reduceBEq, Int.reduceToNat, Int.reduceLE, Int.reduceLT, Int.reduceEq, Int.reduceNe, di] <;> rfl) ?_
  intro k hk ih
  have hbk := cellsN_bd (x.pp.take k) fun p hp => (hx.pip p (List.mem_of_mem_take hp)).1
  have hct := cellsN_take x.pp k
  have hbd := cellsN_bd (x.pp.drop k) fun p hp => (hx.pip p (List.mem_of_mem_drop hp)).1
  simp only [res124, b124k0, b124k1, b124k2, b124k3, b124k4, vaE, ↓reduceIte, reduceCtorEq, Nat.reduceEqDiff, Nat.reduceAdd, Nat.reduceMul, Nat.reduceSub, Nat.reduceLeDiff, Nat.reduceBEq, Int.reduceToNat, Int.reduceLE, Int.reduceLT, Int.reduceEq, Int.reduceNe, di]
  split
  rotate_left
  · rename_i h
    have : k = x.pp.length := by omega
    subst this
    rw [List.drop_length, outD_nil res124]
    exact ⟨_, rfl, rfl, .inl ⟨rfl, rfl⟩⟩
  rename_i h
  have hlt : k < x.pp.length := by omega
  have hp := hx.pip _ (getD_mem (d := default) hlt)
  have hcs := cellsN_step hlt
  have hdr : x.pp.drop k = x.pp.getD k default :: x.pp.drop (k + 1) := idxF_drop hlt
  repeat (refine And.intro (by first | omega | exact all_int _ | (simp only [zeros_len, List.length_append, List.length_take, List.length_drop, List.length_set, List.length_cons, List.length_nil, List.length_map]; omega)) ?_)
  refine loop_keep (α := Nat) rfl (fun n => (x.pp.getD k default).1.toNat - n) (fun n => (n : Int) ≤ (x.pp.getD k default).1)
    (fun n => [(1, .yld l), (4, .imm (.int .i64 (cellsN (x.pp.take k) + n))), (6, .ref 6 0), (9, .imm (.slc 2 (x.pp.map ppI))), (10, .imm (.int .i64 x.pp.length)), (11, .imm (.int .i64 k)), (16, .imm (.int .i64 (x.pp.getD k default).1)), (17, .imm (.int .i64 n))])
    (fun n => [(0, .seq l (false, some (adY ((cellsN (x.pp.take k)).toNat + n) (List.replicate ((x.pp.getD k default).1.toNat - n) (x.pp.getD k default).2 ++ admL (x.pp.drop (k + 1)))))), (6, .box [.imm (.int .i64 (x.pp.getD k default).1), .imm (.int .i64 (x.pp.getD k default).2)])]) 0 (by omega) (by rw [hdr]; simp only [Int.add_zero, Nat.add_zero, Nat.sub_zero, admL, vaE, ↓reduceIte, reduceCtorEq, Nat.reduceEqDiff, Nat.reduceAdd, Nat.reduceMul, Nat.reduceSub, Nat.reduceLeDiff, Nat.reduceBEq, Int.reduceToNat, Int.reduceLE, Int.reduceLT, Int.reduceEq, Int.reduceNe, di] <;> rfl) ?_
  intro n hn ih2
  simp only [res124, b124k0, b124k1, b124k2, b124k3, b124k4, vaE, ↓reduceIte, reduceCtorEq, Nat.reduceEqDiff, Nat.reduceAdd, Nat.reduceMul, Nat.reduceSub, Nat.reduceLeDiff, Nat.reduceBEq, Int.reduceToNat, Int.reduceLE, Int.reduceLT, Int.reduceEq, Int.reduceNe, di]
  split
  rotate_left
  · rename_i h2
    have : n = (x.pp.getD k default).1.toNat := by omega
    subst this
    rw [wrap64 (n := (k : Int) + 1) (by omega) (by omega), Nat.sub_self]
    refine ih (k + 1) _ _ (by omega) (by omega) ?_
    rw [hcs, show cellsN (x.pp.take k) + (((x.pp.getD k default).1.toNat : Nat) : Int) = cellsN (x.pp.take k) + (x.pp.getD k default).1 by omega, show (cellsN (x.pp.take k)).toNat + (x.pp.getD k default).1.toNat = (cellsN (x.pp.take k) + (x.pp.getD k default).1).toNat by omega]
    simp only [vaE, ↓reduceIte, reduceCtorEq, Nat.reduceEqDiff, Nat.reduceAdd, Nat.reduceMul, Nat.reduceSub, Nat.reduceLeDiff, Nat.reduceBEq, Int.reduceToNat, Int.reduceLE, Int.reduceLT, Int.reduceEq, Int.reduceNe, di] <;> rfl
  rename_i h2
  rw [show (x.pp.getD k default).1.toNat - n = ((x.pp.getD k default).1.toNat - (n + 1)) + 1 by omega, List.replicate_succ, List.cons_append]
  have hcn : cellsN (x.pp.take k) + (n : Int) = (((cellsN (x.pp.take k)).toNat + n : Nat) : Int) := by omega
  rw [hcn]
  refine do_yield rfl rfl rfl ?_ ?_
  · intro _
    simp only [res124, b124k0, b124k1, b124k2, b124k3, b124k4, vaE, ↓reduceIte, reduceCtorEq, Nat.reduceEqDiff, Nat.reduceAdd, Nat.reduceMul, Nat.reduceSub, Nat.reduceLeDiff, Nat.reduceBEq, Int.reduceToNat, Int.reduceLE, Int.reduceLT, Int.reduceEq, Int.reduceNe, di]
    rw [wrap64 (n := (n : Int) + 1) (by omega) (by omega), wrap64 (by omega) (by omega)]
    refine ih2 (n + 1) _ _ (by omega) (by omega) ?_
    rw [show (((cellsN (x.pp.take k)).toNat + n : Nat) : Int) + 1 = cellsN (x.pp.take k) + ((n + 1 : Nat) : Int) by omega]
    simp only [vaE, ↓reduceIte, reduceCtorEq, Nat.reduceEqDiff, Nat.reduceAdd, Nat.reduceMul, Nat.reduceSub, Nat.reduceLeDiff, Nat.reduceBEq, Int.reduceToNat, Int.reduceLE, Int.reduceLT, Int.reduceEq, Int.reduceNe, di] <;> rfl
  · simp only [res124, b124k0, b124k1, b124k2, b124k3, b124k4, vaE, ↓reduceIte, reduceCtorEq, Nat.reduceEqDiff, Nat.reduceAdd, Nat.reduceMul, Nat.reduceSub, Nat.reduceLeDiff, Nat.reduceBEq, Int.reduceToNat, Int.reduceLE, Int.reduceLT, Int.reduceEq, Int.reduceNe, di]
    rw [outD_nil res124]
    exact ⟨_, rfl, rfl, .inr rfl⟩

def enK (ys : List Int) (s : Ws) : Nat → Int
  | 0 => 0
  | k + 1 => W6 (enK ys s k + W6 (W6 (2 * ys.getD k 0) * W6 (W6 (s.F.getD k 0 * s.F.getD k 0) + W6 (s.B.getD k 0 * s.B.getD k 0))))
def enA (ar : List Int) (s : Ws) (e : Int) : Nat → Int
  | 0 => e
  | k + 1 => W6 (enA ar s e k + W6 (W6 (ar.getD k 0 * s.L.getD k 0) * s.L.getD k 0))
/-- The energy of a state. -/
def enS (x : Ow) (s : Ws) : Int := enA x.ar s (enK (admL x.pp) s x.n.toNat) x.ar.length

def enZ (x : Ln) (s : Ws) : Int := if stE x s = 0 then enS (opn x) s else 0
theorem w_EnergyOf {x : Ln} {s : Ws} (hx : Few x) (hs : FewS s) : Contract Try.prog 65 [lnI x, wsI s] (.tup [.int .i64 (enZ x s), .int .i64 (stE x s)]) := by
  refine contract_run Try.func65 k65 rfl ?_
  simp only [body65, b65, res65, b65k0, b65k1, b65k2, b65k3, vaE, ↓reduceIte, reduceCtorEq, Nat.reduceEqDiff, Nat.reduceAdd, Nat.reduceMul, Nat.reduceSub, Nat.reduceLeDiff, Nat.reduceBEq, Int.reduceToNat, Int.reduceLE, Int.reduceLT, Int.reduceEq, Int.reduceNe, di]
  refine calls_of (w_openState hx hs) ?_; simp only [vaE, res65, b65k0, b65k1, b65k2, b65k3, ↓reduceIte, reduceCtorEq, Nat.reduceEqDiff, Nat.reduceAdd, Nat.reduceMul, Nat.reduceSub, Nat.reduceLeDiff, Nat.reduceBEq, Int.reduceToNat, Int.reduceLE, Int.reduceLT, Int.reduceEq, Int.reduceNe, di]
  unfold enZ
  by_cases h0 : stE x s = 0
  rotate_left
  · simp only [h0, vaE, ↓reduceIte, reduceCtorEq, Nat.reduceEqDiff, Nat.reduceAdd, Nat.reduceMul, Nat.reduceSub, Nat.reduceLeDiff, Nat.reduceBEq, Int.reduceToNat, Int.reduceLE, Int.reduceLT, Int.reduceEq, Int.reduceNe, di]
  simp only [h0, vaE, ↓reduceIte, reduceCtorEq, Nat.reduceEqDiff, Nat.reduceAdd, Nat.reduceMul, Nat.reduceSub, Nat.reduceLeDiff, Nat.reduceBEq, Int.reduceToNat, Int.reduceLE, Int.reduceLT, Int.reduceEq, Int.reduceNe, di]
  have hz := stE_zero.1 h0
  have hf := hz.2.f
  have hb := hz.2.b
  have hL := hz.2.l
  have how := opn_ok hz.1
  have hox : opnE x = opn x := by unfold opnE; rw [if_pos (chkL_ok.2 hz.1)]
  have hal := admL_length x.pp fun p hp => (hz.1.pip p hp).1
  have hcn : (opn x).n = cellsN x.pp := rfl
  have har : (opn x).ar = x.ar := rfl
  have hF := hs.1
  have hLL := hs.2.2
  rw [hox]
  refine range_plain (gf := 124) (first := [owI (opn x)]) (caps := []) (adY 0 (admL x.pp)) false rfl rfl (it_admittances how) (by
      intro y hy
      obtain ⟨n, hn⟩ := List.getElem?_of_mem hy
      rw [(adY_get hn).2]; rfl) rfl (fun n (y : Nat) => y = n) (fun y => [(2, .box [.imm (.slc 2 (x.pp.map ppI)), .imm (nI x.ar)]), (3, .box [.imm (nI s.F), .imm (nI s.B), .imm (nI s.L)]), (8, .box [.imm (.int .i64 (enK (admL x.pp) s y))])]) 0 rfl (by rw [keepRes_look]; simp only [vaE, ↓reduceIte, reduceCtorEq, Nat.reduceEqDiff, Nat.reduceAdd, Nat.reduceMul, Nat.reduceSub, Nat.reduceLeDiff, Nat.reduceBEq, Int.reduceToNat, Int.reduceLE, Int.reduceLT, Int.reduceEq, Int.reduceNe, di] <;> rfl) ?_ ?_
  · rintro n y m hy rfl
    obtain ⟨hm, rfl⟩ := adY_get hy
    simp only [b65a0, b65r0, b65l1, Nat.zero_add, vaE, ↓reduceIte, reduceCtorEq, Nat.reduceEqDiff, Nat.reduceAdd, Nat.reduceMul, Nat.reduceSub, Nat.reduceLeDiff, Nat.reduceBEq, Int.reduceToNat, Int.reduceLE, Int.reduceLT, Int.reduceEq, Int.reduceNe, di]
    repeat (refine And.intro (by first | omega | exact all_int _ | (simp only [zeros_len, List.length_append, List.length_take, List.length_drop, List.length_set, List.length_cons, List.length_nil, List.length_map]; omega)) ?_)
    exact ⟨m + 1, rfl, rfl⟩
  · intro y _ hy
    have hye : y = s.F.length := by rw [hy, adY_length]; omega
    rw [hye]
    simp only [res65, b65k0, b65k1, b65k2, b65k3, vaE, ↓reduceIte, reduceCtorEq, Nat.reduceEqDiff, Nat.reduceAdd, Nat.reduceMul, Nat.reduceSub, Nat.reduceLeDiff, Nat.reduceBEq, Int.reduceToNat, Int.reduceLE, Int.reduceLT, Int.reduceEq, Int.reduceNe, di]
    refine loop_keep (α := Nat) rfl (fun j => s.L.length - j) (fun j => j ≤ s.L.length)
      (fun j => [(2, .ref 2 0), (8, .ref 8 0), (55, .imm (nI s.L)), (56, .imm (.int .i64 s.L.length)), (57, .imm (.int .i64 j))])
      (fun j => [(2, .box [.imm (.slc 2 (x.pp.map ppI)), .imm (nI x.ar)]), (8, .box [.imm (.int .i64 (enA x.ar s (enK (admL x.pp) s s.F.length) j))])]) 0 (Nat.zero_le _) (by simp only [enA, vaE, ↓reduceIte, reduceCtorEq, Nat.reduceEqDiff, Nat.reduceAdd, Nat.reduceMul, Nat.reduceSub, Nat.reduceLeDiff, Nat.reduceBEq, Int.reduceToNat, Int.reduceLE, Int.reduceLT, Int.reduceEq, Int.reduceNe, di] <;> rfl) ?_
    intro j hj ih2
    simp only [res65, b65k0, b65k1, b65k2, b65k3, vaE, ↓reduceIte, reduceCtorEq, Nat.reduceEqDiff, Nat.reduceAdd, Nat.reduceMul, Nat.reduceSub, Nat.reduceLeDiff, Nat.reduceBEq, Int.reduceToNat, Int.reduceLE, Int.reduceLT, Int.reduceEq, Int.reduceNe, di]
    split
    · rename_i h2
      rw [har] at hL
      repeat (refine And.intro (by first | omega | exact all_int _ | (simp only [zeros_len, List.length_append, List.length_take, List.length_drop, List.length_set, List.length_cons, List.length_nil, List.length_map]; omega)) ?_)
      rw [wrap64 (n := (j : Int) + 1) (by omega) (by omega)]
      exact ih2 (j + 1) _ _ (by omega) (by omega) (by simp only [enA, vaE, ↓reduceIte, reduceCtorEq, Nat.reduceEqDiff, Nat.reduceAdd, Nat.reduceMul, Nat.reduceSub, Nat.reduceLeDiff, Nat.reduceBEq, Int.reduceToNat, Int.reduceLE, Int.reduceLT, Int.reduceEq, Int.reduceNe, di] <;> rfl)
    · rename_i h2
      unfold enS
      rw [show (opn x).ar.length = j by omega, show (opn x).n.toNat = s.F.length by omega]
      rfl
end Go.DI

