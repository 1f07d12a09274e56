/- Contracts of laws. No condition. -/
import Derived.Test.YtadmimjaelodkaaWoGg
/- Contracts: the run of a law, as an iterator, and what reads it. No condition. -/
set_option linter.unusedSimpArgs false
set_option maxRecDepth 100000
namespace Go.DI
open Go.Proofs Go.RowKit

theorem w_run {x : Ow} {law : List Int} : Contract Try.prog 96 [owI x, nI law] (.func 148 [] [.ptr (owI x), .ptr (.agg [nI law])]) := by
 refine contract_run Try.func96 k96 rfl ?_
 simp only [body96, b96, res96, vaE, ↓reduceIte, reduceCtorEq, Nat.reduceEqDiff, Nat.reduceAdd, Nat.reduceMul, Nat.reduceSub, Nat.reduceLeDiff, Nat.reduceBEq, Int.reduceToNat, Int.reduceLE, Int.reduceLT, Int.reduceEq, Int.reduceNe, di]
def runY (x : Ow) (law : List Int) : Nat → Nat → List (List IV)
 | _, 0 => []
 | t, k + 1 => [.int .i64 (valve x law t), wsI (lawS x law (t + 1))] :: runY x law (t + 1) k
theorem runY_get {x : Ow} {law : List Int} : ∀ {k t n : Nat} {y : List IV}, (runY x law t k)[n]? = some y → n < k ∧ y = [.int .i64 (valve x law (t + n)), wsI (lawS x law (t + n + 1))]
 | 0, t, n, y, h => by simp [runY] at h
 | k + 1, t, 0, y, h => by simp [runY] at h; exact ⟨by omega, by rw [← h]; rfl⟩
 | k + 1, t, n + 1, y, h => by
  simp only [runY, List.getElem?_cons_succ] at h
  obtain ⟨h1, h2⟩ := runY_get h
  exact ⟨by omega, by rw [h2, show t + 1 + n = t + (n + 1) by omega]⟩
theorem runY_length {x : Ow} {law : List Int} : ∀ (k t : Nat), (runY x law t k).length = k
 | 0, t => rfl
 | k + 1, t => by simp [runY, runY_length k]

theorem it_run {x : Ow} {law : List Int} (hx : OwOk x) (hl : law.length ≤ 1000000) {k : Nat} (hk : 1 ≤ k ∧ k ≤ 100000) (l : Nat) :
  BC Try.prog 148 [.yld l, .imm (.ptr (owI x)), .imm (.ptr (.agg [nI law]))] (lookR [(0, .seq l (true, some (runY x law 0 k)))]) fun _ R' => seqOver l true R' := by
 have hn := hx.nb
 have hars := hx.ars
 have hlen := hx.len
 refine bc_run Try.func148 k148 rfl rfl ?_
 simp only [body148, b148, res148, b148k0, vaE, ↓reduceIte, reduceCtorEq, Nat.reduceEqDiff, Nat.reduceAdd, Nat.reduceMul, Nat.reduceSub, Nat.reduceLeDiff, Nat.reduceBEq, Int.reduceToNat, Int.reduceLE, Int.reduceLT, Int.reduceEq, Int.reduceNe, di]
 refine calls_of (w_rest (x := x) (by omega) (by omega)) ?_; simp only [vaE, res148, b148k0, ↓reduceIte, reduceCtorEq, Nat.reduceEqDiff, Nat.reduceAdd, Nat.reduceMul, Nat.reduceSub, Nat.reduceLeDiff, Nat.reduceBEq, Int.reduceToNat, Int.reduceLE, Int.reduceLT, Int.reduceEq, Int.reduceNe, di]
 refine loop_keep (α := Nat) rfl (fun t => k - t) (fun t => t < k)
  (fun t => [(0, .yld l), (1, .imm (.ptr (owI x))), (2, .imm (.ptr (.agg [nI law]))), (4, .ref 4 0), (5, .imm (.int .i64 t))])
  (fun t => [(0, .seq l (true, some (runY x law t (k - t)))), (4, .box [.imm (nI (lawS x law t).F), .imm (nI (lawS x law t).B), .imm (nI (lawS x law t).L)])]) 0 (by omega) (by simp only [vaE, ↓reduceIte, reduceCtorEq, Nat.reduceEqDiff, Nat.reduceAdd, Nat.reduceMul, Nat.reduceSub, Nat.reduceLeDiff, Nat.reduceBEq, Int.reduceToNat, Int.reduceLE, Int.reduceLT, Int.reduceEq, Int.reduceNe, di] <;> rfl) ?_
 intro t ht ih
 have hsh := sh_law hn.1 (law := law) t
 have hf := hsh.f
 simp only [res148, b148k0, vaE, ↓reduceIte, reduceCtorEq, Nat.reduceEqDiff, Nat.reduceAdd, Nat.reduceMul, Nat.reduceSub, Nat.reduceLeDiff, Nat.reduceBEq, Int.reduceToNat, Int.reduceLE, Int.reduceLT, Int.reduceEq, Int.reduceNe, di]
 refine calls_of (w_at (law := law) (t := t) hl (by omega)) ?_; simp only [vaE, res148, b148k0, ↓reduceIte, reduceCtorEq, Nat.reduceEqDiff, Nat.reduceAdd, Nat.reduceMul, Nat.reduceSub, Nat.reduceLeDiff, Nat.reduceBEq, Int.reduceToNat, Int.reduceLE, Int.reduceLT, Int.reduceEq, Int.reduceNe, di]
 refine calls_of (w_last (x := x) (by omega)) ?_; simp only [vaE, res148, b148k0, ↓reduceIte, reduceCtorEq, Nat.reduceEqDiff, Nat.reduceAdd, Nat.reduceMul, Nat.reduceSub, Nat.reduceLeDiff, Nat.reduceBEq, Int.reduceToNat, Int.reduceLE, Int.reduceLT, Int.reduceEq, Int.reduceNe, di]
 repeat (refine And.intro (by first | omega | exact all_int _ | (simp only [zeros_len, List.length_append, List.length_take, List.length_drop, List.length_set, List.length_cons, List.length_nil, List.length_map]; omega)) ?_)
 rw [show (x.n - 1).toNat = x.n.toNat - 1 by omega]
 refine calls_of (w_stepped (s := lawS x law t) (c := atL law t) hx hsh) ?_; simp only [vaE, res148, b148k0, ↓reduceIte, reduceCtorEq, Nat.reduceEqDiff, Nat.reduceAdd, Nat.reduceMul, Nat.reduceSub, Nat.reduceLeDiff, Nat.reduceBEq, Int.reduceToNat, Int.reduceLE, Int.reduceLT, Int.reduceEq, Int.reduceNe, di]
 rw [show k - t = (k - (t + 1)) + 1 by omega]
 refine do_yield rfl rfl rfl ?_ ?_
 ·intro hr
  have hne := hr rfl
  have hlt : t + 1 < k := by
   rcases Nat.lt_or_ge (t + 1) k with h | h
   ·exact h
   ·exfalso
    apply hne
    rw [show k - (t + 1) = 0 by omega]
    rfl
  simp only [res148, b148k0, vaE, ↓reduceIte, reduceCtorEq, Nat.reduceEqDiff, Nat.reduceAdd, Nat.reduceMul, Nat.reduceSub, Nat.reduceLeDiff, Nat.reduceBEq, Int.reduceToNat, Int.reduceLE, Int.reduceLT, Int.reduceEq, Int.reduceNe, di]
  rw [wrap64 (by omega) (by omega)]
  exact ih (t + 1) _ _ (by omega) hlt (by simp only [vaE, ↓reduceIte, reduceCtorEq, Nat.reduceEqDiff, Nat.reduceAdd, Nat.reduceMul, Nat.reduceSub, Nat.reduceLeDiff, Nat.reduceBEq, Int.reduceToNat, Int.reduceLE, Int.reduceLT, Int.reduceEq, Int.reduceNe, di] <;> rfl)
 ·simp only [res148, b148k0, vaE, ↓reduceIte, reduceCtorEq, Nat.reduceEqDiff, Nat.reduceAdd, Nat.reduceMul, Nat.reduceSub, Nat.reduceLeDiff, Nat.reduceBEq, Int.reduceToNat, Int.reduceLE, Int.reduceLT, Int.reduceEq, Int.reduceNe, di]
  rw [outD_nil res148]
  exact ⟨_, rfl, rfl, .inr rfl⟩

theorem w_ValvePressures {x : Ln} {law : List Int} {t : Int} (hx : Few x) (hl : law.length ≤ 1000000) : Contract Try.prog 39 [lnI x, nI law, .int .i64 t] (if lawRunE x law t = 0 then .tup [nI (valveL (opn x) law t.toNat), .int .i64 0] else .tup [nI [], .int .i64 (lawRunE x law t)]) := by
 refine contract_run Try.func39 k39 rfl ?_
 simp only [body39, b39, res39, b39k0, b39k1, vaE, ↓reduceIte, reduceCtorEq, Nat.reduceEqDiff, Nat.reduceAdd, Nat.reduceMul, Nat.reduceSub, Nat.reduceLeDiff, Nat.reduceBEq, Int.reduceToNat, Int.reduceLE, Int.reduceLT, Int.reduceEq, Int.reduceNe, di]
 refine calls_of (w_openRun hx hl) ?_; simp only [vaE, res39, b39k0, b39k1, ↓reduceIte, reduceCtorEq, Nat.reduceEqDiff, Nat.reduceAdd, Nat.reduceMul, Nat.reduceSub, Nat.reduceLeDiff, Nat.reduceBEq, Int.reduceToNat, Int.reduceLE, Int.reduceLT, Int.reduceEq, Int.reduceNe, di]
 split
 rotate_left
 ·rfl
 rename_i h0
 have hz := lawRunE_zero.1 h0
 have hox : opnE x = opn x := by unfold opnE; rw [if_pos (chkL_ok.2 hz.1)]
 have how := opn_ok hz.1
 rw [hox]
 refine calls_of (w_run (x := opn x) (law := law)) ?_; simp only [vaE, res39, b39k0, b39k1, ↓reduceIte, reduceCtorEq, Nat.reduceEqDiff, Nat.reduceAdd, Nat.reduceMul, Nat.reduceSub, Nat.reduceLeDiff, Nat.reduceBEq, Int.reduceToNat, Int.reduceLE, Int.reduceLT, Int.reduceEq, Int.reduceNe, di]
 refine range_plain (gf := 148) (first := []) (caps := [.ptr (owI (opn x)), .ptr (.agg [nI law])]) (runY (opn x) law 0 t.toNat) true rfl rfl (it_run how hl (by omega)) (by
   intro y hy
   obtain ⟨n, hn⟩ := List.getElem?_of_mem hy
   rw [(runY_get hn).2]; rfl) rfl (fun n (y : Nat) => y = n ∧ n < t.toNat) (fun y => [(5, .box [.imm (.int .i64 t)]), (10, .box [.own 1010]), (1010, .tok 1 ((valveL (opn x) law y).map (IV.int .i64)))]) 0 ⟨rfl, by omega⟩ (by rw [keepRes_look]; simp only [↓reduceIte, reduceCtorEq, Nat.reduceEqDiff, Nat.reduceAdd, Nat.reduceMul, Nat.reduceSub, Nat.reduceLeDiff, Nat.reduceBEq, Int.reduceToNat, Int.reduceLE, Int.reduceLT, Int.reduceEq, Int.reduceNe, di] <;> rfl) ?_ ?_
 ·rintro n y m hy ⟨rfl, hn⟩
  obtain ⟨_, rfl⟩ := runY_get hy
  have hvl := valveL_length (x := opn x) (law := law) (k := m)
  simp only [b39a0, b39r0, vaE, ↓reduceIte, reduceCtorEq, Nat.reduceEqDiff, Nat.reduceAdd, Nat.reduceMul, Nat.reduceSub, Nat.reduceLeDiff, Nat.reduceBEq, Int.reduceToNat, Int.reduceLE, Int.reduceLT, Int.reduceEq, Int.reduceNe, di]
  repeat (refine And.intro (by first | omega | exact all_int _ | (simp only [zeros_len, List.length_append, List.length_take, List.length_drop, List.length_set, List.length_cons, List.length_nil, List.length_map]; omega)) ?_)
  rw [Nat.zero_add, ← valveL_succ, valveL_length]
  split
  ·rename_i h
   rw [show t.toNat = m + 1 by omega]
   rfl
  ·exact ⟨m + 1, ⟨rfl, by omega⟩, rfl, by rw [runY_length]; omega⟩
 ·intro y h; cases h

theorem w_beyond {x : Ow} {law : List Int} {t : Tk} (hx : OwOk x) (hl : law.length ≤ 1000000) (ht : 1 ≤ t.ti ∧ t.ti ≤ 200) : Contract Try.prog 111 [owI x, nI law, tkI t] (.int .i64 (beyN x law t)) := by
 refine contract_run Try.func111 k111 rfl ?_
 simp only [body111, b111, res111, b111k0, b111k1, vaE, ↓reduceIte, reduceCtorEq, Nat.reduceEqDiff, Nat.reduceAdd, Nat.reduceMul, Nat.reduceSub, Nat.reduceLeDiff, Nat.reduceBEq, Int.reduceToNat, Int.reduceLE, Int.reduceLT, Int.reduceEq, Int.reduceNe, di]
 refine calls_of (w_run (x := x) (law := law)) ?_; simp only [vaE, res111, b111k0, b111k1, ↓reduceIte, reduceCtorEq, Nat.reduceEqDiff, Nat.reduceAdd, Nat.reduceMul, Nat.reduceSub, Nat.reduceLeDiff, Nat.reduceBEq, Int.reduceToNat, Int.reduceLE, Int.reduceLT, Int.reduceEq, Int.reduceNe, di]
 refine range_plain (gf := 148) (first := []) (caps := [.ptr (owI x), .ptr (.agg [nI law])]) (runY x law 0 (t.ti.toNat + 1)) true rfl rfl (it_run hx hl (by omega)) (by
   intro y hy
   obtain ⟨n, hn⟩ := List.getElem?_of_mem hy
   rw [(runY_get hn).2]; rfl) rfl (fun n (y : Nat) => y = n ∧ Seek (outP t.lo t.hi) (valveL x law t.ti.toNat) n) (fun y => [(5, .box [.imm (.int .i64 t.cl), .imm (.int .i64 t.mo), .imm (.int .i64 t.ti), .imm (.int .i64 t.lo), .imm (.int .i64 t.hi)]), (7, .box [.imm (.int .i64 y)])]) 0 ⟨rfl, seek_zero⟩ (by rw [keepRes_look]; simp only [↓reduceIte, reduceCtorEq, Nat.reduceEqDiff, Nat.reduceAdd, Nat.reduceMul, Nat.reduceSub, Nat.reduceLeDiff, Nat.reduceBEq, Int.reduceToNat, Int.reduceLE, Int.reduceLT, Int.reduceEq, Int.reduceNe, di] <;> rfl) ?_ ?_
 ·rintro n y m hy ⟨rfl, hk⟩
  obtain ⟨_, rfl⟩ := runY_get hy
  have hvl := valveL_length (x := x) (law := law) (k := t.ti.toNat)
  have hm := hk.1
  simp only [b111a0, b111r0, vaE, ↓reduceIte, reduceCtorEq, Nat.reduceEqDiff, Nat.reduceAdd, Nat.reduceMul, Nat.reduceSub, Nat.reduceLeDiff, Nat.reduceBEq, Int.reduceToNat, Int.reduceLE, Int.reduceLT, Int.reduceEq, Int.reduceNe, di]
  split
  ·rename_i h
   have hme : m = (valveL x law t.ti.toNat).length := by omega
   have hno : idxF (outP t.lo t.hi) (valveL x law t.ti.toNat) = -1 := seek_end (by rw [← hme]; exact hk)
   unfold beyN
   rw [if_pos hno, ← h]
   rfl
  rename_i h
  have hlt : m < t.ti.toNat := by omega
  rw [Nat.zero_add]
  refine calls_of w_within ?_; simp only [vaE, res111, b111k0, b111k1, ↓reduceIte, reduceCtorEq, Nat.reduceEqDiff, Nat.reduceAdd, Nat.reduceMul, Nat.reduceSub, Nat.reduceLeDiff, Nat.reduceBEq, Int.reduceToNat, Int.reduceLE, Int.reduceLT, Int.reduceEq, Int.reduceNe, di]
  by_cases h1 : t.lo ≤ valve x law m ∧ valve x law m ≤ t.hi
  ·simp only [h1, b111a0, b111r0, vaE, ↓reduceIte, reduceCtorEq, Nat.reduceEqDiff, Nat.reduceAdd, Nat.reduceMul, Nat.reduceSub, Nat.reduceLeDiff, Nat.reduceBEq, Int.reduceToNat, Int.reduceLE, Int.reduceLT, Int.reduceEq, Int.reduceNe, di]
   rw [wrap64 (by omega) (by omega)]
   exact ⟨m + 1, ⟨rfl, seek_step hk (by omega) (by rw [valveL_get hlt]; simp [outP, h1])⟩, rfl, by rw [runY_length]; omega⟩
  ·simp only [h1, b111a0, b111r0, res111, b111k0, b111k1, vaE, ↓reduceIte, reduceCtorEq, Nat.reduceEqDiff, Nat.reduceAdd, Nat.reduceMul, Nat.reduceSub, Nat.reduceLeDiff, Nat.reduceBEq, Int.reduceToNat, Int.reduceLE, Int.reduceLT, Int.reduceEq, Int.reduceNe, di]
   have hit := seek_hit hk (by omega) (by rw [valveL_get hlt]; simp only [outP, h1, decide_false, Bool.not_false])
   unfold beyN
   rw [hit, if_neg (by omega)]
 ·intro y h; cases h

end Go.DI

/- Contracts: the fastest law. No condition. -/
set_option linter.unusedSimpArgs false
set_option maxRecDepth 100000
namespace Go.DI
open Go.Proofs Go.RowKit

def outC : List Int → DV
 | [] => .nils 1
 | n :: l => .imm (nI (n :: l))

theorem keep_outC {l : List Int} {ids : List Nat} : DV.keep ids (outC l) = outC l := by cases l <;> rfl
theorem b_fast1 {x : Ow} {t : Tk} {law : List Int} (hx : OwOk x) (hl : law.length ≤ 1000000) (h0 : law ≠ []) (ht : 1 ≤ t.ti ∧ t.ti ≤ 200) :
  BC Try.prog 110 [.imm (nI law), .pim (owI x), .pim (tkI t), .ref 1008 0] (lookR [(1008, .box [.nils 1])]) fun r R' =>
   (keeps x t law = true ∧ r = .imm (.bool false) ∧ R' = lookR [(1008, .box [outC law])]) ∨ (keeps x t law = false ∧ r = .imm (.bool true) ∧ R' = lookR [(1008, .box [.nils 1])]) := by
 obtain ⟨n, l, rfl⟩ : ∃ n l, law = n :: l := by
  cases law with
  | nil => exact absurd rfl h0
  | cons n l => exact ⟨n, l, rfl⟩
 refine bc_run Try.func110 k110 rfl rfl ?_
 simp only [body110, b110, res110, b110k0, outC, vaE, ↓reduceIte, reduceCtorEq, Nat.reduceEqDiff, Nat.reduceAdd, Nat.reduceMul, Nat.reduceSub, Nat.reduceLeDiff, Nat.reduceBEq, Int.reduceToNat, Int.reduceLE, Int.reduceLT, Int.reduceEq, Int.reduceNe, di]
 refine calls_of (w_beyond (x := x) (law := n :: l) (t := t) hx hl ht) ?_; simp only [vaE, res110, b110k0, ↓reduceIte, reduceCtorEq, Nat.reduceEqDiff, Nat.reduceAdd, Nat.reduceMul, Nat.reduceSub, Nat.reduceLeDiff, Nat.reduceBEq, Int.reduceToNat, Int.reduceLE, Int.reduceLT, Int.reduceEq, Int.reduceNe, di]
 unfold keeps
 split
 ·rename_i h
  rw [outD_one res110, getD_tmp]
  exact ⟨_, rfl, rfl, .inl ⟨by simp [h], rfl⟩⟩
 ·rename_i h
  rw [outD_one res110, getD_tmp]
  exact ⟨_, rfl, rfl, .inr ⟨by simp [h], rfl⟩⟩

def yieldV (x : Ow) (t : Tk) : DV := .fn 110 [] [.pim (owI x), .pim (tkI t), .ref 1008 0]
def foundQ (x : Ow) (t : Tk) (ls : List (List Int)) (r : DV) (R' : Nat → Option Res) : Prop :=
 (∃ l, ls.find? (keeps x t) = some l ∧ r = .imm (.bool false) ∧ R' = lookR [(1008, .box [outC l])]) ∨ (ls.find? (keeps x t) = none ∧ r = .imm (.bool true) ∧ R' = lookR [(1008, .box [.nils 1])])

theorem b_laws {x : Ow} {t : Tk} (hx : OwOk x) (ht : 1 ≤ t.ti ∧ t.ti ≤ 200) {g : Int} (hg : 0 ≤ g ∧ g ≤ 1000) : ∀ (m : Nat) (law : List Int), law.length + m ≤ 1000 → (∀ n ∈ law, 0 ≤ n ∧ n ≤ g) →
  BC Try.prog 109 [.imm (nI law), .imm (.int .i64 ((m : Int) + 1)), .imm (.int .i64 g), yieldV x t] (lookR [(1008, .box [.nils 1])]) (foundQ x t (lawsL g m law))
 | 0, law, hm, hb => by
  have one : ∀ r R', ((keeps x t (law ++ [g]) = true ∧ r = DV.imm (.bool false) ∧ R' = lookR [(1008, .box [outC (law ++ [g])])]) ∨ (keeps x t (law ++ [g]) = false ∧ r = .imm (.bool true) ∧ R' = lookR [(1008, .box [.nils 1])])) → foundQ x t (lawsL g 0 law) r R' := by
   intro r R' h
   unfold foundQ lawsL
   rcases h with ⟨hk, h1, h2⟩ | ⟨hk, h1, h2⟩
   ·exact .inl ⟨_, by simp [hk], h1, h2⟩
   ·exact .inr ⟨by simp [hk], h1, h2⟩
  refine bc_run Try.func109 k109 rfl rfl ?_
  simp only [body109, b109, res109, b109k0, b109k1, b109k2, b109k3, yieldV, vaE, ↓reduceIte, reduceCtorEq, Nat.reduceEqDiff, Nat.reduceAdd, Nat.reduceMul, Nat.reduceSub, Nat.reduceLeDiff, Nat.reduceBEq, Int.reduceToNat, Int.reduceLE, Int.reduceLT, Int.reduceEq, Int.reduceNe, di]
  rw [if_pos (by omega)]
  refine do_lend rfl (by rw [restr_look]; exact b_Clone (l := law) (by omega)) rfl rfl ?_
  rintro r R' (⟨rfl, rfl, rfl⟩ | ⟨rfl, rfl⟩)
  ·refine ⟨_, rfl, rfl, ?_⟩
   simp only [res109, b109k0, b109k1, b109k2, b109k3, List.nil_append, vaE, ↓reduceIte, reduceCtorEq, Nat.reduceEqDiff, Nat.reduceAdd, Nat.reduceMul, Nat.reduceSub, Nat.reduceLeDiff, Nat.reduceBEq, Int.reduceToNat, Int.reduceLE, Int.reduceLT, Int.reduceEq, Int.reduceNe, di]
   repeat (refine And.intro (by first | omega | exact all_int _ | (simp only [zeros_len, List.length_append, List.length_take, List.length_drop, List.length_set, List.length_cons, List.length_nil, List.length_map]; omega)) ?_)
   refine do_lend rfl (by rw [restr_look]; exact b_fast1 (x := x) (t := t) (law := [g]) hx (by simp) (by simp) ht) rfl rfl ?_
   rintro r R' h
   have hq := one r R' h
   rcases h with ⟨hk, rfl, rfl⟩ | ⟨hk, rfl, rfl⟩
   ·refine ⟨_, rfl, rfl, ?_⟩
    simp only [res109, b109k0, b109k1, b109k2, b109k3, keep_outC, vaE, ↓reduceIte, reduceCtorEq, Nat.reduceEqDiff, Nat.reduceAdd, Nat.reduceMul, Nat.reduceSub, Nat.reduceLeDiff, Nat.reduceBEq, Int.reduceToNat, Int.reduceLE, Int.reduceLT, Int.reduceEq, Int.reduceNe, di]
    rw [outD_one res109, getD_tmp]
    exact ⟨_, rfl, rfl, hq⟩
   ·refine ⟨_, rfl, rfl, ?_⟩
    simp only [res109, b109k0, b109k1, b109k2, b109k3, keep_outC, vaE, ↓reduceIte, reduceCtorEq, Nat.reduceEqDiff, Nat.reduceAdd, Nat.reduceMul, Nat.reduceSub, Nat.reduceLeDiff, Nat.reduceBEq, Int.reduceToNat, Int.reduceLE, Int.reduceLT, Int.reduceEq, Int.reduceNe, di]
    rw [outD_one res109, getD_tmp]
    exact ⟨_, rfl, rfl, hq⟩
  ·refine ⟨_, rfl, rfl, ?_⟩
   simp only [res109, b109k0, b109k1, b109k2, b109k3, vaE, ↓reduceIte, reduceCtorEq, Nat.reduceEqDiff, Nat.reduceAdd, Nat.reduceMul, Nat.reduceSub, Nat.reduceLeDiff, Nat.reduceBEq, Int.reduceToNat, Int.reduceLE, Int.reduceLT, Int.reduceEq, Int.reduceNe, di]
   repeat (refine And.intro (by first | omega | exact all_int _ | (simp only [zeros_len, List.length_append, List.length_take, List.length_drop, List.length_set, List.length_cons, List.length_nil, List.length_map]; omega)) ?_)
   refine do_lend rfl (by rw [restr_look]; exact b_fast1 (x := x) (t := t) (law := law ++ [g]) hx (by simp; omega) (by simp) ht) rfl rfl ?_
   rintro r R' h
   have hq := one r R' h
   rcases h with ⟨hk, rfl, rfl⟩ | ⟨hk, rfl, rfl⟩
   ·refine ⟨_, rfl, rfl, ?_⟩
    simp only [res109, b109k0, b109k1, b109k2, b109k3, keep_outC, vaE, ↓reduceIte, reduceCtorEq, Nat.reduceEqDiff, Nat.reduceAdd, Nat.reduceMul, Nat.reduceSub, Nat.reduceLeDiff, Nat.reduceBEq, Int.reduceToNat, Int.reduceLE, Int.reduceLT, Int.reduceEq, Int.reduceNe, di]
    rw [outD_one res109, getD_tmp]
    exact ⟨_, rfl, rfl, hq⟩
   ·refine ⟨_, rfl, rfl, ?_⟩
    simp only [res109, b109k0, b109k1, b109k2, b109k3, keep_outC, vaE, ↓reduceIte, reduceCtorEq, Nat.reduceEqDiff, Nat.reduceAdd, Nat.reduceMul, Nat.reduceSub, Nat.reduceLeDiff, Nat.reduceBEq, Int.reduceToNat, Int.reduceLE, Int.reduceLT, Int.reduceEq, Int.reduceNe, di]
    rw [outD_one res109, getD_tmp]
    exact ⟨_, rfl, rfl, hq⟩
 | m + 1, law, hm, hb => by
  have ha := atL_bd hg.1 hb law.length
  refine bc_run Try.func109 k109 rfl rfl ?_
  simp only [body109, b109, res109, b109k0, b109k1, b109k2, b109k3, yieldV, vaE, ↓reduceIte, reduceCtorEq, Nat.reduceEqDiff, Nat.reduceAdd, Nat.reduceMul, Nat.reduceSub, Nat.reduceLeDiff, Nat.reduceBEq, Int.reduceToNat, Int.reduceLE, Int.reduceLT, Int.reduceEq, Int.reduceNe, di]
  rw [if_neg (by omega)]
  refine calls_of (w_at (law := law) (t := law.length) (by omega) (by omega)) ?_; simp only [vaE, res109, b109k0, b109k1, b109k2, b109k3, ↓reduceIte, reduceCtorEq, Nat.reduceEqDiff, Nat.reduceAdd, Nat.reduceMul, Nat.reduceSub, Nat.reduceLeDiff, Nat.reduceBEq, Int.reduceToNat, Int.reduceLE, Int.reduceLT, Int.reduceEq, Int.reduceNe, di]
  refine loop_keep (α := Int) rfl (fun n => (g + 1 - n).toNat) (fun n => 0 ≤ n ∧ n ≤ 1001 ∧ (lawsL g (m + 1) law).find? (keeps x t) = (lawsR g m law n).find? (keeps x t))
   (fun n => [(0, .imm (nI law)), (1, .imm (.int .i64 ((m + 1 : Nat) + 1))), (2, .imm (.int .i64 g)), (3, yieldV x t), (9, .imm (.int .i64 n))])
   (fun _ => [(1008, .box [.nils 1])]) (atL law law.length) ⟨ha.1, by omega, rfl⟩ (by simp only [yieldV, vaE, ↓reduceIte, reduceCtorEq, Nat.reduceEqDiff, Nat.reduceAdd, Nat.reduceMul, Nat.reduceSub, Nat.reduceLeDiff, Nat.reduceBEq, Int.reduceToNat, Int.reduceLE, Int.reduceLT, Int.reduceEq, Int.reduceNe, di] <;> rfl) ?_
  rintro n ⟨hn0, hn1, hf⟩ ih
  simp only [res109, b109k0, b109k1, b109k2, b109k3, yieldV, vaE, ↓reduceIte, reduceCtorEq, Nat.reduceEqDiff, Nat.reduceAdd, Nat.reduceMul, Nat.reduceSub, Nat.reduceLeDiff, Nat.reduceBEq, Int.reduceToNat, Int.reduceLE, Int.reduceLT, Int.reduceEq, Int.reduceNe, di]
  split
  rotate_left
  ·rename_i h
   rw [lawsR_end h] at hf
   rw [outD_one res109, getD_tmp]
   exact ⟨_, rfl, rfl, .inr ⟨by rw [hf]; rfl, rfl, rfl⟩⟩
  rename_i h
  rw [lawsR_step h, List.find?_append] at hf
  have hrec := b_laws (x := x) (t := t) hx ht hg m (law ++ [n]) (by simp; omega) (by
   intro e he
   rcases List.mem_append.1 he with he | he
   ·exact hb e he
   ·rw [List.mem_singleton] at he; omega)
  refine do_lend rfl (by rw [restr_look]; exact b_Clone (l := law) (by omega)) rfl rfl ?_
  rintro r R' (⟨rfl, rfl, rfl⟩ | ⟨rfl, rfl⟩)
  ·refine ⟨_, rfl, rfl, ?_⟩
   simp only [res109, b109k0, b109k1, b109k2, b109k3, List.nil_append, vaE, ↓reduceIte, reduceCtorEq, Nat.reduceEqDiff, Nat.reduceAdd, Nat.reduceMul, Nat.reduceSub, Nat.reduceLeDiff, Nat.reduceBEq, Int.reduceToNat, Int.reduceLE, Int.reduceLT, Int.reduceEq, Int.reduceNe, di]
   repeat (refine And.intro (by first | omega | exact all_int _ | (simp only [zeros_len, List.length_append, List.length_take, List.length_drop, List.length_set, List.length_cons, List.length_nil, List.length_map]; omega)) ?_)
   rw [wrap64 (n := ((m + 1 : Nat) : Int) + 1 - 1) (by omega) (by omega), show ((m + 1 : Nat) : Int) + 1 - 1 = (m : Int) + 1 by omega]
   refine do_lend rfl (by rw [restr_look]; exact hrec) rfl rfl ?_
   rintro r R' (⟨l, hl, rfl, rfl⟩ | ⟨hl, rfl, rfl⟩)
   ·refine ⟨_, rfl, rfl, ?_⟩
    simp only [res109, b109k0, b109k1, b109k2, b109k3, keep_outC, vaE, ↓reduceIte, reduceCtorEq, Nat.reduceEqDiff, Nat.reduceAdd, Nat.reduceMul, Nat.reduceSub, Nat.reduceLeDiff, Nat.reduceBEq, Int.reduceToNat, Int.reduceLE, Int.reduceLT, Int.reduceEq, Int.reduceNe, di]
    rw [outD_one res109, getD_tmp]
    exact ⟨_, rfl, rfl, .inl ⟨l, by rw [hf, hl]; rfl, rfl, rfl⟩⟩
   ·refine ⟨_, rfl, rfl, ?_⟩
    simp only [res109, b109k0, b109k1, b109k2, b109k3, vaE, ↓reduceIte, reduceCtorEq, Nat.reduceEqDiff, Nat.reduceAdd, Nat.reduceMul, Nat.reduceSub, Nat.reduceLeDiff, Nat.reduceBEq, Int.reduceToNat, Int.reduceLE, Int.reduceLT, Int.reduceEq, Int.reduceNe, di]
    rw [wrap64 (by omega) (by omega)]
    refine ih (n + 1) _ _ (by omega) ⟨by omega, by omega, by rw [hf, hl]; rfl⟩ (by simp only [yieldV, vaE, ↓reduceIte, reduceCtorEq, Nat.reduceEqDiff, Nat.reduceAdd, Nat.reduceMul, Nat.reduceSub, Nat.reduceLeDiff, Nat.reduceBEq, Int.reduceToNat, Int.reduceLE, Int.reduceLT, Int.reduceEq, Int.reduceNe, di] <;> rfl)
  ·refine ⟨_, rfl, rfl, ?_⟩
   simp only [res109, b109k0, b109k1, b109k2, b109k3, vaE, ↓reduceIte, reduceCtorEq, Nat.reduceEqDiff, Nat.reduceAdd, Nat.reduceMul, Nat.reduceSub, Nat.reduceLeDiff, Nat.reduceBEq, Int.reduceToNat, Int.reduceLE, Int.reduceLT, Int.reduceEq, Int.reduceNe, di]
   repeat (refine And.intro (by first | omega | exact all_int _ | (simp only [zeros_len, List.length_append, List.length_take, List.length_drop, List.length_set, List.length_cons, List.length_nil, List.length_map]; omega)) ?_)
   rw [wrap64 (n := ((m + 1 : Nat) : Int) + 1 - 1) (by omega) (by omega), show ((m + 1 : Nat) : Int) + 1 - 1 = (m : Int) + 1 by omega]
   refine do_lend rfl (by rw [restr_look]; exact hrec) rfl rfl ?_
   rintro r R' (⟨l, hl, rfl, rfl⟩ | ⟨hl, rfl, rfl⟩)
   ·refine ⟨_, rfl, rfl, ?_⟩
    simp only [res109, b109k0, b109k1, b109k2, b109k3, keep_outC, vaE, ↓reduceIte, reduceCtorEq, Nat.reduceEqDiff, Nat.reduceAdd, Nat.reduceMul, Nat.reduceSub, Nat.reduceLeDiff, Nat.reduceBEq, Int.reduceToNat, Int.reduceLE, Int.reduceLT, Int.reduceEq, Int.reduceNe, di]
    rw [outD_one res109, getD_tmp]
    exact ⟨_, rfl, rfl, .inl ⟨l, by rw [hf, hl]; rfl, rfl, rfl⟩⟩
   ·refine ⟨_, rfl, rfl, ?_⟩
    simp only [res109, b109k0, b109k1, b109k2, b109k3, vaE, ↓reduceIte, reduceCtorEq, Nat.reduceEqDiff, Nat.reduceAdd, Nat.reduceMul, Nat.reduceSub, Nat.reduceLeDiff, Nat.reduceBEq, Int.reduceToNat, Int.reduceLE, Int.reduceLT, Int.reduceEq, Int.reduceNe, di]
    rw [wrap64 (by omega) (by omega)]
    refine ih (n + 1) _ _ (by omega) ⟨by omega, by omega, by rw [hf, hl]; rfl⟩ (by simp only [yieldV, vaE, ↓reduceIte, reduceCtorEq, Nat.reduceEqDiff, Nat.reduceAdd, Nat.reduceMul, Nat.reduceSub, Nat.reduceLeDiff, Nat.reduceBEq, Int.reduceToNat, Int.reduceLE, Int.reduceLT, Int.reduceEq, Int.reduceNe, di] <;> rfl)

theorem lawsL_ne {g : Int} : ∀ {m : Nat} {law l : List Int}, l ∈ lawsL g m law → l ≠ []
 | 0, law, l, h => by simp [lawsL] at h; rw [h]; simp
 | m + 1, law, l, h => by
  unfold lawsL at h
  obtain ⟨i, _, h⟩ := List.mem_flatMap.1 h
  exact lawsL_ne h

theorem w_FastestLaw {x : Ln} {t : Tk} (hx : Few x) : Contract Try.prog 56 [lnI x, tkI t] (if fastE x t = 0 then .tup [nI (fast (opn x) t), .int .i64 (if fast (opn x) t = [] then 12 else 0)] else .tup [nI [], .int .i64 (fastE x t)]) := by
 refine contract_run Try.func56 k56 rfl ?_
 simp only [body56, b56, res56, b56k0, b56k1, b56k2, vaE, ↓reduceIte, reduceCtorEq, Nat.reduceEqDiff, Nat.reduceAdd, Nat.reduceMul, Nat.reduceSub, Nat.reduceLeDiff, Nat.reduceBEq, Int.reduceToNat, Int.reduceLE, Int.reduceLT, Int.reduceEq, Int.reduceNe, di]
 refine calls_of (w_open' hx) ?_; simp only [vaE, res56, b56k0, b56k1, b56k2, ↓reduceIte, reduceCtorEq, Nat.reduceEqDiff, Nat.reduceAdd, Nat.reduceMul, Nat.reduceSub, Nat.reduceLeDiff, Nat.reduceBEq, Int.reduceToNat, Int.reduceLE, Int.reduceLT, Int.reduceEq, Int.reduceNe, di]
 refine calls_of (w_taskErr (t := t)) ?_; simp only [vaE, res56, b56k0, b56k1, b56k2, ↓reduceIte, reduceCtorEq, Nat.reduceEqDiff, Nat.reduceAdd, Nat.reduceMul, Nat.reduceSub, Nat.reduceLeDiff, Nat.reduceBEq, Int.reduceToNat, Int.reduceLE, Int.reduceLT, Int.reduceEq, Int.reduceNe, di]
 refine calls_of (w_first (l := [(chkL x).2, taskE t]) (by simp)) ?_; simp only [vaE, res56, b56k0, b56k1, b56k2, ↓reduceIte, reduceCtorEq, Nat.reduceEqDiff, Nat.reduceAdd, Nat.reduceMul, Nat.reduceSub, Nat.reduceLeDiff, Nat.reduceBEq, Int.reduceToNat, Int.reduceLE, Int.reduceLT, Int.reduceEq, Int.reduceNe, di]
 rw [firstNZ_two]
 show (if fastE x t = 0 then _ else _)
 split
 rotate_left
 ·rfl
 rename_i h0
 have hz := fstE_zero.1 h0
 have hok := chkL_ok.1 hz.1
 have htk := taskE_zero.1 hz.2
 have hox : opnE x = opn x := by unfold opnE; rw [if_pos (chkL_ok.2 hok)]
 have how := opn_ok hok
 rw [hox]
 refine run_ren rfl (by first | decide | rfl) (by first | decide | rfl) (by first | decide | rfl) ?_
 simp only [vaE, ↓reduceIte, reduceCtorEq, Nat.reduceEqDiff, Nat.reduceAdd, Nat.reduceMul, Nat.reduceSub, Nat.reduceLeDiff, Nat.reduceBEq, Int.reduceToNat, Int.reduceLE, Int.reduceLT, Int.reduceEq, Int.reduceNe, di]
 have hmo := htk.mo
 refine loop_keep (α := Nat × List Int) rfl (fun q => t.mo.toNat - q.1) (fun q => q.1 ≤ t.mo.toNat ∧ ((q.2 = [] ∧ fast (opn x) t = fastL (opn x) t q.1 (t.mo.toNat - q.1)) ∨ (q.2 ≠ [] ∧ fast (opn x) t = q.2)))
  (fun q => [(3, .pim (tkI t)), (6, .pim (owI (opn x))), (8, .ref 1008 0), (9, .imm (.int .i64 ((q.1 : Int) + 1)))]) (fun q => [(1008, .box [outC q.2])]) (0, []) ⟨Nat.zero_le _, .inl ⟨rfl, rfl⟩⟩ (by simp only [outC, vaE, ↓reduceIte, reduceCtorEq, Nat.reduceEqDiff, Nat.reduceAdd, Nat.reduceMul, Nat.reduceSub, Nat.reduceLeDiff, Nat.reduceBEq, Int.reduceToNat, Int.reduceLE, Int.reduceLT, Int.reduceEq, Int.reduceNe, di] <;> rfl) ?_
 rintro ⟨c, o⟩ ⟨hc, ho⟩ ih
 dsimp only at hc ho ⊢
 rcases ho with ⟨rfl, hf⟩ | ⟨hne, hf⟩
 rotate_left
 ·obtain ⟨n, l, rfl⟩ : ∃ n l, o = n :: l := by
   cases o with
   | nil => exact absurd rfl hne
   | cons n l => exact ⟨n, l, rfl⟩
  simp only [res56, b56k0, b56k1, b56k2, outC, vaE, ↓reduceIte, reduceCtorEq, Nat.reduceEqDiff, Nat.reduceAdd, Nat.reduceMul, Nat.reduceSub, Nat.reduceLeDiff, Nat.reduceBEq, Int.reduceToNat, Int.reduceLE, Int.reduceLT, Int.reduceEq, Int.reduceNe, di]
  have hif : (if (n :: l) = [] then (12 : Int) else 0) = 0 := by simp
  rw [hf, hif]
  split
  ·refine calls_of w_unless ?_; simp only [vaE, res56, b56k0, b56k1, b56k2, ↓reduceIte, reduceCtorEq, Nat.reduceEqDiff, Nat.reduceAdd, Nat.reduceMul, Nat.reduceSub, Nat.reduceLeDiff, Nat.reduceBEq, Int.reduceToNat, Int.reduceLE, Int.reduceLT, Int.reduceEq, Int.reduceNe, di]
  ·refine calls_of w_unless ?_; simp only [vaE, res56, b56k0, b56k1, b56k2, ↓reduceIte, reduceCtorEq, Nat.reduceEqDiff, Nat.reduceAdd, Nat.reduceMul, Nat.reduceSub, Nat.reduceLeDiff, Nat.reduceBEq, Int.reduceToNat, Int.reduceLE, Int.reduceLT, Int.reduceEq, Int.reduceNe, di]
 simp only [res56, b56k0, b56k1, b56k2, outC, vaE, ↓reduceIte, reduceCtorEq, Nat.reduceEqDiff, Nat.reduceAdd, Nat.reduceMul, Nat.reduceSub, Nat.reduceLeDiff, Nat.reduceBEq, Int.reduceToNat, Int.reduceLE, Int.reduceLT, Int.reduceEq, Int.reduceNe, di]
 split
 rotate_left
 ·rename_i h
  have hcm : t.mo.toNat - c = 0 := by omega
  rw [hcm] at hf
  refine calls_of w_unless ?_; simp only [vaE, res56, b56k0, b56k1, b56k2, ↓reduceIte, reduceCtorEq, Nat.reduceEqDiff, Nat.reduceAdd, Nat.reduceMul, Nat.reduceSub, Nat.reduceLeDiff, Nat.reduceBEq, Int.reduceToNat, Int.reduceLE, Int.reduceLT, Int.reduceEq, Int.reduceNe, di]
  rw [hf]
  rfl
 rename_i h
 have hlt : c < t.mo.toNat := by omega
 rw [show t.mo.toNat - c = (t.mo.toNat - (c + 1)) + 1 by omega] at hf
 unfold fastL at hf
 have hb := b_laws (x := opn x) (t := t) how htk.ti (g := t.cl) (by have := htk.cl; omega) c [] (by simp; omega) (by simp)
 refine do_lend rfl (by rw [restr_look]; exact hb) rfl rfl ?_
 rintro r R' (⟨l, hl, rfl, rfl⟩ | ⟨hl, rfl, rfl⟩)
 ·refine ⟨_, rfl, rfl, ?_⟩
  simp only [res56, b56k0, b56k1, b56k2, keep_outC, vaE, ↓reduceIte, reduceCtorEq, Nat.reduceEqDiff, Nat.reduceAdd, Nat.reduceMul, Nat.reduceSub, Nat.reduceLeDiff, Nat.reduceBEq, Int.reduceToNat, Int.reduceLE, Int.reduceLT, Int.reduceEq, Int.reduceNe, di]
  rw [wrap64 (by omega) (by omega)]
  rw [hl] at hf
  exact ih (c + 1, l) _ _ (by dsimp only; omega) ⟨by dsimp only; omega, .inr ⟨lawsL_ne (List.mem_of_find?_eq_some hl), hf⟩⟩ (by simp only [keep_outC, vaE, ↓reduceIte, reduceCtorEq, Nat.reduceEqDiff, Nat.reduceAdd, Nat.reduceMul, Nat.reduceSub, Nat.reduceLeDiff, Nat.reduceBEq, Int.reduceToNat, Int.reduceLE, Int.reduceLT, Int.reduceEq, Int.reduceNe, di] <;> rfl)
 ·refine ⟨_, rfl, rfl, ?_⟩
  simp only [res56, b56k0, b56k1, b56k2, vaE, ↓reduceIte, reduceCtorEq, Nat.reduceEqDiff, Nat.reduceAdd, Nat.reduceMul, Nat.reduceSub, Nat.reduceLeDiff, Nat.reduceBEq, Int.reduceToNat, Int.reduceLE, Int.reduceLT, Int.reduceEq, Int.reduceNe, di]
  rw [wrap64 (by omega) (by omega)]
  rw [hl] at hf
  exact ih (c + 1, []) _ _ (by dsimp only; omega) ⟨by dsimp only; omega, .inl ⟨rfl, hf⟩⟩ (by simp only [outC, vaE, ↓reduceIte, reduceCtorEq, Nat.reduceEqDiff, Nat.reduceAdd, Nat.reduceMul, Nat.reduceSub, Nat.reduceLeDiff, Nat.reduceBEq, Int.reduceToNat, Int.reduceLE, Int.reduceLT, Int.reduceEq, Int.reduceNe, di] <;> rfl)
end Go.DI

