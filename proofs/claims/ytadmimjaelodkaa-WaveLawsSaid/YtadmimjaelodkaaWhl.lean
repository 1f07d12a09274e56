/- Contracts: laws in the reference. No condition. -/
import Derived.Test.YtadmimjaelodkaaWhf
import Derived.Test.YtadmimjaelodkaaWha
import Derived.Test.YtadmimjaelodkaaWhb
set_option linter.unusedSimpArgs false
set_option maxRecDepth 100000
namespace Go.DI
open Go.Proofs Go.RowKit

theorem r_ClosingAt {law : List Int} {t : Nat} (h : law.length ≤ 1000000) (ht : t ≤ 1000000) : Contract Try.prog 41 [nI law, .int .i64 t] (.int .i64 (atL law t)) := by
  refine contract_run Try.func41 k41 rfl ?_
  simp only [body41, b41, res41, b41k0, vaE, ↓reduceIte, reduceCtorEq, Nat.reduceEqDiff, Nat.reduceAdd, Nat.reduceMul, Nat.reduceSub, Nat.reduceLeDiff, Nat.reduceBEq, Int.reduceToNat, Int.reduceLE, Int.reduceLT, Int.reduceEq, Int.reduceNe, di]
  split
  · rename_i h0
    have : law = [] := List.length_eq_zero_iff.1 (by omega)
    subst this
    rfl
  · rename_i h0
    rw [wrap64 (by omega) (by omega)]
    refine ⟨by omega, by omega, ?_⟩
    rw [show (min (t : Int) ((law.length : Int) - 1)).toNat = min t (law.length - 1) by omega]
    rfl
theorem r_TicksErr {n : Int} : Contract Try.prog 68 [.int .i64 n] (.int .i64 (ticksE n)) := by
  refine contract_run Try.func68 k68 rfl ?_
  simp only [body68, b68, res68, b68k0, vaE, ↓reduceIte, reduceCtorEq, Nat.reduceEqDiff, Nat.reduceAdd, Nat.reduceMul, Nat.reduceSub, Nat.reduceLeDiff, Nat.reduceBEq, Int.reduceToNat, Int.reduceLE, Int.reduceLT, Int.reduceEq, Int.reduceNe, di]
  refine calls_of c_Within ?_; simp only [vaE, res68, b68k0, ↓reduceIte, reduceCtorEq, Nat.reduceEqDiff, Nat.reduceAdd, Nat.reduceMul, Nat.reduceSub, Nat.reduceLeDiff, Nat.reduceBEq, Int.reduceToNat, Int.reduceLE, Int.reduceLT, Int.reduceEq, Int.reduceNe, di]
  unfold ticksE
  split <;> rfl
theorem r_CheckLaw {law : List Int} (hl : law.length ≤ 1000000) : Contract Try.prog 67 [nI law] (e2I (chkW law)) := by
  refine contract_run Try.func67 k67 rfl ?_
  simp only [body67, b67, res67, b67k0, b67k1, b67k2, b67k3, b67k4, vaE, ↓reduceIte, reduceCtorEq, Nat.reduceEqDiff, Nat.reduceAdd, Nat.reduceMul, Nat.reduceSub, Nat.reduceLeDiff, Nat.reduceBEq, Int.reduceToNat, Int.reduceLE, Int.reduceLT, Int.reduceEq, Int.reduceNe, di]
  unfold chkW
  split
  · rfl
  rename_i h
  refine loop_keep (α := Nat) rfl (fun i => law.length - i) (fun i => i ≤ law.length ∧ lawScan i (if i = 0 then 0 else law.getD (i - 1) 0) (law.drop i) = lawScan 0 0 law)
    (fun i => [(0, .imm (nI law)), (4, .imm (.int .i64 i))]) (fun _ => []) 0 ⟨Nat.zero_le _, rfl⟩ (by simp only [vaE, ↓reduceIte, reduceCtorEq, Nat.reduceEqDiff, Nat.reduceAdd, Nat.reduceMul, Nat.reduceSub, Nat.reduceLeDiff, Nat.reduceBEq, Int.reduceToNat, Int.reduceLE, Int.reduceLT, Int.reduceEq, Int.reduceNe, di] <;> rfl) ?_
  rintro i ⟨hi, he⟩ ih
  simp only [res67, b67k0, b67k1, b67k2, b67k3, b67k4, vaE, ↓reduceIte, reduceCtorEq, Nat.reduceEqDiff, Nat.reduceAdd, Nat.reduceMul, Nat.reduceSub, Nat.reduceLeDiff, Nat.reduceBEq, Int.reduceToNat, Int.reduceLE, Int.reduceLT, Int.reduceEq, Int.reduceNe, di]
  split
  rotate_left
  · rename_i h
    have : i = law.length := by omega
    subst this
    rw [List.drop_length] at he
    rw [← he]
    rfl
  rename_i h
  have hlt : i < law.length := by omega
  rw [getD_drop hlt, lawScan_cons] at he
  repeat (refine And.intro (by omega) ?_)
  refine calls_of c_Within ?_; simp only [vaE, res67, b67k0, b67k1, b67k2, b67k3, b67k4, ↓reduceIte, reduceCtorEq, Nat.reduceEqDiff, Nat.reduceAdd, Nat.reduceMul, Nat.reduceSub, Nat.reduceLeDiff, Nat.reduceBEq, Int.reduceToNat, Int.reduceLE, Int.reduceLT, Int.reduceEq, Int.reduceNe, di]
  by_cases h1 : 0 ≤ law.getD i 0 ∧ law.getD i 0 ≤ 1000
  rotate_left
  · rw [if_neg h1] at he
    simp only [h1, vaE, ↓reduceIte, reduceCtorEq, Nat.reduceEqDiff, Nat.reduceAdd, Nat.reduceMul, Nat.reduceSub, Nat.reduceLeDiff, Nat.reduceBEq, Int.reduceToNat, Int.reduceLE, Int.reduceLT, Int.reduceEq, Int.reduceNe, di]
    rw [if_neg (show ¬ fstE 2 (if (if i = 0 then 0 else law.getD (i - 1) 0) ≤ law.getD i 0 then 0 else 9) = 0 by unfold fstE; rw [if_neg (by decide)]; decide)] at he
    rw [← he]
    rfl
  rw [if_pos h1] at he
  simp only [h1, vaE, ↓reduceIte, reduceCtorEq, Nat.reduceEqDiff, Nat.reduceAdd, Nat.reduceMul, Nat.reduceSub, Nat.reduceLeDiff, Nat.reduceBEq, Int.reduceToNat, Int.reduceLE, Int.reduceLT, Int.reduceEq, Int.reduceNe, di]
  have hf : ∀ e : Int, fstE 0 e = e := fun e => if_pos rfl
  rw [hf] at he
  have go : (if i = 0 then 0 else law.getD (i - 1) 0) ≤ law.getD i 0 → lawScan (i + 1 : Nat) (if i + 1 = 0 then 0 else law.getD (i + 1 - 1) 0) (law.drop (i + 1)) = lawScan 0 0 law := by
    intro k
    rw [if_pos k, if_pos rfl] at he
    rw [if_neg (by omega), Nat.add_sub_cancel]
    exact he
  by_cases h2 : 0 < (i : Int)
  · simp only [h2, vaE, ↓reduceIte, reduceCtorEq, Nat.reduceEqDiff, Nat.reduceAdd, Nat.reduceMul, Nat.reduceSub, Nat.reduceLeDiff, Nat.reduceBEq, Int.reduceToNat, Int.reduceLE, Int.reduceLT, Int.reduceEq, Int.reduceNe, di]
    rw [wrap64 (n := (i : Int) - 1) (by omega) (by omega), show ((i : Int) - 1).toNat = i - 1 by omega]
    repeat (refine And.intro (by omega) ?_)
    rw [if_neg (show ¬ i = 0 by omega)] at he go
    by_cases h3 : law.getD i 0 < law.getD (i - 1) 0
    · rw [if_neg (show ¬ law.getD (i - 1) 0 ≤ law.getD i 0 by omega)] at he
      simp only [h3, vaE, ↓reduceIte, reduceCtorEq, Nat.reduceEqDiff, Nat.reduceAdd, Nat.reduceMul, Nat.reduceSub, Nat.reduceLeDiff, Nat.reduceBEq, Int.reduceToNat, Int.reduceLE, Int.reduceLT, Int.reduceEq, Int.reduceNe, di]
      rw [if_neg (by decide)] at he
      rw [← he]
    · simp only [h3, vaE, ↓reduceIte, reduceCtorEq, Nat.reduceEqDiff, Nat.reduceAdd, Nat.reduceMul, Nat.reduceSub, Nat.reduceLeDiff, Nat.reduceBEq, Int.reduceToNat, Int.reduceLE, Int.reduceLT, Int.reduceEq, Int.reduceNe, di]
      rw [wrap64 (by omega) (by omega)]
      exact ih (i + 1) _ _ (by omega) ⟨by omega, go (by omega)⟩ (by simp only [vaE, ↓reduceIte, reduceCtorEq, Nat.reduceEqDiff, Nat.reduceAdd, Nat.reduceMul, Nat.reduceSub, Nat.reduceLeDiff, Nat.reduceBEq, Int.reduceToNat, Int.reduceLE, Int.reduceLT, Int.reduceEq, Int.reduceNe, di] <;> rfl)
  · have hi0 : i = 0 := by omega
    subst hi0
    simp only [h2, vaE, ↓reduceIte, reduceCtorEq, Nat.reduceEqDiff, Nat.reduceAdd, Nat.reduceMul, Nat.reduceSub, Nat.reduceLeDiff, Nat.reduceBEq, Int.reduceToNat, Int.reduceLE, Int.reduceLT, Int.reduceEq, Int.reduceNe, di]
    rw [wrap64 (by omega) (by omega)]
    exact ih 1 _ _ (by omega) ⟨by omega, go (by rw [if_pos rfl]; omega)⟩ (by simp only [vaE, ↓reduceIte, reduceCtorEq, Nat.reduceEqDiff, Nat.reduceAdd, Nat.reduceMul, Nat.reduceSub, Nat.reduceLeDiff, Nat.reduceBEq, Int.reduceToNat, Int.reduceLE, Int.reduceLT, Int.reduceEq, Int.reduceNe, di] <;> rfl)
theorem r_Valve {x : Ln} {law : List Int} {t : Int} (hx : LineOk x) (hl : law.length ≤ 1000000) (ht : 0 ≤ t ∧ t ≤ 100000) : Contract Try.prog 69 [lnI x, nI law, .int .i64 t] (nI (valveL (opn x) law t.toNat)) := by
  have how := opn_ok hx
  have hn := how.nb
  refine contract_run Try.func69 k69 rfl ?_
  simp only [body69, b69, res69, b69k0, b69k1, vaE, ↓reduceIte, reduceCtorEq, Nat.reduceEqDiff, Nat.reduceAdd, Nat.reduceMul, Nat.reduceSub, Nat.reduceLeDiff, Nat.reduceBEq, Int.reduceToNat, Int.reduceLE, Int.reduceLT, Int.reduceEq, Int.reduceNe, di]
  refine calls_of (r_Rest hx) ?_; simp only [vaE, res69, b69k0, b69k1, ↓reduceIte, reduceCtorEq, Nat.reduceEqDiff, Nat.reduceAdd, Nat.reduceMul, Nat.reduceSub, Nat.reduceLeDiff, Nat.reduceBEq, Int.reduceToNat, Int.reduceLE, Int.reduceLT, Int.reduceEq, Int.reduceNe, di]
  refine calls_of (r_Cells hx) ?_; simp only [vaE, res69, b69k0, b69k1, ↓reduceIte, reduceCtorEq, Nat.reduceEqDiff, Nat.reduceAdd, Nat.reduceMul, Nat.reduceSub, Nat.reduceLeDiff, Nat.reduceBEq, Int.reduceToNat, Int.reduceLE, Int.reduceLT, Int.reduceEq, Int.reduceNe, di]
  refine loop_keep (α := Nat) rfl (fun k => t.toNat - k) (fun k => (k : Int) ≤ t)
    (fun k => [(1, .imm (nI law)), (2, .imm (.int .i64 t)), (3, .ref 3 0), (7, .ref 7 0), (8, .imm (.int .i64 (opn x).n)), (9, .own 9), (10, .imm (.int .i64 k))])
    (fun k => [(3, .box [.imm (.slc 2 (x.pp.map ppI)), .imm (nI x.ar)]), (7, .box [.imm (nI (lawS (opn x) law k).F), .imm (nI (lawS (opn x) law k).B), .imm (nI (lawS (opn x) law k).L)]), (9, .tok 1 ((valveL (opn x) law k).map (.int .i64)))])
    0 (by omega) (by simp only [lawS, vaE, ↓reduceIte, reduceCtorEq, Nat.reduceEqDiff, Nat.reduceAdd, Nat.reduceMul, Nat.reduceSub, Nat.reduceLeDiff, Nat.reduceBEq, Int.reduceToNat, Int.reduceLE, Int.reduceLT, Int.reduceEq, Int.reduceNe, di] <;> rfl) ?_
  intro k hk ih
  have hsh := sh_law hn.1 (law := law) k
  have hf := hsh.f
  have hvl := valveL_length (x := opn x) (law := law) (k := k)
  simp only [res69, b69k0, b69k1, vaE, ↓reduceIte, reduceCtorEq, Nat.reduceEqDiff, Nat.reduceAdd, Nat.reduceMul, Nat.reduceSub, Nat.reduceLeDiff, Nat.reduceBEq, Int.reduceToNat, Int.reduceLE, Int.reduceLT, Int.reduceEq, Int.reduceNe, di]
  split
  · rename_i h
    rw [wrap64 (n := (opn x).n - 1) (by omega) (by omega), show ((opn x).n - 1).toNat = (opn x).n.toNat - 1 by omega]
    repeat (refine And.intro (by first | omega | exact all_int _ | (simp only [zeros_len, List.length_append, List.length_take, List.length_drop, List.length_set, List.length_cons, List.length_nil, List.length_map]; omega)) ?_)
    refine calls_of (r_ClosingAt (law := law) (t := k) hl (by omega)) ?_; simp only [vaE, res69, b69k0, b69k1, ↓reduceIte, reduceCtorEq, Nat.reduceEqDiff, Nat.reduceAdd, Nat.reduceMul, Nat.reduceSub, Nat.reduceLeDiff, Nat.reduceBEq, Int.reduceToNat, Int.reduceLE, Int.reduceLT, Int.reduceEq, Int.reduceNe, di]
    repeat (refine And.intro (by first | omega | exact all_int _ | (simp only [zeros_len, List.length_append, List.length_take, List.length_drop, List.length_set, List.length_cons, List.length_nil, List.length_map]; omega)) ?_)
    refine calls_of (r_ClosingAt (law := law) (t := k) hl (by omega)) ?_; simp only [vaE, res69, b69k0, b69k1, ↓reduceIte, reduceCtorEq, Nat.reduceEqDiff, Nat.reduceAdd, Nat.reduceMul, Nat.reduceSub, Nat.reduceLeDiff, Nat.reduceBEq, Int.reduceToNat, Int.reduceLE, Int.reduceLT, Int.reduceEq, Int.reduceNe, di]
    refine calls_of (r_Stepped (s := lawS (opn x) law k) (c := atL law k) hx hsh) ?_; simp only [vaE, res69, b69k0, b69k1, ↓reduceIte, reduceCtorEq, Nat.reduceEqDiff, Nat.reduceAdd, Nat.reduceMul, Nat.reduceSub, Nat.reduceLeDiff, Nat.reduceBEq, Int.reduceToNat, Int.reduceLE, Int.reduceLT, Int.reduceEq, Int.reduceNe, di]
    rw [wrap64 (n := (k : Int) + 1) (by omega) (by omega)]
    refine ih (k + 1) _ _ (by omega) (by omega) ?_
    rw [valveL_succ]
    simp only [lawS, vaE, ↓reduceIte, reduceCtorEq, Nat.reduceEqDiff, Nat.reduceAdd, Nat.reduceMul, Nat.reduceSub, Nat.reduceLeDiff, Nat.reduceBEq, Int.reduceToNat, Int.reduceLE, Int.reduceLT, Int.reduceEq, Int.reduceNe, di] <;> rfl
  · rename_i h
    rw [show t.toNat = k by omega]
end Go.DI

