/- Contracts: all laws of a length, and the fastest law, in the reference. No condition. -/
import Derived.Test.YtadmimjaelodkaaWcf
set_option linter.unusedSimpArgs false
set_option maxRecDepth 100000
set_option maxHeartbeats 1000000
namespace Go.DI
open Go.Proofs Go.RowKit

theorem r_laws {g : Int} (hg : 0 ≤ g ∧ g ≤ 5) (m : Nat) : ∀ (a : Int), m ≤ 6 → 0 ≤ a ∧ a ≤ g → Contract Try.prog 123 [.int .i64 ((m : Int) + 1), .int .i64 a, .int .i64 g] (.slc 1 ((refL g m a).map nI)) := by
  induction m with
  | zero =>
    intro a hm ha
    refine contract_run Try.func123 k123 rfl ?_
    simp only [body123, b123, res123, b123k0, b123k1, b123k2, b123k3, b123k4, vaE, ↓reduceIte, reduceCtorEq, Nat.reduceEqDiff, Nat.reduceAdd, Nat.reduceMul, Nat.reduceSub, Nat.reduceLeDiff, Nat.reduceBEq, Int.reduceToNat, Int.reduceLE, Int.reduceLT, Int.reduceEq, Int.reduceNe, di]
    rw [if_pos (by omega)]
    rfl
  | succ m ihm =>
    intro a hm ha
    refine contract_run Try.func123 k123 rfl ?_
    simp only [body123, b123, res123, b123k0, b123k1, b123k2, b123k3, b123k4, vaE, ↓reduceIte, reduceCtorEq, Nat.reduceEqDiff, Nat.reduceAdd, Nat.reduceMul, Nat.reduceSub, Nat.reduceLeDiff, Nat.reduceBEq, Int.reduceToNat, Int.reduceLE, Int.reduceLT, Int.reduceEq, Int.reduceNe, di]
    rw [if_neg (by omega)]
    have hpow : (g.toNat + 1) ^ (m + 1) ≤ 6 ^ 6 := Nat.le_trans (Nat.pow_le_pow_left (by omega) _) (Nat.pow_le_pow_right (by decide) (by omega))
    have h66 : (6 : Nat) ^ 6 = 46656 := by decide
    refine loop_keep (α := Int) rfl (fun n => (g + 1 - n).toNat) (fun n => a ≤ n ∧ n ≤ g + 1)
      (fun n => [(0, .imm (.int .i64 ((m + 1 : Nat) + 1))), (2, .imm (.int .i64 g)), (7, .own 7), (8, .imm (.int .i64 n))])
      (fun n => [(7, .tok 1 ((refR g m a n).map nI))]) a ⟨by omega, by omega⟩ (by unfold refR; simp only [Int.sub_self, Int.toNat_zero, List.range_zero, List.flatMap_nil, vaE, ↓reduceIte, reduceCtorEq, Nat.reduceEqDiff, Nat.reduceAdd, Nat.reduceMul, Nat.reduceSub, Nat.reduceLeDiff, Nat.reduceBEq, Int.reduceToNat, Int.reduceLE, Int.reduceLT, Int.reduceEq, Int.reduceNe, di] <;> rfl) ?_
    intro n ⟨hn0, hn1⟩ ih
    have hrl := refR_length (m := m) hg.1 ha.1 hn1
    simp only [res123, b123k0, b123k1, b123k2, b123k3, b123k4, vaE, ↓reduceIte, reduceCtorEq, Nat.reduceEqDiff, Nat.reduceAdd, Nat.reduceMul, Nat.reduceSub, Nat.reduceLeDiff, Nat.reduceBEq, Int.reduceToNat, Int.reduceLE, Int.reduceLT, Int.reduceEq, Int.reduceNe, di]
    split
    rotate_left
    · rename_i h
      have : n = g + 1 := by omega
      subst this
      rw [refR_end]
    rename_i h
    rw [wrap64 (n := ((m + 1 : Nat) : Int) + 1 - 1) (by omega) (by omega), show ((m + 1 : Nat) : Int) + 1 - 1 = (m : Int) + 1 by omega]
    have hlen := refL_length hg.1 m n (by omega)
    refine calls_of (ihm n (by omega) ⟨by omega, h⟩) ?_; simp only [vaE, res123, b123k0, b123k1, b123k2, b123k3, b123k4, ↓reduceIte, reduceCtorEq, Nat.reduceEqDiff, Nat.reduceAdd, Nat.reduceMul, Nat.reduceSub, Nat.reduceLeDiff, Nat.reduceBEq, Int.reduceToNat, Int.reduceLE, Int.reduceLT, Int.reduceEq, Int.reduceNe, di]
    refine loop_keep (α := Nat) rfl (fun i => (refL g m n).length - i) (fun i => i ≤ (refL g m n).length)
      (fun i => [(0, .imm (.int .i64 ((m + 1 : Nat) + 1))), (2, .imm (.int .i64 g)), (7, .own 7), (8, .imm (.int .i64 n)), (9, .imm (.slc 1 ((refL g m n).map nI))), (10, .imm (.int .i64 i))])
      (fun i => [(7, .tok 1 ((refR g m a n ++ ((refL g m n).take i).map (n :: ·)).map nI))]) 0 (Nat.zero_le _) (by simp only [List.take_zero, List.map_nil, List.append_nil, vaE, ↓reduceIte, reduceCtorEq, Nat.reduceEqDiff, Nat.reduceAdd, Nat.reduceMul, Nat.reduceSub, Nat.reduceLeDiff, Nat.reduceBEq, Int.reduceToNat, Int.reduceLE, Int.reduceLT, Int.reduceEq, Int.reduceNe, di] <;> rfl) ?_
    intro i hi ih2
    simp only [res123, b123k0, b123k1, b123k2, b123k3, b123k4, vaE, ↓reduceIte, reduceCtorEq, Nat.reduceEqDiff, Nat.reduceAdd, Nat.reduceMul, Nat.reduceSub, Nat.reduceLeDiff, Nat.reduceBEq, Int.reduceToNat, Int.reduceLE, Int.reduceLT, Int.reduceEq, Int.reduceNe, di]
    split
    rotate_left
    · rename_i h2
      have : i = (refL g m n).length := by omega
      subst this
      rw [List.take_length, ← refR_step hn0, wrap64 (by omega) (by omega)]
      exact ih (n + 1) _ _ (by omega) ⟨by omega, by omega⟩ (by simp only [vaE, ↓reduceIte, reduceCtorEq, Nat.reduceEqDiff, Nat.reduceAdd, Nat.reduceMul, Nat.reduceSub, Nat.reduceLeDiff, Nat.reduceBEq, Int.reduceToNat, Int.reduceLE, Int.reduceLT, Int.reduceEq, Int.reduceNe, di] <;> rfl)
    rename_i h2
    have hlt : i < (refL g m n).length := by omega
    have hel := refL_elem m n _ (getD_mem (d := default) hlt)
    have htl : (refR g m a n).length + (refL g m n).length ≤ (refR g m a (n + 1)).length := by
      rw [refR_step hn0, List.length_append, List.length_map]
      omega
    have hrl2 := refR_length (m := m) (n := n + 1) hg.1 ha.1 (by omega)
    repeat (refine And.intro (by first | omega | exact all_int _ | (simp only [zeros_len, List.length_append, List.length_take, List.length_drop, List.length_set, List.length_cons, List.length_nil, List.length_map]; omega)) ?_)
    rw [wrap64 (by omega) (by omega)]
    refine ih2 (i + 1) _ _ (by omega) (by omega) ?_
    have e : (refL g m n).take (i + 1) = (refL g m n).take i ++ [(refL g m n).getD i default] := by
      rw [List.take_succ_eq_append_getElem hlt]
      simp [List.getD_eq_getElem?_getD, hlt]
    rw [show (refR g m a n ++ ((refL g m n).take (i + 1)).map (n :: ·)).map nI = (refR g m a n ++ ((refL g m n).take i).map (n :: ·)).map nI ++ [nI (n :: (refL g m n).getD i default)] by rw [e, List.map_append, List.map_append, List.map_append, List.map_append, List.append_assoc]; rfl]
    simp only [vaE, ↓reduceIte, reduceCtorEq, Nat.reduceEqDiff, Nat.reduceAdd, Nat.reduceMul, Nat.reduceSub, Nat.reduceLeDiff, Nat.reduceBEq, Int.reduceToNat, Int.reduceLE, Int.reduceLT, Int.reduceEq, Int.reduceNe, di] <;> rfl

theorem r_Fastest {x : Ln} {t : Tk} (hx : LineOk x) (ht : TkOk t) : Contract Try.prog 64 [lnI x, tkI t] (.tup [nI (fast (opn x) t), .bool (decide (fast (opn x) t ≠ []))]) := by
  have hmo := ht.mo
  have hcl := ht.cl
  refine contract_run Try.func64 k64 rfl ?_
  simp only [body64, b64, res64, b64k0, b64k1, b64k2, b64k3, b64k4, vaE, ↓reduceIte, reduceCtorEq, Nat.reduceEqDiff, Nat.reduceAdd, Nat.reduceMul, Nat.reduceSub, Nat.reduceLeDiff, Nat.reduceBEq, Int.reduceToNat, Int.reduceLE, Int.reduceLT, Int.reduceEq, Int.reduceNe, di]
  refine loop_keep (α := Nat) rfl (fun c => t.mo.toNat - c) (fun c => c ≤ t.mo.toNat ∧ fast (opn x) t = fastL (opn x) t c (t.mo.toNat - c))
    (fun c => [(2, .ref 2 0), (3, .ref 3 0), (6, .imm (.int .i64 ((c : Int) + 1)))])
    (fun _ => [(2, .box [.imm (.slc 2 (x.pp.map ppI)), .imm (nI x.ar)]), (3, .box [.imm (.int .i64 t.cl), .imm (.int .i64 t.mo), .imm (.int .i64 t.ti), .imm (.int .i64 t.lo), .imm (.int .i64 t.hi)])]) 0 ⟨Nat.zero_le _, rfl⟩ (by simp only [vaE, ↓reduceIte, reduceCtorEq, Nat.reduceEqDiff, Nat.reduceAdd, Nat.reduceMul, Nat.reduceSub, Nat.reduceLeDiff, Nat.reduceBEq, Int.reduceToNat, Int.reduceLE, Int.reduceLT, Int.reduceEq, Int.reduceNe, di] <;> rfl) ?_
  rintro c ⟨hc, hf⟩ ih
  simp only [res64, b64k0, b64k1, b64k2, b64k3, b64k4, vaE, ↓reduceIte, reduceCtorEq, Nat.reduceEqDiff, Nat.reduceAdd, Nat.reduceMul, Nat.reduceSub, Nat.reduceLeDiff, Nat.reduceBEq, Int.reduceToNat, Int.reduceLE, Int.reduceLT, Int.reduceEq, Int.reduceNe, di]
  split
  rotate_left
  · rename_i h
    rw [show t.mo.toNat - c = 0 by omega] at hf
    have hf : fast (opn x) t = [] := hf
    rw [hf]
    rfl
  rename_i h
  have hlt : c < t.mo.toNat := by omega
  rw [show t.mo.toNat - c = (t.mo.toNat - (c + 1)) + 1 by omega] at hf
  unfold fastL at hf
  rw [lawsL_nil] at hf
  have hpow : (t.cl.toNat + 1) ^ c ≤ 6 ^ 6 := Nat.le_trans (Nat.pow_le_pow_left (by omega) _) (Nat.pow_le_pow_right (by decide) (by omega))
  have h66 : (6 : Nat) ^ 6 = 46656 := by decide
  have hlen := refL_length (g := t.cl) hcl.1 c 0 (by omega)
  refine calls_of (r_laws (g := t.cl) hcl c 0 (by omega) ⟨by omega, hcl.1⟩) ?_; simp only [vaE, res64, b64k0, b64k1, b64k2, b64k3, b64k4, ↓reduceIte, reduceCtorEq, Nat.reduceEqDiff, Nat.reduceAdd, Nat.reduceMul, Nat.reduceSub, Nat.reduceLeDiff, Nat.reduceBEq, Int.reduceToNat, Int.reduceLE, Int.reduceLT, Int.reduceEq, Int.reduceNe, di]
  refine loop_keep (α := Nat) rfl (fun i => (refL t.cl c 0).length - i) (fun i => i ≤ (refL t.cl c 0).length ∧ (refL t.cl c 0).find? (keeps (opn x) t) = ((refL t.cl c 0).drop i).find? (keeps (opn x) t))
    (fun i => [(2, .ref 2 0), (3, .ref 3 0), (6, .imm (.int .i64 ((c : Int) + 1))), (7, .imm (.slc 1 ((refL t.cl c 0).map nI))), (8, .imm (.int .i64 i))])
    (fun _ => [(2, .box [.imm (.slc 2 (x.pp.map ppI)), .imm (nI x.ar)]), (3, .box [.imm (.int .i64 t.cl), .imm (.int .i64 t.mo), .imm (.int .i64 t.ti), .imm (.int .i64 t.lo), .imm (.int .i64 t.hi)])]) 0 ⟨Nat.zero_le _, rfl⟩ (by simp only [vaE, ↓reduceIte, reduceCtorEq, Nat.reduceEqDiff, Nat.reduceAdd, Nat.reduceMul, Nat.reduceSub, Nat.reduceLeDiff, Nat.reduceBEq, Int.reduceToNat, Int.reduceLE, Int.reduceLT, Int.reduceEq, Int.reduceNe, di] <;> rfl) ?_
  rintro i ⟨hi, hs⟩ ih2
  simp only [res64, b64k0, b64k1, b64k2, b64k3, b64k4, vaE, ↓reduceIte, reduceCtorEq, Nat.reduceEqDiff, Nat.reduceAdd, Nat.reduceMul, Nat.reduceSub, Nat.reduceLeDiff, Nat.reduceBEq, Int.reduceToNat, Int.reduceLE, Int.reduceLT, Int.reduceEq, Int.reduceNe, di]
  split
  rotate_left
  · rename_i h2
    have : i = (refL t.cl c 0).length := by omega
    subst this
    rw [List.drop_length] at hs
    rw [hs] at hf
    rw [wrap64 (by omega) (by omega)]
    exact ih (c + 1) _ _ (by omega) ⟨by omega, hf⟩ (by simp only [vaE, ↓reduceIte, reduceCtorEq, Nat.reduceEqDiff, Nat.reduceAdd, Nat.reduceMul, Nat.reduceSub, Nat.reduceLeDiff, Nat.reduceBEq, Int.reduceToNat, Int.reduceLE, Int.reduceLT, Int.reduceEq, Int.reduceNe, di] <;> rfl)
  rename_i h2
  have hl2 : i < (refL t.cl c 0).length := by omega
  rw [idxF_drop hl2, List.find?_cons] at hs
  have hel := refL_elem (g := t.cl) c 0 _ (getD_mem (d := default) hl2)
  repeat (refine And.intro (by first | omega | exact all_int _ | (simp only [zeros_len, List.length_append, List.length_take, List.length_drop, List.length_set, List.length_cons, List.length_nil, List.length_map]; omega)) ?_)
  have hb := r_Beyond (law := (refL t.cl c 0).getD i default) hx (by omega) ht
  cases hk : keeps (opn x) t ((refL t.cl c 0).getD i default)
  · rw [hk] at hb hs
    rw [if_neg (by simp)] at hb
    refine calls_of hb ?_; simp only [vaE, res64, b64k0, b64k1, b64k2, b64k3, b64k4, ↓reduceIte, reduceCtorEq, Nat.reduceEqDiff, Nat.reduceAdd, Nat.reduceMul, Nat.reduceSub, Nat.reduceLeDiff, Nat.reduceBEq, Int.reduceToNat, Int.reduceLE, Int.reduceLT, Int.reduceEq, Int.reduceNe, di]
    rw [wrap64 (by omega) (by omega)]
    exact ih2 (i + 1) _ _ (by omega) ⟨by omega, hs⟩ (by simp only [vaE, ↓reduceIte, reduceCtorEq, Nat.reduceEqDiff, Nat.reduceAdd, Nat.reduceMul, Nat.reduceSub, Nat.reduceLeDiff, Nat.reduceBEq, Int.reduceToNat, Int.reduceLE, Int.reduceLT, Int.reduceEq, Int.reduceNe, di] <;> rfl)
  · rw [hk] at hb hs
    rw [if_pos rfl] at hb
    refine calls_of hb ?_; simp only [vaE, res64, b64k0, b64k1, b64k2, b64k3, b64k4, ↓reduceIte, reduceCtorEq, Nat.reduceEqDiff, Nat.reduceAdd, Nat.reduceMul, Nat.reduceSub, Nat.reduceLeDiff, Nat.reduceBEq, Int.reduceToNat, Int.reduceLE, Int.reduceLT, Int.reduceEq, Int.reduceNe, di]
    rw [hs] at hf
    have hf : fast (opn x) t = (refL t.cl c 0).getD i default := hf
    have hne : fast (opn x) t ≠ [] := by
      rw [hf]; intro h; rw [h] at hel; cases hel
    rw [decide_eq_true hne, hf]
    exact ⟨h2, rfl⟩
end Go.DI

