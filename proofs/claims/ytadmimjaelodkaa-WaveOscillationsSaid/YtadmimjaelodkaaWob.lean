/- The statement WaveTicks, as a contract; states and ticks in the reference. No condition. -/
import Derived.Test.YtadmimjaelodkaaWoa
set_option linter.unusedSimpArgs false
set_option maxRecDepth 100000
namespace Go.DI
open Go.Proofs Go.RowKit

/-- The pipe of each cell. -/
def ofL : Nat → List Pp → List Int
 | _, [] => []
 | k, p :: r => List.replicate p.1.toNat (k : Int) ++ ofL (k + 1) r
theorem ofL_length : ∀ (l : List Pp) (k : Nat), (∀ p ∈ l, 1 ≤ p.1 ∧ p.1 ≤ 6) → ((ofL k l).length : Int) = cellsN l
 | [], _, _ => rfl
 | p :: r, k, h => by
  have h1 := h p (by simp)
  have h2 := ofL_length r (k + 1) fun q hq => h q (by simp [hq])
  simp only [ofL, List.length_append, List.length_replicate, cellsN]
  omega
/-- … from a pipe's cell on. -/
theorem ofL_append : ∀ (l m : List Pp) (k : Nat), ofL k (l ++ m) = ofL k l ++ ofL (k + l.length) m
 | [], m, k => by simp [ofL]
 | p :: r, m, k => by
  simp only [List.cons_append, ofL, ofL_append r m (k + 1), List.length_cons, List.append_assoc]
  rw [show k + 1 + r.length = k + (r.length + 1) by omega]
theorem r_Of {x : Ln} (hx : LineOk x) : Contract Try.prog 97 [lnI x] (nI (ofL 0 x.pp)) := by
 have hl := hx.len
 refine contract_run Try.func97 k97 rfl ?_
 simp only [body97, b97, res97, b97k0, b97k1, b97k2, b97k3, vaE, ↓reduceIte, reduceCtorEq, Nat.reduceEqDiff, Nat.reduceAdd, Nat.reduceMul, Nat.reduceSub, Nat.reduceLeDiff, Nat.reduceBEq, Int.reduceToNat, Int.reduceLE, Int.reduceLT, Int.reduceEq, Int.reduceNe, di]
 refine loop_keep (α := Nat) rfl (fun k => x.pp.length - k) (fun k => k ≤ x.pp.length)
  (fun k => [(1, .ref 1 0), (3, .own 3), (4, .imm (.int .i64 k))]) (fun k => [(1, .box [.imm (.slc 2 (x.pp.map ppI)), .imm (nI x.ar)]), (3, .tok 1 ((ofL 0 (x.pp.take k)).map (.int .i64)))]) 0 (Nat.zero_le _) (by simp only [vaE, ↓reduceIte, reduceCtorEq, Nat.reduceEqDiff, Nat.reduceAdd, Nat.reduceMul, Nat.reduceSub, Nat.reduceLeDiff, Nat.reduceBEq, Int.reduceToNat, Int.reduceLE, Int.reduceLT, Int.reduceEq, Int.reduceNe, di] <;> rfl) ?_
 intro k hk ih
 have hb1 := ofL_length (x.pp.take k) 0 fun p hp => (hx.pip p (List.mem_of_mem_take hp)).1
 have hb2 := cellsN_bd (x.pp.take k) fun p hp => (hx.pip p (List.mem_of_mem_take hp)).1
 have hb3 := List.length_take (i := k) (l := x.pp)
 simp only [res97, b97k0, b97k1, b97k2, b97k3, vaE, ↓reduceIte, reduceCtorEq, Nat.reduceEqDiff, Nat.reduceAdd, Nat.reduceMul, Nat.reduceSub, Nat.reduceLeDiff, Nat.reduceBEq, Int.reduceToNat, Int.reduceLE, Int.reduceLT, Int.reduceEq, Int.reduceNe, di]
 split
 ·rename_i h
  have hlt : k < x.pp.length := by omega
  have hp := hx.pip _ (getD_mem (d := default) hlt)
  refine loop_keep (α := Nat) rfl (fun n => (x.pp.getD k default).1.toNat - n) (fun n => (n : Int) ≤ (x.pp.getD k default).1)
   (fun n => [(1, .ref 1 0), (3, .own 3), (4, .imm (.int .i64 k)), (5, .imm (.int .i64 n))]) (fun n => [(1, .box [.imm (.slc 2 (x.pp.map ppI)), .imm (nI x.ar)]), (3, .tok 1 ((ofL 0 (x.pp.take k) ++ List.replicate n (k : Int)).map (.int .i64)))]) 0 (by omega) (by simp only [List.replicate_zero, List.append_nil, vaE, ↓reduceIte, reduceCtorEq, Nat.reduceEqDiff, Nat.reduceAdd, Nat.reduceMul, Nat.reduceSub, Nat.reduceLeDiff, Nat.reduceBEq, Int.reduceToNat, Int.reduceLE, Int.reduceLT, Int.reduceEq, Int.reduceNe, di] <;> rfl) ?_
  intro n hn ih2
  simp only [res97, b97k0, b97k1, b97k2, b97k3, vaE, ↓reduceIte, reduceCtorEq, Nat.reduceEqDiff, Nat.reduceAdd, Nat.reduceMul, Nat.reduceSub, Nat.reduceLeDiff, Nat.reduceBEq, Int.reduceToNat, Int.reduceLE, Int.reduceLT, Int.reduceEq, Int.reduceNe, di]
  repeat (refine And.intro (by first | omega | exact all_int _ | (simp only [zeros_len, List.length_append, List.length_take, List.length_drop, List.length_set, List.length_cons, List.length_nil, List.length_map]; omega)) ?_)
  split
  ·rename_i h2
   refine And.intro ?_ (And.intro ?_ ?_)
   ·simp only [List.length_append, List.length_replicate]; omega
   ·simp only [List.length_append, List.length_replicate]; omega
   rw [wrap64 (by omega) (by omega)]
   refine ih2 (n + 1) _ _ (by omega) (by omega) ?_
   rw [List.replicate_succ', ← List.append_assoc]
   simp only [vaE, ↓reduceIte, reduceCtorEq, Nat.reduceEqDiff, Nat.reduceAdd, Nat.reduceMul, Nat.reduceSub, Nat.reduceLeDiff, Nat.reduceBEq, Int.reduceToNat, Int.reduceLE, Int.reduceLT, Int.reduceEq, Int.reduceNe, di] <;> rfl
  ·rename_i h2
   have hne : (n : Int) = (x.pp.getD k default).1 := by omega
   rw [wrap64 (by omega) (by omega)]
   refine ih (k + 1) _ _ (by omega) (by omega) ?_
   have e : x.pp.take (k + 1) = x.pp.take k ++ [x.pp.getD k default] := by
    rw [List.take_succ_eq_append_getElem hlt]
    simp [List.getD_eq_getElem?_getD, hlt]
   rw [e, ofL_append, hb3, Nat.min_eq_left (by omega), Nat.zero_add]
   simp only [ofL, List.append_nil]
   rw [← hne, Int.toNat_natCast]
   simp only [vaE, ↓reduceIte, reduceCtorEq, Nat.reduceEqDiff, Nat.reduceAdd, Nat.reduceMul, Nat.reduceSub, Nat.reduceLeDiff, Nat.reduceBEq, Int.reduceToNat, Int.reduceLE, Int.reduceLT, Int.reduceEq, Int.reduceNe, di] <;> rfl
 ·rename_i h
  have : k = x.pp.length := by omega
  subst this
  rw [List.take_length]
theorem r_Cells {x : Ln} (hx : LineOk x) : Contract Try.prog 40 [lnI x] (.int .i64 (opn x).n) := by
 have h := ofL_length x.pp 0 fun p hp => (hx.pip p hp).1
 refine contract_run Try.func40 k40 rfl ?_
 simp only [body40, b40, res40, vaE, ↓reduceIte, reduceCtorEq, Nat.reduceEqDiff, Nat.reduceAdd, Nat.reduceMul, Nat.reduceSub, Nat.reduceLeDiff, Nat.reduceBEq, Int.reduceToNat, Int.reduceLE, Int.reduceLT, Int.reduceEq, Int.reduceNe, di]
 refine calls_of (r_Of hx) ?_; simp only [vaE, res40, ↓reduceIte, reduceCtorEq, Nat.reduceEqDiff, Nat.reduceAdd, Nat.reduceMul, Nat.reduceSub, Nat.reduceLeDiff, Nat.reduceBEq, Int.reduceToNat, Int.reduceLE, Int.reduceLT, Int.reduceEq, Int.reduceNe, di]
 rw [h]
 rfl
end Go.DI

