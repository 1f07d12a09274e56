/- Contracts of the lakes. No condition. -/
import Derived.Test.YtbmlfeikdhpdfaaJe
import Derived.Test.YtbmlfeikdhpdfaaJg
import Derived.Test.YtbmlfeikdhpdfaaJf
/- Contracts: the program's tables of lakes, checked. No condition. -/
set_option linter.unusedSimpArgs false
namespace Go.DI
open Go.Proofs Go.RowKit Lk

def knI (k : Kn) : IV := .agg [.int .i64 k.1, .int .i64 k.2]
/-- Pairs, states, flows, readings, ranges as the program has them. -/
def lpI (p : Pair) : IV := .agg [.slc 2 (p.u.map knI), .slc 2 (p.l.map knI), .int .i64 p.rate]
def stI (s : Sta) : IV := .agg [.int .i64 s.1, .int .i64 s.2]
def flI (x : Flow) : IV := .agg [.int .i64 x.up, .int .i64 x.low, .int .i64 x.ex]
def rdI (r : Rdg) : IV := .agg [.int .i64 r.tick, .int .i64 r.lo, .int .i64 r.hi]
def rnI (r : Rn) : IV := .agg [.int .i64 r.1, .int .i64 r.2]
theorem getD_kn {l : List Kn} {i : Nat} : l.getD i default = kn l i := rfl
/-- A table as the program has it. -/
def tabI (l : List Kn) : IV := .agg [.slc 2 (l.map knI)]

theorem p_within {x lo hi : Int} : Contract Try.prog 69 [.int .i64 x, .int .i64 lo, .int .i64 hi] (.bool (decide (Wi x lo hi))) := by
  unfold Wi
  refine contract_run Try.func69 k69 rfl ?_
  simp only [body69, b69, res69, ↓reduceIte, reduceCtorEq, Nat.reduceEqDiff, Nat.reduceAdd, Nat.reduceMul, Nat.reduceSub, Nat.reduceLeDiff, Nat.reduceBEq, Int.reduceToNat, Int.reduceLE, Int.reduceLT, Int.reduceEq, Int.reduceNe, di0, di1, di2, di3, di4, di5, di6, di7, di8, di9, postX_ret, postX_normal, ex_some]
  split
  · rename_i h; simp [h]
  · rename_i h; simp [h]

theorem p_unless {b : Bool} {e : Int} : Contract Try.prog 67 [.bool b, .int .i64 e] (.int .i64 (if b = true then 0 else e)) := by
  refine contract_run Try.func67 k67 rfl ?_
  simp only [body67, b67, res67, b67k0, ↓reduceIte, reduceCtorEq, Nat.reduceEqDiff, Nat.reduceAdd, Nat.reduceMul, Nat.reduceSub, Nat.reduceLeDiff, Nat.reduceBEq, Int.reduceToNat, Int.reduceLE, Int.reduceLT, Int.reduceEq, Int.reduceNe, di0, di1, di2, di3, di4, di5, di6, di7, di8, di9, postX_ret, postX_normal, ex_some]
  split
  · rfl
  · rfl

def firstNZ : List Int → Int
  | [] => 0
  | x :: r => if x = 0 then firstNZ r else x

theorem p_first {l : List Int} (hl : l.length ≤ 1000000000000) : Contract Try.prog 64 [.slc 1 (l.map (.int .i64))] (.int .i64 (firstNZ l)) := by
  refine contract_run Try.func64 k64 rfl ?_
  simp only [body64, b64, res64, b64k0, b64k1, b64k2, ↓reduceIte, reduceCtorEq, Nat.reduceEqDiff, Nat.reduceAdd, Nat.reduceMul, Nat.reduceSub, Nat.reduceLeDiff, Nat.reduceBEq, Int.reduceToNat, Int.reduceLE, Int.reduceLT, Int.reduceEq, Int.reduceNe, di0, di1, di2, di3, di4, di5, di6, di7, di8, di9, postX_ret, postX_normal, ex_some]
  refine loop_keep (α := Nat) rfl (fun i => l.length - i) (fun i => i ≤ l.length ∧ firstNZ (l.drop i) = firstNZ l)
    (fun i => [(5, .imm (.slc 1 (l.map (.int .i64)))), (6, .imm (.int .i64 l.length)), (7, .imm (.int .i64 i))]) (fun _ => []) 0 ⟨Nat.zero_le _, rfl⟩ (by simp only [↓reduceIte, reduceCtorEq, Nat.reduceEqDiff, Nat.reduceAdd, Nat.reduceMul, Nat.reduceSub, Nat.reduceLeDiff, Nat.reduceBEq, Int.reduceToNat, Int.reduceLE, Int.reduceLT, Int.reduceEq, Int.reduceNe, di0, di1, di2, di3, di4, di5, di6, di7, di8, di9, postX_ret, postX_normal, ex_some] <;> rfl) ?_
  intro i ⟨hi, he⟩ ih
  simp only [res64, b64k0, b64k1, b64k2, ↓reduceIte, reduceCtorEq, Nat.reduceEqDiff, Nat.reduceAdd, Nat.reduceMul, Nat.reduceSub, Nat.reduceLeDiff, Nat.reduceBEq, Int.reduceToNat, Int.reduceLE, Int.reduceLT, Int.reduceEq, Int.reduceNe, di0, di1, di2, di3, di4, di5, di6, di7, di8, di9, postX_ret, postX_normal, ex_some]
  split
  · rename_i h
    have hd : l.drop i = l.getD i 0 :: l.drop (i + 1) := by
      rw [List.drop_eq_getElem_cons (by omega)]
      congr 1
      rw [List.getD_eq_getElem?_getD]; simp [show i < l.length by omega]
    repeat (refine And.intro (by omega) ?_)
    split
    · rename_i h2
      rw [wrap64 (by omega) (by omega)]
      refine ih (i + 1) _ _ (by omega) ⟨by omega, ?_⟩ (by simp only [↓reduceIte, reduceCtorEq, Nat.reduceEqDiff, Nat.reduceAdd, Nat.reduceMul, Nat.reduceSub, Nat.reduceLeDiff, Nat.reduceBEq, Int.reduceToNat, Int.reduceLE, Int.reduceLT, Int.reduceEq, Int.reduceNe, di0, di1, di2, di3, di4, di5, di6, di7, di8, di9, postX_ret, postX_normal, ex_some] <;> rfl)
      rw [← he, hd, firstNZ, if_pos h2]
    · rename_i h2
      rw [← he, hd, firstNZ, if_neg h2]
  · rename_i h
    rw [← he, List.drop_eq_nil_of_le (by omega)]
    rfl

theorem p_first2 {a b : Int} : Contract Try.prog 64 [.slc 1 [.int .i64 a, .int .i64 b]] (.int .i64 (if a = 0 then b else a)) := by
  have h := p_first (l := [a, b]) (by simp)
  have e : firstNZ [a, b] = if a = 0 then b else a := by
    simp only [firstNZ]
    split
    · split <;> omega
    · rfl
  rw [e] at h
  exact h
theorem p_first3 {a b c : Int} : Contract Try.prog 64 [.slc 1 [.int .i64 a, .int .i64 b, .int .i64 c]] (.int .i64 (if a = 0 then if b = 0 then c else b else a)) := by
  have h := p_first (l := [a, b, c]) (by simp)
  have e : firstNZ [a, b, c] = if a = 0 then if b = 0 then c else b else a := by
    simp only [firstNZ]
    split
    · split
      · split <;> omega
      · rfl
    · rfl
  rw [e] at h
  exact h

theorem tdiv_floor {n d : Int} (hd : 0 < d) : (if n.tmod d < 0 then n.tdiv d - 1 else n.tdiv d) = n / d := by
  have h3 := Int.emod_nonneg n (show d ≠ 0 by omega)
  have h4 := Int.emod_lt_of_pos n hd
  rw [Int.tdiv_eq_ediv, Int.tmod_eq_emod, Int.sign_eq_one_of_pos hd]
  by_cases k : 0 ≤ n ∨ d ∣ n
  · rw [if_pos k, if_pos k, if_neg (by omega)]; omega
  · rw [if_neg k, if_neg k, if_pos (by omega)]; omega

theorem ediv_bd {n d : Int} (_ : 0 < d) (h1 : -4000000000000000000 ≤ n) (h2 : n ≤ 4000000000000000000) : -4000000000000000000 ≤ n / d ∧ n / d ≤ 4000000000000000000 := by
  have := Int.natAbs_ediv_le_natAbs n d
  omega

theorem p_floor {n d : Int} (hd : 0 < d) (h1 : -4000000000000000000 ≤ n) (h2 : n ≤ 4000000000000000000) : Contract Try.prog 109 [.int .i64 n, .int .i64 d] (.int .i64 (n / d)) := by
  have h0 := tdiv_floor (n := n) hd
  have h3 := ediv_bd hd h1 h2
  refine contract_run Try.func109 k109 rfl ?_
  simp only [body109, b109, res109, b109k0, ↓reduceIte, reduceCtorEq, Nat.reduceEqDiff, Nat.reduceAdd, Nat.reduceMul, Nat.reduceSub, Nat.reduceLeDiff, Nat.reduceBEq, Int.reduceToNat, Int.reduceLE, Int.reduceLT, Int.reduceEq, Int.reduceNe, di0, di1, di2, di3, di4, di5, di6, di7, di8, di9, postX_ret, postX_normal, ex_some]
  have hb : -4000000000000000000 ≤ n.tdiv d ∧ n.tdiv d ≤ 4000000000000000001 := by split at h0 <;> omega
  rw [wrap64 (n := n.tdiv d) (by omega) (by omega)]
  refine ⟨by omega, by omega, ?_⟩
  split
  · rename_i h; rw [if_pos h] at h0; rw [wrap64 (by omega) (by omega), h0]
  · rename_i h; rw [if_neg h] at h0; rw [h0]

theorem p_ceil {n d : Int} (hd : 0 < d) (h1 : -4000000000000000000 ≤ n) (h2 : n ≤ 4000000000000000000) : Contract Try.prog 110 [.int .i64 n, .int .i64 d] (.int .i64 (cdiv n d)) := by
  have h3 := ediv_bd (n := -n) hd (by omega) (by omega)
  refine contract_run Try.func110 k110 rfl ?_
  simp only [body110, b110, res110, ↓reduceIte, reduceCtorEq, Nat.reduceEqDiff, Nat.reduceAdd, Nat.reduceMul, Nat.reduceSub, Nat.reduceLeDiff, Nat.reduceBEq, Int.reduceToNat, Int.reduceLE, Int.reduceLT, Int.reduceEq, Int.reduceNe, di0, di1, di2, di3, di4, di5, di6, di7, di8, di9, postX_ret, postX_normal, ex_some]
  rw [wrap64 (n := 0 - n) (by omega) (by omega), Int.zero_sub]
  refine calls_of (p_floor hd (by omega) (by omega)) ?_; simp only [res110, ↓reduceIte, reduceCtorEq, Nat.reduceEqDiff, Nat.reduceAdd, Nat.reduceMul, Nat.reduceSub, Nat.reduceLeDiff, Nat.reduceBEq, Int.reduceToNat, Int.reduceLE, Int.reduceLT, Int.reduceEq, Int.reduceNe, di0, di1, di2, di3, di4, di5, di6, di7, di8, di9, postX_ret, postX_normal, ex_some]
  rw [wrap64 (by omega) (by omega), Int.zero_sub]
  rfl

/-- Two knots, in range. -/
def KB (k : Kn) : Prop := -1000000000 ≤ k.1 ∧ k.1 ≤ 1000000000 ∧ -1000000000 ≤ k.2 ∧ k.2 ≤ 1000000000
def pieceI (a b : Kn) : IV := .agg [.int .i64 a.1, .int .i64 a.2, .int .i64 b.1, .int .i64 b.2]

theorem p_height {a b : Kn} (ha : KB a) (hb : KB b) : Contract Try.prog 79 [pieceI a b] (.int .i64 (b.1 - a.1)) := by
  unfold KB at ha hb
  refine contract_run Try.func79 k79 rfl ?_
  simp only [pieceI, body79, b79, res79, ↓reduceIte, reduceCtorEq, Nat.reduceEqDiff, Nat.reduceAdd, Nat.reduceMul, Nat.reduceSub, Nat.reduceLeDiff, Nat.reduceBEq, Int.reduceToNat, Int.reduceLE, Int.reduceLT, Int.reduceEq, Int.reduceNe, di0, di1, di2, di3, di4, di5, di6, di7, di8, di9, postX_ret, postX_normal, ex_some]
  rw [wrap64 (by omega) (by omega)]
theorem p_volume {a b : Kn} (ha : KB a) (hb : KB b) : Contract Try.prog 80 [pieceI a b] (.int .i64 (b.2 - a.2)) := by
  unfold KB at ha hb
  refine contract_run Try.func80 k80 rfl ?_
  simp only [pieceI, body80, b80, res80, ↓reduceIte, reduceCtorEq, Nat.reduceEqDiff, Nat.reduceAdd, Nat.reduceMul, Nat.reduceSub, Nat.reduceLeDiff, Nat.reduceBEq, Int.reduceToNat, Int.reduceLE, Int.reduceLT, Int.reduceEq, Int.reduceNe, di0, di1, di2, di3, di4, di5, di6, di7, di8, di9, postX_ret, postX_normal, ex_some]
  rw [wrap64 (by omega) (by omega)]

theorem mul_bd {x y : Int} (h1 : -2000000000 ≤ x) (h2 : x ≤ 2000000000) (h3 : -2000000000 ≤ y) (h4 : y ≤ 2000000000) : -4000000000000000000 ≤ x * y ∧ x * y ≤ 4000000000000000000 := by
  have h : (x * y).natAbs ≤ 2000000000 * 2000000000 := by
    rw [Int.natAbs_mul]; exact Nat.mul_le_mul (by omega) (by omega)
  omega

theorem p_narrower {a b c d : Kn} (ha : KB a) (hb : KB b) (hc : KB c) (hd : KB d) :
    Contract Try.prog 81 [pieceI a b, pieceI c d] (.bool (decide ((b.2 - a.2) * (d.1 - c.1) < (d.2 - c.2) * (b.1 - a.1)))) := by
  have m1 := mul_bd (x := b.2 - a.2) (y := d.1 - c.1) (by unfold KB at *; omega) (by unfold KB at *; omega) (by unfold KB at *; omega) (by unfold KB at *; omega)
  have m2 := mul_bd (x := d.2 - c.2) (y := b.1 - a.1) (by unfold KB at *; omega) (by unfold KB at *; omega) (by unfold KB at *; omega) (by unfold KB at *; omega)
  refine contract_run Try.func81 k81 rfl ?_
  simp only [pieceI, body81, b81, res81, ↓reduceIte, reduceCtorEq, Nat.reduceEqDiff, Nat.reduceAdd, Nat.reduceMul, Nat.reduceSub, Nat.reduceLeDiff, Nat.reduceBEq, Int.reduceToNat, Int.reduceLE, Int.reduceLT, Int.reduceEq, Int.reduceNe, di0, di1, di2, di3, di4, di5, di6, di7, di8, di9, postX_ret, postX_normal, ex_some]
  refine calls_of (p_volume ha hb) ?_; simp only [res81, ↓reduceIte, reduceCtorEq, Nat.reduceEqDiff, Nat.reduceAdd, Nat.reduceMul, Nat.reduceSub, Nat.reduceLeDiff, Nat.reduceBEq, Int.reduceToNat, Int.reduceLE, Int.reduceLT, Int.reduceEq, Int.reduceNe, di0, di1, di2, di3, di4, di5, di6, di7, di8, di9, postX_ret, postX_normal, ex_some]
  refine calls_of (p_height hc hd) ?_; simp only [res81, ↓reduceIte, reduceCtorEq, Nat.reduceEqDiff, Nat.reduceAdd, Nat.reduceMul, Nat.reduceSub, Nat.reduceLeDiff, Nat.reduceBEq, Int.reduceToNat, Int.reduceLE, Int.reduceLT, Int.reduceEq, Int.reduceNe, di0, di1, di2, di3, di4, di5, di6, di7, di8, di9, postX_ret, postX_normal, ex_some]
  refine calls_of (p_volume hc hd) ?_; simp only [res81, ↓reduceIte, reduceCtorEq, Nat.reduceEqDiff, Nat.reduceAdd, Nat.reduceMul, Nat.reduceSub, Nat.reduceLeDiff, Nat.reduceBEq, Int.reduceToNat, Int.reduceLE, Int.reduceLT, Int.reduceEq, Int.reduceNe, di0, di1, di2, di3, di4, di5, di6, di7, di8, di9, postX_ret, postX_normal, ex_some]
  refine calls_of (p_height ha hb) ?_; simp only [res81, ↓reduceIte, reduceCtorEq, Nat.reduceEqDiff, Nat.reduceAdd, Nat.reduceMul, Nat.reduceSub, Nat.reduceLeDiff, Nat.reduceBEq, Int.reduceToNat, Int.reduceLE, Int.reduceLT, Int.reduceEq, Int.reduceNe, di0, di1, di2, di3, di4, di5, di6, di7, di8, di9, postX_ret, postX_normal, ex_some]
  rw [wrap64 (n := (b.2 - a.2) * (d.1 - c.1)) (by omega) (by omega), wrap64 (n := (d.2 - c.2) * (b.1 - a.1)) (by omega) (by omega)]

/-- An index and an error. -/
def pairI (r : Int × Int) : IV := .tup [.int .i64 r.1, .int .i64 r.2]

theorem firstE_succ {f : Nat → Int} {m i : Nat} : firstE f (m + 1) i = if f i = 0 then firstE f m (i + 1) else ((i : Int), f i) := rfl

theorem kb_of {l : List Kn} {i : Nat} (h : knotErr l i = 0) : KB (kn l i) := by
  unfold knotErr at h
  split at h
  · omega
  · rename_i k; simp only [Decidable.not_not, Wi] at k; unfold KB; omega

theorem p_CheckTable {l : List Kn} (hl : l.length ≤ 1000000000000) : Contract Try.prog 37 [tabI l] (pairI (chkT l)) := by
  refine contract_run Try.func37 k37 rfl ?_
  simp only [tabI, pairI, body37, b37, res37, b37k0, b37k1, b37k2, b37k3, b37k4, b37k5, b37k6, ↓reduceIte, reduceCtorEq, Nat.reduceEqDiff, Nat.reduceAdd, Nat.reduceMul, Nat.reduceSub, Nat.reduceLeDiff, Nat.reduceBEq, Int.reduceToNat, Int.reduceLE, Int.reduceLT, Int.reduceEq, Int.reduceNe, di0, di1, di2, di3, di4, di5, di6, di7, di8, di9, postX_ret, postX_normal, ex_some]
  refine calls_of p_unless ?_; simp only [res37, b37k0, b37k1, b37k2, b37k3, b37k4, b37k5, b37k6, ↓reduceIte, reduceCtorEq, Nat.reduceEqDiff, Nat.reduceAdd, Nat.reduceMul, Nat.reduceSub, Nat.reduceLeDiff, Nat.reduceBEq, Int.reduceToNat, Int.reduceLE, Int.reduceLT, Int.reduceEq, Int.reduceNe, di0, di1, di2, di3, di4, di5, di6, di7, di8, di9, postX_ret, postX_normal, ex_some]
  refine calls_of p_unless ?_; simp only [res37, b37k0, b37k1, b37k2, b37k3, b37k4, b37k5, b37k6, ↓reduceIte, reduceCtorEq, Nat.reduceEqDiff, Nat.reduceAdd, Nat.reduceMul, Nat.reduceSub, Nat.reduceLeDiff, Nat.reduceBEq, Int.reduceToNat, Int.reduceLE, Int.reduceLT, Int.reduceEq, Int.reduceNe, di0, di1, di2, di3, di4, di5, di6, di7, di8, di9, postX_ret, postX_normal, ex_some]
  refine calls_of p_first2 ?_; simp only [res37, b37k0, b37k1, b37k2, b37k3, b37k4, b37k5, b37k6, ↓reduceIte, reduceCtorEq, Nat.reduceEqDiff, Nat.reduceAdd, Nat.reduceMul, Nat.reduceSub, Nat.reduceLeDiff, Nat.reduceBEq, Int.reduceToNat, Int.reduceLE, Int.reduceLT, Int.reduceEq, Int.reduceNe, di0, di1, di2, di3, di4, di5, di6, di7, di8, di9, postX_ret, postX_normal, ex_some]
  unfold chkT
  by_cases h1 : l.length < 2
  · simp only [if_neg (show ¬ 1 < (l.length : Int) by omega), if_pos h1, ↓reduceIte, reduceCtorEq, Nat.reduceEqDiff, Nat.reduceAdd, Nat.reduceMul, Nat.reduceSub, Nat.reduceLeDiff, Nat.reduceBEq, Int.reduceToNat, Int.reduceLE, Int.reduceLT, Int.reduceEq, Int.reduceNe, di0, di1, di2, di3, di4, di5, di6, di7, di8, di9, postX_ret, postX_normal, ex_some]
  · by_cases h2 : 10 < l.length
    · simp only [if_pos (show 1 < (l.length : Int) by omega), if_neg (show ¬ (l.length : Int) ≤ 10 by omega), if_neg h1, if_pos h2, ↓reduceIte, reduceCtorEq, Nat.reduceEqDiff, Nat.reduceAdd, Nat.reduceMul, Nat.reduceSub, Nat.reduceLeDiff, Nat.reduceBEq, Int.reduceToNat, Int.reduceLE, Int.reduceLT, Int.reduceEq, Int.reduceNe, di0, di1, di2, di3, di4, di5, di6, di7, di8, di9, postX_ret, postX_normal, ex_some]
    · simp only [if_pos (show 1 < (l.length : Int) by omega), if_pos (show (l.length : Int) ≤ 10 by omega), if_neg h1, if_neg h2, ↓reduceIte, reduceCtorEq, Nat.reduceEqDiff, Nat.reduceAdd, Nat.reduceMul, Nat.reduceSub, Nat.reduceLeDiff, Nat.reduceBEq, Int.reduceToNat, Int.reduceLE, Int.reduceLT, Int.reduceEq, Int.reduceNe, di0, di1, di2, di3, di4, di5, di6, di7, di8, di9, postX_ret, postX_normal, ex_some]
      refine loop_keep (α := Nat) rfl (fun i => l.length - i) (fun i => i ≤ l.length ∧ (∀ j, j < i → knotErr l j = 0) ∧ firstE (knotErr l) (l.length - i) i = firstE (knotErr l) l.length 0)
        (fun i => [(1, .ref 1 0), (24, .imm (.slc 2 (l.map knI))), (25, .imm (.int .i64 l.length)), (26, .imm (.int .i64 i))]) (fun _ => [(1, .box [.imm (.slc 2 (l.map knI))])]) 0 ⟨Nat.zero_le _, fun j hj => by omega, rfl⟩ (by simp only [↓reduceIte, reduceCtorEq, Nat.reduceEqDiff, Nat.reduceAdd, Nat.reduceMul, Nat.reduceSub, Nat.reduceLeDiff, Nat.reduceBEq, Int.reduceToNat, Int.reduceLE, Int.reduceLT, Int.reduceEq, Int.reduceNe, di0, di1, di2, di3, di4, di5, di6, di7, di8, di9, postX_ret, postX_normal, ex_some] <;> rfl) ?_
      intro i ⟨hi, hb, he⟩ ih
      rw [← he]
      simp only [res37, b37k0, b37k1, b37k2, b37k3, b37k4, b37k5, b37k6, ↓reduceIte, reduceCtorEq, Nat.reduceEqDiff, Nat.reduceAdd, Nat.reduceMul, Nat.reduceSub, Nat.reduceLeDiff, Nat.reduceBEq, Int.reduceToNat, Int.reduceLE, Int.reduceLT, Int.reduceEq, Int.reduceNe, di0, di1, di2, di3, di4, di5, di6, di7, di8, di9, postX_ret, postX_normal, ex_some]
      split
      · rename_i h
        have hil : i < l.length := by omega
        rw [show l.length - i = (l.length - (i + 1)) + 1 by omega, firstE_succ]
        have hnext : knotErr l i = 0 → firstE (knotErr l) (l.length - (i + 1)) (i + 1) = firstE (knotErr l) l.length 0 := by
          intro k
          rw [← he, show l.length - i = (l.length - (i + 1)) + 1 by omega, firstE_succ, if_pos k]
        have hbn : knotErr l i = 0 → ∀ j, j < i + 1 → knotErr l j = 0 := by
          intro k j hj
          by_cases e : j = i
          · subst e; exact k
          · exact hb j (by omega)
        repeat (refine And.intro (by omega) ?_)
        simp only [knI, tabI, pieceI, pairI, getD_kn, ↓reduceIte, reduceCtorEq, Nat.reduceEqDiff, Nat.reduceAdd, Nat.reduceMul, Nat.reduceSub, Nat.reduceLeDiff, Nat.reduceBEq, Int.reduceToNat, Int.reduceLE, Int.reduceLT, Int.reduceEq, Int.reduceNe, di0, di1, di2, di3, di4, di5, di6, di7, di8, di9, postX_ret, postX_normal, ex_some]
        refine calls_of p_within ?_; simp only [knI, tabI, pieceI, pairI, getD_kn, res37, b37k0, b37k1, b37k2, b37k3, b37k4, b37k5, b37k6, ↓reduceIte, reduceCtorEq, Nat.reduceEqDiff, Nat.reduceAdd, Nat.reduceMul, Nat.reduceSub, Nat.reduceLeDiff, Nat.reduceBEq, Int.reduceToNat, Int.reduceLE, Int.reduceLT, Int.reduceEq, Int.reduceNe, di0, di1, di2, di3, di4, di5, di6, di7, di8, di9, postX_ret, postX_normal, ex_some]
        have hbad : ¬ (Wi (kn l i).1 0 1000000 ∧ Wi (kn l i).2 0 1000000000) → knotErr l i = 2 := fun k => by unfold knotErr; rw [if_pos k]
        split
        · rename_i a1
          refine calls_of p_within ?_; simp only [knI, tabI, pieceI, pairI, getD_kn, res37, b37k0, b37k1, b37k2, b37k3, b37k4, b37k5, b37k6, ↓reduceIte, reduceCtorEq, Nat.reduceEqDiff, Nat.reduceAdd, Nat.reduceMul, Nat.reduceSub, Nat.reduceLeDiff, Nat.reduceBEq, Int.reduceToNat, Int.reduceLE, Int.reduceLT, Int.reduceEq, Int.reduceNe, di0, di1, di2, di3, di4, di5, di6, di7, di8, di9, postX_ret, postX_normal, ex_some]
          split
          · rename_i a2
            split
            · rename_i a3
              have k0 : knotErr l i = 0 := by unfold knotErr; rw [if_neg (by simp [a1, a2]), if_pos (by omega)]
              rw [if_pos k0, wrap64 (by omega) (by omega)]
              rw [hnext k0]
              refine ih (i + 1) _ _ (by omega) ⟨by omega, hbn k0, hnext k0⟩ (by simp only [↓reduceIte, reduceCtorEq, Nat.reduceEqDiff, Nat.reduceAdd, Nat.reduceMul, Nat.reduceSub, Nat.reduceLeDiff, Nat.reduceBEq, Int.reduceToNat, Int.reduceLE, Int.reduceLT, Int.reduceEq, Int.reduceNe, di0, di1, di2, di3, di4, di5, di6, di7, di8, di9, postX_ret, postX_normal, ex_some] <;> rfl)
            · rename_i a3
              have hi0 : 0 < i := by omega
              have e1 : IntKind.wrap .i64 ((i : Int) - 1) = ((i - 1 : Nat) : Int) := by rw [wrap64 (by omega) (by omega)]; omega
              have kb1 : KB (kn l (i - 1)) := kb_of (hb (i - 1) (by omega))
              have kb2 : KB (kn l i) := by unfold KB; unfold Wi at a1 a2; omega
              have ke : knotErr l i = if (kn l i).1 ≤ (kn l (i - 1)).1 ∨ (kn l i).2 ≤ (kn l (i - 1)).2 then 9
                  else if 1 < i ∧ ((kn l i).2 - (kn l (i - 1)).2) * ((kn l (i - 1)).1 - (kn l (i - 2)).1) < ((kn l (i - 1)).2 - (kn l (i - 2)).2) * ((kn l i).1 - (kn l (i - 1)).1) then 22 else 0 := by
                unfold knotErr; rw [if_neg (by simp [a1, a2]), if_neg (by omega)]
              simp only [e1, knI, tabI, pieceI, pairI, getD_kn, ↓reduceIte, reduceCtorEq, Nat.reduceEqDiff, Nat.reduceAdd, Nat.reduceMul, Nat.reduceSub, Nat.reduceLeDiff, Nat.reduceBEq, Int.reduceToNat, Int.reduceLE, Int.reduceLT, Int.reduceEq, Int.reduceNe, di0, di1, di2, di3, di4, di5, di6, di7, di8, di9, postX_ret, postX_normal, ex_some]
              repeat (refine And.intro (by omega) ?_)
              refine calls_of (p_height kb1 kb2) ?_; simp only [knI, tabI, pieceI, pairI, getD_kn, res37, b37k0, b37k1, b37k2, b37k3, b37k4, b37k5, b37k6, ↓reduceIte, reduceCtorEq, Nat.reduceEqDiff, Nat.reduceAdd, Nat.reduceMul, Nat.reduceSub, Nat.reduceLeDiff, Nat.reduceBEq, Int.reduceToNat, Int.reduceLE, Int.reduceLT, Int.reduceEq, Int.reduceNe, di0, di1, di2, di3, di4, di5, di6, di7, di8, di9, postX_ret, postX_normal, ex_some]
              split
              · rename_i a4
                have k9 : knotErr l i = 9 := ke.trans (if_pos (.inl (by omega)))
                rw [k9, if_neg (by omega)]
              · rename_i a4
                refine calls_of (p_volume kb1 kb2) ?_; simp only [knI, tabI, pieceI, pairI, getD_kn, res37, b37k0, b37k1, b37k2, b37k3, b37k4, b37k5, b37k6, ↓reduceIte, reduceCtorEq, Nat.reduceEqDiff, Nat.reduceAdd, Nat.reduceMul, Nat.reduceSub, Nat.reduceLeDiff, Nat.reduceBEq, Int.reduceToNat, Int.reduceLE, Int.reduceLT, Int.reduceEq, Int.reduceNe, di0, di1, di2, di3, di4, di5, di6, di7, di8, di9, postX_ret, postX_normal, ex_some]
                split
                · rename_i a5
                  have k9 : knotErr l i = 9 := ke.trans (if_pos (.inr (by omega)))
                  rw [k9, if_neg (by omega)]
                · rename_i a5
                  rw [if_neg (show ¬ ((kn l i).1 ≤ (kn l (i - 1)).1 ∨ (kn l i).2 ≤ (kn l (i - 1)).2) by omega)] at ke
                  split
                  · rename_i a6
                    have e2 : IntKind.wrap .i64 ((i : Int) - 2) = ((i - 2 : Nat) : Int) := by rw [wrap64 (by omega) (by omega)]; omega
                    have kb3 : KB (kn l (i - 2)) := kb_of (hb (i - 2) (by omega))
                    simp only [e1, e2, knI, tabI, pieceI, pairI, getD_kn, ↓reduceIte, reduceCtorEq, Nat.reduceEqDiff, Nat.reduceAdd, Nat.reduceMul, Nat.reduceSub, Nat.reduceLeDiff, Nat.reduceBEq, Int.reduceToNat, Int.reduceLE, Int.reduceLT, Int.reduceEq, Int.reduceNe, di0, di1, di2, di3, di4, di5, di6, di7, di8, di9, postX_ret, postX_normal, ex_some]
                    repeat (refine And.intro (by omega) ?_)
                    refine calls_of (p_narrower kb1 kb2 kb3 kb1) ?_; simp only [knI, tabI, pieceI, pairI, getD_kn, res37, b37k0, b37k1, b37k2, b37k3, b37k4, b37k5, b37k6, ↓reduceIte, reduceCtorEq, Nat.reduceEqDiff, Nat.reduceAdd, Nat.reduceMul, Nat.reduceSub, Nat.reduceLeDiff, Nat.reduceBEq, Int.reduceToNat, Int.reduceLE, Int.reduceLT, Int.reduceEq, Int.reduceNe, di0, di1, di2, di3, di4, di5, di6, di7, di8, di9, postX_ret, postX_normal, ex_some]
                    split
                    · rename_i a7
                      rw [if_pos ⟨by omega, a7⟩] at ke
                      rw [ke, if_neg (by omega)]
                    · rename_i a7
                      rw [if_neg (fun k => a7 k.2)] at ke
                      rw [if_pos ke, wrap64 (by omega) (by omega), hnext ke]
                      refine ih (i + 1) _ _ (by omega) ⟨by omega, hbn ke, hnext ke⟩ (by simp only [↓reduceIte, reduceCtorEq, Nat.reduceEqDiff, Nat.reduceAdd, Nat.reduceMul, Nat.reduceSub, Nat.reduceLeDiff, Nat.reduceBEq, Int.reduceToNat, Int.reduceLE, Int.reduceLT, Int.reduceEq, Int.reduceNe, di0, di1, di2, di3, di4, di5, di6, di7, di8, di9, postX_ret, postX_normal, ex_some] <;> rfl)
                  · rename_i a6
                    rw [if_neg (fun k => a6 (by have := k.1; omega))] at ke
                    rw [if_pos ke, wrap64 (by omega) (by omega), hnext ke]
                    refine ih (i + 1) _ _ (by omega) ⟨by omega, hbn ke, hnext ke⟩ (by simp only [↓reduceIte, reduceCtorEq, Nat.reduceEqDiff, Nat.reduceAdd, Nat.reduceMul, Nat.reduceSub, Nat.reduceLeDiff, Nat.reduceBEq, Int.reduceToNat, Int.reduceLE, Int.reduceLT, Int.reduceEq, Int.reduceNe, di0, di1, di2, di3, di4, di5, di6, di7, di8, di9, postX_ret, postX_normal, ex_some] <;> rfl)
          · rename_i a2
            rw [hbad (fun k => a2 k.2), if_neg (by omega)]
        · rename_i a1
          rw [hbad (fun k => a1 k.1), if_neg (by omega)]
      · rename_i h
        rw [show l.length - i = 0 by omega]
        rfl

theorem p_tableErr {l : List Kn} (hl : l.length ≤ 1000000000000) : Contract Try.prog 68 [tabI l] (.int .i64 (chkT l).2) := by
  refine contract_run Try.func68 k68 rfl ?_
  simp only [tabI, body68, b68, res68, ↓reduceIte, reduceCtorEq, Nat.reduceEqDiff, Nat.reduceAdd, Nat.reduceMul, Nat.reduceSub, Nat.reduceLeDiff, Nat.reduceBEq, Int.reduceToNat, Int.reduceLE, Int.reduceLT, Int.reduceEq, Int.reduceNe, di0, di1, di2, di3, di4, di5, di6, di7, di8, di9, postX_ret, postX_normal, ex_some]
  refine calls_of (p_CheckTable hl) ?_
  simp only [pairI, res68, ↓reduceIte, reduceCtorEq, Nat.reduceEqDiff, Nat.reduceAdd, Nat.reduceMul, Nat.reduceSub, Nat.reduceLeDiff, Nat.reduceBEq, Int.reduceToNat, Int.reduceLE, Int.reduceLT, Int.reduceEq, Int.reduceNe, di0, di1, di2, di3, di4, di5, di6, di7, di8, di9, postX_ret, postX_normal, ex_some]

theorem p_CheckTable2 {l : List Kn} (hl : l.length ≤ 1000000000000) : Contract Try.prog 37 [.agg [.slc 2 (l.map knI)]] (.tup [.int .i64 (chkT l).1, .int .i64 (chkT l).2]) := p_CheckTable hl
end Go.DI

/- Contracts: the program's tables of lakes, levels and volumes. No condition. -/
set_option linter.unusedSimpArgs false
namespace Go.DI
open Go.Proofs Go.RowKit Lk

/-- The first place at which p holds, or -1. -/
def indexF {α : Type} (p : α → Bool) : List α → Nat → Int
  | [], _ => -1
  | x :: r, i => if p x then i else indexF p r (i + 1)

theorem indexF_cons {α : Type} {p : α → Bool} {x : α} {r : List α} {i : Nat} : indexF p (x :: r) i = if p x then (i : Int) else indexF p r (i + 1) := rfl
theorem indexF_idx {p : Kn → Bool} {l : List Kn} : ∀ {m j k : Nat}, j + m = l.length → idx p l m j < l.length → indexF p (l.drop j) k = (idx p l m j : Int) - j + k
  | 0, j, k, h, hi => by unfold idx at hi; omega
  | m + 1, j, k, h, hi => by
    rw [List.drop_eq_getElem_cons (by omega)]
    have e : l[j]'(by omega) = kn l j := by unfold kn; rw [List.getD_eq_getElem?_getD]; simp [show j < l.length by omega]
    rw [e]
    unfold indexF
    unfold idx at hi ⊢
    split
    · rename_i h1; omega
    · rename_i h1
      rw [if_neg h1] at hi
      rw [indexF_idx (m := m) (j := j + 1) (k := k + 1) (by omega) hi]
      omega

theorem p_IndexFunc {l : List Kn} {p : Kn → Bool} {g : FuncId} {cap : List IV} (hl : l.length ≤ 1000000000000) (hp : ∀ k ∈ l, Contract Try.prog g (knI k :: cap) (.bool (p k))) :
    Contract Try.prog 125 [.slc 2 (l.map knI), .func g [] cap] (.int .i64 (indexF p l 0)) := by
  refine contract_run Try.func125 k125 rfl ?_
  simp only [body125, b125, res125, b125k0, b125k1, b125k2, ↓reduceIte, reduceCtorEq, Nat.reduceEqDiff, Nat.reduceAdd, Nat.reduceMul, Nat.reduceSub, Nat.reduceLeDiff, Nat.reduceBEq, Int.reduceToNat, Int.reduceLE, Int.reduceLT, Int.reduceEq, Int.reduceNe, di0, di1, di2, di3, di4, di5, di6, di7, di8, di9, postX_ret, postX_normal, ex_some]
  refine loop_keep (α := Nat) rfl (fun i => l.length - i) (fun i => i ≤ l.length ∧ indexF p (l.drop i) i = indexF p l 0)
    (fun i => [(0, .imm (.slc 2 (l.map knI))), (1, .imm (.func g [] cap)), (7, .imm (.int .i64 l.length)), (8, .imm (.int .i64 i))]) (fun _ => []) 0 ⟨Nat.zero_le _, rfl⟩ (by simp only [↓reduceIte, reduceCtorEq, Nat.reduceEqDiff, Nat.reduceAdd, Nat.reduceMul, Nat.reduceSub, Nat.reduceLeDiff, Nat.reduceBEq, Int.reduceToNat, Int.reduceLE, Int.reduceLT, Int.reduceEq, Int.reduceNe, di0, di1, di2, di3, di4, di5, di6, di7, di8, di9, postX_ret, postX_normal, ex_some] <;> rfl) ?_
  intro i ⟨hi, he⟩ ih
  simp only [res125, b125k0, b125k1, b125k2, ↓reduceIte, reduceCtorEq, Nat.reduceEqDiff, Nat.reduceAdd, Nat.reduceMul, Nat.reduceSub, Nat.reduceLeDiff, Nat.reduceBEq, Int.reduceToNat, Int.reduceLE, Int.reduceLT, Int.reduceEq, Int.reduceNe, di0, di1, di2, di3, di4, di5, di6, di7, di8, di9, postX_ret, postX_normal, ex_some]
  split
  · rename_i h
    have hx : l.drop i = kn l i :: l.drop (i + 1) := by
      rw [List.drop_eq_getElem_cons (by omega)]
      congr 1
      unfold kn; rw [List.getD_eq_getElem?_getD]; simp [show i < l.length by omega]
    have hm : kn l i ∈ l := List.mem_of_mem_drop (by rw [hx]; simp)
    rw [hx, indexF_cons] at he
    repeat (refine And.intro (by omega) ?_)
    simp only [knI, tabI, pieceI, pairI, getD_kn, ↓reduceIte, reduceCtorEq, Nat.reduceEqDiff, Nat.reduceAdd, Nat.reduceMul, Nat.reduceSub, Nat.reduceLeDiff, Nat.reduceBEq, Int.reduceToNat, Int.reduceLE, Int.reduceLT, Int.reduceEq, Int.reduceNe, di0, di1, di2, di3, di4, di5, di6, di7, di8, di9, postX_ret, postX_normal, ex_some]
    refine calls_of (hp _ hm) ?_; simp only [knI, tabI, pieceI, pairI, getD_kn, res125, b125k0, b125k1, b125k2, ↓reduceIte, reduceCtorEq, Nat.reduceEqDiff, Nat.reduceAdd, Nat.reduceMul, Nat.reduceSub, Nat.reduceLeDiff, Nat.reduceBEq, Int.reduceToNat, Int.reduceLE, Int.reduceLT, Int.reduceEq, Int.reduceNe, di0, di1, di2, di3, di4, di5, di6, di7, di8, di9, postX_ret, postX_normal, ex_some]
    split
    · rename_i h1
      rw [if_pos h1] at he
      rw [he]
    · rename_i h1
      rw [if_neg (by simpa using h1)] at he
      rw [wrap64 (by omega) (by omega)]
      exact ih (i + 1) _ _ (by omega) ⟨by omega, he⟩ (by simp only [↓reduceIte, reduceCtorEq, Nat.reduceEqDiff, Nat.reduceAdd, Nat.reduceMul, Nat.reduceSub, Nat.reduceLeDiff, Nat.reduceBEq, Int.reduceToNat, Int.reduceLE, Int.reduceLT, Int.reduceEq, Int.reduceNe, di0, di1, di2, di3, di4, di5, di6, di7, di8, di9, postX_ret, postX_normal, ex_some] <;> rfl)
  · rename_i h
    rw [← he, List.drop_eq_nil_of_le (by omega)]
    rfl

theorem p_pieceTo {l : List Kn} {p : Kn → Bool} {g : FuncId} {cap : List IV} (h2 : 2 ≤ l.length) (hl : l.length ≤ 1000000000000) (hf : idx p l (l.length - 1) 1 < l.length) (hp : ∀ k ∈ l, Contract Try.prog g (knI k :: cap) (.bool (p k))) :
    Contract Try.prog 107 [tabI l, .func g [] cap] (pieceI (kn l (idx p l (l.length - 1) 1 - 1)) (kn l (idx p l (l.length - 1) 1))) := by
  have hs := (idx_spec (p := p) (l := l) (m := l.length - 1) (i := 1)).1
  have hix := indexF_idx (p := p) (l := l) (m := l.length - 1) (j := 1) (k := 0) (by omega) hf
  generalize idx p l (l.length - 1) 1 = i at *
  refine contract_run Try.func107 k107 rfl ?_
  simp only [tabI, body107, b107, res107, ↓reduceIte, reduceCtorEq, Nat.reduceEqDiff, Nat.reduceAdd, Nat.reduceMul, Nat.reduceSub, Nat.reduceLeDiff, Nat.reduceBEq, Int.reduceToNat, Int.reduceLE, Int.reduceLT, Int.reduceEq, Int.reduceNe, di0, di1, di2, di3, di4, di5, di6, di7, di8, di9, postX_ret, postX_normal, ex_some]
  repeat (refine And.intro (by omega) ?_)
  have hc := p_IndexFunc (l := (l.take l.length).drop 1) (p := p) (g := g) (cap := cap) (by simp; omega) (fun k hk => hp k (List.mem_of_mem_take (List.mem_of_mem_drop hk)))
  refine calls_of hc ?_; simp only [knI, tabI, pieceI, pairI, getD_kn, res107, ↓reduceIte, reduceCtorEq, Nat.reduceEqDiff, Nat.reduceAdd, Nat.reduceMul, Nat.reduceSub, Nat.reduceLeDiff, Nat.reduceBEq, Int.reduceToNat, Int.reduceLE, Int.reduceLT, Int.reduceEq, Int.reduceNe, di0, di1, di2, di3, di4, di5, di6, di7, di8, di9, postX_ret, postX_normal, ex_some]
  rw [List.take_length, hix]
  have e1 : IntKind.wrap .i64 (1 + ((i : Int) - (1 : Nat) + (0 : Nat))) = (i : Int) := by rw [wrap64 (by omega) (by omega)]; omega
  have e2 : IntKind.wrap .i64 ((i : Int) - 1) = ((i - 1 : Nat) : Int) := by rw [wrap64 (by omega) (by omega)]; omega
  simp only [e1, e2, i_toNat]
  repeat (refine And.intro (by omega) ?_)
  first | rfl | trivial

theorem p_bottom {l : List Kn} (h : 0 < l.length) : Contract Try.prog 62 [tabI l] (knI (bot l)) := by
  refine contract_run Try.func62 k62 rfl ?_
  simp only [tabI, body62, b62, res62, knI, tabI, pieceI, pairI, getD_kn, ↓reduceIte, reduceCtorEq, Nat.reduceEqDiff, Nat.reduceAdd, Nat.reduceMul, Nat.reduceSub, Nat.reduceLeDiff, Nat.reduceBEq, Int.reduceToNat, Int.reduceLE, Int.reduceLT, Int.reduceEq, Int.reduceNe, di0, di1, di2, di3, di4, di5, di6, di7, di8, di9, postX_ret, postX_normal, ex_some]
  repeat (refine And.intro (by omega) ?_)
  rfl
theorem p_top {l : List Kn} (h : 0 < l.length) (hl : l.length ≤ 1000000000000) : Contract Try.prog 63 [tabI l] (knI (top l)) := by
  have e : IntKind.wrap .i64 ((l.length : Int) - 1) = ((l.length - 1 : Nat) : Int) := by rw [wrap64 (by omega) (by omega)]; omega
  refine contract_run Try.func63 k63 rfl ?_
  simp only [tabI, body63, b63, res63, knI, tabI, pieceI, pairI, getD_kn, ↓reduceIte, reduceCtorEq, Nat.reduceEqDiff, Nat.reduceAdd, Nat.reduceMul, Nat.reduceSub, Nat.reduceLeDiff, Nat.reduceBEq, Int.reduceToNat, Int.reduceLE, Int.reduceLT, Int.reduceEq, Int.reduceNe, di0, di1, di2, di3, di4, di5, di6, di7, di8, di9, postX_ret, postX_normal, ex_some]
  simp only [e, i_toNat]
  repeat (refine And.intro (by omega) ?_)
  rfl

theorem p_volumeAt1 {k : Kn} {x : Int} : Contract Try.prog 108 [knI k, .ptr (.agg [.int .i64 x])] (.bool (decide (x ≤ k.1))) := by
  refine contract_run Try.func108 k108 rfl ?_
  simp only [knI, body108, b108, res108, knI, tabI, pieceI, pairI, getD_kn, ↓reduceIte, reduceCtorEq, Nat.reduceEqDiff, Nat.reduceAdd, Nat.reduceMul, Nat.reduceSub, Nat.reduceLeDiff, Nat.reduceBEq, Int.reduceToNat, Int.reduceLE, Int.reduceLT, Int.reduceEq, Int.reduceNe, di0, di1, di2, di3, di4, di5, di6, di7, di8, di9, postX_ret, postX_normal, ex_some]
theorem p_byVolume1 {k : Kn} {x : Int} : Contract Try.prog 111 [knI k, .ptr (.agg [.int .i64 x])] (.bool (decide (x ≤ k.2))) := by
  refine contract_run Try.func111 k111 rfl ?_
  simp only [knI, body111, b111, res111, knI, tabI, pieceI, pairI, getD_kn, ↓reduceIte, reduceCtorEq, Nat.reduceEqDiff, Nat.reduceAdd, Nat.reduceMul, Nat.reduceSub, Nat.reduceLeDiff, Nat.reduceBEq, Int.reduceToNat, Int.reduceLE, Int.reduceLT, Int.reduceEq, Int.reduceNe, di0, di1, di2, di3, di4, di5, di6, di7, di8, di9, postX_ret, postX_normal, ex_some]

theorem kb_valid {l : List Kn} (h : Valid l) {i : Nat} (hi : i < l.length) : KB (kn l i) := by
  have := h.range hi
  unfold KB; omega

theorem p_byVolume {l : List Kn} {v : Int} (h : Valid l) (hv : v ≤ (top l).2) : Contract Try.prog 83 [tabI l, .int .i64 v] (pieceI (kn l (atV l v - 1)) (kn l (atV l v))) := by
  have hs := atV_spec h hv
  refine contract_run Try.func83 k83 rfl ?_
  simp only [tabI, body83, b83, res83, knI, tabI, pieceI, pairI, getD_kn, ↓reduceIte, reduceCtorEq, Nat.reduceEqDiff, Nat.reduceAdd, Nat.reduceMul, Nat.reduceSub, Nat.reduceLeDiff, Nat.reduceBEq, Int.reduceToNat, Int.reduceLE, Int.reduceLT, Int.reduceEq, Int.reduceNe, di0, di1, di2, di3, di4, di5, di6, di7, di8, di9, postX_ret, postX_normal, ex_some]
  have hc := p_pieceTo (l := l) (p := fun k => decide (v ≤ k.2)) (cap := [.ptr (.agg [.int .i64 v])]) h.two (by have := h.ten; omega) hs.2.1 (fun k _ => p_byVolume1)
  refine calls_of hc ?_
  simp only [pieceI, res83, knI, tabI, pieceI, pairI, getD_kn, ↓reduceIte, reduceCtorEq, Nat.reduceEqDiff, Nat.reduceAdd, Nat.reduceMul, Nat.reduceSub, Nat.reduceLeDiff, Nat.reduceBEq, Int.reduceToNat, Int.reduceLE, Int.reduceLT, Int.reduceEq, Int.reduceNe, di0, di1, di2, di3, di4, di5, di6, di7, di8, di9, postX_ret, postX_normal, ex_some]
  rfl

theorem p_volumeAt {l : List Kn} {x : Int} (h : Valid l) (hx : isL l x) : Contract Try.prog 82 [tabI l, .int .i64 x] (.agg [.int .i64 (volLo l x), .int .i64 (volHi l x)]) := by
  have hs := atL_spec h hx.2
  obtain ⟨i, hi, i1, i2, i3, i4, i5⟩ := at_level h hx
  have hin := volume_in h hx hi
  have ra := h.range i2
  have rb := h.range (i := i - 1) (by omega)
  have dp := dh_pos h i1 i2
  have dq := dv_pos h i1 i2
  have ka := kb_valid h i2
  have kb := kb_valid h (i := i - 1) (by omega)
  have hb := mul_bd (x := x - (kn l (i - 1)).1) (y := dv l i) (by omega) (by omega) (by omega) (by omega)
  have bd := share (n := x - (kn l (i - 1)).1) (d := dh l i) (e := dv l i) dp.1 (by omega) (by unfold dh; omega) dq.1
  have hc := p_pieceTo (l := l) (p := fun k => decide (x ≤ k.1)) (cap := [.ptr (.agg [.int .i64 x])]) h.two (by have := h.ten; omega) hs.2.1 (fun k _ => p_volumeAt1)
  have hi' : idx (fun k => decide (x ≤ k.1)) l (l.length - 1) 1 = i := hi
  rw [hi'] at hc
  refine contract_run Try.func82 k82 rfl ?_
  simp only [tabI, body82, b82, res82, knI, tabI, pieceI, pairI, getD_kn, ↓reduceIte, reduceCtorEq, Nat.reduceEqDiff, Nat.reduceAdd, Nat.reduceMul, Nat.reduceSub, Nat.reduceLeDiff, Nat.reduceBEq, Int.reduceToNat, Int.reduceLE, Int.reduceLT, Int.reduceEq, Int.reduceNe, di0, di1, di2, di3, di4, di5, di6, di7, di8, di9, postX_ret, postX_normal, ex_some]
  refine calls_of hc ?_
  simp only [pieceI, res82, knI, tabI, pieceI, pairI, getD_kn, ↓reduceIte, reduceCtorEq, Nat.reduceEqDiff, Nat.reduceAdd, Nat.reduceMul, Nat.reduceSub, Nat.reduceLeDiff, Nat.reduceBEq, Int.reduceToNat, Int.reduceLE, Int.reduceLT, Int.reduceEq, Int.reduceNe, di0, di1, di2, di3, di4, di5, di6, di7, di8, di9, postX_ret, postX_normal, ex_some]
  refine calls_of (p_volume kb ka) ?_; simp only [res82, ↓reduceIte, reduceCtorEq, Nat.reduceEqDiff, Nat.reduceAdd, Nat.reduceMul, Nat.reduceSub, Nat.reduceLeDiff, Nat.reduceBEq, Int.reduceToNat, Int.reduceLE, Int.reduceLT, Int.reduceEq, Int.reduceNe, di0, di1, di2, di3, di4, di5, di6, di7, di8, di9, postX_ret, postX_normal, ex_some]
  have e1 : (kn l i).2 - (kn l (i - 1)).2 = dv l i := rfl
  have e2 : (kn l i).1 - (kn l (i - 1)).1 = dh l i := rfl
  rw [wrap64 (n := x - (kn l (i - 1)).1) (by omega) (by omega), e1, wrap64 (n := (x - (kn l (i - 1)).1) * dv l i) (by omega) (by omega)]
  refine calls_of (p_height kb ka) ?_; simp only [res82, ↓reduceIte, reduceCtorEq, Nat.reduceEqDiff, Nat.reduceAdd, Nat.reduceMul, Nat.reduceSub, Nat.reduceLeDiff, Nat.reduceBEq, Int.reduceToNat, Int.reduceLE, Int.reduceLT, Int.reduceEq, Int.reduceNe, di0, di1, di2, di3, di4, di5, di6, di7, di8, di9, postX_ret, postX_normal, ex_some]
  rw [e2]
  refine calls_of (p_floor dp.1 (by omega) (by omega)) ?_; simp only [res82, ↓reduceIte, reduceCtorEq, Nat.reduceEqDiff, Nat.reduceAdd, Nat.reduceMul, Nat.reduceSub, Nat.reduceLeDiff, Nat.reduceBEq, Int.reduceToNat, Int.reduceLE, Int.reduceLT, Int.reduceEq, Int.reduceNe, di0, di1, di2, di3, di4, di5, di6, di7, di8, di9, postX_ret, postX_normal, ex_some]
  refine calls_of (p_height kb ka) ?_; simp only [res82, ↓reduceIte, reduceCtorEq, Nat.reduceEqDiff, Nat.reduceAdd, Nat.reduceMul, Nat.reduceSub, Nat.reduceLeDiff, Nat.reduceBEq, Int.reduceToNat, Int.reduceLE, Int.reduceLT, Int.reduceEq, Int.reduceNe, di0, di1, di2, di3, di4, di5, di6, di7, di8, di9, postX_ret, postX_normal, ex_some]
  rw [e2]
  refine calls_of (p_ceil dp.1 (by omega) (by omega)) ?_; simp only [res82, ↓reduceIte, reduceCtorEq, Nat.reduceEqDiff, Nat.reduceAdd, Nat.reduceMul, Nat.reduceSub, Nat.reduceLeDiff, Nat.reduceBEq, Int.reduceToNat, Int.reduceLE, Int.reduceLT, Int.reduceEq, Int.reduceNe, di0, di1, di2, di3, di4, di5, di6, di7, di8, di9, postX_ret, postX_normal, ex_some]
  unfold volLo volHi
  rw [hi, wrap64 (by omega) (by omega), wrap64 (by omega) (by omega)]

/-- What is left of a level, and of what. -/
def levNum (l : List Kn) (v : Int) : Int := ((v - (kn l (atV l v - 1)).2) * dh l (atV l v)) % dv l (atV l v)
def levDen (l : List Kn) (v : Int) : Int := dv l (atV l v)

theorem p_levelAt {l : List Kn} {v : Int} (h : Valid l) (hv : isV l v) : Contract Try.prog 78 [tabI l, .int .i64 v] (.agg [.int .i64 (levLo l v), .int .i64 (levNum l v), .int .i64 (levDen l v)]) := by
  obtain ⟨i, hi, i1, i2, i3, i4, i5⟩ := at_volume h hv
  have hin := level_in h hv hi
  have ra := h.range i2
  have rb := h.range (i := i - 1) (by omega)
  have dp := dh_pos h i1 i2
  have dq := dv_pos h i1 i2
  have ka := kb_valid h i2
  have kb := kb_valid h (i := i - 1) (by omega)
  have hb := mul_bd (x := v - (kn l (i - 1)).2) (y := dh l i) (by omega) (by omega) (by omega) (by omega)
  have bd := share (n := v - (kn l (i - 1)).2) (d := dv l i) (e := dh l i) dq.1 (by omega) (by unfold dv; omega) dp.1
  have hc := p_byVolume h hv.2
  rw [hi] at hc
  refine contract_run Try.func78 k78 rfl ?_
  simp only [tabI, body78, b78, res78, knI, tabI, pieceI, pairI, getD_kn, ↓reduceIte, reduceCtorEq, Nat.reduceEqDiff, Nat.reduceAdd, Nat.reduceMul, Nat.reduceSub, Nat.reduceLeDiff, Nat.reduceBEq, Int.reduceToNat, Int.reduceLE, Int.reduceLT, Int.reduceEq, Int.reduceNe, di0, di1, di2, di3, di4, di5, di6, di7, di8, di9, postX_ret, postX_normal, ex_some]
  refine calls_of hc ?_
  simp only [pieceI, res78, knI, tabI, pieceI, pairI, getD_kn, ↓reduceIte, reduceCtorEq, Nat.reduceEqDiff, Nat.reduceAdd, Nat.reduceMul, Nat.reduceSub, Nat.reduceLeDiff, Nat.reduceBEq, Int.reduceToNat, Int.reduceLE, Int.reduceLT, Int.reduceEq, Int.reduceNe, di0, di1, di2, di3, di4, di5, di6, di7, di8, di9, postX_ret, postX_normal, ex_some]
  refine calls_of (p_height kb ka) ?_; simp only [res78, ↓reduceIte, reduceCtorEq, Nat.reduceEqDiff, Nat.reduceAdd, Nat.reduceMul, Nat.reduceSub, Nat.reduceLeDiff, Nat.reduceBEq, Int.reduceToNat, Int.reduceLE, Int.reduceLT, Int.reduceEq, Int.reduceNe, di0, di1, di2, di3, di4, di5, di6, di7, di8, di9, postX_ret, postX_normal, ex_some]
  have e1 : (kn l i).2 - (kn l (i - 1)).2 = dv l i := rfl
  have e2 : (kn l i).1 - (kn l (i - 1)).1 = dh l i := rfl
  rw [wrap64 (n := v - (kn l (i - 1)).2) (by omega) (by omega), e2, wrap64 (n := (v - (kn l (i - 1)).2) * dh l i) (by omega) (by omega)]
  refine calls_of (p_volume kb ka) ?_; simp only [res78, ↓reduceIte, reduceCtorEq, Nat.reduceEqDiff, Nat.reduceAdd, Nat.reduceMul, Nat.reduceSub, Nat.reduceLeDiff, Nat.reduceBEq, Int.reduceToNat, Int.reduceLE, Int.reduceLT, Int.reduceEq, Int.reduceNe, di0, di1, di2, di3, di4, di5, di6, di7, di8, di9, postX_ret, postX_normal, ex_some]
  rw [e1, Int.tdiv_eq_ediv_of_nonneg bd.1]
  refine ⟨by omega, ?_⟩
  refine calls_of (p_volume kb ka) ?_; simp only [res78, ↓reduceIte, reduceCtorEq, Nat.reduceEqDiff, Nat.reduceAdd, Nat.reduceMul, Nat.reduceSub, Nat.reduceLeDiff, Nat.reduceBEq, Int.reduceToNat, Int.reduceLE, Int.reduceLT, Int.reduceEq, Int.reduceNe, di0, di1, di2, di3, di4, di5, di6, di7, di8, di9, postX_ret, postX_normal, ex_some]
  rw [e1, Int.tmod_eq_emod_of_nonneg bd.1]
  refine ⟨by omega, ?_⟩
  refine calls_of (p_volume kb ka) ?_; simp only [res78, ↓reduceIte, reduceCtorEq, Nat.reduceEqDiff, Nat.reduceAdd, Nat.reduceMul, Nat.reduceSub, Nat.reduceLeDiff, Nat.reduceBEq, Int.reduceToNat, Int.reduceLE, Int.reduceLT, Int.reduceEq, Int.reduceNe, di0, di1, di2, di3, di4, di5, di6, di7, di8, di9, postX_ret, postX_normal, ex_some]
  unfold levLo levNum levDen
  rw [hi, e1, wrap64 (n := (v - (kn l (i - 1)).2) * dh l i / dv l i) (by omega) (by omega), wrap64 (by omega) (by omega)]
end Go.DI

/- Contracts: the program's tables of lakes, as it hands them out; pairs and states. No condition. -/
set_option linter.unusedSimpArgs false
namespace Go.DI
open Go.Proofs Go.RowKit Lk

theorem p_holds {l : List Kn} {v : Int} (h : 0 < l.length) (hl : l.length ≤ 1000000000000) : Contract Try.prog 106 [tabI l, .int .i64 v] (.bool (decide (isV l v))) := by
  refine contract_run Try.func106 k106 rfl ?_
  simp only [tabI, body106, b106, res106, knI, tabI, pieceI, pairI, getD_kn, ↓reduceIte, reduceCtorEq, Nat.reduceEqDiff, Nat.reduceAdd, Nat.reduceMul, Nat.reduceSub, Nat.reduceLeDiff, Nat.reduceBEq, Int.reduceToNat, Int.reduceLE, Int.reduceLT, Int.reduceEq, Int.reduceNe, di0, di1, di2, di3, di4, di5, di6, di7, di8, di9, postX_ret, postX_normal, ex_some]
  refine calls_of (p_bottom h) ?_
  simp only [res106, knI, tabI, pieceI, pairI, getD_kn, ↓reduceIte, reduceCtorEq, Nat.reduceEqDiff, Nat.reduceAdd, Nat.reduceMul, Nat.reduceSub, Nat.reduceLeDiff, Nat.reduceBEq, Int.reduceToNat, Int.reduceLE, Int.reduceLT, Int.reduceEq, Int.reduceNe, di0, di1, di2, di3, di4, di5, di6, di7, di8, di9, postX_ret, postX_normal, ex_some]
  refine calls_of (p_top h hl) ?_
  simp only [res106, knI, tabI, pieceI, pairI, getD_kn, ↓reduceIte, reduceCtorEq, Nat.reduceEqDiff, Nat.reduceAdd, Nat.reduceMul, Nat.reduceSub, Nat.reduceLeDiff, Nat.reduceBEq, Int.reduceToNat, Int.reduceLE, Int.reduceLT, Int.reduceEq, Int.reduceNe, di0, di1, di2, di3, di4, di5, di6, di7, di8, di9, postX_ret, postX_normal, ex_some]
  refine calls_of p_within ?_
  simp only [res106, knI, tabI, pieceI, pairI, getD_kn, ↓reduceIte, reduceCtorEq, Nat.reduceEqDiff, Nat.reduceAdd, Nat.reduceMul, Nat.reduceSub, Nat.reduceLeDiff, Nat.reduceBEq, Int.reduceToNat, Int.reduceLE, Int.reduceLT, Int.reduceEq, Int.reduceNe, di0, di1, di2, di3, di4, di5, di6, di7, di8, di9, postX_ret, postX_normal, ex_some]
  rfl

theorem valid_len {l : List Kn} (h : Valid l) : 0 < l.length ∧ l.length ≤ 1000000000000 := ⟨by have := h.two; omega, by have := h.ten; omega⟩

def rangeErr (b : Bool) (r : Int × Int) (e : Int) : IV := if b then .tup [.agg [.int .i64 r.1, .int .i64 r.2], .int .i64 0] else .tup [.agg [.int .i64 0, .int .i64 0], .int .i64 e]

theorem p_VolumeAt {l : List Kn} {x : Int} (hl : l.length ≤ 1000000000000) : Contract Try.prog 38 [tabI l, .int .i64 x]
    (if (chkT l).2 = 0 then (if isL l x then .tup [.agg [.int .i64 (volLo l x), .int .i64 (volHi l x)], .int .i64 0] else .tup [.agg [.int .i64 0, .int .i64 0], .int .i64 2]) else .tup [.agg [.int .i64 0, .int .i64 0], .int .i64 (chkT l).2]) := by
  refine contract_run Try.func38 k38 rfl ?_
  simp only [tabI, body38, b38, res38, b38k0, b38k1, knI, tabI, pieceI, pairI, getD_kn, ↓reduceIte, reduceCtorEq, Nat.reduceEqDiff, Nat.reduceAdd, Nat.reduceMul, Nat.reduceSub, Nat.reduceLeDiff, Nat.reduceBEq, Int.reduceToNat, Int.reduceLE, Int.reduceLT, Int.reduceEq, Int.reduceNe, di0, di1, di2, di3, di4, di5, di6, di7, di8, di9, postX_ret, postX_normal, ex_some]
  refine calls_of (p_tableErr hl) ?_
  simp only [res38, b38k0, b38k1, knI, tabI, pieceI, pairI, getD_kn, ↓reduceIte, reduceCtorEq, Nat.reduceEqDiff, Nat.reduceAdd, Nat.reduceMul, Nat.reduceSub, Nat.reduceLeDiff, Nat.reduceBEq, Int.reduceToNat, Int.reduceLE, Int.reduceLT, Int.reduceEq, Int.reduceNe, di0, di1, di2, di3, di4, di5, di6, di7, di8, di9, postX_ret, postX_normal, ex_some]
  split
  · rename_i h0
    have hv := chkT_ok.1 h0
    have hz := valid_len hv
    refine calls_of (p_bottom hz.1) ?_
    simp only [res38, b38k0, b38k1, knI, tabI, pieceI, pairI, getD_kn, ↓reduceIte, reduceCtorEq, Nat.reduceEqDiff, Nat.reduceAdd, Nat.reduceMul, Nat.reduceSub, Nat.reduceLeDiff, Nat.reduceBEq, Int.reduceToNat, Int.reduceLE, Int.reduceLT, Int.reduceEq, Int.reduceNe, di0, di1, di2, di3, di4, di5, di6, di7, di8, di9, postX_ret, postX_normal, ex_some]
    refine calls_of (p_top hz.1 hz.2) ?_
    simp only [res38, b38k0, b38k1, knI, tabI, pieceI, pairI, getD_kn, ↓reduceIte, reduceCtorEq, Nat.reduceEqDiff, Nat.reduceAdd, Nat.reduceMul, Nat.reduceSub, Nat.reduceLeDiff, Nat.reduceBEq, Int.reduceToNat, Int.reduceLE, Int.reduceLT, Int.reduceEq, Int.reduceNe, di0, di1, di2, di3, di4, di5, di6, di7, di8, di9, postX_ret, postX_normal, ex_some]
    refine calls_of p_within ?_
    simp only [res38, b38k0, b38k1, knI, tabI, pieceI, pairI, getD_kn, ↓reduceIte, reduceCtorEq, Nat.reduceEqDiff, Nat.reduceAdd, Nat.reduceMul, Nat.reduceSub, Nat.reduceLeDiff, Nat.reduceBEq, Int.reduceToNat, Int.reduceLE, Int.reduceLT, Int.reduceEq, Int.reduceNe, di0, di1, di2, di3, di4, di5, di6, di7, di8, di9, postX_ret, postX_normal, ex_some]
    split
    · rename_i h1
      have h1 : isL l x := h1
      refine calls_of (p_volumeAt hv h1) ?_
      simp only [res38, b38k0, b38k1, knI, tabI, pieceI, pairI, getD_kn, ↓reduceIte, reduceCtorEq, Nat.reduceEqDiff, Nat.reduceAdd, Nat.reduceMul, Nat.reduceSub, Nat.reduceLeDiff, Nat.reduceBEq, Int.reduceToNat, Int.reduceLE, Int.reduceLT, Int.reduceEq, Int.reduceNe, di0, di1, di2, di3, di4, di5, di6, di7, di8, di9, postX_ret, postX_normal, ex_some]
      rw [if_pos h1]
    · rename_i h1
      have h1 : ¬ isL l x := h1
      rw [if_neg h1]
  · rename_i h0
    rfl

theorem p_openVolume {l : List Kn} {v : Int} (hl : l.length ≤ 1000000000000) : Contract Try.prog 77 [tabI l, .int .i64 v]
    (if (chkT l).2 = 0 then (if isV l v then .tup [tabI l, .int .i64 0] else .tup [tabI l, .int .i64 2]) else .tup [tabI [], .int .i64 (chkT l).2]) := by
  refine contract_run Try.func77 k77 rfl ?_
  simp only [tabI, body77, b77, res77, b77k0, knI, tabI, pieceI, pairI, getD_kn, ↓reduceIte, reduceCtorEq, Nat.reduceEqDiff, Nat.reduceAdd, Nat.reduceMul, Nat.reduceSub, Nat.reduceLeDiff, Nat.reduceBEq, Int.reduceToNat, Int.reduceLE, Int.reduceLT, Int.reduceEq, Int.reduceNe, di0, di1, di2, di3, di4, di5, di6, di7, di8, di9, postX_ret, postX_normal, ex_some]
  refine calls_of (p_tableErr hl) ?_
  simp only [res77, b77k0, knI, tabI, pieceI, pairI, getD_kn, ↓reduceIte, reduceCtorEq, Nat.reduceEqDiff, Nat.reduceAdd, Nat.reduceMul, Nat.reduceSub, Nat.reduceLeDiff, Nat.reduceBEq, Int.reduceToNat, Int.reduceLE, Int.reduceLT, Int.reduceEq, Int.reduceNe, di0, di1, di2, di3, di4, di5, di6, di7, di8, di9, postX_ret, postX_normal, ex_some]
  split
  · rename_i h0
    have hv := chkT_ok.1 h0
    have hz := valid_len hv
    refine calls_of (p_holds hz.1 hz.2) ?_
    simp only [res77, b77k0, knI, tabI, pieceI, pairI, getD_kn, ↓reduceIte, reduceCtorEq, Nat.reduceEqDiff, Nat.reduceAdd, Nat.reduceMul, Nat.reduceSub, Nat.reduceLeDiff, Nat.reduceBEq, Int.reduceToNat, Int.reduceLE, Int.reduceLT, Int.reduceEq, Int.reduceNe, di0, di1, di2, di3, di4, di5, di6, di7, di8, di9, postX_ret, postX_normal, ex_some]
    refine calls_of p_unless ?_
    simp only [res77, b77k0, knI, tabI, pieceI, pairI, getD_kn, ↓reduceIte, reduceCtorEq, Nat.reduceEqDiff, Nat.reduceAdd, Nat.reduceMul, Nat.reduceSub, Nat.reduceLeDiff, Nat.reduceBEq, Int.reduceToNat, Int.reduceLE, Int.reduceLT, Int.reduceEq, Int.reduceNe, di0, di1, di2, di3, di4, di5, di6, di7, di8, di9, postX_ret, postX_normal, ex_some]
    split
    · rename_i h1; simp [h1]
    · rename_i h1; simp [h1]
  · rename_i h0
    rfl

theorem p_LevelAt {l : List Kn} {v : Int} (hl : l.length ≤ 1000000000000) : Contract Try.prog 36 [tabI l, .int .i64 v]
    (if (chkT l).2 = 0 then (if isV l v then .tup [.agg [.int .i64 (levLo l v), .int .i64 (levHi l v)], .int .i64 0] else .tup [.agg [.int .i64 0, .int .i64 0], .int .i64 2]) else .tup [.agg [.int .i64 0, .int .i64 0], .int .i64 (chkT l).2]) := by
  have hc := p_openVolume (v := v) hl
  by_cases h0 : (chkT l).2 = 0
  · rw [if_pos h0] at hc ⊢
    have hv := chkT_ok.1 h0
    by_cases h1 : isV l v
    · rw [if_pos h1] at hc ⊢
      obtain ⟨i, hi, i1, i2, i3, i4, i5⟩ := at_volume hv h1
      have hin := level_in hv h1 hi
      have ra := hv.range i2
      have rb := hv.range (i := i - 1) (by omega)
      have dq := dv_pos hv i1 i2
      have hce : levHi l v = levLo l v + min (levNum l v) 1 := by
        unfold levHi levLo levNum
        rw [hi, cdiv_eq dq.1]
        omega
      refine contract_run Try.func36 k36 rfl ?_
      simp only [body36, b36, res36, b36k0, knI, tabI, pieceI, pairI, getD_kn, ↓reduceIte, reduceCtorEq, Nat.reduceEqDiff, Nat.reduceAdd, Nat.reduceMul, Nat.reduceSub, Nat.reduceLeDiff, Nat.reduceBEq, Int.reduceToNat, Int.reduceLE, Int.reduceLT, Int.reduceEq, Int.reduceNe, di0, di1, di2, di3, di4, di5, di6, di7, di8, di9, postX_ret, postX_normal, ex_some]
      refine calls_of hc ?_; simp only [knI, tabI, pieceI, pairI, getD_kn, res36, b36k0, ↓reduceIte, reduceCtorEq, Nat.reduceEqDiff, Nat.reduceAdd, Nat.reduceMul, Nat.reduceSub, Nat.reduceLeDiff, Nat.reduceBEq, Int.reduceToNat, Int.reduceLE, Int.reduceLT, Int.reduceEq, Int.reduceNe, di0, di1, di2, di3, di4, di5, di6, di7, di8, di9, postX_ret, postX_normal, ex_some]
      refine calls_of (p_levelAt hv h1) ?_; simp only [knI, tabI, pieceI, pairI, getD_kn, res36, b36k0, ↓reduceIte, reduceCtorEq, Nat.reduceEqDiff, Nat.reduceAdd, Nat.reduceMul, Nat.reduceSub, Nat.reduceLeDiff, Nat.reduceBEq, Int.reduceToNat, Int.reduceLE, Int.reduceLT, Int.reduceEq, Int.reduceNe, di0, di1, di2, di3, di4, di5, di6, di7, di8, di9, postX_ret, postX_normal, ex_some]
      rw [← hce, wrap64 (by omega) (by omega)]
    · rw [if_neg h1] at hc ⊢
      refine contract_run Try.func36 k36 rfl ?_
      simp only [body36, b36, res36, b36k0, knI, tabI, pieceI, pairI, getD_kn, ↓reduceIte, reduceCtorEq, Nat.reduceEqDiff, Nat.reduceAdd, Nat.reduceMul, Nat.reduceSub, Nat.reduceLeDiff, Nat.reduceBEq, Int.reduceToNat, Int.reduceLE, Int.reduceLT, Int.reduceEq, Int.reduceNe, di0, di1, di2, di3, di4, di5, di6, di7, di8, di9, postX_ret, postX_normal, ex_some]
      refine calls_of hc ?_; simp only [knI, tabI, pieceI, pairI, getD_kn, res36, b36k0, ↓reduceIte, reduceCtorEq, Nat.reduceEqDiff, Nat.reduceAdd, Nat.reduceMul, Nat.reduceSub, Nat.reduceLeDiff, Nat.reduceBEq, Int.reduceToNat, Int.reduceLE, Int.reduceLT, Int.reduceEq, Int.reduceNe, di0, di1, di2, di3, di4, di5, di6, di7, di8, di9, postX_ret, postX_normal, ex_some]
  · rw [if_neg h0] at hc ⊢
    refine contract_run Try.func36 k36 rfl ?_
    simp only [body36, b36, res36, b36k0, knI, tabI, pieceI, pairI, getD_kn, ↓reduceIte, reduceCtorEq, Nat.reduceEqDiff, Nat.reduceAdd, Nat.reduceMul, Nat.reduceSub, Nat.reduceLeDiff, Nat.reduceBEq, Int.reduceToNat, Int.reduceLE, Int.reduceLT, Int.reduceEq, Int.reduceNe, di0, di1, di2, di3, di4, di5, di6, di7, di8, di9, postX_ret, postX_normal, ex_some]
    refine calls_of hc ?_; simp only [knI, tabI, pieceI, pairI, getD_kn, res36, b36k0, ↓reduceIte, reduceCtorEq, Nat.reduceEqDiff, Nat.reduceAdd, Nat.reduceMul, Nat.reduceSub, Nat.reduceLeDiff, Nat.reduceBEq, Int.reduceToNat, Int.reduceLE, Int.reduceLT, Int.reduceEq, Int.reduceNe, di0, di1, di2, di3, di4, di5, di6, di7, di8, di9, postX_ret, postX_normal, ex_some]
    rw [if_neg h0]; trivial

theorem p_divisor {a b : Int} (a1 : 0 < a) (a2 : a ≤ 9223372036854775807) (b1 : 0 < b) (b2 : b ≤ 9223372036854775807) :
    Contract Try.prog 84 [.int .i64 a, .int .i64 b] (.int .i64 (Int.gcd a b)) := by
  refine contract_run Try.func84 k84 rfl ?_
  simp only [body84, b84, res84, b84k0, b84k1, ↓reduceIte, reduceCtorEq, Nat.reduceEqDiff, Nat.reduceAdd, Nat.reduceMul, Nat.reduceSub, Nat.reduceLeDiff, Nat.reduceBEq, Int.reduceToNat, Int.reduceLE, Int.reduceLT, Int.reduceEq, Int.reduceNe, di0, di1, di2, di3, di4, di5, di6, di7, di8, di9, postX_ret, postX_normal, ex_some]
  refine loop_keep (α := Int × Int) rfl (fun s => s.2.natAbs)
    (fun s => 0 ≤ s.1 ∧ 0 ≤ s.2 ∧ Int.gcd s.1 s.2 = Int.gcd a b)
    (fun s => [(0, .imm (.int .i64 s.1)), (1, .imm (.int .i64 s.2))]) (fun _ => []) (a, b) ⟨by dsimp only; omega, by dsimp only; omega, rfl⟩ (by simp only [↓reduceIte, reduceCtorEq, Nat.reduceEqDiff, Nat.reduceAdd, Nat.reduceMul, Nat.reduceSub, Nat.reduceLeDiff, Nat.reduceBEq, Int.reduceToNat, Int.reduceLE, Int.reduceLT, Int.reduceEq, Int.reduceNe, di0, di1, di2, di3, di4, di5, di6, di7, di8, di9, postX_ret, postX_normal, ex_some]) ?_
  rintro ⟨x, y⟩ ⟨hx, hy, hg⟩ ih
  dsimp only at hx hy hg
  simp only [res84, b84k0, b84k1, ↓reduceIte, reduceCtorEq, Nat.reduceEqDiff, Nat.reduceAdd, Nat.reduceMul, Nat.reduceSub, Nat.reduceLeDiff, Nat.reduceBEq, Int.reduceToNat, Int.reduceLE, Int.reduceLT, Int.reduceEq, Int.reduceNe, di0, di1, di2, di3, di4, di5, di6, di7, di8, di9, postX_ret, postX_normal, ex_some]
  split
  · rename_i h
    subst h
    rw [← hg, Int.gcd_zero_right]
    congr 2
    omega
  · rename_i h
    have hm : x.tmod y = x % y := Int.tmod_eq_emod_of_nonneg hx
    have hlt : x % y < y := Int.emod_lt_of_pos _ (by omega)
    have hge : 0 ≤ x % y := Int.emod_nonneg _ h
    rw [hm]
    refine ⟨h, ih (y, x % y) _ _ (by dsimp only; omega) ⟨hy, hge, ?_⟩ (by simp only [↓reduceIte, reduceCtorEq, Nat.reduceEqDiff, Nat.reduceAdd, Nat.reduceMul, Nat.reduceSub, Nat.reduceLeDiff, Nat.reduceBEq, Int.reduceToNat, Int.reduceLE, Int.reduceLT, Int.reduceEq, Int.reduceNe, di0, di1, di2, di3, di4, di5, di6, di7, di8, di9, postX_ret, postX_normal, ex_some])⟩
    dsimp only
    rw [← hg]
    have e : x % y = ((x.natAbs % y.natAbs : Nat) : Int) := by
      rw [Int.natCast_emod]
      congr 1 <;> omega
    rw [e]
    unfold Int.gcd
    rw [Int.natAbs_natCast, Nat.gcd_comm, ← Nat.gcd_rec, Nat.gcd_comm]

/-- An area in lowest terms. -/
def areaI (n d : Int) : IV := .agg [.int .i64 (n / (Int.gcd n d : Int)), .int .i64 (d / (Int.gcd n d : Int))]

theorem p_AreaAt {l : List Kn} {v : Int} (hl : l.length ≤ 1000000000000) : Contract Try.prog 39 [tabI l, .int .i64 v]
    (if (chkT l).2 = 0 then (if isV l v then .tup [areaI (dv l (atV l v)) (dh l (atV l v)), .int .i64 0] else .tup [.agg [.int .i64 0, .int .i64 0], .int .i64 2]) else .tup [.agg [.int .i64 0, .int .i64 0], .int .i64 (chkT l).2]) := by
  have hc := p_openVolume (v := v) hl
  by_cases h0 : (chkT l).2 = 0
  · rw [if_pos h0] at hc ⊢
    have hv := chkT_ok.1 h0
    by_cases h1 : isV l v
    · rw [if_pos h1] at hc ⊢
      obtain ⟨i, hi, i1, i2, i3, i4, i5⟩ := at_volume hv h1
      have dp := dh_pos hv i1 i2
      have dq := dv_pos hv i1 i2
      have ka := kb_valid hv i2
      have kb := kb_valid hv (i := i - 1) (by omega)
      have hb := p_byVolume hv h1.2
      rw [hi] at hb ⊢
      refine contract_run Try.func39 k39 rfl ?_
      simp only [body39, b39, res39, b39k0, knI, tabI, pieceI, pairI, getD_kn, ↓reduceIte, reduceCtorEq, Nat.reduceEqDiff, Nat.reduceAdd, Nat.reduceMul, Nat.reduceSub, Nat.reduceLeDiff, Nat.reduceBEq, Int.reduceToNat, Int.reduceLE, Int.reduceLT, Int.reduceEq, Int.reduceNe, di0, di1, di2, di3, di4, di5, di6, di7, di8, di9, postX_ret, postX_normal, ex_some]
      refine calls_of hc ?_; simp only [knI, tabI, pieceI, pairI, getD_kn, res39, b39k0, ↓reduceIte, reduceCtorEq, Nat.reduceEqDiff, Nat.reduceAdd, Nat.reduceMul, Nat.reduceSub, Nat.reduceLeDiff, Nat.reduceBEq, Int.reduceToNat, Int.reduceLE, Int.reduceLT, Int.reduceEq, Int.reduceNe, di0, di1, di2, di3, di4, di5, di6, di7, di8, di9, postX_ret, postX_normal, ex_some]
      refine calls_of hb ?_; simp only [knI, tabI, pieceI, pairI, getD_kn, res39, b39k0, ↓reduceIte, reduceCtorEq, Nat.reduceEqDiff, Nat.reduceAdd, Nat.reduceMul, Nat.reduceSub, Nat.reduceLeDiff, Nat.reduceBEq, Int.reduceToNat, Int.reduceLE, Int.reduceLT, Int.reduceEq, Int.reduceNe, di0, di1, di2, di3, di4, di5, di6, di7, di8, di9, postX_ret, postX_normal, ex_some]
      refine calls_of (p_volume kb ka) ?_; simp only [knI, tabI, pieceI, pairI, getD_kn, res39, b39k0, ↓reduceIte, reduceCtorEq, Nat.reduceEqDiff, Nat.reduceAdd, Nat.reduceMul, Nat.reduceSub, Nat.reduceLeDiff, Nat.reduceBEq, Int.reduceToNat, Int.reduceLE, Int.reduceLT, Int.reduceEq, Int.reduceNe, di0, di1, di2, di3, di4, di5, di6, di7, di8, di9, postX_ret, postX_normal, ex_some]
      refine calls_of (p_height kb ka) ?_; simp only [knI, tabI, pieceI, pairI, getD_kn, res39, b39k0, ↓reduceIte, reduceCtorEq, Nat.reduceEqDiff, Nat.reduceAdd, Nat.reduceMul, Nat.reduceSub, Nat.reduceLeDiff, Nat.reduceBEq, Int.reduceToNat, Int.reduceLE, Int.reduceLT, Int.reduceEq, Int.reduceNe, di0, di1, di2, di3, di4, di5, di6, di7, di8, di9, postX_ret, postX_normal, ex_some]
      rw [show (kn l i).2 - (kn l (i - 1)).2 = dv l i from rfl, show (kn l i).1 - (kn l (i - 1)).1 = dh l i from rfl]
      refine calls_of (p_divisor dq.1 (by omega) dp.1 (by omega)) ?_; simp only [knI, tabI, pieceI, pairI, getD_kn, res39, b39k0, ↓reduceIte, reduceCtorEq, Nat.reduceEqDiff, Nat.reduceAdd, Nat.reduceMul, Nat.reduceSub, Nat.reduceLeDiff, Nat.reduceBEq, Int.reduceToNat, Int.reduceLE, Int.reduceLT, Int.reduceEq, Int.reduceNe, di0, di1, di2, di3, di4, di5, di6, di7, di8, di9, postX_ret, postX_normal, ex_some]
      refine calls_of (p_volume kb ka) ?_; simp only [knI, tabI, pieceI, pairI, getD_kn, res39, b39k0, ↓reduceIte, reduceCtorEq, Nat.reduceEqDiff, Nat.reduceAdd, Nat.reduceMul, Nat.reduceSub, Nat.reduceLeDiff, Nat.reduceBEq, Int.reduceToNat, Int.reduceLE, Int.reduceLT, Int.reduceEq, Int.reduceNe, di0, di1, di2, di3, di4, di5, di6, di7, di8, di9, postX_ret, postX_normal, ex_some]
      have hg0 := div_gcd (dv l i) (dh l i) (by omega)
      have hgn : (Int.gcd (dv l i) (dh l i) : Int) ∣ dv l i := Int.gcd_dvd_left _ _
      have hgd : (Int.gcd (dv l i) (dh l i) : Int) ∣ dh l i := Int.gcd_dvd_right _ _
      rw [show (kn l i).2 - (kn l (i - 1)).2 = dv l i from rfl]
      refine ⟨by omega, ?_⟩
      refine calls_of (p_height kb ka) ?_; simp only [knI, tabI, pieceI, pairI, getD_kn, res39, b39k0, ↓reduceIte, reduceCtorEq, Nat.reduceEqDiff, Nat.reduceAdd, Nat.reduceMul, Nat.reduceSub, Nat.reduceLeDiff, Nat.reduceBEq, Int.reduceToNat, Int.reduceLE, Int.reduceLT, Int.reduceEq, Int.reduceNe, di0, di1, di2, di3, di4, di5, di6, di7, di8, di9, postX_ret, postX_normal, ex_some]
      rw [show (kn l i).1 - (kn l (i - 1)).1 = dh l i from rfl]
      refine ⟨by omega, ?_⟩
      have a1 := ediv_natAbs_le _ _ hg0 hgn
      have a2 := ediv_natAbs_le _ _ hg0 hgd
      unfold areaI
      generalize (Int.gcd (dv l i) (dh l i) : Int) = g at *
      rw [Int.tdiv_eq_ediv_of_dvd hgn, Int.tdiv_eq_ediv_of_dvd hgd, wrap64 (by omega) (by omega), wrap64 (by omega) (by omega)]
    · rw [if_neg h1] at hc ⊢
      refine contract_run Try.func39 k39 rfl ?_
      simp only [body39, b39, res39, b39k0, knI, tabI, pieceI, pairI, getD_kn, ↓reduceIte, reduceCtorEq, Nat.reduceEqDiff, Nat.reduceAdd, Nat.reduceMul, Nat.reduceSub, Nat.reduceLeDiff, Nat.reduceBEq, Int.reduceToNat, Int.reduceLE, Int.reduceLT, Int.reduceEq, Int.reduceNe, di0, di1, di2, di3, di4, di5, di6, di7, di8, di9, postX_ret, postX_normal, ex_some]
      refine calls_of hc ?_; simp only [knI, tabI, pieceI, pairI, getD_kn, res39, b39k0, ↓reduceIte, reduceCtorEq, Nat.reduceEqDiff, Nat.reduceAdd, Nat.reduceMul, Nat.reduceSub, Nat.reduceLeDiff, Nat.reduceBEq, Int.reduceToNat, Int.reduceLE, Int.reduceLT, Int.reduceEq, Int.reduceNe, di0, di1, di2, di3, di4, di5, di6, di7, di8, di9, postX_ret, postX_normal, ex_some]
  · rw [if_neg h0] at hc ⊢
    refine contract_run Try.func39 k39 rfl ?_
    simp only [body39, b39, res39, b39k0, knI, tabI, pieceI, pairI, getD_kn, ↓reduceIte, reduceCtorEq, Nat.reduceEqDiff, Nat.reduceAdd, Nat.reduceMul, Nat.reduceSub, Nat.reduceLeDiff, Nat.reduceBEq, Int.reduceToNat, Int.reduceLE, Int.reduceLT, Int.reduceEq, Int.reduceNe, di0, di1, di2, di3, di4, di5, di6, di7, di8, di9, postX_ret, postX_normal, ex_some]
    refine calls_of hc ?_; simp only [knI, tabI, pieceI, pairI, getD_kn, res39, b39k0, ↓reduceIte, reduceCtorEq, Nat.reduceEqDiff, Nat.reduceAdd, Nat.reduceMul, Nat.reduceSub, Nat.reduceLeDiff, Nat.reduceBEq, Int.reduceToNat, Int.reduceLE, Int.reduceLT, Int.reduceEq, Int.reduceNe, di0, di1, di2, di3, di4, di5, di6, di7, di8, di9, postX_ret, postX_normal, ex_some]
    rw [if_neg h0]; trivial
end Go.DI

/- Contracts: the program's pairs of lakes, states and steps. No condition. -/
set_option linter.unusedSimpArgs false
namespace Go.DI
open Go.Proofs Go.RowKit Lk

/-- Tables that are not too long to be looked through. -/
structure Sm (p : Pair) : Prop where
  u : p.u.length ≤ 1000000000000
  l : p.l.length ≤ 1000000000000

def pairErr (p : Pair) : Int := if (chkT p.u).2 = 0 then if (chkT p.l).2 = 0 then if Wi p.rate 0 1000 then 0 else 2 else (chkT p.l).2 else (chkT p.u).2
def bothErr (p : Pair) (s : Sta) : Int := if pairErr p = 0 then if stOk p s then 0 else 2 else pairErr p
def flowErr (x : Flow) : Int := if flowOk x then 0 else 2

theorem pairErr_ok {p : Pair} : pairErr p = 0 ↔ VPair p := by
  unfold pairErr
  constructor
  · intro h
    split at h
    · rename_i h1
      split at h
      · rename_i h2
        split at h
        · rename_i h3; exact ⟨chkT_ok.1 h1, chkT_ok.1 h2, h3⟩
        · omega
      · contradiction
    · contradiction
  · intro h
    rw [if_pos (chkT_ok.2 h.u), if_pos (chkT_ok.2 h.l), if_pos h.r]

theorem p_CheckPair {p : Pair} (h : Sm p) : Contract Try.prog 19 [lpI p] (.int .i64 (pairErr p)) := by
  refine contract_run Try.func19 k19 rfl ?_
  simp only [lpI, body19, b19, res19, knI, tabI, pieceI, pairI, getD_kn, ↓reduceIte, reduceCtorEq, Nat.reduceEqDiff, Nat.reduceAdd, Nat.reduceMul, Nat.reduceSub, Nat.reduceLeDiff, Nat.reduceBEq, Int.reduceToNat, Int.reduceLE, Int.reduceLT, Int.reduceEq, Int.reduceNe, di0, di1, di2, di3, di4, di5, di6, di7, di8, di9, postX_ret, postX_normal, ex_some]
  refine calls_of (p_tableErr h.u) ?_; simp only [knI, tabI, pieceI, pairI, getD_kn, res19, ↓reduceIte, reduceCtorEq, Nat.reduceEqDiff, Nat.reduceAdd, Nat.reduceMul, Nat.reduceSub, Nat.reduceLeDiff, Nat.reduceBEq, Int.reduceToNat, Int.reduceLE, Int.reduceLT, Int.reduceEq, Int.reduceNe, di0, di1, di2, di3, di4, di5, di6, di7, di8, di9, postX_ret, postX_normal, ex_some]
  refine calls_of (p_tableErr h.l) ?_; simp only [knI, tabI, pieceI, pairI, getD_kn, res19, ↓reduceIte, reduceCtorEq, Nat.reduceEqDiff, Nat.reduceAdd, Nat.reduceMul, Nat.reduceSub, Nat.reduceLeDiff, Nat.reduceBEq, Int.reduceToNat, Int.reduceLE, Int.reduceLT, Int.reduceEq, Int.reduceNe, di0, di1, di2, di3, di4, di5, di6, di7, di8, di9, postX_ret, postX_normal, ex_some]
  refine calls_of p_within ?_; simp only [knI, tabI, pieceI, pairI, getD_kn, res19, ↓reduceIte, reduceCtorEq, Nat.reduceEqDiff, Nat.reduceAdd, Nat.reduceMul, Nat.reduceSub, Nat.reduceLeDiff, Nat.reduceBEq, Int.reduceToNat, Int.reduceLE, Int.reduceLT, Int.reduceEq, Int.reduceNe, di0, di1, di2, di3, di4, di5, di6, di7, di8, di9, postX_ret, postX_normal, ex_some]
  refine calls_of p_unless ?_; simp only [knI, tabI, pieceI, pairI, getD_kn, res19, ↓reduceIte, reduceCtorEq, Nat.reduceEqDiff, Nat.reduceAdd, Nat.reduceMul, Nat.reduceSub, Nat.reduceLeDiff, Nat.reduceBEq, Int.reduceToNat, Int.reduceLE, Int.reduceLT, Int.reduceEq, Int.reduceNe, di0, di1, di2, di3, di4, di5, di6, di7, di8, di9, postX_ret, postX_normal, ex_some]
  refine calls_of p_first3 ?_; simp only [knI, tabI, pieceI, pairI, getD_kn, res19, ↓reduceIte, reduceCtorEq, Nat.reduceEqDiff, Nat.reduceAdd, Nat.reduceMul, Nat.reduceSub, Nat.reduceLeDiff, Nat.reduceBEq, Int.reduceToNat, Int.reduceLE, Int.reduceLT, Int.reduceEq, Int.reduceNe, di0, di1, di2, di3, di4, di5, di6, di7, di8, di9, postX_ret, postX_normal, ex_some]
  unfold pairErr
  rfl

theorem p_openPair {p : Pair} (h : Sm p) : Contract Try.prog 97 [lpI p] (.tup [lpI p, .int .i64 (pairErr p)]) := by
  refine contract_run Try.func97 k97 rfl ?_
  simp only [lpI, body97, b97, res97, knI, tabI, pieceI, pairI, getD_kn, ↓reduceIte, reduceCtorEq, Nat.reduceEqDiff, Nat.reduceAdd, Nat.reduceMul, Nat.reduceSub, Nat.reduceLeDiff, Nat.reduceBEq, Int.reduceToNat, Int.reduceLE, Int.reduceLT, Int.reduceEq, Int.reduceNe, di0, di1, di2, di3, di4, di5, di6, di7, di8, di9, postX_ret, postX_normal, ex_some]
  refine calls_of (p_CheckPair h) ?_; simp only [knI, tabI, pieceI, pairI, getD_kn, res97, ↓reduceIte, reduceCtorEq, Nat.reduceEqDiff, Nat.reduceAdd, Nat.reduceMul, Nat.reduceSub, Nat.reduceLeDiff, Nat.reduceBEq, Int.reduceToNat, Int.reduceLE, Int.reduceLT, Int.reduceEq, Int.reduceNe, di0, di1, di2, di3, di4, di5, di6, di7, di8, di9, postX_ret, postX_normal, ex_some]

theorem p_stateErr {p : Pair} {s : Sta} (h : VPair p) : Contract Try.prog 98 [lpI p, stI s] (.int .i64 (if stOk p s then 0 else 2)) := by
  have hu := valid_len h.u
  have hl := valid_len h.l
  unfold stOk
  refine contract_run Try.func98 k98 rfl ?_
  simp only [lpI, stI, body98, b98, res98, knI, tabI, pieceI, pairI, getD_kn, ↓reduceIte, reduceCtorEq, Nat.reduceEqDiff, Nat.reduceAdd, Nat.reduceMul, Nat.reduceSub, Nat.reduceLeDiff, Nat.reduceBEq, Int.reduceToNat, Int.reduceLE, Int.reduceLT, Int.reduceEq, Int.reduceNe, di0, di1, di2, di3, di4, di5, di6, di7, di8, di9, postX_ret, postX_normal, ex_some]
  repeat (refine And.intro (by omega) ?_)
  refine calls_of (p_holds hu.1 hu.2) ?_; simp only [knI, tabI, pieceI, pairI, lpI, stI, flI, rdI, rnI, getD_kn, res98, ↓reduceIte, reduceCtorEq, Nat.reduceEqDiff, Nat.reduceAdd, Nat.reduceMul, Nat.reduceSub, Nat.reduceLeDiff, Nat.reduceBEq, Int.reduceToNat, Int.reduceLE, Int.reduceLT, Int.reduceEq, Int.reduceNe, di0, di1, di2, di3, di4, di5, di6, di7, di8, di9, postX_ret, postX_normal, ex_some]
  split
  · rename_i h1
    repeat (refine And.intro (by omega) ?_)
    refine calls_of (p_holds hl.1 hl.2) ?_; simp only [knI, tabI, pieceI, pairI, lpI, stI, flI, rdI, rnI, getD_kn, res98, ↓reduceIte, reduceCtorEq, Nat.reduceEqDiff, Nat.reduceAdd, Nat.reduceMul, Nat.reduceSub, Nat.reduceLeDiff, Nat.reduceBEq, Int.reduceToNat, Int.reduceLE, Int.reduceLT, Int.reduceEq, Int.reduceNe, di0, di1, di2, di3, di4, di5, di6, di7, di8, di9, postX_ret, postX_normal, ex_some]
    refine calls_of p_unless ?_; simp only [knI, tabI, pieceI, pairI, lpI, stI, flI, rdI, rnI, getD_kn, res98, ↓reduceIte, reduceCtorEq, Nat.reduceEqDiff, Nat.reduceAdd, Nat.reduceMul, Nat.reduceSub, Nat.reduceLeDiff, Nat.reduceBEq, Int.reduceToNat, Int.reduceLE, Int.reduceLT, Int.reduceEq, Int.reduceNe, di0, di1, di2, di3, di4, di5, di6, di7, di8, di9, postX_ret, postX_normal, ex_some]
    simp [h1]
  · rename_i h1
    refine calls_of p_unless ?_; simp only [knI, tabI, pieceI, pairI, lpI, stI, flI, rdI, rnI, getD_kn, res98, ↓reduceIte, reduceCtorEq, Nat.reduceEqDiff, Nat.reduceAdd, Nat.reduceMul, Nat.reduceSub, Nat.reduceLeDiff, Nat.reduceBEq, Int.reduceToNat, Int.reduceLE, Int.reduceLT, Int.reduceEq, Int.reduceNe, di0, di1, di2, di3, di4, di5, di6, di7, di8, di9, postX_ret, postX_normal, ex_some]
    simp [h1]

theorem p_openState {p : Pair} {s : Sta} (h : Sm p) : Contract Try.prog 61 [lpI p, stI s] (.tup [lpI p, .int .i64 (bothErr p s)]) := by
  refine contract_run Try.func61 k61 rfl ?_
  simp only [body61, b61, res61, b61k0, knI, tabI, pieceI, pairI, lpI, stI, flI, rdI, rnI, getD_kn, ↓reduceIte, reduceCtorEq, Nat.reduceEqDiff, Nat.reduceAdd, Nat.reduceMul, Nat.reduceSub, Nat.reduceLeDiff, Nat.reduceBEq, Int.reduceToNat, Int.reduceLE, Int.reduceLT, Int.reduceEq, Int.reduceNe, di0, di1, di2, di3, di4, di5, di6, di7, di8, di9, postX_ret, postX_normal, ex_some]
  refine calls_of (p_openPair h) ?_; simp only [knI, tabI, pieceI, pairI, lpI, stI, flI, rdI, rnI, getD_kn, res61, b61k0, ↓reduceIte, reduceCtorEq, Nat.reduceEqDiff, Nat.reduceAdd, Nat.reduceMul, Nat.reduceSub, Nat.reduceLeDiff, Nat.reduceBEq, Int.reduceToNat, Int.reduceLE, Int.reduceLT, Int.reduceEq, Int.reduceNe, di0, di1, di2, di3, di4, di5, di6, di7, di8, di9, postX_ret, postX_normal, ex_some]
  unfold bothErr
  split
  · rename_i h1
    refine calls_of (p_stateErr (pairErr_ok.1 h1)) ?_; simp only [knI, tabI, pieceI, pairI, lpI, stI, flI, rdI, rnI, getD_kn, res61, b61k0, ↓reduceIte, reduceCtorEq, Nat.reduceEqDiff, Nat.reduceAdd, Nat.reduceMul, Nat.reduceSub, Nat.reduceLeDiff, Nat.reduceBEq, Int.reduceToNat, Int.reduceLE, Int.reduceLT, Int.reduceEq, Int.reduceNe, di0, di1, di2, di3, di4, di5, di6, di7, di8, di9, postX_ret, postX_normal, ex_some]
  · rename_i h1
    rfl

theorem p_CheckState {p : Pair} {s : Sta} (h : Sm p) : Contract Try.prog 21 [lpI p, stI s] (.int .i64 (bothErr p s)) := by
  refine contract_run Try.func21 k21 rfl ?_
  simp only [body21, b21, res21, knI, tabI, pieceI, pairI, lpI, stI, flI, rdI, rnI, getD_kn, ↓reduceIte, reduceCtorEq, Nat.reduceEqDiff, Nat.reduceAdd, Nat.reduceMul, Nat.reduceSub, Nat.reduceLeDiff, Nat.reduceBEq, Int.reduceToNat, Int.reduceLE, Int.reduceLT, Int.reduceEq, Int.reduceNe, di0, di1, di2, di3, di4, di5, di6, di7, di8, di9, postX_ret, postX_normal, ex_some]
  refine calls_of (p_openState h) ?_; simp only [knI, tabI, pieceI, pairI, lpI, stI, flI, rdI, rnI, getD_kn, res21, ↓reduceIte, reduceCtorEq, Nat.reduceEqDiff, Nat.reduceAdd, Nat.reduceMul, Nat.reduceSub, Nat.reduceLeDiff, Nat.reduceBEq, Int.reduceToNat, Int.reduceLE, Int.reduceLT, Int.reduceEq, Int.reduceNe, di0, di1, di2, di3, di4, di5, di6, di7, di8, di9, postX_ret, postX_normal, ex_some]

theorem p_isFlow {n : Int} : Contract Try.prog 99 [.int .i64 n] (.bool (decide (Wi n 0 10000000))) := by
  refine contract_run Try.func99 k99 rfl ?_
  simp only [body99, b99, res99, knI, tabI, pieceI, pairI, getD_kn, ↓reduceIte, reduceCtorEq, Nat.reduceEqDiff, Nat.reduceAdd, Nat.reduceMul, Nat.reduceSub, Nat.reduceLeDiff, Nat.reduceBEq, Int.reduceToNat, Int.reduceLE, Int.reduceLT, Int.reduceEq, Int.reduceNe, di0, di1, di2, di3, di4, di5, di6, di7, di8, di9, postX_ret, postX_normal, ex_some]
  refine calls_of p_within ?_; simp only [knI, tabI, pieceI, pairI, getD_kn, res99, ↓reduceIte, reduceCtorEq, Nat.reduceEqDiff, Nat.reduceAdd, Nat.reduceMul, Nat.reduceSub, Nat.reduceLeDiff, Nat.reduceBEq, Int.reduceToNat, Int.reduceLE, Int.reduceLT, Int.reduceEq, Int.reduceNe, di0, di1, di2, di3, di4, di5, di6, di7, di8, di9, postX_ret, postX_normal, ex_some]

theorem p_flowsErr {x : Flow} : Contract Try.prog 65 [flI x] (.int .i64 (flowErr x)) := by
  unfold flowErr flowOk
  refine contract_run Try.func65 k65 rfl ?_
  simp only [body65, b65, res65, knI, tabI, pieceI, pairI, lpI, stI, flI, rdI, rnI, getD_kn, ↓reduceIte, reduceCtorEq, Nat.reduceEqDiff, Nat.reduceAdd, Nat.reduceMul, Nat.reduceSub, Nat.reduceLeDiff, Nat.reduceBEq, Int.reduceToNat, Int.reduceLE, Int.reduceLT, Int.reduceEq, Int.reduceNe, di0, di1, di2, di3, di4, di5, di6, di7, di8, di9, postX_ret, postX_normal, ex_some]
  refine calls_of p_isFlow ?_; simp only [knI, tabI, pieceI, pairI, lpI, stI, flI, rdI, rnI, getD_kn, res65, ↓reduceIte, reduceCtorEq, Nat.reduceEqDiff, Nat.reduceAdd, Nat.reduceMul, Nat.reduceSub, Nat.reduceLeDiff, Nat.reduceBEq, Int.reduceToNat, Int.reduceLE, Int.reduceLT, Int.reduceEq, Int.reduceNe, di0, di1, di2, di3, di4, di5, di6, di7, di8, di9, postX_ret, postX_normal, ex_some]
  split
  · rename_i h1
    refine calls_of p_isFlow ?_; simp only [knI, tabI, pieceI, pairI, lpI, stI, flI, rdI, rnI, getD_kn, res65, ↓reduceIte, reduceCtorEq, Nat.reduceEqDiff, Nat.reduceAdd, Nat.reduceMul, Nat.reduceSub, Nat.reduceLeDiff, Nat.reduceBEq, Int.reduceToNat, Int.reduceLE, Int.reduceLT, Int.reduceEq, Int.reduceNe, di0, di1, di2, di3, di4, di5, di6, di7, di8, di9, postX_ret, postX_normal, ex_some]
    split
    · rename_i h2
      refine calls_of p_within ?_; simp only [knI, tabI, pieceI, pairI, lpI, stI, flI, rdI, rnI, getD_kn, res65, ↓reduceIte, reduceCtorEq, Nat.reduceEqDiff, Nat.reduceAdd, Nat.reduceMul, Nat.reduceSub, Nat.reduceLeDiff, Nat.reduceBEq, Int.reduceToNat, Int.reduceLE, Int.reduceLT, Int.reduceEq, Int.reduceNe, di0, di1, di2, di3, di4, di5, di6, di7, di8, di9, postX_ret, postX_normal, ex_some]
      refine calls_of p_unless ?_; simp only [knI, tabI, pieceI, pairI, lpI, stI, flI, rdI, rnI, getD_kn, res65, ↓reduceIte, reduceCtorEq, Nat.reduceEqDiff, Nat.reduceAdd, Nat.reduceMul, Nat.reduceSub, Nat.reduceLeDiff, Nat.reduceBEq, Int.reduceToNat, Int.reduceLE, Int.reduceLT, Int.reduceEq, Int.reduceNe, di0, di1, di2, di3, di4, di5, di6, di7, di8, di9, postX_ret, postX_normal, ex_some]
      simp [h1, h2]
    · rename_i h2
      refine calls_of p_unless ?_; simp only [knI, tabI, pieceI, pairI, lpI, stI, flI, rdI, rnI, getD_kn, res65, ↓reduceIte, reduceCtorEq, Nat.reduceEqDiff, Nat.reduceAdd, Nat.reduceMul, Nat.reduceSub, Nat.reduceLeDiff, Nat.reduceBEq, Int.reduceToNat, Int.reduceLE, Int.reduceLT, Int.reduceEq, Int.reduceNe, di0, di1, di2, di3, di4, di5, di6, di7, di8, di9, postX_ret, postX_normal, ex_some]
      simp [h1, h2]
  · rename_i h1
    refine calls_of p_unless ?_; simp only [knI, tabI, pieceI, pairI, lpI, stI, flI, rdI, rnI, getD_kn, res65, ↓reduceIte, reduceCtorEq, Nat.reduceEqDiff, Nat.reduceAdd, Nat.reduceMul, Nat.reduceSub, Nat.reduceLeDiff, Nat.reduceBEq, Int.reduceToNat, Int.reduceLE, Int.reduceLT, Int.reduceEq, Int.reduceNe, di0, di1, di2, di3, di4, di5, di6, di7, di8, di9, postX_ret, postX_normal, ex_some]
    simp [h1]

theorem p_evaporated {l : List Kn} {v rate : Int} (h : Valid l) (hv : isV l v) (hr : Wi rate 0 1000) : Contract Try.prog 100 [tabI l, .int .i64 v, .int .i64 rate] (.int .i64 (evap l rate v)) := by
  have hz := valid_len h
  have hb := p_byVolume h hv.2
  obtain ⟨i, hi, i1, i2, i3, i4, i5⟩ := at_volume h hv
  have dp := dh_pos h i1 i2
  have dq := dv_pos h i1 i2
  have ka := kb_valid h i2
  have kb := kb_valid h (i := i - 1) (by omega)
  have rb := h.range (i := 0) hz.1
  have rt := h.range (i := i) i2
  have hm := mul_bd (x := rate) (y := dv l i) (by unfold Wi at hr; omega) (by unfold Wi at hr; omega) (by omega) (by omega)
  have hm0 : 0 ≤ rate * dv l i := Int.mul_nonneg hr.1 (by omega)
  have hbv := hv.1
  unfold bot at hbv
  have hq := ediv_bd (n := rate * dv l i) (d := 1000 * dh l i) (by omega) (by omega) (by omega)
  rw [hi] at hb
  refine contract_run Try.func100 k100 rfl ?_
  simp only [body100, b100, res100, knI, tabI, pieceI, pairI, getD_kn, ↓reduceIte, reduceCtorEq, Nat.reduceEqDiff, Nat.reduceAdd, Nat.reduceMul, Nat.reduceSub, Nat.reduceLeDiff, Nat.reduceBEq, Int.reduceToNat, Int.reduceLE, Int.reduceLT, Int.reduceEq, Int.reduceNe, di0, di1, di2, di3, di4, di5, di6, di7, di8, di9, postX_ret, postX_normal, ex_some]
  refine calls_of hb ?_; simp only [knI, tabI, pieceI, pairI, getD_kn, res100, ↓reduceIte, reduceCtorEq, Nat.reduceEqDiff, Nat.reduceAdd, Nat.reduceMul, Nat.reduceSub, Nat.reduceLeDiff, Nat.reduceBEq, Int.reduceToNat, Int.reduceLE, Int.reduceLT, Int.reduceEq, Int.reduceNe, di0, di1, di2, di3, di4, di5, di6, di7, di8, di9, postX_ret, postX_normal, ex_some]
  refine calls_of (p_volume kb ka) ?_; simp only [knI, tabI, pieceI, pairI, getD_kn, res100, ↓reduceIte, reduceCtorEq, Nat.reduceEqDiff, Nat.reduceAdd, Nat.reduceMul, Nat.reduceSub, Nat.reduceLeDiff, Nat.reduceBEq, Int.reduceToNat, Int.reduceLE, Int.reduceLT, Int.reduceEq, Int.reduceNe, di0, di1, di2, di3, di4, di5, di6, di7, di8, di9, postX_ret, postX_normal, ex_some]
  refine calls_of (p_height kb ka) ?_; simp only [knI, tabI, pieceI, pairI, getD_kn, res100, ↓reduceIte, reduceCtorEq, Nat.reduceEqDiff, Nat.reduceAdd, Nat.reduceMul, Nat.reduceSub, Nat.reduceLeDiff, Nat.reduceBEq, Int.reduceToNat, Int.reduceLE, Int.reduceLT, Int.reduceEq, Int.reduceNe, di0, di1, di2, di3, di4, di5, di6, di7, di8, di9, postX_ret, postX_normal, ex_some]
  rw [show (kn l i).2 - (kn l (i - 1)).2 = dv l i from rfl, show (kn l i).1 - (kn l (i - 1)).1 = dh l i from rfl]
  rw [wrap64 (n := rate * dv l i) (by omega) (by omega), wrap64 (n := 1000 * dh l i) (by omega) (by omega), Int.tdiv_eq_ediv_of_nonneg hm0]
  refine ⟨by omega, ?_⟩
  refine calls_of (p_bottom hz.1) ?_; simp only [knI, tabI, pieceI, pairI, getD_kn, res100, ↓reduceIte, reduceCtorEq, Nat.reduceEqDiff, Nat.reduceAdd, Nat.reduceMul, Nat.reduceSub, Nat.reduceLeDiff, Nat.reduceBEq, Int.reduceToNat, Int.reduceLE, Int.reduceLT, Int.reduceEq, Int.reduceNe, di0, di1, di2, di3, di4, di5, di6, di7, di8, di9, postX_ret, postX_normal, ex_some]
  unfold evap
  rw [hi, wrap64 (n := rate * dv l i / (1000 * dh l i)) (by omega) (by omega), wrap64 (n := v - (bot l).2) (by unfold bot; omega) (by unfold bot; omega)]

def stepI (r : Option (Sta × Int × Int)) : IV := match r with
  | some (t, e, f) => .tup [.agg [.int .i64 t.1, .int .i64 t.2], .agg [.int .i64 e, .int .i64 f], .bool true]
  | none => .tup [.agg [.int .i64 0, .int .i64 0], .agg [.int .i64 0, .int .i64 0], .bool false]

/-- A round of a loop, entered. -/
theorem run_round {P : Program} {k : List KF} {Q : Ex → St → Prop} {st : St} {live ids : List Nat} {a c : DCode} (hc : c = .keep live ids a) (h : run P a (.again c :: k) Q (st.keep live ids)) : run P (.loop c) k Q st := by
  subst hc
  exact run_loop h

theorem lakeStep_none {l : List Kn} {rate v g : Int} (h : v + g - evap l rate v < (bot l).2) : lakeStep l rate v g = none := by
  unfold lakeStep; dsimp only; rw [if_pos h]
theorem lakeStep_go {l : List Kn} {rate v g : Int} (h : ¬ v + g - evap l rate v < (bot l).2) : lakeStep l rate v g = some (v + g - evap l rate v - max 0 (v + g - evap l rate v - (top l).2), evap l rate v, max 0 (v + g - evap l rate v - (top l).2)) := by
  unfold lakeStep; dsimp only; rw [if_neg h]

theorem p_step {p : Pair} {s : Sta} {x : Flow} (h : VPair p) (hs : stOk p s) (hx : flowOk x) : Contract Try.prog 66 [lpI p, stI s, flI x] (stepI (Lk.step p s x)) := by
  have zu := valid_len h.u
  have zl := valid_len h.l
  have vu := hs.1
  have vl := hs.2
  have eu := evap_in h.u vu h.r.1
  have el := evap_in h.l vl h.r.1
  have pu := p_evaporated h.u vu h.r
  have pl := p_evaporated h.l vl h.r
  have bu := h.u.range (i := 0) zu.1
  have bl := h.l.range (i := 0) zl.1
  have tu := h.u.range (i := p.u.length - 1) (by omega)
  have tl := h.l.range (i := p.l.length - 1) (by omega)
  have cu : (bot p.u).2 = (kn p.u 0).2 := rfl
  have cl : (bot p.l).2 = (kn p.l 0).2 := rfl
  have du : (top p.u).2 = (kn p.u (p.u.length - 1)).2 := rfl
  have dl : (top p.l).2 = (kn p.l (p.l.length - 1)).2 := rfl
  have vu1 := vu.1
  have vu2 := vu.2
  have vl1 := vl.1
  have vl2 := vl.2
  obtain ⟨⟨x1, x2⟩, ⟨x3, x4⟩, ⟨x5, x6⟩⟩ := hx
  have w1 : IntKind.wrap .i64 (x.up + x.ex) = x.up + x.ex := wrap64 (by omega) (by omega)
  have w2 : IntKind.wrap .i64 (x.low - x.ex) = x.low - x.ex := wrap64 (by omega) (by omega)
  have hU := lakeStep_none (l := p.u) (rate := p.rate) (v := s.1) (g := x.up + x.ex)
  have hU' := lakeStep_go (l := p.u) (rate := p.rate) (v := s.1) (g := x.up + x.ex)
  have hL := lakeStep_none (l := p.l) (rate := p.rate) (v := s.2) (g := x.low - x.ex)
  have hL' := lakeStep_go (l := p.l) (rate := p.rate) (v := s.2) (g := x.low - x.ex)
  unfold Lk.step
  generalize evap p.u p.rate s.1 = ea at *
  generalize evap p.l p.rate s.2 = eb at *
  refine contract_run Try.func66 k66 rfl ?_
  simp only [body66, b66, res66, b66k0, b66k1, b66k2, b66k3, w1, w2, knI, tabI, pieceI, pairI, lpI, stI, flI, rdI, rnI, getD_kn, ↓reduceIte, reduceCtorEq, Nat.reduceEqDiff, Nat.reduceAdd, Nat.reduceMul, Nat.reduceSub, Nat.reduceLeDiff, Nat.reduceBEq, Int.reduceToNat, Int.reduceLE, Int.reduceLT, Int.reduceEq, Int.reduceNe, di0, di1, di2, di3, di4, di5, di6, di7, di8, di9, postX_ret, postX_normal, ex_some]
  have k1 : IntKind.wrap .i64 (x.up + x.ex - ea) = x.up + x.ex - ea := wrap64 (by omega) (by omega)
  have k2 : IntKind.wrap .i64 (s.1 + (x.up + x.ex - ea)) = s.1 + (x.up + x.ex - ea) := wrap64 (by omega) (by omega)
  have k3 : IntKind.wrap .i64 (x.low - x.ex - eb) = x.low - x.ex - eb := wrap64 (by omega) (by omega)
  have k4 : IntKind.wrap .i64 (s.2 + (x.low - x.ex - eb)) = s.2 + (x.low - x.ex - eb) := wrap64 (by omega) (by omega)
  have k5 : IntKind.wrap .i64 ea = ea := wrap64 (by omega) (by omega)
  have k6 : IntKind.wrap .i64 (ea + eb) = ea + eb := wrap64 (by omega) (by omega)
  refine run_round rfl ?_
  simp only [res66, b66k0, b66k1, b66k2, b66k3, knI, tabI, pieceI, pairI, lpI, stI, flI, rdI, rnI, getD_kn, ↓reduceIte, reduceCtorEq, Nat.reduceEqDiff, Nat.reduceAdd, Nat.reduceMul, Nat.reduceSub, Nat.reduceLeDiff, Nat.reduceBEq, Int.reduceToNat, Int.reduceLE, Int.reduceLT, Int.reduceEq, Int.reduceNe, di0, di1, di2, di3, di4, di5, di6, di7, di8, di9, postX_ret, postX_normal, ex_some]
  repeat (refine And.intro (by omega) ?_)
  refine calls_of pu ?_; simp only [knI, tabI, pieceI, pairI, lpI, stI, flI, rdI, rnI, getD_kn, res66, b66k0, b66k1, b66k2, b66k3, ↓reduceIte, reduceCtorEq, Nat.reduceEqDiff, Nat.reduceAdd, Nat.reduceMul, Nat.reduceSub, Nat.reduceLeDiff, Nat.reduceBEq, Int.reduceToNat, Int.reduceLE, Int.reduceLT, Int.reduceEq, Int.reduceNe, di0, di1, di2, di3, di4, di5, di6, di7, di8, di9, postX_ret, postX_normal, ex_some]
  repeat (refine And.intro (by omega) ?_)
  refine calls_of (p_bottom zu.1) ?_; simp only [knI, tabI, pieceI, pairI, lpI, stI, flI, rdI, rnI, getD_kn, res66, b66k0, b66k1, b66k2, b66k3, ↓reduceIte, reduceCtorEq, Nat.reduceEqDiff, Nat.reduceAdd, Nat.reduceMul, Nat.reduceSub, Nat.reduceLeDiff, Nat.reduceBEq, Int.reduceToNat, Int.reduceLE, Int.reduceLT, Int.reduceEq, Int.reduceNe, di0, di1, di2, di3, di4, di5, di6, di7, di8, di9, postX_ret, postX_normal, ex_some]
  simp only [k1, k2]
  have mU : s.1 + (x.up + x.ex - ea) = s.1 + (x.up + x.ex) - ea := by omega
  have mL : s.2 + (x.low - x.ex - eb) = s.2 + (x.low - x.ex) - eb := by omega
  split
  · rename_i h1
    rw [hU (by omega)]
    rfl
  · rename_i h1
    rw [hU' (by omega)]
    repeat (refine And.intro (by omega) ?_)
    refine calls_of (p_top zu.1 zu.2) ?_; simp only [knI, tabI, pieceI, pairI, lpI, stI, flI, rdI, rnI, getD_kn, res66, b66k0, b66k1, b66k2, b66k3, ↓reduceIte, reduceCtorEq, Nat.reduceEqDiff, Nat.reduceAdd, Nat.reduceMul, Nat.reduceSub, Nat.reduceLeDiff, Nat.reduceBEq, Int.reduceToNat, Int.reduceLE, Int.reduceLT, Int.reduceEq, Int.reduceNe, di0, di1, di2, di3, di4, di5, di6, di7, di8, di9, postX_ret, postX_normal, ex_some]
    have k7 : IntKind.wrap .i64 (s.1 + (x.up + x.ex - ea) - (top p.u).2) = s.1 + (x.up + x.ex - ea) - (top p.u).2 := wrap64 (by omega) (by omega)
    have k8 : IntKind.wrap .i64 (max 0 (s.1 + (x.up + x.ex - ea) - (top p.u).2)) = max 0 (s.1 + (x.up + x.ex - ea) - (top p.u).2) := wrap64 (by omega) (by omega)
    have k9 : IntKind.wrap .i64 (s.1 + (x.up + x.ex - ea) - max 0 (s.1 + (x.up + x.ex - ea) - (top p.u).2)) = s.1 + (x.up + x.ex - ea) - max 0 (s.1 + (x.up + x.ex - ea) - (top p.u).2) := wrap64 (by omega) (by omega)
    simp only [k5, k7, k8, k9, Int.zero_add]
    repeat (refine And.intro (by omega) ?_)
    have hfa : 0 ≤ max 0 (s.1 + (x.up + x.ex - ea) - (top p.u).2) ∧ max 0 (s.1 + (x.up + x.ex - ea) - (top p.u).2) ≤ 20000000 := by omega
    rw [mU] at *
    generalize max 0 (s.1 + (x.up + x.ex) - ea - (top p.u).2) = fa at *
    generalize s.1 + (x.up + x.ex) - ea = va at *
    have q1 : IntKind.wrap .i64 1 = 1 := wrap64 (by omega) (by omega)
    have q2 : IntKind.wrap .i64 (1 + 1) = 2 := wrap64 (by omega) (by omega)
    refine run_round rfl ?_
    simp only [q1, res66, b66k0, b66k1, b66k2, b66k3, knI, tabI, pieceI, pairI, lpI, stI, flI, rdI, rnI, getD_kn, ↓reduceIte, reduceCtorEq, Nat.reduceEqDiff, Nat.reduceAdd, Nat.reduceMul, Nat.reduceSub, Nat.reduceLeDiff, Nat.reduceBEq, Int.reduceToNat, Int.reduceLE, Int.reduceLT, Int.reduceEq, Int.reduceNe, di0, di1, di2, di3, di4, di5, di6, di7, di8, di9, postX_ret, postX_normal, ex_some]
    repeat (refine And.intro (by omega) ?_)
    refine calls_of pl ?_; simp only [knI, tabI, pieceI, pairI, lpI, stI, flI, rdI, rnI, getD_kn, res66, b66k0, b66k1, b66k2, b66k3, ↓reduceIte, reduceCtorEq, Nat.reduceEqDiff, Nat.reduceAdd, Nat.reduceMul, Nat.reduceSub, Nat.reduceLeDiff, Nat.reduceBEq, Int.reduceToNat, Int.reduceLE, Int.reduceLT, Int.reduceEq, Int.reduceNe, di0, di1, di2, di3, di4, di5, di6, di7, di8, di9, postX_ret, postX_normal, ex_some]
    repeat (refine And.intro (by omega) ?_)
    refine calls_of (p_bottom zl.1) ?_; simp only [knI, tabI, pieceI, pairI, lpI, stI, flI, rdI, rnI, getD_kn, res66, b66k0, b66k1, b66k2, b66k3, ↓reduceIte, reduceCtorEq, Nat.reduceEqDiff, Nat.reduceAdd, Nat.reduceMul, Nat.reduceSub, Nat.reduceLeDiff, Nat.reduceBEq, Int.reduceToNat, Int.reduceLE, Int.reduceLT, Int.reduceEq, Int.reduceNe, di0, di1, di2, di3, di4, di5, di6, di7, di8, di9, postX_ret, postX_normal, ex_some]
    simp only [k3, k4]
    split
    · rename_i h2
      rw [hL (by omega)]
      rfl
    · rename_i h2
      rw [hL' (by omega)]
      repeat (refine And.intro (by omega) ?_)
      refine calls_of (p_top zl.1 zl.2) ?_; simp only [knI, tabI, pieceI, pairI, lpI, stI, flI, rdI, rnI, getD_kn, res66, b66k0, b66k1, b66k2, b66k3, ↓reduceIte, reduceCtorEq, Nat.reduceEqDiff, Nat.reduceAdd, Nat.reduceMul, Nat.reduceSub, Nat.reduceLeDiff, Nat.reduceBEq, Int.reduceToNat, Int.reduceLE, Int.reduceLT, Int.reduceEq, Int.reduceNe, di0, di1, di2, di3, di4, di5, di6, di7, di8, di9, postX_ret, postX_normal, ex_some]
      have k10 : IntKind.wrap .i64 (s.2 + (x.low - x.ex - eb) - (top p.l).2) = s.2 + (x.low - x.ex - eb) - (top p.l).2 := wrap64 (by omega) (by omega)
      have k12 : IntKind.wrap .i64 (s.2 + (x.low - x.ex - eb) - max 0 (s.2 + (x.low - x.ex - eb) - (top p.l).2)) = s.2 + (x.low - x.ex - eb) - max 0 (s.2 + (x.low - x.ex - eb) - (top p.l).2) := wrap64 (by omega) (by omega)
      have k13 : IntKind.wrap .i64 (fa + max 0 (s.2 + (x.low - x.ex - eb) - (top p.l).2)) = fa + max 0 (s.2 + (x.low - x.ex - eb) - (top p.l).2) := wrap64 (by omega) (by omega)
      simp only [k6, k10, k12, k13]
      repeat (refine And.intro (by omega) ?_)
      rw [mL] at *
      generalize max 0 (s.2 + (x.low - x.ex) - eb - (top p.l).2) = fb at *
      generalize s.2 + (x.low - x.ex) - eb = vb at *
      refine run_round rfl ?_
      simp only [q2, res66, b66k0, b66k1, b66k2, b66k3, knI, tabI, pieceI, pairI, lpI, stI, flI, rdI, rnI, getD_kn, ↓reduceIte, reduceCtorEq, Nat.reduceEqDiff, Nat.reduceAdd, Nat.reduceMul, Nat.reduceSub, Nat.reduceLeDiff, Nat.reduceBEq, Int.reduceToNat, Int.reduceLE, Int.reduceLT, Int.reduceEq, Int.reduceNe, di0, di1, di2, di3, di4, di5, di6, di7, di8, di9, postX_ret, postX_normal, ex_some]
      repeat (refine And.intro (by omega) ?_)
      rfl
end Go.DI

/- Contracts: the program's steps, runs and usable volumes, as it hands them out. No condition. -/
set_option linter.unusedSimpArgs false
namespace Go.DI
open Go.Proofs Go.RowKit Lk

def stepE (p : Pair) (s : Sta) (x : Flow) : Int := if bothErr p s = 0 then flowErr x else bothErr p s
/-- A step as it is handed out. -/
def stepO (p : Pair) (s : Sta) (x : Flow) : Sta × (Int × Int) × Int :=
  if stepE p s x = 0 then
    match Lk.step p s x with
    | some (t, e, f) => (t, (e, f), 0)
    | none => ((0, 0), (0, 0), 22)
  else ((0, 0), (0, 0), stepE p s x)
def outI (r : Sta × (Int × Int) × Int) : IV := .tup [.agg [.int .i64 r.1.1, .int .i64 r.1.2], .agg [.int .i64 r.2.1.1, .int .i64 r.2.1.2], .int .i64 r.2.2]

theorem bothErr_ok {p : Pair} {s : Sta} : bothErr p s = 0 ↔ VPair p ∧ stOk p s := by
  unfold bothErr
  constructor
  · intro h
    split at h
    · rename_i h1
      split at h
      · rename_i h2; exact ⟨pairErr_ok.1 h1, h2⟩
      · omega
    · contradiction
  · intro ⟨h1, h2⟩
    rw [if_pos (pairErr_ok.2 h1), if_pos h2]
theorem flowErr_ok {x : Flow} : flowErr x = 0 ↔ flowOk x := by
  unfold flowErr
  split
  · rename_i h; simp [h]
  · rename_i h; simp [h]

theorem p_Step {p : Pair} {s : Sta} {x : Flow} (h : Sm p) : Contract Try.prog 18 [lpI p, stI s, flI x] (outI (stepO p s x)) := by
  unfold stepO
  refine contract_run Try.func18 k18 rfl ?_
  simp only [body18, b18, res18, b18k0, knI, tabI, pieceI, pairI, lpI, stI, flI, rdI, rnI, getD_kn, ↓reduceIte, reduceCtorEq, Nat.reduceEqDiff, Nat.reduceAdd, Nat.reduceMul, Nat.reduceSub, Nat.reduceLeDiff, Nat.reduceBEq, Int.reduceToNat, Int.reduceLE, Int.reduceLT, Int.reduceEq, Int.reduceNe, di0, di1, di2, di3, di4, di5, di6, di7, di8, di9, postX_ret, postX_normal, ex_some]
  refine calls_of (p_openState h) ?_; simp only [knI, tabI, pieceI, pairI, lpI, stI, flI, rdI, rnI, getD_kn, res18, b18k0, ↓reduceIte, reduceCtorEq, Nat.reduceEqDiff, Nat.reduceAdd, Nat.reduceMul, Nat.reduceSub, Nat.reduceLeDiff, Nat.reduceBEq, Int.reduceToNat, Int.reduceLE, Int.reduceLT, Int.reduceEq, Int.reduceNe, di0, di1, di2, di3, di4, di5, di6, di7, di8, di9, postX_ret, postX_normal, ex_some]
  refine calls_of p_flowsErr ?_; simp only [knI, tabI, pieceI, pairI, lpI, stI, flI, rdI, rnI, getD_kn, res18, b18k0, ↓reduceIte, reduceCtorEq, Nat.reduceEqDiff, Nat.reduceAdd, Nat.reduceMul, Nat.reduceSub, Nat.reduceLeDiff, Nat.reduceBEq, Int.reduceToNat, Int.reduceLE, Int.reduceLT, Int.reduceEq, Int.reduceNe, di0, di1, di2, di3, di4, di5, di6, di7, di8, di9, postX_ret, postX_normal, ex_some]
  refine calls_of p_first2 ?_; simp only [knI, tabI, pieceI, pairI, lpI, stI, flI, rdI, rnI, getD_kn, res18, b18k0, ↓reduceIte, reduceCtorEq, Nat.reduceEqDiff, Nat.reduceAdd, Nat.reduceMul, Nat.reduceSub, Nat.reduceLeDiff, Nat.reduceBEq, Int.reduceToNat, Int.reduceLE, Int.reduceLT, Int.reduceEq, Int.reduceNe, di0, di1, di2, di3, di4, di5, di6, di7, di8, di9, postX_ret, postX_normal, ex_some]
  unfold stepE
  by_cases h0 : bothErr p s = 0
  · simp only [if_pos h0]
    have hv := bothErr_ok.1 h0
    by_cases h1 : flowErr x = 0
    · simp only [if_pos h1, knI, tabI, pieceI, pairI, lpI, stI, flI, rdI, rnI, getD_kn, ↓reduceIte, reduceCtorEq, Nat.reduceEqDiff, Nat.reduceAdd, Nat.reduceMul, Nat.reduceSub, Nat.reduceLeDiff, Nat.reduceBEq, Int.reduceToNat, Int.reduceLE, Int.reduceLT, Int.reduceEq, Int.reduceNe, di0, di1, di2, di3, di4, di5, di6, di7, di8, di9, postX_ret, postX_normal, ex_some]
      refine calls_of (p_step hv.1 hv.2 (flowErr_ok.1 h1)) ?_; simp only [knI, tabI, pieceI, pairI, lpI, stI, flI, rdI, rnI, getD_kn, res18, b18k0, ↓reduceIte, reduceCtorEq, Nat.reduceEqDiff, Nat.reduceAdd, Nat.reduceMul, Nat.reduceSub, Nat.reduceLeDiff, Nat.reduceBEq, Int.reduceToNat, Int.reduceLE, Int.reduceLT, Int.reduceEq, Int.reduceNe, di0, di1, di2, di3, di4, di5, di6, di7, di8, di9, postX_ret, postX_normal, ex_some]
      cases hst : Lk.step p s x with
      | none =>
        simp only [stepI, res18, b18k0, knI, tabI, pieceI, pairI, lpI, stI, flI, rdI, rnI, getD_kn, ↓reduceIte, reduceCtorEq, Nat.reduceEqDiff, Nat.reduceAdd, Nat.reduceMul, Nat.reduceSub, Nat.reduceLeDiff, Nat.reduceBEq, Int.reduceToNat, Int.reduceLE, Int.reduceLT, Int.reduceEq, Int.reduceNe, di0, di1, di2, di3, di4, di5, di6, di7, di8, di9, postX_ret, postX_normal, ex_some]
        refine calls_of p_unless ?_; simp only [knI, tabI, pieceI, pairI, lpI, stI, flI, rdI, rnI, getD_kn, res18, b18k0, ↓reduceIte, reduceCtorEq, Nat.reduceEqDiff, Nat.reduceAdd, Nat.reduceMul, Nat.reduceSub, Nat.reduceLeDiff, Nat.reduceBEq, Int.reduceToNat, Int.reduceLE, Int.reduceLT, Int.reduceEq, Int.reduceNe, di0, di1, di2, di3, di4, di5, di6, di7, di8, di9, postX_ret, postX_normal, ex_some]
        rfl
      | some r =>
        obtain ⟨t, e, f⟩ := r
        simp only [stepI, res18, b18k0, knI, tabI, pieceI, pairI, lpI, stI, flI, rdI, rnI, getD_kn, ↓reduceIte, reduceCtorEq, Nat.reduceEqDiff, Nat.reduceAdd, Nat.reduceMul, Nat.reduceSub, Nat.reduceLeDiff, Nat.reduceBEq, Int.reduceToNat, Int.reduceLE, Int.reduceLT, Int.reduceEq, Int.reduceNe, di0, di1, di2, di3, di4, di5, di6, di7, di8, di9, postX_ret, postX_normal, ex_some]
        refine calls_of p_unless ?_; simp only [knI, tabI, pieceI, pairI, lpI, stI, flI, rdI, rnI, getD_kn, res18, b18k0, ↓reduceIte, reduceCtorEq, Nat.reduceEqDiff, Nat.reduceAdd, Nat.reduceMul, Nat.reduceSub, Nat.reduceLeDiff, Nat.reduceBEq, Int.reduceToNat, Int.reduceLE, Int.reduceLT, Int.reduceEq, Int.reduceNe, di0, di1, di2, di3, di4, di5, di6, di7, di8, di9, postX_ret, postX_normal, ex_some]
        rfl
    · simp only [if_neg h1, knI, tabI, pieceI, pairI, lpI, stI, flI, rdI, rnI, getD_kn, ↓reduceIte, reduceCtorEq, Nat.reduceEqDiff, Nat.reduceAdd, Nat.reduceMul, Nat.reduceSub, Nat.reduceLeDiff, Nat.reduceBEq, Int.reduceToNat, Int.reduceLE, Int.reduceLT, Int.reduceEq, Int.reduceNe, di0, di1, di2, di3, di4, di5, di6, di7, di8, di9, postX_ret, postX_normal, ex_some]
      rfl
  · simp only [if_neg h0, knI, tabI, pieceI, pairI, lpI, stI, flI, rdI, rnI, getD_kn, ↓reduceIte, reduceCtorEq, Nat.reduceEqDiff, Nat.reduceAdd, Nat.reduceMul, Nat.reduceSub, Nat.reduceLeDiff, Nat.reduceBEq, Int.reduceToNat, Int.reduceLE, Int.reduceLT, Int.reduceEq, Int.reduceNe, di0, di1, di2, di3, di4, di5, di6, di7, di8, di9, postX_ret, postX_normal, ex_some]
    rfl

theorem st_snoc {l : List Sta} {a b : Int} : l.map stI ++ [IV.agg [.int .i64 a, .int .i64 b]] = (l ++ [(a, b)]).map stI := by simp [stI]

/-- The error of flows, tick by tick. -/
def listErr (l : List Flow) : Int := if 200 < l.length then 8 else (firstE (fun i => flowErr (l.getD i default)) l.length 0).2

theorem fl_getD {l : List Flow} {i : Nat} (h : i < l.length) : l.drop i = l.getD i default :: l.drop (i + 1) := by
  rw [List.drop_eq_getElem_cons h]
  congr 1
  rw [List.getD_eq_getElem?_getD]; simp [h]

theorem listErr_ok {l : List Flow} : listErr l = 0 ↔ l.length ≤ 200 ∧ ∀ x ∈ l, flowOk x := by
  unfold listErr
  constructor
  · intro h
    split at h
    · omega
    · refine ⟨by omega, fun x hx => ?_⟩
      rw [firstE_ok] at h
      obtain ⟨i, hi, rfl⟩ := List.getElem_of_mem hx
      have := h i (by omega) (by omega)
      rw [flowErr_ok, List.getD_eq_getElem?_getD] at this
      simpa [hi] using this
  · intro ⟨h1, h2⟩
    rw [if_neg (by omega), firstE_ok]
    intro j _ hj
    have hj : j < l.length := by omega
    rw [flowErr_ok, List.getD_eq_getElem?_getD]
    simpa [hj] using h2 _ (List.getElem_mem hj)

theorem p_ticksErr {l : List Flow} (hl : l.length ≤ 1000000000000) : Contract Try.prog 96 [.slc 3 (l.map flI)] (.int .i64 (listErr l)) := by
  unfold listErr
  refine contract_run Try.func96 k96 rfl ?_
  simp only [body96, b96, res96, b96k0, b96k1, b96k2, b96k3, ↓reduceIte, reduceCtorEq, Nat.reduceEqDiff, Nat.reduceAdd, Nat.reduceMul, Nat.reduceSub, Nat.reduceLeDiff, Nat.reduceBEq, Int.reduceToNat, Int.reduceLE, Int.reduceLT, Int.reduceEq, Int.reduceNe, di0, di1, di2, di3, di4, di5, di6, di7, di8, di9, postX_ret, postX_normal, ex_some]
  split
  · rename_i h
    rw [if_pos (by omega)]
  · rename_i h
    rw [if_neg (by omega)]
    refine loop_keep (α := Nat) rfl (fun i => l.length - i) (fun i => i ≤ l.length ∧ (firstE (fun i => flowErr (l.getD i default)) (l.length - i) i).2 = (firstE (fun i => flowErr (l.getD i default)) l.length 0).2)
      (fun i => [(9, .imm (.slc 3 (l.map flI))), (10, .imm (.int .i64 l.length)), (11, .imm (.int .i64 i))]) (fun _ => []) 0 ⟨Nat.zero_le _, rfl⟩ (by simp only [↓reduceIte, reduceCtorEq, Nat.reduceEqDiff, Nat.reduceAdd, Nat.reduceMul, Nat.reduceSub, Nat.reduceLeDiff, Nat.reduceBEq, Int.reduceToNat, Int.reduceLE, Int.reduceLT, Int.reduceEq, Int.reduceNe, di0, di1, di2, di3, di4, di5, di6, di7, di8, di9, postX_ret, postX_normal, ex_some] <;> rfl) ?_
    intro i ⟨hi, he⟩ ih
    simp only [res96, b96k0, b96k1, b96k2, b96k3, knI, tabI, pieceI, pairI, lpI, stI, flI, rdI, rnI, getD_kn, ↓reduceIte, reduceCtorEq, Nat.reduceEqDiff, Nat.reduceAdd, Nat.reduceMul, Nat.reduceSub, Nat.reduceLeDiff, Nat.reduceBEq, Int.reduceToNat, Int.reduceLE, Int.reduceLT, Int.reduceEq, Int.reduceNe, di0, di1, di2, di3, di4, di5, di6, di7, di8, di9, postX_ret, postX_normal, ex_some]
    split
    · rename_i h1
      rw [show l.length - i = (l.length - (i + 1)) + 1 by omega, firstE_succ] at he
      repeat (refine And.intro (by omega) ?_)
      have hc := p_flowsErr (x := l.getD i default)
      refine calls_of hc ?_; simp only [knI, tabI, pieceI, pairI, lpI, stI, flI, rdI, rnI, getD_kn, res96, b96k0, b96k1, b96k2, b96k3, ↓reduceIte, reduceCtorEq, Nat.reduceEqDiff, Nat.reduceAdd, Nat.reduceMul, Nat.reduceSub, Nat.reduceLeDiff, Nat.reduceBEq, Int.reduceToNat, Int.reduceLE, Int.reduceLT, Int.reduceEq, Int.reduceNe, di0, di1, di2, di3, di4, di5, di6, di7, di8, di9, postX_ret, postX_normal, ex_some]
      split
      · rename_i h2
        rw [if_pos h2] at he
        rw [wrap64 (by omega) (by omega)]
        exact ih (i + 1) _ _ (by omega) ⟨by omega, he⟩ (by simp only [↓reduceIte, reduceCtorEq, Nat.reduceEqDiff, Nat.reduceAdd, Nat.reduceMul, Nat.reduceSub, Nat.reduceLeDiff, Nat.reduceBEq, Int.reduceToNat, Int.reduceLE, Int.reduceLT, Int.reduceEq, Int.reduceNe, di0, di1, di2, di3, di4, di5, di6, di7, di8, di9, postX_ret, postX_normal, ex_some] <;> rfl)
      · rename_i h2
        rw [if_neg h2] at he
        rw [← he]
    · rename_i h1
      rw [show l.length - i = 0 by omega] at he
      rw [← he]
      rfl

theorem p_Usable {p : Pair} {s : Sta} (h : Sm p) : Contract Try.prog 17 [lpI p, stI s]
    (if bothErr p s = 0 then .tup [stI (min (s.1 - (bot p.u).2) ((top p.l).2 - s.2), min (s.2 - (bot p.l).2) ((top p.u).2 - s.1)), .int .i64 0] else .tup [stI (0, 0), .int .i64 (bothErr p s)]) := by
  refine contract_run Try.func17 k17 rfl ?_
  simp only [body17, b17, res17, b17k0, knI, tabI, pieceI, pairI, lpI, stI, flI, rdI, rnI, getD_kn, ↓reduceIte, reduceCtorEq, Nat.reduceEqDiff, Nat.reduceAdd, Nat.reduceMul, Nat.reduceSub, Nat.reduceLeDiff, Nat.reduceBEq, Int.reduceToNat, Int.reduceLE, Int.reduceLT, Int.reduceEq, Int.reduceNe, di0, di1, di2, di3, di4, di5, di6, di7, di8, di9, postX_ret, postX_normal, ex_some]
  refine calls_of (p_openState h) ?_; simp only [knI, tabI, pieceI, pairI, lpI, stI, flI, rdI, rnI, getD_kn, res17, b17k0, ↓reduceIte, reduceCtorEq, Nat.reduceEqDiff, Nat.reduceAdd, Nat.reduceMul, Nat.reduceSub, Nat.reduceLeDiff, Nat.reduceBEq, Int.reduceToNat, Int.reduceLE, Int.reduceLT, Int.reduceEq, Int.reduceNe, di0, di1, di2, di3, di4, di5, di6, di7, di8, di9, postX_ret, postX_normal, ex_some]
  split
  · rename_i h0
    have hv := bothErr_ok.1 h0
    have zu := valid_len hv.1.u
    have zl := valid_len hv.1.l
    have bu := hv.1.u.range (i := 0) zu.1
    have bl := hv.1.l.range (i := 0) zl.1
    have tu := hv.1.u.range (i := p.u.length - 1) (by omega)
    have tl := hv.1.l.range (i := p.l.length - 1) (by omega)
    have cu : (bot p.u).2 = (kn p.u 0).2 := rfl
    have cl : (bot p.l).2 = (kn p.l 0).2 := rfl
    have du : (top p.u).2 = (kn p.u (p.u.length - 1)).2 := rfl
    have dl : (top p.l).2 = (kn p.l (p.l.length - 1)).2 := rfl
    obtain ⟨⟨vu1, vu2⟩, ⟨vl1, vl2⟩⟩ := hv.2
    repeat (refine And.intro (by omega) ?_)
    refine calls_of (p_bottom zu.1) ?_; simp only [knI, tabI, pieceI, pairI, lpI, stI, flI, rdI, rnI, getD_kn, res17, b17k0, ↓reduceIte, reduceCtorEq, Nat.reduceEqDiff, Nat.reduceAdd, Nat.reduceMul, Nat.reduceSub, Nat.reduceLeDiff, Nat.reduceBEq, Int.reduceToNat, Int.reduceLE, Int.reduceLT, Int.reduceEq, Int.reduceNe, di0, di1, di2, di3, di4, di5, di6, di7, di8, di9, postX_ret, postX_normal, ex_some]
    refine calls_of (p_top zl.1 zl.2) ?_; simp only [knI, tabI, pieceI, pairI, lpI, stI, flI, rdI, rnI, getD_kn, res17, b17k0, ↓reduceIte, reduceCtorEq, Nat.reduceEqDiff, Nat.reduceAdd, Nat.reduceMul, Nat.reduceSub, Nat.reduceLeDiff, Nat.reduceBEq, Int.reduceToNat, Int.reduceLE, Int.reduceLT, Int.reduceEq, Int.reduceNe, di0, di1, di2, di3, di4, di5, di6, di7, di8, di9, postX_ret, postX_normal, ex_some]
    refine calls_of (p_bottom zl.1) ?_; simp only [knI, tabI, pieceI, pairI, lpI, stI, flI, rdI, rnI, getD_kn, res17, b17k0, ↓reduceIte, reduceCtorEq, Nat.reduceEqDiff, Nat.reduceAdd, Nat.reduceMul, Nat.reduceSub, Nat.reduceLeDiff, Nat.reduceBEq, Int.reduceToNat, Int.reduceLE, Int.reduceLT, Int.reduceEq, Int.reduceNe, di0, di1, di2, di3, di4, di5, di6, di7, di8, di9, postX_ret, postX_normal, ex_some]
    refine calls_of (p_top zu.1 zu.2) ?_; simp only [knI, tabI, pieceI, pairI, lpI, stI, flI, rdI, rnI, getD_kn, res17, b17k0, ↓reduceIte, reduceCtorEq, Nat.reduceEqDiff, Nat.reduceAdd, Nat.reduceMul, Nat.reduceSub, Nat.reduceLeDiff, Nat.reduceBEq, Int.reduceToNat, Int.reduceLE, Int.reduceLT, Int.reduceEq, Int.reduceNe, di0, di1, di2, di3, di4, di5, di6, di7, di8, di9, postX_ret, postX_normal, ex_some]
    rw [wrap64 (n := s.1 - (bot p.u).2) (by omega) (by omega), wrap64 (n := (top p.l).2 - s.2) (by omega) (by omega), wrap64 (n := s.2 - (bot p.l).2) (by omega) (by omega), wrap64 (n := (top p.u).2 - s.1) (by omega) (by omega)]
  · rename_i h0
    rfl

theorem p_RunOf {p : Pair} {s : Sta} {l : List Flow} (h : Sm p) (hl : l.length ≤ 1000000000000) : Contract Try.prog 53 [lpI p, stI s, .slc 3 (l.map flI)]
    (if bothErr p s = 0 then if listErr l = 0 then if (runP p s l).2.2 = true then .tup [.slc 2 ((runP p s l).1.map stI), .agg [.int .i64 (runP p s l).2.1.1, .int .i64 (runP p s l).2.1.2], .int .i64 0]
      else .tup [.slc 2 [], .agg [.int .i64 0, .int .i64 0], .int .i64 22]
      else .tup [.slc 2 [], .agg [.int .i64 0, .int .i64 0], .int .i64 (listErr l)] else .tup [.slc 2 [], .agg [.int .i64 0, .int .i64 0], .int .i64 (bothErr p s)]) := by
  refine contract_run Try.func53 k53 rfl ?_
  simp only [body53, b53, res53, b53k0, b53k1, b53k2, b53k3, b53k4, knI, tabI, pieceI, pairI, lpI, stI, flI, rdI, rnI, getD_kn, ↓reduceIte, reduceCtorEq, Nat.reduceEqDiff, Nat.reduceAdd, Nat.reduceMul, Nat.reduceSub, Nat.reduceLeDiff, Nat.reduceBEq, Int.reduceToNat, Int.reduceLE, Int.reduceLT, Int.reduceEq, Int.reduceNe, di0, di1, di2, di3, di4, di5, di6, di7, di8, di9, postX_ret, postX_normal, ex_some]
  refine calls_of (p_openState h) ?_; simp only [knI, tabI, pieceI, pairI, lpI, stI, flI, rdI, rnI, getD_kn, res53, b53k0, b53k1, b53k2, b53k3, b53k4, ↓reduceIte, reduceCtorEq, Nat.reduceEqDiff, Nat.reduceAdd, Nat.reduceMul, Nat.reduceSub, Nat.reduceLeDiff, Nat.reduceBEq, Int.reduceToNat, Int.reduceLE, Int.reduceLT, Int.reduceEq, Int.reduceNe, di0, di1, di2, di3, di4, di5, di6, di7, di8, di9, postX_ret, postX_normal, ex_some]
  refine calls_of (p_ticksErr hl) ?_; simp only [knI, tabI, pieceI, pairI, lpI, stI, flI, rdI, rnI, getD_kn, res53, b53k0, b53k1, b53k2, b53k3, b53k4, ↓reduceIte, reduceCtorEq, Nat.reduceEqDiff, Nat.reduceAdd, Nat.reduceMul, Nat.reduceSub, Nat.reduceLeDiff, Nat.reduceBEq, Int.reduceToNat, Int.reduceLE, Int.reduceLT, Int.reduceEq, Int.reduceNe, di0, di1, di2, di3, di4, di5, di6, di7, di8, di9, postX_ret, postX_normal, ex_some]
  refine calls_of p_first2 ?_; simp only [knI, tabI, pieceI, pairI, lpI, stI, flI, rdI, rnI, getD_kn, res53, b53k0, b53k1, b53k2, b53k3, b53k4, ↓reduceIte, reduceCtorEq, Nat.reduceEqDiff, Nat.reduceAdd, Nat.reduceMul, Nat.reduceSub, Nat.reduceLeDiff, Nat.reduceBEq, Int.reduceToNat, Int.reduceLE, Int.reduceLT, Int.reduceEq, Int.reduceNe, di0, di1, di2, di3, di4, di5, di6, di7, di8, di9, postX_ret, postX_normal, ex_some]
  by_cases h0 : bothErr p s = 0
  · simp only [if_pos h0]
    by_cases h1 : listErr l = 0
    · simp only [if_pos h1, knI, tabI, pieceI, pairI, lpI, stI, flI, rdI, rnI, getD_kn, ↓reduceIte, reduceCtorEq, Nat.reduceEqDiff, Nat.reduceAdd, Nat.reduceMul, Nat.reduceSub, Nat.reduceLeDiff, Nat.reduceBEq, Int.reduceToNat, Int.reduceLE, Int.reduceLT, Int.reduceEq, Int.reduceNe, di0, di1, di2, di3, di4, di5, di6, di7, di8, di9, postX_ret, postX_normal, ex_some]
      have hv := bothErr_ok.1 h0
      have hf := listErr_ok.1 h1
      refine loop_keep (α := Nat × Sta × List Sta × Int × Int) rfl (fun x => l.length - x.1)
        (fun x => x.1 ≤ l.length ∧ stOk p x.2.1 ∧ x.2.2.1.length = x.1 ∧ 0 ≤ x.2.2.2.1 ∧ x.2.2.2.1 ≤ 2000000000 * x.1 ∧ 0 ≤ x.2.2.2.2 ∧ x.2.2.2.2 ≤ 2000000000 * x.1 ∧
          runP p s l = (x.2.2.1 ++ (runP p x.2.1 (l.drop x.1)).1, (x.2.2.2.1 + (runP p x.2.1 (l.drop x.1)).2.1.1, x.2.2.2.2 + (runP p x.2.1 (l.drop x.1)).2.1.2), (runP p x.2.1 (l.drop x.1)).2.2))
        (fun x => [(4, .ref 4 0), (7, .ref 7 0), (9, .ref 9 0), (11, .own 11), (12, .ref 12 0), (33, .imm (.slc 3 (l.map flI))), (34, .imm (.int .i64 l.length)), (35, .imm (.int .i64 x.1))])
        (fun x => [(4, .box [.imm (.int .i64 x.2.1.1), .imm (.int .i64 x.2.1.2)]), (7, .box [.imm (.int .i64 0), .imm (.int .i64 0)]), (9, .box [.imm (.slc 2 (p.u.map knI)), .imm (.slc 2 (p.l.map knI)), .imm (.int .i64 p.rate)]),
          (11, .tok 2 (x.2.2.1.map stI)), (12, .box [.imm (.int .i64 x.2.2.2.1), .imm (.int .i64 x.2.2.2.2)])])
        (0, s, [], 0, 0) ⟨Nat.zero_le _, hv.2, rfl, by dsimp only; omega, by dsimp only; omega, by dsimp only; omega, by dsimp only; omega, by simp⟩ (by simp only [↓reduceIte, reduceCtorEq, Nat.reduceEqDiff, Nat.reduceAdd, Nat.reduceMul, Nat.reduceSub, Nat.reduceLeDiff, Nat.reduceBEq, Int.reduceToNat, Int.reduceLE, Int.reduceLT, Int.reduceEq, Int.reduceNe, di0, di1, di2, di3, di4, di5, di6, di7, di8, di9, postX_ret, postX_normal, ex_some] <;> rfl) ?_
      rintro ⟨i, c, o, E, F⟩ ⟨hi, hc, ho, hE0, hE1, hF0, hF1, hr⟩ ih
      dsimp only at hi hc ho hE0 hE1 hF0 hF1 hr
      simp only [res53, b53k0, b53k1, b53k2, b53k3, b53k4, knI, tabI, pieceI, pairI, lpI, stI, flI, rdI, rnI, getD_kn, ↓reduceIte, reduceCtorEq, Nat.reduceEqDiff, Nat.reduceAdd, Nat.reduceMul, Nat.reduceSub, Nat.reduceLeDiff, Nat.reduceBEq, Int.reduceToNat, Int.reduceLE, Int.reduceLT, Int.reduceEq, Int.reduceNe, di0, di1, di2, di3, di4, di5, di6, di7, di8, di9, postX_ret, postX_normal, ex_some]
      split
      · rename_i h2
        have hx : flowOk (l.getD i default) := hf.2 _ (by
          rw [List.getD_eq_getElem?_getD]; simp [show i < l.length by omega])
        have hd := fl_getD (l := l) (i := i) (by omega)
        repeat (refine And.intro (by omega) ?_)
        have hst := p_step hv.1 hc hx
        rw [hd] at hr
        cases hs : Lk.step p c (l.getD i default) with
        | none =>
          rw [hs] at hst
          rw [runP_none hs] at hr
          refine calls_of hst ?_
          simp only [stepI, res53, b53k0, b53k1, b53k2, b53k3, b53k4, knI, tabI, pieceI, pairI, lpI, stI, flI, rdI, rnI, getD_kn, ↓reduceIte, reduceCtorEq, Nat.reduceEqDiff, Nat.reduceAdd, Nat.reduceMul, Nat.reduceSub, Nat.reduceLeDiff, Nat.reduceBEq, Int.reduceToNat, Int.reduceLE, Int.reduceLT, Int.reduceEq, Int.reduceNe, di0, di1, di2, di3, di4, di5, di6, di7, di8, di9, postX_ret, postX_normal, ex_some]
          rw [hr]
          rfl
        | some r =>
          obtain ⟨t, e, f⟩ := r
          have hs2 := step_some hv.1 hc hx hs
          rw [hs] at hst
          rw [runP_some hs] at hr
          refine calls_of hst ?_
          simp only [stepI, res53, b53k0, b53k1, b53k2, b53k3, b53k4, knI, tabI, pieceI, pairI, lpI, stI, flI, rdI, rnI, getD_kn, ↓reduceIte, reduceCtorEq, Nat.reduceEqDiff, Nat.reduceAdd, Nat.reduceMul, Nat.reduceSub, Nat.reduceLeDiff, Nat.reduceBEq, Int.reduceToNat, Int.reduceLE, Int.reduceLT, Int.reduceEq, Int.reduceNe, di0, di1, di2, di3, di4, di5, di6, di7, di8, di9, postX_ret, postX_normal, ex_some]
          rw [wrap64 (n := E + e) (by omega) (by omega), wrap64 (n := F + f) (by omega) (by omega), wrap64 (n := (i : Int) + 1) (by omega) (by omega)]
          repeat (refine And.intro (by omega) ?_)
          refine ih (i + 1, t, o ++ [t], E + e, F + f) _ _ (by dsimp only; omega) ⟨by dsimp only; omega, hs2.1, by simp [ho], by dsimp only; omega, by dsimp only; omega, by dsimp only; omega, by dsimp only; omega, ?_⟩ (by simp only [st_snoc, knI, tabI, pieceI, pairI, lpI, stI, flI, rdI, rnI, getD_kn, ↓reduceIte, reduceCtorEq, Nat.reduceEqDiff, Nat.reduceAdd, Nat.reduceMul, Nat.reduceSub, Nat.reduceLeDiff, Nat.reduceBEq, Int.reduceToNat, Int.reduceLE, Int.reduceLT, Int.reduceEq, Int.reduceNe, di0, di1, di2, di3, di4, di5, di6, di7, di8, di9, postX_ret, postX_normal, ex_some] <;> rfl)
          rw [hr]
          simp only [List.append_assoc, List.cons_append, List.nil_append, Int.add_assoc]
      · rename_i h2
        rw [List.drop_eq_nil_of_le (by omega)] at hr
        rw [hr]
        simp only [runP, Int.add_zero, List.append_nil, if_true]
    · simp only [if_neg h1, knI, tabI, pieceI, pairI, lpI, stI, flI, rdI, rnI, getD_kn, ↓reduceIte, reduceCtorEq, Nat.reduceEqDiff, Nat.reduceAdd, Nat.reduceMul, Nat.reduceSub, Nat.reduceLeDiff, Nat.reduceBEq, Int.reduceToNat, Int.reduceLE, Int.reduceLT, Int.reduceEq, Int.reduceNe, di0, di1, di2, di3, di4, di5, di6, di7, di8, di9, postX_ret, postX_normal, ex_some]
  · simp only [if_neg h0, knI, tabI, pieceI, pairI, lpI, stI, flI, rdI, rnI, getD_kn, ↓reduceIte, reduceCtorEq, Nat.reduceEqDiff, Nat.reduceAdd, Nat.reduceMul, Nat.reduceSub, Nat.reduceLeDiff, Nat.reduceBEq, Int.reduceToNat, Int.reduceLE, Int.reduceLT, Int.reduceEq, Int.reduceNe, di0, di1, di2, di3, di4, di5, di6, di7, di8, di9, postX_ret, postX_normal, ex_some]
    first | rfl | done
end Go.DI

