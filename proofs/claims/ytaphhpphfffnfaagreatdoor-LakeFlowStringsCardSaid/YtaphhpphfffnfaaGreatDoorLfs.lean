/- Contracts: the program's tables of lakes, checked. No condition. -/
import Derived.Test.YtaphhpphfffnfaaGreatDoorLfl
import Derived.Test.YtaphhpphfffnfaaGreatDoorLfm
import Derived.Test.YtaphhpphfffnfaaGreatDoorLtr
set_option linter.unusedSimpArgs false
set_option linter.defProp false
namespace Go.DI
open Go.Proofs Go.RowKit Lk

def knI (k : Kn) : IV := .agg [.int .i64 k.1, .int .i64 k.2]
/-- Pairs, states, flows, readings, ranges as the program has them. -/
def lpI (p : Pair) : IV := .agg [.slc 2 (p.u.map knI), .slc 2 (p.l.map knI), .int .i64 p.rate]
def stI (s : Sta) : IV := .agg [.int .i64 s.1, .int .i64 s.2]
def flI (x : Flow) : IV := .agg [.int .i64 x.up, .int .i64 x.low, .int .i64 x.ex]
def rdI (r : Rdg) : IV := .agg [.int .i64 r.tick, .int .i64 r.lo, .int .i64 r.hi]
def rnI (r : Rn) : IV := .agg [.int .i64 r.1, .int .i64 r.2]
theorem getD_kn {l : List Kn} {i : Nat} : l.getD i default = kn l i := rfl
/-- A table as the program has it. -/
def tabI (l : List Kn) : IV := .agg [.slc 2 (l.map knI)]
def pieceI (a b : Kn) : IV := .agg [.int .i64 a.1, .int .i64 a.2, .int .i64 b.1, .int .i64 b.2]
def pairI (r : Int × Int) : IV := .tup [.int .i64 r.1, .int .i64 r.2]
def lkE := And.intro @knI.eq_1 (And.intro @tabI.eq_1 (And.intro @pieceI.eq_1 (And.intro @pairI.eq_1 (And.intro @lpI.eq_1 (And.intro @stI.eq_1 (And.intro @flI.eq_1 (And.intro @rdI.eq_1 (And.intro @rnI.eq_1 @getD_kn))))))))

theorem p_within {x lo hi : Int} : Contract Tryz.prog 270 [.int .i64 x, .int .i64 lo, .int .i64 hi] (.bool (decide (Wi x lo hi))) := by
  unfold Wi
  refine contract_run Tryz.func270 k270 rfl ?_
  simp only [body270, b270, res270, ↓reduceIte, reduceCtorEq, Nat.reduceEqDiff, Nat.reduceAdd, Nat.reduceMul, Nat.reduceSub, Nat.reduceLeDiff, Nat.reduceBEq, Int.reduceToNat, Int.reduceLE, Int.reduceLT, Int.reduceEq, Int.reduceNe, di]
  split
  · rename_i h; simp [h]
  · rename_i h; simp [h]

theorem p_unless {b : Bool} {e : Int} : Contract Tryz.prog 208 [.bool b, .int .i64 e] (.int .i64 (if b = true then 0 else e)) := by
  refine contract_run Tryz.func208 k208 rfl ?_
  simp only [body208, b208, res208, b208k0, ↓reduceIte, reduceCtorEq, Nat.reduceEqDiff, Nat.reduceAdd, Nat.reduceMul, Nat.reduceSub, Nat.reduceLeDiff, Nat.reduceBEq, Int.reduceToNat, Int.reduceLE, Int.reduceLT, Int.reduceEq, Int.reduceNe, di]
  split
  · rfl
  · rfl

def firstNZ : List Int → Int
  | [] => 0
  | x :: r => if x = 0 then firstNZ r else x

theorem p_first {l : List Int} (hl : l.length ≤ 1000000000000) : Contract Tryz.prog 124 [.slc 1 (l.map (.int .i64))] (.int .i64 (firstNZ l)) := by
  refine contract_run Tryz.func124 k124 rfl ?_
  simp only [body124, b124, res124, b124k0, b124k1, b124k2, ↓reduceIte, reduceCtorEq, Nat.reduceEqDiff, Nat.reduceAdd, Nat.reduceMul, Nat.reduceSub, Nat.reduceLeDiff, Nat.reduceBEq, Int.reduceToNat, Int.reduceLE, Int.reduceLT, Int.reduceEq, Int.reduceNe, di]
  refine loop_keep (α := Nat) rfl (fun i => l.length - i) (fun i => i ≤ l.length ∧ firstNZ (l.drop i) = firstNZ l)
    (fun i => [(5, .imm (.slc 1 (l.map (.int .i64)))), (6, .imm (.int .i64 l.length)), (7, .imm (.int .i64 i))]) (fun _ => []) 0 ⟨Nat.zero_le _, rfl⟩ (by simp only [↓reduceIte, reduceCtorEq, Nat.reduceEqDiff, Nat.reduceAdd, Nat.reduceMul, Nat.reduceSub, Nat.reduceLeDiff, Nat.reduceBEq, Int.reduceToNat, Int.reduceLE, Int.reduceLT, Int.reduceEq, Int.reduceNe, di] <;> rfl) ?_
  intro i ⟨hi, he⟩ ih
  simp only [res124, b124k0, b124k1, b124k2, ↓reduceIte, reduceCtorEq, Nat.reduceEqDiff, Nat.reduceAdd, Nat.reduceMul, Nat.reduceSub, Nat.reduceLeDiff, Nat.reduceBEq, Int.reduceToNat, Int.reduceLE, Int.reduceLT, Int.reduceEq, Int.reduceNe, di]
  split
  · rename_i h
    have hd : l.drop i = l.getD i 0 :: l.drop (i + 1) := by
      rw [List.drop_eq_getElem_cons (by omega)]
      congr 1
      rw [List.getD_eq_getElem?_getD]; simp [show i < l.length by omega]
    repeat (refine And.intro (by omega) ?_)
    split
    · rename_i h2
      rw [wrap64 (by omega) (by omega)]
      refine ih (i + 1) _ _ (by omega) ⟨by omega, ?_⟩ (by simp only [↓reduceIte, reduceCtorEq, Nat.reduceEqDiff, Nat.reduceAdd, Nat.reduceMul, Nat.reduceSub, Nat.reduceLeDiff, Nat.reduceBEq, Int.reduceToNat, Int.reduceLE, Int.reduceLT, Int.reduceEq, Int.reduceNe, di] <;> rfl)
      rw [← he, hd, firstNZ, if_pos h2]
    · rename_i h2
      rw [← he, hd, firstNZ, if_neg h2]
  · rename_i h
    rw [← he, List.drop_eq_nil_of_le (by omega)]
    rfl

theorem p_first2 {a b : Int} : Contract Tryz.prog 124 [.slc 1 [.int .i64 a, .int .i64 b]] (.int .i64 (if a = 0 then b else a)) := by
  have h := p_first (l := [a, b]) (by simp)
  have e : firstNZ [a, b] = if a = 0 then b else a := by
    simp only [firstNZ]
    split
    · split <;> omega
    · rfl
  rw [e] at h
  exact h
theorem p_first3 {a b c : Int} : Contract Tryz.prog 124 [.slc 1 [.int .i64 a, .int .i64 b, .int .i64 c]] (.int .i64 (if a = 0 then if b = 0 then c else b else a)) := by
  have h := p_first (l := [a, b, c]) (by simp)
  have e : firstNZ [a, b, c] = if a = 0 then if b = 0 then c else b else a := by
    simp only [firstNZ]
    split
    · split
      · split <;> omega
      · rfl
    · rfl
  rw [e] at h
  exact h

theorem tdiv_floor {n d : Int} (hd : 0 < d) : (if n.tmod d < 0 then n.tdiv d - 1 else n.tdiv d) = n / d := by
  have h3 := Int.emod_nonneg n (show d ≠ 0 by omega)
  have h4 := Int.emod_lt_of_pos n hd
  rw [Int.tdiv_eq_ediv, Int.tmod_eq_emod, Int.sign_eq_one_of_pos hd]
  by_cases k : 0 ≤ n ∨ d ∣ n
  · rw [if_pos k, if_pos k, if_neg (by omega)]; omega
  · rw [if_neg k, if_neg k, if_pos (by omega)]; omega

theorem ediv_bd {n d : Int} (_ : 0 < d) (h1 : -4000000000000000000 ≤ n) (h2 : n ≤ 4000000000000000000) : -4000000000000000000 ≤ n / d ∧ n / d ≤ 4000000000000000000 := by
  have := Int.natAbs_ediv_le_natAbs n d
  omega

theorem p_floor {n d : Int} (hd : 0 < d) (h1 : -4000000000000000000 ≤ n) (h2 : n ≤ 4000000000000000000) : Contract Tryz.prog 282 [.int .i64 n, .int .i64 d] (.int .i64 (n / d)) := by
  have h0 := tdiv_floor (n := n) hd
  have h3 := ediv_bd hd h1 h2
  refine contract_run Tryz.func282 k282 rfl ?_
  simp only [body282, b282, res282, b282k0, ↓reduceIte, reduceCtorEq, Nat.reduceEqDiff, Nat.reduceAdd, Nat.reduceMul, Nat.reduceSub, Nat.reduceLeDiff, Nat.reduceBEq, Int.reduceToNat, Int.reduceLE, Int.reduceLT, Int.reduceEq, Int.reduceNe, di]
  have hb : -4000000000000000000 ≤ n.tdiv d ∧ n.tdiv d ≤ 4000000000000000001 := by split at h0 <;> omega
  rw [wrap64 (n := n.tdiv d) (by omega) (by omega)]
  refine ⟨by omega, by omega, ?_⟩
  split
  · rename_i h; rw [if_pos h] at h0; rw [wrap64 (by omega) (by omega), h0]
  · rename_i h; rw [if_neg h] at h0; rw [h0]

theorem p_ceil {n d : Int} (hd : 0 < d) (h1 : -4000000000000000000 ≤ n) (h2 : n ≤ 4000000000000000000) : Contract Tryz.prog 283 [.int .i64 n, .int .i64 d] (.int .i64 (cdiv n d)) := by
  have h3 := ediv_bd (n := -n) hd (by omega) (by omega)
  refine contract_run Tryz.func283 k283 rfl ?_
  simp only [body283, b283, res283, ↓reduceIte, reduceCtorEq, Nat.reduceEqDiff, Nat.reduceAdd, Nat.reduceMul, Nat.reduceSub, Nat.reduceLeDiff, Nat.reduceBEq, Int.reduceToNat, Int.reduceLE, Int.reduceLT, Int.reduceEq, Int.reduceNe, di]
  rw [wrap64 (n := 0 - n) (by omega) (by omega), Int.zero_sub]
  refine calls_of (p_floor hd (by omega) (by omega)) ?_; simp only [res283, ↓reduceIte, reduceCtorEq, Nat.reduceEqDiff, Nat.reduceAdd, Nat.reduceMul, Nat.reduceSub, Nat.reduceLeDiff, Nat.reduceBEq, Int.reduceToNat, Int.reduceLE, Int.reduceLT, Int.reduceEq, Int.reduceNe, di]
  rw [wrap64 (by omega) (by omega), Int.zero_sub]
  rfl

/-- Two knots, in range. -/
def KB (k : Kn) : Prop := -1000000000 ≤ k.1 ∧ k.1 ≤ 1000000000 ∧ -1000000000 ≤ k.2 ∧ k.2 ≤ 1000000000

theorem p_height {a b : Kn} (ha : KB a) (hb : KB b) : Contract Tryz.prog 220 [pieceI a b] (.int .i64 (b.1 - a.1)) := by
  unfold KB at ha hb
  refine contract_run Tryz.func220 k220 rfl ?_
  simp only [pieceI, body220, b220, res220, ↓reduceIte, reduceCtorEq, Nat.reduceEqDiff, Nat.reduceAdd, Nat.reduceMul, Nat.reduceSub, Nat.reduceLeDiff, Nat.reduceBEq, Int.reduceToNat, Int.reduceLE, Int.reduceLT, Int.reduceEq, Int.reduceNe, di]
  rw [wrap64 (by omega) (by omega)]
theorem p_volume {a b : Kn} (ha : KB a) (hb : KB b) : Contract Tryz.prog 221 [pieceI a b] (.int .i64 (b.2 - a.2)) := by
  unfold KB at ha hb
  refine contract_run Tryz.func221 k221 rfl ?_
  simp only [pieceI, body221, b221, res221, ↓reduceIte, reduceCtorEq, Nat.reduceEqDiff, Nat.reduceAdd, Nat.reduceMul, Nat.reduceSub, Nat.reduceLeDiff, Nat.reduceBEq, Int.reduceToNat, Int.reduceLE, Int.reduceLT, Int.reduceEq, Int.reduceNe, di]
  rw [wrap64 (by omega) (by omega)]

theorem mul_bd {x y : Int} (h1 : -2000000000 ≤ x) (h2 : x ≤ 2000000000) (h3 : -2000000000 ≤ y) (h4 : y ≤ 2000000000) : -4000000000000000000 ≤ x * y ∧ x * y ≤ 4000000000000000000 := by
  have h : (x * y).natAbs ≤ 2000000000 * 2000000000 := by
    rw [Int.natAbs_mul]; exact Nat.mul_le_mul (by omega) (by omega)
  omega

theorem p_narrower {a b c d : Kn} (ha : KB a) (hb : KB b) (hc : KB c) (hd : KB d) :
    Contract Tryz.prog 272 [pieceI a b, pieceI c d] (.bool (decide ((b.2 - a.2) * (d.1 - c.1) < (d.2 - c.2) * (b.1 - a.1)))) := by
  have m1 := mul_bd (x := b.2 - a.2) (y := d.1 - c.1) (by unfold KB at *; omega) (by unfold KB at *; omega) (by unfold KB at *; omega) (by unfold KB at *; omega)
  have m2 := mul_bd (x := d.2 - c.2) (y := b.1 - a.1) (by unfold KB at *; omega) (by unfold KB at *; omega) (by unfold KB at *; omega) (by unfold KB at *; omega)
  refine contract_run Tryz.func272 k272 rfl ?_
  simp only [pieceI, body272, b272, res272, ↓reduceIte, reduceCtorEq, Nat.reduceEqDiff, Nat.reduceAdd, Nat.reduceMul, Nat.reduceSub, Nat.reduceLeDiff, Nat.reduceBEq, Int.reduceToNat, Int.reduceLE, Int.reduceLT, Int.reduceEq, Int.reduceNe, di]
  refine calls_of (p_volume ha hb) ?_; simp only [res272, ↓reduceIte, reduceCtorEq, Nat.reduceEqDiff, Nat.reduceAdd, Nat.reduceMul, Nat.reduceSub, Nat.reduceLeDiff, Nat.reduceBEq, Int.reduceToNat, Int.reduceLE, Int.reduceLT, Int.reduceEq, Int.reduceNe, di]
  refine calls_of (p_height hc hd) ?_; simp only [res272, ↓reduceIte, reduceCtorEq, Nat.reduceEqDiff, Nat.reduceAdd, Nat.reduceMul, Nat.reduceSub, Nat.reduceLeDiff, Nat.reduceBEq, Int.reduceToNat, Int.reduceLE, Int.reduceLT, Int.reduceEq, Int.reduceNe, di]
  refine calls_of (p_volume hc hd) ?_; simp only [res272, ↓reduceIte, reduceCtorEq, Nat.reduceEqDiff, Nat.reduceAdd, Nat.reduceMul, Nat.reduceSub, Nat.reduceLeDiff, Nat.reduceBEq, Int.reduceToNat, Int.reduceLE, Int.reduceLT, Int.reduceEq, Int.reduceNe, di]
  refine calls_of (p_height ha hb) ?_; simp only [res272, ↓reduceIte, reduceCtorEq, Nat.reduceEqDiff, Nat.reduceAdd, Nat.reduceMul, Nat.reduceSub, Nat.reduceLeDiff, Nat.reduceBEq, Int.reduceToNat, Int.reduceLE, Int.reduceLT, Int.reduceEq, Int.reduceNe, di]
  rw [wrap64 (n := (b.2 - a.2) * (d.1 - c.1)) (by omega) (by omega), wrap64 (n := (d.2 - c.2) * (b.1 - a.1)) (by omega) (by omega)]

/-- An index and an error. -/

theorem firstE_succ {f : Nat → Int} {m i : Nat} : firstE f (m + 1) i = if f i = 0 then firstE f m (i + 1) else ((i : Int), f i) := rfl

theorem kb_of {l : List Kn} {i : Nat} (h : knotErr l i = 0) : KB (kn l i) := by
  unfold knotErr at h
  split at h
  · omega
  · rename_i k; simp only [Decidable.not_not, Wi] at k; unfold KB; omega

theorem p_CheckTable {l : List Kn} (hl : l.length ≤ 1000000000000) : Contract Tryz.prog 212 [tabI l] (pairI (chkT l)) := by
  refine contract_run Tryz.func212 k212 rfl ?_
  simp only [tabI, pairI, body212, b212, res212, b212k0, b212k1, b212k2, b212k3, b212k4, b212k5, b212k6, ↓reduceIte, reduceCtorEq, Nat.reduceEqDiff, Nat.reduceAdd, Nat.reduceMul, Nat.reduceSub, Nat.reduceLeDiff, Nat.reduceBEq, Int.reduceToNat, Int.reduceLE, Int.reduceLT, Int.reduceEq, Int.reduceNe, di]
  refine calls_of p_unless ?_; simp only [res212, b212k0, b212k1, b212k2, b212k3, b212k4, b212k5, b212k6, ↓reduceIte, reduceCtorEq, Nat.reduceEqDiff, Nat.reduceAdd, Nat.reduceMul, Nat.reduceSub, Nat.reduceLeDiff, Nat.reduceBEq, Int.reduceToNat, Int.reduceLE, Int.reduceLT, Int.reduceEq, Int.reduceNe, di]
  refine calls_of p_unless ?_; simp only [res212, b212k0, b212k1, b212k2, b212k3, b212k4, b212k5, b212k6, ↓reduceIte, reduceCtorEq, Nat.reduceEqDiff, Nat.reduceAdd, Nat.reduceMul, Nat.reduceSub, Nat.reduceLeDiff, Nat.reduceBEq, Int.reduceToNat, Int.reduceLE, Int.reduceLT, Int.reduceEq, Int.reduceNe, di]
  refine calls_of p_first2 ?_; simp only [res212, b212k0, b212k1, b212k2, b212k3, b212k4, b212k5, b212k6, ↓reduceIte, reduceCtorEq, Nat.reduceEqDiff, Nat.reduceAdd, Nat.reduceMul, Nat.reduceSub, Nat.reduceLeDiff, Nat.reduceBEq, Int.reduceToNat, Int.reduceLE, Int.reduceLT, Int.reduceEq, Int.reduceNe, di]
  unfold chkT
  by_cases h1 : l.length < 2
  · simp only [if_neg (show ¬ 1 < (l.length : Int) by omega), if_pos h1, ↓reduceIte, reduceCtorEq, Nat.reduceEqDiff, Nat.reduceAdd, Nat.reduceMul, Nat.reduceSub, Nat.reduceLeDiff, Nat.reduceBEq, Int.reduceToNat, Int.reduceLE, Int.reduceLT, Int.reduceEq, Int.reduceNe, di]
  · by_cases h2 : 10 < l.length
    · simp only [if_pos (show 1 < (l.length : Int) by omega), if_neg (show ¬ (l.length : Int) ≤ 10 by omega), if_neg h1, if_pos h2, ↓reduceIte, reduceCtorEq, Nat.reduceEqDiff, Nat.reduceAdd, Nat.reduceMul, Nat.reduceSub, Nat.reduceLeDiff, Nat.reduceBEq, Int.reduceToNat, Int.reduceLE, Int.reduceLT, Int.reduceEq, Int.reduceNe, di]
    · simp only [if_pos (show 1 < (l.length : Int) by omega), if_pos (show (l.length : Int) ≤ 10 by omega), if_neg h1, if_neg h2, ↓reduceIte, reduceCtorEq, Nat.reduceEqDiff, Nat.reduceAdd, Nat.reduceMul, Nat.reduceSub, Nat.reduceLeDiff, Nat.reduceBEq, Int.reduceToNat, Int.reduceLE, Int.reduceLT, Int.reduceEq, Int.reduceNe, di]
      refine loop_keep (α := Nat) rfl (fun i => l.length - i) (fun i => i ≤ l.length ∧ (∀ j, j < i → knotErr l j = 0) ∧ firstE (knotErr l) (l.length - i) i = firstE (knotErr l) l.length 0)
        (fun i => [(1, .ref 1 0), (24, .imm (.slc 2 (l.map knI))), (25, .imm (.int .i64 l.length)), (26, .imm (.int .i64 i))]) (fun _ => [(1, .box [.imm (.slc 2 (l.map knI))])]) 0 ⟨Nat.zero_le _, fun j hj => by omega, rfl⟩ (by simp only [↓reduceIte, reduceCtorEq, Nat.reduceEqDiff, Nat.reduceAdd, Nat.reduceMul, Nat.reduceSub, Nat.reduceLeDiff, Nat.reduceBEq, Int.reduceToNat, Int.reduceLE, Int.reduceLT, Int.reduceEq, Int.reduceNe, di] <;> rfl) ?_
      intro i ⟨hi, hb, he⟩ ih
      rw [← he]
      simp only [res212, b212k0, b212k1, b212k2, b212k3, b212k4, b212k5, b212k6, ↓reduceIte, reduceCtorEq, Nat.reduceEqDiff, Nat.reduceAdd, Nat.reduceMul, Nat.reduceSub, Nat.reduceLeDiff, Nat.reduceBEq, Int.reduceToNat, Int.reduceLE, Int.reduceLT, Int.reduceEq, Int.reduceNe, di]
      split
      · rename_i h
        have hil : i < l.length := by omega
        rw [show l.length - i = (l.length - (i + 1)) + 1 by omega, firstE_succ]
        have hnext : knotErr l i = 0 → firstE (knotErr l) (l.length - (i + 1)) (i + 1) = firstE (knotErr l) l.length 0 := by
          intro k
          rw [← he, show l.length - i = (l.length - (i + 1)) + 1 by omega, firstE_succ, if_pos k]
        have hbn : knotErr l i = 0 → ∀ j, j < i + 1 → knotErr l j = 0 := by
          intro k j hj
          by_cases e : j = i
          · subst e; exact k
          · exact hb j (by omega)
        repeat (refine And.intro (by omega) ?_)
        simp only [lkE, ↓reduceIte, reduceCtorEq, Nat.reduceEqDiff, Nat.reduceAdd, Nat.reduceMul, Nat.reduceSub, Nat.reduceLeDiff, Nat.reduceBEq, Int.reduceToNat, Int.reduceLE, Int.reduceLT, Int.reduceEq, Int.reduceNe, di]
        refine calls_of p_within ?_; simp only [lkE, res212, b212k0, b212k1, b212k2, b212k3, b212k4, b212k5, b212k6, ↓reduceIte, reduceCtorEq, Nat.reduceEqDiff, Nat.reduceAdd, Nat.reduceMul, Nat.reduceSub, Nat.reduceLeDiff, Nat.reduceBEq, Int.reduceToNat, Int.reduceLE, Int.reduceLT, Int.reduceEq, Int.reduceNe, di]
        have hbad : ¬ (Wi (kn l i).1 0 1000000 ∧ Wi (kn l i).2 0 1000000000) → knotErr l i = 2 := fun k => by unfold knotErr; rw [if_pos k]
        split
        · rename_i a1
          refine calls_of p_within ?_; simp only [lkE, res212, b212k0, b212k1, b212k2, b212k3, b212k4, b212k5, b212k6, ↓reduceIte, reduceCtorEq, Nat.reduceEqDiff, Nat.reduceAdd, Nat.reduceMul, Nat.reduceSub, Nat.reduceLeDiff, Nat.reduceBEq, Int.reduceToNat, Int.reduceLE, Int.reduceLT, Int.reduceEq, Int.reduceNe, di]
          split
          · rename_i a2
            split
            · rename_i a3
              have k0 : knotErr l i = 0 := by unfold knotErr; rw [if_neg (by simp [a1, a2]), if_pos (by omega)]
              rw [if_pos k0, wrap64 (by omega) (by omega)]
              rw [hnext k0]
              refine ih (i + 1) _ _ (by omega) ⟨by omega, hbn k0, hnext k0⟩ (by simp only [↓reduceIte, reduceCtorEq, Nat.reduceEqDiff, Nat.reduceAdd, Nat.reduceMul, Nat.reduceSub, Nat.reduceLeDiff, Nat.reduceBEq, Int.reduceToNat, Int.reduceLE, Int.reduceLT, Int.reduceEq, Int.reduceNe, di] <;> rfl)
            · rename_i a3
              have hi0 : 0 < i := by omega
              have e1 : IntKind.wrap .i64 ((i : Int) - 1) = ((i - 1 : Nat) : Int) := by rw [wrap64 (by omega) (by omega)]; omega
              have kb1 : KB (kn l (i - 1)) := kb_of (hb (i - 1) (by omega))
              have kb2 : KB (kn l i) := by unfold KB; unfold Wi at a1 a2; omega
              have ke : knotErr l i = if (kn l i).1 ≤ (kn l (i - 1)).1 ∨ (kn l i).2 ≤ (kn l (i - 1)).2 then 9
                  else if 1 < i ∧ ((kn l i).2 - (kn l (i - 1)).2) * ((kn l (i - 1)).1 - (kn l (i - 2)).1) < ((kn l (i - 1)).2 - (kn l (i - 2)).2) * ((kn l i).1 - (kn l (i - 1)).1) then 22 else 0 := by
                unfold knotErr; rw [if_neg (by simp [a1, a2]), if_neg (by omega)]
              simp only [e1, lkE, ↓reduceIte, reduceCtorEq, Nat.reduceEqDiff, Nat.reduceAdd, Nat.reduceMul, Nat.reduceSub, Nat.reduceLeDiff, Nat.reduceBEq, Int.reduceToNat, Int.reduceLE, Int.reduceLT, Int.reduceEq, Int.reduceNe, di]
              repeat (refine And.intro (by omega) ?_)
              refine calls_of (p_height kb1 kb2) ?_; simp only [lkE, res212, b212k0, b212k1, b212k2, b212k3, b212k4, b212k5, b212k6, ↓reduceIte, reduceCtorEq, Nat.reduceEqDiff, Nat.reduceAdd, Nat.reduceMul, Nat.reduceSub, Nat.reduceLeDiff, Nat.reduceBEq, Int.reduceToNat, Int.reduceLE, Int.reduceLT, Int.reduceEq, Int.reduceNe, di]
              split
              · rename_i a4
                have k9 : knotErr l i = 9 := ke.trans (if_pos (.inl (by omega)))
                rw [k9, if_neg (by omega)]
              · rename_i a4
                refine calls_of (p_volume kb1 kb2) ?_; simp only [lkE, res212, b212k0, b212k1, b212k2, b212k3, b212k4, b212k5, b212k6, ↓reduceIte, reduceCtorEq, Nat.reduceEqDiff, Nat.reduceAdd, Nat.reduceMul, Nat.reduceSub, Nat.reduceLeDiff, Nat.reduceBEq, Int.reduceToNat, Int.reduceLE, Int.reduceLT, Int.reduceEq, Int.reduceNe, di]
                split
                · rename_i a5
                  have k9 : knotErr l i = 9 := ke.trans (if_pos (.inr (by omega)))
                  rw [k9, if_neg (by omega)]
                · rename_i a5
                  rw [if_neg (show ¬ ((kn l i).1 ≤ (kn l (i - 1)).1 ∨ (kn l i).2 ≤ (kn l (i - 1)).2) by omega)] at ke
                  split
                  · rename_i a6
                    have e2 : IntKind.wrap .i64 ((i : Int) - 2) = ((i - 2 : Nat) : Int) := by rw [wrap64 (by omega) (by omega)]; omega
                    have kb3 : KB (kn l (i - 2)) := kb_of (hb (i - 2) (by omega))
                    simp only [e1, e2, lkE, ↓reduceIte, reduceCtorEq, Nat.reduceEqDiff, Nat.reduceAdd, Nat.reduceMul, Nat.reduceSub, Nat.reduceLeDiff, Nat.reduceBEq, Int.reduceToNat, Int.reduceLE, Int.reduceLT, Int.reduceEq, Int.reduceNe, di]
                    repeat (refine And.intro (by omega) ?_)
                    refine calls_of (p_narrower kb1 kb2 kb3 kb1) ?_; simp only [lkE, res212, b212k0, b212k1, b212k2, b212k3, b212k4, b212k5, b212k6, ↓reduceIte, reduceCtorEq, Nat.reduceEqDiff, Nat.reduceAdd, Nat.reduceMul, Nat.reduceSub, Nat.reduceLeDiff, Nat.reduceBEq, Int.reduceToNat, Int.reduceLE, Int.reduceLT, Int.reduceEq, Int.reduceNe, di]
                    split
                    · rename_i a7
                      rw [if_pos ⟨by omega, a7⟩] at ke
                      rw [ke, if_neg (by omega)]
                    · rename_i a7
                      rw [if_neg (fun k => a7 k.2)] at ke
                      rw [if_pos ke, wrap64 (by omega) (by omega), hnext ke]
                      refine ih (i + 1) _ _ (by omega) ⟨by omega, hbn ke, hnext ke⟩ (by simp only [↓reduceIte, reduceCtorEq, Nat.reduceEqDiff, Nat.reduceAdd, Nat.reduceMul, Nat.reduceSub, Nat.reduceLeDiff, Nat.reduceBEq, Int.reduceToNat, Int.reduceLE, Int.reduceLT, Int.reduceEq, Int.reduceNe, di] <;> rfl)
                  · rename_i a6
                    rw [if_neg (fun k => a6 (by have := k.1; omega))] at ke
                    rw [if_pos ke, wrap64 (by omega) (by omega), hnext ke]
                    refine ih (i + 1) _ _ (by omega) ⟨by omega, hbn ke, hnext ke⟩ (by simp only [↓reduceIte, reduceCtorEq, Nat.reduceEqDiff, Nat.reduceAdd, Nat.reduceMul, Nat.reduceSub, Nat.reduceLeDiff, Nat.reduceBEq, Int.reduceToNat, Int.reduceLE, Int.reduceLT, Int.reduceEq, Int.reduceNe, di] <;> rfl)
          · rename_i a2
            rw [hbad (fun k => a2 k.2), if_neg (by omega)]
        · rename_i a1
          rw [hbad (fun k => a1 k.1), if_neg (by omega)]
      · rename_i h
        rw [show l.length - i = 0 by omega]
        rfl

theorem p_tableErr {l : List Kn} (hl : l.length ≤ 1000000000000) : Contract Tryz.prog 118 [tabI l] (.int .i64 (chkT l).2) := by
  refine contract_run Tryz.func118 k118 rfl ?_
  simp only [tabI, body118, b118, res118, ↓reduceIte, reduceCtorEq, Nat.reduceEqDiff, Nat.reduceAdd, Nat.reduceMul, Nat.reduceSub, Nat.reduceLeDiff, Nat.reduceBEq, Int.reduceToNat, Int.reduceLE, Int.reduceLT, Int.reduceEq, Int.reduceNe, di]
  refine calls_of (p_CheckTable hl) ?_
  simp only [pairI, res118, ↓reduceIte, reduceCtorEq, Nat.reduceEqDiff, Nat.reduceAdd, Nat.reduceMul, Nat.reduceSub, Nat.reduceLeDiff, Nat.reduceBEq, Int.reduceToNat, Int.reduceLE, Int.reduceLT, Int.reduceEq, Int.reduceNe, di]

end Go.DI

