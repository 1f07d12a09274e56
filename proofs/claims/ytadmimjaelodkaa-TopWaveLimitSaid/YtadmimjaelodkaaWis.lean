/- The statement WaveLaws, as a contract. No condition. -/
import Derived.Test.YtadmimjaelodkaaWip
import Derived.Test.YtadmimjaelodkaaWiq
import Derived.Test.YtadmimjaelodkaaWir
set_option linter.unusedSimpArgs false
set_option maxRecDepth 100000
namespace Go.DI
open Go.Proofs Go.RowKit

def pkI (q : Int × Int × Int) : IV := .agg [.int .i64 q.1, .int .i64 q.2.1, .int .i64 q.2.2]
/-- The best of the first k cells at a tick, with what was the best before. -/
def pkC (b : Int → Int → Bool) (t : Nat) (l : List Int) (o : Int × Int × Int) : Nat → Int × Int × Int
  | 0 => o
  | k + 1 => if (t + k = 0) ∨ b (l.getD k 0) (pkC b t l o k).1 = true then (l.getD k 0, (t : Int), (k : Int)) else pkC b t l o k
def pkT (b : Int → Int → Bool) (x : Ow) (law : List Int) : Nat → Int × Int × Int
  | 0 => (0, 0, 0)
  | t + 1 => pkC b t (presK (lawS x law (t + 1)) x.n.toNat) (pkT b x law t) x.n.toNat
theorem w_extreme {x : Ln} {law : List Int} {t : Int} {g : FuncId} {b : Int → Int → Bool} (hx : Few x) (hl : law.length ≤ 1000000) (hb : ∀ n m : Int, Contract Try.prog g [.int .i64 n, .int .i64 m] (.bool (b n m))) :
    Contract Try.prog 112 [lnI x, nI law, .int .i64 t, .func g [] []] (.tup [pkI (if lawRunE x law t = 0 then pkT b (opn x) law t.toNat else (0, 0, 0)), .int .i64 (lawRunE x law t)]) := by
  refine contract_run Try.func112 k112 rfl ?_
  simp only [body112, b112, res112, b112k0, b112k1, b112k2, b112k3, b112k4, pkI, vaE, ↓reduceIte, reduceCtorEq, Nat.reduceEqDiff, Nat.reduceAdd, Nat.reduceMul, Nat.reduceSub, Nat.reduceLeDiff, Nat.reduceBEq, Int.reduceToNat, Int.reduceLE, Int.reduceLT, Int.reduceEq, Int.reduceNe, di]
  refine calls_of (w_openRun hx hl) ?_; simp only [vaE, res112, b112k0, b112k1, b112k2, b112k3, b112k4, ↓reduceIte, reduceCtorEq, Nat.reduceEqDiff, Nat.reduceAdd, Nat.reduceMul, Nat.reduceSub, Nat.reduceLeDiff, Nat.reduceBEq, Int.reduceToNat, Int.reduceLE, Int.reduceLT, Int.reduceEq, Int.reduceNe, di]
  by_cases h0 : lawRunE x law t = 0
  rotate_left
  · simp only [h0, vaE, ↓reduceIte, reduceCtorEq, Nat.reduceEqDiff, Nat.reduceAdd, Nat.reduceMul, Nat.reduceSub, Nat.reduceLeDiff, Nat.reduceBEq, Int.reduceToNat, Int.reduceLE, Int.reduceLT, Int.reduceEq, Int.reduceNe, di]
  simp only [h0, vaE, ↓reduceIte, reduceCtorEq, Nat.reduceEqDiff, Nat.reduceAdd, Nat.reduceMul, Nat.reduceSub, Nat.reduceLeDiff, Nat.reduceBEq, Int.reduceToNat, Int.reduceLE, Int.reduceLT, Int.reduceEq, Int.reduceNe, di]
  have hz := lawRunE_zero.1 h0
  have hox : opnE x = opn x := by unfold opnE; rw [if_pos (chkL_ok.2 hz.1)]
  have how := opn_ok hz.1
  have hn := how.nb
  rw [hox]
  refine calls_of (w_run (x := opn x) (law := law)) ?_; simp only [vaE, res112, b112k0, b112k1, b112k2, b112k3, b112k4, ↓reduceIte, reduceCtorEq, Nat.reduceEqDiff, Nat.reduceAdd, Nat.reduceMul, Nat.reduceSub, Nat.reduceLeDiff, Nat.reduceBEq, Int.reduceToNat, Int.reduceLE, Int.reduceLT, Int.reduceEq, Int.reduceNe, di]
  refine range_plain (gf := 148) (first := []) (caps := [.ptr (owI (opn x)), .ptr (.agg [nI law])]) (runY (opn x) law 0 t.toNat) true rfl rfl (it_run how hl (by omega)) (by
      intro y hy
      obtain ⟨n, hn⟩ := List.getElem?_of_mem hy
      rw [(runY_get hn).2]; rfl) rfl (fun n (y : Nat) => y = n ∧ n < t.toNat) (fun y => [(6, .box [.imm (.int .i64 t)]), (7, .box [.imm (.func g [] [])]), (8, .box [.imm (.int .i64 0), .imm (.int .i64 0), .imm (.int .i64 0)]), (12, .box [.imm (.int .i64 (pkT b (opn x) law y).1), .imm (.int .i64 (pkT b (opn x) law y).2.1), .imm (.int .i64 (pkT b (opn x) law y).2.2)]), (13, .box [.imm (.int .i64 y)])]) 0 ⟨rfl, by omega⟩ (by rw [keepRes_look]; simp only [pkT, vaE, ↓reduceIte, reduceCtorEq, Nat.reduceEqDiff, Nat.reduceAdd, Nat.reduceMul, Nat.reduceSub, Nat.reduceLeDiff, Nat.reduceBEq, Int.reduceToNat, Int.reduceLE, Int.reduceLT, Int.reduceEq, Int.reduceNe, di] <;> rfl) ?_ ?_
  · rintro n y m hy ⟨rfl, hmt⟩
    obtain ⟨_, rfl⟩ := runY_get hy
    rw [Nat.zero_add]
    have hsh := sh_law hn.1 (law := law) (m + 1)
    have hF := hsh.f
    have hB := hsh.b
    have hpl := presK_length (s := lawS (opn x) law (m + 1)) (k := (opn x).n.toNat)
    have hpr := w_pressures (s := lawS (opn x) law (m + 1)) (few_sh how hsh) (by omega)
    rw [show (lawS (opn x) law (m + 1)).F.length = (opn x).n.toNat by omega] at hpr
    simp only [b112l0, b112a1, b112r1, vaE, ↓reduceIte, reduceCtorEq, Nat.reduceEqDiff, Nat.reduceAdd, Nat.reduceMul, Nat.reduceSub, Nat.reduceLeDiff, Nat.reduceBEq, Int.reduceToNat, Int.reduceLE, Int.reduceLT, Int.reduceEq, Int.reduceNe, di]
    refine calls_of hpr ?_; simp only [vaE, res112, b112k0, b112k1, b112k2, b112k3, b112k4, ↓reduceIte, reduceCtorEq, Nat.reduceEqDiff, Nat.reduceAdd, Nat.reduceMul, Nat.reduceSub, Nat.reduceLeDiff, Nat.reduceBEq, Int.reduceToNat, Int.reduceLE, Int.reduceLT, Int.reduceEq, Int.reduceNe, di]
    refine loop_keep (α := Nat) rfl (fun k => (opn x).n.toNat - k) (fun k => k ≤ (opn x).n.toNat)
      (fun k => [(6, .ref 6 0), (7, .ref 7 0), (12, .ref 12 0), (13, .ref 13 0), (35, .imm (nI (presK (lawS (opn x) law (m + 1)) (opn x).n.toNat))), (36, .imm (.int .i64 ((presK (lawS (opn x) law (m + 1)) (opn x).n.toNat).length : Nat))), (37, .imm (.int .i64 k))])
      (fun k => [(6, .box [.imm (.int .i64 t)]), (7, .box [.imm (.func g [] [])]), (8, .box [.imm (.int .i64 0), .imm (.int .i64 0), .imm (.int .i64 0)]), (12, .box [.imm (.int .i64 (pkC b m (presK (lawS (opn x) law (m + 1)) (opn x).n.toNat) (pkT b (opn x) law m) k).1), .imm (.int .i64 (pkC b m (presK (lawS (opn x) law (m + 1)) (opn x).n.toNat) (pkT b (opn x) law m) k).2.1), .imm (.int .i64 (pkC b m (presK (lawS (opn x) law (m + 1)) (opn x).n.toNat) (pkT b (opn x) law m) k).2.2)]), (13, .box [.imm (.int .i64 m)])]) 0 (Nat.zero_le _) (by simp only [pkC, vaE, ↓reduceIte, reduceCtorEq, Nat.reduceEqDiff, Nat.reduceAdd, Nat.reduceMul, Nat.reduceSub, Nat.reduceLeDiff, Nat.reduceBEq, Int.reduceToNat, Int.reduceLE, Int.reduceLT, Int.reduceEq, Int.reduceNe, di] <;> rfl) ?_
    intro k hk ih2
    simp only [b112l0, b112a1, b112r1, vaE, ↓reduceIte, reduceCtorEq, Nat.reduceEqDiff, Nat.reduceAdd, Nat.reduceMul, Nat.reduceSub, Nat.reduceLeDiff, Nat.reduceBEq, Int.reduceToNat, Int.reduceLE, Int.reduceLT, Int.reduceEq, Int.reduceNe, di]
    split
    rotate_left
    · rename_i h2
      have hke : k = (opn x).n.toNat := by omega
      subst hke
      rw [wrap64 (n := (m : Int) + 1) (by omega) (by omega)]
      split
      · rename_i h
        rw [show t.toNat = m + 1 by omega]
        rfl
      · exact ⟨m + 1, ⟨rfl, by omega⟩, rfl, by rw [runY_length]; omega⟩
    rename_i h2
    repeat (refine And.intro (by first | omega | exact all_int _ | (simp only [zeros_len, List.length_append, List.length_take, List.length_drop, List.length_set, List.length_cons, List.length_nil, List.length_map]; omega)) ?_)
    rw [wrap64 (n := (m : Int) + k) (by omega) (by omega)]
    rw [wrap64 (n := (k : Int) + 1) (by omega) (by omega)]
    by_cases hc : (m : Int) + k = 0
    · rw [if_pos hc]
      have hpk : ∀ o, pkC b m (presK (lawS (opn x) law (m + 1)) (opn x).n.toNat) o (k + 1) = ((presK (lawS (opn x) law (m + 1)) (opn x).n.toNat).getD k 0, (m : Int), (k : Int)) := fun o => if_pos (.inl (by omega))
      exact ih2 (k + 1) _ _ (by omega) (by omega) (by simp only [hpk, vaE, ↓reduceIte, reduceCtorEq, Nat.reduceEqDiff, Nat.reduceAdd, Nat.reduceMul, Nat.reduceSub, Nat.reduceLeDiff, Nat.reduceBEq, Int.reduceToNat, Int.reduceLE, Int.reduceLT, Int.reduceEq, Int.reduceNe, di] <;> rfl)
    · rw [if_neg hc]
      refine calls_of (hb _ _) ?_
      simp only [b112l0, b112a1, b112r1, vaE, ↓reduceIte, reduceCtorEq, Nat.reduceEqDiff, Nat.reduceAdd, Nat.reduceMul, Nat.reduceSub, Nat.reduceLeDiff, Nat.reduceBEq, Int.reduceToNat, Int.reduceLE, Int.reduceLT, Int.reduceEq, Int.reduceNe, di]
      rw [wrap64 (n := (k : Int) + 1) (by omega) (by omega)]
      cases hbb : b ((presK (lawS (opn x) law (m + 1)) (opn x).n.toNat).getD k 0) (pkC b m (presK (lawS (opn x) law (m + 1)) (opn x).n.toNat) (pkT b (opn x) law m) k).1
      · have hpk : pkC b m (presK (lawS (opn x) law (m + 1)) (opn x).n.toNat) (pkT b (opn x) law m) (k + 1) = pkC b m (presK (lawS (opn x) law (m + 1)) (opn x).n.toNat) (pkT b (opn x) law m) k := if_neg (by rw [hbb]; simp; omega)
        simp only [b112l0, b112a1, b112r1, vaE, ↓reduceIte, reduceCtorEq, Nat.reduceEqDiff, Nat.reduceAdd, Nat.reduceMul, Nat.reduceSub, Nat.reduceLeDiff, Nat.reduceBEq, Int.reduceToNat, Int.reduceLE, Int.reduceLT, Int.reduceEq, Int.reduceNe, di]
        exact ih2 (k + 1) _ _ (by omega) (by omega) (by simp only [hpk, vaE, ↓reduceIte, reduceCtorEq, Nat.reduceEqDiff, Nat.reduceAdd, Nat.reduceMul, Nat.reduceSub, Nat.reduceLeDiff, Nat.reduceBEq, Int.reduceToNat, Int.reduceLE, Int.reduceLT, Int.reduceEq, Int.reduceNe, di] <;> rfl)
      · have hpk : pkC b m (presK (lawS (opn x) law (m + 1)) (opn x).n.toNat) (pkT b (opn x) law m) (k + 1) = ((presK (lawS (opn x) law (m + 1)) (opn x).n.toNat).getD k 0, (m : Int), (k : Int)) := if_pos (.inr hbb)
        simp only [b112l0, b112a1, b112r1, vaE, ↓reduceIte, reduceCtorEq, Nat.reduceEqDiff, Nat.reduceAdd, Nat.reduceMul, Nat.reduceSub, Nat.reduceLeDiff, Nat.reduceBEq, Int.reduceToNat, Int.reduceLE, Int.reduceLT, Int.reduceEq, Int.reduceNe, di]
        exact ih2 (k + 1) _ _ (by omega) (by omega) (by simp only [hpk, vaE, ↓reduceIte, reduceCtorEq, Nat.reduceEqDiff, Nat.reduceAdd, Nat.reduceMul, Nat.reduceSub, Nat.reduceLeDiff, Nat.reduceBEq, Int.reduceToNat, Int.reduceLE, Int.reduceLT, Int.reduceEq, Int.reduceNe, di] <;> rfl)
  · intro y h; cases h
def hiB (n m : Int) : Bool := decide (m < n)
def loB (n m : Int) : Bool := decide (n < m)
theorem w_HighestOf1 {n m : Int} : Contract Try.prog 113 [.int .i64 n, .int .i64 m] (.bool (hiB n m)) := by
  refine contract_run Try.func113 k113 rfl ?_
  simp only [body113, b113, res113, hiB, vaE, ↓reduceIte, reduceCtorEq, Nat.reduceEqDiff, Nat.reduceAdd, Nat.reduceMul, Nat.reduceSub, Nat.reduceLeDiff, Nat.reduceBEq, Int.reduceToNat, Int.reduceLE, Int.reduceLT, Int.reduceEq, Int.reduceNe, di]
theorem w_LowestOf1 {n m : Int} : Contract Try.prog 114 [.int .i64 n, .int .i64 m] (.bool (loB n m)) := by
  refine contract_run Try.func114 k114 rfl ?_
  simp only [body114, b114, res114, loB, vaE, ↓reduceIte, reduceCtorEq, Nat.reduceEqDiff, Nat.reduceAdd, Nat.reduceMul, Nat.reduceSub, Nat.reduceLeDiff, Nat.reduceBEq, Int.reduceToNat, Int.reduceLE, Int.reduceLT, Int.reduceEq, Int.reduceNe, di]
def pkZ (b : Int → Int → Bool) (x : Ln) (law : List Int) (t : Int) : Int × Int × Int := if lawRunE x law t = 0 then pkT b (opn x) law t.toNat else (0, 0, 0)
theorem w_HighestOf {x : Ln} {law : List Int} {t : Int} (hx : Few x) (hl : law.length ≤ 1000000) : Contract Try.prog 57 [lnI x, nI law, .int .i64 t] (.tup [pkI (pkZ hiB x law t), .int .i64 (lawRunE x law t)]) := by
  refine contract_run Try.func57 k57 rfl ?_
  simp only [body57, b57, res57, pkI, vaE, ↓reduceIte, reduceCtorEq, Nat.reduceEqDiff, Nat.reduceAdd, Nat.reduceMul, Nat.reduceSub, Nat.reduceLeDiff, Nat.reduceBEq, Int.reduceToNat, Int.reduceLE, Int.reduceLT, Int.reduceEq, Int.reduceNe, di]
  have h := w_extreme (t := t) hx hl (fun n m => w_HighestOf1 (n := n) (m := m))
  rw [show (if lawRunE x law t = 0 then pkT hiB (opn x) law t.toNat else (0, 0, 0)) = pkZ hiB x law t from rfl, pkI] at h
  refine calls_of h ?_; simp only [vaE, res57, ↓reduceIte, reduceCtorEq, Nat.reduceEqDiff, Nat.reduceAdd, Nat.reduceMul, Nat.reduceSub, Nat.reduceLeDiff, Nat.reduceBEq, Int.reduceToNat, Int.reduceLE, Int.reduceLT, Int.reduceEq, Int.reduceNe, di]
theorem w_LowestOf {x : Ln} {law : List Int} {t : Int} (hx : Few x) (hl : law.length ≤ 1000000) : Contract Try.prog 58 [lnI x, nI law, .int .i64 t] (.tup [pkI (pkZ loB x law t), .int .i64 (lawRunE x law t)]) := by
  refine contract_run Try.func58 k58 rfl ?_
  simp only [body58, b58, res58, pkI, vaE, ↓reduceIte, reduceCtorEq, Nat.reduceEqDiff, Nat.reduceAdd, Nat.reduceMul, Nat.reduceSub, Nat.reduceLeDiff, Nat.reduceBEq, Int.reduceToNat, Int.reduceLE, Int.reduceLT, Int.reduceEq, Int.reduceNe, di]
  have h := w_extreme (t := t) hx hl (fun n m => w_LowestOf1 (n := n) (m := m))
  rw [show (if lawRunE x law t = 0 then pkT loB (opn x) law t.toNat else (0, 0, 0)) = pkZ loB x law t from rfl, pkI] at h
  refine calls_of h ?_; simp only [vaE, res58, ↓reduceIte, reduceCtorEq, Nat.reduceEqDiff, Nat.reduceAdd, Nat.reduceMul, Nat.reduceSub, Nat.reduceLeDiff, Nat.reduceBEq, Int.reduceToNat, Int.reduceLE, Int.reduceLT, Int.reduceEq, Int.reduceNe, di]

def valZ (x : Ln) (law : List Int) (t : Int) : List Int := if lawRunE x law t = 0 then valveL (opn x) law t.toNat else []
theorem w_ValvePressures' {x : Ln} {law : List Int} {t : Int} (hx : Few x) (hl : law.length ≤ 1000000) : Contract Try.prog 39 [lnI x, nI law, .int .i64 t] (.tup [nI (valZ x law t), .int .i64 (lawRunE x law t)]) := by
  have h := w_ValvePressures (t := t) hx hl
  unfold valZ
  split at h
  · rename_i h0; rw [if_pos h0, h0]; exact h
  · rename_i h0; rw [if_neg h0]; exact h

end Go.DI

