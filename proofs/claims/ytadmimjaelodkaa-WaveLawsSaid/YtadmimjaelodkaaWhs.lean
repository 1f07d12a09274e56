/- The statement WaveLaws, as a contract. No condition. -/
import Derived.Test.YtadmimjaelodkaaWhp
import Derived.Test.YtadmimjaelodkaaWhq
import Derived.Test.YtadmimjaelodkaaWhr
set_option linter.unusedSimpArgs false
set_option maxRecDepth 100000
namespace Go.DI
open Go.Proofs Go.RowKit

def pkI (q : Int × Int × Int) : IV := .agg [.int .i64 q.1, .int .i64 q.2.1, .int .i64 q.2.2]
/-- The best of the first k cells at a tick, with what was the best before. -/
def pkC (b : Int → Int → Bool) (t : Nat) (l : List Int) (o : Int × Int × Int) : Nat → Int × Int × Int
  | 0 => o
  | k + 1 => if (t + k = 0) ∨ b (l.getD k 0) (pkC b t l o k).1 = true then (l.getD k 0, (t : Int), (k : Int)) else pkC b t l o k
def pkT (b : Int → Int → Bool) (x : Ow) (law : List Int) : Nat → Int × Int × Int
  | 0 => (0, 0, 0)
  | t + 1 => pkC b t (presK (lawS x law (t + 1)) x.n.toNat) (pkT b x law t) x.n.toNat
theorem w_extreme {x : Ln} {law : List Int} {t : Int} {g : FuncId} {b : Int → Int → Bool} (hx : Few x) (hl : law.length ≤ 1000000) (hb : ∀ n m : Int, Contract Try.prog g [.int .i64 n, .int .i64 m] (.bool (b n m))) :
    Contract Try.prog 112 [lnI x, nI law, .int .i64 t, .func g [] []] (.tup [pkI (if lawRunE x law t = 0 then pkT b (opn x) law t.toNat else (0, 0, 0)), .int .i64 (lawRunE x law t)]) := by
  refine contract_run Try.func112 k112 rfl ?_
  simp only [body112, b112, res112, b112k0, b112k1, b112k2, b112k3, b112k4, pkI, vaE, ↓reduceIte, reduceCtorEq, Nat.reduceEqDiff, Nat.reduceAdd, Nat.reduceMul, Nat.reduceSub, Nat.reduceLeDiff, Nat.reduceBEq, Int.reduceToNat, Int.reduceLE, Int.reduceLT, Int.reduceEq, Int.reduceNe, di]
  refine calls_of (w_openRun hx hl) ?_; simp only [vaE, res112, b112k0, b112k1, b112k2, b112k3, b112k4, ↓reduceIte, reduceCtorEq, Nat.reduceEqDiff, Nat.reduceAdd, Nat.reduceMul, Nat.reduceSub, Nat.reduceLeDiff, Nat.reduceBEq, Int.reduceToNat, Int.reduceLE, Int.reduceLT, Int.reduceEq, Int.reduceNe, di]
  by_cases h0 : lawRunE x law t = 0
  rotate_left
  · simp only [h0, vaE, ↓reduceIte, reduceCtorEq, Nat.reduceEqDiff, Nat.reduceAdd, Nat.reduceMul, Nat.reduceSub, Nat.reduceLeDiff, Nat.reduceBEq, Int.reduceToNat, Int.reduceLE, Int.reduceLT, Int.reduceEq, Int.reduceNe, di]
  simp only [h0, vaE, ↓reduceIte, reduceCtorEq, Nat.reduceEqDiff, Nat.reduceAdd, Nat.reduceMul, Nat.reduceSub, Nat.reduceLeDiff, Nat.reduceBEq, Int.reduceToNat, Int.reduceLE, Int.reduceLT, Int.reduceEq, Int.reduceNe, di]
  have hz := lawRunE_zero.1 h0
  have hox : opnE x = opn x := by unfold opnE; rw [if_pos (chkL_ok.2 hz.1)]
  have how := opn_ok hz.1
  have hn := how.nb
  rw [hox]
  refine calls_of (w_run (x := opn x) (law := law)) ?_; simp only [vaE, res112, b112k0, b112k1, b112k2, b112k3, b112k4, ↓reduceIte, reduceCtorEq, Nat.reduceEqDiff, Nat.reduceAdd, Nat.reduceMul, Nat.reduceSub, Nat.reduceLeDiff, Nat.reduceBEq, Int.reduceToNat, Int.reduceLE, Int.reduceLT, Int.reduceEq, Int.reduceNe, di]
  refine range_plain (gf := 148) (first := []) (caps := [.ptr (owI (opn x)), .ptr (.agg [nI law])]) (runY (opn x) law 0 t.toNat) true rfl rfl (it_run how hl (by omega)) (by
      intro y hy
      obtain ⟨n, hn⟩ := List.getElem?_of_mem hy
      rw [(runY_get hn).2]; rfl) rfl (fun n (y : Nat) => y = n ∧ n < t.toNat) (fun y => [(6, .box [.imm (.int .i64 t)]), (7, .box [.imm (.func g [] [])]), (8, .box [.imm (.int .i64 0), .imm (.int .i64 0), .imm (.int .i64 0)]), (12, .box [.imm (.int .i64 (pkT b (opn x) law y).1), .imm (.int .i64 (pkT b (opn x) law y).2.1), .imm (.int .i64 (pkT b (opn x) law y).2.2)]), (13, .box [.imm (.int .i64 y)])]) 0 ⟨rfl, by omega⟩ (by rw [keepRes_look]; simp only [pkT, vaE, ↓reduceIte, reduceCtorEq, Nat.reduceEqDiff, Nat.reduceAdd, Nat.reduceMul, Nat.reduceSub, Nat.reduceLeDiff, Nat.reduceBEq, Int.reduceToNat, Int.reduceLE, Int.reduceLT, Int.reduceEq, Int.reduceNe, di] <;> rfl) ?_ ?_
  · rintro n y m hy ⟨rfl, hmt⟩
    obtain ⟨_, rfl⟩ := runY_get hy
    rw [Nat.zero_add]
    have hsh := sh_law hn.1 (law := law) (m + 1)
    have hF := hsh.f
    have hB := hsh.b
    have hpl := presK_length (s := lawS (opn x) law (m + 1)) (k := (opn x).n.toNat)
    have hpr := w_pressures (s := lawS (opn x) law (m + 1)) (few_sh how hsh) (by omega)
    rw [show (lawS (opn x) law (m + 1)).F.length = (opn x).n.toNat by omega] at hpr
    simp only [b112l0, b112a1, b112r1, vaE, ↓reduceIte, reduceCtorEq, Nat.reduceEqDiff, Nat.reduceAdd, Nat.reduceMul, Nat.reduceSub, Nat.reduceLeDiff, Nat.reduceBEq, Int.reduceToNat, Int.reduceLE, Int.reduceLT, Int.reduceEq, Int.reduceNe, di]
    refine calls_of hpr ?_; simp only [vaE, res112, b112k0, b112k1, b112k2, b112k3, b112k4, ↓reduceIte, reduceCtorEq, Nat.reduceEqDiff, Nat.reduceAdd, Nat.reduceMul, Nat.reduceSub, Nat.reduceLeDiff, Nat.reduceBEq, Int.reduceToNat, Int.reduceLE, Int.reduceLT, Int.reduceEq, Int.reduceNe, di]
    refine loop_keep (α := Nat) rfl (fun k => (opn x).n.toNat - k) (fun k => k ≤ (opn x).n.toNat)
      (fun k => [(6, .ref 6 0), (7, .ref 7 0), (12, .ref 12 0), (13, .ref 13 0), (35, .imm (nI (presK (lawS (opn x) law (m + 1)) (opn x).n.toNat))), (36, .imm (.int .i64 ((presK (lawS (opn x) law (m + 1)) (opn x).n.toNat).length : Nat))), (37, .imm (.int .i64 k))])
      (fun k => [(6, .box [.imm (.int .i64 t)]), (7, .box [.imm (.func g [] [])]), (8, .box [.imm (.int .i64 0), .imm (.int .i64 0), .imm (.int .i64 0)]), (12, .box [.imm (.int .i64 (pkC b m (presK (lawS (opn x) law (m + 1)) (opn x).n.toNat) (pkT b (opn x) law m) k).1), .imm (.int .i64 (pkC b m (presK (lawS (opn x) law (m + 1)) (opn x).n.toNat) (pkT b (opn x) law m) k).2.1), .imm (.int .i64 (pkC b m (presK (lawS (opn x) law (m + 1)) (opn x).n.toNat) (pkT b (opn x) law m) k).2.2)]), (13, .box [.imm (.int .i64 m)])]) 0 (Nat.zero_le _) (by simp only [pkC, vaE, ↓reduceIte, reduceCtorEq, Nat.reduceEqDiff, Nat.reduceAdd, Nat.reduceMul, Nat.reduceSub, Nat.reduceLeDiff, Nat.reduceBEq, Int.reduceToNat, Int.reduceLE, Int.reduceLT, Int.reduceEq, Int.reduceNe, di] <;> rfl) ?_
    intro k hk ih2
    simp only [b112l0, b112a1, b112r1, vaE, ↓reduceIte, reduceCtorEq, Nat.reduceEqDiff, Nat.reduceAdd, Nat.reduceMul, Nat.reduceSub, Nat.reduceLeDiff, Nat.reduceBEq, Int.reduceToNat, Int.reduceLE, Int.reduceLT, Int.reduceEq, Int.reduceNe, di]
    split
    rotate_left
    · rename_i h2
      have hke : k = (opn x).n.toNat := by omega
      subst hke
      rw [wrap64 (n := (m : Int) + 1) (by omega) (by omega)]
      split
      · rename_i h
        rw [show t.toNat = m + 1 by omega]
        rfl
      · exact ⟨m + 1, ⟨rfl, by omega⟩, rfl, by rw [runY_length]; omega⟩
    rename_i h2
    repeat (refine And.intro (by first | omega | exact all_int _ | (simp only [zeros_len, List.length_append, List.length_take, List.length_drop, List.length_set, List.length_cons, List.length_nil, List.length_map]; omega)) ?_)
    rw [wrap64 (n := (m : Int) + k) (by omega) (by omega)]
    rw [wrap64 (n := (k : Int) + 1) (by omega) (by omega)]
    by_cases hc : (m : Int) + k = 0
    · rw [if_pos hc]
      have hpk : ∀ o, pkC b m (presK (lawS (opn x) law (m + 1)) (opn x).n.toNat) o (k + 1) = ((presK (lawS (opn x) law (m + 1)) (opn x).n.toNat).getD k 0, (m : Int), (k : Int)) := fun o => if_pos (.inl (by omega))
      exact ih2 (k + 1) _ _ (by omega) (by omega) (by simp only [hpk, vaE, ↓reduceIte, reduceCtorEq, Nat.reduceEqDiff, Nat.reduceAdd, Nat.reduceMul, Nat.reduceSub, Nat.reduceLeDiff, Nat.reduceBEq, Int.reduceToNat, Int.reduceLE, Int.reduceLT, Int.reduceEq, Int.reduceNe, di] <;> rfl)
    · rw [if_neg hc]
      refine calls_of (hb _ _) ?_
      simp only [b112l0, b112a1, b112r1, vaE, ↓reduceIte, reduceCtorEq, Nat.reduceEqDiff, Nat.reduceAdd, Nat.reduceMul, Nat.reduceSub, Nat.reduceLeDiff, Nat.reduceBEq, Int.reduceToNat, Int.reduceLE, Int.reduceLT, Int.reduceEq, Int.reduceNe, di]
      rw [wrap64 (n := (k : Int) + 1) (by omega) (by omega)]
      cases hbb : b ((presK (lawS (opn x) law (m + 1)) (opn x).n.toNat).getD k 0) (pkC b m (presK (lawS (opn x) law (m + 1)) (opn x).n.toNat) (pkT b (opn x) law m) k).1
      · have hpk : pkC b m (presK (lawS (opn x) law (m + 1)) (opn x).n.toNat) (pkT b (opn x) law m) (k + 1) = pkC b m (presK (lawS (opn x) law (m + 1)) (opn x).n.toNat) (pkT b (opn x) law m) k := if_neg (by rw [hbb]; simp; omega)
        simp only [b112l0, b112a1, b112r1, vaE, ↓reduceIte, reduceCtorEq, Nat.reduceEqDiff, Nat.reduceAdd, Nat.reduceMul, Nat.reduceSub, Nat.reduceLeDiff, Nat.reduceBEq, Int.reduceToNat, Int.reduceLE, Int.reduceLT, Int.reduceEq, Int.reduceNe, di]
        exact ih2 (k + 1) _ _ (by omega) (by omega) (by simp only [hpk, vaE, ↓reduceIte, reduceCtorEq, Nat.reduceEqDiff, Nat.reduceAdd, Nat.reduceMul, Nat.reduceSub, Nat.reduceLeDiff, Nat.reduceBEq, Int.reduceToNat, Int.reduceLE, Int.reduceLT, Int.reduceEq, Int.reduceNe, di] <;> rfl)
      · have hpk : pkC b m (presK (lawS (opn x) law (m + 1)) (opn x).n.toNat) (pkT b (opn x) law m) (k + 1) = ((presK (lawS (opn x) law (m + 1)) (opn x).n.toNat).getD k 0, (m : Int), (k : Int)) := if_pos (.inr hbb)
        simp only [b112l0, b112a1, b112r1, vaE, ↓reduceIte, reduceCtorEq, Nat.reduceEqDiff, Nat.reduceAdd, Nat.reduceMul, Nat.reduceSub, Nat.reduceLeDiff, Nat.reduceBEq, Int.reduceToNat, Int.reduceLE, Int.reduceLT, Int.reduceEq, Int.reduceNe, di]
        exact ih2 (k + 1) _ _ (by omega) (by omega) (by simp only [hpk, vaE, ↓reduceIte, reduceCtorEq, Nat.reduceEqDiff, Nat.reduceAdd, Nat.reduceMul, Nat.reduceSub, Nat.reduceLeDiff, Nat.reduceBEq, Int.reduceToNat, Int.reduceLE, Int.reduceLT, Int.reduceEq, Int.reduceNe, di] <;> rfl)
  · intro y h; cases h
def hiB (n m : Int) : Bool := decide (m < n)
def loB (n m : Int) : Bool := decide (n < m)
theorem w_HighestOf1 {n m : Int} : Contract Try.prog 113 [.int .i64 n, .int .i64 m] (.bool (hiB n m)) := by
  refine contract_run Try.func113 k113 rfl ?_
  simp only [body113, b113, res113, hiB, vaE, ↓reduceIte, reduceCtorEq, Nat.reduceEqDiff, Nat.reduceAdd, Nat.reduceMul, Nat.reduceSub, Nat.reduceLeDiff, Nat.reduceBEq, Int.reduceToNat, Int.reduceLE, Int.reduceLT, Int.reduceEq, Int.reduceNe, di]
theorem w_LowestOf1 {n m : Int} : Contract Try.prog 114 [.int .i64 n, .int .i64 m] (.bool (loB n m)) := by
  refine contract_run Try.func114 k114 rfl ?_
  simp only [body114, b114, res114, loB, vaE, ↓reduceIte, reduceCtorEq, Nat.reduceEqDiff, Nat.reduceAdd, Nat.reduceMul, Nat.reduceSub, Nat.reduceLeDiff, Nat.reduceBEq, Int.reduceToNat, Int.reduceLE, Int.reduceLT, Int.reduceEq, Int.reduceNe, di]
def pkZ (b : Int → Int → Bool) (x : Ln) (law : List Int) (t : Int) : Int × Int × Int := if lawRunE x law t = 0 then pkT b (opn x) law t.toNat else (0, 0, 0)
theorem w_HighestOf {x : Ln} {law : List Int} {t : Int} (hx : Few x) (hl : law.length ≤ 1000000) : Contract Try.prog 57 [lnI x, nI law, .int .i64 t] (.tup [pkI (pkZ hiB x law t), .int .i64 (lawRunE x law t)]) := by
  refine contract_run Try.func57 k57 rfl ?_
  simp only [body57, b57, res57, pkI, vaE, ↓reduceIte, reduceCtorEq, Nat.reduceEqDiff, Nat.reduceAdd, Nat.reduceMul, Nat.reduceSub, Nat.reduceLeDiff, Nat.reduceBEq, Int.reduceToNat, Int.reduceLE, Int.reduceLT, Int.reduceEq, Int.reduceNe, di]
  have h := w_extreme (t := t) hx hl (fun n m => w_HighestOf1 (n := n) (m := m))
  rw [show (if lawRunE x law t = 0 then pkT hiB (opn x) law t.toNat else (0, 0, 0)) = pkZ hiB x law t from rfl, pkI] at h
  refine calls_of h ?_; simp only [vaE, res57, ↓reduceIte, reduceCtorEq, Nat.reduceEqDiff, Nat.reduceAdd, Nat.reduceMul, Nat.reduceSub, Nat.reduceLeDiff, Nat.reduceBEq, Int.reduceToNat, Int.reduceLE, Int.reduceLT, Int.reduceEq, Int.reduceNe, di]
theorem w_LowestOf {x : Ln} {law : List Int} {t : Int} (hx : Few x) (hl : law.length ≤ 1000000) : Contract Try.prog 58 [lnI x, nI law, .int .i64 t] (.tup [pkI (pkZ loB x law t), .int .i64 (lawRunE x law t)]) := by
  refine contract_run Try.func58 k58 rfl ?_
  simp only [body58, b58, res58, pkI, vaE, ↓reduceIte, reduceCtorEq, Nat.reduceEqDiff, Nat.reduceAdd, Nat.reduceMul, Nat.reduceSub, Nat.reduceLeDiff, Nat.reduceBEq, Int.reduceToNat, Int.reduceLE, Int.reduceLT, Int.reduceEq, Int.reduceNe, di]
  have h := w_extreme (t := t) hx hl (fun n m => w_LowestOf1 (n := n) (m := m))
  rw [show (if lawRunE x law t = 0 then pkT loB (opn x) law t.toNat else (0, 0, 0)) = pkZ loB x law t from rfl, pkI] at h
  refine calls_of h ?_; simp only [vaE, res58, ↓reduceIte, reduceCtorEq, Nat.reduceEqDiff, Nat.reduceAdd, Nat.reduceMul, Nat.reduceSub, Nat.reduceLeDiff, Nat.reduceBEq, Int.reduceToNat, Int.reduceLE, Int.reduceLT, Int.reduceEq, Int.reduceNe, di]

theorem presK_bd {s : Ws} {k i : Nat} (hg : Gd 632456 s) : -2000000 ≤ (presK s k).getD i 0 ∧ (presK s k).getD i 0 ≤ 2000000 := by
  by_cases h : i < k
  · have h1 := hg.b i
    have : (presK s k).getD i 0 = W6 (s.F.getD i 0 + s.B.getD i 0) := by simp [presK, List.getD_eq_getElem?_getD, h]
    rw [this, w6 (by omega) (by omega)]
    omega
  · rw [getD_out (by rw [presK_length]; omega)]; decide
theorem pkC_bd {b : Int → Int → Bool} {t : Nat} {l : List Int} {o : Int × Int × Int} (hl : ∀ i, -2000000 ≤ l.getD i 0 ∧ l.getD i 0 ≤ 2000000) (ho : -2000000 ≤ o.1 ∧ o.1 ≤ 2000000) : ∀ k, -2000000 ≤ (pkC b t l o k).1 ∧ (pkC b t l o k).1 ≤ 2000000
  | 0 => ho
  | k + 1 => by
    unfold pkC
    split
    · exact hl k
    · exact pkC_bd hl ho k
theorem pkT_bd {b : Int → Int → Bool} {x : Ln} {law : List Int} (hx : LineOk x) (h0 : ∀ t, 0 ≤ atL law t) (h1 : ∀ t, atL law t ≤ 1000) : ∀ t : Nat, t ≤ 200 → -2000000 ≤ (pkT b (opn x) law t).1 ∧ (pkT b (opn x) law t).1 ≤ 2000000
  | 0, _ => by simp [pkT]
  | t + 1, ht => pkC_bd (fun i => presK_bd (law_gd hx h0 h1 (t + 1) ht).1) (pkT_bd hx h0 h1 t (by omega)) _
theorem r_Peak {x : Ln} {law : List Int} {t sg : Int} {b : Int → Int → Bool} (hx : LineOk x) (hl : law.length ≤ 1000000) (ht : 0 ≤ t ∧ t ≤ 200) (h0 : ∀ t, 0 ≤ atL law t) (h1 : ∀ t, atL law t ≤ 1000)
    (hb : ∀ n m : Int, -2000000 ≤ n ∧ n ≤ 2000000 → -2000000 ≤ m ∧ m ≤ 2000000 → (W6 (sg * m) < W6 (sg * n) ↔ b n m = true)) :
    Contract Try.prog 70 [lnI x, nI law, .int .i64 t, .int .i64 sg] (pkI (pkT b (opn x) law t.toNat)) := by
  have how := opn_ok hx
  have hn := how.nb
  refine contract_run Try.func70 k70 rfl ?_
  simp only [body70, b70, res70, b70k0, b70k1, b70k2, b70k3, b70k4, pkI, vaE, ↓reduceIte, reduceCtorEq, Nat.reduceEqDiff, Nat.reduceAdd, Nat.reduceMul, Nat.reduceSub, Nat.reduceLeDiff, Nat.reduceBEq, Int.reduceToNat, Int.reduceLE, Int.reduceLT, Int.reduceEq, Int.reduceNe, di]
  refine calls_of (r_Rest hx) ?_; simp only [vaE, res70, b70k0, b70k1, b70k2, b70k3, b70k4, ↓reduceIte, reduceCtorEq, Nat.reduceEqDiff, Nat.reduceAdd, Nat.reduceMul, Nat.reduceSub, Nat.reduceLeDiff, Nat.reduceBEq, Int.reduceToNat, Int.reduceLE, Int.reduceLT, Int.reduceEq, Int.reduceNe, di]
  refine loop_keep (α := Nat) rfl (fun m => t.toNat - m) (fun m => (m : Int) ≤ t)
    (fun m => [(1, .imm (nI law)), (2, .imm (.int .i64 t)), (3, .imm (.int .i64 sg)), (4, .ref 4 0), (8, .ref 8 0), (9, .ref 9 0), (10, .ref 10 0), (11, .imm (.int .i64 m))])
    (fun m => [(4, .box [.imm (.slc 2 (x.pp.map ppI)), .imm (nI x.ar)]), (8, .box [.imm (.int .i64 0), .imm (.int .i64 0), .imm (.int .i64 0)]), (9, .box [.imm (nI (lawS (opn x) law m).F), .imm (nI (lawS (opn x) law m).B), .imm (nI (lawS (opn x) law m).L)]), (10, .box [.imm (.int .i64 (pkT b (opn x) law m).1), .imm (.int .i64 (pkT b (opn x) law m).2.1), .imm (.int .i64 (pkT b (opn x) law m).2.2)])]) 0 (by omega) (by simp only [pkT, lawS, vaE, ↓reduceIte, reduceCtorEq, Nat.reduceEqDiff, Nat.reduceAdd, Nat.reduceMul, Nat.reduceSub, Nat.reduceLeDiff, Nat.reduceBEq, Int.reduceToNat, Int.reduceLE, Int.reduceLT, Int.reduceEq, Int.reduceNe, di] <;> rfl) ?_
  intro m hm ih
  simp only [res70, b70k0, b70k1, b70k2, b70k3, b70k4, vaE, ↓reduceIte, reduceCtorEq, Nat.reduceEqDiff, Nat.reduceAdd, Nat.reduceMul, Nat.reduceSub, Nat.reduceLeDiff, Nat.reduceBEq, Int.reduceToNat, Int.reduceLE, Int.reduceLT, Int.reduceEq, Int.reduceNe, di]
  split
  rotate_left
  · rename_i h
    rw [show t.toNat = m by omega]
  rename_i h
  have hsh0 := sh_law hn.1 (law := law) m
  have hsh := sh_law hn.1 (law := law) (m + 1)
  have hF := hsh.f
  have hB := hsh.b
  have hpl := presK_length (s := lawS (opn x) law (m + 1)) (k := (opn x).n.toNat)
  have hpr := r_Pressures (x := x) (s := lawS (opn x) law (m + 1)) (few_sh how hsh) (by omega)
  have hgd := (law_gd hx h0 h1 (m + 1) (by omega)).1
  rw [show (lawS (opn x) law (m + 1)).F.length = (opn x).n.toNat by omega] at hpr
  refine calls_of (r_ClosingAt (law := law) (t := m) hl (by omega)) ?_; simp only [vaE, res70, b70k0, b70k1, b70k2, b70k3, b70k4, ↓reduceIte, reduceCtorEq, Nat.reduceEqDiff, Nat.reduceAdd, Nat.reduceMul, Nat.reduceSub, Nat.reduceLeDiff, Nat.reduceBEq, Int.reduceToNat, Int.reduceLE, Int.reduceLT, Int.reduceEq, Int.reduceNe, di]
  have hst := r_Stepped (s := lawS (opn x) law m) (c := atL law m) hx hsh0
  rw [show stp (opn x) (lawS (opn x) law m) (atL law m) = lawS (opn x) law (m + 1) from rfl] at hst
  refine calls_of hst ?_; simp only [vaE, res70, b70k0, b70k1, b70k2, b70k3, b70k4, ↓reduceIte, reduceCtorEq, Nat.reduceEqDiff, Nat.reduceAdd, Nat.reduceMul, Nat.reduceSub, Nat.reduceLeDiff, Nat.reduceBEq, Int.reduceToNat, Int.reduceLE, Int.reduceLT, Int.reduceEq, Int.reduceNe, di]
  refine calls_of hpr ?_; simp only [vaE, res70, b70k0, b70k1, b70k2, b70k3, b70k4, ↓reduceIte, reduceCtorEq, Nat.reduceEqDiff, Nat.reduceAdd, Nat.reduceMul, Nat.reduceSub, Nat.reduceLeDiff, Nat.reduceBEq, Int.reduceToNat, Int.reduceLE, Int.reduceLT, Int.reduceEq, Int.reduceNe, di]
  refine loop_keep (α := Nat) rfl (fun k => (opn x).n.toNat - k) (fun k => k ≤ (opn x).n.toNat)
    (fun k => [(1, .imm (nI law)), (2, .imm (.int .i64 t)), (3, .imm (.int .i64 sg)), (4, .ref 4 0), (8, .ref 8 0), (9, .ref 9 0), (10, .ref 10 0), (11, .imm (.int .i64 m)), (12, .imm (nI (presK (lawS (opn x) law (m + 1)) (opn x).n.toNat))), (13, .imm (.int .i64 k))])
    (fun k => [(4, .box [.imm (.slc 2 (x.pp.map ppI)), .imm (nI x.ar)]), (8, .box [.imm (.int .i64 0), .imm (.int .i64 0), .imm (.int .i64 0)]), (9, .box [.imm (nI (lawS (opn x) law (m + 1)).F), .imm (nI (lawS (opn x) law (m + 1)).B), .imm (nI (lawS (opn x) law (m + 1)).L)]), (10, .box [.imm (.int .i64 (pkC b m (presK (lawS (opn x) law (m + 1)) (opn x).n.toNat) (pkT b (opn x) law m) k).1), .imm (.int .i64 (pkC b m (presK (lawS (opn x) law (m + 1)) (opn x).n.toNat) (pkT b (opn x) law m) k).2.1), .imm (.int .i64 (pkC b m (presK (lawS (opn x) law (m + 1)) (opn x).n.toNat) (pkT b (opn x) law m) k).2.2)])]) 0 (Nat.zero_le _) (by simp only [pkC, vaE, ↓reduceIte, reduceCtorEq, Nat.reduceEqDiff, Nat.reduceAdd, Nat.reduceMul, Nat.reduceSub, Nat.reduceLeDiff, Nat.reduceBEq, Int.reduceToNat, Int.reduceLE, Int.reduceLT, Int.reduceEq, Int.reduceNe, di] <;> rfl) ?_
  intro k hk ih2
  simp only [res70, b70k0, b70k1, b70k2, b70k3, b70k4, vaE, ↓reduceIte, reduceCtorEq, Nat.reduceEqDiff, Nat.reduceAdd, Nat.reduceMul, Nat.reduceSub, Nat.reduceLeDiff, Nat.reduceBEq, Int.reduceToNat, Int.reduceLE, Int.reduceLT, Int.reduceEq, Int.reduceNe, di]
  split
  rotate_left
  · rename_i h2
    have hke : k = (opn x).n.toNat := by omega
    subst hke
    rw [wrap64 (n := (m : Int) + 1) (by omega) (by omega)]
    exact ih (m + 1) _ _ (by omega) (by omega) (by simp only [pkT, vaE, ↓reduceIte, reduceCtorEq, Nat.reduceEqDiff, Nat.reduceAdd, Nat.reduceMul, Nat.reduceSub, Nat.reduceLeDiff, Nat.reduceBEq, Int.reduceToNat, Int.reduceLE, Int.reduceLT, Int.reduceEq, Int.reduceNe, di] <;> rfl)
  rename_i h2
  have b1 := presK_bd (k := (opn x).n.toNat) (i := k) hgd
  have b2 := pkC_bd (b := b) (t := m) (fun i => presK_bd (k := (opn x).n.toNat) (i := i) hgd) (pkT_bd (b := b) hx h0 h1 m (by omega)) k
  have hbb := hb _ _ b1 b2
  rw [wrap64 (n := (k : Int) + 1) (by omega) (by omega)]
  have hit : ∀ o : Int × Int × Int, (m : Int) = 0 ∧ (k : Int) = 0 → pkC b m (presK (lawS (opn x) law (m + 1)) (opn x).n.toNat) o (k + 1) = ((presK (lawS (opn x) law (m + 1)) (opn x).n.toNat).getD k 0, (m : Int), (k : Int)) := fun o h => if_pos (.inl (by omega))
  by_cases hc : (m : Int) = 0 ∧ (k : Int) = 0
  · rw [if_pos hc]
    refine ⟨h2, ?_⟩
    exact ih2 (k + 1) _ _ (by omega) (by omega) (by simp only [hit _ hc, vaE, ↓reduceIte, reduceCtorEq, Nat.reduceEqDiff, Nat.reduceAdd, Nat.reduceMul, Nat.reduceSub, Nat.reduceLeDiff, Nat.reduceBEq, Int.reduceToNat, Int.reduceLE, Int.reduceLT, Int.reduceEq, Int.reduceNe, di] <;> rfl)
  · rw [if_neg hc]
    refine ⟨h2, ?_⟩
    cases hbv : b ((presK (lawS (opn x) law (m + 1)) (opn x).n.toNat).getD k 0) (pkC b m (presK (lawS (opn x) law (m + 1)) (opn x).n.toNat) (pkT b (opn x) law m) k).1
    · have hpk : pkC b m (presK (lawS (opn x) law (m + 1)) (opn x).n.toNat) (pkT b (opn x) law m) (k + 1) = pkC b m (presK (lawS (opn x) law (m + 1)) (opn x).n.toNat) (pkT b (opn x) law m) k := if_neg (by rw [hbv]; simp; omega)
      rw [if_neg (fun h => by rw [hbb.1 h] at hbv; cases hbv)]
      exact ih2 (k + 1) _ _ (by omega) (by omega) (by simp only [hpk, vaE, ↓reduceIte, reduceCtorEq, Nat.reduceEqDiff, Nat.reduceAdd, Nat.reduceMul, Nat.reduceSub, Nat.reduceLeDiff, Nat.reduceBEq, Int.reduceToNat, Int.reduceLE, Int.reduceLT, Int.reduceEq, Int.reduceNe, di] <;> rfl)
    · have hpk : pkC b m (presK (lawS (opn x) law (m + 1)) (opn x).n.toNat) (pkT b (opn x) law m) (k + 1) = ((presK (lawS (opn x) law (m + 1)) (opn x).n.toNat).getD k 0, (m : Int), (k : Int)) := if_pos (.inr hbv)
      rw [if_pos (hbb.2 hbv)]
      refine ⟨h2, ?_⟩
      exact ih2 (k + 1) _ _ (by omega) (by omega) (by simp only [hpk, vaE, ↓reduceIte, reduceCtorEq, Nat.reduceEqDiff, Nat.reduceAdd, Nat.reduceMul, Nat.reduceSub, Nat.reduceLeDiff, Nat.reduceBEq, Int.reduceToNat, Int.reduceLE, Int.reduceLT, Int.reduceEq, Int.reduceNe, di] <;> rfl)
theorem hi_iff (n m : Int) (hn : -2000000 ≤ n ∧ n ≤ 2000000) (hm : -2000000 ≤ m ∧ m ≤ 2000000) : W6 (1 * m) < W6 (1 * n) ↔ hiB n m = true := by
  rw [w6 (by omega) (by omega), w6 (by omega) (by omega)]
  simp [hiB]
theorem lo_iff (n m : Int) (hn : -2000000 ≤ n ∧ n ≤ 2000000) (hm : -2000000 ≤ m ∧ m ≤ 2000000) : W6 (-1 * m) < W6 (-1 * n) ↔ loB n m = true := by
  rw [w6 (by omega) (by omega), w6 (by omega) (by omega)]
  simp only [loB, decide_eq_true_eq]
  omega
def valZ (x : Ln) (law : List Int) (t : Int) : List Int := if lawRunE x law t = 0 then valveL (opn x) law t.toNat else []
theorem w_ValvePressures' {x : Ln} {law : List Int} {t : Int} (hx : Few x) (hl : law.length ≤ 1000000) : Contract Try.prog 39 [lnI x, nI law, .int .i64 t] (.tup [nI (valZ x law t), .int .i64 (lawRunE x law t)]) := by
  have h := w_ValvePressures (t := t) hx hl
  unfold valZ
  split at h
  · rename_i h0; rw [if_pos h0, h0]; exact h
  · rename_i h0; rw [if_neg h0]; exact h

theorem l_WaveLaws {x : Ln} {law : List Int} {t : Int} : Contract Try.prog 13 [lnI x, nI law, .int .i64 t] (.bool true) := by
  refine contract_run Try.func13 k13 rfl ?_
  simp only [body13, b13, res13, b13k0, b13k1, b13k2, b13k3, b13k4, b13k5, vaE, ↓reduceIte, reduceCtorEq, Nat.reduceEqDiff, Nat.reduceAdd, Nat.reduceMul, Nat.reduceSub, Nat.reduceLeDiff, Nat.reduceBEq, Int.reduceToNat, Int.reduceLE, Int.reduceLT, Int.reduceEq, Int.reduceNe, di]
  refine calls_of l_awake ?_; simp only [vaE, res13, b13k0, b13k1, b13k2, b13k3, b13k4, b13k5, ↓reduceIte, reduceCtorEq, Nat.reduceEqDiff, Nat.reduceAdd, Nat.reduceMul, Nat.reduceSub, Nat.reduceLeDiff, Nat.reduceBEq, Int.reduceToNat, Int.reduceLE, Int.reduceLT, Int.reduceEq, Int.reduceNe, di]
  refine calls_of l_few ?_; simp only [vaE, res13, b13k0, b13k1, b13k2, b13k3, b13k4, b13k5, ↓reduceIte, reduceCtorEq, Nat.reduceEqDiff, Nat.reduceAdd, Nat.reduceMul, Nat.reduceSub, Nat.reduceLeDiff, Nat.reduceBEq, Int.reduceToNat, Int.reduceLE, Int.reduceLT, Int.reduceEq, Int.reduceNe, di]
  by_cases hf : x.pp.length ≤ 6 ∧ x.ar.length ≤ 6
  rotate_left
  · simp only [hf, false_and, vaE, ↓reduceIte, reduceCtorEq, Nat.reduceEqDiff, Nat.reduceAdd, Nat.reduceMul, Nat.reduceSub, Nat.reduceLeDiff, Nat.reduceBEq, Int.reduceToNat, Int.reduceLE, Int.reduceLT, Int.reduceEq, Int.reduceNe, di]
  simp only [hf, vaE, ↓reduceIte, reduceCtorEq, Nat.reduceEqDiff, Nat.reduceAdd, Nat.reduceMul, Nat.reduceSub, Nat.reduceLeDiff, Nat.reduceBEq, Int.reduceToNat, Int.reduceLE, Int.reduceLT, Int.reduceEq, Int.reduceNe, di]
  have hx : Few x := ⟨by omega, by omega⟩
  by_cases hl : (70 : Int) < law.length
  · simp only [hl, false_and, vaE, ↓reduceIte, reduceCtorEq, Nat.reduceEqDiff, Nat.reduceAdd, Nat.reduceMul, Nat.reduceSub, Nat.reduceLeDiff, Nat.reduceBEq, Int.reduceToNat, Int.reduceLE, Int.reduceLT, Int.reduceEq, Int.reduceNe, di]
  simp only [hl, vaE, ↓reduceIte, reduceCtorEq, Nat.reduceEqDiff, Nat.reduceAdd, Nat.reduceMul, Nat.reduceSub, Nat.reduceLeDiff, Nat.reduceBEq, Int.reduceToNat, Int.reduceLE, Int.reduceLT, Int.reduceEq, Int.reduceNe, di]
  have hl2 : law.length ≤ 1000000 := by omega
  by_cases ht6 : 60 < t ∧ t ≤ 200
  · simp only [ht6, vaE, ↓reduceIte, reduceCtorEq, Nat.reduceEqDiff, Nat.reduceAdd, Nat.reduceMul, Nat.reduceSub, Nat.reduceLeDiff, Nat.reduceBEq, Int.reduceToNat, Int.reduceLE, Int.reduceLT, Int.reduceEq, Int.reduceNe, di]
  simp only [ht6, vaE, ↓reduceIte, reduceCtorEq, Nat.reduceEqDiff, Nat.reduceAdd, Nat.reduceMul, Nat.reduceSub, Nat.reduceLeDiff, Nat.reduceBEq, Int.reduceToNat, Int.reduceLE, Int.reduceLT, Int.reduceEq, Int.reduceNe, di]
  refine calls_of (c_CopyInts (a := law) (by omega)) ?_; simp only [vaE, res13, b13k0, b13k1, b13k2, b13k3, b13k4, b13k5, ↓reduceIte, reduceCtorEq, Nat.reduceEqDiff, Nat.reduceAdd, Nat.reduceMul, Nat.reduceSub, Nat.reduceLeDiff, Nat.reduceBEq, Int.reduceToNat, Int.reduceLE, Int.reduceLT, Int.reduceEq, Int.reduceNe, di]
  refine calls_of (w_CheckLaw hl2) ?_; simp only [vaE, res13, b13k0, b13k1, b13k2, b13k3, b13k4, b13k5, ↓reduceIte, reduceCtorEq, Nat.reduceEqDiff, Nat.reduceAdd, Nat.reduceMul, Nat.reduceSub, Nat.reduceLeDiff, Nat.reduceBEq, Int.reduceToNat, Int.reduceLE, Int.reduceLT, Int.reduceEq, Int.reduceNe, di]
  refine calls_of (r_CopyLine hx) ?_; simp only [vaE, res13, b13k0, b13k1, b13k2, b13k3, b13k4, b13k5, ↓reduceIte, reduceCtorEq, Nat.reduceEqDiff, Nat.reduceAdd, Nat.reduceMul, Nat.reduceSub, Nat.reduceLeDiff, Nat.reduceBEq, Int.reduceToNat, Int.reduceLE, Int.reduceLT, Int.reduceEq, Int.reduceNe, di]
  refine calls_of (c_CopyInts (a := law) (by omega)) ?_; simp only [vaE, res13, b13k0, b13k1, b13k2, b13k3, b13k4, b13k5, ↓reduceIte, reduceCtorEq, Nat.reduceEqDiff, Nat.reduceAdd, Nat.reduceMul, Nat.reduceSub, Nat.reduceLeDiff, Nat.reduceBEq, Int.reduceToNat, Int.reduceLE, Int.reduceLT, Int.reduceEq, Int.reduceNe, di]
  refine calls_of (w_ValvePressures' (t := t) hx hl2) ?_; simp only [vaE, res13, b13k0, b13k1, b13k2, b13k3, b13k4, b13k5, ↓reduceIte, reduceCtorEq, Nat.reduceEqDiff, Nat.reduceAdd, Nat.reduceMul, Nat.reduceSub, Nat.reduceLeDiff, Nat.reduceBEq, Int.reduceToNat, Int.reduceLE, Int.reduceLT, Int.reduceEq, Int.reduceNe, di]
  refine calls_of (r_CopyLine hx) ?_; simp only [vaE, res13, b13k0, b13k1, b13k2, b13k3, b13k4, b13k5, ↓reduceIte, reduceCtorEq, Nat.reduceEqDiff, Nat.reduceAdd, Nat.reduceMul, Nat.reduceSub, Nat.reduceLeDiff, Nat.reduceBEq, Int.reduceToNat, Int.reduceLE, Int.reduceLT, Int.reduceEq, Int.reduceNe, di]
  refine calls_of (c_CopyInts (a := law) (by omega)) ?_; simp only [vaE, res13, b13k0, b13k1, b13k2, b13k3, b13k4, b13k5, ↓reduceIte, reduceCtorEq, Nat.reduceEqDiff, Nat.reduceAdd, Nat.reduceMul, Nat.reduceSub, Nat.reduceLeDiff, Nat.reduceBEq, Int.reduceToNat, Int.reduceLE, Int.reduceLT, Int.reduceEq, Int.reduceNe, di]
  have hhi := w_HighestOf (law := law) (t := t) hx hl2
  have hlo := w_LowestOf (law := law) (t := t) hx hl2
  simp only [pkI] at hhi hlo
  refine calls_of hhi ?_; simp only [vaE, res13, b13k0, b13k1, b13k2, b13k3, b13k4, b13k5, ↓reduceIte, reduceCtorEq, Nat.reduceEqDiff, Nat.reduceAdd, Nat.reduceMul, Nat.reduceSub, Nat.reduceLeDiff, Nat.reduceBEq, Int.reduceToNat, Int.reduceLE, Int.reduceLT, Int.reduceEq, Int.reduceNe, di]
  refine calls_of (r_CopyLine hx) ?_; simp only [vaE, res13, b13k0, b13k1, b13k2, b13k3, b13k4, b13k5, ↓reduceIte, reduceCtorEq, Nat.reduceEqDiff, Nat.reduceAdd, Nat.reduceMul, Nat.reduceSub, Nat.reduceLeDiff, Nat.reduceBEq, Int.reduceToNat, Int.reduceLE, Int.reduceLT, Int.reduceEq, Int.reduceNe, di]
  refine calls_of (c_CopyInts (a := law) (by omega)) ?_; simp only [vaE, res13, b13k0, b13k1, b13k2, b13k3, b13k4, b13k5, ↓reduceIte, reduceCtorEq, Nat.reduceEqDiff, Nat.reduceAdd, Nat.reduceMul, Nat.reduceSub, Nat.reduceLeDiff, Nat.reduceBEq, Int.reduceToNat, Int.reduceLE, Int.reduceLT, Int.reduceEq, Int.reduceNe, di]
  refine calls_of hlo ?_; simp only [vaE, res13, b13k0, b13k1, b13k2, b13k3, b13k4, b13k5, ↓reduceIte, reduceCtorEq, Nat.reduceEqDiff, Nat.reduceAdd, Nat.reduceMul, Nat.reduceSub, Nat.reduceLeDiff, Nat.reduceBEq, Int.reduceToNat, Int.reduceLE, Int.reduceLT, Int.reduceEq, Int.reduceNe, di]
  refine calls_of (r_CheckLaw hl2) ?_; simp only [vaE, res13, b13k0, b13k1, b13k2, b13k3, b13k4, b13k5, ↓reduceIte, reduceCtorEq, Nat.reduceEqDiff, Nat.reduceAdd, Nat.reduceMul, Nat.reduceSub, Nat.reduceLeDiff, Nat.reduceBEq, Int.reduceToNat, Int.reduceLE, Int.reduceLT, Int.reduceEq, Int.reduceNe, di]
  have three : ∀ a b c : Int, firstNZ [a, b, c] = if a = 0 then if b = 0 then c else b else a := by
    intro a b c
    unfold firstNZ
    split
    · unfold firstNZ
      split
      · unfold firstNZ
        split
        · rename_i h; rw [h]; rfl
        · rfl
      · rfl
    · rfl
  have hrun : lawRunE x law t = if (chkL x).2 = 0 then if (chkW law).2 = 0 then ticksE t else (chkW law).2 else (chkL x).2 := three _ _ _
  have zs : lawRunE x law t ≠ 0 → valZ x law t = [] ∧ pkZ hiB x law t = (0, 0, 0) ∧ pkZ loB x law t = (0, 0, 0) := fun h => ⟨if_neg h, if_neg h, if_neg h⟩
  refine calls_of (r_LineErr hx) ?_; simp only [vaE, res13, b13k0, b13k1, b13k2, b13k3, b13k4, b13k5, ↓reduceIte, reduceCtorEq, Nat.reduceEqDiff, Nat.reduceAdd, Nat.reduceMul, Nat.reduceSub, Nat.reduceLeDiff, Nat.reduceBEq, Int.reduceToNat, Int.reduceLE, Int.reduceLT, Int.reduceEq, Int.reduceNe, di]
  by_cases h0 : (chkL x).2 = 0
  rotate_left
  · rw [if_neg h0] at hrun
    obtain ⟨z1, z2, z3⟩ := zs (by rw [hrun]; exact h0)
    rw [hrun, z1, z2, z3]
    simp only [h0, vaE, ↓reduceIte, reduceCtorEq, Nat.reduceEqDiff, Nat.reduceAdd, Nat.reduceMul, Nat.reduceSub, Nat.reduceLeDiff, Nat.reduceBEq, Int.reduceToNat, Int.reduceLE, Int.reduceLT, Int.reduceEq, Int.reduceNe, di]
  have hxo := chkL_ok.1 h0
  rw [if_pos h0] at hrun
  simp only [h0, vaE, ↓reduceIte, reduceCtorEq, Nat.reduceEqDiff, Nat.reduceAdd, Nat.reduceMul, Nat.reduceSub, Nat.reduceLeDiff, Nat.reduceBEq, Int.reduceToNat, Int.reduceLE, Int.reduceLT, Int.reduceEq, Int.reduceNe, di]
  by_cases hw : (chkW law).2 = 0
  rotate_left
  · rw [if_neg hw] at hrun
    obtain ⟨z1, z2, z3⟩ := zs (by rw [hrun]; exact hw)
    rw [hrun, z1, z2, z3]
    simp only [hw, vaE, ↓reduceIte, reduceCtorEq, Nat.reduceEqDiff, Nat.reduceAdd, Nat.reduceMul, Nat.reduceSub, Nat.reduceLeDiff, Nat.reduceBEq, Int.reduceToNat, Int.reduceLE, Int.reduceLT, Int.reduceEq, Int.reduceNe, di]
  rw [if_pos hw] at hrun
  simp only [hw, vaE, ↓reduceIte, reduceCtorEq, Nat.reduceEqDiff, Nat.reduceAdd, Nat.reduceMul, Nat.reduceSub, Nat.reduceLeDiff, Nat.reduceBEq, Int.reduceToNat, Int.reduceLE, Int.reduceLT, Int.reduceEq, Int.reduceNe, di]
  refine calls_of r_TicksErr ?_; simp only [vaE, res13, b13k0, b13k1, b13k2, b13k3, b13k4, b13k5, ↓reduceIte, reduceCtorEq, Nat.reduceEqDiff, Nat.reduceAdd, Nat.reduceMul, Nat.reduceSub, Nat.reduceLeDiff, Nat.reduceBEq, Int.reduceToNat, Int.reduceLE, Int.reduceLT, Int.reduceEq, Int.reduceNe, di]
  by_cases ht : ticksE t = 0
  rotate_left
  · obtain ⟨z1, z2, z3⟩ := zs (by rw [hrun]; exact ht)
    rw [hrun, z1, z2, z3]
    simp only [ht, vaE, ↓reduceIte, reduceCtorEq, Nat.reduceEqDiff, Nat.reduceAdd, Nat.reduceMul, Nat.reduceSub, Nat.reduceLeDiff, Nat.reduceBEq, Int.reduceToNat, Int.reduceLE, Int.reduceLT, Int.reduceEq, Int.reduceNe, di]
  have hr0 : lawRunE x law t = 0 := hrun.trans ht
  have htb := (lawRunE_zero.1 hr0).2.2
  have hasc := chkW_asc.1 hw
  have hb0 := fun t => (atL_rng hasc.2 t).1
  have hb1 := fun t => (atL_rng hasc.2 t).2
  have z1 : valZ x law t = valveL (opn x) law t.toNat := if_pos hr0
  have z2 : pkZ hiB x law t = pkT hiB (opn x) law t.toNat := if_pos hr0
  have z3 : pkZ loB x law t = pkT loB (opn x) law t.toNat := if_pos hr0
  have hvl := valveL_length (x := opn x) (law := law) (k := t.toNat)
  have p1 := r_Peak (t := t) (sg := 1) (b := hiB) hxo hl2 (by omega) hb0 hb1 hi_iff
  have p2 := r_Peak (t := t) (sg := -1) (b := loB) hxo hl2 (by omega) hb0 hb1 lo_iff
  simp only [pkI] at p1 p2
  rw [hr0, z1, z2, z3]
  simp only [ht, vaE, ↓reduceIte, reduceCtorEq, Nat.reduceEqDiff, Nat.reduceAdd, Nat.reduceMul, Nat.reduceSub, Nat.reduceLeDiff, Nat.reduceBEq, Int.reduceToNat, Int.reduceLE, Int.reduceLT, Int.reduceEq, Int.reduceNe, di]
  refine calls_of (r_Valve (law := law) (t := t) hxo hl2 (by omega)) ?_; simp only [vaE, res13, b13k0, b13k1, b13k2, b13k3, b13k4, b13k5, ↓reduceIte, reduceCtorEq, Nat.reduceEqDiff, Nat.reduceAdd, Nat.reduceMul, Nat.reduceSub, Nat.reduceLeDiff, Nat.reduceBEq, Int.reduceToNat, Int.reduceLE, Int.reduceLT, Int.reduceEq, Int.reduceNe, di]
  refine calls_of (c_Ints (a := valveL (opn x) law t.toNat) (b := valveL (opn x) law t.toNat) (by omega)) ?_; simp only [vaE, res13, b13k0, b13k1, b13k2, b13k3, b13k4, b13k5, ↓reduceIte, reduceCtorEq, Nat.reduceEqDiff, Nat.reduceAdd, Nat.reduceMul, Nat.reduceSub, Nat.reduceLeDiff, Nat.reduceBEq, Int.reduceToNat, Int.reduceLE, Int.reduceLT, Int.reduceEq, Int.reduceNe, di]
  refine calls_of p1 ?_; simp only [vaE, res13, b13k0, b13k1, b13k2, b13k3, b13k4, b13k5, ↓reduceIte, reduceCtorEq, Nat.reduceEqDiff, Nat.reduceAdd, Nat.reduceMul, Nat.reduceSub, Nat.reduceLeDiff, Nat.reduceBEq, Int.reduceToNat, Int.reduceLE, Int.reduceLT, Int.reduceEq, Int.reduceNe, di]
  refine calls_of p2 ?_; simp only [vaE, res13, b13k0, b13k1, b13k2, b13k3, b13k4, b13k5, ↓reduceIte, reduceCtorEq, Nat.reduceEqDiff, Nat.reduceAdd, Nat.reduceMul, Nat.reduceSub, Nat.reduceLeDiff, Nat.reduceBEq, Int.reduceToNat, Int.reduceLE, Int.reduceLT, Int.reduceEq, Int.reduceNe, di]
end Go.DI

