/- The statement WaveFastest, as a contract. No condition. -/
import Derived.Test.YtadmimjaelodkaaWdh
set_option linter.unusedSimpArgs false
set_option maxRecDepth 100000
namespace Go.DI
open Go.Proofs Go.RowKit

/-- Does a law ascend, from a number on? -/
def Asc : Int → List Int → Prop
  | _, [] => True
  | l, n :: r => ((0 ≤ n ∧ n ≤ 1000) ∧ l ≤ n) ∧ Asc n r
theorem fstE_asc {n l : Int} : fstE (if 0 ≤ n ∧ n ≤ 1000 then 0 else 2) (if l ≤ n then 0 else 9) = 0 ↔ (0 ≤ n ∧ n ≤ 1000) ∧ l ≤ n := by
  rw [fstE_zero, ite_zero (by decide), ite_zero (by decide)]
theorem lawScan_asc : ∀ (r : List Int) (i l : Int), (lawScan i l r).2 = 0 ↔ Asc l r
  | [], i, l => by simp [lawScan, Asc]
  | n :: r, i, l => by
    rw [lawScan_cons]
    unfold Asc
    by_cases h : (0 ≤ n ∧ n ≤ 1000) ∧ l ≤ n
    · rw [if_pos (fstE_asc.2 h), lawScan_asc r]
      exact ⟨fun k => ⟨h, k⟩, fun k => k.2⟩
    · rw [if_neg (fun k => h (fstE_asc.1 k))]
      exact ⟨fun k => absurd (fstE_asc.1 k) h, fun k => absurd k.1 h⟩
theorem chkW_asc {law : List Int} : (chkW law).2 = 0 ↔ law.length ≤ 60 ∧ Asc 0 law := by
  unfold chkW
  split
  · rename_i h
    refine ⟨fun k => ?_, fun k => absurd k.1 (by omega)⟩
    cases k
  · rename_i h
    rw [lawScan_asc]
    exact ⟨fun k => ⟨by omega, k⟩, fun k => k.2⟩
theorem asc_le : ∀ {l : List Int} {a : Int} {j : Nat}, Asc a l → j < l.length → a ≤ l.getD j 0
  | n :: r, a, 0, h, _ => h.1.2
  | n :: r, a, j + 1, h, hj => by
    have := asc_le (j := j) h.2 (by simpa using hj)
    rw [List.getD_cons_succ]
    exact Int.le_trans h.1.2 this
theorem refL_asc {g : Int} (hg : 0 ≤ g ∧ g ≤ 1000) : ∀ (m : Nat) (a : Int), 0 ≤ a → a ≤ g → ∀ l ∈ refL g m a, Asc a l ∧ l.getD m 0 = g
  | 0, a, h0, h1, l, h => by
    simp [refL] at h
    subst h
    exact ⟨⟨⟨hg, h1⟩, trivial⟩, rfl⟩
  | m + 1, a, h0, h1, l, h => by
    unfold refL at h
    obtain ⟨i, hi, h⟩ := List.mem_flatMap.1 h
    obtain ⟨l', h', rfl⟩ := List.mem_map.1 h
    have hi := List.mem_range.1 hi
    have := refL_asc hg m (a + i) (by omega) (by omega) l' h'
    exact ⟨⟨⟨⟨by omega, by omega⟩, by omega⟩, this.1⟩, by rw [List.getD_cons_succ]; exact this.2⟩
theorem asc_refL {g : Int} : ∀ (m : Nat) (a : Int) (l : List Int), l.length = m + 1 → Asc a l → l.getD m 0 = g → l ∈ refL g m a
  | 0, a, [n], _, h, hg => by
    have : n = g := hg
    subst this
    simp [refL]
  | m + 1, a, n :: r, hl, h, hg => by
    rw [List.getD_cons_succ] at hg
    have hl : r.length = m + 1 := by simpa using hl
    have hle := asc_le (j := m) h.2 (by omega)
    have han := h.1.2
    unfold refL
    refine List.mem_flatMap.2 ⟨(n - a).toNat, List.mem_range.2 (by omega), List.mem_map.2 ⟨r, ?_, ?_⟩⟩
    · rw [show a + ((n - a).toNat : Int) = n by omega]
      exact asc_refL m n r hl h.2 hg
    · rw [show a + ((n - a).toNat : Int) = n by omega]
theorem fastL_spec {x : Ow} {t : Tk} : ∀ (k c : Nat), (fastL x t c k = [] ∧ ∀ m, c ≤ m → m < c + k → ∀ l ∈ refL t.cl m 0, keeps x t l = false) ∨
    ∃ m, c ≤ m ∧ m < c + k ∧ fastL x t c k ∈ refL t.cl m 0 ∧ keeps x t (fastL x t c k) = true ∧ ∀ m', c ≤ m' → m' < m → ∀ l ∈ refL t.cl m' 0, keeps x t l = false
  | 0, c => .inl ⟨rfl, fun m h1 h2 => absurd h2 (by omega)⟩
  | k + 1, c => by
    unfold fastL
    rw [lawsL_nil]
    split
    · rename_i l h
      exact .inr ⟨c, Nat.le_refl _, by omega, List.mem_of_find?_eq_some h, List.find?_some h, fun m' h1 h2 => absurd h2 (by omega)⟩
    · rename_i h
      have hn : ∀ l ∈ refL t.cl c 0, keeps x t l = false := fun l hl => by
        have := List.find?_eq_none.1 h l hl
        simpa using this
      have ext : ∀ n, (∀ m', c + 1 ≤ m' → m' < n → ∀ l ∈ refL t.cl m' 0, keeps x t l = false) → ∀ m', c ≤ m' → m' < n → ∀ l ∈ refL t.cl m' 0, keeps x t l = false := by
        intro n k m' h1 h2
        by_cases e : m' = c
        · subst e; exact hn
        · exact k m' (by omega) h2
      rcases fastL_spec (x := x) (t := t) k (c + 1) with h2 | ⟨m, h2, h3, h4, h5, h6⟩
      · exact .inl ⟨h2.1, fun m a b => ext (c + (k + 1)) (fun m' a b => h2.2 m' a (by omega)) m a b⟩
      · exact .inr ⟨m, by omega, by omega, h4, h5, ext m h6⟩
/-- Is a law one that a task allows? -/
def okLaw (x : Ow) (t : Tk) (law : List Int) : Prop := keeps x t law = true ∧ law.getD (law.length - 1) 0 = t.cl ∧ (law.length : Int) ≤ t.mo
theorem fast_none {x : Ow} {t : Tk} {law : List Int} (h0 : law.length ≠ 0) (ha : Asc 0 law) (hf : fast x t = []) : ¬ okLaw x t law := by
  rintro ⟨h1, h2, h3⟩
  have hs := fastL_spec (x := x) (t := t) t.mo.toNat 0
  unfold fast at hf
  rcases hs with ⟨_, k⟩ | ⟨m, _, _, k, _⟩
  · have := k (law.length - 1) (Nat.zero_le _) (by omega) law (asc_refL _ _ _ (by omega) ha h2)
    rw [this] at h1; cases h1
  · rw [hf] at k
    have := refL_elem m 0 _ k
    cases this
theorem fast_some {x : Ow} {t : Tk} (ht : TkOk t) (hf : fast x t ≠ []) : (okLaw x t (fast x t) ∧ 1 ≤ (fast x t).length) ∧ (chkW (fast x t)).2 = 0 ∧ ∀ law : List Int, law.length ≠ 0 → Asc 0 law → okLaw x t law → (fast x t).length ≤ law.length := by
  have hcl := ht.cl
  have hmo := ht.mo
  have hs := fastL_spec (x := x) (t := t) t.mo.toNat 0
  unfold fast at hf ⊢
  rcases hs with ⟨k, _⟩ | ⟨m, _, k1, k2, k3, k4⟩
  · exact absurd k hf
  have hel := refL_elem m 0 _ k2
  have has := refL_asc (g := t.cl) (by omega) m 0 (by omega) (by omega) _ k2
  refine ⟨⟨⟨k3, ?_, ?_⟩, ?_⟩, chkW_asc.2 ⟨by omega, has.1⟩, ?_⟩
  · rw [hel]; exact has.2
  · omega
  · omega
  · rintro law h0 ha ⟨h1, h2, h3⟩
    refine Nat.le_of_not_lt fun h => ?_
    have := k4 (law.length - 1) (Nat.zero_le _) (by omega) law (asc_refL _ _ _ (by omega) ha h2)
    rw [this] at h1; cases h1

theorem tail_WaveFastest {x : Ln} {law : List Int} {t : Tk} {kb : Bool} (hf : Few x) (hx : LineOk x) (ht : TkOk t) (hne : fast (opn x) t ≠ []) (hle : kb = true → (fast (opn x) t).length ≤ law.length) :
    run Try.prog b11k1 [] (d11.post (.bool true)) (mkS [(2, .imm (nI law)), (3, .ref 3 0), (4, .ref 4 0), (7, .imm (nI (fast (opn x) t))), (11, .imm (.bool kb))]
      [(3, .box [.imm (.slc 2 (x.pp.map ppI)), .imm (nI x.ar)]), (4, .box [.imm (.int .i64 t.cl), .imm (.int .i64 t.mo), .imm (.int .i64 t.ti), .imm (.int .i64 t.lo), .imm (.int .i64 t.hi)])]) := by
  obtain ⟨⟨⟨k1, k2, k3⟩, k4⟩, k5, _⟩ := fast_some ht hne
  have hmo := ht.mo
  have hl2 : (fast (opn x) t).length ≤ 1000000 := by omega
  have e1 : fbE x (fast (opn x) t) t = 0 := firstNZ_zero.2 (by simp [chkL_ok.2 hx, k5, taskE_zero.2 ht])
  have z1 : fbZ x (fast (opn x) t) t = 0 := by unfold fbZ; rw [e1, if_pos rfl, if_pos (of_decide_eq_true k1)]
  have z2 : fbW x (fast (opn x) t) t = 12 := by unfold fbW; rw [e1, if_pos rfl, if_pos (of_decide_eq_true k1)]
  simp only [b11k1, res11, b11k0, b11k1, b11k2, b11k3, vaE, ↓reduceIte, reduceCtorEq, Nat.reduceEqDiff, Nat.reduceAdd, Nat.reduceMul, Nat.reduceSub, Nat.reduceLeDiff, Nat.reduceBEq, Int.reduceToNat, Int.reduceLE, Int.reduceLT, Int.reduceEq, Int.reduceNe, di]
  rw [if_pos (by omega)]
  refine calls_of (r_LawErr hl2) ?_; simp only [vaE, res11, b11k0, b11k1, b11k2, b11k3, ↓reduceIte, reduceCtorEq, Nat.reduceEqDiff, Nat.reduceAdd, Nat.reduceMul, Nat.reduceSub, Nat.reduceLeDiff, Nat.reduceBEq, Int.reduceToNat, Int.reduceLE, Int.reduceLT, Int.reduceEq, Int.reduceNe, di]
  simp only [k5, vaE, ↓reduceIte, reduceCtorEq, Nat.reduceEqDiff, Nat.reduceAdd, Nat.reduceMul, Nat.reduceSub, Nat.reduceLeDiff, Nat.reduceBEq, Int.reduceToNat, Int.reduceLE, Int.reduceLT, Int.reduceEq, Int.reduceNe, di]
  rw [wrap64 (by omega) (by omega)]
  have hgd : (((fast (opn x) t).length : Int) - 1).toNat = (fast (opn x) t).length - 1 := by omega
  repeat (refine And.intro (by omega) ?_)
  rw [hgd, k2]
  have fin : ∀ {p : Prop} [Decidable p], ¬ p → ∀ {a b : Prop}, b → if p then a else b := by
    intro p _ h a b hb; rw [if_neg h]; exact hb
  cases kb
  · simp only [false_and, vaE, ↓reduceIte, reduceCtorEq, Nat.reduceEqDiff, Nat.reduceAdd, Nat.reduceMul, Nat.reduceSub, Nat.reduceLeDiff, Nat.reduceBEq, Int.reduceToNat, Int.reduceLE, Int.reduceLT, Int.reduceEq, Int.reduceNe, di]
    refine calls_of (r_CopyLine hf) ?_; simp only [vaE, res11, b11k0, b11k1, b11k2, b11k3, ↓reduceIte, reduceCtorEq, Nat.reduceEqDiff, Nat.reduceAdd, Nat.reduceMul, Nat.reduceSub, Nat.reduceLeDiff, Nat.reduceBEq, Int.reduceToNat, Int.reduceLE, Int.reduceLT, Int.reduceEq, Int.reduceNe, di]
    refine calls_of (c_CopyInts (a := fast (opn x) t) (by omega)) ?_; simp only [vaE, res11, b11k0, b11k1, b11k2, b11k3, ↓reduceIte, reduceCtorEq, Nat.reduceEqDiff, Nat.reduceAdd, Nat.reduceMul, Nat.reduceSub, Nat.reduceLeDiff, Nat.reduceBEq, Int.reduceToNat, Int.reduceLE, Int.reduceLT, Int.reduceEq, Int.reduceNe, di]
    refine calls_of (w_FirstBeyond' (t := t) hf hl2) ?_; simp only [vaE, res11, b11k0, b11k1, b11k2, b11k3, ↓reduceIte, reduceCtorEq, Nat.reduceEqDiff, Nat.reduceAdd, Nat.reduceMul, Nat.reduceSub, Nat.reduceLeDiff, Nat.reduceBEq, Int.reduceToNat, Int.reduceLE, Int.reduceLT, Int.reduceEq, Int.reduceNe, di]
    rw [z2]; rfl
  · have := hle rfl
    simp only [vaE, ↓reduceIte, reduceCtorEq, Nat.reduceEqDiff, Nat.reduceAdd, Nat.reduceMul, Nat.reduceSub, Nat.reduceLeDiff, Nat.reduceBEq, Int.reduceToNat, Int.reduceLE, Int.reduceLT, Int.reduceEq, Int.reduceNe, di]
    refine fin (by omega) ?_
    refine calls_of (r_CopyLine hf) ?_; simp only [vaE, res11, b11k0, b11k1, b11k2, b11k3, ↓reduceIte, reduceCtorEq, Nat.reduceEqDiff, Nat.reduceAdd, Nat.reduceMul, Nat.reduceSub, Nat.reduceLeDiff, Nat.reduceBEq, Int.reduceToNat, Int.reduceLE, Int.reduceLT, Int.reduceEq, Int.reduceNe, di]
    refine calls_of (c_CopyInts (a := fast (opn x) t) (by omega)) ?_; simp only [vaE, res11, b11k0, b11k1, b11k2, b11k3, ↓reduceIte, reduceCtorEq, Nat.reduceEqDiff, Nat.reduceAdd, Nat.reduceMul, Nat.reduceSub, Nat.reduceLeDiff, Nat.reduceBEq, Int.reduceToNat, Int.reduceLE, Int.reduceLT, Int.reduceEq, Int.reduceNe, di]
    refine calls_of (w_FirstBeyond' (t := t) hf hl2) ?_; simp only [vaE, res11, b11k0, b11k1, b11k2, b11k3, ↓reduceIte, reduceCtorEq, Nat.reduceEqDiff, Nat.reduceAdd, Nat.reduceMul, Nat.reduceSub, Nat.reduceLeDiff, Nat.reduceBEq, Int.reduceToNat, Int.reduceLE, Int.reduceLT, Int.reduceEq, Int.reduceNe, di]
    rw [z2]; rfl

theorem l_WaveFastest {x : Ln} {law : List Int} {t : Tk} : Contract Try.prog 11 [lnI x, tkI t, nI law] (.bool true) := by
  refine contract_run Try.func11 k11 rfl ?_
  simp only [body11, b11, res11, b11k2, b11k3, vaE, ↓reduceIte, reduceCtorEq, Nat.reduceEqDiff, Nat.reduceAdd, Nat.reduceMul, Nat.reduceSub, Nat.reduceLeDiff, Nat.reduceBEq, Int.reduceToNat, Int.reduceLE, Int.reduceLT, Int.reduceEq, Int.reduceNe, di]
  refine calls_of l_awake ?_; simp only [vaE, res11, b11k2, b11k3, ↓reduceIte, reduceCtorEq, Nat.reduceEqDiff, Nat.reduceAdd, Nat.reduceMul, Nat.reduceSub, Nat.reduceLeDiff, Nat.reduceBEq, Int.reduceToNat, Int.reduceLE, Int.reduceLT, Int.reduceEq, Int.reduceNe, di]
  refine calls_of l_few ?_; simp only [vaE, res11, b11k2, b11k3, ↓reduceIte, reduceCtorEq, Nat.reduceEqDiff, Nat.reduceAdd, Nat.reduceMul, Nat.reduceSub, Nat.reduceLeDiff, Nat.reduceBEq, Int.reduceToNat, Int.reduceLE, Int.reduceLT, Int.reduceEq, Int.reduceNe, di]
  by_cases hf : x.pp.length ≤ 6 ∧ x.ar.length ≤ 6
  rotate_left
  · simp only [hf, false_and, vaE, ↓reduceIte, reduceCtorEq, Nat.reduceEqDiff, Nat.reduceAdd, Nat.reduceMul, Nat.reduceSub, Nat.reduceLeDiff, Nat.reduceBEq, Int.reduceToNat, Int.reduceLE, Int.reduceLT, Int.reduceEq, Int.reduceNe, di]
  simp only [hf, vaE, ↓reduceIte, reduceCtorEq, Nat.reduceEqDiff, Nat.reduceAdd, Nat.reduceMul, Nat.reduceSub, Nat.reduceLeDiff, Nat.reduceBEq, Int.reduceToNat, Int.reduceLE, Int.reduceLT, Int.reduceEq, Int.reduceNe, di]
  have hx : Few x := ⟨by omega, by omega⟩
  refine calls_of (r_LineErr hx) ?_; simp only [vaE, res11, b11k2, b11k3, ↓reduceIte, reduceCtorEq, Nat.reduceEqDiff, Nat.reduceAdd, Nat.reduceMul, Nat.reduceSub, Nat.reduceLeDiff, Nat.reduceBEq, Int.reduceToNat, Int.reduceLE, Int.reduceLT, Int.reduceEq, Int.reduceNe, di]
  by_cases h0 : (chkL x).2 = 0
  rotate_left
  · simp only [h0, false_and, vaE, ↓reduceIte, reduceCtorEq, Nat.reduceEqDiff, Nat.reduceAdd, Nat.reduceMul, Nat.reduceSub, Nat.reduceLeDiff, Nat.reduceBEq, Int.reduceToNat, Int.reduceLE, Int.reduceLT, Int.reduceEq, Int.reduceNe, di]
  simp only [h0, vaE, ↓reduceIte, reduceCtorEq, Nat.reduceEqDiff, Nat.reduceAdd, Nat.reduceMul, Nat.reduceSub, Nat.reduceLeDiff, Nat.reduceBEq, Int.reduceToNat, Int.reduceLE, Int.reduceLT, Int.reduceEq, Int.reduceNe, di]
  have hxo := chkL_ok.1 h0
  refine calls_of r_TaskErr ?_; simp only [vaE, res11, b11k2, b11k3, ↓reduceIte, reduceCtorEq, Nat.reduceEqDiff, Nat.reduceAdd, Nat.reduceMul, Nat.reduceSub, Nat.reduceLeDiff, Nat.reduceBEq, Int.reduceToNat, Int.reduceLE, Int.reduceLT, Int.reduceEq, Int.reduceNe, di]
  by_cases ht0 : taskE t = 0
  rotate_left
  · simp only [ht0, false_and, vaE, ↓reduceIte, reduceCtorEq, Nat.reduceEqDiff, Nat.reduceAdd, Nat.reduceMul, Nat.reduceSub, Nat.reduceLeDiff, Nat.reduceBEq, Int.reduceToNat, Int.reduceLE, Int.reduceLT, Int.reduceEq, Int.reduceNe, di]
  simp only [ht0, vaE, ↓reduceIte, reduceCtorEq, Nat.reduceEqDiff, Nat.reduceAdd, Nat.reduceMul, Nat.reduceSub, Nat.reduceLeDiff, Nat.reduceBEq, Int.reduceToNat, Int.reduceLE, Int.reduceLT, Int.reduceEq, Int.reduceNe, di]
  have ht := taskE_zero.1 ht0
  split
  rotate_left
  · trivial
  rename_i hg
  have hl2 : law.length ≤ 1000000 := by omega
  refine calls_of (r_LawErr hl2) ?_; simp only [vaE, res11, b11k2, b11k3, ↓reduceIte, reduceCtorEq, Nat.reduceEqDiff, Nat.reduceAdd, Nat.reduceMul, Nat.reduceSub, Nat.reduceLeDiff, Nat.reduceBEq, Int.reduceToNat, Int.reduceLE, Int.reduceLT, Int.reduceEq, Int.reduceNe, di]
  by_cases hw : (chkW law).2 = 0
  rotate_left
  · simp only [hw, vaE, ↓reduceIte, reduceCtorEq, Nat.reduceEqDiff, Nat.reduceAdd, Nat.reduceMul, Nat.reduceSub, Nat.reduceLeDiff, Nat.reduceBEq, Int.reduceToNat, Int.reduceLE, Int.reduceLT, Int.reduceEq, Int.reduceNe, di]
  simp only [hw, vaE, ↓reduceIte, reduceCtorEq, Nat.reduceEqDiff, Nat.reduceAdd, Nat.reduceMul, Nat.reduceSub, Nat.reduceLeDiff, Nat.reduceBEq, Int.reduceToNat, Int.reduceLE, Int.reduceLT, Int.reduceEq, Int.reduceNe, di]
  have e1 : fbE x law t = 0 := firstNZ_zero.2 (by simp [h0, hw, ht0])
  have e2 : fastE x t = 0 := fstE_zero.2 ⟨h0, ht0⟩
  have z2 : fbW x law t = if keeps (opn x) t law = true then 12 else 0 := by unfold fbW keeps; rw [e1, if_pos rfl]; simp only [decide_eq_true_eq]
  have z3 : fastZ x t = fast (opn x) t := by unfold fastZ; rw [e2, if_pos rfl]
  have z4 : fastW x t = if fast (opn x) t = [] then 12 else 0 := by unfold fastW; rw [e2, if_pos rfl]
  have hasc := chkW_asc.1 hw
  have hln : law.length ≠ 0 := by omega
  have hgd : ((law.length : Int) - 1).toNat = law.length - 1 := by omega
  refine calls_of (r_CopyLine hx) ?_; simp only [vaE, res11, b11k2, b11k3, ↓reduceIte, reduceCtorEq, Nat.reduceEqDiff, Nat.reduceAdd, Nat.reduceMul, Nat.reduceSub, Nat.reduceLeDiff, Nat.reduceBEq, Int.reduceToNat, Int.reduceLE, Int.reduceLT, Int.reduceEq, Int.reduceNe, di]
  refine calls_of (w_FastestLaw' (t := t) hx) ?_; simp only [vaE, res11, b11k2, b11k3, ↓reduceIte, reduceCtorEq, Nat.reduceEqDiff, Nat.reduceAdd, Nat.reduceMul, Nat.reduceSub, Nat.reduceLeDiff, Nat.reduceBEq, Int.reduceToNat, Int.reduceLE, Int.reduceLT, Int.reduceEq, Int.reduceNe, di]
  refine calls_of (r_CopyLine hx) ?_; simp only [vaE, res11, b11k2, b11k3, ↓reduceIte, reduceCtorEq, Nat.reduceEqDiff, Nat.reduceAdd, Nat.reduceMul, Nat.reduceSub, Nat.reduceLeDiff, Nat.reduceBEq, Int.reduceToNat, Int.reduceLE, Int.reduceLT, Int.reduceEq, Int.reduceNe, di]
  refine calls_of (c_CopyInts (a := law) (by omega)) ?_; simp only [vaE, res11, b11k2, b11k3, ↓reduceIte, reduceCtorEq, Nat.reduceEqDiff, Nat.reduceAdd, Nat.reduceMul, Nat.reduceSub, Nat.reduceLeDiff, Nat.reduceBEq, Int.reduceToNat, Int.reduceLE, Int.reduceLT, Int.reduceEq, Int.reduceNe, di]
  refine calls_of (w_FirstBeyond' (t := t) hx hl2) ?_; simp only [vaE, res11, b11k2, b11k3, ↓reduceIte, reduceCtorEq, Nat.reduceEqDiff, Nat.reduceAdd, Nat.reduceMul, Nat.reduceSub, Nat.reduceLeDiff, Nat.reduceBEq, Int.reduceToNat, Int.reduceLE, Int.reduceLT, Int.reduceEq, Int.reduceNe, di]
  rw [z2, z3, z4]
  by_cases hk : keeps (opn x) t law = true
  · simp only [hk, vaE, ↓reduceIte, reduceCtorEq, Nat.reduceEqDiff, Nat.reduceAdd, Nat.reduceMul, Nat.reduceSub, Nat.reduceLeDiff, Nat.reduceBEq, Int.reduceToNat, Int.reduceLE, Int.reduceLT, Int.reduceEq, Int.reduceNe, di]
    rw [wrap64 (n := (law.length : Int) - 1) (by omega) (by omega)]
    refine ⟨by omega, by omega, ?_⟩
    rw [hgd]
    by_cases hfe : fast (opn x) t = []
    · have hno := fast_none hln hasc.2 hfe
      simp only [hfe, vaE, ↓reduceIte, reduceCtorEq, Nat.reduceEqDiff, Nat.reduceAdd, Nat.reduceMul, Nat.reduceSub, Nat.reduceLeDiff, Nat.reduceBEq, Int.reduceToNat, Int.reduceLE, Int.reduceLT, Int.reduceEq, Int.reduceNe, di]
      split
      · rename_i hlast
        rw [decide_eq_false (fun h => hno ⟨hk, hlast, h⟩)]
        rfl
      · first | trivial | rfl
    · obtain ⟨_, _, hbest⟩ := fast_some ht hfe
      simp only [hfe, vaE, ↓reduceIte, reduceCtorEq, Nat.reduceEqDiff, Nat.reduceAdd, Nat.reduceMul, Nat.reduceSub, Nat.reduceLeDiff, Nat.reduceBEq, Int.reduceToNat, Int.reduceLE, Int.reduceLT, Int.reduceEq, Int.reduceNe, di]
      split
      · rename_i hlast
        exact tail_WaveFastest hx hxo ht hfe (fun h => hbest law hln hasc.2 ⟨hk, hlast, of_decide_eq_true h⟩)
      · exact tail_WaveFastest hx hxo ht hfe (fun h => by cases h)
  · by_cases hfe : fast (opn x) t = []
    · simp only [hk, hfe, vaE, ↓reduceIte, reduceCtorEq, Nat.reduceEqDiff, Nat.reduceAdd, Nat.reduceMul, Nat.reduceSub, Nat.reduceLeDiff, Nat.reduceBEq, Int.reduceToNat, Int.reduceLE, Int.reduceLT, Int.reduceEq, Int.reduceNe, di]
    · simp only [hk, hfe, vaE, ↓reduceIte, reduceCtorEq, Nat.reduceEqDiff, Nat.reduceAdd, Nat.reduceMul, Nat.reduceSub, Nat.reduceLeDiff, Nat.reduceBEq, Int.reduceToNat, Int.reduceLE, Int.reduceLT, Int.reduceEq, Int.reduceNe, di]
      exact tail_WaveFastest hx hxo ht hfe (fun h => by cases h)
end Go.DI

