/- The statement WaveFastest, as a contract. No condition. -/
import Derived.Test.YtadmimjaelodkaaWin
set_option linter.unusedSimpArgs false
set_option maxRecDepth 100000
namespace Go.DI
open Go.Proofs Go.RowKit

/-- Does a law ascend, from a number on? -/
def Asc : Int → List Int → Prop
  | _, [] => True
  | l, n :: r => ((0 ≤ n ∧ n ≤ 1000) ∧ l ≤ n) ∧ Asc n r
theorem fstE_asc {n l : Int} : fstE (if 0 ≤ n ∧ n ≤ 1000 then 0 else 2) (if l ≤ n then 0 else 9) = 0 ↔ (0 ≤ n ∧ n ≤ 1000) ∧ l ≤ n := by
  rw [fstE_zero, ite_zero (by decide), ite_zero (by decide)]
theorem lawScan_asc : ∀ (r : List Int) (i l : Int), (lawScan i l r).2 = 0 ↔ Asc l r
  | [], i, l => by simp [lawScan, Asc]
  | n :: r, i, l => by
    rw [lawScan_cons]
    unfold Asc
    by_cases h : (0 ≤ n ∧ n ≤ 1000) ∧ l ≤ n
    · rw [if_pos (fstE_asc.2 h), lawScan_asc r]
      exact ⟨fun k => ⟨h, k⟩, fun k => k.2⟩
    · rw [if_neg (fun k => h (fstE_asc.1 k))]
      exact ⟨fun k => absurd (fstE_asc.1 k) h, fun k => absurd k.1 h⟩
theorem chkW_asc {law : List Int} : (chkW law).2 = 0 ↔ law.length ≤ 60 ∧ Asc 0 law := by
  unfold chkW
  split
  · rename_i h
    refine ⟨fun k => ?_, fun k => absurd k.1 (by omega)⟩
    cases k
  · rename_i h
    rw [lawScan_asc]
    exact ⟨fun k => ⟨by omega, k⟩, fun k => k.2⟩
theorem asc_le : ∀ {l : List Int} {a : Int} {j : Nat}, Asc a l → j < l.length → a ≤ l.getD j 0
  | n :: r, a, 0, h, _ => h.1.2
  | n :: r, a, j + 1, h, hj => by
    have := asc_le (j := j) h.2 (by simpa using hj)
    rw [List.getD_cons_succ]
    exact Int.le_trans h.1.2 this
theorem refL_asc {g : Int} (hg : 0 ≤ g ∧ g ≤ 1000) : ∀ (m : Nat) (a : Int), 0 ≤ a → a ≤ g → ∀ l ∈ refL g m a, Asc a l ∧ l.getD m 0 = g
  | 0, a, h0, h1, l, h => by
    simp [refL] at h
    subst h
    exact ⟨⟨⟨hg, h1⟩, trivial⟩, rfl⟩
  | m + 1, a, h0, h1, l, h => by
    unfold refL at h
    obtain ⟨i, hi, h⟩ := List.mem_flatMap.1 h
    obtain ⟨l', h', rfl⟩ := List.mem_map.1 h
    have hi := List.mem_range.1 hi
    have := refL_asc hg m (a + i) (by omega) (by omega) l' h'
    exact ⟨⟨⟨⟨by omega, by omega⟩, by omega⟩, this.1⟩, by rw [List.getD_cons_succ]; exact this.2⟩
theorem asc_refL {g : Int} : ∀ (m : Nat) (a : Int) (l : List Int), l.length = m + 1 → Asc a l → l.getD m 0 = g → l ∈ refL g m a
  | 0, a, [n], _, h, hg => by
    have : n = g := hg
    subst this
    simp [refL]
  | m + 1, a, n :: r, hl, h, hg => by
    rw [List.getD_cons_succ] at hg
    have hl : r.length = m + 1 := by simpa using hl
    have hle := asc_le (j := m) h.2 (by omega)
    have han := h.1.2
    unfold refL
    refine List.mem_flatMap.2 ⟨(n - a).toNat, List.mem_range.2 (by omega), List.mem_map.2 ⟨r, ?_, ?_⟩⟩
    · rw [show a + ((n - a).toNat : Int) = n by omega]
      exact asc_refL m n r hl h.2 hg
    · rw [show a + ((n - a).toNat : Int) = n by omega]
theorem fastL_spec {x : Ow} {t : Tk} : ∀ (k c : Nat), (fastL x t c k = [] ∧ ∀ m, c ≤ m → m < c + k → ∀ l ∈ refL t.cl m 0, keeps x t l = false) ∨
    ∃ m, c ≤ m ∧ m < c + k ∧ fastL x t c k ∈ refL t.cl m 0 ∧ keeps x t (fastL x t c k) = true ∧ ∀ m', c ≤ m' → m' < m → ∀ l ∈ refL t.cl m' 0, keeps x t l = false
  | 0, c => .inl ⟨rfl, fun m h1 h2 => absurd h2 (by omega)⟩
  | k + 1, c => by
    unfold fastL
    rw [lawsL_nil]
    split
    · rename_i l h
      exact .inr ⟨c, Nat.le_refl _, by omega, List.mem_of_find?_eq_some h, List.find?_some h, fun m' h1 h2 => absurd h2 (by omega)⟩
    · rename_i h
      have hn : ∀ l ∈ refL t.cl c 0, keeps x t l = false := fun l hl => by
        have := List.find?_eq_none.1 h l hl
        simpa using this
      have ext : ∀ n, (∀ m', c + 1 ≤ m' → m' < n → ∀ l ∈ refL t.cl m' 0, keeps x t l = false) → ∀ m', c ≤ m' → m' < n → ∀ l ∈ refL t.cl m' 0, keeps x t l = false := by
        intro n k m' h1 h2
        by_cases e : m' = c
        · subst e; exact hn
        · exact k m' (by omega) h2
      rcases fastL_spec (x := x) (t := t) k (c + 1) with h2 | ⟨m, h2, h3, h4, h5, h6⟩
      · exact .inl ⟨h2.1, fun m a b => ext (c + (k + 1)) (fun m' a b => h2.2 m' a (by omega)) m a b⟩
      · exact .inr ⟨m, by omega, by omega, h4, h5, ext m h6⟩
/-- Is a law one that a task allows? -/
def okLaw (x : Ow) (t : Tk) (law : List Int) : Prop := keeps x t law = true ∧ law.getD (law.length - 1) 0 = t.cl ∧ (law.length : Int) ≤ t.mo
theorem fast_none {x : Ow} {t : Tk} {law : List Int} (h0 : law.length ≠ 0) (ha : Asc 0 law) (hf : fast x t = []) : ¬ okLaw x t law := by
  rintro ⟨h1, h2, h3⟩
  have hs := fastL_spec (x := x) (t := t) t.mo.toNat 0
  unfold fast at hf
  rcases hs with ⟨_, k⟩ | ⟨m, _, _, k, _⟩
  · have := k (law.length - 1) (Nat.zero_le _) (by omega) law (asc_refL _ _ _ (by omega) ha h2)
    rw [this] at h1; cases h1
  · rw [hf] at k
    have := refL_elem m 0 _ k
    cases this
theorem fast_some {x : Ow} {t : Tk} (ht : TkOk t) (hf : fast x t ≠ []) : (okLaw x t (fast x t) ∧ 1 ≤ (fast x t).length) ∧ (chkW (fast x t)).2 = 0 ∧ ∀ law : List Int, law.length ≠ 0 → Asc 0 law → okLaw x t law → (fast x t).length ≤ law.length := by
  have hcl := ht.cl
  have hmo := ht.mo
  have hs := fastL_spec (x := x) (t := t) t.mo.toNat 0
  unfold fast at hf ⊢
  rcases hs with ⟨k, _⟩ | ⟨m, _, k1, k2, k3, k4⟩
  · exact absurd k hf
  have hel := refL_elem m 0 _ k2
  have has := refL_asc (g := t.cl) (by omega) m 0 (by omega) (by omega) _ k2
  refine ⟨⟨⟨k3, ?_, ?_⟩, ?_⟩, chkW_asc.2 ⟨by omega, has.1⟩, ?_⟩
  · rw [hel]; exact has.2
  · omega
  · omega
  · rintro law h0 ha ⟨h1, h2, h3⟩
    refine Nat.le_of_not_lt fun h => ?_
    have := k4 (law.length - 1) (Nat.zero_le _) (by omega) law (asc_refL _ _ _ (by omega) ha h2)
    rw [this] at h1; cases h1

end Go.DI

