/- The statement WaveFastest, as a contract. No condition. -/
import Derived.Test.YtadmimjaelodkaaWhn
set_option linter.unusedSimpArgs false
set_option maxRecDepth 100000
namespace Go.DI
open Go.Proofs Go.RowKit

/-- Does a law ascend, from a number on? -/
def Asc : Int → List Int → Prop
  | _, [] => True
  | l, n :: r => ((0 ≤ n ∧ n ≤ 1000) ∧ l ≤ n) ∧ Asc n r
theorem fstE_asc {n l : Int} : fstE (if 0 ≤ n ∧ n ≤ 1000 then 0 else 2) (if l ≤ n then 0 else 9) = 0 ↔ (0 ≤ n ∧ n ≤ 1000) ∧ l ≤ n := by
  rw [fstE_zero, ite_zero (by decide), ite_zero (by decide)]
theorem lawScan_asc : ∀ (r : List Int) (i l : Int), (lawScan i l r).2 = 0 ↔ Asc l r
  | [], i, l => by simp [lawScan, Asc]
  | n :: r, i, l => by
    rw [lawScan_cons]
    unfold Asc
    by_cases h : (0 ≤ n ∧ n ≤ 1000) ∧ l ≤ n
    · rw [if_pos (fstE_asc.2 h), lawScan_asc r]
      exact ⟨fun k => ⟨h, k⟩, fun k => k.2⟩
    · rw [if_neg (fun k => h (fstE_asc.1 k))]
      exact ⟨fun k => absurd (fstE_asc.1 k) h, fun k => absurd k.1 h⟩
theorem chkW_asc {law : List Int} : (chkW law).2 = 0 ↔ law.length ≤ 60 ∧ Asc 0 law := by
  unfold chkW
  split
  · rename_i h
    refine ⟨fun k => ?_, fun k => absurd k.1 (by omega)⟩
    cases k
  · rename_i h
    rw [lawScan_asc]
    exact ⟨fun k => ⟨by omega, k⟩, fun k => k.2⟩
end Go.DI

