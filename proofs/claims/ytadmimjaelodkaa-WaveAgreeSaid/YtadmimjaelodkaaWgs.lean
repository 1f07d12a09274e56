/- Law: the steady oscillation of a line, and the state and the closing at a tick of any oscillation. No condition. -/
import Derived.Test.YtadmimjaelodkaaWgr
set_option linter.unusedSimpArgs false
set_option maxRecDepth 100000
namespace Go.DI
open Go.Proofs Go.RowKit

theorem few_osZ {x : Ln} {h : Int} {g : Ga} : FewG (osZ x h g) := by
 unfold osZ
 split
 ·rename_i h0
  have hm : matE x h = 0 := by unfold osE at h0; rw [fstE_zero] at h0; exact h0.1
  have hx := (matE_zero.1 hm).1
  have how := opn_ok hx
  have e1 := fwA_len (h := h) (f := (2 * g.1, 2 * g.2)) how (opn x).pp.length (Nat.le_refl _)
  have e2 := bwA_len (h := h) (f := (2 * g.1, 2 * g.2)) how (opn x).pp.length (Nat.le_refl _)
  have e3 := leA_len (x := opn x) (h := h) (f := (2 * g.1, 2 * g.2)) (opn x).ar.length
  have e4 := cells_le how (opn x).pp.length
  have e5 := how.ars; have e6 := how.len
  exact ⟨by show (fwA _ _ _ _).length ≤ _; omega, by show (bwA _ _ _ _).length ≤ _; omega, by show (leA _ _ _ _).length ≤ _; omega⟩
 ·exact ⟨by decide, by decide, by decide⟩
end Go.DI

