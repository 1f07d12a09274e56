/- The statement TopSurgeWorst: rules are written as a string and read again; the bound of a cover, the worst surge within its stated gap, its witness and the shortest wait agree with a real day of the surge tank. No condition. The row. -/
import Derived.Test.YtaphhpphfffnfaaGreatDoorTwzh
set_option maxRecDepth 100000
namespace Go.Proofs.YtaphhpphfffnfaaGreatDoor
open Go.ChangeShapes Go.WideShapes Go.ChangeAt Go.RowKit Go.DI Go.DI.Sg
theorem topSurgeWorst_row:Rows.TopSurgeWorstSaid :=
 OpenClaim.holds_of_wide 9 Tryz.f9 rfl rfl rfl rfl rfl rfl rfl ⟨rfl,rfl,rfl,rfl,rfl⟩ rfl rfl rfl rfl rfl (by kernel_rfl) Tryz.func9 topSurgeWorst_closed
  (of_decide_eq_true (by kernel_rfl)) (by unfold Func.isWrapper; first | (rw [if_pos (by decide +kernel)]; kernel_rfl) | (rw [if_neg (by decide +kernel)]; exact ⟨rfl,rfl⟩))
  (fun os started H enc _=>topSurgeWorst_lifted os started H enc)
end Go.Proofs.YtaphhpphfffnfaaGreatDoor

