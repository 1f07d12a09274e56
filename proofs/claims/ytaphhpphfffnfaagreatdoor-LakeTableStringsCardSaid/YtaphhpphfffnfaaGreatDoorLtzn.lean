/- The statement LakeTableStrings: the string of a table, and the table with any string, or the errors, are as specified; valid ones are parsed again. No condition. The row. -/
import Derived.Test.YtaphhpphfffnfaaGreatDoorLtzm
set_option maxRecDepth 100000
namespace Go.Proofs.YtaphhpphfffnfaaGreatDoor
open Go.ChangeShapes Go.WideShapes Go.ChangeAt Go.RowKit Go.DI Go.DI.Lk

theorem lakeTableStrings_row : Rows.LakeTableStringsSaid :=
  OpenClaim.holds_of_wide 5 Tryz.f5 rfl rfl rfl rfl rfl rfl rfl ⟨rfl, rfl, rfl, rfl, rfl⟩ rfl rfl rfl rfl rfl (by kernel_rfl) Tryz.func5 lakeTableStrings_closed
    (of_decide_eq_true (by kernel_rfl)) (by unfold Func.isWrapper; first | (rw [if_pos (by decide +kernel)]; kernel_rfl) | (rw [if_neg (by decide +kernel)]; exact ⟨rfl, rfl⟩))
    (fun os started H enc _ => lakeTableStrings_lifted os started H enc)

end Go.Proofs.YtaphhpphfffnfaaGreatDoor

