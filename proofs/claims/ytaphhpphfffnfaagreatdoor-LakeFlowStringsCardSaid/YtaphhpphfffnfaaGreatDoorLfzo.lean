/- The statement LakeFlowStrings: the string of flows, and the flows with any string, or the errors, are as specified; valid ones are parsed again. No condition. The row. -/
import Derived.Test.YtaphhpphfffnfaaGreatDoorLfzn
set_option maxRecDepth 100000
namespace Go.Proofs.YtaphhpphfffnfaaGreatDoor
open Go.ChangeShapes Go.WideShapes Go.ChangeAt Go.RowKit Go.DI Go.DI.Lk

theorem lakeFlowStrings_row : Rows.LakeFlowStringsSaid :=
  OpenClaim.holds_of_wide 6 Tryz.f6 rfl rfl rfl rfl rfl rfl rfl ⟨rfl, rfl, rfl, rfl, rfl⟩ rfl rfl rfl rfl rfl (by kernel_rfl) Tryz.func6 lakeFlowStrings_closed
    (of_decide_eq_true (by kernel_rfl)) (by unfold Func.isWrapper; first | (rw [if_pos (by decide +kernel)]; kernel_rfl) | (rw [if_neg (by decide +kernel)]; exact ⟨rfl, rfl⟩))
    (fun os started H enc _ => lakeFlowStrings_lifted os started H enc)

end Go.Proofs.YtaphhpphfffnfaaGreatDoor

