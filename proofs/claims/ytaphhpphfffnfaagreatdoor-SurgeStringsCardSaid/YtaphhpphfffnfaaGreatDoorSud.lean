/- The statement SurgeStrings: the string of rules, and the rules of any string, are as specified, or the errors; valid ones are parsed again. No condition. The row. -/
import Derived.Test.YtaphhpphfffnfaaGreatDoorSuc
set_option maxRecDepth 100000
namespace Go.Proofs.YtaphhpphfffnfaaGreatDoor
open Go.ChangeShapes Go.WideShapes Go.ChangeAt Go.RowKit Go.DI Go.DI.Sg

theorem surgeStrings_row : Rows.SurgeStringsSaid :=
  OpenClaim.holds_of_wide 4 Tryz.f4 rfl rfl rfl rfl rfl rfl rfl ⟨rfl, rfl, rfl, rfl, rfl⟩ rfl rfl rfl rfl rfl (by kernel_rfl) Tryz.func4 surgeStrings_closed
    (of_decide_eq_true (by kernel_rfl)) (by unfold Func.isWrapper; first | (rw [if_pos (by decide +kernel)]; kernel_rfl) | (rw [if_neg (by decide +kernel)]; exact ⟨rfl, rfl⟩))
    (fun os started H enc _ => surgeStrings_lifted os started H enc)

end Go.Proofs.YtaphhpphfffnfaaGreatDoor

