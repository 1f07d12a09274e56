/- The statement WaveStrings: the string of a line, and the line of any string, are as specified, or the errors; valid ones are parsed again. No condition. The row. -/
import Derived.Test.YtaphhpphfffnfaaGreatDoorWsx
set_option maxRecDepth 100000
namespace Go.Proofs.YtaphhpphfffnfaaGreatDoor
open Go.ChangeShapes Go.WideShapes Go.ChangeAt Go.RowKit Go.DI

theorem waveStrings_row : Rows.WaveStringsSaid :=
  OpenClaim.holds_of_wide 3 Tryz.f3 rfl rfl rfl rfl rfl rfl rfl ⟨rfl, rfl, rfl, rfl, rfl⟩ rfl rfl rfl rfl rfl (by kernel_rfl) Tryz.func3 waveStrings_closed
    (of_decide_eq_true (by kernel_rfl)) (by unfold Func.isWrapper; first | (rw [if_pos (by decide +kernel)]; kernel_rfl) | (rw [if_neg (by decide +kernel)]; exact ⟨rfl, rfl⟩))
    (fun os started H enc _ => waveStrings_lifted os started H enc)

end Go.Proofs.YtaphhpphfffnfaaGreatDoor

