/- The statement TopWavesAgree: a line is written as a string and read again; in its steady oscillation at a quarter the real pressure and flow at the valve, which the grid reaches tick by tick, have amplitudes whose quotient is the impedance; at each tick the water that the valve takes is what its closing leaves. No condition. The row. -/
import Derived.Test.YtaphhpphfffnfaaGreatDoorTazl
set_option maxRecDepth 100000
namespace Go.Proofs.YtaphhpphfffnfaaGreatDoor
open Go.ChangeShapes Go.WideShapes Go.ChangeAt Go.RowKit Go.DI
theorem topWavesAgree_row:Rows.TopWavesAgreeSaid :=
 OpenClaim.holds_of_wide 8 Tryz.f8 rfl rfl rfl rfl rfl rfl rfl ⟨rfl,rfl,rfl,rfl,rfl⟩ rfl rfl rfl rfl rfl (by kernel_rfl) Tryz.func8 topWavesAgree_closed
  (of_decide_eq_true (by kernel_rfl)) (by unfold Func.isWrapper; first | (rw [if_pos (by decide +kernel)]; kernel_rfl) | (rw [if_neg (by decide +kernel)]; exact ⟨rfl,rfl⟩))
  (fun os started H enc _=>topWavesAgree_lifted os started H enc)
end Go.Proofs.YtaphhpphfffnfaaGreatDoor

