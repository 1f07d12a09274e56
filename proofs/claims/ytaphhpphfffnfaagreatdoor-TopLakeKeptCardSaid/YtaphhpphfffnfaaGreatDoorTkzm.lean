/- The statement TopLakeKept: a table and flows are written as strings and read again; a run of lakes that lose nothing keeps the water; its levels agree with the first volume, and a level that is too high contradicts one of them. No condition. The row. -/
import Derived.Test.YtaphhpphfffnfaaGreatDoorTkzl
set_option maxRecDepth 100000
namespace Go.Proofs.YtaphhpphfffnfaaGreatDoor
open Go.ChangeShapes Go.WideShapes Go.ChangeAt Go.RowKit Go.DI Go.DI.Lk
theorem topLakeKept_row:Rows.TopLakeKeptSaid :=
 OpenClaim.holds_of_wide 7 Tryz.f7 rfl rfl rfl rfl rfl rfl rfl ⟨rfl,rfl,rfl,rfl,rfl⟩ rfl rfl rfl rfl rfl (by kernel_rfl) Tryz.func7 topLakeKept_closed
  (of_decide_eq_true (by kernel_rfl)) (by unfold Func.isWrapper; first | (rw [if_pos (by decide +kernel)]; kernel_rfl) | (rw [if_neg (by decide +kernel)]; exact ⟨rfl,rfl⟩))
  (fun os started H enc _=>topLakeKept_lifted os started H enc)
end Go.Proofs.YtaphhpphfffnfaaGreatDoor

