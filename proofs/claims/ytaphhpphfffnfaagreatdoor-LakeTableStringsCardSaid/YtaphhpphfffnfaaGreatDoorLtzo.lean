/- The statement LakeTableStrings: the string of a table, and the table with any string, or the errors, are as specified; valid ones are parsed again. No condition. -/
import Derived.Test.YtaphhpphfffnfaaGreatDoorLtzn
set_option maxRecDepth 100000
namespace Go.Proofs.YtaphhpphfffnfaaGreatDoor
open Go.ChangeShapes Go.WideShapes Go.ChangeAt Go.RowKit Go.DI Go.DI.Lk

theorem lakeTableStrings_c1 : Rows.lakeTableStringsRow.wfByText (OpenSpec.ofChange Rows.lakeTableStringsSpec) = true := by kernel_rfl
theorem lakeTableStrings_c2 : Tryz.prog.mainIs = some (true, "b2968574a37c2f90b09f2739b22445e02d24d5f0e540d7c6275b209c1a9c9167".toList) := by kernel_rfl
theorem lakeTableStrings_c3 : Tryz.prog.funcNamed "guidevane/guidevanelaw01.LakeTableStrings" = some 5 := by kernel_rfl
theorem lakeTableStrings_c4 : true = Tryz.prog.looks [] := by kernel_rfl
theorem lakeTableStrings_c5 : (Tryz.f5.params.toList.all fun u => !Tryz.prog.wantsStandIn u) = true := by kernel_rfl
theorem lakeTableStrings_c6 : false = Rows.lakeTableStringsRow.goesBy Tryz.prog := by kernel_rfl
theorem lakeTableStrings_holds : Rows.LakeTableStringsCardSaid :=
  Claim7.holds_tied_plain_at .later [] [.data, .data, .data, .data, .sentinel, .sentinel, .pinned] true (true, "b2968574a37c2f90b09f2739b22445e02d24d5f0e540d7c6275b209c1a9c9167") true
    lakeTableStrings_row (fun _ h => by cases h) lakeTableStrings_c1 (fun _ h => by cases h) lakeTableStrings_row_tie rfl ⟨rfl, rfl⟩ lakeTableStrings_c2 rfl
    (fun f fn hf hfn => by
      obtain rfl : f = 5 := Option.some.inj (lakeTableStrings_c3.symm.trans hf) |>.symm
      obtain rfl : fn = Tryz.f5 := (Option.some.inj (Tryz.func5.symm.trans hfn)).symm
      exact ⟨lakeTableStrings_c4, fun j t ht => by
        have hm : t ∈ Tryz.f5.params.toList := by simpa using Array.mem_of_getElem? ht
        exact (show Tryz.prog.wantsStandIn t = false by simpa using List.all_eq_true.1 lakeTableStrings_c5 t hm)⟩)
    lakeTableStrings_c6

#print axioms lakeTableStrings_holds

end Go.Proofs.YtaphhpphfffnfaaGreatDoor

