/- The statement LakeFlowStrings: the string of flows, and the flows with any string, or the errors, are as specified; valid ones are parsed again. No condition. -/
import Derived.Test.YtaphhpphfffnfaaGreatDoorLfzo
set_option maxRecDepth 100000
namespace Go.Proofs.YtaphhpphfffnfaaGreatDoor
open Go.ChangeShapes Go.WideShapes Go.ChangeAt Go.RowKit Go.DI Go.DI.Lk

theorem lakeFlowStrings_c1 : Rows.lakeFlowStringsRow.wfByText (OpenSpec.ofChange Rows.lakeFlowStringsSpec) = true := by kernel_rfl
theorem lakeFlowStrings_c2 : Tryz.prog.mainIs = some (true, "b2968574a37c2f90b09f2739b22445e02d24d5f0e540d7c6275b209c1a9c9167".toList) := by kernel_rfl
theorem lakeFlowStrings_c3 : Tryz.prog.funcNamed "guidevane/guidevanelaw01.LakeFlowStrings" = some 6 := by kernel_rfl
theorem lakeFlowStrings_c4 : true = Tryz.prog.looks [] := by kernel_rfl
theorem lakeFlowStrings_c5 : (Tryz.f6.params.toList.all fun u => !Tryz.prog.wantsStandIn u) = true := by kernel_rfl
theorem lakeFlowStrings_c6 : false = Rows.lakeFlowStringsRow.goesBy Tryz.prog := by kernel_rfl
theorem lakeFlowStrings_holds : Rows.LakeFlowStringsCardSaid :=
  Claim7.holds_tied_plain_at .later [] [.data, .data, .data, .data, .sentinel, .sentinel, .pinned] true (true, "b2968574a37c2f90b09f2739b22445e02d24d5f0e540d7c6275b209c1a9c9167") true
    lakeFlowStrings_row (fun _ h => by cases h) lakeFlowStrings_c1 (fun _ h => by cases h) lakeFlowStrings_row_tie rfl ⟨rfl, rfl⟩ lakeFlowStrings_c2 rfl
    (fun f fn hf hfn => by
      obtain rfl : f = 6 := Option.some.inj (lakeFlowStrings_c3.symm.trans hf) |>.symm
      obtain rfl : fn = Tryz.f6 := (Option.some.inj (Tryz.func6.symm.trans hfn)).symm
      exact ⟨lakeFlowStrings_c4, fun j t ht => by
        have hm : t ∈ Tryz.f6.params.toList := by simpa using Array.mem_of_getElem? ht
        exact (show Tryz.prog.wantsStandIn t = false by simpa using List.all_eq_true.1 lakeFlowStrings_c5 t hm)⟩)
    lakeFlowStrings_c6

#print axioms lakeFlowStrings_holds

end Go.Proofs.YtaphhpphfffnfaaGreatDoor

