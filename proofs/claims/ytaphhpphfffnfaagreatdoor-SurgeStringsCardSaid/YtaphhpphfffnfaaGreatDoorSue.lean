/- The statement SurgeStrings: the string of rules, and the rules of any string, are as specified, or the errors; valid ones are parsed again. No condition. -/
import Derived.Test.YtaphhpphfffnfaaGreatDoorSud
set_option maxRecDepth 100000
namespace Go.Proofs.YtaphhpphfffnfaaGreatDoor
open Go.ChangeShapes Go.WideShapes Go.ChangeAt Go.RowKit Go.DI Go.DI.Sg

theorem surgeStrings_c1 : Rows.surgeStringsRow.wfByText (OpenSpec.ofChange Rows.surgeStringsSpec) = true := by kernel_rfl
theorem surgeStrings_c2 : Tryz.prog.mainIs = some (true, "b2968574a37c2f90b09f2739b22445e02d24d5f0e540d7c6275b209c1a9c9167".toList) := by kernel_rfl
theorem surgeStrings_c3 : Tryz.prog.funcNamed "guidevane/guidevanelaw04.SurgeStrings" = some 4 := by kernel_rfl
theorem surgeStrings_c4 : true = Tryz.prog.looks [] := by kernel_rfl
theorem surgeStrings_c5 : (Tryz.f4.params.toList.all fun u => !Tryz.prog.wantsStandIn u) = true := by kernel_rfl
theorem surgeStrings_c6 : false = Rows.surgeStringsRow.goesBy Tryz.prog := by kernel_rfl
theorem surgeStrings_holds : Rows.SurgeStringsCardSaid :=
  Claim7.holds_tied_plain_at .later [] [.data, .data, .data, .data, .sentinel, .sentinel, .pinned] true (true, "b2968574a37c2f90b09f2739b22445e02d24d5f0e540d7c6275b209c1a9c9167") true
    surgeStrings_row (fun _ h => by cases h) surgeStrings_c1 (fun _ h => by cases h) surgeStrings_row_tie rfl ⟨rfl, rfl⟩ surgeStrings_c2 rfl
    (fun f fn hf hfn => by
      obtain rfl : f = 4 := Option.some.inj (surgeStrings_c3.symm.trans hf) |>.symm
      obtain rfl : fn = Tryz.f4 := (Option.some.inj (Tryz.func4.symm.trans hfn)).symm
      exact ⟨surgeStrings_c4, fun j t ht => by
        have hm : t ∈ Tryz.f4.params.toList := by simpa using Array.mem_of_getElem? ht
        exact (show Tryz.prog.wantsStandIn t = false by simpa using List.all_eq_true.1 surgeStrings_c5 t hm)⟩)
    surgeStrings_c6

#print axioms surgeStrings_holds

end Go.Proofs.YtaphhpphfffnfaaGreatDoor

