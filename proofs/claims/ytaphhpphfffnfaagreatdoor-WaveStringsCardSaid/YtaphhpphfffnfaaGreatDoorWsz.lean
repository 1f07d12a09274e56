/- The statement WaveStrings: the string of a line, and the line of any string, are as specified, or the errors; valid ones are parsed again. No condition. -/
import Derived.Test.YtaphhpphfffnfaaGreatDoorWsy
set_option maxRecDepth 100000
namespace Go.Proofs.YtaphhpphfffnfaaGreatDoor
open Go.ChangeShapes Go.WideShapes Go.ChangeAt Go.RowKit Go.DI

theorem waveStrings_c1 : Rows.waveStringsRow.wfByText (OpenSpec.ofChange Rows.waveStringsSpec) = true := by kernel_rfl
theorem waveStrings_c2 : Tryz.prog.mainIs = some (true, "b2968574a37c2f90b09f2739b22445e02d24d5f0e540d7c6275b209c1a9c9167".toList) := by kernel_rfl
theorem waveStrings_c3 : Tryz.prog.funcNamed "guidevane/guidevanelaw03.WaveStrings" = some 3 := by kernel_rfl
theorem waveStrings_c4 : true = Tryz.prog.looks [] := by kernel_rfl
theorem waveStrings_c5 : (Tryz.f3.params.toList.all fun u => !Tryz.prog.wantsStandIn u) = true := by kernel_rfl
theorem waveStrings_c6 : false = Rows.waveStringsRow.goesBy Tryz.prog := by kernel_rfl
theorem waveStrings_holds : Rows.WaveStringsCardSaid :=
  Claim7.holds_tied_plain_at .later [] [.data, .data, .data, .data, .sentinel, .sentinel, .pinned] true (true, "b2968574a37c2f90b09f2739b22445e02d24d5f0e540d7c6275b209c1a9c9167") true
    waveStrings_row (fun _ h => by cases h) waveStrings_c1 (fun _ h => by cases h) waveStrings_row_tie rfl ⟨rfl, rfl⟩ waveStrings_c2 rfl
    (fun f fn hf hfn => by
      obtain rfl : f = 3 := Option.some.inj (waveStrings_c3.symm.trans hf) |>.symm
      obtain rfl : fn = Tryz.f3 := (Option.some.inj (Tryz.func3.symm.trans hfn)).symm
      exact ⟨waveStrings_c4, fun j t ht => by
        have hm : t ∈ Tryz.f3.params.toList := by simpa using Array.mem_of_getElem? ht
        exact (show Tryz.prog.wantsStandIn t = false by simpa using List.all_eq_true.1 waveStrings_c5 t hm)⟩)
    waveStrings_c6

#print axioms waveStrings_holds

end Go.Proofs.YtaphhpphfffnfaaGreatDoor

