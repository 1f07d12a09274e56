/- The statement LakeFlowStrings: the string of flows, and the flows with any string, or the errors, are as specified; valid ones are parsed again. No condition. -/
import Derived.Test.YtaphhpphfffnfaaGreatDoorLfzf
import Derived.Test.YtaphhpphfffnfaaGreatDoorLfzl
import Derived.Test.YtaphhpphfffnfaaGreatDoorCards
import Derived.SevenTiedAt
set_option maxRecDepth 100000
namespace Go.Proofs.YtaphhpphfffnfaaGreatDoor
open Go.ChangeShapes Go.WideShapes Go.ChangeAt Go.RowKit Go.DI Go.DI.Lk

theorem lakeFlowStrings_data (vs : List IV) (h : Typed Tryz.prog 8 Tryz.f6.params.toList vs) : Contract Tryz.prog 6 vs (.bool true) := by
  rw [Tryz.params6] at h
  obtain ⟨x1, b1, rfl, h1, x2, b2, rfl, h2, rfl⟩ := h
  obtain ⟨l, e1, hb⟩ := arg_flowsB (m := 5) h1
  obtain ⟨s, e2⟩ := arg_string (m := 7) h2
  rw [e1, e2]
  exact l_LakeFlowStrings hb

theorem lakeFlowStrings_lifted (os : Os) (started : os.Started) (H : Type) (enc : TypeId × Value → H) :
    ReturnsInHanded {} Tryz.checked os 6 .any (fun w args => (Rows.lakeFlowStringsSpec.pre enc Tryz.prog Tryz.f6 Rows.lakeFlowStringsRow.domain false w args ∧ laidMetH Tryz.prog seatLaid w) ∧ sizedMet enc Tryz.prog Tryz.f6 (OpenSpec.ofChange Rows.lakeFlowStringsSpec) false w args)
      (Rows.lakeFlowStringsSpec.post enc Tryz.prog Tryz.f6 false true false false) := by
  refine change_laid (C := Tryz.checked) (X := fun w _ => laidMetH Tryz.prog seatLaid w) (fun _ _ _ hh h => h.of_heap hh) Tryz.own started (by kernel_rfl) Tryz.func6
    (ChangeSpec.witness_shaped (enc := enc) (C := Tryz.checked) (os := os) (X := fun w _ => laidMetH Tryz.prog seatLaid w) false (World.laidAll Tryz.prog os seatLaid) #[.slice none 0 0, .string ⟨#[]⟩] 8 (World.laidAll_os _ _ _)
      (World.shaped_of_ZipB (by kernel_rfl) (by kernel_rfl)) (by kernel_rfl) (by kernel_rfl) (by kernel_rfl) (seat_met os _)) ?_
  intro W base args ds gs before hval hW hL hsh
  refine law_calls (m := 8) Tryz.laidOut (bt := 4) (by kernel_rfl) Tryz.underlying4 rfl (by kernel_rfl) ?_ lakeFlowStrings_data hval hW (seat_lay hsh hL)
  intro ds' hd
  rw [Tryz.params6] at hd
  match ds', hd with
  | [d1, d2], _ => exact ⟨rfl, rfl, rfl⟩

end Go.Proofs.YtaphhpphfffnfaaGreatDoor

