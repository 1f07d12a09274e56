/- The statement WaveStrings: the string of a line, and the line of any string, are as specified, or the errors; valid ones are parsed again. No condition. -/
import Derived.Test.YtaphhpphfffnfaaGreatDoorWsu
import Derived.Test.YtaphhpphfffnfaaGreatDoorWsv
import Derived.Test.YtaphhpphfffnfaaGreatDoorCards
import Derived.SevenTiedAt
set_option maxRecDepth 100000
namespace Go.Proofs.YtaphhpphfffnfaaGreatDoor
open Go.ChangeShapes Go.WideShapes Go.ChangeAt Go.RowKit Go.DI

theorem waveStrings_data (vs : List IV) (h : Typed Tryz.prog 8 Tryz.f3.params.toList vs) : Contract Tryz.prog 3 vs (.bool true) := by
  rw [Tryz.params3] at h
  obtain ⟨x1, b1, rfl, h1, x2, b2, rfl, h2, rfl⟩ := h
  obtain ⟨x, e1, hb⟩ := arg_lineB (m := 4) h1
  obtain ⟨s, e2⟩ := arg_string (m := 7) h2
  rw [e1, e2]
  exact l_WaveStrings hb

theorem waveStrings_lifted (os : Os) (started : os.Started) (H : Type) (enc : TypeId × Value → H) :
    ReturnsInHanded {} Tryz.checked os 3 .any (fun w args => (Rows.waveStringsSpec.pre enc Tryz.prog Tryz.f3 Rows.waveStringsRow.domain false w args ∧ laidMetH Tryz.prog seatLaid w) ∧ sizedMet enc Tryz.prog Tryz.f3 (OpenSpec.ofChange Rows.waveStringsSpec) false w args)
      (Rows.waveStringsSpec.post enc Tryz.prog Tryz.f3 false true false false) := by
  refine change_laid (C := Tryz.checked) (X := fun w _ => laidMetH Tryz.prog seatLaid w) (fun _ _ _ hh h => h.of_heap hh) Tryz.own started (by kernel_rfl) Tryz.func3
    (ChangeSpec.witness_shaped (enc := enc) (C := Tryz.checked) (os := os) (X := fun w _ => laidMetH Tryz.prog seatLaid w) false (World.laidAll Tryz.prog os seatLaid) #[.agg #[.slice none 0 0, .slice none 0 0], .string ⟨#[]⟩] 8 (World.laidAll_os _ _ _)
      (World.shaped_of_ZipB (by kernel_rfl) (by kernel_rfl)) (by kernel_rfl) (by kernel_rfl) (by kernel_rfl) (seat_met os _)) ?_
  intro W base args ds gs before hval hW hL hsh
  refine law_calls (m := 8) Tryz.laidOut (bt := 4) (by kernel_rfl) Tryz.underlying4 rfl (by kernel_rfl) ?_ waveStrings_data hval hW (seat_lay hsh hL)
  intro ds' hd
  rw [Tryz.params3] at hd
  match ds', hd with
  | [d1, d2], _ => exact ⟨rfl, rfl, rfl⟩

end Go.Proofs.YtaphhpphfffnfaaGreatDoor

