/- The statement WaveStates: which states are valid, with an index, the pressures, the flows and the energy, are as specified, or the errors. No condition. -/
import Derived.Test.YtadmimjaelodkaaWfGl
import Derived.Test.YtadmimjaelodkaaWfe
set_option maxRecDepth 100000
namespace Go.Proofs.Ytadmimjaelodkaa
open Go.ChangeShapes Go.WideShapes Go.ChangeAt Go.RowKit Go.DI 

theorem waveStates_data (vs : List IV) (h : Typed Try.prog 8 Try.f14.params.toList vs) : Contract Try.prog 14 vs (.bool true) := by
  rw [Try.params14] at h
  obtain ⟨x1, b1, rfl, h1, x2, b2, rfl, h2, rfl⟩ := h
  obtain ⟨x, e1⟩ := arg_line (m := 4) h1
  obtain ⟨s, e2⟩ := arg_wstate (m := 5) h2
  rw [e1, e2]
  exact l_WaveStates

theorem waveStates_lifted (os : Os) (started : os.Started) (H : Type) (enc : TypeId × Value → H) :
    ReturnsInHanded {} Try.checked os 14 .any (Rows.waveStatesSpec.pre6 enc Try.prog Try.f14 Rows.waveStatesRow.domain false) (Rows.waveStatesSpec.post enc Try.prog Try.f14 false true false false) := by
  refine returnsInHanded_of_change (C := Try.checked) Try.own started (by kernel_rfl) Try.func14
    (ChangeSpec.witness6 (enc := enc) (C := Try.checked) false ⟨#[], #[.agg #[.slice none 0 0, .slice none 0 0], .agg #[.slice none 0 0, .slice none 0 0, .slice none 0 0]], []⟩ 8 (by kernel_rfl) (by kernel_rfl) (by kernel_rfl) (by kernel_rfl)) ?_
  intro W base args ds gs before hval hW _ _
  refine law_calls (m := 8) Try.laidOut (bt := 4) (by kernel_rfl) Try.underlying4 rfl (by kernel_rfl) ?_ waveStates_data hval hW
  intro ds' hd
  rw [Try.params14] at hd
  match ds', hd with
  | [d1, d2], _ => exact ⟨rfl, rfl, rfl⟩

theorem waveStates_holds : Rows.WaveStatesSaid :=
  OpenClaim.holds_of_wide 14 Try.f14 rfl rfl rfl rfl rfl rfl rfl ⟨rfl, rfl, rfl, rfl, rfl⟩ rfl rfl rfl rfl rfl (by kernel_rfl) Try.func14 (by kernel_rfl)
    (of_decide_eq_true (by kernel_rfl)) (by unfold Func.isWrapper; first | (rw [if_pos (by decide +kernel)]; kernel_rfl) | (rw [if_neg (by decide +kernel)]; exact ⟨rfl, rfl⟩))
    (fun os started H enc _ => waveStates_lifted os started H enc)

#print axioms waveStates_holds

end Go.Proofs.Ytadmimjaelodkaa

