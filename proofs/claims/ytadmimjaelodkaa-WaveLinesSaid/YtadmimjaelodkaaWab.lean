/- The statement WaveLines: which lines are valid, with an index, and whether a line is plain, are as specified, or the errors. No condition. -/
import Derived.Test.YtadmimjaelodkaaWaGl
import Derived.Test.YtadmimjaelodkaaWaa
set_option maxRecDepth 100000
namespace Go.Proofs.Ytadmimjaelodkaa
open Go.ChangeShapes Go.WideShapes Go.ChangeAt Go.RowKit Go.DI 

theorem waveLines_data (vs : List IV) (h : Typed Try.prog 8 Try.f9.params.toList vs) : Contract Try.prog 9 vs (.bool true) := by
  rw [Try.params9] at h
  obtain ⟨x1, b1, rfl, h1, rfl⟩ := h
  obtain ⟨x, e1⟩ := arg_line (m := 4) h1
  rw [e1]
  exact l_WaveLines

theorem waveLines_lifted (os : Os) (started : os.Started) (H : Type) (enc : TypeId × Value → H) :
    ReturnsInHanded {} Try.checked os 9 .any (Rows.waveLinesSpec.pre6 enc Try.prog Try.f9 Rows.waveLinesRow.domain false) (Rows.waveLinesSpec.post enc Try.prog Try.f9 false true false false) := by
  refine returnsInHanded_of_change (C := Try.checked) Try.own started (by kernel_rfl) Try.func9
    (ChangeSpec.witness6 (enc := enc) (C := Try.checked) false ⟨#[], #[.agg #[.slice none 0 0, .slice none 0 0]], []⟩ 8 (by kernel_rfl) (by kernel_rfl) (by kernel_rfl) (by kernel_rfl)) ?_
  intro W base args ds gs before hval hW _ _
  refine law_calls (m := 8) Try.laidOut (bt := 4) (by kernel_rfl) Try.underlying4 rfl (by kernel_rfl) ?_ waveLines_data hval hW
  intro ds' hd
  rw [Try.params9] at hd
  match ds', hd with
  | [d1], _ => exact ⟨rfl, rfl, rfl⟩

theorem waveLines_holds : Rows.WaveLinesSaid :=
  OpenClaim.holds_of_wide 9 Try.f9 rfl rfl rfl rfl rfl rfl rfl ⟨rfl, rfl, rfl, rfl, rfl⟩ rfl rfl rfl rfl rfl (by kernel_rfl) Try.func9 (by kernel_rfl)
    (of_decide_eq_true (by kernel_rfl)) (by unfold Func.isWrapper; first | (rw [if_pos (by decide +kernel)]; kernel_rfl) | (rw [if_neg (by decide +kernel)]; exact ⟨rfl, rfl⟩))
    (fun os started H enc _ => waveLines_lifted os started H enc)

#print axioms waveLines_holds

end Go.Proofs.Ytadmimjaelodkaa

