/- The statement WaveSums: on a plain line the state after ticks of the sum of two states, with the sums of both closings, is the sum of both states after them. No condition. -/
import Derived.Test.YtadmimjaelodkaaSmr
import Derived.Test.YtadmimjaelodkaaSms
set_option maxRecDepth 100000
namespace Go.Proofs.Ytadmimjaelodkaa
open Go.ChangeShapes Go.WideShapes Go.ChangeAt Go.RowKit Go.DI 

theorem waveSums_data (vs : List IV) (h : Typed Try.prog 8 Try.f4.params.toList vs) : Contract Try.prog 4 vs (.bool true) := by
  rw [Try.params4] at h
  obtain ⟨x1, b1, rfl, h1, x2, b2, rfl, h2, x3, b3, rfl, h3, rfl⟩ := h
  obtain ⟨x, e1⟩ := arg_line (m := 4) h1
  obtain ⟨s, u, e2⟩ := arg_wtwo (m := 4) h2
  obtain ⟨c, d, e3⟩ := arg_itwo (m := 5) h3
  rw [e1, e2, e3]
  exact l_WaveSums

theorem waveSums_lifted (os : Os) (started : os.Started) (H : Type) (enc : TypeId × Value → H) :
    ReturnsInHanded {} Try.checked os 4 .any (Rows.waveSumsSpec.pre6 enc Try.prog Try.f4 Rows.waveSumsRow.domain false) (Rows.waveSumsSpec.post enc Try.prog Try.f4 false true false false) := by
  refine returnsInHanded_of_change (C := Try.checked) Try.own started (by kernel_rfl) Try.func4
    (ChangeSpec.witness6 (enc := enc) (C := Try.checked) false ⟨#[], #[.agg #[.slice none 0 0, .slice none 0 0], .agg #[.slice none 0 0, .slice none 0 0, .slice none 0 0, .slice none 0 0, .slice none 0 0, .slice none 0 0], .agg #[.slice none 0 0, .slice none 0 0]], []⟩ 8 (by kernel_rfl) (by kernel_rfl) (by kernel_rfl) (by kernel_rfl)) ?_
  intro W base args ds gs before hval hW _ _
  refine law_calls (m := 8) Try.laidOut (bt := 4) (by kernel_rfl) Try.underlying4 rfl (by kernel_rfl) ?_ waveSums_data hval hW
  intro ds' hd
  rw [Try.params4] at hd
  match ds', hd with
  | [d1, d2, d3], _ => exact ⟨rfl, rfl, rfl⟩

theorem waveSums_holds : Rows.WaveSumsSaid :=
  OpenClaim.holds_of_wide 4 Try.f4 rfl rfl rfl rfl rfl rfl rfl ⟨rfl, rfl, rfl, rfl, rfl⟩ rfl rfl rfl rfl rfl (by kernel_rfl) Try.func4 (by kernel_rfl)
    (of_decide_eq_true (by kernel_rfl)) (by unfold Func.isWrapper; first | (rw [if_pos (by decide +kernel)]; kernel_rfl) | (rw [if_neg (by decide +kernel)]; exact ⟨rfl, rfl⟩))
    (fun os started H enc _ => waveSums_lifted os started H enc)

#print axioms waveSums_holds

end Go.Proofs.Ytadmimjaelodkaa

