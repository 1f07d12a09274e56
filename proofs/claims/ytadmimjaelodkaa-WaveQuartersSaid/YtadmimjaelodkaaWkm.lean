/- The statement WaveQuarters: the matrix and the impedance of a line at a quarter, and its resonances, are as specified, or the errors. No condition. -/
import Derived.Test.YtadmimjaelodkaaWkGl
import Derived.Test.YtadmimjaelodkaaWkl
set_option maxRecDepth 100000
namespace Go.Proofs.Ytadmimjaelodkaa
open Go.ChangeShapes Go.WideShapes Go.ChangeAt Go.RowKit Go.DI 

theorem waveQuarters_data (vs : List IV) (h : Typed Try.prog 8 Try.f6.params.toList vs) : Contract Try.prog 6 vs (.bool true) := by
  rw [Try.params6] at h
  obtain ⟨x1, b1, rfl, h1, x2, b2, rfl, h2, rfl⟩ := h
  obtain ⟨x, e1⟩ := arg_line (m := 4) h1
  obtain ⟨n, e2, hb⟩ := arg_int (m := 7) h2
  rw [e1, e2]
  exact l_WaveQuarters

theorem waveQuarters_lifted (os : Os) (started : os.Started) (H : Type) (enc : TypeId × Value → H) :
    ReturnsInHanded {} Try.checked os 6 .any (Rows.waveQuartersSpec.pre6 enc Try.prog Try.f6 Rows.waveQuartersRow.domain false) (Rows.waveQuartersSpec.post enc Try.prog Try.f6 false true false false) := by
  refine returnsInHanded_of_change (C := Try.checked) Try.own started (by kernel_rfl) Try.func6
    (ChangeSpec.witness6 (enc := enc) (C := Try.checked) false ⟨#[], #[.agg #[.slice none 0 0, .slice none 0 0], .int .i64 0], []⟩ 8 (by kernel_rfl) (by kernel_rfl) (by kernel_rfl) (by kernel_rfl)) ?_
  intro W base args ds gs before hval hW _ _
  refine law_calls (m := 8) Try.laidOut (bt := 4) (by kernel_rfl) Try.underlying4 rfl (by kernel_rfl) ?_ waveQuarters_data hval hW
  intro ds' hd
  rw [Try.params6] at hd
  match ds', hd with
  | [d1, d2], _ => exact ⟨rfl, rfl, rfl⟩

theorem waveQuarters_holds : Rows.WaveQuartersSaid :=
  OpenClaim.holds_of_wide 6 Try.f6 rfl rfl rfl rfl rfl rfl rfl ⟨rfl, rfl, rfl, rfl, rfl⟩ rfl rfl rfl rfl rfl (by kernel_rfl) Try.func6 (by kernel_rfl)
    (of_decide_eq_true (by kernel_rfl)) (by unfold Func.isWrapper; first | (rw [if_pos (by decide +kernel)]; kernel_rfl) | (rw [if_neg (by decide +kernel)]; exact ⟨rfl, rfl⟩))
    (fun os started H enc _ => waveQuarters_lifted os started H enc)

#print axioms waveQuarters_holds

end Go.Proofs.Ytadmimjaelodkaa

