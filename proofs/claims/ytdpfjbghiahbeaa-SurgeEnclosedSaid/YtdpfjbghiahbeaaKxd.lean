/- The statement SurgeEnclosed: the run from a state in a box, with any friction in the range at each step, stays in the boxes; a smaller box has steps that lie in those of the greater one. No condition. -/
import Derived.Test.YtdpfjbghiahbeaaKi
import Derived.Test.YtdpfjbghiahbeaaKxc
set_option maxRecDepth 100000
namespace Go.Proofs.Ytdpfjbghiahbeaa
open Go.ChangeShapes Go.WideShapes Go.ChangeAt Go.RowKit Go.DI Go.DI.Sg

theorem surgeEnclosed_data (vs : List IV) (h : Typed Try.prog 8 Try.f5.params.toList vs) : Contract Try.prog 5 vs (.bool true) := by
  rw [Try.params5] at h
  obtain ⟨x1, b1, rfl, h1, x2, b2, rfl, h2, x3, b3, rfl, h3, rfl⟩ := h
  obtain ⟨r, e1⟩ := arg_rules (m := 5) h1
  obtain ⟨b, s, e2⟩ := arg_within (m := 4) h2
  obtain ⟨l, e3⟩ := arg_steps (m := 5) h3
  rw [e1, e2, e3]
  exact l_SurgeEnclosed

theorem surgeEnclosed_lifted (os : Os) (started : os.Started) (H : Type) (enc : TypeId × Value → H) :
    ReturnsInHanded {} Try.checked os 5 .any (Rows.surgeEnclosedSpec.pre6 enc Try.prog Try.f5 Rows.surgeEnclosedRow.domain false) (Rows.surgeEnclosedSpec.post enc Try.prog Try.f5 false true false false) := by
  refine returnsInHanded_of_change (C := Try.checked) Try.own started (by kernel_rfl) Try.func5
    (ChangeSpec.witness6 (enc := enc) (C := Try.checked) false ⟨#[], #[.agg #[.int .i64 0, .int .i64 0, .int .i64 0, .int .i64 0, .int .i64 0], .agg #[.int .i64 0, .int .i64 0, .int .i64 0, .int .i64 0, .int .i64 0, .int .i64 0], .slice none 0 0], []⟩ 8 (by kernel_rfl) (by kernel_rfl) (by kernel_rfl) (by kernel_rfl)) ?_
  intro W base args ds gs before hval hW _ _
  refine law_calls (m := 8) Try.laidOut (bt := 4) (by kernel_rfl) Try.underlying4 rfl (by kernel_rfl) ?_ surgeEnclosed_data hval hW
  intro ds' hd
  rw [Try.params5] at hd
  match ds', hd with
  | [d1, d2, d3], _ => exact ⟨rfl, rfl, rfl⟩

theorem surgeEnclosed_holds : Rows.SurgeEnclosedSaid :=
  OpenClaim.holds_of_wide 5 Try.f5 rfl rfl rfl rfl rfl rfl rfl ⟨rfl, rfl, rfl, rfl, rfl⟩ rfl rfl rfl rfl rfl (by kernel_rfl) Try.func5 (by kernel_rfl)
    (of_decide_eq_true (by kernel_rfl)) (by unfold Func.isWrapper; first | (rw [if_pos (by decide +kernel)]; kernel_rfl) | (rw [if_neg (by decide +kernel)]; exact ⟨rfl, rfl⟩))
    (fun os started H enc _ => surgeEnclosed_lifted os started H enc)

#print axioms surgeEnclosed_holds

end Go.Proofs.Ytdpfjbghiahbeaa

