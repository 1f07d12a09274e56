/- The statement SurgeNeverCross: a state with a greater level has no smaller level and no greater flow after a step, one with a greater flow no smaller level and no smaller flow. No condition. -/
import Derived.Test.YtdpfjbghiahbeaaKi
import Derived.Test.YtdpfjbghiahbeaaKyb
set_option maxRecDepth 100000
namespace Go.Proofs.Ytdpfjbghiahbeaa
open Go.ChangeShapes Go.WideShapes Go.ChangeAt Go.RowKit Go.DI Go.DI.Sg

theorem surgeNeverCross_data (vs : List IV) (h : Typed Try.prog 8 Try.f4.params.toList vs) : Contract Try.prog 4 vs (.bool true) := by
  rw [Try.params4] at h
  obtain ⟨x1, b1, rfl, h1, x2, b2, rfl, h2, x3, b3, rfl, h3, rfl⟩ := h
  obtain ⟨r, e1⟩ := arg_rules (m := 5) h1
  obtain ⟨s, t, e2⟩ := arg_two (m := 5) _ h2
  obtain ⟨load, k, e3⟩ := arg_step (m := 6) _ h3
  rw [e1, e2, e3]
  exact l_SurgeNeverCross

theorem surgeNeverCross_lifted (os : Os) (started : os.Started) (H : Type) (enc : TypeId × Value → H) :
    ReturnsInHanded {} Try.checked os 4 .any (Rows.surgeNeverCrossSpec.pre6 enc Try.prog Try.f4 Rows.surgeNeverCrossRow.domain false) (Rows.surgeNeverCrossSpec.post enc Try.prog Try.f4 false true false false) := by
  refine returnsInHanded_of_change (C := Try.checked) Try.own started (by kernel_rfl) Try.func4
    (ChangeSpec.witness6 (enc := enc) (C := Try.checked) false ⟨#[], #[.agg #[.int .i64 0, .int .i64 0, .int .i64 0, .int .i64 0, .int .i64 0], .agg #[.int .i64 0, .int .i64 0, .int .i64 0, .int .i64 0], .agg #[.int .i64 0, .int .i64 0]], []⟩ 8 (by kernel_rfl) (by kernel_rfl) (by kernel_rfl) (by kernel_rfl)) ?_
  intro W base args ds gs before hval hW _ _
  refine law_calls (m := 8) Try.laidOut (bt := 4) (by kernel_rfl) Try.underlying4 rfl (by kernel_rfl) ?_ surgeNeverCross_data hval hW
  intro ds' hd
  rw [Try.params4] at hd
  match ds', hd with
  | [d1, d2, d3], _ => exact ⟨rfl, rfl, rfl⟩

theorem surgeNeverCross_holds : Rows.SurgeNeverCrossSaid :=
  OpenClaim.holds_of_wide 4 Try.f4 rfl rfl rfl rfl rfl rfl rfl ⟨rfl, rfl, rfl, rfl, rfl⟩ rfl rfl rfl rfl rfl (by kernel_rfl) Try.func4 (by kernel_rfl)
    (of_decide_eq_true (by kernel_rfl)) (by unfold Func.isWrapper; first | (rw [if_pos (by decide +kernel)]; kernel_rfl) | (rw [if_neg (by decide +kernel)]; exact ⟨rfl, rfl⟩))
    (fun os started H enc _ => surgeNeverCross_lifted os started H enc)

#print axioms surgeNeverCross_holds

end Go.Proofs.Ytdpfjbghiahbeaa

