/- The statement SurgeWitnesses: the worst witness for starts, and which witnesses are accepted, are as specified, or the errors. No condition. -/
import Derived.Test.YtdpfjbghiahbeaaKuGi
import Derived.Test.YtdpfjbghiahbeaaKuGn
set_option maxRecDepth 100000
namespace Go.Proofs.Ytdpfjbghiahbeaa
open Go.ChangeShapes Go.WideShapes Go.ChangeAt Go.RowKit Go.DI Go.DI.Sg

theorem surgeWitnesses_data (vs : List IV) (h : Typed Try.prog 8 Try.f6.params.toList vs) : Contract Try.prog 6 vs (.bool true) := by
  rw [Try.params6] at h
  obtain ⟨x1, b1, rfl, h1, x2, b2, rfl, h2, x3, b3, rfl, h3, rfl⟩ := h
  obtain ⟨r, e1⟩ := arg_rules (m := 5) h1
  obtain ⟨p, e2⟩ := arg_plan (m := 5) h2
  obtain ⟨ss, w, bs, e3⟩ := arg_claim (m := 3) h3
  rw [e1, e2, e3]
  exact l_SurgeWitnesses

theorem surgeWitnesses_lifted (os : Os) (started : os.Started) (H : Type) (enc : TypeId × Value → H) :
    ReturnsInHanded {} Try.checked os 6 .any (Rows.surgeWitnessesSpec.pre6 enc Try.prog Try.f6 Rows.surgeWitnessesRow.domain false) (Rows.surgeWitnessesSpec.post enc Try.prog Try.f6 false true false false) := by
  refine returnsInHanded_of_change (C := Try.checked) Try.own started (by kernel_rfl) Try.func6
    (ChangeSpec.witness6 (enc := enc) (C := Try.checked) false ⟨#[], #[.agg #[.int .i64 0, .int .i64 0, .int .i64 0, .int .i64 0, .int .i64 0], .agg #[.int .i64 0, .slice none 0 0, .int .i64 0, .int .i64 0], .agg #[.slice none 0 0, .slice none 0 0, .int .i64 0, .int .i64 0, .int .i64 0, .int .i64 0, .slice none 0 0]], []⟩ 8 (by kernel_rfl) (by kernel_rfl) (by kernel_rfl) (by kernel_rfl)) ?_
  intro W base args ds gs before hval hW _ _
  refine law_calls (m := 8) Try.laidOut (bt := 4) (by kernel_rfl) Try.underlying4 rfl (by kernel_rfl) ?_ surgeWitnesses_data hval hW
  intro ds' hd
  rw [Try.params6] at hd
  match ds', hd with
  | [d1, d2, d3], _ => exact ⟨rfl, rfl, rfl⟩

theorem surgeWitnesses_holds : Rows.SurgeWitnessesSaid :=
  OpenClaim.holds_of_wide 6 Try.f6 rfl rfl rfl rfl rfl rfl rfl ⟨rfl, rfl, rfl, rfl, rfl⟩ rfl rfl rfl rfl rfl (by kernel_rfl) Try.func6 (by kernel_rfl)
    (of_decide_eq_true (by kernel_rfl)) (by unfold Func.isWrapper; first | (rw [if_pos (by decide +kernel)]; kernel_rfl) | (rw [if_neg (by decide +kernel)]; exact ⟨rfl, rfl⟩))
    (fun os started H enc _ => surgeWitnesses_lifted os started H enc)

#print axioms surgeWitnesses_holds

end Go.Proofs.Ytdpfjbghiahbeaa

