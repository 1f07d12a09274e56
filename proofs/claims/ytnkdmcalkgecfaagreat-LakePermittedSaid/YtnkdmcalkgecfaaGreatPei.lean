/- The statement LakePermitted: for how many ticks flows are permitted is as specified, or the errors. No condition. -/
import Derived.Test.YtnkdmcalkgecfaaGreatPeGp
import Derived.Test.YtnkdmcalkgecfaaGreatPeh
set_option maxRecDepth 100000
namespace Go.Proofs.YtnkdmcalkgecfaaGreat
open Go.ChangeShapes Go.WideShapes Go.ChangeAt Go.RowKit Go.DI Go.DI.Lk

theorem lakePermitted_data (vs : List IV) (h : Typed Tryz.prog 8 Tryz.f4.params.toList vs) : Contract Tryz.prog 4 vs (.bool true) := by
  rw [Tryz.params4] at h
  obtain ⟨x1, b1, rfl, h1, x2, b2, rfl, h2, x3, b3, rfl, h3, rfl⟩ := h
  obtain ⟨p, e1⟩ := arg_pair (m := 3) h1
  obtain ⟨s, e2⟩ := arg_state (m := 6) h2
  obtain ⟨x, e3⟩ := arg_task (m := 3) h3
  rw [e1, e2, e3]
  exact l_LakePermitted

theorem lakePermitted_lifted (os : Os) (started : os.Started) (H : Type) (enc : TypeId × Value → H) :
    ReturnsInHanded {} Tryz.checked os 4 .any (Rows.lakePermittedSpec.pre6 enc Tryz.prog Tryz.f4 Rows.lakePermittedRow.domain false) (Rows.lakePermittedSpec.post enc Tryz.prog Tryz.f4 false true false false) := by
  refine returnsInHanded_of_change (C := Tryz.checked) Tryz.own started (by kernel_rfl) Tryz.func4
    (ChangeSpec.witness6 (enc := enc) (C := Tryz.checked) false ⟨#[], #[.agg #[.slice none 0 0, .slice none 0 0, .int .i64 0], .agg #[.int .i64 0, .int .i64 0], .agg #[.int .i64 0, .int .i64 0, .int .i64 0, .int .i64 0, .int .i64 0, .int .i64 0, .int .i64 0, .int .i64 0, .int .i64 0, .int .i64 0, .slice none 0 0]], []⟩ 8 (by kernel_rfl) (by kernel_rfl) (by kernel_rfl) (by kernel_rfl)) ?_
  intro W base args ds gs before hval hW _ _
  refine law_calls (m := 8) Tryz.laidOut (bt := 4) (by kernel_rfl) Tryz.underlying4 rfl (by kernel_rfl) ?_ lakePermitted_data hval hW
  intro ds' hd
  rw [Tryz.params4] at hd
  match ds', hd with
  | [d1, d2, d3], _ => exact ⟨rfl, rfl, rfl⟩

theorem lakePermitted_holds : Rows.LakePermittedSaid :=
  OpenClaim.holds_of_wide 4 Tryz.f4 rfl rfl rfl rfl rfl rfl rfl ⟨rfl, rfl, rfl, rfl, rfl⟩ rfl rfl rfl rfl rfl (by kernel_rfl) Tryz.func4 (by kernel_rfl)
    (of_decide_eq_true (by kernel_rfl)) (by unfold Func.isWrapper; first | (rw [if_pos (by decide +kernel)]; kernel_rfl) | (rw [if_neg (by decide +kernel)]; exact ⟨rfl, rfl⟩))
    (fun os started H enc _ => lakePermitted_lifted os started H enc)

#print axioms lakePermitted_holds

end Go.Proofs.YtnkdmcalkgecfaaGreat

