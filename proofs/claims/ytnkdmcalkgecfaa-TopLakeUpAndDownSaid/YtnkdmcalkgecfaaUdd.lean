/- The statement TopLakeUpAndDown: without losses flows followed by the opposite exchanges, in the reverse order, without inflow, lead back to the same state; the levels on the way back are those on the way up; every violation of a level on the way up is found at the same state on the way back, too. No condition. -/
import Derived.Test.YtnkdmcalkgecfaaUdGp
import Derived.Test.YtnkdmcalkgecfaaUdc
set_option maxRecDepth 100000
namespace Go.Proofs.Ytnkdmcalkgecfaa
open Go.ChangeShapes Go.WideShapes Go.ChangeAt Go.RowKit Go.DI Go.DI.Lk

theorem topLakeUpAndDown_data (vs : List IV) (h : Typed Try.prog 8 Try.f3.params.toList vs) : Contract Try.prog 3 vs (.bool true) := by
  rw [Try.params3] at h
  obtain ⟨x1, b1, rfl, h1, x2, b2, rfl, h2, x3, b3, rfl, h3, rfl⟩ := h
  obtain ⟨p, e1⟩ := arg_pair (m := 3) h1
  obtain ⟨s, e2⟩ := arg_state (m := 6) h2
  obtain ⟨x, e3⟩ := arg_task (m := 3) h3
  rw [e1, e2, e3]
  exact l_TopLakeUpAndDown

theorem topLakeUpAndDown_lifted (os : Os) (started : os.Started) (H : Type) (enc : TypeId × Value → H) :
    ReturnsInHanded {} Try.checked os 3 .any (Rows.topLakeUpAndDownSpec.pre6 enc Try.prog Try.f3 Rows.topLakeUpAndDownRow.domain false) (Rows.topLakeUpAndDownSpec.post enc Try.prog Try.f3 false true false false) := by
  refine returnsInHanded_of_change (C := Try.checked) Try.own started (by kernel_rfl) Try.func3
    (ChangeSpec.witness6 (enc := enc) (C := Try.checked) false ⟨#[], #[.agg #[.slice none 0 0, .slice none 0 0, .int .i64 0], .agg #[.int .i64 0, .int .i64 0], .agg #[.int .i64 0, .int .i64 0, .int .i64 0, .int .i64 0, .int .i64 0, .int .i64 0, .int .i64 0, .int .i64 0, .int .i64 0, .int .i64 0, .slice none 0 0]], []⟩ 8 (by kernel_rfl) (by kernel_rfl) (by kernel_rfl) (by kernel_rfl)) ?_
  intro W base args ds gs before hval hW _ _
  refine law_calls (m := 8) Try.laidOut (bt := 4) (by kernel_rfl) Try.underlying4 rfl (by kernel_rfl) ?_ topLakeUpAndDown_data hval hW
  intro ds' hd
  rw [Try.params3] at hd
  match ds', hd with
  | [d1, d2, d3], _ => exact ⟨rfl, rfl, rfl⟩

theorem topLakeUpAndDown_holds : Rows.TopLakeUpAndDownSaid :=
  OpenClaim.holds_of_wide 3 Try.f3 rfl rfl rfl rfl rfl rfl rfl ⟨rfl, rfl, rfl, rfl, rfl⟩ rfl rfl rfl rfl rfl (by kernel_rfl) Try.func3 (by kernel_rfl)
    (of_decide_eq_true (by kernel_rfl)) (by unfold Func.isWrapper; first | (rw [if_pos (by decide +kernel)]; kernel_rfl) | (rw [if_neg (by decide +kernel)]; exact ⟨rfl, rfl⟩))
    (fun os started H enc _ => topLakeUpAndDown_lifted os started H enc)

#print axioms topLakeUpAndDown_holds

end Go.Proofs.Ytnkdmcalkgecfaa

