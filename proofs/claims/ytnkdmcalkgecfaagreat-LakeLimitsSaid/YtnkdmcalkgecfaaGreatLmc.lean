/- The statement LakeLimits: which limits are valid, and the first violation of a run, are as specified, or the errors. No condition. -/
import Derived.Test.YtnkdmcalkgecfaaGreatLmGp
import Derived.Test.YtnkdmcalkgecfaaGreatLmb
set_option maxRecDepth 100000
namespace Go.Proofs.YtnkdmcalkgecfaaGreat
open Go.ChangeShapes Go.WideShapes Go.ChangeAt Go.RowKit Go.DI Go.DI.Lk

theorem lakeLimits_data (vs : List IV) (h : Typed Tryz.prog 8 Tryz.f3.params.toList vs) : Contract Tryz.prog 3 vs (.bool true) := by
  rw [Tryz.params3] at h
  obtain ⟨x1, b1, rfl, h1, x2, b2, rfl, h2, x3, b3, rfl, h3, rfl⟩ := h
  obtain ⟨p, e1⟩ := arg_pair (m := 3) h1
  obtain ⟨s, e2⟩ := arg_state (m := 6) h2
  obtain ⟨x, e3⟩ := arg_task (m := 3) h3
  rw [e1, e2, e3]
  exact l_LakeLimits

theorem lakeLimits_lifted (os : Os) (started : os.Started) (H : Type) (enc : TypeId × Value → H) :
    ReturnsInHanded {} Tryz.checked os 3 .any (Rows.lakeLimitsSpec.pre6 enc Tryz.prog Tryz.f3 Rows.lakeLimitsRow.domain false) (Rows.lakeLimitsSpec.post enc Tryz.prog Tryz.f3 false true false false) := by
  refine returnsInHanded_of_change (C := Tryz.checked) Tryz.own started (by kernel_rfl) Tryz.func3
    (ChangeSpec.witness6 (enc := enc) (C := Tryz.checked) false ⟨#[], #[.agg #[.slice none 0 0, .slice none 0 0, .int .i64 0], .agg #[.int .i64 0, .int .i64 0], .agg #[.int .i64 0, .int .i64 0, .int .i64 0, .int .i64 0, .int .i64 0, .int .i64 0, .int .i64 0, .int .i64 0, .int .i64 0, .int .i64 0, .slice none 0 0]], []⟩ 8 (by kernel_rfl) (by kernel_rfl) (by kernel_rfl) (by kernel_rfl)) ?_
  intro W base args ds gs before hval hW _ _
  refine law_calls (m := 8) Tryz.laidOut (bt := 4) (by kernel_rfl) Tryz.underlying4 rfl (by kernel_rfl) ?_ lakeLimits_data hval hW
  intro ds' hd
  rw [Tryz.params3] at hd
  match ds', hd with
  | [d1, d2, d3], _ => exact ⟨rfl, rfl, rfl⟩

theorem lakeLimits_holds : Rows.LakeLimitsSaid :=
  OpenClaim.holds_of_wide 3 Tryz.f3 rfl rfl rfl rfl rfl rfl rfl ⟨rfl, rfl, rfl, rfl, rfl⟩ rfl rfl rfl rfl rfl (by kernel_rfl) Tryz.func3 (by kernel_rfl)
    (of_decide_eq_true (by kernel_rfl)) (by unfold Func.isWrapper; first | (rw [if_pos (by decide +kernel)]; kernel_rfl) | (rw [if_neg (by decide +kernel)]; exact ⟨rfl, rfl⟩))
    (fun os started H enc _ => lakeLimits_lifted os started H enc)

#print axioms lakeLimits_holds

end Go.Proofs.YtnkdmcalkgecfaaGreat

