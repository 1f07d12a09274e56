/- The statement LakeBeginnings: a run without the flows from the first violation on violates nothing; with further flows the first violation stays; with wider limits none comes earlier; flows that are permitted for so many ticks violate nothing as long, and something, or are impossible, one tick longer. No condition. -/
import Derived.Test.YtnkdmcalkgecfaaGreatBeGp
import Derived.Test.YtnkdmcalkgecfaaGreatBej
set_option maxRecDepth 100000
namespace Go.Proofs.YtnkdmcalkgecfaaGreat
open Go.ChangeShapes Go.WideShapes Go.ChangeAt Go.RowKit Go.DI Go.DI.Lk

theorem lakeBeginnings_data (vs : List IV) (h : Typed Tryz.prog 8 Tryz.f5.params.toList vs) : Contract Tryz.prog 5 vs (.bool true) := by
  rw [Tryz.params5] at h
  obtain ⟨x1, b1, rfl, h1, x2, b2, rfl, h2, x3, b3, rfl, h3, rfl⟩ := h
  obtain ⟨p, e1⟩ := arg_pair (m := 3) h1
  obtain ⟨s, e2⟩ := arg_state (m := 6) h2
  obtain ⟨x, e3⟩ := arg_task (m := 3) h3
  rw [e1, e2, e3]
  exact l_LakeBeginnings

theorem lakeBeginnings_lifted (os : Os) (started : os.Started) (H : Type) (enc : TypeId × Value → H) :
    ReturnsInHanded {} Tryz.checked os 5 .any (Rows.lakeBeginningsSpec.pre6 enc Tryz.prog Tryz.f5 Rows.lakeBeginningsRow.domain false) (Rows.lakeBeginningsSpec.post enc Tryz.prog Tryz.f5 false true false false) := by
  refine returnsInHanded_of_change (C := Tryz.checked) Tryz.own started (by kernel_rfl) Tryz.func5
    (ChangeSpec.witness6 (enc := enc) (C := Tryz.checked) false ⟨#[], #[.agg #[.slice none 0 0, .slice none 0 0, .int .i64 0], .agg #[.int .i64 0, .int .i64 0], .agg #[.int .i64 0, .int .i64 0, .int .i64 0, .int .i64 0, .int .i64 0, .int .i64 0, .int .i64 0, .int .i64 0, .int .i64 0, .int .i64 0, .slice none 0 0]], []⟩ 8 (by kernel_rfl) (by kernel_rfl) (by kernel_rfl) (by kernel_rfl)) ?_
  intro W base args ds gs before hval hW _ _
  refine law_calls (m := 8) Tryz.laidOut (bt := 4) (by kernel_rfl) Tryz.underlying4 rfl (by kernel_rfl) ?_ lakeBeginnings_data hval hW
  intro ds' hd
  rw [Tryz.params5] at hd
  match ds', hd with
  | [d1, d2, d3], _ => exact ⟨rfl, rfl, rfl⟩

theorem lakeBeginnings_holds : Rows.LakeBeginningsSaid :=
  OpenClaim.holds_of_wide 5 Tryz.f5 rfl rfl rfl rfl rfl rfl rfl ⟨rfl, rfl, rfl, rfl, rfl⟩ rfl rfl rfl rfl rfl (by kernel_rfl) Tryz.func5 (by kernel_rfl)
    (of_decide_eq_true (by kernel_rfl)) (by unfold Func.isWrapper; first | (rw [if_pos (by decide +kernel)]; kernel_rfl) | (rw [if_neg (by decide +kernel)]; exact ⟨rfl, rfl⟩))
    (fun os started H enc _ => lakeBeginnings_lifted os started H enc)

#print axioms lakeBeginnings_holds

end Go.Proofs.YtnkdmcalkgecfaaGreat

