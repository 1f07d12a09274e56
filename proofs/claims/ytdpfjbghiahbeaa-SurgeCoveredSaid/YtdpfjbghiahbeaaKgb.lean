/- The statement SurgeCovered: the cover of a box covers it, and each of its states lies in exactly one of the boxes; without one of them it is not covered; with further boxes a bound is not narrower. No condition. -/
import Derived.Test.YtdpfjbghiahbeaaKgGi
import Derived.Test.YtdpfjbghiahbeaaKga
set_option maxRecDepth 100000
namespace Go.Proofs.Ytdpfjbghiahbeaa
open Go.ChangeShapes Go.WideShapes Go.ChangeAt Go.RowKit Go.DI Go.DI.Sg

theorem surgeCovered_data (vs : List IV) (h : Typed Try.prog 8 Try.f14.params.toList vs) : Contract Try.prog 14 vs (.bool true) := by
  rw [Try.params14] at h
  obtain ⟨x1, b1, rfl, h1, x2, b2, rfl, h2, x3, b3, rfl, h3, rfl⟩ := h
  obtain ⟨r, e1⟩ := arg_rules (m := 5) h1
  obtain ⟨p, e2⟩ := arg_plan (m := 5) h2
  obtain ⟨v, e3⟩ := arg_cover (m := 4) h3
  rw [e1, e2, e3]
  exact l_SurgeCovered

theorem surgeCovered_lifted (os : Os) (started : os.Started) (H : Type) (enc : TypeId × Value → H) :
    ReturnsInHanded {} Try.checked os 14 .any (Rows.surgeCoveredSpec.pre6 enc Try.prog Try.f14 Rows.surgeCoveredRow.domain false) (Rows.surgeCoveredSpec.post enc Try.prog Try.f14 false true false false) := by
  refine returnsInHanded_of_change (C := Try.checked) Try.own started (by kernel_rfl) Try.func14
    (ChangeSpec.witness6 (enc := enc) (C := Try.checked) false ⟨#[], #[.agg #[.int .i64 0, .int .i64 0, .int .i64 0, .int .i64 0, .int .i64 0], .agg #[.int .i64 0, .slice none 0 0, .int .i64 0, .int .i64 0], .agg #[.int .i64 0, .int .i64 0, .int .i64 0, .int .i64 0, .int .i64 0, .int .i64 0, .int .i64 0]], []⟩ 8 (by kernel_rfl) (by kernel_rfl) (by kernel_rfl) (by kernel_rfl)) ?_
  intro W base args ds gs before hval hW _ _
  refine law_calls (m := 8) Try.laidOut (bt := 4) (by kernel_rfl) Try.underlying4 rfl (by kernel_rfl) ?_ surgeCovered_data hval hW
  intro ds' hd
  rw [Try.params14] at hd
  match ds', hd with
  | [d1, d2, d3], _ => exact ⟨rfl, rfl, rfl⟩

theorem surgeCovered_holds : Rows.SurgeCoveredSaid :=
  OpenClaim.holds_of_wide 14 Try.f14 rfl rfl rfl rfl rfl rfl rfl ⟨rfl, rfl, rfl, rfl, rfl⟩ rfl rfl rfl rfl rfl (by kernel_rfl) Try.func14 (by kernel_rfl)
    (of_decide_eq_true (by kernel_rfl)) (by unfold Func.isWrapper; first | (rw [if_pos (by decide +kernel)]; kernel_rfl) | (rw [if_neg (by decide +kernel)]; exact ⟨rfl, rfl⟩))
    (fun os started H enc _ => surgeCovered_lifted os started H enc)

#print axioms surgeCovered_holds

end Go.Proofs.Ytdpfjbghiahbeaa

