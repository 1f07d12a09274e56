/- The statement SurgeGap: the level of a witness that is accepted, whose start lies in one of some boxes, lies in their bound; the worst one is accepted, and none of one of its starts, with an end of the frictions, has a higher level. No condition. -/
import Derived.Test.YtdpfjbghiahbeaaKhGi
import Derived.Test.YtdpfjbghiahbeaaKha
set_option maxRecDepth 100000
namespace Go.Proofs.Ytdpfjbghiahbeaa
open Go.ChangeShapes Go.WideShapes Go.ChangeAt Go.RowKit Go.DI Go.DI.Sg

theorem surgeGap_data (vs : List IV) (h : Typed Try.prog 8 Try.f9.params.toList vs) : Contract Try.prog 9 vs (.bool true) := by
  rw [Try.params9] at h
  obtain ⟨x1, b1, rfl, h1, x2, b2, rfl, h2, x3, b3, rfl, h3, rfl⟩ := h
  obtain ⟨r, e1⟩ := arg_rules (m := 5) h1
  obtain ⟨p, e2⟩ := arg_plan (m := 5) h2
  obtain ⟨ss, w, bs, e3⟩ := arg_claim (m := 3) h3
  rw [e1, e2, e3]
  exact l_SurgeGap

theorem surgeGap_lifted (os : Os) (started : os.Started) (H : Type) (enc : TypeId × Value → H) :
    ReturnsInHanded {} Try.checked os 9 .any (Rows.surgeGapSpec.pre6 enc Try.prog Try.f9 Rows.surgeGapRow.domain false) (Rows.surgeGapSpec.post enc Try.prog Try.f9 false true false false) := by
  refine returnsInHanded_of_change (C := Try.checked) Try.own started (by kernel_rfl) Try.func9
    (ChangeSpec.witness6 (enc := enc) (C := Try.checked) false ⟨#[], #[.agg #[.int .i64 0, .int .i64 0, .int .i64 0, .int .i64 0, .int .i64 0], .agg #[.int .i64 0, .slice none 0 0, .int .i64 0, .int .i64 0], .agg #[.slice none 0 0, .slice none 0 0, .int .i64 0, .int .i64 0, .int .i64 0, .int .i64 0, .slice none 0 0]], []⟩ 8 (by kernel_rfl) (by kernel_rfl) (by kernel_rfl) (by kernel_rfl)) ?_
  intro W base args ds gs before hval hW _ _
  refine law_calls (m := 8) Try.laidOut (bt := 4) (by kernel_rfl) Try.underlying4 rfl (by kernel_rfl) ?_ surgeGap_data hval hW
  intro ds' hd
  rw [Try.params9] at hd
  match ds', hd with
  | [d1, d2, d3], _ => exact ⟨rfl, rfl, rfl⟩

theorem surgeGap_holds : Rows.SurgeGapSaid :=
  OpenClaim.holds_of_wide 9 Try.f9 rfl rfl rfl rfl rfl rfl rfl ⟨rfl, rfl, rfl, rfl, rfl⟩ rfl rfl rfl rfl rfl (by kernel_rfl) Try.func9 (by kernel_rfl)
    (of_decide_eq_true (by kernel_rfl)) (by unfold Func.isWrapper; first | (rw [if_pos (by decide +kernel)]; kernel_rfl) | (rw [if_neg (by decide +kernel)]; exact ⟨rfl, rfl⟩))
    (fun os started H enc _ => surgeGap_lifted os started H enc)

#print axioms surgeGap_holds

end Go.Proofs.Ytdpfjbghiahbeaa

