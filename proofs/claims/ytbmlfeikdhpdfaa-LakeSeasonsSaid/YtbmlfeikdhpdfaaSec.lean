/- The statement LakeSeasons: the minimum level on a date is as specified, or the errors; it is the same a year later, and that of some season, or 0. No condition. -/
import Derived.Test.YtbmlfeikdhpdfaaJl
import Derived.Test.YtbmlfeikdhpdfaaSeb
set_option maxRecDepth 100000
namespace Go.Proofs.Ytbmlfeikdhpdfaa
open Go.ChangeShapes Go.WideShapes Go.ChangeAt Go.RowKit Go.DI Go.DI.Lk

theorem lakeSeasons_data (vs : List IV) (h : Typed Try.prog 8 Try.f9.params.toList vs) : Contract Try.prog 9 vs (.bool true) := by
  rw [Try.params9] at h
  obtain ⟨x1, b1, rfl, h1, x2, b2, rfl, h2, rfl⟩ := h
  obtain ⟨x, e1⟩ := arg_seasons (m := 5) h1
  obtain ⟨n2, e2, _⟩ := arg_int (m := 7) h2
  rw [e1, e2]
  exact l_LakeSeasons

theorem lakeSeasons_lifted (os : Os) (started : os.Started) (H : Type) (enc : TypeId × Value → H) :
    ReturnsInHanded {} Try.checked os 9 .any (Rows.lakeSeasonsSpec.pre6 enc Try.prog Try.f9 Rows.lakeSeasonsRow.domain false) (Rows.lakeSeasonsSpec.post enc Try.prog Try.f9 false true false false) := by
  refine returnsInHanded_of_change (C := Try.checked) Try.own started (by kernel_rfl) Try.func9
    (ChangeSpec.witness6 (enc := enc) (C := Try.checked) false ⟨#[], #[.slice none 0 0, .int .i64 0], []⟩ 8 (by kernel_rfl) (by kernel_rfl) (by kernel_rfl) (by kernel_rfl)) ?_
  intro W base args ds gs before hval hW _ _
  refine law_calls (m := 8) Try.laidOut (bt := 4) (by kernel_rfl) Try.underlying4 rfl (by kernel_rfl) ?_ lakeSeasons_data hval hW
  intro ds' hd
  rw [Try.params9] at hd
  match ds', hd with
  | [d1, d2], _ => exact ⟨rfl, rfl, rfl⟩

theorem lakeSeasons_holds : Rows.LakeSeasonsSaid :=
  OpenClaim.holds_of_wide 9 Try.f9 rfl rfl rfl rfl rfl rfl rfl ⟨rfl, rfl, rfl, rfl, rfl⟩ rfl rfl rfl rfl rfl (by kernel_rfl) Try.func9 (by kernel_rfl)
    (of_decide_eq_true (by kernel_rfl)) (by unfold Func.isWrapper; first | (rw [if_pos (by decide +kernel)]; kernel_rfl) | (rw [if_neg (by decide +kernel)]; exact ⟨rfl, rfl⟩))
    (fun os started H enc _ => lakeSeasons_lifted os started H enc)

#print axioms lakeSeasons_holds

end Go.Proofs.Ytbmlfeikdhpdfaa

