/- The statement LakeTwo: a volume is in the agreed range exactly if after the net flows its level lies within each reading; if readings contradict each other at most two of them do so alone, and no smaller set does. No condition. -/
import Derived.Test.YtbmlfeikdhpdfaaJl
import Derived.Test.YtbmlfeikdhpdfaaTwb
set_option maxRecDepth 100000
namespace Go.Proofs.Ytbmlfeikdhpdfaa
open Go.ChangeShapes Go.WideShapes Go.ChangeAt Go.RowKit Go.DI Go.DI.Lk

theorem lakeTwo_data (vs : List IV) (h : Typed Try.prog 8 Try.f6.params.toList vs) : Contract Try.prog 6 vs (.bool true) := by
  rw [Try.params6] at h
  obtain ⟨x1, b1, rfl, h1, x2, b2, rfl, h2, x3, b3, rfl, h3, rfl⟩ := h
  obtain ⟨t, e1⟩ := arg_table (m := 4) h1
  obtain ⟨n, e2⟩ := arg_ints (m := 6) h2
  obtain ⟨r, e3⟩ := arg_gauges (m := 3) h3
  rw [e1, e2, e3]
  exact l_LakeTwo

theorem lakeTwo_lifted (os : Os) (started : os.Started) (H : Type) (enc : TypeId × Value → H) :
    ReturnsInHanded {} Try.checked os 6 .any (Rows.lakeTwoSpec.pre6 enc Try.prog Try.f6 Rows.lakeTwoRow.domain false) (Rows.lakeTwoSpec.post enc Try.prog Try.f6 false true false false) := by
  refine returnsInHanded_of_change (C := Try.checked) Try.own started (by kernel_rfl) Try.func6
    (ChangeSpec.witness6 (enc := enc) (C := Try.checked) false ⟨#[], #[.agg #[.slice none 0 0], .slice none 0 0, .agg #[.slice none 0 0, .int .i64 0]], []⟩ 8 (by kernel_rfl) (by kernel_rfl) (by kernel_rfl) (by kernel_rfl)) ?_
  intro W base args ds gs before hval hW _ _
  refine law_calls (m := 8) Try.laidOut (bt := 4) (by kernel_rfl) Try.underlying4 rfl (by kernel_rfl) ?_ lakeTwo_data hval hW
  intro ds' hd
  rw [Try.params6] at hd
  match ds', hd with
  | [d1, d2, d3], _ => exact ⟨rfl, rfl, rfl⟩

theorem lakeTwo_holds : Rows.LakeTwoSaid :=
  OpenClaim.holds_of_wide 6 Try.f6 rfl rfl rfl rfl rfl rfl rfl ⟨rfl, rfl, rfl, rfl, rfl⟩ rfl rfl rfl rfl rfl (by kernel_rfl) Try.func6 (by kernel_rfl)
    (of_decide_eq_true (by kernel_rfl)) (by unfold Func.isWrapper; first | (rw [if_pos (by decide +kernel)]; kernel_rfl) | (rw [if_neg (by decide +kernel)]; exact ⟨rfl, rfl⟩))
    (fun os started H enc _ => lakeTwo_lifted os started H enc)

#print axioms lakeTwo_holds

end Go.Proofs.Ytbmlfeikdhpdfaa

