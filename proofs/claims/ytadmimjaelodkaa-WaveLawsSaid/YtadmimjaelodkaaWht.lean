/- The statement WaveLaws: which laws are valid, with an index, the pressures at the valve, the peak and the low of a run, are as specified, or the errors. No condition. -/
import Derived.Test.YtadmimjaelodkaaWhGl
import Derived.Test.YtadmimjaelodkaaWhs
set_option maxRecDepth 100000
namespace Go.Proofs.Ytadmimjaelodkaa
open Go.ChangeShapes Go.WideShapes Go.ChangeAt Go.RowKit Go.DI 

theorem waveLaws_data (vs : List IV) (h : Typed Try.prog 8 Try.f13.params.toList vs) : Contract Try.prog 13 vs (.bool true) := by
  rw [Try.params13] at h
  obtain ⟨x1, b1, rfl, h1, x2, b2, rfl, h2, x3, b3, rfl, h3, rfl⟩ := h
  obtain ⟨x, e1⟩ := arg_line (m := 4) h1
  obtain ⟨l, e2⟩ := arg_ints (m := 6) h2
  obtain ⟨n, e3, hb⟩ := arg_int (m := 7) h3
  rw [e1, e2, e3]
  exact l_WaveLaws

theorem waveLaws_lifted (os : Os) (started : os.Started) (H : Type) (enc : TypeId × Value → H) :
    ReturnsInHanded {} Try.checked os 13 .any (Rows.waveLawsSpec.pre6 enc Try.prog Try.f13 Rows.waveLawsRow.domain false) (Rows.waveLawsSpec.post enc Try.prog Try.f13 false true false false) := by
  refine returnsInHanded_of_change (C := Try.checked) Try.own started (by kernel_rfl) Try.func13
    (ChangeSpec.witness6 (enc := enc) (C := Try.checked) false ⟨#[], #[.agg #[.slice none 0 0, .slice none 0 0], .slice none 0 0, .int .i64 0], []⟩ 8 (by kernel_rfl) (by kernel_rfl) (by kernel_rfl) (by kernel_rfl)) ?_
  intro W base args ds gs before hval hW _ _
  refine law_calls (m := 8) Try.laidOut (bt := 4) (by kernel_rfl) Try.underlying4 rfl (by kernel_rfl) ?_ waveLaws_data hval hW
  intro ds' hd
  rw [Try.params13] at hd
  match ds', hd with
  | [d1, d2, d3], _ => exact ⟨rfl, rfl, rfl⟩

theorem waveLaws_holds : Rows.WaveLawsSaid :=
  OpenClaim.holds_of_wide 13 Try.f13 rfl rfl rfl rfl rfl rfl rfl ⟨rfl, rfl, rfl, rfl, rfl⟩ rfl rfl rfl rfl rfl (by kernel_rfl) Try.func13 (by kernel_rfl)
    (of_decide_eq_true (by kernel_rfl)) (by unfold Func.isWrapper; first | (rw [if_pos (by decide +kernel)]; kernel_rfl) | (rw [if_neg (by decide +kernel)]; exact ⟨rfl, rfl⟩))
    (fun os started H enc _ => waveLaws_lifted os started H enc)

#print axioms waveLaws_holds

end Go.Proofs.Ytadmimjaelodkaa

