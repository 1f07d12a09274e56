/- The statement WaveResonant: a plain line has resonances at the quarters 1 and 3 exactly if its number of cells is odd; the determinant of each matrix is 1; the impedance is that of the matrix. No condition. -/
import Derived.Test.YtadmimjaelodkaaWjGl
import Derived.Test.YtadmimjaelodkaaWjh
set_option maxRecDepth 100000
namespace Go.Proofs.Ytadmimjaelodkaa
open Go.ChangeShapes Go.WideShapes Go.ChangeAt Go.RowKit Go.DI 

theorem waveResonant_data (vs : List IV) (h : Typed Try.prog 8 Try.f7.params.toList vs) : Contract Try.prog 7 vs (.bool true) := by
  rw [Try.params7] at h
  obtain ⟨x1, b1, rfl, h1, x2, b2, rfl, h2, rfl⟩ := h
  obtain ⟨x, e1⟩ := arg_line (m := 4) h1
  obtain ⟨n, e2, hb⟩ := arg_int (m := 7) h2
  rw [e1, e2]
  exact l_WaveResonant

theorem waveResonant_lifted (os : Os) (started : os.Started) (H : Type) (enc : TypeId × Value → H) :
    ReturnsInHanded {} Try.checked os 7 .any (Rows.waveResonantSpec.pre6 enc Try.prog Try.f7 Rows.waveResonantRow.domain false) (Rows.waveResonantSpec.post enc Try.prog Try.f7 false true false false) := by
  refine returnsInHanded_of_change (C := Try.checked) Try.own started (by kernel_rfl) Try.func7
    (ChangeSpec.witness6 (enc := enc) (C := Try.checked) false ⟨#[], #[.agg #[.slice none 0 0, .slice none 0 0], .int .i64 0], []⟩ 8 (by kernel_rfl) (by kernel_rfl) (by kernel_rfl) (by kernel_rfl)) ?_
  intro W base args ds gs before hval hW _ _
  refine law_calls (m := 8) Try.laidOut (bt := 4) (by kernel_rfl) Try.underlying4 rfl (by kernel_rfl) ?_ waveResonant_data hval hW
  intro ds' hd
  rw [Try.params7] at hd
  match ds', hd with
  | [d1, d2], _ => exact ⟨rfl, rfl, rfl⟩

theorem waveResonant_holds : Rows.WaveResonantSaid :=
  OpenClaim.holds_of_wide 7 Try.f7 rfl rfl rfl rfl rfl rfl rfl ⟨rfl, rfl, rfl, rfl, rfl⟩ rfl rfl rfl rfl rfl (by kernel_rfl) Try.func7 (by kernel_rfl)
    (of_decide_eq_true (by kernel_rfl)) (by unfold Func.isWrapper; first | (rw [if_pos (by decide +kernel)]; kernel_rfl) | (rw [if_neg (by decide +kernel)]; exact ⟨rfl, rfl⟩))
    (fun os started H enc _ => waveResonant_lifted os started H enc)

#print axioms waveResonant_holds

end Go.Proofs.Ytadmimjaelodkaa

