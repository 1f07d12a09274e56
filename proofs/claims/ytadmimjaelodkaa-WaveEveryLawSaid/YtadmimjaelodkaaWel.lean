/- The statement WaveEveryLaw: on a plain line the pressure at the valve is at most the closing at its tick in size, and the closing itself before the first wave has come back; the pressures follow from those of the law one round before. No condition. -/
import Derived.Test.YtadmimjaelodkaaWeGl
import Derived.Test.YtadmimjaelodkaaWek
set_option maxRecDepth 100000
namespace Go.Proofs.Ytadmimjaelodkaa
open Go.ChangeShapes Go.WideShapes Go.ChangeAt Go.RowKit Go.DI 

theorem waveEveryLaw_data (vs : List IV) (h : Typed Try.prog 8 Try.f5.params.toList vs) : Contract Try.prog 5 vs (.bool true) := by
  rw [Try.params5] at h
  obtain ⟨x1, b1, rfl, h1, x2, b2, rfl, h2, x3, b3, rfl, h3, rfl⟩ := h
  obtain ⟨x, e1⟩ := arg_line (m := 4) h1
  obtain ⟨l, e2⟩ := arg_ints (m := 6) h2
  obtain ⟨n, e3, hb⟩ := arg_int (m := 7) h3
  rw [e1, e2, e3]
  exact l_WaveEveryLaw

theorem waveEveryLaw_lifted (os : Os) (started : os.Started) (H : Type) (enc : TypeId × Value → H) :
    ReturnsInHanded {} Try.checked os 5 .any (Rows.waveEveryLawSpec.pre6 enc Try.prog Try.f5 Rows.waveEveryLawRow.domain false) (Rows.waveEveryLawSpec.post enc Try.prog Try.f5 false true false false) := by
  refine returnsInHanded_of_change (C := Try.checked) Try.own started (by kernel_rfl) Try.func5
    (ChangeSpec.witness6 (enc := enc) (C := Try.checked) false ⟨#[], #[.agg #[.slice none 0 0, .slice none 0 0], .slice none 0 0, .int .i64 0], []⟩ 8 (by kernel_rfl) (by kernel_rfl) (by kernel_rfl) (by kernel_rfl)) ?_
  intro W base args ds gs before hval hW _ _
  refine law_calls (m := 8) Try.laidOut (bt := 4) (by kernel_rfl) Try.underlying4 rfl (by kernel_rfl) ?_ waveEveryLaw_data hval hW
  intro ds' hd
  rw [Try.params5] at hd
  match ds', hd with
  | [d1, d2, d3], _ => exact ⟨rfl, rfl, rfl⟩

theorem waveEveryLaw_holds : Rows.WaveEveryLawSaid :=
  OpenClaim.holds_of_wide 5 Try.f5 rfl rfl rfl rfl rfl rfl rfl ⟨rfl, rfl, rfl, rfl, rfl⟩ rfl rfl rfl rfl rfl (by kernel_rfl) Try.func5 (by kernel_rfl)
    (of_decide_eq_true (by kernel_rfl)) (by unfold Func.isWrapper; first | (rw [if_pos (by decide +kernel)]; kernel_rfl) | (rw [if_neg (by decide +kernel)]; exact ⟨rfl, rfl⟩))
    (fun os started H enc _ => waveEveryLaw_lifted os started H enc)

#print axioms waveEveryLaw_holds

end Go.Proofs.Ytadmimjaelodkaa

