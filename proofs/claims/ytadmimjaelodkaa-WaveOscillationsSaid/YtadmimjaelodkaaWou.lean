/- The statement WaveOscillations: the steady oscillation of a line, and the state and the closing at a tick of any oscillation, are as specified, or the errors. No condition. -/
import Derived.Test.YtadmimjaelodkaaWot
import Derived.Test.YtadmimjaelodkaaWos
set_option maxRecDepth 100000
namespace Go.Proofs.Ytadmimjaelodkaa
open Go.ChangeShapes Go.WideShapes Go.ChangeAt Go.RowKit Go.DI 

theorem waveOscillations_data (vs : List IV) (h : Typed Try.prog 8 Try.f15.params.toList vs) : Contract Try.prog 15 vs (.bool true) := by
 rw [Try.params15] at h
 obtain ⟨x1, b1, rfl, h1, x2, b2, rfl, h2, x3, b3, rfl, h3, rfl⟩ := h
 obtain ⟨x, e1⟩ := arg_line (m := 4) h1
 obtain ⟨a, b, e2⟩ := arg_gauss (m := 6) h2
 obtain ⟨s, t, e3⟩ := arg_at (m := 3) h3
 rw [e1, e2, e3]
 exact l_WaveOscillations (g := (a, b))

theorem waveOscillations_lifted (os : Os) (started : os.Started) (H : Type) (enc : TypeId × Value → H) :
  ReturnsInHanded {} Try.checked os 15 .any (Rows.waveOscillationsSpec.pre6 enc Try.prog Try.f15 Rows.waveOscillationsRow.domain false) (Rows.waveOscillationsSpec.post enc Try.prog Try.f15 false true false false) := by
 refine returnsInHanded_of_change (C := Try.checked) Try.own started (by kernel_rfl) Try.func15
  (ChangeSpec.witness6 (enc := enc) (C := Try.checked) false ⟨#[], #[.agg #[.slice none 0 0, .slice none 0 0], .agg #[.int .i64 0, .int .i64 0], .agg #[.int .i64 0, .slice none 0 0, .slice none 0 0, .slice none 0 0, .int .i64 0, .int .i64 0, .int .i64 0]], []⟩ 8 (by kernel_rfl) (by kernel_rfl) (by kernel_rfl) (by kernel_rfl)) ?_
 intro W base args ds gs before hval hW _ _
 refine law_calls (m := 8) Try.laidOut (bt := 4) (by kernel_rfl) Try.underlying4 rfl (by kernel_rfl) ?_ waveOscillations_data hval hW
 intro ds' hd
 rw [Try.params15] at hd
 match ds', hd with
 | [d1, d2, d3], _ => exact ⟨rfl, rfl, rfl⟩

theorem waveOscillations_holds : Rows.WaveOscillationsSaid :=
 OpenClaim.holds_of_wide 15 Try.f15 rfl rfl rfl rfl rfl rfl rfl ⟨rfl, rfl, rfl, rfl, rfl⟩ rfl rfl rfl rfl rfl (by kernel_rfl) Try.func15 (by kernel_rfl)
  (of_decide_eq_true (by kernel_rfl)) (by unfold Func.isWrapper; first | (rw [if_pos (by decide +kernel)]; kernel_rfl) | (rw [if_neg (by decide +kernel)]; exact ⟨rfl, rfl⟩))
  (fun os started H enc _ => waveOscillations_lifted os started H enc)

#print axioms waveOscillations_holds

end Go.Proofs.Ytadmimjaelodkaa

