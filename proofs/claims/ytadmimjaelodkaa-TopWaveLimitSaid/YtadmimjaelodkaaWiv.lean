/- The statement TopWaveLimit: the fastest law within limits keeps the pressure at the valve in them, all pressures of cells on a plain line stay within twice the closing; wider limits never need a slower law; with the limits of the closing itself a plain line may close at once. No condition. -/
import Derived.Test.YtadmimjaelodkaaWiGl
import Derived.Test.YtadmimjaelodkaaWiu
set_option maxRecDepth 100000
namespace Go.Proofs.Ytadmimjaelodkaa
open Go.ChangeShapes Go.WideShapes Go.ChangeAt Go.RowKit Go.DI 

theorem topWaveLimit_data (vs : List IV) (h : Typed Try.prog 8 Try.f8.params.toList vs) : Contract Try.prog 8 vs (.bool true) := by
  rw [Try.params8] at h
  obtain ⟨x1, b1, rfl, h1, x2, b2, rfl, h2, x3, b3, rfl, h3, rfl⟩ := h
  obtain ⟨x, e1⟩ := arg_line (m := 4) h1
  obtain ⟨t, e2⟩ := arg_wtask (m := 5) h2
  obtain ⟨n, e3, hb⟩ := arg_int (m := 7) h3
  rw [e1, e2, e3]
  exact l_TopWaveLimit

theorem topWaveLimit_lifted (os : Os) (started : os.Started) (H : Type) (enc : TypeId × Value → H) :
    ReturnsInHanded {} Try.checked os 8 .any (Rows.topWaveLimitSpec.pre6 enc Try.prog Try.f8 Rows.topWaveLimitRow.domain false) (Rows.topWaveLimitSpec.post enc Try.prog Try.f8 false true false false) := by
  refine returnsInHanded_of_change (C := Try.checked) Try.own started (by kernel_rfl) Try.func8
    (ChangeSpec.witness6 (enc := enc) (C := Try.checked) false ⟨#[], #[.agg #[.slice none 0 0, .slice none 0 0], .agg #[.int .i64 0, .int .i64 0, .int .i64 0, .int .i64 0, .int .i64 0], .int .i64 0], []⟩ 8 (by kernel_rfl) (by kernel_rfl) (by kernel_rfl) (by kernel_rfl)) ?_
  intro W base args ds gs before hval hW _ _
  refine law_calls (m := 8) Try.laidOut (bt := 4) (by kernel_rfl) Try.underlying4 rfl (by kernel_rfl) ?_ topWaveLimit_data hval hW
  intro ds' hd
  rw [Try.params8] at hd
  match ds', hd with
  | [d1, d2, d3], _ => exact ⟨rfl, rfl, rfl⟩

theorem topWaveLimit_holds : Rows.TopWaveLimitSaid :=
  OpenClaim.holds_of_wide 8 Try.f8 rfl rfl rfl rfl rfl rfl rfl ⟨rfl, rfl, rfl, rfl, rfl⟩ rfl rfl rfl rfl rfl (by kernel_rfl) Try.func8 (by kernel_rfl)
    (of_decide_eq_true (by kernel_rfl)) (by unfold Func.isWrapper; first | (rw [if_pos (by decide +kernel)]; kernel_rfl) | (rw [if_neg (by decide +kernel)]; exact ⟨rfl, rfl⟩))
    (fun os started H enc _ => topWaveLimit_lifted os started H enc)

#print axioms topWaveLimit_holds

end Go.Proofs.Ytadmimjaelodkaa

