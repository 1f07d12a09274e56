/- The statement WaveFastest: the fastest law is one, ends with what is to be closed, and keeps the limits; a given law that does so has no fewer numbers; if there is none no given law does so. No condition. -/
import Derived.Test.YtadmimjaelodkaaWcGl
import Derived.Test.YtadmimjaelodkaaWdi
set_option maxRecDepth 100000
namespace Go.Proofs.Ytadmimjaelodkaa
open Go.ChangeShapes Go.WideShapes Go.ChangeAt Go.RowKit Go.DI 

theorem waveFastest_data (vs : List IV) (h : Typed Try.prog 8 Try.f11.params.toList vs) : Contract Try.prog 11 vs (.bool true) := by
  rw [Try.params11] at h
  obtain ⟨x1, b1, rfl, h1, x2, b2, rfl, h2, x3, b3, rfl, h3, rfl⟩ := h
  obtain ⟨x, e1⟩ := arg_line (m := 4) h1
  obtain ⟨t, e2⟩ := arg_wtask (m := 5) h2
  obtain ⟨l, e3⟩ := arg_ints (m := 6) h3
  rw [e1, e2, e3]
  exact l_WaveFastest

theorem waveFastest_lifted (os : Os) (started : os.Started) (H : Type) (enc : TypeId × Value → H) :
    ReturnsInHanded {} Try.checked os 11 .any (Rows.waveFastestSpec.pre6 enc Try.prog Try.f11 Rows.waveFastestRow.domain false) (Rows.waveFastestSpec.post enc Try.prog Try.f11 false true false false) := by
  refine returnsInHanded_of_change (C := Try.checked) Try.own started (by kernel_rfl) Try.func11
    (ChangeSpec.witness6 (enc := enc) (C := Try.checked) false ⟨#[], #[.agg #[.slice none 0 0, .slice none 0 0], .agg #[.int .i64 0, .int .i64 0, .int .i64 0, .int .i64 0, .int .i64 0], .slice none 0 0], []⟩ 8 (by kernel_rfl) (by kernel_rfl) (by kernel_rfl) (by kernel_rfl)) ?_
  intro W base args ds gs before hval hW _ _
  refine law_calls (m := 8) Try.laidOut (bt := 4) (by kernel_rfl) Try.underlying4 rfl (by kernel_rfl) ?_ waveFastest_data hval hW
  intro ds' hd
  rw [Try.params11] at hd
  match ds', hd with
  | [d1, d2, d3], _ => exact ⟨rfl, rfl, rfl⟩

theorem waveFastest_holds : Rows.WaveFastestSaid :=
  OpenClaim.holds_of_wide 11 Try.f11 rfl rfl rfl rfl rfl rfl rfl ⟨rfl, rfl, rfl, rfl, rfl⟩ rfl rfl rfl rfl rfl (by kernel_rfl) Try.func11 (by kernel_rfl)
    (of_decide_eq_true (by kernel_rfl)) (by unfold Func.isWrapper; first | (rw [if_pos (by decide +kernel)]; kernel_rfl) | (rw [if_neg (by decide +kernel)]; exact ⟨rfl, rfl⟩))
    (fun os started H enc _ => waveFastest_lifted os started H enc)

#print axioms waveFastest_holds

end Go.Proofs.Ytadmimjaelodkaa

