/- The statement WaveAgree: from the state of a steady oscillation at a tick the grid reaches, with the closing of the next tick, that at the next tick; after four ticks it is where it was; at a resonance its closing is always 0. No condition. -/
import Derived.Test.YtadmimjaelodkaaWoGl
import Derived.Test.YtadmimjaelodkaaWgzb
set_option maxRecDepth 100000
namespace Go.Proofs.Ytadmimjaelodkaa
open Go.ChangeShapes Go.WideShapes Go.ChangeAt Go.RowKit Go.DI 

theorem waveAgree_data (vs : List IV) (h : Typed Try.prog 8 Try.f16.params.toList vs) : Contract Try.prog 16 vs (.bool true) := by
 rw [Try.params16] at h
 obtain ⟨x1, b1, rfl, h1, x2, b2, rfl, h2, x3, b3, rfl, h3, rfl⟩ := h
 obtain ⟨x, e1⟩ := arg_line (m := 4) h1
 obtain ⟨n, e2, hb⟩ := arg_int (m := 7) h2
 obtain ⟨a, b, e3⟩ := arg_gauss (m := 6) h3
 rw [e1, e2, e3]
 exact l_WaveAgree (g := (a, b))

theorem waveAgree_lifted (os : Os) (started : os.Started) (H : Type) (enc : TypeId × Value → H) :
  ReturnsInHanded {} Try.checked os 16 .any (Rows.waveAgreeSpec.pre6 enc Try.prog Try.f16 Rows.waveAgreeRow.domain false) (Rows.waveAgreeSpec.post enc Try.prog Try.f16 false true false false) := by
 refine returnsInHanded_of_change (C := Try.checked) Try.own started (by kernel_rfl) Try.func16
  (ChangeSpec.witness6 (enc := enc) (C := Try.checked) false ⟨#[], #[.agg #[.slice none 0 0, .slice none 0 0], .int .i64 0, .agg #[.int .i64 0, .int .i64 0]], []⟩ 8 (by kernel_rfl) (by kernel_rfl) (by kernel_rfl) (by kernel_rfl)) ?_
 intro W base args ds gs before hval hW _ _
 refine law_calls (m := 8) Try.laidOut (bt := 4) (by kernel_rfl) Try.underlying4 rfl (by kernel_rfl) ?_ waveAgree_data hval hW
 intro ds' hd
 rw [Try.params16] at hd
 match ds', hd with
 | [d1, d2, d3], _ => exact ⟨rfl, rfl, rfl⟩

theorem waveAgree_holds : Rows.WaveAgreeSaid :=
 OpenClaim.holds_of_wide 16 Try.f16 rfl rfl rfl rfl rfl rfl rfl ⟨rfl, rfl, rfl, rfl, rfl⟩ rfl rfl rfl rfl rfl (by kernel_rfl) Try.func16 (by kernel_rfl)
  (of_decide_eq_true (by kernel_rfl)) (by unfold Func.isWrapper; first | (rw [if_pos (by decide +kernel)]; kernel_rfl) | (rw [if_neg (by decide +kernel)]; exact ⟨rfl, rfl⟩))
  (fun os started H enc _ => waveAgree_lifted os started H enc)

#print axioms waveAgree_holds

end Go.Proofs.Ytadmimjaelodkaa

