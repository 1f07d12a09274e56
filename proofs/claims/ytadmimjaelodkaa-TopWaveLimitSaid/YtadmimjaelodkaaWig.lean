/- The statement WaveTicks, as a contract. No condition. -/
import Derived.Test.YtadmimjaelodkaaWif
set_option linter.unusedSimpArgs false
set_option maxRecDepth 100000
namespace Go.DI
open Go.Proofs Go.RowKit

theorem few_sh {x : Ow} {s : Ws} (hx : OwOk x) (h : Sh x s) : FewS s := by
  have := hx.nb; have := hx.ars; have := hx.len
  have := h.f; have := h.b; have := h.l
  exact ⟨by omega, by omega, by omega⟩
end Go.DI

