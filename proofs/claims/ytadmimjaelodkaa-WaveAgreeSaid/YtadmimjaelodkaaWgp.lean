/- The statement WaveQuarters, as a contract. No condition. -/
import Derived.Test.YtadmimjaelodkaaWgo
import Derived.Test.YtadmimjaelodkaaWgg
set_option linter.unusedSimpArgs false
set_option maxRecDepth 100000
namespace Go.DI
open Go.Proofs Go.RowKit

theorem GB.mono {M K : Int} {u : Ga} (h : GB M u) (k : M ≤ K) : GB K u := by
 have h1 := h.1; have h2 := h.2
 exact ⟨by omega, by omega⟩
end Go.DI

