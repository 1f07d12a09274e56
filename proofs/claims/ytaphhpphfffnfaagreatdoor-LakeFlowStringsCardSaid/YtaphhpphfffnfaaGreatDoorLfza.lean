/- Contracts: the reference's levels, volumes, steps and runs; copies. No condition. -/
import Derived.Test.YtaphhpphfffnfaaGreatDoorLfz
set_option linter.unusedSimpArgs false
namespace Go.DI
open Go.Proofs Go.RowKit Lk

theorem isV_bd {l : List Kn} (h : Valid l) {x : Int} (hx : isV l x) : 0 ≤ x ∧ x ≤ 1000000000 := by
  have z := valid_len h
  have a := h.range (i := 0) z.1
  have b := h.range (i := l.length - 1) (by omega)
  unfold isV Wi bot top at hx
  omega

end Go.DI

