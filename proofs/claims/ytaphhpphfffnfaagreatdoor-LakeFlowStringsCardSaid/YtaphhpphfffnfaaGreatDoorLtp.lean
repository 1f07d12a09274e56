/- Lakes as plain data: levels and volumes at knots, in order; areas in order; readings. -/
import Derived.Test.YtaphhpphfffnfaaGreatDoorLto
namespace Go.DI.Lk

theorem isV_in {l : List Kn} (h : Valid l) {i : Nat} {x : Int} (h0 : 0 < i) (hi : i < l.length) (h1 : (kn l (i - 1)).2 ≤ x) (h2 : x ≤ (kn l i).2) : isV l x := by
  have a := h.le (j := i - 1) (by omega) (i := 0) (by omega)
  have b := h.le (j := l.length - 1) (by omega) (i := i) (by omega)
  unfold isV Wi bot top
  omega

theorem volume_isV {l : List Kn} (h : Valid l) {x : Int} (hx : isL l x) : isV l (volLo l x) ∧ isV l (volHi l x) ∧ volLo l x ≤ volHi l x ∧ volHi l x ≤ volLo l x + 1 := by
  obtain ⟨i, hi, i1, i2, i3, i4, i5⟩ := at_level h hx
  have := volume_in h hx hi
  exact ⟨isV_in h i1 i2 (by omega) (by omega), isV_in h i1 i2 (by omega) (by omega), by omega, by omega⟩

end Go.DI.Lk

