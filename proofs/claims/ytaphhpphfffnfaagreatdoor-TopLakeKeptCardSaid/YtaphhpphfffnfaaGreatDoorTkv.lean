/- Fractions: order, rounding; plain arithmetic, no program in sight. -/
import Derived.Test.YtaphhpphfffnfaaGreatDoorTkk
import Derived.Test.YtaphhpphfffnfaaGreatDoorTkp
namespace Go.DI
open Lk
theorem rle {a b c d:Int} (hb : 0<b) (hd : 0<d):Rat.divInt a b≤Rat.divInt c d↔a * d≤c * b:=by
 rw [Rat.le_iff_sub_nonneg,Rat.divInt_sub_divInt _ _ (by omega) (by omega),Rat.divInt_nonneg_iff_of_pos_right (Int.mul_pos hd hb)]
 omega
theorem rlt {a b c d:Int} (hb : 0<b) (hd : 0<d):Rat.divInt a b<Rat.divInt c d↔a * d<c * b:=by
 rw [← Rat.not_le,rle hd hb]
 omega
end Go.DI

