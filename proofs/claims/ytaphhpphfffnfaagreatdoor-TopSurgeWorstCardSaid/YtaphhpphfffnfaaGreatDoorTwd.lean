/- Boxes as plain data: enclosed. No condition. -/
import Derived.Test.YtaphhpphfffnfaaGreatDoorTwGh
import Derived.Test.YtaphhpphfffnfaaGreatDoorTwc
namespace Go.DI
open Sg
def InB (b:Bx) (s:Sta):Prop:=Wi s.L b.ll b.lh∧Wi s.F b.fl b.fh
instance (b:Bx) (s:Sta):Decidable (InB b s):=inferInstanceAs (Decidable (_∧_))
theorem bstp_in {r:Ru} (hr:Sg.Good r) {b:Bx} {s:Sta} {load k:Int} (hl : 0≤load∧load≤1000) (hk:r.lo≤k∧k≤r.hi) (h:InB b s) (hb : -1000≤b.fl∧b.fh≤1000):InB (bstp r b load) (stp r s load k):=by
 have k0:=hr.lo; have k1:=hr.le
 obtain ⟨⟨h1,h2⟩,h3,h4⟩:=h
 have m:=stp_k hr (s:=s) (load:=load) hk
 have c1:=stp_corner hr (load:=load) (k:=r.lo) (L1:=b.ll) (L2:=s.L) (F1:=b.fl) (F2:=s.F) (by omega) hl h1 hb.1 h3 (by omega)
 have c2:=stp_corner hr (load:=load) (k:=r.hi) (L1:=b.ll) (L2:=s.L) (F1:=b.fl) (F2:=s.F) (by omega) hl h1 hb.1 h3 (by omega)
 have c3:=stp_corner hr (load:=load) (k:=r.lo) (L1:=s.L) (L2:=b.lh) (F1:=s.F) (F2:=b.fh) (by omega) hl h2 (by omega) h4 (by omega)
 have c4:=stp_corner hr (load:=load) (k:=r.hi) (L1:=s.L) (L2:=b.lh) (F1:=s.F) (F2:=b.fh) (by omega) hl h2 (by omega) h4 (by omega)
 have c5:=stp_corner hr (load:=load) (k:=r.lo) (L1:=s.L) (L2:=b.lh) (F1:=b.fl) (F2:=s.F) (by omega) hl h2 hb.1 h3 (by omega)
 have c6:=stp_corner hr (load:=load) (k:=r.hi) (L1:=s.L) (L2:=b.lh) (F1:=b.fl) (F2:=s.F) (by omega) hl h2 hb.1 h3 (by omega)
 have c7:=stp_corner hr (load:=load) (k:=r.lo) (L1:=b.ll) (L2:=s.L) (F1:=s.F) (F2:=b.fh) (by omega) hl h1 (by omega) h4 (by omega)
 have c8:=stp_corner hr (load:=load) (k:=r.hi) (L1:=b.ll) (L2:=s.L) (F1:=s.F) (F2:=b.fh) (by omega) hl h1 (by omega) h4 (by omega)
 obtain ⟨L,F⟩:=s
 unfold InB Wi bstp
 dsimp only at *
 omega
end Go.DI

