/- The statement TopWavesAgree: a line is written as a string and read again; in its steady oscillation at a quarter the real pressure and flow at the valve, which the grid reaches tick by tick, have amplitudes whose quotient is the impedance; at each tick the water that the valve takes is what its closing leaves. No condition. -/
import Derived.Test.YtaphhpphfffnfaaGreatDoorTat
import Derived.Test.YtaphhpphfffnfaaGreatDoorTazj
import Derived.Test.YtaphhpphfffnfaaGreatDoorCards
import Derived.SevenTiedAt
set_option maxRecDepth 100000
namespace Go.Proofs.YtaphhpphfffnfaaGreatDoor
open Go.ChangeShapes Go.WideShapes Go.ChangeAt Go.RowKit Go.DI
theorem topWavesAgree_data (vs:List IV) (h:Typed Tryz.prog 8 Tryz.f8.params.toList vs):Contract Tryz.prog 8 vs (.bool true):=by
 rw [Tryz.params8] at h
 obtain ⟨x1,b1,rfl,h1,x2,b2,rfl,h2,x3,b3,rfl,h3,rfl⟩:=h
 obtain ⟨x,e1,hb⟩:=arg_lineB (m:=4) h1
 obtain ⟨n,e2,_⟩:=arg_int (m:=7) h2
 obtain ⟨a,b,e3⟩:=arg_gauss (m:=6) h3
 rw [e1,e2,e3]
 exact l_TopWavesAgree (g:=(a,b)) hb
theorem topWavesAgree_lifted (os:Os) (started:os.Started) (H:Type) (enc:TypeId × Value→H) :
  ReturnsInHanded {} Tryz.checked os 8 .any (fun w args=>(Rows.topWavesAgreeSpec.pre enc Tryz.prog Tryz.f8 Rows.topWavesAgreeRow.domain false w args∧laidMetH Tryz.prog seatLaid w)∧sizedMet enc Tryz.prog Tryz.f8 (OpenSpec.ofChange Rows.topWavesAgreeSpec) false w args)
   (Rows.topWavesAgreeSpec.post enc Tryz.prog Tryz.f8 false true false false):=by
 refine change_laid (C:=Tryz.checked) (X:=fun w _=>laidMetH Tryz.prog seatLaid w) (fun _ _ _ hh h=>h.of_heap hh) Tryz.own started (by kernel_rfl) Tryz.func8
  (ChangeSpec.witness_shaped (enc:=enc) (C:=Tryz.checked) (os:=os) (X:=fun w _=>laidMetH Tryz.prog seatLaid w) false (World.laidAll Tryz.prog os seatLaid) #[.agg #[.slice none 0 0,.slice none 0 0],.int .i64 0,.agg #[.int .i64 0,.int .i64 0]] 8 (World.laidAll_os _ _ _)
   (World.shaped_of_ZipB (by kernel_rfl) (by kernel_rfl)) (by kernel_rfl) (by kernel_rfl) (by kernel_rfl) (seat_met os _)) ?_
 intro W base args ds gs before hval hW hL hsh
 refine law_calls (m:=8) Tryz.laidOut (bt:=4) (by kernel_rfl) Tryz.underlying4 rfl (by kernel_rfl) ?_ topWavesAgree_data hval hW (seat_lay hsh hL)
 intro ds' hd
 rw [Tryz.params8] at hd
 match ds',hd with
 | [d1,d2,d3],_=>exact ⟨rfl,rfl,rfl⟩
end Go.Proofs.YtaphhpphfffnfaaGreatDoor

