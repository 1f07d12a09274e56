/- The statement TopSurgeWorst: rules are written as a string and read again; the bound of a cover, the worst surge within its stated gap, its witness and the shortest wait agree with a real day of the surge tank. No condition. -/
import Derived.Test.YtaphhpphfffnfaaGreatDoorTwb
import Derived.Test.YtaphhpphfffnfaaGreatDoorTwzf
import Derived.Test.YtaphhpphfffnfaaGreatDoorCards
import Derived.SevenTiedAt
set_option maxRecDepth 100000
namespace Go.Proofs.YtaphhpphfffnfaaGreatDoor
open Go.ChangeShapes Go.WideShapes Go.ChangeAt Go.RowKit Go.DI Go.DI.Sg
theorem topSurgeWorst_data (vs:List IV) (h:Typed Tryz.prog 8 Tryz.f9.params.toList vs):Contract Tryz.prog 9 vs (.bool true):=by
 rw [Tryz.params9] at h
 obtain ⟨x1,b1,rfl,h1,x2,b2,rfl,h2,x3,b3,rfl,h3,rfl⟩:=h
 obtain ⟨r,e1,hb⟩:=arg_rulesB (m:=5) h1
 obtain ⟨p,e2⟩:=arg_plan (m:=5) h2
 obtain ⟨v,C,e3,hC⟩:=arg_day (m:=3) h3
 rw [e1,e2,e3]
 exact l_TopSurgeWorst hb hC
theorem topSurgeWorst_lifted (os:Os) (started:os.Started) (H:Type) (enc:TypeId × Value→H) :
  ReturnsInHanded {} Tryz.checked os 9 .any (fun w args=>(Rows.topSurgeWorstSpec.pre enc Tryz.prog Tryz.f9 Rows.topSurgeWorstRow.domain false w args∧laidMetH Tryz.prog seatLaid w)∧sizedMet enc Tryz.prog Tryz.f9 (OpenSpec.ofChange Rows.topSurgeWorstSpec) false w args)
   (Rows.topSurgeWorstSpec.post enc Tryz.prog Tryz.f9 false true false false):=by
 refine change_laid (C:=Tryz.checked) (X:=fun w _=>laidMetH Tryz.prog seatLaid w) (fun _ _ _ hh h=>h.of_heap hh) Tryz.own started (by kernel_rfl) Tryz.func9
  (ChangeSpec.witness_shaped (enc:=enc) (C:=Tryz.checked) (os:=os) (X:=fun w _=>laidMetH Tryz.prog seatLaid w) false (World.laidAll Tryz.prog os seatLaid) #[.agg #[.int .i64 0,.int .i64 0,.int .i64 0,.int .i64 0,.int .i64 0],.agg #[.int .i64 0,.slice none 0 0,.int .i64 0,.int .i64 0],.agg #[.int .i64 0,.int .i64 0,.int .i64 0,.int .i64 0,.int .i64 0,.int .i64 0,.int .i64 0,.slice none 0 0]] 8 (World.laidAll_os _ _ _)
   (World.shaped_of_ZipB (by kernel_rfl) (by kernel_rfl)) (by kernel_rfl) (by kernel_rfl) (by kernel_rfl) (seat_met os _)) ?_
 intro W base args ds gs before hval hW hL hsh
 refine law_calls (m:=8) Tryz.laidOut (bt:=4) (by kernel_rfl) Tryz.underlying4 rfl (by kernel_rfl) ?_ topSurgeWorst_data hval hW (seat_lay hsh hL)
 intro ds' hd
 rw [Tryz.params9] at hd
 match ds',hd with
 | [d1,d2,d3],_=>exact ⟨rfl,rfl,rfl⟩
end Go.Proofs.YtaphhpphfffnfaaGreatDoor

