/- The statement TopLakeKept: a table and flows are written as strings and read again; a run of lakes that lose nothing keeps the water; its levels agree with the first volume, and a level that is too high contradicts one of them. No condition. -/
import Derived.Test.YtaphhpphfffnfaaGreatDoorTkzc
import Derived.Test.YtaphhpphfffnfaaGreatDoorTkzj
import Derived.Test.YtaphhpphfffnfaaGreatDoorCards
import Derived.SevenTiedAt
set_option maxRecDepth 100000
namespace Go.Proofs.YtaphhpphfffnfaaGreatDoor
open Go.ChangeShapes Go.WideShapes Go.ChangeAt Go.RowKit Go.DI Go.DI.Lk
theorem topLakeKept_data (vs:List IV) (h:Typed Tryz.prog 8 Tryz.f7.params.toList vs):Contract Tryz.prog 7 vs (.bool true):=by
 rw [Tryz.params7] at h
 obtain ⟨x1,b1,rfl,h1,x2,b2,rfl,h2,x3,b3,rfl,h3,rfl⟩:=h
 obtain ⟨p,e1,hu⟩:=arg_pairB (m:=3) h1
 obtain ⟨s,e2⟩:=arg_state (m:=6) h2
 obtain ⟨l,e3,hl⟩:=arg_flowsB (m:=5) h3
 rw [e1,e2,e3]
 exact l_TopLakeKept hu hl
theorem topLakeKept_lifted (os:Os) (started:os.Started) (H:Type) (enc:TypeId × Value→H) :
  ReturnsInHanded {} Tryz.checked os 7 .any (fun w args=>(Rows.topLakeKeptSpec.pre enc Tryz.prog Tryz.f7 Rows.topLakeKeptRow.domain false w args∧laidMetH Tryz.prog seatLaid w)∧sizedMet enc Tryz.prog Tryz.f7 (OpenSpec.ofChange Rows.topLakeKeptSpec) false w args)
   (Rows.topLakeKeptSpec.post enc Tryz.prog Tryz.f7 false true false false):=by
 refine change_laid (C:=Tryz.checked) (X:=fun w _=>laidMetH Tryz.prog seatLaid w) (fun _ _ _ hh h=>h.of_heap hh) Tryz.own started (by kernel_rfl) Tryz.func7
  (ChangeSpec.witness_shaped (enc:=enc) (C:=Tryz.checked) (os:=os) (X:=fun w _=>laidMetH Tryz.prog seatLaid w) false (World.laidAll Tryz.prog os seatLaid) #[.agg #[.slice none 0 0,.slice none 0 0,.int .i64 0],.agg #[.int .i64 0,.int .i64 0],.slice none 0 0] 8 (World.laidAll_os _ _ _)
   (World.shaped_of_ZipB (by kernel_rfl) (by kernel_rfl)) (by kernel_rfl) (by kernel_rfl) (by kernel_rfl) (seat_met os _)) ?_
 intro W base args ds gs before hval hW hL hsh
 refine law_calls (m:=8) Tryz.laidOut (bt:=4) (by kernel_rfl) Tryz.underlying4 rfl (by kernel_rfl) ?_ topLakeKept_data hval hW (seat_lay hsh hL)
 intro ds' hd
 rw [Tryz.params7] at hd
 match ds',hd with
 | [d1,d2,d3],_=>exact ⟨rfl,rfl,rfl⟩
end Go.Proofs.YtaphhpphfffnfaaGreatDoor

