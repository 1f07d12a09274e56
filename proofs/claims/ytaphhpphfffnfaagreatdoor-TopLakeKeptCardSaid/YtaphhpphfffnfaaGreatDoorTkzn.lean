/- The statement TopLakeKept: a table and flows are written as strings and read again; a run of lakes that lose nothing keeps the water; its levels agree with the first volume, and a level that is too high contradicts one of them. No condition. -/
import Derived.Test.YtaphhpphfffnfaaGreatDoorTkzm
set_option maxRecDepth 100000
namespace Go.Proofs.YtaphhpphfffnfaaGreatDoor
open Go.ChangeShapes Go.WideShapes Go.ChangeAt Go.RowKit Go.DI Go.DI.Lk
theorem topLakeKept_c1:Rows.topLakeKeptRow.wfByText (OpenSpec.ofChange Rows.topLakeKeptSpec)=true:=by kernel_rfl
theorem topLakeKept_c2 : Tryz.prog.mainIs = some (true, "b2968574a37c2f90b09f2739b22445e02d24d5f0e540d7c6275b209c1a9c9167".toList) := by kernel_rfl
theorem topLakeKept_c3 : Tryz.prog.funcNamed "guidevane/guidevanetop.TopLakeKept" = some 7 := by kernel_rfl
theorem topLakeKept_c4:true=Tryz.prog.looks []:=by kernel_rfl
theorem topLakeKept_c5:(Tryz.f7.params.toList.all fun u => !Tryz.prog.wantsStandIn u)=true:=by kernel_rfl
theorem topLakeKept_c6:false=Rows.topLakeKeptRow.goesBy Tryz.prog:=by kernel_rfl
theorem topLakeKept_holds:Rows.TopLakeKeptCardSaid :=
 Claim7.holds_tied_plain_at .later [] [.data, .data, .data, .data, .sentinel, .sentinel, .pinned] true (true, "b2968574a37c2f90b09f2739b22445e02d24d5f0e540d7c6275b209c1a9c9167") true
  topLakeKept_row (fun _ h=>by cases h) topLakeKept_c1 (fun _ h=>by cases h) topLakeKept_row_tie rfl ⟨rfl,rfl⟩ topLakeKept_c2 rfl
  (fun f fn hf hfn=>by
   obtain rfl:f=7:=Option.some.inj (topLakeKept_c3.symm.trans hf) |>.symm
   obtain rfl:fn=Tryz.f7:=(Option.some.inj (Tryz.func7.symm.trans hfn)).symm
   exact ⟨topLakeKept_c4,fun j t ht=>by
    have hm:t ∈ Tryz.f7.params.toList:=by simpa using Array.mem_of_getElem? ht
    exact (show Tryz.prog.wantsStandIn t=false by simpa using List.all_eq_true.1 topLakeKept_c5 t hm)⟩)
  topLakeKept_c6
#print axioms topLakeKept_holds
end Go.Proofs.YtaphhpphfffnfaaGreatDoor

