/- The statement TopSurgeWorst: rules are written as a string and read again; the bound of a cover, the worst surge within its stated gap, its witness and the shortest wait agree with a real day of the surge tank. No condition. -/
import Derived.Test.YtaphhpphfffnfaaGreatDoorTwzi
set_option maxRecDepth 100000
namespace Go.Proofs.YtaphhpphfffnfaaGreatDoor
open Go.ChangeShapes Go.WideShapes Go.ChangeAt Go.RowKit Go.DI Go.DI.Sg
theorem topSurgeWorst_c1:Rows.topSurgeWorstRow.wfByText (OpenSpec.ofChange Rows.topSurgeWorstSpec)=true:=by kernel_rfl
theorem topSurgeWorst_c2 : Tryz.prog.mainIs = some (true, "b2968574a37c2f90b09f2739b22445e02d24d5f0e540d7c6275b209c1a9c9167".toList) := by kernel_rfl
theorem topSurgeWorst_c3 : Tryz.prog.funcNamed "guidevane/guidevanetop.TopSurgeWorst" = some 9 := by kernel_rfl
theorem topSurgeWorst_c4:true=Tryz.prog.looks []:=by kernel_rfl
theorem topSurgeWorst_c5:(Tryz.f9.params.toList.all fun u => !Tryz.prog.wantsStandIn u)=true:=by kernel_rfl
theorem topSurgeWorst_c6:false=Rows.topSurgeWorstRow.goesBy Tryz.prog:=by kernel_rfl
theorem topSurgeWorst_holds:Rows.TopSurgeWorstCardSaid :=
 Claim7.holds_tied_plain_at .later [] [.data, .data, .data, .data, .sentinel, .sentinel, .pinned] true (true, "b2968574a37c2f90b09f2739b22445e02d24d5f0e540d7c6275b209c1a9c9167") true
  topSurgeWorst_row (fun _ h=>by cases h) topSurgeWorst_c1 (fun _ h=>by cases h) topSurgeWorst_row_tie rfl ⟨rfl,rfl⟩ topSurgeWorst_c2 rfl
  (fun f fn hf hfn=>by
   obtain rfl:f=9:=Option.some.inj (topSurgeWorst_c3.symm.trans hf) |>.symm
   obtain rfl:fn=Tryz.f9:=(Option.some.inj (Tryz.func9.symm.trans hfn)).symm
   exact ⟨topSurgeWorst_c4,fun j t ht=>by
    have hm:t ∈ Tryz.f9.params.toList:=by simpa using Array.mem_of_getElem? ht
    exact (show Tryz.prog.wantsStandIn t=false by simpa using List.all_eq_true.1 topSurgeWorst_c5 t hm)⟩)
  topSurgeWorst_c6
#print axioms topSurgeWorst_holds
end Go.Proofs.YtaphhpphfffnfaaGreatDoor

