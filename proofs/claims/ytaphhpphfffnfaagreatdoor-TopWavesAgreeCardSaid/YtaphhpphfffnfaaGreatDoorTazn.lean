/- The statement TopWavesAgree: a line is written as a string and read again; in its steady oscillation at a quarter the real pressure and flow at the valve, which the grid reaches tick by tick, have amplitudes whose quotient is the impedance; at each tick the water that the valve takes is what its closing leaves. No condition. -/
import Derived.Test.YtaphhpphfffnfaaGreatDoorTazm
set_option maxRecDepth 100000
namespace Go.Proofs.YtaphhpphfffnfaaGreatDoor
open Go.ChangeShapes Go.WideShapes Go.ChangeAt Go.RowKit Go.DI
theorem topWavesAgree_c1:Rows.topWavesAgreeRow.wfByText (OpenSpec.ofChange Rows.topWavesAgreeSpec)=true:=by kernel_rfl
theorem topWavesAgree_c2 : Tryz.prog.mainIs = some (true, "b2968574a37c2f90b09f2739b22445e02d24d5f0e540d7c6275b209c1a9c9167".toList) := by kernel_rfl
theorem topWavesAgree_c3 : Tryz.prog.funcNamed "guidevane/guidevanetop.TopWavesAgree" = some 8 := by kernel_rfl
theorem topWavesAgree_c4:true=Tryz.prog.looks []:=by kernel_rfl
theorem topWavesAgree_c5:(Tryz.f8.params.toList.all fun u => !Tryz.prog.wantsStandIn u)=true:=by kernel_rfl
theorem topWavesAgree_c6:false=Rows.topWavesAgreeRow.goesBy Tryz.prog:=by kernel_rfl
theorem topWavesAgree_holds:Rows.TopWavesAgreeCardSaid :=
 Claim7.holds_tied_plain_at .later [] [.data, .data, .data, .data, .sentinel, .sentinel, .pinned] true (true, "b2968574a37c2f90b09f2739b22445e02d24d5f0e540d7c6275b209c1a9c9167") true
  topWavesAgree_row (fun _ h=>by cases h) topWavesAgree_c1 (fun _ h=>by cases h) topWavesAgree_row_tie rfl ⟨rfl,rfl⟩ topWavesAgree_c2 rfl
  (fun f fn hf hfn=>by
   obtain rfl:f=8:=Option.some.inj (topWavesAgree_c3.symm.trans hf) |>.symm
   obtain rfl:fn=Tryz.f8:=(Option.some.inj (Tryz.func8.symm.trans hfn)).symm
   exact ⟨topWavesAgree_c4,fun j t ht=>by
    have hm:t ∈ Tryz.f8.params.toList:=by simpa using Array.mem_of_getElem? ht
    exact (show Tryz.prog.wantsStandIn t=false by simpa using List.all_eq_true.1 topWavesAgree_c5 t hm)⟩)
  topWavesAgree_c6
#print axioms topWavesAgree_holds
end Go.Proofs.YtaphhpphfffnfaaGreatDoor

