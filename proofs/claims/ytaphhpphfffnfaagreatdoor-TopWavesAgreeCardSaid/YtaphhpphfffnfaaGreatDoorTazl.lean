/- The statement TopWavesAgree: a line is written as a string and read again; in its steady oscillation at a quarter the real pressure and flow at the valve, which the grid reaches tick by tick, have amplitudes whose quotient is the impedance; at each tick the water that the valve takes is what its closing leaves. No condition. The row's closed facts. -/
import Derived.Test.YtaphhpphfffnfaaGreatDoorTazk
import Derived.JoinedOf
set_option maxRecDepth 100000
namespace Go.Proofs.YtaphhpphfffnfaaGreatDoor
open Go
theorem fact_and {a b:Bool} (ha:a=true) (hb:b=true):(a && b)=true:=by rw [ha,hb]; rfl
theorem topWavesAgree_fact0:(Rows.topWavesAgreeRow.wf (OpenSpec.ofChange Rows.topWavesAgreeSpec):Bool)=true:=by kernel_rfl
theorem topWavesAgree_fact1:(laidOutB Tryz.prog:Bool)=true:=by kernel_rfl
theorem topWavesAgree_fact2:(mapsRowed Tryz.prog:Bool)=true:=by kernel_rfl
theorem topWavesAgree_fact3:(Tryz.f8.params.all (Tryz.prog.readableRec ·):Bool)=true:=by kernel_rfl
theorem topWavesAgree_fact4:(namedTie Tryz.prog Rows.topWavesAgreeRow.named Rows.topWavesAgreeSpec.vars:Bool)=true:=by kernel_rfl
theorem topWavesAgree_fact5:((Rows.topWavesAgreeRow.stops == []):Bool)=true:=by kernel_rfl
theorem topWavesAgree_fact6:((Tryz.prog.stops == []):Bool)=true:=by kernel_rfl
theorem topWavesAgree_fact7:((Rows.topWavesAgreeRow.knobs == []):Bool)=true:=by kernel_rfl
theorem topWavesAgree_fact8:((Tryz.prog.stopKnobs == []):Bool)=true:=by kernel_rfl
theorem topWavesAgree_fact9:((Rows.topWavesAgreeRow.inPlace == Tryz.prog.inPlace 8):Bool)=true:=by kernel_rfl
theorem topWavesAgree_fact10:((Rows.topWavesAgreeRow.unfollowed == Tryz.prog.unfollowed 8):Bool)=true:=by kernel_rfl
theorem topWavesAgree_fact11:((Rows.topWavesAgreeRow.recurses == Tryz.prog.recurses 8):Bool)=true:=by kernel_rfl
theorem topWavesAgree_fact12:((Rows.topWavesAgreeRow.named == Tryz.prog.varsNamed 8):Bool)=true:=by kernel_rfl
theorem topWavesAgree_fact13:((Rows.topWavesAgreeRow.maps == (Tryz.f8.params.toList ++ Rows.topWavesAgreeSpec.plain.varTypes Tryz.prog).any (Tryz.prog.mapsRec ·)):Bool)=true:=by kernel_rfl
theorem topWavesAgree_fact14:((Rows.topWavesAgreeRow.ifaces == (Tryz.f8.params.toList ++ Rows.topWavesAgreeSpec.plain.varTypes Tryz.prog).any (Tryz.prog.ifacesRec ·)):Bool)=true:=by kernel_rfl
theorem topWavesAgree_fact15:((Rows.topWavesAgreeRow.mapsOut == Tryz.prog.mapsAmong Tryz.f8.resultTypes.toList):Bool)=true:=by kernel_rfl
theorem topWavesAgree_fact16:((Rows.topWavesAgreeRow.loops == (Tryz.f8.params.toList ++ Rows.topWavesAgreeSpec.plain.varTypes Tryz.prog).any (Tryz.prog.loopsFrom ·)):Bool)=true:=by kernel_rfl
theorem topWavesAgree_fact17:((Rows.topWavesAgreeRow.wideKeys == (Tryz.f8.params.toList ++ Rows.topWavesAgreeSpec.plain.varTypes Tryz.prog ++ Tryz.f8.resultTypes.toList).any (Tryz.prog.wideKeysFrom ·)):Bool)=true:=by kernel_rfl
theorem topWavesAgree_fact18:(Rows.topWavesAgreeSpec.vars.all (Tryz.prog.varReadable ·):Bool)=true:=by kernel_rfl
theorem topWavesAgree_fact19:(Tryz.f8.resultTypes.all (fun t=>Tryz.prog.readableRec t && decide (t<Tryz.prog.types.size)):Bool)=true:=by kernel_rfl
theorem topWavesAgree_fact20:((Rows.topWavesAgreeRow.ifacesOut == Tryz.f8.resultTypes.toList.any (Tryz.prog.ifacesRec ·)):Bool)=true:=by kernel_rfl
theorem topWavesAgree_fact21:((Rows.topWavesAgreeRow.loopsOut == Tryz.f8.resultTypes.toList.any (Tryz.prog.loopsFrom ·)):Bool)=true:=by kernel_rfl
theorem topWavesAgree_fact22:((Rows.topWavesAgreeRow.plainKeys == Tryz.prog.plainKeys):Bool)=true:=by kernel_rfl
theorem topWavesAgree_fact23:(Rows.topWavesAgreeRow.shortTexts.isNone:Bool)=true:=by kernel_rfl
theorem topWavesAgree_fact24:(Tryz.prog.stopsHeard:Bool)=true:=by kernel_rfl
theorem topWavesAgree_fact25:(Tryz.prog.mayEnter:Bool)=true:=by kernel_rfl
theorem topWavesAgree_fact26:((Rows.topWavesAgreeRow.lifted == Tryz.prog.liftsFinal):Bool)=true:=by kernel_rfl
theorem topWavesAgree_fact27:((Tryz.prog.make == some Rows.topWavesAgreeRow.make):Bool)=true:=by kernel_rfl
theorem topWavesAgree_fact28:((Rows.topWavesAgreeRow.kinds == (if Rows.topWavesAgreeRow.domain.isEmpty then [] else Tryz.f8.params.toList.map fun t=>match Tryz.prog.underlying t with | some (.int k)=>some k | _=>none)):Bool)=true:=by kernel_rfl
theorem topWavesAgree_fact29:((Rows.topWavesAgreeRow.pinned == Rows.topWavesAgreeRow.pinnedBy):Bool)=true:=by kernel_rfl
theorem topWavesAgree_fact30:((Rows.topWavesAgreeRow.veiled == (Tryz.f8.params.toList ++ Rows.topWavesAgreeSpec.plain.varTypes Tryz.prog ++ Tryz.f8.resultTypes.toList).any (Tryz.prog.veiledRec ·)):Bool)=true:=by kernel_rfl
theorem topWavesAgree_fact31:(Rows.topWavesAgreeRow.veiledFits Tryz.prog Tryz.f8.params.toList (Tryz.f8.params.toList ++ Rows.topWavesAgreeSpec.plain.varTypes Tryz.prog ++ Tryz.f8.resultTypes.toList):Bool)=true:=by kernel_rfl
theorem topWavesAgree_closed:joinedFacts Tryz.prog 8 Tryz.f8 Rows.topWavesAgreeSpec Rows.topWavesAgreeRow=true:=(fact_and (fact_and (fact_and (fact_and (fact_and (fact_and (fact_and (fact_and (fact_and (fact_and (fact_and (fact_and (fact_and (fact_and (fact_and (fact_and (fact_and (fact_and (fact_and (fact_and (fact_and (fact_and (fact_and (fact_and (fact_and (fact_and (fact_and (fact_and (fact_and (fact_and (fact_and topWavesAgree_fact0 topWavesAgree_fact1) topWavesAgree_fact2) topWavesAgree_fact3) topWavesAgree_fact4) topWavesAgree_fact5) topWavesAgree_fact6) topWavesAgree_fact7) topWavesAgree_fact8) topWavesAgree_fact9) topWavesAgree_fact10) topWavesAgree_fact11) topWavesAgree_fact12) topWavesAgree_fact13) topWavesAgree_fact14) topWavesAgree_fact15) topWavesAgree_fact16) topWavesAgree_fact17) topWavesAgree_fact18) topWavesAgree_fact19) topWavesAgree_fact20) topWavesAgree_fact21) topWavesAgree_fact22) topWavesAgree_fact23) topWavesAgree_fact24) topWavesAgree_fact25) topWavesAgree_fact26) topWavesAgree_fact27) topWavesAgree_fact28) topWavesAgree_fact29) topWavesAgree_fact30) topWavesAgree_fact31)
end Go.Proofs.YtaphhpphfffnfaaGreatDoor

