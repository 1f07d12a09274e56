/- The statement TopSurgeWorst: rules are written as a string and read again; the bound of a cover, the worst surge within its stated gap, its witness and the shortest wait agree with a real day of the surge tank. No condition. The row's closed facts. -/
import Derived.Test.YtaphhpphfffnfaaGreatDoorTwzg
import Derived.JoinedOf
set_option maxRecDepth 100000
namespace Go.Proofs.YtaphhpphfffnfaaGreatDoor
open Go
theorem fact_and {a b:Bool} (ha:a=true) (hb:b=true):(a && b)=true:=by rw [ha,hb]; rfl
theorem topSurgeWorst_fact0:(Rows.topSurgeWorstRow.wf (OpenSpec.ofChange Rows.topSurgeWorstSpec):Bool)=true:=by kernel_rfl
theorem topSurgeWorst_fact1:(laidOutB Tryz.prog:Bool)=true:=by kernel_rfl
theorem topSurgeWorst_fact2:(mapsRowed Tryz.prog:Bool)=true:=by kernel_rfl
theorem topSurgeWorst_fact3:(Tryz.f9.params.all (Tryz.prog.readableRec ·):Bool)=true:=by kernel_rfl
theorem topSurgeWorst_fact4:(namedTie Tryz.prog Rows.topSurgeWorstRow.named Rows.topSurgeWorstSpec.vars:Bool)=true:=by kernel_rfl
theorem topSurgeWorst_fact5:((Rows.topSurgeWorstRow.stops == []):Bool)=true:=by kernel_rfl
theorem topSurgeWorst_fact6:((Tryz.prog.stops == []):Bool)=true:=by kernel_rfl
theorem topSurgeWorst_fact7:((Rows.topSurgeWorstRow.knobs == []):Bool)=true:=by kernel_rfl
theorem topSurgeWorst_fact8:((Tryz.prog.stopKnobs == []):Bool)=true:=by kernel_rfl
theorem topSurgeWorst_fact9:((Rows.topSurgeWorstRow.inPlace == Tryz.prog.inPlace 9):Bool)=true:=by kernel_rfl
theorem topSurgeWorst_fact10:((Rows.topSurgeWorstRow.unfollowed == Tryz.prog.unfollowed 9):Bool)=true:=by kernel_rfl
theorem topSurgeWorst_fact11:((Rows.topSurgeWorstRow.recurses == Tryz.prog.recurses 9):Bool)=true:=by kernel_rfl
theorem topSurgeWorst_fact12:((Rows.topSurgeWorstRow.named == Tryz.prog.varsNamed 9):Bool)=true:=by kernel_rfl
theorem topSurgeWorst_fact13:((Rows.topSurgeWorstRow.maps == (Tryz.f9.params.toList ++ Rows.topSurgeWorstSpec.plain.varTypes Tryz.prog).any (Tryz.prog.mapsRec ·)):Bool)=true:=by kernel_rfl
theorem topSurgeWorst_fact14:((Rows.topSurgeWorstRow.ifaces == (Tryz.f9.params.toList ++ Rows.topSurgeWorstSpec.plain.varTypes Tryz.prog).any (Tryz.prog.ifacesRec ·)):Bool)=true:=by kernel_rfl
theorem topSurgeWorst_fact15:((Rows.topSurgeWorstRow.mapsOut == Tryz.prog.mapsAmong Tryz.f9.resultTypes.toList):Bool)=true:=by kernel_rfl
theorem topSurgeWorst_fact16:((Rows.topSurgeWorstRow.loops == (Tryz.f9.params.toList ++ Rows.topSurgeWorstSpec.plain.varTypes Tryz.prog).any (Tryz.prog.loopsFrom ·)):Bool)=true:=by kernel_rfl
theorem topSurgeWorst_fact17:((Rows.topSurgeWorstRow.wideKeys == (Tryz.f9.params.toList ++ Rows.topSurgeWorstSpec.plain.varTypes Tryz.prog ++ Tryz.f9.resultTypes.toList).any (Tryz.prog.wideKeysFrom ·)):Bool)=true:=by kernel_rfl
theorem topSurgeWorst_fact18:(Rows.topSurgeWorstSpec.vars.all (Tryz.prog.varReadable ·):Bool)=true:=by kernel_rfl
theorem topSurgeWorst_fact19:(Tryz.f9.resultTypes.all (fun t=>Tryz.prog.readableRec t && decide (t<Tryz.prog.types.size)):Bool)=true:=by kernel_rfl
theorem topSurgeWorst_fact20:((Rows.topSurgeWorstRow.ifacesOut == Tryz.f9.resultTypes.toList.any (Tryz.prog.ifacesRec ·)):Bool)=true:=by kernel_rfl
theorem topSurgeWorst_fact21:((Rows.topSurgeWorstRow.loopsOut == Tryz.f9.resultTypes.toList.any (Tryz.prog.loopsFrom ·)):Bool)=true:=by kernel_rfl
theorem topSurgeWorst_fact22:((Rows.topSurgeWorstRow.plainKeys == Tryz.prog.plainKeys):Bool)=true:=by kernel_rfl
theorem topSurgeWorst_fact23:(Rows.topSurgeWorstRow.shortTexts.isNone:Bool)=true:=by kernel_rfl
theorem topSurgeWorst_fact24:(Tryz.prog.stopsHeard:Bool)=true:=by kernel_rfl
theorem topSurgeWorst_fact25:(Tryz.prog.mayEnter:Bool)=true:=by kernel_rfl
theorem topSurgeWorst_fact26:((Rows.topSurgeWorstRow.lifted == Tryz.prog.liftsFinal):Bool)=true:=by kernel_rfl
theorem topSurgeWorst_fact27:((Tryz.prog.make == some Rows.topSurgeWorstRow.make):Bool)=true:=by kernel_rfl
theorem topSurgeWorst_fact28:((Rows.topSurgeWorstRow.kinds == (if Rows.topSurgeWorstRow.domain.isEmpty then [] else Tryz.f9.params.toList.map fun t=>match Tryz.prog.underlying t with | some (.int k)=>some k | _=>none)):Bool)=true:=by kernel_rfl
theorem topSurgeWorst_fact29:((Rows.topSurgeWorstRow.pinned == Rows.topSurgeWorstRow.pinnedBy):Bool)=true:=by kernel_rfl
theorem topSurgeWorst_fact30:((Rows.topSurgeWorstRow.veiled == (Tryz.f9.params.toList ++ Rows.topSurgeWorstSpec.plain.varTypes Tryz.prog ++ Tryz.f9.resultTypes.toList).any (Tryz.prog.veiledRec ·)):Bool)=true:=by kernel_rfl
theorem topSurgeWorst_fact31:(Rows.topSurgeWorstRow.veiledFits Tryz.prog Tryz.f9.params.toList (Tryz.f9.params.toList ++ Rows.topSurgeWorstSpec.plain.varTypes Tryz.prog ++ Tryz.f9.resultTypes.toList):Bool)=true:=by kernel_rfl
theorem topSurgeWorst_closed:joinedFacts Tryz.prog 9 Tryz.f9 Rows.topSurgeWorstSpec Rows.topSurgeWorstRow=true:=(fact_and (fact_and (fact_and (fact_and (fact_and (fact_and (fact_and (fact_and (fact_and (fact_and (fact_and (fact_and (fact_and (fact_and (fact_and (fact_and (fact_and (fact_and (fact_and (fact_and (fact_and (fact_and (fact_and (fact_and (fact_and (fact_and (fact_and (fact_and (fact_and (fact_and (fact_and topSurgeWorst_fact0 topSurgeWorst_fact1) topSurgeWorst_fact2) topSurgeWorst_fact3) topSurgeWorst_fact4) topSurgeWorst_fact5) topSurgeWorst_fact6) topSurgeWorst_fact7) topSurgeWorst_fact8) topSurgeWorst_fact9) topSurgeWorst_fact10) topSurgeWorst_fact11) topSurgeWorst_fact12) topSurgeWorst_fact13) topSurgeWorst_fact14) topSurgeWorst_fact15) topSurgeWorst_fact16) topSurgeWorst_fact17) topSurgeWorst_fact18) topSurgeWorst_fact19) topSurgeWorst_fact20) topSurgeWorst_fact21) topSurgeWorst_fact22) topSurgeWorst_fact23) topSurgeWorst_fact24) topSurgeWorst_fact25) topSurgeWorst_fact26) topSurgeWorst_fact27) topSurgeWorst_fact28) topSurgeWorst_fact29) topSurgeWorst_fact30) topSurgeWorst_fact31)
end Go.Proofs.YtaphhpphfffnfaaGreatDoor

