/- The statement TopLakeKept: a table and flows are written as strings and read again; a run of lakes that lose nothing keeps the water; its levels agree with the first volume, and a level that is too high contradicts one of them. No condition. The row's closed facts. -/
import Derived.Test.YtaphhpphfffnfaaGreatDoorTkzk
import Derived.JoinedOf
set_option maxRecDepth 100000
namespace Go.Proofs.YtaphhpphfffnfaaGreatDoor
open Go
theorem fact_and {a b:Bool} (ha:a=true) (hb:b=true):(a && b)=true:=by rw [ha,hb]; rfl
theorem topLakeKept_fact0:(Rows.topLakeKeptRow.wf (OpenSpec.ofChange Rows.topLakeKeptSpec):Bool)=true:=by kernel_rfl
theorem topLakeKept_fact1:(laidOutB Tryz.prog:Bool)=true:=by kernel_rfl
theorem topLakeKept_fact2:(mapsRowed Tryz.prog:Bool)=true:=by kernel_rfl
theorem topLakeKept_fact3:(Tryz.f7.params.all (Tryz.prog.readableRec ·):Bool)=true:=by kernel_rfl
theorem topLakeKept_fact4:(namedTie Tryz.prog Rows.topLakeKeptRow.named Rows.topLakeKeptSpec.vars:Bool)=true:=by kernel_rfl
theorem topLakeKept_fact5:((Rows.topLakeKeptRow.stops == []):Bool)=true:=by kernel_rfl
theorem topLakeKept_fact6:((Tryz.prog.stops == []):Bool)=true:=by kernel_rfl
theorem topLakeKept_fact7:((Rows.topLakeKeptRow.knobs == []):Bool)=true:=by kernel_rfl
theorem topLakeKept_fact8:((Tryz.prog.stopKnobs == []):Bool)=true:=by kernel_rfl
theorem topLakeKept_fact9:((Rows.topLakeKeptRow.inPlace == Tryz.prog.inPlace 7):Bool)=true:=by kernel_rfl
theorem topLakeKept_fact10:((Rows.topLakeKeptRow.unfollowed == Tryz.prog.unfollowed 7):Bool)=true:=by kernel_rfl
theorem topLakeKept_fact11:((Rows.topLakeKeptRow.recurses == Tryz.prog.recurses 7):Bool)=true:=by kernel_rfl
theorem topLakeKept_fact12:((Rows.topLakeKeptRow.named == Tryz.prog.varsNamed 7):Bool)=true:=by kernel_rfl
theorem topLakeKept_fact13:((Rows.topLakeKeptRow.maps == (Tryz.f7.params.toList ++ Rows.topLakeKeptSpec.plain.varTypes Tryz.prog).any (Tryz.prog.mapsRec ·)):Bool)=true:=by kernel_rfl
theorem topLakeKept_fact14:((Rows.topLakeKeptRow.ifaces == (Tryz.f7.params.toList ++ Rows.topLakeKeptSpec.plain.varTypes Tryz.prog).any (Tryz.prog.ifacesRec ·)):Bool)=true:=by kernel_rfl
theorem topLakeKept_fact15:((Rows.topLakeKeptRow.mapsOut == Tryz.prog.mapsAmong Tryz.f7.resultTypes.toList):Bool)=true:=by kernel_rfl
theorem topLakeKept_fact16:((Rows.topLakeKeptRow.loops == (Tryz.f7.params.toList ++ Rows.topLakeKeptSpec.plain.varTypes Tryz.prog).any (Tryz.prog.loopsFrom ·)):Bool)=true:=by kernel_rfl
theorem topLakeKept_fact17:((Rows.topLakeKeptRow.wideKeys == (Tryz.f7.params.toList ++ Rows.topLakeKeptSpec.plain.varTypes Tryz.prog ++ Tryz.f7.resultTypes.toList).any (Tryz.prog.wideKeysFrom ·)):Bool)=true:=by kernel_rfl
theorem topLakeKept_fact18:(Rows.topLakeKeptSpec.vars.all (Tryz.prog.varReadable ·):Bool)=true:=by kernel_rfl
theorem topLakeKept_fact19:(Tryz.f7.resultTypes.all (fun t=>Tryz.prog.readableRec t && decide (t<Tryz.prog.types.size)):Bool)=true:=by kernel_rfl
theorem topLakeKept_fact20:((Rows.topLakeKeptRow.ifacesOut == Tryz.f7.resultTypes.toList.any (Tryz.prog.ifacesRec ·)):Bool)=true:=by kernel_rfl
theorem topLakeKept_fact21:((Rows.topLakeKeptRow.loopsOut == Tryz.f7.resultTypes.toList.any (Tryz.prog.loopsFrom ·)):Bool)=true:=by kernel_rfl
theorem topLakeKept_fact22:((Rows.topLakeKeptRow.plainKeys == Tryz.prog.plainKeys):Bool)=true:=by kernel_rfl
theorem topLakeKept_fact23:(Rows.topLakeKeptRow.shortTexts.isNone:Bool)=true:=by kernel_rfl
theorem topLakeKept_fact24:(Tryz.prog.stopsHeard:Bool)=true:=by kernel_rfl
theorem topLakeKept_fact25:(Tryz.prog.mayEnter:Bool)=true:=by kernel_rfl
theorem topLakeKept_fact26:((Rows.topLakeKeptRow.lifted == Tryz.prog.liftsFinal):Bool)=true:=by kernel_rfl
theorem topLakeKept_fact27:((Tryz.prog.make == some Rows.topLakeKeptRow.make):Bool)=true:=by kernel_rfl
theorem topLakeKept_fact28:((Rows.topLakeKeptRow.kinds == (if Rows.topLakeKeptRow.domain.isEmpty then [] else Tryz.f7.params.toList.map fun t=>match Tryz.prog.underlying t with | some (.int k)=>some k | _=>none)):Bool)=true:=by kernel_rfl
theorem topLakeKept_fact29:((Rows.topLakeKeptRow.pinned == Rows.topLakeKeptRow.pinnedBy):Bool)=true:=by kernel_rfl
theorem topLakeKept_fact30:((Rows.topLakeKeptRow.veiled == (Tryz.f7.params.toList ++ Rows.topLakeKeptSpec.plain.varTypes Tryz.prog ++ Tryz.f7.resultTypes.toList).any (Tryz.prog.veiledRec ·)):Bool)=true:=by kernel_rfl
theorem topLakeKept_fact31:(Rows.topLakeKeptRow.veiledFits Tryz.prog Tryz.f7.params.toList (Tryz.f7.params.toList ++ Rows.topLakeKeptSpec.plain.varTypes Tryz.prog ++ Tryz.f7.resultTypes.toList):Bool)=true:=by kernel_rfl
theorem topLakeKept_closed:joinedFacts Tryz.prog 7 Tryz.f7 Rows.topLakeKeptSpec Rows.topLakeKeptRow=true:=(fact_and (fact_and (fact_and (fact_and (fact_and (fact_and (fact_and (fact_and (fact_and (fact_and (fact_and (fact_and (fact_and (fact_and (fact_and (fact_and (fact_and (fact_and (fact_and (fact_and (fact_and (fact_and (fact_and (fact_and (fact_and (fact_and (fact_and (fact_and (fact_and (fact_and (fact_and topLakeKept_fact0 topLakeKept_fact1) topLakeKept_fact2) topLakeKept_fact3) topLakeKept_fact4) topLakeKept_fact5) topLakeKept_fact6) topLakeKept_fact7) topLakeKept_fact8) topLakeKept_fact9) topLakeKept_fact10) topLakeKept_fact11) topLakeKept_fact12) topLakeKept_fact13) topLakeKept_fact14) topLakeKept_fact15) topLakeKept_fact16) topLakeKept_fact17) topLakeKept_fact18) topLakeKept_fact19) topLakeKept_fact20) topLakeKept_fact21) topLakeKept_fact22) topLakeKept_fact23) topLakeKept_fact24) topLakeKept_fact25) topLakeKept_fact26) topLakeKept_fact27) topLakeKept_fact28) topLakeKept_fact29) topLakeKept_fact30) topLakeKept_fact31)
end Go.Proofs.YtaphhpphfffnfaaGreatDoor

