/- The statement LakeTableStrings: the string of a table, and the table with any string, or the errors, are as specified; valid ones are parsed again. No condition. The row's closed facts. -/
import Derived.Test.YtaphhpphfffnfaaGreatDoorLtzl
import Derived.JoinedOf
set_option maxRecDepth 100000
namespace Go.Proofs.YtaphhpphfffnfaaGreatDoor
open Go
theorem fact_and {a b : Bool} (ha : a = true) (hb : b = true) : (a && b) = true := by rw [ha, hb]; rfl
theorem lakeTableStrings_fact0 : (Rows.lakeTableStringsRow.wf (OpenSpec.ofChange Rows.lakeTableStringsSpec) : Bool) = true := by kernel_rfl
theorem lakeTableStrings_fact1 : (laidOutB Tryz.prog : Bool) = true := by kernel_rfl
theorem lakeTableStrings_fact2 : (mapsRowed Tryz.prog : Bool) = true := by kernel_rfl
theorem lakeTableStrings_fact3 : (Tryz.f5.params.all (Tryz.prog.readableRec ·) : Bool) = true := by kernel_rfl
theorem lakeTableStrings_fact4 : (namedTie Tryz.prog Rows.lakeTableStringsRow.named Rows.lakeTableStringsSpec.vars : Bool) = true := by kernel_rfl
theorem lakeTableStrings_fact5 : ((Rows.lakeTableStringsRow.stops == []) : Bool) = true := by kernel_rfl
theorem lakeTableStrings_fact6 : ((Tryz.prog.stops == []) : Bool) = true := by kernel_rfl
theorem lakeTableStrings_fact7 : ((Rows.lakeTableStringsRow.knobs == []) : Bool) = true := by kernel_rfl
theorem lakeTableStrings_fact8 : ((Tryz.prog.stopKnobs == []) : Bool) = true := by kernel_rfl
theorem lakeTableStrings_fact9 : ((Rows.lakeTableStringsRow.inPlace == Tryz.prog.inPlace 5) : Bool) = true := by kernel_rfl
theorem lakeTableStrings_fact10 : ((Rows.lakeTableStringsRow.unfollowed == Tryz.prog.unfollowed 5) : Bool) = true := by kernel_rfl
theorem lakeTableStrings_fact11 : ((Rows.lakeTableStringsRow.recurses == Tryz.prog.recurses 5) : Bool) = true := by kernel_rfl
theorem lakeTableStrings_fact12 : ((Rows.lakeTableStringsRow.named == Tryz.prog.varsNamed 5) : Bool) = true := by kernel_rfl
theorem lakeTableStrings_fact13 : ((Rows.lakeTableStringsRow.maps == (Tryz.f5.params.toList ++ Rows.lakeTableStringsSpec.plain.varTypes Tryz.prog).any (Tryz.prog.mapsRec ·)) : Bool) = true := by kernel_rfl
theorem lakeTableStrings_fact14 : ((Rows.lakeTableStringsRow.ifaces == (Tryz.f5.params.toList ++ Rows.lakeTableStringsSpec.plain.varTypes Tryz.prog).any (Tryz.prog.ifacesRec ·)) : Bool) = true := by kernel_rfl
theorem lakeTableStrings_fact15 : ((Rows.lakeTableStringsRow.mapsOut == Tryz.prog.mapsAmong Tryz.f5.resultTypes.toList) : Bool) = true := by kernel_rfl
theorem lakeTableStrings_fact16 : ((Rows.lakeTableStringsRow.loops == (Tryz.f5.params.toList ++ Rows.lakeTableStringsSpec.plain.varTypes Tryz.prog).any (Tryz.prog.loopsFrom ·)) : Bool) = true := by kernel_rfl
theorem lakeTableStrings_fact17 : ((Rows.lakeTableStringsRow.wideKeys == (Tryz.f5.params.toList ++ Rows.lakeTableStringsSpec.plain.varTypes Tryz.prog ++ Tryz.f5.resultTypes.toList).any (Tryz.prog.wideKeysFrom ·)) : Bool) = true := by kernel_rfl
theorem lakeTableStrings_fact18 : (Rows.lakeTableStringsSpec.vars.all (Tryz.prog.varReadable ·) : Bool) = true := by kernel_rfl
theorem lakeTableStrings_fact19 : (Tryz.f5.resultTypes.all (fun t => Tryz.prog.readableRec t && decide (t < Tryz.prog.types.size)) : Bool) = true := by kernel_rfl
theorem lakeTableStrings_fact20 : ((Rows.lakeTableStringsRow.ifacesOut == Tryz.f5.resultTypes.toList.any (Tryz.prog.ifacesRec ·)) : Bool) = true := by kernel_rfl
theorem lakeTableStrings_fact21 : ((Rows.lakeTableStringsRow.loopsOut == Tryz.f5.resultTypes.toList.any (Tryz.prog.loopsFrom ·)) : Bool) = true := by kernel_rfl
theorem lakeTableStrings_fact22 : ((Rows.lakeTableStringsRow.plainKeys == Tryz.prog.plainKeys) : Bool) = true := by kernel_rfl
theorem lakeTableStrings_fact23 : (Rows.lakeTableStringsRow.shortTexts.isNone : Bool) = true := by kernel_rfl
theorem lakeTableStrings_fact24 : (Tryz.prog.stopsHeard : Bool) = true := by kernel_rfl
theorem lakeTableStrings_fact25 : (Tryz.prog.mayEnter : Bool) = true := by kernel_rfl
theorem lakeTableStrings_fact26 : ((Rows.lakeTableStringsRow.lifted == Tryz.prog.liftsFinal) : Bool) = true := by kernel_rfl
theorem lakeTableStrings_fact27 : ((Tryz.prog.make == some Rows.lakeTableStringsRow.make) : Bool) = true := by kernel_rfl
theorem lakeTableStrings_fact28 : ((Rows.lakeTableStringsRow.kinds == (if Rows.lakeTableStringsRow.domain.isEmpty then [] else Tryz.f5.params.toList.map fun t => match Tryz.prog.underlying t with | some (.int k) => some k | _ => none)) : Bool) = true := by kernel_rfl
theorem lakeTableStrings_fact29 : ((Rows.lakeTableStringsRow.pinned == Rows.lakeTableStringsRow.pinnedBy) : Bool) = true := by kernel_rfl
theorem lakeTableStrings_fact30 : ((Rows.lakeTableStringsRow.veiled == (Tryz.f5.params.toList ++ Rows.lakeTableStringsSpec.plain.varTypes Tryz.prog ++ Tryz.f5.resultTypes.toList).any (Tryz.prog.veiledRec ·)) : Bool) = true := by kernel_rfl
theorem lakeTableStrings_fact31 : (Rows.lakeTableStringsRow.veiledFits Tryz.prog Tryz.f5.params.toList (Tryz.f5.params.toList ++ Rows.lakeTableStringsSpec.plain.varTypes Tryz.prog ++ Tryz.f5.resultTypes.toList) : Bool) = true := by kernel_rfl
theorem lakeTableStrings_closed : joinedFacts Tryz.prog 5 Tryz.f5 Rows.lakeTableStringsSpec Rows.lakeTableStringsRow = true := (fact_and (fact_and (fact_and (fact_and (fact_and (fact_and (fact_and (fact_and (fact_and (fact_and (fact_and (fact_and (fact_and (fact_and (fact_and (fact_and (fact_and (fact_and (fact_and (fact_and (fact_and (fact_and (fact_and (fact_and (fact_and (fact_and (fact_and (fact_and (fact_and (fact_and (fact_and lakeTableStrings_fact0 lakeTableStrings_fact1) lakeTableStrings_fact2) lakeTableStrings_fact3) lakeTableStrings_fact4) lakeTableStrings_fact5) lakeTableStrings_fact6) lakeTableStrings_fact7) lakeTableStrings_fact8) lakeTableStrings_fact9) lakeTableStrings_fact10) lakeTableStrings_fact11) lakeTableStrings_fact12) lakeTableStrings_fact13) lakeTableStrings_fact14) lakeTableStrings_fact15) lakeTableStrings_fact16) lakeTableStrings_fact17) lakeTableStrings_fact18) lakeTableStrings_fact19) lakeTableStrings_fact20) lakeTableStrings_fact21) lakeTableStrings_fact22) lakeTableStrings_fact23) lakeTableStrings_fact24) lakeTableStrings_fact25) lakeTableStrings_fact26) lakeTableStrings_fact27) lakeTableStrings_fact28) lakeTableStrings_fact29) lakeTableStrings_fact30) lakeTableStrings_fact31)
end Go.Proofs.YtaphhpphfffnfaaGreatDoor

