/- The statement LakeFlowStrings: the string of flows, and the flows with any string, or the errors, are as specified; valid ones are parsed again. No condition. The row's closed facts. -/
import Derived.Test.YtaphhpphfffnfaaGreatDoorLfzm
import Derived.JoinedOf
set_option maxRecDepth 100000
namespace Go.Proofs.YtaphhpphfffnfaaGreatDoor
open Go
theorem fact_and {a b : Bool} (ha : a = true) (hb : b = true) : (a && b) = true := by rw [ha, hb]; rfl
theorem lakeFlowStrings_fact0 : (Rows.lakeFlowStringsRow.wf (OpenSpec.ofChange Rows.lakeFlowStringsSpec) : Bool) = true := by kernel_rfl
theorem lakeFlowStrings_fact1 : (laidOutB Tryz.prog : Bool) = true := by kernel_rfl
theorem lakeFlowStrings_fact2 : (mapsRowed Tryz.prog : Bool) = true := by kernel_rfl
theorem lakeFlowStrings_fact3 : (Tryz.f6.params.all (Tryz.prog.readableRec ·) : Bool) = true := by kernel_rfl
theorem lakeFlowStrings_fact4 : (namedTie Tryz.prog Rows.lakeFlowStringsRow.named Rows.lakeFlowStringsSpec.vars : Bool) = true := by kernel_rfl
theorem lakeFlowStrings_fact5 : ((Rows.lakeFlowStringsRow.stops == []) : Bool) = true := by kernel_rfl
theorem lakeFlowStrings_fact6 : ((Tryz.prog.stops == []) : Bool) = true := by kernel_rfl
theorem lakeFlowStrings_fact7 : ((Rows.lakeFlowStringsRow.knobs == []) : Bool) = true := by kernel_rfl
theorem lakeFlowStrings_fact8 : ((Tryz.prog.stopKnobs == []) : Bool) = true := by kernel_rfl
theorem lakeFlowStrings_fact9 : ((Rows.lakeFlowStringsRow.inPlace == Tryz.prog.inPlace 6) : Bool) = true := by kernel_rfl
theorem lakeFlowStrings_fact10 : ((Rows.lakeFlowStringsRow.unfollowed == Tryz.prog.unfollowed 6) : Bool) = true := by kernel_rfl
theorem lakeFlowStrings_fact11 : ((Rows.lakeFlowStringsRow.recurses == Tryz.prog.recurses 6) : Bool) = true := by kernel_rfl
theorem lakeFlowStrings_fact12 : ((Rows.lakeFlowStringsRow.named == Tryz.prog.varsNamed 6) : Bool) = true := by kernel_rfl
theorem lakeFlowStrings_fact13 : ((Rows.lakeFlowStringsRow.maps == (Tryz.f6.params.toList ++ Rows.lakeFlowStringsSpec.plain.varTypes Tryz.prog).any (Tryz.prog.mapsRec ·)) : Bool) = true := by kernel_rfl
theorem lakeFlowStrings_fact14 : ((Rows.lakeFlowStringsRow.ifaces == (Tryz.f6.params.toList ++ Rows.lakeFlowStringsSpec.plain.varTypes Tryz.prog).any (Tryz.prog.ifacesRec ·)) : Bool) = true := by kernel_rfl
theorem lakeFlowStrings_fact15 : ((Rows.lakeFlowStringsRow.mapsOut == Tryz.prog.mapsAmong Tryz.f6.resultTypes.toList) : Bool) = true := by kernel_rfl
theorem lakeFlowStrings_fact16 : ((Rows.lakeFlowStringsRow.loops == (Tryz.f6.params.toList ++ Rows.lakeFlowStringsSpec.plain.varTypes Tryz.prog).any (Tryz.prog.loopsFrom ·)) : Bool) = true := by kernel_rfl
theorem lakeFlowStrings_fact17 : ((Rows.lakeFlowStringsRow.wideKeys == (Tryz.f6.params.toList ++ Rows.lakeFlowStringsSpec.plain.varTypes Tryz.prog ++ Tryz.f6.resultTypes.toList).any (Tryz.prog.wideKeysFrom ·)) : Bool) = true := by kernel_rfl
theorem lakeFlowStrings_fact18 : (Rows.lakeFlowStringsSpec.vars.all (Tryz.prog.varReadable ·) : Bool) = true := by kernel_rfl
theorem lakeFlowStrings_fact19 : (Tryz.f6.resultTypes.all (fun t => Tryz.prog.readableRec t && decide (t < Tryz.prog.types.size)) : Bool) = true := by kernel_rfl
theorem lakeFlowStrings_fact20 : ((Rows.lakeFlowStringsRow.ifacesOut == Tryz.f6.resultTypes.toList.any (Tryz.prog.ifacesRec ·)) : Bool) = true := by kernel_rfl
theorem lakeFlowStrings_fact21 : ((Rows.lakeFlowStringsRow.loopsOut == Tryz.f6.resultTypes.toList.any (Tryz.prog.loopsFrom ·)) : Bool) = true := by kernel_rfl
theorem lakeFlowStrings_fact22 : ((Rows.lakeFlowStringsRow.plainKeys == Tryz.prog.plainKeys) : Bool) = true := by kernel_rfl
theorem lakeFlowStrings_fact23 : (Rows.lakeFlowStringsRow.shortTexts.isNone : Bool) = true := by kernel_rfl
theorem lakeFlowStrings_fact24 : (Tryz.prog.stopsHeard : Bool) = true := by kernel_rfl
theorem lakeFlowStrings_fact25 : (Tryz.prog.mayEnter : Bool) = true := by kernel_rfl
theorem lakeFlowStrings_fact26 : ((Rows.lakeFlowStringsRow.lifted == Tryz.prog.liftsFinal) : Bool) = true := by kernel_rfl
theorem lakeFlowStrings_fact27 : ((Tryz.prog.make == some Rows.lakeFlowStringsRow.make) : Bool) = true := by kernel_rfl
theorem lakeFlowStrings_fact28 : ((Rows.lakeFlowStringsRow.kinds == (if Rows.lakeFlowStringsRow.domain.isEmpty then [] else Tryz.f6.params.toList.map fun t => match Tryz.prog.underlying t with | some (.int k) => some k | _ => none)) : Bool) = true := by kernel_rfl
theorem lakeFlowStrings_fact29 : ((Rows.lakeFlowStringsRow.pinned == Rows.lakeFlowStringsRow.pinnedBy) : Bool) = true := by kernel_rfl
theorem lakeFlowStrings_fact30 : ((Rows.lakeFlowStringsRow.veiled == (Tryz.f6.params.toList ++ Rows.lakeFlowStringsSpec.plain.varTypes Tryz.prog ++ Tryz.f6.resultTypes.toList).any (Tryz.prog.veiledRec ·)) : Bool) = true := by kernel_rfl
theorem lakeFlowStrings_fact31 : (Rows.lakeFlowStringsRow.veiledFits Tryz.prog Tryz.f6.params.toList (Tryz.f6.params.toList ++ Rows.lakeFlowStringsSpec.plain.varTypes Tryz.prog ++ Tryz.f6.resultTypes.toList) : Bool) = true := by kernel_rfl
theorem lakeFlowStrings_closed : joinedFacts Tryz.prog 6 Tryz.f6 Rows.lakeFlowStringsSpec Rows.lakeFlowStringsRow = true := (fact_and (fact_and (fact_and (fact_and (fact_and (fact_and (fact_and (fact_and (fact_and (fact_and (fact_and (fact_and (fact_and (fact_and (fact_and (fact_and (fact_and (fact_and (fact_and (fact_and (fact_and (fact_and (fact_and (fact_and (fact_and (fact_and (fact_and (fact_and (fact_and (fact_and (fact_and lakeFlowStrings_fact0 lakeFlowStrings_fact1) lakeFlowStrings_fact2) lakeFlowStrings_fact3) lakeFlowStrings_fact4) lakeFlowStrings_fact5) lakeFlowStrings_fact6) lakeFlowStrings_fact7) lakeFlowStrings_fact8) lakeFlowStrings_fact9) lakeFlowStrings_fact10) lakeFlowStrings_fact11) lakeFlowStrings_fact12) lakeFlowStrings_fact13) lakeFlowStrings_fact14) lakeFlowStrings_fact15) lakeFlowStrings_fact16) lakeFlowStrings_fact17) lakeFlowStrings_fact18) lakeFlowStrings_fact19) lakeFlowStrings_fact20) lakeFlowStrings_fact21) lakeFlowStrings_fact22) lakeFlowStrings_fact23) lakeFlowStrings_fact24) lakeFlowStrings_fact25) lakeFlowStrings_fact26) lakeFlowStrings_fact27) lakeFlowStrings_fact28) lakeFlowStrings_fact29) lakeFlowStrings_fact30) lakeFlowStrings_fact31)
end Go.Proofs.YtaphhpphfffnfaaGreatDoor

