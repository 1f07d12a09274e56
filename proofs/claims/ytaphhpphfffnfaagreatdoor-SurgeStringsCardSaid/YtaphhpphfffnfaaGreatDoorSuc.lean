/- The statement SurgeStrings: the string of rules, and the rules of any string, are as specified, or the errors; valid ones are parsed again. No condition. The row's closed facts. -/
import Derived.Test.YtaphhpphfffnfaaGreatDoorSub
import Derived.JoinedOf
set_option maxRecDepth 100000
namespace Go.Proofs.YtaphhpphfffnfaaGreatDoor
open Go
theorem fact_and {a b : Bool} (ha : a = true) (hb : b = true) : (a && b) = true := by rw [ha, hb]; rfl
theorem surgeStrings_fact0 : (Rows.surgeStringsRow.wf (OpenSpec.ofChange Rows.surgeStringsSpec) : Bool) = true := by kernel_rfl
theorem surgeStrings_fact1 : (laidOutB Tryz.prog : Bool) = true := by kernel_rfl
theorem surgeStrings_fact2 : (mapsRowed Tryz.prog : Bool) = true := by kernel_rfl
theorem surgeStrings_fact3 : (Tryz.f4.params.all (Tryz.prog.readableRec ·) : Bool) = true := by kernel_rfl
theorem surgeStrings_fact4 : (namedTie Tryz.prog Rows.surgeStringsRow.named Rows.surgeStringsSpec.vars : Bool) = true := by kernel_rfl
theorem surgeStrings_fact5 : ((Rows.surgeStringsRow.stops == []) : Bool) = true := by kernel_rfl
theorem surgeStrings_fact6 : ((Tryz.prog.stops == []) : Bool) = true := by kernel_rfl
theorem surgeStrings_fact7 : ((Rows.surgeStringsRow.knobs == []) : Bool) = true := by kernel_rfl
theorem surgeStrings_fact8 : ((Tryz.prog.stopKnobs == []) : Bool) = true := by kernel_rfl
theorem surgeStrings_fact9 : ((Rows.surgeStringsRow.inPlace == Tryz.prog.inPlace 4) : Bool) = true := by kernel_rfl
theorem surgeStrings_fact10 : ((Rows.surgeStringsRow.unfollowed == Tryz.prog.unfollowed 4) : Bool) = true := by kernel_rfl
theorem surgeStrings_fact11 : ((Rows.surgeStringsRow.recurses == Tryz.prog.recurses 4) : Bool) = true := by kernel_rfl
theorem surgeStrings_fact12 : ((Rows.surgeStringsRow.named == Tryz.prog.varsNamed 4) : Bool) = true := by kernel_rfl
theorem surgeStrings_fact13 : ((Rows.surgeStringsRow.maps == (Tryz.f4.params.toList ++ Rows.surgeStringsSpec.plain.varTypes Tryz.prog).any (Tryz.prog.mapsRec ·)) : Bool) = true := by kernel_rfl
theorem surgeStrings_fact14 : ((Rows.surgeStringsRow.ifaces == (Tryz.f4.params.toList ++ Rows.surgeStringsSpec.plain.varTypes Tryz.prog).any (Tryz.prog.ifacesRec ·)) : Bool) = true := by kernel_rfl
theorem surgeStrings_fact15 : ((Rows.surgeStringsRow.mapsOut == Tryz.prog.mapsAmong Tryz.f4.resultTypes.toList) : Bool) = true := by kernel_rfl
theorem surgeStrings_fact16 : ((Rows.surgeStringsRow.loops == (Tryz.f4.params.toList ++ Rows.surgeStringsSpec.plain.varTypes Tryz.prog).any (Tryz.prog.loopsFrom ·)) : Bool) = true := by kernel_rfl
theorem surgeStrings_fact17 : ((Rows.surgeStringsRow.wideKeys == (Tryz.f4.params.toList ++ Rows.surgeStringsSpec.plain.varTypes Tryz.prog ++ Tryz.f4.resultTypes.toList).any (Tryz.prog.wideKeysFrom ·)) : Bool) = true := by kernel_rfl
theorem surgeStrings_fact18 : (Rows.surgeStringsSpec.vars.all (Tryz.prog.varReadable ·) : Bool) = true := by kernel_rfl
theorem surgeStrings_fact19 : (Tryz.f4.resultTypes.all (fun t => Tryz.prog.readableRec t && decide (t < Tryz.prog.types.size)) : Bool) = true := by kernel_rfl
theorem surgeStrings_fact20 : ((Rows.surgeStringsRow.ifacesOut == Tryz.f4.resultTypes.toList.any (Tryz.prog.ifacesRec ·)) : Bool) = true := by kernel_rfl
theorem surgeStrings_fact21 : ((Rows.surgeStringsRow.loopsOut == Tryz.f4.resultTypes.toList.any (Tryz.prog.loopsFrom ·)) : Bool) = true := by kernel_rfl
theorem surgeStrings_fact22 : ((Rows.surgeStringsRow.plainKeys == Tryz.prog.plainKeys) : Bool) = true := by kernel_rfl
theorem surgeStrings_fact23 : (Rows.surgeStringsRow.shortTexts.isNone : Bool) = true := by kernel_rfl
theorem surgeStrings_fact24 : (Tryz.prog.stopsHeard : Bool) = true := by kernel_rfl
theorem surgeStrings_fact25 : (Tryz.prog.mayEnter : Bool) = true := by kernel_rfl
theorem surgeStrings_fact26 : ((Rows.surgeStringsRow.lifted == Tryz.prog.liftsFinal) : Bool) = true := by kernel_rfl
theorem surgeStrings_fact27 : ((Tryz.prog.make == some Rows.surgeStringsRow.make) : Bool) = true := by kernel_rfl
theorem surgeStrings_fact28 : ((Rows.surgeStringsRow.kinds == (if Rows.surgeStringsRow.domain.isEmpty then [] else Tryz.f4.params.toList.map fun t => match Tryz.prog.underlying t with | some (.int k) => some k | _ => none)) : Bool) = true := by kernel_rfl
theorem surgeStrings_fact29 : ((Rows.surgeStringsRow.pinned == Rows.surgeStringsRow.pinnedBy) : Bool) = true := by kernel_rfl
theorem surgeStrings_fact30 : ((Rows.surgeStringsRow.veiled == (Tryz.f4.params.toList ++ Rows.surgeStringsSpec.plain.varTypes Tryz.prog ++ Tryz.f4.resultTypes.toList).any (Tryz.prog.veiledRec ·)) : Bool) = true := by kernel_rfl
theorem surgeStrings_fact31 : (Rows.surgeStringsRow.veiledFits Tryz.prog Tryz.f4.params.toList (Tryz.f4.params.toList ++ Rows.surgeStringsSpec.plain.varTypes Tryz.prog ++ Tryz.f4.resultTypes.toList) : Bool) = true := by kernel_rfl
theorem surgeStrings_closed : joinedFacts Tryz.prog 4 Tryz.f4 Rows.surgeStringsSpec Rows.surgeStringsRow = true := (fact_and (fact_and (fact_and (fact_and (fact_and (fact_and (fact_and (fact_and (fact_and (fact_and (fact_and (fact_and (fact_and (fact_and (fact_and (fact_and (fact_and (fact_and (fact_and (fact_and (fact_and (fact_and (fact_and (fact_and (fact_and (fact_and (fact_and (fact_and (fact_and (fact_and (fact_and surgeStrings_fact0 surgeStrings_fact1) surgeStrings_fact2) surgeStrings_fact3) surgeStrings_fact4) surgeStrings_fact5) surgeStrings_fact6) surgeStrings_fact7) surgeStrings_fact8) surgeStrings_fact9) surgeStrings_fact10) surgeStrings_fact11) surgeStrings_fact12) surgeStrings_fact13) surgeStrings_fact14) surgeStrings_fact15) surgeStrings_fact16) surgeStrings_fact17) surgeStrings_fact18) surgeStrings_fact19) surgeStrings_fact20) surgeStrings_fact21) surgeStrings_fact22) surgeStrings_fact23) surgeStrings_fact24) surgeStrings_fact25) surgeStrings_fact26) surgeStrings_fact27) surgeStrings_fact28) surgeStrings_fact29) surgeStrings_fact30) surgeStrings_fact31)
end Go.Proofs.YtaphhpphfffnfaaGreatDoor

