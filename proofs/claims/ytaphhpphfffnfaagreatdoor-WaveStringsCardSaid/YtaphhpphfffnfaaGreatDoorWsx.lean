/- The statement WaveStrings: the string of a line, and the line of any string, are as specified, or the errors; valid ones are parsed again. No condition. The row's closed facts. -/
import Derived.Test.YtaphhpphfffnfaaGreatDoorWsw
import Derived.JoinedOf
set_option maxRecDepth 100000
namespace Go.Proofs.YtaphhpphfffnfaaGreatDoor
open Go
theorem fact_and {a b : Bool} (ha : a = true) (hb : b = true) : (a && b) = true := by rw [ha, hb]; rfl
theorem waveStrings_fact0 : (Rows.waveStringsRow.wf (OpenSpec.ofChange Rows.waveStringsSpec) : Bool) = true := by kernel_rfl
theorem waveStrings_fact1 : (laidOutB Tryz.prog : Bool) = true := by kernel_rfl
theorem waveStrings_fact2 : (mapsRowed Tryz.prog : Bool) = true := by kernel_rfl
theorem waveStrings_fact3 : (Tryz.f3.params.all (Tryz.prog.readableRec ·) : Bool) = true := by kernel_rfl
theorem waveStrings_fact4 : (namedTie Tryz.prog Rows.waveStringsRow.named Rows.waveStringsSpec.vars : Bool) = true := by kernel_rfl
theorem waveStrings_fact5 : ((Rows.waveStringsRow.stops == []) : Bool) = true := by kernel_rfl
theorem waveStrings_fact6 : ((Tryz.prog.stops == []) : Bool) = true := by kernel_rfl
theorem waveStrings_fact7 : ((Rows.waveStringsRow.knobs == []) : Bool) = true := by kernel_rfl
theorem waveStrings_fact8 : ((Tryz.prog.stopKnobs == []) : Bool) = true := by kernel_rfl
theorem waveStrings_fact9 : ((Rows.waveStringsRow.inPlace == Tryz.prog.inPlace 3) : Bool) = true := by kernel_rfl
theorem waveStrings_fact10 : ((Rows.waveStringsRow.unfollowed == Tryz.prog.unfollowed 3) : Bool) = true := by kernel_rfl
theorem waveStrings_fact11 : ((Rows.waveStringsRow.recurses == Tryz.prog.recurses 3) : Bool) = true := by kernel_rfl
theorem waveStrings_fact12 : ((Rows.waveStringsRow.named == Tryz.prog.varsNamed 3) : Bool) = true := by kernel_rfl
theorem waveStrings_fact13 : ((Rows.waveStringsRow.maps == (Tryz.f3.params.toList ++ Rows.waveStringsSpec.plain.varTypes Tryz.prog).any (Tryz.prog.mapsRec ·)) : Bool) = true := by kernel_rfl
theorem waveStrings_fact14 : ((Rows.waveStringsRow.ifaces == (Tryz.f3.params.toList ++ Rows.waveStringsSpec.plain.varTypes Tryz.prog).any (Tryz.prog.ifacesRec ·)) : Bool) = true := by kernel_rfl
theorem waveStrings_fact15 : ((Rows.waveStringsRow.mapsOut == Tryz.prog.mapsAmong Tryz.f3.resultTypes.toList) : Bool) = true := by kernel_rfl
theorem waveStrings_fact16 : ((Rows.waveStringsRow.loops == (Tryz.f3.params.toList ++ Rows.waveStringsSpec.plain.varTypes Tryz.prog).any (Tryz.prog.loopsFrom ·)) : Bool) = true := by kernel_rfl
theorem waveStrings_fact17 : ((Rows.waveStringsRow.wideKeys == (Tryz.f3.params.toList ++ Rows.waveStringsSpec.plain.varTypes Tryz.prog ++ Tryz.f3.resultTypes.toList).any (Tryz.prog.wideKeysFrom ·)) : Bool) = true := by kernel_rfl
theorem waveStrings_fact18 : (Rows.waveStringsSpec.vars.all (Tryz.prog.varReadable ·) : Bool) = true := by kernel_rfl
theorem waveStrings_fact19 : (Tryz.f3.resultTypes.all (fun t => Tryz.prog.readableRec t && decide (t < Tryz.prog.types.size)) : Bool) = true := by kernel_rfl
theorem waveStrings_fact20 : ((Rows.waveStringsRow.ifacesOut == Tryz.f3.resultTypes.toList.any (Tryz.prog.ifacesRec ·)) : Bool) = true := by kernel_rfl
theorem waveStrings_fact21 : ((Rows.waveStringsRow.loopsOut == Tryz.f3.resultTypes.toList.any (Tryz.prog.loopsFrom ·)) : Bool) = true := by kernel_rfl
theorem waveStrings_fact22 : ((Rows.waveStringsRow.plainKeys == Tryz.prog.plainKeys) : Bool) = true := by kernel_rfl
theorem waveStrings_fact23 : (Rows.waveStringsRow.shortTexts.isNone : Bool) = true := by kernel_rfl
theorem waveStrings_fact24 : (Tryz.prog.stopsHeard : Bool) = true := by kernel_rfl
theorem waveStrings_fact25 : (Tryz.prog.mayEnter : Bool) = true := by kernel_rfl
theorem waveStrings_fact26 : ((Rows.waveStringsRow.lifted == Tryz.prog.liftsFinal) : Bool) = true := by kernel_rfl
theorem waveStrings_fact27 : ((Tryz.prog.make == some Rows.waveStringsRow.make) : Bool) = true := by kernel_rfl
theorem waveStrings_fact28 : ((Rows.waveStringsRow.kinds == (if Rows.waveStringsRow.domain.isEmpty then [] else Tryz.f3.params.toList.map fun t => match Tryz.prog.underlying t with | some (.int k) => some k | _ => none)) : Bool) = true := by kernel_rfl
theorem waveStrings_fact29 : ((Rows.waveStringsRow.pinned == Rows.waveStringsRow.pinnedBy) : Bool) = true := by kernel_rfl
theorem waveStrings_fact30 : ((Rows.waveStringsRow.veiled == (Tryz.f3.params.toList ++ Rows.waveStringsSpec.plain.varTypes Tryz.prog ++ Tryz.f3.resultTypes.toList).any (Tryz.prog.veiledRec ·)) : Bool) = true := by kernel_rfl
theorem waveStrings_fact31 : (Rows.waveStringsRow.veiledFits Tryz.prog Tryz.f3.params.toList (Tryz.f3.params.toList ++ Rows.waveStringsSpec.plain.varTypes Tryz.prog ++ Tryz.f3.resultTypes.toList) : Bool) = true := by kernel_rfl
theorem waveStrings_closed : joinedFacts Tryz.prog 3 Tryz.f3 Rows.waveStringsSpec Rows.waveStringsRow = true := (fact_and (fact_and (fact_and (fact_and (fact_and (fact_and (fact_and (fact_and (fact_and (fact_and (fact_and (fact_and (fact_and (fact_and (fact_and (fact_and (fact_and (fact_and (fact_and (fact_and (fact_and (fact_and (fact_and (fact_and (fact_and (fact_and (fact_and (fact_and (fact_and (fact_and (fact_and waveStrings_fact0 waveStrings_fact1) waveStrings_fact2) waveStrings_fact3) waveStrings_fact4) waveStrings_fact5) waveStrings_fact6) waveStrings_fact7) waveStrings_fact8) waveStrings_fact9) waveStrings_fact10) waveStrings_fact11) waveStrings_fact12) waveStrings_fact13) waveStrings_fact14) waveStrings_fact15) waveStrings_fact16) waveStrings_fact17) waveStrings_fact18) waveStrings_fact19) waveStrings_fact20) waveStrings_fact21) waveStrings_fact22) waveStrings_fact23) waveStrings_fact24) waveStrings_fact25) waveStrings_fact26) waveStrings_fact27) waveStrings_fact28) waveStrings_fact29) waveStrings_fact30) waveStrings_fact31)
end Go.Proofs.YtaphhpphfffnfaaGreatDoor

