/-
  DERIVED. GIVEN WITH THE SEED: THE CARDS: each row of YtaphhpphfffnfaaGreatDoorRows.lean that lists a variable, with what it lists TIED to the program's text (the seventh form; the later family's looks); each row that meets fmt, with fmt's text TOLD by the authors' own Lean function (tested against real Go, not proved from fmt's source: count such statements apart). THE CARD IS WHAT COUNTS. Prove the row's statement (the work); the ties are given (YtaphhpphfffnfaaGreatDoorTie.lean); close each card by the builder's one call (the guide's Derived/Test/ToyasCard.lean, 'card_holds'). Laid BY PROGRAM, IN A SANDBOX (cutbox-door.mjs). By AI agents, Wed Nov 11 2026. No macro, syntax, notation, axiom, sorry.
-/
import Derived.Test.YtaphhpphfffnfaaGreatDoorRows
import GoSem.ClaimSeven
namespace Go.Proofs.YtaphhpphfffnfaaGreatDoor
namespace Rows

/-- THE TIED CARD OF 'guidevanelaw03.WaveStrings'. -/
def waveStringsCard : Claim7 := { stood := { row := waveStringsRow, standIns := [], harness := (true, "b2968574a37c2f90b09f2739b22445e02d24d5f0e540d7c6275b209c1a9c9167"), looks := true }, kinds := [], alts := [], laidByText := true, laidKinds := [.data, .data, .data, .data, .sentinel, .sentinel, .pinned], laidTests := true, laidLooks := .later }
def WaveStringsCardSaid : Prop := Claim7.holds Tryz.pinned (.plain (OpenSpec.ofChange waveStringsSpec)) waveStringsCard

/-- THE TIED CARD OF 'guidevanelaw04.SurgeStrings'. -/
def surgeStringsCard : Claim7 := { stood := { row := surgeStringsRow, standIns := [], harness := (true, "b2968574a37c2f90b09f2739b22445e02d24d5f0e540d7c6275b209c1a9c9167"), looks := true }, kinds := [], alts := [], laidByText := true, laidKinds := [.data, .data, .data, .data, .sentinel, .sentinel, .pinned], laidTests := true, laidLooks := .later }
def SurgeStringsCardSaid : Prop := Claim7.holds Tryz.pinned (.plain (OpenSpec.ofChange surgeStringsSpec)) surgeStringsCard

/-- THE TIED CARD OF 'guidevanelaw01.LakeTableStrings'. -/
def lakeTableStringsCard : Claim7 := { stood := { row := lakeTableStringsRow, standIns := [], harness := (true, "b2968574a37c2f90b09f2739b22445e02d24d5f0e540d7c6275b209c1a9c9167"), looks := true }, kinds := [], alts := [], laidByText := true, laidKinds := [.data, .data, .data, .data, .sentinel, .sentinel, .pinned], laidTests := true, laidLooks := .later }
def LakeTableStringsCardSaid : Prop := Claim7.holds Tryz.pinned (.plain (OpenSpec.ofChange lakeTableStringsSpec)) lakeTableStringsCard

/-- THE TIED CARD OF 'guidevanelaw01.LakeFlowStrings'. -/
def lakeFlowStringsCard : Claim7 := { stood := { row := lakeFlowStringsRow, standIns := [], harness := (true, "b2968574a37c2f90b09f2739b22445e02d24d5f0e540d7c6275b209c1a9c9167"), looks := true }, kinds := [], alts := [], laidByText := true, laidKinds := [.data, .data, .data, .data, .sentinel, .sentinel, .pinned], laidTests := true, laidLooks := .later }
def LakeFlowStringsCardSaid : Prop := Claim7.holds Tryz.pinned (.plain (OpenSpec.ofChange lakeFlowStringsSpec)) lakeFlowStringsCard

/-- THE TIED CARD OF 'guidevanetop.TopLakeKept'. -/
def topLakeKeptCard : Claim7 := { stood := { row := topLakeKeptRow, standIns := [], harness := (true, "b2968574a37c2f90b09f2739b22445e02d24d5f0e540d7c6275b209c1a9c9167"), looks := true }, kinds := [], alts := [], laidByText := true, laidKinds := [.data, .data, .data, .data, .sentinel, .sentinel, .pinned], laidTests := true, laidLooks := .later }
def TopLakeKeptCardSaid : Prop := Claim7.holds Tryz.pinned (.plain (OpenSpec.ofChange topLakeKeptSpec)) topLakeKeptCard

/-- THE TIED CARD OF 'guidevanetop.TopWavesAgree'. -/
def topWavesAgreeCard : Claim7 := { stood := { row := topWavesAgreeRow, standIns := [], harness := (true, "b2968574a37c2f90b09f2739b22445e02d24d5f0e540d7c6275b209c1a9c9167"), looks := true }, kinds := [], alts := [], laidByText := true, laidKinds := [.data, .data, .data, .data, .sentinel, .sentinel, .pinned], laidTests := true, laidLooks := .later }
def TopWavesAgreeCardSaid : Prop := Claim7.holds Tryz.pinned (.plain (OpenSpec.ofChange topWavesAgreeSpec)) topWavesAgreeCard

/-- THE TIED CARD OF 'guidevanetop.TopSurgeWorst'. -/
def topSurgeWorstCard : Claim7 := { stood := { row := topSurgeWorstRow, standIns := [], harness := (true, "b2968574a37c2f90b09f2739b22445e02d24d5f0e540d7c6275b209c1a9c9167"), looks := true }, kinds := [], alts := [], laidByText := true, laidKinds := [.data, .data, .data, .data, .sentinel, .sentinel, .pinned], laidTests := true, laidLooks := .later }
def TopSurgeWorstCardSaid : Prop := Claim7.holds Tryz.pinned (.plain (OpenSpec.ofChange topSurgeWorstSpec)) topSurgeWorstCard

/-- THE SECOND FORM's CARD OF 'guidevanelaw03.WaveStrings'. -/
def waveStringsUptoCard : Claim7 := { stood := { row := waveStringsUptoRow, standIns := [], harness := (true, "b2968574a37c2f90b09f2739b22445e02d24d5f0e540d7c6275b209c1a9c9167"), looks := true }, kinds := [], alts := [], laidByText := true, laidKinds := [.data, .data, .data, .data, .sentinel, .sentinel, .pinned], laidTests := true, laidLooks := .later }
def WaveStringsUptoCardSaid : Prop := Claim7.holds Tryz.pinned (.plain (OpenSpec.upto waveStringsSpec)) waveStringsUptoCard

/-- THE SECOND FORM's CARD OF 'guidevanelaw04.SurgeStrings'. -/
def surgeStringsUptoCard : Claim7 := { stood := { row := surgeStringsUptoRow, standIns := [], harness := (true, "b2968574a37c2f90b09f2739b22445e02d24d5f0e540d7c6275b209c1a9c9167"), looks := true }, kinds := [], alts := [], laidByText := true, laidKinds := [.data, .data, .data, .data, .sentinel, .sentinel, .pinned], laidTests := true, laidLooks := .later }
def SurgeStringsUptoCardSaid : Prop := Claim7.holds Tryz.pinned (.plain (OpenSpec.upto surgeStringsSpec)) surgeStringsUptoCard

/-- THE SECOND FORM's CARD OF 'guidevanelaw01.LakeTableStrings'. -/
def lakeTableStringsUptoCard : Claim7 := { stood := { row := lakeTableStringsUptoRow, standIns := [], harness := (true, "b2968574a37c2f90b09f2739b22445e02d24d5f0e540d7c6275b209c1a9c9167"), looks := true }, kinds := [], alts := [], laidByText := true, laidKinds := [.data, .data, .data, .data, .sentinel, .sentinel, .pinned], laidTests := true, laidLooks := .later }
def LakeTableStringsUptoCardSaid : Prop := Claim7.holds Tryz.pinned (.plain (OpenSpec.upto lakeTableStringsSpec)) lakeTableStringsUptoCard

/-- THE SECOND FORM's CARD OF 'guidevanelaw01.LakeFlowStrings'. -/
def lakeFlowStringsUptoCard : Claim7 := { stood := { row := lakeFlowStringsUptoRow, standIns := [], harness := (true, "b2968574a37c2f90b09f2739b22445e02d24d5f0e540d7c6275b209c1a9c9167"), looks := true }, kinds := [], alts := [], laidByText := true, laidKinds := [.data, .data, .data, .data, .sentinel, .sentinel, .pinned], laidTests := true, laidLooks := .later }
def LakeFlowStringsUptoCardSaid : Prop := Claim7.holds Tryz.pinned (.plain (OpenSpec.upto lakeFlowStringsSpec)) lakeFlowStringsUptoCard

/-- THE SECOND FORM's CARD OF 'guidevanetop.TopLakeKept'. -/
def topLakeKeptUptoCard : Claim7 := { stood := { row := topLakeKeptUptoRow, standIns := [], harness := (true, "b2968574a37c2f90b09f2739b22445e02d24d5f0e540d7c6275b209c1a9c9167"), looks := true }, kinds := [], alts := [], laidByText := true, laidKinds := [.data, .data, .data, .data, .sentinel, .sentinel, .pinned], laidTests := true, laidLooks := .later }
def TopLakeKeptUptoCardSaid : Prop := Claim7.holds Tryz.pinned (.plain (OpenSpec.upto topLakeKeptSpec)) topLakeKeptUptoCard

/-- THE SECOND FORM's CARD OF 'guidevanetop.TopWavesAgree'. -/
def topWavesAgreeUptoCard : Claim7 := { stood := { row := topWavesAgreeUptoRow, standIns := [], harness := (true, "b2968574a37c2f90b09f2739b22445e02d24d5f0e540d7c6275b209c1a9c9167"), looks := true }, kinds := [], alts := [], laidByText := true, laidKinds := [.data, .data, .data, .data, .sentinel, .sentinel, .pinned], laidTests := true, laidLooks := .later }
def TopWavesAgreeUptoCardSaid : Prop := Claim7.holds Tryz.pinned (.plain (OpenSpec.upto topWavesAgreeSpec)) topWavesAgreeUptoCard

/-- THE SECOND FORM's CARD OF 'guidevanetop.TopSurgeWorst'. -/
def topSurgeWorstUptoCard : Claim7 := { stood := { row := topSurgeWorstUptoRow, standIns := [], harness := (true, "b2968574a37c2f90b09f2739b22445e02d24d5f0e540d7c6275b209c1a9c9167"), looks := true }, kinds := [], alts := [], laidByText := true, laidKinds := [.data, .data, .data, .data, .sentinel, .sentinel, .pinned], laidTests := true, laidLooks := .later }
def TopSurgeWorstUptoCardSaid : Prop := Claim7.holds Tryz.pinned (.plain (OpenSpec.upto topSurgeWorstSpec)) topSurgeWorstUptoCard
end Rows
end Go.Proofs.YtaphhpphfffnfaaGreatDoor
