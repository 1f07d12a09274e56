/-
  No cell of these rows narrows 'for every input' (looked for: loops, veiled, ifaces, maps, wideKeys, modest, calm, conditions, laid).
  DERIVED. THE GIVEN ROWS OF THIS SEAT. 14 by the template 'for every input the law returns true; each argument reads behind the call as it read before'; 0 by the template 'total and deterministic' (their statements: YtadmimjaelodkaaTotals.lean).
  GIVEN WITH THE SEED: the statements are not yours to turn. If you find one false, say at which input.
  Laid BY PROGRAM, IN A SANDBOX (cutbox-rows.mjs): the forced cells as the released guide's own fill.sh prints them over the translation e4035895da968288… (all of the seat's roots in one cut). By AI agents, Wed Nov 11 2026. No macro, syntax, notation, axiom, sorry.
-/
import Derived.Test.YtadmimjaelodkaaChecked
import GoSem.Claim
import GoSem.ClaimJoined
import GoSem.ClaimMapViews
import Derived.JoinedTies
import Derived.KernelRfl
namespace Go.Proofs.Ytadmimjaelodkaa
/- THE CELL 'sum', in the pinned program and in every row, IS THE sha256 OF THE DUMP (.gsa) THAT YtadmimjaelodkaaProg.lean LOADS. Nothing in Lean hashes anything: it is a label: what it is worth is what the hold of that sum in a sandbox is worth. -/
noncomputable def Try.pinned : Pinned := { name := "ytadmimjaelodkaa", sum := "e4035895da9682888fc2311a21628de9190a9a02944669da2b60fe70bf962778", checked := Try.checked }
namespace Rows
def none {H : Type} : Left H := { results := [], args := [] }

/-- 'guidevanelaw03.WaveTicks': WHATEVER THE INPUT: true; the input reads as it did. -/
def waveTicksSpec : ChangeSpec := { name := "waveTicks", fn := fun _ => fun
  | [d1, d2, d3] => { results := [.lit (.bool true)], args := [d1, d2, d3] }
  | _ => none }
def waveTicksRow : OpenClaim := { program := "ytadmimjaelodkaa", sum := "e4035895da9682888fc2311a21628de9190a9a02944669da2b60fe70bf962778", func := "guidevane/guidevanelaw03.WaveTicks", spec := "waveTicks", unfollowed := true, recurses := true, apart := false }
def WaveTicksSaid : Prop := waveTicksRow.holds Try.pinned (OpenSpec.ofChange waveTicksSpec)

/-- ITS FALSE NEIGHBOUR: 'it returns false'. Refute it at one input. -/
def waveTicksWrong : ChangeSpec := { name := "waveTicks", fn := fun _ => fun
  | [d1, d2, d3] => { results := [.lit (.bool false)], args := [d1, d2, d3] }
  | _ => none }
def WaveTicksWrongFalsely : Prop := waveTicksRow.holds Try.pinned (OpenSpec.ofChange waveTicksWrong)

/-- 'guidevanelaw03.WaveSums': WHATEVER THE INPUT: true; the input reads as it did. -/
def waveSumsSpec : ChangeSpec := { name := "waveSums", fn := fun _ => fun
  | [d1, d2, d3] => { results := [.lit (.bool true)], args := [d1, d2, d3] }
  | _ => none }
def waveSumsRow : OpenClaim := { program := "ytadmimjaelodkaa", sum := "e4035895da9682888fc2311a21628de9190a9a02944669da2b60fe70bf962778", func := "guidevane/guidevanelaw03.WaveSums", spec := "waveSums", unfollowed := true, recurses := true, apart := false }
def WaveSumsSaid : Prop := waveSumsRow.holds Try.pinned (OpenSpec.ofChange waveSumsSpec)

/-- ITS FALSE NEIGHBOUR: 'it returns false'. Refute it at one input. -/
def waveSumsWrong : ChangeSpec := { name := "waveSums", fn := fun _ => fun
  | [d1, d2, d3] => { results := [.lit (.bool false)], args := [d1, d2, d3] }
  | _ => none }
def WaveSumsWrongFalsely : Prop := waveSumsRow.holds Try.pinned (OpenSpec.ofChange waveSumsWrong)

/-- 'guidevanelaw03.WaveEveryLaw': WHATEVER THE INPUT: true; the input reads as it did. -/
def waveEveryLawSpec : ChangeSpec := { name := "waveEveryLaw", fn := fun _ => fun
  | [d1, d2, d3] => { results := [.lit (.bool true)], args := [d1, d2, d3] }
  | _ => none }
def waveEveryLawRow : OpenClaim := { program := "ytadmimjaelodkaa", sum := "e4035895da9682888fc2311a21628de9190a9a02944669da2b60fe70bf962778", func := "guidevane/guidevanelaw03.WaveEveryLaw", spec := "waveEveryLaw", unfollowed := true, recurses := true, apart := false }
def WaveEveryLawSaid : Prop := waveEveryLawRow.holds Try.pinned (OpenSpec.ofChange waveEveryLawSpec)

/-- ITS FALSE NEIGHBOUR: 'it returns false'. Refute it at one input. -/
def waveEveryLawWrong : ChangeSpec := { name := "waveEveryLaw", fn := fun _ => fun
  | [d1, d2, d3] => { results := [.lit (.bool false)], args := [d1, d2, d3] }
  | _ => none }
def WaveEveryLawWrongFalsely : Prop := waveEveryLawRow.holds Try.pinned (OpenSpec.ofChange waveEveryLawWrong)

/-- 'guidevanelaw03.WaveQuarters': WHATEVER THE INPUT: true; the input reads as it did. -/
def waveQuartersSpec : ChangeSpec := { name := "waveQuarters", fn := fun _ => fun
  | [d1, d2] => { results := [.lit (.bool true)], args := [d1, d2] }
  | _ => none }
def waveQuartersRow : OpenClaim := { program := "ytadmimjaelodkaa", sum := "e4035895da9682888fc2311a21628de9190a9a02944669da2b60fe70bf962778", func := "guidevane/guidevanelaw03.WaveQuarters", spec := "waveQuarters", unfollowed := true, recurses := true, apart := false }
def WaveQuartersSaid : Prop := waveQuartersRow.holds Try.pinned (OpenSpec.ofChange waveQuartersSpec)

/-- ITS FALSE NEIGHBOUR: 'it returns false'. Refute it at one input. -/
def waveQuartersWrong : ChangeSpec := { name := "waveQuarters", fn := fun _ => fun
  | [d1, d2] => { results := [.lit (.bool false)], args := [d1, d2] }
  | _ => none }
def WaveQuartersWrongFalsely : Prop := waveQuartersRow.holds Try.pinned (OpenSpec.ofChange waveQuartersWrong)

/-- 'guidevanelaw03.WaveResonant': WHATEVER THE INPUT: true; the input reads as it did. -/
def waveResonantSpec : ChangeSpec := { name := "waveResonant", fn := fun _ => fun
  | [d1, d2] => { results := [.lit (.bool true)], args := [d1, d2] }
  | _ => none }
def waveResonantRow : OpenClaim := { program := "ytadmimjaelodkaa", sum := "e4035895da9682888fc2311a21628de9190a9a02944669da2b60fe70bf962778", func := "guidevane/guidevanelaw03.WaveResonant", spec := "waveResonant", unfollowed := true, recurses := true, apart := false }
def WaveResonantSaid : Prop := waveResonantRow.holds Try.pinned (OpenSpec.ofChange waveResonantSpec)

/-- ITS FALSE NEIGHBOUR: 'it returns false'. Refute it at one input. -/
def waveResonantWrong : ChangeSpec := { name := "waveResonant", fn := fun _ => fun
  | [d1, d2] => { results := [.lit (.bool false)], args := [d1, d2] }
  | _ => none }
def WaveResonantWrongFalsely : Prop := waveResonantRow.holds Try.pinned (OpenSpec.ofChange waveResonantWrong)

/-- 'guidevanetop.TopWaveLimit': WHATEVER THE INPUT: true; the input reads as it did. -/
def topWaveLimitSpec : ChangeSpec := { name := "topWaveLimit", fn := fun _ => fun
  | [d1, d2, d3] => { results := [.lit (.bool true)], args := [d1, d2, d3] }
  | _ => none }
def topWaveLimitRow : OpenClaim := { program := "ytadmimjaelodkaa", sum := "e4035895da9682888fc2311a21628de9190a9a02944669da2b60fe70bf962778", func := "guidevane/guidevanetop.TopWaveLimit", spec := "topWaveLimit", unfollowed := true, recurses := true, apart := false }
def TopWaveLimitSaid : Prop := topWaveLimitRow.holds Try.pinned (OpenSpec.ofChange topWaveLimitSpec)

/-- ITS FALSE NEIGHBOUR: 'it returns false'. Refute it at one input. -/
def topWaveLimitWrong : ChangeSpec := { name := "topWaveLimit", fn := fun _ => fun
  | [d1, d2, d3] => { results := [.lit (.bool false)], args := [d1, d2, d3] }
  | _ => none }
def TopWaveLimitWrongFalsely : Prop := topWaveLimitRow.holds Try.pinned (OpenSpec.ofChange topWaveLimitWrong)

/-- 'guidevanelaw03.WaveLines': WHATEVER THE INPUT: true; the input reads as it did. -/
def waveLinesSpec : ChangeSpec := { name := "waveLines", fn := fun _ => fun
  | [d] => { results := [.lit (.bool true)], args := [d] }
  | _ => none }
def waveLinesRow : OpenClaim := { program := "ytadmimjaelodkaa", sum := "e4035895da9682888fc2311a21628de9190a9a02944669da2b60fe70bf962778", func := "guidevane/guidevanelaw03.WaveLines", spec := "waveLines", unfollowed := true, recurses := true, apart := false }
def WaveLinesSaid : Prop := waveLinesRow.holds Try.pinned (OpenSpec.ofChange waveLinesSpec)

/-- ITS FALSE NEIGHBOUR: 'it returns false'. Refute it at one input. -/
def waveLinesWrong : ChangeSpec := { name := "waveLines", fn := fun _ => fun
  | [d] => { results := [.lit (.bool false)], args := [d] }
  | _ => none }
def WaveLinesWrongFalsely : Prop := waveLinesRow.holds Try.pinned (OpenSpec.ofChange waveLinesWrong)

/-- 'guidevanelaw03.WaveTasks': WHATEVER THE INPUT: true; the input reads as it did. -/
def waveTasksSpec : ChangeSpec := { name := "waveTasks", fn := fun _ => fun
  | [d1, d2, d3] => { results := [.lit (.bool true)], args := [d1, d2, d3] }
  | _ => none }
def waveTasksRow : OpenClaim := { program := "ytadmimjaelodkaa", sum := "e4035895da9682888fc2311a21628de9190a9a02944669da2b60fe70bf962778", func := "guidevane/guidevanelaw03.WaveTasks", spec := "waveTasks", unfollowed := true, recurses := true, apart := false }
def WaveTasksSaid : Prop := waveTasksRow.holds Try.pinned (OpenSpec.ofChange waveTasksSpec)

/-- ITS FALSE NEIGHBOUR: 'it returns false'. Refute it at one input. -/
def waveTasksWrong : ChangeSpec := { name := "waveTasks", fn := fun _ => fun
  | [d1, d2, d3] => { results := [.lit (.bool false)], args := [d1, d2, d3] }
  | _ => none }
def WaveTasksWrongFalsely : Prop := waveTasksRow.holds Try.pinned (OpenSpec.ofChange waveTasksWrong)

/-- 'guidevanelaw03.WaveFastest': WHATEVER THE INPUT: true; the input reads as it did. -/
def waveFastestSpec : ChangeSpec := { name := "waveFastest", fn := fun _ => fun
  | [d1, d2, d3] => { results := [.lit (.bool true)], args := [d1, d2, d3] }
  | _ => none }
def waveFastestRow : OpenClaim := { program := "ytadmimjaelodkaa", sum := "e4035895da9682888fc2311a21628de9190a9a02944669da2b60fe70bf962778", func := "guidevane/guidevanelaw03.WaveFastest", spec := "waveFastest", unfollowed := true, recurses := true, apart := false }
def WaveFastestSaid : Prop := waveFastestRow.holds Try.pinned (OpenSpec.ofChange waveFastestSpec)

/-- ITS FALSE NEIGHBOUR: 'it returns false'. Refute it at one input. -/
def waveFastestWrong : ChangeSpec := { name := "waveFastest", fn := fun _ => fun
  | [d1, d2, d3] => { results := [.lit (.bool false)], args := [d1, d2, d3] }
  | _ => none }
def WaveFastestWrongFalsely : Prop := waveFastestRow.holds Try.pinned (OpenSpec.ofChange waveFastestWrong)

/-- 'guidevanelaw03.WaveEnergy': WHATEVER THE INPUT: true; the input reads as it did. -/
def waveEnergySpec : ChangeSpec := { name := "waveEnergy", fn := fun _ => fun
  | [d1, d2, d3] => { results := [.lit (.bool true)], args := [d1, d2, d3] }
  | _ => none }
def waveEnergyRow : OpenClaim := { program := "ytadmimjaelodkaa", sum := "e4035895da9682888fc2311a21628de9190a9a02944669da2b60fe70bf962778", func := "guidevane/guidevanelaw03.WaveEnergy", spec := "waveEnergy", unfollowed := true, recurses := true, apart := false }
def WaveEnergySaid : Prop := waveEnergyRow.holds Try.pinned (OpenSpec.ofChange waveEnergySpec)

/-- ITS FALSE NEIGHBOUR: 'it returns false'. Refute it at one input. -/
def waveEnergyWrong : ChangeSpec := { name := "waveEnergy", fn := fun _ => fun
  | [d1, d2, d3] => { results := [.lit (.bool false)], args := [d1, d2, d3] }
  | _ => none }
def WaveEnergyWrongFalsely : Prop := waveEnergyRow.holds Try.pinned (OpenSpec.ofChange waveEnergyWrong)

/-- 'guidevanelaw03.WaveLaws': WHATEVER THE INPUT: true; the input reads as it did. -/
def waveLawsSpec : ChangeSpec := { name := "waveLaws", fn := fun _ => fun
  | [d1, d2, d3] => { results := [.lit (.bool true)], args := [d1, d2, d3] }
  | _ => none }
def waveLawsRow : OpenClaim := { program := "ytadmimjaelodkaa", sum := "e4035895da9682888fc2311a21628de9190a9a02944669da2b60fe70bf962778", func := "guidevane/guidevanelaw03.WaveLaws", spec := "waveLaws", unfollowed := true, recurses := true, apart := false }
def WaveLawsSaid : Prop := waveLawsRow.holds Try.pinned (OpenSpec.ofChange waveLawsSpec)

/-- ITS FALSE NEIGHBOUR: 'it returns false'. Refute it at one input. -/
def waveLawsWrong : ChangeSpec := { name := "waveLaws", fn := fun _ => fun
  | [d1, d2, d3] => { results := [.lit (.bool false)], args := [d1, d2, d3] }
  | _ => none }
def WaveLawsWrongFalsely : Prop := waveLawsRow.holds Try.pinned (OpenSpec.ofChange waveLawsWrong)

/-- 'guidevanelaw03.WaveStates': WHATEVER THE INPUT: true; the input reads as it did. -/
def waveStatesSpec : ChangeSpec := { name := "waveStates", fn := fun _ => fun
  | [d1, d2] => { results := [.lit (.bool true)], args := [d1, d2] }
  | _ => none }
def waveStatesRow : OpenClaim := { program := "ytadmimjaelodkaa", sum := "e4035895da9682888fc2311a21628de9190a9a02944669da2b60fe70bf962778", func := "guidevane/guidevanelaw03.WaveStates", spec := "waveStates", unfollowed := true, recurses := true, apart := false }
def WaveStatesSaid : Prop := waveStatesRow.holds Try.pinned (OpenSpec.ofChange waveStatesSpec)

/-- ITS FALSE NEIGHBOUR: 'it returns false'. Refute it at one input. -/
def waveStatesWrong : ChangeSpec := { name := "waveStates", fn := fun _ => fun
  | [d1, d2] => { results := [.lit (.bool false)], args := [d1, d2] }
  | _ => none }
def WaveStatesWrongFalsely : Prop := waveStatesRow.holds Try.pinned (OpenSpec.ofChange waveStatesWrong)

/-- 'guidevanelaw03.WaveOscillations': WHATEVER THE INPUT: true; the input reads as it did. -/
def waveOscillationsSpec : ChangeSpec := { name := "waveOscillations", fn := fun _ => fun
  | [d1, d2, d3] => { results := [.lit (.bool true)], args := [d1, d2, d3] }
  | _ => none }
def waveOscillationsRow : OpenClaim := { program := "ytadmimjaelodkaa", sum := "e4035895da9682888fc2311a21628de9190a9a02944669da2b60fe70bf962778", func := "guidevane/guidevanelaw03.WaveOscillations", spec := "waveOscillations", unfollowed := true, recurses := true, apart := false }
def WaveOscillationsSaid : Prop := waveOscillationsRow.holds Try.pinned (OpenSpec.ofChange waveOscillationsSpec)

/-- ITS FALSE NEIGHBOUR: 'it returns false'. Refute it at one input. -/
def waveOscillationsWrong : ChangeSpec := { name := "waveOscillations", fn := fun _ => fun
  | [d1, d2, d3] => { results := [.lit (.bool false)], args := [d1, d2, d3] }
  | _ => none }
def WaveOscillationsWrongFalsely : Prop := waveOscillationsRow.holds Try.pinned (OpenSpec.ofChange waveOscillationsWrong)

/-- 'guidevanelaw03.WaveAgree': WHATEVER THE INPUT: true; the input reads as it did. -/
def waveAgreeSpec : ChangeSpec := { name := "waveAgree", fn := fun _ => fun
  | [d1, d2, d3] => { results := [.lit (.bool true)], args := [d1, d2, d3] }
  | _ => none }
def waveAgreeRow : OpenClaim := { program := "ytadmimjaelodkaa", sum := "e4035895da9682888fc2311a21628de9190a9a02944669da2b60fe70bf962778", func := "guidevane/guidevanelaw03.WaveAgree", spec := "waveAgree", unfollowed := true, recurses := true, apart := false }
def WaveAgreeSaid : Prop := waveAgreeRow.holds Try.pinned (OpenSpec.ofChange waveAgreeSpec)

/-- ITS FALSE NEIGHBOUR: 'it returns false'. Refute it at one input. -/
def waveAgreeWrong : ChangeSpec := { name := "waveAgree", fn := fun _ => fun
  | [d1, d2, d3] => { results := [.lit (.bool false)], args := [d1, d2, d3] }
  | _ => none }
def WaveAgreeWrongFalsely : Prop := waveAgreeRow.holds Try.pinned (OpenSpec.ofChange waveAgreeWrong)

/- THE SECOND FORM. 'bulk': how many values and letters a reading holds, each counted each time it is reached (what is shared counts as often as it is met; a slice's spare places count too). A statement '..UptoSaid' is the law's where the arguments, and the package variables that the reading takes, are together of bulk at most 1048576: NARROWER than '..Said'. Prove '..Said' where nothing that the law and all that it calls make is longer than what came in: it says more and counts as full. Else prove '..UptoSaid'. A law counts once. -/
mutual
def uptoBulk {H : Type} : DataW H → Nat
  | .lit (.string bytes) => bytes.length + 1
  | .lit _ => 1
  | .nil => 1
  | .ptr d => uptoBulk d + 1
  | .slice elems spare => uptoBulkAll elems + uptoBulkAll spare + 1
  | .agg parts => uptoBulkAll parts + 1
  | .iface _ d => uptoBulk d + 1
  | .map entries => uptoBulkEntries entries + 1
  | .held _ => 1
def uptoBulkAll {H : Type} : List (DataW H) → Nat
  | [] => 0
  | d :: r => uptoBulk d + uptoBulkAll r
def uptoBulkEntries {H : Type} : List (Lit × DataW H) → Nat
  | [] => 0
  | x :: r => uptoBulkEntry x + uptoBulkEntries r
def uptoBulkEntry {H : Type} : Lit × DataW H → Nat
  | (.string bytes, d) => bytes.length + uptoBulk d + 1
  | (_, d) => uptoBulk d + 1
 end
def uptoSmall : (H : Type) → List (DataW H) → Bool := fun _ ds => decide (uptoBulkAll ds ≤ 1048576)
def OpenSpec.upto (s : _root_.Go.ChangeSpec) : _root_.Go.OpenSpec := { _root_.Go.OpenSpec.ofChange s with cond := some uptoSmall }

/-- 'guidevanelaw03.WaveTicks', WHERE WHAT IT READS IS OF BULK AT MOST 1048576: true; the input reads as it did. -/
def waveTicksUptoRow : OpenClaim := { program := "ytadmimjaelodkaa", sum := "e4035895da9682888fc2311a21628de9190a9a02944669da2b60fe70bf962778", func := "guidevane/guidevanelaw03.WaveTicks", spec := "waveTicks", unfollowed := true, recurses := true, apart := false, narrowed := true }
def WaveTicksUptoSaid : Prop := waveTicksUptoRow.holds Try.pinned (OpenSpec.upto waveTicksSpec)

/-- 'guidevanelaw03.WaveSums', WHERE WHAT IT READS IS OF BULK AT MOST 1048576: true; the input reads as it did. -/
def waveSumsUptoRow : OpenClaim := { program := "ytadmimjaelodkaa", sum := "e4035895da9682888fc2311a21628de9190a9a02944669da2b60fe70bf962778", func := "guidevane/guidevanelaw03.WaveSums", spec := "waveSums", unfollowed := true, recurses := true, apart := false, narrowed := true }
def WaveSumsUptoSaid : Prop := waveSumsUptoRow.holds Try.pinned (OpenSpec.upto waveSumsSpec)

/-- 'guidevanelaw03.WaveEveryLaw', WHERE WHAT IT READS IS OF BULK AT MOST 1048576: true; the input reads as it did. -/
def waveEveryLawUptoRow : OpenClaim := { program := "ytadmimjaelodkaa", sum := "e4035895da9682888fc2311a21628de9190a9a02944669da2b60fe70bf962778", func := "guidevane/guidevanelaw03.WaveEveryLaw", spec := "waveEveryLaw", unfollowed := true, recurses := true, apart := false, narrowed := true }
def WaveEveryLawUptoSaid : Prop := waveEveryLawUptoRow.holds Try.pinned (OpenSpec.upto waveEveryLawSpec)

/-- 'guidevanelaw03.WaveQuarters', WHERE WHAT IT READS IS OF BULK AT MOST 1048576: true; the input reads as it did. -/
def waveQuartersUptoRow : OpenClaim := { program := "ytadmimjaelodkaa", sum := "e4035895da9682888fc2311a21628de9190a9a02944669da2b60fe70bf962778", func := "guidevane/guidevanelaw03.WaveQuarters", spec := "waveQuarters", unfollowed := true, recurses := true, apart := false, narrowed := true }
def WaveQuartersUptoSaid : Prop := waveQuartersUptoRow.holds Try.pinned (OpenSpec.upto waveQuartersSpec)

/-- 'guidevanelaw03.WaveResonant', WHERE WHAT IT READS IS OF BULK AT MOST 1048576: true; the input reads as it did. -/
def waveResonantUptoRow : OpenClaim := { program := "ytadmimjaelodkaa", sum := "e4035895da9682888fc2311a21628de9190a9a02944669da2b60fe70bf962778", func := "guidevane/guidevanelaw03.WaveResonant", spec := "waveResonant", unfollowed := true, recurses := true, apart := false, narrowed := true }
def WaveResonantUptoSaid : Prop := waveResonantUptoRow.holds Try.pinned (OpenSpec.upto waveResonantSpec)

/-- 'guidevanetop.TopWaveLimit', WHERE WHAT IT READS IS OF BULK AT MOST 1048576: true; the input reads as it did. -/
def topWaveLimitUptoRow : OpenClaim := { program := "ytadmimjaelodkaa", sum := "e4035895da9682888fc2311a21628de9190a9a02944669da2b60fe70bf962778", func := "guidevane/guidevanetop.TopWaveLimit", spec := "topWaveLimit", unfollowed := true, recurses := true, apart := false, narrowed := true }
def TopWaveLimitUptoSaid : Prop := topWaveLimitUptoRow.holds Try.pinned (OpenSpec.upto topWaveLimitSpec)

/-- 'guidevanelaw03.WaveLines', WHERE WHAT IT READS IS OF BULK AT MOST 1048576: true; the input reads as it did. -/
def waveLinesUptoRow : OpenClaim := { program := "ytadmimjaelodkaa", sum := "e4035895da9682888fc2311a21628de9190a9a02944669da2b60fe70bf962778", func := "guidevane/guidevanelaw03.WaveLines", spec := "waveLines", unfollowed := true, recurses := true, apart := false, narrowed := true }
def WaveLinesUptoSaid : Prop := waveLinesUptoRow.holds Try.pinned (OpenSpec.upto waveLinesSpec)

/-- 'guidevanelaw03.WaveTasks', WHERE WHAT IT READS IS OF BULK AT MOST 1048576: true; the input reads as it did. -/
def waveTasksUptoRow : OpenClaim := { program := "ytadmimjaelodkaa", sum := "e4035895da9682888fc2311a21628de9190a9a02944669da2b60fe70bf962778", func := "guidevane/guidevanelaw03.WaveTasks", spec := "waveTasks", unfollowed := true, recurses := true, apart := false, narrowed := true }
def WaveTasksUptoSaid : Prop := waveTasksUptoRow.holds Try.pinned (OpenSpec.upto waveTasksSpec)

/-- 'guidevanelaw03.WaveFastest', WHERE WHAT IT READS IS OF BULK AT MOST 1048576: true; the input reads as it did. -/
def waveFastestUptoRow : OpenClaim := { program := "ytadmimjaelodkaa", sum := "e4035895da9682888fc2311a21628de9190a9a02944669da2b60fe70bf962778", func := "guidevane/guidevanelaw03.WaveFastest", spec := "waveFastest", unfollowed := true, recurses := true, apart := false, narrowed := true }
def WaveFastestUptoSaid : Prop := waveFastestUptoRow.holds Try.pinned (OpenSpec.upto waveFastestSpec)

/-- 'guidevanelaw03.WaveEnergy', WHERE WHAT IT READS IS OF BULK AT MOST 1048576: true; the input reads as it did. -/
def waveEnergyUptoRow : OpenClaim := { program := "ytadmimjaelodkaa", sum := "e4035895da9682888fc2311a21628de9190a9a02944669da2b60fe70bf962778", func := "guidevane/guidevanelaw03.WaveEnergy", spec := "waveEnergy", unfollowed := true, recurses := true, apart := false, narrowed := true }
def WaveEnergyUptoSaid : Prop := waveEnergyUptoRow.holds Try.pinned (OpenSpec.upto waveEnergySpec)

/-- 'guidevanelaw03.WaveLaws', WHERE WHAT IT READS IS OF BULK AT MOST 1048576: true; the input reads as it did. -/
def waveLawsUptoRow : OpenClaim := { program := "ytadmimjaelodkaa", sum := "e4035895da9682888fc2311a21628de9190a9a02944669da2b60fe70bf962778", func := "guidevane/guidevanelaw03.WaveLaws", spec := "waveLaws", unfollowed := true, recurses := true, apart := false, narrowed := true }
def WaveLawsUptoSaid : Prop := waveLawsUptoRow.holds Try.pinned (OpenSpec.upto waveLawsSpec)

/-- 'guidevanelaw03.WaveStates', WHERE WHAT IT READS IS OF BULK AT MOST 1048576: true; the input reads as it did. -/
def waveStatesUptoRow : OpenClaim := { program := "ytadmimjaelodkaa", sum := "e4035895da9682888fc2311a21628de9190a9a02944669da2b60fe70bf962778", func := "guidevane/guidevanelaw03.WaveStates", spec := "waveStates", unfollowed := true, recurses := true, apart := false, narrowed := true }
def WaveStatesUptoSaid : Prop := waveStatesUptoRow.holds Try.pinned (OpenSpec.upto waveStatesSpec)

/-- 'guidevanelaw03.WaveOscillations', WHERE WHAT IT READS IS OF BULK AT MOST 1048576: true; the input reads as it did. -/
def waveOscillationsUptoRow : OpenClaim := { program := "ytadmimjaelodkaa", sum := "e4035895da9682888fc2311a21628de9190a9a02944669da2b60fe70bf962778", func := "guidevane/guidevanelaw03.WaveOscillations", spec := "waveOscillations", unfollowed := true, recurses := true, apart := false, narrowed := true }
def WaveOscillationsUptoSaid : Prop := waveOscillationsUptoRow.holds Try.pinned (OpenSpec.upto waveOscillationsSpec)

/-- 'guidevanelaw03.WaveAgree', WHERE WHAT IT READS IS OF BULK AT MOST 1048576: true; the input reads as it did. -/
def waveAgreeUptoRow : OpenClaim := { program := "ytadmimjaelodkaa", sum := "e4035895da9682888fc2311a21628de9190a9a02944669da2b60fe70bf962778", func := "guidevane/guidevanelaw03.WaveAgree", spec := "waveAgree", unfollowed := true, recurses := true, apart := false, narrowed := true }
def WaveAgreeUptoSaid : Prop := waveAgreeUptoRow.holds Try.pinned (OpenSpec.upto waveAgreeSpec)

end Rows
end Go.Proofs.Ytadmimjaelodkaa
