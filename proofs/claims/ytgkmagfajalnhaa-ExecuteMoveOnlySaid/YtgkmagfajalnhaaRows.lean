/-
  No cell of these rows narrows 'for every input' (looked for: loops, veiled, ifaces, maps, wideKeys, modest, calm, conditions, laid).
  DERIVED. THE GIVEN ROWS OF THIS SEAT. 16 by the template 'for every input the law returns true; each argument reads behind the call as it read before'; 0 by the template 'total and deterministic' (their statements: YtgkmagfajalnhaaTotals.lean).
  GIVEN WITH THE SEED: the statements are not yours to turn. If you find one false, say at which input.
  Laid BY PROGRAM, IN A SANDBOX (cutbox-rows.mjs): the forced cells as the released guide's own fill.sh prints them over the translation f6a028a907f4a6b4… (all of the seat's roots in one cut). By AI agents, Wed Nov 11 2026. No macro, syntax, notation, axiom, sorry.
-/
import Derived.Test.YtgkmagfajalnhaaChecked
import GoSem.Claim
import GoSem.ClaimJoined
import GoSem.ClaimMapViews
import Derived.JoinedTies
import Derived.KernelRfl
namespace Go.Proofs.Ytgkmagfajalnhaa
/- THE CELL 'sum', in the pinned program and in every row, IS THE sha256 OF THE DUMP (.gsa) THAT YtgkmagfajalnhaaProg.lean LOADS. Nothing in Lean hashes anything: it is a label: what it is worth is what the hold of that sum in a sandbox is worth. -/
noncomputable def Try.pinned : Pinned := { name := "ytgkmagfajalnhaa", sum := "f6a028a907f4a6b46d73af938b0578f7f97f9b9fe5a6adcfe7d8f4010cb6802c", checked := Try.checked }
namespace Rows
def none {H : Type} : Left H := { results := [], args := [] }

/-- 'regcertlaw06.AluMatchesReference': WHATEVER THE INPUT: true; the input reads as it did. -/
def aluMatchesReferenceSpec : ChangeSpec := { name := "aluMatchesReference", fn := fun _ => fun
  | [d1, d2, d3, d4] => { results := [.lit (.bool true)], args := [d1, d2, d3, d4] }
  | _ => none }
def aluMatchesReferenceRow : OpenClaim := { program := "ytgkmagfajalnhaa", sum := "f6a028a907f4a6b46d73af938b0578f7f97f9b9fe5a6adcfe7d8f4010cb6802c", func := "regcert/regcertlaw06.AluMatchesReference", spec := "aluMatchesReference", unfollowed := true, recurses := true, apart := false }
def AluMatchesReferenceSaid : Prop := aluMatchesReferenceRow.holds Try.pinned (OpenSpec.ofChange aluMatchesReferenceSpec)

/-- ITS FALSE NEIGHBOUR: 'it returns false'. Refute it at one input. -/
def aluMatchesReferenceWrong : ChangeSpec := { name := "aluMatchesReference", fn := fun _ => fun
  | [d1, d2, d3, d4] => { results := [.lit (.bool false)], args := [d1, d2, d3, d4] }
  | _ => none }
def AluMatchesReferenceWrongFalsely : Prop := aluMatchesReferenceRow.holds Try.pinned (OpenSpec.ofChange aluMatchesReferenceWrong)

/-- 'regcertlaw06.AluUnusedOperands': WHATEVER THE INPUT: true; the input reads as it did. -/
def aluUnusedOperandsSpec : ChangeSpec := { name := "aluUnusedOperands", fn := fun _ => fun
  | [d1, d2, d3, d4, d5] => { results := [.lit (.bool true)], args := [d1, d2, d3, d4, d5] }
  | _ => none }
def aluUnusedOperandsRow : OpenClaim := { program := "ytgkmagfajalnhaa", sum := "f6a028a907f4a6b46d73af938b0578f7f97f9b9fe5a6adcfe7d8f4010cb6802c", func := "regcert/regcertlaw06.AluUnusedOperands", spec := "aluUnusedOperands", unfollowed := true, recurses := true, apart := false }
def AluUnusedOperandsSaid : Prop := aluUnusedOperandsRow.holds Try.pinned (OpenSpec.ofChange aluUnusedOperandsSpec)

/-- ITS FALSE NEIGHBOUR: 'it returns false'. Refute it at one input. -/
def aluUnusedOperandsWrong : ChangeSpec := { name := "aluUnusedOperands", fn := fun _ => fun
  | [d1, d2, d3, d4, d5] => { results := [.lit (.bool false)], args := [d1, d2, d3, d4, d5] }
  | _ => none }
def AluUnusedOperandsWrongFalsely : Prop := aluUnusedOperandsRow.holds Try.pinned (OpenSpec.ofChange aluUnusedOperandsWrong)

/-- 'regcertlaw06.AluDivision': WHATEVER THE INPUT: true; the input reads as it did. -/
def aluDivisionSpec : ChangeSpec := { name := "aluDivision", fn := fun _ => fun
  | [d1, d2] => { results := [.lit (.bool true)], args := [d1, d2] }
  | _ => none }
def aluDivisionRow : OpenClaim := { program := "ytgkmagfajalnhaa", sum := "f6a028a907f4a6b46d73af938b0578f7f97f9b9fe5a6adcfe7d8f4010cb6802c", func := "regcert/regcertlaw06.AluDivision", spec := "aluDivision", unfollowed := true, recurses := true, apart := false }
def AluDivisionSaid : Prop := aluDivisionRow.holds Try.pinned (OpenSpec.ofChange aluDivisionSpec)

/-- ITS FALSE NEIGHBOUR: 'it returns false'. Refute it at one input. -/
def aluDivisionWrong : ChangeSpec := { name := "aluDivision", fn := fun _ => fun
  | [d1, d2] => { results := [.lit (.bool false)], args := [d1, d2] }
  | _ => none }
def AluDivisionWrongFalsely : Prop := aluDivisionRow.holds Try.pinned (OpenSpec.ofChange aluDivisionWrong)

/-- 'regcertlaw06.AluAlgebra': WHATEVER THE INPUT: true; the input reads as it did. -/
def aluAlgebraSpec : ChangeSpec := { name := "aluAlgebra", fn := fun _ => fun
  | [d1, d2, d3] => { results := [.lit (.bool true)], args := [d1, d2, d3] }
  | _ => none }
def aluAlgebraRow : OpenClaim := { program := "ytgkmagfajalnhaa", sum := "f6a028a907f4a6b46d73af938b0578f7f97f9b9fe5a6adcfe7d8f4010cb6802c", func := "regcert/regcertlaw06.AluAlgebra", spec := "aluAlgebra", unfollowed := true, recurses := true, apart := false }
def AluAlgebraSaid : Prop := aluAlgebraRow.holds Try.pinned (OpenSpec.ofChange aluAlgebraSpec)

/-- ITS FALSE NEIGHBOUR: 'it returns false'. Refute it at one input. -/
def aluAlgebraWrong : ChangeSpec := { name := "aluAlgebra", fn := fun _ => fun
  | [d1, d2, d3] => { results := [.lit (.bool false)], args := [d1, d2, d3] }
  | _ => none }
def AluAlgebraWrongFalsely : Prop := aluAlgebraRow.holds Try.pinned (OpenSpec.ofChange aluAlgebraWrong)

/-- 'regcertlaw06.AluShifts': WHATEVER THE INPUT: true; the input reads as it did. -/
def aluShiftsSpec : ChangeSpec := { name := "aluShifts", fn := fun _ => fun
  | [d1, d2, d3] => { results := [.lit (.bool true)], args := [d1, d2, d3] }
  | _ => none }
def aluShiftsRow : OpenClaim := { program := "ytgkmagfajalnhaa", sum := "f6a028a907f4a6b46d73af938b0578f7f97f9b9fe5a6adcfe7d8f4010cb6802c", func := "regcert/regcertlaw06.AluShifts", spec := "aluShifts", unfollowed := true, recurses := true, apart := false }
def AluShiftsSaid : Prop := aluShiftsRow.holds Try.pinned (OpenSpec.ofChange aluShiftsSpec)

/-- ITS FALSE NEIGHBOUR: 'it returns false'. Refute it at one input. -/
def aluShiftsWrong : ChangeSpec := { name := "aluShifts", fn := fun _ => fun
  | [d1, d2, d3] => { results := [.lit (.bool false)], args := [d1, d2, d3] }
  | _ => none }
def AluShiftsWrongFalsely : Prop := aluShiftsRow.holds Try.pinned (OpenSpec.ofChange aluShiftsWrong)

/-- 'regcertlaw09.InterpFuel': WHATEVER THE INPUT: true; the input reads as it did. -/
def interpFuelSpec : ChangeSpec := { name := "interpFuel", fn := fun _ => fun
  | [d1, d2, d3, d4] => { results := [.lit (.bool true)], args := [d1, d2, d3, d4] }
  | _ => none }
def interpFuelRow : OpenClaim := { program := "ytgkmagfajalnhaa", sum := "f6a028a907f4a6b46d73af938b0578f7f97f9b9fe5a6adcfe7d8f4010cb6802c", func := "regcert/regcertlaw09.InterpFuel", spec := "interpFuel", unfollowed := true, recurses := true, apart := false }
def InterpFuelSaid : Prop := interpFuelRow.holds Try.pinned (OpenSpec.ofChange interpFuelSpec)

/-- ITS FALSE NEIGHBOUR: 'it returns false'. Refute it at one input. -/
def interpFuelWrong : ChangeSpec := { name := "interpFuel", fn := fun _ => fun
  | [d1, d2, d3, d4] => { results := [.lit (.bool false)], args := [d1, d2, d3, d4] }
  | _ => none }
def InterpFuelWrongFalsely : Prop := interpFuelRow.holds Try.pinned (OpenSpec.ofChange interpFuelWrong)

/-- 'regcertlaw09.InterpUnreachable': WHATEVER THE INPUT: true; the input reads as it did. -/
def interpUnreachableSpec : ChangeSpec := { name := "interpUnreachable", fn := fun _ => fun
  | [d1, d2, d3, d4, d5] => { results := [.lit (.bool true)], args := [d1, d2, d3, d4, d5] }
  | _ => none }
def interpUnreachableRow : OpenClaim := { program := "ytgkmagfajalnhaa", sum := "f6a028a907f4a6b46d73af938b0578f7f97f9b9fe5a6adcfe7d8f4010cb6802c", func := "regcert/regcertlaw09.InterpUnreachable", spec := "interpUnreachable", unfollowed := true, recurses := true, apart := false }
def InterpUnreachableSaid : Prop := interpUnreachableRow.holds Try.pinned (OpenSpec.ofChange interpUnreachableSpec)

/-- ITS FALSE NEIGHBOUR: 'it returns false'. Refute it at one input. -/
def interpUnreachableWrong : ChangeSpec := { name := "interpUnreachable", fn := fun _ => fun
  | [d1, d2, d3, d4, d5] => { results := [.lit (.bool false)], args := [d1, d2, d3, d4, d5] }
  | _ => none }
def InterpUnreachableWrongFalsely : Prop := interpUnreachableRow.holds Try.pinned (OpenSpec.ofChange interpUnreachableWrong)

/-- 'regcertlaw09.InterpKeeps': WHATEVER THE INPUT: true; the input reads as it did. -/
def interpKeepsSpec : ChangeSpec := { name := "interpKeeps", fn := fun _ => fun
  | [d1, d2, d3] => { results := [.lit (.bool true)], args := [d1, d2, d3] }
  | _ => none }
def interpKeepsRow : OpenClaim := { program := "ytgkmagfajalnhaa", sum := "f6a028a907f4a6b46d73af938b0578f7f97f9b9fe5a6adcfe7d8f4010cb6802c", func := "regcert/regcertlaw09.InterpKeeps", spec := "interpKeeps", unfollowed := true, recurses := true, apart := false }
def InterpKeepsSaid : Prop := interpKeepsRow.holds Try.pinned (OpenSpec.ofChange interpKeepsSpec)

/-- ITS FALSE NEIGHBOUR: 'it returns false'. Refute it at one input. -/
def interpKeepsWrong : ChangeSpec := { name := "interpKeeps", fn := fun _ => fun
  | [d1, d2, d3] => { results := [.lit (.bool false)], args := [d1, d2, d3] }
  | _ => none }
def InterpKeepsWrongFalsely : Prop := interpKeepsRow.holds Try.pinned (OpenSpec.ofChange interpKeepsWrong)

/-- 'regcertlaw09.InterpMatchesReference': WHATEVER THE INPUT: true; the input reads as it did. -/
def interpMatchesReferenceSpec : ChangeSpec := { name := "interpMatchesReference", fn := fun _ => fun
  | [d1, d2, d3] => { results := [.lit (.bool true)], args := [d1, d2, d3] }
  | _ => none }
def interpMatchesReferenceRow : OpenClaim := { program := "ytgkmagfajalnhaa", sum := "f6a028a907f4a6b46d73af938b0578f7f97f9b9fe5a6adcfe7d8f4010cb6802c", func := "regcert/regcertlaw09.InterpMatchesReference", spec := "interpMatchesReference", unfollowed := true, recurses := true, apart := false }
def InterpMatchesReferenceSaid : Prop := interpMatchesReferenceRow.holds Try.pinned (OpenSpec.ofChange interpMatchesReferenceSpec)

/-- ITS FALSE NEIGHBOUR: 'it returns false'. Refute it at one input. -/
def interpMatchesReferenceWrong : ChangeSpec := { name := "interpMatchesReference", fn := fun _ => fun
  | [d1, d2, d3] => { results := [.lit (.bool false)], args := [d1, d2, d3] }
  | _ => none }
def InterpMatchesReferenceWrongFalsely : Prop := interpMatchesReferenceRow.holds Try.pinned (OpenSpec.ofChange interpMatchesReferenceWrong)

/-- 'regcertlaw09.InterpSteps': WHATEVER THE INPUT: true; the input reads as it did. -/
def interpStepsSpec : ChangeSpec := { name := "interpSteps", fn := fun _ => fun
  | [d1, d2, d3] => { results := [.lit (.bool true)], args := [d1, d2, d3] }
  | _ => none }
def interpStepsRow : OpenClaim := { program := "ytgkmagfajalnhaa", sum := "f6a028a907f4a6b46d73af938b0578f7f97f9b9fe5a6adcfe7d8f4010cb6802c", func := "regcert/regcertlaw09.InterpSteps", spec := "interpSteps", unfollowed := true, recurses := true, apart := false }
def InterpStepsSaid : Prop := interpStepsRow.holds Try.pinned (OpenSpec.ofChange interpStepsSpec)

/-- ITS FALSE NEIGHBOUR: 'it returns false'. Refute it at one input. -/
def interpStepsWrong : ChangeSpec := { name := "interpSteps", fn := fun _ => fun
  | [d1, d2, d3] => { results := [.lit (.bool false)], args := [d1, d2, d3] }
  | _ => none }
def InterpStepsWrongFalsely : Prop := interpStepsRow.holds Try.pinned (OpenSpec.ofChange interpStepsWrong)

/-- 'regcertlaw10.ExecuteFuel': WHATEVER THE INPUT: true; the input reads as it did. -/
def executeFuelSpec : ChangeSpec := { name := "executeFuel", fn := fun _ => fun
  | [d1, d2, d3, d4] => { results := [.lit (.bool true)], args := [d1, d2, d3, d4] }
  | _ => none }
def executeFuelRow : OpenClaim := { program := "ytgkmagfajalnhaa", sum := "f6a028a907f4a6b46d73af938b0578f7f97f9b9fe5a6adcfe7d8f4010cb6802c", func := "regcert/regcertlaw10.ExecuteFuel", spec := "executeFuel", unfollowed := true, recurses := true, apart := false }
def ExecuteFuelSaid : Prop := executeFuelRow.holds Try.pinned (OpenSpec.ofChange executeFuelSpec)

/-- ITS FALSE NEIGHBOUR: 'it returns false'. Refute it at one input. -/
def executeFuelWrong : ChangeSpec := { name := "executeFuel", fn := fun _ => fun
  | [d1, d2, d3, d4] => { results := [.lit (.bool false)], args := [d1, d2, d3, d4] }
  | _ => none }
def ExecuteFuelWrongFalsely : Prop := executeFuelRow.holds Try.pinned (OpenSpec.ofChange executeFuelWrong)

/-- 'regcertlaw10.ExecuteUnused': WHATEVER THE INPUT: true; the input reads as it did. -/
def executeUnusedSpec : ChangeSpec := { name := "executeUnused", fn := fun _ => fun
  | [d1, d2, d3, d4, d5] => { results := [.lit (.bool true)], args := [d1, d2, d3, d4, d5] }
  | _ => none }
def executeUnusedRow : OpenClaim := { program := "ytgkmagfajalnhaa", sum := "f6a028a907f4a6b46d73af938b0578f7f97f9b9fe5a6adcfe7d8f4010cb6802c", func := "regcert/regcertlaw10.ExecuteUnused", spec := "executeUnused", unfollowed := true, recurses := true, apart := false }
def ExecuteUnusedSaid : Prop := executeUnusedRow.holds Try.pinned (OpenSpec.ofChange executeUnusedSpec)

/-- ITS FALSE NEIGHBOUR: 'it returns false'. Refute it at one input. -/
def executeUnusedWrong : ChangeSpec := { name := "executeUnused", fn := fun _ => fun
  | [d1, d2, d3, d4, d5] => { results := [.lit (.bool false)], args := [d1, d2, d3, d4, d5] }
  | _ => none }
def ExecuteUnusedWrongFalsely : Prop := executeUnusedRow.holds Try.pinned (OpenSpec.ofChange executeUnusedWrong)

/-- 'regcertlaw10.ExecuteMatchesReference': WHATEVER THE INPUT: true; the input reads as it did. -/
def executeMatchesReferenceSpec : ChangeSpec := { name := "executeMatchesReference", fn := fun _ => fun
  | [d1, d2, d3, d4] => { results := [.lit (.bool true)], args := [d1, d2, d3, d4] }
  | _ => none }
def executeMatchesReferenceRow : OpenClaim := { program := "ytgkmagfajalnhaa", sum := "f6a028a907f4a6b46d73af938b0578f7f97f9b9fe5a6adcfe7d8f4010cb6802c", func := "regcert/regcertlaw10.ExecuteMatchesReference", spec := "executeMatchesReference", unfollowed := true, recurses := true, apart := false }
def ExecuteMatchesReferenceSaid : Prop := executeMatchesReferenceRow.holds Try.pinned (OpenSpec.ofChange executeMatchesReferenceSpec)

/-- ITS FALSE NEIGHBOUR: 'it returns false'. Refute it at one input. -/
def executeMatchesReferenceWrong : ChangeSpec := { name := "executeMatchesReference", fn := fun _ => fun
  | [d1, d2, d3, d4] => { results := [.lit (.bool false)], args := [d1, d2, d3, d4] }
  | _ => none }
def ExecuteMatchesReferenceWrongFalsely : Prop := executeMatchesReferenceRow.holds Try.pinned (OpenSpec.ofChange executeMatchesReferenceWrong)

/-- 'regcertlaw10.ExecuteSteps': WHATEVER THE INPUT: true; the input reads as it did. -/
def executeStepsSpec : ChangeSpec := { name := "executeSteps", fn := fun _ => fun
  | [d1, d2, d3] => { results := [.lit (.bool true)], args := [d1, d2, d3] }
  | _ => none }
def executeStepsRow : OpenClaim := { program := "ytgkmagfajalnhaa", sum := "f6a028a907f4a6b46d73af938b0578f7f97f9b9fe5a6adcfe7d8f4010cb6802c", func := "regcert/regcertlaw10.ExecuteSteps", spec := "executeSteps", unfollowed := true, recurses := true, apart := false }
def ExecuteStepsSaid : Prop := executeStepsRow.holds Try.pinned (OpenSpec.ofChange executeStepsSpec)

/-- ITS FALSE NEIGHBOUR: 'it returns false'. Refute it at one input. -/
def executeStepsWrong : ChangeSpec := { name := "executeSteps", fn := fun _ => fun
  | [d1, d2, d3] => { results := [.lit (.bool false)], args := [d1, d2, d3] }
  | _ => none }
def ExecuteStepsWrongFalsely : Prop := executeStepsRow.holds Try.pinned (OpenSpec.ofChange executeStepsWrong)

/-- 'regcertlaw10.ExecuteMoveOnly': WHATEVER THE INPUT: true; the input reads as it did. -/
def executeMoveOnlySpec : ChangeSpec := { name := "executeMoveOnly", fn := fun _ => fun
  | [d1, d2, d3, d4] => { results := [.lit (.bool true)], args := [d1, d2, d3, d4] }
  | _ => none }
def executeMoveOnlyRow : OpenClaim := { program := "ytgkmagfajalnhaa", sum := "f6a028a907f4a6b46d73af938b0578f7f97f9b9fe5a6adcfe7d8f4010cb6802c", func := "regcert/regcertlaw10.ExecuteMoveOnly", spec := "executeMoveOnly", unfollowed := true, recurses := true, apart := false }
def ExecuteMoveOnlySaid : Prop := executeMoveOnlyRow.holds Try.pinned (OpenSpec.ofChange executeMoveOnlySpec)

/-- ITS FALSE NEIGHBOUR: 'it returns false'. Refute it at one input. -/
def executeMoveOnlyWrong : ChangeSpec := { name := "executeMoveOnly", fn := fun _ => fun
  | [d1, d2, d3, d4] => { results := [.lit (.bool false)], args := [d1, d2, d3, d4] }
  | _ => none }
def ExecuteMoveOnlyWrongFalsely : Prop := executeMoveOnlyRow.holds Try.pinned (OpenSpec.ofChange executeMoveOnlyWrong)

/-- 'regcertlaw10.ExecuteKeeps': WHATEVER THE INPUT: true; the input reads as it did. -/
def executeKeepsSpec : ChangeSpec := { name := "executeKeeps", fn := fun _ => fun
  | [d1, d2, d3] => { results := [.lit (.bool true)], args := [d1, d2, d3] }
  | _ => none }
def executeKeepsRow : OpenClaim := { program := "ytgkmagfajalnhaa", sum := "f6a028a907f4a6b46d73af938b0578f7f97f9b9fe5a6adcfe7d8f4010cb6802c", func := "regcert/regcertlaw10.ExecuteKeeps", spec := "executeKeeps", unfollowed := true, recurses := true, apart := false }
def ExecuteKeepsSaid : Prop := executeKeepsRow.holds Try.pinned (OpenSpec.ofChange executeKeepsSpec)

/-- ITS FALSE NEIGHBOUR: 'it returns false'. Refute it at one input. -/
def executeKeepsWrong : ChangeSpec := { name := "executeKeeps", fn := fun _ => fun
  | [d1, d2, d3] => { results := [.lit (.bool false)], args := [d1, d2, d3] }
  | _ => none }
def ExecuteKeepsWrongFalsely : Prop := executeKeepsRow.holds Try.pinned (OpenSpec.ofChange executeKeepsWrong)

/- THE SECOND FORM. 'bulk': how many values and letters a reading holds, each counted each time it is reached (what is shared counts as often as it is met; a slice's spare places count too). A statement '..UptoSaid' is the law's where the arguments, and the package variables that the reading takes, are together of bulk at most 1048576: NARROWER than '..Said'. Prove '..Said' where nothing that the law and all that it calls make is longer than what came in: it says more and counts as full. Else prove '..UptoSaid'. A law counts once. -/
mutual
def uptoBulk {H : Type} : DataW H → Nat
  | .lit (.string bytes) => bytes.length + 1
  | .lit _ => 1
  | .nil => 1
  | .ptr d => uptoBulk d + 1
  | .slice elems spare => uptoBulkAll elems + uptoBulkAll spare + 1
  | .agg parts => uptoBulkAll parts + 1
  | .iface _ d => uptoBulk d + 1
  | .map entries => uptoBulkEntries entries + 1
  | .held _ => 1
def uptoBulkAll {H : Type} : List (DataW H) → Nat
  | [] => 0
  | d :: r => uptoBulk d + uptoBulkAll r
def uptoBulkEntries {H : Type} : List (Lit × DataW H) → Nat
  | [] => 0
  | x :: r => uptoBulkEntry x + uptoBulkEntries r
def uptoBulkEntry {H : Type} : Lit × DataW H → Nat
  | (.string bytes, d) => bytes.length + uptoBulk d + 1
  | (_, d) => uptoBulk d + 1
 end
def uptoSmall : (H : Type) → List (DataW H) → Bool := fun _ ds => decide (uptoBulkAll ds ≤ 1048576)
def OpenSpec.upto (s : _root_.Go.ChangeSpec) : _root_.Go.OpenSpec := { _root_.Go.OpenSpec.ofChange s with cond := some uptoSmall }

/-- 'regcertlaw06.AluMatchesReference', WHERE WHAT IT READS IS OF BULK AT MOST 1048576: true; the input reads as it did. -/
def aluMatchesReferenceUptoRow : OpenClaim := { program := "ytgkmagfajalnhaa", sum := "f6a028a907f4a6b46d73af938b0578f7f97f9b9fe5a6adcfe7d8f4010cb6802c", func := "regcert/regcertlaw06.AluMatchesReference", spec := "aluMatchesReference", unfollowed := true, recurses := true, apart := false, narrowed := true }
def AluMatchesReferenceUptoSaid : Prop := aluMatchesReferenceUptoRow.holds Try.pinned (OpenSpec.upto aluMatchesReferenceSpec)

/-- 'regcertlaw06.AluUnusedOperands', WHERE WHAT IT READS IS OF BULK AT MOST 1048576: true; the input reads as it did. -/
def aluUnusedOperandsUptoRow : OpenClaim := { program := "ytgkmagfajalnhaa", sum := "f6a028a907f4a6b46d73af938b0578f7f97f9b9fe5a6adcfe7d8f4010cb6802c", func := "regcert/regcertlaw06.AluUnusedOperands", spec := "aluUnusedOperands", unfollowed := true, recurses := true, apart := false, narrowed := true }
def AluUnusedOperandsUptoSaid : Prop := aluUnusedOperandsUptoRow.holds Try.pinned (OpenSpec.upto aluUnusedOperandsSpec)

/-- 'regcertlaw06.AluDivision', WHERE WHAT IT READS IS OF BULK AT MOST 1048576: true; the input reads as it did. -/
def aluDivisionUptoRow : OpenClaim := { program := "ytgkmagfajalnhaa", sum := "f6a028a907f4a6b46d73af938b0578f7f97f9b9fe5a6adcfe7d8f4010cb6802c", func := "regcert/regcertlaw06.AluDivision", spec := "aluDivision", unfollowed := true, recurses := true, apart := false, narrowed := true }
def AluDivisionUptoSaid : Prop := aluDivisionUptoRow.holds Try.pinned (OpenSpec.upto aluDivisionSpec)

/-- 'regcertlaw06.AluAlgebra', WHERE WHAT IT READS IS OF BULK AT MOST 1048576: true; the input reads as it did. -/
def aluAlgebraUptoRow : OpenClaim := { program := "ytgkmagfajalnhaa", sum := "f6a028a907f4a6b46d73af938b0578f7f97f9b9fe5a6adcfe7d8f4010cb6802c", func := "regcert/regcertlaw06.AluAlgebra", spec := "aluAlgebra", unfollowed := true, recurses := true, apart := false, narrowed := true }
def AluAlgebraUptoSaid : Prop := aluAlgebraUptoRow.holds Try.pinned (OpenSpec.upto aluAlgebraSpec)

/-- 'regcertlaw06.AluShifts', WHERE WHAT IT READS IS OF BULK AT MOST 1048576: true; the input reads as it did. -/
def aluShiftsUptoRow : OpenClaim := { program := "ytgkmagfajalnhaa", sum := "f6a028a907f4a6b46d73af938b0578f7f97f9b9fe5a6adcfe7d8f4010cb6802c", func := "regcert/regcertlaw06.AluShifts", spec := "aluShifts", unfollowed := true, recurses := true, apart := false, narrowed := true }
def AluShiftsUptoSaid : Prop := aluShiftsUptoRow.holds Try.pinned (OpenSpec.upto aluShiftsSpec)

/-- 'regcertlaw09.InterpFuel', WHERE WHAT IT READS IS OF BULK AT MOST 1048576: true; the input reads as it did. -/
def interpFuelUptoRow : OpenClaim := { program := "ytgkmagfajalnhaa", sum := "f6a028a907f4a6b46d73af938b0578f7f97f9b9fe5a6adcfe7d8f4010cb6802c", func := "regcert/regcertlaw09.InterpFuel", spec := "interpFuel", unfollowed := true, recurses := true, apart := false, narrowed := true }
def InterpFuelUptoSaid : Prop := interpFuelUptoRow.holds Try.pinned (OpenSpec.upto interpFuelSpec)

/-- 'regcertlaw09.InterpUnreachable', WHERE WHAT IT READS IS OF BULK AT MOST 1048576: true; the input reads as it did. -/
def interpUnreachableUptoRow : OpenClaim := { program := "ytgkmagfajalnhaa", sum := "f6a028a907f4a6b46d73af938b0578f7f97f9b9fe5a6adcfe7d8f4010cb6802c", func := "regcert/regcertlaw09.InterpUnreachable", spec := "interpUnreachable", unfollowed := true, recurses := true, apart := false, narrowed := true }
def InterpUnreachableUptoSaid : Prop := interpUnreachableUptoRow.holds Try.pinned (OpenSpec.upto interpUnreachableSpec)

/-- 'regcertlaw09.InterpKeeps', WHERE WHAT IT READS IS OF BULK AT MOST 1048576: true; the input reads as it did. -/
def interpKeepsUptoRow : OpenClaim := { program := "ytgkmagfajalnhaa", sum := "f6a028a907f4a6b46d73af938b0578f7f97f9b9fe5a6adcfe7d8f4010cb6802c", func := "regcert/regcertlaw09.InterpKeeps", spec := "interpKeeps", unfollowed := true, recurses := true, apart := false, narrowed := true }
def InterpKeepsUptoSaid : Prop := interpKeepsUptoRow.holds Try.pinned (OpenSpec.upto interpKeepsSpec)

/-- 'regcertlaw09.InterpMatchesReference', WHERE WHAT IT READS IS OF BULK AT MOST 1048576: true; the input reads as it did. -/
def interpMatchesReferenceUptoRow : OpenClaim := { program := "ytgkmagfajalnhaa", sum := "f6a028a907f4a6b46d73af938b0578f7f97f9b9fe5a6adcfe7d8f4010cb6802c", func := "regcert/regcertlaw09.InterpMatchesReference", spec := "interpMatchesReference", unfollowed := true, recurses := true, apart := false, narrowed := true }
def InterpMatchesReferenceUptoSaid : Prop := interpMatchesReferenceUptoRow.holds Try.pinned (OpenSpec.upto interpMatchesReferenceSpec)

/-- 'regcertlaw09.InterpSteps', WHERE WHAT IT READS IS OF BULK AT MOST 1048576: true; the input reads as it did. -/
def interpStepsUptoRow : OpenClaim := { program := "ytgkmagfajalnhaa", sum := "f6a028a907f4a6b46d73af938b0578f7f97f9b9fe5a6adcfe7d8f4010cb6802c", func := "regcert/regcertlaw09.InterpSteps", spec := "interpSteps", unfollowed := true, recurses := true, apart := false, narrowed := true }
def InterpStepsUptoSaid : Prop := interpStepsUptoRow.holds Try.pinned (OpenSpec.upto interpStepsSpec)

/-- 'regcertlaw10.ExecuteFuel', WHERE WHAT IT READS IS OF BULK AT MOST 1048576: true; the input reads as it did. -/
def executeFuelUptoRow : OpenClaim := { program := "ytgkmagfajalnhaa", sum := "f6a028a907f4a6b46d73af938b0578f7f97f9b9fe5a6adcfe7d8f4010cb6802c", func := "regcert/regcertlaw10.ExecuteFuel", spec := "executeFuel", unfollowed := true, recurses := true, apart := false, narrowed := true }
def ExecuteFuelUptoSaid : Prop := executeFuelUptoRow.holds Try.pinned (OpenSpec.upto executeFuelSpec)

/-- 'regcertlaw10.ExecuteUnused', WHERE WHAT IT READS IS OF BULK AT MOST 1048576: true; the input reads as it did. -/
def executeUnusedUptoRow : OpenClaim := { program := "ytgkmagfajalnhaa", sum := "f6a028a907f4a6b46d73af938b0578f7f97f9b9fe5a6adcfe7d8f4010cb6802c", func := "regcert/regcertlaw10.ExecuteUnused", spec := "executeUnused", unfollowed := true, recurses := true, apart := false, narrowed := true }
def ExecuteUnusedUptoSaid : Prop := executeUnusedUptoRow.holds Try.pinned (OpenSpec.upto executeUnusedSpec)

/-- 'regcertlaw10.ExecuteMatchesReference', WHERE WHAT IT READS IS OF BULK AT MOST 1048576: true; the input reads as it did. -/
def executeMatchesReferenceUptoRow : OpenClaim := { program := "ytgkmagfajalnhaa", sum := "f6a028a907f4a6b46d73af938b0578f7f97f9b9fe5a6adcfe7d8f4010cb6802c", func := "regcert/regcertlaw10.ExecuteMatchesReference", spec := "executeMatchesReference", unfollowed := true, recurses := true, apart := false, narrowed := true }
def ExecuteMatchesReferenceUptoSaid : Prop := executeMatchesReferenceUptoRow.holds Try.pinned (OpenSpec.upto executeMatchesReferenceSpec)

/-- 'regcertlaw10.ExecuteSteps', WHERE WHAT IT READS IS OF BULK AT MOST 1048576: true; the input reads as it did. -/
def executeStepsUptoRow : OpenClaim := { program := "ytgkmagfajalnhaa", sum := "f6a028a907f4a6b46d73af938b0578f7f97f9b9fe5a6adcfe7d8f4010cb6802c", func := "regcert/regcertlaw10.ExecuteSteps", spec := "executeSteps", unfollowed := true, recurses := true, apart := false, narrowed := true }
def ExecuteStepsUptoSaid : Prop := executeStepsUptoRow.holds Try.pinned (OpenSpec.upto executeStepsSpec)

/-- 'regcertlaw10.ExecuteMoveOnly', WHERE WHAT IT READS IS OF BULK AT MOST 1048576: true; the input reads as it did. -/
def executeMoveOnlyUptoRow : OpenClaim := { program := "ytgkmagfajalnhaa", sum := "f6a028a907f4a6b46d73af938b0578f7f97f9b9fe5a6adcfe7d8f4010cb6802c", func := "regcert/regcertlaw10.ExecuteMoveOnly", spec := "executeMoveOnly", unfollowed := true, recurses := true, apart := false, narrowed := true }
def ExecuteMoveOnlyUptoSaid : Prop := executeMoveOnlyUptoRow.holds Try.pinned (OpenSpec.upto executeMoveOnlySpec)

/-- 'regcertlaw10.ExecuteKeeps', WHERE WHAT IT READS IS OF BULK AT MOST 1048576: true; the input reads as it did. -/
def executeKeepsUptoRow : OpenClaim := { program := "ytgkmagfajalnhaa", sum := "f6a028a907f4a6b46d73af938b0578f7f97f9b9fe5a6adcfe7d8f4010cb6802c", func := "regcert/regcertlaw10.ExecuteKeeps", spec := "executeKeeps", unfollowed := true, recurses := true, apart := false, narrowed := true }
def ExecuteKeepsUptoSaid : Prop := executeKeepsUptoRow.holds Try.pinned (OpenSpec.upto executeKeepsSpec)

end Rows
end Go.Proofs.Ytgkmagfajalnhaa
