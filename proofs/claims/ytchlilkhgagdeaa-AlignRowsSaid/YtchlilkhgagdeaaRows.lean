/-
  No cell of these rows narrows 'for every input' (looked for: loops, veiled, ifaces, maps, wideKeys, modest, calm, conditions, laid).
  DERIVED. THE GIVEN ROWS OF THIS SEAT. 5 by the template 'for every input the law returns true; each argument reads behind the call as it read before'; 0 by the template 'total and deterministic' (their statements: YtchlilkhgagdeaaTotals.lean).
  GIVEN WITH THE SEED: the statements are not yours to turn. If you find one false, say at which input.
  Laid BY PROGRAM, IN A SANDBOX (cutbox-rows.mjs): the forced cells as the released guide's own fill.sh prints them over the translation 3543f85c66a9c981… (all of the seat's roots in one cut). By AI agents, Wed Nov 11 2026. No macro, syntax, notation, axiom, sorry.
-/
import Derived.Test.YtchlilkhgagdeaaChecked
import GoSem.Claim
import GoSem.ClaimJoined
import GoSem.ClaimMapViews
import Derived.JoinedTies
import Derived.KernelRfl
namespace Go.Proofs.Ytchlilkhgagdeaa
/- THE CELL 'sum', in the pinned program and in every row, IS THE sha256 OF THE DUMP (.gsa) THAT YtchlilkhgagdeaaProg.lean LOADS. Nothing in Lean hashes anything: it is a label: what it is worth is what the hold of that sum in a sandbox is worth. -/
noncomputable def Try.pinned : Pinned := { name := "ytchlilkhgagdeaa", sum := "3543f85c66a9c981db48fc6061537683667480bf3013708b48afa4291adb8ebe", checked := Try.checked }
namespace Rows
def none {H : Type} : Left H := { results := [], args := [] }

/-- 'regcertlaw13.AlignMatchesReference': WHATEVER THE INPUT: true; the input reads as it did. -/
def alignMatchesReferenceSpec : ChangeSpec := { name := "alignMatchesReference", fn := fun _ => fun
  | [d1, d2, d3, d4, d5, d6] => { results := [.lit (.bool true)], args := [d1, d2, d3, d4, d5, d6] }
  | _ => none }
def alignMatchesReferenceRow : OpenClaim := { program := "ytchlilkhgagdeaa", sum := "3543f85c66a9c981db48fc6061537683667480bf3013708b48afa4291adb8ebe", func := "regcert/regcertlaw13.AlignMatchesReference", spec := "alignMatchesReference", unfollowed := true, recurses := true, apart := false }
def AlignMatchesReferenceSaid : Prop := alignMatchesReferenceRow.holds Try.pinned (OpenSpec.ofChange alignMatchesReferenceSpec)

/-- ITS FALSE NEIGHBOUR: 'it returns false'. Refute it at one input. -/
def alignMatchesReferenceWrong : ChangeSpec := { name := "alignMatchesReference", fn := fun _ => fun
  | [d1, d2, d3, d4, d5, d6] => { results := [.lit (.bool false)], args := [d1, d2, d3, d4, d5, d6] }
  | _ => none }
def AlignMatchesReferenceWrongFalsely : Prop := alignMatchesReferenceRow.holds Try.pinned (OpenSpec.ofChange alignMatchesReferenceWrong)

/-- 'regcertlaw13.AlignRows': WHATEVER THE INPUT: true; the input reads as it did. -/
def alignRowsSpec : ChangeSpec := { name := "alignRows", fn := fun _ => fun
  | [d1, d2] => { results := [.lit (.bool true)], args := [d1, d2] }
  | _ => none }
def alignRowsRow : OpenClaim := { program := "ytchlilkhgagdeaa", sum := "3543f85c66a9c981db48fc6061537683667480bf3013708b48afa4291adb8ebe", func := "regcert/regcertlaw13.AlignRows", spec := "alignRows", unfollowed := true, recurses := true, apart := false }
def AlignRowsSaid : Prop := alignRowsRow.holds Try.pinned (OpenSpec.ofChange alignRowsSpec)

/-- ITS FALSE NEIGHBOUR: 'it returns false'. Refute it at one input. -/
def alignRowsWrong : ChangeSpec := { name := "alignRows", fn := fun _ => fun
  | [d1, d2] => { results := [.lit (.bool false)], args := [d1, d2] }
  | _ => none }
def AlignRowsWrongFalsely : Prop := alignRowsRow.holds Try.pinned (OpenSpec.ofChange alignRowsWrong)

/-- 'regcertlaw13.AlignIgnoresMoves': WHATEVER THE INPUT: true; the input reads as it did. -/
def alignIgnoresMovesSpec : ChangeSpec := { name := "alignIgnoresMoves", fn := fun _ => fun
  | [d1, d2, d3, d4, d5, d6] => { results := [.lit (.bool true)], args := [d1, d2, d3, d4, d5, d6] }
  | _ => none }
def alignIgnoresMovesRow : OpenClaim := { program := "ytchlilkhgagdeaa", sum := "3543f85c66a9c981db48fc6061537683667480bf3013708b48afa4291adb8ebe", func := "regcert/regcertlaw13.AlignIgnoresMoves", spec := "alignIgnoresMoves", unfollowed := true, recurses := true, apart := false }
def AlignIgnoresMovesSaid : Prop := alignIgnoresMovesRow.holds Try.pinned (OpenSpec.ofChange alignIgnoresMovesSpec)

/-- ITS FALSE NEIGHBOUR: 'it returns false'. Refute it at one input. -/
def alignIgnoresMovesWrong : ChangeSpec := { name := "alignIgnoresMoves", fn := fun _ => fun
  | [d1, d2, d3, d4, d5, d6] => { results := [.lit (.bool false)], args := [d1, d2, d3, d4, d5, d6] }
  | _ => none }
def AlignIgnoresMovesWrongFalsely : Prop := alignIgnoresMovesRow.holds Try.pinned (OpenSpec.ofChange alignIgnoresMovesWrong)

/-- 'regcertlaw13.AlignExactly': WHATEVER THE INPUT: true; the input reads as it did. -/
def alignExactlySpec : ChangeSpec := { name := "alignExactly", fn := fun _ => fun
  | [d1, d2, d3, d4] => { results := [.lit (.bool true)], args := [d1, d2, d3, d4] }
  | _ => none }
def alignExactlyRow : OpenClaim := { program := "ytchlilkhgagdeaa", sum := "3543f85c66a9c981db48fc6061537683667480bf3013708b48afa4291adb8ebe", func := "regcert/regcertlaw13.AlignExactly", spec := "alignExactly", unfollowed := true, recurses := true, apart := false }
def AlignExactlySaid : Prop := alignExactlyRow.holds Try.pinned (OpenSpec.ofChange alignExactlySpec)

/-- ITS FALSE NEIGHBOUR: 'it returns false'. Refute it at one input. -/
def alignExactlyWrong : ChangeSpec := { name := "alignExactly", fn := fun _ => fun
  | [d1, d2, d3, d4] => { results := [.lit (.bool false)], args := [d1, d2, d3, d4] }
  | _ => none }
def AlignExactlyWrongFalsely : Prop := alignExactlyRow.holds Try.pinned (OpenSpec.ofChange alignExactlyWrong)

/-- 'regcertlaw13.AlignTerms': WHATEVER THE INPUT: true; the input reads as it did. -/
def alignTermsSpec : ChangeSpec := { name := "alignTerms", fn := fun _ => fun
  | [d1, d2, d3, d4] => { results := [.lit (.bool true)], args := [d1, d2, d3, d4] }
  | _ => none }
def alignTermsRow : OpenClaim := { program := "ytchlilkhgagdeaa", sum := "3543f85c66a9c981db48fc6061537683667480bf3013708b48afa4291adb8ebe", func := "regcert/regcertlaw13.AlignTerms", spec := "alignTerms", unfollowed := true, recurses := true, apart := false }
def AlignTermsSaid : Prop := alignTermsRow.holds Try.pinned (OpenSpec.ofChange alignTermsSpec)

/-- ITS FALSE NEIGHBOUR: 'it returns false'. Refute it at one input. -/
def alignTermsWrong : ChangeSpec := { name := "alignTerms", fn := fun _ => fun
  | [d1, d2, d3, d4] => { results := [.lit (.bool false)], args := [d1, d2, d3, d4] }
  | _ => none }
def AlignTermsWrongFalsely : Prop := alignTermsRow.holds Try.pinned (OpenSpec.ofChange alignTermsWrong)

/- THE SECOND FORM. 'bulk': how many values and letters a reading holds, each counted each time it is reached (what is shared counts as often as it is met; a slice's spare places count too). A statement '..UptoSaid' is the law's where the arguments, and the package variables that the reading takes, are together of bulk at most 1048576: NARROWER than '..Said'. Prove '..Said' where nothing that the law and all that it calls make is longer than what came in: it says more and counts as full. Else prove '..UptoSaid'. A law counts once. -/
mutual
def uptoBulk {H : Type} : DataW H → Nat
  | .lit (.string bytes) => bytes.length + 1
  | .lit _ => 1
  | .nil => 1
  | .ptr d => uptoBulk d + 1
  | .slice elems spare => uptoBulkAll elems + uptoBulkAll spare + 1
  | .agg parts => uptoBulkAll parts + 1
  | .iface _ d => uptoBulk d + 1
  | .map entries => uptoBulkEntries entries + 1
  | .held _ => 1
def uptoBulkAll {H : Type} : List (DataW H) → Nat
  | [] => 0
  | d :: r => uptoBulk d + uptoBulkAll r
def uptoBulkEntries {H : Type} : List (Lit × DataW H) → Nat
  | [] => 0
  | x :: r => uptoBulkEntry x + uptoBulkEntries r
def uptoBulkEntry {H : Type} : Lit × DataW H → Nat
  | (.string bytes, d) => bytes.length + uptoBulk d + 1
  | (_, d) => uptoBulk d + 1
 end
def uptoSmall : (H : Type) → List (DataW H) → Bool := fun _ ds => decide (uptoBulkAll ds ≤ 1048576)
def OpenSpec.upto (s : _root_.Go.ChangeSpec) : _root_.Go.OpenSpec := { _root_.Go.OpenSpec.ofChange s with cond := some uptoSmall }

/-- 'regcertlaw13.AlignMatchesReference', WHERE WHAT IT READS IS OF BULK AT MOST 1048576: true; the input reads as it did. -/
def alignMatchesReferenceUptoRow : OpenClaim := { program := "ytchlilkhgagdeaa", sum := "3543f85c66a9c981db48fc6061537683667480bf3013708b48afa4291adb8ebe", func := "regcert/regcertlaw13.AlignMatchesReference", spec := "alignMatchesReference", unfollowed := true, recurses := true, apart := false, narrowed := true }
def AlignMatchesReferenceUptoSaid : Prop := alignMatchesReferenceUptoRow.holds Try.pinned (OpenSpec.upto alignMatchesReferenceSpec)

/-- 'regcertlaw13.AlignRows', WHERE WHAT IT READS IS OF BULK AT MOST 1048576: true; the input reads as it did. -/
def alignRowsUptoRow : OpenClaim := { program := "ytchlilkhgagdeaa", sum := "3543f85c66a9c981db48fc6061537683667480bf3013708b48afa4291adb8ebe", func := "regcert/regcertlaw13.AlignRows", spec := "alignRows", unfollowed := true, recurses := true, apart := false, narrowed := true }
def AlignRowsUptoSaid : Prop := alignRowsUptoRow.holds Try.pinned (OpenSpec.upto alignRowsSpec)

/-- 'regcertlaw13.AlignIgnoresMoves', WHERE WHAT IT READS IS OF BULK AT MOST 1048576: true; the input reads as it did. -/
def alignIgnoresMovesUptoRow : OpenClaim := { program := "ytchlilkhgagdeaa", sum := "3543f85c66a9c981db48fc6061537683667480bf3013708b48afa4291adb8ebe", func := "regcert/regcertlaw13.AlignIgnoresMoves", spec := "alignIgnoresMoves", unfollowed := true, recurses := true, apart := false, narrowed := true }
def AlignIgnoresMovesUptoSaid : Prop := alignIgnoresMovesUptoRow.holds Try.pinned (OpenSpec.upto alignIgnoresMovesSpec)

/-- 'regcertlaw13.AlignExactly', WHERE WHAT IT READS IS OF BULK AT MOST 1048576: true; the input reads as it did. -/
def alignExactlyUptoRow : OpenClaim := { program := "ytchlilkhgagdeaa", sum := "3543f85c66a9c981db48fc6061537683667480bf3013708b48afa4291adb8ebe", func := "regcert/regcertlaw13.AlignExactly", spec := "alignExactly", unfollowed := true, recurses := true, apart := false, narrowed := true }
def AlignExactlyUptoSaid : Prop := alignExactlyUptoRow.holds Try.pinned (OpenSpec.upto alignExactlySpec)

/-- 'regcertlaw13.AlignTerms', WHERE WHAT IT READS IS OF BULK AT MOST 1048576: true; the input reads as it did. -/
def alignTermsUptoRow : OpenClaim := { program := "ytchlilkhgagdeaa", sum := "3543f85c66a9c981db48fc6061537683667480bf3013708b48afa4291adb8ebe", func := "regcert/regcertlaw13.AlignTerms", spec := "alignTerms", unfollowed := true, recurses := true, apart := false, narrowed := true }
def AlignTermsUptoSaid : Prop := alignTermsUptoRow.holds Try.pinned (OpenSpec.upto alignTermsSpec)

end Rows
end Go.Proofs.Ytchlilkhgagdeaa
