/-
  No cell of these rows narrows 'for every input' (looked for: loops, veiled, ifaces, maps, wideKeys, modest, calm, conditions, laid).
  DERIVED. THE GIVEN ROWS OF THIS SEAT. 4 by the template 'for every input the law returns true; each argument reads behind the call as it read before'; 0 by the template 'total and deterministic' (their statements: YtchpkjgibloleaaGreatTotals.lean).
  GIVEN WITH THE SEED: the statements are not yours to turn. If you find one false, say at which input.
  Laid BY PROGRAM, IN A SANDBOX (cutbox-rows.mjs): the forced cells as the released guide's own fill.sh prints them over the translation 151c9741a9808b94… (all of the seat's roots in one cut). By AI agents, Wed Nov 11 2026. No macro, syntax, notation, axiom, sorry.
-/
import Derived.Test.YtchpkjgibloleaaGreatChecked
import GoSem.Claim
import GoSem.ClaimJoined
import GoSem.ClaimMapViews
import Derived.JoinedTies
import Derived.KernelRfl
namespace Go.Proofs.YtchpkjgibloleaaGreat
/- THE CELL 'sum', in the pinned program and in every row, IS THE sha256 OF THE DUMP (.gsa) THAT YtchpkjgibloleaaGreatProg.lean LOADS. Nothing in Lean hashes anything: it is a label: what it is worth is what the hold of that sum in a sandbox is worth. -/
noncomputable def Tryz.pinned : Pinned := { name := "ytchpkjgibloleaagreat", sum := "151c9741a9808b9421e6d075d28f0c3982df7dd255cbea3cb3de4fc04abe4b3d", checked := Tryz.checked }
namespace Rows
def none {H : Type} : Left H := { results := [], args := [] }

/-- 'regcerttop.WholeRegisters': WHATEVER THE INPUT: true; the input reads as it did. -/
def wholeRegistersSpec : ChangeSpec := { name := "wholeRegisters", fn := fun _ => fun
  | [d1, d2, d3] => { results := [.lit (.bool true)], args := [d1, d2, d3] }
  | _ => none }
def wholeRegistersRow : OpenClaim := { program := "ytchpkjgibloleaagreat", sum := "151c9741a9808b9421e6d075d28f0c3982df7dd255cbea3cb3de4fc04abe4b3d", func := "regcert/regcerttop.WholeRegisters", spec := "wholeRegisters", unfollowed := true, recurses := true, apart := false }
def WholeRegistersSaid : Prop := wholeRegistersRow.holds Tryz.pinned (OpenSpec.ofChange wholeRegistersSpec)

/-- ITS FALSE NEIGHBOUR: 'it returns false'. Refute it at one input. -/
def wholeRegistersWrong : ChangeSpec := { name := "wholeRegisters", fn := fun _ => fun
  | [d1, d2, d3] => { results := [.lit (.bool false)], args := [d1, d2, d3] }
  | _ => none }
def WholeRegistersWrongFalsely : Prop := wholeRegistersRow.holds Tryz.pinned (OpenSpec.ofChange wholeRegistersWrong)

/-- 'regcerttop.WholeSelfMove': WHATEVER THE INPUT: true; the input reads as it did. -/
def wholeSelfMoveSpec : ChangeSpec := { name := "wholeSelfMove", fn := fun _ => fun
  | [d1, d2, d3, d4] => { results := [.lit (.bool true)], args := [d1, d2, d3, d4] }
  | _ => none }
def wholeSelfMoveRow : OpenClaim := { program := "ytchpkjgibloleaagreat", sum := "151c9741a9808b9421e6d075d28f0c3982df7dd255cbea3cb3de4fc04abe4b3d", func := "regcert/regcerttop.WholeSelfMove", spec := "wholeSelfMove", unfollowed := true, recurses := true, apart := false }
def WholeSelfMoveSaid : Prop := wholeSelfMoveRow.holds Tryz.pinned (OpenSpec.ofChange wholeSelfMoveSpec)

/-- ITS FALSE NEIGHBOUR: 'it returns false'. Refute it at one input. -/
def wholeSelfMoveWrong : ChangeSpec := { name := "wholeSelfMove", fn := fun _ => fun
  | [d1, d2, d3, d4] => { results := [.lit (.bool false)], args := [d1, d2, d3, d4] }
  | _ => none }
def WholeSelfMoveWrongFalsely : Prop := wholeSelfMoveRow.holds Tryz.pinned (OpenSpec.ofChange wholeSelfMoveWrong)

/-- 'regcerttop.WholeSpareSlot': WHATEVER THE INPUT: true; the input reads as it did. -/
def wholeSpareSlotSpec : ChangeSpec := { name := "wholeSpareSlot", fn := fun _ => fun
  | [d1, d2, d3, d4] => { results := [.lit (.bool true)], args := [d1, d2, d3, d4] }
  | _ => none }
def wholeSpareSlotRow : OpenClaim := { program := "ytchpkjgibloleaagreat", sum := "151c9741a9808b9421e6d075d28f0c3982df7dd255cbea3cb3de4fc04abe4b3d", func := "regcert/regcerttop.WholeSpareSlot", spec := "wholeSpareSlot", unfollowed := true, recurses := true, apart := false }
def WholeSpareSlotSaid : Prop := wholeSpareSlotRow.holds Tryz.pinned (OpenSpec.ofChange wholeSpareSlotSpec)

/-- ITS FALSE NEIGHBOUR: 'it returns false'. Refute it at one input. -/
def wholeSpareSlotWrong : ChangeSpec := { name := "wholeSpareSlot", fn := fun _ => fun
  | [d1, d2, d3, d4] => { results := [.lit (.bool false)], args := [d1, d2, d3, d4] }
  | _ => none }
def WholeSpareSlotWrongFalsely : Prop := wholeSpareSlotRow.holds Tryz.pinned (OpenSpec.ofChange wholeSpareSlotWrong)

/-- 'regcerttop.WholeUnreachable': WHATEVER THE INPUT: true; the input reads as it did. -/
def wholeUnreachableSpec : ChangeSpec := { name := "wholeUnreachable", fn := fun _ => fun
  | [d1, d2, d3] => { results := [.lit (.bool true)], args := [d1, d2, d3] }
  | _ => none }
def wholeUnreachableRow : OpenClaim := { program := "ytchpkjgibloleaagreat", sum := "151c9741a9808b9421e6d075d28f0c3982df7dd255cbea3cb3de4fc04abe4b3d", func := "regcert/regcerttop.WholeUnreachable", spec := "wholeUnreachable", unfollowed := true, recurses := true, apart := false }
def WholeUnreachableSaid : Prop := wholeUnreachableRow.holds Tryz.pinned (OpenSpec.ofChange wholeUnreachableSpec)

/-- ITS FALSE NEIGHBOUR: 'it returns false'. Refute it at one input. -/
def wholeUnreachableWrong : ChangeSpec := { name := "wholeUnreachable", fn := fun _ => fun
  | [d1, d2, d3] => { results := [.lit (.bool false)], args := [d1, d2, d3] }
  | _ => none }
def WholeUnreachableWrongFalsely : Prop := wholeUnreachableRow.holds Tryz.pinned (OpenSpec.ofChange wholeUnreachableWrong)

/- THE SECOND FORM. 'bulk': how many values and letters a reading holds, each counted each time it is reached (what is shared counts as often as it is met; a slice's spare places count too). A statement '..UptoSaid' is the law's where the arguments, and the package variables that the reading takes, are together of bulk at most 1048576: NARROWER than '..Said'. Prove '..Said' where nothing that the law and all that it calls make is longer than what came in: it says more and counts as full. Else prove '..UptoSaid'. A law counts once. -/
mutual
def uptoBulk {H : Type} : DataW H → Nat
  | .lit (.string bytes) => bytes.length + 1
  | .lit _ => 1
  | .nil => 1
  | .ptr d => uptoBulk d + 1
  | .slice elems spare => uptoBulkAll elems + uptoBulkAll spare + 1
  | .agg parts => uptoBulkAll parts + 1
  | .iface _ d => uptoBulk d + 1
  | .map entries => uptoBulkEntries entries + 1
  | .held _ => 1
def uptoBulkAll {H : Type} : List (DataW H) → Nat
  | [] => 0
  | d :: r => uptoBulk d + uptoBulkAll r
def uptoBulkEntries {H : Type} : List (Lit × DataW H) → Nat
  | [] => 0
  | x :: r => uptoBulkEntry x + uptoBulkEntries r
def uptoBulkEntry {H : Type} : Lit × DataW H → Nat
  | (.string bytes, d) => bytes.length + uptoBulk d + 1
  | (_, d) => uptoBulk d + 1
 end
def uptoSmall : (H : Type) → List (DataW H) → Bool := fun _ ds => decide (uptoBulkAll ds ≤ 1048576)
def OpenSpec.upto (s : _root_.Go.ChangeSpec) : _root_.Go.OpenSpec := { _root_.Go.OpenSpec.ofChange s with cond := some uptoSmall }

/-- 'regcerttop.WholeRegisters', WHERE WHAT IT READS IS OF BULK AT MOST 1048576: true; the input reads as it did. -/
def wholeRegistersUptoRow : OpenClaim := { program := "ytchpkjgibloleaagreat", sum := "151c9741a9808b9421e6d075d28f0c3982df7dd255cbea3cb3de4fc04abe4b3d", func := "regcert/regcerttop.WholeRegisters", spec := "wholeRegisters", unfollowed := true, recurses := true, apart := false, narrowed := true }
def WholeRegistersUptoSaid : Prop := wholeRegistersUptoRow.holds Tryz.pinned (OpenSpec.upto wholeRegistersSpec)

/-- 'regcerttop.WholeSelfMove', WHERE WHAT IT READS IS OF BULK AT MOST 1048576: true; the input reads as it did. -/
def wholeSelfMoveUptoRow : OpenClaim := { program := "ytchpkjgibloleaagreat", sum := "151c9741a9808b9421e6d075d28f0c3982df7dd255cbea3cb3de4fc04abe4b3d", func := "regcert/regcerttop.WholeSelfMove", spec := "wholeSelfMove", unfollowed := true, recurses := true, apart := false, narrowed := true }
def WholeSelfMoveUptoSaid : Prop := wholeSelfMoveUptoRow.holds Tryz.pinned (OpenSpec.upto wholeSelfMoveSpec)

/-- 'regcerttop.WholeSpareSlot', WHERE WHAT IT READS IS OF BULK AT MOST 1048576: true; the input reads as it did. -/
def wholeSpareSlotUptoRow : OpenClaim := { program := "ytchpkjgibloleaagreat", sum := "151c9741a9808b9421e6d075d28f0c3982df7dd255cbea3cb3de4fc04abe4b3d", func := "regcert/regcerttop.WholeSpareSlot", spec := "wholeSpareSlot", unfollowed := true, recurses := true, apart := false, narrowed := true }
def WholeSpareSlotUptoSaid : Prop := wholeSpareSlotUptoRow.holds Tryz.pinned (OpenSpec.upto wholeSpareSlotSpec)

/-- 'regcerttop.WholeUnreachable', WHERE WHAT IT READS IS OF BULK AT MOST 1048576: true; the input reads as it did. -/
def wholeUnreachableUptoRow : OpenClaim := { program := "ytchpkjgibloleaagreat", sum := "151c9741a9808b9421e6d075d28f0c3982df7dd255cbea3cb3de4fc04abe4b3d", func := "regcert/regcerttop.WholeUnreachable", spec := "wholeUnreachable", unfollowed := true, recurses := true, apart := false, narrowed := true }
def WholeUnreachableUptoSaid : Prop := wholeUnreachableUptoRow.holds Tryz.pinned (OpenSpec.upto wholeUnreachableSpec)

end Rows
end Go.Proofs.YtchpkjgibloleaaGreat
