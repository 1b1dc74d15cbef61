/-
  No cell of these rows narrows 'for every input' (looked for: loops, veiled, ifaces, maps, wideKeys, modest, calm, conditions, laid).
  DERIVED. THE GIVEN ROWS OF THIS SEAT. 5 by the template 'for every input the law returns true; each argument reads behind the call as it read before'; 0 by the template 'total and deterministic' (their statements: YtglcpndffekmhaaTotals.lean).
  GIVEN WITH THE SEED: the statements are not yours to turn. If you find one false, say at which input.
  Laid BY PROGRAM, IN A SANDBOX (cutbox-rows.mjs): the forced cells as the released guide's own fill.sh prints them over the translation c1b1b9b48ad5eead… (all of the seat's roots in one cut). By AI agents, Wed Nov 11 2026. No macro, syntax, notation, axiom, sorry.
-/
import Derived.Test.YtglcpndffekmhaaChecked
import GoSem.Claim
import GoSem.ClaimJoined
import GoSem.ClaimMapViews
import Derived.JoinedTies
import Derived.KernelRfl
namespace Go.Proofs.Ytglcpndffekmhaa
/- THE CELL 'sum', in the pinned program and in every row, IS THE sha256 OF THE DUMP (.gsa) THAT YtglcpndffekmhaaProg.lean LOADS. Nothing in Lean hashes anything: it is a label: what it is worth is what the hold of that sum in a sandbox is worth. -/
noncomputable def Try.pinned : Pinned := { name := "ytglcpndffekmhaa", sum := "c1b1b9b48ad5eead0db6af4c462ce04a21a18bdf6168a6aa359782d1b224d7d8", checked := Try.checked }
namespace Rows
def none {H : Type} : Left H := { results := [], args := [] }

/-- 'avermentlaw13.StateRight': WHATEVER THE INPUT: true; the input reads as it did. -/
def stateRightSpec : ChangeSpec := { name := "stateRight", fn := fun _ => fun
  | [d1, d2, d3] => { results := [.lit (.bool true)], args := [d1, d2, d3] }
  | _ => none }
def stateRightRow : OpenClaim := { program := "ytglcpndffekmhaa", sum := "c1b1b9b48ad5eead0db6af4c462ce04a21a18bdf6168a6aa359782d1b224d7d8", func := "averment/avermentlaw13.StateRight", spec := "stateRight", unfollowed := true, recurses := true, apart := false }
def StateRightSaid : Prop := stateRightRow.holds Try.pinned (OpenSpec.ofChange stateRightSpec)

/-- ITS FALSE NEIGHBOUR: 'it returns false'. Refute it at one input. -/
def stateRightWrong : ChangeSpec := { name := "stateRight", fn := fun _ => fun
  | [d1, d2, d3] => { results := [.lit (.bool false)], args := [d1, d2, d3] }
  | _ => none }
def StateRightWrongFalsely : Prop := stateRightRow.holds Try.pinned (OpenSpec.ofChange stateRightWrong)

/-- 'avermentlaw13.StateBegins': WHATEVER THE INPUT: true; the input reads as it did. -/
def stateBeginsSpec : ChangeSpec := { name := "stateBegins", fn := fun _ => fun
  | [d] => { results := [.lit (.bool true)], args := [d] }
  | _ => none }
def stateBeginsRow : OpenClaim := { program := "ytglcpndffekmhaa", sum := "c1b1b9b48ad5eead0db6af4c462ce04a21a18bdf6168a6aa359782d1b224d7d8", func := "averment/avermentlaw13.StateBegins", spec := "stateBegins", unfollowed := true, recurses := true, apart := false }
def StateBeginsSaid : Prop := stateBeginsRow.holds Try.pinned (OpenSpec.ofChange stateBeginsSpec)

/-- ITS FALSE NEIGHBOUR: 'it returns false'. Refute it at one input. -/
def stateBeginsWrong : ChangeSpec := { name := "stateBegins", fn := fun _ => fun
  | [d] => { results := [.lit (.bool false)], args := [d] }
  | _ => none }
def StateBeginsWrongFalsely : Prop := stateBeginsRow.holds Try.pinned (OpenSpec.ofChange stateBeginsWrong)

/-- 'avermentlaw13.StateHas': WHATEVER THE INPUT: true; the input reads as it did. -/
def stateHasSpec : ChangeSpec := { name := "stateHas", fn := fun _ => fun
  | [d1, d2, d3] => { results := [.lit (.bool true)], args := [d1, d2, d3] }
  | _ => none }
def stateHasRow : OpenClaim := { program := "ytglcpndffekmhaa", sum := "c1b1b9b48ad5eead0db6af4c462ce04a21a18bdf6168a6aa359782d1b224d7d8", func := "averment/avermentlaw13.StateHas", spec := "stateHas", unfollowed := true, recurses := true, apart := false }
def StateHasSaid : Prop := stateHasRow.holds Try.pinned (OpenSpec.ofChange stateHasSpec)

/-- ITS FALSE NEIGHBOUR: 'it returns false'. Refute it at one input. -/
def stateHasWrong : ChangeSpec := { name := "stateHas", fn := fun _ => fun
  | [d1, d2, d3] => { results := [.lit (.bool false)], args := [d1, d2, d3] }
  | _ => none }
def StateHasWrongFalsely : Prop := stateHasRow.holds Try.pinned (OpenSpec.ofChange stateHasWrong)

/-- 'avermentlaw13.StateJoins': WHATEVER THE INPUT: true; the input reads as it did. -/
def stateJoinsSpec : ChangeSpec := { name := "stateJoins", fn := fun _ => fun
  | [d1, d2, d3] => { results := [.lit (.bool true)], args := [d1, d2, d3] }
  | _ => none }
def stateJoinsRow : OpenClaim := { program := "ytglcpndffekmhaa", sum := "c1b1b9b48ad5eead0db6af4c462ce04a21a18bdf6168a6aa359782d1b224d7d8", func := "averment/avermentlaw13.StateJoins", spec := "stateJoins", unfollowed := true, recurses := true, apart := false }
def StateJoinsSaid : Prop := stateJoinsRow.holds Try.pinned (OpenSpec.ofChange stateJoinsSpec)

/-- ITS FALSE NEIGHBOUR: 'it returns false'. Refute it at one input. -/
def stateJoinsWrong : ChangeSpec := { name := "stateJoins", fn := fun _ => fun
  | [d1, d2, d3] => { results := [.lit (.bool false)], args := [d1, d2, d3] }
  | _ => none }
def StateJoinsWrongFalsely : Prop := stateJoinsRow.holds Try.pinned (OpenSpec.ofChange stateJoinsWrong)

/-- 'avermentlaw13.StateWidens': WHATEVER THE INPUT: true; the input reads as it did. -/
def stateWidensSpec : ChangeSpec := { name := "stateWidens", fn := fun _ => fun
  | [d1, d2] => { results := [.lit (.bool true)], args := [d1, d2] }
  | _ => none }
def stateWidensRow : OpenClaim := { program := "ytglcpndffekmhaa", sum := "c1b1b9b48ad5eead0db6af4c462ce04a21a18bdf6168a6aa359782d1b224d7d8", func := "averment/avermentlaw13.StateWidens", spec := "stateWidens", unfollowed := true, recurses := true, apart := false }
def StateWidensSaid : Prop := stateWidensRow.holds Try.pinned (OpenSpec.ofChange stateWidensSpec)

/-- ITS FALSE NEIGHBOUR: 'it returns false'. Refute it at one input. -/
def stateWidensWrong : ChangeSpec := { name := "stateWidens", fn := fun _ => fun
  | [d1, d2] => { results := [.lit (.bool false)], args := [d1, d2] }
  | _ => none }
def StateWidensWrongFalsely : Prop := stateWidensRow.holds Try.pinned (OpenSpec.ofChange stateWidensWrong)

/- THE SECOND FORM. 'bulk': how many values and letters a reading holds, each counted each time it is reached (what is shared counts as often as it is met; a slice's spare places count too). A statement '..UptoSaid' is the law's where the arguments, and the package variables that the reading takes, are together of bulk at most 1048576: NARROWER than '..Said'. Prove '..Said' where nothing that the law and all that it calls make is longer than what came in: it says more and counts as full. Else prove '..UptoSaid'. A law counts once. -/
mutual
def uptoBulk {H : Type} : DataW H → Nat
  | .lit (.string bytes) => bytes.length + 1
  | .lit _ => 1
  | .nil => 1
  | .ptr d => uptoBulk d + 1
  | .slice elems spare => uptoBulkAll elems + uptoBulkAll spare + 1
  | .agg parts => uptoBulkAll parts + 1
  | .iface _ d => uptoBulk d + 1
  | .map entries => uptoBulkEntries entries + 1
  | .held _ => 1
def uptoBulkAll {H : Type} : List (DataW H) → Nat
  | [] => 0
  | d :: r => uptoBulk d + uptoBulkAll r
def uptoBulkEntries {H : Type} : List (Lit × DataW H) → Nat
  | [] => 0
  | x :: r => uptoBulkEntry x + uptoBulkEntries r
def uptoBulkEntry {H : Type} : Lit × DataW H → Nat
  | (.string bytes, d) => bytes.length + uptoBulk d + 1
  | (_, d) => uptoBulk d + 1
 end
def uptoSmall : (H : Type) → List (DataW H) → Bool := fun _ ds => decide (uptoBulkAll ds ≤ 1048576)
def OpenSpec.upto (s : _root_.Go.ChangeSpec) : _root_.Go.OpenSpec := { _root_.Go.OpenSpec.ofChange s with cond := some uptoSmall }

/-- 'avermentlaw13.StateRight', WHERE WHAT IT READS IS OF BULK AT MOST 1048576: true; the input reads as it did. -/
def stateRightUptoRow : OpenClaim := { program := "ytglcpndffekmhaa", sum := "c1b1b9b48ad5eead0db6af4c462ce04a21a18bdf6168a6aa359782d1b224d7d8", func := "averment/avermentlaw13.StateRight", spec := "stateRight", unfollowed := true, recurses := true, apart := false, narrowed := true }
def StateRightUptoSaid : Prop := stateRightUptoRow.holds Try.pinned (OpenSpec.upto stateRightSpec)

/-- 'avermentlaw13.StateBegins', WHERE WHAT IT READS IS OF BULK AT MOST 1048576: true; the input reads as it did. -/
def stateBeginsUptoRow : OpenClaim := { program := "ytglcpndffekmhaa", sum := "c1b1b9b48ad5eead0db6af4c462ce04a21a18bdf6168a6aa359782d1b224d7d8", func := "averment/avermentlaw13.StateBegins", spec := "stateBegins", unfollowed := true, recurses := true, apart := false, narrowed := true }
def StateBeginsUptoSaid : Prop := stateBeginsUptoRow.holds Try.pinned (OpenSpec.upto stateBeginsSpec)

/-- 'avermentlaw13.StateHas', WHERE WHAT IT READS IS OF BULK AT MOST 1048576: true; the input reads as it did. -/
def stateHasUptoRow : OpenClaim := { program := "ytglcpndffekmhaa", sum := "c1b1b9b48ad5eead0db6af4c462ce04a21a18bdf6168a6aa359782d1b224d7d8", func := "averment/avermentlaw13.StateHas", spec := "stateHas", unfollowed := true, recurses := true, apart := false, narrowed := true }
def StateHasUptoSaid : Prop := stateHasUptoRow.holds Try.pinned (OpenSpec.upto stateHasSpec)

/-- 'avermentlaw13.StateJoins', WHERE WHAT IT READS IS OF BULK AT MOST 1048576: true; the input reads as it did. -/
def stateJoinsUptoRow : OpenClaim := { program := "ytglcpndffekmhaa", sum := "c1b1b9b48ad5eead0db6af4c462ce04a21a18bdf6168a6aa359782d1b224d7d8", func := "averment/avermentlaw13.StateJoins", spec := "stateJoins", unfollowed := true, recurses := true, apart := false, narrowed := true }
def StateJoinsUptoSaid : Prop := stateJoinsUptoRow.holds Try.pinned (OpenSpec.upto stateJoinsSpec)

/-- 'avermentlaw13.StateWidens', WHERE WHAT IT READS IS OF BULK AT MOST 1048576: true; the input reads as it did. -/
def stateWidensUptoRow : OpenClaim := { program := "ytglcpndffekmhaa", sum := "c1b1b9b48ad5eead0db6af4c462ce04a21a18bdf6168a6aa359782d1b224d7d8", func := "averment/avermentlaw13.StateWidens", spec := "stateWidens", unfollowed := true, recurses := true, apart := false, narrowed := true }
def StateWidensUptoSaid : Prop := stateWidensUptoRow.holds Try.pinned (OpenSpec.upto stateWidensSpec)

end Rows
end Go.Proofs.Ytglcpndffekmhaa
