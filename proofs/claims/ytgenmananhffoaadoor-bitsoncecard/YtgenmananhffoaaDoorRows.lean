/-
  NARROWER THAN 'FOR EVERY INPUT', by the rows' own cells (each row's printed sentence says how): BitsSmall: laid · BitsOnce: laid · BitsLays: laid · BitsSets: laid.
  DERIVED. THE GIVEN ROWS OF THIS SEAT. 4 by the template 'for every input the law returns true; each argument reads behind the call as it read before'; 0 by the template 'total and deterministic' (their statements: YtgenmananhffoaaDoorTotals.lean).
  GIVEN WITH THE SEED: the statements are not yours to turn. If you find one false, say at which input.
  Laid BY PROGRAM, IN A SANDBOX (cutbox-rows.mjs): the forced cells as the released guide's own fill.sh prints them over the translation 95581b44e553c8a7… (all of the seat's roots in one cut). By AI agents, Wed Nov 11 2026. No macro, syntax, notation, axiom, sorry.
-/
import Derived.Test.YtgenmananhffoaaDoorChecked
import GoSem.Claim
import GoSem.ClaimJoined
import GoSem.ClaimMapViews
import Derived.JoinedTies
import Derived.KernelRfl
namespace Go.Proofs.YtgenmananhffoaaDoor
/- THE CELL 'sum', in the pinned program and in every row, IS THE sha256 OF THE DUMP (.gsa) THAT YtgenmananhffoaaDoorProg.lean LOADS. Nothing in Lean hashes anything: it is a label: what it is worth is what the hold of that sum in a sandbox is worth. -/
noncomputable def Tryd.pinned : Pinned := { name := "ytgenmananhffoaadoor", sum := "95581b44e553c8a793fac46c902b272ddfd5b1f1fb95d1d07c3c97a984f8f3a4", checked := Tryd.checked }
namespace Rows
def none {H : Type} : Left H := { results := [], args := [] }

/- WHAT THE LISTED PACKAGE-LEVEL VARIABLES READ AS WHEN THE CALL BEGINS. Each datum BY PROGRAM (the guide's laid-datum.mjs) off the statement by which the dump's own 'gosem.cut.vars' lays the variable. In a bare row this is a premise. The card (YtgenmananhffoaaDoorCards.lean) ties it to the program's text. -/
def laid_errors_errorType {H : Type} : DataW H := .iface "internal/reflectlite.rtype" (.agg [.ptr (.lit (.string [101, 114, 114, 111, 114]))])

/-- 'avermentlaw03.BitsSmall': WHATEVER THE INPUT: true; the input reads as it did. -/
def bitsSmallSpec : ChangeSpec := { name := "bitsSmall", fn := fun _ => fun
  | [d1, d2, d3] => { results := [.lit (.bool true)], args := [d1, d2, d3] }
  | _ => none }
def bitsSmallRow : OpenClaim := { program := "ytgenmananhffoaadoor", sum := "95581b44e553c8a793fac46c902b272ddfd5b1f1fb95d1d07c3c97a984f8f3a4", func := "averment/avermentlaw03.BitsSmall", spec := "bitsSmall", inPlace := ["internal/reflectlite.ValueOf", "(internal/reflectlite.Value).Type", "(internal/reflectlite.Value).IsNil", "internal/reflectlite.TypeOf", "(internal/reflectlite.Value).Elem", "(internal/reflectlite.Value).Set"], unfollowed := true, recurses := true, named := ["errors.errorType"], apart := false, laid := [("errors.errorType", laid_errors_errorType)] }
def BitsSmallSaid : Prop := bitsSmallRow.holds Tryd.pinned (OpenSpec.ofChange bitsSmallSpec)

/-- ITS FALSE NEIGHBOUR: 'it returns false'. Refute it at one input. -/
def bitsSmallWrong : ChangeSpec := { name := "bitsSmall", fn := fun _ => fun
  | [d1, d2, d3] => { results := [.lit (.bool false)], args := [d1, d2, d3] }
  | _ => none }
def BitsSmallWrongFalsely : Prop := bitsSmallRow.holds Tryd.pinned (OpenSpec.ofChange bitsSmallWrong)

/-- 'avermentlaw03.BitsOnce': WHATEVER THE INPUT: true; the input reads as it did. -/
def bitsOnceSpec : ChangeSpec := { name := "bitsOnce", fn := fun _ => fun
  | [d1, d2, d3] => { results := [.lit (.bool true)], args := [d1, d2, d3] }
  | _ => none }
def bitsOnceRow : OpenClaim := { program := "ytgenmananhffoaadoor", sum := "95581b44e553c8a793fac46c902b272ddfd5b1f1fb95d1d07c3c97a984f8f3a4", func := "averment/avermentlaw03.BitsOnce", spec := "bitsOnce", inPlace := ["internal/reflectlite.ValueOf", "(internal/reflectlite.Value).Type", "(internal/reflectlite.Value).IsNil", "internal/reflectlite.TypeOf", "(internal/reflectlite.Value).Elem", "(internal/reflectlite.Value).Set"], unfollowed := true, recurses := true, named := ["errors.errorType"], apart := false, laid := [("errors.errorType", laid_errors_errorType)] }
def BitsOnceSaid : Prop := bitsOnceRow.holds Tryd.pinned (OpenSpec.ofChange bitsOnceSpec)

/-- ITS FALSE NEIGHBOUR: 'it returns false'. Refute it at one input. -/
def bitsOnceWrong : ChangeSpec := { name := "bitsOnce", fn := fun _ => fun
  | [d1, d2, d3] => { results := [.lit (.bool false)], args := [d1, d2, d3] }
  | _ => none }
def BitsOnceWrongFalsely : Prop := bitsOnceRow.holds Tryd.pinned (OpenSpec.ofChange bitsOnceWrong)

/-- 'avermentlaw03.BitsLays': WHATEVER THE INPUT: true; the input reads as it did. -/
def bitsLaysSpec : ChangeSpec := { name := "bitsLays", fn := fun _ => fun
  | [d1, d2] => { results := [.lit (.bool true)], args := [d1, d2] }
  | _ => none }
def bitsLaysRow : OpenClaim := { program := "ytgenmananhffoaadoor", sum := "95581b44e553c8a793fac46c902b272ddfd5b1f1fb95d1d07c3c97a984f8f3a4", func := "averment/avermentlaw03.BitsLays", spec := "bitsLays", inPlace := ["internal/reflectlite.ValueOf", "(internal/reflectlite.Value).Type", "(internal/reflectlite.Value).IsNil", "internal/reflectlite.TypeOf", "(internal/reflectlite.Value).Elem", "(internal/reflectlite.Value).Set"], unfollowed := true, recurses := true, named := ["errors.errorType"], apart := false, laid := [("errors.errorType", laid_errors_errorType)] }
def BitsLaysSaid : Prop := bitsLaysRow.holds Tryd.pinned (OpenSpec.ofChange bitsLaysSpec)

/-- ITS FALSE NEIGHBOUR: 'it returns false'. Refute it at one input. -/
def bitsLaysWrong : ChangeSpec := { name := "bitsLays", fn := fun _ => fun
  | [d1, d2] => { results := [.lit (.bool false)], args := [d1, d2] }
  | _ => none }
def BitsLaysWrongFalsely : Prop := bitsLaysRow.holds Tryd.pinned (OpenSpec.ofChange bitsLaysWrong)

/-- 'avermentlaw03.BitsSets': WHATEVER THE INPUT: true; the input reads as it did. -/
def bitsSetsSpec : ChangeSpec := { name := "bitsSets", fn := fun _ => fun
  | [d1, d2, d3] => { results := [.lit (.bool true)], args := [d1, d2, d3] }
  | _ => none }
def bitsSetsRow : OpenClaim := { program := "ytgenmananhffoaadoor", sum := "95581b44e553c8a793fac46c902b272ddfd5b1f1fb95d1d07c3c97a984f8f3a4", func := "averment/avermentlaw03.BitsSets", spec := "bitsSets", inPlace := ["internal/reflectlite.ValueOf", "(internal/reflectlite.Value).Type", "(internal/reflectlite.Value).IsNil", "internal/reflectlite.TypeOf", "(internal/reflectlite.Value).Elem", "(internal/reflectlite.Value).Set"], unfollowed := true, recurses := true, named := ["errors.errorType"], apart := false, laid := [("errors.errorType", laid_errors_errorType)] }
def BitsSetsSaid : Prop := bitsSetsRow.holds Tryd.pinned (OpenSpec.ofChange bitsSetsSpec)

/-- ITS FALSE NEIGHBOUR: 'it returns false'. Refute it at one input. -/
def bitsSetsWrong : ChangeSpec := { name := "bitsSets", fn := fun _ => fun
  | [d1, d2, d3] => { results := [.lit (.bool false)], args := [d1, d2, d3] }
  | _ => none }
def BitsSetsWrongFalsely : Prop := bitsSetsRow.holds Tryd.pinned (OpenSpec.ofChange bitsSetsWrong)

/- THE SECOND FORM. 'bulk': how many values and letters a reading holds, each counted each time it is reached (what is shared counts as often as it is met; a slice's spare places count too). A statement '..UptoSaid' is the law's where the arguments, and the package variables that the reading takes, are together of bulk at most 1048576: NARROWER than '..Said'. Prove '..Said' where nothing that the law and all that it calls make is longer than what came in: it says more and counts as full. Else prove '..UptoSaid'. A law counts once. -/
mutual
def uptoBulk {H : Type} : DataW H → Nat
  | .lit (.string bytes) => bytes.length + 1
  | .lit _ => 1
  | .nil => 1
  | .ptr d => uptoBulk d + 1
  | .slice elems spare => uptoBulkAll elems + uptoBulkAll spare + 1
  | .agg parts => uptoBulkAll parts + 1
  | .iface _ d => uptoBulk d + 1
  | .map entries => uptoBulkEntries entries + 1
  | .held _ => 1
def uptoBulkAll {H : Type} : List (DataW H) → Nat
  | [] => 0
  | d :: r => uptoBulk d + uptoBulkAll r
def uptoBulkEntries {H : Type} : List (Lit × DataW H) → Nat
  | [] => 0
  | x :: r => uptoBulkEntry x + uptoBulkEntries r
def uptoBulkEntry {H : Type} : Lit × DataW H → Nat
  | (.string bytes, d) => bytes.length + uptoBulk d + 1
  | (_, d) => uptoBulk d + 1
 end
def uptoSmall : (H : Type) → List (DataW H) → Bool := fun _ ds => decide (uptoBulkAll ds ≤ 1048576)
def OpenSpec.upto (s : _root_.Go.ChangeSpec) : _root_.Go.OpenSpec := { _root_.Go.OpenSpec.ofChange s with cond := some uptoSmall }

/-- 'avermentlaw03.BitsSmall', WHERE WHAT IT READS IS OF BULK AT MOST 1048576: true; the input reads as it did. -/
def bitsSmallUptoRow : OpenClaim := { program := "ytgenmananhffoaadoor", sum := "95581b44e553c8a793fac46c902b272ddfd5b1f1fb95d1d07c3c97a984f8f3a4", func := "averment/avermentlaw03.BitsSmall", spec := "bitsSmall", inPlace := ["internal/reflectlite.ValueOf", "(internal/reflectlite.Value).Type", "(internal/reflectlite.Value).IsNil", "internal/reflectlite.TypeOf", "(internal/reflectlite.Value).Elem", "(internal/reflectlite.Value).Set"], unfollowed := true, recurses := true, named := ["errors.errorType"], apart := false, laid := [("errors.errorType", laid_errors_errorType)], narrowed := true }
def BitsSmallUptoSaid : Prop := bitsSmallUptoRow.holds Tryd.pinned (OpenSpec.upto bitsSmallSpec)

/-- 'avermentlaw03.BitsOnce', WHERE WHAT IT READS IS OF BULK AT MOST 1048576: true; the input reads as it did. -/
def bitsOnceUptoRow : OpenClaim := { program := "ytgenmananhffoaadoor", sum := "95581b44e553c8a793fac46c902b272ddfd5b1f1fb95d1d07c3c97a984f8f3a4", func := "averment/avermentlaw03.BitsOnce", spec := "bitsOnce", inPlace := ["internal/reflectlite.ValueOf", "(internal/reflectlite.Value).Type", "(internal/reflectlite.Value).IsNil", "internal/reflectlite.TypeOf", "(internal/reflectlite.Value).Elem", "(internal/reflectlite.Value).Set"], unfollowed := true, recurses := true, named := ["errors.errorType"], apart := false, laid := [("errors.errorType", laid_errors_errorType)], narrowed := true }
def BitsOnceUptoSaid : Prop := bitsOnceUptoRow.holds Tryd.pinned (OpenSpec.upto bitsOnceSpec)

/-- 'avermentlaw03.BitsLays', WHERE WHAT IT READS IS OF BULK AT MOST 1048576: true; the input reads as it did. -/
def bitsLaysUptoRow : OpenClaim := { program := "ytgenmananhffoaadoor", sum := "95581b44e553c8a793fac46c902b272ddfd5b1f1fb95d1d07c3c97a984f8f3a4", func := "averment/avermentlaw03.BitsLays", spec := "bitsLays", inPlace := ["internal/reflectlite.ValueOf", "(internal/reflectlite.Value).Type", "(internal/reflectlite.Value).IsNil", "internal/reflectlite.TypeOf", "(internal/reflectlite.Value).Elem", "(internal/reflectlite.Value).Set"], unfollowed := true, recurses := true, named := ["errors.errorType"], apart := false, laid := [("errors.errorType", laid_errors_errorType)], narrowed := true }
def BitsLaysUptoSaid : Prop := bitsLaysUptoRow.holds Tryd.pinned (OpenSpec.upto bitsLaysSpec)

/-- 'avermentlaw03.BitsSets', WHERE WHAT IT READS IS OF BULK AT MOST 1048576: true; the input reads as it did. -/
def bitsSetsUptoRow : OpenClaim := { program := "ytgenmananhffoaadoor", sum := "95581b44e553c8a793fac46c902b272ddfd5b1f1fb95d1d07c3c97a984f8f3a4", func := "averment/avermentlaw03.BitsSets", spec := "bitsSets", inPlace := ["internal/reflectlite.ValueOf", "(internal/reflectlite.Value).Type", "(internal/reflectlite.Value).IsNil", "internal/reflectlite.TypeOf", "(internal/reflectlite.Value).Elem", "(internal/reflectlite.Value).Set"], unfollowed := true, recurses := true, named := ["errors.errorType"], apart := false, laid := [("errors.errorType", laid_errors_errorType)], narrowed := true }
def BitsSetsUptoSaid : Prop := bitsSetsUptoRow.holds Tryd.pinned (OpenSpec.upto bitsSetsSpec)

end Rows
end Go.Proofs.YtgenmananhffoaaDoor
