/-
  DERIVED. GIVEN WITH THE SEED: THE CARDS: each row of YteeaoljihmmhhaaDoorRows.lean that lists a variable, with what it lists TIED to the program's text (the seventh form; the later family's looks); each row that meets fmt, with fmt's text TOLD by the authors' own Lean function (tested against real Go, not proved from fmt's source: count such statements apart). THE CARD IS WHAT COUNTS. Prove the row's statement (the work); the ties are given (YteeaoljihmmhhaaDoorTie.lean); close each card by the builder's one call (the guide's Derived/Test/ToyasCard.lean, 'card_holds'). Laid BY PROGRAM, IN A SANDBOX (cutbox-door.mjs). By AI agents, Wed Nov 11 2026. No macro, syntax, notation, axiom, sorry.
-/
import Derived.Test.YteeaoljihmmhhaaDoorRows
import GoSem.ClaimSeven
namespace Go.Proofs.YteeaoljihmmhhaaDoor
namespace Rows

/-- THE TIED CARD OF 'avermentlaw02.WireOnce'. -/
def wireOnceCard : Claim7 := { stood := { row := wireOnceRow, standIns := [], harness := (true, "f56a6d3bafc52ac9435ed30a99447c3a186fda080d6081ba9eef0eeaa1c1f2b1"), looks := true }, kinds := [], alts := [], laidByText := true, laidKinds := [.handle], laidTests := true, laidLooks := .later }
def WireOnceCardSaid : Prop := Claim7.holds Tryd.pinned (.plain (OpenSpec.ofChange wireOnceSpec)) wireOnceCard

/-- THE TIED CARD OF 'avermentlaw02.WireApart'. -/
def wireApartCard : Claim7 := { stood := { row := wireApartRow, standIns := [], harness := (true, "f56a6d3bafc52ac9435ed30a99447c3a186fda080d6081ba9eef0eeaa1c1f2b1"), looks := true }, kinds := [], alts := [], laidByText := true, laidKinds := [.handle], laidTests := true, laidLooks := .later }
def WireApartCardSaid : Prop := Claim7.holds Tryd.pinned (.plain (OpenSpec.ofChange wireApartSpec)) wireApartCard

/-- THE TIED CARD OF 'avermentlaw02.WireTakes'. -/
def wireTakesCard : Claim7 := { stood := { row := wireTakesRow, standIns := [], harness := (true, "f56a6d3bafc52ac9435ed30a99447c3a186fda080d6081ba9eef0eeaa1c1f2b1"), looks := true }, kinds := [], alts := [], laidByText := true, laidKinds := [.handle], laidTests := true, laidLooks := .later }
def WireTakesCardSaid : Prop := Claim7.holds Tryd.pinned (.plain (OpenSpec.ofChange wireTakesSpec)) wireTakesCard

/-- THE TIED CARD OF 'avermentlaw02.WireLays'. -/
def wireLaysCard : Claim7 := { stood := { row := wireLaysRow, standIns := [], harness := (true, "f56a6d3bafc52ac9435ed30a99447c3a186fda080d6081ba9eef0eeaa1c1f2b1"), looks := true }, kinds := [], alts := [], laidByText := true, laidKinds := [.handle], laidTests := true, laidLooks := .later }
def WireLaysCardSaid : Prop := Claim7.holds Tryd.pinned (.plain (OpenSpec.ofChange wireLaysSpec)) wireLaysCard

/-- THE TIED CARD OF 'avermentlaw02.WireShort'. -/
def wireShortCard : Claim7 := { stood := { row := wireShortRow, standIns := [], harness := (true, "f56a6d3bafc52ac9435ed30a99447c3a186fda080d6081ba9eef0eeaa1c1f2b1"), looks := true }, kinds := [], alts := [], laidByText := true, laidKinds := [.handle], laidTests := true, laidLooks := .later }
def WireShortCardSaid : Prop := Claim7.holds Tryd.pinned (.plain (OpenSpec.ofChange wireShortSpec)) wireShortCard

/-- THE SECOND FORM's CARD OF 'avermentlaw02.WireOnce'. -/
def wireOnceUptoCard : Claim7 := { stood := { row := wireOnceUptoRow, standIns := [], harness := (true, "f56a6d3bafc52ac9435ed30a99447c3a186fda080d6081ba9eef0eeaa1c1f2b1"), looks := true }, kinds := [], alts := [], laidByText := true, laidKinds := [.handle], laidTests := true, laidLooks := .later }
def WireOnceUptoCardSaid : Prop := Claim7.holds Tryd.pinned (.plain (OpenSpec.upto wireOnceSpec)) wireOnceUptoCard

/-- THE SECOND FORM's CARD OF 'avermentlaw02.WireApart'. -/
def wireApartUptoCard : Claim7 := { stood := { row := wireApartUptoRow, standIns := [], harness := (true, "f56a6d3bafc52ac9435ed30a99447c3a186fda080d6081ba9eef0eeaa1c1f2b1"), looks := true }, kinds := [], alts := [], laidByText := true, laidKinds := [.handle], laidTests := true, laidLooks := .later }
def WireApartUptoCardSaid : Prop := Claim7.holds Tryd.pinned (.plain (OpenSpec.upto wireApartSpec)) wireApartUptoCard

/-- THE SECOND FORM's CARD OF 'avermentlaw02.WireTakes'. -/
def wireTakesUptoCard : Claim7 := { stood := { row := wireTakesUptoRow, standIns := [], harness := (true, "f56a6d3bafc52ac9435ed30a99447c3a186fda080d6081ba9eef0eeaa1c1f2b1"), looks := true }, kinds := [], alts := [], laidByText := true, laidKinds := [.handle], laidTests := true, laidLooks := .later }
def WireTakesUptoCardSaid : Prop := Claim7.holds Tryd.pinned (.plain (OpenSpec.upto wireTakesSpec)) wireTakesUptoCard

/-- THE SECOND FORM's CARD OF 'avermentlaw02.WireLays'. -/
def wireLaysUptoCard : Claim7 := { stood := { row := wireLaysUptoRow, standIns := [], harness := (true, "f56a6d3bafc52ac9435ed30a99447c3a186fda080d6081ba9eef0eeaa1c1f2b1"), looks := true }, kinds := [], alts := [], laidByText := true, laidKinds := [.handle], laidTests := true, laidLooks := .later }
def WireLaysUptoCardSaid : Prop := Claim7.holds Tryd.pinned (.plain (OpenSpec.upto wireLaysSpec)) wireLaysUptoCard

/-- THE SECOND FORM's CARD OF 'avermentlaw02.WireShort'. -/
def wireShortUptoCard : Claim7 := { stood := { row := wireShortUptoRow, standIns := [], harness := (true, "f56a6d3bafc52ac9435ed30a99447c3a186fda080d6081ba9eef0eeaa1c1f2b1"), looks := true }, kinds := [], alts := [], laidByText := true, laidKinds := [.handle], laidTests := true, laidLooks := .later }
def WireShortUptoCardSaid : Prop := Claim7.holds Tryd.pinned (.plain (OpenSpec.upto wireShortSpec)) wireShortUptoCard
end Rows
end Go.Proofs.YteeaoljihmmhhaaDoor
