/-
  DERIVED. GIVEN WITH THE SEED: THE CARDS: each row of YtmdeiacjehhcoaaDoorRows.lean that lists a variable, with what it lists TIED to the program's text (the seventh form; the later family's looks); each row that meets fmt, with fmt's text TOLD by the authors' own Lean function (tested against real Go, not proved from fmt's source: count such statements apart). THE CARD IS WHAT COUNTS. Prove the row's statement (the work); the ties are given (YtmdeiacjehhcoaaDoorTie.lean); close each card by the builder's one call (the guide's Derived/Test/ToyasCard.lean, 'card_holds'). Laid BY PROGRAM, IN A SANDBOX (cutbox-door.mjs). By AI agents, Wed Nov 11 2026. No macro, syntax, notation, axiom, sorry.
-/
import Derived.Test.YtmdeiacjehhcoaaDoorRows
import GoSem.ClaimSeven
namespace Go.Proofs.YtmdeiacjehhcoaaDoor
namespace Rows

/-- THE TIED CARD OF 'avermentlaw01.FaultPlaces'. -/
def faultPlacesCard : Claim7 := { stood := { row := faultPlacesRow, standIns := [], harness := (true, "a32f2c3140b4c4107bb5567e18a9102630e24579a3ae75402206972e5deea5e0"), looks := true }, kinds := [], alts := [], laidByText := true, laidKinds := [.data, .data, .data, .handle], laidTests := true, laidLooks := .later }
def FaultPlacesCardSaid : Prop := Claim7.holds Tryd.pinned (.plain (OpenSpec.ofChange faultPlacesSpec)) faultPlacesCard

/-- THE TIED CARD OF 'avermentlaw01.FaultApart'. -/
def faultApartCard : Claim7 := { stood := { row := faultApartRow, standIns := [], harness := (true, "a32f2c3140b4c4107bb5567e18a9102630e24579a3ae75402206972e5deea5e0"), looks := true }, kinds := [], alts := [], laidByText := true, laidKinds := [.data, .data, .data, .handle], laidTests := true, laidLooks := .later }
def FaultApartCardSaid : Prop := Claim7.holds Tryd.pinned (.plain (OpenSpec.ofChange faultApartSpec)) faultApartCard

/-- THE TIED CARD OF 'avermentlaw01.FaultIs'. -/
def faultIsCard : Claim7 := { stood := { row := faultIsRow, standIns := [], harness := (true, "a32f2c3140b4c4107bb5567e18a9102630e24579a3ae75402206972e5deea5e0"), looks := true }, kinds := [], alts := [], laidByText := true, laidKinds := [.data, .data, .data, .handle], laidTests := true, laidLooks := .later }
def FaultIsCardSaid : Prop := Claim7.holds Tryd.pinned (.plain (OpenSpec.ofChange faultIsSpec)) faultIsCard

/-- THE TIED CARD OF 'avermentlaw01.FaultNone'. -/
def faultNoneCard : Claim7 := { stood := { row := faultNoneRow, standIns := [], harness := (true, "a32f2c3140b4c4107bb5567e18a9102630e24579a3ae75402206972e5deea5e0"), looks := true }, kinds := [], alts := [], laidByText := true, laidKinds := [.data, .data, .data, .handle], laidTests := true, laidLooks := .later }
def FaultNoneCardSaid : Prop := Claim7.holds Tryd.pinned (.plain (OpenSpec.ofChange faultNoneSpec)) faultNoneCard

/-- THE SECOND FORM's CARD OF 'avermentlaw01.FaultPlaces'. -/
def faultPlacesUptoCard : Claim7 := { stood := { row := faultPlacesUptoRow, standIns := [], harness := (true, "a32f2c3140b4c4107bb5567e18a9102630e24579a3ae75402206972e5deea5e0"), looks := true }, kinds := [], alts := [], laidByText := true, laidKinds := [.data, .data, .data, .handle], laidTests := true, laidLooks := .later }
def FaultPlacesUptoCardSaid : Prop := Claim7.holds Tryd.pinned (.plain (OpenSpec.upto faultPlacesSpec)) faultPlacesUptoCard

/-- THE SECOND FORM's CARD OF 'avermentlaw01.FaultApart'. -/
def faultApartUptoCard : Claim7 := { stood := { row := faultApartUptoRow, standIns := [], harness := (true, "a32f2c3140b4c4107bb5567e18a9102630e24579a3ae75402206972e5deea5e0"), looks := true }, kinds := [], alts := [], laidByText := true, laidKinds := [.data, .data, .data, .handle], laidTests := true, laidLooks := .later }
def FaultApartUptoCardSaid : Prop := Claim7.holds Tryd.pinned (.plain (OpenSpec.upto faultApartSpec)) faultApartUptoCard

/-- THE SECOND FORM's CARD OF 'avermentlaw01.FaultIs'. -/
def faultIsUptoCard : Claim7 := { stood := { row := faultIsUptoRow, standIns := [], harness := (true, "a32f2c3140b4c4107bb5567e18a9102630e24579a3ae75402206972e5deea5e0"), looks := true }, kinds := [], alts := [], laidByText := true, laidKinds := [.data, .data, .data, .handle], laidTests := true, laidLooks := .later }
def FaultIsUptoCardSaid : Prop := Claim7.holds Tryd.pinned (.plain (OpenSpec.upto faultIsSpec)) faultIsUptoCard

/-- THE SECOND FORM's CARD OF 'avermentlaw01.FaultNone'. -/
def faultNoneUptoCard : Claim7 := { stood := { row := faultNoneUptoRow, standIns := [], harness := (true, "a32f2c3140b4c4107bb5567e18a9102630e24579a3ae75402206972e5deea5e0"), looks := true }, kinds := [], alts := [], laidByText := true, laidKinds := [.data, .data, .data, .handle], laidTests := true, laidLooks := .later }
def FaultNoneUptoCardSaid : Prop := Claim7.holds Tryd.pinned (.plain (OpenSpec.upto faultNoneSpec)) faultNoneUptoCard
end Rows
end Go.Proofs.YtmdeiacjehhcoaaDoor
