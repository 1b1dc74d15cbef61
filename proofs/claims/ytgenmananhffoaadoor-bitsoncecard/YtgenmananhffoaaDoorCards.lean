/-
  DERIVED. GIVEN WITH THE SEED: THE CARDS: each row of YtgenmananhffoaaDoorRows.lean that lists a variable, with what it lists TIED to the program's text (the seventh form; the later family's looks); each row that meets fmt, with fmt's text TOLD by the authors' own Lean function (tested against real Go, not proved from fmt's source: count such statements apart). THE CARD IS WHAT COUNTS. Prove the row's statement (the work); the ties are given (YtgenmananhffoaaDoorTie.lean); close each card by the builder's one call (the guide's Derived/Test/ToyasCard.lean, 'card_holds'). Laid BY PROGRAM, IN A SANDBOX (cutbox-door.mjs). By AI agents, Wed Nov 11 2026. No macro, syntax, notation, axiom, sorry.
-/
import Derived.Test.YtgenmananhffoaaDoorRows
import GoSem.ClaimSeven
namespace Go.Proofs.YtgenmananhffoaaDoor
namespace Rows

/-- THE TIED CARD OF 'avermentlaw03.BitsSmall'. -/
def bitsSmallCard : Claim7 := { stood := { row := bitsSmallRow, standIns := [], harness := (true, "929466f6713e155081790f8759cdaf653de931c060779333bb5b6bb329b0b9ec"), looks := true }, kinds := [], alts := [], laidByText := true, laidKinds := [.handle], laidTests := true, laidLooks := .later }
def BitsSmallCardSaid : Prop := Claim7.holds Tryd.pinned (.plain (OpenSpec.ofChange bitsSmallSpec)) bitsSmallCard

/-- THE TIED CARD OF 'avermentlaw03.BitsOnce'. -/
def bitsOnceCard : Claim7 := { stood := { row := bitsOnceRow, standIns := [], harness := (true, "929466f6713e155081790f8759cdaf653de931c060779333bb5b6bb329b0b9ec"), looks := true }, kinds := [], alts := [], laidByText := true, laidKinds := [.handle], laidTests := true, laidLooks := .later }
def BitsOnceCardSaid : Prop := Claim7.holds Tryd.pinned (.plain (OpenSpec.ofChange bitsOnceSpec)) bitsOnceCard

/-- THE TIED CARD OF 'avermentlaw03.BitsLays'. -/
def bitsLaysCard : Claim7 := { stood := { row := bitsLaysRow, standIns := [], harness := (true, "929466f6713e155081790f8759cdaf653de931c060779333bb5b6bb329b0b9ec"), looks := true }, kinds := [], alts := [], laidByText := true, laidKinds := [.handle], laidTests := true, laidLooks := .later }
def BitsLaysCardSaid : Prop := Claim7.holds Tryd.pinned (.plain (OpenSpec.ofChange bitsLaysSpec)) bitsLaysCard

/-- THE TIED CARD OF 'avermentlaw03.BitsSets'. -/
def bitsSetsCard : Claim7 := { stood := { row := bitsSetsRow, standIns := [], harness := (true, "929466f6713e155081790f8759cdaf653de931c060779333bb5b6bb329b0b9ec"), looks := true }, kinds := [], alts := [], laidByText := true, laidKinds := [.handle], laidTests := true, laidLooks := .later }
def BitsSetsCardSaid : Prop := Claim7.holds Tryd.pinned (.plain (OpenSpec.ofChange bitsSetsSpec)) bitsSetsCard

/-- THE SECOND FORM's CARD OF 'avermentlaw03.BitsSmall'. -/
def bitsSmallUptoCard : Claim7 := { stood := { row := bitsSmallUptoRow, standIns := [], harness := (true, "929466f6713e155081790f8759cdaf653de931c060779333bb5b6bb329b0b9ec"), looks := true }, kinds := [], alts := [], laidByText := true, laidKinds := [.handle], laidTests := true, laidLooks := .later }
def BitsSmallUptoCardSaid : Prop := Claim7.holds Tryd.pinned (.plain (OpenSpec.upto bitsSmallSpec)) bitsSmallUptoCard

/-- THE SECOND FORM's CARD OF 'avermentlaw03.BitsOnce'. -/
def bitsOnceUptoCard : Claim7 := { stood := { row := bitsOnceUptoRow, standIns := [], harness := (true, "929466f6713e155081790f8759cdaf653de931c060779333bb5b6bb329b0b9ec"), looks := true }, kinds := [], alts := [], laidByText := true, laidKinds := [.handle], laidTests := true, laidLooks := .later }
def BitsOnceUptoCardSaid : Prop := Claim7.holds Tryd.pinned (.plain (OpenSpec.upto bitsOnceSpec)) bitsOnceUptoCard

/-- THE SECOND FORM's CARD OF 'avermentlaw03.BitsLays'. -/
def bitsLaysUptoCard : Claim7 := { stood := { row := bitsLaysUptoRow, standIns := [], harness := (true, "929466f6713e155081790f8759cdaf653de931c060779333bb5b6bb329b0b9ec"), looks := true }, kinds := [], alts := [], laidByText := true, laidKinds := [.handle], laidTests := true, laidLooks := .later }
def BitsLaysUptoCardSaid : Prop := Claim7.holds Tryd.pinned (.plain (OpenSpec.upto bitsLaysSpec)) bitsLaysUptoCard

/-- THE SECOND FORM's CARD OF 'avermentlaw03.BitsSets'. -/
def bitsSetsUptoCard : Claim7 := { stood := { row := bitsSetsUptoRow, standIns := [], harness := (true, "929466f6713e155081790f8759cdaf653de931c060779333bb5b6bb329b0b9ec"), looks := true }, kinds := [], alts := [], laidByText := true, laidKinds := [.handle], laidTests := true, laidLooks := .later }
def BitsSetsUptoCardSaid : Prop := Claim7.holds Tryd.pinned (.plain (OpenSpec.upto bitsSetsSpec)) bitsSetsUptoCard
end Rows
end Go.Proofs.YtgenmananhffoaaDoor
