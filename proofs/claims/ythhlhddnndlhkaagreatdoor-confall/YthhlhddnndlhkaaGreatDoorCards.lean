/-
  DERIVED. GIVEN WITH THE SEED: THE CARDS: each row of YthhlhddnndlhkaaGreatDoorRows.lean that lists a variable, with what it lists TIED to the program's text (the seventh form; the later family's looks); each row that meets fmt, with fmt's text TOLD by the authors' own Lean function (tested against real Go, not proved from fmt's source: count such statements apart). THE CARD IS WHAT COUNTS. Prove the row's statement (the work); the ties are given (YthhlhddnndlhkaaGreatDoorTie.lean); close each card by the builder's one call (the guide's Derived/Test/ToyasCard.lean, 'card_holds'). Laid BY PROGRAM, IN A SANDBOX (cutbox-door.mjs). By AI agents, Wed Nov 11 2026. No macro, syntax, notation, axiom, sorry.
-/
import Derived.Test.YthhlhddnndlhkaaGreatDoorRows
import GoSem.ClaimSeven
namespace Go.Proofs.YthhlhddnndlhkaaGreatDoor
namespace Rows

/-- THE TIED CARD OF 'withelaw19.SeenAll'. -/
def seenAllCard : Claim7 := { stood := { row := seenAllRow, standIns := [], harness := (true, "e372923a3d3fb7fd601ab84095fdebd2187f0ea3bee297c6af33f92abd7b6d57"), looks := false }, kinds := [], alts := [], laidByText := true, laidKinds := [.data], laidTests := true, laidLooks := .later }
def SeenAllCardSaid : Prop := Claim7.holds Tryz.pinned (.plain (OpenSpec.ofChange seenAllSpec)) seenAllCard

/-- THE TIED CARD OF 'withelaw19.SeenLasts'. -/
def seenLastsCard : Claim7 := { stood := { row := seenLastsRow, standIns := [], harness := (true, "e372923a3d3fb7fd601ab84095fdebd2187f0ea3bee297c6af33f92abd7b6d57"), looks := false }, kinds := [], alts := [], laidByText := true, laidKinds := [.data], laidTests := true, laidLooks := .later }
def SeenLastsCardSaid : Prop := Claim7.holds Tryz.pinned (.plain (OpenSpec.ofChange seenLastsSpec)) seenLastsCard

/-- THE TIED CARD OF 'withelaw19.SeenConflict'. -/
def seenConflictCard : Claim7 := { stood := { row := seenConflictRow, standIns := [], harness := (true, "e372923a3d3fb7fd601ab84095fdebd2187f0ea3bee297c6af33f92abd7b6d57"), looks := false }, kinds := [], alts := [], laidByText := true, laidKinds := [.data], laidTests := true, laidLooks := .later }
def SeenConflictCardSaid : Prop := Claim7.holds Tryz.pinned (.plain (OpenSpec.ofChange seenConflictSpec)) seenConflictCard

/-- THE TIED CARD OF 'withelaw19.SeenCalm'. -/
def seenCalmCard : Claim7 := { stood := { row := seenCalmRow, standIns := [], harness := (true, "e372923a3d3fb7fd601ab84095fdebd2187f0ea3bee297c6af33f92abd7b6d57"), looks := false }, kinds := [], alts := [], laidByText := true, laidKinds := [.data], laidTests := true, laidLooks := .later }
def SeenCalmCardSaid : Prop := Claim7.holds Tryz.pinned (.plain (OpenSpec.ofChange seenCalmSpec)) seenCalmCard

/-- THE TIED CARD OF 'withelaw26.ConfAll'. -/
def confAllCard : Claim7 := { stood := { row := confAllRow, standIns := [], harness := (true, "e372923a3d3fb7fd601ab84095fdebd2187f0ea3bee297c6af33f92abd7b6d57"), looks := false }, kinds := [], alts := [], laidByText := true, laidKinds := [.data], laidTests := true, laidLooks := .later }
def ConfAllCardSaid : Prop := Claim7.holds Tryz.pinned (.plain (OpenSpec.ofChange confAllSpec)) confAllCard

/-- THE TIED CARD OF 'withelaw26.ConfWalked'. -/
def confWalkedCard : Claim7 := { stood := { row := confWalkedRow, standIns := [], harness := (true, "e372923a3d3fb7fd601ab84095fdebd2187f0ea3bee297c6af33f92abd7b6d57"), looks := false }, kinds := [], alts := [], laidByText := true, laidKinds := [.data], laidTests := true, laidLooks := .later }
def ConfWalkedCardSaid : Prop := Claim7.holds Tryz.pinned (.plain (OpenSpec.ofChange confWalkedSpec)) confWalkedCard

/-- THE TIED CARD OF 'withelaw26.ConfLasts'. -/
def confLastsCard : Claim7 := { stood := { row := confLastsRow, standIns := [], harness := (true, "e372923a3d3fb7fd601ab84095fdebd2187f0ea3bee297c6af33f92abd7b6d57"), looks := false }, kinds := [], alts := [], laidByText := true, laidKinds := [.data], laidTests := true, laidLooks := .later }
def ConfLastsCardSaid : Prop := Claim7.holds Tryz.pinned (.plain (OpenSpec.ofChange confLastsSpec)) confLastsCard

/-- THE TIED CARD OF 'withelaw26.ConfFree'. -/
def confFreeCard : Claim7 := { stood := { row := confFreeRow, standIns := [], harness := (true, "e372923a3d3fb7fd601ab84095fdebd2187f0ea3bee297c6af33f92abd7b6d57"), looks := false }, kinds := [], alts := [], laidByText := true, laidKinds := [.data], laidTests := true, laidLooks := .later }
def ConfFreeCardSaid : Prop := Claim7.holds Tryz.pinned (.plain (OpenSpec.ofChange confFreeSpec)) confFreeCard

/-- THE TIED CARD OF 'withelaw21.WholeAll'. -/
def wholeAllCard : Claim7 := { stood := { row := wholeAllRow, standIns := [], harness := (true, "e372923a3d3fb7fd601ab84095fdebd2187f0ea3bee297c6af33f92abd7b6d57"), looks := false }, kinds := [], alts := [], laidByText := true, laidKinds := [.data], laidTests := true, laidLooks := .later }
def WholeAllCardSaid : Prop := Claim7.holds Tryz.pinned (.plain (OpenSpec.ofChange wholeAllSpec)) wholeAllCard

/-- THE TIED CARD OF 'withelaw21.WholeWalked'. -/
def wholeWalkedCard : Claim7 := { stood := { row := wholeWalkedRow, standIns := [], harness := (true, "e372923a3d3fb7fd601ab84095fdebd2187f0ea3bee297c6af33f92abd7b6d57"), looks := false }, kinds := [], alts := [], laidByText := true, laidKinds := [.data], laidTests := true, laidLooks := .later }
def WholeWalkedCardSaid : Prop := Claim7.holds Tryz.pinned (.plain (OpenSpec.ofChange wholeWalkedSpec)) wholeWalkedCard

/-- THE TIED CARD OF 'withelaw21.WholeStays'. -/
def wholeStaysCard : Claim7 := { stood := { row := wholeStaysRow, standIns := [], harness := (true, "e372923a3d3fb7fd601ab84095fdebd2187f0ea3bee297c6af33f92abd7b6d57"), looks := false }, kinds := [], alts := [], laidByText := true, laidKinds := [.data], laidTests := true, laidLooks := .later }
def WholeStaysCardSaid : Prop := Claim7.holds Tryz.pinned (.plain (OpenSpec.ofChange wholeStaysSpec)) wholeStaysCard

/-- THE TIED CARD OF 'withelaw21.WholeRows'. -/
def wholeRowsCard : Claim7 := { stood := { row := wholeRowsRow, standIns := [], harness := (true, "e372923a3d3fb7fd601ab84095fdebd2187f0ea3bee297c6af33f92abd7b6d57"), looks := false }, kinds := [], alts := [], laidByText := true, laidKinds := [.data], laidTests := true, laidLooks := .later }
def WholeRowsCardSaid : Prop := Claim7.holds Tryz.pinned (.plain (OpenSpec.ofChange wholeRowsSpec)) wholeRowsCard

/-- THE SECOND FORM's CARD OF 'withelaw19.SeenAll'. -/
def seenAllUptoCard : Claim7 := { stood := { row := seenAllUptoRow, standIns := [], harness := (true, "e372923a3d3fb7fd601ab84095fdebd2187f0ea3bee297c6af33f92abd7b6d57"), looks := false }, kinds := [], alts := [], laidByText := true, laidKinds := [.data], laidTests := true, laidLooks := .later }
def SeenAllUptoCardSaid : Prop := Claim7.holds Tryz.pinned (.plain (OpenSpec.upto seenAllSpec)) seenAllUptoCard

/-- THE SECOND FORM's CARD OF 'withelaw19.SeenLasts'. -/
def seenLastsUptoCard : Claim7 := { stood := { row := seenLastsUptoRow, standIns := [], harness := (true, "e372923a3d3fb7fd601ab84095fdebd2187f0ea3bee297c6af33f92abd7b6d57"), looks := false }, kinds := [], alts := [], laidByText := true, laidKinds := [.data], laidTests := true, laidLooks := .later }
def SeenLastsUptoCardSaid : Prop := Claim7.holds Tryz.pinned (.plain (OpenSpec.upto seenLastsSpec)) seenLastsUptoCard

/-- THE SECOND FORM's CARD OF 'withelaw19.SeenConflict'. -/
def seenConflictUptoCard : Claim7 := { stood := { row := seenConflictUptoRow, standIns := [], harness := (true, "e372923a3d3fb7fd601ab84095fdebd2187f0ea3bee297c6af33f92abd7b6d57"), looks := false }, kinds := [], alts := [], laidByText := true, laidKinds := [.data], laidTests := true, laidLooks := .later }
def SeenConflictUptoCardSaid : Prop := Claim7.holds Tryz.pinned (.plain (OpenSpec.upto seenConflictSpec)) seenConflictUptoCard

/-- THE SECOND FORM's CARD OF 'withelaw19.SeenCalm'. -/
def seenCalmUptoCard : Claim7 := { stood := { row := seenCalmUptoRow, standIns := [], harness := (true, "e372923a3d3fb7fd601ab84095fdebd2187f0ea3bee297c6af33f92abd7b6d57"), looks := false }, kinds := [], alts := [], laidByText := true, laidKinds := [.data], laidTests := true, laidLooks := .later }
def SeenCalmUptoCardSaid : Prop := Claim7.holds Tryz.pinned (.plain (OpenSpec.upto seenCalmSpec)) seenCalmUptoCard

/-- THE SECOND FORM's CARD OF 'withelaw26.ConfAll'. -/
def confAllUptoCard : Claim7 := { stood := { row := confAllUptoRow, standIns := [], harness := (true, "e372923a3d3fb7fd601ab84095fdebd2187f0ea3bee297c6af33f92abd7b6d57"), looks := false }, kinds := [], alts := [], laidByText := true, laidKinds := [.data], laidTests := true, laidLooks := .later }
def ConfAllUptoCardSaid : Prop := Claim7.holds Tryz.pinned (.plain (OpenSpec.upto confAllSpec)) confAllUptoCard

/-- THE SECOND FORM's CARD OF 'withelaw26.ConfWalked'. -/
def confWalkedUptoCard : Claim7 := { stood := { row := confWalkedUptoRow, standIns := [], harness := (true, "e372923a3d3fb7fd601ab84095fdebd2187f0ea3bee297c6af33f92abd7b6d57"), looks := false }, kinds := [], alts := [], laidByText := true, laidKinds := [.data], laidTests := true, laidLooks := .later }
def ConfWalkedUptoCardSaid : Prop := Claim7.holds Tryz.pinned (.plain (OpenSpec.upto confWalkedSpec)) confWalkedUptoCard

/-- THE SECOND FORM's CARD OF 'withelaw26.ConfLasts'. -/
def confLastsUptoCard : Claim7 := { stood := { row := confLastsUptoRow, standIns := [], harness := (true, "e372923a3d3fb7fd601ab84095fdebd2187f0ea3bee297c6af33f92abd7b6d57"), looks := false }, kinds := [], alts := [], laidByText := true, laidKinds := [.data], laidTests := true, laidLooks := .later }
def ConfLastsUptoCardSaid : Prop := Claim7.holds Tryz.pinned (.plain (OpenSpec.upto confLastsSpec)) confLastsUptoCard

/-- THE SECOND FORM's CARD OF 'withelaw26.ConfFree'. -/
def confFreeUptoCard : Claim7 := { stood := { row := confFreeUptoRow, standIns := [], harness := (true, "e372923a3d3fb7fd601ab84095fdebd2187f0ea3bee297c6af33f92abd7b6d57"), looks := false }, kinds := [], alts := [], laidByText := true, laidKinds := [.data], laidTests := true, laidLooks := .later }
def ConfFreeUptoCardSaid : Prop := Claim7.holds Tryz.pinned (.plain (OpenSpec.upto confFreeSpec)) confFreeUptoCard

/-- THE SECOND FORM's CARD OF 'withelaw21.WholeAll'. -/
def wholeAllUptoCard : Claim7 := { stood := { row := wholeAllUptoRow, standIns := [], harness := (true, "e372923a3d3fb7fd601ab84095fdebd2187f0ea3bee297c6af33f92abd7b6d57"), looks := false }, kinds := [], alts := [], laidByText := true, laidKinds := [.data], laidTests := true, laidLooks := .later }
def WholeAllUptoCardSaid : Prop := Claim7.holds Tryz.pinned (.plain (OpenSpec.upto wholeAllSpec)) wholeAllUptoCard

/-- THE SECOND FORM's CARD OF 'withelaw21.WholeWalked'. -/
def wholeWalkedUptoCard : Claim7 := { stood := { row := wholeWalkedUptoRow, standIns := [], harness := (true, "e372923a3d3fb7fd601ab84095fdebd2187f0ea3bee297c6af33f92abd7b6d57"), looks := false }, kinds := [], alts := [], laidByText := true, laidKinds := [.data], laidTests := true, laidLooks := .later }
def WholeWalkedUptoCardSaid : Prop := Claim7.holds Tryz.pinned (.plain (OpenSpec.upto wholeWalkedSpec)) wholeWalkedUptoCard

/-- THE SECOND FORM's CARD OF 'withelaw21.WholeStays'. -/
def wholeStaysUptoCard : Claim7 := { stood := { row := wholeStaysUptoRow, standIns := [], harness := (true, "e372923a3d3fb7fd601ab84095fdebd2187f0ea3bee297c6af33f92abd7b6d57"), looks := false }, kinds := [], alts := [], laidByText := true, laidKinds := [.data], laidTests := true, laidLooks := .later }
def WholeStaysUptoCardSaid : Prop := Claim7.holds Tryz.pinned (.plain (OpenSpec.upto wholeStaysSpec)) wholeStaysUptoCard

/-- THE SECOND FORM's CARD OF 'withelaw21.WholeRows'. -/
def wholeRowsUptoCard : Claim7 := { stood := { row := wholeRowsUptoRow, standIns := [], harness := (true, "e372923a3d3fb7fd601ab84095fdebd2187f0ea3bee297c6af33f92abd7b6d57"), looks := false }, kinds := [], alts := [], laidByText := true, laidKinds := [.data], laidTests := true, laidLooks := .later }
def WholeRowsUptoCardSaid : Prop := Claim7.holds Tryz.pinned (.plain (OpenSpec.upto wholeRowsSpec)) wholeRowsUptoCard
end Rows
end Go.Proofs.YthhlhddnndlhkaaGreatDoor
