/-
  DERIVED. GIVEN WITH THE SEED: THE CARDS: each row of YtgenbmicpdkhlaaGreatDoorRows.lean that lists a variable, with what it lists TIED to the program's text (the seventh form; the later family's looks); each row that meets fmt, with fmt's text TOLD by the authors' own Lean function (tested against real Go, not proved from fmt's source: count such statements apart). THE CARD IS WHAT COUNTS. Prove the row's statement (the work); the ties are given (YtgenbmicpdkhlaaGreatDoorTie.lean); close each card by the builder's one call (the guide's Derived/Test/ToyasCard.lean, 'card_holds'). Laid BY PROGRAM, IN A SANDBOX (cutbox-door.mjs). By AI agents, Wed Nov 11 2026. No macro, syntax, notation, axiom, sorry.
-/
import Derived.Test.YtgenbmicpdkhlaaGreatDoorRows
import GoSem.ClaimSeven
namespace Go.Proofs.YtgenbmicpdkhlaaGreatDoor
namespace Rows

/-- THE TIED CARD OF 'withelaw27.ExecAtomic'. -/
def execAtomicCard : Claim7 := { stood := { row := execAtomicRow, standIns := [], harness := (true, "e059c6b3887839697c45921a646e19b6877229b80eb075f65c338f263c176920"), looks := false }, kinds := [], alts := [], laidByText := true, laidKinds := [.data], laidTests := true, laidLooks := .later }
def ExecAtomicCardSaid : Prop := Claim7.holds Tryz.pinned (.plain (OpenSpec.ofChange execAtomicSpec)) execAtomicCard

/-- THE TIED CARD OF 'withelaw24.PlaceOrder'. -/
def placeOrderCard : Claim7 := { stood := { row := placeOrderRow, standIns := [], harness := (true, "e059c6b3887839697c45921a646e19b6877229b80eb075f65c338f263c176920"), looks := false }, kinds := [], alts := [], laidByText := true, laidKinds := [.data], laidTests := true, laidLooks := .later }
def PlaceOrderCardSaid : Prop := Claim7.holds Tryz.pinned (.plain (OpenSpec.ofChange placeOrderSpec)) placeOrderCard

/-- THE SECOND FORM's CARD OF 'withelaw27.ExecAtomic'. -/
def execAtomicUptoCard : Claim7 := { stood := { row := execAtomicUptoRow, standIns := [], harness := (true, "e059c6b3887839697c45921a646e19b6877229b80eb075f65c338f263c176920"), looks := false }, kinds := [], alts := [], laidByText := true, laidKinds := [.data], laidTests := true, laidLooks := .later }
def ExecAtomicUptoCardSaid : Prop := Claim7.holds Tryz.pinned (.plain (OpenSpec.upto execAtomicSpec)) execAtomicUptoCard

/-- THE SECOND FORM's CARD OF 'withelaw24.PlaceOrder'. -/
def placeOrderUptoCard : Claim7 := { stood := { row := placeOrderUptoRow, standIns := [], harness := (true, "e059c6b3887839697c45921a646e19b6877229b80eb075f65c338f263c176920"), looks := false }, kinds := [], alts := [], laidByText := true, laidKinds := [.data], laidTests := true, laidLooks := .later }
def PlaceOrderUptoCardSaid : Prop := Claim7.holds Tryz.pinned (.plain (OpenSpec.upto placeOrderSpec)) placeOrderUptoCard
end Rows
end Go.Proofs.YtgenbmicpdkhlaaGreatDoor
