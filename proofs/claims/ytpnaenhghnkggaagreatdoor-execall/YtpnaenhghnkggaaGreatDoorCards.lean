/-
  DERIVED. GIVEN WITH THE SEED: THE CARDS: each row of YtpnaenhghnkggaaGreatDoorRows.lean that lists a variable, with what it lists TIED to the program's text (the seventh form; the later family's looks); each row that meets fmt, with fmt's text TOLD by the authors' own Lean function (tested against real Go, not proved from fmt's source: count such statements apart). THE CARD IS WHAT COUNTS. Prove the row's statement (the work); the ties are given (YtpnaenhghnkggaaGreatDoorTie.lean); close each card by the builder's one call (the guide's Derived/Test/ToyasCard.lean, 'card_holds'). Laid BY PROGRAM, IN A SANDBOX (cutbox-door.mjs). By AI agents, Wed Nov 11 2026. No macro, syntax, notation, axiom, sorry.
-/
import Derived.Test.YtpnaenhghnkggaaGreatDoorRows
import GoSem.ClaimSeven
namespace Go.Proofs.YtpnaenhghnkggaaGreatDoor
namespace Rows

/-- THE TIED CARD OF 'withelaw27.ExecAll'. -/
def execAllCard : Claim7 := { stood := { row := execAllRow, standIns := [], harness := (true, "a6aaecff86c6cfea12e4e71604c48fba4e8888a4ea58cac2ec27a1dfbafb045d"), looks := false }, kinds := [], alts := [], laidByText := true, laidKinds := [.data], laidTests := true, laidLooks := .later }
def ExecAllCardSaid : Prop := Claim7.holds Tryz.pinned (.plain (OpenSpec.ofChange execAllSpec)) execAllCard

/-- THE TIED CARD OF 'withelaw27.ExecAny'. -/
def execAnyCard : Claim7 := { stood := { row := execAnyRow, standIns := [], harness := (true, "a6aaecff86c6cfea12e4e71604c48fba4e8888a4ea58cac2ec27a1dfbafb045d"), looks := false }, kinds := [], alts := [], laidByText := true, laidKinds := [.data], laidTests := true, laidLooks := .later }
def ExecAnyCardSaid : Prop := Claim7.holds Tryz.pinned (.plain (OpenSpec.ofChange execAnySpec)) execAnyCard

/-- THE TIED CARD OF 'withelaw27.ExecWalked'. -/
def execWalkedCard : Claim7 := { stood := { row := execWalkedRow, standIns := [], harness := (true, "a6aaecff86c6cfea12e4e71604c48fba4e8888a4ea58cac2ec27a1dfbafb045d"), looks := false }, kinds := [], alts := [], laidByText := true, laidKinds := [.data], laidTests := true, laidLooks := .later }
def ExecWalkedCardSaid : Prop := Claim7.holds Tryz.pinned (.plain (OpenSpec.ofChange execWalkedSpec)) execWalkedCard

/-- THE TIED CARD OF 'withelaw27.ExecEco'. -/
def execEcoCard : Claim7 := { stood := { row := execEcoRow, standIns := [], harness := (true, "a6aaecff86c6cfea12e4e71604c48fba4e8888a4ea58cac2ec27a1dfbafb045d"), looks := false }, kinds := [], alts := [], laidByText := true, laidKinds := [.data], laidTests := true, laidLooks := .later }
def ExecEcoCardSaid : Prop := Claim7.holds Tryz.pinned (.plain (OpenSpec.ofChange execEcoSpec)) execEcoCard

/-- THE SECOND FORM's CARD OF 'withelaw27.ExecAll'. -/
def execAllUptoCard : Claim7 := { stood := { row := execAllUptoRow, standIns := [], harness := (true, "a6aaecff86c6cfea12e4e71604c48fba4e8888a4ea58cac2ec27a1dfbafb045d"), looks := false }, kinds := [], alts := [], laidByText := true, laidKinds := [.data], laidTests := true, laidLooks := .later }
def ExecAllUptoCardSaid : Prop := Claim7.holds Tryz.pinned (.plain (OpenSpec.upto execAllSpec)) execAllUptoCard

/-- THE SECOND FORM's CARD OF 'withelaw27.ExecAny'. -/
def execAnyUptoCard : Claim7 := { stood := { row := execAnyUptoRow, standIns := [], harness := (true, "a6aaecff86c6cfea12e4e71604c48fba4e8888a4ea58cac2ec27a1dfbafb045d"), looks := false }, kinds := [], alts := [], laidByText := true, laidKinds := [.data], laidTests := true, laidLooks := .later }
def ExecAnyUptoCardSaid : Prop := Claim7.holds Tryz.pinned (.plain (OpenSpec.upto execAnySpec)) execAnyUptoCard

/-- THE SECOND FORM's CARD OF 'withelaw27.ExecWalked'. -/
def execWalkedUptoCard : Claim7 := { stood := { row := execWalkedUptoRow, standIns := [], harness := (true, "a6aaecff86c6cfea12e4e71604c48fba4e8888a4ea58cac2ec27a1dfbafb045d"), looks := false }, kinds := [], alts := [], laidByText := true, laidKinds := [.data], laidTests := true, laidLooks := .later }
def ExecWalkedUptoCardSaid : Prop := Claim7.holds Tryz.pinned (.plain (OpenSpec.upto execWalkedSpec)) execWalkedUptoCard

/-- THE SECOND FORM's CARD OF 'withelaw27.ExecEco'. -/
def execEcoUptoCard : Claim7 := { stood := { row := execEcoUptoRow, standIns := [], harness := (true, "a6aaecff86c6cfea12e4e71604c48fba4e8888a4ea58cac2ec27a1dfbafb045d"), looks := false }, kinds := [], alts := [], laidByText := true, laidKinds := [.data], laidTests := true, laidLooks := .later }
def ExecEcoUptoCardSaid : Prop := Claim7.holds Tryz.pinned (.plain (OpenSpec.upto execEcoSpec)) execEcoUptoCard
end Rows
end Go.Proofs.YtpnaenhghnkggaaGreatDoor
