/-
  DERIVED. GIVEN WITH THE SEED: THE CARDS: each row of YtpcpldaangchaaaGreatDoorRows.lean that lists a variable, with what it lists TIED to the program's text (the seventh form; the later family's looks); each row that meets fmt, with fmt's text TOLD by the authors' own Lean function (tested against real Go, not proved from fmt's source: count such statements apart). THE CARD IS WHAT COUNTS. Prove the row's statement (the work); the ties are given (YtpcpldaangchaaaGreatDoorTie.lean); close each card by the builder's one call (the guide's Derived/Test/ToyasCard.lean, 'card_holds'). Laid BY PROGRAM, IN A SANDBOX (cutbox-door.mjs). By AI agents, Wed Nov 11 2026. No macro, syntax, notation, axiom, sorry.
-/
import Derived.Test.YtpcpldaangchaaaGreatDoorRows
import GoSem.ClaimSeven
namespace Go.Proofs.YtpcpldaangchaaaGreatDoor
namespace Rows

/-- THE TIED CARD OF 'withelaw20.CoheAll'. -/
def coheAllCard : Claim7 := { stood := { row := coheAllRow, standIns := [], harness := (true, "30469839904785b377b1e4f3a2e59a93a3b4333f85d6919e1b7a2d82829796d7"), looks := false }, kinds := [], alts := [], laidByText := true, laidKinds := [.data], laidTests := true, laidLooks := .later }
def CoheAllCardSaid : Prop := Claim7.holds Tryz.pinned (.plain (OpenSpec.ofChange coheAllSpec)) coheAllCard

/-- THE TIED CARD OF 'withelaw20.CoheExec'. -/
def coheExecCard : Claim7 := { stood := { row := coheExecRow, standIns := [], harness := (true, "30469839904785b377b1e4f3a2e59a93a3b4333f85d6919e1b7a2d82829796d7"), looks := false }, kinds := [], alts := [], laidByText := true, laidKinds := [.data], laidTests := true, laidLooks := .later }
def CoheExecCardSaid : Prop := Claim7.holds Tryz.pinned (.plain (OpenSpec.ofChange coheExecSpec)) coheExecCard

/-- THE TIED CARD OF 'withelaw20.CoheWalked'. -/
def coheWalkedCard : Claim7 := { stood := { row := coheWalkedRow, standIns := [], harness := (true, "30469839904785b377b1e4f3a2e59a93a3b4333f85d6919e1b7a2d82829796d7"), looks := false }, kinds := [], alts := [], laidByText := true, laidKinds := [.data], laidTests := true, laidLooks := .later }
def CoheWalkedCardSaid : Prop := Claim7.holds Tryz.pinned (.plain (OpenSpec.ofChange coheWalkedSpec)) coheWalkedCard

/-- THE TIED CARD OF 'withelaw20.CoheLess'. -/
def coheLessCard : Claim7 := { stood := { row := coheLessRow, standIns := [], harness := (true, "30469839904785b377b1e4f3a2e59a93a3b4333f85d6919e1b7a2d82829796d7"), looks := false }, kinds := [], alts := [], laidByText := true, laidKinds := [.data], laidTests := true, laidLooks := .later }
def CoheLessCardSaid : Prop := Claim7.holds Tryz.pinned (.plain (OpenSpec.ofChange coheLessSpec)) coheLessCard

/-- THE TIED CARD OF 'withelaw19.SeenNone'. -/
def seenNoneCard : Claim7 := { stood := { row := seenNoneRow, standIns := [], harness := (true, "30469839904785b377b1e4f3a2e59a93a3b4333f85d6919e1b7a2d82829796d7"), looks := false }, kinds := [], alts := [], laidByText := true, laidKinds := [.data], laidTests := true, laidLooks := .later }
def SeenNoneCardSaid : Prop := Claim7.holds Tryz.pinned (.plain (OpenSpec.ofChange seenNoneSpec)) seenNoneCard

/-- THE TIED CARD OF 'withelaw17.ShapeAny'. -/
def shapeAnyCard : Claim7 := { stood := { row := shapeAnyRow, standIns := [], harness := (true, "30469839904785b377b1e4f3a2e59a93a3b4333f85d6919e1b7a2d82829796d7"), looks := false }, kinds := [], alts := [], laidByText := true, laidKinds := [.data], laidTests := true, laidLooks := .later }
def ShapeAnyCardSaid : Prop := Claim7.holds Tryz.pinned (.plain (OpenSpec.ofChange shapeAnySpec)) shapeAnyCard

/-- THE SECOND FORM's CARD OF 'withelaw20.CoheAll'. -/
def coheAllUptoCard : Claim7 := { stood := { row := coheAllUptoRow, standIns := [], harness := (true, "30469839904785b377b1e4f3a2e59a93a3b4333f85d6919e1b7a2d82829796d7"), looks := false }, kinds := [], alts := [], laidByText := true, laidKinds := [.data], laidTests := true, laidLooks := .later }
def CoheAllUptoCardSaid : Prop := Claim7.holds Tryz.pinned (.plain (OpenSpec.upto coheAllSpec)) coheAllUptoCard

/-- THE SECOND FORM's CARD OF 'withelaw20.CoheExec'. -/
def coheExecUptoCard : Claim7 := { stood := { row := coheExecUptoRow, standIns := [], harness := (true, "30469839904785b377b1e4f3a2e59a93a3b4333f85d6919e1b7a2d82829796d7"), looks := false }, kinds := [], alts := [], laidByText := true, laidKinds := [.data], laidTests := true, laidLooks := .later }
def CoheExecUptoCardSaid : Prop := Claim7.holds Tryz.pinned (.plain (OpenSpec.upto coheExecSpec)) coheExecUptoCard

/-- THE SECOND FORM's CARD OF 'withelaw20.CoheWalked'. -/
def coheWalkedUptoCard : Claim7 := { stood := { row := coheWalkedUptoRow, standIns := [], harness := (true, "30469839904785b377b1e4f3a2e59a93a3b4333f85d6919e1b7a2d82829796d7"), looks := false }, kinds := [], alts := [], laidByText := true, laidKinds := [.data], laidTests := true, laidLooks := .later }
def CoheWalkedUptoCardSaid : Prop := Claim7.holds Tryz.pinned (.plain (OpenSpec.upto coheWalkedSpec)) coheWalkedUptoCard

/-- THE SECOND FORM's CARD OF 'withelaw20.CoheLess'. -/
def coheLessUptoCard : Claim7 := { stood := { row := coheLessUptoRow, standIns := [], harness := (true, "30469839904785b377b1e4f3a2e59a93a3b4333f85d6919e1b7a2d82829796d7"), looks := false }, kinds := [], alts := [], laidByText := true, laidKinds := [.data], laidTests := true, laidLooks := .later }
def CoheLessUptoCardSaid : Prop := Claim7.holds Tryz.pinned (.plain (OpenSpec.upto coheLessSpec)) coheLessUptoCard

/-- THE SECOND FORM's CARD OF 'withelaw19.SeenNone'. -/
def seenNoneUptoCard : Claim7 := { stood := { row := seenNoneUptoRow, standIns := [], harness := (true, "30469839904785b377b1e4f3a2e59a93a3b4333f85d6919e1b7a2d82829796d7"), looks := false }, kinds := [], alts := [], laidByText := true, laidKinds := [.data], laidTests := true, laidLooks := .later }
def SeenNoneUptoCardSaid : Prop := Claim7.holds Tryz.pinned (.plain (OpenSpec.upto seenNoneSpec)) seenNoneUptoCard

/-- THE SECOND FORM's CARD OF 'withelaw17.ShapeAny'. -/
def shapeAnyUptoCard : Claim7 := { stood := { row := shapeAnyUptoRow, standIns := [], harness := (true, "30469839904785b377b1e4f3a2e59a93a3b4333f85d6919e1b7a2d82829796d7"), looks := false }, kinds := [], alts := [], laidByText := true, laidKinds := [.data], laidTests := true, laidLooks := .later }
def ShapeAnyUptoCardSaid : Prop := Claim7.holds Tryz.pinned (.plain (OpenSpec.upto shapeAnySpec)) shapeAnyUptoCard
end Rows
end Go.Proofs.YtpcpldaangchaaaGreatDoor
