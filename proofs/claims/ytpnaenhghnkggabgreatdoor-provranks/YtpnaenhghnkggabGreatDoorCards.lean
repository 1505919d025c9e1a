/-
  DERIVED. GIVEN WITH THE SEED: THE CARDS: each row of YtpnaenhghnkggabGreatDoorRows.lean that lists a variable, with what it lists TIED to the program's text (the seventh form; the later family's looks); each row that meets fmt, with fmt's text TOLD by the authors' own Lean function (tested against real Go, not proved from fmt's source: count such statements apart). THE CARD IS WHAT COUNTS. Prove the row's statement (the work); the ties are given (YtpnaenhghnkggabGreatDoorTie.lean); close each card by the builder's one call (the guide's Derived/Test/ToyasCard.lean, 'card_holds'). Laid BY PROGRAM, IN A SANDBOX (cutbox-door.mjs). By AI agents, Wed Nov 11 2026. No macro, syntax, notation, axiom, sorry.
-/
import Derived.Test.YtpnaenhghnkggabGreatDoorRows
import GoSem.ClaimSeven
namespace Go.Proofs.YtpnaenhghnkggabGreatDoor
namespace Rows

/-- THE TIED CARD OF 'withelaw29.ProvAll'. -/
def provAllCard : Claim7 := { stood := { row := provAllRow, standIns := [], harness := (true, "696b32135054fece96a30b0c0c81acadaff80cb64c6790764c98136c1ca21b94"), looks := false }, kinds := [], alts := [], laidByText := true, laidKinds := [.data], laidTests := true, laidLooks := .later }
def ProvAllCardSaid : Prop := Claim7.holds Tryz.pinned (.plain (OpenSpec.ofChange provAllSpec)) provAllCard

/-- THE TIED CARD OF 'withelaw29.ProvEnds'. -/
def provEndsCard : Claim7 := { stood := { row := provEndsRow, standIns := [], harness := (true, "696b32135054fece96a30b0c0c81acadaff80cb64c6790764c98136c1ca21b94"), looks := false }, kinds := [], alts := [], laidByText := true, laidKinds := [.data], laidTests := true, laidLooks := .later }
def ProvEndsCardSaid : Prop := Claim7.holds Tryz.pinned (.plain (OpenSpec.ofChange provEndsSpec)) provEndsCard

/-- THE TIED CARD OF 'withelaw29.ProvRanks'. -/
def provRanksCard : Claim7 := { stood := { row := provRanksRow, standIns := [], harness := (true, "696b32135054fece96a30b0c0c81acadaff80cb64c6790764c98136c1ca21b94"), looks := false }, kinds := [], alts := [], laidByText := true, laidKinds := [.data], laidTests := true, laidLooks := .later }
def ProvRanksCardSaid : Prop := Claim7.holds Tryz.pinned (.plain (OpenSpec.ofChange provRanksSpec)) provRanksCard

/-- THE TIED CARD OF 'withelaw21.WholeAny'. -/
def wholeAnyCard : Claim7 := { stood := { row := wholeAnyRow, standIns := [], harness := (true, "696b32135054fece96a30b0c0c81acadaff80cb64c6790764c98136c1ca21b94"), looks := false }, kinds := [], alts := [], laidByText := true, laidKinds := [.data], laidTests := true, laidLooks := .later }
def WholeAnyCardSaid : Prop := Claim7.holds Tryz.pinned (.plain (OpenSpec.ofChange wholeAnySpec)) wholeAnyCard

/-- THE SECOND FORM's CARD OF 'withelaw29.ProvAll'. -/
def provAllUptoCard : Claim7 := { stood := { row := provAllUptoRow, standIns := [], harness := (true, "696b32135054fece96a30b0c0c81acadaff80cb64c6790764c98136c1ca21b94"), looks := false }, kinds := [], alts := [], laidByText := true, laidKinds := [.data], laidTests := true, laidLooks := .later }
def ProvAllUptoCardSaid : Prop := Claim7.holds Tryz.pinned (.plain (OpenSpec.upto provAllSpec)) provAllUptoCard

/-- THE SECOND FORM's CARD OF 'withelaw29.ProvEnds'. -/
def provEndsUptoCard : Claim7 := { stood := { row := provEndsUptoRow, standIns := [], harness := (true, "696b32135054fece96a30b0c0c81acadaff80cb64c6790764c98136c1ca21b94"), looks := false }, kinds := [], alts := [], laidByText := true, laidKinds := [.data], laidTests := true, laidLooks := .later }
def ProvEndsUptoCardSaid : Prop := Claim7.holds Tryz.pinned (.plain (OpenSpec.upto provEndsSpec)) provEndsUptoCard

/-- THE SECOND FORM's CARD OF 'withelaw29.ProvRanks'. -/
def provRanksUptoCard : Claim7 := { stood := { row := provRanksUptoRow, standIns := [], harness := (true, "696b32135054fece96a30b0c0c81acadaff80cb64c6790764c98136c1ca21b94"), looks := false }, kinds := [], alts := [], laidByText := true, laidKinds := [.data], laidTests := true, laidLooks := .later }
def ProvRanksUptoCardSaid : Prop := Claim7.holds Tryz.pinned (.plain (OpenSpec.upto provRanksSpec)) provRanksUptoCard

/-- THE SECOND FORM's CARD OF 'withelaw21.WholeAny'. -/
def wholeAnyUptoCard : Claim7 := { stood := { row := wholeAnyUptoRow, standIns := [], harness := (true, "696b32135054fece96a30b0c0c81acadaff80cb64c6790764c98136c1ca21b94"), looks := false }, kinds := [], alts := [], laidByText := true, laidKinds := [.data], laidTests := true, laidLooks := .later }
def WholeAnyUptoCardSaid : Prop := Claim7.holds Tryz.pinned (.plain (OpenSpec.upto wholeAnySpec)) wholeAnyUptoCard
end Rows
end Go.Proofs.YtpnaenhghnkggabGreatDoor
