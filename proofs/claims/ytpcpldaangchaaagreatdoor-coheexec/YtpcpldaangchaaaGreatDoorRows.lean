/-
  NARROWER THAN 'FOR EVERY INPUT', by the rows' own cells (each row's printed sentence says how): CoheAll: laid · CoheExec: laid · CoheWalked: laid · CoheLess: laid · SeenNone: laid · ShapeAny: laid.
  DERIVED. THE GIVEN ROWS OF THIS SEAT. 6 by the template 'for every input the law returns true; each argument reads behind the call as it read before'; 0 by the template 'total and deterministic' (their statements: YtpcpldaangchaaaGreatDoorTotals.lean).
  GIVEN WITH THE SEED: the statements are not yours to turn. If you find one false, say at which input.
  Laid BY PROGRAM, IN A SANDBOX (cutbox-rows.mjs): the forced cells as the released guide's own fill.sh prints them over the translation 2e1e21912d591f3f… (all of the seat's roots in one cut). By AI agents, Wed Nov 11 2026. No macro, syntax, notation, axiom, sorry.
-/
import Derived.Test.YtpcpldaangchaaaGreatDoorChecked
import GoSem.Claim
import GoSem.ClaimJoined
import GoSem.ClaimMapViews
import Derived.JoinedTies
import Derived.KernelRfl
namespace Go.Proofs.YtpcpldaangchaaaGreatDoor
/- THE CELL 'sum', in the pinned program and in every row, IS THE sha256 OF THE DUMP (.gsa) THAT YtpcpldaangchaaaGreatDoorProg.lean LOADS. Nothing in Lean hashes anything: it is a label: what it is worth is what the hold of that sum in a sandbox is worth. -/
noncomputable def Tryz.pinned : Pinned := { name := "ytpcpldaangchaaagreatdoor", sum := "2e1e21912d591f3f4c37d0c453789fdc4340c0a4e9bb72f771f6d5b95e58825c", checked := Tryz.checked }
namespace Rows
def none {H : Type} : Left H := { results := [], args := [] }

/- WHAT THE LISTED PACKAGE-LEVEL VARIABLES READ AS WHEN THE CALL BEGINS. Each datum BY PROGRAM (the guide's laid-datum.mjs) off the statement by which the dump's own 'gosem.cut.vars' lays the variable. In a bare row this is a premise. The card (YtpcpldaangchaaaGreatDoorCards.lean) ties it to the program's text. -/
def laid_math_bits_deBruijn64tab {H : Type} : DataW H := .agg [.lit (.int .u8 0), .lit (.int .u8 1), .lit (.int .u8 56), .lit (.int .u8 2), .lit (.int .u8 57), .lit (.int .u8 49), .lit (.int .u8 28), .lit (.int .u8 3), .lit (.int .u8 61), .lit (.int .u8 58), .lit (.int .u8 42), .lit (.int .u8 50), .lit (.int .u8 38), .lit (.int .u8 29), .lit (.int .u8 17), .lit (.int .u8 4), .lit (.int .u8 62), .lit (.int .u8 47), .lit (.int .u8 59), .lit (.int .u8 36), .lit (.int .u8 45), .lit (.int .u8 43), .lit (.int .u8 51), .lit (.int .u8 22), .lit (.int .u8 53), .lit (.int .u8 39), .lit (.int .u8 33), .lit (.int .u8 30), .lit (.int .u8 24), .lit (.int .u8 18), .lit (.int .u8 12), .lit (.int .u8 5), .lit (.int .u8 63), .lit (.int .u8 55), .lit (.int .u8 48), .lit (.int .u8 27), .lit (.int .u8 60), .lit (.int .u8 41), .lit (.int .u8 37), .lit (.int .u8 16), .lit (.int .u8 46), .lit (.int .u8 35), .lit (.int .u8 44), .lit (.int .u8 21), .lit (.int .u8 52), .lit (.int .u8 32), .lit (.int .u8 23), .lit (.int .u8 11), .lit (.int .u8 54), .lit (.int .u8 26), .lit (.int .u8 40), .lit (.int .u8 15), .lit (.int .u8 34), .lit (.int .u8 20), .lit (.int .u8 31), .lit (.int .u8 10), .lit (.int .u8 25), .lit (.int .u8 14), .lit (.int .u8 19), .lit (.int .u8 9), .lit (.int .u8 13), .lit (.int .u8 8), .lit (.int .u8 7), .lit (.int .u8 6)]

/-- 'withelaw20.CoheAll': WHATEVER THE INPUT: true; the input reads as it did. -/
def coheAllSpec : ChangeSpec := { name := "coheAll", fn := fun _ => fun
  | [d1, d2, d3, d4, d5, d6, d7, d8, d9] => { results := [.lit (.bool true)], args := [d1, d2, d3, d4, d5, d6, d7, d8, d9] }
  | _ => none }
def coheAllRow : OpenClaim := { program := "ytpcpldaangchaaagreatdoor", sum := "2e1e21912d591f3f4c37d0c453789fdc4340c0a4e9bb72f771f6d5b95e58825c", func := "withe/withelaw20.CoheAll", spec := "coheAll", unfollowed := true, recurses := true, named := ["math/bits.deBruijn64tab"], apart := false, laid := [("math/bits.deBruijn64tab", laid_math_bits_deBruijn64tab)] }
def CoheAllSaid : Prop := coheAllRow.holds Tryz.pinned (OpenSpec.ofChange coheAllSpec)

/-- ITS FALSE NEIGHBOUR: 'it returns false'. Refute it at one input. -/
def coheAllWrong : ChangeSpec := { name := "coheAll", fn := fun _ => fun
  | [d1, d2, d3, d4, d5, d6, d7, d8, d9] => { results := [.lit (.bool false)], args := [d1, d2, d3, d4, d5, d6, d7, d8, d9] }
  | _ => none }
def CoheAllWrongFalsely : Prop := coheAllRow.holds Tryz.pinned (OpenSpec.ofChange coheAllWrong)

/-- 'withelaw20.CoheExec': WHATEVER THE INPUT: true; the input reads as it did. -/
def coheExecSpec : ChangeSpec := { name := "coheExec", fn := fun _ => fun
  | [d1, d2, d3, d4, d5, d6, d7, d8] => { results := [.lit (.bool true)], args := [d1, d2, d3, d4, d5, d6, d7, d8] }
  | _ => none }
def coheExecRow : OpenClaim := { program := "ytpcpldaangchaaagreatdoor", sum := "2e1e21912d591f3f4c37d0c453789fdc4340c0a4e9bb72f771f6d5b95e58825c", func := "withe/withelaw20.CoheExec", spec := "coheExec", unfollowed := true, recurses := true, named := ["math/bits.deBruijn64tab"], apart := false, laid := [("math/bits.deBruijn64tab", laid_math_bits_deBruijn64tab)] }
def CoheExecSaid : Prop := coheExecRow.holds Tryz.pinned (OpenSpec.ofChange coheExecSpec)

/-- ITS FALSE NEIGHBOUR: 'it returns false'. Refute it at one input. -/
def coheExecWrong : ChangeSpec := { name := "coheExec", fn := fun _ => fun
  | [d1, d2, d3, d4, d5, d6, d7, d8] => { results := [.lit (.bool false)], args := [d1, d2, d3, d4, d5, d6, d7, d8] }
  | _ => none }
def CoheExecWrongFalsely : Prop := coheExecRow.holds Tryz.pinned (OpenSpec.ofChange coheExecWrong)

/-- 'withelaw20.CoheWalked': WHATEVER THE INPUT: true; the input reads as it did. -/
def coheWalkedSpec : ChangeSpec := { name := "coheWalked", fn := fun _ => fun
  | [d1, d2] => { results := [.lit (.bool true)], args := [d1, d2] }
  | _ => none }
def coheWalkedRow : OpenClaim := { program := "ytpcpldaangchaaagreatdoor", sum := "2e1e21912d591f3f4c37d0c453789fdc4340c0a4e9bb72f771f6d5b95e58825c", func := "withe/withelaw20.CoheWalked", spec := "coheWalked", unfollowed := true, recurses := true, named := ["math/bits.deBruijn64tab"], apart := false, laid := [("math/bits.deBruijn64tab", laid_math_bits_deBruijn64tab)] }
def CoheWalkedSaid : Prop := coheWalkedRow.holds Tryz.pinned (OpenSpec.ofChange coheWalkedSpec)

/-- ITS FALSE NEIGHBOUR: 'it returns false'. Refute it at one input. -/
def coheWalkedWrong : ChangeSpec := { name := "coheWalked", fn := fun _ => fun
  | [d1, d2] => { results := [.lit (.bool false)], args := [d1, d2] }
  | _ => none }
def CoheWalkedWrongFalsely : Prop := coheWalkedRow.holds Tryz.pinned (OpenSpec.ofChange coheWalkedWrong)

/-- 'withelaw20.CoheLess': WHATEVER THE INPUT: true; the input reads as it did. -/
def coheLessSpec : ChangeSpec := { name := "coheLess", fn := fun _ => fun
  | [d1, d2] => { results := [.lit (.bool true)], args := [d1, d2] }
  | _ => none }
def coheLessRow : OpenClaim := { program := "ytpcpldaangchaaagreatdoor", sum := "2e1e21912d591f3f4c37d0c453789fdc4340c0a4e9bb72f771f6d5b95e58825c", func := "withe/withelaw20.CoheLess", spec := "coheLess", unfollowed := true, recurses := true, named := ["math/bits.deBruijn64tab"], apart := false, laid := [("math/bits.deBruijn64tab", laid_math_bits_deBruijn64tab)] }
def CoheLessSaid : Prop := coheLessRow.holds Tryz.pinned (OpenSpec.ofChange coheLessSpec)

/-- ITS FALSE NEIGHBOUR: 'it returns false'. Refute it at one input. -/
def coheLessWrong : ChangeSpec := { name := "coheLess", fn := fun _ => fun
  | [d1, d2] => { results := [.lit (.bool false)], args := [d1, d2] }
  | _ => none }
def CoheLessWrongFalsely : Prop := coheLessRow.holds Tryz.pinned (OpenSpec.ofChange coheLessWrong)

/-- 'withelaw19.SeenNone': WHATEVER THE INPUT: true; the input reads as it did. -/
def seenNoneSpec : ChangeSpec := { name := "seenNone", fn := fun _ => fun
  | [d1, d2, d3] => { results := [.lit (.bool true)], args := [d1, d2, d3] }
  | _ => none }
def seenNoneRow : OpenClaim := { program := "ytpcpldaangchaaagreatdoor", sum := "2e1e21912d591f3f4c37d0c453789fdc4340c0a4e9bb72f771f6d5b95e58825c", func := "withe/withelaw19.SeenNone", spec := "seenNone", unfollowed := true, recurses := true, named := ["math/bits.deBruijn64tab"], apart := false, laid := [("math/bits.deBruijn64tab", laid_math_bits_deBruijn64tab)] }
def SeenNoneSaid : Prop := seenNoneRow.holds Tryz.pinned (OpenSpec.ofChange seenNoneSpec)

/-- ITS FALSE NEIGHBOUR: 'it returns false'. Refute it at one input. -/
def seenNoneWrong : ChangeSpec := { name := "seenNone", fn := fun _ => fun
  | [d1, d2, d3] => { results := [.lit (.bool false)], args := [d1, d2, d3] }
  | _ => none }
def SeenNoneWrongFalsely : Prop := seenNoneRow.holds Tryz.pinned (OpenSpec.ofChange seenNoneWrong)

/-- 'withelaw17.ShapeAny': WHATEVER THE INPUT: true; the input reads as it did. -/
def shapeAnySpec : ChangeSpec := { name := "shapeAny", fn := fun _ => fun
  | [d1, d2, d3, d4, d5] => { results := [.lit (.bool true)], args := [d1, d2, d3, d4, d5] }
  | _ => none }
def shapeAnyRow : OpenClaim := { program := "ytpcpldaangchaaagreatdoor", sum := "2e1e21912d591f3f4c37d0c453789fdc4340c0a4e9bb72f771f6d5b95e58825c", func := "withe/withelaw17.ShapeAny", spec := "shapeAny", inPlace := ["slices.overlaps[[]int]", "slices.overlaps[int]"], unfollowed := true, recurses := true, named := ["math/bits.deBruijn64tab"], apart := false, laid := [("math/bits.deBruijn64tab", laid_math_bits_deBruijn64tab)] }
def ShapeAnySaid : Prop := shapeAnyRow.holds Tryz.pinned (OpenSpec.ofChange shapeAnySpec)

/-- ITS FALSE NEIGHBOUR: 'it returns false'. Refute it at one input. -/
def shapeAnyWrong : ChangeSpec := { name := "shapeAny", fn := fun _ => fun
  | [d1, d2, d3, d4, d5] => { results := [.lit (.bool false)], args := [d1, d2, d3, d4, d5] }
  | _ => none }
def ShapeAnyWrongFalsely : Prop := shapeAnyRow.holds Tryz.pinned (OpenSpec.ofChange shapeAnyWrong)

/- THE SECOND FORM. 'bulk': how many values and letters a reading holds, each counted each time it is reached (what is shared counts as often as it is met; a slice's spare places count too). A statement '..UptoSaid' is the law's where the arguments, and the package variables that the reading takes, are together of bulk at most 1048576: NARROWER than '..Said'. Prove '..Said' where nothing that the law and all that it calls make is longer than what came in: it says more and counts as full. Else prove '..UptoSaid'. A law counts once. -/
mutual
def uptoBulk {H : Type} : DataW H → Nat
  | .lit (.string bytes) => bytes.length + 1
  | .lit _ => 1
  | .nil => 1
  | .ptr d => uptoBulk d + 1
  | .slice elems spare => uptoBulkAll elems + uptoBulkAll spare + 1
  | .agg parts => uptoBulkAll parts + 1
  | .iface _ d => uptoBulk d + 1
  | .map entries => uptoBulkEntries entries + 1
  | .held _ => 1
def uptoBulkAll {H : Type} : List (DataW H) → Nat
  | [] => 0
  | d :: r => uptoBulk d + uptoBulkAll r
def uptoBulkEntries {H : Type} : List (Lit × DataW H) → Nat
  | [] => 0
  | x :: r => uptoBulkEntry x + uptoBulkEntries r
def uptoBulkEntry {H : Type} : Lit × DataW H → Nat
  | (.string bytes, d) => bytes.length + uptoBulk d + 1
  | (_, d) => uptoBulk d + 1
 end
def uptoSmall : (H : Type) → List (DataW H) → Bool := fun _ ds => decide (uptoBulkAll ds ≤ 1048576)
def OpenSpec.upto (s : _root_.Go.ChangeSpec) : _root_.Go.OpenSpec := { _root_.Go.OpenSpec.ofChange s with cond := some uptoSmall }

/-- 'withelaw20.CoheAll', WHERE WHAT IT READS IS OF BULK AT MOST 1048576: true; the input reads as it did. -/
def coheAllUptoRow : OpenClaim := { program := "ytpcpldaangchaaagreatdoor", sum := "2e1e21912d591f3f4c37d0c453789fdc4340c0a4e9bb72f771f6d5b95e58825c", func := "withe/withelaw20.CoheAll", spec := "coheAll", unfollowed := true, recurses := true, named := ["math/bits.deBruijn64tab"], apart := false, laid := [("math/bits.deBruijn64tab", laid_math_bits_deBruijn64tab)], narrowed := true }
def CoheAllUptoSaid : Prop := coheAllUptoRow.holds Tryz.pinned (OpenSpec.upto coheAllSpec)

/-- 'withelaw20.CoheExec', WHERE WHAT IT READS IS OF BULK AT MOST 1048576: true; the input reads as it did. -/
def coheExecUptoRow : OpenClaim := { program := "ytpcpldaangchaaagreatdoor", sum := "2e1e21912d591f3f4c37d0c453789fdc4340c0a4e9bb72f771f6d5b95e58825c", func := "withe/withelaw20.CoheExec", spec := "coheExec", unfollowed := true, recurses := true, named := ["math/bits.deBruijn64tab"], apart := false, laid := [("math/bits.deBruijn64tab", laid_math_bits_deBruijn64tab)], narrowed := true }
def CoheExecUptoSaid : Prop := coheExecUptoRow.holds Tryz.pinned (OpenSpec.upto coheExecSpec)

/-- 'withelaw20.CoheWalked', WHERE WHAT IT READS IS OF BULK AT MOST 1048576: true; the input reads as it did. -/
def coheWalkedUptoRow : OpenClaim := { program := "ytpcpldaangchaaagreatdoor", sum := "2e1e21912d591f3f4c37d0c453789fdc4340c0a4e9bb72f771f6d5b95e58825c", func := "withe/withelaw20.CoheWalked", spec := "coheWalked", unfollowed := true, recurses := true, named := ["math/bits.deBruijn64tab"], apart := false, laid := [("math/bits.deBruijn64tab", laid_math_bits_deBruijn64tab)], narrowed := true }
def CoheWalkedUptoSaid : Prop := coheWalkedUptoRow.holds Tryz.pinned (OpenSpec.upto coheWalkedSpec)

/-- 'withelaw20.CoheLess', WHERE WHAT IT READS IS OF BULK AT MOST 1048576: true; the input reads as it did. -/
def coheLessUptoRow : OpenClaim := { program := "ytpcpldaangchaaagreatdoor", sum := "2e1e21912d591f3f4c37d0c453789fdc4340c0a4e9bb72f771f6d5b95e58825c", func := "withe/withelaw20.CoheLess", spec := "coheLess", unfollowed := true, recurses := true, named := ["math/bits.deBruijn64tab"], apart := false, laid := [("math/bits.deBruijn64tab", laid_math_bits_deBruijn64tab)], narrowed := true }
def CoheLessUptoSaid : Prop := coheLessUptoRow.holds Tryz.pinned (OpenSpec.upto coheLessSpec)

/-- 'withelaw19.SeenNone', WHERE WHAT IT READS IS OF BULK AT MOST 1048576: true; the input reads as it did. -/
def seenNoneUptoRow : OpenClaim := { program := "ytpcpldaangchaaagreatdoor", sum := "2e1e21912d591f3f4c37d0c453789fdc4340c0a4e9bb72f771f6d5b95e58825c", func := "withe/withelaw19.SeenNone", spec := "seenNone", unfollowed := true, recurses := true, named := ["math/bits.deBruijn64tab"], apart := false, laid := [("math/bits.deBruijn64tab", laid_math_bits_deBruijn64tab)], narrowed := true }
def SeenNoneUptoSaid : Prop := seenNoneUptoRow.holds Tryz.pinned (OpenSpec.upto seenNoneSpec)

/-- 'withelaw17.ShapeAny', WHERE WHAT IT READS IS OF BULK AT MOST 1048576: true; the input reads as it did. -/
def shapeAnyUptoRow : OpenClaim := { program := "ytpcpldaangchaaagreatdoor", sum := "2e1e21912d591f3f4c37d0c453789fdc4340c0a4e9bb72f771f6d5b95e58825c", func := "withe/withelaw17.ShapeAny", spec := "shapeAny", inPlace := ["slices.overlaps[[]int]", "slices.overlaps[int]"], unfollowed := true, recurses := true, named := ["math/bits.deBruijn64tab"], apart := false, laid := [("math/bits.deBruijn64tab", laid_math_bits_deBruijn64tab)], narrowed := true }
def ShapeAnyUptoSaid : Prop := shapeAnyUptoRow.holds Tryz.pinned (OpenSpec.upto shapeAnySpec)

end Rows
end Go.Proofs.YtpcpldaangchaaaGreatDoor
