/-
  NARROWER THAN 'FOR EVERY INPUT', by the rows' own cells (each row's printed sentence says how): SeenAll: laid · SeenLasts: laid · SeenConflict: laid · SeenCalm: laid · ConfAll: laid · ConfWalked: laid · ConfLasts: laid · ConfFree: laid · WholeAll: laid · WholeWalked: laid · WholeStays: laid · WholeRows: laid.
  DERIVED. THE GIVEN ROWS OF THIS SEAT. 12 by the template 'for every input the law returns true; each argument reads behind the call as it read before'; 0 by the template 'total and deterministic' (their statements: YthhlhddnndlhkaaGreatDoorTotals.lean).
  GIVEN WITH THE SEED: the statements are not yours to turn. If you find one false, say at which input.
  Laid BY PROGRAM, IN A SANDBOX (cutbox-rows.mjs): the forced cells as the released guide's own fill.sh prints them over the translation 7fdbe73bd476127a… (all of the seat's roots in one cut). By AI agents, Wed Nov 11 2026. No macro, syntax, notation, axiom, sorry.
-/
import Derived.Test.YthhlhddnndlhkaaGreatDoorChecked
import GoSem.Claim
import GoSem.ClaimJoined
import GoSem.ClaimMapViews
import Derived.JoinedTies
import Derived.KernelRfl
namespace Go.Proofs.YthhlhddnndlhkaaGreatDoor
/- THE CELL 'sum', in the pinned program and in every row, IS THE sha256 OF THE DUMP (.gsa) THAT YthhlhddnndlhkaaGreatDoorProg.lean LOADS. Nothing in Lean hashes anything: it is a label: what it is worth is what the hold of that sum in a sandbox is worth. -/
noncomputable def Tryz.pinned : Pinned := { name := "ythhlhddnndlhkaagreatdoor", sum := "7fdbe73bd476127aab1961a2df785ded938eb1fcc48c5099200cf93d86606d0e", checked := Tryz.checked }
namespace Rows
def none {H : Type} : Left H := { results := [], args := [] }

/- WHAT THE LISTED PACKAGE-LEVEL VARIABLES READ AS WHEN THE CALL BEGINS. Each datum BY PROGRAM (the guide's laid-datum.mjs) off the statement by which the dump's own 'gosem.cut.vars' lays the variable. In a bare row this is a premise. The card (YthhlhddnndlhkaaGreatDoorCards.lean) ties it to the program's text. -/
def laid_math_bits_deBruijn64tab {H : Type} : DataW H := .agg [.lit (.int .u8 0), .lit (.int .u8 1), .lit (.int .u8 56), .lit (.int .u8 2), .lit (.int .u8 57), .lit (.int .u8 49), .lit (.int .u8 28), .lit (.int .u8 3), .lit (.int .u8 61), .lit (.int .u8 58), .lit (.int .u8 42), .lit (.int .u8 50), .lit (.int .u8 38), .lit (.int .u8 29), .lit (.int .u8 17), .lit (.int .u8 4), .lit (.int .u8 62), .lit (.int .u8 47), .lit (.int .u8 59), .lit (.int .u8 36), .lit (.int .u8 45), .lit (.int .u8 43), .lit (.int .u8 51), .lit (.int .u8 22), .lit (.int .u8 53), .lit (.int .u8 39), .lit (.int .u8 33), .lit (.int .u8 30), .lit (.int .u8 24), .lit (.int .u8 18), .lit (.int .u8 12), .lit (.int .u8 5), .lit (.int .u8 63), .lit (.int .u8 55), .lit (.int .u8 48), .lit (.int .u8 27), .lit (.int .u8 60), .lit (.int .u8 41), .lit (.int .u8 37), .lit (.int .u8 16), .lit (.int .u8 46), .lit (.int .u8 35), .lit (.int .u8 44), .lit (.int .u8 21), .lit (.int .u8 52), .lit (.int .u8 32), .lit (.int .u8 23), .lit (.int .u8 11), .lit (.int .u8 54), .lit (.int .u8 26), .lit (.int .u8 40), .lit (.int .u8 15), .lit (.int .u8 34), .lit (.int .u8 20), .lit (.int .u8 31), .lit (.int .u8 10), .lit (.int .u8 25), .lit (.int .u8 14), .lit (.int .u8 19), .lit (.int .u8 9), .lit (.int .u8 13), .lit (.int .u8 8), .lit (.int .u8 7), .lit (.int .u8 6)]

/-- 'withelaw19.SeenAll': WHATEVER THE INPUT: true; the input reads as it did. -/
def seenAllSpec : ChangeSpec := { name := "seenAll", fn := fun _ => fun
  | [d1, d2, d3, d4] => { results := [.lit (.bool true)], args := [d1, d2, d3, d4] }
  | _ => none }
def seenAllRow : OpenClaim := { program := "ythhlhddnndlhkaagreatdoor", sum := "7fdbe73bd476127aab1961a2df785ded938eb1fcc48c5099200cf93d86606d0e", func := "withe/withelaw19.SeenAll", spec := "seenAll", unfollowed := true, recurses := true, named := ["math/bits.deBruijn64tab"], apart := false, laid := [("math/bits.deBruijn64tab", laid_math_bits_deBruijn64tab)] }
def SeenAllSaid : Prop := seenAllRow.holds Tryz.pinned (OpenSpec.ofChange seenAllSpec)

/-- ITS FALSE NEIGHBOUR: 'it returns false'. Refute it at one input. -/
def seenAllWrong : ChangeSpec := { name := "seenAll", fn := fun _ => fun
  | [d1, d2, d3, d4] => { results := [.lit (.bool false)], args := [d1, d2, d3, d4] }
  | _ => none }
def SeenAllWrongFalsely : Prop := seenAllRow.holds Tryz.pinned (OpenSpec.ofChange seenAllWrong)

/-- 'withelaw19.SeenLasts': WHATEVER THE INPUT: true; the input reads as it did. -/
def seenLastsSpec : ChangeSpec := { name := "seenLasts", fn := fun _ => fun
  | [d1, d2, d3] => { results := [.lit (.bool true)], args := [d1, d2, d3] }
  | _ => none }
def seenLastsRow : OpenClaim := { program := "ythhlhddnndlhkaagreatdoor", sum := "7fdbe73bd476127aab1961a2df785ded938eb1fcc48c5099200cf93d86606d0e", func := "withe/withelaw19.SeenLasts", spec := "seenLasts", unfollowed := true, recurses := true, named := ["math/bits.deBruijn64tab"], apart := false, laid := [("math/bits.deBruijn64tab", laid_math_bits_deBruijn64tab)] }
def SeenLastsSaid : Prop := seenLastsRow.holds Tryz.pinned (OpenSpec.ofChange seenLastsSpec)

/-- ITS FALSE NEIGHBOUR: 'it returns false'. Refute it at one input. -/
def seenLastsWrong : ChangeSpec := { name := "seenLasts", fn := fun _ => fun
  | [d1, d2, d3] => { results := [.lit (.bool false)], args := [d1, d2, d3] }
  | _ => none }
def SeenLastsWrongFalsely : Prop := seenLastsRow.holds Tryz.pinned (OpenSpec.ofChange seenLastsWrong)

/-- 'withelaw19.SeenConflict': WHATEVER THE INPUT: true; the input reads as it did. -/
def seenConflictSpec : ChangeSpec := { name := "seenConflict", fn := fun _ => fun
  | [d1, d2] => { results := [.lit (.bool true)], args := [d1, d2] }
  | _ => none }
def seenConflictRow : OpenClaim := { program := "ythhlhddnndlhkaagreatdoor", sum := "7fdbe73bd476127aab1961a2df785ded938eb1fcc48c5099200cf93d86606d0e", func := "withe/withelaw19.SeenConflict", spec := "seenConflict", unfollowed := true, recurses := true, named := ["math/bits.deBruijn64tab"], apart := false, laid := [("math/bits.deBruijn64tab", laid_math_bits_deBruijn64tab)] }
def SeenConflictSaid : Prop := seenConflictRow.holds Tryz.pinned (OpenSpec.ofChange seenConflictSpec)

/-- ITS FALSE NEIGHBOUR: 'it returns false'. Refute it at one input. -/
def seenConflictWrong : ChangeSpec := { name := "seenConflict", fn := fun _ => fun
  | [d1, d2] => { results := [.lit (.bool false)], args := [d1, d2] }
  | _ => none }
def SeenConflictWrongFalsely : Prop := seenConflictRow.holds Tryz.pinned (OpenSpec.ofChange seenConflictWrong)

/-- 'withelaw19.SeenCalm': WHATEVER THE INPUT: true; the input reads as it did. -/
def seenCalmSpec : ChangeSpec := { name := "seenCalm", fn := fun _ => fun
  | [d1, d2] => { results := [.lit (.bool true)], args := [d1, d2] }
  | _ => none }
def seenCalmRow : OpenClaim := { program := "ythhlhddnndlhkaagreatdoor", sum := "7fdbe73bd476127aab1961a2df785ded938eb1fcc48c5099200cf93d86606d0e", func := "withe/withelaw19.SeenCalm", spec := "seenCalm", unfollowed := true, recurses := true, named := ["math/bits.deBruijn64tab"], apart := false, laid := [("math/bits.deBruijn64tab", laid_math_bits_deBruijn64tab)] }
def SeenCalmSaid : Prop := seenCalmRow.holds Tryz.pinned (OpenSpec.ofChange seenCalmSpec)

/-- ITS FALSE NEIGHBOUR: 'it returns false'. Refute it at one input. -/
def seenCalmWrong : ChangeSpec := { name := "seenCalm", fn := fun _ => fun
  | [d1, d2] => { results := [.lit (.bool false)], args := [d1, d2] }
  | _ => none }
def SeenCalmWrongFalsely : Prop := seenCalmRow.holds Tryz.pinned (OpenSpec.ofChange seenCalmWrong)

/-- 'withelaw26.ConfAll': WHATEVER THE INPUT: true; the input reads as it did. -/
def confAllSpec : ChangeSpec := { name := "confAll", fn := fun _ => fun
  | [d1, d2, d3, d4] => { results := [.lit (.bool true)], args := [d1, d2, d3, d4] }
  | _ => none }
def confAllRow : OpenClaim := { program := "ythhlhddnndlhkaagreatdoor", sum := "7fdbe73bd476127aab1961a2df785ded938eb1fcc48c5099200cf93d86606d0e", func := "withe/withelaw26.ConfAll", spec := "confAll", unfollowed := true, recurses := true, named := ["math/bits.deBruijn64tab"], apart := false, laid := [("math/bits.deBruijn64tab", laid_math_bits_deBruijn64tab)] }
def ConfAllSaid : Prop := confAllRow.holds Tryz.pinned (OpenSpec.ofChange confAllSpec)

/-- ITS FALSE NEIGHBOUR: 'it returns false'. Refute it at one input. -/
def confAllWrong : ChangeSpec := { name := "confAll", fn := fun _ => fun
  | [d1, d2, d3, d4] => { results := [.lit (.bool false)], args := [d1, d2, d3, d4] }
  | _ => none }
def ConfAllWrongFalsely : Prop := confAllRow.holds Tryz.pinned (OpenSpec.ofChange confAllWrong)

/-- 'withelaw26.ConfWalked': WHATEVER THE INPUT: true; the input reads as it did. -/
def confWalkedSpec : ChangeSpec := { name := "confWalked", fn := fun _ => fun
  | [d1, d2] => { results := [.lit (.bool true)], args := [d1, d2] }
  | _ => none }
def confWalkedRow : OpenClaim := { program := "ythhlhddnndlhkaagreatdoor", sum := "7fdbe73bd476127aab1961a2df785ded938eb1fcc48c5099200cf93d86606d0e", func := "withe/withelaw26.ConfWalked", spec := "confWalked", unfollowed := true, recurses := true, named := ["math/bits.deBruijn64tab"], apart := false, laid := [("math/bits.deBruijn64tab", laid_math_bits_deBruijn64tab)] }
def ConfWalkedSaid : Prop := confWalkedRow.holds Tryz.pinned (OpenSpec.ofChange confWalkedSpec)

/-- ITS FALSE NEIGHBOUR: 'it returns false'. Refute it at one input. -/
def confWalkedWrong : ChangeSpec := { name := "confWalked", fn := fun _ => fun
  | [d1, d2] => { results := [.lit (.bool false)], args := [d1, d2] }
  | _ => none }
def ConfWalkedWrongFalsely : Prop := confWalkedRow.holds Tryz.pinned (OpenSpec.ofChange confWalkedWrong)

/-- 'withelaw26.ConfLasts': WHATEVER THE INPUT: true; the input reads as it did. -/
def confLastsSpec : ChangeSpec := { name := "confLasts", fn := fun _ => fun
  | [d1, d2, d3] => { results := [.lit (.bool true)], args := [d1, d2, d3] }
  | _ => none }
def confLastsRow : OpenClaim := { program := "ythhlhddnndlhkaagreatdoor", sum := "7fdbe73bd476127aab1961a2df785ded938eb1fcc48c5099200cf93d86606d0e", func := "withe/withelaw26.ConfLasts", spec := "confLasts", unfollowed := true, recurses := true, named := ["math/bits.deBruijn64tab"], apart := false, laid := [("math/bits.deBruijn64tab", laid_math_bits_deBruijn64tab)] }
def ConfLastsSaid : Prop := confLastsRow.holds Tryz.pinned (OpenSpec.ofChange confLastsSpec)

/-- ITS FALSE NEIGHBOUR: 'it returns false'. Refute it at one input. -/
def confLastsWrong : ChangeSpec := { name := "confLasts", fn := fun _ => fun
  | [d1, d2, d3] => { results := [.lit (.bool false)], args := [d1, d2, d3] }
  | _ => none }
def ConfLastsWrongFalsely : Prop := confLastsRow.holds Tryz.pinned (OpenSpec.ofChange confLastsWrong)

/-- 'withelaw26.ConfFree': WHATEVER THE INPUT: true; the input reads as it did. -/
def confFreeSpec : ChangeSpec := { name := "confFree", fn := fun _ => fun
  | [d1, d2] => { results := [.lit (.bool true)], args := [d1, d2] }
  | _ => none }
def confFreeRow : OpenClaim := { program := "ythhlhddnndlhkaagreatdoor", sum := "7fdbe73bd476127aab1961a2df785ded938eb1fcc48c5099200cf93d86606d0e", func := "withe/withelaw26.ConfFree", spec := "confFree", unfollowed := true, recurses := true, named := ["math/bits.deBruijn64tab"], apart := false, laid := [("math/bits.deBruijn64tab", laid_math_bits_deBruijn64tab)] }
def ConfFreeSaid : Prop := confFreeRow.holds Tryz.pinned (OpenSpec.ofChange confFreeSpec)

/-- ITS FALSE NEIGHBOUR: 'it returns false'. Refute it at one input. -/
def confFreeWrong : ChangeSpec := { name := "confFree", fn := fun _ => fun
  | [d1, d2] => { results := [.lit (.bool false)], args := [d1, d2] }
  | _ => none }
def ConfFreeWrongFalsely : Prop := confFreeRow.holds Tryz.pinned (OpenSpec.ofChange confFreeWrong)

/-- 'withelaw21.WholeAll': WHATEVER THE INPUT: true; the input reads as it did. -/
def wholeAllSpec : ChangeSpec := { name := "wholeAll", fn := fun _ => fun
  | [d1, d2, d3, d4, d5, d6] => { results := [.lit (.bool true)], args := [d1, d2, d3, d4, d5, d6] }
  | _ => none }
def wholeAllRow : OpenClaim := { program := "ythhlhddnndlhkaagreatdoor", sum := "7fdbe73bd476127aab1961a2df785ded938eb1fcc48c5099200cf93d86606d0e", func := "withe/withelaw21.WholeAll", spec := "wholeAll", unfollowed := true, recurses := true, named := ["math/bits.deBruijn64tab"], apart := false, laid := [("math/bits.deBruijn64tab", laid_math_bits_deBruijn64tab)] }
def WholeAllSaid : Prop := wholeAllRow.holds Tryz.pinned (OpenSpec.ofChange wholeAllSpec)

/-- ITS FALSE NEIGHBOUR: 'it returns false'. Refute it at one input. -/
def wholeAllWrong : ChangeSpec := { name := "wholeAll", fn := fun _ => fun
  | [d1, d2, d3, d4, d5, d6] => { results := [.lit (.bool false)], args := [d1, d2, d3, d4, d5, d6] }
  | _ => none }
def WholeAllWrongFalsely : Prop := wholeAllRow.holds Tryz.pinned (OpenSpec.ofChange wholeAllWrong)

/-- 'withelaw21.WholeWalked': WHATEVER THE INPUT: true; the input reads as it did. -/
def wholeWalkedSpec : ChangeSpec := { name := "wholeWalked", fn := fun _ => fun
  | [d1, d2] => { results := [.lit (.bool true)], args := [d1, d2] }
  | _ => none }
def wholeWalkedRow : OpenClaim := { program := "ythhlhddnndlhkaagreatdoor", sum := "7fdbe73bd476127aab1961a2df785ded938eb1fcc48c5099200cf93d86606d0e", func := "withe/withelaw21.WholeWalked", spec := "wholeWalked", unfollowed := true, recurses := true, named := ["math/bits.deBruijn64tab"], apart := false, laid := [("math/bits.deBruijn64tab", laid_math_bits_deBruijn64tab)] }
def WholeWalkedSaid : Prop := wholeWalkedRow.holds Tryz.pinned (OpenSpec.ofChange wholeWalkedSpec)

/-- ITS FALSE NEIGHBOUR: 'it returns false'. Refute it at one input. -/
def wholeWalkedWrong : ChangeSpec := { name := "wholeWalked", fn := fun _ => fun
  | [d1, d2] => { results := [.lit (.bool false)], args := [d1, d2] }
  | _ => none }
def WholeWalkedWrongFalsely : Prop := wholeWalkedRow.holds Tryz.pinned (OpenSpec.ofChange wholeWalkedWrong)

/-- 'withelaw21.WholeStays': WHATEVER THE INPUT: true; the input reads as it did. -/
def wholeStaysSpec : ChangeSpec := { name := "wholeStays", fn := fun _ => fun
  | [d1, d2, d3] => { results := [.lit (.bool true)], args := [d1, d2, d3] }
  | _ => none }
def wholeStaysRow : OpenClaim := { program := "ythhlhddnndlhkaagreatdoor", sum := "7fdbe73bd476127aab1961a2df785ded938eb1fcc48c5099200cf93d86606d0e", func := "withe/withelaw21.WholeStays", spec := "wholeStays", unfollowed := true, recurses := true, named := ["math/bits.deBruijn64tab"], apart := false, laid := [("math/bits.deBruijn64tab", laid_math_bits_deBruijn64tab)] }
def WholeStaysSaid : Prop := wholeStaysRow.holds Tryz.pinned (OpenSpec.ofChange wholeStaysSpec)

/-- ITS FALSE NEIGHBOUR: 'it returns false'. Refute it at one input. -/
def wholeStaysWrong : ChangeSpec := { name := "wholeStays", fn := fun _ => fun
  | [d1, d2, d3] => { results := [.lit (.bool false)], args := [d1, d2, d3] }
  | _ => none }
def WholeStaysWrongFalsely : Prop := wholeStaysRow.holds Tryz.pinned (OpenSpec.ofChange wholeStaysWrong)

/-- 'withelaw21.WholeRows': WHATEVER THE INPUT: true; the input reads as it did. -/
def wholeRowsSpec : ChangeSpec := { name := "wholeRows", fn := fun _ => fun
  | [d1, d2] => { results := [.lit (.bool true)], args := [d1, d2] }
  | _ => none }
def wholeRowsRow : OpenClaim := { program := "ythhlhddnndlhkaagreatdoor", sum := "7fdbe73bd476127aab1961a2df785ded938eb1fcc48c5099200cf93d86606d0e", func := "withe/withelaw21.WholeRows", spec := "wholeRows", unfollowed := true, recurses := true, named := ["math/bits.deBruijn64tab"], apart := false, laid := [("math/bits.deBruijn64tab", laid_math_bits_deBruijn64tab)] }
def WholeRowsSaid : Prop := wholeRowsRow.holds Tryz.pinned (OpenSpec.ofChange wholeRowsSpec)

/-- ITS FALSE NEIGHBOUR: 'it returns false'. Refute it at one input. -/
def wholeRowsWrong : ChangeSpec := { name := "wholeRows", fn := fun _ => fun
  | [d1, d2] => { results := [.lit (.bool false)], args := [d1, d2] }
  | _ => none }
def WholeRowsWrongFalsely : Prop := wholeRowsRow.holds Tryz.pinned (OpenSpec.ofChange wholeRowsWrong)

/- THE SECOND FORM. 'bulk': how many values and letters a reading holds, each counted each time it is reached (what is shared counts as often as it is met; a slice's spare places count too). A statement '..UptoSaid' is the law's where the arguments, and the package variables that the reading takes, are together of bulk at most 1048576: NARROWER than '..Said'. Prove '..Said' where nothing that the law and all that it calls make is longer than what came in: it says more and counts as full. Else prove '..UptoSaid'. A law counts once. -/
mutual
def uptoBulk {H : Type} : DataW H → Nat
  | .lit (.string bytes) => bytes.length + 1
  | .lit _ => 1
  | .nil => 1
  | .ptr d => uptoBulk d + 1
  | .slice elems spare => uptoBulkAll elems + uptoBulkAll spare + 1
  | .agg parts => uptoBulkAll parts + 1
  | .iface _ d => uptoBulk d + 1
  | .map entries => uptoBulkEntries entries + 1
  | .held _ => 1
def uptoBulkAll {H : Type} : List (DataW H) → Nat
  | [] => 0
  | d :: r => uptoBulk d + uptoBulkAll r
def uptoBulkEntries {H : Type} : List (Lit × DataW H) → Nat
  | [] => 0
  | x :: r => uptoBulkEntry x + uptoBulkEntries r
def uptoBulkEntry {H : Type} : Lit × DataW H → Nat
  | (.string bytes, d) => bytes.length + uptoBulk d + 1
  | (_, d) => uptoBulk d + 1
 end
def uptoSmall : (H : Type) → List (DataW H) → Bool := fun _ ds => decide (uptoBulkAll ds ≤ 1048576)
def OpenSpec.upto (s : _root_.Go.ChangeSpec) : _root_.Go.OpenSpec := { _root_.Go.OpenSpec.ofChange s with cond := some uptoSmall }

/-- 'withelaw19.SeenAll', WHERE WHAT IT READS IS OF BULK AT MOST 1048576: true; the input reads as it did. -/
def seenAllUptoRow : OpenClaim := { program := "ythhlhddnndlhkaagreatdoor", sum := "7fdbe73bd476127aab1961a2df785ded938eb1fcc48c5099200cf93d86606d0e", func := "withe/withelaw19.SeenAll", spec := "seenAll", unfollowed := true, recurses := true, named := ["math/bits.deBruijn64tab"], apart := false, laid := [("math/bits.deBruijn64tab", laid_math_bits_deBruijn64tab)], narrowed := true }
def SeenAllUptoSaid : Prop := seenAllUptoRow.holds Tryz.pinned (OpenSpec.upto seenAllSpec)

/-- 'withelaw19.SeenLasts', WHERE WHAT IT READS IS OF BULK AT MOST 1048576: true; the input reads as it did. -/
def seenLastsUptoRow : OpenClaim := { program := "ythhlhddnndlhkaagreatdoor", sum := "7fdbe73bd476127aab1961a2df785ded938eb1fcc48c5099200cf93d86606d0e", func := "withe/withelaw19.SeenLasts", spec := "seenLasts", unfollowed := true, recurses := true, named := ["math/bits.deBruijn64tab"], apart := false, laid := [("math/bits.deBruijn64tab", laid_math_bits_deBruijn64tab)], narrowed := true }
def SeenLastsUptoSaid : Prop := seenLastsUptoRow.holds Tryz.pinned (OpenSpec.upto seenLastsSpec)

/-- 'withelaw19.SeenConflict', WHERE WHAT IT READS IS OF BULK AT MOST 1048576: true; the input reads as it did. -/
def seenConflictUptoRow : OpenClaim := { program := "ythhlhddnndlhkaagreatdoor", sum := "7fdbe73bd476127aab1961a2df785ded938eb1fcc48c5099200cf93d86606d0e", func := "withe/withelaw19.SeenConflict", spec := "seenConflict", unfollowed := true, recurses := true, named := ["math/bits.deBruijn64tab"], apart := false, laid := [("math/bits.deBruijn64tab", laid_math_bits_deBruijn64tab)], narrowed := true }
def SeenConflictUptoSaid : Prop := seenConflictUptoRow.holds Tryz.pinned (OpenSpec.upto seenConflictSpec)

/-- 'withelaw19.SeenCalm', WHERE WHAT IT READS IS OF BULK AT MOST 1048576: true; the input reads as it did. -/
def seenCalmUptoRow : OpenClaim := { program := "ythhlhddnndlhkaagreatdoor", sum := "7fdbe73bd476127aab1961a2df785ded938eb1fcc48c5099200cf93d86606d0e", func := "withe/withelaw19.SeenCalm", spec := "seenCalm", unfollowed := true, recurses := true, named := ["math/bits.deBruijn64tab"], apart := false, laid := [("math/bits.deBruijn64tab", laid_math_bits_deBruijn64tab)], narrowed := true }
def SeenCalmUptoSaid : Prop := seenCalmUptoRow.holds Tryz.pinned (OpenSpec.upto seenCalmSpec)

/-- 'withelaw26.ConfAll', WHERE WHAT IT READS IS OF BULK AT MOST 1048576: true; the input reads as it did. -/
def confAllUptoRow : OpenClaim := { program := "ythhlhddnndlhkaagreatdoor", sum := "7fdbe73bd476127aab1961a2df785ded938eb1fcc48c5099200cf93d86606d0e", func := "withe/withelaw26.ConfAll", spec := "confAll", unfollowed := true, recurses := true, named := ["math/bits.deBruijn64tab"], apart := false, laid := [("math/bits.deBruijn64tab", laid_math_bits_deBruijn64tab)], narrowed := true }
def ConfAllUptoSaid : Prop := confAllUptoRow.holds Tryz.pinned (OpenSpec.upto confAllSpec)

/-- 'withelaw26.ConfWalked', WHERE WHAT IT READS IS OF BULK AT MOST 1048576: true; the input reads as it did. -/
def confWalkedUptoRow : OpenClaim := { program := "ythhlhddnndlhkaagreatdoor", sum := "7fdbe73bd476127aab1961a2df785ded938eb1fcc48c5099200cf93d86606d0e", func := "withe/withelaw26.ConfWalked", spec := "confWalked", unfollowed := true, recurses := true, named := ["math/bits.deBruijn64tab"], apart := false, laid := [("math/bits.deBruijn64tab", laid_math_bits_deBruijn64tab)], narrowed := true }
def ConfWalkedUptoSaid : Prop := confWalkedUptoRow.holds Tryz.pinned (OpenSpec.upto confWalkedSpec)

/-- 'withelaw26.ConfLasts', WHERE WHAT IT READS IS OF BULK AT MOST 1048576: true; the input reads as it did. -/
def confLastsUptoRow : OpenClaim := { program := "ythhlhddnndlhkaagreatdoor", sum := "7fdbe73bd476127aab1961a2df785ded938eb1fcc48c5099200cf93d86606d0e", func := "withe/withelaw26.ConfLasts", spec := "confLasts", unfollowed := true, recurses := true, named := ["math/bits.deBruijn64tab"], apart := false, laid := [("math/bits.deBruijn64tab", laid_math_bits_deBruijn64tab)], narrowed := true }
def ConfLastsUptoSaid : Prop := confLastsUptoRow.holds Tryz.pinned (OpenSpec.upto confLastsSpec)

/-- 'withelaw26.ConfFree', WHERE WHAT IT READS IS OF BULK AT MOST 1048576: true; the input reads as it did. -/
def confFreeUptoRow : OpenClaim := { program := "ythhlhddnndlhkaagreatdoor", sum := "7fdbe73bd476127aab1961a2df785ded938eb1fcc48c5099200cf93d86606d0e", func := "withe/withelaw26.ConfFree", spec := "confFree", unfollowed := true, recurses := true, named := ["math/bits.deBruijn64tab"], apart := false, laid := [("math/bits.deBruijn64tab", laid_math_bits_deBruijn64tab)], narrowed := true }
def ConfFreeUptoSaid : Prop := confFreeUptoRow.holds Tryz.pinned (OpenSpec.upto confFreeSpec)

/-- 'withelaw21.WholeAll', WHERE WHAT IT READS IS OF BULK AT MOST 1048576: true; the input reads as it did. -/
def wholeAllUptoRow : OpenClaim := { program := "ythhlhddnndlhkaagreatdoor", sum := "7fdbe73bd476127aab1961a2df785ded938eb1fcc48c5099200cf93d86606d0e", func := "withe/withelaw21.WholeAll", spec := "wholeAll", unfollowed := true, recurses := true, named := ["math/bits.deBruijn64tab"], apart := false, laid := [("math/bits.deBruijn64tab", laid_math_bits_deBruijn64tab)], narrowed := true }
def WholeAllUptoSaid : Prop := wholeAllUptoRow.holds Tryz.pinned (OpenSpec.upto wholeAllSpec)

/-- 'withelaw21.WholeWalked', WHERE WHAT IT READS IS OF BULK AT MOST 1048576: true; the input reads as it did. -/
def wholeWalkedUptoRow : OpenClaim := { program := "ythhlhddnndlhkaagreatdoor", sum := "7fdbe73bd476127aab1961a2df785ded938eb1fcc48c5099200cf93d86606d0e", func := "withe/withelaw21.WholeWalked", spec := "wholeWalked", unfollowed := true, recurses := true, named := ["math/bits.deBruijn64tab"], apart := false, laid := [("math/bits.deBruijn64tab", laid_math_bits_deBruijn64tab)], narrowed := true }
def WholeWalkedUptoSaid : Prop := wholeWalkedUptoRow.holds Tryz.pinned (OpenSpec.upto wholeWalkedSpec)

/-- 'withelaw21.WholeStays', WHERE WHAT IT READS IS OF BULK AT MOST 1048576: true; the input reads as it did. -/
def wholeStaysUptoRow : OpenClaim := { program := "ythhlhddnndlhkaagreatdoor", sum := "7fdbe73bd476127aab1961a2df785ded938eb1fcc48c5099200cf93d86606d0e", func := "withe/withelaw21.WholeStays", spec := "wholeStays", unfollowed := true, recurses := true, named := ["math/bits.deBruijn64tab"], apart := false, laid := [("math/bits.deBruijn64tab", laid_math_bits_deBruijn64tab)], narrowed := true }
def WholeStaysUptoSaid : Prop := wholeStaysUptoRow.holds Tryz.pinned (OpenSpec.upto wholeStaysSpec)

/-- 'withelaw21.WholeRows', WHERE WHAT IT READS IS OF BULK AT MOST 1048576: true; the input reads as it did. -/
def wholeRowsUptoRow : OpenClaim := { program := "ythhlhddnndlhkaagreatdoor", sum := "7fdbe73bd476127aab1961a2df785ded938eb1fcc48c5099200cf93d86606d0e", func := "withe/withelaw21.WholeRows", spec := "wholeRows", unfollowed := true, recurses := true, named := ["math/bits.deBruijn64tab"], apart := false, laid := [("math/bits.deBruijn64tab", laid_math_bits_deBruijn64tab)], narrowed := true }
def WholeRowsUptoSaid : Prop := wholeRowsUptoRow.holds Tryz.pinned (OpenSpec.upto wholeRowsSpec)

end Rows
end Go.Proofs.YthhlhddnndlhkaaGreatDoor
