/-
  Own work, part of the proof of these laws: the seat's machine has this code.
-/
import Derived.Test.YtpnaenhghnkggabGreatDoorCoG
import Derived.Test.YtpnaenhghnkggabGreatDoorAmF
import Derived.Test.YtpnaenhghnkggabGreatDoorLay
import Derived.KernelRfl
set_option maxRecDepth 10000
set_option maxHeartbeats 64000000
set_option linter.unusedVariables false
set_option linter.unusedSimpArgs false
set_option maxRecDepth 1000000
namespace Go.Proofs.YtpnaenhghnkggabGreatDoor
open Go Go.Shelf Go.AM
noncomputable abbrev mA:Do:=S5 Tryz.prog (AQ.f 29)
theorem AsO:AQ.f 29=AW:=by kernel_rfl
noncomputable abbrev vA:Am:=G4 mA AW muP muH
theorem Tr:Ap vA:=by
  constructor
  all_goals first | exact ArZ | exact ArX ⟨by kernel_rfl,by kernel_rfl⟩ rfl (by kernel_rfl) | exact ArY ⟨by kernel_rfl,by kernel_rfl⟩ (by kernel_rfl)
end Go.Proofs.YtpnaenhghnkggabGreatDoor
