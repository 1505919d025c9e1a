/-
  Own work, part of the proof of these laws: the seat's machine has this code.
-/
import Derived.Test.YtpnaenhghnkggaaGreatDoorCoG
import Derived.Test.YtpnaenhghnkggaaGreatDoorAmF
import Derived.Test.YtpnaenhghnkggaaGreatDoorLay
import Derived.KernelRfl
set_option maxRecDepth 10000
set_option maxHeartbeats 64000000
set_option linter.unusedVariables false
set_option linter.unusedSimpArgs false
set_option maxRecDepth 1000000
namespace Go.Proofs.YtpnaenhghnkggaaGreatDoor
open Go Go.Shelf Go.AM
noncomputable abbrev mA:Dz:=Sz Tryz.prog (CF.f 29)
theorem Avz:CF.f 29=AY:=by kernel_rfl
noncomputable abbrev vA:Ai:=Gl mA AY muP muH
theorem Aj6:Am vA:=by
  constructor
  all_goals first|exact AuL|exact AuJ ⟨by kernel_rfl,by kernel_rfl⟩ rfl (by kernel_rfl)|exact AuK ⟨by kernel_rfl,by kernel_rfl⟩ (by kernel_rfl)
end Go.Proofs.YtpnaenhghnkggaaGreatDoor
