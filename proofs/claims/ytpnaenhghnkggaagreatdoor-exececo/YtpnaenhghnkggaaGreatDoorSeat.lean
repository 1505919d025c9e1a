/-
  Own work, part of the proof of these laws: the seat's machine has this code.
-/
import Derived.Test.YtpnaenhghnkggaaGreatDoorCoG
import Derived.Test.YtpnaenhghnkggaaGreatDoorAmF
import Derived.Test.YtpnaenhghnkggaaGreatDoorLay
import Derived.KernelRfl
set_option maxRecDepth 10000
set_option maxHeartbeats 64000000
set_option linter.unusedVariables false
set_option linter.unusedSimpArgs false
set_option maxRecDepth 1000000
namespace Go.Proofs.YtpnaenhghnkggaaGreatDoor
open Go Go.Shelf Go.AM
noncomputable abbrev mA:Df:=R4 Tryz.prog (B8.f 29)
theorem ApF:B8.f 29=AI:=by kernel_rfl
noncomputable abbrev vA:Ae:=EM mA AI muP muH
theorem A5Z:Ai vA:=by
  constructor
  all_goals first | exact AoM | exact AoK ⟨by kernel_rfl,by kernel_rfl⟩ rfl (by kernel_rfl) | exact AoL ⟨by kernel_rfl,by kernel_rfl⟩ (by kernel_rfl)
end Go.Proofs.YtpnaenhghnkggaaGreatDoor
