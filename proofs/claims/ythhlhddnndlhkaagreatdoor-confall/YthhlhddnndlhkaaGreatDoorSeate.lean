/-
  Own work, part of the proof of these laws: the seat's machine has this code.
-/
import Derived.Test.YthhlhddnndlhkaaGreatDoorCoGe
import Derived.Test.YthhlhddnndlhkaaGreatDoorAmF
import Derived.Test.YthhlhddnndlhkaaGreatDoorLay
import Derived.KernelRfl
set_option maxRecDepth 10000
set_option maxHeartbeats 64000000
set_option linter.unusedVariables false
set_option linter.unusedSimpArgs false
set_option maxRecDepth 1000000
namespace Go.Proofs.YthhlhddnndlhkaaGreatDoor
open Go Go.Shelf Go.AM
noncomputable abbrev mA:E8:=A2E Tryz.prog (Ac.f 29)
theorem Ayx:Ac.f 29=AS:=by kernel_rfl
noncomputable abbrev vA:At:=HK mA AS muP muH
theorem DK:Aq vA:=by
  constructor
  all_goals first | exact AxM | exact Am ⟨by kernel_rfl,by kernel_rfl⟩ rfl (by kernel_rfl) | exact Em ⟨by kernel_rfl,by kernel_rfl⟩ (by kernel_rfl)
end Go.Proofs.YthhlhddnndlhkaaGreatDoor
