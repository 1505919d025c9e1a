/-
  Own work, part of the proof of these laws: what functions compute.
-/
import Derived.Test.YthhlhddnndlhkaaGreatDoorKUe
set_option maxRecDepth 10000
set_option maxHeartbeats 64000000
set_option linter.unusedVariables false
set_option linter.unusedSimpArgs false
set_option linter.unusedSectionVars false
namespace Go.AM
open Go Go.Proofs
theorem QN {t:A1} (ht:A5 t) (s:A6):(Ei t s).length<=16777216:=by
 rw [Ei,List.length_map]
 exact Yu t ht _ (Nat.le_refl _)
theorem AcZ {t:A1} {s:A6} {l:List Int} (h:l∈Ei t s):l.length<=64:=by
 obtain ⟨w,_,rfl⟩:=List.mem_map.1 h
 exact CO w
end Go.AM
