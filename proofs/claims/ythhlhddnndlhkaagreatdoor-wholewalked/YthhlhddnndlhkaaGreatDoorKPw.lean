/-
  Own work, part of the proof of these laws: what functions compute.
-/
import Derived.Test.YthhlhddnndlhkaaGreatDoorLAw
set_option maxRecDepth 10000
set_option maxHeartbeats 64000000
set_option linter.unusedVariables false
set_option linter.unusedSimpArgs false
set_option linter.unusedSectionVars false
namespace Go.AM
open Go Go.Proofs
theorem De {t:A1} {s:A6} (hf:AG t s) {i:Nat} (hi:i < s.has.length):∃ m:Nat,s.has.getD i 0=m/\m < t.nodes.length/\(m:Int)∈s.has:=by
 have hm:=Ai (d:=0) hi
 obtain ⟨m,e,hml⟩:=A8 (hf.node _ hm)
 rw [e] at hm
 exact ⟨m,e,hml,hm⟩
end Go.AM
