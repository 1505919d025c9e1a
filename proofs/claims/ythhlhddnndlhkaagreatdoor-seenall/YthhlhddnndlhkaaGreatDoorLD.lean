/-
  Own work, part of the proof of these laws: plain laws.
-/
import Derived.Test.YthhlhddnndlhkaaGreatDoorKM
set_option maxRecDepth 10000
set_option maxHeartbeats 64000000
set_option linter.unusedVariables false
set_option linter.unusedSimpArgs false
set_option linter.unusedSectionVars false
namespace Go.AM
open Go Go.Proofs
theorem AbJ {t:A1} {s:A6} (hf:AG t s) {p:Int->Bool}:Cu t (s.has.filter p):=fun x hx=>hf.node x (List.mem_filter.1 hx).1
theorem KF {t:A1} (ht:A5 t) {s:A6} (hf:AG t s) {j:Nat}:(DH t s).getLsbD j=true↔(j:Int)∈s.has/\Es t s j=true:=by
 have h64:=ht.n64
 have hn:Cu t (s.has.filter fun e=>Es t s e.toNat):=AbJ hf
 rw [DH,<- AC,hn.has h64,A9,List.mem_filter,Int.toNat_natCast]
end Go.AM
