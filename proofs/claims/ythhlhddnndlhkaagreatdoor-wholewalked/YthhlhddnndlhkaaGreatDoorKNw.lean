/-
  Own work, part of the proof of these laws: what functions compute.
-/
import Derived.Test.YthhlhddnndlhkaaGreatDoorKLw
set_option maxRecDepth 10000
set_option maxHeartbeats 64000000
set_option linter.unusedVariables false
set_option linter.unusedSimpArgs false
set_option linter.unusedSectionVars false
namespace Go.AM
open Go Go.Proofs
def wyE (t:A1) (s:A6) (a b:Nat):Bool:=Ap t a b || decide (Ey s.has s.jf b=(a:Int))
def wyB (t:A1) (s:A6) (a b:Nat):Bool:=AU s.has (a:Int) && AU s.has (b:Int) && wyE t s a b
def wy3 (t:A1) (s:A6) (r:Int):Bool:=BR t s r.toNat r.toNat
def wy4 (t:A1) (s:A6) (r w:Int):Bool:=decide (0<=w) && BR t s w.toNat r.toNat
def RH (t:A1) (s:A6) (r w:Int):Bool:=decide (0<=w) && decide (0<=(t.at w.toNat).thread) && !decide ((t.at w.toNat).thread=(t.at r.toNat).thread) && !Es t s w.toNat
def GB (t:A1) (s:A6):Int:=if Bd t s=false then 1 else if Px (Ak t.nodes.length (wyB t s))=false then 2 else
 if ((List.range s.has.length).all fun i=>!wy3 t s (s.has.getD i 0))=false then 3 else
 if ((List.range s.has.length).all fun i=>!wy4 t s (s.has.getD i 0) (s.jf.getD i 0))=false then 4 else
 if ((List.range s.has.length).all fun i=>!RH t s (s.has.getD i 0) (s.jf.getD i 0))=false then 5 else
 if Me t s=false then 6 else 0
end Go.AM
