/-
  Own work, part of the proof of these laws: what functions compute.
-/
import Derived.Test.YthhlhddnndlhkaaGreatDoorKBe
set_option maxRecDepth 10000
set_option maxHeartbeats 64000000
set_option linter.unusedVariables false
set_option linter.unusedSimpArgs false
set_option linter.unusedSectionVars false
namespace Go.AM
open Go Go.Proofs
def nI (l:List Nat):List Int:=l.map fun (n:Nat)=>(n:Int)
theorem C2 (l:List Nat):(nI l).length=l.length:=by simp [nI]
theorem YL (l:List Nat) (x:Nat):nI l++[(x:Int)]=nI (l++[x]):=by simp [nI]
def b6:Option VO:=some ⟨Af,0,0,false,[[.nl,.nl,.nl]]⟩
def b9 (s:A6):Option VO:=some ⟨Af,0,0,false,[Je s]⟩
def Ajc (mem:List Int) (mv:VV) (x3:Option VO):Prop:=mv=lI mem\/(mv = .sl 3 mem.length 0 mem.length/\x3=some (AW AO 1 (mem.map eI)))
section
variable {V:At} (C:Aq V)
include C
omit C in
theorem Ajc.cl {mem:List Int} {mv:VV} {x3:Option VO} (k:Ajc mem mv x3) {n:Nat} (hn:3 < n):QO n mv=mv:=by
 rcases k with rfl | ⟨rfl,rfl⟩
 .rfl
 .show (bif Nat.blt 3 n then _ else _)=_
  rw [show Nat.blt 3 n=true from by simp only [Nat.blt_eq];exact hn];rfl
end
end Go.AM
