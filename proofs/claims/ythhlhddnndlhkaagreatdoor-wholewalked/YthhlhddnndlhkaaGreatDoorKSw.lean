/-
  Own work, part of the proof of these laws: what functions compute.
-/
import Derived.Test.YthhlhddnndlhkaaGreatDoorKEw
import Derived.Test.YthhlhddnndlhkaaGreatDoorKOw
import Derived.Test.YthhlhddnndlhkaaGreatDoorKRw
set_option maxRecDepth 10000
set_option maxHeartbeats 64000000
set_option linter.unusedVariables false
set_option linter.unusedSimpArgs false
set_option linter.unusedSectionVars false
namespace Go.AM
open Go Go.Proofs
section
variable {V:At} (C:Aq V)
include C
theorem K5 (t:A1) (ht:A5 t) (s:A6) (hs:DL s) {Q:VV->Prop}:VP V A1q [vT t,Dy s] Q↔Q (.b (decide (GB t s=0))):=(Ab3 C t ht s hs).trans (by rw [AiT ht])
theorem law_WholeWalked (hb:∀ Q:VV->Prop,VP V JV [] Q↔Q (.b true)) (l m:List U8) (hl:∀ x∈l,x.n < 256) (hm:∀ x∈m,x.n < 256) :
  VP V Afi [lU l,lU m] fun x=>x = .b true:=by
 rw [Ad C.c_z9.1 C.c_z9.2]
 by_cases c1:(30:Int) < l.length
 .simp only [A9I,go_sem,↓reduceIte,hb,c1]
 by_cases c2:(40:Int) < m.length
 .simp only [A9I,go_sem,↓reduceIte,hb,c1,c2]
 obtain ⟨_,⟨t,ok,rfl,ht⟩,qT⟩:=Cr (BY C l ⟨by omega,hl⟩)
 cases ok with
 | false=>simp only [A9I,go_sem,↓reduceIte,hb,c1,c2,qT]
 | true =>
 have ht:=(ht rfl).1
 obtain ⟨_,⟨s,mem,k,at_,rfl,W,S,_,hA⟩,qW⟩:=Cr (A2F C t ht m ⟨by omega,hm⟩)
 have hs:=W.gr.sz ht (by have:=W.k64 ht;omega)
 have w0:=AiO ht W S hA
 simp only [A9I,go_sem,↓reduceIte,hb,c1,c2,qT,qW,K5 C t ht s hs,w0]
end
end Go.AM
