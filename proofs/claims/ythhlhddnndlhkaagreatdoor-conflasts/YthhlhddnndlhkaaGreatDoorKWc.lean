/-
  Own work, part of the proof of these laws: what functions compute.
-/
import Derived.Test.YthhlhddnndlhkaaGreatDoorKEc
import Derived.Test.YthhlhddnndlhkaaGreatDoorKUc
set_option maxRecDepth 10000
set_option maxHeartbeats 64000000
set_option linter.unusedVariables false
set_option linter.unusedSimpArgs false
set_option linter.unusedSectionVars false
namespace Go.AM
open Go Go.Proofs
theorem AiN {t:A1} (ht:A5 t) {s:A6} {mem:List Int} {k:Nat} {at_:List Nat} (W:WI t s mem k) (S:StI t s at_) (h:∀ u∈at_,EY t u mem=none):∀ u∈at_,(t.at u).fin=true:=fun u hu=>by
 obtain ⟨h1,h2⟩:=S.has u hu
 obtain ⟨m,e,hm⟩:=A8 (W.form.node _ h1)
 have e:u=m:=by omega
 subst e
 exact AfD ht hm h2 (fun loc hl=>W.vals ht loc hl) (h u hu)
theorem AiL {t:A1} (ht:A5 t) {s:A6} {mem:List Int} {k:Nat} {at_:List Nat} (W:WI t s mem k) (S:StI t s at_) (h:∀ u∈at_,EY t u mem=none):Ei t s=[s.has]:=by
 rw [Ei,A3c ht W.form (NK ht W.form S),AfS ht W.form S (AiN ht W S h),List.map_cons,List.map_nil,AeU ht W.form]
section
variable {V:At} (C:Aq V)
include C
theorem law_ConfWalked (hb:∀ Q:VV->Prop,VP V JU [] Q↔Q (.b true)) (l m:List U8) (hl:∀ x∈l,x.n < 256) (hm:∀ x∈m,x.n < 256) :
  VP V Afe [lU l,lU m] fun x=>x = .b true:=by
 rw [Ad C.c_z5.1 C.c_z5.2]
 by_cases c1:(30:Int) < l.length
 .simp only [A9c,go_sem,↓reduceIte,hb,c1]
 by_cases c2:(40:Int) < m.length
 .simp only [A9c,go_sem,↓reduceIte,hb,c1,c2]
 obtain ⟨_,⟨t,ok,rfl,ht⟩,qT⟩:=Cr (BY C l ⟨by omega,hl⟩)
 cases ok with
 | false=>simp only [A9c,go_sem,↓reduceIte,hb,c1,c2,qT]
 | true =>
 have ht:=(ht rfl).1
 obtain ⟨_,⟨s,mem,k,at_,rfl,W,S,hn⟩,qW⟩:=Cr (Pc C t ht m ⟨by omega,hm⟩)
 have hf:=W.form
 have hs:=W.gr.sz ht (by have:=W.k64 ht;omega)
 have g1:=hs.has
 have qA:=fun (Q:VV->Prop)=>ED C t ht s hs hf (Q:=Q)
 rw [AiL ht W S hn] at qA
 simp only [lLI,List.map_cons,List.map_nil] at qA
 have qI:=fun (Q:VV->Prop)=>EA C s.has s.has (by omega) (Q:=Q)
 simp only [A9c,go_sem,↓reduceIte,hb,c1,c2,qT,qW,qA,qI]
end
end Go.AM
