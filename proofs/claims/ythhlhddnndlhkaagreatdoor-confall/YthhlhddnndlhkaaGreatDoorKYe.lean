/-
  Own work, part of the proof of these laws: what functions compute.
-/
import Derived.Test.YthhlhddnndlhkaaGreatDoorKXe
set_option maxRecDepth 10000
set_option maxHeartbeats 64000000
set_option linter.unusedVariables false
set_option linter.unusedSimpArgs false
set_option linter.unusedSectionVars false
namespace Go.AM
open Go Go.Proofs
section
variable {V:At} (C:Aq V)
include C
theorem A1R (t:A1) (ht:A5 t) (s:A6) (hs:DL s) (hf:Bd t s=false) {Q:VV->Prop}:VP V XQ [vT t,Dy s] Q↔Q (.ls []):=by
 refine Ae ?_
 rw [Ad C.c_z35.1 C.c_z35.2]
 have qF:=fun (Q:VV->Prop)=>Bv C t ht s hs (Q:=Q)
 rw [hf] at qF
 simp only [A3p,go_sem,↓reduceIte,qF]
theorem law_ConfAll (hb:∀ Q:VV->Prop,VP V JU [] Q↔Q (.b true)) (l m:List U8) (right:Bool) (odd:A6) (hl:∀ x∈l,x.n < 256) (hm:∀ x∈m,x.n < 256) :
  VP V Afd [lU l,lU m,.b right,Dy odd] fun x=>x = .b true:=by
 rw [Ad C.c_z4.1 C.c_z4.2]
 by_cases c1:(30:Int) < l.length
 .simp only [A6R,go_sem,↓reduceIte,hb,c1]
 by_cases c2:(60:Int) < m.length
 .simp only [A6R,go_sem,↓reduceIte,hb,c1,c2]
 obtain ⟨_,⟨li,rfl,ho⟩,qL⟩:=Cr (A79 C odd)
 cases li with
 | false=>simp only [A6R,go_sem,↓reduceIte,hb,c1,c2,qL]
 | true =>
 have ho:=ho rfl
 obtain ⟨_,⟨t,ok,rfl,ht⟩,qT⟩:=Cr (BY C l ⟨by omega,hl⟩)
 cases ok with
 | false=>simp only [A6R,go_sem,↓reduceIte,hb,c1,c2,qL,qT]
 | true =>
 have ht:=(ht rfl).1
 obtain ⟨s,hg,hf,qG⟩:∃ s,Gr t s (m.length / 2)/\AG t s/\∀ Q:VV->Prop,VP V Pe [vT t,lU m,.b right] Q↔Q (Dy s):=by
  cases right with
  | true=>exact ⟨_,N3 ht m _,La ht m _,fun Q=>Hd C t ht m (by omega) hm⟩
  | false=>exact ⟨_,Ec ht m _,Co ht m _,fun Q=>Cb C t ht m (by omega) hm⟩
 have hs:=hg.sz ht (by omega)
 have qA:=fun (Q:VV->Prop)=>ED C t ht s hs hf (Q:=Q)
 have qR:=fun (Q:VV->Prop)=>Pm C t ht s hs hf (Q:=Q)
 have qW:=fun (Q:VV->Prop)=>A6J C t ht s hs hf (Q:=Q)
 have h4:=QN ht s
 have h3:∀ l∈Ei t s,l.length<=64:=fun l=>AcZ
 obtain ⟨L,hL⟩:∃ L,L=Ei t s:=⟨_,rfl⟩
 rw [<- hL] at qA qR qW h4 h3
 obtain ⟨N,hN,h6,h7⟩:∃ N:List (List Int),N.length<=16777216/\(∀ Q,VP V R5 [vT t,Dy odd] Q↔Q (lLI N))/\(∀ Q,VP V XQ [vT t,Dy odd] Q↔Q (lLI N)):=by
  cases hof:Bd t odd with
  | true=>exact ⟨Ei t odd,QN ht odd,fun Q=>ED C t ht odd ho (AE.1 hof),fun Q=>Pm C t ht odd ho (AE.1 hof)⟩
  | false=>exact ⟨[],by decide,fun Q=>A8C C t ht odd ho hof,fun Q=>A1R C t ht odd ho hof⟩
 simp only [A6R,go_sem,↓reduceIte,hb,c1,c2,qL,qT,qG,qA,qR,qW,h6,h7,List.length_map,beq_self_eq_true]
 refine Ab (by decide) L.length (by omega) (I:=fun i F h=>A4.tmp F 12=lLI L/\A4.tmp F 13=lLI L/\h=tsH t s) ?_ ?_ ?_ 0 _ _ (Nat.zero_le _) ?_ ?_
 .rintro i F h hi h2 ⟨h0,h1,rfl⟩
  simp only [go_sem,↓reduceIte,h2,h0,h1,List.length_map]
 .rintro i F h hi h2 ⟨h0,h1,rfl⟩
  have gL:L[i]? = some L[i]:=List.getElem?_eq_getElem hi
  have h5:=h3 _ (List.getElem_mem hi)
  obtain ⟨Y,hY⟩:∃ Y,Y=L[i]:=⟨_,rfl⟩
  rw [<- hY] at gL h5
  have qI:=fun (Q:VV->Prop)=>EA C Y Y (by omega) (Q:=Q)
  simp only [go_sem,↓reduceIte,h2,h0,h1,gL,hi,qI,A0]
 .rintro F h ⟨h0,h1,rfl⟩
  simp only [go_sem,↓reduceIte,h0,h1]
 .simp only [go_sem,↓reduceIte]
 .simp only [go_sem,↓reduceIte]
end
end Go.AM
