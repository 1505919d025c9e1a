/-
  Own work, part of the proof of these laws: what functions compute.
-/
import Derived.Test.YthhlhddnndlhkaaGreatDoorKEc
import Derived.Test.YthhlhddnndlhkaaGreatDoorKQc
import Derived.Test.YthhlhddnndlhkaaGreatDoorKUc
set_option maxRecDepth 10000
set_option maxHeartbeats 64000000
set_option linter.unusedVariables false
set_option linter.unusedSimpArgs false
set_option linter.unusedSectionVars false
open List (length_map length_cons nil_append map_append cons_append append_nil map_cons map_nil)
namespace Go.AM
open Go Go.Proofs
theorem QN {t:A1} (ht:A5 t) (s:A6):(Ei t s).length<=16777216:=by
 rw [Ei,length_map]
 exact Yu t ht _ (Nat.le_refl _)
theorem AcZ {t:A1} {s:A6} {l:List Int} (h:l∈Ei t s):l.length<=64:=by
 obtain ⟨w,_,rfl⟩:=List.mem_map.1 h
 exact CO w
theorem Agp {B:List (List Int)} {x:List Int} {j:Nat} (hj:j < B.length):((B.take (j+1)).any fun y=>decide (x=y))=(((B.take j).any fun y=>decide (x=y)) || decide (x=B[j])):=by
 rw [List.take_succ_eq_append_getElem hj,List.any_append,List.any_cons,List.any_nil,Bool.or_false]
section
variable {V:At} (C:Aq V)
include C
theorem Lb {A B:List (List Int)} (hAl:A.length<=16777216) (hBl:B.length<=16777216) (hAm:∀ l∈A,l.length<=64) (hS:∀ l∈A,l∈B) (x0:Option VO) {Q:Ex->A4->VH->Prop} (hq:∀ F,A4.tmp F 9=lLI A->A4.tmp F 10=lLI B->Q .norm F [x0,none])
  (F:A4) (p9:A4.tmp F 9=lLI A) (p10:A4.tmp F 10=lLI B) (p11:A4.tmp F 11 = .i .i64 (0:Nat)):VL V Ac7 0 Amq F [x0,none] Q:=by
 refine Ab (by decide) A.length (by omega) (I:=fun i F h=>A4.tmp F 9=lLI A/\A4.tmp F 10=lLI B/\h=[x0,none]) ?_ ?_ ?_ 0 _ _ (Nat.zero_le _) p11 ⟨p9,p10,rfl⟩
 .rintro i F h hi p11 ⟨p9,p10,rfl⟩
  simp only [go_sem,↓reduceIte,p11,p9,p10,length_map]
 .rintro i F h hi p11 ⟨p9,p10,rfl⟩
  have gA:A[i]? = some A[i]:=List.getElem?_eq_getElem hi
  have hYl:=hAm _ (List.getElem_mem hi)
  have hYs:=hS _ (List.getElem_mem hi)
  obtain ⟨Y,hY⟩:∃ Y,Y=A[i]:=⟨_,rfl⟩
  rw [<- hY] at gA hYl hYs
  simp only [go_sem,↓reduceIte,p11,p9,p10,A0]
  refine Ab (by decide) B.length (by omega) (I:=fun j F h=>A4.tmp F 11 = .i .i64 i/\A4.tmp F 9=lLI A/\A4.tmp F 10=lLI B/\A4.tmp F 12 = .b ((B.take j).any fun y=>decide (Y=y))/\h=[x0,none]) ?_ ?_ ?_ 0 _ _ (Nat.zero_le _) ?_ ?_
  .rintro j F h hj q13 ⟨q11,q9,q10,q12,rfl⟩
   simp only [go_sem,↓reduceIte,q13,q11,q9,q10,q12,length_map]
  .rintro j F h hj q13 ⟨q11,q9,q10,q12,rfl⟩
   have gB:B[j]? = some B[j]:=List.getElem?_eq_getElem hj
   have hat:=Agp (x:=Y) hj
   obtain ⟨Z,hZ⟩:∃ Z,Z=B[j]:=⟨_,rfl⟩
   rw [<- hZ] at gB hat
   have qI:=fun (Q:VV->Prop)=>EA C Y Z (by omega) (Q:=Q)
   rw [hat]
   cases hg:(B.take j).any fun y=>decide (Y=y) with
   | true =>
    rw [hg] at q12
    simp only [go_sem,↓reduceIte,q13,q11,q9,q10,q12,Bool.true_or,A0]
   | false =>
    rw [hg] at q12
    simp only [go_sem,↓reduceIte,q13,q11,q9,q10,q12,gA,hi,gB,hj,qI,Bool.false_or,A0]
  .rintro F h ⟨q11,q9,q10,q12,rfl⟩
   have hall:((B.take B.length).any fun y=>decide (Y=y))=true:=by
    rw [List.take_length,List.any_eq_true]
    exact ⟨Y,hYs,decide_eq_true rfl⟩
   rw [hall] at q12
   simp only [go_sem,↓reduceIte,q11,q9,q10,q12]
  .simp only [go_sem,↓reduceIte]
  .simp only [go_sem,↓reduceIte,p11,p9,p10]
   rfl
 .rintro F h ⟨p9,p10,rfl⟩
  exact hq F p9 p10
theorem law_ConfLasts (hb:∀ Q:VV->Prop,VP V JU [] Q↔Q (.b true)) (l m k:List U8) (hl:∀ x∈l,x.n < 256) (hm:∀ x∈m,x.n < 256) (hk:∀ x∈k,x.n < 256) :
  VP V Aff [lU l,lU m,lU k] fun x=>x = .b true:=by
 rw [Ad C.c_z6.1 C.c_z6.2]
 by_cases c1:(30:Int) < l.length
 .simp only [Yi,go_sem,↓reduceIte,hb,c1]
 by_cases c2:(40:Int) < m.length
 .simp only [Yi,go_sem,↓reduceIte,hb,c1,c2]
 by_cases c3:(40:Int) < k.length
 .simp only [Yi,go_sem,↓reduceIte,hb,c1,c2,c3]
 obtain ⟨_,⟨t,ok,rfl,ht⟩,qT⟩:=Cr (BY C l ⟨by omega,hl⟩)
 cases ok with
 | false=>simp only [Yi,go_sem,↓reduceIte,hb,c1,c2,c3,qT]
 | true =>
 have ht:=(ht rfl).1
 have h64:=ht.n64
 have q1:Bk .quo none (.i .i64 (m.length:Int)) (.i .i64 2)=some (.i .i64 ((m.length / 2:Nat):Int)):=RE (l:=2) (by omega) (by omega)
 have w1:IntKind.i64.wrap (((m.length / 2:Nat):Int) * 2)=((m.length / 2 * 2:Nat):Int):=by rw [Az (by omega) (by omega)];omega
 have hle:m.length / 2 * 2<=m.length:=by omega
 have l1:=A6P m
 have qG1:=fun (Q:VV->Prop)=>Cb C t ht (G4 m) (by omega) (fun x hx=>hm x (MV hx)) (Q:=Q)
 have qG2:=fun (Q:VV->Prop)=>Cb C t ht (G4 m++k) (by rw [List.length_append];omega) (fun x hx=>by rcases List.mem_append.1 hx with h | h;exact hm x (MV h);exact hk x h) (Q:=Q)
 have X:=A78 ht (m:=G4 m) (k:=k) (by omega)
 have hfa:=Co ht (G4 m) ((G4 m).length / 2)
 have hfb:=Co ht (G4 m++k) ((G4 m++k).length / 2)
 have hza:=(Ec ht (G4 m) ((G4 m).length / 2)).sz ht (by omega)
 have hzb:=(Ec ht (G4 m++k) ((G4 m++k).length / 2)).sz ht (by rw [List.length_append];omega)
 obtain ⟨a,ha⟩:∃ a,a=BH t (G4 m) ((G4 m).length / 2):=⟨_,rfl⟩
 obtain ⟨b,hbb⟩:∃ b,b=BH t (G4 m++k) ((G4 m++k).length / 2):=⟨_,rfl⟩
 rw [<- ha] at qG1 X hfa hza
 rw [<- hbb] at qG2 X hfb hzb
 have hev:List.take (m.length / 2 * 2) m=G4 m:=rfl
 have l3:((G4 m).length+k.length) * 1<=Aa:=by unfold Aa;omega
 have qAa:=fun (Q:VV->Prop)=>ED C t ht a hza hfa (Q:=Q)
 have qAb:=fun (Q:VV->Prop)=>ED C t ht b hzb hfb (Q:=Q)
 have hS:(∀ l∈Ei t a,l∈Ei t b)/\(Ei t a).length<=(Ei t b).length:=Alh ht hfa hfb X
 have hAl:=QN ht a
 have hBl:=QN ht b
 have hAm:∀ l∈Ei t a,l.length<=64:=fun l=>AcZ
 have hAB0:a=b->Ei t a=Ei t b:=fun e=>by rw [e]
 obtain ⟨A,hA⟩:∃ A,A=Ei t a:=⟨_,rfl⟩
 obtain ⟨B,hB⟩:∃ B,B=Ei t b:=⟨_,rfl⟩
 rw [<- hA] at qAa hS hAl hAm hAB0
 rw [<- hB] at qAb hS hBl hAB0
 have two:∀ n:Nat,n<=100->n<=Aa:=fun n h=>by unfold Aa;omega
 rcases hem:G4 m with _ | ⟨x,xs⟩<;>rcases k with _ | ⟨y,ys⟩<;>rw [hem] at qG1 qG2 hev l1 l3
 .have hab:a=b:=by rw [ha,hbb,hem];simp
  have hAB:=hAB0 hab
  try simp only [lU,map_nil,map_cons,map_append,nil_append,append_nil,cons_append] at qG1 qG2
  simp only [Yi,go_sem,↓reduceIte,hb,c1,c2,length_cons,c3,qT,q1,w1,hle,CD,hev,qG1,qG2,qAa,nil_append,append_nil,map_nil,map_cons,cons_append]
  refine Lb C hAl hBl hAm hS.1 _ (fun F q9 q10=>?_) _ ?_ ?_ ?_
  .simp only [go_sem,↓reduceIte,q9,q10,length_map,Int.ofNat_le,hS.2,decide_true]
  .simp only [go_sem,↓reduceIte]
  .simp only [go_sem,↓reduceIte,hAB]
  .simp only [go_sem,↓reduceIte]
 .rw [length_cons] at c3
  have k1:=two (ys.length+1) (by omega)
  try simp only [lU,map_nil,map_cons,map_append,nil_append,append_nil,cons_append] at qG1 qG2
  simp only [Yi,go_sem,↓reduceIte,hb,c1,c2,length_cons,c3,qT,q1,w1,hle,k1,CD,hev,qG1,qG2,qAa,qAb,nil_append,append_nil,map_nil,map_cons,cons_append]
  refine Lb C hAl hBl hAm hS.1 _ (fun F q9 q10=>?_) _ ?_ ?_ ?_
  .simp only [go_sem,↓reduceIte,q9,q10,length_map,Int.ofNat_le,hS.2,decide_true]
  .simp only [go_sem,↓reduceIte]
  .simp only [go_sem,↓reduceIte]
  .simp only [go_sem,↓reduceIte]
 .rw [length_cons] at l1
  have x1:=two (xs.length+1) (by omega)
  have hab:a=b:=by rw [ha,hbb,hem];simp
  have hAB:=hAB0 hab
  try simp only [lU,map_nil,map_cons,map_append,nil_append,append_nil,cons_append] at qG1 qG2
  simp only [Yi,go_sem,↓reduceIte,hb,c1,c2,length_cons,c3,qT,q1,w1,hle,x1,CD,hev,qG1,qG2,qAa,nil_append,append_nil,map_nil,map_cons,cons_append]
  refine Lb C hAl hBl hAm hS.1 _ (fun F q9 q10=>?_) _ ?_ ?_ ?_
  .simp only [go_sem,↓reduceIte,q9,q10,length_map,Int.ofNat_le,hS.2,decide_true]
  .simp only [go_sem,↓reduceIte]
  .simp only [go_sem,↓reduceIte,hAB]
  .simp only [go_sem,↓reduceIte]
 .rw [length_cons] at c3 l1
  have x1:=two (xs.length+1) (by omega)
  have k1:=two (ys.length+1) (by omega)
  have k2:=two (xs.length+1+(ys.length+1)) (by omega)
  obtain ⟨z,hz⟩:∃ z,z=(x::xs)++(y::ys):=⟨_,rfl⟩
  rw [<- hz] at qG2
  have k4:xs.length+1+(ys.length+1)<=xs.length+(ys.length+1)+1:=by omega
  have htk:List.take (xs.length+1+(ys.length+1)) (eU x::(List.map eU xs++eU y::List.map eU ys))=z.map eU:=by
   rw [hz,List.take_of_length_le (by simp;omega)];simp
  simp only [lU,map_cons] at qG1
  simp only [Yi,go_sem,↓reduceIte,hb,c1,c2,length_cons,c3,qT,q1,w1,hle,x1,k1,k2,k4,htk,CD,hev,qG1,qG2,qAa,qAb,nil_append,append_nil,map_nil,map_cons,cons_append]
  refine Lb C hAl hBl hAm hS.1 _ (fun F q9 q10=>?_) _ ?_ ?_ ?_
  .simp only [go_sem,↓reduceIte,q9,q10,length_map,Int.ofNat_le,hS.2,decide_true]
  .simp only [go_sem,↓reduceIte]
  .simp only [go_sem,↓reduceIte]
  .simp only [go_sem,↓reduceIte]
end
end Go.AM
