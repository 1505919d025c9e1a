/-
  Own work, part of the proof of these laws: what functions compute.
-/
import Derived.Test.YthhlhddnndlhkaaGreatDoorKEd
import Derived.Test.YthhlhddnndlhkaaGreatDoorKNd
import Derived.Test.YthhlhddnndlhkaaGreatDoorKPd
import Derived.Test.YthhlhddnndlhkaaGreatDoorKXd
set_option maxRecDepth 10000
set_option maxHeartbeats 64000000
set_option linter.unusedVariables false
set_option linter.unusedSimpArgs false
set_option linter.unusedSectionVars false
open List (length_map)
namespace Go.AM
open Go Go.Proofs
theorem Ajw {t:A1} {s:A6} {i:Nat} (hi:i < (Ei t s).length):∃ w,(Ei t s)[i]=Ay w/\w∈BU t (DH t s) t.regs.length:=by
 obtain ⟨w,hw,e⟩:=List.mem_map.1 (List.getElem_mem hi)
 exact ⟨w,e.symm,hw⟩
theorem Anq {t:A1} (ht:A5 t) {s:A6} {i j:Nat} (hi:i < (Ei t s).length) (hj:j < i):(Ei t s)[i]≠(Ei t s)[j]:=by
 simp only [Ei,List.getElem_map]
 exact Anp ht (by rw [Ei,length_map] at hi;exact hi) hj
section
variable {V:At} (C:Aq V)
include C
theorem law_ConfFree (hb:∀ Q:VV->Prop,VP V JU [] Q↔Q (.b true)) (l m:List U8) (hl:∀ x∈l,x.n < 256) (hm:∀ x∈m,x.n < 256) :
  VP V Afg [lU l,lU m] fun x=>x = .b true:=by
 rw [Ad C.c_z7.1 C.c_z7.2]
 by_cases c1:(30:Int) < l.length
 .simp only [A9r,go_sem,↓reduceIte,hb,c1]
 by_cases c2:(60:Int) < m.length
 .simp only [A9r,go_sem,↓reduceIte,hb,c1,c2]
 obtain ⟨_,⟨t,ok,rfl,ht⟩,qT⟩:=Cr (BY C l ⟨by omega,hl⟩)
 cases ok with
 | false=>simp only [A9r,go_sem,↓reduceIte,hb,c1,c2,qT]
 | true =>
 have ht:=(ht rfl).1
 have qg:=ht.n64
 have qi:=ht.r4
 have hg:=N3 ht m (m.length / 2)
 have hf:=La ht m (m.length / 2)
 have qG:=fun (Q:VV->Prop)=>Hd C t ht m (by omega) hm (Q:=Q)
 obtain ⟨s,hs⟩:∃ s,s=Eg t m (m.length / 2):=⟨_,rfl⟩
 rw [<- hs] at hg qG hf
 have hz:=hg.sz ht (by omega)
 have ok:=GV hf ht
 have qA:=fun (Q:VV->Prop)=>ED C t ht s hz hf (Q:=Q)
 have q4:=fun (Q:VV->Prop)=>K2 C t ht s hz hf ok (Q:=Q)
 have q3:=fun (Q:VV->Prop)=>HC C t ht (Q:=Q)
 have qf:=fun (Q:VV->Prop)=>RC C t ht (Q:=Q)
 have qe:=fun (Q:VV->Prop)=>XY C ht.n64 (Q:=Q)
 have q7:=QN ht s
 have ho:=fun (i:Nat) (hi:i < (Ei t s).length)=>Ajw hi
 have hx:=fun (i j:Nat) (hi:i < (Ei t s).length) (hj:j < i)=>Anq ht hi hj
 obtain ⟨L,hL⟩:∃ L,L=Ei t s:=⟨_,rfl⟩
 rw [<- hL] at qA q7
 simp only [<- hL] at ho hx
 obtain ⟨S,hS⟩:∃ S,S=DH t s:=⟨_,rfl⟩
 rw [<- hS] at q4 ho
 have qb:(Ak t.nodes.length fun a b=>AH t a b)=PB t:=rfl
 rw [qb] at q3
 simp only [A9r,go_sem,↓reduceIte,hb,c1,c2,qT,qG,qA,q3,q4]
 refine Ab (by decide) L.length (by omega) (I:=fun i F h=>A4.tmp F 5 = .p 0 0 0 0/\A4.tmp F 8=lLI L/\A4.tmp F 9=lW (PB t)/\A4.tmp F 10=vW S/\h=tsH t s) ?_ ?_ ?_ 0 _ _ (Nat.zero_le _) ?_ ?_
 .rintro i F h hi hh ⟨p5,p8,p9,h3,rfl⟩
  simp only [go_sem,↓reduceIte,hh,p5,p8,p9,h3,length_map]
 .rintro i F h hi hh ⟨p5,p8,p9,h3,rfl⟩
  obtain ⟨w,hw,h9⟩:=ho i hi
  have gL:L[i]? = some (Ay w):=by rw [List.getElem?_eq_getElem hi,hw]
  have qa:=CO w
  have qO:=fun (Q:VV->Prop)=>NF C (Ay w) (by omega) (Q:=Q)
  rw [A1E] at qO
  have qK:=fun (Q:VV->Prop)=>Qt C (PB t) w (Q:=Q)
  rw [Aev ht h9] at qK
  have e1:w ||| S=S:=(HP ht _ w h9).2.2
  have e2:=Aht ht h9
  have h8:=fun (k:Nat) (hk:k < (Ay w).length)=>Ano ht h9 hk
  have h6:=fun (k:Nat) (hk:k+1 < (Ay w).length)=>Ann (w:=w) hk
  have h7:=Ahj ht h9
  have q0:=fun (k:Nat) (hk:k < (Ay w).length)=>AeG (t:=t) hk
  have hy:=fun k=>AjR t (Ay w) k
  have h1:=fun (j:Nat) (hj:j < i)=>hx i j hi hj
  simp only [hw] at h1
  obtain ⟨Y,hY⟩:∃ Y,Y=Ay w:=⟨_,rfl⟩
  rw [<- hY] at gL qa qO h7
  simp only [<- hY] at h8 h6 q0 hy h1
  simp only [go_sem,↓reduceIte,hh,p5,p8,p9,h3,gL,hi,qO,qK,qe,qf,D4 C,e1,e2,length_map,A0]
  refine Ab (by decide) Y.length (by omega) (I:=fun k F h=>A4.tmp F 11 = .i .i64 i/\A4.tmp F 5 = .p 0 0 0 0/\A4.tmp F 8=lLI L/\A4.tmp F 9=lW (PB t)/\A4.tmp F 10=vW S/\A4.tmp F 12=vW w/\A4.tmp F 13 = .i .i64 (PW t Y k)/\h=tsH t s) ?_ ?_ ?_ 0 _ _ (Nat.zero_le _) ?_ ?_
  .rintro k F h hk hq ⟨h5,q5,q8,q9,h4,ha,h0,rfl⟩
   simp only [go_sem,↓reduceIte,hq,h5,q5,q8,q9,h4,ha,h0,gL,hi,length_map]
  .rintro k F h hk hq ⟨h5,q5,q8,q9,h4,ha,h0,rfl⟩
   obtain ⟨n,hn,q2,qd⟩:=h8 k hk
   have gY:=Ar hk
   have eY:Y.getD k 0=n:=by rw [List.getD_eq_getElem?_getD,List.getElem?_eq_getElem hk];exact hn
   rw [eY] at gY
   have gN:=A7 q2
   have hp:=q0 k hk
   rw [hn,Int.toNat_natCast] at hp
   have qh:=hy k
   have f1:(t.at n).fin=true->PW t Y (k+1)=PW t Y k+1:=fun h=>by rw [hp,if_pos h]
   have f0:(t.at n).fin=false->PW t Y (k+1)=PW t Y k:=fun h=>by rw [hp,if_neg (by rw [h];decide)];rfl
   have q6:Y[k - 1]? = some (Y.getD (k - 1) 0):=Ar (by omega)
   have w1:IntKind.i64.wrap ((PW t Y k:Int)+1)=((PW t Y k+1:Nat):Int):=by rw [Az (by omega) (by omega)];omega
   have w2:decide ((0:Int) < (k:Int))=true->IntKind.i64.wrap ((k:Int) - 1)=((k - 1:Nat):Int):=fun h=>by have:=of_decide_eq_true h;rw [Az (by omega) (by omega)];omega
   have hu:decide (0<=(t.at n).up)=true->Bc w (t.at n).up=true:=fun h=>qd (of_decide_eq_true h)
   have qc:decide ((0:Int) < (k:Int))=true->decide ((n:Int)<=Y.getD (k - 1) 0)=false:=fun h=>by
    have h:=of_decide_eq_true h
    obtain ⟨j,rfl⟩:∃ j,k=j+1:=⟨k - 1,by omega⟩
    have h2:=h6 j hk
    rw [Nat.add_sub_cancel,List.getD_eq_getElem?_getD,List.getElem?_eq_getElem (by omega),Option.getD_some]
    rw [hn] at h2
    exact decide_eq_false (by omega)
   cases d1:decide (0<=(t.at n).up)<;>cases d2:decide ((0:Int) < (k:Int))<;>cases d3:(t.at n).fin<;>simp only [go_sem,↓reduceIte,hq,h5,q5,q8,q9,h4,ha,h0,gL,hi,gY,hk,gN,q2,q6,w1,w2,hu,qc,d1,d2,d3,f1,f0,B2 C,A0]
  .rintro F h ⟨h5,q5,q8,q9,h4,ha,h0,rfl⟩
   rw [h7] at h0
   simp only [go_sem,↓reduceIte,h5,q5,q8,q9,h4,ha,h0,A0]
   refine Ab (by decide) i (by omega) (I:=fun j F h=>A4.tmp F 11 = .i .i64 i/\A4.tmp F 5 = .p 0 0 0 0/\A4.tmp F 8=lLI L/\A4.tmp F 9=lW (PB t)/\A4.tmp F 10=vW S/\A4.tmp F 13 = .i .i64 t.regs.length/\h=tsH t s) ?_ ?_ ?_ 0 _ _ (Nat.zero_le _) ?_ ?_
   .rintro j F h hj hr ⟨hd,r5,r8,r9,hc,he,rfl⟩
    simp only [go_sem,↓reduceIte,hr,hd,r5,r8,r9,hc,he,Int.ofNat_lt]
   .rintro j F h hj hr ⟨hd,r5,r8,r9,hc,he,rfl⟩
    have q1:j < L.length:=by omega
    have hv:L[j]? = some L[j]:=List.getElem?_eq_getElem q1
    have h1:=h1 j hj
    obtain ⟨Z,hZ⟩:∃ Z,Z=L[j]:=⟨_,rfl⟩
    rw [<- hZ] at hv h1
    have d:decide (Y=Z)=false:=decide_eq_false h1
    have qI:=fun (Q:VV->Prop)=>EA C Y Z (by omega) (Q:=Q)
    rw [d] at qI
    simp only [go_sem,↓reduceIte,hr,hd,r5,r8,r9,hc,he,gL,hi,hv,q1,qI,A0]
   .rintro F h ⟨hd,r5,r8,r9,hc,he,rfl⟩
    simp only [go_sem,↓reduceIte,hd,r5,r8,r9,hc,he,length_map]
   .simp only [go_sem,↓reduceIte]
   .simp only [go_sem,↓reduceIte,h5,q5,q8,q9,h4,h0]
  .simp only [go_sem,↓reduceIte]
  .simp only [go_sem,↓reduceIte,hh,p5,p8,p9,h3]
   rfl
 .rintro F h ⟨p5,p8,p9,h3,rfl⟩
  simp only [go_sem,↓reduceIte,p5,p8,p9,h3]
 .simp only [go_sem,↓reduceIte]
 .simp only [go_sem,↓reduceIte]
end
end Go.AM
