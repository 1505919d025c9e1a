/-
  Own work, part of the proof of these laws: what functions compute.
-/
import Derived.Test.YthhlhddnndlhkaaGreatDoorKQw
import Derived.Test.YthhlhddnndlhkaaGreatDoorKSw
set_option maxRecDepth 10000
set_option maxHeartbeats 64000000
set_option linter.unusedVariables false
set_option linter.unusedSimpArgs false
set_option linter.unusedSectionVars false
open List (length_cons nil_append map_append cons_append append_nil map_cons map_nil)
namespace Go.AM
open Go Go.Proofs
theorem Ajx {t:A1} (ht:A5 t) {m k:List U8} (he:m.length % 2=0) (h:DM t (BH t (m++k) ((m++k).length / 2))=true):DM t (BH t m (m.length / 2))=true:=by
 rw [A17 (t:=t) (m:=m) (m':=m++k) (m.length / 2) (fun i hi=>(AcY (by omega)).symm)]
 have e:(m++k).length / 2=m.length / 2+k.length / 2:=by rw [List.length_append];omega
 rw [e] at h
 exact (A3D ht (m++k) (m.length / 2) (k.length / 2) h).1
section
variable {V:At} (C:Aq V)
include C
theorem law_WholeStays (hb:∀ Q:VV->Prop,VP V JV [] Q↔Q (.b true)) (l m k:List U8) (hl:∀ x∈l,x.n < 256) (hm:∀ x∈m,x.n < 256) (hk:∀ x∈k,x.n < 256) :
  VP V A54 [lU l,lU m,lU k] fun x=>x = .b true:=by
 rw [Ad C.c_z10.1 C.c_z10.2]
 by_cases c1:(30:Int) < l.length
 .simp only [ES,go_sem,↓reduceIte,hb,c1]
 by_cases c2:(30:Int) < m.length
 .simp only [ES,go_sem,↓reduceIte,hb,c1,c2]
 by_cases c3:(30:Int) < k.length
 .simp only [ES,go_sem,↓reduceIte,hb,c1,c2,c3]
 obtain ⟨_,⟨t,ok,rfl,ht⟩,qT⟩:=Cr (BY C l ⟨by omega,hl⟩)
 cases ok with
 | false=>simp only [ES,go_sem,↓reduceIte,hb,c1,c2,c3,qT]
 | true =>
 have ht:=(ht rfl).1
 have h64:=ht.n64
 have q1:Bk .quo none (.i .i64 (m.length:Int)) (.i .i64 2)=some (.i .i64 ((m.length / 2:Nat):Int)):=RE (l:=2) (by omega) (by omega)
 have w1:IntKind.i64.wrap (((m.length / 2:Nat):Int) * 2)=((m.length / 2 * 2:Nat):Int):=by rw [Az (by omega) (by omega)];omega
 have hle:m.length / 2 * 2<=m.length:=by omega
 have l1:=A6P m
 have qG1:=fun (Q:VV->Prop)=>Cb C t ht (G4 m) (by omega) (fun x hx=>hm x (MV hx)) (Q:=Q)
 have qG2:=fun (Q:VV->Prop)=>Cb C t ht (G4 m++k) (by rw [List.length_append];omega) (fun x hx=>by rcases List.mem_append.1 hx with h | h;exact hm x (MV h);exact hk x h) (Q:=Q)
 have X:=A78 ht (m:=G4 m) (k:=k) (by omega)
 have hfa:=Co ht (G4 m) ((G4 m).length / 2)
 have hfb:=Co ht (G4 m++k) ((G4 m++k).length / 2)
 have hza:=(Ec ht (G4 m) ((G4 m).length / 2)).sz ht (by omega)
 have hzb:=(Ec ht (G4 m++k) ((G4 m++k).length / 2)).sz ht (by rw [List.length_append];omega)
 obtain ⟨a,ha⟩:∃ a,a=BH t (G4 m) ((G4 m).length / 2):=⟨_,rfl⟩
 obtain ⟨b,hbb⟩:∃ b,b=BH t (G4 m++k) ((G4 m++k).length / 2):=⟨_,rfl⟩
 rw [<- ha] at qG1 X hfa hza
 rw [<- hbb] at qG2 X hfb hzb
 have hev:List.take (m.length / 2 * 2) m=G4 m:=rfl
 have l3:((G4 m).length+k.length) * 1<=Aa:=by unfold Aa;omega
 have haa:=QY ht (G4 m) ((G4 m).length / 2)
 have hab:=QY ht (G4 m++k) ((G4 m++k).length / 2)
 rw [<- ha] at haa
 rw [<- hbb] at hab
 have hco:DM t b=true->DM t a=true:=fun h=>by rw [ha];exact Ajx ht (k:=k) (by omega) (by rw [<- hbb];exact h)
 have qYa:=fun (Q:VV->Prop)=>G0 C t ht a hza (Q:=Q)
 have qMb:=fun (Q:VV->Prop)=>K5 C t ht b hzb (Q:=Q)
 obtain ⟨w,hw⟩:∃ w,w=GB t a:=⟨_,rfl⟩
 have hst:decide (w=0)=false->decide (w=5)=false->decide (GB t b=0)=false:=fun h0 h5=>decide_eq_false (AfW ht hfa hfb haa hab X hco (by rw [<- hw];exact of_decide_eq_false h0) (by rw [<- hw];exact of_decide_eq_false h5))
 rw [<- hw] at qYa
 have two:∀ n:Nat,n<=100->n<=Aa:=fun n h=>by unfold Aa;omega
 cases hem:G4 m with
 | nil =>
  rw [hem] at qG1 qG2 hev l1 l3
  try rw [length_cons] at l1
  cases k with
  | nil =>
   have hab:a=b:=by rw [ha,hbb,hem];simp
   subst hab
   try simp only [lU,map_nil,map_cons,map_append,nil_append,append_nil,cons_append] at qG1 qG2
   cases d0:decide (w=0) with
   | true=>simp only [ES,go_sem,↓reduceIte,hb,d0,c1,c2,length_cons,c3,qT,q1,w1,hle,CD,hev,qG1,qG2,qYa,nil_append,append_nil,map_nil,map_cons,cons_append]
   | false =>
   cases d5:decide (w=5) with
   | true=>simp only [ES,go_sem,↓reduceIte,hb,d0,d5,c1,c2,length_cons,c3,qT,q1,w1,hle,CD,hev,qG1,qG2,qYa,nil_append,append_nil,map_nil,map_cons,cons_append]
   | false =>
    have d6:=hst d0 d5
    simp only [ES,go_sem,↓reduceIte,hb,d0,d5,d6,qMb,c1,c2,length_cons,c3,qT,q1,w1,hle,CD,hev,qG1,qG2,qYa,nil_append,append_nil,map_nil,map_cons,cons_append]
  | cons y ys =>
   rw [length_cons] at c3
   have k1:=two (ys.length+1) (by omega)
   try have k2:=two (xs.length+1+(ys.length+1)) (by omega)
   try simp only [lU,map_nil,map_cons,map_append,nil_append,append_nil,cons_append] at qG1 qG2
   cases d0:decide (w=0) with
   | true=>simp only [ES,go_sem,↓reduceIte,hb,d0,c1,c2,length_cons,c3,qT,q1,w1,hle,k1,CD,hev,qG1,qG2,qYa,nil_append,append_nil,map_nil,map_cons,cons_append]
   | false =>
   cases d5:decide (w=5) with
   | true=>simp only [ES,go_sem,↓reduceIte,hb,d0,d5,c1,c2,length_cons,c3,qT,q1,w1,hle,k1,CD,hev,qG1,qG2,qYa,nil_append,append_nil,map_nil,map_cons,cons_append]
   | false =>
    have d6:=hst d0 d5
    simp only [ES,go_sem,↓reduceIte,hb,d0,d5,d6,qMb,c1,c2,length_cons,c3,qT,q1,w1,hle,k1,CD,hev,qG1,qG2,qYa,nil_append,append_nil,map_nil,map_cons,cons_append]
 | cons x xs =>
  rw [hem] at qG1 qG2 hev l1 l3
  rw [length_cons] at l1
  have x1:=two (xs.length+1) (by omega)
  cases k with
  | nil =>
   have hab:a=b:=by rw [ha,hbb,hem];simp
   subst hab
   try simp only [lU,map_nil,map_cons,map_append,nil_append,append_nil,cons_append] at qG1 qG2
   cases d0:decide (w=0) with
   | true=>simp only [ES,go_sem,↓reduceIte,hb,d0,c1,c2,length_cons,c3,qT,q1,w1,hle,x1,CD,hev,qG1,qG2,qYa,nil_append,append_nil,map_nil,map_cons,cons_append]
   | false =>
   cases d5:decide (w=5) with
   | true=>simp only [ES,go_sem,↓reduceIte,hb,d0,d5,c1,c2,length_cons,c3,qT,q1,w1,hle,x1,CD,hev,qG1,qG2,qYa,nil_append,append_nil,map_nil,map_cons,cons_append]
   | false =>
    have d6:=hst d0 d5
    simp only [ES,go_sem,↓reduceIte,hb,d0,d5,d6,qMb,c1,c2,length_cons,c3,qT,q1,w1,hle,x1,CD,hev,qG1,qG2,qYa,nil_append,append_nil,map_nil,map_cons,cons_append]
  | cons y ys =>
   rw [length_cons] at c3
   have k1:=two (ys.length+1) (by omega)
   try have k2:=two (xs.length+1+(ys.length+1)) (by omega)
   obtain ⟨z,hz⟩:∃ z,z=(x::xs)++(y::ys):=⟨_,rfl⟩
   rw [<- hz] at qG2
   have k4:xs.length+1+(ys.length+1)<=xs.length+(ys.length+1)+1:=by omega
   have htk:List.take (xs.length+1+(ys.length+1)) (eU x::(List.map eU xs++eU y::List.map eU ys))=z.map eU:=by
    rw [hz,List.take_of_length_le (by simp;omega)];simp
   simp only [lU,map_cons] at qG1
   cases d0:decide (w=0) with
   | true=>simp only [ES,go_sem,↓reduceIte,hb,d0,c1,c2,length_cons,c3,qT,q1,w1,hle,x1,k1,k2,k4,htk,CD,hev,qG1,qG2,qYa,nil_append,append_nil,map_nil,map_cons,cons_append]
   | false =>
   cases d5:decide (w=5) with
   | true=>simp only [ES,go_sem,↓reduceIte,hb,d0,d5,c1,c2,length_cons,c3,qT,q1,w1,hle,x1,k1,k2,k4,htk,CD,hev,qG1,qG2,qYa,nil_append,append_nil,map_nil,map_cons,cons_append]
   | false =>
    have d6:=hst d0 d5
    simp only [ES,go_sem,↓reduceIte,hb,d0,d5,d6,qMb,c1,c2,length_cons,c3,qT,q1,w1,hle,x1,k1,k2,k4,htk,CD,hev,qG1,qG2,qYa,nil_append,append_nil,map_nil,map_cons,cons_append]
end
end Go.AM
