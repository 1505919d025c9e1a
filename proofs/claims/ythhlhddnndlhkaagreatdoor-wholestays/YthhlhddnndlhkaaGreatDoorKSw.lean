/-
  Own work, part of the proof of these laws: what functions compute.
-/
import Derived.Test.YthhlhddnndlhkaaGreatDoorKEw
import Derived.Test.YthhlhddnndlhkaaGreatDoorKKw
import Derived.Test.YthhlhddnndlhkaaGreatDoorKOw
import Derived.Test.YthhlhddnndlhkaaGreatDoorKRw
set_option maxRecDepth 10000
set_option maxHeartbeats 64000000
set_option linter.unusedVariables false
set_option linter.unusedSimpArgs false
set_option linter.unusedSectionVars false
open Int (toNat_natCast)
namespace Go.AM
open Go Go.Proofs
section
variable {V:At} (C:Aq V)
include C
theorem G0 (t:A1) (ht:A5 t) (s:A6) (hs:DL s) {Q:VV->Prop}:VP V R7 [vT t,Dy s] Q↔Q (.i .i64 (GB t s)):=(Yb C t ht s hs).trans (by rw [AiT ht])
theorem K5 (t:A1) (ht:A5 t) (s:A6) (hs:DL s) {Q:VV->Prop}:VP V A1q [vT t,Dy s] Q↔Q (.b (decide (GB t s=0))):=(Ab3 C t ht s hs).trans (by rw [AiT ht])
theorem law_WholeRows (hb:∀ Q:VV->Prop,VP V JV [] Q↔Q (.b true)) (l m:List U8) (hl:∀ x∈l,x.n < 256) (hm:∀ x∈m,x.n < 256) :
  VP V A55 [lU l,lU m] fun x=>x = .b true:=by
 rw [Ad C.c_z11.1 C.c_z11.2]
 by_cases c1:(30:Int) < l.length
 .simp only [P5,go_sem,↓reduceIte,hb,c1]
 by_cases c2:(40:Int) < m.length
 .simp only [P5,go_sem,↓reduceIte,hb,c1,c2]
 obtain ⟨_,⟨t,ok,rfl,ht⟩,qT⟩:=Cr (BY C l ⟨by omega,hl⟩)
 cases ok with
 | false=>simp only [P5,go_sem,↓reduceIte,hb,c1,c2,qT]
 | true =>
 have ht:=(ht rfl).1
 have hg:=Ec ht m (m.length / 2)
 have hf:=Co ht m (m.length / 2)
 have hac:=QY ht m (m.length / 2)
 have qG:=fun (Q:VV->Prop)=>Cb C t ht m (by omega) hm (Q:=Q)
 obtain ⟨s,hs⟩:∃ s,s=BH t m (m.length / 2):=⟨_,rfl⟩
 rw [<- hs] at hg qG hf hac
 have hz:=hg.sz ht (by omega)
 have g1:=hz.has
 have hff:=AE.2 hf
 obtain ⟨n1,n2,n0,n6,n3⟩:=AiU ht hf hac
 have qSn:=fun (e:Int) (Q:VV->Prop)=>Ee C t ht s hz hf e (Q:=Q)
 obtain ⟨w,hw⟩:∃ w,w=GB t s:=⟨_,rfl⟩
 have qY:=fun (Q:VV->Prop)=>G0 C t ht s hz (Q:=Q)
 have qC:=fun (Q:VV->Prop)=>QP C t ht s hz (Q:=Q)
 rw [<- hw] at n1 n2 n0 n6 n3 qY
 have b1:decide (w=1)=false:=decide_eq_false n1
 have b2:decide (w=2)=false:=decide_eq_false n2
 cases b0:decide (w=0) with
 | true =>
  have hc:=n0 (of_decide_eq_true b0)
  have b6:decide (w=6)=false:=decide_eq_false (by have:=of_decide_eq_true b0;omega)
  simp only [P5,go_sem,↓reduceIte,hb,c1,c2,qT,qG,qY,qC,Dt C t ht s hz,hff,b1,b2,b0,b6,hc]
  refine Ab (by decide) s.has.length (by omega) (I:=fun i F h=>A4.tmp F 5 = .p 0 0 0 0/\A4.tmp F 7 = .p 1 0 0 0/\A4.tmp F 8 = .i .i64 w/\h=tsH t s/\∀ j,j < i->Ef t s (s.has.getD j 0).toNat=true) ?_ ?_ ?_ 0 _ _ (Nat.zero_le _) ?_ ?_
  .rintro i F h hi p9 ⟨p5,p7,p8,rfl,pr⟩
   simp only [go_sem,↓reduceIte,p9,p5,p7,p8]
   exact pr
  .rintro i F h hi p9 ⟨p5,p7,p8,rfl,pr⟩
   obtain ⟨x,hx,hxl,hxm⟩:=De hf hi
   have gX:=Ar hi
   rw [hx] at gX
   have e3:AU s.has (x:Int)=true:=A9.2 hxm
   cases d:Ef t s x with
   | true =>
    simp only [go_sem,↓reduceIte,p9,p5,p7,p8,gX,hi,qSn,e3,d,toNat_natCast,Bool.true_and,A0]
    intro j hj
    rcases Nat.lt_or_ge j i with c | c
    .exact pr j c
    .rw [show j=i by omega,hx,toNat_natCast];exact d
   | false =>
    have e6:decide (w=3)=true:=decide_eq_true (n3.2 ⟨x,hxm,d⟩)
    simp only [go_sem,↓reduceIte,p9,p5,p7,p8,gX,hi,qSn,e3,d,e6,toNat_natCast,Bool.true_and,A0]
  .rintro F h ⟨p5,p7,p8,rfl,pr⟩
   have e6:decide (w=3)=false:=decide_eq_false fun h=>by
    obtain ⟨x,hxm,d⟩:=n3.1 h
    obtain ⟨i,hi,e⟩:=List.getElem_of_mem hxm
    have:=pr i hi
    rw [List.getD_eq_getElem?_getD,List.getElem?_eq_getElem hi,Option.getD_some,e,toNat_natCast,d] at this
    cases this
   simp only [go_sem,↓reduceIte,p5,p7,p8,e6]
  .simp only [go_sem,↓reduceIte]
  .simp only [go_sem,↓reduceIte]
   intro j hj;omega
 | false =>
  cases b6:decide (w=6) with
  | true =>
   have hc:=n6 (of_decide_eq_true b6)
   simp only [P5,go_sem,↓reduceIte,hb,c1,c2,qT,qG,qY,qC,Dt C t ht s hz,hff,b1,b2,b0,b6,hc]
   refine Ab (by decide) s.has.length (by omega) (I:=fun i F h=>A4.tmp F 5 = .p 0 0 0 0/\A4.tmp F 7 = .p 1 0 0 0/\A4.tmp F 8 = .i .i64 w/\h=tsH t s/\∀ j,j < i->Ef t s (s.has.getD j 0).toNat=true) ?_ ?_ ?_ 0 _ _ (Nat.zero_le _) ?_ ?_
   .rintro i F h hi p9 ⟨p5,p7,p8,rfl,pr⟩
    simp only [go_sem,↓reduceIte,p9,p5,p7,p8]
    exact pr
   .rintro i F h hi p9 ⟨p5,p7,p8,rfl,pr⟩
    obtain ⟨x,hx,hxl,hxm⟩:=De hf hi
    have gX:=Ar hi
    rw [hx] at gX
    have e3:AU s.has (x:Int)=true:=A9.2 hxm
    cases d:Ef t s x with
    | true =>
     simp only [go_sem,↓reduceIte,p9,p5,p7,p8,gX,hi,qSn,e3,d,toNat_natCast,Bool.true_and,A0]
     intro j hj
     rcases Nat.lt_or_ge j i with c | c
     .exact pr j c
     .rw [show j=i by omega,hx,toNat_natCast];exact d
    | false =>
     have e6:decide (w=3)=true:=decide_eq_true (n3.2 ⟨x,hxm,d⟩)
     simp only [go_sem,↓reduceIte,p9,p5,p7,p8,gX,hi,qSn,e3,d,e6,toNat_natCast,Bool.true_and,A0]
   .rintro F h ⟨p5,p7,p8,rfl,pr⟩
    have e6:decide (w=3)=false:=decide_eq_false fun h=>by
     obtain ⟨x,hxm,d⟩:=n3.1 h
     obtain ⟨i,hi,e⟩:=List.getElem_of_mem hxm
     have:=pr i hi
     rw [List.getD_eq_getElem?_getD,List.getElem?_eq_getElem hi,Option.getD_some,e,toNat_natCast,d] at this
     cases this
    simp only [go_sem,↓reduceIte,p5,p7,p8,e6]
   .simp only [go_sem,↓reduceIte]
   .simp only [go_sem,↓reduceIte]
    intro j hj;omega
  | false =>
   simp only [P5,go_sem,↓reduceIte,hb,c1,c2,qT,qG,qY,qC,Dt C t ht s hz,hff,b1,b2,b0,b6]
   refine Ab (by decide) s.has.length (by omega) (I:=fun i F h=>A4.tmp F 5 = .p 0 0 0 0/\A4.tmp F 7 = .p 1 0 0 0/\A4.tmp F 8 = .i .i64 w/\h=tsH t s/\∀ j,j < i->Ef t s (s.has.getD j 0).toNat=true) ?_ ?_ ?_ 0 _ _ (Nat.zero_le _) ?_ ?_
   .rintro i F h hi p9 ⟨p5,p7,p8,rfl,pr⟩
    simp only [go_sem,↓reduceIte,p9,p5,p7,p8]
    exact pr
   .rintro i F h hi p9 ⟨p5,p7,p8,rfl,pr⟩
    obtain ⟨x,hx,hxl,hxm⟩:=De hf hi
    have gX:=Ar hi
    rw [hx] at gX
    have e3:AU s.has (x:Int)=true:=A9.2 hxm
    cases d:Ef t s x with
    | true =>
     simp only [go_sem,↓reduceIte,p9,p5,p7,p8,gX,hi,qSn,e3,d,toNat_natCast,Bool.true_and,A0]
     intro j hj
     rcases Nat.lt_or_ge j i with c | c
     .exact pr j c
     .rw [show j=i by omega,hx,toNat_natCast];exact d
    | false =>
     have e6:decide (w=3)=true:=decide_eq_true (n3.2 ⟨x,hxm,d⟩)
     simp only [go_sem,↓reduceIte,p9,p5,p7,p8,gX,hi,qSn,e3,d,e6,toNat_natCast,Bool.true_and,A0]
   .rintro F h ⟨p5,p7,p8,rfl,pr⟩
    have e6:decide (w=3)=false:=decide_eq_false fun h=>by
     obtain ⟨x,hxm,d⟩:=n3.1 h
     obtain ⟨i,hi,e⟩:=List.getElem_of_mem hxm
     have:=pr i hi
     rw [List.getD_eq_getElem?_getD,List.getElem?_eq_getElem hi,Option.getD_some,e,toNat_natCast,d] at this
     cases this
    simp only [go_sem,↓reduceIte,p5,p7,p8,e6]
   .simp only [go_sem,↓reduceIte]
   .simp only [go_sem,↓reduceIte]
    intro j hj;omega
end
end Go.AM
