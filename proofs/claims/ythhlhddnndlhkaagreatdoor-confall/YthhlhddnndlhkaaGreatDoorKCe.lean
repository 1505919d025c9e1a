/-
  Own work, part of the proof of these laws: what functions compute.
-/
import Derived.Test.YthhlhddnndlhkaaGreatDoorKBe
set_option maxRecDepth 10000
set_option maxHeartbeats 64000000
set_option linter.unusedVariables false
set_option linter.unusedSimpArgs false
set_option linter.unusedSectionVars false
set_option linter.unnecessarySimpa false
open Bool (and_eq_true)
open Int (toNat_natCast)
open List (getElem?_eq_getElem getD_eq_getElem?_getD length_append length_take getElem_mem take_length all_eq_true filter_append filter_cons)
open Nat (zero_le le_trans)
open BitVec (toNat_ofNat)
namespace Go.AM
open Go Go.Proofs
theorem Ahg {α:Type} {d:α} {l m:List α} (h:l.length=m.length) (hj:∀ j,j < l.length->l.getD j d=m.getD j d):l=m:=by
 apply List.ext_getElem h
 intro j h1 h2
 have:=hj j h1
 rw [getD_eq_getElem?_getD,getD_eq_getElem?_getD,getElem?_eq_getElem h1,getElem?_eq_getElem h2] at this
 exact this
section
variable {V:At} (C:Aq V) {Q:VV->Prop}
include C
theorem EA (xs ys:List Int) (hl:xs.length < 9223372036854775807):VP V A5n [lI xs,lI ys] Q↔Q (.b (decide (xs=ys))):=by
 refine Ae ?_
 rw [Ad C.c_z37.1 C.c_z37.2]
 by_cases z:xs.length=ys.length
 .have z':(xs.length:Int)=ys.length:=by omega
  simp only [A3q,go_sem,↓reduceIte,z']
  refine Ab (by decide) ys.length (by omega) (I:=fun k F h=>h=[]/\A4.tmp F 0=lI xs/\A4.tmp F 1=lI ys/\∀ j,j < k->xs.getD j 0=ys.getD j 0) ?_ ?_ ?_ 0 _ _ (zero_le _) ?_ ?_
  .rintro k F h hk p5 ⟨rfl,p0,p1,p2⟩
   simp only [go_sem,↓reduceIte,p5,p0,p1,z']
   exact p2
  .rintro k F h hk p5 ⟨rfl,p0,p1,p2⟩
   have h0:k < xs.length:=by omega
   by_cases c:xs.getD k 0=ys.getD k 0
   .simp only [go_sem,↓reduceIte,p5,p0,p1,Ar hk,Ar h0,c]
    intro j hj
    by_cases e:j=k
    .rw [e];exact c
    .exact p2 j (by omega)
   .simp only [go_sem,↓reduceIte,p5,p0,p1,Ar hk,Ar h0,c]
    rw [eq_comm,decide_eq_false_iff_not]
    intro e;rw [e] at c;exact c rfl
  .rintro F h ⟨rfl,p0,p1,p2⟩
   simp only [go_sem,↓reduceIte,p0,p1]
   rw [eq_comm,decide_eq_true_iff]
   exact Ahg (d:=0) z fun j hj=>p2 j (by omega)
  .simp only [go_sem,↓reduceIte]
  .simp only [go_sem,↓reduceIte]
   intro j hj;omega
 .have z':¬ (xs.length:Int)=ys.length:=by omega
  simp only [A3q,go_sem,↓reduceIte,z']
  rw [eq_comm,decide_eq_false_iff_not]
  intro e;rw [e] at z;exact z rfl
theorem A79 (s:A6):VP V A5l [Dy s] fun x=>∃ b:Bool,x = .b b/\(b=true->DL s):=by
 rw [Ad C.c_z33.1 C.c_z33.2]
 by_cases c1:(40:Int) < s.has.length
 .simp only [XF,go_sem,↓reduceIte,c1]
 by_cases c2:(40:Int) < s.jf.length
 .simp only [XF,go_sem,↓reduceIte,c1,c2]
 by_cases c3:(6:Int) < s.mo.length
 .simp only [XF,go_sem,↓reduceIte,c1,c2,c3]
 simp only [XF,go_sem,↓reduceIte,c1,c2,c3]
 refine Ab (by decide) s.mo.length (by omega) (I:=fun k F h=>h=[]/\A4.tmp F 1 = .fp (Je s) 0/\∀ j,j < k->(s.mo.getD j []).length<=20/\∀ i,i < (s.mo.getD j []).length->((s.mo.getD j []).getD i []).length<=20) ?_ ?_ ?_ 0 _ _ (zero_le _) ?_ ?_
 .rintro k F h hk p3 ⟨rfl,p1,p2⟩
  simp only [go_sem,↓reduceIte,p3,p1]
  exact p2
 .rintro k F h hk p3 ⟨rfl,p1,p2⟩
  by_cases c4:(20:Int) < (s.mo.getD k []).length
  .simp only [go_sem,↓reduceIte,p3,p1,C1 hk,c4]
  .simp only [go_sem,↓reduceIte,p3,p1,C1 hk,c4]
   refine Ab (by decide) (s.mo.getD k []).length (by omega) (I:=fun i F h=>h=[]/\A4.tmp F 1 = .fp (Je s) 0/\A4.tmp F 3 = .i .i64 k/\∀ j,j < i->((s.mo.getD k []).getD j []).length<=20) ?_ ?_ ?_ 0 _ _ (zero_le _) ?_ ?_
   .rintro i F h hi q4 ⟨rfl,q1,q3,q2⟩
    simp only [go_sem,↓reduceIte,q4,q1,q3,C1 hk]
    exact q2
   .rintro i F h hi q4 ⟨rfl,q1,q3,q2⟩
    by_cases c5:(20:Int) < ((s.mo.getD k []).getD i []).length
    .simp only [go_sem,↓reduceIte,q4,q1,q3,C1 hk,ET hi,c5]
    .simp only [go_sem,↓reduceIte,q4,q1,q3,C1 hk,ET hi,c5]
     intro j hj
     by_cases e:j=i
     .subst e;omega
     .exact q2 j (by omega)
   .rintro F h ⟨rfl,q1,q3,q2⟩
    simp only [go_sem,↓reduceIte,q1,q3]
    intro j hj
    by_cases e:j=k
    .subst e;exact ⟨by omega,q2⟩
    .exact p2 j (by omega)
   .simp only [go_sem,↓reduceIte,p3,p1]
   .simp only [go_sem,↓reduceIte,p3,p1]
    intro j hj;omega
 .rintro F h ⟨rfl,p1,p2⟩
  simp only [go_sem,↓reduceIte,p1]
  refine ⟨by omega,by omega,by omega,fun l hl=>?_,fun l hl c hc=>?_⟩
  .obtain ⟨j,hj,rfl⟩:=List.mem_iff_getElem.1 hl
   have:=(p2 j hj).1
   rw [getD_eq_getElem?_getD,getElem?_eq_getElem hj] at this
   exact le_trans this (by omega)
  .obtain ⟨j,hj,rfl⟩:=List.mem_iff_getElem.1 hl
   obtain ⟨i,hi,rfl⟩:=List.mem_iff_getElem.1 hc
   have:=(p2 j hj).2
   rw [getD_eq_getElem?_getD,getElem?_eq_getElem hj] at this
   have:=this i hi
   rw [getD_eq_getElem?_getD,Option.getD_some,getElem?_eq_getElem hi] at this
   exact le_trans this (by omega)
 .simp only [go_sem,↓reduceIte]
 .simp only [go_sem,↓reduceIte]
  intro j hj;omega
end
theorem Ms {t:A1} {l:List Int} (h:Cz t l=true):∀ n∈l,BP t n=true:=by
 intro n hn
 obtain ⟨k,hk,rfl⟩:=List.mem_iff_getElem.1 hn
 simp only [Cz,and_eq_true] at h
 have:=Ah.1 h.1 k hk
 simp only [Cs,and_eq_true] at this
 have:=this.1.1
 rw [getD_eq_getElem?_getD,getElem?_eq_getElem hk] at this
 exact this
theorem HI {p:Nat->Bool} {k:Nat} (h:∀ j,j < k->p j=true) (hk:p k=true):∀ j,j < k+1->p j=true:=by
 intro j hj
 by_cases e:j=k
 .subst e;exact hk
 .exact h j (by omega)
theorem MX {t:A1} {s:A6} (h:Cz t s.has=true->s.jf.length=s.has.length->s.mo.length=t.locs.length->(List.range s.has.length).all (Jl t s)=true->(List.range s.mo.length).all (Eh t s)=true->(List.range s.has.length).all (Mv t s)=true->False):false=Bd t s:=by
 rw [eq_comm,<- Bool.not_eq_true]
 intro e
 simp only [Bd,and_eq_true,decide_eq_true_eq] at e
 exact h e.1.1.1.1.1 e.1.1.1.1.2 e.1.1.1.2 e.1.1.2 e.1.2 e.2
section
variable {V:At} (C:Aq V) {Q:VV->Prop}
include C
theorem Bv (t:A1) (ht:A5 t) (s:A6) (hs:DL s):VP V A1r [vT t,Dy s] Q↔Q (.b (Bd t s)):=by
 refine Ae ?_
 rw [Ad C.c_z56.1 C.c_z56.2]
 have hu:=ht.up
 have hn:=ht.n64
 have hh:=hs.has
 have hj:=hs.jf
 have hz:=hs.mo
 have s1:=fun (Q:VV->Prop)=>A2T C t (by omega) s.has (by omega) (Q:=Q)
 cases c1:Cz t s.has with
 | false =>
  simp only [XG,go_sem,↓reduceIte,s1,c1]
  exact MX fun h _ _ _ _ _=>by rw [c1] at h;cases h
 | true =>
 have h2:=Ms c1
 by_cases c2:¬ s.jf.length=s.has.length
 .have he:¬ (s.jf.length:Int)=s.has.length:=by omega
  simp only [XG,go_sem,↓reduceIte,s1,c1,he]
  exact MX fun _ h _ _ _ _=>c2 h
 have c2:=Decidable.not_not.1 c2
 have he:(s.jf.length:Int)=s.has.length:=by omega
 by_cases c3:¬ s.mo.length=t.locs.length
 .have ho:¬ (s.mo.length:Int)=t.locs.length:=by omega
  simp only [XG,go_sem,↓reduceIte,s1,c1,he,ho]
  exact MX fun _ _ h _ _ _=>c3 h
 have c3:=Decidable.not_not.1 c3
 have ho:(s.mo.length:Int)=t.locs.length:=by omega
 simp only [XG,go_sem,↓reduceIte,s1,c1,he,ho]
 refine Ab (by decide) s.has.length (by omega) (I:=fun k F h=>h=[]/\A4.tmp F 2 = .fp (eT t) 0/\A4.tmp F 3 = .fp (Je s) 0/\∀ j,j < k->Jl t s j=true) ?_ ?_ ?_ 0 _ _ (zero_le _) ?_ ?_
 .rintro k F h hk p5 ⟨rfl,p2,p3,p4⟩
  simp only [go_sem,↓reduceIte,p5,p2,p3]
  exact p4
 .rintro k F h hk p5 ⟨rfl,p2,p3,p4⟩
  have h6:k < s.jf.length:=by omega
  obtain ⟨n,h0,h4⟩:=A8 (h2 _ (Ai (d:=0) hk))
  have h3:Jl t s k=false->false=Bd t s:=fun h=>MX fun _ _ _ h1 _ _=>by rw [AP hk h] at h1;cases h1
  have hb:Jl t s k=if (t.at n).kind=2 then AU s.has (s.jf.getD k 0) && HT t (s.jf.getD k 0) (t.at n).loc && decide ((t.at (s.jf.getD k 0).toNat).val=(t.at n).val) else decide (s.jf.getD k 0 = -1):=by
   unfold Jl;rw [h0,toNat_natCast]
  by_cases k2:(t.at n).kind=2
  .rw [if_pos k2] at hb
   cases w1:AU s.has (s.jf.getD k 0) with
   | false =>
    simp only [go_sem,↓reduceIte,p5,p2,p3,Ar hk,Ar h6,h0,A7 h4,k2,Ao C s.has (by omega),Cg,w1,A0]
    exact h3 (by rw [hb,w1];rfl)
   | true =>
   obtain ⟨m,ha,hg⟩:=A8 (h2 _ (A9.1 w1))
   have h5:Jl t s k=(decide ((t.at m).kind=3) && decide ((t.at m).loc=(t.at n).loc) && decide ((t.at m).val=(t.at n).val)):=by
    rw [hb,w1];unfold HT;rw [ha,toNat_natCast,Bool.true_and]
   rw [ha] at w1
   cases x1:decide ((t.at m).kind=3) with
   | false =>
    simp only [go_sem,↓reduceIte,p5,p2,p3,Ar hk,Ar h6,h0,ha,A7 h4,A7 hg,k2,Ao C s.has (by omega),Cg,w1,x1,A0]
    exact h3 (by rw [h5,x1];rfl)
   | true =>
   cases x2:decide ((t.at m).loc=(t.at n).loc) with
   | false =>
    simp only [go_sem,↓reduceIte,p5,p2,p3,Ar hk,Ar h6,h0,ha,A7 h4,A7 hg,k2,Ao C s.has (by omega),Cg,w1,x1,x2,A0]
    exact h3 (by rw [h5,x1,x2];rfl)
   | true =>
   cases x3:decide ((t.at m).val=(t.at n).val) with
   | false =>
    simp only [go_sem,↓reduceIte,p5,p2,p3,Ar hk,Ar h6,h0,ha,A7 h4,A7 hg,k2,Ao C s.has (by omega),Cg,w1,x1,x2,x3,A0]
    exact h3 (by rw [h5,x1,x2,x3];rfl)
   | true =>
    simp only [go_sem,↓reduceIte,p5,p2,p3,Ar hk,Ar h6,h0,ha,A7 h4,A7 hg,k2,Ao C s.has (by omega),Cg,w1,x1,x2,x3,A0]
    exact HI p4 (by rw [h5,x1,x2,x3];rfl)
  .rw [if_neg k2] at hb
   cases w1:decide (s.jf.getD k 0 = -1) with
   | false =>
    simp only [go_sem,↓reduceIte,p5,p2,p3,Ar hk,Ar h6,h0,A7 h4,k2,w1,A0]
    exact h3 (by rw [hb,w1])
   | true =>
    simp only [go_sem,↓reduceIte,p5,p2,p3,Ar hk,Ar h6,h0,A7 h4,k2,w1,A0]
    exact HI p4 (by rw [hb,w1])
 .rintro F h ⟨rfl,p2,p3,p4⟩
  have f1:=AQ p4
  simp only [go_sem,↓reduceIte,p2,p3]
  refine Ab (by decide) s.mo.length (by omega) (I:=fun k F h=>h=[]/\A4.tmp F 2 = .fp (eT t) 0/\A4.tmp F 3 = .fp (Je s) 0/\∀ j,j < k->Eh t s j=true) ?_ ?_ ?_ 0 _ _ (zero_le _) ?_ ?_
  .rintro k F h hk p8 ⟨rfl,p2,p3,p4⟩
   simp only [go_sem,↓reduceIte,p8,p2,p3]
   exact p4
  .rintro k F h hk p8 ⟨rfl,p2,p3,p4⟩
   have hx:=hs.mi' k
   have h3:Eh t s k=false->false=Bd t s:=fun h=>MX fun _ _ _ _ h1 _=>by rw [AP hk h] at h1;cases h1
   by_cases z:(s.mo.getD k []).length=0
   .have z':((s.mo.getD k []).length:Int)=0:=by omega
    simp only [go_sem,↓reduceIte,p8,p2,p3,C1 hk,z',A0]
    exact h3 (by simp only [Eh,z];simp)
   have z':¬ ((s.mo.getD k []).length:Int)=0:=by omega
   have z0:0 < (s.mo.getD k []).length:=by omega
   by_cases z1:¬ ((s.mo.getD k []).getD 0 []).length=1
   .have hm:¬ (((s.mo.getD k []).getD 0 []).length:Int)=1:=by omega
    simp only [go_sem,↓reduceIte,p8,p2,p3,C1 hk,z',ET z0,hm,A0]
    have:decide ((s.mo.getD k []).getD 0 []=[(k:Int)])=false:=decide_eq_false fun e=>z1 (by rw [e];rfl)
    exact h3 (by simp only [Eh,this,Bool.and_false,Bool.false_and])
   have z1:=Decidable.not_not.1 z1
   have hm:(((s.mo.getD k []).getD 0 []).length:Int)=1:=by omega
   have z2:0 < ((s.mo.getD k []).getD 0 []).length:=by omega
   cases z3:decide (((s.mo.getD k []).getD 0 []).getD 0 0=k) with
   | false =>
    simp only [go_sem,↓reduceIte,p8,p2,p3,C1 hk,z',ET z0,hm,Ar z2,z3,A0]
    have:decide ((s.mo.getD k []).getD 0 []=[(k:Int)])=false:=decide_eq_false fun e=>by rw [e] at z3;simp at z3
    exact h3 (by simp only [Eh,this,Bool.and_false,Bool.false_and])
   | true =>
   have hq:Eh t s k=(List.range (s.mo.getD k []).length).all fun i=>decide (i=0) || CE t ((s.mo.getD k []).getD i []) s.has k:=by
    have e1:(s.mo.getD k []).getD 0 []=[(k:Int)]:=by
     have z3:=of_decide_eq_true z3
     generalize (s.mo.getD k []).getD 0 []=c at *
     rcases c with _ | ⟨c0,_ | ⟨c1,c⟩⟩
     .simp at z1
     .simpa using z3
     .simp at z1
    have:decide ((s.mo.getD k []).getD 0 []=[(k:Int)])=true:=decide_eq_true e1
    simp only [Eh,this,z,decide_false,Bool.not_false,Bool.true_and]
   simp only [go_sem,↓reduceIte,p8,p2,p3,C1 hk,z',ET z0,hm,Ar z2,z3,A0]
   refine Ab (by decide) (s.mo.getD k []).length (by omega) (I:=fun i F h=>h=[]/\A4.tmp F 2 = .fp (eT t) 0/\A4.tmp F 3 = .fp (Je s) 0/\A4.tmp F 8 = .i .i64 k/\1<=i/\∀ j,j < i->(decide (j=0) || CE t ((s.mo.getD k []).getD j []) s.has k)=true) ?_ ?_ ?_ 1 _ _ (by omega) ?_ ?_
   .rintro i F h hi q9 ⟨rfl,q2,q3,q8,q1,q4⟩
    simp only [go_sem,↓reduceIte,q9,q2,q3,q8,C1 hk]
    exact ⟨q1,q4⟩
   .rintro i F h hi q9 ⟨rfl,q2,q3,q8,q1,q4⟩
    have hw:=hs.mc' k i
    have s2:=fun (Q:VV->Prop)=>A2R C t hu ((s.mo.getD k []).getD i []) s.has (by omega) (by omega) h2 k (Q:=Q)
    cases c4:CE t ((s.mo.getD k []).getD i []) s.has k with
    | false =>
     simp only [go_sem,↓reduceIte,q9,q2,q3,q8,C1 hk,ET hi,s2,c4,A0]
     exact h3 (by rw [hq];exact AP hi (by rw [c4,decide_eq_false (by omega)];rfl))
    | true =>
     simp only [go_sem,↓reduceIte,q9,q2,q3,q8,C1 hk,ET hi,s2,c4,A0]
     exact HI q4 (by rw [c4];simp)
   .rintro F h ⟨rfl,q2,q3,q8,q1,q4⟩
    simp only [go_sem,↓reduceIte,q2,q3,q8]
    exact HI p4 (by rw [hq];exact AQ q4)
   .simp only [go_sem,↓reduceIte,p2,p3,p8]
   .simp only [go_sem,↓reduceIte,p2,p3,p8]
    intro j hj
    simp [show j=0 by omega]
  .rintro F h ⟨rfl,p2,p3,p4⟩
   have f2:=AQ p4
   simp only [go_sem,↓reduceIte,p2,p3]
   refine Ab (by decide) s.has.length (by omega) (I:=fun k F h=>h=[]/\A4.tmp F 2 = .fp (eT t) 0/\A4.tmp F 3 = .fp (Je s) 0/\∀ j,j < k->Mv t s j=true) ?_ ?_ ?_ 0 _ _ (zero_le _) ?_ ?_
   .rintro k F h hk hc ⟨rfl,p2,p3,p4⟩
    simp only [go_sem,↓reduceIte,hc,p2,p3]
    exact p4
   .rintro k F h hk hc ⟨rfl,p2,p3,p4⟩
    obtain ⟨n,h0,h4⟩:=A8 (h2 _ (Ai (d:=0) hk))
    have h3:Mv t s k=false->false=Bd t s:=fun h=>MX fun _ _ _ _ _ h1=>by rw [AP hk h] at h1;cases h1
    have hd:Mv t s k=(!decide ((t.at n).kind=3) || decide (((s.mo.getD (t.at n).loc.toNat []).filter fun c=>AU c (n:Int)).length=1)):=by unfold Mv;rw [h0,toNat_natCast]
    cases k3:decide ((t.at n).kind=3) with
    | false =>
     simp only [go_sem,↓reduceIte,hc,p2,p3,Ar hk,h0,A7 h4,k3,A0]
     exact HI p4 (by rw [hd,k3];rfl)
    | true =>
    rw [k3,Bool.not_true,Bool.false_or] at hd
    obtain ⟨l1,l2⟩:=ht.wloc h4 (.inr (of_decide_eq_true k3))
    obtain ⟨lc,hf⟩:=Int.eq_ofNat_of_zero_le l1
    have hp:lc < s.mo.length:=by omega
    rw [hf,toNat_natCast] at hd
    simp only [go_sem,↓reduceIte,hc,p2,p3,Ar hk,h0,A7 h4,k3,A0]
    have hx:=hs.mi' lc
    refine Ab (by decide) (s.mo.getD lc []).length (by omega) (I:=fun i F h=>h=[some ⟨Ck,0,0,false,[eN (t.at n)]⟩]/\A4.tmp F 2 = .fp (eT t) 0/\A4.tmp F 3 = .fp (Je s) 0/\A4.tmp F 10 = .i .i64 k/\A4.tmp F 11 = .p 0 0 0 0/\A4.tmp F 12 = .i .i64 ((((s.mo.getD lc []).take i).filter fun c=>AU c (n:Int)).length:Nat)) ?_ ?_ ?_ 0 _ _ (zero_le _) ?_ ?_
    .rintro i F h hi hl ⟨rfl,q2,q3,h7,h8,h9⟩
     simp only [go_sem,↓reduceIte,hl,q2,q3,h7,h8,h9,hf,C1 hp]
    .rintro i F h hi hl ⟨rfl,q2,q3,h7,h8,h9⟩
     have hw:=hs.mc' lc i
     have s2:=fun (Q:VV->Prop)=>Ao C ((s.mo.getD lc []).getD i []) (by omega) (n:Int) (Q:=Q)
     have hr:(s.mo.getD lc []).take (i+1)=(s.mo.getD lc []).take i++[(s.mo.getD lc []).getD i []]:=by
      have e:=List.take_succ_eq_append_getElem hi
      have e2:(s.mo.getD lc []).getD i []=(s.mo.getD lc [])[i]:=by rw [getD_eq_getElem?_getD,getElem?_eq_getElem hi];rfl
      rw [e2];exact e
     cases c4:AU ((s.mo.getD lc []).getD i []) (n:Int) with
     | false =>
      simp only [go_sem,↓reduceIte,hl,q2,q3,h7,h8,h9,hf,C1 hp,ET hi,Ar hk,h0,s2,EB,c4,A0]
      have e:[(s.mo.getD lc []).getD i []].filter (fun c=>AU c (n:Int))=[]:=by rw [filter_cons,c4];rfl
      rw [hr,filter_append,e,List.append_nil]
     | true =>
      have hy:(((s.mo.getD lc []).take i).filter fun c=>AU c (n:Int)).length<=1000:=le_trans (List.length_filter_le _ _) (by rw [length_take];omega)
      have w1:=HL (show (((s.mo.getD lc []).take i).filter fun c=>AU c (n:Int)).length < 9223372036854775807 by omega)
      simp only [go_sem,↓reduceIte,hl,q2,q3,h7,h8,h9,hf,C1 hp,ET hi,Ar hk,h0,s2,EB,c4,w1,A0]
      have e:[(s.mo.getD lc []).getD i []].filter (fun c=>AU c (n:Int))=[(s.mo.getD lc []).getD i []]:=by rw [filter_cons,c4];rfl
      rw [hr,filter_append,e,length_append];rfl
    .rintro F h ⟨rfl,q2,q3,h7,h8,h9⟩
     by_cases c5:((s.mo.getD lc []).filter fun c=>AU c (n:Int)).length=1
     .simp only [go_sem,↓reduceIte,q2,q3,h7,h8,h9,take_length,c5]
      exact HI p4 (by rw [hd,c5];rfl)
     .have hv:decide ((((s.mo.getD lc []).filter fun c=>AU c (n:Int)).length:Int)=1)=false:=decide_eq_false (by omega)
      simp only [go_sem,↓reduceIte,q2,q3,h7,h8,h9,take_length,hv]
      exact h3 (by rw [hd];exact decide_eq_false c5)
    .simp only [go_sem,↓reduceIte,p2,p3,hc]
    .simp only [go_sem,↓reduceIte,p2,p3,hc]
   .rintro F h ⟨rfl,p2,p3,p4⟩
    have f3:=AQ p4
    simp only [go_sem,↓reduceIte,p2,p3]
    unfold Bd
    rw [c1,decide_eq_true c2,decide_eq_true c3,f1,f2,f3];rfl
   .simp only [go_sem,↓reduceIte,p2,p3]
   .simp only [go_sem,↓reduceIte,p2,p3]
    intro j hj;omega
  .simp only [go_sem,↓reduceIte,p2,p3]
  .simp only [go_sem,↓reduceIte,p2,p3]
   intro j hj;omega
 .simp only [go_sem,↓reduceIte]
 .simp only [go_sem,↓reduceIte]
  intro j hj;omega
end
abbrev eD (t:A1):List VV:=[.i .i64 t.vals,lS t.locs,.ls (t.regs.map JE),.ls (t.nodes.map eN),lI (Anu t),lW (Afo t)]
abbrev vD (t:A1):VV:=.ag (eD t)
theorem AwR:min 4 6=4:=rfl
def hD (t:A1) (k:Nat):VH:=[some ⟨Xr,0,0,false,[[.i .i64 0,.nl,.nl,.nl,.nl,.nl]]⟩,
 some ⟨AO,1,0,false,(Dj t.nodes.length k (Yy t) 0).map eI⟩,some ⟨AK,1,0,false,(Dj t.nodes.length k (ovr t) 0#64).map eW⟩,
 some ⟨Xr,0,0,false,[[.i .i64 t.vals,lS t.locs,.ls (t.regs.map JE),.ls (t.nodes.map eN),.sl 1 0 0 t.nodes.length,.sl 2 0 0 t.nodes.length]]⟩]
section
variable {V:At} (C:Aq V) {Q:VV->Prop}
include C
theorem KI (t:A1) (ht:A5 t):VP V A5U [vT t] Q↔Q (.tu [vD t,.b true]):=by
 refine Ae ?_
 rw [Ad C.c_z90.1 C.c_z90.2]
 have hn:=ht.n64
 have hu:=ht.up
 have b1:t.nodes.length * 8<=Aa:=by unfold Aa;omega
 have s1:=fun (Q:VV->Prop)=>Sh C t ht (Q:=Q)
 simp only [A9J,go_sem,↓reduceIte,s1,b1,Int.le_refl,AwR]
 refine Ag (by decide) t.nodes.length (by omega) (I:=fun k F h=>A4.tmp F 1 = .fp (eT t) 0/\A4.tmp F 2 = .p 0 0 0 0/\A4.tmp F 4 = .p 3 0 0 0/\A4.tmp F 22 = .ls (t.nodes.map eN)/\h=hD t k) ?_ ?_ 0 _ _ (by omega) ?_ ?_ ?_
 .rintro k F h hk h4 h3 ⟨p1,p2,p4,h1,rfl⟩
  have h5:=hu k hk
  by_cases c:0<=(t.at k).up
  .obtain ⟨u,h2⟩:=Int.eq_ofNat_of_zero_le c
   have h0:u < t.nodes.length:=by omega
   have g1:=Ae0 (n:=t.nodes.length) (k:=k) (j:=u) (f:=Yy t) (z:=(0:Int)) (by omega) h0
   have g2:=Ae0 (n:=t.nodes.length) (k:=k) (j:=u) (f:=ovr t) (z:=0#64) (by omega) h0
   have d1:=Anv hu (u+1) u (by omega) h0
   have wd:IntKind.i64.wrap (Yy t u+1)=Yy t k:=by rw [AbB hu hk h2,Az (by omega) (by omega)]
   have wo:=(AhY hu hk h2).symm
   simp only [go_sem,↓reduceIte,h4,h3,p1,p2,p4,h1,hD,hk,A7 hk,c,h2,h0,g1,g2,C0 C,A0,JB hk,wd,wo]
   have e:=RD (n:=t.nodes.length) (k:=k) (f:=Yy t) (z:=(0:Int)) id
   rw [List.map_id,List.map_id] at e
   rw [show Yy t k=id (Yy t k) from rfl,e]
  .simp only [go_sem,↓reduceIte,h4,h3,p1,p2,p4,h1,hD,hk,A7 hk,c,A0]
   rw [A6e (f:=Yy t) (Ah1 (by omega)),A6e (f:=ovr t) (AhX (by omega))]
 .rintro F h ⟨p1,p2,p4,h1,rfl⟩
  simp only [go_sem,↓reduceIte,p1,p2,p4,h1,hD]
  rw [Ho,Ho];rfl
 .simp only [go_sem,↓reduceIte]
 .simp only [go_sem,↓reduceIte]
 .simp only [go_sem,↓reduceIte]
  rw [hD,EZ,EZ]
theorem J1 (t:A1) {n:Nat} (hn:n < t.nodes.length):VP V Qi [vD t,.i .i64 n] Q↔Q (.b (decide ((t.at n).thread < 0))):=by
 refine Ae ?_
 rw [Ad C.c_z193.1 C.c_z193.2]
 simp only [A0c,go_sem,↓reduceIte,A7 hn]
theorem A7N (t:A1) {n:Nat} (hn:n < t.nodes.length):VP V A1x [vD t,.i .i64 n] Q↔Q (.b (decide ((t.at n).up < 0))):=by
 refine Ae ?_
 rw [Ad C.c_z94.1 C.c_z94.2]
 simp only [A9N,go_sem,↓reduceIte,A7 hn]
theorem JA (t:A1) (ht:A5 t) {a b:Nat} (ha:a < t.nodes.length) (hb:b < t.nodes.length):VP V Vm [vD t,.i .i64 a,.i .i64 b] Q↔Q (.b (Aw t a b)):=by
 refine Ae ?_
 rw [Ad C.c_z149.1 C.c_z149.2]
 have e:=A6M ht.up ht.n64 ha hb
 cases c:decide (Yy t a < Yy t b) with
 | false =>
  simp only [S0,go_sem,↓reduceIte,QR ha,QR hb,c]
  rw [<- e,c];rfl
 | true =>
  simp only [S0,go_sem,↓reduceIte,QR ha,QR hb,Aar hb,c,AN C]
  rw [<- e,c];rfl
theorem A31 (t:A1) (ht:A5 t) {a b:Nat} (ha:a < t.nodes.length) (hb:b < t.nodes.length):VP V Qg [vD t,.i .i64 a,.i .i64 b] Q↔Q (.b (Ap t a b)):=by
 refine Ae ?_
 rw [Ad C.c_z187.1 C.c_z187.2]
 have e:Ap t a b=if (t.at a).thread < 0 then decide (0<=(t.at b).thread) else Aw t a b:=by
  unfold Ap;rw [BM ha,BM hb,toNat_natCast,toNat_natCast];rfl
 cases c:decide ((t.at a).thread < 0) with
 | true =>
  simp only [S9,go_sem,↓reduceIte,J1 C t ha,J1 C t hb,c]
  rw [e,if_pos (of_decide_eq_true c)]
  by_cases d:(t.at b).thread < 0
  .rw [decide_eq_true d,decide_eq_false (by omega)];rfl
  .rw [decide_eq_false d,decide_eq_true (by omega)];rfl
 | false =>
  simp only [S9,go_sem,↓reduceIte,J1 C t ha,JA C t ht ha hb,c]
  rw [e,if_neg (of_decide_eq_false c)]
theorem A2i (t:A1) (ht:A5 t) {a b:Nat} (ha:a < t.nodes.length) (hb:b < t.nodes.length):VP V A1w [vD t,.i .i64 a,.i .i64 b] Q↔Q (.b (AH t a b)):=by
 refine Ae ?_
 rw [Ad C.c_z92.1 C.c_z92.2]
 have e:AH t a b=(!decide ((a:Int)=b) && decide (0<=(t.at a).thread) && decide ((t.at a).thread=(t.at b).thread) && !Aw t a b && !Aw t b a):=by
  unfold AH;rw [BM ha,BM hb,toNat_natCast,toNat_natCast];rfl
 cases c1:decide ((a:Int)=b)<;>cases c2:decide (0<=(t.at a).thread)<;>cases c3:decide ((t.at a).thread=(t.at b).thread)<;>cases c4:Aw t a b<;>cases c5:Aw t b a<;>rw [c1,c2,c3,c4,c5] at e <;>
  simp only [A9L,go_sem,↓reduceIte,A7 ha,A7 hb,JA C t ht ha hb,JA C t ht hb ha,c1,c2,c3,c4,c5]<;>first | exact e.symm | (rw [e];rfl)
theorem Ct (n:AX):VP V Wb [vN n] Q↔Q (.b (Dr n)):=by
 refine Ae ?_
 rw [Ad C.c_z199.1 C.c_z199.2]
 cases c1:decide (n.kind=3)<;>cases c2:decide (0<=n.thread)<;>cases c3:decide (n.mode=0)<;>cases c4:n.rmw <;>
  simp only [A0g,go_sem,↓reduceIte,c1,c2,c3,c4]<;>simp [Dr,c1,c2,c3,c4]
end
theorem A67 (L:Nat):∀ (l:List (List VV)),(∀ r∈l,∃ x,r=[vW x])->l.all (Db L)=true:=by
 intro l h
 rw [all_eq_true]
 intro r hr
 obtain ⟨x,rfl⟩:=h r hr
 rfl
theorem Afy {l:List (BitVec 64)} {k:Nat} {x:BitVec 64}:∀ r∈(l.map eW).set k [vW x],∃ x,r=[vW x]:=by
 intro r hr
 rcases List.mem_or_eq_of_mem_set hr with h | h
 .obtain ⟨y,_,rfl⟩:=List.mem_map.1 h;exact ⟨y,rfl⟩
 .exact ⟨x,h⟩
theorem Afx {l:List (BitVec 64)}:∀ r∈l.map eW,∃ x,r=[vW x]:=by
 intro r hr
 obtain ⟨y,_,rfl⟩:=List.mem_map.1 hr;exact ⟨y,rfl⟩
theorem Xh (p:Nat->Bool):(BS fun b=>decide (b < 0) && p b)=0#64:=by
 rw [<- J8]
 exact BD fun j _=>by simp
theorem Xg {k:Nat} (hk:k < 64) (p:Nat->Bool) (h:p k=true):(BS fun b=>decide (b < k) && p b) ||| C4 k=BS fun b=>decide (b < k+1) && p b:=by
 rw [Rq _ k hk]
 refine BD fun j _=>?_
 by_cases e:j=k
 .subst e;simp [h]
 .have:(j < k+1)↔(j < k):=by omega
  simp [e,this]
theorem Xf {k:Nat} (p:Nat->Bool) (h:p k=false):(BS fun b=>decide (b < k) && p b)=BS fun b=>decide (b < k+1) && p b:=by
 refine BD fun j _=>?_
 by_cases e:j=k
 .subst e;simp [h]
 .have:(j < k+1)↔(j < k):=by omega
  simp [this]
section
variable {V:At} (C:Aq V) {Q:VV->Prop}
include C
theorem Qw (t:A1) (hn:t.nodes.length<=64) {gf:Nat} {a c:List VV} (ha:Fz a) (hc:Fz c) (p:Nat->Bool)
  (hp:∀ (i:Nat),i < t.nodes.length->VP V gf (a++[.i .i64 (i:Nat)]++c) fun r=>r = .b (p i)) :
  VP V A5W [vD t,.f gf a c] Q↔Q (vW (BS fun b=>decide (b < t.nodes.length) && p b)):=by
 refine Ae ?_
 rw [Ad C.c_z93.1 C.c_z93.2]
 simp only [A9M,go_sem,↓reduceIte,ha.call hc]
 refine Ag (by decide) t.nodes.length (by omega) (I:=fun k F h=>A4.tmp F 1 = .f gf a c/\A4.tmp F 5=vW (BS fun b=>decide (b < k) && p b)/\h=[]) ?_ ?_ 0 _ _ (by omega) ?_ ?_ ?_
 .rintro k F h hk h2 h1 ⟨p1,p5,rfl⟩
  have hq:=fun Q=>Ae (hp k hk) (Q:=Q)
  have h0:=ha.call hc (h:=[]) (x:=[.i .i64 (k:Nat)]) rfl
  simp only [List.append_assoc,List.cons_append,List.nil_append] at hq h0
  cases z:p k with
  | false =>
   simp only [go_sem,↓reduceIte,h2,h1,p1,p5,h0,hq,Fz.bel ha,Fz.bel hc,A0,z]
   rw [Xf p z]
  | true =>
   simp only [go_sem,↓reduceIte,h2,h1,p1,p5,h0,hq,Fz.bel ha,Fz.bel hc,A0,z,C0 C,Xg (show k < 64 by omega) p z]
 .rintro F h ⟨p1,p5,rfl⟩
  simp only [go_sem,↓reduceIte,p1,p5]
 .simp only [go_sem,↓reduceIte]
 .simp only [go_sem,↓reduceIte]
 .simp only [go_sem,↓reduceIte,Xh]
def hR (n k i:Nat) (p:Nat->Nat->Bool):VH:=[some ⟨AK,1,0,false,((Dj n k (fun x=>BS fun b=>decide (b < n) && p x b) 0#64).map eW).set k [vW (BS fun b=>decide (b < i) && p k b)]⟩]
theorem Y7 (t:A1) (hn:t.nodes.length<=64) {gf:Nat} {a c:List VV} (ha:Fz a) (hc:Fz c) (p:Nat->Nat->Bool)
  (hp:∀ (i j:Nat),i < t.nodes.length->j < t.nodes.length->VP V gf (a++[.i .i64 (i:Nat),.i .i64 (j:Nat)]++c) fun r=>r = .b (p i j)) :
  VP V A5V [vD t,.f gf a c] Q↔Q (lW (Ak t.nodes.length p)):=by
 refine Ae ?_
 rw [Ad C.c_z91.1 C.c_z91.2]
 have b1:t.nodes.length * 8<=Aa:=by unfold Aa;omega
 simp only [A9K,go_sem,↓reduceIte,ha.call hc,b1,Int.le_refl]
 refine Ag (by decide) t.nodes.length (by omega) (I:=fun k F h=>A4.tmp F 1 = .f gf a c/\A4.tmp F 5 = .sl 0 0 0 t.nodes.length/\h=[some ⟨AK,1,0,false,(Dj t.nodes.length k (fun x=>BS fun b=>decide (b < t.nodes.length) && p x b) 0#64).map eW⟩]) ?_ ?_ 0 _ _ (by omega) ?_ ?_ ?_
 .rintro k F h hk h2 h1 ⟨p1,p5,rfl⟩
  simp only [go_sem,↓reduceIte,h2,h1,p1,p5,A0]
  refine Ag (by decide) t.nodes.length (by omega) (I:=fun i F h=>A4.tmp F 1 = .f gf a c/\A4.tmp F 5 = .sl 0 0 0 t.nodes.length/\A4.tmp F 6 = .i .i64 k/\A4.tmp F 15 = .i .i64 k/\A4.tmp F 14 = .i .i64 t.nodes.length/\h=hR t.nodes.length k i p) ?_ ?_ 0 _ _ (by omega) ?_ ?_ ?_
  .rintro i F h hi h6 h5 ⟨q1,q5,q6,h4,h3,rfl⟩
   have hq:=fun Q=>Ae (hp k i hk hi) (Q:=Q)
   have h0:=ha.call hc (h:=hR t.nodes.length k i p) (x:=[.i .i64 (k:Nat),.i .i64 (i:Nat)]) rfl
   simp only [List.append_assoc,List.cons_append,List.nil_append] at hq h0
   cases z:p k i with
   | false =>
    simp only [go_sem,↓reduceIte,h6,h5,q1,q5,q6,h4,h3,h0,hq,Fz.bel ha,Fz.bel hc,A0,z]
    refine ⟨rfl,?_⟩
    rw [hR,hR,Xf (fun b=>p k b) z]
   | true =>
    rw [hR] at h0
    have hg:(((Dj t.nodes.length k (fun x=>BS fun b=>decide (b < t.nodes.length) && p x b) 0#64).map eW).set k [vW (BS fun b=>decide (b < i) && p k b)])[k]? = some [vW (BS fun b=>decide (b < i) && p k b)]:=List.getElem?_set_self (by rw [List.length_map,A2j];exact hk)
    simp only [go_sem,↓reduceIte,h6,h5,q1,q5,q6,h4,h3,h0,hq,Fz.bel ha,Fz.bel hc,A0,z,C0 C,hR,hk,hg,List.set_set,Xg (show i < 64 by omega) (fun b=>p k b) z]
    exact .inr (A67 _ _ Afy)
  .rintro F h ⟨q1,q5,q6,h4,h3,rfl⟩
   simp only [go_sem,↓reduceIte,q1,q5,q6,h4,h3,Fz.bel ha,Fz.bel hc]
   have e:hR t.nodes.length k t.nodes.length p=[some ⟨AK,1,0,false,(Dj t.nodes.length (k+1) (fun x=>BS fun b=>decide (b < t.nodes.length) && p x b) 0#64).map eW⟩]:=by rw [hR,RD (f:=fun x=>BS fun b=>decide (b < t.nodes.length) && p x b) eW]
   rw [e]
   exact ⟨⟨.inr (fun x hx=>by cases hx;exact A67 _ _ Afx),trivial⟩,rfl⟩
  .simp only [go_sem,↓reduceIte,p1,p5,h2,h1]
  .simp only [go_sem,↓reduceIte,p1,p5,h2,h1]
  .simp only [go_sem,↓reduceIte,p1,p5,h2,h1,Fz.bel ha,Fz.bel hc]
   rw [hR,Xh]
   have e:((Dj t.nodes.length k (fun x=>BS fun b=>decide (b < t.nodes.length) && p x b) 0#64).map eW).set k [vW 0#64]=(Dj t.nodes.length k (fun x=>BS fun b=>decide (b < t.nodes.length) && p x b) 0#64).map eW:=by
    have g:((Dj t.nodes.length k (fun x=>BS fun b=>decide (b < t.nodes.length) && p x b) 0#64).map eW)[k]? = some [vW 0#64]:=by rw [List.getElem?_map,JB hk];rfl
    obtain ⟨g1,g2⟩:=List.getElem?_eq_some_iff.1 g
    rw [<- g2,List.set_getElem_self]
   rw [e]
 .rintro F h ⟨p1,p5,rfl⟩
  simp only [go_sem,↓reduceIte,p1,p5,Ho]
  rfl
 .simp only [go_sem,↓reduceIte]
 .simp only [go_sem,↓reduceIte]
 .simp only [go_sem,↓reduceIte,EZ]
theorem fzD (t:A1):Fz [vD t]:=fun _ _=>rfl
theorem HC (t:A1) (ht:A5 t):VP V R6 [vT t] Q↔Q (lW (Ak t.nodes.length fun a b=>AH t a b)):=by
 refine Ae ?_
 rw [Ad C.c_z38.1 C.c_z38.2]
 have s1:=fun (Q:VV->Prop)=>KI C t ht (Q:=Q)
 have s2:=fun (Q:VV->Prop)=>Y7 C t ht.n64 (gf:=A1w) (fzD C t) Fz.nil (fun a b=>AH t a b) (fun i j hi hj=>(A2i C t ht hi hj).2 rfl) (Q:=Q)
 simp only [A95,go_sem,↓reduceIte,s1,s2]
theorem Xk (t:A1) (ht:A5 t):VP V Lj [vT t] Q↔Q (lW (Ak t.nodes.length fun a b=>Ap t a b)):=by
 refine Ae ?_
 rw [Ad C.c_z134.1 C.c_z134.2]
 have s1:=fun (Q:VV->Prop)=>KI C t ht (Q:=Q)
 have s2:=fun (Q:VV->Prop)=>Y7 C t ht.n64 (gf:=Qg) (fzD C t) Fz.nil (fun a b=>Ap t a b) (fun i j hi hj=>(A31 C t ht hi hj).2 rfl) (Q:=Q)
 simp only [ZA,go_sem,↓reduceIte,s1,s2]
theorem RC (t:A1) (ht:A5 t):VP V A1p [vT t] Q↔Q (vW (Gc t)):=by
 refine Ae ?_
 rw [Ad C.c_z41.1 C.c_z41.2]
 have s1:=fun (Q:VV->Prop)=>KI C t ht (Q:=Q)
 have s2:=fun (Q:VV->Prop)=>Qw C t ht.n64 (gf:=A1x) (fzD C t) Fz.nil (fun a=>decide ((t.at a).up < 0)) (fun i hi=>(A7N C t hi).2 rfl) (Q:=Q)
 simp only [A98,go_sem,↓reduceIte,s1,s2]
 rfl
end
def nw (n:Nat):AV:=.i .u64 (n:Int)
theorem X9 {e:Option Yc} (n k m:Nat) (h:k < 64) (hm:2 ^ k=m):Bq .shr e (nw n) (.i .u64 k)=some (nw (n / m)):=by
 have:=AgE (e:=e) (a:=BitVec.ofNat 64 n) h
 have h0:¬ ((k:Int) < 0):=by omega
 simp only [nw,Bq,Jd,if_neg h0,IntKind.bits,Option.some.injEq,AV.i.injEq,true_and,toNat_natCast]
 rw [Nat.min_eq_left (by omega)]
 rw [show ((2:Int) ^ k)=((2 ^ k:Nat):Int) by simp,Int.fdiv_eq_ediv_of_nonneg _ (Int.natCast_nonneg _),hm]
 rfl
theorem A1D {e:Option Yc} (n m:Nat) (hn:n < 18446744073709551616) (hm:m < 18446744073709551616):Bq .and e (nw n) (nw m)=some (nw (n &&& m)):=by
 have h:=A8s (e:=e) (a:=BitVec.ofNat 64 n) (b:=BitVec.ofNat 64 m)
 have e1:Wd (BitVec.ofNat 64 n)=nw n:=by unfold Wd nw;rw [toNat_ofNat,Nat.mod_eq_of_lt hn]
 have e2:Wd (BitVec.ofNat 64 m)=nw m:=by unfold Wd nw;rw [toNat_ofNat,Nat.mod_eq_of_lt hm]
 rw [e1,e2] at h
 rw [h]
 congr 1
 unfold Wd nw
 rw [BitVec.toNat_and,toNat_ofNat,toNat_ofNat,Nat.mod_eq_of_lt hn,Nat.mod_eq_of_lt hm]
theorem X8 {e:Option Yc} (n m:Nat) (h:n+m < 18446744073709551616):Bq .add e (nw n) (nw m)=some (nw (n+m)):=by
 simp only [nw,Bq,Hu,if_true,KL,Option.some.injEq,AV.i.injEq,true_and]
 omega
def wv (n:Nat):VV:=.i .u64 (n:Int)
theorem E6 {op:BinOp} {e:Option Yc} {a b c:Nat} (h:Bq op e (nw a) (nw b)=some (nw c)):Bk op e (wv a) (wv b)=some (wv c):=by
 show (Bq op e (nw a) (nw b)).bind HV=_
 rw [h];rfl
section
variable {V:At} (C:Aq V) {Q:VV->Prop}
include C
theorem A2s (w:BitVec 64):VP V Vj [vW w] Q↔Q (.i .i64 ((Ca w).length:Nat)):=by
 refine Ae ?_
 rw [Ad C.c_z144.1 C.c_z144.2]
 have hw:vW w=wv w.toNat:=rfl
 have hx:=w.isLt
 obtain ⟨l1,l2,l3,l4,l5,l6,l7⟩:=Axg hx
 have hp:=Afq w
 rw [hw]
 generalize w.toNat=x at *
 have c0:VV.i .u64 6148914691236517205=wv 6148914691236517205:=rfl
 have c1:VV.i .u64 3689348814741910323=wv 3689348814741910323:=rfl
 have c2:VV.i .u64 1085102592571150095=wv 1085102592571150095:=rfl
 have k2:VV.i .u64 2=wv 2:=rfl
 have k4:VV.i .u64 4=wv 4:=rfl
 have k8:VV.i .u64 8=wv 8:=rfl
 have h1:VV.i .u64 16=wv 16:=rfl
 have h2:VV.i .u64 32=wv 32:=rfl
 have k1:vW 1#64=wv 1:=rfl
 have t1:∀ e n,Bk .shr e (wv n) (wv 1)=some (wv (n / 2)):=fun e n=>E6 (X9 n 1 2 (by omega) rfl)
 have t2:∀ e n,Bk .shr e (wv n) (wv 2)=some (wv (n / 4)):=fun e n=>E6 (X9 n 2 4 (by omega) rfl)
 have t4:∀ e n,Bk .shr e (wv n) (wv 4)=some (wv (n / 16)):=fun e n=>E6 (X9 n 4 16 (by omega) rfl)
 have t8:∀ e n,Bk .shr e (wv n) (wv 8)=some (wv (n / 256)):=fun e n=>E6 (X9 n 8 256 (by omega) rfl)
 have h3:∀ e n,Bk .shr e (wv n) (wv 16)=some (wv (n / 65536)):=fun e n=>E6 (X9 n 16 65536 (by omega) rfl)
 have h4:∀ e n,Bk .shr e (wv n) (wv 32)=some (wv (n / 4294967296)):=fun e n=>E6 (X9 n 32 4294967296 (by omega) rfl)
 have b1:∀ e,Bk .and e (wv (x / 2)) (wv 6148914691236517205)=some (wv (x / 2 &&& 6148914691236517205)):=fun e=>E6 (A1D _ _ (by omega) (by omega))
 have b2:∀ e,Bk .and e (wv x) (wv 6148914691236517205)=some (wv (x &&& 6148914691236517205)):=fun e=>E6 (A1D _ _ (by omega) (by omega))
 have b3:∀ e,Bk .add e (wv (x / 2 &&& 6148914691236517205)) (wv (x &&& 6148914691236517205))=some (wv (s1 x)):=fun e=>E6 (X8 _ _ l1)
 generalize hy1:s1 x=y1 at *
 have d1:∀ e,Bk .and e (wv (y1 / 4)) (wv 3689348814741910323)=some (wv (y1 / 4 &&& 3689348814741910323)):=fun e=>E6 (A1D _ _ (by omega) (by omega))
 have d2:∀ e,Bk .and e (wv y1) (wv 3689348814741910323)=some (wv (y1 &&& 3689348814741910323)):=fun e=>E6 (A1D _ _ (by omega) (by omega))
 have d3:∀ e,Bk .add e (wv (y1 / 4 &&& 3689348814741910323)) (wv (y1 &&& 3689348814741910323))=some (wv (s2 y1)):=fun e=>E6 (X8 _ _ l2)
 generalize hy2:s2 y1=y2 at *
 have f1:∀ e,Bk .add e (wv (y2 / 16)) (wv y2)=some (wv (y2 / 16+y2)):=fun e=>E6 (X8 _ _ l3)
 have f2:∀ e,Bk .and e (wv (y2 / 16+y2)) (wv 1085102592571150095)=some (wv (s3 y2)):=fun e=>E6 (A1D _ _ l3 (by omega))
 generalize hy3:s3 y2=y3 at *
 have g1:∀ e,Bk .add e (wv y3) (wv (y3 / 256))=some (wv (s4 y3)):=fun e=>E6 (X8 _ _ l5)
 generalize hy4:s4 y3=y4 at *
 have g2:∀ e,Bk .add e (wv y4) (wv (y4 / 65536))=some (wv (s5 y4)):=fun e=>E6 (X8 _ _ l6)
 generalize hy5:s5 y4=y5 at *
 have g3:∀ e,Bk .add e (wv y5) (wv (y5 / 4294967296))=some (wv (s6 y5)):=fun e=>E6 (X8 _ _ (by have:s6 y5=y5+y5 / 4294967296:=rfl;omega))
 generalize hy6:s6 y5=y6 at *
 have g4:∀ e,Bk .and e (.i .i64 (IntKind.i64.wrap (y6:Int))) (.i .i64 127)=some (.i .i64 ((y6 % 128:Nat):Int)):=by
  intro e
  rw [Az (by omega) (by omega)]
  have w2:(BitVec.ofInt 64 (y6:Int)).toNat=y6:=by
   rw [BitVec.ofInt_natCast,toNat_ofNat]
   exact Nat.mod_eq_of_lt (by omega)
  have w3:(BitVec.ofInt 64 127).toNat=127:=rfl
  have w4:y6 &&& 127=y6 % 128:=Nat.and_two_pow_sub_one_eq_mod y6 7
  have w5:(BitVec.ofInt 64 (y6:Int) &&& BitVec.ofInt 64 127).toNat=y6 % 128:=by
   rw [BitVec.toNat_and,w2,w3,w4]
  have h:Bq .and e (.i .i64 (y6:Int)) (.i .i64 127)=some (.i .i64 ((y6 % 128:Nat):Int)):=by
   simp only [Bq,Hu,if_true,Option.some.injEq,AV.i.injEq,true_and]
   show IntKind.i64.wrap (((BitVec.ofInt 64 (y6:Int) &&& BitVec.ofInt 64 127).toNat:Nat):Int)=_
   rw [w5,Az (by omega) (by omega)]
  show (Bq .and e (.i .i64 (y6:Int)) (.i .i64 127)).bind HV=_
  rw [h];rfl
 have h0:∀ h,AgT .i64 (wv y6) h=some (.i .i64 (IntKind.i64.wrap (y6:Int)),h):=fun _=>rfl
 simp only [ZH,go_sem,↓reduceIte,c0,c1,c2,k1,k2,k4,k8,h1,h2,t1,t2,t4,t8,h3,h4,b1,b2,b3,d1,d2,d3,f1,f2,g1,g2,g3,h0,g4,hp]
theorem KS (w:BitVec 64):VP V A5N [vW w] Q↔Q (.i .i64 ((Ca w).length:Nat)):=by
 refine Ae ?_
 rw [Ad C.c_z81.1 C.c_z81.2]
 simp only [A9A,go_sem,↓reduceIte,A2s C]
end
abbrev cfL (t:A1):Rows:=Ak t.nodes.length fun a b=>AH t a b
abbrev eFm (t:A1) (s:A6):List VV:=[.i .i64 t.vals,lS t.locs,.ls (t.regs.map JE),.ls (t.nodes.map eN),lI s.has,lI s.jf,.ls (s.mo.map DD),vW (Cc s.has),lW (cfL t)]
theorem Ase:min 4 9=4:=rfl
theorem mn3:min 3 5=3:=rfl
section
variable {V:At} (C:Aq V) {Q:VV->Prop}
include C
theorem Acq (t:A1) (ht:A5 t) (s:A6) (hs:DL s):VP V UQ [vT t,Dy s] Q↔Q (.fp (eFm t s) 0):=by
 refine Ae ?_
 rw [Ad C.c_z107.1 C.c_z107.2]
 have hh:=hs.has
 have s1:=fun (Q:VV->Prop)=>HC C t ht (Q:=Q)
 simp only [Zq,go_sem,↓reduceIte,s1,MR C s.has (by omega),Ase,mn3]
theorem Kp (t:A1) (ht:A5 t) (s:A6) (hn:Cu t s.has) (n loc:Int):VP V Vz [.fp (eFm t s) 0,.i .i64 n,.i .i64 loc] Q↔Q (.b (BK t s.has n loc)):=by
 refine Ae ?_
 rw [Ad C.c_z159.1 C.c_z159.2]
 have h0:=ht.n64
 cases c1:AU s.has n with
 | false =>
  simp only [S3,go_sem,↓reduceIte,AN C,hn.has h0,c1]
  simp [BK,c1]
 | true =>
  obtain ⟨m,rfl,hm⟩:=A8 (hn n (A9.1 c1))
  have e:BK t s.has m loc=(decide ((t.at m).kind=3) && decide ((t.at m).loc=loc)):=by
   unfold BK HT;rw [c1,toNat_natCast,Bool.true_and]
  cases c2:decide ((t.at m).kind=3)<;>cases c3:decide ((t.at m).loc=loc)<;>rw [c2,c3] at e <;>
   simp only [S3,go_sem,↓reduceIte,AN C,hn.has h0,c1,A7 hm,c2,c3]<;>first | exact e.symm | (rw [e];rfl)
theorem A2X (t:A1) (ht:A5 t) (s:A6) (n:Nat) (hn:n < t.nodes.length) (l:List Int) (hl:l.length<=1000) (hv:Cu t l):VP V We [.fp (eFm t s) 0,.i .i64 n,lI l] Q↔Q (.b (l.all fun m=>Ba t n m)):=by
 refine Ae ?_
 rw [Ad C.c_z200.1 C.c_z200.2]
 have h8:=ht.n64
 simp only [A0h,go_sem,↓reduceIte]
 refine Ag (by decide) l.length (by omega) (I:=fun k F h=>A4.tmp F 0 = .fp (eFm t s) 0/\A4.tmp F 1 = .i .i64 n/\A4.tmp F 11=lI l/\h=[]/\∀ (j:Nat) (hj:j < l.length),j < k->Ba t n l[j]=true) ?_ ?_ 0 _ _ (by omega) ?_ ?_ ?_
 .rintro k F h hk h4 h3 ⟨p0,p1,h0,rfl,p2⟩
  obtain ⟨m,h6,hm⟩:=A8 (hv l[k] (getElem_mem hk))
  have h1:l[k]? = some (m:Int):=by rw [getElem?_eq_getElem hk,h6]
  have e:Ba t n m=(Dr (t.at n) && Dr (t.at m) && decide ((t.at n).val=(t.at m).val) && AH t n m):=by
   unfold Ba;rw [toNat_natCast,toNat_natCast]
  have h7:(cfL t)[n]? = some (BS fun b=>decide (b < t.nodes.length) && AH t n b):=Bm hn
  have h2:Bc (BS fun b=>decide (b < t.nodes.length) && AH t n b) (m:Int)=AH t n m:=by
   have:=Gq (p:=fun a b=>AH t a b) h8 hn hm
   rw [getD_eq_getElem?_getD,Bm hn,Option.getD_some] at this
   exact this
  have h5:Ba t n m=false->false=l.all fun m=>Ba t n m:=fun h=>by
   rw [eq_comm,List.all_eq_false]
   exact ⟨l[k],getElem_mem hk,by rw [h6,h];simp⟩
  have good:Ba t n m=true->∀ (j:Nat) (hj:j < l.length),j < k+1->Ba t n l[j]=true:=fun h j hj h9=>by
   by_cases e:j=k
   .subst e;rw [h6];exact h
   .exact p2 j hj (by omega)
  cases c1:Dr (t.at n) with
  | false =>
   simp only [go_sem,↓reduceIte,h4,h3,p0,p1,h0,hk,h1,A7 hn,A7 hm,Ct C,c1,A0]
   exact h5 (by rw [e,c1];rfl)
  | true =>
  cases c2:Dr (t.at m) with
  | false =>
   simp only [go_sem,↓reduceIte,h4,h3,p0,p1,h0,hk,h1,A7 hn,A7 hm,Ct C,c1,c2,A0]
   exact h5 (by rw [e,c1,c2];rfl)
  | true =>
  cases c3:decide ((t.at n).val=(t.at m).val) with
  | false =>
   simp only [go_sem,↓reduceIte,h4,h3,p0,p1,h0,hk,h1,A7 hn,A7 hm,Ct C,c1,c2,c3,A0]
   exact h5 (by rw [e,c1,c2,c3];rfl)
  | true =>
  cases c4:AH t n m with
  | false =>
   simp only [go_sem,↓reduceIte,h4,h3,p0,p1,h0,hk,h1,A7 hn,A7 hm,Ct C,c1,c2,c3,h7,AN C,h2,c4,A0]
   exact h5 (by rw [e,c1,c2,c3,c4];rfl)
  | true =>
   simp only [go_sem,↓reduceIte,h4,h3,p0,p1,h0,hk,h1,A7 hn,A7 hm,Ct C,c1,c2,c3,h7,AN C,h2,c4,A0]
   exact good (by rw [e,c1,c2,c3,c4];rfl)
 .rintro F h ⟨p0,p1,h0,rfl,p2⟩
  simp only [go_sem,↓reduceIte,p0,p1,h0]
  rw [eq_comm,all_eq_true]
  intro x hx
  obtain ⟨j,hj,rfl⟩:=List.mem_iff_getElem.1 hx
  exact p2 j hj hj
 .simp only [go_sem,↓reduceIte]
 .simp only [go_sem,↓reduceIte]
 .simp only [go_sem,↓reduceIte]
  intro j hj h9;omega
theorem A2W (t:A1) (ht:A5 t) (s:A6) (hn:Cu t s.has) (l:List Int) (hl:l.length<=1000) (loc:Int):VP V VB [.fp (eFm t s) 0,lI l,.i .i64 loc] Q↔Q (.b (GR t l s.has loc)):=by
 refine Ae ?_
 rw [Ad C.c_z161.1 C.c_z161.2]
 have hc:=ht.n64
 simp only [ZS,go_sem,↓reduceIte]
 refine Ag (by decide) l.length (by omega) (I:=fun k F h=>A4.tmp F 0 = .fp (eFm t s) 0/\A4.tmp F 1=lI l/\A4.tmp F 2 = .i .i64 loc/\A4.tmp F 9=lI l/\h=[]/\∀ j,j < k->Ga t l s.has loc j=true) ?_ ?_ 0 _ _ (by omega) ?_ ?_ ?_
 .rintro k F h hk h3 h2 ⟨p0,p1,p2,p9,rfl,p3⟩
  have h4:Ga t l s.has loc k=false->false=GR t l s.has loc:=fun h=>by rw [GR,AP hk h];rfl
  have hw:=fun (n loc:Int) (Q:VV->Prop)=>Kp C t ht s hn n loc (Q:=Q)
  cases c1:BK t s.has (l.getD k 0) loc with
  | false =>
   simp only [go_sem,↓reduceIte,h3,h2,p0,p1,p2,p9,Ar hk,hk,hw,c1,A0]
   exact h4 (by rw [Ga,c1];rfl)
  | true =>
  have h9:AU s.has (l.getD k 0)=true:=by simp only [BK,and_eq_true] at c1;exact c1.1
  obtain ⟨m,h0,hm⟩:=A8 (hn _ (A9.1 h9))
  have e0:Ga t l s.has loc k=(decide (0<=(t.at m).thread) && Di l k && (!decide (1 < l.length) || Dr (t.at m)) && (decide (k=0) || (l.take k).all fun x=>Ba t m x)):=by
   unfold Ga;rw [c1,h0,toNat_natCast];rfl
  have h1:Di l k=(decide (k=0) || decide (l.getD (k - 1) 0 < (m:Int))):=by rw [Di,h0]
  rw [h0] at c1
  cases c2:decide ((t.at m).thread < 0) with
  | true =>
   simp only [go_sem,↓reduceIte,h3,h2,p0,p1,p2,p9,Ar hk,hk,hw,c1,A0,h0,A7 hm,c2]
   have:decide (0<=(t.at m).thread)=false:=by have:=of_decide_eq_true c2;exact decide_eq_false (by omega)
   exact h4 (by rw [e0,this];rfl)
  | false =>
  have ha:decide (0<=(t.at m).thread)=true:=by have:=of_decide_eq_false c2;exact decide_eq_true (by omega)
  rw [ha,Bool.true_and] at e0
  have pl:∀ b,decide ((1:Int) < l.length)=b->decide (1 < l.length)=b:=fun b h=>by rw [<- h];congr 1;exact propext ⟨fun h=>by omega,fun h=>by omega⟩
  by_cases z:k=0
  .subst z
   have r0:Di l 0=true:=by rw [h1];rfl
   rw [r0,Bool.true_and] at e0
   cases c5:decide ((1:Int) < l.length) with
   | false =>
    rw [pl _ c5] at e0
    simp only [go_sem,↓reduceIte,h3,h2,p0,p1,p2,p9,Ar hk,hk,hw,c1,A0,h0,A7 hm,c2,c5,dz0]
    exact HI p3 (by rw [e0];rfl)
   | true =>
    rw [pl _ c5] at e0
    cases c6:Dr (t.at m) with
    | false =>
     simp only [go_sem,↓reduceIte,h3,h2,p0,p1,p2,p9,Ar hk,hk,hw,c1,A0,h0,A7 hm,c2,c5,c6,dz0,Ct C]
     exact h4 (by rw [e0,c6];rfl)
    | true =>
     simp only [go_sem,↓reduceIte,h3,h2,p0,p1,p2,p9,Ar hk,hk,hw,c1,A0,h0,A7 hm,c2,c5,c6,dz0,Ct C]
     exact HI p3 (by rw [e0,c6];rfl)
  .have z0:decide ((0:Int) < (k:Int))=true:=decide_eq_true (by omega)
   have h5:k - 1 < l.length:=by omega
   have zw:=H8 (show 0 < k by omega) (by omega)
   have h6:decide ((1:Int) < l.length)=true:=decide_eq_true (by omega)
   rw [pl _ h6,decide_eq_false z,Bool.false_or] at e0
   rw [decide_eq_false z,Bool.false_or] at h1
   have hb:Cu t (l.take k):=by
    intro x hx
    obtain ⟨j,hj,rfl⟩:=List.mem_iff_getElem.1 hx
    rw [length_take] at hj
    rw [List.getElem_take]
    have:=p3 j (by omega)
    simp only [Ga,BK,and_eq_true] at this
    have:=hn _ (A9.1 this.1.1.1.1.1)
    rw [getD_eq_getElem?_getD,getElem?_eq_getElem (by omega)] at this
    exact this
   have h8:k<=l.length:=by omega
   have h7:=fun (Q:VV->Prop)=>A2X C t ht s m hm (l.take k) (by rw [length_take];omega) hb (Q:=Q)
   cases c4:decide ((m:Int)<=l.getD (k - 1) 0) with
   | true =>
    have r1:Di l k=false:=by rw [h1];have:=of_decide_eq_true c4;exact decide_eq_false (by omega)
    simp only [go_sem,↓reduceIte,h3,h2,p0,p1,p2,p9,Ar hk,Ar h5,hk,hw,c1,A0,h0,A7 hm,c2,z0,zw,c4]
    exact h4 (by rw [e0,r1];rfl)
   | false =>
    have r1:Di l k=true:=by rw [h1];have:=of_decide_eq_false c4;exact decide_eq_true (by omega)
    rw [r1,Bool.true_and] at e0
    cases c6:Dr (t.at m) with
    | false =>
     simp only [go_sem,↓reduceIte,h3,h2,p0,p1,p2,p9,Ar hk,Ar h5,hk,hw,c1,A0,h0,A7 hm,c2,z0,zw,c4,h6,c6,Ct C]
     exact h4 (by rw [e0,c6];rfl)
    | true =>
     rw [c6,Bool.or_true,Bool.true_and] at e0
     cases c7:(l.take k).all fun x=>Ba t m x with
     | false =>
      simp only [go_sem,↓reduceIte,h3,h2,p0,p1,p2,p9,Ar hk,Ar h5,hk,hw,c1,A0,h0,A7 hm,c2,z0,zw,c4,h6,c6,Ct C,h7,c7,h8]
      exact h4 (by rw [e0];exact c7)
     | true =>
      simp only [go_sem,↓reduceIte,h3,h2,p0,p1,p2,p9,Ar hk,Ar h5,hk,hw,c1,A0,h0,A7 hm,c2,z0,zw,c4,h6,c6,Ct C,h7,c7,h8]
      exact HI p3 (by rw [e0];exact c7)
 .rintro F h ⟨p0,p1,p2,p9,rfl,p3⟩
  simp only [go_sem,↓reduceIte,p0,p1,p2,p9]
  rw [GR,AQ p3]
  simp
 .simp only [go_sem,↓reduceIte]
 .simp only [go_sem,↓reduceIte]
 .simp only [go_sem,↓reduceIte]
  intro j hj;omega
theorem A2Y (t:A1) (ht:A5 t) (s:A6) (hs:DL s):VP V Q7 [.fp (eFm t s) 0] Q↔Q (.b (Cz t s.has)):=by
 refine Ae ?_
 rw [Ad C.c_z108.1 C.c_z108.2]
 have h8:=ht.n64
 have hh:=hs.has
 generalize hl:s.has=l at *
 simp only [Zr,go_sem,↓reduceIte,hl]
 refine Ag (by decide) l.length (by omega) (I:=fun k F h=>A4.tmp F 0 = .fp (eFm t s) 0/\A4.tmp F 10=lI l/\h=[]/\∀ j,j < k->Cs t l j=true) ?_ ?_ 0 _ _ (by omega) ?_ ?_ ?_
 .rintro k F h hk h3 h2 ⟨p0,h0,rfl,p3⟩
  have h4:Cs t l k=false->false=Cz t l:=fun h=>by rw [Cz,AP hk h];rfl
  cases c0:BP t (l.getD k 0) with
  | false =>
   have cc:decide (l.getD k 0 < 0)=true\/(decide (l.getD k 0 < 0)=false/\decide ((t.nodes.length:Int)<=l.getD k 0)=true):=by
    simp only [BP,Bool.and_eq_false_iff,decide_eq_false_iff_not] at c0
    by_cases d:l.getD k 0 < 0
    .exact .inl (decide_eq_true d)
    .exact .inr ⟨decide_eq_false d,decide_eq_true (by omega)⟩
   rcases cc with cc | ⟨cc,cc2⟩
   .simp only [go_sem,↓reduceIte,h3,h2,p0,h0,Ar hk,hk,cc,A0,hl]
    exact h4 (by rw [Cs,c0];rfl)
   .simp only [go_sem,↓reduceIte,h3,h2,p0,h0,Ar hk,hk,cc,cc2,A0,hl]
    exact h4 (by rw [Cs,c0];rfl)
  | true =>
  obtain ⟨m,h1,hm⟩:=A8 c0
  have q1:decide ((m:Int) < 0)=false:=decide_eq_false (by omega)
  have q2:decide ((t.nodes.length:Int)<=m)=false:=decide_eq_false (by omega)
  have q3:decide (t.nodes.length<=m)=false:=decide_eq_false (by omega)
  have h9:=ht.up m hm
  have e0:Cs t l k=(Di l k && (decide ((t.at m).up < 0) || AU l (t.at m).up)):=by
   unfold Cs;rw [c0,h1,toNat_natCast,Bool.true_and]
  have h5:Di l k=(decide (k=0) || decide (l.getD (k - 1) 0 < (m:Int))):=by rw [Di,h1]
  have h7:(decide (0<=(t.at m).up)=true/\decide ((t.at m).up < 0)=false/\Bc (Cc l) (t.at m).up=AU l (t.at m).up)\/(decide (0<=(t.at m).up)=false/\decide ((t.at m).up < 0)=true):=by
   by_cases d:0<=(t.at m).up
   .exact .inl ⟨decide_eq_true d,decide_eq_false (by omega),Lo l d (by omega)⟩
   .exact .inr ⟨decide_eq_false d,decide_eq_true (by omega)⟩
  have zc:(decide ((0:Int) < (k:Int))=false/\Di l k=true)\/(decide ((0:Int) < (k:Int))=true/\0 < k/\Di l k=decide (l.getD (k - 1) 0 < (m:Int))):=by
   by_cases z:k=0
   .subst z;exact .inl ⟨rfl,by rw [h5];rfl⟩
   .exact .inr ⟨decide_eq_true (by omega),by omega,by rw [h5,decide_eq_false z,Bool.false_or]⟩
  rcases zc with ⟨z0,r1⟩ | ⟨z0,zp,r0⟩
  .rw [r1,Bool.true_and] at e0
   rcases h7 with ⟨u1,u2,u3⟩ | ⟨u1,u2⟩
   .rw [u2,Bool.false_or] at e0
    cases c5:AU l (t.at m).up with
    | false =>
     simp only [go_sem,↓reduceIte,h3,h2,p0,h0,Ar hk,hk,h1,q1,q2,q3,z0,A7 hm,u1,u3,c5,A0,AN C,hl]
     exact h4 (by rw [e0,c5])
    | true =>
     simp only [go_sem,↓reduceIte,h3,h2,p0,h0,Ar hk,hk,h1,q1,q2,q3,z0,A7 hm,u1,u3,c5,A0,AN C,hl]
     exact HI p3 (by rw [e0,c5])
   .simp only [go_sem,↓reduceIte,h3,h2,p0,h0,Ar hk,hk,h1,q1,q2,q3,z0,A7 hm,u1,A0,AN C,hl]
    exact HI p3 (by rw [e0,u2];rfl)
  .have h6:k - 1 < l.length:=by omega
   have zw:=H8 zp (by omega)
   cases c4:decide ((m:Int)<=l.getD (k - 1) 0) with
   | true =>
    have r1:Di l k=false:=by rw [r0];have:=of_decide_eq_true c4;exact decide_eq_false (by omega)
    simp only [go_sem,↓reduceIte,h3,h2,p0,h0,Ar hk,Ar h6,hk,h1,q1,q2,q3,z0,zw,c4,A0,hl]
    exact h4 (by rw [e0,r1];rfl)
   | false =>
    have r1:Di l k=true:=by rw [r0];have:=of_decide_eq_false c4;exact decide_eq_true (by omega)
    rw [r1,Bool.true_and] at e0
    rcases h7 with ⟨u1,u2,u3⟩ | ⟨u1,u2⟩
    .rw [u2,Bool.false_or] at e0
     cases c5:AU l (t.at m).up with
     | false =>
      simp only [go_sem,↓reduceIte,h3,h2,p0,h0,Ar hk,Ar h6,hk,h1,q1,q2,q3,z0,zw,c4,A7 hm,u1,u3,c5,A0,AN C,hl]
      exact h4 (by rw [e0,c5])
     | true =>
      simp only [go_sem,↓reduceIte,h3,h2,p0,h0,Ar hk,Ar h6,hk,h1,q1,q2,q3,z0,zw,c4,A7 hm,u1,u3,c5,A0,AN C,hl]
      exact HI p3 (by rw [e0,c5])
    .simp only [go_sem,↓reduceIte,h3,h2,p0,h0,Ar hk,Ar h6,hk,h1,q1,q2,q3,z0,zw,c4,A7 hm,u1,A0,AN C,hl]
     exact HI p3 (by rw [e0,u2];rfl)
 .rintro F h ⟨p0,h0,rfl,p3⟩
  have s1:=fun (Q:VV->Prop)=>RC C t ht (Q:=Q)
  simp only [go_sem,↓reduceIte,p0,h0,s1,Hb C,hl]
  rw [Cz,AQ p3,Xn,Bool.true_and]
 .simp only [go_sem,↓reduceIte,hl]
 .simp only [go_sem,↓reduceIte,hl]
 .simp only [go_sem,↓reduceIte,hl]
  intro j hj;omega
theorem Rr (t:A1) (ht:A5 t) (s:A6) (hs:DL s) (hn:Cu t s.has):VP V Q8 [.fp (eFm t s) 0] Q↔Q (.b (Pa t s)):=by
 refine Ae ?_
 rw [Ad C.c_z109.1 C.c_z109.2]
 have hc:=ht.n64
 have hh:=hs.has
 by_cases c2:¬ s.jf.length=s.has.length
 .have ha:¬ (s.jf.length:Int)=s.has.length:=by omega
  simp only [RR,go_sem,↓reduceIte,ha]
  rw [Pa,decide_eq_false c2];rfl
 have c2:=Decidable.not_not.1 c2
 have ha:(s.jf.length:Int)=s.has.length:=by omega
 simp only [RR,go_sem,↓reduceIte,ha]
 refine Ag (by decide) s.has.length (by omega) (I:=fun k F h=>A4.tmp F 0 = .fp (eFm t s) 0/\A4.tmp F 24=lI s.has/\h=[]/\∀ j,j < k->Jl t s j=true) ?_ ?_ 0 _ _ (by omega) ?_ ?_ ?_
 .rintro k F h hk h7 h6 ⟨p0,h1,rfl,p3⟩
  have h9:Jl t s k=false->false=Pa t s:=fun h=>by rw [Pa,AP hk h,Bool.and_false]
  have h0:k < s.jf.length:=by omega
  have hw:=fun (n loc:Int) (Q:VV->Prop)=>Kp C t ht s hn n loc (Q:=Q)
  obtain ⟨n,h2,h4⟩:=A8 (hn _ (Ai (d:=0) hk))
  have h3:Jl t s k=if (t.at n).kind=2 then AU s.has (s.jf.getD k 0) && HT t (s.jf.getD k 0) (t.at n).loc && decide ((t.at (s.jf.getD k 0).toNat).val=(t.at n).val) else decide (s.jf.getD k 0 = -1):=by
   unfold Jl;rw [h2,toNat_natCast]
  by_cases k2:(t.at n).kind=2
  .rw [if_pos k2] at h3
   cases w1:BK t s.has (s.jf.getD k 0) (t.at n).loc with
   | false =>
    simp only [go_sem,↓reduceIte,h7,h6,p0,h1,Ar hk,hk,Ar h0,h0,h2,A7 h4,k2,hw,w1,A0]
    exact h9 (by rw [h3,show (AU s.has (s.jf.getD k 0) && HT t (s.jf.getD k 0) (t.at n).loc)=BK t s.has (s.jf.getD k 0) (t.at n).loc from rfl,w1];rfl)
   | true =>
   have w2:AU s.has (s.jf.getD k 0)=true:=by simp only [BK,and_eq_true] at w1;exact w1.1
   obtain ⟨m,h8,hb⟩:=A8 (hn _ (A9.1 w2))
   have h5:Jl t s k=decide ((t.at m).val=(t.at n).val):=by
    rw [h3,show (AU s.has (s.jf.getD k 0) && HT t (s.jf.getD k 0) (t.at n).loc)=BK t s.has (s.jf.getD k 0) (t.at n).loc from rfl,w1,h8,toNat_natCast,Bool.true_and]
   rw [h8] at w1
   cases x3:decide ((t.at m).val=(t.at n).val) with
   | false =>
    simp only [go_sem,↓reduceIte,h7,h6,p0,h1,Ar hk,hk,Ar h0,h0,h2,A7 h4,k2,hw,w1,h8,A7 hb,x3,A0]
    exact h9 (by rw [h5,x3])
   | true =>
    simp only [go_sem,↓reduceIte,h7,h6,p0,h1,Ar hk,hk,Ar h0,h0,h2,A7 h4,k2,hw,w1,h8,A7 hb,x3,A0]
    exact HI p3 (by rw [h5,x3])
  .rw [if_neg k2] at h3
   cases w1:decide (s.jf.getD k 0 = -1) with
   | false =>
    simp only [go_sem,↓reduceIte,h7,h6,p0,h1,Ar hk,hk,Ar h0,h0,h2,A7 h4,k2,w1,A0]
    exact h9 (by rw [h3,w1])
   | true =>
    simp only [go_sem,↓reduceIte,h7,h6,p0,h1,Ar hk,hk,Ar h0,h0,h2,A7 h4,k2,w1,A0]
    exact HI p3 (by rw [h3,w1])
 .rintro F h ⟨p0,h1,rfl,p3⟩
  simp only [go_sem,↓reduceIte,p0,h1]
  rw [Pa,decide_eq_true c2,AQ p3];rfl
 .simp only [go_sem,↓reduceIte]
 .simp only [go_sem,↓reduceIte]
 .simp only [go_sem,↓reduceIte]
  intro j hj;omega
end
abbrev hAl (i:Nat) (l:List Int):VH:=[some ⟨AO,1,i,false,l.map eI⟩]
theorem Adj:∀ (l:List (List Int)),(∀ c∈l,c.length<=1000)->l.flatten.length<=1000 * l.length:=by
 intro l
 induction l with
 | nil=>intro _;simp
 | cons c l ih =>
  intro h
  have h1:=h c List.mem_cons_self
  have h2:=ih fun d hd=>h d (List.mem_cons_of_mem _ hd)
  rw [List.flatten_cons,length_append,List.length_cons]
  omega
theorem Afw (L:Nat) (l:List Int):(l.map eI).all (Db L)=true:=by
 rw [all_eq_true]
 intro r hr
 obtain ⟨x,_,rfl⟩:=List.mem_map.1 hr
 rfl
section
variable {V:At} (C:Aq V) {Q:VV->Prop}
include C
theorem A26 (t:A1) (ht:A5 t) (s:A6) (hs:DL s) (hn:Cu t s.has):VP V Q9 [.fp (eFm t s) 0] Q↔Q (.b (Gn t s)):=by
 refine Ae ?_
 rw [Ad C.c_z110.1 C.c_z110.2]
 have qd:=ht.n64
 have hh:=hs.has
 have qi:=hs.mo
 by_cases c2:¬ s.mo.length=t.locs.length
 .have ha:¬ (s.mo.length:Int)=t.locs.length:=by omega
  simp only [RS,go_sem,↓reduceIte,ha]
  rw [Gn,decide_eq_false c2];rfl
 have c2:=Decidable.not_not.1 c2
 have ha:(s.mo.length:Int)=t.locs.length:=by omega
 simp only [RS,go_sem,↓reduceIte,ha]
 refine Ag (by decide) s.mo.length (by omega) (I:=fun k F h=>A4.tmp F 0 = .fp (eFm t s) 0/\A4.tmp F 28 = .ls (s.mo.map DD)/\h=[]/\∀ j,j < k->Ph t s j=true) ?_ ?_ 0 _ _ (by omega) ?_ ?_ ?_
 .rintro k F h hk h6 h5 ⟨p0,h3,rfl,p3⟩
  have h8:Ph t s k=false->false=Gn t s:=fun h=>by rw [Gn,AP hk h,Bool.and_false]
  have qh:=hs.mi' k
  have hu:=hs.mc' k
  have ho:=C1 hk
  generalize hm:s.mo.getD k []=m at *
  by_cases z:m.length=0
  .have z':(m.length:Int)=0:=by omega
   simp only [go_sem,↓reduceIte,h6,h5,p0,h3,ho,hk,z',A0]
   exact h8 (by simp only [Ph,hm,z];simp)
  have z':¬ (m.length:Int)=0:=by omega
  have z0:0 < m.length:=by omega
  have hr:∀ (Q:VV->Prop),VP V Qd [.ls ((m.getD 0 []).map eI),.ls [[.i .i64 k]]] Q↔Q (.b (decide (m.getD 0 []=[(k:Int)]))):=fun Q=>A27 C (m.getD 0 []) [(k:Int)] (by have:=hu 0;omega) (Q:=Q)
  cases z3:decide (m.getD 0 []=[(k:Int)]) with
  | false =>
   simp only [go_sem,↓reduceIte,h6,h5,p0,h3,ho,hk,z',ET z0,hr,z3,A0]
   exact h8 (by simp only [Ph,hm,z3,Bool.and_false,Bool.false_and])
  | true =>
  have hN:1<=m.length:=z0
  obtain ⟨D,hD⟩:∃ D,D=m.drop 1:=⟨_,rfl⟩
  have q6:D.length=m.length - 1:=by rw [hD,List.length_drop]
  have qa:(m.drop 1).take (m.length - 1)=D:=by rw [<- hD,List.take_of_length_le (by omega)]
  have hp:min (m.length - 1) (m.length - 1)=D.length:=by rw [Nat.min_self,q6]
  have hl:∀ c∈D,c.length<=1000:=by
   intro c hc
   obtain ⟨i,hi,rfl⟩:=List.mem_iff_getElem.1 (List.mem_of_mem_drop (hD ▸ hc))
   have:=hu i
   rw [getD_eq_getElem?_getD,getElem?_eq_getElem hi] at this
   exact this
  have h4:NN m k=(k:Int)::D.flatten:=by rw [NN,hD]
  have hd:Ph t s k=(D.all (fun c=>GR t c s.has k) && decide ((NN m k).length=HM t s k) && decide ((Ca (Cc (NN m k))).length=HM t s k)):=by
   simp only [Ph,hm,z3,decide_eq_false z,Bool.not_false,Bool.true_and,<- hD]
  simp only [go_sem,↓reduceIte,h6,h5,p0,h3,ho,hk,z',ET z0,hr,z3,hN,qa,hp,A0]
  refine Ag (by decide) D.length (by omega) (I:=fun i F h=>A4.tmp F 0 = .fp (eFm t s) 0/\A4.tmp F 28 = .ls (s.mo.map DD)/\A4.tmp F 3 = .i .i64 k/\A4.tmp F 30 = .i .i64 k/\A4.tmp F 29 = .i .i64 s.mo.length/\A4.tmp F 50 = .ls (D.map Hv)/\A4.tmp F 5 = .sl 0 i 0 ((D.take i).flatten.length+1)/\h=hAl i ((k:Int)::(D.take i).flatten)/\∀ (j:Nat) (hj:j < D.length),j < i->GR t D[j] s.has k=true) ?_ ?_ 0 _ _ (by omega) ?_ ?_ ?_
  .rintro i F h hi hz hy ⟨q0,h0,q3,h2,h1,hf,q5,rfl,q4⟩
   have q7:=hl _ (getElem_mem hi)
   have hq:=fun (Q:VV->Prop)=>A2W C t ht s hn D[i] q7 k (Q:=Q)
   have h9:D[i]? = some D[i]:=getElem?_eq_getElem hi
   have qb:=Adj (D.take i) (fun c hc=>hl c (List.mem_of_mem_take hc))
   rw [length_take] at qb
   have b1:((D.take i).flatten.length+1+D[i].length) * 8<=Aa:=by unfold Aa;omega
   have he:(D.take (i+1)).flatten=(D.take i).flatten++D[i]:=by rw [List.take_succ_eq_append_getElem hi,List.flatten_append];simp
   cases c4:GR t D[i] s.has k with
   | false =>
    simp only [go_sem,↓reduceIte,hz,hy,q0,h0,q3,h2,h1,hf,q5,hi,h9,hq,c4,A0]
    exact h8 (by rw [hd,show D.all (fun c=>GR t c s.has k)=false from List.all_eq_false.2 ⟨D[i],getElem_mem hi,by rw [c4];simp⟩];rfl)
   | true =>
    simp only [go_sem,↓reduceIte,hz,hy,q0,h0,q3,h2,h1,hf,q5,hi,h9,hq,c4,b1,he,A0]
    obtain ⟨y,ys,qc⟩:∃ y ys,D[i]=y::ys:=by
     cases h:D[i] with
     | nil=>rw [h] at c4;simp [GR] at c4
     | cons y ys=>exact ⟨y,ys,rfl⟩
    have e1:(List.map eI D[i])=eI y::List.map eI ys:=by rw [qc];rfl
    have e2:eI (k:Int)::(List.map eI (List.take i D).flatten++List.map eI D[i])=((k:Int)::((List.take i D).flatten++D[i])).map eI:=by rw [List.map_cons,List.map_append]
    rw [e2,e1]
    refine ⟨⟨.inr (fun x hx=>by cases hx;exact Afw _ _),trivial⟩,?_,rfl,?_⟩
    .show VV.sl 0 (i+1) 0 ((List.take i D).flatten.length+1+D[i].length)=_
     congr 1;omega
    .intro j hj qf
     by_cases e:j=i
     .subst e;exact c4
     .exact q4 j hj (by omega)
  .rintro F h ⟨q0,h0,q3,h2,h1,hf,q5,rfl,q4⟩
   have q9:D.all (fun c=>GR t c s.has k)=true:=by
    rw [all_eq_true]
    intro c hc
    obtain ⟨j,hj,rfl⟩:=List.mem_iff_getElem.1 hc
    exact q4 j hj hj
   rw [take_length] at q5
   simp only [go_sem,↓reduceIte,q0,h0,q3,h2,h1,hf,q5,take_length]
   rw [<- h4]
   refine Ag (by decide) s.has.length (by omega) (I:=fun i F h=>A4.tmp F 0 = .fp (eFm t s) 0/\A4.tmp F 28 = .ls (s.mo.map DD)/\A4.tmp F 3 = .i .i64 k/\A4.tmp F 30 = .i .i64 k/\A4.tmp F 29 = .i .i64 s.mo.length/\A4.tmp F 69=lI s.has/\A4.tmp F 5 = .sl 0 D.length 0 (NN m k).length/\h=hAl D.length (NN m k)/\A4.tmp F 8 = .i .i64 (((s.has.take i).filter fun n=>BK t s.has n k).length:Nat)) ?_ ?_ 0 _ _ (by omega) ?_ ?_ ?_
   .rintro i F h hi q2 q1 ⟨q0,h0,q3,h2,h1,h7,q5,rfl,q8⟩
    have hw:=fun (n loc:Int) (Q:VV->Prop)=>Kp C t ht s hn n loc (Q:=Q)
    have h9:s.has[i]? = some s.has[i]:=getElem?_eq_getElem hi
    have he:s.has.take (i+1)=s.has.take i++[s.has[i]]:=List.take_succ_eq_append_getElem hi
    cases c4:BK t s.has s.has[i] k with
    | false =>
     simp only [go_sem,↓reduceIte,q2,q1,q0,h0,q3,h2,h1,h7,q5,q8,hi,h9,hw,c4,A0]
     have e:[s.has[i]].filter (fun n=>BK t s.has n k)=[]:=by rw [filter_cons,c4];rfl
     rw [he,filter_append,e,List.append_nil]
    | true =>
     have qg:((s.has.take i).filter fun n=>BK t s.has n k).length<=1000:=le_trans (List.length_filter_le _ _) (by rw [length_take];omega)
     have w1:=HL (show ((s.has.take i).filter fun n=>BK t s.has n k).length < 9223372036854775807 by omega)
     simp only [go_sem,↓reduceIte,q2,q1,q0,h0,q3,h2,h1,h7,q5,q8,hi,h9,hw,c4,w1,A0]
     have e:[s.has[i]].filter (fun n=>BK t s.has n k)=[s.has[i]]:=by rw [filter_cons,c4];rfl
     rw [he,filter_append,e,length_append];rfl
   .rintro F h ⟨q0,h0,q3,h2,h1,h7,q5,rfl,q8⟩
    rw [take_length,show (s.has.filter fun n=>BK t s.has n k).length=HM t s k from rfl] at q8
    have qe:(NN m k).length<=1000000000:=by
     have:=Adj D hl
     rw [h4,List.length_cons];omega
    have hv:=fun (Q:VV->Prop)=>MR C (NN m k) (by omega) (Q:=Q)
    by_cases c7:(NN m k).length=HM t s k
    .have hb:((NN m k).length:Int)=HM t s k:=by omega
     by_cases c8:(Ca (Cc (NN m k))).length=HM t s k
     .have hg:((Ca (Cc (NN m k))).length:Int)=HM t s k:=by omega
      simp only [go_sem,↓reduceIte,q0,h0,q3,h2,h1,h7,q5,q8,hb,hv,KS C,hg,hAl,take_length]
      exact HI p3 (by rw [hd,q9,decide_eq_true c7,decide_eq_true c8];rfl)
     .have hg:¬ ((Ca (Cc (NN m k))).length:Int)=HM t s k:=by omega
      simp only [go_sem,↓reduceIte,q0,h0,q3,h2,h1,h7,q5,q8,hb,hv,KS C,hg,hAl,take_length]
      exact h8 (by rw [hd,decide_eq_false c8,Bool.and_false])
    .have hb:¬ ((NN m k).length:Int)=HM t s k:=by omega
     simp only [go_sem,↓reduceIte,q0,h0,q3,h2,h1,h7,q5,q8,hb]
     exact h8 (by rw [hd,decide_eq_false c7,Bool.and_false,Bool.false_and])
   .simp only [go_sem,↓reduceIte,q0,h0,q3,h2,h1,q5]
   .simp only [go_sem,↓reduceIte,q0,h0,q3,h2,h1,q5]
   .simp only [go_sem,↓reduceIte,q0,h0,q3,h2,h1,q5]
    rw [h4];rfl
  .simp only [go_sem,↓reduceIte,h6,h5,p0,h3]
  .simp only [go_sem,↓reduceIte,h6,h5,p0,h3]
  .simp only [go_sem,↓reduceIte,h6,h5,p0,h3]
   exact ⟨rfl,rfl,fun j hj h=>by omega⟩
 .rintro F h ⟨p0,h3,rfl,p3⟩
  simp only [go_sem,↓reduceIte,p0,h3]
  rw [Gn,decide_eq_true c2,AQ p3];rfl
 .simp only [go_sem,↓reduceIte]
 .simp only [go_sem,↓reduceIte]
  exact ha.symm
 .simp only [go_sem,↓reduceIte]
  intro j hj;omega
end
abbrev A1k (t:A1) (s:A6):VV:=.ls [[.f Q7 [.fp (eFm t s) 0] []],[.f Q8 [.fp (eFm t s) 0] []],[.f Q9 [.fp (eFm t s) 0] []]]
section
variable {V:At} (C:Aq V) {Q:VV->Prop}
include C
theorem Y5 (s:A6) (hs:DL s):VP V Va [Dy s] Q↔Q (vW (Cc s.has)):=by
 refine Ae ?_
 rw [Ad C.c_z133.1 C.c_z133.2]
 have:=hs.has
 simp only [Zz,go_sem,↓reduceIte,MR C s.has (by omega)]
theorem A24 (s:A6) (hs:DL s) (n:Int):VP V UR [Dy s,.i .i64 n] Q↔Q (.i .i64 (Qz s n)):=by
 refine Ae ?_
 rw [Ad C.c_z114.1 C.c_z114.2]
 have hh:=hs.has
 have h0:=fun (Q:VV->Prop)=>EW C s.has n (by omega) (Q:=Q)
 cases c:AU s.has n with
 | false =>
  have e:Dx (fun y=>decide (n=y)) s.has = -1:=Ab0 c
  simp only [PD,go_sem,↓reduceIte,h0,e]
  rw [Qz,if_pos (.inl (by show Dx (fun y=>decide (n=y)) s.has < 0;rw [e];decide))]
 | true =>
  obtain ⟨k,e,hk,_,_⟩:=Gx c
  have e':Dx (fun y=>decide (n=y)) s.has=k:=e
  have q1:decide ((k:Int) < 0)=false:=decide_eq_false (by omega)
  by_cases c2:s.jf.length<=k
  .simp only [PD,go_sem,↓reduceIte,h0,e',q1,c2]
   rw [Qz,if_pos (.inr (by rw [e];omega))]
  .have h1:k < s.jf.length:=by omega
   simp only [PD,go_sem,↓reduceIte,h0,e',q1,c2,Ar h1]
   rw [Qz,if_neg (by rw [e];omega),e,toNat_natCast]
theorem A25 (c:List Int) (hc:c.length < 9223372036854775807) (w:Int):VP V Qe [lI c,.fp [.i .i64 w] 0] Q↔Q (.b (AU c w)):=by
 refine Ae ?_
 rw [Ad C.c_z171.1 C.c_z171.2]
 simp only [ZZ,go_sem,↓reduceIte,Jz C c w hc]
 rfl
theorem fzW (w:Int):Fz [.fp [.i .i64 w] 0]:=fun _ _=>rfl
theorem Ko (s:A6) (hs:DL s) (loc w:Int):VP V US [Dy s,.i .i64 loc,.i .i64 w] Q↔Q (.i .i64 (Be s loc w)):=by
 refine Ae ?_
 rw [Ad C.c_z115.1 C.c_z115.2]
 unfold Be
 by_cases h0:loc < 0
 .simp only [PE,go_sem,↓reduceIte,h0]
 .obtain ⟨k,rfl⟩:=Int.eq_ofNat_of_zero_le (by omega:0<=loc)
  by_cases h1:s.mo.length<=k
  .simp only [PE,go_sem,↓reduceIte,h0,h1]
  .have hk:k < s.mo.length:=by omega
   have hl:=hs.mi' k
   have h2:=fun (Q:VV->Prop)=>Hm C (s.mo.getD k []) (by omega) (g:=Qe) Fz.nil (fzW C w) (fun c=>AU c w) (fun x hx=>by
    have:x.length<=1000:=hs.mc _ (Ai hk) x hx
    exact (A25 C x (by omega) w).2 rfl) (Q:=Q)
   simp only [PE,go_sem,↓reduceIte,h0,h1,C1 hk,h2]
theorem Y4 (t:A1) (ht:A5 t) (s:A6) (hs:DL s):VP V Pf [vT t,Dy s] Q↔Q (.b (Cz t s.has && Pa t s && Gn t s)):=by
 refine Ae ?_
 rw [Ad C.c_z48.1 C.c_z48.2]
 have s1:=fun (Q:VV->Prop)=>Sh C t ht (Q:=Q)
 have s2:=fun (Q:VV->Prop)=>Acq C t ht s hs (Q:=Q)
 have s3:=fun (Q:VV->Prop)=>A2Y C t ht s hs (Q:=Q)
 simp only [A9b,go_sem,↓reduceIte,s1,s2]
 refine Ag (by decide) 3 (by omega) (I:=fun k F h=>A4.tmp F 20=A1k t s/\h=[]/\(1<=k->Cz t s.has=true)/\(2<=k->Pa t s=true)/\(3<=k->Gn t s=true)) ?_ ?_ 0 _ _ (by omega) ?_ ?_ ?_
 .rintro k F h hk h5 h4 ⟨h0,rfl,h1,h2,h3⟩
  rcases (show k=0\/k=1\/k=2 by omega) with rfl | rfl | rfl
  .cases c:Cz t s.has with
   | false=>simp only [go_sem,↓reduceIte,h5,h4,h0,A1k,s3,c,A0]
   | true=>simp only [go_sem,↓reduceIte,h5,h4,h0,A1k,s3,c,A0]
  .have hn:=Ms (h1 (by omega))
   have s4:=fun (Q:VV->Prop)=>Rr C t ht s hs hn (Q:=Q)
   cases c:Pa t s with
   | false=>simp only [go_sem,↓reduceIte,h5,h4,h0,A1k,s4,c,A0]
   | true=>simp only [go_sem,↓reduceIte,h5,h4,h0,A1k,s4,c,A0];exact h1 (by omega)
  .have hn:=Ms (h1 (by omega))
   have s4:=fun (Q:VV->Prop)=>A26 C t ht s hs hn (Q:=Q)
   cases c:Gn t s with
   | false=>simp only [go_sem,↓reduceIte,h5,h4,h0,A1k,s4,c,A0]
   | true=>simp only [go_sem,↓reduceIte,h5,h4,h0,A1k,s4,c,A0];exact ⟨h1 (by omega),h2 (by omega)⟩
 .rintro F h ⟨h0,rfl,h1,h2,h3⟩
  simp only [go_sem,↓reduceIte,h0]
  rw [h1 (by omega),h2 (by omega),h3 (by omega)];rfl
 .simp only [go_sem,↓reduceIte]
 .simp only [go_sem,↓reduceIte]
 .simp only [go_sem,↓reduceIte]
theorem Dt (t:A1) (ht:A5 t) (s:A6) (hs:DL s):VP V Pf [vT t,Dy s] Q↔Q (.b (Bd t s)):=by
 rw [Y4 C t ht s hs,AhD t ht s]
end
end Go.AM
