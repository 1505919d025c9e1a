/-
  Own work, part of the proof of these laws: what functions compute.
-/
import Derived.Test.YtpnaenhghnkggabGreatDoorKG
set_option maxRecDepth 10000
set_option maxHeartbeats 64000000
set_option linter.unusedVariables false
set_option linter.unusedSimpArgs false
set_option linter.unusedSectionVars false
set_option linter.unnecessarySimpa false
open Int (toNat_natCast)
open List (getElem?_eq_getElem getD_eq_getElem?_getD length_map length_append length_take take_of_length_le take_length map_append take_succ_eq_append_getElem length_drop mem_append take_zero mem_singleton any_nil)
open Nat (zero_le lt_or_ge)
open Bool (or_eq_true)
open Option (getD_some)
open BitVec (or_zero)
namespace Go.AM
open Go Go.Proofs
section
variable {V:Am} (C:Ap V) {Q:VV->Prop}
include C
theorem MP (t:A2) (ht:A9 t) (x f:List Int) (hl:x.length<=1000) (hlf:f.length<=1000):VP V A43 [vT t,lI x,lI f] Q↔Q (.b (CL t x f)):=by
 refine Ad ?_
 rw [Ab C.c_z136.1 C.c_z136.2]
 have he:=ht.n64
 by_cases c1:x.length=f.length
 .have h9:decide ((x.length:Int)=(f.length:Int))=true:=decide_eq_true (by omega)
  simp only [A29,go_sem,↓reduceIte,h9]
  refine Aa (by decide) x.length (by omega) (I:=fun k F h=>A3.tmp F 1=lI x/\A3.tmp F 2=lI f/\A3.tmp F 3 = .fp (eT t) 0/\h=[]/\∀ j,j < k->Bh t x j=true) ?_ ?_ ?_ 0 _ _ (zero_le _) ?_ ?_
  .rintro k F h hk p7 ⟨p1,p2,p3,rfl,pr⟩
   simp only [go_sem,↓reduceIte,p7,p1,p2,p3]
   exact pr
  .rintro k F h hk p7 ⟨p1,p2,p3,rfl,pr⟩
   have h4:Bh t x k=false->CL t x f=false:=fun h=>by rw [CL,AF hk h];simp
   have h7:Bh t x k=true->∀ j,j < k+1->Bh t x j=true:=fun h j hj=>by
    rcases lt_or_ge j k with c | c
    .exact pr j c
    .rw [show j=k by omega];exact h
   cases d1:BU t (x.getD k 0) with
   | false =>
    have e:=h4 (by rw [Bh,d1];rfl)
    simp only [go_sem,↓reduceIte,p7,p1,p2,p3,Ak hk,hk,Au C,d1,A0,e]
   | true =>
    by_cases z:k=0
    .subst z
     have hb:Bh t x 0=true:=by rw [Bh,d1];rfl
     simp only [go_sem,↓reduceIte,p7,p1,p2,p3,Ak hk,hk,Au C,d1,A0,dz0]
     exact h7 hb
    .have z0:decide ((0:Int) < (k:Int))=true:=decide_eq_true (by omega)
     have hc:k - 1 < x.length:=by omega
     have zw:=Ew (show 0 < k by omega) (by omega)
     cases d3:decide (x.getD k 0<=x.getD (k - 1) 0) with
     | true =>
      have ha:decide (x.getD (k - 1) 0 < x.getD k 0)=false:=by have:=of_decide_eq_true d3;exact decide_eq_false (by omega)
      have e:=h4 (by rw [Bh,d1,CN,ha,decide_eq_false z];rfl)
      simp only [go_sem,↓reduceIte,p7,p1,p2,p3,Ak hk,Ak hc,hk,Au C,d1,A0,z0,zw,d3,e]
     | false =>
      have ha:decide (x.getD (k - 1) 0 < x.getD k 0)=true:=by have:=of_decide_eq_false d3;exact decide_eq_true (by omega)
      have hb:Bh t x k=true:=by rw [Bh,d1,CN,ha];simp
      simp only [go_sem,↓reduceIte,p7,p1,p2,p3,Ak hk,Ak hc,hk,Au C,d1,A0,z0,zw,d3]
      exact h7 hb
  .rintro F h ⟨p1,p2,p3,rfl,pr⟩
   have h3:Cq t x:=by
    intro n hn
    obtain ⟨i,hi,rfl⟩:=List.getElem_of_mem hn
    have:=pr i hi
    simp only [Bh,Bool.and_eq_true] at this
    have h2:=this.1
    rwa [getD_eq_getElem?_getD,getElem?_eq_getElem hi] at h2
   simp only [go_sem,↓reduceIte,p1,p2,p3]
   refine Aa (by decide) x.length (by omega) (I:=fun k F h=>A3.tmp F 1=lI x/\A3.tmp F 2=lI f/\A3.tmp F 3 = .fp (eT t) 0/\h=[]/\∀ j,j < k->DW t x f j=true) ?_ ?_ ?_ 0 _ _ (zero_le _) ?_ ?_
   .rintro k F h hk p8 ⟨p1,p2,p3,rfl,qr⟩
    simp only [go_sem,↓reduceIte,p8,p1,p2,p3]
    exact qr
   .rintro k F h hk p8 ⟨p1,p2,p3,rfl,qr⟩
    have h0:k < f.length:=by omega
    have h4:DW t x f k=false->CL t x f=false:=fun h=>by rw [CL,AF hk h];simp
    have h7:DW t x f k=true->∀ j,j < k+1->DW t x f j=true:=fun h j hj=>by
     rcases lt_or_ge j k with c | c
     .exact qr j c
     .rw [show j=k by omega];exact h
    obtain ⟨m,h5,hm⟩:=A7 (h3 _ (Ac (d:=0) hk))
    have h1:DW t x f k=if (t.at m).kind=2 then B9 x (f.getD k 0) && GY t (f.getD k 0) (t.at m).loc else decide (f.getD k 0 = -1):=by rw [DW,h5,toNat_natCast]
    cases c2:decide ((t.at m).kind=2) with
    | false =>
     rw [if_neg (of_decide_eq_false c2)] at h1
     cases c3:decide (f.getD k 0 = -1) with
     | true =>
      simp only [go_sem,↓reduceIte,p8,p1,p2,p3,Ak hk,Ak h0,hk,h0,h5,A5 hm,c2,c3,A0]
      exact h7 (by rw [h1,c3])
     | false =>
      have e:=h4 (by rw [h1,c3])
      simp only [go_sem,↓reduceIte,p8,p1,p2,p3,Ak hk,Ak h0,hk,h0,h5,A5 hm,c2,c3,A0,e]
    | true =>
     rw [if_pos (of_decide_eq_true c2)] at h1
     have h6:=C7 x (f.getD k 0)
     cases c3:B9 x (f.getD k 0) with
     | false =>
      have e:=h4 (by rw [h1,c3];rfl)
      rw [c3] at h6
      simp only [go_sem,↓reduceIte,p8,p1,p2,p3,Ak hk,Ak h0,hk,h0,h5,A5 hm,c2,A0,e,Ai C x (by omega),h6]
     | true =>
      rw [c3] at h6
      obtain ⟨w,h8,hw⟩:=A7 (h3 _ (Af.1 c3))
      have hd:GY t (f.getD k 0) (t.at m).loc=(decide ((t.at w).kind=3) && decide ((t.at w).loc=(t.at m).loc)):=by rw [GY,h8,toNat_natCast]
      rw [c3,Bool.true_and,hd] at h1
      rw [h8] at h6
      cases c4:decide ((t.at w).kind=3) with
      | false =>
       have e:=h4 (by rw [h1,c4];rfl)
       simp only [go_sem,↓reduceIte,p8,p1,p2,p3,Ak hk,Ak h0,hk,h0,h5,h8,A5 hm,A5 hw,c2,c4,A0,e,Ai C x (by omega),h6]
      | true =>
       cases c5:decide ((t.at w).loc=(t.at m).loc) with
       | false =>
        have e:=h4 (by rw [h1,c4,c5];rfl)
        simp only [go_sem,↓reduceIte,p8,p1,p2,p3,Ak hk,Ak h0,hk,h0,h5,h8,A5 hm,A5 hw,c2,c4,c5,A0,e,Ai C x (by omega),h6]
       | true =>
        simp only [go_sem,↓reduceIte,p8,p1,p2,p3,Ak hk,Ak h0,hk,h0,h5,h8,A5 hm,A5 hw,c2,c4,c5,A0,Ai C x (by omega),h6]
        exact h7 (by rw [h1,c4,c5];rfl)
   .rintro F h ⟨p1,p2,p3,rfl,qr⟩
    have e:CL t x f=true:=by rw [CL,decide_eq_true c1,AG pr,AG qr];rfl
    simp only [go_sem,↓reduceIte,p1,p2,p3,e]
   .simp only [go_sem,↓reduceIte]
   .simp only [go_sem,↓reduceIte,p1,p2,p3]
    intro j hj;omega
  .simp only [go_sem,↓reduceIte]
  .simp only [go_sem,↓reduceIte]
   intro j hj;omega
 .have h9:decide ((x.length:Int)=(f.length:Int))=false:=decide_eq_false (by omega)
  have e:CL t x f=false:=by rw [CL,decide_eq_false c1];rfl
  simp only [A29,go_sem,↓reduceIte,h9,e]
omit C in
theorem A3j (t:A2) (x f:List Int) (k:Nat) (w:Int) (h:HO t w=false):Jw t x f (k+1) w=MK t x w ||| Jw t x f k (ahF t x f w):=by rw [Jw,h];rfl
omit C in
theorem Nk (t:A2) (x f:List Int) (k:Nat) (w:Int) (h:HO t w=true):Jw t x f k w=0#64:=by
 cases k with
 | zero=>rfl
 | succ k=>rw [Jw,h];rfl
omit C in
theorem Acp {t:A2} (ht:A9 t) {x:List Int} (hx:Cq t x) {w:Nat} (hw:w < t.nodes.length) (hth:0<=(t.at w).thread) (s:BitVec 64) :
  Di (fun n=>decide ((t.at n.toNat).kind=4) && Ee (t.at n.toNat) && decide ((t.at n.toNat).thread=(t.at w).thread) && Ah t n w) (if Ee (t.at w)=true then s ||| BK w else s) x=s ||| MK t x w:=by
 apply Bm
 intro j hj
 rw [NA _ j hj,BitVec.getLsbD_or,MK,AE,Aco,decide_eq_true hj,Bool.and_true]
 have e0:(if Ee (t.at w)=true then s ||| BK (w:Int) else s).getLsbD j=(s.getLsbD j || (decide ((j:Int)=(w:Int)) && Ee (t.at j))):=by
  by_cases c:Ee (t.at w)=true
  .rw [if_pos c,BitVec.getLsbD_or,Cb]
   by_cases e:j=w
   .subst e;simp [c,hj]
   .have:¬ (j:Int)=(w:Int):=by omega
    simp [this]
  .rw [if_neg c]
   by_cases e:j=w
   .subst e;simp [c]
   .have:¬ (j:Int)=(w:Int):=by omega
    simp [this]
 have e1:(B9 x (j:Int) && (decide ((t.at j).kind=4) && Ee (t.at j) && decide ((t.at j).thread=(t.at w).thread) && Ah t j w))=(B9 x (j:Int) && decide ((t.at j).kind=4) && Ee (t.at j) && Ah t j w):=by
  cases c1:B9 x (j:Int) with
  | false=>rfl
  | true =>
   obtain ⟨m,h1,hm⟩:=A7 (hx _ (Af.1 c1))
   have h0:m=j:=by omega
   subst h0
   cases c2:decide ((t.at m).kind=4) with
   | false=>rfl
   | true =>
    cases c3:Ah t m w with
    | false=>simp
    | true =>
     have hl:t.locs.length<=m:=by
      rcases lt_or_ge m t.locs.length with h | h
      .have:=(ht.init m h).kind;have:=of_decide_eq_true c2;omega
      .exact h
     have hb:Az t m w=true:=by
      simp only [Ah,Cl hm,Cl hw,toNat_natCast,Bool.true_and] at c3
      rw [if_neg (by have:=(ht.good m hl hm).thr;omega)] at c3
      exact c3
     have:=A1t ht hl (w+1) w (by omega) hw hb
     simp [this]
 simp only [toNat_natCast]
 rw [e0,e1]
 cases s.getLsbD j<;>cases decide ((j:Int)=(w:Int))<;>cases Ee (t.at j)<;>simp
theorem Sg (t:A2) (ht:A9 t) (x f:List Int) (hl:x.length<=1000) (hlf:f.length<=1000) (hc:CL t x f=true) {w0:Nat} (hw0:(w0:Int)∈x) (hk0:(t.at w0).kind=3):VP V A45 [vT t,lI x,lI f,.i .i64 w0] Q↔Q (vW (AU t x f w0)):=by
 refine Ad ?_
 rw [Ab C.c_z138.1 C.c_z138.2]
 have q5:=ht.n64
 have hF:=Ba hc
 have hx:=hF.node
 obtain ⟨he,q0,hi⟩:=A7 (hx _ hw0)
 have:he = w0:=by omega
 subst this
 have hr:=fun (Q:VV->Prop)=>MP C t ht x f hl hlf (Q:=Q)
 have hq:=C7 x (he:Int)
 rw [Af.2 hw0] at hq
 simp only [A9J,go_sem,↓reduceIte,hr,hc,Ai C x (by omega),hq,A5 hi,hk0]
 refine Aa (by decide) (x.length+1) (by omega) (I:=fun k F h=>A3.tmp F 1=lI x/\A3.tmp F 2=lI f/\A3.tmp F 4 = .fp (eT t) 0/\h=[]/\∃ (s:BitVec 64) (w:Nat),A3.tmp F 9=vW s/\A3.tmp F 3 = .i .i64 w/\(w:Int)∈x/\k<=x.length+1/\s ||| Jw t x f (x.length+1 - k) w=AU t x f he) ?_ ?_ ?_ 0 _ _ (zero_le _) ?_ ?_
 .rintro k F h hk h9 ⟨p1,p2,p4,rfl,s,w,p9,p3,hw,hh,hs⟩
  have e:decide ((k:Int)<=(x.length:Int))=decide (k < x.length+1):=decide_eq_decide.2 ⟨fun h=>by omega,fun h=>by omega⟩
  have e':decide (k<=x.length)=decide (k < x.length+1):=decide_eq_decide.2 ⟨fun h=>by omega,fun h=>by omega⟩
  simp only [go_sem,↓reduceIte,h9,p1,p2,p4,p9,p3,e,e']
  exact ⟨s,rfl,w,rfl,hw,hh,hs⟩
 .rintro k F h hk h9 ⟨p1,p2,p4,rfl,s,w,p9,p3,hw,hh,hs⟩
  obtain ⟨w',q7,hd⟩:=A7 (hx _ hw)
  have:w' = w:=by omega
  subst this
  cases c1:decide ((t.at w').thread < 0) with
  | true =>
   have ho:HO t w' = true:=by rw [HO,toNat_natCast,c1,Bool.or_true]
   rw [Nk _ _ _ _ _ ho] at hs
   simp only [or_zero] at hs
   simp only [go_sem,↓reduceIte,h9,p1,p2,p4,p9,p3,A5 hd,c1,A0,hs]
  | false =>
   have hz:0<=(t.at w').thread:=by have:=of_decide_eq_false c1;omega
   have ho:HO t w' = false:=by rw [HO,toNat_natCast,c1,decide_eq_false (by omega)];rfl
   have hy:x.length+1 - k=(x.length+1 - (k+1))+1:=by omega
   rw [hy,A3j _ _ _ _ _ ho,<- BitVec.or_assoc] at hs
   have h8:=Acp ht hx hd hz s
   generalize hs1:(if Ee (t.at w')=true then s ||| BK (w':Int) else s)=s1 at h8
   cases c2:Ee (t.at w')<;>simp only [c2,Bool.false_eq_true,if_true,if_false] at hs1<;>(
   simp only [go_sem,↓reduceIte,h9,p1,p2,p4,p9,p3,A5 hd,c1,A0,EI C,c2,Bk C]
   refine Aa (by decide) x.length (by omega) (I:=fun j F h=>A3.tmp F 10 = .i .i64 k/\A3.tmp F 1=lI x/\A3.tmp F 2=lI f/\A3.tmp F 4 = .fp (eT t) 0/\A3.tmp F 3 = .i .i64 w'/\A3.tmp F 11 = .p 0 0 0 0/\h=[some ⟨BW,0,0,false,[eN (t.at w')]⟩]/\A3.tmp F 9=vW (Di (fun n=>decide ((t.at n.toNat).kind=4) && Ee (t.at n.toNat) && decide ((t.at n.toNat).thread=(t.at w').thread) && Ah t n w') s1 (x.take j))) ?_ ?_ ?_ 0 _ _ (zero_le _) ?_ ?_
   .rintro j F h hj h6 ⟨h3,q1,q2,q4,q3,h4,rfl,q9⟩
    simp only [go_sem,↓reduceIte,h6,h3,q1,q2,q4,q3,h4,q9]
   .rintro j F h hj h6 ⟨h3,q1,q2,q4,q3,h4,rfl,q9⟩
    obtain ⟨m,h0,hm⟩:=A7 (hx _ (Ac (d:=0) hj))
    have hb:=fun (Q:VV->Prop)=>C2 C t ht.up (m:Int) (w':Int) (Q:=Q)
    cases d1:decide ((t.at m).kind=4) with
    | false =>
     rw [<- PZ hj (by rw [h0,toNat_natCast,d1];rfl)]
     simp only [go_sem,↓reduceIte,h6,h3,q1,q2,q4,q3,h4,q9,Ak hj,hj,h0,A5 hm,d1,A0]
    | true =>
    cases d2:Ee (t.at m) with
    | false =>
     rw [<- PZ hj (by rw [h0,toNat_natCast,d2];simp)]
     simp only [go_sem,↓reduceIte,h6,h3,q1,q2,q4,q3,h4,q9,Ak hj,hj,h0,A5 hm,d1,d2,EI C,A0]
    | true =>
    cases d3:decide ((t.at m).thread=(t.at w').thread) with
    | false =>
     rw [<- PZ hj (by rw [h0,toNat_natCast,d3];simp)]
     simp only [go_sem,↓reduceIte,h6,h3,q1,q2,q4,q3,h4,q9,Ak hj,hj,h0,A5 hm,d1,d2,d3,EI C,A0]
    | true =>
    cases d4:Ah t m w' with
    | false =>
     rw [<- PZ hj (by rw [h0,d4];simp)]
     simp only [go_sem,↓reduceIte,h6,h3,q1,q2,q4,q3,h4,q9,Ak hj,hj,h0,A5 hm,d1,d2,d3,d4,hb,EI C,A0]
    | true =>
     rw [<- Afy hj (by rw [h0,toNat_natCast,d1,d2,d3,d4];rfl),h0]
     simp only [go_sem,↓reduceIte,h6,h3,q1,q2,q4,q3,h4,q9,Ak hj,hj,h0,A5 hm,d1,d2,d3,d4,hb,EI C,Bk C,A0]
   .rintro F h ⟨h3,q1,q2,q4,q3,h4,rfl,q9⟩
    rw [take_length,h8] at q9
    have hf:ahF t x f w' = if (t.at w').rmw=true/\B9 x (t.at w').up=true then Ed x f (t.at w').up else -1:=by rw [ahF,toNat_natCast]
    have h5:HO t (-1)=true:=rfl
    cases d1:(t.at w').rmw with
    | false =>
     rw [hf,d1,if_neg (by simp),Nk _ _ _ _ _ h5] at hs
     simp only [or_zero] at hs
     simp only [go_sem,↓reduceIte,h3,q1,q2,q4,q3,h4,q9,d1,hs]
    | true =>
    have h2:=C7 x (t.at w').up
    cases d2:B9 x (t.at w').up with
    | false =>
     rw [d2] at h2
     rw [hf,d2,if_neg (by simp),Nk _ _ _ _ _ h5] at hs
     simp only [or_zero] at hs
     simp only [go_sem,↓reduceIte,h3,q1,q2,q4,q3,h4,q9,d1,hs,Ai C x (by omega),h2]
    | true =>
     rw [d2] at h2
     have h7:=A4S ht hF hw
     rw [hf,d1,d2,if_pos ⟨rfl,rfl⟩] at hs h7
     obtain ⟨i,hg,hu,_,_⟩:=DD d2
     have hv:i < f.length:=by rw [<- hF.len];exact hu
     have hn:Ed x f (t.at w').up=f.getD i 0:=by rw [Ed,if_pos d2,hg,toNat_natCast]
     rw [hn] at hs h7
     rw [hg] at h2
     have ha:=(hF.read (t.at w').up (Af.1 d2) (by
      have hl:t.locs.length<=w':=by
       rcases lt_or_ge w' t.locs.length with h1 | h1
       .have:=(ht.init w' h1).thr;omega
       .exact h1
      exact ((ht.good w' hl hd).rmw d1).2)).1
     rw [hn] at ha
     obtain ⟨v,hp,q6⟩:=A7 (hx _ ha)
     rw [hp] at hs ha
     simp only [go_sem,↓reduceIte,h3,q1,q2,q4,q3,h4,q9,d1,Ai C x (by omega),hg,h2,Ak hv,hp]
     exact ⟨_,rfl,v,rfl,ha,by omega,hs⟩
   .simp only [go_sem,↓reduceIte]
   .simp only [go_sem,↓reduceIte,h9,p1,p2,p4,p3,p9,hs1]
    rfl)
 .rintro F h ⟨p1,p2,p4,rfl,s,w,p9,p3,hw,hh,hs⟩
  rw [Nat.sub_self,Jw] at hs
  simp only [or_zero] at hs
  simp only [go_sem,↓reduceIte,p1,p2,p4,p9,p3,hs]
 .simp only [go_sem,↓reduceIte]
 .simp only [go_sem,↓reduceIte]
  exact ⟨0#64,rfl,he,rfl,hw0,by rw [AU];simp⟩
end
theorem A87 {n:Nat} {p:Nat->Nat->Bool}:(Aj n p).take n=Aj n p:=take_of_length_le (by rw [Al];omega)
theorem AdX {t:A2} {x:List Int} {r m:Nat} (hm:(m:Int)∈x):EE t x r m=(J3 (t.at m) && (decide (m=r) || (decide ((t.at m).kind=4) && Ah t r m))):=by
 rw [EE,Af.2 hm]
 have e:decide ((m:Int)=(r:Int))=decide (m=r):=decide_eq_decide.2 ⟨fun h=>by omega,fun h=>by omega⟩
 rw [e]
 cases decide (m=r)<;>cases J3 (t.at m)<;>cases decide ((t.at m).kind=4)<;>cases Ah t r m<;>rfl
theorem A7T {t:A2} (ht:A9 t):0 < t.nodes.length:=by
 obtain ⟨s,h0,he,hs⟩:=ht.thr
 have h1:=ht.r1
 obtain ⟨_,n,hB⟩:=hs 0 (by omega)
 cases n with
 | zero=>exact absurd hB (by simp [GW])
 | succ n=>have:=hB.1.1;omega
section
variable {V:Am} (C:Ap V) {Q:VV->VH->Prop}
include C
theorem A0G (t:A2) (ht:A9 t) (x f:List Int) (hl:x.length<=1000) (hlf:f.length<=1000) (hc:CL t x f=true) (b0:Nat) :
    TE V Ac6 [vT t,lI x,lI f] b0 Q↔Q (.sl b0 0 0 t.nodes.length) [some ⟨AL,1,0,false,(Aj t.nodes.length (swB t x f)).map eW⟩]:=by
  refine Hs ?_
  rw [Ht C.c_z89.2]
  have q6:=ht.n64
  have hF:=Ba hc
  have hx:=hF.node
  have qb:=fun (Q:VV->Prop)=>MP C t ht x f hl hlf (Q:=Q)
  have b1:t.nodes.length * 8<=A8:=by unfold A8;omega
  simp only [Agp,go_sem,↓reduceIte,qb,hc,b1,Int.le_refl]
  refine Aa (by decide) x.length (by omega) (I:=fun i F h=>A3.tmp F 1=lI x/\A3.tmp F 2=lI f/\A3.tmp F 3 = .fp (eT t) 0/\A3.tmp F 7 = .sl 0 0 0 t.nodes.length/\h=[some ⟨AL,1,0,false,(Aj t.nodes.length (Pw t x f (x.take i))).map eW⟩]) ?_ ?_ ?_ 0 _ _ (zero_le _) ?_ ?_
  · rintro i F h hi p8 ⟨p1, p2, p3, p7, rfl⟩
    simp only [go_sem,↓reduceIte,p8,p1,p2,p3,p7]
  · rintro i F h hi p8 ⟨p1, p2, p3, p7, rfl⟩
    have hp:i < f.length:=by rw [<- hF.len];exact hi
    have hz:=hF.at_ i hi
    have he:x.getD i 0∈x:=Ac hi
    obtain ⟨r,h3,hr⟩:=A7 (hx _ he)
    have q4:(r:Int)∈x:=by rw [<- h3];exact he
    rw [h3] at hz
    have h2:∀ a b,Pw t x f (x.take (i+1)) a b=(Pw t x f (x.take i) a b || (Jl t x f r && B1 (AU t x f (Ed x f r)) (a:Int) && EE t x r b)):=fun a b=>by rw [A0Y hi,h3]
    have same:Jl t x f r=false->Aj t.nodes.length (Pw t x f (x.take i))=Aj t.nodes.length (Pw t x f (x.take (i+1))):=fun e=>B8 fun a b _ _=>by rw [h2,e];simp
    have h7:Jl t x f r=(decide ((t.at r).kind=2) && !decide ((t.at (Ed x f r).toNat).thread=(t.at r).thread)):=by rw [Jl,toNat_natCast]
    cases ck:decide ((t.at r).kind=2) with
    | false =>
      have hs:=same (by rw [h7,ck];rfl)
      simp only [go_sem,↓reduceIte,p8,p1,p2,p3,p7,Ak hi,hi,h3,A5 hr,ck,A0,hs]
    | true =>
    obtain ⟨o1,o2,o3⟩:=hF.read _ q4 (by rw [toNat_natCast];exact of_decide_eq_true ck)
    obtain ⟨w,hg,hw⟩:=A7 (hx _ o1)
    rw [hg] at o1 o2
    rw [toNat_natCast] at o2
    have q0:f.getD i 0=(w:Int):=by rw [<- hz,hg]
    cases c2:decide ((t.at w).thread=(t.at r).thread) with
    | true =>
      have hs:=same (by rw [h7,hg,toNat_natCast,c2];simp)
      simp only [go_sem,↓reduceIte,p8,p1,p2,p3,p7,Ak hi,Ak hp,hi,hp,h3,q0,A5 hr,A5 hw,ck,c2,A0,hs]
    | false =>
    have hs:Jl t x f r=true:=by rw [h7,hg,toNat_natCast,c2,ck];rfl
    have hh:=fun (Q:VV->Prop)=>Sg C t ht x f hl hlf hc o1 o2 (Q:=Q)
    simp only [go_sem,↓reduceIte,p8,p1,p2,p3,p7,Ak hi,Ak hp,hi,hp,h3,q0,A5 hr,A5 hw,ck,c2,A0,hh,A0H C]
    have qd:=Cv (AU t x f w)
    let M:=fun (k:Nat) (a b:Nat)=>Pw t x f (x.take i) a b || (B1 (AU t x f w) (a:Int) && B9 (x.take k) (b:Int) && EE t x r b)
    refine Aa (by decide) x.length (by omega) (I:=fun k F h=>A3.tmp F 8 = .i .i64 i/\A3.tmp F 1=lI x/\A3.tmp F 2=lI f/\A3.tmp F 3 = .fp (eT t) 0/\A3.tmp F 7 = .sl 0 0 0 t.nodes.length/\A3.tmp F 9=lI (AC (AU t x f w))/\h=[some ⟨AL,1,0,false,(Aj t.nodes.length (M k)).map eW⟩]) ?_ ?_ ?_ 0 _ _ (zero_le _) ?_ ?_
    · rintro k F h hk h8 ⟨q8, q1, q2, q3, q7, q9, rfl⟩
      simp only [go_sem,↓reduceIte,h8,q8,q1,q2,q3,q7,q9]
    · rintro k F h hk h8 ⟨q8, q1, q2, q3, q7, q9, rfl⟩
      have hd:x.getD k 0∈x:=Ac hk
      obtain ⟨m,h5,hm⟩:=A7 (hx _ hd)
      have qc:(m:Int)∈x:=by rw [<- h5];exact hd
      have h1:=AdX (t:=t) (r:=r) qc
      have hb:=fun (Q:VV->Prop)=>C2 C t ht.up (r:Int) (m:Int) (Q:=Q)
      have q5:∀ b:Nat,B9 (x.take (k+1)) (b:Int)=(B9 (x.take k) (b:Int) || decide (b=m)):=fun b=>by
        rw [take_succ_eq_append_getElem hk]
        rw [getD_eq_getElem?_getD,getElem?_eq_getElem hk,getD_some] at h5
        rw [h5,Bool.eq_iff_iff,Af,mem_append,or_eq_true,Af,decide_eq_true_eq,mem_singleton]
        exact ⟨fun h=>h.imp id fun h=>by omega,fun h=>h.imp id fun h=>by omega⟩
      have h4:EE t x r m=false->Aj t.nodes.length (M k)=Aj t.nodes.length (M (k+1)):=fun e=>B8 fun a b _ _=>by
        simp only [M]
        rw [q5]
        by_cases c:b=m
        · subst c;rw [e];simp
        · simp [c]
      cases d1:J3 (t.at m) with
      | false =>
        have hu:=h4 (by rw [h1,d1];rfl)
        simp only [go_sem,↓reduceIte,h8,q8,q1,q2,q3,q7,q9,Ak hk,hk,h5,A5 hm,Kh C,d1,A0,hu]
      | true =>
      have hq:EE t x r m=true->Aj t.nodes.length (fun a b=>M k a b || (B1 (AU t x f w) (a:Int) && decide (b=m)))=Aj t.nodes.length (M (k+1)):=fun e=>B8 fun a b _ _=>by
        simp only [M]
        rw [q5]
        by_cases c:b=m
        · subst c;rw [e];cases Pw t x f (x.take i) a b<;>cases B1 (AU t x f w) (a:Int)<;>cases B9 (x.take k) (b:Int)<;>simp
        · simp [c]
      have hy:decide ((m:Int)=(r:Int))=decide (m=r):=decide_eq_decide.2 ⟨fun h=>by omega,fun h=>by omega⟩
      cases d2:decide (m=r)<;>cases d3:decide ((t.at m).kind=4)<;>cases d4:Ah t r m<;>rw [d1,d2,d3,d4] at h1<;>(first
        | (have hu:=h4 (by rw [h1];rfl)
           simp only [go_sem,↓reduceIte,h8,q8,q1,q2,q3,q7,q9,Ak hk,Ak hi,hk,hi,h3,h5,A5 hm,Kh C,d1,hy,d2,d3,hb,d4,A0,hu])
        | (have qa:=hq (by rw [h1];rfl)
           simp only [go_sem,↓reduceIte,h8,q8,q1,q2,q3,q7,q9,Ak hk,Ak hi,hk,hi,h3,h5,A5 hm,Kh C,d1,hy,d2,d3,hb,d4,A0]
           refine Aa (by decide) (AC (AU t x f w)).length (by omega) (I:=fun j F h=>A3.tmp F 10 = .i .i64 k/\A3.tmp F 8 = .i .i64 i/\A3.tmp F 1=lI x/\A3.tmp F 2=lI f/\A3.tmp F 3 = .fp (eT t) 0/\A3.tmp F 7 = .sl 0 0 0 t.nodes.length/\A3.tmp F 9=lI (AC (AU t x f w))/\h=[some ⟨AL,1,0,false,(Aj t.nodes.length fun a b=>M k a b || (B9 ((AC (AU t x f w)).take j) (a:Int) && decide (b=m))).map eW⟩,some ⟨BW,0,0,false,[eN (t.at m)]⟩]) ?_ ?_ ?_ 0 _ _ (zero_le _) ?_ ?_
           · rintro j F h hj hv ⟨hn, u8, u1, u2, u3, u7, u9, rfl⟩
             simp only [go_sem,↓reduceIte,hv,hn,u8,u1,u2,u3,u7,u9]
           · rintro j F h hj hv ⟨hn, u8, u1, u2, u3, u7, u9, rfl⟩
             have h6:=(B7 (s:=AU t x f w)).1 (Ac (d:=0) hj)
             obtain ⟨a0,_⟩:=Cu h6
             obtain ⟨a,ho⟩:=Int.eq_ofNat_of_zero_le a0
             have ha:a < t.nodes.length:=Qx ht hF o1 (by rw [ho,AD] at h6;exact h6)
             have hf:=Tb ha hm q6 (fun a b=>M k a b || (B9 ((AC (AU t x f w)).take j) (a:Int) && decide (b=m)))
             have hM:Aj t.nodes.length (fun i' b=>(M k i' b || (B9 ((AC (AU t x f w)).take j) (i':Int) && decide (b=m))) || (decide (i' = a) && decide (b=m)))=Aj t.nodes.length (fun a b=>M k a b || (B9 ((AC (AU t x f w)).take (j+1)) (a:Int) && decide (b=m))):=B8 fun i' b _ _=>by
               rw [take_succ_eq_append_getElem hj]
               have e:B9 ((AC (AU t x f w)).take j++[(AC (AU t x f w))[j]]) (i':Int)=(B9 ((AC (AU t x f w)).take j) (i':Int) || decide (i' = a)):=by
                 rw [getD_eq_getElem?_getD,getElem?_eq_getElem hj,getD_some] at ho
                 rw [ho,Bool.eq_iff_iff,Af,mem_append,or_eq_true,Af,decide_eq_true_eq,mem_singleton]
                 exact ⟨fun h=>h.imp id fun h=>by omega,fun h=>h.imp id fun h=>by omega⟩
               rw [e]
               cases M k i' b<;>cases B9 ((AC (AU t x f w)).take j) (i':Int)<;>cases decide (i' = a)<;>cases decide (b=m)<;>rfl
             rw [hM] at hf
             simp only [go_sem,↓reduceIte,hv,hn,u8,u1,u2,u3,u7,u9,Ak hj,Ak hk,hj,hk,ho,h5,BA ha,Bk C,A0,hf,Al,ha]
           · rintro F h ⟨hn, u8, u1, u2, u3, u7, u9, rfl⟩
             have h9:Aj t.nodes.length (fun a b=>M k a b || (B9 (AC (AU t x f w)) (a:Int) && decide (b=m)))=Aj t.nodes.length (M (k+1)):=by
               rw [<- qa]
               exact B8 fun a b _ _=>by
                 have e:B9 (AC (AU t x f w)) (a:Int)=B1 (AU t x f w) (a:Int):=by rw [Bool.eq_iff_iff,Af,B7]
                 rw [e]
             simp only [go_sem,↓reduceIte,hn,u8,u1,u2,u3,u7,u9,take_length,h9]
           · simp only [go_sem,↓reduceIte]
           · simp only [go_sem, ↓reduceIte, h8, q8, q1, q2, q3, q7, q9]
             have h0:Aj t.nodes.length (fun a b=>M k a b || (B9 ((AC (AU t x f w)).take 0) (a:Int) && decide (b=m)))=Aj t.nodes.length (M k):=B8 fun a b _ _=>by simp only [take_zero,B9,any_nil,Bool.false_and,Bool.or_false]
             rw [take_zero] at h0
             rw [h0]))
    · rintro F h ⟨q8, q1, q2, q3, q7, q9, rfl⟩
      have hM:Aj t.nodes.length (M x.length)=Aj t.nodes.length (Pw t x f (x.take (i+1))):=B8 fun a b _ hb=>by
        simp only [M]
        rw [take_length,h2,hs,hg,Bool.true_and]
        cases e1:EE t x r b with
        | false=>simp
        | true =>
          have:B9 x (b:Int)=true:=by
            simp only [EE,or_eq_true,Bool.and_eq_true,decide_eq_true_eq] at e1
            rcases e1 with h | h
            · rw [h.1];exact Af.2 q4
            · exact h.1.1.1
          rw [this];simp
      simp only [go_sem,↓reduceIte,q8,q1,q2,q3,q7,q9,hM]
    · simp only [go_sem,↓reduceIte]
    · simp only [go_sem, ↓reduceIte, p8, p1, p2, p3, p7]
      have hM:Aj t.nodes.length (M 0)=Aj t.nodes.length (Pw t x f (x.take i)):=B8 fun a b _ _=>by simp only [M,take_zero,B9,any_nil,Bool.and_false,Bool.false_and,Bool.or_false]
      rw [hM]
  · rintro F h ⟨p1, p2, p3, p7, rfl⟩
    have e:Aj t.nodes.length (Pw t x f x)=Aj t.nodes.length (swB t x f):=rfl
    simp only [go_sem,↓reduceIte,p1,p2,p3,p7,Al,Bl,take_length,e]
    simp
  · simp only [go_sem,↓reduceIte]
  · simp only [go_sem, ↓reduceIte]
    rw [<- KS];rfl
theorem A4h (t:A2) (ht:A9 t) (x f:List Int) (hl:x.length<=1000) (hlf:f.length<=1000) (hc:CL t x f=true) {Q:VV->Prop}:VP V AbN [vT t,lI x,lI f] Q↔Q (lW (hbF t x f)):=by
 refine Ad ?_
 rw [Ab C.c_z50.1 C.c_z50.2]
 have h6:=ht.n64
 rw [hbF,hc]
 have hF:=Ba hc
 have hx:=hF.node
 have he:=fun (b:Nat) (Q:VV->VH->Prop)=>A0G C t ht x f hl hlf hc b (Q:=Q)
 have h8:=Ad5 (i:=0) (v:=0) (o:=0) (A7T ht)
 simp only [Agg,go_sem,↓reduceIte,he,h8]
 let M:=fun (i k:Nat) (a b:Nat)=>swB t x f a b || ((B9 (x.take i) (a:Int) && B9 x (b:Int) && Ah t a b) || (decide ((a:Int)=x.getD i 0) && B9 (x.take k) (b:Int) && Ah t a b))
 refine Aa (by decide) x.length (by omega) (I:=fun i F h=>A3.tmp F 1=lI x/\A3.tmp F 3 = .fp (eT t) 0/\A3.tmp F 7 = .sl 0 0 0 t.nodes.length/\h=[some ⟨AL,1,0,false,(Aj t.nodes.length (M i 0)).map eW⟩]) ?_ ?_ ?_ 0 _ _ (zero_le _) ?_ ?_
 .rintro i F h hi p8 ⟨p1,p3,p7,rfl⟩
  simp only [go_sem,↓reduceIte,p8,p1,p3,p7]
 .rintro i F h hi p8 ⟨p1,p3,p7,rfl⟩
  obtain ⟨a,h3,ha⟩:=A7 (hx _ (Ac (d:=0) hi))
  simp only [go_sem,↓reduceIte,p8,p1,p3,p7,A0]
  refine Aa (by decide) x.length (by omega) (I:=fun k F h=>A3.tmp F 8 = .i .i64 i/\A3.tmp F 1=lI x/\A3.tmp F 3 = .fp (eT t) 0/\A3.tmp F 7 = .sl 0 0 0 t.nodes.length/\h=[some ⟨AL,1,0,false,(Aj t.nodes.length (M i k)).map eW⟩]) ?_ ?_ ?_ 0 _ _ (zero_le _) ?_ ?_
  .rintro k F h hk q9 ⟨q8,q1,q3,q7,rfl⟩
   simp only [go_sem,↓reduceIte,q9,q8,q1,q3,q7]
  .rintro k F h hk q9 ⟨q8,q1,q3,q7,rfl⟩
   obtain ⟨m,h2,hm⟩:=A7 (hx _ (Ac (d:=0) hk))
   have hb:=fun (Q:VV->Prop)=>C2 C t ht.up (a:Int) (m:Int) (Q:=Q)
   have h5:∀ b:Nat,B9 (x.take (k+1)) (b:Int)=(B9 (x.take k) (b:Int) || decide (b=m)):=fun b=>by
    rw [take_succ_eq_append_getElem hk]
    rw [getD_eq_getElem?_getD,getElem?_eq_getElem hk,getD_some] at h2
    rw [h2,Bool.eq_iff_iff,Af,mem_append,or_eq_true,Af,decide_eq_true_eq,mem_singleton]
    exact ⟨fun h=>h.imp id fun h=>by omega,fun h=>h.imp id fun h=>by omega⟩
   have h4:∀ i':Nat,decide ((i':Int)=x.getD i 0)=decide (i' = a):=fun i'=>by rw [h3];exact decide_eq_decide.2 ⟨fun h=>by omega,fun h=>by omega⟩
   cases d1:Ah t a m with
   | false =>
    have hd:Aj t.nodes.length (M i k)=Aj t.nodes.length (M i (k+1)):=B8 fun i' b _ _=>by
     simp only [M]
     rw [h5,h4]
     by_cases c:i' = a
     .subst c
      by_cases c':b=m
      .subst c';rw [d1];simp
      .simp [c']
     .simp [c]
    simp only [go_sem,↓reduceIte,q9,q8,q1,q3,q7,Ak hi,Ak hk,hi,hk,h3,h2,hb,d1,A0,hd]
   | true =>
    have h1:=Tb ha hm h6 (M i k)
    have h7:Aj t.nodes.length (fun i' b=>M i k i' b || (decide (i' = a) && decide (b=m)))=Aj t.nodes.length (M i (k+1)):=B8 fun i' b _ _=>by
     simp only [M]
     rw [h5,h4]
     by_cases c:i' = a
     .subst c
      by_cases c':b=m
      .subst c';rw [d1];simp
      .simp [c']
     .simp [c]
    rw [h7] at h1
    simp only [go_sem,↓reduceIte,q9,q8,q1,q3,q7,Ak hi,Ak hk,hi,hk,h3,h2,hb,d1,A0,BA ha,Bk C,h1,Al,ha]
  .rintro F h ⟨q8,q1,q3,q7,rfl⟩
   have hM:Aj t.nodes.length (M i x.length)=Aj t.nodes.length (M (i+1) 0):=B8 fun i' b _ _=>by
    simp only [M]
    rw [take_length,take_zero]
    have e:B9 (x.take (i+1)) (i':Int)=(B9 (x.take i) (i':Int) || decide ((i':Int)=x.getD i 0)):=by
     rw [take_succ_eq_append_getElem hi,getD_eq_getElem?_getD,getElem?_eq_getElem hi,getD_some,Bool.eq_iff_iff,Af,mem_append,or_eq_true,Af,decide_eq_true_eq,mem_singleton]
    rw [e]
    show _=(_ || (_ || (_ && false && _)))
    cases swB t x f i' b<;>cases B9 (x.take i) (i':Int)<;>cases decide ((i':Int)=x.getD i 0)<;>cases B9 x (b:Int)<;>cases Ah t i' b<;>simp
   simp only [go_sem,↓reduceIte,q8,q1,q3,q7,hM]
  .simp only [go_sem,↓reduceIte]
  .simp only [go_sem,↓reduceIte,p8,p1,p3,p7]
 .rintro F h ⟨p1,p3,p7,rfl⟩
  have hM:Aj t.nodes.length (M x.length 0)=Aj t.nodes.length (Mv t x f):=B8 fun a b _ _=>by
   simp only [M]
   rw [take_length,take_zero]
   show (_ || (_ || (_ && false && _)))=_
   rw [Mv]
   cases swB t x f a b<;>cases B9 x (a:Int)<;>cases B9 x (b:Int)<;>cases Ah t a b<;>simp
  have h9:=fun (Q:VV->Prop)=>P9 C (Aj t.nodes.length (Mv t x f)) (by rw [Al];omega) (Q:=Q)
  simp only [go_sem,↓reduceIte,p1,p3,p7,hM,Al,A87,h9]
  try rfl
 .simp only [go_sem,↓reduceIte]
 .simp only [go_sem,↓reduceIte]
  have h0:Aj t.nodes.length (M 0 0)=Aj t.nodes.length (swB t x f):=B8 fun a b _ _=>by
   simp only [M]
   rw [take_zero]
   show (_ || ((false && _ && _) || (_ && false && _)))=_
   simp
  rw [h0]
end
abbrev Zy (n:AJ) (p:Int):List VV:=[.i .i64 n.thread,.i .i64 n.up,.i .i64 n.kind,.i .i64 n.loc,.i .i64 n.mode,.i .i64 n.val,.b n.rmw,.b n.fin,lI n.regs,.i .i64 p]
section
variable {V:Am} (C:Ap V) {Q:VV->Prop}
include C
theorem RZ (n:AJ) (p:Int):VP V XY [.ag (Zy n p)] Q↔Q (.b (decide (n.kind=2) || decide (n.kind=3))):=by
 refine Ad ?_
 rw [Ab C.c_z212.1 C.c_z212.2]
 cases c:decide (n.kind=2)<;>simp only [A2U,go_sem,↓reduceIte,c,Bool.true_or,Bool.false_or]
theorem TX (a b:AJ) (p q:Int):VP V XZ [.ag (Zy a p),.ag (Zy b q)] Q↔Q (.b (decide (p < q))):=by
 refine Ad ?_
 rw [Ab C.c_z213.1 C.c_z213.2]
 simp only [A2V,go_sem,↓reduceIte]
theorem Zu (a b:AJ) (p q:Int):VP V Y0 [.ag (Zy a p),.ag (Zy b q)] Q↔Q (.b (decide (p<=q))):=by
 refine Ad ?_
 rw [Ab C.c_z214.1 C.c_z214.2]
 simp only [A2W,go_sem,↓reduceIte]
theorem NX (a b:AJ) (pa pb:Int):VP V XA [vN a,vN b,.i .i64 pa,.i .i64 pb] Q↔Q (.b (DA a b pa pb)):=by
 refine Ad ?_
 rw [Ab C.c_z177.1 C.c_z177.2]
 have a1:=fun (n:AJ) (p:Int) (Q:VV->Prop)=>RZ C n p (Q:=Q)
 have h0:DA a b pa pb=((!(decide (a.kind=2) || decide (a.kind=3)) || !(decide (b.kind=2) || decide (b.kind=3)) || !decide (a.loc=b.loc)) || (bif decide (b.kind=2) then decide (pa<=pb) else decide (pa < pb))):=by
  unfold DA
  by_cases c:b.kind=2<;>simp [c]
 rw [h0]
 cases c1:(decide (a.kind=2) || decide (a.kind=3)) with
 | false =>
  simp only [LH,go_sem,↓reduceIte,a1,c1,Bool.not_false,Bool.true_or]
 | true =>
 cases c2:(decide (b.kind=2) || decide (b.kind=3)) with
 | false =>
  simp only [LH,go_sem,↓reduceIte,a1,c1,c2,Bool.not_false,Bool.true_or,Bool.not_true,Bool.false_or]
 | true =>
 cases c3:decide (a.loc=b.loc) with
 | false =>
  simp only [LH,go_sem,↓reduceIte,a1,c1,c2,c3,Bool.not_false,Bool.true_or,Bool.not_true,Bool.false_or]
 | true =>
 cases c4:decide (b.kind=2) with
 | false =>
  have c5:decide (b.kind=3)=true:=by rw [c4] at c2;simpa using c2
  simp only [LH,go_sem,↓reduceIte,a1,c1,c2,c3,c4,c5,TX C,Bool.not_true,Bool.false_or,cond_false]
 | true =>
  simp only [LH,go_sem,↓reduceIte,a1,c1,c2,c3,c4,Zu C,Bool.not_true,Bool.false_or,cond_true]
theorem RY (t:A2) (s:A6) (hs:El s) {n:Nat} (hn:n < t.nodes.length):VP V K7 [.i .i64 n,.fp (eT t) 0,.fp (EX s) 0] Q↔Q (.i .i64 (plN t s n)):=by
 refine Ad ?_
 rw [Ab C.c_z129.1 C.c_z129.2]
 unfold plN
 rw [toNat_natCast]
 cases c:decide ((t.at n).kind=2) with
 | false =>
  rw [if_neg (of_decide_eq_false c)]
  simp only [Ub,go_sem,↓reduceIte,A5 hn,c,HE C s hs]
 | true =>
  rw [if_pos (of_decide_eq_true c)]
  simp only [Ub,go_sem,↓reduceIte,A5 hn,c,Jm C s hs,HE C s hs]
theorem TY (P:Nat->Prop) (t:A2) (ht:A9 t) (r:Rows) (hr:∀ x∈Bj r,∃ a b:Nat,a < t.nodes.length/\b < t.nodes.length/\P a/\P b/\x=((a:Int),(b:Int))) (hl:(Bj r).length<=5000) {g:Nat} {c:List VV} (hc:Fz c) (pl:Int->Int)
  (hg:∀ (n:Nat),n < t.nodes.length->P n->∀ Q:VV->Prop,VP V g ([VV.i .i64 n]++c) Q↔Q (.i .i64 (pl n))) :
  VP V QP [vT t,lW r,.f g [] c] Q↔Q (.b ((Bj r).all fun x=>DA (t.at x.1.toNat) (t.at x.2.toNat) (pl x.1) (pl x.2))):=by
 refine Ad ?_
 rw [Ab C.c_z128.1 C.c_z128.2]
 have h2:CF 0 c=true:=K3 (hc [] 5) (fun v e=>A5p e)
 have h0:∀ h,B6 (frz h 8) c=some (c,[]):=fun h=>hc h 5
 have h3:∀ h,B6 (frz h 7) c=some (c,[]):=fun h=>hc h 4
 simp only [A28,go_sem,↓reduceIte,Pb C,h3]
 refine Ag (by decide) (Bj r).length (by omega) (I:=fun k F h=>A3.tmp F 2 = .f g [] c/\A3.tmp F 3 = .fp (eT t) 0/\A3.tmp F 10=lP (Bj r)/\h=[]/\∀ x∈(Bj r).take k,DA (t.at x.1.toNat) (t.at x.2.toNat) (pl x.1) (pl x.2)=true) ?_ ?_ 0 _ _ (by omega) ?_ ?_ ?_
 .rintro k F h hk h5 h4 ⟨p2,p3,h1,rfl,pr⟩
  obtain ⟨a,b,ha,hb,h6,h7,e⟩:=hr _ (List.getElem_mem hk)
  have Cs:(Bj r)[k]? = some ((a:Int),(b:Int)):=by rw [getElem?_eq_getElem hk,e]
  have ga:=fun (Q:VV->Prop)=>hg a ha h6 Q
  have gb:=fun (Q:VV->Prop)=>hg b hb h7 Q
  simp only [List.cons_append,List.nil_append] at ga gb
  cases c1:DA (t.at a) (t.at b) (pl a) (pl b) with
  | true =>
   simp only [go_sem,↓reduceIte,h5,h4,p2,p3,h1,Cs,hk,A5 ha,A5 hb,ga,gb,NX C,c1,A0,h3,h0,h2]
   intro x hx
   rw [take_succ_eq_append_getElem hk] at hx
   rcases List.mem_append.1 hx with hx | hx
   .exact pr x hx
   .rw [List.mem_singleton.1 hx,e];exact c1
  | false =>
   have e:((Bj r).all fun x=>DA (t.at x.1.toNat) (t.at x.2.toNat) (pl x.1) (pl x.2))=false:=by
    rw [List.all_eq_false]
    exact ⟨_,List.getElem_mem hk,by rw [e,toNat_natCast,toNat_natCast,c1];simp⟩
   simp only [go_sem,↓reduceIte,h5,h4,p2,p3,h1,Cs,hk,A5 ha,A5 hb,ga,gb,NX C,c1,A0,e,h3,h0]
 .rintro F h ⟨p2,p3,h1,rfl,pr⟩
  rw [take_length] at pr
  have e:((Bj r).all fun x=>DA (t.at x.1.toNat) (t.at x.2.toNat) (pl x.1) (pl x.2))=true:=by rw [List.all_eq_true];exact pr
  simp only [go_sem,↓reduceIte,p2,p3,h1,e]
 .simp only [go_sem,↓reduceIte]
 .simp only [go_sem,↓reduceIte]
 .simp only [go_sem,↓reduceIte]
theorem TZ (t:A2) (ht:A9 t) (r:Rows) (hr:∀ x∈Bj r,∃ a b:Nat,a < t.nodes.length/\b < t.nodes.length/\x=((a:Int),(b:Int))) (hl:(Bj r).length<=5000) {g:Nat} {c:List VV} (hc:Fz c) (pl:Int->Int)
  (hg:∀ (n:Nat),n < t.nodes.length->∀ Q:VV->Prop,VP V g ([VV.i .i64 n]++c) Q↔Q (.i .i64 (pl n))) :
  VP V QP [vT t,lW r,.f g [] c] Q↔Q (.b ((Bj r).all fun x=>DA (t.at x.1.toNat) (t.at x.2.toNat) (pl x.1) (pl x.2))) :=
 TY C (fun _=>True) t ht r (fun x hx=>by obtain ⟨a,b,h1,h2,e⟩:=hr x hx;exact ⟨a,b,h1,h2,trivial,trivial,e⟩) hl hc pl (fun n hn _ Q=>hg n hn Q)
theorem TW (t:A2) (ht:A9 t) (s:A6) (hs:El s):VP V A6x [vT t,Eu s] Q↔Q (.b (L3 t s)):=by
 refine Ad ?_
 rw [Ab C.c_z82.1 C.c_z82.2]
 have h1:=ht.n64
 have h0:=fun (Q:VV->Prop)=>Pe C t ht s hs (Q:=Q)
 rw [Abr t ht s] at h0
 unfold L3
 cases hf:Bd t s with
 | false=>simp only [A5g,go_sem,↓reduceIte,h0,hf,Bool.false_and]
 | true =>
  have h2:=B3 hf
  have hF:=Ba h2
  have h3:=fun (Q:VV->Prop)=>To C t ht s.has s.jf hs.has hs.jf (Q:=Q)
  rw [hbF,if_pos h2] at h3
  have h5:(Bj (Lh t s.has s.jf)).length<=5000:=by
   have:=Nz (Lh t s.has s.jf) (Lh t s.has s.jf).length
   rw [Bj]
   have hl:(Lh t s.has s.jf).length=t.nodes.length:=DB h1 _
   split
   .rw [hl] at this ⊢;omega
   .simp
  have h4:∀ x∈Bj (Lh t s.has s.jf),∃ a b:Nat,a < t.nodes.length/\b < t.nodes.length/\x=((a:Int),(b:Int)):=fun x hx=>by
   obtain ⟨a,b,ha,e,hp⟩:=(KM h1 _ _).1 hx
   exact ⟨a,b,ha,hp.lt,e⟩
  have h6:=fun (Q:VV->Prop)=>TZ C t ht (Lh t s.has s.jf) h4 h5 (g:=K7) (c:=[.fp (eT t) 0,.fp (EX s) 0]) (fun _ _=>rfl) (plN t s) (fun n hn Q=>RY C t s hs hn (Q:=Q)) (Q:=Q)
  simp only [A5g,go_sem,↓reduceIte,h0,hf,h3,h6,Bool.true_and]
  rfl
theorem EC (t:A2) (s:A6) (hs:El s) {n:Nat} (hn:n < t.nodes.length):VP V Acd [vT t,Eu s,.i .i64 n] Q↔Q (.i .i64 (plR t s n)):=by
 refine Ad ?_
 rw [Ab C.c_z95.1 C.c_z95.2]
 unfold plR
 rw [toNat_natCast]
 cases c:decide ((t.at n).kind=3) with
 | true =>
  rw [if_pos (of_decide_eq_true c)]
  simp only [A5k,go_sem,↓reduceIte,A5 hn,c,HA C s hs,A0]
 | false =>
  rw [if_neg (of_decide_eq_false c)]
  cases c2:decide ((t.at n).kind=2) with
  | true =>
   rw [if_pos (of_decide_eq_true c2)]
   simp only [A5k,go_sem,↓reduceIte,A5 hn,c,c2,Jk C s hs,HA C s hs,A0]
  | false =>
   rw [if_neg (of_decide_eq_false c2)]
   simp only [A5k,go_sem,↓reduceIte,A5 hn,c,c2,A0]
def Jb (t:A2) (s:A6) (i k:Nat):Bool:=decide (i=k) || !Uv t s.has s.jf (s.has.getD i 0) (s.has.getD k 0) || DA (t.at (s.has.getD i 0).toNat) (t.at (s.has.getD k 0).toNat) (plR t s (s.has.getD i 0)) (plR t s (s.has.getD k 0))
theorem Ys (t:A2) (ht:A9 t) (s:A6) (hs:El s) (hn:Cq t s.has):VP V AbR [vT t,Eu s,lW (Lh t s.has s.jf)] Q↔Q (.b (Mt t s)):=by
 refine Ad ?_
 rw [Ab C.c_z54.1 C.c_z54.2]
 have h7:=ht.n64
 have hl:(Lh t s.has s.jf).length=t.nodes.length:=DB h7 _
 have h9:=hs.has
 have h8:Mt t s=(List.range s.has.length).all fun i=>(List.range s.has.length).all fun k=>Jb t s i k:=rfl
 rw [h8]
 simp only [Agk,go_sem,↓reduceIte]
 refine Aa (by decide) s.has.length (by omega) (I:=fun i F h=>A3.tmp F 2=lW (Lh t s.has s.jf)/\A3.tmp F 3 = .fp (eT t) 0/\A3.tmp F 4 = .fp (EX s) 0/\h=[]/\∀ j,j < i->(List.range s.has.length).all (fun k=>Jb t s j k)=true) ?_ ?_ ?_ 0 _ _ (zero_le _) ?_ ?_
 .rintro i F h hi p7 ⟨p2,p3,p4,rfl,pr⟩
  simp only [go_sem,↓reduceIte,p7,p2,p3,p4]
  exact pr
 .rintro i F h hi p7 ⟨p2,p3,p4,rfl,pr⟩
  obtain ⟨a,h0,ha⟩:=A7 (hn _ (Ac (d:=0) hi))
  simp only [go_sem,↓reduceIte,p7,p2,p3,p4,A0]
  refine Aa (by decide) s.has.length (by omega) (I:=fun k F h=>A3.tmp F 7 = .i .i64 i/\A3.tmp F 2=lW (Lh t s.has s.jf)/\A3.tmp F 3 = .fp (eT t) 0/\A3.tmp F 4 = .fp (EX s) 0/\h=[]/\∀ j,j < k->Jb t s i j=true) ?_ ?_ ?_ 0 _ _ (zero_le _) ?_ ?_
  .rintro k F h hk q8 ⟨q7,q2,q3,q4,rfl,qr⟩
   simp only [go_sem,↓reduceIte,q8,q7,q2,q3,q4]
   exact qr
  .rintro k F h hk q8 ⟨q7,q2,q3,q4,rfl,qr⟩
   obtain ⟨b,h1,hb⟩:=A7 (hn _ (Ac (d:=0) hk))
   have h5:Jb t s i k=true->∀ j,j < k+1->Jb t s i j=true:=fun h j hj=>by
    rcases lt_or_ge j k with c | c
    .exact qr j c
    .rw [show j=k by omega];exact h
   have h6:Jb t s i k=false->((List.range s.has.length).all fun i=>(List.range s.has.length).all fun k=>Jb t s i k)=false:=fun h=>AF hi (AF hk h)
   have h3:Jb t s i k=(decide (i=k) || !Uv t s.has s.jf a b || DA (t.at a) (t.at b) (plR t s a) (plR t s b)):=by rw [Jb,h0,h1,toNat_natCast,toNat_natCast]
   have h2:=fun (Q:VV->Prop)=>T9 C (Lh t s.has s.jf) (a:Int) (b:Int) (by omega) (Q:=Q)
   have hh:(decide ((0:Int)<=(a:Int)) && B1 ((Lh t s.has s.jf).getD (a:Int).toNat 0#64) (b:Int))=Uv t s.has s.jf a b:=by rw [Uv,decide_eq_true (by omega)];rfl
   rw [hh] at h2
   have h4:decide ((i:Int)=(k:Int))=decide (i=k):=decide_eq_decide.2 ⟨fun h=>by omega,fun h=>by omega⟩
   cases d1:decide (i=k) with
   | true =>
    simp only [go_sem,↓reduceIte,q8,q7,q2,q3,q4,Ak hi,Ak hk,hi,hk,h0,h1,h4,d1,A0]
    exact h5 (by rw [h3,d1];rfl)
   | false =>
   cases d2:Uv t s.has s.jf a b with
   | false =>
    simp only [go_sem,↓reduceIte,q8,q7,q2,q3,q4,Ak hi,Ak hk,hi,hk,h0,h1,h4,d1,h2,d2,A0]
    exact h5 (by rw [h3,d2];simp)
   | true =>
   cases d3:DA (t.at a) (t.at b) (plR t s a) (plR t s b) with
   | true =>
    simp only [go_sem,↓reduceIte,q8,q7,q2,q3,q4,Ak hi,Ak hk,hi,hk,h0,h1,h4,d1,h2,d2,A5 ha,A5 hb,EC C t s hs ha,EC C t s hs hb,MQ C,d3,A0]
    exact h5 (by rw [h3,d3];simp)
   | false =>
    have e:=h6 (by rw [h3,d1,d2,d3];rfl)
    simp only [go_sem,↓reduceIte,q8,q7,q2,q3,q4,Ak hi,Ak hk,hi,hk,h0,h1,h4,d1,h2,d2,A5 ha,A5 hb,EC C t s hs ha,EC C t s hs hb,MQ C,d3,A0,e]
  .rintro F h ⟨q7,q2,q3,q4,rfl,qr⟩
   simp only [go_sem,↓reduceIte,q7,q2,q3,q4]
   intro j hj
   rcases lt_or_ge j i with c | c
   .exact pr j c
   .rw [show j=i by omega];exact AG qr
  .simp only [go_sem,↓reduceIte]
  .simp only [go_sem,↓reduceIte,p7,p2,p3,p4]
   intro j hj;omega
 .rintro F h ⟨p2,p3,p4,rfl,pr⟩
  have e:=AG pr
  simp only [go_sem,↓reduceIte,p2,p3,p4,e]
 .simp only [go_sem,↓reduceIte]
 .simp only [go_sem,↓reduceIte]
  intro j hj;omega
end
def JB (ty e:Nat) (rows:List (List VV)):VO:=if rows.length=0 then Dh else { ty:=ty,esz:=e,ver:=0,nl:=false,rows:=rows }
def stJ (t:A2) (k:Nat):List Int:=List.replicate (DM t k).length (-1)
theorem AmK {t:A2} {k:Nat} (h:decide ((t.at k).up < 0)=true):stJ t (k+1)=stJ t k++[-1]:=by
 unfold stJ
 rw [A6V h,length_append,List.length_singleton,List.replicate_succ']
theorem AmJ {t:A2} {k:Nat} (h:decide ((t.at k).up < 0)=false):stJ t (k+1)=stJ t k:=by unfold stJ;rw [A6U h]
theorem AfH {t:A2} (k:Nat):(stJ t k).length<=k:=by unfold stJ;rw [List.length_replicate];exact NF k
def Hn (k:Nat):List (List (List Int)):=(List.range k).map fun (i:Nat)=>[[(i:Int)]]
theorem A8f (k:Nat):Hn (k+1)=Hn k++[[[(k:Int)]]]:=by
 unfold Hn
 rw [List.range_succ,map_append];rfl
theorem AcP (k:Nat):(Hn k).length=k:=by simp [Hn]
def sTh (t:A2) (k j:Nat):VH:=[some ⟨Ae,0,0,false,[[.nl,.nl,.nl]]⟩,some (AX AO 1 ((DM t k).map eI)),some (AX AO 1 ((stJ t k).map eI)),some (AX Bx 1 ((Hn j).map De)),
 some ⟨Ae,0,0,false,[[.sl 1 (DM t k).length 0 (DM t k).length,.sl 2 (stJ t k).length 0 (stJ t k).length,.sl 3 (Hn j).length 0 (Hn j).length]]⟩]
theorem AcM (ty:Nat) (L:List (List Int)) (c:List Int):({ ty:=ty,esz:=1,ver:=L.length+1,nl:=false,rows:=L.map JC++[[VV.ls (c.map eI)]] }:VO)=AX ty 1 ((L++[c]).map JC):=by
 rw [map_append]
 unfold AX
 rw [if_neg (by simp),length_append,length_map];rfl
theorem A6T (ty:Nat) (L:List (List (List Int))) (c:List (List Int)):({ ty:=ty,esz:=1,ver:=L.length+1,nl:=false,rows:=L.map De++[[VV.ls (c.map JC)]] }:VO)=AX ty 1 ((L++[c]).map De):=by
 rw [map_append]
 unfold AX
 rw [if_neg (by simp),length_append,length_map];rfl
def cpH (s:A6) (L:List (List (List Int))):VH:=[some ⟨Ae,0,0,false,[[.nl,.nl,.nl]]⟩,some (Qi AO 1 (s.has.map eI)),some (Qi AO 1 (s.jf.map eI)),
 some ⟨Ae,0,0,false,[[.sl 1 (GX s.has.length) 0 s.has.length,.sl 2 (GX s.jf.length) 0 s.jf.length,.sl 4 L.length 0 L.length]]⟩,some (AX Bx 1 (L.map De))]
section
variable {V:Am} (C:Ap V) {Q:VV->Prop}
include C
theorem Ls (t:A2) (ht:A9 t):VP V AbG [vT t] Q↔Q (Eu (BF t)):=by
 refine Ad ?_
 rw [Ab C.c_z26.1 C.c_z26.2]
 have h1:=ht.n64
 have h2:=ht.l4
 simp only [Agc,go_sem,↓reduceIte]
 refine Aa (by decide) t.nodes.length (by omega) (I:=fun k F h=>A3.tmp F 1 = .fp (eT t) 0/\A3.tmp F 2 = .p 0 0 0 0/\A3.tmp F 3 = .p 4 0 0 0/\h=sTh t k 0) ?_ ?_ ?_ 0 _ _ (zero_le _) ?_ ?_
 .rintro k F h hk p4 ⟨p1,p2,p3,rfl⟩
  simp only [go_sem,↓reduceIte,p4,p1,p2,p3]
 .rintro k F h hk p4 ⟨p1,p2,p3,rfl⟩
  have h0:=NF (t:=t) k
  cases c:decide ((t.at k).up < 0) with
  | true =>
   have b1:((DM t k).length+1) * 8<=A8:=by unfold A8;omega
   have hj:=AfH (t:=t) k
   have b2:((stJ t k).length+1) * 8<=A8:=by unfold A8;omega
   simp only [go_sem,↓reduceIte,p4,p1,p2,p3,hk,A5 hk,c,sTh,A6V c,AmK c,A0,b1,b2,length_map,length_append]
  | false =>
   simp only [go_sem,↓reduceIte,p4,p1,p2,p3,hk,A5 hk,c,sTh,A6U c,AmJ c,A0]
 .rintro F h ⟨p1,p2,p3,rfl⟩
  simp only [go_sem,↓reduceIte,p1,p2,p3]
  refine Aa (by decide) t.locs.length (by omega) (I:=fun j F h=>A3.tmp F 1 = .fp (eT t) 0/\A3.tmp F 2 = .p 0 0 0 0/\A3.tmp F 3 = .p 4 0 0 0/\h=sTh t t.nodes.length j) ?_ ?_ ?_ 0 _ _ (zero_le _) ?_ ?_
  .rintro k F h hk p5 ⟨p1,p2,p3,rfl⟩
   simp only [go_sem,↓reduceIte,p5,p1,p2,p3]
  .rintro k F h hk p5 ⟨p1,p2,p3,rfl⟩
   have hm:=AcP k
   have b1:((Hn k).length+1) * 24<=A8:=by unfold A8;omega
   simp only [go_sem,↓reduceIte,p5,p1,p2,p3,hk,sTh,A8f,A0,b1,length_map,length_append]
   have e:List.map De (Hn k++[[[(k:Int)]]])=List.map De (Hn k)++[[VV.ls [[VV.ls [[VV.i IntKind.i64 (k:Int)]]]]]]:=by rw [map_append];rfl
   have e2:({ ty:=Bx,esz:=1,ver:=(Hn k).length+1,nl:=false,rows:=List.map De (Hn k)++[[VV.ls [[VV.ls [[VV.i IntKind.i64 (k:Int)]]]]]] }:VO)=AX Bx 1 (List.map De (Hn k++[[[(k:Int)]]])):=by
    rw [e]
    unfold AX
    rw [if_neg (by simp),length_append,length_map];rfl
   rw [e2]
   refine ⟨.inr ?_,rfl⟩
   rw [List.all_append,Bool.and_eq_true]
   exact ⟨Ha (fun _=>rfl),rfl⟩
  .rintro F h ⟨p1,p2,p3,rfl⟩
   simp only [go_sem,↓reduceIte,p1,p2,p3,sTh]
   rfl
  .simp only [go_sem,↓reduceIte]
  .simp only [go_sem,↓reduceIte,p1,p2,p3]
 .simp only [go_sem,↓reduceIte]
 .simp only [go_sem,↓reduceIte]
  rfl
theorem Lr (s:A6) (hs:El s) (b:Nat) {Q:VV->VH->Prop}:TE V SU [Eu s] b Q↔Q (.ag [.sl b 0 0 s.has.length,.sl (b+1) 0 0 s.jf.length,.sl (b+1+1) 0 0 s.mo.length]) [some ⟨AO,1,0,false,s.has.map eI⟩,some ⟨AO,1,0,false,s.jf.map eI⟩,some (JB Bx 1 (s.mo.map De))]:=by
 refine Hs ?_
 rw [Ht C.c_z40.2]
 have h1:=hs.has
 have h2:=hs.jf
 have h3:=hs.mo
 have b1:s.has.length * 8<=A8:=by unfold A8;omega
 have b2:s.jf.length * 8<=A8:=by unfold A8;omega
 simp only [A57,go_sem,↓reduceIte,b1,b2]
 refine Aa (by decide) s.mo.length (by omega) (I:=fun k F h=>A3.tmp F 1 = .fp (EX s) 0/\A3.tmp F 2 = .p 0 0 0 0/\A3.tmp F 3 = .p 3 0 0 0/\∃ L,L=s.mo.take k/\h=cpH s L) ?_ ?_ ?_ 0 _ _ (zero_le _) ?_ ?_
 .rintro k F h hk p4 ⟨p1,p2,p3,L,hL,rfl⟩
  simp only [go_sem,↓reduceIte,p4,p1,p2,p3]
  exact ⟨L,hL,rfl⟩
 .rintro k F h hk p4 ⟨p1,p2,p3,L,hL,rfl⟩
  have hm:=hs.mi' k
  simp only [go_sem,↓reduceIte,p4,p1,p2,p3,A0,cpH]
  refine Aa (by decide) (s.mo.getD k []).length (by omega) (I:=fun j F h=>A3.tmp F 4 = .i .i64 k/\A3.tmp F 1 = .fp (EX s) 0/\A3.tmp F 2 = .p 0 0 0 0/\A3.tmp F 3 = .p 3 0 0 0/\∃ K,K=(s.mo.getD k []).take j/\A3.tmp F 5 = .sl 5 K.length 0 K.length/\h=cpH s L++[some (AX EA 1 (K.map JC))]) ?_ ?_ ?_ 0 _ _ (zero_le _) ?_ ?_
  .rintro j F h hj q6 ⟨q4,q1,q2,q3,K,hK,q5,rfl⟩
   simp only [go_sem,↓reduceIte,q6,q4,q1,q2,q3,q5,BP hk]
   exact ⟨K,hK,rfl,rfl⟩
  .rintro j F h hj q6 ⟨q4,q1,q2,q3,K,hK,q5,rfl⟩
   have h0:(s.mo.getD k []).take (j+1)=K++[(s.mo.getD k []).getD j []]:=by
    rw [take_succ_eq_append_getElem hj,hK,getD_eq_getElem?_getD (l:=s.mo.getD k []),getElem?_eq_getElem hj];rfl
   have hc:=hs.mc' k j
   have hl:K.length=j:=by rw [hK,length_take];omega
   have b3:((s.mo.getD k []).getD j []).length * 8<=A8:=by unfold A8;omega
   have b4:(K.length+1) * 24<=A8:=by unfold A8;omega
   simp only [go_sem,↓reduceIte,q6,q4,q1,q2,q3,q5,BP hk,EY hj,hk,hj,b3,b4,cpH,AcM,A0,length_append,length_map]
   exact ⟨K++[(s.mo.getD k []).getD j []],h0.symm,by simp,rfl⟩
  .rintro F h ⟨q4,q1,q2,q3,K,hK,q5,rfl⟩
   rw [take_length] at hK
   subst hK
   have h0:s.mo.take (k+1)=L++[s.mo.getD k []]:=by
    rw [take_succ_eq_append_getElem hk,hL,getD_eq_getElem?_getD,getElem?_eq_getElem hk];rfl
   have hl:L.length=k:=by rw [hL,length_take];omega
   have b4:(L.length+1) * 24<=A8:=by unfold A8;omega
   simp only [go_sem,↓reduceIte,q4,q1,q2,q3,q5,b4,cpH,A6T,length_append,length_map]
   exact ⟨L++[s.mo.getD k []],h0.symm,by simp⟩
  .simp only [go_sem,↓reduceIte]
  .simp only [go_sem,↓reduceIte,p4,p1,p2,p3,cpH]
   exact ⟨[],rfl,rfl,rfl⟩
 .rintro F h ⟨p1,p2,p3,L,hL,rfl⟩
  rw [take_length] at hL
  subst hL
  simp only [go_sem,↓reduceIte,p1,p2,p3,cpH,Bl,Bl.takeL]
  refine ⟨by decide,?_⟩
  unfold AX JB
  split<;>simp_all [Dh]
 .simp only [go_sem,↓reduceIte]
 .simp only [go_sem,↓reduceIte]
  exact ⟨[],rfl,rfl⟩
end
def Pp:A6:=⟨[],[],[]⟩
def HS (o:Option A6):VV:=match o with
 | some s=>.tu [Eu s,.b true]
 | none=>.tu [Eu Pp,.b false]
def DJ (t:A2) (s:A6) (n kind w:Int):Option A6:=if Ct t s n kind=true then some (Bo s n w) else none
theorem Mx {l:List Int} {n:Int} {i:Nat} (h:i<=C4 l n):(i < l.length/\l.getD i 0 < n)↔i < C4 l n:=by
 constructor
 .rintro ⟨h1,h2⟩
  rcases lt_or_ge i (C4 l n) with c | c
  .exact c
  .have e:i=C4 l n:=by omega
   subst e
   exact absurd h2 (Aei h1)
 .intro h2
  exact ⟨by have:=G9 l n;omega,My h2⟩
theorem Mg {ty e:Nat} {rows:List (List VV)}:(JB ty e rows).ver=0:=by unfold JB;split<;>rfl
theorem KA {ty e:Nat} {rows:List (List VV)}:(JB ty e rows).rows=rows:=by
 unfold JB;split
 .rename_i h;rw [List.length_eq_zero_iff.1 h];rfl
 .rfl
theorem Mf {ty:Nat} {rows:List (List VV)}:(decide (0 < (JB ty 1 rows).esz) || (JB ty 1 rows).nl)=true:=by unfold JB;split<;>rfl
def moH (s:A6):VH:=[some ⟨Ae,0,0,false,[[.nl,.nl,.nl]]⟩,some ⟨AO,1,0,false,s.has.map eI⟩,some ⟨AO,1,0,false,s.jf.map eI⟩,some (JB Bx 1 (s.mo.map De)),some ⟨Ae,0,0,false,[[.sl 1 0 0 s.has.length,.sl 2 0 0 s.jf.length,.sl 3 0 0 s.mo.length]]⟩]
section
variable {V:Am} (C:Ap V) {Q:VV->Prop}
include C
theorem MR (t:A2) (ht:A9 t) (s:A6) (hs:El s) (n kind w:Int):VP V Jf [vT t,Eu s,.i .i64 n,.i .i64 kind,.i .i64 w] Q↔Q (HS (DJ t s n kind w)):=by
 refine Ad ?_
 rw [Ab C.c_z101.1 C.c_z101.2]
 have h6:=fun (Q:VV->Prop)=>Cg C t ht s hs (Q:=Q)
 have h8:Ct t s n kind=false->HS (DJ t s n kind w) = .tu [Eu Pp,.b false]:=fun h=>by rw [DJ,h];rfl
 have e0:(VV.tu [Eu Pp,.b false]) = .tu [.ag [.ls [],.ls [],.ls []],.b false]:=rfl
 have q2:=hs.has
 cases hf:Bd t s with
 | false =>
  rw [h8 (by rw [Ct,hf];rfl),e0]
  simp only [CK,go_sem,↓reduceIte,h6,hf]
 | true =>
 cases h1:BU t n with
 | false =>
  rw [h8 (by rw [Ct,hf,h1];rfl),e0]
  simp only [CK,go_sem,↓reduceIte,h6,hf,Au C,h1]
 | true =>
 obtain ⟨m,rfl,hm⟩:=A7 h1
 cases h2:decide ((t.at m).kind=kind) with
 | false =>
  rw [h8 (by rw [Ct,hf,h1,toNat_natCast,h2];rfl),e0]
  simp only [CK,go_sem,↓reduceIte,h6,hf,Au C,h1,A5 hm,h2]
 | true =>
 have w1:=Ea s.has (m:Int)
 cases h3:B9 s.has (m:Int) with
 | true =>
  rw [h8 (by rw [Ct,hf,h1,toNat_natCast,h2,h3];rfl),e0]
  rw [h3] at w1
  simp only [CK,go_sem,↓reduceIte,h6,hf,Au C,h1,A5 hm,h2,Ai C s.has (by omega),w1]
 | false =>
 rw [h3] at w1
 have w2:=C7 s.has (t.at m).up
 cases h4:B9 s.has (t.at m).up with
 | false =>
  rw [h8 (by rw [Ct,hf,h1,toNat_natCast,h2,h3,h4];rfl),e0]
  rw [h4] at w2
  simp only [CK,go_sem,↓reduceIte,h6,hf,Au C,h1,A5 hm,h2,Ai C s.has (by omega),w1,w2]
 | true =>
 rw [h4] at w2
 have hu:DJ t s m kind w=some (Bo s m w):=by rw [DJ,Ct,hf,h1,toNat_natCast,h2,h3,h4];rfl
 rw [hu]
 have hr:=fun (b:Nat) (Q:VV->VH->Prop)=>Lr C s hs b (Q:=Q)
 simp only [CK,go_sem,↓reduceIte,h6,hf,Au C,h1,A5 hm,h2,Ai C s.has (by omega),w1,w2,hr]
 unfold VL
 rw [A0]
 have q0:s.jf.length=s.has.length:=by simp only [Bd,Bool.and_eq_true,decide_eq_true_eq] at hf;exact hf.1.1.1.1.2
 refine AA (M:=Nat) (I:=fun i F h=>i<=C4 s.has m/\A3.tmp F 2 = .i .i64 m/\A3.tmp F 4 = .i .i64 w/\A3.tmp F 6 = .fp (EX s) 0/\A3.tmp F 10 = .p 0 0 0 0/\A3.tmp F 12 = .p 4 0 0 0/\A3.tmp F 13 = .i .i64 i/\h=moH s) (μ:=fun i=>s.has.length - i) ?_ 0 _ _ ⟨zero_le _,?_,?_,?_,?_,?_,?_,rfl⟩
 .rintro i F h ⟨hi,p2,p4,p6,hl,hn,ho,rfl⟩
  have hj:=Mx hi
  have q1:=G9 s.has m
  by_cases c:i < s.has.length
  .cases c2:decide (s.has.getD i 0 < (m:Int)) with
   | true =>
    have he:=of_decide_eq_true c2
    have q3:=hj.1 ⟨c,he⟩
    have hw:IntKind.i64.wrap ((i:Int)+1)=((i+1:Nat):Int):=by rw [Av (by omega) (by omega)];omega
    simp only [EB,go_sem,↓reduceIte,p2,p4,p6,hl,hn,ho,c,Ak c,c2,A0,hw]
    exact ⟨i+1,by omega,by omega,rfl,rfl,rfl⟩
   | false =>
    have he:=of_decide_eq_false c2
    have e:i=C4 s.has m:=by
     rcases lt_or_ge i (C4 s.has m) with h | h
     .exact absurd (My h) he
     .omega
    obtain ⟨A,hA⟩:∃ A,A=s.has.take i:=⟨_,rfl⟩
    obtain ⟨B,hB⟩:∃ B,B=s.has.drop i:=⟨_,rfl⟩
    obtain ⟨A',h0⟩:∃ A,A=s.jf.take i:=⟨_,rfl⟩
    obtain ⟨B',h5⟩:∃ B,B=s.jf.drop i:=⟨_,rfl⟩
    have lA:A.length=i:=by rw [hA,length_take];omega
    have hx:A'.length=i:=by rw [h0,length_take];omega
    have lB:B.length=s.has.length - i:=by rw [hB,length_drop]
    have hk:B'.length=s.jf.length - i:=by rw [h5,length_drop]
    have tB:List.take (s.has.length - i) B=B:=take_of_length_le (by omega)
    have hq:List.take (s.jf.length - i) B' = B':=take_of_length_le (by omega)
    have c1:i<=s.has.length:=by omega
    have hd:i<=s.jf.length:=by omega
    have b1:A.length * 8<=A8:=by unfold A8;omega
    have ha:A'.length * 8<=A8:=by unfold A8;omega
    have b2:(A.length+1) * 8<=A8:=by unfold A8;omega
    have hb:(A'.length+1) * 8<=A8:=by unfold A8;omega
    obtain ⟨b0,Bs,rfl⟩:∃ b0 Bs,B=b0::Bs:=by
     cases B with
     | nil=>simp at lB;omega
     | cons b0 Bs=>exact ⟨b0,Bs,rfl⟩
    obtain ⟨h9,h7,rfl⟩:∃ b0 Bs,B' = b0::Bs:=by
     cases B' with
     | nil=>simp at hk;omega
     | cons b0 Bs=>exact ⟨b0,Bs,rfl⟩
    rw [List.length_cons] at lB hk
    have hz:List.take (s.has.length - i) (eI b0::List.map eI Bs)=eI b0::List.map eI Bs:=take_of_length_le (by simp;omega)
    have hp:List.take (s.jf.length - i) (eI h9::List.map eI h7)=eI h9::List.map eI h7:=take_of_length_le (by simp;omega)
    obtain ⟨X,hX⟩:∃ X,X=A++[(m:Int)]++b0::Bs:=⟨_,rfl⟩
    obtain ⟨X',hh⟩:∃ X,X=A'++[w]++h9::h7:=⟨_,rfl⟩
    have jX:List.map eI (A++[(m:Int)])++eI b0::List.map eI Bs=List.map eI X:=by rw [hX,map_append (l₁:=A++[(m:Int)])];rfl
    have hv:List.map eI (A'++[w])++eI h9::List.map eI h7 = List.map eI X':=by rw [hh,map_append (l₁:=A'++[w])];rfl
    have lX:A.length+1+(Bs.length+1)=X.length:=by rw [hX];simp;omega
    have hy:A'.length+1+(h7.length+1)=X'.length:=by rw [hh];simp;omega
    have b3:X.length * 8<=A8:=by unfold A8;omega
    have hc:X'.length * 8<=A8:=by unfold A8;omega
    have eX:X=CA s.has (C4 s.has m) m:=by rw [hX,CA,<- e,<- hA,<- hB];simp
    have hg:X' = CA s.jf (C4 s.has m) w:=by rw [hh,CA,<- e,<- h0,<- h5];simp
    simp only [EB,go_sem,↓reduceIte,p2,p4,p6,hl,hn,ho,c,Ak c,c2,A0,moH,<- hA,<- hB,<- h0,<- h5,hz,hp,c1,hd,b1,ha,b2,hb,b3,hc,length_append,length_map,Mg,KA,Mf,jX,hv,lX,hy]
    rw [eX,hg];rfl
  .have e:i=C4 s.has m:=by omega
   obtain ⟨A,hA⟩:∃ A,A=s.has.take i:=⟨_,rfl⟩
   obtain ⟨B,hB⟩:∃ B,B=s.has.drop i:=⟨_,rfl⟩
   obtain ⟨A',h0⟩:∃ A,A=s.jf.take i:=⟨_,rfl⟩
   obtain ⟨B',h5⟩:∃ B,B=s.jf.drop i:=⟨_,rfl⟩
   have lA:A.length=i:=by rw [hA,length_take];omega
   have hx:A'.length=i:=by rw [h0,length_take];omega
   have lB:B.length=s.has.length - i:=by rw [hB,length_drop]
   have hk:B'.length=s.jf.length - i:=by rw [h5,length_drop]
   have tB:List.take (s.has.length - i) B=B:=take_of_length_le (by omega)
   have hq:List.take (s.jf.length - i) B' = B':=take_of_length_le (by omega)
   have c1:i<=s.has.length:=by omega
   have hd:i<=s.jf.length:=by omega
   have b1:A.length * 8<=A8:=by unfold A8;omega
   have ha:A'.length * 8<=A8:=by unfold A8;omega
   have b2:(A.length+1) * 8<=A8:=by unfold A8;omega
   have hb:(A'.length+1) * 8<=A8:=by unfold A8;omega
   obtain rfl:B=[]:=List.length_eq_zero_iff.1 (by omega)
   obtain rfl:B' = []:=List.length_eq_zero_iff.1 (by omega)
   have b3:(A.length+1+0) * 8<=A8:=by unfold A8;omega
   have hc:(A'.length+1+0) * 8<=A8:=by unfold A8;omega
   simp only [EB,go_sem,↓reduceIte,p2,p4,p6,hl,hn,ho,c,A0,moH,<- hA,<- hB,<- h0,<- h5,tB,hq,c1,hd,b1,ha,b2,hb,b3,hc,length_append,length_map,Mg,KA,Mf]
   have eX:A++[(m:Int)]=CA s.has (C4 s.has m) m:=by rw [CA,<- e,<- hA,<- hB]
   have hg:A'++[w]=CA s.jf (C4 s.has m) w:=by rw [CA,<- e,<- h0,<- h5]
   rw [eX,hg];rfl
 .simp only [go_sem,↓reduceIte]
 .simp only [go_sem,↓reduceIte]
 .simp only [go_sem,↓reduceIte]
 .simp only [go_sem,↓reduceIte]
 .simp only [go_sem,↓reduceIte]
 .simp only [go_sem,↓reduceIte]
end
end Go.AM
