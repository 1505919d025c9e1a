/-
  Own work, part of the proof of these laws: what functions compute.
-/
import Derived.Test.YtpnaenhghnkggaaGreatDoorKF
set_option maxRecDepth 10000
set_option maxHeartbeats 64000000
set_option linter.unusedVariables false
set_option linter.unusedSimpArgs false
set_option linter.unusedSectionVars false
set_option linter.unnecessarySimpa false
open Int (toNat_natCast)
open List (getElem?_eq_getElem getD_eq_getElem?_getD length_map length_append length_take take_of_length_le take_length map_append take_succ_eq_append_getElem length_drop mem_append take_zero mem_singleton any_nil)
open Nat (zero_le lt_or_ge)
open Bool (or_eq_true)
open Option (getD_some)
open BitVec (or_zero)
namespace Go.AM
open Go Go.Proofs
section
variable {V:Ai}(C:Am V){Q:VV->Prop}
include C
theorem Jw(t:A2)(ht:A7 t)(x f:List Int)(hl:x.length<=1000)(hlf:f.length<=1000):VP V A5d [vT t,lI x,lI f] Q↔Q (.b (Cb t x f)):=by
 refine Af ?_
 rw[Ad C.c_z169.1 C.c_z169.2]
 have he:=ht.n64
 by_cases c1:x.length=f.length
 .have h9:decide ((x.length:Int)=(f.length:Int))=true:=decide_eq_true (by omega)
  simp only[A3q,go_sem,h9]
  refine Ab (by decide) x.length (by omega) (I:=fun k F h=>A3.tmp F 1=lI x/\A3.tmp F 2=lI f/\A3.tmp F 3=.fp (eT t) 0/\h=[]/\∀j,j<k->Bk t x j=true) ?_ ?_ ?_ 0 _ _ (zero_le _) ?_ ?_
  .rintro k F h hk p7 ⟨p1,p2,p3,rfl,pr⟩
   simp only[go_sem,p7,p1,p2,p3]
   exact pr
  .rintro k F h hk p7 ⟨p1,p2,p3,rfl,pr⟩
   have h4:Bk t x k=false->Cb t x f=false:=fun h=>by rw[Cb,AB hk h];simp
   have h7:Bk t x k=true->∀j,j<k+1->Bk t x j=true:=fun h j hj=>by
    rcases lt_or_ge j k with c|c
    .exact pr j c
    .rw[show j=k by omega];exact h
   cases d1:BZ t (x.getD k 0)with
   |false=>
    have e:=h4 (by rw[Bk,d1];rfl)
    simp only[go_sem,p7,p1,p2,p3,Ak hk,hk,At C,d1,A0,e]
   |true=>
    by_cases z:k=0
    .subst z
     have hb:Bk t x 0=true:=by rw[Bk,d1];rfl
     simp only[go_sem,p7,p1,p2,p3,Ak hk,hk,At C,d1,A0,dz0]
     exact h7 hb
    .have z0:decide ((0:Int)<(k:Int))=true:=decide_eq_true (by omega)
     have hc:k-1<x.length:=by omega
     have zw:=EN (show 0<k by omega) (by omega)
     cases d3:decide (x.getD k 0<=x.getD (k-1) 0)with
     |true=>
      have ha:decide (x.getD (k-1) 0<x.getD k 0)=false:=by have:=of_decide_eq_true d3;exact decide_eq_false (by omega)
      have e:=h4 (by rw[Bk,d1,Ch,ha,decide_eq_false z];rfl)
      simp only[go_sem,p7,p1,p2,p3,Ak hk,Ak hc,hk,At C,d1,A0,z0,zw,d3,e]
     |false=>
      have ha:decide (x.getD (k-1) 0<x.getD k 0)=true:=by have:=of_decide_eq_false d3;exact decide_eq_true (by omega)
      have hb:Bk t x k=true:=by rw[Bk,d1,Ch,ha];simp
      simp only[go_sem,p7,p1,p2,p3,Ak hk,Ak hc,hk,At C,d1,A0,z0,zw,d3]
      exact h7 hb
  .rintro F h ⟨p1,p2,p3,rfl,pr⟩
   have h3:BF t x:=by
    intro n hn
    obtain⟨i,hi,rfl⟩:=List.getElem_of_mem hn
    have:=pr i hi
    simp only[Bk,Bool.and_eq_true]at this
    have h2:=this.1
    rwa [getD_eq_getElem?_getD,getElem?_eq_getElem hi]at h2
   simp only[go_sem,p1,p2,p3]
   refine Ab (by decide) x.length (by omega) (I:=fun k F h=>A3.tmp F 1=lI x/\A3.tmp F 2=lI f/\A3.tmp F 3=.fp (eT t) 0/\h=[]/\∀j,j<k->Eb t x f j=true) ?_ ?_ ?_ 0 _ _ (zero_le _) ?_ ?_
   .rintro k F h hk p8 ⟨p1,p2,p3,rfl,qr⟩
    simp only[go_sem,p8,p1,p2,p3]
    exact qr
   .rintro k F h hk p8 ⟨p1,p2,p3,rfl,qr⟩
    have h0:k<f.length:=by omega
    have h4:Eb t x f k=false->Cb t x f=false:=fun h=>by rw[Cb,AB hk h];simp
    have h7:Eb t x f k=true->∀j,j<k+1->Eb t x f j=true:=fun h j hj=>by
     rcases lt_or_ge j k with c|c
     .exact qr j c
     .rw[show j=k by omega];exact h
    obtain⟨m,h5,hm⟩:=A9 (h3 _ (Aa (d:=0) hk))
    have h1:Eb t x f k=if(t.at m).kind=2 then AQ x (f.getD k 0)&&G7 t (f.getD k 0) (t.at m).loc else decide (f.getD k 0=-1):=by rw[Eb,h5,toNat_natCast]
    cases c2:decide ((t.at m).kind=2)with
    |false=>
     rw[if_neg (of_decide_eq_false c2)]at h1
     cases c3:decide (f.getD k 0=-1)with
     |true=>
      simp only[go_sem,p8,p1,p2,p3,Ak hk,Ak h0,hk,h0,h5,A5 hm,c2,c3,A0]
      exact h7 (by rw[h1,c3])
     |false=>
      have e:=h4 (by rw[h1,c3])
      simp only[go_sem,p8,p1,p2,p3,Ak hk,Ak h0,hk,h0,h5,A5 hm,c2,c3,A0,e]
    |true=>
     rw[if_pos (of_decide_eq_true c2)]at h1
     have h6:=C0 x (f.getD k 0)
     cases c3:AQ x (f.getD k 0)with
     |false=>
      have e:=h4 (by rw[h1,c3];rfl)
      rw[c3]at h6
      simp only[go_sem,p8,p1,p2,p3,Ak hk,Ak h0,hk,h0,h5,A5 hm,c2,A0,e,Ae C x (by omega),h6]
     |true=>
      rw[c3]at h6
      obtain⟨w,h8,hw⟩:=A9 (h3 _ (Ac.1 c3))
      have hd:G7 t (f.getD k 0) (t.at m).loc=(decide ((t.at w).kind=3)&&decide ((t.at w).loc=(t.at m).loc)):=by rw[G7,h8,toNat_natCast]
      rw[c3,Bool.true_and,hd]at h1
      rw[h8]at h6
      cases c4:decide ((t.at w).kind=3)with
      |false=>
       have e:=h4 (by rw[h1,c4];rfl)
       simp only[go_sem,p8,p1,p2,p3,Ak hk,Ak h0,hk,h0,h5,h8,A5 hm,A5 hw,c2,c4,A0,e,Ae C x (by omega),h6]
      |true=>
       cases c5:decide ((t.at w).loc=(t.at m).loc)with
       |false=>
        have e:=h4 (by rw[h1,c4,c5];rfl)
        simp only[go_sem,p8,p1,p2,p3,Ak hk,Ak h0,hk,h0,h5,h8,A5 hm,A5 hw,c2,c4,c5,A0,e,Ae C x (by omega),h6]
       |true=>
        simp only[go_sem,p8,p1,p2,p3,Ak hk,Ak h0,hk,h0,h5,h8,A5 hm,A5 hw,c2,c4,c5,A0,Ae C x (by omega),h6]
        exact h7 (by rw[h1,c4,c5];rfl)
   .rintro F h ⟨p1,p2,p3,rfl,qr⟩
    have e:Cb t x f=true:=by rw[Cb,decide_eq_true c1,AD pr,AD qr];rfl
    simp only[go_sem,p1,p2,p3,e]
   .simp only[go_sem]
   .simp only[go_sem,p1,p2,p3]
    intro j hj;omega
  .simp only[go_sem]
  .simp only[go_sem]
   intro j hj;omega
 .have h9:decide ((x.length:Int)=(f.length:Int))=false:=decide_eq_false (by omega)
  have e:Cb t x f=false:=by rw[Cb,decide_eq_false c1];rfl
  simp only[A3q,go_sem,h9,e]
omit C in
theorem A4l(t:A2)(x f:List Int)(k:Nat)(w:Int)(h:HS t w=false):JH t x f (k+1) w=MC t x w|||JH t x f k (ahF t x f w):=by rw[JH,h];rfl
omit C in
theorem Na(t:A2)(x f:List Int)(k:Nat)(w:Int)(h:HS t w=true):JH t x f k w=0#64:=by
 cases k with
 |zero=>rfl
 |succ k=>rw[JH,h];rfl
omit C in
theorem Ae5{t:A2}(ht:A7 t){x:List Int}(hx:BF t x){w:Nat}(hw:w<t.nodes.length)(hth:0<=(t.at w).thread)(s:BitVec 64) :
  Dr (fun n=>decide ((t.at n.toNat).kind=4)&&Et (t.at n.toNat)&&decide ((t.at n.toNat).thread=(t.at w).thread)&&Ao t n w) (if Et (t.at w)=true then s|||BC w else s) x=s|||MC t x w:=by
 apply B4
 intro j hj
 rw[Nu _ j hj,BitVec.getLsbD_or,MC,AA,Ae4,decide_eq_true hj,Bool.and_true]
 have e0:(if Et (t.at w)=true then s|||BC (w:Int)else s).getLsbD j=(s.getLsbD j||(decide ((j:Int)=(w:Int))&&Et (t.at j))):=by
  by_cases c:Et (t.at w)=true
  .rw[if_pos c,BitVec.getLsbD_or,C2]
   by_cases e:j=w
   .subst e;simp[c,hj]
   .have:¬(j:Int)=(w:Int):=by omega
    simp[this]
  .rw[if_neg c]
   by_cases e:j=w
   .subst e;simp[c]
   .have:¬(j:Int)=(w:Int):=by omega
    simp[this]
 have e1:(AQ x (j:Int)&&(decide ((t.at j).kind=4)&&Et (t.at j)&&decide ((t.at j).thread=(t.at w).thread)&&Ao t j w))=(AQ x (j:Int)&&decide ((t.at j).kind=4)&&Et (t.at j)&&Ao t j w):=by
  cases c1:AQ x (j:Int)with
  |false=>rfl
  |true=>
   obtain⟨m,h1,hm⟩:=A9 (hx _ (Ac.1 c1))
   have h0:m=j:=by omega
   subst h0
   cases c2:decide ((t.at m).kind=4)with
   |false=>rfl
   |true=>
    cases c3:Ao t m w with
    |false=>simp
    |true=>
     have hl:t.locs.length<=m:=by
      rcases lt_or_ge m t.locs.length with h|h
      .have:=(ht.init m h).kind;have:=of_decide_eq_true c2;omega
      .exact h
     have hb:AK t m w=true:=by
      simp only[Ao,C1 hm,C1 hw,toNat_natCast,Bool.true_and]at c3
      rw[if_neg (by have:=(ht.good m hl hm).thr;omega)]at c3
      exact c3
     have:=A2o ht hl (w+1) w (by omega) hw hb
     simp[this]
 simp only[toNat_natCast]
 rw[e0,e1]
 cases s.getLsbD j<;>cases decide ((j:Int)=(w:Int))<;>cases Et (t.at j)<;>simp
theorem SL(t:A2)(ht:A7 t)(x f:List Int)(hl:x.length<=1000)(hlf:f.length<=1000)(hc:Cb t x f=true){w0:Nat}(hw0:(w0:Int)∈x)(hk0:(t.at w0).kind=3):VP V A5h [vT t,lI x,lI f,.i .i64 w0] Q↔Q (vW (B0 t x f w0)):=by
 refine Af ?_
 rw[Ad C.c_z201.1 C.c_z201.2]
 have q5:=ht.n64
 have hF:=Bv hc
 have hx:=hF.node
 obtain⟨he,q0,hi⟩:=A9 (hx _ hw0)
 have:he=w0:=by omega
 subst this
 have hr:=fun(Q:VV->Prop)=>Jw C t ht x f hl hlf (Q:=Q)
 have hq:=C0 x (he:Int)
 rw[Ac.2 hw0]at hq
 simp only[AbH,go_sem,hr,hc,Ae C x (by omega),hq,A5 hi,hk0]
 refine Ab (by decide) (x.length+1) (by omega) (I:=fun k F h=>A3.tmp F 1=lI x/\A3.tmp F 2=lI f/\A3.tmp F 4=.fp (eT t) 0/\h=[]/\∃(s:BitVec 64) (w:Nat),A3.tmp F 9=vW s/\A3.tmp F 3=.i .i64 w/\(w:Int)∈x/\k<=x.length+1/\s|||JH t x f (x.length+1-k) w=B0 t x f he) ?_ ?_ ?_ 0 _ _ (zero_le _) ?_ ?_
 .rintro k F h hk h9 ⟨p1,p2,p4,rfl,s,w,p9,p3,hw,hh,hs⟩
  have e:decide ((k:Int)<=(x.length:Int))=decide (k<x.length+1):=decide_eq_decide.2 ⟨fun h=>by omega,fun h=>by omega⟩
  have e':decide (k<=x.length)=decide (k<x.length+1):=decide_eq_decide.2 ⟨fun h=>by omega,fun h=>by omega⟩
  simp only[go_sem,h9,p1,p2,p4,p9,p3,e,e']
  exact⟨s,rfl,w,rfl,hw,hh,hs⟩
 .rintro k F h hk h9 ⟨p1,p2,p4,rfl,s,w,p9,p3,hw,hh,hs⟩
  obtain⟨w',q7,hd⟩:=A9 (hx _ hw)
  have:w'=w:=by omega
  subst this
  cases c1:decide ((t.at w').thread<0)with
  |true=>
   have ho:HS t w'=true:=by rw[HS,toNat_natCast,c1,Bool.or_true]
   rw[Na _ _ _ _ _ ho]at hs
   simp only[or_zero]at hs
   simp only[go_sem,h9,p1,p2,p4,p9,p3,A5 hd,c1,A0,hs]
  |false=>
   have hz:0<=(t.at w').thread:=by have:=of_decide_eq_false c1;omega
   have ho:HS t w'=false:=by rw[HS,toNat_natCast,c1,decide_eq_false (by omega)];rfl
   have hy:x.length+1-k=(x.length+1-(k+1))+1:=by omega
   rw[hy,A4l _ _ _ _ _ ho,<- BitVec.or_assoc]at hs
   have h8:=Ae5 ht hx hd hz s
   generalize hs1:(if Et (t.at w')=true then s|||BC (w':Int)else s)=s1 at h8
   cases c2:Et (t.at w')<;>simp only[c2,Bool.false_eq_true,if_true,if_false]at hs1<;>(
   simp only[go_sem,h9,p1,p2,p4,p9,p3,A5 hd,c1,A0,EY C,c2,AP C]
   refine Ab (by decide) x.length (by omega) (I:=fun j F h=>A3.tmp F 10=.i .i64 k/\A3.tmp F 1=lI x/\A3.tmp F 2=lI f/\A3.tmp F 4=.fp (eT t) 0/\A3.tmp F 3=.i .i64 w'/\A3.tmp F 11=.p 0 0 0 0/\h=[some ⟨BS,0,0,false,[eN (t.at w')]⟩]/\A3.tmp F 9=vW (Dr (fun n=>decide ((t.at n.toNat).kind=4)&&Et (t.at n.toNat)&&decide ((t.at n.toNat).thread=(t.at w').thread)&&Ao t n w') s1 (x.take j))) ?_ ?_ ?_ 0 _ _ (zero_le _) ?_ ?_
   .rintro j F h hj h6 ⟨h3,q1,q2,q4,q3,h4,rfl,q9⟩
    simp only[go_sem,h6,h3,q1,q2,q4,q3,h4,q9]
   .rintro j F h hj h6 ⟨h3,q1,q2,q4,q3,h4,rfl,q9⟩
    obtain⟨m,h0,hm⟩:=A9 (hx _ (Aa (d:=0) hj))
    have hb:=fun(Q:VV->Prop)=>Ds C t ht.up (m:Int) (w':Int) (Q:=Q)
    cases d1:decide ((t.at m).kind=4)with
    |false=>
     rw[<- Q7 hj (by rw[h0,toNat_natCast,d1];rfl)]
     simp only[go_sem,h6,h3,q1,q2,q4,q3,h4,q9,Ak hj,hj,h0,A5 hm,d1,A0]
    |true=>
    cases d2:Et (t.at m)with
    |false=>
     rw[<- Q7 hj (by rw[h0,toNat_natCast,d2];simp)]
     simp only[go_sem,h6,h3,q1,q2,q4,q3,h4,q9,Ak hj,hj,h0,A5 hm,d1,d2,EY C,A0]
    |true=>
    cases d3:decide ((t.at m).thread=(t.at w').thread)with
    |false=>
     rw[<- Q7 hj (by rw[h0,toNat_natCast,d3];simp)]
     simp only[go_sem,h6,h3,q1,q2,q4,q3,h4,q9,Ak hj,hj,h0,A5 hm,d1,d2,d3,EY C,A0]
    |true=>
    cases d4:Ao t m w' with
    |false=>
     rw[<- Q7 hj (by rw[h0,d4];simp)]
     simp only[go_sem,h6,h3,q1,q2,q4,q3,h4,q9,Ak hj,hj,h0,A5 hm,d1,d2,d3,d4,hb,EY C,A0]
    |true=>
     rw[<- AhM hj (by rw[h0,toNat_natCast,d1,d2,d3,d4];rfl),h0]
     simp only[go_sem,h6,h3,q1,q2,q4,q3,h4,q9,Ak hj,hj,h0,A5 hm,d1,d2,d3,d4,hb,EY C,AP C,A0]
   .rintro F h ⟨h3,q1,q2,q4,q3,h4,rfl,q9⟩
    rw[take_length,h8]at q9
    have hf:ahF t x f w'=if(t.at w').rmw=true/\AQ x (t.at w').up=true then CA x f (t.at w').up else -1:=by rw[ahF,toNat_natCast]
    have h5:HS t (-1)=true:=rfl
    cases d1:(t.at w').rmw with
    |false=>
     rw[hf,d1,if_neg (by simp),Na _ _ _ _ _ h5]at hs
     simp only[or_zero]at hs
     simp only[go_sem,h3,q1,q2,q4,q3,h4,q9,d1,hs]
    |true=>
    have h2:=C0 x (t.at w').up
    cases d2:AQ x (t.at w').up with
    |false=>
     rw[d2]at h2
     rw[hf,d2,if_neg (by simp),Na _ _ _ _ _ h5]at hs
     simp only[or_zero]at hs
     simp only[go_sem,h3,q1,q2,q4,q3,h4,q9,d1,hs,Ae C x (by omega),h2]
    |true=>
     rw[d2]at h2
     have h7:=A5W ht hF hw
     rw[hf,d1,d2,if_pos ⟨rfl,rfl⟩]at hs h7
     obtain⟨i,hg,hu,_,_⟩:=Bn d2
     have hv:i<f.length:=by rw[<- hF.len];exact hu
     have hn:CA x f (t.at w').up=f.getD i 0:=by rw[CA,if_pos d2,hg,toNat_natCast]
     rw[hn]at hs h7
     rw[hg]at h2
     have ha:=(hF.read (t.at w').up (Ac.1 d2) (by
      have hl:t.locs.length<=w':=by
       rcases lt_or_ge w' t.locs.length with h1|h1
       .have:=(ht.init w' h1).thr;omega
       .exact h1
      exact((ht.good w' hl hd).rmw d1).2)).1
     rw[hn]at ha
     obtain⟨v,hp,q6⟩:=A9 (hx _ ha)
     rw[hp]at hs ha
     simp only[go_sem,h3,q1,q2,q4,q3,h4,q9,d1,Ae C x (by omega),hg,h2,Ak hv,hp]
     exact⟨_,rfl,v,rfl,ha,by omega,hs⟩
   .simp only[go_sem]
   .simp only[go_sem,h9,p1,p2,p4,p3,p9,hs1]
    rfl)
 .rintro F h ⟨p1,p2,p4,rfl,s,w,p9,p3,hw,hh,hs⟩
  rw[Nat.sub_self,JH]at hs
  simp only[or_zero]at hs
  simp only[go_sem,p1,p2,p4,p9,p3,hs]
 .simp only[go_sem]
 .simp only[go_sem]
  exact⟨0#64,rfl,he,rfl,hw0,by rw[B0];simp⟩
end
theorem Aad{n:Nat}{p:Nat->Nat->Bool}:(Av n p).take n=Av n p:=take_of_length_le (by rw[Az];omega)
theorem AfK{t:A2}{x:List Int}{r m:Nat}(hm:(m:Int)∈x):Gq t x r m=(Jc (t.at m)&&(decide (m=r)||(decide ((t.at m).kind=4)&&Ao t r m))):=by
 rw[Gq,Ac.2 hm]
 have e:decide ((m:Int)=(r:Int))=decide (m=r):=decide_eq_decide.2 ⟨fun h=>by omega,fun h=>by omega⟩
 rw[e]
 cases decide (m=r)<;>cases Jc (t.at m)<;>cases decide ((t.at m).kind=4)<;>cases Ao t r m<;>rfl
theorem Aa2{t:A2}(ht:A7 t):0<t.nodes.length:=by
 obtain⟨s,h0,he,hs⟩:=ht.thr
 have h1:=ht.r1
 obtain⟨_,n,hB⟩:=hs 0 (by omega)
 cases n with
 |zero=>exact absurd hB (by simp[G3])
 |succ n=>have:=hB.1.1;omega
section
variable {V:Ai}(C:Am V){Q:VV->VH->Prop}
include C
theorem A1B(t:A2)(ht:A7 t)(x f:List Int)(hl:x.length<=1000)(hlf:f.length<=1000)(hc:Cb t x f=true)(b0:Nat) :
    VP1 V A59 [vT t,lI x,lI f] b0 Q↔Q (.sl b0 0 0 t.nodes.length) [some ⟨AW,1,0,false,(Av t.nodes.length (swB t x f)).map eW⟩]:=by
  refine JW ?_
  rw[JX C.c_z153.2]
  have q6:=ht.n64
  have hF:=Bv hc
  have hx:=hF.node
  have qb:=fun(Q:VV->Prop)=>Jw C t ht x f hl hlf (Q:=Q)
  have b1:t.nodes.length * 8<=A6:=by unfold A6;omega
  simp only[AbA,go_sem,qb,hc,b1,Int.le_refl]
  refine Ab (by decide) x.length (by omega) (I:=fun i F h=>A3.tmp F 1=lI x/\A3.tmp F 2=lI f/\A3.tmp F 3=.fp (eT t) 0/\A3.tmp F 7=.sl 0 0 0 t.nodes.length/\h=[some ⟨AW,1,0,false,(Av t.nodes.length (Pt t x f (x.take i))).map eW⟩]) ?_ ?_ ?_ 0 _ _ (zero_le _) ?_ ?_
  · rintro i F h hi p8 ⟨p1, p2, p3, p7, rfl⟩
    simp only[go_sem,p8,p1,p2,p3,p7]
  · rintro i F h hi p8 ⟨p1, p2, p3, p7, rfl⟩
    have hp:i<f.length:=by rw[<- hF.len];exact hi
    have hz:=hF.at_ i hi
    have he:x.getD i 0∈x:=Aa hi
    obtain⟨r,h3,hr⟩:=A9 (hx _ he)
    have q4:(r:Int)∈x:=by rw[<- h3];exact he
    rw[h3]at hz
    have h2:∀a b,Pt t x f (x.take (i+1)) a b=(Pt t x f (x.take i) a b||(LZ t x f r&&Bh (B0 t x f (CA x f r)) (a:Int)&&Gq t x r b)):=fun a b=>by rw[A1V hi,h3]
    have same:LZ t x f r=false->Av t.nodes.length (Pt t x f (x.take i))=Av t.nodes.length (Pt t x f (x.take (i+1))):=fun e=>B8 fun a b _ _=>by rw[h2,e];simp
    have h7:LZ t x f r=(decide ((t.at r).kind=2)&&!decide ((t.at (CA x f r).toNat).thread=(t.at r).thread)):=by rw[LZ,toNat_natCast]
    cases ck:decide ((t.at r).kind=2)with
    |false=>
      have hs:=same (by rw[h7,ck];rfl)
      simp only[go_sem,p8,p1,p2,p3,p7,Ak hi,hi,h3,A5 hr,ck,A0,hs]
    |true=>
    obtain⟨o1,o2,o3⟩:=hF.read _ q4 (by rw[toNat_natCast];exact of_decide_eq_true ck)
    obtain⟨w,hg,hw⟩:=A9 (hx _ o1)
    rw[hg]at o1 o2
    rw[toNat_natCast]at o2
    have q0:f.getD i 0=(w:Int):=by rw[<- hz,hg]
    cases c2:decide ((t.at w).thread=(t.at r).thread)with
    |true=>
      have hs:=same (by rw[h7,hg,toNat_natCast,c2];simp)
      simp only[go_sem,p8,p1,p2,p3,p7,Ak hi,Ak hp,hi,hp,h3,q0,A5 hr,A5 hw,ck,c2,A0,hs]
    |false=>
    have hs:LZ t x f r=true:=by rw[h7,hg,toNat_natCast,c2,ck];rfl
    have hh:=fun(Q:VV->Prop)=>SL C t ht x f hl hlf hc o1 o2 (Q:=Q)
    simp only[go_sem,p8,p1,p2,p3,p7,Ak hi,Ak hp,hi,hp,h3,q0,A5 hr,A5 hw,ck,c2,A0,hh,Kp C]
    have qd:=Cz (B0 t x f w)
    let M:=fun(k:Nat) (a b:Nat)=>Pt t x f (x.take i) a b||(Bh (B0 t x f w) (a:Int)&&AQ (x.take k) (b:Int)&&Gq t x r b)
    refine Ab (by decide) x.length (by omega) (I:=fun k F h=>A3.tmp F 8=.i .i64 i/\A3.tmp F 1=lI x/\A3.tmp F 2=lI f/\A3.tmp F 3=.fp (eT t) 0/\A3.tmp F 7=.sl 0 0 0 t.nodes.length/\A3.tmp F 9=lI (AC (B0 t x f w))/\h=[some ⟨AW,1,0,false,(Av t.nodes.length (M k)).map eW⟩]) ?_ ?_ ?_ 0 _ _ (zero_le _) ?_ ?_
    · rintro k F h hk h8 ⟨q8, q1, q2, q3, q7, q9, rfl⟩
      simp only[go_sem,h8,q8,q1,q2,q3,q7,q9]
    · rintro k F h hk h8 ⟨q8, q1, q2, q3, q7, q9, rfl⟩
      have hd:x.getD k 0∈x:=Aa hk
      obtain⟨m,h5,hm⟩:=A9 (hx _ hd)
      have qc:(m:Int)∈x:=by rw[<- h5];exact hd
      have h1:=AfK (t:=t) (r:=r) qc
      have hb:=fun(Q:VV->Prop)=>Ds C t ht.up (r:Int) (m:Int) (Q:=Q)
      have q5:∀b:Nat,AQ (x.take (k+1)) (b:Int)=(AQ (x.take k) (b:Int)||decide (b=m)):=fun b=>by
        rw[take_succ_eq_append_getElem hk]
        rw[getD_eq_getElem?_getD,getElem?_eq_getElem hk,getD_some]at h5
        rw[h5,Bool.eq_iff_iff,Ac,mem_append,or_eq_true,Ac,decide_eq_true_eq,mem_singleton]
        exact⟨fun h=>h.imp id fun h=>by omega,fun h=>h.imp id fun h=>by omega⟩
      have h4:Gq t x r m=false->Av t.nodes.length (M k)=Av t.nodes.length (M (k+1)):=fun e=>B8 fun a b _ _=>by
        simp only[M]
        rw[q5]
        by_cases c:b=m
        · subst c;rw[e];simp
        · simp[c]
      cases d1:Jc (t.at m)with
      |false=>
        have hu:=h4 (by rw[h1,d1];rfl)
        simp only[go_sem,h8,q8,q1,q2,q3,q7,q9,Ak hk,hk,h5,A5 hm,Kn C,d1,A0,hu]
      |true=>
      have hq:Gq t x r m=true->Av t.nodes.length (fun a b=>M k a b||(Bh (B0 t x f w) (a:Int)&&decide (b=m)))=Av t.nodes.length (M (k+1)):=fun e=>B8 fun a b _ _=>by
        simp only[M]
        rw[q5]
        by_cases c:b=m
        · subst c;rw[e];cases Pt t x f (x.take i) a b<;>cases Bh (B0 t x f w) (a:Int)<;>cases AQ (x.take k) (b:Int)<;>simp
        · simp[c]
      have hy:decide ((m:Int)=(r:Int))=decide (m=r):=decide_eq_decide.2 ⟨fun h=>by omega,fun h=>by omega⟩
      cases d2:decide (m=r)<;>cases d3:decide ((t.at m).kind=4)<;>cases d4:Ao t r m<;>rw[d1,d2,d3,d4]at h1<;>(first
        | (have hu:=h4 (by rw [h1];rfl)
           simp only[go_sem,h8,q8,q1,q2,q3,q7,q9,Ak hk,Ak hi,hk,hi,h3,h5,A5 hm,Kn C,d1,hy,d2,d3,hb,d4,A0,hu])
        | (have qa:=hq (by rw [h1];rfl)
           simp only[go_sem,h8,q8,q1,q2,q3,q7,q9,Ak hk,Ak hi,hk,hi,h3,h5,A5 hm,Kn C,d1,hy,d2,d3,hb,d4,A0]
           refine Ab (by decide) (AC (B0 t x f w)).length (by omega) (I:=fun j F h=>A3.tmp F 10=.i .i64 k/\A3.tmp F 8=.i .i64 i/\A3.tmp F 1=lI x/\A3.tmp F 2=lI f/\A3.tmp F 3=.fp (eT t) 0/\A3.tmp F 7=.sl 0 0 0 t.nodes.length/\A3.tmp F 9=lI (AC (B0 t x f w))/\h=[some ⟨AW,1,0,false,(Av t.nodes.length fun a b=>M k a b||(AQ ((AC (B0 t x f w)).take j) (a:Int)&&decide (b=m))).map eW⟩,some ⟨BS,0,0,false,[eN (t.at m)]⟩]) ?_ ?_ ?_ 0 _ _ (zero_le _) ?_ ?_
           · rintro j F h hj hv ⟨hn, u8, u1, u2, u3, u7, u9, rfl⟩
             simp only[go_sem,hv,hn,u8,u1,u2,u3,u7,u9]
           · rintro j F h hj hv ⟨hn, u8, u1, u2, u3, u7, u9, rfl⟩
             have h6:=(B7 (s:=B0 t x f w)).1 (Aa (d:=0) hj)
             obtain⟨a0,_⟩:=CO h6
             obtain⟨a,ho⟩:=Int.eq_ofNat_of_zero_le a0
             have ha:a<t.nodes.length:=QF ht hF o1 (by rw[ho,Aq]at h6;exact h6)
             have hf:=TJ ha hm q6 (fun a b=>M k a b||(AQ ((AC (B0 t x f w)).take j) (a:Int)&&decide (b=m)))
             have hM:Av t.nodes.length (fun i' b=>(M k i' b||(AQ ((AC (B0 t x f w)).take j) (i':Int)&&decide (b=m)))||(decide (i'=a)&&decide (b=m)))=Av t.nodes.length (fun a b=>M k a b||(AQ ((AC (B0 t x f w)).take (j+1)) (a:Int)&&decide (b=m))):=B8 fun i' b _ _=>by
               rw[take_succ_eq_append_getElem hj]
               have e:AQ ((AC (B0 t x f w)).take j++[(AC (B0 t x f w))[j]]) (i':Int)=(AQ ((AC (B0 t x f w)).take j) (i':Int)||decide (i'=a)):=by
                 rw[getD_eq_getElem?_getD,getElem?_eq_getElem hj,getD_some]at ho
                 rw[ho,Bool.eq_iff_iff,Ac,mem_append,or_eq_true,Ac,decide_eq_true_eq,mem_singleton]
                 exact⟨fun h=>h.imp id fun h=>by omega,fun h=>h.imp id fun h=>by omega⟩
               rw[e]
               cases M k i' b<;>cases AQ ((AC (B0 t x f w)).take j) (i':Int)<;>cases decide (i'=a)<;>cases decide (b=m)<;>rfl
             rw[hM]at hf
             simp only[go_sem,hv,hn,u8,u1,u2,u3,u7,u9,Ak hj,Ak hk,hj,hk,ho,h5,BK ha,AP C,A0,hf,Az,ha]
           · rintro F h ⟨hn, u8, u1, u2, u3, u7, u9, rfl⟩
             have h9:Av t.nodes.length (fun a b=>M k a b||(AQ (AC (B0 t x f w)) (a:Int)&&decide (b=m)))=Av t.nodes.length (M (k+1)):=by
               rw[<- qa]
               exact B8 fun a b _ _=>by
                 have e:AQ (AC (B0 t x f w)) (a:Int)=Bh (B0 t x f w) (a:Int):=by rw[Bool.eq_iff_iff,Ac,B7]
                 rw[e]
             simp only[go_sem,hn,u8,u1,u2,u3,u7,u9,take_length,h9]
           · simp only[go_sem]
           · simp only [go_sem, h8, q8, q1, q2, q3, q7, q9]
             have h0:Av t.nodes.length (fun a b=>M k a b||(AQ ((AC (B0 t x f w)).take 0) (a:Int)&&decide (b=m)))=Av t.nodes.length (M k):=B8 fun a b _ _=>by simp only[take_zero,AQ,any_nil,Bool.false_and,Bool.or_false]
             rw[take_zero]at h0
             rw[h0]))
    · rintro F h ⟨q8, q1, q2, q3, q7, q9, rfl⟩
      have hM:Av t.nodes.length (M x.length)=Av t.nodes.length (Pt t x f (x.take (i+1))):=B8 fun a b _ hb=>by
        simp only[M]
        rw[take_length,h2,hs,hg,Bool.true_and]
        cases e1:Gq t x r b with
        |false=>simp
        |true=>
          have:AQ x (b:Int)=true:=by
            simp only[Gq,or_eq_true,Bool.and_eq_true,decide_eq_true_eq]at e1
            rcases e1 with h|h
            · rw[h.1];exact Ac.2 q4
            · exact h.1.1.1
          rw[this];simp
      simp only[go_sem,q8,q1,q2,q3,q7,q9,hM]
    · simp only[go_sem]
    · simp only [go_sem, p8, p1, p2, p3, p7]
      have hM:Av t.nodes.length (M 0)=Av t.nodes.length (Pt t x f (x.take i)):=B8 fun a b _ _=>by simp only[M,take_zero,AQ,any_nil,Bool.and_false,Bool.false_and,Bool.or_false]
      rw[hM]
  · rintro F h ⟨p1, p2, p3, p7, rfl⟩
    have e:Av t.nodes.length (Pt t x f x)=Av t.nodes.length (swB t x f):=rfl
    simp only[go_sem,p1,p2,p3,p7,Az,Bp,take_length,e]
    simp
  · simp only[go_sem]
  · simp only [go_sem]
    rw[<- HX];rfl
theorem LV(t:A2)(ht:A7 t)(x f:List Int)(hl:x.length<=1000)(hlf:f.length<=1000)(hc:Cb t x f=true){Q:VV->Prop}:VP V AdO [vT t,lI x,lI f] Q↔Q (lW (hbF t x f)):=by
 refine Af ?_
 rw[Ad C.c_z85.1 C.c_z85.2]
 have h6:=ht.n64
 rw[hbF,hc]
 have hF:=Bv hc
 have hx:=hF.node
 have he:=fun(b:Nat) (Q:VV->VH->Prop)=>A1B C t ht x f hl hlf hc b (Q:=Q)
 have h8:=AeH (i:=0) (v:=0) (o:=0) (Aa2 ht)
 simp only[AiJ,go_sem,he,h8]
 let M:=fun(i k:Nat) (a b:Nat)=>swB t x f a b||((AQ (x.take i) (a:Int)&&AQ x (b:Int)&&Ao t a b)||(decide ((a:Int)=x.getD i 0)&&AQ (x.take k) (b:Int)&&Ao t a b))
 refine Ab (by decide) x.length (by omega) (I:=fun i F h=>A3.tmp F 1=lI x/\A3.tmp F 3=.fp (eT t) 0/\A3.tmp F 7=.sl 0 0 0 t.nodes.length/\h=[some ⟨AW,1,0,false,(Av t.nodes.length (M i 0)).map eW⟩]) ?_ ?_ ?_ 0 _ _ (zero_le _) ?_ ?_
 .rintro i F h hi p8 ⟨p1,p3,p7,rfl⟩
  simp only[go_sem,p8,p1,p3,p7]
 .rintro i F h hi p8 ⟨p1,p3,p7,rfl⟩
  obtain⟨a,h3,ha⟩:=A9 (hx _ (Aa (d:=0) hi))
  simp only[go_sem,p8,p1,p3,p7,A0]
  refine Ab (by decide) x.length (by omega) (I:=fun k F h=>A3.tmp F 8=.i .i64 i/\A3.tmp F 1=lI x/\A3.tmp F 3=.fp (eT t) 0/\A3.tmp F 7=.sl 0 0 0 t.nodes.length/\h=[some ⟨AW,1,0,false,(Av t.nodes.length (M i k)).map eW⟩]) ?_ ?_ ?_ 0 _ _ (zero_le _) ?_ ?_
  .rintro k F h hk q9 ⟨q8,q1,q3,q7,rfl⟩
   simp only[go_sem,q9,q8,q1,q3,q7]
  .rintro k F h hk q9 ⟨q8,q1,q3,q7,rfl⟩
   obtain⟨m,h2,hm⟩:=A9 (hx _ (Aa (d:=0) hk))
   have hb:=fun(Q:VV->Prop)=>Ds C t ht.up (a:Int) (m:Int) (Q:=Q)
   have h5:∀b:Nat,AQ (x.take (k+1)) (b:Int)=(AQ (x.take k) (b:Int)||decide (b=m)):=fun b=>by
    rw[take_succ_eq_append_getElem hk]
    rw[getD_eq_getElem?_getD,getElem?_eq_getElem hk,getD_some]at h2
    rw[h2,Bool.eq_iff_iff,Ac,mem_append,or_eq_true,Ac,decide_eq_true_eq,mem_singleton]
    exact⟨fun h=>h.imp id fun h=>by omega,fun h=>h.imp id fun h=>by omega⟩
   have h4:∀i':Nat,decide ((i':Int)=x.getD i 0)=decide (i'=a):=fun i'=>by rw[h3];exact decide_eq_decide.2 ⟨fun h=>by omega,fun h=>by omega⟩
   cases d1:Ao t a m with
   |false=>
    have hd:Av t.nodes.length (M i k)=Av t.nodes.length (M i (k+1)):=B8 fun i' b _ _=>by
     simp only[M]
     rw[h5,h4]
     by_cases c:i'=a
     .subst c
      by_cases c':b=m
      .subst c';rw[d1];simp
      .simp[c']
     .simp[c]
    simp only[go_sem,q9,q8,q1,q3,q7,Ak hi,Ak hk,hi,hk,h3,h2,hb,d1,A0,hd]
   |true=>
    have h1:=TJ ha hm h6 (M i k)
    have h7:Av t.nodes.length (fun i' b=>M i k i' b||(decide (i'=a)&&decide (b=m)))=Av t.nodes.length (M i (k+1)):=B8 fun i' b _ _=>by
     simp only[M]
     rw[h5,h4]
     by_cases c:i'=a
     .subst c
      by_cases c':b=m
      .subst c';rw[d1];simp
      .simp[c']
     .simp[c]
    rw[h7]at h1
    simp only[go_sem,q9,q8,q1,q3,q7,Ak hi,Ak hk,hi,hk,h3,h2,hb,d1,A0,BK ha,AP C,h1,Az,ha]
  .rintro F h ⟨q8,q1,q3,q7,rfl⟩
   have hM:Av t.nodes.length (M i x.length)=Av t.nodes.length (M (i+1) 0):=B8 fun i' b _ _=>by
    simp only[M]
    rw[take_length,take_zero]
    have e:AQ (x.take (i+1)) (i':Int)=(AQ (x.take i) (i':Int)||decide ((i':Int)=x.getD i 0)):=by
     rw[take_succ_eq_append_getElem hi,getD_eq_getElem?_getD,getElem?_eq_getElem hi,getD_some,Bool.eq_iff_iff,Ac,mem_append,or_eq_true,Ac,decide_eq_true_eq,mem_singleton]
    rw[e]
    show _=(_||(_||(_&&false&&_)))
    cases swB t x f i' b<;>cases AQ (x.take i) (i':Int)<;>cases decide ((i':Int)=x.getD i 0)<;>cases AQ x (b:Int)<;>cases Ao t i' b<;>simp
   simp only[go_sem,q8,q1,q3,q7,hM]
  .simp only[go_sem]
  .simp only[go_sem,p8,p1,p3,p7]
 .rintro F h ⟨p1,p3,p7,rfl⟩
  have hM:Av t.nodes.length (M x.length 0)=Av t.nodes.length (hbB t x f):=B8 fun a b _ _=>by
   simp only[M]
   rw[take_length,take_zero]
   show(_||(_||(_&&false&&_)))=_
   rw[hbB]
   cases swB t x f a b<;>cases AQ x (a:Int)<;>cases AQ x (b:Int)<;>cases Ao t a b<;>simp
  have h9:=fun(Q:VV->Prop)=>Kq C (Av t.nodes.length (hbB t x f)) (by rw[Az];omega) (Q:=Q)
  simp only[go_sem,p1,p3,p7,hM,Az,Aad,h9]
  try rfl
 .simp only[go_sem]
 .simp only[go_sem]
  have h0:Av t.nodes.length (M 0 0)=Av t.nodes.length (swB t x f):=B8 fun a b _ _=>by
   simp only[M]
   rw[take_zero]
   show(_||((false&&_&&_)||(_&&false&&_)))=_
   simp
  rw[h0]
end
abbrev A0n(n:AI)(p:Int):List VV:=[.i .i64 n.thread,.i .i64 n.up,.i .i64 n.kind,.i .i64 n.loc,.i .i64 n.mode,.i .i64 n.val,.b n.rmw,.b n.fin,lI n.regs,.i .i64 p]
section
variable {V:Ai}(C:Am V){Q:VV->Prop}
include C
theorem Sp(n:AI)(p:Int):VP V YF [.ag (A0n n p)] Q↔Q (.b (decide (n.kind=2)||decide (n.kind=3))):=by
 refine Af ?_
 rw[Ad C.c_z212.1 C.c_z212.2]
 cases c:decide (n.kind=2)<;>simp only[A3R,go_sem,c,Bool.true_or,Bool.false_or]
theorem Up(a b:AI)(p q:Int):VP V YG [.ag (A0n a p),.ag (A0n b q)] Q↔Q (.b (decide (p<q))):=by
 refine Af ?_
 rw[Ad C.c_z213.1 C.c_z213.2]
 simp only[A3S,go_sem]
theorem A0l(a b:AI)(p q:Int):VP V YH [.ag (A0n a p),.ag (A0n b q)] Q↔Q (.b (decide (p<=q))):=by
 refine Af ?_
 rw[Ad C.c_z214.1 C.c_z214.2]
 simp only[A3T,go_sem]
theorem NR(a b:AI)(pa pb:Int):VP V Yj [vN a,vN b,.i .i64 pa,.i .i64 pb] Q↔Q (.b (DW a b pa pb)):=by
 refine Af ?_
 rw[Ad C.c_z175.1 C.c_z175.2]
 have a1:=fun(n:AI) (p:Int) (Q:VV->Prop)=>Sp C n p (Q:=Q)
 have h0:DW a b pa pb=((!(decide (a.kind=2)||decide (a.kind=3))||!(decide (b.kind=2)||decide (b.kind=3))||!decide (a.loc=b.loc))||(bif decide (b.kind=2)then decide (pa<=pb)else decide (pa<pb))):=by
  unfold DW
  by_cases c:b.kind=2<;>simp[c]
 rw[h0]
 cases c1:(decide (a.kind=2)||decide (a.kind=3))with
 |false=>
  simp only[LD,go_sem,a1,c1,Bool.not_false,Bool.true_or]
 |true=>
 cases c2:(decide (b.kind=2)||decide (b.kind=3))with
 |false=>
  simp only[LD,go_sem,a1,c1,c2,Bool.not_false,Bool.true_or,Bool.not_true,Bool.false_or]
 |true=>
 cases c3:decide (a.loc=b.loc)with
 |false=>
  simp only[LD,go_sem,a1,c1,c2,c3,Bool.not_false,Bool.true_or,Bool.not_true,Bool.false_or]
 |true=>
 cases c4:decide (b.kind=2)with
 |false=>
  have c5:decide (b.kind=3)=true:=by rw[c4]at c2;simpa using c2
  simp only[LD,go_sem,a1,c1,c2,c3,c4,c5,Up C,Bool.not_true,Bool.false_or,cond_false]
 |true=>
  simp only[LD,go_sem,a1,c1,c2,c3,c4,A0l C,Bool.not_true,Bool.false_or,cond_true]
theorem Uq(P:Nat->Prop)(t:A2)(ht:A7 t)(r:Rows)(hr:∀x∈Bt r,∃a b:Nat,a<t.nodes.length/\b<t.nodes.length/\P a/\P b/\x=((a:Int),(b:Int)))(hl:(Bt r).length<=5000){g:Nat}{c:List VV}(hc:Fz c)(pl:Int->Int)
  (hg:∀(n:Nat),n<t.nodes.length->P n->∀Q:VV->Prop,VP V g ([VV.i .i64 n]++c) Q↔Q (.i .i64 (pl n))) :
  VP V XK [vT t,lW r,.f g [] c] Q↔Q (.b ((Bt r).all fun x=>DW (t.at x.1.toNat) (t.at x.2.toNat) (pl x.1) (pl x.2))):=by
 refine Af ?_
 rw[Ad C.c_z113.1 C.c_z113.2]
 have h2:CK 0 c=true:=Kc (hc [] 5) (fun v e=>A6A e)
 have h0:∀h,B5 (frz h 8) c=some (c,[]):=fun h=>hc h 5
 have h3:∀h,B5 (frz h 7) c=some (c,[]):=fun h=>hc h 4
 simp only[A2S,go_sem,Pb C,h3]
 refine Aj (by decide) (Bt r).length (by omega) (I:=fun k F h=>A3.tmp F 2=.f g [] c/\A3.tmp F 3=.fp (eT t) 0/\A3.tmp F 10=lP (Bt r)/\h=[]/\∀x∈(Bt r).take k,DW (t.at x.1.toNat) (t.at x.2.toNat) (pl x.1) (pl x.2)=true) ?_ ?_ 0 _ _ (by omega) ?_ ?_ ?_
 .rintro k F h hk h5 h4 ⟨p2,p3,h1,rfl,pr⟩
  obtain⟨a,b,ha,hb,h6,h7,e⟩:=hr _ (List.getElem_mem hk)
  have Cf:(Bt r)[k]? = some ((a:Int),(b:Int)):=by rw[getElem?_eq_getElem hk,e]
  have ga:=fun(Q:VV->Prop)=>hg a ha h6 Q
  have gb:=fun(Q:VV->Prop)=>hg b hb h7 Q
  simp only[List.cons_append,List.nil_append]at ga gb
  cases c1:DW (t.at a) (t.at b) (pl a) (pl b)with
  |true=>
   simp only[go_sem,h5,h4,p2,p3,h1,Cf,hk,A5 ha,A5 hb,ga,gb,NR C,c1,A0,h3,h0,h2]
   intro x hx
   rw[take_succ_eq_append_getElem hk]at hx
   rcases List.mem_append.1 hx with hx|hx
   .exact pr x hx
   .rw[List.mem_singleton.1 hx,e];exact c1
  |false=>
   have e:((Bt r).all fun x=>DW (t.at x.1.toNat) (t.at x.2.toNat) (pl x.1) (pl x.2))=false:=by
    rw[List.all_eq_false]
    exact⟨_,List.getElem_mem hk,by rw[e,toNat_natCast,toNat_natCast,c1];simp⟩
   simp only[go_sem,h5,h4,p2,p3,h1,Cf,hk,A5 ha,A5 hb,ga,gb,NR C,c1,A0,e,h3,h0]
 .rintro F h ⟨p2,p3,h1,rfl,pr⟩
  rw[take_length]at pr
  have e:((Bt r).all fun x=>DW (t.at x.1.toNat) (t.at x.2.toNat) (pl x.1) (pl x.2))=true:=by rw[List.all_eq_true];exact pr
  simp only[go_sem,p2,p3,h1,e]
 .simp only[go_sem]
 .simp only[go_sem]
 .simp only[go_sem]
theorem ET(t:A2)(s:A8)(hs:GI s){n:Nat}(hn:n<t.nodes.length):VP V A5c [vT t,HJ s,.i .i64 n] Q↔Q (.i .i64 (plR t s n)):=by
 refine Af ?_
 rw[Ad C.c_z157.1 C.c_z157.2]
 unfold plR
 rw[toNat_natCast]
 cases c:decide ((t.at n).kind=3)with
 |true=>
  rw[if_pos (of_decide_eq_true c)]
  simp only[UQ,go_sem,A5 hn,c,ES C s hs,A0]
 |false=>
  rw[if_neg (of_decide_eq_false c)]
  cases c2:decide ((t.at n).kind=2)with
  |true=>
   rw[if_pos (of_decide_eq_true c2)]
   simp only[UQ,go_sem,A5 hn,c,c2,LW C s hs,ES C s hs,A0]
  |false=>
   rw[if_neg (of_decide_eq_false c2)]
   simp only[UQ,go_sem,A5 hn,c,c2,A0]
def Jn(t:A2)(s:A8)(i k:Nat):Bool:=decide (i=k)||!Mr t s.has s.jf (s.has.getD i 0) (s.has.getD k 0)||DW (t.at (s.has.getD i 0).toNat) (t.at (s.has.getD k 0).toNat) (plR t s (s.has.getD i 0)) (plR t s (s.has.getD k 0))
theorem Zm(t:A2)(ht:A7 t)(s:A8)(hs:GI s)(hn:BF t s.has):VP V AdS [vT t,HJ s,lW (DP t s.has s.jf)] Q↔Q (.b (A6D t s)):=by
 refine Af ?_
 rw[Ad C.c_z89.1 C.c_z89.2]
 have h7:=ht.n64
 have hl:(DP t s.has s.jf).length=t.nodes.length:=D2 h7 _
 have h9:=hs.has
 have h8:A6D t s=(List.range s.has.length).all fun i=>(List.range s.has.length).all fun k=>Jn t s i k:=rfl
 rw[h8]
 simp only[AiN,go_sem]
 refine Ab (by decide) s.has.length (by omega) (I:=fun i F h=>A3.tmp F 2=lW (DP t s.has s.jf)/\A3.tmp F 3=.fp (eT t) 0/\A3.tmp F 4=.fp (Hd s) 0/\h=[]/\∀j,j<i->(List.range s.has.length).all (fun k=>Jn t s j k)=true) ?_ ?_ ?_ 0 _ _ (zero_le _) ?_ ?_
 .rintro i F h hi p7 ⟨p2,p3,p4,rfl,pr⟩
  simp only[go_sem,p7,p2,p3,p4]
  exact pr
 .rintro i F h hi p7 ⟨p2,p3,p4,rfl,pr⟩
  obtain⟨a,h0,ha⟩:=A9 (hn _ (Aa (d:=0) hi))
  simp only[go_sem,p7,p2,p3,p4,A0]
  refine Ab (by decide) s.has.length (by omega) (I:=fun k F h=>A3.tmp F 7=.i .i64 i/\A3.tmp F 2=lW (DP t s.has s.jf)/\A3.tmp F 3=.fp (eT t) 0/\A3.tmp F 4=.fp (Hd s) 0/\h=[]/\∀j,j<k->Jn t s i j=true) ?_ ?_ ?_ 0 _ _ (zero_le _) ?_ ?_
  .rintro k F h hk q8 ⟨q7,q2,q3,q4,rfl,qr⟩
   simp only[go_sem,q8,q7,q2,q3,q4]
   exact qr
  .rintro k F h hk q8 ⟨q7,q2,q3,q4,rfl,qr⟩
   obtain⟨b,h1,hb⟩:=A9 (hn _ (Aa (d:=0) hk))
   have h5:Jn t s i k=true->∀j,j<k+1->Jn t s i j=true:=fun h j hj=>by
    rcases lt_or_ge j k with c|c
    .exact qr j c
    .rw[show j=k by omega];exact h
   have h6:Jn t s i k=false->((List.range s.has.length).all fun i=>(List.range s.has.length).all fun k=>Jn t s i k)=false:=fun h=>AB hi (AB hk h)
   have h3:Jn t s i k=(decide (i=k)||!Mr t s.has s.jf a b||DW (t.at a) (t.at b) (plR t s a) (plR t s b)):=by rw[Jn,h0,h1,toNat_natCast,toNat_natCast]
   have h2:=fun(Q:VV->Prop)=>KV C (DP t s.has s.jf) (a:Int) (b:Int) (by omega) (Q:=Q)
   have hh:(decide ((0:Int)<=(a:Int))&&Bh ((DP t s.has s.jf).getD (a:Int).toNat 0#64) (b:Int))=Mr t s.has s.jf a b:=by rw[Mr,decide_eq_true (by omega)];rfl
   rw[hh]at h2
   have h4:decide ((i:Int)=(k:Int))=decide (i=k):=decide_eq_decide.2 ⟨fun h=>by omega,fun h=>by omega⟩
   cases d1:decide (i=k)with
   |true=>
    simp only[go_sem,q8,q7,q2,q3,q4,Ak hi,Ak hk,hi,hk,h0,h1,h4,d1,A0]
    exact h5 (by rw[h3,d1];rfl)
   |false=>
   cases d2:Mr t s.has s.jf a b with
   |false=>
    simp only[go_sem,q8,q7,q2,q3,q4,Ak hi,Ak hk,hi,hk,h0,h1,h4,d1,h2,d2,A0]
    exact h5 (by rw[h3,d2];simp)
   |true=>
   cases d3:DW (t.at a) (t.at b) (plR t s a) (plR t s b)with
   |true=>
    simp only[go_sem,q8,q7,q2,q3,q4,Ak hi,Ak hk,hi,hk,h0,h1,h4,d1,h2,d2,A5 ha,A5 hb,ET C t s hs ha,ET C t s hs hb,Gy C,d3,A0]
    exact h5 (by rw[h3,d3];simp)
   |false=>
    have e:=h6 (by rw[h3,d1,d2,d3];rfl)
    simp only[go_sem,q8,q7,q2,q3,q4,Ak hi,Ak hk,hi,hk,h0,h1,h4,d1,h2,d2,A5 ha,A5 hb,ET C t s hs ha,ET C t s hs hb,Gy C,d3,A0,e]
  .rintro F h ⟨q7,q2,q3,q4,rfl,qr⟩
   simp only[go_sem,q7,q2,q3,q4]
   intro j hj
   rcases lt_or_ge j i with c|c
   .exact pr j c
   .rw[show j=i by omega];exact AD qr
  .simp only[go_sem]
  .simp only[go_sem,p7,p2,p3,p4]
   intro j hj;omega
 .rintro F h ⟨p2,p3,p4,rfl,pr⟩
  have e:=AD pr
  simp only[go_sem,p2,p3,p4,e]
 .simp only[go_sem]
 .simp only[go_sem]
  intro j hj;omega
end
def JK(ty e:Nat)(rows:List (List VV)):VO:=if rows.length=0 then DT else{ ty:=ty,esz:=e,ver:=0,nl:=false,rows:=rows }
def stJ(t:A2)(k:Nat):List Int:=List.replicate (DY t k).length (-1)
theorem Apz{t:A2}{k:Nat}(h:decide ((t.at k).up<0)=true):stJ t (k+1)=stJ t k++[-1]:=by
 unfold stJ
 rw[A8J h,length_append,List.length_singleton,List.replicate_succ']
theorem Apy{t:A2}{k:Nat}(h:decide ((t.at k).up<0)=false):stJ t (k+1)=stJ t k:=by unfold stJ;rw[A8I h]
theorem AhU{t:A2}(k:Nat):(stJ t k).length<=k:=by unfold stJ;rw[List.length_replicate];exact NB k
def Hw(k:Nat):List (List (List Int)):=(List.range k).map fun(i:Nat)=>[[(i:Int)]]
theorem Aaj(k:Nat):Hw (k+1)=Hw k++[[[(k:Int)]]]:=by
 unfold Hw
 rw[List.range_succ,map_append];rfl
theorem Aeq(k:Nat):(Hw k).length=k:=by simp[Hw]
def sTh(t:A2)(k j:Nat):VH:=[some ⟨Ah,0,0,false,[[.nl,.nl,.nl]]⟩,some (AN AG 1 ((DY t k).map eI)),some (AN AG 1 ((stJ t k).map eI)),some (AN BA 1 ((Hw j).map EV)),
 some ⟨Ah,0,0,false,[[.sl 1 (DY t k).length 0 (DY t k).length,.sl 2 (stJ t k).length 0 (stJ t k).length,.sl 3 (Hw j).length 0 (Hw j).length]]⟩]
theorem Zy(ty:Nat)(L:List (List Int))(c:List Int):({ ty:=ty,esz:=1,ver:=L.length+1,nl:=false,rows:=L.map EG++[[VV.ls (c.map eI)]] }:VO)=AN ty 1 ((L++[c]).map EG):=by
 rw[map_append]
 unfold AN
 rw[if_neg (by simp),length_append,length_map];rfl
theorem A8H(ty:Nat)(L:List (List (List Int)))(c:List (List Int)):({ ty:=ty,esz:=1,ver:=L.length+1,nl:=false,rows:=L.map EV++[[VV.ls (c.map EG)]] }:VO)=AN ty 1 ((L++[c]).map EV):=by
 rw[map_append]
 unfold AN
 rw[if_neg (by simp),length_append,length_map];rfl
def cpH(s:A8)(L:List (List (List Int))):VH:=[some ⟨Ah,0,0,false,[[.nl,.nl,.nl]]⟩,some (LC AG 1 (s.has.map eI)),some (LC AG 1 (s.jf.map eI)),
 some ⟨Ah,0,0,false,[[.sl 1 (E0 s.has.length) 0 s.has.length,.sl 2 (E0 s.jf.length) 0 s.jf.length,.sl 4 L.length 0 L.length]]⟩,some (AN BA 1 (L.map EV))]
section
variable {V:Ai}(C:Am V){Q:VV->Prop}
include C
theorem SM(t:A2)(ht:A7 t):VP V A7Q [vT t] Q↔Q (HJ (CH t)):=by
 refine Af ?_
 rw[Ad C.c_z29.1 C.c_z29.2]
 have h1:=ht.n64
 have h2:=ht.l4
 simp only[AbP,go_sem]
 refine Ab (by decide) t.nodes.length (by omega) (I:=fun k F h=>A3.tmp F 1=.fp (eT t) 0/\A3.tmp F 2=.p 0 0 0 0/\A3.tmp F 3=.p 4 0 0 0/\h=sTh t k 0) ?_ ?_ ?_ 0 _ _ (zero_le _) ?_ ?_
 .rintro k F h hk p4 ⟨p1,p2,p3,rfl⟩
  simp only[go_sem,p4,p1,p2,p3]
 .rintro k F h hk p4 ⟨p1,p2,p3,rfl⟩
  have h0:=NB (t:=t) k
  cases c:decide ((t.at k).up<0)with
  |true=>
   have b1:((DY t k).length+1) * 8<=A6:=by unfold A6;omega
   have hj:=AhU (t:=t) k
   have b2:((stJ t k).length+1) * 8<=A6:=by unfold A6;omega
   simp only[go_sem,p4,p1,p2,p3,hk,A5 hk,c,sTh,A8J c,Apz c,A0,b1,b2,length_map,length_append]
  |false=>
   simp only[go_sem,p4,p1,p2,p3,hk,A5 hk,c,sTh,A8I c,Apy c,A0]
 .rintro F h ⟨p1,p2,p3,rfl⟩
  simp only[go_sem,p1,p2,p3]
  refine Ab (by decide) t.locs.length (by omega) (I:=fun j F h=>A3.tmp F 1=.fp (eT t) 0/\A3.tmp F 2=.p 0 0 0 0/\A3.tmp F 3=.p 4 0 0 0/\h=sTh t t.nodes.length j) ?_ ?_ ?_ 0 _ _ (zero_le _) ?_ ?_
  .rintro k F h hk p5 ⟨p1,p2,p3,rfl⟩
   simp only[go_sem,p5,p1,p2,p3]
  .rintro k F h hk p5 ⟨p1,p2,p3,rfl⟩
   have hm:=Aeq k
   have b1:((Hw k).length+1) * 24<=A6:=by unfold A6;omega
   simp only[go_sem,p5,p1,p2,p3,hk,sTh,Aaj,A0,b1,length_map,length_append]
   have e:List.map EV (Hw k++[[[(k:Int)]]])=List.map EV (Hw k)++[[VV.ls [[VV.ls [[VV.i IntKind.i64 (k:Int)]]]]]]:=by rw[map_append];rfl
   have e2:({ ty:=BA,esz:=1,ver:=(Hw k).length+1,nl:=false,rows:=List.map EV (Hw k)++[[VV.ls [[VV.ls [[VV.i IntKind.i64 (k:Int)]]]]]] }:VO)=AN BA 1 (List.map EV (Hw k++[[[(k:Int)]]])):=by
    rw[e]
    unfold AN
    rw[if_neg (by simp),length_append,length_map];rfl
   rw[e2]
   refine⟨.inr ?_,rfl⟩
   rw[List.all_append,Bool.and_eq_true]
   exact⟨Hh (fun _=>rfl),rfl⟩
  .rintro F h ⟨p1,p2,p3,rfl⟩
   simp only[go_sem,p1,p2,p3,sTh]
   rfl
  .simp only[go_sem]
  .simp only[go_sem,p1,p2,p3]
 .simp only[go_sem]
 .simp only[go_sem]
  rfl
theorem Lq(s:A8)(hs:GI s)(b:Nat){Q:VV->VH->Prop}:VP1 V Kf [HJ s] b Q↔Q (.ag [.sl b 0 0 s.has.length,.sl (b+1) 0 0 s.jf.length,.sl (b+1+1) 0 0 s.mo.length]) [some ⟨AG,1,0,false,s.has.map eI⟩,some ⟨AG,1,0,false,s.jf.map eI⟩,some (JK BA 1 (s.mo.map EV))]:=by
 refine JW ?_
 rw[JX C.c_z200.2]
 have h1:=hs.has
 have h2:=hs.jf
 have h3:=hs.mo
 have b1:s.has.length * 8<=A6:=by unfold A6;omega
 have b2:s.jf.length * 8<=A6:=by unfold A6;omega
 simp only[N6,go_sem,b1,b2]
 refine Ab (by decide) s.mo.length (by omega) (I:=fun k F h=>A3.tmp F 1=.fp (Hd s) 0/\A3.tmp F 2=.p 0 0 0 0/\A3.tmp F 3=.p 3 0 0 0/\∃L,L=s.mo.take k/\h=cpH s L) ?_ ?_ ?_ 0 _ _ (zero_le _) ?_ ?_
 .rintro k F h hk p4 ⟨p1,p2,p3,L,hL,rfl⟩
  simp only[go_sem,p4,p1,p2,p3]
  exact⟨L,hL,rfl⟩
 .rintro k F h hk p4 ⟨p1,p2,p3,L,hL,rfl⟩
  have hm:=hs.mi' k
  simp only[go_sem,p4,p1,p2,p3,A0,cpH]
  refine Ab (by decide) (s.mo.getD k []).length (by omega) (I:=fun j F h=>A3.tmp F 4=.i .i64 k/\A3.tmp F 1=.fp (Hd s) 0/\A3.tmp F 2=.p 0 0 0 0/\A3.tmp F 3=.p 3 0 0 0/\∃K,K=(s.mo.getD k []).take j/\A3.tmp F 5=.sl 5 K.length 0 K.length/\h=cpH s L++[some (AN BT 1 (K.map EG))]) ?_ ?_ ?_ 0 _ _ (zero_le _) ?_ ?_
  .rintro j F h hj q6 ⟨q4,q1,q2,q3,K,hK,q5,rfl⟩
   simp only[go_sem,q6,q4,q1,q2,q3,q5,C7 hk]
   exact⟨K,hK,rfl,rfl⟩
  .rintro j F h hj q6 ⟨q4,q1,q2,q3,K,hK,q5,rfl⟩
   have h0:(s.mo.getD k []).take (j+1)=K++[(s.mo.getD k []).getD j []]:=by
    rw[take_succ_eq_append_getElem hj,hK,getD_eq_getElem?_getD (l:=s.mo.getD k []),getElem?_eq_getElem hj];rfl
   have hc:=hs.mc' k j
   have hl:K.length=j:=by rw[hK,length_take];omega
   have b3:((s.mo.getD k []).getD j []).length * 8<=A6:=by unfold A6;omega
   have b4:(K.length+1) * 24<=A6:=by unfold A6;omega
   simp only[go_sem,q6,q4,q1,q2,q3,q5,C7 hk,CT hj,hk,hj,b3,b4,cpH,Zy,A0,length_append,length_map]
   exact⟨K++[(s.mo.getD k []).getD j []],h0.symm,by simp,rfl⟩
  .rintro F h ⟨q4,q1,q2,q3,K,hK,q5,rfl⟩
   rw[take_length]at hK
   subst hK
   have h0:s.mo.take (k+1)=L++[s.mo.getD k []]:=by
    rw[take_succ_eq_append_getElem hk,hL,getD_eq_getElem?_getD,getElem?_eq_getElem hk];rfl
   have hl:L.length=k:=by rw[hL,length_take];omega
   have b4:(L.length+1) * 24<=A6:=by unfold A6;omega
   simp only[go_sem,q4,q1,q2,q3,q5,b4,cpH,A8H,length_append,length_map]
   exact⟨L++[s.mo.getD k []],h0.symm,by simp⟩
  .simp only[go_sem]
  .simp only[go_sem,p4,p1,p2,p3,cpH]
   exact⟨[],rfl,rfl,rfl⟩
 .rintro F h ⟨p1,p2,p3,L,hL,rfl⟩
  rw[take_length]at hL
  subst hL
  simp only[go_sem,p1,p2,p3,cpH,Bp,Bp.takeL]
  refine⟨by decide,?_⟩
  unfold AN JK
  split<;>simp_all[DT]
 .simp only[go_sem]
 .simp only[go_sem]
  exact⟨[],rfl,rfl⟩
end
def Q2:A8:=⟨[],[],[]⟩
def HZ(o:Option A8):VV:=match o with
 |some s=>.tu [HJ s,.b true]
 |none=>.tu [HJ Q2,.b false]
def D1(t:A2)(s:A8)(n kind w:Int):Option A8:=if Cn t s n kind=true then some (Ba s n w)else none
theorem Mt{l:List Int}{n:Int}{i:Nat}(h:i<=Bo l n):(i<l.length/\l.getD i 0<n)↔i<Bo l n:=by
 constructor
 .rintro⟨h1,h2⟩
  rcases lt_or_ge i (Bo l n)with c|c
  .exact c
  .have e:i=Bo l n:=by omega
   subst e
   exact absurd h2 (Age h1)
 .intro h2
  exact⟨by have:=Ee l n;omega,Mu h2⟩
theorem Me{ty e:Nat}{rows:List (List VV)}:(JK ty e rows).ver=0:=by unfold JK;split<;>rfl
theorem KD{ty e:Nat}{rows:List (List VV)}:(JK ty e rows).rows=rows:=by
 unfold JK;split
 .rename_i h;rw[List.length_eq_zero_iff.1 h];rfl
 .rfl
theorem Md{ty:Nat}{rows:List (List VV)}:(decide (0<(JK ty 1 rows).esz)||(JK ty 1 rows).nl)=true:=by unfold JK;split<;>rfl
def moH(s:A8):VH:=[some ⟨Ah,0,0,false,[[.nl,.nl,.nl]]⟩,some ⟨AG,1,0,false,s.has.map eI⟩,some ⟨AG,1,0,false,s.jf.map eI⟩,some (JK BA 1 (s.mo.map EV)),some ⟨Ah,0,0,false,[[.sl 1 0 0 s.has.length,.sl 2 0 0 s.jf.length,.sl 3 0 0 s.mo.length]]⟩]
section
variable {V:Ai}(C:Am V){Q:VV->Prop}
include C
theorem MH(t:A2)(ht:A7 t)(s:A8)(hs:GI s)(n kind w:Int):VP V GW [vT t,HJ s,.i .i64 n,.i .i64 kind,.i .i64 w] Q↔Q (HZ (D1 t s n kind w)):=by
 refine Af ?_
 rw[Ad C.c_z149.1 C.c_z149.2]
 have h6:=fun(Q:VV->Prop)=>BE C t ht s hs (Q:=Q)
 have h8:Cn t s n kind=false->HZ (D1 t s n kind w)=.tu [HJ Q2,.b false]:=fun h=>by rw[D1,h];rfl
 have e0:(VV.tu [HJ Q2,.b false])=.tu [.ag [.ls [],.ls [],.ls []],.b false]:=rfl
 have q2:=hs.has
 cases hf:Bj t s with
 |false=>
  rw[h8 (by rw[Cn,hf];rfl),e0]
  simp only[Cy,go_sem,h6,hf]
 |true=>
 cases h1:BZ t n with
 |false=>
  rw[h8 (by rw[Cn,hf,h1];rfl),e0]
  simp only[Cy,go_sem,h6,hf,At C,h1]
 |true=>
 obtain⟨m,rfl,hm⟩:=A9 h1
 cases h2:decide ((t.at m).kind=kind)with
 |false=>
  rw[h8 (by rw[Cn,hf,h1,toNat_natCast,h2];rfl),e0]
  simp only[Cy,go_sem,h6,hf,At C,h1,A5 hm,h2]
 |true=>
 have w1:=DQ s.has (m:Int)
 cases h3:AQ s.has (m:Int)with
 |true=>
  rw[h8 (by rw[Cn,hf,h1,toNat_natCast,h2,h3];rfl),e0]
  rw[h3]at w1
  simp only[Cy,go_sem,h6,hf,At C,h1,A5 hm,h2,Ae C s.has (by omega),w1]
 |false=>
 rw[h3]at w1
 have w2:=C0 s.has (t.at m).up
 cases h4:AQ s.has (t.at m).up with
 |false=>
  rw[h8 (by rw[Cn,hf,h1,toNat_natCast,h2,h3,h4];rfl),e0]
  rw[h4]at w2
  simp only[Cy,go_sem,h6,hf,At C,h1,A5 hm,h2,Ae C s.has (by omega),w1,w2]
 |true=>
 rw[h4]at w2
 have hu:D1 t s m kind w=some (Ba s m w):=by rw[D1,Cn,hf,h1,toNat_natCast,h2,h3,h4];rfl
 rw[hu]
 have hr:=fun(b:Nat) (Q:VV->VH->Prop)=>Lq C s hs b (Q:=Q)
 simp only[Cy,go_sem,h6,hf,At C,h1,A5 hm,h2,Ae C s.has (by omega),w1,w2,hr]
 unfold VL
 rw[A0]
 have q0:s.jf.length=s.has.length:=by simp only[Bj,Bool.and_eq_true,decide_eq_true_eq]at hf;exact hf.1.1.1.1.2
 refine AJ (M:=Nat) (I:=fun i F h=>i<=Bo s.has m/\A3.tmp F 2=.i .i64 m/\A3.tmp F 4=.i .i64 w/\A3.tmp F 6=.fp (Hd s) 0/\A3.tmp F 10=.p 0 0 0 0/\A3.tmp F 12=.p 4 0 0 0/\A3.tmp F 13=.i .i64 i/\h=moH s) (μ:=fun i=>s.has.length-i) ?_ 0 _ _ ⟨zero_le _,?_,?_,?_,?_,?_,?_,rfl⟩
 .rintro i F h ⟨hi,p2,p4,p6,hl,hn,ho,rfl⟩
  have hj:=Mt hi
  have q1:=Ee s.has m
  by_cases c:i<s.has.length
  .cases c2:decide (s.has.getD i 0<(m:Int))with
   |true=>
    have he:=of_decide_eq_true c2
    have q3:=hj.1 ⟨c,he⟩
    have hw:IntKind.i64.wrap ((i:Int)+1)=((i+1:Nat):Int):=by rw[Ax (by omega) (by omega)];omega
    simp only[ER,go_sem,p2,p4,p6,hl,hn,ho,c,Ak c,c2,A0,hw]
    exact⟨i+1,by omega,by omega,rfl,rfl,rfl⟩
   |false=>
    have he:=of_decide_eq_false c2
    have e:i=Bo s.has m:=by
     rcases lt_or_ge i (Bo s.has m)with h|h
     .exact absurd (Mu h) he
     .omega
    obtain⟨A,hA⟩:∃A,A=s.has.take i:=⟨_,rfl⟩
    obtain⟨B,hB⟩:∃B,B=s.has.drop i:=⟨_,rfl⟩
    obtain⟨A',h0⟩:∃A,A=s.jf.take i:=⟨_,rfl⟩
    obtain⟨B',h5⟩:∃B,B=s.jf.drop i:=⟨_,rfl⟩
    have lA:A.length=i:=by rw[hA,length_take];omega
    have hx:A'.length=i:=by rw[h0,length_take];omega
    have lB:B.length=s.has.length-i:=by rw[hB,length_drop]
    have hk:B'.length=s.jf.length-i:=by rw[h5,length_drop]
    have tB:List.take (s.has.length-i) B=B:=take_of_length_le (by omega)
    have hq:List.take (s.jf.length-i) B'=B':=take_of_length_le (by omega)
    have c1:i<=s.has.length:=by omega
    have hd:i<=s.jf.length:=by omega
    have b1:A.length * 8<=A6:=by unfold A6;omega
    have ha:A'.length * 8<=A6:=by unfold A6;omega
    have b2:(A.length+1) * 8<=A6:=by unfold A6;omega
    have hb:(A'.length+1) * 8<=A6:=by unfold A6;omega
    obtain⟨b0,Bs,rfl⟩:∃b0 Bs,B=b0::Bs:=by
     cases B with
     |nil=>simp at lB;omega
     |cons b0 Bs=>exact⟨b0,Bs,rfl⟩
    obtain⟨h9,h7,rfl⟩:∃b0 Bs,B'=b0::Bs:=by
     cases B' with
     |nil=>simp at hk;omega
     |cons b0 Bs=>exact⟨b0,Bs,rfl⟩
    rw[List.length_cons]at lB hk
    have hz:List.take (s.has.length-i) (eI b0::List.map eI Bs)=eI b0::List.map eI Bs:=take_of_length_le (by simp;omega)
    have hp:List.take (s.jf.length-i) (eI h9::List.map eI h7)=eI h9::List.map eI h7:=take_of_length_le (by simp;omega)
    obtain⟨X,hX⟩:∃X,X=A++[(m:Int)]++b0::Bs:=⟨_,rfl⟩
    obtain⟨X',hh⟩:∃X,X=A'++[w]++h9::h7:=⟨_,rfl⟩
    have jX:List.map eI (A++[(m:Int)])++eI b0::List.map eI Bs=List.map eI X:=by rw[hX,map_append (l₁:=A++[(m:Int)])];rfl
    have hv:List.map eI (A'++[w])++eI h9::List.map eI h7=List.map eI X':=by rw[hh,map_append (l₁:=A'++[w])];rfl
    have lX:A.length+1+(Bs.length+1)=X.length:=by rw[hX];simp;omega
    have hy:A'.length+1+(h7.length+1)=X'.length:=by rw[hh];simp;omega
    have b3:X.length * 8<=A6:=by unfold A6;omega
    have hc:X'.length * 8<=A6:=by unfold A6;omega
    have eX:X=Be s.has (Bo s.has m) m:=by rw[hX,Be,<- e,<- hA,<- hB];simp
    have hg:X'=Be s.jf (Bo s.has m) w:=by rw[hh,Be,<- e,<- h0,<- h5];simp
    simp only[ER,go_sem,p2,p4,p6,hl,hn,ho,c,Ak c,c2,A0,moH,<- hA,<- hB,<- h0,<- h5,hz,hp,c1,hd,b1,ha,b2,hb,b3,hc,length_append,length_map,Me,KD,Md,jX,hv,lX,hy]
    rw[eX,hg];rfl
  .have e:i=Bo s.has m:=by omega
   obtain⟨A,hA⟩:∃A,A=s.has.take i:=⟨_,rfl⟩
   obtain⟨B,hB⟩:∃B,B=s.has.drop i:=⟨_,rfl⟩
   obtain⟨A',h0⟩:∃A,A=s.jf.take i:=⟨_,rfl⟩
   obtain⟨B',h5⟩:∃B,B=s.jf.drop i:=⟨_,rfl⟩
   have lA:A.length=i:=by rw[hA,length_take];omega
   have hx:A'.length=i:=by rw[h0,length_take];omega
   have lB:B.length=s.has.length-i:=by rw[hB,length_drop]
   have hk:B'.length=s.jf.length-i:=by rw[h5,length_drop]
   have tB:List.take (s.has.length-i) B=B:=take_of_length_le (by omega)
   have hq:List.take (s.jf.length-i) B'=B':=take_of_length_le (by omega)
   have c1:i<=s.has.length:=by omega
   have hd:i<=s.jf.length:=by omega
   have b1:A.length * 8<=A6:=by unfold A6;omega
   have ha:A'.length * 8<=A6:=by unfold A6;omega
   have b2:(A.length+1) * 8<=A6:=by unfold A6;omega
   have hb:(A'.length+1) * 8<=A6:=by unfold A6;omega
   obtain rfl:B=[]:=List.length_eq_zero_iff.1 (by omega)
   obtain rfl:B' = []:=List.length_eq_zero_iff.1 (by omega)
   have b3:(A.length+1+0) * 8<=A6:=by unfold A6;omega
   have hc:(A'.length+1+0) * 8<=A6:=by unfold A6;omega
   simp only[ER,go_sem,p2,p4,p6,hl,hn,ho,c,A0,moH,<- hA,<- hB,<- h0,<- h5,tB,hq,c1,hd,b1,ha,b2,hb,b3,hc,length_append,length_map,Me,KD,Md]
   have eX:A++[(m:Int)]=Be s.has (Bo s.has m) m:=by rw[Be,<- e,<- hA,<- hB]
   have hg:A'++[w]=Be s.jf (Bo s.has m) w:=by rw[Be,<- e,<- h0,<- h5]
   rw[eX,hg];rfl
 .simp only[go_sem]
 .simp only[go_sem]
 .simp only[go_sem]
 .simp only[go_sem]
 .simp only[go_sem]
 .simp only[go_sem]
end
end Go.AM
