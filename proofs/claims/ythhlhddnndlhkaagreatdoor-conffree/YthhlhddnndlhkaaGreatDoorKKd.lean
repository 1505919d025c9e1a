/-
  Own work, part of the proof of these laws: what functions compute.
-/
import Derived.Test.YthhlhddnndlhkaaGreatDoorKJd
set_option maxRecDepth 10000
set_option maxHeartbeats 64000000
set_option linter.unusedVariables false
set_option linter.unusedSimpArgs false
set_option linter.unusedSectionVars false
open List (length_map)
namespace Go.AM
open Go Go.Proofs
section
variable {V:At} (C:Aq V) {Q:VV->Prop}
include C
theorem Aae (t:A1) (ht:A5 t) (s:A6) (hs:DL s):VP V UV [vT t,Dy s] Q↔Q (lI (Ji t s t.nodes.length)):=by
 refine Ae ?_
 rw [Ad C.c_z119.1 C.c_z119.2]
 have h1:=ht.n64
 have h2:=hs.has
 simp only [Zu,go_sem,↓reduceIte]
 refine Ab (by decide) t.nodes.length (by omega) (I:=fun k F h=>A4.tmp F 2 = .fp (eT t) 0/\A4.tmp F 3 = .fp (Je s) 0/\∃ L,L=Ji t s k/\A4.tmp F 5 = .sl 0 L.length 0 L.length/\h=[some (AW AO 1 (L.map eI))]) ?_ ?_ ?_ 0 _ _ (Nat.zero_le _) ?_ ?_
 .rintro k F h hk p6 ⟨p2,p3,L,hL,p5,rfl⟩
  simp only [go_sem,↓reduceIte,p2,p3,p5,p6]
  exact ⟨L,hL,rfl,rfl⟩
 .rintro k F h hk p6 ⟨p2,p3,L,hL,p5,rfl⟩
  have h0:=AeI (t:=t) (s:=s) k
  have w1:=EB s.has (t.at k).up
  have w2:=Cg s.has (k:Int)
  have b1:(L.length+1) * 8<=Aa:=by rw [<- hL] at h0;unfold Aa;omega
  cases c1:decide (0<=(t.at k).up) with
  | false =>
   have e:GX t s k=false:=by simp [GX,c1]
   simp only [go_sem,↓reduceIte,p2,p3,p5,p6,hk,A7 hk,c1,A0]
   exact ⟨L,by rw [A6X e];exact hL,rfl,rfl⟩
  | true =>
  cases c2:AU s.has (t.at k).up with
  | false =>
   rw [c2] at w1
   have e:GX t s k=false:=by simp [GX,c2]
   simp only [go_sem,↓reduceIte,p2,p3,p5,p6,hk,A7 hk,c1,Ao C s.has (by omega),w1,A0]
   exact ⟨L,by rw [A6X e];exact hL,rfl,rfl⟩
  | true =>
  rw [c2] at w1
  cases c3:AU s.has (k:Int) with
  | true =>
   rw [c3] at w2
   have e:GX t s k=false:=by simp [GX,c3]
   simp only [go_sem,↓reduceIte,p2,p3,p5,p6,hk,A7 hk,c1,Ao C s.has (by omega),w1,w2,A0]
   exact ⟨L,by rw [A6X e];exact hL,rfl,rfl⟩
  | false =>
   rw [c3] at w2
   have e:GX t s k=true:=by simp only [GX,c1,c2,c3];rfl
   simp only [go_sem,↓reduceIte,p2,p3,p5,p6,hk,A7 hk,c1,Ao C s.has (by omega),w1,w2,A0,b1,Du,List.length_append,length_map]
   exact ⟨L++[(k:Int)],by rw [AjU e,hL],by simp,rfl⟩
 .rintro F h ⟨p2,p3,L,hL,p5,rfl⟩
  subst hL
  simp only [go_sem,↓reduceIte,p2,p3,p5,length_map]
 .simp only [go_sem,↓reduceIte]
 .simp only [go_sem,↓reduceIte]
  exact ⟨[],rfl,rfl,rfl⟩
end
theorem Gw {e:Option Yc} {a l:Nat} (h:0 < l):Bk .rem e (.i .i64 (a:Int)) (.i .i64 (l:Int))=some (.i .i64 ((a % l:Nat):Int)):=by
 rw [Hp (by omega),Int.tmod_eq_emod_of_nonneg (by omega),Int.natCast_emod]
theorem RE {e:Option Yc} {a l:Nat} (h:0 < l) (ha:a<=1000000):Bk .quo e (.i .i64 (a:Int)) (.i .i64 (l:Int))=some (.i .i64 ((a / l:Nat):Int)):=by
 have:=Nat.div_le_self a l
 have w:IntKind.i64.wrap ((a / l:Nat):Int)=((a / l:Nat):Int):=by
  generalize a / l=q at this ⊢
  exact Az (by omega) (by omega)
 rw [AiA (by omega),Int.tdiv_eq_ediv_of_nonneg (by omega),<- Int.natCast_ediv,w]
theorem Cq (s:A6):KE (some s) = .tu [Dy s,.b true]:=rfl
theorem CP:KE none = .tu [Dy Yk,.b false]:=rfl
def nxH (n:AX) (W:List Int):VH:=[some ⟨Af,0,0,false,[[.nl,.nl,.nl]]⟩,some ⟨Ck,0,0,false,[eN n]⟩,some (AW AO 1 (W.map eI))]
section
variable {V:At} (C:Aq V) {Q:VV->Prop}
include C
theorem XN (t:A1) (ht:A5 t) (s:A6) {k:Nat} (hg:Gr t s k) (hk:k<=90) (a b:Nat) (ha:a < 256) (hb:b < 256):VP V A5x [vT t,Dy s,.i .i64 a,.i .i64 b] Q↔Q (KE (Gk t s a b)):=by
 have hs:=hg.sz ht (by omega)
 have hz:=hg.sz' (by omega)
 refine Ae ?_
 rw [Ad C.c_z55.1 C.c_z55.2]
 have qa:=ht.n64
 have h5:=fun (Q:VV->Prop)=>Aae C t ht s hs (Q:=Q)
 unfold Gk
 obtain ⟨l,hl⟩:∃ l,l=Ji t s t.nodes.length:=⟨_,rfl⟩
 rw [<- hl] at h5 ⊢
 simp only
 cases c0:decide (l.length=0) with
 | true =>
  have hp:=of_decide_eq_true c0
  have h3:decide ((l.length:Int)=0)=true:=decide_eq_true (by omega)
  rw [if_pos hp,CP]
  simp only [Jg,go_sem,↓reduceIte,h5,c0,h3,Yk,length_map]
  rfl
 | false =>
 have hp:=of_decide_eq_false c0
 have h3:decide ((l.length:Int)=0)=false:=decide_eq_false (by omega)
 rw [if_neg hp]
 have r1:=Gw (e:=none) (a:=a) (l:=l.length) (by omega)
 have h4:a % l.length < l.length:=Nat.mod_lt _ (by omega)
 obtain ⟨n,hn,h0,hd⟩:=AeJ (show l.getD (a % l.length) 0∈Ji t s t.nodes.length from by rw [<- hl];exact Ai h4)
 have g1:=Ar h4
 rw [hn] at g1 ⊢
 rw [Int.toNat_natCast]
 have q9:0<=(t.at n).up:=by simp only [GX,Bool.and_eq_true,decide_eq_true_eq] at hd;exact hd.1.1
 have q2:=ht.kind h0 q9
 cases c4:decide ((t.at n).kind=4) with
 | true =>
  rw [if_pos (of_decide_eq_true c4)]
  have h9:=fun (Q:VV->Prop)=>XV C t ht s hs n (Q:=Q)
  cases hm:D6 t s n 4 (-1) with
  | none =>
   rw [hm,CP] at h9
   rw [CP]
   simp only [Jg,go_sem,↓reduceIte,h5,c0,h3,r1,g1,h4,h0,A7 h0,c4,h9,Yk,length_map,A0]
   rfl
  | some s' =>
   rw [hm,Cq] at h9
   rw [Cq]
   simp only [Jg,go_sem,↓reduceIte,h5,c0,h3,r1,g1,h4,h0,A7 h0,c4,h9,length_map,A0]
 | false =>
 have q5:=of_decide_eq_false c4
 rw [if_neg q5]
 cases c2:decide ((t.at n).kind=2) with
 | true =>
  rw [if_pos (of_decide_eq_true c2)]
  have qb:=hs.has
  simp only [Jg,go_sem,↓reduceIte,h5,c0,h3,r1,g1,h4,h0,A7 h0,c4,c2,length_map,A0]
  refine Ab (by decide) s.has.length (by omega) (I:=fun i F h=>A4.tmp F 3 = .i .i64 b/\A4.tmp F 4 = .fp (eT t) 0/\A4.tmp F 5 = .fp (Je s) 0/\A4.tmp F 8 = .p 0 0 0 0/\A4.tmp F 11 = .i .i64 n/\A4.tmp F 12 = .p 1 0 0 0/\∃ W,W=A2Z t s n i/\A4.tmp F 13 = .sl 2 W.length 0 W.length/\h=nxH (t.at n) W) ?_ ?_ ?_ 0 _ _ (Nat.zero_le _) ?_ ?_
  .rintro i F h hi hf ⟨p3,p4,p5,p8,h6,h7,W,hW,h8,rfl⟩
   simp only [go_sem,↓reduceIte,p3,p4,p5,p8,h6,h7,h8,hf]
   exact ⟨W,hW,rfl,rfl⟩
  .rintro i F h hi hf ⟨p3,p4,p5,p8,h6,h7,W,hW,h8,rfl⟩
   have hu:=Aif (t:=t) (s:=s) (n:=n) i
   rw [<- hW] at hu
   have b1:(W.length+1) * 8<=Aa:=by unfold Aa;omega
   obtain ⟨y,hy,he⟩:=A8 (hg.ok _ (Ai hi))
   have g2:=Ar hi
   rw [hy] at g2
   cases d1:decide ((t.at y).kind=3) with
   | false =>
    have e:Mh t n (s.has.getD i 0)=false:=by rw [hy];simp only [Mh,Int.toNat_natCast,d1];rfl
    simp only [go_sem,↓reduceIte,p3,p4,p5,p8,h6,h7,h8,hf,hi,g2,he,A7 he,d1,nxH,A0]
    exact ⟨W,by rw [Acs hi e];exact hW,rfl,rfl⟩
   | true =>
   cases d2:decide ((t.at y).loc=(t.at n).loc) with
   | false =>
    have e:Mh t n (s.has.getD i 0)=false:=by rw [hy];simp only [Mh,Int.toNat_natCast,d1,d2];rfl
    simp only [go_sem,↓reduceIte,p3,p4,p5,p8,h6,h7,h8,hf,hi,g2,he,A7 he,d1,d2,nxH,A0]
    exact ⟨W,by rw [Acs hi e];exact hW,rfl,rfl⟩
   | true =>
   cases d3:decide ((t.at y).val=(t.at n).val) with
   | false =>
    have e:Mh t n (s.has.getD i 0)=false:=by rw [hy];simp only [Mh,Int.toNat_natCast,d1,d2,d3];rfl
    simp only [go_sem,↓reduceIte,p3,p4,p5,p8,h6,h7,h8,hf,hi,g2,he,A7 he,d1,d2,d3,nxH,A0]
    exact ⟨W,by rw [Acs hi e];exact hW,rfl,rfl⟩
   | true =>
    have e:Mh t n (s.has.getD i 0)=true:=by rw [hy];simp only [Mh,Int.toNat_natCast,d1,d2,d3];rfl
    simp only [go_sem,↓reduceIte,p3,p4,p5,p8,h6,h7,h8,hf,hi,g2,he,A7 he,d1,d2,d3,nxH,A0,b1,Du,List.length_append,length_map]
    exact ⟨W++[(y:Int)],by rw [Apm hi e,hW,hy],by simp,rfl⟩
  .rintro F h ⟨p3,p4,p5,p8,h6,h7,W,hW,h8,rfl⟩
   rw [<- hW]
   cases d0:decide (W.length=0) with
   | true =>
    have hq:=of_decide_eq_true d0
    have ho:decide ((W.length:Int)=0)=true:=decide_eq_true (by omega)
    rw [if_pos hq,CP]
    simp only [go_sem,↓reduceIte,p3,p4,p5,p8,h6,h7,h8,d0,ho,nxH,Yk]
    rfl
   | false =>
    have hq:=of_decide_eq_false d0
    have ho:decide ((W.length:Int)=0)=false:=decide_eq_false (by omega)
    rw [if_neg hq]
    have r2:=Gw (e:=none) (a:=b) (l:=W.length) (by omega)
    have hr:b % W.length < W.length:=Nat.mod_lt _ (by omega)
    have g3:=Ar hr
    obtain ⟨x,hx⟩:∃ x,x=W.getD (b % W.length) 0:=⟨_,rfl⟩
    rw [<- hx] at g3 ⊢
    have q1:=G8 (ty:=AO) (e:=1) (rows:=W.map eI) (by rw [length_map];omega)
    have h2:=fun (Q:VV->Prop)=>Rm C t ht s hs ⟨hz.1,hz.2.1⟩ n x (Q:=Q)
    cases hm:JZ t s n x with
    | none =>
     rw [hm,CP] at h2
     rw [CP]
     simp only [go_sem,↓reduceIte,p3,p4,p5,p8,h6,h7,h8,d0,ho,r2,g3,hr,q1,h2,nxH,Yk,length_map]
     rfl
    | some s' =>
     rw [hm,Cq] at h2
     rw [Cq]
     simp only [go_sem,↓reduceIte,p3,p4,p5,p8,h6,h7,h8,d0,ho,r2,g3,hr,q1,h2,nxH,length_map]
  .simp only [go_sem,↓reduceIte]
  .simp only [go_sem,↓reduceIte]
   exact ⟨[],rfl,rfl,rfl⟩
 | false =>
 have q4:=of_decide_eq_false c2
 rw [if_neg q4]
 have c3:(t.at n).kind=3:=by omega
 obtain ⟨l0,l1⟩:=ht.wloc h0 (.inr c3)
 obtain ⟨loc,h1⟩:=Int.eq_ofNat_of_zero_le l0
 have hc:loc < s.mo.length:=by have:=hg.big.mo;omega
 simp only [h1,Int.toNat_natCast]
 obtain ⟨L,hL⟩:∃ L,L=s.mo.getD loc []:=⟨_,rfl⟩
 have gL:=C1 hc
 rw [<- hL] at gL ⊢
 have hm:=hs.mi' loc
 rw [<- hL] at hm
 have q7:0 < L.length:=by
  have:=(hg.big.mi _ (Ai (d:=[]) hc)).1
  rw [<- hL] at this
  cases L with
  | nil=>exact absurd rfl this
  | cons _ _=>simp
 have r3:Bk .rem none (.i .i64 (b:Int)) (.i .i64 3)=some (.i .i64 ((b % 3:Nat):Int)):=Gw (l:=3) (by omega)
 have q3:Bk .quo none (.i .i64 (b:Int)) (.i .i64 3)=some (.i .i64 ((b / 3:Nat):Int)):=RE (l:=3) (by omega) (by omega)
 have r4:=Gw (e:=none) (a:=b / 3) (l:=L.length) q7
 have r5:=fun h=>Gw (e:=none) (a:=b / 3) (l:=L.length - 1) h
 have q8:=Nat.div_le_self b 3
 have qc:=Nat.mod_le (b / 3) L.length
 have w4:IntKind.i64.wrap (1+((b / 3 % L.length:Nat):Int))=((1+b / 3 % L.length:Nat):Int):=by rw [Az (by omega) (by omega)];omega
 have hw:=fun (Q:VV->Prop)=>Pl C t ht s hs n ((1+b / 3 % L.length:Nat):Int) (Q:=Q)
 have bw:b / 3 % L.length<=1000:=by omega
 cases c5:decide (b % 3=0/\1 < L.length) with
 | false =>
  rw [if_neg (of_decide_eq_false c5)]
  have q0:=of_decide_eq_false c5
  cases hm:EM t s n ((1+b / 3 % L.length:Nat):Int) with
  | none =>
   rw [hm,CP] at hw
   rw [CP]
   cases d1:decide (((b % 3:Nat):Int)=0) with
   | false =>
    simp only [Jg,go_sem,↓reduceIte,h5,c0,h3,r1,g1,h4,h0,A7 h0,c4,c2,h1,hc,gL,r3,q3,r4,w4,d1,hw,Yk,length_map,A0]
    rfl
   | true =>
    have q6:=of_decide_eq_true d1
    have d2:decide (1 < (L.length:Int))=false:=decide_eq_false (by omega)
    simp only [Jg,go_sem,↓reduceIte,h5,c0,h3,r1,g1,h4,h0,A7 h0,c4,c2,h1,hc,gL,r3,q3,r4,w4,d1,d2,hw,Yk,length_map,A0]
    rfl
  | some s' =>
   rw [hm,Cq] at hw
   rw [Cq]
   cases d1:decide (((b % 3:Nat):Int)=0) with
   | false =>
    simp only [Jg,go_sem,↓reduceIte,h5,c0,h3,r1,g1,h4,h0,A7 h0,c4,c2,h1,hc,gL,r3,q3,r4,w4,d1,hw,length_map,A0]
   | true =>
    have q6:=of_decide_eq_true d1
    have d2:decide (1 < (L.length:Int))=false:=decide_eq_false (by omega)
    simp only [Jg,go_sem,↓reduceIte,h5,c0,h3,r1,g1,h4,h0,A7 h0,c4,c2,h1,hc,gL,r3,q3,r4,w4,d1,d2,hw,length_map,A0]
 | true =>
  have q0:=of_decide_eq_true c5
  rw [if_pos q0]
  have d1:decide (((b % 3:Nat):Int)=0)=true:=decide_eq_true (by omega)
  have d2:decide (1 < (L.length:Int))=true:=decide_eq_true (by omega)
  have w1:IntKind.i64.wrap ((L.length:Int) - 1)=((L.length - 1:Nat):Int):=by rw [Az (by omega) (by omega)];omega
  have r5:=Gw (e:=none) (a:=b / 3) (l:=L.length - 1) (by omega)
  have hv:=Nat.mod_le (b / 3) (L.length - 1)
  have w5:IntKind.i64.wrap (1+((b / 3 % (L.length - 1):Nat):Int))=((1+b / 3 % (L.length - 1):Nat):Int):=by
   generalize b / 3 % (L.length - 1)=z at hv ⊢
   rw [Az (by omega) (by omega)];omega
  have hh:=fun (Q:VV->Prop)=>A7u C t ht s hs hz n ((1+b / 3 % (L.length - 1):Nat):Int) (Q:=Q)
  cases hj:P9 t s n ((1+b / 3 % (L.length - 1):Nat):Int) with
  | some s' =>
   rw [hj,Cq] at hh
   simp only [Cq]
   simp only [Jg,go_sem,↓reduceIte,h5,c0,h3,r1,g1,h4,h0,A7 h0,c4,c2,h1,hc,gL,r3,q3,r5,w5,w1,d1,d2,hh,length_map,A0]
  | none =>
   rw [hj,CP] at hh
   simp only
   cases hm:EM t s n ((1+b / 3 % L.length:Nat):Int) with
   | none =>
    rw [hm,CP] at hw
    rw [CP]
    simp only [Jg,go_sem,↓reduceIte,h5,c0,h3,r1,g1,h4,h0,A7 h0,c4,c2,h1,hc,gL,r3,q3,r4,w4,r5,w5,w1,d1,d2,hh,hw,Yk,length_map,A0]
    rfl
   | some s' =>
    rw [hm,Cq] at hw
    rw [Cq]
    simp only [Jg,go_sem,↓reduceIte,h5,c0,h3,r1,g1,h4,h0,A7 h0,c4,c2,h1,hc,gL,r3,q3,r4,w4,r5,w5,w1,d1,d2,hh,hw,Yk,length_map,A0]
end
def grH (s:A6):VH:=[some ⟨Af,0,0,false,[[.nl,.nl,.nl]]⟩,some ⟨Af,0,0,false,[Je s]⟩]
end Go.AM
