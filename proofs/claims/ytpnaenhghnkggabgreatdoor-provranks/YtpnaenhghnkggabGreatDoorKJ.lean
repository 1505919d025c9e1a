/-
  Own work, part of the proof of these laws: what functions compute.
-/
import Derived.Test.YtpnaenhghnkggabGreatDoorKI
set_option maxRecDepth 10000
set_option maxHeartbeats 64000000
set_option linter.unusedVariables false
set_option linter.unusedSimpArgs false
set_option linter.unusedSectionVars false
set_option linter.unnecessarySimpa false
open Bool (and_eq_true or_eq_true not_eq_true')
open Int (toNat_natCast)
open List (length_map mem_filter mem_range)
namespace Go.AM
open Go Go.Proofs
theorem Dk {e:Option Pl} {a l:Nat} (h:0 < l):B5 .rem e (.i .i64 (a:Int)) (.i .i64 (l:Int))=some (.i .i64 ((a % l:Nat):Int)):=by
 rw [GR (by omega),Int.tmod_eq_emod_of_nonneg (by omega),Int.natCast_emod]
theorem Ad9 {e:Option Pl} {a l:Nat} (h:0 < l) (ha:a<=1000000):B5 .quo e (.i .i64 (a:Int)) (.i .i64 (l:Int))=some (.i .i64 ((a / l:Nat):Int)):=by
 have:=Nat.div_le_self a l
 have w:IntKind.i64.wrap ((a / l:Nat):Int)=((a / l:Nat):Int):=by
  generalize a / l=q at this ⊢
  exact Av (by omega) (by omega)
 rw [Ad3 (by omega),Int.tdiv_eq_ediv_of_nonneg (by omega),<- Int.natCast_ediv,w]
theorem Cy (s:A6):HS (some s) = .tu [Eu s,.b true]:=rfl
theorem Cj:HS none = .tu [Eu Pp,.b false]:=rfl
def nxH (n:AJ) (W:List Int):VH:=[some ⟨Ae,0,0,false,[[.nl,.nl,.nl]]⟩,some ⟨BW,0,0,false,[eN n]⟩,some (AX AO 1 (W.map eI))]
section
variable {V:Am} (C:Ap V) {Q:VV->Prop}
include C
theorem P6 (t:A2) (ht:A9 t) (s:A6) {k:Nat} (hg:Gr t s k) (hk:k<=90) (a b:Nat) (ha:a < 256) (hb:b < 256):VP V AbH [vT t,Eu s,.i .i64 a,.i .i64 b] Q↔Q (HS (K8 t s a b)):=by
 have hs:=hg.sz ht (by omega)
 have hz:=hg.sz' (by omega)
 refine Ad ?_
 rw [Ab C.c_z27.1 C.c_z27.2]
 have qa:=ht.n64
 have h5:=fun (Q:VV->Prop)=>A07 C t ht s hs (Q:=Q)
 unfold K8
 obtain ⟨l,hl⟩:∃ l,l=Gy t s t.nodes.length:=⟨_,rfl⟩
 rw [<- hl] at h5 ⊢
 simp only
 cases c0:decide (l.length=0) with
 | true =>
  have hp:=of_decide_eq_true c0
  have h3:decide ((l.length:Int)=0)=true:=decide_eq_true (by omega)
  rw [if_pos hp,Cj]
  simp only [Ju,go_sem,↓reduceIte,h5,c0,h3,Pp,length_map]
  rfl
 | false =>
 have hp:=of_decide_eq_false c0
 have h3:decide ((l.length:Int)=0)=false:=decide_eq_false (by omega)
 rw [if_neg hp]
 have r1:=Dk (e:=none) (a:=a) (l:=l.length) (by omega)
 have h4:a % l.length < l.length:=Nat.mod_lt _ (by omega)
 obtain ⟨n,hn,h0,hd⟩:=A7F (show l.getD (a % l.length) 0∈Gy t s t.nodes.length from by rw [<- hl];exact Ac h4)
 have g1:=Ak h4
 rw [hn] at g1 ⊢
 rw [toNat_natCast]
 have q9:0<=(t.at n).up:=by simp only [Er,and_eq_true,decide_eq_true_eq] at hd;exact hd.1.1
 have q2:=ht.kind h0 q9
 cases c4:decide ((t.at n).kind=4) with
 | true =>
  rw [if_pos (of_decide_eq_true c4)]
  have h9:=fun (Q:VV->Prop)=>A0F C t ht s hs n (Q:=Q)
  cases hm:DJ t s n 4 (-1) with
  | none =>
   rw [hm,Cj] at h9
   rw [Cj]
   simp only [Ju,go_sem,↓reduceIte,h5,c0,h3,r1,g1,h4,h0,A5 h0,c4,h9,Pp,length_map,A0]
   rfl
  | some s' =>
   rw [hm,Cy] at h9
   rw [Cy]
   simp only [Ju,go_sem,↓reduceIte,h5,c0,h3,r1,g1,h4,h0,A5 h0,c4,h9,length_map,A0]
 | false =>
 have q5:=of_decide_eq_false c4
 rw [if_neg q5]
 cases c2:decide ((t.at n).kind=2) with
 | true =>
  rw [if_pos (of_decide_eq_true c2)]
  have qb:=hs.has
  simp only [Ju,go_sem,↓reduceIte,h5,c0,h3,r1,g1,h4,h0,A5 h0,c4,c2,length_map,A0]
  refine Aa (by decide) s.has.length (by omega) (I:=fun i F h=>A3.tmp F 3 = .i .i64 b/\A3.tmp F 4 = .fp (eT t) 0/\A3.tmp F 5 = .fp (EX s) 0/\A3.tmp F 8 = .p 0 0 0 0/\A3.tmp F 11 = .i .i64 n/\A3.tmp F 12 = .p 1 0 0 0/\∃ W,W=Sw t s n i/\A3.tmp F 13 = .sl 2 W.length 0 W.length/\h=nxH (t.at n) W) ?_ ?_ ?_ 0 _ _ (Nat.zero_le _) ?_ ?_
  .rintro i F h hi hf ⟨p3,p4,p5,p8,h6,h7,W,hW,h8,rfl⟩
   simp only [go_sem,↓reduceIte,p3,p4,p5,p8,h6,h7,h8,hf]
   exact ⟨W,hW,rfl,rfl⟩
  .rintro i F h hi hf ⟨p3,p4,p5,p8,h6,h7,W,hW,h8,rfl⟩
   have hu:=AcN (t:=t) (s:=s) (n:=n) i
   rw [<- hW] at hu
   have b1:(W.length+1) * 8<=A8:=by unfold A8;omega
   obtain ⟨y,hy,he⟩:=A7 (hg.ok _ (Ac hi))
   have g2:=Ak hi
   rw [hy] at g2
   cases d1:decide ((t.at y).kind=3) with
   | false =>
    have e:JY t n (s.has.getD i 0)=false:=by rw [hy];simp only [JY,toNat_natCast,d1];rfl
    simp only [go_sem,↓reduceIte,p3,p4,p5,p8,h6,h7,h8,hf,hi,g2,he,A5 he,d1,nxH,A0]
    exact ⟨W,by rw [A4u hi e];exact hW,rfl,rfl⟩
   | true =>
   cases d2:decide ((t.at y).loc=(t.at n).loc) with
   | false =>
    have e:JY t n (s.has.getD i 0)=false:=by rw [hy];simp only [JY,toNat_natCast,d1,d2];rfl
    simp only [go_sem,↓reduceIte,p3,p4,p5,p8,h6,h7,h8,hf,hi,g2,he,A5 he,d1,d2,nxH,A0]
    exact ⟨W,by rw [A4u hi e];exact hW,rfl,rfl⟩
   | true =>
   cases d3:decide ((t.at y).val=(t.at n).val) with
   | false =>
    have e:JY t n (s.has.getD i 0)=false:=by rw [hy];simp only [JY,toNat_natCast,d1,d2,d3];rfl
    simp only [go_sem,↓reduceIte,p3,p4,p5,p8,h6,h7,h8,hf,hi,g2,he,A5 he,d1,d2,d3,nxH,A0]
    exact ⟨W,by rw [A4u hi e];exact hW,rfl,rfl⟩
   | true =>
    have e:JY t n (s.has.getD i 0)=true:=by rw [hy];simp only [JY,toNat_natCast,d1,d2,d3];rfl
    simp only [go_sem,↓reduceIte,p3,p4,p5,p8,h6,h7,h8,hf,hi,g2,he,A5 he,d1,d2,d3,nxH,A0,b1,D2,List.length_append,length_map]
    exact ⟨W++[(y:Int)],by rw [Ajy hi e,hW,hy],by simp,rfl⟩
  .rintro F h ⟨p3,p4,p5,p8,h6,h7,W,hW,h8,rfl⟩
   rw [<- hW]
   cases d0:decide (W.length=0) with
   | true =>
    have hq:=of_decide_eq_true d0
    have ho:decide ((W.length:Int)=0)=true:=decide_eq_true (by omega)
    rw [if_pos hq,Cj]
    simp only [go_sem,↓reduceIte,p3,p4,p5,p8,h6,h7,h8,d0,ho,nxH,Pp]
    rfl
   | false =>
    have hq:=of_decide_eq_false d0
    have ho:decide ((W.length:Int)=0)=false:=decide_eq_false (by omega)
    rw [if_neg hq]
    have r2:=Dk (e:=none) (a:=b) (l:=W.length) (by omega)
    have hr:b % W.length < W.length:=Nat.mod_lt _ (by omega)
    have g3:=Ak hr
    obtain ⟨x,hx⟩:∃ x,x=W.getD (b % W.length) 0:=⟨_,rfl⟩
    rw [<- hx] at g3 ⊢
    have q1:=H9 (ty:=AO) (e:=1) (rows:=W.map eI) (by rw [length_map];omega)
    have h2:=fun (Q:VV->Prop)=>Yr C t ht s hs ⟨hz.1,hz.2.1⟩ n x (Q:=Q)
    cases hm:T8 t s n x with
    | none =>
     rw [hm,Cj] at h2
     rw [Cj]
     simp only [go_sem,↓reduceIte,p3,p4,p5,p8,h6,h7,h8,d0,ho,r2,g3,hr,q1,h2,nxH,Pp,length_map]
     rfl
    | some s' =>
     rw [hm,Cy] at h2
     rw [Cy]
     simp only [go_sem,↓reduceIte,p3,p4,p5,p8,h6,h7,h8,d0,ho,r2,g3,hr,q1,h2,nxH,length_map]
  .simp only [go_sem,↓reduceIte]
  .simp only [go_sem,↓reduceIte]
   exact ⟨[],rfl,rfl,rfl⟩
 | false =>
 have q4:=of_decide_eq_false c2
 rw [if_neg q4]
 have c3:(t.at n).kind=3:=by omega
 obtain ⟨l0,l1⟩:=ht.wloc h0 (.inr c3)
 obtain ⟨loc,h1⟩:=Int.eq_ofNat_of_zero_le l0
 have hc:loc < s.mo.length:=by have:=hg.big.mo;omega
 simp only [h1,toNat_natCast]
 obtain ⟨L,hL⟩:∃ L,L=s.mo.getD loc []:=⟨_,rfl⟩
 have gL:=BP hc
 rw [<- hL] at gL ⊢
 have hm:=hs.mi' loc
 rw [<- hL] at hm
 have q7:0 < L.length:=by
  have:=(hg.big.mi _ (Ac (d:=[]) hc)).1
  rw [<- hL] at this
  cases L with
  | nil=>exact absurd rfl this
  | cons _ _=>simp
 have r3:B5 .rem none (.i .i64 (b:Int)) (.i .i64 3)=some (.i .i64 ((b % 3:Nat):Int)):=Dk (l:=3) (by omega)
 have q3:B5 .quo none (.i .i64 (b:Int)) (.i .i64 3)=some (.i .i64 ((b / 3:Nat):Int)):=Ad9 (l:=3) (by omega) (by omega)
 have r4:=Dk (e:=none) (a:=b / 3) (l:=L.length) q7
 have r5:=fun h=>Dk (e:=none) (a:=b / 3) (l:=L.length - 1) h
 have q8:=Nat.div_le_self b 3
 have qc:=Nat.mod_le (b / 3) L.length
 have w4:IntKind.i64.wrap (1+((b / 3 % L.length:Nat):Int))=((1+b / 3 % L.length:Nat):Int):=by rw [Av (by omega) (by omega)];omega
 have hw:=fun (Q:VV->Prop)=>Si C t ht s hs n ((1+b / 3 % L.length:Nat):Int) (Q:=Q)
 have bw:b / 3 % L.length<=1000:=by omega
 cases c5:decide (b % 3=0/\1 < L.length) with
 | false =>
  rw [if_neg (of_decide_eq_false c5)]
  have q0:=of_decide_eq_false c5
  cases hm:M7 t s n ((1+b / 3 % L.length:Nat):Int) with
  | none =>
   rw [hm,Cj] at hw
   rw [Cj]
   cases d1:decide (((b % 3:Nat):Int)=0) with
   | false =>
    simp only [Ju,go_sem,↓reduceIte,h5,c0,h3,r1,g1,h4,h0,A5 h0,c4,c2,h1,hc,gL,r3,q3,r4,w4,d1,hw,Pp,length_map,A0]
    rfl
   | true =>
    have q6:=of_decide_eq_true d1
    have d2:decide (1 < (L.length:Int))=false:=decide_eq_false (by omega)
    simp only [Ju,go_sem,↓reduceIte,h5,c0,h3,r1,g1,h4,h0,A5 h0,c4,c2,h1,hc,gL,r3,q3,r4,w4,d1,d2,hw,Pp,length_map,A0]
    rfl
  | some s' =>
   rw [hm,Cy] at hw
   rw [Cy]
   cases d1:decide (((b % 3:Nat):Int)=0) with
   | false =>
    simp only [Ju,go_sem,↓reduceIte,h5,c0,h3,r1,g1,h4,h0,A5 h0,c4,c2,h1,hc,gL,r3,q3,r4,w4,d1,hw,length_map,A0]
   | true =>
    have q6:=of_decide_eq_true d1
    have d2:decide (1 < (L.length:Int))=false:=decide_eq_false (by omega)
    simp only [Ju,go_sem,↓reduceIte,h5,c0,h3,r1,g1,h4,h0,A5 h0,c4,c2,h1,hc,gL,r3,q3,r4,w4,d1,d2,hw,length_map,A0]
 | true =>
  have q0:=of_decide_eq_true c5
  rw [if_pos q0]
  have d1:decide (((b % 3:Nat):Int)=0)=true:=decide_eq_true (by omega)
  have d2:decide (1 < (L.length:Int))=true:=decide_eq_true (by omega)
  have w1:IntKind.i64.wrap ((L.length:Int) - 1)=((L.length - 1:Nat):Int):=by rw [Av (by omega) (by omega)];omega
  have r5:=Dk (e:=none) (a:=b / 3) (l:=L.length - 1) (by omega)
  have hv:=Nat.mod_le (b / 3) (L.length - 1)
  have w5:IntKind.i64.wrap (1+((b / 3 % (L.length - 1):Nat):Int))=((1+b / 3 % (L.length - 1):Nat):Int):=by
   generalize b / 3 % (L.length - 1)=z at hv ⊢
   rw [Av (by omega) (by omega)];omega
  have hh:=fun (Q:VV->Prop)=>Yq C t ht s hs hz n ((1+b / 3 % (L.length - 1):Nat):Int) (Q:=Q)
  cases hj:SS t s n ((1+b / 3 % (L.length - 1):Nat):Int) with
  | some s' =>
   rw [hj,Cy] at hh
   simp only [Cy]
   simp only [Ju,go_sem,↓reduceIte,h5,c0,h3,r1,g1,h4,h0,A5 h0,c4,c2,h1,hc,gL,r3,q3,r5,w5,w1,d1,d2,hh,length_map,A0]
  | none =>
   rw [hj,Cj] at hh
   simp only
   cases hm:M7 t s n ((1+b / 3 % L.length:Nat):Int) with
   | none =>
    rw [hm,Cj] at hw
    rw [Cj]
    simp only [Ju,go_sem,↓reduceIte,h5,c0,h3,r1,g1,h4,h0,A5 h0,c4,c2,h1,hc,gL,r3,q3,r4,w4,r5,w5,w1,d1,d2,hh,hw,Pp,length_map,A0]
    rfl
   | some s' =>
    rw [hm,Cy] at hw
    rw [Cy]
    simp only [Ju,go_sem,↓reduceIte,h5,c0,h3,r1,g1,h4,h0,A5 h0,c4,c2,h1,hc,gL,r3,q3,r4,w4,r5,w5,w1,d1,d2,hh,hw,Pp,length_map,A0]
end
def grH (s:A6):VH:=[some ⟨Ae,0,0,false,[[.nl,.nl,.nl]]⟩,some ⟨Ae,0,0,false,[EX s]⟩]
section
variable {V:Am} (C:Ap V) {Q:VV->Prop}
include C
theorem WT (t:A2) (ht:A9 t) (m:List U8) (hl:m.length<=100) (hm:∀ x∈m,x.n < 256):VP V AbZ [vT t,lU m,.b false] Q↔Q (Eu (Gz t m (m.length / 2))):=by
 refine Ad ?_
 rw [Ab C.c_z7.1 C.c_z7.2]
 simp only [AhP,go_sem,↓reduceIte,Ls C t ht]
 unfold VL
 rw [A0]
 refine AA (M:=Nat) (I:=fun k F h=>2 * k<=m.length/\A3.tmp F 1=lU m/\A3.tmp F 2 = .b false/\A3.tmp F 3 = .fp (eT t) 0/\A3.tmp F 6 = .p 0 0 0 0/\A3.tmp F 7 = .p 1 0 0 0/\A3.tmp F 8 = .i .i64 ((2 * k:Nat):Int)/\h=grH (Gz t m k)) (μ:=fun k=>m.length - 2 * k) ?_ 0 _ _ ⟨by omega,?_,?_,?_,?_,?_,?_,?_⟩
 .rintro k F h ⟨hk,p1,p2,p3,p6,p7,p8,rfl⟩
  have w1:IntKind.i64.wrap (((2 * k:Nat):Int)+1)=((2 * k+1:Nat):Int):=by rw [Av (by omega) (by omega)];omega
  have w2:IntKind.i64.wrap (((2 * k:Nat):Int)+2)=((2 * (k+1):Nat):Int):=by rw [Av (by omega) (by omega)];omega
  by_cases c:2 * k+1 < m.length
  .have ci:decide (((2 * k+1:Nat):Int) < (m.length:Int))=true:=decide_eq_true (by omega)
   have c0:2 * k < m.length:=by omega
   have g0:=Aec c0
   have g1:=Aec c
   have b0:=TP hm (2 * k)
   have b1:=TP hm (2 * k+1)
   have v0:IntKind.i64.wrap ((NU m (2 * k):Nat):Int)=((NU m (2 * k):Nat):Int):=Av (by omega) (by omega)
   have v1:IntKind.i64.wrap ((NU m (2 * k+1):Nat):Int)=((NU m (2 * k+1):Nat):Int):=Av (by omega) (by omega)
   have hn:=fun (Q:VV->Prop)=>P6 C t ht (Gz t m k) (Uu ht m k) (by omega) _ _ b0 b1 (Q:=Q)
   cases e:K8 t (Gz t m k) (NU m (2 * k)) (NU m (2 * k+1)) with
   | none =>
    rw [e,Cj] at hn
    simp only [P1,go_sem,↓reduceIte,p1,p2,p3,p6,p7,p8,w1,w2,ci,c0,c,g0,g1,v0,v1,hn,grH,Pp,A0]
    exact ⟨k+1,by omega,by omega,by rw [SP e];exact ⟨rfl,rfl⟩⟩
   | some s' =>
    rw [e,Cy] at hn
    simp only [P1,go_sem,↓reduceIte,p1,p2,p3,p6,p7,p8,w1,w2,ci,c0,c,g0,g1,v0,v1,hn,grH,A0]
    exact ⟨k+1,by omega,by omega,by rw [SQ e];exact ⟨rfl,rfl⟩⟩
  .have ci:decide (2 * k+1 < m.length)=false:=decide_eq_false (by omega)
   have e:k=m.length / 2:=by omega
   simp only [P1,go_sem,↓reduceIte,p1,p2,p3,p6,p7,p8,w1,w2,ci,grH,A0]
   rw [e]
 .simp only [go_sem,↓reduceIte]
 .simp only [go_sem,↓reduceIte]
 .simp only [go_sem,↓reduceIte]
 .simp only [go_sem,↓reduceIte]
 .simp only [go_sem,↓reduceIte]
 .simp only [go_sem,↓reduceIte]
 .rfl
end
structure Ext (t:A2) (s s':A6):Prop where
 has:∀ n,n∈s.has->n∈s'.has
 on:∀ n,n∈s.has->Ed s'.has s'.jf n=Ed s.has s.jf n
 place:∀ (loc v w:Int),v∈s.has->w∈s.has->(BQ s loc v < BQ s loc w↔BQ s' loc v < BQ s' loc w)
theorem Ext.trans {t:A2} {a b c:A6} (h:Ext t a b) (k:Ext t b c):Ext t a c :=
 ⟨fun n hn=>k.has n (h.has n hn),fun n hn=>(k.on n (h.has n hn)).trans (h.on n hn),fun loc v w hv hw=>(h.place loc v w hv hw).trans (k.place loc v w (h.has v hv) (h.has w hw))⟩
theorem EO.mono {p q:Nat->Nat->Bool} {N a b:Nat} (i:∀ a b,p a b=true->q a b=true) (h:EO p N a b):EO q N a b:=by
 induction h with
 | one hb h=>exact .one hb (i _ _ h)
 | more _ hc h ih=>exact .more ih hc (i _ _ h)
def okJ (t:A2) (has:List Int) (n w:Int):Bool :=
 if (t.at n.toNat).kind=2 then B9 has w && GY t w (t.at n.toNat).loc && decide ((t.at w.toNat).val=(t.at n.toNat).val) else decide (w = -1)
structure Bg (t:A2) (s:A6):Prop where
 node:∀ n∈s.has,BU t n=true
 up:∀ n∈s.has,(t.at n.toNat).up < 0\/(t.at n.toNat).up∈s.has
 ris:s.has.Pairwise (· < ·)
 init:GA t ||| CP s.has=CP s.has
 jl:s.jf.length=s.has.length
 just:∀ i,i < s.has.length->okJ t s.has (s.has.getD i 0) (s.jf.getD i 0)=true
 ml:s.mo.length=t.locs.length
 mo:∀ loc,loc < s.mo.length->GI t s loc=true
 once:∀ n∈s.has,(t.at n.toNat).kind=3->((s.mo.getD (t.at n.toNat).loc.toNat []).filter fun c=>B9 c n).length=1
theorem A6R {l:List Int}:(∀ i,i < l.length->CN l i=true)↔l.Pairwise (· < ·):=by
 constructor
 .intro h
  rw [List.pairwise_iff_getElem]
  have h0:∀ d i,i+d+1 < l.length->l.getD i 0 < l.getD (i+d+1) 0:=by
   intro d
   induction d with
   | zero =>
    intro i hi
    have:=h (i+1) (by omega)
    simpa [CN] using this
   | succ d ih =>
    intro i hi
    have h1:=ih i (by omega)
    have:=h (i+d+1+1) (by omega)
    simp only [CN,Nat.add_one_sub_one,or_eq_true,decide_eq_true_eq] at this
    rcases this with h2 | h2
    .omega
    .exact Int.lt_trans h1 h2
  intro i j hi hj h3
  have:=h0 (j - i - 1) i (by omega)
  rw [show i+(j - i - 1)+1=j by omega] at this
  simpa [List.getD_eq_getElem?_getD,hi,hj] using this
 .intro h i hi
  rw [List.pairwise_iff_getElem] at h
  simp only [CN,or_eq_true,decide_eq_true_eq]
  rcases Nat.eq_zero_or_pos i with c | c
  .exact .inl c
  .refine .inr ?_
   have:=h (i - 1) i (by omega) hi (by omega)
   simpa [List.getD_eq_getElem?_getD,hi,show i - 1 < l.length by omega] using this
theorem AY {t:A2} {s:A6}:Bd t s=true↔Bg t s:=by
 have e:∀ i,GD t s i=okJ t s.has (s.has.getD i 0) (s.jf.getD i 0):=fun _=>rfl
 have h0:∀ {p:Int->Prop},(∀ i,i < s.has.length->p (s.has.getD i 0))↔∀ n∈s.has,p n:=by
  intro p
  constructor
  .intro h n hn
   obtain ⟨i,hi,rfl⟩:=List.getElem_of_mem hn
   have:=h i hi
   rwa [List.getD_eq_getElem?_getD,List.getElem?_eq_getElem hi] at this
  .intro h i hi
   exact h _ (Ac hi)
 constructor
 .intro h
  simp only [Bd,C8,C6,Kd,e,and_eq_true,or_eq_true,not_eq_true',decide_eq_true_eq,decide_eq_false_iff_not,Aw,Af] at h
  obtain ⟨⟨⟨⟨⟨⟨h1,h2⟩,h3⟩,h4⟩,h5⟩,h6⟩,h7⟩:=h
  exact ⟨h0.1 fun i hi=>(h1 i hi).1.1,h0.1 fun i hi=>(h1 i hi).2,A6R.1 fun i hi=>(h1 i hi).1.2,h2,h3,h5,h4,h6,h0.1 fun i hi k=>by
   rcases h7 i hi with h | h
   .exact absurd k h
   .exact h⟩
 .intro h
  simp only [Bd,C8,C6,Kd,e,and_eq_true,or_eq_true,not_eq_true',decide_eq_true_eq,decide_eq_false_iff_not,Aw,Af]
  refine ⟨⟨⟨⟨⟨⟨fun i hi=>⟨⟨h0.2 h.node i hi,A6R.2 h.ris i hi⟩,h0.2 h.up i hi⟩,h.init⟩,h.jl⟩,h.ml⟩,h.just⟩,h.mo⟩,fun i hi=>?_⟩
  by_cases k:(t.at (s.has.getD i 0).toNat).kind=3
  .exact .inr (h.once _ (Ac hi) k)
  .exact .inl k
section
variable {t:A2} (ht:A9 t) {s s':A6} {n:Nat} (E:Ext t s s') (hF:CR t s.has s.jf) (hF':CR t s'.has s'.jf) (up:∀ n,n∈s.has->(t.at n.toNat).up < 0\/(t.at n.toNat).up∈s.has)
 (new:∀ x,x∈s'.has->x=(n:Int)\/x∈s.has) (hno:(n:Int)∉s.has) (fr:∀ b:Nat,(b:Int)∈s.has->Ah t n b=false) (onN:(t.at n).kind=2->Ed s'.has s'.jf n∈s.has)
include ht E hF hF' up new hno fr onN
end
def AaM (s:A6) (loc:Nat):Int:=((s.mo.getD loc []).getD ((s.mo.getD loc []).length - 1) []).getD 0 0
structure WI (t:A2) (s:A6) (mem:List Int) (k:Nat):Prop where
 gr:Gr t s k
 kl:k<=s.has.length
 form:Bg t s
 coh:L3 t s=true
 one:∀ loc,loc < s.mo.length->∀ c∈s.mo.getD loc [],∃ w:Nat,c=[(w:Int)]/\(w:Int)∈s.has/\(t.at w).kind=3/\(t.at w).loc=loc
 ml:mem.length=t.locs.length
 mem:∀ loc,loc < t.locs.length->mem.getD loc 0=(t.at (AaM s loc).toNat).val
theorem Bg.len {t:A2} {s:A6} (h:Bg t s):s.has.length<=t.nodes.length:=by
 have hd:s.has.Nodup:=h.ris.imp fun h=>by omega
 have:=Lm s.has ((List.range t.nodes.length).map fun (i:Nat)=>(i:Int)) hd (fun x hx=>by
  obtain ⟨m,rfl,hm⟩:=A7 (h.node x hx)
  exact List.mem_map.2 ⟨m,List.mem_range.2 hm,rfl⟩)
 simpa using this
theorem WI.pos {t:A2} {s:A6} {mem:List Int} {k:Nat} (W:WI t s mem k) {loc:Nat} (hl:loc < s.mo.length):0 < (s.mo.getD loc []).length:=by
 have:=(W.gr.big.mi _ (Ac (d:=[]) hl)).1
 exact List.length_pos_iff.2 this
theorem WI.last {t:A2} {s:A6} {mem:List Int} {k:Nat} (W:WI t s mem k) {loc:Nat} (hl:loc < s.mo.length) :
  ∃ w:Nat,AaM s loc=w/\(w:Int)∈s.has/\(t.at w).kind=3/\(t.at w).loc=loc/\BQ s loc w=((s.mo.getD loc []).length - 1:Nat):=by
 have hp:=W.pos hl
 have h0:(s.mo.getD loc []).length - 1 < (s.mo.getD loc []).length:=by omega
 obtain ⟨w,e,h1,h2,h3⟩:=W.one loc hl _ (Ac (d:=[]) h0)
 refine ⟨w,by rw [AaM,e];rfl,h1,h2,h3,?_⟩
 rw [BQ,if_neg (by omega),toNat_natCast]
 have ho:=W.form.once _ h1 (by rw [toNat_natCast];exact h2)
 rw [toNat_natCast,h3,toNat_natCast] at ho
 have e2:(s.mo.getD loc [])[(s.mo.getD loc []).length - 1]=[(w:Int)]:=by
  rw [<- e,List.getD_eq_getElem?_getD (l:=s.mo.getD loc []),List.getElem?_eq_getElem h0];rfl
 refine Dr h0 (by rw [e2];simp [B9]) (fun j hj=>?_)
 rw [Bool.eq_false_iff]
 intro hc
 obtain ⟨L,hL⟩:∃ L,L=s.mo.getD loc []:=⟨_,rfl⟩
 rw [<- hL] at ho hj h0 hp
 simp only [<- hL] at e2 hc
 have h4:L=L.take (j+1)++L.drop (j+1):=(List.take_append_drop _ _).symm
 rw [h4,List.filter_append,List.length_append] at ho
 have p1:0 < ((L.take (j+1)).filter fun c=>B9 c (w:Int)).length:=by
  refine List.length_pos_of_mem (a:=L[j]) (List.mem_filter.2 ⟨?_,hc⟩)
  rw [List.mem_take_iff_getElem]
  exact ⟨j,by omega,rfl⟩
 have p2:0 < ((L.drop (j+1)).filter fun c=>B9 c (w:Int)).length:=by
  refine List.length_pos_of_mem (a:=L[L.length - 1]) (List.mem_filter.2 ⟨?_,by rw [e2];simp [B9]⟩)
  rw [List.mem_drop_iff_getElem]
  exact ⟨L.length - 1 - (j+1),by omega,by congr 1;omega⟩
 omega
theorem GW.moreN {t:A2}:∀ {n u e:Nat},GW t n u e->u < e/\∀ m,u < m->m < e->0<=(t.at m).up/\((t.at m).rmw=true->(t.at m).kind=3):=by
 intro n
 induction n with
 | zero=>intro u e h;exact absurd h (by simp [GW])
 | succ n ih =>
  intro u e h
  obtain ⟨⟨_,ht,_⟩,h⟩:=h
  rcases h with ⟨_,_,rfl⟩ | ⟨c,_,_,al,hb⟩ | ⟨c,_,_,vals,k,loc,mode,_,hv0,hk0,hke,hloc,hs,_⟩
  .exact ⟨by omega,fun m h1 h2=>by omega⟩
  .have:=(ih hb).1
   refine ⟨by omega,fun m h1 h2=>?_⟩
   by_cases e1:m=u+1
   .subst e1
    refine ⟨by rw [(JS c).1];omega,fun hr=>?_⟩
    simp only [D5,or_eq_true,and_eq_true,decide_eq_true_eq,not_eq_true'] at al
    rcases al with h | h
    .rw [h.1.1.2] at hr;cases hr
    .exact h.1.1.1
   .exact (ih hb).2 m (by omega) h2
  .have mono:∀ v,v<=vals->k 0<=k v:=by
    intro v
    induction v with
    | zero=>intro _;omega
    | succ v iv=>intro hv;have:=iv (by omega);have:=(ih (hs v (by omega)).2.2).1;omega
   refine ⟨by have:=mono vals (by omega);omega,fun m h1 h2=>?_⟩
   obtain ⟨v,hv,a,b⟩:=Df (k:=k) (m:=m) vals (by omega) (by omega)
   obtain ⟨s1,s2,s3⟩:=hs v hv
   by_cases e1:m=k v
   .subst e1
    simp only [E5,and_eq_true,decide_eq_true_eq,not_eq_true'] at s2
    exact ⟨by rw [(JS s1).1];omega,fun hr=>by rw [s2.2] at hr;cases hr⟩
   .exact (ih s3).2 m (by omega) b
theorem A9.kinds {t:A2} (h:A9 t):∃ s:Nat->Nat,(∀ v,v < t.regs.length->s v < t.nodes.length/\t.locs.length<=s v/\(t.at (s v)).thread=v/\(t.at (s v)).up = -1/\(t.at (s v)).kind=1)/\(∀ m,m < t.nodes.length->m < t.locs.length\/(∃ v,v < t.regs.length/\m=s v)\/(0<=(t.at m).up/\((t.at m).rmw=true->(t.at m).kind=3))):=by
 obtain ⟨s,h0,he,hs⟩:=h.thr
 have mono:∀ d v,v+d<=t.regs.length->s v+d<=s (v+d):=by
  intro d
  induction d with
  | zero=>intro v _;simp
  | succ d ih =>
   intro v hv
   have:=ih v (by omega)
   obtain ⟨_,n,hn⟩:=hs (v+d) (by omega)
   have:=hn.moreN.1
   rw [Nat.add_assoc] at this
   omega
 refine ⟨s,fun v hv=>?_,fun m hm=>?_⟩
 .obtain ⟨hb,n,hn⟩:=hs v hv
  simp only [DT,and_eq_true,decide_eq_true_eq] at hb
  have a:=mono v 0 (by omega)
  have b:=mono (t.regs.length - v) v (by omega)
  rw [show v+(t.regs.length - v)=t.regs.length by omega] at b
  rw [Nat.zero_add] at a
  exact ⟨by omega,by omega,hb.1.1.1.1.1.1,hb.1.1.1.1.1.2,hb.1.1.1.1.2⟩
 .by_cases c:m < t.locs.length
  .exact .inl c
  .obtain ⟨v,hv,a,b⟩:=Df (k:=s) (m:=m) t.regs.length (by omega) (by omega)
   obtain ⟨hb,n,hn⟩:=hs v hv
   by_cases e1:m=s v
   .exact .inr (.inl ⟨v,hv,e1⟩)
   .exact .inr (.inr (hn.moreN.2 m (by omega) b))
theorem A9.top {t:A2} (h:A9 t) {m:Nat} (hm:m < t.nodes.length) (h0:0<=(t.at m).thread) (hu:(t.at m).up < 0):(t.at m).kind=1:=by
 obtain ⟨s,h1,h2⟩:=h.kinds
 rcases h2 m hm with c | ⟨v,hv,rfl⟩ | c
 .have:=(h.init m c).thr;omega
 .exact (h1 v hv).2.2.2.2
 .omega
theorem A9.tops {t:A2} (h:A9 t) {m k:Nat} (hm:m < t.nodes.length) (hk:k < t.nodes.length) (h0:0<=(t.at m).thread) (hu:(t.at m).up < 0) (huk:(t.at k).up < 0) (e:(t.at k).thread=(t.at m).thread):k=m:=by
 obtain ⟨s,h1,h2⟩:=h.kinds
 rcases h2 m hm with c | ⟨v,hv,rfl⟩ | c
 .have:=(h.init m c).thr;omega
 .rcases h2 k hk with c | ⟨w,hw,rfl⟩ | c
  .have:=(h.init k c).thr;omega
  .have a:=(h1 v hv).2.2.1
   have b:=(h1 w hw).2.2.1
   have:w=v:=by omega
   rw [this]
  .omega
 .omega
def at0 (t:A2) (k:Nat):List Nat:=(List.range k).filter fun i=>!decide ((t.at i).thread < 0) && decide ((t.at i).up < 0)
theorem EU {t:A2} {x:Int}:x∈(BF t).has↔∃ m:Nat,x=m/\m < t.nodes.length/\(t.at m).up < 0:=by
 simp only [BF,DM,List.mem_map,mem_filter,mem_range,decide_eq_true_eq]
 constructor
 .rintro ⟨i,⟨h1,h2⟩,rfl⟩;exact ⟨i,rfl,h1,h2⟩
 .rintro ⟨i,rfl,h1,h2⟩;exact ⟨i,⟨h1,h2⟩,rfl⟩
theorem N0 {t:A2} (h:A9 t) {m:Nat} (hm:m < t.nodes.length) (hu:(t.at m).up < 0):(m < t.locs.length/\(t.at m).kind=3)\/(t.locs.length<=m/\(t.at m).kind=1):=by
 by_cases c:m < t.locs.length
 .exact .inl ⟨c,(h.init m c).kind⟩
 .refine .inr ⟨by omega,h.top hm ?_ hu⟩
  have:=(h.thr_iff hm).1
  omega
theorem AgD {t:A2} {loc:Nat} (h:loc < t.locs.length):(BF t).mo.getD loc []=[[(loc:Int)]]:=by
 simp [BF,h]
theorem Q0 {t:A2} (h:A9 t):Bg t (BF t):=by
 refine ⟨fun n hn=>?_,fun n hn=>?_,?_,?_,?_,fun i hi=>?_,by simp [BF],fun loc hl=>?_,fun n hn kn=>?_⟩
 .obtain ⟨m,rfl,hm,_⟩:=EU.1 hn;exact Cl hm
 .obtain ⟨m,rfl,hm,hu⟩:=EU.1 hn;exact .inl hu
 .simp only [BF,DM,List.pairwise_map]
  exact (List.pairwise_lt_range.filter _).imp fun h=>by omega
 .apply BitVec.eq_of_getLsbD_eq
  intro i hi
  rw [BitVec.getLsbD_or,GA,AE]
  cases hc:(CP (BF t).has).getLsbD i with
  | true=>simp
  | false =>
   rw [Bool.or_false,Bool.eq_false_iff]
   intro hx
   simp only [and_eq_true,decide_eq_true_eq] at hx
   have:=PW (BF t).has (x:=(i:Int)) (by omega) (by omega)
   rw [AD,hc,Af.2 (EU.2 ⟨i,rfl,hx.1.1,hx.1.2⟩)] at this;cases this
 .simp [BF]
 .have hm:=Ac (d:=0) hi
  obtain ⟨m,e,hm,hu⟩:=EU.1 hm
  have hj:(BF t).jf.getD i 0 = -1:=by
   have h0:i < (DM t t.nodes.length).length:=hi
   simp [BF,h0]
  rw [e,hj]
  rcases N0 h hm hu with c | c<;>simp [okJ,c.2]
 .have h1:loc < t.locs.length:=by simpa [BF] using hl
  simp only [GI,AgD h1,and_eq_true,Aw]
  refine ⟨⟨rfl,by simp⟩,fun i hi=>?_⟩
  have:i=0:=by simp at hi;omega
  simp [this]
 .obtain ⟨m,rfl,hm,hu⟩:=EU.1 hn
  rw [toNat_natCast] at kn ⊢
  rcases N0 h hm hu with c | c
  .rw [(h.init m c.1).loc,toNat_natCast,AgD c.1];simp [B9]
  .omega
theorem AjA {t:A2} (h:A9 t):L3 t (BF t)=true:=by
 rw [L3,AY.2 (Q0 h),Bool.true_and,List.all_eq_true]
 intro x hx
 obtain ⟨a,b,ha,rfl,h2⟩:=(KM h.n64 _ _).1 hx
 have h0:∀ a b:Nat,Mv t (BF t).has (BF t).jf a b=true->(t.at b).kind=1:=by
  intro a b hh
  simp only [Mv,or_eq_true,and_eq_true,Af] at hh
  rcases hh with ⟨⟨hA,hB⟩,hbf⟩ | hh
  .obtain ⟨m,e,hm,hu⟩:=EU.1 hB
   have e:b=m:=by omega
   subst e
   rcases N0 h hm hu with c | c
   .exfalso
    have h4:=(h.init b c.1).thr
    simp only [Ah,and_eq_true,toNat_natCast] at hbf
    have h1:=hbf.2
    split at h1
    .have:=of_decide_eq_true h1;omega
    .have h3:=KC h (a:=a) (b:=b) (by simp only [Ah,and_eq_true,toNat_natCast];exact hbf)
     rename_i hn
     have:=(h.thr_iff (m:=a) (by omega)).2 (by omega)
     exact hn this
   .exact c.2
  .exfalso
   simp only [swB,List.any_eq_true,and_eq_true] at hh
   obtain ⟨r,hr,⟨hs,_⟩,_⟩:=hh
   obtain ⟨m,rfl,hm,hu⟩:=EU.1 hr
   simp only [Jl,and_eq_true,decide_eq_true_eq,toNat_natCast] at hs
   rcases N0 h hm hu with c | c<;>omega
 have kb:(t.at b).kind=1:=by
  cases h2 with
  | one _ hh=>exact h0 _ _ hh
  | more _ _ hh=>exact h0 _ _ hh
 show Kc t (BF t) a b=true
 simp [Kc,DA,kb]
structure StI (t:A2) (s:A6) (at_:List Nat):Prop where
 has:∀ u∈at_,(u:Int)∈s.has/\0<=(t.at u).thread
 top:∀ u∈at_,∀ x:Nat,(x:Int)∈s.has->(t.at x).thread=(t.at u).thread->x<=u
 pw:at_.Pairwise fun a b=>(t.at a).thread≠(t.at b).thread
 chain:∀ u∈at_,∀ x:Nat,(x:Int)∈s.has->(t.at x).thread=(t.at u).thread->x=u\/Az t x u=true
 cov:∀ x:Nat,(x:Int)∈s.has->0<=(t.at x).thread->∃ u∈at_,(t.at u).thread=(t.at x).thread
theorem HI {t:A2} (hu:HZ t) {x n m:Nat} (hn:n < t.nodes.length) (e:(t.at n).up=(m:Int)):Az t x n=(decide (m=x) || Az t x m):=by
 unfold Az
 have:=hu n hn
 rw [DU hu x (by omega),e,if_neg (by omega),toNat_natCast]
 by_cases c:m=x
 .rw [if_pos (by omega),decide_eq_true c,Bool.true_or]
 .rw [if_neg (by omega),decide_eq_false c,Bool.false_or]
theorem AmM {t:A2} (h:A9 t):StI t (BF t) (at0 t t.nodes.length):=by
 have h1:∀ u∈at0 t t.nodes.length,u < t.nodes.length/\0<=(t.at u).thread/\(t.at u).up < 0:=by
  intro u hu
  simp only [at0,mem_filter,mem_range,and_eq_true,not_eq_true',decide_eq_true_eq,decide_eq_false_iff_not] at hu
  exact ⟨hu.1,by omega,hu.2.2⟩
 refine ⟨fun u hu=>?_,fun u hu x hx e=>?_,?_,fun u hu x hx e=>?_,fun x hx h0=>?_⟩
 .obtain ⟨a,b,c⟩:=h1 u hu
  exact ⟨EU.2 ⟨u,rfl,a,c⟩,b⟩
 .obtain ⟨a,b,c⟩:=h1 u hu
  obtain ⟨m,e1,hm,hv⟩:=EU.1 hx
  have e1:x=m:=by omega
  subst e1
  exact Nat.le_of_eq (h.tops a hm b c hv e)
 .have hp:(at0 t t.nodes.length).Pairwise (· < ·):=List.pairwise_lt_range.filter _
  refine (List.Pairwise.and_mem.1 hp).imp ?_
  rintro a b ⟨ha,hb,h2⟩ e
  obtain ⟨a1,a2,a3⟩:=h1 a ha
  obtain ⟨b1,b2,b3⟩:=h1 b hb
  have:=h.tops b1 a1 b2 b3 a3 e
  omega
 .obtain ⟨a,b,c⟩:=h1 u hu
  obtain ⟨m,e1,hm,hv⟩:=EU.1 hx
  have e1:x=m:=by omega
  subst e1
  exact .inl (h.tops a hm b c hv e)
 .obtain ⟨m,e1,hm,hv⟩:=EU.1 hx
  have e1:x=m:=by omega
  subst e1
  refine ⟨x,?_,rfl⟩
  simp only [at0,mem_filter,mem_range,and_eq_true,not_eq_true',decide_eq_true_eq,decide_eq_false_iff_not]
  exact ⟨hm,by omega,hv⟩
end Go.AM
