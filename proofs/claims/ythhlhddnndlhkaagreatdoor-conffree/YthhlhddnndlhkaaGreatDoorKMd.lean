/-
  Own work, part of the proof of these laws: what functions compute.
-/
import Derived.Test.YthhlhddnndlhkaaGreatDoorLBd
set_option maxRecDepth 10000
set_option maxHeartbeats 64000000
set_option linter.unusedVariables false
set_option linter.unusedSimpArgs false
set_option linter.unusedSectionVars false
open Int (toNat_natCast)
open List (length_map length_append length_cons nil_append map_append append_assoc range_succ cons_append append_nil length_nil map_nil)
open Nat (zero_le lt_or_ge)
namespace Go.AM
open Go Go.Proofs
def My (R:Rows) (e k:Nat):List Int:=((List.range k).filter fun i=>!decide (i=e) && Bc (R.getD i 0#64) (e:Int)).map fun (i:Nat)=>(i:Int)
def Mx (R:Rows) (e:Nat):List Int:=(e:Int)::My R e R.length
theorem AlH {R:Rows} {e k:Nat} (h1:decide (k=e)=false) (h2:Bc (R.getD k 0#64) (e:Int)=true):My R e (k+1)=My R e k++[(k:Int)]:=by
 rw [My,range_succ,List.filter_append,List.filter_cons_of_pos (by rw [h1,h2];rfl),List.filter_nil,map_append];rfl
theorem AdJ {R:Rows} {e k:Nat} (h:(!decide (k=e) && Bc (R.getD k 0#64) (e:Int))=false):My R e (k+1)=My R e k:=by
 rw [My,range_succ,List.filter_append,List.filter_cons_of_neg (by rw [h];decide),List.filter_nil,append_nil];rfl
theorem ND (R:Rows) (e k:Nat):(My R e k).length<=k:=by
 rw [My,length_map];refine Nat.le_trans (List.length_filter_le _ _) ?_;simp
def PU (t:A1) (a b:List Int):Bool:=a.any fun x=>b.any fun y=>AH t x y
section
variable {V:At} (C:Aq V) {Q:VV->Prop}
include C
theorem Lt (R:Rows) (hR:R.length<=64) (e:Nat) (he:e < 64):VP V A5A [lW R,.i .i64 e] Q↔Q (lI (Mx R e)):=by
 refine Ae ?_
 rw [Ad C.c_z61.1 C.c_z61.2]
 simp only [A9j,go_sem,↓reduceIte]
 refine Ab (by decide) R.length (by omega) (I:=fun k F h=>A4.tmp F 0=lW R/\A4.tmp F 1 = .i .i64 e/\∃ L,L=My R e k/\A4.tmp F 5 = .sl 0 L.length 0 (L.length+1)/\h=[some ⟨AO,1,L.length,false,((e:Int)::L).map eI⟩]) ?_ ?_ ?_ 0 _ _ (zero_le _) ?_ ?_
 .rintro k F h hk p6 ⟨p0,p1,L,hL,p5,rfl⟩
  simp only [go_sem,↓reduceIte,p0,p1,p5,p6]
  exact ⟨L,hL,rfl,rfl⟩
 .rintro k F h hk p6 ⟨p0,p1,L,hL,p5,rfl⟩
  have h2:=ND R e k
  have b1:(L.length+1+1) * 8<=Aa:=by rw [hL];unfold Aa;omega
  have h1:decide ((k:Int)=(e:Int))=decide (k=e):=decide_eq_decide.2 ⟨fun h=>by omega,fun h=>by omega⟩
  have h0:=fun (Q:VV->Prop)=>A61 C R (k:Int) (e:Int) (by omega) (Q:=Q)
  rw [decide_eq_true (show (0:Int)<=(k:Int) by omega),Bool.true_and,toNat_natCast] at h0
  cases c1:decide (k=e) with
  | true =>
   simp only [go_sem,↓reduceIte,p0,p1,p5,p6,hk,h1,c1,A0]
   exact ⟨L,by rw [AdJ (by rw [c1];rfl)];exact hL,rfl,rfl⟩
  | false =>
  cases c2:Bc (R.getD k 0#64) (e:Int) with
  | false =>
   simp only [go_sem,↓reduceIte,p0,p1,p5,p6,hk,h1,c1,h0,c2,A0]
   exact ⟨L,by rw [AdJ (by rw [c2,Bool.and_false])];exact hL,rfl,rfl⟩
  | true =>
   simp only [go_sem,↓reduceIte,p0,p1,p5,p6,hk,h1,c1,h0,c2,b1,length_map,length_cons,A0]
   refine ⟨L++[(k:Int)],by rw [AlH c1 c2,hL],by simp,?_⟩
   simp
 .rintro F h ⟨p0,p1,L,hL,p5,rfl⟩
  subst hL
  simp only [go_sem,↓reduceIte,p0,p1,p5,length_map,length_cons]
  rfl
 .simp only [go_sem,↓reduceIte]
 .simp only [go_sem,↓reduceIte]
  exact ⟨[],rfl,rfl,rfl,rfl⟩
theorem Kk (t:A1) (hu:Kt t) (a b:List Int) (ha:a.length<=1000) (hb:b.length<=1000):VP V A5C [vT t,lI a,lI b] Q↔Q (.b (PU t a b)):=by
 refine Ae ?_
 rw [Ad C.c_z63.1 C.c_z63.2]
 have h1:=fun (x y:Int) (Q:VV->Prop)=>Ez C t hu x y (Q:=Q)
 have h2:(∀ i,i < a.length->∀ k,k < b.length->AH t (a.getD i 0) (b.getD k 0)=false)->PU t a b=false:=fun h=>by
  rw [PU,List.any_eq_false]
  intro x hx
  rw [Bool.not_eq_true,List.any_eq_false]
  intro y hy
  obtain ⟨i,hi,rfl⟩:=List.getElem_of_mem hx
  obtain ⟨k,hk,rfl⟩:=List.getElem_of_mem hy
  have:=h i hi k hk
  rw [List.getD_eq_getElem?_getD,List.getElem?_eq_getElem hi,List.getD_eq_getElem?_getD,List.getElem?_eq_getElem hk] at this
  rw [Bool.not_eq_true];exact this
 have h0:∀ {i k:Nat},i < a.length->k < b.length->AH t (a.getD i 0) (b.getD k 0)=true->PU t a b=true:=fun hi hk h=>by
  rw [PU,List.any_eq_true]
  refine ⟨_,Ai (d:=0) hi,?_⟩
  rw [List.any_eq_true]
  exact ⟨_,Ai (d:=0) hk,h⟩
 simp only [A9l,go_sem,↓reduceIte]
 refine Ab (by decide) a.length (by omega) (I:=fun i F h=>A4.tmp F 1=lI a/\A4.tmp F 2=lI b/\A4.tmp F 3 = .fp (eT t) 0/\h=[]/\∀ j,j < i->∀ k,k < b.length->AH t (a.getD j 0) (b.getD k 0)=false) ?_ ?_ ?_ 0 _ _ (zero_le _) ?_ ?_
 .rintro i F h hi p7 ⟨p1,p2,p3,rfl,pr⟩
  simp only [go_sem,↓reduceIte,p7,p1,p2,p3]
  exact pr
 .rintro i F h hi p7 ⟨p1,p2,p3,rfl,pr⟩
  have gA:=Ar hi
  simp only [go_sem,↓reduceIte,p7,p1,p2,p3,A0]
  refine Ab (by decide) b.length (by omega) (I:=fun k F h=>A4.tmp F 7 = .i .i64 i/\A4.tmp F 1=lI a/\A4.tmp F 2=lI b/\A4.tmp F 3 = .fp (eT t) 0/\h=[]/\∀ j,j < k->AH t (a.getD i 0) (b.getD j 0)=false) ?_ ?_ ?_ 0 _ _ (zero_le _) ?_ ?_
  .rintro k F h hk q8 ⟨q7,q1,q2,q3,rfl,qr⟩
   simp only [go_sem,↓reduceIte,q8,q7,q1,q2,q3]
   exact qr
  .rintro k F h hk q8 ⟨q7,q1,q2,q3,rfl,qr⟩
   have gB:=Ar hk
   cases d:AH t (a.getD i 0) (b.getD k 0) with
   | true =>
    have hb:=h0 hi hk d
    simp only [go_sem,↓reduceIte,q8,q7,q1,q2,q3,gA,gB,hi,hk,h1,d,hb,A0]
   | false =>
    simp only [go_sem,↓reduceIte,q8,q7,q1,q2,q3,gA,gB,hi,hk,h1,d,A0]
    intro j hj
    rcases lt_or_ge j k with c | c
    .exact qr j c
    .rw [show j=k by omega];exact d
  .rintro F h ⟨q7,q1,q2,q3,rfl,qr⟩
   simp only [go_sem,↓reduceIte,q7,q1,q2,q3]
   intro j hj
   rcases lt_or_ge j i with c | c
   .exact pr j c
   .rw [show j=i by omega];exact qr
  .simp only [go_sem,↓reduceIte]
  .simp only [go_sem,↓reduceIte,p7,p1,p2,p3]
   intro j hj;omega
 .rintro F h ⟨p1,p2,p3,rfl,pr⟩
  have hb:=h2 pr
  simp only [go_sem,↓reduceIte,p1,p2,p3,hb]
 .simp only [go_sem,↓reduceIte]
 .simp only [go_sem,↓reduceIte]
  intro j hj;omega
end
def hgW (t:A1) (s:A6) (e:Nat):BitVec 64:=(Ak t.nodes.length (YF t s)).getD e 0#64
def HgK (L:List Int) (v k:Nat) (K:List Int) (w:Nat):Prop:=K=L++(List.range k).map (fun (k:Nat)=>(k:Int))/\w=v+k
structure HgI (t:A1) (s:A6) (e:Nat) (S:BitVec 64) (L:List Int) (i:Nat):Prop where
 le:i<=L.length
 reach:∀ x∈L,∃ m:Nat,x=m/\m < t.nodes.length/\(m:Int)∈s.has/\YF t s e m=true
 done:∀ j,j < i->S.getLsbD (L.getD j 0).toNat=true
 sub:∀ m:Nat,S.getLsbD m=true->YF t s e m=true/\m < t.nodes.length
 clo:∀ m:Nat,S.getLsbD m=true->∀ r∈Yo t s m,r∈L
 first:(e:Int)∈L
 size:L.length+6 * JO S<=1+6 * 64
section
variable {t:A1} (ht:A5 t) {s:A6} (hf:AG t s) {e:Nat} (he:(e:Int)∈s.has) {S:BitVec 64} {L:List Int} {i:Nat} (I:HgI t s e S L i)
include ht hf he I
theorem HgI.skip (hi:i < L.length) {m:Nat} (hm:L.getD i 0=(m:Int)) (h:S.getLsbD m=true):HgI t s e S L (i+1) :=
 ⟨hi,I.reach,fun j hj=>by
  by_cases c:j=i
  .rw [c,hm];exact h
  .exact I.done j (by omega),I.sub,I.clo,I.first,I.size⟩
theorem HgI.put (hi:i < L.length) {m:Nat} (hm:L.getD i 0=(m:Int)) (h:S.getLsbD m=false):HgI t s e (S ||| C4 (m:Int)) (L++Yo t s m) (i+1):=by
 have hc:=ht.n64
 obtain ⟨m',e1,h9,h8,h4⟩:=I.reach _ (Ai (d:=0) hi)
 rw [hm] at e1
 have e1:m=m':=by omega
 subst e1
 have h7:e < t.nodes.length:=by
  obtain ⟨_,e2,h2⟩:=A8 (hf.node _ he);omega
 have hb:∀ x:Nat,(S ||| C4 (m:Int)).getLsbD x=true↔S.getLsbD x=true\/x=m:=fun x=>by
  rw [BitVec.getLsbD_or,Bool.or_eq_true,CT]
  simp only [decide_eq_true_eq]
  constructor
  .rintro (h | h)
   .exact .inl h
   .exact .inr (by omega)
  .rintro (h | h)
   .exact .inl h
   .exact .inr ⟨by omega,by omega⟩
 have h0:∀ j,j < L.length->(L++Yo t s m).getD j 0=L.getD j 0:=fun j hj=>by
  rw [List.getD_eq_getElem?_getD,List.getElem?_append_left hj,<- List.getD_eq_getElem?_getD]
 refine ⟨by rw [length_append];omega,fun x hx=>?_,fun j hj=>?_,fun x hx=>?_,fun x hx r hr=>?_,List.mem_append_left _ I.first,?_⟩
 .rcases List.mem_append.1 hx with hx | hx
  .exact I.reach x hx
  .obtain ⟨r,rfl,h5,ha,h6⟩:=Ail ht hf h8 hx
   refine ⟨r,rfl,h5,ha,?_⟩
   rw [AbV ht h7] at h4 ⊢
   left
   rcases h4 with h | h
   .exact .more h h5 h6
   .rw [h];exact .one h5 h6
 .rw [h0 j (by omega),hb]
  by_cases c:j=i
  .right;rw [c,hm,toNat_natCast]
  .exact .inl (I.done j (by omega))
 .rcases (hb x).1 hx with h | h
  .exact I.sub x h
  .rw [h];exact ⟨h4,h9⟩
 .rcases (hb x).1 hx with h | h
  .exact List.mem_append_left _ (I.clo x h r hr)
  .rw [h] at hr;exact List.mem_append_right _ hr
 .have h1:=A9T (S:=S) (n:=m) (by omega) h
  have h2:=AaO t ht s m
  have h3:=I.size
  rw [length_append];omega
theorem HgI.fin (hi:¬ i < L.length):S=hgW t s e:=by
 have h3:=ht.n64
 have h1:e < t.nodes.length:=by
  obtain ⟨_,e2,h2⟩:=A8 (hf.node _ he);omega
 have h0:∀ r:Nat,(r:Int)∈L->S.getLsbD r=true:=fun r hr=>by
  obtain ⟨j,hj,ej⟩:=List.getElem_of_mem hr
  have:=I.done j (by have:=I.le;omega)
  rw [List.getD_eq_getElem?_getD,List.getElem?_eq_getElem hj,Option.getD_some,ej,toNat_natCast] at this
  exact this
 apply B1
 intro j hj
 rw [hgW,List.getD_eq_getElem?_getD,Bm h1,Option.getD_some,Au,decide_eq_true hj,Bool.and_true,Bool.eq_iff_iff,Bool.and_eq_true,decide_eq_true_eq]
 constructor
 .intro h
  exact ⟨(I.sub j h).2,(I.sub j h).1⟩
 .rintro ⟨_,h⟩
  exact (A2c ht hf (S:=fun m=>S.getLsbD m=true) (fun n hn _ r hr=>h0 r (I.clo n hn _ hr)) he (h0 e I.first) h).1
end
section
variable {V:At} (C:Aq V) {Q:VV->Prop}
include C
theorem A2N (t:A1) (ht:A5 t) (s:A6) (hs:DL s) (hf:AG t s) {e:Nat} (he:(e:Int)∈s.has):VP V V3 [vT t,Dy s,.i .i64 e] Q↔Q (vW (hgW t s e)):=by
 refine Ae ?_
 rw [Ad C.c_z126.1 C.c_z126.2]
 have h9:=ht.n64
 have l4:=ht.l4
 obtain ⟨e',e1,h7⟩:=A8 (hf.node _ he)
 have e1:e=e':=by omega
 subst e1
 simp only [Zw,go_sem,↓reduceIte]
 unfold VL
 rw [A0]
 refine AT (M:=Nat) (I:=fun x F h=>A4.tmp F 3 = .fp (eT t) 0/\A4.tmp F 4 = .fp (Je s) 0/\∃ S L i v,HgI t s e S L i/\L.length=v+1/\x=8 * JO S+(L.length - i)/\A4.tmp F 7=vW S/\A4.tmp F 8 = .sl 0 v 0 (v+1)/\A4.tmp F 9 = .i .i64 (i:Nat)/\h=[some ⟨AO,1,v,false,L.map eI⟩]) (μ:=fun x=>x) ?_ (8 * JO 0#64+1) _ _ ⟨?_,?_,0#64,[(e:Int)],0,0,?_,rfl,rfl,?_,?_,?_,?_⟩
 .rintro x F h ⟨p3,p4,S,L,i,v,I,hv,hx,p7,p8,p9,rfl⟩
  have ha:L.length<=385:=by have:=I.size;omega
  have h5:(L.map eI).length=v+1:=by rw [length_map];exact hv
  by_cases c:i < L.length
  .obtain ⟨m,hm,h1,hc,hd⟩:=I.reach _ (Ai (d:=0) c)
   have gL:=Ar c
   rw [hm] at gL
   have ci:decide ((i:Int) < ((v+1:Nat):Int))=true:=decide_eq_true (by omega)
   have cj:decide (i < v+1)=true:=decide_eq_true (by omega)
   have cv:i < v+1:=by omega
   have wi:IntKind.i64.wrap ((i:Int)+1)=((i+1:Nat):Int):=by rw [Az (by omega) (by omega)];omega
   cases d:Bc S (m:Int) with
   | true =>
    simp only [Gd,go_sem,↓reduceIte,p3,p4,p7,p8,p9,c,ci,cj,cv,hv,gL,B2 C,d,wi,A0]
    rw [AC] at d
    exact ⟨_,by omega,S,L,i+1,I.skip ht hf he c hm d,v,hv,rfl,rfl,rfl,rfl,rfl⟩
   | false =>
    have d':=d
    rw [AC] at d'
    have P:=I.put ht hf he c hm d'
    have hb:=A9T (S:=S) (n:=m) (by omega) d'
    have hg:=AaO t ht s m
    have hj:=fun (Q:VV->Prop)=>A1M C s hs (m:Int) (Q:=Q)
    have b1:(v+1+1) * 8<=Aa:=by unfold Aa;omega
    have b2:(v+1+1+1) * 8<=Aa:=by unfold Aa;omega
    obtain ⟨j,h8⟩:∃ j,j=Qz s m:=⟨_,rfl⟩
    rw [<- h8] at hj
    have h0:Yo t s m=(if 0<=j then [j] else [])++(if 0<=(t.at m).up then [(t.at m).up] else [])++(if 0<=(t.at m).thread then (List.range t.locs.length).map fun (k:Nat)=>(k:Int) else []):=by rw [h8];rfl
    rcases Int.lt_or_le j 0 with c1 | c1
    .have d1:decide (0<=j)=false:=decide_eq_false (by omega)
     rw [if_neg (by omega)] at h0
     rcases Int.lt_or_le (t.at m).up 0 with c2 | c2
     .have d2:decide (0<=(t.at m).up)=false:=decide_eq_false (by omega)
      rw [if_neg (by omega)] at h0
      rcases Int.lt_or_le (t.at m).thread 0 with c3 | c3
      .have d3:decide (0<=(t.at m).thread)=false:=decide_eq_false (by omega)
       rw [if_neg (by omega)] at h0
       simp only [Gd,go_sem,↓reduceIte,p3,p4,p7,p8,p9,c,ci,cj,cv,hv,gL,B2 C,Bi C,d,wi,hj,d1,d2,h1,A7 h1,b1,b2,h5,Du,length_append,length_map,A0,d3]
       rw [h0] at P
       simp only [append_nil,nil_append,append_assoc,cons_append] at P
       exact ⟨8 * JO (S ||| C4 (m:Int))+((L).length - (i+1)),by (try simp only [length_append,length_cons,length_nil]);omega,_,_,i+1,P,v,by (try simp only [length_append,length_cons,length_nil]);omega,rfl,rfl,rfl,rfl,rfl⟩
      .have d3:decide (0<=(t.at m).thread)=true:=decide_eq_true c3
       rw [if_pos c3] at h0
       simp only [Gd,go_sem,↓reduceIte,p3,p4,p7,p8,p9,c,ci,cj,cv,hv,gL,B2 C,Bi C,d,wi,hj,d1,d2,h1,A7 h1,b1,b2,h5,Du,length_append,length_map,A0,d3]
       refine Ab (by decide) t.locs.length (by omega) (I:=fun k F h=>A4.tmp F 3 = .fp (eT t) 0/\A4.tmp F 4 = .fp (Je s) 0/\A4.tmp F 7=vW (S ||| C4 (m:Int))/\A4.tmp F 9 = .i .i64 (i:Nat)/\∃ K v',HgK (L) (v) k K v'/\A4.tmp F 8 = .sl 0 v' 0 (v' + 1)/\h=[some ⟨AO,1,v',false,K.map eI⟩]) ?_ ?_ ?_ 0 _ _ (zero_le _) ?_ ?_
       .rintro k F h hk h3 ⟨q3,q4,q7,q9,K,v',hK,q8,rfl⟩
        simp only [go_sem,↓reduceIte,h3,q3,q4,q7,q8,q9]
        exact ⟨K,v',hK,rfl,rfl⟩
       .rintro k F h hk h3 ⟨q3,q4,q7,q9,K,v',hK,q8,rfl⟩
        have h6:=hK.2
        have h2:(K.map eI).length=v' + 1:=by rw [length_map,hK.1];simp only [length_append,length_cons,length_nil,length_map,List.length_range];omega
        have b3:(v' + 1+1) * 8<=Aa:=by unfold Aa;omega
        simp only [go_sem,↓reduceIte,h3,q3,q4,q7,q8,q9,h2,b3,Du,A0]
        exact ⟨K++[(k:Int)],v' + 1,⟨by rw [hK.1,range_succ,map_append,<- append_assoc];rfl,by omega⟩,rfl,rfl⟩
       .rintro F h ⟨q3,q4,q7,q9,K,v',hK,q8,rfl⟩
        have h6:=hK.2
        have h2:K.length=v' + 1:=by rw [hK.1];simp only [length_append,length_cons,length_nil,length_map,List.length_range];omega
        rw [h0] at P
        simp only [append_nil,nil_append,append_assoc,cons_append] at P
        have h4:=hK.1
        (try simp only [append_assoc,cons_append,nil_append] at h4)
        rw [<- h4] at P
        simp only [go_sem,↓reduceIte,q3,q4,q7,q8,q9,wi]
        exact ⟨8 * JO (S ||| C4 (m:Int))+(K.length - (i+1)),by omega,_,K,i+1,P,v',h2,rfl,rfl,rfl,rfl,rfl⟩
       .simp only [go_sem,↓reduceIte]
       .simp only [go_sem,↓reduceIte,p3,p4,p8,p9]
        exact ⟨_,_,⟨by rw [List.range_zero,map_nil,append_nil],rfl⟩,rfl,rfl⟩
     .have d2:decide (0<=(t.at m).up)=true:=decide_eq_true c2
      rw [if_pos c2] at h0
      rcases Int.lt_or_le (t.at m).thread 0 with c3 | c3
      .have d3:decide (0<=(t.at m).thread)=false:=decide_eq_false (by omega)
       rw [if_neg (by omega)] at h0
       simp only [Gd,go_sem,↓reduceIte,p3,p4,p7,p8,p9,c,ci,cj,cv,hv,gL,B2 C,Bi C,d,wi,hj,d1,d2,h1,A7 h1,b1,b2,h5,Du,length_append,length_map,A0,d3]
       rw [h0] at P
       simp only [append_nil,nil_append,append_assoc,cons_append] at P
       exact ⟨8 * JO (S ||| C4 (m:Int))+((L++[(t.at m).up]).length - (i+1)),by (try simp only [length_append,length_cons,length_nil]);omega,_,_,i+1,P,v+1,by (try simp only [length_append,length_cons,length_nil]);omega,rfl,rfl,rfl,rfl,rfl⟩
      .have d3:decide (0<=(t.at m).thread)=true:=decide_eq_true c3
       rw [if_pos c3] at h0
       simp only [Gd,go_sem,↓reduceIte,p3,p4,p7,p8,p9,c,ci,cj,cv,hv,gL,B2 C,Bi C,d,wi,hj,d1,d2,h1,A7 h1,b1,b2,h5,Du,length_append,length_map,A0,d3]
       refine Ab (by decide) t.locs.length (by omega) (I:=fun k F h=>A4.tmp F 3 = .fp (eT t) 0/\A4.tmp F 4 = .fp (Je s) 0/\A4.tmp F 7=vW (S ||| C4 (m:Int))/\A4.tmp F 9 = .i .i64 (i:Nat)/\∃ K v',HgK (L++[(t.at m).up]) (v+1) k K v'/\A4.tmp F 8 = .sl 0 v' 0 (v' + 1)/\h=[some ⟨AO,1,v',false,K.map eI⟩]) ?_ ?_ ?_ 0 _ _ (zero_le _) ?_ ?_
       .rintro k F h hk h3 ⟨q3,q4,q7,q9,K,v',hK,q8,rfl⟩
        simp only [go_sem,↓reduceIte,h3,q3,q4,q7,q8,q9]
        exact ⟨K,v',hK,rfl,rfl⟩
       .rintro k F h hk h3 ⟨q3,q4,q7,q9,K,v',hK,q8,rfl⟩
        have h6:=hK.2
        have h2:(K.map eI).length=v' + 1:=by rw [length_map,hK.1];simp only [length_append,length_cons,length_nil,length_map,List.length_range];omega
        have b3:(v' + 1+1) * 8<=Aa:=by unfold Aa;omega
        simp only [go_sem,↓reduceIte,h3,q3,q4,q7,q8,q9,h2,b3,Du,A0]
        exact ⟨K++[(k:Int)],v' + 1,⟨by rw [hK.1,range_succ,map_append,<- append_assoc];rfl,by omega⟩,rfl,rfl⟩
       .rintro F h ⟨q3,q4,q7,q9,K,v',hK,q8,rfl⟩
        have h6:=hK.2
        have h2:K.length=v' + 1:=by rw [hK.1];simp only [length_append,length_cons,length_nil,length_map,List.length_range];omega
        rw [h0] at P
        simp only [append_nil,nil_append,append_assoc,cons_append] at P
        have h4:=hK.1
        (try simp only [append_assoc,cons_append,nil_append] at h4)
        rw [<- h4] at P
        simp only [go_sem,↓reduceIte,q3,q4,q7,q8,q9,wi]
        exact ⟨8 * JO (S ||| C4 (m:Int))+(K.length - (i+1)),by omega,_,K,i+1,P,v',h2,rfl,rfl,rfl,rfl,rfl⟩
       .simp only [go_sem,↓reduceIte]
       .simp only [go_sem,↓reduceIte,p3,p4,p8,p9]
        exact ⟨_,_,⟨by rw [List.range_zero,map_nil,append_nil],rfl⟩,rfl,rfl⟩
    .have d1:decide (0<=j)=true:=decide_eq_true c1
     rw [if_pos c1] at h0
     rcases Int.lt_or_le (t.at m).up 0 with c2 | c2
     .have d2:decide (0<=(t.at m).up)=false:=decide_eq_false (by omega)
      rw [if_neg (by omega)] at h0
      rcases Int.lt_or_le (t.at m).thread 0 with c3 | c3
      .have d3:decide (0<=(t.at m).thread)=false:=decide_eq_false (by omega)
       rw [if_neg (by omega)] at h0
       simp only [Gd,go_sem,↓reduceIte,p3,p4,p7,p8,p9,c,ci,cj,cv,hv,gL,B2 C,Bi C,d,wi,hj,d1,d2,h1,A7 h1,b1,b2,h5,Du,length_append,length_map,A0,d3]
       rw [h0] at P
       simp only [append_nil,nil_append,append_assoc,cons_append] at P
       exact ⟨8 * JO (S ||| C4 (m:Int))+((L++[j]).length - (i+1)),by (try simp only [length_append,length_cons,length_nil]);omega,_,_,i+1,P,v+1,by (try simp only [length_append,length_cons,length_nil]);omega,rfl,rfl,rfl,rfl,rfl⟩
      .have d3:decide (0<=(t.at m).thread)=true:=decide_eq_true c3
       rw [if_pos c3] at h0
       simp only [Gd,go_sem,↓reduceIte,p3,p4,p7,p8,p9,c,ci,cj,cv,hv,gL,B2 C,Bi C,d,wi,hj,d1,d2,h1,A7 h1,b1,b2,h5,Du,length_append,length_map,A0,d3]
       refine Ab (by decide) t.locs.length (by omega) (I:=fun k F h=>A4.tmp F 3 = .fp (eT t) 0/\A4.tmp F 4 = .fp (Je s) 0/\A4.tmp F 7=vW (S ||| C4 (m:Int))/\A4.tmp F 9 = .i .i64 (i:Nat)/\∃ K v',HgK (L++[j]) (v+1) k K v'/\A4.tmp F 8 = .sl 0 v' 0 (v' + 1)/\h=[some ⟨AO,1,v',false,K.map eI⟩]) ?_ ?_ ?_ 0 _ _ (zero_le _) ?_ ?_
       .rintro k F h hk h3 ⟨q3,q4,q7,q9,K,v',hK,q8,rfl⟩
        simp only [go_sem,↓reduceIte,h3,q3,q4,q7,q8,q9]
        exact ⟨K,v',hK,rfl,rfl⟩
       .rintro k F h hk h3 ⟨q3,q4,q7,q9,K,v',hK,q8,rfl⟩
        have h6:=hK.2
        have h2:(K.map eI).length=v' + 1:=by rw [length_map,hK.1];simp only [length_append,length_cons,length_nil,length_map,List.length_range];omega
        have b3:(v' + 1+1) * 8<=Aa:=by unfold Aa;omega
        simp only [go_sem,↓reduceIte,h3,q3,q4,q7,q8,q9,h2,b3,Du,A0]
        exact ⟨K++[(k:Int)],v' + 1,⟨by rw [hK.1,range_succ,map_append,<- append_assoc];rfl,by omega⟩,rfl,rfl⟩
       .rintro F h ⟨q3,q4,q7,q9,K,v',hK,q8,rfl⟩
        have h6:=hK.2
        have h2:K.length=v' + 1:=by rw [hK.1];simp only [length_append,length_cons,length_nil,length_map,List.length_range];omega
        rw [h0] at P
        simp only [append_nil,nil_append,append_assoc,cons_append] at P
        have h4:=hK.1
        (try simp only [append_assoc,cons_append,nil_append] at h4)
        rw [<- h4] at P
        simp only [go_sem,↓reduceIte,q3,q4,q7,q8,q9,wi]
        exact ⟨8 * JO (S ||| C4 (m:Int))+(K.length - (i+1)),by omega,_,K,i+1,P,v',h2,rfl,rfl,rfl,rfl,rfl⟩
       .simp only [go_sem,↓reduceIte]
       .simp only [go_sem,↓reduceIte,p3,p4,p8,p9]
        exact ⟨_,_,⟨by rw [List.range_zero,map_nil,append_nil],rfl⟩,rfl,rfl⟩
     .have d2:decide (0<=(t.at m).up)=true:=decide_eq_true c2
      rw [if_pos c2] at h0
      rcases Int.lt_or_le (t.at m).thread 0 with c3 | c3
      .have d3:decide (0<=(t.at m).thread)=false:=decide_eq_false (by omega)
       rw [if_neg (by omega)] at h0
       simp only [Gd,go_sem,↓reduceIte,p3,p4,p7,p8,p9,c,ci,cj,cv,hv,gL,B2 C,Bi C,d,wi,hj,d1,d2,h1,A7 h1,b1,b2,h5,Du,length_append,length_map,A0,d3]
       rw [h0] at P
       simp only [append_nil,nil_append,append_assoc,cons_append] at P
       exact ⟨8 * JO (S ||| C4 (m:Int))+((L++[j,(t.at m).up]).length - (i+1)),by (try simp only [length_append,length_cons,length_nil]);omega,_,_,i+1,P,v+1+1,by (try simp only [length_append,length_cons,length_nil]);omega,rfl,rfl,rfl,rfl,rfl⟩
      .have d3:decide (0<=(t.at m).thread)=true:=decide_eq_true c3
       rw [if_pos c3] at h0
       simp only [Gd,go_sem,↓reduceIte,p3,p4,p7,p8,p9,c,ci,cj,cv,hv,gL,B2 C,Bi C,d,wi,hj,d1,d2,h1,A7 h1,b1,b2,h5,Du,length_append,length_map,A0,d3]
       refine Ab (by decide) t.locs.length (by omega) (I:=fun k F h=>A4.tmp F 3 = .fp (eT t) 0/\A4.tmp F 4 = .fp (Je s) 0/\A4.tmp F 7=vW (S ||| C4 (m:Int))/\A4.tmp F 9 = .i .i64 (i:Nat)/\∃ K v',HgK (L++[j,(t.at m).up]) (v+1+1) k K v'/\A4.tmp F 8 = .sl 0 v' 0 (v' + 1)/\h=[some ⟨AO,1,v',false,K.map eI⟩]) ?_ ?_ ?_ 0 _ _ (zero_le _) ?_ ?_
       .rintro k F h hk h3 ⟨q3,q4,q7,q9,K,v',hK,q8,rfl⟩
        simp only [go_sem,↓reduceIte,h3,q3,q4,q7,q8,q9]
        exact ⟨K,v',hK,rfl,rfl⟩
       .rintro k F h hk h3 ⟨q3,q4,q7,q9,K,v',hK,q8,rfl⟩
        have h6:=hK.2
        have h2:(K.map eI).length=v' + 1:=by rw [length_map,hK.1];simp only [length_append,length_cons,length_nil,length_map,List.length_range];omega
        have b3:(v' + 1+1) * 8<=Aa:=by unfold Aa;omega
        simp only [go_sem,↓reduceIte,h3,q3,q4,q7,q8,q9,h2,b3,Du,A0]
        exact ⟨K++[(k:Int)],v' + 1,⟨by rw [hK.1,range_succ,map_append,<- append_assoc];rfl,by omega⟩,rfl,rfl⟩
       .rintro F h ⟨q3,q4,q7,q9,K,v',hK,q8,rfl⟩
        have h6:=hK.2
        have h2:K.length=v' + 1:=by rw [hK.1];simp only [length_append,length_cons,length_nil,length_map,List.length_range];omega
        rw [h0] at P
        simp only [append_nil,nil_append,append_assoc,cons_append] at P
        have h4:=hK.1
        (try simp only [append_assoc,cons_append,nil_append] at h4)
        rw [<- h4] at P
        simp only [go_sem,↓reduceIte,q3,q4,q7,q8,q9,wi]
        exact ⟨8 * JO (S ||| C4 (m:Int))+(K.length - (i+1)),by omega,_,K,i+1,P,v',h2,rfl,rfl,rfl,rfl,rfl⟩
       .simp only [go_sem,↓reduceIte]
       .simp only [go_sem,↓reduceIte,p3,p4,p8,p9]
        exact ⟨_,_,⟨by rw [List.range_zero,map_nil,append_nil],rfl⟩,rfl,rfl⟩
  .have ci:decide ((i:Int) < ((v+1:Nat):Int))=false:=decide_eq_false (by omega)
   have cj:decide (i < v+1)=false:=decide_eq_false (by omega)
   simp only [Gd,go_sem,↓reduceIte,p3,p4,p7,p8,p9,c,ci,cj,hv]
   rw [I.fin ht hf he c]
 .simp only [go_sem,↓reduceIte]
 .simp only [go_sem,↓reduceIte]
 .exact ⟨zero_le _,fun x hx=>⟨e,List.mem_singleton.1 hx,h7,he,(AbV ht h7).2 (.inr rfl)⟩,fun j hj=>absurd hj (Nat.not_lt_zero _),fun m hm=>by simp at hm,fun m hm=>by simp at hm,List.mem_singleton.2 rfl,by have:=AjV 0#64;simp only [List.length_singleton];omega⟩
 .simp only [go_sem,↓reduceIte]
 .simp only [go_sem,↓reduceIte]
 .simp only [go_sem,↓reduceIte]
 .rfl
end
def AeD (t:A1) (s:A6) (w e:Nat):Bool:=(Yf t s w).any fun c=>decide (c=(e:Int)) || Ap t c e || Ap t e c
def HJ (t:A1) (s:A6) (e:Nat) (r w:Int):Bool:=decide (w < 0) || !Bc (hgW t s e) r || decide ((t.at w.toNat).thread < 0) || decide ((t.at w.toNat).thread=(t.at r.toNat).thread) || !AH t w e || AeD t s w.toNat e
def AiF (t:A1) (s:A6) (e:Nat):Bool:=(List.range s.has.length).all fun i=>HJ t s e (s.has.getD i 0) (s.jf.getD i 0)
section
variable {V:At} (C:Aq V) {Q:VV->Prop}
include C
theorem LQ (t:A1) (ht:A5 t) (s:A6) (hs:DL s) (hf:AG t s) {e:Nat} (he:(e:Int)∈s.has):VP V A5y [vT t,Dy s,.i .i64 e] Q↔Q (.b (AiF t s e)):=by
 refine Ae ?_
 rw [Ad C.c_z58.1 C.c_z58.2]
 have hy:=ht.n64
 have g1:=hs.has
 have hF:=AY (AJ (AE.2 hf))
 have hg:=fun (Q:VV->Prop)=>A2N C t ht s hs hf he (Q:=Q)
 have hn:=fun (x y:Int) (Q:VV->Prop)=>Ez C t ht.up x y (Q:=Q)
 have ho:=fun (x y:Int) (Q:VV->Prop)=>E0 C t ht.up x y (Q:=Q)
 have hq:=fun (loc w:Int) (Q:VV->Prop)=>Ki C s hs loc w (Q:=Q)
 unfold AiF
 simp only [A9h,go_sem,↓reduceIte,hg]
 refine Ab (by decide) s.has.length (by omega) (I:=fun i F h=>A4.tmp F 2 = .i .i64 e/\A4.tmp F 3 = .fp (eT t) 0/\A4.tmp F 4 = .fp (Je s) 0/\A4.tmp F 7=vW (hgW t s e)/\h=[]/\∀ j,j < i->HJ t s e (s.has.getD j 0) (s.jf.getD j 0)=true) ?_ ?_ ?_ 0 _ _ (zero_le _) ?_ ?_
 .rintro i F h hi p8 ⟨p2,p3,p4,p7,rfl,pr⟩
  simp only [go_sem,↓reduceIte,p8,p2,p3,p4,p7]
  exact pr
 .rintro i F h hi p8 ⟨p2,p3,p4,p7,rfl,pr⟩
  have gH:=Ar hi
  have h4:i < s.jf.length:=by rw [hf.jl];exact hi
  have gJ:=Ar h4
  obtain ⟨r,hr,h7⟩:=A8 (hf.node _ (Ai (d:=0) hi))
  have hl:=Ai (d:=0) hi
  rw [hr] at gH hl
  obtain ⟨w,hw⟩:∃ w,w=s.jf.getD i 0:=⟨_,rfl⟩
  have hd:=hF.at_ i hi
  rw [hr,<- hw] at hd
  rw [<- hw] at gJ
  have h3:HJ t s e r w=true->∀ j,j < i+1->HJ t s e (s.has.getD j 0) (s.jf.getD j 0)=true:=fun h j hj=>by
   rcases lt_or_ge j i with c | c
   .exact pr j c
   .rw [show j=i by omega,hr,<- hw];exact h
  have h9:HJ t s e r w=false->((List.range s.has.length).all fun i=>HJ t s e (s.has.getD i 0) (s.jf.getD i 0))=false:=fun h=>AP hi (by rw [hr,<- hw];exact h)
  cases d1:decide (w < 0) with
  | true =>
   simp only [go_sem,↓reduceIte,p8,p2,p3,p4,p7,gH,gJ,hi,h4,d1,A0]
   exact h3 (by rw [HJ,d1];simp)
  | false =>
  have hk:(t.at r).kind=2:=by
   apply Classical.byContradiction
   intro hk
   have:=hF.none r hl (by rw [toNat_natCast];exact hk)
   rw [hd] at this
   exact of_decide_eq_false d1 (by omega)
  obtain ⟨q1,q2,q3⟩:=hF.read r hl (by rw [toNat_natCast];exact hk)
  rw [hd] at q1 q2 q3
  obtain ⟨x,hx,h2⟩:=A8 (hf.node _ q1)
  obtain ⟨a1,a2,a3,a4,a5⟩:=A16 hf q1 q2 ht
  rw [hx,toNat_natCast] at q2 a1 a2 a3 a4 a5
  rw [hx] at gJ h3 h9 d1
  obtain ⟨loc,h5⟩:=Int.eq_ofNat_of_zero_le a1
  rw [h5] at a2 a3 a4
  obtain ⟨pl,hh⟩:=Int.eq_ofNat_of_zero_le a3
  rw [hh,toNat_natCast] at a4
  have hp:loc < s.mo.length:=by omega
  have h6:pl < (s.mo.getD loc []).length:=by omega
  have gL:=C1 hp
  have gI:=ET h6
  have hu:=hs.mc' loc pl
  have ha:Yf t s x=(s.mo.getD loc []).getD pl []:=by rw [Yf,h5,toNat_natCast,hh,toNat_natCast]
  obtain ⟨K,hK⟩:∃ K,K=(s.mo.getD loc []).getD pl []:=⟨_,rfl⟩
  rw [<- hK] at gI hu ha
  obtain ⟨L,hL⟩:∃ L,L=s.mo.getD loc []:=⟨_,rfl⟩
  rw [<- hL] at gL gI h6
  have hc:HJ t s e r x=(!Bc (hgW t s e) r || decide ((t.at x).thread < 0) || decide ((t.at x).thread=(t.at r).thread) || !AH t x e || AeD t s x e):=by
   rw [HJ,d1,Bool.false_or,toNat_natCast,toNat_natCast]
  cases d2:Bc (hgW t s e) (r:Int) with
  | false =>
   simp only [go_sem,↓reduceIte,p8,p2,p3,p4,p7,gH,gJ,hi,h4,d1,B2 C,d2,A0]
   exact h3 (by rw [hc,d2];simp)
  | true =>
  cases d3:decide ((t.at x).thread < 0) with
  | true =>
   simp only [go_sem,↓reduceIte,p8,p2,p3,p4,p7,gH,gJ,hi,h4,d1,B2 C,d2,h2,A7 h2,d3,A0]
   exact h3 (by rw [hc,d3];simp)
  | false =>
  cases d4:decide ((t.at x).thread=(t.at r).thread) with
  | true =>
   simp only [go_sem,↓reduceIte,p8,p2,p3,p4,p7,gH,gJ,hi,h4,d1,B2 C,d2,h2,A7 h2,d3,h7,A7 h7,d4,A0]
   exact h3 (by rw [hc,d4];simp)
  | false =>
  cases d5:AH t x e with
  | false =>
   simp only [go_sem,↓reduceIte,p8,p2,p3,p4,p7,gH,gJ,hi,h4,d1,B2 C,d2,h2,A7 h2,d3,h7,A7 h7,d4,hn,d5,A0]
   exact h3 (by rw [hc,d5];simp)
  | true =>
   have hm:HJ t s e r x=K.any fun c=>decide (c=(e:Int)) || Ap t c e || Ap t e c:=by
    rw [hc,d2,d3,d4,d5,AeD,ha];simp
   simp only [go_sem,↓reduceIte,p8,p2,p3,p4,p7,gH,gJ,hi,h4,d1,B2 C,d2,h2,A7 h2,d3,h7,A7 h7,d4,hn,d5,h5,gL,gI,hp,h6,hq,hh,A0]
   refine Ab (by decide) K.length (by omega) (I:=fun k F h=>A4.tmp F 8 = .i .i64 i/\A4.tmp F 2 = .i .i64 e/\A4.tmp F 3 = .fp (eT t) 0/\A4.tmp F 4 = .fp (Je s) 0/\A4.tmp F 7=vW (hgW t s e)/\A4.tmp F 11=lI K/\A4.tmp F 12 = .b ((K.take k).any fun c=>decide (c=(e:Int)) || Ap t c e || Ap t e c)/\h=[]) ?_ ?_ ?_ 0 _ _ (zero_le _) ?_ ?_
   .rintro k F h hk h8 ⟨q8,q2,q3,q4,q7,h1,h0,rfl⟩
    simp only [go_sem,↓reduceIte,h8,q8,q2,q3,q4,q7,h1,h0]
   .rintro k F h hk h8 ⟨q8,q2,q3,q4,q7,h1,h0,rfl⟩
    have gK:K[k]? = some K[k]:=List.getElem?_eq_getElem hk
    have hv:((K.take (k+1)).any fun c=>decide (c=(e:Int)) || Ap t c e || Ap t e c)=(((K.take k).any fun c=>decide (c=(e:Int)) || Ap t c e || Ap t e c) || (decide (K[k]=(e:Int)) || Ap t K[k] e || Ap t e K[k])):=by
     rw [List.take_succ_eq_append_getElem hk,List.any_append];simp
    rw [hv]
    cases f0:((K.take k).any fun c=>decide (c=(e:Int)) || Ap t c e || Ap t e c) with
    | true =>
     rw [f0] at h0
     simp only [go_sem,↓reduceIte,h8,q8,q2,q3,q4,q7,h1,h0,gK,hk,A0,Bool.true_or]
    | false =>
    rw [f0] at h0
    cases f1:decide (K[k]=(e:Int)) with
    | true=>simp only [go_sem,↓reduceIte,h8,q8,q2,q3,q4,q7,h1,h0,gK,hk,f1,A0,Bool.true_or,Bool.false_or]
    | false =>
    cases f2:Ap t K[k] e with
    | true=>simp only [go_sem,↓reduceIte,h8,q8,q2,q3,q4,q7,h1,h0,gK,hk,f1,ho,f2,A0,Bool.true_or,Bool.false_or]
    | false =>
    cases f3:Ap t e K[k]<;>simp only [go_sem,↓reduceIte,h8,q8,q2,q3,q4,q7,h1,h0,gK,hk,f1,ho,f2,f3,A0,Bool.true_or,Bool.false_or]
   .rintro F h ⟨q8,q2,q3,q4,q7,h1,h0,rfl⟩
    rw [List.take_length,<- hm] at h0
    cases d6:HJ t s e r x with
    | true =>
     rw [d6] at h0
     simp only [go_sem,↓reduceIte,q8,q2,q3,q4,q7,h1,h0]
     exact h3 d6
    | false =>
     rw [d6] at h0
     have hb:=h9 d6
     simp only [go_sem,↓reduceIte,q8,q2,q3,q4,q7,h1,h0,hb]
   .simp only [go_sem,↓reduceIte]
   .simp only [go_sem,↓reduceIte,p8,p2,p3,p4,p7]
    rfl
 .rintro F h ⟨p2,p3,p4,p7,rfl,pr⟩
  have hb:=AQ (p:=fun i=>HJ t s e (s.has.getD i 0) (s.jf.getD i 0)) pr
  simp only [go_sem,↓reduceIte,p2,p3,p4,p7,hb]
 .simp only [go_sem,↓reduceIte]
 .simp only [go_sem,↓reduceIte]
  intro j hj;omega
end
end Go.AM
