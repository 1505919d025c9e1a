/-
  Own work, part of the proof of these laws: plain laws.
-/
import Derived.Test.YtpnaenhghnkggabGreatDoorKK
set_option maxRecDepth 10000
set_option maxHeartbeats 64000000
set_option linter.unusedVariables false
set_option linter.unusedSimpArgs false
set_option linter.unusedSectionVars false
open Bool (and_eq_true or_eq_true)
open Int (toNat_natCast)
open List (getD_eq_getElem?_getD length_map length_append length_cons nil_append map_append append_assoc range_succ cons_append getElem_of_mem append_nil mem_append any_eq_true length_nil map_nil filter_cons)
open Nat (zero_le lt_or_ge)
namespace Go.AM
open Go Go.Proofs
theorem Rz {t:A2} (ht:A9 t) {s:A6} (hf:Bg t s) {a b:Nat}:BC t s s.has.length b a=true↔(a:Int)∈s.has/\(((b:Int)∈s.has/\Ah t b a=true)\/Ed s.has s.jf a=b):=by
 have h0:=ht.n64
 have hF:=Ba (B3 (AY.2 hf))
 have hn:Cq t s.has:=hf.node
 have hh:=fun (x:Nat)=>hn.has h0 (x:Int)
 simp only [BC,hh,or_eq_true,and_eq_true,any_eq_true,List.mem_range,decide_eq_true_eq,Af]
 constructor
 .rintro (⟨⟨h1,h2⟩,h3⟩ | ⟨i,hi,h1,h2⟩)
  .exact ⟨h2,.inl ⟨h1,h3⟩⟩
  .have hm:=Ac (d:=0) hi
   have:=hF.at_ i hi
   rw [h2,h1] at this
   rw [h2] at hm
   exact ⟨hm,.inr this⟩
 .rintro ⟨h1,⟨h2,h3⟩ | h2⟩
  .exact .inl ⟨⟨h2,h1⟩,h3⟩
  .obtain ⟨i,hi,e⟩:=getElem_of_mem h1
   have hg:s.has.getD i 0=(a:Int):=by rw [getD_eq_getElem?_getD,List.getElem?_eq_getElem hi];exact e
   have:=hF.at_ i hi
   rw [hg,h2] at this
   exact .inr ⟨i,hi,this.symm,hg⟩
theorem AdO {t:A2} {s:A6} (hf:Bg t s) (ht:A9 t) {w:Nat} (hw:(w:Int)∈s.has) (hk:(t.at w).kind=3):RX t s w∈s.mo.getD (t.at w).loc.toNat []/\(w:Int)∈RX t s w:=by
 obtain ⟨a1,a2,a3,a4,a5⟩:=Qu hf hw (by rw [toNat_natCast];exact hk) ht
 rw [toNat_natCast] at a1 a2 a3 a4 a5
 exact ⟨Ac (d:=[]) (k:=(BQ s (t.at w).loc w).toNat) (by omega),a5⟩
structure Lst (t:A2) (s s':A6):Prop where
 has:∀ x,x∈s.has->x∈s'.has
 on:∀ x,x∈s.has->Ed s'.has s'.jf x=Ed s.has s.jf x
 dn:∀ e a:Nat,(e:Int)∈s.has->a < t.nodes.length->dnB t s' e a=dnB t s e a
 vis:∀ e:Nat,(e:Int)∈s.has->RP t s e=true->RP t s' e=true
theorem Lst.refl (t:A2) (s:A6):Lst t s s:=⟨fun _ h=>h,fun _ _=>rfl,fun _ _ _ _=>rfl,fun _ _ h=>h⟩
theorem Lst.trans {t:A2} {a b c:A6} (h:Lst t a b) (k:Lst t b c):Lst t a c :=
 ⟨fun x hx=>k.has x (h.has x hx),fun x hx=>(k.on x (h.has x hx)).trans (h.on x hx),fun e x he hx=>(k.dn e x (h.has _ he) hx).trans (h.dn e x he hx),fun e he hv=>k.vis e (h.has _ he) (h.vis e he hv)⟩
def He (S:BitVec 64):Nat:=((List.range 64).filter fun j=>!S.getLsbD j).length
theorem A5n {α:Type} {p q:α->Bool} (h:∀ y,p y=true->q y=true):∀ l:List α,(l.filter p).length<=(l.filter q).length
 | []=>Nat.le_refl _
 | y::l=>by
  have ih:=A5n h l
  rw [filter_cons,filter_cons]
  cases c:p y with
  | true=>rw [if_pos rfl,if_pos (h y c),length_cons,length_cons];omega
  | false =>
   rw [if_neg (by decide)]
   split
   .rw [length_cons];omega
   .exact ih
theorem PE {α:Type} {p q:α->Bool} (h:∀ y,p y=true->q y=true) {x:α} (hq:q x=true) (hp:p x=false):∀ {l:List α},x∈l->(l.filter p).length < (l.filter q).length
 | y::l,hx=>by
  rw [filter_cons,filter_cons]
  rcases List.mem_cons.1 hx with rfl | hx
  .have:=A5n h l
   rw [hp,hq,if_neg (by decide),if_pos rfl,length_cons];omega
  .have ih:=PE h hq hp hx
   cases c:p y with
   | true=>rw [if_pos rfl,if_pos (h y c),length_cons,length_cons];omega
   | false =>
    rw [if_neg (by decide)]
    split
    .rw [length_cons];omega
    .exact ih
theorem ZP {S:BitVec 64} {n:Nat} (hn:n < 64) (h:S.getLsbD n=false):He (S ||| BK (n:Int)) < He S:=by
 refine PE (x:=n) (fun y hy=>?_) (by rw [h];rfl) ?_ (List.mem_range.2 hn)
 .rw [BitVec.getLsbD_or,Bool.not_eq_true',Bool.or_eq_false_iff] at hy
  rw [hy.1];rfl
 .rw [BitVec.getLsbD_or,A6H hn,decide_eq_true rfl,Bool.or_true];rfl
theorem Ae9 (S:BitVec 64):He S<=64:=by
 refine Nat.le_trans (List.length_filter_le _ _) ?_
 simp
def Pv (t:A2) (s:A6) (n:Nat):List Int:=(if 0<=Li s n then [Li s n] else [])++(if 0<=(t.at n).up then [(t.at n).up] else [])++(if 0<=(t.at n).thread then (List.range t.locs.length).map fun (k:Nat)=>(k:Int) else [])
theorem A0X (t:A2) (ht:A9 t) (s:A6) (n:Nat):(Pv t s n).length<=6:=by
 have:=ht.l4
 unfold Pv
 split<;>split<;>split<;>simp<;>omega
theorem A3l {t:A2} (ht:A9 t) {s:A6} {e r:Nat} (he:e < t.nodes.length):hgB t s e r=true↔EO (fun a b=>BC t s s.has.length b a) t.nodes.length e r\/e=r:=by
 rw [hgB,Tl,or_eq_true,decide_eq_true_eq,E3 ht.n64 _ he]
section
variable {t:A2} (ht:A9 t) {s:A6} (hf:Bg t s)
include ht hf
theorem AcS {n:Nat} (hn:(n:Int)∈s.has) {r:Int} (h:r∈Pv t s n):∃ m:Nat,r=m/\m < t.nodes.length/\(m:Int)∈s.has/\BC t s s.has.length m n=true:=by
 have hF:=Ba (B3 (AY.2 hf))
 obtain ⟨n',e,h2⟩:=A7 (hf.node _ hn)
 have e:n=n':=by omega
 subst e
 have fin:∀ m:Nat,(m:Int)∈s.has->(Ah t m n=true\/Ed s.has s.jf n=(m:Int))->∃ k:Nat,(m:Int)=k/\k < t.nodes.length/\(k:Int)∈s.has/\BC t s s.has.length k n=true:=fun m hm h=>by
  obtain ⟨m',e,h3⟩:=A7 (hf.node _ hm)
  have e:m=m':=by omega
  subst e
  refine ⟨m,rfl,h3,hm,(Rz ht hf).2 ⟨hn,?_⟩⟩
  rcases h with h | h
  .exact .inl ⟨hm,h⟩
  .exact .inr h
 simp only [Pv,mem_append] at h
 rcases h with (h | h) | h
 .split at h
  .rename_i c
   rw [List.mem_singleton] at h
   subst h
   have hk:(t.at n).kind=2:=by
    apply Classical.byContradiction
    intro hk
    have:=hF.none n hn (by rw [toNat_natCast];exact hk)
    rw [K0 hF.len] at c
    omega
   obtain ⟨q1,_,_⟩:=hF.read n hn (by rw [toNat_natCast];exact hk)
   obtain ⟨w,hw,_⟩:=A7 (hf.node _ q1)
   rw [K0 hF.len,hw]
   rw [hw] at q1
   exact fin w q1 (.inr hw)
  .cases h
 .split at h
  .rename_i c
   rw [List.mem_singleton] at h
   subst h
   have hu:=hf.up _ hn
   rw [toNat_natCast] at hu
   obtain ⟨u,h0⟩:=Int.eq_ofNat_of_zero_le c
   rw [h0]
   have h4:(u:Int)∈s.has:=by
    rcases hu with h | h
    .omega
    .rw [<- h0];exact h
   have:=SD ht h2 c
   rw [h0] at this
   exact fin u h4 (.inl this)
  .cases h
 .split at h
  .rename_i c
   obtain ⟨k,hk,rfl⟩:=List.mem_map.1 h
   have hk:=List.mem_range.1 hk
   have I:=ht.init k hk
   have h1:k < t.nodes.length:=by have:=ht.first.1;omega
   refine fin k (A39 ht hf h1 (by rw [I.up];decide)) (.inl ?_)
   simp only [Ah,Cl h1,Cl h2,toNat_natCast,I.thr,Bool.true_and]
   rw [if_pos (by decide)]
   exact decide_eq_true c
  .cases h
theorem RC {S:Nat->Prop} (hS:∀ n:Nat,S n->(n:Int)∈s.has->∀ r:Nat,(r:Int)∈Pv t s n->S r) {e r:Nat} (he:(e:Int)∈s.has) (h0:S e) (h:hgB t s e r=true):S r/\(r:Int)∈s.has:=by
 have hF:=Ba (B3 (AY.2 hf))
 obtain ⟨e',e1,h7⟩:=A7 (hf.node _ he)
 have e1:e=e':=by omega
 subst e1
 have up:∀ (N b:Nat),b < N->(b:Int)∈s.has->S b->∀ a:Nat,Az t a b=true->S a/\(a:Int)∈s.has:=by
  intro N
  induction N with
  | zero=>intro b h;omega
  | succ N ih =>
   intro b hN hb h9 a h
   obtain ⟨b',e,h6⟩:=A7 (hf.node _ hb)
   have e:b=b':=by omega
   subst e
   have hh:=ht.up b h6
   rcases Int.lt_or_le (t.at b).up 0 with c | c
   .unfold Az at h
    rw [DU ht.up a (by omega),if_pos c] at h
    cases h
   .obtain ⟨m,hm⟩:=Int.eq_ofNat_of_zero_le c
    have hu:=hf.up _ hb
    rw [toNat_natCast] at hu
    have h8:(m:Int)∈s.has:=by
     rcases hu with hu | hu
     .omega
     .rw [<- hm];exact hu
    have h4:S m:=hS b h9 hb m (by
     simp only [Pv,mem_append]
     left;right
     rw [if_pos c,hm];simp)
    rw [HI ht.up h6 hm,or_eq_true,decide_eq_true_eq] at h
    rcases h with h | h
    .rw [<- h];exact ⟨h4,h8⟩
    .exact ih m (by omega) h8 h4 a h
 have one:∀ {a b:Nat},S a->(a:Int)∈s.has->a < t.nodes.length->BC t s s.has.length b a=true->S b/\(b:Int)∈s.has:=fun {a b} ha hi hal h=>by
  obtain ⟨_,⟨h1,h2⟩ | h⟩:=(Rz ht hf).1 h
  .refine ⟨?_,h1⟩
   have h5:=h2
   simp only [Ah,and_eq_true,toNat_natCast] at h5
   obtain ⟨⟨n1,n2⟩,h3⟩:=h5
   simp only [BU,and_eq_true,decide_eq_true_eq] at n1 n2
   by_cases c:(t.at b).thread < 0
   .rw [if_pos c,decide_eq_true_eq] at h3
    have hd:=(ht.thr_iff (m:=b) (by omega)).1 c
    refine hS a ha hi b ?_
    simp only [Pv,mem_append]
    right
    rw [if_pos h3]
    exact List.mem_map.2 ⟨b,List.mem_range.2 hd,rfl⟩
   .rw [if_neg c] at h3
    exact (up _ a (Nat.lt_succ_self _) hi ha b h3).1
  .have hk:(t.at a).kind=2:=by
    apply Classical.byContradiction
    intro hk
    have:=hF.none a hi (by rw [toNat_natCast];exact hk)
    omega
   obtain ⟨q1,_,_⟩:=hF.read a hi (by rw [toNat_natCast];exact hk)
   rw [h] at q1
   refine ⟨hS a ha hi b ?_,q1⟩
   simp only [Pv,mem_append]
   left;left
   rw [K0 hF.len,h,if_pos (by omega)];simp
 rw [A3l ht h7] at h
 rcases h with h | h
 .have hg:∀ {r:Nat},EO (fun a b=>BC t s s.has.length b a) t.nodes.length e r->S r/\(r:Int)∈s.has/\r < t.nodes.length:=by
   intro r h
   induction h with
   | one hb h=>obtain ⟨a,b⟩:=one h0 he h7 h;exact ⟨a,b,hb⟩
   | more _ hc h ih=>obtain ⟨a,b⟩:=one ih.1 ih.2.1 ih.2.2 h;exact ⟨a,b,hc⟩
  have:=hg h
  exact ⟨this.1,this.2.1⟩
 .rw [<- h];exact ⟨h0,he⟩
end
def Kf (R:Rows) (e k:Nat):List Int:=((List.range k).filter fun i=>!decide (i=e) && B1 (R.getD i 0#64) (e:Int)).map fun (i:Nat)=>(i:Int)
def Rc (R:Rows) (e:Nat):List Int:=(e:Int)::Kf R e R.length
theorem Afu {R:Rows} {e k:Nat} (h1:decide (k=e)=false) (h2:B1 (R.getD k 0#64) (e:Int)=true):Kf R e (k+1)=Kf R e k++[(k:Int)]:=by
 rw [Kf,range_succ,List.filter_append,List.filter_cons_of_pos (by rw [h1,h2];rfl),List.filter_nil,map_append];rfl
theorem A6L {R:Rows} {e k:Nat} (h:(!decide (k=e) && B1 (R.getD k 0#64) (e:Int))=false):Kf R e (k+1)=Kf R e k:=by
 rw [Kf,range_succ,List.filter_append,List.filter_cons_of_neg (by rw [h];decide),List.filter_nil,append_nil];rfl
theorem T6 (R:Rows) (e k:Nat):(Kf R e k).length<=k:=by
 rw [Kf,length_map];refine Nat.le_trans (List.length_filter_le _ _) ?_;simp
def LJ (t:A2) (a b:List Int):Bool:=a.any fun x=>b.any fun y=>AH t x y
section
variable {V:Am} (C:Ap V) {Q:VV->Prop}
include C
theorem Yu (R:Rows) (hR:R.length<=64) (e:Nat) (he:e < 64):VP V AbO [lW R,.i .i64 e] Q↔Q (lI (Rc R e)):=by
 refine Ad ?_
 rw [Ab C.c_z51.1 C.c_z51.2]
 simp only [Agh,go_sem,↓reduceIte]
 refine Aa (by decide) R.length (by omega) (I:=fun k F h=>A3.tmp F 0=lW R/\A3.tmp F 1 = .i .i64 e/\∃ L,L=Kf R e k/\A3.tmp F 5 = .sl 0 L.length 0 (L.length+1)/\h=[some ⟨AO,1,L.length,false,((e:Int)::L).map eI⟩]) ?_ ?_ ?_ 0 _ _ (zero_le _) ?_ ?_
 .rintro k F h hk p6 ⟨p0,p1,L,hL,p5,rfl⟩
  simp only [go_sem,↓reduceIte,p0,p1,p5,p6]
  exact ⟨L,hL,rfl,rfl⟩
 .rintro k F h hk p6 ⟨p0,p1,L,hL,p5,rfl⟩
  have h2:=T6 R e k
  have b1:(L.length+1+1) * 8<=A8:=by rw [hL];unfold A8;omega
  have h1:decide ((k:Int)=(e:Int))=decide (k=e):=decide_eq_decide.2 ⟨fun h=>by omega,fun h=>by omega⟩
  have h0:=fun (Q:VV->Prop)=>T9 C R (k:Int) (e:Int) (by omega) (Q:=Q)
  rw [decide_eq_true (show (0:Int)<=(k:Int) by omega),Bool.true_and,toNat_natCast] at h0
  cases c1:decide (k=e) with
  | true =>
   simp only [go_sem,↓reduceIte,p0,p1,p5,p6,hk,h1,c1,A0]
   exact ⟨L,by rw [A6L (by rw [c1];rfl)];exact hL,rfl,rfl⟩
  | false =>
  cases c2:B1 (R.getD k 0#64) (e:Int) with
  | false =>
   simp only [go_sem,↓reduceIte,p0,p1,p5,p6,hk,h1,c1,h0,c2,A0]
   exact ⟨L,by rw [A6L (by rw [c2,Bool.and_false])];exact hL,rfl,rfl⟩
  | true =>
   simp only [go_sem,↓reduceIte,p0,p1,p5,p6,hk,h1,c1,h0,c2,b1,length_map,length_cons,A0]
   refine ⟨L++[(k:Int)],by rw [Afu c1 c2,hL],by simp,?_⟩
   simp
 .rintro F h ⟨p0,p1,L,hL,p5,rfl⟩
  subst hL
  simp only [go_sem,↓reduceIte,p0,p1,p5,length_map,length_cons]
  rfl
 .simp only [go_sem,↓reduceIte]
 .simp only [go_sem,↓reduceIte]
  exact ⟨[],rfl,rfl,rfl,rfl⟩
theorem Sk (t:A2) (hu:HZ t) (a b:List Int) (ha:a.length<=1000) (hb:b.length<=1000):VP V AbP [vT t,lI a,lI b] Q↔Q (.b (LJ t a b)):=by
 refine Ad ?_
 rw [Ab C.c_z52.1 C.c_z52.2]
 have h1:=fun (x y:Int) (Q:VV->Prop)=>ES C t hu x y (Q:=Q)
 have h2:(∀ i,i < a.length->∀ k,k < b.length->AH t (a.getD i 0) (b.getD k 0)=false)->LJ t a b=false:=fun h=>by
  rw [LJ,List.any_eq_false]
  intro x hx
  rw [Bool.not_eq_true,List.any_eq_false]
  intro y hy
  obtain ⟨i,hi,rfl⟩:=getElem_of_mem hx
  obtain ⟨k,hk,rfl⟩:=getElem_of_mem hy
  have:=h i hi k hk
  rw [getD_eq_getElem?_getD,List.getElem?_eq_getElem hi,getD_eq_getElem?_getD,List.getElem?_eq_getElem hk] at this
  rw [Bool.not_eq_true];exact this
 have h0:∀ {i k:Nat},i < a.length->k < b.length->AH t (a.getD i 0) (b.getD k 0)=true->LJ t a b=true:=fun hi hk h=>by
  rw [LJ,any_eq_true]
  refine ⟨_,Ac (d:=0) hi,?_⟩
  rw [any_eq_true]
  exact ⟨_,Ac (d:=0) hk,h⟩
 simp only [Agi,go_sem,↓reduceIte]
 refine Aa (by decide) a.length (by omega) (I:=fun i F h=>A3.tmp F 1=lI a/\A3.tmp F 2=lI b/\A3.tmp F 3 = .fp (eT t) 0/\h=[]/\∀ j,j < i->∀ k,k < b.length->AH t (a.getD j 0) (b.getD k 0)=false) ?_ ?_ ?_ 0 _ _ (zero_le _) ?_ ?_
 .rintro i F h hi p7 ⟨p1,p2,p3,rfl,pr⟩
  simp only [go_sem,↓reduceIte,p7,p1,p2,p3]
  exact pr
 .rintro i F h hi p7 ⟨p1,p2,p3,rfl,pr⟩
  have gA:=Ak hi
  simp only [go_sem,↓reduceIte,p7,p1,p2,p3,A0]
  refine Aa (by decide) b.length (by omega) (I:=fun k F h=>A3.tmp F 7 = .i .i64 i/\A3.tmp F 1=lI a/\A3.tmp F 2=lI b/\A3.tmp F 3 = .fp (eT t) 0/\h=[]/\∀ j,j < k->AH t (a.getD i 0) (b.getD j 0)=false) ?_ ?_ ?_ 0 _ _ (zero_le _) ?_ ?_
  .rintro k F h hk q8 ⟨q7,q1,q2,q3,rfl,qr⟩
   simp only [go_sem,↓reduceIte,q8,q7,q1,q2,q3]
   exact qr
  .rintro k F h hk q8 ⟨q7,q1,q2,q3,rfl,qr⟩
   have gB:=Ak hk
   cases d:AH t (a.getD i 0) (b.getD k 0) with
   | true =>
    have hb:=h0 hi hk d
    simp only [go_sem,↓reduceIte,q8,q7,q1,q2,q3,gA,gB,hi,hk,h1,d,hb,A0]
   | false =>
    simp only [go_sem,↓reduceIte,q8,q7,q1,q2,q3,gA,gB,hi,hk,h1,d,A0]
    intro j hj
    rcases lt_or_ge j k with c | c
    .exact qr j c
    .rw [show j=k by omega];exact d
  .rintro F h ⟨q7,q1,q2,q3,rfl,qr⟩
   simp only [go_sem,↓reduceIte,q7,q1,q2,q3]
   intro j hj
   rcases lt_or_ge j i with c | c
   .exact pr j c
   .rw [show j=i by omega];exact qr
  .simp only [go_sem,↓reduceIte]
  .simp only [go_sem,↓reduceIte,p7,p1,p2,p3]
   intro j hj;omega
 .rintro F h ⟨p1,p2,p3,rfl,pr⟩
  have hb:=h2 pr
  simp only [go_sem,↓reduceIte,p1,p2,p3,hb]
 .simp only [go_sem,↓reduceIte]
 .simp only [go_sem,↓reduceIte]
  intro j hj;omega
end
def hgW (t:A2) (s:A6) (e:Nat):BitVec 64:=(Aj t.nodes.length (hgB t s)).getD e 0#64
def HgK (L:List Int) (v k:Nat) (K:List Int) (w:Nat):Prop:=K=L++(List.range k).map (fun (k:Nat)=>(k:Int))/\w=v+k
structure HgI (t:A2) (s:A6) (e:Nat) (S:BitVec 64) (L:List Int) (i:Nat):Prop where
 le:i<=L.length
 reach:∀ x∈L,∃ m:Nat,x=m/\m < t.nodes.length/\(m:Int)∈s.has/\hgB t s e m=true
 done:∀ j,j < i->S.getLsbD (L.getD j 0).toNat=true
 sub:∀ m:Nat,S.getLsbD m=true->hgB t s e m=true/\m < t.nodes.length
 clo:∀ m:Nat,S.getLsbD m=true->∀ r∈Pv t s m,r∈L
 first:(e:Int)∈L
 size:L.length+6 * He S<=1+6 * 64
section
variable {t:A2} (ht:A9 t) {s:A6} (hf:Bg t s) {e:Nat} (he:(e:Int)∈s.has) {S:BitVec 64} {L:List Int} {i:Nat} (I:HgI t s e S L i)
include ht hf he I
theorem HgI.skip (hi:i < L.length) {m:Nat} (hm:L.getD i 0=(m:Int)) (h:S.getLsbD m=true):HgI t s e S L (i+1) :=
 ⟨hi,I.reach,fun j hj=>by
  by_cases c:j=i
  .rw [c,hm];exact h
  .exact I.done j (by omega),I.sub,I.clo,I.first,I.size⟩
theorem HgI.put (hi:i < L.length) {m:Nat} (hm:L.getD i 0=(m:Int)) (h:S.getLsbD m=false):HgI t s e (S ||| BK (m:Int)) (L++Pv t s m) (i+1):=by
 have hc:=ht.n64
 obtain ⟨m',e1,h9,h8,h4⟩:=I.reach _ (Ac (d:=0) hi)
 rw [hm] at e1
 have e1:m=m':=by omega
 subst e1
 have h7:e < t.nodes.length:=by
  obtain ⟨_,e2,h2⟩:=A7 (hf.node _ he);omega
 have hb:∀ x:Nat,(S ||| BK (m:Int)).getLsbD x=true↔S.getLsbD x=true\/x=m:=fun x=>by
  rw [BitVec.getLsbD_or,or_eq_true,Cb]
  simp only [decide_eq_true_eq]
  constructor
  .rintro (h | h)
   .exact .inl h
   .exact .inr (by omega)
  .rintro (h | h)
   .exact .inl h
   .exact .inr ⟨by omega,by omega⟩
 have h0:∀ j,j < L.length->(L++Pv t s m).getD j 0=L.getD j 0:=fun j hj=>by
  rw [getD_eq_getElem?_getD,List.getElem?_append_left hj,<- getD_eq_getElem?_getD]
 refine ⟨by rw [length_append];omega,fun x hx=>?_,fun j hj=>?_,fun x hx=>?_,fun x hx r hr=>?_,List.mem_append_left _ I.first,?_⟩
 .rcases List.mem_append.1 hx with hx | hx
  .exact I.reach x hx
  .obtain ⟨r,rfl,h5,ha,h6⟩:=AcS ht hf h8 hx
   refine ⟨r,rfl,h5,ha,?_⟩
   rw [A3l ht h7] at h4 ⊢
   left
   rcases h4 with h | h
   .exact .more h h5 h6
   .rw [h];exact .one h5 h6
 .rw [h0 j (by omega),hb]
  by_cases c:j=i
  .right;rw [c,hm,toNat_natCast]
  .exact .inl (I.done j (by omega))
 .rcases (hb x).1 hx with h | h
  .exact I.sub x h
  .rw [h];exact ⟨h4,h9⟩
 .rcases (hb x).1 hx with h | h
  .exact List.mem_append_left _ (I.clo x h r hr)
  .rw [h] at hr;exact List.mem_append_right _ hr
 .have h1:=ZP (S:=S) (n:=m) (by omega) h
  have h2:=A0X t ht s m
  have h3:=I.size
  rw [length_append];omega
theorem HgI.fin (hi:¬ i < L.length):S=hgW t s e:=by
 have h3:=ht.n64
 have h1:e < t.nodes.length:=by
  obtain ⟨_,e2,h2⟩:=A7 (hf.node _ he);omega
 have h0:∀ r:Nat,(r:Int)∈L->S.getLsbD r=true:=fun r hr=>by
  obtain ⟨j,hj,ej⟩:=getElem_of_mem hr
  have:=I.done j (by have:=I.le;omega)
  rw [getD_eq_getElem?_getD,List.getElem?_eq_getElem hj,Option.getD_some,ej,toNat_natCast] at this
  exact this
 apply Bm
 intro j hj
 rw [hgW,getD_eq_getElem?_getD,BA h1,Option.getD_some,AE,decide_eq_true hj,Bool.and_true,Bool.eq_iff_iff,and_eq_true,decide_eq_true_eq]
 constructor
 .intro h
  exact ⟨(I.sub j h).2,(I.sub j h).1⟩
 .rintro ⟨_,h⟩
  exact (RC ht hf (S:=fun m=>S.getLsbD m=true) (fun n hn _ r hr=>h0 r (I.clo n hn _ hr)) he (h0 e I.first) h).1
end
section
variable {V:Am} (C:Ap V) {Q:VV->Prop}
include C
theorem Sf (t:A2) (ht:A9 t) (s:A6) (hs:El s) (hf:Bg t s) {e:Nat} (he:(e:Int)∈s.has):VP V Aca [vT t,Eu s,.i .i64 e] Q↔Q (vW (hgW t s e)):=by
 refine Ad ?_
 rw [Ab C.c_z92.1 C.c_z92.2]
 have h9:=ht.n64
 have l4:=ht.l4
 obtain ⟨e',e1,h7⟩:=A7 (hf.node _ he)
 have e1:e=e':=by omega
 subst e1
 simp only [Agq,go_sem,↓reduceIte]
 unfold VL
 rw [A0]
 refine AA (M:=Nat) (I:=fun x F h=>A3.tmp F 3 = .fp (eT t) 0/\A3.tmp F 4 = .fp (EX s) 0/\∃ S L i v,HgI t s e S L i/\L.length=v+1/\x=8 * He S+(L.length - i)/\A3.tmp F 7=vW S/\A3.tmp F 8 = .sl 0 v 0 (v+1)/\A3.tmp F 9 = .i .i64 (i:Nat)/\h=[some ⟨AO,1,v,false,L.map eI⟩]) (μ:=fun x=>x) ?_ (8 * He 0#64+1) _ _ ⟨?_,?_,0#64,[(e:Int)],0,0,?_,rfl,rfl,?_,?_,?_,?_⟩
 .rintro x F h ⟨p3,p4,S,L,i,v,I,hv,hx,p7,p8,p9,rfl⟩
  have ha:L.length<=385:=by have:=I.size;omega
  have h5:(L.map eI).length=v+1:=by rw [length_map];exact hv
  by_cases c:i < L.length
  .obtain ⟨m,hm,h1,hc,hd⟩:=I.reach _ (Ac (d:=0) c)
   have gL:=Ak c
   rw [hm] at gL
   have ci:decide ((i:Int) < ((v+1:Nat):Int))=true:=decide_eq_true (by omega)
   have cj:decide (i < v+1)=true:=decide_eq_true (by omega)
   have cv:i < v+1:=by omega
   have wi:IntKind.i64.wrap ((i:Int)+1)=((i+1:Nat):Int):=by rw [Av (by omega) (by omega)];omega
   cases d:B1 S (m:Int) with
   | true =>
    simp only [GF,go_sem,↓reduceIte,p3,p4,p7,p8,p9,c,ci,cj,cv,hv,gL,AR C,d,wi,A0]
    rw [AD] at d
    exact ⟨_,by omega,S,L,i+1,I.skip ht hf he c hm d,v,hv,rfl,rfl,rfl,rfl,rfl⟩
   | false =>
    have d':=d
    rw [AD] at d'
    have P:=I.put ht hf he c hm d'
    have hb:=ZP (S:=S) (n:=m) (by omega) d'
    have hg:=A0X t ht s m
    have hj:=fun (Q:VV->Prop)=>Jk C s hs (m:Int) (Q:=Q)
    have b1:(v+1+1) * 8<=A8:=by unfold A8;omega
    have b2:(v+1+1+1) * 8<=A8:=by unfold A8;omega
    obtain ⟨j,h8⟩:∃ j,j=Li s m:=⟨_,rfl⟩
    rw [<- h8] at hj
    have h0:Pv t s m=(if 0<=j then [j] else [])++(if 0<=(t.at m).up then [(t.at m).up] else [])++(if 0<=(t.at m).thread then (List.range t.locs.length).map fun (k:Nat)=>(k:Int) else []):=by rw [h8];rfl
    rcases Int.lt_or_le j 0 with c1 | c1
    .have d1:decide (0<=j)=false:=decide_eq_false (by omega)
     rw [if_neg (by omega)] at h0
     rcases Int.lt_or_le (t.at m).up 0 with c2 | c2
     .have d2:decide (0<=(t.at m).up)=false:=decide_eq_false (by omega)
      rw [if_neg (by omega)] at h0
      rcases Int.lt_or_le (t.at m).thread 0 with c3 | c3
      .have d3:decide (0<=(t.at m).thread)=false:=decide_eq_false (by omega)
       rw [if_neg (by omega)] at h0
       simp only [GF,go_sem,↓reduceIte,p3,p4,p7,p8,p9,c,ci,cj,cv,hv,gL,AR C,Bk C,d,wi,hj,d1,d2,h1,A5 h1,b1,b2,h5,D2,length_append,length_map,A0,d3]
       rw [h0] at P
       simp only [append_nil,nil_append,append_assoc,cons_append] at P
       exact ⟨8 * He (S ||| BK (m:Int))+((L).length - (i+1)),by (try simp only [length_append,length_cons,length_nil]);omega,_,_,i+1,P,v,by (try simp only [length_append,length_cons,length_nil]);omega,rfl,rfl,rfl,rfl,rfl⟩
      .have d3:decide (0<=(t.at m).thread)=true:=decide_eq_true c3
       rw [if_pos c3] at h0
       simp only [GF,go_sem,↓reduceIte,p3,p4,p7,p8,p9,c,ci,cj,cv,hv,gL,AR C,Bk C,d,wi,hj,d1,d2,h1,A5 h1,b1,b2,h5,D2,length_append,length_map,A0,d3]
       refine Aa (by decide) t.locs.length (by omega) (I:=fun k F h=>A3.tmp F 3 = .fp (eT t) 0/\A3.tmp F 4 = .fp (EX s) 0/\A3.tmp F 7=vW (S ||| BK (m:Int))/\A3.tmp F 9 = .i .i64 (i:Nat)/\∃ K v',HgK (L) (v) k K v'/\A3.tmp F 8 = .sl 0 v' 0 (v' + 1)/\h=[some ⟨AO,1,v',false,K.map eI⟩]) ?_ ?_ ?_ 0 _ _ (zero_le _) ?_ ?_
       .rintro k F h hk h3 ⟨q3,q4,q7,q9,K,v',hK,q8,rfl⟩
        simp only [go_sem,↓reduceIte,h3,q3,q4,q7,q8,q9]
        exact ⟨K,v',hK,rfl,rfl⟩
       .rintro k F h hk h3 ⟨q3,q4,q7,q9,K,v',hK,q8,rfl⟩
        have h6:=hK.2
        have h2:(K.map eI).length=v' + 1:=by rw [length_map,hK.1];simp only [length_append,length_cons,length_nil,length_map,List.length_range];omega
        have b3:(v' + 1+1) * 8<=A8:=by unfold A8;omega
        simp only [go_sem,↓reduceIte,h3,q3,q4,q7,q8,q9,h2,b3,D2,A0]
        exact ⟨K++[(k:Int)],v' + 1,⟨by rw [hK.1,range_succ,map_append,<- append_assoc];rfl,by omega⟩,rfl,rfl⟩
       .rintro F h ⟨q3,q4,q7,q9,K,v',hK,q8,rfl⟩
        have h6:=hK.2
        have h2:K.length=v' + 1:=by rw [hK.1];simp only [length_append,length_cons,length_nil,length_map,List.length_range];omega
        rw [h0] at P
        simp only [append_nil,nil_append,append_assoc,cons_append] at P
        have h4:=hK.1
        (try simp only [append_assoc,cons_append,nil_append] at h4)
        rw [<- h4] at P
        simp only [go_sem,↓reduceIte,q3,q4,q7,q8,q9,wi]
        exact ⟨8 * He (S ||| BK (m:Int))+(K.length - (i+1)),by omega,_,K,i+1,P,v',h2,rfl,rfl,rfl,rfl,rfl⟩
       .simp only [go_sem,↓reduceIte]
       .simp only [go_sem,↓reduceIte,p3,p4,p8,p9]
        exact ⟨_,_,⟨by rw [List.range_zero,map_nil,append_nil],rfl⟩,rfl,rfl⟩
     .have d2:decide (0<=(t.at m).up)=true:=decide_eq_true c2
      rw [if_pos c2] at h0
      rcases Int.lt_or_le (t.at m).thread 0 with c3 | c3
      .have d3:decide (0<=(t.at m).thread)=false:=decide_eq_false (by omega)
       rw [if_neg (by omega)] at h0
       simp only [GF,go_sem,↓reduceIte,p3,p4,p7,p8,p9,c,ci,cj,cv,hv,gL,AR C,Bk C,d,wi,hj,d1,d2,h1,A5 h1,b1,b2,h5,D2,length_append,length_map,A0,d3]
       rw [h0] at P
       simp only [append_nil,nil_append,append_assoc,cons_append] at P
       exact ⟨8 * He (S ||| BK (m:Int))+((L++[(t.at m).up]).length - (i+1)),by (try simp only [length_append,length_cons,length_nil]);omega,_,_,i+1,P,v+1,by (try simp only [length_append,length_cons,length_nil]);omega,rfl,rfl,rfl,rfl,rfl⟩
      .have d3:decide (0<=(t.at m).thread)=true:=decide_eq_true c3
       rw [if_pos c3] at h0
       simp only [GF,go_sem,↓reduceIte,p3,p4,p7,p8,p9,c,ci,cj,cv,hv,gL,AR C,Bk C,d,wi,hj,d1,d2,h1,A5 h1,b1,b2,h5,D2,length_append,length_map,A0,d3]
       refine Aa (by decide) t.locs.length (by omega) (I:=fun k F h=>A3.tmp F 3 = .fp (eT t) 0/\A3.tmp F 4 = .fp (EX s) 0/\A3.tmp F 7=vW (S ||| BK (m:Int))/\A3.tmp F 9 = .i .i64 (i:Nat)/\∃ K v',HgK (L++[(t.at m).up]) (v+1) k K v'/\A3.tmp F 8 = .sl 0 v' 0 (v' + 1)/\h=[some ⟨AO,1,v',false,K.map eI⟩]) ?_ ?_ ?_ 0 _ _ (zero_le _) ?_ ?_
       .rintro k F h hk h3 ⟨q3,q4,q7,q9,K,v',hK,q8,rfl⟩
        simp only [go_sem,↓reduceIte,h3,q3,q4,q7,q8,q9]
        exact ⟨K,v',hK,rfl,rfl⟩
       .rintro k F h hk h3 ⟨q3,q4,q7,q9,K,v',hK,q8,rfl⟩
        have h6:=hK.2
        have h2:(K.map eI).length=v' + 1:=by rw [length_map,hK.1];simp only [length_append,length_cons,length_nil,length_map,List.length_range];omega
        have b3:(v' + 1+1) * 8<=A8:=by unfold A8;omega
        simp only [go_sem,↓reduceIte,h3,q3,q4,q7,q8,q9,h2,b3,D2,A0]
        exact ⟨K++[(k:Int)],v' + 1,⟨by rw [hK.1,range_succ,map_append,<- append_assoc];rfl,by omega⟩,rfl,rfl⟩
       .rintro F h ⟨q3,q4,q7,q9,K,v',hK,q8,rfl⟩
        have h6:=hK.2
        have h2:K.length=v' + 1:=by rw [hK.1];simp only [length_append,length_cons,length_nil,length_map,List.length_range];omega
        rw [h0] at P
        simp only [append_nil,nil_append,append_assoc,cons_append] at P
        have h4:=hK.1
        (try simp only [append_assoc,cons_append,nil_append] at h4)
        rw [<- h4] at P
        simp only [go_sem,↓reduceIte,q3,q4,q7,q8,q9,wi]
        exact ⟨8 * He (S ||| BK (m:Int))+(K.length - (i+1)),by omega,_,K,i+1,P,v',h2,rfl,rfl,rfl,rfl,rfl⟩
       .simp only [go_sem,↓reduceIte]
       .simp only [go_sem,↓reduceIte,p3,p4,p8,p9]
        exact ⟨_,_,⟨by rw [List.range_zero,map_nil,append_nil],rfl⟩,rfl,rfl⟩
    .have d1:decide (0<=j)=true:=decide_eq_true c1
     rw [if_pos c1] at h0
     rcases Int.lt_or_le (t.at m).up 0 with c2 | c2
     .have d2:decide (0<=(t.at m).up)=false:=decide_eq_false (by omega)
      rw [if_neg (by omega)] at h0
      rcases Int.lt_or_le (t.at m).thread 0 with c3 | c3
      .have d3:decide (0<=(t.at m).thread)=false:=decide_eq_false (by omega)
       rw [if_neg (by omega)] at h0
       simp only [GF,go_sem,↓reduceIte,p3,p4,p7,p8,p9,c,ci,cj,cv,hv,gL,AR C,Bk C,d,wi,hj,d1,d2,h1,A5 h1,b1,b2,h5,D2,length_append,length_map,A0,d3]
       rw [h0] at P
       simp only [append_nil,nil_append,append_assoc,cons_append] at P
       exact ⟨8 * He (S ||| BK (m:Int))+((L++[j]).length - (i+1)),by (try simp only [length_append,length_cons,length_nil]);omega,_,_,i+1,P,v+1,by (try simp only [length_append,length_cons,length_nil]);omega,rfl,rfl,rfl,rfl,rfl⟩
      .have d3:decide (0<=(t.at m).thread)=true:=decide_eq_true c3
       rw [if_pos c3] at h0
       simp only [GF,go_sem,↓reduceIte,p3,p4,p7,p8,p9,c,ci,cj,cv,hv,gL,AR C,Bk C,d,wi,hj,d1,d2,h1,A5 h1,b1,b2,h5,D2,length_append,length_map,A0,d3]
       refine Aa (by decide) t.locs.length (by omega) (I:=fun k F h=>A3.tmp F 3 = .fp (eT t) 0/\A3.tmp F 4 = .fp (EX s) 0/\A3.tmp F 7=vW (S ||| BK (m:Int))/\A3.tmp F 9 = .i .i64 (i:Nat)/\∃ K v',HgK (L++[j]) (v+1) k K v'/\A3.tmp F 8 = .sl 0 v' 0 (v' + 1)/\h=[some ⟨AO,1,v',false,K.map eI⟩]) ?_ ?_ ?_ 0 _ _ (zero_le _) ?_ ?_
       .rintro k F h hk h3 ⟨q3,q4,q7,q9,K,v',hK,q8,rfl⟩
        simp only [go_sem,↓reduceIte,h3,q3,q4,q7,q8,q9]
        exact ⟨K,v',hK,rfl,rfl⟩
       .rintro k F h hk h3 ⟨q3,q4,q7,q9,K,v',hK,q8,rfl⟩
        have h6:=hK.2
        have h2:(K.map eI).length=v' + 1:=by rw [length_map,hK.1];simp only [length_append,length_cons,length_nil,length_map,List.length_range];omega
        have b3:(v' + 1+1) * 8<=A8:=by unfold A8;omega
        simp only [go_sem,↓reduceIte,h3,q3,q4,q7,q8,q9,h2,b3,D2,A0]
        exact ⟨K++[(k:Int)],v' + 1,⟨by rw [hK.1,range_succ,map_append,<- append_assoc];rfl,by omega⟩,rfl,rfl⟩
       .rintro F h ⟨q3,q4,q7,q9,K,v',hK,q8,rfl⟩
        have h6:=hK.2
        have h2:K.length=v' + 1:=by rw [hK.1];simp only [length_append,length_cons,length_nil,length_map,List.length_range];omega
        rw [h0] at P
        simp only [append_nil,nil_append,append_assoc,cons_append] at P
        have h4:=hK.1
        (try simp only [append_assoc,cons_append,nil_append] at h4)
        rw [<- h4] at P
        simp only [go_sem,↓reduceIte,q3,q4,q7,q8,q9,wi]
        exact ⟨8 * He (S ||| BK (m:Int))+(K.length - (i+1)),by omega,_,K,i+1,P,v',h2,rfl,rfl,rfl,rfl,rfl⟩
       .simp only [go_sem,↓reduceIte]
       .simp only [go_sem,↓reduceIte,p3,p4,p8,p9]
        exact ⟨_,_,⟨by rw [List.range_zero,map_nil,append_nil],rfl⟩,rfl,rfl⟩
     .have d2:decide (0<=(t.at m).up)=true:=decide_eq_true c2
      rw [if_pos c2] at h0
      rcases Int.lt_or_le (t.at m).thread 0 with c3 | c3
      .have d3:decide (0<=(t.at m).thread)=false:=decide_eq_false (by omega)
       rw [if_neg (by omega)] at h0
       simp only [GF,go_sem,↓reduceIte,p3,p4,p7,p8,p9,c,ci,cj,cv,hv,gL,AR C,Bk C,d,wi,hj,d1,d2,h1,A5 h1,b1,b2,h5,D2,length_append,length_map,A0,d3]
       rw [h0] at P
       simp only [append_nil,nil_append,append_assoc,cons_append] at P
       exact ⟨8 * He (S ||| BK (m:Int))+((L++[j,(t.at m).up]).length - (i+1)),by (try simp only [length_append,length_cons,length_nil]);omega,_,_,i+1,P,v+1+1,by (try simp only [length_append,length_cons,length_nil]);omega,rfl,rfl,rfl,rfl,rfl⟩
      .have d3:decide (0<=(t.at m).thread)=true:=decide_eq_true c3
       rw [if_pos c3] at h0
       simp only [GF,go_sem,↓reduceIte,p3,p4,p7,p8,p9,c,ci,cj,cv,hv,gL,AR C,Bk C,d,wi,hj,d1,d2,h1,A5 h1,b1,b2,h5,D2,length_append,length_map,A0,d3]
       refine Aa (by decide) t.locs.length (by omega) (I:=fun k F h=>A3.tmp F 3 = .fp (eT t) 0/\A3.tmp F 4 = .fp (EX s) 0/\A3.tmp F 7=vW (S ||| BK (m:Int))/\A3.tmp F 9 = .i .i64 (i:Nat)/\∃ K v',HgK (L++[j,(t.at m).up]) (v+1+1) k K v'/\A3.tmp F 8 = .sl 0 v' 0 (v' + 1)/\h=[some ⟨AO,1,v',false,K.map eI⟩]) ?_ ?_ ?_ 0 _ _ (zero_le _) ?_ ?_
       .rintro k F h hk h3 ⟨q3,q4,q7,q9,K,v',hK,q8,rfl⟩
        simp only [go_sem,↓reduceIte,h3,q3,q4,q7,q8,q9]
        exact ⟨K,v',hK,rfl,rfl⟩
       .rintro k F h hk h3 ⟨q3,q4,q7,q9,K,v',hK,q8,rfl⟩
        have h6:=hK.2
        have h2:(K.map eI).length=v' + 1:=by rw [length_map,hK.1];simp only [length_append,length_cons,length_nil,length_map,List.length_range];omega
        have b3:(v' + 1+1) * 8<=A8:=by unfold A8;omega
        simp only [go_sem,↓reduceIte,h3,q3,q4,q7,q8,q9,h2,b3,D2,A0]
        exact ⟨K++[(k:Int)],v' + 1,⟨by rw [hK.1,range_succ,map_append,<- append_assoc];rfl,by omega⟩,rfl,rfl⟩
       .rintro F h ⟨q3,q4,q7,q9,K,v',hK,q8,rfl⟩
        have h6:=hK.2
        have h2:K.length=v' + 1:=by rw [hK.1];simp only [length_append,length_cons,length_nil,length_map,List.length_range];omega
        rw [h0] at P
        simp only [append_nil,nil_append,append_assoc,cons_append] at P
        have h4:=hK.1
        (try simp only [append_assoc,cons_append,nil_append] at h4)
        rw [<- h4] at P
        simp only [go_sem,↓reduceIte,q3,q4,q7,q8,q9,wi]
        exact ⟨8 * He (S ||| BK (m:Int))+(K.length - (i+1)),by omega,_,K,i+1,P,v',h2,rfl,rfl,rfl,rfl,rfl⟩
       .simp only [go_sem,↓reduceIte]
       .simp only [go_sem,↓reduceIte,p3,p4,p8,p9]
        exact ⟨_,_,⟨by rw [List.range_zero,map_nil,append_nil],rfl⟩,rfl,rfl⟩
  .have ci:decide ((i:Int) < ((v+1:Nat):Int))=false:=decide_eq_false (by omega)
   have cj:decide (i < v+1)=false:=decide_eq_false (by omega)
   simp only [GF,go_sem,↓reduceIte,p3,p4,p7,p8,p9,c,ci,cj,hv]
   rw [I.fin ht hf he c]
 .simp only [go_sem,↓reduceIte]
 .simp only [go_sem,↓reduceIte]
 .exact ⟨zero_le _,fun x hx=>⟨e,List.mem_singleton.1 hx,h7,he,(A3l ht h7).2 (.inr rfl)⟩,fun j hj=>absurd hj (Nat.not_lt_zero _),fun m hm=>by simp at hm,fun m hm=>by simp at hm,List.mem_singleton.2 rfl,by have:=Ae9 0#64;simp only [List.length_singleton];omega⟩
 .simp only [go_sem,↓reduceIte]
 .simp only [go_sem,↓reduceIte]
 .simp only [go_sem,↓reduceIte]
 .rfl
end
def A7z (t:A2) (s:A6) (w e:Nat):Bool:=(RX t s w).any fun c=>decide (c=(e:Int)) || Ah t c e || Ah t e c
def G3 (t:A2) (s:A6) (e:Nat) (r w:Int):Bool:=decide (w < 0) || !B1 (hgW t s e) r || decide ((t.at w.toNat).thread < 0) || decide ((t.at w.toNat).thread=(t.at r.toNat).thread) || !AH t w e || A7z t s w.toNat e
def AfS (t:A2) (s:A6) (e:Nat):Bool:=(List.range s.has.length).all fun i=>G3 t s e (s.has.getD i 0) (s.jf.getD i 0)
section
variable {V:Am} (C:Ap V) {Q:VV->Prop}
include C
theorem Pq (t:A2) (ht:A9 t) (s:A6) (hs:El s) (hf:Bg t s) {e:Nat} (he:(e:Int)∈s.has):VP V AbQ [vT t,Eu s,.i .i64 e] Q↔Q (.b (AfS t s e)):=by
 refine Ad ?_
 rw [Ab C.c_z53.1 C.c_z53.2]
 have hy:=ht.n64
 have g1:=hs.has
 have hF:=Ba (B3 (AY.2 hf))
 have hg:=fun (Q:VV->Prop)=>Sf C t ht s hs hf he (Q:=Q)
 have hn:=fun (x y:Int) (Q:VV->Prop)=>ES C t ht.up x y (Q:=Q)
 have ho:=fun (x y:Int) (Q:VV->Prop)=>C2 C t ht.up x y (Q:=Q)
 have hq:=fun (loc w:Int) (Q:VV->Prop)=>HA C s hs loc w (Q:=Q)
 unfold AfS
 simp only [Agj,go_sem,↓reduceIte,hg]
 refine Aa (by decide) s.has.length (by omega) (I:=fun i F h=>A3.tmp F 2 = .i .i64 e/\A3.tmp F 3 = .fp (eT t) 0/\A3.tmp F 4 = .fp (EX s) 0/\A3.tmp F 7=vW (hgW t s e)/\h=[]/\∀ j,j < i->G3 t s e (s.has.getD j 0) (s.jf.getD j 0)=true) ?_ ?_ ?_ 0 _ _ (zero_le _) ?_ ?_
 .rintro i F h hi p8 ⟨p2,p3,p4,p7,rfl,pr⟩
  simp only [go_sem,↓reduceIte,p8,p2,p3,p4,p7]
  exact pr
 .rintro i F h hi p8 ⟨p2,p3,p4,p7,rfl,pr⟩
  have gH:=Ak hi
  have h4:i < s.jf.length:=by rw [hf.jl];exact hi
  have gJ:=Ak h4
  obtain ⟨r,hr,h7⟩:=A7 (hf.node _ (Ac (d:=0) hi))
  have hl:=Ac (d:=0) hi
  rw [hr] at gH hl
  obtain ⟨w,hw⟩:∃ w,w=s.jf.getD i 0:=⟨_,rfl⟩
  have hd:=hF.at_ i hi
  rw [hr,<- hw] at hd
  rw [<- hw] at gJ
  have h3:G3 t s e r w=true->∀ j,j < i+1->G3 t s e (s.has.getD j 0) (s.jf.getD j 0)=true:=fun h j hj=>by
   rcases lt_or_ge j i with c | c
   .exact pr j c
   .rw [show j=i by omega,hr,<- hw];exact h
  have h9:G3 t s e r w=false->((List.range s.has.length).all fun i=>G3 t s e (s.has.getD i 0) (s.jf.getD i 0))=false:=fun h=>AF hi (by rw [hr,<- hw];exact h)
  cases d1:decide (w < 0) with
  | true =>
   simp only [go_sem,↓reduceIte,p8,p2,p3,p4,p7,gH,gJ,hi,h4,d1,A0]
   exact h3 (by rw [G3,d1];simp)
  | false =>
  have hk:(t.at r).kind=2:=by
   apply Classical.byContradiction
   intro hk
   have:=hF.none r hl (by rw [toNat_natCast];exact hk)
   rw [hd] at this
   exact of_decide_eq_false d1 (by omega)
  obtain ⟨q1,q2,q3⟩:=hF.read r hl (by rw [toNat_natCast];exact hk)
  rw [hd] at q1 q2 q3
  obtain ⟨x,hx,h2⟩:=A7 (hf.node _ q1)
  obtain ⟨a1,a2,a3,a4,a5⟩:=Qu hf q1 q2 ht
  rw [hx,toNat_natCast] at q2 a1 a2 a3 a4 a5
  rw [hx] at gJ h3 h9 d1
  obtain ⟨loc,h5⟩:=Int.eq_ofNat_of_zero_le a1
  rw [h5] at a2 a3 a4
  obtain ⟨pl,hh⟩:=Int.eq_ofNat_of_zero_le a3
  rw [hh,toNat_natCast] at a4
  have hp:loc < s.mo.length:=by omega
  have h6:pl < (s.mo.getD loc []).length:=by omega
  have gL:=BP hp
  have gI:=EY h6
  have hu:=hs.mc' loc pl
  have ha:RX t s x=(s.mo.getD loc []).getD pl []:=by rw [RX,h5,toNat_natCast,hh,toNat_natCast]
  obtain ⟨K,hK⟩:∃ K,K=(s.mo.getD loc []).getD pl []:=⟨_,rfl⟩
  rw [<- hK] at gI hu ha
  obtain ⟨L,hL⟩:∃ L,L=s.mo.getD loc []:=⟨_,rfl⟩
  rw [<- hL] at gL gI h6
  have hc:G3 t s e r x=(!B1 (hgW t s e) r || decide ((t.at x).thread < 0) || decide ((t.at x).thread=(t.at r).thread) || !AH t x e || A7z t s x e):=by
   rw [G3,d1,Bool.false_or,toNat_natCast,toNat_natCast]
  cases d2:B1 (hgW t s e) (r:Int) with
  | false =>
   simp only [go_sem,↓reduceIte,p8,p2,p3,p4,p7,gH,gJ,hi,h4,d1,AR C,d2,A0]
   exact h3 (by rw [hc,d2];simp)
  | true =>
  cases d3:decide ((t.at x).thread < 0) with
  | true =>
   simp only [go_sem,↓reduceIte,p8,p2,p3,p4,p7,gH,gJ,hi,h4,d1,AR C,d2,h2,A5 h2,d3,A0]
   exact h3 (by rw [hc,d3];simp)
  | false =>
  cases d4:decide ((t.at x).thread=(t.at r).thread) with
  | true =>
   simp only [go_sem,↓reduceIte,p8,p2,p3,p4,p7,gH,gJ,hi,h4,d1,AR C,d2,h2,A5 h2,d3,h7,A5 h7,d4,A0]
   exact h3 (by rw [hc,d4];simp)
  | false =>
  cases d5:AH t x e with
  | false =>
   simp only [go_sem,↓reduceIte,p8,p2,p3,p4,p7,gH,gJ,hi,h4,d1,AR C,d2,h2,A5 h2,d3,h7,A5 h7,d4,hn,d5,A0]
   exact h3 (by rw [hc,d5];simp)
  | true =>
   have hm:G3 t s e r x=K.any fun c=>decide (c=(e:Int)) || Ah t c e || Ah t e c:=by
    rw [hc,d2,d3,d4,d5,A7z,ha];simp
   simp only [go_sem,↓reduceIte,p8,p2,p3,p4,p7,gH,gJ,hi,h4,d1,AR C,d2,h2,A5 h2,d3,h7,A5 h7,d4,hn,d5,h5,gL,gI,hp,h6,hq,hh,A0]
   refine Aa (by decide) K.length (by omega) (I:=fun k F h=>A3.tmp F 8 = .i .i64 i/\A3.tmp F 2 = .i .i64 e/\A3.tmp F 3 = .fp (eT t) 0/\A3.tmp F 4 = .fp (EX s) 0/\A3.tmp F 7=vW (hgW t s e)/\A3.tmp F 11=lI K/\A3.tmp F 12 = .b ((K.take k).any fun c=>decide (c=(e:Int)) || Ah t c e || Ah t e c)/\h=[]) ?_ ?_ ?_ 0 _ _ (zero_le _) ?_ ?_
   .rintro k F h hk h8 ⟨q8,q2,q3,q4,q7,h1,h0,rfl⟩
    simp only [go_sem,↓reduceIte,h8,q8,q2,q3,q4,q7,h1,h0]
   .rintro k F h hk h8 ⟨q8,q2,q3,q4,q7,h1,h0,rfl⟩
    have gK:K[k]? = some K[k]:=List.getElem?_eq_getElem hk
    have hv:((K.take (k+1)).any fun c=>decide (c=(e:Int)) || Ah t c e || Ah t e c)=(((K.take k).any fun c=>decide (c=(e:Int)) || Ah t c e || Ah t e c) || (decide (K[k]=(e:Int)) || Ah t K[k] e || Ah t e K[k])):=by
     rw [List.take_succ_eq_append_getElem hk,List.any_append];simp
    rw [hv]
    cases f0:((K.take k).any fun c=>decide (c=(e:Int)) || Ah t c e || Ah t e c) with
    | true =>
     rw [f0] at h0
     simp only [go_sem,↓reduceIte,h8,q8,q2,q3,q4,q7,h1,h0,gK,hk,A0,Bool.true_or]
    | false =>
    rw [f0] at h0
    cases f1:decide (K[k]=(e:Int)) with
    | true=>simp only [go_sem,↓reduceIte,h8,q8,q2,q3,q4,q7,h1,h0,gK,hk,f1,A0,Bool.true_or,Bool.false_or]
    | false =>
    cases f2:Ah t K[k] e with
    | true=>simp only [go_sem,↓reduceIte,h8,q8,q2,q3,q4,q7,h1,h0,gK,hk,f1,ho,f2,A0,Bool.true_or,Bool.false_or]
    | false =>
    cases f3:Ah t e K[k]<;>simp only [go_sem,↓reduceIte,h8,q8,q2,q3,q4,q7,h1,h0,gK,hk,f1,ho,f2,f3,A0,Bool.true_or,Bool.false_or]
   .rintro F h ⟨q8,q2,q3,q4,q7,h1,h0,rfl⟩
    rw [List.take_length,<- hm] at h0
    cases d6:G3 t s e r x with
    | true =>
     rw [d6] at h0
     simp only [go_sem,↓reduceIte,q8,q2,q3,q4,q7,h1,h0]
     exact h3 d6
    | false =>
     rw [d6] at h0
     have hb:=h9 d6
     simp only [go_sem,↓reduceIte,q8,q2,q3,q4,q7,h1,h0,hb]
   .simp only [go_sem,↓reduceIte]
   .simp only [go_sem,↓reduceIte,p8,p2,p3,p4,p7]
    rfl
 .rintro F h ⟨p2,p3,p4,p7,rfl,pr⟩
  have hb:=AG (p:=fun i=>G3 t s e (s.has.getD i 0) (s.jf.getD i 0)) pr
  simp only [go_sem,↓reduceIte,p2,p3,p4,p7,hb]
 .simp only [go_sem,↓reduceIte]
 .simp only [go_sem,↓reduceIte]
  intro j hj;omega
end
theorem AhC {t:A2} (ht:A9 t) {s:A6} (hf:Bg t s) {w e:Nat} (hw:(w:Int)∈s.has) (hk:(t.at w).kind=3) (he:e < t.nodes.length):A9u t s w e=A7z t s w e:=by
 have h0:=ht.n64
 obtain ⟨h1,h2⟩:=AdO hf ht hw hk
 have hl:=ht.wloc (m:=w) (by obtain ⟨_,a,b⟩:=A7 (hf.node _ hw);omega) (.inr hk)
 have h4:=hf.ml
 unfold A9u A7z
 rw [Bool.eq_iff_iff,any_eq_true,any_eq_true]
 have h3:∀ x∈RX t s w,(decide (x=(e:Int)) || B1 ((JD t).getD x.toNat 0#64) e || B1 ((JD t).getD e 0#64) x)=(decide (x=(e:Int)) || Ah t x e || Ah t e x):=fun x hx=>by
  obtain ⟨m,rfl,hm⟩:=A7 (SO hf ht (loc:=(t.at w).loc.toNat) (by omega) h1 hx)
  rw [toNat_natCast,JD,EJ h0 hm he,EJ h0 he hm]
 constructor
 .rintro ⟨x,hx,hp⟩;exact ⟨x,hx,by rw [<- h3 x hx];exact hp⟩
 .rintro ⟨x,hx,hp⟩;exact ⟨x,hx,by rw [h3 x hx];exact hp⟩
theorem Am5 {t:A2} (ht:A9 t) {s:A6} (hf:Bg t s) {e r:Nat} (he:(e:Int)∈s.has) (h:hgB t s e r=true):(r:Int)∈s.has :=
 (RC ht hf (S:=fun _=>True) (fun _ _ _ _ _=>trivial) he trivial h).2
theorem AjP {t:A2} (ht:A9 t) {s:A6} (hf:Bg t s) {e:Nat} (he:(e:Int)∈s.has):AfS t s e=RP t s e:=by
 have h6:=ht.n64
 have hF:=Ba (B3 (AY.2 hf))
 obtain ⟨e',e1,h3⟩:=A7 (hf.node _ he)
 have e1:e=e':=by omega
 subst e1
 have h5:∀ r:Nat,(r:Int)∈s.has->r < t.nodes.length->B1 (hgW t s e) (r:Int)=true->G3 t s e r (Ed s.has s.jf r) = !S1 t s r e:=fun r hr h2 hg=>by
  unfold S1
  simp only [K0 hF.len]
  by_cases hk:(t.at r).kind=2
  .obtain ⟨q1,q2,_⟩:=hF.read r hr (by rw [toNat_natCast];exact hk)
   obtain ⟨w,hw,h9⟩:=A7 (hf.node _ q1)
   rw [hw,toNat_natCast] at q2
   rw [hw] at q1 ⊢
   rw [G3,toNat_natCast,toNat_natCast,decide_eq_false (show ¬ (w:Int) < 0 by omega),hg]
   by_cases c1:(t.at w).thread < 0
   .rw [decide_eq_true c1,if_pos (.inr (.inl c1))];simp
   .by_cases c2:(t.at w).thread=(t.at r).thread
    .rw [decide_eq_true c2,if_pos (.inr (.inr c2))];simp
    .rw [decide_eq_false c1,decide_eq_false c2,if_neg (by
      rintro (h | h | h)
      .omega
      .exact c1 h
      .exact c2 h),PA,EJ h6 h9 h3,AhC ht hf q1 q2 h3]
     cases AH t w e<;>cases A7z t s w e<;>rfl
  .have hn:=hF.none r hr (by rw [toNat_natCast];exact hk)
   rw [hn,G3,decide_eq_true (show (-1:Int) < 0 by decide),if_pos (.inl (by decide))];simp
 have h7:∀ r:Nat,B1 (hgW t s e) (r:Int)=true↔r < t.nodes.length/\hgB t s e r=true:=fun r=>by
  rw [AD,hgW,getD_eq_getElem?_getD,BA h3,Option.getD_some,AE]
  simp only [and_eq_true,decide_eq_true_eq]
  constructor
  .rintro ⟨⟨a,b⟩,_⟩;exact ⟨a,b⟩
  .rintro ⟨a,b⟩;exact ⟨⟨a,b⟩,by omega⟩
 rw [AfS,RP,Ad8,Bool.eq_iff_iff,Aw,List.all_eq_true]
 constructor
 .intro h x hx
  obtain ⟨h1,_⟩:=Cu (B7.1 hx)
  obtain ⟨r,rfl⟩:=Int.eq_ofNat_of_zero_le h1
  have hg:B1 (hgW t s e) (r:Int)=true:=B7.1 hx
  obtain ⟨h2,h8⟩:=(h7 r).1 hg
  have hr:=Am5 ht hf he h8
  obtain ⟨i,hi,ei⟩:=getElem_of_mem hr
  have eg:s.has.getD i 0=(r:Int):=by rw [getD_eq_getElem?_getD,List.getElem?_eq_getElem hi];exact ei
  have:=h i hi
  have h0:=hF.at_ i hi
  rw [eg] at this h0
  rw [<- h0,h5 r hr h2 hg] at this
  rw [toNat_natCast];exact this
 .intro h i hi
  obtain ⟨r,hr,h2⟩:=A7 (hf.node _ (Ac (d:=0) hi))
  have h4:=Ac (d:=0) hi
  have h0:=hF.at_ i hi
  rw [hr] at h4 h0 ⊢
  rw [<- h0]
  cases hg:B1 (hgW t s e) (r:Int) with
  | false=>rw [G3,hg];simp
  | true =>
   rw [h5 r h4 h2 hg]
   have:=h (r:Int) (B7.2 hg)
   rwa [toNat_natCast] at this
theorem ML {t:A2} (ht:A9 t) {s:A6} {e:Nat} (he:e < t.nodes.length) {x:Int}:x∈Rc (Lh t s.has s.jf) e↔∃ a:Nat,x=a/\a < t.nodes.length/\dnB t s e a=true:=by
 have hl:(Lh t s.has s.jf).length=t.nodes.length:=DB ht.n64 _
 rw [Rc,List.mem_cons,hl]
 simp only [Kf,List.mem_map,List.mem_filter,List.mem_range,and_eq_true,Bool.not_eq_true',decide_eq_false_iff_not,AD]
 constructor
 .rintro (rfl | ⟨a,⟨h1,h2,h3⟩,rfl⟩)
  .exact ⟨e,rfl,he,by simp [dnB]⟩
  .exact ⟨a,rfl,h1,by rw [dnB,hbQ,h3,Bool.true_or]⟩
 .rintro ⟨a,rfl,h1,h2⟩
  by_cases c:a=e
  .left;rw [c]
  .right
   refine ⟨a,⟨h1,c,?_⟩,rfl⟩
   simp only [dnB,or_eq_true,decide_eq_true_eq] at h2
   rcases h2 with h | h
   .exact h
   .exact absurd h.symm c
theorem Aaw {t:A2} (ht:A9 t) {s:A6} {a b:Nat} (ha:a < t.nodes.length) (hb:b < t.nodes.length):LJ t (Rc (Lh t s.has s.jf) a) (Rc (Lh t s.has s.jf) b)=Ec t s a b:=by
 rw [Bool.eq_iff_iff,U6 ht ha hb,LJ,any_eq_true]
 constructor
 .rintro ⟨x,hx,h⟩
  rw [any_eq_true] at h
  obtain ⟨y,hy,h⟩:=h
  obtain ⟨x,rfl,h1,h2⟩:=(ML ht ha).1 hx
  obtain ⟨y,rfl,h3,h4⟩:=(ML ht hb).1 hy
  exact ⟨x,y,h1,h3,h2,h4,h⟩
 .rintro ⟨x,y,h1,h3,h2,h4,h⟩
  refine ⟨x,(ML ht ha).2 ⟨x,rfl,h1,h2⟩,?_⟩
  rw [any_eq_true]
  exact ⟨y,(ML ht hb).2 ⟨y,rfl,h3,h4⟩,h⟩
theorem GW.sub {t:A2}:∀ {n u e:Nat},GW t n u e->∀ m,u<=m->m < e->∃ n' e',GW t n' m e':=by
 intro n
 induction n with
 | zero=>intro u e h;exact absurd h (by simp [GW])
 | succ n ih =>
  intro u e h m h1 h2
  rcases Nat.eq_or_lt_of_le h1 with c | c
  .rw [<- c];exact ⟨n+1,e,h⟩
  .obtain ⟨⟨_,ht,_⟩,h⟩:=h
   rcases h with ⟨_,_,rfl⟩ | ⟨_,_,_,al,hb⟩ | ⟨_,_,_,vals,k,loc,mode,_,hv0,hk0,hke,hloc,hs,_⟩
   .omega
   .exact ih hb m (by omega) h2
   .obtain ⟨v,hv,a,b⟩:=Df (k:=k) (m:=m) vals (by omega) (by omega)
    exact ih (hs v hv).2.2 m a b
theorem GW.wval {t:A2}:∀ {n u e:Nat},GW t n u e->∀ m,u < m->m < e->(t.at m).kind=3->G2 t (t.at m).val=true:=by
 intro n
 induction n with
 | zero=>intro u e h;exact absurd h (by simp [GW])
 | succ n ih =>
  intro u e h m h1 h2 hk
  obtain ⟨⟨_,ht,_⟩,h⟩:=h
  rcases h with ⟨_,_,rfl⟩ | ⟨c,_,_,al,hb⟩ | ⟨c,_,_,vals,k,loc,mode,_,hv0,hk0,hke,hloc,hs,_⟩
  .omega
  .by_cases e1:m=u+1
   .subst e1
    simp only [D5,or_eq_true,and_eq_true,decide_eq_true_eq] at al
    rcases al with h | h
    .have:=h.1.1.1.1.1;omega
    .exact h.1.2
   .exact ih hb m (by omega) h2 hk
  .obtain ⟨v,hv,a,b⟩:=Df (k:=k) (m:=m) vals (by omega) (by omega)
   obtain ⟨s1,s2,s3⟩:=hs v hv
   by_cases e1:m=k v
   .subst e1
    simp only [E5,and_eq_true,decide_eq_true_eq] at s2
    have:=s2.1.1.1.1;omega
   .exact ih s3 m (by omega) b hk
theorem A9.wval {t:A2} (h:A9 t) {m:Nat} (hm:m < t.nodes.length) (hk:(t.at m).kind=3):G2 t (t.at m).val=true:=by
 by_cases c:m < t.locs.length
 .have:=h.first.2 m c
  simp only [Hx,and_eq_true] at this
  exact this.1.1.1.2
 .obtain ⟨s,h0,he,hs⟩:=h.thr
  obtain ⟨v,hv,a,b⟩:=Df (k:=s) (m:=m) t.regs.length (by omega) (by omega)
  obtain ⟨hb,n,hn⟩:=hs v hv
  by_cases e1:m=s v
  .subst e1
   simp only [DT,and_eq_true,decide_eq_true_eq] at hb
   have:=hb.1.1.1.1.2;omega
  .exact hn.wval m (by omega) b hk
theorem WI.vals {t:A2} (ht:A9 t) {s:A6} {mem:List Int} {k:Nat} (W:WI t s mem k) (loc:Nat) (hl:loc < t.locs.length):G2 t (mem.getD loc 0)=true:=by
 have h0:=W.form.ml
 obtain ⟨w,e,h1,h2,h3,_⟩:=W.last (loc:=loc) (by omega)
 rw [W.mem loc hl,e,toNat_natCast]
 obtain ⟨w',e2,hw⟩:=A7 (W.form.node _ h1)
 exact ht.wval (by omega) h2
end Go.AM
