/-
  Own work, part of the proof of these laws: plain laws.
-/
import Derived.Test.YthhlhddnndlhkaaGreatDoorKLw
set_option maxRecDepth 10000
set_option maxHeartbeats 64000000
set_option linter.unusedVariables false
set_option linter.unusedSimpArgs false
set_option linter.unusedSectionVars false
open Bool (and_eq_true or_eq_true not_eq_true' eq_false_iff)
open Int (toNat_natCast eq_ofNat_of_zero_le)
open List (getD_eq_getElem?_getD length_append length_take length_cons getElem_of_mem mem_append getElem?_set filter_cons)
open Option (getD_some)
namespace Go.AM
open Go Go.Proofs
theorem A16 {t:A1} {s:A6} (hf:AG t s) {w:Int} (hw:w∈s.has) (hk:(t.at w.toNat).kind=3) (ht:A5 t):0<=(t.at w.toNat).loc/\(t.at w.toNat).loc < s.mo.length/\0<=Be s (t.at w.toNat).loc w/\Be s (t.at w.toNat).loc w < (s.mo.getD (t.at w.toNat).loc.toNat []).length /\
  w∈(s.mo.getD (t.at w.toNat).loc.toNat []).getD (Be s (t.at w.toNat).loc w).toNat []:=by
 obtain ⟨m,rfl,hm⟩:=A8 (hf.node w hw)
 rw [toNat_natCast] at hk ⊢
 have hl:=ht.wloc hm (.inr hk)
 have hml:=hf.ml
 obtain ⟨loc,hloc⟩:=eq_ofNat_of_zero_le hl.1
 have ho:=hf.once _ hw (by rw [toNat_natCast];exact hk)
 rw [toNat_natCast] at ho
 rw [hloc] at ho hl ⊢
 rw [toNat_natCast] at ho ⊢
 have hany:(s.mo.getD loc []).any (fun c=>AU c (m:Int))=true:=by
  rw [List.any_eq_true]
  obtain ⟨c,hc⟩:=List.exists_mem_of_length_pos (show 0 < ((s.mo.getD loc []).filter fun c=>AU c (m:Int)).length by omega)
  obtain ⟨h1,h2⟩:=List.mem_filter.1 hc
  exact ⟨c,h1,h2⟩
 obtain ⟨k,e,hk2,hp,_⟩:=Kw hany
 have hpl:Be s (loc:Int) (m:Int)=(k:Int):=by
  rw [Be,if_neg (by omega),toNat_natCast];exact e
 rw [hpl,toNat_natCast]
 refine ⟨by omega,by omega,by omega,by omega,?_⟩
 rw [getD_eq_getElem?_getD,List.getElem?_eq_getElem hk2]
 exact A9.1 hp
theorem A3B {t:A1} {s:A6} (hf:AG t s) (ht:A5 t) {loc:Nat} (hl:loc < s.mo.length) {c:List Int} (hc:c∈s.mo.getD loc []) {x:Int} (hx:x∈c):BP t x=true:=by
 have hm:=hf.mo loc hl
 simp only [Eh,and_eq_true,Ah,or_eq_true,decide_eq_true_eq] at hm
 obtain ⟨⟨_,h0⟩,h1⟩:=hm
 obtain ⟨i,hi,rfl⟩:=getElem_of_mem hc
 have hd:(s.mo.getD loc [])[i]=(s.mo.getD loc []).getD i []:=by rw [getD_eq_getElem?_getD (l:=s.mo.getD loc []),List.getElem?_eq_getElem hi];rfl
 rw [hd] at hx
 rcases h1 i hi with e | e
 .rw [e,h0] at hx
  rw [List.mem_singleton.1 hx]
  have:=hf.ml
  have:=ht.first.1
  exact BM (by omega)
 .simp only [CE,and_eq_true,Ah,BA,A9] at e
  obtain ⟨j,hj,rfl⟩:=getElem_of_mem hx
  have:=(e.2 j hj).1.1.1.1
  rw [getD_eq_getElem?_getD,List.getElem?_eq_getElem hj] at this
  exact hf.node _ this
theorem GV {t:A1} {s:A6} (hf:AG t s) (ht:A5 t):YU t s:=by
 refine ⟨fun r=>?_⟩
 have hF:=AY (AJ (AE.2 hf))
 rw [GH hF.len]
 by_cases hr:(r:Int)∈s.has
 .by_cases hk:(t.at r).kind=2
  .obtain ⟨h1,h2,h3⟩:=hF.read r hr (by rw [toNat_natCast];exact hk)
   obtain ⟨w,hw,hwn⟩:=A8 (hf.node _ h1)
   rw [hw] at h1 h2 ⊢
   obtain ⟨a1,a2,a3,a4,a5⟩:=A16 hf h1 h2 ht
   rw [toNat_natCast] at a1 a2 a3 a4 a5
   refine .inr ⟨w,rfl,hwn,a1,a2,a3,a4,fun c hc=>?_⟩
   refine A3B hf ht (loc:=(t.at w).loc.toNat) (by omega) (Ai (d:=[]) (k:=(Be s (t.at w).loc w).toNat) (by omega)) hc
  .left
   rw [hF.none r hr (by rw [toNat_natCast];exact hk)];decide
 .left
  rw [Ey,if_neg fun h=>hr (A9.1 h)];decide
def Abd (t:A1) (s:A6):Prop:=∀ a∈s.has,∀ b∈s.has,AH t a b=false
theorem Amo {t:A1} (ht:A5 t) {s:A6} (hf:AG t s) {e a:Nat} (he:(e:Int)∈s.has) (h:Zg t s e a=true):(a:Int)∈s.has:=by
 have hF:=AY (AJ (AE.2 hf))
 simp only [Zg,or_eq_true,decide_eq_true_eq] at h
 rcases h with h | rfl
 .have hn:a < t.nodes.length:=by
   rcases Nat.lt_or_ge a t.nodes.length with c | c
   .exact c
   .have hl:(JP t s.has s.jf).length=t.nodes.length:=Dh ht.n64 _
    rw [hbQ,getD_eq_getElem?_getD,List.getElem?_eq_none (by omega)] at h
    simp at h
  exact (A1I ht hF ((DY ht.n64 _ hn).1 h)).1
 .exact he
theorem MT {t:A1} (ht:A5 t) {s:A6} (hf:AG t s) (hc:Abd t s) {a b:Nat} (ha:(a:Int)∈s.has) (hb:(b:Int)∈s.has):BR t s a b=false:=by
 have h64:=ht.n64
 obtain ⟨_,ha',han⟩:=A8 (hf.node _ ha)
 obtain ⟨_,hb',hbn⟩:=A8 (hf.node _ hb)
 rw [BR,XA,Bool.not_eq_false',decide_eq_true_eq]
 apply B1
 intro j hj
 rw [BitVec.getLsbD_and]
 have hz:(0#64).getLsbD j=false:=by simp
 rw [hz,eq_false_iff]
 intro h
 rw [and_eq_true] at h
 obtain ⟨h1,h2⟩:=h
 have hl:(PB t).length=t.nodes.length:=Aj
 obtain ⟨i,hi,q1,q2⟩:=(Kx (a:=PB t) (by omega) _ j).1 h1
 rw [dnR,getD_eq_getElem?_getD,Bm (by omega),getD_some,Au] at q1 h2
 rw [PB,getD_eq_getElem?_getD,Bm (by omega),getD_some,Au] at q2
 simp only [and_eq_true,decide_eq_true_eq] at q1 q2 h2
 have m1:=Amo ht hf ha q1.1.2
 have m2:=Amo ht hf hb h2.1.2
 rw [hc _ m1 _ m2] at q2
 simp at q2
theorem Zd {t:A1} (ht:A5 t) {s:A6} (hf:AG t s) (hc:Abd t s) {e:Nat} (he:(e:Int)∈s.has):Es t s e=true:=by
 have hF:=AY (AJ (AE.2 hf))
 obtain ⟨e',he',hen⟩:=A8 (hf.node _ he)
 have he':e=e':=by omega
 subst he'
 rw [Es,AfO,List.all_eq_true]
 intro r hr
 rw [not_eq_true',A1a]
 obtain ⟨h1,h2⟩:=CN (B4.1 hr)
 obtain ⟨r,rfl⟩:=eq_ofNat_of_zero_le h1
 rw [toNat_natCast]
 simp only [GH hF.len]
 by_cases hm:(r:Int)∈s.has
 .by_cases hk:(t.at r).kind=2
  .obtain ⟨k1,_,_⟩:=hF.read r hm (by rw [toNat_natCast];exact hk)
   obtain ⟨w,hw,hwn⟩:=A8 (hf.node _ k1)
   rw [hw] at k1 ⊢
   rw [toNat_natCast]
   split
   .rfl
   .have:Bc ((PB t).getD w 0#64) (e:Int)=false:=by
     rw [PB,Gq ht.n64 hwn hen];exact hc _ k1 _ he
    rw [this,Bool.false_and]
  .rw [hF.none r hm (by rw [toNat_natCast];exact hk),if_pos (.inl (by decide))]
 .rw [Ey,if_neg fun h=>hm (A9.1 h),if_pos (.inl (by decide))]
theorem A6B {t:A1} (ht:A5 t) {a b:Nat}:∀ (N u:Nat),u < N->u < t.nodes.length->Aw t a u=true->Aw t b u=true->a=b\/Aw t a b=true\/Aw t b a=true
 | 0,u,h,_,_,_=>by omega
 | N+1,u,hN,hu,h1,h2=>by
  by_cases c:(t.at u).up < 0
  .unfold Aw at h1
   rw [Dc ht.up a (by have:=ht.up u hu;omega),if_pos c] at h1
   cases h1
  .obtain ⟨m,hm⟩:=eq_ofNat_of_zero_le (show 0<=(t.at u).up by omega)
   have hlt:=ht.up u hu
   rw [Dd ht.up hu hm,or_eq_true,decide_eq_true_eq] at h1 h2
   rcases h1 with h1 | h1
   .rcases h2 with h2 | h2
    .exact .inl (by omega)
    .rw [h1] at h2;exact .inr (.inr h2)
   .rcases h2 with h2 | h2
    .rw [h2] at h1;exact .inr (.inl h1)
    .exact A6B ht N m (by omega) (by omega) h1 h2
theorem NK {t:A1} (ht:A5 t) {s:A6} (hf:AG t s) {at_:List Nat} (S:StI t s at_):Abd t s:=by
 intro a ha b hb
 obtain ⟨x,rfl,hx⟩:=A8 (hf.node _ ha)
 obtain ⟨y,rfl,hy⟩:=A8 (hf.node _ hb)
 rw [eq_false_iff]
 intro h
 simp only [AH,and_eq_true,not_eq_true',decide_eq_true_eq,decide_eq_false_iff_not,toNat_natCast] at h
 obtain ⟨⟨⟨⟨⟨_,h1⟩,h2⟩,h3⟩,h4⟩,h5⟩:=h
 obtain ⟨u,hu,hut⟩:=S.cov x ha h2
 have hul:u < t.nodes.length:=by
  obtain ⟨m,e,hm⟩:=A8 (hf.node _ (S.has u hu).1)
  omega
 have c1:=S.chain u hu x ha hut.symm
 have c2:=S.chain u hu y hb (by rw [hut,h3])
 have hne:x≠y:=fun e=>h1 (by rw [e])
 rcases c1 with c1 | c1
 .rcases c2 with c2 | c2
  .exact hne (by omega)
  .rw [c1,c2] at h5;cases h5
 .rcases c2 with c2 | c2
  .rw [c2,c1] at h4;cases h4
  .rcases A6B ht _ u (Nat.lt_succ_self _) hul c1 c2 with e | e | e
   .exact hne e
   .rw [e] at h4;cases h4
   .rw [e] at h5;cases h5
theorem AgR {t:A1} (ht:A5 t) {A B:BitVec 64}:XA t A B=true↔∃ x y:Nat,x < t.nodes.length/\y < t.nodes.length/\A.getLsbD x=true/\B.getLsbD y=true/\AH t x y=true:=by
 have h64:=ht.n64
 have hl:(PB t).length=t.nodes.length:=Aj
 rw [XA,not_eq_true',decide_eq_false_iff_not]
 constructor
 .intro h
  apply Classical.byContradiction
  intro hno
  apply h
  apply B1
  intro j hj
  rw [BitVec.getLsbD_and,show (0#64).getLsbD j=false by simp,eq_false_iff]
  intro hc
  rw [and_eq_true] at hc
  obtain ⟨i,hi,q1,q2⟩:=(Kx (a:=PB t) (by omega) _ j).1 hc.1
  rw [PB,getD_eq_getElem?_getD,Bm (by omega),getD_some,Au] at q2
  simp only [and_eq_true,decide_eq_true_eq] at q2
  exact hno ⟨i,j,by omega,by omega,q1,hc.2,q2.1.2⟩
 .rintro ⟨x,y,hx,hy,h1,h2,h3⟩ h0
  have:(Eo (PB t) A &&& B).getLsbD y=true:=by
   rw [BitVec.getLsbD_and,h2,Bool.and_true]
   refine (Kx (a:=PB t) (by omega) _ y).2 ⟨x,by omega,h1,?_⟩
   have:=Gq h64 hx hy (p:=fun a b=>AH t a b)
   rw [AC] at this
   rw [PB,this];exact h3
  rw [h0] at this
  simp at this
theorem Yz {t:A1} (ht:A5 t) {s:A6} {e a:Nat} (he:e < t.nodes.length):((dnR t s).getD e 0#64).getLsbD a=true↔a < t.nodes.length/\Zg t s e a=true:=by
 have h64:=ht.n64
 rw [dnR,getD_eq_getElem?_getD,Bm he,getD_some,Au]
 simp only [and_eq_true,decide_eq_true_eq]
 constructor
 .rintro ⟨⟨h1,h2⟩,_⟩;exact ⟨h1,h2⟩
 .rintro ⟨h1,h2⟩;exact ⟨⟨h1,h2⟩,by omega⟩
theorem JM {t:A1} (ht:A5 t) {s:A6} {a b:Nat} (ha:a < t.nodes.length) (hb:b < t.nodes.length):BR t s a b=true↔∃ x y:Nat,x < t.nodes.length/\y < t.nodes.length/\Zg t s a x=true/\Zg t s b y=true/\AH t x y=true:=by
 rw [BR,AgR ht]
 constructor
 .rintro ⟨x,y,hx,hy,h1,h2,h3⟩
  exact ⟨x,y,hx,hy,((Yz ht ha).1 h1).2,((Yz ht hb).1 h2).2,h3⟩
 .rintro ⟨x,y,hx,hy,h1,h2,h3⟩
  exact ⟨x,y,hx,hy,(Yz ht ha).2 ⟨hx,h1⟩,(Yz ht hb).2 ⟨hy,h2⟩,h3⟩
theorem QJ {t:A1} {a b:Int} (h:AH t a b=true):AH t b a=true:=by
 simp only [AH,and_eq_true,not_eq_true',decide_eq_true_eq,decide_eq_false_iff_not] at h ⊢
 obtain ⟨⟨⟨⟨⟨⟨h0,h1⟩,h2⟩,h3⟩,h4⟩,h5⟩,h6⟩:=h
 exact ⟨⟨⟨⟨⟨⟨h1,h0⟩,fun e=>h2 e.symm⟩,by omega⟩,h4.symm⟩,h6⟩,h5⟩
theorem A8H {t:A1} (ht:A5 t) {s:A6} {a b:Nat} (ha:a < t.nodes.length) (hb:b < t.nodes.length):BR t s a b=BR t s b a:=by
 have key:∀ {a b:Nat},a < t.nodes.length->b < t.nodes.length->BR t s a b=true->BR t s b a=true:=fun ha hb h=>by
  obtain ⟨x,y,hx,hy,h1,h2,h3⟩:=(JM ht ha hb).1 h
  exact (JM ht hb ha).2 ⟨y,x,hy,hx,h2,h1,QJ h3⟩
 rw [Bool.eq_iff_iff]
 exact ⟨key ha hb,key hb ha⟩
theorem Jh {t:A1} (ht:A5 t) {s:A6} (hf:AG t s) {n:Nat} (hn:n < t.nodes.length) (hu:(t.at n).up < 0):(n:Int)∈s.has:=by
 have h64:=ht.n64
 have hb:(Gc t).getLsbD n=true:=by rw [Gc,Au];simp [hn,hu];omega
 have:(Cc s.has).getLsbD n=true:=by rw [<- hf.init,BitVec.getLsbD_or,hb];rfl
 have h2:=Lo s.has (x:=(n:Int)) (by omega) (by omega)
 rw [AC,this] at h2
 exact A9.1 h2.symm
theorem AjS {t:A1} (ht:A5 t) {s:A6} (hf:AG t s) {loc:Nat} (hl:loc < s.mo.length) {c:List Int} (hc:c∈s.mo.getD loc []) {x:Int} (hx:x∈c):x∈s.has:=by
 have hm:=hf.mo loc hl
 simp only [Eh,and_eq_true,Ah,or_eq_true,decide_eq_true_eq] at hm
 obtain ⟨⟨_,h0⟩,h1⟩:=hm
 obtain ⟨i,hi,rfl⟩:=getElem_of_mem hc
 have hd:(s.mo.getD loc [])[i]=(s.mo.getD loc []).getD i []:=by rw [getD_eq_getElem?_getD (l:=s.mo.getD loc []),List.getElem?_eq_getElem hi];rfl
 rw [hd] at hx
 rcases h1 i hi with e | e
 .rw [e,h0] at hx
  rw [List.mem_singleton.1 hx]
  have:=hf.ml
  have:=ht.first.1
  exact Jh ht hf (by omega) (by rw [(ht.init loc (by omega)).up];decide)
 .simp only [CE,and_eq_true,Ah,BA,A9] at e
  obtain ⟨j,hj,rfl⟩:=getElem_of_mem hx
  have:=(e.2 j hj).1.1.1.1
  rw [getD_eq_getElem?_getD,List.getElem?_eq_getElem hj] at this
  exact this
theorem AeH {t:A1} {s:A6} (h:AG t s) {n:Int} (hn:BP t n=true) (hno:n∉s.has) (hup:(t.at n.toNat).up∈s.has) (hk:(t.at n.toNat).kind=3) (ht:0<=(t.at n.toNat).thread) {loc k:Nat} (hl:(t.at n.toNat).loc=loc) (hll:loc < s.mo.length) (k1:1<=k) (k2:k<=(s.mo.getD loc []).length)
  (hin:∀ c∈s.mo.getD loc [],∀ x∈c,x∈s.has):AG t { B6 s n (-1) with mo:=s.mo.set loc ((s.mo.getD loc []).take k++[n]::(s.mo.getD loc []).drop k) }:=by
 have sub:∀ x,x∈s.has->x∈Bg s.has (Br s.has n) n:=fun x hx=>BX.2 (.inr hx)
 obtain ⟨L,hL⟩:∃ L,L=s.mo.getD loc []:=⟨_,rfl⟩
 have hm:=h.mo loc hll
 rw [<- hL] at k2 hin ⊢
 have hself:(s.mo.set loc (L.take k++[n]::L.drop k)).getD loc []=L.take k++[n]::L.drop k:=by rw [getD_eq_getElem?_getD (l:=s.mo.set _ _),getElem?_set,if_pos rfl,if_pos hll];rfl
 have hoth:∀ j,j≠loc->(s.mo.set loc (L.take k++[n]::L.drop k)).getD j []=s.mo.getD j []:=fun j hj=>by rw [getD_eq_getElem?_getD (l:=s.mo.set _ _),getElem?_set,if_neg (Ne.symm hj),<- getD_eq_getElem?_getD]
 have hcls:CE t [n] (Bg s.has (Br s.has n) n) loc=true:=by
  simp only [CE,and_eq_true,Ah,BA,A9,List.length_singleton]
  refine ⟨rfl,fun i hi=>?_⟩
  obtain rfl:i=0:=by omega
  refine ⟨⟨⟨⟨BX.2 (.inl rfl),rfl⟩,?_⟩,decide_eq_true ht⟩,fun k hk=>by omega⟩
  simp [HT,hk,hl]
 have hfil:∀ p:List Int->Bool,((L.take k++[n]::L.drop k).filter p).length=(L.filter p).length+(if p [n]=true then 1 else 0):=fun p=>by
  have e:L.filter p=(L.take k).filter p++(L.drop k).filter p:=by rw [<- List.filter_append,List.take_append_drop]
  rw [e,List.filter_append,filter_cons,length_append,length_append]
  split
  .rw [length_cons];omega
  .omega
 have Cp:∀ i,i≠k->(L.take k++[n]::L.drop k).getD i []=L.getD (if i < k then i else i - 1) []:=fun i hi=>by
  have e:=Jj (y:=[n]) (d:=([]:List Int)) L k (if i < k then i else i - 1) k2
  by_cases c:i < k
  .rw [if_pos c] at e ⊢
   rwa [if_pos c] at e
  .rw [if_neg c] at e ⊢
   rwa [if_neg (show ¬ i - 1 < k by omega),show i - 1+1=i by omega] at e
 have hgk:(L.take k++[n]::L.drop k).getD k []=[n]:=by
  rw [getD_eq_getElem?_getD,List.getElem?_append_right (by rw [length_take];omega),length_take,Nat.min_eq_left k2];simp
 refine Sd h hn hno hup (by simp [okJ,hk]) (by rw [List.length_set]) ?_ ?_ ?_
 .intro j hj
  by_cases c:j=loc
  .subst c
   simp only [Eh,hself,<- hL,and_eq_true,Ah,or_eq_true,not_eq_true',decide_eq_true_eq,decide_eq_false_iff_not] at hm ⊢
   obtain ⟨⟨m1,m2⟩,m3⟩:=hm
   refine ⟨⟨by simp,?_⟩,fun i hi=>?_⟩
   .rw [Cp 0 (by omega),if_pos (by omega)];exact m2
   .by_cases ci:i=k
    .rw [ci,hgk];exact .inr hcls
    .rw [Cp i ci]
     have hi':i < L.length+1:=by
      rw [length_append,length_cons,length_take,List.length_drop] at hi
      omega
     by_cases c:i < k
     .rw [if_pos c]
      rcases m3 i (by omega) with c | c
      .exact .inl c
      .exact .inr (EP sub c)
     .rw [if_neg c]
      rcases m3 (i - 1) (by omega) with d | d
      .omega
      .exact .inr (EP sub d)
  .have hm:=h.mo j hj
   simp only [Eh,hoth j c,and_eq_true,Ah,or_eq_true] at hm ⊢
   refine ⟨hm.1,fun i hi=>?_⟩
   rcases hm.2 i hi with d | d
   .exact .inl d
   .exact .inr (EP sub d)
 .intro x hx kx
  by_cases c:(t.at x.toNat).loc.toNat=loc
  .rw [c,hself,hfil,<- hL]
   have:AU [n] x=false:=Bool.eq_false_iff.2 fun d=>hno (by rw [<- List.mem_singleton.1 (A9.1 d)];exact hx)
   rw [this];simp
  .rw [hoth _ c]
 .intro _
  rw [hl,toNat_natCast,hself,hfil]
  have e:L.filter (fun c=>AU c n)=[]:=by
   rw [List.filter_eq_nil_iff]
   intro c hc d
   exact hno (hin c hc n (A9.1 d))
  rw [e]
  simp [AU]
structure Nxt (t:A1) (s s':A6) (n:Nat):Prop where
 has:∀ x,x∈s'.has↔x=(n:Int)\/x∈s.has
 no:(n:Int)∉s.has
 nl:n < t.nodes.length
 up:(t.at n).up∈s.has
 ext:Ext t s s'
 form:AG t s'
 src:(t.at n).kind=2->Ey s'.has s'.jf n∈s.has
 cls:∀ loc,∀ c∈s.mo.getD loc [],∃ c'∈s'.mo.getD loc [],∀ x∈c,x∈c'
theorem Lg {t:A1} {s s':A6} {n kind w:Int} (e:D6 t s n kind w=some s'):∃ m:Nat,n=m/\m < t.nodes.length/\(t.at m).kind=kind/\(m:Int)∉s.has/\(t.at m).up∈s.has/\s' = B6 s m w:=by
 unfold D6 at e
 split at e
 .rename_i hok
  cases e
  simp only [Cy,and_eq_true,not_eq_true',decide_eq_true_eq] at hok
  obtain ⟨⟨⟨⟨_,h1⟩,h2⟩,h3⟩,h4⟩:=hok
  obtain ⟨m,rfl,hm⟩:=A8 h1
  rw [toNat_natCast] at h2 h4
  exact ⟨m,rfl,hm,h2,(fun c=>by rw [A9.2 c] at h3;exact absurd h3 (by decide)),A9.1 h4,rfl⟩
 .cases e
theorem AcW {t:A1} {s s':A6} (hf:AG t s) {n:Int} (e:D6 t s n 4 (-1)=some s'):∃ m,Nxt t s s' m:=by
 obtain ⟨m,rfl,hm,hk,hno,hup,rfl⟩:=Lg e
 have hf':AG t (B6 s m (-1)):=Se hf (BM hm) hno (by rw [toNat_natCast];exact hup) (by simp [okJ,hk]) (by rw [toNat_natCast];omega)
 exact ⟨m,fun x=>BX,hno,hm,hup,(Gi e).1,hf',fun c=>by omega,fun loc c hc=>⟨c,hc,fun _ h=>h⟩⟩
theorem Aau {t:A1} {s s':A6} (hf:AG t s) {n w:Int} (e:JZ t s n w=some s'):∃ m,Nxt t s s' m:=by
 have he:=(Aat e).1
 unfold JZ at e
 split at e
 .rename_i x hx
  split at e
  .rename_i hfx
   cases e
   obtain ⟨m,rfl,hm,hk,hno,hup,rfl⟩:=Lg hx
   have hf':=AE.1 hfx
   refine ⟨m,fun x=>BX,hno,hm,hup,he,hf',fun _=>?_,fun loc c hc=>⟨c,hc,fun _ h=>h⟩⟩
   have hF':=AY (AJ hfx)
   obtain ⟨a,b,_⟩:=hF'.read m (BX.2 (.inl rfl)) (by rw [toNat_natCast];exact hk)
   rcases BX.1 a with h | h
   .rw [h,toNat_natCast] at b;omega
   .exact h
  .cases e
 .cases e
theorem Xo {t:A1} (ht:A5 t) {s s':A6} (hf:AG t s) {n w:Int} (e:EM t s n w=some s'):∃ m,Nxt t s s' m:=by
 have he:=(NL e).1
 unfold EM at e
 split at e
 .rename_i x hx
  split at e
  .cases e
  .rename_i hw
   cases e
   obtain ⟨m,rfl,hm,hk,hno,hup,rfl⟩:=Lg hx
   have hl:=ht.wloc hm (.inr hk)
   obtain ⟨loc,hloc⟩:=eq_ofNat_of_zero_le hl.1
   have hml:=hf.ml
   have hth:0<=(t.at m).thread:=by
    rcases Int.lt_or_le (t.at m).thread 0 with c | c
    .have h1:=(ht.thr_iff hm).1 c
     have:=(ht.init m h1).up
     have:=hf.node _ hup
     simp only [BP,and_eq_true,decide_eq_true_eq] at this
     omega
    .exact c
   simp only [toNat_natCast,hloc] at he hw ⊢
   have hw:¬ (w < 1\/((s.mo.getD loc []).length:Int) < w):=hw
   have hin:∀ c∈s.mo.getD loc [],∀ x∈c,x∈s.has:=fun c hc x hx=>AjS ht hf (by omega) hc hx
   have hf':=AeH hf (n:=(m:Int)) (BM hm) hno (by rw [toNat_natCast];exact hup) (by rw [toNat_natCast];exact hk) (by rw [toNat_natCast];exact hth) (loc:=loc) (k:=w.toNat) (by rw [toNat_natCast];exact hloc) (by omega) (by omega) (by omega) hin
   refine ⟨m,fun x=>BX,hno,hm,hup,he,hf',fun c=>by omega,fun l c hc=>⟨c,?_,fun _ h=>h⟩⟩
   show c∈(s.mo.set loc _).getD l []
   by_cases cl:l=loc
   .subst cl
    rw [getD_eq_getElem?_getD (l:=s.mo.set _ _),getElem?_set,if_pos rfl,if_pos (by omega)]
    have:c∈(s.mo.getD l []).take w.toNat++(s.mo.getD l []).drop w.toNat:=by rw [List.take_append_drop];exact hc
    rw [mem_append] at this
    simp only [getD_some,mem_append,List.mem_cons]
    rcases this with h | h
    .exact .inl h
    .exact .inr (.inr h)
   .rw [getD_eq_getElem?_getD (l:=s.mo.set _ _),getElem?_set,if_neg (Ne.symm cl),<- getD_eq_getElem?_getD];exact hc
 .cases e
theorem A6A {t:A1} (ht:A5 t) {s:A6} (hf:AG t s) {a:Nat}:∀ (N b:Nat),b < N->(b:Int)∈s.has->Aw t a b=true->(a:Int)∈s.has
 | 0,b,h,_,_=>by omega
 | N+1,b,hN,hb,h=>by
  obtain ⟨b',e,hbn⟩:=A8 (hf.node _ hb)
  have e:b=b':=by omega
  subst e
  have hlt:=ht.up b hbn
  rcases Int.lt_or_le (t.at b).up 0 with c | c
  .unfold Aw at h
   rw [Dc ht.up a (by omega),if_pos c] at h
   cases h
  .obtain ⟨m,hm⟩:=eq_ofNat_of_zero_le c
   have hu:=hf.up _ hb
   rw [toNat_natCast] at hu
   have hmi:(m:Int)∈s.has:=by
    rcases hu with hu | hu
    .omega
    .rw [<- hm];exact hu
   rw [Dd ht.up hbn hm,or_eq_true,decide_eq_true_eq] at h
   rcases h with h | h
   .rw [<- h];exact hmi
   .exact A6A ht hf N m (by omega) hmi h
theorem Acb {t:A1} (ht:A5 t) {s s':A6} (hf:AG t s) {n:Nat} (X:Nxt t s s' n) (b:Nat) (hb:(b:Int)∈s.has):Ap t n b=false:=by
 rw [eq_false_iff]
 intro h
 have hup:=hf.node _ X.up
 simp only [BP,and_eq_true,decide_eq_true_eq] at hup
 have hth:¬ (t.at n).thread < 0:=fun c=>by
  have h1:=(ht.thr_iff X.nl).1 c
  have:=(ht.init n h1).up
  omega
 simp only [Ap,and_eq_true,toNat_natCast] at h
 rw [if_neg hth] at h
 exact X.no (A6A ht hf _ b (Nat.lt_succ_self _) hb h.2)
theorem KG {t:A1} (ht:A5 t) {s:A6} (hf:AG t s) {a b:Nat}:Bw t s s.has.length b a=true↔(a:Int)∈s.has/\(((b:Int)∈s.has/\Ap t b a=true)\/Ey s.has s.jf a=b):=by
 have h64:=ht.n64
 have hF:=AY (AJ (AE.2 hf))
 have hn:Cu t s.has:=hf.node
 have hh:=fun (x:Nat)=>hn.has h64 (x:Int)
 simp only [Bw,hh,or_eq_true,and_eq_true,List.any_eq_true,List.mem_range,decide_eq_true_eq,A9]
 constructor
 .rintro (⟨⟨h1,h2⟩,h3⟩ | ⟨i,hi,h1,h2⟩)
  .exact ⟨h2,.inl ⟨h1,h3⟩⟩
  .have hm:=Ai (d:=0) hi
   have:=hF.at_ i hi
   rw [h2,h1] at this
   rw [h2] at hm
   exact ⟨hm,.inr this⟩
 .rintro ⟨h1,⟨h2,h3⟩ | h2⟩
  .exact .inl ⟨⟨h2,h1⟩,h3⟩
  .obtain ⟨i,hi,e⟩:=getElem_of_mem h1
   have hg:s.has.getD i 0=(a:Int):=by rw [getD_eq_getElem?_getD,List.getElem?_eq_getElem hi];exact e
   have:=hF.at_ i hi
   rw [hg,h2] at this
   exact .inr ⟨i,hi,this.symm,hg⟩
structure Lst (t:A1) (s s':A6):Prop where
 has:∀ x,x∈s.has->x∈s'.has
 on:∀ x,x∈s.has->Ey s'.has s'.jf x=Ey s.has s.jf x
 dn:∀ e a:Nat,(e:Int)∈s.has->a < t.nodes.length->Zg t s' e a=Zg t s e a
 vis:∀ e:Nat,(e:Int)∈s.has->Es t s e=true->Es t s' e=true
theorem Lst.refl (t:A1) (s:A6):Lst t s s:=⟨fun _ h=>h,fun _ _=>rfl,fun _ _ _ _=>rfl,fun _ _ h=>h⟩
theorem Lst.trans {t:A1} {a b c:A6} (h:Lst t a b) (k:Lst t b c):Lst t a c :=
 ⟨fun x hx=>k.has x (h.has x hx),fun x hx=>(k.on x (h.has x hx)).trans (h.on x hx),fun e x he hx=>(k.dn e x (h.has _ he) hx).trans (h.dn e x he hx),fun e he hv=>k.vis e (h.has _ he) (h.vis e he hv)⟩
def JO (S:BitVec 64):Nat:=((List.range 64).filter fun j=>!S.getLsbD j).length
theorem A6T {α:Type} {p q:α->Bool} (h:∀ y,p y=true->q y=true):∀ l:List α,(l.filter p).length<=(l.filter q).length
 | []=>Nat.le_refl _
 | y::l=>by
  have ih:=A6T h l
  rw [filter_cons,filter_cons]
  cases c:p y with
  | true=>rw [if_pos rfl,if_pos (h y c),length_cons,length_cons];omega
  | false =>
   rw [if_neg (by decide)]
   split
   .rw [length_cons];omega
   .exact ih
theorem Adf {α:Type} {p q:α->Bool} (h:∀ y,p y=true->q y=true) {x:α} (hq:q x=true) (hp:p x=false):∀ {l:List α},x∈l->(l.filter p).length < (l.filter q).length
 | y::l,hx=>by
  rw [filter_cons,filter_cons]
  rcases List.mem_cons.1 hx with rfl | hx
  .have:=A6T h l
   rw [hp,hq,if_neg (by decide),if_pos rfl,length_cons];omega
  .have ih:=Adf h hq hp hx
   cases c:p y with
   | true=>rw [if_pos rfl,if_pos (h y c),length_cons,length_cons];omega
   | false =>
    rw [if_neg (by decide)]
    split
    .rw [length_cons];omega
    .exact ih
theorem A9T {S:BitVec 64} {n:Nat} (hn:n < 64) (h:S.getLsbD n=false):JO (S ||| C4 (n:Int)) < JO S:=by
 refine Adf (x:=n) (fun y hy=>?_) (by rw [h];rfl) ?_ (List.mem_range.2 hn)
 .rw [BitVec.getLsbD_or,not_eq_true',Bool.or_eq_false_iff] at hy
  rw [hy.1];rfl
 .rw [BitVec.getLsbD_or,Rc hn,decide_eq_true rfl,Bool.or_true];rfl
def Yo (t:A1) (s:A6) (n:Nat):List Int:=(if 0<=Qz s n then [Qz s n] else [])++(if 0<=(t.at n).up then [(t.at n).up] else [])++(if 0<=(t.at n).thread then (List.range t.locs.length).map fun (k:Nat)=>(k:Int) else [])
theorem AaO (t:A1) (ht:A5 t) (s:A6) (n:Nat):(Yo t s n).length<=6:=by
 have:=ht.l4
 unfold Yo
 split<;>split<;>split<;>simp<;>omega
theorem AbV {t:A1} (ht:A5 t) {s:A6} {e r:Nat} (he:e < t.nodes.length):YF t s e r=true↔HN (fun a b=>Bw t s s.has.length b a) t.nodes.length e r\/e=r:=by
 rw [YF,Y6,or_eq_true,decide_eq_true_eq,DY ht.n64 _ he]
section
variable {t:A1} (ht:A5 t) {s:A6} (hf:AG t s)
include ht hf
theorem Ail {n:Nat} (hn:(n:Int)∈s.has) {r:Int} (h:r∈Yo t s n):∃ m:Nat,r=m/\m < t.nodes.length/\(m:Int)∈s.has/\Bw t s s.has.length m n=true:=by
 have hF:=AY (AJ (AE.2 hf))
 obtain ⟨n',e,hnl⟩:=A8 (hf.node _ hn)
 have e:n=n':=by omega
 subst e
 have fin:∀ m:Nat,(m:Int)∈s.has->(Ap t m n=true\/Ey s.has s.jf n=(m:Int))->∃ k:Nat,(m:Int)=k/\k < t.nodes.length/\(k:Int)∈s.has/\Bw t s s.has.length k n=true:=fun m hm h=>by
  obtain ⟨m',e,hml⟩:=A8 (hf.node _ hm)
  have e:m=m':=by omega
  subst e
  refine ⟨m,rfl,hml,hm,(KG ht hf).2 ⟨hn,?_⟩⟩
  rcases h with h | h
  .exact .inl ⟨hm,h⟩
  .exact .inr h
 simp only [Yo,mem_append] at h
 rcases h with (h | h) | h
 .split at h
  .rename_i c
   rw [List.mem_singleton] at h
   subst h
   have hk:(t.at n).kind=2:=by
    apply Classical.byContradiction
    intro hk
    have:=hF.none n hn (by rw [toNat_natCast];exact hk)
    rw [GH hF.len] at c
    omega
   obtain ⟨q1,_,_⟩:=hF.read n hn (by rw [toNat_natCast];exact hk)
   obtain ⟨w,hw,_⟩:=A8 (hf.node _ q1)
   rw [GH hF.len,hw]
   rw [hw] at q1
   exact fin w q1 (.inr hw)
  .cases h
 .split at h
  .rename_i c
   rw [List.mem_singleton] at h
   subst h
   have hu:=hf.up _ hn
   rw [toNat_natCast] at hu
   obtain ⟨u,hu2⟩:=eq_ofNat_of_zero_le c
   rw [hu2]
   have hui:(u:Int)∈s.has:=by
    rcases hu with h | h
    .omega
    .rw [<- hu2];exact h
   have:=RM ht hnl c
   rw [hu2] at this
   exact fin u hui (.inl this)
  .cases h
 .split at h
  .rename_i c
   obtain ⟨k,hk,rfl⟩:=List.mem_map.1 h
   have hk:=List.mem_range.1 hk
   have I:=ht.init k hk
   have hkl:k < t.nodes.length:=by have:=ht.first.1;omega
   refine fin k (Jh ht hf hkl (by rw [I.up];decide)) (.inl ?_)
   simp only [Ap,BM hkl,BM hnl,toNat_natCast,I.thr,Bool.true_and]
   rw [if_pos (by decide)]
   exact decide_eq_true c
  .cases h
theorem A2c {S:Nat->Prop} (hS:∀ n:Nat,S n->(n:Int)∈s.has->∀ r:Nat,(r:Int)∈Yo t s n->S r) {e r:Nat} (he:(e:Int)∈s.has) (h0:S e) (h:YF t s e r=true):S r/\(r:Int)∈s.has:=by
 have hF:=AY (AJ (AE.2 hf))
 obtain ⟨e',e1,hel⟩:=A8 (hf.node _ he)
 have e1:e=e':=by omega
 subst e1
 have up:∀ (N b:Nat),b < N->(b:Int)∈s.has->S b->∀ a:Nat,Aw t a b=true->S a/\(a:Int)∈s.has:=by
  intro N
  induction N with
  | zero=>intro b h;omega
  | succ N ih =>
   intro b hN hb hSb a h
   obtain ⟨b',e,hbn⟩:=A8 (hf.node _ hb)
   have e:b=b':=by omega
   subst e
   have hlt:=ht.up b hbn
   rcases Int.lt_or_le (t.at b).up 0 with c | c
   .unfold Aw at h
    rw [Dc ht.up a (by omega),if_pos c] at h
    cases h
   .obtain ⟨m,hm⟩:=eq_ofNat_of_zero_le c
    have hu:=hf.up _ hb
    rw [toNat_natCast] at hu
    have hmi:(m:Int)∈s.has:=by
     rcases hu with hu | hu
     .omega
     .rw [<- hm];exact hu
    have hSm:S m:=hS b hSb hb m (by
     simp only [Yo,mem_append]
     left;right
     rw [if_pos c,hm];simp)
    rw [Dd ht.up hbn hm,or_eq_true,decide_eq_true_eq] at h
    rcases h with h | h
    .rw [<- h];exact ⟨hSm,hmi⟩
    .exact ih m (by omega) hmi hSm a h
 have one:∀ {a b:Nat},S a->(a:Int)∈s.has->a < t.nodes.length->Bw t s s.has.length b a=true->S b/\(b:Int)∈s.has:=fun {a b} ha hi hal h=>by
  obtain ⟨_,⟨h1,h2⟩ | h⟩:=(KG ht hf).1 h
  .refine ⟨?_,h1⟩
   have hb2:=h2
   simp only [Ap,and_eq_true,toNat_natCast] at hb2
   obtain ⟨⟨n1,n2⟩,h3⟩:=hb2
   simp only [BP,and_eq_true,decide_eq_true_eq] at n1 n2
   by_cases c:(t.at b).thread < 0
   .rw [if_pos c,decide_eq_true_eq] at h3
    have hbl:=(ht.thr_iff (m:=b) (by omega)).1 c
    refine hS a ha hi b ?_
    simp only [Yo,mem_append]
    right
    rw [if_pos h3]
    exact List.mem_map.2 ⟨b,List.mem_range.2 hbl,rfl⟩
   .rw [if_neg c] at h3
    exact (up _ a (Nat.lt_succ_self _) hi ha b h3).1
  .have hk:(t.at a).kind=2:=by
    apply Classical.byContradiction
    intro hk
    have:=hF.none a hi (by rw [toNat_natCast];exact hk)
    omega
   obtain ⟨q1,_,_⟩:=hF.read a hi (by rw [toNat_natCast];exact hk)
   rw [h] at q1
   refine ⟨hS a ha hi b ?_,q1⟩
   simp only [Yo,mem_append]
   left;left
   rw [GH hF.len,h,if_pos (by omega)];simp
 rw [AbV ht hel] at h
 rcases h with h | h
 .have key:∀ {r:Nat},HN (fun a b=>Bw t s s.has.length b a) t.nodes.length e r->S r/\(r:Int)∈s.has/\r < t.nodes.length:=by
   intro r h
   induction h with
   | one hb h=>obtain ⟨a,b⟩:=one h0 he hel h;exact ⟨a,b,hb⟩
   | more _ hc h ih=>obtain ⟨a,b⟩:=one ih.1 ih.2.1 ih.2.2 h;exact ⟨a,b,hc⟩
  have:=key h
  exact ⟨this.1,this.2.1⟩
 .rw [<- h];exact ⟨h0,he⟩
end
end Go.AM
