/-
  Own work, part of the proof of these laws: plain laws.
-/
import Derived.Test.YthhlhddnndlhkaaGreatDoorKLd
set_option maxRecDepth 10000
set_option maxHeartbeats 64000000
set_option linter.unusedVariables false
set_option linter.unusedSimpArgs false
set_option linter.unusedSectionVars false
open Bool (and_eq_true or_eq_true not_eq_true')
open Int (toNat_natCast)
open List (getElem?_eq_getElem getD_eq_getElem?_getD length_append length_take length_cons getElem_of_mem mem_append getElem?_set filter_cons)
open Option (getD_some)
namespace Go.AM
open Go Go.Proofs
theorem A16 {t:A1} {s:A6} (hf:AG t s) {w:Int} (hw:w∈s.has) (hk:(t.at w.toNat).kind=3) (ht:A5 t):0<=(t.at w.toNat).loc/\(t.at w.toNat).loc < s.mo.length/\0<=Be s (t.at w.toNat).loc w/\Be s (t.at w.toNat).loc w < (s.mo.getD (t.at w.toNat).loc.toNat []).length /\
  w∈(s.mo.getD (t.at w.toNat).loc.toNat []).getD (Be s (t.at w.toNat).loc w).toNat []:=by
 obtain ⟨m,rfl,hm⟩:=A8 (hf.node w hw)
 rw [toNat_natCast] at hk ⊢
 have hl:=ht.wloc hm (.inr hk)
 have h6:=hf.ml
 obtain ⟨loc,h3⟩:=Int.eq_ofNat_of_zero_le hl.1
 have ho:=hf.once _ hw (by rw [toNat_natCast];exact hk)
 rw [toNat_natCast] at ho
 rw [h3] at ho hl ⊢
 rw [toNat_natCast] at ho ⊢
 have h0:(s.mo.getD loc []).any (fun c=>AU c (m:Int))=true:=by
  rw [List.any_eq_true]
  obtain ⟨c,hc⟩:=List.exists_mem_of_length_pos (show 0 < ((s.mo.getD loc []).filter fun c=>AU c (m:Int)).length by omega)
  obtain ⟨h1,h2⟩:=List.mem_filter.1 hc
  exact ⟨c,h1,h2⟩
 obtain ⟨k,e,h4,hp,_⟩:=Kw h0
 have h5:Be s (loc:Int) (m:Int)=(k:Int):=by
  rw [Be,if_neg (by omega),toNat_natCast];exact e
 rw [h5,toNat_natCast]
 refine ⟨by omega,by omega,by omega,by omega,?_⟩
 rw [getD_eq_getElem?_getD,getElem?_eq_getElem h4]
 exact A9.1 hp
theorem A3B {t:A1} {s:A6} (hf:AG t s) (ht:A5 t) {loc:Nat} (hl:loc < s.mo.length) {c:List Int} (hc:c∈s.mo.getD loc []) {x:Int} (hx:x∈c):BP t x=true:=by
 have hm:=hf.mo loc hl
 simp only [Eh,and_eq_true,Ah,or_eq_true,decide_eq_true_eq] at hm
 obtain ⟨⟨_,h0⟩,h1⟩:=hm
 obtain ⟨i,hi,rfl⟩:=getElem_of_mem hc
 have hd:(s.mo.getD loc [])[i]=(s.mo.getD loc []).getD i []:=by rw [getD_eq_getElem?_getD (l:=s.mo.getD loc []),getElem?_eq_getElem hi];rfl
 rw [hd] at hx
 rcases h1 i hi with e | e
 .rw [e,h0] at hx
  rw [List.mem_singleton.1 hx]
  have:=hf.ml
  have:=ht.first.1
  exact BM (by omega)
 .simp only [CE,and_eq_true,Ah,BA,A9] at e
  obtain ⟨j,hj,rfl⟩:=getElem_of_mem hx
  have:=(e.2 j hj).1.1.1.1
  rw [getD_eq_getElem?_getD,getElem?_eq_getElem hj] at this
  exact hf.node _ this
theorem GV {t:A1} {s:A6} (hf:AG t s) (ht:A5 t):YU t s:=by
 refine ⟨fun r=>?_⟩
 have hF:=AY (AJ (AE.2 hf))
 rw [GH hF.len]
 by_cases hr:(r:Int)∈s.has
 .by_cases hk:(t.at r).kind=2
  .obtain ⟨h1,h2,h3⟩:=hF.read r hr (by rw [toNat_natCast];exact hk)
   obtain ⟨w,hw,h0⟩:=A8 (hf.node _ h1)
   rw [hw] at h1 h2 ⊢
   obtain ⟨a1,a2,a3,a4,a5⟩:=A16 hf h1 h2 ht
   rw [toNat_natCast] at a1 a2 a3 a4 a5
   refine .inr ⟨w,rfl,h0,a1,a2,a3,a4,fun c hc=>?_⟩
   refine A3B hf ht (loc:=(t.at w).loc.toNat) (by omega) (Ai (d:=[]) (k:=(Be s (t.at w).loc w).toNat) (by omega)) hc
  .left
   rw [hF.none r hr (by rw [toNat_natCast];exact hk)];decide
 .left
  rw [Ey,if_neg fun h=>hr (A9.1 h)];decide
theorem A6B {t:A1} (ht:A5 t) {a b:Nat}:∀ (N u:Nat),u < N->u < t.nodes.length->Aw t a u=true->Aw t b u=true->a=b\/Aw t a b=true\/Aw t b a=true
 | 0,u,h,_,_,_=>by omega
 | N+1,u,hN,hu,h1,h2=>by
  by_cases c:(t.at u).up < 0
  .unfold Aw at h1
   rw [Dc ht.up a (by have:=ht.up u hu;omega),if_pos c] at h1
   cases h1
  .obtain ⟨m,hm⟩:=Int.eq_ofNat_of_zero_le (show 0<=(t.at u).up by omega)
   have hlt:=ht.up u hu
   rw [Dd ht.up hu hm,or_eq_true,decide_eq_true_eq] at h1 h2
   rcases h1 with h1 | h1
   .rcases h2 with h2 | h2
    .exact .inl (by omega)
    .rw [h1] at h2;exact .inr (.inr h2)
   .rcases h2 with h2 | h2
    .rw [h2] at h1;exact .inr (.inl h1)
    .exact A6B ht N m (by omega) (by omega) h1 h2
theorem AgR {t:A1} (ht:A5 t) {A B:BitVec 64}:XA t A B=true↔∃ x y:Nat,x < t.nodes.length/\y < t.nodes.length/\A.getLsbD x=true/\B.getLsbD y=true/\AH t x y=true:=by
 have h4:=ht.n64
 have hl:(PB t).length=t.nodes.length:=Aj
 rw [XA,not_eq_true',decide_eq_false_iff_not]
 constructor
 .intro h
  apply Classical.byContradiction
  intro h5
  apply h
  apply B1
  intro j hj
  rw [BitVec.getLsbD_and,show (0#64).getLsbD j=false by simp,Bool.eq_false_iff]
  intro hc
  rw [and_eq_true] at hc
  obtain ⟨i,hi,q1,q2⟩:=(Kx (a:=PB t) (by omega) _ j).1 hc.1
  rw [PB,getD_eq_getElem?_getD,Bm (by omega),getD_some,Au] at q2
  simp only [and_eq_true,decide_eq_true_eq] at q2
  exact h5 ⟨i,j,by omega,by omega,q1,hc.2,q2.1.2⟩
 .rintro ⟨x,y,hx,hy,h1,h2,h3⟩ h0
  have:(Eo (PB t) A &&& B).getLsbD y=true:=by
   rw [BitVec.getLsbD_and,h2,Bool.and_true]
   refine (Kx (a:=PB t) (by omega) _ y).2 ⟨x,by omega,h1,?_⟩
   have:=Gq h4 hx hy (p:=fun a b=>AH t a b)
   rw [AC] at this
   rw [PB,this];exact h3
  rw [h0] at this
  simp at this
theorem Yz {t:A1} (ht:A5 t) {s:A6} {e a:Nat} (he:e < t.nodes.length):((dnR t s).getD e 0#64).getLsbD a=true↔a < t.nodes.length/\Zg t s e a=true:=by
 have h0:=ht.n64
 rw [dnR,getD_eq_getElem?_getD,Bm he,getD_some,Au]
 simp only [and_eq_true,decide_eq_true_eq]
 constructor
 .rintro ⟨⟨h1,h2⟩,_⟩;exact ⟨h1,h2⟩
 .rintro ⟨h1,h2⟩;exact ⟨⟨h1,h2⟩,by omega⟩
theorem JM {t:A1} (ht:A5 t) {s:A6} {a b:Nat} (ha:a < t.nodes.length) (hb:b < t.nodes.length):BR t s a b=true↔∃ x y:Nat,x < t.nodes.length/\y < t.nodes.length/\Zg t s a x=true/\Zg t s b y=true/\AH t x y=true:=by
 rw [BR,AgR ht]
 constructor
 .rintro ⟨x,y,hx,hy,h1,h2,h3⟩
  exact ⟨x,y,hx,hy,((Yz ht ha).1 h1).2,((Yz ht hb).1 h2).2,h3⟩
 .rintro ⟨x,y,hx,hy,h1,h2,h3⟩
  exact ⟨x,y,hx,hy,(Yz ht ha).2 ⟨hx,h1⟩,(Yz ht hb).2 ⟨hy,h2⟩,h3⟩
theorem QJ {t:A1} {a b:Int} (h:AH t a b=true):AH t b a=true:=by
 simp only [AH,and_eq_true,not_eq_true',decide_eq_true_eq,decide_eq_false_iff_not] at h ⊢
 obtain ⟨⟨⟨⟨⟨⟨h0,h1⟩,h2⟩,h3⟩,h4⟩,h5⟩,h6⟩:=h
 exact ⟨⟨⟨⟨⟨⟨h1,h0⟩,fun e=>h2 e.symm⟩,by omega⟩,h4.symm⟩,h6⟩,h5⟩
theorem Jh {t:A1} (ht:A5 t) {s:A6} (hf:AG t s) {n:Nat} (hn:n < t.nodes.length) (hu:(t.at n).up < 0):(n:Int)∈s.has:=by
 have h0:=ht.n64
 have hb:(Gc t).getLsbD n=true:=by rw [Gc,Au];simp [hn,hu];omega
 have:(Cc s.has).getLsbD n=true:=by rw [<- hf.init,BitVec.getLsbD_or,hb];rfl
 have h2:=Lo s.has (x:=(n:Int)) (by omega) (by omega)
 rw [AC,this] at h2
 exact A9.1 h2.symm
theorem AjS {t:A1} (ht:A5 t) {s:A6} (hf:AG t s) {loc:Nat} (hl:loc < s.mo.length) {c:List Int} (hc:c∈s.mo.getD loc []) {x:Int} (hx:x∈c):x∈s.has:=by
 have hm:=hf.mo loc hl
 simp only [Eh,and_eq_true,Ah,or_eq_true,decide_eq_true_eq] at hm
 obtain ⟨⟨_,h0⟩,h1⟩:=hm
 obtain ⟨i,hi,rfl⟩:=getElem_of_mem hc
 have hd:(s.mo.getD loc [])[i]=(s.mo.getD loc []).getD i []:=by rw [getD_eq_getElem?_getD (l:=s.mo.getD loc []),getElem?_eq_getElem hi];rfl
 rw [hd] at hx
 rcases h1 i hi with e | e
 .rw [e,h0] at hx
  rw [List.mem_singleton.1 hx]
  have:=hf.ml
  have:=ht.first.1
  exact Jh ht hf (by omega) (by rw [(ht.init loc (by omega)).up];decide)
 .simp only [CE,and_eq_true,Ah,BA,A9] at e
  obtain ⟨j,hj,rfl⟩:=getElem_of_mem hx
  have:=(e.2 j hj).1.1.1.1
  rw [getD_eq_getElem?_getD,getElem?_eq_getElem hj] at this
  exact this
theorem AeH {t:A1} {s:A6} (h:AG t s) {n:Int} (hn:BP t n=true) (hno:n∉s.has) (hup:(t.at n.toNat).up∈s.has) (hk:(t.at n.toNat).kind=3) (ht:0<=(t.at n.toNat).thread) {loc k:Nat} (hl:(t.at n.toNat).loc=loc) (hll:loc < s.mo.length) (k1:1<=k) (k2:k<=(s.mo.getD loc []).length)
  (hin:∀ c∈s.mo.getD loc [],∀ x∈c,x∈s.has):AG t { B6 s n (-1) with mo:=s.mo.set loc ((s.mo.getD loc []).take k++[n]::(s.mo.getD loc []).drop k) }:=by
 have sub:∀ x,x∈s.has->x∈Bg s.has (Br s.has n) n:=fun x hx=>BX.2 (.inr hx)
 obtain ⟨L,hL⟩:∃ L,L=s.mo.getD loc []:=⟨_,rfl⟩
 have hm:=h.mo loc hll
 rw [<- hL] at k2 hin ⊢
 have h0:(s.mo.set loc (L.take k++[n]::L.drop k)).getD loc []=L.take k++[n]::L.drop k:=by rw [getD_eq_getElem?_getD (l:=s.mo.set _ _),getElem?_set,if_pos rfl,if_pos hll];rfl
 have h2:∀ j,j≠loc->(s.mo.set loc (L.take k++[n]::L.drop k)).getD j []=s.mo.getD j []:=fun j hj=>by rw [getD_eq_getElem?_getD (l:=s.mo.set _ _),getElem?_set,if_neg (Ne.symm hj),<- getD_eq_getElem?_getD]
 have h3:CE t [n] (Bg s.has (Br s.has n) n) loc=true:=by
  simp only [CE,and_eq_true,Ah,BA,A9,List.length_singleton]
  refine ⟨rfl,fun i hi=>?_⟩
  obtain rfl:i=0:=by omega
  refine ⟨⟨⟨⟨BX.2 (.inl rfl),rfl⟩,?_⟩,decide_eq_true ht⟩,fun k hk=>by omega⟩
  simp [HT,hk,hl]
 have h1:∀ p:List Int->Bool,((L.take k++[n]::L.drop k).filter p).length=(L.filter p).length+(if p [n]=true then 1 else 0):=fun p=>by
  have e:L.filter p=(L.take k).filter p++(L.drop k).filter p:=by rw [<- List.filter_append,List.take_append_drop]
  rw [e,List.filter_append,filter_cons,length_append,length_append]
  split
  .rw [length_cons];omega
  .omega
 have Cp:∀ i,i≠k->(L.take k++[n]::L.drop k).getD i []=L.getD (if i < k then i else i - 1) []:=fun i hi=>by
  have e:=Jj (y:=[n]) (d:=([]:List Int)) L k (if i < k then i else i - 1) k2
  by_cases c:i < k
  .rw [if_pos c] at e ⊢
   rwa [if_pos c] at e
  .rw [if_neg c] at e ⊢
   rwa [if_neg (show ¬ i - 1 < k by omega),show i - 1+1=i by omega] at e
 have h4:(L.take k++[n]::L.drop k).getD k []=[n]:=by
  rw [getD_eq_getElem?_getD,List.getElem?_append_right (by rw [length_take];omega),length_take,Nat.min_eq_left k2];simp
 refine Sd h hn hno hup (by simp [okJ,hk]) (by rw [List.length_set]) ?_ ?_ ?_
 .intro j hj
  by_cases c:j=loc
  .subst c
   simp only [Eh,h0,<- hL,and_eq_true,Ah,or_eq_true,not_eq_true',decide_eq_true_eq,decide_eq_false_iff_not] at hm ⊢
   obtain ⟨⟨m1,m2⟩,m3⟩:=hm
   refine ⟨⟨by simp,?_⟩,fun i hi=>?_⟩
   .rw [Cp 0 (by omega),if_pos (by omega)];exact m2
   .by_cases ci:i=k
    .rw [ci,h4];exact .inr h3
    .rw [Cp i ci]
     have h5:i < L.length+1:=by
      rw [length_append,length_cons,length_take,List.length_drop] at hi
      omega
     by_cases c:i < k
     .rw [if_pos c]
      rcases m3 i (by omega) with c | c
      .exact .inl c
      .exact .inr (EP sub c)
     .rw [if_neg c]
      rcases m3 (i - 1) (by omega) with d | d
      .omega
      .exact .inr (EP sub d)
  .have hm:=h.mo j hj
   simp only [Eh,h2 j c,and_eq_true,Ah,or_eq_true] at hm ⊢
   refine ⟨hm.1,fun i hi=>?_⟩
   rcases hm.2 i hi with d | d
   .exact .inl d
   .exact .inr (EP sub d)
 .intro x hx kx
  by_cases c:(t.at x.toNat).loc.toNat=loc
  .rw [c,h0,h1,<- hL]
   have:AU [n] x=false:=Bool.eq_false_iff.2 fun d=>hno (by rw [<- List.mem_singleton.1 (A9.1 d)];exact hx)
   rw [this];simp
  .rw [h2 _ c]
 .intro _
  rw [hl,toNat_natCast,h0,h1]
  have e:L.filter (fun c=>AU c n)=[]:=by
   rw [List.filter_eq_nil_iff]
   intro c hc d
   exact hno (hin c hc n (A9.1 d))
  rw [e]
  simp [AU]
structure Nxt (t:A1) (s s':A6) (n:Nat):Prop where
 has:∀ x,x∈s'.has↔x=(n:Int)\/x∈s.has
 no:(n:Int)∉s.has
 nl:n < t.nodes.length
 up:(t.at n).up∈s.has
 ext:Ext t s s'
 form:AG t s'
 src:(t.at n).kind=2->Ey s'.has s'.jf n∈s.has
 cls:∀ loc,∀ c∈s.mo.getD loc [],∃ c'∈s'.mo.getD loc [],∀ x∈c,x∈c'
theorem Lg {t:A1} {s s':A6} {n kind w:Int} (e:D6 t s n kind w=some s'):∃ m:Nat,n=m/\m < t.nodes.length/\(t.at m).kind=kind/\(m:Int)∉s.has/\(t.at m).up∈s.has/\s' = B6 s m w:=by
 unfold D6 at e
 split at e
 .rename_i h0
  cases e
  simp only [Cy,and_eq_true,not_eq_true',decide_eq_true_eq] at h0
  obtain ⟨⟨⟨⟨_,h1⟩,h2⟩,h3⟩,h4⟩:=h0
  obtain ⟨m,rfl,hm⟩:=A8 h1
  rw [toNat_natCast] at h2 h4
  exact ⟨m,rfl,hm,h2,(fun c=>by rw [A9.2 c] at h3;exact absurd h3 (by decide)),A9.1 h4,rfl⟩
 .cases e
theorem AcW {t:A1} {s s':A6} (hf:AG t s) {n:Int} (e:D6 t s n 4 (-1)=some s'):∃ m,Nxt t s s' m:=by
 obtain ⟨m,rfl,hm,hk,h0,h1,rfl⟩:=Lg e
 have h2:AG t (B6 s m (-1)):=Se hf (BM hm) h0 (by rw [toNat_natCast];exact h1) (by simp [okJ,hk]) (by rw [toNat_natCast];omega)
 exact ⟨m,fun x=>BX,h0,hm,h1,(Gi e).1,h2,fun c=>by omega,fun loc c hc=>⟨c,hc,fun _ h=>h⟩⟩
theorem Aau {t:A1} {s s':A6} (hf:AG t s) {n w:Int} (e:JZ t s n w=some s'):∃ m,Nxt t s s' m:=by
 have he:=(Aat e).1
 unfold JZ at e
 split at e
 .rename_i x hx
  split at e
  .rename_i h0
   cases e
   obtain ⟨m,rfl,hm,hk,h3,h4,rfl⟩:=Lg hx
   have h2:=AE.1 h0
   refine ⟨m,fun x=>BX,h3,hm,h4,he,h2,fun _=>?_,fun loc c hc=>⟨c,hc,fun _ h=>h⟩⟩
   have h1:=AY (AJ h0)
   obtain ⟨a,b,_⟩:=h1.read m (BX.2 (.inl rfl)) (by rw [toNat_natCast];exact hk)
   rcases BX.1 a with h | h
   .rw [h,toNat_natCast] at b;omega
   .exact h
  .cases e
 .cases e
theorem Xo {t:A1} (ht:A5 t) {s s':A6} (hf:AG t s) {n w:Int} (e:EM t s n w=some s'):∃ m,Nxt t s s' m:=by
 have he:=(NL e).1
 unfold EM at e
 split at e
 .rename_i x hx
  split at e
  .cases e
  .rename_i hw
   cases e
   obtain ⟨m,rfl,hm,hk,h3,h2,rfl⟩:=Lg hx
   have hl:=ht.wloc hm (.inr hk)
   obtain ⟨loc,h0⟩:=Int.eq_ofNat_of_zero_le hl.1
   have h7:=hf.ml
   have h6:0<=(t.at m).thread:=by
    rcases Int.lt_or_le (t.at m).thread 0 with c | c
    .have h1:=(ht.thr_iff hm).1 c
     have:=(ht.init m h1).up
     have:=hf.node _ h2
     simp only [BP,and_eq_true,decide_eq_true_eq] at this
     omega
    .exact c
   simp only [toNat_natCast,h0] at he hw ⊢
   have hw:¬ (w < 1\/((s.mo.getD loc []).length:Int) < w):=hw
   have h5:∀ c∈s.mo.getD loc [],∀ x∈c,x∈s.has:=fun c hc x hx=>AjS ht hf (by omega) hc hx
   have h4:=AeH hf (n:=(m:Int)) (BM hm) h3 (by rw [toNat_natCast];exact h2) (by rw [toNat_natCast];exact hk) (by rw [toNat_natCast];exact h6) (loc:=loc) (k:=w.toNat) (by rw [toNat_natCast];exact h0) (by omega) (by omega) (by omega) h5
   refine ⟨m,fun x=>BX,h3,hm,h2,he,h4,fun c=>by omega,fun l c hc=>⟨c,?_,fun _ h=>h⟩⟩
   show c∈(s.mo.set loc _).getD l []
   by_cases cl:l=loc
   .subst cl
    rw [getD_eq_getElem?_getD (l:=s.mo.set _ _),getElem?_set,if_pos rfl,if_pos (by omega)]
    have:c∈(s.mo.getD l []).take w.toNat++(s.mo.getD l []).drop w.toNat:=by rw [List.take_append_drop];exact hc
    rw [mem_append] at this
    simp only [getD_some,mem_append,List.mem_cons]
    rcases this with h | h
    .exact .inl h
    .exact .inr (.inr h)
   .rw [getD_eq_getElem?_getD (l:=s.mo.set _ _),getElem?_set,if_neg (Ne.symm cl),<- getD_eq_getElem?_getD];exact hc
 .cases e
theorem Ahu {t:A1} {s s':A6} (hf:AG t s) {n w:Int} (e:P9 t s n w=some s'):∃ m,Nxt t s s' m:=by
 have he:=(Aa5 e).1
 unfold P9 at e
 split at e
 .rename_i x hx
  simp only at e
  split at e
  .cases e
  .rename_i hw
   split at e
   .rename_i h1
    cases e
    obtain ⟨m,rfl,hm,hk,h2,h3,rfl⟩:=Lg hx
    have h0:=AE.1 h1
    refine ⟨m,fun x=>BX,h2,hm,h3,he,h0,fun c=>by omega,fun l c hc=>?_⟩
    simp only [toNat_natCast] at hw ⊢
    show ∃ c'∈(s.mo.set (t.at m).loc.toNat _).getD l [],∀ x∈c,x∈c'
    by_cases cl:(t.at m).loc.toNat=l
    .subst cl
     by_cases hll:(t.at m).loc.toNat < s.mo.length
     .rw [getD_eq_getElem?_getD (l:=s.mo.set _ _),getElem?_set,if_pos rfl,if_pos hll,getD_some]
      obtain ⟨i,hi,rfl⟩:=getElem_of_mem hc
      refine ⟨((s.mo.getD (t.at m).loc.toNat []).set w.toNat _)[i]'(by rw [List.length_set];exact hi),List.getElem_mem _,fun x hx=>?_⟩
      rw [List.getElem_set]
      split
      .rename_i h
       subst h
       refine BX.2 (.inr ?_)
       show x∈(s.mo.getD (t.at m).loc.toNat []).getD w.toNat []
       rw [getD_eq_getElem?_getD (l:=s.mo.getD _ _),getElem?_eq_getElem hi];exact hx
      .exact hx
     .rw [getD_eq_getElem?_getD,List.getElem?_eq_none (by omega)] at hc
      cases hc
    .rw [getD_eq_getElem?_getD (l:=s.mo.set _ _),getElem?_set,if_neg cl,<- getD_eq_getElem?_getD]
     exact ⟨c,hc,fun _ h=>h⟩
   .cases e
 .cases e
theorem R8 {t:A1} (ht:A5 t) {s s':A6} (hf:AG t s) {a b:Nat} (e:Gk t s a b=some s'):∃ m,Nxt t s s' m:=by
 unfold Gk at e
 simp only at e
 split at e
 .cases e
 .split at e
  .exact AcW hf e
  .split at e
   .split at e
    .cases e
    .exact Aau hf e
   .split at e
    .split at e
     .rename_i s2 hj
      cases e;exact Ahu hf hj
     .exact Xo ht hf e
    .exact Xo ht hf e
theorem KG {t:A1} (ht:A5 t) {s:A6} (hf:AG t s) {a b:Nat}:Bw t s s.has.length b a=true↔(a:Int)∈s.has/\(((b:Int)∈s.has/\Ap t b a=true)\/Ey s.has s.jf a=b):=by
 have h0:=ht.n64
 have hF:=AY (AJ (AE.2 hf))
 have hn:Cu t s.has:=hf.node
 have hh:=fun (x:Nat)=>hn.has h0 (x:Int)
 simp only [Bw,hh,or_eq_true,and_eq_true,List.any_eq_true,List.mem_range,decide_eq_true_eq,A9]
 constructor
 .rintro (⟨⟨h1,h2⟩,h3⟩ | ⟨i,hi,h1,h2⟩)
  .exact ⟨h2,.inl ⟨h1,h3⟩⟩
  .have hm:=Ai (d:=0) hi
   have:=hF.at_ i hi
   rw [h2,h1] at this
   rw [h2] at hm
   exact ⟨hm,.inr this⟩
 .rintro ⟨h1,⟨h2,h3⟩ | h2⟩
  .exact .inl ⟨⟨h2,h1⟩,h3⟩
  .obtain ⟨i,hi,e⟩:=getElem_of_mem h1
   have hg:s.has.getD i 0=(a:Int):=by rw [getD_eq_getElem?_getD,getElem?_eq_getElem hi];exact e
   have:=hF.at_ i hi
   rw [hg,h2] at this
   exact .inr ⟨i,hi,this.symm,hg⟩
theorem A6F {t:A1} {s:A6} (hf:AG t s) (ht:A5 t) {w:Nat} (hw:(w:Int)∈s.has) (hk:(t.at w).kind=3):Yf t s w∈s.mo.getD (t.at w).loc.toNat []/\(w:Int)∈Yf t s w:=by
 obtain ⟨a1,a2,a3,a4,a5⟩:=A16 hf hw (by rw [toNat_natCast];exact hk) ht
 rw [toNat_natCast] at a1 a2 a3 a4 a5
 exact ⟨Ai (d:=[]) (k:=(Be s (t.at w).loc w).toNat) (by omega),a5⟩
structure Lst (t:A1) (s s':A6):Prop where
 has:∀ x,x∈s.has->x∈s'.has
 on:∀ x,x∈s.has->Ey s'.has s'.jf x=Ey s.has s.jf x
 dn:∀ e a:Nat,(e:Int)∈s.has->a < t.nodes.length->Zg t s' e a=Zg t s e a
 vis:∀ e:Nat,(e:Int)∈s.has->Es t s e=true->Es t s' e=true
theorem Lst.refl (t:A1) (s:A6):Lst t s s:=⟨fun _ h=>h,fun _ _=>rfl,fun _ _ _ _=>rfl,fun _ _ h=>h⟩
theorem Lst.trans {t:A1} {a b c:A6} (h:Lst t a b) (k:Lst t b c):Lst t a c :=
 ⟨fun x hx=>k.has x (h.has x hx),fun x hx=>(k.on x (h.has x hx)).trans (h.on x hx),fun e x he hx=>(k.dn e x (h.has _ he) hx).trans (h.dn e x he hx),fun e he hv=>k.vis e (h.has _ he) (h.vis e he hv)⟩
def JO (S:BitVec 64):Nat:=((List.range 64).filter fun j=>!S.getLsbD j).length
theorem A6T {α:Type} {p q:α->Bool} (h:∀ y,p y=true->q y=true):∀ l:List α,(l.filter p).length<=(l.filter q).length
 | []=>Nat.le_refl _
 | y::l=>by
  have ih:=A6T h l
  rw [filter_cons,filter_cons]
  cases c:p y with
  | true=>rw [if_pos rfl,if_pos (h y c),length_cons,length_cons];omega
  | false =>
   rw [if_neg (by decide)]
   split
   .rw [length_cons];omega
   .exact ih
theorem Adf {α:Type} {p q:α->Bool} (h:∀ y,p y=true->q y=true) {x:α} (hq:q x=true) (hp:p x=false):∀ {l:List α},x∈l->(l.filter p).length < (l.filter q).length
 | y::l,hx=>by
  rw [filter_cons,filter_cons]
  rcases List.mem_cons.1 hx with rfl | hx
  .have:=A6T h l
   rw [hp,hq,if_neg (by decide),if_pos rfl,length_cons];omega
  .have ih:=Adf h hq hp hx
   cases c:p y with
   | true=>rw [if_pos rfl,if_pos (h y c),length_cons,length_cons];omega
   | false =>
    rw [if_neg (by decide)]
    split
    .rw [length_cons];omega
    .exact ih
theorem A9T {S:BitVec 64} {n:Nat} (hn:n < 64) (h:S.getLsbD n=false):JO (S ||| C4 (n:Int)) < JO S:=by
 refine Adf (x:=n) (fun y hy=>?_) (by rw [h];rfl) ?_ (List.mem_range.2 hn)
 .rw [BitVec.getLsbD_or,not_eq_true',Bool.or_eq_false_iff] at hy
  rw [hy.1];rfl
 .rw [BitVec.getLsbD_or,Rc hn,decide_eq_true rfl,Bool.or_true];rfl
theorem AjV (S:BitVec 64):JO S<=64:=by
 refine Nat.le_trans (List.length_filter_le _ _) ?_
 simp
def Yo (t:A1) (s:A6) (n:Nat):List Int:=(if 0<=Qz s n then [Qz s n] else [])++(if 0<=(t.at n).up then [(t.at n).up] else [])++(if 0<=(t.at n).thread then (List.range t.locs.length).map fun (k:Nat)=>(k:Int) else [])
theorem AaO (t:A1) (ht:A5 t) (s:A6) (n:Nat):(Yo t s n).length<=6:=by
 have:=ht.l4
 unfold Yo
 split<;>split<;>split<;>simp<;>omega
theorem AbV {t:A1} (ht:A5 t) {s:A6} {e r:Nat} (he:e < t.nodes.length):YF t s e r=true↔HN (fun a b=>Bw t s s.has.length b a) t.nodes.length e r\/e=r:=by
 rw [YF,Y6,or_eq_true,decide_eq_true_eq,DY ht.n64 _ he]
section
variable {t:A1} (ht:A5 t) {s:A6} (hf:AG t s)
include ht hf
theorem Ail {n:Nat} (hn:(n:Int)∈s.has) {r:Int} (h:r∈Yo t s n):∃ m:Nat,r=m/\m < t.nodes.length/\(m:Int)∈s.has/\Bw t s s.has.length m n=true:=by
 have hF:=AY (AJ (AE.2 hf))
 obtain ⟨n',e,h2⟩:=A8 (hf.node _ hn)
 have e:n=n':=by omega
 subst e
 have fin:∀ m:Nat,(m:Int)∈s.has->(Ap t m n=true\/Ey s.has s.jf n=(m:Int))->∃ k:Nat,(m:Int)=k/\k < t.nodes.length/\(k:Int)∈s.has/\Bw t s s.has.length k n=true:=fun m hm h=>by
  obtain ⟨m',e,h3⟩:=A8 (hf.node _ hm)
  have e:m=m':=by omega
  subst e
  refine ⟨m,rfl,h3,hm,(KG ht hf).2 ⟨hn,?_⟩⟩
  rcases h with h | h
  .exact .inl ⟨hm,h⟩
  .exact .inr h
 simp only [Yo,mem_append] at h
 rcases h with (h | h) | h
 .split at h
  .rename_i c
   rw [List.mem_singleton] at h
   subst h
   have hk:(t.at n).kind=2:=by
    apply Classical.byContradiction
    intro hk
    have:=hF.none n hn (by rw [toNat_natCast];exact hk)
    rw [GH hF.len] at c
    omega
   obtain ⟨q1,_,_⟩:=hF.read n hn (by rw [toNat_natCast];exact hk)
   obtain ⟨w,hw,_⟩:=A8 (hf.node _ q1)
   rw [GH hF.len,hw]
   rw [hw] at q1
   exact fin w q1 (.inr hw)
  .cases h
 .split at h
  .rename_i c
   rw [List.mem_singleton] at h
   subst h
   have hu:=hf.up _ hn
   rw [toNat_natCast] at hu
   obtain ⟨u,h0⟩:=Int.eq_ofNat_of_zero_le c
   rw [h0]
   have h4:(u:Int)∈s.has:=by
    rcases hu with h | h
    .omega
    .rw [<- h0];exact h
   have:=RM ht h2 c
   rw [h0] at this
   exact fin u h4 (.inl this)
  .cases h
 .split at h
  .rename_i c
   obtain ⟨k,hk,rfl⟩:=List.mem_map.1 h
   have hk:=List.mem_range.1 hk
   have I:=ht.init k hk
   have h1:k < t.nodes.length:=by have:=ht.first.1;omega
   refine fin k (Jh ht hf h1 (by rw [I.up];decide)) (.inl ?_)
   simp only [Ap,BM h1,BM h2,toNat_natCast,I.thr,Bool.true_and]
   rw [if_pos (by decide)]
   exact decide_eq_true c
  .cases h
theorem A2c {S:Nat->Prop} (hS:∀ n:Nat,S n->(n:Int)∈s.has->∀ r:Nat,(r:Int)∈Yo t s n->S r) {e r:Nat} (he:(e:Int)∈s.has) (h0:S e) (h:YF t s e r=true):S r/\(r:Int)∈s.has:=by
 have hF:=AY (AJ (AE.2 hf))
 obtain ⟨e',e1,h7⟩:=A8 (hf.node _ he)
 have e1:e=e':=by omega
 subst e1
 have up:∀ (N b:Nat),b < N->(b:Int)∈s.has->S b->∀ a:Nat,Aw t a b=true->S a/\(a:Int)∈s.has:=by
  intro N
  induction N with
  | zero=>intro b h;omega
  | succ N ih =>
   intro b hN hb h9 a h
   obtain ⟨b',e,h6⟩:=A8 (hf.node _ hb)
   have e:b=b':=by omega
   subst e
   have hh:=ht.up b h6
   rcases Int.lt_or_le (t.at b).up 0 with c | c
   .unfold Aw at h
    rw [Dc ht.up a (by omega),if_pos c] at h
    cases h
   .obtain ⟨m,hm⟩:=Int.eq_ofNat_of_zero_le c
    have hu:=hf.up _ hb
    rw [toNat_natCast] at hu
    have h8:(m:Int)∈s.has:=by
     rcases hu with hu | hu
     .omega
     .rw [<- hm];exact hu
    have h4:S m:=hS b h9 hb m (by
     simp only [Yo,mem_append]
     left;right
     rw [if_pos c,hm];simp)
    rw [Dd ht.up h6 hm,or_eq_true,decide_eq_true_eq] at h
    rcases h with h | h
    .rw [<- h];exact ⟨h4,h8⟩
    .exact ih m (by omega) h8 h4 a h
 have one:∀ {a b:Nat},S a->(a:Int)∈s.has->a < t.nodes.length->Bw t s s.has.length b a=true->S b/\(b:Int)∈s.has:=fun {a b} ha hi hal h=>by
  obtain ⟨_,⟨h1,h2⟩ | h⟩:=(KG ht hf).1 h
  .refine ⟨?_,h1⟩
   have h5:=h2
   simp only [Ap,and_eq_true,toNat_natCast] at h5
   obtain ⟨⟨n1,n2⟩,h3⟩:=h5
   simp only [BP,and_eq_true,decide_eq_true_eq] at n1 n2
   by_cases c:(t.at b).thread < 0
   .rw [if_pos c,decide_eq_true_eq] at h3
    have hd:=(ht.thr_iff (m:=b) (by omega)).1 c
    refine hS a ha hi b ?_
    simp only [Yo,mem_append]
    right
    rw [if_pos h3]
    exact List.mem_map.2 ⟨b,List.mem_range.2 hd,rfl⟩
   .rw [if_neg c] at h3
    exact (up _ a (Nat.lt_succ_self _) hi ha b h3).1
  .have hk:(t.at a).kind=2:=by
    apply Classical.byContradiction
    intro hk
    have:=hF.none a hi (by rw [toNat_natCast];exact hk)
    omega
   obtain ⟨q1,_,_⟩:=hF.read a hi (by rw [toNat_natCast];exact hk)
   rw [h] at q1
   refine ⟨hS a ha hi b ?_,q1⟩
   simp only [Yo,mem_append]
   left;left
   rw [GH hF.len,h,if_pos (by omega)];simp
 rw [AbV ht h7] at h
 rcases h with h | h
 .have hg:∀ {r:Nat},HN (fun a b=>Bw t s s.has.length b a) t.nodes.length e r->S r/\(r:Int)∈s.has/\r < t.nodes.length:=by
   intro r h
   induction h with
   | one hb h=>obtain ⟨a,b⟩:=one h0 he h7 h;exact ⟨a,b,hb⟩
   | more _ hc h ih=>obtain ⟨a,b⟩:=one ih.1 ih.2.1 ih.2.2 h;exact ⟨a,b,hc⟩
  have:=hg h
  exact ⟨this.1,this.2.1⟩
 .rw [<- h];exact ⟨h0,he⟩
end
end Go.AM
