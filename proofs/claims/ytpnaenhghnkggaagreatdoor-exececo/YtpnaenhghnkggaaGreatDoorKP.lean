/-
  Own work, part of the proof of these laws: plain laws.
-/
import Derived.Test.YtpnaenhghnkggaaGreatDoorKO
set_option maxRecDepth 10000
set_option maxHeartbeats 64000000
set_option linter.unusedVariables false
set_option linter.unusedSimpArgs false
set_option linter.unusedSectionVars false
open Bool (and_eq_true or_eq_true eq_false_iff)
open Int (toNat_natCast)
open List (getElem?_eq_getElem getD_eq_getElem?_getD length_map length_append length_set length_cons take_length all_eq_true length_drop getElem_of_mem map_nil map_set)
open Option (getD_some)
open BitVec (getLsbD_or getLsbD_and)
namespace Go.AM
open Go Go.Proofs
def hbE (t:A1) (e:AT) (a b:Nat):Bool:=((J9 t e.has e.rf).getD a 0#64).getLsbD b
noncomputable def ecE (t:A1) (e:AT) (a b:Nat):Bool:=((QV t e).getD a 0#64).getLsbD b
def wdW (t:A1) (R:Rows) (a:Nat):BitVec 64:=Cl (a:Int) ||| (if (t.at a).kind=4 then R.getD a 0#64 else 0#64)
section
variable {t:A1} (ht:A5 t) (e:AT)
include ht
theorem JX:J9 t e.has e.rf=Ax t.nodes.length (hbE t e):=RY ht.n64 _
theorem Np:QV t e=Ax t.nodes.length (ecE t e):=by
 have h:=RY ht.n64 (fun a b=>@decide (XG t e a b) (Classical.propDecidable _))
 exact h
theorem GK {a b:Nat} (ha:a < t.nodes.length):hbE t e a b=true↔hbX t e a b:=Ds ht.n64 _ ha
theorem GI {a b:Nat} (ha:a < t.nodes.length):ecE t e a b=true↔KC t e a b:=by
 have h:=Ds ht.n64 (fun a b=>@decide (XG t e a b) (Classical.propDecidable _)) (b:=b) ha
 exact h
theorem AaI (w:BitVec 64) (d:Nat):(Dr (orF (J9 t e.has e.rf) (QV t e)) w).getLsbD d=true↔∃ c,c < t.nodes.length/\w.getLsbD c=true/\(hbX t e c d\/KC t e c d):=by
 have h0:=ht.n64
 rw [JX ht e,Np ht e,Qe h0,Me (by rw [AJ];exact h0),AJ]
 refine exists_congr fun c=>?_
 constructor
 .rintro ⟨h1,h2,h3⟩
  refine ⟨h1,h2,?_⟩
  rw [DV h1,Aw,and_eq_true,and_eq_true,or_eq_true,GK ht e h1,GI ht e h1] at h3
  exact h3.1.2
 .rintro ⟨h1,h2,h3⟩
  refine ⟨h1,h2,?_⟩
  have hd:d < t.nodes.length:=by
   rcases h3 with h | h
   .exact Gz.lt h
   .exact Gz.lt h
  rw [DV h1,Aw,and_eq_true,and_eq_true,or_eq_true,GK ht e h1,GI ht e h1,decide_eq_true_eq,decide_eq_true_eq]
  exact ⟨⟨hd,h3⟩,by omega⟩
theorem XT {p:Nat->Nat->Bool} {a c:Nat} (ha:a < t.nodes.length) (hc:c < t.nodes.length):(wdW t (Ax t.nodes.length p) a).getLsbD c=true↔c=a\/((t.at a).kind=4/\p a c=true):=by
 have h0:=ht.n64
 rw [wdW,getLsbD_or,or_eq_true,C3,decide_eq_true_eq]
 refine or_congr ?_ ?_
 .constructor
  .rintro ⟨h,_⟩;omega
  .intro h;exact ⟨by omega,by omega⟩
 .by_cases k:(t.at a).kind=4
  .rw [if_pos k,DV ha,Aw,and_eq_true,and_eq_true,decide_eq_true_eq,decide_eq_true_eq]
   constructor
   .rintro ⟨⟨_,h⟩,_⟩;exact ⟨k,h⟩
   .rintro ⟨_,h⟩;exact ⟨⟨hc,h⟩,by omega⟩
  .rw [if_neg k]
   simp [k]
theorem Aag {a b:Nat} (ha:a < t.nodes.length) (hb:b < t.nodes.length):Dr (orF (J9 t e.has e.rf) (QV t e)) (wdW t (J9 t e.has e.rf) a) &&& wdW t (Ax t.nodes.length fun x y=>hbE t e y x) b≠0#64 ↔
  ∃ c d:Nat,c < t.nodes.length/\d < t.nodes.length/\(c=a\/((t.at a).kind=4/\hbX t e a c))/\(d=b\/((t.at b).kind=4/\hbX t e d b))/\(hbX t e c d\/KC t e c d):=by
 have ne:∀ x:BitVec 64,x≠0#64↔∃ d,x.getLsbD d=true:=fun x=>by
  constructor
  .intro h
   refine Classical.byContradiction fun h2=>h (B4 fun d _=>?_)
   cases hx:x.getLsbD d with
   | true=>exact absurd ⟨d,hx⟩ h2
   | false=>simp
  .rintro ⟨d,hd⟩ h
   rw [h] at hd
   simp at hd
 rw [ne]
 constructor
 .rintro ⟨d,hd⟩
  rw [getLsbD_and,and_eq_true,AaI ht e] at hd
  obtain ⟨⟨c,hc,h1,h2⟩,h3⟩:=hd
  have h0:d < t.nodes.length:=by
   rcases h2 with h | h
   .exact Gz.lt h
   .exact Gz.lt h
  rw [JX ht e,XT ht ha hc,GK ht e ha] at h1
  rw [XT ht hb h0,GK ht e h0] at h3
  exact ⟨c,d,hc,h0,h1,h3,h2⟩
 .rintro ⟨c,d,hc,h0,h1,h3,h2⟩
  refine ⟨d,?_⟩
  rw [getLsbD_and,and_eq_true,AaI ht e,XT ht hb h0,GK ht e h0]
  refine ⟨⟨c,hc,?_,h2⟩,h3⟩
  rw [JX ht e,XT ht ha hc,GK ht e ha]
  exact h1
end
def psV (t:A1) (e:AT) (I K:Nat) (a b:Nat):Prop:=R7 t e a b/\∃ i k,i < e.has.length/\k < e.has.length/\e.has.getD i 0=(a:Int)/\e.has.getD k 0=(b:Int)/\(i < I\/(i=I/\k < K))
theorem Ajs {t:A1} {e:AT} (a b:Nat):psV t e 0 0 a b↔False:=by
 constructor
 .rintro ⟨_,i,k,_,_,_,_,h⟩;omega
 .exact False.elim
theorem Adl {t:A1} {e:AT} (a b:Nat):psV t e e.has.length 0 a b↔R7 t e a b:=by
 constructor
 .exact fun h=>h.1
 .intro h
  have get:∀ x:Int,x∈e.has->∃ i,i < e.has.length/\e.has.getD i 0=x:=fun x hx=>by
   obtain ⟨i,hi,ei⟩:=getElem_of_mem hx
   exact ⟨i,hi,by rw [getD_eq_getElem?_getD,getElem?_eq_getElem hi];exact ei⟩
  obtain ⟨i,hi,ei⟩:=get _ h.1
  obtain ⟨k,hk,ek⟩:=get _ h.2.1
  exact ⟨h,i,k,hi,hk,ei,ek,.inl hi⟩
theorem Adn {t:A1} {e:AT} {I:Nat} (a b:Nat):psV t e (I+1) 0 a b↔psV t e I e.has.length a b:=by
 constructor
 .rintro ⟨h,i,k,h1,h2,h3,h4,h5⟩
  exact ⟨h,i,k,h1,h2,h3,h4,by omega⟩
 .rintro ⟨h,i,k,h1,h2,h3,h4,h5⟩
  exact ⟨h,i,k,h1,h2,h3,h4,by omega⟩
theorem Adm {t:A1} {e:AT} {I K:Nat} {x y:Nat} (hI:I < e.has.length) (hK:K < e.has.length) (hx:e.has.getD I 0=(x:Int)) (hy:e.has.getD K 0=(y:Int)) (h:R7 t e x y) (a b:Nat):psV t e I (K+1) a b↔psV t e I K a b\/(a=x/\b=y):=by
 constructor
 .rintro ⟨h0,i,k,h1,h2,h3,h4,h5⟩
  by_cases c:i=I/\k=K
  .obtain ⟨rfl,rfl⟩:=c
   exact .inr ⟨by omega,by omega⟩
  .exact .inl ⟨h0,i,k,h1,h2,h3,h4,by omega⟩
 .rintro (⟨h0,i,k,h1,h2,h3,h4,h5⟩ | ⟨rfl,rfl⟩)
  .exact ⟨h0,i,k,h1,h2,h3,h4,by omega⟩
  .exact ⟨h,I,K,hI,hK,hx,hy,by omega⟩
theorem Ago {t:A1} {e:AT} {I K:Nat} {x y:Nat} (hx:e.has.getD I 0=(x:Int)) (hy:e.has.getD K 0=(y:Int)) (h:¬ R7 t e x y) (a b:Nat):psV t e I (K+1) a b↔psV t e I K a b:=by
 constructor
 .rintro ⟨h0,i,k,h1,h2,h3,h4,h5⟩
  by_cases c:i=I/\k=K
  .obtain ⟨rfl,rfl⟩:=c
   have e1:a=x:=by omega
   have e2:b=y:=by omega
   subst e1
   subst e2
   exact absurd h0 h
  .exact ⟨h0,i,k,h1,h2,h3,h4,by omega⟩
 .rintro ⟨h0,i,k,h1,h2,h3,h4,h5⟩
  exact ⟨h0,i,k,h1,h2,h3,h4,by omega⟩
theorem Aae {t:A1} {e:AT} {I:Nat} {x:Nat} (hx:e.has.getD I 0=(x:Int)) (h:∀ y,¬ R7 t e x y) (a b:Nat):psV t e (I+1) 0 a b↔psV t e I 0 a b:=by
 constructor
 .rintro ⟨h0,i,k,h1,h2,h3,h4,h5⟩
  by_cases c:i=I
  .subst c
   have e1:a=x:=by omega
   subst e1
   exact absurd h0 (h b)
  .exact ⟨h0,i,k,h1,h2,h3,h4,by omega⟩
 .rintro ⟨h0,i,k,h1,h2,h3,h4,h5⟩
  exact ⟨h0,i,k,h1,h2,h3,h4,by omega⟩
theorem Agk {t:A1} {s:A8} {x:List Int} (h:okX t s x=true) {n:Int} (hn:n∈x):n∈s.has:=by
 rw [okX,and_eq_true,and_eq_true,all_eq_true] at h
 exact A7.1 (h.1.2 n hn)
theorem Hg {α:Type} {l:List α} {p:α->Bool} {d:α}:l.all p=true↔∀ j,j < l.length->p (l.getD j d)=true:=by
 rw [all_eq_true]
 constructor
 .intro h j hj;exact h _ (Af hj)
 .intro h y hy
  obtain ⟨j,hj,e⟩:=getElem_of_mem hy
  have:=h j hj
  rwa [getD_eq_getElem?_getD,getElem?_eq_getElem hj,getD_some,e] at this
theorem A73 {t:A1} {s:A8} {x:List Int} {k:Nat} (hk:k < x.length) (h:Nd t s x (x.getD k 0)=false):Zw t s x=none:=by
 rw [Zw,if_neg]
 intro hc
 rw [and_eq_true,and_eq_true] at hc
 have:=Hg (d:=0).1 hc.1.2 k hk
 rw [h] at this;cases this
theorem A74 {t:A1} {s:A8} {x:List Int} {k:Nat} (hk:k < s.mo.length) (h:Ty x (s.mo.getD k [])=false):Zw t s x=none:=by
 rw [Zw,if_neg]
 intro hc
 rw [and_eq_true,and_eq_true] at hc
 have:=Hg (d:=[]).1 hc.2 k hk
 rw [h] at this;cases this
theorem A9Z {t:A1} {s:A8} {x:List Int} (h:okX t s x=true) (h1:∀ j,j < x.length->Nd t s x (x.getD j 0)=true) (h2:∀ j,j < s.mo.length->Ty x (s.mo.getD j [])=true):Zw t s x=some ⟨x,x.map (rVX t s x),s.mo.map (Tz x)⟩:=by
 rw [Zw,if_pos]
 rw [and_eq_true,and_eq_true]
 exact ⟨⟨h,Hg.2 h1⟩,Hg.2 h2⟩
theorem AcW {x:List Int} {l:List (List Int)} {j:Nat} (hj:j < l.length) (h:¬ (Y0 x (l.getD j [])).length<=1):Ty x l=false:=by
 rw [eq_false_iff]
 intro hc
 exact h (of_decide_eq_true (Hg (d:=[]).1 hc j hj))
theorem A9x {x:List Int} {l:List (List Int)} (h:∀ j,j < l.length->(Y0 x (l.getD j [])).length<=1):Ty x l=true:=Hg (d:=[]).2 fun j hj=>decide_eq_true (h j hj)
theorem A9y {x:List Int} {l:List (List Int)} {j:Nat} (hj:j < l.length):Tz x (l.take (j+1))=Tz x (l.take j)++Y0 x (l.getD j []):=by
 rw [List.take_succ_eq_append_getElem hj,Tz,Tz,List.flatMap_append,getD_eq_getElem?_getD,getElem?_eq_getElem hj]
 simp
theorem Sf {α:Type} {l:List α} {j:Nat} {d:α} (hj:j < l.length):l.take (j+1)=l.take j++[l.getD j d]:=by
 rw [List.take_succ_eq_append_getElem hj,getD_eq_getElem?_getD,getElem?_eq_getElem hj];rfl
abbrev SO (t:A1) (e:AT) (D:Rows):List VV:=[.i .i64 t.vals,lS t.locs,.ls (t.regs.map Hv),.ls (t.nodes.map eN),lI e.has,lI e.rf,.ls (e.mo.map M5),lW D]
theorem A62 {l:List Int} {n:Int} (h:AZ l n=false):BI l n = -1:=by
 rw [BI,C7]
 cases hq:l.findIdx? fun y=>decide (n=y) with
 | none=>rfl
 | some k =>
  obtain ⟨a,b,_⟩:=List.findIdx?_eq_some_iff_getElem.1 hq
  rw [eq_false_iff] at h
  exact absurd (A7.2 (by rw [of_decide_eq_true b];exact List.getElem_mem a)) h
section
variable {V:Ae} (C:Ai V) {Q:VV->Prop}
include C
theorem ML (t:A1) (e:AT) (D:Rows) (he:QP e) (hl:e.has.length=e.rf.length) (n:Int):VP V VN [.ag (SO t e D),.i .i64 n] Q↔Q (.i .i64 (Cc e.has e.rf n)):=by
 refine Ad ?_
 rw [Ab C.c_z116.1 C.c_z116.2]
 have h1:=he.has
 have qI:=fun (Q:VV->Prop)=>AK C e.has n (by omega) (Q:=Q)
 cases c:AZ e.has n with
 | true =>
  obtain ⟨k,ek,hk,_,_⟩:=BV c
  have gR:e.rf[k]? = some (e.rf.getD k 0):=Ar (by omega)
  have h0:k < e.rf.length:=by omega
  rw [show C7 (fun y=>decide (n=y)) e.has=(k:Int) from ek] at qI
  have d0:decide ((k:Int) < 0)=false:=decide_eq_false (by omega)
  rw [Cc,c,if_pos rfl,ek,toNat_natCast]
  simp only [SS,go_sem,↓reduceIte,qI,d0,gR,h0]
 | false =>
  rw [show C7 (fun y=>decide (n=y)) e.has = -1 from A62 c] at qI
  rw [Cc,c,if_neg (by decide)]
  simp only [SS,go_sem,↓reduceIte,qI]
theorem QX (t:A1) (e:AT) (D:Rows) (he:QP e) {w loc:Nat} (hw:w < t.nodes.length) (hloc:(t.at w).loc=loc) (hl:loc < e.mo.length) {k:Nat} (hk:BI (e.mo.getD loc []) w=k):VP V PV [.ag (SO t e D),.i .i64 w] Q↔Q (vW (BA ((e.mo.getD loc []).drop (k+1)))):=by
 refine Ad ?_
 rw [Ab C.c_z177.1 C.c_z177.2]
 have gN:=A6 hw
 have gM:e.mo[loc]? = some (e.mo.getD loc []):=by rw [getD_eq_getElem?_getD,getElem?_eq_getElem hl];rfl
 have hm:=he.mi' loc
 obtain ⟨M,hM⟩:∃ M,M=e.mo.getD loc []:=⟨_,rfl⟩
 rw [<- hM] at gM hm hk ⊢
 have qI:=fun (Q:VV->Prop)=>AK C M w (by omega) (Q:=Q)
 rw [show C7 (fun y=>decide ((w:Int)=y)) M=(k:Int) from hk] at qI
 have hi:BI M w < M.length:=Ln _ _
 have h0:k+1<=M.length:=by omega
 have w1:IntKind.i64.wrap ((k:Int)+1)=((k+1:Nat):Int):=by rw [AR (by omega) (by omega)];omega
 have h1:List.take (M.length - (k+1)) (List.drop (k+1) M)=M.drop (k+1):=List.take_of_length_le (by rw [length_drop];omega)
 have qO:=fun (Q:VV->Prop)=>CN C (M.drop (k+1)) (by rw [length_drop];omega) (Q:=Q)
 simp only [A1s,go_sem,↓reduceIte,gN,hw,hloc,gM,hl,qI,w1,h0,h1,Nat.le_refl,and_self,qO]
theorem QY (t:A1) (e:AT) (D:Rows) {n:Nat} (hn:n < t.nodes.length):VP V VT [.ag (SO t e D),.i .i64 n] Q↔Q (.b (decide (0<=(t.at n).thread) && decide ((t.at n).mode=4))):=by
 refine Ad ?_
 rw [Ab C.c_z119.1 C.c_z119.2]
 have gN:=A6 hn
 cases d:decide (0<=(t.at n).thread)<;>simp only [A0V,go_sem,↓reduceIte,gN,hn,d,Bool.true_and,Bool.false_and]
theorem MM (t:A1) (e:AT) (D R:Rows) {n:Nat} (hn:n < t.nodes.length) (hR:R.length=t.nodes.length):VP V VW [.ag (SO t e D),.i .i64 n,lW R] Q↔Q (vW (wdW t R n)):=by
 refine Ad ?_
 rw [Ab C.c_z121.1 C.c_z121.2]
 have gN:=A6 hn
 have gR:R[n]? = some (R.getD n 0#64):=by rw [getD_eq_getElem?_getD,getElem?_eq_getElem (by omega)];rfl
 have h0:n < R.length:=by omega
 have qP:=fun (Q:VV->Prop)=>BM C 0#64 n (Q:=Q)
 rw [BitVec.zero_or] at qP
 unfold wdW
 cases d:decide ((t.at n).kind=4) with
 | true =>
  rw [if_pos (of_decide_eq_true d)]
  simp only [ST,go_sem,↓reduceIte,gN,hn,d,gR,h0,qP]
 | false =>
  rw [if_neg (of_decide_eq_false d),BitVec.or_zero]
  simp only [ST,go_sem,↓reduceIte,gN,hn,d,qP]
end
def rfW (e:AT) (n:Int):Nat->BitVec 64
 | 0=>0#64
 | k+1=>if e.rf.getD k 0=n then rfW e n k ||| Cl (e.has.getD k 0) else rfW e n k
def bhW (t:A1) (e:AT) (w:Int):BitVec 64:=BA ((LD e (t.at w.toNat).loc).drop (BI (LD e (t.at w.toNat).loc) w+1).toNat)
section
variable {V:Ae} (C:Ai V) {Q:VV->Prop}
include C
theorem A6J (t:A1) (e:AT) (D:Rows) (he:QP e) (hl:e.has.length=e.rf.length) (n:Int):VP V PG [.ag (SO t e D),.i .i64 n] Q↔Q (vW (rfW e n e.rf.length)):=by
 refine Ad ?_
 rw [Ab C.c_z124.1 C.c_z124.2]
 have h1:=he.rf
 simp only [A0Z,go_sem,↓reduceIte,length_map]
 refine Ac (by decide) e.rf.length (by omega) (I:=fun k F h=>A2.tmp F 1 = .i .i64 n/\A2.tmp F 2 = .fp (SO t e D) 0/\A2.tmp F 10=lI e.rf/\A2.tmp F 5=vW (rfW e n k)/\h=[]) ?_ ?_ 0 _ _ (by omega) ?_ ?_ ?_
 .rintro k F h hk h4 h3 ⟨p1,p2,h0,p5,rfl⟩
  have gR:e.rf[k]? = some (e.rf.getD k 0):=Ar hk
  have h2:k < e.has.length:=by omega
  have gH:e.has[k]? = some (e.has.getD k 0):=Ar h2
  have st:rfW e n (k+1)=if e.rf.getD k 0=n then rfW e n k ||| Cl (e.has.getD k 0) else rfW e n k:=rfl
  cases d:decide (e.rf.getD k 0=n) with
  | true =>
   rw [if_pos (of_decide_eq_true d)] at st
   simp only [go_sem,↓reduceIte,h4,h3,p1,p2,h0,p5,gR,gH,hk,h2,d,st,BM C,A0]
  | false =>
   rw [if_neg (of_decide_eq_false d)] at st
   simp only [go_sem,↓reduceIte,h4,h3,p1,p2,h0,p5,gR,gH,hk,h2,d,st,A0]
 .rintro F h ⟨p1,p2,h0,p5,rfl⟩
  simp only [go_sem,↓reduceIte,p1,p2,h0,p5]
 .simp only [go_sem,↓reduceIte]
 .simp only [go_sem,↓reduceIte]
 .simp only [go_sem,↓reduceIte]
  rfl
theorem P9 {t:A1} (ht:A5 t) {e:AT} (X:XP t e) (D:Rows) (he:QP e) {w:Nat} (hw:(w:Int)∈e.has) (hk:(t.at w).kind=3):VP V PV [.ag (SO t e D),.i .i64 w] Q↔Q (vW (bhW t e w)):=by
 obtain ⟨h1,h2,h3,h4⟩:=A6h ht X hw hk
 have h6:=X.ml
 obtain ⟨loc,h0⟩:=Int.eq_ofNat_of_zero_le h2
 rw [LD,h0,toNat_natCast] at h4
 obtain ⟨k,ek,h5,_,_⟩:=BV (A7.2 h4)
 refine (QX C t e D he h1 h0 (by omega) ek).trans ?_
 rw [bhW,toNat_natCast,LD,h0,toNat_natCast,ek]
 have:((k:Int)+1).toNat=k+1:=by omega
 rw [this]
theorem A6I {t:A1} (ht:A5 t) {e:AT} (X:XP t e) (D:Rows) (he:QP e) {n:Nat} (hn:(n:Int)∈e.has):VP V PH [.ag (SO t e D),.i .i64 n] Q↔Q (vW (if (t.at n).kind=3 then bhW t e n else 0#64)):=by
 refine Ad ?_
 rw [Ab C.c_z125.1 C.c_z125.2]
 have h0:=Aew ht X hn
 have gN:=A6 h0
 cases d:decide ((t.at n).kind=3) with
 | true =>
  have k3:=of_decide_eq_true d
  have qB:=fun (Q:VV->Prop)=>P9 C ht X D he hn k3 (Q:=Q)
  rw [if_pos k3]
  simp only [SU,go_sem,↓reduceIte,gN,h0,k3,qB]
 | false =>
  have k3:=of_decide_eq_false d
  rw [if_neg k3]
  simp only [SU,go_sem,↓reduceIte,gN,h0,d,k3]
  try rfl
theorem A6H {t:A1} (ht:A5 t) {e:AT} (X:XP t e) (D:Rows) (he:QP e) {n:Nat} (hn:(n:Int)∈e.has):VP V PI [.ag (SO t e D),.i .i64 n] Q↔Q (vW (if 0<=Cc e.has e.rf n then bhW t e (Cc e.has e.rf n) else 0#64)):=by
 refine Ad ?_
 rw [Ab C.c_z126.1 C.c_z126.2]
 have qF:=fun (Q:VV->Prop)=>ML C t e D he X.ok.len n (Q:=Q)
 cases d:decide (0<=Cc e.has e.rf n) with
 | true =>
  have h0:=of_decide_eq_true d
  obtain ⟨w,e1,e2,e3,_,_⟩:=A6g ht X hn h0
  have qB:=fun (Q:VV->Prop)=>P9 C ht X D he e2 e3 (Q:=Q)
  rw [if_pos h0,e1]
  rw [e1] at qF d
  simp only [SV,go_sem,↓reduceIte,qF,d,qB]
 | false =>
  rw [if_neg (of_decide_eq_false d)]
  simp only [SV,go_sem,↓reduceIte,qF,d]
  try rfl
theorem Kj {t:A1} (ht:A5 t) {e:AT} (X:XP t e) (D:Rows) (he:QP e):VP V A5k [.ag (SO t e D)] Q↔Q (.b (e.has.all (CW t e))):=by
 refine Ad ?_
 rw [Ab C.c_z61.1 C.c_z61.2]
 have h1:=he.has
 have hf:=X.ml
 have hc:∀ k,k < e.has.length->CW t e (e.has.getD k 0)=false->e.has.all (CW t e)=false:=fun k hk h=>by
  rw [eq_false_iff]
  intro h4
  rw [all_eq_true] at h4
  rw [h4 _ (Af hk)] at h
  cases h
 have h5:(∀ k,k < e.has.length->CW t e (e.has.getD k 0)=true)->e.has.all (CW t e)=true:=fun h=>by
  rw [all_eq_true]
  intro x hx
  obtain ⟨k,hk,ek⟩:=getElem_of_mem hx
  have:=h k hk
  rw [getD_eq_getElem?_getD,getElem?_eq_getElem hk,getD_some,ek] at this
  exact this
 obtain ⟨G,hG⟩:∃ G,G=e.has.all (CW t e):=⟨_,rfl⟩
 rw [<- hG] at hc h5 ⊢
 simp only [A8X,go_sem,↓reduceIte,length_map]
 refine Ac (by decide) e.has.length (by omega) (I:=fun k F h=>A2.tmp F 1 = .fp (SO t e D) 0/\A2.tmp F 10=lI e.has/\(∀ j,j < k->CW t e (e.has.getD j 0)=true)/\h=[]) ?_ ?_ 0 _ _ (by omega) ?_ ?_ ?_
 .rintro k F h hk h9 h8 ⟨p1,h3,h2,rfl⟩
  have gH:=Ar hk
  have hm:=Af (d:=0) hk
  have hn:=hc k hk
  obtain ⟨n,en,h0⟩:=Aa (X.ok.node _ hm)
  rw [en] at gH hm hn
  have gN:=A6 h0
  have nx:CW t e n=true->∀ j,j < k+1->CW t e (e.has.getD j 0)=true:=fun h j hj=>by
   by_cases c:j=k
   .subst c;rw [en];exact h
   .exact h2 j (by omega)
  cases hr:(t.at n).rmw with
  | false =>
   have ha:CW t e n=true:=by rw [CW,toNat_natCast,hr];rfl
   simp only [go_sem,↓reduceIte,h9,h8,p1,h3,gH,hk,gN,h0,hr,A0]
   exact nx ha
  | true =>
   obtain ⟨_,_,_,_,k3⟩:=ht.rw1 h0 hr
   have hb:=ht.wloc h0 (.inr k3)
   obtain ⟨loc,h6⟩:=Int.eq_ofNat_of_zero_le hb.1
   have h7:loc < e.mo.length:=by omega
   have gM:e.mo[loc]? = some (e.mo.getD loc []):=by rw [getD_eq_getElem?_getD,getElem?_eq_getElem h7];rfl
   have hM:=he.mi' loc
   have ha:CW t e n=(decide (0<=Cc e.has e.rf (t.at n).up) && decide (BI (e.mo.getD loc []) n=BI (e.mo.getD loc []) (Cc e.has e.rf (t.at n).up)+1)):=by
    rw [CW,toNat_natCast,hr,LD,h6,toNat_natCast];rfl
   obtain ⟨M,hd⟩:∃ M,M=e.mo.getD loc []:=⟨_,rfl⟩
   rw [<- hd] at gM hM ha
   have qF:=fun (Q:VV->Prop)=>ML C t e D he X.ok.len (t.at n).up (Q:=Q)
   obtain ⟨w,hw⟩:∃ w,w=Cc e.has e.rf (t.at n).up:=⟨_,rfl⟩
   rw [<- hw] at qF ha
   have qI:=fun (x:Int) (Q:VV->Prop)=>(AK C M x (by omega) (Q:=Q)).trans (show _↔Q (.i .i64 (BI M x)) from Iff.rfl)
   have b1:BI M w < M.length:=Ln _ _
   have b2 : -1<=BI M w:=by
    cases c:AZ M w with
    | true=>obtain ⟨j,ej,_⟩:=BV c;omega
    | false=>rw [A62 c];omega
   have w1:IntKind.i64.wrap (BI M w+1)=BI M w+1:=AR (by omega) (by omega)
   cases d:decide (w < 0) with
   | true =>
    have d2:decide (0<=w)=false:=decide_eq_false (by have:=of_decide_eq_true d;omega)
    rw [d2,Bool.false_and] at ha
    have hg:=hn ha
    simp only [go_sem,↓reduceIte,h9,h8,p1,h3,gH,hk,gN,h0,hr,h6,gM,h7,qF,d,hg,A0]
   | false =>
    have d2:decide (0<=w)=true:=decide_eq_true (by have:=of_decide_eq_false d;omega)
    rw [d2,Bool.true_and] at ha
    cases d3:decide (BI M n=BI M w+1) with
    | true =>
     rw [d3] at ha
     simp only [go_sem,↓reduceIte,h9,h8,p1,h3,gH,hk,gN,h0,hr,h6,gM,h7,qF,d,qI,w1,d3,of_decide_eq_true d3,A0]
     exact nx ha
    | false =>
     rw [d3] at ha
     have hg:=hn ha
     simp only [go_sem,↓reduceIte,h9,h8,p1,h3,gH,hk,gN,h0,hr,h6,gM,h7,qF,d,qI,w1,d3,of_decide_eq_false d3,hg,A0]
 .rintro F h ⟨p1,h3,h2,rfl⟩
  have hg:=h5 h2
  simp only [go_sem,↓reduceIte,p1,h3,hg]
 .simp only [go_sem,↓reduceIte]
 .simp only [go_sem,↓reduceIte]
 .simp only [go_sem,↓reduceIte]
  exact fun j hj=>by omega
end
open Classical in
theorem Aan {n:Nat} {P P':Nat->Nat->Prop} {a:Nat} (ha:a < n) {w:BitVec 64} (h1:∀ i j,i < n->j < n->i≠a->(P i j↔P' i j)) (h2:∀ b,b < 64->(w.getLsbD b=true↔b < n/\P' a b)):(E3 n P).set a w=E3 n P':=by
 apply List.ext_getElem
 .simp [Eu]
 .intro j g1 g2
  rw [length_set,Eu] at g1
  rw [List.getElem_set]
  unfold E3 at g2 ⊢
  have e2:=Ce (n:=n) (p:=fun a b=>@decide (P' a b) (Classical.propDecidable _)) g1
  have e1:=Ce (n:=n) (p:=fun a b=>@decide (P a b) (Classical.propDecidable _)) g1
  rw [getElem?_eq_getElem (by rw [AJ];exact g1),Option.some.injEq] at e1 e2
  rw [e2]
  by_cases c:a=j
  .subst c
   rw [if_pos rfl]
   apply B4
   intro i hi
   rw [Aw,Bool.eq_iff_iff,h2 i hi,and_eq_true,and_eq_true,decide_eq_true_eq,decide_eq_true_eq,decide_eq_true_eq]
   exact ⟨fun h=>⟨h,hi⟩,fun h=>h.1⟩
  .rw [if_neg c,e1]
   apply B4
   intro i hi
   rw [Aw,Aw]
   congr 1
   by_cases ci:i < n
   .rw [decide_eq_true ci,Bool.true_and,Bool.true_and,Bool.eq_iff_iff,decide_eq_true_eq,decide_eq_true_eq]
    exact h1 j i g1 ci (fun h=>c h.symm)
   .rw [decide_eq_false ci,Bool.false_and,Bool.false_and]
theorem A5S (e:AT) (n:Int) (b:Nat) (hb:b < 64):∀ k,(rfW e n k).getLsbD b=true↔∃ j,j < k/\e.rf.getD j 0=n/\e.has.getD j 0=(b:Int)
 | 0=>by
  constructor
  .intro h;simp [rfW] at h
  .rintro ⟨j,hj,_⟩;omega
 | k+1=>by
  have ih:=A5S e n b hb k
  rw [rfW]
  constructor
  .intro h
   split at h
   .rename_i c
    rw [getLsbD_or,or_eq_true,ih,C3,decide_eq_true_eq] at h
    rcases h with ⟨j,h1,h2⟩ | h
    .exact ⟨j,by omega,h2⟩
    .exact ⟨k,by omega,c,h.1.symm⟩
   .obtain ⟨j,h1,h2⟩:=ih.1 h
    exact ⟨j,by omega,h2⟩
  .rintro ⟨j,h1,h2,h3⟩
   by_cases c:j=k
   .subst c
    rw [if_pos h2,getLsbD_or,or_eq_true,C3,decide_eq_true_eq]
    exact .inr ⟨h3.symm,hb⟩
   .have:=ih.2 ⟨j,by omega,h2,h3⟩
    split
    .rw [getLsbD_or,this];rfl
    .exact this
section
variable {t:A1} (ht:A5 t) {e:AT} (X:XP t e)
include ht X
theorem Pr {b:Nat} (hb:(b:Int)∈e.has):∃ j,j < e.has.length/\e.has.getD j 0=(b:Int)/\Cc e.has e.rf b=e.rf.getD j 0:=by
 obtain ⟨k,e1,h1,h2,_⟩:=BV (A7.2 hb)
 refine ⟨k,h1,h2,?_⟩
 rw [Cc,A7.2 hb,if_pos rfl,e1,toNat_natCast]
theorem Tg:e.has.Nodup:=X.ok.nd
theorem Ags {a b:Nat} (hb:b < 64):(rfW e a e.rf.length).getLsbD b=true↔b < t.nodes.length/\rfX e a b:=by
 have hl:=X.ok.len
 rw [A5S e a b hb]
 constructor
 .rintro ⟨j,h1,h2,h3⟩
  have hm:(b:Int)∈e.has:=by rw [<- h3];exact Af (by omega)
  obtain ⟨i,g1,g2,g3⟩:=Pr ht X hm
  have:i=j:=by
   have e1:=Dv (Tg ht X) g1
   have e2:=Dv (Tg ht X) (show j < e.has.length by omega)
   rw [g2] at e1;rw [h3] at e2;omega
  subst this
  exact ⟨Aew ht X hm,hm,by rw [g3];exact h2⟩
 .rintro ⟨_,hm,h2⟩
  obtain ⟨i,g1,g2,g3⟩:=Pr ht X hm
  exact ⟨i,by omega,by rw [<- g3];exact h2,g2⟩
theorem A83 {w b:Nat} (hw:(w:Int)∈e.has) (hk:(t.at w).kind=3) (hb:b < 64):(bhW t e w).getLsbD b=true↔b < t.nodes.length/\bhP t e w b:=by
 obtain ⟨h1,h2,h3,h4⟩:=A6h ht X hw hk
 obtain ⟨k,e1,g1,g2,_⟩:=BV (A7.2 h4)
 rw [bhW,bhP,toNat_natCast,<- Au,EW _ (by omega) (by omega),A7,e1]
 obtain ⟨l,hl⟩:∃ l:Nat,l=(t.at w).loc.toNat:=⟨_,rfl⟩
 have h5:=X.nd l (by omega)
 have hq:LD e (t.at w).loc=e.mo.getD l []:=by rw [LD,hl]
 rw [hq] at g1 g2 ⊢
 have hx:=fun x hx=>Aex ht X (show l < t.locs.length by omega) (x:=x) hx
 obtain ⟨M,hM⟩:∃ M,M=e.mo.getD l []:=⟨_,rfl⟩
 rw [<- hM] at g1 g2 h5 hx ⊢
 have e3:((k:Int)+1).toNat=k+1:=by omega
 rw [e3]
 constructor
 .intro h
  obtain ⟨j,hj,ej⟩:=getElem_of_mem h
  rw [length_drop] at hj
  rw [List.getElem_drop] at ej
  have hm:(b:Int)∈M:=List.mem_of_mem_drop h
  obtain ⟨v,f1,f2,_⟩:=hx _ hm
  refine ⟨by omega,hm,?_⟩
  have h0:k+1+j < M.length:=by omega
  have:=Dv h5 h0
  rw [getD_eq_getElem?_getD,getElem?_eq_getElem h0,getD_some,ej] at this
  omega
 .rintro ⟨_,hm,h⟩
  obtain ⟨j,f1,f2,f3,_⟩:=BV (A7.2 hm)
  have:k+1<=j:=by omega
  rw [<- f3,getD_eq_getElem?_getD,getElem?_eq_getElem f2,getD_some]
  have hd:M[j]=(M.drop (k+1))[j - (k+1)]'(by rw [length_drop];omega):=by
   rw [List.getElem_drop];congr 1;omega
  rw [hd]
  exact List.getElem_mem _
def moW (t:A1) (e:AT) (n:Nat):BitVec 64:=if (t.at n).kind=3 then bhW t e n else 0#64
def frW (t:A1) (e:AT) (n:Nat):BitVec 64:=if 0<=Cc e.has e.rf n then bhW t e (Cc e.has e.rf n) else 0#64
theorem Agx {a b:Nat} (ha:(a:Int)∈e.has) (hb:b < 64):(rfW e a e.rf.length ||| moW t e a ||| frW t e a).getLsbD b=true↔b < t.nodes.length/\XG t e a b:=by
 rw [getLsbD_or,getLsbD_or,or_eq_true,or_eq_true,Ags ht X hb,XG,or_assoc,and_or_left,and_or_left]
 refine or_congr Iff.rfl (or_congr ?_ ?_)
 .unfold moW moX
  by_cases c:(t.at a).kind=3
  .rw [if_pos c,A83 ht X ha c hb,toNat_natCast]
   exact and_congr Iff.rfl ⟨fun h=>⟨ha,c,h⟩,fun h=>h.2.2⟩
  .rw [if_neg c,toNat_natCast]
   constructor
   .intro h;simp at h
   .rintro ⟨_,_,h,_⟩;exact absurd h c
 .unfold frW frX
  by_cases c:0<=Cc e.has e.rf a
  .obtain ⟨w,e1,e2,e3,_⟩:=A6g ht X ha c
   rw [if_pos c,e1,A83 ht X e2 e3 hb]
   exact and_congr Iff.rfl ⟨fun h=>⟨ha,by omega,h⟩,fun h=>h.2.2⟩
  .rw [if_neg c]
   constructor
   .intro h;simp at h
   .rintro ⟨_,_,h,_⟩;exact absurd h c
end
def stK (t:A1) (e:AT) (k:Nat) (a b:Nat):Prop:=XG t e a b/\∃ i,i < k/\i < e.has.length/\e.has.getD i 0=(a:Int)
theorem AjA (t:A1) (e:AT) (a b:Nat):stK t e 0 a b↔False:=⟨fun ⟨_,i,h,_⟩=>by omega,False.elim⟩
section
variable {t:A1} (ht:A5 t) {e:AT} (X:XP t e)
include ht X
theorem Adu (a b:Nat):stK t e e.has.length a b↔XG t e a b:=by
 refine ⟨fun h=>h.1,fun h=>⟨h,?_⟩⟩
 obtain ⟨j,h1,h2,_⟩:=Pr ht X (XI ht X h).1
 exact ⟨j,h1,h1,h2⟩
open Classical in
theorem Adv {k n:Nat} (hk:k < e.has.length) (hn:e.has.getD k 0=(n:Int)) (h:n < t.nodes.length):(E3 t.nodes.length (stK t e k)).getD n 0#64=0#64:=by
 unfold E3
 rw [DV h]
 apply B4
 intro j hj
 rw [Aw,Bool.eq_iff_iff,and_eq_true,and_eq_true,decide_eq_true_eq,decide_eq_true_eq]
 constructor
 .rintro ⟨⟨_,_,i,h1,h2,h3⟩,_⟩
  have e1:=Dv (Tg ht X) h2
  have e2:=Dv (Tg ht X) hk
  rw [h3] at e1;rw [hn] at e2;omega
 .intro h;simp at h
theorem Adw {k n:Nat} (hk:k < e.has.length) (hn:e.has.getD k 0=(n:Int)) (h:n < t.nodes.length):(E3 t.nodes.length (stK t e k)).set n (rfW e n e.rf.length ||| moW t e n ||| frW t e n)=E3 t.nodes.length (stK t e (k+1)):=by
 have hm:(n:Int)∈e.has:=by rw [<- hn];exact Af hk
 refine Aan h (fun i j hi hj hne=>?_) (fun b hb=>?_)
 .unfold stK
  refine and_congr Iff.rfl ⟨?_,?_⟩
  .rintro ⟨x,h1,h2⟩;exact ⟨x,by omega,h2⟩
  .rintro ⟨x,h1,h2,h3⟩
   refine ⟨x,?_,h2,h3⟩
   by_cases c:x=k
   .subst c;omega
   .omega
 .rw [Agx ht X hm hb]
  exact and_congr Iff.rfl ⟨fun h=>⟨h,k,by omega,hk,hn⟩,fun h=>h.1⟩
end
abbrev AbY:VV:=.ls [[.f PG [] []],[.f PH [] []],[.f PI [] []]]
abbrev Ada (R:Rows):Option VO:=some ⟨C1,1,0,false,R.map eW⟩
theorem S3 {n:Nat} {P:Nat->Nat->Prop}:List.take n (E3 n P)=E3 n P:=List.take_of_length_le (by rw [Eu];exact Nat.le_refl n)
section
variable {V:Ae} (C:Ai V) {Q:VV->Prop} {t:A1} (ht:A5 t) {e:AT} (X:XP t e) (D:Rows) (he:QP e)
include C ht X he
theorem YB:VP V VY [.ag (SO t e D),AbY] Q↔Q (lW (E3 t.nodes.length (XG t e))):=by
 refine Ad ?_
 rw [Ab C.c_z123.1 C.c_z123.2]
 have h1:=he.has
 have hl:=ht.n64
 have hc:=fun (b:Nat) (Q:VV->VH->Prop)=>KU C t.nodes.length hl b (Q:=Q)
 have hb:=Gp (n:=t.nodes.length) (fun a b _ _=>Adu ht X a b)
 have h0:=(Gp (n:=t.nodes.length) (fun a b _ _=>AjA t e a b)).trans (S1 _)
 simp only [A0Y,go_sem,↓reduceIte,hc,length_map]
 refine Ac (by decide) e.has.length (by omega) (I:=fun k F h=>A2.tmp F 1=AbY/\A2.tmp F 2 = .fp (SO t e D) 0/\A2.tmp F 17=lI e.has/\A2.tmp F 5 = .sl 0 0 0 t.nodes.length/\h=[Ada (E3 t.nodes.length (stK t e k))]) ?_ ?_ 0 _ _ (by omega) ?_ ?_ ?_
 .rintro k F h hk hi hh ⟨p1,p2,h9,p5,rfl⟩
  have gH:=Ar hk
  obtain ⟨n,en,h3⟩:=Aa (X.ok.node _ (Af (d:=0) hk))
  have hm:(n:Int)∈e.has:=by rw [<- en];exact Af hk
  have h2:=Adw ht X hk en h3
  have BW:=Adv ht X hk en h3
  rw [en] at gH
  obtain ⟨R,hR⟩:∃ R,R=E3 t.nodes.length (stK t e k):=⟨_,rfl⟩
  have ha:R.length=t.nodes.length:=by rw [hR,Eu]
  rw [<- hR] at h2 BW ⊢
  have gR:∀ w,(R.set n w)[n]? = some w:=fun w=>by rw [List.getElem?_set_self (by omega)]
  have sR:∀ w w',(R.set n w).set n w' = R.set n w':=fun w w'=>List.set_set ..
  have hd:∀ (S:Rows) w,(S.map eW).set n [vW w]=(S.set n w).map eW:=fun S w=>by rw [map_set]
  have h8:n < R.length:=by omega
  have q1:=fun (Q:VV->Prop)=>A6J C t e D he X.ok.len n (Q:=Q)
  have q2:=fun (Q:VV->Prop)=>A6I C ht X D he hm (Q:=Q)
  have q3:=fun (Q:VV->Prop)=>A6H C ht X D he hm (Q:=Q)
  obtain ⟨A,hA⟩:∃ A,A=rfW e n e.rf.length:=⟨_,rfl⟩
  obtain ⟨B,hB⟩:∃ B,B=moW t e n:=⟨_,rfl⟩
  obtain ⟨E,hE⟩:∃ E,E=frW t e n:=⟨_,rfl⟩
  rw [<- hA,<- hB,<- hE] at h2
  rw [<- hA] at q1
  simp only [show (if (t.at n).kind=3 then bhW t e n else 0#64)=B from hB.symm] at q2
  simp only [show (if 0<=Cc e.has e.rf n then bhW t e (Cc e.has e.rf n) else 0#64)=E from hE.symm] at q3
  have hn:R=R.set n 0#64:=by
   rw [<- BW,getD_eq_getElem?_getD,getElem?_eq_getElem h8,getD_some,List.set_getElem_self]
  simp only [go_sem,↓reduceIte,hi,hh,p1,p2,h9,p5,gH,hk,A0]
  refine Ac (by decide) 3 (by omega) (I:=fun j F h=>A2.tmp F 19 = .i .i64 k/\A2.tmp F 18 = .i .i64 e.has.length/\A2.tmp F 1=AbY/\A2.tmp F 23=AbY/\A2.tmp F 2 = .fp (SO t e D) 0/\A2.tmp F 17=lI e.has/\A2.tmp F 5 = .sl 0 0 0 t.nodes.length/\A2.tmp F 7 = .i .i64 n/\h=[Ada (R.set n (if j=0 then 0#64 else if j=1 then A else if j=2 then A ||| B else A ||| B ||| E))]) ?_ ?_ 0 _ _ (by omega) ?_ ?_ ?_
  .rintro j F h hj hg hf ⟨h5,h4,r1,h7,r2,h6,r5,r7,rfl⟩
   rcases (show j=0\/j=1\/j=2 by omega) with rfl | rfl | rfl
   .simp only [go_sem,↓reduceIte,hg,hf,h5,h4,r1,h7,r2,h6,r5,r7,q1,gR,sR,hd,h8,ha,h3,length_set,length_map,BitVec.zero_or,A0]
   .simp only [go_sem,↓reduceIte,hg,hf,h5,h4,r1,h7,r2,h6,r5,r7,q2,gR,sR,hd,h8,ha,h3,length_set,length_map,A0]
   .simp only [go_sem,↓reduceIte,hg,hf,h5,h4,r1,h7,r2,h6,r5,r7,q3,gR,sR,hd,h8,ha,h3,length_set,length_map,A0]
  .rintro F h ⟨h5,h4,r1,h7,r2,h6,r5,r7,rfl⟩
   simp only [go_sem,↓reduceIte,h5,h4,r1,h7,r2,h6,r5,r7,h2]
  .simp only [go_sem,↓reduceIte]
  .simp only [go_sem,↓reduceIte]
  .simp only [go_sem,↓reduceIte,hi,hh,p1,p2,h9,p5]
   rw [<- hn]
 .rintro F h ⟨p1,p2,h9,p5,rfl⟩
  rw [hb]
  simp only [go_sem,↓reduceIte,p1,p2,h9,p5,Eu,length_map,S3]
 .simp only [go_sem,↓reduceIte]
 .simp only [go_sem,↓reduceIte]
 .simp only [go_sem,↓reduceIte]
  rw [h0]
theorem Pa:VP V Zq [.ag (SO t e D)] Q↔Q (lW (QV t e)):=by
 refine Ad ?_
 rw [Ab C.c_z64.1 C.c_z64.2]
 have q:=fun (Q:VV->Prop)=>YB C ht X D he (Q:=Q)
 simp only [A90,go_sem,↓reduceIte,q,HP C,QV]
end
theorem AbB {t:A1} (ht:A5 t) (e:AT):Dz (orF (J9 t e.has e.rf) (QV t e))=true:=by
 rw [JX ht e,Np ht e,Qe ht.n64];exact CM ht.n64 _
section
variable {V:Ae} (C:Ai V) {Q:VV->Prop} {t:A1} (ht:A5 t) {e:AT} (X:XP t e) (he:QP e)
include C ht X he
theorem A0M:VP V Zp [.ag (SO t e (J9 t e.has e.rf))] Q↔Q (lW (A79 t e)):=by
 refine Ad ?_
 rw [Ab C.c_z63.1 C.c_z63.2]
 have h1:=he.has
 have hm:=ht.n64
 have hq:=fun (b:Nat) (Q:VV->VH->Prop)=>KU C t.nodes.length hm b (Q:=Q)
 have h0:=(Gp (n:=t.nodes.length) (fun a b _ _=>Ajs (t:=t) (e:=e) a b)).trans (S1 _)
 have ho:=Gp (n:=t.nodes.length) (fun a b _ _=>Adl (t:=t) (e:=e) a b)
 have qE:=fun (Q:VV->Prop)=>Pa C ht X (J9 t e.has e.rf) he (Q:=Q)
 have q2:=JX ht e
 have qB:=fun (Q:VV->Prop)=>(A2Y C hm (hbE t e) (Q:=Q))
 rw [<- q2] at qB
 have hz:(Ax t.nodes.length fun a b=>hbE t e b a).length=t.nodes.length:=AJ
 have q0:(J9 t e.has e.rf).length=t.nodes.length:=by rw [q2,AJ]
 have h5:=AbB ht e
 have hi:=fun a b ha hb=>Aag ht e (a:=a) (b:=b) ha hb
 obtain ⟨H,hH⟩:∃ H,H=J9 t e.has e.rf:=⟨_,rfl⟩
 rw [<- hH] at qE qB q0 h5 hi ⊢
 obtain ⟨A,hA⟩:∃ A,A=orF H (QV t e):=⟨_,rfl⟩
 obtain ⟨B,hB⟩:∃ B,B=Ax t.nodes.length fun a b=>hbE t e b a:=⟨_,rfl⟩
 rw [<- hB] at qB hz hi
 rw [<- hA] at h5 hi
 have qO:=fun (Q:VV->Prop)=>ZO C H (QV t e) (Q:=Q)
 rw [<- hA] at qO
 have qI:=fun (s:BitVec 64) (Q:VV->Prop)=>Qq C A h5 s (Q:=Q)
 have qS:=fun (n:Nat) (hn:n < t.nodes.length) (Q:VV->Prop)=>QY C t e H hn (Q:=Q)
 have qd:=fun (n:Nat) (hn:n < t.nodes.length) (Q:VV->Prop)=>MM C t e H H hn q0 (Q:=Q)
 have q9:=fun (n:Nat) (hn:n < t.nodes.length) (Q:VV->Prop)=>MM C t e H B hn hz (Q:=Q)
 simp only [A8Z,go_sem,↓reduceIte,hq,qE,qO,qB,length_map]
 refine Ac (by decide) e.has.length (by omega) (I:=fun k F h=>A2.tmp F 1 = .fp (SO t e H) 0/\A2.tmp F 3=lW A/\A2.tmp F 4=lW B/\A2.tmp F 26=lI e.has/\A2.tmp F 5 = .sl 0 0 0 t.nodes.length/\h=[Ada (E3 t.nodes.length (psV t e k 0))]) ?_ ?_ 0 _ _ (by omega) ?_ ?_ ?_
 .rintro k F h hk hw hv ⟨p1,p3,p4,hf,p5,rfl⟩
  have gH:=Ar hk
  obtain ⟨a,ea,h3⟩:=Aa (X.ok.node _ (Af (d:=0) hk))
  have qa:(a:Int)∈e.has:=by rw [<- ea];exact Af hk
  have qh:=gH
  rw [ea] at gH
  cases s1:decide (0<=(t.at a).thread) && decide ((t.at a).mode=4) with
  | false =>
   have hd:∀ y,¬ R7 t e a y:=fun y hp=>by
    have:=hp.2.2.2.1
    rw [Bool.and_eq_false_iff,decide_eq_false_iff_not,decide_eq_false_iff_not] at s1
    rcases s1 with s1 | s1
    .exact s1 this.1
    .exact s1 this.2
   have hx:=Gp (n:=t.nodes.length) (fun i j _ _=>Aae ea hd i j)
   simp only [go_sem,↓reduceIte,hw,hv,p1,p3,p4,hf,p5,gH,hk,qS a h3,s1,hx,A0]
  | true =>
  have qe:AdA t a:=by
   rw [and_eq_true,decide_eq_true_eq,decide_eq_true_eq] at s1
   exact s1
  have hu:=Gp (n:=t.nodes.length) (fun i j _ _=>Adn (t:=t) (e:=e) (I:=k) i j)
  obtain ⟨T,hT⟩:∃ T,T=Dr A (wdW t H a):=⟨_,rfl⟩
  have q6:=qI (wdW t H a)
  rw [<- hT] at q6
  simp only [go_sem,↓reduceIte,hw,hv,p1,p3,p4,hf,p5,gH,hk,qS a h3,s1,qd a h3,q6,length_map,A0]
  refine Ac (by decide) e.has.length (by omega) (I:=fun j F h=>A2.tmp F 28 = .i .i64 k/\A2.tmp F 27 = .i .i64 e.has.length/\A2.tmp F 1 = .fp (SO t e H) 0/\A2.tmp F 3=lW A/\A2.tmp F 4=lW B/\A2.tmp F 26=lI e.has/\A2.tmp F 45=lI e.has/\A2.tmp F 5 = .sl 0 0 0 t.nodes.length/\A2.tmp F 7 = .i .i64 a/\A2.tmp F 8=vW T/\h=[Ada (E3 t.nodes.length (psV t e k j))]) ?_ ?_ 0 _ _ (by omega) ?_ ?_ ?_
  .rintro j F h hj hh hg ⟨h8,h7,q1,q3,q4,h6,h9,q5,q7,q8,rfl⟩
   have gJ:=Ar hj
   obtain ⟨b,eb,h4⟩:=Aa (X.ok.node _ (Af (d:=0) hj))
   have qb:(b:Int)∈e.has:=by rw [<- eb];exact Af hj
   rw [eb] at gJ
   have hr:=fun hp=>Aam (n:=t.nodes.length) hm h3 h4 (fun i j' _ _=>Adm (t:=t) hk hj ea eb hp i j')
   have hd:=fun hp=>Gp (n:=t.nodes.length) (fun i j' _ _=>Ago (t:=t) (I:=k) (K:=j) ea eb hp i j')
   have gR:(E3 t.nodes.length (psV t e k j))[a]? = some ((E3 t.nodes.length (psV t e k j)).getD a 0#64):=by
    rw [getD_eq_getElem?_getD,getElem?_eq_getElem (by rw [Eu];exact h3)];rfl
   have qc:∀ (S:Rows) w,(S.map eW).set a [vW w]=(S.set a w).map eW:=fun S w=>by rw [map_set]
   have hy:=hi a b h3 h4
   rw [<- hT] at hy
   have qg:decide ((b:Int)≠(a:Int))=decide (b≠a):=decide_eq_decide.2 (by omega)
   cases c1:decide (b=a) with
   | true =>
    have h2:=of_decide_eq_true c1
    have hx:=hd (fun hp=>hp.2.2.1 h2.symm)
    simp only [go_sem,↓reduceIte,hh,hg,h8,h7,q1,q3,q4,h6,h9,q5,q7,q8,gJ,hj,h2,hx,A0]
   | false =>
   have h2:=of_decide_eq_false c1
   have hl:¬ ((b:Int)=(a:Int)):=by omega
   cases s2:decide (0<=(t.at b).thread) && decide ((t.at b).mode=4) with
   | false =>
    have hx:=hd (fun hp=>by
     have:=hp.2.2.2.2.1
     rw [Bool.and_eq_false_iff,decide_eq_false_iff_not,decide_eq_false_iff_not] at s2
     rcases s2 with s2 | s2
     .exact s2 this.1
     .exact s2 this.2)
    simp only [go_sem,↓reduceIte,hh,hg,h8,h7,q1,q3,q4,h6,h9,q5,q7,q8,gJ,hj,hl,h2,qS b h4,s2,hx,A0]
   | true =>
   have qf:AdA t b:=by
    rw [and_eq_true,decide_eq_true_eq,decide_eq_true_eq] at s2
    exact s2
   cases d3:decide (T &&& wdW t B b=0#64) with
   | true =>
    have hc:=of_decide_eq_true d3
    have hx:=hd (fun hp=>hy.2 hp.2.2.2.2.2 hc)
    simp only [go_sem,↓reduceIte,hh,hg,h8,h7,q1,q3,q4,h6,h9,q5,q7,q8,gJ,hj,hl,h2,qS b h4,s2,q9 b h4,d3,hc,hx,A0]
   | false =>
    have hc:=of_decide_eq_false d3
    have hx:=hr ⟨qa,qb,fun h=>h2 h.symm,qe,qf,hy.1 hc⟩
    simp only [go_sem,↓reduceIte,hh,hg,h8,h7,q1,q3,q4,h6,h9,q5,q7,q8,gJ,hj,hl,h2,qS b h4,s2,q9 b h4,d3,hc,gR,h3,Eu,length_map,BM C,qc,hx,A0]
  .rintro F h ⟨h8,h7,q1,q3,q4,h6,h9,q5,q7,q8,rfl⟩
   simp only [go_sem,↓reduceIte,h8,h7,q1,q3,q4,h6,h9,q5,q7,q8,hu]
  .simp only [go_sem,↓reduceIte]
  .simp only [go_sem,↓reduceIte]
  .simp only [go_sem,↓reduceIte,hw,hv,p1,p3,p4,hf,p5]
 .rintro F h ⟨p1,p3,p4,hf,p5,rfl⟩
  rw [ho]
  simp only [go_sem,↓reduceIte,p1,p3,p4,hf,p5,Eu,length_map,S3,A79]
 .simp only [go_sem,↓reduceIte]
 .simp only [go_sem,↓reduceIte]
 .simp only [go_sem,↓reduceIte]
  rw [h0]
end
theorem A9n {t:A1} {e:AT} (h:RR t e=true):hbF t e.has e.rf=J9 t e.has e.rf:=by
 rw [RR,and_eq_true] at h
 rw [hbF,h.1,if_pos rfl]
abbrev zRu:List VV:=[.i .i64 0,.ls [],.ls [],.ls [],.ls [],.ls [],.ls [],.ls []]
section
variable {V:Ae} (C:Ai V) {Q:VV->Prop} {t:A1} (ht:A5 t) (e:AT) (he:QP e)
include C ht he
theorem M8:VP V A5i [vT t,vEx e] Q↔Q (.tu [.ag (if RR t e then SO t e (J9 t e.has e.rf) else zRu),.b (RR t e)]):=by
 refine Ad ?_
 rw [Ab C.c_z59.1 C.c_z59.2]
 have h1:=he.has
 have h2:=he.rf
 have qI:=fun (Q:VV->Prop)=>RD C t ht e he (Q:=Q)
 have qH:=fun (Q:VV->Prop)=>K9 C t ht e.has e.rf (by omega) (by omega) (Q:=Q)
 cases d:RR t e with
 | false =>
  simp only [A3K,go_sem,↓reduceIte,qI,d]
 | true =>
  rw [A9n d] at qH
  simp only [A3K,go_sem,↓reduceIte,qI,d,qH,List.cons_append,List.nil_append,show min 4 8=4 from rfl,show min 3 4=3 from rfl,Nat.reduceAdd,Nat.reduceSub,Nat.le_refl,decide_true]
theorem P8:VP V A56 [vT t,vEx e] Q↔Q (lW (if RR t e then QV t e else [])):=by
 refine Ad ?_
 rw [Ab C.c_z21.1 C.c_z21.2]
 have qO:=fun (Q:VV->Prop)=>M8 C ht e he (Q:=Q)
 cases d:RR t e with
 | false =>
  rw [d] at qO
  simp only [A3H,go_sem,↓reduceIte,qO]
 | true =>
  rw [d] at qO
  have qE:=fun (Q:VV->Prop)=>Pa C ht (Pt ht d) (J9 t e.has e.rf) he (Q:=Q)
  simp only [A3H,go_sem,↓reduceIte,qO,qE]
theorem QW:VP V A55 [vT t,vEx e] Q↔Q (.b (AbE t e)):=by
 refine Ad ?_
 rw [Ab C.c_z19.1 C.c_z19.2]
 have qO:=fun (Q:VV->Prop)=>M8 C ht e he (Q:=Q)
 unfold AbE
 cases d:RR t e with
 | false =>
  rw [d] at qO
  simp only [A3G,go_sem,↓reduceIte,qO,Bool.false_and]
 | true =>
  rw [d] at qO
  have qA:=fun (Q:VV->Prop)=>Kj C ht (Pt ht d) (J9 t e.has e.rf) he (Q:=Q)
  simp only [A3G,go_sem,↓reduceIte,qO,qA,Bool.true_and]
theorem YA:VP V A54 [vT t,vEx e] Q↔Q (.b (Ac2 t e)):=by
 refine Ad ?_
 rw [Ab C.c_z18.1 C.c_z18.2]
 have qO:=fun (Q:VV->Prop)=>M8 C ht e he (Q:=Q)
 have qX:=fun (Q:VV->Prop)=>Ys C t ht e he (Q:=Q)
 unfold Ac2
 cases d:RR t e with
 | false =>
  have d2:MK t e=false:=by rw [MK,d];rfl
  rw [d] at qO
  simp only [RL,go_sem,↓reduceIte,qO,d2,Bool.false_and]
 | true =>
  rw [d] at qO
  have qA:=fun (Q:VV->Prop)=>Kj C ht (Pt ht d) (J9 t e.has e.rf) he (Q:=Q)
  have qE:=fun (Q:VV->Prop)=>A0M C ht (Pt ht d) he (Q:=Q)
  have qR:∀ (Q:VV->Prop),VP V Zo [lW (A79 t e)] Q↔Q (.b (A0q (A79 t e))):=fun Q=>Nf C ht.n64 (fun a b=>@decide (R7 t e a b) (Classical.propDecidable _))
  cases c1:MK t e with
  | false=>simp only [RL,go_sem,↓reduceIte,qO,qX,c1,Bool.false_and]
  | true =>
  cases c2:e.has.all (CW t e) with
  | false=>simp only [RL,go_sem,↓reduceIte,qO,qX,c1,qA,c2,Bool.true_and,Bool.false_and]
  | true=>simp only [RL,go_sem,↓reduceIte,qO,qX,c1,qA,c2,qE,qR,Bool.true_and]
end
section
variable {V:Ae} (C:Ai V) {Q:VV->Prop}
include C
theorem Qz (l:List Int) (hl:l.length<=1000) (h0:l≠[]):VP V A5e [lI l] Q↔Q (lI l):=by
 refine Ad ?_
 rw [Ab C.c_z45.1 C.c_z45.2]
 match l,h0 with
 | y::r,_ =>
 have e:lI (y::r) = .ls ([.i .i64 y]::r.map eI):=rfl
 rw [e]
 have b1:(r.length+1) * 8<=A9:=by simp only [length_cons] at hl;unfold A9;omega
 simp only [A8T,go_sem,↓reduceIte,b1,B6,A3c,Option.map_some,length_map,length_cons]
end
def ofH (x R:List Int) (M:List (List Int)):VH:=[some ⟨D4,0,0,false,[[.nl,.nl,.nl]]⟩,some (AL Bg 1 (R.map eI)),some (AL Sz 1 (M.map M5)),
 some ⟨D4,0,0,false,[[lI x,.sl 1 R.length 0 R.length,.sl 2 M.length 0 M.length]]⟩]
def vOf:Option AT->VV
 | some e=>.tu [vEx e,.b true]
 | none=>.tu [.ag [.ls [],.ls [],.ls []],.b false]
section
variable {V:Ae} (C:Ai V) {Q:VV->Prop} (t:A1) (ht:A5 t) (s:A8) (hs:KZ s)
include C ht hs
theorem RK (x:List Int) (hx:x.length<=1000) (hx0:x≠[]):VP V Ad7 [vT t,LX s,lI x] Q↔Q (vOf (Zw t s x)):=by
 refine Ad ?_
 rw [Ab C.c_z8.1 C.c_z8.2]
 have qM:=fun (Q:VV->Prop)=>XF C t ht s hs (Q:=Q)
 have qS:=fun (Q:VV->Prop)=>ZW C s hs (Q:=Q)
 have qO:=fun (Q:VV->Prop)=>CN C x (by omega) (Q:=Q)
 have qW:=fun (a b:BitVec 64) (Q:VV->Prop)=>H7 C a b (Q:=Q)
 have qL:=fun (a:BitVec 64) (Q:VV->Prop)=>D7 C a (Q:=Q)
 have qn:=Dj (BA x)
 have qE:=fun (Q:VV->Prop)=>JG C (AF (BA x)) x (by omega) (Q:=Q)
 have ho:=Agj ht s x
 have q4:decide (BA x &&& ~~~BA s.has=0#64)=decide (BA x ||| BA s.has=BA s.has):=A7C
 cases c1:BJ t s with
 | false =>
  have e0:Zw t s x=none:=by rw [Zw,ho,c1];rfl
  rw [e0]
  simp only [A6K,go_sem,↓reduceIte,qO,qM,c1]
  rfl
 | true =>
 cases c2:decide (BA x ||| BA s.has=BA s.has) with
 | false =>
  have e0:Zw t s x=none:=by rw [Zw,ho,c1,c2];rfl
  rw [e0]
  simp only [A6K,go_sem,↓reduceIte,qO,qM,c1,qS,qW,q4,c2]
  rfl
 | true =>
 cases c3:decide (AF (BA x)=x) with
 | false =>
  have e0:Zw t s x=none:=by rw [Zw,ho,c1,c2,c3];rfl
  rw [e0]
  simp only [A6K,go_sem,↓reduceIte,qO,qM,c1,qS,qW,q4,c2,qL,qE,c3]
  rfl
 | true =>
 have hf:=Be.1 c1
 have ha:okX t s x=true:=by rw [ho,c1,c2,c3];rfl
 have qi:∀ n∈x,n∈s.has:=fun n hn=>Agk ha hn
 have q5:BX t x:=fun n hn=>hf.node _ (qi n hn)
 have qs:x.length<=64:=by rw [<- of_decide_eq_true c3];exact qn
 have qw:=hf.ml
 have qx:=hs.mo
 have q1:=fun k=>A73 (t:=t) (s:=s) (x:=x) (k:=k)
 have q2:=fun k=>A74 (t:=t) (s:=s) (x:=x) (k:=k)
 have q3:=A9Z ha
 obtain ⟨Z,hZ⟩:∃ Z,Z=Zw t s x:=⟨_,rfl⟩
 rw [<- hZ] at q1 q2 q3 ⊢
 simp only [A6K,go_sem,↓reduceIte,qO,qM,c1,qS,qW,q4,c2,qL,qE,c3,Qz C x hx hx0,length_map]
 refine Ac (by decide) x.length (by omega) (I:=fun k F h=>A2.tmp F 3 = .fp (eT t) 0/\A2.tmp F 4 = .fp (XV s) 0/\A2.tmp F 6 = .p 0 0 0 0/\A2.tmp F 8=vW (BA x)/\A2.tmp F 9 = .p 3 0 0 0/\A2.tmp F 45=lI x/\(∀ j,j < k->Nd t s x (x.getD j 0)=true)/\∃ R,R=(x.take k).map (rVX t s x)/\h=ofH x R []) ?_ ?_ 0 _ _ (by omega) ?_ ?_ ?_
 .rintro k F h hk qa q7 ⟨p3,p4,p6,p8,p9,hc,h4,R,hR,rfl⟩
  have gX:=Ar hk
  obtain ⟨n,en,q0⟩:=Aa (q5 _ (Af (d:=0) hk))
  have qp:(n:Int)∈x:=by rw [<- en];exact Af hk
  have qg:=qi _ qp
  have qv:R.length=k:=by rw [hR,length_map,List.length_take];omega
  have b1:(R.length+1) * 8<=A9:=by unfold A9;omega
  have qf:(x.take (k+1)).map (rVX t s x)=R++[rVX t s x (n:Int)]:=by rw [Sf hk (d:=0),List.map_append,<- hR,en];rfl
  have qJ:=fun (Q:VV->Prop)=>A33 C s hs (n:Int) (Q:=Q)
  have nx:Nd t s x (n:Int)=true->∀ j,j < k+1->Nd t s x (x.getD j 0)=true:=fun h j hj=>by
   by_cases c:j=k
   .subst c;rw [en];exact h
   .exact h4 j (by omega)
  have h9:=q1 k hk
  rw [en] at gX h9
  cases cj:decide (0<=JY s n) with
  | false =>
   have qd:=of_decide_eq_false cj
   have hz:=Afi ht hf qg (by omega)
   have hv:rVX t s x (n:Int) = -1:=by rw [rVX,if_pos (by omega)]
   have qr:Nd t s x (n:Int)=true:=by rw [Nd,decide_eq_true (show JY s n < 0 by omega)];rfl
   rw [hz] at qJ
   simp only [go_sem,↓reduceIte,qa,q7,p3,p4,p6,p8,p9,hc,gX,hk,qJ,b1,ofH,JH,length_append,length_map,A0]
   exact ⟨nx qr,R++[-1],by rw [qf,hv],by simp⟩
  | true =>
   have qd:=of_decide_eq_true cj
   obtain ⟨w,kc,loc,e1,e2,e3,e4,e5,e6,e7,e8⟩:=A9o ht hf qg qd
   have gN:=A6 q0
   have hp:rcX t s x (n:Int)=Y0 x (clX s loc kc):=by
    rw [rcX,toNat_natCast,e4,e1,e6,toNat_natCast,toNat_natCast]
   have h5:=Aef ht hf e5 e7 q5
   have gM:=Cx e5
   have hu:(clX s loc kc).length<=1000:=hs.mc' loc kc
   obtain ⟨M,hM⟩:∃ M,M=s.mo.getD loc []:=⟨_,rfl⟩
   rw [<- hM] at gM e7
   have gC:=Ep e7
   have hr:M.getD kc []=clX s loc kc:=by rw [hM];rfl
   rw [hr] at gC
   obtain ⟨T,hT⟩:∃ T,T=clX s loc kc:=⟨_,rfl⟩
   rw [<- hT] at gC h5 hp hu
   rw [e1] at qJ
   have qP:=fun (Q:VV->Prop)=>Ro C s hs loc w (Q:=Q)
   rw [e6] at qP
   have h6:=fun (Q:VV->Prop)=>CN C T (by omega) (Q:=Q)
   have h0:=qL (BA T &&& BA x)
   rw [h5] at h0
   obtain ⟨H,hH⟩:∃ H,H=Y0 x T:=⟨_,rfl⟩
   rw [<- hH] at h0 hp
   have qh:Nd t s x (n:Int)=decide (H.length=1):=by rw [Nd,decide_eq_false (show ¬ JY s n < 0 by omega),Bool.false_or,hp]
   have qq:rVX t s x (n:Int)=H.getD 0 0:=by rw [rVX,if_neg (by omega),hp]
   cases c1:decide (H.length=1) with
   | false =>
    have ql:¬ ((H.length:Int)=1):=by have:=of_decide_eq_false c1;omega
    have hq:=of_decide_eq_false c1
    have e0:=h9 (by rw [qh,c1])
    simp only [go_sem,↓reduceIte,qa,q7,p3,p4,p6,p8,p9,hc,gX,hk,qJ,gN,q0,e4,gM,e5,qP,e7,gC,h6,h0,ql,hq,ofH,length_map,A0]
    rw [e0];rfl
   | true =>
    have hq:=of_decide_eq_true c1
    have qm:=Ar (xs:=H) (k:=0) (by omega)
    simp only [go_sem,↓reduceIte,qa,q7,p3,p4,p6,p8,p9,hc,gX,hk,qJ,gN,q0,e4,gM,e5,qP,e7,gC,h6,h0,hq,qm,b1,ofH,JH,length_append,length_map,A0]
    exact ⟨nx (by rw [qh,c1]),R++[H.getD 0 0],by rw [qf,qq],by simp⟩
 .rintro F h ⟨p3,p4,p6,p8,p9,hc,h4,R,hR,rfl⟩
  rw [take_length] at hR
  simp only [go_sem,↓reduceIte,p3,p4,p6,p8,p9,hc,length_map]
  refine Ac (by decide) s.mo.length (by omega) (I:=fun k F h=>A2.tmp F 6 = .p 0 0 0 0/\A2.tmp F 8=vW (BA x)/\A2.tmp F 9 = .p 3 0 0 0/\A2.tmp F 92 = .ls (s.mo.map ES)/\(∀ j,j < k->Ty x (s.mo.getD j [])=true)/\∃ L,L=(s.mo.take k).map (Tz x)/\h=ofH x R L) ?_ ?_ 0 _ _ (by omega) ?_ ?_ ?_
  .rintro k F h hk qk qj ⟨p6,p8,p9,qb,h2,L,hL,rfl⟩
   have qu:L.length=k:=by rw [hL,length_map,List.length_take];omega
   have b2:(L.length+1) * 24<=A9:=by unfold A9;omega
   have qe:(s.mo.take (k+1)).map (Tz x)=L++[Tz x (s.mo.getD k [])]:=by rw [Sf hk (d:=[]),List.map_append,<- hL];rfl
   have h5:=fun j hj=>Aef ht hf (loc:=k) (k:=j) hk hj q5
   have h9:=q2 k hk
   have gM:=Cx hk
   have hy:=hs.mi' k
   have qo:=Ag1 ht hf x hk
   obtain ⟨M,hM⟩:∃ M,M=s.mo.getD k []:=⟨_,rfl⟩
   have hr:∀ j,clX s k j=M.getD j []:=fun j=>by rw [hM];rfl
   simp only [hr] at h5
   have hu:∀ j,(M.getD j []).length<=1000:=fun j=>by rw [hM];exact hs.mc' k j
   rw [<- hM] at gM h9 qo h5 qe hy
   simp only [go_sem,↓reduceIte,qk,qj,p6,p8,p9,qb,gM,hk,ofH,length_map,A0]
   refine Ac (by decide) M.length (by omega) (I:=fun j F h=>A2.tmp F 94 = .i .i64 k/\A2.tmp F 93 = .i .i64 s.mo.length/\A2.tmp F 6 = .p 0 0 0 0/\A2.tmp F 8=vW (BA x)/\A2.tmp F 9 = .p 3 0 0 0/\A2.tmp F 92 = .ls (s.mo.map ES)/\A2.tmp F 98 = .ls (M.map M5)/\(∀ i,i < j->(Y0 x (M.getD i [])).length<=1)/\∃ K,K=Tz x (M.take j)/\A2.tmp F 17 = .sl 4 K.length 0 K.length/\h=ofH x R L++[some (AL Bg 1 (K.map eI))]) ?_ ?_ 0 _ _ (by omega) ?_ ?_ ?_
   .rintro j F h hj h3 qc ⟨hh,hg,q6,q8,q9,he,hl,h1,K,hK,hd,rfl⟩
    have gC:=Ep hj
    have hb:=h5 j hj
    have hw:=hu j
    have h7:=A9y (x:=x) hj
    rw [<- hK] at h7
    obtain ⟨T,hT⟩:∃ T,T=M.getD j []:=⟨_,rfl⟩
    rw [<- hT] at gC hb hw h7
    have h6:=fun (Q:VV->Prop)=>CN C T (by omega) (Q:=Q)
    have h0:=qL (BA T &&& BA x)
    rw [hb] at h0
    have nx:(Y0 x T).length<=1->∀ i,i < j+1->(Y0 x (M.getD i [])).length<=1:=fun h i hi=>by
     by_cases c:i=j
     .subst c;rw [<- hT];exact h
     .exact h1 i (by omega)
    have h8:¬ (Y0 x T).length<=1->Ty x M=false:=fun h=>AcW hj (by rw [<- hT];exact h)
    have qt:K.length<=64:=by
     have:(Tz x (M.take j)).length<=(Tz x M).length:=by
      have e:=congrArg (Tz x) (List.take_append_drop j M)
      rw [Tz,List.flatMap_append] at e
      rw [<- e,length_append]
      exact Nat.le_add_right _ _
     rw [hK];omega
    have b3:(K.length+1) * 8<=A9:=by unfold A9;omega
    obtain ⟨H,hH⟩:∃ H,H=Y0 x T:=⟨_,rfl⟩
    rw [<- hH] at h0 nx h8 h7
    match H,hH with
    | [],hH =>
     have b4:K.length * 8<=A9:=by unfold A9;omega
     simp only [go_sem,↓reduceIte,h3,qc,hh,hg,q6,q8,q9,he,hl,hd,gC,hj,h6,h0,ofH,b4,map_nil,List.length_nil,List.append_nil,length_map,A0]
     exact ⟨nx (by simp),K,by rw [h7,List.append_nil],rfl,rfl⟩
    | [y],hH =>
     simp only [go_sem,↓reduceIte,h3,qc,hh,hg,q6,q8,q9,he,hl,hd,gC,hj,h6,h0,ofH,b3,JH,List.map_cons,map_nil,List.length_nil,length_cons,length_append,length_map,A0]
     exact ⟨nx (by simp),K++[y],h7.symm,by simp,rfl⟩
    | y::z::r,hH =>
     have e0:=h9 (h8 (by simp))
     have c1:(1:Int) < ((r.length+1+1:Nat):Int):=by omega
     simp only [go_sem,↓reduceIte,h3,qc,hh,hg,q6,q8,q9,he,hl,hd,gC,hj,h6,h0,ofH,b3,c1,decide_true,length_cons,length_map,A0]
     rw [e0];rfl
   .rintro F h ⟨hh,hg,q6,q8,q9,he,hl,h1,K,hK,hd,rfl⟩
    rw [take_length] at hK
    have hm:=A9x h1
    subst hK
    simp only [go_sem,↓reduceIte,hh,hg,q6,q8,q9,he,hl,hd,b2,ofH,A35,length_append,length_map]
    refine ⟨fun i hi=>?_,L++[Tz x M],qe.symm,by simp⟩
    by_cases c:i=k
    .subst c;rw [<- hM];exact hm
    .exact h2 i (by omega)
   .simp only [go_sem,↓reduceIte]
   .simp only [go_sem,↓reduceIte]
   .simp only [go_sem,↓reduceIte,qk,qj,p6,p8,p9,qb]
    exact ⟨fun i hi=>by omega,[],rfl,rfl,rfl⟩
  .rintro F h ⟨p6,p8,p9,qb,h2,L,hL,rfl⟩
   rw [take_length] at hL
   have e0:=q3 (fun j hj=>h4 j hj) h2
   subst hL hR
   rw [e0]
   simp only [go_sem,↓reduceIte,p6,p8,p9,ofH,length_map]
   rfl
  .simp only [go_sem,↓reduceIte]
  .simp only [go_sem,↓reduceIte]
  .simp only [go_sem,↓reduceIte,p6,p8,p9]
   exact ⟨fun i hi=>by omega,[],rfl,rfl⟩
 .simp only [go_sem,↓reduceIte]
 .simp only [go_sem,↓reduceIte]
 .simp only [go_sem,↓reduceIte]
  exact ⟨fun i hi=>by omega,[],rfl,rfl⟩
end
section
variable {V:Ae} (C:Ai V) {Q:VV->Prop}
include C
theorem Mt (e:AT) (he:QP e):VP V A9P [vEx e,vEx e] Q↔Q (.b true):=by
 refine Ad ?_
 rw [Ab C.c_z10.1 C.c_z10.2]
 have h1:=he.has
 have h2:=he.rf
 have h3:=he.mo
 have q1:=fun (Q:VV->Prop)=>EE C e.has e.has (by omega) (Q:=Q)
 have q2:=fun (Q:VV->Prop)=>EE C e.rf e.rf (by omega) (Q:=Q)
 simp only [AdY,go_sem,↓reduceIte,q1,q2,length_map]
 refine Al (by decide) e.mo.length (by omega) (I:=fun k F h=>A2.tmp F 2 = .fp (eEx e) 0/\A2.tmp F 3 = .fp (eEx e) 0/\h=[]) ?_ ?_ ?_ 0 _ _ (Nat.zero_le _) ?_ ?_
 .rintro k F h hk p5 ⟨p2,p3,rfl⟩
  simp only [go_sem,↓reduceIte,p5,p2,p3,length_map]
 .rintro k F h hk p5 ⟨p2,p3,rfl⟩
  have hm:=he.mi' k
  have gM:=Ep hk
  have q:=fun (Q:VV->Prop)=>EE C (e.mo.getD k []) (e.mo.getD k []) (by omega) (Q:=Q)
  simp only [go_sem,↓reduceIte,p5,p2,p3,gM,hk,q,A0]
 .rintro F h ⟨p2,p3,rfl⟩
  simp only [go_sem,↓reduceIte,p2,p3]
 .simp only [go_sem,↓reduceIte]
 .simp only [go_sem,↓reduceIte]
end
end Go.AM
