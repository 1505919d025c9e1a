/-
  Own work, part of the proof of these laws: plain laws.
-/
import Derived.Test.YthhlhddnndlhkaaGreatDoorKLe
set_option maxRecDepth 10000
set_option maxHeartbeats 64000000
set_option linter.unusedVariables false
set_option linter.unusedSimpArgs false
set_option linter.unusedSectionVars false
open Bool (and_eq_true or_eq_true)
open Int (toNat_natCast)
open List (length_map range_succ mem_filter any_eq_true any_nil)
open Nat (zero_le lt_or_ge)
namespace Go.AM
open Go Go.Proofs
theorem AnC {t:A1} (ht:A5 t) {s:A6} (hf:AG t s) {w e:Nat} (hw:(w:Int)∈s.has) (hk:(t.at w).kind=3) (he:e < t.nodes.length):A8N t s w e=AeD t s w e:=by
 have h0:=ht.n64
 obtain ⟨h1,h2⟩:=A6F hf ht hw hk
 have hl:=ht.wloc (m:=w) (by obtain ⟨_,a,b⟩:=A8 (hf.node _ hw);omega) (.inr hk)
 have h4:=hf.ml
 unfold A8N AeD
 rw [Bool.eq_iff_iff,any_eq_true,any_eq_true]
 have h3:∀ x∈Yf t s w,(decide (x=(e:Int)) || Bc ((LV t).getD x.toNat 0#64) e || Bc ((LV t).getD e 0#64) x)=(decide (x=(e:Int)) || Ap t x e || Ap t e x):=fun x hx=>by
  obtain ⟨m,rfl,hm⟩:=A8 (A3B hf ht (loc:=(t.at w).loc.toNat) (by omega) h1 hx)
  rw [toNat_natCast,LV,Gq h0 hm he,Gq h0 he hm]
 constructor
 .rintro ⟨x,hx,hp⟩;exact ⟨x,hx,by rw [<- h3 x hx];exact hp⟩
 .rintro ⟨x,hx,hp⟩;exact ⟨x,hx,by rw [h3 x hx];exact hp⟩
theorem ArT {t:A1} (ht:A5 t) {s:A6} (hf:AG t s) {e r:Nat} (he:(e:Int)∈s.has) (h:YF t s e r=true):(r:Int)∈s.has :=
 (A2c ht hf (S:=fun _=>True) (fun _ _ _ _ _=>trivial) he trivial h).2
theorem A2n {t:A1} (ht:A5 t) {s:A6} (hf:AG t s) {e:Nat} (he:(e:Int)∈s.has):AiF t s e=Es t s e:=by
 have h6:=ht.n64
 have hF:=AY (AJ (AE.2 hf))
 obtain ⟨e',e1,h3⟩:=A8 (hf.node _ he)
 have e1:e=e':=by omega
 subst e1
 have h5:∀ r:Nat,(r:Int)∈s.has->r < t.nodes.length->Bc (hgW t s e) (r:Int)=true->HJ t s e r (Ey s.has s.jf r) = !A1a t s r e:=fun r hr h2 hg=>by
  unfold A1a
  simp only [GH hF.len]
  by_cases hk:(t.at r).kind=2
  .obtain ⟨q1,q2,_⟩:=hF.read r hr (by rw [toNat_natCast];exact hk)
   obtain ⟨w,hw,h9⟩:=A8 (hf.node _ q1)
   rw [hw,toNat_natCast] at q2
   rw [hw] at q1 ⊢
   rw [HJ,toNat_natCast,toNat_natCast,decide_eq_false (show ¬ (w:Int) < 0 by omega),hg]
   by_cases c1:(t.at w).thread < 0
   .rw [decide_eq_true c1,if_pos (.inr (.inl c1))];simp
   .by_cases c2:(t.at w).thread=(t.at r).thread
    .rw [decide_eq_true c2,if_pos (.inr (.inr c2))];simp
    .rw [decide_eq_false c1,decide_eq_false c2,if_neg (by
      rintro (h | h | h)
      .omega
      .exact c1 h
      .exact c2 h),PB,Gq h6 h9 h3,AnC ht hf q1 q2 h3]
     cases AH t w e<;>cases AeD t s w e<;>rfl
  .have hn:=hF.none r hr (by rw [toNat_natCast];exact hk)
   rw [hn,HJ,decide_eq_true (show (-1:Int) < 0 by decide),if_pos (.inl (by decide))];simp
 have h7:∀ r:Nat,Bc (hgW t s e) (r:Int)=true↔r < t.nodes.length/\YF t s e r=true:=fun r=>by
  rw [AC,hgW,List.getD_eq_getElem?_getD,Bm h3,Option.getD_some,Au]
  simp only [and_eq_true,decide_eq_true_eq]
  constructor
  .rintro ⟨⟨a,b⟩,_⟩;exact ⟨a,b⟩
  .rintro ⟨a,b⟩;exact ⟨⟨a,b⟩,by omega⟩
 rw [AiF,Es,AfO,Bool.eq_iff_iff,Ah,List.all_eq_true]
 constructor
 .intro h x hx
  obtain ⟨h1,_⟩:=CN (B4.1 hx)
  obtain ⟨r,rfl⟩:=Int.eq_ofNat_of_zero_le h1
  have hg:Bc (hgW t s e) (r:Int)=true:=B4.1 hx
  obtain ⟨h2,h8⟩:=(h7 r).1 hg
  have hr:=ArT ht hf he h8
  obtain ⟨i,hi,ei⟩:=List.getElem_of_mem hr
  have eg:s.has.getD i 0=(r:Int):=by rw [List.getD_eq_getElem?_getD,List.getElem?_eq_getElem hi];exact ei
  have:=h i hi
  have h0:=hF.at_ i hi
  rw [eg] at this h0
  rw [<- h0,h5 r hr h2 hg] at this
  rw [toNat_natCast];exact this
 .intro h i hi
  obtain ⟨r,hr,h2⟩:=A8 (hf.node _ (Ai (d:=0) hi))
  have h4:=Ai (d:=0) hi
  have h0:=hF.at_ i hi
  rw [hr] at h4 h0 ⊢
  rw [<- h0]
  cases hg:Bc (hgW t s e) (r:Int) with
  | false=>rw [HJ,hg];simp
  | true =>
   rw [h5 r h4 h2 hg]
   have:=h (r:Int) (B4.2 hg)
   rwa [toNat_natCast] at this
theorem Rg {t:A1} (ht:A5 t) {s:A6} {e:Nat} (he:e < t.nodes.length) {x:Int}:x∈Mx (JP t s.has s.jf) e↔∃ a:Nat,x=a/\a < t.nodes.length/\Zg t s e a=true:=by
 have hl:(JP t s.has s.jf).length=t.nodes.length:=Dh ht.n64 _
 rw [Mx,List.mem_cons,hl]
 simp only [My,List.mem_map,mem_filter,List.mem_range,and_eq_true,Bool.not_eq_true',decide_eq_false_iff_not,AC]
 constructor
 .rintro (rfl | ⟨a,⟨h1,h2,h3⟩,rfl⟩)
  .exact ⟨e,rfl,he,by simp [Zg]⟩
  .exact ⟨a,rfl,h1,by rw [Zg,hbQ,h3,Bool.true_or]⟩
 .rintro ⟨a,rfl,h1,h2⟩
  by_cases c:a=e
  .left;rw [c]
  .right
   refine ⟨a,⟨h1,c,?_⟩,rfl⟩
   simp only [Zg,or_eq_true,decide_eq_true_eq] at h2
   rcases h2 with h | h
   .exact h
   .exact absurd h.symm c
theorem A14 {t:A1} (ht:A5 t) {s:A6} {a b:Nat} (ha:a < t.nodes.length) (hb:b < t.nodes.length):PU t (Mx (JP t s.has s.jf) a) (Mx (JP t s.has s.jf) b)=BR t s a b:=by
 rw [Bool.eq_iff_iff,JM ht ha hb,PU,any_eq_true]
 constructor
 .rintro ⟨x,hx,h⟩
  rw [any_eq_true] at h
  obtain ⟨y,hy,h⟩:=h
  obtain ⟨x,rfl,h1,h2⟩:=(Rg ht ha).1 hx
  obtain ⟨y,rfl,h3,h4⟩:=(Rg ht hb).1 hy
  exact ⟨x,y,h1,h3,h2,h4,h⟩
 .rintro ⟨x,y,h1,h3,h2,h4,h⟩
  refine ⟨x,(Rg ht ha).2 ⟨x,rfl,h1,h2⟩,?_⟩
  rw [any_eq_true]
  exact ⟨y,(Rg ht hb).2 ⟨y,rfl,h3,h4⟩,h⟩
theorem GL.sub {t:A1}:∀ {n u e:Nat},GL t n u e->∀ m,u<=m->m < e->∃ n' e',GL t n' m e':=by
 intro n
 induction n with
 | zero=>intro u e h;exact absurd h (by simp [GL])
 | succ n ih =>
  intro u e h m h1 h2
  rcases Nat.eq_or_lt_of_le h1 with c | c
  .rw [<- c];exact ⟨n+1,e,h⟩
  .obtain ⟨⟨_,ht,_⟩,h⟩:=h
   rcases h with ⟨_,_,rfl⟩ | ⟨_,_,_,al,hb⟩ | ⟨_,_,_,vals,k,loc,mode,_,hv0,hk0,hke,hloc,hs,_⟩
   .omega
   .exact ih hb m (by omega) h2
   .obtain ⟨v,hv,a,b⟩:=Cx (k:=k) (m:=m) vals (by omega) (by omega)
    exact ih (hs v hv).2.2 m a b
theorem GL.wval {t:A1}:∀ {n u e:Nat},GL t n u e->∀ m,u < m->m < e->(t.at m).kind=3->GJ t (t.at m).val=true:=by
 intro n
 induction n with
 | zero=>intro u e h;exact absurd h (by simp [GL])
 | succ n ih =>
  intro u e h m h1 h2 hk
  obtain ⟨⟨_,ht,_⟩,h⟩:=h
  rcases h with ⟨_,_,rfl⟩ | ⟨c,_,_,al,hb⟩ | ⟨c,_,_,vals,k,loc,mode,_,hv0,hk0,hke,hloc,hs,_⟩
  .omega
  .by_cases e1:m=u+1
   .subst e1
    simp only [Do,or_eq_true,and_eq_true,decide_eq_true_eq] at al
    rcases al with h | h
    .have:=h.1.1.1.1.1;omega
    .exact h.1.2
   .exact ih hb m (by omega) h2 hk
  .obtain ⟨v,hv,a,b⟩:=Cx (k:=k) (m:=m) vals (by omega) (by omega)
   obtain ⟨s1,s2,s3⟩:=hs v hv
   by_cases e1:m=k v
   .subst e1
    simp only [EJ,and_eq_true,decide_eq_true_eq] at s2
    have:=s2.1.1.1.1;omega
   .exact ih s3 m (by omega) b hk
theorem A5.wval {t:A1} (h:A5 t) {m:Nat} (hm:m < t.nodes.length) (hk:(t.at m).kind=3):GJ t (t.at m).val=true:=by
 by_cases c:m < t.locs.length
 .have:=h.first.2 m c
  simp only [Jk,and_eq_true] at this
  exact this.1.1.1.2
 .obtain ⟨s,h0,he,hs⟩:=h.thr
  obtain ⟨v,hv,a,b⟩:=Cx (k:=s) (m:=m) t.regs.length (by omega) (by omega)
  obtain ⟨hb,n,hn⟩:=hs v hv
  by_cases e1:m=s v
  .subst e1
   simp only [Eu,and_eq_true,decide_eq_true_eq] at hb
   have:=hb.1.1.1.1.2;omega
  .exact hn.wval m (by omega) b hk
theorem WI.vals {t:A1} (ht:A5 t) {s:A6} {mem:List Int} {k:Nat} (W:WI t s mem k) (loc:Nat) (hl:loc < t.locs.length):GJ t (mem.getD loc 0)=true:=by
 have h0:=W.form.ml
 obtain ⟨w,e,h1,h2,h3,_⟩:=W.last (loc:=loc) (by omega)
 rw [W.mem loc hl,e,toNat_natCast]
 obtain ⟨w',e2,hw⟩:=A8 (W.form.node _ h1)
 exact ht.wval (by omega) h2
def wyE (t:A1) (s:A6) (a b:Nat):Bool:=Ap t a b || decide (Ey s.has s.jf b=(a:Int))
def wyP (t:A1) (s:A6) (i k a b:Nat):Bool:=(((List.range i).any fun j=>decide (s.has.getD j 0=(a:Int))) && AU s.has (b:Int) && wyE t s a b) || (decide (s.has.getD i 0=(a:Int)) && ((List.range k).any fun j=>decide (s.has.getD j 0=(b:Int))) && wyE t s a b)
def wyB (t:A1) (s:A6) (a b:Nat):Bool:=AU s.has (a:Int) && AU s.has (b:Int) && wyE t s a b
def wy3 (t:A1) (s:A6) (r:Int):Bool:=BR t s r.toNat r.toNat
def wy4 (t:A1) (s:A6) (r w:Int):Bool:=decide (0<=w) && BR t s w.toNat r.toNat
def RH (t:A1) (s:A6) (r w:Int):Bool:=decide (0<=w) && decide (0<=(t.at w.toNat).thread) && !decide ((t.at w.toNat).thread=(t.at r.toNat).thread) && !Es t s w.toNat
def GB (t:A1) (s:A6):Int:=if Bd t s=false then 1 else if Px (Ak t.nodes.length (wyB t s))=false then 2 else
 if ((List.range s.has.length).all fun i=>!wy3 t s (s.has.getD i 0))=false then 3 else
 if ((List.range s.has.length).all fun i=>!wy4 t s (s.has.getD i 0) (s.jf.getD i 0))=false then 4 else
 if ((List.range s.has.length).all fun i=>!RH t s (s.has.getD i 0) (s.jf.getD i 0))=false then 5 else
 if Me t s=false then 6 else 0
theorem Yv {l:List Int} {x:Int}:((List.range l.length).any fun j=>decide (l.getD j 0=x))=AU l x:=by
 rw [Bool.eq_iff_iff,any_eq_true,A9]
 constructor
 .rintro ⟨j,hj,h⟩
  have:=Ai (d:=0) (List.mem_range.1 hj)
  rwa [of_decide_eq_true h] at this
 .intro h
  obtain ⟨j,hj,e⟩:=List.getElem_of_mem h
  exact ⟨j,List.mem_range.2 hj,decide_eq_true (by rw [List.getD_eq_getElem?_getD,List.getElem?_eq_getElem hj];exact e)⟩
theorem AiX {t:A1} {s:A6} {i:Nat}:(fun a b=>wyP t s i s.has.length a b)=fun a b=>wyP t s (i+1) 0 a b:=by
 funext a b
 simp only [wyP,Yv,range_succ,List.range_zero,List.any_append,List.any_cons,any_nil,Bool.or_false,Bool.and_false,Bool.false_and]
 cases ((List.range i).any fun j=>decide (s.has.getD j 0=(a:Int)))<;>cases decide (s.has.getD i 0=(a:Int))<;>simp
theorem Ae7 {t:A1} {s:A6} {i k x y:Nat} (hx:s.has.getD i 0=x) (hy:s.has.getD k 0=y) (h:wyE t s x y=true):(fun a b=>wyP t s i k a b || (decide (a=x) && decide (b=y)))=wyP t s i (k+1):=by
 funext a b
 simp only [wyP,range_succ,List.any_append,List.any_cons,any_nil,Bool.or_false,hx,hy]
 by_cases c1:a=x
 .by_cases c2:b=y
  .subst c1 c2;simp [h]
  .have e:decide ((y:Int)=(b:Int))=false:=decide_eq_false (by omega)
   rw [e,decide_eq_false c2,Bool.or_false,Bool.and_false,Bool.or_false]
 .have e:decide ((x:Int)=(a:Int))=false:=decide_eq_false (by omega)
  rw [e,decide_eq_false c1];simp
theorem ApI {t:A1} {s:A6} {i k x y:Nat} (hx:s.has.getD i 0=x) (hy:s.has.getD k 0=y) (h:wyE t s x y=false):wyP t s i (k+1)=wyP t s i k:=by
 funext a b
 simp only [wyP,range_succ,List.any_append,List.any_cons,any_nil,Bool.or_false,hx,hy]
 by_cases c1:a=x
 .by_cases c2:b=y
  .subst c1 c2;simp [h]
  .have e:decide ((y:Int)=(b:Int))=false:=decide_eq_false (by omega)
   rw [e,Bool.or_false]
 .have e:decide ((x:Int)=(a:Int))=false:=decide_eq_false (by omega)
  rw [e];simp
section
variable {V:At} (C:Aq V) {Q:VV->Prop}
include C
theorem A1P {n:Nat} (hn:n<=64) (p:Nat->Nat->Bool):VP V UO [lW (Ak n p)] Q↔Q (.b (Px (Ak n p))):=by
 refine Ae ?_
 rw [Ad C.c_z104.1 C.c_z104.2]
 have hm:=CH hn p
 have h0:=Aj (n:=n) (p:=p)
 obtain ⟨a,ha⟩:∃ a,a=Ak n p:=⟨_,rfl⟩
 rw [<- ha] at hm h0 ⊢
 unfold Px
 rw [hm]
 .have hl:=HU hm
  have h1:=fun (Q:VV->Prop)=>Qs C a (by omega) (Q:=Q)
  have h3:=fun (Q:VV->Prop)=>XW C a (by omega) (Q:=Q)
  have h2:(BV a).length=a.length:=by rw [BV,if_pos hm];simp
  rw [Bool.true_and]
  simp only [Zn,go_sem,↓reduceIte,h1,hm,h3]
  refine Ab (by decide) (BV a).length (by omega) (I:=fun k F h=>A4.tmp F 3=lW (BV a)/\h=[]/\∀ j,j < k->((BV a).getD j 0#64).getLsbD j=false) ?_ ?_ ?_ 0 _ _ (zero_le _) ?_ ?_
  .rintro k F h hk p4 ⟨p3,rfl,pr⟩
   simp only [go_sem,↓reduceIte,p4,p3]
   exact pr
  .rintro k F h hk p4 ⟨p3,rfl,pr⟩
   have gW:=B9 (a:=BV a) hk
   have hh:=AC ((BV a).getD k 0#64) k
   cases d:((BV a).getD k 0#64).getLsbD k with
   | true =>
    rw [d] at hh
    have hb:=AP (n:=a.length) (k:=k) (p:=fun i=>!((BV a).getD i 0#64).getLsbD i) (by omega) (by rw [d];rfl)
    simp only [go_sem,↓reduceIte,p4,p3,gW,hk,B2 C,hh,hb,A0]
   | false =>
    rw [d] at hh
    simp only [go_sem,↓reduceIte,p4,p3,gW,hk,B2 C,hh,A0]
    intro j hj
    rcases lt_or_ge j k with c | c
    .exact pr j c
    .rw [show j=k by omega];exact d
  .rintro F h ⟨p3,rfl,pr⟩
   rw [h2] at pr
   have hb:=AQ (p:=fun i=>!((BV a).getD i 0#64).getLsbD i) fun j hj=>by rw [pr j hj];rfl
   simp only [go_sem,↓reduceIte,p3,hb]
  .simp only [go_sem,↓reduceIte]
  .simp only [go_sem,↓reduceIte]
   intro j hj;omega
theorem Hj (t:A1) (ht:A5 t) (s:A6) (hs:DL s):VP V A5s [vT t,Dy s] Q↔Q (.i .i64 (GB t s)):=by
 refine Ae ?_
 rw [Ad C.c_z46.1 C.c_z46.2]
 have hp:=ht.n64
 have g1:=hs.has
 have q0:=fun (Q:VV->Prop)=>Bv C t ht s hs (Q:=Q)
 unfold GB
 cases hff:Bd t s with
 | false=>simp only [A3s,go_sem,↓reduceIte,q0,hff]
 | true =>
 have hf:=AE.1 hff
 rw [if_neg (by decide)]
 have hF:=AY (AJ hff)
 have q4:=fun (Q:VV->Prop)=>Qr C t ht s.has s.jf hs.has hs.jf (AJ hff) (Q:=Q)
 rw [hbF,if_pos (AJ hff)] at q4
 have hl:(JP t s.has s.jf).length=t.nodes.length:=Dh hp _
 have hr:=fun (e:Nat) (he:e < t.nodes.length) (Q:VV->Prop)=>Lt C (JP t s.has s.jf) (by omega) e (by omega) (Q:=Q)
 have q9:∀ e,(Mx (JP t s.has s.jf) e).length<=1000:=fun e=>by
  have:=ND (JP t s.has s.jf) e (JP t s.has s.jf).length
  rw [Mx,List.length_cons];omega
 have hz:=fun (a b:Nat) (ha:a < t.nodes.length) (hb:b < t.nodes.length) (Q:VV->Prop)=>(Kk C t ht.up _ _ (q9 a) (q9 b) (Q:=Q)).trans (by rw [A14 ht ha hb])
 have hq:=fun (x y:Int) (Q:VV->Prop)=>E0 C t ht.up x y (Q:=Q)
 have qd:=fun (Q:VV->Prop)=>A7v C t ht s hs hF.node (Q:=Q)
 have b1:t.nodes.length * 8<=Aa:=by unfold Aa;omega
 have h4:∀ i,i < s.has.length->∃ m:Nat,s.has.getD i 0=m/\m < t.nodes.length/\(m:Int)∈s.has/\Ey s.has s.jf m=s.jf.getD i 0/\i < s.jf.length:=fun i hi=>by
  have hm:=Ai (d:=0) hi
  obtain ⟨m,e,qe⟩:=A8 (hf.node _ hm)
  have:=hF.at_ i hi
  rw [e] at this hm
  exact ⟨m,e,qe,hm,this,by rw [hf.jl];exact hi⟩
 simp only [A3s,go_sem,↓reduceIte,q0,hff,b1,Int.le_refl]
 obtain ⟨O,hO⟩:∃ O:Option VO,O=some ⟨AK,1,0,false,(Ak t.nodes.length (wyB t s)).map eW⟩:=⟨_,rfl⟩
 have qc:Ak t.nodes.length (wyP t s s.has.length 0)=Ak t.nodes.length (wyB t s):=Ci fun a b _ _=>by
  simp only [wyP,wyB,Yv,List.range_zero,any_nil,Bool.and_false,Bool.false_and,Bool.or_false]
 have src:∀ m:Nat,(m:Int)∈s.has->0<=Ey s.has s.jf m->∃ w:Nat,Ey s.has s.jf m=w/\w < t.nodes.length/\(w:Int)∈s.has:=fun m hm h0=>by
  have hk:(t.at m).kind=2:=by
   apply Classical.byContradiction
   intro hk
   have:=hF.none m hm (by rw [toNat_natCast];exact hk)
   omega
  obtain ⟨q1,_,_⟩:=hF.read m hm (by rw [toNat_natCast];exact hk)
  obtain ⟨w,e,hw⟩:=A8 (hf.node _ q1)
  rw [e] at q1
  exact ⟨w,e,hw,q1⟩
 refine Ab (by decide) s.has.length (by omega) (I:=fun i F h=>A4.tmp F 2 = .fp (eT t) 0/\A4.tmp F 3 = .fp (Je s) 0/\A4.tmp F 5 = .sl 0 0 0 t.nodes.length/\h=[some ⟨AK,1,0,false,(Ak t.nodes.length (wyP t s i 0)).map eW⟩]) ?_ ?_ ?_ 0 _ _ (zero_le _) ?_ ?_
 .rintro i F h hi p6 ⟨p2,p3,p5,rfl⟩
  simp only [go_sem,↓reduceIte,p6,p2,p3,p5]
 .rintro i F h hi p6 ⟨p2,p3,p5,rfl⟩
  obtain ⟨x,hx,h1,hd,_,_⟩:=h4 i hi
  have gX:=Ar hi
  rw [hx] at gX
  simp only [go_sem,↓reduceIte,p6,p2,p3,p5,A0]
  refine Ab (by decide) s.has.length (by omega) (I:=fun k F h=>A4.tmp F 6 = .i .i64 i/\A4.tmp F 2 = .fp (eT t) 0/\A4.tmp F 3 = .fp (Je s) 0/\A4.tmp F 5 = .sl 0 0 0 t.nodes.length/\h=[some ⟨AK,1,0,false,(Ak t.nodes.length (wyP t s i k)).map eW⟩]) ?_ ?_ ?_ 0 _ _ (zero_le _) ?_ ?_
  .rintro k F h hk q7 ⟨q6,q2,q3,q5,rfl⟩
   simp only [go_sem,↓reduceIte,q7,q6,q2,q3,q5]
  .rintro k F h hk q7 ⟨q6,q2,q3,q5,rfl⟩
   obtain ⟨y,hy,qg,qi,qh,hn⟩:=h4 k hk
   have gY:=Ar hk
   have gJ:=Ar hn
   rw [hy] at gY
   rw [<- qh] at gJ
   have gW:=B9 (a:=Ak t.nodes.length (wyP t s i k)) (i:=x) (by rw [Aj];exact h1)
   have h7:=Jv hp (wyP t s i k) qg h1
   have hc:∀ w,((Ak t.nodes.length (wyP t s i k)).map eW).set x [vW w]=((Ak t.nodes.length (wyP t s i k)).set x w).map eW:=fun w=>by rw [List.map_set]
   cases d1:Ap t x y with
   | true =>
    rw [Ae7 hx hy (by rw [wyE,d1];rfl)] at h7
    simp only [go_sem,↓reduceIte,q7,q6,q2,q3,q5,gX,gY,gJ,hi,hk,hn,hq,d1,h1,gW,Bi C,hc,h7,Aj,length_map,A0]
   | false =>
   cases d2:decide (Ey s.has s.jf y=(x:Int)) with
   | true =>
    rw [Ae7 hx hy (by rw [wyE,d2];simp)] at h7
    simp only [go_sem,↓reduceIte,q7,q6,q2,q3,q5,gX,gY,gJ,hi,hk,hn,hq,d1,d2,h1,gW,Bi C,hc,h7,Aj,length_map,A0]
   | false =>
    rw [ApI hx hy (by rw [wyE,d1,d2];rfl)]
    simp only [go_sem,↓reduceIte,q7,q6,q2,q3,q5,gX,gY,gJ,hi,hk,hn,hq,d1,d2,A0]
  .rintro F h ⟨q6,q2,q3,q5,rfl⟩
   have qf:Ak t.nodes.length (wyP t s i s.has.length)=Ak t.nodes.length (wyP t s (i+1) 0):=congrArg _ AiX
   simp only [go_sem,↓reduceIte,q6,q2,q3,q5,qf]
  .simp only [go_sem,↓reduceIte]
  .simp only [go_sem,↓reduceIte,p6,p2,p3,p5]
 .rintro F h ⟨p2,p3,p5,rfl⟩
  rw [qc]
  have hv:=fun (Q:VV->Prop)=>A1P C hp (wyB t s) (Q:=Q)
  have qa:=List.take_of_length_le (Nat.le_of_eq (Aj (n:=t.nodes.length) (p:=wyB t s)))
  cases c2:Px (Ak t.nodes.length (wyB t s)) with
  | false=>simp only [go_sem,↓reduceIte,p2,p3,p5,hv,c2,Aj,length_map,qa]
  | true =>
  rw [if_neg (by decide)]
  simp only [go_sem,↓reduceIte,p2,p3,p5,hv,c2,Aj,length_map,qa,q4]
  rw [<- hO]
  refine Ab (by decide) s.has.length (by omega) (I:=fun i F h=>A4.tmp F 2 = .fp (eT t) 0/\A4.tmp F 3 = .fp (Je s) 0/\A4.tmp F 8=lW (JP t s.has s.jf)/\h=[O]/\∀ j,j < i->(!wy3 t s (s.has.getD j 0))=true) ?_ ?_ ?_ 0 _ _ (zero_le _) ?_ ?_
  .rintro i F h hi p9 ⟨p2,p3,p8,rfl,pr⟩
   simp only [go_sem,↓reduceIte,p9,p2,p3,p8]
   exact pr
  .rintro i F h hi p9 ⟨p2,p3,p8,rfl,pr⟩
   obtain ⟨x,hx,h1,hd,_,_⟩:=h4 i hi
   have gX:=Ar hi
   rw [hx] at gX
   have h9:=hr x h1
   have h5:=hz x x h1 h1
   cases d:BR t s x x with
   | true =>
    rw [d] at h5
    have hb:=AP (p:=fun i=>!wy3 t s (s.has.getD i 0)) hi (by rw [hx,wy3,toNat_natCast,d];rfl)
    rw [hb]
    simp only [go_sem,↓reduceIte,p9,p2,p3,p8,gX,hi,h9,h5,A0]
   | false =>
    rw [d] at h5
    simp only [go_sem,↓reduceIte,p9,p2,p3,p8,gX,hi,h9,h5,A0]
    intro j hj
    rcases lt_or_ge j i with c | c
    .exact pr j c
    .rw [show j=i by omega,hx,wy3,toNat_natCast,d];rfl
  .rintro F h ⟨p2,p3,p8,rfl,pr⟩
   have hb:=AQ (p:=fun i=>!wy3 t s (s.has.getD i 0)) pr
   rw [hb,if_neg (by decide)]
   simp only [go_sem,↓reduceIte,p2,p3,p8]
   refine Ab (by decide) s.has.length (by omega) (I:=fun i F h=>A4.tmp F 2 = .fp (eT t) 0/\A4.tmp F 3 = .fp (Je s) 0/\A4.tmp F 8=lW (JP t s.has s.jf)/\h=[O]/\∀ j,j < i->(!wy4 t s (s.has.getD j 0) (s.jf.getD j 0))=true) ?_ ?_ ?_ 0 _ _ (zero_le _) ?_ ?_
   .rintro i F h hi hh ⟨p2,p3,p8,rfl,pr⟩
    simp only [go_sem,↓reduceIte,hh,p2,p3,p8]
    exact pr
   .rintro i F h hi hh ⟨p2,p3,p8,rfl,pr⟩
    obtain ⟨x,hx,h1,hd,hg,h2⟩:=h4 i hi
    have gX:=Ar hi
    have gJ:=Ar h2
    rw [hx] at gX
    have h9:=hr x h1
    have h6:wy4 t s x (s.jf.getD i 0)=false->∀ j,j < i+1->(!wy4 t s (s.has.getD j 0) (s.jf.getD j 0))=true:=fun h j hj=>by
     rcases lt_or_ge j i with c | c
     .exact pr j c
     .rw [show j=i by omega,hx,h];rfl
    cases d0:decide (0<=s.jf.getD i 0) with
    | false =>
     simp only [go_sem,↓reduceIte,hh,p2,p3,p8,gX,gJ,hi,h2,d0,A0]
     exact h6 (by rw [wy4,d0];rfl)
    | true =>
     obtain ⟨w,hw,h3,_⟩:=src x hd (by rw [hg];exact of_decide_eq_true d0)
     rw [hg] at hw
     rw [hw] at gJ h6 d0
     have q8:=hr w h3
     have h5:=hz w x h3 h1
     cases d:BR t s w x with
     | true =>
      rw [d] at h5
      have hb:=AP (p:=fun i=>!wy4 t s (s.has.getD i 0) (s.jf.getD i 0)) hi (by rw [hx,hw,wy4,d0,toNat_natCast,toNat_natCast,d];rfl)
      rw [hb]
      simp only [go_sem,↓reduceIte,hh,p2,p3,p8,gX,gJ,hi,h2,d0,h9,q8,h5,A0]
     | false =>
      rw [d] at h5
      simp only [go_sem,↓reduceIte,hh,p2,p3,p8,gX,gJ,hi,h2,d0,h9,q8,h5,A0]
      exact h6 (by rw [wy4,toNat_natCast,toNat_natCast,d,Bool.and_false])
   .rintro F h ⟨p2,p3,p8,rfl,pr⟩
    have hb:=AQ (p:=fun i=>!wy4 t s (s.has.getD i 0) (s.jf.getD i 0)) pr
    rw [hb,if_neg (by decide)]
    simp only [go_sem,↓reduceIte,p2,p3,p8]
    refine Ab (by decide) s.has.length (by omega) (I:=fun i F h=>A4.tmp F 2 = .fp (eT t) 0/\A4.tmp F 3 = .fp (Je s) 0/\A4.tmp F 8=lW (JP t s.has s.jf)/\h=[O]/\∀ j,j < i->(!RH t s (s.has.getD j 0) (s.jf.getD j 0))=true) ?_ ?_ ?_ 0 _ _ (zero_le _) ?_ ?_
    .rintro i F h hi h8 ⟨p2,p3,p8,rfl,pr⟩
     simp only [go_sem,↓reduceIte,h8,p2,p3,p8]
     exact pr
    .rintro i F h hi h8 ⟨p2,p3,p8,rfl,pr⟩
     obtain ⟨x,hx,h1,hd,hg,h2⟩:=h4 i hi
     have gX:=Ar hi
     have gJ:=Ar h2
     rw [hx] at gX
     have h6:RH t s x (s.jf.getD i 0)=false->∀ j,j < i+1->(!RH t s (s.has.getD j 0) (s.jf.getD j 0))=true:=fun h j hj=>by
      rcases lt_or_ge j i with c | c
      .exact pr j c
      .rw [show j=i by omega,hx,h];rfl
     cases d0:decide (0<=s.jf.getD i 0) with
     | false =>
      simp only [go_sem,↓reduceIte,h8,p2,p3,p8,gX,gJ,hi,h2,d0,A0]
      exact h6 (by rw [RH,d0];rfl)
     | true =>
      obtain ⟨w,hw,h3,qb⟩:=src x hd (by rw [hg];exact of_decide_eq_true d0)
      rw [hg] at hw
      rw [hw] at gJ h6 d0
      have hu:=fun (Q:VV->Prop)=>LQ C t ht s hs hf qb (Q:=Q)
      rw [A2n ht hf qb] at hu
      have ho:RH t s x w=(decide (0<=(t.at w).thread) && !decide ((t.at w).thread=(t.at x).thread) && !Es t s w):=by rw [RH,d0,toNat_natCast,toNat_natCast,Bool.true_and]
      cases d1:decide (0<=(t.at w).thread) with
      | false =>
       simp only [go_sem,↓reduceIte,h8,p2,p3,p8,gX,gJ,hi,h2,d0,h3,A7 h3,d1,A0]
       exact h6 (by rw [ho,d1];rfl)
      | true =>
      cases d2:decide ((t.at w).thread=(t.at x).thread) with
      | true =>
       simp only [go_sem,↓reduceIte,h8,p2,p3,p8,gX,gJ,hi,h2,d0,h3,A7 h3,d1,h1,A7 h1,d2,A0]
       exact h6 (by rw [ho,d2];simp)
      | false =>
      cases d3:Es t s w with
      | true =>
       simp only [go_sem,↓reduceIte,h8,p2,p3,p8,gX,gJ,hi,h2,d0,h3,A7 h3,d1,h1,A7 h1,d2,hu,d3,A0]
       exact h6 (by rw [ho,d3];simp)
      | false =>
       have hb:=AP (p:=fun i=>!RH t s (s.has.getD i 0) (s.jf.getD i 0)) hi (by rw [hx,hw,ho,d1,d2,d3];rfl)
       rw [hb]
       simp only [go_sem,↓reduceIte,h8,p2,p3,p8,gX,gJ,hi,h2,d0,h3,A7 h3,d1,h1,A7 h1,d2,hu,d3,A0]
    .rintro F h ⟨p2,p3,p8,rfl,pr⟩
     have hb:=AQ (p:=fun i=>!RH t s (s.has.getD i 0) (s.jf.getD i 0)) pr
     rw [hb,if_neg (by decide)]
     cases d:Me t s<;>simp only [go_sem,↓reduceIte,p2,p3,p8,qd,d]
    .simp only [go_sem,↓reduceIte]
    .simp only [go_sem,↓reduceIte,p2,p3,p8]
     intro j hj;omega
   .simp only [go_sem,↓reduceIte]
   .simp only [go_sem,↓reduceIte,p2,p3,p8]
    intro j hj;omega
  .simp only [go_sem,↓reduceIte]
  .simp only [go_sem,↓reduceIte,p2,p3,p5]
   intro j hj;omega
 .simp only [go_sem,↓reduceIte]
 .simp only [go_sem,↓reduceIte]
  rw [show Ak t.nodes.length (wyP t s 0 0)=Ak t.nodes.length (fun _ _=>false) from Ci fun a b _ _=>by simp [wyP],J7]
end
def Eg (t:A1) (m:List U8):Nat->A6
 | 0=>Bu t
 | k+1=>(match Gk t (Eg t m k) (KU m (2 * k)) (KU m (2 * k+1)) with
  | some s=>if GB t s=0 then s else Eg t m k
  | none=>Eg t m k)
theorem N3 {t:A1} (ht:A5 t) (m:List U8):∀ k,Gr t (Eg t m k) k
 | 0=>A29 ht
 | k+1=>by
  have h:=N3 ht m k
  rw [Eg]
  split
  .rename_i s e
   split
   .exact A7g h e
   .exact h.mono (by omega)
  .exact h.mono (by omega)
theorem La {t:A1} (ht:A5 t) (m:List U8):∀ k,AG t (Eg t m k)
 | 0=>Ly ht
 | k+1=>by
  have ih:=La ht m k
  rw [Eg]
  split
  .rename_i s e
   split
   .obtain ⟨n,h⟩:=R8 ht ih e;exact h.form
   .exact ih
  .exact ih
section
variable {V:At} (C:Aq V) {Q:VV->Prop}
include C
theorem Hd (t:A1) (ht:A5 t) (m:List U8) (hl:m.length<=100) (hm:∀ x∈m,x.n < 256):VP V Pe [vT t,lU m,.b true] Q↔Q (Dy (Eg t m (m.length / 2))):=by
 refine Ae ?_
 rw [Ad C.c_z14.1 C.c_z14.2]
 simp only [A3k,go_sem,↓reduceIte,Kj C t ht]
 unfold VL
 rw [A0]
 refine AT (M:=Nat) (I:=fun k F h=>2 * k<=m.length/\A4.tmp F 1=lU m/\A4.tmp F 2 = .b true/\A4.tmp F 3 = .fp (eT t) 0/\A4.tmp F 6 = .p 0 0 0 0/\A4.tmp F 7 = .p 1 0 0 0/\A4.tmp F 8 = .i .i64 ((2 * k:Nat):Int)/\h=grH (Eg t m k)) (μ:=fun k=>m.length - 2 * k) ?_ 0 _ _ ⟨by omega,?_,?_,?_,?_,?_,?_,?_⟩
 .rintro k F h ⟨hk,p1,p2,p3,p6,p7,p8,rfl⟩
  have w1:IntKind.i64.wrap (((2 * k:Nat):Int)+1)=((2 * k+1:Nat):Int):=by rw [Az (by omega) (by omega)];omega
  have w2:IntKind.i64.wrap (((2 * k:Nat):Int)+2)=((2 * (k+1):Nat):Int):=by rw [Az (by omega) (by omega)];omega
  by_cases c:2 * k+1 < m.length
  .have ci:decide (((2 * k+1:Nat):Int) < (m.length:Int))=true:=decide_eq_true (by omega)
   have c0:2 * k < m.length:=by omega
   have g0:=AjZ c0
   have g1:=AjZ c
   have b0:=A6C hm (2 * k)
   have b1:=A6C hm (2 * k+1)
   have v0:IntKind.i64.wrap ((KU m (2 * k):Nat):Int)=((KU m (2 * k):Nat):Int):=Az (by omega) (by omega)
   have v1:IntKind.i64.wrap ((KU m (2 * k+1):Nat):Int)=((KU m (2 * k+1):Nat):Int):=Az (by omega) (by omega)
   have h0:=N3 ht m k
   have hn:=fun (Q:VV->Prop)=>XN C t ht (Eg t m k) h0 (by omega) _ _ b0 b1 (Q:=Q)
   cases e:Gk t (Eg t m k) (KU m (2 * k)) (KU m (2 * k+1)) with
   | none =>
    have eg:Eg t m (k+1)=Eg t m k:=by rw [Eg,e]
    rw [e,CP] at hn
    simp only [Mk,go_sem,↓reduceIte,p1,p2,p3,p6,p7,p8,w1,w2,ci,c0,c,g0,g1,v0,v1,hn,grH,Yk,A0]
    exact ⟨k+1,by omega,by omega,by rw [eg];exact ⟨rfl,rfl⟩⟩
   | some s' =>
    have hz:=(A7g h0 e).sz ht (by omega)
    have hw:=fun (Q:VV->Prop)=>Hj C t ht s' hz (Q:=Q)
    rw [e,Cq] at hn
    cases d:decide (GB t s' = 0) with
    | true =>
     have eg:Eg t m (k+1)=s':=by rw [Eg,e];simp only;rw [if_pos (of_decide_eq_true d)]
     simp only [Mk,go_sem,↓reduceIte,p1,p2,p3,p6,p7,p8,w1,w2,ci,c0,c,g0,g1,v0,v1,hn,grH,hw,d,A0]
     exact ⟨k+1,by omega,by omega,by rw [eg];exact ⟨rfl,rfl⟩⟩
    | false =>
     have eg:Eg t m (k+1)=Eg t m k:=by rw [Eg,e];simp only;rw [if_neg (of_decide_eq_false d)]
     simp only [Mk,go_sem,↓reduceIte,p1,p2,p3,p6,p7,p8,w1,w2,ci,c0,c,g0,g1,v0,v1,hn,grH,hw,d,A0]
     exact ⟨k+1,by omega,by omega,by rw [eg];exact ⟨rfl,rfl⟩⟩
  .have ci:decide (2 * k+1 < m.length)=false:=decide_eq_false (by omega)
   have e:k=m.length / 2:=by omega
   simp only [Mk,go_sem,↓reduceIte,p1,p2,p3,p6,p7,p8,w1,w2,ci,grH,A0]
   rw [e]
 .simp only [go_sem,↓reduceIte]
 .simp only [go_sem,↓reduceIte]
 .simp only [go_sem,↓reduceIte]
 .simp only [go_sem,↓reduceIte]
 .simp only [go_sem,↓reduceIte]
 .simp only [go_sem,↓reduceIte]
 .rfl
end
def CC (t:A1) (n:Nat):BitVec 64:=BS fun i=>decide (i < t.nodes.length) && (decide ((t.at i).thread < 0) || decide (i=n) || Aw t i n)
def Dw (t:A1) (i:Nat):List Nat:=(List.range t.nodes.length).filter fun n=>decide ((t.at n).thread=(i:Int)) && (t.at n).fin
def Dl (t:A1) (S:BitVec 64) (i:Nat):List (BitVec 64):=((Dw t i).map (CC t)).filter fun w=>decide (w ||| S=S)
def BU (t:A1) (S:BitVec 64):Nat->List (BitVec 64)
 | 0=>[0#64]
 | k+1=>(BU t S k).flatMap fun s=>(Dl t S k).map fun w=>s ||| w
theorem Kh {a b:BitVec 64}:a ||| b=b↔∀ j,j < 64->a.getLsbD j=true->b.getLsbD j=true:=by
 constructor
 .intro h j _ ha
  rw [<- h,BitVec.getLsbD_or,ha,Bool.true_or]
 .intro h
  apply B1
  intro j hj
  rw [BitVec.getLsbD_or]
  cases c:a.getLsbD j with
  | false=>rw [Bool.false_or]
  | true=>rw [h j hj c];rfl
theorem A6y (t:A1) (S:BitVec 64) (k:Nat):(BU t S (k+1)).length=(BU t S k).length * (Dl t S k).length:=by
 rw [BU]
 induction BU t S k with
 | nil=>simp
 | cons x l ih=>rw [List.flatMap_cons,List.length_append,length_map,ih,List.length_cons,Nat.succ_mul];omega
theorem D9 {t:A1} (ht:A5 t) {n j:Nat}:(CC t n).getLsbD j=true↔j < t.nodes.length/\((t.at j).thread < 0\/j=n\/Aw t j n=true):=by
 have:=ht.n64
 rw [CC,Au]
 simp only [and_eq_true,or_eq_true,decide_eq_true_eq]
 constructor
 .rintro ⟨⟨h1,h2⟩,_⟩
  refine ⟨h1,?_⟩
  rcases h2 with (h | h) | h
  .exact .inl h
  .exact .inr (.inl h)
  .exact .inr (.inr h)
 .rintro ⟨h1,h2⟩
  refine ⟨⟨h1,?_⟩,by omega⟩
  rcases h2 with h | h | h
  .exact .inl (.inl h)
  .exact .inl (.inr h)
  .exact .inr h
theorem YC {t:A1} (ht:A5 t) {s:A6} (hf:AG t s) {j:Nat}:(Cc s.has).getLsbD j=true↔(j:Int)∈s.has:=by
 have h0:=ht.n64
 have hn:Cu t s.has:=hf.node
 rw [<- AC,hn.has h0,A9]
def inW (t:A1):BitVec 64:=BS fun i=>decide (i < t.locs.length)
def MJ (t:A1) (s:A6) (n:Nat):Bool:=decide (CC t n ||| Cc s.has=Cc s.has) && (Ay (CC t n)).all fun j=>AU s.has j && AiF t s j.toNat
def A2o (t:A1) (s:A6) (i:Nat):List (BitVec 64):=((Dw t i).filter (MJ t s)).map (CC t)
def NO (t:A1) (s:A6):Nat->List (BitVec 64)
 | 0=>[inW t]
 | k+1=>(NO t s k).flatMap fun x=>(A2o t s k).map fun w=>x ||| w
theorem AbJ {t:A1} {s:A6} (hf:AG t s) {p:Int->Bool}:Cu t (s.has.filter p):=fun x hx=>hf.node x (List.mem_filter.1 hx).1
theorem KF {t:A1} (ht:A5 t) {s:A6} (hf:AG t s) {j:Nat}:(DH t s).getLsbD j=true↔(j:Int)∈s.has/\Es t s j=true:=by
 have h0:=ht.n64
 have hn:Cu t (s.has.filter fun e=>Es t s e.toNat):=AbJ hf
 rw [DH,<- AC,hn.has h0,A9,mem_filter,toNat_natCast]
theorem ApF {t:A1} (ht:A5 t) {s:A6} (hf:AG t s) (n:Nat):MJ t s n=decide (CC t n ||| DH t s=DH t s):=by
 rw [Bool.eq_iff_iff,MJ,and_eq_true,decide_eq_true_eq,decide_eq_true_eq,Kh,Kh,List.all_eq_true]
 have hb:∀ j,(CC t n).getLsbD j=true->(j:Int)∈Ay (CC t n):=fun j h=>B4.2 (by rw [AC];exact h)
 constructor
 .rintro ⟨h1,h2⟩ j hj h0
  have h3:=h2 _ (hb j h0)
  rw [and_eq_true,A9,toNat_natCast] at h3
  exact (KF ht hf).2 ⟨h3.1,by rw [<- A2n ht hf h3.1];exact h3.2⟩
 .intro h
  refine ⟨fun j hj h0=>(YC ht hf).2 ((KF ht hf).1 (h j hj h0)).1,fun x hx=>?_⟩
  obtain ⟨h1,h2⟩:=CN (B4.1 hx)
  obtain ⟨j,rfl⟩:=Int.eq_ofNat_of_zero_le h1
  have h3:=B4.1 hx
  rw [AC] at h3
  obtain ⟨h4,h5⟩:=(KF ht hf).1 (h j (by omega) h3)
  rw [and_eq_true,A9,toNat_natCast,A2n ht hf h4]
  exact ⟨h4,h5⟩
theorem Ae3 {t:A1} (ht:A5 t) {s:A6} (hf:AG t s) (i:Nat):A2o t s i=Dl t (DH t s) i:=by
 rw [A2o,Dl,List.filter_map]
 congr 1
 exact List.filter_congr fun n _=>ApF ht hf n
theorem Ahr {t:A1} (ht:A5 t) {j:Nat}:(inW t).getLsbD j=true↔j < t.locs.length:=by
 have:=ht.n64
 have:=ht.first.1
 rw [inW,Au,and_eq_true,decide_eq_true_eq,decide_eq_true_eq]
 omega
theorem AnU {t:A1} (ht:A5 t) (n:Nat):inW t ||| CC t n=CC t n:=Kh.2 fun j _ h=>by
 have h:=(Ahr ht).1 h
 have hl:j < t.nodes.length:=by have:=ht.first.1;omega
 exact (D9 ht).2 ⟨hl,.inl ((ht.thr_iff hl).2 h)⟩
theorem Gz {t:A1} {S:BitVec 64} {i:Nat} {w:BitVec 64} (h:w∈Dl t S i):∃ n,n∈Dw t i/\w=CC t n/\w ||| S=S:=by
 obtain ⟨h1,h2⟩:=List.mem_filter.1 h
 obtain ⟨n,hn,rfl⟩:=List.mem_map.1 h1
 exact ⟨n,hn,rfl,of_decide_eq_true h2⟩
theorem Abm {t:A1} (ht:A5 t) {s:A6} (hf:AG t s):∀ k,NO t s (k+1)=BU t (DH t s) (k+1)
 | 0=>by
  rw [NO,BU,NO,BU,Ae3 ht hf,List.flatMap_cons,List.flatMap_nil,List.append_nil,List.flatMap_cons,List.flatMap_nil,List.append_nil]
  refine List.map_congr_left fun w hw=>?_
  obtain ⟨n,_,rfl,_⟩:=Gz hw
  rw [AnU ht,BitVec.zero_or]
 | k+1=>by
  rw [NO,BU,Abm ht hf k,Ae3 ht hf]
theorem AgS {t:A1} (ht:A5 t) {s:A6} (hf:AG t s):NO t s t.regs.length=BU t (DH t s) t.regs.length:=by
 have:=ht.r1
 obtain ⟨k,e⟩:∃ k,t.regs.length=k+1:=⟨t.regs.length - 1,by omega⟩
 rw [e];exact Abm ht hf k
theorem Gh {t:A1} {i n:Nat}:n∈Dw t i↔n < t.nodes.length/\(t.at n).thread=i/\(t.at n).fin=true:=by
 rw [Dw,mem_filter,List.mem_range,and_eq_true,decide_eq_true_eq]
end Go.AM
