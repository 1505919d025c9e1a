/-
  Own work, part of the proof of these laws: plain laws.
-/
import Derived.Test.YtpnaenhghnkggaaGreatDoorKJ
set_option maxRecDepth 10000
set_option maxHeartbeats 64000000
set_option linter.unusedVariables false
set_option linter.unusedSimpArgs false
set_option linter.unusedSectionVars false
open Bool (and_eq_true or_eq_true not_eq_true' eq_false_iff)
open Int (toNat_natCast eq_ofNat_of_zero_le)
open List (getElem?_eq_getElem getD_eq_getElem?_getD length_append length_take getElem_mem length_set length_cons getElem_of_mem mem_append getElem?_set getElem_set filter_cons)
open Option (getD_some)
open BitVec (getLsbD_or)
namespace Go.AM
open Go Go.Proofs
theorem AbG {t:A1} (ht:A5 t) {a:Nat}:∀ (n:Nat) (b:Nat),b < n->b < t.nodes.length->AB t a b=true->(t.at a).thread=(t.at b).thread:=by
 intro n
 induction n with
 | zero=>intro b h;omega
 | succ n ih =>
  intro b h0 hb h
  have hu:=ht.up
  unfold AB at h
  have h2:=hu b hb
  rw [Em hu a (by omega)] at h
  by_cases c1:(t.at b).up < 0
  .rw [if_pos c1] at h;cases h
  .rw [if_neg c1] at h
   have hl:t.locs.length<=b:=by
    rcases Nat.lt_or_ge b t.locs.length with h1 | h1
    .have:=(ht.init b h1).up;omega
    .exact h1
   have hp:=(ht.good b hl hb).par (by omega)
   rw [<- hp]
   by_cases c2:(t.at b).up=a
   .rw [c2,toNat_natCast]
   .rw [if_neg c2] at h
    exact ih (t.at b).up.toNat (by omega) (by omega) h
theorem P4 {t:A1} (ht:A5 t) {a b:Nat} (ha:0<=(t.at a).thread) (h:At t a b=true):(t.at a).thread=(t.at b).thread:=by
 simp only [At,and_eq_true,toNat_natCast] at h
 obtain ⟨⟨h1,h2⟩,h3⟩:=h
 simp only [BF,and_eq_true,decide_eq_true_eq] at h1 h2
 rw [if_neg (by omega)] at h3
 exact AbG ht (b+1) b (by omega) (by omega) h3
def EI (t:A1) (u:Nat):List Nat:=if (t.at u).thread < 0 then [] else (List.range t.nodes.length).filter fun i=>decide ((t.at i).up=u)
def ER (t:A1) (mem:List Int) (i:Nat):Bool:=!decide ((t.at i).kind=2) || decide ((t.at i).val=mem.getD (t.at i).loc.toNat 0)
def QF (t:A1) (i:Nat):Nat:=if (t.at i).kind=2/\Dl t i=true then i+1 else i
def Gn (t:A1) (mem:List Int) (i:Nat):List Int:=if (t.at i).kind=3 then mem.set (t.at i).loc.toNat (t.at i).val else mem
def Ez (t:A1) (u:Nat) (mem:List Int):Option (Nat×List Int):=if (t.at u).fin=true then none else ((EI t u).find? (ER t mem)).map fun i=>(QF t i,Gn t mem (QF t i))
inductive Yc (t:A1) (s:A8) (n:Nat) (s':A8):Prop
 | bar:(t.at n).kind=4->CL t s n 4 (-1)=some s'->Yc t s n s'
 | read (loc:Nat):(t.at n).kind=2->(t.at n).loc=loc->J1 t s n (C8 s loc)=some s'->Yc t s n s'
 | write (loc:Nat):(t.at n).kind=3->(t.at n).loc=loc->E0 t s n ((s.mo.getD loc []).length:Nat)=some s'->Yc t s n s'
theorem A66 {t:A1} (ht:A5 t) {s:A8} {mem:List Int} {k n:Nat} (W:WI t s mem k) (hn:n < t.nodes.length) (hno:(n:Int)∉s.has) (hup:(t.at n).up∈s.has) (fr:∀ b:Nat,(b:Int)∈s.has->At t n b=false)
  (hth:0<=(t.at n).thread) (hu:0<=(t.at n).up) (hv:(t.at n).kind=2->(t.at n).val=mem.getD (t.at n).loc.toNat 0) :
  ∃ s',Yc t s n s'/\WI t s' (Gn t mem n) (k+1)/\∀ x,x∈s'.has↔x=(n:Int)\/x∈s.has:=by
 rcases ht.kind hn hu with c | c | c
 .have hl:=ht.wloc hn (.inl c)
  obtain ⟨loc,e⟩:=eq_ofNat_of_zero_le hl.1
  have hv:=hv c
  rw [e] at hv
  obtain ⟨a,b⟩:=AdL ht W hn hno hup fr (loc:=loc) c e hv
  refine ⟨_,.read loc c e a,?_,fun x=>Bp⟩
  rw [Gn,if_neg (by omega)];exact b
 .have hl:=ht.wloc hn (.inr c)
  obtain ⟨loc,e⟩:=eq_ofNat_of_zero_le hl.1
  obtain ⟨s',a,b,d⟩:=AaX ht W hn hno hup fr (loc:=loc) c hth e
  refine ⟨s',.write loc c e a,?_,d⟩
  rw [Gn,if_pos c,e];exact b
 .refine ⟨_,.bar c (NO ht W hn hno hup c),?_,fun x=>Bp⟩
  rw [Gn,if_neg (by omega)];exact AgT ht W hn hno hup fr c
theorem Ady {t:A1} (ht:A5 t) {s:A8} {mem:List Int} {k:Nat} (W:WI t s mem k) {at_:List Nat} (S:StI t s at_) {j u to:Nat} {out:List Int} (hj:j < at_.length) (hju:at_[j]=u) (h:Ez t u mem=some (to,out)) :
  to < t.nodes.length/\∃ s1 s2 k1 k2,(if (t.at to).up≠(u:Int) then (∃ m:Nat,(t.at to).up=m/\m < t.nodes.length/\Yc t s m s1) else s1=s)/\WI t s1 mem k1/\Yc t s1 to s2/\WI t s2 out k2/\k < k2/\StI t s2 (at_.set j to):=by
 unfold Ez at h
 split at h
 .cases h
 .obtain ⟨i,hi,e⟩:=Option.map_eq_some_iff.1 h
  simp only [Prod.mk.injEq] at e
  obtain ⟨rfl,rfl⟩:=e
  have hc:=List.find?_some hi
  have hm:=List.mem_of_find?_eq_some hi
  unfold EI at hm
  split at hm
  .cases hm
  .rename_i q7
   simp only [List.mem_filter,List.mem_range,decide_eq_true_eq] at hm
   obtain ⟨h9,hg⟩:=hm
   have hh:u∈at_:=hju ▸ getElem_mem hj
   obtain ⟨q5,q8⟩:=S.has u hh
   have q6:=ht.up i h9
   have lo:∀ m,m < t.nodes.length->0<=(t.at m).up->t.locs.length<=m:=fun m hm hu=>by
    rcases Nat.lt_or_ge m t.locs.length with h1 | h1
    .have:=(ht.init m h1).up;omega
    .exact h1
   have hq:∀ m,m < t.nodes.length->0<=(t.at m).up->(t.at m).thread=(t.at (t.at m).up.toNat).thread:=fun m hm hu=>((ht.good m (lo m hm hu) hm).par hu).symm
   have he:(t.at i).thread=(t.at u).thread:=by rw [hq i h9 (by omega),hg,toNat_natCast]
   have h8:∀ m:Nat,(t.at m).thread=(t.at u).thread->u < m->(m:Int)∉s.has:=fun m e hm hc=>by have:=S.top u hh m hc e;omega
   have hv:(t.at i).kind=2->(t.at i).val=mem.getD (t.at i).loc.toNat 0:=fun c=>by
    simp only [ER,c,decide_true,Bool.not_true,Bool.false_or,decide_eq_true_eq] at hc
    exact hc
   have q0:∀ b:Nat,(b:Int)∈s.has->At t i b=false:=fun b hb=>by
    rw [eq_false_iff]
    intro hf
    have h1:=Ea ht hf
    have h2:=P4 ht (by omega) hf
    exact h8 b (by omega) (by omega) hb
   obtain ⟨s1,w1,W1,m1⟩:=A66 ht W h9 (h8 i he (by omega)) (by rw [hg];exact q5) q0 (by omega) (by omega) hv
   have fin:∀ {s2:A8} {v:Nat},(∀ x,x∈s2.has->x∈s.has\/x=(i:Int)\/x=(v:Int))->(∀ x,x∈s.has->x∈s2.has)->(v:Int)∈s2.has->i<=v->(t.at v).thread=(t.at u).thread->(v=i\/(v < t.nodes.length/\(t.at v).up=(i:Int)))->StI t s2 (at_.set j v):=by
    intro s2 v h1 h2 h3 h4 h5 h6
    have q3:∀ x:Nat,(x=u\/AB t x u=true)->AB t x i=true:=fun x h=>by
     rw [Jg ht.up h9 hg]
     rcases h with h | h
     .rw [h,decide_eq_true rfl,Bool.true_or]
     .rw [h,Bool.or_true]
    have q4:∀ x:Nat,AB t x i=true->x=v\/AB t x v=true:=fun x h=>by
     rcases h6 with h6 | ⟨h6,h7⟩
     .rw [h6];exact .inr h
     .rw [Jg ht.up h6 h7,h,Bool.or_true];exact .inr rfl
    refine ⟨fun x hx=>?_,fun x hx y hy e=>?_,?_,fun x hx y hy e=>?_,fun x hx h0=>?_⟩
    .rcases List.mem_or_eq_of_mem_set hx with hx | rfl
     .exact ⟨h2 _ (S.has x hx).1,(S.has x hx).2⟩
     .exact ⟨h3,by omega⟩
    .obtain ⟨p,hp,rfl⟩:=getElem_of_mem hx
     rw [length_set] at hp
     rw [getElem_set] at e ⊢
     by_cases c:j=p
     .rw [if_pos c] at e ⊢
      rcases h1 _ hy with a | a | a
      .have:=S.top u hh y a (by omega);omega
      .omega
      .omega
     .rw [if_neg c] at e ⊢
      have hd:(t.at at_[p]).thread≠(t.at u).thread:=by
       have:=List.pairwise_iff_getElem.1 S.pw
       rw [<- hju]
       rcases Nat.lt_or_ge j p with q | q
       .exact fun e=>this j p hj hp q e.symm
       .exact fun e=>this p j hp hj (by omega) e
      rcases h1 _ hy with a | a | a
      .exact S.top _ (getElem_mem hp) y a e
      .have:y=i:=by omega
       subst this;rw [he] at e;exact absurd e.symm hd
      .have:y=v:=by omega
       subst this;rw [h5] at e;exact absurd e.symm hd
    .rw [List.pairwise_iff_getElem]
     intro a b ha hb q2
     rw [length_set] at ha hb
     have ho:=List.pairwise_iff_getElem.1 S.pw a b ha hb q2
     rw [getElem_set,getElem_set]
     by_cases c1:j=a
     .subst c1
      rw [if_pos rfl,if_neg (by omega),h5,<- hju];exact ho
     .rw [if_neg c1]
      by_cases c2:j=b
      .subst c2
       rw [if_pos rfl,h5,<- hju];exact ho
      .rw [if_neg c2];exact ho
    .obtain ⟨p,hp,rfl⟩:=getElem_of_mem hx
     rw [length_set] at hp
     rw [getElem_set] at e ⊢
     by_cases c:j=p
     .rw [if_pos c] at e ⊢
      rcases h1 _ hy with a | a | a
      .exact q4 y (q3 y (S.chain u hh y a (by omega)))
      .have:y=i:=by omega
       subst this
       rcases h6 with h6 | ⟨h6,h7⟩
       .exact .inl h6.symm
       .rw [Jg ht.up h6 h7,decide_eq_true rfl,Bool.true_or];exact .inr rfl
      .exact .inl (by omega)
     .rw [if_neg c] at e ⊢
      have hd:(t.at at_[p]).thread≠(t.at u).thread:=by
       have:=List.pairwise_iff_getElem.1 S.pw
       rw [<- hju]
       rcases Nat.lt_or_ge j p with q | q
       .exact fun e=>this j p hj hp q e.symm
       .exact fun e=>this p j hp hj (by omega) e
      rcases h1 _ hy with a | a | a
      .exact S.chain _ (getElem_mem hp) y a e
      .have:y=i:=by omega
       subst this;rw [he] at e;exact absurd e.symm hd
      .have:y=v:=by omega
       subst this;rw [h5] at e;exact absurd e.symm hd
    .have hl:v∈at_.set j v:=List.mem_set hj v
     rcases h1 _ hx with a | a | a
     .obtain ⟨w,hw,hn⟩:=S.cov x a h0
      obtain ⟨p,hp,rfl⟩:=getElem_of_mem hw
      by_cases c:j=p
      .subst c
       rw [hju] at hn
       exact ⟨v,hl,by rw [h5];exact hn⟩
      .refine ⟨_,getElem_mem (show p < (at_.set j v).length by rw [length_set];exact hp),?_⟩
       rw [getElem_set,if_neg c];exact hn
     .have:x=i:=by omega
      subst this
      exact ⟨v,hl,by rw [h5,he]⟩
     .have:x=v:=by omega
      subst this
      exact ⟨x,hl,rfl⟩
   by_cases cr:(t.at i).kind=2/\Dl t i=true
   .have e:QF t i=i+1:=by rw [QF,if_pos cr]
    rw [e]
    have hr:=cr.2
    simp only [Dl,and_eq_true,decide_eq_true_eq] at hr
    obtain ⟨⟨r1,r2⟩,r3⟩:=hr
    have hz:(t.at (i+1)).thread=(t.at u).thread:=by rw [hq (i+1) r1 (by omega),r2,toNat_natCast,he]
    have k3:=ht.rmw3 r1 (by omega) r3
    have hk:((i+1:Nat):Int)∉s1.has:=fun hx=>by
     rcases (m1 _).1 hx with a | a
     .omega
     .exact h8 (i+1) hz (by omega) a
    have q1:∀ b:Nat,(b:Int)∈s1.has->At t (i+1:Nat) b=false:=fun b hb=>by
     rw [eq_false_iff]
     intro hf
     have h1:=Ea ht hf
     have h2:=P4 ht (by omega) hf
     rcases (m1 _).1 hb with a | a
     .omega
     .exact h8 b (by omega) (by omega) a
    obtain ⟨s2,w2,W2,m2⟩:=A66 ht W1 r1 hk (by rw [r2];exact (m1 _).2 (.inl rfl)) q1 (by omega) (by omega) (fun c=>by omega)
    have oe:Gn t mem i=mem:=by rw [Gn,if_neg (by omega)]
    rw [oe] at W2
    rw [oe] at W1
    refine ⟨r1,s1,s2,k+1,k+1+1,?_,W1,w2,W2,by omega,fin (fun x hx=>?_) (fun x hx=>(m2 _).2 (.inr ((m1 _).2 (.inr hx)))) ((m2 _).2 (.inl rfl)) (by omega) hz (.inr ⟨r1,r2⟩)⟩
    .rw [if_pos (by rw [r2];omega)];exact ⟨i,r2,h9,w1⟩
    .rcases (m2 _).1 hx with a | a
     .exact .inr (.inr a)
     .rcases (m1 _).1 a with a | a
      .exact .inr (.inl a)
      .exact .inl a
   .have e:QF t i=i:=by rw [QF,if_neg cr]
    rw [e]
    refine ⟨h9,s,s1,k,k+1,by rw [if_neg (by rw [hg];simp)],W,w1,W1,by omega,fin (fun x hx=>?_) (fun x hx=>(m1 _).2 (.inr hx)) ((m1 _).2 (.inl rfl)) (Nat.le_refl _) he (.inl rfl)⟩
    rcases (m1 _).1 hx with a | a
    .exact .inr (.inl a)
    .exact .inl a
theorem LJ {n:Nat} {p q:Nat->Nat->Bool} (h:∀ a b,a < n->b < n->p a b=q a b):Ax n p=Ax n q:=by
 unfold Ax
 apply List.map_congr_left
 intro a ha
 congr 1
 funext b
 cases c:decide (b < n) with
 | false=>rfl
 | true=>rw [h a b (List.mem_range.1 ha) (of_decide_eq_true c)]
theorem A5J {i j:Nat} (hj:j < 64):(Cl (i:Int)).getLsbD j=decide (i=j):=by
 rw [C3]
 exact decide_eq_decide.2 ⟨fun h=>by omega,fun h=>by omega⟩
theorem ZM {n:Nat} (hn:n<=64) (q:Nat->Nat->Bool) {a b:Nat} (ha:a < n) (hb:b < n):(Ax n q).set b ((Ax n q).getD b 0#64 ||| Cl (a:Int))=Ax n fun j i=>q j i || (decide (j=b) && decide (i=a)):=by
 apply List.ext_getElem
 .simp [AJ]
 .intro j h1 h2
  rw [length_set,AJ] at h1
  rw [getElem_set]
  have g:=Ce (n:=n) (p:=q) h1
  have g2:=Ce (n:=n) (p:=fun j i=>q j i || (decide (j=b) && decide (i=a))) h1
  rw [getElem?_eq_getElem (by rw [AJ];exact h1),Option.some.injEq] at g g2
  rw [g2]
  by_cases c:b=j
  .subst c
   rw [if_pos rfl,getD_eq_getElem?_getD,Ce h1,getD_some]
   apply B4
   intro i hi
   rw [getLsbD_or,Aw,Aw,A5J hi,decide_eq_true (show b=b from rfl),Bool.true_and]
   by_cases e:a=i
   .subst e;simp [ha,hi]
   .have e2:decide (i=a)=false:=decide_eq_false fun h=>e h.symm
    rw [decide_eq_false e,e2,Bool.or_false,Bool.or_false]
  .rw [if_neg c,g]
   congr 1
   funext i
   rw [decide_eq_false (show ¬ j=b from fun h=>c h.symm),Bool.false_and,Bool.or_false]
theorem KJ {n:Nat} (hn:n<=64) (p:Nat->Nat->Bool) (x:Int×Int):x∈Bc (Ax n p)↔∃ a b:Nat,a < n/\b < n/\x=((a:Int),(b:Int))/\p a b=true:=by
 rw [Bc,CM hn,if_pos rfl,AJ,List.mem_flatMap]
 constructor
 .rintro ⟨a,ha,h⟩
  have h0:=List.mem_range.1 ha
  obtain ⟨j,hj,rfl⟩:=List.mem_map.1 h
  obtain ⟨h1,h2⟩:=DF (Cb.1 hj)
  obtain ⟨b,rfl⟩:=eq_ofNat_of_zero_le h1
  have h3:=Cb.1 hj
  rw [Au,getD_eq_getElem?_getD,Ce h0,getD_some,Aw] at h3
  simp only [and_eq_true,decide_eq_true_eq] at h3
  exact ⟨a,b,h0,by omega,rfl,by simp_all⟩
 .rintro ⟨a,b,ha,hb,rfl,h⟩
  refine ⟨a,List.mem_range.2 ha,List.mem_map.2 ⟨b,Cb.2 ?_,rfl⟩⟩
  rw [LL hn ha hb];exact h
def bkP (P:List (Int×Int)) (k:Nat) (j i:Nat):Bool:=(P.take k).any fun x=>decide (x=((i:Int),(j:Int)))
theorem A8g {P:List (Int×Int)} {k a b:Nat} (hk:k < P.length) (e:P[k]=((a:Int),(b:Int))):(fun j i=>bkP P k j i || (decide (j=b) && decide (i=a)))=bkP P (k+1):=by
 funext j i
 unfold bkP
 rw [List.take_succ_eq_append_getElem hk,List.any_append,e]
 congr 1
 simp only [List.any_cons,List.any_nil,Bool.or_false]
 rw [<- Bool.decide_and]
 refine decide_eq_decide.2 ⟨fun ⟨h1,h2⟩=>by rw [h1,h2],fun h=>?_⟩
 simp only [Prod.mk.injEq] at h
 omega
theorem AbI {n:Nat} (hn:n<=64) (p:Nat->Nat->Bool):Ax n (bkP (Bc (Ax n p)) (Bc (Ax n p)).length)=Ax n fun a b=>p b a:=by
 refine LJ fun j i hj hi=>?_
 unfold bkP
 rw [List.take_length,Bool.eq_iff_iff,List.any_eq_true]
 constructor
 .rintro ⟨x,hx,h⟩
  obtain ⟨a,b,_,_,rfl,hp⟩:=(KJ hn p x).1 hx
  have h:=of_decide_eq_true h
  simp only [Prod.mk.injEq] at h
  have e1:a=i:=by omega
  have e2:b=j:=by omega
  rw [<- e1,<- e2];exact hp
 .intro h
  exact ⟨_,(KJ hn p _).2 ⟨i,j,hi,hj,rfl,h⟩,decide_eq_true rfl⟩
section
variable {V:Ae} (C:Ai V)
include C
theorem A2X {n:Nat} (hn:n<=64) (p:Nat->Nat->Bool) {Q:Ex->A2->VH->Prop} (hq:∀ F,A2.tmp F 2 = .sl 0 0 0 n->Q .ret F [some ⟨C1,1,0,false,(Ax n fun a b=>p b a).map eW⟩]) :
  Vc V Pz Pe.body (Tm.ofList [lW (Ax n p)]) [] Q:=by
 obtain ⟨R,hR⟩:∃ R,R=Ax n p:=⟨_,rfl⟩
 have h2:=AbI hn p
 have h3:=fun x=>KJ hn p x
 have h1:=CM hn p
 have h0:=AJ (n:=n) (p:=p)
 rw [<- hR] at h2 h3 h1 h0 ⊢
 have h9:(Bc R).length<=5000:=by
  have:=Mp R R.length
  rw [Bc,if_pos h1]
  rw [h0] at this ⊢;omega
 have b1:n * 8<=A9:=by unfold A9;omega
 simp only [Pe,go_sem,↓reduceIte,Cd C,h1,h0,b1,N0 C,Int.le_refl]
 refine Ac (by decide) (Bc R).length (by omega) (I:=fun k F h=>A2.tmp F 3 = .sl 0 0 0 n/\A2.tmp F 13=lP (Bc R)/\h=[some ⟨C1,1,0,false,(Ax n (bkP (Bc R) k)).map eW⟩]) ?_ ?_ 0 _ _ (by omega) ?_ ?_ ?_
 .rintro k F h hk h8 h7 ⟨p3,h6,rfl⟩
  obtain ⟨a,b,ha,hb,e,_⟩:=(h3 _).1 (getElem_mem hk)
  have BW:(Bc R)[k]? = some ((a:Int),(b:Int)):=by rw [getElem?_eq_getElem hk,e]
  have gW:=Dq (a:=Ax n (bkP (Bc R) k)) (i:=b) (by rw [AJ];exact hb)
  have h4:=ZM hn (bkP (Bc R) k) ha hb
  rw [A8g hk e] at h4
  have h5:∀ w,((Ax n (bkP (Bc R) k)).map eW).set b [vW w]=((Ax n (bkP (Bc R) k)).set b w).map eW:=fun w=>by rw [List.map_set]
  simp only [go_sem,↓reduceIte,h8,h7,p3,h6,BW,hk,hb,gW,BM C,h5,h4,AJ,List.length_map,A0]
 .rintro F h ⟨p3,h6,rfl⟩
  rw [h2]
  simp only [go_sem,↓reduceIte,p3]
  exact hq _ (by simp only [go_sem,↓reduceIte,p3])
 .simp only [go_sem,↓reduceIte]
 .simp only [go_sem,↓reduceIte]
 .simp only [go_sem,↓reduceIte]
  rw [<- Mu]
  rfl
theorem A2Y {n:Nat} (hn:n<=64) (p:Nat->Nat->Bool) {Q:VV->Prop}:VP V VQ [lW (Ax n p)] Q↔Q (lW (Ax n fun a b=>p b a)):=by
 refine Ad ?_
 rw [Ab C.c_z117.1 C.c_z117.2]
 refine A2X C hn p fun F h=>?_
 simp only [Pe,go_sem,↓reduceIte,h,AJ,List.length_map,List.take_of_length_le (Nat.le_of_eq (AJ (n:=n) (p:=fun a b=>p b a)))]
end
def Aee (n:Nat) (p:Nat->Nat->Bool) (a b:Nat):Bool:=((Cs (Ax n p)).getD a 0#64).getLsbD b || decide (a=b)
theorem RY {n:Nat} (hn:n<=64) (p:Nat->Nat->Bool):Cs (Ax n p)=Ax n fun a b=>((Cs (Ax n p)).getD a 0#64).getLsbD b:=by
 have hl:=Es hn p
 apply List.ext_getElem
 .rw [hl,AJ]
 .intro a h1 h2
  rw [hl] at h1
  have g:=Ce (n:=n) (p:=fun a b=>((Cs (Ax n p)).getD a 0#64).getLsbD b) h1
  rw [getElem?_eq_getElem h2,Option.some.injEq] at g
  rw [g]
  apply B4
  intro b hb
  rw [Aw,getD_eq_getElem?_getD,getElem?_eq_getElem (by omega),getD_some]
  by_cases c:b < n
  .simp [c,hb]
  .rw [decide_eq_false c,Bool.false_and,Bool.false_and]
   rw [eq_false_iff]
   intro hc
   have:=(Ds hn p (a:=a) (b:=b) h1).1 (by rw [getD_eq_getElem?_getD,getElem?_eq_getElem (by omega)];exact hc)
   exact c this.lt
def cfM (t:A1):Rows:=Ax t.nodes.length fun a b=>Bm t a b
def poM (t:A1):Rows:=Ax t.nodes.length fun a b=>At t a b
def AmX (t:A1) (s:A8) (w:Nat):List Int:=(s.mo.getD (t.at w).loc.toNat []).getD (B5 s (t.at w).loc w).toNat []
def Ant (t:A1) (s:A8) (w e:Nat):Bool:=(AmX t s w).any fun c=>decide (c=(e:Int)) || BG ((poM t).getD c.toNat 0#64) e || BG ((poM t).getD e 0#64) c
def AnI (t:A1) (s:A8) (r e:Nat):Bool :=
 let w:=JY s r
 if w < 0\/(t.at w.toNat).thread < 0\/(t.at w.toNat).thread=(t.at r).thread then false else BG ((cfM t).getD w.toNat 0#64) e && !Ant t s w.toNat e
def AoE (t:A1) (s:A8) (H:Rows) (e:Nat):Bool:=(AF (H.getD e 0#64)).all fun r=>!AnI t s r.toNat e
def N3 (t:A1) (s:A8) (k a b:Nat):Bool:=(BG (BA s.has) a && BG (BA s.has) b && At t a b) || (List.range k).any fun i=>decide (s.jf.getD i 0=(a:Int)) && decide (s.has.getD i 0=(b:Int))
def hbQ (t:A1) (s:A8) (a b:Nat):Bool:=((J9 t s.has s.jf).getD a 0#64).getLsbD b
def dnB (t:A1) (s:A8) (e a:Nat):Bool:=hbQ t s a e || decide (e=a)
def hgB (t:A1) (s:A8):Nat->Nat->Bool:=Aee t.nodes.length fun a b=>N3 t s s.has.length b a
def Akd (t:A1) (s:A8) (e:Nat):Bool:=AoE t s (Ax t.nodes.length (hgB t s)) e
theorem Pq {t:A1} (ht:A5 t) {s:A8} (hf:AX t s) {n:Nat} (hn:n < t.nodes.length) (hu:(t.at n).up < 0):(n:Int)∈s.has:=by
 have h0:=ht.n64
 have hb:(DP t).getLsbD n=true:=by rw [DP,Aw];simp [hn,hu];omega
 have:(BA s.has).getLsbD n=true:=by rw [<- hf.init,getLsbD_or,hb];rfl
 have h2:=EW s.has (x:=(n:Int)) (by omega) (by omega)
 rw [Au,this] at h2
 exact A7.1 h2.symm
theorem HH {t:A1} (ht:A5 t) {s:A8} (hf:AX t s) {loc:Nat} (hl:loc < s.mo.length) {c:List Int} (hc:c∈s.mo.getD loc []) {x:Int} (hx:x∈c):x∈s.has:=by
 have hm:=hf.mo loc hl
 simp only [CX,and_eq_true,Ag,or_eq_true,decide_eq_true_eq] at hm
 obtain ⟨⟨_,h0⟩,h1⟩:=hm
 obtain ⟨i,hi,rfl⟩:=getElem_of_mem hc
 have hd:(s.mo.getD loc [])[i]=(s.mo.getD loc []).getD i []:=by rw [getD_eq_getElem?_getD (l:=s.mo.getD loc []),getElem?_eq_getElem hi];rfl
 rw [hd] at hx
 rcases h1 i hi with e | e
 .rw [e,h0] at hx
  rw [List.mem_singleton.1 hx]
  have:=hf.ml
  have:=ht.first.1
  exact Pq ht hf (by omega) (by rw [(ht.init loc (by omega)).up];decide)
 .simp only [BR,and_eq_true,Ag,B3,A7] at e
  obtain ⟨j,hj,rfl⟩:=getElem_of_mem hx
  have:=(e.2 j hj).1.1.1.1
  rw [getD_eq_getElem?_getD,getElem?_eq_getElem hj] at this
  exact this
theorem A6M {t:A1} {s:A8} (h:AX t s) {n:Int} (hn:BF t n=true) (hno:n∉s.has) (hup:(t.at n.toNat).up∈s.has) (hk:(t.at n.toNat).kind=3) (ht:0<=(t.at n.toNat).thread) {loc k:Nat} (hl:(t.at n.toNat).loc=loc) (hll:loc < s.mo.length) (k1:1<=k) (k2:k<=(s.mo.getD loc []).length)
  (hin:∀ c∈s.mo.getD loc [],∀ x∈c,x∈s.has):AX t { C2 s n (-1) with mo:=s.mo.set loc ((s.mo.getD loc []).take k++[n]::(s.mo.getD loc []).drop k) }:=by
 have sub:∀ x,x∈s.has->x∈B9 s.has (Bn s.has n) n:=fun x hx=>Bp.2 (.inr hx)
 obtain ⟨L,hL⟩:∃ L,L=s.mo.getD loc []:=⟨_,rfl⟩
 have hm:=h.mo loc hll
 rw [<- hL] at k2 hin ⊢
 have h0:(s.mo.set loc (L.take k++[n]::L.drop k)).getD loc []=L.take k++[n]::L.drop k:=by rw [getD_eq_getElem?_getD (l:=s.mo.set _ _),getElem?_set,if_pos rfl,if_pos hll];rfl
 have h2:∀ j,j≠loc->(s.mo.set loc (L.take k++[n]::L.drop k)).getD j []=s.mo.getD j []:=fun j hj=>by rw [getD_eq_getElem?_getD (l:=s.mo.set _ _),getElem?_set,if_neg (Ne.symm hj),<- getD_eq_getElem?_getD]
 have h3:BR t [n] (B9 s.has (Bn s.has n) n) loc=true:=by
  simp only [BR,and_eq_true,Ag,B3,A7,List.length_singleton]
  refine ⟨rfl,fun i hi=>?_⟩
  obtain rfl:i=0:=by omega
  refine ⟨⟨⟨⟨Bp.2 (.inl rfl),rfl⟩,?_⟩,decide_eq_true ht⟩,fun k hk=>by omega⟩
  simp [EV,hk,hl]
 have h1:∀ p:List Int->Bool,((L.take k++[n]::L.drop k).filter p).length=(L.filter p).length+(if p [n]=true then 1 else 0):=fun p=>by
  have e:L.filter p=(L.take k).filter p++(L.drop k).filter p:=by rw [<- List.filter_append,List.take_append_drop]
  rw [e,List.filter_append,filter_cons,length_append,length_append]
  split
  .rw [length_cons];omega
  .omega
 have BW:∀ i,i≠k->(L.take k++[n]::L.drop k).getD i []=L.getD (if i < k then i else i - 1) []:=fun i hi=>by
  have e:=Gg (y:=[n]) (d:=([]:List Int)) L k (if i < k then i else i - 1) k2
  by_cases c:i < k
  .rw [if_pos c] at e ⊢
   rwa [if_pos c] at e
  .rw [if_neg c] at e ⊢
   rwa [if_neg (show ¬ i - 1 < k by omega),show i - 1+1=i by omega] at e
 have h4:(L.take k++[n]::L.drop k).getD k []=[n]:=by
  rw [getD_eq_getElem?_getD,List.getElem?_append_right (by rw [length_take];omega),length_take,Nat.min_eq_left k2];simp
 refine Mb h hn hno hup (by simp [XX,hk]) (by rw [length_set]) ?_ ?_ ?_
 .intro j hj
  by_cases c:j=loc
  .subst c
   simp only [CX,h0,<- hL,and_eq_true,Ag,or_eq_true,not_eq_true',decide_eq_true_eq,decide_eq_false_iff_not] at hm ⊢
   obtain ⟨⟨m1,m2⟩,m3⟩:=hm
   refine ⟨⟨by simp,?_⟩,fun i hi=>?_⟩
   .rw [BW 0 (by omega),if_pos (by omega)];exact m2
   .by_cases ci:i=k
    .rw [ci,h4];exact .inr h3
    .rw [BW i ci]
     have h5:i < L.length+1:=by
      rw [length_append,length_cons,length_take,List.length_drop] at hi
      omega
     by_cases c:i < k
     .rw [if_pos c]
      rcases m3 i (by omega) with c | c
      .exact .inl c
      .exact .inr (DC sub c)
     .rw [if_neg c]
      rcases m3 (i - 1) (by omega) with d | d
      .omega
      .exact .inr (DC sub d)
  .have hm:=h.mo j hj
   simp only [CX,h2 j c,and_eq_true,Ag,or_eq_true] at hm ⊢
   refine ⟨hm.1,fun i hi=>?_⟩
   rcases hm.2 i hi with d | d
   .exact .inl d
   .exact .inr (DC sub d)
 .intro x hx kx
  by_cases c:(t.at x.toNat).loc.toNat=loc
  .rw [c,h0,h1,<- hL]
   have:AZ [n] x=false:=Bool.eq_false_iff.2 fun d=>hno (by rw [<- List.mem_singleton.1 (A7.1 d)];exact hx)
   rw [this];simp
  .rw [h2 _ c]
 .intro _
  rw [hl,toNat_natCast,h0,h1]
  have e:L.filter (fun c=>AZ c n)=[]:=by
   rw [List.filter_eq_nil_iff]
   intro c hc d
   exact hno (hin c hc n (A7.1 d))
  rw [e]
  simp [AZ]
structure Nxt (t:A1) (s s':A8) (n:Nat):Prop where
 has:∀ x,x∈s'.has↔x=(n:Int)\/x∈s.has
 no:(n:Int)∉s.has
 nl:n < t.nodes.length
 up:(t.at n).up∈s.has
 ext:Ext t s s'
 form:AX t s'
 src:(t.at n).kind=2->Cc s'.has s'.jf n∈s.has
 cls:∀ loc,∀ c∈s.mo.getD loc [],∃ c'∈s'.mo.getD loc [],∀ x∈c,x∈c'
theorem DA {t:A1} {s s':A8} {n kind w:Int} (e:CL t s n kind w=some s'):∃ m:Nat,n=m/\m < t.nodes.length/\(t.at m).kind=kind/\(m:Int)∉s.has/\(t.at m).up∈s.has/\s' = C2 s m w:=by
 unfold CL at e
 split at e
 .rename_i h0
  cases e
  simp only [Cz,and_eq_true,not_eq_true',decide_eq_true_eq] at h0
  obtain ⟨⟨⟨⟨_,h1⟩,h2⟩,h3⟩,h4⟩:=h0
  obtain ⟨m,rfl,hm⟩:=Aa h1
  rw [toNat_natCast] at h2 h4
  exact ⟨m,rfl,hm,h2,(fun c=>by rw [A7.2 c] at h3;exact absurd h3 (by decide)),A7.1 h4,rfl⟩
 .cases e
theorem AbF {t:A1} {s s':A8} (hf:AX t s) {n:Int} (e:CL t s n 4 (-1)=some s'):∃ m,Nxt t s s' m:=by
 obtain ⟨m,rfl,hm,hk,h0,h1,rfl⟩:=DA e
 have h2:AX t (C2 s m (-1)):=Mc hf (BT hm) h0 (by rw [toNat_natCast];exact h1) (by simp [XX,hk]) (by rw [toNat_natCast];omega)
 exact ⟨m,fun x=>Bp,h0,hm,h1,(Gk e).1,h2,fun c=>by omega,fun loc c hc=>⟨c,hc,fun _ h=>h⟩⟩
theorem Aak {t:A1} {s s':A8} (hf:AX t s) {n w:Int} (e:J1 t s n w=some s'):∃ m,Nxt t s s' m:=by
 have he:=(Aaj e).1
 unfold J1 at e
 split at e
 .rename_i x hx
  split at e
  .rename_i h0
   cases e
   obtain ⟨m,rfl,hm,hk,h3,h4,rfl⟩:=DA hx
   have h2:=Be.1 h0
   refine ⟨m,fun x=>Bp,h3,hm,h4,he,h2,fun _=>?_,fun loc c hc=>⟨c,hc,fun _ h=>h⟩⟩
   have h1:=Bz (BC h0)
   obtain ⟨a,b,_⟩:=h1.read m (Bp.2 (.inl rfl)) (by rw [toNat_natCast];exact hk)
   rcases Bp.1 a with h | h
   .rw [h,toNat_natCast] at b;omega
   .exact h
  .cases e
 .cases e
theorem A7D {t:A1} (ht:A5 t) {s s':A8} (hf:AX t s) {n w:Int} (e:E0 t s n w=some s'):∃ m,Nxt t s s' m:=by
 have he:=(Sr e).1
 unfold E0 at e
 split at e
 .rename_i x hx
  split at e
  .cases e
  .rename_i hw
   cases e
   obtain ⟨m,rfl,hm,hk,h3,h2,rfl⟩:=DA hx
   have hl:=ht.wloc hm (.inr hk)
   obtain ⟨loc,h0⟩:=eq_ofNat_of_zero_le hl.1
   have h7:=hf.ml
   have h6:0<=(t.at m).thread:=by
    rcases Int.lt_or_le (t.at m).thread 0 with c | c
    .have h1:=(ht.thr_iff hm).1 c
     have:=(ht.init m h1).up
     have:=hf.node _ h2
     simp only [BF,and_eq_true,decide_eq_true_eq] at this
     omega
    .exact c
   simp only [toNat_natCast,h0] at he hw ⊢
   have hw:¬ (w < 1\/((s.mo.getD loc []).length:Int) < w):=hw
   have h5:∀ c∈s.mo.getD loc [],∀ x∈c,x∈s.has:=fun c hc x hx=>HH ht hf (by omega) hc hx
   have h4:=A6M hf (n:=(m:Int)) (BT hm) h3 (by rw [toNat_natCast];exact h2) (by rw [toNat_natCast];exact hk) (by rw [toNat_natCast];exact h6) (loc:=loc) (k:=w.toNat) (by rw [toNat_natCast];exact h0) (by omega) (by omega) (by omega) h5
   refine ⟨m,fun x=>Bp,h3,hm,h2,he,h4,fun c=>by omega,fun l c hc=>⟨c,?_,fun _ h=>h⟩⟩
   show c∈(s.mo.set loc _).getD l []
   by_cases cl:l=loc
   .subst cl
    rw [getD_eq_getElem?_getD (l:=s.mo.set _ _),getElem?_set,if_pos rfl,if_pos (by omega)]
    have:c∈(s.mo.getD l []).take w.toNat++(s.mo.getD l []).drop w.toNat:=by rw [List.take_append_drop];exact hc
    rw [mem_append] at this
    simp only [getD_some,mem_append,List.mem_cons]
    rcases this with h | h
    .exact .inl h
    .exact .inr (.inr h)
   .rw [getD_eq_getElem?_getD (l:=s.mo.set _ _),getElem?_set,if_neg (Ne.symm cl),<- getD_eq_getElem?_getD];exact hc
 .cases e
theorem A7Z {t:A1} (ht:A5 t) {s:A8} (hf:AX t s) {a:Nat}:∀ (N b:Nat),b < N->(b:Int)∈s.has->AB t a b=true->(a:Int)∈s.has
 | 0,b,h,_,_=>by omega
 | N+1,b,hN,hb,h=>by
  obtain ⟨b',e,hbn⟩:=Aa (hf.node _ hb)
  have e:b=b':=by omega
  subst e
  have h1:=ht.up b hbn
  rcases Int.lt_or_le (t.at b).up 0 with c | c
  .unfold AB at h
   rw [Em ht.up a (by omega),if_pos c] at h
   cases h
  .obtain ⟨m,hm⟩:=eq_ofNat_of_zero_le c
   have hu:=hf.up _ hb
   rw [toNat_natCast] at hu
   have h0:(m:Int)∈s.has:=by
    rcases hu with hu | hu
    .omega
    .rw [<- hm];exact hu
   rw [Jg ht.up hbn hm,or_eq_true,decide_eq_true_eq] at h
   rcases h with h | h
   .rw [<- h];exact h0
   .exact A7Z ht hf N m (by omega) h0 h
theorem Age {t:A1} (ht:A5 t) {s s':A8} (hf:AX t s) {n:Nat} (X:Nxt t s s' n) (b:Nat) (hb:(b:Int)∈s.has):At t n b=false:=by
 rw [eq_false_iff]
 intro h
 have h2:=hf.node _ X.up
 simp only [BF,and_eq_true,decide_eq_true_eq] at h2
 have h0:¬ (t.at n).thread < 0:=fun c=>by
  have h1:=(ht.thr_iff X.nl).1 c
  have:=(ht.init n h1).up
  omega
 simp only [At,and_eq_true,toNat_natCast] at h
 rw [if_neg h0] at h
 exact X.no (A7Z ht hf _ b (Nat.lt_succ_self _) hb h.2)
theorem ZZ {t:A1} (ht:A5 t) {s:A8} (hf:AX t s) {a b:Nat}:N3 t s s.has.length b a=true↔(a:Int)∈s.has/\(((b:Int)∈s.has/\At t b a=true)\/Cc s.has s.jf a=b):=by
 have h0:=ht.n64
 have hF:=Bz (BC (Be.2 hf))
 have hn:BX t s.has:=hf.node
 have hh:=fun (x:Nat)=>hn.has h0 (x:Int)
 simp only [N3,hh,or_eq_true,and_eq_true,List.any_eq_true,List.mem_range,decide_eq_true_eq,A7]
 constructor
 .rintro (⟨⟨h1,h2⟩,h3⟩ | ⟨i,hi,h1,h2⟩)
  .exact ⟨h2,.inl ⟨h1,h3⟩⟩
  .have hm:=Af (d:=0) hi
   have:=hF.at_ i hi
   rw [h2,h1] at this
   rw [h2] at hm
   exact ⟨hm,.inr this⟩
 .rintro ⟨h1,⟨h2,h3⟩ | h2⟩
  .exact .inl ⟨⟨h2,h1⟩,h3⟩
  .obtain ⟨i,hi,e⟩:=getElem_of_mem h1
   have hg:s.has.getD i 0=(a:Int):=by rw [getD_eq_getElem?_getD,getElem?_eq_getElem hi];exact e
   have:=hF.at_ i hi
   rw [hg,h2] at this
   exact .inr ⟨i,hi,this.symm,hg⟩
structure Lst (t:A1) (s s':A8):Prop where
 has:∀ x,x∈s.has->x∈s'.has
 on:∀ x,x∈s.has->Cc s'.has s'.jf x=Cc s.has s.jf x
 dn:∀ e a:Nat,(e:Int)∈s.has->a < t.nodes.length->dnB t s' e a=dnB t s e a
 vis:∀ e:Nat,(e:Int)∈s.has->Akd t s e=true->Akd t s' e=true
theorem Lst.refl (t:A1) (s:A8):Lst t s s:=⟨fun _ h=>h,fun _ _=>rfl,fun _ _ _ _=>rfl,fun _ _ h=>h⟩
theorem Lst.trans {t:A1} {a b c:A8} (h:Lst t a b) (k:Lst t b c):Lst t a c :=
 ⟨fun x hx=>k.has x (h.has x hx),fun x hx=>(k.on x (h.has x hx)).trans (h.on x hx),fun e x he hx=>(k.dn e x (h.has _ he) hx).trans (h.dn e x he hx),fun e he hv=>k.vis e (h.has _ he) (h.vis e he hv)⟩
def A9c (S:BitVec 64):Nat:=((List.range 64).filter fun j=>!S.getLsbD j).length
theorem A3V {α:Type} {p q:α->Bool} (h:∀ y,p y=true->q y=true):∀ l:List α,(l.filter p).length<=(l.filter q).length
 | []=>Nat.le_refl _
 | y::l=>by
  have ih:=A3V h l
  rw [filter_cons,filter_cons]
  cases c:p y with
  | true=>rw [if_pos rfl,if_pos (h y c),length_cons,length_cons];omega
  | false =>
   rw [if_neg (by decide)]
   split
   .rw [length_cons];omega
   .exact ih
theorem A3W {α:Type} {p q:α->Bool} (h:∀ y,p y=true->q y=true) {x:α} (hq:q x=true) (hp:p x=false):∀ {l:List α},x∈l->(l.filter p).length < (l.filter q).length
 | y::l,hx=>by
  rw [filter_cons,filter_cons]
  rcases List.mem_cons.1 hx with rfl | hx
  .have:=A3V h l
   rw [hp,hq,if_neg (by decide),if_pos rfl,length_cons];omega
  .have ih:=A3W h hq hp hx
   cases c:p y with
   | true=>rw [if_pos rfl,if_pos (h y c),length_cons,length_cons];omega
   | false =>
    rw [if_neg (by decide)]
    split
    .rw [length_cons];omega
    .exact ih
theorem A9d {S:BitVec 64} {n:Nat} (hn:n < 64) (h:S.getLsbD n=false):A9c (S ||| Cl (n:Int)) < A9c S:=by
 refine A3W (x:=n) (fun y hy=>?_) (by rw [h];rfl) ?_ (List.mem_range.2 hn)
 .rw [getLsbD_or,not_eq_true',Bool.or_eq_false_iff] at hy
  rw [hy.1];rfl
 .rw [getLsbD_or,A5J hn,decide_eq_true rfl,Bool.or_true];rfl
def QB (t:A1) (s:A8) (n:Nat):List Int:=(if 0<=JY s n then [JY s n] else [])++(if 0<=(t.at n).up then [(t.at n).up] else [])++(if 0<=(t.at n).thread then (List.range t.locs.length).map fun (k:Nat)=>(k:Int) else [])
theorem Aay (t:A1) (ht:A5 t) (s:A8) (n:Nat):(QB t s n).length<=6:=by
 have:=ht.l4
 unfold QB
 split<;>split<;>split<;>simp<;>omega
theorem A9j {t:A1} (ht:A5 t) {s:A8} {e r:Nat} (he:e < t.nodes.length):hgB t s e r=true↔Gz (fun a b=>N3 t s s.has.length b a) t.nodes.length e r\/e=r:=by
 rw [hgB,Aee,or_eq_true,decide_eq_true_eq,Ds ht.n64 _ he]
section
variable {t:A1} (ht:A5 t) {s:A8} (hf:AX t s)
include ht hf
theorem Aaz {n:Nat} (hn:(n:Int)∈s.has) {r:Int} (h:r∈QB t s n):∃ m:Nat,r=m/\m < t.nodes.length/\(m:Int)∈s.has/\N3 t s s.has.length m n=true:=by
 have hF:=Bz (BC (Be.2 hf))
 obtain ⟨n',e,h2⟩:=Aa (hf.node _ hn)
 have e:n=n':=by omega
 subst e
 have fin:∀ m:Nat,(m:Int)∈s.has->(At t m n=true\/Cc s.has s.jf n=(m:Int))->∃ k:Nat,(m:Int)=k/\k < t.nodes.length/\(k:Int)∈s.has/\N3 t s s.has.length k n=true:=fun m hm h=>by
  obtain ⟨m',e,h3⟩:=Aa (hf.node _ hm)
  have e:m=m':=by omega
  subst e
  refine ⟨m,rfl,h3,hm,(ZZ ht hf).2 ⟨hn,?_⟩⟩
  rcases h with h | h
  .exact .inl ⟨hm,h⟩
  .exact .inr h
 simp only [QB,mem_append] at h
 rcases h with (h | h) | h
 .split at h
  .rename_i c
   rw [List.mem_singleton] at h
   subst h
   have hk:(t.at n).kind=2:=by
    apply Classical.byContradiction
    intro hk
    have:=hF.none n hn (by rw [toNat_natCast];exact hk)
    rw [HZ hF.len] at c
    omega
   obtain ⟨q1,_,_⟩:=hF.read n hn (by rw [toNat_natCast];exact hk)
   obtain ⟨w,hw,_⟩:=Aa (hf.node _ q1)
   rw [HZ hF.len,hw]
   rw [hw] at q1
   exact fin w q1 (.inr hw)
  .cases h
 .split at h
  .rename_i c
   rw [List.mem_singleton] at h
   subst h
   have hu:=hf.up _ hn
   rw [toNat_natCast] at hu
   obtain ⟨u,h0⟩:=eq_ofNat_of_zero_le c
   rw [h0]
   have h4:(u:Int)∈s.has:=by
    rcases hu with h | h
    .omega
    .rw [<- h0];exact h
   have:=Rx ht h2 c
   rw [h0] at this
   exact fin u h4 (.inl this)
  .cases h
 .split at h
  .rename_i c
   obtain ⟨k,hk,rfl⟩:=List.mem_map.1 h
   have hk:=List.mem_range.1 hk
   have I:=ht.init k hk
   have h1:k < t.nodes.length:=by have:=ht.first.1;omega
   refine fin k (Pq ht hf h1 (by rw [I.up];decide)) (.inl ?_)
   simp only [At,BT h1,BT h2,toNat_natCast,I.thr,Bool.true_and]
   rw [if_pos (by decide)]
   exact decide_eq_true c
  .cases h
theorem A36 {S:Nat->Prop} (hS:∀ n:Nat,S n->(n:Int)∈s.has->∀ r:Nat,(r:Int)∈QB t s n->S r) {e r:Nat} (he:(e:Int)∈s.has) (h0:S e) (h:hgB t s e r=true):S r/\(r:Int)∈s.has:=by
 have hF:=Bz (BC (Be.2 hf))
 obtain ⟨e',e1,h7⟩:=Aa (hf.node _ he)
 have e1:e=e':=by omega
 subst e1
 have up:∀ (N b:Nat),b < N->(b:Int)∈s.has->S b->∀ a:Nat,AB t a b=true->S a/\(a:Int)∈s.has:=by
  intro N
  induction N with
  | zero=>intro b h;omega
  | succ N ih =>
   intro b hN hb h9 a h
   obtain ⟨b',e,h6⟩:=Aa (hf.node _ hb)
   have e:b=b':=by omega
   subst e
   have hh:=ht.up b h6
   rcases Int.lt_or_le (t.at b).up 0 with c | c
   .unfold AB at h
    rw [Em ht.up a (by omega),if_pos c] at h
    cases h
   .obtain ⟨m,hm⟩:=eq_ofNat_of_zero_le c
    have hu:=hf.up _ hb
    rw [toNat_natCast] at hu
    have h8:(m:Int)∈s.has:=by
     rcases hu with hu | hu
     .omega
     .rw [<- hm];exact hu
    have h4:S m:=hS b h9 hb m (by
     simp only [QB,mem_append]
     left;right
     rw [if_pos c,hm];simp)
    rw [Jg ht.up h6 hm,or_eq_true,decide_eq_true_eq] at h
    rcases h with h | h
    .rw [<- h];exact ⟨h4,h8⟩
    .exact ih m (by omega) h8 h4 a h
 have one:∀ {a b:Nat},S a->(a:Int)∈s.has->a < t.nodes.length->N3 t s s.has.length b a=true->S b/\(b:Int)∈s.has:=fun {a b} ha hi hal h=>by
  obtain ⟨_,⟨h1,h2⟩ | h⟩:=(ZZ ht hf).1 h
  .refine ⟨?_,h1⟩
   have h5:=h2
   simp only [At,and_eq_true,toNat_natCast] at h5
   obtain ⟨⟨n1,n2⟩,h3⟩:=h5
   simp only [BF,and_eq_true,decide_eq_true_eq] at n1 n2
   by_cases c:(t.at b).thread < 0
   .rw [if_pos c,decide_eq_true_eq] at h3
    have hd:=(ht.thr_iff (m:=b) (by omega)).1 c
    refine hS a ha hi b ?_
    simp only [QB,mem_append]
    right
    rw [if_pos h3]
    exact List.mem_map.2 ⟨b,List.mem_range.2 hd,rfl⟩
   .rw [if_neg c] at h3
    exact (up _ a (Nat.lt_succ_self _) hi ha b h3).1
  .have hk:(t.at a).kind=2:=by
    apply Classical.byContradiction
    intro hk
    have:=hF.none a hi (by rw [toNat_natCast];exact hk)
    omega
   obtain ⟨q1,_,_⟩:=hF.read a hi (by rw [toNat_natCast];exact hk)
   rw [h] at q1
   refine ⟨hS a ha hi b ?_,q1⟩
   simp only [QB,mem_append]
   left;left
   rw [HZ hF.len,h,if_pos (by omega)];simp
 rw [A9j ht h7] at h
 rcases h with h | h
 .have hg:∀ {r:Nat},Gz (fun a b=>N3 t s s.has.length b a) t.nodes.length e r->S r/\(r:Int)∈s.has/\r < t.nodes.length:=by
   intro r h
   induction h with
   | one hb h=>obtain ⟨a,b⟩:=one h0 he h7 h;exact ⟨a,b,hb⟩
   | more _ hc h ih=>obtain ⟨a,b⟩:=one ih.1 ih.2.1 ih.2.2 h;exact ⟨a,b,hc⟩
  have:=hg h
  exact ⟨this.1,this.2.1⟩
 .rw [<- h];exact ⟨h0,he⟩
end
end Go.AM
