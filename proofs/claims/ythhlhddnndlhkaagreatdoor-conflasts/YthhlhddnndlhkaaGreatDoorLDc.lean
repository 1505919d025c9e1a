/-
  Own work, part of the proof of these laws: plain laws.
-/
import Derived.Test.YthhlhddnndlhkaaGreatDoorLCc
set_option maxRecDepth 10000
set_option maxHeartbeats 64000000
set_option linter.unusedVariables false
set_option linter.unusedSimpArgs false
set_option linter.unusedSectionVars false
namespace Go.AM
open Go Go.Proofs
theorem GL.upge {t:A1}:∀ {n u e:Nat},GL t n u e->∀ m,u < m->m < e->(u:Int)<=(t.at m).up:=by
 intro n
 induction n with
 | zero=>intro u e h;exact absurd h (by simp [GL])
 | succ n ih =>
  intro u e h m h1 h2
  obtain ⟨⟨_,ht,_⟩,h⟩:=h
  rcases h with ⟨_,_,rfl⟩ | ⟨c,_,_,al,hb⟩ | ⟨c,_,_,vals,k,loc,mode,_,hv0,hk0,hke,hloc,hs,_⟩
  .omega
  .by_cases e1:m=u+1
   .rw [e1,(DU c).1];exact Int.le_refl _
   .have:=ih hb m (by omega) h2;omega
  .obtain ⟨v,hv,a,b⟩:=Cx (k:=k) (m:=m) vals (by omega) (by omega)
   obtain ⟨s1,s2,s3⟩:=hs v hv
   by_cases e1:m=k v
   .rw [e1,(DU s1).1];exact Int.le_refl _
   .have:=ih s3 m (by omega) b
    have mono:∀ v,v<=vals->k 0<=k v:=by
     intro v
     induction v with
     | zero=>intro _;omega
     | succ v iv=>intro hv;have:=iv (by omega);have:=(hs v (by omega)).2.2.moreN.1;omega
    have:=mono v (by omega)
    omega
theorem AdR {k:Nat->Nat} {n v w x:Nat} (mono:∀ v,v < n->k v < k (v+1)) (hv:v < n) (hw:w < n) (a:k v<=x) (b:x < k (v+1)) (c:k w<=x) (d:x < k (w+1)):v=w:=by
 have up:∀ d i,i+d<=n->k i<=k (i+d):=by
  intro d
  induction d with
  | zero=>intro i _;exact Nat.le_refl _
  | succ d ih =>
   intro i hi
   have h1:=ih i (by omega)
   have h2:=mono (i+d) (by omega)
   rw [<- Nat.add_assoc];omega
 rcases Nat.lt_trichotomy v w with h | h | h
 .have:=up (w - (v+1)) (v+1) (by omega)
  rw [show v+1+(w - (v+1))=w by omega] at this
  omega
 .exact h
 .have:=up (v - (w+1)) (w+1) (by omega)
  rw [show w+1+(v - (w+1))=v by omega] at this
  omega
theorem GL.nokid {t:A1} (hu:Kt t):∀ {n u e:Nat},GL t n u e->e<=t.nodes.length->∀ w,u<=w->w < e->(t.at w).fin=true->∀ m,u < m->m < e->(t.at m).up≠w:=by
 intro n
 induction n with
 | zero=>intro u e h;exact absurd h (by simp [GL])
 | succ n ih =>
  intro u e h hel w hw1 hw2 hf m h1 h2 hm
  obtain ⟨⟨_,ht,_⟩,h⟩:=h
  rcases h with ⟨_,_,rfl⟩ | ⟨c,nf,_,al,hb⟩ | ⟨c,nf,_,vals,k,loc,mode,_,hv0,hk0,hke,hloc,hs,_⟩
  .omega
  .have hwu:w≠u:=fun e=>by rw [e,nf] at hf;cases hf
   by_cases e1:m=u+1
   .rw [e1,(DU c).1] at hm;omega
   .exact ih hb hel w (by omega) hw2 hf m (by omega) h2 hm
  .have hwu:w≠u:=fun e=>by rw [e,nf] at hf;cases hf
   have mono:∀ v,v < vals->k v < k (v+1):=fun v hv=>(hs v hv).2.2.moreN.1
   obtain ⟨v,hv,a,b⟩:=Cx (k:=k) (m:=w) vals (by omega) (by omega)
   obtain ⟨v',hv',a',b'⟩:=Cx (k:=k) (m:=m) vals (by omega) (by omega)
   obtain ⟨s1,s2,s3⟩:=hs v' hv'
   have top:∀ d i,i+d<=vals->k i<=k (i+d):=by
    intro d
    induction d with
    | zero=>intro i _;exact Nat.le_refl _
    | succ d ih =>
     intro i hi
     have h1:=ih i (by omega)
     have h2:=mono (i+d) (by omega)
     rw [<- Nat.add_assoc];omega
   have hle:k (v' + 1)<=e:=by
    have:=top (vals - (v' + 1)) (v' + 1) (by omega)
    rw [show v' + 1+(vals - (v' + 1))=vals by omega] at this
    omega
   by_cases e1:m=k v'
   .rw [e1,(DU s1).1] at hm;omega
   .have hge:=s3.upge m (by omega) b'
    have hlt:=hu m (by omega)
    have:v=v':=AdR mono hv hv' a b (by omega) (by omega)
    subst this
    exact ih s3 (by omega) w a b hf m (by omega) b' hm
theorem A5.nokid {t:A1} (h:A5 t) {w m:Nat} (hw:w < t.nodes.length) (h0:0<=(t.at w).thread) (hf:(t.at w).fin=true) (hm:m < t.nodes.length):(t.at m).up≠w:=by
 intro hu
 have lo:∀ m,m < t.nodes.length->0<=(t.at m).thread->t.locs.length<=m:=fun m hm hu=>by
  rcases Nat.lt_or_ge m t.locs.length with h1 | h1
  .have:=(h.init m h1).thr;omega
  .exact h1
 have hml:t.locs.length<=m:=by
  rcases Nat.lt_or_ge m t.locs.length with h1 | h1
  .have:=(h.init m h1).up;omega
  .exact h1
 have hwl:=lo w hw h0
 obtain ⟨s,h0',he,hs⟩:=h.thr
 have mono:∀ v,v < t.regs.length->s v < s (v+1):=fun v hv=>by obtain ⟨_,n,hn⟩:=hs v hv;exact hn.moreN.1
 obtain ⟨v,hv,a,b⟩:=Cx (k:=s) (m:=w) t.regs.length (by omega) (by omega)
 obtain ⟨v',hv',a',b'⟩:=Cx (k:=s) (m:=m) t.regs.length (by omega) (by omega)
 obtain ⟨hb,n,hn⟩:=hs v' hv'
 have top:∀ d i,i+d<=t.regs.length->s i<=s (i+d):=by
  intro d
  induction d with
  | zero=>intro i _;exact Nat.le_refl _
  | succ d ih =>
   intro i hi
   have h1:=ih i (by omega)
   have h2:=mono (i+d) (by omega)
   rw [<- Nat.add_assoc];omega
 have hle:s (v' + 1)<=t.nodes.length:=by
  have:=top (t.regs.length - (v' + 1)) (v' + 1) (by omega)
  rw [show v' + 1+(t.regs.length - (v' + 1))=t.regs.length by omega] at this
  omega
 by_cases e1:m=s v'
 .simp only [Eu,Bool.and_eq_true,decide_eq_true_eq] at hb
  have:=hb.1.1.1.1.1.2
  rw [<- e1] at this;omega
 .have hge:=hn.upge m (by omega) b'
  have hlt:=h.up m hm
  have:v=v':=AdR mono hv hv' a b (by omega) (by omega)
  subst this
  exact hn.nokid h.up hle w a b hf m (by omega) b' hu
def CC (t:A1) (n:Nat):BitVec 64:=BS fun i=>decide (i < t.nodes.length) && (decide ((t.at i).thread < 0) || decide (i=n) || Aw t i n)
def Dw (t:A1) (i:Nat):List Nat:=(List.range t.nodes.length).filter fun n=>decide ((t.at n).thread=(i:Int)) && (t.at n).fin
def Dl (t:A1) (S:BitVec 64) (i:Nat):List (BitVec 64):=((Dw t i).map (CC t)).filter fun w=>decide (w ||| S=S)
def BU (t:A1) (S:BitVec 64):Nat->List (BitVec 64)
 | 0=>[0#64]
 | k+1=>(BU t S k).flatMap fun s=>(Dl t S k).map fun w=>s ||| w
theorem Kh {a b:BitVec 64}:a ||| b=b↔∀ j,j < 64->a.getLsbD j=true->b.getLsbD j=true:=by
 constructor
 .intro h j _ ha
  rw [<- h,BitVec.getLsbD_or,ha,Bool.true_or]
 .intro h
  apply B1
  intro j hj
  rw [BitVec.getLsbD_or]
  cases c:a.getLsbD j with
  | false=>rw [Bool.false_or]
  | true=>rw [h j hj c];rfl
theorem AfV {t:A1} {S S':BitVec 64} (h:S ||| S' = S') (i:Nat):(∀ w∈Dl t S i,w∈Dl t S' i)/\(Dl t S i).length<=(Dl t S' i).length:=by
 have key:∀ w:BitVec 64,decide (w ||| S=S)=true->decide (w ||| S' = S')=true:=fun w hw=>by
  have hw:=of_decide_eq_true hw
  refine decide_eq_true (Kh.2 fun j hj hb=>?_)
  exact Kh.1 h j hj (Kh.1 hw j hj hb)
 refine ⟨fun w hw=>?_,A6T key _⟩
 obtain ⟨h1,h2⟩:=List.mem_filter.1 hw
 exact List.mem_filter.2 ⟨h1,key w h2⟩
theorem A6y (t:A1) (S:BitVec 64) (k:Nat):(BU t S (k+1)).length=(BU t S k).length * (Dl t S k).length:=by
 rw [BU]
 induction BU t S k with
 | nil=>simp
 | cons x l ih=>rw [List.flatMap_cons,List.length_append,List.length_map,ih,List.length_cons,Nat.succ_mul];omega
theorem A8l {t:A1} {S S':BitVec 64} (h:S ||| S' = S'):∀ k,(∀ w∈BU t S k,w∈BU t S' k)/\(BU t S k).length<=(BU t S' k).length
 | 0=>⟨fun w hw=>hw,Nat.le_refl _⟩
 | k+1=>by
  obtain ⟨h1,h2⟩:=A8l h k
  obtain ⟨w1,w2⟩:=AfV (t:=t) h k
  refine ⟨fun w hw=>?_,by rw [A6y,A6y];exact Nat.mul_le_mul h2 w2⟩
  rw [BU,List.mem_flatMap] at hw ⊢
  obtain ⟨s,hs,hw⟩:=hw
  obtain ⟨v,hv,rfl⟩:=List.mem_map.1 hw
  exact ⟨s,h1 s hs,List.mem_map.2 ⟨v,w1 v hv,rfl⟩⟩
theorem A15 {p:Nat->Bool} {u:Nat} (hp:p u=true) (hu:∀ x,p x=true->x=u):∀ n,u < n->(List.range n).filter p=[u]
 | 0,h=>by omega
 | n+1,h=>by
  rw [List.range_succ,List.filter_append]
  by_cases c:u=n
  .subst c
   rw [List.filter_cons_of_pos hp,List.filter_nil]
   have:(List.range u).filter p=[]:=by
    rw [List.filter_eq_nil_iff]
    intro x hx hpx
    have:=hu x hpx
    have:=List.mem_range.1 hx
    omega
   rw [this];rfl
  .rw [A15 hp hu n (by omega),List.filter_cons_of_neg (fun hc=>c (hu n hc).symm),List.filter_nil,List.append_nil]
theorem RN {t:A1} (ht:A5 t) {a:Nat}:∀ (N b:Nat),b < N->b < t.nodes.length->Aw t a b=true->∃ m,m < t.nodes.length/\(t.at m).up=(a:Int)
 | 0,b,h,_,_=>by omega
 | N+1,b,hN,hb,h=>by
  have hlt:=ht.up b hb
  rcases Int.lt_or_le (t.at b).up 0 with c | c
  .unfold Aw at h
   rw [Dc ht.up a (by omega),if_pos c] at h
   cases h
  .obtain ⟨m,hm⟩:=Int.eq_ofNat_of_zero_le c
   rw [Dd ht.up hb hm,Bool.or_eq_true,decide_eq_true_eq] at h
   rcases h with h | h
   .exact ⟨b,hb,by rw [hm,h]⟩
   .exact RN ht N m (by omega) (by omega) h
theorem D9 {t:A1} (ht:A5 t) {n j:Nat}:(CC t n).getLsbD j=true↔j < t.nodes.length/\((t.at j).thread < 0\/j=n\/Aw t j n=true):=by
 have:=ht.n64
 rw [CC,Au]
 simp only [Bool.and_eq_true,Bool.or_eq_true,decide_eq_true_eq]
 constructor
 .rintro ⟨⟨h1,h2⟩,_⟩
  refine ⟨h1,?_⟩
  rcases h2 with (h | h) | h
  .exact .inl h
  .exact .inr (.inl h)
  .exact .inr (.inr h)
 .rintro ⟨h1,h2⟩
  refine ⟨⟨h1,?_⟩,by omega⟩
  rcases h2 with h | h | h
  .exact .inl (.inl h)
  .exact .inl (.inr h)
  .exact .inr h
theorem YC {t:A1} (ht:A5 t) {s:A6} (hf:AG t s) {j:Nat}:(Cc s.has).getLsbD j=true↔(j:Int)∈s.has:=by
 have h64:=ht.n64
 have hn:Cu t s.has:=hf.node
 rw [<- AC,hn.has h64,A9]
theorem AiQ {t:A1} (ht:A5 t) {s:A6} (hf:AG t s) {n:Nat} (hn:n < t.nodes.length):decide (CC t n ||| Cc s.has=Cc s.has)=true↔(n:Int)∈s.has:=by
 rw [decide_eq_true_eq,Kh]
 constructor
 .intro h
  exact (YC ht hf).1 (h n (by have:=ht.n64;omega) ((D9 ht).2 ⟨hn,.inr (.inl rfl)⟩))
 .intro h j _ hj
  rw [YC ht hf]
  obtain ⟨hjl,hj⟩:=(D9 ht).1 hj
  rcases hj with hj | hj | hj
  .exact Jh ht hf hjl (by have:=(ht.thr_iff hjl).1 hj;rw [(ht.init j this).up];decide)
  .rw [hj];exact h
  .exact A6A ht hf _ n (Nat.lt_succ_self _) h hj
section
variable {t:A1} (ht:A5 t) {s:A6} (hf:AG t s) {at_:List Nat} (S:StI t s at_) (hfin:∀ u∈at_,(t.at u).fin=true)
include ht hf S hfin
theorem AiM {i:Nat} (hi:i < t.regs.length):∃ u:Nat,(u:Int)∈s.has/\(t.at u).thread=i/\Dl t (Cc s.has) i=[CC t u]/\∀ x:Nat,(x:Int)∈s.has->(t.at x).thread=i->x=u\/Aw t x u=true:=by
 obtain ⟨q,h1,_⟩:=ht.kinds
 obtain ⟨a,_,b,c,_⟩:=h1 i hi
 have hb:=Jh ht hf a (by rw [c];decide)
 obtain ⟨u,hu,hut⟩:=S.cov _ hb (by rw [b];omega)
 rw [b] at hut
 obtain ⟨hus,hu0⟩:=S.has u hu
 have hul:u < t.nodes.length:=by
  obtain ⟨m,e,hm⟩:=A8 (hf.node _ hus);omega
 have hch:∀ x:Nat,(x:Int)∈s.has->(t.at x).thread=i->x=u\/Aw t x u=true:=fun x hx e=>S.chain u hu x hx (by rw [e,hut])
 refine ⟨u,hus,hut,?_,hch⟩
 have e:Dl t (Cc s.has) i=((List.range t.nodes.length).filter fun n=>(decide ((t.at n).thread=(i:Int)) && (t.at n).fin) && decide (CC t n ||| Cc s.has=Cc s.has)).map (CC t):=by
  rw [Dl,Dw,List.filter_map,List.filter_filter]
  congr 1
  apply List.filter_congr
  intro x _
  simp only [Function.comp]
  rw [Bool.and_comm]
 rw [e,A15 (u:=u) (by rw [hut,hfin u hu,(AiQ ht hf hul).2 hus];simp) (fun x hx=>?_) _ hul]
 .rfl
 .simp only [Bool.and_eq_true,decide_eq_true_eq] at hx
  obtain ⟨⟨h1,h2⟩,h3⟩:=hx
  by_cases hxl:x < t.nodes.length
  .have hxs:=(AiQ ht hf hxl).1 (decide_eq_true h3)
   rcases hch x hxs h1 with h | h
   .exact h
   .obtain ⟨m,hm,hmu⟩:=RN ht _ u (Nat.lt_succ_self _) hul h
    exact absurd hmu (ht.nokid hxl (by omega) h2 hm)
  .exfalso
   have:t.at x=AX.zero:=by rw [A1.at,List.getD_eq_getElem?_getD,List.getElem?_eq_none (by omega)];rfl
   rw [this] at h2
   cases h2
theorem Ab1:∀ k,k<=t.regs.length->∃ w:BitVec 64,BU t (Cc s.has) k=[w]/\∀ j:Nat,w.getLsbD j=true↔(j:Int)∈s.has/\((0 < k/\(t.at j).thread < 0)\/(0<=(t.at j).thread/\(t.at j).thread < k))
 | 0,_=>⟨0#64,rfl,fun j=>by
   simp only [BitVec.getLsbD_zero,Bool.false_eq_true,false_iff]
   rintro ⟨_,h | h⟩<;>omega⟩
 | k+1,hk=>by
  obtain ⟨w,h1,h2⟩:=Ab1 k (by omega)
  obtain ⟨u,hus,hut,hw,hch⟩:=AiM ht hf S hfin (i:=k) (by omega)
  have hul:u < t.nodes.length:=by
   obtain ⟨m,e,hm⟩:=A8 (hf.node _ hus);omega
  refine ⟨w ||| CC t u,by rw [BU,h1,hw];rfl,fun j=>?_⟩
  rw [BitVec.getLsbD_or,Bool.or_eq_true,h2,D9 ht]
  constructor
  .rintro (⟨h3,h4⟩ | ⟨h3,h4⟩)
   .refine ⟨h3,?_⟩
    rcases h4 with h4 | h4
    .exact .inl ⟨by omega,h4.2⟩
    .exact .inr (by omega)
   .rcases h4 with h4 | h4 | h4
    .exact ⟨Jh ht hf h3 (by have:=(ht.thr_iff h3).1 h4;rw [(ht.init j this).up];decide),.inl ⟨by omega,h4⟩⟩
    .subst h4
     exact ⟨hus,.inr (by omega)⟩
    .refine ⟨A6A ht hf _ u (Nat.lt_succ_self _) hus h4,.inr ?_⟩
     have:=Yw ht _ u (Nat.lt_succ_self _) hul h4
     omega
  .rintro ⟨h3,h4⟩
   by_cases c:(t.at j).thread=k
   .right
    obtain ⟨m,e,hm⟩:=A8 (hf.node _ h3)
    exact ⟨by omega,.inr (hch j h3 c)⟩
   .rcases h4 with h4 | h4
    .right
     obtain ⟨m,e,hm⟩:=A8 (hf.node _ h3)
     exact ⟨by omega,.inl h4.2⟩
    .left;exact ⟨h3,.inr (by omega)⟩
theorem AfS:BU t (Cc s.has) t.regs.length=[Cc s.has]:=by
 obtain ⟨w,h1,h2⟩:=Ab1 ht hf S hfin t.regs.length (Nat.le_refl _)
 rw [h1]
 congr 1
 apply B1
 intro j hj
 rw [Bool.eq_iff_iff,h2,YC ht hf]
 constructor
 .exact fun h=>h.1
 .intro h
  refine ⟨h,?_⟩
  obtain ⟨m,e,hm⟩:=A8 (hf.node _ h)
  have hjl:j < t.nodes.length:=by omega
  rcases Int.lt_or_le (t.at j).thread 0 with c | c
  .exact .inl ⟨ht.r1,c⟩
  .right
   obtain ⟨n,e,hb⟩:=ht.ben hjl c
   cases n with
   | zero=>exact absurd hb (by simp [GL])
   | succ n=>exact ⟨c,hb.1.2.2⟩
end
theorem AbJ {t:A1} {s:A6} (hf:AG t s) {p:Int->Bool}:Cu t (s.has.filter p):=fun x hx=>hf.node x (List.mem_filter.1 hx).1
theorem KF {t:A1} (ht:A5 t) {s:A6} (hf:AG t s) {j:Nat}:(DH t s).getLsbD j=true↔(j:Int)∈s.has/\Es t s j=true:=by
 have h64:=ht.n64
 have hn:Cu t (s.has.filter fun e=>Es t s e.toNat):=AbJ hf
 rw [DH,<- AC,hn.has h64,A9,List.mem_filter,Int.toNat_natCast]
theorem Gh {t:A1} {i n:Nat}:n∈Dw t i↔n < t.nodes.length/\(t.at n).thread=i/\(t.at n).fin=true:=by
 rw [Dw,List.mem_filter,List.mem_range,Bool.and_eq_true,decide_eq_true_eq]
theorem A17 {t:A1} {m m':List U8}:∀ k,(∀ i,i < 2 * k->KU m i=KU m' i)->BH t m k=BH t m' k
 | 0,_=>rfl
 | k+1,h=>by rw [BH,BH,A17 k (fun i hi=>h i (by omega)),h (2 * k) (by omega),h (2 * k+1) (by omega)]
theorem AcY {m k:List U8} {i:Nat} (h:i < m.length):KU (m++k) i=KU m i:=by
 unfold KU
 rw [List.getD_eq_getElem?_getD,List.getD_eq_getElem?_getD,List.getElem?_append_left h]
theorem A78 {t:A1} (ht:A5 t) {m k:List U8} (he:m.length % 2=0):Lst t (BH t m (m.length / 2)) (BH t (m++k) ((m++k).length / 2)):=by
 rw [A17 (t:=t) (m:=m) (m':=m++k) (m.length / 2) (fun i hi=>(AcY (by omega)).symm)]
 have e:(m++k).length / 2=m.length / 2+k.length / 2:=by rw [List.length_append];omega
 rw [e]
 exact A9Z ht (m++k) (m.length / 2) (k.length / 2)
def G4 (m:List U8):List U8:=m.take (m.length / 2 * 2)
theorem A6P (m:List U8):(G4 m).length=m.length / 2 * 2:=by rw [G4,List.length_take];omega
theorem MV {m:List U8} {x:U8} (h:x∈G4 m):x∈m:=List.mem_of_mem_take h
theorem AcV:∀ {l k:List Int},l.Pairwise (· < ·)->k.Pairwise (· < ·)->(∀ x,x∈l↔x∈k)->l=k
 | [],[],_,_,_=>rfl
 | [],y::k,_,_,h=>by have:=(h y).2 (List.mem_cons_self ..);cases this
 | x::l,[],_,_,h=>by have:=(h x).1 (List.mem_cons_self ..);cases this
 | x::l,y::k,hl,hk,h=>by
  have hx:=List.pairwise_cons.1 hl
  have hy:=List.pairwise_cons.1 hk
  have e:x=y:=by
   rcases List.mem_cons.1 ((h x).1 (List.mem_cons_self ..)) with e | e
   .exact e
   .rcases List.mem_cons.1 ((h y).2 (List.mem_cons_self ..)) with e2 | e2
    .exact e2.symm
    .have h1:=hx.1 y e2
     have h2:=hy.1 x e
     omega
  subst e
  rw [AcV hx.2 hy.2 fun z=>?_]
  constructor
  .intro hz
   rcases List.mem_cons.1 ((h z).1 (List.mem_cons_of_mem _ hz)) with e | e
   .have:=hx.1 z hz;omega
   .exact e
  .intro hz
   rcases List.mem_cons.1 ((h z).2 (List.mem_cons_of_mem _ hz)) with e | e
   .have:=hy.1 z hz;omega
   .exact e
theorem A3F (s:BitVec 64):(Ay s).Pairwise (· < ·):=by
 unfold Ay
 rw [List.pairwise_map]
 unfold Ca
 exact (List.Pairwise.filter _ List.pairwise_lt_range).imp fun h=>by omega
theorem AeU {t:A1} (ht:A5 t) {s:A6} (hf:AG t s):Ay (Cc s.has)=s.has:=by
 have hn:Cu t s.has:=hf.node
 refine AcV (A3F _) hf.ris fun x=>?_
 rw [B4,hn.has ht.n64,A9]
theorem Alh {t:A1} (ht:A5 t) {a b:A6} (hfa:AG t a) (hfb:AG t b) (X:Lst t a b):(∀ l∈(BU t (DH t a) t.regs.length).map Ay,l∈(BU t (DH t b) t.regs.length).map Ay)/\((BU t (DH t a) t.regs.length).map Ay).length<=((BU t (DH t b) t.regs.length).map Ay).length:=by
 have h:DH t a ||| DH t b=DH t b:=Kh.2 fun j _ hj=>by
  obtain ⟨h1,h2⟩:=(KF ht hfa).1 hj
  exact (KF ht hfb).2 ⟨X.has _ h1,X.vis _ h1 h2⟩
 obtain ⟨h1,h2⟩:=A8l (t:=t) h t.regs.length
 refine ⟨fun l hl=>?_,by rw [List.length_map,List.length_map];exact h2⟩
 obtain ⟨w,hw,rfl⟩:=List.mem_map.1 hl
 exact List.mem_map.2 ⟨w,h1 w hw,rfl⟩
end Go.AM
