/-
  Own work, part of the proof of these laws: plain laws.
-/
import Derived.Test.YthhlhddnndlhkaaGreatDoorLCd
set_option maxRecDepth 10000
set_option maxHeartbeats 64000000
set_option linter.unusedVariables false
set_option linter.unusedSimpArgs false
set_option linter.unusedSectionVars false
open Bool (and_eq_true or_eq_true not_eq_true' eq_false_iff)
open BitVec (getLsbD_or)
namespace Go.AM
open Go Go.Proofs
theorem GL.upge {t:A1}:∀ {n u e:Nat},GL t n u e->∀ m,u < m->m < e->(u:Int)<=(t.at m).up:=by
 intro n
 induction n with
 | zero=>intro u e h;exact absurd h (by simp [GL])
 | succ n ih =>
  intro u e h m h1 h2
  obtain ⟨⟨_,ht,_⟩,h⟩:=h
  rcases h with ⟨_,_,rfl⟩ | ⟨c,_,_,al,hb⟩ | ⟨c,_,_,vals,k,loc,mode,_,hv0,hk0,hke,hloc,hs,_⟩
  .omega
  .by_cases e1:m=u+1
   .rw [e1,(DU c).1];exact Int.le_refl _
   .have:=ih hb m (by omega) h2;omega
  .obtain ⟨v,hv,a,b⟩:=Cx (k:=k) (m:=m) vals (by omega) (by omega)
   obtain ⟨s1,s2,s3⟩:=hs v hv
   by_cases e1:m=k v
   .rw [e1,(DU s1).1];exact Int.le_refl _
   .have:=ih s3 m (by omega) b
    have mono:∀ v,v<=vals->k 0<=k v:=by
     intro v
     induction v with
     | zero=>intro _;omega
     | succ v iv=>intro hv;have:=iv (by omega);have:=(hs v (by omega)).2.2.moreN.1;omega
    have:=mono v (by omega)
    omega
theorem AdR {k:Nat->Nat} {n v w x:Nat} (mono:∀ v,v < n->k v < k (v+1)) (hv:v < n) (hw:w < n) (a:k v<=x) (b:x < k (v+1)) (c:k w<=x) (d:x < k (w+1)):v=w:=by
 have up:∀ d i,i+d<=n->k i<=k (i+d):=by
  intro d
  induction d with
  | zero=>intro i _;exact Nat.le_refl _
  | succ d ih =>
   intro i hi
   have h1:=ih i (by omega)
   have h2:=mono (i+d) (by omega)
   rw [<- Nat.add_assoc];omega
 rcases Nat.lt_trichotomy v w with h | h | h
 .have:=up (w - (v+1)) (v+1) (by omega)
  rw [show v+1+(w - (v+1))=w by omega] at this
  omega
 .exact h
 .have:=up (v - (w+1)) (w+1) (by omega)
  rw [show w+1+(v - (w+1))=v by omega] at this
  omega
theorem GL.nokid {t:A1} (hu:Kt t):∀ {n u e:Nat},GL t n u e->e<=t.nodes.length->∀ w,u<=w->w < e->(t.at w).fin=true->∀ m,u < m->m < e->(t.at m).up≠w:=by
 intro n
 induction n with
 | zero=>intro u e h;exact absurd h (by simp [GL])
 | succ n ih =>
  intro u e h h3 w h9 h4 hf m h1 h2 hm
  obtain ⟨⟨_,ht,_⟩,h⟩:=h
  rcases h with ⟨_,_,rfl⟩ | ⟨c,nf,_,al,hb⟩ | ⟨c,nf,_,vals,k,loc,mode,_,hv0,hk0,hke,hloc,hs,_⟩
  .omega
  .have h5:w≠u:=fun e=>by rw [e,nf] at hf;cases hf
   by_cases e1:m=u+1
   .rw [e1,(DU c).1] at hm;omega
   .exact ih hb h3 w (by omega) h4 hf m (by omega) h2 hm
  .have h5:w≠u:=fun e=>by rw [e,nf] at hf;cases hf
   have mono:∀ v,v < vals->k v < k (v+1):=fun v hv=>(hs v hv).2.2.moreN.1
   obtain ⟨v,hv,a,b⟩:=Cx (k:=k) (m:=w) vals (by omega) (by omega)
   obtain ⟨v',h0,a',b'⟩:=Cx (k:=k) (m:=m) vals (by omega) (by omega)
   obtain ⟨s1,s2,s3⟩:=hs v' h0
   have top:∀ d i,i+d<=vals->k i<=k (i+d):=by
    intro d
    induction d with
    | zero=>intro i _;exact Nat.le_refl _
    | succ d ih =>
     intro i hi
     have h1:=ih i (by omega)
     have h2:=mono (i+d) (by omega)
     rw [<- Nat.add_assoc];omega
   have h7:k (v' + 1)<=e:=by
    have:=top (vals - (v' + 1)) (v' + 1) (by omega)
    rw [show v' + 1+(vals - (v' + 1))=vals by omega] at this
    omega
   by_cases e1:m=k v'
   .rw [e1,(DU s1).1] at hm;omega
   .have h6:=s3.upge m (by omega) b'
    have h8:=hu m (by omega)
    have:v=v':=AdR mono hv h0 a b (by omega) (by omega)
    subst this
    exact ih s3 (by omega) w a b hf m (by omega) b' hm
theorem A5.nokid {t:A1} (h:A5 t) {w m:Nat} (hw:w < t.nodes.length) (h0:0<=(t.at w).thread) (hf:(t.at w).fin=true) (hm:m < t.nodes.length):(t.at m).up≠w:=by
 intro hu
 have lo:∀ m,m < t.nodes.length->0<=(t.at m).thread->t.locs.length<=m:=fun m hm hu=>by
  rcases Nat.lt_or_ge m t.locs.length with h1 | h1
  .have:=(h.init m h1).thr;omega
  .exact h1
 have h8:t.locs.length<=m:=by
  rcases Nat.lt_or_ge m t.locs.length with h1 | h1
  .have:=(h.init m h1).up;omega
  .exact h1
 have h9:=lo w hw h0
 obtain ⟨s,h5,he,hs⟩:=h.thr
 have mono:∀ v,v < t.regs.length->s v < s (v+1):=fun v hv=>by obtain ⟨_,n,hn⟩:=hs v hv;exact hn.moreN.1
 obtain ⟨v,hv,a,b⟩:=Cx (k:=s) (m:=w) t.regs.length (by omega) (by omega)
 obtain ⟨v',h3,a',b'⟩:=Cx (k:=s) (m:=m) t.regs.length (by omega) (by omega)
 obtain ⟨hb,n,hn⟩:=hs v' h3
 have top:∀ d i,i+d<=t.regs.length->s i<=s (i+d):=by
  intro d
  induction d with
  | zero=>intro i _;exact Nat.le_refl _
  | succ d ih =>
   intro i hi
   have h1:=ih i (by omega)
   have h2:=mono (i+d) (by omega)
   rw [<- Nat.add_assoc];omega
 have h4:s (v' + 1)<=t.nodes.length:=by
  have:=top (t.regs.length - (v' + 1)) (v' + 1) (by omega)
  rw [show v' + 1+(t.regs.length - (v' + 1))=t.regs.length by omega] at this
  omega
 by_cases e1:m=s v'
 .simp only [Eu,and_eq_true,decide_eq_true_eq] at hb
  have:=hb.1.1.1.1.1.2
  rw [<- e1] at this;omega
 .have h6:=hn.upge m (by omega) b'
  have h7:=h.up m hm
  have:v=v':=AdR mono hv h3 a b (by omega) (by omega)
  subst this
  exact hn.nokid h.up h4 w a b hf m (by omega) b' hu
def CC (t:A1) (n:Nat):BitVec 64:=BS fun i=>decide (i < t.nodes.length) && (decide ((t.at i).thread < 0) || decide (i=n) || Aw t i n)
def Dw (t:A1) (i:Nat):List Nat:=(List.range t.nodes.length).filter fun n=>decide ((t.at n).thread=(i:Int)) && (t.at n).fin
def Dl (t:A1) (S:BitVec 64) (i:Nat):List (BitVec 64):=((Dw t i).map (CC t)).filter fun w=>decide (w ||| S=S)
def BU (t:A1) (S:BitVec 64):Nat->List (BitVec 64)
 | 0=>[0#64]
 | k+1=>(BU t S k).flatMap fun s=>(Dl t S k).map fun w=>s ||| w
theorem Kh {a b:BitVec 64}:a ||| b=b↔∀ j,j < 64->a.getLsbD j=true->b.getLsbD j=true:=by
 constructor
 .intro h j _ ha
  rw [<- h,getLsbD_or,ha,Bool.true_or]
 .intro h
  apply B1
  intro j hj
  rw [getLsbD_or]
  cases c:a.getLsbD j with
  | false=>rw [Bool.false_or]
  | true=>rw [h j hj c];rfl
theorem A6y (t:A1) (S:BitVec 64) (k:Nat):(BU t S (k+1)).length=(BU t S k).length * (Dl t S k).length:=by
 rw [BU]
 induction BU t S k with
 | nil=>simp
 | cons x l ih=>rw [List.flatMap_cons,List.length_append,List.length_map,ih,List.length_cons,Nat.succ_mul];omega
theorem A15 {p:Nat->Bool} {u:Nat} (hp:p u=true) (hu:∀ x,p x=true->x=u):∀ n,u < n->(List.range n).filter p=[u]
 | 0,h=>by omega
 | n+1,h=>by
  rw [List.range_succ,List.filter_append]
  by_cases c:u=n
  .subst c
   rw [List.filter_cons_of_pos hp,List.filter_nil]
   have:(List.range u).filter p=[]:=by
    rw [List.filter_eq_nil_iff]
    intro x hx h0
    have:=hu x h0
    have:=List.mem_range.1 hx
    omega
   rw [this];rfl
  .rw [A15 hp hu n (by omega),List.filter_cons_of_neg (fun hc=>c (hu n hc).symm),List.filter_nil,List.append_nil]
theorem RN {t:A1} (ht:A5 t) {a:Nat}:∀ (N b:Nat),b < N->b < t.nodes.length->Aw t a b=true->∃ m,m < t.nodes.length/\(t.at m).up=(a:Int)
 | 0,b,h,_,_=>by omega
 | N+1,b,hN,hb,h=>by
  have hlt:=ht.up b hb
  rcases Int.lt_or_le (t.at b).up 0 with c | c
  .unfold Aw at h
   rw [Dc ht.up a (by omega),if_pos c] at h
   cases h
  .obtain ⟨m,hm⟩:=Int.eq_ofNat_of_zero_le c
   rw [Dd ht.up hb hm,or_eq_true,decide_eq_true_eq] at h
   rcases h with h | h
   .exact ⟨b,hb,by rw [hm,h]⟩
   .exact RN ht N m (by omega) (by omega) h
theorem D9 {t:A1} (ht:A5 t) {n j:Nat}:(CC t n).getLsbD j=true↔j < t.nodes.length/\((t.at j).thread < 0\/j=n\/Aw t j n=true):=by
 have:=ht.n64
 rw [CC,Au]
 simp only [and_eq_true,or_eq_true,decide_eq_true_eq]
 constructor
 .rintro ⟨⟨h1,h2⟩,_⟩
  refine ⟨h1,?_⟩
  rcases h2 with (h | h) | h
  .exact .inl h
  .exact .inr (.inl h)
  .exact .inr (.inr h)
 .rintro ⟨h1,h2⟩
  refine ⟨⟨h1,?_⟩,by omega⟩
  rcases h2 with h | h | h
  .exact .inl (.inl h)
  .exact .inl (.inr h)
  .exact .inr h
theorem Gz {t:A1} {S:BitVec 64} {i:Nat} {w:BitVec 64} (h:w∈Dl t S i):∃ n,n∈Dw t i/\w=CC t n/\w ||| S=S:=by
 obtain ⟨h1,h2⟩:=List.mem_filter.1 h
 obtain ⟨n,hn,rfl⟩:=List.mem_map.1 h1
 exact ⟨n,hn,rfl,of_decide_eq_true h2⟩
theorem Gh {t:A1} {i n:Nat}:n∈Dw t i↔n < t.nodes.length/\(t.at n).thread=i/\(t.at n).fin=true:=by
 rw [Dw,List.mem_filter,List.mem_range,and_eq_true,decide_eq_true_eq]
theorem YR {t:A1} (ht:A5 t) {i n j:Nat} (hn:n∈Dw t i) (h:(CC t n).getLsbD j=true):j < t.nodes.length/\((t.at j).thread < 0\/(t.at j).thread=i):=by
 obtain ⟨h1,h2⟩:=(D9 ht).1 h
 obtain ⟨h3,h4,_⟩:=Gh.1 hn
 refine ⟨h1,?_⟩
 rcases h2 with h2 | h2 | h2
 .exact .inl h2
 .subst h2;exact .inr h4
 .exact .inr (by rw [Yw ht _ n (Nat.lt_succ_self _) h3 h2,h4])
theorem HP {t:A1} (ht:A5 t) {S:BitVec 64}:∀ k,∀ x∈BU t S k,(∀ j,x.getLsbD j=true->j < t.nodes.length/\(t.at j).thread < k/\0 < k)/\(0 < k->∀ j,j < t.nodes.length->(t.at j).thread < 0->x.getLsbD j=true)/\x ||| S=S
 | 0,x,hx=>by
  rw [BU,List.mem_singleton] at hx
  subst hx
  exact ⟨fun j h=>by simp at h,fun h=>absurd h (by decide),by simp⟩
 | k+1,x,hx=>by
  rw [BU,List.mem_flatMap] at hx
  obtain ⟨a,ha,hx⟩:=hx
  obtain ⟨w,hw,rfl⟩:=List.mem_map.1 hx
  obtain ⟨n,hn,rfl,hS⟩:=Gz hw
  obtain ⟨h1,h2,h3⟩:=HP ht k a ha
  refine ⟨fun j hj=>?_,fun _ j hj h0=>?_,?_⟩
  .rw [getLsbD_or,or_eq_true] at hj
   rcases hj with hj | hj
   .have:=h1 j hj;exact ⟨this.1,by omega,by omega⟩
   .obtain ⟨h4,h5⟩:=YR ht hn hj;exact ⟨h4,by omega,by omega⟩
  .rw [getLsbD_or,(D9 ht).2 ⟨hj,.inl h0⟩,Bool.or_true]
  .rw [BitVec.or_assoc,hS,h3]
theorem AiP {t:A1} (ht:A5 t) {n i j:Nat} (hn:n < t.nodes.length) (hi:(CC t n).getLsbD i=true) (hj:(CC t n).getLsbD j=true):AH t i j=false:=by
 obtain ⟨h0,hi⟩:=(D9 ht).1 hi
 obtain ⟨h6,hj⟩:=(D9 ht).1 hj
 rw [eq_false_iff]
 intro h
 simp only [AH,and_eq_true,not_eq_true',decide_eq_true_eq,decide_eq_false_iff_not,Int.toNat_natCast] at h
 obtain ⟨⟨⟨⟨⟨_,h1⟩,h2⟩,h3⟩,h4⟩,h5⟩:=h
 rcases hi with hi | hi | hi
 .omega
 .subst hi
  rcases hj with hj | hj | hj
  .omega
  .exact h1 (by rw [hj])
  .rw [hj] at h5;cases h5
 .rcases hj with hj | hj | hj
  .omega
  .subst hj
   rw [hi] at h4;cases h4
  .rcases A6B ht _ n (Nat.lt_succ_self _) hn hi hj with e | e | e
   .exact h1 (by rw [e])
   .rw [e] at h4;cases h4
   .rw [e] at h5;cases h5
theorem A8k {t:A1} (ht:A5 t) {S:BitVec 64}:∀ k,∀ x∈BU t S k,∀ i j:Nat,x.getLsbD i=true->x.getLsbD j=true->AH t i j=false
 | 0,x,hx=>fun i j hi=>by
  rw [BU,List.mem_singleton] at hx
  subst hx
  simp at hi
 | k+1,x,hx=>fun i j hi hj=>by
  rw [BU,List.mem_flatMap] at hx
  obtain ⟨a,ha,hx⟩:=hx
  obtain ⟨w,hw,rfl⟩:=List.mem_map.1 hx
  obtain ⟨n,hn,rfl,hS⟩:=Gz hw
  obtain ⟨h1,h2,h3⟩:=HP ht k a ha
  have hnl:=(Gh.1 hn).1
  have mix:∀ i j:Nat,a.getLsbD i=true->(CC t n).getLsbD j=true->AH t i j=false:=fun i j hi hj=>by
   rw [eq_false_iff]
   intro h
   have h':=h
   simp only [AH,and_eq_true,not_eq_true',decide_eq_true_eq,decide_eq_false_iff_not,Int.toNat_natCast] at h
   obtain ⟨⟨⟨⟨⟨_,_⟩,h2⟩,h3⟩,h4⟩,h5⟩:=h
   have:=(h1 i hi).2.1
   rcases (YR ht hn hj).2 with c | c<;>omega
  rw [getLsbD_or,or_eq_true] at hi hj
  rcases hi with hi | hi
  .rcases hj with hj | hj
   .exact A8k ht k a ha i j hi hj
   .exact mix i j hi hj
  .rcases hj with hj | hj
   .rw [eq_false_iff]
    intro h
    have:=mix j i hj hi
    rw [QJ h] at this
    cases this
   .exact AiP ht hnl hi hj
theorem ApG {t:A1} (ht:A5 t) {n j u:Nat} (hn:n < t.nodes.length) (hj:(CC t n).getLsbD j=true) (hu:(t.at j).up=(u:Int)):(CC t n).getLsbD u=true:=by
 obtain ⟨h0,hj⟩:=(D9 ht).1 hj
 have h3:=ht.up j h0
 refine (D9 ht).2 ⟨by omega,?_⟩
 rcases hj with hj | hj | hj
 .have:=(ht.init j ((ht.thr_iff h0).1 hj)).up
  omega
 .subst hj
  exact .inr (.inr (by rw [Dd ht.up hn hu,decide_eq_true rfl,Bool.true_or]))
 .right;right
  have h2:∀ N b,b < N->b < t.nodes.length->Aw t j b=true->Aw t u b=true:=by
   intro N
   induction N with
   | zero=>intro b h;omega
   | succ N ih =>
    intro b hN hb h
    have h1:=ht.up b hb
    rcases Int.lt_or_le (t.at b).up 0 with c | c
    .exfalso
     unfold Aw at h
     rw [Dc ht.up j (by omega),if_pos c] at h
     cases h
    .obtain ⟨m,hm⟩:=Int.eq_ofNat_of_zero_le c
     rw [Dd ht.up hb hm,or_eq_true,decide_eq_true_eq] at h ⊢
     rcases h with h | h
     .have h:m=j:=by omega
      subst h
      right
      rw [Dd ht.up (by omega) hu,decide_eq_true rfl,Bool.true_or]
     .exact .inr (ih m (by omega) (by omega) h)
  exact h2 _ n (Nat.lt_succ_self _) hn hj
theorem Ago {t:A1} (ht:A5 t) {S:BitVec 64}:∀ k,∀ x∈BU t S k,∀ j u:Nat,x.getLsbD j=true->(t.at j).up=(u:Int)->x.getLsbD u=true
 | 0,x,hx=>fun j u hj _=>by
  rw [BU,List.mem_singleton] at hx
  subst hx
  simp at hj
 | k+1,x,hx=>fun j u hj hu=>by
  rw [BU,List.mem_flatMap] at hx
  obtain ⟨a,ha,hx⟩:=hx
  obtain ⟨w,hw,rfl⟩:=List.mem_map.1 hx
  obtain ⟨n,hn,rfl,hS⟩:=Gz hw
  have hnl:=(Gh.1 hn).1
  rw [getLsbD_or,or_eq_true] at hj ⊢
  rcases hj with hj | hj
  .exact .inl (Ago ht k a ha j u hj hu)
  .exact .inr (ApG ht hnl hj hu)
theorem Aa1 {t:A1} (ht:A5 t) {j:Nat} (hj:j < t.nodes.length) (h:(t.at j).thread < 0):(t.at j).fin=false:=by
 have:=ht.first.2 j ((ht.thr_iff hj).1 h)
 simp only [Jk,and_eq_true,decide_eq_true_eq,not_eq_true'] at this
 exact this.1.2
theorem A7T {t:A1} (ht:A5 t) {i n j:Nat} (hn:n∈Dw t i) (hj:(CC t n).getLsbD j=true) (hf:(t.at j).fin=true):j=n:=by
 obtain ⟨h1,_,_⟩:=Gh.1 hn
 obtain ⟨h0,hb⟩:=(D9 ht).1 hj
 rcases hb with c | c | c
 .rw [Aa1 ht h0 c] at hf;cases hf
 .exact c
 .obtain ⟨m,hm,hu⟩:=RN ht _ n (Nat.lt_succ_self _) h1 c
  by_cases c0:(t.at j).thread < 0
  .rw [Aa1 ht h0 c0] at hf;cases hf
  .exact absurd hu (ht.nokid h0 (by omega) hf hm)
theorem A3A {p q r:Nat->Bool} (h:∀ x,r x=(p x || q x)) (d:∀ x,p x=true->q x=false):∀ l:List Nat,(l.filter r).length=(l.filter p).length+(l.filter q).length
 | []=>rfl
 | x::l=>by
  have ih:=A3A h d l
  have hx:=h x
  have dx:=d x
  cases hp:p x<;>cases hq:q x
  .rw [hp,hq] at hx;rw [List.filter_cons_of_neg (by rw [hx];decide),List.filter_cons_of_neg (by rw [hp];decide),List.filter_cons_of_neg (by rw [hq];decide),ih]
  .rw [hp,hq] at hx;rw [List.filter_cons_of_pos (by rw [hx];decide),List.filter_cons_of_neg (by rw [hp];decide),List.filter_cons_of_pos (by rw [hq]),List.length_cons,List.length_cons,ih];omega
  .rw [hp,hq] at hx;rw [List.filter_cons_of_pos (by rw [hx];decide),List.filter_cons_of_pos (by rw [hp]),List.filter_cons_of_neg (by rw [hq];decide),List.length_cons,List.length_cons,ih];omega
  .rw [dx hp] at hq;cases hq
def Ahi (t:A1) (x:BitVec 64):Nat:=((List.range 64).filter fun j=>x.getLsbD j && (t.at j).fin).length
theorem AcU {t:A1} (ht:A5 t) {S:BitVec 64}:∀ k,∀ x∈BU t S k,Ahi t x=k
 | 0,x,hx=>by
  rw [BU,List.mem_singleton] at hx
  subst hx
  rw [Ahi,List.filter_eq_nil_iff.2 (fun j _=>by simp)];rfl
 | k+1,x,hx=>by
  rw [BU,List.mem_flatMap] at hx
  obtain ⟨a,ha,hx⟩:=hx
  obtain ⟨w,hw,rfl⟩:=List.mem_map.1 hx
  obtain ⟨n,hn,rfl,hS⟩:=Gz hw
  obtain ⟨h1,_,_⟩:=HP ht k a ha
  obtain ⟨hnl,hnt,hnf⟩:=Gh.1 hn
  have h64:=ht.n64
  rw [Ahi,A3A (p:=fun j=>a.getLsbD j && (t.at j).fin) (q:=fun j=>(CC t n).getLsbD j && (t.at j).fin) (fun j=>by rw [getLsbD_or,Bool.and_or_distrib_right]) ?_ (List.range 64)]
  .have ih:=AcU ht k a ha
   rw [Ahi] at ih
   rw [ih,A15 (u:=n) (by rw [(D9 ht).2 ⟨hnl,.inr (.inl rfl)⟩,hnf];rfl) ?_ 64 (by omega)]
   .rfl
   .intro j hj
    rw [and_eq_true] at hj
    exact A7T ht hn hj.1 hj.2
  .intro j hj
   rw [and_eq_true] at hj
   rw [eq_false_iff]
   intro hc
   rw [and_eq_true] at hc
   have h2:=A7T ht hn hc.1 hc.2
   subst h2
   have:=(h1 _ hj.1).2.1
   omega
theorem AcF {t:A1} (ht:A5 t) {S:BitVec 64} (i:Nat):(Dl t S i).Pairwise (·≠·):=by
 unfold Dl
 refine List.Pairwise.filter _ ?_
 rw [List.pairwise_map]
 have h0:(Dw t i).Pairwise (·≠·):=List.Pairwise.filter _ List.nodup_range
 refine h0.imp_of_mem fun {a b} ha hb hab e=>hab ?_
 obtain ⟨h2,h3,h1⟩:=Gh.1 ha
 exact A7T ht hb (by rw [<- e];exact (D9 ht).2 ⟨h2,.inr (.inl rfl)⟩) h1
theorem A38 {t:A1} (ht:A5 t) {S:BitVec 64}:∀ k,(BU t S k).Pairwise (·≠·)
 | 0=>by rw [BU];exact List.pairwise_singleton _ _
 | k+1=>by
  have half1:∀ a∈BU t S k,∀ a'∈BU t S k,∀ w∈Dl t S k,∀ w'∈Dl t S k,a ||| w=a' ||| w'->∀ j:Nat,a.getLsbD j=true->a'.getLsbD j=true:=fun a ha a' ha' w hw w' hw' e j hj=>by
   obtain ⟨n',hn',rfl,_⟩:=Gz hw'
   obtain ⟨h1,_,_⟩:=HP ht k a ha
   obtain ⟨_,h2',_⟩:=HP ht k a' ha'
   obtain ⟨g1,g2,g3⟩:=h1 j hj
   have e2:(a' ||| CC t n').getLsbD j=true:=by rw [<- e,getLsbD_or,hj,Bool.true_or]
   rw [getLsbD_or,or_eq_true] at e2
   rcases e2 with c | c
   .exact c
   .rcases (YR ht hn' c).2 with d | d
    .exact h2' g3 j g1 d
    .omega
  have h0:∀ a∈BU t S k,∀ a'∈BU t S k,∀ w∈Dl t S k,∀ w'∈Dl t S k,a ||| w=a' ||| w'->∀ j:Nat,w.getLsbD j=true->w'.getLsbD j=true:=fun a ha a' ha' w hw w' hw' e j hj=>by
   obtain ⟨n,hn,rfl,_⟩:=Gz hw
   obtain ⟨n',hn',rfl,_⟩:=Gz hw'
   obtain ⟨h3,_,_⟩:=HP ht k a' ha'
   have e2:(a' ||| CC t n').getLsbD j=true:=by rw [<- e,getLsbD_or,hj,Bool.or_true]
   rw [getLsbD_or,or_eq_true] at e2
   rcases e2 with c | c
   .obtain ⟨g1,g2,g3⟩:=h3 j c
    rcases (YR ht hn hj).2 with d | d
    .exact (D9 ht).2 ⟨g1,.inl d⟩
    .omega
   .exact c
  have h2:∀ a∈BU t S k,∀ a'∈BU t S k,∀ w∈Dl t S k,∀ w'∈Dl t S k,a ||| w=a' ||| w'->a=a'/\w=w':=fun a ha a' ha' w hw w' hw' e=>by
   constructor
   .refine B1 fun j _=>?_
    rw [Bool.eq_iff_iff]
    exact ⟨half1 a ha a' ha' w hw w' hw' e j,half1 a' ha' a ha w' hw' w hw e.symm j⟩
   .refine B1 fun j _=>?_
    rw [Bool.eq_iff_iff]
    exact ⟨h0 a ha a' ha' w hw w' hw' e j,h0 a' ha' a ha w' hw' w hw e.symm j⟩
  rw [BU,List.pairwise_flatMap]
  constructor
  .intro a ha
   rw [List.pairwise_map]
   exact (AcF ht k).imp_of_mem fun {w w'} hw hw' h e=>h (h2 a ha a ha w hw w' hw' e).2
  .refine (A38 ht k).imp_of_mem fun {a a'} ha ha' h x hx y hy e=>h ?_
   obtain ⟨w,hw,rfl⟩:=List.mem_map.1 hx
   obtain ⟨w',hw',rfl⟩:=List.mem_map.1 hy
   exact (h2 a ha a' ha' w hw w' hw' e).1
theorem Aev {t:A1} (ht:A5 t) {S x:BitVec 64} {k:Nat} (hx:x∈BU t S k):Mj (PB t) x=Ak t.nodes.length fun _ _=>false:=by
 rw [PB,Jm ht.n64]
 refine Ci fun i j _ _=>?_
 rw [eq_false_iff]
 intro h
 rw [and_eq_true,and_eq_true,AC,AC] at h
 rw [A8k ht k x hx i j h.1.1 h.1.2] at h
 cases h.2
theorem A3F (s:BitVec 64):(Ay s).Pairwise (· < ·):=by
 unfold Ay
 rw [List.pairwise_map]
 unfold Ca
 exact (List.Pairwise.filter _ List.pairwise_lt_range).imp fun h=>by omega
theorem A1E (w:BitVec 64):Cc (Ay w)=w:=by
 apply B1
 intro j hj
 have h:=Lo (Ay w) (x:=(j:Int)) (by omega) (by omega)
 rw [AC] at h
 rw [h,Bool.eq_iff_iff,A9,B4,AC]
theorem AeV {a b:BitVec 64} (h:Ay a=Ay b):a=b:=by rw [<- A1E a,<- A1E b,h]
theorem Aiv {t:A1} (ht:A5 t):∀ N n,n < N->n < t.nodes.length->∃ m,m < t.nodes.length/\(m=n\/Aw t m n=true)/\(t.at m).up < 0/\(t.at m).thread=(t.at n).thread
 | 0,n,h,_=>by omega
 | N+1,n,h,hn=>by
  have hlt:=ht.up n hn
  rcases Int.lt_or_le (t.at n).up 0 with c | c
  .exact ⟨n,hn,.inl rfl,c,rfl⟩
  .obtain ⟨u,hu⟩:=Int.eq_ofNat_of_zero_le c
   have hb:Aw t u n=true:=by rw [Dd ht.up hn hu,decide_eq_true rfl,Bool.true_or]
   have h0:=Yw ht _ n (Nat.lt_succ_self _) hn hb
   obtain ⟨m,h1,h2,h3,h4⟩:=Aiv ht N u (by omega) (by omega)
   refine ⟨m,h1,.inr ?_,h3,h4.trans h0⟩
   rw [Dd ht.up hn hu,or_eq_true,decide_eq_true_eq]
   rcases h2 with h2 | h2
   .exact .inl h2.symm
   .exact .inr h2
theorem AcT {t:A1} {S:BitVec 64}:∀ k,∀ x∈BU t S k,∀ i,i < k->∃ n,n∈Dw t i/\∀ j,(CC t n).getLsbD j=true->x.getLsbD j=true
 | 0,_,_,i,h=>by omega
 | k+1,x,hx,i,h=>by
  rw [BU,List.mem_flatMap] at hx
  obtain ⟨a,ha,hx⟩:=hx
  obtain ⟨w,hw,rfl⟩:=List.mem_map.1 hx
  obtain ⟨n,hn,rfl,_⟩:=Gz hw
  by_cases c:i=k
  .subst c
   exact ⟨n,hn,fun j hj=>by rw [getLsbD_or,hj,Bool.or_true]⟩
  .obtain ⟨n,hn,h1⟩:=AcT k a ha i (by omega)
   exact ⟨n,hn,fun j hj=>by rw [getLsbD_or,h1 j hj,Bool.true_or]⟩
theorem Aht {t:A1} (ht:A5 t) {S w:BitVec 64} (hw:w∈BU t S t.regs.length):Gc t ||| w=w:=Kh.2 fun j _ hj=>by
 rw [Gc,Au,and_eq_true,and_eq_true,decide_eq_true_eq,decide_eq_true_eq] at hj
 obtain ⟨⟨h1,h2⟩,_⟩:=hj
 have:=ht.r1
 rcases Int.lt_or_le (t.at j).thread 0 with c | c
 .exact (HP ht t.regs.length w hw).2.1 (by omega) j h1 c
 .obtain ⟨i,hi⟩:=Int.eq_ofNat_of_zero_le c
  have hr:i < t.regs.length:=by
   obtain ⟨f,k1,k2⟩:=ht.kinds
   rcases k2 j h1 with h | ⟨v,hv,hj⟩ | ⟨h,_⟩
   .have:=(ht.thr_iff h1).2 h;omega
   .have h6:=(k1 v hv).2.2.1
    rw [<- hj] at h6
    omega
   .omega
  obtain ⟨n,hn,hb⟩:=AcT _ w hw i hr
  obtain ⟨h0,h7,_⟩:=Gh.1 hn
  obtain ⟨m,hm,h3,h4,h5⟩:=Aiv ht _ n (Nat.lt_succ_self _) h0
  have e:m=j:=ht.tops h1 hm c h2 h4 (by rw [h5,h7,hi])
  subst e
  exact hb m ((D9 ht).2 ⟨hm,.inr h3⟩)
def PW (t:A1) (l:List Int) (k:Nat):Nat:=((l.take k).filter fun x=>(t.at x.toNat).fin).length
theorem AeG {t:A1} {l:List Int} {k:Nat} (hk:k < l.length):PW t l (k+1)=PW t l k+(if (t.at (l[k]).toNat).fin then 1 else 0):=by
 rw [PW,List.take_succ_eq_append_getElem hk,List.filter_append,List.length_append,PW]
 congr 1
 cases h:(t.at (l[k]).toNat).fin with
 | true=>rw [List.filter_cons_of_pos (by rw [h])];rfl
 | false=>rw [List.filter_cons_of_neg (by rw [h];decide)];rfl
theorem AjR (t:A1) (l:List Int) (k:Nat):PW t l k<=l.length:=by
 rw [PW]
 refine Nat.le_trans (List.length_filter_le _ _) ?_
 rw [List.length_take];omega
theorem Ahj {t:A1} (ht:A5 t) {S w:BitVec 64} (hw:w∈BU t S t.regs.length):PW t (Ay w) (Ay w).length=t.regs.length:=by
 rw [<- AcU ht t.regs.length w hw,PW,List.take_length,Ahi,Ay,List.filter_map,List.length_map,Ca,List.filter_filter]
 congr 1
 refine List.filter_congr fun j _=>?_
 rw [Bool.and_comm]
 rfl
theorem Ano {t:A1} (ht:A5 t) {S w:BitVec 64} (hw:w∈BU t S t.regs.length) {k:Nat} (hk:k < (Ay w).length):∃ n:Nat,(Ay w)[k]=(n:Int)/\n < t.nodes.length/\(0<=(t.at n).up->Bc w (t.at n).up=true):=by
 have h:=B4.1 (List.getElem_mem hk)
 obtain ⟨h1,_⟩:=CN h
 obtain ⟨n,hn⟩:=Int.eq_ofNat_of_zero_le h1
 refine ⟨n,hn,?_⟩
 rw [hn,AC] at h
 refine ⟨((HP ht _ w hw).1 n h).1,fun h0=>?_⟩
 obtain ⟨u,hu⟩:=Int.eq_ofNat_of_zero_le h0
 rw [hu,AC]
 exact Ago ht _ w hw n u h hu
theorem Ann {w:BitVec 64} {k:Nat} (hk:k+1 < (Ay w).length):(Ay w)[k] < (Ay w)[k+1]:=(List.pairwise_iff_getElem.1 (A3F w)) k (k+1) (by omega) hk (by omega)
theorem Anp {t:A1} (ht:A5 t) {S:BitVec 64} {k:Nat} {i j:Nat} (hi:i < (BU t S k).length) (hj:j < i):Ay (BU t S k)[i]≠Ay (BU t S k)[j]:=fun e=>List.pairwise_iff_getElem.1 (A38 ht k) j i (by omega) hi hj (AeV e).symm
end Go.AM
