/-
  Own work, part of the proof of these laws: plain laws.
-/
import Derived.Test.YthhlhddnndlhkaaGreatDoorKNw
import Derived.Test.YthhlhddnndlhkaaGreatDoorKMw
set_option maxRecDepth 10000
set_option maxHeartbeats 64000000
set_option linter.unusedVariables false
set_option linter.unusedSimpArgs false
set_option linter.unusedSectionVars false
open Int (toNat_natCast)
namespace Go.AM
open Go Go.Proofs
theorem Am9 {t:A1} (ht:A5 t) {s s':A6} (hf:AG t s) {n:Nat} (h:Wlk t s n s'):∃ m,Nxt t s s' m:=by
 cases h with
 | bar _ e=>exact AcW hf e
 | read loc _ _ e=>exact Aau hf e
 | write loc _ _ e=>exact Xo ht hf e
theorem Ajq {n:Nat} (hn:n<=64) (p:Nat->Nat->Bool):Px (Ak n p)=true↔∀ i,i < n->¬ HN p n i i:=by
 rw [Px,CH hn,Bool.true_and,Ah,Aj]
 constructor
 .intro h i hi hp
  have:=h i hi
  rw [(DY hn p hi).2 hp] at this
  cases this
 .intro h i hi
  rw [Bool.not_eq_true',Bool.eq_false_iff]
  intro hb
  exact h i hi ((DY hn p hi).1 hb)
def Acy (t:A1) (s:A6):Prop:=∀ i,¬ HN (wyB t s) t.nodes.length i i
theorem Abl {t:A1} (ht:A5 t) {s:A6} (h:Acy t s):Px (Ak t.nodes.length (wyB t s))=true:=(Ajq ht.n64 _).2 fun i _=>h i
theorem Acu {t:A1} (ht:A5 t):Acy t (Bu t):=by
 have edge:∀ a b:Nat,wyB t (Bu t) a b=true->a < b:=fun a b h=>by
  simp only [wyB,wyE,Bool.and_eq_true,Bool.or_eq_true,decide_eq_true_eq,A9] at h
  rcases h.2 with h2 | h2
  .exact EO ht h2
  .exfalso
   have hf:=Ly ht
   have hF:=AY (AJ (AE.2 hf))
   obtain ⟨m,e,hm,hu⟩:=H7.1 h.1.2
   have e:b=m:=by omega
   subst e
   have hk:(t.at b).kind≠2:=by rcases Rs ht hm hu with c | c<;>omega
   have:=hF.none b h.1.2 (by rw [toNat_natCast];exact hk)
   omega
 have key:∀ {a b:Nat},HN (wyB t (Bu t)) t.nodes.length a b->a < b:=fun {a b} h=>by
  induction h with
  | one _ h=>exact edge _ _ h
  | more _ _ h ih=>have:=edge _ _ h;omega
 intro i h
 have:=key h
 omega
theorem AdC {t:A1} (ht:A5 t) {s s':A6} (hf:AG t s) {n:Nat} (X:Nxt t s s' n) (h:Acy t s):Acy t s':=by
 have hF:=AY (AJ (AE.2 hf))
 have hF':=AY (AJ (AE.2 X.form))
 have edge:∀ a b:Nat,wyB t s' a b=true->a≠n/\(b=n\/wyB t s a b=true):=fun a b h=>by
  simp only [wyB,wyE,Bool.and_eq_true,Bool.or_eq_true,decide_eq_true_eq,A9] at h ⊢
  obtain ⟨⟨ha,hb⟩,h⟩:=h
  have hbo:b=n\/(b:Int)∈s.has:=by
   rcases (X.has _).1 hb with e | e
   .exact .inl (by omega)
   .exact .inr e
  rcases hbo with rfl | hbs
  .refine ⟨fun e=>?_,.inl rfl⟩
   subst e
   rcases h with h | h
   .have:=EO ht h;omega
   .by_cases hk:(t.at a).kind=2
    .have:=X.src hk
     rw [h] at this
     exact X.no this
    .have:=hF'.none a hb (by rw [toNat_natCast];exact hk)
     omega
  .have hon:Ey s'.has s'.jf b=Ey s.has s.jf b:=X.ext.on _ hbs
   have han:(a:Int)∈s.has:=by
    rcases (X.has _).1 ha with e | e
    .exfalso
     have e:a=n:=by omega
     subst e
     rcases h with h | h
     .have:=Acb ht hf X b hbs
      rw [h] at this;cases this
     .rw [hon] at h
      by_cases hk:(t.at b).kind=2
      .have:=(hF.read b hbs (by rw [toNat_natCast];exact hk)).1
       rw [h] at this
       exact X.no this
      .have:=hF.none b hbs (by rw [toNat_natCast];exact hk)
       omega
    .exact e
   refine ⟨fun e=>X.no (by rw [<- e];exact han),.inr ⟨⟨han,hbs⟩,?_⟩⟩
   rw [<- hon];exact h
 have key:∀ {a b:Nat},HN (wyB t s') t.nodes.length a b->a≠n/\(b=n\/HN (wyB t s) t.nodes.length a b):=fun {a b} h=>by
  induction h with
  | one hb h =>
   obtain ⟨h1,h2⟩:=edge _ _ h
   refine ⟨h1,?_⟩
   rcases h2 with h2 | h2
   .exact .inl h2
   .exact .inr (.one hb h2)
  | more _ hc h ih =>
   obtain ⟨h1,h2⟩:=edge _ _ h
   refine ⟨ih.1,?_⟩
   rcases h2 with h2 | h2
   .exact .inl h2
   .rcases ih.2 with e | e
    .exact absurd e h1
    .exact .inr (.more e hc h2)
 intro i hp
 obtain ⟨h1,h2⟩:=key hp
 rcases h2 with e | e
 .exact h1 e
 .exact h i e
theorem AgO {t:A1} (ht:A5 t) {s:A6} (h:DM t s=true):Bd t s=true/\Me t s=true:=by
 rw [AgN t ht,Bool.and_eq_true] at h
 exact h
theorem A8y {t:A1} (ht:A5 t) {s:A6} (hf:AG t s) (hc:Abd t s) (hac:Acy t s) (hco:DM t s=true):GB t s=0:=by
 have hF:=AY (AJ (AE.2 hf))
 have node:∀ i,i < s.has.length->∃ m:Nat,s.has.getD i 0=m/\(m:Int)∈s.has/\Ey s.has s.jf m=s.jf.getD i 0:=fun i hi=>by
  have hm:=Ai (d:=0) hi
  obtain ⟨m,e,hml⟩:=A8 (hf.node _ hm)
  have:=hF.at_ i hi
  rw [e] at this hm
  exact ⟨m,e,hm,this⟩
 have src:∀ m:Nat,(m:Int)∈s.has->∀ w,Ey s.has s.jf m=w->0<=w->∃ x:Nat,w=x/\(x:Int)∈s.has:=fun m hm w hw h0=>by
  have hk:(t.at m).kind=2:=by
   apply Classical.byContradiction
   intro hk
   have:=hF.none m hm (by rw [toNat_natCast];exact hk)
   omega
  obtain ⟨q1,_,_⟩:=hF.read m hm (by rw [toNat_natCast];exact hk)
  rw [hw] at q1
  obtain ⟨x,e,_⟩:=A8 (hf.node _ q1)
  rw [e] at q1
  exact ⟨x,e,q1⟩
 unfold GB
 rw [if_neg (by rw [AE.2 hf];decide),if_neg (by rw [Abl ht hac];decide)]
 rw [if_neg,if_neg,if_neg,if_neg (by rw [(AgO ht hco).2];decide)]
 .rw [Bool.not_eq_false,Ah]
  intro i hi
  obtain ⟨m,e,hm,ho⟩:=node i hi
  rw [e,RH]
  by_cases c:0<=s.jf.getD i 0
  .obtain ⟨x,ex,hx⟩:=src m hm _ ho c
   rw [ex,toNat_natCast,Zd ht hf hc hx];simp
  .rw [decide_eq_false c];rfl
 .rw [Bool.not_eq_false,Ah]
  intro i hi
  obtain ⟨m,e,hm,ho⟩:=node i hi
  rw [e,wy4]
  by_cases c:0<=s.jf.getD i 0
  .obtain ⟨x,ex,hx⟩:=src m hm _ ho c
   rw [ex,toNat_natCast,toNat_natCast,MT ht hf hc hx hm,Bool.and_false];rfl
  .rw [decide_eq_false c];rfl
 .rw [Bool.not_eq_false,Ah]
  intro i hi
  obtain ⟨m,e,hm,ho⟩:=node i hi
  rw [e,wy3,toNat_natCast,MT ht hf hc hm hm];rfl
theorem QX {t:A1} (ht:A5 t) {s:A6} (hf:AG t s):Me t s=DM t s:=by
 rw [AgN t ht,AE.2 hf,Bool.true_and]
def LY (t:A1) (s:A6):Int:=if Bd t s=false then 1 else if Px (Ak t.nodes.length (Bw t s s.has.length))=false then 2 else
 if ((List.range s.has.length).all fun i=>Ef t s (s.has.getD i 0).toNat)=false then 3 else
 if ((List.range s.has.length).all fun i=>!(decide (0<=s.jf.getD i 0) && BR t s (s.has.getD i 0).toNat (s.jf.getD i 0).toNat))=false then 4 else
 if ((List.range s.has.length).all fun i=>!RH t s (s.has.getD i 0) (s.jf.getD i 0))=false then 5 else
 if DM t s=false then 6 else 0
theorem AlR {t:A1} (ht:A5 t) {s:A6} (hf:AG t s) (a b:Nat):Bw t s s.has.length a b=wyB t s a b:=by
 have hF:=AY (AJ (AE.2 hf))
 rw [Bool.eq_iff_iff,KG ht hf,wyB,wyE]
 simp only [Bool.and_eq_true,Bool.or_eq_true,decide_eq_true_eq,A9]
 constructor
 .rintro ⟨hb,h⟩
  rcases h with ⟨ha,h⟩ | h
  .exact ⟨⟨ha,hb⟩,.inl h⟩
  .refine ⟨⟨?_,hb⟩,.inr h⟩
   by_cases hk:(t.at b).kind=2
   .have:=(hF.read b hb (by rw [toNat_natCast];exact hk)).1
    rwa [h] at this
   .have:=hF.none b hb (by rw [toNat_natCast];exact hk)
    omega
 .rintro ⟨⟨ha,hb⟩,h⟩
  refine ⟨hb,?_⟩
  rcases h with h | h
  .exact .inl ⟨ha,h⟩
  .exact .inr h
theorem AiT {t:A1} (ht:A5 t) (s:A6):LY t s=GB t s:=by
 unfold LY GB
 cases hf':Bd t s with
 | false=>rw [if_pos rfl,if_pos rfl]
 | true =>
 have hf:=AE.1 hf'
 have hF:=AY (AJ hf')
 have er:Ak t.nodes.length (Bw t s s.has.length)=Ak t.nodes.length (wyB t s):=Ci fun a b _ _=>AlR ht hf a b
 rw [er]
 have e4:((List.range s.has.length).all fun i=>!(decide (0<=s.jf.getD i 0) && BR t s (s.has.getD i 0).toNat (s.jf.getD i 0).toNat))=((List.range s.has.length).all fun i=>!wy4 t s (s.has.getD i 0) (s.jf.getD i 0)):=by
  rw [Bool.eq_iff_iff,Ah,Ah]
  refine forall_congr' fun i=>forall_congr' fun hi=>?_
  have hm:=Ai (d:=0) hi
  obtain ⟨m,e,hml⟩:=A8 (hf.node _ hm)
  have ho:=hF.at_ i hi
  rw [e] at ho hm
  rw [wy4,e]
  by_cases c:0<=s.jf.getD i 0
  .have hk:(t.at m).kind=2:=by
    apply Classical.byContradiction
    intro hk
    have:=hF.none m hm (by rw [toNat_natCast];exact hk)
    omega
   have q1:=(hF.read m hm (by rw [toNat_natCast];exact hk)).1
   rw [ho] at q1
   obtain ⟨x,ex,hx⟩:=A8 (hf.node _ q1)
   rw [ex,toNat_natCast,toNat_natCast,A8H ht hml hx]
  .rw [decide_eq_false c,Bool.false_and,Bool.false_and]
 have e3:((List.range s.has.length).all fun i=>Ef t s (s.has.getD i 0).toNat)=((List.range s.has.length).all fun i=>!wy3 t s (s.has.getD i 0)):=by
  congr 1
 rw [e3,e4,<- QX ht hf]
end Go.AM
