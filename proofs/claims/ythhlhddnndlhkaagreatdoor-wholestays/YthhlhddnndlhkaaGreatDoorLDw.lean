/-
  Own work, part of the proof of these laws: plain laws.
-/
import Derived.Test.YthhlhddnndlhkaaGreatDoorKNw
import Derived.Test.YthhlhddnndlhkaaGreatDoorKMw
set_option maxRecDepth 10000
set_option maxHeartbeats 64000000
set_option linter.unusedVariables false
set_option linter.unusedSimpArgs false
set_option linter.unusedSectionVars false
set_option linter.unnecessarySimpa false
open Int (toNat_natCast)
namespace Go.AM
open Go Go.Proofs
theorem Ajq {n:Nat} (hn:n<=64) (p:Nat->Nat->Bool):Px (Ak n p)=true↔∀ i,i < n->¬ HN p n i i:=by
 rw [Px,CH hn,Bool.true_and,Ah,Aj]
 constructor
 .intro h i hi hp
  have:=h i hi
  rw [(DY hn p hi).2 hp] at this
  cases this
 .intro h i hi
  rw [Bool.not_eq_true',Bool.eq_false_iff]
  intro hb
  exact h i hi ((DY hn p hi).1 hb)
def Acy (t:A1) (s:A6):Prop:=∀ i,¬ HN (wyB t s) t.nodes.length i i
theorem Abl {t:A1} (ht:A5 t) {s:A6} (h:Acy t s):Px (Ak t.nodes.length (wyB t s))=true:=(Ajq ht.n64 _).2 fun i _=>h i
theorem Acu {t:A1} (ht:A5 t):Acy t (Bu t):=by
 have edge:∀ a b:Nat,wyB t (Bu t) a b=true->a < b:=fun a b h=>by
  simp only [wyB,wyE,Bool.and_eq_true,Bool.or_eq_true,decide_eq_true_eq,A9] at h
  rcases h.2 with h2 | h2
  .exact EO ht h2
  .exfalso
   have hf:=Ly ht
   have hF:=AY (AJ (AE.2 hf))
   obtain ⟨m,e,hm,hu⟩:=H7.1 h.1.2
   have e:b=m:=by omega
   subst e
   have hk:(t.at b).kind≠2:=by rcases Rs ht hm hu with c | c<;>omega
   have:=hF.none b h.1.2 (by rw [toNat_natCast];exact hk)
   omega
 have key:∀ {a b:Nat},HN (wyB t (Bu t)) t.nodes.length a b->a < b:=fun {a b} h=>by
  induction h with
  | one _ h=>exact edge _ _ h
  | more _ _ h ih=>have:=edge _ _ h;omega
 intro i h
 have:=key h
 omega
theorem AdC {t:A1} (ht:A5 t) {s s':A6} (hf:AG t s) {n:Nat} (X:Nxt t s s' n) (h:Acy t s):Acy t s':=by
 have hF:=AY (AJ (AE.2 hf))
 have hF':=AY (AJ (AE.2 X.form))
 have edge:∀ a b:Nat,wyB t s' a b=true->a≠n/\(b=n\/wyB t s a b=true):=fun a b h=>by
  simp only [wyB,wyE,Bool.and_eq_true,Bool.or_eq_true,decide_eq_true_eq,A9] at h ⊢
  obtain ⟨⟨ha,hb⟩,h⟩:=h
  have hbo:b=n\/(b:Int)∈s.has:=by
   rcases (X.has _).1 hb with e | e
   .exact .inl (by omega)
   .exact .inr e
  rcases hbo with rfl | hbs
  .refine ⟨fun e=>?_,.inl rfl⟩
   subst e
   rcases h with h | h
   .have:=EO ht h;omega
   .by_cases hk:(t.at a).kind=2
    .have:=X.src hk
     rw [h] at this
     exact X.no this
    .have:=hF'.none a hb (by rw [toNat_natCast];exact hk)
     omega
  .have hon:Ey s'.has s'.jf b=Ey s.has s.jf b:=X.ext.on _ hbs
   have han:(a:Int)∈s.has:=by
    rcases (X.has _).1 ha with e | e
    .exfalso
     have e:a=n:=by omega
     subst e
     rcases h with h | h
     .have:=Acb ht hf X b hbs
      rw [h] at this;cases this
     .rw [hon] at h
      by_cases hk:(t.at b).kind=2
      .have:=(hF.read b hbs (by rw [toNat_natCast];exact hk)).1
       rw [h] at this
       exact X.no this
      .have:=hF.none b hbs (by rw [toNat_natCast];exact hk)
       omega
    .exact e
   refine ⟨fun e=>X.no (by rw [<- e];exact han),.inr ⟨⟨han,hbs⟩,?_⟩⟩
   rw [<- hon];exact h
 have key:∀ {a b:Nat},HN (wyB t s') t.nodes.length a b->a≠n/\(b=n\/HN (wyB t s) t.nodes.length a b):=fun {a b} h=>by
  induction h with
  | one hb h =>
   obtain ⟨h1,h2⟩:=edge _ _ h
   refine ⟨h1,?_⟩
   rcases h2 with h2 | h2
   .exact .inl h2
   .exact .inr (.one hb h2)
  | more _ hc h ih =>
   obtain ⟨h1,h2⟩:=edge _ _ h
   refine ⟨ih.1,?_⟩
   rcases h2 with h2 | h2
   .exact .inl h2
   .rcases ih.2 with e | e
    .exact absurd e h1
    .exact .inr (.more e hc h2)
 intro i hp
 obtain ⟨h1,h2⟩:=key hp
 rcases h2 with e | e
 .exact h1 e
 .exact h i e
theorem QY {t:A1} (ht:A5 t) (m:List U8):∀ k,Acy t (BH t m k)
 | 0=>Acu ht
 | k+1=>by
  have ih:=QY ht m k
  cases e:Gk t (BH t m k) (KU m (2 * k)) (KU m (2 * k+1)) with
  | none=>rw [J5 e];exact ih
  | some s'=>rw [J6 e];obtain ⟨n,h⟩:=R8 ht (Co ht m k) e;exact AdC ht (Co ht m k) h ih
theorem YI {t:A1} (ht:A5 t) {s s':A6} (hf:AG t s) (h:Lst t s s') {a b:Nat} (ha:(a:Int)∈s.has) (hb:(b:Int)∈s.has):BR t s' a b=BR t s a b:=by
 obtain ⟨_,e1,hal⟩:=A8 (hf.node _ ha)
 obtain ⟨_,e2,hbl⟩:=A8 (hf.node _ hb)
 rw [Bool.eq_iff_iff,JM ht (by omega) (by omega),JM ht (by omega) (by omega)]
 constructor
 .rintro ⟨x,y,hx,hy,h1,h2,h3⟩
  rw [h.dn a x ha hx] at h1
  rw [h.dn b y hb hy] at h2
  exact ⟨x,y,hx,hy,h1,h2,h3⟩
 .rintro ⟨x,y,hx,hy,h1,h2,h3⟩
  exact ⟨x,y,hx,hy,by rw [h.dn a x ha hx];exact h1,by rw [h.dn b y hb hy];exact h2,h3⟩
theorem Ab4 {t:A1} (ht:A5 t) {s:A6} (hf:AG t s) (hac:Acy t s):GB t s =
  if ((List.range s.has.length).all fun i=>!wy3 t s (s.has.getD i 0))=false then 3 else
  if ((List.range s.has.length).all fun i=>!wy4 t s (s.has.getD i 0) (s.jf.getD i 0))=false then 4 else
  if ((List.range s.has.length).all fun i=>!RH t s (s.has.getD i 0) (s.jf.getD i 0))=false then 5 else
  if Me t s=false then 6 else 0:=by
 rw [GB,if_neg (by rw [AE.2 hf];decide),if_neg (by rw [Abl ht hac];decide)]
theorem QX {t:A1} (ht:A5 t) {s:A6} (hf:AG t s):Me t s=DM t s:=by
 rw [AgN t ht,AE.2 hf,Bool.true_and]
theorem A7U {t:A1} {s:A6} (hf:AG t s):((List.range s.has.length).all fun i=>!wy3 t s (s.has.getD i 0))=true↔∀ m:Nat,(m:Int)∈s.has->BR t s m m=false:=by
 rw [Ah]
 constructor
 .intro h m hm
  obtain ⟨i,hi,e⟩:=List.getElem_of_mem hm
  have:=h i hi
  rw [List.getD_eq_getElem?_getD,List.getElem?_eq_getElem hi,Option.getD_some,e,wy3,toNat_natCast,Bool.not_eq_true'] at this
  exact this
 .intro h i hi
  have hm:=Ai (d:=0) hi
  obtain ⟨m,e,_⟩:=A8 (hf.node _ hm)
  rw [e] at hm ⊢
  rw [wy3,toNat_natCast,h m hm];rfl
theorem Ae6 {t:A1} {s:A6} (hf:AG t s):((List.range s.has.length).all fun i=>!wy4 t s (s.has.getD i 0) (s.jf.getD i 0))=true↔∀ m w:Nat,(m:Int)∈s.has->Ey s.has s.jf m=w->BR t s w m=false:=by
 have hF:=AY (AJ (AE.2 hf))
 rw [Ah]
 constructor
 .intro h m w hm hw
  obtain ⟨i,hi,e⟩:=List.getElem_of_mem hm
  have eg:s.has.getD i 0=(m:Int):=by rw [List.getD_eq_getElem?_getD,List.getElem?_eq_getElem hi];exact e
  have ho:=hF.at_ i hi
  rw [eg,hw] at ho
  have:=h i hi
  rw [eg,<- ho,wy4,decide_eq_true (show (0:Int)<=(w:Int) by omega),Bool.true_and,toNat_natCast,toNat_natCast,Bool.not_eq_true'] at this
  exact this
 .intro h i hi
  have hm:=Ai (d:=0) hi
  obtain ⟨m,e,_⟩:=A8 (hf.node _ hm)
  have ho:=hF.at_ i hi
  rw [e] at hm ho ⊢
  by_cases c:0<=s.jf.getD i 0
  .obtain ⟨w,hw⟩:=Int.eq_ofNat_of_zero_le c
   rw [hw] at ho ⊢
   rw [wy4,toNat_natCast,toNat_natCast,h m w hm ho,Bool.and_false];rfl
  .rw [wy4,decide_eq_false c];rfl
theorem AfW {t:A1} (ht:A5 t) {a b:A6} (hfa:AG t a) (hfb:AG t b) (haa:Acy t a) (hab:Acy t b) (h:Lst t a b) (hco:DM t b=true->DM t a=true) (h0:GB t a≠0) (h5:GB t a≠5):GB t b≠0:=by
 intro hb
 rw [Ab4 ht hfb hab] at hb
 have hFa:=AY (AJ (AE.2 hfa))
 split at hb
 .omega
 .rename_i b3
  rw [Bool.not_eq_false,A7U hfb] at b3
  split at hb
  .omega
  .rename_i b4
   rw [Bool.not_eq_false,Ae6 hfb] at b4
   split at hb
   .omega
   .split at hb
    .omega
    .rename_i b6
     rw [Bool.not_eq_false,QX ht hfb] at b6
     rw [Ab4 ht hfa haa,if_neg (by
      rw [Bool.not_eq_false,A7U hfa]
      intro m hm
      rw [<- YI ht hfa h hm hm]
      exact b3 m (h.has _ hm)),if_neg (by
      rw [Bool.not_eq_false,Ae6 hfa]
      intro m w hm hw
      have hk:(t.at m).kind=2:=by
       apply Classical.byContradiction
       intro hk
       have:=hFa.none m hm (by rw [toNat_natCast];exact hk)
       omega
      obtain ⟨q1,_,_⟩:=hFa.read m hm (by rw [toNat_natCast];exact hk)
      rw [hw] at q1
      rw [<- YI ht hfa h q1 hm]
      exact b4 m w (h.has _ hm) (by rw [h.on _ hm,hw]))] at h0 h5
     split at h0
     .rename_i c
      rw [if_pos c] at h5
      exact h5 rfl
     .split at h0
      .rename_i c6
       rw [QX ht hfa,hco b6] at c6
       cases c6
      .exact h0 rfl
def LY (t:A1) (s:A6):Int:=if Bd t s=false then 1 else if Px (Ak t.nodes.length (Bw t s s.has.length))=false then 2 else
 if ((List.range s.has.length).all fun i=>Ef t s (s.has.getD i 0).toNat)=false then 3 else
 if ((List.range s.has.length).all fun i=>!(decide (0<=s.jf.getD i 0) && BR t s (s.has.getD i 0).toNat (s.jf.getD i 0).toNat))=false then 4 else
 if ((List.range s.has.length).all fun i=>!RH t s (s.has.getD i 0) (s.jf.getD i 0))=false then 5 else
 if DM t s=false then 6 else 0
theorem AlR {t:A1} (ht:A5 t) {s:A6} (hf:AG t s) (a b:Nat):Bw t s s.has.length a b=wyB t s a b:=by
 have hF:=AY (AJ (AE.2 hf))
 rw [Bool.eq_iff_iff,KG ht hf,wyB,wyE]
 simp only [Bool.and_eq_true,Bool.or_eq_true,decide_eq_true_eq,A9]
 constructor
 .rintro ⟨hb,h⟩
  rcases h with ⟨ha,h⟩ | h
  .exact ⟨⟨ha,hb⟩,.inl h⟩
  .refine ⟨⟨?_,hb⟩,.inr h⟩
   by_cases hk:(t.at b).kind=2
   .have:=(hF.read b hb (by rw [toNat_natCast];exact hk)).1
    rwa [h] at this
   .have:=hF.none b hb (by rw [toNat_natCast];exact hk)
    omega
 .rintro ⟨⟨ha,hb⟩,h⟩
  refine ⟨hb,?_⟩
  rcases h with h | h
  .exact .inl ⟨ha,h⟩
  .exact .inr h
theorem AiT {t:A1} (ht:A5 t) (s:A6):LY t s=GB t s:=by
 unfold LY GB
 cases hf':Bd t s with
 | false=>rw [if_pos rfl,if_pos rfl]
 | true =>
 have hf:=AE.1 hf'
 have hF:=AY (AJ hf')
 have er:Ak t.nodes.length (Bw t s s.has.length)=Ak t.nodes.length (wyB t s):=Ci fun a b _ _=>AlR ht hf a b
 rw [er]
 have e4:((List.range s.has.length).all fun i=>!(decide (0<=s.jf.getD i 0) && BR t s (s.has.getD i 0).toNat (s.jf.getD i 0).toNat))=((List.range s.has.length).all fun i=>!wy4 t s (s.has.getD i 0) (s.jf.getD i 0)):=by
  rw [Bool.eq_iff_iff,Ah,Ah]
  refine forall_congr' fun i=>forall_congr' fun hi=>?_
  have hm:=Ai (d:=0) hi
  obtain ⟨m,e,hml⟩:=A8 (hf.node _ hm)
  have ho:=hF.at_ i hi
  rw [e] at ho hm
  rw [wy4,e]
  by_cases c:0<=s.jf.getD i 0
  .have hk:(t.at m).kind=2:=by
    apply Classical.byContradiction
    intro hk
    have:=hF.none m hm (by rw [toNat_natCast];exact hk)
    omega
   have q1:=(hF.read m hm (by rw [toNat_natCast];exact hk)).1
   rw [ho] at q1
   obtain ⟨x,ex,hx⟩:=A8 (hf.node _ q1)
   rw [ex,toNat_natCast,toNat_natCast,A8H ht hml hx]
  .rw [decide_eq_false c,Bool.false_and,Bool.false_and]
 have e3:((List.range s.has.length).all fun i=>Ef t s (s.has.getD i 0).toNat)=((List.range s.has.length).all fun i=>!wy3 t s (s.has.getD i 0)):=by
  congr 1
 rw [e3,e4,<- QX ht hf]
theorem AiU {t:A1} (ht:A5 t) {s:A6} (hf:AG t s) (hac:Acy t s) :
  GB t s≠1/\GB t s≠2/\(GB t s=0->DM t s=true)/\(GB t s=6->DM t s=false)/\(GB t s=3↔∃ m:Nat,(m:Int)∈s.has/\Ef t s m=false):=by
 have hf':=AE.2 hf
 have h3:((List.range s.has.length).all fun i=>!wy3 t s (s.has.getD i 0))=false↔∃ m:Nat,(m:Int)∈s.has/\Ef t s m=false:=by
  rw [<- Bool.not_eq_true,A7U hf]
  constructor
  .intro h
   apply Classical.byContradiction
   intro hn
   refine h fun m hm=>?_
   rw [<- Bool.not_eq_true]
   intro hc
   exact hn ⟨m,hm,by rw [Ef,hc];rfl⟩
  .rintro ⟨m,hm,hs⟩ h
   rw [Ef,h m hm] at hs
   cases hs
 unfold GB
 rw [if_neg (by rw [hf'];decide),if_neg (by rw [Abl ht hac];decide),<- QX ht hf]
 by_cases c3:((List.range s.has.length).all fun i=>!wy3 t s (s.has.getD i 0))=false
 .rw [if_pos c3]
  refine ⟨by decide,by decide,fun h=>absurd h (by decide),fun h=>absurd h (by decide),?_⟩
  rw [<- h3]
  exact ⟨fun _=>c3,fun _=>rfl⟩
 rw [if_neg c3]
 have n3:¬ ∃ m:Nat,(m:Int)∈s.has/\Ef t s m=false:=fun h=>c3 (h3.2 h)
 by_cases c4:((List.range s.has.length).all fun i=>!wy4 t s (s.has.getD i 0) (s.jf.getD i 0))=false
 .rw [if_pos c4]
  exact ⟨by decide,by decide,fun h=>absurd h (by decide),fun h=>absurd h (by decide),fun h=>absurd h (by decide),fun h=>absurd h n3⟩
 rw [if_neg c4]
 by_cases c5:((List.range s.has.length).all fun i=>!RH t s (s.has.getD i 0) (s.jf.getD i 0))=false
 .rw [if_pos c5]
  exact ⟨by decide,by decide,fun h=>absurd h (by decide),fun h=>absurd h (by decide),fun h=>absurd h (by decide),fun h=>absurd h n3⟩
 rw [if_neg c5]
 by_cases c6:Me t s=false
 .rw [if_pos c6]
  exact ⟨by decide,by decide,fun h=>absurd h (by decide),fun _=>c6,fun h=>absurd h (by decide),fun h=>absurd h n3⟩
 .rw [if_neg c6]
  exact ⟨by decide,by decide,fun _=>by simpa using c6,fun h=>absurd h (by decide),fun h=>absurd h (by decide),fun h=>absurd h n3⟩
theorem A17 {t:A1} {m m':List U8}:∀ k,(∀ i,i < 2 * k->KU m i=KU m' i)->BH t m k=BH t m' k
 | 0,_=>rfl
 | k+1,h=>by rw [BH,BH,A17 k (fun i hi=>h i (by omega)),h (2 * k) (by omega),h (2 * k+1) (by omega)]
theorem AcY {m k:List U8} {i:Nat} (h:i < m.length):KU (m++k) i=KU m i:=by
 unfold KU
 rw [List.getD_eq_getElem?_getD,List.getD_eq_getElem?_getD,List.getElem?_append_left h]
theorem A78 {t:A1} (ht:A5 t) {m k:List U8} (he:m.length % 2=0):Lst t (BH t m (m.length / 2)) (BH t (m++k) ((m++k).length / 2)):=by
 rw [A17 (t:=t) (m:=m) (m':=m++k) (m.length / 2) (fun i hi=>(AcY (by omega)).symm)]
 have e:(m++k).length / 2=m.length / 2+k.length / 2:=by rw [List.length_append];omega
 rw [e]
 exact A9Z ht (m++k) (m.length / 2) (k.length / 2)
def G4 (m:List U8):List U8:=m.take (m.length / 2 * 2)
theorem A6P (m:List U8):(G4 m).length=m.length / 2 * 2:=by rw [G4,List.length_take];omega
theorem MV {m:List U8} {x:U8} (h:x∈G4 m):x∈m:=List.mem_of_mem_take h
end Go.AM
