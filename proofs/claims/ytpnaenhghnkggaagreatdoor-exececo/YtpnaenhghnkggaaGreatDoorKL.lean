/-
  Own work, part of the proof of these laws: what functions compute.
-/
import Derived.Test.YtpnaenhghnkggaaGreatDoorKK
set_option maxRecDepth 10000
set_option maxHeartbeats 64000000
set_option linter.unusedVariables false
set_option linter.unusedSimpArgs false
set_option linter.unusedSectionVars false
namespace Go.AM
open Go Go.Proofs
def hgW (t:A1) (s:A8) (e:Nat):BitVec 64:=(Ax t.nodes.length (hgB t s)).getD e 0#64
structure HgI (t:A1) (s:A8) (e:Nat) (S:BitVec 64) (L:List Int) (i:Nat):Prop where
 le:i<=L.length
 reach:∀ x∈L,∃ m:Nat,x=m/\m < t.nodes.length/\(m:Int)∈s.has/\hgB t s e m=true
 done:∀ j,j < i->S.getLsbD (L.getD j 0).toNat=true
 sub:∀ m:Nat,S.getLsbD m=true->hgB t s e m=true/\m < t.nodes.length
 clo:∀ m:Nat,S.getLsbD m=true->∀ r∈QB t s m,r∈L
 first:(e:Int)∈L
 size:L.length+6 * A9c S<=1+6 * 64
section
variable {t:A1} (ht:A5 t) {s:A8} (hf:AX t s) {e:Nat} (he:(e:Int)∈s.has) {S:BitVec 64} {L:List Int} {i:Nat} (I:HgI t s e S L i)
include ht hf he I
theorem HgI.skip (hi:i < L.length) {m:Nat} (hm:L.getD i 0=(m:Int)) (h:S.getLsbD m=true):HgI t s e S L (i+1) :=
 ⟨hi,I.reach,fun j hj=>by
  by_cases c:j=i
  .rw [c,hm];exact h
  .exact I.done j (by omega),I.sub,I.clo,I.first,I.size⟩
theorem HgI.put (hi:i < L.length) {m:Nat} (hm:L.getD i 0=(m:Int)) (h:S.getLsbD m=false):HgI t s e (S ||| Cl (m:Int)) (L++QB t s m) (i+1):=by
 have hc:=ht.n64
 obtain ⟨m',e1,h9,h8,h4⟩:=I.reach _ (Af (d:=0) hi)
 rw [hm] at e1
 have e1:m=m':=by omega
 subst e1
 have h7:e < t.nodes.length:=by
  obtain ⟨_,e2,h2⟩:=Aa (hf.node _ he);omega
 have hb:∀ x:Nat,(S ||| Cl (m:Int)).getLsbD x=true↔S.getLsbD x=true\/x=m:=fun x=>by
  rw [BitVec.getLsbD_or,Bool.or_eq_true,C3]
  simp only [decide_eq_true_eq]
  constructor
  .rintro (h | h)
   .exact .inl h
   .exact .inr (by omega)
  .rintro (h | h)
   .exact .inl h
   .exact .inr ⟨by omega,by omega⟩
 have h0:∀ j,j < L.length->(L++QB t s m).getD j 0=L.getD j 0:=fun j hj=>by
  rw [List.getD_eq_getElem?_getD,List.getElem?_append_left hj,<- List.getD_eq_getElem?_getD]
 refine ⟨by rw [List.length_append];omega,fun x hx=>?_,fun j hj=>?_,fun x hx=>?_,fun x hx r hr=>?_,List.mem_append_left _ I.first,?_⟩
 .rcases List.mem_append.1 hx with hx | hx
  .exact I.reach x hx
  .obtain ⟨r,rfl,h5,ha,h6⟩:=Aaz ht hf h8 hx
   refine ⟨r,rfl,h5,ha,?_⟩
   rw [A9j ht h7] at h4 ⊢
   left
   rcases h4 with h | h
   .exact .more h h5 h6
   .rw [h];exact .one h5 h6
 .rw [h0 j (by omega),hb]
  by_cases c:j=i
  .right;rw [c,hm,Int.toNat_natCast]
  .exact .inl (I.done j (by omega))
 .rcases (hb x).1 hx with h | h
  .exact I.sub x h
  .rw [h];exact ⟨h4,h9⟩
 .rcases (hb x).1 hx with h | h
  .exact List.mem_append_left _ (I.clo x h r hr)
  .rw [h] at hr;exact List.mem_append_right _ hr
 .have h1:=A9d (S:=S) (n:=m) (by omega) h
  have h2:=Aay t ht s m
  have h3:=I.size
  rw [List.length_append];omega
theorem HgI.fin (hi:¬ i < L.length):S=hgW t s e:=by
 have h3:=ht.n64
 have h1:e < t.nodes.length:=by
  obtain ⟨_,e2,h2⟩:=Aa (hf.node _ he);omega
 have h0:∀ r:Nat,(r:Int)∈L->S.getLsbD r=true:=fun r hr=>by
  obtain ⟨j,hj,ej⟩:=List.getElem_of_mem hr
  have:=I.done j (by have:=I.le;omega)
  rw [List.getD_eq_getElem?_getD,List.getElem?_eq_getElem hj,Option.getD_some,ej,Int.toNat_natCast] at this
  exact this
 apply B4
 intro j hj
 rw [hgW,List.getD_eq_getElem?_getD,Ce h1,Option.getD_some,Aw,decide_eq_true hj,Bool.and_true,Bool.eq_iff_iff,Bool.and_eq_true,decide_eq_true_eq]
 constructor
 .intro h
  exact ⟨(I.sub j h).2,(I.sub j h).1⟩
 .rintro ⟨_,h⟩
  exact (A36 ht hf (S:=fun m=>S.getLsbD m=true) (fun n hn _ r hr=>h0 r (I.clo n hn _ hr)) he (h0 e I.first) h).1
end
theorem G0.sub {t:A1}:∀ {n u e:Nat},G0 t n u e->∀ m,u<=m->m < e->∃ n' e',G0 t n' m e':=by
 intro n
 induction n with
 | zero=>intro u e h;exact absurd h (by simp [G0])
 | succ n ih =>
  intro u e h m h1 h2
  rcases Nat.eq_or_lt_of_le h1 with c | c
  .rw [<- c];exact ⟨n+1,e,h⟩
  .obtain ⟨⟨_,ht,_⟩,h⟩:=h
   rcases h with ⟨_,_,rfl⟩ | ⟨_,_,_,al,hb⟩ | ⟨_,_,_,vals,k,loc,mode,_,hv0,hk0,hke,hloc,hs,_⟩
   .omega
   .exact ih hb m (by omega) h2
   .obtain ⟨v,hv,a,b⟩:=Cw (k:=k) (m:=m) vals (by omega) (by omega)
    exact ih (hs v hv).2.2 m a b
theorem G0.wval {t:A1}:∀ {n u e:Nat},G0 t n u e->∀ m,u < m->m < e->(t.at m).kind=3->EL t (t.at m).val=true:=by
 intro n
 induction n with
 | zero=>intro u e h;exact absurd h (by simp [G0])
 | succ n ih =>
  intro u e h m h1 h2 hk
  obtain ⟨⟨_,ht,_⟩,h⟩:=h
  rcases h with ⟨_,_,rfl⟩ | ⟨c,_,_,al,hb⟩ | ⟨c,_,_,vals,k,loc,mode,_,hv0,hk0,hke,hloc,hs,_⟩
  .omega
  .by_cases e1:m=u+1
   .subst e1
    simp only [CG,Bool.or_eq_true,Bool.and_eq_true,decide_eq_true_eq] at al
    rcases al with h | h
    .have:=h.1.1.1.1.1;omega
    .exact h.1.2
   .exact ih hb m (by omega) h2 hk
  .obtain ⟨v,hv,a,b⟩:=Cw (k:=k) (m:=m) vals (by omega) (by omega)
   obtain ⟨s1,s2,s3⟩:=hs v hv
   by_cases e1:m=k v
   .subst e1
    simp only [DB,Bool.and_eq_true,decide_eq_true_eq] at s2
    have:=s2.1.1.1.1;omega
   .exact ih s3 m (by omega) b hk
theorem A5.wval {t:A1} (h:A5 t) {m:Nat} (hm:m < t.nodes.length) (hk:(t.at m).kind=3):EL t (t.at m).val=true:=by
 by_cases c:m < t.locs.length
 .have:=h.first.2 m c
  simp only [Gh,Bool.and_eq_true] at this
  exact this.1.1.1.2
 .obtain ⟨s,h0,he,hs⟩:=h.thr
  obtain ⟨v,hv,a,b⟩:=Cw (k:=s) (m:=m) t.regs.length (by omega) (by omega)
  obtain ⟨hb,n,hn⟩:=hs v hv
  by_cases e1:m=s v
  .subst e1
   simp only [Dt,Bool.and_eq_true,decide_eq_true_eq] at hb
   have:=hb.1.1.1.1.2;omega
  .exact hn.wval m (by omega) b hk
theorem WI.vals {t:A1} (ht:A5 t) {s:A8} {mem:List Int} {k:Nat} (W:WI t s mem k) (loc:Nat) (hl:loc < t.locs.length):EL t (mem.getD loc 0)=true:=by
 have h0:=W.form.ml
 obtain ⟨w,e,h1,h2,h3,_⟩:=W.last (loc:=loc) (by omega)
 rw [W.mem loc hl,e,Int.toNat_natCast]
 obtain ⟨w',e2,hw⟩:=Aa (W.form.node _ h1)
 exact ht.wval (by omega) h2
def wyE (t:A1) (s:A8) (a b:Nat):Bool:=At t a b || decide (Cc s.has s.jf b=(a:Int))
def wyB (t:A1) (s:A8) (a b:Nat):Bool:=AZ s.has (a:Int) && AZ s.has (b:Int) && wyE t s a b
theorem AdN {t:A1} (ht:A5 t) {s s':A8} (hf:AX t s) {n:Nat} (h:Yc t s n s'):∃ m,Nxt t s s' m:=by
 cases h with
 | bar _ e=>exact AbF hf e
 | read loc _ _ e=>exact Aak hf e
 | write loc _ _ e=>exact A7D ht hf e
theorem AbA {n:Nat} (hn:n<=64) (p:Nat->Nat->Bool):A0q (Ax n p)=true↔∀ i,i < n->¬ Gz p n i i:=by
 rw [A0q,CM hn,Bool.true_and,Ag,AJ]
 constructor
 .intro h i hi hp
  have:=h i hi
  rw [(Ds hn p hi).2 hp] at this
  cases this
 .intro h i hi
  rw [Bool.not_eq_true',Bool.eq_false_iff]
  intro hb
  exact h i hi ((Ds hn p hi).1 hb)
def Acy (t:A1) (s:A8):Prop:=∀ i,¬ Gz (wyB t s) t.nodes.length i i
end Go.AM
