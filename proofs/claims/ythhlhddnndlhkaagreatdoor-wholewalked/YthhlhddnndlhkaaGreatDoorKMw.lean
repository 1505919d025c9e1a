/-
  Own work, part of the proof of these laws: what functions compute.
-/
import Derived.Test.YthhlhddnndlhkaaGreatDoorLBw
set_option maxRecDepth 10000
set_option maxHeartbeats 64000000
set_option linter.unusedVariables false
set_option linter.unusedSimpArgs false
set_option linter.unusedSectionVars false
namespace Go.AM
open Go Go.Proofs
def hgW (t:A1) (s:A6) (e:Nat):BitVec 64:=(Ak t.nodes.length (YF t s)).getD e 0#64
structure HgI (t:A1) (s:A6) (e:Nat) (S:BitVec 64) (L:List Int) (i:Nat):Prop where
 le:i<=L.length
 reach:∀ x∈L,∃ m:Nat,x=m/\m < t.nodes.length/\(m:Int)∈s.has/\YF t s e m=true
 done:∀ j,j < i->S.getLsbD (L.getD j 0).toNat=true
 sub:∀ m:Nat,S.getLsbD m=true->YF t s e m=true/\m < t.nodes.length
 clo:∀ m:Nat,S.getLsbD m=true->∀ r∈Yo t s m,r∈L
 first:(e:Int)∈L
 size:L.length+6 * JO S<=1+6 * 64
section
variable {t:A1} (ht:A5 t) {s:A6} (hf:AG t s) {e:Nat} (he:(e:Int)∈s.has) {S:BitVec 64} {L:List Int} {i:Nat} (I:HgI t s e S L i)
include ht hf he I
theorem HgI.skip (hi:i < L.length) {m:Nat} (hm:L.getD i 0=(m:Int)) (h:S.getLsbD m=true):HgI t s e S L (i+1) :=
 ⟨hi,I.reach,fun j hj=>by
  by_cases c:j=i
  .rw [c,hm];exact h
  .exact I.done j (by omega),I.sub,I.clo,I.first,I.size⟩
theorem HgI.put (hi:i < L.length) {m:Nat} (hm:L.getD i 0=(m:Int)) (h:S.getLsbD m=false):HgI t s e (S ||| C4 (m:Int)) (L++Yo t s m) (i+1):=by
 have h64:=ht.n64
 obtain ⟨m',e1,hml,hmh,hmr⟩:=I.reach _ (Ai (d:=0) hi)
 rw [hm] at e1
 have e1:m=m':=by omega
 subst e1
 have hel:e < t.nodes.length:=by
  obtain ⟨_,e2,h2⟩:=A8 (hf.node _ he);omega
 have hb:∀ x:Nat,(S ||| C4 (m:Int)).getLsbD x=true↔S.getLsbD x=true\/x=m:=fun x=>by
  rw [BitVec.getLsbD_or,Bool.or_eq_true,CT]
  simp only [decide_eq_true_eq]
  constructor
  .rintro (h | h)
   .exact .inl h
   .exact .inr (by omega)
  .rintro (h | h)
   .exact .inl h
   .exact .inr ⟨by omega,by omega⟩
 have hlast:∀ j,j < L.length->(L++Yo t s m).getD j 0=L.getD j 0:=fun j hj=>by
  rw [List.getD_eq_getElem?_getD,List.getElem?_append_left hj,<- List.getD_eq_getElem?_getD]
 refine ⟨by rw [List.length_append];omega,fun x hx=>?_,fun j hj=>?_,fun x hx=>?_,fun x hx r hr=>?_,List.mem_append_left _ I.first,?_⟩
 .rcases List.mem_append.1 hx with hx | hx
  .exact I.reach x hx
  .obtain ⟨r,rfl,hrl,hrh,hst⟩:=Ail ht hf hmh hx
   refine ⟨r,rfl,hrl,hrh,?_⟩
   rw [AbV ht hel] at hmr ⊢
   left
   rcases hmr with h | h
   .exact .more h hrl hst
   .rw [h];exact .one hrl hst
 .rw [hlast j (by omega),hb]
  by_cases c:j=i
  .right;rw [c,hm,Int.toNat_natCast]
  .exact .inl (I.done j (by omega))
 .rcases (hb x).1 hx with h | h
  .exact I.sub x h
  .rw [h];exact ⟨hmr,hml⟩
 .rcases (hb x).1 hx with h | h
  .exact List.mem_append_left _ (I.clo x h r hr)
  .rw [h] at hr;exact List.mem_append_right _ hr
 .have h1:=A9T (S:=S) (n:=m) (by omega) h
  have h2:=AaO t ht s m
  have h3:=I.size
  rw [List.length_append];omega
theorem HgI.fin (hi:¬ i < L.length):S=hgW t s e:=by
 have h64:=ht.n64
 have hel:e < t.nodes.length:=by
  obtain ⟨_,e2,h2⟩:=A8 (hf.node _ he);omega
 have hin:∀ r:Nat,(r:Int)∈L->S.getLsbD r=true:=fun r hr=>by
  obtain ⟨j,hj,ej⟩:=List.getElem_of_mem hr
  have:=I.done j (by have:=I.le;omega)
  rw [List.getD_eq_getElem?_getD,List.getElem?_eq_getElem hj,Option.getD_some,ej,Int.toNat_natCast] at this
  exact this
 apply B1
 intro j hj
 rw [hgW,List.getD_eq_getElem?_getD,Bm hel,Option.getD_some,Au,decide_eq_true hj,Bool.and_true,Bool.eq_iff_iff,Bool.and_eq_true,decide_eq_true_eq]
 constructor
 .intro h
  exact ⟨(I.sub j h).2,(I.sub j h).1⟩
 .rintro ⟨_,h⟩
  exact (A2c ht hf (S:=fun m=>S.getLsbD m=true) (fun n hn _ r hr=>hin r (I.clo n hn _ hr)) he (hin e I.first) h).1
end
end Go.AM
