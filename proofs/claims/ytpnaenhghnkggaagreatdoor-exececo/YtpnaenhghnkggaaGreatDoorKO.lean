/-
  Own work, part of the proof of these laws: what functions compute.
-/
import Derived.Test.YtpnaenhghnkggaaGreatDoorKN
set_option maxRecDepth 10000
set_option maxHeartbeats 64000000
set_option linter.unusedVariables false
set_option linter.unusedSimpArgs false
set_option linter.unusedSectionVars false
set_option linter.unnecessarySimpa false
open Bool (and_eq_true or_eq_true not_eq_true')
open Int (toNat_natCast)
open List (getElem?_eq_getElem getD_eq_getElem?_getD length_map length_append all_eq_true getElem_of_mem mem_cons_self flatten_cons mem_singleton)
open BitVec (getLsbD_and)
namespace Go.AM
open Go Go.Proofs
theorem A7C {w S:BitVec 64}:decide (w &&& ~~~S=0#64)=decide (w ||| S=S):=by
 refine decide_eq_decide.2 ?_
 rw [Aa4]
 constructor
 .intro h j hj hw
  have:=congrArg (fun x=>x.getLsbD j) h
  simp only [getLsbD_and,BitVec.getLsbD_not,BitVec.getLsbD_zero,hw,Bool.true_and,decide_eq_true hj] at this
  cases c:S.getLsbD j with
  | true=>rfl
  | false=>rw [c] at this;cases this
 .intro h
  apply B4
  intro j hj
  rw [getLsbD_and,BitVec.getLsbD_not,BitVec.getLsbD_zero,decide_eq_true hj,Bool.true_and]
  cases c:w.getLsbD j with
  | false=>rfl
  | true=>rw [h j hj c];rfl
open Classical in
noncomputable def E3 (n:Nat) (P:Nat->Nat->Prop):Rows:=Ax n fun a b=>decide (P a b)
theorem Eu {n:Nat} {P:Nat->Nat->Prop}:(E3 n P).length=n:=AJ
open Classical in
theorem Gp {n:Nat} {P P':Nat->Nat->Prop} (h:∀ a b,a < n->b < n->(P a b↔P' a b)):E3 n P=E3 n P':=by
 unfold E3
 refine LJ fun a b ha hb=>?_
 rw [Bool.eq_iff_iff,decide_eq_true_eq,decide_eq_true_eq]
 exact h a b ha hb
open Classical in
theorem S1 (n:Nat):E3 n (fun _ _=>False)=List.replicate n 0#64:=by
 rw [<- Mu n]
 unfold E3
 refine LJ fun a b _ _=>?_
 simp
open Classical in
theorem Aam {n:Nat} (hn:n<=64) {P P':Nat->Nat->Prop} {a b:Nat} (ha:a < n) (hb:b < n) (h:∀ i j,i < n->j < n->(P' i j↔P i j\/(i=a/\j=b))):(E3 n P).set a ((E3 n P).getD a 0#64 ||| Cl (b:Int))=E3 n P':=by
 unfold E3
 rw [ZM hn _ hb ha]
 refine LJ fun i j hi hj=>?_
 rw [Bool.eq_iff_iff,or_eq_true,decide_eq_true_eq,decide_eq_true_eq,h i j hi hj]
 simp
def LD (e:AT) (loc:Int):List Int:=e.mo.getD loc.toNat []
structure XP (t:A1) (e:AT):Prop where
 ok:CD t e.has e.rf
 ml:e.mo.length=t.locs.length
 mem:∀ loc,loc < t.locs.length->∀ x,x∈e.mo.getD loc []↔x∈e.has/\EC t loc x=true
 nd:∀ loc,loc < t.locs.length->(e.mo.getD loc []).Nodup
theorem Pt {t:A1} (ht:A5 t) {e:AT} (h:RR t e=true):XP t e:=by
 rw [RR,and_eq_true,A6G,and_eq_true,decide_eq_true_eq,Ag] at h
 obtain ⟨h1,h2,h3⟩:=h
 have hF:=Bz h1
 have hp:=fun loc (hl:loc < t.locs.length)=>(Aac ht hF loc).1 (h3 loc (by omega))
 refine ⟨hF,h2,fun loc hl x=>?_,fun loc hl=>(hp loc hl).2.1⟩
 obtain ⟨a,b,c⟩:=hp loc hl
 constructor
 .intro hx
  exact List.mem_filter.1 (a x hx)
 .intro hx
  exact Xm b a (by omega) x (List.mem_filter.2 hx)
def bhP (t:A1) (e:AT) (w b:Int):Prop:=b∈LD e (t.at w.toNat).loc/\BI (LD e (t.at w.toNat).loc) w < BI (LD e (t.at w.toNat).loc) b
def rfX (e:AT) (a b:Int):Prop:=b∈e.has/\Cc e.has e.rf b=a
def moX (t:A1) (e:AT) (a b:Int):Prop:=a∈e.has/\(t.at a.toNat).kind=3/\bhP t e a b
def frX (t:A1) (e:AT) (a b:Int):Prop:=a∈e.has/\0<=Cc e.has e.rf a/\bhP t e (Cc e.has e.rf a) b
def XG (t:A1) (e:AT) (a b:Nat):Prop:=rfX e a b\/moX t e a b\/frX t e a b
noncomputable def QV (t:A1) (e:AT):Rows:=Cs (E3 t.nodes.length (XG t e))
def KC (t:A1) (e:AT) (a b:Nat):Prop:=Gz (fun a b=>@decide (XG t e a b) (Classical.propDecidable _)) t.nodes.length a b
section
variable {t:A1} (ht:A5 t) {e:AT} (X:XP t e)
include ht X
theorem A6h {w:Nat} (hw:(w:Int)∈e.has) (hk:(t.at w).kind=3):w < t.nodes.length/\0<=(t.at w).loc/\(t.at w).loc.toNat < t.locs.length/\(w:Int)∈LD e (t.at w).loc:=by
 obtain ⟨m,e1,hm⟩:=Aa (X.ok.node _ hw)
 have e2:m=w:=by omega
 subst e2
 have hl:=ht.wloc hm (.inr hk)
 refine ⟨hm,hl.1,by omega,(X.mem (t.at m).loc.toNat (by omega) _).2 ⟨hw,?_⟩⟩
 simp only [EC,toNat_natCast,and_eq_true,decide_eq_true_eq]
 exact ⟨hk,by omega⟩
theorem Aex {loc:Nat} (hl:loc < t.locs.length) {x:Int} (hx:x∈e.mo.getD loc []):∃ w:Nat,x=w/\w < t.nodes.length/\(w:Int)∈e.has/\(t.at w).kind=3/\(t.at w).loc=loc:=by
 obtain ⟨h1,h2⟩:=(X.mem loc hl x).1 hx
 obtain ⟨w,rfl,hw⟩:=Aa (X.ok.node _ h1)
 simp only [EC,toNat_natCast,and_eq_true,decide_eq_true_eq] at h2
 exact ⟨w,rfl,hw,h1,h2.1,h2.2⟩
theorem A6g {r:Nat} (hr:(r:Int)∈e.has) (h0:0<=Cc e.has e.rf r):∃ w:Nat,Cc e.has e.rf r=w/\(w:Int)∈e.has/\(t.at w).kind=3/\(t.at w).loc=(t.at r).loc/\(t.at r).kind=2:=by
 by_cases hk:(t.at r).kind=2
 .obtain ⟨h1,h2,h3⟩:=X.ok.read _ hr (by rw [toNat_natCast];exact hk)
  obtain ⟨w,hw⟩:=Int.eq_ofNat_of_zero_le h0
  rw [hw,toNat_natCast] at h2 h3
  rw [toNat_natCast] at h3
  rw [hw] at h1
  exact ⟨w,hw,h1,h2,h3,hk⟩
 .have:=X.ok.none _ hr (by rw [toNat_natCast];exact hk)
  omega
theorem XI {a b:Nat} (h:XG t e a b):(a:Int)∈e.has/\(b:Int)∈e.has/\(t.at a).loc=(t.at b).loc/\((t.at a).kind=2\/(t.at a).kind=3)/\((t.at b).kind=2\/(t.at b).kind=3):=by
 rcases h with ⟨h1,h2⟩ | ⟨h1,h2,h3,_⟩ | ⟨h1,h2,h3,_⟩
 .obtain ⟨w,e1,e2,e3,e4,e5⟩:=A6g ht X h1 (by omega)
  have:w=a:=by omega
  subst this
  exact ⟨e2,h1,e4,.inr e3,.inl e5⟩
 .rw [toNat_natCast] at h2 h3
  obtain ⟨g1,g2,g3,g4⟩:=A6h ht X h1 h2
  obtain ⟨w,e1,e2,e3,e4,e5⟩:=Aex ht X g3 h3
  have:w=b:=by omega
  subst this
  exact ⟨h1,e3,by omega,.inr h2,.inr e4⟩
 .obtain ⟨w,e1,e2,e3,e4,e5⟩:=A6g ht X h1 h2
  rw [e1,toNat_natCast] at h3
  obtain ⟨g1,g2,g3,g4⟩:=A6h ht X e2 e3
  obtain ⟨v,f1,f2,f3,f4,f5⟩:=Aex ht X g3 h3
  have:v=b:=by omega
  subst this
  exact ⟨h1,f3,by omega,.inl e5,.inr f4⟩
theorem AbM {a b:Nat} (h:KC t e a b):(a:Int)∈e.has/\(b:Int)∈e.has/\(t.at a).loc=(t.at b).loc/\((t.at a).kind=2\/(t.at a).kind=3)/\((t.at b).kind=2\/(t.at b).kind=3):=by
 induction h with
 | one hb h=>exact XI ht X (@of_decide_eq_true _ (Classical.propDecidable _) h)
 | more h1 hc h ih =>
  have k:=XI ht X (@of_decide_eq_true _ (Classical.propDecidable _) h)
  exact ⟨ih.1,k.2.1,ih.2.2.1.trans k.2.2.1,ih.2.2.2.1,k.2.2.2.2⟩
theorem Ae5 {a b:Nat} (ha:(a:Int)∈e.has) (hb:(b:Int)∈e.has) (ka:(t.at a).kind=3) (kb:(t.at b).kind=3) (hl:(t.at a).loc=(t.at b).loc) (hne:a≠b):XG t e a b\/XG t e b a:=by
 obtain ⟨_,_,a3,a4⟩:=A6h ht X ha ka
 obtain ⟨_,_,b3,b4⟩:=A6h ht X hb kb
 obtain ⟨i,e1,h1,h2,_⟩:=BV (A7.2 a4)
 have b5:=b4
 rw [<- hl] at b5
 obtain ⟨k,e2,h3,h4,_⟩:=BV (A7.2 b5)
 rcases Nat.lt_trichotomy i k with c | c | c
 .refine .inl (.inr (.inl ⟨ha,by rw [toNat_natCast];exact ka,?_⟩))
  rw [bhP,toNat_natCast]
  exact ⟨b5,by omega⟩
 .subst c
  rw [h2] at h4
  omega
 .refine .inr (.inr (.inl ⟨hb,by rw [toNat_natCast];exact kb,?_⟩))
  rw [bhP,toNat_natCast,<- hl]
  exact ⟨a4,by omega⟩
theorem Aew {b:Nat} (hb:(b:Int)∈e.has):b < t.nodes.length:=by
 obtain ⟨m,e1,hm⟩:=Aa (X.ok.node _ hb)
 omega
theorem K4 {a b:Nat} (h:XG t e a b):KC t e a b:=.one (Aew ht X (XI ht X h).2.1) (@decide_eq_true _ (Classical.propDecidable _) h)
theorem A3y {a b:Nat} (ha:(a:Int)∈e.has) (hb:(b:Int)∈e.has) (ka:(t.at a).kind=3) (kb:(t.at b).kind=2\/(t.at b).kind=3) (hl:(t.at a).loc=(t.at b).loc) (hne:a≠b):KC t e a b\/KC t e b a:=by
 rcases kb with kb | kb
 .obtain ⟨h1,h2,h3⟩:=X.ok.read _ hb (by rw [toNat_natCast];exact kb)
  obtain ⟨w,hw,h0⟩:=Aa (X.ok.node _ h1)
  rw [hw,toNat_natCast] at h2 h3
  rw [toNat_natCast] at h3
  rw [hw] at h1
  have rf:XG t e w b:=.inl ⟨hb,hw⟩
  by_cases c:w=a
  .subst c
   exact .inl (K4 ht X rf)
  .rcases Ae5 ht X h1 ha h2 ka (by omega) c with m | m
   .refine .inr (K4 ht X (.inr (.inr ⟨hb,by omega,?_⟩)))
    rcases m with m | m | m
    .obtain ⟨v,f1,f2,f3,f4,f5⟩:=A6g ht X m.1 (by rw [m.2];omega)
     omega
    .rw [hw];exact m.2.2
    .obtain ⟨v,f1,f2,f3,f4,f5⟩:=A6g ht X m.1 m.2.1
     omega
   .exact .inl ((K4 ht X m).trans (K4 ht X rf))
 .rcases Ae5 ht X ha hb ka kb hl hne with m | m
  .exact .inl (K4 ht X m)
  .exact .inr (K4 ht X m)
end
theorem Ei {M:List Int} {m x:Int} (hm:m∉M):BI (M++[m]) x=if x=m then (M.length:Int) else BI M x:=by
 have e:BI (M++[m]) x=match (M.findIdx? fun y=>decide (x=y)) with | some i=>(i:Int) | none=>if x=m then (M.length:Int) else -1:=by
  rw [BI,C7,List.findIdx?_append]
  cases h:M.findIdx? fun y=>decide (x=y) with
  | some i=>rfl
  | none =>
   by_cases c:x=m
   .simp [c]
   .simp [c]
 rw [e]
 by_cases c:x=m
 .subst c
  have:(M.findIdx? fun y=>decide (x=y))=none:=by
   rw [List.findIdx?_eq_none_iff]
   intro y hy
   rw [decide_eq_false_iff_not]
   intro h
   subst h
   exact hm hy
  rw [this,if_pos rfl,if_pos rfl]
 .rw [if_neg c,BI,C7]
  cases h:M.findIdx? fun y=>decide (x=y) with
  | some i=>rw [if_neg c]
  | none=>rw [if_neg c]
theorem A61 {M:List Int} {x:Int}:BI M x < M.length:=Ln _ _
theorem K5 (s:A8) (loc:Int):LD (Bh s) loc=(s.mo.getD loc.toNat []).flatten:=by
 show (s.mo.map fun l=>l.flatten).getD loc.toNat []=_
 rw [getD_eq_getElem?_getD,getD_eq_getElem?_getD,List.getElem?_map]
 cases s.mo[loc.toNat]? with
 | some l=>rfl
 | none=>rfl
structure Rk (t:A1) (s:A8):Prop where
 sg:∀ loc,∀ c∈s.mo.getD loc [],∃ w:Int,c=[w]
 nd:∀ loc,((s.mo.getD loc []).flatten).Nodup
 rk:∃ (τ:Nat->Nat) (k:Nat),(∀ x:Nat,(x:Int)∈s.has->τ x < k)/\(∀ a b,Gz (JW t s.has s.jf) t.nodes.length a b->τ a < τ b)/\(∀ a b,XG t (Bh s) a b->τ a < τ b)
theorem AaY {t:A1} {s:A8} {m:Nat} {w:Int} (hf':AX t (C2 s m w)) (hjl:s.jf.length=s.has.length):Cc (C2 s m w).has (C2 s m w).jf m=w:=by
 have h0:=Bz (BC (Be.2 hf'))
 have hk:=Du s.has m
 have h1:Cc (C2 s m w).has (C2 s m w).jf ((B9 s.has (Bn s.has m) m).getD (Bn s.has m) 0)=(B9 s.jf (Bn s.has m) w).getD (Bn s.has m) 0:=h0.at_ (Bn s.has m) (by
  show _ < (B9 s.has (Bn s.has m) m).length
  rw [CK hk];omega)
 rw [JT hk,JT (by omega)] at h1
 exact h1
theorem Sp {t:A1} (ht:A5 t) {s s':A8} {n:Nat} (hf:AX t s) (h:Yc t s n s'):∃ m,Nxt t s s' m/\(((t.at m).kind≠3/\(∀ loc,s'.mo.getD loc []=s.mo.getD loc [])/\(Cc s'.has s'.jf m = -1\/∃ loc:Nat,loc < s.mo.length/\(t.at m).kind=2/\(t.at m).loc=loc/\Cc s'.has s'.jf m=C8 s loc)) \/
  ((t.at m).kind=3/\∃ loc:Nat,(t.at m).loc=loc/\s'.mo.getD loc []=s.mo.getD loc []++[[(m:Int)]]/\∀ l,l≠loc->s'.mo.getD l []=s.mo.getD l [])):=by
 have h2:=hf.jl
 have h6:=hf.ml
 obtain ⟨m,X⟩:=AdN ht hf h
 refine ⟨m,X,?_⟩
 have mm:∀ m':Nat,(m':Int)∉s.has->s'.has=B9 s.has (Bn s.has (m':Int)) m'->m' = m:=fun m' h0 e=>by
  have h1:=(X.has m').1 (by rw [e];exact Bp.2 (.inl rfl))
  rcases h1 with h1 | h1
  .omega
  .exact absurd h1 h0
 cases h with
 | bar hk e =>
  obtain ⟨m',e1,hm,h3,h0,h4,e2⟩:=DA e
  have:=mm m' h0 (by rw [e2];rfl)
  subst this
  refine .inl ⟨by omega,fun loc=>by rw [e2];rfl,.inl ?_⟩
  have hx:=X.form
  rw [e2] at hx ⊢
  exact AaY hx h2
 | read loc hk hloc e =>
  unfold J1 at e
  split at e
  .rename_i x hx
   split at e
   .rename_i h5
    cases e
    obtain ⟨m',e1,hm,h3,h0,h4,e2⟩:=DA hx
    have:=mm m' h0 (by rw [e2];rfl)
    subst this
    have e3:m' = n:=by omega
    subst e3
    have hl:=ht.wloc hm (.inl hk)
    refine .inl ⟨by omega,fun l=>by rw [e2];rfl,.inr ⟨loc,by omega,hk,hloc,?_⟩⟩
    have hx:=X.form
    rw [e2] at hx ⊢
    exact AaY hx h2
   .cases e
  .cases e
 | write loc hk hloc e =>
  unfold E0 at e
  split at e
  .rename_i x hx
   split at e
   .cases e
   .rename_i hw
    cases e
    obtain ⟨m',e1,hm,h3,h0,h4,e2⟩:=DA hx
    have:=mm m' h0 (by rw [e2];rfl)
    subst this
    have e3:m' = n:=by omega
    subst e3
    have hl:=ht.wloc hm (.inr hk)
    have ex:x.mo=s.mo:=by rw [e2];rfl
    refine .inr ⟨hk,loc,hloc,?_,fun l hne=>?_⟩
    .show (x.mo.set _ _).getD loc []=_
     rw [ex,toNat_natCast,hloc,toNat_natCast,toNat_natCast,getD_eq_getElem?_getD (l:=s.mo.set _ _),List.getElem?_set,if_pos rfl,if_pos (by omega),Option.getD_some,List.take_length,List.drop_length]
    .show (x.mo.set _ _).getD l []=_
     rw [ex,toNat_natCast,hloc,toNat_natCast,getD_eq_getElem?_getD (l:=s.mo.set _ _),List.getElem?_set,if_neg (Ne.symm hne),<- getD_eq_getElem?_getD]
  .cases e
theorem AjE {t:A1} (ht:A5 t):Rk t (AP t):=by
 have hf:=XH ht
 have hF:=Bz (BC (Be.2 hf))
 have h5:∀ loc,(AP t).mo.getD loc []=if loc < t.locs.length then [[(loc:Int)]] else []:=fun loc=>by
  by_cases c:loc < t.locs.length
  .rw [if_pos c,ZY c]
  .rw [if_neg c,getD_eq_getElem?_getD,List.getElem?_eq_none (by rw [hf.ml];omega)];rfl
 have h6:∀ n:Nat,(n:Int)∈(AP t).has->Cc (AP t).has (AP t).jf n = -1:=fun n hn=>by
  obtain ⟨m,e,hm,hu⟩:=CR.1 hn
  have e:n=m:=by omega
  subst e
  exact hF.none n hn (by rw [toNat_natCast];rcases GX ht hm hu with c | c<;>omega)
 refine ⟨fun loc c hc=>?_,fun loc=>?_,fun n=>n,t.nodes.length,fun x hx=>?_,fun a b h=>?_,fun a b h=>?_⟩
 .rw [h5] at hc
  split at hc
  .rw [mem_singleton] at hc;exact ⟨_,hc⟩
  .cases hc
 .rw [h5]
  split
  .simp
  .simp
 .show x < _
  obtain ⟨m,e,hm,hu⟩:=CR.1 hx
  omega
 .have h0:∀ a b:Nat,JW t (AP t).has (AP t).jf a b=true->a < b:=fun a b hh=>by
   simp only [JW,or_eq_true,and_eq_true,A7] at hh
   rcases hh with ⟨⟨hA,hB⟩,hbf⟩ | hh
   .exact Ea ht hbf
   .exfalso
    simp only [swB,List.any_eq_true,and_eq_true] at hh
    obtain ⟨r,hr,⟨hs,_⟩,_⟩:=hh
    obtain ⟨m,rfl,hm,hu⟩:=CR.1 hr
    simp only [JF,and_eq_true,decide_eq_true_eq,toNat_natCast] at hs
    rcases GX ht hm hu with c | c<;>omega
  show a < b
  induction h with
  | one _ h=>exact h0 _ _ h
  | more _ _ h ih=>have:=h0 _ _ h;omega
 .exfalso
  rcases h with ⟨h1,h2⟩ | ⟨h1,h2,h3,h4⟩ | ⟨h1,h2,_⟩
  .have:=h6 b h1
   have h2:Cc (AP t).has (AP t).jf b=a:=h2
   omega
  .rw [toNat_natCast] at h2 h3 h4
   rw [K5] at h3 h4
   obtain ⟨m,e,hm,hu⟩:=CR.1 h1
   have e:a=m:=by omega
   subst e
   rcases GX ht hm hu with c | c
   .have hl:=(ht.init a c.1).loc
    rw [hl,toNat_natCast,h5,if_pos c.1] at h3 h4
    have h3:(b:Int)=a:=by simpa using h3
    rw [h3] at h4
    omega
   .omega
  .have h2:0<=Cc (AP t).has (AP t).jf a:=h2
   have:=h6 a h1
   omega
theorem LP:∀ {L:List (List Int)},(∀ c∈L,∃ w:Int,c=[w])->L.flatten.length=L.length
 | [],_=>rfl
 | c::L,h=>by
  obtain ⟨w,hw⟩:=h c (mem_cons_self ..)
  rw [flatten_cons,length_append,List.length_cons,LP fun c hc=>h c (List.mem_cons_of_mem _ hc),hw]
  simp;omega
theorem Sc {L:List (List Int)} (h:∀ c∈L,∃ w:Int,c=[w]) (h0:0 < L.length):(L.getD (L.length - 1) []).getD 0 0=L.flatten.getD (L.length - 1) 0:=by
 rw [Hp h]
 have hl:L.flatten.length=L.length:=LP h
 obtain ⟨M,hM⟩:∃ M,M=L.flatten:=⟨_,rfl⟩
 rw [<- hM] at hl ⊢
 have e:(M.map fun w=>[w]).flatten=M:=by
  clear hM hl
  induction M with
  | nil=>rfl
  | cons x M ih=>rw [List.map_cons,flatten_cons,ih];rfl
 rw [e,length_map]
 have:M.length - 1 < M.length:=by omega
 have e2:(M.map fun w=>[w]).getD (M.length - 1) []=[M.getD (M.length - 1) 0]:=by
  rw [getD_eq_getElem?_getD,List.getElem?_map,getElem?_eq_getElem this,getD_eq_getElem?_getD,getElem?_eq_getElem this];rfl
 rw [e2];rfl
theorem A3i {t:A1} (ht:A5 t) {s s':A8} {n:Nat} (hf:AX t s) (h:Yc t s n s') (R:Rk t s):Rk t s':=by
 obtain ⟨sg,nd,τ,k,r1,r2,r3⟩:=R
 obtain ⟨m,X,h0⟩:=Sp ht hf h
 have hm:=X.form
 have hF:=Bz (BC (Be.2 hf))
 have hd:=Bz (BC (Be.2 hm))
 have hq:=hf.ml
 have hn:∀ loc,∀ x∈(s.mo.getD loc []).flatten,x∈s.has:=fun loc x hx=>by
  obtain ⟨c,hc,hx⟩:=List.mem_flatten.1 hx
  by_cases hl:loc < s.mo.length
  .exact HH ht hf (by omega) hc hx
  .rw [getD_eq_getElem?_getD,List.getElem?_eq_none (by omega)] at hc
   cases hc
 have he:∀ loc,(m:Int)∉(s.mo.getD loc []).flatten:=fun loc hx=>X.no (hn loc _ hx)
 have hg:∀ x:Nat,(x:Int)∈s'.has->x≠m->(x:Int)∈s.has:=fun x hx hj=>by
  rcases (X.has x).1 hx with e | e
  .omega
  .exact e
 have h5:∀ x:Nat,(x:Int)∈s.has->Cc s'.has s'.jf x=Cc s.has s.jf x:=fun x hx=>X.ext.on x hx
 have h9:∀ loc,(s'.mo.getD loc []).flatten=(s.mo.getD loc []).flatten\/((t.at m).kind=3/\(t.at m).loc=(loc:Int)/\(s'.mo.getD loc []).flatten=(s.mo.getD loc []).flatten++[(m:Int)]):=fun loc=>by
  rcases h0 with ⟨_,e,_⟩ | ⟨k3,l0,e1,e2,e3⟩
  .exact .inl (by rw [e])
  .by_cases c:loc=l0
   .subst c
    exact .inr ⟨k3,e1,by rw [e2,List.flatten_append];rfl⟩
   .exact .inl (by rw [e3 loc c])
 have h4:∀ w b:Int,b≠m->w≠m->bhP t (Bh s') w b->bhP t (Bh s) w b:=fun w b hb hw hh=>by
  rw [bhP,K5] at hh ⊢
  rcases h9 (t.at w.toNat).loc.toNat with e | ⟨_,_,e⟩
  .rw [e] at hh;exact hh
  .rw [e,Ei (he _),Ei (he _),if_neg hw,if_neg hb,List.mem_append,mem_singleton] at hh
   exact ⟨hh.1.resolve_right hb,hh.2⟩
 have h8:∀ b:Int,(t.at m).kind=3->¬ bhP t (Bh s') m b:=fun b k3 hh=>by
  rw [bhP,K5,toNat_natCast] at hh
  rcases h0 with ⟨c,_⟩ | ⟨_,l0,e1,e2,e3⟩
  .exact c k3
  .rw [e1,toNat_natCast,e2,List.flatten_append] at hh
   have hh:b∈(s.mo.getD l0 []).flatten++[(m:Int)]/\BI ((s.mo.getD l0 []).flatten++[(m:Int)]) m < BI ((s.mo.getD l0 []).flatten++[(m:Int)]) b:=hh
   have h1:=A61 (M:=(s.mo.getD l0 []).flatten++[(m:Int)]) (x:=b)
   rw [Ei (he _),if_pos rfl] at hh
   rw [length_append] at h1
   have h1:BI ((s.mo.getD l0 []).flatten++[(m:Int)]) b < ((s.mo.getD l0 []).flatten.length+1:Nat):=h1
   omega
 refine ⟨fun loc c hc=>?_,fun loc=>?_,fun x=>if x=m then k else τ x,k+1,fun x hx=>?_,fun a b hp=>?_,fun a b hs=>?_⟩
 .rcases h0 with ⟨_,e,_⟩ | ⟨k3,l0,e1,e2,e3⟩
  .rw [e] at hc;exact sg loc c hc
  .by_cases cl:loc=l0
   .subst cl
    rw [e2,List.mem_append,mem_singleton] at hc
    rcases hc with hc | hc
    .exact sg loc c hc
    .exact ⟨_,hc⟩
   .rw [e3 loc cl] at hc;exact sg loc c hc
 .rcases h9 loc with e | ⟨_,_,e⟩
  .rw [e];exact nd loc
  .rw [e,List.nodup_append]
   refine ⟨nd loc,by simp,fun x hx y hy=>?_⟩
   rw [mem_singleton] at hy
   subst hy
   intro e2
   subst e2
   exact he loc hx
 .show (if x=m then k else τ x) < k+1
  split
  .omega
  .rename_i c
   have:=r1 x (hg x hx c)
   omega
 .show (if a=m then k else τ a) < (if b=m then k else τ b)
  obtain ⟨ha,hb⟩:=A5F ht X.ext hF hd hf.up (fun x hx=>(X.has x).1 hx) X.no (Age ht hf X) X.src hp
  have hi:a≠m:=fun e=>X.no (by rw [<- e];exact ha)
  rw [if_neg hi]
  by_cases c:b=m
  .rw [if_pos c];exact r1 a ha
  .rw [if_neg c]
   rcases hb with hb | hb
   .omega
   .exact r2 a b hb
 .show (if a=m then k else τ a) < (if b=m then k else τ b)
  have h7:(a:Int)∈s.has->(b=m\/XG t (Bh s) a b)->(if a=m then k else τ a) < (if b=m then k else τ b):=fun ha hb=>by
   have hi:a≠m:=fun e=>X.no (by rw [<- e];exact ha)
   rw [if_neg hi]
   by_cases c:b=m
   .rw [if_pos c];exact r1 a ha
   .rw [if_neg c]
    exact r3 a b (hb.resolve_left c)
  rcases hs with ⟨h1,h2⟩ | ⟨h1,h2,h3⟩ | ⟨h1,h2,h3⟩
  .have h1:(b:Int)∈s'.has:=h1
   have h2:Cc s'.has s'.jf b=a:=h2
   by_cases c:b=m
   .subst c
    refine h7 ?_ (.inl rfl)
    have hk:(t.at b).kind=2:=by
     by_cases hk:(t.at b).kind=2
     .exact hk
     .have:=hd.none b h1 (by rw [toNat_natCast];exact hk)
      omega
    rw [<- h2]
    exact X.src hk
   .have hb:=hg b h1 c
    rw [h5 b hb] at h2
    have ha:(a:Int)∈s.has:=by
     by_cases hk:(t.at b).kind=2
     .rw [<- h2]
      exact (hF.read b hb (by rw [toNat_natCast];exact hk)).1
     .have:=hF.none b hb (by rw [toNat_natCast];exact hk)
      omega
    exact h7 ha (.inr (.inl ⟨hb,h2⟩))
  .have h1:(a:Int)∈s'.has:=h1
   rw [toNat_natCast] at h2
   have ca:a≠m:=fun e=>by
    subst e
    exact h8 b h2 h3
   have ha:=hg a h1 ca
   refine h7 ha ?_
   by_cases c:b=m
   .exact .inl c
   .exact .inr (.inr (.inl ⟨ha,by rw [toNat_natCast];exact h2,h4 a b (by omega) (by omega) h3⟩))
  .have h1:(a:Int)∈s'.has:=h1
   have h2:0<=Cc s'.has s'.jf a:=h2
   have h3:bhP t (Bh s') (Cc s'.has s'.jf a) b:=h3
   have ca:a≠m:=fun e=>by
    subst e
    rcases h0 with ⟨k3,emo,hw⟩ | ⟨k3,_⟩
    .rcases hw with hw | ⟨loc,hl,k2,hloc,hw⟩
     .omega
     .obtain ⟨_,_,h6⟩:=hd.read a h1 (by rw [toNat_natCast];exact k2)
      rw [bhP,K5,h6,toNat_natCast,hloc,toNat_natCast,emo,hw] at h3
      have hp:0 < (s.mo.getD loc []).length:=by
       rcases Nat.eq_zero_or_pos (s.mo.getD loc []).length with c | c
       .rw [List.length_eq_zero_iff] at c
        rw [c] at h3
        exact absurd h3.1 (by simp)
       .exact c
      rw [C8,Sc (sg loc) hp] at h3
      have ho:=LP (sg loc)
      rw [Dv (nd loc) (by omega)] at h3
      have:=A61 (M:=(s.mo.getD loc []).flatten) (x:=b)
      omega
    .have:=hd.none a h1 (by rw [toNat_natCast];omega)
     omega
   have ha:=hg a h1 ca
   refine h7 ha ?_
   by_cases c:b=m
   .exact .inl c
   .rw [h5 a ha] at h2 h3
    have hj:Cc s.has s.jf a≠m:=fun e=>by
     by_cases hk:(t.at a).kind=2
     .have:=(hF.read a ha (by rw [toNat_natCast];exact hk)).1
      rw [e] at this
      exact X.no this
     .have:=hF.none a ha (by rw [toNat_natCast];exact hk)
      omega
    exact .inr (.inr (.inr ⟨ha,h2,h4 _ b (by omega) hj h3⟩))
def clX (s:A8) (loc k:Nat):List Int:=(s.mo.getD loc []).getD k []
def Y0 (x c:List Int):List Int:=c.filter (AZ x)
def okX (t:A1) (s:A8) (x:List Int):Bool:=BJ t s && x.all (AZ s.has) && (List.range x.length).all (CB x)
def rcX (t:A1) (s:A8) (x:List Int) (n:Int):List Int:=Y0 x (clX s (t.at n.toNat).loc.toNat (B5 s (t.at n.toNat).loc (JY s n)).toNat)
def Nd (t:A1) (s:A8) (x:List Int) (n:Int):Bool:=decide (JY s n < 0) || decide ((rcX t s x n).length=1)
def rVX (t:A1) (s:A8) (x:List Int) (n:Int):Int:=if JY s n < 0 then -1 else (rcX t s x n).getD 0 0
def Ty (x:List Int) (l:List (List Int)):Bool:=l.all fun c=>decide ((Y0 x c).length<=1)
def Tz (x:List Int) (l:List (List Int)):List Int:=l.flatMap (Y0 x)
def Zw (t:A1) (s:A8) (x:List Int):Option AT:=if okX t s x && x.all (Nd t s x) && s.mo.all (Ty x) then some ⟨x,x.map (rVX t s x),s.mo.map (Tz x)⟩ else none
theorem RC {t:A1} {s:A8} (hf:AX t s) {loc k:Nat} (hl:loc < s.mo.length) (hk:k < (s.mo.getD loc []).length):(clX s loc k).Pairwise (· < ·):=by
 have h:=hf.mo loc hl
 simp only [CX,and_eq_true,Ag,decide_eq_true_eq] at h
 obtain ⟨⟨_,h2⟩,h3⟩:=h
 have h4:=h3 k hk
 rw [or_eq_true,decide_eq_true_eq] at h4
 rcases h4 with h4 | h4
 .subst h4
  rw [clX,h2]
  exact List.pairwise_singleton _ _
 .simp only [BR,and_eq_true,Ag,B3] at h4
  exact K7.1 fun i hi=>(h4.2 i hi).1.1.1.2
theorem A6r {t:A1} (ht:A5 t) {x:List Int} (hx:x.Pairwise (· < ·)) (hn:BX t x):AF (BA x)=x:=by
 refine SE (Mf _) hx fun y=>?_
 rw [Cb,hn.has ht.n64,A7]
theorem Aef {t:A1} (ht:A5 t) {s:A8} (hf:AX t s) {loc k:Nat} (hl:loc < s.mo.length) (hk:k < (s.mo.getD loc []).length) {x:List Int} (hx:BX t x):AF (BA (clX s loc k) &&& BA x)=Y0 x (clX s loc k):=by
 have ha:=RC hf hl hk
 have hc:BX t (clX s loc k):=fun y hy=>by
  have h0:clX s loc k∈s.mo.getD loc []:=Af hk
  exact hf.node _ (HH ht hf hl h0 hy)
 refine SE (Mf _) (ha.filter _) fun y=>?_
 rw [Cb,Y0,List.mem_filter]
 constructor
 .intro h
  obtain ⟨h1,h2⟩:=DF h
  obtain ⟨j,rfl⟩:=Int.eq_ofNat_of_zero_le h1
  rw [Au,getLsbD_and,and_eq_true,<- Au,<- Au,hc.has ht.n64,hx.has ht.n64,A7] at h
  exact h
 .rintro ⟨h1,h2⟩
  obtain ⟨j,rfl,_⟩:=Aa (hc _ h1)
  rw [Au,getLsbD_and,and_eq_true,<- Au,<- Au,hc.has ht.n64,hx.has ht.n64,A7]
  exact ⟨h1,h2⟩
theorem Agj {t:A1} (ht:A5 t) (s:A8) (x:List Int):okX t s x=(BJ t s && decide (BA x ||| BA s.has=BA s.has) && decide (AF (BA x)=x)):=by
 unfold okX
 cases hff:BJ t s with
 | false=>rfl
 | true =>
  have hf:=Be.1 hff
  have hn:BX t s.has:=hf.node
  rw [Bool.true_and,Bool.true_and,Bool.eq_iff_iff,and_eq_true,and_eq_true,decide_eq_true_eq,decide_eq_true_eq,Ag,all_eq_true,Aa4]
  constructor
  .rintro ⟨h1,h2⟩
   have hx:BX t x:=fun y hy=>hf.node y (A7.1 (h1 y hy))
   refine ⟨fun j _ hj=>?_,A6r ht (K7.1 h2) hx⟩
   rw [<- Au,hx.has ht.n64,A7] at hj
   rw [<- Au,hn.has ht.n64]
   exact h1 _ hj
  .rintro ⟨h1,h2⟩
   refine ⟨fun y hy=>?_,K7.2 (by rw [<- h2];exact Mf _)⟩
   rw [<- h2,Cb] at hy
   obtain ⟨h3,h4⟩:=DF hy
   obtain ⟨j,rfl⟩:=Int.eq_ofNat_of_zero_le h3
   rw [Au] at hy
   have:=h1 j (by omega) hy
   rw [<- Au,hn.has ht.n64] at this
   exact this
theorem A2c {l:List (List Int)} {f:List Int->List Int} (h:∀ c∈l,f c=c):l.flatMap f=l.flatten:=by
 induction l with
 | nil=>rfl
 | cons c l ih=>rw [List.flatMap_cons,flatten_cons,h c (mem_cons_self ..),ih fun c hc=>h c (List.mem_cons_of_mem _ hc)]
theorem Ti {t:A1} {s:A8} (hf:AX t s) {i:Nat} (hi:i < s.has.length):JY s (s.has.getD i 0)=s.jf.getD i 0:=by
 have hd:s.has.Nodup:=hf.ris.imp fun h=>by omega
 have h0:=hf.jl
 rw [JY,Dv hd hi,if_neg (by omega)]
 rfl
theorem AaE {t:A1} (ht:A5 t) {s:A8} (hf:AX t s) {l:List (List Int)} (hl:l∈s.mo) {c:List Int} (hc:c∈l):Y0 s.has c=c:=by
 obtain ⟨loc,h0,e⟩:=getElem_of_mem hl
 rw [Y0,List.filter_eq_self]
 intro x hx
 refine A7.2 (HH ht hf h0 (c:=c) ?_ hx)
 rw [getD_eq_getElem?_getD,getElem?_eq_getElem h0,e]
 exact hc
theorem Adb {t:A1} (ht:A5 t) {s:A8} (hf:AX t s) (sg:∀ loc,∀ c∈s.mo.getD loc [],∃ w:Int,c=[w]):Zw t s s.has=some (Bh s):=by
 have hd:=hf.jl
 have q3:=hf.ml
 have hz:okX t s s.has=true:=by
  rw [okX,Be.2 hf,Bool.true_and,and_eq_true,all_eq_true,Ag]
  exact ⟨fun x hx=>A7.2 hx,K7.2 hf.ris⟩
 have q1:∀ l∈s.mo,∀ c∈l,∃ w:Int,c=[w]:=fun l hl c hc=>by
  obtain ⟨loc,ho,e⟩:=getElem_of_mem hl
  refine sg loc c ?_
  rw [getD_eq_getElem?_getD,getElem?_eq_getElem ho,e]
  exact hc
 have hm:s.mo.all (Ty s.has)=true:=by
  rw [all_eq_true]
  intro l hl
  rw [Ty,all_eq_true]
  intro c hc
  rw [AaE ht hf hl hc]
  obtain ⟨w,rfl⟩:=q1 l hl c hc
  rfl
 have hu:s.mo.map (Tz s.has)=s.mo.map fun l=>l.flatten:=List.map_congr_left fun l hl=>A2c fun c hc=>AaE ht hf hl hc
 have ha:∀ i,i < s.has.length->0<=s.jf.getD i 0->rcX t s s.has (s.has.getD i 0)=[s.jf.getD i 0]:=fun i hi h0=>by
  have hj:=hf.just i hi
  unfold XX at hj
  split at hj
  .rename_i hk
   simp only [and_eq_true,decide_eq_true_eq,EV] at hj
   obtain ⟨⟨h1,h2,h3⟩,_⟩:=hj
   have h4:=A7.1 h1
   obtain ⟨n,hn,hy⟩:=Aa (hf.node _ (Af (d:=0) hi))
   obtain ⟨w,hw,q4⟩:=Aa (hf.node _ h4)
   rw [rcX,Ti hf hi,hn,toNat_natCast]
   rw [hn,toNat_natCast] at h3 hk
   rw [hw] at h4 h2 h3 ⊢
   rw [toNat_natCast] at h2 h3
   have h6:=ht.wloc hy (.inl hk)
   have h5:=hf.once w h4 (by rw [toNat_natCast];exact h2)
   rw [toNat_natCast,h3] at h5
   obtain ⟨loc,h9⟩:=Int.eq_ofNat_of_zero_le h6.1
   rw [h9,toNat_natCast] at h5
   rw [h9,toNat_natCast]
   have q2:loc < s.mo.length:=by omega
   obtain ⟨c,hc,h7⟩:∃ c∈s.mo.getD loc [],AZ c (w:Int)=true:=by
    rcases hh:(s.mo.getD loc []).filter fun c=>AZ c (w:Int) with _ | ⟨c,_⟩
    .rw [hh] at h5;simp at h5
    .have:c∈(s.mo.getD loc []).filter fun c=>AZ c (w:Int):=by rw [hh];exact mem_cons_self ..
     exact ⟨c,(List.mem_filter.1 this).1,(List.mem_filter.1 this).2⟩
   have hp:∃ k:Nat,B5 s loc w=k/\k < (s.mo.getD loc []).length/\AZ ((s.mo.getD loc []).getD k []) (w:Int)=true:=by
    rw [B5,if_neg (by omega),toNat_natCast,C7]
    cases hq:(s.mo.getD loc []).findIdx? fun c=>AZ c (w:Int) with
    | none =>
     rw [List.findIdx?_eq_none_iff] at hq
     rw [hq c hc] at h7
     cases h7
    | some k =>
     obtain ⟨a,b,_⟩:=List.findIdx?_eq_some_iff_getElem.1 hq
     exact ⟨k,rfl,a,by rw [getD_eq_getElem?_getD,getElem?_eq_getElem a];exact b⟩
   obtain ⟨k,he,hg,h8⟩:=hp
   rw [he,toNat_natCast,clX]
   have hb:(s.mo.getD loc []).getD k []∈s.mo.getD loc []:=Af hg
   obtain ⟨v,hv⟩:=sg loc _ hb
   rw [hv] at h8 ⊢
   have hv:(w:Int)=v:=by simpa [AZ] using h8
   subst hv
   rw [Y0,List.filter_cons_of_pos (A7.2 h4),List.filter_nil]
  .rw [decide_eq_true_eq] at hj
   omega
 have hr:s.has.all (Nd t s s.has)=true:=by
  rw [all_eq_true]
  intro n hn
  obtain ⟨i,hi,rfl⟩:=getElem_of_mem hn
  have e:s.has[i]=s.has.getD i 0:=by rw [getD_eq_getElem?_getD,getElem?_eq_getElem hi];rfl
  rw [e,Nd,Ti hf hi,or_eq_true,decide_eq_true_eq,decide_eq_true_eq]
  rcases Int.lt_or_le (s.jf.getD i 0) 0 with c | c
  .exact .inl c
  .exact .inr (by rw [ha i hi c];rfl)
 have q0:s.has.map (rVX t s s.has)=s.jf:=by
  apply List.ext_getElem
  .rw [length_map,hd]
  .intro i h1 h2
   rw [length_map] at h1
   have e:s.has[i]=s.has.getD i 0:=by rw [getD_eq_getElem?_getD,getElem?_eq_getElem h1];rfl
   have e2:s.jf[i]=s.jf.getD i 0:=by rw [getD_eq_getElem?_getD,getElem?_eq_getElem h2];rfl
   rw [List.getElem_map,e,e2,rVX,Ti hf h1]
   split
   .rename_i c
    have hj:=hf.just i h1
    unfold XX at hj
    split at hj
    .simp only [and_eq_true] at hj
     have:=hf.node _ (A7.1 hj.1.1)
     simp only [BF,and_eq_true,decide_eq_true_eq] at this
     omega
    .exact (of_decide_eq_true hj).symm
   .rename_i c
    rw [ha i h1 (by omega)]
    rfl
 rw [Zw,hz,hr,hm,q0,hu]
 rfl
theorem YU {t:A1} (ht:A5 t) {s:A8} (hf:AX t s) {r:Nat} (hr:(r:Int)∈s.has) (hk:(t.at r).kind=2):∃ w:Nat,JY s r=w/\(w:Int)∈s.has/\(t.at w).kind=3/\(t.at w).loc=(t.at r).loc/\(t.at w).val=(t.at r).val/\wyB t s w r=true:=by
 have hF:=Bz (BC (Be.2 hf))
 obtain ⟨i,hi,e⟩:=getElem_of_mem hr
 have e:s.has.getD i 0=r:=by rw [getD_eq_getElem?_getD,getElem?_eq_getElem hi];exact e
 have hj:=hf.just i hi
 rw [e] at hj
 unfold XX at hj
 rw [toNat_natCast,if_pos hk] at hj
 simp only [and_eq_true,decide_eq_true_eq,EV] at hj
 obtain ⟨⟨h1,h2,h3⟩,h4⟩:=hj
 have h1:=A7.1 h1
 obtain ⟨w,hw,h5⟩:=Aa (hf.node _ h1)
 have h0:=hF.at_ i hi
 rw [e] at h0
 rw [hw] at h1 h2 h3 h4 h0
 rw [toNat_natCast] at h2 h3 h4
 refine ⟨w,by rw [HZ hF.len,h0],h1,h2,h3,h4,?_⟩
 rw [wyB,wyE,A7.2 h1,A7.2 hr,h0,decide_eq_true rfl,Bool.or_true]
 rfl
def AdA (t:A1) (a:Nat):Prop:=0<=(t.at a).thread/\(t.at a).mode=4
def hbX (t:A1) (e:AT) (a b:Nat):Prop:=Gz (JW t e.has e.rf) t.nodes.length a b
def R7 (t:A1) (e:AT) (a b:Nat):Prop:=(a:Int)∈e.has/\(b:Int)∈e.has/\a≠b/\AdA t a/\AdA t b /\
 ∃ c d:Nat,c < t.nodes.length/\d < t.nodes.length/\(c=a\/((t.at a).kind=4/\hbX t e a c))/\(d=b\/((t.at b).kind=4/\hbX t e d b))/\(hbX t e c d\/KC t e c d)
noncomputable def A79 (t:A1) (e:AT):Rows:=E3 t.nodes.length (R7 t e)
def CW (t:A1) (e:AT) (n:Int):Bool:=!(t.at n.toNat).rmw || (decide (0<=Cc e.has e.rf (t.at n.toNat).up) && decide (BI (LD e (t.at n.toNat).loc) n=BI (LD e (t.at n.toNat).loc) (Cc e.has e.rf (t.at n.toNat).up)+1))
def AbE (t:A1) (e:AT):Bool:=RR t e && e.has.all (CW t e)
noncomputable def Ac2 (t:A1) (e:AT):Bool:=MK t e && e.has.all (CW t e) && A0q (A79 t e)
theorem Aaf {t:A1} {e:AT} {τ:Nat->Nat} (r2:∀ a b,hbX t e a b->τ a < τ b) (r3:∀ a b,XG t e a b->τ a < τ b) {a b:Nat} (h:R7 t e a b):τ a < τ b:=by
 have r4:∀ a b,KC t e a b->τ a < τ b:=fun a b h=>by
  induction h with
  | one _ h=>exact r3 _ _ (@of_decide_eq_true _ (Classical.propDecidable _) h)
  | more _ _ h ih=>have:=r3 _ _ (@of_decide_eq_true _ (Classical.propDecidable _) h);omega
 obtain ⟨_,_,_,_,_,c,d,_,_,hc,hd,h0⟩:=h
 have h1:τ a<=τ c:=by
  rcases hc with hc | ⟨_,hc⟩
  .rw [hc];exact Nat.le_refl _
  .exact Nat.le_of_lt (r2 _ _ hc)
 have h2:τ d<=τ b:=by
  rcases hd with hd | ⟨_,hd⟩
  .rw [hd];exact Nat.le_refl _
  .exact Nat.le_of_lt (r2 _ _ hd)
 have h3:τ c < τ d:=by
  rcases h0 with h | h
  .exact r2 _ _ h
  .exact r4 _ _ h
 omega
open Classical in
theorem Ado {t:A1} (ht:A5 t) {e:AT} {τ:Nat->Nat} (r2:∀ a b,hbX t e a b->τ a < τ b) (r3:∀ a b,XG t e a b->τ a < τ b):A0q (A79 t e)=true:=by
 refine (AbA ht.n64 _).2 fun i _ h=>?_
 have h0:∀ {a b:Nat},Gz (fun a b=>decide (R7 t e a b)) t.nodes.length a b->τ a < τ b:=fun {a b} h=>by
  induction h with
  | one _ h=>exact Aaf r2 r3 (of_decide_eq_true h)
  | more _ _ h ih=>have:=Aaf r2 r3 (of_decide_eq_true h);omega
 have:=h0 h
 omega
def Ajt (t:A1) (m:Nat):Prop:=(t.at m).rmw=true->0 < m/\(t.at m).up=((m - 1:Nat):Int)/\(t.at (m - 1)).kind=2/\(t.at (m - 1)).loc=(t.at m).loc/\(t.at m).kind=3
theorem G0.rw1 {t:A1}:∀ {n u e:Nat},G0 t n u e->u < e/\∀ m,u < m->m < e->Ajt t m:=by
 intro n
 induction n with
 | zero=>intro u e h;exact absurd h (by simp [G0])
 | succ n ih =>
  intro u e h
  obtain ⟨⟨_,ht,_⟩,h⟩:=h
  rcases h with ⟨_,_,rfl⟩ | ⟨c,_,_,al,hb⟩ | ⟨c,_,_,vals,k,loc,mode,_,hv0,hk0,hke,hloc,hs,_⟩
  .exact ⟨by omega,fun m h1 h2=>by omega⟩
  .have:=(ih hb).1
   refine ⟨by omega,fun m h1 h2=>?_⟩
   by_cases e1:m=u+1
   .subst e1
    intro hr
    rw [Nat.add_sub_cancel]
    simp only [CG,or_eq_true,and_eq_true,decide_eq_true_eq,not_eq_true'] at al
    rcases al with h | h
    .rw [h.1.1.2] at hr;cases hr
    .obtain ⟨⟨⟨h3,_⟩,_⟩,h4⟩:=h
     rw [if_pos hr] at h4
     simp only [and_eq_true,decide_eq_true_eq] at h4
     exact ⟨by omega,(Hh c).1,h4.1.1.2,h4.1.2,h3⟩
   .exact (ih hb).2 m (by omega) h2
  .have mono:∀ v,v<=vals->k 0<=k v:=by
    intro v
    induction v with
    | zero=>intro _;omega
    | succ v iv=>intro hv;have:=iv (by omega);have:=(ih (hs v (by omega)).2.2).1;omega
   refine ⟨by have:=mono vals (by omega);omega,fun m h1 h2=>?_⟩
   obtain ⟨v,hv,a,b⟩:=Cw (k:=k) (m:=m) vals (by omega) (by omega)
   obtain ⟨s1,s2,s3⟩:=hs v hv
   by_cases e1:m=k v
   .subst e1
    simp only [DB,and_eq_true,decide_eq_true_eq,not_eq_true'] at s2
    intro hr
    rw [s2.2] at hr;cases hr
   .exact (ih s3).2 m (by omega) b
theorem A5.rw1 {t:A1} (h:A5 t) {m:Nat} (hm:m < t.nodes.length):Ajt t m:=by
 obtain ⟨s,h0,he,hs⟩:=h.thr
 by_cases c:m < t.locs.length
 .intro hr
  have hi:=h.first.2 m c
  simp only [Gh,and_eq_true,decide_eq_true_eq,not_eq_true'] at hi
  rw [hi.1.1.2] at hr
  cases hr
 .obtain ⟨v,hv,a,b⟩:=Cw (k:=s) (m:=m) t.regs.length (by omega) (by omega)
  obtain ⟨hb,n,hn⟩:=hs v hv
  by_cases e1:m=s v
  .intro hr
   simp only [Dt,and_eq_true,decide_eq_true_eq,not_eq_true'] at hb
   rw [e1,hb.2] at hr
   cases hr
  .exact hn.rw1.2 m (by omega) b
structure AtP (t:A1) (s:A8):Prop where
 pr:∀ r:Nat,(r:Int)∈s.has->(t.at r).kind=2->Dl t r=true->((r+1:Nat):Int)∈s.has
 at_:∀ n:Nat,(n:Int)∈s.has->(t.at n).rmw=true->CW t (Bh s) n=true
theorem Agw {t:A1} (ht:A5 t):AtP t (AP t):=by
 constructor
 .intro r hr hk
  obtain ⟨m,e,hm,hu⟩:=CR.1 hr
  have e:r=m:=by omega
  subst e
  rcases GX ht hm hu with c | c<;>omega
 .intro n hn hr
  obtain ⟨m,e,hm,hu⟩:=CR.1 hn
  have e:n=m:=by omega
  subst e
  have:=(ht.rw1 hm hr).2.1
  omega
theorem A0s {t:A1} (ht:A5 t) {s s':A8} {m:Nat} (hf:AX t s) (X:Nxt t s s' m) (flat:∀ loc,(s'.mo.getD loc []).flatten=(s.mo.getD loc []).flatten\/((t.at m).kind=3/\(t.at m).loc=(loc:Int)/\(s'.mo.getD loc []).flatten=(s.mo.getD loc []).flatten++[(m:Int)]))
  (hmM:∀ loc,(m:Int)∉(s.mo.getD loc []).flatten) {n:Nat} (hn:(n:Int)∈s.has) (hr:(t.at n).rmw=true) (h:CW t (Bh s) n=true):CW t (Bh s') n=true:=by
 have hF:=Bz (BC (Be.2 hf))
 obtain ⟨n',e,h2⟩:=Aa (hf.node _ hn)
 have e:n=n':=by omega
 subst e
 obtain ⟨h0,hu,k2,h6,k3⟩:=ht.rw1 h2 hr
 have h1:((n - 1:Nat):Int)∈s.has:=by
  rcases hf.up _ hn with c | c
  .rw [toNat_natCast] at c;omega
  .rw [toNat_natCast,hu] at c;exact c
 have h4:Cc s'.has s'.jf ((n - 1:Nat):Int)=Cc s.has s.jf ((n - 1:Nat):Int):=X.ext.on _ h1
 have h5:Cc s.has s.jf ((n - 1:Nat):Int)≠m:=fun e=>by
  have:=(hF.read _ h1 (by rw [toNat_natCast];exact k2)).1
  rw [e] at this
  exact X.no this
 have h3:(n:Int)≠m:=fun e=>X.no (by rw [<- e];exact hn)
 rw [CW,toNat_natCast,hr,Bool.not_true,Bool.false_or,hu,K5,and_eq_true,decide_eq_true_eq,decide_eq_true_eq] at h ⊢
 have h:0<=Cc s.has s.jf ((n - 1:Nat):Int)/\BI (s.mo.getD (t.at n).loc.toNat []).flatten n=BI (s.mo.getD (t.at n).loc.toNat []).flatten (Cc s.has s.jf ((n - 1:Nat):Int))+1:=h
 show 0<=Cc s'.has s'.jf ((n - 1:Nat):Int)/\BI (s'.mo.getD (t.at n).loc.toNat []).flatten n=BI (s'.mo.getD (t.at n).loc.toNat []).flatten (Cc s'.has s'.jf ((n - 1:Nat):Int))+1
 rw [h4]
 refine ⟨h.1,?_⟩
 rcases flat (t.at n).loc.toNat with e | ⟨_,_,e⟩
 .rw [e];exact h.2
 .rw [e,Ei (hmM _),Ei (hmM _),if_neg h3,if_neg h5];exact h.2
theorem AdM {t:A1} {s s':A8} {n:Nat} (h:Yc t s n s'):(n:Int)∈s'.has/\(n:Int)∉s.has:=by
 have h0:∀ {x:A8} {kind w:Int},CL t s n kind w=some x->(n:Int)∈x.has/\(n:Int)∉s.has:=fun {x kind w} e=>by
  obtain ⟨m,e1,_,_,h1,_,rfl⟩:=DA e
  have:n=m:=by omega
  subst this
  exact ⟨Bp.2 (.inl rfl),h1⟩
 cases h with
 | bar _ e=>exact h0 e
 | read loc _ _ e =>
  unfold J1 at e
  split at e
  .rename_i x hx
   split at e
   .cases e;exact h0 hx
   .cases e
  .cases e
 | write loc _ _ e =>
  unfold E0 at e
  split at e
  .rename_i x hx
   split at e
   .cases e
   .cases e
    have k:=h0 hx
    exact k
  .cases e
theorem QN {t:A1} (ht:A5 t) {s s':A8} {n:Nat} (hf:AX t s) (h:Yc t s n s'):Nxt t s s' n/\(((t.at n).kind≠3/\(∀ loc,s'.mo.getD loc []=s.mo.getD loc [])/\(Cc s'.has s'.jf n = -1\/∃ loc:Nat,loc < s.mo.length/\(t.at n).kind=2/\(t.at n).loc=loc/\Cc s'.has s'.jf n=C8 s loc)) \/
  ((t.at n).kind=3/\∃ loc:Nat,(t.at n).loc=loc/\s'.mo.getD loc []=s.mo.getD loc []++[[(n:Int)]]/\∀ l,l≠loc->s'.mo.getD l []=s.mo.getD l [])):=by
 obtain ⟨m,X,p⟩:=Sp ht hf h
 obtain ⟨h1,h2⟩:=AdM h
 have e:n=m:=by
  rcases (X.has n).1 h1 with c | c
  .omega
  .exact absurd c h2
 subst e
 exact ⟨X,p⟩
theorem A9L {t:A1} (ht:A5 t) {s:A8} (hf:AX t s) (loc:Nat):∀ x∈(s.mo.getD loc []).flatten,x∈s.has:=fun x hx=>by
 obtain ⟨c,hc,hx⟩:=List.mem_flatten.1 hx
 by_cases hl:loc < s.mo.length
 .exact HH ht hf hl hc hx
 .rw [getD_eq_getElem?_getD,List.getElem?_eq_none (by omega)] at hc
  cases hc
theorem Vx {t:A1} {s s':A8} {m:Nat} (p:((t.at m).kind≠3/\(∀ loc,s'.mo.getD loc []=s.mo.getD loc [])/\(Cc s'.has s'.jf m = -1\/∃ loc:Nat,loc < s.mo.length/\(t.at m).kind=2/\(t.at m).loc=loc/\Cc s'.has s'.jf m=C8 s loc)) \/
  ((t.at m).kind=3/\∃ loc:Nat,(t.at m).loc=loc/\s'.mo.getD loc []=s.mo.getD loc []++[[(m:Int)]]/\∀ l,l≠loc->s'.mo.getD l []=s.mo.getD l [])) (loc:Nat) :
  (s'.mo.getD loc []).flatten=(s.mo.getD loc []).flatten\/((t.at m).kind=3/\(t.at m).loc=(loc:Int)/\(s'.mo.getD loc []).flatten=(s.mo.getD loc []).flatten++[(m:Int)]):=by
 rcases p with ⟨_,e,_⟩ | ⟨k3,l0,e1,e2,e3⟩
 .exact .inl (by rw [e])
 .by_cases c:loc=l0
  .subst c
   exact .inr ⟨k3,e1,by rw [e2,List.flatten_append];rfl⟩
  .exact .inl (by rw [e3 loc c])
theorem Adz {t:A1} {u:Nat} {mem:List Int} {to:Nat} {out:List Int} (h:Ez t u mem=some (to,out)):∃ i,i < t.nodes.length/\(t.at i).up=(u:Int)/\to=QF t i:=by
 unfold Ez at h
 split at h
 .cases h
 .obtain ⟨i,hi,e⟩:=Option.map_eq_some_iff.1 h
  simp only [Prod.mk.injEq] at e
  have hm:=List.mem_of_find?_eq_some hi
  unfold EI at hm
  split at hm
  .cases hm
  .simp only [List.mem_filter,List.mem_range,decide_eq_true_eq] at hm
   exact ⟨i,hm.1,hm.2,e.1.symm⟩
def WkP (t:A1) (s:A8):Prop:=Rk t s/\AtP t s
theorem Agz {t:A1} (ht:A5 t):WkP t (AP t):=⟨AjE ht,Agw ht⟩
theorem Aax {t:A1} (ht:A5 t) {s s1 s2:A8} {u to:Nat} {mem out:List Int} (hf:AX t s) (hus:(u:Int)∈s.has) (P:WkP t s) (h:Ez t u mem=some (to,out))
  (hif:if (t.at to).up≠(u:Int) then (∃ m:Nat,(t.at to).up=m/\m < t.nodes.length/\Yc t s m s1) else s1=s) (hf1:AX t s1) (w2:Yc t s1 to s2):WkP t s2:=by
 obtain ⟨R,A⟩:=P
 obtain ⟨i,h9,hm,h5⟩:=Adz h
 have q6:=ht.up i h9
 obtain ⟨X2,p2⟩:=QN ht hf1 w2
 have hd:∀ loc,(to:Int)∉(s1.mo.getD loc []).flatten:=fun loc hx=>X2.no (A9L ht hf1 loc _ hx)
 split at hif
 .rename_i hj
  obtain ⟨m,q5,q7,w1⟩:=hif
  have R1:=A3i ht hf w1 R
  refine ⟨A3i ht hf1 w2 R1,?_⟩
  obtain ⟨X1,p1⟩:=QN ht hf w1
  have q0:∀ loc,(m:Int)∉(s.mo.getD loc []).flatten:=fun loc hx=>X1.no (A9L ht hf loc _ hx)
  have hc:(t.at i).kind=2/\Dl t i=true:=by
   by_cases c:(t.at i).kind=2/\Dl t i=true
   .exact c
   .rw [QF,if_neg c] at h5
    rw [h5] at hj
    exact absurd hm hj
  rw [QF,if_pos hc] at h5
  have h7:=hc.2
  simp only [Dl,and_eq_true,decide_eq_true_eq] at h7
  obtain ⟨⟨hq,h8⟩,q4⟩:=h7
  have q1:m=i:=by
   rw [h5,h8] at q5
   omega
  subst q1
  subst h5
  obtain ⟨_,_,_,hi,hp⟩:=ht.rw1 hq q4
  rw [Nat.add_sub_cancel] at hi
  constructor
  .intro r hr k2 h6
   rcases (X2.has r).1 hr with c | c
   .have:r=m+1:=by omega
    subst this
    omega
   .rcases (X1.has r).1 c with c | c
    .have:r=m:=by omega
     subst this
     exact (X2.has _).2 (.inl rfl)
    .exact (X2.has _).2 (.inr ((X1.has _).2 (.inr (A.pr r c k2 h6))))
  .intro n hn hr
   rcases (X2.has n).1 hn with c | c
   .have e:n=m+1:=by omega
    subst e
    rcases p1 with ⟨_,emo,hw⟩ | ⟨k,_⟩
    .have hh:=X1.src hc.1
     have hw:∃ loc:Nat,loc < s.mo.length/\(t.at m).kind=2/\(t.at m).loc=loc/\Cc s1.has s1.jf m=C8 s loc:=by
      rcases hw with hw | hw
      .have:=hf.node _ hh
       rw [hw] at this
       simp [BF] at this
      .exact hw
     obtain ⟨loc,hy,_,hb,hw⟩:=hw
     have q2:(m:Int)∈s1.has:=(X1.has _).2 (.inl rfl)
     have q3:Cc s2.has s2.jf m=C8 s loc:=by rw [X2.ext.on _ q2,hw]
     obtain ⟨w,q8,_⟩:=Aa (hf.node (C8 s loc) (by rw [<- hw];exact hh))
     have hg:0 < (s.mo.getD loc []).length:=by
      have h1:=hf.mo loc hy
      simp only [CX,and_eq_true,not_eq_true',decide_eq_false_iff_not] at h1
      have:=h1.1.1
      omega
     have hz:C8 s loc=(s.mo.getD loc []).flatten.getD ((s.mo.getD loc []).length - 1) 0:=Sc (R.sg loc) hg
     have hv:=LP (R.sg loc)
     have ho:BI (s.mo.getD loc []).flatten (C8 s loc)=(((s.mo.getD loc []).length - 1:Nat):Int):=by
      rw [hz]
      exact Dv (R.nd loc) (by omega)
     rw [CW,toNat_natCast,hr,Bool.not_true,Bool.false_or,h8,K5,<- hi,hb,toNat_natCast,and_eq_true,decide_eq_true_eq,decide_eq_true_eq]
     show 0<=Cc s2.has s2.jf m/\BI (s2.mo.getD loc []).flatten ((m+1:Nat):Int)=BI (s2.mo.getD loc []).flatten (Cc s2.has s2.jf m)+1
     rw [q3]
     refine ⟨by omega,?_⟩
     have hl:(s2.mo.getD loc []).flatten=(s.mo.getD loc []).flatten++[((m+1:Nat):Int)]:=by
      rcases p2 with ⟨k,_⟩ | ⟨_,l0,e1,e2,_⟩
      .exact absurd hp k
      .have:l0=loc:=by omega
       subst this
       rw [e2,emo,List.flatten_append]
       rfl
     have hk:((m+1:Nat):Int)∉(s.mo.getD loc []).flatten:=by
      have:=hd loc
      rw [emo] at this
      exact this
     have he:C8 s loc≠((m+1:Nat):Int):=fun e=>by
      have h1:=X2.no
      have h2:=(X1.has (C8 s loc)).2 (.inr (by rw [<- hw];exact hh))
      rw [e] at h2
      exact h1 h2
     rw [hl,Ei hk,Ei hk,if_pos rfl,if_neg he,ho]
     omega
    .omega
   .refine A0s ht hf1 X2 (Vx p2) hd c hr ?_
    rcases (X1.has n).1 c with d | d
    .have e:n=m:=by omega
     subst e
     have:=(ht.rw1 h9 hr).2.2.2.2
     omega
    .exact A0s ht hf X1 (Vx p1) q0 d hr (A.at_ n d hr)
 .rename_i ha
  have ha:(t.at to).up=(u:Int):=Classical.not_not.1 ha
  subst hif
  refine ⟨A3i ht hf1 w2 R,?_⟩
  have hc:¬ ((t.at i).kind=2/\Dl t i=true):=fun c=>by
   rw [QF,if_pos c] at h5
   have h7:=c.2
   simp only [Dl,and_eq_true,decide_eq_true_eq] at h7
   rw [h5,h7.1.2] at ha
   omega
  rw [QF,if_neg hc] at h5
  subst h5
  constructor
  .intro r hr k2 h6
   rcases (X2.has r).1 hr with c | c
   .have:r=to:=by omega
    subst this
    exact absurd ⟨k2,h6⟩ hc
   .exact (X2.has _).2 (.inr (A.pr r c k2 h6))
  .intro n hn hr
   rcases (X2.has n).1 hn with c | c
   .have e:n=to:=by omega
    subst e
    exfalso
    obtain ⟨h0,h1,h2,h3,h4⟩:=ht.rw1 h9 hr
    have hu:u=n - 1:=by omega
    have h6:Dl t u=true:=by
     simp only [Dl,and_eq_true,decide_eq_true_eq]
     rw [show u+1=n by omega]
     exact ⟨⟨h9,ha⟩,hr⟩
    have:=A.pr u hus (by rw [hu];exact h2) h6
    rw [show u+1=n by omega] at this
    exact X2.no this
   .exact A0s ht hf1 X2 (Vx p2) hd c hr (A.at_ n c hr)
theorem A9o {t:A1} (ht:A5 t) {s:A8} (hf:AX t s) {n:Nat} (hn:(n:Int)∈s.has) (h0:0<=JY s n):∃ w k loc:Nat,JY s n=w/\(w:Int)∈s.has/\(t.at w).loc=loc/\(t.at n).loc=loc/\loc < s.mo.length/\B5 s loc w=k/\k < (s.mo.getD loc []).length/\AZ (clX s loc k) w=true:=by
 have hF:=Bz (BC (Be.2 hf))
 have hb:=hf.ml
 have hk:(t.at n).kind=2:=by
  by_cases hk:(t.at n).kind=2
  .exact hk
  .have h1:=hF.none n hn (by rw [toNat_natCast];exact hk)
   rw [HZ hF.len,h1] at h0
   omega
 obtain ⟨w,e1,e2,e3,e4,_,_⟩:=YU ht hf hn hk
 obtain ⟨n',en,ha⟩:=Aa (hf.node _ hn)
 have en:n=n':=by omega
 subst en
 have h2:=ht.wloc ha (.inl hk)
 obtain ⟨loc,h5⟩:=Int.eq_ofNat_of_zero_le h2.1
 have h9:loc < s.mo.length:=by omega
 have h3:=hf.once w e2 (by rw [toNat_natCast];exact e3)
 rw [toNat_natCast,e4,h5,toNat_natCast] at h3
 obtain ⟨c,hc,h4⟩:∃ c∈s.mo.getD loc [],AZ c (w:Int)=true:=by
  rcases hh:(s.mo.getD loc []).filter fun c=>AZ c (w:Int) with _ | ⟨c,_⟩
  .rw [hh] at h3;simp at h3
  .have:c∈(s.mo.getD loc []).filter fun c=>AZ c (w:Int):=by rw [hh];exact mem_cons_self ..
   exact ⟨c,(List.mem_filter.1 this).1,(List.mem_filter.1 this).2⟩
 have hp:∃ k:Nat,B5 s loc w=k/\k < (s.mo.getD loc []).length/\AZ ((s.mo.getD loc []).getD k []) (w:Int)=true:=by
  rw [B5,if_neg (by omega),toNat_natCast,C7]
  cases hq:(s.mo.getD loc []).findIdx? fun c=>AZ c (w:Int) with
  | none =>
   rw [List.findIdx?_eq_none_iff] at hq
   rw [hq c hc] at h4
   cases h4
  | some k =>
   obtain ⟨a,b,_⟩:=List.findIdx?_eq_some_iff_getElem.1 hq
   exact ⟨k,rfl,a,by rw [getD_eq_getElem?_getD,getElem?_eq_getElem a];exact b⟩
 obtain ⟨k,h6,h7,h8⟩:=hp
 exact ⟨w,k,loc,e1,e2,by omega,h5,h9,h6,h7,h8⟩
theorem Afi {t:A1} (ht:A5 t) {s:A8} (hf:AX t s) {n:Nat} (hn:(n:Int)∈s.has) (h0:JY s n < 0):JY s n = -1:=by
 have hF:=Bz (BC (Be.2 hf))
 by_cases hk:(t.at n).kind=2
 .obtain ⟨w,e1,_⟩:=YU ht hf hn hk
  omega
 .rw [HZ hF.len]
  exact hF.none n hn (by rw [toNat_natCast];exact hk)
theorem AbX {t:A1} (ht:A5 t) {s:A8} (hf:AX t s) {loc:Nat} (hl:loc < s.mo.length):(s.mo.getD loc []).flatten.Nodup:=by
 have hb:=hf.ml
 have h6:∀ k,k < (s.mo.getD loc []).length->(clX s loc k).Nodup:=fun k hk=>(RC hf hl hk).imp fun h=>by omega
 have wr:∀ c∈s.mo.getD loc [],∀ x∈c,(t.at x.toNat).kind=3/\(t.at x.toNat).loc=(loc:Int):=fun c hc x hx=>by
  have h:=hf.mo loc hl
  simp only [CX,and_eq_true,Ag,decide_eq_true_eq] at h
  obtain ⟨⟨_,h2⟩,h3⟩:=h
  obtain ⟨k,hk,e⟩:=getElem_of_mem hc
  have h4:=h3 k hk
  have e:(s.mo.getD loc []).getD k []=c:=by rw [getD_eq_getElem?_getD (l:=s.mo.getD loc []),getElem?_eq_getElem hk];exact e
  rw [or_eq_true,decide_eq_true_eq] at h4
  rcases h4 with h4 | h4
  .subst h4
   rw [e] at h2
   rw [h2,mem_singleton] at hx
   subst hx
   have I:=ht.init loc (by omega)
   rw [toNat_natCast]
   exact ⟨I.kind,I.loc⟩
  .rw [e] at h4
   simp only [BR,and_eq_true,Ag,B3,EV,decide_eq_true_eq] at h4
   obtain ⟨j,hj,ej⟩:=getElem_of_mem hx
   have h5:=(h4.2 j hj).1.1.2
   rw [getD_eq_getElem?_getD,getElem?_eq_getElem hj,Option.getD_some,ej] at h5
   exact h5
 rw [List.nodup_iff_pairwise_ne,List.pairwise_flatten]
 refine ⟨fun c hc=>List.nodup_iff_pairwise_ne.1 ?_,?_⟩
 .obtain ⟨k,hk,e⟩:=getElem_of_mem hc
  have:=h6 k hk
  rw [clX,getD_eq_getElem?_getD (l:=s.mo.getD loc []),getElem?_eq_getElem hk,Option.getD_some,e] at this
  exact this
 .rw [List.pairwise_iff_getElem]
  intro i j hi hj ha x h1 y h9 h7
  subst h7
  obtain ⟨k3,h8⟩:=wr _ (List.getElem_mem hi) x h1
  have hx:x∈s.has:=HH ht hf hl (List.getElem_mem hi) h1
  have h0:=hf.once x hx k3
  rw [h8,toNat_natCast] at h0
  obtain ⟨L,hL⟩:∃ L,L=s.mo.getD loc []:=⟨_,rfl⟩
  have e:L=L.take (i+1)++L.drop (i+1):=(List.take_append_drop _ _).symm
  rw [<- hL] at h0
  rw [e,List.filter_append,length_append] at h0
  have a1:0 < ((L.take (i+1)).filter fun c=>AZ c x).length:=List.length_pos_of_mem (List.mem_filter.2 ⟨by
   rw [List.mem_iff_getElem]
   refine ⟨i,by rw [List.length_take];subst hL;omega,?_⟩
   rw [List.getElem_take],A7.2 (by subst hL;exact h1)⟩)
  have a2:0 < ((L.drop (i+1)).filter fun c=>AZ c x).length:=List.length_pos_of_mem (List.mem_filter.2 ⟨by
   rw [List.mem_iff_getElem]
   refine ⟨j - (i+1),by rw [List.length_drop];subst hL;omega,?_⟩
   rw [List.getElem_drop],A7.2 (by subst hL;simpa [show i+1+(j - (i+1))=j by omega] using h9)⟩)
  omega
theorem A9z {x:List Int}:∀ l:List (List Int),(Tz x l).Sublist l.flatten
 | []=>List.Sublist.refl _
 | c::l=>by
  rw [Tz,List.flatMap_cons,flatten_cons]
  exact List.Sublist.append List.filter_sublist (A9z l)
theorem Ag1 {t:A1} (ht:A5 t) {s:A8} (hf:AX t s) (x:List Int) {loc:Nat} (hl:loc < s.mo.length):(Tz x (s.mo.getD loc [])).length<=64:=by
 have h1:=(A9z (x:=x) (s.mo.getD loc [])).length_le
 have h2:=GQ _ s.has (AbX ht hf hl) fun y hy=>by
  obtain ⟨c,hc,hy⟩:=List.mem_flatten.1 hy
  exact HH ht hf hl hc hy
 have h3:=hf.len
 have h4:=ht.n64
 omega
theorem A0G {t:A1} {e:AT} {τ:Nat->Nat} (r3:∀ a b,XG t e a b->τ a < τ b) {a b:Nat} (h:KC t e a b):τ a < τ b:=by
 induction h with
 | one _ h=>exact r3 _ _ (@of_decide_eq_true _ (Classical.propDecidable _) h)
 | more _ _ h ih=>have:=r3 _ _ (@of_decide_eq_true _ (Classical.propDecidable _) h);omega
section
variable {t:A1} (ht:A5 t) {s:A8} {mem:List Int} {k:Nat} (W:WI t s mem k) (P:WkP t s)
include ht W P
theorem A63:XP t (Bh s):=Pt ht (A3E ht W)
theorem A09:AbE t (Bh s)=true/\(Bh s).has.all (CW t (Bh s))=true:=by
 have h:(Bh s).has.all (CW t (Bh s))=true:=by
  rw [all_eq_true]
  intro x hx
  have hx:x∈s.has:=hx
  obtain ⟨n,rfl,hn⟩:=Aa (W.form.node _ hx)
  cases hr:(t.at n).rmw with
  | true=>exact P.2.at_ n hx hr
  | false=>rw [CW,toNat_natCast,hr];rfl
 exact ⟨by rw [AbE,A3E ht W,h];rfl,h⟩
theorem A7z:Ac2 t (Bh s)=true:=by
 obtain ⟨τ,_,_,r2,r3⟩:=P.1.rk
 rw [Ac2,AiQ ht W,(A09 ht W P).2,Ado ht (e:=Bh s) (τ:=τ) r2 r3]
 rfl
theorem AaW {a b:Nat} (h:hbX t (Bh s) a b):¬ KC t (Bh s) b a/\¬ hbX t (Bh s) b a:=by
 obtain ⟨τ,_,_,r2,r3⟩:=P.1.rk
 have h1:=r2 a b h
 exact ⟨fun h2=>by have:=A0G r3 h2;omega,fun h2=>by have:=r2 b a h2;omega⟩
theorem AaV {a b:Nat} (h:KC t (Bh s) a b):¬ KC t (Bh s) b a:=by
 obtain ⟨τ,_,_,r2,r3⟩:=P.1.rk
 have h1:=A0G r3 h
 exact fun h2=>by have:=A0G r3 h2;omega
end
end Go.AM
