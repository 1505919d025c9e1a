/-
  Own work, part of the proof of these laws: plain laws.
-/
import Derived.Test.YtpnaenhghnkggabGreatDoorKN
set_option maxRecDepth 10000
set_option maxHeartbeats 64000000
set_option linter.unusedVariables false
set_option linter.unusedSimpArgs false
set_option linter.unusedSectionVars false
set_option linter.unnecessarySimpa false
open Bool (and_eq_true)
open Int (toNat_natCast)
open List (getElem?_eq_getElem getD_eq_getElem?_getD length_map length_cons ext_getElem mem_singleton)
open Option (getD_some)
namespace Go.AM
open Go Go.Proofs
structure XP (t:A2) (e:A1k):Prop where
 ok:CR t e.has e.rf
 ml:e.mo.length=t.locs.length
 mem:∀ loc,loc < t.locs.length->∀ x,x∈e.mo.getD loc []↔x∈e.has/\AqW t loc x=true
 nd:∀ loc,loc < t.locs.length->(e.mo.getD loc []).Nodup
theorem Aej {t:A2} {s:A6} (hf:Bg t s) {i:Nat} (hi:i < s.has.length):Li s (s.has.getD i 0)=s.jf.getD i 0:=by
 have hd:s.has.Nodup:=hf.ris.imp fun h=>by omega
 have h0:=hf.jl
 rw [Li,MF hd hi,if_neg (by omega)]
 rfl
open Classical in
noncomputable def TV (n:Nat) (p:Nat->Nat->Bool) (b:Nat):Nat:=((List.range n).filter fun a=>decide (EO p n a b)).length
section
variable {n:Nat} {p:Nat->Nat->Bool} (H:∀ i,¬ EO p n i i)
include H
open Classical in
theorem A1A {a b:Nat} (ha:a < n) (hb:b < n) (h:p a b=true):TV n p a < TV n p b:=by
 exact PE (p:=fun x=>decide (EO p n x a)) (q:=fun x=>decide (EO p n x b)) (fun x hp=>decide_eq_true (EO.more (of_decide_eq_true hp) hb h)) (x:=a) (decide_eq_true (EO.one hb h)) (decide_eq_false (H a)) (List.mem_range.2 ha)
open Classical in
theorem Ag6 {b:Nat} (hb:b < n):TV n p b < n:=by
 have h:TV n p b < ((List.range n).filter fun _=>true).length:=PE (p:=fun x=>decide (EO p n x b)) (q:=fun _=>true) (fun x _=>rfl) (x:=b) rfl (decide_eq_false (H b)) (List.mem_range.2 hb)
 have e:(List.range n).filter (fun _=>true)=List.range n:=List.filter_eq_self.2 fun _ _=>rfl
 rw [e,List.length_range] at h
 exact h
end
def mxL (l:List Nat):Nat:=l.foldl max 0
theorem Abz (l:List Nat):∀ m:Nat,m<=l.foldl max m/\(∀ x∈l,x<=l.foldl max m)/\(l.foldl max m=m\/l.foldl max m∈l):=by
 induction l with
 | nil=>exact fun m=>⟨Nat.le_refl _,(fun x hx=>by cases hx),.inl rfl⟩
 | cons y l ih =>
  intro m
  obtain ⟨h1,h2,h3⟩:=ih (max m y)
  rw [List.foldl_cons]
  have a:=Nat.le_max_left m y
  have b:=Nat.le_max_right m y
  refine ⟨by omega,fun x hx=>?_,?_⟩
  .rcases List.mem_cons.1 hx with e | e
   .subst e;omega
   .exact h2 x e
  .rcases h3 with h3 | h3
   .rw [h3]
    rcases Nat.le_total m y with c | c
    .rw [Nat.max_eq_right c];exact .inr (List.mem_cons_self ..)
    .rw [Nat.max_eq_left c];exact .inl rfl
   .exact .inr (List.mem_cons_of_mem _ h3)
def dpN (n:Nat) (p:Nat->Nat->Bool):Nat->Nat->Nat
 | 0,_=>0
 | f+1,b=>mxL (((List.range n).filter fun a=>p a b).map fun a=>dpN n p f a+1)
def Lf (n:Nat) (p:Nat->Nat->Bool) (b:Nat):Nat:=dpN n p (n+1) b
section
variable {n:Nat} {p:Nat->Nat->Bool} (H:∀ i,¬ EO p n i i)
include H
theorem A9p:∀ f g b,b < n->TV n p b < f->TV n p b < g->dpN n p f b=dpN n p g b
 | 0,_,_,_,h,_=>by omega
 | _,0,_,_,_,h=>by omega
 | f+1,g+1,b,hb,h1,h2=>by
  rw [dpN,dpN]
  congr 1
  refine List.map_congr_left fun a ha=>?_
  obtain ⟨h3,h4⟩:=List.mem_filter.1 ha
  have h3:=List.mem_range.1 h3
  have:=A1A H h3 hb h4
  rw [A9p f g a h3 (by omega) (by omega)]
theorem Zv {b:Nat} (hb:b < n):Lf n p b=mxL (((List.range n).filter fun a=>p a b).map fun a=>Lf n p a+1):=by
 rw [Lf,dpN]
 congr 1
 refine List.map_congr_left fun a ha=>?_
 obtain ⟨h3,h4⟩:=List.mem_filter.1 ha
 have h3:=List.mem_range.1 h3
 have h5:=A1A H h3 hb h4
 have h6:=Ag6 H hb
 rw [Lf,A9p H n (n+1) a h3 (by omega) (by omega)]
theorem Qj {a b:Nat} (ha:a < n) (hb:b < n) (h:p a b=true):Lf n p a < Lf n p b:=by
 rw [Zv H hb]
 exact (Abz _ 0).2.1 _ (List.mem_map.2 ⟨a,List.mem_filter.2 ⟨List.mem_range.2 ha,h⟩,rfl⟩)
theorem U5 {b:Nat} (hb:b < n) (h:Lf n p b≠0):∃ a,a < n/\p a b=true/\Lf n p a+1=Lf n p b:=by
 rw [Zv H hb] at h ⊢
 rcases (Abz (((List.range n).filter fun a=>p a b).map fun a=>Lf n p a+1) 0).2.2 with e | e
 .exact absurd e h
 .obtain ⟨a,ha,e2⟩:=List.mem_map.1 e
  obtain ⟨h3,h4⟩:=List.mem_filter.1 ha
  exact ⟨a,List.mem_range.1 h3,h4,e2⟩
theorem U4:∀ N b,b < n->Lf n p b<=N->Lf n p b<=TV n p b
 | 0,b,_,h=>by omega
 | N+1,b,hb,h=>by
  by_cases c:Lf n p b=0
  .omega
  .obtain ⟨a,ha,h1,h2⟩:=U5 H hb c
   have h3:=U4 N a ha (by omega)
   have h4:=A1A H ha hb h1
   omega
theorem A4Z {b:Nat} (hb:b < n):Lf n p b < n:=by
 have h1:=U4 H _ b hb (Nat.le_refl _)
 have h2:=Ag6 H hb
 omega
end
def rdN (t:A2):Nat->Int->Int
 | 0,r=>r
 | f+1,r=>if r < 0\/(t.at r.toNat).kind=2 then r else rdN t f (t.at r.toNat).up
theorem Acz {t:A2} (ht:A9 t):∀ (f g:Nat) (r:Int),r < t.nodes.length->r < f->r < g->rdN t f r=rdN t g r
 | 0,0,r,_,_,_=>rfl
 | 0,g+1,r,_,h,_=>by rw [rdN,rdN,if_pos (.inl (by omega))]
 | f+1,0,r,_,_,h=>by rw [rdN,rdN,if_pos (.inl (by omega))]
 | f+1,g+1,r,hl,h1,h2=>by
  rw [rdN,rdN]
  by_cases c:r < 0\/(t.at r.toNat).kind=2
  .rw [if_pos c,if_pos c]
  .rw [if_neg c,if_neg c]
   obtain ⟨m,rfl⟩:=Int.eq_ofNat_of_zero_le (show 0<=r by omega)
   have:=ht.up m (by omega)
   rw [toNat_natCast]
   exact Acz ht f g _ (by omega) (by omega) (by omega)
def M8 (t:A2) (r:Int):Int:=rdN t (t.nodes.length+1) r
theorem MM {t:A2} (ht:A9 t) {r:Int} (hl:r < t.nodes.length):M8 t r=if r < 0\/(t.at r.toNat).kind=2 then r else M8 t (t.at r.toNat).up:=by
 rw [M8,rdN]
 by_cases c:r < 0\/(t.at r.toNat).kind=2
 .rw [if_pos c,if_pos c]
 .rw [if_neg c,if_neg c]
  obtain ⟨m,rfl⟩:=Int.eq_ofNat_of_zero_le (show 0<=r by omega)
  have:=ht.up m (by omega)
  rw [M8,toNat_natCast]
  exact Acz ht _ _ _ (by omega) (by omega) (by omega)
theorem Acw {t:A2} (ht:A9 t) {s:A6} (hf:Bg t s):∀ N (w:Nat),w < N->(w:Int)∈s.has->(M8 t (t.at w).up < 0/\∀ u:Nat,Az t u w=true->(t.at u).kind≠2)\/∃ r:Nat,M8 t (t.at w).up=r/\(r:Int)∈s.has/\(t.at r).kind=2/\Az t r w=true
 | 0,w,h,_=>by omega
 | N+1,w,hN,hw=>by
  obtain ⟨w',e,hwl⟩:=A7 (hf.node _ hw)
  have e:w=w':=by omega
  subst e
  have h7:=ht.up w hwl
  have h0:(t.at w).up < t.nodes.length:=by omega
  rw [MM ht h0]
  rcases Int.lt_or_le (t.at w).up 0 with c | c
  .refine .inl ⟨by rw [if_pos (.inl c)];exact c,fun u hu=>?_⟩
   exfalso
   unfold Az at hu
   rw [DU ht.up u h0,if_pos c] at hu
   cases hu
  .obtain ⟨u,hu⟩:=Int.eq_ofNat_of_zero_le c
   have h5:(u:Int)∈s.has:=by
    rcases hf.up _ hw with h | h
    .rw [toNat_natCast] at h;omega
    .rw [toNat_natCast,hu] at h;exact h
   have h6:Az t u w=true:=by rw [HI ht.up hwl hu,decide_eq_true rfl,Bool.true_or]
   rw [hu,toNat_natCast]
   by_cases k:(t.at u).kind=2
   .rw [if_pos (.inr k)]
    exact .inr ⟨u,rfl,h5,k,h6⟩
   .rw [if_neg (by omega)]
    rcases Acw ht hf N u (by omega) h5 with ⟨h1,h2⟩ | ⟨r,h1,h2,h3,h4⟩
    .refine .inl ⟨h1,fun v hv=>?_⟩
     rw [HI ht.up hwl hu,Bool.or_eq_true,decide_eq_true_eq] at hv
     rcases hv with hv | hv
     .subst hv;exact k
     .exact h2 v hv
    .refine .inr ⟨r,h1,h2,h3,?_⟩
     rw [HI ht.up hwl hu,h4,Bool.or_true]
theorem Qy {t:A2} (ht:A9 t) {s:A6} (hf:Bg t s) {r:Nat} (hr:(r:Int)∈s.has) (hk:(t.at r).kind=2):∃ w:Nat,Li s r=w/\(w:Int)∈s.has/\(t.at w).kind=3/\(t.at w).loc=(t.at r).loc/\(t.at w).val=(t.at r).val/\Kw t s w r=true:=by
 have hF:=Ba (B3 (AY.2 hf))
 obtain ⟨i,hi,e⟩:=List.getElem_of_mem hr
 have e:s.has.getD i 0=r:=by rw [getD_eq_getElem?_getD,getElem?_eq_getElem hi];exact e
 have hj:=hf.just i hi
 rw [e] at hj
 unfold okJ at hj
 rw [toNat_natCast,if_pos hk] at hj
 simp only [and_eq_true,decide_eq_true_eq,GY] at hj
 obtain ⟨⟨h1,h2,h3⟩,h4⟩:=hj
 have h1:=Af.1 h1
 obtain ⟨w,hw,h5⟩:=A7 (hf.node _ h1)
 have h0:=hF.at_ i hi
 rw [e] at h0
 rw [hw] at h1 h2 h3 h4 h0
 rw [toNat_natCast] at h2 h3 h4
 refine ⟨w,by rw [K0 hF.len,h0],h1,h2,h3,h4,?_⟩
 rw [Kw,wyE,Af.2 h1,Af.2 hr,h0,decide_eq_true rfl,Bool.or_true]
 rfl
theorem Ahm {t:A2} (ht:A9 t) {s:A6} {r w:Nat} (hr:(r:Int)∈s.has) (hw:(w:Int)∈s.has) (hrl:r < t.nodes.length) (hwl:w < t.nodes.length) (h0:0<=(t.at r).thread) (h:Az t r w=true):Ah t r w=true/\Kw t s r w=true:=by
 have hb:Ah t r w=true:=by
  rw [Ah,toNat_natCast,toNat_natCast,if_neg (by omega),h]
  simp [BU];omega
 exact ⟨hb,by rw [Kw,wyE,Af.2 hr,Af.2 hw,hb];rfl⟩
theorem Ajr {t:A2} (ht:A9 t) {r:Nat} (hrl:r < t.nodes.length) (hk:(t.at r).kind=2):0<=(t.at r).thread:=by
 rcases Int.lt_or_le (t.at r).thread 0 with c | c
 .have:=(ht.init r ((ht.thr_iff hrl).1 c)).kind
  omega
 .exact c
def chN (t:A2) (s:A6):Nat->Int->List Int
 | 0,_=>[]
 | f+1,r=>if r < 0 then [] else r::Li s r::chN t s f (M8 t (t.at (Li s r).toNat).up)
section
variable {t:A2} (ht:A9 t) {s:A6} (hf:Bg t s) (hA:Acy t s)
include ht hf hA
def Hb (t:A2) (s:A6) (b:Nat):Nat:=Lf t.nodes.length (Kw t s) b
theorem RU {b:Nat} (h:(b:Int)∈s.has):b < t.nodes.length:=by
 obtain ⟨m,e,hm⟩:=A7 (hf.node _ h)
 omega
theorem Ml {r:Nat} (hr:(r:Int)∈s.has) (hk:(t.at r).kind=2):∃ w:Nat,Li s r=w/\(w:Int)∈s.has/\(t.at w).kind=3/\(t.at w).val=(t.at r).val/\Hb t s w < Hb t s r /\
  ((M8 t (t.at w).up < 0/\∀ u:Nat,Az t u w=true->(t.at u).kind≠2)\/∃ q:Nat,M8 t (t.at w).up=q/\(q:Int)∈s.has/\(t.at q).kind=2/\Ah t q w=true/\Hb t s q < Hb t s w):=by
 obtain ⟨w,h1,h2,h3,h4,h5,h6⟩:=Qy ht hf hr hk
 have h7:=RU ht hf hA h2
 have h8:=RU ht hf hA hr
 refine ⟨w,h1,h2,h3,h5,Qj hA h7 h8 h6,?_⟩
 rcases Acw ht hf _ w (Nat.lt_succ_self _) h2 with c | ⟨q,g1,g2,g3,g4⟩
 .exact .inl c
 .have h0:=RU ht hf hA g2
  obtain ⟨b1,b2⟩:=Ahm ht g2 h2 h0 h7 (Ajr ht h0 g3) g4
  exact .inr ⟨q,g1,g2,g3,b1,Qj hA h0 h7 b2⟩
theorem A9c:∀ f g (r:Nat),(r:Int)∈s.has->(t.at r).kind=2->Hb t s r < f->Hb t s r < g->chN t s f r=chN t s g r
 | 0,_,_,_,_,h,_=>by omega
 | _+1,0,_,_,_,_,h=>by omega
 | f+1,g+1,r,hr,hk,h1,h2=>by
  obtain ⟨w,e1,e2,e3,e4,e5,e6⟩:=Ml ht hf hA hr hk
  rw [chN,chN,if_neg (by omega),if_neg (by omega),e1,toNat_natCast]
  congr 2
  rcases e6 with ⟨c,_⟩ | ⟨q,g1,g2,g3,g4,g5⟩
  .cases f<;>cases g<;>simp [chN,c]
  .rw [g1]
   exact A9c f g q g2 g3 (by omega) (by omega)
def NV (t:A2) (s:A6) (r:Int):List Int:=chN t s (t.nodes.length+1) r
theorem Qf {r:Nat} (hr:(r:Int)∈s.has) (hk:(t.at r).kind=2):NV t s r=(r:Int)::Li s r::NV t s (M8 t (t.at (Li s r).toNat).up):=by
 have h0:=RU ht hf hA hr
 obtain ⟨w,e1,e2,e3,e4,e5,e6⟩:=Ml ht hf hA hr hk
 have hd:Hb t s r < t.nodes.length:=A4Z hA h0
 rw [NV,chN,if_neg (by omega),e1,toNat_natCast,NV]
 congr 2
 rcases e6 with ⟨c,_⟩ | ⟨q,g1,g2,g3,g4,g5⟩
 .obtain ⟨n,hn⟩:∃ n,t.nodes.length=n+1:=⟨t.nodes.length - 1,by omega⟩
  rw [hn]
  simp [chN,c]
 .rw [g1]
  exact A9c ht hf hA _ _ q g2 g3 (by omega) (by omega)
theorem TQ {r:Int} (h:r < 0):NV t s r=[]:=by
 rw [NV,chN,if_pos h]
end
def YP (s:A6) (i:Nat):Nat:=(s.has.getD i 0).toNat
def L5 (t:A2) (s:A6) (i:Nat):Nat:=Hb t s (YP s i)
def rkE (t:A2) (s:A6) (i k:Nat):Bool:=Ah t (s.has.getD i 0) (s.has.getD k 0) || decide (s.jf.getD k 0=s.has.getD i 0)
section
variable {t:A2} (ht:A9 t) {s:A6} (hf:Bg t s) (hA:Acy t s)
include ht hf hA
theorem SZ {i:Nat} (hi:i < s.has.length):s.has.getD i 0=(YP s i:Int)/\((YP s i:Nat):Int)∈s.has/\YP s i < t.nodes.length:=by
 have h:=Ac (d:=0) hi
 obtain ⟨m,e,hm⟩:=A7 (hf.node _ h)
 have e2:YP s i=m:=by rw [YP,e,toNat_natCast]
 rw [e2]
 exact ⟨e,by rw [<- e];exact h,hm⟩
theorem AcG {i k:Nat} (hi:i < s.has.length) (hk:k < s.has.length):rkE t s i k=Kw t s (YP s i) (YP s k):=by
 have hF:=Ba (B3 (AY.2 hf))
 obtain ⟨e1,m1,_⟩:=SZ ht hf hA hi
 obtain ⟨e2,m2,_⟩:=SZ ht hf hA hk
 have h:=hF.at_ k hk
 rw [e2] at h
 rw [rkE,Kw,wyE,Af.2 m1,Af.2 m2,e1,e2,h]
 rfl
theorem Ajh {n:Nat} (h:(n:Int)∈s.has):∃ i,i < s.has.length/\YP s i=n:=by
 obtain ⟨i,hi,e⟩:=List.getElem_of_mem h
 refine ⟨i,hi,?_⟩
 rw [YP,getD_eq_getElem?_getD,getElem?_eq_getElem hi,getD_some,e,toNat_natCast]
theorem AgC {i k:Nat} (hi:i < s.has.length) (hk:k < s.has.length) (h:rkE t s i k=true):L5 t s i < L5 t s k:=by
 rw [AcG ht hf hA hi hk] at h
 exact Qj hA (SZ ht hf hA hi).2.2 (SZ ht hf hA hk).2.2 h
theorem AcH {k:Nat} (hk:k < s.has.length) (h:L5 t s k≠0):∃ i,i < s.has.length/\rkE t s i k=true/\L5 t s i+1=L5 t s k:=by
 obtain ⟨a,ha,h1,h2⟩:=U5 hA (SZ ht hf hA hk).2.2 h
 have hm:(a:Int)∈s.has:=by
  rw [Kw,and_eq_true,and_eq_true,Af] at h1
  exact h1.1.1
 obtain ⟨i,hi,e⟩:=Ajh ht hf hA hm
 refine ⟨i,hi,by rw [AcG ht hf hA hi hk,e];exact h1,?_⟩
 rw [L5,e]
 exact h2
open Classical in
theorem AfF {k:Nat} (hk:k < s.has.length):L5 t s k < s.has.length:=by
 obtain ⟨e2,m2,hl⟩:=SZ ht hf hA hk
 have h1:L5 t s k<=TV t.nodes.length (Kw t s) (YP s k):=U4 hA _ _ hl (Nat.le_refl _)
 have sub:∀ {a b:Nat},EO (Kw t s) t.nodes.length a b->(a:Int)∈s.has:=fun {a b} h=>by
  induction h with
  | one _ h =>
   rw [Kw,and_eq_true,and_eq_true,Af] at h
   exact h.1.1
  | more _ _ _ ih=>exact ih
 have hn:(((YP s k::(List.range t.nodes.length).filter fun a=>decide (EO (Kw t s) t.nodes.length a (YP s k))).map fun (i:Nat)=>(i:Int))).Nodup:=by
  rw [List.nodup_iff_pairwise_ne,List.pairwise_map]
  have:(YP s k::(List.range t.nodes.length).filter fun a=>decide (EO (Kw t s) t.nodes.length a (YP s k))).Pairwise (·≠·):=by
   rw [List.pairwise_cons]
   refine ⟨fun x hx e=>?_,List.Pairwise.filter _ List.nodup_range⟩
   have h2:=of_decide_eq_true (List.mem_filter.1 hx).2
   rw [<- e] at h2
   exact hA _ h2
  exact this.imp fun h e=>h (by omega)
 have h2:=Lm _ s.has hn fun x hx=>by
  obtain ⟨a,ha,rfl⟩:=List.mem_map.1 hx
  rcases List.mem_cons.1 ha with e | e
  .rw [e];exact m2
  .exact sub (of_decide_eq_true (List.mem_filter.1 e).2)
 rw [length_map,length_cons] at h2
 have h3:TV t.nodes.length (Kw t s) (YP s k) < s.has.length:=h2
 omega
end
structure RkI (t:A2) (s:A6) (r i k:Nat) (d:List Int):Prop where
 len:d.length=s.has.length
 nn:∀ j,j < s.has.length->0<=d.getD j 0
 le:∀ j,j < s.has.length->d.getD j 0<=L5 t s j
 ok:∀ j,j < s.has.length->L5 t s j<=r->d.getD j 0=L5 t s j
 vis:∀ a b,a < s.has.length->b < s.has.length->(a < i\/(a=i/\b < k))->rkE t s a b=true->L5 t s a<=r->(L5 t s a:Int)+1<=d.getD b 0
section
variable {t:A2} (ht:A9 t) {s:A6} (hf:Bg t s) (hA:Acy t s)
include ht hf hA
theorem Arp {d:List Int} (hl:d.length=s.has.length) (h0:∀ j,j < s.has.length->d.getD j 0=0):RkI t s 0 0 0 d :=
 ⟨hl,fun j hj=>by rw [h0 j hj];omega,fun j hj=>by rw [h0 j hj];omega,fun j hj h=>by rw [h0 j hj];omega,fun a b _ _ h=>by omega⟩
theorem AfC {r i k:Nat} {d:List Int} (hi:i < s.has.length) (hk:k < s.has.length) (I:RkI t s r i k d) (h:rkE t s i k=true->d.getD i 0+1<=d.getD k 0):RkI t s r i (k+1) d:=by
 refine ⟨I.len,I.nn,I.le,I.ok,fun a b ha hb hv he hr=>?_⟩
 by_cases c:a=i/\b=k
 .obtain ⟨rfl,rfl⟩:=c
  have:=h he
  rw [I.ok a ha hr] at this
  exact this
 .exact I.vis a b ha hb (by omega) he hr
theorem Ajq {r i k:Nat} {d:List Int} (hi:i < s.has.length) (hk:k < s.has.length) (I:RkI t s r i k d) (he:rkE t s i k=true) (hlt:d.getD k 0 < d.getD i 0+1):RkI t s r i (k+1) (d.set k (d.getD i 0+1)):=by
 have hl:=I.len
 have g:∀ j,j < s.has.length->(d.set k (d.getD i 0+1)).getD j 0=if k=j then d.getD i 0+1 else d.getD j 0:=fun j hj=>by
  rw [getD_eq_getElem?_getD (l:=d.set _ _),List.getElem?_set]
  by_cases c:k=j
  .rw [if_pos c,if_pos (by omega),if_pos c];rfl
  .rw [if_neg c,if_neg c,<- getD_eq_getElem?_getD]
 have h0:=AgC ht hf hA hi hk he
 have h2:=I.le i hi
 have h1:=I.le k hk
 refine ⟨by rw [List.length_set];exact hl,fun j hj=>?_,fun j hj=>?_,fun j hj hr=>?_,fun a b ha hb hv he2 hr=>?_⟩
 .rw [g j hj]
  have:=I.nn j hj
  have:=I.nn i hi
  split<;>omega
 .rw [g j hj]
  split
  .rename_i c;subst c;omega
  .exact I.le j hj
 .rw [g j hj]
  split
  .rename_i c
   subst c
   have:=I.ok k hj hr
   omega
  .exact I.ok j hj hr
 .rw [g b hb]
  by_cases c:k=b
  .subst c
   rw [if_pos rfl]
   by_cases c2:a=i
   .subst c2
    rw [I.ok a ha hr]
    exact Int.le_refl _
   .have:=I.vis a k ha hb (by omega) he2 hr
    omega
  .rw [if_neg c]
   exact I.vis a b ha hb (by omega) he2 hr
theorem Ajp {r i:Nat} {d:List Int} (I:RkI t s r i s.has.length d):RkI t s r (i+1) 0 d :=
 ⟨I.len,I.nn,I.le,I.ok,fun a b ha hb hv he hr=>I.vis a b ha hb (by omega) he hr⟩
theorem AfB {r:Nat} {d:List Int} (I:RkI t s r s.has.length 0 d):RkI t s (r+1) 0 0 d:=by
 refine ⟨I.len,I.nn,I.le,fun j hj h=>?_,fun a b _ _ h=>by omega⟩
 rcases Nat.lt_or_ge r (L5 t s j) with c | c
 .have e:L5 t s j=r+1:=by omega
  obtain ⟨i,hi,h1,h2⟩:=AcH ht hf hA hj (by omega)
  have:=I.vis i j hi hj (by omega) h1 (by omega)
  have:=I.le j hj
  omega
 .exact I.ok j hj c
theorem AfA {d:List Int} (I:RkI t s s.has.length 0 0 d):d=(List.range s.has.length).map fun i=>(L5 t s i:Int):=by
 apply ext_getElem
 .rw [I.len,length_map,List.length_range]
 .intro i h1 h2
  have hi:i < s.has.length:=by rw [<- I.len];exact h1
  have h3:=I.ok i hi (Nat.le_of_lt (AfF ht hf hA hi))
  rw [getD_eq_getElem?_getD,getElem?_eq_getElem h1,getD_some] at h3
  rw [h3]
  simp
end
structure ChA (t:A2) (s:A6) (c:List Int) (k:Nat) (n:Nat):Prop where
 at_:c.getD k 0=(n:Int)
 has:(n:Int)∈s.has
 odd:k % 2=1->(t.at n).kind=3/\∃ p:Nat,c.getD (k - 1) 0=p/\(t.at n).val=(t.at p).val/\Li s p=n/\(p:Int)∈s.has/\Hb t s n < Hb t s p
 evn:k % 2=0->(t.at n).kind=2/\(0 < k->∃ p:Nat,c.getD (k - 1) 0=p/\Ah t n p=true/\(p:Int)∈s.has/\Hb t s n < Hb t s p)
 end_:k+1=c.length->∀ u:Nat,Az t u n=true->(t.at u).kind≠2
section
variable {t:A2} (ht:A9 t) {s:A6} (hf:Bg t s) (hA:Acy t s)
include ht hf hA
theorem TR:∀ N (r:Nat),Hb t s r < N->(r:Int)∈s.has->(t.at r).kind=2->(NV t s r).length % 2=0/\2<=(NV t s r).length/\(NV t s r).length<=2 * Hb t s r+2/\(NV t s r).getD 0 0=r/\∀ k,k < (NV t s r).length->∃ n,ChA t s (NV t s r) k n
 | 0,_,h,_,_=>by omega
 | N+1,r,hN,hr,hk=>by
  obtain ⟨w,e1,e2,e3,e4,e5,e6⟩:=Ml ht hf hA hr hk
  rw [Qf ht hf hA hr hk,e1,toNat_natCast]
  have zero:∀ c:List Int,∃ n,ChA t s ((r:Int)::(w:Int)::c) 0 n:=fun c=>⟨r,rfl,hr,by omega,fun _=>⟨hk,by omega⟩,fun h=>by simp at h⟩
  rcases e6 with ⟨c,hno⟩ | ⟨q,g1,g2,g3,g4,g5⟩
  .rw [TQ ht hf hA c]
   refine ⟨by simp,by simp,by simp,rfl,fun k hk2=>?_⟩
   rcases k with _ | _ | k
   .exact zero []
   .exact ⟨w,rfl,e2,fun _=>⟨e3,r,rfl,e4,e1,hr,e5⟩,by omega,fun _=>hno⟩
   .simp only [length_cons,List.length_nil] at hk2
    omega
  .rw [g1]
   obtain ⟨i1,i2,i3,i4,i5⟩:=TR N q (by omega) g2 g3
   obtain ⟨C,hC⟩:∃ C,C=NV t s q:=⟨_,rfl⟩
   rw [<- hC] at i1 i2 i3 i4 i5 ⊢
   refine ⟨by simp only [length_cons];omega,by simp only [length_cons];omega,by simp only [length_cons];omega,rfl,fun k hk2=>?_⟩
   rcases k with _ | _ | k
   .exact zero C
   .exact ⟨w,rfl,e2,fun _=>⟨e3,r,rfl,e4,e1,hr,e5⟩,by omega,fun h=>by simp only [length_cons] at h;omega⟩
   .obtain ⟨n,I⟩:=i5 k (by simp only [length_cons] at hk2;omega)
    refine ⟨n,I.at_,I.has,fun h=>?_,fun h=>?_,fun h=>I.end_ (by simp only [length_cons] at h;omega)⟩
    .obtain ⟨a,p,b1,b2⟩:=I.odd (by omega)
     refine ⟨a,p,?_,b2⟩
     obtain ⟨j,rfl⟩:∃ j,k=j+1:=⟨k - 1,by omega⟩
     exact b1
    .obtain ⟨a,b⟩:=I.evn (by omega)
     refine ⟨a,fun _=>?_⟩
     rcases k with _ | k
     .have hn:(n:Int)=q:=by rw [<- I.at_,i4]
      have hn:n=q:=by omega
      subst hn
      exact ⟨w,rfl,g4,e2,g5⟩
     .obtain ⟨p,b1,b2⟩:=b (by omega)
      exact ⟨p,b1,b2⟩
end
def Nn (t:A2) (s:A6) (i:Nat):Nat->Nat
 | 0=>0
 | k+1=>if rkE t s k i then max (Nn t s i k) (L5 t s k+1) else Nn t s i k
section
variable {t:A2} (ht:A9 t) {s:A6} (hf:Bg t s) (hA:Acy t s)
include ht hf hA
theorem Abx {i:Nat} (hi:i < s.has.length):∀ k,k<=s.has.length->Nn t s i k<=L5 t s i/\∀ j,j < k->rkE t s j i=true->L5 t s j+1<=Nn t s i k
 | 0,_=>⟨Nat.zero_le _,fun j h=>by omega⟩
 | k+1,hk=>by
  obtain ⟨h1,h2⟩:=Abx hi k (by omega)
  rw [Nn]
  cases he:rkE t s k i with
  | true =>
   rw [if_pos rfl]
   have h3:=AgC ht hf hA (show k < s.has.length by omega) hi he
   refine ⟨Nat.max_le.2 ⟨h1,h3⟩,fun j hj hje=>?_⟩
   by_cases c:j=k
   .subst c;exact Nat.le_max_right _ _
   .exact Nat.le_trans (h2 j (by omega) hje) (Nat.le_max_left _ _)
  | false =>
   rw [if_neg (by decide)]
   refine ⟨h1,fun j hj hje=>?_⟩
   by_cases c:j=k
   .subst c;rw [he] at hje;cases hje
   .exact h2 j (by omega) hje
theorem Afl {i:Nat} (hi:i < s.has.length):Nn t s i s.has.length=L5 t s i:=by
 obtain ⟨h1,h2⟩:=Abx ht hf hA hi _ (Nat.le_refl _)
 by_cases c:L5 t s i=0
 .omega
 .obtain ⟨j,hj,h3,h4⟩:=AcH ht hf hA hi c
  have:=h2 j hj h3
  omega
end
def rkL (t:A2) (s:A6):List Int:=s.has.map fun n=>(Hb t s n.toNat:Int)
theorem YA {t:A2} {s:A6} {i:Nat} (hi:i < s.has.length):(rkL t s).getD i 0=(L5 t s i:Int):=by
 rw [rkL,getD_eq_getElem?_getD,List.getElem?_map,getElem?_eq_getElem hi,L5,YP,getD_eq_getElem?_getD,getElem?_eq_getElem hi]
 rfl
theorem Ajw {t:A2} {s:A6}:rkL t s=(List.range s.has.length).map fun i=>(L5 t s i:Int):=by
 apply ext_getElem
 .simp [rkL]
 .intro i h1 h2
  have hi:i < s.has.length:=by simpa [rkL] using h1
  have:=YA (t:=t) hi
  rw [getD_eq_getElem?_getD,getElem?_eq_getElem h1,getD_some] at this
  rw [this]
  simp
theorem ZX {t:A2} (ht:A9 t) {s:A6} (hf:Bg t s) (r:Int):0<=Li s r↔r∈s.has/\(t.at r.toNat).kind=2:=by
 have hF:=Ba (B3 (AY.2 hf))
 constructor
 .intro h
  have hr:r∈s.has:=by
   by_cases hr:r∈s.has
   .exact hr
   .exfalso
    rw [K0 hF.len,Ed] at h
    have:B9 s.has r=false:=by
     rw [Bool.eq_false_iff]
     exact fun h=>hr (Af.1 h)
    rw [this] at h
    simp at h
  refine ⟨hr,?_⟩
  by_cases hk:(t.at r.toNat).kind=2
  .exact hk
  .have:=hF.none r hr hk
   rw [K0 hF.len,this] at h
   omega
 .rintro ⟨h1,h2⟩
  obtain ⟨n,rfl,_⟩:=A7 (hf.node _ h1)
  obtain ⟨w,e,_⟩:=Qy ht hf h1 (by rwa [toNat_natCast] at h2)
  omega
def chA (t:A2) (s:A6) (r:Int):List Int:=if H7 t s=0/\0<=Li s r then NV t s r else []
def A8d (t:A2) (s:A6) (r:Int):Int:=match (chA t s r).getLast? with
 | some x=>x
 | none=>-1
section
variable {n:Nat} {p:Nat->Nat->Bool} (hn:n<=64) (H:∀ i,¬ EO p n i i)
include hn H
theorem A6J {left:BitVec 64} (hl:∀ j,left.getLsbD j=true->j < n):∀ N j,Lf n p j < N->left.getLsbD j=true->∃ i,left.getLsbD i=true/\∀ a,a < n->p a i=true->left.getLsbD a=false
 | 0,j,h,_=>by omega
 | N+1,j,h,hj=>by
  by_cases c:∃ a,a < n/\p a j=true/\left.getLsbD a=true
  .obtain ⟨a,h1,h2,h3⟩:=c
   have:=Qj H h1 (hl j hj) h2
   exact A6J hl N a (by omega) h3
  .refine ⟨j,hj,fun a h1 h2=>?_⟩
   cases h3:left.getLsbD a with
   | false=>rfl
   | true=>exact absurd ⟨a,h1,h2,h3⟩ c
end
structure OrI (n:Nat) (p:Nat->Nat->Bool) (A:List Nat) (left:BitVec 64):Prop where
 lt:∀ j,left.getLsbD j=true->j < n
 nd:A.Nodup
 al:∀ x∈A,x < n
 out:∀ x,x < n->(x∈A↔left.getLsbD x=false)
 ahead:∀ k (hk:k < A.length),∀ a,a < n->p a A[k]=true->a∈A.take k
theorem Arj {n:Nat} (hn:n<=64) {p:Nat->Nat->Bool} {left:BitVec 64} (h:∀ j,left.getLsbD j=decide (j < n)):OrI n p [] left :=
 ⟨fun j hj=>by rw [h] at hj;exact of_decide_eq_true hj,List.nodup_nil,(fun x hx=>by cases hx),(fun x hx=>by rw [h,decide_eq_true hx];simp),(fun k hk=>by simp at hk)⟩
theorem A6I {n:Nat} {p:Nat->Nat->Bool} {A:List Nat} {left l2:BitVec 64} (I:OrI n p A left) {i:Nat} (hi:left.getLsbD i=true) (hp:∀ a,a < n->p a i=true->left.getLsbD a=false) (h2:∀ j,l2.getLsbD j=(left.getLsbD j && !decide (j=i))):OrI n p (A++[i]) l2:=by
 have h0:=I.lt i hi
 have h1:i∉A:=fun h=>by rw [(I.out i h0).1 h] at hi;cases hi
 refine ⟨fun j hj=>?_,?_,fun x hx=>?_,fun x hx=>?_,fun k hk a ha hpa=>?_⟩
 .rw [h2,and_eq_true] at hj
  exact I.lt j hj.1
 .rw [List.nodup_append]
  refine ⟨I.nd,by simp,fun x hx y hy e=>?_⟩
  rw [mem_singleton] at hy
  subst hy
  subst e
  exact h1 hx
 .rcases List.mem_append.1 hx with h | h
  .exact I.al x h
  .rw [mem_singleton] at h;subst h;exact h0
 .rw [h2,List.mem_append,mem_singleton,I.out x hx]
  by_cases c:x=i
  .subst c;simp
  .simp [c]
 .rw [List.length_append,List.length_singleton] at hk
  by_cases c:k < A.length
  .rw [List.getElem_append_left c] at hpa
   have:=I.ahead k c a ha hpa
   rw [List.take_append_of_le_length (by omega)]
   exact this
  .have e:k=A.length:=by omega
   subst e
   rw [List.getElem_append_right (Nat.le_refl _)] at hpa
   simp only [Nat.sub_self,List.getElem_singleton] at hpa
   rw [List.take_append_of_le_length (Nat.le_refl _),List.take_length]
   exact (I.out a ha).2 (hp a ha hpa)
structure DpI (n:Nat) (p:Nat->Nat->Bool) (A:List Nat) (d:List Int):Prop where
 len:d.length=n
 nn:∀ b,b < n->0<=d.getD b 0
 le:∀ b,b < n->d.getD b 0<=Lf n p b
 vis:∀ a∈A,∀ b,b < n->p a b=true->(Lf n p a:Int)+1<=d.getD b 0
section
variable {n:Nat} {p:Nat->Nat->Bool} (hn:n<=64) (H:∀ i,¬ EO p n i i)
include hn H
theorem Ag8 {A:List Nat} {d:List Int} (I:DpI n p A d) {i:Nat} (hi:i < n) (h:∀ a,a < n->p a i=true->a∈A):d.getD i 0=Lf n p i:=by
 have h1:=I.le i hi
 have h2:=I.nn i hi
 by_cases c:Lf n p i=0
 .omega
 .obtain ⟨a,ha,h3,h4⟩:=U5 H hi c
  have:=I.vis a (h a ha h3) i hi h3
  omega
theorem AdT {A:List Nat} {d:List Int} (I:DpI n p A d) (hA:∀ x,x < n->x∈A):d=(List.range n).map fun b=>(Lf n p b:Int):=by
 apply ext_getElem
 .rw [I.len,length_map,List.length_range]
 .intro b h1 h2
  have hb:b < n:=by rw [<- I.len];exact h1
  have h3:=Ag8 hn H I hb fun a ha _=>hA a ha
  rw [getD_eq_getElem?_getD,getElem?_eq_getElem h1,getD_some] at h3
  rw [h3]
  simp
end
structure DqI (n:Nat) (p:Nat->Nat->Bool) (A:List Nat) (i:Nat) (K:List Nat) (d:List Int):Prop where
 base:DpI n p A d
 nx:∀ b∈K,(Lf n p i:Int)+1<=d.getD b 0
theorem Aqz {n:Nat} {p:Nat->Nat->Bool} {A:List Nat} {i:Nat} {d:List Int} (I:DpI n p A d):DqI n p A i [] d:=⟨I,fun b hb=>by cases hb⟩
theorem AdV {n:Nat} (hn:n<=64) {p:Nat->Nat->Bool} (H:∀ i,¬ EO p n i i) {A:List Nat} {i:Nat} {K:List Nat} {d:List Int} (I:DqI n p A i K d) (hi:i < n) {b:Nat} (hb:b < n) (hp:p i b=true):DqI n p A i (K++[b]) (d.set b (max (d.getD b 0) ((Lf n p i:Int)+1))):=by
 have hl:=I.base.len
 have h1:=Qj H hi hb hp
 have g:∀ j,j < n->(d.set b (max (d.getD b 0) ((Lf n p i:Int)+1))).getD j 0=if b=j then max (d.getD b 0) ((Lf n p i:Int)+1) else d.getD j 0:=fun j hj=>by
  rw [getD_eq_getElem?_getD (l:=d.set _ _),List.getElem?_set]
  by_cases c:b=j
  .rw [if_pos c,if_pos (by omega),if_pos c];rfl
  .rw [if_neg c,if_neg c,<- getD_eq_getElem?_getD]
 refine ⟨⟨by rw [List.length_set];exact hl,fun j hj=>?_,fun j hj=>?_,fun a ha j hj hpj=>?_⟩,fun j hj=>?_⟩
 .rw [g j hj]
  have:=I.base.nn j hj
  have:=I.base.nn b hb
  split<;>omega
 .rw [g j hj]
  have:=I.base.le j hj
  have:=I.base.le b hb
  split
  .rename_i c;subst c;omega
  .assumption
 .rw [g j hj]
  have:=I.base.vis a ha j hj hpj
  split
  .rename_i c;subst c;omega
  .exact this
 .have h0:j < n\/j=b:=by
   rcases List.mem_append.1 hj with h | h
   .rcases Nat.lt_or_ge j n with c | c
    .exact .inl c
    .have:=I.nx j h
     rw [getD_eq_getElem?_getD,List.getElem?_eq_none (by omega)] at this
     have:(Lf n p i:Int)+1<=0:=this
     omega
   .rw [mem_singleton] at h;exact .inr h
  have h0:j < n:=by rcases h0 with h | h<;>omega
  rw [g j h0]
  split
  .omega
  .rename_i c
   rcases List.mem_append.1 hj with h | h
   .exact I.nx j h
   .rw [mem_singleton] at h;exact absurd h.symm c
theorem AdU {n:Nat} {p:Nat->Nat->Bool} {A:List Nat} {i:Nat} {K:List Nat} {d:List Int} (I:DqI n p A i K d) (hK:∀ b,b < n->p i b=true->b∈K):DpI n p (A++[i]) d :=
 ⟨I.base.len,I.base.nn,I.base.le,fun a ha b hb hp=>by
  rcases List.mem_append.1 ha with h | h
  .exact I.base.vis a h b hb hp
  .rw [mem_singleton] at h
   subst h
   exact I.nx b (hK b hb hp)⟩
def YR (t:A2) (s:A6) (k:Nat) (a b:Nat):Prop:=((a:Int)∈s.has/\(b:Int)∈s.has/\Ah t a b=true)\/∃ j,j < k/\s.has.getD j 0=(b:Int)/\s.jf.getD j 0=(a:Int)
theorem Afx {t:A2} {s:A6} (hf:Bg t s) (a b:Nat):YR t s s.has.length a b↔Kw t s a b=true:=by
 have hF:=Ba (B3 (AY.2 hf))
 rw [YR,Kw,wyE,and_eq_true,and_eq_true,Bool.or_eq_true,Af,Af,decide_eq_true_eq]
 constructor
 .rintro (⟨h1,h2,h3⟩ | ⟨j,hj,h1,h2⟩)
  .exact ⟨⟨h1,h2⟩,.inl h3⟩
  .have hb:(b:Int)∈s.has:=by rw [<- h1];exact Ac hj
   have h0:=hF.at_ j hj
   rw [h1,h2] at h0
   refine ⟨⟨?_,hb⟩,.inr h0⟩
   by_cases hk:(t.at (b:Int).toNat).kind=2
   .have:=(hF.read _ hb hk).1
    rw [h0] at this
    exact this
   .have:=hF.none _ hb hk
    omega
 .rintro ⟨⟨h1,h2⟩,h3 | h3⟩
  .exact .inl ⟨h1,h2,h3⟩
  .obtain ⟨j,hj,e⟩:=List.getElem_of_mem h2
   have e:s.has.getD j 0=b:=by rw [getD_eq_getElem?_getD,getElem?_eq_getElem hj];exact e
   have h0:=hF.at_ j hj
   rw [e,h3] at h0
   exact .inr ⟨j,hj,e,h0.symm⟩
theorem A0B {t:A2} {s:A6} {k:Nat} (a b:Nat):YR t s (k+1) a b↔YR t s k a b\/(s.has.getD k 0=(b:Int)/\s.jf.getD k 0=(a:Int)):=by
 rw [YR,YR]
 constructor
 .rintro (h | ⟨j,hj,h1,h2⟩)
  .exact .inl (.inl h)
  .by_cases c:j=k
   .subst c;exact .inr ⟨h1,h2⟩
   .exact .inl (.inr ⟨j,by omega,h1,h2⟩)
 .rintro ((h | ⟨j,hj,h1,h2⟩) | ⟨h1,h2⟩)
  .exact .inl h
  .exact .inr ⟨j,by omega,h1,h2⟩
  .exact .inr ⟨k,by omega,h1,h2⟩
end Go.AM
