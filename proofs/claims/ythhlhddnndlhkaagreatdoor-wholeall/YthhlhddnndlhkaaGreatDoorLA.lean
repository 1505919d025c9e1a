/-
  Own work, part of the proof of these laws: plain laws.
-/
import Derived.Test.YthhlhddnndlhkaaGreatDoorKE
set_option maxRecDepth 10000
set_option maxHeartbeats 64000000
set_option linter.unusedVariables false
set_option linter.unusedSimpArgs false
set_option linter.unusedSectionVars false
set_option linter.unnecessarySimpa false
open Bool (and_eq_true or_eq_true not_eq_true')
open Int (toNat_natCast)
namespace Go.AM
open Go Go.Proofs
structure Ext (t:A1) (s s':A6):Prop where
 has:∀ n,n∈s.has->n∈s'.has
 on:∀ n,n∈s.has->Ey s'.has s'.jf n=Ey s.has s.jf n
 place:∀ (loc v w:Int),v∈s.has->w∈s.has->(Be s loc v < Be s loc w↔Be s' loc v < Be s' loc w)
theorem Ext.trans {t:A1} {a b c:A6} (h:Ext t a b) (k:Ext t b c):Ext t a c :=
 ⟨fun n hn=>k.has n (h.has n hn),fun n hn=>(k.on n (h.has n hn)).trans (h.on n hn),fun loc v w hv hw=>(h.place loc v w hv hw).trans (k.place loc v w (h.has v hv) (h.has w hw))⟩
theorem HN.mono {p q:Nat->Nat->Bool} {N a b:Nat} (i:∀ a b,p a b=true->q a b=true) (h:HN p N a b):HN q N a b:=by
 induction h with
 | one hb h=>exact .one hb (i _ _ h)
 | more _ hc h ih=>exact .more ih hc (i _ _ h)
def okJ (t:A1) (has:List Int) (n w:Int):Bool :=
 if (t.at n.toNat).kind=2 then AU has w && HT t w (t.at n.toNat).loc && decide ((t.at w.toNat).val=(t.at n.toNat).val) else decide (w = -1)
structure AG (t:A1) (s:A6):Prop where
 node:∀ n∈s.has,BP t n=true
 up:∀ n∈s.has,(t.at n.toNat).up < 0\/(t.at n.toNat).up∈s.has
 ris:s.has.Pairwise (· < ·)
 init:Gc t ||| Cc s.has=Cc s.has
 jl:s.jf.length=s.has.length
 just:∀ i,i < s.has.length->okJ t s.has (s.has.getD i 0) (s.jf.getD i 0)=true
 ml:s.mo.length=t.locs.length
 mo:∀ loc,loc < s.mo.length->Eh t s loc=true
 once:∀ n∈s.has,(t.at n.toNat).kind=3->((s.mo.getD (t.at n.toNat).loc.toNat []).filter fun c=>AU c n).length=1
theorem AdQ {l:List Int}:(∀ i,i < l.length->Di l i=true)↔l.Pairwise (· < ·):=by
 constructor
 .intro h
  rw [List.pairwise_iff_getElem]
  have key:∀ d i,i+d+1 < l.length->l.getD i 0 < l.getD (i+d+1) 0:=by
   intro d
   induction d with
   | zero =>
    intro i hi
    have:=h (i+1) (by omega)
    simpa [Di] using this
   | succ d ih =>
    intro i hi
    have h1:=ih i (by omega)
    have:=h (i+d+1+1) (by omega)
    simp only [Di,Nat.add_one_sub_one,or_eq_true,decide_eq_true_eq] at this
    rcases this with h2 | h2
    .omega
    .exact Int.lt_trans h1 h2
  intro i j hi hj hij
  have:=key (j - i - 1) i (by omega)
  rw [show i+(j - i - 1)+1=j by omega] at this
  simpa [List.getD_eq_getElem?_getD,hi,hj] using this
 .intro h i hi
  rw [List.pairwise_iff_getElem] at h
  simp only [Di,or_eq_true,decide_eq_true_eq]
  rcases Nat.eq_zero_or_pos i with c | c
  .exact .inl c
  .refine .inr ?_
   have:=h (i - 1) i (by omega) hi (by omega)
   simpa [List.getD_eq_getElem?_getD,hi,show i - 1 < l.length by omega] using this
theorem AE {t:A1} {s:A6}:Bd t s=true↔AG t s:=by
 have e:∀ i,Jl t s i=okJ t s.has (s.has.getD i 0) (s.jf.getD i 0):=fun _=>rfl
 have mem:∀ {p:Int->Prop},(∀ i,i < s.has.length->p (s.has.getD i 0))↔∀ n∈s.has,p n:=by
  intro p
  constructor
  .intro h n hn
   obtain ⟨i,hi,rfl⟩:=List.getElem_of_mem hn
   have:=h i hi
   rwa [List.getD_eq_getElem?_getD,List.getElem?_eq_getElem hi] at this
  .intro h i hi
   exact h _ (Ai hi)
 constructor
 .intro h
  simp only [Bd,Cz,Cs,Mv,e,and_eq_true,or_eq_true,not_eq_true',decide_eq_true_eq,decide_eq_false_iff_not,Ah,A9] at h
  obtain ⟨⟨⟨⟨⟨⟨h1,h2⟩,h3⟩,h4⟩,h5⟩,h6⟩,h7⟩:=h
  exact ⟨mem.1 fun i hi=>(h1 i hi).1.1,mem.1 fun i hi=>(h1 i hi).2,AdQ.1 fun i hi=>(h1 i hi).1.2,h2,h3,h5,h4,h6,mem.1 fun i hi k=>by
   rcases h7 i hi with h | h
   .exact absurd k h
   .exact h⟩
 .intro h
  simp only [Bd,Cz,Cs,Mv,e,and_eq_true,or_eq_true,not_eq_true',decide_eq_true_eq,decide_eq_false_iff_not,Ah,A9]
  refine ⟨⟨⟨⟨⟨⟨fun i hi=>⟨⟨mem.2 h.node i hi,AdQ.2 h.ris i hi⟩,mem.2 h.up i hi⟩,h.init⟩,h.jl⟩,h.ml⟩,h.just⟩,h.mo⟩,fun i hi=>?_⟩
  by_cases k:(t.at (s.has.getD i 0).toNat).kind=3
  .exact .inr (h.once _ (Ai hi) k)
  .exact .inl k
section
variable {t:A1} (ht:A5 t) {s s':A6} {n:Nat} (E:Ext t s s') (hF:DO t s.has s.jf) (hF':DO t s'.has s'.jf) (up:∀ n,n∈s.has->(t.at n.toNat).up < 0\/(t.at n.toNat).up∈s.has)
 (new:∀ x,x∈s'.has->x=(n:Int)\/x∈s.has) (hno:(n:Int)∉s.has) (fr:∀ b:Nat,(b:Int)∈s.has->Ap t n b=false) (onN:(t.at n).kind=2->Ey s'.has s'.jf n∈s.has)
include ht E hF hF' up new hno fr onN
end
def Ep (s:A6) (loc:Nat):Int:=((s.mo.getD loc []).getD ((s.mo.getD loc []).length - 1) []).getD 0 0
structure WI (t:A1) (s:A6) (mem:List Int) (k:Nat):Prop where
 gr:Gr t s k
 kl:k<=s.has.length
 form:AG t s
 coh:DM t s=true
 one:∀ loc,loc < s.mo.length->∀ c∈s.mo.getD loc [],∃ w:Nat,c=[(w:Int)]/\(w:Int)∈s.has/\(t.at w).kind=3/\(t.at w).loc=loc
 ml:mem.length=t.locs.length
 mem:∀ loc,loc < t.locs.length->mem.getD loc 0=(t.at (Ep s loc).toNat).val
theorem AG.len {t:A1} {s:A6} (h:AG t s):s.has.length<=t.nodes.length:=by
 have hd:s.has.Nodup:=h.ris.imp fun h=>by omega
 have:=KA s.has ((List.range t.nodes.length).map fun (i:Nat)=>(i:Int)) hd (fun x hx=>by
  obtain ⟨m,rfl,hm⟩:=A8 (h.node x hx)
  exact List.mem_map.2 ⟨m,List.mem_range.2 hm,rfl⟩)
 simpa using this
theorem WI.pos {t:A1} {s:A6} {mem:List Int} {k:Nat} (W:WI t s mem k) {loc:Nat} (hl:loc < s.mo.length):0 < (s.mo.getD loc []).length:=by
 have:=(W.gr.big.mi _ (Ai (d:=[]) hl)).1
 exact List.length_pos_iff.2 this
theorem WI.last {t:A1} {s:A6} {mem:List Int} {k:Nat} (W:WI t s mem k) {loc:Nat} (hl:loc < s.mo.length) :
  ∃ w:Nat,Ep s loc=w/\(w:Int)∈s.has/\(t.at w).kind=3/\(t.at w).loc=loc/\Be s loc w=((s.mo.getD loc []).length - 1:Nat):=by
 have hp:=W.pos hl
 have hlt:(s.mo.getD loc []).length - 1 < (s.mo.getD loc []).length:=by omega
 obtain ⟨w,e,h1,h2,h3⟩:=W.one loc hl _ (Ai (d:=[]) hlt)
 refine ⟨w,by rw [Ep,e];rfl,h1,h2,h3,?_⟩
 rw [Be,if_neg (by omega),toNat_natCast]
 have ho:=W.form.once _ h1 (by rw [toNat_natCast];exact h2)
 rw [toNat_natCast,h3,toNat_natCast] at ho
 have e2:(s.mo.getD loc [])[(s.mo.getD loc []).length - 1]=[(w:Int)]:=by
  rw [<- e,List.getD_eq_getElem?_getD (l:=s.mo.getD loc []),List.getElem?_eq_getElem hlt];rfl
 refine DA hlt (by rw [e2];simp [AU]) (fun j hj=>?_)
 rw [Bool.eq_false_iff]
 intro hc
 obtain ⟨L,hL⟩:∃ L,L=s.mo.getD loc []:=⟨_,rfl⟩
 rw [<- hL] at ho hj hlt hp
 simp only [<- hL] at e2 hc
 have hsp:L=L.take (j+1)++L.drop (j+1):=(List.take_append_drop _ _).symm
 rw [hsp,List.filter_append,List.length_append] at ho
 have p1:0 < ((L.take (j+1)).filter fun c=>AU c (w:Int)).length:=by
  refine List.length_pos_of_mem (a:=L[j]) (List.mem_filter.2 ⟨?_,hc⟩)
  rw [List.mem_take_iff_getElem]
  exact ⟨j,by omega,rfl⟩
 have p2:0 < ((L.drop (j+1)).filter fun c=>AU c (w:Int)).length:=by
  refine List.length_pos_of_mem (a:=L[L.length - 1]) (List.mem_filter.2 ⟨?_,by rw [e2];simp [AU]⟩)
  rw [List.mem_drop_iff_getElem]
  exact ⟨L.length - 1 - (j+1),by omega,by congr 1;omega⟩
 omega
theorem GL.moreN {t:A1}:∀ {n u e:Nat},GL t n u e->u < e/\∀ m,u < m->m < e->0<=(t.at m).up/\((t.at m).rmw=true->(t.at m).kind=3):=by
 intro n
 induction n with
 | zero=>intro u e h;exact absurd h (by simp [GL])
 | succ n ih =>
  intro u e h
  obtain ⟨⟨_,ht,_⟩,h⟩:=h
  rcases h with ⟨_,_,rfl⟩ | ⟨c,_,_,al,hb⟩ | ⟨c,_,_,vals,k,loc,mode,_,hv0,hk0,hke,hloc,hs,_⟩
  .exact ⟨by omega,fun m h1 h2=>by omega⟩
  .have:=(ih hb).1
   refine ⟨by omega,fun m h1 h2=>?_⟩
   by_cases e1:m=u+1
   .subst e1
    refine ⟨by rw [(DU c).1];omega,fun hr=>?_⟩
    simp only [Do,or_eq_true,and_eq_true,decide_eq_true_eq,not_eq_true'] at al
    rcases al with h | h
    .rw [h.1.1.2] at hr;cases hr
    .exact h.1.1.1
   .exact (ih hb).2 m (by omega) h2
  .have mono:∀ v,v<=vals->k 0<=k v:=by
    intro v
    induction v with
    | zero=>intro _;omega
    | succ v iv=>intro hv;have:=iv (by omega);have:=(ih (hs v (by omega)).2.2).1;omega
   refine ⟨by have:=mono vals (by omega);omega,fun m h1 h2=>?_⟩
   obtain ⟨v,hv,a,b⟩:=Cx (k:=k) (m:=m) vals (by omega) (by omega)
   obtain ⟨s1,s2,s3⟩:=hs v hv
   by_cases e1:m=k v
   .subst e1
    simp only [EJ,and_eq_true,decide_eq_true_eq,not_eq_true'] at s2
    exact ⟨by rw [(DU s1).1];omega,fun hr=>by rw [s2.2] at hr;cases hr⟩
   .exact (ih s3).2 m (by omega) b
theorem A5.kinds {t:A1} (h:A5 t):∃ s:Nat->Nat,(∀ v,v < t.regs.length->s v < t.nodes.length/\t.locs.length<=s v/\(t.at (s v)).thread=v/\(t.at (s v)).up = -1/\(t.at (s v)).kind=1)/\(∀ m,m < t.nodes.length->m < t.locs.length\/(∃ v,v < t.regs.length/\m=s v)\/(0<=(t.at m).up/\((t.at m).rmw=true->(t.at m).kind=3))):=by
 obtain ⟨s,h0,he,hs⟩:=h.thr
 have mono:∀ d v,v+d<=t.regs.length->s v+d<=s (v+d):=by
  intro d
  induction d with
  | zero=>intro v _;simp
  | succ d ih =>
   intro v hv
   have:=ih v (by omega)
   obtain ⟨_,n,hn⟩:=hs (v+d) (by omega)
   have:=hn.moreN.1
   rw [Nat.add_assoc] at this
   omega
 refine ⟨s,fun v hv=>?_,fun m hm=>?_⟩
 .obtain ⟨hb,n,hn⟩:=hs v hv
  simp only [Eu,and_eq_true,decide_eq_true_eq] at hb
  have a:=mono v 0 (by omega)
  have b:=mono (t.regs.length - v) v (by omega)
  rw [show v+(t.regs.length - v)=t.regs.length by omega] at b
  rw [Nat.zero_add] at a
  exact ⟨by omega,by omega,hb.1.1.1.1.1.1,hb.1.1.1.1.1.2,hb.1.1.1.1.2⟩
 .by_cases c:m < t.locs.length
  .exact .inl c
  .obtain ⟨v,hv,a,b⟩:=Cx (k:=s) (m:=m) t.regs.length (by omega) (by omega)
   obtain ⟨hb,n,hn⟩:=hs v hv
   by_cases e1:m=s v
   .exact .inr (.inl ⟨v,hv,e1⟩)
   .exact .inr (.inr (hn.moreN.2 m (by omega) b))
theorem A5.top {t:A1} (h:A5 t) {m:Nat} (hm:m < t.nodes.length) (h0:0<=(t.at m).thread) (hu:(t.at m).up < 0):(t.at m).kind=1:=by
 obtain ⟨s,h1,h2⟩:=h.kinds
 rcases h2 m hm with c | ⟨v,hv,rfl⟩ | c
 .have:=(h.init m c).thr;omega
 .exact (h1 v hv).2.2.2.2
 .omega
theorem A5.tops {t:A1} (h:A5 t) {m k:Nat} (hm:m < t.nodes.length) (hk:k < t.nodes.length) (h0:0<=(t.at m).thread) (hu:(t.at m).up < 0) (huk:(t.at k).up < 0) (e:(t.at k).thread=(t.at m).thread):k=m:=by
 obtain ⟨s,h1,h2⟩:=h.kinds
 rcases h2 m hm with c | ⟨v,hv,rfl⟩ | c
 .have:=(h.init m c).thr;omega
 .rcases h2 k hk with c | ⟨w,hw,rfl⟩ | c
  .have:=(h.init k c).thr;omega
  .have a:=(h1 v hv).2.2.1
   have b:=(h1 w hw).2.2.1
   have:w=v:=by omega
   rw [this]
  .omega
 .omega
def at0 (t:A1) (k:Nat):List Nat:=(List.range k).filter fun i=>!decide ((t.at i).thread < 0) && decide ((t.at i).up < 0)
theorem H7 {t:A1} {x:Int}:x∈(Bu t).has↔∃ m:Nat,x=m/\m < t.nodes.length/\(t.at m).up < 0:=by
 simp only [Bu,EX,List.mem_map,List.mem_filter,List.mem_range,decide_eq_true_eq]
 constructor
 .rintro ⟨i,⟨h1,h2⟩,rfl⟩;exact ⟨i,rfl,h1,h2⟩
 .rintro ⟨i,rfl,h1,h2⟩;exact ⟨i,⟨h1,h2⟩,rfl⟩
theorem Rs {t:A1} (h:A5 t) {m:Nat} (hm:m < t.nodes.length) (hu:(t.at m).up < 0):(m < t.locs.length/\(t.at m).kind=3)\/(t.locs.length<=m/\(t.at m).kind=1):=by
 by_cases c:m < t.locs.length
 .exact .inl ⟨c,(h.init m c).kind⟩
 .refine .inr ⟨by omega,h.top hm ?_ hu⟩
  have:=(h.thr_iff hm).1
  omega
theorem AdW {t:A1} {loc:Nat} (h:loc < t.locs.length):(Bu t).mo.getD loc []=[[(loc:Int)]]:=by
 simp [Bu,h]
theorem Ly {t:A1} (h:A5 t):AG t (Bu t):=by
 refine ⟨fun n hn=>?_,fun n hn=>?_,?_,?_,?_,fun i hi=>?_,by simp [Bu],fun loc hl=>?_,fun n hn kn=>?_⟩
 .obtain ⟨m,rfl,hm,_⟩:=H7.1 hn;exact BM hm
 .obtain ⟨m,rfl,hm,hu⟩:=H7.1 hn;exact .inl hu
 .simp only [Bu,EX,List.pairwise_map]
  exact (List.pairwise_lt_range.filter _).imp fun h=>by omega
 .apply BitVec.eq_of_getLsbD_eq
  intro i hi
  rw [BitVec.getLsbD_or,Gc,Au]
  cases hc:(Cc (Bu t).has).getLsbD i with
  | true=>simp
  | false =>
   rw [Bool.or_false,Bool.eq_false_iff]
   intro hx
   simp only [and_eq_true,decide_eq_true_eq] at hx
   have:=Lo (Bu t).has (x:=(i:Int)) (by omega) (by omega)
   rw [AC,hc,A9.2 (H7.2 ⟨i,rfl,hx.1.1,hx.1.2⟩)] at this;cases this
 .simp [Bu]
 .have hm:=Ai (d:=0) hi
  obtain ⟨m,e,hm,hu⟩:=H7.1 hm
  have hj:(Bu t).jf.getD i 0 = -1:=by
   have hi':i < (EX t t.nodes.length).length:=hi
   simp [Bu,hi']
  rw [e,hj]
  rcases Rs h hm hu with c | c<;>simp [okJ,c.2]
 .have hl':loc < t.locs.length:=by simpa [Bu] using hl
  simp only [Eh,AdW hl',and_eq_true,Ah]
  refine ⟨⟨rfl,by simp⟩,fun i hi=>?_⟩
  have:i=0:=by simp at hi;omega
  simp [this]
 .obtain ⟨m,rfl,hm,hu⟩:=H7.1 hn
  rw [toNat_natCast] at kn ⊢
  rcases Rs h hm hu with c | c
  .rw [(h.init m c.1).loc,toNat_natCast,AdW c.1];simp [AU]
  .omega
theorem Aii {t:A1} (h:A5 t):DM t (Bu t)=true:=by
 rw [DM,AE.2 (Ly h),Bool.true_and,List.all_eq_true]
 intro x hx
 obtain ⟨a,b,ha,rfl,hpt⟩:=(EU h.n64 _ _).1 hx
 have edge:∀ a b:Nat,Ks t (Bu t).has (Bu t).jf a b=true->(t.at b).kind=1:=by
  intro a b hh
  simp only [Ks,or_eq_true,and_eq_true,A9] at hh
  rcases hh with ⟨⟨hA,hB⟩,hbf⟩ | hh
  .obtain ⟨m,e,hm,hu⟩:=H7.1 hB
   have e:b=m:=by omega
   subst e
   rcases Rs h hm hu with c | c
   .exfalso
    have hth:=(h.init b c.1).thr
    simp only [Ap,and_eq_true,toNat_natCast] at hbf
    have hb2:=hbf.2
    split at hb2
    .have:=of_decide_eq_true hb2;omega
    .have hb':=EO h (a:=a) (b:=b) (by simp only [Ap,and_eq_true,toNat_natCast];exact hbf)
     rename_i hn
     have:=(h.thr_iff (m:=a) (by omega)).2 (by omega)
     exact hn this
   .exact c.2
  .exfalso
   simp only [swB,List.any_eq_true,and_eq_true] at hh
   obtain ⟨r,hr,⟨hs,_⟩,_⟩:=hh
   obtain ⟨m,rfl,hm,hu⟩:=H7.1 hr
   simp only [Jw,and_eq_true,decide_eq_true_eq,toNat_natCast] at hs
   rcases Rs h hm hu with c | c<;>omega
 have kb:(t.at b).kind=1:=by
  cases hpt with
  | one _ hh=>exact edge _ _ hh
  | more _ _ hh=>exact edge _ _ hh
 show Gm t (Bu t) a b=true
 simp [Gm,Dg,kb]
structure StI (t:A1) (s:A6) (at_:List Nat):Prop where
 has:∀ u∈at_,(u:Int)∈s.has/\0<=(t.at u).thread
 top:∀ u∈at_,∀ x:Nat,(x:Int)∈s.has->(t.at x).thread=(t.at u).thread->x<=u
 pw:at_.Pairwise fun a b=>(t.at a).thread≠(t.at b).thread
 chain:∀ u∈at_,∀ x:Nat,(x:Int)∈s.has->(t.at x).thread=(t.at u).thread->x=u\/Aw t x u=true
 cov:∀ x:Nat,(x:Int)∈s.has->0<=(t.at x).thread->∃ u∈at_,(t.at u).thread=(t.at x).thread
theorem Dd {t:A1} (hu:Kt t) {x n m:Nat} (hn:n < t.nodes.length) (e:(t.at n).up=(m:Int)):Aw t x n=(decide (m=x) || Aw t x m):=by
 unfold Aw
 have:=hu n hn
 rw [Dc hu x (by omega),e,if_neg (by omega),toNat_natCast]
 by_cases c:m=x
 .rw [if_pos (by omega),decide_eq_true c,Bool.true_or]
 .rw [if_neg (by omega),decide_eq_false c,Bool.false_or]
theorem Amy {t:A1} (h:A5 t):StI t (Bu t) (at0 t t.nodes.length):=by
 have key:∀ u∈at0 t t.nodes.length,u < t.nodes.length/\0<=(t.at u).thread/\(t.at u).up < 0:=by
  intro u hu
  simp only [at0,List.mem_filter,List.mem_range,and_eq_true,not_eq_true',decide_eq_true_eq,decide_eq_false_iff_not] at hu
  exact ⟨hu.1,by omega,hu.2.2⟩
 refine ⟨fun u hu=>?_,fun u hu x hx e=>?_,?_,fun u hu x hx e=>?_,fun x hx h0=>?_⟩
 .obtain ⟨a,b,c⟩:=key u hu
  exact ⟨H7.2 ⟨u,rfl,a,c⟩,b⟩
 .obtain ⟨a,b,c⟩:=key u hu
  obtain ⟨m,e1,hm,hv⟩:=H7.1 hx
  have e1:x=m:=by omega
  subst e1
  exact Nat.le_of_eq (h.tops a hm b c hv e)
 .have hp:(at0 t t.nodes.length).Pairwise (· < ·):=List.pairwise_lt_range.filter _
  refine (List.Pairwise.and_mem.1 hp).imp ?_
  rintro a b ⟨ha,hb,hlt⟩ e
  obtain ⟨a1,a2,a3⟩:=key a ha
  obtain ⟨b1,b2,b3⟩:=key b hb
  have:=h.tops b1 a1 b2 b3 a3 e
  omega
 .obtain ⟨a,b,c⟩:=key u hu
  obtain ⟨m,e1,hm,hv⟩:=H7.1 hx
  have e1:x=m:=by omega
  subst e1
  exact .inl (h.tops a hm b c hv e)
 .obtain ⟨m,e1,hm,hv⟩:=H7.1 hx
  have e1:x=m:=by omega
  subst e1
  refine ⟨x,?_,rfl⟩
  simp only [at0,List.mem_filter,List.mem_range,and_eq_true,not_eq_true',decide_eq_true_eq,decide_eq_false_iff_not]
  exact ⟨hm,by omega,hv⟩
end Go.AM
