/-
  Own work, part of the proof of these laws: plain laws.
-/
import Derived.Test.YthhlhddnndlhkaaGreatDoorKEe
set_option maxRecDepth 10000
set_option maxHeartbeats 64000000
set_option linter.unusedVariables false
set_option linter.unusedSimpArgs false
set_option linter.unusedSectionVars false
set_option linter.unnecessarySimpa false
open Bool (and_eq_true or_eq_true not_eq_true' eq_false_iff)
open Int (toNat_natCast)
open List (getD_eq_getElem?_getD)
namespace Go.AM
open Go Go.Proofs
theorem GU {α:Type} (p:α->Bool) (x:α) (l:List α):Dx p (x::l)=if p x=true then 0 else if Dx p l < 0 then -1 else Dx p l+1:=by
 unfold Dx
 rw [List.findIdx?_cons]
 cases p x with
 | true=>rfl
 | false =>
  cases l.findIdx? p with
  | none=>rfl
  | some i=>simp;omega
theorem Ad8 {α:Type} (p:α->Bool) (l:List α) : -1<=Dx p l:=by
 unfold Dx
 cases l.findIdx? p with
 | none=>simp
 | some i=>show (-1:Int)<=(i:Int);omega
theorem QU {α:Type} {p:α->Bool} {y:α} (hy:p y=false):∀ (l:List α) (k:Nat),k<=l.length->Dx p (l.take k++y::l.drop k)=if Dx p l < k then Dx p l else Dx p l+1
 | l,0,_=>by
  have:=Ad8 p l
  rw [List.take_zero,List.nil_append,List.drop_zero,GU,hy]
  simp only [Bool.false_eq_true,if_false]
  split<;>split<;>omega
 | [],k+1,h=>by simp at h
 | x::l,k+1,h=>by
  have ih:=QU hy l k (by simpa using h)
  have:=Ad8 p l
  rw [List.take_succ_cons,List.drop_succ_cons,List.cons_append,GU,GU,ih]
  split
  .rw [if_pos (by omega)]
  .split<;>split<;>split<;>omega
theorem A8Q {α:Type} {p:α->Bool} {y d:α}:∀ (l:List α) (k:Nat),p y=p (l.getD k d)->Dx p (l.set k y)=Dx p l
 | [],k,_=>rfl
 | x::l,0,h=>by
  rw [List.set_cons_zero,GU,GU,h];rfl
 | x::l,k+1,h=>by
  rw [List.set_cons_succ,GU,GU,A8Q l k (by simpa using h)]
theorem Jj {α:Type} {y d:α}:∀ (l:List α) (k i:Nat),k<=l.length->(l.take k++y::l.drop k).getD (if i < k then i else i+1) d=l.getD i d
 | l,0,i,_=>by simp
 | [],k+1,i,h=>by simp at h
 | x::l,k+1,0,h=>by simp
 | x::l,k+1,i+1,h=>by
  have ih:=Jj (y:=y) (d:=d) l k i (by simpa using h)
  rw [List.take_succ_cons,List.drop_succ_cons,List.cons_append]
  by_cases c:i < k
  .rw [if_pos (by omega)];rw [if_pos c] at ih;simpa using ih
  .rw [if_neg (by omega)];rw [if_neg c] at ih;simpa using ih
theorem BX {l:List Int} {k:Nat} {x y:Int}:x∈Bg l k y↔x=y\/x∈l:=by
 unfold Bg
 have e:x∈l↔x∈l.take k\/x∈l.drop k:=by rw [<- List.mem_append,List.take_append_drop]
 rw [e,List.mem_append,List.mem_cons]
 constructor
 .rintro (h | h | h)
  .exact .inr (.inl h)
  .exact .inl h
  .exact .inr (.inr h)
 .rintro (h | h | h)
  .exact .inr (.inl h)
  .exact .inl h
  .exact .inr (.inr h)
theorem Adm {l:List Int} {k:Nat} {x y:Int} (h:x≠y):AU (Bg l k y) x=AU l x:=by
 cases c:AU l x with
 | true=>exact A9.2 (BX.2 (.inr (A9.1 c)))
 | false =>
  rw [eq_false_iff] at c ⊢
  intro h2
  rcases BX.1 (A9.1 h2) with e | e
  .exact h e
  .exact c (A9.2 e)
theorem Apg {x f:List Int} {k:Nat} {n y w:Int} (hk:k<=x.length) (hf:k<=f.length) (h:n∈x) (hn:n≠y):Ey (Bg x k y) (Bg f k w) n=Ey x f n:=by
 unfold Ey
 rw [Adm hn,if_pos (A9.2 h),if_pos (A9.2 h)]
 obtain ⟨i,e,hi,h1,h2⟩:=Gx (A9.2 h)
 have e2:LD (Bg x k y) n=if LD x n < k then LD x n else LD x n+1:=QU (p:=fun z=>decide (n=z)) (decide_eq_false hn) x k hk
 rw [e2,e,toNat_natCast]
 have:=Jj (y:=w) (d:=0) f k i hf
 unfold Bg
 rw [<- this]
 congr 1
 by_cases c:i < k
 .rw [if_pos c,if_pos (by omega)];omega
 .rw [if_neg c,if_neg (by omega)];omega
structure Ext (t:A1) (s s':A6):Prop where
 has:∀ n,n∈s.has->n∈s'.has
 on:∀ n,n∈s.has->Ey s'.has s'.jf n=Ey s.has s.jf n
 place:∀ (loc v w:Int),v∈s.has->w∈s.has->(Be s loc v < Be s loc w↔Be s' loc v < Be s' loc w)
theorem Gi {t:A1} {s s':A6} {n kind w:Int} (e:D6 t s n kind w=some s'):Ext t s s'/\Bd t s=true/\n∉s.has:=by
 unfold D6 at e
 split at e
 .rename_i h0
  cases e
  have hk:=Dq s.has n
  simp only [Cy,and_eq_true,not_eq_true'] at h0
  have hf:=h0.1.1.1.1
  have h1:s.jf.length=s.has.length:=by simp only [Bd,and_eq_true,decide_eq_true_eq] at hf;exact hf.1.1.1.1.2
  have hn:n∉s.has:=fun h=>by rw [A9.2 h] at h0;exact absurd h0.1.2 (by simp)
  exact ⟨⟨fun x hx=>BX.2 (.inr hx),fun x hx=>Apg hk (by omega) hx (fun c=>hn (c ▸ hx)),fun _ _ _ _ _=>Iff.rfl⟩,hf,hn⟩
 .cases e
theorem Ext.trans {t:A1} {a b c:A6} (h:Ext t a b) (k:Ext t b c):Ext t a c :=
 ⟨fun n hn=>k.has n (h.has n hn),fun n hn=>(k.on n (h.has n hn)).trans (h.on n hn),fun loc v w hv hw=>(h.place loc v w hv hw).trans (k.place loc v w (h.has v hv) (h.has w hw))⟩
theorem A69 {s:A6} {r:Nat} {L:List (List Int)} {g:Int->Int} (hg:∀ a b,a < b↔g a < g b) {ok:Int->Prop} (h:∀ v,ok v->Dx (fun c=>AU c v) L=g (Dx (fun c=>AU c v) (s.mo.getD r []))) (loc v w:Int) (hv:ok v) (hw:ok w) :
  Be s loc v < Be s loc w↔Be { s with mo:=s.mo.set r L } loc v < Be { s with mo:=s.mo.set r L } loc w:=by
 unfold Be
 rw [List.length_set]
 by_cases c:loc < 0\/(s.mo.length:Int)<=loc
 .simp only [if_pos c]
 .simp only [if_neg c]
  by_cases c2:loc.toNat=r
  .have e:(s.mo.set r L).getD loc.toNat []=L:=by rw [getD_eq_getElem?_getD,List.getElem?_set,if_pos c2.symm,if_pos (by omega)];rfl
   rw [e,h v hv,h w hw,c2]
   exact hg _ _
  .have e:(s.mo.set r L).getD loc.toNat []=s.mo.getD loc.toNat []:=by rw [getD_eq_getElem?_getD,List.getElem?_set,if_neg (Ne.symm c2),<- getD_eq_getElem?_getD]
   rw [e]
theorem NL {t:A1} {s s':A6} {n w:Int} (e:EM t s n w=some s'):Ext t s s'/\Bd t s=true:=by
 unfold EM at e
 split at e
 .rename_i x hx
  obtain ⟨h1,h2,h3⟩:=Gi hx
  split at e
  .cases e
  .rename_i hw
   cases e
   refine ⟨⟨h1.has,h1.on,fun loc v u hv hu=>(h1.place loc v u hv hu).trans ?_⟩,h2⟩
   refine A69 (ok:=fun v=>v∈s.has) (g:=fun i=>if i < (w.toNat:Int) then i else i+1) (fun a b=>by split<;>split<;>omega) (fun v hv=>?_) loc v u hv hu
   exact QU (p:=fun c=>AU c v) (by
    rw [eq_false_iff]
    intro h
    exact h3 (by rw [List.mem_singleton.1 (A9.1 h)] at hv;exact hv)) _ _ (by omega)
 .cases e
theorem Aa5 {t:A1} {s s':A6} {n w:Int} (e:P9 t s n w=some s'):Ext t s s'/\Bd t s=true:=by
 unfold P9 at e
 split at e
 .rename_i x hx
  obtain ⟨h1,h2,h3⟩:=Gi hx
  simp only at e
  split at e
  .cases e
  .split at e
   .cases e
    refine ⟨⟨h1.has,h1.on,fun loc v u hv hu=>(h1.place loc v u hv hu).trans ?_⟩,h2⟩
    refine A69 (ok:=fun v=>v∈s.has) (g:=fun i=>i) (fun a b=>Iff.rfl) (fun v hv=>?_) loc v u hv hu
    exact A8Q (d:=[]) _ _ (Adm fun c=>h3 (c ▸ hv))
   .cases e
 .cases e
theorem Aat {t:A1} {s s':A6} {n w:Int} (e:JZ t s n w=some s'):Ext t s s'/\Bd t s=true:=by
 unfold JZ at e
 split at e
 .rename_i x hx
  obtain ⟨h1,h2,_⟩:=Gi hx
  split at e
  .cases e;exact ⟨h1,h2⟩
  .cases e
 .cases e
theorem HN.mono {p q:Nat->Nat->Bool} {N a b:Nat} (i:∀ a b,p a b=true->q a b=true) (h:HN p N a b):HN q N a b:=by
 induction h with
 | one hb h=>exact .one hb (i _ _ h)
 | more _ hc h ih=>exact .more ih hc (i _ _ h)
theorem Aly {l l':List Int} (h:∀ x,x∈l->x∈l'):Cc l ||| Cc l' = Cc l':=by
 apply B1
 intro j hj
 have e:∀ l:List Int,(Cc l).getLsbD j=AU l (j:Int):=fun l=>by rw [<- AC,Lo l (by omega) (by omega)]
 rw [BitVec.getLsbD_or,e,e]
 cases c:AU l (j:Int) with
 | false=>rw [Bool.false_or]
 | true=>rw [A9.2 (h _ (A9.1 c))];rfl
def okJ (t:A1) (has:List Int) (n w:Int):Bool :=
 if (t.at n.toNat).kind=2 then AU has w && HT t w (t.at n.toNat).loc && decide ((t.at w.toNat).val=(t.at n.toNat).val) else decide (w = -1)
structure AG (t:A1) (s:A6):Prop where
 node:∀ n∈s.has,BP t n=true
 up:∀ n∈s.has,(t.at n.toNat).up < 0\/(t.at n.toNat).up∈s.has
 ris:s.has.Pairwise (· < ·)
 init:Gc t ||| Cc s.has=Cc s.has
 jl:s.jf.length=s.has.length
 just:∀ i,i < s.has.length->okJ t s.has (s.has.getD i 0) (s.jf.getD i 0)=true
 ml:s.mo.length=t.locs.length
 mo:∀ loc,loc < s.mo.length->Eh t s loc=true
 once:∀ n∈s.has,(t.at n.toNat).kind=3->((s.mo.getD (t.at n.toNat).loc.toNat []).filter fun c=>AU c n).length=1
theorem AdQ {l:List Int}:(∀ i,i < l.length->Di l i=true)↔l.Pairwise (· < ·):=by
 constructor
 .intro h
  rw [List.pairwise_iff_getElem]
  have h0:∀ d i,i+d+1 < l.length->l.getD i 0 < l.getD (i+d+1) 0:=by
   intro d
   induction d with
   | zero =>
    intro i hi
    have:=h (i+1) (by omega)
    simpa [Di] using this
   | succ d ih =>
    intro i hi
    have h1:=ih i (by omega)
    have:=h (i+d+1+1) (by omega)
    simp only [Di,Nat.add_one_sub_one,or_eq_true,decide_eq_true_eq] at this
    rcases this with h2 | h2
    .omega
    .exact Int.lt_trans h1 h2
  intro i j hi hj h3
  have:=h0 (j - i - 1) i (by omega)
  rw [show i+(j - i - 1)+1=j by omega] at this
  simpa [getD_eq_getElem?_getD,hi,hj] using this
 .intro h i hi
  rw [List.pairwise_iff_getElem] at h
  simp only [Di,or_eq_true,decide_eq_true_eq]
  rcases Nat.eq_zero_or_pos i with c | c
  .exact .inl c
  .refine .inr ?_
   have:=h (i - 1) i (by omega) hi (by omega)
   simpa [getD_eq_getElem?_getD,hi,show i - 1 < l.length by omega] using this
theorem AE {t:A1} {s:A6}:Bd t s=true↔AG t s:=by
 have e:∀ i,Jl t s i=okJ t s.has (s.has.getD i 0) (s.jf.getD i 0):=fun _=>rfl
 have h0:∀ {p:Int->Prop},(∀ i,i < s.has.length->p (s.has.getD i 0))↔∀ n∈s.has,p n:=by
  intro p
  constructor
  .intro h n hn
   obtain ⟨i,hi,rfl⟩:=List.getElem_of_mem hn
   have:=h i hi
   rwa [getD_eq_getElem?_getD,List.getElem?_eq_getElem hi] at this
  .intro h i hi
   exact h _ (Ai hi)
 constructor
 .intro h
  simp only [Bd,Cz,Cs,Mv,e,and_eq_true,or_eq_true,not_eq_true',decide_eq_true_eq,decide_eq_false_iff_not,Ah,A9] at h
  obtain ⟨⟨⟨⟨⟨⟨h1,h2⟩,h3⟩,h4⟩,h5⟩,h6⟩,h7⟩:=h
  exact ⟨h0.1 fun i hi=>(h1 i hi).1.1,h0.1 fun i hi=>(h1 i hi).2,AdQ.1 fun i hi=>(h1 i hi).1.2,h2,h3,h5,h4,h6,h0.1 fun i hi k=>by
   rcases h7 i hi with h | h
   .exact absurd k h
   .exact h⟩
 .intro h
  simp only [Bd,Cz,Cs,Mv,e,and_eq_true,or_eq_true,not_eq_true',decide_eq_true_eq,decide_eq_false_iff_not,Ah,A9]
  refine ⟨⟨⟨⟨⟨⟨fun i hi=>⟨⟨h0.2 h.node i hi,AdQ.2 h.ris i hi⟩,h0.2 h.up i hi⟩,h.init⟩,h.jl⟩,h.ml⟩,h.just⟩,h.mo⟩,fun i hi=>?_⟩
  by_cases k:(t.at (s.has.getD i 0).toNat).kind=3
  .exact .inr (h.once _ (Ai hi) k)
  .exact .inl k
theorem Ak7 {l:List Int} {n:Int} (h:l.Pairwise (· < ·)) (hn:n∉l):(Bg l (Br l n) n).Pairwise (· < ·):=by
 induction l with
 | nil=>simp [Bg,Br]
 | cons x l ih =>
  rw [List.pairwise_cons] at h
  have hx:x≠n:=fun c=>hn (by simp [c])
  have hl:n∉l:=fun c=>hn (by simp [c])
  by_cases c:x < n
  .have e:Bg (x::l) (Br (x::l) n) n=x::Bg l (Br l n) n:=by
    simp [Bg,Br,c]
   rw [e,List.pairwise_cons]
   refine ⟨fun y hy=>?_,ih h.2 hl⟩
   rcases BX.1 hy with rfl | hy
   .exact c
   .exact h.1 y hy
  .have e:Bg (x::l) (Br (x::l) n) n=n::x::l:=by
    simp [Bg,Br,c]
   rw [e,List.pairwise_cons,List.pairwise_cons]
   refine ⟨fun y hy=>?_,h⟩
   rcases List.mem_cons.1 hy with rfl | hy
   .omega
   .have:=h.1 y hy;omega
theorem YB {l:List Int} {k:Nat} {y:Int} (h:k<=l.length):(Bg l k y).getD k 0=y:=by
 unfold Bg
 rw [getD_eq_getElem?_getD,List.getElem?_append_right (by rw [List.length_take];omega),List.length_take,Nat.min_eq_left h]
 simp
theorem Ak6 {p:Int->Int->Prop} {l f:List Int} {k:Nat} {n w:Int} (hk:k<=l.length) (hf:f.length=l.length) (h:∀ i,i < l.length->p (l.getD i 0) (f.getD i 0)) (hn:p n w) (i:Nat) (hi:i < (Bg l k n).length):p ((Bg l k n).getD i 0) ((Bg f k w).getD i 0):=by
 rw [D1 hk] at hi
 rcases Nat.lt_trichotomy i k with c | c | c
 .have e1:=Jj (y:=n) (d:=0) l k i hk
  have e2:=Jj (y:=w) (d:=0) f k i (by omega)
  rw [if_pos c] at e1 e2
  unfold Bg
  rw [e1,e2]
  exact h i (by omega)
 .subst c
  rw [YB hk,YB (by omega)]
  exact hn
 .have e1:=Jj (y:=n) (d:=0) l k (i - 1) hk
  have e2:=Jj (y:=w) (d:=0) f k (i - 1) (by omega)
  rw [if_neg (by omega),show i - 1+1=i by omega] at e1 e2
  unfold Bg
  rw [e1,e2]
  exact h (i - 1) (by omega)
theorem Aam {t:A1} {a b:List Int} (h:∀ x,x∈a->x∈b) {n w:Int} (k:okJ t a n w=true):okJ t b n w=true:=by
 unfold okJ at k ⊢
 split at k
 .rename_i c
  rw [if_pos c]
  simp only [and_eq_true,A9] at k ⊢
  exact ⟨⟨h _ k.1.1,k.1.2⟩,k.2⟩
 .rename_i c
  rw [if_neg c];exact k
theorem EP {t:A1} {a b:List Int} (h:∀ x,x∈a->x∈b) {l:List Int} {loc:Int} (k:CE t l a loc=true):CE t l b loc=true:=by
 simp only [CE,and_eq_true,Ah,BA,A9] at k ⊢
 refine ⟨k.1,fun i hi=>?_⟩
 obtain ⟨⟨⟨⟨h1,h2⟩,h3⟩,h4⟩,h5⟩:=k.2 i hi
 exact ⟨⟨⟨⟨h _ h1,h2⟩,h3⟩,h4⟩,h5⟩
theorem Sd {t:A1} {s:A6} (h:AG t s) {n w:Int} (hn:BP t n=true) (hno:n∉s.has) (hup:(t.at n.toNat).up∈s.has) (hw:okJ t s.has n w=true) {M:List (List (List Int))} (ml:M.length=s.mo.length)
  (mo:∀ loc,loc < s.mo.length->Eh t { B6 s n w with mo:=M } loc=true)
  (o1:∀ x∈s.has,(t.at x.toNat).kind=3->((M.getD (t.at x.toNat).loc.toNat []).filter fun c=>AU c x).length=((s.mo.getD (t.at x.toNat).loc.toNat []).filter fun c=>AU c x).length)
  (o2:(t.at n.toNat).kind=3->((M.getD (t.at n.toNat).loc.toNat []).filter fun c=>AU c n).length=1):AG t { B6 s n w with mo:=M }:=by
 have hk:=Dq s.has n
 have sub:∀ x,x∈s.has->x∈Bg s.has (Br s.has n) n:=fun x hx=>BX.2 (.inr hx)
 refine ⟨?_,?_,Ak7 h.ris hno,?_,?_,?_,by rw [<- h.ml];exact ml,fun loc hl=>mo loc (by rw [<- ml];exact hl),?_⟩
 .intro x hx
  rcases BX.1 hx with rfl | hx
  .exact hn
  .exact h.node x hx
 .intro x hx
  rcases BX.1 hx with rfl | hx
  .exact .inr (sub _ hup)
  .rcases h.up x hx with c | c
   .exact .inl c
   .exact .inr (sub _ c)
 .have e:Cc s.has ||| Cc (Bg s.has (Br s.has n) n)=Cc (Bg s.has (Br s.has n) n):=Aly sub
  show Gc t ||| Cc (Bg s.has (Br s.has n) n)=Cc (Bg s.has (Br s.has n) n)
  rw [<- e,<- BitVec.or_assoc,h.init]
 .show (Bg s.jf (Br s.has n) w).length=(Bg s.has (Br s.has n) n).length
  rw [D1 hk,D1 (by rw [h.jl];exact hk),h.jl]
 .exact Ak6 (p:=fun a b=>okJ t (Bg s.has (Br s.has n) n) a b=true) hk h.jl (fun i hi=>Aam sub (h.just i hi)) (Aam sub hw)
 .intro x hx kx
  rcases BX.1 hx with rfl | hx
  .exact o2 kx
  .show ((M.getD (t.at x.toNat).loc.toNat []).filter fun c=>AU c x).length=1
   rw [o1 x hx kx];exact h.once x hx kx
theorem Se {t:A1} {s:A6} (h:AG t s) {n w:Int} (hn:BP t n=true) (hno:n∉s.has) (hup:(t.at n.toNat).up∈s.has) (hw:okJ t s.has n w=true) (hk:(t.at n.toNat).kind≠3):AG t (B6 s n w):=by
 have sub:∀ x,x∈s.has->x∈Bg s.has (Br s.has n) n:=fun x hx=>BX.2 (.inr hx)
 refine Sd (M:=s.mo) h hn hno hup hw rfl ?_ (fun _ _ _=>rfl) (fun c=>absurd c hk)
 intro loc hl
 have:=h.mo loc hl
 simp only [Eh,and_eq_true,Ah,or_eq_true] at this ⊢
 refine ⟨this.1,fun i hi=>?_⟩
 rcases this.2 i hi with c | c
 .exact .inl c
 .exact .inr (EP sub c)
section
variable {t:A1} (ht:A5 t) {s s':A6} {n:Nat} (E:Ext t s s') (hF:DO t s.has s.jf) (hF':DO t s'.has s'.jf) (up:∀ n,n∈s.has->(t.at n.toNat).up < 0\/(t.at n.toNat).up∈s.has)
 (new:∀ x,x∈s'.has->x=(n:Int)\/x∈s.has) (hno:(n:Int)∉s.has) (fr:∀ b:Nat,(b:Int)∈s.has->Ap t n b=false) (onN:(t.at n).kind=2->Ey s'.has s'.jf n∈s.has)
include ht E hF hF' up new hno fr onN
end
def Ep (s:A6) (loc:Nat):Int:=((s.mo.getD loc []).getD ((s.mo.getD loc []).length - 1) []).getD 0 0
structure WI (t:A1) (s:A6) (mem:List Int) (k:Nat):Prop where
 gr:Gr t s k
 kl:k<=s.has.length
 form:AG t s
 coh:DM t s=true
 one:∀ loc,loc < s.mo.length->∀ c∈s.mo.getD loc [],∃ w:Nat,c=[(w:Int)]/\(w:Int)∈s.has/\(t.at w).kind=3/\(t.at w).loc=loc
 ml:mem.length=t.locs.length
 mem:∀ loc,loc < t.locs.length->mem.getD loc 0=(t.at (Ep s loc).toNat).val
theorem AG.len {t:A1} {s:A6} (h:AG t s):s.has.length<=t.nodes.length:=by
 have hd:s.has.Nodup:=h.ris.imp fun h=>by omega
 have:=KA s.has ((List.range t.nodes.length).map fun (i:Nat)=>(i:Int)) hd (fun x hx=>by
  obtain ⟨m,rfl,hm⟩:=A8 (h.node x hx)
  exact List.mem_map.2 ⟨m,List.mem_range.2 hm,rfl⟩)
 simpa using this
theorem WI.pos {t:A1} {s:A6} {mem:List Int} {k:Nat} (W:WI t s mem k) {loc:Nat} (hl:loc < s.mo.length):0 < (s.mo.getD loc []).length:=by
 have:=(W.gr.big.mi _ (Ai (d:=[]) hl)).1
 exact List.length_pos_iff.2 this
theorem WI.last {t:A1} {s:A6} {mem:List Int} {k:Nat} (W:WI t s mem k) {loc:Nat} (hl:loc < s.mo.length) :
  ∃ w:Nat,Ep s loc=w/\(w:Int)∈s.has/\(t.at w).kind=3/\(t.at w).loc=loc/\Be s loc w=((s.mo.getD loc []).length - 1:Nat):=by
 have hp:=W.pos hl
 have h0:(s.mo.getD loc []).length - 1 < (s.mo.getD loc []).length:=by omega
 obtain ⟨w,e,h1,h2,h3⟩:=W.one loc hl _ (Ai (d:=[]) h0)
 refine ⟨w,by rw [Ep,e];rfl,h1,h2,h3,?_⟩
 rw [Be,if_neg (by omega),toNat_natCast]
 have ho:=W.form.once _ h1 (by rw [toNat_natCast];exact h2)
 rw [toNat_natCast,h3,toNat_natCast] at ho
 have e2:(s.mo.getD loc [])[(s.mo.getD loc []).length - 1]=[(w:Int)]:=by
  rw [<- e,getD_eq_getElem?_getD (l:=s.mo.getD loc []),List.getElem?_eq_getElem h0];rfl
 refine DA h0 (by rw [e2];simp [AU]) (fun j hj=>?_)
 rw [eq_false_iff]
 intro hc
 obtain ⟨L,hL⟩:∃ L,L=s.mo.getD loc []:=⟨_,rfl⟩
 rw [<- hL] at ho hj h0 hp
 simp only [<- hL] at e2 hc
 have h4:L=L.take (j+1)++L.drop (j+1):=(List.take_append_drop _ _).symm
 rw [h4,List.filter_append,List.length_append] at ho
 have p1:0 < ((L.take (j+1)).filter fun c=>AU c (w:Int)).length:=by
  refine List.length_pos_of_mem (a:=L[j]) (List.mem_filter.2 ⟨?_,hc⟩)
  rw [List.mem_take_iff_getElem]
  exact ⟨j,by omega,rfl⟩
 have p2:0 < ((L.drop (j+1)).filter fun c=>AU c (w:Int)).length:=by
  refine List.length_pos_of_mem (a:=L[L.length - 1]) (List.mem_filter.2 ⟨?_,by rw [e2];simp [AU]⟩)
  rw [List.mem_drop_iff_getElem]
  exact ⟨L.length - 1 - (j+1),by omega,by congr 1;omega⟩
 omega
theorem GL.moreN {t:A1}:∀ {n u e:Nat},GL t n u e->u < e/\∀ m,u < m->m < e->0<=(t.at m).up/\((t.at m).rmw=true->(t.at m).kind=3):=by
 intro n
 induction n with
 | zero=>intro u e h;exact absurd h (by simp [GL])
 | succ n ih =>
  intro u e h
  obtain ⟨⟨_,ht,_⟩,h⟩:=h
  rcases h with ⟨_,_,rfl⟩ | ⟨c,_,_,al,hb⟩ | ⟨c,_,_,vals,k,loc,mode,_,hv0,hk0,hke,hloc,hs,_⟩
  .exact ⟨by omega,fun m h1 h2=>by omega⟩
  .have:=(ih hb).1
   refine ⟨by omega,fun m h1 h2=>?_⟩
   by_cases e1:m=u+1
   .subst e1
    refine ⟨by rw [(DU c).1];omega,fun hr=>?_⟩
    simp only [Do,or_eq_true,and_eq_true,decide_eq_true_eq,not_eq_true'] at al
    rcases al with h | h
    .rw [h.1.1.2] at hr;cases hr
    .exact h.1.1.1
   .exact (ih hb).2 m (by omega) h2
  .have mono:∀ v,v<=vals->k 0<=k v:=by
    intro v
    induction v with
    | zero=>intro _;omega
    | succ v iv=>intro hv;have:=iv (by omega);have:=(ih (hs v (by omega)).2.2).1;omega
   refine ⟨by have:=mono vals (by omega);omega,fun m h1 h2=>?_⟩
   obtain ⟨v,hv,a,b⟩:=Cx (k:=k) (m:=m) vals (by omega) (by omega)
   obtain ⟨s1,s2,s3⟩:=hs v hv
   by_cases e1:m=k v
   .subst e1
    simp only [EJ,and_eq_true,decide_eq_true_eq,not_eq_true'] at s2
    exact ⟨by rw [(DU s1).1];omega,fun hr=>by rw [s2.2] at hr;cases hr⟩
   .exact (ih s3).2 m (by omega) b
theorem A5.kinds {t:A1} (h:A5 t):∃ s:Nat->Nat,(∀ v,v < t.regs.length->s v < t.nodes.length/\t.locs.length<=s v/\(t.at (s v)).thread=v/\(t.at (s v)).up = -1/\(t.at (s v)).kind=1)/\(∀ m,m < t.nodes.length->m < t.locs.length\/(∃ v,v < t.regs.length/\m=s v)\/(0<=(t.at m).up/\((t.at m).rmw=true->(t.at m).kind=3))):=by
 obtain ⟨s,h0,he,hs⟩:=h.thr
 have mono:∀ d v,v+d<=t.regs.length->s v+d<=s (v+d):=by
  intro d
  induction d with
  | zero=>intro v _;simp
  | succ d ih =>
   intro v hv
   have:=ih v (by omega)
   obtain ⟨_,n,hn⟩:=hs (v+d) (by omega)
   have:=hn.moreN.1
   rw [Nat.add_assoc] at this
   omega
 refine ⟨s,fun v hv=>?_,fun m hm=>?_⟩
 .obtain ⟨hb,n,hn⟩:=hs v hv
  simp only [Eu,and_eq_true,decide_eq_true_eq] at hb
  have a:=mono v 0 (by omega)
  have b:=mono (t.regs.length - v) v (by omega)
  rw [show v+(t.regs.length - v)=t.regs.length by omega] at b
  rw [Nat.zero_add] at a
  exact ⟨by omega,by omega,hb.1.1.1.1.1.1,hb.1.1.1.1.1.2,hb.1.1.1.1.2⟩
 .by_cases c:m < t.locs.length
  .exact .inl c
  .obtain ⟨v,hv,a,b⟩:=Cx (k:=s) (m:=m) t.regs.length (by omega) (by omega)
   obtain ⟨hb,n,hn⟩:=hs v hv
   by_cases e1:m=s v
   .exact .inr (.inl ⟨v,hv,e1⟩)
   .exact .inr (.inr (hn.moreN.2 m (by omega) b))
theorem A5.top {t:A1} (h:A5 t) {m:Nat} (hm:m < t.nodes.length) (h0:0<=(t.at m).thread) (hu:(t.at m).up < 0):(t.at m).kind=1:=by
 obtain ⟨s,h1,h2⟩:=h.kinds
 rcases h2 m hm with c | ⟨v,hv,rfl⟩ | c
 .have:=(h.init m c).thr;omega
 .exact (h1 v hv).2.2.2.2
 .omega
theorem H7 {t:A1} {x:Int}:x∈(Bu t).has↔∃ m:Nat,x=m/\m < t.nodes.length/\(t.at m).up < 0:=by
 simp only [Bu,EX,List.mem_map,List.mem_filter,List.mem_range,decide_eq_true_eq]
 constructor
 .rintro ⟨i,⟨h1,h2⟩,rfl⟩;exact ⟨i,rfl,h1,h2⟩
 .rintro ⟨i,rfl,h1,h2⟩;exact ⟨i,⟨h1,h2⟩,rfl⟩
theorem Rs {t:A1} (h:A5 t) {m:Nat} (hm:m < t.nodes.length) (hu:(t.at m).up < 0):(m < t.locs.length/\(t.at m).kind=3)\/(t.locs.length<=m/\(t.at m).kind=1):=by
 by_cases c:m < t.locs.length
 .exact .inl ⟨c,(h.init m c).kind⟩
 .refine .inr ⟨by omega,h.top hm ?_ hu⟩
  have:=(h.thr_iff hm).1
  omega
theorem AdW {t:A1} {loc:Nat} (h:loc < t.locs.length):(Bu t).mo.getD loc []=[[(loc:Int)]]:=by
 simp [Bu,h]
theorem Ly {t:A1} (h:A5 t):AG t (Bu t):=by
 refine ⟨fun n hn=>?_,fun n hn=>?_,?_,?_,?_,fun i hi=>?_,by simp [Bu],fun loc hl=>?_,fun n hn kn=>?_⟩
 .obtain ⟨m,rfl,hm,_⟩:=H7.1 hn;exact BM hm
 .obtain ⟨m,rfl,hm,hu⟩:=H7.1 hn;exact .inl hu
 .simp only [Bu,EX,List.pairwise_map]
  exact (List.pairwise_lt_range.filter _).imp fun h=>by omega
 .apply BitVec.eq_of_getLsbD_eq
  intro i hi
  rw [BitVec.getLsbD_or,Gc,Au]
  cases hc:(Cc (Bu t).has).getLsbD i with
  | true=>simp
  | false =>
   rw [Bool.or_false,eq_false_iff]
   intro hx
   simp only [and_eq_true,decide_eq_true_eq] at hx
   have:=Lo (Bu t).has (x:=(i:Int)) (by omega) (by omega)
   rw [AC,hc,A9.2 (H7.2 ⟨i,rfl,hx.1.1,hx.1.2⟩)] at this;cases this
 .simp [Bu]
 .have hm:=Ai (d:=0) hi
  obtain ⟨m,e,hm,hu⟩:=H7.1 hm
  have hj:(Bu t).jf.getD i 0 = -1:=by
   have h0:i < (EX t t.nodes.length).length:=hi
   simp [Bu,h0]
  rw [e,hj]
  rcases Rs h hm hu with c | c<;>simp [okJ,c.2]
 .have h1:loc < t.locs.length:=by simpa [Bu] using hl
  simp only [Eh,AdW h1,and_eq_true,Ah]
  refine ⟨⟨rfl,by simp⟩,fun i hi=>?_⟩
  have:i=0:=by simp at hi;omega
  simp [this]
 .obtain ⟨m,rfl,hm,hu⟩:=H7.1 hn
  rw [toNat_natCast] at kn ⊢
  rcases Rs h hm hu with c | c
  .rw [(h.init m c.1).loc,toNat_natCast,AdW c.1];simp [AU]
  .omega
structure StI (t:A1) (s:A6) (at_:List Nat):Prop where
 has:∀ u∈at_,(u:Int)∈s.has/\0<=(t.at u).thread
 top:∀ u∈at_,∀ x:Nat,(x:Int)∈s.has->(t.at x).thread=(t.at u).thread->x<=u
 pw:at_.Pairwise fun a b=>(t.at a).thread≠(t.at b).thread
 chain:∀ u∈at_,∀ x:Nat,(x:Int)∈s.has->(t.at x).thread=(t.at u).thread->x=u\/Aw t x u=true
 cov:∀ x:Nat,(x:Int)∈s.has->0<=(t.at x).thread->∃ u∈at_,(t.at u).thread=(t.at x).thread
theorem Dd {t:A1} (hu:Kt t) {x n m:Nat} (hn:n < t.nodes.length) (e:(t.at n).up=(m:Int)):Aw t x n=(decide (m=x) || Aw t x m):=by
 unfold Aw
 have:=hu n hn
 rw [Dc hu x (by omega),e,if_neg (by omega),toNat_natCast]
 by_cases c:m=x
 .rw [if_pos (by omega),decide_eq_true c,Bool.true_or]
 .rw [if_neg (by omega),decide_eq_false c,Bool.false_or]
end Go.AM
