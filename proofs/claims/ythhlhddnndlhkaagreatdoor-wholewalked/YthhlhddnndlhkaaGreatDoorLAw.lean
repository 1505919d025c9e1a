/-
  Own work, part of the proof of these laws: plain laws.
-/
import Derived.Test.YthhlhddnndlhkaaGreatDoorKJw
set_option maxRecDepth 10000
set_option maxHeartbeats 64000000
set_option linter.unusedVariables false
set_option linter.unusedSimpArgs false
set_option linter.unusedSectionVars false
set_option linter.unnecessarySimpa false
open Bool (and_eq_true or_eq_true not_eq_true' eq_false_iff)
open Int (toNat_natCast)
open List (getD_eq_getElem?_getD length_append getElem_mem length_set filter_append getElem_of_mem mem_append getElem?_set mem_filter mem_range getElem_set)
namespace Go.AM
open Go Go.Proofs
theorem GU {α:Type} (p:α->Bool) (x:α) (l:List α):Dx p (x::l)=if p x=true then 0 else if Dx p l < 0 then -1 else Dx p l+1:=by
 unfold Dx
 rw [List.findIdx?_cons]
 cases p x with
 | true=>rfl
 | false =>
  cases l.findIdx? p with
  | none=>rfl
  | some i=>simp;omega
theorem Ad8 {α:Type} (p:α->Bool) (l:List α) : -1<=Dx p l:=by
 unfold Dx
 cases l.findIdx? p with
 | none=>simp
 | some i=>show (-1:Int)<=(i:Int);omega
theorem QU {α:Type} {p:α->Bool} {y:α} (hy:p y=false):∀ (l:List α) (k:Nat),k<=l.length->Dx p (l.take k++y::l.drop k)=if Dx p l < k then Dx p l else Dx p l+1
 | l,0,_=>by
  have:=Ad8 p l
  rw [List.take_zero,List.nil_append,List.drop_zero,GU,hy]
  simp only [Bool.false_eq_true,if_false]
  split<;>split<;>omega
 | [],k+1,h=>by simp at h
 | x::l,k+1,h=>by
  have ih:=QU hy l k (by simpa using h)
  have:=Ad8 p l
  rw [List.take_succ_cons,List.drop_succ_cons,List.cons_append,GU,GU,ih]
  split
  .rw [if_pos (by omega)]
  .split<;>split<;>split<;>omega
theorem Jj {α:Type} {y d:α}:∀ (l:List α) (k i:Nat),k<=l.length->(l.take k++y::l.drop k).getD (if i < k then i else i+1) d=l.getD i d
 | l,0,i,_=>by simp
 | [],k+1,i,h=>by simp at h
 | x::l,k+1,0,h=>by simp
 | x::l,k+1,i+1,h=>by
  have ih:=Jj (y:=y) (d:=d) l k i (by simpa using h)
  rw [List.take_succ_cons,List.drop_succ_cons,List.cons_append]
  by_cases c:i < k
  .rw [if_pos (by omega)];rw [if_pos c] at ih;simpa using ih
  .rw [if_neg (by omega)];rw [if_neg c] at ih;simpa using ih
theorem BX {l:List Int} {k:Nat} {x y:Int}:x∈Bg l k y↔x=y\/x∈l:=by
 unfold Bg
 have e:x∈l↔x∈l.take k\/x∈l.drop k:=by rw [<- mem_append,List.take_append_drop]
 rw [e,mem_append,List.mem_cons]
 constructor
 .rintro (h | h | h)
  .exact .inr (.inl h)
  .exact .inl h
  .exact .inr (.inr h)
 .rintro (h | h | h)
  .exact .inr (.inl h)
  .exact .inl h
  .exact .inr (.inr h)
theorem Adm {l:List Int} {k:Nat} {x y:Int} (h:x≠y):AU (Bg l k y) x=AU l x:=by
 cases c:AU l x with
 | true=>exact A9.2 (BX.2 (.inr (A9.1 c)))
 | false =>
  rw [eq_false_iff] at c ⊢
  intro h2
  rcases BX.1 (A9.1 h2) with e | e
  .exact h e
  .exact c (A9.2 e)
theorem Apg {x f:List Int} {k:Nat} {n y w:Int} (hk:k<=x.length) (hf:k<=f.length) (h:n∈x) (hn:n≠y):Ey (Bg x k y) (Bg f k w) n=Ey x f n:=by
 unfold Ey
 rw [Adm hn,if_pos (A9.2 h),if_pos (A9.2 h)]
 obtain ⟨i,e,hi,h1,h2⟩:=Gx (A9.2 h)
 have e2:LD (Bg x k y) n=if LD x n < k then LD x n else LD x n+1:=QU (p:=fun z=>decide (n=z)) (decide_eq_false hn) x k hk
 rw [e2,e,toNat_natCast]
 have:=Jj (y:=w) (d:=0) f k i hf
 unfold Bg
 rw [<- this]
 congr 1
 by_cases c:i < k
 .rw [if_pos c,if_pos (by omega)];omega
 .rw [if_neg c,if_neg (by omega)];omega
structure Ext (t:A1) (s s':A6):Prop where
 has:∀ n,n∈s.has->n∈s'.has
 on:∀ n,n∈s.has->Ey s'.has s'.jf n=Ey s.has s.jf n
 place:∀ (loc v w:Int),v∈s.has->w∈s.has->(Be s loc v < Be s loc w↔Be s' loc v < Be s' loc w)
theorem Gi {t:A1} {s s':A6} {n kind w:Int} (e:D6 t s n kind w=some s'):Ext t s s'/\Bd t s=true/\n∉s.has:=by
 unfold D6 at e
 split at e
 .rename_i hok
  cases e
  have hk:=Dq s.has n
  simp only [Cy,and_eq_true,not_eq_true'] at hok
  have hf:=hok.1.1.1.1
  have hjl:s.jf.length=s.has.length:=by simp only [Bd,and_eq_true,decide_eq_true_eq] at hf;exact hf.1.1.1.1.2
  have hn:n∉s.has:=fun h=>by rw [A9.2 h] at hok;exact absurd hok.1.2 (by simp)
  exact ⟨⟨fun x hx=>BX.2 (.inr hx),fun x hx=>Apg hk (by omega) hx (fun c=>hn (c ▸ hx)),fun _ _ _ _ _=>Iff.rfl⟩,hf,hn⟩
 .cases e
theorem Ext.trans {t:A1} {a b c:A6} (h:Ext t a b) (k:Ext t b c):Ext t a c :=
 ⟨fun n hn=>k.has n (h.has n hn),fun n hn=>(k.on n (h.has n hn)).trans (h.on n hn),fun loc v w hv hw=>(h.place loc v w hv hw).trans (k.place loc v w (h.has v hv) (h.has w hw))⟩
theorem A69 {s:A6} {r:Nat} {L:List (List Int)} {g:Int->Int} (hg:∀ a b,a < b↔g a < g b) {ok:Int->Prop} (h:∀ v,ok v->Dx (fun c=>AU c v) L=g (Dx (fun c=>AU c v) (s.mo.getD r []))) (loc v w:Int) (hv:ok v) (hw:ok w) :
  Be s loc v < Be s loc w↔Be { s with mo:=s.mo.set r L } loc v < Be { s with mo:=s.mo.set r L } loc w:=by
 unfold Be
 rw [length_set]
 by_cases c:loc < 0\/(s.mo.length:Int)<=loc
 .simp only [if_pos c]
 .simp only [if_neg c]
  by_cases c2:loc.toNat=r
  .have e:(s.mo.set r L).getD loc.toNat []=L:=by rw [getD_eq_getElem?_getD,getElem?_set,if_pos c2.symm,if_pos (by omega)];rfl
   rw [e,h v hv,h w hw,c2]
   exact hg _ _
  .have e:(s.mo.set r L).getD loc.toNat []=s.mo.getD loc.toNat []:=by rw [getD_eq_getElem?_getD,getElem?_set,if_neg (Ne.symm c2),<- getD_eq_getElem?_getD]
   rw [e]
theorem NL {t:A1} {s s':A6} {n w:Int} (e:EM t s n w=some s'):Ext t s s'/\Bd t s=true:=by
 unfold EM at e
 split at e
 .rename_i x hx
  obtain ⟨h1,h2,h3⟩:=Gi hx
  split at e
  .cases e
  .rename_i hw
   cases e
   refine ⟨⟨h1.has,h1.on,fun loc v u hv hu=>(h1.place loc v u hv hu).trans ?_⟩,h2⟩
   refine A69 (ok:=fun v=>v∈s.has) (g:=fun i=>if i < (w.toNat:Int) then i else i+1) (fun a b=>by split<;>split<;>omega) (fun v hv=>?_) loc v u hv hu
   exact QU (p:=fun c=>AU c v) (by
    rw [eq_false_iff]
    intro h
    exact h3 (by rw [List.mem_singleton.1 (A9.1 h)] at hv;exact hv)) _ _ (by omega)
 .cases e
theorem Aat {t:A1} {s s':A6} {n w:Int} (e:JZ t s n w=some s'):Ext t s s'/\Bd t s=true:=by
 unfold JZ at e
 split at e
 .rename_i x hx
  obtain ⟨h1,h2,_⟩:=Gi hx
  split at e
  .cases e;exact ⟨h1,h2⟩
  .cases e
 .cases e
theorem HN.mono {p q:Nat->Nat->Bool} {N a b:Nat} (i:∀ a b,p a b=true->q a b=true) (h:HN p N a b):HN q N a b:=by
 induction h with
 | one hb h=>exact .one hb (i _ _ h)
 | more _ hc h ih=>exact .more ih hc (i _ _ h)
section
variable {t:A1} (ht:A5 t) {s s':A6} (E:Ext t s s') (hF:DO t s.has s.jf) (hF':DO t s'.has s'.jf) (up:∀ n,n∈s.has->(t.at n.toNat).up < 0\/(t.at n.toNat).up∈s.has)
include ht E hF hF' up
theorem Ahe {w:Int} (hw:w∈s.has):ahF t s'.has s'.jf w=ahF t s.has s.jf w:=by
 unfold ahF
 rcases up w hw with h | h
 .have a:AU s.has (t.at w.toNat).up=false:=Bool.eq_false_iff.2 fun c=>by
   obtain ⟨m,e,_⟩:=A8 (hF.node _ (A9.1 c));omega
  have b:AU s'.has (t.at w.toNat).up=false:=Bool.eq_false_iff.2 fun c=>by
   obtain ⟨m,e,_⟩:=A8 (hF'.node _ (A9.1 c));omega
  rw [a,b];simp
 .rw [A9.2 h,A9.2 (E.has _ h),E.on _ h]
end
theorem Aly {l l':List Int} (h:∀ x,x∈l->x∈l'):Cc l ||| Cc l' = Cc l':=by
 apply B1
 intro j hj
 have e:∀ l:List Int,(Cc l).getLsbD j=AU l (j:Int):=fun l=>by rw [<- AC,Lo l (by omega) (by omega)]
 rw [BitVec.getLsbD_or,e,e]
 cases c:AU l (j:Int) with
 | false=>rw [Bool.false_or]
 | true=>rw [A9.2 (h _ (A9.1 c))];rfl
def okJ (t:A1) (has:List Int) (n w:Int):Bool :=
 if (t.at n.toNat).kind=2 then AU has w && HT t w (t.at n.toNat).loc && decide ((t.at w.toNat).val=(t.at n.toNat).val) else decide (w = -1)
structure AG (t:A1) (s:A6):Prop where
 node:∀ n∈s.has,BP t n=true
 up:∀ n∈s.has,(t.at n.toNat).up < 0\/(t.at n.toNat).up∈s.has
 ris:s.has.Pairwise (· < ·)
 init:Gc t ||| Cc s.has=Cc s.has
 jl:s.jf.length=s.has.length
 just:∀ i,i < s.has.length->okJ t s.has (s.has.getD i 0) (s.jf.getD i 0)=true
 ml:s.mo.length=t.locs.length
 mo:∀ loc,loc < s.mo.length->Eh t s loc=true
 once:∀ n∈s.has,(t.at n.toNat).kind=3->((s.mo.getD (t.at n.toNat).loc.toNat []).filter fun c=>AU c n).length=1
theorem AdQ {l:List Int}:(∀ i,i < l.length->Di l i=true)↔l.Pairwise (· < ·):=by
 constructor
 .intro h
  rw [List.pairwise_iff_getElem]
  have key:∀ d i,i+d+1 < l.length->l.getD i 0 < l.getD (i+d+1) 0:=by
   intro d
   induction d with
   | zero =>
    intro i hi
    have:=h (i+1) (by omega)
    simpa [Di] using this
   | succ d ih =>
    intro i hi
    have h1:=ih i (by omega)
    have:=h (i+d+1+1) (by omega)
    simp only [Di,Nat.add_one_sub_one,or_eq_true,decide_eq_true_eq] at this
    rcases this with h2 | h2
    .omega
    .exact Int.lt_trans h1 h2
  intro i j hi hj hij
  have:=key (j - i - 1) i (by omega)
  rw [show i+(j - i - 1)+1=j by omega] at this
  simpa [getD_eq_getElem?_getD,hi,hj] using this
 .intro h i hi
  rw [List.pairwise_iff_getElem] at h
  simp only [Di,or_eq_true,decide_eq_true_eq]
  rcases Nat.eq_zero_or_pos i with c | c
  .exact .inl c
  .refine .inr ?_
   have:=h (i - 1) i (by omega) hi (by omega)
   simpa [getD_eq_getElem?_getD,hi,show i - 1 < l.length by omega] using this
theorem AE {t:A1} {s:A6}:Bd t s=true↔AG t s:=by
 have e:∀ i,Jl t s i=okJ t s.has (s.has.getD i 0) (s.jf.getD i 0):=fun _=>rfl
 have mem:∀ {p:Int->Prop},(∀ i,i < s.has.length->p (s.has.getD i 0))↔∀ n∈s.has,p n:=by
  intro p
  constructor
  .intro h n hn
   obtain ⟨i,hi,rfl⟩:=getElem_of_mem hn
   have:=h i hi
   rwa [getD_eq_getElem?_getD,List.getElem?_eq_getElem hi] at this
  .intro h i hi
   exact h _ (Ai hi)
 constructor
 .intro h
  simp only [Bd,Cz,Cs,Mv,e,and_eq_true,or_eq_true,not_eq_true',decide_eq_true_eq,decide_eq_false_iff_not,Ah,A9] at h
  obtain ⟨⟨⟨⟨⟨⟨h1,h2⟩,h3⟩,h4⟩,h5⟩,h6⟩,h7⟩:=h
  exact ⟨mem.1 fun i hi=>(h1 i hi).1.1,mem.1 fun i hi=>(h1 i hi).2,AdQ.1 fun i hi=>(h1 i hi).1.2,h2,h3,h5,h4,h6,mem.1 fun i hi k=>by
   rcases h7 i hi with h | h
   .exact absurd k h
   .exact h⟩
 .intro h
  simp only [Bd,Cz,Cs,Mv,e,and_eq_true,or_eq_true,not_eq_true',decide_eq_true_eq,decide_eq_false_iff_not,Ah,A9]
  refine ⟨⟨⟨⟨⟨⟨fun i hi=>⟨⟨mem.2 h.node i hi,AdQ.2 h.ris i hi⟩,mem.2 h.up i hi⟩,h.init⟩,h.jl⟩,h.ml⟩,h.just⟩,h.mo⟩,fun i hi=>?_⟩
  by_cases k:(t.at (s.has.getD i 0).toNat).kind=3
  .exact .inr (h.once _ (Ai hi) k)
  .exact .inl k
theorem Ak7 {l:List Int} {n:Int} (h:l.Pairwise (· < ·)) (hn:n∉l):(Bg l (Br l n) n).Pairwise (· < ·):=by
 induction l with
 | nil=>simp [Bg,Br]
 | cons x l ih =>
  rw [List.pairwise_cons] at h
  have hx:x≠n:=fun c=>hn (by simp [c])
  have hl:n∉l:=fun c=>hn (by simp [c])
  by_cases c:x < n
  .have e:Bg (x::l) (Br (x::l) n) n=x::Bg l (Br l n) n:=by
    simp [Bg,Br,c]
   rw [e,List.pairwise_cons]
   refine ⟨fun y hy=>?_,ih h.2 hl⟩
   rcases BX.1 hy with rfl | hy
   .exact c
   .exact h.1 y hy
  .have e:Bg (x::l) (Br (x::l) n) n=n::x::l:=by
    simp [Bg,Br,c]
   rw [e,List.pairwise_cons,List.pairwise_cons]
   refine ⟨fun y hy=>?_,h⟩
   rcases List.mem_cons.1 hy with rfl | hy
   .omega
   .have:=h.1 y hy;omega
theorem YB {l:List Int} {k:Nat} {y:Int} (h:k<=l.length):(Bg l k y).getD k 0=y:=by
 unfold Bg
 rw [getD_eq_getElem?_getD,List.getElem?_append_right (by rw [List.length_take];omega),List.length_take,Nat.min_eq_left h]
 simp
theorem Ak6 {p:Int->Int->Prop} {l f:List Int} {k:Nat} {n w:Int} (hk:k<=l.length) (hf:f.length=l.length) (h:∀ i,i < l.length->p (l.getD i 0) (f.getD i 0)) (hn:p n w) (i:Nat) (hi:i < (Bg l k n).length):p ((Bg l k n).getD i 0) ((Bg f k w).getD i 0):=by
 rw [D1 hk] at hi
 rcases Nat.lt_trichotomy i k with c | c | c
 .have e1:=Jj (y:=n) (d:=0) l k i hk
  have e2:=Jj (y:=w) (d:=0) f k i (by omega)
  rw [if_pos c] at e1 e2
  unfold Bg
  rw [e1,e2]
  exact h i (by omega)
 .subst c
  rw [YB hk,YB (by omega)]
  exact hn
 .have e1:=Jj (y:=n) (d:=0) l k (i - 1) hk
  have e2:=Jj (y:=w) (d:=0) f k (i - 1) (by omega)
  rw [if_neg (by omega),show i - 1+1=i by omega] at e1 e2
  unfold Bg
  rw [e1,e2]
  exact h (i - 1) (by omega)
theorem Aam {t:A1} {a b:List Int} (h:∀ x,x∈a->x∈b) {n w:Int} (k:okJ t a n w=true):okJ t b n w=true:=by
 unfold okJ at k ⊢
 split at k
 .rename_i c
  rw [if_pos c]
  simp only [and_eq_true,A9] at k ⊢
  exact ⟨⟨h _ k.1.1,k.1.2⟩,k.2⟩
 .rename_i c
  rw [if_neg c];exact k
theorem EP {t:A1} {a b:List Int} (h:∀ x,x∈a->x∈b) {l:List Int} {loc:Int} (k:CE t l a loc=true):CE t l b loc=true:=by
 simp only [CE,and_eq_true,Ah,BA,A9] at k ⊢
 refine ⟨k.1,fun i hi=>?_⟩
 obtain ⟨⟨⟨⟨h1,h2⟩,h3⟩,h4⟩,h5⟩:=k.2 i hi
 exact ⟨⟨⟨⟨h _ h1,h2⟩,h3⟩,h4⟩,h5⟩
theorem Sd {t:A1} {s:A6} (h:AG t s) {n w:Int} (hn:BP t n=true) (hno:n∉s.has) (hup:(t.at n.toNat).up∈s.has) (hw:okJ t s.has n w=true) {M:List (List (List Int))} (ml:M.length=s.mo.length)
  (mo:∀ loc,loc < s.mo.length->Eh t { B6 s n w with mo:=M } loc=true)
  (o1:∀ x∈s.has,(t.at x.toNat).kind=3->((M.getD (t.at x.toNat).loc.toNat []).filter fun c=>AU c x).length=((s.mo.getD (t.at x.toNat).loc.toNat []).filter fun c=>AU c x).length)
  (o2:(t.at n.toNat).kind=3->((M.getD (t.at n.toNat).loc.toNat []).filter fun c=>AU c n).length=1):AG t { B6 s n w with mo:=M }:=by
 have hk:=Dq s.has n
 have sub:∀ x,x∈s.has->x∈Bg s.has (Br s.has n) n:=fun x hx=>BX.2 (.inr hx)
 refine ⟨?_,?_,Ak7 h.ris hno,?_,?_,?_,by rw [<- h.ml];exact ml,fun loc hl=>mo loc (by rw [<- ml];exact hl),?_⟩
 .intro x hx
  rcases BX.1 hx with rfl | hx
  .exact hn
  .exact h.node x hx
 .intro x hx
  rcases BX.1 hx with rfl | hx
  .exact .inr (sub _ hup)
  .rcases h.up x hx with c | c
   .exact .inl c
   .exact .inr (sub _ c)
 .have e:Cc s.has ||| Cc (Bg s.has (Br s.has n) n)=Cc (Bg s.has (Br s.has n) n):=Aly sub
  show Gc t ||| Cc (Bg s.has (Br s.has n) n)=Cc (Bg s.has (Br s.has n) n)
  rw [<- e,<- BitVec.or_assoc,h.init]
 .show (Bg s.jf (Br s.has n) w).length=(Bg s.has (Br s.has n) n).length
  rw [D1 hk,D1 (by rw [h.jl];exact hk),h.jl]
 .exact Ak6 (p:=fun a b=>okJ t (Bg s.has (Br s.has n) n) a b=true) hk h.jl (fun i hi=>Aam sub (h.just i hi)) (Aam sub hw)
 .intro x hx kx
  rcases BX.1 hx with rfl | hx
  .exact o2 kx
  .show ((M.getD (t.at x.toNat).loc.toNat []).filter fun c=>AU c x).length=1
   rw [o1 x hx kx];exact h.once x hx kx
theorem Se {t:A1} {s:A6} (h:AG t s) {n w:Int} (hn:BP t n=true) (hno:n∉s.has) (hup:(t.at n.toNat).up∈s.has) (hw:okJ t s.has n w=true) (hk:(t.at n.toNat).kind≠3):AG t (B6 s n w):=by
 have sub:∀ x,x∈s.has->x∈Bg s.has (Br s.has n) n:=fun x hx=>BX.2 (.inr hx)
 refine Sd (M:=s.mo) h hn hno hup hw rfl ?_ (fun _ _ _=>rfl) (fun c=>absurd c hk)
 intro loc hl
 have:=h.mo loc hl
 simp only [Eh,and_eq_true,Ah,or_eq_true] at this ⊢
 refine ⟨this.1,fun i hi=>?_⟩
 rcases this.2 i hi with c | c
 .exact .inl c
 .exact .inr (EP sub c)
theorem AbK {t:A1} {s:A6} (h:AG t s) {n:Int} (hn:BP t n=true) (hno:n∉s.has) (hup:(t.at n.toNat).up∈s.has) (hk:(t.at n.toNat).kind=3) (ht:0<=(t.at n.toNat).thread) {loc:Nat} (hl:(t.at n.toNat).loc=loc) (hll:loc < s.mo.length)
  (hin:∀ c∈s.mo.getD loc [],∀ x∈c,x∈s.has):AG t { B6 s n (-1) with mo:=s.mo.set loc (s.mo.getD loc []++[[n]]) }:=by
 have sub:∀ x,x∈s.has->x∈Bg s.has (Br s.has n) n:=fun x hx=>BX.2 (.inr hx)
 have hself:(s.mo.set loc (s.mo.getD loc []++[[n]])).getD loc []=s.mo.getD loc []++[[n]]:=by rw [getD_eq_getElem?_getD (l:=s.mo.set _ _),getElem?_set,if_pos rfl,if_pos hll];rfl
 have hoth:∀ k,k≠loc->(s.mo.set loc (s.mo.getD loc []++[[n]])).getD k []=s.mo.getD k []:=fun k hk=>by rw [getD_eq_getElem?_getD (l:=s.mo.set _ _),getElem?_set,if_neg (Ne.symm hk),<- getD_eq_getElem?_getD]
 have hcls:CE t [n] (Bg s.has (Br s.has n) n) loc=true:=by
  simp only [CE,and_eq_true,Ah,BA,A9,List.length_singleton]
  refine ⟨rfl,fun i hi=>?_⟩
  obtain rfl:i=0:=by omega
  refine ⟨⟨⟨⟨BX.2 (.inl rfl),rfl⟩,?_⟩,decide_eq_true ht⟩,fun k hk=>by omega⟩
  simp [HT,hk,hl]
 refine Sd h hn hno hup (by simp [okJ,hk]) (by rw [length_set]) ?_ ?_ ?_
 .intro k hkl
  by_cases c:k=loc
  .subst c
   have hm:=h.mo k hkl
   simp only [Eh,hself,and_eq_true,Ah,or_eq_true,not_eq_true',decide_eq_true_eq,decide_eq_false_iff_not] at hm ⊢
   obtain ⟨⟨m1,m2⟩,m3⟩:=hm
   have hpos:0 < (s.mo.getD k []).length:=by omega
   refine ⟨⟨by simp,?_⟩,fun i hi=>?_⟩
   .rw [getD_eq_getElem?_getD,List.getElem?_append_left hpos,<- getD_eq_getElem?_getD];exact m2
   .by_cases ci:i < (s.mo.getD k []).length
    .have e:(s.mo.getD k []++[[n]]).getD i []=(s.mo.getD k []).getD i []:=by rw [getD_eq_getElem?_getD,List.getElem?_append_left ci,<- getD_eq_getElem?_getD]
     rw [e]
     rcases m3 i ci with c | c
     .exact .inl c
     .exact .inr (EP sub c)
    .rw [length_append,List.length_singleton] at hi
     have ei:i=(s.mo.getD k []).length:=by omega
     have e:(s.mo.getD k []++[[n]]).getD i []=[n]:=by rw [getD_eq_getElem?_getD,List.getElem?_append_right (by omega),ei,Nat.sub_self];rfl
     rw [e]
     exact .inr hcls
  .have hm:=h.mo k hkl
   simp only [Eh,hoth k c,and_eq_true,Ah,or_eq_true] at hm ⊢
   refine ⟨hm.1,fun i hi=>?_⟩
   rcases hm.2 i hi with d | d
   .exact .inl d
   .exact .inr (EP sub d)
 .intro x hx kx
  by_cases c:(t.at x.toNat).loc.toNat=loc
  .rw [c,hself,filter_append]
   have:AU [n] x=false:=Bool.eq_false_iff.2 fun d=>hno (by rw [<- List.mem_singleton.1 (A9.1 d)];exact hx)
   simp [this]
  .rw [hoth _ c]
 .intro _
  rw [hl,toNat_natCast,hself,filter_append]
  have e:(s.mo.getD loc []).filter (fun c=>AU c n)=[]:=by
   rw [List.filter_eq_nil_iff]
   intro c hc d
   exact hno (hin c hc n (A9.1 d))
  rw [e]
  simp [AU]
theorem AbY (t:A1) (x f:List Int) (w:Int) (a:Nat):∀ k,EF t x f (a+k) w=EF t x f k (EF t x f a w)
 | 0=>rfl
 | k+1=>by rw [<- Nat.add_assoc,EF,AbY t x f w a k];rfl
theorem Aa4 (t:A1) (x f:List Int) (w:Int):∀ (N j:Nat),j<=N->(∀ i,i<=j->EF t x f i w∈x)->∃ k,k<=j/\k < x.length/\EF t x f k w=EF t x f j w
 | N,j,hN,h=>by
  by_cases c:j < x.length
  .exact ⟨j,Nat.le_refl _,c,rfl⟩
  .have hnd:¬ ((List.range (j+1)).map fun i=>EF t x f i w).Nodup:=by
    intro hd
    have:=KA _ x hd (fun y hy=>by
     obtain ⟨i,hi,rfl⟩:=List.mem_map.1 hy
     exact h i (by have:=List.mem_range.1 hi;omega))
    simp at this;omega
   have:∃ a b,a < b/\b<=j/\EF t x f a w=EF t x f b w:=by
    apply Classical.byContradiction
    intro hno
    apply hnd
    rw [List.nodup_iff_pairwise_ne,List.pairwise_iff_getElem]
    intro a b ha hb hab e
    simp only [List.length_map,List.length_range,List.getElem_map,List.getElem_range] at ha hb e
    exact hno ⟨a,b,hab,by omega,e⟩
   obtain ⟨a,b,hab,hbj,e⟩:=this
   match N with
   | 0=>omega
   | N+1 =>
    obtain ⟨k,h1,h2,h3⟩:=Aa4 t x f w N (j - (b - a)) (by omega) (fun i hi=>h i (by omega))
    refine ⟨k,by omega,h2,h3.trans ?_⟩
    have e1:=AbY t x f w a (j - b)
    have e2:=AbY t x f w b (j - b)
    rw [e] at e1
    rw [show j - (b - a)=a+(j - b) by omega,e1,<- e2,show b+(j - b)=j by omega]
section
variable {t:A1} (ht:A5 t) {s s':A6} {n:Nat} (E:Ext t s s') (hF:DO t s.has s.jf) (hF':DO t s'.has s'.jf) (up:∀ n,n∈s.has->(t.at n.toNat).up < 0\/(t.at n.toNat).up∈s.has)
 (new:∀ x,x∈s'.has->x=(n:Int)\/x∈s.has) (hno:(n:Int)∉s.has) (fr:∀ b:Nat,(b:Int)∈s.has->Ap t n b=false) (onN:(t.at n).kind=2->Ey s'.has s'.jf n∈s.has)
include ht E hF hF' up new hno fr onN
theorem AlB {w:Int} {a:Nat} (hw:w∈s.has) (h:(KB t s'.has w).getLsbD a=true):(KB t s.has w).getLsbD a=true:=by
 rw [KB,Au,and_eq_true] at h ⊢
 refine ⟨?_,h.2⟩
 have h:=h.1
 simp only [Ace,or_eq_true,and_eq_true,A9] at h ⊢
 rcases h with h | h
 .exact .inl h
 .refine .inr ⟨⟨⟨?_,h.1.1.2⟩,h.1.2⟩,h.2⟩
  rcases new _ h.1.1.1 with e | e
  .obtain ⟨m,rfl,_⟩:=A8 (hF.node w hw)
   have:=fr m hw
   rw [<- e,h.2] at this;cases this
  .exact e
theorem AhS {w:Int} (hw:w∈s.has):∀ i,(∀ k,k < i->JH t (EF t s'.has s'.jf k w)=false)->EF t s'.has s'.jf i w=EF t s.has s.jf i w/\(EF t s.has s.jf i w∈s.has\/EF t s.has s.jf i w = -1)
 | 0,_=>⟨rfl,.inl hw⟩
 | i+1,h=>by
  obtain ⟨e,m⟩:=AhS hw i (fun k hk=>h k (by omega))
  have ho:=h i (by omega)
  rcases m with m | m
  .rw [EF,e,Ahe ht E hF hF' up m,<- EF]
   refine ⟨rfl,?_⟩
   rw [EF]
   rcases Yt ht hF m with c | c
   .exact .inr c
   .exact .inl c.1
  .rw [e,m] at ho;cases ho
theorem Aaq {w:Int} {a:Nat} (hw:w∈s.has) (h:Bc (B3 t s'.has s'.jf w) (a:Int)=true):Bc (B3 t s.has s.jf w) (a:Int)=true:=by
 rw [AC] at h ⊢
 obtain ⟨j,_,h2,h3⟩:=(GW _ _ _ _ _ _).1 h
 have hin:∀ i,i<=j->EF t s'.has s'.jf i w=EF t s.has s.jf i w/\EF t s.has s.jf i w∈s.has:=fun i hi=>by
  obtain ⟨e,m⟩:=AhS ht E hF hF' up new hno fr onN hw i (fun k hk=>h2 k (by omega))
  rcases m with m | m
  .exact ⟨e,m⟩
  .have:=h2 i hi
   rw [e,m] at this;cases this
 obtain ⟨k,k1,k2,k3⟩:=Aa4 t s.has s.jf w j j (Nat.le_refl _) (fun i hi=>(hin i hi).2)
 refine (GW _ _ _ _ _ _).2 ⟨k,by omega,fun i hi=>by rw [<- (hin i (by omega)).1];exact h2 i (by omega),?_⟩
 rw [k3]
 rw [(hin j (Nat.le_refl _)).1] at h3
 exact AlB ht E hF hF' up new hno fr onN (hin j (Nat.le_refl _)).2 h3
theorem Aap {a b:Nat} (h:Ks t s'.has s'.jf a b=true):(a:Int)∈s.has/\((b:Int)=n\/Ks t s.has s.jf a b=true):=by
 simp only [Ks,or_eq_true,and_eq_true,A9] at h ⊢
 rcases h with ⟨⟨ha,hb⟩,hbf⟩ | h
 .have ha':(a:Int)∈s.has:=by
   rcases new _ ha with e | e
   .rcases new _ hb with e2 | e2
    .have:=EO ht hbf;omega
    .have:=fr b e2
     rw [<- e,hbf] at this;cases this
   .exact e
  refine ⟨ha',?_⟩
  rcases new _ hb with e | e
  .exact .inl e
  .exact .inr (.inl ⟨⟨ha',e⟩,hbf⟩)
 .simp only [swB,List.any_eq_true,and_eq_true] at h ⊢
  obtain ⟨r,hr,⟨hs,hh⟩,he⟩:=h
  have hk:(t.at r.toNat).kind=2:=by simp only [Jw,and_eq_true,decide_eq_true_eq] at hs;exact hs.1
  obtain ⟨hb,hbe⟩:=AbD hr he
  rcases new _ hr with rfl | hr'
  .rw [toNat_natCast] at hk
   have hh:=Aaq ht E hF hF' up new hno fr onN (onN hk) hh
   obtain ⟨_,_,ha,_⟩:=YE ht hF (onN hk) hh
   refine ⟨ha,.inl ?_⟩
   rcases hbe with e | e
   .exact e
   .rcases new _ hb with c | c
    .exact c
    .have:=fr b c
     rw [e.2] at this;cases this
  .have hw:=(hF.read r hr' hk).1
   rw [E.on r hr'] at hh
   have hh:=Aaq ht E hF hF' up new hno fr onN hw hh
   obtain ⟨_,_,ha,_⟩:=YE ht hF hw hh
   refine ⟨ha,?_⟩
   rcases new _ hb with c | c
   .exact .inl c
   .refine .inr (.inr ⟨r,hr',⟨?_,hh⟩,?_⟩)
    .unfold Jw at hs ⊢;rw [E.on r hr'] at hs;exact hs
    .simp only [G3,or_eq_true,and_eq_true,A9] at he ⊢
     rcases he with he | he
     .exact .inl he
     .exact .inr ⟨⟨⟨c,he.1.1.2⟩,he.1.2⟩,he.2⟩
theorem AdE {a b:Nat} (h:HN (Ks t s'.has s'.jf) t.nodes.length a b):(a:Int)∈s.has/\((b:Int)=n\/HN (Ks t s.has s.jf) t.nodes.length a b):=by
 induction h with
 | one hb h =>
  obtain ⟨h1,h2⟩:=Aap ht E hF hF' up new hno fr onN h
  refine ⟨h1,?_⟩
  rcases h2 with h2 | h2
  .exact .inl h2
  .exact .inr (.one hb h2)
 | more h1 hc h ih =>
  obtain ⟨k1,k2⟩:=Aap ht E hF hF' up new hno fr onN h
  refine ⟨ih.1,?_⟩
  rcases ih.2 with c | c
  .rw [c] at k1;exact absurd k1 hno
  .rcases k2 with k2 | k2
   .exact .inl k2
   .exact .inr (.more c hc k2)
theorem AgP (hf':Bd t s' = true) (h:DM t s=true) (hp:∀ a:Nat,(a:Int)∈s.has->Gm t s' a n=true):DM t s' = true:=by
 have h64:=ht.n64
 rw [DM,and_eq_true] at h
 obtain ⟨hf,hq⟩:=h
 have hlen:s.has.length=s.jf.length:=hF.len
 have hlen':s'.has.length=s'.jf.length:=hF'.len
 rw [DM,hf',Bool.true_and,List.all_eq_true]
 intro x hx
 obtain ⟨a,b,ha,rfl,hpt⟩:=(EU h64 _ _).1 hx
 obtain ⟨ma,hb⟩:=AdE ht E hF hF' up new hno fr onN hpt
 rcases hb with hb | hb
 .show Gm t s' a b=true
  rw [hb];exact hp a ma
 .have mb:=(A1I ht hF hb).2
  have hk:=List.all_eq_true.1 hq _ ((EU h64 _ _).2 ⟨a,b,ha,rfl,hb⟩)
  have src:∀ n:Nat,(n:Int)∈s.has->(if (t.at n).kind=2 then Qz s' n else (n:Int))=(if (t.at n).kind=2 then Qz s n else (n:Int))/\((if (t.at n).kind=2 then Qz s n else (n:Int))∈s.has):=by
   intro n hn
   by_cases c:(t.at n).kind=2
   .rw [if_pos c,if_pos c,GH hlen,GH hlen',E.on _ hn]
    exact ⟨rfl,(hF.read _ hn c).1⟩
   .rw [if_neg c,if_neg c];exact ⟨rfl,hn⟩
  obtain ⟨ea,sa⟩:=src a ma
  obtain ⟨eb,sb⟩:=src b mb
  simp only [Gm,plN,toNat_natCast] at hk ⊢
  rw [ea,eb]
  simp only [Dg,or_eq_true] at hk ⊢
  rcases hk with hk | hk
  .exact .inl hk
  .by_cases cl:(t.at a).loc=(t.at b).loc
   .refine .inr ?_
    rw [cl] at hk ⊢
    have p1:=E.place (t.at b).loc _ _ sa sb
    have p2:=E.place (t.at b).loc _ _ sb sa
    by_cases c:(t.at b).kind=2
    .rw [if_pos c] at hk ⊢
     have:=of_decide_eq_true hk
     exact decide_eq_true (by omega)
    .rw [if_neg c] at hk ⊢
     have:=of_decide_eq_true hk
     exact decide_eq_true (by omega)
   .exact .inl (.inr (by rw [decide_eq_false cl];rfl))
end
theorem Ad7 {α:Type} (p:α->Bool) (l:List α):Dx p l < l.length:=by
 cases h:l.any p with
 | false=>rw [Zj h];omega
 | true =>
  obtain ⟨k,e,hk,_⟩:=Kw h
  rw [e];omega
def Ep (s:A6) (loc:Nat):Int:=((s.mo.getD loc []).getD ((s.mo.getD loc []).length - 1) []).getD 0 0
structure WI (t:A1) (s:A6) (mem:List Int) (k:Nat):Prop where
 gr:Gr t s k
 kl:k<=s.has.length
 form:AG t s
 coh:DM t s=true
 one:∀ loc,loc < s.mo.length->∀ c∈s.mo.getD loc [],∃ w:Nat,c=[(w:Int)]/\(w:Int)∈s.has/\(t.at w).kind=3/\(t.at w).loc=loc
 ml:mem.length=t.locs.length
 mem:∀ loc,loc < t.locs.length->mem.getD loc 0=(t.at (Ep s loc).toNat).val
theorem AG.len {t:A1} {s:A6} (h:AG t s):s.has.length<=t.nodes.length:=by
 have hd:s.has.Nodup:=h.ris.imp fun h=>by omega
 have:=KA s.has ((List.range t.nodes.length).map fun (i:Nat)=>(i:Int)) hd (fun x hx=>by
  obtain ⟨m,rfl,hm⟩:=A8 (h.node x hx)
  exact List.mem_map.2 ⟨m,List.mem_range.2 hm,rfl⟩)
 simpa using this
theorem WI.k64 {t:A1} (ht:A5 t) {s:A6} {mem:List Int} {k:Nat} (W:WI t s mem k):k<=64:=by
 have h1:=W.form.len
 have h2:=ht.n64
 have h3:=W.kl
 omega
theorem WI.pos {t:A1} {s:A6} {mem:List Int} {k:Nat} (W:WI t s mem k) {loc:Nat} (hl:loc < s.mo.length):0 < (s.mo.getD loc []).length:=by
 have:=(W.gr.big.mi _ (Ai (d:=[]) hl)).1
 exact List.length_pos_iff.2 this
theorem WI.last {t:A1} {s:A6} {mem:List Int} {k:Nat} (W:WI t s mem k) {loc:Nat} (hl:loc < s.mo.length) :
  ∃ w:Nat,Ep s loc=w/\(w:Int)∈s.has/\(t.at w).kind=3/\(t.at w).loc=loc/\Be s loc w=((s.mo.getD loc []).length - 1:Nat):=by
 have hp:=W.pos hl
 have hlt:(s.mo.getD loc []).length - 1 < (s.mo.getD loc []).length:=by omega
 obtain ⟨w,e,h1,h2,h3⟩:=W.one loc hl _ (Ai (d:=[]) hlt)
 refine ⟨w,by rw [Ep,e];rfl,h1,h2,h3,?_⟩
 rw [Be,if_neg (by omega),toNat_natCast]
 have ho:=W.form.once _ h1 (by rw [toNat_natCast];exact h2)
 rw [toNat_natCast,h3,toNat_natCast] at ho
 have e2:(s.mo.getD loc [])[(s.mo.getD loc []).length - 1]=[(w:Int)]:=by
  rw [<- e,getD_eq_getElem?_getD (l:=s.mo.getD loc []),List.getElem?_eq_getElem hlt];rfl
 refine DA hlt (by rw [e2];simp [AU]) (fun j hj=>?_)
 rw [eq_false_iff]
 intro hc
 obtain ⟨L,hL⟩:∃ L,L=s.mo.getD loc []:=⟨_,rfl⟩
 rw [<- hL] at ho hj hlt hp
 simp only [<- hL] at e2 hc
 have hsp:L=L.take (j+1)++L.drop (j+1):=(List.take_append_drop _ _).symm
 rw [hsp,filter_append,length_append] at ho
 have p1:0 < ((L.take (j+1)).filter fun c=>AU c (w:Int)).length:=by
  refine List.length_pos_of_mem (a:=L[j]) (List.mem_filter.2 ⟨?_,hc⟩)
  rw [List.mem_take_iff_getElem]
  exact ⟨j,by omega,rfl⟩
 have p2:0 < ((L.drop (j+1)).filter fun c=>AU c (w:Int)).length:=by
  refine List.length_pos_of_mem (a:=L[L.length - 1]) (List.mem_filter.2 ⟨?_,by rw [e2];simp [AU]⟩)
  rw [List.mem_drop_iff_getElem]
  exact ⟨L.length - 1 - (j+1),by omega,by congr 1;omega⟩
 omega
section
variable {t:A1} (ht:A5 t) {s:A6} {mem:List Int} {k:Nat} (W:WI t s mem k) {n:Nat} (hn:n < t.nodes.length) (hno:(n:Int)∉s.has) (hup:(t.at n).up∈s.has) (fr:∀ b:Nat,(b:Int)∈s.has->Ap t n b=false)
include ht W hn hno hup
theorem YS {kind w:Int} (hk:(t.at n).kind=kind):D6 t s n kind w=some (B6 s n w):=by
 have h1:Cy t s n kind=true:=by
  simp only [Cy,AE.2 W.form,BM hn,toNat_natCast,hk,A9.2 hup,Bool.eq_false_iff.2 (fun c=>hno (A9.1 c))]
  simp
 rw [D6,if_pos h1]
include fr
theorem AcG {s':A6} {w:Int} (E:Ext t s s') (hf':AG t s') (e1:s'.has=Bg s.has (Br s.has n) n) (e2:s'.jf=Bg s.jf (Br s.has n) w) (hw:(t.at n).kind=2->w∈s.has)
  (hp:(t.at n).kind=2\/(t.at n).kind=3->∀ v,v∈s.has->if (t.at n).kind=2 then Be s' (t.at n).loc v<=Be s' (t.at n).loc w else Be s' (t.at n).loc v < Be s' (t.at n).loc n):DM t s' = true:=by
 have hF:=AY (AJ (AE.2 W.form))
 have hF':=AY (AJ (AE.2 hf'))
 have hk:=Dq s.has n
 have hon:Ey s'.has s'.jf n=w:=by
  have:=hF'.at_ (Br s.has n) (by rw [e1,D1 hk];omega)
  rw [e1,e2,YB hk,YB (by rw [W.form.jl];exact hk)] at this
  rw [e1,e2];exact this
 refine AgP ht E hF hF' W.form.up (fun x hx=>by rw [e1] at hx;exact BX.1 hx) hno fr (fun c=>by rw [hon];exact hw c) (AE.2 hf') W.coh (fun a ha=>?_)
 have sa:(if (t.at a).kind=2 then Qz s' a else (a:Int))∈s.has:=by
  by_cases c:(t.at a).kind=2
  .rw [if_pos c,GH hF'.len,E.on _ ha];exact (hF.read _ ha c).1
  .rw [if_neg c];exact ha
 have e0:Gm t s' a n=Dg (t.at a) (t.at n) (plN t s' a) (plN t s' n):=by rw [Gm,toNat_natCast,toNat_natCast]
 have ea:plN t s' a=Be s' (t.at a).loc (if (t.at a).kind=2 then Qz s' a else (a:Int)):=by rw [plN,toNat_natCast]
 have eb:plN t s' n=Be s' (t.at n).loc (if (t.at n).kind=2 then Qz s' n else (n:Int)):=by rw [plN,toNat_natCast]
 rw [e0,ea,eb]
 by_cases c:(t.at n).kind=2\/(t.at n).kind=3
 .by_cases cl:(t.at a).loc=(t.at n).loc
  .have:=hp c _ sa
   rw [cl]
   simp only [Dg,or_eq_true]
   refine .inr ?_
   by_cases c2:(t.at n).kind=2
   .rw [if_pos c2] at this
    rw [if_pos c2,if_pos c2,show Qz s' n=w from by rw [GH hF'.len];exact hon]
    exact decide_eq_true this
   .rw [if_neg c2] at this
    rw [if_neg c2,if_neg c2]
    exact decide_eq_true this
  .simp only [Dg,or_eq_true]
   exact .inl (.inr (by rw [decide_eq_false cl];rfl))
 .simp only [Dg,or_eq_true]
  refine .inl (.inl (.inr ?_))
  rw [decide_eq_false (fun h=>c (.inl h)),decide_eq_false (fun h=>c (.inr h))];rfl
theorem ApH (hk:(t.at n).kind=4):WI t (B6 s n (-1)) mem (k+1):=by
 have hm:=YS ht W hn hno hup (w:=-1) hk
 have hki:=Dq s.has n
 have hf:AG t (B6 s n (-1)):=Se W.form (BM hn) hno (by rw [toNat_natCast];exact hup) (by simp [okJ,hk]) (by rw [toNat_natCast];omega)
 exact ⟨NC W.gr hm,by show k+1<=(Bg _ _ _).length;rw [D1 hki];have:=W.kl;omega,hf,
  AcG ht W hn hno hup fr (Gi hm).1 hf rfl rfl (fun c=>by omega) (fun c=>by omega),fun loc hl c hc=>by
   obtain ⟨w,a,b,d⟩:=W.one loc hl c hc
   exact ⟨w,a,(Gi hm).1.has _ b,d⟩,W.ml,W.mem⟩
theorem Am8 {loc:Nat} (hk:(t.at n).kind=2) (hloc:(t.at n).loc=loc) (hv:(t.at n).val=mem.getD loc 0):JZ t s n (Ep s loc)=some (B6 s n (Ep s loc))/\WI t (B6 s n (Ep s loc)) mem (k+1):=by
 have hm:=YS ht W hn hno hup (w:=Ep s loc) hk
 have hki:=Dq s.has n
 have hl:loc < s.mo.length:=by
  have:=(ht.wloc hn (.inl hk)).2
  have:=W.form.ml
  omega
 obtain ⟨w,e,w1,w2,w3,w4⟩:=W.last hl
 have hj:okJ t s.has n (Ep s loc)=true:=by
  have hmem:=W.mem loc (by have:=W.form.ml;omega)
  rw [e,toNat_natCast] at hmem
  simp only [okJ,toNat_natCast,hk,if_true,e,HT,w2,w3,hloc,A9.2 w1,hv,hmem,decide_true,Bool.and_self]
 have hf:AG t (B6 s n (Ep s loc)):=Se W.form (BM hn) hno (by rw [toNat_natCast];exact hup) hj (by rw [toNat_natCast];omega)
 have hrd:JZ t s n (Ep s loc)=some (B6 s n (Ep s loc)):=by
  rw [JZ,hm]
  simp only [AE.2 hf,if_true]
 refine ⟨hrd,NC W.gr hm,by show k+1<=(Bg _ _ _).length;rw [D1 hki];have:=W.kl;omega,hf,
  AcG ht W hn hno hup fr (Gi hm).1 hf rfl rfl (fun c=>by rw [e];exact w1) (fun c v hv=>?_),fun loc hl c hc=>?_,W.ml,W.mem⟩
 .rw [if_pos hk,hloc,e]
  show Be s loc v<=Be s loc w
  rw [w4]
  rw [Be,if_neg (by omega),toNat_natCast]
  have:=Ad7 (fun c=>AU c v) (s.mo.getD loc [])
  have:=W.pos hl
  omega
 .obtain ⟨w,a,b,d⟩:=W.one loc hl c hc
  exact ⟨w,a,(Gi hm).1.has _ b,d⟩
theorem AiV {loc:Nat} (hk:(t.at n).kind=3) (hth:0<=(t.at n).thread) (hloc:(t.at n).loc=loc) :
  ∃ s',EM t s n ((s.mo.getD loc []).length:Nat)=some s'/\WI t s' (mem.set loc (t.at n).val) (k+1)/\∀ x,x∈s'.has↔x=(n:Int)\/x∈s.has:=by
 have hm:=YS ht W hn hno hup (w:=-1) hk
 have hki:=Dq s.has n
 have hl:loc < s.mo.length:=by
  have:=(ht.wloc hn (.inr hk)).2
  have:=W.form.ml
  omega
 have hp:=W.pos hl
 have hin:∀ c∈s.mo.getD loc [],∀ x∈c,x∈s.has:=fun c hc x hx=>by
  obtain ⟨w,e,h1,_⟩:=W.one loc hl c hc
  rw [e] at hx
  rw [List.mem_singleton.1 hx];exact h1
 have hf:=AbK W.form (BM hn) hno (by rw [toNat_natCast];exact hup) (by rw [toNat_natCast];exact hk) (by rw [toNat_natCast];exact hth) (by rw [toNat_natCast];exact hloc) hl hin
 have hwr:EM t s n ((s.mo.getD loc []).length:Nat)=some { B6 s n (-1) with mo:=s.mo.set loc (s.mo.getD loc []++[[(n:Int)]]) }:=by
  rw [EM,hm]
  simp only [toNat_natCast,hloc]
  rw [if_neg (by show ¬ ((((s.mo.getD loc []).length:Nat):Int) < 1\/(((s.mo.getD loc []).length:Nat):Int) < _);omega)]
  show some ({ B6 s n (-1) with mo:=s.mo.set loc ((s.mo.getD loc []).take _++[(n:Int)]::(s.mo.getD loc []).drop _) }:A6)=_
  rw [List.take_length,List.drop_length]
 have hself:(s.mo.set loc (s.mo.getD loc []++[[(n:Int)]])).getD loc []=s.mo.getD loc []++[[(n:Int)]]:=by rw [getD_eq_getElem?_getD (l:=s.mo.set _ _),getElem?_set,if_pos rfl,if_pos hl];rfl
 have hoth:∀ k,k≠loc->(s.mo.set loc (s.mo.getD loc []++[[(n:Int)]])).getD k []=s.mo.getD k []:=fun k hk=>by rw [getD_eq_getElem?_getD (l:=s.mo.set _ _),getElem?_set,if_neg (Ne.symm hk),<- getD_eq_getElem?_getD]
 obtain ⟨E,_⟩:=NL hwr
 refine ⟨_,hwr,⟨A2q W.gr hwr,by show k+1<=(Bg _ _ _).length;rw [D1 hki];have:=W.kl;omega,hf,AcG ht W hn hno hup fr E hf rfl rfl (fun c=>by omega) (fun c v hv=>?_),?_,?_,?_⟩,fun x=>BX⟩
 .rw [if_neg (by omega),hloc]
  have hb:¬ ((loc:Int) < 0\/((s.mo.set loc (s.mo.getD loc []++[[(n:Int)]])).length:Int)<=loc):=by rw [length_set];omega
  simp only [Be,if_neg hb,toNat_natCast,hself]
  have e1:Dx (fun c=>AU c (n:Int)) (s.mo.getD loc []++[[(n:Int)]])=((s.mo.getD loc []).length:Nat):=by
   refine DA (by simp) (by simp [AU]) (fun j hj=>?_)
   rw [List.getElem_append_left hj,eq_false_iff]
   intro c
   exact hno (hin _ (getElem_mem hj) _ (A9.1 c))
  have e2:AU [(n:Int)] v=false:=Bool.eq_false_iff.2 fun c=>hno (by rw [<- List.mem_singleton.1 (A9.1 c)];exact hv)
  have e3:=QU (p:=fun c=>AU c v) (y:=[(n:Int)]) e2 (s.mo.getD loc []) _ (Nat.le_refl _)
  rw [List.take_length,List.drop_length] at e3
  have:=Ad7 (fun c=>AU c v) (s.mo.getD loc [])
  rw [if_pos this] at e3
  rw [e1,e3];exact this
 .intro l hl0 c hc
  have hl':l < s.mo.length:=by have h:l < (s.mo.set loc (s.mo.getD loc []++[[(n:Int)]])).length:=hl0;rwa [length_set] at h
  by_cases cl:l=loc
  .subst cl
   rw [hself,mem_append] at hc
   rcases hc with hc | hc
   .obtain ⟨w,a,b,d⟩:=W.one l hl' c hc
    exact ⟨w,a,E.has _ b,d⟩
   .rw [List.mem_singleton] at hc
    exact ⟨n,hc,BX.2 (.inl rfl),hk,hloc⟩
  .rw [hoth l cl] at hc
   obtain ⟨w,a,b,d⟩:=W.one l hl' c hc
   exact ⟨w,a,E.has _ b,d⟩
 .rw [length_set];exact W.ml
 .intro l hl'
  have hl'':l < mem.length:=by rw [W.ml];exact hl'
  by_cases cl:l=loc
  .subst cl
   have e1:Ep { B6 s n (-1) with mo:=s.mo.set l (s.mo.getD l []++[[(n:Int)]]) } l=n:=by
    simp only [Ep,hself]
    rw [length_append,List.length_singleton,Nat.add_sub_cancel,getD_eq_getElem?_getD (l:=s.mo.getD l []++_),List.getElem?_append_right (Nat.le_refl _),Nat.sub_self]
    rfl
   rw [e1,toNat_natCast,getD_eq_getElem?_getD,getElem?_set,if_pos rfl,if_pos hl''];rfl
  .have e1:Ep { B6 s n (-1) with mo:=s.mo.set loc (s.mo.getD loc []++[[(n:Int)]]) } l=Ep s l:=by
    simp only [Ep,hoth l cl]
   rw [e1,getD_eq_getElem?_getD,getElem?_set,if_neg (Ne.symm cl),<- getD_eq_getElem?_getD]
   exact W.mem l hl'
end
theorem GL.moreN {t:A1}:∀ {n u e:Nat},GL t n u e->u < e/\∀ m,u < m->m < e->0<=(t.at m).up/\((t.at m).rmw=true->(t.at m).kind=3):=by
 intro n
 induction n with
 | zero=>intro u e h;exact absurd h (by simp [GL])
 | succ n ih =>
  intro u e h
  obtain ⟨⟨_,ht,_⟩,h⟩:=h
  rcases h with ⟨_,_,rfl⟩ | ⟨c,_,_,al,hb⟩ | ⟨c,_,_,vals,k,loc,mode,_,hv0,hk0,hke,hloc,hs,_⟩
  .exact ⟨by omega,fun m h1 h2=>by omega⟩
  .have:=(ih hb).1
   refine ⟨by omega,fun m h1 h2=>?_⟩
   by_cases e1:m=u+1
   .subst e1
    refine ⟨by rw [(DU c).1];omega,fun hr=>?_⟩
    simp only [Do,or_eq_true,and_eq_true,decide_eq_true_eq,not_eq_true'] at al
    rcases al with h | h
    .rw [h.1.1.2] at hr;cases hr
    .exact h.1.1.1
   .exact (ih hb).2 m (by omega) h2
  .have mono:∀ v,v<=vals->k 0<=k v:=by
    intro v
    induction v with
    | zero=>intro _;omega
    | succ v iv=>intro hv;have:=iv (by omega);have:=(ih (hs v (by omega)).2.2).1;omega
   refine ⟨by have:=mono vals (by omega);omega,fun m h1 h2=>?_⟩
   obtain ⟨v,hv,a,b⟩:=Cx (k:=k) (m:=m) vals (by omega) (by omega)
   obtain ⟨s1,s2,s3⟩:=hs v hv
   by_cases e1:m=k v
   .subst e1
    simp only [EJ,and_eq_true,decide_eq_true_eq,not_eq_true'] at s2
    exact ⟨by rw [(DU s1).1];omega,fun hr=>by rw [s2.2] at hr;cases hr⟩
   .exact (ih s3).2 m (by omega) b
theorem A5.kinds {t:A1} (h:A5 t):∃ s:Nat->Nat,(∀ v,v < t.regs.length->s v < t.nodes.length/\t.locs.length<=s v/\(t.at (s v)).thread=v/\(t.at (s v)).up = -1/\(t.at (s v)).kind=1)/\(∀ m,m < t.nodes.length->m < t.locs.length\/(∃ v,v < t.regs.length/\m=s v)\/(0<=(t.at m).up/\((t.at m).rmw=true->(t.at m).kind=3))):=by
 obtain ⟨s,h0,he,hs⟩:=h.thr
 have mono:∀ d v,v+d<=t.regs.length->s v+d<=s (v+d):=by
  intro d
  induction d with
  | zero=>intro v _;simp
  | succ d ih =>
   intro v hv
   have:=ih v (by omega)
   obtain ⟨_,n,hn⟩:=hs (v+d) (by omega)
   have:=hn.moreN.1
   rw [Nat.add_assoc] at this
   omega
 refine ⟨s,fun v hv=>?_,fun m hm=>?_⟩
 .obtain ⟨hb,n,hn⟩:=hs v hv
  simp only [Eu,and_eq_true,decide_eq_true_eq] at hb
  have a:=mono v 0 (by omega)
  have b:=mono (t.regs.length - v) v (by omega)
  rw [show v+(t.regs.length - v)=t.regs.length by omega] at b
  rw [Nat.zero_add] at a
  exact ⟨by omega,by omega,hb.1.1.1.1.1.1,hb.1.1.1.1.1.2,hb.1.1.1.1.2⟩
 .by_cases c:m < t.locs.length
  .exact .inl c
  .obtain ⟨v,hv,a,b⟩:=Cx (k:=s) (m:=m) t.regs.length (by omega) (by omega)
   obtain ⟨hb,n,hn⟩:=hs v hv
   by_cases e1:m=s v
   .exact .inr (.inl ⟨v,hv,e1⟩)
   .exact .inr (.inr (hn.moreN.2 m (by omega) b))
theorem A5.top {t:A1} (h:A5 t) {m:Nat} (hm:m < t.nodes.length) (h0:0<=(t.at m).thread) (hu:(t.at m).up < 0):(t.at m).kind=1:=by
 obtain ⟨s,h1,h2⟩:=h.kinds
 rcases h2 m hm with c | ⟨v,hv,rfl⟩ | c
 .have:=(h.init m c).thr;omega
 .exact (h1 v hv).2.2.2.2
 .omega
theorem A5.tops {t:A1} (h:A5 t) {m k:Nat} (hm:m < t.nodes.length) (hk:k < t.nodes.length) (h0:0<=(t.at m).thread) (hu:(t.at m).up < 0) (huk:(t.at k).up < 0) (e:(t.at k).thread=(t.at m).thread):k=m:=by
 obtain ⟨s,h1,h2⟩:=h.kinds
 rcases h2 m hm with c | ⟨v,hv,rfl⟩ | c
 .have:=(h.init m c).thr;omega
 .rcases h2 k hk with c | ⟨w,hw,rfl⟩ | c
  .have:=(h.init k c).thr;omega
  .have a:=(h1 v hv).2.2.1
   have b:=(h1 w hw).2.2.1
   have:w=v:=by omega
   rw [this]
  .omega
 .omega
theorem A5.rmw3 {t:A1} (h:A5 t) {m:Nat} (hm:m < t.nodes.length) (h0:0<=(t.at m).up) (hr:(t.at m).rmw=true):(t.at m).kind=3:=by
 obtain ⟨s,h1,h2⟩:=h.kinds
 rcases h2 m hm with c | ⟨v,hv,rfl⟩ | c
 .exact (h.init m c).kind
 .have:=(h1 v hv).2.2.2.1;omega
 .exact c.2 hr
def at0 (t:A1) (k:Nat):List Nat:=(List.range k).filter fun i=>!decide ((t.at i).thread < 0) && decide ((t.at i).up < 0)
def Q2 (t:A1) (k:Nat):List Int:=((List.range k).filter fun i=>decide ((t.at i).thread < 0)).map fun i=>(t.at i).val
theorem Adx {t:A1} (h:A5 t):Q2 t t.nodes.length=(List.range t.locs.length).map fun i=>(t.at i).val:=by
 have hl:=h.first.1
 have e:t.nodes.length=t.locs.length+(t.nodes.length - t.locs.length):=by omega
 unfold Q2
 congr 1
 rw [e,List.range_add,filter_append,List.filter_eq_self.2,List.filter_eq_nil_iff.2,List.append_nil]
 .intro a ha
  obtain ⟨i,hi,rfl⟩:=List.mem_map.1 ha
  have hi:=List.mem_range.1 hi
  have:=(h.thr_iff (m:=t.locs.length+i) (by omega)).1
  simp only [decide_eq_true_eq]
  omega
 .intro a ha
  have ha:=List.mem_range.1 ha
  exact decide_eq_true ((h.thr_iff (m:=a) (by omega)).2 ha)
theorem H7 {t:A1} {x:Int}:x∈(Bu t).has↔∃ m:Nat,x=m/\m < t.nodes.length/\(t.at m).up < 0:=by
 simp only [Bu,EX,List.mem_map,mem_filter,mem_range,decide_eq_true_eq]
 constructor
 .rintro ⟨i,⟨h1,h2⟩,rfl⟩;exact ⟨i,rfl,h1,h2⟩
 .rintro ⟨i,rfl,h1,h2⟩;exact ⟨i,⟨h1,h2⟩,rfl⟩
theorem Rs {t:A1} (h:A5 t) {m:Nat} (hm:m < t.nodes.length) (hu:(t.at m).up < 0):(m < t.locs.length/\(t.at m).kind=3)\/(t.locs.length<=m/\(t.at m).kind=1):=by
 by_cases c:m < t.locs.length
 .exact .inl ⟨c,(h.init m c).kind⟩
 .refine .inr ⟨by omega,h.top hm ?_ hu⟩
  have:=(h.thr_iff hm).1
  omega
theorem AdW {t:A1} {loc:Nat} (h:loc < t.locs.length):(Bu t).mo.getD loc []=[[(loc:Int)]]:=by
 simp [Bu,h]
theorem Ly {t:A1} (h:A5 t):AG t (Bu t):=by
 refine ⟨fun n hn=>?_,fun n hn=>?_,?_,?_,?_,fun i hi=>?_,by simp [Bu],fun loc hl=>?_,fun n hn kn=>?_⟩
 .obtain ⟨m,rfl,hm,_⟩:=H7.1 hn;exact BM hm
 .obtain ⟨m,rfl,hm,hu⟩:=H7.1 hn;exact .inl hu
 .simp only [Bu,EX,List.pairwise_map]
  exact (List.pairwise_lt_range.filter _).imp fun h=>by omega
 .apply BitVec.eq_of_getLsbD_eq
  intro i hi
  rw [BitVec.getLsbD_or,Gc,Au]
  cases hc:(Cc (Bu t).has).getLsbD i with
  | true=>simp
  | false =>
   rw [Bool.or_false,eq_false_iff]
   intro hx
   simp only [and_eq_true,decide_eq_true_eq] at hx
   have:=Lo (Bu t).has (x:=(i:Int)) (by omega) (by omega)
   rw [AC,hc,A9.2 (H7.2 ⟨i,rfl,hx.1.1,hx.1.2⟩)] at this;cases this
 .simp [Bu]
 .have hm:=Ai (d:=0) hi
  obtain ⟨m,e,hm,hu⟩:=H7.1 hm
  have hj:(Bu t).jf.getD i 0 = -1:=by
   have hi':i < (EX t t.nodes.length).length:=hi
   simp [Bu,hi']
  rw [e,hj]
  rcases Rs h hm hu with c | c<;>simp [okJ,c.2]
 .have hl':loc < t.locs.length:=by simpa [Bu] using hl
  simp only [Eh,AdW hl',and_eq_true,Ah]
  refine ⟨⟨rfl,by simp⟩,fun i hi=>?_⟩
  have:i=0:=by simp at hi;omega
  simp [this]
 .obtain ⟨m,rfl,hm,hu⟩:=H7.1 hn
  rw [toNat_natCast] at kn ⊢
  rcases Rs h hm hu with c | c
  .rw [(h.init m c.1).loc,toNat_natCast,AdW c.1];simp [AU]
  .omega
theorem AlP {t:A1} {loc:Nat} (hl:loc < t.locs.length):Ep (Bu t) loc=loc:=by
 rw [Ep,AdW hl];rfl
theorem Aii {t:A1} (h:A5 t):DM t (Bu t)=true:=by
 rw [DM,AE.2 (Ly h),Bool.true_and,List.all_eq_true]
 intro x hx
 obtain ⟨a,b,ha,rfl,hpt⟩:=(EU h.n64 _ _).1 hx
 have edge:∀ a b:Nat,Ks t (Bu t).has (Bu t).jf a b=true->(t.at b).kind=1:=by
  intro a b hh
  simp only [Ks,or_eq_true,and_eq_true,A9] at hh
  rcases hh with ⟨⟨hA,hB⟩,hbf⟩ | hh
  .obtain ⟨m,e,hm,hu⟩:=H7.1 hB
   have e:b=m:=by omega
   subst e
   rcases Rs h hm hu with c | c
   .exfalso
    have hth:=(h.init b c.1).thr
    simp only [Ap,and_eq_true,toNat_natCast] at hbf
    have hb2:=hbf.2
    split at hb2
    .have:=of_decide_eq_true hb2;omega
    .have hb':=EO h (a:=a) (b:=b) (by simp only [Ap,and_eq_true,toNat_natCast];exact hbf)
     rename_i hn
     have:=(h.thr_iff (m:=a) (by omega)).2 (by omega)
     exact hn this
   .exact c.2
  .exfalso
   simp only [swB,List.any_eq_true,and_eq_true] at hh
   obtain ⟨r,hr,⟨hs,_⟩,_⟩:=hh
   obtain ⟨m,rfl,hm,hu⟩:=H7.1 hr
   simp only [Jw,and_eq_true,decide_eq_true_eq,toNat_natCast] at hs
   rcases Rs h hm hu with c | c<;>omega
 have kb:(t.at b).kind=1:=by
  cases hpt with
  | one _ hh=>exact edge _ _ hh
  | more _ _ hh=>exact edge _ _ hh
 show Gm t (Bu t) a b=true
 simp [Gm,Dg,kb]
theorem Asy {t:A1} (h:A5 t):WI t (Bu t) (Q2 t t.nodes.length) 0:=by
 refine ⟨A29 h,Nat.zero_le _,Ly h,Aii h,fun loc hl c hc=>?_,by rw [Adx h];simp,fun loc hl=>?_⟩
 .have hl':loc < t.locs.length:=by simpa [Bu] using hl
  rw [AdW hl',List.mem_singleton] at hc
  have I:=h.init loc hl'
  exact ⟨loc,hc,H7.2 ⟨loc,rfl,by have:=h.first.1;omega,by rw [I.up];decide⟩,I.kind,I.loc⟩
 .rw [Adx h,AlP hl,toNat_natCast]
  simp [hl]
structure StI (t:A1) (s:A6) (at_:List Nat):Prop where
 has:∀ u∈at_,(u:Int)∈s.has/\0<=(t.at u).thread
 top:∀ u∈at_,∀ x:Nat,(x:Int)∈s.has->(t.at x).thread=(t.at u).thread->x<=u
 pw:at_.Pairwise fun a b=>(t.at a).thread≠(t.at b).thread
 chain:∀ u∈at_,∀ x:Nat,(x:Int)∈s.has->(t.at x).thread=(t.at u).thread->x=u\/Aw t x u=true
 cov:∀ x:Nat,(x:Int)∈s.has->0<=(t.at x).thread->∃ u∈at_,(t.at u).thread=(t.at x).thread
theorem Dd {t:A1} (hu:Kt t) {x n m:Nat} (hn:n < t.nodes.length) (e:(t.at n).up=(m:Int)):Aw t x n=(decide (m=x) || Aw t x m):=by
 unfold Aw
 have:=hu n hn
 rw [Dc hu x (by omega),e,if_neg (by omega),toNat_natCast]
 by_cases c:m=x
 .rw [if_pos (by omega),decide_eq_true c,Bool.true_or]
 .rw [if_neg (by omega),decide_eq_false c,Bool.false_or]
theorem Amy {t:A1} (h:A5 t):StI t (Bu t) (at0 t t.nodes.length):=by
 have key:∀ u∈at0 t t.nodes.length,u < t.nodes.length/\0<=(t.at u).thread/\(t.at u).up < 0:=by
  intro u hu
  simp only [at0,mem_filter,mem_range,and_eq_true,not_eq_true',decide_eq_true_eq,decide_eq_false_iff_not] at hu
  exact ⟨hu.1,by omega,hu.2.2⟩
 refine ⟨fun u hu=>?_,fun u hu x hx e=>?_,?_,fun u hu x hx e=>?_,fun x hx h0=>?_⟩
 .obtain ⟨a,b,c⟩:=key u hu
  exact ⟨H7.2 ⟨u,rfl,a,c⟩,b⟩
 .obtain ⟨a,b,c⟩:=key u hu
  obtain ⟨m,e1,hm,hv⟩:=H7.1 hx
  have e1:x=m:=by omega
  subst e1
  exact Nat.le_of_eq (h.tops a hm b c hv e)
 .have hp:(at0 t t.nodes.length).Pairwise (· < ·):=List.pairwise_lt_range.filter _
  refine (List.Pairwise.and_mem.1 hp).imp ?_
  rintro a b ⟨ha,hb,hlt⟩ e
  obtain ⟨a1,a2,a3⟩:=key a ha
  obtain ⟨b1,b2,b3⟩:=key b hb
  have:=h.tops b1 a1 b2 b3 a3 e
  omega
 .obtain ⟨a,b,c⟩:=key u hu
  obtain ⟨m,e1,hm,hv⟩:=H7.1 hx
  have e1:x=m:=by omega
  subst e1
  exact .inl (h.tops a hm b c hv e)
 .obtain ⟨m,e1,hm,hv⟩:=H7.1 hx
  have e1:x=m:=by omega
  subst e1
  refine ⟨x,?_,rfl⟩
  simp only [at0,mem_filter,mem_range,and_eq_true,not_eq_true',decide_eq_true_eq,decide_eq_false_iff_not]
  exact ⟨hm,by omega,hv⟩
theorem Yw {t:A1} (ht:A5 t) {a:Nat}:∀ (n:Nat) (b:Nat),b < n->b < t.nodes.length->Aw t a b=true->(t.at a).thread=(t.at b).thread:=by
 intro n
 induction n with
 | zero=>intro b h;omega
 | succ n ih =>
  intro b hbn hb h
  have hu:=ht.up
  unfold Aw at h
  have hub:=hu b hb
  rw [Dc hu a (by omega)] at h
  by_cases c1:(t.at b).up < 0
  .rw [if_pos c1] at h;cases h
  .rw [if_neg c1] at h
   have hl:t.locs.length<=b:=by
    rcases Nat.lt_or_ge b t.locs.length with h1 | h1
    .have:=(ht.init b h1).up;omega
    .exact h1
   have hp:=(ht.good b hl hb).par (by omega)
   rw [<- hp]
   by_cases c2:(t.at b).up=a
   .rw [c2,toNat_natCast]
   .rw [if_neg c2] at h
    exact ih (t.at b).up.toNat (by omega) (by omega) h
theorem Za {t:A1} (ht:A5 t) {a b:Nat} (ha:0<=(t.at a).thread) (h:Ap t a b=true):(t.at a).thread=(t.at b).thread:=by
 simp only [Ap,and_eq_true,toNat_natCast] at h
 obtain ⟨⟨h1,h2⟩,h3⟩:=h
 simp only [BP,and_eq_true,decide_eq_true_eq] at h1 h2
 rw [if_neg (by omega)] at h3
 exact Yw ht (b+1) b (by omega) (by omega) h3
def HG (t:A1) (u:Nat):List Nat:=if (t.at u).thread < 0 then [] else (List.range t.nodes.length).filter fun i=>decide ((t.at i).up=u)
def GQ (t:A1) (mem:List Int) (i:Nat):Bool:=!decide ((t.at i).kind=2) || decide ((t.at i).val=mem.getD (t.at i).loc.toNat 0)
def toF (t:A1) (i:Nat):Nat:=if (t.at i).kind=2/\Hl t i=true then i+1 else i
def Ju (t:A1) (mem:List Int) (i:Nat):List Int:=if (t.at i).kind=3 then mem.set (t.at i).loc.toNat (t.at i).val else mem
def EY (t:A1) (u:Nat) (mem:List Int):Option (Nat×List Int):=if (t.at u).fin=true then none else ((HG t u).find? (GQ t mem)).map fun i=>(toF t i,Ju t mem (toF t i))
inductive Wlk (t:A1) (s:A6) (n:Nat) (s':A6):Prop
 | bar:(t.at n).kind=4->D6 t s n 4 (-1)=some s'->Wlk t s n s'
 | read (loc:Nat):(t.at n).kind=2->(t.at n).loc=loc->JZ t s n (Ep s loc)=some s'->Wlk t s n s'
 | write (loc:Nat):(t.at n).kind=3->(t.at n).loc=loc->EM t s n ((s.mo.getD loc []).length:Nat)=some s'->Wlk t s n s'
theorem Ae4 {t:A1} (ht:A5 t) {s:A6} {mem:List Int} {k n:Nat} (W:WI t s mem k) (hn:n < t.nodes.length) (hno:(n:Int)∉s.has) (hup:(t.at n).up∈s.has) (fr:∀ b:Nat,(b:Int)∈s.has->Ap t n b=false)
  (hth:0<=(t.at n).thread) (hu:0<=(t.at n).up) (hv:(t.at n).kind=2->(t.at n).val=mem.getD (t.at n).loc.toNat 0) :
  ∃ s',Wlk t s n s'/\WI t s' (Ju t mem n) (k+1)/\∀ x,x∈s'.has↔x=(n:Int)\/x∈s.has:=by
 rcases ht.kind hn hu with c | c | c
 .have hl:=ht.wloc hn (.inl c)
  obtain ⟨loc,e⟩:=Int.eq_ofNat_of_zero_le hl.1
  have hv:=hv c
  rw [e] at hv
  obtain ⟨a,b⟩:=Am8 ht W hn hno hup fr (loc:=loc) c e hv
  refine ⟨_,.read loc c e a,?_,fun x=>BX⟩
  rw [Ju,if_neg (by omega)];exact b
 .have hl:=ht.wloc hn (.inr c)
  obtain ⟨loc,e⟩:=Int.eq_ofNat_of_zero_le hl.1
  obtain ⟨s',a,b,d⟩:=AiV ht W hn hno hup fr (loc:=loc) c hth e
  refine ⟨s',.write loc c e a,?_,d⟩
  rw [Ju,if_pos c,e];exact b
 .refine ⟨_,.bar c (YS ht W hn hno hup c),?_,fun x=>BX⟩
  rw [Ju,if_neg (by omega)];exact ApH ht W hn hno hup fr c
theorem AlQ {t:A1} (ht:A5 t) {s:A6} {mem:List Int} {k:Nat} (W:WI t s mem k) {at_:List Nat} (S:StI t s at_) {j u to:Nat} {out:List Int} (hj:j < at_.length) (hju:at_[j]=u) (h:EY t u mem=some (to,out)) :
  to < t.nodes.length/\∃ s1 s2 k1 k2,(if (t.at to).up≠(u:Int) then (∃ m:Nat,(t.at to).up=m/\m < t.nodes.length/\Wlk t s m s1) else s1=s)/\WI t s1 mem k1/\Wlk t s1 to s2/\WI t s2 out k2/\k < k2/\StI t s2 (at_.set j to):=by
 unfold EY at h
 split at h
 .cases h
 .obtain ⟨i,hi,e⟩:=Option.map_eq_some_iff.1 h
  simp only [Prod.mk.injEq] at e
  obtain ⟨rfl,rfl⟩:=e
  have hc:=List.find?_some hi
  have hm:=List.mem_of_find?_eq_some hi
  unfold HG at hm
  split at hm
  .cases hm
  .rename_i hth
   simp only [mem_filter,mem_range,decide_eq_true_eq] at hm
   obtain ⟨hin,hiu⟩:=hm
   have huA:u∈at_:=hju ▸ getElem_mem hj
   obtain ⟨hus,hut⟩:=S.has u huA
   have hlt:=ht.up i hin
   have lo:∀ m,m < t.nodes.length->0<=(t.at m).up->t.locs.length<=m:=fun m hm hu=>by
    rcases Nat.lt_or_ge m t.locs.length with h1 | h1
    .have:=(ht.init m h1).up;omega
    .exact h1
   have par:∀ m,m < t.nodes.length->0<=(t.at m).up->(t.at m).thread=(t.at (t.at m).up.toNat).thread:=fun m hm hu=>((ht.good m (lo m hm hu) hm).par hu).symm
   have thi:(t.at i).thread=(t.at u).thread:=by rw [par i hin (by omega),hiu,toNat_natCast]
   have newer:∀ m:Nat,(t.at m).thread=(t.at u).thread->u < m->(m:Int)∉s.has:=fun m e hm hc=>by have:=S.top u huA m hc e;omega
   have hv:(t.at i).kind=2->(t.at i).val=mem.getD (t.at i).loc.toNat 0:=fun c=>by
    simp only [GQ,c,decide_true,Bool.not_true,Bool.false_or,decide_eq_true_eq] at hc
    exact hc
   have fr1:∀ b:Nat,(b:Int)∈s.has->Ap t i b=false:=fun b hb=>by
    rw [eq_false_iff]
    intro hbf
    have h1:=EO ht hbf
    have h2:=Za ht (by omega) hbf
    exact newer b (by omega) (by omega) hb
   obtain ⟨s1,w1,W1,m1⟩:=Ae4 ht W hin (newer i thi (by omega)) (by rw [hiu];exact hus) fr1 (by omega) (by omega) hv
   have fin:∀ {s2:A6} {v:Nat},(∀ x,x∈s2.has->x∈s.has\/x=(i:Int)\/x=(v:Int))->(∀ x,x∈s.has->x∈s2.has)->(v:Int)∈s2.has->i<=v->(t.at v).thread=(t.at u).thread->(v=i\/(v < t.nodes.length/\(t.at v).up=(i:Int)))->StI t s2 (at_.set j v):=by
    intro s2 v h1 h2 h3 h4 h5 h6
    have hbi:∀ x:Nat,(x=u\/Aw t x u=true)->Aw t x i=true:=fun x h=>by
     rw [Dd ht.up hin hiu]
     rcases h with h | h
     .rw [h,decide_eq_true rfl,Bool.true_or]
     .rw [h,Bool.or_true]
    have hbv:∀ x:Nat,Aw t x i=true->x=v\/Aw t x v=true:=fun x h=>by
     rcases h6 with h6 | ⟨h6,h7⟩
     .rw [h6];exact .inr h
     .rw [Dd ht.up h6 h7,h,Bool.or_true];exact .inr rfl
    refine ⟨fun x hx=>?_,fun x hx y hy e=>?_,?_,fun x hx y hy e=>?_,fun x hx h0=>?_⟩
    .rcases List.mem_or_eq_of_mem_set hx with hx | rfl
     .exact ⟨h2 _ (S.has x hx).1,(S.has x hx).2⟩
     .exact ⟨h3,by omega⟩
    .obtain ⟨p,hp,rfl⟩:=getElem_of_mem hx
     rw [length_set] at hp
     rw [getElem_set] at e ⊢
     by_cases c:j=p
     .rw [if_pos c] at e ⊢
      rcases h1 _ hy with a | a | a
      .have:=S.top u huA y a (by omega);omega
      .omega
      .omega
     .rw [if_neg c] at e ⊢
      have hd:(t.at at_[p]).thread≠(t.at u).thread:=by
       have:=List.pairwise_iff_getElem.1 S.pw
       rw [<- hju]
       rcases Nat.lt_or_ge j p with q | q
       .exact fun e=>this j p hj hp q e.symm
       .exact fun e=>this p j hp hj (by omega) e
      rcases h1 _ hy with a | a | a
      .exact S.top _ (getElem_mem hp) y a e
      .have:y=i:=by omega
       subst this;rw [thi] at e;exact absurd e.symm hd
      .have:y=v:=by omega
       subst this;rw [h5] at e;exact absurd e.symm hd
    .rw [List.pairwise_iff_getElem]
     intro a b ha hb hab
     rw [length_set] at ha hb
     have key:=List.pairwise_iff_getElem.1 S.pw a b ha hb hab
     rw [getElem_set,getElem_set]
     by_cases c1:j=a
     .subst c1
      rw [if_pos rfl,if_neg (by omega),h5,<- hju];exact key
     .rw [if_neg c1]
      by_cases c2:j=b
      .subst c2
       rw [if_pos rfl,h5,<- hju];exact key
      .rw [if_neg c2];exact key
    .obtain ⟨p,hp,rfl⟩:=getElem_of_mem hx
     rw [length_set] at hp
     rw [getElem_set] at e ⊢
     by_cases c:j=p
     .rw [if_pos c] at e ⊢
      rcases h1 _ hy with a | a | a
      .exact hbv y (hbi y (S.chain u huA y a (by omega)))
      .have:y=i:=by omega
       subst this
       rcases h6 with h6 | ⟨h6,h7⟩
       .exact .inl h6.symm
       .rw [Dd ht.up h6 h7,decide_eq_true rfl,Bool.true_or];exact .inr rfl
      .exact .inl (by omega)
     .rw [if_neg c] at e ⊢
      have hd:(t.at at_[p]).thread≠(t.at u).thread:=by
       have:=List.pairwise_iff_getElem.1 S.pw
       rw [<- hju]
       rcases Nat.lt_or_ge j p with q | q
       .exact fun e=>this j p hj hp q e.symm
       .exact fun e=>this p j hp hj (by omega) e
      rcases h1 _ hy with a | a | a
      .exact S.chain _ (getElem_mem hp) y a e
      .have:y=i:=by omega
       subst this;rw [thi] at e;exact absurd e.symm hd
      .have:y=v:=by omega
       subst this;rw [h5] at e;exact absurd e.symm hd
    .have hvm:v∈at_.set j v:=List.mem_set hj v
     rcases h1 _ hx with a | a | a
     .obtain ⟨w,hw,hwt⟩:=S.cov x a h0
      obtain ⟨p,hp,rfl⟩:=getElem_of_mem hw
      by_cases c:j=p
      .subst c
       rw [hju] at hwt
       exact ⟨v,hvm,by rw [h5];exact hwt⟩
      .refine ⟨_,getElem_mem (show p < (at_.set j v).length by rw [length_set];exact hp),?_⟩
       rw [getElem_set,if_neg c];exact hwt
     .have:x=i:=by omega
      subst this
      exact ⟨v,hvm,by rw [h5,thi]⟩
     .have:x=v:=by omega
      subst this
      exact ⟨x,hvm,rfl⟩
   by_cases cr:(t.at i).kind=2/\Hl t i=true
   .have e:toF t i=i+1:=by rw [toF,if_pos cr]
    rw [e]
    have hr:=cr.2
    simp only [Hl,and_eq_true,decide_eq_true_eq] at hr
    obtain ⟨⟨r1,r2⟩,r3⟩:=hr
    have th2:(t.at (i+1)).thread=(t.at u).thread:=by rw [par (i+1) r1 (by omega),r2,toNat_natCast,thi]
    have k3:=ht.rmw3 r1 (by omega) r3
    have hno2:((i+1:Nat):Int)∉s1.has:=fun hx=>by
     rcases (m1 _).1 hx with a | a
     .omega
     .exact newer (i+1) th2 (by omega) a
    have fr2:∀ b:Nat,(b:Int)∈s1.has->Ap t (i+1:Nat) b=false:=fun b hb=>by
     rw [eq_false_iff]
     intro hbf
     have h1:=EO ht hbf
     have h2:=Za ht (by omega) hbf
     rcases (m1 _).1 hb with a | a
     .omega
     .exact newer b (by omega) (by omega) a
    obtain ⟨s2,w2,W2,m2⟩:=Ae4 ht W1 r1 hno2 (by rw [r2];exact (m1 _).2 (.inl rfl)) fr2 (by omega) (by omega) (fun c=>by omega)
    have oe:Ju t mem i=mem:=by rw [Ju,if_neg (by omega)]
    rw [oe] at W2
    rw [oe] at W1
    refine ⟨r1,s1,s2,k+1,k+1+1,?_,W1,w2,W2,by omega,fin (fun x hx=>?_) (fun x hx=>(m2 _).2 (.inr ((m1 _).2 (.inr hx)))) ((m2 _).2 (.inl rfl)) (by omega) th2 (.inr ⟨r1,r2⟩)⟩
    .rw [if_pos (by rw [r2];omega)];exact ⟨i,r2,hin,w1⟩
    .rcases (m2 _).1 hx with a | a
     .exact .inr (.inr a)
     .rcases (m1 _).1 a with a | a
      .exact .inr (.inl a)
      .exact .inl a
   .have e:toF t i=i:=by rw [toF,if_neg cr]
    rw [e]
    refine ⟨hin,s,s1,k,k+1,by rw [if_neg (by rw [hiu];simp)],W,w1,W1,by omega,fin (fun x hx=>?_) (fun x hx=>(m1 _).2 (.inr hx)) ((m1 _).2 (.inl rfl)) (Nat.le_refl _) thi (.inl rfl)⟩
    rcases (m1 _).1 hx with a | a
    .exact .inr (.inl a)
    .exact .inl a
end Go.AM
