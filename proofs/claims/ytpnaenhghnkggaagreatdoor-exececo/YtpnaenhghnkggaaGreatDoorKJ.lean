/-
  Own work, part of the proof of these laws: what functions compute.
-/
import Derived.Test.YtpnaenhghnkggaaGreatDoorKI
set_option maxRecDepth 10000
set_option maxHeartbeats 64000000
set_option linter.unusedVariables false
set_option linter.unusedSimpArgs false
set_option linter.unusedSectionVars false
set_option linter.unnecessarySimpa false
open Bool (and_eq_true or_eq_true not_eq_true' eq_false_iff)
open Int (toNat_natCast)
open List (getD_eq_getElem?_getD length_append length_set filter_append mem_append getElem?_set mem_filter mem_range)
namespace Go.AM
open Go Go.Proofs
theorem Mv (s:A8):LM (some s) = .tu [LX s,.b true]:=rfl
theorem M9 {α:Type} (p:α->Bool) (x:α) (l:List α):C7 p (x::l)=if p x=true then 0 else if C7 p l < 0 then -1 else C7 p l+1:=by
 unfold C7
 rw [List.findIdx?_cons]
 cases p x with
 | true=>rfl
 | false =>
  cases l.findIdx? p with
  | none=>rfl
  | some i=>simp;omega
theorem A3F {α:Type} (p:α->Bool) (l:List α) : -1<=C7 p l:=by
 unfold C7
 cases l.findIdx? p with
 | none=>simp
 | some i=>show (-1:Int)<=(i:Int);omega
theorem Lo {α:Type} {p:α->Bool} {y:α} (hy:p y=false):∀ (l:List α) (k:Nat),k<=l.length->C7 p (l.take k++y::l.drop k)=if C7 p l < k then C7 p l else C7 p l+1
 | l,0,_=>by
  have:=A3F p l
  rw [List.take_zero,List.nil_append,List.drop_zero,M9,hy]
  simp only [Bool.false_eq_true,if_false]
  split<;>split<;>omega
 | [],k+1,h=>by simp at h
 | x::l,k+1,h=>by
  have ih:=Lo hy l k (by simpa using h)
  have:=A3F p l
  rw [List.take_succ_cons,List.drop_succ_cons,List.cons_append,M9,M9,ih]
  split
  .rw [if_pos (by omega)]
  .split<;>split<;>split<;>omega
theorem Gg {α:Type} {y d:α}:∀ (l:List α) (k i:Nat),k<=l.length->(l.take k++y::l.drop k).getD (if i < k then i else i+1) d=l.getD i d
 | l,0,i,_=>by simp
 | [],k+1,i,h=>by simp at h
 | x::l,k+1,0,h=>by simp
 | x::l,k+1,i+1,h=>by
  have ih:=Gg (y:=y) (d:=d) l k i (by simpa using h)
  rw [List.take_succ_cons,List.drop_succ_cons,List.cons_append]
  by_cases c:i < k
  .rw [if_pos (by omega)];rw [if_pos c] at ih;simpa using ih
  .rw [if_neg (by omega)];rw [if_neg c] at ih;simpa using ih
theorem Bp {l:List Int} {k:Nat} {x y:Int}:x∈B9 l k y↔x=y\/x∈l:=by
 unfold B9
 have e:x∈l↔x∈l.take k\/x∈l.drop k:=by rw [<- mem_append,List.take_append_drop]
 rw [e,mem_append,List.mem_cons]
 constructor
 .rintro (h | h | h)
  .exact .inr (.inl h)
  .exact .inl h
  .exact .inr (.inr h)
 .rintro (h | h | h)
  .exact .inr (.inl h)
  .exact .inl h
  .exact .inr (.inr h)
theorem Ac6 {l:List Int} {k:Nat} {x y:Int} (h:x≠y):AZ (B9 l k y) x=AZ l x:=by
 cases c:AZ l x with
 | true=>exact A7.2 (Bp.2 (.inr (A7.1 c)))
 | false =>
  rw [eq_false_iff] at c ⊢
  intro h2
  rcases Bp.1 (A7.1 h2) with e | e
  .exact h e
  .exact c (A7.2 e)
theorem Agl {x f:List Int} {k:Nat} {n y w:Int} (hk:k<=x.length) (hf:k<=f.length) (h:n∈x) (hn:n≠y):Cc (B9 x k y) (B9 f k w) n=Cc x f n:=by
 unfold Cc
 rw [Ac6 hn,if_pos (A7.2 h),if_pos (A7.2 h)]
 obtain ⟨i,e,hi,h1,h2⟩:=BV (A7.2 h)
 have e2:BI (B9 x k y) n=if BI x n < k then BI x n else BI x n+1:=Lo (p:=fun z=>decide (n=z)) (decide_eq_false hn) x k hk
 rw [e2,e,toNat_natCast]
 have:=Gg (y:=w) (d:=0) f k i hf
 unfold B9
 rw [<- this]
 congr 1
 by_cases c:i < k
 .rw [if_pos c,if_pos (by omega)];omega
 .rw [if_neg c,if_neg (by omega)];omega
structure Ext (t:A1) (s s':A8):Prop where
 has:∀ n,n∈s.has->n∈s'.has
 on:∀ n,n∈s.has->Cc s'.has s'.jf n=Cc s.has s.jf n
 place:∀ (loc v w:Int),v∈s.has->w∈s.has->(B5 s loc v < B5 s loc w↔B5 s' loc v < B5 s' loc w)
theorem Gk {t:A1} {s s':A8} {n kind w:Int} (e:CL t s n kind w=some s'):Ext t s s'/\BJ t s=true/\n∉s.has:=by
 unfold CL at e
 split at e
 .rename_i h0
  cases e
  have hk:=Du s.has n
  simp only [Cz,and_eq_true,not_eq_true'] at h0
  have hf:=h0.1.1.1.1
  have h1:s.jf.length=s.has.length:=by simp only [BJ,and_eq_true,decide_eq_true_eq] at hf;exact hf.1.1.1.1.2
  have hn:n∉s.has:=fun h=>by rw [A7.2 h] at h0;exact absurd h0.1.2 (by simp)
  exact ⟨⟨fun x hx=>Bp.2 (.inr hx),fun x hx=>Agl hk (by omega) hx (fun c=>hn (c ▸ hx)),fun _ _ _ _ _=>Iff.rfl⟩,hf,hn⟩
 .cases e
theorem Ext.trans {t:A1} {a b c:A8} (h:Ext t a b) (k:Ext t b c):Ext t a c :=
 ⟨fun n hn=>k.has n (h.has n hn),fun n hn=>(k.on n (h.has n hn)).trans (h.on n hn),fun loc v w hv hw=>(h.place loc v w hv hw).trans (k.place loc v w (h.has v hv) (h.has w hw))⟩
theorem A7i {s:A8} {r:Nat} {L:List (List Int)} {g:Int->Int} (hg:∀ a b,a < b↔g a < g b) {ok:Int->Prop} (h:∀ v,ok v->C7 (fun c=>AZ c v) L=g (C7 (fun c=>AZ c v) (s.mo.getD r []))) (loc v w:Int) (hv:ok v) (hw:ok w) :
  B5 s loc v < B5 s loc w↔B5 { s with mo:=s.mo.set r L } loc v < B5 { s with mo:=s.mo.set r L } loc w:=by
 unfold B5
 rw [length_set]
 by_cases c:loc < 0\/(s.mo.length:Int)<=loc
 .simp only [if_pos c]
 .simp only [if_neg c]
  by_cases c2:loc.toNat=r
  .have e:(s.mo.set r L).getD loc.toNat []=L:=by rw [getD_eq_getElem?_getD,getElem?_set,if_pos c2.symm,if_pos (by omega)];rfl
   rw [e,h v hv,h w hw,c2]
   exact hg _ _
  .have e:(s.mo.set r L).getD loc.toNat []=s.mo.getD loc.toNat []:=by rw [getD_eq_getElem?_getD,getElem?_set,if_neg (Ne.symm c2),<- getD_eq_getElem?_getD]
   rw [e]
theorem Sr {t:A1} {s s':A8} {n w:Int} (e:E0 t s n w=some s'):Ext t s s'/\BJ t s=true:=by
 unfold E0 at e
 split at e
 .rename_i x hx
  obtain ⟨h1,h2,h3⟩:=Gk hx
  split at e
  .cases e
  .rename_i hw
   cases e
   refine ⟨⟨h1.has,h1.on,fun loc v u hv hu=>(h1.place loc v u hv hu).trans ?_⟩,h2⟩
   refine A7i (ok:=fun v=>v∈s.has) (g:=fun i=>if i < (w.toNat:Int) then i else i+1) (fun a b=>by split<;>split<;>omega) (fun v hv=>?_) loc v u hv hu
   exact Lo (p:=fun c=>AZ c v) (by
    rw [eq_false_iff]
    intro h
    exact h3 (by rw [List.mem_singleton.1 (A7.1 h)] at hv;exact hv)) _ _ (by omega)
 .cases e
theorem Aaj {t:A1} {s s':A8} {n w:Int} (e:J1 t s n w=some s'):Ext t s s'/\BJ t s=true:=by
 unfold J1 at e
 split at e
 .rename_i x hx
  obtain ⟨h1,h2,_⟩:=Gk hx
  split at e
  .cases e;exact ⟨h1,h2⟩
  .cases e
 .cases e
theorem Gz.mono {p q:Nat->Nat->Bool} {N a b:Nat} (i:∀ a b,p a b=true->q a b=true) (h:Gz p N a b):Gz q N a b:=by
 induction h with
 | one hb h=>exact .one hb (i _ _ h)
 | more _ hc h ih=>exact .more ih hc (i _ _ h)
section
variable {t:A1} (ht:A5 t) {s s':A8} (E:Ext t s s') (hF:CD t s.has s.jf) (hF':CD t s'.has s'.jf) (up:∀ n,n∈s.has->(t.at n.toNat).up < 0\/(t.at n.toNat).up∈s.has)
include ht E hF hF' up
theorem Afb {w:Int} (hw:w∈s.has):ahF t s'.has s'.jf w=ahF t s.has s.jf w:=by
 unfold ahF
 rcases up w hw with h | h
 .have a:AZ s.has (t.at w.toNat).up=false:=Bool.eq_false_iff.2 fun c=>by
   obtain ⟨m,e,_⟩:=Aa (hF.node _ (A7.1 c));omega
  have b:AZ s'.has (t.at w.toNat).up=false:=Bool.eq_false_iff.2 fun c=>by
   obtain ⟨m,e,_⟩:=Aa (hF'.node _ (A7.1 c));omega
  rw [a,b];simp
 .rw [A7.2 h,A7.2 (E.has _ h),E.on _ h]
end
theorem Ly {l l':List Int} (h:∀ x,x∈l->x∈l'):BA l ||| BA l' = BA l':=by
 apply B4
 intro j hj
 have e:∀ l:List Int,(BA l).getLsbD j=AZ l (j:Int):=fun l=>by rw [<- Au,EW l (by omega) (by omega)]
 rw [BitVec.getLsbD_or,e,e]
 cases c:AZ l (j:Int) with
 | false=>rw [Bool.false_or]
 | true=>rw [A7.2 (h _ (A7.1 c))];rfl
def XX (t:A1) (has:List Int) (n w:Int):Bool :=
 if (t.at n.toNat).kind=2 then AZ has w && EV t w (t.at n.toNat).loc && decide ((t.at w.toNat).val=(t.at n.toNat).val) else decide (w = -1)
structure AX (t:A1) (s:A8):Prop where
 node:∀ n∈s.has,BF t n=true
 up:∀ n∈s.has,(t.at n.toNat).up < 0\/(t.at n.toNat).up∈s.has
 ris:s.has.Pairwise (· < ·)
 init:DP t ||| BA s.has=BA s.has
 jl:s.jf.length=s.has.length
 just:∀ i,i < s.has.length->XX t s.has (s.has.getD i 0) (s.jf.getD i 0)=true
 ml:s.mo.length=t.locs.length
 mo:∀ loc,loc < s.mo.length->CX t s loc=true
 once:∀ n∈s.has,(t.at n.toNat).kind=3->((s.mo.getD (t.at n.toNat).loc.toNat []).filter fun c=>AZ c n).length=1
theorem K7 {l:List Int}:(∀ i,i < l.length->CB l i=true)↔l.Pairwise (· < ·):=by
 constructor
 .intro h
  rw [List.pairwise_iff_getElem]
  have h0:∀ d i,i+d+1 < l.length->l.getD i 0 < l.getD (i+d+1) 0:=by
   intro d
   induction d with
   | zero =>
    intro i hi
    have:=h (i+1) (by omega)
    simpa [CB] using this
   | succ d ih =>
    intro i hi
    have h1:=ih i (by omega)
    have:=h (i+d+1+1) (by omega)
    simp only [CB,Nat.add_one_sub_one,or_eq_true,decide_eq_true_eq] at this
    rcases this with h2 | h2
    .omega
    .exact Int.lt_trans h1 h2
  intro i j hi hj h3
  have:=h0 (j - i - 1) i (by omega)
  rw [show i+(j - i - 1)+1=j by omega] at this
  simpa [getD_eq_getElem?_getD,hi,hj] using this
 .intro h i hi
  rw [List.pairwise_iff_getElem] at h
  simp only [CB,or_eq_true,decide_eq_true_eq]
  rcases Nat.eq_zero_or_pos i with c | c
  .exact .inl c
  .refine .inr ?_
   have:=h (i - 1) i (by omega) hi (by omega)
   simpa [getD_eq_getElem?_getD,hi,show i - 1 < l.length by omega] using this
theorem Be {t:A1} {s:A8}:BJ t s=true↔AX t s:=by
 have e:∀ i,Gi t s i=XX t s.has (s.has.getD i 0) (s.jf.getD i 0):=fun _=>rfl
 have h0:∀ {p:Int->Prop},(∀ i,i < s.has.length->p (s.has.getD i 0))↔∀ n∈s.has,p n:=by
  intro p
  constructor
  .intro h n hn
   obtain ⟨i,hi,rfl⟩:=List.getElem_of_mem hn
   have:=h i hi
   rwa [getD_eq_getElem?_getD,List.getElem?_eq_getElem hi] at this
  .intro h i hi
   exact h _ (Af hi)
 constructor
 .intro h
  simp only [BJ,C0,BY,Jz,e,and_eq_true,or_eq_true,not_eq_true',decide_eq_true_eq,decide_eq_false_iff_not,Ag,A7] at h
  obtain ⟨⟨⟨⟨⟨⟨h1,h2⟩,h3⟩,h4⟩,h5⟩,h6⟩,h7⟩:=h
  exact ⟨h0.1 fun i hi=>(h1 i hi).1.1,h0.1 fun i hi=>(h1 i hi).2,K7.1 fun i hi=>(h1 i hi).1.2,h2,h3,h5,h4,h6,h0.1 fun i hi k=>by
   rcases h7 i hi with h | h
   .exact absurd k h
   .exact h⟩
 .intro h
  simp only [BJ,C0,BY,Jz,e,and_eq_true,or_eq_true,not_eq_true',decide_eq_true_eq,decide_eq_false_iff_not,Ag,A7]
  refine ⟨⟨⟨⟨⟨⟨fun i hi=>⟨⟨h0.2 h.node i hi,K7.2 h.ris i hi⟩,h0.2 h.up i hi⟩,h.init⟩,h.jl⟩,h.ml⟩,h.just⟩,h.mo⟩,fun i hi=>?_⟩
  by_cases k:(t.at (s.has.getD i 0).toNat).kind=3
  .exact .inr (h.once _ (Af hi) k)
  .exact .inl k
theorem Aca {l:List Int} {n:Int} (h:l.Pairwise (· < ·)) (hn:n∉l):(B9 l (Bn l n) n).Pairwise (· < ·):=by
 induction l with
 | nil=>simp [B9,Bn]
 | cons x l ih =>
  rw [List.pairwise_cons] at h
  have hx:x≠n:=fun c=>hn (by simp [c])
  have hl:n∉l:=fun c=>hn (by simp [c])
  by_cases c:x < n
  .have e:B9 (x::l) (Bn (x::l) n) n=x::B9 l (Bn l n) n:=by
    simp [B9,Bn,c]
   rw [e,List.pairwise_cons]
   refine ⟨fun y hy=>?_,ih h.2 hl⟩
   rcases Bp.1 hy with rfl | hy
   .exact c
   .exact h.1 y hy
  .have e:B9 (x::l) (Bn (x::l) n) n=n::x::l:=by
    simp [B9,Bn,c]
   rw [e,List.pairwise_cons,List.pairwise_cons]
   refine ⟨fun y hy=>?_,h⟩
   rcases List.mem_cons.1 hy with rfl | hy
   .omega
   .have:=h.1 y hy;omega
theorem JT {l:List Int} {k:Nat} {y:Int} (h:k<=l.length):(B9 l k y).getD k 0=y:=by
 unfold B9
 rw [getD_eq_getElem?_getD,List.getElem?_append_right (by rw [List.length_take];omega),List.length_take,Nat.min_eq_left h]
 simp
theorem Ac9 {p:Int->Int->Prop} {l f:List Int} {k:Nat} {n w:Int} (hk:k<=l.length) (hf:f.length=l.length) (h:∀ i,i < l.length->p (l.getD i 0) (f.getD i 0)) (hn:p n w) (i:Nat) (hi:i < (B9 l k n).length):p ((B9 l k n).getD i 0) ((B9 f k w).getD i 0):=by
 rw [CK hk] at hi
 rcases Nat.lt_trichotomy i k with c | c | c
 .have e1:=Gg (y:=n) (d:=0) l k i hk
  have e2:=Gg (y:=w) (d:=0) f k i (by omega)
  rw [if_pos c] at e1 e2
  unfold B9
  rw [e1,e2]
  exact h i (by omega)
 .subst c
  rw [JT hk,JT (by omega)]
  exact hn
 .have e1:=Gg (y:=n) (d:=0) l k (i - 1) hk
  have e2:=Gg (y:=w) (d:=0) f k (i - 1) (by omega)
  rw [if_neg (by omega),show i - 1+1=i by omega] at e1 e2
  unfold B9
  rw [e1,e2]
  exact h (i - 1) (by omega)
theorem Zx {t:A1} {a b:List Int} (h:∀ x,x∈a->x∈b) {n w:Int} (k:XX t a n w=true):XX t b n w=true:=by
 unfold XX at k ⊢
 split at k
 .rename_i c
  rw [if_pos c]
  simp only [and_eq_true,A7] at k ⊢
  exact ⟨⟨h _ k.1.1,k.1.2⟩,k.2⟩
 .rename_i c
  rw [if_neg c];exact k
theorem DC {t:A1} {a b:List Int} (h:∀ x,x∈a->x∈b) {l:List Int} {loc:Int} (k:BR t l a loc=true):BR t l b loc=true:=by
 simp only [BR,and_eq_true,Ag,B3,A7] at k ⊢
 refine ⟨k.1,fun i hi=>?_⟩
 obtain ⟨⟨⟨⟨h1,h2⟩,h3⟩,h4⟩,h5⟩:=k.2 i hi
 exact ⟨⟨⟨⟨h _ h1,h2⟩,h3⟩,h4⟩,h5⟩
theorem Mb {t:A1} {s:A8} (h:AX t s) {n w:Int} (hn:BF t n=true) (hno:n∉s.has) (hup:(t.at n.toNat).up∈s.has) (hw:XX t s.has n w=true) {M:List (List (List Int))} (ml:M.length=s.mo.length)
  (mo:∀ loc,loc < s.mo.length->CX t { C2 s n w with mo:=M } loc=true)
  (o1:∀ x∈s.has,(t.at x.toNat).kind=3->((M.getD (t.at x.toNat).loc.toNat []).filter fun c=>AZ c x).length=((s.mo.getD (t.at x.toNat).loc.toNat []).filter fun c=>AZ c x).length)
  (o2:(t.at n.toNat).kind=3->((M.getD (t.at n.toNat).loc.toNat []).filter fun c=>AZ c n).length=1):AX t { C2 s n w with mo:=M }:=by
 have hk:=Du s.has n
 have sub:∀ x,x∈s.has->x∈B9 s.has (Bn s.has n) n:=fun x hx=>Bp.2 (.inr hx)
 refine ⟨?_,?_,Aca h.ris hno,?_,?_,?_,by rw [<- h.ml];exact ml,fun loc hl=>mo loc (by rw [<- ml];exact hl),?_⟩
 .intro x hx
  rcases Bp.1 hx with rfl | hx
  .exact hn
  .exact h.node x hx
 .intro x hx
  rcases Bp.1 hx with rfl | hx
  .exact .inr (sub _ hup)
  .rcases h.up x hx with c | c
   .exact .inl c
   .exact .inr (sub _ c)
 .have e:BA s.has ||| BA (B9 s.has (Bn s.has n) n)=BA (B9 s.has (Bn s.has n) n):=Ly sub
  show DP t ||| BA (B9 s.has (Bn s.has n) n)=BA (B9 s.has (Bn s.has n) n)
  rw [<- e,<- BitVec.or_assoc,h.init]
 .show (B9 s.jf (Bn s.has n) w).length=(B9 s.has (Bn s.has n) n).length
  rw [CK hk,CK (by rw [h.jl];exact hk),h.jl]
 .exact Ac9 (p:=fun a b=>XX t (B9 s.has (Bn s.has n) n) a b=true) hk h.jl (fun i hi=>Zx sub (h.just i hi)) (Zx sub hw)
 .intro x hx kx
  rcases Bp.1 hx with rfl | hx
  .exact o2 kx
  .show ((M.getD (t.at x.toNat).loc.toNat []).filter fun c=>AZ c x).length=1
   rw [o1 x hx kx];exact h.once x hx kx
theorem Mc {t:A1} {s:A8} (h:AX t s) {n w:Int} (hn:BF t n=true) (hno:n∉s.has) (hup:(t.at n.toNat).up∈s.has) (hw:XX t s.has n w=true) (hk:(t.at n.toNat).kind≠3):AX t (C2 s n w):=by
 have sub:∀ x,x∈s.has->x∈B9 s.has (Bn s.has n) n:=fun x hx=>Bp.2 (.inr hx)
 refine Mb (M:=s.mo) h hn hno hup hw rfl ?_ (fun _ _ _=>rfl) (fun c=>absurd c hk)
 intro loc hl
 have:=h.mo loc hl
 simp only [CX,and_eq_true,Ag,or_eq_true] at this ⊢
 refine ⟨this.1,fun i hi=>?_⟩
 rcases this.2 i hi with c | c
 .exact .inl c
 .exact .inr (DC sub c)
theorem A2d {t:A1} {s:A8} (h:AX t s) {n:Int} (hn:BF t n=true) (hno:n∉s.has) (hup:(t.at n.toNat).up∈s.has) (hk:(t.at n.toNat).kind=3) (ht:0<=(t.at n.toNat).thread) {loc:Nat} (hl:(t.at n.toNat).loc=loc) (hll:loc < s.mo.length)
  (hin:∀ c∈s.mo.getD loc [],∀ x∈c,x∈s.has):AX t { C2 s n (-1) with mo:=s.mo.set loc (s.mo.getD loc []++[[n]]) }:=by
 have sub:∀ x,x∈s.has->x∈B9 s.has (Bn s.has n) n:=fun x hx=>Bp.2 (.inr hx)
 have h0:(s.mo.set loc (s.mo.getD loc []++[[n]])).getD loc []=s.mo.getD loc []++[[n]]:=by rw [getD_eq_getElem?_getD (l:=s.mo.set _ _),getElem?_set,if_pos rfl,if_pos hll];rfl
 have h1:∀ k,k≠loc->(s.mo.set loc (s.mo.getD loc []++[[n]])).getD k []=s.mo.getD k []:=fun k hk=>by rw [getD_eq_getElem?_getD (l:=s.mo.set _ _),getElem?_set,if_neg (Ne.symm hk),<- getD_eq_getElem?_getD]
 have h2:BR t [n] (B9 s.has (Bn s.has n) n) loc=true:=by
  simp only [BR,and_eq_true,Ag,B3,A7,List.length_singleton]
  refine ⟨rfl,fun i hi=>?_⟩
  obtain rfl:i=0:=by omega
  refine ⟨⟨⟨⟨Bp.2 (.inl rfl),rfl⟩,?_⟩,decide_eq_true ht⟩,fun k hk=>by omega⟩
  simp [EV,hk,hl]
 refine Mb h hn hno hup (by simp [XX,hk]) (by rw [length_set]) ?_ ?_ ?_
 .intro k h4
  by_cases c:k=loc
  .subst c
   have hm:=h.mo k h4
   simp only [CX,h0,and_eq_true,Ag,or_eq_true,not_eq_true',decide_eq_true_eq,decide_eq_false_iff_not] at hm ⊢
   obtain ⟨⟨m1,m2⟩,m3⟩:=hm
   have h3:0 < (s.mo.getD k []).length:=by omega
   refine ⟨⟨by simp,?_⟩,fun i hi=>?_⟩
   .rw [getD_eq_getElem?_getD,List.getElem?_append_left h3,<- getD_eq_getElem?_getD];exact m2
   .by_cases ci:i < (s.mo.getD k []).length
    .have e:(s.mo.getD k []++[[n]]).getD i []=(s.mo.getD k []).getD i []:=by rw [getD_eq_getElem?_getD,List.getElem?_append_left ci,<- getD_eq_getElem?_getD]
     rw [e]
     rcases m3 i ci with c | c
     .exact .inl c
     .exact .inr (DC sub c)
    .rw [length_append,List.length_singleton] at hi
     have ei:i=(s.mo.getD k []).length:=by omega
     have e:(s.mo.getD k []++[[n]]).getD i []=[n]:=by rw [getD_eq_getElem?_getD,List.getElem?_append_right (by omega),ei,Nat.sub_self];rfl
     rw [e]
     exact .inr h2
  .have hm:=h.mo k h4
   simp only [CX,h1 k c,and_eq_true,Ag,or_eq_true] at hm ⊢
   refine ⟨hm.1,fun i hi=>?_⟩
   rcases hm.2 i hi with d | d
   .exact .inl d
   .exact .inr (DC sub d)
 .intro x hx kx
  by_cases c:(t.at x.toNat).loc.toNat=loc
  .rw [c,h0,filter_append]
   have:AZ [n] x=false:=Bool.eq_false_iff.2 fun d=>hno (by rw [<- List.mem_singleton.1 (A7.1 d)];exact hx)
   simp [this]
  .rw [h1 _ c]
 .intro _
  rw [hl,toNat_natCast,h0,filter_append]
  have e:(s.mo.getD loc []).filter (fun c=>AZ c n)=[]:=by
   rw [List.filter_eq_nil_iff]
   intro c hc d
   exact hno (hin c hc n (A7.1 d))
  rw [e]
  simp [AZ]
theorem A2p (t:A1) (x f:List Int) (w:Int) (a:Nat):∀ k,Dy t x f (a+k) w=Dy t x f k (Dy t x f a w)
 | 0=>rfl
 | k+1=>by rw [<- Nat.add_assoc,Dy,A2p t x f w a k];rfl
theorem YT (t:A1) (x f:List Int) (w:Int):∀ (N j:Nat),j<=N->(∀ i,i<=j->Dy t x f i w∈x)->∃ k,k<=j/\k < x.length/\Dy t x f k w=Dy t x f j w
 | N,j,hN,h=>by
  by_cases c:j < x.length
  .exact ⟨j,Nat.le_refl _,c,rfl⟩
  .have hnd:¬ ((List.range (j+1)).map fun i=>Dy t x f i w).Nodup:=by
    intro hd
    have:=GQ _ x hd (fun y hy=>by
     obtain ⟨i,hi,rfl⟩:=List.mem_map.1 hy
     exact h i (by have:=List.mem_range.1 hi;omega))
    simp at this;omega
   have:∃ a b,a < b/\b<=j/\Dy t x f a w=Dy t x f b w:=by
    apply Classical.byContradiction
    intro h4
    apply hnd
    rw [List.nodup_iff_pairwise_ne,List.pairwise_iff_getElem]
    intro a b ha hb h0 e
    simp only [List.length_map,List.length_range,List.getElem_map,List.getElem_range] at ha hb e
    exact h4 ⟨a,b,h0,by omega,e⟩
   obtain ⟨a,b,h0,h5,e⟩:=this
   match N with
   | 0=>omega
   | N+1 =>
    obtain ⟨k,h1,h2,h3⟩:=YT t x f w N (j - (b - a)) (by omega) (fun i hi=>h i (by omega))
    refine ⟨k,by omega,h2,h3.trans ?_⟩
    have e1:=A2p t x f w a (j - b)
    have e2:=A2p t x f w b (j - b)
    rw [e] at e1
    rw [show j - (b - a)=a+(j - b) by omega,e1,<- e2,show b+(j - b)=j by omega]
section
variable {t:A1} (ht:A5 t) {s s':A8} {n:Nat} (E:Ext t s s') (hF:CD t s.has s.jf) (hF':CD t s'.has s'.jf) (up:∀ n,n∈s.has->(t.at n.toNat).up < 0\/(t.at n.toNat).up∈s.has)
 (new:∀ x,x∈s'.has->x=(n:Int)\/x∈s.has) (hno:(n:Int)∉s.has) (fr:∀ b:Nat,(b:Int)∈s.has->At t n b=false) (onN:(t.at n).kind=2->Cc s'.has s'.jf n∈s.has)
include ht E hF hF' up new hno fr onN
theorem Adf {w:Int} {a:Nat} (hw:w∈s.has) (h:(LE t s'.has w).getLsbD a=true):(LE t s.has w).getLsbD a=true:=by
 rw [LE,Aw,and_eq_true] at h ⊢
 refine ⟨?_,h.2⟩
 have h:=h.1
 simp only [Aa8,or_eq_true,and_eq_true,A7] at h ⊢
 rcases h with h | h
 .exact .inl h
 .refine .inr ⟨⟨⟨?_,h.1.1.2⟩,h.1.2⟩,h.2⟩
  rcases new _ h.1.1.1 with e | e
  .obtain ⟨m,rfl,_⟩:=Aa (hF.node w hw)
   have:=fr m hw
   rw [<- e,h.2] at this;cases this
  .exact e
theorem Aa1 {w:Int} (hw:w∈s.has):∀ i,(∀ k,k < i->LA t (Dy t s'.has s'.jf k w)=false)->Dy t s'.has s'.jf i w=Dy t s.has s.jf i w/\(Dy t s.has s.jf i w∈s.has\/Dy t s.has s.jf i w = -1)
 | 0,_=>⟨rfl,.inl hw⟩
 | i+1,h=>by
  obtain ⟨e,m⟩:=Aa1 hw i (fun k hk=>h k (by omega))
  have ho:=h i (by omega)
  rcases m with m | m
  .rw [Dy,e,Afb ht E hF hF' up m,<- Dy]
   refine ⟨rfl,?_⟩
   rw [Dy]
   rcases A3u ht hF m with c | c
   .exact .inr c
   .exact .inl c.1
  .rw [e,m] at ho;cases ho
theorem ZB {w:Int} {a:Nat} (hw:w∈s.has) (h:BG (BZ t s'.has s'.jf w) (a:Int)=true):BG (BZ t s.has s.jf w) (a:Int)=true:=by
 rw [Au] at h ⊢
 obtain ⟨j,_,h2,h3⟩:=(Ee _ _ _ _ _ _).1 h
 have h0:∀ i,i<=j->Dy t s'.has s'.jf i w=Dy t s.has s.jf i w/\Dy t s.has s.jf i w∈s.has:=fun i hi=>by
  obtain ⟨e,m⟩:=Aa1 ht E hF hF' up new hno fr onN hw i (fun k hk=>h2 k (by omega))
  rcases m with m | m
  .exact ⟨e,m⟩
  .have:=h2 i hi
   rw [e,m] at this;cases this
 obtain ⟨k,k1,k2,k3⟩:=YT t s.has s.jf w j j (Nat.le_refl _) (fun i hi=>(h0 i hi).2)
 refine (Ee _ _ _ _ _ _).2 ⟨k,by omega,fun i hi=>by rw [<- (h0 i (by omega)).1];exact h2 i (by omega),?_⟩
 rw [k3]
 rw [(h0 j (Nat.le_refl _)).1] at h3
 exact Adf ht E hF hF' up new hno fr onN (h0 j (Nat.le_refl _)).2 h3
theorem ZA {a b:Nat} (h:JW t s'.has s'.jf a b=true):(a:Int)∈s.has/\((b:Int)=n\/JW t s.has s.jf a b=true):=by
 simp only [JW,or_eq_true,and_eq_true,A7] at h ⊢
 rcases h with ⟨⟨ha,hb⟩,hbf⟩ | h
 .have h0:(a:Int)∈s.has:=by
   rcases new _ ha with e | e
   .rcases new _ hb with e2 | e2
    .have:=Ea ht hbf;omega
    .have:=fr b e2
     rw [<- e,hbf] at this;cases this
   .exact e
  refine ⟨h0,?_⟩
  rcases new _ hb with e | e
  .exact .inl e
  .exact .inr (.inl ⟨⟨h0,e⟩,hbf⟩)
 .simp only [swB,List.any_eq_true,and_eq_true] at h ⊢
  obtain ⟨r,hr,⟨hs,hh⟩,he⟩:=h
  have hk:(t.at r.toNat).kind=2:=by simp only [JF,and_eq_true,decide_eq_true_eq] at hs;exact hs.1
  obtain ⟨hb,h1⟩:=A0H hr he
  rcases new _ hr with rfl | hr'
  .rw [toNat_natCast] at hk
   have hh:=ZB ht E hF hF' up new hno fr onN (onN hk) hh
   obtain ⟨_,_,ha,_⟩:=Nr ht hF (onN hk) hh
   refine ⟨ha,.inl ?_⟩
   rcases h1 with e | e
   .exact e
   .rcases new _ hb with c | c
    .exact c
    .have:=fr b c
     rw [e.2] at this;cases this
  .have hw:=(hF.read r hr' hk).1
   rw [E.on r hr'] at hh
   have hh:=ZB ht E hF hF' up new hno fr onN hw hh
   obtain ⟨_,_,ha,_⟩:=Nr ht hF hw hh
   refine ⟨ha,?_⟩
   rcases new _ hb with c | c
   .exact .inl c
   .refine .inr (.inr ⟨r,hr',⟨?_,hh⟩,?_⟩)
    .unfold JF at hs ⊢;rw [E.on r hr'] at hs;exact hs
    .simp only [HC,or_eq_true,and_eq_true,A7] at he ⊢
     rcases he with he | he
     .exact .inl he
     .exact .inr ⟨⟨⟨c,he.1.1.2⟩,he.1.2⟩,he.2⟩
theorem A5F {a b:Nat} (h:Gz (JW t s'.has s'.jf) t.nodes.length a b):(a:Int)∈s.has/\((b:Int)=n\/Gz (JW t s.has s.jf) t.nodes.length a b):=by
 induction h with
 | one hb h =>
  obtain ⟨h1,h2⟩:=ZA ht E hF hF' up new hno fr onN h
  refine ⟨h1,?_⟩
  rcases h2 with h2 | h2
  .exact .inl h2
  .exact .inr (.one hb h2)
 | more h1 hc h ih =>
  obtain ⟨k1,k2⟩:=ZA ht E hF hF' up new hno fr onN h
  refine ⟨ih.1,?_⟩
  rcases ih.2 with c | c
  .rw [c] at k1;exact absurd k1 hno
  .rcases k2 with k2 | k2
   .exact .inl k2
   .exact .inr (.more c hc k2)
theorem A8k (hf':BJ t s' = true) (h:SH t s=true) (hp:∀ a:Nat,(a:Int)∈s.has->DS t s' a n=true):SH t s' = true:=by
 have h2:=ht.n64
 rw [SH,and_eq_true] at h
 obtain ⟨hf,hq⟩:=h
 have h1:s.has.length=s.jf.length:=hF.len
 have h0:s'.has.length=s'.jf.length:=hF'.len
 rw [SH,hf',Bool.true_and,List.all_eq_true]
 intro x hx
 obtain ⟨a,b,ha,rfl,h3⟩:=(G5 h2 _ _).1 hx
 obtain ⟨ma,hb⟩:=A5F ht E hF hF' up new hno fr onN h3
 rcases hb with hb | hb
 .show DS t s' a b=true
  rw [hb];exact hp a ma
 .have mb:=(Xs ht hF hb).2
  have hk:=List.all_eq_true.1 hq _ ((G5 h2 _ _).2 ⟨a,b,ha,rfl,hb⟩)
  have src:∀ n:Nat,(n:Int)∈s.has->(if (t.at n).kind=2 then JY s' n else (n:Int))=(if (t.at n).kind=2 then JY s n else (n:Int))/\((if (t.at n).kind=2 then JY s n else (n:Int))∈s.has):=by
   intro n hn
   by_cases c:(t.at n).kind=2
   .rw [if_pos c,if_pos c,HZ h1,HZ h0,E.on _ hn]
    exact ⟨rfl,(hF.read _ hn c).1⟩
   .rw [if_neg c,if_neg c];exact ⟨rfl,hn⟩
  obtain ⟨ea,sa⟩:=src a ma
  obtain ⟨eb,sb⟩:=src b mb
  simp only [DS,plN,toNat_natCast] at hk ⊢
  rw [ea,eb]
  simp only [E8,or_eq_true] at hk ⊢
  rcases hk with hk | hk
  .exact .inl hk
  .by_cases cl:(t.at a).loc=(t.at b).loc
   .refine .inr ?_
    rw [cl] at hk ⊢
    have p1:=E.place (t.at b).loc _ _ sa sb
    have p2:=E.place (t.at b).loc _ _ sb sa
    by_cases c:(t.at b).kind=2
    .rw [if_pos c] at hk ⊢
     have:=of_decide_eq_true hk
     exact decide_eq_true (by omega)
    .rw [if_neg c] at hk ⊢
     have:=of_decide_eq_true hk
     exact decide_eq_true (by omega)
   .exact .inl (.inr (by rw [decide_eq_false cl];rfl))
end
theorem Ln {α:Type} (p:α->Bool) (l:List α):C7 p l < l.length:=by
 cases h:l.any p with
 | false=>rw [Pb h];omega
 | true =>
  obtain ⟨k,e,hk,_⟩:=Jl h
  rw [e];omega
def C8 (s:A8) (loc:Nat):Int:=((s.mo.getD loc []).getD ((s.mo.getD loc []).length - 1) []).getD 0 0
structure WI (t:A1) (s:A8) (mem:List Int) (k:Nat):Prop where
 gr:Gr t s k
 kl:k<=s.has.length
 form:AX t s
 coh:SH t s=true
 one:∀ loc,loc < s.mo.length->∀ c∈s.mo.getD loc [],∃ w:Nat,c=[(w:Int)]/\(w:Int)∈s.has/\(t.at w).kind=3/\(t.at w).loc=loc
 ml:mem.length=t.locs.length
 mem:∀ loc,loc < t.locs.length->mem.getD loc 0=(t.at (C8 s loc).toNat).val
theorem AX.len {t:A1} {s:A8} (h:AX t s):s.has.length<=t.nodes.length:=by
 have hd:s.has.Nodup:=h.ris.imp fun h=>by omega
 have:=GQ s.has ((List.range t.nodes.length).map fun (i:Nat)=>(i:Int)) hd (fun x hx=>by
  obtain ⟨m,rfl,hm⟩:=Aa (h.node x hx)
  exact List.mem_map.2 ⟨m,List.mem_range.2 hm,rfl⟩)
 simpa using this
theorem WI.k64 {t:A1} (ht:A5 t) {s:A8} {mem:List Int} {k:Nat} (W:WI t s mem k):k<=64:=by
 have h1:=W.form.len
 have h2:=ht.n64
 have h3:=W.kl
 omega
theorem WI.pos {t:A1} {s:A8} {mem:List Int} {k:Nat} (W:WI t s mem k) {loc:Nat} (hl:loc < s.mo.length):0 < (s.mo.getD loc []).length:=by
 have:=(W.gr.big.mi _ (Af (d:=[]) hl)).1
 exact List.length_pos_iff.2 this
theorem WI.last {t:A1} {s:A8} {mem:List Int} {k:Nat} (W:WI t s mem k) {loc:Nat} (hl:loc < s.mo.length) :
  ∃ w:Nat,C8 s loc=w/\(w:Int)∈s.has/\(t.at w).kind=3/\(t.at w).loc=loc/\B5 s loc w=((s.mo.getD loc []).length - 1:Nat):=by
 have hp:=W.pos hl
 have h0:(s.mo.getD loc []).length - 1 < (s.mo.getD loc []).length:=by omega
 obtain ⟨w,e,h1,h2,h3⟩:=W.one loc hl _ (Af (d:=[]) h0)
 refine ⟨w,by rw [C8,e];rfl,h1,h2,h3,?_⟩
 rw [B5,if_neg (by omega),toNat_natCast]
 have ho:=W.form.once _ h1 (by rw [toNat_natCast];exact h2)
 rw [toNat_natCast,h3,toNat_natCast] at ho
 have e2:(s.mo.getD loc [])[(s.mo.getD loc []).length - 1]=[(w:Int)]:=by
  rw [<- e,getD_eq_getElem?_getD (l:=s.mo.getD loc []),List.getElem?_eq_getElem h0];rfl
 refine Di h0 (by rw [e2];simp [AZ]) (fun j hj=>?_)
 rw [eq_false_iff]
 intro hc
 obtain ⟨L,hL⟩:∃ L,L=s.mo.getD loc []:=⟨_,rfl⟩
 rw [<- hL] at ho hj h0 hp
 simp only [<- hL] at e2 hc
 have h4:L=L.take (j+1)++L.drop (j+1):=(List.take_append_drop _ _).symm
 rw [h4,filter_append,length_append] at ho
 have p1:0 < ((L.take (j+1)).filter fun c=>AZ c (w:Int)).length:=by
  refine List.length_pos_of_mem (a:=L[j]) (List.mem_filter.2 ⟨?_,hc⟩)
  rw [List.mem_take_iff_getElem]
  exact ⟨j,by omega,rfl⟩
 have p2:0 < ((L.drop (j+1)).filter fun c=>AZ c (w:Int)).length:=by
  refine List.length_pos_of_mem (a:=L[L.length - 1]) (List.mem_filter.2 ⟨?_,by rw [e2];simp [AZ]⟩)
  rw [List.mem_drop_iff_getElem]
  exact ⟨L.length - 1 - (j+1),by omega,by congr 1;omega⟩
 omega
section
variable {t:A1} (ht:A5 t) {s:A8} {mem:List Int} {k:Nat} (W:WI t s mem k) {n:Nat} (hn:n < t.nodes.length) (hno:(n:Int)∉s.has) (hup:(t.at n).up∈s.has) (fr:∀ b:Nat,(b:Int)∈s.has->At t n b=false)
include ht W hn hno hup
theorem NO {kind w:Int} (hk:(t.at n).kind=kind):CL t s n kind w=some (C2 s n w):=by
 have h1:Cz t s n kind=true:=by
  simp only [Cz,Be.2 W.form,BT hn,toNat_natCast,hk,A7.2 hup,Bool.eq_false_iff.2 (fun c=>hno (A7.1 c))]
  simp
 rw [CL,if_pos h1]
include fr
theorem A3h {s':A8} {w:Int} (E:Ext t s s') (hf':AX t s') (e1:s'.has=B9 s.has (Bn s.has n) n) (e2:s'.jf=B9 s.jf (Bn s.has n) w) (hw:(t.at n).kind=2->w∈s.has)
  (hp:(t.at n).kind=2\/(t.at n).kind=3->∀ v,v∈s.has->if (t.at n).kind=2 then B5 s' (t.at n).loc v<=B5 s' (t.at n).loc w else B5 s' (t.at n).loc v < B5 s' (t.at n).loc n):SH t s' = true:=by
 have hF:=Bz (BC (Be.2 W.form))
 have h0:=Bz (BC (Be.2 hf'))
 have hk:=Du s.has n
 have h1:Cc s'.has s'.jf n=w:=by
  have:=h0.at_ (Bn s.has n) (by rw [e1,CK hk];omega)
  rw [e1,e2,JT hk,JT (by rw [W.form.jl];exact hk)] at this
  rw [e1,e2];exact this
 refine A8k ht E hF h0 W.form.up (fun x hx=>by rw [e1] at hx;exact Bp.1 hx) hno fr (fun c=>by rw [h1];exact hw c) (Be.2 hf') W.coh (fun a ha=>?_)
 have sa:(if (t.at a).kind=2 then JY s' a else (a:Int))∈s.has:=by
  by_cases c:(t.at a).kind=2
  .rw [if_pos c,HZ h0.len,E.on _ ha];exact (hF.read _ ha c).1
  .rw [if_neg c];exact ha
 have e0:DS t s' a n=E8 (t.at a) (t.at n) (plN t s' a) (plN t s' n):=by rw [DS,toNat_natCast,toNat_natCast]
 have ea:plN t s' a=B5 s' (t.at a).loc (if (t.at a).kind=2 then JY s' a else (a:Int)):=by rw [plN,toNat_natCast]
 have eb:plN t s' n=B5 s' (t.at n).loc (if (t.at n).kind=2 then JY s' n else (n:Int)):=by rw [plN,toNat_natCast]
 rw [e0,ea,eb]
 by_cases c:(t.at n).kind=2\/(t.at n).kind=3
 .by_cases cl:(t.at a).loc=(t.at n).loc
  .have:=hp c _ sa
   rw [cl]
   simp only [E8,or_eq_true]
   refine .inr ?_
   by_cases c2:(t.at n).kind=2
   .rw [if_pos c2] at this
    rw [if_pos c2,if_pos c2,show JY s' n=w from by rw [HZ h0.len];exact h1]
    exact decide_eq_true this
   .rw [if_neg c2] at this
    rw [if_neg c2,if_neg c2]
    exact decide_eq_true this
  .simp only [E8,or_eq_true]
   exact .inl (.inr (by rw [decide_eq_false cl];rfl))
 .simp only [E8,or_eq_true]
  refine .inl (.inl (.inr ?_))
  rw [decide_eq_false (fun h=>c (.inl h)),decide_eq_false (fun h=>c (.inr h))];rfl
theorem AgT (hk:(t.at n).kind=4):WI t (C2 s n (-1)) mem (k+1):=by
 have hm:=NO ht W hn hno hup (w:=-1) hk
 have h0:=Du s.has n
 have hf:AX t (C2 s n (-1)):=Mc W.form (BT hn) hno (by rw [toNat_natCast];exact hup) (by simp [XX,hk]) (by rw [toNat_natCast];omega)
 exact ⟨Vy W.gr hm,by show k+1<=(B9 _ _ _).length;rw [CK h0];have:=W.kl;omega,hf,
  A3h ht W hn hno hup fr (Gk hm).1 hf rfl rfl (fun c=>by omega) (fun c=>by omega),fun loc hl c hc=>by
   obtain ⟨w,a,b,d⟩:=W.one loc hl c hc
   exact ⟨w,a,(Gk hm).1.has _ b,d⟩,W.ml,W.mem⟩
theorem AdL {loc:Nat} (hk:(t.at n).kind=2) (hloc:(t.at n).loc=loc) (hv:(t.at n).val=mem.getD loc 0):J1 t s n (C8 s loc)=some (C2 s n (C8 s loc))/\WI t (C2 s n (C8 s loc)) mem (k+1):=by
 have hm:=NO ht W hn hno hup (w:=C8 s loc) hk
 have h1:=Du s.has n
 have hl:loc < s.mo.length:=by
  have:=(ht.wloc hn (.inl hk)).2
  have:=W.form.ml
  omega
 obtain ⟨w,e,w1,w2,w3,w4⟩:=W.last hl
 have hj:XX t s.has n (C8 s loc)=true:=by
  have h0:=W.mem loc (by have:=W.form.ml;omega)
  rw [e,toNat_natCast] at h0
  simp only [XX,toNat_natCast,hk,if_true,e,EV,w2,w3,hloc,A7.2 w1,hv,h0,decide_true,Bool.and_self]
 have hf:AX t (C2 s n (C8 s loc)):=Mc W.form (BT hn) hno (by rw [toNat_natCast];exact hup) hj (by rw [toNat_natCast];omega)
 have h2:J1 t s n (C8 s loc)=some (C2 s n (C8 s loc)):=by
  rw [J1,hm]
  simp only [Be.2 hf,if_true]
 refine ⟨h2,Vy W.gr hm,by show k+1<=(B9 _ _ _).length;rw [CK h1];have:=W.kl;omega,hf,
  A3h ht W hn hno hup fr (Gk hm).1 hf rfl rfl (fun c=>by rw [e];exact w1) (fun c v hv=>?_),fun loc hl c hc=>?_,W.ml,W.mem⟩
 .rw [if_pos hk,hloc,e]
  show B5 s loc v<=B5 s loc w
  rw [w4]
  rw [B5,if_neg (by omega),toNat_natCast]
  have:=Ln (fun c=>AZ c v) (s.mo.getD loc [])
  have:=W.pos hl
  omega
 .obtain ⟨w,a,b,d⟩:=W.one loc hl c hc
  exact ⟨w,a,(Gk hm).1.has _ b,d⟩
theorem AaX {loc:Nat} (hk:(t.at n).kind=3) (hth:0<=(t.at n).thread) (hloc:(t.at n).loc=loc) :
  ∃ s',E0 t s n ((s.mo.getD loc []).length:Nat)=some s'/\WI t s' (mem.set loc (t.at n).val) (k+1)/\∀ x,x∈s'.has↔x=(n:Int)\/x∈s.has:=by
 have hm:=NO ht W hn hno hup (w:=-1) hk
 have h6:=Du s.has n
 have hl:loc < s.mo.length:=by
  have:=(ht.wloc hn (.inr hk)).2
  have:=W.form.ml
  omega
 have hp:=W.pos hl
 have h5:∀ c∈s.mo.getD loc [],∀ x∈c,x∈s.has:=fun c hc x hx=>by
  obtain ⟨w,e,h1,_⟩:=W.one loc hl c hc
  rw [e] at hx
  rw [List.mem_singleton.1 hx];exact h1
 have hf:=A2d W.form (BT hn) hno (by rw [toNat_natCast];exact hup) (by rw [toNat_natCast];exact hk) (by rw [toNat_natCast];exact hth) (by rw [toNat_natCast];exact hloc) hl h5
 have h4:E0 t s n ((s.mo.getD loc []).length:Nat)=some { C2 s n (-1) with mo:=s.mo.set loc (s.mo.getD loc []++[[(n:Int)]]) }:=by
  rw [E0,hm]
  simp only [toNat_natCast,hloc]
  rw [if_neg (by show ¬ ((((s.mo.getD loc []).length:Nat):Int) < 1\/(((s.mo.getD loc []).length:Nat):Int) < _);omega)]
  show some ({ C2 s n (-1) with mo:=s.mo.set loc ((s.mo.getD loc []).take _++[(n:Int)]::(s.mo.getD loc []).drop _) }:A8)=_
  rw [List.take_length,List.drop_length]
 have h0:(s.mo.set loc (s.mo.getD loc []++[[(n:Int)]])).getD loc []=s.mo.getD loc []++[[(n:Int)]]:=by rw [getD_eq_getElem?_getD (l:=s.mo.set _ _),getElem?_set,if_pos rfl,if_pos hl];rfl
 have h3:∀ k,k≠loc->(s.mo.set loc (s.mo.getD loc []++[[(n:Int)]])).getD k []=s.mo.getD k []:=fun k hk=>by rw [getD_eq_getElem?_getD (l:=s.mo.set _ _),getElem?_set,if_neg (Ne.symm hk),<- getD_eq_getElem?_getD]
 obtain ⟨E,_⟩:=Sr h4
 refine ⟨_,h4,⟨Ab0 W.gr h4,by show k+1<=(B9 _ _ _).length;rw [CK h6];have:=W.kl;omega,hf,A3h ht W hn hno hup fr E hf rfl rfl (fun c=>by omega) (fun c v hv=>?_),?_,?_,?_⟩,fun x=>Bp⟩
 .rw [if_neg (by omega),hloc]
  have hb:¬ ((loc:Int) < 0\/((s.mo.set loc (s.mo.getD loc []++[[(n:Int)]])).length:Int)<=loc):=by rw [length_set];omega
  simp only [B5,if_neg hb,toNat_natCast,h0]
  have e1:C7 (fun c=>AZ c (n:Int)) (s.mo.getD loc []++[[(n:Int)]])=((s.mo.getD loc []).length:Nat):=by
   refine Di (by simp) (by simp [AZ]) (fun j hj=>?_)
   rw [List.getElem_append_left hj,eq_false_iff]
   intro c
   exact hno (h5 _ (List.getElem_mem hj) _ (A7.1 c))
  have e2:AZ [(n:Int)] v=false:=Bool.eq_false_iff.2 fun c=>hno (by rw [<- List.mem_singleton.1 (A7.1 c)];exact hv)
  have e3:=Lo (p:=fun c=>AZ c v) (y:=[(n:Int)]) e2 (s.mo.getD loc []) _ (Nat.le_refl _)
  rw [List.take_length,List.drop_length] at e3
  have:=Ln (fun c=>AZ c v) (s.mo.getD loc [])
  rw [if_pos this] at e3
  rw [e1,e3];exact this
 .intro l h7 c hc
  have h2:l < s.mo.length:=by have h:l < (s.mo.set loc (s.mo.getD loc []++[[(n:Int)]])).length:=h7;rwa [length_set] at h
  by_cases cl:l=loc
  .subst cl
   rw [h0,mem_append] at hc
   rcases hc with hc | hc
   .obtain ⟨w,a,b,d⟩:=W.one l h2 c hc
    exact ⟨w,a,E.has _ b,d⟩
   .rw [List.mem_singleton] at hc
    exact ⟨n,hc,Bp.2 (.inl rfl),hk,hloc⟩
  .rw [h3 l cl] at hc
   obtain ⟨w,a,b,d⟩:=W.one l h2 c hc
   exact ⟨w,a,E.has _ b,d⟩
 .rw [length_set];exact W.ml
 .intro l h2
  have hl'':l < mem.length:=by rw [W.ml];exact h2
  by_cases cl:l=loc
  .subst cl
   have e1:C8 { C2 s n (-1) with mo:=s.mo.set l (s.mo.getD l []++[[(n:Int)]]) } l=n:=by
    simp only [C8,h0]
    rw [length_append,List.length_singleton,Nat.add_sub_cancel,getD_eq_getElem?_getD (l:=s.mo.getD l []++_),List.getElem?_append_right (Nat.le_refl _),Nat.sub_self]
    rfl
   rw [e1,toNat_natCast,getD_eq_getElem?_getD,getElem?_set,if_pos rfl,if_pos hl''];rfl
  .have e1:C8 { C2 s n (-1) with mo:=s.mo.set loc (s.mo.getD loc []++[[(n:Int)]]) } l=C8 s l:=by
    simp only [C8,h3 l cl]
   rw [e1,getD_eq_getElem?_getD,getElem?_set,if_neg (Ne.symm cl),<- getD_eq_getElem?_getD]
   exact W.mem l h2
end
theorem G0.moreN {t:A1}:∀ {n u e:Nat},G0 t n u e->u < e/\∀ m,u < m->m < e->0<=(t.at m).up/\((t.at m).rmw=true->(t.at m).kind=3):=by
 intro n
 induction n with
 | zero=>intro u e h;exact absurd h (by simp [G0])
 | succ n ih =>
  intro u e h
  obtain ⟨⟨_,ht,_⟩,h⟩:=h
  rcases h with ⟨_,_,rfl⟩ | ⟨c,_,_,al,hb⟩ | ⟨c,_,_,vals,k,loc,mode,_,hv0,hk0,hke,hloc,hs,_⟩
  .exact ⟨by omega,fun m h1 h2=>by omega⟩
  .have:=(ih hb).1
   refine ⟨by omega,fun m h1 h2=>?_⟩
   by_cases e1:m=u+1
   .subst e1
    refine ⟨by rw [(Hh c).1];omega,fun hr=>?_⟩
    simp only [CG,or_eq_true,and_eq_true,decide_eq_true_eq,not_eq_true'] at al
    rcases al with h | h
    .rw [h.1.1.2] at hr;cases hr
    .exact h.1.1.1
   .exact (ih hb).2 m (by omega) h2
  .have mono:∀ v,v<=vals->k 0<=k v:=by
    intro v
    induction v with
    | zero=>intro _;omega
    | succ v iv=>intro hv;have:=iv (by omega);have:=(ih (hs v (by omega)).2.2).1;omega
   refine ⟨by have:=mono vals (by omega);omega,fun m h1 h2=>?_⟩
   obtain ⟨v,hv,a,b⟩:=Cw (k:=k) (m:=m) vals (by omega) (by omega)
   obtain ⟨s1,s2,s3⟩:=hs v hv
   by_cases e1:m=k v
   .subst e1
    simp only [DB,and_eq_true,decide_eq_true_eq,not_eq_true'] at s2
    exact ⟨by rw [(Hh s1).1];omega,fun hr=>by rw [s2.2] at hr;cases hr⟩
   .exact (ih s3).2 m (by omega) b
theorem A5.kinds {t:A1} (h:A5 t):∃ s:Nat->Nat,(∀ v,v < t.regs.length->s v < t.nodes.length/\t.locs.length<=s v/\(t.at (s v)).thread=v/\(t.at (s v)).up = -1/\(t.at (s v)).kind=1)/\(∀ m,m < t.nodes.length->m < t.locs.length\/(∃ v,v < t.regs.length/\m=s v)\/(0<=(t.at m).up/\((t.at m).rmw=true->(t.at m).kind=3))):=by
 obtain ⟨s,h0,he,hs⟩:=h.thr
 have mono:∀ d v,v+d<=t.regs.length->s v+d<=s (v+d):=by
  intro d
  induction d with
  | zero=>intro v _;simp
  | succ d ih =>
   intro v hv
   have:=ih v (by omega)
   obtain ⟨_,n,hn⟩:=hs (v+d) (by omega)
   have:=hn.moreN.1
   rw [Nat.add_assoc] at this
   omega
 refine ⟨s,fun v hv=>?_,fun m hm=>?_⟩
 .obtain ⟨hb,n,hn⟩:=hs v hv
  simp only [Dt,and_eq_true,decide_eq_true_eq] at hb
  have a:=mono v 0 (by omega)
  have b:=mono (t.regs.length - v) v (by omega)
  rw [show v+(t.regs.length - v)=t.regs.length by omega] at b
  rw [Nat.zero_add] at a
  exact ⟨by omega,by omega,hb.1.1.1.1.1.1,hb.1.1.1.1.1.2,hb.1.1.1.1.2⟩
 .by_cases c:m < t.locs.length
  .exact .inl c
  .obtain ⟨v,hv,a,b⟩:=Cw (k:=s) (m:=m) t.regs.length (by omega) (by omega)
   obtain ⟨hb,n,hn⟩:=hs v hv
   by_cases e1:m=s v
   .exact .inr (.inl ⟨v,hv,e1⟩)
   .exact .inr (.inr (hn.moreN.2 m (by omega) b))
theorem A5.top {t:A1} (h:A5 t) {m:Nat} (hm:m < t.nodes.length) (h0:0<=(t.at m).thread) (hu:(t.at m).up < 0):(t.at m).kind=1:=by
 obtain ⟨s,h1,h2⟩:=h.kinds
 rcases h2 m hm with c | ⟨v,hv,rfl⟩ | c
 .have:=(h.init m c).thr;omega
 .exact (h1 v hv).2.2.2.2
 .omega
theorem A5.tops {t:A1} (h:A5 t) {m k:Nat} (hm:m < t.nodes.length) (hk:k < t.nodes.length) (h0:0<=(t.at m).thread) (hu:(t.at m).up < 0) (huk:(t.at k).up < 0) (e:(t.at k).thread=(t.at m).thread):k=m:=by
 obtain ⟨s,h1,h2⟩:=h.kinds
 rcases h2 m hm with c | ⟨v,hv,rfl⟩ | c
 .have:=(h.init m c).thr;omega
 .rcases h2 k hk with c | ⟨w,hw,rfl⟩ | c
  .have:=(h.init k c).thr;omega
  .have a:=(h1 v hv).2.2.1
   have b:=(h1 w hw).2.2.1
   have:w=v:=by omega
   rw [this]
  .omega
 .omega
theorem A5.rmw3 {t:A1} (h:A5 t) {m:Nat} (hm:m < t.nodes.length) (h0:0<=(t.at m).up) (hr:(t.at m).rmw=true):(t.at m).kind=3:=by
 obtain ⟨s,h1,h2⟩:=h.kinds
 rcases h2 m hm with c | ⟨v,hv,rfl⟩ | c
 .exact (h.init m c).kind
 .have:=(h1 v hv).2.2.2.1;omega
 .exact c.2 hr
def Rw (t:A1) (k:Nat):List Nat:=(List.range k).filter fun i=>!decide ((t.at i).thread < 0) && decide ((t.at i).up < 0)
def KI (t:A1) (k:Nat):List Int:=((List.range k).filter fun i=>decide ((t.at i).thread < 0)).map fun i=>(t.at i).val
theorem A52 {t:A1} (h:A5 t):KI t t.nodes.length=(List.range t.locs.length).map fun i=>(t.at i).val:=by
 have hl:=h.first.1
 have e:t.nodes.length=t.locs.length+(t.nodes.length - t.locs.length):=by omega
 unfold KI
 congr 1
 rw [e,List.range_add,filter_append,List.filter_eq_self.2,List.filter_eq_nil_iff.2,List.append_nil]
 .intro a ha
  obtain ⟨i,hi,rfl⟩:=List.mem_map.1 ha
  have hi:=List.mem_range.1 hi
  have:=(h.thr_iff (m:=t.locs.length+i) (by omega)).1
  simp only [decide_eq_true_eq]
  omega
 .intro a ha
  have ha:=List.mem_range.1 ha
  exact decide_eq_true ((h.thr_iff (m:=a) (by omega)).2 ha)
theorem CR {t:A1} {x:Int}:x∈(AP t).has↔∃ m:Nat,x=m/\m < t.nodes.length/\(t.at m).up < 0:=by
 simp only [AP,DH,List.mem_map,mem_filter,mem_range,decide_eq_true_eq]
 constructor
 .rintro ⟨i,⟨h1,h2⟩,rfl⟩;exact ⟨i,rfl,h1,h2⟩
 .rintro ⟨i,rfl,h1,h2⟩;exact ⟨i,⟨h1,h2⟩,rfl⟩
theorem GX {t:A1} (h:A5 t) {m:Nat} (hm:m < t.nodes.length) (hu:(t.at m).up < 0):(m < t.locs.length/\(t.at m).kind=3)\/(t.locs.length<=m/\(t.at m).kind=1):=by
 by_cases c:m < t.locs.length
 .exact .inl ⟨c,(h.init m c).kind⟩
 .refine .inr ⟨by omega,h.top hm ?_ hu⟩
  have:=(h.thr_iff hm).1
  omega
theorem ZY {t:A1} {loc:Nat} (h:loc < t.locs.length):(AP t).mo.getD loc []=[[(loc:Int)]]:=by
 simp [AP,h]
theorem XH {t:A1} (h:A5 t):AX t (AP t):=by
 refine ⟨fun n hn=>?_,fun n hn=>?_,?_,?_,?_,fun i hi=>?_,by simp [AP],fun loc hl=>?_,fun n hn kn=>?_⟩
 .obtain ⟨m,rfl,hm,_⟩:=CR.1 hn;exact BT hm
 .obtain ⟨m,rfl,hm,hu⟩:=CR.1 hn;exact .inl hu
 .simp only [AP,DH,List.pairwise_map]
  exact (List.pairwise_lt_range.filter _).imp fun h=>by omega
 .apply BitVec.eq_of_getLsbD_eq
  intro i hi
  rw [BitVec.getLsbD_or,DP,Aw]
  cases hc:(BA (AP t).has).getLsbD i with
  | true=>simp
  | false =>
   rw [Bool.or_false,eq_false_iff]
   intro hx
   simp only [and_eq_true,decide_eq_true_eq] at hx
   have:=EW (AP t).has (x:=(i:Int)) (by omega) (by omega)
   rw [Au,hc,A7.2 (CR.2 ⟨i,rfl,hx.1.1,hx.1.2⟩)] at this;cases this
 .simp [AP]
 .have hm:=Af (d:=0) hi
  obtain ⟨m,e,hm,hu⟩:=CR.1 hm
  have hj:(AP t).jf.getD i 0 = -1:=by
   have h0:i < (DH t t.nodes.length).length:=hi
   simp [AP,h0]
  rw [e,hj]
  rcases GX h hm hu with c | c<;>simp [XX,c.2]
 .have h1:loc < t.locs.length:=by simpa [AP] using hl
  simp only [CX,ZY h1,and_eq_true,Ag]
  refine ⟨⟨rfl,by simp⟩,fun i hi=>?_⟩
  have:i=0:=by simp at hi;omega
  simp [this]
 .obtain ⟨m,rfl,hm,hu⟩:=CR.1 hn
  rw [toNat_natCast] at kn ⊢
  rcases GX h hm hu with c | c
  .rw [(h.init m c.1).loc,toNat_natCast,ZY c.1];simp [AZ]
  .omega
theorem Adx {t:A1} {loc:Nat} (hl:loc < t.locs.length):C8 (AP t) loc=loc:=by
 rw [C8,ZY hl];rfl
theorem Agy {t:A1} (h:A5 t):SH t (AP t)=true:=by
 rw [SH,Be.2 (XH h),Bool.true_and,List.all_eq_true]
 intro x hx
 obtain ⟨a,b,ha,rfl,h2⟩:=(G5 h.n64 _ _).1 hx
 have h0:∀ a b:Nat,JW t (AP t).has (AP t).jf a b=true->(t.at b).kind=1:=by
  intro a b hh
  simp only [JW,or_eq_true,and_eq_true,A7] at hh
  rcases hh with ⟨⟨hA,hB⟩,hbf⟩ | hh
  .obtain ⟨m,e,hm,hu⟩:=CR.1 hB
   have e:b=m:=by omega
   subst e
   rcases GX h hm hu with c | c
   .exfalso
    have h4:=(h.init b c.1).thr
    simp only [At,and_eq_true,toNat_natCast] at hbf
    have h1:=hbf.2
    split at h1
    .have:=of_decide_eq_true h1;omega
    .have h3:=Ea h (a:=a) (b:=b) (by simp only [At,and_eq_true,toNat_natCast];exact hbf)
     rename_i hn
     have:=(h.thr_iff (m:=a) (by omega)).2 (by omega)
     exact hn this
   .exact c.2
  .exfalso
   simp only [swB,List.any_eq_true,and_eq_true] at hh
   obtain ⟨r,hr,⟨hs,_⟩,_⟩:=hh
   obtain ⟨m,rfl,hm,hu⟩:=CR.1 hr
   simp only [JF,and_eq_true,decide_eq_true_eq,toNat_natCast] at hs
   rcases GX h hm hu with c | c<;>omega
 have kb:(t.at b).kind=1:=by
  cases h2 with
  | one _ hh=>exact h0 _ _ hh
  | more _ _ hh=>exact h0 _ _ hh
 show DS t (AP t) a b=true
 simp [DS,E8,kb]
theorem AjD {t:A1} (h:A5 t):WI t (AP t) (KI t t.nodes.length) 0:=by
 refine ⟨Aav h,Nat.zero_le _,XH h,Agy h,fun loc hl c hc=>?_,by rw [A52 h];simp,fun loc hl=>?_⟩
 .have h0:loc < t.locs.length:=by simpa [AP] using hl
  rw [ZY h0,List.mem_singleton] at hc
  have I:=h.init loc h0
  exact ⟨loc,hc,CR.2 ⟨loc,rfl,by have:=h.first.1;omega,by rw [I.up];decide⟩,I.kind,I.loc⟩
 .rw [A52 h,Adx hl,toNat_natCast]
  simp [hl]
structure StI (t:A1) (s:A8) (at_:List Nat):Prop where
 has:∀ u∈at_,(u:Int)∈s.has/\0<=(t.at u).thread
 top:∀ u∈at_,∀ x:Nat,(x:Int)∈s.has->(t.at x).thread=(t.at u).thread->x<=u
 pw:at_.Pairwise fun a b=>(t.at a).thread≠(t.at b).thread
 chain:∀ u∈at_,∀ x:Nat,(x:Int)∈s.has->(t.at x).thread=(t.at u).thread->x=u\/AB t x u=true
 cov:∀ x:Nat,(x:Int)∈s.has->0<=(t.at x).thread->∃ u∈at_,(t.at u).thread=(t.at x).thread
theorem Jg {t:A1} (hu:Jd t) {x n m:Nat} (hn:n < t.nodes.length) (e:(t.at n).up=(m:Int)):AB t x n=(decide (m=x) || AB t x m):=by
 unfold AB
 have:=hu n hn
 rw [Em hu x (by omega),e,if_neg (by omega),toNat_natCast]
 by_cases c:m=x
 .rw [if_pos (by omega),decide_eq_true c,Bool.true_or]
 .rw [if_neg (by omega),decide_eq_false c,Bool.false_or]
theorem AjC {t:A1} (h:A5 t):StI t (AP t) (Rw t t.nodes.length):=by
 have h1:∀ u∈Rw t t.nodes.length,u < t.nodes.length/\0<=(t.at u).thread/\(t.at u).up < 0:=by
  intro u hu
  simp only [Rw,mem_filter,mem_range,and_eq_true,not_eq_true',decide_eq_true_eq,decide_eq_false_iff_not] at hu
  exact ⟨hu.1,by omega,hu.2.2⟩
 refine ⟨fun u hu=>?_,fun u hu x hx e=>?_,?_,fun u hu x hx e=>?_,fun x hx h0=>?_⟩
 .obtain ⟨a,b,c⟩:=h1 u hu
  exact ⟨CR.2 ⟨u,rfl,a,c⟩,b⟩
 .obtain ⟨a,b,c⟩:=h1 u hu
  obtain ⟨m,e1,hm,hv⟩:=CR.1 hx
  have e1:x=m:=by omega
  subst e1
  exact Nat.le_of_eq (h.tops a hm b c hv e)
 .have hp:(Rw t t.nodes.length).Pairwise (· < ·):=List.pairwise_lt_range.filter _
  refine (List.Pairwise.and_mem.1 hp).imp ?_
  rintro a b ⟨ha,hb,h2⟩ e
  obtain ⟨a1,a2,a3⟩:=h1 a ha
  obtain ⟨b1,b2,b3⟩:=h1 b hb
  have:=h.tops b1 a1 b2 b3 a3 e
  omega
 .obtain ⟨a,b,c⟩:=h1 u hu
  obtain ⟨m,e1,hm,hv⟩:=CR.1 hx
  have e1:x=m:=by omega
  subst e1
  exact .inl (h.tops a hm b c hv e)
 .obtain ⟨m,e1,hm,hv⟩:=CR.1 hx
  have e1:x=m:=by omega
  subst e1
  refine ⟨x,?_,rfl⟩
  simp only [Rw,mem_filter,mem_range,and_eq_true,not_eq_true',decide_eq_true_eq,decide_eq_false_iff_not]
  exact ⟨hm,by omega,hv⟩
end Go.AM
