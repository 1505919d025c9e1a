/-
  Own work, part of the proof of CoheExec: what comes of steps one after the other.
-/
import Derived.Test.YtpcpldaangchaaaGreatDoorKE
set_option maxRecDepth 4000
set_option linter.unusedVariables false
set_option linter.unusedSimpArgs false
set_option linter.unusedSectionVars false
set_option linter.unnecessarySimpa false
namespace Go.AM
open Go Go.Proofs
theorem ME {α:Type} (p:α→Bool) (x:α) (l:List α):CG p (x::l)=if p x=true then 0 else if CG p l < 0 then -1 else CG p l+1:=by
 unfold CG
 rw [List.findIdx?_cons]
 cases p x with
 | true=>rfl
 | false =>
  cases l.findIdx? p with
  | none=>rfl
  | some i=>simp;omega
theorem A1o {α:Type} (p:α→Bool) (l:List α) : -1≤CG p l:=by
 unfold CG
 cases l.findIdx? p with
 | none=>simp
 | some i=>show (-1:Int)≤(i:Int);omega
theorem M6 {α:Type} {p:α→Bool} {y:α} (hy:p y=false):∀ (l:List α) (k:Nat),k≤l.length→CG p (l.take k++y::l.drop k)=if CG p l < k then CG p l else CG p l+1
 | l,0,_=>by
  have:=A1o p l
  rw [List.take_zero,List.nil_append,List.drop_zero,ME,hy]
  simp only [Bool.false_eq_true,if_false]
  split<;>split<;>omega
 | [],k+1,h=>by simp at h
 | x::l,k+1,h=>by
  have ih:=M6 hy l k (by simpa using h)
  have:=A1o p l
  rw [List.take_succ_cons,List.drop_succ_cons,List.cons_append,ME,ME,ih]
  split
  ·rw [if_pos (by omega)]
  ·split<;>split<;>split<;>omega
theorem HA {α:Type} {y d:α}:∀ (l:List α) (k i:Nat),k≤l.length→(l.take k++y::l.drop k).getD (if i < k then i else i+1) d=l.getD i d
 | l,0,i,_=>by simp
 | [],k+1,i,h=>by simp at h
 | x::l,k+1,0,h=>by simp
 | x::l,k+1,i+1,h=>by
  have ih:=HA (y:=y) (d:=d) l k i (by simpa using h)
  rw [List.take_succ_cons,List.drop_succ_cons,List.cons_append]
  by_cases c:i < k
  ·rw [if_pos (by omega)];rw [if_pos c] at ih;simpa using ih
  ·rw [if_neg (by omega)];rw [if_neg c] at ih;simpa using ih
theorem Ch {l:List Int} {k:Nat} {x y:Int}:x∈Bn l k y↔x=y∨x∈l:=by
 unfold Bn
 have e:x∈l↔x∈l.take k∨x∈l.drop k:=by rw [← List.mem_append,List.take_append_drop]
 rw [e,List.mem_append,List.mem_cons]
 constructor
 ·rintro (h | h | h)
  ·exact .inr (.inl h)
  ·exact .inl h
  ·exact .inr (.inr h)
 ·rintro (h | h | h)
  ·exact .inr (.inl h)
  ·exact .inl h
  ·exact .inr (.inr h)
theorem A9i {l:List Int} {k:Nat} {x y:Int} (h:x≠y):B2 (Bn l k y) x=B2 l x:=by
 cases c:B2 l x with
 | true=>exact A7.2 (Ch.2 (.inr (A7.1 c)))
 | false =>
  rw [Bool.eq_false_iff] at c ⊢
  intro h2
  rcases Ch.1 (A7.1 h2) with e | e
  ·exact h e
  ·exact c (A7.2 e)
theorem AdA {x f:List Int} {k:Nat} {n y w:Int} (hk:k≤x.length) (hf:k≤f.length) (h:n∈x) (hn:n≠y):GQ (Bn x k y) (Bn f k w) n=GQ x f n:=by
 unfold GQ
 rw [A9i hn,if_pos (A7.2 h),if_pos (A7.2 h)]
 obtain ⟨i,e,hi,h1,h2⟩:=E5 (A7.2 h)
 have e2:DD (Bn x k y) n=if DD x n < k then DD x n else DD x n+1:=M6 (p:=fun z=>decide (n=z)) (decide_eq_false hn) x k hk
 rw [e2,e,Int.toNat_natCast]
 have:=HA (y:=w) (d:=0) f k i hf
 unfold Bn
 rw [← this]
 congr 1
 by_cases c:i < k
 ·rw [if_pos c,if_pos (by omega)];omega
 ·rw [if_neg c,if_neg (by omega)];omega
structure Ext (t:A4) (s s':Am):Prop where
 has:∀ n,n∈s.has→n∈s'.has
 on:∀ n,n∈s.has→GQ s'.has s'.jf n=GQ s.has s.jf n
 place:∀ (loc v w:Int),v∈s.has→w∈s.has→(BH s loc v < BH s loc w↔BH s' loc v < BH s' loc w)
theorem K8 {t:A4} {s s':Am} {n kind w:Int} (e:Dp t s n kind w=some s'):Ext t s s'∧Ck t s=true∧n∉s.has:=by
 unfold Dp at e
 split at e
 ·rename_i hok
  cases e
  have hk:=DS s.has n
  simp only [Cv,Bool.and_eq_true,Bool.not_eq_true'] at hok
  have hf:=hok.1.1.1.1
  have hjl:s.jf.length=s.has.length:=by simp only [Ck,Bool.and_eq_true,decide_eq_true_eq] at hf;exact hf.1.1.1.1.2
  have hn:n∉s.has:=fun h=>by rw [A7.2 h] at hok;exact absurd hok.1.2 (by simp)
  exact ⟨⟨fun x hx=>Ch.2 (.inr hx),fun x hx=>AdA hk (by omega) hx (fun c=>hn (c ▸ hx)),fun _ _ _ _ _=>Iff.rfl⟩,hf,hn⟩
 ·cases e
theorem Ext.trans {t:A4} {a b c:Am} (h:Ext t a b) (k:Ext t b c):Ext t a c :=
 ⟨fun n hn=>k.has n (h.has n hn),fun n hn=>(k.on n (h.has n hn)).trans (h.on n hn),fun loc v w hv hw=>(h.place loc v w hv hw).trans (k.place loc v w (h.has v hv) (h.has w hw))⟩
theorem A4x {s:Am} {r:Nat} {L:List (List Int)} {g:Int→Int} (hg:∀ a b,a < b↔g a < g b) {ok:Int→Prop} (h:∀ v,ok v→CG (fun c=>B2 c v) L=g (CG (fun c=>B2 c v) (s.mo.getD r []))) (loc v w:Int) (hv:ok v) (hw:ok w) :
  BH s loc v < BH s loc w↔BH { s with mo:=s.mo.set r L } loc v < BH { s with mo:=s.mo.set r L } loc w:=by
 unfold BH
 rw [List.length_set]
 by_cases c:loc < 0∨(s.mo.length:Int)≤loc
 ·simp only [if_pos c]
 ·simp only [if_neg c]
  by_cases c2:loc.toNat=r
  ·have e:(s.mo.set r L).getD loc.toNat []=L:=by rw [List.getD_eq_getElem?_getD,List.getElem?_set,if_pos c2.symm,if_pos (by omega)];rfl
   rw [e,h v hv,h w hw,c2]
   exact hg _ _
  ·have e:(s.mo.set r L).getD loc.toNat []=s.mo.getD loc.toNat []:=by rw [List.getD_eq_getElem?_getD,List.getElem?_set,if_neg (Ne.symm c2),← List.getD_eq_getElem?_getD]
   rw [e]
theorem A4O {t:A4} {s s':Am} {n w:Int} (e:Hw t s n w=some s'):Ext t s s'∧Ck t s=true:=by
 unfold Hw at e
 split at e
 ·rename_i x hx
  obtain ⟨h1,h2,h3⟩:=K8 hx
  split at e
  ·cases e
  ·rename_i hw
   cases e
   refine ⟨⟨h1.has,h1.on,fun loc v u hv hu=>(h1.place loc v u hv hu).trans ?_⟩,h2⟩
   refine A4x (ok:=fun v=>v∈s.has) (g:=fun i=>if i < (w.toNat:Int) then i else i+1) (fun a b=>by split<;>split<;>omega) (fun v hv=>?_) loc v u hv hu
   exact M6 (p:=fun c=>B2 c v) (by
    rw [Bool.eq_false_iff]
    intro h
    exact h3 (by rw [List.mem_singleton.1 (A7.1 h)] at hv;exact hv)) _ _ (by omega)
 ·cases e
theorem KU.mono {p q:Nat→Nat→Bool} {N a b:Nat} (i:∀ a b,p a b=true→q a b=true) (h:KU p N a b):KU q N a b:=by
 induction h with
 | one hb h=>exact .one hb (i _ _ h)
 | more _ hc h ih=>exact .more ih hc (i _ _ h)
section
variable {t:A4} (ht:Aa t) {s s':Am} (E:Ext t s s') (hF:CF t s.has s.jf) (hF':CF t s'.has s'.jf) (up:∀ n,n∈s.has→(t.at n.toNat).up < 0∨(t.at n.toNat).up∈s.has)
include ht E hF hF' up
theorem Ac5 {w:Int} (hw:w∈s.has):SZ t s'.has s'.jf w=SZ t s.has s.jf w:=by
 unfold SZ
 rcases up w hw with h | h
 ·have a:B2 s.has (t.at w.toNat).up=false:=Bool.eq_false_iff.2 fun c=>by
   obtain ⟨m,e,_⟩:=A9 (hF.node _ (A7.1 c));omega
  have b:B2 s'.has (t.at w.toNat).up=false:=Bool.eq_false_iff.2 fun c=>by
   obtain ⟨m,e,_⟩:=A9 (hF'.node _ (A7.1 c));omega
  rw [a,b];simp
 ·rw [A7.2 h,A7.2 (E.has _ h),E.on _ h]
end
theorem Me {l l':List Int} (h:∀ x,x∈l→x∈l'):CD l ||| CD l' = CD l':=by
 apply BL
 intro j hj
 have e:∀ l:List Int,(CD l).getLsbD j=B2 l (j:Int):=fun l=>by rw [← AH,KK l (by omega) (by omega)]
 rw [BitVec.getLsbD_or,e,e]
 cases c:B2 l (j:Int) with
 | false=>rw [Bool.false_or]
 | true=>rw [A7.2 (h _ (A7.1 c))];rfl
def okJ (t:A4) (has:List Int) (n w:Int):Bool :=
 if (t.at n.toNat).kind=2 then B2 has w && Ll t w (t.at n.toNat).loc && decide ((t.at w.toNat).val=(t.at n.toNat).val) else decide (w = -1)
structure Gb (t:A4) (s:Am):Prop where
 node:∀ n∈s.has,BT t n=true
 up:∀ n∈s.has,(t.at n.toNat).up < 0∨(t.at n.toNat).up∈s.has
 ris:s.has.Pairwise (· < ·)
 init:JZ t ||| CD s.has=CD s.has
 jl:s.jf.length=s.has.length
 just:∀ i,i < s.has.length→okJ t s.has (s.has.getD i 0) (s.jf.getD i 0)=true
 ml:s.mo.length=t.locs.length
 mo:∀ loc,loc < s.mo.length→Gx t s loc=true
 once:∀ n∈s.has,(t.at n.toNat).kind=3→((s.mo.getD (t.at n.toNat).loc.toNat []).filter fun c=>B2 c n).length=1
theorem A3d {l:List Int}:(∀ i,i < l.length→El l i=true)↔l.Pairwise (· < ·):=by
 constructor
 ·intro h
  rw [List.pairwise_iff_getElem]
  have key:∀ d i,i+d+1 < l.length→l.getD i 0 < l.getD (i+d+1) 0:=by
   intro d
   induction d with
   | zero =>
    intro i hi
    have:=h (i+1) (by omega)
    simpa [El] using this
   | succ d ih =>
    intro i hi
    have h1:=ih i (by omega)
    have:=h (i+d+1+1) (by omega)
    simp only [El,Nat.add_one_sub_one,Bool.or_eq_true,decide_eq_true_eq] at this
    rcases this with h2 | h2
    ·omega
    ·exact Int.lt_trans h1 h2
  intro i j hi hj hij
  have:=key (j - i - 1) i (by omega)
  rw [show i+(j - i - 1)+1=j by omega] at this
  simpa [List.getD_eq_getElem?_getD,hi,hj] using this
 ·intro h i hi
  rw [List.pairwise_iff_getElem] at h
  simp only [El,Bool.or_eq_true,decide_eq_true_eq]
  rcases Nat.eq_zero_or_pos i with c | c
  ·exact .inl c
  ·refine .inr ?_
   have:=h (i - 1) i (by omega) hi (by omega)
   simpa [List.getD_eq_getElem?_getD,hi,show i - 1 < l.length by omega] using this
theorem Gl {t:A4} {s:Am}:Ck t s=true↔Gb t s:=by
 have e:∀ i,M9 t s i=okJ t s.has (s.has.getD i 0) (s.jf.getD i 0):=fun _=>rfl
 have mem:∀ {p:Int→Prop},(∀ i,i < s.has.length→p (s.has.getD i 0))↔∀ n∈s.has,p n:=by
  intro p
  constructor
  ·intro h n hn
   obtain ⟨i,hi,rfl⟩:=List.getElem_of_mem hn
   have:=h i hi
   rwa [List.getD_eq_getElem?_getD,List.getElem?_eq_getElem hi] at this
  ·intro h i hi
   exact h _ (Aj hi)
 constructor
 ·intro h
  simp only [Ck,EJ,Du,NG,e,Bool.and_eq_true,Bool.or_eq_true,Bool.not_eq_true',decide_eq_true_eq,decide_eq_false_iff_not,Ar,A7] at h
  obtain ⟨⟨⟨⟨⟨⟨h1,h2⟩,h3⟩,h4⟩,h5⟩,h6⟩,h7⟩:=h
  exact ⟨mem.1 fun i hi=>(h1 i hi).1.1,mem.1 fun i hi=>(h1 i hi).2,A3d.1 fun i hi=>(h1 i hi).1.2,h2,h3,h5,h4,h6,mem.1 fun i hi k=>by
   rcases h7 i hi with h | h
   ·exact absurd k h
   ·exact h⟩
 ·intro h
  simp only [Ck,EJ,Du,NG,e,Bool.and_eq_true,Bool.or_eq_true,Bool.not_eq_true',decide_eq_true_eq,decide_eq_false_iff_not,Ar,A7]
  refine ⟨⟨⟨⟨⟨⟨fun i hi=>⟨⟨mem.2 h.node i hi,A3d.2 h.ris i hi⟩,mem.2 h.up i hi⟩,h.init⟩,h.jl⟩,h.ml⟩,h.just⟩,h.mo⟩,fun i hi=>?_⟩
  by_cases k:(t.at (s.has.getD i 0).toNat).kind=3
  ·exact .inr (h.once _ (Aj hi) k)
  ·exact .inl k
theorem A9l {l:List Int} {n:Int} (h:l.Pairwise (· < ·)) (hn:n∉l):(Bn l (By l n) n).Pairwise (· < ·):=by
 induction l with
 | nil=>simp [Bn,By]
 | cons x l ih =>
  rw [List.pairwise_cons] at h
  have hx:x≠n:=fun c=>hn (by simp [c])
  have hl:n∉l:=fun c=>hn (by simp [c])
  by_cases c:x < n
  ·have e:Bn (x::l) (By (x::l) n) n=x::Bn l (By l n) n:=by
    simp [Bn,By,c]
   rw [e,List.pairwise_cons]
   refine ⟨fun y hy=>?_,ih h.2 hl⟩
   rcases Ch.1 hy with rfl | hy
   ·exact c
   ·exact h.1 y hy
  ·have e:Bn (x::l) (By (x::l) n) n=n::x::l:=by
    simp [Bn,By,c]
   rw [e,List.pairwise_cons,List.pairwise_cons]
   refine ⟨fun y hy=>?_,h⟩
   rcases List.mem_cons.1 hy with rfl | hy
   ·omega
   ·have:=h.1 y hy;omega
theorem P4 {l:List Int} {k:Nat} {y:Int} (h:k≤l.length):(Bn l k y).getD k 0=y:=by
 unfold Bn
 rw [List.getD_eq_getElem?_getD,List.getElem?_append_right (by rw [List.length_take];omega),List.length_take,Nat.min_eq_left h]
 simp
theorem A9k {p:Int→Int→Prop} {l f:List Int} {k:Nat} {n w:Int} (hk:k≤l.length) (hf:f.length=l.length) (h:∀ i,i < l.length→p (l.getD i 0) (f.getD i 0)) (hn:p n w) (i:Nat) (hi:i < (Bn l k n).length):p ((Bn l k n).getD i 0) ((Bn f k w).getD i 0):=by
 rw [CV hk] at hi
 rcases Nat.lt_trichotomy i k with c | c | c
 ·have e1:=HA (y:=n) (d:=0) l k i hk
  have e2:=HA (y:=w) (d:=0) f k i (by omega)
  rw [if_pos c] at e1 e2
  unfold Bn
  rw [e1,e2]
  exact h i (by omega)
 ·subst c
  rw [P4 hk,P4 (by omega)]
  exact hn
 ·have e1:=HA (y:=n) (d:=0) l k (i - 1) hk
  have e2:=HA (y:=w) (d:=0) f k (i - 1) (by omega)
  rw [if_neg (by omega),show i - 1+1=i by omega] at e1 e2
  unfold Bn
  rw [e1,e2]
  exact h (i - 1) (by omega)
theorem XL {t:A4} {a b:List Int} (h:∀ x,x∈a→x∈b) {n w:Int} (k:okJ t a n w=true):okJ t b n w=true:=by
 unfold okJ at k ⊢
 split at k
 ·rename_i c
  rw [if_pos c]
  simp only [Bool.and_eq_true,A7] at k ⊢
  exact ⟨⟨h _ k.1.1,k.1.2⟩,k.2⟩
 ·rename_i c
  rw [if_neg c];exact k
theorem JP {t:A4} {a b:List Int} (h:∀ x,x∈a→x∈b) {l:List Int} {loc:Int} (k:DQ t l a loc=true):DQ t l b loc=true:=by
 simp only [DQ,Bool.and_eq_true,Ar,C7,A7] at k ⊢
 refine ⟨k.1,fun i hi=>?_⟩
 obtain ⟨⟨⟨⟨h1,h2⟩,h3⟩,h4⟩,h5⟩:=k.2 i hi
 exact ⟨⟨⟨⟨h _ h1,h2⟩,h3⟩,h4⟩,h5⟩
theorem RY {t:A4} {s:Am} (h:Gb t s) {n w:Int} (hn:BT t n=true) (hno:n∉s.has) (hup:(t.at n.toNat).up∈s.has) (hw:okJ t s.has n w=true) {M:List (List (List Int))} (ml:M.length=s.mo.length)
  (mo:∀ loc,loc < s.mo.length→Gx t { CA s n w with mo:=M } loc=true)
  (o1:∀ x∈s.has,(t.at x.toNat).kind=3→((M.getD (t.at x.toNat).loc.toNat []).filter fun c=>B2 c x).length=((s.mo.getD (t.at x.toNat).loc.toNat []).filter fun c=>B2 c x).length)
  (o2:(t.at n.toNat).kind=3→((M.getD (t.at n.toNat).loc.toNat []).filter fun c=>B2 c n).length=1):Gb t { CA s n w with mo:=M }:=by
 have hk:=DS s.has n
 have sub:∀ x,x∈s.has→x∈Bn s.has (By s.has n) n:=fun x hx=>Ch.2 (.inr hx)
 refine ⟨?_,?_,A9l h.ris hno,?_,?_,?_,by rw [← h.ml];exact ml,fun loc hl=>mo loc (by rw [← ml];exact hl),?_⟩
 ·intro x hx
  rcases Ch.1 hx with rfl | hx
  ·exact hn
  ·exact h.node x hx
 ·intro x hx
  rcases Ch.1 hx with rfl | hx
  ·exact .inr (sub _ hup)
  ·rcases h.up x hx with c | c
   ·exact .inl c
   ·exact .inr (sub _ c)
 ·have e:CD s.has ||| CD (Bn s.has (By s.has n) n)=CD (Bn s.has (By s.has n) n):=Me sub
  show JZ t ||| CD (Bn s.has (By s.has n) n)=CD (Bn s.has (By s.has n) n)
  rw [← e,← BitVec.or_assoc,h.init]
 ·show (Bn s.jf (By s.has n) w).length=(Bn s.has (By s.has n) n).length
  rw [CV hk,CV (by rw [h.jl];exact hk),h.jl]
 ·exact A9k (p:=fun a b=>okJ t (Bn s.has (By s.has n) n) a b=true) hk h.jl (fun i hi=>XL sub (h.just i hi)) (XL sub hw)
 ·intro x hx kx
  rcases Ch.1 hx with rfl | hx
  ·exact o2 kx
  ·show ((M.getD (t.at x.toNat).loc.toNat []).filter fun c=>B2 c x).length=1
   rw [o1 x hx kx];exact h.once x hx kx
theorem RZ {t:A4} {s:Am} (h:Gb t s) {n w:Int} (hn:BT t n=true) (hno:n∉s.has) (hup:(t.at n.toNat).up∈s.has) (hw:okJ t s.has n w=true) (hk:(t.at n.toNat).kind≠3):Gb t (CA s n w):=by
 have sub:∀ x,x∈s.has→x∈Bn s.has (By s.has n) n:=fun x hx=>Ch.2 (.inr hx)
 refine RY (M:=s.mo) h hn hno hup hw rfl ?_ (fun _ _ _=>rfl) (fun c=>absurd c hk)
 intro loc hl
 have:=h.mo loc hl
 simp only [Gx,Bool.and_eq_true,Ar,Bool.or_eq_true] at this ⊢
 refine ⟨this.1,fun i hi=>?_⟩
 rcases this.2 i hi with c | c
 ·exact .inl c
 ·exact .inr (JP sub c)
theorem ZY {t:A4} {s:Am} (h:Gb t s) {n:Int} (hn:BT t n=true) (hno:n∉s.has) (hup:(t.at n.toNat).up∈s.has) (hk:(t.at n.toNat).kind=3) (ht:0≤(t.at n.toNat).thread) {loc:Nat} (hl:(t.at n.toNat).loc=loc) (hll:loc < s.mo.length)
  (hin:∀ c∈s.mo.getD loc [],∀ x∈c,x∈s.has):Gb t { CA s n (-1) with mo:=s.mo.set loc (s.mo.getD loc []++[[n]]) }:=by
 have sub:∀ x,x∈s.has→x∈Bn s.has (By s.has n) n:=fun x hx=>Ch.2 (.inr hx)
 have hself:(s.mo.set loc (s.mo.getD loc []++[[n]])).getD loc []=s.mo.getD loc []++[[n]]:=by rw [List.getD_eq_getElem?_getD (l:=s.mo.set _ _),List.getElem?_set,if_pos rfl,if_pos hll];rfl
 have hoth:∀ k,k≠loc→(s.mo.set loc (s.mo.getD loc []++[[n]])).getD k []=s.mo.getD k []:=fun k hk=>by rw [List.getD_eq_getElem?_getD (l:=s.mo.set _ _),List.getElem?_set,if_neg (Ne.symm hk),← List.getD_eq_getElem?_getD]
 have hcls:DQ t [n] (Bn s.has (By s.has n) n) loc=true:=by
  simp only [DQ,Bool.and_eq_true,Ar,C7,A7,List.length_singleton]
  refine ⟨rfl,fun i hi=>?_⟩
  obtain rfl:i=0:=by omega
  refine ⟨⟨⟨⟨Ch.2 (.inl rfl),rfl⟩,?_⟩,decide_eq_true ht⟩,fun k hk=>by omega⟩
  simp [Ll,hk,hl]
 refine RY h hn hno hup (by simp [okJ,hk]) (by rw [List.length_set]) ?_ ?_ ?_
 ·intro k hkl
  by_cases c:k=loc
  ·subst c
   have hm:=h.mo k hkl
   simp only [Gx,hself,Bool.and_eq_true,Ar,Bool.or_eq_true,Bool.not_eq_true',decide_eq_true_eq,decide_eq_false_iff_not] at hm ⊢
   obtain ⟨⟨m1,m2⟩,m3⟩:=hm
   have hpos:0 < (s.mo.getD k []).length:=by omega
   refine ⟨⟨by simp,?_⟩,fun i hi=>?_⟩
   ·rw [List.getD_eq_getElem?_getD,List.getElem?_append_left hpos,← List.getD_eq_getElem?_getD];exact m2
   ·by_cases ci:i < (s.mo.getD k []).length
    ·have e:(s.mo.getD k []++[[n]]).getD i []=(s.mo.getD k []).getD i []:=by rw [List.getD_eq_getElem?_getD,List.getElem?_append_left ci,← List.getD_eq_getElem?_getD]
     rw [e]
     rcases m3 i ci with c | c
     ·exact .inl c
     ·exact .inr (JP sub c)
    ·rw [List.length_append,List.length_singleton] at hi
     have ei:i=(s.mo.getD k []).length:=by omega
     have e:(s.mo.getD k []++[[n]]).getD i []=[n]:=by rw [List.getD_eq_getElem?_getD,List.getElem?_append_right (by omega),ei,Nat.sub_self];rfl
     rw [e]
     exact .inr hcls
  ·have hm:=h.mo k hkl
   simp only [Gx,hoth k c,Bool.and_eq_true,Ar,Bool.or_eq_true] at hm ⊢
   refine ⟨hm.1,fun i hi=>?_⟩
   rcases hm.2 i hi with d | d
   ·exact .inl d
   ·exact .inr (JP sub d)
 ·intro x hx kx
  by_cases c:(t.at x.toNat).loc.toNat=loc
  ·rw [c,hself,List.filter_append]
   have:B2 [n] x=false:=Bool.eq_false_iff.2 fun d=>hno (by rw [← List.mem_singleton.1 (A7.1 d)];exact hx)
   simp [this]
  ·rw [hoth _ c]
 ·intro _
  rw [hl,Int.toNat_natCast,hself,List.filter_append]
  have e:(s.mo.getD loc []).filter (fun c=>B2 c n)=[]:=by
   rw [List.filter_eq_nil_iff]
   intro c hc d
   exact hno (hin c hc n (A7.1 d))
  rw [e]
  simp [B2]
theorem A0a (t:A4) (x f:List Int) (w:Int) (a:Nat):∀ k,Dx t x f (a+k) w=Dx t x f k (Dx t x f a w)
 | 0=>rfl
 | k+1=>by rw [← Nat.add_assoc,Dx,A0a t x f w a k];rfl
theorem Xa (t:A4) (x f:List Int) (w:Int):∀ (N j:Nat),j≤N→(∀ i,i≤j→Dx t x f i w∈x)→∃ k,k≤j∧k < x.length∧Dx t x f k w=Dx t x f j w
 | N,j,hN,h=>by
  by_cases c:j < x.length
  ·exact ⟨j,Nat.le_refl _,c,rfl⟩
  ·have hnd:¬ ((List.range (j+1)).map fun i=>Dx t x f i w).Nodup:=by
    intro hd
    have:=H9 _ x hd (fun y hy=>by
     obtain ⟨i,hi,rfl⟩:=List.mem_map.1 hy
     exact h i (by have:=List.mem_range.1 hi;omega))
    simp at this;omega
   have:∃ a b,a < b∧b≤j∧Dx t x f a w=Dx t x f b w:=by
    apply Classical.byContradiction
    intro hno
    apply hnd
    rw [List.nodup_iff_pairwise_ne,List.pairwise_iff_getElem]
    intro a b ha hb hab e
    simp only [List.length_map,List.length_range,List.getElem_map,List.getElem_range] at ha hb e
    exact hno ⟨a,b,hab,by omega,e⟩
   obtain ⟨a,b,hab,hbj,e⟩:=this
   match N with
   | 0=>omega
   | N+1 =>
    obtain ⟨k,h1,h2,h3⟩:=Xa t x f w N (j - (b - a)) (by omega) (fun i hi=>h i (by omega))
    refine ⟨k,by omega,h2,h3.trans ?_⟩
    have e1:=A0a t x f w a (j - b)
    have e2:=A0a t x f w b (j - b)
    rw [e] at e1
    rw [show j - (b - a)=a+(j - b) by omega,e1,← e2,show b+(j - b)=j by omega]
section
variable {t:A4} (ht:Aa t) {s s':Am} {n:Nat} (E:Ext t s s') (hF:CF t s.has s.jf) (hF':CF t s'.has s'.jf) (up:∀ n,n∈s.has→(t.at n.toNat).up < 0∨(t.at n.toNat).up∈s.has)
 (new:∀ x,x∈s'.has→x=(n:Int)∨x∈s.has) (hno:(n:Int)∉s.has) (fr:∀ b:Nat,(b:Int)∈s.has→Ao t n b=false) (onN:(t.at n).kind=2→GQ s'.has s'.jf n∈s.has)
include ht E hF hF' up new hno fr onN
theorem Aab {w:Int} {a:Nat} (hw:w∈s.has) (h:(Kd t s'.has w).getLsbD a=true):(Kd t s.has w).getLsbD a=true:=by
 rw [Kd,AF,Bool.and_eq_true] at h ⊢
 refine ⟨?_,h.2⟩
 have h:=h.1
 simp only [A4k,Bool.or_eq_true,Bool.and_eq_true,A7] at h ⊢
 rcases h with h | h
 ·exact .inl h
 ·refine .inr ⟨⟨⟨?_,h.1.1.2⟩,h.1.2⟩,h.2⟩
  rcases new _ h.1.1.1 with e | e
  ·obtain ⟨m,rfl,_⟩:=A9 (hF.node w hw)
   have:=fr m hw
   rw [← e,h.2] at this;cases this
  ·exact e
theorem A7z {w:Int} (hw:w∈s.has):∀ i,(∀ k,k < i→Hp t (Dx t s'.has s'.jf k w)=false)→Dx t s'.has s'.jf i w=Dx t s.has s.jf i w∧(Dx t s.has s.jf i w∈s.has∨Dx t s.has s.jf i w = -1)
 | 0,_=>⟨rfl,.inl hw⟩
 | i+1,h=>by
  obtain ⟨e,m⟩:=A7z hw i (fun k hk=>h k (by omega))
  have ho:=h i (by omega)
  rcases m with m | m
  ·rw [Dx,e,Ac5 ht E hF hF' up m,← Dx]
   refine ⟨rfl,?_⟩
   rw [Dx]
   rcases T0 ht hF m with c | c
   ·exact .inr c
   ·exact .inl c.1
  ·rw [e,m] at ho;cases ho
theorem XP {w:Int} {a:Nat} (hw:w∈s.has) (h:Bx (AI t s'.has s'.jf w) (a:Int)=true):Bx (AI t s.has s.jf w) (a:Int)=true:=by
 rw [AH] at h ⊢
 obtain ⟨j,_,h2,h3⟩:=(Ej _ _ _ _ _ _).1 h
 have hin:∀ i,i≤j→Dx t s'.has s'.jf i w=Dx t s.has s.jf i w∧Dx t s.has s.jf i w∈s.has:=fun i hi=>by
  obtain ⟨e,m⟩:=A7z ht E hF hF' up new hno fr onN hw i (fun k hk=>h2 k (by omega))
  rcases m with m | m
  ·exact ⟨e,m⟩
  ·have:=h2 i hi
   rw [e,m] at this;cases this
 obtain ⟨k,k1,k2,k3⟩:=Xa t s.has s.jf w j j (Nat.le_refl _) (fun i hi=>(hin i hi).2)
 refine (Ej _ _ _ _ _ _).2 ⟨k,by omega,fun i hi=>by rw [← (hin i (by omega)).1];exact h2 i (by omega),?_⟩
 rw [k3]
 rw [(hin j (Nat.le_refl _)).1] at h3
 exact Aab ht E hF hF' up new hno fr onN (hin j (Nat.le_refl _)).2 h3
theorem XO {a b:Nat} (h:JX t s'.has s'.jf a b=true):(a:Int)∈s.has∧((b:Int)=n∨JX t s.has s.jf a b=true):=by
 simp only [JX,Bool.or_eq_true,Bool.and_eq_true,A7] at h ⊢
 rcases h with ⟨⟨ha,hb⟩,hbf⟩ | h
 ·have ha':(a:Int)∈s.has:=by
   rcases new _ ha with e | e
   ·rcases new _ hb with e2 | e2
    ·have:=G6 ht hbf;omega
    ·have:=fr b e2
     rw [← e,hbf] at this;cases this
   ·exact e
  refine ⟨ha',?_⟩
  rcases new _ hb with e | e
  ·exact .inl e
  ·exact .inr (.inl ⟨⟨ha',e⟩,hbf⟩)
 ·simp only [swB,List.any_eq_true,Bool.and_eq_true] at h ⊢
  obtain ⟨r,hr,⟨hs,hh⟩,he⟩:=h
  have hk:(t.at r.toNat).kind=2:=by simp only [Ht,Bool.and_eq_true,decide_eq_true_eq] at hs;exact hs.1
  obtain ⟨hb,hbe⟩:=YM hr he
  rcases new _ hr with rfl | hr'
  ·rw [Int.toNat_natCast] at hk
   have hh:=XP ht E hF hF' up new hno fr onN (onN hk) hh
   obtain ⟨_,_,ha,_⟩:=P5 ht hF (onN hk) hh
   refine ⟨ha,.inl ?_⟩
   rcases hbe with e | e
   ·exact e
   ·rcases new _ hb with c | c
    ·exact c
    ·have:=fr b c
     rw [e.2] at this;cases this
  ·have hw:=(hF.read r hr' hk).1
   rw [E.on r hr'] at hh
   have hh:=XP ht E hF hF' up new hno fr onN hw hh
   obtain ⟨_,_,ha,_⟩:=P5 ht hF hw hh
   refine ⟨ha,?_⟩
   rcases new _ hb with c | c
   ·exact .inl c
   ·refine .inr (.inr ⟨r,hr',⟨?_,hh⟩,?_⟩)
    ·unfold Ht at hs ⊢;rw [E.on r hr'] at hs;exact hs
    ·simp only [Eh,Bool.or_eq_true,Bool.and_eq_true,A7] at he ⊢
     rcases he with he | he
     ·exact .inl he
     ·exact .inr ⟨⟨⟨c,he.1.1.2⟩,he.1.2⟩,he.2⟩
theorem Aac {a b:Nat} (h:KU (JX t s'.has s'.jf) t.nodes.length a b):(a:Int)∈s.has∧((b:Int)=n∨KU (JX t s.has s.jf) t.nodes.length a b):=by
 induction h with
 | one hb h =>
  obtain ⟨h1,h2⟩:=XO ht E hF hF' up new hno fr onN h
  refine ⟨h1,?_⟩
  rcases h2 with h2 | h2
  ·exact .inl h2
  ·exact .inr (.one hb h2)
 | more h1 hc h ih =>
  obtain ⟨k1,k2⟩:=XO ht E hF hF' up new hno fr onN h
  refine ⟨ih.1,?_⟩
  rcases ih.2 with c | c
  ·rw [c] at k1;exact absurd k1 hno
  ·rcases k2 with k2 | k2
   ·exact .inl k2
   ·exact .inr (.more c hc k2)
theorem A5r (hf':Ck t s' = true) (h:T7 t s=true) (hp:∀ a:Nat,(a:Int)∈s.has→DY t s' a n=true):T7 t s' = true:=by
 have h64:=ht.n64
 rw [T7,Bool.and_eq_true] at h
 obtain ⟨hf,hq⟩:=h
 have hlen:s.has.length=s.jf.length:=hF.len
 have hlen':s'.has.length=s'.jf.length:=hF'.len
 rw [T7,hf',Bool.true_and,List.all_eq_true]
 intro x hx
 obtain ⟨a,b,ha,rfl,hpt⟩:=(DI h64 _ _).1 hx
 obtain ⟨ma,hb⟩:=Aac ht E hF hF' up new hno fr onN hpt
 rcases hb with hb | hb
 ·show DY t s' a b=true
  rw [hb];exact hp a ma
 ·have mb:=(LH ht hF hb).2
  have hk:=List.all_eq_true.1 hq _ ((DI h64 _ _).2 ⟨a,b,ha,rfl,hb⟩)
  have src:∀ n:Nat,(n:Int)∈s.has→(if (t.at n).kind=2 then jfF s' n else (n:Int))=(if (t.at n).kind=2 then jfF s n else (n:Int))∧((if (t.at n).kind=2 then jfF s n else (n:Int))∈s.has):=by
   intro n hn
   by_cases c:(t.at n).kind=2
   ·rw [if_pos c,if_pos c,S3 hlen,S3 hlen',E.on _ hn]
    exact ⟨rfl,(hF.read _ hn c).1⟩
   ·rw [if_neg c,if_neg c];exact ⟨rfl,hn⟩
  obtain ⟨ea,sa⟩:=src a ma
  obtain ⟨eb,sb⟩:=src b mb
  simp only [DY,plN,Int.toNat_natCast] at hk ⊢
  rw [ea,eb]
  simp only [CK,Bool.or_eq_true] at hk ⊢
  rcases hk with hk | hk
  ·exact .inl hk
  ·by_cases cl:(t.at a).loc=(t.at b).loc
   ·refine .inr ?_
    rw [cl] at hk ⊢
    have p1:=E.place (t.at b).loc _ _ sa sb
    have p2:=E.place (t.at b).loc _ _ sb sa
    by_cases c:(t.at b).kind=2
    ·rw [if_pos c] at hk ⊢
     have:=of_decide_eq_true hk
     exact decide_eq_true (by omega)
    ·rw [if_neg c] at hk ⊢
     have:=of_decide_eq_true hk
     exact decide_eq_true (by omega)
   ·exact .inl (.inr (by rw [decide_eq_false cl];rfl))
end
theorem A1n {α:Type} (p:α→Bool) (l:List α):CG p l < l.length:=by
 cases h:l.any p with
 | false=>rw [WN h];omega
 | true =>
  obtain ⟨k,e,hk,_⟩:=JT h
  rw [e];omega
def Do (s:Am) (loc:Nat):Int:=((s.mo.getD loc []).getD ((s.mo.getD loc []).length - 1) []).getD 0 0
structure WI (t:A4) (s:Am) (mem:List Int) (k:Nat):Prop where
 gr:Gr t s k
 kl:k≤s.has.length
 form:Gb t s
 coh:T7 t s=true
 one:∀ loc,loc < s.mo.length→∀ c∈s.mo.getD loc [],∃ w:Nat,c=[(w:Int)]∧(w:Int)∈s.has∧(t.at w).kind=3∧(t.at w).loc=loc
 ml:mem.length=t.locs.length
 mem:∀ loc,loc < t.locs.length→mem.getD loc 0=(t.at (Do s loc).toNat).val
theorem Gb.len {t:A4} {s:Am} (h:Gb t s):s.has.length≤t.nodes.length:=by
 have hd:s.has.Nodup:=h.ris.imp fun h=>by omega
 have:=H9 s.has ((List.range t.nodes.length).map fun (i:Nat)=>(i:Int)) hd (fun x hx=>by
  obtain ⟨m,rfl,hm⟩:=A9 (h.node x hx)
  exact List.mem_map.2 ⟨m,List.mem_range.2 hm,rfl⟩)
 simpa using this
theorem WI.k64 {t:A4} (ht:Aa t) {s:Am} {mem:List Int} {k:Nat} (W:WI t s mem k):k≤64:=by
 have h1:=W.form.len
 have h2:=ht.n64
 have h3:=W.kl
 omega
theorem WI.pos {t:A4} {s:Am} {mem:List Int} {k:Nat} (W:WI t s mem k) {loc:Nat} (hl:loc < s.mo.length):0 < (s.mo.getD loc []).length:=by
 have:=(W.gr.big.mi _ (Aj (d:=[]) hl)).1
 exact List.length_pos_iff.2 this
theorem WI.last {t:A4} {s:Am} {mem:List Int} {k:Nat} (W:WI t s mem k) {loc:Nat} (hl:loc < s.mo.length) :
  ∃ w:Nat,Do s loc=w∧(w:Int)∈s.has∧(t.at w).kind=3∧(t.at w).loc=loc∧BH s loc w=((s.mo.getD loc []).length - 1:Nat):=by
 have hp:=W.pos hl
 have hlt:(s.mo.getD loc []).length - 1 < (s.mo.getD loc []).length:=by omega
 obtain ⟨w,e,h1,h2,h3⟩:=W.one loc hl _ (Aj (d:=[]) hlt)
 refine ⟨w,by rw [Do,e];rfl,h1,h2,h3,?_⟩
 rw [BH,if_neg (by omega),Int.toNat_natCast]
 have ho:=W.form.once _ h1 (by rw [Int.toNat_natCast];exact h2)
 rw [Int.toNat_natCast,h3,Int.toNat_natCast] at ho
 have e2:(s.mo.getD loc [])[(s.mo.getD loc []).length - 1]=[(w:Int)]:=by
  rw [← e,List.getD_eq_getElem?_getD (l:=s.mo.getD loc []),List.getElem?_eq_getElem hlt];rfl
 refine DG hlt (by rw [e2];simp [B2]) (fun j hj=>?_)
 rw [Bool.eq_false_iff]
 intro hc
 obtain ⟨L,hL⟩:∃ L,L=s.mo.getD loc []:=⟨_,rfl⟩
 rw [← hL] at ho hj hlt hp
 simp only [← hL] at e2 hc
 have hsp:L=L.take (j+1)++L.drop (j+1):=(List.take_append_drop _ _).symm
 rw [hsp,List.filter_append,List.length_append] at ho
 have p1:0 < ((L.take (j+1)).filter fun c=>B2 c (w:Int)).length:=by
  refine List.length_pos_of_mem (a:=L[j]) (List.mem_filter.2 ⟨?_,hc⟩)
  rw [List.mem_take_iff_getElem]
  exact ⟨j,by omega,rfl⟩
 have p2:0 < ((L.drop (j+1)).filter fun c=>B2 c (w:Int)).length:=by
  refine List.length_pos_of_mem (a:=L[L.length - 1]) (List.mem_filter.2 ⟨?_,by rw [e2];simp [B2]⟩)
  rw [List.mem_drop_iff_getElem]
  exact ⟨L.length - 1 - (j+1),by omega,by congr 1;omega⟩
 omega
section
variable {t:A4} (ht:Aa t) {s:Am} {mem:List Int} {k:Nat} (W:WI t s mem k) {n:Nat} (hn:n < t.nodes.length) (hno:(n:Int)∉s.has) (hup:(t.at n).up∈s.has) (fr:∀ b:Nat,(b:Int)∈s.has→Ao t n b=false)
include ht W hn hno hup
theorem Pk {kind w:Int} (hk:(t.at n).kind=kind):Dp t s n kind w=some (CA s n w):=by
 have h1:Cv t s n kind=true:=by
  simp only [Cv,Gl.2 W.form,Cl hn,Int.toNat_natCast,hk,A7.2 hup,Bool.eq_false_iff.2 (fun c=>hno (A7.1 c))]
  simp
 rw [Dp,if_pos h1]
include fr
theorem A13 {s':Am} {w:Int} (E:Ext t s s') (hf':Gb t s') (e1:s'.has=Bn s.has (By s.has n) n) (e2:s'.jf=Bn s.jf (By s.has n) w) (hw:(t.at n).kind=2→w∈s.has)
  (hp:(t.at n).kind=2∨(t.at n).kind=3→∀ v,v∈s.has→if (t.at n).kind=2 then BH s' (t.at n).loc v≤BH s' (t.at n).loc w else BH s' (t.at n).loc v < BH s' (t.at n).loc n):T7 t s' = true:=by
 have hF:=Cy (Kx (Gl.2 W.form))
 have hF':=Cy (Kx (Gl.2 hf'))
 have hk:=DS s.has n
 have hon:GQ s'.has s'.jf n=w:=by
  have:=hF'.at_ (By s.has n) (by rw [e1,CV hk];omega)
  rw [e1,e2,P4 hk,P4 (by rw [W.form.jl];exact hk)] at this
  rw [e1,e2];exact this
 refine A5r ht E hF hF' W.form.up (fun x hx=>by rw [e1] at hx;exact Ch.1 hx) hno fr (fun c=>by rw [hon];exact hw c) (Gl.2 hf') W.coh (fun a ha=>?_)
 have sa:(if (t.at a).kind=2 then jfF s' a else (a:Int))∈s.has:=by
  by_cases c:(t.at a).kind=2
  ·rw [if_pos c,S3 hF'.len,E.on _ ha];exact (hF.read _ ha c).1
  ·rw [if_neg c];exact ha
 have e0:DY t s' a n=CK (t.at a) (t.at n) (plN t s' a) (plN t s' n):=by rw [DY,Int.toNat_natCast,Int.toNat_natCast]
 have ea:plN t s' a=BH s' (t.at a).loc (if (t.at a).kind=2 then jfF s' a else (a:Int)):=by rw [plN,Int.toNat_natCast]
 have eb:plN t s' n=BH s' (t.at n).loc (if (t.at n).kind=2 then jfF s' n else (n:Int)):=by rw [plN,Int.toNat_natCast]
 rw [e0,ea,eb]
 by_cases c:(t.at n).kind=2∨(t.at n).kind=3
 ·by_cases cl:(t.at a).loc=(t.at n).loc
  ·have:=hp c _ sa
   rw [cl]
   simp only [CK,Bool.or_eq_true]
   refine .inr ?_
   by_cases c2:(t.at n).kind=2
   ·rw [if_pos c2] at this
    rw [if_pos c2,if_pos c2,show jfF s' n=w from by rw [S3 hF'.len];exact hon]
    exact decide_eq_true this
   ·rw [if_neg c2] at this
    rw [if_neg c2,if_neg c2]
    exact decide_eq_true this
  ·simp only [CK,Bool.or_eq_true]
   exact .inl (.inr (by rw [decide_eq_false cl];rfl))
 ·simp only [CK,Bool.or_eq_true]
  refine .inl (.inl (.inr ?_))
  rw [decide_eq_false (fun h=>c (.inl h)),decide_eq_false (fun h=>c (.inr h))];rfl
theorem Ae1 (hk:(t.at n).kind=4):WI t (CA s n (-1)) mem (k+1):=by
 have hm:=Pk ht W hn hno hup (w:=-1) hk
 have hki:=DS s.has n
 have hf:Gb t (CA s n (-1)):=RZ W.form (Cl hn) hno (by rw [Int.toNat_natCast];exact hup) (by simp [okJ,hk]) (by rw [Int.toNat_natCast];omega)
 exact ⟨U9 W.gr hm,by show k+1≤(Bn _ _ _).length;rw [CV hki];have:=W.kl;omega,hf,
  A13 ht W hn hno hup fr (K8 hm).1 hf rfl rfl (fun c=>by omega) (fun c=>by omega),fun loc hl c hc=>by
   obtain ⟨w,a,b,d⟩:=W.one loc hl c hc
   exact ⟨w,a,(K8 hm).1.has _ b,d⟩,W.ml,W.mem⟩
theorem AaD {loc:Nat} (hk:(t.at n).kind=2) (hloc:(t.at n).loc=loc) (hv:(t.at n).val=mem.getD loc 0):Sn t s n (Do s loc)=some (CA s n (Do s loc))∧WI t (CA s n (Do s loc)) mem (k+1):=by
 have hm:=Pk ht W hn hno hup (w:=Do s loc) hk
 have hki:=DS s.has n
 have hl:loc < s.mo.length:=by
  have:=(ht.wloc hn (.inl hk)).2
  have:=W.form.ml
  omega
 obtain ⟨w,e,w1,w2,w3,w4⟩:=W.last hl
 have hj:okJ t s.has n (Do s loc)=true:=by
  have hmem:=W.mem loc (by have:=W.form.ml;omega)
  rw [e,Int.toNat_natCast] at hmem
  simp only [okJ,Int.toNat_natCast,hk,if_true,e,Ll,w2,w3,hloc,A7.2 w1,hv,hmem,decide_true,Bool.and_self]
 have hf:Gb t (CA s n (Do s loc)):=RZ W.form (Cl hn) hno (by rw [Int.toNat_natCast];exact hup) hj (by rw [Int.toNat_natCast];omega)
 have hrd:Sn t s n (Do s loc)=some (CA s n (Do s loc)):=by
  rw [Sn,hm]
  simp only [Gl.2 hf,if_true]
 refine ⟨hrd,U9 W.gr hm,by show k+1≤(Bn _ _ _).length;rw [CV hki];have:=W.kl;omega,hf,
  A13 ht W hn hno hup fr (K8 hm).1 hf rfl rfl (fun c=>by rw [e];exact w1) (fun c v hv=>?_),fun loc hl c hc=>?_,W.ml,W.mem⟩
 ·rw [if_pos hk,hloc,e]
  show BH s loc v≤BH s loc w
  rw [w4]
  rw [BH,if_neg (by omega),Int.toNat_natCast]
  have:=A1n (fun c=>B2 c v) (s.mo.getD loc [])
  have:=W.pos hl
  omega
 ·obtain ⟨w,a,b,d⟩:=W.one loc hl c hc
  exact ⟨w,a,(K8 hm).1.has _ b,d⟩
theorem A8i {loc:Nat} (hk:(t.at n).kind=3) (hth:0≤(t.at n).thread) (hloc:(t.at n).loc=loc) :
  ∃ s',Hw t s n ((s.mo.getD loc []).length:Nat)=some s'∧WI t s' (mem.set loc (t.at n).val) (k+1)∧∀ x,x∈s'.has↔x=(n:Int)∨x∈s.has:=by
 have hm:=Pk ht W hn hno hup (w:=-1) hk
 have hki:=DS s.has n
 have hl:loc < s.mo.length:=by
  have:=(ht.wloc hn (.inr hk)).2
  have:=W.form.ml
  omega
 have hp:=W.pos hl
 have hin:∀ c∈s.mo.getD loc [],∀ x∈c,x∈s.has:=fun c hc x hx=>by
  obtain ⟨w,e,h1,_⟩:=W.one loc hl c hc
  rw [e] at hx
  rw [List.mem_singleton.1 hx];exact h1
 have hf:=ZY W.form (Cl hn) hno (by rw [Int.toNat_natCast];exact hup) (by rw [Int.toNat_natCast];exact hk) (by rw [Int.toNat_natCast];exact hth) (by rw [Int.toNat_natCast];exact hloc) hl hin
 have hwr:Hw t s n ((s.mo.getD loc []).length:Nat)=some { CA s n (-1) with mo:=s.mo.set loc (s.mo.getD loc []++[[(n:Int)]]) }:=by
  rw [Hw,hm]
  simp only [Int.toNat_natCast,hloc]
  rw [if_neg (by show ¬ ((((s.mo.getD loc []).length:Nat):Int) < 1∨(((s.mo.getD loc []).length:Nat):Int) < _);omega)]
  show some ({ CA s n (-1) with mo:=s.mo.set loc ((s.mo.getD loc []).take _++[(n:Int)]::(s.mo.getD loc []).drop _) }:Am)=_
  rw [List.take_length,List.drop_length]
 have hself:(s.mo.set loc (s.mo.getD loc []++[[(n:Int)]])).getD loc []=s.mo.getD loc []++[[(n:Int)]]:=by rw [List.getD_eq_getElem?_getD (l:=s.mo.set _ _),List.getElem?_set,if_pos rfl,if_pos hl];rfl
 have hoth:∀ k,k≠loc→(s.mo.set loc (s.mo.getD loc []++[[(n:Int)]])).getD k []=s.mo.getD k []:=fun k hk=>by rw [List.getD_eq_getElem?_getD (l:=s.mo.set _ _),List.getElem?_set,if_neg (Ne.symm hk),← List.getD_eq_getElem?_getD]
 obtain ⟨E,_⟩:=A4O hwr
 refine ⟨_,hwr,⟨A8k W.gr hwr,by show k+1≤(Bn _ _ _).length;rw [CV hki];have:=W.kl;omega,hf,A13 ht W hn hno hup fr E hf rfl rfl (fun c=>by omega) (fun c v hv=>?_),?_,?_,?_⟩,fun x=>Ch⟩
 ·rw [if_neg (by omega),hloc]
  have hb:¬ ((loc:Int) < 0∨((s.mo.set loc (s.mo.getD loc []++[[(n:Int)]])).length:Int)≤loc):=by rw [List.length_set];omega
  simp only [BH,if_neg hb,Int.toNat_natCast,hself]
  have e1:CG (fun c=>B2 c (n:Int)) (s.mo.getD loc []++[[(n:Int)]])=((s.mo.getD loc []).length:Nat):=by
   refine DG (by simp) (by simp [B2]) (fun j hj=>?_)
   rw [List.getElem_append_left hj,Bool.eq_false_iff]
   intro c
   exact hno (hin _ (List.getElem_mem hj) _ (A7.1 c))
  have e2:B2 [(n:Int)] v=false:=Bool.eq_false_iff.2 fun c=>hno (by rw [← List.mem_singleton.1 (A7.1 c)];exact hv)
  have e3:=M6 (p:=fun c=>B2 c v) (y:=[(n:Int)]) e2 (s.mo.getD loc []) _ (Nat.le_refl _)
  rw [List.take_length,List.drop_length] at e3
  have:=A1n (fun c=>B2 c v) (s.mo.getD loc [])
  rw [if_pos this] at e3
  rw [e1,e3];exact this
 ·intro l hl0 c hc
  have hl':l < s.mo.length:=by have h:l < (s.mo.set loc (s.mo.getD loc []++[[(n:Int)]])).length:=hl0;rwa [List.length_set] at h
  by_cases cl:l=loc
  ·subst cl
   rw [hself,List.mem_append] at hc
   rcases hc with hc | hc
   ·obtain ⟨w,a,b,d⟩:=W.one l hl' c hc
    exact ⟨w,a,E.has _ b,d⟩
   ·rw [List.mem_singleton] at hc
    exact ⟨n,hc,Ch.2 (.inl rfl),hk,hloc⟩
  ·rw [hoth l cl] at hc
   obtain ⟨w,a,b,d⟩:=W.one l hl' c hc
   exact ⟨w,a,E.has _ b,d⟩
 ·rw [List.length_set];exact W.ml
 ·intro l hl'
  have hl'':l < mem.length:=by rw [W.ml];exact hl'
  by_cases cl:l=loc
  ·subst cl
   have e1:Do { CA s n (-1) with mo:=s.mo.set l (s.mo.getD l []++[[(n:Int)]]) } l=n:=by
    simp only [Do,hself]
    rw [List.length_append,List.length_singleton,Nat.add_sub_cancel,List.getD_eq_getElem?_getD (l:=s.mo.getD l []++_),List.getElem?_append_right (Nat.le_refl _),Nat.sub_self]
    rfl
   rw [e1,Int.toNat_natCast,List.getD_eq_getElem?_getD,List.getElem?_set,if_pos rfl,if_pos hl''];rfl
  ·have e1:Do { CA s n (-1) with mo:=s.mo.set loc (s.mo.getD loc []++[[(n:Int)]]) } l=Do s l:=by
    simp only [Do,hoth l cl]
   rw [e1,List.getD_eq_getElem?_getD,List.getElem?_set,if_neg (Ne.symm cl),← List.getD_eq_getElem?_getD]
   exact W.mem l hl'
end
theorem HM.moreN {t:A4}:∀ {n u e:Nat},HM t n u e→u < e∧∀ m,u < m→m < e→0≤(t.at m).up∧((t.at m).rmw=true→(t.at m).kind=3):=by
 intro n
 induction n with
 | zero=>intro u e h;exact absurd h (by simp [HM])
 | succ n ih =>
  intro u e h
  obtain ⟨⟨_,ht,_⟩,h⟩:=h
  rcases h with ⟨_,_,rfl⟩ | ⟨c,_,_,al,hb⟩ | ⟨c,_,_,vals,k,loc,mode,_,hv0,hk0,hke,hloc,hs,_⟩
  ·exact ⟨by omega,fun m h1 h2=>by omega⟩
  ·have:=(ih hb).1
   refine ⟨by omega,fun m h1 h2=>?_⟩
   by_cases e1:m=u+1
   ·subst e1
    refine ⟨by rw [(JR c).1];omega,fun hr=>?_⟩
    simp only [Dc,Bool.or_eq_true,Bool.and_eq_true,decide_eq_true_eq,Bool.not_eq_true'] at al
    rcases al with h | h
    ·rw [h.1.1.2] at hr;cases hr
    ·exact h.1.1.1
   ·exact (ih hb).2 m (by omega) h2
  ·have mono:∀ v,v≤vals→k 0≤k v:=by
    intro v
    induction v with
    | zero=>intro _;omega
    | succ v iv=>intro hv;have:=iv (by omega);have:=(ih (hs v (by omega)).2.2).1;omega
   refine ⟨by have:=mono vals (by omega);omega,fun m h1 h2=>?_⟩
   obtain ⟨v,hv,a,b⟩:=Ey (k:=k) (m:=m) vals (by omega) (by omega)
   obtain ⟨s1,s2,s3⟩:=hs v hv
   by_cases e1:m=k v
   ·subst e1
    simp only [Em,Bool.and_eq_true,decide_eq_true_eq,Bool.not_eq_true'] at s2
    exact ⟨by rw [(JR s1).1];omega,fun hr=>by rw [s2.2] at hr;cases hr⟩
   ·exact (ih s3).2 m (by omega) b
theorem Aa.kinds {t:A4} (h:Aa t):∃ s:Nat→Nat,(∀ v,v < t.regs.length→s v < t.nodes.length∧t.locs.length≤s v∧(t.at (s v)).thread=v∧(t.at (s v)).up = -1∧(t.at (s v)).kind=1)∧(∀ m,m < t.nodes.length→m < t.locs.length∨(∃ v,v < t.regs.length∧m=s v)∨(0≤(t.at m).up∧((t.at m).rmw=true→(t.at m).kind=3))):=by
 obtain ⟨s,h0,he,hs⟩:=h.thr
 have mono:∀ d v,v+d≤t.regs.length→s v+d≤s (v+d):=by
  intro d
  induction d with
  | zero=>intro v _;simp
  | succ d ih =>
   intro v hv
   have:=ih v (by omega)
   obtain ⟨_,n,hn⟩:=hs (v+d) (by omega)
   have:=hn.moreN.1
   rw [Nat.add_assoc] at this
   omega
 refine ⟨s,fun v hv=>?_,fun m hm=>?_⟩
 ·obtain ⟨hb,n,hn⟩:=hs v hv
  simp only [Et,Bool.and_eq_true,decide_eq_true_eq] at hb
  have a:=mono v 0 (by omega)
  have b:=mono (t.regs.length - v) v (by omega)
  rw [show v+(t.regs.length - v)=t.regs.length by omega] at b
  rw [Nat.zero_add] at a
  exact ⟨by omega,by omega,hb.1.1.1.1.1.1,hb.1.1.1.1.1.2,hb.1.1.1.1.2⟩
 ·by_cases c:m < t.locs.length
  ·exact .inl c
  ·obtain ⟨v,hv,a,b⟩:=Ey (k:=s) (m:=m) t.regs.length (by omega) (by omega)
   obtain ⟨hb,n,hn⟩:=hs v hv
   by_cases e1:m=s v
   ·exact .inr (.inl ⟨v,hv,e1⟩)
   ·exact .inr (.inr (hn.moreN.2 m (by omega) b))
theorem Aa.top {t:A4} (h:Aa t) {m:Nat} (hm:m < t.nodes.length) (h0:0≤(t.at m).thread) (hu:(t.at m).up < 0):(t.at m).kind=1:=by
 obtain ⟨s,h1,h2⟩:=h.kinds
 rcases h2 m hm with c | ⟨v,hv,rfl⟩ | c
 ·have:=(h.init m c).thr;omega
 ·exact (h1 v hv).2.2.2.2
 ·omega
theorem Aa.tops {t:A4} (h:Aa t) {m k:Nat} (hm:m < t.nodes.length) (hk:k < t.nodes.length) (h0:0≤(t.at m).thread) (hu:(t.at m).up < 0) (huk:(t.at k).up < 0) (e:(t.at k).thread=(t.at m).thread):k=m:=by
 obtain ⟨s,h1,h2⟩:=h.kinds
 rcases h2 m hm with c | ⟨v,hv,rfl⟩ | c
 ·have:=(h.init m c).thr;omega
 ·rcases h2 k hk with c | ⟨w,hw,rfl⟩ | c
  ·have:=(h.init k c).thr;omega
  ·have a:=(h1 v hv).2.2.1
   have b:=(h1 w hw).2.2.1
   have:w=v:=by omega
   rw [this]
  ·omega
 ·omega
theorem Aa.rmw3 {t:A4} (h:Aa t) {m:Nat} (hm:m < t.nodes.length) (h0:0≤(t.at m).up) (hr:(t.at m).rmw=true):(t.at m).kind=3:=by
 obtain ⟨s,h1,h2⟩:=h.kinds
 rcases h2 m hm with c | ⟨v,hv,rfl⟩ | c
 ·exact (h.init m c).kind
 ·have:=(h1 v hv).2.2.2.1;omega
 ·exact c.2 hr
def RK (t:A4) (k:Nat):List Nat:=(List.range k).filter fun i=>!decide ((t.at i).thread < 0) && decide ((t.at i).up < 0)
def Lx (t:A4) (k:Nat):List Int:=((List.range k).filter fun i=>decide ((t.at i).thread < 0)).map fun i=>(t.at i).val
theorem A25 {t:A4} (h:Aa t):Lx t t.nodes.length=(List.range t.locs.length).map fun i=>(t.at i).val:=by
 have hl:=h.first.1
 have e:t.nodes.length=t.locs.length+(t.nodes.length - t.locs.length):=by omega
 unfold Lx
 congr 1
 rw [e,List.range_add,List.filter_append,List.filter_eq_self.2,List.filter_eq_nil_iff.2,List.append_nil]
 ·intro a ha
  obtain ⟨i,hi,rfl⟩:=List.mem_map.1 ha
  have hi:=List.mem_range.1 hi
  have:=(h.thr_iff (m:=t.locs.length+i) (by omega)).1
  simp only [decide_eq_true_eq]
  omega
 ·intro a ha
  have ha:=List.mem_range.1 ha
  exact decide_eq_true ((h.thr_iff (m:=a) (by omega)).2 ha)
theorem EL {t:A4} {x:Int}:x∈(Bp t).has↔∃ m:Nat,x=m∧m < t.nodes.length∧(t.at m).up < 0:=by
 simp only [Bp,DL,List.mem_map,List.mem_filter,List.mem_range,decide_eq_true_eq]
 constructor
 ·rintro ⟨i,⟨h1,h2⟩,rfl⟩;exact ⟨i,rfl,h1,h2⟩
 ·rintro ⟨i,rfl,h1,h2⟩;exact ⟨i,⟨h1,h2⟩,rfl⟩
theorem Pj {t:A4} (h:Aa t) {m:Nat} (hm:m < t.nodes.length) (hu:(t.at m).up < 0):(m < t.locs.length∧(t.at m).kind=3)∨(t.locs.length≤m∧(t.at m).kind=1):=by
 by_cases c:m < t.locs.length
 ·exact .inl ⟨c,(h.init m c).kind⟩
 ·refine .inr ⟨by omega,h.top hm ?_ hu⟩
  have:=(h.thr_iff hm).1
  omega
theorem A3h {t:A4} {loc:Nat} (h:loc < t.locs.length):(Bp t).mo.getD loc []=[[(loc:Int)]]:=by
 simp [Bp,h]
theorem A3g {t:A4} (h:Aa t):Gb t (Bp t):=by
 refine ⟨fun n hn=>?_,fun n hn=>?_,?_,?_,?_,fun i hi=>?_,by simp [Bp],fun loc hl=>?_,fun n hn kn=>?_⟩
 ·obtain ⟨m,rfl,hm,_⟩:=EL.1 hn;exact Cl hm
 ·obtain ⟨m,rfl,hm,hu⟩:=EL.1 hn;exact .inl hu
 ·simp only [Bp,DL,List.pairwise_map]
  exact (List.pairwise_lt_range.filter _).imp fun h=>by omega
 ·apply BitVec.eq_of_getLsbD_eq
  intro i hi
  rw [BitVec.getLsbD_or,JZ,AF]
  cases hc:(CD (Bp t).has).getLsbD i with
  | true=>simp
  | false =>
   rw [Bool.or_false,Bool.eq_false_iff]
   intro hx
   simp only [Bool.and_eq_true,decide_eq_true_eq] at hx
   have:=KK (Bp t).has (x:=(i:Int)) (by omega) (by omega)
   rw [AH,hc,A7.2 (EL.2 ⟨i,rfl,hx.1.1,hx.1.2⟩)] at this;cases this
 ·simp [Bp]
 ·have hm:=Aj (d:=0) hi
  obtain ⟨m,e,hm,hu⟩:=EL.1 hm
  have hj:(Bp t).jf.getD i 0 = -1:=by
   have hi':i < (DL t t.nodes.length).length:=hi
   simp [Bp,hi']
  rw [e,hj]
  rcases Pj h hm hu with c | c<;>simp [okJ,c.2]
 ·have hl':loc < t.locs.length:=by simpa [Bp] using hl
  simp only [Gx,A3h hl',Bool.and_eq_true,Ar]
  refine ⟨⟨rfl,by simp⟩,fun i hi=>?_⟩
  have:i=0:=by simp at hi;omega
  simp [this]
 ·obtain ⟨m,rfl,hm,hu⟩:=EL.1 hn
  rw [Int.toNat_natCast] at kn ⊢
  rcases Pj h hm hu with c | c
  ·rw [(h.init m c.1).loc,Int.toNat_natCast,A3h c.1];simp [B2]
  ·omega
theorem Aao {t:A4} {loc:Nat} (hl:loc < t.locs.length):Do (Bp t) loc=loc:=by
 rw [Do,A3h hl];rfl
theorem AdJ {t:A4} (h:Aa t):T7 t (Bp t)=true:=by
 rw [T7,Gl.2 (A3g h),Bool.true_and,List.all_eq_true]
 intro x hx
 obtain ⟨a,b,ha,rfl,hpt⟩:=(DI h.n64 _ _).1 hx
 have edge:∀ a b:Nat,JX t (Bp t).has (Bp t).jf a b=true→(t.at b).kind=1:=by
  intro a b hh
  simp only [JX,Bool.or_eq_true,Bool.and_eq_true,A7] at hh
  rcases hh with ⟨⟨hA,hB⟩,hbf⟩ | hh
  ·obtain ⟨m,e,hm,hu⟩:=EL.1 hB
   have e:b=m:=by omega
   subst e
   rcases Pj h hm hu with c | c
   ·exfalso
    have hth:=(h.init b c.1).thr
    simp only [Ao,Bool.and_eq_true,Int.toNat_natCast] at hbf
    have hb2:=hbf.2
    split at hb2
    ·have:=of_decide_eq_true hb2;omega
    ·have hb':=G6 h (a:=a) (b:=b) (by simp only [Ao,Bool.and_eq_true,Int.toNat_natCast];exact hbf)
     rename_i hn
     have:=(h.thr_iff (m:=a) (by omega)).2 (by omega)
     exact hn this
   ·exact c.2
  ·exfalso
   simp only [swB,List.any_eq_true,Bool.and_eq_true] at hh
   obtain ⟨r,hr,⟨hs,_⟩,_⟩:=hh
   obtain ⟨m,rfl,hm,hu⟩:=EL.1 hr
   simp only [Ht,Bool.and_eq_true,decide_eq_true_eq,Int.toNat_natCast] at hs
   rcases Pj h hm hu with c | c<;>omega
 have kb:(t.at b).kind=1:=by
  cases hpt with
  | one _ hh=>exact edge _ _ hh
  | more _ _ hh=>exact edge _ _ hh
 show DY t (Bp t) a b=true
 simp [DY,CK,kb]
theorem AgG {t:A4} (h:Aa t):WI t (Bp t) (Lx t t.nodes.length) 0:=by
 refine ⟨A7X h,Nat.zero_le _,A3g h,AdJ h,fun loc hl c hc=>?_,by rw [A25 h];simp,fun loc hl=>?_⟩
 ·have hl':loc < t.locs.length:=by simpa [Bp] using hl
  rw [A3h hl',List.mem_singleton] at hc
  have I:=h.init loc hl'
  exact ⟨loc,hc,EL.2 ⟨loc,rfl,by have:=h.first.1;omega,by rw [I.up];decide⟩,I.kind,I.loc⟩
 ·rw [A25 h,Aao hl,Int.toNat_natCast]
  simp [hl]
structure StI (t:A4) (s:Am) (at_:List Nat):Prop where
 has:∀ u∈at_,(u:Int)∈s.has∧0≤(t.at u).thread
 top:∀ u∈at_,∀ x:Nat,(x:Int)∈s.has→(t.at x).thread=(t.at u).thread→x≤u
 pw:at_.Pairwise fun a b=>(t.at a).thread≠(t.at b).thread
 chain:∀ u∈at_,∀ x:Nat,(x:Int)∈s.has→(t.at x).thread=(t.at u).thread→x=u∨AQ t x u=true
 cov:∀ x:Nat,(x:Int)∈s.has→0≤(t.at x).thread→∃ u∈at_,(t.at u).thread=(t.at x).thread
theorem Pz {t:A4} (hu:JC t) {x n m:Nat} (hn:n < t.nodes.length) (e:(t.at n).up=(m:Int)):AQ t x n=(decide (m=x) || AQ t x m):=by
 unfold AQ
 have:=hu n hn
 rw [Gi hu x (by omega),e,if_neg (by omega),Int.toNat_natCast]
 by_cases c:m=x
 ·rw [if_pos (by omega),decide_eq_true c,Bool.true_or]
 ·rw [if_neg (by omega),decide_eq_false c,Bool.false_or]
theorem AgF {t:A4} (h:Aa t):StI t (Bp t) (RK t t.nodes.length):=by
 have key:∀ u∈RK t t.nodes.length,u < t.nodes.length∧0≤(t.at u).thread∧(t.at u).up < 0:=by
  intro u hu
  simp only [RK,List.mem_filter,List.mem_range,Bool.and_eq_true,Bool.not_eq_true',decide_eq_true_eq,decide_eq_false_iff_not] at hu
  exact ⟨hu.1,by omega,hu.2.2⟩
 refine ⟨fun u hu=>?_,fun u hu x hx e=>?_,?_,fun u hu x hx e=>?_,fun x hx h0=>?_⟩
 ·obtain ⟨a,b,c⟩:=key u hu
  exact ⟨EL.2 ⟨u,rfl,a,c⟩,b⟩
 ·obtain ⟨a,b,c⟩:=key u hu
  obtain ⟨m,e1,hm,hv⟩:=EL.1 hx
  have e1:x=m:=by omega
  subst e1
  exact Nat.le_of_eq (h.tops a hm b c hv e)
 ·have hp:(RK t t.nodes.length).Pairwise (· < ·):=List.pairwise_lt_range.filter _
  refine (List.Pairwise.and_mem.1 hp).imp ?_
  rintro a b ⟨ha,hb,hlt⟩ e
  obtain ⟨a1,a2,a3⟩:=key a ha
  obtain ⟨b1,b2,b3⟩:=key b hb
  have:=h.tops b1 a1 b2 b3 a3 e
  omega
 ·obtain ⟨a,b,c⟩:=key u hu
  obtain ⟨m,e1,hm,hv⟩:=EL.1 hx
  have e1:x=m:=by omega
  subst e1
  exact .inl (h.tops a hm b c hv e)
 ·obtain ⟨m,e1,hm,hv⟩:=EL.1 hx
  have e1:x=m:=by omega
  subst e1
  refine ⟨x,?_,rfl⟩
  simp only [RK,List.mem_filter,List.mem_range,Bool.and_eq_true,Bool.not_eq_true',decide_eq_true_eq,decide_eq_false_iff_not]
  exact ⟨hm,by omega,hv⟩
theorem A8R {t:A4} (ht:Aa t) {a:Nat}:∀ (n:Nat) (b:Nat),b < n→b < t.nodes.length→AQ t a b=true→(t.at a).thread=(t.at b).thread:=by
 intro n
 induction n with
 | zero=>intro b h;omega
 | succ n ih =>
  intro b hbn hb h
  have hu:=ht.up
  unfold AQ at h
  have hub:=hu b hb
  rw [Gi hu a (by omega)] at h
  by_cases c1:(t.at b).up < 0
  ·rw [if_pos c1] at h;cases h
  ·rw [if_neg c1] at h
   have hl:t.locs.length≤b:=by
    rcases Nat.lt_or_ge b t.locs.length with h1 | h1
    ·have:=(ht.init b h1).up;omega
    ·exact h1
   have hp:=(ht.good b hl hb).par (by omega)
   rw [← hp]
   by_cases c2:(t.at b).up=a
   ·rw [c2,Int.toNat_natCast]
   ·rw [if_neg c2] at h
    exact ih (t.at b).up.toNat (by omega) (by omega) h
theorem Py {t:A4} (ht:Aa t) {a b:Nat} (ha:0≤(t.at a).thread) (h:Ao t a b=true):(t.at a).thread=(t.at b).thread:=by
 simp only [Ao,Bool.and_eq_true,Int.toNat_natCast] at h
 obtain ⟨⟨h1,h2⟩,h3⟩:=h
 simp only [BT,Bool.and_eq_true,decide_eq_true_eq] at h1 h2
 rw [if_neg (by omega)] at h3
 exact A8R ht (b+1) b (by omega) (by omega) h3
def Gn (t:A4) (u:Nat):List Nat:=if (t.at u).thread < 0 then [] else (List.range t.nodes.length).filter fun i=>decide ((t.at i).up=u)
def EY (t:A4) (mem:List Int) (i:Nat):Bool:=!decide ((t.at i).kind=2) || decide ((t.at i).val=mem.getD (t.at i).loc.toNat 0)
def W4 (t:A4) (i:Nat):Nat:=if (t.at i).kind=2∧EC t i=true then i+1 else i
def GA (t:A4) (mem:List Int) (i:Nat):List Int:=if (t.at i).kind=3 then mem.set (t.at i).loc.toNat (t.at i).val else mem
def GH (t:A4) (u:Nat) (mem:List Int):Option (Nat×List Int):=if (t.at u).fin=true then none else ((Gn t u).find? (EY t mem)).map fun i=>(W4 t i,GA t mem (W4 t i))
inductive Wlk (t:A4) (s:Am) (n:Nat) (s':Am):Prop
 | bar:(t.at n).kind=4→Dp t s n 4 (-1)=some s'→Wlk t s n s'
 | read (loc:Nat):(t.at n).kind=2→(t.at n).loc=loc→Sn t s n (Do s loc)=some s'→Wlk t s n s'
 | write (loc:Nat):(t.at n).kind=3→(t.at n).loc=loc→Hw t s n ((s.mo.getD loc []).length:Nat)=some s'→Wlk t s n s'
theorem A3o {t:A4} (ht:Aa t) {s:Am} {mem:List Int} {k n:Nat} (W:WI t s mem k) (hn:n < t.nodes.length) (hno:(n:Int)∉s.has) (hup:(t.at n).up∈s.has) (fr:∀ b:Nat,(b:Int)∈s.has→Ao t n b=false)
  (hth:0≤(t.at n).thread) (hu:0≤(t.at n).up) (hv:(t.at n).kind=2→(t.at n).val=mem.getD (t.at n).loc.toNat 0) :
  ∃ s',Wlk t s n s'∧WI t s' (GA t mem n) (k+1)∧∀ x,x∈s'.has↔x=(n:Int)∨x∈s.has:=by
 rcases ht.kind hn hu with c | c | c
 ·have hl:=ht.wloc hn (.inl c)
  obtain ⟨loc,e⟩:=Int.eq_ofNat_of_zero_le hl.1
  have hv:=hv c
  rw [e] at hv
  obtain ⟨a,b⟩:=AaD ht W hn hno hup fr (loc:=loc) c e hv
  refine ⟨_,.read loc c e a,?_,fun x=>Ch⟩
  rw [GA,if_neg (by omega)];exact b
 ·have hl:=ht.wloc hn (.inr c)
  obtain ⟨loc,e⟩:=Int.eq_ofNat_of_zero_le hl.1
  obtain ⟨s',a,b,d⟩:=A8i ht W hn hno hup fr (loc:=loc) c hth e
  refine ⟨s',.write loc c e a,?_,d⟩
  rw [GA,if_pos c,e];exact b
 ·refine ⟨_,.bar c (Pk ht W hn hno hup c),?_,fun x=>Ch⟩
  rw [GA,if_neg (by omega)];exact Ae1 ht W hn hno hup fr c
theorem Aap {t:A4} (ht:Aa t) {s:Am} {mem:List Int} {k:Nat} (W:WI t s mem k) {at_:List Nat} (S:StI t s at_) {j u to:Nat} {out:List Int} (hj:j < at_.length) (hju:at_[j]=u) (h:GH t u mem=some (to,out)) :
  to < t.nodes.length∧∃ s1 s2 k1 k2,(if (t.at to).up≠(u:Int) then (∃ m:Nat,(t.at to).up=m∧m < t.nodes.length∧Wlk t s m s1) else s1=s)∧WI t s1 mem k1∧Wlk t s1 to s2∧WI t s2 out k2∧k < k2∧StI t s2 (at_.set j to):=by
 unfold GH at h
 split at h
 ·cases h
 ·obtain ⟨i,hi,e⟩:=Option.map_eq_some_iff.1 h
  simp only [Prod.mk.injEq] at e
  obtain ⟨rfl,rfl⟩:=e
  have hc:=List.find?_some hi
  have hm:=List.mem_of_find?_eq_some hi
  unfold Gn at hm
  split at hm
  ·cases hm
  ·rename_i hth
   simp only [List.mem_filter,List.mem_range,decide_eq_true_eq] at hm
   obtain ⟨hin,hiu⟩:=hm
   have huA:u∈at_:=hju ▸ List.getElem_mem hj
   obtain ⟨hus,hut⟩:=S.has u huA
   have hlt:=ht.up i hin
   have lo:∀ m,m < t.nodes.length→0≤(t.at m).up→t.locs.length≤m:=fun m hm hu=>by
    rcases Nat.lt_or_ge m t.locs.length with h1 | h1
    ·have:=(ht.init m h1).up;omega
    ·exact h1
   have par:∀ m,m < t.nodes.length→0≤(t.at m).up→(t.at m).thread=(t.at (t.at m).up.toNat).thread:=fun m hm hu=>((ht.good m (lo m hm hu) hm).par hu).symm
   have thi:(t.at i).thread=(t.at u).thread:=by rw [par i hin (by omega),hiu,Int.toNat_natCast]
   have newer:∀ m:Nat,(t.at m).thread=(t.at u).thread→u < m→(m:Int)∉s.has:=fun m e hm hc=>by have:=S.top u huA m hc e;omega
   have hv:(t.at i).kind=2→(t.at i).val=mem.getD (t.at i).loc.toNat 0:=fun c=>by
    simp only [EY,c,decide_true,Bool.not_true,Bool.false_or,decide_eq_true_eq] at hc
    exact hc
   have fr1:∀ b:Nat,(b:Int)∈s.has→Ao t i b=false:=fun b hb=>by
    rw [Bool.eq_false_iff]
    intro hbf
    have h1:=G6 ht hbf
    have h2:=Py ht (by omega) hbf
    exact newer b (by omega) (by omega) hb
   obtain ⟨s1,w1,W1,m1⟩:=A3o ht W hin (newer i thi (by omega)) (by rw [hiu];exact hus) fr1 (by omega) (by omega) hv
   have fin:∀ {s2:Am} {v:Nat},(∀ x,x∈s2.has→x∈s.has∨x=(i:Int)∨x=(v:Int))→(∀ x,x∈s.has→x∈s2.has)→(v:Int)∈s2.has→i≤v→(t.at v).thread=(t.at u).thread→(v=i∨(v < t.nodes.length∧(t.at v).up=(i:Int)))→StI t s2 (at_.set j v):=by
    intro s2 v h1 h2 h3 h4 h5 h6
    have hbi:∀ x:Nat,(x=u∨AQ t x u=true)→AQ t x i=true:=fun x h=>by
     rw [Pz ht.up hin hiu]
     rcases h with h | h
     ·rw [h,decide_eq_true rfl,Bool.true_or]
     ·rw [h,Bool.or_true]
    have hbv:∀ x:Nat,AQ t x i=true→x=v∨AQ t x v=true:=fun x h=>by
     rcases h6 with h6 | ⟨h6,h7⟩
     ·rw [h6];exact .inr h
     ·rw [Pz ht.up h6 h7,h,Bool.or_true];exact .inr rfl
    refine ⟨fun x hx=>?_,fun x hx y hy e=>?_,?_,fun x hx y hy e=>?_,fun x hx h0=>?_⟩
    ·rcases List.mem_or_eq_of_mem_set hx with hx | rfl
     ·exact ⟨h2 _ (S.has x hx).1,(S.has x hx).2⟩
     ·exact ⟨h3,by omega⟩
    ·obtain ⟨p,hp,rfl⟩:=List.getElem_of_mem hx
     rw [List.length_set] at hp
     rw [List.getElem_set] at e ⊢
     by_cases c:j=p
     ·rw [if_pos c] at e ⊢
      rcases h1 _ hy with a | a | a
      ·have:=S.top u huA y a (by omega);omega
      ·omega
      ·omega
     ·rw [if_neg c] at e ⊢
      have hd:(t.at at_[p]).thread≠(t.at u).thread:=by
       have:=List.pairwise_iff_getElem.1 S.pw
       rw [← hju]
       rcases Nat.lt_or_ge j p with q | q
       ·exact fun e=>this j p hj hp q e.symm
       ·exact fun e=>this p j hp hj (by omega) e
      rcases h1 _ hy with a | a | a
      ·exact S.top _ (List.getElem_mem hp) y a e
      ·have:y=i:=by omega
       subst this;rw [thi] at e;exact absurd e.symm hd
      ·have:y=v:=by omega
       subst this;rw [h5] at e;exact absurd e.symm hd
    ·rw [List.pairwise_iff_getElem]
     intro a b ha hb hab
     rw [List.length_set] at ha hb
     have key:=List.pairwise_iff_getElem.1 S.pw a b ha hb hab
     rw [List.getElem_set,List.getElem_set]
     by_cases c1:j=a
     ·subst c1
      rw [if_pos rfl,if_neg (by omega),h5,← hju];exact key
     ·rw [if_neg c1]
      by_cases c2:j=b
      ·subst c2
       rw [if_pos rfl,h5,← hju];exact key
      ·rw [if_neg c2];exact key
    ·obtain ⟨p,hp,rfl⟩:=List.getElem_of_mem hx
     rw [List.length_set] at hp
     rw [List.getElem_set] at e ⊢
     by_cases c:j=p
     ·rw [if_pos c] at e ⊢
      rcases h1 _ hy with a | a | a
      ·exact hbv y (hbi y (S.chain u huA y a (by omega)))
      ·have:y=i:=by omega
       subst this
       rcases h6 with h6 | ⟨h6,h7⟩
       ·exact .inl h6.symm
       ·rw [Pz ht.up h6 h7,decide_eq_true rfl,Bool.true_or];exact .inr rfl
      ·exact .inl (by omega)
     ·rw [if_neg c] at e ⊢
      have hd:(t.at at_[p]).thread≠(t.at u).thread:=by
       have:=List.pairwise_iff_getElem.1 S.pw
       rw [← hju]
       rcases Nat.lt_or_ge j p with q | q
       ·exact fun e=>this j p hj hp q e.symm
       ·exact fun e=>this p j hp hj (by omega) e
      rcases h1 _ hy with a | a | a
      ·exact S.chain _ (List.getElem_mem hp) y a e
      ·have:y=i:=by omega
       subst this;rw [thi] at e;exact absurd e.symm hd
      ·have:y=v:=by omega
       subst this;rw [h5] at e;exact absurd e.symm hd
    ·have hvm:v∈at_.set j v:=List.mem_set hj v
     rcases h1 _ hx with a | a | a
     ·obtain ⟨w,hw,hwt⟩:=S.cov x a h0
      obtain ⟨p,hp,rfl⟩:=List.getElem_of_mem hw
      by_cases c:j=p
      ·subst c
       rw [hju] at hwt
       exact ⟨v,hvm,by rw [h5];exact hwt⟩
      ·refine ⟨_,List.getElem_mem (show p < (at_.set j v).length by rw [List.length_set];exact hp),?_⟩
       rw [List.getElem_set,if_neg c];exact hwt
     ·have:x=i:=by omega
      subst this
      exact ⟨v,hvm,by rw [h5,thi]⟩
     ·have:x=v:=by omega
      subst this
      exact ⟨x,hvm,rfl⟩
   by_cases cr:(t.at i).kind=2∧EC t i=true
   ·have e:W4 t i=i+1:=by rw [W4,if_pos cr]
    rw [e]
    have hr:=cr.2
    simp only [EC,Bool.and_eq_true,decide_eq_true_eq] at hr
    obtain ⟨⟨r1,r2⟩,r3⟩:=hr
    have th2:(t.at (i+1)).thread=(t.at u).thread:=by rw [par (i+1) r1 (by omega),r2,Int.toNat_natCast,thi]
    have k3:=ht.rmw3 r1 (by omega) r3
    have hno2:((i+1:Nat):Int)∉s1.has:=fun hx=>by
     rcases (m1 _).1 hx with a | a
     ·omega
     ·exact newer (i+1) th2 (by omega) a
    have fr2:∀ b:Nat,(b:Int)∈s1.has→Ao t (i+1:Nat) b=false:=fun b hb=>by
     rw [Bool.eq_false_iff]
     intro hbf
     have h1:=G6 ht hbf
     have h2:=Py ht (by omega) hbf
     rcases (m1 _).1 hb with a | a
     ·omega
     ·exact newer b (by omega) (by omega) a
    obtain ⟨s2,w2,W2,m2⟩:=A3o ht W1 r1 hno2 (by rw [r2];exact (m1 _).2 (.inl rfl)) fr2 (by omega) (by omega) (fun c=>by omega)
    have oe:GA t mem i=mem:=by rw [GA,if_neg (by omega)]
    rw [oe] at W2
    rw [oe] at W1
    refine ⟨r1,s1,s2,k+1,k+1+1,?_,W1,w2,W2,by omega,fin (fun x hx=>?_) (fun x hx=>(m2 _).2 (.inr ((m1 _).2 (.inr hx)))) ((m2 _).2 (.inl rfl)) (by omega) th2 (.inr ⟨r1,r2⟩)⟩
    ·rw [if_pos (by rw [r2];omega)];exact ⟨i,r2,hin,w1⟩
    ·rcases (m2 _).1 hx with a | a
     ·exact .inr (.inr a)
     ·rcases (m1 _).1 a with a | a
      ·exact .inr (.inl a)
      ·exact .inl a
   ·have e:W4 t i=i:=by rw [W4,if_neg cr]
    rw [e]
    refine ⟨hin,s,s1,k,k+1,by rw [if_neg (by rw [hiu];simp)],W,w1,W1,by omega,fin (fun x hx=>?_) (fun x hx=>(m1 _).2 (.inr hx)) ((m1 _).2 (.inl rfl)) (Nat.le_refl _) thi (.inl rfl)⟩
    rcases (m1 _).1 hx with a | a
    ·exact .inr (.inl a)
    ·exact .inl a
def nI (l:List Nat):List Int:=l.map fun (n:Nat)=>(n:Int)
theorem Bz (l:List Nat):(nI l).length=l.length:=by simp [nI]
theorem Ua (l:List Nat) (x:Nat):nI l++[(x:Int)]=nI (l++[x]):=by simp [nI]
theorem Adu (l:List Nat) (j x:Nat):(nI l).set j (x:Int)=nI (l.set j x):=by simp [nI]
theorem Adt {l:List Nat} {j:Nat} (h:j < l.length):(nI l).getD j 0=(l[j]:Nat):=by simp [nI,h]
def PU (t:A4) (u:Nat) (k:Nat):List Nat:=(List.range k).filter fun i=>decide ((t.at i).up=u)
theorem Aci {t:A4} {u k:Nat} (h:decide ((t.at k).up=(u:Int))=true):PU t u (k+1)=PU t u k++[k]:=by
 rw [PU,List.range_succ,List.filter_append];simp [h,PU,of_decide_eq_true h]
theorem Ach {t:A4} {u k:Nat} (h:decide ((t.at k).up=(u:Int))=false):PU t u (k+1)=PU t u k:=by
 rw [PU,List.range_succ,List.filter_append];simp [h,PU,of_decide_eq_false h]
theorem A6v (t:A4) (u k:Nat):(PU t u k).length≤k:=by
 refine Nat.le_trans (List.length_filter_le _ _) ?_;simp
theorem A88 {h:VH} {ty e b:Nat} {x y y':VV} (k:JE h e y=JE h e y'):Hv h ty e b x y=Hv h ty e b x y':=by unfold Hv;rw [k]
theorem A8g {h:VH} {ty e j:Nat} {ys:List (List VV)} (k:h[j]? = some (some (AN ty e ys))) (ho:D0 e ys=true):JE h e (.sl j ys.length 0 ys.length)=JE h e (.ls ys):=by
 simp only [JE,BS,k,DP,Nat.beq_refl,cond_true,RJ,Nat.zero_add,Nat.ble_eq,Nat.le_refl,List.drop_zero,List.take_length,ho]
 have:=@A59 ty e ys
 cases hb:(Nat.beq (AN ty e ys).esz e || (AN ty e ys).nl) with
 | true =>
  have:Nat.ble ys.length ys.length=true:=by simp
  simp [this]
 | false =>
  exfalso
  simp only [Bool.or_eq_false_iff] at hb
  simp only [Bool.or_eq_true,decide_eq_true_eq] at this
  rcases this with h | h
  ·rw [h,Nat.beq_refl] at hb;cases hb.1
  ·rw [h] at hb;cases hb.2
section
variable {V:Al} (C:AA V) {Q:VV→Prop}
include C
set_option maxHeartbeats 4000000 in
theorem Mh (t:A4) (ht:Aa t) (u:Nat) (hu:u < t.nodes.length) (hth:0≤(t.at u).thread):VP V Un [vT t,.i .i64 u] Q↔Q (lI (nI (Gn t u))):=by
 refine Ae ?_
 rw [Ab C.c_z121.1 C.c_z121.2]
 have h64:=ht.n64
 have hke:Gn t u=PU t u t.nodes.length:=by rw [Gn,if_neg (by omega)];rfl
 rw [hke]
 have c0:decide ((u:Int) < 0)=false:=decide_eq_false (by omega)
 have c1:decide ((t.nodes.length:Int)≤u)=false:=decide_eq_false (by omega)
 have c1':decide (t.nodes.length≤u)=false:=decide_eq_false (by omega)
 have c2:decide ((t.at u).thread < 0)=false:=decide_eq_false (by omega)
 simp only [Z8,Hj,go_sem,↓reduceIte,c0,c1,c1',hu,A5 hu,c2]
 refine A8 (by decide) t.nodes.length (by omega) (I:=fun k F h=>A3.tmp F 1 = .i .i64 u∧A3.tmp F 2 = .fp (eT t) 0∧∃ L,L=nI (PU t u k)∧A3.tmp F 5 = .sl 0 L.length 0 L.length∧h=[some (AN B3 1 (L.map eI))]) ?_ ?_ ?_ 0 _ _ (Nat.zero_le _) ?_ ?_
 ·rintro k F h hk p6 ⟨p1,p2,L,hL,p5,rfl⟩
  simp only [Hj,go_sem,↓reduceIte,p1,p2,p5,p6]
  exact ⟨L,hL,rfl,rfl⟩
 ·rintro k F h hk p6 ⟨p1,p2,L,hL,p5,rfl⟩
  have hlen:=A6v t u k
  have b1:(L.length+1) * 8≤A6:=by rw [hL,Bz];unfold A6;omega
  cases c3:decide ((t.at k).up=(u:Int)) with
  | false =>
   simp only [Hj,go_sem,↓reduceIte,p1,p2,p5,p6,hk,A5 hk,c3,A0]
   exact ⟨L,by rw [Ach c3];exact hL,rfl,rfl⟩
  | true =>
   simp only [Hj,go_sem,↓reduceIte,p1,p2,p5,p6,hk,A5 hk,c3,A0,b1,QQ,List.length_append,List.length_map]
   exact ⟨L++[(k:Int)],by rw [Aci c3,hL,Ua],by simp,rfl⟩
 ·rintro F h ⟨p1,p2,L,hL,p5,rfl⟩
  subst hL
  simp only [Hj,go_sem,↓reduceIte,p1,p2,p5,List.length_map]
 ·simp only [Hj,go_sem,↓reduceIte]
 ·simp only [Hj,go_sem,↓reduceIte]
  exact ⟨[],rfl,rfl,rfl⟩
set_option maxHeartbeats 4000000 in
theorem Hc (t:A4) (ht:Aa t) (u:Nat) (hu:u < t.nodes.length):VP V Uo [vT t,.i .i64 u] Q↔Q (.b (EC t u)):=by
 refine Ae ?_
 rw [Ab C.c_z122.1 C.c_z122.2]
 have h64:=ht.n64
 have w1:IntKind.i64.wrap ((u:Int)+1)=((u+1:Nat):Int):=by rw [AG (by omega) (by omega)];omega
 unfold EC
 by_cases c1:u+1 < t.nodes.length
 ·have c1':decide (((u+1:Nat):Int) < (t.nodes.length:Int))=true:=decide_eq_true (by omega)
  cases c2:decide ((t.at (u+1)).up=(u:Int)) with
  | false=>simp only [PI,MR,go_sem,↓reduceIte,w1,c1,c1',A5 c1,c2]
  | true =>
   have c2':=of_decide_eq_true c2
   simp only [PI,MR,go_sem,↓reduceIte,w1,c1,c1',A5 c1,c2]
 ·have c1':decide (((u+1:Nat):Int) < (t.nodes.length:Int))=false:=decide_eq_false (by omega)
  simp only [PI,MR,go_sem,↓reduceIte,w1,c1,c1']
set_option maxHeartbeats 8000000 in
theorem Rj (t:A4) (ht:Aa t) (s:Am) (hs:Wg s) (hz:s.has.length < 1000∧s.jf.length < 1000∧∀ l∈s.mo,∀ c∈l,c.length < 1000) {n:Nat} (hn:n < t.nodes.length) {s':Am} (hw:Wlk t s n s') (hml:s.mo.length=t.locs.length)
  (hne:∀ loc,loc < s.mo.length→0 < (s.mo.getD loc []).length) (h1:∀ loc,loc < s.mo.length→∀ c∈s.mo.getD loc [],∃ w:Int,c=[w]):VP V A2G [vT t,QZ s,.i .i64 n] Q↔Q (QZ s'):=by
 refine Ae ?_
 rw [Ab C.c_z72.1 C.c_z72.2]
 cases hw with
 | bar hk e =>
  have hb:=fun (Q:VV→Prop)=>XT C t ht s hs n (Q:=Q)
  rw [e,Ng] at hb
  simp only [WV,Sc,go_sem,↓reduceIte,hn,A5 hn,hk,hb,A0]
 | read loc hk hloc e =>
  have hl:=ht.wloc hn (.inl hk)
  have hll:loc < s.mo.length:=by omega
  have gL:=Dk hll
  have hm:=hs.mi' loc
  have hp:=hne loc hll
  obtain ⟨w,hw⟩:=h1 loc hll _ (Aj (d:=[]) (show (s.mo.getD loc []).length - 1 < (s.mo.getD loc []).length by omega))
  have hla:Do s loc=w:=by rw [Do,hw];rfl
  have gI:=Gm (xs:=s.mo.getD loc []) (show (s.mo.getD loc []).length - 1 < (s.mo.getD loc []).length by omega)
  rw [hw] at gI
  rw [hla] at e
  obtain ⟨L,hL⟩:∃ L,L=s.mo.getD loc []:=⟨_,rfl⟩
  rw [← hL] at gL gI hm hp
  have w1:IntKind.i64.wrap ((L.length:Int) - 1)=((L.length - 1:Nat):Int):=by rw [AG (by omega) (by omega)];omega
  have hlt:L.length - 1 < L.length:=by omega
  have hr:=fun (Q:VV→Prop)=>Vp C t ht s hs ⟨hz.1,hz.2.1⟩ n w (Q:=Q)
  rw [e,Ng] at hr
  simp only [WV,Sc,go_sem,↓reduceIte,hn,A5 hn,hk,hloc,hll,gL,gI,w1,hlt,hr,A0]
 | write loc hk hloc e =>
  have hl:=ht.wloc hn (.inr hk)
  have hll:loc < s.mo.length:=by omega
  have gL:=Dk hll
  have hm:=hs.mi' loc
  obtain ⟨L,hL⟩:∃ L,L=s.mo.getD loc []:=⟨_,rfl⟩
  rw [← hL] at gL hm e
  have hr:=fun (Q:VV→Prop)=>Rt C t ht s hs n (L.length:Nat) (Q:=Q)
  rw [e,Ng] at hr
  simp only [WV,Sc,go_sem,↓reduceIte,hn,A5 hn,hk,hloc,hll,gL,hr,A0]
end
def LL:Option (Nat×List Int)→VV
 | none=>.tu [.i .i64 0,.ls [],.b false]
 | some (to,out)=>.tu [.i .i64 (to:Nat),lI out,.b true]
theorem Vy (l:List Int) (k:Nat) (v:Int):(l.map eI).set k [.i .i64 v]=(l.set k v).map eI:=by rw [List.map_set]
theorem A1G {l:List Nat} {p:Nat→Bool} {k:Nat} (hk:k < l.length) (h:∀ j,j < k→∀ hj:j < l.length,p l[j]=false) (hp:p l[k]=true):l.find? p=some l[k]:=by
 rw [List.find?_eq_some_iff_getElem]
 exact ⟨hp,k,hk,rfl,fun j hj=>by rw [h j hj (by omega)];rfl⟩
theorem A1H {l:List Nat} {p:Nat→Bool} (h:∀ j,j < l.length→∀ hj:j < l.length,p l[j]=false):l.find? p=none:=by
 rw [List.find?_eq_none]
 intro x hx
 obtain ⟨j,hj,rfl⟩:=List.getElem_of_mem hx
 rw [h j hj hj];decide
section
variable {V:Al} (C:AA V) {Q:VV→VH→Prop}
include C
set_option maxHeartbeats 16000000 in
theorem Vl (t:A4) (ht:Aa t) {u:Nat} (hu:u < t.nodes.length) (hth:0≤(t.at u).thread) (mem:List Int) (hm:mem.length=t.locs.length) (x0 x1 x2 x3 x4 x5:Option VO) :
  GT V Md [vT t,.i .i64 u,lI mem] [x0,x1,x2,x3,x4,x5] Q↔Q (LL (GH t u mem)) [x0,x1,x2,x3,x4,x5]:=by
 refine Ge ?_
 rw [Ct C.h_z71]
 have h64:=ht.n64
 have l4:=ht.l4
 unfold GH
 cases cf:(t.at u).fin with
 | true =>
  simp only [Nv,BP,go_sem,↓reduceIte,hu,A5 hu,cf]
  rfl
 | false =>
 simp only [Nv,BP,go_sem,↓reduceIte,hu,A5 hu,cf,Mh C t ht u hu hth]
 have hKm:∀ i∈Gn t u,i < t.nodes.length∧(t.at i).up=(u:Int):=by
  intro i hi
  unfold Gn at hi
  rw [if_neg (by omega)] at hi
  simpa only [List.mem_filter,List.mem_range,decide_eq_true_eq] using hi
 have hKl:(Gn t u).length≤64:=by
  unfold Gn
  rw [if_neg (by omega)]
  refine Nat.le_trans (List.length_filter_le _ _) ?_
  simpa using h64
 obtain ⟨K,hK⟩:∃ K,K=Gn t u:=⟨_,rfl⟩
 rw [← hK] at hKm hKl ⊢
 refine A8 (by decide) K.length (by omega) (I:=fun k F h=>(∀ j,j < k→∀ hj:j < K.length,EY t mem K[j]=false)∧A3.tmp F 2=lI mem∧A3.tmp F 3 = .fp (eT t) 0∧A3.tmp F 9=lI (nI K)∧h=[x0,x1,x2,x3,x4,x5]) ?_ ?_ ?_ 0 _ _ (Nat.zero_le _) ?_ ?_
 ·rintro k F h hk p10 ⟨hj,p2,p3,p9,rfl⟩
  simp only [BP,go_sem,↓reduceIte,p2,p3,p9,p10,Bz]
  exact hj
 ·rintro k F h hk p10 ⟨hj,p2,p3,p9,rfl⟩
  obtain ⟨hin,hiu⟩:=hKm K[k] (List.getElem_mem hk)
  have gK:(nI K)[k]? = some ((K[k]:Nat):Int):=by simp [nI,hk]
  have hnext:EY t mem K[k]=false→∀ j,j < k+1→∀ hj:j < K.length,EY t mem K[j]=false:=fun hc j h1 h2=>by
   by_cases c:j=k
   ·subst c;exact hc
   ·exact hj j (by omega) h2
  have hfind:EY t mem K[k]=true→K.find? (EY t mem)=some K[k]:=fun hc=>A1G hk hj hc
  have hb8:mem.length * 8≤A6:=by unfold A6;omega
  have htk:∀ n v,List.take mem.length (mem.set n v)=mem.set n v:=fun n v=>List.take_of_length_le (by rw [List.length_set];exact Nat.le_refl _)
  generalize K[k]=i at hin hiu gK hnext hfind
  cases c2:decide ((t.at i).kind=2) with
  | true =>
   have c2':=of_decide_eq_true c2
   have hl:=ht.wloc hin (.inl c2')
   obtain ⟨loc,hloc⟩:=Int.eq_ofNat_of_zero_le hl.1
   have hll:loc < mem.length:=by omega
   have gm:=Av hll
   cases cv:decide ((t.at i).val=mem.getD loc 0) with
   | false =>
    have hc:EY t mem i=false:=by simp only [EY,c2,hloc,Int.toNat_natCast,cv];rfl
    simp only [BP,go_sem,↓reduceIte,p2,p3,p9,p10,hk,Bz,gK,hin,A5 hin,c2,hloc,hll,gm,cv,A0]
    exact hnext hc
   | true =>
    have hc:EY t mem i=true:=by simp only [EY,cv,hloc,Int.toNat_natCast,Bool.or_true]
    have hfd:=hfind hc
    cases cr:EC t i with
    | false =>
     have hto:W4 t i=i:=by rw [W4,if_neg (by rw [cr];simp)]
     have ho:GA t mem i=mem:=by rw [GA,if_neg (by omega)]
     have c3:decide ((t.at i).kind=3)=false:=decide_eq_false (by omega)
     simp only [BP,go_sem,↓reduceIte,p2,p3,p9,p10,hk,Bz,gK,hin,A5 hin,c2,hloc,hll,gm,cv,Hc C t ht i hin,cr,c3,A0,hb8]
     simp only [hfd,Option.map_some,hto,ho,LL]
     all_goals trivial
    | true =>
     have hr:=cr
     simp only [EC,Bool.and_eq_true,decide_eq_true_eq] at hr
     obtain ⟨⟨r1,r2⟩,r3⟩:=hr
     have k3:=ht.rmw3 r1 (by omega) r3
     have c3:decide ((t.at (i+1)).kind=3)=true:=decide_eq_true k3
     have hl2:=ht.wloc r1 (.inr k3)
     obtain ⟨loc2,hloc2⟩:=Int.eq_ofNat_of_zero_le hl2.1
     have hll2:loc2 < mem.length:=by omega
     have gm2:=Av hll2
     have hto:W4 t i=i+1:=by rw [W4,if_pos ⟨c2',cr⟩]
     have ho:GA t mem (i+1)=mem.set loc2 (t.at (i+1)).val:=by rw [GA,if_pos k3,hloc2,Int.toNat_natCast]
     have w1:IntKind.i64.wrap ((i:Int)+1)=((i+1:Nat):Int):=by rw [AG (by omega) (by omega)];omega
     simp only [BP,go_sem,↓reduceIte,p2,p3,p9,p10,hk,Bz,gK,hin,A5 hin,c2,hloc,hll,gm,cv,Hc C t ht i hin,cr,w1,r1,A5 r1,c3,hloc2,hll2,gm2,A0,hb8,Vy,List.length_map,List.length_set,htk]
     simp only [hfd,Option.map_some,hto,ho,LL]
     all_goals trivial
  | false =>
   have c2':=of_decide_eq_false c2
   have hc:EY t mem i=true:=by simp only [EY,c2];rfl
   have hfd:=hfind hc
   have hto:W4 t i=i:=by rw [W4,if_neg (fun h=>c2' h.1)]
   cases c3:decide ((t.at i).kind=3) with
   | false =>
    have ho:GA t mem i=mem:=by rw [GA,if_neg (of_decide_eq_false c3)]
    simp only [BP,go_sem,↓reduceIte,p2,p3,p9,p10,hk,Bz,gK,hin,A5 hin,c2,c3,A0,hb8]
    simp only [hfd,Option.map_some,hto,ho,LL]
    all_goals trivial
   | true =>
    have k3:=of_decide_eq_true c3
    have hl2:=ht.wloc hin (.inr k3)
    obtain ⟨loc2,hloc2⟩:=Int.eq_ofNat_of_zero_le hl2.1
    have hll2:loc2 < mem.length:=by omega
    have gm2:=Av hll2
    have ho:GA t mem i=mem.set loc2 (t.at i).val:=by rw [GA,if_pos k3,hloc2,Int.toNat_natCast]
    simp only [BP,go_sem,↓reduceIte,p2,p3,p9,p10,hk,Bz,gK,hin,A5 hin,c2,c3,hloc2,hll2,gm2,A0,hb8,Vy,List.length_map,List.length_set,htk]
    simp only [hfd,Option.map_some,hto,ho,LL]
    all_goals trivial
 ·rintro F h ⟨hj,p2,p3,p9,rfl⟩
  have hno:=A1H hj
  simp only [BP,go_sem,↓reduceIte,p2,p3,p9]
  rw [hno]
  rfl
 ·simp only [BP,go_sem,↓reduceIte]
 ·simp only [BP,go_sem,↓reduceIte]
  exact fun j hj=>absurd hj (Nat.not_lt_zero _)
set_option maxHeartbeats 16000000 in
theorem Vm (t:A4) (ht:Aa t) {u:Nat} (hu:u < t.nodes.length) (hth:0≤(t.at u).thread) (mem:List Int) (hm:mem.length=t.locs.length) (x0 x1 x2 x4 x5:Option VO) :
  GT V Md [vT t,.i .i64 u,.sl 3 mem.length 0 mem.length] [x0,x1,x2,some (AN B3 1 (mem.map eI)),x4,x5] Q↔Q (LL (GH t u mem)) [x0,x1,x2,some (AN B3 1 (mem.map eI)),x4,x5]:=by
 refine Ge ?_
 rw [Ct C.h_z71]
 have h64:=ht.n64
 have l4:=ht.l4
 unfold GH
 cases cf:(t.at u).fin with
 | true =>
  simp only [Nv,BP,go_sem,↓reduceIte,hu,A5 hu,cf]
  rfl
 | false =>
 simp only [Nv,BP,go_sem,↓reduceIte,hu,A5 hu,cf,Mh C t ht u hu hth]
 have hKm:∀ i∈Gn t u,i < t.nodes.length∧(t.at i).up=(u:Int):=by
  intro i hi
  unfold Gn at hi
  rw [if_neg (by omega)] at hi
  simpa only [List.mem_filter,List.mem_range,decide_eq_true_eq] using hi
 have hKl:(Gn t u).length≤64:=by
  unfold Gn
  rw [if_neg (by omega)]
  refine Nat.le_trans (List.length_filter_le _ _) ?_
  simpa using h64
 obtain ⟨K,hK⟩:∃ K,K=Gn t u:=⟨_,rfl⟩
 rw [← hK] at hKm hKl ⊢
 refine A8 (by decide) K.length (by omega) (I:=fun k F h=>(∀ j,j < k→∀ hj:j < K.length,EY t mem K[j]=false)∧A3.tmp F 2 = .sl 3 mem.length 0 mem.length∧A3.tmp F 3 = .fp (eT t) 0∧A3.tmp F 9=lI (nI K)∧h=[x0,x1,x2,some (AN B3 1 (mem.map eI)),x4,x5]) ?_ ?_ ?_ 0 _ _ (Nat.zero_le _) ?_ ?_
 ·rintro k F h hk p10 ⟨hj,p2,p3,p9,rfl⟩
  simp only [BP,go_sem,↓reduceIte,p2,p3,p9,p10,Bz]
  exact hj
 ·rintro k F h hk p10 ⟨hj,p2,p3,p9,rfl⟩
  obtain ⟨hin,hiu⟩:=hKm K[k] (List.getElem_mem hk)
  have gK:(nI K)[k]? = some ((K[k]:Nat):Int):=by simp [nI,hk]
  have hnext:EY t mem K[k]=false→∀ j,j < k+1→∀ hj:j < K.length,EY t mem K[j]=false:=fun hc j h1 h2=>by
   by_cases c:j=k
   ·subst c;exact hc
   ·exact hj j (by omega) h2
  have hfind:EY t mem K[k]=true→K.find? (EY t mem)=some K[k]:=fun hc=>A1G hk hj hc
  have hsrc:∀ (h:VH) (x:VV) (b:Nat),h[3]? = some (some (AN B3 1 (mem.map eI)))→Hv h B3 1 b x (.sl 3 mem.length 0 mem.length)=Hv h B3 1 b x (.ls (mem.map eI)):=fun h x b hh=>by
   have:=A8g (h:=h) hh (A0G (fun _=>rfl))
   rw [List.length_map] at this
   exact A88 this
  have hb8:mem.length * 8≤A6:=by unfold A6;omega
  have htk:∀ n v,List.take mem.length (mem.set n v)=mem.set n v:=fun n v=>List.take_of_length_le (by rw [List.length_set];exact Nat.le_refl _)
  generalize K[k]=i at hin hiu gK hnext hfind
  cases c2:decide ((t.at i).kind=2) with
  | true =>
   have c2':=of_decide_eq_true c2
   have hl:=ht.wloc hin (.inl c2')
   obtain ⟨loc,hloc⟩:=Int.eq_ofNat_of_zero_le hl.1
   have hll:loc < mem.length:=by omega
   have gm:=Av hll
   have hix:=GU (ty:=B3) (e:=1) (rows:=mem.map eI) (by rw [List.length_map];omega)
   cases cv:decide ((t.at i).val=mem.getD loc 0) with
   | false =>
    have hc:EY t mem i=false:=by simp only [EY,c2,hloc,Int.toNat_natCast,cv];rfl
    simp only [BP,go_sem,↓reduceIte,p2,p3,p9,p10,hk,Bz,gK,hin,A5 hin,c2,hloc,hll,gm,hix,hsrc,cv,A0]
    exact hnext hc
   | true =>
    have hc:EY t mem i=true:=by simp only [EY,cv,hloc,Int.toNat_natCast,Bool.or_true]
    have hfd:=hfind hc
    cases cr:EC t i with
    | false =>
     have hto:W4 t i=i:=by rw [W4,if_neg (by rw [cr];simp)]
     have ho:GA t mem i=mem:=by rw [GA,if_neg (by omega)]
     have c3:decide ((t.at i).kind=3)=false:=decide_eq_false (by omega)
     simp only [BP,go_sem,↓reduceIte,p2,p3,p9,p10,hk,Bz,gK,hin,A5 hin,c2,hloc,hll,gm,hix,hsrc,cv,Hc C t ht i hin,cr,c3,A0,hb8]
     simp only [hfd,Option.map_some,hto,ho,LL]
     all_goals trivial
    | true =>
     have hr:=cr
     simp only [EC,Bool.and_eq_true,decide_eq_true_eq] at hr
     obtain ⟨⟨r1,r2⟩,r3⟩:=hr
     have k3:=ht.rmw3 r1 (by omega) r3
     have c3:decide ((t.at (i+1)).kind=3)=true:=decide_eq_true k3
     have hl2:=ht.wloc r1 (.inr k3)
     obtain ⟨loc2,hloc2⟩:=Int.eq_ofNat_of_zero_le hl2.1
     have hll2:loc2 < mem.length:=by omega
     have gm2:=Av hll2
     have hto:W4 t i=i+1:=by rw [W4,if_pos ⟨c2',cr⟩]
     have ho:GA t mem (i+1)=mem.set loc2 (t.at (i+1)).val:=by rw [GA,if_pos k3,hloc2,Int.toNat_natCast]
     have w1:IntKind.i64.wrap ((i:Int)+1)=((i+1:Nat):Int):=by rw [AG (by omega) (by omega)];omega
     simp only [BP,go_sem,↓reduceIte,p2,p3,p9,p10,hk,Bz,gK,hin,A5 hin,c2,hloc,hll,gm,hix,hsrc,cv,Hc C t ht i hin,cr,w1,r1,A5 r1,c3,hloc2,hll2,gm2,A0,hb8,Vy,List.length_map,List.length_set,htk]
     simp only [hfd,Option.map_some,hto,ho,LL]
     all_goals trivial
  | false =>
   have c2':=of_decide_eq_false c2
   have hc:EY t mem i=true:=by simp only [EY,c2];rfl
   have hfd:=hfind hc
   have hto:W4 t i=i:=by rw [W4,if_neg (fun h=>c2' h.1)]
   cases c3:decide ((t.at i).kind=3) with
   | false =>
    have ho:GA t mem i=mem:=by rw [GA,if_neg (of_decide_eq_false c3)]
    simp only [BP,go_sem,↓reduceIte,p2,p3,p9,p10,hk,Bz,gK,hin,A5 hin,c2,hsrc,c3,A0,hb8]
    simp only [hfd,Option.map_some,hto,ho,LL]
    all_goals trivial
   | true =>
    have k3:=of_decide_eq_true c3
    have hl2:=ht.wloc hin (.inr k3)
    obtain ⟨loc2,hloc2⟩:=Int.eq_ofNat_of_zero_le hl2.1
    have hll2:loc2 < mem.length:=by omega
    have gm2:=Av hll2
    have ho:GA t mem i=mem.set loc2 (t.at i).val:=by rw [GA,if_pos k3,hloc2,Int.toNat_natCast]
    simp only [BP,go_sem,↓reduceIte,p2,p3,p9,p10,hk,Bz,gK,hin,A5 hin,c2,hsrc,c3,hloc2,hll2,gm2,A0,hb8,Vy,List.length_map,List.length_set,htk]
    simp only [hfd,Option.map_some,hto,ho,LL]
    all_goals trivial
 ·rintro F h ⟨hj,p2,p3,p9,rfl⟩
  have hno:=A1H hj
  simp only [BP,go_sem,↓reduceIte,p2,p3,p9]
  rw [hno]
  rfl
 ·simp only [BP,go_sem,↓reduceIte]
 ·simp only [BP,go_sem,↓reduceIte]
  exact fun j hj=>absurd hj (Nat.not_lt_zero _)
end
theorem Afz {t:A4} {k:Nat} (h1:decide ((t.at k).thread < 0)=false) (h2:decide ((t.at k).up < 0)=true):RK t (k+1)=RK t k++[k]:=by
 rw [RK,List.range_succ,List.filter_append];simp [h1,h2,RK,of_decide_eq_false h1,of_decide_eq_true h2]
theorem AbD {t:A4} {k:Nat} (h1:decide ((t.at k).thread < 0)=true):RK t (k+1)=RK t k:=by
 rw [RK,List.range_succ,List.filter_append];simp [h1,RK,of_decide_eq_true h1]
theorem AbE {t:A4} {k:Nat} (h2:decide ((t.at k).up < 0)=false):RK t (k+1)=RK t k:=by
 rw [RK,List.range_succ,List.filter_append];simp [h2,RK,of_decide_eq_false h2]
theorem Adq {t:A4} {k:Nat} (h1:decide ((t.at k).thread < 0)=true):Lx t (k+1)=Lx t k++[(t.at k).val]:=by
 rw [Lx,List.range_succ,List.filter_append];simp [h1,Lx,of_decide_eq_true h1]
theorem A73 {t:A4} {k:Nat} (h1:decide ((t.at k).thread < 0)=false):Lx t (k+1)=Lx t k:=by
 rw [Lx,List.range_succ,List.filter_append];simp [h1,Lx,of_decide_eq_false h1]
theorem A8O (t:A4) (k:Nat):(RK t k).length≤k:=by
 refine Nat.le_trans (List.length_filter_le _ _) ?_;simp
theorem A74 (t:A4) (k:Nat):(Lx t k).length≤k:=by
 rw [Lx,List.length_map];refine Nat.le_trans (List.length_filter_le _ _) ?_;simp
def Lg (t:A4) (at_:List Nat) (mem:List Int) (j:Nat):List Nat:=(List.range j).filter fun i=>(GH t (at_.getD i 0) mem).isSome
theorem AbL {t:A4} {at_:List Nat} {mem:List Int} {j:Nat} {x:Nat×List Int} (h:GH t (at_.getD j 0) mem=some x):Lg t at_ mem (j+1)=Lg t at_ mem j++[j]:=by
 rw [Lg,List.range_succ,List.filter_append,List.filter_cons_of_pos (by rw [h];rfl)];rfl
theorem AbK {t:A4} {at_:List Nat} {mem:List Int} {j:Nat} (h:GH t (at_.getD j 0) mem=none):Lg t at_ mem (j+1)=Lg t at_ mem j:=by
 rw [Lg,List.range_succ,List.filter_append,List.filter_cons_of_neg (by rw [h];decide)];simp [Lg]
theorem A5p (t:A4) (at_:List Nat) (mem:List Int) (k:Nat):(Lg t at_ mem k).length≤k:=by
 refine Nat.le_trans (List.length_filter_le _ _) ?_;simp
def b6:Option VO:=some ⟨Cp,0,0,false,[[.nl,.nl,.nl]]⟩
def b9 (s:Am):Option VO:=some ⟨Cp,0,0,false,[eSh s]⟩
def atO (l:List Nat):Option VO:=some (AN B3 1 ((nI l).map eI))
def A8z (mem:List Int) (mv:VV) (x3:Option VO):Prop:=mv=lI mem∨(mv = .sl 3 mem.length 0 mem.length∧x3=some (AN B3 1 (mem.map eI)))
structure RoI (P:Am→Prop) (t:A4) (l:List U8) (r:Nat) (F:A3) (h:VH) (s:Am) (at_:List Nat) (mem:List Int) (k a:Nat) (mv:VV) (x3:Option VO):Prop where
 wi:WI t s mem k
 si:StI t s at_
 rk:r≤k
 ha:a≤l.length
 mv_:A8z mem mv x3
 p3:A3.tmp F 3 = .fp (eT t) 0
 p2:A3.tmp F 2 = .i .i64 70
 p6:A3.tmp F 6 = .p 0 0 0 0
 p9:A3.tmp F 9 = .p 1 0 0 0
 p10:A3.tmp F 10 = .sl 2 at_.length 0 at_.length
 p11:A3.tmp F 11=mv
 p13:A3.tmp F 13 = .p 4 0 0 0
 hh:h=[b6,b9 s,atO at_,x3,MO l a]
 pp:P s
section
variable {V:Al} (C:AA V)
include C
theorem Vk (t:A4) (ht:Aa t) {u:Nat} (hu:u < t.nodes.length) (hth:0≤(t.at u).thread) {mem:List Int} (hm:mem.length=t.locs.length) {mv:VV} {x3:Option VO} (k:A8z mem mv x3) (x0 x1 x2 x4 x5:Option VO) {Q:VV→VH→Prop} :
  GT V Md [vT t,.i .i64 u,mv] [x0,x1,x2,x3,x4,x5] Q↔Q (LL (GH t u mem)) [x0,x1,x2,x3,x4,x5]:=by
 rcases k with rfl | ⟨rfl,rfl⟩
 ·exact Vl C t ht hu hth mem hm x0 x1 x2 x3 x4 x5
 ·exact Vm C t ht hu hth mem hm x0 x1 x2 x4 x5
omit C in
theorem A8z.cl {mem:List Int} {mv:VV} {x3:Option VO} (k:A8z mem mv x3) {n:Nat} (hn:3 < n):MB n mv=mv:=by
 rcases k with rfl | ⟨rfl,rfl⟩
 ·rfl
 ·show (bif Nat.blt 3 n then _ else _)=_
  rw [show Nat.blt 3 n=true from by simp only [Nat.blt_eq];exact hn];rfl
theorem Xt (l:List U8) (x0 x1 x2 x3:Option VO) {Q:VV→VH→Prop}:LT V NF [lU l] [x0,x1,x2,x3] Q↔Q (.p 4 0 0 0) [x0,x1,x2,x3,MO l 0]:=by
 refine Mw ?_
 rw [Gd C.h_z19]
 simp only [RU,Q0,go_sem,↓reduceIte]
 rfl
theorem A75 (l:List U8) (hl:l.length≤1000∧∀ x∈l,x.n < 256) (a:Nat) (ha:a≤l.length) (n:Int) (x0 x1 x2 x3 x5:Option VO) :
  GT V Qu [.p 4 0 0 0,.i .i64 n] [x0,x1,x2,x3,MO l a,x5] fun v h=>∃ k:Nat,v = .i .i64 k∧(1≤n→(k:Int) < n)∧∃ a',a'≤l.length∧h=[x0,x1,x2,x3,MO l a',x5]:=by
 rw [Ct C.h_z54]
 by_cases c1:l.length≤a
 ·simp only [Nu,J4,go_sem,↓reduceIte,c1]
  exact ⟨0,rfl,fun h=>by omega,a,ha,rfl⟩
 ·by_cases c2:n < 1
  ·simp only [Nu,J4,go_sem,↓reduceIte,c1,c2]
   exact ⟨0,rfl,fun h=>by omega,a,ha,rfl⟩
  ·have hlt:a < l.length:=by omega
   have hcell:l[a]? = some l[a]:=List.getElem?_eq_getElem hlt
   have hb:=hl.2 _ (List.getElem_mem hlt)
   have w0:IntKind.i64.wrap ((l[a].n:Nat):Int)=(l[a].n:Nat):=AG (by omega) (by omega)
   have w3:((l[a].n:Nat):Int).tmod n=(((l[a].n:Nat):Int) % n):=Int.tmod_eq_emod_of_nonneg (by omega)
   have w1:=GL (show a < 9223372036854775807 by omega)
   have w2:IntKind.i64.wrap (((a+1:Nat):Int) - 1)=(a:Int):=by rw [AG (by omega) (by omega)];omega
   simp only [Nu,J4,go_sem,↓reduceIte,c1,c2,hcell,w1,w2,EE (show n≠0 by omega),w0,w3]
   have m1:=Int.emod_nonneg ((l[a].n:Nat):Int) (show n≠0 by omega)
   have m2:=Int.emod_lt_of_pos ((l[a].n:Nat):Int) (show 0 < n by omega)
   exact ⟨(((l[a].n:Nat):Int) % n).toNat,by omega,fun h=>by omega,a+1,by omega,rfl⟩
set_option maxHeartbeats 16000000 in
theorem U1 (t:A4) (ht:Aa t) {P:Am→Prop} (P0:P (Bp t)) (P1:∀ s n s',Gb t s→P s→Wlk t s n s'→P s') (l:List U8) (hl:l.length≤1000∧∀ x∈l,x.n < 256) {Q:VV→Prop} (hq:∀ s mem k at_,WI t s mem k→StI t s at_→(∀ u∈at_,GH t u mem=none)→P s→Q (.tu [QZ s,.b true,lI mem])):VP V XA [vT t,lU l,.i .i64 70] Q:=by
 rw [Ab C.c_z29.1 C.c_z29.2]
 have h64:=ht.n64
 simp only [A5V,Cf,go_sem,↓reduceIte,Rr C t ht]
 refine A8 (by decide) t.nodes.length (by omega) (I:=fun k F h=>A3.tmp F 1=lU l∧A3.tmp F 2 = .i .i64 70∧A3.tmp F 3 = .fp (eT t) 0∧A3.tmp F 6 = .p 0 0 0 0∧A3.tmp F 9 = .p 1 0 0 0∧∃ L,L=nI (RK t k)∧∃ M,M=Lx t k∧A3.tmp F 10 = .sl 2 L.length 0 L.length∧A3.tmp F 11 = .sl 3 M.length 0 M.length∧h=[b6,b9 (Bp t),some (AN B3 1 (L.map eI)),some (AN B3 1 (M.map eI))]) ?_ ?_ ?_ 0 _ _ (Nat.zero_le _) ?_ ?_
 ·rintro k F h hk p12 ⟨p1,p2,p3,p6,p9,L,hL,M,hM,p10,p11,rfl⟩
  simp only [Cf,go_sem,↓reduceIte,p1,p2,p3,p6,p9,p10,p11,p12]
  exact ⟨L,hL,M,hM,rfl,rfl,rfl⟩
 ·rintro k F h hk p12 ⟨p1,p2,p3,p6,p9,L,hL,M,hM,p10,p11,rfl⟩
  have h1:=A8O t k
  have h2:=A74 t k
  have q1:(L.length+1) * 8≤A6:=by rw [hL,Bz];unfold A6;omega
  have q2:(M.length+1) * 8≤A6:=by rw [hM];unfold A6;omega
  cases c1:decide ((t.at k).thread < 0) with
  | true =>
   simp only [Cf,go_sem,↓reduceIte,p1,p2,p3,p6,p9,p10,p11,p12,hk,A5 hk,c1,A0,b6,b9,q2,QQ,List.length_append,List.length_map]
   exact ⟨L,by rw [AbD c1];exact hL,M++[(t.at k).val],by rw [Adq c1,hM],by simp,by simp,rfl⟩
  | false =>
  cases c2:decide ((t.at k).up < 0) with
  | true =>
   simp only [Cf,go_sem,↓reduceIte,p1,p2,p3,p6,p9,p10,p11,p12,hk,A5 hk,c1,c2,A0,b6,b9,q1,QQ,List.length_append,List.length_map]
   exact ⟨L++[(k:Int)],by rw [Afz c1 c2,hL,Ua],M,by rw [A73 c1];exact hM,by simp,by simp,rfl⟩
  | false =>
   simp only [Cf,go_sem,↓reduceIte,p1,p2,p3,p6,p9,p10,p11,p12,hk,A5 hk,c1,c2,A0,b6,b9]
   exact ⟨L,by rw [AbE c2];exact hL,M,by rw [A73 c1];exact hM,rfl,rfl,rfl⟩
 ·rintro F h ⟨p1,p2,p3,p6,p9,L,hL,M,hM,p10,p11,rfl⟩
  simp only [Cf,go_sem,↓reduceIte,p1,p2,p3,p6,p9,p10,p11,Xt C l]
  refine A8 (by decide) 70 (by omega) (I:=fun r F h=>∃ s at_ mem k a mv x3,RoI P t l r F h s at_ mem k a mv x3) ?_ ?_ ?_ 0 _ _ (Nat.zero_le _) ?_ ?_
  ·rintro r F h hr p14 ⟨s,at_,mem,k,a,mv,x3,R⟩
   have hd:decide ((r:Int) < 70)=decide (r < 70):=decide_eq_decide.2 (by omega)
   obtain ⟨W,S,rk,ha,hmv,p3,p2,p6,p9,p10,p11,p13,rfl,hP⟩:=R
   simp only [Cf,go_sem,↓reduceIte,p2,p3,p6,p9,p10,p11,p13,p14,hd]
   refine ⟨s,at_,mem,k,a,mv,x3,W,S,rk,ha,hmv,?_,?_,?_,?_,?_,?_,?_,rfl,hP⟩<;>simp only [Cf,go_sem,↓reduceIte,p2,p3,p6,p9,p10,p11,p13]
  ·rintro r F h hr p14 ⟨s,at_,mem,k,a,mv,x3,R⟩
   obtain ⟨W,S,rk,ha,hmv,p3,p2,p6,p9,p10,p11,p13,rfl,hP⟩:=R
   have hal:at_.length≤64:=by
    have hd:(at_.map fun (i:Nat)=>(i:Int)).Nodup:=by
     rw [List.nodup_iff_pairwise_ne,List.pairwise_map]
     exact S.pw.imp fun h e=>h (by rw [show _=_ from Int.ofNat.inj e])
    have:=H9 _ s.has hd (fun y hy=>by
     obtain ⟨m,hm,rfl⟩:=List.mem_map.1 hy
     exact (S.has m hm).1)
    rw [List.length_map] at this
    have:=W.form.len
    omega
   have hcv:=hmv.cl (n:=6) (by decide)
   have hcv5:=hmv.cl (n:=5) (by decide)
   have hok:∀ j,j < at_.length→at_.getD j 0 < t.nodes.length∧0≤(t.at (at_.getD j 0)).thread:=fun j hj=>by
    have hm:=Aj (d:=0) hj
    obtain ⟨h1,h2⟩:=S.has _ hm
    obtain ⟨m,e,hm⟩:=A9 (W.gr.ok _ h1)
    exact ⟨by omega,h2⟩
   have hst:=fun (j:Nat) (hj:j < at_.length) (x0 x1 x2 x4 x5:Option VO) (Q:VV→VH→Prop)=>Vk C t ht (hok j hj).1 (hok j hj).2 W.ml hmv x0 x1 x2 x4 x5 (Q:=Q)
   simp only [Cf,go_sem,↓reduceIte,p2,p3,p6,p9,p10,p11,p13,p14,A0]
   refine A8 (by decide) at_.length (by omega) (I:=fun j F h=>A3.tmp F 2 = .i .i64 70∧A3.tmp F 3 = .fp (eT t) 0∧A3.tmp F 6 = .p 0 0 0 0∧A3.tmp F 9 = .p 1 0 0 0∧A3.tmp F 10 = .sl 2 at_.length 0 at_.length∧A3.tmp F 11=mv∧A3.tmp F 13 = .p 4 0 0 0∧A3.tmp F 14 = .i .i64 r∧∃ L,L=nI (Lg t at_ mem j)∧A3.tmp F 15 = .sl 5 L.length 0 L.length∧h=[b6,b9 s,atO at_,x3,MO l a,some (AN B3 1 (L.map eI))]) ?_ ?_ ?_ 0 _ _ (Nat.zero_le _) ?_ ?_
   ·rintro j F h hj p16 ⟨p2,p3,p6,p9,p10,p11,p13,p14,L,hL,p15,rfl⟩
    simp only [Cf,go_sem,↓reduceIte,p2,p3,p6,p9,p10,p11,p13,p14,p15,p16]
    exact ⟨L,hL,rfl,rfl⟩
   ·rintro j F h hj p16 ⟨p2,p3,p6,p9,p10,p11,p13,p14,L,hL,p15,rfl⟩
    have gat:(nI at_)[j]? = some ((at_.getD j 0:Nat):Int):=by simp [nI,hj]
    have hs:=hst j hj b6 (b9 s) (atO at_) (MO l a) (some (AN B3 1 (L.map eI)))
    have hcl:=A5p t at_ mem j
    have q1:(L.length+1) * 8≤A6:=by rw [hL,Bz];unfold A6;omega
    have hao:atO at_=some ⟨B3,1,at_.length,false,(nI at_).map eI⟩:=by rw [atO,Ks (by rw [List.length_map,Bz];omega),List.length_map,Bz]
    rw [hao] at hs ⊢
    cases e:GH t (at_.getD j 0) mem with
    | none =>
     rw [e] at hs
     simp only [Cf,go_sem,↓reduceIte,p2,p3,p6,p9,p10,p11,p13,p14,p15,p16,gat,hs,hj,Bz,LL,hcv,A0,List.length_map]
     exact ⟨L,by rw [AbK e];exact hL,rfl,rfl⟩
    | some x =>
     obtain ⟨to,out⟩:=x
     rw [e] at hs
     simp only [Cf,go_sem,↓reduceIte,p2,p3,p6,p9,p10,p11,p13,p14,p15,p16,gat,hs,hj,Bz,LL,hcv,A0,q1,QQ,List.length_append,List.length_map]
     exact ⟨L++[(j:Int)],by rw [AbL e,hL,Ua],by simp,rfl⟩
   ·rintro F h ⟨p2,p3,p6,p9,p10,p11,p13,p14,L,hL,p15,rfl⟩
    cases c0:decide (L.length=0) with
    | true =>
     have c0':=of_decide_eq_true c0
     have c0i:decide ((L.length:Int)=0)=true:=decide_eq_true (by omega)
     have hfin:=hq s mem k at_ W S (fun u hu=>by
      obtain ⟨j,hj,rfl⟩:=List.getElem_of_mem hu
      have hnil:Lg t at_ mem at_.length=[]:=List.length_eq_zero_iff.1 (by rwa [hL,Bz] at c0')
      have hnm:j∉Lg t at_ mem at_.length:=by rw [hnil];simp
      simp only [Lg,List.mem_filter,List.mem_range,not_and,Bool.not_eq_true] at hnm
      have:=hnm hj
      rw [List.getD_eq_getElem?_getD,List.getElem?_eq_getElem hj] at this
      exact Option.isNone_iff_eq_none.1 (by rw [← Option.not_isSome,show (GH t at_[j] mem).isSome=false from this];rfl)) hP
     rcases hmv with rfl | ⟨rfl,rfl⟩
     ·simp only [Cf,go_sem,↓reduceIte,p2,p3,p6,p9,p10,p11,p13,p14,p15,c0,c0i,b6,b9,A0]
      exact hfin
     ·simp only [Cf,go_sem,↓reduceIte,p2,p3,p6,p9,p10,p11,p13,p14,p15,c0,c0i,b6,b9,A0,List.length_map]
      exact hfin
    | false =>
    have c0':=of_decide_eq_false c0
    have c0i:decide ((L.length:Int)=0)=false:=decide_eq_false (by omega)
    simp only [Cf,go_sem,↓reduceIte,p2,p3,p6,p9,p10,p11,p13,p14,p15,c0,c0i]
    refine (A75 C l hl a ha _ _ _ _ _ _).mono ?_
    rintro _ _ ⟨p,rfl,hp,a',ha',rfl⟩
    have hpl:p < L.length:=by have:=hp (by omega);omega
    obtain ⟨q,hqe,hqm⟩:∃ q:Nat,L.getD p 0=q∧q∈Lg t at_ mem at_.length:=by
     have hpl':p < (Lg t at_ mem at_.length).length:=by rwa [hL,Bz] at hpl
     exact ⟨_,by rw [hL];exact Adt hpl',List.getElem_mem hpl'⟩
    have gL:=Av hpl
    rw [hqe] at gL
    simp only [Lg,List.mem_filter,List.mem_range] at hqm
    obtain ⟨hql,hqs⟩:=hqm
    obtain ⟨⟨to,out⟩,e⟩:=Option.isSome_iff_exists.1 hqs
    have gat:(nI at_)[q]? = some ((at_.getD q 0:Nat):Int):=by simp [nI,hql]
    obtain ⟨hto,s1,s2,k1,k2,hif,W1,w2,W2,hk,S2⟩:=Aap ht W S hql (u:=at_.getD q 0) (by rw [List.getD_eq_getElem?_getD,List.getElem?_eq_getElem hql];rfl) e
    have hs:=hst q hql b6 (b9 s) (atO at_) (MO l a') (some (AN B3 1 (L.map eI)))
    have hao:atO at_=some ⟨B3,1,at_.length,false,(nI at_).map eI⟩:=by rw [atO,Ks (by rw [List.length_map,Bz];omega),List.length_map,Bz]
    have hao2:some ⟨B3,1,at_.length,false,(nI (at_.set q to)).map eI⟩ = atO (at_.set q to):=by rw [atO,Ks (by rw [List.length_map,Bz,List.length_set];omega),List.length_map,Bz,List.length_set]
    rw [hao] at hs ⊢
    rw [e] at hs
    simp only [b6,b9] at hs
    have wk:=fun {s:Am} {k:Nat} (W:WI t s mem k) {n:Nat} (hn:n < t.nodes.length) {s':Am} (hw:Wlk t s n s') (Q:VV→Prop)=>Rj C t ht s (W.gr.sz ht (by have:=W.k64 ht;omega)) (W.gr.sz' (by have:=W.k64 ht;omega)) hn hw W.form.ml (fun loc hl=>W.pos hl) (fun loc hl c hc=>by obtain ⟨w,h,_⟩:=W.one loc hl c hc;exact ⟨w,h⟩) (Q:=Q)
    have hw2:=wk W1 hto w2
    have hix:=GU (ty:=B3) (e:=1) (rows:=L.map eI) (by rw [List.length_map];exact c0')
    have hokB:okB 5 (atO (at_.set q to))=true:=by
     unfold atO
     simp only [go_sem]
    have hset:(List.map eI (nI at_)).set q [.i .i64 (to:Nat)]=(nI (at_.set q to)).map eI:=by rw [Vy,Adu]
    have hP2:P s2:=by
     refine P1 _ _ _ W1.form ?_ w2
     split at hif
     ·obtain ⟨m,_,_,w1⟩:=hif
      exact P1 _ _ _ W.form hP w1
     ·rw [hif];exact hP
    cases cu:decide ((t.at to).up=((at_.getD q 0:Nat):Int)) with
    | true =>
     rw [if_neg (by rw [of_decide_eq_true cu];simp)] at hif
     subst hif
     simp only [Cf,go_sem,↓reduceIte,p2,p3,p6,p9,p10,p11,p13,p14,p15,gL,hpl,hix,gat,hs,hql,Bz,LL,hcv,hcv5,cu,hto,A5 hto,hw2,hset,hao2,b6,b9,A0,List.length_map]
     refine ⟨.inr hokB,fun _ _=>?_⟩
     refine ⟨s2,at_.set q to,out,k2,a',lI out,x3,W2,S2,by omega,ha',.inl rfl,?_,?_,?_,?_,?_,?_,?_,rfl,hP2⟩<;>simp only [Cf,go_sem,↓reduceIte,p2,p3,p6,p9,p10,p11,p13,List.length_set]
    | false =>
     rw [if_pos (of_decide_eq_false cu)] at hif
     obtain ⟨m,hm,hml,w1⟩:=hif
     have hw1:=wk W hml w1
     rw [← hm] at hw1
     simp only [Cf,go_sem,↓reduceIte,p2,p3,p6,p9,p10,p11,p13,p14,p15,gL,hpl,hix,gat,hs,hql,Bz,LL,hcv,hcv5,cu,hto,A5 hto,hw1,hw2,hset,hao2,b6,b9,A0,List.length_map]
     refine ⟨.inr hokB,fun _ _=>?_⟩
     refine ⟨s2,at_.set q to,out,k2,a',lI out,x3,W2,S2,by omega,ha',.inl rfl,?_,?_,?_,?_,?_,?_,?_,rfl,hP2⟩<;>simp only [Cf,go_sem,↓reduceIte,p2,p3,p6,p9,p10,p11,p13,List.length_set]
   ·simp only [Cf,go_sem,↓reduceIte]
   ·simp only [Cf,go_sem,↓reduceIte,p2,p3,p6,p9,p10,p11,p13,p14]
    exact ⟨[],rfl,rfl,rfl⟩
  ·rintro F h ⟨s,at_,mem,k,a,mv,x3,R⟩
   have:=R.wi.k64 ht
   have:=R.rk
   omega
  ·simp only [Cf,go_sem,↓reduceIte]
  ·subst hL hM
   rw [Bz] at p10
   refine ⟨Bp t,RK t t.nodes.length,Lx t t.nodes.length,0,0,_,_,AgG ht,AgF ht,Nat.zero_le _,Nat.zero_le _,.inr ⟨rfl,rfl⟩,?_,?_,?_,?_,?_,?_,?_,rfl,P0⟩<;>simp only [Cf,go_sem,↓reduceIte,p2,p3,p6,p9,p10,p11]
 ·simp only [Cf,go_sem,↓reduceIte]
 ·simp only [Cf,go_sem,↓reduceIte]
  exact ⟨[],rfl,[],rfl,rfl,rfl,rfl⟩
theorem U2 (t:A4) (ht:Aa t) (l:List U8) (hl:l.length≤1000∧∀ x∈l,x.n < 256) {Q:VV→Prop} (hq:∀ s mem k at_,WI t s mem k→StI t s at_→(∀ u∈at_,GH t u mem=none)→Q (.tu [QZ s,.b true,lI mem])):VP V XA [vT t,lU l,.i .i64 70] Q :=
 U1 C t ht (P:=fun _=>True) trivial (fun _ _ _ _ _ _=>trivial) l hl fun s mem k at_ W S h _=>hq s mem k at_ W S h
end
def Cj (s:Am):C4:=⟨s.has,s.jf,s.mo.map fun l=>l.flatten⟩
section
variable {V:Al} (C:AA V) {Q:VV→Prop}
include C
end
def CH (t:A4) (loc:Nat) (n:Int):Bool:=decide ((t.at n.toNat).kind=3) && decide ((t.at n.toNat).loc=loc)
def SO (t:A4) (has:List Int) (loc:Nat):Nat→BitVec 64
 | 0=>0#64
 | k+1=>if CH t loc (has.getD k 0)=true then SO t has loc k ||| C9 (has.getD k 0) else SO t has loc k
def Gk (t:A4) (e:C4) (loc:Nat):Bool:=decide ((e.mo.getD loc []).length=(BX (SO t e.has loc e.has.length)).length) && decide (CD (e.mo.getD loc [])=SO t e.has loc e.has.length)
def Te (t:A4) (e:C4):Bool:=decide (e.mo.length=t.locs.length) && (List.range e.mo.length).all (Gk t e)
def isX (t:A4) (e:C4):Bool:=BR t e.has e.rf && Te t e
def xPl (t:A4) (e:C4) (n:Int):Int:=if (t.at n.toNat).kind≠2∧(t.at n.toNat).kind≠3 then 0 else DD (e.mo.getD (t.at n.toNat).loc.toNat []) (if (t.at n.toNat).kind=2 then e.rf.getD (DD e.has n).toNat 0 else n)
def QM (r:Rows):Bool:=(List.range r.length).all fun i=>!Bx (r.getD i 0#64) i
def RS (t:A4) (e:C4):Bool:=isX t e && QM (Lk t e.has e.rf) && (Cd (Lk t e.has e.rf)).all fun x=>CK (t.at x.1.toNat) (t.at x.2.toNat) (xPl t e x.1) (xPl t e x.2)
structure VX (e:C4):Prop where
 has:e.has.length≤1000
 rf:e.rf.length≤1000
 mo:e.mo.length≤1000
 mi:∀ l∈e.mo,l.length≤1000
theorem VX.mi' {e:C4} (h:VX e) (k:Nat):(e.mo.getD k []).length≤1000:=by
 by_cases c:k < e.mo.length
 ·exact h.mi _ (Aj c)
 ·rw [List.getD_eq_getElem?_getD,List.getElem?_eq_none (by omega)];simp
abbrev eRn (t:A4) (e:C4):List VV:=[.i .i64 t.vals,lS t.locs,.ls (t.regs.map Js),.ls (t.nodes.map eN),lI e.has,lI e.rf,.ls (e.mo.map M2)]
section
variable {V:Al} (C:AA V) {Q:VV→Prop}
include C
set_option maxHeartbeats 8000000 in
theorem R9 (t:A4) (ht:Aa t) (e:C4) (he:VX e) (hn:Dh t e.has):VP V A2H [.ag (eRn t e)] Q↔Q (.b (Te t e)):=by
 refine Ae ?_
 rw [Ab C.c_z73.1 C.c_z73.2]
 have g1:=he.has
 have g3:=he.mo
 unfold Te
 have ci:decide ((e.mo.length:Int)=(t.locs.length:Int))=decide (e.mo.length=t.locs.length):=decide_eq_decide.2 (by omega)
 cases c0:decide (e.mo.length=t.locs.length) with
 | false =>
  simp only [A1B,DT,go_sem,↓reduceIte,ci,c0,Bool.false_and]
 | true =>
 simp only [A1B,DT,go_sem,↓reduceIte,ci,c0,Bool.true_and]
 refine Au (by decide) e.mo.length (by omega) (I:=fun k F h=>A3.tmp F 1 = .fp (eRn t e) 0∧A3.tmp F 20 = .ls (e.mo.map M2)∧h=[]∧∀ j,j < k→Gk t e j=true) ?_ ?_ 0 _ _ (by omega) ?_ ?_ ?_
 ·rintro k F h hk p22 p21 ⟨p1,p20,rfl,pr⟩
  have gL:=Gm hk
  have hmi:=he.mi' k
  obtain ⟨M,hM⟩:∃ M,M=e.mo.getD k []:=⟨_,rfl⟩
  have hcnt:=fun (w:BitVec 64) (Q:VV→Prop)=>T5 C w (Q:=Q)
  rw [← hM] at gL hmi
  simp only [DT,go_sem,↓reduceIte,p22,p21,p1,p20,gL,hk,A0]
  refine Au (by decide) e.has.length (by omega) (I:=fun j F h=>A3.tmp F 22 = .i .i64 k∧A3.tmp F 21 = .i .i64 e.mo.length∧A3.tmp F 1 = .fp (eRn t e) 0∧A3.tmp F 20 = .ls (e.mo.map M2)∧A3.tmp F 3 = .i .i64 k∧A3.tmp F 4=lI M∧A3.tmp F 29=lI e.has∧A3.tmp F 5=vW (SO t e.has k j)∧h=[]) ?_ ?_ 0 _ _ (by omega) ?_ ?_ ?_
  ·rintro j F h hj q31 q30 ⟨q22,q21,q1,q20,q3,q4,q29,q5,rfl⟩
   have gI:=Av hj
   obtain ⟨n,hne,hnl⟩:=A9 (hn _ (Aj (d:=0) hj))
   rw [hne] at gI
   cases c1:decide ((t.at n).kind=3) with
   | false =>
    have hw:SO t e.has k (j+1)=SO t e.has k j:=by rw [SO,if_neg (by rw [CH,hne,Int.toNat_natCast,c1];simp)]
    simp only [DT,go_sem,↓reduceIte,q31,q30,q22,q21,q1,q20,q3,q4,q29,q5,gI,hj,hnl,A5 hnl,c1,hw,A0]
   | true =>
   cases c2:decide ((t.at n).loc=(k:Int)) with
   | false =>
    have hw:SO t e.has k (j+1)=SO t e.has k j:=by rw [SO,if_neg (by rw [CH,hne,Int.toNat_natCast,c1,c2];simp)]
    simp only [DT,go_sem,↓reduceIte,q31,q30,q22,q21,q1,q20,q3,q4,q29,q5,gI,hj,hnl,A5 hnl,c1,c2,hw,A0]
   | true =>
    have hw:SO t e.has k (j+1)=SO t e.has k j ||| C9 (n:Int):=by rw [SO,if_pos (by rw [CH,hne,Int.toNat_natCast,c1,c2];rfl),hne]
    simp only [DT,go_sem,↓reduceIte,q31,q30,q22,q21,q1,q20,q3,q4,q29,q5,gI,hj,hnl,A5 hnl,c1,c2,hw,CS C,A0]
  ·rintro F h ⟨q22,q21,q1,q20,q3,q4,q29,q5,rfl⟩
   have hat:Gk t e k=(decide (M.length=(BX (SO t e.has k e.has.length)).length) && decide (CD M=SO t e.has k e.has.length)):=by rw [Gk,hM]
   obtain ⟨W,hW⟩:∃ W,W=SO t e.has k e.has.length:=⟨_,rfl⟩
   rw [← hW] at q5 hat
   have d1i:decide ((M.length:Int)=((BX W).length:Int))=decide (M.length=(BX W).length):=decide_eq_decide.2 (by omega)
   cases d1:decide (M.length=(BX W).length) with
   | false =>
    have hb:=AR (p:=Gk t e) hk (by rw [hat,d1];rfl)
    simp only [DT,go_sem,↓reduceIte,q22,q21,q1,q20,q3,q4,q5,hcnt,d1i,d1,hb]
   | true =>
   cases d2:decide (CD M=W) with
   | false =>
    have hb:=AR (p:=Gk t e) hk (by rw [hat,d1,d2];rfl)
    simp only [DT,go_sem,↓reduceIte,q22,q21,q1,q20,q3,q4,q5,hcnt,d1i,d1,Mz C M (by omega),d2,hb]
   | true =>
    have hg:Gk t e k=true:=by rw [hat,d1,d2];rfl
    simp only [DT,go_sem,↓reduceIte,q22,q21,q1,q20,q3,q4,q5,hcnt,d1i,d1,Mz C M (by omega),d2]
    intro j hj
    rcases Nat.lt_or_ge j k with c | c
    ·exact pr j c
    ·rw [show j=k by omega];exact hg
  ·simp only [DT,go_sem,↓reduceIte]
  ·simp only [DT,go_sem,↓reduceIte]
  ·simp only [DT,go_sem,↓reduceIte,p22,p21,p1,p20,SO]
 ·rintro F h ⟨p1,p20,rfl,pr⟩
  have hb:=AO pr
  simp only [DT,go_sem,↓reduceIte,p1,p20,hb]
 ·simp only [DT,go_sem,↓reduceIte]
 ·simp only [DT,go_sem,↓reduceIte]
 ·simp only [DT,go_sem,↓reduceIte]
  intro j hj;omega
set_option maxHeartbeats 8000000 in
theorem M0 (t:A4) (ht:Aa t) (e:C4) (he:VX e) {n:Nat} (hn:n < t.nodes.length) (hk:(t.at n).kind=2∨(t.at n).kind=3) (hm:e.mo.length=t.locs.length) (hl:e.has.length=e.rf.length) (hh:(n:Int)∈e.has):VP V A2j [.ag (eRn t e),.i .i64 n] Q↔Q (.i .i64 (xPl t e n)):=by
 refine Ae ?_
 rw [Ab C.c_z33.1 C.c_z33.2]
 have g1:=he.has
 obtain ⟨i,hi,hil,_⟩:=E5 (A7.2 hh)
 have hloc:=ht.wloc hn hk
 obtain ⟨loc,hlo⟩:=Int.eq_ofNat_of_zero_le hloc.1
 have hll:loc < e.mo.length:=by omega
 have gL:=Gm hll
 have gR:=Av (show i < e.rf.length by omega)
 have hir:i < e.rf.length:=by omega
 have hmi:=he.mi' loc
 unfold xPl
 rw [Int.toNat_natCast,if_neg (by omega),hlo,Int.toNat_natCast,hi,Int.toNat_natCast]
 cases c:decide ((t.at n).kind=2) with
 | true =>
  rw [if_pos (of_decide_eq_true c)]
  have hix:CG (fun y=>decide ((n:Int)=y)) e.has=(i:Int):=hi
  simp only [A1s,Xl,go_sem,↓reduceIte,hn,A5 hn,c,hlo,hll,gL,gR,hir,Cn C e.has _ (by omega),Cn C (e.mo.getD loc []) _ (by omega),hix]
  rfl
 | false =>
  rw [if_neg (of_decide_eq_false c)]
  simp only [A1s,Xl,go_sem,↓reduceIte,hn,A5 hn,c,hlo,hll,gL,Cn C (e.mo.getD loc []) _ (by omega)]
  rfl
set_option maxHeartbeats 4000000 in
theorem A3K (t:A4) (ht:Aa t) (e:C4) (he:VX e):VP V A2h [vT t,vEx e] Q↔Q (.b (isX t e)):=by
 refine Ae ?_
 rw [Ab C.c_z30.1 C.c_z30.2]
 have h64:=ht.n64
 have hpos:0 < t.nodes.length:=by
  obtain ⟨s,h1,_⟩:=ht.kinds
  have:=(h1 0 (by have:=ht.r1;omega)).1
  omega
 have hhb:=fun (Q:VV→Prop)=>SD C t ht e.has e.rf he.has he.rf (Q:=Q)
 unfold isX
 cases hf:BR t e.has e.rf with
 | false =>
  rw [hbF,if_neg (by rw [hf];decide)] at hhb
  simp only [A1r,Xk,go_sem,↓reduceIte,hhb,Bool.false_and]
 | true =>
  have hF:=Cy hf
  rw [hbF,if_pos hf] at hhb
  have hl:(Lk t e.has e.rf).length=t.nodes.length:=DZ h64 _
  have hd:decide ((0:Int) < ((Lk t e.has e.rf).length:Nat))=true:=decide_eq_true (by omega)
  have hd2:decide (0 < (Lk t e.has e.rf).length)=true:=decide_eq_true (by omega)
  have hpl:=fun (Q:VV→Prop)=>R9 C t ht e he hF.node (Q:=Q)
  simp only [A1r,Xk,go_sem,↓reduceIte,hhb,Bool.true_and,hd,hd2,hpl,List.length_map]
set_option maxHeartbeats 4000000 in
theorem T8 (t:A4) (ht:Aa t) (e:C4) (he:VX e) (hm:e.mo.length=t.locs.length) (hl:e.has.length=e.rf.length) {n:Nat} (hn:n < t.nodes.length) (hh:(n:Int)∈e.has) :
  VP V XB [.i .i64 n,.fp (eT t) 0,.fp (eRn t e) 0] Q↔Q (.i .i64 (xPl t e n)):=by
 refine Ae ?_
 rw [Ab C.c_z32.1 C.c_z32.2]
 cases c2:decide ((t.at n).kind=2) with
 | true =>
  have hp:=fun (Q:VV→Prop)=>M0 C t ht e he hn (.inl (of_decide_eq_true c2)) hm hl hh (Q:=Q)
  simp only [WQ,S6,go_sem,↓reduceIte,hn,A5 hn,c2,hp]
 | false =>
 cases c3:decide ((t.at n).kind=3) with
 | true =>
  have hp:=fun (Q:VV→Prop)=>M0 C t ht e he hn (.inr (of_decide_eq_true c3)) hm hl hh (Q:=Q)
  simp only [WQ,S6,go_sem,↓reduceIte,hn,A5 hn,c2,c3,hp]
 | false =>
  have e0:xPl t e n=0:=by rw [xPl,Int.toNat_natCast,if_pos ⟨of_decide_eq_false c2,of_decide_eq_false c3⟩]
  rw [e0]
  simp only [WQ,S6,go_sem,↓reduceIte,hn,A5 hn,c2,c3]
set_option maxHeartbeats 8000000 in
theorem WE (t:A4) (ht:Aa t) (e:C4) (he:VX e):VP V Aa6 [vT t,vEx e] Q↔Q (.b (RS t e)):=by
 refine Ae ?_
 rw [Ab C.c_z9.1 C.c_z9.2]
 have h64:=ht.n64
 have his:=fun (Q:VV→Prop)=>A3K C t ht e he (Q:=Q)
 unfold RS
 cases hi:isX t e with
 | false =>
  simp only [A98,Qf,go_sem,↓reduceIte,his,hi,Bool.false_and]
 | true =>
  have hi':=hi
  simp only [isX,Te,Bool.and_eq_true,decide_eq_true_eq] at hi'
  obtain ⟨hf,hml,_⟩:=hi'
  have hF:=Cy hf
  have hhb:=fun (Q:VV→Prop)=>SD C t ht e.has e.rf he.has he.rf (Q:=Q)
  rw [hbF,if_pos hf] at hhb
  have hl:(Lk t e.has e.rf).length=t.nodes.length:=DZ h64 _
  have hpl:(Cd (Lk t e.has e.rf)).length≤5000:=by
   have:=Sm (Lk t e.has e.rf) (Lk t e.has e.rf).length
   rw [Cd]
   split
   ·rw [hl] at this ⊢;omega
   ·simp
  have hin:∀ x∈Cd (Lk t e.has e.rf),∃ a b:Nat,a < t.nodes.length∧b < t.nodes.length∧(a:Int)∈e.has∧(b:Int)∈e.has∧x=((a:Int),(b:Int)):=fun x hx=>by
   obtain ⟨a,b,ha,e,hp⟩:=(DI h64 _ _).1 hx
   have:=LH ht hF hp
   exact ⟨a,b,ha,hp.lt,this.1,this.2,e⟩
  have hpr:=fun (Q:VV→Prop)=>Ta C (fun n=>(n:Int)∈e.has) t ht (Lk t e.has e.rf) hin hpl (g:=XB) (c:=[.fp (eT t) 0,.fp (eRn t e) 0]) (fun _ _=>rfl) (xPl t e) (fun n hn hh Q=>T8 C t ht e he hml hF.len hn hh (Q:=Q)) (Q:=Q)
  obtain ⟨R,hR⟩:∃ R,R=Lk t e.has e.rf:=⟨_,rfl⟩
  rw [← hR] at hl hhb hpr ⊢
  rw [Bool.true_and]
  simp only [A98,Qf,go_sem,↓reduceIte,his,hi,hhb]
  refine Au (by decide) R.length (by omega) (I:=fun k F h=>A3.tmp F 2 = .fp (eT t) 0∧A3.tmp F 5=lW R∧A3.tmp F 22=lW R∧A3.tmp F 6 = .p 0 0 0 0∧h=[some ⟨Yw,0,0,false,[eRn t e]⟩]∧∀ j,j < k→Bx (R.getD j 0#64) j=false) ?_ ?_ 0 _ _ (by omega) ?_ ?_ ?_
  ·rintro k F h hk p24 p23 ⟨p2,p5,p22,p6,rfl,pr⟩
   have gW:=CU (a:=R) hk
   cases c1:Bx (R.getD k 0#64) (k:Int) with
   | true =>
    have hb:QM R=false:=AR hk (by rw [c1];rfl)
    simp only [Qf,go_sem,↓reduceIte,p24,p23,p2,p5,p22,p6,gW,hk,BO C,c1,hb,A0,Bool.false_and]
   | false =>
    simp only [Qf,go_sem,↓reduceIte,p24,p23,p2,p5,p22,p6,gW,hk,BO C,c1,A0]
    intro j hj
    rcases Nat.lt_or_ge j k with c | c
    ·exact pr j c
    ·rw [show j=k by omega];exact c1
  ·rintro F h ⟨p2,p5,p22,p6,rfl,pr⟩
   have hb:QM R=true:=AO fun j hj=>by rw [pr j hj];rfl
   simp only [Qf,go_sem,↓reduceIte,p2,p5,p22,p6,hpr,hb,Bool.true_and]
  ·simp only [Qf,go_sem,↓reduceIte]
  ·simp only [Qf,go_sem,↓reduceIte]
  ·simp only [Qf,go_sem,↓reduceIte]
   intro j hj;omega
end
theorem A7w (l:List Int) (x:Int):CD (l++[x])=CD l ||| C9 x:=by
 unfold CD
 rw [List.foldl_append];rfl
theorem A8j {t:A4} {has:List Int} {loc:Nat}:∀ k,k≤has.length→SO t has loc k=CD ((has.take k).filter (CH t loc))
 | 0,_=>rfl
 | k+1,h=>by
  have e:has.take (k+1)=has.take k++[has.getD k 0]:=by
   rw [List.take_succ_eq_append_getElem (show k < has.length by omega),List.getD_eq_getElem?_getD,List.getElem?_eq_getElem (show k < has.length by omega)];rfl
  rw [SO,A8j k (by omega),e,List.filter_append]
  cases c:CH t loc (has.getD k 0) with
  | true=>rw [if_pos rfl,List.filter_cons_of_pos c,List.filter_nil,A7w]
  | false=>rw [if_neg (by decide),List.filter_cons_of_neg (by rw [c];decide),List.filter_nil,List.append_nil]
theorem HF:∀ {L:List (List Int)},(∀ c∈L,∃ w:Int,c=[w])→L=L.flatten.map fun w=>[w]
 | [],_=>rfl
 | c::L,h=>by
  obtain ⟨w,rfl⟩:=h c (by simp)
  have:=HF (L:=L) fun c hc=>h c (by simp [hc])
  rw [List.flatten_cons,List.singleton_append,List.map_cons,← this]
theorem A5G {α β:Type} (p:β→Bool) (f:α→β) (l:List α):CG p (l.map f)=CG (fun x=>p (f x)) l:=by
 unfold CG
 rw [List.findIdx?_map];rfl
theorem A7U {L:List (List Int)} (h:∀ c∈L,∃ w:Int,c=[w]) (w:Int):CG (fun c=>B2 c w) L=DD L.flatten w:=by
 conv=>lhs;rw [HF h]
 rw [A5G]
 unfold DD
 congr 1
 funext y
 simp [B2]
theorem Ya {L:List (List Int)} (h:∀ c∈L,∃ w:Int,c=[w]) (w:Int):(L.filter fun c=>B2 c w).length=L.flatten.count w:=by
 conv=>lhs;rw [HF h]
 rw [List.filter_map,List.length_map,List.count,List.countP_eq_length_filter]
 congr 2
 funext y
 simp only [Function.comp,B2,List.any_cons,List.any_nil,Bool.or_false]
 show decide (w=y)=(y == w)
 by_cases c:w=y
 ·rw [decide_eq_true c,c];simp
 ·rw [decide_eq_false c];exact (beq_eq_false_iff_ne.2 fun e=>c e.symm).symm
section
variable {t:A4} (ht:Aa t) {s:Am} {mem:List Int} {k:Nat} (W:WI t s mem k)
include W
theorem WI.sing {loc:Nat} (hl:loc < s.mo.length):∀ c∈s.mo.getD loc [],∃ w:Int,c=[w]:=fun c hc=>by
 obtain ⟨w,h,_⟩:=W.one loc hl c hc
 exact ⟨w,h⟩
theorem A5D {loc:Nat} (hl:loc < s.mo.length):(Cj s).mo.getD loc []=(s.mo.getD loc []).flatten:=by
 show (s.mo.map fun l=>l.flatten).getD loc []=_
 rw [List.getD_eq_getElem?_getD,List.getElem?_map,List.getD_eq_getElem?_getD,List.getElem?_eq_getElem hl];rfl
theorem A1m {loc:Nat} (hl:loc < s.mo.length) {x:Int}:x∈(s.mo.getD loc []).flatten↔x∈s.has.filter (CH t loc):=by
 rw [List.mem_filter]
 constructor
 ·intro hx
  obtain ⟨c,hc,hx⟩:=List.mem_flatten.1 hx
  obtain ⟨w,rfl,h1,h2,h3⟩:=W.one loc hl c hc
  obtain rfl:=List.mem_singleton.1 hx
  refine ⟨h1,?_⟩
  simp [CH,h2,h3]
 ·rintro ⟨hx,hw⟩
  simp only [CH,Bool.and_eq_true,decide_eq_true_eq] at hw
  have ho:=W.form.once x hx hw.1
  rw [hw.2,Int.toNat_natCast,Ya (W.sing hl)] at ho
  exact List.count_pos_iff.1 (by omega)
include ht
theorem AfZ {loc:Nat} (hl:loc < s.mo.length):Gk t (Cj s) loc=true:=by
 have h64:=ht.n64
 have hw:=A8j (t:=t) (has:=s.has) (loc:=loc) s.has.length (Nat.le_refl _)
 rw [List.take_length] at hw
 have e1:CD (s.mo.getD loc []).flatten=CD (s.has.filter (CH t loc)):=by
  have a:=Me (l:=(s.mo.getD loc []).flatten) (l':=s.has.filter (CH t loc)) fun x hx=>(A1m W hl).1 hx
  have b:=Me (l:=s.has.filter (CH t loc)) (l':=(s.mo.getD loc []).flatten) fun x hx=>(A1m W hl).2 hx
  rw [BitVec.or_comm] at b
  exact b.symm.trans a
 have hnode:Dh t (s.mo.getD loc []).flatten:=fun x hx=>W.form.node x (List.mem_filter.1 ((A1m W hl).1 hx)).1
 have hnd:(s.has.filter (CH t loc)).Nodup:=List.Nodup.sublist List.filter_sublist (W.form.ris.imp fun h=>by omega)
 have:=(A7C h64 hnode hnd (fun x hx=>(A1m W hl).1 hx)).2 (fun n hn=>by
  obtain ⟨h1,h2⟩:=List.mem_filter.1 hn
  simp only [CH,Bool.and_eq_true,decide_eq_true_eq] at h2
  have ho:=W.form.once n h1 h2.1
  rwa [h2.2,Int.toNat_natCast,Ya (W.sing hl)] at ho)
 have hh:(Cj s).has=s.has:=rfl
 rw [Gk,A5D W hl,hh,hw,← e1,Bool.and_eq_true,decide_eq_true_eq,decide_eq_true_eq]
 exact ⟨by omega,rfl⟩
theorem AfX:isX t (Cj s)=true:=by
 have hml:(Cj s).mo.length=s.mo.length:=by simp [Cj]
 rw [isX,Te,Bool.and_eq_true,Bool.and_eq_true,decide_eq_true_eq,hml]
 exact ⟨Kx (Gl.2 W.form),W.form.ml,AO fun loc hl=>AfZ ht W hl⟩
theorem A5E {n:Nat} (hn:(n:Int)∈s.has) (hnl:n < t.nodes.length) (hk:(t.at n).kind=2∨(t.at n).kind=3):xPl t (Cj s) n=plN t s n:=by
 have hloc:=ht.wloc hnl hk
 obtain ⟨loc,hlo⟩:=Int.eq_ofNat_of_zero_le hloc.1
 have hml:=W.form.ml
 have hl:loc < s.mo.length:=by omega
 have hw:(if (t.at n).kind=2 then (Cj s).rf.getD (DD (Cj s).has n).toNat 0 else (n:Int))=(if (t.at n).kind=2 then jfF s n else (n:Int)):=by
  obtain ⟨i,hi,hil,_⟩:=E5 (A7.2 hn)
  have hjl:=W.form.jl
  have e1:(Cj s).rf.getD (DD (Cj s).has n).toNat 0=jfF s n:=by
   show s.jf.getD (DD s.has n).toNat 0=_
   rw [jfF,hi,if_neg (by omega)]
  rw [e1]
 rw [xPl,Int.toNat_natCast,if_neg (by omega),hw,plN,Int.toNat_natCast,hlo,Int.toNat_natCast,A5D W hl,BH,Int.toNat_natCast]
 rw [if_neg (show ¬ ((loc:Int) < 0∨(s.mo.length:Int)≤loc) by omega)]
 exact (A7U (W.sing hl) _).symm
theorem AfY:RS t (Cj s)=true:=by
 have h64:=ht.n64
 have hc:=W.coh
 rw [T7,Bool.and_eq_true,List.all_eq_true] at hc
 obtain ⟨hf,hp⟩:=hc
 have hF:=Cy (Kx hf)
 have good:∀ a b:Nat,a≠b→KU (JX t s.has s.jf) t.nodes.length a b→DY t s a b=true:=fun a b _ hpt =>
  hp _ ((DI h64 _ _).2 ⟨a,b,by have:=hpt.lt;have:=(LH ht hF hpt).1;obtain ⟨m,e,hm⟩:=A9 (hF.node _ this);omega,rfl,hpt⟩)
 have hl:(Lk t s.has s.jf).length=t.nodes.length:=DZ h64 _
 have hring:QM (Lk t s.has s.jf)=true:=AO fun i hi=>by
  rw [hl] at hi
  cases c:Bx ((Lk t s.has s.jf).getD i 0#64) (i:Int) with
  | false=>rfl
  | true =>
   rw [AH] at c
   exact absurd ((GB h64 _ hi).1 c) (Aa7 ht hF.len hF good i)
 rw [RS,AfX ht W,Bool.true_and]
 show (QM (Lk t s.has s.jf) && (Cd (Lk t s.has s.jf)).all _)=true
 rw [hring,Bool.true_and,List.all_eq_true]
 intro x hx
 have hpx:=hp x hx
 obtain ⟨a,b,ha,rfl,hpt⟩:=(DI h64 _ _).1 hx
 obtain ⟨ma,mb⟩:=LH ht hF hpt
 simp only [DY,CK,Int.toNat_natCast,Bool.or_eq_true] at hpx ⊢
 rcases hpx with h | h
 ·exact .inl h
 ·by_cases ka:(t.at a).kind=2∨(t.at a).kind=3
  ·by_cases kb:(t.at b).kind=2∨(t.at b).kind=3
   ·refine .inr ?_
    rw [A5E ht W ma ha ka,A5E ht W mb hpt.lt kb];exact h
   ·refine .inl (.inl (.inr ?_))
    rw [decide_eq_false (fun h=>kb (.inl h)),decide_eq_false (fun h=>kb (.inr h))];rfl
  ·refine .inl (.inl (.inl ?_))
   rw [decide_eq_false (fun h=>ka (.inl h)),decide_eq_false (fun h=>ka (.inr h))];rfl
omit W in
theorem Ag0 (W:WI t s mem k):VX (Cj s):=by
 have hs:=W.gr.sz ht (by have:=W.k64 ht;omega)
 have hml:(Cj s).mo.length=s.mo.length:=by simp [Cj]
 refine ⟨hs.has,hs.jf,by rw [hml];exact hs.mo,fun l hl=>?_⟩
 obtain ⟨m,hm,rfl⟩:=List.mem_map.1 hl
 obtain ⟨i,hi,rfl⟩:=List.getElem_of_mem hm
 have hd:s.mo[i]=s.mo.getD i []:=by rw [List.getD_eq_getElem?_getD,List.getElem?_eq_getElem hi];rfl
 have hsing:=W.sing hi
 rw [← hd] at hsing
 have hh:=congrArg List.length (HF hsing)
 rw [List.length_map] at hh
 rw [← hh]
 exact hs.mi _ hm
end
section
variable {V:Al} (C:AA V)
include C
set_option maxHeartbeats 4000000 in
theorem Ri (t:A4) (ht:Aa t) (l:List U8) (hl:l.length≤1000∧∀ x∈l,x.n < 256):VP V A7p [vT t,lU l] fun v=>∃ s mem k at_,v = .tu [QZ s,.b true,lI mem]∧WI t s mem k∧StI t s at_∧∀ u∈at_,GH t u mem=none:=by
 rw [Ab C.c_z7.1 C.c_z7.2]
 simp only [Ac8,A6T,go_sem,↓reduceIte]
 refine U2 C t ht l hl (fun s mem k at_ W S h=>?_)
 simp only [A6T,go_sem,↓reduceIte]
 exact ⟨s,mem,rfl,k,W,at_,S,h⟩
theorem Rh (t:A4) (ht:Aa t) (l:List U8) (hl:l.length≤1000∧∀ x∈l,x.n < 256):VP V A7p [vT t,lU l] fun v=>∃ s mem k,v = .tu [QZ s,.b true,lI mem]∧WI t s mem k :=
 (Ri C t ht l hl).mono fun _ ⟨s,mem,k,_,h,W,_⟩=>⟨s,mem,k,h,W⟩
end
end Go.AM
