/-
  Own work, part of the proof of CoheExec: plain models of what functions compute.
-/
import Derived.Test.YtpcpldaangchaaaGreatDoorAmE
set_option maxRecDepth 4000
set_option linter.unusedVariables false
set_option linter.unusedSimpArgs false
set_option linter.unusedSectionVars false
set_option linter.unnecessarySimpa false
namespace Go.AM
open Go Go.Proofs
def CD (xs:List Int):BitVec 64:=xs.foldl (fun s i=>s ||| C9 i) 0#64
def D2 (lo hi:Int):BitVec 64:=BC fun i=>decide (lo≤(i:Int)∧(i:Int) < hi)
def Ax (s:BitVec 64):List Int:=(BX s).map fun (i:Nat)=>(i:Int)
def CG {α:Type} (p:α→Bool) (xs:List α):Int:=match xs.findIdx? p with
 | some i=>i
 | none=>-1
theorem DG {α:Type} {p:α→Bool} {xs:List α} {k:Nat} (hk:k < xs.length) (h1:p xs[k]=true) (h2:∀ (j:Nat) (hj:j < k),p xs[j]=false):CG p xs=k:=by
 unfold CG
 rw [List.findIdx?_eq_some_iff_getElem.2 ⟨hk,h1,fun j hj=>by simp [h2 j hj]⟩]
theorem Ei {α:Type} {p:α→Bool} {xs:List α} (h:∀ x∈xs,p x=false):CG p xs = -1:=by
 unfold CG
 rw [List.findIdx?_eq_none_iff.2 h]
theorem M5 {α:Type} (p:α→Bool) (xs:List α):decide (0≤CG p xs)=xs.any p:=by
 unfold CG
 cases h:xs.findIdx? p with
 | none=>rw [List.findIdx?_eq_none_iff] at h;simp;exact h
 | some i =>
  obtain ⟨hi,h1,_⟩:=List.findIdx?_eq_some_iff_getElem.1 h
  simp
  exact ⟨_,List.getElem_mem hi,h1⟩
abbrev Rows:=List (BitVec 64)
def Dl (r:Rows):Bool:=decide (r.length≤64) && r.all fun x=>decide (x &&& ~~~(D2 0 r.length)=0#64)
def Ea (a:Rows) (s:BitVec 64):BitVec 64:=(BX (s &&& D2 0 a.length)).foldl (fun x i=>x ||| a.getD i 0#64) 0#64
def JW (a:Rows):Nat→BitVec 64→BitVec 64
 | 0,s=>s
 | n+1,s=>if s ||| Ea a s=s then s else JW a n (s ||| Ea a s)
theorem Kc {s x:BitVec 64} (h:s ||| x≠s):s.toNat < (s ||| x).toNat:=by
 have h1:s.toNat≤(s ||| x).toNat:=by rw [BitVec.toNat_or];exact Nat.left_le_or
 rcases Nat.lt_or_ge s.toNat (s ||| x).toNat with h2 | h2
 ·exact h2
 ·exact absurd (BitVec.eq_of_toNat_eq (by omega)) h
theorem A02 (a:Rows):∀ (n:Nat) (s:BitVec 64),18446744073709551616 - s.toNat≤n→JW a (n+1) s=JW a n s:=by
 intro n
 induction n with
 | zero=>intro s h;have:=s.isLt;omega
 | succ n ih =>
  intro s h
  rw [JW]
  by_cases e:s ||| Ea a s=s
  ·rw [if_pos e];rw [JW,if_pos e]
  ·rw [if_neg e]
   have:=Kc e
   rw [ih _ (by omega),JW,if_neg e]
def EQ (a:Rows) (s:BitVec 64):BitVec 64:=JW a 18446744073709551616 s
theorem YG (a:Rows) (s:BitVec 64):EQ a s=if s ||| Ea a s=s then s else EQ a (s ||| Ea a s):=by
 have h0:EQ a s=JW a (18446744073709551615+1) s:=rfl
 rw [h0,JW]
 by_cases e:s ||| Ea a s=s
 ·rw [if_pos e,if_pos e]
 ·rw [if_neg e,if_neg e]
  have:=Kc e
  exact (A02 a 18446744073709551615 _ (by omega)).symm
def Ed (a:Rows):Rows:=if Dl a then (List.range a.length).map (fun i=>EQ a (a.getD i 0#64)) else []
def Xb (a:Rows) (s:BitVec 64):Rows:=if Dl a then (List.range a.length).map (fun (i:Nat)=>if Bx s (i:Int) then a.getD i 0#64 &&& s else 0#64) else []
theorem A9c {a:Rows} {i:Nat} (h:i < a.length):a.getD i 0#64=a[i]:=by
 simp only [List.getD_eq_getElem?_getD,List.getElem?_eq_getElem h,Option.getD_some]
theorem KG {a:Rows} (h:Dl a=true):a.length≤64:=by simp only [Dl,Bool.and_eq_true,decide_eq_true_eq] at h;exact h.1
def Cd (a:Rows):List (Int×Int):=if Dl a then (List.range a.length).flatMap (fun i=>(Ax (a.getD i 0#64)).map fun j=>((i:Int),j)) else []
theorem De (s:BitVec 64):(Ax s).length≤64:=by
 simp only [Ax,List.length_map]
 unfold BX
 exact Nat.le_trans (List.length_filter_le _ _) (by simp)
theorem Sm (a:Rows):∀ k,((List.range k).flatMap (fun i=>(Ax (a.getD i 0#64)).map fun j=>((i:Int),j))).length≤64 * k:=by
 intro k
 induction k with
 | zero=>simp
 | succ k ih =>
  rw [List.range_succ,List.flatMap_append,List.length_append]
  have:=De (a.getD k 0#64)
  simp only [List.flatMap_cons,List.flatMap_nil,List.append_nil,List.length_map]
  omega
def Wf (s t:BitVec 64):Prop:=∀ j,s.getLsbD j=true→t.getLsbD j=true
def LP (a:Rows) (t:BitVec 64):Prop:=∀ y,y < a.length→t.getLsbD y=true→Wf (a.getD y 0#64) t
structure Pl (a:Rows) (s t:BitVec 64):Prop where
 sub:Wf s t
 closed:LP a t
 least:∀ u,Wf s u→LP a u→Wf t u
theorem Wf.anti {s t:BitVec 64} (h:Wf s t) (k:Wf t s):s=t:=by
 apply BL
 intro j _
 cases hs:s.getLsbD j with
 | true=>exact (h j hs).symm
 | false =>
  cases ht:t.getLsbD j with
  | false=>rfl
  | true=>rw [k j ht] at hs;cases hs
theorem Pl.uniq {a:Rows} {s t u:BitVec 64} (h:Pl a s t) (k:Pl a s u):t=u:=Wf.anti (h.least u k.sub k.closed) (k.least t h.sub h.closed)
theorem To {α:Type} (f:α→BitVec 64) (j:Nat):∀ (l:List α) (x:BitVec 64),(l.foldl (fun x i=>x ||| f i) x).getLsbD j=(x.getLsbD j || l.any fun i=>(f i).getLsbD j)
 | [],x=>by simp
 | i::l,x=>by rw [List.foldl_cons,To f j l,BitVec.getLsbD_or,List.any_cons,Bool.or_assoc]
theorem S1 {a:Rows} (hl:a.length≤64) (s:BitVec 64) (j:Nat):(Ea a s).getLsbD j=true↔∃ i,i < a.length∧s.getLsbD i=true∧(a.getD i 0#64).getLsbD j=true:=by
 unfold Ea
 rw [To]
 simp only [BitVec.getLsbD_zero,Bool.false_or,List.any_eq_true,KH,BitVec.getLsbD_and,Bool.and_eq_true,D2,AF,decide_eq_true_eq]
 constructor
 ·rintro ⟨i,⟨h1,h2,h3⟩,h4⟩
  exact ⟨i,by omega,h1,h4⟩
 ·rintro ⟨i,h1,h2,h3⟩
  exact ⟨i,⟨h2,by omega,by omega⟩,h3⟩
theorem A3Z {a:Rows} (hl:a.length≤64):∀ (n:Nat) (s:BitVec 64),18446744073709551616 - s.toNat≤n→Pl a s (JW a n s):=by
 intro n
 induction n with
 | zero=>intro s h;have:=s.isLt;omega
 | succ n ih =>
  intro s h
  rw [JW]
  by_cases e:s ||| Ea a s=s
  ·rw [if_pos e]
   refine ⟨fun j h=>h,fun y hy hs j hj=>?_,fun u hu _=>hu⟩
   have:(Ea a s).getLsbD j=true:=(S1 hl s j).2 ⟨y,hy,hs,hj⟩
   rw [← e,BitVec.getLsbD_or,this,Bool.or_true]
  ·rw [if_neg e]
   have hg:=Kc e
   obtain ⟨h1,h2,h3⟩:=ih (s ||| Ea a s) (by omega)
   refine ⟨fun j hj=>h1 j (by rw [BitVec.getLsbD_or,hj,Bool.true_or]),h2,fun u hu hc=>h3 u (fun j hj=>?_) hc⟩
   rw [BitVec.getLsbD_or,Bool.or_eq_true] at hj
   rcases hj with hj | hj
   ·exact hu j hj
   ·obtain ⟨i,hi,hs,hij⟩:=(S1 hl s j).1 hj
    exact hc i hi (hu i hs) j hij
theorem PC {a:Rows} (hl:a.length≤64) (s:BitVec 64):Pl a s (EQ a s):=A3Z hl _ s (by omega)
theorem A7Z (s t:BitVec 64):(s ||| t=t)↔Wf s t:=by
 constructor
 ·intro h j hj
  rw [← h,BitVec.getLsbD_or,hj,Bool.true_or]
 ·intro h
  apply BL
  intro j _
  rw [BitVec.getLsbD_or]
  cases hs:s.getLsbD j with
  | true=>rw [h j hs];rfl
  | false=>simp
def orF (a b:Rows):Rows:=if Dl a && Dl b && decide (a.length=b.length) then (List.range a.length).map (fun i=>a.getD i 0#64 ||| b.getD i 0#64) else []
def Co {α:Type} (n k:Nat) (f:Nat→α) (z:α):List α:=(List.range n).map fun j=>if j < k then f j else z
theorem QY {α:Type} {n k:Nat} {f:Nat→α} {z:α}:(Co n k f z).length=n:=by simp [Co]
theorem HH {α:Type} {n k:Nat} {f:Nat→α} {z:α} (h:k < n):(Co n k f z)[k]? = some z:=by
 unfold Co
 rw [List.getElem?_map,List.getElem?_range h]
 simp
theorem Mq {α β:Type} {n k:Nat} {f:Nat→α} {z:α} (g:α→β):((Co n k f z).map g).set k (g (f k))=(Co n (k+1) f z).map g:=by
 apply List.ext_getElem
 ·simp [Co]
 ·intro j h1 h2
  simp only [Co,List.getElem_set,List.getElem_map,List.getElem_range]
  by_cases e:k=j
  ·subst e;simp
  ·have:(j < k+1)↔(j < k):=by omega
   simp [e,this]
theorem Eo {α:Type} {n:Nat} {f:Nat→α} {z:α}:Co n 0 f z=List.replicate n z:=by
 apply List.ext_getElem
 ·simp [Co]
 ·intro j h1 h2;simp [Co]
theorem GI {α:Type} {n:Nat} {f:Nat→α} {z:α}:Co n n f z=(List.range n).map f:=by
 apply List.map_congr_left
 intro j hj
 rw [if_pos (List.mem_range.1 hj)]
def Ay.zero:Ay:=⟨0,0,0,0,0,0,false,false,[]⟩
def A4.at (t:A4) (i:Nat):Ay:=t.nodes.getD i Ay.zero
def JC (t:A4):Prop:=∀ i,i < t.nodes.length→(t.at i).up < i
def KQ (t:A4) (a:Int):Nat→Int→Bool
 | 0,_=>false
 | n+1,x=>if x < 0 then false else if x=a then true else KQ t a n (t.at x.toNat).up
theorem RL {t:A4} (h:JC t) (a:Int):∀ (n:Nat) (x:Int),x < n→x < t.nodes.length→KQ t a (n+1) x=KQ t a n x:=by
 intro n
 induction n with
 | zero =>
  intro x hx _
  show (if x < 0 then false else if x=a then true else KQ t a 0 (t.at x.toNat).up)=false
  rw [if_pos (by omega)]
 | succ n ih =>
  intro x hx hl
  rw [KQ]
  by_cases h0:x < 0
  ·rw [if_pos h0,KQ,if_pos h0]
  ·rw [if_neg h0]
   conv=>rhs;rw [KQ,if_neg h0]
   by_cases h1:x=a
   ·rw [if_pos h1,if_pos h1]
   ·rw [if_neg h1,if_neg h1]
    have:=h x.toNat (by omega)
    exact ih _ (by omega) (by omega)
def AQ (t:A4) (a:Int) (b:Nat):Bool:=KQ t a t.nodes.length (t.at b).up
theorem AfA {t:A4} {i:Nat} (h:i < t.nodes.length):t.at i=t.nodes[i]:=by
 simp only [A4.at,List.getD_eq_getElem?_getD,List.getElem?_eq_getElem h,Option.getD_some]
theorem A5 {t:A4} {i:Nat} (h:i < t.nodes.length):t.nodes[i]? = some (t.at i):=by rw [AfA h,List.getElem?_eq_getElem h]
def BT (t:A4) (n:Int):Bool:=decide (0≤n) && decide (n < t.nodes.length)
theorem A9 {t:A4} {n:Int} (h:BT t n=true):∃ m:Nat,n=(m:Int)∧m < t.nodes.length:=by
 simp only [BT,Bool.and_eq_true,decide_eq_true_eq] at h
 obtain ⟨m,rfl⟩:=Int.eq_ofNat_of_zero_le h.1
 exact ⟨m,rfl,by omega⟩
theorem Cl {t:A4} {m:Nat} (h:m < t.nodes.length):BT t (m:Int)=true:=by
 simp only [BT,Bool.and_eq_true,decide_eq_true_eq]
 omega
def Ao (t:A4) (a b:Int):Bool:=BT t a && BT t b && (if (t.at a.toNat).thread < 0 then decide (0≤(t.at b.toNat).thread) else AQ t a b.toNat)
def Eu (t:A4) (a b:Int):Bool:=BT t a && BT t b && !decide (a=b) && decide (0≤(t.at a.toNat).thread) && decide ((t.at a.toNat).thread=(t.at b.toNat).thread) && !AQ t a b.toNat && !AQ t b a.toNat
def Kf (n:Ay):Bool:=decide (0≤n.thread) && decide (n.kind=3) && decide (n.mode=0) && !n.rmw
def HP (n:Ay):Bool:=(decide (n.kind=2) || decide (n.kind=4)) && (decide (n.mode=1) || decide (n.mode=3) || decide (n.mode=4))
def E7 (n:Ay):Bool:=(decide (n.kind=3) && decide (0≤n.thread) || decide (n.kind=4)) && (decide (n.mode=2) || decide (n.mode=3) || decide (n.mode=4))
theorem AO {n:Nat} {p:Nat→Bool} (h:∀ j,j < n→p j=true):(List.range n).all p=true:=by
 rw [List.all_eq_true]
 intro j hj
 exact h j (List.mem_range.1 hj)
theorem AR {n k:Nat} {p:Nat→Bool} (hk:k < n) (h:p k=false):(List.range n).all p=false:=by
 rw [List.all_eq_false]
 exact ⟨k,List.mem_range.2 hk,by simp [h]⟩
theorem Ar {n:Nat} {p:Nat→Bool}:(List.range n).all p=true↔∀ j,j < n→p j=true:=by
 rw [List.all_eq_true]
 exact ⟨fun h j hj=>h j (List.mem_range.2 hj),fun h j hj=>h j (List.mem_range.1 hj)⟩
theorem Wm {n k:Nat} {p:Nat→Bool} (hk:k < n) (h:p k=true):(List.range n).any p=true:=by
 rw [List.any_eq_true]
 exact ⟨k,List.mem_range.2 hk,h⟩
theorem Av {xs:List Int} {k:Nat} (h:k < xs.length):xs[k]? = some (xs.getD k 0):=by
 rw [List.getD_eq_getElem?_getD,List.getElem?_eq_getElem h];rfl
theorem Gm {xs:List (List Int)} {k:Nat} (h:k < xs.length):xs[k]? = some (xs.getD k []):=by
 rw [List.getD_eq_getElem?_getD,List.getElem?_eq_getElem h];rfl
theorem Dk {xs:List (List (List Int))} {k:Nat} (h:k < xs.length):xs[k]? = some (xs.getD k []):=by
 rw [List.getD_eq_getElem?_getD,List.getElem?_eq_getElem h];rfl
theorem Aj {α:Type} {xs:List α} {k:Nat} {d:α} (h:k < xs.length):xs.getD k d∈xs:=by
 rw [List.getD_eq_getElem?_getD,List.getElem?_eq_getElem h]
 exact List.getElem_mem h
def B2 (l:List Int) (n:Int):Bool:=l.any fun y=>decide (n=y)
theorem A7 {l:List Int} {n:Int}:B2 l n=true↔n∈l:=by
 unfold B2
 rw [List.any_eq_true]
 constructor
 ·rintro ⟨x,hx,e⟩;rw [of_decide_eq_true e];exact hx
 ·intro h;exact ⟨n,h,by simp⟩
def DD (l:List Int) (n:Int):Int:=CG (fun y=>decide (n=y)) l
theorem KO (l:List Int) (n:Int):decide (0≤DD l n)=B2 l n:=M5 _ _
theorem C3 (l:List Int) (n:Int):decide (DD l n < 0) = !B2 l n:=by
 rw [← KO]
 by_cases h:0≤DD l n
 ·have:¬ DD l n < 0:=by omega
  simp [h,this]
 ·have:DD l n < 0:=by omega
  simp [h,this]
theorem JT {α:Type} {p:α→Bool} {l:List α} (h:l.any p=true):∃ k:Nat,CG p l=k∧∃ hk:k < l.length,p l[k]=true∧∀ (j:Nat) (hj:j < k),p (l[j]'(by omega))=false:=by
 unfold CG
 cases e:l.findIdx? p with
 | none =>
  rw [List.findIdx?_eq_none_iff] at e
  rw [List.any_eq_true] at h
  obtain ⟨x,hx,hp⟩:=h
  rw [e x hx] at hp;cases hp
 | some i =>
  obtain ⟨hi,h1,h2⟩:=List.findIdx?_eq_some_iff_getElem.1 e
  exact ⟨i,rfl,hi,h1,fun j hj=>by simpa using h2 j hj⟩
theorem WN {α:Type} {p:α→Bool} {l:List α} (h:l.any p=false):CG p l = -1:=by
 apply Ei
 intro x hx
 rw [List.any_eq_false] at h
 simpa using h x hx
theorem E5 {l:List Int} {n:Int} (h:B2 l n=true):∃ k:Nat,DD l n=k∧k < l.length∧l.getD k 0=n∧∀ j,j < k→l.getD j 0≠n:=by
 obtain ⟨k,e,hk,h1,h2⟩:=JT h
 refine ⟨k,e,hk,?_,fun j hj=>?_⟩
 ·rw [List.getD_eq_getElem?_getD,List.getElem?_eq_getElem hk]
  exact (of_decide_eq_true h1).symm
 ·have:=h2 j hj
  rw [List.getD_eq_getElem?_getD,List.getElem?_eq_getElem (by omega)]
  intro e;rw [Option.getD_some] at e;rw [e] at this;simp at this
def El (l:List Int) (k:Nat):Bool:=decide (k=0) || decide (l.getD (k - 1) 0 < l.getD k 0)
def JZ (t:A4):BitVec 64:=BC fun i=>decide (i < t.nodes.length) && decide ((t.at i).up < 0)
def Du (t:A4) (l:List Int) (k:Nat):Bool:=BT t (l.getD k 0) && El l k && (decide ((t.at (l.getD k 0).toNat).up < 0) || B2 l (t.at (l.getD k 0).toNat).up)
def EJ (t:A4) (l:List Int):Bool:=(List.range l.length).all (Du t l) && decide (JZ t ||| CD l=CD l)
def D5 (t:A4) (x y:Int):Bool:=Kf (t.at x.toNat) && Kf (t.at y.toNat) && decide ((t.at x.toNat).val=(t.at y.toNat).val) && Eu t x y
def Ll (t:A4) (n loc:Int):Bool:=decide ((t.at n.toNat).kind=3) && decide ((t.at n.toNat).loc=loc)
def C7 (t:A4) (l has:List Int) (loc:Int) (i:Nat):Bool:=B2 has (l.getD i 0) && El l i && Ll t (l.getD i 0) loc && decide (0≤(t.at (l.getD i 0).toNat).thread) && (List.range i).all fun k=>D5 t (l.getD i 0) (l.getD k 0)
def DQ (t:A4) (l has:List Int) (loc:Int):Bool:=!decide (l.length=0) && (List.range l.length).all (C7 t l has loc)
def M9 (t:A4) (s:Am) (i:Nat):Bool :=
 if (t.at (s.has.getD i 0).toNat).kind=2 then B2 s.has (s.jf.getD i 0) && Ll t (s.jf.getD i 0) (t.at (s.has.getD i 0).toNat).loc && decide ((t.at (s.jf.getD i 0).toNat).val=(t.at (s.has.getD i 0).toNat).val) else decide (s.jf.getD i 0 = -1)
def Gx (t:A4) (s:Am) (loc:Nat):Bool :=
 let m:=s.mo.getD loc []
 !decide (m.length=0) && decide (m.getD 0 []=[(loc:Int)]) && (List.range m.length).all fun i=>decide (i=0) || DQ t (m.getD i []) s.has loc
def NG (t:A4) (s:Am) (i:Nat):Bool :=
 !decide ((t.at (s.has.getD i 0).toNat).kind=3) || decide (((s.mo.getD (t.at (s.has.getD i 0).toNat).loc.toNat []).filter fun c=>B2 c (s.has.getD i 0)).length=1)
def Ck (t:A4) (s:Am):Bool:=EJ t s.has && decide (s.jf.length=s.has.length) && decide (s.mo.length=t.locs.length) && (List.range s.has.length).all (M9 t s) && (List.range s.mo.length).all (Gx t s) && (List.range s.has.length).all (NG t s)
structure Wg (s:Am):Prop where
 has:s.has.length≤1000
 jf:s.jf.length≤1000
 mo:s.mo.length≤1000
 mi:∀ l∈s.mo,l.length≤1000
 mc:∀ l∈s.mo,∀ c∈l,c.length≤1000
theorem Wg.mi' {s:Am} (h:Wg s) (k:Nat):(s.mo.getD k []).length≤1000:=by
 by_cases hk:k < s.mo.length
 ·exact h.mi _ (Aj hk)
 ·rw [List.getD_eq_getElem?_getD,List.getElem?_eq_none (by omega)];simp
theorem Wg.mc' {s:Am} (h:Wg s) (k j:Nat):((s.mo.getD k []).getD j []).length≤1000:=by
 by_cases hk:k < s.mo.length
 ·by_cases hj:j < (s.mo.getD k []).length
  ·exact h.mc _ (Aj hk) _ (Aj hj)
  ·rw [List.getD_eq_getElem?_getD,List.getElem?_eq_none (by omega)];simp
 ·rw [List.getD_eq_getElem?_getD,List.getElem?_eq_none (by rw [List.getD_eq_getElem?_getD,List.getElem?_eq_none (by omega)];simp)];simp
def jfF (s:Am) (n:Int):Int:=if DD s.has n < 0∨(s.jf.length:Int)≤DD s.has n then -1 else s.jf.getD (DD s.has n).toNat 0
def BH (s:Am) (loc w:Int):Int:=if loc < 0∨(s.mo.length:Int)≤loc then -1 else CG (fun c=>B2 c w) (s.mo.getD loc.toNat [])
def CK (a b:Ay) (pa pb:Int):Bool :=
 (!(decide (a.kind=2) || decide (a.kind=3)) || !(decide (b.kind=2) || decide (b.kind=3)) || !decide (a.loc=b.loc)) || (if b.kind=2 then decide (pa≤pb) else decide (pa < pb))
def BF (t:A4) (a u:Nat):Bool:=decide (a < t.nodes.length) && decide ((t.at a).up=u) && decide ((t.at a).thread=(t.at u).thread)
def HI (t:A4) (v:Int):Bool:=decide (0≤v) && decide (v < t.vals)
def K1 (t:A4) (v:Int):Bool:=decide (0≤v) && decide (v < t.locs.length)
def A1i (t:A4) (u:Nat):Bool:=(t.at u).fin && decide ((t.at u).regs.length=(t.regs.getD (t.at u).thread.toNat []).length) && (t.at u).regs.all (HI t)
def Dc (t:A4) (u:Nat):Bool :=
 let n:=t.at (u+1);let m:=t.at u
 (decide (n.kind=4) && decide (n.loc=0) && decide (n.val=0) && !n.rmw && decide (1≤n.mode) && decide (n.mode≤4)) ||
 (decide (n.kind=3) && K1 t n.loc && HI t n.val &&
  (if n.rmw then decide (0≤n.mode) && decide (n.mode≤4) && decide (m.kind=2) && decide (m.loc=n.loc) && decide (m.mode=n.mode) else decide (n.mode=0) || decide (n.mode=2) || decide (n.mode=4)))
def EC (t:A4) (u:Nat):Bool:=decide (u+1 < t.nodes.length) && decide ((t.at (u+1)).up=u) && (t.at (u+1)).rmw
def Em (t:A4) (a v:Nat) (loc mode:Int):Bool:=decide ((t.at a).kind=2) && decide ((t.at a).val=v) && decide ((t.at a).loc=loc) && decide ((t.at a).mode=mode) && !(t.at a).rmw
def Acf (t:A4) (u:Nat):Prop:=u < t.nodes.length∧0≤(t.at u).thread∧(t.at u).thread < t.regs.length
def HM (t:A4):Nat→Nat→Nat→Prop
 | 0,_,_=>False
 | n+1,u,e=>Acf t u∧(
  (BF t (u+1) u=false∧A1i t u=true∧e=u+1) ∨
  (BF t (u+1) u=true∧(t.at u).fin=false∧(t.at u).regs=[]∧Dc t u=true∧HM t n (u+1) e) ∨
  (BF t (u+1) u=true∧(t.at u).fin=false∧(t.at u).regs=[]∧∃ (vals:Nat) (k:Nat→Nat) (loc mode:Int),t.vals=vals∧0 < vals∧k 0=u+1∧k vals=e∧K1 t loc=true ∧
   (∀ v,v < vals→BF t (k v) u=true∧Em t (k v) v loc mode=true∧HM t n (k v) (k (v+1))) ∧
   ((mode=0∨mode=1∨mode=4)∨(0≤mode∧mode≤4∧∃ v,v < vals∧EC t (k v)=true))))
def J1 (t:A4) (i:Nat):Bool:=decide ((t.at i).thread = -1) && decide ((t.at i).up = -1) && decide ((t.at i).kind=3) && decide ((t.at i).loc=i) && decide ((t.at i).mode=0) && HI t (t.at i).val && !(t.at i).rmw && !(t.at i).fin && decide ((t.at i).regs=[])
def Et (t:A4) (u i:Nat):Bool:=decide ((t.at u).thread=i) && decide ((t.at u).up = -1) && decide ((t.at u).kind=1) && decide ((t.at u).loc=0) && decide ((t.at u).mode=0) && decide ((t.at u).val=0) && !(t.at u).rmw
structure Aa (t:A4):Prop where
 v2:2≤t.vals
 v4:t.vals≤4
 l4:t.locs.length≤4
 ln:t.locs.Nodup
 n64:t.nodes.length≤64
 r1:1≤t.regs.length
 r4:t.regs.length≤4
 rl:∀ l∈t.regs,l.length≤4∧l.Nodup
 first:t.locs.length≤t.nodes.length∧∀ i,i < t.locs.length→J1 t i=true
 thr:∃ s:Nat→Nat,s 0=t.locs.length∧s t.regs.length=t.nodes.length∧∀ i,i < t.regs.length→Et t (s i) i=true∧∃ n,HM t n (s i) (s (i+1))
theorem Aaw {v n:Int} (hn:0 < n):(v.tmod n < 0→v.tmod n+n=v % n∧-n < v.tmod n)∧(¬ v.tmod n < 0→v.tmod n=v % n):=by
 have h1:v.tmod n < n:=Int.tmod_lt_of_pos v hn
 have h2 : -n < v.tmod n:=Int.lt_tmod_of_pos v hn
 have h3:v.tmod n+n * v.tdiv n=v:=Int.tmod_add_mul_tdiv v n
 have h4:v % n=v.tmod n % n:=by
  conv=>lhs;rw [← h3]
  exact Int.add_mul_emod_self_left ..
 constructor
 ·intro h
  refine ⟨?_,h2⟩
  rw [h4,← Int.add_emod_right,Int.emod_eq_of_lt (by omega) (by omega)]
 ·intro h
  rw [h4,Int.emod_eq_of_lt (by omega) (by omega)]
inductive GE:List VV→Prop
 | mk (op n:Int) (nm:ByteArray) (kids:List (List VV)):kids.length≤1000→(∀ k∈kids,GE k)→GE [.i .i64 op,.i .i64 n,.s nm,.ls kids]
theorem GE.len {r:List VV} (h:GE r):r.length=4:=by cases h;rfl
theorem GE.frz {r:List VV} (h:GE r) {hh:VH} {d:Nat}:B5 (frz hh (d+1)) r=some (r,[]):=by cases h;rfl
theorem GE.take {r:List VV} (h:GE r):r.take 4=r:=by cases h;rfl
theorem GE.cell {r:List VV} (h:GE r):r.all VV.cell=true:=by cases h;rfl
theorem Rb {l:List (List VV)} {k:Nat} (h:k < l.length):l[k]? = some l[k]:=List.getElem?_eq_getElem h
def N4:List ByteArray:=[⟨⟨[97]⟩⟩,⟨⟨[98]⟩⟩,⟨⟨[99]⟩⟩,⟨⟨[100]⟩⟩]
def GG (k:Int):Bool:=decide (k=1) || decide (k=2) || decide (k=4) || decide (k=5)
structure OKS (locs:List ByteArray) (kind mode:Int) (reg loc:ByteArray) (args:Nat):Prop where
 k:1≤kind∧kind≤7
 rn:GG kind=true→reg∈N4
 one:kind=1∨kind=3∨kind=4∨kind=5∨kind=7→1≤args
 two:kind=5→2≤args
 loc:kind=2∨kind=3∨kind=4∨kind=5→loc∈locs
 ml:kind=2→mode=0∨mode=1∨mode=4
 ms:kind=3→mode=0∨mode=2∨mode=4
 ma:kind=4∨kind=5→0≤mode∧mode≤4
 mf:kind=6→1≤mode∧mode≤4
 rs:reg.size≤1000
abbrev rS (kind mode:Int) (reg loc:ByteArray) (args th el:List (List VV)):List VV:=[.i .i64 kind,.i .i64 mode,.s reg,.s loc,.ls args,.ls th,.ls el]
inductive GS (locs:List ByteArray):List VV→Prop
 | mk (kind mode:Int) (reg loc:ByteArray) (args th el:List (List VV)):args.length≤1000→(∀ a∈args,GE a)→th.length≤1000→el.length≤1000 →
  (∀ s∈th,GS locs s)→(∀ s∈el,GS locs s)→OKS locs kind mode reg loc args.length→GS locs (rS kind mode reg loc args th el)
inductive RI (names:List ByteArray):List VV→Prop
 | mk (kind mode:Int) (reg loc:ByteArray) (args th el:List (List VV)):(GG kind=true→reg∈names)→(∀ s∈th,RI names s)→(∀ s∈el,RI names s)→RI names (rS kind mode reg loc args th el)
theorem RI.mono {n m:List ByteArray} (h:∀ x∈n,x∈m) {r:List VV} (k:RI n r):RI m r:=by
 induction k with
 | mk kind mode reg loc args th el h1 h2 h3 ih1 ih2=>exact .mk _ _ _ _ _ _ _ (fun e=>h _ (h1 e)) ih1 ih2
theorem GS.len {l:List ByteArray} {r:List VV} (h:GS l r):r.length=7:=by cases h;rfl
theorem GS.frz {l:List ByteArray} {r:List VV} (h:GS l r) {hh:VH} {d:Nat}:B5 (frz hh (d+1)) r=some (r,[]):=by cases h;rfl
theorem GS.take {l:List ByteArray} {r:List VV} (h:GS l r):r.take 7=r:=by cases h;rfl
theorem GS.cell {l:List ByteArray} {r:List VV} (h:GS l r):r.all VV.cell=true:=by cases h;rfl
theorem A4h {c:List ByteArray} {l:List (List VV)} (h:∀ k∈l,GS c k):D0 7 l=true:=by
 unfold D0
 rw [List.all_eq_true]
 intro r hr
 rw [(h r hr).len];rfl
theorem Dr {t t':A4} {l:List Ay} (h:t'.nodes=t.nodes++l) {i:Nat} (hi:i < t.nodes.length):t'.at i=t.at i:=by
 unfold A4.at
 rw [h,List.getD_eq_getElem?_getD,List.getD_eq_getElem?_getD,List.getElem?_append_left hi]
theorem A5b {t t':A4} {l:List Ay} (h:t'.nodes=t.nodes++l) {i:Nat} (hi:t.nodes.length≤i) (h2:i < t'.nodes.length):t'.at i∈l:=by
 have hl:t'.nodes.length=t.nodes.length+l.length:=by rw [h,List.length_append]
 unfold A4.at
 rw [h,List.getD_eq_getElem?_getD,List.getElem?_append_right hi,List.getElem?_eq_getElem (by omega)]
 exact List.getElem_mem _
structure W7 (t t':A4) (l:List Ay):Prop where
 n:t'.nodes=t.nodes++l
 v:t'.vals=t.vals
 l:t'.locs=t.locs
 r:t'.regs=t.regs
theorem W7.len {t t':A4} {l:List Ay} (h:W7 t t' l):t.nodes.length≤t'.nodes.length:=by rw [h.n,List.length_append];omega
theorem YH {t t':A4} {l:List Ay} (h:W7 t t' l) {u a:Nat} (hu:u < t.nodes.length) (hx:∀ x∈l,x.up≠(u:Int)):BF t' a u=BF t a u:=by
 unfold BF
 by_cases ha:a < t.nodes.length
 ·have:=h.len
  have ha':a < t'.nodes.length:=by omega
  rw [Dr h.n ha,Dr h.n hu,decide_eq_true ha,decide_eq_true ha']
 ·rw [decide_eq_false ha]
  by_cases ha':a < t'.nodes.length
  ·have:=hx _ (A5b h.n (by omega) ha')
   rw [decide_eq_false this];simp
  ·rw [decide_eq_false ha'];simp
theorem Y8 {t t':A4} {l:List Ay} (h:W7 t t' l) {u:Nat} (hu:u < t.nodes.length) (hx:∀ x∈l,x.up≠(u:Int)):EC t' u=EC t u:=by
 unfold EC
 by_cases ha:u+1 < t.nodes.length
 ·have:=h.len
  have ha':u+1 < t'.nodes.length:=by omega
  rw [Dr h.n ha,decide_eq_true ha,decide_eq_true ha']
 ·rw [decide_eq_false ha]
  by_cases ha':u+1 < t'.nodes.length
  ·have:=hx _ (A5b h.n (by omega) ha')
   rw [decide_eq_false this];simp
  ·rw [decide_eq_false ha'];simp
theorem HM.lt {t:A4}:∀ {n u e:Nat},HM t n u e→u < e:=by
 intro n
 induction n with
 | zero=>intro u e h;exact h.elim
 | succ n ih =>
  intro u e h
  rcases h.2 with ⟨_,_,rfl⟩ | ⟨_,_,_,_,b⟩ | ⟨_,_,_,vals,k,loc,mode,_,h0,hk0,hke,_,hs,_⟩
  ·omega
  ·have:=ih b;omega
  ·have key:∀ j,j≤vals→u+1≤k j:=by
    intro j
    induction j with
    | zero=>intro _;omega
    | succ j ihj =>
     intro hj
     have h1:=ihj (by omega)
     have h2:=ih (hs j (by omega)).2.2
     omega
   have:=key vals (Nat.le_refl _)
   omega
theorem JQ {t:A4} {a u:Nat} (h:BF t a u=true):a < t.nodes.length:=by
 unfold BF at h
 simp only [Bool.and_eq_true,decide_eq_true_eq] at h
 exact h.1.1
theorem A44 {t:A4} {n:Nat} {k:Nat→Nat} {vals:Nat} (hs:∀ v,v < vals→HM t n (k v) (k (v+1))):∀ i j,i≤j→j≤vals→k i≤k j:=by
  intro i j hij hj
  induction j with
  | zero => have : i = 0 := by omega
            subst this;exact Nat.le_refl _
  | succ j ih =>
    by_cases e:i=j+1
    · subst e;exact Nat.le_refl _
    · have h1 := ih (by omega) (by omega)
      have h2:=(hs j (by omega)).lt
      omega
theorem HM.le {t:A4}:∀ {n u e:Nat},HM t n u e→e≤t.nodes.length:=by
 intro n
 induction n with
 | zero=>intro u e h;exact h.elim
 | succ n ih =>
  intro u e h
  rcases h.2 with ⟨_,_,rfl⟩ | ⟨_,_,_,_,b⟩ | ⟨_,_,_,vals,k,loc,mode,_,h0,hk0,hke,_,hs,_⟩
  ·exact h.1.1
  ·exact ih b
  ·have:=ih (hs (vals - 1) (by omega)).2.2
   rw [show vals - 1+1=vals by omega,hke] at this
   exact this
theorem HM.more {t t':A4} {l:List Ay} (h:W7 t t' l):∀ {n u e:Nat},HM t n u e→(∀ x∈l,x.up < (u:Int)∨(e:Int)≤x.up)→HM t' n u e:=by
 intro n
 induction n with
 | zero=>intro u e b;exact b.elim
 | succ n ih =>
  intro u e b hx
  have hlt:=b.lt
  have hle:=b.le
  have hl:=h.len
  obtain ⟨⟨i1,i2,i3⟩,b⟩:=b
  have hu:t'.at u=t.at u:=Dr h.n i1
  have hc:∀ a,BF t' a u=BF t a u:=fun a=>YH h i1 fun x hx' e'=>by rcases hx x hx' with h1 | h1<;>omega
  refine ⟨⟨by omega,by rw [hu];exact i2,by rw [hu,h.r];exact i3⟩,?_⟩
  rcases b with ⟨b1,b2,b3⟩ | ⟨b1,b2,b3,b4,b5⟩ | ⟨b1,b2,b3,vals,k,loc,mode,b4,b5,b6,b7,b8,b9,b10⟩
  ·refine .inl ⟨(hc _).trans b1,?_,b3⟩
   unfold A1i HI at b2 ⊢
   rw [hu,h.r,h.v];exact b2
  ·refine .inr (.inl ⟨(hc _).trans b1,by rw [hu];exact b2,by rw [hu];exact b3,?_,ih b5 fun x hx'=>?_⟩)
   ·have:=JQ b1
    unfold Dc K1 HI at b4 ⊢
    rw [hu,Dr h.n this,h.l,h.v];exact b4
   ·rcases hx x hx' with h1 | h1
    ·exact .inl (by omega)
    ·exact .inr h1
  ·have hr:=A44 fun v hv=>(b9 v hv).2.2
   refine .inr (.inr ⟨(hc _).trans b1,by rw [hu];exact b2,by rw [hu];exact b3,vals,k,loc,mode,by rw [h.v];exact b4,b5,b6,b7,by unfold K1 at b8 ⊢;rw [h.l];exact b8,fun v hv=>?_,?_⟩)
   ·obtain ⟨c1,c2,c3⟩:=b9 v hv
    have h1:=hr 0 v (by omega) (by omega)
    have h2:=hr (v+1) vals (by omega) (by omega)
    refine ⟨(hc _).trans c1,?_,ih c3 fun x hx'=>?_⟩
    ·unfold Em at c2 ⊢
     rw [Dr h.n (JQ c1)];exact c2
    ·rcases hx x hx' with h3 | h3
     ·exact .inl (by omega)
     ·exact .inr (by omega)
   ·rcases b10 with b10 | ⟨c1,c2,v,c3,c4⟩
    ·exact .inl b10
    ·have h1:=hr 0 v (by omega) (by omega)
     have h2:=hr (v+1) vals (by omega) (by omega)
     have h3:=(b9 v c3).2.2.lt
     refine .inr ⟨c1,c2,v,c3,?_⟩
     rw [Y8 h (JQ (b9 v c3).1) fun x hx' e'=>by rcases hx x hx' with h4 | h4<;>omega]
     exact c4
theorem HM.fuel {t:A4}:∀ {n u e:Nat},HM t n u e→HM t (n+1) u e:=by
 intro n
 induction n with
 | zero=>intro u e h;exact h.elim
 | succ n ih =>
  intro u e h
  refine ⟨h.1,?_⟩
  rcases h.2 with b | ⟨b1,b2,b3,b4,b5⟩ | ⟨b1,b2,b3,vals,k,loc,mode,b4,b5,b6,b7,b8,b9,b10⟩
  ·exact .inl b
  ·exact .inr (.inl ⟨b1,b2,b3,b4,ih b5⟩)
  ·exact .inr (.inr ⟨b1,b2,b3,vals,k,loc,mode,b4,b5,b6,b7,b8,fun v hv=>⟨(b9 v hv).1,(b9 v hv).2.1,ih (b9 v hv).2.2⟩,b10⟩)
theorem HM.fuel' {t:A4} {n m u e:Nat} (h:HM t n u e) (hm:n≤m):HM t m u e:=by
  induction m with
  | zero => have : n = 0 := by omega
            subst this;exact h
  | succ m ih =>
    by_cases e:n=m+1
    · subst e;exact h
    · exact (ih (by omega)).fuel
abbrev TT (vals:Int) (locs:List ByteArray) (rg:List (List ByteArray)) (ns:List Ay):A4:=⟨vals,locs,rg,ns⟩
def W6 (vals:Int) (locs:List ByteArray) (rg:List (List ByteArray)) (ns:List Ay) (n:Ay) (ns':List Ay):Prop :=
 ∃ (f:Bool) (g:List Int) (l:List Ay),ns' = ns++{ n with fin:=f,regs:=g }::l∧(∀ x∈l,(ns.length:Int)≤x.up)∧∃ m,HM (TT vals locs rg ns') m ns.length ns'.length
def HQ (nl:Nat) (vals:Int) (m n:Ay):Bool :=
 (decide (n.kind=4) && decide (n.loc=0) && decide (n.val=0) && !n.rmw && decide (1≤n.mode) && decide (n.mode≤4)) ||
 (decide (n.kind=3) && (decide (0≤n.loc) && decide (n.loc < nl)) && (decide (0≤n.val) && decide (n.val < vals)) &&
  (if n.rmw then decide (0≤n.mode) && decide (n.mode≤4) && decide (m.kind=2) && decide (m.loc=n.loc) && decide (m.mode=n.mode) else decide (n.mode=0) || decide (n.mode=2) || decide (n.mode=4)))
theorem Yz (t:A4) (u:Nat):Dc t u=HQ t.locs.length t.vals (t.at u) (t.at (u+1)):=rfl
theorem Lf {vals:Int} {locs:List ByteArray} {rg:List (List ByteArray)} {a:List Ay} {x:Ay} {b:List Ay}:(TT vals locs rg (a++x::b)).at a.length=x:=by
 simp [A4.at]
theorem A8P {vals:Int} {locs:List ByteArray} {rg:List (List ByteArray)} {a:List Ay} {x y:Ay} {b:List Ay}:(TT vals locs rg (a++x::y::b)).at (a.length+1)=y:=by
 simp [A4.at]
theorem A6s {vals:Int} {locs:List ByteArray} {rg:List (List ByteArray)} {ns:List Ay} {n:Ay} {th:Nat} (ht:n.thread=th) (hth:th < rg.length) {g:List Int} (hg:g.length=(rg.getD th []).length) (hv:∀ v∈g,0≤v∧v < vals) :
  W6 vals locs rg ns n (ns++[{ n with fin:=true,regs:=g }]):=by
 refine ⟨true,g,[],rfl,by simp,1,?_⟩
 have ha:(TT vals locs rg (ns++[{ n with fin:=true,regs:=g }])).at ns.length = { n with fin:=true,regs:=g }:=Lf
 have hl:(TT vals locs rg (ns++[{ n with fin:=true,regs:=g }])).nodes.length=ns.length+1:=by simp
 refine ⟨⟨by omega,by rw [ha];show 0≤n.thread;omega,by rw [ha];show n.thread < (rg.length:Int);omega⟩,.inl ⟨?_,?_,by simp⟩⟩
 ·unfold BF
  rw [hl];simp
 ·unfold A1i
  rw [ha]
  simp only [ht,Int.toNat_natCast,hg,decide_true,Bool.true_and,List.all_eq_true]
  intro v h
  obtain ⟨h1,h2⟩:=hv v h
  simp [HI,h1,h2]
theorem Si {n:Ay} (h1:n.fin=false) (h2:n.regs=[]):({ n with fin:=false,regs:=[] }:Ay)=n:=by
 cases n;simp at h1 h2;subst h1;subst h2;rfl
theorem Lj {vals:Int} {locs:List ByteArray} {rg:List (List ByteArray)} {ns:List Ay} {n x:Ay} {th:Nat} (ht:n.thread=th) (hth:th < rg.length) (hf:n.fin=false) (hr:n.regs=[]) (hxu:x.up=ns.length) (hxt:x.thread=th)
  (ha:HQ locs.length vals n x=true) {ns':List Ay} (h:W6 vals locs rg (ns++[n]) x ns'):W6 vals locs rg ns n ns':=by
 obtain ⟨f,g,l,rfl,h1,m,h2⟩:=h
 refine ⟨false,[],{ x with fin:=f,regs:=g }::l,?_,?_,m+1,?_⟩
 ·rw [Si hf hr];simp
 ·intro y hy
  rcases List.mem_cons.1 hy with rfl | hy
  ·show (ns.length:Int)≤x.up;omega
  ·have:=h1 y hy
   simp at this;omega
 ·have e:ns++[n]++{ x with fin:=f,regs:=g }::l=ns++n::{ x with fin:=f,regs:=g }::l:=by simp
  rw [e] at h2 ⊢
  have a0:(TT vals locs rg (ns++n::{ x with fin:=f,regs:=g }::l)).at ns.length=n:=Lf
  have a1:(TT vals locs rg (ns++n::{ x with fin:=f,regs:=g }::l)).at (ns.length+1) = { x with fin:=f,regs:=g }:=A8P
  have hl:ns.length+1 < (TT vals locs rg (ns++n::{ x with fin:=f,regs:=g }::l)).nodes.length:=by simp
  refine ⟨⟨by omega,by rw [a0];omega,by rw [a0];show n.thread < (rg.length:Int);omega⟩,.inr (.inl ⟨?_,by rw [a0];exact hf,by rw [a0];exact hr,?_,?_⟩)⟩
  ·unfold BF
   rw [a0,a1,decide_eq_true hl]
   simp [hxu,hxt,ht]
  ·rw [Yz,a0,a1];exact ha
  ·simpa using h2
theorem NI {vals:Int} {locs:List ByteArray} {rg:List (List ByteArray)} {ns:List Ay} {x y:Ay} {ns':List Ay} (hu:y.up=ns.length) (hr:y.rmw=true) (h:W6 vals locs rg (ns++[x]) y ns'):EC (TT vals locs rg ns') ns.length=true:=by
 obtain ⟨f,g,l,rfl,_⟩:=h
 have e:(TT vals locs rg (ns++[x]++{ y with fin:=f,regs:=g }::l)).at (ns.length+1) = { y with fin:=f,regs:=g }:=by
  have:=Lf (vals:=vals) (locs:=locs) (rg:=rg) (a:=ns++[x]) (x:={ y with fin:=f,regs:=g }) (b:=l)
  simpa using this
 unfold EC
 rw [e]
 simp [hu,hr]
def We (vals:Int) (locs:List ByteArray) (rg:List (List ByteArray)) (ns:List Ay) (n:Ay) (v:Nat) (loc mode:Int) (rm:Nat→Bool) (nsv:List Ay):Prop :=
 ∃ (l:List Ay) (k:Nat→Nat),nsv=ns++n::l∧(∀ x∈l,(ns.length:Int)≤x.up)∧k 0=ns.length+1∧k v=nsv.length ∧
  ∀ j,j < v→BF (TT vals locs rg nsv) (k j) ns.length=true∧Em (TT vals locs rg nsv) (k j) j loc mode=true∧(∃ m,HM (TT vals locs rg nsv) m (k j) (k (j+1)))∧(rm j=true→EC (TT vals locs rg nsv) (k j)=true)
theorem LJ {vals:Int} {locs:List ByteArray} {rg:List (List ByteArray)} {ns:List Ay} {n:Ay} {loc mode:Int} {rm:Nat→Bool}:We vals locs rg ns n 0 loc mode rm (ns++[n]) :=
 ⟨[],fun _=>ns.length+1,rfl,by simp,rfl,by simp,fun j hj=>by omega⟩
theorem A5s {t t':A4} {l:List Ay} (h:W7 t t' l) {u a:Nat} (hu:u < t.nodes.length) (ha:a < t.nodes.length):BF t' a u=BF t a u:=by
 unfold BF
 have:=h.len
 rw [Dr h.n ha,Dr h.n hu,decide_eq_true ha,decide_eq_true (show a < t'.nodes.length by omega)]
theorem Abh {t:A4} {k:Nat→Nat} {v:Nat} (h:∀ j,j < v→∃ m,HM t m (k j) (k (j+1))):∀ i j,i≤j→j≤v→k i≤k j:=by
  intro i j hij hj
  induction j with
  | zero => have : i = 0 := by omega
            subst this;exact Nat.le_refl _
  | succ j ih =>
    by_cases e:i=j+1
    · subst e;exact Nat.le_refl _
    · have h1 := ih (by omega) (by omega)
      obtain ⟨m,h2⟩:=h j (by omega)
      have:=h2.lt
      omega
theorem Jl {vals:Int} {locs:List ByteArray} {rg:List (List ByteArray)} {ns:List Ay} {n x:Ay} {v:Nat} {loc mode:Int} {rm:Nat→Bool} {nsv ns':List Ay} (h:We vals locs rg ns n v loc mode rm nsv)
  (hxu:x.up=ns.length) (hxt:x.thread=n.thread) (hk:x.kind=2) (hv:x.val=v) (hl:x.loc=loc) (hm:x.mode=mode) (hr:x.rmw=false) (hg:W6 vals locs rg nsv x ns') (hrm:rm v=true→EC (TT vals locs rg ns') nsv.length=true) :
  We vals locs rg ns n (v+1) loc mode rm ns':=by
 obtain ⟨l,k,rfl,h1,h2,h3,h4⟩:=h
 obtain ⟨f,g,l',rfl,g1,m',g2⟩:=hg
 have mo:W7 (TT vals locs rg (ns++n::l)) (TT vals locs rg ((ns++n::l)++{ x with fin:=f,regs:=g }::l')) ({ x with fin:=f,regs:=g }::l'):=⟨rfl,rfl,rfl,rfl⟩
 have hlen:(TT vals locs rg (ns++n::l)).nodes.length=(ns++n::l).length:=rfl
 have ru:=Abh (t:=TT vals locs rg (ns++n::l)) (k:=k) (v:=v) fun j hj=>(h4 j hj).2.2.1
 have hnl:ns.length < (ns++n::l).length:=by simp
 refine ⟨l++{ x with fin:=f,regs:=g }::l',fun j=>if j≤v then k j else ((ns++n::l)++{ x with fin:=f,regs:=g }::l').length,by simp,?_,by simp [h2],if_neg (by omega),?_⟩
 ·intro y hy
  rcases List.mem_append.1 hy with hy | hy
  ·exact h1 y hy
  ·rcases List.mem_cons.1 hy with rfl | hy
   ·show (ns.length:Int)≤x.up;omega
   ·have:=g1 y hy;omega
 ·intro j hj
  dsimp only
  rw [if_pos (show j≤v by omega)]
  by_cases e:j=v
  ·subst e
   rw [h3,if_neg (by omega)]
   have a0:(TT vals locs rg ((ns++n::l)++{ x with fin:=f,regs:=g }::l')).at (ns++n::l).length = { x with fin:=f,regs:=g }:=Lf
   refine ⟨?_,?_,⟨m',g2⟩,hrm⟩
   ·unfold BF
    rw [a0,Dr mo.n (by rw [hlen];exact hnl)]
    have:(TT vals locs rg (ns++n::l)).at ns.length=n:=Lf
    rw [this]
    simp [hxu,hxt]
   ·unfold Em
    rw [a0]
    simp [hk,hv,hl,hm,hr]
  ·rw [if_pos (show j+1≤v by omega)]
   obtain ⟨c1,c2,⟨m,c3⟩,c4⟩:=h4 j (by omega)
   have c0:=JQ c1
   have r1:=ru (j+1) v (by omega) (Nat.le_refl _)
   have r0:=ru 0 j (by omega) (by omega)
   have r2:=c3.lt
   rw [h3] at r1
   rw [h2] at r0
   have hx:∀ y∈({ x with fin:=f,regs:=g }::l':List Ay),y.up < (k j:Int)∨(k (j+1):Int)≤y.up:=by
    intro y hy
    rcases List.mem_cons.1 hy with rfl | hy
    ·left;show x.up < (k j:Int);omega
    ·right;have:=g1 y hy;omega
   refine ⟨?_,?_,⟨m,c3.more mo hx⟩,fun h=>?_⟩
   ·rw [A5s mo (by rw [hlen];exact hnl) c0];exact c1
   ·unfold Em at c2 ⊢
    rw [Dr mo.n c0];exact c2
   ·rw [Y8 mo c0 fun y hy e=>by rcases hx y hy with q | q<;>omega]
    exact c4 h
theorem A6q {t:A4} {k:Nat→Nat}:∀ v,(∀ j,j < v→∃ m,HM t m (k j) (k (j+1)))→∃ M,∀ j,j < v→HM t M (k j) (k (j+1)):=by
 intro v
 induction v with
 | zero=>intro _;exact ⟨0,fun j hj=>by omega⟩
 | succ v ih =>
  intro h
  obtain ⟨M,hM⟩:=ih fun j hj=>h j (by omega)
  obtain ⟨m,hm⟩:=h v (by omega)
  refine ⟨max M m,fun j hj=>?_⟩
  by_cases e:j=v
  ·subst e;exact hm.fuel' (Nat.le_max_right _ _)
  ·exact (hM j (by omega)).fuel' (Nat.le_max_left _ _)
theorem MH {vals:Nat} {locs:List ByteArray} {rg:List (List ByteArray)} {ns:List Ay} {n:Ay} {th:Nat} (ht:n.thread=th) (hth:th < rg.length) (hf:n.fin=false) (hr:n.regs=[]) {loc mode:Int} {rm:Nat→Bool} {nsv:List Ay} (hv:0 < vals) (hl:0≤loc∧loc < locs.length)
  (hm:(mode=0∨mode=1∨mode=4)∨(0≤mode∧mode≤4∧∃ v,v < vals∧rm v=true)) (h:We vals locs rg ns n vals loc mode rm nsv):W6 vals locs rg ns n nsv:=by
 obtain ⟨l,k,rfl,h1,h2,h3,h4⟩:=h
 refine ⟨false,[],l,by rw [Si hf hr],h1,?_⟩
 obtain ⟨M,hM⟩:=A6q vals fun j hj=>(h4 j hj).2.2.1
 have a0:(TT vals locs rg (ns++n::l)).at ns.length=n:=Lf
 have c0:=(h4 0 hv).1
 rw [h2] at c0
 refine ⟨M+1,⟨by have:=JQ c0;omega,by rw [a0];omega,by rw [a0];show n.thread < (rg.length:Int);omega⟩,.inr (.inr ⟨c0,by rw [a0];exact hf,by rw [a0];exact hr,vals,k,loc,mode,rfl,hv,h2,h3,?_,fun v hv=>⟨(h4 v hv).1,(h4 v hv).2.1,hM v hv⟩,?_⟩)⟩
 ·simp [K1,hl.1,hl.2]
 ·rcases hm with hm | ⟨m1,m2,v,m3,m4⟩
  ·exact .inl hm
  ·exact .inr ⟨m1,m2,v,m3,(h4 v m3).2.2.2 m4⟩
def Thr (vals:Int) (locs:List ByteArray) (rg:List (List ByteArray)) (i:Nat) (ns:List Ay):Prop :=
 (locs.length≤ns.length∧∀ j,j < locs.length→J1 (TT vals locs rg ns) j=true)∧∃ s:Nat→Nat,s 0=locs.length∧s i=ns.length ∧
  ∀ j,j < i→Et (TT vals locs rg ns) (s j) j=true∧∃ m,HM (TT vals locs rg ns) m (s j) (s (j+1))
theorem A83 {vals:Int} {locs:List ByteArray} {rg:List (List ByteArray)} {i:Nat} {ns ns':List Ay} {x:Ay} (h:Thr vals locs rg i ns) (hx:x = ⟨i,-1,1,0,0,0,false,false,[]⟩) (hg:W6 vals locs rg ns x ns'):Thr vals locs rg (i+1) ns':=by
 subst hx
 obtain ⟨⟨h1,h2⟩,s,s0,si,hs⟩:=h
 obtain ⟨f,g,l,rfl,g1,m,g2⟩:=hg
 let x':Ay:=⟨i,-1,1,0,0,0,false,f,g⟩
 have mo:W7 (TT vals locs rg ns) (TT vals locs rg (ns++x'::l)) (x'::l):=⟨rfl,rfl,rfl,rfl⟩
 have hl:(TT vals locs rg ns).nodes.length=ns.length:=rfl
 have ru:=Abh (t:=TT vals locs rg ns) (k:=s) (v:=i) fun j hj=>(hs j hj).2
 refine ⟨⟨by simp;omega,fun j hj=>?_⟩,fun j=>if j≤i then s j else (ns++x'::l).length,by simp [s0],if_neg (by omega),fun j hj=>?_⟩
 ·have:=h2 j hj
  unfold J1 HI at this ⊢
  rw [Dr mo.n (by rw [hl];omega)]
  exact this
 ·dsimp only
  rw [if_pos (show j≤i by omega)]
  by_cases e:j=i
  ·subst e
   rw [si,if_neg (by omega)]
   refine ⟨?_,m,g2⟩
   unfold Et
   have:(TT vals locs rg (ns++x'::l)).at ns.length=x':=Lf
   rw [this];simp [x']
  ·rw [if_pos (show j+1≤i by omega)]
   obtain ⟨b1,m2,b2⟩:=hs j (by omega)
   have r1:=ru (j+1) i (by omega) (Nat.le_refl _)
   have r2:=b2.lt
   rw [si] at r1
   refine ⟨?_,m2,b2.more mo fun y hy=>?_⟩
   ·unfold Et at b1 ⊢
    rw [Dr mo.n (by rw [hl];omega)];exact b1
   ·rcases List.mem_cons.1 hy with rfl | hy
    ·left;show (-1:Int) < _;omega
    ·right;have:=g1 y hy;omega
def PT (ini:List (ByteArray×Int)) (k:Nat):List Ay:=(List.range k).map fun (i:Nat)=>(⟨-1,-1,3,(i:Int),0,(ini.getD i default).2,false,false,[]⟩:Ay)
theorem JY (ini:List (ByteArray×Int)) (k:Nat):(PT ini k).length=k:=by simp [PT]
theorem A43 (ini:List (ByteArray×Int)) (k:Nat):PT ini (k+1)=PT ini k++[⟨-1,-1,3,k,0,(ini.getD k default).2,false,false,[]⟩]:=by
 unfold PT
 rw [List.range_succ,List.map_append];rfl
theorem A84 {vals:Int} {rg:List (List ByteArray)} {ini:List (ByteArray×Int)} (hv:∀ x∈ini,0≤x.2∧x.2 < vals):Thr vals (ini.map (·.1)) rg 0 (PT ini ini.length):=by
 refine ⟨⟨by simp [JY],fun j hj=>?_⟩,fun _=>ini.length,by simp,by simp [JY],fun j hj=>by omega⟩
 have hj':j < ini.length:=by simpa using hj
 have e:(TT vals (ini.map (·.1)) rg (PT ini ini.length)).at j = ⟨-1,-1,3,j,0,(ini.getD j default).2,false,false,[]⟩:=by
  unfold A4.at
  simp only [List.getD_eq_getElem?_getD]
  rw [List.getElem?_eq_getElem (by rw [JY];exact hj')]
  simp [PT]
 have hm:ini.getD j default∈ini:=Aj hj'
 obtain ⟨v1,v2⟩:=hv _ hm
 unfold J1
 rw [e]
 simp [HI,v1,v2]
 simp [List.getD_eq_getElem?_getD] at v1 v2
 omega
theorem A4G {vals:Int} {locs:List ByteArray} {rg:List (List ByteArray)} {ns:List Ay} (h:Thr vals locs rg rg.length ns) (v2:2≤vals) (v4:vals≤4) (l4:locs.length≤4) (ln:locs.Nodup) (n64:ns.length≤64) (r1:1≤rg.length) (r4:rg.length≤4) (rl:∀ l∈rg,l.length≤4∧l.Nodup):Aa (TT vals locs rg ns) where
 v2:=v2
 v4:=v4
 l4:=l4
 ln:=ln
 n64:=n64
 r1:=r1
 r4:=r4
 rl:=rl
 first:=h.1
 thr:=h.2
structure W8 (t:A4) (m:Nat):Prop where
 thr:0≤(t.at m).thread
 up0 : -1≤(t.at m).up
 up:(t.at m).up < m
 loc:(t.at m).kind=2∨(t.at m).kind=3→K1 t (t.at m).loc=true
 rmw:(t.at m).rmw=true→0≤(t.at m).up∧(t.at (t.at m).up.toNat).kind=2
 par:0≤(t.at m).up→(t.at (t.at m).up.toNat).thread=(t.at m).thread
theorem JR {t:A4} {a u:Nat} (h:BF t a u=true):(t.at a).up=u∧(t.at a).thread=(t.at u).thread:=by
 simp only [BF,Bool.and_eq_true,decide_eq_true_eq] at h
 exact ⟨h.1.2,h.2⟩
theorem A3D {t:A4} {u:Nat} (h:Dc t u=true):(t.at (u+1)).kind=2∨(t.at (u+1)).kind=3→K1 t (t.at (u+1)).loc=true:=by
 simp only [Dc,Bool.or_eq_true,Bool.and_eq_true,decide_eq_true_eq] at h
 rcases h with h | h
 ·intro k;have:=h.1.1.1.1.1;omega
 ·intro _;exact h.1.1.2
theorem A3E {t:A4} {u:Nat} (h:Dc t u=true) (hr:(t.at (u+1)).rmw=true):(t.at u).kind=2:=by
 simp only [Dc,hr,Bool.or_eq_true,Bool.and_eq_true,decide_eq_true_eq,if_true,Bool.not_true] at h
 rcases h with h | h
 ·have:=h.1.1.2;cases this
 ·exact h.2.1.1.2
theorem Ey {k:Nat→Nat} {m:Nat}:∀ n:Nat,k 0≤m→m < k n→∃ v,v < n∧k v≤m∧m < k (v+1):=by
 intro n
 induction n with
 | zero=>intro h1 h2;omega
 | succ n ih =>
  intro h1 h2
  by_cases c:m < k n
  ·obtain ⟨v,a,b,d⟩:=ih h1 c
   exact ⟨v,by omega,b,d⟩
  ·exact ⟨n,by omega,by omega,h2⟩
theorem HM.good {t:A4}:∀ {n u e:Nat},HM t n u e→∀ m,u < m→m < e→W8 t m:=by
 intro n
 induction n with
 | zero=>intro u e h;exact absurd h (by simp [HM])
 | succ n ih =>
  intro u e h m h1 h2
  obtain ⟨⟨_,ht,_⟩,h⟩:=h
  rcases h with ⟨_,_,rfl⟩ | ⟨c,_,_,al,hb⟩ | ⟨c,_,_,vals,k,loc,mode,_,_,hk0,hke,hloc,hs,_⟩
  ·omega
  ·by_cases e1:m=u+1
   ·subst e1
    obtain ⟨p,q⟩:=JR c
    exact ⟨by omega,by omega,by omega,A3D al,fun hr=>⟨by omega,by rw [p,Int.toNat_natCast];exact A3E al hr⟩,fun _=>by rw [p,Int.toNat_natCast];exact q.symm⟩
   ·exact ih hb m (by omega) h2
  ·obtain ⟨v,hv,a,b⟩:=Ey (k:=k) (m:=m) vals (by omega) (by omega)
   obtain ⟨s1,s2,s3⟩:=hs v hv
   by_cases e1:m=k v
   ·subst e1
    obtain ⟨p,q⟩:=JR s1
    simp only [Em,Bool.and_eq_true,decide_eq_true_eq] at s2
    exact ⟨by omega,by omega,by omega,fun _=>by rw [s2.1.1.2];exact hloc,fun hr=>by rw [hr] at s2;simp at s2,fun _=>by rw [p,Int.toNat_natCast];exact q.symm⟩
   ·exact ih s3 m (by omega) b
theorem Aa.good {t:A4} (h:Aa t) (m:Nat) (h1:t.locs.length≤m) (h2:m < t.nodes.length):W8 t m:=by
 obtain ⟨s,h0,he,hs⟩:=h.thr
 obtain ⟨v,hv,a,b⟩:=Ey (k:=s) (m:=m) t.regs.length (by omega) (by omega)
 obtain ⟨hb,n,hn⟩:=hs v hv
 by_cases e1:m=s v
 ·subst e1
  simp only [Et,Bool.and_eq_true,decide_eq_true_eq] at hb
  have k1:=hb.1.1.1.1.2
  have k3:=hb.1.1.1.1.1.2
  have k4:=hb.2
  exact ⟨by omega,by omega,by omega,fun k=>by omega,fun hr=>by simp_all,fun h0=>by omega⟩
 ·exact hn.good m (by omega) b
structure A4Y (t:A4) (i:Nat):Prop where
 thr:(t.at i).thread = -1
 up:(t.at i).up = -1
 kind:(t.at i).kind=3
 loc:(t.at i).loc=i
theorem Aa.init {t:A4} (h:Aa t) (i:Nat) (hi:i < t.locs.length):A4Y t i:=by
 have:=h.first.2 i hi
 simp only [J1,Bool.and_eq_true,decide_eq_true_eq] at this
 obtain ⟨⟨⟨⟨⟨⟨⟨⟨a,b⟩,c⟩,d⟩,_⟩,_⟩,_⟩,_⟩,_⟩:=this
 exact ⟨a,b,c,d⟩
theorem Aa.up {t:A4} (h:Aa t):JC t:=by
 intro i hi
 by_cases c:i < t.locs.length
 ·rw [(h.init i c).up];omega
 ·exact (h.good i (by omega) hi).up
theorem Aa.wloc {t:A4} (h:Aa t) {m:Nat} (hm:m < t.nodes.length) (hk:(t.at m).kind=2∨(t.at m).kind=3):0≤(t.at m).loc∧(t.at m).loc < t.locs.length:=by
 by_cases c:m < t.locs.length
 ·rw [(h.init m c).loc];omega
 ·have:=(h.good m (by omega) hm).loc hk
  simp only [K1,Bool.and_eq_true,decide_eq_true_eq] at this
  exact this
theorem Aa.thr_iff {t:A4} (h:Aa t) {m:Nat} (hm:m < t.nodes.length):(t.at m).thread < 0↔m < t.locs.length:=by
 by_cases c:m < t.locs.length
 ·rw [(h.init m c).thr];omega
 ·have:=(h.good m (by omega) hm).thr
  omega
def Tc (t:A4):Nat→Nat→Int
 | 0,_=>0
 | n+1,i=>if (t.at i).up < 0 then 0 else Tc t n (t.at i).up.toNat+1
def Vf (t:A4):Nat→Nat→BitVec 64
 | 0,_=>0#64
 | n+1,i=>if (t.at i).up < 0 then 0#64 else Vf t n (t.at i).up.toNat ||| C9 (t.at i).up
def P2 (t:A4) (i:Nat):Int:=Tc t (i+1) i
def ovr (t:A4) (i:Nat):BitVec 64:=Vf t (i+1) i
theorem A3O {t:A4} (h:JC t):∀ (n i:Nat),i < n→i < t.nodes.length→Tc t (n+1) i=Tc t n i:=by
 intro n
 induction n with
 | zero=>intro i hi;omega
 | succ n ih =>
  intro i hi hl
  rw [Tc]
  conv=>rhs;rw [Tc]
  by_cases c:(t.at i).up < 0
  ·rw [if_pos c,if_pos c]
  ·rw [if_neg c,if_neg c]
   have:=h i hl
   rw [ih _ (by omega) (by omega)]
theorem A4j {t:A4} (h:JC t):∀ (n i:Nat),i < n→i < t.nodes.length→Vf t (n+1) i=Vf t n i:=by
 intro n
 induction n with
 | zero=>intro i hi;omega
 | succ n ih =>
  intro i hi hl
  rw [Vf]
  conv=>rhs;rw [Vf]
  by_cases c:(t.at i).up < 0
  ·rw [if_pos c,if_pos c]
  ·rw [if_neg c,if_neg c]
   have:=h i hl
   rw [ih _ (by omega) (by omega)]
theorem A8W {t:A4} (h:JC t) {i:Nat} (hl:i < t.nodes.length):∀ k,Tc t (i+1+k) i=P2 t i:=by
 intro k
 induction k with
 | zero=>rfl
 | succ k ih=>rw [← ih];exact A3O h (i+1+k) i (by omega) hl
theorem Aag {t:A4} (h:JC t) {i:Nat} (hl:i < t.nodes.length):∀ k,Vf t (i+1+k) i=ovr t i:=by
 intro k
 induction k with
 | zero=>rfl
 | succ k ih=>rw [← ih];exact A4j h (i+1+k) i (by omega) hl
theorem YK {t:A4} (h:JC t) {i u:Nat} (hl:i < t.nodes.length) (hu:(t.at i).up=u):P2 t i=P2 t u+1:=by
 have:=h i hl
 rw [P2,Tc,if_neg (by omega),hu,Int.toNat_natCast,← A8W h (by omega) (i - (u+1))]
 rw [show u+1+(i - (u+1))=i by omega]
theorem A7G {t:A4} (h:JC t) {i u:Nat} (hl:i < t.nodes.length) (hu:(t.at i).up=u):ovr t i=ovr t u ||| C9 u:=by
 have:=h i hl
 rw [ovr,Vf,if_neg (by omega),hu,Int.toNat_natCast,← Aag h (by omega) (i - (u+1))]
 rw [show u+1+(i - (u+1))=i by omega]
theorem A5v {t:A4} {i:Nat} (hu:(t.at i).up < 0):P2 t i=0:=by rw [P2,Tc,if_pos hu]
theorem A7F {t:A4} {i:Nat} (hu:(t.at i).up < 0):ovr t i=0#64:=by rw [ovr,Vf,if_pos hu]
theorem Gi {t:A4} (h:JC t) (a:Int) {x:Int} (hx:x < t.nodes.length):KQ t a t.nodes.length x=if x < 0 then false else if x=a then true else KQ t a t.nodes.length (t.at x.toNat).up:=by
 rw [← RL h a t.nodes.length x hx hx,KQ]
theorem A9e (s r:BitVec 64) (x:Int):Bx (s ||| r) x=(Bx s x || Bx r x):=by
 unfold Bx
 rw [BitVec.getLsbD_or]
 cases decide (0≤x)<;>simp
theorem A6t (i:Nat) (x:Nat) (hx:x < 64):Bx (C9 i) (x:Int)=decide (x=i):=by
 rw [AH,Cm]
 by_cases c:x=i
 ·rw [decide_eq_true c,decide_eq_true (by omega)]
 ·rw [decide_eq_false c,decide_eq_false (by omega)]
theorem Wq {t:A4} (h:JC t) {a:Nat} (ha:a < 64):∀ (n b:Nat),b < n→b < t.nodes.length→Bx (ovr t b) a=AQ t a b∧(AQ t a b=true→P2 t a < P2 t b):=by
 intro n
 induction n with
 | zero=>intro b hb;omega
 | succ n ih =>
  intro b hb hl
  have hup:=h b hl
  unfold AQ
  by_cases c:(t.at b).up < 0
  ·rw [A7F c,Gi h a (by omega),if_pos c]
   exact ⟨by simp [Bx],fun h=>by cases h⟩
  ·obtain ⟨u,hu⟩:=Int.eq_ofNat_of_zero_le (show 0≤(t.at b).up by omega)
   have hub:u < b:=by omega
   obtain ⟨i1,i2⟩:=ih u (by omega) (by omega)
   unfold AQ at i1 i2
   rw [A7G h hl hu,YK h hl hu,hu,Gi h a (by omega),if_neg (by omega),A9e,A6t _ _ ha,i1,Int.toNat_natCast]
   by_cases e:a=u
   ·subst e
    rw [if_pos rfl]
    exact ⟨by simp,fun _=>by omega⟩
   ·rw [if_neg (by omega),decide_eq_false e,Bool.or_false]
    exact ⟨rfl,fun h=>by have:=i2 h;omega⟩
theorem AbO {t:A4} (h:JC t):∀ (n i:Nat),i < n→i < t.nodes.length→0≤P2 t i∧P2 t i≤i:=by
 intro n
 induction n with
 | zero=>intro i hi;omega
 | succ n ih =>
  intro i hi hl
  have hup:=h i hl
  by_cases c:(t.at i).up < 0
  ·rw [A5v c];omega
  ·obtain ⟨u,hu⟩:=Int.eq_ofNat_of_zero_le (show 0≤(t.at i).up by omega)
   have:=ih u (by omega) (by omega)
   rw [YK h hl hu]
   omega
def AbN (t:A4):List Int:=(List.range t.nodes.length).map (P2 t)
def AdB (t:A4):List (BitVec 64):=(List.range t.nodes.length).map (ovr t)
theorem M1 {t:A4} {i:Nat} (h:i < t.nodes.length):(AbN t)[i]? = some (P2 t i):=by simp [AbN,h]
theorem A7E {t:A4} {i:Nat} (h:i < t.nodes.length):(AdB t)[i]? = some (ovr t i):=by simp [AdB,h]
theorem Tb {t:A4} (h:JC t) (hn:t.nodes.length≤64) {a b:Nat} (ha:a < t.nodes.length) (hb:b < t.nodes.length):(decide (P2 t a < P2 t b) && Bx (ovr t b) a)=AQ t a b:=by
 obtain ⟨h1,h2⟩:=Wq h (a:=a) (by omega) (b+1) b (by omega) hb
 rw [h1]
 cases c:AQ t a b with
 | false=>simp
 | true=>rw [decide_eq_true (h2 c)];rfl
theorem A3k {α:Type} {n k j:Nat} {f:Nat→α} {z:α} (h:j < k) (hn:j < n):(Co n k f z)[j]? = some (f j):=by
 simp [Co,hn,h]
theorem SF {α:Type} {n k:Nat} {f:Nat→α} {z:α} (h:f k=z):Co n k f z=Co n (k+1) f z:=by
 unfold Co
 apply List.map_congr_left
 intro j hj
 by_cases e:j=k
 ·subst e;rw [if_neg (by omega),if_pos (by omega),h]
 ·by_cases c:j < k
  ·rw [if_pos c,if_pos (by omega)]
  ·rw [if_neg c,if_neg (by omega)]
theorem A6o (j:Nat) (hj:j < 64):∀ (l:List Int) (s:BitVec 64),(l.foldl (fun s i=>s ||| C9 i) s).getLsbD j=(s.getLsbD j || B2 l (j:Int)):=by
 intro l
 induction l with
 | nil=>intro s;simp [B2]
 | cons x l ih =>
  intro s
  rw [List.foldl_cons,ih,BitVec.getLsbD_or,Cm]
  have e:B2 (x::l) (j:Int)=(decide ((j:Int)=x) || B2 l (j:Int)):=rfl
  have e2:decide ((j:Int)=x∧j < 64)=decide ((j:Int)=x):=by
   by_cases c:(j:Int)=x<;>simp [c,hj]
  rw [e,e2,Bool.or_assoc]
theorem KK (l:List Int) {x:Int} (h0:0≤x) (h1:x < 64):Bx (CD l) x=B2 l x:=by
 obtain ⟨j,rfl⟩:=Int.eq_ofNat_of_zero_le h0
 rw [AH,CD,A6o j (by omega)]
 simp
theorem G9 {s:BitVec 64} {x:Int} (h:Bx s x=true):0≤x∧x < 64:=by
 simp only [Bx,Bool.and_eq_true,decide_eq_true_eq] at h
 have:=BitVec.lt_of_getLsbD h.2
 omega
def Dh (t:A4) (l:List Int):Prop:=∀ n∈l,BT t n=true
theorem Dh.has {t:A4} (ht:t.nodes.length≤64) {l:List Int} (h:Dh t l) (x:Int):Bx (CD l) x=B2 l x:=by
 by_cases c:0≤x∧x < 64
 ·exact KK l c.1 c.2
 ·have e1:Bx (CD l) x=false:=by
   rw [← Bool.not_eq_true]
   exact fun h=>c (G9 h)
  have e2:B2 l x=false:=by
   rw [← Bool.not_eq_true]
   intro h'
   obtain ⟨m,rfl,hm⟩:=A9 (h x (A7.1 h'))
   exact c ⟨by omega,by omega⟩
  rw [e1,e2]
theorem H9:∀ (l m:List Int),l.Nodup→(∀ x∈l,x∈m)→l.length≤m.length:=by
 intro l
 induction l with
 | nil=>intro m _ _;simp
 | cons x l ih =>
  intro m hn hs
  have hx:=hs x List.mem_cons_self
  have h1:x∉l:=(List.nodup_cons.1 hn).1
  have:=ih (m.erase x) (List.nodup_cons.1 hn).2 fun y hy=>by
   have:y≠x:=fun e=>h1 (e ▸ hy)
   exact (List.mem_erase_of_ne this).2 (hs y (List.mem_cons_of_mem _ hy))
  rw [List.length_erase_of_mem hx] at this
  have:0 < m.length:=List.length_pos_of_mem hx
  simp only [List.length_cons]
  omega
theorem A0F {l m:List Int} (hn:l.Nodup) (hs:∀ x∈l,x∈m) (hl:m.length≤l.length):∀ x∈m,x∈l:=by
 intro x hx
 refine Classical.byContradiction fun hc=>?_
 have:=H9 l (m.erase x) hn fun y hy=>(List.mem_erase_of_ne fun (e:y=x)=>hc (e ▸ hy)).2 (hs y hy)
 rw [List.length_erase_of_mem hx] at this
 have:0 < m.length:=List.length_pos_of_mem hx
 omega
theorem Abb:∀ (l S:List Int),S.Nodup→(∀ x∈S,x∈l)→l.length≤S.length→l.Nodup:=by
 intro l
 induction l with
 | nil=>intro S _ _ _;exact List.nodup_nil
 | cons x l ih =>
  intro S hn hs hl
  by_cases hx:x∈l
  ·have:=H9 S l hn fun y hy=>by
    rcases List.mem_cons.1 (hs y hy) with rfl | h
    ·exact hx
    ·exact h
   simp only [List.length_cons] at hl
   omega
  ·refine List.nodup_cons.2 ⟨hx,ih (S.erase x) (hn.erase x) (fun y hy=>?_) ?_⟩
   ·rcases List.mem_cons.1 (hs y (List.mem_of_mem_erase hy)) with rfl | h
    ·exact absurd hy (List.Nodup.not_mem_erase hn)
    ·exact h
   ·rw [List.length_erase]
    simp only [List.length_cons] at hl
    split<;>omega
theorem AdF {l:List Int} (h:∀ i,i < l.length→El l i=true):∀ j,j < l.length→∀ i,i < j→l.getD i 0 < l.getD j 0:=by
 intro j
 induction j with
 | zero=>intro _ i hi;omega
 | succ j ih =>
  intro hj i hi
  have h1:=h (j+1) hj
  simp only [El,Bool.or_eq_true,decide_eq_true_eq,Nat.add_sub_cancel] at h1
  have h2:l.getD j 0 < l.getD (j+1) 0:=by
   rcases h1 with h1 | h1
   ·omega
   ·exact h1
  by_cases e:i=j
  ·subst e;exact h2
  ·have:=ih (by omega) i (by omega);omega
theorem Sw {l:List Int} (h:∀ i,i < l.length→El l i=true):l.Nodup:=by
 rw [List.nodup_iff_pairwise_ne,List.pairwise_iff_getElem]
 intro i j hi hj hij e
 have:=AdF h j hj i hij
 rw [List.getD_eq_getElem?_getD,List.getElem?_eq_getElem hi,List.getD_eq_getElem?_getD,List.getElem?_eq_getElem hj,Option.getD_some,Option.getD_some,e] at this
 omega
theorem Xf (w:BitVec 64):(BX w).Nodup:=List.Nodup.sublist List.filter_sublist List.nodup_range
theorem Y9 {t:A4} (h64:t.nodes.length≤64) {l:List Int} (h:Dh t l) (x:Int):x∈(BX (CD l)).map (fun (j:Nat)=>(j:Int))↔x∈l:=by
 constructor
 ·intro hx
  obtain ⟨j,hj,rfl⟩:=List.mem_map.1 hx
  obtain ⟨j1,j2⟩:=PY hj
  have:=h.has h64 (j:Int)
  rw [AH,j2] at this
  exact A7.1 this.symm
 ·intro hx
  obtain ⟨m,rfl,hm⟩:=A9 (h x hx)
  refine List.mem_map.2 ⟨m,KH.2 ?_,rfl⟩
  have:=h.has h64 (m:Int)
  rw [AH,A7.2 hx] at this
  exact this
theorem QP (w:BitVec 64):((BX w).map fun (j:Nat)=>(j:Int)).Nodup:=by
 rw [List.nodup_iff_pairwise_ne,List.pairwise_map]
 have:=List.nodup_iff_pairwise_ne.1 (Xf w)
 exact this.imp fun h e=>h (by omega)
theorem A7C {t:A4} (h64:t.nodes.length≤64) {all W:List Int} (ha:Dh t all) (hw:W.Nodup) (hs:∀ x∈all,x∈W) :
  (all.length=W.length∧(BX (CD all)).length=W.length)↔∀ n∈W,all.count n=1:=by
 have hS:=QP (CD all)
 have hm:=fun x=>Y9 h64 ha x
 have hl:((BX (CD all)).map fun (j:Nat)=>(j:Int)).length=(BX (CD all)).length:=List.length_map ..
 generalize ((BX (CD all)).map fun (j:Nat)=>(j:Int))=S at *
 rw [← hl]
 constructor
 ·rintro ⟨h1,h2⟩ n hn
  have nd:=Abb all S hS (fun x hx=>(hm x).1 hx) (by omega)
  have hmem:=A0F nd hs (by omega) n hn
  have c1:=List.nodup_iff_count.1 nd n
  have c2:0 < all.count n:=List.count_pos_iff.2 hmem
  omega
 ·intro h
  have nd:all.Nodup:=by
   rw [List.nodup_iff_count]
   intro x
   by_cases hx:x∈all
   ·rw [h x (hs x hx)];exact Nat.le_refl _
   ·rw [List.count_eq_zero_of_not_mem hx];omega
  have hmem:∀ x∈W,x∈all:=fun x hx=>List.count_pos_iff.1 (by rw [h x hx];decide)
  have a1:=H9 all W nd hs
  have a2:=H9 W all hw hmem
  have a3:=H9 all S nd fun x hx=>(hm x).2 hx
  have a4:=H9 S all hS fun x hx=>(hm x).1 hx
  omega
def AE (n:Nat) (p:Nat→Nat→Bool):Rows:=(List.range n).map fun a=>BC fun b=>decide (b < n) && p a b
theorem BB {n:Nat} {p:Nat→Nat→Bool}:(AE n p).length=n:=by simp [AE]
theorem GF {n:Nat} {p:Nat→Nat→Bool} {a:Nat} (h:a < n):(AE n p)[a]? = some (BC fun b=>decide (b < n) && p a b):=by simp [AE,h]
theorem A7N {n:Nat} {p:Nat→Nat→Bool} {a b:Nat} (hn:n≤64) (h:a < n) (hb:b < n):Bx ((AE n p).getD a 0#64) (b:Int)=p a b:=by
 rw [List.getD_eq_getElem?_getD,GF h,Option.getD_some,AH,AF,decide_eq_true hb,decide_eq_true (show b < 64 by omega)]
 simp
def Ds (t:A4) (x f:List Int) (i:Nat):Bool :=
 if (t.at (x.getD i 0).toNat).kind=2 then B2 x (f.getD i 0) && Ll t (f.getD i 0) (t.at (x.getD i 0).toNat).loc else decide (f.getD i 0 = -1)
def B8 (t:A4) (x:List Int) (i:Nat):Bool:=BT t (x.getD i 0) && El x i
def BR (t:A4) (x f:List Int):Bool:=decide (x.length=f.length) && (List.range x.length).all (B8 t x) && (List.range x.length).all (Ds t x f)
def GQ (x f:List Int) (n:Int):Int:=if B2 x n then f.getD (DD x n).toNat 0 else -1
structure CF (t:A4) (x f:List Int):Prop where
 len:x.length=f.length
 node:Dh t x
 nd:x.Nodup
 at_:∀ i,i < x.length→GQ x f (x.getD i 0)=f.getD i 0
 read:∀ n,n∈x→(t.at n.toNat).kind=2→GQ x f n∈x∧(t.at (GQ x f n).toNat).kind=3∧(t.at (GQ x f n).toNat).loc=(t.at n.toNat).loc
 none:∀ n,n∈x→(t.at n.toNat).kind≠2→GQ x f n = -1
theorem Pe {x:List Int} (h:x.Nodup) {i:Nat} (hi:i < x.length):DD x (x.getD i 0)=i:=by
 have hm:B2 x (x.getD i 0)=true:=A7.2 (Aj hi)
 obtain ⟨k,e,hk,h1,h2⟩:=E5 hm
 rw [e]
 have:k=i:=by
  rw [List.getD_eq_getElem?_getD,List.getD_eq_getElem?_getD,List.getElem?_eq_getElem hk,List.getElem?_eq_getElem hi] at h1
  rw [Option.getD_some,Option.getD_some] at h1
  rcases Nat.lt_trichotomy k i with c | c | c
  ·exact absurd h1 (List.pairwise_iff_getElem.1 h k i hk hi c)
  ·exact c
  ·exact absurd h1.symm (List.pairwise_iff_getElem.1 h i k hi hk c)
 rw [this]
theorem Cy {t:A4} {x f:List Int} (h:BR t x f=true):CF t x f:=by
 simp only [BR,Bool.and_eq_true,decide_eq_true_eq,Ar,B8] at h
 obtain ⟨⟨h1,h2⟩,h3⟩:=h
 have hnode:Dh t x:=by
  intro n hn
  obtain ⟨i,hi,rfl⟩:=List.getElem_of_mem hn
  have:=(h2 i hi).1
  rwa [List.getD_eq_getElem?_getD,List.getElem?_eq_getElem hi] at this
 have hnd:x.Nodup:=Sw fun i hi=>(h2 i hi).2
 have hat:∀ i,i < x.length→GQ x f (x.getD i 0)=f.getD i 0:=by
  intro i hi
  unfold GQ
  rw [if_pos (A7.2 (Aj hi)),Pe hnd hi,Int.toNat_natCast]
 refine ⟨h1,hnode,hnd,hat,?_,?_⟩
 ·intro n hn hk
  obtain ⟨i,hi,rfl⟩:=List.getElem_of_mem hn
  have e:x[i]=x.getD i 0:=by rw [List.getD_eq_getElem?_getD,List.getElem?_eq_getElem hi];rfl
  have h3i:=h3 i hi
  rw [e] at hk ⊢
  rw [hat i hi]
  simp only [Ds,hk,if_true,Bool.and_eq_true,Ll,decide_eq_true_eq,A7] at h3i
  exact ⟨h3i.1,h3i.2.1,h3i.2.2⟩
 ·intro n hn hk
  obtain ⟨i,hi,rfl⟩:=List.getElem_of_mem hn
  have e:x[i]=x.getD i 0:=by rw [List.getD_eq_getElem?_getD,List.getElem?_eq_getElem hi];rfl
  have h3i:=h3 i hi
  rw [e] at hk ⊢
  rw [hat i hi]
  simp only [Ds,hk,if_false,decide_eq_true_eq] at h3i
  exact h3i
def SZ (t:A4) (x f:List Int) (w:Int):Int:=if (t.at w.toNat).rmw=true∧B2 x (t.at w.toNat).up=true then GQ x f (t.at w.toNat).up else -1
def A4k (t:A4) (x:List Int) (w:Int) (n:Nat):Bool:=(decide ((n:Int)=w) && E7 (t.at n)) || (B2 x (n:Int) && decide ((t.at n).kind=4) && E7 (t.at n) && Ao t n w)
def Kd (t:A4) (x:List Int) (w:Int):BitVec 64:=BC (A4k t x w)
def Hp (t:A4) (w:Int):Bool:=decide (w < 0) || decide ((t.at w.toNat).thread < 0)
def Jv (t:A4) (x f:List Int):Nat→Int→BitVec 64
 | 0,_=>0#64
 | k+1,w=>if Hp t w=true then 0#64 else Kd t x w ||| Jv t x f k (SZ t x f w)
def AI (t:A4) (x f:List Int) (w:Int):BitVec 64:=Jv t x f (x.length+1) w
def Dx (t:A4) (x f:List Int):Nat→Int→Int
 | 0,w=>w
 | k+1,w=>SZ t x f (Dx t x f k w)
theorem K0 (t:A4) (x f:List Int):∀ (k:Nat) (w:Int),Dx t x f (k+1) w=Dx t x f k (SZ t x f w)
 | 0,w=>rfl
 | k+1,w=>by rw [Dx,K0 t x f k w];rfl
theorem Ej (t:A4) (x f:List Int) (b:Nat):∀ (k:Nat) (w:Int),(Jv t x f k w).getLsbD b=true↔∃ j,j < k∧(∀ i,i≤j→Hp t (Dx t x f i w)=false)∧(Kd t x (Dx t x f j w)).getLsbD b=true
 | 0,w=>by simp [Jv]
 | k+1,w=>by
  rw [Jv]
  by_cases c:Hp t w=true
  ·rw [if_pos c]
   constructor
   ·intro h;simp at h
   ·rintro ⟨j,_,h,_⟩
    have:=h 0 (Nat.zero_le _)
    rw [Dx,c] at this;cases this
  ·rw [if_neg c,BitVec.getLsbD_or,Bool.or_eq_true,Ej t x f b k]
   constructor
   ·rintro (h | ⟨j,h1,h2,h3⟩)
    ·exact ⟨0,by omega,fun i hi=>by rw [Nat.le_zero.1 hi];exact Bool.eq_false_iff.2 c,h⟩
    ·refine ⟨j+1,by omega,fun i hi=>?_,by rw [K0];exact h3⟩
     rcases i with _ | i
     ·exact Bool.eq_false_iff.2 c
     ·rw [K0];exact h2 i (by omega)
   ·rintro ⟨j,h1,h2,h3⟩
    rcases j with _ | j
    ·exact .inl h3
    ·refine .inr ⟨j,by omega,fun i hi=>?_,by rw [K0] at h3;exact h3⟩
     have:=h2 (i+1) (by omega)
     rwa [K0] at this
def PR (t:A4) (x f:List Int) (w:Int) (i:Nat):BitVec 64:=(List.range i).foldl (fun s j=>s ||| Kd t x (Dx t x f j w)) 0#64
theorem A06 (t:A4) (x f:List Int) (w:Int) (i:Nat):PR t x f w (i+1)=PR t x f w i ||| Kd t x (Dx t x f i w):=by
 unfold PR
 rw [List.range_succ,List.foldl_append]
 rfl
theorem S0 (t:A4) (x f:List Int) (w:Int) (b:Nat) (i:Nat):(PR t x f w i).getLsbD b=true↔∃ j,j < i∧(Kd t x (Dx t x f j w)).getLsbD b=true:=by
 unfold PR
 rw [To]
 simp [List.any_eq_true]
def JF (t:A4) (x f:List Int) (w:Int) (i:Nat):List Int:=(List.range i).map fun j=>Dx t x f j w
theorem SM (t:A4) (x f:List Int) (w:Int) (i:Nat):JF t x f w (i+1)=JF t x f w i++[Dx t x f i w]:=by
 unfold JF
 rw [List.range_succ,List.map_append]
 rfl
theorem Pc {t:A4} {x f:List Int} {w:Int} {i:Nat} {v:Int}:v∈JF t x f w i↔∃ j,j < i∧Dx t x f j w=v:=by
 simp [JF]
theorem T0 {t:A4} (ht:Aa t) {x f:List Int} (h:CF t x f) {w:Int} (hw:w∈x):SZ t x f w = -1∨(SZ t x f w∈x∧(t.at (SZ t x f w).toNat).kind=3):=by
 unfold SZ
 by_cases c:(t.at w.toNat).rmw=true∧B2 x (t.at w.toNat).up=true
 ·rw [if_pos c]
  obtain ⟨m,rfl,hm⟩:=A9 (h.node w hw)
  rw [Int.toNat_natCast] at c ⊢
  have hl:t.locs.length≤m:=by
   rcases Nat.lt_or_ge m t.locs.length with h1 | h1
   ·have:=ht.first.2 m h1
    simp only [J1,Bool.and_eq_true] at this
    have h3:=this.1.1.2
    rw [c.1] at h3;cases h3
   ·exact h1
  obtain ⟨_,k2⟩:=(ht.good m hl hm).rmw c.1
  obtain ⟨r1,r2,_⟩:=h.read _ (A7.1 c.2) k2
  exact .inr ⟨r1,r2⟩
 ·rw [if_neg c];exact .inl rfl
theorem Lm {t:A4} (ht:Aa t) {x f:List Int} (h:CF t x f) {w:Int} (hw:w∈x):∀ (i:Nat),(∀ j,j < i→Hp t (Dx t x f j w)=false)→Dx t x f i w = -1∨Dx t x f i w∈x
 | 0,_=>.inr hw
 | i+1,hi=>by
  rcases Lm ht h hw i (fun j hj=>hi j (by omega)) with e | e
  ·have:=hi i (by omega)
   rw [e] at this;cases this
  ·rcases T0 ht h e with e | e
   ·exact .inl e
   ·exact .inr e.1
theorem AaB {t:A4} (ht:Aa t) {x f:List Int} (h:CF t x f) {w:Int} (hw:w∈x) {i:Nat} (hoff:∀ j,j < i→Hp t (Dx t x f j w)=false) (hnd:(JF t x f w i).Nodup)
  (he:Hp t (Dx t x f i w)=true∨Dx t x f i w∈JF t x f w i):PR t x f w i=AI t x f w:=by
 have hil:i≤x.length:=by
  have h1:(JF t x f w i).length=i:=by simp [JF]
  rw [← h1]
  refine H9 _ _ hnd fun v hv=>?_
  obtain ⟨j,hj,rfl⟩:=Pc.1 hv
  rcases Lm ht h hw j (fun k hk=>hoff k (by omega)) with e | e
  ·have:=hoff j hj
   rw [e] at this;cases this
  ·exact e
 apply Wf.anti
 ·intro b hb
  obtain ⟨j,hj,h1⟩:=(S0 _ _ _ _ _ _).1 hb
  exact (Ej _ _ _ _ _ _).2 ⟨j,by omega,fun k hk=>hoff k (by omega),h1⟩
 ·intro b hb
  obtain ⟨j,hj,h1,h2⟩:=(Ej _ _ _ _ _ _).1 hb
  have key:∀ j,(∀ k,k≤j→Hp t (Dx t x f k w)=false)→∃ j',j' < i∧Dx t x f j' w=Dx t x f j w:=by
   intro j
   induction j with
   | zero =>
    intro hk
    rcases Nat.eq_zero_or_pos i with e | e
    ·subst e
     rcases he with he | he
     ·rw [hk 0 (Nat.le_refl _)] at he;cases he
     ·simp [JF] at he
    ·exact ⟨0,e,rfl⟩
   | succ j ih =>
    intro hk
    obtain ⟨j',h3,h4⟩:=ih fun k hk'=>hk k (by omega)
    have e5:Dx t x f (j' + 1) w=Dx t x f (j+1) w:=by rw [Dx,Dx,h4]
    rcases Nat.lt_or_ge (j' + 1) i with h5 | h5
    ·exact ⟨j' + 1,h5,e5⟩
    ·have e6:j' + 1=i:=by omega
     rw [e6] at e5
     rcases he with he | he
     ·rw [e5,hk (j+1) (Nat.le_refl _)] at he;cases he
     ·obtain ⟨j3,h6,h7⟩:=Pc.1 he
      exact ⟨j3,h6,h7.trans e5⟩
  obtain ⟨j',h3,h4⟩:=key j h1
  exact (S0 _ _ _ _ _ _).2 ⟨j',h3,by rw [h4];exact h2⟩
def Eh (t:A4) (x:List Int) (r:Int) (n:Nat):Bool:=(decide ((n:Int)=r) && HP (t.at n)) || (B2 x (n:Int) && decide ((t.at n).kind=4) && HP (t.at n) && Ao t r n)
def Ht (t:A4) (x f:List Int) (r:Int):Bool:=decide ((t.at r.toNat).kind=2) && !decide ((t.at (GQ x f r).toNat).thread=(t.at r.toNat).thread)
def swB (t:A4) (x f:List Int) (a b:Nat):Bool:=x.any fun r=>Ht t x f r && Bx (AI t x f (GQ x f r)) (a:Int) && Eh t x r b
def JX (t:A4) (x f:List Int) (a b:Nat):Bool:=(B2 x (a:Int) && B2 x (b:Int) && Ao t a b) || swB t x f a b
def Lk (t:A4) (x f:List Int):Rows:=Ed (AE t.nodes.length (JX t x f))
theorem Ki {n:Nat} (hn:n≤64) (p:Nat→Nat→Bool):Dl (AE n p)=true:=by
 simp only [Dl,Bool.and_eq_true,decide_eq_true_eq,List.all_eq_true,BB]
 refine ⟨hn,fun r hr=>?_⟩
 obtain ⟨a,ha,rfl⟩:=List.mem_map.1 hr
 apply BL
 intro j hj
 rw [BitVec.getLsbD_and,BitVec.getLsbD_not,AF,D2,AF]
 by_cases c:j < n
 ·simp [c,hj]
 ·simp [c]
theorem Jj {n:Nat} {p:Nat→Nat→Bool} {a:Nat} (h:a < n):(AE n p).getD a 0#64=BC fun b=>decide (b < n) && p a b:=by
 rw [List.getD_eq_getElem?_getD,GF h,Option.getD_some]
theorem AW {n:Nat} {p q:Nat→Nat→Bool} (h:∀ a b,a < n→b < n→p a b=q a b):AE n p=AE n q:=by
 unfold AE
 apply List.map_congr_left
 intro a ha
 apply Ba
 intro b _
 by_cases c:b < n
 ·rw [h a b (List.mem_range.1 ha) c]
 ·simp [c]
theorem A7D {n:Nat} (hn:n≤64) (p q:Nat→Nat→Bool):orF (AE n p) (AE n q)=AE n fun a b=>p a b || q a b:=by
 unfold orF
 rw [Ki hn,Ki hn,BB,BB]
 simp only [decide_true,Bool.and_self,if_true]
 apply List.map_congr_left
 intro a ha
 have h:=List.mem_range.1 ha
 rw [Jj h,Jj h]
 apply BL
 intro j hj
 rw [BitVec.getLsbD_or,AF,AF,AF]
 cases decide (j < n)<;>cases decide (j < 64)<;>simp
theorem A0b {n:Nat} (hn:n≤64) (p:Nat→Nat→Bool) (s:BitVec 64):Xb (AE n p) s=AE n fun a b=>Bx s a && Bx s b && p a b:=by
 unfold Xb
 rw [Ki hn,BB]
 simp only [if_true]
 apply List.map_congr_left
 intro a ha
 have h:=List.mem_range.1 ha
 rw [Jj h]
 cases c:Bx s (a:Int) with
 | false =>
  simp only [Bool.false_and,Bool.and_false,Bool.false_eq_true,if_false,c]
  exact Ga.symm
 | true =>
  simp only [if_true,Bool.true_and,c]
  apply BL
  intro j hj
  rw [BitVec.getLsbD_and,AF,AF]
  simp only [AH]
  cases decide (j < n)<;>cases decide (j < 64)<;>cases s.getLsbD j<;>simp
theorem Dg {s:BitVec 64} {x:Int}:x∈Ax s↔Bx s x=true:=by
 unfold Ax
 rw [List.mem_map]
 constructor
 ·rintro ⟨i,hi,rfl⟩
  rw [AH];exact KH.1 hi
 ·intro h
  obtain ⟨h1,h2⟩:=G9 h
  obtain ⟨m,rfl⟩:=Int.eq_ofNat_of_zero_le h1
  rw [AH] at h
  exact ⟨m,KH.2 h,rfl⟩
theorem Dh.list {t:A4} (ht:t.nodes.length≤64) {l:List Int} (h:Dh t l) (x:Int):x∈Ax (CD l)↔x∈l:=by
 rw [Dg,h.has ht,A7]
def D1 (p:Int→Bool) (s:BitVec 64) (l:List Int):BitVec 64:=l.foldl (fun s n=>if p n=true then s ||| C9 n else s) s
theorem N9 (p:Int→Bool) (j:Nat) (hj:j < 64):∀ (l:List Int) (s:BitVec 64),(D1 p s l).getLsbD j=(s.getLsbD j || (B2 l (j:Int) && p (j:Int))):=by
 intro l
 induction l with
 | nil=>intro s;simp [D1,B2]
 | cons x l ih =>
  intro s
  show (D1 p (if p x=true then s ||| C9 x else s) l).getLsbD j=_
  rw [ih]
  have e:B2 (x::l) (j:Int)=(decide ((j:Int)=x) || B2 l (j:Int)):=rfl
  rw [e]
  by_cases c:(j:Int)=x
  ·subst c
   cases hp:p (j:Int) with
   | false=>simp
   | true =>
    rw [if_pos rfl,BitVec.getLsbD_or,Cm]
    simp [hj]
  ·have:(C9 x).getLsbD j=false:=by rw [Cm];simp [c]
   by_cases hp:p x=true
   ·rw [if_pos hp,BitVec.getLsbD_or,this];simp [c]
   ·rw [if_neg hp];simp [c]
theorem Jf {p:Int→Bool} {s:BitVec 64} {l:List Int} {k:Nat} (hk:k < l.length):D1 p s (l.take (k+1))=if p (l.getD k 0)=true then D1 p s (l.take k) ||| C9 (l.getD k 0) else D1 p s (l.take k):=by
 unfold D1
 rw [List.take_succ_eq_append_getElem hk,List.foldl_append,List.getD_eq_getElem?_getD,List.getElem?_eq_getElem hk]
 rfl
theorem Aai {p:Int→Bool} {s:BitVec 64} {l:List Int} {k:Nat} (hk:k < l.length) (h:p (l.getD k 0)=true):D1 p s (l.take k) ||| C9 (l.getD k 0)=D1 p s (l.take (k+1)):=by rw [Jf hk,if_pos h]
theorem Ph {p:Int→Bool} {s:BitVec 64} {l:List Int} {k:Nat} (hk:k < l.length) (h:p (l.getD k 0)=false):D1 p s (l.take k)=D1 p s (l.take (k+1)):=by rw [Jf hk,if_neg (by rw [h];simp)]
theorem A7O {n a:Nat} (ha:a < n) (p:Nat→Nat→Bool) (q:Nat→Bool) (hq:∀ b,q b=true→b < n):(AE n p).set a ((AE n p).getD a 0#64 ||| BC q)=AE n fun i b=>p i b || (decide (i=a) && q b):=by
 apply List.ext_getElem
 ·simp [AE]
 ·intro i h1 h2
  have hi:i < n:=by simpa [AE] using h2
  rw [List.getElem_set]
  by_cases c:a=i
  ·subst c
   rw [if_pos rfl,Jj ha]
   have:(AE n fun i b=>p i b || (decide (i=a) && q b))[a]=BC fun b=>decide (b < n) && (p a b || (decide (a=a) && q b)):=by simp [AE]
   rw [this]
   apply BL
   intro j hj
   rw [BitVec.getLsbD_or,AF,AF,AF]
   cases hqj:q j with
   | false=>simp
   | true=>have:=hq j hqj;simp [this,hj]
  ·rw [if_neg c]
   have c':¬ i=a:=fun e=>c e.symm
   have e1:(AE n p)[i]'(by simpa [AE] using hi)=BC fun b=>decide (b < n) && p i b:=by simp [AE]
   have e2:(AE n fun i b=>p i b || (decide (i=a) && q b))[i]=BC fun b=>decide (b < n) && (p i b || (decide (i=a) && q b)):=by simp [AE]
   rw [e1,e2]
   apply Ba
   intro j _
   simp [c']
theorem Ss (n:Nat):AE n (fun _ _=>false)=List.replicate n 0#64:=by
 apply List.ext_getElem
 ·simp [AE]
 ·intro i h1 h2
  simp only [AE,List.getElem_map,List.getElem_replicate,Bool.and_false]
  exact Ga
def onL (t:A4) (x f:List Int):List Int:=(List.range t.nodes.length).map fun (n:Nat)=>GQ x f (n:Int)
theorem Pf {t:A4} {x f:List Int}:(onL t x f).length=t.nodes.length:=by simp [onL]
theorem Je {t:A4} {x f:List Int} {n:Nat} (h:n < t.nodes.length):(onL t x f)[n]? = some (GQ x f (n:Int)):=by simp [onL,h]
def Jk (t:A4) (x f:List Int) (n:Int):Bool:=if (t.at n.toNat).kind=2 then B2 x (GQ x f n) && Ll t (GQ x f n) (t.at n.toNat).loc else decide (GQ x f n = -1)
theorem X1 (t:A4) (x f:List Int):BR t x f=(decide (x.length=f.length) && (List.range x.length).all (B8 t x) && (List.range x.length).all fun i=>Jk t x f (x.getD i 0)):=by
 unfold BR
 by_cases h1:(decide (x.length=f.length) && (List.range x.length).all (B8 t x))=true
 ·rw [h1,Bool.true_and,Bool.true_and]
  simp only [Bool.and_eq_true,decide_eq_true_eq,Ar,B8] at h1
  have hnd:x.Nodup:=Sw fun i hi=>(h1.2 i hi).2
  have hat:∀ i,i < x.length→GQ x f (x.getD i 0)=f.getD i 0:=by
   intro i hi
   unfold GQ
   rw [if_pos (A7.2 (Aj hi)),Pe hnd hi,Int.toNat_natCast]
  rw [Bool.eq_iff_iff,Ar,Ar]
  constructor
  ·intro h i hi
   have:=h i hi
   rw [Ds] at this
   rw [Jk,hat i hi];exact this
  ·intro h i hi
   have:=h i hi
   rw [Jk,hat i hi] at this
   rw [Ds];exact this
 ·rw [Bool.not_eq_true] at h1
  rw [h1,Bool.false_and,Bool.false_and]
theorem YA {t:A4} (ht:Aa t) {a:Nat} (hla:t.locs.length≤a):∀ (n:Nat) (b:Nat),b < n→b < t.nodes.length→AQ t a b=true→(t.at a).thread=(t.at b).thread:=by
 intro n
 induction n with
 | zero=>intro b h;omega
 | succ n ih =>
  intro b hbn hb h
  unfold AQ at h
  rw [Gi ht.up a (by have:=ht.up b hb;omega)] at h
  by_cases c1:(t.at b).up < 0
  ·rw [if_pos c1] at h;cases h
  ·rw [if_neg c1] at h
   have hl:t.locs.length≤b:=by
    rcases Nat.lt_or_ge b t.locs.length with h1 | h1
    ·have:=(ht.init b h1).up;omega
    ·exact h1
   have hp:=(ht.good b hl hb).par (by omega)
   by_cases c2:(t.at b).up=a
   ·rw [c2,Int.toNat_natCast] at hp;exact hp
   ·rw [if_neg c2] at h
    have hub:=ht.up b hb
    have hu:((t.at b).up.toNat:Int)=(t.at b).up:=by omega
    rw [← hp]
    exact ih (t.at b).up.toNat (by omega) (by omega) h
theorem A7I {t:A4} {x:List Int} (hx:Dh t x) {w:Int} (hw:w∈x) {a:Nat} (h:(Kd t x w).getLsbD a=true):a < t.nodes.length:=by
 rw [Kd,AF,Bool.and_eq_true] at h
 have h1:=h.1
 simp only [A4k,Bool.or_eq_true,Bool.and_eq_true,decide_eq_true_eq,A7] at h1
 have:(a:Int)∈x:=by
  rcases h1 with h1 | h1
  ·rw [h1.1];exact hw
  ·exact h1.1.1.1
 obtain ⟨m,e,hm⟩:=A9 (hx _ this)
 omega
theorem PS {t:A4} (ht:Aa t) {x f:List Int} (hF:CF t x f) {w:Int} (hw:w∈x) {a:Nat} (h:(AI t x f w).getLsbD a=true):a < t.nodes.length:=by
 obtain ⟨j,_,h2,h3⟩:=(Ej _ _ _ _ _ _).1 h
 rcases Lm ht hF hw j (fun k hk=>h2 k (by omega)) with e | e
 ·have:=h2 j (Nat.le_refl _)
  rw [e] at this;cases this
 ·exact A7I hF.node e h3
theorem A3R {t:A4} {x:List Int} (hx:Dh t x) {r:Int} (hr:r∈x) {b:Nat} (h:Eh t x r b=true):b < t.nodes.length:=by
 simp only [Eh,Bool.or_eq_true,Bool.and_eq_true,decide_eq_true_eq,A7] at h
 have:(b:Int)∈x:=by
  rcases h with h1 | h1
  ·rw [h1.1];exact hr
  ·exact h1.1.1.1
 obtain ⟨m,e,hm⟩:=A9 (hx _ this)
 omega
theorem Sr {n a:Nat} (ha:a < n) (p:Nat→Nat→Bool) (q:Nat→Bool) (hq:∀ b,q b=true→b < n):((AE n p).map eW).set a [vW ((BC fun b=>decide (b < n) && p a b) ||| BC q)]=(AE n fun i b=>p i b || (decide (i=a) && q b)).map eW:=by
 rw [← A7O ha p q hq,Jj ha,List.map_set]
theorem Sq {n a b:Nat} (ha:a < n) (hb:b < n) (hn:n≤64) (p:Nat→Nat→Bool):((AE n p).map eW).set a [vW ((BC fun b=>decide (b < n) && p a b) ||| C9 b)]=(AE n fun i j=>p i j || (decide (i=a) && decide (j=b))).map eW:=by
 have:C9 (b:Int)=BC fun j=>decide (j=b):=by
  apply BL
  intro j hj
  rw [Cm,AF]
  by_cases c:j=b
  ·subst c;simp
  ·have:¬ (j:Int)=(b:Int):=by omega
   simp [c,this]
 rw [this]
 exact Sr ha p _ fun j hj=>by rw [of_decide_eq_true hj];exact hb
def NS (t:A4) (x f:List Int) (L:List Int) (a b:Nat):Bool:=L.any fun r=>Ht t x f r && Bx (AI t x f (GQ x f r)) (a:Int) && Eh t x r b
theorem Aaq {t:A4} {x f L:List Int} (h:∀ y,y∈L↔y∈x) (a b:Nat):NS t x f L a b=swB t x f a b:=by
 unfold NS swB
 rw [Bool.eq_iff_iff,List.any_eq_true,List.any_eq_true]
 exact ⟨fun ⟨y,h1,h2⟩=>⟨y,(h y).1 h1,h2⟩,fun ⟨y,h1,h2⟩=>⟨y,(h y).2 h1,h2⟩⟩
theorem Yb {t:A4} {x f L:List Int} {k:Nat} (hk:k < L.length) (a b:Nat):NS t x f (L.take (k+1)) a b=(NS t x f (L.take k) a b || (Ht t x f (L.getD k 0) && Bx (AI t x f (GQ x f (L.getD k 0))) (a:Int) && Eh t x (L.getD k 0) b)):=by
 unfold NS
 rw [List.take_succ_eq_append_getElem hk,List.any_append,List.getD_eq_getElem?_getD,List.getElem?_eq_getElem hk]
 simp
def VZ (t:A4) (x f:List Int) (k:Nat):List Int:=(List.range t.nodes.length).map fun (n:Nat)=>GQ (x.take k) f (n:Int)
theorem A7B (t:A4) (x f:List Int):VZ t x f 0=List.replicate t.nodes.length (-1):=by
 apply List.ext_getElem
 ·simp [VZ]
 ·intro i h1 h2
  simp [VZ,GQ,B2]
theorem Aae (t:A4) (x f:List Int):VZ t x f x.length=onL t x f:=by unfold VZ onL;rw [List.take_length]
theorem A37 {t:A4} {x f:List Int} {k:Nat}:(VZ t x f k).length=t.nodes.length:=by simp [VZ]
theorem A8h {l:List Int} {n:Int} (h:B2 l n=true) (m:List Int):DD (l++m) n=DD l n:=by
 have h':B2 (l++m) n=true:=A7.2 (List.mem_append_left _ (A7.1 h))
 obtain ⟨i,e1,i1,i2,i3⟩:=E5 h
 obtain ⟨j,e2,j1,j2,j3⟩:=E5 h'
 rw [e1,e2]
 have g:∀ k,k < l.length→(l++m).getD k 0=l.getD k 0:=fun k hk=>by rw [List.getD_eq_getElem?_getD,List.getD_eq_getElem?_getD,List.getElem?_append_left hk]
 rcases Nat.lt_trichotomy i j with c | c | c
 ·exact absurd (by rw [g i i1];exact i2) (j3 i c)
 ·rw [c]
 ·exact absurd (by rw [← g j (by omega)];exact j2) (i3 j c)
theorem Aaf {t:A4} {x f:List Int} {k m:Nat} (hk:k < x.length) (hm:x.getD k 0=(m:Int)) (hmn:m < t.nodes.length) (hris:∀ i,i≤k→El x i=true):((VZ t x f k).map eI).set m [.i .i64 (f.getD k 0)]=(VZ t x f (k+1)).map eI:=by
 have hlt:∀ i,i < k→x.getD i 0 < x.getD k 0:=by
  have:∀ j,j≤k→∀ i,i < j→x.getD i 0 < x.getD j 0:=by
   intro j
   induction j with
   | zero=>intro _ i h;omega
   | succ j ih =>
    intro hj i hi
    have:=hris (j+1) hj
    simp only [El,Bool.or_eq_true,decide_eq_true_eq,Nat.add_sub_cancel] at this
    have h2:x.getD j 0 < x.getD (j+1) 0:=this.resolve_left (by omega)
    rcases Nat.lt_or_ge i j with c | c
    ·have:=ih (by omega) i c;omega
    ·rw [show i=j by omega];exact h2
  exact this k (Nat.le_refl _)
 have hnot:B2 (x.take k) (m:Int)=false:=by
  rw [← Bool.not_eq_true,A7]
  intro h
  obtain ⟨i,hi,e⟩:=List.getElem_of_mem h
  rw [List.length_take] at hi
  have:=hlt i (by omega)
  rw [List.getElem_take] at e
  rw [List.getD_eq_getElem?_getD,List.getElem?_eq_getElem (by omega),Option.getD_some,e,hm] at this
  omega
 have htk:x.take (k+1)=x.take k++[(m:Int)]:=by
  rw [List.take_succ_eq_append_getElem hk]
  rw [List.getD_eq_getElem?_getD,List.getElem?_eq_getElem hk,Option.getD_some] at hm
  rw [hm]
 have e0:((VZ t x f k).map eI).set m [.i .i64 (f.getD k 0)]=((VZ t x f k).set m (f.getD k 0)).map eI:=by rw [List.map_set]
 rw [e0]
 congr 1
 apply List.ext_getElem
 ·simp [VZ]
 ·intro i h1 h2
  have hi:i < t.nodes.length:=by simpa [VZ] using h2
  rw [List.getElem_set]
  by_cases c:m=i
  ·subst c
   rw [if_pos rfl]
   simp only [VZ,List.getElem_map,List.getElem_range]
   unfold GQ
   have h3:B2 (x.take (k+1)) (m:Int)=true:=by rw [htk,A7];simp
   rw [if_pos h3]
   obtain ⟨j,e,j1,j2,j3⟩:=E5 h3
   rw [e,Int.toNat_natCast]
   have:j=k:=by
    rw [List.length_take] at j1
    rcases Nat.lt_trichotomy j k with c | c | c
    ·exfalso
     rw [htk,List.getD_eq_getElem?_getD,List.getElem?_append_left (by rw [List.length_take];omega),← List.getD_eq_getElem?_getD] at j2
     have:B2 (x.take k) (m:Int)=true:=by rw [A7,← j2];exact Aj (by rw [List.length_take];omega)
     rw [hnot] at this;cases this
    ·exact c
    ·omega
   rw [this]
  ·rw [if_neg c]
   simp only [VZ,List.getElem_map,List.getElem_range]
   unfold GQ
   have c':¬ (i:Int)=(m:Int):=by omega
   have e:B2 (x.take (k+1)) (i:Int)=B2 (x.take k) (i:Int):=by
    rw [htk,Bool.eq_iff_iff,A7,A7,List.mem_append]
    simp [c']
   rw [e]
   by_cases c2:B2 (x.take k) (i:Int)=true
   ·rw [if_pos c2,if_pos c2,htk,A8h c2]
   ·rw [if_neg c2,if_neg c2]
def hbF (t:A4) (x f:List Int):Rows:=if BR t x f=true then Lk t x f else []
inductive KU (p:Nat→Nat→Bool) (N:Nat) (a:Nat):Nat→Prop where
 | one {b:Nat} (hb:b < N) (h:p a b=true):KU p N a b
 | more {b c:Nat} (h1:KU p N a b) (hc:c < N) (h:p b c=true):KU p N a c
theorem KU.lt {p:Nat→Nat→Bool} {N a b:Nat} (h:KU p N a b):b < N:=by cases h<;>assumption
theorem KU.trans {p:Nat→Nat→Bool} {N a b c:Nat} (h:KU p N a b) (k:KU p N b c):KU p N a c:=by
 induction k with
 | one hb h2=>exact .more h hb h2
 | more _ hc h2 ih=>exact .more ih hc h2
open Classical in
theorem GB {n:Nat} (hn:n≤64) (p:Nat→Nat→Bool) {a b:Nat} (ha:a < n):((Ed (AE n p)).getD a 0#64).getLsbD b=true↔KU p n a b:=by
 have hl:(AE n p).length≤64:=by rw [BB];exact hn
 have e:(Ed (AE n p)).getD a 0#64=EQ (AE n p) ((AE n p).getD a 0#64):=by
  rw [Ed,Ki hn,if_pos rfl,List.getD_eq_getElem?_getD]
  simp [BB,ha]
 rw [e]
 have hc:=PC hl ((AE n p).getD a 0#64)
 have row:∀ i j,i < n→(((AE n p).getD i 0#64).getLsbD j=true↔j < n∧p i j=true):=fun i j hi=>by
  rw [Jj hi,AF]
  simp only [Bool.and_eq_true,decide_eq_true_eq]
  exact ⟨fun h=>h.1,fun h=>⟨h,by omega⟩⟩
 constructor
 ·intro h
  have:=hc.least (BC fun j=>decide (KU p n a j)) (fun j hj=>by
   obtain ⟨h1,h2⟩:=(row a j ha).1 hj
   rw [AF]
   simp only [Bool.and_eq_true,decide_eq_true_eq]
   exact ⟨.one h1 h2,by omega⟩) (fun y hy hs j hj=>by
   rw [BB] at hy
   obtain ⟨h1,h2⟩:=(row y j hy).1 hj
   rw [AF] at hs ⊢
   simp only [Bool.and_eq_true,decide_eq_true_eq] at hs ⊢
   exact ⟨.more hs.1 h1 h2,by omega⟩) b h
  rw [AF] at this
  simp only [Bool.and_eq_true,decide_eq_true_eq] at this
  exact this.1
 ·intro h
  induction h with
  | one hb h=>exact hc.sub _ ((row a _ ha).2 ⟨hb,h⟩)
  | more h1 hc' h2 ih=>exact hc.closed _ (by rw [BB];exact h1.lt) ih _ ((row _ _ h1.lt).2 ⟨hc',h2⟩)
theorem DZ {n:Nat} (hn:n≤64) (p:Nat→Nat→Bool):(Ed (AE n p)).length=n:=by
 rw [Ed,Ki hn,if_pos rfl];simp [BB]
theorem A7L {n:Nat} (hn:n≤64) (p:Nat→Nat→Bool):Dl (Ed (AE n p))=true:=by
 simp only [Dl,Bool.and_eq_true,decide_eq_true_eq,List.all_eq_true,DZ hn]
 refine ⟨hn,fun r hr=>?_⟩
 obtain ⟨i,hi,rfl⟩:=List.getElem_of_mem hr
 rw [DZ hn] at hi
 apply BL
 intro j hj
 rw [BitVec.getLsbD_and,BitVec.getLsbD_not,D2,AF]
 have e:(Ed (AE n p))[i]=(Ed (AE n p)).getD i 0#64:=by rw [List.getD_eq_getElem?_getD,List.getElem?_eq_getElem (by rw [DZ hn];exact hi)];rfl
 rw [e]
 cases hb:((Ed (AE n p)).getD i 0#64).getLsbD j with
 | false=>simp
 | true =>
  have:=((GB hn p hi).1 hb).lt
  simp [this,hj]
theorem DI {n:Nat} (hn:n≤64) (p:Nat→Nat→Bool) (x:Int×Int):x∈Cd (Ed (AE n p))↔∃ a b:Nat,a < n∧x=((a:Int),(b:Int))∧KU p n a b:=by
 rw [Cd,A7L hn,if_pos rfl,DZ hn,List.mem_flatMap]
 constructor
 ·rintro ⟨a,ha,h⟩
  have ha':=List.mem_range.1 ha
  obtain ⟨j,hj,rfl⟩:=List.mem_map.1 h
  obtain ⟨h1,h2⟩:=G9 (Dg.1 hj)
  obtain ⟨b,rfl⟩:=Int.eq_ofNat_of_zero_le h1
  have h3:=Dg.1 hj
  rw [AH] at h3
  exact ⟨a,b,ha',rfl,(GB hn p ha').1 h3⟩
 ·rintro ⟨a,b,ha,rfl,h⟩
  refine ⟨a,List.mem_range.2 ha,List.mem_map.2 ⟨b,Dg.2 ?_,rfl⟩⟩
  rw [AH]
  exact (GB hn p ha).2 h
theorem HM.rmwLoc {t:A4}:∀ {n u e:Nat},HM t n u e→∀ m,u < m→m < e→(t.at m).rmw=true→(t.at (t.at m).up.toNat).loc=(t.at m).loc:=by
 intro n
 induction n with
 | zero=>intro u e h;exact absurd h (by simp [HM])
 | succ n ih =>
  intro u e h m h1 h2 hr
  obtain ⟨⟨_,ht,_⟩,h⟩:=h
  rcases h with ⟨_,_,rfl⟩ | ⟨c,_,_,al,hb⟩ | ⟨c,_,_,vals,k,loc,mode,_,_,hk0,hke,hloc,hs,_⟩
  ·omega
  ·by_cases e1:m=u+1
   ·subst e1
    obtain ⟨p,q⟩:=JR c
    rw [p,Int.toNat_natCast]
    simp only [Dc,hr,Bool.or_eq_true,Bool.and_eq_true,decide_eq_true_eq,if_true,Bool.not_true] at al
    rcases al with h | h
    ·have:=h.1.1.2;cases this
    ·exact h.2.1.2
   ·exact ih hb m (by omega) h2 hr
  ·obtain ⟨v,hv,a,b⟩:=Ey (k:=k) (m:=m) vals (by omega) (by omega)
   obtain ⟨s1,s2,s3⟩:=hs v hv
   by_cases e1:m=k v
   ·subst e1
    rw [Em,hr] at s2
    simp at s2
   ·exact ih s3 m (by omega) b hr
theorem Aa.rmwLoc {t:A4} (h:Aa t) {m:Nat} (h2:m < t.nodes.length) (hr:(t.at m).rmw=true):t.locs.length≤m∧(t.at (t.at m).up.toNat).loc=(t.at m).loc:=by
 have h1:t.locs.length≤m:=by
  rcases Nat.lt_or_ge m t.locs.length with h1 | h1
  ·have:=h.first.2 m h1
   simp only [J1,Bool.and_eq_true] at this
   have h3:=this.1.1.2
   rw [hr] at h3;cases h3
  ·exact h1
 refine ⟨h1,?_⟩
 obtain ⟨s,h0,he,hs⟩:=h.thr
 obtain ⟨v,hv,a,b⟩:=Ey (k:=s) (m:=m) t.regs.length (by omega) (by omega)
 obtain ⟨hb,n,hn⟩:=hs v hv
 by_cases e1:m=s v
 ·subst e1
  simp only [Et,Bool.and_eq_true,decide_eq_true_eq] at hb
  have:=hb.2
  rw [hr] at this;cases this
 ·exact hn.rmwLoc m (by omega) b hr
theorem AbH {t:A4} (hu:JC t) {a:Nat}:∀ (n:Nat) (b:Nat),b < n→b < t.nodes.length→AQ t a b=true→a < b:=by
 intro n
 induction n with
 | zero=>intro b h;omega
 | succ n ih =>
  intro b hbn hb h
  unfold AQ at h
  have hub:=hu b hb
  rw [Gi hu a (by omega)] at h
  by_cases c1:(t.at b).up < 0
  ·rw [if_pos c1] at h;cases h
  ·rw [if_neg c1] at h
   by_cases c2:(t.at b).up=a
   ·omega
   ·rw [if_neg c2] at h
    have:=ih (t.at b).up.toNat (by omega) (by omega) h
    omega
theorem G6 {t:A4} (ht:Aa t) {a b:Nat} (h:Ao t a b=true):a < b:=by
 simp only [Ao,Bool.and_eq_true,Int.toNat_natCast] at h
 obtain ⟨⟨h1,h2⟩,h3⟩:=h
 simp only [BT,Bool.and_eq_true,decide_eq_true_eq] at h1 h2
 by_cases c:(t.at a).thread < 0
 ·rw [if_pos c,decide_eq_true_eq] at h3
  have k1:=(ht.thr_iff (m:=a) (by omega)).1 c
  have k2:¬ b < t.locs.length:=fun k=>by have:=(ht.thr_iff (m:=b) (by omega)).2 k;omega
  omega
 ·rw [if_neg c] at h3
  exact AbH ht.up (b+1) b (by omega) (by omega) h3
theorem A3G {t:A4} (ht:Aa t) {v:Nat} (hv:v < t.nodes.length) (hu:0≤(t.at v).up):Ao t (t.at v).up v=true:=by
 have hlt:=ht.up v hv
 obtain ⟨u,hu'⟩:=Int.eq_ofNat_of_zero_le hu
 have hul:u < t.nodes.length:=by omega
 have hl:t.locs.length≤v:=by
  rcases Nat.lt_or_ge v t.locs.length with h1 | h1
  ·have:=(ht.init v h1).up;omega
  ·exact h1
 have hg:=ht.good v hl hv
 have hp:=hg.par hu
 rw [hu',Int.toNat_natCast] at hp
 have hth:=hg.thr
 rw [hu',Ao,Cl hul,Cl hv,Int.toNat_natCast,Int.toNat_natCast,if_neg (by omega)]
 simp only [Bool.true_and]
 unfold AQ
 rw [Gi ht.up u (by omega),if_neg (by omega),if_pos hu']
theorem S3 {s:Am} (h:s.has.length=s.jf.length) (n:Int):jfF s n=GQ s.has s.jf n:=by
 unfold jfF GQ
 have h1:=C3 s.has n
 cases c:B2 s.has n with
 | false =>
  rw [c] at h1
  have:=of_decide_eq_true h1
  simp [this]
 | true =>
  obtain ⟨k,e,hk,_,_⟩:=E5 c
  rw [e,if_neg (by omega)];simp
def plN (t:A4) (s:Am) (n:Int):Int:=BH s (t.at n.toNat).loc (if (t.at n.toNat).kind=2 then jfF s n else n)
def X6 (t:A4) (x f:List Int) (a b:Int):Bool:=Bx ((Lk t x f).getD a.toNat 0#64) b
def DY (t:A4) (s:Am) (a b:Int):Bool:=CK (t.at a.toNat) (t.at b.toNat) (plN t s a) (plN t s b)
def T7 (t:A4) (s:Am):Bool:=Ck t s && (Cd (Lk t s.has s.jf)).all fun x=>DY t s x.1 x.2
theorem Kx {t:A4} {s:Am} (h:Ck t s=true):BR t s.has s.jf=true:=by
 simp only [Ck,Bool.and_eq_true,decide_eq_true_eq] at h
 obtain ⟨⟨⟨⟨⟨h1,h2⟩,h3⟩,h4⟩,h5⟩,h6⟩:=h
 simp only [EJ,Bool.and_eq_true] at h1
 rw [BR,decide_eq_true h2.symm]
 simp only [Bool.true_and,Bool.and_eq_true,Ar]
 constructor
 ·intro i hi
  have:=Ar.1 h1.1 i hi
  simp only [Du,Bool.and_eq_true] at this
  rw [B8,this.1.1,this.1.2];rfl
 ·intro i hi
  have:=Ar.1 h4 i hi
  rw [M9] at this
  rw [Ds]
  split
  ·rename_i c
   rw [if_pos c] at this
   simp only [Bool.and_eq_true] at this ⊢
   exact ⟨this.1.1,this.1.2⟩
  ·rename_i c
   rw [if_neg c] at this
   exact this
theorem Ag9 {t:A4} {x f:List Int} (hF:CF t x f) {a b:Nat} (h:JX t x f a b=true):(a:Int)∈x∧(b:Int)∈x∨(∃ r,r∈x∧Ht t x f r=true∧Bx (AI t x f (GQ x f r)) (a:Int)=true∧Eh t x r b=true):=by
 simp only [JX,Bool.or_eq_true,Bool.and_eq_true,A7] at h
 rcases h with h | h
 ·exact .inl h.1
 ·rw [swB,List.any_eq_true] at h
  obtain ⟨r,hr,h⟩:=h
  simp only [Bool.and_eq_true] at h
  exact .inr ⟨r,hr,h.1.1,h.1.2,h.2⟩
theorem YM {t:A4} {x:List Int} {r:Int} (hr:r∈x) {b:Nat} (h:Eh t x r b=true):(b:Int)∈x∧((b:Int)=r∨(t.at b).kind=4∧Ao t r b=true):=by
 simp only [Eh,Bool.or_eq_true,Bool.and_eq_true,decide_eq_true_eq,A7] at h
 rcases h with h | h
 ·exact ⟨by rw [h.1];exact hr,.inl h.1⟩
 ·exact ⟨h.1.1.1,.inr ⟨h.1.1.2,h.2⟩⟩
theorem P5 {t:A4} (ht:Aa t) {x f:List Int} (hF:CF t x f) {w:Int} (hw:w∈x) {a:Nat} (h:Bx (AI t x f w) (a:Int)=true) :
  ∃ j,(∀ i,i≤j→Dx t x f i w∈x)∧(a:Int)∈x∧((a:Int)=Dx t x f j w∨(t.at a).kind=4∧Ao t a (Dx t x f j w)=true):=by
 rw [AH] at h
 obtain ⟨j,_,h2,h3⟩:=(Ej _ _ _ _ _ _).1 h
 have hin:∀ i,i≤j→Dx t x f i w∈x:=fun i hi=>by
  rcases Lm ht hF hw i (fun k hk=>h2 k (by omega)) with e | e
  ·have:=h2 i hi
   rw [e] at this;cases this
  ·exact e
 rw [Kd,AF,Bool.and_eq_true] at h3
 have h4:=h3.1
 simp only [A4k,Bool.or_eq_true,Bool.and_eq_true,decide_eq_true_eq,A7] at h4
 refine ⟨j,hin,?_⟩
 rcases h4 with h4 | h4
 ·exact ⟨by rw [h4.1];exact hin j (Nat.le_refl _),.inl h4.1⟩
 ·exact ⟨h4.1.1.1,.inr ⟨h4.1.1.2,h4.2⟩⟩
theorem LH {t:A4} (ht:Aa t) {x f:List Int} (hF:CF t x f) {a b:Nat} (h:KU (JX t x f) t.nodes.length a b):(a:Int)∈x∧(b:Int)∈x:=by
 have edge:∀ {a b:Nat},JX t x f a b=true→(a:Int)∈x∧(b:Int)∈x:=by
  intro a b h
  rcases Ag9 hF h with h | ⟨r,hr,hs,hh,he⟩
  ·exact h
  ·have hk:(t.at r.toNat).kind=2:=by simp only [Ht,Bool.and_eq_true,decide_eq_true_eq] at hs;exact hs.1
   obtain ⟨o1,_,_⟩:=hF.read r hr hk
   obtain ⟨_,_,h1,_⟩:=P5 ht hF o1 hh
   exact ⟨h1,(YM hr he).1⟩
 induction h with
 | one hb h=>exact edge h
 | more h1 hc h2 ih=>exact ⟨ih.1,(edge h2).2⟩
theorem Abe {t:A4} {s:Am} {q v:Nat} (h:DY t s q v=true) (hq:(t.at q).kind=2) (hv:(t.at v).kind=3) {loc:Int} (h1:(t.at q).loc=loc) (h2:(t.at v).loc=loc):BH s loc (jfF s q) < BH s loc v:=by
 simp only [DY,CK,plN,Int.toNat_natCast,hq,hv,h1,h2] at h
 simpa using h
theorem A4N {t:A4} (ht:Aa t) {s:Am} (hlen:s.has.length=s.jf.length) (hF:CF t s.has s.jf) (good:∀ a b:Nat,a≠b→KU (JX t s.has s.jf) t.nodes.length a b→DY t s a b=true) {w:Int} (hw:w∈s.has) (hk:(t.at w.toNat).kind=3) :
  ∀ j,(∀ i,i≤j→Dx t s.has s.jf i w∈s.has)→(t.at (Dx t s.has s.jf j w).toNat).kind=3∧(t.at (Dx t s.has s.jf j w).toNat).loc=(t.at w.toNat).loc∧BH s (t.at w.toNat).loc (Dx t s.has s.jf j w)≤BH s (t.at w.toNat).loc w:=by
 intro j
 induction j with
 | zero=>intro _;exact ⟨hk,rfl,Int.le_refl _⟩
 | succ j ih =>
  intro hin
  obtain ⟨k1,k2,k3⟩:=ih fun i hi=>hin i (by omega)
  have hv:=hin j (by omega)
  have hv':=hin (j+1) (Nat.le_refl _)
  rw [Dx] at hv'
  obtain ⟨v,hv1,hvn⟩:=A9 (hF.node _ hv)
  rw [Dx]
  rw [hv1] at hv hv' k1 k2 k3 ⊢
  rw [Int.toNat_natCast] at k1 k2
  by_cases c:(t.at v).rmw=true∧B2 s.has (t.at v).up=true
  ·have hah:SZ t s.has s.jf v=GQ s.has s.jf (t.at v).up:=by rw [SZ,Int.toNat_natCast,if_pos c]
   obtain ⟨hl,hloc⟩:=ht.rmwLoc hvn c.1
   obtain ⟨hup0,hupk⟩:=(ht.good v hl hvn).rmw c.1
   have hupx:=A7.1 c.2
   obtain ⟨o1,o2,o3⟩:=hF.read _ hupx hupk
   rw [hah]
   refine ⟨o2,by rw [o3,hloc,k2],?_⟩
   obtain ⟨u,hu1⟩:=Int.eq_ofNat_of_zero_le hup0
   have hlt:=ht.up v hvn
   have hb:=A3G ht hvn hup0
   rw [hu1] at hb hupx hloc hupk
   rw [Int.toNat_natCast] at hloc hupk
   have hp:KU (JX t s.has s.jf) t.nodes.length u v:=.one hvn (by rw [JX,A7.2 hupx,A7.2 hv,hb];rfl)
   have hok:=good u v (by omega) hp
   have hok:=Abe hok hupk k1 (hloc.trans k2) k2
   rw [hu1]
   rw [S3 hlen] at hok
   omega
  ·have hah:SZ t s.has s.jf v = -1:=by rw [SZ,Int.toNat_natCast,if_neg c]
   rw [hah] at hv'
   obtain ⟨m,e,_⟩:=A9 (hF.node _ hv')
   omega
theorem Aa7 {t:A4} (ht:Aa t) {s:Am} (hlen:s.has.length=s.jf.length) (hF:CF t s.has s.jf) (good:∀ a b:Nat,a≠b→KU (JX t s.has s.jf) t.nodes.length a b→DY t s a b=true) (w:Nat):¬ KU (JX t s.has s.jf) t.nodes.length w w:=by
 intro hww
 have key:∀ b,KU (JX t s.has s.jf) t.nodes.length w b→w < b∨∃ (h e:Nat) (r:Int),r∈s.has∧Ht t s.has s.jf r=true∧Bx (AI t s.has s.jf (GQ s.has s.jf r)) (h:Int)=true∧Eh t s.has r e=true∧(h=w∨KU (JX t s.has s.jf) t.nodes.length w h)∧(e=b∨KU (JX t s.has s.jf) t.nodes.length e b):=by
  intro b hb
  have split:∀ {a b:Nat},JX t s.has s.jf a b=true→Ao t a b=true∨∃ r,r∈s.has∧Ht t s.has s.jf r=true∧Bx (AI t s.has s.jf (GQ s.has s.jf r)) (a:Int)=true∧Eh t s.has r b=true:=by
   intro a b h
   simp only [JX,Bool.or_eq_true,Bool.and_eq_true,A7] at h
   rcases h with h | h
   ·exact .inl h.2
   ·rw [swB,List.any_eq_true] at h
    obtain ⟨r,hr,h⟩:=h
    simp only [Bool.and_eq_true] at h
    exact .inr ⟨r,hr,h.1.1,h.1.2,h.2⟩
  induction hb with
  | one hb h =>
   rename_i b
   rcases split h with h | ⟨r,h1,h2,h3,h4⟩
   ·exact .inl (G6 ht h)
   ·exact .inr ⟨w,b,r,h1,h2,h3,h4,.inl rfl,.inl rfl⟩
  | more hp hc h ih =>
   rename_i b c
   rcases ih with hlt | ⟨h',e,r,h1,h2,h3,h4,h5,h6⟩
   ·rcases split h with h | ⟨r,h1,h2,h3,h4⟩
    ·have:=G6 ht h
     exact .inl (by omega)
    ·exact .inr ⟨b,c,r,h1,h2,h3,h4,.inr hp,.inl rfl⟩
   ·refine .inr ⟨h',e,r,h1,h2,h3,h4,h5,.inr ?_⟩
    rcases h6 with rfl | h6
    ·exact .one hc h
    ·exact .more h6 hc h
 rcases key w hww with h | ⟨h,e,r,h1,h2,h3,h4,h5,h6⟩
 ·omega
 ·have heh:e=h∨KU (JX t s.has s.jf) t.nodes.length e h:=by
   rcases h6 with rfl | h6
   ·rcases h5 with rfl | h5
    ·exact .inl rfl
    ·exact .inr h5
   ·rcases h5 with rfl | h5
    ·exact .inr h6
    ·exact .inr (h6.trans h5)
  have hk:(t.at r.toNat).kind=2:=by simp only [Ht,Bool.and_eq_true,decide_eq_true_eq] at h2;exact h2.1
  obtain ⟨o1,o2,o3⟩:=hF.read r h1 hk
  obtain ⟨j,hin,hhx,hhead⟩:=P5 ht hF o1 h3
  obtain ⟨hex,hend⟩:=YM h1 h4
  obtain ⟨w1,w2,w3⟩:=A4N ht hlen hF good o1 o2 j hin
  obtain ⟨v,hv1,hvn⟩:=A9 (hF.node _ (hin j (Nat.le_refl _)))
  have hvx:=hin j (Nat.le_refl _)
  obtain ⟨q,hq1,hqn⟩:=A9 (hF.node _ h1)
  rw [hv1] at hvx hhead w1 w2 w3
  rw [hq1] at h1 hk hend o1 o2 o3 w2 w3
  rw [Int.toNat_natCast] at hk w1 w2 o3
  have hne:q≠v:=by intro e;rw [e] at hk;omega
  have hev:e=v∨KU (JX t s.has s.jf) t.nodes.length e v:=by
   have hhv:h=v∨KU (JX t s.has s.jf) t.nodes.length h v:=by
    rcases hhead with hh | hh
    ·exact .inl (by omega)
    ·exact .inr (.one hvn (by rw [JX,A7.2 hhx,A7.2 hvx,hh.2];rfl))
   rcases heh with rfl | h7
   ·exact hhv
   ·rcases hhv with rfl | h8
    ·exact .inr h7
    ·exact .inr (h7.trans h8)
  have hqv:KU (JX t s.has s.jf) t.nodes.length q v:=by
   rcases hend with he | he
   ·have:e=q:=by omega
    subst this
    rcases hev with rfl | h8
    ·exact absurd rfl hne
    ·exact h8
   ·obtain ⟨e',he1,hen⟩:=A9 (hF.node _ hex)
    have:e' = e:=by omega
    subst this
    have hqe:KU (JX t s.has s.jf) t.nodes.length q e':=.one hen (by rw [JX,A7.2 h1,A7.2 hex,he.2];rfl)
    rcases hev with rfl | h8
    ·exact hqe
    ·exact hqe.trans h8
  have hok:=good q v hne hqv
  rw [o3] at w2 w3
  have hok:=Abe hok hk w1 rfl w2
  rw [S3 hlen] at hok
  omega
def DL (t:A4) (k:Nat):List Int:=((List.range k).filter fun i=>decide ((t.at i).up < 0)).map fun (i:Nat)=>(i:Int)
def Bp (t:A4):Am:=⟨DL t t.nodes.length,List.replicate (DL t t.nodes.length).length (-1),(List.range t.locs.length).map fun (i:Nat)=>[[(i:Int)]]⟩
theorem A3f {t:A4} {k:Nat} (h:decide ((t.at k).up < 0)=true):DL t (k+1)=DL t k++[(k:Int)]:=by
 unfold DL
 rw [List.range_succ,List.filter_append,List.map_append]
 simp only [List.filter_cons,List.filter_nil,h,if_true,List.map_cons,List.map_nil]
theorem A3e {t:A4} {k:Nat} (h:decide ((t.at k).up < 0)=false):DL t (k+1)=DL t k:=by
 unfold DL
 rw [List.range_succ,List.filter_append,List.map_append]
 simp [h]
theorem Ni {t:A4} (k:Nat):(DL t k).length≤k:=by
 unfold DL
 rw [List.length_map]
 exact Nat.le_trans (List.length_filter_le _ _) (by simp)
def By (l:List Int) (n:Int):Nat:=(l.takeWhile fun x=>decide (x < n)).length
def Bn (l:List Int) (k:Nat) (x:Int):List Int:=l.take k++x::l.drop k
theorem DS (l:List Int) (n:Int):By l n≤l.length:=(List.takeWhile_sublist _).length_le
theorem Tt {l:List Int} {n:Int}:∀ {k:Nat},k < By l n→l.getD k 0 < n:=by
 induction l with
 | nil=>intro k h;simp [By] at h
 | cons x l ih =>
  intro k h
  unfold By at h
  rw [List.takeWhile_cons] at h
  by_cases c:x < n
  ·simp only [c,decide_true,if_true,List.length_cons] at h
   cases k with
   | zero=>simpa using c
   | succ k =>
    have:=ih (k:=k) (by unfold By;omega)
    simpa using this
  ·simp [c] at h
theorem A9j {l:List Int} {n:Int} (h:By l n < l.length):¬ l.getD (By l n) 0 < n:=by
 induction l with
 | nil=>simp at h
 | cons x l ih =>
  unfold By at h ⊢
  rw [List.takeWhile_cons] at h ⊢
  by_cases c:x < n
  ·simp only [c,decide_true,if_true,List.length_cons] at h ⊢
   have:=ih (by unfold By;omega)
   unfold By at this
   simpa using this
  ·simp [c]
theorem CV {l:List Int} {k:Nat} (h:k≤l.length) (x:Int):(Bn l k x).length=l.length+1:=by
 simp [Bn];omega
def Cv (t:A4) (s:Am) (n kind:Int):Bool:=Ck t s && BT t n && decide ((t.at n.toNat).kind=kind) && !B2 s.has n && B2 s.has (t.at n.toNat).up
def CA (s:Am) (n w:Int):Am:=⟨Bn s.has (By s.has n) n,Bn s.jf (By s.has n) w,s.mo⟩
structure Big (t:A4) (s:Am) (k:Nat):Prop where
 has:s.has.length≤64+k
 jf:s.jf.length≤64+k
 mo:s.mo.length=t.locs.length
 mi:∀ l∈s.mo,l≠[]∧l.length≤1+k
 mc:∀ l∈s.mo,∀ c∈l,c.length≤1+k
theorem Big.sz {t:A4} (ht:Aa t) {s:Am} {k:Nat} (h:Big t s k) (hk:k≤100):Wg s :=
 ⟨by have:=h.has;omega,by have:=h.jf;omega,by have:=h.mo;have:=ht.l4;omega,fun l hl=>by have:=(h.mi l hl).2;omega,fun l hl c hc=>by have:=h.mc l hl c hc;omega⟩
theorem Big.mono {t:A4} {s:Am} {k j:Nat} (h:Big t s k) (hk:k≤j):Big t s j :=
 ⟨by have:=h.has;omega,by have:=h.jf;omega,h.mo,fun l hl=>⟨(h.mi l hl).1,by have:=(h.mi l hl).2;omega⟩,fun l hl c hc=>by have:=h.mc l hl c hc;omega⟩
theorem A4A {t:A4} (ht:Aa t):Big t (Bp t) 0:=by
 have h:=Ni (t:=t) t.nodes.length
 have h64:=ht.n64
 refine ⟨by show (DL t t.nodes.length).length≤64;omega,by show (List.replicate _ _).length≤64;rw [List.length_replicate];omega,by simp [Bp],?_,?_⟩
 ·intro l hl
  simp only [Bp,List.mem_map] at hl
  obtain ⟨i,_,rfl⟩:=hl
  simp
 ·intro l hl c hc
  simp only [Bp,List.mem_map] at hl
  obtain ⟨i,_,rfl⟩:=hl
  simp at hc
  subst hc
  simp
theorem A79 {t:A4} {s:Am} {k:Nat} (h:Big t s k) (hj:s.jf.length=s.has.length) (n w:Int):Big t (CA s n w) (k+1):=by
 have h1:=DS s.has n
 refine ⟨?_,?_,h.mo,fun l hl=>⟨(h.mi l hl).1,by have:=(h.mi l hl).2;omega⟩,fun l hl c hc=>by have:=h.mc l hl c hc;omega⟩
 ·show (Bn s.has (By s.has n) n).length≤_
  rw [CV h1];have:=h.has;omega
 ·show (Bn s.jf (By s.has n) w).length≤_
  rw [CV (by omega)];have:=h.jf;omega
end Go.AM
