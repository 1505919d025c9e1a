/-
  Own work, part of the proof of the laws SeenLasts, SeenCalm, SeenConflict: plain models of what functions compute.
-/
import Derived.Test.YthhlhddnndlhkaaGreatDoorAmE
set_option maxRecDepth 4000
set_option linter.unusedVariables false
set_option linter.unusedSimpArgs false
set_option linter.unusedSectionVars false
set_option linter.unnecessarySimpa false
namespace Go.AM
open Go Go.Proofs
def Cj (xs:List Int):BitVec 64:=xs.foldl (fun s i=>s ||| CQ i) 0#64
def Gg (lo hi:Int):BitVec 64:=BS fun i=>decide (lo≤(i:Int)∧(i:Int) < hi)
def AX (s:BitVec 64):List Int:=(C1 s).map fun (i:Nat)=>(i:Int)
def D3 {α:Type} (p:α→Bool) (xs:List α):Int:=match xs.findIdx? p with
 | some i=>i
 | none=>-1
theorem DD {α:Type} {p:α→Bool} {xs:List α} {k:Nat} (hk:k < xs.length) (h1:p xs[k]=true) (h2:∀ (j:Nat) (hj:j < k),p xs[j]=false):D3 p xs=k:=by
 unfold D3
 rw [List.findIdx?_eq_some_iff_getElem.2 ⟨hk,h1,fun j hj=>by simp [h2 j hj]⟩]
theorem E4 {α:Type} {p:α→Bool} {xs:List α} (h:∀ x∈xs,p x=false):D3 p xs = -1:=by
 unfold D3
 rw [List.findIdx?_eq_none_iff.2 h]
theorem Lm {α:Type} (p:α→Bool) (xs:List α):decide (0≤D3 p xs)=xs.any p:=by
 unfold D3
 cases h:xs.findIdx? p with
 | none=>rw [List.findIdx?_eq_none_iff] at h;simp;exact h
 | some i =>
  obtain ⟨hi,h1,_⟩:=List.findIdx?_eq_some_iff_getElem.1 h
  simp
  exact ⟨_,List.getElem_mem hi,h1⟩
abbrev Rows:=List (BitVec 64)
def DJ (r:Rows):Bool:=decide (r.length≤64) && r.all fun x=>decide (x &&& ~~~(Gg 0 r.length)=0#64)
def DM (a:Rows) (s:BitVec 64):BitVec 64:=(C1 (s &&& Gg 0 a.length)).foldl (fun x i=>x ||| a.getD i 0#64) 0#64
def KE (a:Rows):Nat→BitVec 64→BitVec 64
 | 0,s=>s
 | n+1,s=>if s ||| DM a s=s then s else KE a n (s ||| DM a s)
theorem NL {s x:BitVec 64} (h:s ||| x≠s):s.toNat < (s ||| x).toNat:=by
 have h1:s.toNat≤(s ||| x).toNat:=by rw [BitVec.toNat_or];exact Nat.left_le_or
 rcases Nat.lt_or_ge s.toNat (s ||| x).toNat with h2 | h2
 ·exact h2
 ·exact absurd (BitVec.eq_of_toNat_eq (by omega)) h
theorem A2p (a:Rows):∀ (n:Nat) (s:BitVec 64),18446744073709551616 - s.toNat≤n→KE a (n+1) s=KE a n s:=by
 intro n
 induction n with
 | zero=>intro s h;have:=s.isLt;omega
 | succ n ih =>
  intro s h
  rw [KE]
  by_cases e:s ||| DM a s=s
  ·rw [if_pos e];rw [KE,if_pos e]
  ·rw [if_neg e]
   have:=NL e
   rw [ih _ (by omega),KE,if_neg e]
def J8 (a:Rows) (s:BitVec 64):BitVec 64:=KE a 18446744073709551616 s
theorem A0Y (a:Rows) (s:BitVec 64):J8 a s=if s ||| DM a s=s then s else J8 a (s ||| DM a s):=by
 have h0:J8 a s=KE a (18446744073709551615+1) s:=rfl
 rw [h0,KE]
 by_cases e:s ||| DM a s=s
 ·rw [if_pos e,if_pos e]
 ·rw [if_neg e,if_neg e]
  have:=NL e
  exact (A2p a 18446744073709551615 _ (by omega)).symm
def DP (a:Rows):Rows:=if DJ a then (List.range a.length).map (fun i=>J8 a (a.getD i 0#64)) else []
def Nv (a:Rows) (s:BitVec 64):Rows:=if DJ a then (List.range a.length).map (fun (i:Nat)=>if Bv s (i:Int) then a.getD i 0#64 &&& s else 0#64) else []
theorem AcA {a:Rows} {i:Nat} (h:i < a.length):a.getD i 0#64=a[i]:=by
 simp only [List.getD_eq_getElem?_getD,List.getElem?_eq_getElem h,Option.getD_some]
theorem JP {a:Rows} (h:DJ a=true):a.length≤64:=by simp only [DJ,Bool.and_eq_true,decide_eq_true_eq] at h;exact h.1
def CS (a:Rows):List (Int×Int):=if DJ a then (List.range a.length).flatMap (fun i=>(AX (a.getD i 0#64)).map fun j=>((i:Int),j)) else []
theorem DF (s:BitVec 64):(AX s).length≤64:=by
 simp only [AX,List.length_map]
 unfold C1
 exact Nat.le_trans (List.length_filter_le _ _) (by simp)
theorem Uj (a:Rows):∀ k,((List.range k).flatMap (fun i=>(AX (a.getD i 0#64)).map fun j=>((i:Int),j))).length≤64 * k:=by
 intro k
 induction k with
 | zero=>simp
 | succ k ih =>
  rw [List.range_succ,List.flatMap_append,List.length_append]
  have:=DF (a.getD k 0#64)
  simp only [List.flatMap_cons,List.flatMap_nil,List.append_nil,List.length_map]
  omega
def Sub (s t:BitVec 64):Prop:=∀ j,s.getLsbD j=true→t.getLsbD j=true
def A3F (a:Rows) (t:BitVec 64):Prop:=∀ y,y < a.length→t.getLsbD y=true→Sub (a.getD y 0#64) t
structure QS (a:Rows) (s t:BitVec 64):Prop where
 sub:Sub s t
 closed:A3F a t
 least:∀ u,Sub s u→A3F a u→Sub t u
theorem Sub.anti {s t:BitVec 64} (h:Sub s t) (k:Sub t s):s=t:=by
 apply Bp
 intro j _
 cases hs:s.getLsbD j with
 | true=>exact (h j hs).symm
 | false =>
  cases ht:t.getLsbD j with
  | false=>rfl
  | true=>rw [k j ht] at hs;cases hs
theorem QS.uniq {a:Rows} {s t u:BitVec 64} (h:QS a s t) (k:QS a s u):t=u:=Sub.anti (h.least u k.sub k.closed) (k.least t h.sub h.closed)
theorem Vi {α:Type} (f:α→BitVec 64) (j:Nat):∀ (l:List α) (x:BitVec 64),(l.foldl (fun x i=>x ||| f i) x).getLsbD j=(x.getLsbD j || l.any fun i=>(f i).getLsbD j)
 | [],x=>by simp
 | i::l,x=>by rw [List.foldl_cons,Vi f j l,BitVec.getLsbD_or,List.any_cons,Bool.or_assoc]
theorem Je {a:Rows} (hl:a.length≤64) (s:BitVec 64) (j:Nat):(DM a s).getLsbD j=true↔∃ i,i < a.length∧s.getLsbD i=true∧(a.getD i 0#64).getLsbD j=true:=by
 unfold DM
 rw [Vi]
 simp only [BitVec.getLsbD_zero,Bool.false_or,List.any_eq_true,LC,BitVec.getLsbD_and,Bool.and_eq_true,Gg,At,decide_eq_true_eq]
 constructor
 ·rintro ⟨i,⟨h1,h2,h3⟩,h4⟩
  exact ⟨i,by omega,h1,h4⟩
 ·rintro ⟨i,h1,h2,h3⟩
  exact ⟨i,⟨h2,by omega,by omega⟩,h3⟩
theorem A6P {a:Rows} (hl:a.length≤64):∀ (n:Nat) (s:BitVec 64),18446744073709551616 - s.toNat≤n→QS a s (KE a n s):=by
 intro n
 induction n with
 | zero=>intro s h;have:=s.isLt;omega
 | succ n ih =>
  intro s h
  rw [KE]
  by_cases e:s ||| DM a s=s
  ·rw [if_pos e]
   refine ⟨fun j h=>h,fun y hy hs j hj=>?_,fun u hu _=>hu⟩
   have:(DM a s).getLsbD j=true:=(Je hl s j).2 ⟨y,hy,hs,hj⟩
   rw [← e,BitVec.getLsbD_or,this,Bool.or_true]
  ·rw [if_neg e]
   have hg:=NL e
   obtain ⟨h1,h2,h3⟩:=ih (s ||| DM a s) (by omega)
   refine ⟨fun j hj=>h1 j (by rw [BitVec.getLsbD_or,hj,Bool.true_or]),h2,fun u hu hc=>h3 u (fun j hj=>?_) hc⟩
   rw [BitVec.getLsbD_or,Bool.or_eq_true] at hj
   rcases hj with hj | hj
   ·exact hu j hj
   ·obtain ⟨i,hi,hs,hij⟩:=(Je hl s j).1 hj
    exact hc i hi (hu i hs) j hij
theorem A0X {a:Rows} (hl:a.length≤64) (s:BitVec 64):QS a s (J8 a s):=A6P hl _ s (by omega)
theorem Ahu (s t:BitVec 64):(s ||| t=t)↔Sub s t:=by
 constructor
 ·intro h j hj
  rw [← h,BitVec.getLsbD_or,hj,Bool.true_or]
 ·intro h
  apply Bp
  intro j _
  rw [BitVec.getLsbD_or]
  cases hs:s.getLsbD j with
  | true=>rw [h j hs];rfl
  | false=>simp
def orF (a b:Rows):Rows:=if DJ a && DJ b && decide (a.length=b.length) then (List.range a.length).map (fun i=>a.getD i 0#64 ||| b.getD i 0#64) else []
def D6 {α:Type} (n k:Nat) (f:Nat→α) (z:α):List α:=(List.range n).map fun j=>if j < k then f j else z
theorem SS {α:Type} {n k:Nat} {f:Nat→α} {z:α}:(D6 n k f z).length=n:=by simp [D6]
theorem Jq {α:Type} {n k:Nat} {f:Nat→α} {z:α} (h:k < n):(D6 n k f z)[k]? = some z:=by
 unfold D6
 rw [List.getElem?_map,List.getElem?_range h]
 simp
theorem P4 {α β:Type} {n k:Nat} {f:Nat→α} {z:α} (g:α→β):((D6 n k f z).map g).set k (g (f k))=(D6 n (k+1) f z).map g:=by
 apply List.ext_getElem
 ·simp [D6]
 ·intro j h1 h2
  simp only [D6,List.getElem_set,List.getElem_map,List.getElem_range]
  by_cases e:k=j
  ·subst e;simp
  ·have:(j < k+1)↔(j < k):=by omega
   simp [e,this]
theorem EM {α:Type} {n:Nat} {f:Nat→α} {z:α}:D6 n 0 f z=List.replicate n z:=by
 apply List.ext_getElem
 ·simp [D6]
 ·intro j h1 h2;simp [D6]
theorem Hd {α:Type} {n:Nat} {f:Nat→α} {z:α}:D6 n n f z=(List.range n).map f:=by
 apply List.map_congr_left
 intro j hj
 rw [if_pos (List.mem_range.1 hj)]
def AK.zero:AK:=⟨0,0,0,0,0,0,false,false,[]⟩
def A2.at (t:A2) (i:Nat):AK:=t.nodes.getD i AK.zero
def Kt (t:A2):Prop:=∀ i,i < t.nodes.length→(t.at i).up < i
def LP (t:A2) (a:Int):Nat→Int→Bool
 | 0,_=>false
 | n+1,x=>if x < 0 then false else if x=a then true else LP t a n (t.at x.toNat).up
theorem TL {t:A2} (h:Kt t) (a:Int):∀ (n:Nat) (x:Int),x < n→x < t.nodes.length→LP t a (n+1) x=LP t a n x:=by
 intro n
 induction n with
 | zero =>
  intro x hx _
  show (if x < 0 then false else if x=a then true else LP t a 0 (t.at x.toNat).up)=false
  rw [if_pos (by omega)]
 | succ n ih =>
  intro x hx hl
  rw [LP]
  by_cases h0:x < 0
  ·rw [if_pos h0,LP,if_pos h0]
  ·rw [if_neg h0]
   conv=>rhs;rw [LP,if_neg h0]
   by_cases h1:x=a
   ·rw [if_pos h1,if_pos h1]
   ·rw [if_neg h1,if_neg h1]
    have:=h x.toNat (by omega)
    exact ih _ (by omega) (by omega)
def AA (t:A2) (a:Int) (b:Nat):Bool:=LP t a t.nodes.length (t.at b).up
theorem Ajh {t:A2} {i:Nat} (h:i < t.nodes.length):t.at i=t.nodes[i]:=by
 simp only [A2.at,List.getD_eq_getElem?_getD,List.getElem?_eq_getElem h,Option.getD_some]
theorem A6 {t:A2} {i:Nat} (h:i < t.nodes.length):t.nodes[i]? = some (t.at i):=by rw [Ajh h,List.getElem?_eq_getElem h]
def BI (t:A2) (n:Int):Bool:=decide (0≤n) && decide (n < t.nodes.length)
theorem Aa {t:A2} {n:Int} (h:BI t n=true):∃ m:Nat,n=(m:Int)∧m < t.nodes.length:=by
 simp only [BI,Bool.and_eq_true,decide_eq_true_eq] at h
 obtain ⟨m,rfl⟩:=Int.eq_ofNat_of_zero_le h.1
 exact ⟨m,rfl,by omega⟩
theorem BN {t:A2} {m:Nat} (h:m < t.nodes.length):BI t (m:Int)=true:=by
 simp only [BI,Bool.and_eq_true,decide_eq_true_eq]
 omega
def AE (t:A2) (a b:Int):Bool:=BI t a && BI t b && (if (t.at a.toNat).thread < 0 then decide (0≤(t.at b.toNat).thread) else AA t a b.toNat)
def AN (t:A2) (a b:Int):Bool:=BI t a && BI t b && !decide (a=b) && decide (0≤(t.at a.toNat).thread) && decide ((t.at a.toNat).thread=(t.at b.toNat).thread) && !AA t a b.toNat && !AA t b a.toNat
def D0 (n:AK):Bool:=decide (0≤n.thread) && decide (n.kind=3) && decide (n.mode=0) && !n.rmw
def Nd (n:AK):Bool:=(decide (n.kind=2) || decide (n.kind=4)) && (decide (n.mode=1) || decide (n.mode=3) || decide (n.mode=4))
def NQ (n:AK):Bool:=(decide (n.kind=3) && decide (0≤n.thread) || decide (n.kind=4)) && (decide (n.mode=2) || decide (n.mode=3) || decide (n.mode=4))
theorem BG {n:Nat} {p:Nat→Bool} (h:∀ j,j < n→p j=true):(List.range n).all p=true:=by
 rw [List.all_eq_true]
 intro j hj
 exact h j (List.mem_range.1 hj)
theorem BF {n k:Nat} {p:Nat→Bool} (hk:k < n) (h:p k=false):(List.range n).all p=false:=by
 rw [List.all_eq_false]
 exact ⟨k,List.mem_range.2 hk,by simp [h]⟩
theorem Ah {n:Nat} {p:Nat→Bool}:(List.range n).all p=true↔∀ j,j < n→p j=true:=by
 rw [List.all_eq_true]
 exact ⟨fun h j hj=>h j (List.mem_range.2 hj),fun h j hj=>h j (List.mem_range.1 hj)⟩
theorem YD {n k:Nat} {p:Nat→Bool} (hk:k < n) (h:p k=true):(List.range n).any p=true:=by
 rw [List.any_eq_true]
 exact ⟨k,List.mem_range.2 hk,h⟩
theorem Az {xs:List Int} {k:Nat} (h:k < xs.length):xs[k]? = some (xs.getD k 0):=by
 rw [List.getD_eq_getElem?_getD,List.getElem?_eq_getElem h];rfl
theorem Hu {xs:List (List Int)} {k:Nat} (h:k < xs.length):xs[k]? = some (xs.getD k []):=by
 rw [List.getD_eq_getElem?_getD,List.getElem?_eq_getElem h];rfl
theorem Cv {xs:List (List (List Int))} {k:Nat} (h:k < xs.length):xs[k]? = some (xs.getD k []):=by
 rw [List.getD_eq_getElem?_getD,List.getElem?_eq_getElem h];rfl
theorem Ap {α:Type} {xs:List α} {k:Nat} {d:α} (h:k < xs.length):xs.getD k d∈xs:=by
 rw [List.getD_eq_getElem?_getD,List.getElem?_eq_getElem h]
 exact List.getElem_mem h
def B2 (l:List Int) (n:Int):Bool:=l.any fun y=>decide (n=y)
theorem A9 {l:List Int} {n:Int}:B2 l n=true↔n∈l:=by
 unfold B2
 rw [List.any_eq_true]
 constructor
 ·rintro ⟨x,hx,e⟩;rw [of_decide_eq_true e];exact hx
 ·intro h;exact ⟨n,h,by simp⟩
def K3 (l:List Int) (n:Int):Int:=D3 (fun y=>decide (n=y)) l
theorem GD (l:List Int) (n:Int):decide (0≤K3 l n)=B2 l n:=Lm _ _
theorem CE (l:List Int) (n:Int):decide (K3 l n < 0) = !B2 l n:=by
 rw [← GD]
 by_cases h:0≤K3 l n
 ·have:¬ K3 l n < 0:=by omega
  simp [h,this]
 ·have:K3 l n < 0:=by omega
  simp [h,this]
theorem Jc {α:Type} {p:α→Bool} {l:List α} (h:l.any p=true):∃ k:Nat,D3 p l=k∧∃ hk:k < l.length,p l[k]=true∧∀ (j:Nat) (hj:j < k),p (l[j]'(by omega))=false:=by
 unfold D3
 cases e:l.findIdx? p with
 | none =>
  rw [List.findIdx?_eq_none_iff] at e
  rw [List.any_eq_true] at h
  obtain ⟨x,hx,hp⟩:=h
  rw [e x hx] at hp;cases hp
 | some i =>
  obtain ⟨hi,h1,h2⟩:=List.findIdx?_eq_some_iff_getElem.1 e
  exact ⟨i,rfl,hi,h1,fun j hj=>by simpa using h2 j hj⟩
theorem Rc {α:Type} {p:α→Bool} {l:List α} (h:l.any p=false):D3 p l = -1:=by
 apply E4
 intro x hx
 rw [List.any_eq_false] at h
 simpa using h x hx
theorem Hh {l:List Int} {n:Int} (h:B2 l n=true):∃ k:Nat,K3 l n=k∧k < l.length∧l.getD k 0=n∧∀ j,j < k→l.getD j 0≠n:=by
 obtain ⟨k,e,hk,h1,h2⟩:=Jc h
 refine ⟨k,e,hk,?_,fun j hj=>?_⟩
 ·rw [List.getD_eq_getElem?_getD,List.getElem?_eq_getElem hk]
  exact (of_decide_eq_true h1).symm
 ·have:=h2 j hj
  rw [List.getD_eq_getElem?_getD,List.getElem?_eq_getElem (by omega)]
  intro e;rw [Option.getD_some] at e;rw [e] at this;simp at this
theorem Aby {l:List Int} {n:Int} (h:B2 l n=false):K3 l n = -1:=Rc h
def D1 (l:List Int) (k:Nat):Bool:=decide (k=0) || decide (l.getD (k - 1) 0 < l.getD k 0)
def Gc (t:A2):BitVec 64:=BS fun i=>decide (i < t.nodes.length) && decide ((t.at i).up < 0)
def C9 (t:A2) (l:List Int) (k:Nat):Bool:=BI t (l.getD k 0) && D1 l k && (decide ((t.at (l.getD k 0).toNat).up < 0) || B2 l (t.at (l.getD k 0).toNat).up)
def Cc (t:A2) (l:List Int):Bool:=(List.range l.length).all (C9 t l) && decide (Gc t ||| Cj l=Cj l)
def AU (t:A2) (x y:Int):Bool:=D0 (t.at x.toNat) && D0 (t.at y.toNat) && decide ((t.at x.toNat).val=(t.at y.toNat).val) && AN t x y
def HM (t:A2) (n loc:Int):Bool:=decide ((t.at n.toNat).kind=3) && decide ((t.at n.toNat).loc=loc)
def Bg (t:A2) (l has:List Int) (loc:Int) (i:Nat):Bool:=B2 has (l.getD i 0) && D1 l i && HM t (l.getD i 0) loc && decide (0≤(t.at (l.getD i 0).toNat).thread) && (List.range i).all fun k=>AU t (l.getD i 0) (l.getD k 0)
def Cb (t:A2) (l has:List Int) (loc:Int):Bool:=!decide (l.length=0) && (List.range l.length).all (Bg t l has loc)
def GU (t:A2) (s:A5) (i:Nat):Bool :=
 if (t.at (s.has.getD i 0).toNat).kind=2 then B2 s.has (s.jf.getD i 0) && HM t (s.jf.getD i 0) (t.at (s.has.getD i 0).toNat).loc && decide ((t.at (s.jf.getD i 0).toNat).val=(t.at (s.has.getD i 0).toNat).val) else decide (s.jf.getD i 0 = -1)
def DH (t:A2) (s:A5) (loc:Nat):Bool :=
 let m:=s.mo.getD loc []
 !decide (m.length=0) && decide (m.getD 0 []=[(loc:Int)]) && (List.range m.length).all fun i=>decide (i=0) || Cb t (m.getD i []) s.has loc
def L0 (t:A2) (s:A5) (i:Nat):Bool :=
 !decide ((t.at (s.has.getD i 0).toNat).kind=3) || decide (((s.mo.getD (t.at (s.has.getD i 0).toNat).loc.toNat []).filter fun c=>B2 c (s.has.getD i 0)).length=1)
def BH (t:A2) (s:A5):Bool:=Cc t s.has && decide (s.jf.length=s.has.length) && decide (s.mo.length=t.locs.length) && (List.range s.has.length).all (GU t s) && (List.range s.mo.length).all (DH t s) && (List.range s.has.length).all (L0 t s)
structure Hq (s:A5):Prop where
 has:s.has.length≤1000
 jf:s.jf.length≤1000
 mo:s.mo.length≤1000
 mi:∀ l∈s.mo,l.length≤1000
 mc:∀ l∈s.mo,∀ c∈l,c.length≤1000
theorem Hq.mi' {s:A5} (h:Hq s) (k:Nat):(s.mo.getD k []).length≤1000:=by
 by_cases hk:k < s.mo.length
 ·exact h.mi _ (Ap hk)
 ·rw [List.getD_eq_getElem?_getD,List.getElem?_eq_none (by omega)];simp
theorem Hq.mc' {s:A5} (h:Hq s) (k j:Nat):((s.mo.getD k []).getD j []).length≤1000:=by
 by_cases hk:k < s.mo.length
 ·by_cases hj:j < (s.mo.getD k []).length
  ·exact h.mc _ (Ap hk) _ (Ap hj)
  ·rw [List.getD_eq_getElem?_getD,List.getElem?_eq_none (by omega)];simp
 ·rw [List.getD_eq_getElem?_getD,List.getElem?_eq_none (by rw [List.getD_eq_getElem?_getD,List.getElem?_eq_none (by omega)];simp)];simp
def SY (s:A5) (n:Int):Int:=if K3 s.has n < 0∨(s.jf.length:Int)≤K3 s.has n then -1 else s.jf.getD (K3 s.has n).toNat 0
def Bd (s:A5) (loc w:Int):Int:=if loc < 0∨(s.mo.length:Int)≤loc then -1 else D3 (fun c=>B2 c w) (s.mo.getD loc.toNat [])
def Se (a b:AK) (pa pb:Int):Bool :=
 (!(decide (a.kind=2) || decide (a.kind=3)) || !(decide (b.kind=2) || decide (b.kind=3)) || !decide (a.loc=b.loc)) || (if b.kind=2 then decide (pa≤pb) else decide (pa < pb))
def BY (t:A2) (a u:Nat):Bool:=decide (a < t.nodes.length) && decide ((t.at a).up=u) && decide ((t.at a).thread=(t.at u).thread)
def Gm (t:A2) (v:Int):Bool:=decide (0≤v) && decide (v < t.vals)
def KI (t:A2) (v:Int):Bool:=decide (0≤v) && decide (v < t.locs.length)
def A3X (t:A2) (u:Nat):Bool:=(t.at u).fin && decide ((t.at u).regs.length=(t.regs.getD (t.at u).thread.toNat []).length) && (t.at u).regs.all (Gm t)
def DA (t:A2) (u:Nat):Bool :=
 let n:=t.at (u+1);let m:=t.at u
 (decide (n.kind=4) && decide (n.loc=0) && decide (n.val=0) && !n.rmw && decide (1≤n.mode) && decide (n.mode≤4)) ||
 (decide (n.kind=3) && KI t n.loc && Gm t n.val &&
  (if n.rmw then decide (0≤n.mode) && decide (n.mode≤4) && decide (m.kind=2) && decide (m.loc=n.loc) && decide (m.mode=n.mode) else decide (n.mode=0) || decide (n.mode=2) || decide (n.mode=4)))
def G3 (t:A2) (u:Nat):Bool:=decide (u+1 < t.nodes.length) && decide ((t.at (u+1)).up=u) && (t.at (u+1)).rmw
def EK (t:A2) (a v:Nat) (loc mode:Int):Bool:=decide ((t.at a).kind=2) && decide ((t.at a).val=v) && decide ((t.at a).loc=loc) && decide ((t.at a).mode=mode) && !(t.at a).rmw
def AfU (t:A2) (u:Nat):Prop:=u < t.nodes.length∧0≤(t.at u).thread∧(t.at u).thread < t.regs.length
def J5 (t:A2):Nat→Nat→Nat→Prop
 | 0,_,_=>False
 | n+1,u,e=>AfU t u∧(
  (BY t (u+1) u=false∧A3X t u=true∧e=u+1) ∨
  (BY t (u+1) u=true∧(t.at u).fin=false∧(t.at u).regs=[]∧DA t u=true∧J5 t n (u+1) e) ∨
  (BY t (u+1) u=true∧(t.at u).fin=false∧(t.at u).regs=[]∧∃ (vals:Nat) (k:Nat→Nat) (loc mode:Int),t.vals=vals∧0 < vals∧k 0=u+1∧k vals=e∧KI t loc=true ∧
   (∀ v,v < vals→BY t (k v) u=true∧EK t (k v) v loc mode=true∧J5 t n (k v) (k (v+1))) ∧
   ((mode=0∨mode=1∨mode=4)∨(0≤mode∧mode≤4∧∃ v,v < vals∧G3 t (k v)=true))))
def JH (t:A2) (i:Nat):Bool:=decide ((t.at i).thread = -1) && decide ((t.at i).up = -1) && decide ((t.at i).kind=3) && decide ((t.at i).loc=i) && decide ((t.at i).mode=0) && Gm t (t.at i).val && !(t.at i).rmw && !(t.at i).fin && decide ((t.at i).regs=[])
def ET (t:A2) (u i:Nat):Bool:=decide ((t.at u).thread=i) && decide ((t.at u).up = -1) && decide ((t.at u).kind=1) && decide ((t.at u).loc=0) && decide ((t.at u).mode=0) && decide ((t.at u).val=0) && !(t.at u).rmw
structure A8 (t:A2):Prop where
 v2:2≤t.vals
 v4:t.vals≤4
 l4:t.locs.length≤4
 ln:t.locs.Nodup
 n64:t.nodes.length≤64
 r1:1≤t.regs.length
 r4:t.regs.length≤4
 rl:∀ l∈t.regs,l.length≤4∧l.Nodup
 first:t.locs.length≤t.nodes.length∧∀ i,i < t.locs.length→JH t i=true
 thr:∃ s:Nat→Nat,s 0=t.locs.length∧s t.regs.length=t.nodes.length∧∀ i,i < t.regs.length→ET t (s i) i=true∧∃ n,J5 t n (s i) (s (i+1))
theorem Aec {v n:Int} (hn:0 < n):(v.tmod n < 0→v.tmod n+n=v % n∧-n < v.tmod n)∧(¬ v.tmod n < 0→v.tmod n=v % n):=by
 have h1:v.tmod n < n:=Int.tmod_lt_of_pos v hn
 have h2 : -n < v.tmod n:=Int.lt_tmod_of_pos v hn
 have h3:v.tmod n+n * v.tdiv n=v:=Int.tmod_add_mul_tdiv v n
 have h4:v % n=v.tmod n % n:=by
  conv=>lhs;rw [← h3]
  exact Int.add_mul_emod_self_left ..
 constructor
 ·intro h
  refine ⟨?_,h2⟩
  rw [h4,← Int.add_emod_right,Int.emod_eq_of_lt (by omega) (by omega)]
 ·intro h
  rw [h4,Int.emod_eq_of_lt (by omega) (by omega)]
inductive GE:List VV→Prop
 | mk (op n:Int) (nm:ByteArray) (kids:List (List VV)):kids.length≤1000→(∀ k∈kids,GE k)→GE [.i .i64 op,.i .i64 n,.s nm,.ls kids]
theorem GE.len {r:List VV} (h:GE r):r.length=4:=by cases h;rfl
theorem GE.frz {r:List VV} (h:GE r) {hh:VH} {d:Nat}:B4 (frz hh (d+1)) r=some (r,[]):=by cases h;rfl
theorem GE.take {r:List VV} (h:GE r):r.take 4=r:=by cases h;rfl
theorem GE.cell {r:List VV} (h:GE r):r.all VV.cell=true:=by cases h;rfl
theorem T8 {l:List (List VV)} {k:Nat} (h:k < l.length):l[k]? = some l[k]:=List.getElem?_eq_getElem h
def N4:List ByteArray:=[⟨⟨[97]⟩⟩,⟨⟨[98]⟩⟩,⟨⟨[99]⟩⟩,⟨⟨[100]⟩⟩]
def H9 (k:Int):Bool:=decide (k=1) || decide (k=2) || decide (k=4) || decide (k=5)
structure OKS (locs:List ByteArray) (kind mode:Int) (reg loc:ByteArray) (args:Nat):Prop where
 k:1≤kind∧kind≤7
 rn:H9 kind=true→reg∈N4
 one:kind=1∨kind=3∨kind=4∨kind=5∨kind=7→1≤args
 two:kind=5→2≤args
 loc:kind=2∨kind=3∨kind=4∨kind=5→loc∈locs
 ml:kind=2→mode=0∨mode=1∨mode=4
 ms:kind=3→mode=0∨mode=2∨mode=4
 ma:kind=4∨kind=5→0≤mode∧mode≤4
 mf:kind=6→1≤mode∧mode≤4
 rs:reg.size≤1000
abbrev rS (kind mode:Int) (reg loc:ByteArray) (args th el:List (List VV)):List VV:=[.i .i64 kind,.i .i64 mode,.s reg,.s loc,.ls args,.ls th,.ls el]
inductive GS (locs:List ByteArray):List VV→Prop
 | mk (kind mode:Int) (reg loc:ByteArray) (args th el:List (List VV)):args.length≤1000→(∀ a∈args,GE a)→th.length≤1000→el.length≤1000 →
  (∀ s∈th,GS locs s)→(∀ s∈el,GS locs s)→OKS locs kind mode reg loc args.length→GS locs (rS kind mode reg loc args th el)
inductive RI (names:List ByteArray):List VV→Prop
 | mk (kind mode:Int) (reg loc:ByteArray) (args th el:List (List VV)):(H9 kind=true→reg∈names)→(∀ s∈th,RI names s)→(∀ s∈el,RI names s)→RI names (rS kind mode reg loc args th el)
theorem RI.mono {n m:List ByteArray} (h:∀ x∈n,x∈m) {r:List VV} (k:RI n r):RI m r:=by
 induction k with
 | mk kind mode reg loc args th el h1 h2 h3 ih1 ih2=>exact .mk _ _ _ _ _ _ _ (fun e=>h _ (h1 e)) ih1 ih2
theorem GS.len {l:List ByteArray} {r:List VV} (h:GS l r):r.length=7:=by cases h;rfl
theorem GS.frz {l:List ByteArray} {r:List VV} (h:GS l r) {hh:VH} {d:Nat}:B4 (frz hh (d+1)) r=some (r,[]):=by cases h;rfl
theorem GS.take {l:List ByteArray} {r:List VV} (h:GS l r):r.take 7=r:=by cases h;rfl
theorem GS.cell {l:List ByteArray} {r:List VV} (h:GS l r):r.all VV.cell=true:=by cases h;rfl
theorem A74 {c:List ByteArray} {l:List (List VV)} (h:∀ k∈l,GS c k):Dr 7 l=true:=by
 unfold Dr
 rw [List.all_eq_true]
 intro r hr
 rw [(h r hr).len];rfl
theorem DQ {t t':A2} {l:List AK} (h:t'.nodes=t.nodes++l) {i:Nat} (hi:i < t.nodes.length):t'.at i=t.at i:=by
 unfold A2.at
 rw [h,List.getD_eq_getElem?_getD,List.getD_eq_getElem?_getD,List.getElem?_append_left hi]
theorem A81 {t t':A2} {l:List AK} (h:t'.nodes=t.nodes++l) {i:Nat} (hi:t.nodes.length≤i) (h2:i < t'.nodes.length):t'.at i∈l:=by
 have hl:t'.nodes.length=t.nodes.length+l.length:=by rw [h,List.length_append]
 unfold A2.at
 rw [h,List.getD_eq_getElem?_getD,List.getElem?_append_right hi,List.getElem?_eq_getElem (by omega)]
 exact List.getElem_mem _
structure Yr (t t':A2) (l:List AK):Prop where
 n:t'.nodes=t.nodes++l
 v:t'.vals=t.vals
 l:t'.locs=t.locs
 r:t'.regs=t.regs
theorem Yr.len {t t':A2} {l:List AK} (h:Yr t t' l):t.nodes.length≤t'.nodes.length:=by rw [h.n,List.length_append];omega
theorem A0Z {t t':A2} {l:List AK} (h:Yr t t' l) {u a:Nat} (hu:u < t.nodes.length) (hx:∀ x∈l,x.up≠(u:Int)):BY t' a u=BY t a u:=by
 unfold BY
 by_cases ha:a < t.nodes.length
 ·have:=h.len
  have ha':a < t'.nodes.length:=by omega
  rw [DQ h.n ha,DQ h.n hu,decide_eq_true ha,decide_eq_true ha']
 ·rw [decide_eq_false ha]
  by_cases ha':a < t'.nodes.length
  ·have:=hx _ (A81 h.n (by omega) ha')
   rw [decide_eq_false this];simp
  ·rw [decide_eq_false ha'];simp
theorem A0o {t t':A2} {l:List AK} (h:Yr t t' l) {u:Nat} (hu:u < t.nodes.length) (hx:∀ x∈l,x.up≠(u:Int)):G3 t' u=G3 t u:=by
 unfold G3
 by_cases ha:u+1 < t.nodes.length
 ·have:=h.len
  have ha':u+1 < t'.nodes.length:=by omega
  rw [DQ h.n ha,decide_eq_true ha,decide_eq_true ha']
 ·rw [decide_eq_false ha]
  by_cases ha':u+1 < t'.nodes.length
  ·have:=hx _ (A81 h.n (by omega) ha')
   rw [decide_eq_false this];simp
  ·rw [decide_eq_false ha'];simp
theorem J5.lt {t:A2}:∀ {n u e:Nat},J5 t n u e→u < e:=by
 intro n
 induction n with
 | zero=>intro u e h;exact h.elim
 | succ n ih =>
  intro u e h
  rcases h.2 with ⟨_,_,rfl⟩ | ⟨_,_,_,_,b⟩ | ⟨_,_,_,vals,k,loc,mode,_,h0,hk0,hke,_,hs,_⟩
  ·omega
  ·have:=ih b;omega
  ·have key:∀ j,j≤vals→u+1≤k j:=by
    intro j
    induction j with
    | zero=>intro _;omega
    | succ j ihj =>
     intro hj
     have h1:=ihj (by omega)
     have h2:=ih (hs j (by omega)).2.2
     omega
   have:=key vals (Nat.le_refl _)
   omega
theorem Kz {t:A2} {a u:Nat} (h:BY t a u=true):a < t.nodes.length:=by
 unfold BY at h
 simp only [Bool.and_eq_true,decide_eq_true_eq] at h
 exact h.1.1
theorem A6U {t:A2} {n:Nat} {k:Nat→Nat} {vals:Nat} (hs:∀ v,v < vals→J5 t n (k v) (k (v+1))):∀ i j,i≤j→j≤vals→k i≤k j:=by
  intro i j hij hj
  induction j with
  | zero => have : i = 0 := by omega
            subst this;exact Nat.le_refl _
  | succ j ih =>
    by_cases e:i=j+1
    · subst e;exact Nat.le_refl _
    · have h1 := ih (by omega) (by omega)
      have h2:=(hs j (by omega)).lt
      omega
theorem J5.le {t:A2}:∀ {n u e:Nat},J5 t n u e→e≤t.nodes.length:=by
 intro n
 induction n with
 | zero=>intro u e h;exact h.elim
 | succ n ih =>
  intro u e h
  rcases h.2 with ⟨_,_,rfl⟩ | ⟨_,_,_,_,b⟩ | ⟨_,_,_,vals,k,loc,mode,_,h0,hk0,hke,_,hs,_⟩
  ·exact h.1.1
  ·exact ih b
  ·have:=ih (hs (vals - 1) (by omega)).2.2
   rw [show vals - 1+1=vals by omega,hke] at this
   exact this
theorem J5.more {t t':A2} {l:List AK} (h:Yr t t' l):∀ {n u e:Nat},J5 t n u e→(∀ x∈l,x.up < (u:Int)∨(e:Int)≤x.up)→J5 t' n u e:=by
 intro n
 induction n with
 | zero=>intro u e b;exact b.elim
 | succ n ih =>
  intro u e b hx
  have hlt:=b.lt
  have hle:=b.le
  have hl:=h.len
  obtain ⟨⟨i1,i2,i3⟩,b⟩:=b
  have hu:t'.at u=t.at u:=DQ h.n i1
  have hc:∀ a,BY t' a u=BY t a u:=fun a=>A0Z h i1 fun x hx' e'=>by rcases hx x hx' with h1 | h1<;>omega
  refine ⟨⟨by omega,by rw [hu];exact i2,by rw [hu,h.r];exact i3⟩,?_⟩
  rcases b with ⟨b1,b2,b3⟩ | ⟨b1,b2,b3,b4,b5⟩ | ⟨b1,b2,b3,vals,k,loc,mode,b4,b5,b6,b7,b8,b9,b10⟩
  ·refine .inl ⟨(hc _).trans b1,?_,b3⟩
   unfold A3X Gm at b2 ⊢
   rw [hu,h.r,h.v];exact b2
  ·refine .inr (.inl ⟨(hc _).trans b1,by rw [hu];exact b2,by rw [hu];exact b3,?_,ih b5 fun x hx'=>?_⟩)
   ·have:=Kz b1
    unfold DA KI Gm at b4 ⊢
    rw [hu,DQ h.n this,h.l,h.v];exact b4
   ·rcases hx x hx' with h1 | h1
    ·exact .inl (by omega)
    ·exact .inr h1
  ·have hr:=A6U fun v hv=>(b9 v hv).2.2
   refine .inr (.inr ⟨(hc _).trans b1,by rw [hu];exact b2,by rw [hu];exact b3,vals,k,loc,mode,by rw [h.v];exact b4,b5,b6,b7,by unfold KI at b8 ⊢;rw [h.l];exact b8,fun v hv=>?_,?_⟩)
   ·obtain ⟨c1,c2,c3⟩:=b9 v hv
    have h1:=hr 0 v (by omega) (by omega)
    have h2:=hr (v+1) vals (by omega) (by omega)
    refine ⟨(hc _).trans c1,?_,ih c3 fun x hx'=>?_⟩
    ·unfold EK at c2 ⊢
     rw [DQ h.n (Kz c1)];exact c2
    ·rcases hx x hx' with h3 | h3
     ·exact .inl (by omega)
     ·exact .inr (by omega)
   ·rcases b10 with b10 | ⟨c1,c2,v,c3,c4⟩
    ·exact .inl b10
    ·have h1:=hr 0 v (by omega) (by omega)
     have h2:=hr (v+1) vals (by omega) (by omega)
     have h3:=(b9 v c3).2.2.lt
     refine .inr ⟨c1,c2,v,c3,?_⟩
     rw [A0o h (Kz (b9 v c3).1) fun x hx' e'=>by rcases hx x hx' with h4 | h4<;>omega]
     exact c4
theorem J5.fuel {t:A2}:∀ {n u e:Nat},J5 t n u e→J5 t (n+1) u e:=by
 intro n
 induction n with
 | zero=>intro u e h;exact h.elim
 | succ n ih =>
  intro u e h
  refine ⟨h.1,?_⟩
  rcases h.2 with b | ⟨b1,b2,b3,b4,b5⟩ | ⟨b1,b2,b3,vals,k,loc,mode,b4,b5,b6,b7,b8,b9,b10⟩
  ·exact .inl b
  ·exact .inr (.inl ⟨b1,b2,b3,b4,ih b5⟩)
  ·exact .inr (.inr ⟨b1,b2,b3,vals,k,loc,mode,b4,b5,b6,b7,b8,fun v hv=>⟨(b9 v hv).1,(b9 v hv).2.1,ih (b9 v hv).2.2⟩,b10⟩)
theorem J5.fuel' {t:A2} {n m u e:Nat} (h:J5 t n u e) (hm:n≤m):J5 t m u e:=by
  induction m with
  | zero => have : n = 0 := by omega
            subst this;exact h
  | succ m ih =>
    by_cases e:n=m+1
    · subst e;exact h
    · exact (ih (by omega)).fuel
abbrev TT (vals:Int) (locs:List ByteArray) (rg:List (List ByteArray)) (ns:List AK):A2:=⟨vals,locs,rg,ns⟩
def Yq (vals:Int) (locs:List ByteArray) (rg:List (List ByteArray)) (ns:List AK) (n:AK) (ns':List AK):Prop :=
 ∃ (f:Bool) (g:List Int) (l:List AK),ns' = ns++{ n with fin:=f,regs:=g }::l∧(∀ x∈l,(ns.length:Int)≤x.up)∧∃ m,J5 (TT vals locs rg ns') m ns.length ns'.length
def Jy (nl:Nat) (vals:Int) (m n:AK):Bool :=
 (decide (n.kind=4) && decide (n.loc=0) && decide (n.val=0) && !n.rmw && decide (1≤n.mode) && decide (n.mode≤4)) ||
 (decide (n.kind=3) && (decide (0≤n.loc) && decide (n.loc < nl)) && (decide (0≤n.val) && decide (n.val < vals)) &&
  (if n.rmw then decide (0≤n.mode) && decide (n.mode≤4) && decide (m.kind=2) && decide (m.loc=n.loc) && decide (m.mode=n.mode) else decide (n.mode=0) || decide (n.mode=2) || decide (n.mode=4)))
theorem A0R (t:A2) (u:Nat):DA t u=Jy t.locs.length t.vals (t.at u) (t.at (u+1)):=rfl
theorem Ms {vals:Int} {locs:List ByteArray} {rg:List (List ByteArray)} {a:List AK} {x:AK} {b:List AK}:(TT vals locs rg (a++x::b)).at a.length=x:=by
 simp [A2.at]
theorem Ac4 {vals:Int} {locs:List ByteArray} {rg:List (List ByteArray)} {a:List AK} {x y:AK} {b:List AK}:(TT vals locs rg (a++x::y::b)).at (a.length+1)=y:=by
 simp [A2.at]
theorem A9J {vals:Int} {locs:List ByteArray} {rg:List (List ByteArray)} {ns:List AK} {n:AK} {th:Nat} (ht:n.thread=th) (hth:th < rg.length) {g:List Int} (hg:g.length=(rg.getD th []).length) (hv:∀ v∈g,0≤v∧v < vals) :
  Yq vals locs rg ns n (ns++[{ n with fin:=true,regs:=g }]):=by
 refine ⟨true,g,[],rfl,by simp,1,?_⟩
 have ha:(TT vals locs rg (ns++[{ n with fin:=true,regs:=g }])).at ns.length = { n with fin:=true,regs:=g }:=Ms
 have hl:(TT vals locs rg (ns++[{ n with fin:=true,regs:=g }])).nodes.length=ns.length+1:=by simp
 refine ⟨⟨by omega,by rw [ha];show 0≤n.thread;omega,by rw [ha];show n.thread < (rg.length:Int);omega⟩,.inl ⟨?_,?_,by simp⟩⟩
 ·unfold BY
  rw [hl];simp
 ·unfold A3X
  rw [ha]
  simp only [ht,Int.toNat_natCast,hg,decide_true,Bool.true_and,List.all_eq_true]
  intro v h
  obtain ⟨h1,h2⟩:=hv v h
  simp [Gm,h1,h2]
theorem Ug {n:AK} (h1:n.fin=false) (h2:n.regs=[]):({ n with fin:=false,regs:=[] }:AK)=n:=by
 cases n;simp at h1 h2;subst h1;subst h2;rfl
theorem Mw {vals:Int} {locs:List ByteArray} {rg:List (List ByteArray)} {ns:List AK} {n x:AK} {th:Nat} (ht:n.thread=th) (hth:th < rg.length) (hf:n.fin=false) (hr:n.regs=[]) (hxu:x.up=ns.length) (hxt:x.thread=th)
  (ha:Jy locs.length vals n x=true) {ns':List AK} (h:Yq vals locs rg (ns++[n]) x ns'):Yq vals locs rg ns n ns':=by
 obtain ⟨f,g,l,rfl,h1,m,h2⟩:=h
 refine ⟨false,[],{ x with fin:=f,regs:=g }::l,?_,?_,m+1,?_⟩
 ·rw [Ug hf hr];simp
 ·intro y hy
  rcases List.mem_cons.1 hy with rfl | hy
  ·show (ns.length:Int)≤x.up;omega
  ·have:=h1 y hy
   simp at this;omega
 ·have e:ns++[n]++{ x with fin:=f,regs:=g }::l=ns++n::{ x with fin:=f,regs:=g }::l:=by simp
  rw [e] at h2 ⊢
  have a0:(TT vals locs rg (ns++n::{ x with fin:=f,regs:=g }::l)).at ns.length=n:=Ms
  have a1:(TT vals locs rg (ns++n::{ x with fin:=f,regs:=g }::l)).at (ns.length+1) = { x with fin:=f,regs:=g }:=Ac4
  have hl:ns.length+1 < (TT vals locs rg (ns++n::{ x with fin:=f,regs:=g }::l)).nodes.length:=by simp
  refine ⟨⟨by omega,by rw [a0];omega,by rw [a0];show n.thread < (rg.length:Int);omega⟩,.inr (.inl ⟨?_,by rw [a0];exact hf,by rw [a0];exact hr,?_,?_⟩)⟩
  ·unfold BY
   rw [a0,a1,decide_eq_true hl]
   simp [hxu,hxt,ht]
  ·rw [A0R,a0,a1];exact ha
  ·simpa using h2
theorem Qi {vals:Int} {locs:List ByteArray} {rg:List (List ByteArray)} {ns:List AK} {x y:AK} {ns':List AK} (hu:y.up=ns.length) (hr:y.rmw=true) (h:Yq vals locs rg (ns++[x]) y ns'):G3 (TT vals locs rg ns') ns.length=true:=by
 obtain ⟨f,g,l,rfl,_⟩:=h
 have e:(TT vals locs rg (ns++[x]++{ y with fin:=f,regs:=g }::l)).at (ns.length+1) = { y with fin:=f,regs:=g }:=by
  have:=Ms (vals:=vals) (locs:=locs) (rg:=rg) (a:=ns++[x]) (x:={ y with fin:=f,regs:=g }) (b:=l)
  simpa using this
 unfold G3
 rw [e]
 simp [hu,hr]
def Yw (vals:Int) (locs:List ByteArray) (rg:List (List ByteArray)) (ns:List AK) (n:AK) (v:Nat) (loc mode:Int) (rm:Nat→Bool) (nsv:List AK):Prop :=
 ∃ (l:List AK) (k:Nat→Nat),nsv=ns++n::l∧(∀ x∈l,(ns.length:Int)≤x.up)∧k 0=ns.length+1∧k v=nsv.length ∧
  ∀ j,j < v→BY (TT vals locs rg nsv) (k j) ns.length=true∧EK (TT vals locs rg nsv) (k j) j loc mode=true∧(∃ m,J5 (TT vals locs rg nsv) m (k j) (k (j+1)))∧(rm j=true→G3 (TT vals locs rg nsv) (k j)=true)
theorem MX {vals:Int} {locs:List ByteArray} {rg:List (List ByteArray)} {ns:List AK} {n:AK} {loc mode:Int} {rm:Nat→Bool}:Yw vals locs rg ns n 0 loc mode rm (ns++[n]) :=
 ⟨[],fun _=>ns.length+1,rfl,by simp,rfl,by simp,fun j hj=>by omega⟩
theorem A8o {t t':A2} {l:List AK} (h:Yr t t' l) {u a:Nat} (hu:u < t.nodes.length) (ha:a < t.nodes.length):BY t' a u=BY t a u:=by
 unfold BY
 have:=h.len
 rw [DQ h.n ha,DQ h.n hu,decide_eq_true ha,decide_eq_true (show a < t'.nodes.length by omega)]
theorem AeR {t:A2} {k:Nat→Nat} {v:Nat} (h:∀ j,j < v→∃ m,J5 t m (k j) (k (j+1))):∀ i j,i≤j→j≤v→k i≤k j:=by
  intro i j hij hj
  induction j with
  | zero => have : i = 0 := by omega
            subst this;exact Nat.le_refl _
  | succ j ih =>
    by_cases e:i=j+1
    · subst e;exact Nat.le_refl _
    · have h1 := ih (by omega) (by omega)
      obtain ⟨m,h2⟩:=h j (by omega)
      have:=h2.lt
      omega
theorem K0 {vals:Int} {locs:List ByteArray} {rg:List (List ByteArray)} {ns:List AK} {n x:AK} {v:Nat} {loc mode:Int} {rm:Nat→Bool} {nsv ns':List AK} (h:Yw vals locs rg ns n v loc mode rm nsv)
  (hxu:x.up=ns.length) (hxt:x.thread=n.thread) (hk:x.kind=2) (hv:x.val=v) (hl:x.loc=loc) (hm:x.mode=mode) (hr:x.rmw=false) (hg:Yq vals locs rg nsv x ns') (hrm:rm v=true→G3 (TT vals locs rg ns') nsv.length=true) :
  Yw vals locs rg ns n (v+1) loc mode rm ns':=by
 obtain ⟨l,k,rfl,h1,h2,h3,h4⟩:=h
 obtain ⟨f,g,l',rfl,g1,m',g2⟩:=hg
 have mo:Yr (TT vals locs rg (ns++n::l)) (TT vals locs rg ((ns++n::l)++{ x with fin:=f,regs:=g }::l')) ({ x with fin:=f,regs:=g }::l'):=⟨rfl,rfl,rfl,rfl⟩
 have hlen:(TT vals locs rg (ns++n::l)).nodes.length=(ns++n::l).length:=rfl
 have ru:=AeR (t:=TT vals locs rg (ns++n::l)) (k:=k) (v:=v) fun j hj=>(h4 j hj).2.2.1
 have hnl:ns.length < (ns++n::l).length:=by simp
 refine ⟨l++{ x with fin:=f,regs:=g }::l',fun j=>if j≤v then k j else ((ns++n::l)++{ x with fin:=f,regs:=g }::l').length,by simp,?_,by simp [h2],if_neg (by omega),?_⟩
 ·intro y hy
  rcases List.mem_append.1 hy with hy | hy
  ·exact h1 y hy
  ·rcases List.mem_cons.1 hy with rfl | hy
   ·show (ns.length:Int)≤x.up;omega
   ·have:=g1 y hy;omega
 ·intro j hj
  dsimp only
  rw [if_pos (show j≤v by omega)]
  by_cases e:j=v
  ·subst e
   rw [h3,if_neg (by omega)]
   have a0:(TT vals locs rg ((ns++n::l)++{ x with fin:=f,regs:=g }::l')).at (ns++n::l).length = { x with fin:=f,regs:=g }:=Ms
   refine ⟨?_,?_,⟨m',g2⟩,hrm⟩
   ·unfold BY
    rw [a0,DQ mo.n (by rw [hlen];exact hnl)]
    have:(TT vals locs rg (ns++n::l)).at ns.length=n:=Ms
    rw [this]
    simp [hxu,hxt]
   ·unfold EK
    rw [a0]
    simp [hk,hv,hl,hm,hr]
  ·rw [if_pos (show j+1≤v by omega)]
   obtain ⟨c1,c2,⟨m,c3⟩,c4⟩:=h4 j (by omega)
   have c0:=Kz c1
   have r1:=ru (j+1) v (by omega) (Nat.le_refl _)
   have r0:=ru 0 j (by omega) (by omega)
   have r2:=c3.lt
   rw [h3] at r1
   rw [h2] at r0
   have hx:∀ y∈({ x with fin:=f,regs:=g }::l':List AK),y.up < (k j:Int)∨(k (j+1):Int)≤y.up:=by
    intro y hy
    rcases List.mem_cons.1 hy with rfl | hy
    ·left;show x.up < (k j:Int);omega
    ·right;have:=g1 y hy;omega
   refine ⟨?_,?_,⟨m,c3.more mo hx⟩,fun h=>?_⟩
   ·rw [A8o mo (by rw [hlen];exact hnl) c0];exact c1
   ·unfold EK at c2 ⊢
    rw [DQ mo.n c0];exact c2
   ·rw [A0o mo c0 fun y hy e=>by rcases hx y hy with q | q<;>omega]
    exact c4 h
theorem A9H {t:A2} {k:Nat→Nat}:∀ v,(∀ j,j < v→∃ m,J5 t m (k j) (k (j+1)))→∃ M,∀ j,j < v→J5 t M (k j) (k (j+1)):=by
 intro v
 induction v with
 | zero=>intro _;exact ⟨0,fun j hj=>by omega⟩
 | succ v ih =>
  intro h
  obtain ⟨M,hM⟩:=ih fun j hj=>h j (by omega)
  obtain ⟨m,hm⟩:=h v (by omega)
  refine ⟨max M m,fun j hj=>?_⟩
  by_cases e:j=v
  ·subst e;exact hm.fuel' (Nat.le_max_right _ _)
  ·exact (hM j (by omega)).fuel' (Nat.le_max_left _ _)
theorem Pk {vals:Nat} {locs:List ByteArray} {rg:List (List ByteArray)} {ns:List AK} {n:AK} {th:Nat} (ht:n.thread=th) (hth:th < rg.length) (hf:n.fin=false) (hr:n.regs=[]) {loc mode:Int} {rm:Nat→Bool} {nsv:List AK} (hv:0 < vals) (hl:0≤loc∧loc < locs.length)
  (hm:(mode=0∨mode=1∨mode=4)∨(0≤mode∧mode≤4∧∃ v,v < vals∧rm v=true)) (h:Yw vals locs rg ns n vals loc mode rm nsv):Yq vals locs rg ns n nsv:=by
 obtain ⟨l,k,rfl,h1,h2,h3,h4⟩:=h
 refine ⟨false,[],l,by rw [Ug hf hr],h1,?_⟩
 obtain ⟨M,hM⟩:=A9H vals fun j hj=>(h4 j hj).2.2.1
 have a0:(TT vals locs rg (ns++n::l)).at ns.length=n:=Ms
 have c0:=(h4 0 hv).1
 rw [h2] at c0
 refine ⟨M+1,⟨by have:=Kz c0;omega,by rw [a0];omega,by rw [a0];show n.thread < (rg.length:Int);omega⟩,.inr (.inr ⟨c0,by rw [a0];exact hf,by rw [a0];exact hr,vals,k,loc,mode,rfl,hv,h2,h3,?_,fun v hv=>⟨(h4 v hv).1,(h4 v hv).2.1,hM v hv⟩,?_⟩)⟩
 ·simp [KI,hl.1,hl.2]
 ·rcases hm with hm | ⟨m1,m2,v,m3,m4⟩
  ·exact .inl hm
  ·exact .inr ⟨m1,m2,v,m3,(h4 v m3).2.2.2 m4⟩
def Thr (vals:Int) (locs:List ByteArray) (rg:List (List ByteArray)) (i:Nat) (ns:List AK):Prop :=
 (locs.length≤ns.length∧∀ j,j < locs.length→JH (TT vals locs rg ns) j=true)∧∃ s:Nat→Nat,s 0=locs.length∧s i=ns.length ∧
  ∀ j,j < i→ET (TT vals locs rg ns) (s j) j=true∧∃ m,J5 (TT vals locs rg ns) m (s j) (s (j+1))
theorem Abk {vals:Int} {locs:List ByteArray} {rg:List (List ByteArray)} {i:Nat} {ns ns':List AK} {x:AK} (h:Thr vals locs rg i ns) (hx:x = ⟨i,-1,1,0,0,0,false,false,[]⟩) (hg:Yq vals locs rg ns x ns'):Thr vals locs rg (i+1) ns':=by
 subst hx
 obtain ⟨⟨h1,h2⟩,s,s0,si,hs⟩:=h
 obtain ⟨f,g,l,rfl,g1,m,g2⟩:=hg
 let x':AK:=⟨i,-1,1,0,0,0,false,f,g⟩
 have mo:Yr (TT vals locs rg ns) (TT vals locs rg (ns++x'::l)) (x'::l):=⟨rfl,rfl,rfl,rfl⟩
 have hl:(TT vals locs rg ns).nodes.length=ns.length:=rfl
 have ru:=AeR (t:=TT vals locs rg ns) (k:=s) (v:=i) fun j hj=>(hs j hj).2
 refine ⟨⟨by simp;omega,fun j hj=>?_⟩,fun j=>if j≤i then s j else (ns++x'::l).length,by simp [s0],if_neg (by omega),fun j hj=>?_⟩
 ·have:=h2 j hj
  unfold JH Gm at this ⊢
  rw [DQ mo.n (by rw [hl];omega)]
  exact this
 ·dsimp only
  rw [if_pos (show j≤i by omega)]
  by_cases e:j=i
  ·subst e
   rw [si,if_neg (by omega)]
   refine ⟨?_,m,g2⟩
   unfold ET
   have:(TT vals locs rg (ns++x'::l)).at ns.length=x':=Ms
   rw [this];simp [x']
  ·rw [if_pos (show j+1≤i by omega)]
   obtain ⟨b1,m2,b2⟩:=hs j (by omega)
   have r1:=ru (j+1) i (by omega) (Nat.le_refl _)
   have r2:=b2.lt
   rw [si] at r1
   refine ⟨?_,m2,b2.more mo fun y hy=>?_⟩
   ·unfold ET at b1 ⊢
    rw [DQ mo.n (by rw [hl];omega)];exact b1
   ·rcases List.mem_cons.1 hy with rfl | hy
    ·left;show (-1:Int) < _;omega
    ·right;have:=g1 y hy;omega
def Rx (ini:List (ByteArray×Int)) (k:Nat):List AK:=(List.range k).map fun (i:Nat)=>(⟨-1,-1,3,(i:Int),0,(ini.getD i default).2,false,false,[]⟩:AK)
theorem KF (ini:List (ByteArray×Int)) (k:Nat):(Rx ini k).length=k:=by simp [Rx]
theorem A6T (ini:List (ByteArray×Int)) (k:Nat):Rx ini (k+1)=Rx ini k++[⟨-1,-1,3,k,0,(ini.getD k default).2,false,false,[]⟩]:=by
 unfold Rx
 rw [List.range_succ,List.map_append];rfl
theorem Abl {vals:Int} {rg:List (List ByteArray)} {ini:List (ByteArray×Int)} (hv:∀ x∈ini,0≤x.2∧x.2 < vals):Thr vals (ini.map (·.1)) rg 0 (Rx ini ini.length):=by
 refine ⟨⟨by simp [KF],fun j hj=>?_⟩,fun _=>ini.length,by simp,by simp [KF],fun j hj=>by omega⟩
 have hj':j < ini.length:=by simpa using hj
 have e:(TT vals (ini.map (·.1)) rg (Rx ini ini.length)).at j = ⟨-1,-1,3,j,0,(ini.getD j default).2,false,false,[]⟩:=by
  unfold A2.at
  simp only [List.getD_eq_getElem?_getD]
  rw [List.getElem?_eq_getElem (by rw [KF];exact hj')]
  simp [Rx]
 have hm:ini.getD j default∈ini:=Ap hj'
 obtain ⟨v1,v2⟩:=hv _ hm
 unfold JH
 rw [e]
 simp [Gm,v1,v2]
 simp [List.getD_eq_getElem?_getD] at v1 v2
 omega
theorem A7s {vals:Int} {locs:List ByteArray} {rg:List (List ByteArray)} {ns:List AK} (h:Thr vals locs rg rg.length ns) (v2:2≤vals) (v4:vals≤4) (l4:locs.length≤4) (ln:locs.Nodup) (n64:ns.length≤64) (r1:1≤rg.length) (r4:rg.length≤4) (rl:∀ l∈rg,l.length≤4∧l.Nodup):A8 (TT vals locs rg ns) where
 v2:=v2
 v4:=v4
 l4:=l4
 ln:=ln
 n64:=n64
 r1:=r1
 r4:=r4
 rl:=rl
 first:=h.1
 thr:=h.2
structure Ys (t:A2) (m:Nat):Prop where
 thr:0≤(t.at m).thread
 up0 : -1≤(t.at m).up
 up:(t.at m).up < m
 loc:(t.at m).kind=2∨(t.at m).kind=3→KI t (t.at m).loc=true
 rmw:(t.at m).rmw=true→0≤(t.at m).up∧(t.at (t.at m).up.toNat).kind=2
 par:0≤(t.at m).up→(t.at (t.at m).up.toNat).thread=(t.at m).thread
theorem Nj {t:A2} {a u:Nat} (h:BY t a u=true):(t.at a).up=u∧(t.at a).thread=(t.at u).thread:=by
 simp only [BY,Bool.and_eq_true,decide_eq_true_eq] at h
 exact ⟨h.1.2,h.2⟩
theorem A6n {t:A2} {u:Nat} (h:DA t u=true):(t.at (u+1)).kind=2∨(t.at (u+1)).kind=3→KI t (t.at (u+1)).loc=true:=by
 simp only [DA,Bool.or_eq_true,Bool.and_eq_true,decide_eq_true_eq] at h
 rcases h with h | h
 ·intro k;have:=h.1.1.1.1.1;omega
 ·intro _;exact h.1.1.2
theorem A6o {t:A2} {u:Nat} (h:DA t u=true) (hr:(t.at (u+1)).rmw=true):(t.at u).kind=2:=by
 simp only [DA,hr,Bool.or_eq_true,Bool.and_eq_true,decide_eq_true_eq,if_true,Bool.not_true] at h
 rcases h with h | h
 ·have:=h.1.1.2;cases this
 ·exact h.2.1.1.2
theorem Ee {k:Nat→Nat} {m:Nat}:∀ n:Nat,k 0≤m→m < k n→∃ v,v < n∧k v≤m∧m < k (v+1):=by
 intro n
 induction n with
 | zero=>intro h1 h2;omega
 | succ n ih =>
  intro h1 h2
  by_cases c:m < k n
  ·obtain ⟨v,a,b,d⟩:=ih h1 c
   exact ⟨v,by omega,b,d⟩
  ·exact ⟨n,by omega,by omega,h2⟩
theorem J5.good {t:A2}:∀ {n u e:Nat},J5 t n u e→∀ m,u < m→m < e→Ys t m:=by
 intro n
 induction n with
 | zero=>intro u e h;exact absurd h (by simp [J5])
 | succ n ih =>
  intro u e h m h1 h2
  obtain ⟨⟨_,ht,_⟩,h⟩:=h
  rcases h with ⟨_,_,rfl⟩ | ⟨c,_,_,al,hb⟩ | ⟨c,_,_,vals,k,loc,mode,_,_,hk0,hke,hloc,hs,_⟩
  ·omega
  ·by_cases e1:m=u+1
   ·subst e1
    obtain ⟨p,q⟩:=Nj c
    exact ⟨by omega,by omega,by omega,A6n al,fun hr=>⟨by omega,by rw [p,Int.toNat_natCast];exact A6o al hr⟩,fun _=>by rw [p,Int.toNat_natCast];exact q.symm⟩
   ·exact ih hb m (by omega) h2
  ·obtain ⟨v,hv,a,b⟩:=Ee (k:=k) (m:=m) vals (by omega) (by omega)
   obtain ⟨s1,s2,s3⟩:=hs v hv
   by_cases e1:m=k v
   ·subst e1
    obtain ⟨p,q⟩:=Nj s1
    simp only [EK,Bool.and_eq_true,decide_eq_true_eq] at s2
    exact ⟨by omega,by omega,by omega,fun _=>by rw [s2.1.1.2];exact hloc,fun hr=>by rw [hr] at s2;simp at s2,fun _=>by rw [p,Int.toNat_natCast];exact q.symm⟩
   ·exact ih s3 m (by omega) b
theorem A8.good {t:A2} (h:A8 t) (m:Nat) (h1:t.locs.length≤m) (h2:m < t.nodes.length):Ys t m:=by
 obtain ⟨s,h0,he,hs⟩:=h.thr
 obtain ⟨v,hv,a,b⟩:=Ee (k:=s) (m:=m) t.regs.length (by omega) (by omega)
 obtain ⟨hb,n,hn⟩:=hs v hv
 by_cases e1:m=s v
 ·subst e1
  simp only [ET,Bool.and_eq_true,decide_eq_true_eq] at hb
  have k1:=hb.1.1.1.1.2
  have k3:=hb.1.1.1.1.1.2
  have k4:=hb.2
  exact ⟨by omega,by omega,by omega,fun k=>by omega,fun hr=>by simp_all,fun h0=>by omega⟩
 ·exact hn.good m (by omega) b
structure A7I (t:A2) (i:Nat):Prop where
 thr:(t.at i).thread = -1
 up:(t.at i).up = -1
 kind:(t.at i).kind=3
 loc:(t.at i).loc=i
theorem A8.init {t:A2} (h:A8 t) (i:Nat) (hi:i < t.locs.length):A7I t i:=by
 have:=h.first.2 i hi
 simp only [JH,Bool.and_eq_true,decide_eq_true_eq] at this
 obtain ⟨⟨⟨⟨⟨⟨⟨⟨a,b⟩,c⟩,d⟩,_⟩,_⟩,_⟩,_⟩,_⟩:=this
 exact ⟨a,b,c,d⟩
theorem A8.up {t:A2} (h:A8 t):Kt t:=by
 intro i hi
 by_cases c:i < t.locs.length
 ·rw [(h.init i c).up];omega
 ·exact (h.good i (by omega) hi).up
theorem A8.wloc {t:A2} (h:A8 t) {m:Nat} (hm:m < t.nodes.length) (hk:(t.at m).kind=2∨(t.at m).kind=3):0≤(t.at m).loc∧(t.at m).loc < t.locs.length:=by
 by_cases c:m < t.locs.length
 ·rw [(h.init m c).loc];omega
 ·have:=(h.good m (by omega) hm).loc hk
  simp only [KI,Bool.and_eq_true,decide_eq_true_eq] at this
  exact this
theorem A8.thr_iff {t:A2} (h:A8 t) {m:Nat} (hm:m < t.nodes.length):(t.at m).thread < 0↔m < t.locs.length:=by
 by_cases c:m < t.locs.length
 ·rw [(h.init m c).thr];omega
 ·have:=(h.good m (by omega) hm).thr
  omega
def V2 (t:A2):Nat→Nat→Int
 | 0,_=>0
 | n+1,i=>if (t.at i).up < 0 then 0 else V2 t n (t.at i).up.toNat+1
def XM (t:A2):Nat→Nat→BitVec 64
 | 0,_=>0#64
 | n+1,i=>if (t.at i).up < 0 then 0#64 else XM t n (t.at i).up.toNat ||| CQ (t.at i).up
def Qz (t:A2) (i:Nat):Int:=V2 t (i+1) i
def ovr (t:A2) (i:Nat):BitVec 64:=XM t (i+1) i
theorem A6y {t:A2} (h:Kt t):∀ (n i:Nat),i < n→i < t.nodes.length→V2 t (n+1) i=V2 t n i:=by
 intro n
 induction n with
 | zero=>intro i hi;omega
 | succ n ih =>
  intro i hi hl
  rw [V2]
  conv=>rhs;rw [V2]
  by_cases c:(t.at i).up < 0
  ·rw [if_pos c,if_pos c]
  ·rw [if_neg c,if_neg c]
   have:=h i hl
   rw [ih _ (by omega) (by omega)]
theorem A76 {t:A2} (h:Kt t):∀ (n i:Nat),i < n→i < t.nodes.length→XM t (n+1) i=XM t n i:=by
 intro n
 induction n with
 | zero=>intro i hi;omega
 | succ n ih =>
  intro i hi hl
  rw [XM]
  conv=>rhs;rw [XM]
  by_cases c:(t.at i).up < 0
  ·rw [if_pos c,if_pos c]
  ·rw [if_neg c,if_neg c]
   have:=h i hl
   rw [ih _ (by omega) (by omega)]
theorem Ace {t:A2} (h:Kt t) {i:Nat} (hl:i < t.nodes.length):∀ k,V2 t (i+1+k) i=Qz t i:=by
 intro k
 induction k with
 | zero=>rfl
 | succ k ih=>rw [← ih];exact A6y h (i+1+k) i (by omega) hl
theorem AdY {t:A2} (h:Kt t) {i:Nat} (hl:i < t.nodes.length):∀ k,XM t (i+1+k) i=ovr t i:=by
 intro k
 induction k with
 | zero=>rfl
 | succ k ih=>rw [← ih];exact A76 h (i+1+k) i (by omega) hl
theorem A13 {t:A2} (h:Kt t) {i u:Nat} (hl:i < t.nodes.length) (hu:(t.at i).up=u):Qz t i=Qz t u+1:=by
 have:=h i hl
 rw [Qz,V2,if_neg (by omega),hu,Int.toNat_natCast,← Ace h (by omega) (i - (u+1))]
 rw [show u+1+(i - (u+1))=i by omega]
theorem AaQ {t:A2} (h:Kt t) {i u:Nat} (hl:i < t.nodes.length) (hu:(t.at i).up=u):ovr t i=ovr t u ||| CQ u:=by
 have:=h i hl
 rw [ovr,XM,if_neg (by omega),hu,Int.toNat_natCast,← AdY h (by omega) (i - (u+1))]
 rw [show u+1+(i - (u+1))=i by omega]
theorem A8u {t:A2} {i:Nat} (hu:(t.at i).up < 0):Qz t i=0:=by rw [Qz,V2,if_pos hu]
theorem AaP {t:A2} {i:Nat} (hu:(t.at i).up < 0):ovr t i=0#64:=by rw [ovr,XM,if_pos hu]
theorem Ec {t:A2} (h:Kt t) (a:Int) {x:Int} (hx:x < t.nodes.length):LP t a t.nodes.length x=if x < 0 then false else if x=a then true else LP t a t.nodes.length (t.at x.toNat).up:=by
 rw [← TL h a t.nodes.length x hx hx,LP]
theorem AcC (s r:BitVec 64) (x:Int):Bv (s ||| r) x=(Bv s x || Bv r x):=by
 unfold Bv
 rw [BitVec.getLsbD_or]
 cases decide (0≤x)<;>simp
theorem A9K (i:Nat) (x:Nat) (hx:x < 64):Bv (CQ i) (x:Int)=decide (x=i):=by
 rw [AS,CR]
 by_cases c:x=i
 ·rw [decide_eq_true c,decide_eq_true (by omega)]
 ·rw [decide_eq_false c,decide_eq_false (by omega)]
theorem YG {t:A2} (h:Kt t) {a:Nat} (ha:a < 64):∀ (n b:Nat),b < n→b < t.nodes.length→Bv (ovr t b) a=AA t a b∧(AA t a b=true→Qz t a < Qz t b):=by
 intro n
 induction n with
 | zero=>intro b hb;omega
 | succ n ih =>
  intro b hb hl
  have hup:=h b hl
  unfold AA
  by_cases c:(t.at b).up < 0
  ·rw [AaP c,Ec h a (by omega),if_pos c]
   exact ⟨by simp [Bv],fun h=>by cases h⟩
  ·obtain ⟨u,hu⟩:=Int.eq_ofNat_of_zero_le (show 0≤(t.at b).up by omega)
   have hub:u < b:=by omega
   obtain ⟨i1,i2⟩:=ih u (by omega) (by omega)
   unfold AA at i1 i2
   rw [AaQ h hl hu,A13 h hl hu,hu,Ec h a (by omega),if_neg (by omega),AcC,A9K _ _ ha,i1,Int.toNat_natCast]
   by_cases e:a=u
   ·subst e
    rw [if_pos rfl]
    exact ⟨by simp,fun _=>by omega⟩
   ·rw [if_neg (by omega),decide_eq_false e,Bool.or_false]
    exact ⟨rfl,fun h=>by have:=i2 h;omega⟩
theorem Afv {t:A2} (h:Kt t):∀ (n i:Nat),i < n→i < t.nodes.length→0≤Qz t i∧Qz t i≤i:=by
 intro n
 induction n with
 | zero=>intro i hi;omega
 | succ n ih =>
  intro i hi hl
  have hup:=h i hl
  by_cases c:(t.at i).up < 0
  ·rw [A8u c];omega
  ·obtain ⟨u,hu⟩:=Int.eq_ofNat_of_zero_le (show 0≤(t.at i).up by omega)
   have:=ih u (by omega) (by omega)
   rw [A13 h hl hu]
   omega
def Afu (t:A2):List Int:=(List.range t.nodes.length).map (Qz t)
def Ahm (t:A2):List (BitVec 64):=(List.range t.nodes.length).map (ovr t)
theorem Nk {t:A2} {i:Nat} (h:i < t.nodes.length):(Afu t)[i]? = some (Qz t i):=by simp [Afu,h]
theorem AaO {t:A2} {i:Nat} (h:i < t.nodes.length):(Ahm t)[i]? = some (ovr t i):=by simp [Ahm,h]
theorem V0 {t:A2} (h:Kt t) (hn:t.nodes.length≤64) {a b:Nat} (ha:a < t.nodes.length) (hb:b < t.nodes.length):(decide (Qz t a < Qz t b) && Bv (ovr t b) a)=AA t a b:=by
 obtain ⟨h1,h2⟩:=YG h (a:=a) (by omega) (b+1) b (by omega) hb
 rw [h1]
 cases c:AA t a b with
 | false=>simp
 | true=>rw [decide_eq_true (h2 c)];rfl
theorem A64 {α:Type} {n k j:Nat} {f:Nat→α} {z:α} (h:j < k) (hn:j < n):(D6 n k f z)[j]? = some (f j):=by
 simp [D6,hn,h]
theorem UA {α:Type} {n k:Nat} {f:Nat→α} {z:α} (h:f k=z):D6 n k f z=D6 n (k+1) f z:=by
 unfold D6
 apply List.map_congr_left
 intro j hj
 by_cases e:j=k
 ·subst e;rw [if_neg (by omega),if_pos (by omega),h]
 ·by_cases c:j < k
  ·rw [if_pos c,if_pos (by omega)]
  ·rw [if_neg c,if_neg (by omega)]
theorem A9D (j:Nat) (hj:j < 64):∀ (l:List Int) (s:BitVec 64),(l.foldl (fun s i=>s ||| CQ i) s).getLsbD j=(s.getLsbD j || B2 l (j:Int)):=by
 intro l
 induction l with
 | nil=>intro s;simp [B2]
 | cons x l ih =>
  intro s
  rw [List.foldl_cons,ih,BitVec.getLsbD_or,CR]
  have e:B2 (x::l) (j:Int)=(decide ((j:Int)=x) || B2 l (j:Int)):=rfl
  have e2:decide ((j:Int)=x∧j < 64)=decide ((j:Int)=x):=by
   by_cases c:(j:Int)=x<;>simp [c,hj]
  rw [e,e2,Bool.or_assoc]
theorem LG (l:List Int) {x:Int} (h0:0≤x) (h1:x < 64):Bv (Cj l) x=B2 l x:=by
 obtain ⟨j,rfl⟩:=Int.eq_ofNat_of_zero_le h0
 rw [AS,Cj,A9D j (by omega)]
 simp
theorem DE {s:BitVec 64} {x:Int} (h:Bv s x=true):0≤x∧x < 64:=by
 simp only [Bv,Bool.and_eq_true,decide_eq_true_eq] at h
 have:=BitVec.lt_of_getLsbD h.2
 omega
def CH (t:A2) (l:List Int):Prop:=∀ n∈l,BI t n=true
theorem CH.has {t:A2} (ht:t.nodes.length≤64) {l:List Int} (h:CH t l) (x:Int):Bv (Cj l) x=B2 l x:=by
 by_cases c:0≤x∧x < 64
 ·exact LG l c.1 c.2
 ·have e1:Bv (Cj l) x=false:=by
   rw [← Bool.not_eq_true]
   exact fun h=>c (DE h)
  have e2:B2 l x=false:=by
   rw [← Bool.not_eq_true]
   intro h'
   obtain ⟨m,rfl,hm⟩:=Aa (h x (A9.1 h'))
   exact c ⟨by omega,by omega⟩
  rw [e1,e2]
def Bm (t:A2) (has:List Int) (n loc:Int):Bool:=B2 has n && HM t n loc
def Ed (t:A2) (l has:List Int) (loc:Int) (i:Nat):Bool :=
 Bm t has (l.getD i 0) loc && decide (0≤(t.at (l.getD i 0).toNat).thread) && D1 l i && (!decide (1 < l.length) || D0 (t.at (l.getD i 0).toNat)) && (decide (i=0) || (l.take i).all fun m=>AU t (l.getD i 0) m)
def Ey (t:A2) (l has:List Int) (loc:Int):Bool:=(List.range l.length).all (Ed t l has loc) && decide (0 < l.length)
theorem Lb {l:List Int} {p:Int→Bool}:∀ i,i≤l.length→(l.take i).all p=(List.range i).all fun k=>p (l.getD k 0):=by
 intro i
 induction i with
 | zero=>intro _;rfl
 | succ i ih =>
  intro h
  have hi:i < l.length:=by omega
  have e:=List.take_succ_eq_append_getElem hi
  have e2:l.getD i 0=l[i]:=by rw [List.getD_eq_getElem?_getD,List.getElem?_eq_getElem hi];rfl
  rw [e,List.all_append,ih (by omega),List.range_succ,List.all_append,← e2]
  simp
theorem A6u (t:A2) (l has:List Int) (loc:Int):Ey t l has loc=Cb t l has loc:=by
 rw [Bool.eq_iff_iff]
 simp only [Ey,Cb,Bool.and_eq_true,Bool.not_eq_true',decide_eq_true_eq,decide_eq_false_iff_not,Ah]
 constructor
 ·rintro ⟨h1,h2⟩
  refine ⟨by omega,fun i hi=>?_⟩
  have:=h1 i hi
  simp only [Ed,Bm,Bool.and_eq_true,Bool.or_eq_true,decide_eq_true_eq] at this
  obtain ⟨⟨⟨⟨⟨a,b⟩,c⟩,d⟩,e⟩,f⟩:=this
  simp only [Bg,Bool.and_eq_true,decide_eq_true_eq]
  refine ⟨⟨⟨⟨a,d⟩,b⟩,c⟩,?_⟩
  rw [← Lb (p:=fun m=>AU t (l.getD i 0) m) i (by omega)]
  rcases f with rfl | f
  ·rfl
  ·exact f
 ·rintro ⟨h1,h2⟩
  refine ⟨fun i hi=>?_,by omega⟩
  have hp:1 < l.length→D0 (t.at (l.getD i 0).toNat)=true:=by
   intro hl
   by_cases i0:i=0
   ·subst i0
    have:=h2 1 hl
    simp only [Bg,Bool.and_eq_true,Ah] at this
    have:=this.2 0 (by omega)
    simp only [AU,Bool.and_eq_true] at this
    exact this.1.1.2
   ·have:=h2 i hi
    simp only [Bg,Bool.and_eq_true,Ah] at this
    have:=this.2 0 (by omega)
    simp only [AU,Bool.and_eq_true] at this
    exact this.1.1.1
  have:=h2 i hi
  simp only [Bg,Bool.and_eq_true,decide_eq_true_eq] at this
  obtain ⟨⟨⟨⟨a,d⟩,b⟩,c⟩,f⟩:=this
  simp only [Ed,Bm,Bool.and_eq_true,Bool.or_eq_true,decide_eq_true_eq,Bool.not_eq_true',decide_eq_false_iff_not]
  refine ⟨⟨⟨⟨⟨a,b⟩,c⟩,d⟩,?_⟩,.inr ?_⟩
  ·by_cases hl:1 < l.length
   ·exact .inr (hp hl)
   ·exact .inl hl
  ·rw [Lb (p:=fun m=>AU t (l.getD i 0) m) i (by omega)];exact f
def LO (m:List (List Int)) (loc:Nat):List Int:=(loc:Int)::(m.drop 1).flatten
def Gq (t:A2) (s:A5) (loc:Nat):Nat:=(s.has.filter fun n=>Bm t s.has n loc).length
def Mc (t:A2) (s:A5) (loc:Nat):Bool :=
 let m:=s.mo.getD loc []
 !decide (m.length=0) && decide (m.getD 0 []=[(loc:Int)]) && (m.drop 1).all (fun c=>Ey t c s.has loc) && decide ((LO m loc).length=Gq t s loc) && decide ((C1 (Cj (LO m loc))).length=Gq t s loc)
def Ek (t:A2) (s:A5):Bool:=decide (s.mo.length=t.locs.length) && (List.range s.mo.length).all (Mc t s)
def M5 (t:A2) (s:A5):Bool:=decide (s.jf.length=s.has.length) && (List.range s.has.length).all (GU t s)
theorem Kc:∀ (l m:List Int),l.Nodup→(∀ x∈l,x∈m)→l.length≤m.length:=by
 intro l
 induction l with
 | nil=>intro m _ _;simp
 | cons x l ih =>
  intro m hn hs
  have hx:=hs x List.mem_cons_self
  have h1:x∉l:=(List.nodup_cons.1 hn).1
  have:=ih (m.erase x) (List.nodup_cons.1 hn).2 fun y hy=>by
   have:y≠x:=fun e=>h1 (e ▸ hy)
   exact (List.mem_erase_of_ne this).2 (hs y (List.mem_cons_of_mem _ hy))
  rw [List.length_erase_of_mem hx] at this
  have:0 < m.length:=List.length_pos_of_mem hx
  simp only [List.length_cons]
  omega
theorem Ahe {l m:List Int} (hn:l.Nodup) (hs:∀ x∈l,x∈m) (hl:m.length≤l.length):∀ x∈m,x∈l:=by
 intro x hx
 refine Classical.byContradiction fun hc=>?_
 have:=Kc l (m.erase x) hn fun y hy=>(List.mem_erase_of_ne fun (e:y=x)=>hc (e ▸ hy)).2 (hs y hy)
 rw [List.length_erase_of_mem hx] at this
 have:0 < m.length:=List.length_pos_of_mem hx
 omega
theorem Ak5:∀ (l S:List Int),S.Nodup→(∀ x∈S,x∈l)→l.length≤S.length→l.Nodup:=by
 intro l
 induction l with
 | nil=>intro S _ _ _;exact List.nodup_nil
 | cons x l ih =>
  intro S hn hs hl
  by_cases hx:x∈l
  ·have:=Kc S l hn fun y hy=>by
    rcases List.mem_cons.1 (hs y hy) with rfl | h
    ·exact hx
    ·exact h
   simp only [List.length_cons] at hl
   omega
  ·refine List.nodup_cons.2 ⟨hx,ih (S.erase x) (hn.erase x) (fun y hy=>?_) ?_⟩
   ·rcases List.mem_cons.1 (hs y (List.mem_of_mem_erase hy)) with rfl | h
    ·exact absurd hy (List.Nodup.not_mem_erase hn)
    ·exact h
   ·rw [List.length_erase]
    simp only [List.length_cons] at hl
    split<;>omega
theorem TP (n:Int):∀ (m:List (List Int)),(∀ c∈m,c.Nodup)→(m.filter fun c=>B2 c n).length=m.flatten.count n:=by
 intro m
 induction m with
 | nil=>intro _;rfl
 | cons c m ih =>
  intro h
  have h1:=h c List.mem_cons_self
  have h2:=ih fun d hd=>h d (List.mem_cons_of_mem _ hd)
  rw [List.flatten_cons,List.count_append,← h2,List.filter_cons]
  cases e:B2 c n with
  | true =>
   have hm:n∈c:=A9.1 e
   have:=List.nodup_iff_count.1 h1 n
   have:0 < c.count n:=List.count_pos_iff.2 hm
   rw [if_pos rfl,List.length_cons]
   omega
  | false =>
   have hm:n∉c:=fun h=>by rw [A9.2 h] at e;cases e
   rw [List.count_eq_zero_of_not_mem hm]
   simp
theorem Ahq {l:List Int} (h:∀ i,i < l.length→D1 l i=true):∀ j,j < l.length→∀ i,i < j→l.getD i 0 < l.getD j 0:=by
 intro j
 induction j with
 | zero=>intro _ i hi;omega
 | succ j ih =>
  intro hj i hi
  have h1:=h (j+1) hj
  simp only [D1,Bool.or_eq_true,decide_eq_true_eq,Nat.add_sub_cancel] at h1
  have h2:l.getD j 0 < l.getD (j+1) 0:=by
   rcases h1 with h1 | h1
   ·omega
   ·exact h1
  by_cases e:i=j
  ·subst e;exact h2
  ·have:=ih (by omega) i (by omega);omega
theorem LJ {l:List Int} (h:∀ i,i < l.length→D1 l i=true):l.Nodup:=by
 rw [List.nodup_iff_pairwise_ne,List.pairwise_iff_getElem]
 intro i j hi hj hij e
 have:=Ahq h j hj i hij
 rw [List.getD_eq_getElem?_getD,List.getElem?_eq_getElem hi,List.getD_eq_getElem?_getD,List.getElem?_eq_getElem hj,Option.getD_some,Option.getD_some,e] at this
 omega
theorem Zu (w:BitVec 64):(C1 w).Nodup:=List.Nodup.sublist List.filter_sublist List.nodup_range
theorem Ab7 {t:A2} (h64:t.nodes.length≤64) {l:List Int} (h:CH t l) (x:Int):x∈(C1 (Cj l)).map (fun (j:Nat)=>(j:Int))↔x∈l:=by
 constructor
 ·intro hx
  obtain ⟨j,hj,rfl⟩:=List.mem_map.1 hx
  obtain ⟨j1,j2⟩:=RC hj
  have:=h.has h64 (j:Int)
  rw [AS,j2] at this
  exact A9.1 this.symm
 ·intro hx
  obtain ⟨m,rfl,hm⟩:=Aa (h x hx)
  refine List.mem_map.2 ⟨m,LC.2 ?_,rfl⟩
  have:=h.has h64 (m:Int)
  rw [AS,A9.2 hx] at this
  exact this
theorem A3n (w:BitVec 64):((C1 w).map fun (j:Nat)=>(j:Int)).Nodup:=by
 rw [List.nodup_iff_pairwise_ne,List.pairwise_map]
 have:=List.nodup_iff_pairwise_ne.1 (Zu w)
 exact this.imp fun h e=>h (by omega)
theorem AaM {t:A2} (h64:t.nodes.length≤64) {all W:List Int} (ha:CH t all) (hw:W.Nodup) (hs:∀ x∈all,x∈W) :
  (all.length=W.length∧(C1 (Cj all)).length=W.length)↔∀ n∈W,all.count n=1:=by
 have hS:=A3n (Cj all)
 have hm:=fun x=>Ab7 h64 ha x
 have hl:((C1 (Cj all)).map fun (j:Nat)=>(j:Int)).length=(C1 (Cj all)).length:=List.length_map ..
 generalize ((C1 (Cj all)).map fun (j:Nat)=>(j:Int))=S at *
 rw [← hl]
 constructor
 ·rintro ⟨h1,h2⟩ n hn
  have nd:=Ak5 all S hS (fun x hx=>(hm x).1 hx) (by omega)
  have hmem:=Ahe nd hs (by omega) n hn
  have c1:=List.nodup_iff_count.1 nd n
  have c2:0 < all.count n:=List.count_pos_iff.2 hmem
  omega
 ·intro h
  have nd:all.Nodup:=by
   rw [List.nodup_iff_count]
   intro x
   by_cases hx:x∈all
   ·rw [h x (hs x hx)];exact Nat.le_refl _
   ·rw [List.count_eq_zero_of_not_mem hx];omega
  have hmem:∀ x∈W,x∈all:=fun x hx=>List.count_pos_iff.1 (by rw [h x hx];decide)
  have a1:=Kc all W nd hs
  have a2:=Kc W all hw hmem
  have a3:=Kc all S nd fun x hx=>(hm x).2 hx
  have a4:=Kc S all hS fun x hx=>(hm x).1 hx
  omega
theorem NH {t:A2} {l:List Int} (h:Cc t l=true):CH t l∧l.Nodup∧(Gc t ||| Cj l=Cj l):=by
 simp only [Cc,Bool.and_eq_true,decide_eq_true_eq] at h
 have hr:=Ah.1 h.1
 refine ⟨fun n hn=>?_,LJ fun i hi=>?_,h.2⟩
 ·obtain ⟨k,hk,rfl⟩:=List.mem_iff_getElem.1 hn
  have:=hr k hk
  simp only [C9,Bool.and_eq_true] at this
  have:=this.1.1
  rw [List.getD_eq_getElem?_getD,List.getElem?_eq_getElem hk] at this
  exact this
 ·have:=hr i hi
  simp only [C9,Bool.and_eq_true] at this
  exact this.1.2
theorem AcE {t:A2} (ht:A8 t) {l:List Int} (h:Cc t l=true) {k:Nat} (hk:k < t.locs.length):(k:Int)∈l:=by
 obtain ⟨hn,_,hi⟩:=NH h
 have hkn:k < t.nodes.length:=Nat.lt_of_lt_of_le hk ht.first.1
 have h64:=ht.n64
 have e:(Gc t).getLsbD k=true:=by
  unfold Gc
  rw [At,decide_eq_true hkn,(ht.init k hk).up,decide_eq_true (show k < 64 by omega)];rfl
 have e2:(Cj l).getLsbD k=true:=by rw [← hi,BitVec.getLsbD_or,e];rfl
 have:=hn.has h64 (k:Int)
 rw [AS,e2] at this
 exact A9.1 this.symm
theorem UX {t:A2} {l has:List Int} {loc:Int} (h:Cb t l has loc=true):l.Nodup∧∀ n∈l,Bm t has n loc=true:=by
 simp only [Cb,Bool.and_eq_true] at h
 have hr:=Ah.1 h.2
 refine ⟨LJ fun i hi=>?_,fun n hn=>?_⟩
 ·have:=hr i hi
  simp only [Bg,Bool.and_eq_true] at this
  exact this.1.1.1.2
 ·obtain ⟨k,hk,rfl⟩:=List.mem_iff_getElem.1 hn
  have:=hr k hk
  simp only [Bg,Bool.and_eq_true] at this
  have h1:=this.1.1.1.1
  have h2:=this.1.1.2
  rw [List.getD_eq_getElem?_getD,List.getElem?_eq_getElem hk,Option.getD_some] at h1 h2
  simp only [Bm,Bool.and_eq_true]
  exact ⟨h1,h2⟩
theorem ZJ {t:A2} {s:A5} {k:Nat}:DH t s k=true↔∃ D,s.mo.getD k []=[(k:Int)]::D∧∀ c∈D,Cb t c s.has k=true:=by
 simp only [DH,Bool.and_eq_true,Bool.not_eq_true',decide_eq_false_iff_not,decide_eq_true_eq,Ah,Bool.or_eq_true]
 generalize s.mo.getD k []=m
 constructor
 ·rintro ⟨⟨h1,h2⟩,h3⟩
  rcases m with _ | ⟨c,D⟩
  ·simp at h1
  ·refine ⟨D,by rw [show c=[(k:Int)] from h2],fun d hd=>?_⟩
   obtain ⟨j,hj,rfl⟩:=List.mem_iff_getElem.1 hd
   have:=h3 (j+1) (by simp;omega)
   rcases this with h | h
   ·omega
   ·simpa [List.getD_eq_getElem?_getD,hj] using h
 ·rintro ⟨D,rfl,h⟩
  refine ⟨⟨by simp,rfl⟩,fun i hi=>?_⟩
  rcases i with _ | i
  ·exact .inl rfl
  ·refine .inr ?_
   have hi':i < D.length:=by simpa using hi
   have:=h D[i] (List.getElem_mem hi')
   simpa [List.getD_eq_getElem?_getD,hi'] using this
theorem Sf {t:A2} {s:A5} {k:Nat}:Mc t s k=true↔∃ D,s.mo.getD k []=[(k:Int)]::D∧(∀ c∈D,Cb t c s.has k=true)∧((s.mo.getD k []).flatten.length=Gq t s k∧(C1 (Cj (s.mo.getD k []).flatten)).length=Gq t s k):=by
 simp only [Mc,Bool.and_eq_true,Bool.not_eq_true',decide_eq_false_iff_not,decide_eq_true_eq,List.all_eq_true,A6u]
 generalize s.mo.getD k []=m
 constructor
 ·rintro ⟨⟨⟨⟨h1,h2⟩,h3⟩,h4⟩,h5⟩
  rcases m with _ | ⟨c,D⟩
  ·simp at h1
  ·have e:c=[(k:Int)]:=h2
   subst e
   exact ⟨D,rfl,h3,h4,h5⟩
 ·rintro ⟨D,rfl,h3,h4,h5⟩
  exact ⟨⟨⟨⟨by simp,rfl⟩,h3⟩,h4⟩,h5⟩
theorem A5P {t:A2} (ht:A8 t) {s:A5} (hn:Cc t s.has=true) {i:Nat} (hi:i < s.has.length):L0 t s i=true↔((t.at (s.has.getD i 0).toNat).kind=3→((s.mo.getD (t.at (s.has.getD i 0).toNat).loc.toNat []).filter fun c=>B2 c (s.has.getD i 0)).length=1):=by
 simp only [L0,Bool.or_eq_true,Bool.not_eq_true',decide_eq_false_iff_not,decide_eq_true_eq]
 constructor
 ·rintro (h | h) k
  ·exact absurd k h
  ·exact h
 ·intro h
  by_cases k:(t.at (s.has.getD i 0).toNat).kind=3
  ·exact .inr (h k)
  ·exact .inl k
theorem Ah8 (t:A2) (ht:A8 t) (s:A5):(Cc t s.has && M5 t s && Ek t s)=BH t s:=by
 cases hn:Cc t s.has with
 | false=>simp [BH,hn]
 | true =>
 obtain ⟨hN,hnd,_⟩:=NH hn
 have h64:=ht.n64
 by_cases hm:¬ s.mo.length=t.locs.length
 ·simp [BH,Ek,hm]
 have hm:=Decidable.not_not.1 hm
 rw [Bool.eq_iff_iff]
 simp only [BH,Ek,M5,hn,decide_eq_true hm,Bool.true_and,Bool.and_true,Bool.and_eq_true,decide_eq_true_eq]
 have key:(∀ k,k < s.mo.length→Mc t s k=true)↔((∀ k,k < s.mo.length→DH t s k=true)∧∀ i,i < s.has.length→L0 t s i=true):=by
  have W:∀ k,k < s.mo.length→∀ D,s.mo.getD k []=[(k:Int)]::D→(∀ c∈D,Cb t c s.has k=true) →
    (((s.mo.getD k []).flatten.length=Gq t s k∧(C1 (Cj (s.mo.getD k []).flatten)).length=Gq t s k)↔∀ n∈s.has,Bm t s.has n k=true→((s.mo.getD k []).filter fun c=>B2 c n).length=1):=by
   intro k hk D hD hc
   have hk':k < t.locs.length:=by omega
   have hin:=AcE ht hn hk'
   have hwk:Bm t s.has k k=true:=by
    simp only [Bm,HM,Bool.and_eq_true,decide_eq_true_eq,Int.toNat_natCast]
    exact ⟨A9.2 hin,(ht.init k hk').kind,(ht.init k hk').loc⟩
   have hcw:∀ c∈s.mo.getD k [],c.Nodup∧∀ n∈c,Bm t s.has n k=true:=by
    intro c hcm
    rw [hD] at hcm
    rcases List.mem_cons.1 hcm with rfl | h
    ·refine ⟨by simp,fun n hn=>?_⟩
     rw [List.mem_singleton.1 hn];exact hwk
    ·exact UX (hc c h)
   have hsub:∀ x∈(s.mo.getD k []).flatten,x∈s.has.filter fun n=>Bm t s.has n k:=by
    intro x hx
    obtain ⟨c,hc1,hc2⟩:=List.mem_flatten.1 hx
    have:=(hcw c hc1).2 x hc2
    refine List.mem_filter.2 ⟨?_,this⟩
    simp only [Bm,Bool.and_eq_true] at this
    exact A9.1 this.1
   have hNa:CH t (s.mo.getD k []).flatten:=fun x hx=>hN x (List.mem_filter.1 (hsub x hx)).1
   have:=AaM h64 (W:=s.has.filter fun n=>Bm t s.has n k) hNa (List.Nodup.sublist List.filter_sublist hnd) hsub
   rw [show Gq t s k=(s.has.filter fun n=>Bm t s.has n k).length from rfl,this]
   constructor
   ·intro h n hn1 hn2
    rw [TP n _ fun c hc=>(hcw c hc).1]
    exact h n (List.mem_filter.2 ⟨hn1,hn2⟩)
   ·intro h n hn1
    obtain ⟨a,b⟩:=List.mem_filter.1 hn1
    rw [← TP n _ fun c hc=>(hcw c hc).1]
    exact h n a b
  constructor
  ·intro h
   refine ⟨fun k hk=>?_,fun i hi=>?_⟩
   ·obtain ⟨D,hD,hc,_⟩:=Sf.1 (h k hk)
    exact ZJ.2 ⟨D,hD,hc⟩
   ·rw [A5P ht hn hi]
    intro k3
    have hmem:s.has.getD i 0∈s.has:=Ap hi
    obtain ⟨m,hm1,hm2⟩:=Aa (hN _ hmem)
    rw [hm1,Int.toNat_natCast] at k3 ⊢
    obtain ⟨l1,l2⟩:=ht.wloc hm2 (.inr k3)
    obtain ⟨lc,hlc⟩:=Int.eq_ofNat_of_zero_le l1
    rw [hlc,Int.toNat_natCast]
    have hk:lc < s.mo.length:=by omega
    obtain ⟨D,hD,hc,hl⟩:=Sf.1 (h lc hk)
    refine (W lc hk D hD hc).1 hl m (hm1 ▸ hmem) ?_
    simp only [Bm,HM,Bool.and_eq_true,decide_eq_true_eq,Int.toNat_natCast]
    exact ⟨A9.2 (hm1 ▸ hmem),k3,hlc⟩
  ·rintro ⟨h1,h2⟩ k hk
   obtain ⟨D,hD,hc⟩:=ZJ.1 (h1 k hk)
   refine Sf.2 ⟨D,hD,hc,(W k hk D hD hc).2 fun n hn1 hn2=>?_⟩
   obtain ⟨i,hi,rfl⟩:=List.mem_iff_getElem.1 hn1
   have e:s.has.getD i 0=s.has[i]:=by rw [List.getD_eq_getElem?_getD,List.getElem?_eq_getElem hi];rfl
   have:=(A5P ht hn hi).1 (h2 i hi)
   rw [e] at this
   simp only [Bm,HM,Bool.and_eq_true,decide_eq_true_eq] at hn2
   have h3:=this hn2.2.1
   rw [hn2.2.2,Int.toNat_natCast] at h3
   exact h3
 rw [Ah,Ah (n:=s.mo.length),key,Ah,Ah]
 constructor
 ·rintro ⟨⟨a,b⟩,c,d⟩;exact ⟨⟨⟨a,b⟩,c⟩,d⟩
 ·rintro ⟨⟨⟨a,b⟩,c⟩,d⟩;exact ⟨⟨a,b⟩,c,d⟩
def Ar (n:Nat) (p:Nat→Nat→Bool):Rows:=(List.range n).map fun a=>BS fun b=>decide (b < n) && p a b
theorem Al {n:Nat} {p:Nat→Nat→Bool}:(Ar n p).length=n:=by simp [Ar]
theorem Bi {n:Nat} {p:Nat→Nat→Bool} {a:Nat} (h:a < n):(Ar n p)[a]? = some (BS fun b=>decide (b < n) && p a b):=by simp [Ar,h]
theorem Jm {n:Nat} {p:Nat→Nat→Bool} {a b:Nat} (hn:n≤64) (h:a < n) (hb:b < n):Bv ((Ar n p).getD a 0#64) (b:Int)=p a b:=by
 rw [List.getD_eq_getElem?_getD,Bi h,Option.getD_some,AS,At,decide_eq_true hb,decide_eq_true (show b < 64 by omega)]
 simp
def Lo (t:A2) (x f:List Int) (i:Nat):Bool :=
 if (t.at (x.getD i 0).toNat).kind=2 then B2 x (f.getD i 0) && HM t (f.getD i 0) (t.at (x.getD i 0).toNat).loc else decide (f.getD i 0 = -1)
def CB (t:A2) (x:List Int) (i:Nat):Bool:=BI t (x.getD i 0) && D1 x i
def GR (t:A2) (x f:List Int):Bool:=decide (x.length=f.length) && (List.range x.length).all (CB t x) && (List.range x.length).all (Lo t x f)
def Ho (x f:List Int) (n:Int):Int:=if B2 x n then f.getD (K3 x n).toNat 0 else -1
structure DS (t:A2) (x f:List Int):Prop where
 len:x.length=f.length
 node:CH t x
 nd:x.Nodup
 at_:∀ i,i < x.length→Ho x f (x.getD i 0)=f.getD i 0
 read:∀ n,n∈x→(t.at n.toNat).kind=2→Ho x f n∈x∧(t.at (Ho x f n).toNat).kind=3∧(t.at (Ho x f n).toNat).loc=(t.at n.toNat).loc
 none:∀ n,n∈x→(t.at n.toNat).kind≠2→Ho x f n = -1
theorem A5I {x:List Int} (h:x.Nodup) {i:Nat} (hi:i < x.length):K3 x (x.getD i 0)=i:=by
 have hm:B2 x (x.getD i 0)=true:=A9.2 (Ap hi)
 obtain ⟨k,e,hk,h1,h2⟩:=Hh hm
 rw [e]
 have:k=i:=by
  rw [List.getD_eq_getElem?_getD,List.getD_eq_getElem?_getD,List.getElem?_eq_getElem hk,List.getElem?_eq_getElem hi] at h1
  rw [Option.getD_some,Option.getD_some] at h1
  rcases Nat.lt_trichotomy k i with c | c | c
  ·exact absurd h1 (List.pairwise_iff_getElem.1 h k i hk hi c)
  ·exact c
  ·exact absurd h1.symm (List.pairwise_iff_getElem.1 h i k hi hk c)
 rw [this]
theorem Cf {t:A2} {x f:List Int} (h:GR t x f=true):DS t x f:=by
 simp only [GR,Bool.and_eq_true,decide_eq_true_eq,Ah,CB] at h
 obtain ⟨⟨h1,h2⟩,h3⟩:=h
 have hnode:CH t x:=by
  intro n hn
  obtain ⟨i,hi,rfl⟩:=List.getElem_of_mem hn
  have:=(h2 i hi).1
  rwa [List.getD_eq_getElem?_getD,List.getElem?_eq_getElem hi] at this
 have hnd:x.Nodup:=LJ fun i hi=>(h2 i hi).2
 have hat:∀ i,i < x.length→Ho x f (x.getD i 0)=f.getD i 0:=by
  intro i hi
  unfold Ho
  rw [if_pos (A9.2 (Ap hi)),A5I hnd hi,Int.toNat_natCast]
 refine ⟨h1,hnode,hnd,hat,?_,?_⟩
 ·intro n hn hk
  obtain ⟨i,hi,rfl⟩:=List.getElem_of_mem hn
  have e:x[i]=x.getD i 0:=by rw [List.getD_eq_getElem?_getD,List.getElem?_eq_getElem hi];rfl
  have h3i:=h3 i hi
  rw [e] at hk ⊢
  rw [hat i hi]
  simp only [Lo,hk,if_true,Bool.and_eq_true,HM,decide_eq_true_eq,A9] at h3i
  exact ⟨h3i.1,h3i.2.1,h3i.2.2⟩
 ·intro n hn hk
  obtain ⟨i,hi,rfl⟩:=List.getElem_of_mem hn
  have e:x[i]=x.getD i 0:=by rw [List.getD_eq_getElem?_getD,List.getElem?_eq_getElem hi];rfl
  have h3i:=h3 i hi
  rw [e] at hk ⊢
  rw [hat i hi]
  simp only [Lo,hk,if_false,decide_eq_true_eq] at h3i
  exact h3i
def ahF (t:A2) (x f:List Int) (w:Int):Int:=if (t.at w.toNat).rmw=true∧B2 x (t.at w.toNat).up=true then Ho x f (t.at w.toNat).up else -1
def A77 (t:A2) (x:List Int) (w:Int) (n:Nat):Bool:=(decide ((n:Int)=w) && NQ (t.at n)) || (B2 x (n:Int) && decide ((t.at n).kind=4) && NQ (t.at n) && AE t n w)
def L3 (t:A2) (x:List Int) (w:Int):BitVec 64:=BS (A77 t x w)
def MT (t:A2) (w:Int):Bool:=decide (w < 0) || decide ((t.at w.toNat).thread < 0)
def Ns (t:A2) (x f:List Int):Nat→Int→BitVec 64
 | 0,_=>0#64
 | k+1,w=>if MT t w=true then 0#64 else L3 t x w ||| Ns t x f k (ahF t x f w)
def Co (t:A2) (x f:List Int) (w:Int):BitVec 64:=Ns t x f (x.length+1) w
def Ep (t:A2) (x f:List Int):Nat→Int→Int
 | 0,w=>w
 | k+1,w=>ahF t x f (Ep t x f k w)
theorem KH (t:A2) (x f:List Int):∀ (k:Nat) (w:Int),Ep t x f (k+1) w=Ep t x f k (ahF t x f w)
 | 0,w=>rfl
 | k+1,w=>by rw [Ep,KH t x f k w];rfl
theorem ED (t:A2) (x f:List Int) (b:Nat):∀ (k:Nat) (w:Int),(Ns t x f k w).getLsbD b=true↔∃ j,j < k∧(∀ i,i≤j→MT t (Ep t x f i w)=false)∧(L3 t x (Ep t x f j w)).getLsbD b=true
 | 0,w=>by simp [Ns]
 | k+1,w=>by
  rw [Ns]
  by_cases c:MT t w=true
  ·rw [if_pos c]
   constructor
   ·intro h;simp at h
   ·rintro ⟨j,_,h,_⟩
    have:=h 0 (Nat.zero_le _)
    rw [Ep,c] at this;cases this
  ·rw [if_neg c,BitVec.getLsbD_or,Bool.or_eq_true,ED t x f b k]
   constructor
   ·rintro (h | ⟨j,h1,h2,h3⟩)
    ·exact ⟨0,by omega,fun i hi=>by rw [Nat.le_zero.1 hi];exact Bool.eq_false_iff.2 c,h⟩
    ·refine ⟨j+1,by omega,fun i hi=>?_,by rw [KH];exact h3⟩
     rcases i with _ | i
     ·exact Bool.eq_false_iff.2 c
     ·rw [KH];exact h2 i (by omega)
   ·rintro ⟨j,h1,h2,h3⟩
    rcases j with _ | j
    ·exact .inl h3
    ·refine .inr ⟨j,by omega,fun i hi=>?_,by rw [KH] at h3;exact h3⟩
     have:=h2 (i+1) (by omega)
     rwa [KH] at this
def Rw (t:A2) (x f:List Int) (w:Int) (i:Nat):BitVec 64:=(List.range i).foldl (fun s j=>s ||| L3 t x (Ep t x f j w)) 0#64
theorem A2t (t:A2) (x f:List Int) (w:Int) (i:Nat):Rw t x f w (i+1)=Rw t x f w i ||| L3 t x (Ep t x f i w):=by
 unfold Rw
 rw [List.range_succ,List.foldl_append]
 rfl
theorem U2 (t:A2) (x f:List Int) (w:Int) (b:Nat) (i:Nat):(Rw t x f w i).getLsbD b=true↔∃ j,j < i∧(L3 t x (Ep t x f j w)).getLsbD b=true:=by
 unfold Rw
 rw [Vi]
 simp [List.any_eq_true]
def Km (t:A2) (x f:List Int) (w:Int) (i:Nat):List Int:=(List.range i).map fun j=>Ep t x f j w
theorem UH (t:A2) (x f:List Int) (w:Int) (i:Nat):Km t x f w (i+1)=Km t x f w i++[Ep t x f i w]:=by
 unfold Km
 rw [List.range_succ,List.map_append]
 rfl
theorem QK {t:A2} {x f:List Int} {w:Int} {i:Nat} {v:Int}:v∈Km t x f w i↔∃ j,j < i∧Ep t x f j w=v:=by
 simp [Km]
theorem UU {t:A2} (ht:A8 t) {x f:List Int} (h:DS t x f) {w:Int} (hw:w∈x):ahF t x f w = -1∨(ahF t x f w∈x∧(t.at (ahF t x f w).toNat).kind=3):=by
 unfold ahF
 by_cases c:(t.at w.toNat).rmw=true∧B2 x (t.at w.toNat).up=true
 ·rw [if_pos c]
  obtain ⟨m,rfl,hm⟩:=Aa (h.node w hw)
  rw [Int.toNat_natCast] at c ⊢
  have hl:t.locs.length≤m:=by
   rcases Nat.lt_or_ge m t.locs.length with h1 | h1
   ·have:=ht.first.2 m h1
    simp only [JH,Bool.and_eq_true] at this
    have h3:=this.1.1.2
    rw [c.1] at h3;cases h3
   ·exact h1
  obtain ⟨_,k2⟩:=(ht.good m hl hm).rmw c.1
  obtain ⟨r1,r2,_⟩:=h.read _ (A9.1 c.2) k2
  exact .inr ⟨r1,r2⟩
 ·rw [if_neg c];exact .inl rfl
theorem Mx {t:A2} (ht:A8 t) {x f:List Int} (h:DS t x f) {w:Int} (hw:w∈x):∀ (i:Nat),(∀ j,j < i→MT t (Ep t x f j w)=false)→Ep t x f i w = -1∨Ep t x f i w∈x
 | 0,_=>.inr hw
 | i+1,hi=>by
  rcases Mx ht h hw i (fun j hj=>hi j (by omega)) with e | e
  ·have:=hi i (by omega)
   rw [e] at this;cases this
  ·rcases UU ht h e with e | e
   ·exact .inl e
   ·exact .inr e.1
theorem Aeh {t:A2} (ht:A8 t) {x f:List Int} (h:DS t x f) {w:Int} (hw:w∈x) {i:Nat} (hoff:∀ j,j < i→MT t (Ep t x f j w)=false) (hnd:(Km t x f w i).Nodup)
  (he:MT t (Ep t x f i w)=true∨Ep t x f i w∈Km t x f w i):Rw t x f w i=Co t x f w:=by
 have hil:i≤x.length:=by
  have h1:(Km t x f w i).length=i:=by simp [Km]
  rw [← h1]
  refine Kc _ _ hnd fun v hv=>?_
  obtain ⟨j,hj,rfl⟩:=QK.1 hv
  rcases Mx ht h hw j (fun k hk=>hoff k (by omega)) with e | e
  ·have:=hoff j hj
   rw [e] at this;cases this
  ·exact e
 apply Sub.anti
 ·intro b hb
  obtain ⟨j,hj,h1⟩:=(U2 _ _ _ _ _ _).1 hb
  exact (ED _ _ _ _ _ _).2 ⟨j,by omega,fun k hk=>hoff k (by omega),h1⟩
 ·intro b hb
  obtain ⟨j,hj,h1,h2⟩:=(ED _ _ _ _ _ _).1 hb
  have key:∀ j,(∀ k,k≤j→MT t (Ep t x f k w)=false)→∃ j',j' < i∧Ep t x f j' w=Ep t x f j w:=by
   intro j
   induction j with
   | zero =>
    intro hk
    rcases Nat.eq_zero_or_pos i with e | e
    ·subst e
     rcases he with he | he
     ·rw [hk 0 (Nat.le_refl _)] at he;cases he
     ·simp [Km] at he
    ·exact ⟨0,e,rfl⟩
   | succ j ih =>
    intro hk
    obtain ⟨j',h3,h4⟩:=ih fun k hk'=>hk k (by omega)
    have e5:Ep t x f (j' + 1) w=Ep t x f (j+1) w:=by rw [Ep,Ep,h4]
    rcases Nat.lt_or_ge (j' + 1) i with h5 | h5
    ·exact ⟨j' + 1,h5,e5⟩
    ·have e6:j' + 1=i:=by omega
     rw [e6] at e5
     rcases he with he | he
     ·rw [e5,hk (j+1) (Nat.le_refl _)] at he;cases he
     ·obtain ⟨j3,h6,h7⟩:=QK.1 he
      exact ⟨j3,h6,h7.trans e5⟩
  obtain ⟨j',h3,h4⟩:=key j h1
  exact (U2 _ _ _ _ _ _).2 ⟨j',h3,by rw [h4];exact h2⟩
def Ja (t:A2) (x:List Int) (r:Int) (n:Nat):Bool:=(decide ((n:Int)=r) && Nd (t.at n)) || (B2 x (n:Int) && decide ((t.at n).kind=4) && Nd (t.at n) && AE t r n)
def MW (t:A2) (x f:List Int) (r:Int):Bool:=decide ((t.at r.toNat).kind=2) && !decide ((t.at (Ho x f r).toNat).thread=(t.at r.toNat).thread)
def swB (t:A2) (x f:List Int) (a b:Nat):Bool:=x.any fun r=>MW t x f r && Bv (Co t x f (Ho x f r)) (a:Int) && Ja t x r b
def U1 (t:A2) (x f:List Int) (a b:Nat):Bool:=(B2 x (a:Int) && B2 x (b:Int) && AE t a b) || swB t x f a b
def hbM (t:A2) (x f:List Int):Rows:=DP (Ar t.nodes.length (U1 t x f))
theorem D5 {n:Nat} (hn:n≤64) (p:Nat→Nat→Bool):DJ (Ar n p)=true:=by
 simp only [DJ,Bool.and_eq_true,decide_eq_true_eq,List.all_eq_true,Al]
 refine ⟨hn,fun r hr=>?_⟩
 obtain ⟨a,ha,rfl⟩:=List.mem_map.1 hr
 apply Bp
 intro j hj
 rw [BitVec.getLsbD_and,BitVec.getLsbD_not,At,Gg,At]
 by_cases c:j < n
 ·simp [c,hj]
 ·simp [c]
theorem JX {n:Nat} {p:Nat→Nat→Bool} {a:Nat} (h:a < n):(Ar n p).getD a 0#64=BS fun b=>decide (b < n) && p a b:=by
 rw [List.getD_eq_getElem?_getD,Bi h,Option.getD_some]
theorem EJ {n:Nat} {p q:Nat→Nat→Bool} (h:∀ a b,a < n→b < n→p a b=q a b):Ar n p=Ar n q:=by
 unfold Ar
 apply List.map_congr_left
 intro a ha
 apply Cd
 intro b _
 by_cases c:b < n
 ·rw [h a b (List.mem_range.1 ha) c]
 ·simp [c]
theorem AaN {n:Nat} (hn:n≤64) (p q:Nat→Nat→Bool):orF (Ar n p) (Ar n q)=Ar n fun a b=>p a b || q a b:=by
 unfold orF
 rw [D5 hn,D5 hn,Al,Al]
 simp only [decide_true,Bool.and_self,if_true]
 apply List.map_congr_left
 intro a ha
 have h:=List.mem_range.1 ha
 rw [JX h,JX h]
 apply Bp
 intro j hj
 rw [BitVec.getLsbD_or,At,At,At]
 cases decide (j < n)<;>cases decide (j < 64)<;>simp
theorem My {n:Nat} (hn:n≤64) (p:Nat→Nat→Bool) (s:BitVec 64):Nv (Ar n p) s=Ar n fun a b=>Bv s a && Bv s b && p a b:=by
 unfold Nv
 rw [D5 hn,Al]
 simp only [if_true]
 apply List.map_congr_left
 intro a ha
 have h:=List.mem_range.1 ha
 rw [JX h]
 cases c:Bv s (a:Int) with
 | false =>
  simp only [Bool.false_and,Bool.and_false,Bool.false_eq_true,if_false,c]
  exact Jo.symm
 | true =>
  simp only [if_true,Bool.true_and,c]
  apply Bp
  intro j hj
  rw [BitVec.getLsbD_and,At,At]
  simp only [AS]
  cases decide (j < n)<;>cases decide (j < 64)<;>cases s.getLsbD j<;>simp
theorem BQ {s:BitVec 64} {x:Int}:x∈AX s↔Bv s x=true:=by
 unfold AX
 rw [List.mem_map]
 constructor
 ·rintro ⟨i,hi,rfl⟩
  rw [AS];exact LC.1 hi
 ·intro h
  obtain ⟨h1,h2⟩:=DE h
  obtain ⟨m,rfl⟩:=Int.eq_ofNat_of_zero_le h1
  rw [AS] at h
  exact ⟨m,LC.2 h,rfl⟩
theorem CH.list {t:A2} (ht:t.nodes.length≤64) {l:List Int} (h:CH t l) (x:Int):x∈AX (Cj l)↔x∈l:=by
 rw [BQ,h.has ht,A9]
def G2 (p:Int→Bool) (s:BitVec 64) (l:List Int):BitVec 64:=l.foldl (fun s n=>if p n=true then s ||| CQ n else s) s
theorem Ul (p:Int→Bool) (j:Nat) (hj:j < 64):∀ (l:List Int) (s:BitVec 64),(G2 p s l).getLsbD j=(s.getLsbD j || (B2 l (j:Int) && p (j:Int))):=by
 intro l
 induction l with
 | nil=>intro s;simp [G2,B2]
 | cons x l ih =>
  intro s
  show (G2 p (if p x=true then s ||| CQ x else s) l).getLsbD j=_
  rw [ih]
  have e:B2 (x::l) (j:Int)=(decide ((j:Int)=x) || B2 l (j:Int)):=rfl
  rw [e]
  by_cases c:(j:Int)=x
  ·subst c
   cases hp:p (j:Int) with
   | false=>simp
   | true =>
    rw [if_pos rfl,BitVec.getLsbD_or,CR]
    simp [hj]
  ·have:(CQ x).getLsbD j=false:=by rw [CR];simp [c]
   by_cases hp:p x=true
   ·rw [if_pos hp,BitVec.getLsbD_or,this];simp [c]
   ·rw [if_neg hp];simp [c]
theorem Sh {p:Int→Bool} {s:BitVec 64} {l:List Int} {k:Nat} (hk:k < l.length):G2 p s (l.take (k+1))=if p (l.getD k 0)=true then G2 p s (l.take k) ||| CQ (l.getD k 0) else G2 p s (l.take k):=by
 unfold G2
 rw [List.take_succ_eq_append_getElem hk,List.foldl_append,List.getD_eq_getElem?_getD,List.getElem?_eq_getElem hk]
 rfl
theorem AaZ {n a:Nat} (ha:a < n) (p:Nat→Nat→Bool) (q:Nat→Bool) (hq:∀ b,q b=true→b < n):(Ar n p).set a ((Ar n p).getD a 0#64 ||| BS q)=Ar n fun i b=>p i b || (decide (i=a) && q b):=by
 apply List.ext_getElem
 ·simp [Ar]
 ·intro i h1 h2
  have hi:i < n:=by simpa [Ar] using h2
  rw [List.getElem_set]
  by_cases c:a=i
  ·subst c
   rw [if_pos rfl,JX ha]
   have:(Ar n fun i b=>p i b || (decide (i=a) && q b))[a]=BS fun b=>decide (b < n) && (p a b || (decide (a=a) && q b)):=by simp [Ar]
   rw [this]
   apply Bp
   intro j hj
   rw [BitVec.getLsbD_or,At,At,At]
   cases hqj:q j with
   | false=>simp
   | true=>have:=hq j hqj;simp [this,hj]
  ·rw [if_neg c]
   have c':¬ i=a:=fun e=>c e.symm
   have e1:(Ar n p)[i]'(by simpa [Ar] using hi)=BS fun b=>decide (b < n) && p i b:=by simp [Ar]
   have e2:(Ar n fun i b=>p i b || (decide (i=a) && q b))[i]=BS fun b=>decide (b < n) && (p i b || (decide (i=a) && q b)):=by simp [Ar]
   rw [e1,e2]
   apply Cd
   intro j _
   simp [c']
theorem PJ (n:Nat):Ar n (fun _ _=>false)=List.replicate n 0#64:=by
 apply List.ext_getElem
 ·simp [Ar]
 ·intro i h1 h2
  simp only [Ar,List.getElem_map,List.getElem_replicate,Bool.and_false]
  exact Jo
def onL (t:A2) (x f:List Int):List Int:=(List.range t.nodes.length).map fun (n:Nat)=>Ho x f (n:Int)
theorem QN {t:A2} {x f:List Int}:(onL t x f).length=t.nodes.length:=by simp [onL]
theorem JU {t:A2} {x f:List Int} {n:Nat} (h:n < t.nodes.length):(onL t x f)[n]? = some (Ho x f (n:Int)):=by simp [onL,h]
def JY (t:A2) (x f:List Int) (n:Int):Bool:=if (t.at n.toNat).kind=2 then B2 x (Ho x f n) && HM t (Ho x f n) (t.at n.toNat).loc else decide (Ho x f n = -1)
theorem Zf (t:A2) (x f:List Int):GR t x f=(decide (x.length=f.length) && (List.range x.length).all (CB t x) && (List.range x.length).all fun i=>JY t x f (x.getD i 0)):=by
 unfold GR
 by_cases h1:(decide (x.length=f.length) && (List.range x.length).all (CB t x))=true
 ·rw [h1,Bool.true_and,Bool.true_and]
  simp only [Bool.and_eq_true,decide_eq_true_eq,Ah,CB] at h1
  have hnd:x.Nodup:=LJ fun i hi=>(h1.2 i hi).2
  have hat:∀ i,i < x.length→Ho x f (x.getD i 0)=f.getD i 0:=by
   intro i hi
   unfold Ho
   rw [if_pos (A9.2 (Ap hi)),A5I hnd hi,Int.toNat_natCast]
  rw [Bool.eq_iff_iff,Ah,Ah]
  constructor
  ·intro h i hi
   have:=h i hi
   rw [Lo] at this
   rw [JY,hat i hi];exact this
  ·intro h i hi
   have:=h i hi
   rw [JY,hat i hi] at this
   rw [Lo];exact this
 ·rw [Bool.not_eq_true] at h1
  rw [h1,Bool.false_and,Bool.false_and]
theorem AaR {t:A2} {x:List Int} (hx:CH t x) {w:Int} (hw:w∈x) {a:Nat} (h:(L3 t x w).getLsbD a=true):a < t.nodes.length:=by
 rw [L3,At,Bool.and_eq_true] at h
 have h1:=h.1
 simp only [A77,Bool.or_eq_true,Bool.and_eq_true,decide_eq_true_eq,A9] at h1
 have:(a:Int)∈x:=by
  rcases h1 with h1 | h1
  ·rw [h1.1];exact hw
  ·exact h1.1.1.1
 obtain ⟨m,e,hm⟩:=Aa (hx _ this)
 omega
theorem A2u {t:A2} (ht:A8 t) {x f:List Int} (hF:DS t x f) {w:Int} (hw:w∈x) {a:Nat} (h:(Co t x f w).getLsbD a=true):a < t.nodes.length:=by
 obtain ⟨j,_,h2,h3⟩:=(ED _ _ _ _ _ _).1 h
 rcases Mx ht hF hw j (fun k hk=>h2 k (by omega)) with e | e
 ·have:=h2 j (Nat.le_refl _)
  rw [e] at this;cases this
 ·exact AaR hF.node e h3
theorem A6A {t:A2} {x:List Int} (hx:CH t x) {r:Int} (hr:r∈x) {b:Nat} (h:Ja t x r b=true):b < t.nodes.length:=by
 simp only [Ja,Bool.or_eq_true,Bool.and_eq_true,decide_eq_true_eq,A9] at h
 have:(b:Int)∈x:=by
  rcases h with h1 | h1
  ·rw [h1.1];exact hr
  ·exact h1.1.1.1
 obtain ⟨m,e,hm⟩:=Aa (hx _ this)
 omega
theorem A7c {n a:Nat} (ha:a < n) (p:Nat→Nat→Bool) (q:Nat→Bool) (hq:∀ b,q b=true→b < n):((Ar n p).map eW).set a [vW ((BS fun b=>decide (b < n) && p a b) ||| BS q)]=(Ar n fun i b=>p i b || (decide (i=a) && q b)).map eW:=by
 rw [← AaZ ha p q hq,JX ha,List.map_set]
def swP (t:A2) (x f:List Int) (L:List Int) (a b:Nat):Bool:=L.any fun r=>MW t x f r && Bv (Co t x f (Ho x f r)) (a:Int) && Ja t x r b
theorem Ae9 {t:A2} {x f L:List Int} (h:∀ y,y∈L↔y∈x) (a b:Nat):swP t x f L a b=swB t x f a b:=by
 unfold swP swB
 rw [Bool.eq_iff_iff,List.any_eq_true,List.any_eq_true]
 exact ⟨fun ⟨y,h1,h2⟩=>⟨y,(h y).1 h1,h2⟩,fun ⟨y,h1,h2⟩=>⟨y,(h y).2 h1,h2⟩⟩
theorem Abh {t:A2} {x f L:List Int} {k:Nat} (hk:k < L.length) (a b:Nat):swP t x f (L.take (k+1)) a b=(swP t x f (L.take k) a b || (MW t x f (L.getD k 0) && Bv (Co t x f (Ho x f (L.getD k 0))) (a:Int) && Ja t x (L.getD k 0) b)):=by
 unfold swP
 rw [List.take_succ_eq_append_getElem hk,List.any_append,List.getD_eq_getElem?_getD,List.getElem?_eq_getElem hk]
 simp
def Ym (t:A2) (x f:List Int) (k:Nat):List Int:=(List.range t.nodes.length).map fun (n:Nat)=>Ho (x.take k) f (n:Int)
theorem AaL (t:A2) (x f:List Int):Ym t x f 0=List.replicate t.nodes.length (-1):=by
 apply List.ext_getElem
 ·simp [Ym]
 ·intro i h1 h2
  simp [Ym,Ho,B2]
theorem AdW (t:A2) (x f:List Int):Ym t x f x.length=onL t x f:=by unfold Ym onL;rw [List.take_length]
theorem A5O {t:A2} {x f:List Int} {k:Nat}:(Ym t x f k).length=t.nodes.length:=by simp [Ym]
theorem Abx {l:List Int} {n:Int} (h:B2 l n=true) (m:List Int):K3 (l++m) n=K3 l n:=by
 have h':B2 (l++m) n=true:=A9.2 (List.mem_append_left _ (A9.1 h))
 obtain ⟨i,e1,i1,i2,i3⟩:=Hh h
 obtain ⟨j,e2,j1,j2,j3⟩:=Hh h'
 rw [e1,e2]
 have g:∀ k,k < l.length→(l++m).getD k 0=l.getD k 0:=fun k hk=>by rw [List.getD_eq_getElem?_getD,List.getD_eq_getElem?_getD,List.getElem?_append_left hk]
 rcases Nat.lt_trichotomy i j with c | c | c
 ·exact absurd (by rw [g i i1];exact i2) (j3 i c)
 ·rw [c]
 ·exact absurd (by rw [← g j (by omega)];exact j2) (i3 j c)
theorem AdX {t:A2} {x f:List Int} {k m:Nat} (hk:k < x.length) (hm:x.getD k 0=(m:Int)) (hmn:m < t.nodes.length) (hris:∀ i,i≤k→D1 x i=true):((Ym t x f k).map eI).set m [.i .i64 (f.getD k 0)]=(Ym t x f (k+1)).map eI:=by
 have hlt:∀ i,i < k→x.getD i 0 < x.getD k 0:=by
  have:∀ j,j≤k→∀ i,i < j→x.getD i 0 < x.getD j 0:=by
   intro j
   induction j with
   | zero=>intro _ i h;omega
   | succ j ih =>
    intro hj i hi
    have:=hris (j+1) hj
    simp only [D1,Bool.or_eq_true,decide_eq_true_eq,Nat.add_sub_cancel] at this
    have h2:x.getD j 0 < x.getD (j+1) 0:=this.resolve_left (by omega)
    rcases Nat.lt_or_ge i j with c | c
    ·have:=ih (by omega) i c;omega
    ·rw [show i=j by omega];exact h2
  exact this k (Nat.le_refl _)
 have hnot:B2 (x.take k) (m:Int)=false:=by
  rw [← Bool.not_eq_true,A9]
  intro h
  obtain ⟨i,hi,e⟩:=List.getElem_of_mem h
  rw [List.length_take] at hi
  have:=hlt i (by omega)
  rw [List.getElem_take] at e
  rw [List.getD_eq_getElem?_getD,List.getElem?_eq_getElem (by omega),Option.getD_some,e,hm] at this
  omega
 have htk:x.take (k+1)=x.take k++[(m:Int)]:=by
  rw [List.take_succ_eq_append_getElem hk]
  rw [List.getD_eq_getElem?_getD,List.getElem?_eq_getElem hk,Option.getD_some] at hm
  rw [hm]
 have e0:((Ym t x f k).map eI).set m [.i .i64 (f.getD k 0)]=((Ym t x f k).set m (f.getD k 0)).map eI:=by rw [List.map_set]
 rw [e0]
 congr 1
 apply List.ext_getElem
 ·simp [Ym]
 ·intro i h1 h2
  have hi:i < t.nodes.length:=by simpa [Ym] using h2
  rw [List.getElem_set]
  by_cases c:m=i
  ·subst c
   rw [if_pos rfl]
   simp only [Ym,List.getElem_map,List.getElem_range]
   unfold Ho
   have h3:B2 (x.take (k+1)) (m:Int)=true:=by rw [htk,A9];simp
   rw [if_pos h3]
   obtain ⟨j,e,j1,j2,j3⟩:=Hh h3
   rw [e,Int.toNat_natCast]
   have:j=k:=by
    rw [List.length_take] at j1
    rcases Nat.lt_trichotomy j k with c | c | c
    ·exfalso
     rw [htk,List.getD_eq_getElem?_getD,List.getElem?_append_left (by rw [List.length_take];omega),← List.getD_eq_getElem?_getD] at j2
     have:B2 (x.take k) (m:Int)=true:=by rw [A9,← j2];exact Ap (by rw [List.length_take];omega)
     rw [hnot] at this;cases this
    ·exact c
    ·omega
   rw [this]
  ·rw [if_neg c]
   simp only [Ym,List.getElem_map,List.getElem_range]
   unfold Ho
   have c':¬ (i:Int)=(m:Int):=by omega
   have e:B2 (x.take (k+1)) (i:Int)=B2 (x.take k) (i:Int):=by
    rw [htk,Bool.eq_iff_iff,A9,A9,List.mem_append]
    simp [c']
   rw [e]
   by_cases c2:B2 (x.take k) (i:Int)=true
   ·rw [if_pos c2,if_pos c2,htk,Abx c2]
   ·rw [if_neg c2,if_neg c2]
def hbF (t:A2) (x f:List Int):Rows:=if GR t x f=true then hbM t x f else []
inductive N7 (p:Nat→Nat→Bool) (N:Nat) (a:Nat):Nat→Prop where
 | one {b:Nat} (hb:b < N) (h:p a b=true):N7 p N a b
 | more {b c:Nat} (h1:N7 p N a b) (hc:c < N) (h:p b c=true):N7 p N a c
theorem N7.lt {p:Nat→Nat→Bool} {N a b:Nat} (h:N7 p N a b):b < N:=by cases h<;>assumption
theorem N7.trans {p:Nat→Nat→Bool} {N a b c:Nat} (h:N7 p N a b) (k:N7 p N b c):N7 p N a c:=by
 induction k with
 | one hb h2=>exact .more h hb h2
 | more _ hc h2 ih=>exact .more ih hc h2
open Classical in
theorem G0 {n:Nat} (hn:n≤64) (p:Nat→Nat→Bool) {a b:Nat} (ha:a < n):((DP (Ar n p)).getD a 0#64).getLsbD b=true↔N7 p n a b:=by
 have hl:(Ar n p).length≤64:=by rw [Al];exact hn
 have e:(DP (Ar n p)).getD a 0#64=J8 (Ar n p) ((Ar n p).getD a 0#64):=by
  rw [DP,D5 hn,if_pos rfl,List.getD_eq_getElem?_getD]
  simp [Al,ha]
 rw [e]
 have hc:=A0X hl ((Ar n p).getD a 0#64)
 have row:∀ i j,i < n→(((Ar n p).getD i 0#64).getLsbD j=true↔j < n∧p i j=true):=fun i j hi=>by
  rw [JX hi,At]
  simp only [Bool.and_eq_true,decide_eq_true_eq]
  exact ⟨fun h=>h.1,fun h=>⟨h,by omega⟩⟩
 constructor
 ·intro h
  have:=hc.least (BS fun j=>decide (N7 p n a j)) (fun j hj=>by
   obtain ⟨h1,h2⟩:=(row a j ha).1 hj
   rw [At]
   simp only [Bool.and_eq_true,decide_eq_true_eq]
   exact ⟨.one h1 h2,by omega⟩) (fun y hy hs j hj=>by
   rw [Al] at hy
   obtain ⟨h1,h2⟩:=(row y j hy).1 hj
   rw [At] at hs ⊢
   simp only [Bool.and_eq_true,decide_eq_true_eq] at hs ⊢
   exact ⟨.more hs.1 h1 h2,by omega⟩) b h
  rw [At] at this
  simp only [Bool.and_eq_true,decide_eq_true_eq] at this
  exact this.1
 ·intro h
  induction h with
  | one hb h=>exact hc.sub _ ((row a _ ha).2 ⟨hb,h⟩)
  | more h1 hc' h2 ih=>exact hc.closed _ (by rw [Al];exact h1.lt) ih _ ((row _ _ h1.lt).2 ⟨hc',h2⟩)
theorem Jj {n:Nat} (hn:n≤64) (p:Nat→Nat→Bool):(DP (Ar n p)).length=n:=by
 rw [DP,D5 hn,if_pos rfl];simp [Al]
theorem AaU {n:Nat} (hn:n≤64) (p:Nat→Nat→Bool):DJ (DP (Ar n p))=true:=by
 simp only [DJ,Bool.and_eq_true,decide_eq_true_eq,List.all_eq_true,Jj hn]
 refine ⟨hn,fun r hr=>?_⟩
 obtain ⟨i,hi,rfl⟩:=List.getElem_of_mem hr
 rw [Jj hn] at hi
 apply Bp
 intro j hj
 rw [BitVec.getLsbD_and,BitVec.getLsbD_not,Gg,At]
 have e:(DP (Ar n p))[i]=(DP (Ar n p)).getD i 0#64:=by rw [List.getD_eq_getElem?_getD,List.getElem?_eq_getElem (by rw [Jj hn];exact hi)];rfl
 rw [e]
 cases hb:((DP (Ar n p)).getD i 0#64).getLsbD j with
 | false=>simp
 | true =>
  have:=((G0 hn p hi).1 hb).lt
  simp [this,hj]
theorem Px {n:Nat} (hn:n≤64) (p:Nat→Nat→Bool) (x:Int×Int):x∈CS (DP (Ar n p))↔∃ a b:Nat,a < n∧x=((a:Int),(b:Int))∧N7 p n a b:=by
 rw [CS,AaU hn,if_pos rfl,Jj hn,List.mem_flatMap]
 constructor
 ·rintro ⟨a,ha,h⟩
  have ha':=List.mem_range.1 ha
  obtain ⟨j,hj,rfl⟩:=List.mem_map.1 h
  obtain ⟨h1,h2⟩:=DE (BQ.1 hj)
  obtain ⟨b,rfl⟩:=Int.eq_ofNat_of_zero_le h1
  have h3:=BQ.1 hj
  rw [AS] at h3
  exact ⟨a,b,ha',rfl,(G0 hn p ha').1 h3⟩
 ·rintro ⟨a,b,ha,rfl,h⟩
  refine ⟨a,List.mem_range.2 ha,List.mem_map.2 ⟨b,BQ.2 ?_,rfl⟩⟩
  rw [AS]
  exact (G0 hn p ha).2 h
theorem Afk {t:A2} (hu:Kt t) {a:Nat}:∀ (n:Nat) (b:Nat),b < n→b < t.nodes.length→AA t a b=true→a < b:=by
 intro n
 induction n with
 | zero=>intro b h;omega
 | succ n ih =>
  intro b hbn hb h
  unfold AA at h
  have hub:=hu b hb
  rw [Ec hu a (by omega)] at h
  by_cases c1:(t.at b).up < 0
  ·rw [if_pos c1] at h;cases h
  ·rw [if_neg c1] at h
   by_cases c2:(t.at b).up=a
   ·omega
   ·rw [if_neg c2] at h
    have:=ih (t.at b).up.toNat (by omega) (by omega) h
    omega
theorem Lk {t:A2} (ht:A8 t) {a b:Nat} (h:AE t a b=true):a < b:=by
 simp only [AE,Bool.and_eq_true,Int.toNat_natCast] at h
 obtain ⟨⟨h1,h2⟩,h3⟩:=h
 simp only [BI,Bool.and_eq_true,decide_eq_true_eq] at h1 h2
 by_cases c:(t.at a).thread < 0
 ·rw [if_pos c,decide_eq_true_eq] at h3
  have k1:=(ht.thr_iff (m:=a) (by omega)).1 c
  have k2:¬ b < t.locs.length:=fun k=>by have:=(ht.thr_iff (m:=b) (by omega)).2 k;omega
  omega
 ·rw [if_neg c] at h3
  exact Afk ht.up (b+1) b (by omega) (by omega) h3
theorem TK {t:A2} (ht:A8 t) {v:Nat} (hv:v < t.nodes.length) (hu:0≤(t.at v).up):AE t (t.at v).up v=true:=by
 have hlt:=ht.up v hv
 obtain ⟨u,hu'⟩:=Int.eq_ofNat_of_zero_le hu
 have hul:u < t.nodes.length:=by omega
 have hl:t.locs.length≤v:=by
  rcases Nat.lt_or_ge v t.locs.length with h1 | h1
  ·have:=(ht.init v h1).up;omega
  ·exact h1
 have hg:=ht.good v hl hv
 have hp:=hg.par hu
 rw [hu',Int.toNat_natCast] at hp
 have hth:=hg.thr
 rw [hu',AE,BN hul,BN hv,Int.toNat_natCast,Int.toNat_natCast,if_neg (by omega)]
 simp only [Bool.true_and]
 unfold AA
 rw [Ec ht.up u (by omega),if_neg (by omega),if_pos hu']
theorem Jf {s:A5} (h:s.has.length=s.jf.length) (n:Int):SY s n=Ho s.has s.jf n:=by
 unfold SY Ho
 have h1:=CE s.has n
 cases c:B2 s.has n with
 | false =>
  rw [c] at h1
  have:=of_decide_eq_true h1
  simp [this]
 | true =>
  obtain ⟨k,e,hk,_,_⟩:=Hh c
  rw [e,if_neg (by omega)];simp
def plN (t:A2) (s:A5) (n:Int):Int:=Bd s (t.at n.toNat).loc (if (t.at n.toNat).kind=2 then SY s n else n)
def KZ (t:A2) (s:A5) (a b:Int):Bool:=Se (t.at a.toNat) (t.at b.toNat) (plN t s a) (plN t s b)
def YT (t:A2) (s:A5):Bool:=BH t s && (CS (hbM t s.has s.jf)).all fun x=>KZ t s x.1 x.2
theorem BP {t:A2} {s:A5} (h:BH t s=true):GR t s.has s.jf=true:=by
 simp only [BH,Bool.and_eq_true,decide_eq_true_eq] at h
 obtain ⟨⟨⟨⟨⟨h1,h2⟩,h3⟩,h4⟩,h5⟩,h6⟩:=h
 simp only [Cc,Bool.and_eq_true] at h1
 rw [GR,decide_eq_true h2.symm]
 simp only [Bool.true_and,Bool.and_eq_true,Ah]
 constructor
 ·intro i hi
  have:=Ah.1 h1.1 i hi
  simp only [C9,Bool.and_eq_true] at this
  rw [CB,this.1.1,this.1.2];rfl
 ·intro i hi
  have:=Ah.1 h4 i hi
  rw [GU] at this
  rw [Lo]
  split
  ·rename_i c
   rw [if_pos c] at this
   simp only [Bool.and_eq_true] at this ⊢
   exact ⟨this.1.1,this.1.2⟩
  ·rename_i c
   rw [if_neg c] at this
   exact this
theorem AjO {t:A2} {x f:List Int} (hF:DS t x f) {a b:Nat} (h:U1 t x f a b=true):(a:Int)∈x∧(b:Int)∈x∨(∃ r,r∈x∧MW t x f r=true∧Bv (Co t x f (Ho x f r)) (a:Int)=true∧Ja t x r b=true):=by
 simp only [U1,Bool.or_eq_true,Bool.and_eq_true,A9] at h
 rcases h with h | h
 ·exact .inl h.1
 ·rw [swB,List.any_eq_true] at h
  obtain ⟨r,hr,h⟩:=h
  simp only [Bool.and_eq_true] at h
  exact .inr ⟨r,hr,h.1.1,h.1.2,h.2⟩
theorem A8A {t:A2} {x:List Int} {r:Int} (hr:r∈x) {b:Nat} (h:Ja t x r b=true):(b:Int)∈x∧((b:Int)=r∨(t.at b).kind=4∧AE t r b=true):=by
 simp only [Ja,Bool.or_eq_true,Bool.and_eq_true,decide_eq_true_eq,A9] at h
 rcases h with h | h
 ·exact ⟨by rw [h.1];exact hr,.inl h.1⟩
 ·exact ⟨h.1.1.1,.inr ⟨h.1.1.2,h.2⟩⟩
theorem Vp {t:A2} (ht:A8 t) {x f:List Int} (hF:DS t x f) {w:Int} (hw:w∈x) {a:Nat} (h:Bv (Co t x f w) (a:Int)=true) :
  ∃ j,(∀ i,i≤j→Ep t x f i w∈x)∧(a:Int)∈x∧((a:Int)=Ep t x f j w∨(t.at a).kind=4∧AE t a (Ep t x f j w)=true):=by
 rw [AS] at h
 obtain ⟨j,_,h2,h3⟩:=(ED _ _ _ _ _ _).1 h
 have hin:∀ i,i≤j→Ep t x f i w∈x:=fun i hi=>by
  rcases Mx ht hF hw i (fun k hk=>h2 k (by omega)) with e | e
  ·have:=h2 i hi
   rw [e] at this;cases this
  ·exact e
 rw [L3,At,Bool.and_eq_true] at h3
 have h4:=h3.1
 simp only [A77,Bool.or_eq_true,Bool.and_eq_true,decide_eq_true_eq,A9] at h4
 refine ⟨j,hin,?_⟩
 rcases h4 with h4 | h4
 ·exact ⟨by rw [h4.1];exact hin j (Nat.le_refl _),.inl h4.1⟩
 ·exact ⟨h4.1.1.1,.inr ⟨h4.1.1.2,h4.2⟩⟩
theorem AaV {t:A2} (ht:A8 t) {x f:List Int} (hF:DS t x f) {a b:Nat} (h:N7 (U1 t x f) t.nodes.length a b):(a:Int)∈x∧(b:Int)∈x:=by
 have edge:∀ {a b:Nat},U1 t x f a b=true→(a:Int)∈x∧(b:Int)∈x:=by
  intro a b h
  rcases AjO hF h with h | ⟨r,hr,hs,hh,he⟩
  ·exact h
  ·have hk:(t.at r.toNat).kind=2:=by simp only [MW,Bool.and_eq_true,decide_eq_true_eq] at hs;exact hs.1
   obtain ⟨o1,_,_⟩:=hF.read r hr hk
   obtain ⟨_,_,h1,_⟩:=Vp ht hF o1 hh
   exact ⟨h1,(A8A hr he).1⟩
 induction h with
 | one hb h=>exact edge h
 | more h1 hc h2 ih=>exact ⟨ih.1,(edge h2).2⟩
def E7 (t:A2) (k:Nat):List Int:=((List.range k).filter fun i=>decide ((t.at i).up < 0)).map fun (i:Nat)=>(i:Int)
def BB (t:A2):A5:=⟨E7 t t.nodes.length,List.replicate (E7 t t.nodes.length).length (-1),(List.range t.locs.length).map fun (i:Nat)=>[[(i:Int)]]⟩
theorem A60 {t:A2} {k:Nat} (h:decide ((t.at k).up < 0)=true):E7 t (k+1)=E7 t k++[(k:Int)]:=by
 unfold E7
 rw [List.range_succ,List.filter_append,List.map_append]
 simp only [List.filter_cons,List.filter_nil,h,if_true,List.map_cons,List.map_nil]
theorem A5Z {t:A2} {k:Nat} (h:decide ((t.at k).up < 0)=false):E7 t (k+1)=E7 t k:=by
 unfold E7
 rw [List.range_succ,List.filter_append,List.map_append]
 simp [h]
theorem PN {t:A2} (k:Nat):(E7 t k).length≤k:=by
 unfold E7
 rw [List.length_map]
 exact Nat.le_trans (List.length_filter_le _ _) (by simp)
def Ba (l:List Int) (n:Int):Nat:=(l.takeWhile fun x=>decide (x < n)).length
def B3 (l:List Int) (k:Nat) (x:Int):List Int:=l.take k++x::l.drop k
theorem CY (l:List Int) (n:Int):Ba l n≤l.length:=(List.takeWhile_sublist _).length_le
theorem Nu {l:List Int} {n:Int}:∀ {k:Nat},k < Ba l n→l.getD k 0 < n:=by
 induction l with
 | nil=>intro k h;simp [Ba] at h
 | cons x l ih =>
  intro k h
  unfold Ba at h
  rw [List.takeWhile_cons] at h
  by_cases c:x < n
  ·simp only [c,decide_true,if_true,List.length_cons] at h
   cases k with
   | zero=>simpa using c
   | succ k =>
    have:=ih (k:=k) (by unfold Ba;omega)
    simpa using this
  ·simp [c] at h
theorem AcF {l:List Int} {n:Int} (h:Ba l n < l.length):¬ l.getD (Ba l n) 0 < n:=by
 induction l with
 | nil=>simp at h
 | cons x l ih =>
  unfold Ba at h ⊢
  rw [List.takeWhile_cons] at h ⊢
  by_cases c:x < n
  ·simp only [c,decide_true,if_true,List.length_cons] at h ⊢
   have:=ih (by unfold Ba;omega)
   unfold Ba at this
   simpa using this
  ·simp [c]
theorem CA {l:List Int} {k:Nat} (h:k≤l.length) (x:Int):(B3 l k x).length=l.length+1:=by
 simp [B3];omega
def C4 (t:A2) (s:A5) (n kind:Int):Bool:=BH t s && BI t n && decide ((t.at n.toNat).kind=kind) && !B2 s.has n && B2 s.has (t.at n.toNat).up
def AQ (s:A5) (n w:Int):A5:=⟨B3 s.has (Ba s.has n) n,B3 s.jf (Ba s.has n) w,s.mo⟩
structure Big (t:A2) (s:A5) (k:Nat):Prop where
 has:s.has.length≤64+k
 jf:s.jf.length≤64+k
 mo:s.mo.length=t.locs.length
 mi:∀ l∈s.mo,l≠[]∧l.length≤1+k
 mc:∀ l∈s.mo,∀ c∈l,c.length≤1+k
theorem Big.sz {t:A2} (ht:A8 t) {s:A5} {k:Nat} (h:Big t s k) (hk:k≤100):Hq s :=
 ⟨by have:=h.has;omega,by have:=h.jf;omega,by have:=h.mo;have:=ht.l4;omega,fun l hl=>by have:=(h.mi l hl).2;omega,fun l hl c hc=>by have:=h.mc l hl c hc;omega⟩
theorem Big.mono {t:A2} {s:A5} {k j:Nat} (h:Big t s k) (hk:k≤j):Big t s j :=
 ⟨by have:=h.has;omega,by have:=h.jf;omega,h.mo,fun l hl=>⟨(h.mi l hl).1,by have:=(h.mi l hl).2;omega⟩,fun l hl c hc=>by have:=h.mc l hl c hc;omega⟩
theorem A7j {t:A2} (ht:A8 t):Big t (BB t) 0:=by
 have h:=PN (t:=t) t.nodes.length
 have h64:=ht.n64
 refine ⟨by show (E7 t t.nodes.length).length≤64;omega,by show (List.replicate _ _).length≤64;rw [List.length_replicate];omega,by simp [BB],?_,?_⟩
 ·intro l hl
  simp only [BB,List.mem_map] at hl
  obtain ⟨i,_,rfl⟩:=hl
  simp
 ·intro l hl c hc
  simp only [BB,List.mem_map] at hl
  obtain ⟨i,_,rfl⟩:=hl
  simp at hc
  subst hc
  simp
theorem Aal {t:A2} {s:A5} {k:Nat} (h:Big t s k) (hj:s.jf.length=s.has.length) (n w:Int):Big t (AQ s n w) (k+1):=by
 have h1:=CY s.has n
 refine ⟨?_,?_,h.mo,fun l hl=>⟨(h.mi l hl).1,by have:=(h.mi l hl).2;omega⟩,fun l hl c hc=>by have:=h.mc l hl c hc;omega⟩
 ·show (B3 s.has (Ba s.has n) n).length≤_
  rw [CA h1];have:=h.has;omega
 ·show (B3 s.jf (Ba s.has n) w).length≤_
  rw [CA (by omega)];have:=h.jf;omega
end Go.AM
