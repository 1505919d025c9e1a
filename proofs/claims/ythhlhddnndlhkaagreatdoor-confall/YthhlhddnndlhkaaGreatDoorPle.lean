/-
  Own work, part of the proof of these laws: plain models of what functions compute.
-/
import Derived.Test.YthhlhddnndlhkaaGreatDoorAmF
set_option maxRecDepth 10000
set_option maxHeartbeats 64000000
set_option linter.unusedVariables false
set_option linter.unusedSimpArgs false
set_option linter.unnecessarySimpa false
open Bool (and_eq_true or_eq_true not_eq_true' not_eq_true)
open Int (toNat_natCast eq_ofNat_of_zero_le)
open List (getElem?_eq_getElem getD_eq_getElem?_getD length_map length_append length_take getElem_mem length_cons all_eq_true map_append range_succ getElem_of_mem any_eq_true getElem_map ext_getElem getElem_set map_set mem_map)
open Nat (lt_or_ge)
open Option (getD_some)
open BitVec (getLsbD_or getLsbD_and)
namespace Go.AM
open Go Go.Proofs
def Cc (xs:List Int):BitVec 64:=xs.foldl (fun s i=>s ||| C4 i) 0#64
def Ds (lo hi:Int):BitVec 64:=BS fun i=>decide (lo<=(i:Int)/\(i:Int) < hi)
def Ay (s:BitVec 64):List Int:=(Ca s).map fun (i:Nat)=>(i:Int)
def Dx {α:Type} (p:α->Bool) (xs:List α):Int:=match xs.findIdx? p with
 | some i=>i
 | none=>-1
theorem DA {α:Type} {p:α->Bool} {xs:List α} {k:Nat} (hk:k < xs.length) (h1:p xs[k]=true) (h2:∀ (j:Nat) (hj:j < k),p xs[j]=false):Dx p xs=k:=by
 unfold Dx
 rw [List.findIdx?_eq_some_iff_getElem.2 ⟨hk,h1,fun j hj=>by simp [h2 j hj]⟩]
theorem Eb {α:Type} {p:α->Bool} {xs:List α} (h:∀ x∈xs,p x=false):Dx p xs = -1:=by
 unfold Dx
 rw [List.findIdx?_eq_none_iff.2 h]
theorem MW {α:Type} (p:α->Bool) (xs:List α):decide (0<=Dx p xs)=xs.any p:=by
 unfold Dx
 cases h:xs.findIdx? p with
 | none=>rw [List.findIdx?_eq_none_iff] at h;simp;exact h
 | some i =>
  obtain ⟨hi,h1,_⟩:=List.findIdx?_eq_some_iff_getElem.1 h
  simp
  exact ⟨_,getElem_mem hi,h1⟩
abbrev Rows:=List (BitVec 64)
def Dk (r:Rows):Bool:=decide (r.length<=64) && r.all fun x=>decide (x &&& ~~~(Ds 0 r.length)=0#64)
def Eo (a:Rows) (s:BitVec 64):BitVec 64:=(Ca (s &&& Ds 0 a.length)).foldl (fun x i=>x ||| a.getD i 0#64) 0#64
def Mf (a:Rows):Nat->BitVec 64->BitVec 64
 | 0,s=>s
 | n+1,s=>if s ||| Eo a s=s then s else Mf a n (s ||| Eo a s)
theorem Mw {s x:BitVec 64} (h:s ||| x≠s):s.toNat < (s ||| x).toNat:=by
 have h1:s.toNat<=(s ||| x).toNat:=by rw [BitVec.toNat_or];exact Nat.left_le_or
 rcases lt_or_ge s.toNat (s ||| x).toNat with h2 | h2
 .exact h2
 .exact absurd (BitVec.eq_of_toNat_eq (by omega)) h
theorem AbO (a:Rows):∀ (n:Nat) (s:BitVec 64),18446744073709551616 - s.toNat<=n->Mf a (n+1) s=Mf a n s:=by
 intro n
 induction n with
 | zero=>intro s h;have:=s.isLt;omega
 | succ n ih =>
  intro s h
  rw [Mf]
  by_cases e:s ||| Eo a s=s
  .rw [if_pos e];rw [Mf,if_pos e]
  .rw [if_neg e]
   have:=Mw e
   rw [ih _ (by omega),Mf,if_neg e]
def GF (a:Rows) (s:BitVec 64):BitVec 64:=Mf a 18446744073709551616 s
theorem Abv (a:Rows) (s:BitVec 64):GF a s=if s ||| Eo a s=s then s else GF a (s ||| Eo a s):=by
 have h0:GF a s=Mf a (18446744073709551615+1) s:=rfl
 rw [h0,Mf]
 by_cases e:s ||| Eo a s=s
 .rw [if_pos e,if_pos e]
 .rw [if_neg e,if_neg e]
  have:=Mw e
  exact (AbO a 18446744073709551615 _ (by omega)).symm
def BV (a:Rows):Rows:=if Dk a then (List.range a.length).map (fun i=>GF a (a.getD i 0#64)) else []
def Mj (a:Rows) (s:BitVec 64):Rows:=if Dk a then (List.range a.length).map (fun (i:Nat)=>if Bc s (i:Int) then a.getD i 0#64 &&& s else 0#64) else []
theorem AjY {a:Rows} {i:Nat} (h:i < a.length):a.getD i 0#64=a[i]:=by
 simp only [getD_eq_getElem?_getD,getElem?_eq_getElem h,getD_some]
theorem HU {a:Rows} (h:Dk a=true):a.length<=64:=by simp only [Dk,and_eq_true,decide_eq_true_eq] at h;exact h.1
def BC (a:Rows):List (Int×Int):=if Dk a then (List.range a.length).flatMap (fun i=>(Ay (a.getD i 0#64)).map fun j=>((i:Int),j)) else []
theorem CO (s:BitVec 64):(Ay s).length<=64:=by
 simp only [Ay,length_map]
 unfold Ca
 exact Nat.le_trans (List.length_filter_le _ _) (by simp)
theorem Xa (a:Rows):∀ k,((List.range k).flatMap (fun i=>(Ay (a.getD i 0#64)).map fun j=>((i:Int),j))).length<=64 * k:=by
 intro k
 induction k with
 | zero=>simp
 | succ k ih =>
  rw [range_succ,List.flatMap_append,length_append]
  have:=CO (a.getD k 0#64)
  simp only [List.flatMap_cons,List.flatMap_nil,List.append_nil,length_map]
  omega
def Sub (s t:BitVec 64):Prop:=∀ j,s.getLsbD j=true->t.getLsbD j=true
def QC (a:Rows) (t:BitVec 64):Prop:=∀ y,y < a.length->t.getLsbD y=true->Sub (a.getD y 0#64) t
structure YT (a:Rows) (s t:BitVec 64):Prop where
 sub:Sub s t
 closed:QC a t
 least:∀ u,Sub s u->QC a u->Sub t u
theorem Sub.anti {s t:BitVec 64} (h:Sub s t) (k:Sub t s):s=t:=by
 apply B1
 intro j _
 cases hs:s.getLsbD j with
 | true=>exact (h j hs).symm
 | false =>
  cases ht:t.getLsbD j with
  | false=>rfl
  | true=>rw [k j ht] at hs;cases hs
theorem YT.uniq {a:Rows} {s t u:BitVec 64} (h:YT a s t) (k:YT a s u):t=u:=Sub.anti (h.least u k.sub k.closed) (k.least t h.sub h.closed)
theorem A6V {α:Type} (f:α->BitVec 64) (j:Nat):∀ (l:List α) (x:BitVec 64),(l.foldl (fun x i=>x ||| f i) x).getLsbD j=(x.getLsbD j || l.any fun i=>(f i).getLsbD j)
 | [],x=>by simp
 | i::l,x=>by rw [List.foldl_cons,A6V f j l,getLsbD_or,List.any_cons,Bool.or_assoc]
theorem Kx {a:Rows} (hl:a.length<=64) (s:BitVec 64) (j:Nat):(Eo a s).getLsbD j=true↔∃ i,i < a.length/\s.getLsbD i=true/\(a.getD i 0#64).getLsbD j=true:=by
 unfold Eo
 rw [A6V]
 simp only [BitVec.getLsbD_zero,Bool.false_or,any_eq_true,Nz,getLsbD_and,and_eq_true,Ds,Au,decide_eq_true_eq]
 constructor
 .rintro ⟨i,⟨h1,h2,h3⟩,h4⟩
  exact ⟨i,by omega,h1,h4⟩
 .rintro ⟨i,h1,h2,h3⟩
  exact ⟨i,⟨h2,by omega,by omega⟩,h3⟩
theorem AeN {a:Rows} (hl:a.length<=64):∀ (n:Nat) (s:BitVec 64),18446744073709551616 - s.toNat<=n->YT a s (Mf a n s):=by
 intro n
 induction n with
 | zero=>intro s h;have:=s.isLt;omega
 | succ n ih =>
  intro s h
  rw [Mf]
  by_cases e:s ||| Eo a s=s
  .rw [if_pos e]
   refine ⟨fun j h=>h,fun y hy hs j hj=>?_,fun u hu _=>hu⟩
   have:(Eo a s).getLsbD j=true:=(Kx hl s j).2 ⟨y,hy,hs,hj⟩
   rw [<- e,getLsbD_or,this,Bool.or_true]
  .rw [if_neg e]
   have hg:=Mw e
   obtain ⟨h1,h2,h3⟩:=ih (s ||| Eo a s) (by omega)
   refine ⟨fun j hj=>h1 j (by rw [getLsbD_or,hj,Bool.true_or]),h2,fun u hu hc=>h3 u (fun j hj=>?_) hc⟩
   rw [getLsbD_or,or_eq_true] at hj
   rcases hj with hj | hj
   .exact hu j hj
   .obtain ⟨i,hi,hs,h0⟩:=(Kx hl s j).1 hj
    exact hc i hi (hu i hs) j h0
theorem Zf {a:Rows} (hl:a.length<=64) (s:BitVec 64):YT a s (GF a s):=AeN hl _ s (by omega)
theorem Aik (s t:BitVec 64):(s ||| t=t)↔Sub s t:=by
 constructor
 .intro h j hj
  rw [<- h,getLsbD_or,hj,Bool.true_or]
 .intro h
  apply B1
  intro j _
  rw [getLsbD_or]
  cases hs:s.getLsbD j with
  | true=>rw [h j hs];rfl
  | false=>simp
def Px (a:Rows):Bool:=Dk a && (List.range a.length).all fun i=>!((BV a).getD i 0#64).getLsbD i
def orF (a b:Rows):Rows:=if Dk a && Dk b && decide (a.length=b.length) then (List.range a.length).map (fun i=>a.getD i 0#64 ||| b.getD i 0#64) else []
def Dj {α:Type} (n k:Nat) (f:Nat->α) (z:α):List α:=(List.range n).map fun j=>if j < k then f j else z
theorem A2j {α:Type} {n k:Nat} {f:Nat->α} {z:α}:(Dj n k f z).length=n:=by simp [Dj]
theorem JB {α:Type} {n k:Nat} {f:Nat->α} {z:α} (h:k < n):(Dj n k f z)[k]? = some z:=by
 unfold Dj
 rw [List.getElem?_map,List.getElem?_range h]
 simp
theorem RD {α β:Type} {n k:Nat} {f:Nat->α} {z:α} (g:α->β):((Dj n k f z).map g).set k (g (f k))=(Dj n (k+1) f z).map g:=by
 apply ext_getElem
 .simp [Dj]
 .intro j h1 h2
  simp only [Dj,getElem_set,getElem_map,List.getElem_range]
  by_cases e:k=j
  .subst e;simp
  .have:(j < k+1)↔(j < k):=by omega
   simp [e,this]
theorem EZ {α:Type} {n:Nat} {f:Nat->α} {z:α}:Dj n 0 f z=List.replicate n z:=by
 apply ext_getElem
 .simp [Dj]
 .intro j h1 h2;simp [Dj]
theorem Ho {α:Type} {n:Nat} {f:Nat->α} {z:α}:Dj n n f z=(List.range n).map f:=by
 apply List.map_congr_left
 intro j hj
 rw [if_pos (List.mem_range.1 hj)]
def AX.zero:AX:=⟨0,0,0,0,0,0,false,false,[]⟩
def A1.at (t:A1) (i:Nat):AX:=t.nodes.getD i AX.zero
def Kt (t:A1):Prop:=∀ i,i < t.nodes.length->(t.at i).up < i
def NP (t:A1) (a:Int):Nat->Int->Bool
 | 0,_=>false
 | n+1,x=>if x < 0 then false else if x=a then true else NP t a n (t.at x.toNat).up
theorem A3a {t:A1} (h:Kt t) (a:Int):∀ (n:Nat) (x:Int),x < n->x < t.nodes.length->NP t a (n+1) x=NP t a n x:=by
 intro n
 induction n with
 | zero =>
  intro x hx _
  show (if x < 0 then false else if x=a then true else NP t a 0 (t.at x.toNat).up)=false
  rw [if_pos (by omega)]
 | succ n ih =>
  intro x hx hl
  rw [NP]
  by_cases h0:x < 0
  .rw [if_pos h0,NP,if_pos h0]
  .rw [if_neg h0]
   conv=>rhs;rw [NP,if_neg h0]
   by_cases h1:x=a
   .rw [if_pos h1,if_pos h1]
   .rw [if_neg h1,if_neg h1]
    have:=h x.toNat (by omega)
    exact ih _ (by omega) (by omega)
def Aw (t:A1) (a:Int) (b:Nat):Bool:=NP t a t.nodes.length (t.at b).up
theorem Arn {t:A1} {i:Nat} (h:i < t.nodes.length):t.at i=t.nodes[i]:=by
 simp only [A1.at,getD_eq_getElem?_getD,getElem?_eq_getElem h,getD_some]
theorem A7 {t:A1} {i:Nat} (h:i < t.nodes.length):t.nodes[i]? = some (t.at i):=by rw [Arn h,getElem?_eq_getElem h]
def BP (t:A1) (n:Int):Bool:=decide (0<=n) && decide (n < t.nodes.length)
theorem A8 {t:A1} {n:Int} (h:BP t n=true):∃ m:Nat,n=(m:Int)/\m < t.nodes.length:=by
 simp only [BP,and_eq_true,decide_eq_true_eq] at h
 obtain ⟨m,rfl⟩:=eq_ofNat_of_zero_le h.1
 exact ⟨m,rfl,by omega⟩
theorem BM {t:A1} {m:Nat} (h:m < t.nodes.length):BP t (m:Int)=true:=by
 simp only [BP,and_eq_true,decide_eq_true_eq]
 omega
def Ap (t:A1) (a b:Int):Bool:=BP t a && BP t b && (if (t.at a.toNat).thread < 0 then decide (0<=(t.at b.toNat).thread) else Aw t a b.toNat)
def AH (t:A1) (a b:Int):Bool:=BP t a && BP t b && !decide (a=b) && decide (0<=(t.at a.toNat).thread) && decide ((t.at a.toNat).thread=(t.at b.toNat).thread) && !Aw t a b.toNat && !Aw t b a.toNat
def Dr (n:AX):Bool:=decide (0<=n.thread) && decide (n.kind=3) && decide (n.mode=0) && !n.rmw
def KP (n:AX):Bool:=(decide (n.kind=2) || decide (n.kind=4)) && (decide (n.mode=1) || decide (n.mode=3) || decide (n.mode=4))
def GA (n:AX):Bool:=(decide (n.kind=3) && decide (0<=n.thread) || decide (n.kind=4)) && (decide (n.mode=2) || decide (n.mode=3) || decide (n.mode=4))
theorem AQ {n:Nat} {p:Nat->Bool} (h:∀ j,j < n->p j=true):(List.range n).all p=true:=by
 rw [all_eq_true]
 intro j hj
 exact h j (List.mem_range.1 hj)
theorem AP {n k:Nat} {p:Nat->Bool} (hk:k < n) (h:p k=false):(List.range n).all p=false:=by
 rw [List.all_eq_false]
 exact ⟨k,List.mem_range.2 hk,by simp [h]⟩
theorem Ah {n:Nat} {p:Nat->Bool}:(List.range n).all p=true↔∀ j,j < n->p j=true:=by
 rw [all_eq_true]
 exact ⟨fun h j hj=>h j (List.mem_range.2 hj),fun h j hj=>h j (List.mem_range.1 hj)⟩
theorem A8m {n k:Nat} {p:Nat->Bool} (hk:k < n) (h:p k=true):(List.range n).any p=true:=by
 rw [any_eq_true]
 exact ⟨k,List.mem_range.2 hk,h⟩
theorem Ar {xs:List Int} {k:Nat} (h:k < xs.length):xs[k]? = some (xs.getD k 0):=by
 rw [getD_eq_getElem?_getD,getElem?_eq_getElem h];rfl
theorem ET {xs:List (List Int)} {k:Nat} (h:k < xs.length):xs[k]? = some (xs.getD k []):=by
 rw [getD_eq_getElem?_getD,getElem?_eq_getElem h];rfl
theorem C1 {xs:List (List (List Int))} {k:Nat} (h:k < xs.length):xs[k]? = some (xs.getD k []):=by
 rw [getD_eq_getElem?_getD,getElem?_eq_getElem h];rfl
theorem Ai {α:Type} {xs:List α} {k:Nat} {d:α} (h:k < xs.length):xs.getD k d∈xs:=by
 rw [getD_eq_getElem?_getD,getElem?_eq_getElem h]
 exact getElem_mem h
def AU (l:List Int) (n:Int):Bool:=l.any fun y=>decide (n=y)
theorem A9 {l:List Int} {n:Int}:AU l n=true↔n∈l:=by
 unfold AU
 rw [any_eq_true]
 constructor
 .rintro ⟨x,hx,e⟩;rw [of_decide_eq_true e];exact hx
 .intro h;exact ⟨n,h,by simp⟩
def LD (l:List Int) (n:Int):Int:=Dx (fun y=>decide (n=y)) l
theorem EB (l:List Int) (n:Int):decide (0<=LD l n)=AU l n:=MW _ _
theorem Cg (l:List Int) (n:Int):decide (LD l n < 0) = !AU l n:=by
 rw [<- EB]
 by_cases h:0<=LD l n
 .have:¬ LD l n < 0:=by omega
  simp [h,this]
 .have:LD l n < 0:=by omega
  simp [h,this]
theorem Kw {α:Type} {p:α->Bool} {l:List α} (h:l.any p=true):∃ k:Nat,Dx p l=k/\∃ hk:k < l.length,p l[k]=true/\∀ (j:Nat) (hj:j < k),p (l[j]'(by omega))=false:=by
 unfold Dx
 cases e:l.findIdx? p with
 | none =>
  rw [List.findIdx?_eq_none_iff] at e
  rw [any_eq_true] at h
  obtain ⟨x,hx,hp⟩:=h
  rw [e x hx] at hp;cases hp
 | some i =>
  obtain ⟨hi,h1,h2⟩:=List.findIdx?_eq_some_iff_getElem.1 e
  exact ⟨i,rfl,hi,h1,fun j hj=>by simpa using h2 j hj⟩
theorem Zj {α:Type} {p:α->Bool} {l:List α} (h:l.any p=false):Dx p l = -1:=by
 apply Eb
 intro x hx
 rw [List.any_eq_false] at h
 simpa using h x hx
theorem Gx {l:List Int} {n:Int} (h:AU l n=true):∃ k:Nat,LD l n=k/\k < l.length/\l.getD k 0=n/\∀ j,j < k->l.getD j 0≠n:=by
 obtain ⟨k,e,hk,h1,h2⟩:=Kw h
 refine ⟨k,e,hk,?_,fun j hj=>?_⟩
 .rw [getD_eq_getElem?_getD,getElem?_eq_getElem hk]
  exact (of_decide_eq_true h1).symm
 .have:=h2 j hj
  rw [getD_eq_getElem?_getD,getElem?_eq_getElem (by omega)]
  intro e;rw [getD_some] at e;rw [e] at this;simp at this
theorem Ab0 {l:List Int} {n:Int} (h:AU l n=false):LD l n = -1:=Zj h
def Di (l:List Int) (k:Nat):Bool:=decide (k=0) || decide (l.getD (k - 1) 0 < l.getD k 0)
def Gc (t:A1):BitVec 64:=BS fun i=>decide (i < t.nodes.length) && decide ((t.at i).up < 0)
def Cs (t:A1) (l:List Int) (k:Nat):Bool:=BP t (l.getD k 0) && Di l k && (decide ((t.at (l.getD k 0).toNat).up < 0) || AU l (t.at (l.getD k 0).toNat).up)
def Cz (t:A1) (l:List Int):Bool:=(List.range l.length).all (Cs t l) && decide (Gc t ||| Cc l=Cc l)
def Ba (t:A1) (x y:Int):Bool:=Dr (t.at x.toNat) && Dr (t.at y.toNat) && decide ((t.at x.toNat).val=(t.at y.toNat).val) && AH t x y
def HT (t:A1) (n loc:Int):Bool:=decide ((t.at n.toNat).kind=3) && decide ((t.at n.toNat).loc=loc)
def BA (t:A1) (l has:List Int) (loc:Int) (i:Nat):Bool:=AU has (l.getD i 0) && Di l i && HT t (l.getD i 0) loc && decide (0<=(t.at (l.getD i 0).toNat).thread) && (List.range i).all fun k=>Ba t (l.getD i 0) (l.getD k 0)
def CE (t:A1) (l has:List Int) (loc:Int):Bool:=!decide (l.length=0) && (List.range l.length).all (BA t l has loc)
def Jl (t:A1) (s:A6) (i:Nat):Bool :=
 if (t.at (s.has.getD i 0).toNat).kind=2 then AU s.has (s.jf.getD i 0) && HT t (s.jf.getD i 0) (t.at (s.has.getD i 0).toNat).loc && decide ((t.at (s.jf.getD i 0).toNat).val=(t.at (s.has.getD i 0).toNat).val) else decide (s.jf.getD i 0 = -1)
def Eh (t:A1) (s:A6) (loc:Nat):Bool :=
 let m:=s.mo.getD loc []
 !decide (m.length=0) && decide (m.getD 0 []=[(loc:Int)]) && (List.range m.length).all fun i=>decide (i=0) || CE t (m.getD i []) s.has loc
def Mv (t:A1) (s:A6) (i:Nat):Bool :=
 !decide ((t.at (s.has.getD i 0).toNat).kind=3) || decide (((s.mo.getD (t.at (s.has.getD i 0).toNat).loc.toNat []).filter fun c=>AU c (s.has.getD i 0)).length=1)
def Bd (t:A1) (s:A6):Bool:=Cz t s.has && decide (s.jf.length=s.has.length) && decide (s.mo.length=t.locs.length) && (List.range s.has.length).all (Jl t s) && (List.range s.mo.length).all (Eh t s) && (List.range s.has.length).all (Mv t s)
structure DL (s:A6):Prop where
 has:s.has.length<=1000
 jf:s.jf.length<=1000
 mo:s.mo.length<=1000
 mi:∀ l∈s.mo,l.length<=1000
 mc:∀ l∈s.mo,∀ c∈l,c.length<=1000
theorem DL.mi' {s:A6} (h:DL s) (k:Nat):(s.mo.getD k []).length<=1000:=by
 by_cases hk:k < s.mo.length
 .exact h.mi _ (Ai hk)
 .rw [getD_eq_getElem?_getD,List.getElem?_eq_none (by omega)];simp
theorem DL.mc' {s:A6} (h:DL s) (k j:Nat):((s.mo.getD k []).getD j []).length<=1000:=by
 by_cases hk:k < s.mo.length
 .by_cases hj:j < (s.mo.getD k []).length
  .exact h.mc _ (Ai hk) _ (Ai hj)
  .rw [getD_eq_getElem?_getD,List.getElem?_eq_none (by omega)];simp
 .rw [getD_eq_getElem?_getD,List.getElem?_eq_none (by rw [getD_eq_getElem?_getD,List.getElem?_eq_none (by omega)];simp)];simp
def Qz (s:A6) (n:Int):Int:=if LD s.has n < 0\/(s.jf.length:Int)<=LD s.has n then -1 else s.jf.getD (LD s.has n).toNat 0
def Be (s:A6) (loc w:Int):Int:=if loc < 0\/(s.mo.length:Int)<=loc then -1 else Dx (fun c=>AU c w) (s.mo.getD loc.toNat [])
def Dg (a b:AX) (pa pb:Int):Bool :=
 (!(decide (a.kind=2) || decide (a.kind=3)) || !(decide (b.kind=2) || decide (b.kind=3)) || !decide (a.loc=b.loc)) || (if b.kind=2 then decide (pa<=pb) else decide (pa < pb))
def C8 (t:A1) (a u:Nat):Bool:=decide (a < t.nodes.length) && decide ((t.at a).up=u) && decide ((t.at a).thread=(t.at u).thread)
def GJ (t:A1) (v:Int):Bool:=decide (0<=v) && decide (v < t.vals)
def LL (t:A1) (v:Int):Bool:=decide (0<=v) && decide (v < t.locs.length)
def A8J (t:A1) (u:Nat):Bool:=(t.at u).fin && decide ((t.at u).regs.length=(t.regs.getD (t.at u).thread.toNat []).length) && (t.at u).regs.all (GJ t)
def Do (t:A1) (u:Nat):Bool :=
 let n:=t.at (u+1);let m:=t.at u
 (decide (n.kind=4) && decide (n.loc=0) && decide (n.val=0) && !n.rmw && decide (1<=n.mode) && decide (n.mode<=4)) ||
 (decide (n.kind=3) && LL t n.loc && GJ t n.val &&
  (if n.rmw then decide (0<=n.mode) && decide (n.mode<=4) && decide (m.kind=2) && decide (m.loc=n.loc) && decide (m.mode=n.mode) else decide (n.mode=0) || decide (n.mode=2) || decide (n.mode=4)))
def Hl (t:A1) (u:Nat):Bool:=decide (u+1 < t.nodes.length) && decide ((t.at (u+1)).up=u) && (t.at (u+1)).rmw
def EJ (t:A1) (a v:Nat) (loc mode:Int):Bool:=decide ((t.at a).kind=2) && decide ((t.at a).val=v) && decide ((t.at a).loc=loc) && decide ((t.at a).mode=mode) && !(t.at a).rmw
def AnS (t:A1) (u:Nat):Prop:=u < t.nodes.length/\0<=(t.at u).thread/\(t.at u).thread < t.regs.length
def GL (t:A1):Nat->Nat->Nat->Prop
 | 0,_,_=>False
 | n+1,u,e=>AnS t u/\(
  (C8 t (u+1) u=false/\A8J t u=true/\e=u+1) \/
  (C8 t (u+1) u=true/\(t.at u).fin=false/\(t.at u).regs=[]/\Do t u=true/\GL t n (u+1) e) \/
  (C8 t (u+1) u=true/\(t.at u).fin=false/\(t.at u).regs=[]/\∃ (vals:Nat) (k:Nat->Nat) (loc mode:Int),t.vals=vals/\0 < vals/\k 0=u+1/\k vals=e/\LL t loc=true /\
   (∀ v,v < vals->C8 t (k v) u=true/\EJ t (k v) v loc mode=true/\GL t n (k v) (k (v+1))) /\
   ((mode=0\/mode=1\/mode=4)\/(0<=mode/\mode<=4/\∃ v,v < vals/\Hl t (k v)=true))))
def Jk (t:A1) (i:Nat):Bool:=decide ((t.at i).thread = -1) && decide ((t.at i).up = -1) && decide ((t.at i).kind=3) && decide ((t.at i).loc=i) && decide ((t.at i).mode=0) && GJ t (t.at i).val && !(t.at i).rmw && !(t.at i).fin && decide ((t.at i).regs=[])
def Eu (t:A1) (u i:Nat):Bool:=decide ((t.at u).thread=i) && decide ((t.at u).up = -1) && decide ((t.at u).kind=1) && decide ((t.at u).loc=0) && decide ((t.at u).mode=0) && decide ((t.at u).val=0) && !(t.at u).rmw
structure A5 (t:A1):Prop where
 v2:2<=t.vals
 v4:t.vals<=4
 l4:t.locs.length<=4
 ln:t.locs.Nodup
 n64:t.nodes.length<=64
 r1:1<=t.regs.length
 r4:t.regs.length<=4
 rl:∀ l∈t.regs,l.length<=4/\l.Nodup
 first:t.locs.length<=t.nodes.length/\∀ i,i < t.locs.length->Jk t i=true
 thr:∃ s:Nat->Nat,s 0=t.locs.length/\s t.regs.length=t.nodes.length/\∀ i,i < t.regs.length->Eu t (s i) i=true/\∃ n,GL t n (s i) (s (i+1))
theorem AlZ {v n:Int} (hn:0 < n):(v.tmod n < 0->v.tmod n+n=v % n/\-n < v.tmod n)/\(¬ v.tmod n < 0->v.tmod n=v % n):=by
 have h1:v.tmod n < n:=Int.tmod_lt_of_pos v hn
 have h2 : -n < v.tmod n:=Int.lt_tmod_of_pos v hn
 have h3:v.tmod n+n * v.tdiv n=v:=Int.tmod_add_mul_tdiv v n
 have h4:v % n=v.tmod n % n:=by
  conv=>lhs;rw [<- h3]
  exact Int.add_mul_emod_self_left ..
 constructor
 .intro h
  refine ⟨?_,h2⟩
  rw [h4,<- Int.add_emod_right,Int.emod_eq_of_lt (by omega) (by omega)]
 .intro h
  rw [h4,Int.emod_eq_of_lt (by omega) (by omega)]
inductive GE:List VV->Prop
 | mk (op n:Int) (nm:ByteArray) (kids:List (List VV)):kids.length<=1000->(∀ k∈kids,GE k)->GE [.i .i64 op,.i .i64 n,.s nm,.ls kids]
theorem GE.len {r:List VV} (h:GE r):r.length=4:=by cases h;rfl
theorem GE.frz {r:List VV} (h:GE r) {hh:VH} {d:Nat}:Bh (frz hh (d+1)) r=some (r,[]):=by cases h;rfl
theorem GE.take {r:List VV} (h:GE r):r.take 4=r:=by cases h;rfl
theorem GE.cell {r:List VV} (h:GE r):r.all VV.cell=true:=by cases h;rfl
theorem A2B {l:List (List VV)} {k:Nat} (h:k < l.length):l[k]? = some l[k]:=getElem?_eq_getElem h
def N4:List ByteArray:=[⟨⟨[97]⟩⟩,⟨⟨[98]⟩⟩,⟨⟨[99]⟩⟩,⟨⟨[100]⟩⟩]
def Jy (k:Int):Bool:=decide (k=1) || decide (k=2) || decide (k=4) || decide (k=5)
structure OKS (locs:List ByteArray) (kind mode:Int) (reg loc:ByteArray) (args:Nat):Prop where
 k:1<=kind/\kind<=7
 rn:Jy kind=true->reg∈N4
 one:kind=1\/kind=3\/kind=4\/kind=5\/kind=7->1<=args
 two:kind=5->2<=args
 loc:kind=2\/kind=3\/kind=4\/kind=5->loc∈locs
 ml:kind=2->mode=0\/mode=1\/mode=4
 ms:kind=3->mode=0\/mode=2\/mode=4
 ma:kind=4\/kind=5->0<=mode/\mode<=4
 mf:kind=6->1<=mode/\mode<=4
 rs:reg.size<=1000
abbrev rS (kind mode:Int) (reg loc:ByteArray) (args th el:List (List VV)):List VV:=[.i .i64 kind,.i .i64 mode,.s reg,.s loc,.ls args,.ls th,.ls el]
inductive GS (locs:List ByteArray):List VV->Prop
 | mk (kind mode:Int) (reg loc:ByteArray) (args th el:List (List VV)):args.length<=1000->(∀ a∈args,GE a)->th.length<=1000->el.length<=1000 ->
  (∀ s∈th,GS locs s)->(∀ s∈el,GS locs s)->OKS locs kind mode reg loc args.length->GS locs (rS kind mode reg loc args th el)
inductive RI (names:List ByteArray):List VV->Prop
 | mk (kind mode:Int) (reg loc:ByteArray) (args th el:List (List VV)):(Jy kind=true->reg∈names)->(∀ s∈th,RI names s)->(∀ s∈el,RI names s)->RI names (rS kind mode reg loc args th el)
theorem RI.mono {n m:List ByteArray} (h:∀ x∈n,x∈m) {r:List VV} (k:RI n r):RI m r:=by
 induction k with
 | mk kind mode reg loc args th el h1 h2 h3 ih1 ih2=>exact .mk _ _ _ _ _ _ _ (fun e=>h _ (h1 e)) ih1 ih2
theorem GS.len {l:List ByteArray} {r:List VV} (h:GS l r):r.length=7:=by cases h;rfl
theorem GS.frz {l:List ByteArray} {r:List VV} (h:GS l r) {hh:VH} {d:Nat}:Bh (frz hh (d+1)) r=some (r,[]):=by cases h;rfl
theorem GS.take {l:List ByteArray} {r:List VV} (h:GS l r):r.take 7=r:=by cases h;rfl
theorem GS.cell {l:List ByteArray} {r:List VV} (h:GS l r):r.all VV.cell=true:=by cases h;rfl
theorem Afn {c:List ByteArray} {l:List (List VV)} (h:∀ k∈l,GS c k):DX 7 l=true:=by
 unfold DX
 rw [all_eq_true]
 intro r hr
 rw [(h r hr).len];rfl
theorem Et {t t':A1} {l:List AX} (h:t'.nodes=t.nodes++l) {i:Nat} (hi:i < t.nodes.length):t'.at i=t.at i:=by
 unfold A1.at
 rw [h,getD_eq_getElem?_getD,getD_eq_getElem?_getD,List.getElem?_append_left hi]
theorem Agr {t t':A1} {l:List AX} (h:t'.nodes=t.nodes++l) {i:Nat} (hi:t.nodes.length<=i) (h2:i < t'.nodes.length):t'.at i∈l:=by
 have hl:t'.nodes.length=t.nodes.length+l.length:=by rw [h,length_append]
 unfold A1.at
 rw [h,getD_eq_getElem?_getD,List.getElem?_append_right hi,getElem?_eq_getElem (by omega)]
 exact getElem_mem _
structure A86 (t t':A1) (l:List AX):Prop where
 n:t'.nodes=t.nodes++l
 v:t'.vals=t.vals
 l:t'.locs=t.locs
 r:t'.regs=t.regs
theorem A86.len {t t':A1} {l:List AX} (h:A86 t t' l):t.nodes.length<=t'.nodes.length:=by rw [h.n,length_append];omega
theorem Abw {t t':A1} {l:List AX} (h:A86 t t' l) {u a:Nat} (hu:u < t.nodes.length) (hx:∀ x∈l,x.up≠(u:Int)):C8 t' a u=C8 t a u:=by
 unfold C8
 by_cases ha:a < t.nodes.length
 .have:=h.len
  have h0:a < t'.nodes.length:=by omega
  rw [Et h.n ha,Et h.n hu,decide_eq_true ha,decide_eq_true h0]
 .rw [decide_eq_false ha]
  by_cases h0:a < t'.nodes.length
  .have:=hx _ (Agr h.n (by omega) h0)
   rw [decide_eq_false this];simp
  .rw [decide_eq_false h0];simp
theorem AaK {t t':A1} {l:List AX} (h:A86 t t' l) {u:Nat} (hu:u < t.nodes.length) (hx:∀ x∈l,x.up≠(u:Int)):Hl t' u=Hl t u:=by
 unfold Hl
 by_cases ha:u+1 < t.nodes.length
 .have:=h.len
  have h0:u+1 < t'.nodes.length:=by omega
  rw [Et h.n ha,decide_eq_true ha,decide_eq_true h0]
 .rw [decide_eq_false ha]
  by_cases h0:u+1 < t'.nodes.length
  .have:=hx _ (Agr h.n (by omega) h0)
   rw [decide_eq_false this];simp
  .rw [decide_eq_false h0];simp
theorem GL.lt {t:A1}:∀ {n u e:Nat},GL t n u e->u < e:=by
 intro n
 induction n with
 | zero=>intro u e h;exact h.elim
 | succ n ih =>
  intro u e h
  rcases h.2 with ⟨_,_,rfl⟩ | ⟨_,_,_,_,b⟩ | ⟨_,_,_,vals,k,loc,mode,_,h0,hk0,hke,_,hs,_⟩
  .omega
  .have:=ih b;omega
  .have h3:∀ j,j<=vals->u+1<=k j:=by
    intro j
    induction j with
    | zero=>intro _;omega
    | succ j ihj =>
     intro hj
     have h1:=ihj (by omega)
     have h2:=ih (hs j (by omega)).2.2
     omega
   have:=h3 vals (Nat.le_refl _)
   omega
theorem M9 {t:A1} {a u:Nat} (h:C8 t a u=true):a < t.nodes.length:=by
 unfold C8 at h
 simp only [and_eq_true,decide_eq_true_eq] at h
 exact h.1.1
theorem AeS {t:A1} {n:Nat} {k:Nat->Nat} {vals:Nat} (hs:∀ v,v < vals->GL t n (k v) (k (v+1))):∀ i j,i<=j->j<=vals->k i<=k j:=by
  intro i j h0 hj
  induction j with
  | zero => have : i = 0 := by omega
            subst this;exact Nat.le_refl _
  | succ j ih =>
    by_cases e:i=j+1
    · subst e;exact Nat.le_refl _
    · have h1 := ih (by omega) (by omega)
      have h2:=(hs j (by omega)).lt
      omega
theorem GL.le {t:A1}:∀ {n u e:Nat},GL t n u e->e<=t.nodes.length:=by
 intro n
 induction n with
 | zero=>intro u e h;exact h.elim
 | succ n ih =>
  intro u e h
  rcases h.2 with ⟨_,_,rfl⟩ | ⟨_,_,_,_,b⟩ | ⟨_,_,_,vals,k,loc,mode,_,h0,hk0,hke,_,hs,_⟩
  .exact h.1.1
  .exact ih b
  .have:=ih (hs (vals - 1) (by omega)).2.2
   rw [show vals - 1+1=vals by omega,hke] at this
   exact this
theorem GL.more {t t':A1} {l:List AX} (h:A86 t t' l):∀ {n u e:Nat},GL t n u e->(∀ x∈l,x.up < (u:Int)\/(e:Int)<=x.up)->GL t' n u e:=by
 intro n
 induction n with
 | zero=>intro u e b;exact b.elim
 | succ n ih =>
  intro u e b hx
  have h5:=b.lt
  have h0:=b.le
  have hl:=h.len
  obtain ⟨⟨i1,i2,i3⟩,b⟩:=b
  have hu:t'.at u=t.at u:=Et h.n i1
  have hc:∀ a,C8 t' a u=C8 t a u:=fun a=>Abw h i1 fun x hx' e'=>by rcases hx x hx' with h1 | h1<;>omega
  refine ⟨⟨by omega,by rw [hu];exact i2,by rw [hu,h.r];exact i3⟩,?_⟩
  rcases b with ⟨b1,b2,b3⟩ | ⟨b1,b2,b3,b4,b5⟩ | ⟨b1,b2,b3,vals,k,loc,mode,b4,b5,b6,b7,b8,b9,b10⟩
  .refine .inl ⟨(hc _).trans b1,?_,b3⟩
   unfold A8J GJ at b2 ⊢
   rw [hu,h.r,h.v];exact b2
  .refine .inr (.inl ⟨(hc _).trans b1,by rw [hu];exact b2,by rw [hu];exact b3,?_,ih b5 fun x hx'=>?_⟩)
   .have:=M9 b1
    unfold Do LL GJ at b4 ⊢
    rw [hu,Et h.n this,h.l,h.v];exact b4
   .rcases hx x hx' with h1 | h1
    .exact .inl (by omega)
    .exact .inr h1
  .have hr:=AeS fun v hv=>(b9 v hv).2.2
   refine .inr (.inr ⟨(hc _).trans b1,by rw [hu];exact b2,by rw [hu];exact b3,vals,k,loc,mode,by rw [h.v];exact b4,b5,b6,b7,by unfold LL at b8 ⊢;rw [h.l];exact b8,fun v hv=>?_,?_⟩)
   .obtain ⟨c1,c2,c3⟩:=b9 v hv
    have h1:=hr 0 v (by omega) (by omega)
    have h2:=hr (v+1) vals (by omega) (by omega)
    refine ⟨(hc _).trans c1,?_,ih c3 fun x hx'=>?_⟩
    .unfold EJ at c2 ⊢
     rw [Et h.n (M9 c1)];exact c2
    .rcases hx x hx' with h3 | h3
     .exact .inl (by omega)
     .exact .inr (by omega)
   .rcases b10 with b10 | ⟨c1,c2,v,c3,c4⟩
    .exact .inl b10
    .have h1:=hr 0 v (by omega) (by omega)
     have h2:=hr (v+1) vals (by omega) (by omega)
     have h3:=(b9 v c3).2.2.lt
     refine .inr ⟨c1,c2,v,c3,?_⟩
     rw [AaK h (M9 (b9 v c3).1) fun x hx' e'=>by rcases hx x hx' with h4 | h4<;>omega]
     exact c4
theorem GL.fuel {t:A1}:∀ {n u e:Nat},GL t n u e->GL t (n+1) u e:=by
 intro n
 induction n with
 | zero=>intro u e h;exact h.elim
 | succ n ih =>
  intro u e h
  refine ⟨h.1,?_⟩
  rcases h.2 with b | ⟨b1,b2,b3,b4,b5⟩ | ⟨b1,b2,b3,vals,k,loc,mode,b4,b5,b6,b7,b8,b9,b10⟩
  .exact .inl b
  .exact .inr (.inl ⟨b1,b2,b3,b4,ih b5⟩)
  .exact .inr (.inr ⟨b1,b2,b3,vals,k,loc,mode,b4,b5,b6,b7,b8,fun v hv=>⟨(b9 v hv).1,(b9 v hv).2.1,ih (b9 v hv).2.2⟩,b10⟩)
theorem GL.fuel' {t:A1} {n m u e:Nat} (h:GL t n u e) (hm:n<=m):GL t m u e:=by
  induction m with
  | zero => have : n = 0 := by omega
            subst this;exact h
  | succ m ih =>
    by_cases e:n=m+1
    · subst e;exact h
    · exact (ih (by omega)).fuel
abbrev TT (vals:Int) (locs:List ByteArray) (rg:List (List ByteArray)) (ns:List AX):A1:=⟨vals,locs,rg,ns⟩
def A85 (vals:Int) (locs:List ByteArray) (rg:List (List ByteArray)) (ns:List AX) (n:AX) (ns':List AX):Prop :=
 ∃ (f:Bool) (g:List Int) (l:List AX),ns' = ns++{ n with fin:=f,regs:=g }::l/\(∀ x∈l,(ns.length:Int)<=x.up)/\∃ m,GL (TT vals locs rg ns') m ns.length ns'.length
def KQ (nl:Nat) (vals:Int) (m n:AX):Bool :=
 (decide (n.kind=4) && decide (n.loc=0) && decide (n.val=0) && !n.rmw && decide (1<=n.mode) && decide (n.mode<=4)) ||
 (decide (n.kind=3) && (decide (0<=n.loc) && decide (n.loc < nl)) && (decide (0<=n.val) && decide (n.val < vals)) &&
  (if n.rmw then decide (0<=n.mode) && decide (n.mode<=4) && decide (m.kind=2) && decide (m.loc=n.loc) && decide (m.mode=n.mode) else decide (n.mode=0) || decide (n.mode=2) || decide (n.mode=4)))
theorem Abn (t:A1) (u:Nat):Do t u=KQ t.locs.length t.vals (t.at u) (t.at (u+1)):=rfl
theorem Pz {vals:Int} {locs:List ByteArray} {rg:List (List ByteArray)} {a:List AX} {x:AX} {b:List AX}:(TT vals locs rg (a++x::b)).at a.length=x:=by
 simp [A1.at]
theorem Ajs {vals:Int} {locs:List ByteArray} {rg:List (List ByteArray)} {a:List AX} {x y:AX} {b:List AX}:(TT vals locs rg (a++x::y::b)).at (a.length+1)=y:=by
 simp [A1.at]
theorem Ahp {vals:Int} {locs:List ByteArray} {rg:List (List ByteArray)} {ns:List AX} {n:AX} {th:Nat} (ht:n.thread=th) (hth:th < rg.length) {g:List Int} (hg:g.length=(rg.getD th []).length) (hv:∀ v∈g,0<=v/\v < vals) :
  A85 vals locs rg ns n (ns++[{ n with fin:=true,regs:=g }]):=by
 refine ⟨true,g,[],rfl,by simp,1,?_⟩
 have ha:(TT vals locs rg (ns++[{ n with fin:=true,regs:=g }])).at ns.length = { n with fin:=true,regs:=g }:=Pz
 have hl:(TT vals locs rg (ns++[{ n with fin:=true,regs:=g }])).nodes.length=ns.length+1:=by simp
 refine ⟨⟨by omega,by rw [ha];show 0<=n.thread;omega,by rw [ha];show n.thread < (rg.length:Int);omega⟩,.inl ⟨?_,?_,by simp⟩⟩
 .unfold C8
  rw [hl];simp
 .unfold A8J
  rw [ha]
  simp only [ht,toNat_natCast,hg,decide_true,Bool.true_and,all_eq_true]
  intro v h
  obtain ⟨h1,h2⟩:=hv v h
  simp [GJ,h1,h2]
theorem A5X {n:AX} (h1:n.fin=false) (h2:n.regs=[]):({ n with fin:=false,regs:=[] }:AX)=n:=by
 cases n;simp at h1 h2;subst h1;subst h2;rfl
theorem PX {vals:Int} {locs:List ByteArray} {rg:List (List ByteArray)} {ns:List AX} {n x:AX} {th:Nat} (ht:n.thread=th) (hth:th < rg.length) (hf:n.fin=false) (hr:n.regs=[]) (hxu:x.up=ns.length) (hxt:x.thread=th)
  (ha:KQ locs.length vals n x=true) {ns':List AX} (h:A85 vals locs rg (ns++[n]) x ns'):A85 vals locs rg ns n ns':=by
 obtain ⟨f,g,l,rfl,h1,m,h2⟩:=h
 refine ⟨false,[],{ x with fin:=f,regs:=g }::l,?_,?_,m+1,?_⟩
 .rw [A5X hf hr];simp
 .intro y hy
  rcases List.mem_cons.1 hy with rfl | hy
  .show (ns.length:Int)<=x.up;omega
  .have:=h1 y hy
   simp at this;omega
 .have e:ns++[n]++{ x with fin:=f,regs:=g }::l=ns++n::{ x with fin:=f,regs:=g }::l:=by simp
  rw [e] at h2 ⊢
  have a0:(TT vals locs rg (ns++n::{ x with fin:=f,regs:=g }::l)).at ns.length=n:=Pz
  have a1:(TT vals locs rg (ns++n::{ x with fin:=f,regs:=g }::l)).at (ns.length+1) = { x with fin:=f,regs:=g }:=Ajs
  have hl:ns.length+1 < (TT vals locs rg (ns++n::{ x with fin:=f,regs:=g }::l)).nodes.length:=by simp
  refine ⟨⟨by omega,by rw [a0];omega,by rw [a0];show n.thread < (rg.length:Int);omega⟩,.inr (.inl ⟨?_,by rw [a0];exact hf,by rw [a0];exact hr,?_,?_⟩)⟩
  .unfold C8
   rw [a0,a1,decide_eq_true hl]
   simp [hxu,hxt,ht]
  .rw [Abn,a0,a1];exact ha
  .simpa using h2
theorem Y2 {vals:Int} {locs:List ByteArray} {rg:List (List ByteArray)} {ns:List AX} {x y:AX} {ns':List AX} (hu:y.up=ns.length) (hr:y.rmw=true) (h:A85 vals locs rg (ns++[x]) y ns'):Hl (TT vals locs rg ns') ns.length=true:=by
 obtain ⟨f,g,l,rfl,_⟩:=h
 have e:(TT vals locs rg (ns++[x]++{ y with fin:=f,regs:=g }::l)).at (ns.length+1) = { y with fin:=f,regs:=g }:=by
  have:=Pz (vals:=vals) (locs:=locs) (rg:=rg) (a:=ns++[x]) (x:={ y with fin:=f,regs:=g }) (b:=l)
  simpa using this
 unfold Hl
 rw [e]
 simp [hu,hr]
def A8b (vals:Int) (locs:List ByteArray) (rg:List (List ByteArray)) (ns:List AX) (n:AX) (v:Nat) (loc mode:Int) (rm:Nat->Bool) (nsv:List AX):Prop :=
 ∃ (l:List AX) (k:Nat->Nat),nsv=ns++n::l/\(∀ x∈l,(ns.length:Int)<=x.up)/\k 0=ns.length+1/\k v=nsv.length /\
  ∀ j,j < v->C8 (TT vals locs rg nsv) (k j) ns.length=true/\EJ (TT vals locs rg nsv) (k j) j loc mode=true/\(∃ m,GL (TT vals locs rg nsv) m (k j) (k (j+1)))/\(rm j=true->Hl (TT vals locs rg nsv) (k j)=true)
theorem Qu {vals:Int} {locs:List ByteArray} {rg:List (List ByteArray)} {ns:List AX} {n:AX} {loc mode:Int} {rm:Nat->Bool}:A8b vals locs rg ns n 0 loc mode rm (ns++[n]) :=
 ⟨[],fun _=>ns.length+1,rfl,by simp,rfl,by simp,fun j hj=>by omega⟩
theorem AgQ {t t':A1} {l:List AX} (h:A86 t t' l) {u a:Nat} (hu:u < t.nodes.length) (ha:a < t.nodes.length):C8 t' a u=C8 t a u:=by
 unfold C8
 have:=h.len
 rw [Et h.n ha,Et h.n hu,decide_eq_true ha,decide_eq_true (show a < t'.nodes.length by omega)]
theorem Amx {t:A1} {k:Nat->Nat} {v:Nat} (h:∀ j,j < v->∃ m,GL t m (k j) (k (j+1))):∀ i j,i<=j->j<=v->k i<=k j:=by
  intro i j h0 hj
  induction j with
  | zero => have : i = 0 := by omega
            subst this;exact Nat.le_refl _
  | succ j ih =>
    by_cases e:i=j+1
    · subst e;exact Nat.le_refl _
    · have h1 := ih (by omega) (by omega)
      obtain ⟨m,h2⟩:=h j (by omega)
      have:=h2.lt
      omega
theorem Lx {vals:Int} {locs:List ByteArray} {rg:List (List ByteArray)} {ns:List AX} {n x:AX} {v:Nat} {loc mode:Int} {rm:Nat->Bool} {nsv ns':List AX} (h:A8b vals locs rg ns n v loc mode rm nsv)
  (hxu:x.up=ns.length) (hxt:x.thread=n.thread) (hk:x.kind=2) (hv:x.val=v) (hl:x.loc=loc) (hm:x.mode=mode) (hr:x.rmw=false) (hg:A85 vals locs rg nsv x ns') (hrm:rm v=true->Hl (TT vals locs rg ns') nsv.length=true) :
  A8b vals locs rg ns n (v+1) loc mode rm ns':=by
 obtain ⟨l,k,rfl,h1,h2,h3,h4⟩:=h
 obtain ⟨f,g,l',rfl,g1,m',g2⟩:=hg
 have mo:A86 (TT vals locs rg (ns++n::l)) (TT vals locs rg ((ns++n::l)++{ x with fin:=f,regs:=g }::l')) ({ x with fin:=f,regs:=g }::l'):=⟨rfl,rfl,rfl,rfl⟩
 have h0:(TT vals locs rg (ns++n::l)).nodes.length=(ns++n::l).length:=rfl
 have ru:=Amx (t:=TT vals locs rg (ns++n::l)) (k:=k) (v:=v) fun j hj=>(h4 j hj).2.2.1
 have h5:ns.length < (ns++n::l).length:=by simp
 refine ⟨l++{ x with fin:=f,regs:=g }::l',fun j=>if j<=v then k j else ((ns++n::l)++{ x with fin:=f,regs:=g }::l').length,by simp,?_,by simp [h2],if_neg (by omega),?_⟩
 .intro y hy
  rcases List.mem_append.1 hy with hy | hy
  .exact h1 y hy
  .rcases List.mem_cons.1 hy with rfl | hy
   .show (ns.length:Int)<=x.up;omega
   .have:=g1 y hy;omega
 .intro j hj
  dsimp only
  rw [if_pos (show j<=v by omega)]
  by_cases e:j=v
  .subst e
   rw [h3,if_neg (by omega)]
   have a0:(TT vals locs rg ((ns++n::l)++{ x with fin:=f,regs:=g }::l')).at (ns++n::l).length = { x with fin:=f,regs:=g }:=Pz
   refine ⟨?_,?_,⟨m',g2⟩,hrm⟩
   .unfold C8
    rw [a0,Et mo.n (by rw [h0];exact h5)]
    have:(TT vals locs rg (ns++n::l)).at ns.length=n:=Pz
    rw [this]
    simp [hxu,hxt]
   .unfold EJ
    rw [a0]
    simp [hk,hv,hl,hm,hr]
  .rw [if_pos (show j+1<=v by omega)]
   obtain ⟨c1,c2,⟨m,c3⟩,c4⟩:=h4 j (by omega)
   have c0:=M9 c1
   have r1:=ru (j+1) v (by omega) (Nat.le_refl _)
   have r0:=ru 0 j (by omega) (by omega)
   have r2:=c3.lt
   rw [h3] at r1
   rw [h2] at r0
   have hx:∀ y∈({ x with fin:=f,regs:=g }::l':List AX),y.up < (k j:Int)\/(k (j+1):Int)<=y.up:=by
    intro y hy
    rcases List.mem_cons.1 hy with rfl | hy
    .left;show x.up < (k j:Int);omega
    .right;have:=g1 y hy;omega
   refine ⟨?_,?_,⟨m,c3.more mo hx⟩,fun h=>?_⟩
   .rw [AgQ mo (by rw [h0];exact h5) c0];exact c1
   .unfold EJ at c2 ⊢
    rw [Et mo.n c0];exact c2
   .rw [AaK mo c0 fun y hy e=>by rcases hx y hy with q | q<;>omega]
    exact c4 h
theorem Ahn {t:A1} {k:Nat->Nat}:∀ v,(∀ j,j < v->∃ m,GL t m (k j) (k (j+1)))->∃ M,∀ j,j < v->GL t M (k j) (k (j+1)):=by
 intro v
 induction v with
 | zero=>intro _;exact ⟨0,fun j hj=>by omega⟩
 | succ v ih =>
  intro h
  obtain ⟨M,hM⟩:=ih fun j hj=>h j (by omega)
  obtain ⟨m,hm⟩:=h v (by omega)
  refine ⟨max M m,fun j hj=>?_⟩
  by_cases e:j=v
  .subst e;exact hm.fuel' (Nat.le_max_right _ _)
  .exact (hM j (by omega)).fuel' (Nat.le_max_left _ _)
theorem Sf {vals:Nat} {locs:List ByteArray} {rg:List (List ByteArray)} {ns:List AX} {n:AX} {th:Nat} (ht:n.thread=th) (hth:th < rg.length) (hf:n.fin=false) (hr:n.regs=[]) {loc mode:Int} {rm:Nat->Bool} {nsv:List AX} (hv:0 < vals) (hl:0<=loc/\loc < locs.length)
  (hm:(mode=0\/mode=1\/mode=4)\/(0<=mode/\mode<=4/\∃ v,v < vals/\rm v=true)) (h:A8b vals locs rg ns n vals loc mode rm nsv):A85 vals locs rg ns n nsv:=by
 obtain ⟨l,k,rfl,h1,h2,h3,h4⟩:=h
 refine ⟨false,[],l,by rw [A5X hf hr],h1,?_⟩
 obtain ⟨M,hM⟩:=Ahn vals fun j hj=>(h4 j hj).2.2.1
 have a0:(TT vals locs rg (ns++n::l)).at ns.length=n:=Pz
 have c0:=(h4 0 hv).1
 rw [h2] at c0
 refine ⟨M+1,⟨by have:=M9 c0;omega,by rw [a0];omega,by rw [a0];show n.thread < (rg.length:Int);omega⟩,.inr (.inr ⟨c0,by rw [a0];exact hf,by rw [a0];exact hr,vals,k,loc,mode,rfl,hv,h2,h3,?_,fun v hv=>⟨(h4 v hv).1,(h4 v hv).2.1,hM v hv⟩,?_⟩)⟩
 .simp [LL,hl.1,hl.2]
 .rcases hm with hm | ⟨m1,m2,v,m3,m4⟩
  .exact .inl hm
  .exact .inr ⟨m1,m2,v,m3,(h4 v m3).2.2.2 m4⟩
def Thr (vals:Int) (locs:List ByteArray) (rg:List (List ByteArray)) (i:Nat) (ns:List AX):Prop :=
 (locs.length<=ns.length/\∀ j,j < locs.length->Jk (TT vals locs rg ns) j=true)/\∃ s:Nat->Nat,s 0=locs.length/\s i=ns.length /\
  ∀ j,j < i->Eu (TT vals locs rg ns) (s j) j=true/\∃ m,GL (TT vals locs rg ns) m (s j) (s (j+1))
theorem Aiq {vals:Int} {locs:List ByteArray} {rg:List (List ByteArray)} {i:Nat} {ns ns':List AX} {x:AX} (h:Thr vals locs rg i ns) (hx:x = ⟨i,-1,1,0,0,0,false,false,[]⟩) (hg:A85 vals locs rg ns x ns'):Thr vals locs rg (i+1) ns':=by
 subst hx
 obtain ⟨⟨h1,h2⟩,s,s0,si,hs⟩:=h
 obtain ⟨f,g,l,rfl,g1,m,g2⟩:=hg
 let x':AX:=⟨i,-1,1,0,0,0,false,f,g⟩
 have mo:A86 (TT vals locs rg ns) (TT vals locs rg (ns++x'::l)) (x'::l):=⟨rfl,rfl,rfl,rfl⟩
 have hl:(TT vals locs rg ns).nodes.length=ns.length:=rfl
 have ru:=Amx (t:=TT vals locs rg ns) (k:=s) (v:=i) fun j hj=>(hs j hj).2
 refine ⟨⟨by simp;omega,fun j hj=>?_⟩,fun j=>if j<=i then s j else (ns++x'::l).length,by simp [s0],if_neg (by omega),fun j hj=>?_⟩
 .have:=h2 j hj
  unfold Jk GJ at this ⊢
  rw [Et mo.n (by rw [hl];omega)]
  exact this
 .dsimp only
  rw [if_pos (show j<=i by omega)]
  by_cases e:j=i
  .subst e
   rw [si,if_neg (by omega)]
   refine ⟨?_,m,g2⟩
   unfold Eu
   have:(TT vals locs rg (ns++x'::l)).at ns.length=x':=Pz
   rw [this];simp [x']
  .rw [if_pos (show j+1<=i by omega)]
   obtain ⟨b1,m2,b2⟩:=hs j (by omega)
   have r1:=ru (j+1) i (by omega) (Nat.le_refl _)
   have r2:=b2.lt
   rw [si] at r1
   refine ⟨?_,m2,b2.more mo fun y hy=>?_⟩
   .unfold Eu at b1 ⊢
    rw [Et mo.n (by rw [hl];omega)];exact b1
   .rcases List.mem_cons.1 hy with rfl | hy
    .left;show (-1:Int) < _;omega
    .right;have:=g1 y hy;omega
def A1b (ini:List (ByteArray×Int)) (k:Nat):List AX:=(List.range k).map fun (i:Nat)=>(⟨-1,-1,3,(i:Int),0,(ini.getD i default).2,false,false,[]⟩:AX)
theorem Mg (ini:List (ByteArray×Int)) (k:Nat):(A1b ini k).length=k:=by simp [A1b]
theorem AeR (ini:List (ByteArray×Int)) (k:Nat):A1b ini (k+1)=A1b ini k++[⟨-1,-1,3,k,0,(ini.getD k default).2,false,false,[]⟩]:=by
 unfold A1b
 rw [range_succ,map_append];rfl
theorem Air {vals:Int} {rg:List (List ByteArray)} {ini:List (ByteArray×Int)} (hv:∀ x∈ini,0<=x.2/\x.2 < vals):Thr vals (ini.map (·.1)) rg 0 (A1b ini ini.length):=by
 refine ⟨⟨by simp [Mg],fun j hj=>?_⟩,fun _=>ini.length,by simp,by simp [Mg],fun j hj=>by omega⟩
 have h0:j < ini.length:=by simpa using hj
 have e:(TT vals (ini.map (·.1)) rg (A1b ini ini.length)).at j = ⟨-1,-1,3,j,0,(ini.getD j default).2,false,false,[]⟩:=by
  unfold A1.at
  simp only [getD_eq_getElem?_getD]
  rw [getElem?_eq_getElem (by rw [Mg];exact h0)]
  simp [A1b]
 have hm:ini.getD j default∈ini:=Ai h0
 obtain ⟨v1,v2⟩:=hv _ hm
 unfold Jk
 rw [e]
 simp [GJ,v1,v2]
 simp [getD_eq_getElem?_getD] at v1 v2
 omega
theorem AfM {vals:Int} {locs:List ByteArray} {rg:List (List ByteArray)} {ns:List AX} (h:Thr vals locs rg rg.length ns) (v2:2<=vals) (v4:vals<=4) (l4:locs.length<=4) (ln:locs.Nodup) (n64:ns.length<=64) (r1:1<=rg.length) (r4:rg.length<=4) (rl:∀ l∈rg,l.length<=4/\l.Nodup):A5 (TT vals locs rg ns) where
 v2:=v2
 v4:=v4
 l4:=l4
 ln:=ln
 n64:=n64
 r1:=r1
 r4:=r4
 rl:=rl
 first:=h.1
 thr:=h.2
structure A87 (t:A1) (m:Nat):Prop where
 thr:0<=(t.at m).thread
 up0 : -1<=(t.at m).up
 up:(t.at m).up < m
 loc:(t.at m).kind=2\/(t.at m).kind=3->LL t (t.at m).loc=true
 rmw:(t.at m).rmw=true->0<=(t.at m).up/\(t.at (t.at m).up.toNat).kind=2
 par:0<=(t.at m).up->(t.at (t.at m).up.toNat).thread=(t.at m).thread
theorem DU {t:A1} {a u:Nat} (h:C8 t a u=true):(t.at a).up=u/\(t.at a).thread=(t.at u).thread:=by
 simp only [C8,and_eq_true,decide_eq_true_eq] at h
 exact ⟨h.1.2,h.2⟩
theorem Aeo {t:A1} {u:Nat} (h:Do t u=true):(t.at (u+1)).kind=2\/(t.at (u+1)).kind=3->LL t (t.at (u+1)).loc=true:=by
 simp only [Do,or_eq_true,and_eq_true,decide_eq_true_eq] at h
 rcases h with h | h
 .intro k;have:=h.1.1.1.1.1;omega
 .intro _;exact h.1.1.2
theorem Aep {t:A1} {u:Nat} (h:Do t u=true) (hr:(t.at (u+1)).rmw=true):(t.at u).kind=2:=by
 simp only [Do,hr,or_eq_true,and_eq_true,decide_eq_true_eq,if_true,Bool.not_true] at h
 rcases h with h | h
 .have:=h.1.1.2;cases this
 .exact h.2.1.1.2
theorem Cx {k:Nat->Nat} {m:Nat}:∀ n:Nat,k 0<=m->m < k n->∃ v,v < n/\k v<=m/\m < k (v+1):=by
 intro n
 induction n with
 | zero=>intro h1 h2;omega
 | succ n ih =>
  intro h1 h2
  by_cases c:m < k n
  .obtain ⟨v,a,b,d⟩:=ih h1 c
   exact ⟨v,by omega,b,d⟩
  .exact ⟨n,by omega,by omega,h2⟩
theorem GL.good {t:A1}:∀ {n u e:Nat},GL t n u e->∀ m,u < m->m < e->A87 t m:=by
 intro n
 induction n with
 | zero=>intro u e h;exact absurd h (by simp [GL])
 | succ n ih =>
  intro u e h m h1 h2
  obtain ⟨⟨_,ht,_⟩,h⟩:=h
  rcases h with ⟨_,_,rfl⟩ | ⟨c,_,_,al,hb⟩ | ⟨c,_,_,vals,k,loc,mode,_,_,hk0,hke,hloc,hs,_⟩
  .omega
  .by_cases e1:m=u+1
   .subst e1
    obtain ⟨p,q⟩:=DU c
    exact ⟨by omega,by omega,by omega,Aeo al,fun hr=>⟨by omega,by rw [p,toNat_natCast];exact Aep al hr⟩,fun _=>by rw [p,toNat_natCast];exact q.symm⟩
   .exact ih hb m (by omega) h2
  .obtain ⟨v,hv,a,b⟩:=Cx (k:=k) (m:=m) vals (by omega) (by omega)
   obtain ⟨s1,s2,s3⟩:=hs v hv
   by_cases e1:m=k v
   .subst e1
    obtain ⟨p,q⟩:=DU s1
    simp only [EJ,and_eq_true,decide_eq_true_eq] at s2
    exact ⟨by omega,by omega,by omega,fun _=>by rw [s2.1.1.2];exact hloc,fun hr=>by rw [hr] at s2;simp at s2,fun _=>by rw [p,toNat_natCast];exact q.symm⟩
   .exact ih s3 m (by omega) b
theorem A5.good {t:A1} (h:A5 t) (m:Nat) (h1:t.locs.length<=m) (h2:m < t.nodes.length):A87 t m:=by
 obtain ⟨s,h0,he,hs⟩:=h.thr
 obtain ⟨v,hv,a,b⟩:=Cx (k:=s) (m:=m) t.regs.length (by omega) (by omega)
 obtain ⟨hb,n,hn⟩:=hs v hv
 by_cases e1:m=s v
 .subst e1
  simp only [Eu,and_eq_true,decide_eq_true_eq] at hb
  have k1:=hb.1.1.1.1.2
  have k3:=hb.1.1.1.1.1.2
  have k4:=hb.2
  exact ⟨by omega,by omega,by omega,fun k=>by omega,fun hr=>by simp_all,fun h0=>by omega⟩
 .exact hn.good m (by omega) b
structure Ag5 (t:A1) (i:Nat):Prop where
 thr:(t.at i).thread = -1
 up:(t.at i).up = -1
 kind:(t.at i).kind=3
 loc:(t.at i).loc=i
theorem A5.init {t:A1} (h:A5 t) (i:Nat) (hi:i < t.locs.length):Ag5 t i:=by
 have:=h.first.2 i hi
 simp only [Jk,and_eq_true,decide_eq_true_eq] at this
 obtain ⟨⟨⟨⟨⟨⟨⟨⟨a,b⟩,c⟩,d⟩,_⟩,_⟩,_⟩,_⟩,_⟩:=this
 exact ⟨a,b,c,d⟩
theorem A5.up {t:A1} (h:A5 t):Kt t:=by
 intro i hi
 by_cases c:i < t.locs.length
 .rw [(h.init i c).up];omega
 .exact (h.good i (by omega) hi).up
theorem A5.wloc {t:A1} (h:A5 t) {m:Nat} (hm:m < t.nodes.length) (hk:(t.at m).kind=2\/(t.at m).kind=3):0<=(t.at m).loc/\(t.at m).loc < t.locs.length:=by
 by_cases c:m < t.locs.length
 .rw [(h.init m c).loc];omega
 .have:=(h.good m (by omega) hm).loc hk
  simp only [LL,and_eq_true,decide_eq_true_eq] at this
  exact this
theorem A5.thr_iff {t:A1} (h:A5 t) {m:Nat} (hm:m < t.nodes.length):(t.at m).thread < 0↔m < t.locs.length:=by
 by_cases c:m < t.locs.length
 .rw [(h.init m c).thr];omega
 .have:=(h.good m (by omega) hm).thr
  omega
def A6N (t:A1):Nat->Nat->Int
 | 0,_=>0
 | n+1,i=>if (t.at i).up < 0 then 0 else A6N t n (t.at i).up.toNat+1
def A7l (t:A1):Nat->Nat->BitVec 64
 | 0,_=>0#64
 | n+1,i=>if (t.at i).up < 0 then 0#64 else A7l t n (t.at i).up.toNat ||| C4 (t.at i).up
def Yy (t:A1) (i:Nat):Int:=A6N t (i+1) i
def ovr (t:A1) (i:Nat):BitVec 64:=A7l t (i+1) i
theorem Aez {t:A1} (h:Kt t):∀ (n i:Nat),i < n->i < t.nodes.length->A6N t (n+1) i=A6N t n i:=by
 intro n
 induction n with
 | zero=>intro i hi;omega
 | succ n ih =>
  intro i hi hl
  rw [A6N]
  conv=>rhs;rw [A6N]
  by_cases c:(t.at i).up < 0
  .rw [if_pos c,if_pos c]
  .rw [if_neg c,if_neg c]
   have:=h i hl
   rw [ih _ (by omega) (by omega)]
theorem Afp {t:A1} (h:Kt t):∀ (n i:Nat),i < n->i < t.nodes.length->A7l t (n+1) i=A7l t n i:=by
 intro n
 induction n with
 | zero=>intro i hi;omega
 | succ n ih =>
  intro i hi hl
  rw [A7l]
  conv=>rhs;rw [A7l]
  by_cases c:(t.at i).up < 0
  .rw [if_pos c,if_pos c]
  .rw [if_neg c,if_neg c]
   have:=h i hl
   rw [ih _ (by omega) (by omega)]
theorem Ajz {t:A1} (h:Kt t) {i:Nat} (hl:i < t.nodes.length):∀ k,A6N t (i+1+k) i=Yy t i:=by
 intro k
 induction k with
 | zero=>rfl
 | succ k ih=>rw [<- ih];exact Aez h (i+1+k) i (by omega) hl
theorem AlF {t:A1} (h:Kt t) {i:Nat} (hl:i < t.nodes.length):∀ k,A7l t (i+1+k) i=ovr t i:=by
 intro k
 induction k with
 | zero=>rfl
 | succ k ih=>rw [<- ih];exact Afp h (i+1+k) i (by omega) hl
theorem AbB {t:A1} (h:Kt t) {i u:Nat} (hl:i < t.nodes.length) (hu:(t.at i).up=u):Yy t i=Yy t u+1:=by
 have:=h i hl
 rw [Yy,A6N,if_neg (by omega),hu,toNat_natCast,<- Ajz h (by omega) (i - (u+1))]
 rw [show u+1+(i - (u+1))=i by omega]
theorem AhY {t:A1} (h:Kt t) {i u:Nat} (hl:i < t.nodes.length) (hu:(t.at i).up=u):ovr t i=ovr t u ||| C4 u:=by
 have:=h i hl
 rw [ovr,A7l,if_neg (by omega),hu,toNat_natCast,<- AlF h (by omega) (i - (u+1))]
 rw [show u+1+(i - (u+1))=i by omega]
theorem Ah1 {t:A1} {i:Nat} (hu:(t.at i).up < 0):Yy t i=0:=by rw [Yy,A6N,if_pos hu]
theorem AhX {t:A1} {i:Nat} (hu:(t.at i).up < 0):ovr t i=0#64:=by rw [ovr,A7l,if_pos hu]
theorem Dc {t:A1} (h:Kt t) (a:Int) {x:Int} (hx:x < t.nodes.length):NP t a t.nodes.length x=if x < 0 then false else if x=a then true else NP t a t.nodes.length (t.at x.toNat).up:=by
 rw [<- A3a h a t.nodes.length x hx hx,NP]
theorem Ak2 (s r:BitVec 64) (x:Int):Bc (s ||| r) x=(Bc s x || Bc r x):=by
 unfold Bc
 rw [getLsbD_or]
 cases decide (0<=x)<;>simp
theorem Ahq (i:Nat) (x:Nat) (hx:x < 64):Bc (C4 i) (x:Int)=decide (x=i):=by
 rw [AC,CT]
 by_cases c:x=i
 .rw [decide_eq_true c,decide_eq_true (by omega)]
 .rw [decide_eq_false c,decide_eq_false (by omega)]
theorem Xx {t:A1} (h:Kt t) {a:Nat} (ha:a < 64):∀ (n b:Nat),b < n->b < t.nodes.length->Bc (ovr t b) a=Aw t a b/\(Aw t a b=true->Yy t a < Yy t b):=by
 intro n
 induction n with
 | zero=>intro b hb;omega
 | succ n ih =>
  intro b hb hl
  have h1:=h b hl
  unfold Aw
  by_cases c:(t.at b).up < 0
  .rw [AhX c,Dc h a (by omega),if_pos c]
   exact ⟨by simp [Bc],fun h=>by cases h⟩
  .obtain ⟨u,hu⟩:=eq_ofNat_of_zero_le (show 0<=(t.at b).up by omega)
   have h0:u < b:=by omega
   obtain ⟨i1,i2⟩:=ih u (by omega) (by omega)
   unfold Aw at i1 i2
   rw [AhY h hl hu,AbB h hl hu,hu,Dc h a (by omega),if_neg (by omega),Ak2,Ahq _ _ ha,i1,toNat_natCast]
   by_cases e:a=u
   .subst e
    rw [if_pos rfl]
    exact ⟨by simp,fun _=>by omega⟩
   .rw [if_neg (by omega),decide_eq_false e,Bool.or_false]
    exact ⟨rfl,fun h=>by have:=i2 h;omega⟩
theorem Anv {t:A1} (h:Kt t):∀ (n i:Nat),i < n->i < t.nodes.length->0<=Yy t i/\Yy t i<=i:=by
 intro n
 induction n with
 | zero=>intro i hi;omega
 | succ n ih =>
  intro i hi hl
  have h0:=h i hl
  by_cases c:(t.at i).up < 0
  .rw [Ah1 c];omega
  .obtain ⟨u,hu⟩:=eq_ofNat_of_zero_le (show 0<=(t.at i).up by omega)
   have:=ih u (by omega) (by omega)
   rw [AbB h hl hu]
   omega
def Anu (t:A1):List Int:=(List.range t.nodes.length).map (Yy t)
def Afo (t:A1):List (BitVec 64):=(List.range t.nodes.length).map (ovr t)
theorem QR {t:A1} {i:Nat} (h:i < t.nodes.length):(Anu t)[i]? = some (Yy t i):=by simp [Anu,h]
theorem Aar {t:A1} {i:Nat} (h:i < t.nodes.length):(Afo t)[i]? = some (ovr t i):=by simp [Afo,h]
theorem A6M {t:A1} (h:Kt t) (hn:t.nodes.length<=64) {a b:Nat} (ha:a < t.nodes.length) (hb:b < t.nodes.length):(decide (Yy t a < Yy t b) && Bc (ovr t b) a)=Aw t a b:=by
 obtain ⟨h1,h2⟩:=Xx h (a:=a) (by omega) (b+1) b (by omega) hb
 rw [h1]
 cases c:Aw t a b with
 | false=>simp
 | true=>rw [decide_eq_true (h2 c)];rfl
theorem Ae0 {α:Type} {n k j:Nat} {f:Nat->α} {z:α} (h:j < k) (hn:j < n):(Dj n k f z)[j]? = some (f j):=by
 simp [Dj,hn,h]
theorem A6e {α:Type} {n k:Nat} {f:Nat->α} {z:α} (h:f k=z):Dj n k f z=Dj n (k+1) f z:=by
 unfold Dj
 apply List.map_congr_left
 intro j hj
 by_cases e:j=k
 .subst e;rw [if_neg (by omega),if_pos (by omega),h]
 .by_cases c:j < k
  .rw [if_pos c,if_pos (by omega)]
  .rw [if_neg c,if_neg (by omega)]
theorem Ahl (j:Nat) (hj:j < 64):∀ (l:List Int) (s:BitVec 64),(l.foldl (fun s i=>s ||| C4 i) s).getLsbD j=(s.getLsbD j || AU l (j:Int)):=by
 intro l
 induction l with
 | nil=>intro s;simp [AU]
 | cons x l ih =>
  intro s
  rw [List.foldl_cons,ih,getLsbD_or,CT]
  have e:AU (x::l) (j:Int)=(decide ((j:Int)=x) || AU l (j:Int)):=rfl
  have e2:decide ((j:Int)=x/\j < 64)=decide ((j:Int)=x):=by
   by_cases c:(j:Int)=x<;>simp [c,hj]
  rw [e,e2,Bool.or_assoc]
theorem Lo (l:List Int) {x:Int} (h0:0<=x) (h1:x < 64):Bc (Cc l) x=AU l x:=by
 obtain ⟨j,rfl⟩:=eq_ofNat_of_zero_le h0
 rw [AC,Cc,Ahl j (by omega)]
 simp
theorem CN {s:BitVec 64} {x:Int} (h:Bc s x=true):0<=x/\x < 64:=by
 simp only [Bc,and_eq_true,decide_eq_true_eq] at h
 have:=BitVec.lt_of_getLsbD h.2
 omega
def Cu (t:A1) (l:List Int):Prop:=∀ n∈l,BP t n=true
theorem Cu.has {t:A1} (ht:t.nodes.length<=64) {l:List Int} (h:Cu t l) (x:Int):Bc (Cc l) x=AU l x:=by
 by_cases c:0<=x/\x < 64
 .exact Lo l c.1 c.2
 .have e1:Bc (Cc l) x=false:=by
   rw [<- not_eq_true]
   exact fun h=>c (CN h)
  have e2:AU l x=false:=by
   rw [<- not_eq_true]
   intro h'
   obtain ⟨m,rfl,hm⟩:=A8 (h x (A9.1 h'))
   exact c ⟨by omega,by omega⟩
  rw [e1,e2]
def BK (t:A1) (has:List Int) (n loc:Int):Bool:=AU has n && HT t n loc
def Ga (t:A1) (l has:List Int) (loc:Int) (i:Nat):Bool :=
 BK t has (l.getD i 0) loc && decide (0<=(t.at (l.getD i 0).toNat).thread) && Di l i && (!decide (1 < l.length) || Dr (t.at (l.getD i 0).toNat)) && (decide (i=0) || (l.take i).all fun m=>Ba t (l.getD i 0) m)
def GR (t:A1) (l has:List Int) (loc:Int):Bool:=(List.range l.length).all (Ga t l has loc) && decide (0 < l.length)
theorem MG {l:List Int} {p:Int->Bool}:∀ i,i<=l.length->(l.take i).all p=(List.range i).all fun k=>p (l.getD k 0):=by
 intro i
 induction i with
 | zero=>intro _;rfl
 | succ i ih =>
  intro h
  have hi:i < l.length:=by omega
  have e:=List.take_succ_eq_append_getElem hi
  have e2:l.getD i 0=l[i]:=by rw [getD_eq_getElem?_getD,getElem?_eq_getElem hi];rfl
  rw [e,List.all_append,ih (by omega),range_succ,List.all_append,<- e2]
  simp
theorem Aeu (t:A1) (l has:List Int) (loc:Int):GR t l has loc=CE t l has loc:=by
 rw [Bool.eq_iff_iff]
 simp only [GR,CE,and_eq_true,not_eq_true',decide_eq_true_eq,decide_eq_false_iff_not,Ah]
 constructor
 .rintro ⟨h1,h2⟩
  refine ⟨by omega,fun i hi=>?_⟩
  have:=h1 i hi
  simp only [Ga,BK,and_eq_true,or_eq_true,decide_eq_true_eq] at this
  obtain ⟨⟨⟨⟨⟨a,b⟩,c⟩,d⟩,e⟩,f⟩:=this
  simp only [BA,and_eq_true,decide_eq_true_eq]
  refine ⟨⟨⟨⟨a,d⟩,b⟩,c⟩,?_⟩
  rw [<- MG (p:=fun m=>Ba t (l.getD i 0) m) i (by omega)]
  rcases f with rfl | f
  .rfl
  .exact f
 .rintro ⟨h1,h2⟩
  refine ⟨fun i hi=>?_,by omega⟩
  have hp:1 < l.length->Dr (t.at (l.getD i 0).toNat)=true:=by
   intro hl
   by_cases i0:i=0
   .subst i0
    have:=h2 1 hl
    simp only [BA,and_eq_true,Ah] at this
    have:=this.2 0 (by omega)
    simp only [Ba,and_eq_true] at this
    exact this.1.1.2
   .have:=h2 i hi
    simp only [BA,and_eq_true,Ah] at this
    have:=this.2 0 (by omega)
    simp only [Ba,and_eq_true] at this
    exact this.1.1.1
  have:=h2 i hi
  simp only [BA,and_eq_true,decide_eq_true_eq] at this
  obtain ⟨⟨⟨⟨a,d⟩,b⟩,c⟩,f⟩:=this
  simp only [Ga,BK,and_eq_true,or_eq_true,decide_eq_true_eq,not_eq_true',decide_eq_false_iff_not]
  refine ⟨⟨⟨⟨⟨a,b⟩,c⟩,d⟩,?_⟩,.inr ?_⟩
  .by_cases hl:1 < l.length
   .exact .inr (hp hl)
   .exact .inl hl
  .rw [MG (p:=fun m=>Ba t (l.getD i 0) m) i (by omega)];exact f
def NN (m:List (List Int)) (loc:Nat):List Int:=(loc:Int)::(m.drop 1).flatten
def HM (t:A1) (s:A6) (loc:Nat):Nat:=(s.has.filter fun n=>BK t s.has n loc).length
def Ph (t:A1) (s:A6) (loc:Nat):Bool :=
 let m:=s.mo.getD loc []
 !decide (m.length=0) && decide (m.getD 0 []=[(loc:Int)]) && (m.drop 1).all (fun c=>GR t c s.has loc) && decide ((NN m loc).length=HM t s loc) && decide ((Ca (Cc (NN m loc))).length=HM t s loc)
def Gn (t:A1) (s:A6):Bool:=decide (s.mo.length=t.locs.length) && (List.range s.mo.length).all (Ph t s)
def Pa (t:A1) (s:A6):Bool:=decide (s.jf.length=s.has.length) && (List.range s.has.length).all (Jl t s)
theorem KA:∀ (l m:List Int),l.Nodup->(∀ x∈l,x∈m)->l.length<=m.length:=by
 intro l
 induction l with
 | nil=>intro m _ _;simp
 | cons x l ih =>
  intro m hn hs
  have hx:=hs x List.mem_cons_self
  have h1:x∉l:=(List.nodup_cons.1 hn).1
  have:=ih (m.erase x) (List.nodup_cons.1 hn).2 fun y hy=>by
   have:y≠x:=fun e=>h1 (e ▸ hy)
   exact (List.mem_erase_of_ne this).2 (hs y (List.mem_cons_of_mem _ hy))
  rw [List.length_erase_of_mem hx] at this
  have:0 < m.length:=List.length_pos_of_mem hx
  simp only [length_cons]
  omega
theorem Ap9 {l m:List Int} (hn:l.Nodup) (hs:∀ x∈l,x∈m) (hl:m.length<=l.length):∀ x∈m,x∈l:=by
 intro x hx
 refine Classical.byContradiction fun hc=>?_
 have:=KA l (m.erase x) hn fun y hy=>(List.mem_erase_of_ne fun (e:y=x)=>hc (e ▸ hy)).2 (hs y hy)
 rw [List.length_erase_of_mem hx] at this
 have:0 < m.length:=List.length_pos_of_mem hx
 omega
theorem Asf:∀ (l S:List Int),S.Nodup->(∀ x∈S,x∈l)->l.length<=S.length->l.Nodup:=by
 intro l
 induction l with
 | nil=>intro S _ _ _;exact List.nodup_nil
 | cons x l ih =>
  intro S hn hs hl
  by_cases hx:x∈l
  .have:=KA S l hn fun y hy=>by
    rcases List.mem_cons.1 (hs y hy) with rfl | h
    .exact hx
    .exact h
   simp only [length_cons] at hl
   omega
  .refine List.nodup_cons.2 ⟨hx,ih (S.erase x) (hn.erase x) (fun y hy=>?_) ?_⟩
   .rcases List.mem_cons.1 (hs y (List.mem_of_mem_erase hy)) with rfl | h
    .exact absurd hy (List.Nodup.not_mem_erase hn)
    .exact h
   .rw [List.length_erase]
    simp only [length_cons] at hl
    split<;>omega
theorem A3e (n:Int):∀ (m:List (List Int)),(∀ c∈m,c.Nodup)->(m.filter fun c=>AU c n).length=m.flatten.count n:=by
 intro m
 induction m with
 | nil=>intro _;rfl
 | cons c m ih =>
  intro h
  have h1:=h c List.mem_cons_self
  have h2:=ih fun d hd=>h d (List.mem_cons_of_mem _ hd)
  rw [List.flatten_cons,List.count_append,<- h2,List.filter_cons]
  cases e:AU c n with
  | true =>
   have hm:n∈c:=A9.1 e
   have:=List.nodup_iff_count.1 h1 n
   have:0 < c.count n:=List.count_pos_iff.2 hm
   rw [if_pos rfl,length_cons]
   omega
  | false =>
   have hm:n∉c:=fun h=>by rw [A9.2 h] at e;cases e
   rw [List.count_eq_zero_of_not_mem hm]
   simp
theorem Apk {l:List Int} (h:∀ i,i < l.length->Di l i=true):∀ j,j < l.length->∀ i,i < j->l.getD i 0 < l.getD j 0:=by
 intro j
 induction j with
 | zero=>intro _ i hi;omega
 | succ j ih =>
  intro hj i hi
  have h1:=h (j+1) hj
  simp only [Di,or_eq_true,decide_eq_true_eq,Nat.add_sub_cancel] at h1
  have h2:l.getD j 0 < l.getD (j+1) 0:=by
   rcases h1 with h1 | h1
   .omega
   .exact h1
  by_cases e:i=j
  .subst e;exact h2
  .have:=ih (by omega) i (by omega);omega
theorem NG {l:List Int} (h:∀ i,i < l.length->Di l i=true):l.Nodup:=by
 rw [List.nodup_iff_pairwise_ne,List.pairwise_iff_getElem]
 intro i j hi hj h0 e
 have:=Apk h j hj i h0
 rw [getD_eq_getElem?_getD,getElem?_eq_getElem hi,getD_eq_getElem?_getD,getElem?_eq_getElem hj,getD_some,getD_some,e] at this
 omega
theorem Aa9 (w:BitVec 64):(Ca w).Nodup:=List.Nodup.sublist List.filter_sublist List.nodup_range
theorem Aic {t:A1} (h64:t.nodes.length<=64) {l:List Int} (h:Cu t l) (x:Int):x∈(Ca (Cc l)).map (fun (j:Nat)=>(j:Int))↔x∈l:=by
 constructor
 .intro hx
  obtain ⟨j,hj,rfl⟩:=List.mem_map.1 hx
  obtain ⟨j1,j2⟩:=A1e hj
  have:=h.has h64 (j:Int)
  rw [AC,j2] at this
  exact A9.1 this.symm
 .intro hx
  obtain ⟨m,rfl,hm⟩:=A8 (h x hx)
  refine List.mem_map.2 ⟨m,Nz.2 ?_,rfl⟩
  have:=h.has h64 (m:Int)
  rw [AC,A9.2 hx] at this
  exact this
theorem Acp (w:BitVec 64):((Ca w).map fun (j:Nat)=>(j:Int)).Nodup:=by
 rw [List.nodup_iff_pairwise_ne,List.pairwise_map]
 have:=List.nodup_iff_pairwise_ne.1 (Aa9 w)
 exact this.imp fun h e=>h (by omega)
theorem AhV {t:A1} (h64:t.nodes.length<=64) {all W:List Int} (ha:Cu t all) (hw:W.Nodup) (hs:∀ x∈all,x∈W) :
  (all.length=W.length/\(Ca (Cc all)).length=W.length)↔∀ n∈W,all.count n=1:=by
 have hS:=Acp (Cc all)
 have hm:=fun x=>Aic h64 ha x
 have hl:((Ca (Cc all)).map fun (j:Nat)=>(j:Int)).length=(Ca (Cc all)).length:=length_map ..
 generalize ((Ca (Cc all)).map fun (j:Nat)=>(j:Int))=S at *
 rw [<- hl]
 constructor
 .rintro ⟨h1,h2⟩ n hn
  have nd:=Asf all S hS (fun x hx=>(hm x).1 hx) (by omega)
  have h0:=Ap9 nd hs (by omega) n hn
  have c1:=List.nodup_iff_count.1 nd n
  have c2:0 < all.count n:=List.count_pos_iff.2 h0
  omega
 .intro h
  have nd:all.Nodup:=by
   rw [List.nodup_iff_count]
   intro x
   by_cases hx:x∈all
   .rw [h x (hs x hx)];exact Nat.le_refl _
   .rw [List.count_eq_zero_of_not_mem hx];omega
  have h0:∀ x∈W,x∈all:=fun x hx=>List.count_pos_iff.1 (by rw [h x hx];decide)
  have a1:=KA all W nd hs
  have a2:=KA W all hw h0
  have a3:=KA all S nd fun x hx=>(hm x).2 hx
  have a4:=KA S all hS fun x hx=>(hm x).1 hx
  omega
theorem R9 {t:A1} {l:List Int} (h:Cz t l=true):Cu t l/\l.Nodup/\(Gc t ||| Cc l=Cc l):=by
 simp only [Cz,and_eq_true,decide_eq_true_eq] at h
 have hr:=Ah.1 h.1
 refine ⟨fun n hn=>?_,NG fun i hi=>?_,h.2⟩
 .obtain ⟨k,hk,rfl⟩:=List.mem_iff_getElem.1 hn
  have:=hr k hk
  simp only [Cs,and_eq_true] at this
  have:=this.1.1
  rw [getD_eq_getElem?_getD,getElem?_eq_getElem hk] at this
  exact this
 .have:=hr i hi
  simp only [Cs,and_eq_true] at this
  exact this.1.2
theorem Ak4 {t:A1} (ht:A5 t) {l:List Int} (h:Cz t l=true) {k:Nat} (hk:k < t.locs.length):(k:Int)∈l:=by
 obtain ⟨hn,_,hi⟩:=R9 h
 have h1:k < t.nodes.length:=Nat.lt_of_lt_of_le hk ht.first.1
 have h0:=ht.n64
 have e:(Gc t).getLsbD k=true:=by
  unfold Gc
  rw [Au,decide_eq_true h1,(ht.init k hk).up,decide_eq_true (show k < 64 by omega)];rfl
 have e2:(Cc l).getLsbD k=true:=by rw [<- hi,getLsbD_or,e];rfl
 have:=hn.has h0 (k:Int)
 rw [AC,e2] at this
 exact A9.1 this.symm
theorem A6E {t:A1} {l has:List Int} {loc:Int} (h:CE t l has loc=true):l.Nodup/\∀ n∈l,BK t has n loc=true:=by
 simp only [CE,and_eq_true] at h
 have hr:=Ah.1 h.2
 refine ⟨NG fun i hi=>?_,fun n hn=>?_⟩
 .have:=hr i hi
  simp only [BA,and_eq_true] at this
  exact this.1.1.1.2
 .obtain ⟨k,hk,rfl⟩:=List.mem_iff_getElem.1 hn
  have:=hr k hk
  simp only [BA,and_eq_true] at this
  have h1:=this.1.1.1.1
  have h2:=this.1.1.2
  rw [getD_eq_getElem?_getD,getElem?_eq_getElem hk,getD_some] at h1 h2
  simp only [BK,and_eq_true]
  exact ⟨h1,h2⟩
theorem Aah {t:A1} {s:A6} {k:Nat}:Eh t s k=true↔∃ D,s.mo.getD k []=[(k:Int)]::D/\∀ c∈D,CE t c s.has k=true:=by
 simp only [Eh,and_eq_true,not_eq_true',decide_eq_false_iff_not,decide_eq_true_eq,Ah,or_eq_true]
 generalize s.mo.getD k []=m
 constructor
 .rintro ⟨⟨h1,h2⟩,h3⟩
  rcases m with _ | ⟨c,D⟩
  .simp at h1
  .refine ⟨D,by rw [show c=[(k:Int)] from h2],fun d hd=>?_⟩
   obtain ⟨j,hj,rfl⟩:=List.mem_iff_getElem.1 hd
   have:=h3 (j+1) (by simp;omega)
   rcases this with h | h
   .omega
   .simpa [getD_eq_getElem?_getD,hj] using h
 .rintro ⟨D,rfl,h⟩
  refine ⟨⟨by simp,rfl⟩,fun i hi=>?_⟩
  rcases i with _ | i
  .exact .inl rfl
  .refine .inr ?_
   have h0:i < D.length:=by simpa using hi
   have:=h D[i] (getElem_mem h0)
   simpa [getD_eq_getElem?_getD,h0] using this
theorem A1G {t:A1} {s:A6} {k:Nat}:Ph t s k=true↔∃ D,s.mo.getD k []=[(k:Int)]::D/\(∀ c∈D,CE t c s.has k=true)/\((s.mo.getD k []).flatten.length=HM t s k/\(Ca (Cc (s.mo.getD k []).flatten)).length=HM t s k):=by
 simp only [Ph,and_eq_true,not_eq_true',decide_eq_false_iff_not,decide_eq_true_eq,all_eq_true,Aeu]
 generalize s.mo.getD k []=m
 constructor
 .rintro ⟨⟨⟨⟨h1,h2⟩,h3⟩,h4⟩,h5⟩
  rcases m with _ | ⟨c,D⟩
  .simp at h1
  .have e:c=[(k:Int)]:=h2
   subst e
   exact ⟨D,rfl,h3,h4,h5⟩
 .rintro ⟨D,rfl,h3,h4,h5⟩
  exact ⟨⟨⟨⟨by simp,rfl⟩,h3⟩,h4⟩,h5⟩
theorem AdH {t:A1} (ht:A5 t) {s:A6} (hn:Cz t s.has=true) {i:Nat} (hi:i < s.has.length):Mv t s i=true↔((t.at (s.has.getD i 0).toNat).kind=3->((s.mo.getD (t.at (s.has.getD i 0).toNat).loc.toNat []).filter fun c=>AU c (s.has.getD i 0)).length=1):=by
 simp only [Mv,or_eq_true,not_eq_true',decide_eq_false_iff_not,decide_eq_true_eq]
 constructor
 .rintro (h | h) k
  .exact absurd k h
  .exact h
 .intro h
  by_cases k:(t.at (s.has.getD i 0).toNat).kind=3
  .exact .inr (h k)
  .exact .inl k
theorem AhD (t:A1) (ht:A5 t) (s:A6):(Cz t s.has && Pa t s && Gn t s)=Bd t s:=by
 cases hn:Cz t s.has with
 | false=>simp [Bd,hn]
 | true =>
 obtain ⟨hN,ho,_⟩:=R9 hn
 have hd:=ht.n64
 by_cases hm:¬ s.mo.length=t.locs.length
 .simp [Bd,Gn,hm]
 have hm:=Decidable.not_not.1 hm
 rw [Bool.eq_iff_iff]
 simp only [Bd,Gn,Pa,hn,decide_eq_true hm,Bool.true_and,Bool.and_true,and_eq_true,decide_eq_true_eq]
 have hq:(∀ k,k < s.mo.length->Ph t s k=true)↔((∀ k,k < s.mo.length->Eh t s k=true)/\∀ i,i < s.has.length->Mv t s i=true):=by
  have W:∀ k,k < s.mo.length->∀ D,s.mo.getD k []=[(k:Int)]::D->(∀ c∈D,CE t c s.has k=true) ->
    (((s.mo.getD k []).flatten.length=HM t s k/\(Ca (Cc (s.mo.getD k []).flatten)).length=HM t s k)↔∀ n∈s.has,BK t s.has n k=true->((s.mo.getD k []).filter fun c=>AU c n).length=1):=by
   intro k hk D hD hc
   have h8:k < t.locs.length:=by omega
   have hh:=Ak4 ht hn h8
   have hp:BK t s.has k k=true:=by
    simp only [BK,HT,and_eq_true,decide_eq_true_eq,toNat_natCast]
    exact ⟨A9.2 hh,(ht.init k h8).kind,(ht.init k h8).loc⟩
   have h7:∀ c∈s.mo.getD k [],c.Nodup/\∀ n∈c,BK t s.has n k=true:=by
    intro c ha
    rw [hD] at ha
    rcases List.mem_cons.1 ha with rfl | h
    .refine ⟨by simp,fun n hn=>?_⟩
     rw [List.mem_singleton.1 hn];exact hp
    .exact A6E (hc c h)
   have h6:∀ x∈(s.mo.getD k []).flatten,x∈s.has.filter fun n=>BK t s.has n k:=by
    intro x hx
    obtain ⟨c,hf,hg⟩:=List.mem_flatten.1 hx
    have:=(h7 c hf).2 x hg
    refine List.mem_filter.2 ⟨?_,this⟩
    simp only [BK,and_eq_true] at this
    exact A9.1 this.1
   have he:Cu t (s.mo.getD k []).flatten:=fun x hx=>hN x (List.mem_filter.1 (h6 x hx)).1
   have:=AhV hd (W:=s.has.filter fun n=>BK t s.has n k) he (List.Nodup.sublist List.filter_sublist ho) h6
   rw [show HM t s k=(s.has.filter fun n=>BK t s.has n k).length from rfl,this]
   constructor
   .intro h n h4 h5
    rw [A3e n _ fun c hc=>(h7 c hc).1]
    exact h n (List.mem_filter.2 ⟨h4,h5⟩)
   .intro h n h4
    obtain ⟨a,b⟩:=List.mem_filter.1 h4
    rw [<- A3e n _ fun c hc=>(h7 c hc).1]
    exact h n a b
  constructor
  .intro h
   refine ⟨fun k hk=>?_,fun i hi=>?_⟩
   .obtain ⟨D,hD,hc,_⟩:=A1G.1 (h k hk)
    exact Aah.2 ⟨D,hD,hc⟩
   .rw [AdH ht hn hi]
    intro k3
    have h0:s.has.getD i 0∈s.has:=Ai hi
    obtain ⟨m,h9,hj⟩:=A8 (hN _ h0)
    rw [h9,toNat_natCast] at k3 ⊢
    obtain ⟨l1,l2⟩:=ht.wloc hj (.inr k3)
    obtain ⟨lc,hb⟩:=eq_ofNat_of_zero_le l1
    rw [hb,toNat_natCast]
    have hk:lc < s.mo.length:=by omega
    obtain ⟨D,hD,hc,hl⟩:=A1G.1 (h lc hk)
    refine (W lc hk D hD hc).1 hl m (h9 ▸ h0) ?_
    simp only [BK,HT,and_eq_true,decide_eq_true_eq,toNat_natCast]
    exact ⟨A9.2 (h9 ▸ h0),k3,hb⟩
  .rintro ⟨h1,h2⟩ k hk
   obtain ⟨D,hD,hc⟩:=Aah.1 (h1 k hk)
   refine A1G.2 ⟨D,hD,hc,(W k hk D hD hc).2 fun n h4 h5=>?_⟩
   obtain ⟨i,hi,rfl⟩:=List.mem_iff_getElem.1 h4
   have e:s.has.getD i 0=s.has[i]:=by rw [getD_eq_getElem?_getD,getElem?_eq_getElem hi];rfl
   have:=(AdH ht hn hi).1 (h2 i hi)
   rw [e] at this
   simp only [BK,HT,and_eq_true,decide_eq_true_eq] at h5
   have h3:=this h5.2.1
   rw [h5.2.2,toNat_natCast] at h3
   exact h3
 rw [Ah,Ah (n:=s.mo.length),hq,Ah,Ah]
 constructor
 .rintro ⟨⟨a,b⟩,c,d⟩;exact ⟨⟨⟨a,b⟩,c⟩,d⟩
 .rintro ⟨⟨⟨a,b⟩,c⟩,d⟩;exact ⟨⟨a,b⟩,c,d⟩
def Ak (n:Nat) (p:Nat->Nat->Bool):Rows:=(List.range n).map fun a=>BS fun b=>decide (b < n) && p a b
theorem Aj {n:Nat} {p:Nat->Nat->Bool}:(Ak n p).length=n:=by simp [Ak]
theorem Bm {n:Nat} {p:Nat->Nat->Bool} {a:Nat} (h:a < n):(Ak n p)[a]? = some (BS fun b=>decide (b < n) && p a b):=by simp [Ak,h]
theorem Gq {n:Nat} {p:Nat->Nat->Bool} {a b:Nat} (hn:n<=64) (h:a < n) (hb:b < n):Bc ((Ak n p).getD a 0#64) (b:Int)=p a b:=by
 rw [getD_eq_getElem?_getD,Bm h,getD_some,AC,Au,decide_eq_true hb,decide_eq_true (show b < 64 by omega)]
 simp
def Ew (t:A1) (x f:List Int) (i:Nat):Bool :=
 if (t.at (x.getD i 0).toNat).kind=2 then AU x (f.getD i 0) && HT t (f.getD i 0) (t.at (x.getD i 0).toNat).loc else decide (f.getD i 0 = -1)
def Bz (t:A1) (x:List Int) (i:Nat):Bool:=BP t (x.getD i 0) && Di x i
def Df (t:A1) (x f:List Int):Bool:=decide (x.length=f.length) && (List.range x.length).all (Bz t x) && (List.range x.length).all (Ew t x f)
def Ey (x f:List Int) (n:Int):Int:=if AU x n then f.getD (LD x n).toNat 0 else -1
structure DO (t:A1) (x f:List Int):Prop where
 len:x.length=f.length
 node:Cu t x
 nd:x.Nodup
 at_:∀ i,i < x.length->Ey x f (x.getD i 0)=f.getD i 0
 read:∀ n,n∈x->(t.at n.toNat).kind=2->Ey x f n∈x/\(t.at (Ey x f n).toNat).kind=3/\(t.at (Ey x f n).toNat).loc=(t.at n.toNat).loc
 none:∀ n,n∈x->(t.at n.toNat).kind≠2->Ey x f n = -1
theorem YN {x:List Int} (h:x.Nodup) {i:Nat} (hi:i < x.length):LD x (x.getD i 0)=i:=by
 have hm:AU x (x.getD i 0)=true:=A9.2 (Ai hi)
 obtain ⟨k,e,hk,h1,h2⟩:=Gx hm
 rw [e]
 have:k=i:=by
  rw [getD_eq_getElem?_getD,getD_eq_getElem?_getD,getElem?_eq_getElem hk,getElem?_eq_getElem hi] at h1
  rw [getD_some,getD_some] at h1
  rcases Nat.lt_trichotomy k i with c | c | c
  .exact absurd h1 (List.pairwise_iff_getElem.1 h k i hk hi c)
  .exact c
  .exact absurd h1.symm (List.pairwise_iff_getElem.1 h i k hi hk c)
 rw [this]
theorem AY {t:A1} {x f:List Int} (h:Df t x f=true):DO t x f:=by
 simp only [Df,and_eq_true,decide_eq_true_eq,Ah,Bz] at h
 obtain ⟨⟨h1,h2⟩,h3⟩:=h
 have h4:Cu t x:=by
  intro n hn
  obtain ⟨i,hi,rfl⟩:=getElem_of_mem hn
  have:=(h2 i hi).1
  rwa [getD_eq_getElem?_getD,getElem?_eq_getElem hi] at this
 have h6:x.Nodup:=NG fun i hi=>(h2 i hi).2
 have h5:∀ i,i < x.length->Ey x f (x.getD i 0)=f.getD i 0:=by
  intro i hi
  unfold Ey
  rw [if_pos (A9.2 (Ai hi)),YN h6 hi,toNat_natCast]
 refine ⟨h1,h4,h6,h5,?_,?_⟩
 .intro n hn hk
  obtain ⟨i,hi,rfl⟩:=getElem_of_mem hn
  have e:x[i]=x.getD i 0:=by rw [getD_eq_getElem?_getD,getElem?_eq_getElem hi];rfl
  have h0:=h3 i hi
  rw [e] at hk ⊢
  rw [h5 i hi]
  simp only [Ew,hk,if_true,and_eq_true,HT,decide_eq_true_eq,A9] at h0
  exact ⟨h0.1,h0.2.1,h0.2.2⟩
 .intro n hn hk
  obtain ⟨i,hi,rfl⟩:=getElem_of_mem hn
  have e:x[i]=x.getD i 0:=by rw [getD_eq_getElem?_getD,getElem?_eq_getElem hi];rfl
  have h0:=h3 i hi
  rw [e] at hk ⊢
  rw [h5 i hi]
  simp only [Ew,hk,if_false,decide_eq_true_eq] at h0
  exact h0
def ahF (t:A1) (x f:List Int) (w:Int):Int:=if (t.at w.toNat).rmw=true/\AU x (t.at w.toNat).up=true then Ey x f (t.at w.toNat).up else -1
def Ace (t:A1) (x:List Int) (w:Int) (n:Nat):Bool:=(decide ((n:Int)=w) && GA (t.at n)) || (AU x (n:Int) && decide ((t.at n).kind=4) && GA (t.at n) && Ap t n w)
def KB (t:A1) (x:List Int) (w:Int):BitVec 64:=BS (Ace t x w)
def JH (t:A1) (w:Int):Bool:=decide (w < 0) || decide ((t.at w.toNat).thread < 0)
def HF (t:A1) (x f:List Int):Nat->Int->BitVec 64
 | 0,_=>0#64
 | k+1,w=>if JH t w=true then 0#64 else KB t x w ||| HF t x f k (ahF t x f w)
def B3 (t:A1) (x f:List Int) (w:Int):BitVec 64:=HF t x f (x.length+1) w
def EF (t:A1) (x f:List Int):Nat->Int->Int
 | 0,w=>w
 | k+1,w=>ahF t x f (EF t x f k w)
theorem Mi (t:A1) (x f:List Int):∀ (k:Nat) (w:Int),EF t x f (k+1) w=EF t x f k (ahF t x f w)
 | 0,w=>rfl
 | k+1,w=>by rw [EF,Mi t x f k w];rfl
theorem GW (t:A1) (x f:List Int) (b:Nat):∀ (k:Nat) (w:Int),(HF t x f k w).getLsbD b=true↔∃ j,j < k/\(∀ i,i<=j->JH t (EF t x f i w)=false)/\(KB t x (EF t x f j w)).getLsbD b=true
 | 0,w=>by simp [HF]
 | k+1,w=>by
  rw [HF]
  by_cases c:JH t w=true
  .rw [if_pos c]
   constructor
   .intro h;simp at h
   .rintro ⟨j,_,h,_⟩
    have:=h 0 (Nat.zero_le _)
    rw [EF,c] at this;cases this
  .rw [if_neg c,getLsbD_or,or_eq_true,GW t x f b k]
   constructor
   .rintro (h | ⟨j,h1,h2,h3⟩)
    .exact ⟨0,by omega,fun i hi=>by rw [Nat.le_zero.1 hi];exact Bool.eq_false_iff.2 c,h⟩
    .refine ⟨j+1,by omega,fun i hi=>?_,by rw [Mi];exact h3⟩
     rcases i with _ | i
     .exact Bool.eq_false_iff.2 c
     .rw [Mi];exact h2 i (by omega)
   .rintro ⟨j,h1,h2,h3⟩
    rcases j with _ | j
    .exact .inl h3
    .refine .inr ⟨j,by omega,fun i hi=>?_,by rw [Mi] at h3;exact h3⟩
     have:=h2 (i+1) (by omega)
     rwa [Mi] at this
def A18 (t:A1) (x f:List Int) (w:Int) (i:Nat):BitVec 64:=(List.range i).foldl (fun s j=>s ||| KB t x (EF t x f j w)) 0#64
theorem AbS (t:A1) (x f:List Int) (w:Int) (i:Nat):A18 t x f w (i+1)=A18 t x f w i ||| KB t x (EF t x f i w):=by
 unfold A18
 rw [range_succ,List.foldl_append]
 rfl
theorem A3E (t:A1) (x f:List Int) (w:Int) (b:Nat) (i:Nat):(A18 t x f w i).getLsbD b=true↔∃ j,j < i/\(KB t x (EF t x f j w)).getLsbD b=true:=by
 unfold A18
 rw [A6V]
 simp [any_eq_true]
def LX (t:A1) (x f:List Int) (w:Int) (i:Nat):List Int:=(List.range i).map fun j=>EF t x f j w
theorem A6k (t:A1) (x f:List Int) (w:Int) (i:Nat):LX t x f w (i+1)=LX t x f w i++[EF t x f i w]:=by
 unfold LX
 rw [range_succ,map_append]
 rfl
theorem YK {t:A1} {x f:List Int} {w:Int} {i:Nat} {v:Int}:v∈LX t x f w i↔∃ j,j < i/\EF t x f j w=v:=by
 simp [LX]
theorem Yt {t:A1} (ht:A5 t) {x f:List Int} (h:DO t x f) {w:Int} (hw:w∈x):ahF t x f w = -1\/(ahF t x f w∈x/\(t.at (ahF t x f w).toNat).kind=3):=by
 unfold ahF
 by_cases c:(t.at w.toNat).rmw=true/\AU x (t.at w.toNat).up=true
 .rw [if_pos c]
  obtain ⟨m,rfl,hm⟩:=A8 (h.node w hw)
  rw [toNat_natCast] at c ⊢
  have hl:t.locs.length<=m:=by
   rcases lt_or_ge m t.locs.length with h1 | h1
   .have:=ht.first.2 m h1
    simp only [Jk,and_eq_true] at this
    have h3:=this.1.1.2
    rw [c.1] at h3;cases h3
   .exact h1
  obtain ⟨_,k2⟩:=(ht.good m hl hm).rmw c.1
  obtain ⟨r1,r2,_⟩:=h.read _ (A9.1 c.2) k2
  exact .inr ⟨r1,r2⟩
 .rw [if_neg c];exact .inl rfl
theorem PY {t:A1} (ht:A5 t) {x f:List Int} (h:DO t x f) {w:Int} (hw:w∈x):∀ (i:Nat),(∀ j,j < i->JH t (EF t x f j w)=false)->EF t x f i w = -1\/EF t x f i w∈x
 | 0,_=>.inr hw
 | i+1,hi=>by
  rcases PY ht h hw i (fun j hj=>hi j (by omega)) with e | e
  .have:=hi i (by omega)
   rw [e] at this;cases this
  .rcases Yt ht h e with e | e
   .exact .inl e
   .exact .inr e.1
theorem Am4 {t:A1} (ht:A5 t) {x f:List Int} (h:DO t x f) {w:Int} (hw:w∈x) {i:Nat} (hoff:∀ j,j < i->JH t (EF t x f j w)=false) (hnd:(LX t x f w i).Nodup)
  (he:JH t (EF t x f i w)=true\/EF t x f i w∈LX t x f w i):A18 t x f w i=B3 t x f w:=by
 have h8:i<=x.length:=by
  have h1:(LX t x f w i).length=i:=by simp [LX]
  rw [<- h1]
  refine KA _ _ hnd fun v hv=>?_
  obtain ⟨j,hj,rfl⟩:=YK.1 hv
  rcases PY ht h hw j (fun k hk=>hoff k (by omega)) with e | e
  .have:=hoff j hj
   rw [e] at this;cases this
  .exact e
 apply Sub.anti
 .intro b hb
  obtain ⟨j,hj,h1⟩:=(A3E _ _ _ _ _ _).1 hb
  exact (GW _ _ _ _ _ _).2 ⟨j,by omega,fun k hk=>hoff k (by omega),h1⟩
 .intro b hb
  obtain ⟨j,hj,h1,h2⟩:=(GW _ _ _ _ _ _).1 hb
  have h0:∀ j,(∀ k,k<=j->JH t (EF t x f k w)=false)->∃ j',j' < i/\EF t x f j' w=EF t x f j w:=by
   intro j
   induction j with
   | zero =>
    intro hk
    rcases Nat.eq_zero_or_pos i with e | e
    .subst e
     rcases he with he | he
     .rw [hk 0 (Nat.le_refl _)] at he;cases he
     .simp [LX] at he
    .exact ⟨0,e,rfl⟩
   | succ j ih =>
    intro hk
    obtain ⟨j',h3,h4⟩:=ih fun k hk'=>hk k (by omega)
    have e5:EF t x f (j' + 1) w=EF t x f (j+1) w:=by rw [EF,EF,h4]
    rcases lt_or_ge (j' + 1) i with h5 | h5
    .exact ⟨j' + 1,h5,e5⟩
    .have e6:j' + 1=i:=by omega
     rw [e6] at e5
     rcases he with he | he
     .rw [e5,hk (j+1) (Nat.le_refl _)] at he;cases he
     .obtain ⟨j3,h6,h7⟩:=YK.1 he
      exact ⟨j3,h6,h7.trans e5⟩
  obtain ⟨j',h3,h4⟩:=h0 j h1
  exact (A3E _ _ _ _ _ _).2 ⟨j',h3,by rw [h4];exact h2⟩
def G3 (t:A1) (x:List Int) (r:Int) (n:Nat):Bool:=(decide ((n:Int)=r) && KP (t.at n)) || (AU x (n:Int) && decide ((t.at n).kind=4) && KP (t.at n) && Ap t r n)
def Jw (t:A1) (x f:List Int) (r:Int):Bool:=decide ((t.at r.toNat).kind=2) && !decide ((t.at (Ey x f r).toNat).thread=(t.at r.toNat).thread)
def swB (t:A1) (x f:List Int) (a b:Nat):Bool:=x.any fun r=>Jw t x f r && Bc (B3 t x f (Ey x f r)) (a:Int) && G3 t x r b
def Ks (t:A1) (x f:List Int) (a b:Nat):Bool:=(AU x (a:Int) && AU x (b:Int) && Ap t a b) || swB t x f a b
def JP (t:A1) (x f:List Int):Rows:=BV (Ak t.nodes.length (Ks t x f))
theorem CH {n:Nat} (hn:n<=64) (p:Nat->Nat->Bool):Dk (Ak n p)=true:=by
 simp only [Dk,and_eq_true,decide_eq_true_eq,all_eq_true,Aj]
 refine ⟨hn,fun r hr=>?_⟩
 obtain ⟨a,ha,rfl⟩:=List.mem_map.1 hr
 apply B1
 intro j hj
 rw [getLsbD_and,BitVec.getLsbD_not,Au,Ds,Au]
 by_cases c:j < n
 .simp [c,hj]
 .simp [c]
theorem Lu {n:Nat} {p:Nat->Nat->Bool} {a:Nat} (h:a < n):(Ak n p).getD a 0#64=BS fun b=>decide (b < n) && p a b:=by
 rw [getD_eq_getElem?_getD,Bm h,getD_some]
theorem Bn {n:Nat} {p q:Nat->Nat->Bool} (h:∀ a b,a < n->b < n->p a b=q a b):Ak n p=Ak n q:=by
 unfold Ak
 apply List.map_congr_left
 intro a ha
 apply BD
 intro b _
 by_cases c:b < n
 .rw [h a b (List.mem_range.1 ha) c]
 .simp [c]
theorem AhW {n:Nat} (hn:n<=64) (p q:Nat->Nat->Bool):orF (Ak n p) (Ak n q)=Ak n fun a b=>p a b || q a b:=by
 unfold orF
 rw [CH hn,CH hn,Aj,Aj]
 simp only [decide_true,Bool.and_self,if_true]
 apply List.map_congr_left
 intro a ha
 have h:=List.mem_range.1 ha
 rw [Lu h,Lu h]
 apply B1
 intro j hj
 rw [getLsbD_or,Au,Au,Au]
 cases decide (j < n)<;>cases decide (j < 64)<;>simp
theorem Jm {n:Nat} (hn:n<=64) (p:Nat->Nat->Bool) (s:BitVec 64):Mj (Ak n p) s=Ak n fun a b=>Bc s a && Bc s b && p a b:=by
 unfold Mj
 rw [CH hn,Aj]
 simp only [if_true]
 apply List.map_congr_left
 intro a ha
 have h:=List.mem_range.1 ha
 rw [Lu h]
 cases c:Bc s (a:Int) with
 | false =>
  simp only [Bool.false_and,Bool.and_false,Bool.false_eq_true,if_false,c]
  exact J8.symm
 | true =>
  simp only [if_true,Bool.true_and,c]
  apply B1
  intro j hj
  rw [getLsbD_and,Au,Au]
  simp only [AC]
  cases decide (j < n)<;>cases decide (j < 64)<;>cases s.getLsbD j<;>simp
theorem B4 {s:BitVec 64} {x:Int}:x∈Ay s↔Bc s x=true:=by
 unfold Ay
 rw [mem_map]
 constructor
 .rintro ⟨i,hi,rfl⟩
  rw [AC];exact Nz.1 hi
 .intro h
  obtain ⟨h1,h2⟩:=CN h
  obtain ⟨m,rfl⟩:=eq_ofNat_of_zero_le h1
  rw [AC] at h
  exact ⟨m,Nz.2 h,rfl⟩
theorem Cu.list {t:A1} (ht:t.nodes.length<=64) {l:List Int} (h:Cu t l) (x:Int):x∈Ay (Cc l)↔x∈l:=by
 rw [B4,h.has ht,A9]
def DZ (p:Int->Bool) (s:BitVec 64) (l:List Int):BitVec 64:=l.foldl (fun s n=>if p n=true then s ||| C4 n else s) s
theorem Xb (p:Int->Bool) (j:Nat) (hj:j < 64):∀ (l:List Int) (s:BitVec 64),(DZ p s l).getLsbD j=(s.getLsbD j || (AU l (j:Int) && p (j:Int))):=by
 intro l
 induction l with
 | nil=>intro s;simp [DZ,AU]
 | cons x l ih =>
  intro s
  show (DZ p (if p x=true then s ||| C4 x else s) l).getLsbD j=_
  rw [ih]
  have e:AU (x::l) (j:Int)=(decide ((j:Int)=x) || AU l (j:Int)):=rfl
  rw [e]
  by_cases c:(j:Int)=x
  .subst c
   cases hp:p (j:Int) with
   | false=>simp
   | true =>
    rw [if_pos rfl,getLsbD_or,CT]
    simp [hj]
  .have:(C4 x).getLsbD j=false:=by rw [CT];simp [c]
   by_cases hp:p x=true
   .rw [if_pos hp,getLsbD_or,this];simp [c]
   .rw [if_neg hp];simp [c]
theorem Lq {p:Int->Bool} {s:BitVec 64} {l:List Int} {k:Nat} (hk:k < l.length):DZ p s (l.take (k+1))=if p (l.getD k 0)=true then DZ p s (l.take k) ||| C4 (l.getD k 0) else DZ p s (l.take k):=by
 unfold DZ
 rw [List.take_succ_eq_append_getElem hk,List.foldl_append,getD_eq_getElem?_getD,getElem?_eq_getElem hk]
 rfl
theorem AlJ {p:Int->Bool} {s:BitVec 64} {l:List Int} {k:Nat} (hk:k < l.length) (h:p (l.getD k 0)=true):DZ p s (l.take k) ||| C4 (l.getD k 0)=DZ p s (l.take (k+1)):=by rw [Lq hk,if_pos h]
theorem YQ {p:Int->Bool} {s:BitVec 64} {l:List Int} {k:Nat} (hk:k < l.length) (h:p (l.getD k 0)=false):DZ p s (l.take k)=DZ p s (l.take (k+1)):=by rw [Lq hk,if_neg (by rw [h];simp)]
theorem Ai5 {n a:Nat} (ha:a < n) (p:Nat->Nat->Bool) (q:Nat->Bool) (hq:∀ b,q b=true->b < n):(Ak n p).set a ((Ak n p).getD a 0#64 ||| BS q)=Ak n fun i b=>p i b || (decide (i=a) && q b):=by
 apply ext_getElem
 .simp [Ak]
 .intro i h1 h2
  have hi:i < n:=by simpa [Ak] using h2
  rw [getElem_set]
  by_cases c:a=i
  .subst c
   rw [if_pos rfl,Lu ha]
   have:(Ak n fun i b=>p i b || (decide (i=a) && q b))[a]=BS fun b=>decide (b < n) && (p a b || (decide (a=a) && q b)):=by simp [Ak]
   rw [this]
   apply B1
   intro j hj
   rw [getLsbD_or,Au,Au,Au]
   cases hqj:q j with
   | false=>simp
   | true=>have:=hq j hqj;simp [this,hj]
  .rw [if_neg c]
   have c':¬ i=a:=fun e=>c e.symm
   have e1:(Ak n p)[i]'(by simpa [Ak] using hi)=BS fun b=>decide (b < n) && p i b:=by simp [Ak]
   have e2:(Ak n fun i b=>p i b || (decide (i=a) && q b))[i]=BS fun b=>decide (b < n) && (p i b || (decide (i=a) && q b)):=by simp [Ak]
   rw [e1,e2]
   apply BD
   intro j _
   simp [c']
theorem J7 (n:Nat):Ak n (fun _ _=>false)=List.replicate n 0#64:=by
 apply ext_getElem
 .simp [Ak]
 .intro i h1 h2
  simp only [Ak,getElem_map,List.getElem_replicate,Bool.and_false]
  exact J8
def onL (t:A1) (x f:List Int):List Int:=(List.range t.nodes.length).map fun (n:Nat)=>Ey x f (n:Int)
theorem YO {t:A1} {x f:List Int}:(onL t x f).length=t.nodes.length:=by simp [onL]
theorem Lp {t:A1} {x f:List Int} {n:Nat} (h:n < t.nodes.length):(onL t x f)[n]? = some (Ey x f (n:Int)):=by simp [onL,h]
def Lw (t:A1) (x f:List Int) (n:Int):Bool:=if (t.at n.toNat).kind=2 then AU x (Ey x f n) && HT t (Ey x f n) (t.at n.toNat).loc else decide (Ey x f n = -1)
theorem A9U (t:A1) (x f:List Int):Df t x f=(decide (x.length=f.length) && (List.range x.length).all (Bz t x) && (List.range x.length).all fun i=>Lw t x f (x.getD i 0)):=by
 unfold Df
 by_cases h1:(decide (x.length=f.length) && (List.range x.length).all (Bz t x))=true
 .rw [h1,Bool.true_and,Bool.true_and]
  simp only [and_eq_true,decide_eq_true_eq,Ah,Bz] at h1
  have h2:x.Nodup:=NG fun i hi=>(h1.2 i hi).2
  have h0:∀ i,i < x.length->Ey x f (x.getD i 0)=f.getD i 0:=by
   intro i hi
   unfold Ey
   rw [if_pos (A9.2 (Ai hi)),YN h2 hi,toNat_natCast]
  rw [Bool.eq_iff_iff,Ah,Ah]
  constructor
  .intro h i hi
   have:=h i hi
   rw [Ew] at this
   rw [Lw,h0 i hi];exact this
  .intro h i hi
   have:=h i hi
   rw [Lw,h0 i hi] at this
   rw [Ew];exact this
 .rw [not_eq_true] at h1
  rw [h1,Bool.false_and,Bool.false_and]
theorem Abp {t:A1} (ht:A5 t) {a:Nat} (hla:t.locs.length<=a):∀ (n:Nat) (b:Nat),b < n->b < t.nodes.length->Aw t a b=true->(t.at a).thread=(t.at b).thread:=by
 intro n
 induction n with
 | zero=>intro b h;omega
 | succ n ih =>
  intro b h0 hb h
  unfold Aw at h
  rw [Dc ht.up a (by have:=ht.up b hb;omega)] at h
  by_cases c1:(t.at b).up < 0
  .rw [if_pos c1] at h;cases h
  .rw [if_neg c1] at h
   have hl:t.locs.length<=b:=by
    rcases lt_or_ge b t.locs.length with h1 | h1
    .have:=(ht.init b h1).up;omega
    .exact h1
   have hp:=(ht.good b hl hb).par (by omega)
   by_cases c2:(t.at b).up=a
   .rw [c2,toNat_natCast] at hp;exact hp
   .rw [if_neg c2] at h
    have h2:=ht.up b hb
    have hu:((t.at b).up.toNat:Int)=(t.at b).up:=by omega
    rw [<- hp]
    exact ih (t.at b).up.toNat (by omega) (by omega) h
theorem Ai0 {t:A1} {x:List Int} (hx:Cu t x) {w:Int} (hw:w∈x) {a:Nat} (h:(KB t x w).getLsbD a=true):a < t.nodes.length:=by
 rw [KB,Au,and_eq_true] at h
 have h1:=h.1
 simp only [Ace,or_eq_true,and_eq_true,decide_eq_true_eq,A9] at h1
 have:(a:Int)∈x:=by
  rcases h1 with h1 | h1
  .rw [h1.1];exact hw
  .exact h1.1.1.1
 obtain ⟨m,e,hm⟩:=A8 (hx _ this)
 omega
theorem A19 {t:A1} (ht:A5 t) {x f:List Int} (hF:DO t x f) {w:Int} (hw:w∈x) {a:Nat} (h:(B3 t x f w).getLsbD a=true):a < t.nodes.length:=by
 obtain ⟨j,_,h2,h3⟩:=(GW _ _ _ _ _ _).1 h
 rcases PY ht hF hw j (fun k hk=>h2 k (by omega)) with e | e
 .have:=h2 j (Nat.le_refl _)
  rw [e] at this;cases this
 .exact Ai0 hF.node e h3
theorem AeB {t:A1} {x:List Int} (hx:Cu t x) {r:Int} (hr:r∈x) {b:Nat} (h:G3 t x r b=true):b < t.nodes.length:=by
 simp only [G3,or_eq_true,and_eq_true,decide_eq_true_eq,A9] at h
 have:(b:Int)∈x:=by
  rcases h with h1 | h1
  .rw [h1.1];exact hr
  .exact h1.1.1.1
 obtain ⟨m,e,hm⟩:=A8 (hx _ this)
 omega
theorem A64 {n a:Nat} (ha:a < n) (p:Nat->Nat->Bool) (q:Nat->Bool) (hq:∀ b,q b=true->b < n):((Ak n p).map eW).set a [vW ((BS fun b=>decide (b < n) && p a b) ||| BS q)]=(Ak n fun i b=>p i b || (decide (i=a) && q b)).map eW:=by
 rw [<- Ai5 ha p q hq,Lu ha,map_set]
theorem A63 {n a b:Nat} (ha:a < n) (hb:b < n) (hn:n<=64) (p:Nat->Nat->Bool):((Ak n p).map eW).set a [vW ((BS fun b=>decide (b < n) && p a b) ||| C4 b)]=(Ak n fun i j=>p i j || (decide (i=a) && decide (j=b))).map eW:=by
 have:C4 (b:Int)=BS fun j=>decide (j=b):=by
  apply B1
  intro j hj
  rw [CT,Au]
  by_cases c:j=b
  .subst c;simp
  .have:¬ (j:Int)=(b:Int):=by omega
   simp [c,this]
 rw [this]
 exact A64 ha p _ fun j hj=>by rw [of_decide_eq_true hj];exact hb
def Yp (t:A1) (x f:List Int) (L:List Int) (a b:Nat):Bool:=L.any fun r=>Jw t x f r && Bc (B3 t x f (Ey x f r)) (a:Int) && G3 t x r b
theorem AlS {t:A1} {x f L:List Int} (h:∀ y,y∈L↔y∈x) (a b:Nat):Yp t x f L a b=swB t x f a b:=by
 unfold Yp swB
 rw [Bool.eq_iff_iff,any_eq_true,any_eq_true]
 exact ⟨fun ⟨y,h1,h2⟩=>⟨y,(h y).1 h1,h2⟩,fun ⟨y,h1,h2⟩=>⟨y,(h y).2 h1,h2⟩⟩
theorem AaP {t:A1} {x f L:List Int} {k:Nat} (hk:k < L.length) (a b:Nat):Yp t x f (L.take (k+1)) a b=(Yp t x f (L.take k) a b || (Jw t x f (L.getD k 0) && Bc (B3 t x f (Ey x f (L.getD k 0))) (a:Int) && G3 t x (L.getD k 0) b)):=by
 unfold Yp
 rw [List.take_succ_eq_append_getElem hk,List.any_append,getD_eq_getElem?_getD,getElem?_eq_getElem hk]
 simp
def onK (t:A1) (x f:List Int) (k:Nat):List Int:=(List.range t.nodes.length).map fun (n:Nat)=>Ey (x.take k) f (n:Int)
theorem AhU (t:A1) (x f:List Int):onK t x f 0=List.replicate t.nodes.length (-1):=by
 apply ext_getElem
 .simp [onK]
 .intro i h1 h2
  simp [onK,Ey,AU]
theorem AlD (t:A1) (x f:List Int):onK t x f x.length=onL t x f:=by unfold onK onL;rw [List.take_length]
theorem AdG {t:A1} {x f:List Int} {k:Nat}:(onK t x f k).length=t.nodes.length:=by simp [onK]
theorem AiK {l:List Int} {n:Int} (h:AU l n=true) (m:List Int):LD (l++m) n=LD l n:=by
 have h':AU (l++m) n=true:=A9.2 (List.mem_append_left _ (A9.1 h))
 obtain ⟨i,e1,i1,i2,i3⟩:=Gx h
 obtain ⟨j,e2,j1,j2,j3⟩:=Gx h'
 rw [e1,e2]
 have g:∀ k,k < l.length->(l++m).getD k 0=l.getD k 0:=fun k hk=>by rw [getD_eq_getElem?_getD,getD_eq_getElem?_getD,List.getElem?_append_left hk]
 rcases Nat.lt_trichotomy i j with c | c | c
 .exact absurd (by rw [g i i1];exact i2) (j3 i c)
 .rw [c]
 .exact absurd (by rw [<- g j (by omega)];exact j2) (i3 j c)
theorem AlE {t:A1} {x f:List Int} {k m:Nat} (hk:k < x.length) (hm:x.getD k 0=(m:Int)) (hmn:m < t.nodes.length) (hris:∀ i,i<=k->Di x i=true):((onK t x f k).map eI).set m [.i .i64 (f.getD k 0)]=(onK t x f (k+1)).map eI:=by
 have h5:∀ i,i < k->x.getD i 0 < x.getD k 0:=by
  have:∀ j,j<=k->∀ i,i < j->x.getD i 0 < x.getD j 0:=by
   intro j
   induction j with
   | zero=>intro _ i h;omega
   | succ j ih =>
    intro hj i hi
    have:=hris (j+1) hj
    simp only [Di,or_eq_true,decide_eq_true_eq,Nat.add_sub_cancel] at this
    have h2:x.getD j 0 < x.getD (j+1) 0:=this.resolve_left (by omega)
    rcases lt_or_ge i j with c | c
    .have:=ih (by omega) i c;omega
    .rw [show i=j by omega];exact h2
  exact this k (Nat.le_refl _)
 have h4:AU (x.take k) (m:Int)=false:=by
  rw [<- not_eq_true,A9]
  intro h
  obtain ⟨i,hi,e⟩:=getElem_of_mem h
  rw [length_take] at hi
  have:=h5 i (by omega)
  rw [List.getElem_take] at e
  rw [getD_eq_getElem?_getD,getElem?_eq_getElem (by omega),getD_some,e,hm] at this
  omega
 have h0:x.take (k+1)=x.take k++[(m:Int)]:=by
  rw [List.take_succ_eq_append_getElem hk]
  rw [getD_eq_getElem?_getD,getElem?_eq_getElem hk,getD_some] at hm
  rw [hm]
 have e0:((onK t x f k).map eI).set m [.i .i64 (f.getD k 0)]=((onK t x f k).set m (f.getD k 0)).map eI:=by rw [map_set]
 rw [e0]
 congr 1
 apply ext_getElem
 .simp [onK]
 .intro i h1 h2
  have hi:i < t.nodes.length:=by simpa [onK] using h2
  rw [getElem_set]
  by_cases c:m=i
  .subst c
   rw [if_pos rfl]
   simp only [onK,getElem_map,List.getElem_range]
   unfold Ey
   have h3:AU (x.take (k+1)) (m:Int)=true:=by rw [h0,A9];simp
   rw [if_pos h3]
   obtain ⟨j,e,j1,j2,j3⟩:=Gx h3
   rw [e,toNat_natCast]
   have:j=k:=by
    rw [length_take] at j1
    rcases Nat.lt_trichotomy j k with c | c | c
    .exfalso
     rw [h0,getD_eq_getElem?_getD,List.getElem?_append_left (by rw [length_take];omega),<- getD_eq_getElem?_getD] at j2
     have:AU (x.take k) (m:Int)=true:=by rw [A9,<- j2];exact Ai (by rw [length_take];omega)
     rw [h4] at this;cases this
    .exact c
    .omega
   rw [this]
  .rw [if_neg c]
   simp only [onK,getElem_map,List.getElem_range]
   unfold Ey
   have c':¬ (i:Int)=(m:Int):=by omega
   have e:AU (x.take (k+1)) (i:Int)=AU (x.take k) (i:Int):=by
    rw [h0,Bool.eq_iff_iff,A9,A9,List.mem_append]
    simp [c']
   rw [e]
   by_cases c2:AU (x.take k) (i:Int)=true
   .rw [if_pos c2,if_pos c2,h0,AiK c2]
   .rw [if_neg c2,if_neg c2]
def hbF (t:A1) (x f:List Int):Rows:=if Df t x f=true then JP t x f else []
inductive HN (p:Nat->Nat->Bool) (N:Nat) (a:Nat):Nat->Prop where
 | one {b:Nat} (hb:b < N) (h:p a b=true):HN p N a b
 | more {b c:Nat} (h1:HN p N a b) (hc:c < N) (h:p b c=true):HN p N a c
theorem HN.lt {p:Nat->Nat->Bool} {N a b:Nat} (h:HN p N a b):b < N:=by cases h<;>assumption
theorem HN.trans {p:Nat->Nat->Bool} {N a b c:Nat} (h:HN p N a b) (k:HN p N b c):HN p N a c:=by
 induction k with
 | one hb h2=>exact .more h hb h2
 | more _ hc h2 ih=>exact .more ih hc h2
open Classical in
theorem DY {n:Nat} (hn:n<=64) (p:Nat->Nat->Bool) {a b:Nat} (ha:a < n):((BV (Ak n p)).getD a 0#64).getLsbD b=true↔HN p n a b:=by
 have hl:(Ak n p).length<=64:=by rw [Aj];exact hn
 have e:(BV (Ak n p)).getD a 0#64=GF (Ak n p) ((Ak n p).getD a 0#64):=by
  rw [BV,CH hn,if_pos rfl,getD_eq_getElem?_getD]
  simp [Aj,ha]
 rw [e]
 have hc:=Zf hl ((Ak n p).getD a 0#64)
 have row:∀ i j,i < n->(((Ak n p).getD i 0#64).getLsbD j=true↔j < n/\p i j=true):=fun i j hi=>by
  rw [Lu hi,Au]
  simp only [and_eq_true,decide_eq_true_eq]
  exact ⟨fun h=>h.1,fun h=>⟨h,by omega⟩⟩
 constructor
 .intro h
  have:=hc.least (BS fun j=>decide (HN p n a j)) (fun j hj=>by
   obtain ⟨h1,h2⟩:=(row a j ha).1 hj
   rw [Au]
   simp only [and_eq_true,decide_eq_true_eq]
   exact ⟨.one h1 h2,by omega⟩) (fun y hy hs j hj=>by
   rw [Aj] at hy
   obtain ⟨h1,h2⟩:=(row y j hy).1 hj
   rw [Au] at hs ⊢
   simp only [and_eq_true,decide_eq_true_eq] at hs ⊢
   exact ⟨.more hs.1 h1 h2,by omega⟩) b h
  rw [Au] at this
  simp only [and_eq_true,decide_eq_true_eq] at this
  exact this.1
 .intro h
  induction h with
  | one hb h=>exact hc.sub _ ((row a _ ha).2 ⟨hb,h⟩)
  | more h1 hc' h2 ih=>exact hc.closed _ (by rw [Aj];exact h1.lt) ih _ ((row _ _ h1.lt).2 ⟨hc',h2⟩)
theorem Dh {n:Nat} (hn:n<=64) (p:Nat->Nat->Bool):(BV (Ak n p)).length=n:=by
 rw [BV,CH hn,if_pos rfl];simp [Aj]
theorem Agt {t:A1} (hu:Kt t) {a:Nat}:∀ (n:Nat) (b:Nat),b < n->b < t.nodes.length->Aw t a b=true->a < b:=by
 intro n
 induction n with
 | zero=>intro b h;omega
 | succ n ih =>
  intro b h0 hb h
  unfold Aw at h
  have h1:=hu b hb
  rw [Dc hu a (by omega)] at h
  by_cases c1:(t.at b).up < 0
  .rw [if_pos c1] at h;cases h
  .rw [if_neg c1] at h
   by_cases c2:(t.at b).up=a
   .omega
   .rw [if_neg c2] at h
    have:=ih (t.at b).up.toNat (by omega) (by omega) h
    omega
theorem RM {t:A1} (ht:A5 t) {v:Nat} (hv:v < t.nodes.length) (hu:0<=(t.at v).up):Ap t (t.at v).up v=true:=by
 have h3:=ht.up v hv
 obtain ⟨u,h0⟩:=eq_ofNat_of_zero_le hu
 have h2:u < t.nodes.length:=by omega
 have hl:t.locs.length<=v:=by
  rcases lt_or_ge v t.locs.length with h1 | h1
  .have:=(ht.init v h1).up;omega
  .exact h1
 have hg:=ht.good v hl hv
 have hp:=hg.par hu
 rw [h0,toNat_natCast] at hp
 have h4:=hg.thr
 rw [h0,Ap,BM h2,BM hv,toNat_natCast,toNat_natCast,if_neg (by omega)]
 simp only [Bool.true_and]
 unfold Aw
 rw [Dc ht.up u (by omega),if_neg (by omega),if_pos h0]
theorem GH {s:A6} (h:s.has.length=s.jf.length) (n:Int):Qz s n=Ey s.has s.jf n:=by
 unfold Qz Ey
 have h1:=Cg s.has n
 cases c:AU s.has n with
 | false =>
  rw [c] at h1
  have:=of_decide_eq_true h1
  simp [this]
 | true =>
  obtain ⟨k,e,hk,_,_⟩:=Gx c
  rw [e,if_neg (by omega)];simp
def plN (t:A1) (s:A6) (n:Int):Int:=Be s (t.at n.toNat).loc (if (t.at n.toNat).kind=2 then Qz s n else n)
def plR (t:A1) (s:A6) (n:Int):Int:=if (t.at n.toNat).kind=3 then Be s (t.at n.toNat).loc n else if (t.at n.toNat).kind=2 then Be s (t.at n.toNat).loc (Qz s n) else 0
def A71 (t:A1) (x f:List Int) (a b:Int):Bool:=Bc ((JP t x f).getD a.toNat 0#64) b
def Gm (t:A1) (s:A6) (a b:Int):Bool:=Dg (t.at a.toNat) (t.at b.toNat) (plN t s a) (plN t s b)
def DM (t:A1) (s:A6):Bool:=Bd t s && (BC (JP t s.has s.jf)).all fun x=>Gm t s x.1 x.2
def Me (t:A1) (s:A6):Bool:=(List.range s.has.length).all fun i=>(List.range s.has.length).all fun k=>decide (i=k) || !A71 t s.has s.jf (s.has.getD i 0) (s.has.getD k 0) || Dg (t.at (s.has.getD i 0).toNat) (t.at (s.has.getD k 0).toNat) (plR t s (s.has.getD i 0)) (plR t s (s.has.getD k 0))
theorem AJ {t:A1} {s:A6} (h:Bd t s=true):Df t s.has s.jf=true:=by
 simp only [Bd,and_eq_true,decide_eq_true_eq] at h
 obtain ⟨⟨⟨⟨⟨h1,h2⟩,h3⟩,h4⟩,h5⟩,h6⟩:=h
 simp only [Cz,and_eq_true] at h1
 rw [Df,decide_eq_true h2.symm]
 simp only [Bool.true_and,and_eq_true,Ah]
 constructor
 .intro i hi
  have:=Ah.1 h1.1 i hi
  simp only [Cs,and_eq_true] at this
  rw [Bz,this.1.1,this.1.2];rfl
 .intro i hi
  have:=Ah.1 h4 i hi
  rw [Jl] at this
  rw [Ew]
  split
  .rename_i c
   rw [if_pos c] at this
   simp only [and_eq_true] at this ⊢
   exact ⟨this.1.1,this.1.2⟩
  .rename_i c
   rw [if_neg c] at this
   exact this
def EX (t:A1) (k:Nat):List Int:=((List.range k).filter fun i=>decide ((t.at i).up < 0)).map fun (i:Nat)=>(i:Int)
def Bu (t:A1):A6:=⟨EX t t.nodes.length,List.replicate (EX t t.nodes.length).length (-1),(List.range t.locs.length).map fun (i:Nat)=>[[(i:Int)]]⟩
theorem AdV {t:A1} {k:Nat} (h:decide ((t.at k).up < 0)=true):EX t (k+1)=EX t k++[(k:Int)]:=by
 unfold EX
 rw [range_succ,List.filter_append,map_append]
 simp only [List.filter_cons,List.filter_nil,h,if_true,List.map_cons,List.map_nil]
theorem AdU {t:A1} {k:Nat} (h:decide ((t.at k).up < 0)=false):EX t (k+1)=EX t k:=by
 unfold EX
 rw [range_succ,List.filter_append,map_append]
 simp [h]
theorem Xj {t:A1} (k:Nat):(EX t k).length<=k:=by
 unfold EX
 rw [length_map]
 exact Nat.le_trans (List.length_filter_le _ _) (by simp)
def Br (l:List Int) (n:Int):Nat:=(l.takeWhile fun x=>decide (x < n)).length
def Bg (l:List Int) (k:Nat) (x:Int):List Int:=l.take k++x::l.drop k
theorem Dq (l:List Int) (n:Int):Br l n<=l.length:=(List.takeWhile_sublist _).length_le
theorem R0 {l:List Int} {n:Int}:∀ {k:Nat},k < Br l n->l.getD k 0 < n:=by
 induction l with
 | nil=>intro k h;simp [Br] at h
 | cons x l ih =>
  intro k h
  unfold Br at h
  rw [List.takeWhile_cons] at h
  by_cases c:x < n
  .simp only [c,decide_true,if_true,length_cons] at h
   cases k with
   | zero=>simpa using c
   | succ k =>
    have:=ih (k:=k) (by unfold Br;omega)
    simpa using this
  .simp [c] at h
theorem Ak5 {l:List Int} {n:Int} (h:Br l n < l.length):¬ l.getD (Br l n) 0 < n:=by
 induction l with
 | nil=>simp at h
 | cons x l ih =>
  unfold Br at h ⊢
  rw [List.takeWhile_cons] at h ⊢
  by_cases c:x < n
  .simp only [c,decide_true,if_true,length_cons] at h ⊢
   have:=ih (by unfold Br;omega)
   unfold Br at this
   simpa using this
  .simp [c]
theorem D1 {l:List Int} {k:Nat} (h:k<=l.length) (x:Int):(Bg l k x).length=l.length+1:=by
 simp [Bg];omega
def Cy (t:A1) (s:A6) (n kind:Int):Bool:=Bd t s && BP t n && decide ((t.at n.toNat).kind=kind) && !AU s.has n && AU s.has (t.at n.toNat).up
def B6 (s:A6) (n w:Int):A6:=⟨Bg s.has (Br s.has n) n,Bg s.jf (Br s.has n) w,s.mo⟩
structure Big (t:A1) (s:A6) (k:Nat):Prop where
 has:s.has.length<=64+k
 jf:s.jf.length<=64+k
 mo:s.mo.length=t.locs.length
 mi:∀ l∈s.mo,l≠[]/\l.length<=1+k
 mc:∀ l∈s.mo,∀ c∈l,c.length<=1+k
theorem Big.sz {t:A1} (ht:A5 t) {s:A6} {k:Nat} (h:Big t s k) (hk:k<=100):DL s :=
 ⟨by have:=h.has;omega,by have:=h.jf;omega,by have:=h.mo;have:=ht.l4;omega,fun l hl=>by have:=(h.mi l hl).2;omega,fun l hl c hc=>by have:=h.mc l hl c hc;omega⟩
theorem Big.mono {t:A1} {s:A6} {k j:Nat} (h:Big t s k) (hk:k<=j):Big t s j :=
 ⟨by have:=h.has;omega,by have:=h.jf;omega,h.mo,fun l hl=>⟨(h.mi l hl).1,by have:=(h.mi l hl).2;omega⟩,fun l hl c hc=>by have:=h.mc l hl c hc;omega⟩
theorem AfB {t:A1} (ht:A5 t):Big t (Bu t) 0:=by
 have h:=Xj (t:=t) t.nodes.length
 have h0:=ht.n64
 refine ⟨by show (EX t t.nodes.length).length<=64;omega,by show (List.replicate _ _).length<=64;rw [List.length_replicate];omega,by simp [Bu],?_,?_⟩
 .intro l hl
  simp only [Bu,mem_map] at hl
  obtain ⟨i,_,rfl⟩:=hl
  simp
 .intro l hl c hc
  simp only [Bu,mem_map] at hl
  obtain ⟨i,_,rfl⟩:=hl
  simp at hc
  subst hc
  simp
theorem AhK {t:A1} {s:A6} {k:Nat} (h:Big t s k) (hj:s.jf.length=s.has.length) (n w:Int):Big t (B6 s n w) (k+1):=by
 have h1:=Dq s.has n
 refine ⟨?_,?_,h.mo,fun l hl=>⟨(h.mi l hl).1,by have:=(h.mi l hl).2;omega⟩,fun l hl c hc=>by have:=h.mc l hl c hc;omega⟩
 .show (Bg s.has (Br s.has n) n).length<=_
  rw [D1 h1];have:=h.has;omega
 .show (Bg s.jf (Br s.has n) w).length<=_
  rw [D1 (by omega)];have:=h.jf;omega
end Go.AM
