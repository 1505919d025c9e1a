/-
  Own work, part of the proof of these laws: plain laws.
-/
import Derived.Test.YtpnaenhghnkggaaGreatDoorAmF
set_option maxRecDepth 10000
set_option maxHeartbeats 64000000
set_option linter.unusedVariables false
set_option linter.unusedSimpArgs false
set_option linter.unnecessarySimpa false
open Bool (and_eq_true or_eq_true not_eq_true')
open Int (toNat_natCast eq_ofNat_of_zero_le)
open BitVec (getLsbD_or)
open List (range_succ ext_getElem)
namespace Go.AM
open Go Go.Proofs
def BA (xs:List Int):BitVec 64:=xs.foldl (fun s i=>s ||| Cl i) 0#64
def ED (lo hi:Int):BitVec 64:=BO fun i=>decide (lo<=(i:Int)/\(i:Int) < hi)
def AF (s:BitVec 64):List Int:=(Bw s).map fun (i:Nat)=>(i:Int)
def C7 {α:Type} (p:α->Bool) (xs:List α):Int:=match xs.findIdx? p with
 | some i=>i
 | none=>-1
theorem Di {α:Type} {p:α->Bool} {xs:List α} {k:Nat} (hk:k < xs.length) (h1:p xs[k]=true) (h2:∀ (j:Nat) (hj:j < k),p xs[j]=false):C7 p xs=k:=by
 grind [C7,List.findIdx?_eq_some_iff_getElem]
theorem DE {α:Type} {p:α->Bool} {xs:List α} (h:∀ x∈xs,p x=false):C7 p xs = -1:=by
 unfold C7
 rw [List.findIdx?_eq_none_iff.2 h]
theorem JQ {α:Type} (p:α->Bool) (xs:List α):decide (0<=C7 p xs)=xs.any p:=by
 grind [C7]
abbrev Rows:=List (BitVec 64)
def Dz (r:Rows):Bool:=decide (r.length<=64) && r.all fun x=>decide (x &&& ~~~(ED 0 r.length)=0#64)
def Dr (a:Rows) (s:BitVec 64):BitVec 64:=(Bw (s &&& ED 0 a.length)).foldl (fun x i=>x ||| a.getD i 0#64) 0#64
def Jp (a:Rows):Nat->BitVec 64->BitVec 64
 | 0,s=>s
 | n+1,s=>if s ||| Dr a s=s then s else Jp a n (s ||| Dr a s)
theorem LC {s x:BitVec 64} (h:s ||| x≠s):s.toNat < (s ||| x).toNat:=by
 grind [Nat.left_le_or,BitVec.eq_of_toNat_eq]
theorem A2h (a:Rows):∀ (n:Nat) (s:BitVec 64),18446744073709551616 - s.toNat<=n->Jp a (n+1) s=Jp a n s:=by
 intro n
 induction n with
 | zero=>intro s h;have:=s.isLt;omega
 | succ n ih =>
  intro s h
  rw [Jp]
  by_cases e:s ||| Dr a s=s
  .rw [if_pos e];rw [Jp,if_pos e]
  .rw [if_neg e]
   have:=LC e
   rw [ih _ (by omega),Jp,if_neg e]
def Jj (a:Rows) (s:BitVec 64):BitVec 64:=Jp a 18446744073709551616 s
theorem A0A (a:Rows) (s:BitVec 64):Jj a s=if s ||| Dr a s=s then s else Jj a (s ||| Dr a s):=by
 have h0:Jj a s=Jp a (18446744073709551615+1) s:=rfl
 rw [h0,Jp]
 by_cases e:s ||| Dr a s=s
 .rw [if_pos e,if_pos e]
 .rw [if_neg e,if_neg e]
  have:=LC e
  exact (A2h a 18446744073709551615 _ (by omega)).symm
def Cs (a:Rows):Rows:=if Dz a then (List.range a.length).map (fun i=>Jj a (a.getD i 0#64)) else []
def YV (a:Rows) (s:BitVec 64):Rows:=if Dz a then (List.range a.length).map (fun (i:Nat)=>if BG s (i:Int) then a.getD i 0#64 &&& s else 0#64) else []
theorem Ac1 {a:Rows} {i:Nat} (h:i < a.length):a.getD i 0#64=a[i]:=by
 grind
theorem Lt {a:Rows} (h:Dz a=true):a.length<=64:=by simp_all [Dz]
def Bc (a:Rows):List (Int×Int):=if Dz a then (List.range a.length).flatMap (fun i=>(AF (a.getD i 0#64)).map fun j=>((i:Int),j)) else []
theorem Dj (s:BitVec 64):(AF s).length<=64:=by
 grind [AF,Bw]
theorem Mp (a:Rows):∀ k,((List.range k).flatMap (fun i=>(AF (a.getD i 0#64)).map fun j=>((i:Int),j))).length<=64 * k:=by
 intro k
 induction k with
 | zero=>simp
 | succ k ih =>
  grind [range_succ,Dj]
def Sub (s t:BitVec 64):Prop:=∀ j,s.getLsbD j=true->t.getLsbD j=true
def A3k (a:Rows) (t:BitVec 64):Prop:=∀ y,y < a.length->t.getLsbD y=true->Sub (a.getD y 0#64) t
structure NQ (a:Rows) (s t:BitVec 64):Prop where
 sub:Sub s t
 closed:A3k a t
 least:∀ u,Sub s u->A3k a u->Sub t u
theorem Sub.anti {s t:BitVec 64} (h:Sub s t) (k:Sub t s):s=t:=by
 apply B4
 intro j _
 cases hs:s.getLsbD j with
 | true=>exact (h j hs).symm
 | false =>
  cases ht:t.getLsbD j with
  | false=>rfl
  | true=>rw [k j ht] at hs;cases hs
theorem NQ.uniq {a:Rows} {s t u:BitVec 64} (h:NQ a s t) (k:NQ a s u):t=u:=Sub.anti (h.least u k.sub k.closed) (k.least t h.sub h.closed)
theorem Tb {α:Type} (f:α->BitVec 64) (j:Nat):∀ (l:List α) (x:BitVec 64),(l.foldl (fun x i=>x ||| f i) x).getLsbD j=(x.getLsbD j || l.any fun i=>(f i).getLsbD j)
 | [],x=>by simp
 | i::l,x=>by rw [List.foldl_cons,Tb f j l,getLsbD_or,List.any_cons,Bool.or_assoc]
theorem Me {a:Rows} (hl:a.length<=64) (s:BitVec 64) (j:Nat):(Dr a s).getLsbD j=true↔∃ i,i < a.length/\s.getLsbD i=true/\(a.getD i 0#64).getLsbD j=true:=by
 unfold Dr
 rw [Tb]
 simp only [BitVec.getLsbD_zero,Bool.false_or,List.any_eq_true,K1,BitVec.getLsbD_and,and_eq_true,ED,Aw,decide_eq_true_eq]
 grind
theorem A6Q {a:Rows} (hl:a.length<=64):∀ (n:Nat) (s:BitVec 64),18446744073709551616 - s.toNat<=n->NQ a s (Jp a n s):=by
 intro n
 induction n with
 | zero=>intro s h;have:=s.isLt;omega
 | succ n ih =>
  intro s h
  rw [Jp]
  by_cases e:s ||| Dr a s=s
  .rw [if_pos e]
   refine ⟨fun j h=>h,fun y hy hs j hj=>?_,fun u hu _=>hu⟩
   have:(Dr a s).getLsbD j=true:=(Me hl s j).2 ⟨y,hy,hs,hj⟩
   grind
  .rw [if_neg e]
   have hg:=LC e
   obtain ⟨h1,h2,h3⟩:=ih (s ||| Dr a s) (by omega)
   refine ⟨fun j hj=>h1 j (by grind),h2,fun u hu hc=>h3 u (fun j hj=>?_) hc⟩
   rw [getLsbD_or,or_eq_true] at hj
   rcases hj with hj | hj
   .exact hu j hj
   .obtain ⟨i,hi,hs,hij⟩:=(Me hl s j).1 hj
    exact hc i hi (hu i hs) j hij
theorem A0z {a:Rows} (hl:a.length<=64) (s:BitVec 64):NQ a s (Jj a s):=A6Q hl _ s (by omega)
theorem AgA (s t:BitVec 64):(s ||| t=t)↔Sub s t:=by
 constructor
 .intro h j hj
  grind
 .intro h
  apply B4
  intro j _
  rw [getLsbD_or]
  cases hs:s.getLsbD j with
  | true=>rw [h j hs];rfl
  | false=>simp
def A0q (a:Rows):Bool:=Dz a && (List.range a.length).all fun i=>!((Cs a).getD i 0#64).getLsbD i
def orF (a b:Rows):Rows:=if Dz a && Dz b && decide (a.length=b.length) then (List.range a.length).map (fun i=>a.getD i 0#64 ||| b.getD i 0#64) else []
def CS {α:Type} (n k:Nat) (f:Nat->α) (z:α):List α:=(List.range n).map fun j=>if j < k then f j else z
theorem QJ {α:Type} {n k:Nat} {f:Nat->α} {z:α}:(CS n k f z).length=n:=by simp [CS]
theorem JJ {α:Type} {n k:Nat} {f:Nat->α} {z:α} (h:k < n):(CS n k f z)[k]? = some z:=by
 grind [CS]
theorem LU {α β:Type} {n k:Nat} {f:Nat->α} {z:α} (g:α->β):((CS n k f z).map g).set k (g (f k))=(CS n (k+1) f z).map g:=by
 apply ext_getElem
 .simp [CS]
 grind [CS]
theorem G6 {α:Type} {n:Nat} {f:Nat->α} {z:α}:CS n 0 f z=List.replicate n z:=by
 apply ext_getElem
 .simp [CS]
 .intro j h1 h2;simp [CS]
theorem Hr {α:Type} {n:Nat} {f:Nat->α} {z:α}:CS n n f z=(List.range n).map f:=by
 apply List.map_congr_left
 grind
def Az.zero:Az:=⟨0,0,0,0,0,0,false,false,[]⟩
def A1.at (t:A1) (i:Nat):Az:=t.nodes.getD i Az.zero
def Jd (t:A1):Prop:=∀ i,i < t.nodes.length->(t.at i).up < i
def Kf (t:A1) (a:Int):Nat->Int->Bool
 | 0,_=>false
 | n+1,x=>if x < 0 then false else if x=a then true else Kf t a n (t.at x.toNat).up
theorem Ry {t:A1} (h:Jd t) (a:Int):∀ (n:Nat) (x:Int),x < n->x < t.nodes.length->Kf t a (n+1) x=Kf t a n x:=by
 intro n
 induction n with
 | zero =>
  simp_all [Kf]
 | succ n ih =>
  intro x hx hl
  rw [Kf]
  by_cases h0:x < 0
  .rw [if_pos h0,Kf,if_pos h0]
  .rw [if_neg h0]
   conv=>rhs;rw [Kf,if_neg h0]
   by_cases h1:x=a
   .rw [if_pos h1,if_pos h1]
   .rw [if_neg h1,if_neg h1]
    have:=h x.toNat (by omega)
    exact ih _ (by omega) (by omega)
def AB (t:A1) (a:Int) (b:Nat):Bool:=Kf t a t.nodes.length (t.at b).up
theorem Ait {t:A1} {i:Nat} (h:i < t.nodes.length):t.at i=t.nodes[i]:=by
 simp only [A1.at,List.getD_eq_getElem?_getD,List.getElem?_eq_getElem h,Option.getD_some]
theorem A6 {t:A1} {i:Nat} (h:i < t.nodes.length):t.nodes[i]? = some (t.at i):=by rw [Ait h,List.getElem?_eq_getElem h]
def BF (t:A1) (n:Int):Bool:=decide (0<=n) && decide (n < t.nodes.length)
theorem Aa {t:A1} {n:Int} (h:BF t n=true):∃ m:Nat,n=(m:Int)/\m < t.nodes.length:=by
 simp only [BF,and_eq_true,decide_eq_true_eq] at h
 obtain ⟨m,rfl⟩:=eq_ofNat_of_zero_le h.1
 exact ⟨m,rfl,by omega⟩
theorem BT {t:A1} {m:Nat} (h:m < t.nodes.length):BF t (m:Int)=true:=by
 simp only [BF,and_eq_true,decide_eq_true_eq]
 omega
def At (t:A1) (a b:Int):Bool:=BF t a && BF t b && (if (t.at a.toNat).thread < 0 then decide (0<=(t.at b.toNat).thread) else AB t a b.toNat)
def Bm (t:A1) (a b:Int):Bool:=BF t a && BF t b && !decide (a=b) && decide (0<=(t.at a.toNat).thread) && decide ((t.at a.toNat).thread=(t.at b.toNat).thread) && !AB t a b.toNat && !AB t b a.toNat
def CI (n:Az):Bool:=decide (0<=n.thread) && decide (n.kind=3) && decide (n.mode=0) && !n.rmw
def Lc (n:Az):Bool:=(decide (n.kind=2) || decide (n.kind=4)) && (decide (n.mode=1) || decide (n.mode=3) || decide (n.mode=4))
def LH (n:Az):Bool:=(decide (n.kind=3) && decide (0<=n.thread) || decide (n.kind=4)) && (decide (n.mode=2) || decide (n.mode=3) || decide (n.mode=4))
theorem AS {n:Nat} {p:Nat->Bool} (h:∀ j,j < n->p j=true):(List.range n).all p=true:=by
 grind
theorem AW {n k:Nat} {p:Nat->Bool} (hk:k < n) (h:p k=false):(List.range n).all p=false:=by
 grind
theorem Ag {n:Nat} {p:Nat->Bool}:(List.range n).all p=true↔∀ j,j < n->p j=true:=by
 grind
theorem Ye {n k:Nat} {p:Nat->Bool} (hk:k < n) (h:p k=true):(List.range n).any p=true:=by
 grind
theorem Ar {xs:List Int} {k:Nat} (h:k < xs.length):xs[k]? = some (xs.getD k 0):=by
 grind
theorem Ep {xs:List (List Int)} {k:Nat} (h:k < xs.length):xs[k]? = some (xs.getD k []):=by
 grind
theorem Cx {xs:List (List (List Int))} {k:Nat} (h:k < xs.length):xs[k]? = some (xs.getD k []):=by
 grind
theorem Af {α:Type} {xs:List α} {k:Nat} {d:α} (h:k < xs.length):xs.getD k d∈xs:=by
 grind
def AZ (l:List Int) (n:Int):Bool:=l.any fun y=>decide (n=y)
theorem A7 {l:List Int} {n:Int}:AZ l n=true↔n∈l:=by
 simp_all [AZ]
def BI (l:List Int) (n:Int):Int:=C7 (fun y=>decide (n=y)) l
theorem Kb (l:List Int) (n:Int):decide (0<=BI l n)=AZ l n:=JQ _ _
theorem CZ (l:List Int) (n:Int):decide (BI l n < 0) = !AZ l n:=by
 rw [<- Kb]
 grind
theorem Jl {α:Type} {p:α->Bool} {l:List α} (h:l.any p=true):∃ k:Nat,C7 p l=k/\∃ hk:k < l.length,p l[k]=true/\∀ (j:Nat) (hj:j < k),p (l[j]'(by omega))=false:=by
 unfold C7
 cases e:l.findIdx? p with
 | none =>
  grind
 | some i =>
  obtain ⟨hi,h1,h2⟩:=List.findIdx?_eq_some_iff_getElem.1 e
  grind
theorem Pb {α:Type} {p:α->Bool} {l:List α} (h:l.any p=false):C7 p l = -1:=by
 grind [DE]
theorem BV {l:List Int} {n:Int} (h:AZ l n=true):∃ k:Nat,BI l n=k/\k < l.length/\l.getD k 0=n/\∀ j,j < k->l.getD j 0≠n:=by
 obtain ⟨k,e,hk,h1,h2⟩:=Jl h
 refine ⟨k,e,hk,?_,fun j hj=>?_⟩
 .grind
 grind
theorem AaU {l:List Int} {n:Int} (h:AZ l n=false):BI l n = -1:=Pb h
def CB (l:List Int) (k:Nat):Bool:=decide (k=0) || decide (l.getD (k - 1) 0 < l.getD k 0)
def DP (t:A1):BitVec 64:=BO fun i=>decide (i < t.nodes.length) && decide ((t.at i).up < 0)
def BY (t:A1) (l:List Int) (k:Nat):Bool:=BF t (l.getD k 0) && CB l k && (decide ((t.at (l.getD k 0).toNat).up < 0) || AZ l (t.at (l.getD k 0).toNat).up)
def C0 (t:A1) (l:List Int):Bool:=(List.range l.length).all (BY t l) && decide (DP t ||| BA l=BA l)
def AN (t:A1) (x y:Int):Bool:=CI (t.at x.toNat) && CI (t.at y.toNat) && decide ((t.at x.toNat).val=(t.at y.toNat).val) && Bm t x y
def EV (t:A1) (n loc:Int):Bool:=decide ((t.at n.toNat).kind=3) && decide ((t.at n.toNat).loc=loc)
def B3 (t:A1) (l has:List Int) (loc:Int) (i:Nat):Bool:=AZ has (l.getD i 0) && CB l i && EV t (l.getD i 0) loc && decide (0<=(t.at (l.getD i 0).toNat).thread) && (List.range i).all fun k=>AN t (l.getD i 0) (l.getD k 0)
def BR (t:A1) (l has:List Int) (loc:Int):Bool:=!decide (l.length=0) && (List.range l.length).all (B3 t l has loc)
def Gi (t:A1) (s:A8) (i:Nat):Bool :=
 if (t.at (s.has.getD i 0).toNat).kind=2 then AZ s.has (s.jf.getD i 0) && EV t (s.jf.getD i 0) (t.at (s.has.getD i 0).toNat).loc && decide ((t.at (s.jf.getD i 0).toNat).val=(t.at (s.has.getD i 0).toNat).val) else decide (s.jf.getD i 0 = -1)
def CX (t:A1) (s:A8) (loc:Nat):Bool :=
 let m:=s.mo.getD loc []
 !decide (m.length=0) && decide (m.getD 0 []=[(loc:Int)]) && (List.range m.length).all fun i=>decide (i=0) || BR t (m.getD i []) s.has loc
def Jz (t:A1) (s:A8) (i:Nat):Bool :=
 !decide ((t.at (s.has.getD i 0).toNat).kind=3) || decide (((s.mo.getD (t.at (s.has.getD i 0).toNat).loc.toNat []).filter fun c=>AZ c (s.has.getD i 0)).length=1)
def BJ (t:A1) (s:A8):Bool:=C0 t s.has && decide (s.jf.length=s.has.length) && decide (s.mo.length=t.locs.length) && (List.range s.has.length).all (Gi t s) && (List.range s.mo.length).all (CX t s) && (List.range s.has.length).all (Jz t s)
structure KZ (s:A8):Prop where
 has:s.has.length<=1000
 jf:s.jf.length<=1000
 mo:s.mo.length<=1000
 mi:∀ l∈s.mo,l.length<=1000
 mc:∀ l∈s.mo,∀ c∈l,c.length<=1000
theorem KZ.mi' {s:A8} (h:KZ s) (k:Nat):(s.mo.getD k []).length<=1000:=by
 by_cases hk:k < s.mo.length
 .exact h.mi _ (Af hk)
 grind
theorem KZ.mc' {s:A8} (h:KZ s) (k j:Nat):((s.mo.getD k []).getD j []).length<=1000:=by
 by_cases hk:k < s.mo.length
 .by_cases hj:j < (s.mo.getD k []).length
  .exact h.mc _ (Af hk) _ (Af hj)
  grind
 grind
def JY (s:A8) (n:Int):Int:=if BI s.has n < 0\/(s.jf.length:Int)<=BI s.has n then -1 else s.jf.getD (BI s.has n).toNat 0
def B5 (s:A8) (loc w:Int):Int:=if loc < 0\/(s.mo.length:Int)<=loc then -1 else C7 (fun c=>AZ c w) (s.mo.getD loc.toNat [])
def E8 (a b:Az) (pa pb:Int):Bool :=
 (!(decide (a.kind=2) || decide (a.kind=3)) || !(decide (b.kind=2) || decide (b.kind=3)) || !decide (a.loc=b.loc)) || (if b.kind=2 then decide (pa<=pb) else decide (pa < pb))
def BN (t:A1) (a u:Nat):Bool:=decide (a < t.nodes.length) && decide ((t.at a).up=u) && decide ((t.at a).thread=(t.at u).thread)
def EL (t:A1) (v:Int):Bool:=decide (0<=v) && decide (v < t.vals)
def Jr (t:A1) (v:Int):Bool:=decide (0<=v) && decide (v < t.locs.length)
def A3z (t:A1) (u:Nat):Bool:=(t.at u).fin && decide ((t.at u).regs.length=(t.regs.getD (t.at u).thread.toNat []).length) && (t.at u).regs.all (EL t)
def CG (t:A1) (u:Nat):Bool :=
 let n:=t.at (u+1);let m:=t.at u
 (decide (n.kind=4) && decide (n.loc=0) && decide (n.val=0) && !n.rmw && decide (1<=n.mode) && decide (n.mode<=4)) ||
 (decide (n.kind=3) && Jr t n.loc && EL t n.val &&
  (if n.rmw then decide (0<=n.mode) && decide (n.mode<=4) && decide (m.kind=2) && decide (m.loc=n.loc) && decide (m.mode=n.mode) else decide (n.mode=0) || decide (n.mode=2) || decide (n.mode=4)))
def Dl (t:A1) (u:Nat):Bool:=decide (u+1 < t.nodes.length) && decide ((t.at (u+1)).up=u) && (t.at (u+1)).rmw
def DB (t:A1) (a v:Nat) (loc mode:Int):Bool:=decide ((t.at a).kind=2) && decide ((t.at a).val=v) && decide ((t.at a).loc=loc) && decide ((t.at a).mode=mode) && !(t.at a).rmw
def Afg (t:A1) (u:Nat):Prop:=u < t.nodes.length/\0<=(t.at u).thread/\(t.at u).thread < t.regs.length
def G0 (t:A1):Nat->Nat->Nat->Prop
 | 0,_,_=>False
 | n+1,u,e=>Afg t u/\(
  (BN t (u+1) u=false/\A3z t u=true/\e=u+1) \/
  (BN t (u+1) u=true/\(t.at u).fin=false/\(t.at u).regs=[]/\CG t u=true/\G0 t n (u+1) e) \/
  (BN t (u+1) u=true/\(t.at u).fin=false/\(t.at u).regs=[]/\∃ (vals:Nat) (k:Nat->Nat) (loc mode:Int),t.vals=vals/\0 < vals/\k 0=u+1/\k vals=e/\Jr t loc=true /\
   (∀ v,v < vals->BN t (k v) u=true/\DB t (k v) v loc mode=true/\G0 t n (k v) (k (v+1))) /\
   ((mode=0\/mode=1\/mode=4)\/(0<=mode/\mode<=4/\∃ v,v < vals/\Dl t (k v)=true))))
def Gh (t:A1) (i:Nat):Bool:=decide ((t.at i).thread = -1) && decide ((t.at i).up = -1) && decide ((t.at i).kind=3) && decide ((t.at i).loc=i) && decide ((t.at i).mode=0) && EL t (t.at i).val && !(t.at i).rmw && !(t.at i).fin && decide ((t.at i).regs=[])
def Dt (t:A1) (u i:Nat):Bool:=decide ((t.at u).thread=i) && decide ((t.at u).up = -1) && decide ((t.at u).kind=1) && decide ((t.at u).loc=0) && decide ((t.at u).mode=0) && decide ((t.at u).val=0) && !(t.at u).rmw
structure A5 (t:A1):Prop where
 v2:2<=t.vals
 v4:t.vals<=4
 l4:t.locs.length<=4
 ln:t.locs.Nodup
 n64:t.nodes.length<=64
 r1:1<=t.regs.length
 r4:t.regs.length<=4
 rl:∀ l∈t.regs,l.length<=4/\l.Nodup
 first:t.locs.length<=t.nodes.length/\∀ i,i < t.locs.length->Gh t i=true
 thr:∃ s:Nat->Nat,s 0=t.locs.length/\s t.regs.length=t.nodes.length/\∀ i,i < t.regs.length->Dt t (s i) i=true/\∃ n,G0 t n (s i) (s (i+1))
theorem AdD {v n:Int} (hn:0 < n):(v.tmod n < 0->v.tmod n+n=v % n/\-n < v.tmod n)/\(¬ v.tmod n < 0->v.tmod n=v % n):=by
 have h1:v.tmod n < n:=Int.tmod_lt_of_pos v hn
 have h2 : -n < v.tmod n:=Int.lt_tmod_of_pos v hn
 have h3:v.tmod n+n * v.tdiv n=v:=Int.tmod_add_mul_tdiv v n
 have h4:v % n=v.tmod n % n:=by
  conv=>lhs;rw [<- h3]
  exact Int.add_mul_emod_self_left ..
 constructor
 .intro h
  refine ⟨?_,h2⟩
  rw [h4,<- Int.add_emod_right,Int.emod_eq_of_lt (by omega) (by omega)]
 simp_all [Int.emod_eq_of_lt]
inductive GE:List VV->Prop
 | mk (op n:Int) (nm:ByteArray) (kids:List (List VV)):kids.length<=1000->(∀ k∈kids,GE k)->GE [.i .i64 op,.i .i64 n,.s nm,.ls kids]
theorem GE.len {r:List VV} (h:GE r):r.length=4:=by cases h;rfl
theorem GE.frz {r:List VV} (h:GE r) {hh:VH} {d:Nat}:Bk (frz hh (d+1)) r=some (r,[]):=by cases h;rfl
theorem GE.take {r:List VV} (h:GE r):r.take 4=r:=by cases h;rfl
theorem GE.cell {r:List VV} (h:GE r):r.all VV.cell=true:=by cases h;rfl
theorem QZ {l:List (List VV)} {k:Nat} (h:k < l.length):l[k]? = some l[k]:=List.getElem?_eq_getElem h
def N4:List ByteArray:=[⟨⟨[97]⟩⟩,⟨⟨[98]⟩⟩,⟨⟨[99]⟩⟩,⟨⟨[100]⟩⟩]
def Gq (k:Int):Bool:=decide (k=1) || decide (k=2) || decide (k=4) || decide (k=5)
structure OKS (locs:List ByteArray) (kind mode:Int) (reg loc:ByteArray) (args:Nat):Prop where
 k:1<=kind/\kind<=7
 rn:Gq kind=true->reg∈N4
 one:kind=1\/kind=3\/kind=4\/kind=5\/kind=7->1<=args
 two:kind=5->2<=args
 loc:kind=2\/kind=3\/kind=4\/kind=5->loc∈locs
 ml:kind=2->mode=0\/mode=1\/mode=4
 ms:kind=3->mode=0\/mode=2\/mode=4
 ma:kind=4\/kind=5->0<=mode/\mode<=4
 mf:kind=6->1<=mode/\mode<=4
 rs:reg.size<=1000
abbrev rS (kind mode:Int) (reg loc:ByteArray) (args th el:List (List VV)):List VV:=[.i .i64 kind,.i .i64 mode,.s reg,.s loc,.ls args,.ls th,.ls el]
inductive GS (locs:List ByteArray):List VV->Prop
 | mk (kind mode:Int) (reg loc:ByteArray) (args th el:List (List VV)):args.length<=1000->(∀ a∈args,GE a)->th.length<=1000->el.length<=1000 ->
  (∀ s∈th,GS locs s)->(∀ s∈el,GS locs s)->OKS locs kind mode reg loc args.length->GS locs (rS kind mode reg loc args th el)
inductive RI (names:List ByteArray):List VV->Prop
 | mk (kind mode:Int) (reg loc:ByteArray) (args th el:List (List VV)):(Gq kind=true->reg∈names)->(∀ s∈th,RI names s)->(∀ s∈el,RI names s)->RI names (rS kind mode reg loc args th el)
theorem RI.mono {n m:List ByteArray} (h:∀ x∈n,x∈m) {r:List VV} (k:RI n r):RI m r:=by
 induction k with
 | mk kind mode reg loc args th el h1 h2 h3 ih1 ih2=>exact .mk _ _ _ _ _ _ _ (fun e=>h _ (h1 e)) ih1 ih2
theorem GS.len {l:List ByteArray} {r:List VV} (h:GS l r):r.length=7:=by cases h;rfl
theorem GS.frz {l:List ByteArray} {r:List VV} (h:GS l r) {hh:VH} {d:Nat}:Bk (frz hh (d+1)) r=some (r,[]):=by cases h;rfl
theorem GS.take {l:List ByteArray} {r:List VV} (h:GS l r):r.take 7=r:=by cases h;rfl
theorem GS.cell {l:List ByteArray} {r:List VV} (h:GS l r):r.all VV.cell=true:=by cases h;rfl
theorem A75 {c:List ByteArray} {l:List (List VV)} (h:∀ k∈l,GS c k):D9 7 l=true:=by
 unfold D9
 rw [List.all_eq_true]
 intro r hr
 rw [(h r hr).len];rfl
theorem DM {t t':A1} {l:List Az} (h:t'.nodes=t.nodes++l) {i:Nat} (hi:i < t.nodes.length):t'.at i=t.at i:=by
 grind [A1.at]
theorem A81 {t t':A1} {l:List Az} (h:t'.nodes=t.nodes++l) {i:Nat} (hi:t.nodes.length<=i) (h2:i < t'.nodes.length):t'.at i∈l:=by
 grind [A1.at]
structure Y3 (t t':A1) (l:List Az):Prop where
 n:t'.nodes=t.nodes++l
 v:t'.vals=t.vals
 l:t'.locs=t.locs
 r:t'.regs=t.regs
theorem Y3.len {t t':A1} {l:List Az} (h:Y3 t t' l):t.nodes.length<=t'.nodes.length:=by rw [h.n,List.length_append];omega
theorem A0B {t t':A1} {l:List Az} (h:Y3 t t' l) {u a:Nat} (hu:u < t.nodes.length) (hx:∀ x∈l,x.up≠(u:Int)):BN t' a u=BN t a u:=by
 unfold BN
 by_cases ha:a < t.nodes.length
 .have:=h.len
  have ha':a < t'.nodes.length:=by omega
  rw [DM h.n ha,DM h.n hu,decide_eq_true ha,decide_eq_true ha']
 .rw [decide_eq_false ha]
  by_cases ha':a < t'.nodes.length
  .have:=hx _ (A81 h.n (by omega) ha')
   rw [decide_eq_false this];simp
  .rw [decide_eq_false ha'];simp
theorem ZT {t t':A1} {l:List Az} (h:Y3 t t' l) {u:Nat} (hu:u < t.nodes.length) (hx:∀ x∈l,x.up≠(u:Int)):Dl t' u=Dl t u:=by
 unfold Dl
 by_cases ha:u+1 < t.nodes.length
 .have:=h.len
  have ha':u+1 < t'.nodes.length:=by omega
  rw [DM h.n ha,decide_eq_true ha,decide_eq_true ha']
 .rw [decide_eq_false ha]
  by_cases ha':u+1 < t'.nodes.length
  .have:=hx _ (A81 h.n (by omega) ha')
   rw [decide_eq_false this];simp
  .rw [decide_eq_false ha'];simp
theorem G0.lt {t:A1}:∀ {n u e:Nat},G0 t n u e->u < e:=by
 intro n
 induction n with
 | zero=>intro u e h;exact h.elim
 | succ n ih =>
  intro u e h
  rcases h.2 with ⟨_,_,rfl⟩ | ⟨_,_,_,_,b⟩ | ⟨_,_,_,vals,k,loc,mode,_,h0,hk0,hke,_,hs,_⟩
  .omega
  .have:=ih b;omega
  .have key:∀ j,j<=vals->u+1<=k j:=by
    intro j
    induction j with
    | zero=>intro _;omega
    | succ j ihj =>
     grind
   grind
theorem Lj {t:A1} {a u:Nat} (h:BN t a u=true):a < t.nodes.length:=by
 simp_all [BN]
theorem A6U {t:A1} {n:Nat} {k:Nat->Nat} {vals:Nat} (hs:∀ v,v < vals->G0 t n (k v) (k (v+1))):∀ i j,i<=j->j<=vals->k i<=k j:=by
 intro i j hij hj
 induction j with
 | zero=>grind
 | succ j ih =>
  by_cases e:i=j+1
  .subst e;exact Nat.le_refl _
  .have h1:=ih (by omega) (by omega)
   have h2:=(hs j (by omega)).lt
   omega
theorem G0.le {t:A1}:∀ {n u e:Nat},G0 t n u e->e<=t.nodes.length:=by
 intro n
 induction n with
 | zero=>intro u e h;exact h.elim
 | succ n ih =>
  intro u e h
  rcases h.2 with ⟨_,_,rfl⟩ | ⟨_,_,_,_,b⟩ | ⟨_,_,_,vals,k,loc,mode,_,h0,hk0,hke,_,hs,_⟩
  .exact h.1.1
  .exact ih b
  .have:=ih (hs (vals - 1) (by omega)).2.2
   grind
theorem G0.more {t t':A1} {l:List Az} (h:Y3 t t' l):∀ {n u e:Nat},G0 t n u e->(∀ x∈l,x.up < (u:Int)\/(e:Int)<=x.up)->G0 t' n u e:=by
 intro n
 induction n with
 | zero=>intro u e b;exact b.elim
 | succ n ih =>
  intro u e b hx
  have hlt:=b.lt
  have hle:=b.le
  have hl:=h.len
  obtain ⟨⟨i1,i2,i3⟩,b⟩:=b
  have hu:t'.at u=t.at u:=DM h.n i1
  have hc:∀ a,BN t' a u=BN t a u:=fun a=>A0B h i1 fun x hx' e'=>by rcases hx x hx' with h1 | h1<;>omega
  refine ⟨⟨by omega,by rw [hu];exact i2,by rw [hu,h.r];exact i3⟩,?_⟩
  rcases b with ⟨b1,b2,b3⟩ | ⟨b1,b2,b3,b4,b5⟩ | ⟨b1,b2,b3,vals,k,loc,mode,b4,b5,b6,b7,b8,b9,b10⟩
  .refine .inl ⟨(hc _).trans b1,?_,b3⟩
   unfold A3z EL at b2 ⊢
   rw [hu,h.r,h.v];exact b2
  .refine .inr (.inl ⟨(hc _).trans b1,by rw [hu];exact b2,by rw [hu];exact b3,?_,ih b5 fun x hx'=>?_⟩)
   .have:=Lj b1
    unfold CG Jr EL at b4 ⊢
    rw [hu,DM h.n this,h.l,h.v];exact b4
   grind
  .have hr:=A6U fun v hv=>(b9 v hv).2.2
   refine .inr (.inr ⟨(hc _).trans b1,by rw [hu];exact b2,by rw [hu];exact b3,vals,k,loc,mode,by rw [h.v];exact b4,b5,b6,b7,by unfold Jr at b8 ⊢;rw [h.l];exact b8,fun v hv=>?_,?_⟩)
   .obtain ⟨c1,c2,c3⟩:=b9 v hv
    have h1:=hr 0 v (by omega) (by omega)
    have h2:=hr (v+1) vals (by omega) (by omega)
    refine ⟨(hc _).trans c1,?_,ih c3 fun x hx'=>?_⟩
    .unfold DB at c2 ⊢
     rw [DM h.n (Lj c1)];exact c2
    grind
   .rcases b10 with b10 | ⟨c1,c2,v,c3,c4⟩
    .exact .inl b10
    .have h1:=hr 0 v (by omega) (by omega)
     have h2:=hr (v+1) vals (by omega) (by omega)
     have h3:=(b9 v c3).2.2.lt
     refine .inr ⟨c1,c2,v,c3,?_⟩
     grind [ZT]
theorem G0.fuel {t:A1}:∀ {n u e:Nat},G0 t n u e->G0 t (n+1) u e:=by
 intro n
 induction n with
 | zero=>intro u e h;exact h.elim
 | succ n ih =>
  intro u e h
  refine ⟨h.1,?_⟩
  rcases h.2 with b | ⟨b1,b2,b3,b4,b5⟩ | ⟨b1,b2,b3,vals,k,loc,mode,b4,b5,b6,b7,b8,b9,b10⟩
  .exact .inl b
  .grind
  .exact .inr (.inr ⟨b1,b2,b3,vals,k,loc,mode,b4,b5,b6,b7,b8,fun v hv=>⟨(b9 v hv).1,(b9 v hv).2.1,ih (b9 v hv).2.2⟩,b10⟩)
theorem G0.fuel' {t:A1} {n m u e:Nat} (h:G0 t n u e) (hm:n<=m):G0 t m u e:=by
 induction m with
 | zero=>grind
 | succ m ih =>
  grind [fuel]
abbrev TT (vals:Int) (locs:List ByteArray) (rg:List (List ByteArray)) (ns:List Az):A1:=⟨vals,locs,rg,ns⟩
def Y2 (vals:Int) (locs:List ByteArray) (rg:List (List ByteArray)) (ns:List Az) (n:Az) (ns':List Az):Prop :=
 ∃ (f:Bool) (g:List Int) (l:List Az),ns' = ns++{ n with fin:=f,regs:=g }::l/\(∀ x∈l,(ns.length:Int)<=x.up)/\∃ m,G0 (TT vals locs rg ns') m ns.length ns'.length
def Hy (nl:Nat) (vals:Int) (m n:Az):Bool :=
 (decide (n.kind=4) && decide (n.loc=0) && decide (n.val=0) && !n.rmw && decide (1<=n.mode) && decide (n.mode<=4)) ||
 (decide (n.kind=3) && (decide (0<=n.loc) && decide (n.loc < nl)) && (decide (0<=n.val) && decide (n.val < vals)) &&
  (if n.rmw then decide (0<=n.mode) && decide (n.mode<=4) && decide (m.kind=2) && decide (m.loc=n.loc) && decide (m.mode=n.mode) else decide (n.mode=0) || decide (n.mode=2) || decide (n.mode=4)))
theorem A0r (t:A1) (u:Nat):CG t u=Hy t.locs.length t.vals (t.at u) (t.at (u+1)):=rfl
theorem M3 {vals:Int} {locs:List ByteArray} {rg:List (List ByteArray)} {a:List Az} {x:Az} {b:List Az}:(TT vals locs rg (a++x::b)).at a.length=x:=by
 simp [A1.at]
theorem AbD {vals:Int} {locs:List ByteArray} {rg:List (List ByteArray)} {a:List Az} {x y:Az} {b:List Az}:(TT vals locs rg (a++x::y::b)).at (a.length+1)=y:=by
 simp [A1.at]
theorem A9h {vals:Int} {locs:List ByteArray} {rg:List (List ByteArray)} {ns:List Az} {n:Az} {th:Nat} (ht:n.thread=th) (hth:th < rg.length) {g:List Int} (hg:g.length=(rg.getD th []).length) (hv:∀ v∈g,0<=v/\v < vals) :
  Y2 vals locs rg ns n (ns++[{ n with fin:=true,regs:=g }]):=by
 refine ⟨true,g,[],rfl,by simp,1,?_⟩
 have ha:(TT vals locs rg (ns++[{ n with fin:=true,regs:=g }])).at ns.length = { n with fin:=true,regs:=g }:=M3
 have hl:(TT vals locs rg (ns++[{ n with fin:=true,regs:=g }])).nodes.length=ns.length+1:=by simp
 refine ⟨⟨by omega,by rw [ha];show 0<=n.thread;omega,by grind⟩,.inl ⟨?_,?_,by simp⟩⟩
 .unfold BN
  rw [hl];simp
 simp_all [A3z,EL]
theorem RV {n:Az} (h1:n.fin=false) (h2:n.regs=[]):({ n with fin:=false,regs:=[] }:Az)=n:=by
 cases n;simp at h1 h2;subst h1;subst h2;rfl
theorem KF {vals:Int} {locs:List ByteArray} {rg:List (List ByteArray)} {ns:List Az} {n x:Az} {th:Nat} (ht:n.thread=th) (hth:th < rg.length) (hf:n.fin=false) (hr:n.regs=[]) (hxu:x.up=ns.length) (hxt:x.thread=th)
  (ha:Hy locs.length vals n x=true) {ns':List Az} (h:Y2 vals locs rg (ns++[n]) x ns'):Y2 vals locs rg ns n ns':=by
 obtain ⟨f,g,l,rfl,h1,m,h2⟩:=h
 refine ⟨false,[],{ x with fin:=f,regs:=g }::l,?_,?_,m+1,?_⟩
 .rw [RV hf hr];simp
 .grind
 .have e:ns++[n]++{ x with fin:=f,regs:=g }::l=ns++n::{ x with fin:=f,regs:=g }::l:=by simp
  rw [e] at h2 ⊢
  have a0:(TT vals locs rg (ns++n::{ x with fin:=f,regs:=g }::l)).at ns.length=n:=M3
  have a1:(TT vals locs rg (ns++n::{ x with fin:=f,regs:=g }::l)).at (ns.length+1) = { x with fin:=f,regs:=g }:=AbD
  have hl:ns.length+1 < (TT vals locs rg (ns++n::{ x with fin:=f,regs:=g }::l)).nodes.length:=by simp
  refine ⟨⟨by omega,by rw [a0];omega,by grind⟩,.inr (.inl ⟨?_,by rw [a0];exact hf,by rw [a0];exact hr,?_,?_⟩)⟩
  .grind [BN]
  .rw [A0r,a0,a1];exact ha
  .simpa using h2
theorem N1 {vals:Int} {locs:List ByteArray} {rg:List (List ByteArray)} {ns:List Az} {x y:Az} {ns':List Az} (hu:y.up=ns.length) (hr:y.rmw=true) (h:Y2 vals locs rg (ns++[x]) y ns'):Dl (TT vals locs rg ns') ns.length=true:=by
 obtain ⟨f,g,l,rfl,_⟩:=h
 grind [M3,Dl]
def Y8 (vals:Int) (locs:List ByteArray) (rg:List (List ByteArray)) (ns:List Az) (n:Az) (v:Nat) (loc mode:Int) (rm:Nat->Bool) (nsv:List Az):Prop :=
 ∃ (l:List Az) (k:Nat->Nat),nsv=ns++n::l/\(∀ x∈l,(ns.length:Int)<=x.up)/\k 0=ns.length+1/\k v=nsv.length /\
  ∀ j,j < v->BN (TT vals locs rg nsv) (k j) ns.length=true/\DB (TT vals locs rg nsv) (k j) j loc mode=true/\(∃ m,G0 (TT vals locs rg nsv) m (k j) (k (j+1)))/\(rm j=true->Dl (TT vals locs rg nsv) (k j)=true)
theorem KV {vals:Int} {locs:List ByteArray} {rg:List (List ByteArray)} {ns:List Az} {n:Az} {loc mode:Int} {rm:Nat->Bool}:Y8 vals locs rg ns n 0 loc mode rm (ns++[n]) :=
 ⟨[],fun _=>ns.length+1,rfl,by simp,rfl,by simp,fun j hj=>by omega⟩
theorem A8l {t t':A1} {l:List Az} (h:Y3 t t' l) {u a:Nat} (hu:u < t.nodes.length) (ha:a < t.nodes.length):BN t' a u=BN t a u:=by
 unfold BN
 have:=h.len
 rw [DM h.n ha,DM h.n hu,decide_eq_true ha,decide_eq_true (show a < t'.nodes.length by omega)]
theorem Aec {t:A1} {k:Nat->Nat} {v:Nat} (h:∀ j,j < v->∃ m,G0 t m (k j) (k (j+1))):∀ i j,i<=j->j<=v->k i<=k j:=by
 intro i j hij hj
 induction j with
 | zero=>grind
 | succ j ih =>
  by_cases e:i=j+1
  .subst e;exact Nat.le_refl _
  .have h1:=ih (by omega) (by omega)
   obtain ⟨m,h2⟩:=h j (by omega)
   have:=h2.lt
   omega
theorem HQ {vals:Int} {locs:List ByteArray} {rg:List (List ByteArray)} {ns:List Az} {n x:Az} {v:Nat} {loc mode:Int} {rm:Nat->Bool} {nsv ns':List Az} (h:Y8 vals locs rg ns n v loc mode rm nsv)
  (hxu:x.up=ns.length) (hxt:x.thread=n.thread) (hk:x.kind=2) (hv:x.val=v) (hl:x.loc=loc) (hm:x.mode=mode) (hr:x.rmw=false) (hg:Y2 vals locs rg nsv x ns') (hrm:rm v=true->Dl (TT vals locs rg ns') nsv.length=true) :
  Y8 vals locs rg ns n (v+1) loc mode rm ns':=by
 obtain ⟨l,k,rfl,h1,h2,h3,h4⟩:=h
 obtain ⟨f,g,l',rfl,g1,m',g2⟩:=hg
 have mo:Y3 (TT vals locs rg (ns++n::l)) (TT vals locs rg ((ns++n::l)++{ x with fin:=f,regs:=g }::l')) ({ x with fin:=f,regs:=g }::l'):=⟨rfl,rfl,rfl,rfl⟩
 have hlen:(TT vals locs rg (ns++n::l)).nodes.length=(ns++n::l).length:=rfl
 have ru:=Aec (t:=TT vals locs rg (ns++n::l)) (k:=k) (v:=v) fun j hj=>(h4 j hj).2.2.1
 have hnl:ns.length < (ns++n::l).length:=by simp
 refine ⟨l++{ x with fin:=f,regs:=g }::l',fun j=>if j<=v then k j else ((ns++n::l)++{ x with fin:=f,regs:=g }::l').length,by simp,?_,by simp [h2],if_neg (by omega),?_⟩
 .grind
 .intro j hj
  dsimp only
  rw [if_pos (show j<=v by omega)]
  by_cases e:j=v
  .subst e
   rw [h3,if_neg (by omega)]
   grind [M3,BN,DB]
  .rw [if_pos (show j+1<=v by omega)]
   obtain ⟨c1,c2,⟨m,c3⟩,c4⟩:=h4 j (by omega)
   have c0:=Lj c1
   have r1:=ru (j+1) v (by omega) (Nat.le_refl _)
   have r0:=ru 0 j (by omega) (by omega)
   have r2:=c3.lt
   rw [h3] at r1
   rw [h2] at r0
   have hx:∀ y∈({ x with fin:=f,regs:=g }::l':List Az),y.up < (k j:Int)\/(k (j+1):Int)<=y.up:=by
    grind
   refine ⟨?_,?_,⟨m,c3.more mo hx⟩,fun h=>?_⟩
   .grind [A8l]
   .unfold DB at c2 ⊢
    rw [DM mo.n c0];exact c2
   grind [ZT]
theorem A9f {t:A1} {k:Nat->Nat}:∀ v,(∀ j,j < v->∃ m,G0 t m (k j) (k (j+1)))->∃ M,∀ j,j < v->G0 t M (k j) (k (j+1)):=by
 intro v
 induction v with
 | zero=>simp_all
 | succ v ih =>
  intro h
  obtain ⟨M,hM⟩:=ih fun j hj=>h j (by omega)
  obtain ⟨m,hm⟩:=h v (by omega)
  refine ⟨max M m,fun j hj=>?_⟩
  by_cases e:j=v
  .subst e;exact hm.fuel' (Nat.le_max_right _ _)
  .exact (hM j (by omega)).fuel' (Nat.le_max_left _ _)
theorem Md {vals:Nat} {locs:List ByteArray} {rg:List (List ByteArray)} {ns:List Az} {n:Az} {th:Nat} (ht:n.thread=th) (hth:th < rg.length) (hf:n.fin=false) (hr:n.regs=[]) {loc mode:Int} {rm:Nat->Bool} {nsv:List Az} (hv:0 < vals) (hl:0<=loc/\loc < locs.length)
  (hm:(mode=0\/mode=1\/mode=4)\/(0<=mode/\mode<=4/\∃ v,v < vals/\rm v=true)) (h:Y8 vals locs rg ns n vals loc mode rm nsv):Y2 vals locs rg ns n nsv:=by
 obtain ⟨l,k,rfl,h1,h2,h3,h4⟩:=h
 refine ⟨false,[],l,by rw [RV hf hr],h1,?_⟩
 obtain ⟨M,hM⟩:=A9f vals fun j hj=>(h4 j hj).2.2.1
 have a0:(TT vals locs rg (ns++n::l)).at ns.length=n:=M3
 have c0:=(h4 0 hv).1
 rw [h2] at c0
 refine ⟨M+1,⟨by have:=Lj c0;omega,by rw [a0];omega,by grind⟩,.inr (.inr ⟨c0,by rw [a0];exact hf,by rw [a0];exact hr,vals,k,loc,mode,rfl,hv,h2,h3,?_,fun v hv=>⟨(h4 v hv).1,(h4 v hv).2.1,hM v hv⟩,?_⟩)⟩
 .simp [Jr,hl.1,hl.2]
 grind
def Thr (vals:Int) (locs:List ByteArray) (rg:List (List ByteArray)) (i:Nat) (ns:List Az):Prop :=
 (locs.length<=ns.length/\∀ j,j < locs.length->Gh (TT vals locs rg ns) j=true)/\∃ s:Nat->Nat,s 0=locs.length/\s i=ns.length /\
  ∀ j,j < i->Dt (TT vals locs rg ns) (s j) j=true/\∃ m,G0 (TT vals locs rg ns) m (s j) (s (j+1))
theorem AaF {vals:Int} {locs:List ByteArray} {rg:List (List ByteArray)} {i:Nat} {ns ns':List Az} {x:Az} (h:Thr vals locs rg i ns) (hx:x = ⟨i,-1,1,0,0,0,false,false,[]⟩) (hg:Y2 vals locs rg ns x ns'):Thr vals locs rg (i+1) ns':=by
 subst hx
 obtain ⟨⟨h1,h2⟩,s,s0,si,hs⟩:=h
 obtain ⟨f,g,l,rfl,g1,m,g2⟩:=hg
 let x':Az:=⟨i,-1,1,0,0,0,false,f,g⟩
 have mo:Y3 (TT vals locs rg ns) (TT vals locs rg (ns++x'::l)) (x'::l):=⟨rfl,rfl,rfl,rfl⟩
 have hl:(TT vals locs rg ns).nodes.length=ns.length:=rfl
 have ru:=Aec (t:=TT vals locs rg ns) (k:=s) (v:=i) fun j hj=>(hs j hj).2
 refine ⟨⟨by simp;omega,fun j hj=>?_⟩,fun j=>if j<=i then s j else (ns++x'::l).length,by simp [s0],if_neg (by omega),fun j hj=>?_⟩
 .have:=h2 j hj
  unfold Gh EL at this ⊢
  rw [DM mo.n (by rw [hl];omega)]
  exact this
 .dsimp only
  rw [if_pos (show j<=i by omega)]
  by_cases e:j=i
  .subst e
   rw [si,if_neg (by omega)]
   grind [Dt,M3]
  .rw [if_pos (show j+1<=i by omega)]
   obtain ⟨b1,m2,b2⟩:=hs j (by omega)
   have r1:=ru (j+1) i (by omega) (Nat.le_refl _)
   have r2:=b2.lt
   rw [si] at r1
   refine ⟨?_,m2,b2.more mo fun y hy=>?_⟩
   .unfold Dt at b1 ⊢
    rw [DM mo.n (by rw [hl];omega)];exact b1
   grind
def R0 (ini:List (ByteArray×Int)) (k:Nat):List Az:=(List.range k).map fun (i:Nat)=>(⟨-1,-1,3,(i:Int),0,(ini.getD i default).2,false,false,[]⟩:Az)
theorem Ls (ini:List (ByteArray×Int)) (k:Nat):(R0 ini k).length=k:=by simp [R0]
theorem A6T (ini:List (ByteArray×Int)) (k:Nat):R0 ini (k+1)=R0 ini k++[⟨-1,-1,3,k,0,(ini.getD k default).2,false,false,[]⟩]:=by
 grind [R0,range_succ]
theorem AaG {vals:Int} {rg:List (List ByteArray)} {ini:List (ByteArray×Int)} (hv:∀ x∈ini,0<=x.2/\x.2 < vals):Thr vals (ini.map (·.1)) rg 0 (R0 ini ini.length):=by
 refine ⟨⟨by simp [Ls],fun j hj=>?_⟩,fun _=>ini.length,by simp,by simp [Ls],fun j hj=>by omega⟩
 grind [R0,A1.at,Af,Gh,EL]
theorem A7t {vals:Int} {locs:List ByteArray} {rg:List (List ByteArray)} {ns:List Az} (h:Thr vals locs rg rg.length ns) (v2:2<=vals) (v4:vals<=4) (l4:locs.length<=4) (ln:locs.Nodup) (n64:ns.length<=64) (r1:1<=rg.length) (r4:rg.length<=4) (rl:∀ l∈rg,l.length<=4/\l.Nodup):A5 (TT vals locs rg ns) where
 v2:=v2
 v4:=v4
 l4:=l4
 ln:=ln
 n64:=n64
 r1:=r1
 r4:=r4
 rl:=rl
 first:=h.1
 thr:=h.2
structure Y4 (t:A1) (m:Nat):Prop where
 thr:0<=(t.at m).thread
 up0 : -1<=(t.at m).up
 up:(t.at m).up < m
 loc:(t.at m).kind=2\/(t.at m).kind=3->Jr t (t.at m).loc=true
 rmw:(t.at m).rmw=true->0<=(t.at m).up/\(t.at (t.at m).up.toNat).kind=2
 par:0<=(t.at m).up->(t.at (t.at m).up.toNat).thread=(t.at m).thread
theorem Hh {t:A1} {a u:Nat} (h:BN t a u=true):(t.at a).up=u/\(t.at a).thread=(t.at u).thread:=by
 simp_all [BN]
theorem A6o {t:A1} {u:Nat} (h:CG t u=true):(t.at (u+1)).kind=2\/(t.at (u+1)).kind=3->Jr t (t.at (u+1)).loc=true:=by
 simp only [CG,or_eq_true,and_eq_true,decide_eq_true_eq] at h
 grind
theorem A6p {t:A1} {u:Nat} (h:CG t u=true) (hr:(t.at (u+1)).rmw=true):(t.at u).kind=2:=by
 simp_all [CG]
theorem Cw {k:Nat->Nat} {m:Nat}:∀ n:Nat,k 0<=m->m < k n->∃ v,v < n/\k v<=m/\m < k (v+1):=by
 intro n
 induction n with
 | zero=>intro h1 h2;omega
 | succ n ih =>
  grind
theorem G0.good {t:A1}:∀ {n u e:Nat},G0 t n u e->∀ m,u < m->m < e->Y4 t m:=by
 intro n
 induction n with
 | zero=>grind [G0]
 | succ n ih =>
  intro u e h m h1 h2
  obtain ⟨⟨_,ht,_⟩,h⟩:=h
  rcases h with ⟨_,_,rfl⟩ | ⟨c,_,_,al,hb⟩ | ⟨c,_,_,vals,k,loc,mode,_,_,hk0,hke,hloc,hs,_⟩
  .omega
  .by_cases e1:m=u+1
   .subst e1
    obtain ⟨p,q⟩:=Hh c
    exact ⟨by omega,by omega,by omega,A6o al,fun hr=>⟨by omega,by grind [A6p]⟩,fun _=>by rw [p,toNat_natCast];exact q.symm⟩
   .exact ih hb m (by omega) h2
  .obtain ⟨v,hv,a,b⟩:=Cw (k:=k) (m:=m) vals (by omega) (by omega)
   obtain ⟨s1,s2,s3⟩:=hs v hv
   by_cases e1:m=k v
   .subst e1
    obtain ⟨p,q⟩:=Hh s1
    simp only [DB,and_eq_true,decide_eq_true_eq] at s2
    exact ⟨by omega,by omega,by omega,fun _=>by rw [s2.1.1.2];exact hloc,fun hr=>by rw [hr] at s2;simp at s2,fun _=>by rw [p,toNat_natCast];exact q.symm⟩
   .exact ih s3 m (by omega) b
theorem A5.good {t:A1} (h:A5 t) (m:Nat) (h1:t.locs.length<=m) (h2:m < t.nodes.length):Y4 t m:=by
 obtain ⟨s,h0,he,hs⟩:=h.thr
 obtain ⟨v,hv,a,b⟩:=Cw (k:=s) (m:=m) t.regs.length (by omega) (by omega)
 obtain ⟨hb,n,hn⟩:=hs v hv
 by_cases e1:m=s v
 .subst e1
  simp only [Dt,and_eq_true,decide_eq_true_eq] at hb
  have k1:=hb.1.1.1.1.2
  have k3:=hb.1.1.1.1.1.2
  have k4:=hb.2
  exact ⟨by omega,by omega,by omega,fun k=>by omega,fun hr=>by simp_all,fun h0=>by omega⟩
 .exact hn.good m (by omega) b
structure A7O (t:A1) (i:Nat):Prop where
 thr:(t.at i).thread = -1
 up:(t.at i).up = -1
 kind:(t.at i).kind=3
 loc:(t.at i).loc=i
theorem A5.init {t:A1} (h:A5 t) (i:Nat) (hi:i < t.locs.length):A7O t i:=by
 have:=h.first.2 i hi
 simp only [Gh,and_eq_true,decide_eq_true_eq] at this
 obtain ⟨⟨⟨⟨⟨⟨⟨⟨a,b⟩,c⟩,d⟩,_⟩,_⟩,_⟩,_⟩,_⟩:=this
 exact ⟨a,b,c,d⟩
theorem A5.up {t:A1} (h:A5 t):Jd t:=by
 intro i hi
 by_cases c:i < t.locs.length
 .rw [(h.init i c).up];omega
 .exact (h.good i (by omega) hi).up
theorem A5.wloc {t:A1} (h:A5 t) {m:Nat} (hm:m < t.nodes.length) (hk:(t.at m).kind=2\/(t.at m).kind=3):0<=(t.at m).loc/\(t.at m).loc < t.locs.length:=by
 by_cases c:m < t.locs.length
 .rw [(h.init m c).loc];omega
 .have:=(h.good m (by omega) hm).loc hk
  simp_all [Jr]
theorem A5.thr_iff {t:A1} (h:A5 t) {m:Nat} (hm:m < t.nodes.length):(t.at m).thread < 0↔m < t.locs.length:=by
 by_cases c:m < t.locs.length
 .rw [(h.init m c).thr];omega
 .have:=(h.good m (by omega) hm).thr
  omega
def SN (t:A1):Nat->Nat->Int
 | 0,_=>0
 | n+1,i=>if (t.at i).up < 0 then 0 else SN t n (t.at i).up.toNat+1
def Xq (t:A1):Nat->Nat->BitVec 64
 | 0,_=>0#64
 | n+1,i=>if (t.at i).up < 0 then 0#64 else Xq t n (t.at i).up.toNat ||| Cl (t.at i).up
def Nn (t:A1) (i:Nat):Int:=SN t (i+1) i
def ovr (t:A1) (i:Nat):BitVec 64:=Xq t (i+1) i
theorem A6B {t:A1} (h:Jd t):∀ (n i:Nat),i < n->i < t.nodes.length->SN t (n+1) i=SN t n i:=by
 intro n
 induction n with
 | zero=>intro i hi;omega
 | succ n ih =>
  intro i hi hl
  rw [SN]
  conv=>rhs;rw [SN]
  by_cases c:(t.at i).up < 0
  .rw [if_pos c,if_pos c]
  .rw [if_neg c,if_neg c]
   have:=h i hl
   rw [ih _ (by omega) (by omega)]
theorem A77 {t:A1} (h:Jd t):∀ (n i:Nat),i < n->i < t.nodes.length->Xq t (n+1) i=Xq t n i:=by
 intro n
 induction n with
 | zero=>intro i hi;omega
 | succ n ih =>
  intro i hi hl
  rw [Xq]
  conv=>rhs;rw [Xq]
  by_cases c:(t.at i).up < 0
  .rw [if_pos c,if_pos c]
  .rw [if_neg c,if_neg c]
   have:=h i hl
   rw [ih _ (by omega) (by omega)]
theorem AbL {t:A1} (h:Jd t) {i:Nat} (hl:i < t.nodes.length):∀ k,SN t (i+1+k) i=Nn t i:=by
 intro k
 induction k with
 | zero=>rfl
 | succ k ih=>grind [A6B]
theorem Adj {t:A1} (h:Jd t) {i:Nat} (hl:i < t.nodes.length):∀ k,Xq t (i+1+k) i=ovr t i:=by
 intro k
 induction k with
 | zero=>rfl
 | succ k ih=>grind [A77]
theorem A0E {t:A1} (h:Jd t) {i u:Nat} (hl:i < t.nodes.length) (hu:(t.at i).up=u):Nn t i=Nn t u+1:=by
 have:=h i hl
 rw [Nn,SN,if_neg (by omega),hu,toNat_natCast,<- AbL h (by omega) (i - (u+1))]
 grind
theorem Aa7 {t:A1} (h:Jd t) {i u:Nat} (hl:i < t.nodes.length) (hu:(t.at i).up=u):ovr t i=ovr t u ||| Cl u:=by
 have:=h i hl
 rw [ovr,Xq,if_neg (by omega),hu,toNat_natCast,<- Adj h (by omega) (i - (u+1))]
 grind
theorem A8o {t:A1} {i:Nat} (hu:(t.at i).up < 0):Nn t i=0:=by rw [Nn,SN,if_pos hu]
theorem Aa6 {t:A1} {i:Nat} (hu:(t.at i).up < 0):ovr t i=0#64:=by rw [ovr,Xq,if_pos hu]
theorem Em {t:A1} (h:Jd t) (a:Int) {x:Int} (hx:x < t.nodes.length):Kf t a t.nodes.length x=if x < 0 then false else if x=a then true else Kf t a t.nodes.length (t.at x.toNat).up:=by
 rw [<- Ry h a t.nodes.length x hx hx,Kf]
theorem Ac4 (s r:BitVec 64) (x:Int):BG (s ||| r) x=(BG s x || BG r x):=by
 grind [BG]
theorem A9i (i:Nat) (x:Nat) (hx:x < 64):BG (Cl i) (x:Int)=decide (x=i):=by
 grind [Au,C3]
theorem Yh {t:A1} (h:Jd t) {a:Nat} (ha:a < 64):∀ (n b:Nat),b < n->b < t.nodes.length->BG (ovr t b) a=AB t a b/\(AB t a b=true->Nn t a < Nn t b):=by
 intro n
 induction n with
 | zero=>intro b hb;omega
 | succ n ih =>
  intro b hb hl
  have hup:=h b hl
  unfold AB
  by_cases c:(t.at b).up < 0
  .rw [Aa6 c,Em h a (by omega),if_pos c]
   grind [BG]
  .obtain ⟨u,hu⟩:=eq_ofNat_of_zero_le (show 0<=(t.at b).up by omega)
   have hub:u < b:=by omega
   obtain ⟨i1,i2⟩:=ih u (by omega) (by omega)
   unfold AB at i1 i2
   rw [Aa7 h hl hu,A0E h hl hu,hu,Em h a (by omega),if_neg (by omega),Ac4,A9i _ _ ha,i1,toNat_natCast]
   grind
theorem AeT {t:A1} (h:Jd t):∀ (n i:Nat),i < n->i < t.nodes.length->0<=Nn t i/\Nn t i<=i:=by
 intro n
 induction n with
 | zero=>intro i hi;omega
 | succ n ih =>
  intro i hi hl
  have hup:=h i hl
  by_cases c:(t.at i).up < 0
  .rw [A8o c];omega
  grind [eq_ofNat_of_zero_le,A0E]
def AeS (t:A1):List Int:=(List.range t.nodes.length).map (Nn t)
def Agn (t:A1):List (BitVec 64):=(List.range t.nodes.length).map (ovr t)
theorem Lk {t:A1} {i:Nat} (h:i < t.nodes.length):(AeS t)[i]? = some (Nn t i):=by simp [AeS,h]
theorem Aa5 {t:A1} {i:Nat} (h:i < t.nodes.length):(Agn t)[i]? = some (ovr t i):=by simp [Agn,h]
theorem SM {t:A1} (h:Jd t) (hn:t.nodes.length<=64) {a b:Nat} (ha:a < t.nodes.length) (hb:b < t.nodes.length):(decide (Nn t a < Nn t b) && BG (ovr t b) a)=AB t a b:=by
 grind [Yh]
theorem A5X {α:Type} {n k j:Nat} {f:Nat->α} {z:α} (h:j < k) (hn:j < n):(CS n k f z)[j]? = some (f j):=by
 simp [CS,hn,h]
theorem Sg {α:Type} {n k:Nat} {f:Nat->α} {z:α} (h:f k=z):CS n k f z=CS n (k+1) f z:=by
 unfold CS
 grind
theorem A9b (j:Nat) (hj:j < 64):∀ (l:List Int) (s:BitVec 64),(l.foldl (fun s i=>s ||| Cl i) s).getLsbD j=(s.getLsbD j || AZ l (j:Int)):=by
 intro l
 induction l with
 | nil=>intro s;simp [AZ]
 | cons x l ih =>
  intro s
  rw [List.foldl_cons,ih,getLsbD_or,C3]
  have e:AZ (x::l) (j:Int)=(decide ((j:Int)=x) || AZ l (j:Int)):=rfl
  grind
theorem EW (l:List Int) {x:Int} (h0:0<=x) (h1:x < 64):BG (BA l) x=AZ l x:=by
 obtain ⟨j,rfl⟩:=eq_ofNat_of_zero_le h0
 grind [Au,BA,A9b]
theorem DF {s:BitVec 64} {x:Int} (h:BG s x=true):0<=x/\x < 64:=by
 simp only [BG,and_eq_true,decide_eq_true_eq] at h
 grind
def BX (t:A1) (l:List Int):Prop:=∀ n∈l,BF t n=true
theorem BX.has {t:A1} (ht:t.nodes.length<=64) {l:List Int} (h:BX t l) (x:Int):BG (BA l) x=AZ l x:=by
 by_cases c:0<=x/\x < 64
 .exact EW l c.1 c.2
 .have e1:BG (BA l) x=false:=by
   rw [<- Bool.not_eq_true]
   exact fun h=>c (DF h)
  have e2:AZ l x=false:=by
   rw [<- Bool.not_eq_true]
   intro h'
   obtain ⟨m,rfl,hm⟩:=Aa (h x (A7.1 h'))
   exact c ⟨by omega,by omega⟩
  rw [e1,e2]
def Bd (t:A1) (has:List Int) (n loc:Int):Bool:=AZ has n && EV t n loc
def DN (t:A1) (l has:List Int) (loc:Int) (i:Nat):Bool :=
 Bd t has (l.getD i 0) loc && decide (0<=(t.at (l.getD i 0).toNat).thread) && CB l i && (!decide (1 < l.length) || CI (t.at (l.getD i 0).toNat)) && (decide (i=0) || (l.take i).all fun m=>AN t (l.getD i 0) m)
def Ec (t:A1) (l has:List Int) (loc:Int):Bool:=(List.range l.length).all (DN t l has loc) && decide (0 < l.length)
theorem JI {l:List Int} {p:Int->Bool}:∀ i,i<=l.length->(l.take i).all p=(List.range i).all fun k=>p (l.getD k 0):=by
 intro i
 induction i with
 | zero=>intro _;rfl
 | succ i ih =>
  grind [List.take_succ_eq_append_getElem,range_succ]
theorem A6w (t:A1) (l has:List Int) (loc:Int):Ec t l has loc=BR t l has loc:=by
 rw [Bool.eq_iff_iff]
 simp only [Ec,BR,and_eq_true,not_eq_true',decide_eq_true_eq,decide_eq_false_iff_not,Ag]
 constructor
 .rintro ⟨h1,h2⟩
  refine ⟨by omega,fun i hi=>?_⟩
  have:=h1 i hi
  simp only [DN,Bd,and_eq_true,or_eq_true,decide_eq_true_eq] at this
  obtain ⟨⟨⟨⟨⟨a,b⟩,c⟩,d⟩,e⟩,f⟩:=this
  simp only [B3,and_eq_true,decide_eq_true_eq]
  refine ⟨⟨⟨⟨a,d⟩,b⟩,c⟩,?_⟩
  rw [<- JI (p:=fun m=>AN t (l.getD i 0) m) i (by omega)]
  grind
 .rintro ⟨h1,h2⟩
  refine ⟨fun i hi=>?_,by omega⟩
  have hp:1 < l.length->CI (t.at (l.getD i 0).toNat)=true:=by
   intro hl
   by_cases i0:i=0
   .subst i0
    have:=h2 1 hl
    simp_all [B3,AN]
   .have:=h2 i hi
    simp only [B3,and_eq_true,Ag] at this
    have:=this.2 0 (by omega)
    simp_all [AN]
  have:=h2 i hi
  simp only [B3,and_eq_true,decide_eq_true_eq] at this
  obtain ⟨⟨⟨⟨a,d⟩,b⟩,c⟩,f⟩:=this
  simp only [DN,Bd,and_eq_true,or_eq_true,decide_eq_true_eq,not_eq_true',decide_eq_false_iff_not]
  grind [JI]
def Ke (m:List (List Int)) (loc:Nat):List Int:=(loc:Int)::(m.drop 1).flatten
def EO (t:A1) (s:A8) (loc:Nat):Nat:=(s.has.filter fun n=>Bd t s.has n loc).length
def Kp (t:A1) (s:A8) (loc:Nat):Bool :=
 let m:=s.mo.getD loc []
 !decide (m.length=0) && decide (m.getD 0 []=[(loc:Int)]) && (m.drop 1).all (fun c=>Ec t c s.has loc) && decide ((Ke m loc).length=EO t s loc) && decide ((Bw (BA (Ke m loc))).length=EO t s loc)
def DT (t:A1) (s:A8):Bool:=decide (s.mo.length=t.locs.length) && (List.range s.mo.length).all (Kp t s)
def Kl (t:A1) (s:A8):Bool:=decide (s.jf.length=s.has.length) && (List.range s.has.length).all (Gi t s)
theorem GQ:∀ (l m:List Int),l.Nodup->(∀ x∈l,x∈m)->l.length<=m.length:=by
 intro l
 induction l with
 | nil=>intro m _ _;simp
 | cons x l ih =>
  intro m hn hs
  have hx:=hs x List.mem_cons_self
  have h1:x∉l:=(List.nodup_cons.1 hn).1
  have:=ih (m.erase x) (List.nodup_cons.1 hn).2 fun y hy=>by
   grind
  grind
theorem Xm {l m:List Int} (hn:l.Nodup) (hs:∀ x∈l,x∈m) (hl:m.length<=l.length):∀ x∈m,x∈l:=by
 intro x hx
 refine Classical.byContradiction fun hc=>?_
 have:=GQ l (m.erase x) hn fun y hy=>(List.mem_erase_of_ne fun (e:y=x)=>hc (e ▸ hy)).2 (hs y hy)
 grind
theorem Ae6:∀ (l S:List Int),S.Nodup->(∀ x∈S,x∈l)->l.length<=S.length->l.Nodup:=by
 intro l
 induction l with
 | nil=>intro S _ _ _;exact List.nodup_nil
 | cons x l ih =>
  intro S hn hs hl
  by_cases hx:x∈l
  .have:=GQ S l hn fun y hy=>by
    grind
   grind
  .refine List.nodup_cons.2 ⟨hx,ih (S.erase x) (hn.erase x) (fun y hy=>?_) ?_⟩
   .grind
   grind
theorem A6x (n:Int):∀ (m:List (List Int)),(∀ c∈m,c.Nodup)->(m.filter fun c=>AZ c n).length=m.flatten.count n:=by
 intro m
 induction m with
 | nil=>intro _;rfl
 | cons c m ih =>
  intro h
  have h1:=h c List.mem_cons_self
  have h2:=ih fun d hd=>h d (List.mem_cons_of_mem _ hd)
  rw [List.flatten_cons,List.count_append,<- h2,List.filter_cons]
  cases e:AZ c n with
  | true =>
   have hm:n∈c:=A7.1 e
   grind
  | false =>
   grind [A7]
theorem Agt {l:List Int} (h:∀ i,i < l.length->CB l i=true):∀ j,j < l.length->∀ i,i < j->l.getD i 0 < l.getD j 0:=by
 intro j
 induction j with
 | zero=>intro _ i hi;omega
 | succ j ih =>
  intro hj i hi
  have h1:=h (j+1) hj
  simp only [CB,or_eq_true,decide_eq_true_eq,Nat.add_sub_cancel] at h1
  grind
theorem K8 {l:List Int} (h:∀ i,i < l.length->CB l i=true):l.Nodup:=by
 rw [List.nodup_iff_pairwise_ne,List.pairwise_iff_getElem]
 intro i j hi hj hij e
 have:=Agt h j hj i hij
 grind
theorem Z0 (w:BitVec 64):(Bw w).Nodup:=List.Nodup.sublist List.filter_sublist List.nodup_range
theorem ZU {t:A1} (h64:t.nodes.length<=64) {l:List Int} (h:BX t l) (x:Int):x∈(Bw (BA l)).map (fun (j:Nat)=>(j:Int))↔x∈l:=by
 constructor
 .intro hx
  obtain ⟨j,hj,rfl⟩:=List.mem_map.1 hx
  obtain ⟨j1,j2⟩:=YZ hj
  have:=h.has h64 (j:Int)
  grind [Au,A7]
 .intro hx
  obtain ⟨m,rfl,hm⟩:=Aa (h x hx)
  refine List.mem_map.2 ⟨m,K1.2 ?_,rfl⟩
  have:=h.has h64 (m:Int)
  grind [Au,A7]
theorem Qw (w:BitVec 64):((Bw w).map fun (j:Nat)=>(j:Int)).Nodup:=by
 grind [Z0]
theorem ZC {t:A1} (h64:t.nodes.length<=64) {all W:List Int} (ha:BX t all) (hw:W.Nodup) (hs:∀ x∈all,x∈W) :
  (all.length=W.length/\(Bw (BA all)).length=W.length)↔∀ n∈W,all.count n=1:=by
 have hS:=Qw (BA all)
 have hm:=fun x=>ZU h64 ha x
 have hl:((Bw (BA all)).map fun (j:Nat)=>(j:Int)).length=(Bw (BA all)).length:=List.length_map ..
 generalize ((Bw (BA all)).map fun (j:Nat)=>(j:Int))=S at *
 rw [<- hl]
 constructor
 .grind [Ae6,Xm]
 .intro h
  have nd:all.Nodup:=by
   grind
  have hmem:∀ x∈W,x∈all:=fun x hx=>List.count_pos_iff.1 (by rw [h x hx];decide)
  have a1:=GQ all W nd hs
  have a2:=GQ W all hw hmem
  have a3:=GQ all S nd fun x hx=>(hm x).2 hx
  have a4:=GQ S all hS fun x hx=>(hm x).1 hx
  omega
theorem Lx {t:A1} {l:List Int} (h:C0 t l=true):BX t l/\l.Nodup/\(DP t ||| BA l=BA l):=by
 simp only [C0,and_eq_true,decide_eq_true_eq] at h
 have hr:=Ag.1 h.1
 refine ⟨fun n hn=>?_,K8 fun i hi=>?_,h.2⟩
 .obtain ⟨k,hk,rfl⟩:=List.mem_iff_getElem.1 hn
  simp_all [BY]
 simp_all [BY]
theorem Ac7 {t:A1} (ht:A5 t) {l:List Int} (h:C0 t l=true) {k:Nat} (hk:k < t.locs.length):(k:Int)∈l:=by
 obtain ⟨hn,_,hi⟩:=Lx h
 have hkn:k < t.nodes.length:=Nat.lt_of_lt_of_le hk ht.first.1
 have h64:=ht.n64
 have e:(DP t).getLsbD k=true:=by
  unfold DP
  rw [Aw,decide_eq_true hkn,(ht.init k hk).up,decide_eq_true (show k < 64 by omega)];rfl
 have e2:(BA l).getLsbD k=true:=by rw [<- hi,getLsbD_or,e];rfl
 have:=hn.has h64 (k:Int)
 grind [Au,A7]
theorem SG {t:A1} {l has:List Int} {loc:Int} (h:BR t l has loc=true):l.Nodup/\∀ n∈l,Bd t has n loc=true:=by
 simp only [BR,and_eq_true] at h
 have hr:=Ag.1 h.2
 refine ⟨K8 fun i hi=>?_,fun n hn=>?_⟩
 .simp_all [B3]
 .obtain ⟨k,hk,rfl⟩:=List.mem_iff_getElem.1 hn
  simp_all [B3,Bd]
theorem Zf {t:A1} {s:A8} {k:Nat}:CX t s k=true↔∃ D,s.mo.getD k []=[(k:Int)]::D/\∀ c∈D,BR t c s.has k=true:=by
 simp only [CX,and_eq_true,not_eq_true',decide_eq_false_iff_not,decide_eq_true_eq,Ag,or_eq_true]
 generalize s.mo.getD k []=m
 constructor
 .rintro ⟨⟨h1,h2⟩,h3⟩
  rcases m with _ | ⟨c,D⟩
  .simp at h1
  .refine ⟨D,by rw [show c=[(k:Int)] from h2],fun d hd=>?_⟩
   obtain ⟨j,hj,rfl⟩:=List.mem_iff_getElem.1 hd
   have:=h3 (j+1) (by simp;omega)
   grind
 grind
theorem Qf {t:A1} {s:A8} {k:Nat}:Kp t s k=true↔∃ D,s.mo.getD k []=[(k:Int)]::D/\(∀ c∈D,BR t c s.has k=true)/\((s.mo.getD k []).flatten.length=EO t s k/\(Bw (BA (s.mo.getD k []).flatten)).length=EO t s k):=by
 simp only [Kp,and_eq_true,not_eq_true',decide_eq_false_iff_not,decide_eq_true_eq,List.all_eq_true,A6w]
 generalize s.mo.getD k []=m
 constructor
 .rintro ⟨⟨⟨⟨h1,h2⟩,h3⟩,h4⟩,h5⟩
  rcases m with _ | ⟨c,D⟩
  .simp at h1
  .have e:c=[(k:Int)]:=h2
   subst e
   exact ⟨D,rfl,h3,h4,h5⟩
 .rintro ⟨D,rfl,h3,h4,h5⟩
  exact ⟨⟨⟨⟨by simp,rfl⟩,h3⟩,h4⟩,h5⟩
theorem A5I {t:A1} (ht:A5 t) {s:A8} (hn:C0 t s.has=true) {i:Nat} (hi:i < s.has.length):Jz t s i=true↔((t.at (s.has.getD i 0).toNat).kind=3->((s.mo.getD (t.at (s.has.getD i 0).toNat).loc.toNat []).filter fun c=>AZ c (s.has.getD i 0)).length=1):=by
 simp only [Jz,or_eq_true,not_eq_true',decide_eq_false_iff_not,decide_eq_true_eq]
 omega
theorem Ag5 (t:A1) (ht:A5 t) (s:A8):(C0 t s.has && Kl t s && DT t s)=BJ t s:=by
 cases hn:C0 t s.has with
 | false=>simp [BJ,hn]
 | true =>
 obtain ⟨hN,hnd,_⟩:=Lx hn
 have h64:=ht.n64
 by_cases hm:¬ s.mo.length=t.locs.length
 .simp [BJ,DT,hm]
 have hm:=Decidable.not_not.1 hm
 rw [Bool.eq_iff_iff]
 simp only [BJ,DT,Kl,hn,decide_eq_true hm,Bool.true_and,Bool.and_true,and_eq_true,decide_eq_true_eq]
 have key:(∀ k,k < s.mo.length->Kp t s k=true)↔((∀ k,k < s.mo.length->CX t s k=true)/\∀ i,i < s.has.length->Jz t s i=true):=by
  have W:∀ k,k < s.mo.length->∀ D,s.mo.getD k []=[(k:Int)]::D->(∀ c∈D,BR t c s.has k=true) ->
    (((s.mo.getD k []).flatten.length=EO t s k/\(Bw (BA (s.mo.getD k []).flatten)).length=EO t s k)↔∀ n∈s.has,Bd t s.has n k=true->((s.mo.getD k []).filter fun c=>AZ c n).length=1):=by
   intro k hk D hD hc
   have hk':k < t.locs.length:=by omega
   have hin:=Ac7 ht hn hk'
   have hwk:Bd t s.has k k=true:=by
    simp only [Bd,EV,and_eq_true,decide_eq_true_eq,toNat_natCast]
    exact ⟨A7.2 hin,(ht.init k hk').kind,(ht.init k hk').loc⟩
   have hcw:∀ c∈s.mo.getD k [],c.Nodup/\∀ n∈c,Bd t s.has n k=true:=by
    intro c hcm
    rw [hD] at hcm
    rcases List.mem_cons.1 hcm with rfl | h
    .grind
    .exact SG (hc c h)
   have hsub:∀ x∈(s.mo.getD k []).flatten,x∈s.has.filter fun n=>Bd t s.has n k:=by
    intro x hx
    obtain ⟨c,hc1,hc2⟩:=List.mem_flatten.1 hx
    have:=(hcw c hc1).2 x hc2
    simp_all [Bd,A7]
   have hNa:BX t (s.mo.getD k []).flatten:=fun x hx=>hN x (List.mem_filter.1 (hsub x hx)).1
   have:=ZC h64 (W:=s.has.filter fun n=>Bd t s.has n k) hNa (List.Nodup.sublist List.filter_sublist hnd) hsub
   rw [show EO t s k=(s.has.filter fun n=>Bd t s.has n k).length from rfl,this]
   simp_all [A6x]
  constructor
  .intro h
   refine ⟨fun k hk=>?_,fun i hi=>?_⟩
   .grind [Qf,Zf]
   .rw [A5I ht hn hi]
    intro k3
    have hmem:s.has.getD i 0∈s.has:=Af hi
    obtain ⟨m,hm1,hm2⟩:=Aa (hN _ hmem)
    rw [hm1,toNat_natCast] at k3 ⊢
    obtain ⟨l1,l2⟩:=ht.wloc hm2 (.inr k3)
    obtain ⟨lc,hlc⟩:=eq_ofNat_of_zero_le l1
    rw [hlc,toNat_natCast]
    have hk:lc < s.mo.length:=by omega
    obtain ⟨D,hD,hc,hl⟩:=Qf.1 (h lc hk)
    refine (W lc hk D hD hc).1 hl m (hm1 ▸ hmem) ?_
    simp only [Bd,EV,and_eq_true,decide_eq_true_eq,toNat_natCast]
    grind [A7]
  .rintro ⟨h1,h2⟩ k hk
   obtain ⟨D,hD,hc⟩:=Zf.1 (h1 k hk)
   refine Qf.2 ⟨D,hD,hc,(W k hk D hD hc).2 fun n hn1 hn2=>?_⟩
   obtain ⟨i,hi,rfl⟩:=List.mem_iff_getElem.1 hn1
   have e:s.has.getD i 0=s.has[i]:=by grind
   have:=(A5I ht hn hi).1 (h2 i hi)
   simp_all [Bd,EV]
 grind
def Ax (n:Nat) (p:Nat->Nat->Bool):Rows:=(List.range n).map fun a=>BO fun b=>decide (b < n) && p a b
theorem AJ {n:Nat} {p:Nat->Nat->Bool}:(Ax n p).length=n:=by simp [Ax]
theorem Ce {n:Nat} {p:Nat->Nat->Bool} {a:Nat} (h:a < n):(Ax n p)[a]? = some (BO fun b=>decide (b < n) && p a b):=by simp [Ax,h]
theorem LL {n:Nat} {p:Nat->Nat->Bool} {a b:Nat} (hn:n<=64) (h:a < n) (hb:b < n):BG ((Ax n p).getD a 0#64) (b:Int)=p a b:=by
 grind [Ce,Au,Aw]
def Lp (t:A1) (x f:List Int) (i:Nat):Bool :=
 if (t.at (x.getD i 0).toNat).kind=2 then AZ x (f.getD i 0) && EV t (f.getD i 0) (t.at (x.getD i 0).toNat).loc else decide (f.getD i 0 = -1)
def Cm (t:A1) (x:List Int) (i:Nat):Bool:=BF t (x.getD i 0) && CB x i
def Eo (t:A1) (x f:List Int):Bool:=decide (x.length=f.length) && (List.range x.length).all (Cm t x) && (List.range x.length).all (Lp t x f)
def Cc (x f:List Int) (n:Int):Int:=if AZ x n then f.getD (BI x n).toNat 0 else -1
structure CD (t:A1) (x f:List Int):Prop where
 len:x.length=f.length
 node:BX t x
 nd:x.Nodup
 at_:∀ i,i < x.length->Cc x f (x.getD i 0)=f.getD i 0
 read:∀ n,n∈x->(t.at n.toNat).kind=2->Cc x f n∈x/\(t.at (Cc x f n).toNat).kind=3/\(t.at (Cc x f n).toNat).loc=(t.at n.toNat).loc
 none:∀ n,n∈x->(t.at n.toNat).kind≠2->Cc x f n = -1
theorem Dv {x:List Int} (h:x.Nodup) {i:Nat} (hi:i < x.length):BI x (x.getD i 0)=i:=by
 have hm:AZ x (x.getD i 0)=true:=A7.2 (Af hi)
 grind [BV,List.pairwise_iff_getElem]
theorem Bz {t:A1} {x f:List Int} (h:Eo t x f=true):CD t x f:=by
 simp only [Eo,and_eq_true,decide_eq_true_eq,Ag,Cm] at h
 obtain ⟨⟨h1,h2⟩,h3⟩:=h
 have hnode:BX t x:=by
  intro n hn
  obtain ⟨i,hi,rfl⟩:=List.getElem_of_mem hn
  grind
 have hnd:x.Nodup:=K8 fun i hi=>(h2 i hi).2
 have hat:∀ i,i < x.length->Cc x f (x.getD i 0)=f.getD i 0:=by
  intro i hi
  unfold Cc
  rw [if_pos (A7.2 (Af hi)),Dv hnd hi,toNat_natCast]
 refine ⟨h1,hnode,hnd,hat,?_,?_⟩
 .intro n hn hk
  obtain ⟨i,hi,rfl⟩:=List.getElem_of_mem hn
  have e:x[i]=x.getD i 0:=by grind
  have h3i:=h3 i hi
  rw [e] at hk ⊢
  rw [hat i hi]
  simp_all [Lp,EV,A7]
 .intro n hn hk
  obtain ⟨i,hi,rfl⟩:=List.getElem_of_mem hn
  have e:x[i]=x.getD i 0:=by grind
  have h3i:=h3 i hi
  rw [e] at hk ⊢
  rw [hat i hi]
  simp_all [Lp]
def ahF (t:A1) (x f:List Int) (w:Int):Int:=if (t.at w.toNat).rmw=true/\AZ x (t.at w.toNat).up=true then Cc x f (t.at w.toNat).up else -1
def Aa8 (t:A1) (x:List Int) (w:Int) (n:Nat):Bool:=(decide ((n:Int)=w) && LH (t.at n)) || (AZ x (n:Int) && decide ((t.at n).kind=4) && LH (t.at n) && At t n w)
def LE (t:A1) (x:List Int) (w:Int):BitVec 64:=BO (Aa8 t x w)
def LA (t:A1) (w:Int):Bool:=decide (w < 0) || decide ((t.at w.toNat).thread < 0)
def YP (t:A1) (x f:List Int):Nat->Int->BitVec 64
 | 0,_=>0#64
 | k+1,w=>if LA t w=true then 0#64 else LE t x w ||| YP t x f k (ahF t x f w)
def BZ (t:A1) (x f:List Int) (w:Int):BitVec 64:=YP t x f (x.length+1) w
def Dy (t:A1) (x f:List Int):Nat->Int->Int
 | 0,w=>w
 | k+1,w=>ahF t x f (Dy t x f k w)
theorem Jq (t:A1) (x f:List Int):∀ (k:Nat) (w:Int),Dy t x f (k+1) w=Dy t x f k (ahF t x f w)
 | 0,w=>rfl
 | k+1,w=>by rw [Dy,Jq t x f k w];rfl
theorem Ee (t:A1) (x f:List Int) (b:Nat):∀ (k:Nat) (w:Int),(YP t x f k w).getLsbD b=true↔∃ j,j < k/\(∀ i,i<=j->LA t (Dy t x f i w)=false)/\(LE t x (Dy t x f j w)).getLsbD b=true
 | 0,w=>by simp [YP]
 | k+1,w=>by
  rw [YP]
  by_cases c:LA t w=true
  .rw [if_pos c]
   constructor
   .intro h;simp at h
   .rintro ⟨j,_,h,_⟩
    have:=h 0 (Nat.zero_le _)
    rw [Dy,c] at this;cases this
  .rw [if_neg c,getLsbD_or,or_eq_true,Ee t x f b k]
   constructor
   .rintro (h | ⟨j,h1,h2,h3⟩)
    .exact ⟨0,by omega,fun i hi=>by rw [Nat.le_zero.1 hi];exact Bool.eq_false_iff.2 c,h⟩
    .refine ⟨j+1,by omega,fun i hi=>?_,by rw [Jq];exact h3⟩
     rcases i with _ | i
     .exact Bool.eq_false_iff.2 c
     .rw [Jq];exact h2 i (by omega)
   .rintro ⟨j,h1,h2,h3⟩
    rcases j with _ | j
    .exact .inl h3
    .refine .inr ⟨j,by omega,fun i hi=>?_,by rw [Jq] at h3;exact h3⟩
     have:=h2 (i+1) (by omega)
     rwa [Jq] at this
def Ps (t:A1) (x f:List Int) (w:Int) (i:Nat):BitVec 64:=(List.range i).foldl (fun s j=>s ||| LE t x (Dy t x f j w)) 0#64
theorem A2l (t:A1) (x f:List Int) (w:Int) (i:Nat):Ps t x f w (i+1)=Ps t x f w i ||| LE t x (Dy t x f i w):=by
 grind [Ps,range_succ]
theorem RQ (t:A1) (x f:List Int) (w:Int) (b:Nat) (i:Nat):(Ps t x f w i).getLsbD b=true↔∃ j,j < i/\(LE t x (Dy t x f j w)).getLsbD b=true:=by
 simp_all [Ps,Tb]
def J6 (t:A1) (x f:List Int) (w:Int) (i:Nat):List Int:=(List.range i).map fun j=>Dy t x f j w
theorem Sn (t:A1) (x f:List Int) (w:Int) (i:Nat):J6 t x f w (i+1)=J6 t x f w i++[Dy t x f i w]:=by
 grind [J6,range_succ]
theorem NK {t:A1} {x f:List Int} {w:Int} {i:Nat} {v:Int}:v∈J6 t x f w i↔∃ j,j < i/\Dy t x f j w=v:=by
 simp [J6]
theorem A3u {t:A1} (ht:A5 t) {x f:List Int} (h:CD t x f) {w:Int} (hw:w∈x):ahF t x f w = -1\/(ahF t x f w∈x/\(t.at (ahF t x f w).toNat).kind=3):=by
 unfold ahF
 by_cases c:(t.at w.toNat).rmw=true/\AZ x (t.at w.toNat).up=true
 .rw [if_pos c]
  obtain ⟨m,rfl,hm⟩:=Aa (h.node w hw)
  rw [toNat_natCast] at c ⊢
  have hl:t.locs.length<=m:=by
   rcases Nat.lt_or_ge m t.locs.length with h1 | h1
   .have:=ht.first.2 m h1
    simp_all [Gh]
   .exact h1
  obtain ⟨_,k2⟩:=(ht.good m hl hm).rmw c.1
  obtain ⟨r1,r2,_⟩:=h.read _ (A7.1 c.2) k2
  exact .inr ⟨r1,r2⟩
 .rw [if_neg c];exact .inl rfl
theorem KG {t:A1} (ht:A5 t) {x f:List Int} (h:CD t x f) {w:Int} (hw:w∈x):∀ (i:Nat),(∀ j,j < i->LA t (Dy t x f j w)=false)->Dy t x f i w = -1\/Dy t x f i w∈x
 | 0,_=>.inr hw
 | i+1,hi=>by
  rcases KG ht h hw i (fun j hj=>hi j (by omega)) with e | e
  .have:=hi i (by omega)
   rw [e] at this;cases this
  .rcases A3u ht h e with e | e
   .exact .inl e
   .exact .inr e.1
theorem AdI {t:A1} (ht:A5 t) {x f:List Int} (h:CD t x f) {w:Int} (hw:w∈x) {i:Nat} (hoff:∀ j,j < i->LA t (Dy t x f j w)=false) (hnd:(J6 t x f w i).Nodup)
  (he:LA t (Dy t x f i w)=true\/Dy t x f i w∈J6 t x f w i):Ps t x f w i=BZ t x f w:=by
 have hil:i<=x.length:=by
  have h1:(J6 t x f w i).length=i:=by simp [J6]
  rw [<- h1]
  refine GQ _ _ hnd fun v hv=>?_
  obtain ⟨j,hj,rfl⟩:=NK.1 hv
  rcases KG ht h hw j (fun k hk=>hoff k (by omega)) with e | e
  .have:=hoff j hj
   rw [e] at this;cases this
  .exact e
 apply Sub.anti
 .intro b hb
  obtain ⟨j,hj,h1⟩:=(RQ _ _ _ _ _ _).1 hb
  exact (Ee _ _ _ _ _ _).2 ⟨j,by omega,fun k hk=>hoff k (by omega),h1⟩
 .intro b hb
  obtain ⟨j,hj,h1,h2⟩:=(Ee _ _ _ _ _ _).1 hb
  have key:∀ j,(∀ k,k<=j->LA t (Dy t x f k w)=false)->∃ j',j' < i/\Dy t x f j' w=Dy t x f j w:=by
   intro j
   induction j with
   | zero =>
    intro hk
    rcases Nat.eq_zero_or_pos i with e | e
    .simp_all [J6]
    .exact ⟨0,e,rfl⟩
   | succ j ih =>
    intro hk
    obtain ⟨j',h3,h4⟩:=ih fun k hk'=>hk k (by omega)
    have e5:Dy t x f (j' + 1) w=Dy t x f (j+1) w:=by rw [Dy,Dy,h4]
    rcases Nat.lt_or_ge (j' + 1) i with h5 | h5
    .exact ⟨j' + 1,h5,e5⟩
    .have e6:j' + 1=i:=by omega
     simp_all [NK]
  obtain ⟨j',h3,h4⟩:=key j h1
  grind [RQ]
def HC (t:A1) (x:List Int) (r:Int) (n:Nat):Bool:=(decide ((n:Int)=r) && Lc (t.at n)) || (AZ x (n:Int) && decide ((t.at n).kind=4) && Lc (t.at n) && At t r n)
def JF (t:A1) (x f:List Int) (r:Int):Bool:=decide ((t.at r.toNat).kind=2) && !decide ((t.at (Cc x f r).toNat).thread=(t.at r.toNat).thread)
def swB (t:A1) (x f:List Int) (a b:Nat):Bool:=x.any fun r=>JF t x f r && BG (BZ t x f (Cc x f r)) (a:Int) && HC t x r b
def JW (t:A1) (x f:List Int) (a b:Nat):Bool:=(AZ x (a:Int) && AZ x (b:Int) && At t a b) || swB t x f a b
def J9 (t:A1) (x f:List Int):Rows:=Cs (Ax t.nodes.length (JW t x f))
theorem CM {n:Nat} (hn:n<=64) (p:Nat->Nat->Bool):Dz (Ax n p)=true:=by
 simp only [Dz,and_eq_true,decide_eq_true_eq,List.all_eq_true,AJ]
 refine ⟨hn,fun r hr=>?_⟩
 obtain ⟨a,ha,rfl⟩:=List.mem_map.1 hr
 apply B4
 grind [Aw,ED]
theorem DV {n:Nat} {p:Nat->Nat->Bool} {a:Nat} (h:a < n):(Ax n p).getD a 0#64=BO fun b=>decide (b < n) && p a b:=by
 rw [List.getD_eq_getElem?_getD,Ce h,Option.getD_some]
theorem Eg {n:Nat} {p q:Nat->Nat->Bool} (h:∀ a b,a < n->b < n->p a b=q a b):Ax n p=Ax n q:=by
 unfold Ax
 apply List.map_congr_left
 grind
theorem Qe {n:Nat} (hn:n<=64) (p q:Nat->Nat->Bool):orF (Ax n p) (Ax n q)=Ax n fun a b=>p a b || q a b:=by
 unfold orF
 rw [CM hn,CM hn,AJ,AJ]
 simp only [decide_true,Bool.and_self,if_true]
 apply List.map_congr_left
 intro a ha
 have h:=List.mem_range.1 ha
 rw [DV h,DV h]
 apply B4
 grind [Aw]
theorem A2q {n:Nat} (hn:n<=64) (p:Nat->Nat->Bool) (s:BitVec 64):YV (Ax n p) s=Ax n fun a b=>BG s a && BG s b && p a b:=by
 unfold YV
 rw [CM hn,AJ]
 simp only [if_true]
 apply List.map_congr_left
 intro a ha
 have h:=List.mem_range.1 ha
 rw [DV h]
 cases c:BG s (a:Int) with
 | false =>
  simp only [Bool.false_and,Bool.and_false,Bool.false_eq_true,if_false,c]
  exact Ho.symm
 | true =>
  simp only [if_true,Bool.true_and,c]
  apply B4
  grind [Aw,Au]
theorem Cb {s:BitVec 64} {x:Int}:x∈AF s↔BG s x=true:=by
 unfold AF
 rw [List.mem_map]
 constructor
 .rintro ⟨i,hi,rfl⟩
  rw [Au];exact K1.1 hi
 .intro h
  obtain ⟨h1,h2⟩:=DF h
  obtain ⟨m,rfl⟩:=eq_ofNat_of_zero_le h1
  rw [Au] at h
  exact ⟨m,K1.2 h,rfl⟩
theorem BX.list {t:A1} (ht:t.nodes.length<=64) {l:List Int} (h:BX t l) (x:Int):x∈AF (BA l)↔x∈l:=by
 rw [Cb,h.has ht,A7]
def Et (p:Int->Bool) (s:BitVec 64) (l:List Int):BitVec 64:=l.foldl (fun s n=>if p n=true then s ||| Cl n else s) s
theorem RZ (p:Int->Bool) (j:Nat) (hj:j < 64):∀ (l:List Int) (s:BitVec 64),(Et p s l).getLsbD j=(s.getLsbD j || (AZ l (j:Int) && p (j:Int))):=by
 intro l
 induction l with
 | nil=>intro s;simp [Et,AZ]
 | cons x l ih =>
  intro s
  show (Et p (if p x=true then s ||| Cl x else s) l).getLsbD j=_
  rw [ih]
  have e:AZ (x::l) (j:Int)=(decide ((j:Int)=x) || AZ l (j:Int)):=rfl
  rw [e]
  by_cases c:(j:Int)=x
  .subst c
   cases hp:p (j:Int) with
   | false=>simp
   | true =>
    rw [if_pos rfl,getLsbD_or,C3]
    simp [hj]
  .have:(Cl x).getLsbD j=false:=by rw [C3];simp [c]
   grind
theorem Qh {p:Int->Bool} {s:BitVec 64} {l:List Int} {k:Nat} (hk:k < l.length):Et p s (l.take (k+1))=if p (l.getD k 0)=true then Et p s (l.take k) ||| Cl (l.getD k 0) else Et p s (l.take k):=by
 grind [Et,List.take_succ_eq_append_getElem]
theorem Aal {n a:Nat} (ha:a < n) (p:Nat->Nat->Bool) (q:Nat->Bool) (hq:∀ b,q b=true->b < n):(Ax n p).set a ((Ax n p).getD a 0#64 ||| BO q)=Ax n fun i b=>p i b || (decide (i=a) && q b):=by
 apply ext_getElem
 .simp [Ax]
 .intro i h1 h2
  have hi:i < n:=by simpa [Ax] using h2
  rw [List.getElem_set]
  by_cases c:a=i
  .subst c
   rw [if_pos rfl,DV ha]
   have:(Ax n fun i b=>p i b || (decide (i=a) && q b))[a]=BO fun b=>decide (b < n) && (p a b || (decide (a=a) && q b)):=by simp [Ax]
   rw [this]
   apply B4
   grind [Aw]
  .rw [if_neg c]
   grind [Ax,Cf]
theorem Mu (n:Nat):Ax n (fun _ _=>false)=List.replicate n 0#64:=by
 apply ext_getElem
 .simp [Ax]
 simp_all [Ax,Ho]
def onL (t:A1) (x f:List Int):List Int:=(List.range t.nodes.length).map fun (n:Nat)=>Cc x f (n:Int)
theorem NM {t:A1} {x f:List Int}:(onL t x f).length=t.nodes.length:=by simp [onL]
theorem HM {t:A1} {x f:List Int} {n:Nat} (h:n < t.nodes.length):(onL t x f)[n]? = some (Cc x f (n:Int)):=by simp [onL,h]
def JD (t:A1) (x f:List Int) (n:Int):Bool:=if (t.at n.toNat).kind=2 then AZ x (Cc x f n) && EV t (Cc x f n) (t.at n.toNat).loc else decide (Cc x f n = -1)
theorem YK (t:A1) (x f:List Int):Eo t x f=(decide (x.length=f.length) && (List.range x.length).all (Cm t x) && (List.range x.length).all fun i=>JD t x f (x.getD i 0)):=by
 unfold Eo
 by_cases h1:(decide (x.length=f.length) && (List.range x.length).all (Cm t x))=true
 .rw [h1,Bool.true_and,Bool.true_and]
  simp only [and_eq_true,decide_eq_true_eq,Ag,Cm] at h1
  have hnd:x.Nodup:=K8 fun i hi=>(h1.2 i hi).2
  have hat:∀ i,i < x.length->Cc x f (x.getD i 0)=f.getD i 0:=by
   intro i hi
   unfold Cc
   rw [if_pos (A7.2 (Af hi)),Dv hnd hi,toNat_natCast]
  rw [Bool.eq_iff_iff,Ag,Ag]
  grind [Lp,JD]
 grind
end Go.AM
