/-
  Own work, part of the proof of these laws: plain laws.
-/
import Derived.Test.YtpnaenhghnkggabGreatDoorAmF
set_option maxRecDepth 10000
set_option maxHeartbeats 64000000
set_option linter.unusedVariables false
set_option linter.unusedSimpArgs false
set_option linter.unnecessarySimpa false
open Bool (and_eq_true or_eq_true not_eq_true')
open Int (toNat_natCast eq_ofNat_of_zero_le)
open BitVec (getLsbD_or)
open List (range_succ ext_getElem)
namespace Go.AM
open Go Go.Proofs
def CP (xs:List Int):BitVec 64:=xs.foldl (fun s i=>s ||| BK i) 0#64
def CG (lo hi:Int):BitVec 64:=BT fun i=>decide (lo<=(i:Int)/\(i:Int) < hi)
def AC (s:BitVec 64):List Int:=(Ca s).map fun (i:Nat)=>(i:Int)
def Gx {α:Type} (p:α->Bool) (xs:List α):Int:=match xs.findIdx? p with
 | some i=>i
 | none=>-1
theorem Dr {α:Type} {p:α->Bool} {xs:List α} {k:Nat} (hk:k < xs.length) (h1:p xs[k]=true) (h2:∀ (j:Nat) (hj:j < k),p xs[j]=false):Gx p xs=k:=by
 grind [Gx,List.findIdx?_eq_some_iff_getElem]
theorem Dq {α:Type} {p:α->Bool} {xs:List α} (h:∀ x∈xs,p x=false):Gx p xs = -1:=by
 unfold Gx
 rw [List.findIdx?_eq_none_iff.2 h]
theorem KE {α:Type} (p:α->Bool) (xs:List α):decide (0<=Gx p xs)=xs.any p:=by
 grind [Gx]
abbrev Rows:=List (BitVec 64)
def CX (r:Rows):Bool:=decide (r.length<=64) && r.all fun x=>decide (x &&& ~~~(CG 0 r.length)=0#64)
def Dz (a:Rows) (s:BitVec 64):BitVec 64:=(Ca (s &&& CG 0 a.length)).foldl (fun x i=>x ||| a.getD i 0#64) 0#64
def JX (a:Rows):Nat->BitVec 64->BitVec 64
 | 0,s=>s
 | n+1,s=>if s ||| Dz a s=s then s else JX a n (s ||| Dz a s)
theorem Ke {s x:BitVec 64} (h:s ||| x≠s):s.toNat < (s ||| x).toNat:=by
 grind [Nat.left_le_or,BitVec.eq_of_toNat_eq]
theorem A3d (a:Rows):∀ (n:Nat) (s:BitVec 64),18446744073709551616 - s.toNat<=n->JX a (n+1) s=JX a n s:=by
 intro n
 induction n with
 | zero=>intro s h;have:=s.isLt;omega
 | succ n ih =>
  intro s h
  rw [JX]
  by_cases e:s ||| Dz a s=s
  .rw [if_pos e];rw [JX,if_pos e]
  .rw [if_neg e]
   have:=Ke e
   rw [ih _ (by omega),JX,if_neg e]
def Eg (a:Rows) (s:BitVec 64):BitVec 64:=JX a 18446744073709551616 s
theorem A1z (a:Rows) (s:BitVec 64):Eg a s=if s ||| Dz a s=s then s else Eg a (s ||| Dz a s):=by
 have h0:Eg a s=JX a (18446744073709551615+1) s:=rfl
 rw [h0,JX]
 by_cases e:s ||| Dz a s=s
 .rw [if_pos e,if_pos e]
 .rw [if_neg e,if_neg e]
  have:=Ke e
  exact (A3d a 18446744073709551615 _ (by omega)).symm
def Bz (a:Rows):Rows:=if CX a then (List.range a.length).map (fun i=>Eg a (a.getD i 0#64)) else []
def Mz (a:Rows) (s:BitVec 64):Rows:=if CX a then (List.range a.length).map (fun (i:Nat)=>if B1 s (i:Int) then a.getD i 0#64 &&& s else 0#64) else []
theorem Aeb {a:Rows} {i:Nat} (h:i < a.length):a.getD i 0#64=a[i]:=by
 grind
theorem Ga {a:Rows} (h:CX a=true):a.length<=64:=by simp_all [CX]
def Bj (a:Rows):List (Int×Int):=if CX a then (List.range a.length).flatMap (fun i=>(AC (a.getD i 0#64)).map fun j=>((i:Int),j)) else []
theorem Cv (s:BitVec 64):(AC s).length<=64:=by
 grind [AC,Ca]
theorem Nz (a:Rows):∀ k,((List.range k).flatMap (fun i=>(AC (a.getD i 0#64)).map fun j=>((i:Int),j))).length<=64 * k:=by
 intro k
 induction k with
 | zero=>simp
 | succ k ih =>
  grind [range_succ,Cv]
def Z4 (s t:BitVec 64):Prop:=∀ j,s.getLsbD j=true->t.getLsbD j=true
def Ma (a:Rows) (t:BitVec 64):Prop:=∀ y,y < a.length->t.getLsbD y=true->Z4 (a.getD y 0#64) t
structure Q1 (a:Rows) (s t:BitVec 64):Prop where
 sub:Z4 s t
 closed:Ma a t
 least:∀ u,Z4 s u->Ma a u->Z4 t u
theorem Z4.anti {s t:BitVec 64} (h:Z4 s t) (k:Z4 t s):s=t:=by
 apply Bm
 intro j _
 cases hs:s.getLsbD j with
 | true=>exact (h j hs).symm
 | false =>
  cases ht:t.getLsbD j with
  | false=>rfl
  | true=>rw [k j ht] at hs;cases hs
theorem Q1.uniq {a:Rows} {s t u:BitVec 64} (h:Q1 a s t) (k:Q1 a s u):t=u:=Z4.anti (h.least u k.sub k.closed) (k.least t h.sub h.closed)
theorem Un {α:Type} (f:α->BitVec 64) (j:Nat):∀ (l:List α) (x:BitVec 64),(l.foldl (fun x i=>x ||| f i) x).getLsbD j=(x.getLsbD j || l.any fun i=>(f i).getLsbD j)
 | [],x=>by simp
 | i::l,x=>by rw [List.foldl_cons,Un f j l,getLsbD_or,List.any_cons,Bool.or_assoc]
theorem HM {a:Rows} (hl:a.length<=64) (s:BitVec 64) (j:Nat):(Dz a s).getLsbD j=true↔∃ i,i < a.length/\s.getLsbD i=true/\(a.getD i 0#64).getLsbD j=true:=by
 unfold Dz
 rw [Un]
 simp only [BitVec.getLsbD_zero,Bool.false_or,List.any_eq_true,KL,BitVec.getLsbD_and,and_eq_true,CG,AE,decide_eq_true_eq]
 grind
theorem A7J {a:Rows} (hl:a.length<=64):∀ (n:Nat) (s:BitVec 64),18446744073709551616 - s.toNat<=n->Q1 a s (JX a n s):=by
 intro n
 induction n with
 | zero=>intro s h;have:=s.isLt;omega
 | succ n ih =>
  intro s h
  rw [JX]
  by_cases e:s ||| Dz a s=s
  .rw [if_pos e]
   refine ⟨fun j h=>h,fun y hy hs j hj=>?_,fun u hu _=>hu⟩
   have:(Dz a s).getLsbD j=true:=(HM hl s j).2 ⟨y,hy,hs,hj⟩
   grind
  .rw [if_neg e]
   have hg:=Ke e
   obtain ⟨h1,h2,h3⟩:=ih (s ||| Dz a s) (by omega)
   refine ⟨fun j hj=>h1 j (by grind),h2,fun u hu hc=>h3 u (fun j hj=>?_) hc⟩
   rw [getLsbD_or,or_eq_true] at hj
   rcases hj with hj | hj
   .exact hu j hj
   .obtain ⟨i,hi,hs,hij⟩:=(HM hl s j).1 hj
    exact hc i hi (hu i hs) j hij
theorem Qh {a:Rows} (hl:a.length<=64) (s:BitVec 64):Q1 a s (Eg a s):=A7J hl _ s (by omega)
theorem AcR (s t:BitVec 64):(s ||| t=t)↔Z4 s t:=by
 constructor
 .intro h j hj
  grind
 .intro h
  apply Bm
  intro j _
  rw [getLsbD_or]
  cases hs:s.getLsbD j with
  | true=>rw [h j hs];rfl
  | false=>simp
def KY (a:Rows):Bool:=CX a && (List.range a.length).all fun i=>!((Bz a).getD i 0#64).getLsbD i
def orF (a b:Rows):Rows:=if CX a && CX b && decide (a.length=b.length) then (List.range a.length).map (fun i=>a.getD i 0#64 ||| b.getD i 0#64) else []
def CO {α:Type} (n k:Nat) (f:Nat->α) (z:α):List α:=(List.range n).map fun j=>if j < k then f j else z
theorem RL {α:Type} {n k:Nat} {f:Nat->α} {z:α}:(CO n k f z).length=n:=by simp [CO]
theorem GQ {α:Type} {n k:Nat} {f:Nat->α} {z:α} (h:k < n):(CO n k f z)[k]? = some z:=by
 grind [CO]
theorem N6 {α β:Type} {n k:Nat} {f:Nat->α} {z:α} (g:α->β):((CO n k f z).map g).set k (g (f k))=(CO n (k+1) f z).map g:=by
 apply ext_getElem
 .simp [CO]
 grind [CO]
theorem DN {α:Type} {n:Nat} {f:Nat->α} {z:α}:CO n 0 f z=List.replicate n z:=by
 apply ext_getElem
 .simp [CO]
 .intro j h1 h2;simp [CO]
theorem EM {α:Type} {n:Nat} {f:Nat->α} {z:α}:CO n n f z=(List.range n).map f:=by
 apply List.map_congr_left
 grind
def AJ.zero:AJ:=⟨0,0,0,0,0,0,false,false,[]⟩
def A2.at (t:A2) (i:Nat):AJ:=t.nodes.getD i AJ.zero
def HZ (t:A2):Prop:=∀ i,i < t.nodes.length->(t.at i).up < i
def L0 (t:A2) (a:Int):Nat->Int->Bool
 | 0,_=>false
 | n+1,x=>if x < 0 then false else if x=a then true else L0 t a n (t.at x.toNat).up
theorem SE {t:A2} (h:HZ t) (a:Int):∀ (n:Nat) (x:Int),x < n->x < t.nodes.length->L0 t a (n+1) x=L0 t a n x:=by
 intro n
 induction n with
 | zero =>
  simp_all [L0]
 | succ n ih =>
  intro x hx hl
  rw [L0]
  by_cases h0:x < 0
  .rw [if_pos h0,L0,if_pos h0]
  .rw [if_neg h0]
   conv=>rhs;rw [L0,if_neg h0]
   by_cases h1:x=a
   .rw [if_pos h1,if_pos h1]
   .rw [if_neg h1,if_neg h1]
    have:=h x.toNat (by omega)
    exact ih _ (by omega) (by omega)
def Az (t:A2) (a:Int) (b:Nat):Bool:=L0 t a t.nodes.length (t.at b).up
theorem Alw {t:A2} {i:Nat} (h:i < t.nodes.length):t.at i=t.nodes[i]:=by
 simp only [A2.at,List.getD_eq_getElem?_getD,List.getElem?_eq_getElem h,Option.getD_some]
theorem A5 {t:A2} {i:Nat} (h:i < t.nodes.length):t.nodes[i]? = some (t.at i):=by rw [Alw h,List.getElem?_eq_getElem h]
def BU (t:A2) (n:Int):Bool:=decide (0<=n) && decide (n < t.nodes.length)
theorem A7 {t:A2} {n:Int} (h:BU t n=true):∃ m:Nat,n=(m:Int)/\m < t.nodes.length:=by
 simp only [BU,and_eq_true,decide_eq_true_eq] at h
 obtain ⟨m,rfl⟩:=eq_ofNat_of_zero_le h.1
 exact ⟨m,rfl,by omega⟩
theorem Cl {t:A2} {m:Nat} (h:m < t.nodes.length):BU t (m:Int)=true:=by
 simp only [BU,and_eq_true,decide_eq_true_eq]
 omega
def Ah (t:A2) (a b:Int):Bool:=BU t a && BU t b && (if (t.at a.toNat).thread < 0 then decide (0<=(t.at b.toNat).thread) else Az t a b.toNat)
def AH (t:A2) (a b:Int):Bool:=BU t a && BU t b && !decide (a=b) && decide (0<=(t.at a.toNat).thread) && decide ((t.at a.toNat).thread=(t.at b.toNat).thread) && !Az t a b.toNat && !Az t b a.toNat
def CV (n:AJ):Bool:=decide (0<=n.thread) && decide (n.kind=3) && decide (n.mode=0) && !n.rmw
def J3 (n:AJ):Bool:=(decide (n.kind=2) || decide (n.kind=4)) && (decide (n.mode=1) || decide (n.mode=3) || decide (n.mode=4))
def Ee (n:AJ):Bool:=(decide (n.kind=3) && decide (0<=n.thread) || decide (n.kind=4)) && (decide (n.mode=2) || decide (n.mode=3) || decide (n.mode=4))
theorem AG {n:Nat} {p:Nat->Bool} (h:∀ j,j < n->p j=true):(List.range n).all p=true:=by
 grind
theorem AF {n k:Nat} {p:Nat->Bool} (hk:k < n) (h:p k=false):(List.range n).all p=false:=by
 grind
theorem Aw {n:Nat} {p:Nat->Bool}:(List.range n).all p=true↔∀ j,j < n->p j=true:=by
 grind
theorem Ze {n k:Nat} {p:Nat->Bool} (hk:k < n) (h:p k=true):(List.range n).any p=true:=by
 grind
theorem Ak {xs:List Int} {k:Nat} (h:k < xs.length):xs[k]? = some (xs.getD k 0):=by
 grind
theorem EY {xs:List (List Int)} {k:Nat} (h:k < xs.length):xs[k]? = some (xs.getD k []):=by
 grind
theorem BP {xs:List (List (List Int))} {k:Nat} (h:k < xs.length):xs[k]? = some (xs.getD k []):=by
 grind
theorem Ac {α:Type} {xs:List α} {k:Nat} {d:α} (h:k < xs.length):xs.getD k d∈xs:=by
 grind
def B9 (l:List Int) (n:Int):Bool:=l.any fun y=>decide (n=y)
theorem Af {l:List Int} {n:Int}:B9 l n=true↔n∈l:=by
 simp_all [B9]
def Kv (l:List Int) (n:Int):Int:=Gx (fun y=>decide (n=y)) l
theorem Ea (l:List Int) (n:Int):decide (0<=Kv l n)=B9 l n:=KE _ _
theorem C7 (l:List Int) (n:Int):decide (Kv l n < 0) = !B9 l n:=by
 rw [<- Ea]
 grind
theorem JU {α:Type} {p:α->Bool} {l:List α} (h:l.any p=true):∃ k:Nat,Gx p l=k/\∃ hk:k < l.length,p l[k]=true/\∀ (j:Nat) (hj:j < k),p (l[j]'(by omega))=false:=by
 unfold Gx
 cases e:l.findIdx? p with
 | none =>
  grind
 | some i =>
  obtain ⟨hi,h1,h2⟩:=List.findIdx?_eq_some_iff_getElem.1 e
  grind
theorem ZD {α:Type} {p:α->Bool} {l:List α} (h:l.any p=false):Gx p l = -1:=by
 grind [Dq]
theorem DD {l:List Int} {n:Int} (h:B9 l n=true):∃ k:Nat,Kv l n=k/\k < l.length/\l.getD k 0=n/\∀ j,j < k->l.getD j 0≠n:=by
 obtain ⟨k,e,hk,h1,h2⟩:=JU h
 refine ⟨k,e,hk,?_,fun j hj=>?_⟩
 .grind
 grind
theorem A18 {l:List Int} {n:Int} (h:B9 l n=false):Kv l n = -1:=ZD h
def CN (l:List Int) (k:Nat):Bool:=decide (k=0) || decide (l.getD (k - 1) 0 < l.getD k 0)
def GA (t:A2):BitVec 64:=BT fun i=>decide (i < t.nodes.length) && decide ((t.at i).up < 0)
def C6 (t:A2) (l:List Int) (k:Nat):Bool:=BU t (l.getD k 0) && CN l k && (decide ((t.at (l.getD k 0).toNat).up < 0) || B9 l (t.at (l.getD k 0).toNat).up)
def C8 (t:A2) (l:List Int):Bool:=(List.range l.length).all (C6 t l) && decide (GA t ||| CP l=CP l)
def AZ (t:A2) (x y:Int):Bool:=CV (t.at x.toNat) && CV (t.at y.toNat) && decide ((t.at x.toNat).val=(t.at y.toNat).val) && AH t x y
def GY (t:A2) (n loc:Int):Bool:=decide ((t.at n.toNat).kind=3) && decide ((t.at n.toNat).loc=loc)
def BO (t:A2) (l has:List Int) (loc:Int) (i:Nat):Bool:=B9 has (l.getD i 0) && CN l i && GY t (l.getD i 0) loc && decide (0<=(t.at (l.getD i 0).toNat).thread) && (List.range i).all fun k=>AZ t (l.getD i 0) (l.getD k 0)
def Dd (t:A2) (l has:List Int) (loc:Int):Bool:=!decide (l.length=0) && (List.range l.length).all (BO t l has loc)
def GD (t:A2) (s:A6) (i:Nat):Bool :=
 if (t.at (s.has.getD i 0).toNat).kind=2 then B9 s.has (s.jf.getD i 0) && GY t (s.jf.getD i 0) (t.at (s.has.getD i 0).toNat).loc && decide ((t.at (s.jf.getD i 0).toNat).val=(t.at (s.has.getD i 0).toNat).val) else decide (s.jf.getD i 0 = -1)
def GI (t:A2) (s:A6) (loc:Nat):Bool :=
 let m:=s.mo.getD loc []
 !decide (m.length=0) && decide (m.getD 0 []=[(loc:Int)]) && (List.range m.length).all fun i=>decide (i=0) || Dd t (m.getD i []) s.has loc
def Kd (t:A2) (s:A6) (i:Nat):Bool :=
 !decide ((t.at (s.has.getD i 0).toNat).kind=3) || decide (((s.mo.getD (t.at (s.has.getD i 0).toNat).loc.toNat []).filter fun c=>B9 c (s.has.getD i 0)).length=1)
def Bd (t:A2) (s:A6):Bool:=C8 t s.has && decide (s.jf.length=s.has.length) && decide (s.mo.length=t.locs.length) && (List.range s.has.length).all (GD t s) && (List.range s.mo.length).all (GI t s) && (List.range s.has.length).all (Kd t s)
structure El (s:A6):Prop where
 has:s.has.length<=1000
 jf:s.jf.length<=1000
 mo:s.mo.length<=1000
 mi:∀ l∈s.mo,l.length<=1000
 mc:∀ l∈s.mo,∀ c∈l,c.length<=1000
theorem El.mi' {s:A6} (h:El s) (k:Nat):(s.mo.getD k []).length<=1000:=by
 by_cases hk:k < s.mo.length
 .exact h.mi _ (Ac hk)
 grind
theorem El.mc' {s:A6} (h:El s) (k j:Nat):((s.mo.getD k []).getD j []).length<=1000:=by
 by_cases hk:k < s.mo.length
 .by_cases hj:j < (s.mo.getD k []).length
  .exact h.mc _ (Ac hk) _ (Ac hj)
  grind
 grind
def Li (s:A6) (n:Int):Int:=if Kv s.has n < 0\/(s.jf.length:Int)<=Kv s.has n then -1 else s.jf.getD (Kv s.has n).toNat 0
def BQ (s:A6) (loc w:Int):Int:=if loc < 0\/(s.mo.length:Int)<=loc then -1 else Gx (fun c=>B9 c w) (s.mo.getD loc.toNat [])
def DA (a b:AJ) (pa pb:Int):Bool :=
 (!(decide (a.kind=2) || decide (a.kind=3)) || !(decide (b.kind=2) || decide (b.kind=3)) || !decide (a.loc=b.loc)) || (if b.kind=2 then decide (pa<=pb) else decide (pa < pb))
def BY (t:A2) (a u:Nat):Bool:=decide (a < t.nodes.length) && decide ((t.at a).up=u) && decide ((t.at a).thread=(t.at u).thread)
def G2 (t:A2) (v:Int):Bool:=decide (0<=v) && decide (v < t.vals)
def K1 (t:A2) (v:Int):Bool:=decide (0<=v) && decide (v < t.locs.length)
def A50 (t:A2) (u:Nat):Bool:=(t.at u).fin && decide ((t.at u).regs.length=(t.regs.getD (t.at u).thread.toNat []).length) && (t.at u).regs.all (G2 t)
def D5 (t:A2) (u:Nat):Bool :=
 let n:=t.at (u+1);let m:=t.at u
 (decide (n.kind=4) && decide (n.loc=0) && decide (n.val=0) && !n.rmw && decide (1<=n.mode) && decide (n.mode<=4)) ||
 (decide (n.kind=3) && K1 t n.loc && G2 t n.val &&
  (if n.rmw then decide (0<=n.mode) && decide (n.mode<=4) && decide (m.kind=2) && decide (m.loc=n.loc) && decide (m.mode=n.mode) else decide (n.mode=0) || decide (n.mode=2) || decide (n.mode=4)))
def Kp (t:A2) (u:Nat):Bool:=decide (u+1 < t.nodes.length) && decide ((t.at (u+1)).up=u) && (t.at (u+1)).rmw
def E5 (t:A2) (a v:Nat) (loc mode:Int):Bool:=decide ((t.at a).kind=2) && decide ((t.at a).val=v) && decide ((t.at a).loc=loc) && decide ((t.at a).mode=mode) && !(t.at a).rmw
def AhU (t:A2) (u:Nat):Prop:=u < t.nodes.length/\0<=(t.at u).thread/\(t.at u).thread < t.regs.length
def GW (t:A2):Nat->Nat->Nat->Prop
 | 0,_,_=>False
 | n+1,u,e=>AhU t u/\(
  (BY t (u+1) u=false/\A50 t u=true/\e=u+1) \/
  (BY t (u+1) u=true/\(t.at u).fin=false/\(t.at u).regs=[]/\D5 t u=true/\GW t n (u+1) e) \/
  (BY t (u+1) u=true/\(t.at u).fin=false/\(t.at u).regs=[]/\∃ (vals:Nat) (k:Nat->Nat) (loc mode:Int),t.vals=vals/\0 < vals/\k 0=u+1/\k vals=e/\K1 t loc=true /\
   (∀ v,v < vals->BY t (k v) u=true/\E5 t (k v) v loc mode=true/\GW t n (k v) (k (v+1))) /\
   ((mode=0\/mode=1\/mode=4)\/(0<=mode/\mode<=4/\∃ v,v < vals/\Kp t (k v)=true))))
def Hx (t:A2) (i:Nat):Bool:=decide ((t.at i).thread = -1) && decide ((t.at i).up = -1) && decide ((t.at i).kind=3) && decide ((t.at i).loc=i) && decide ((t.at i).mode=0) && G2 t (t.at i).val && !(t.at i).rmw && !(t.at i).fin && decide ((t.at i).regs=[])
def DT (t:A2) (u i:Nat):Bool:=decide ((t.at u).thread=i) && decide ((t.at u).up = -1) && decide ((t.at u).kind=1) && decide ((t.at u).loc=0) && decide ((t.at u).mode=0) && decide ((t.at u).val=0) && !(t.at u).rmw
structure A9 (t:A2):Prop where
 v2:2<=t.vals
 v4:t.vals<=4
 l4:t.locs.length<=4
 ln:t.locs.Nodup
 n64:t.nodes.length<=64
 r1:1<=t.regs.length
 r4:t.regs.length<=4
 rl:∀ l∈t.regs,l.length<=4/\l.Nodup
 first:t.locs.length<=t.nodes.length/\∀ i,i < t.locs.length->Hx t i=true
 thr:∃ s:Nat->Nat,s 0=t.locs.length/\s t.regs.length=t.nodes.length/\∀ i,i < t.regs.length->DT t (s i) i=true/\∃ n,GW t n (s i) (s (i+1))
theorem AfP {v n:Int} (hn:0 < n):(v.tmod n < 0->v.tmod n+n=v % n/\-n < v.tmod n)/\(¬ v.tmod n < 0->v.tmod n=v % n):=by
 have h1:v.tmod n < n:=Int.tmod_lt_of_pos v hn
 have h2 : -n < v.tmod n:=Int.lt_tmod_of_pos v hn
 have h3:v.tmod n+n * v.tdiv n=v:=Int.tmod_add_mul_tdiv v n
 have h4:v % n=v.tmod n % n:=by
  conv=>lhs;rw [<- h3]
  exact Int.add_mul_emod_self_left ..
 constructor
 .intro h
  refine ⟨?_,h2⟩
  rw [h4,<- Int.add_emod_right,Int.emod_eq_of_lt (by omega) (by omega)]
 simp_all [Int.emod_eq_of_lt]
inductive GE:List VV->Prop
 | mk (op n:Int) (nm:ByteArray) (kids:List (List VV)):kids.length<=1000->(∀ k∈kids,GE k)->GE [.i .i64 op,.i .i64 n,.s nm,.ls kids]
theorem GE.len {r:List VV} (h:GE r):r.length=4:=by cases h;rfl
theorem GE.frz {r:List VV} (h:GE r) {hh:VH} {d:Nat}:B6 (frz hh (d+1)) r=some (r,[]):=by cases h;rfl
theorem GE.take {r:List VV} (h:GE r):r.take 4=r:=by cases h;rfl
theorem GE.cell {r:List VV} (h:GE r):r.all VV.cell=true:=by cases h;rfl
theorem S0 {l:List (List VV)} {k:Nat} (h:k < l.length):l[k]? = some l[k]:=List.getElem?_eq_getElem h
def N4:List ByteArray:=[⟨⟨[97]⟩⟩,⟨⟨[98]⟩⟩,⟨⟨[99]⟩⟩,⟨⟨[100]⟩⟩]
def GM (k:Int):Bool:=decide (k=1) || decide (k=2) || decide (k=4) || decide (k=5)
structure OKS (locs:List ByteArray) (kind mode:Int) (reg loc:ByteArray) (args:Nat):Prop where
 k:1<=kind/\kind<=7
 rn:GM kind=true->reg∈N4
 one:kind=1\/kind=3\/kind=4\/kind=5\/kind=7->1<=args
 two:kind=5->2<=args
 loc:kind=2\/kind=3\/kind=4\/kind=5->loc∈locs
 ml:kind=2->mode=0\/mode=1\/mode=4
 ms:kind=3->mode=0\/mode=2\/mode=4
 ma:kind=4\/kind=5->0<=mode/\mode<=4
 mf:kind=6->1<=mode/\mode<=4
 rs:reg.size<=1000
abbrev rS (kind mode:Int) (reg loc:ByteArray) (args th el:List (List VV)):List VV:=[.i .i64 kind,.i .i64 mode,.s reg,.s loc,.ls args,.ls th,.ls el]
inductive GS (locs:List ByteArray):List VV->Prop
 | mk (kind mode:Int) (reg loc:ByteArray) (args th el:List (List VV)):args.length<=1000->(∀ a∈args,GE a)->th.length<=1000->el.length<=1000 ->
  (∀ s∈th,GS locs s)->(∀ s∈el,GS locs s)->OKS locs kind mode reg loc args.length->GS locs (rS kind mode reg loc args th el)
inductive RI (names:List ByteArray):List VV->Prop
 | mk (kind mode:Int) (reg loc:ByteArray) (args th el:List (List VV)):(GM kind=true->reg∈names)->(∀ s∈th,RI names s)->(∀ s∈el,RI names s)->RI names (rS kind mode reg loc args th el)
theorem RI.mono {n m:List ByteArray} (h:∀ x∈n,x∈m) {r:List VV} (k:RI n r):RI m r:=by
 induction k with
 | mk kind mode reg loc args th el h1 h2 h3 ih1 ih2=>exact .mk _ _ _ _ _ _ _ (fun e=>h _ (h1 e)) ih1 ih2
theorem GS.len {l:List ByteArray} {r:List VV} (h:GS l r):r.length=7:=by cases h;rfl
theorem GS.frz {l:List ByteArray} {r:List VV} (h:GS l r) {hh:VH} {d:Nat}:B6 (frz hh (d+1)) r=some (r,[]):=by cases h;rfl
theorem GS.take {l:List ByteArray} {r:List VV} (h:GS l r):r.take 7=r:=by cases h;rfl
theorem GS.cell {l:List ByteArray} {r:List VV} (h:GS l r):r.all VV.cell=true:=by cases h;rfl
theorem A7X {c:List ByteArray} {l:List (List VV)} (h:∀ k∈l,GS c k):Dv 7 l=true:=by
 unfold Dv
 rw [List.all_eq_true]
 intro r hr
 rw [(h r hr).len];rfl
theorem DS {t t':A2} {l:List AJ} (h:t'.nodes=t.nodes++l) {i:Nat} (hi:i < t.nodes.length):t'.at i=t.at i:=by
 grind [A2.at]
theorem A8V {t t':A2} {l:List AJ} (h:t'.nodes=t.nodes++l) {i:Nat} (hi:t.nodes.length<=i) (h2:i < t'.nodes.length):t'.at i∈l:=by
 grind [A2.at]
structure YV (t t':A2) (l:List AJ):Prop where
 n:t'.nodes=t.nodes++l
 v:t'.vals=t.vals
 l:t'.locs=t.locs
 r:t'.regs=t.regs
theorem YV.len {t t':A2} {l:List AJ} (h:YV t t' l):t.nodes.length<=t'.nodes.length:=by rw [h.n,List.length_append];omega
theorem A1B {t t':A2} {l:List AJ} (h:YV t t' l) {u a:Nat} (hu:u < t.nodes.length) (hx:∀ x∈l,x.up≠(u:Int)):BY t' a u=BY t a u:=by
 unfold BY
 by_cases ha:a < t.nodes.length
 .have:=h.len
  have ha':a < t'.nodes.length:=by omega
  rw [DS h.n ha,DS h.n hu,decide_eq_true ha,decide_eq_true ha']
 .rw [decide_eq_false ha]
  by_cases ha':a < t'.nodes.length
  .have:=hx _ (A8V h.n (by omega) ha')
   rw [decide_eq_false this];simp
  .rw [decide_eq_false ha'];simp
theorem A0S {t t':A2} {l:List AJ} (h:YV t t' l) {u:Nat} (hu:u < t.nodes.length) (hx:∀ x∈l,x.up≠(u:Int)):Kp t' u=Kp t u:=by
 unfold Kp
 by_cases ha:u+1 < t.nodes.length
 .have:=h.len
  have ha':u+1 < t'.nodes.length:=by omega
  rw [DS h.n ha,decide_eq_true ha,decide_eq_true ha']
 .rw [decide_eq_false ha]
  by_cases ha':u+1 < t'.nodes.length
  .have:=hx _ (A8V h.n (by omega) ha')
   rw [decide_eq_false this];simp
  .rw [decide_eq_false ha'];simp
theorem GW.lt {t:A2}:∀ {n u e:Nat},GW t n u e->u < e:=by
 intro n
 induction n with
 | zero=>intro u e h;exact h.elim
 | succ n ih =>
  intro u e h
  rcases h.2 with ⟨_,_,rfl⟩ | ⟨_,_,_,_,b⟩ | ⟨_,_,_,vals,k,loc,mode,_,h0,hk0,hke,_,hs,_⟩
  .omega
  .have:=ih b;omega
  .have key:∀ j,j<=vals->u+1<=k j:=by
    intro j
    induction j with
    | zero=>intro _;omega
    | succ j ihj =>
     grind
   grind
theorem Mn {t:A2} {a u:Nat} (h:BY t a u=true):a < t.nodes.length:=by
 simp_all [BY]
theorem A7N {t:A2} {n:Nat} {k:Nat->Nat} {vals:Nat} (hs:∀ v,v < vals->GW t n (k v) (k (v+1))):∀ i j,i<=j->j<=vals->k i<=k j:=by
 intro i j hij hj
 induction j with
 | zero=>grind
 | succ j ih =>
  by_cases e:i=j+1
  .subst e;exact Nat.le_refl _
  .have h1:=ih (by omega) (by omega)
   have h2:=(hs j (by omega)).lt
   omega
theorem GW.le {t:A2}:∀ {n u e:Nat},GW t n u e->e<=t.nodes.length:=by
 intro n
 induction n with
 | zero=>intro u e h;exact h.elim
 | succ n ih =>
  intro u e h
  rcases h.2 with ⟨_,_,rfl⟩ | ⟨_,_,_,_,b⟩ | ⟨_,_,_,vals,k,loc,mode,_,h0,hk0,hke,_,hs,_⟩
  .exact h.1.1
  .exact ih b
  .have:=ih (hs (vals - 1) (by omega)).2.2
   grind
theorem GW.more {t t':A2} {l:List AJ} (h:YV t t' l):∀ {n u e:Nat},GW t n u e->(∀ x∈l,x.up < (u:Int)\/(e:Int)<=x.up)->GW t' n u e:=by
 intro n
 induction n with
 | zero=>intro u e b;exact b.elim
 | succ n ih =>
  intro u e b hx
  have hlt:=b.lt
  have hle:=b.le
  have hl:=h.len
  obtain ⟨⟨i1,i2,i3⟩,b⟩:=b
  have hu:t'.at u=t.at u:=DS h.n i1
  have hc:∀ a,BY t' a u=BY t a u:=fun a=>A1B h i1 fun x hx' e'=>by rcases hx x hx' with h1 | h1<;>omega
  refine ⟨⟨by omega,by rw [hu];exact i2,by rw [hu,h.r];exact i3⟩,?_⟩
  rcases b with ⟨b1,b2,b3⟩ | ⟨b1,b2,b3,b4,b5⟩ | ⟨b1,b2,b3,vals,k,loc,mode,b4,b5,b6,b7,b8,b9,b10⟩
  .refine .inl ⟨(hc _).trans b1,?_,b3⟩
   unfold A50 G2 at b2 ⊢
   rw [hu,h.r,h.v];exact b2
  .refine .inr (.inl ⟨(hc _).trans b1,by rw [hu];exact b2,by rw [hu];exact b3,?_,ih b5 fun x hx'=>?_⟩)
   .have:=Mn b1
    unfold D5 K1 G2 at b4 ⊢
    rw [hu,DS h.n this,h.l,h.v];exact b4
   grind
  .have hr:=A7N fun v hv=>(b9 v hv).2.2
   refine .inr (.inr ⟨(hc _).trans b1,by rw [hu];exact b2,by rw [hu];exact b3,vals,k,loc,mode,by rw [h.v];exact b4,b5,b6,b7,by unfold K1 at b8 ⊢;rw [h.l];exact b8,fun v hv=>?_,?_⟩)
   .obtain ⟨c1,c2,c3⟩:=b9 v hv
    have h1:=hr 0 v (by omega) (by omega)
    have h2:=hr (v+1) vals (by omega) (by omega)
    refine ⟨(hc _).trans c1,?_,ih c3 fun x hx'=>?_⟩
    .unfold E5 at c2 ⊢
     rw [DS h.n (Mn c1)];exact c2
    grind
   .rcases b10 with b10 | ⟨c1,c2,v,c3,c4⟩
    .exact .inl b10
    .have h1:=hr 0 v (by omega) (by omega)
     have h2:=hr (v+1) vals (by omega) (by omega)
     have h3:=(b9 v c3).2.2.lt
     refine .inr ⟨c1,c2,v,c3,?_⟩
     grind [A0S]
theorem GW.fuel {t:A2}:∀ {n u e:Nat},GW t n u e->GW t (n+1) u e:=by
 intro n
 induction n with
 | zero=>intro u e h;exact h.elim
 | succ n ih =>
  intro u e h
  refine ⟨h.1,?_⟩
  rcases h.2 with b | ⟨b1,b2,b3,b4,b5⟩ | ⟨b1,b2,b3,vals,k,loc,mode,b4,b5,b6,b7,b8,b9,b10⟩
  .exact .inl b
  .grind
  .exact .inr (.inr ⟨b1,b2,b3,vals,k,loc,mode,b4,b5,b6,b7,b8,fun v hv=>⟨(b9 v hv).1,(b9 v hv).2.1,ih (b9 v hv).2.2⟩,b10⟩)
theorem GW.fuel' {t:A2} {n m u e:Nat} (h:GW t n u e) (hm:n<=m):GW t m u e:=by
 induction m with
 | zero=>grind
 | succ m ih =>
  grind [fuel]
abbrev TT (vals:Int) (locs:List ByteArray) (rg:List (List ByteArray)) (ns:List AJ):A2:=⟨vals,locs,rg,ns⟩
def YU (vals:Int) (locs:List ByteArray) (rg:List (List ByteArray)) (ns:List AJ) (n:AJ) (ns':List AJ):Prop :=
 ∃ (f:Bool) (g:List Int) (l:List AJ),ns' = ns++{ n with fin:=f,regs:=g }::l/\(∀ x∈l,(ns.length:Int)<=x.up)/\∃ m,GW (TT vals locs rg ns') m ns.length ns'.length
def J4 (nl:Nat) (vals:Int) (m n:AJ):Bool :=
 (decide (n.kind=4) && decide (n.loc=0) && decide (n.val=0) && !n.rmw && decide (1<=n.mode) && decide (n.mode<=4)) ||
 (decide (n.kind=3) && (decide (0<=n.loc) && decide (n.loc < nl)) && (decide (0<=n.val) && decide (n.val < vals)) &&
  (if n.rmw then decide (0<=n.mode) && decide (n.mode<=4) && decide (m.kind=2) && decide (m.loc=n.loc) && decide (m.mode=n.mode) else decide (n.mode=0) || decide (n.mode=2) || decide (n.mode=4)))
theorem A1r (t:A2) (u:Nat):D5 t u=J4 t.locs.length t.vals (t.at u) (t.at (u+1)):=rfl
theorem Nb {vals:Int} {locs:List ByteArray} {rg:List (List ByteArray)} {a:List AJ} {x:AJ} {b:List AJ}:(TT vals locs rg (a++x::b)).at a.length=x:=by
 simp [A2.at]
theorem AdK {vals:Int} {locs:List ByteArray} {rg:List (List ByteArray)} {a:List AJ} {x y:AJ} {b:List AJ}:(TT vals locs rg (a++x::y::b)).at (a.length+1)=y:=by
 simp [A2.at]
theorem AaC {vals:Int} {locs:List ByteArray} {rg:List (List ByteArray)} {ns:List AJ} {n:AJ} {th:Nat} (ht:n.thread=th) (hth:th < rg.length) {g:List Int} (hg:g.length=(rg.getD th []).length) (hv:∀ v∈g,0<=v/\v < vals) :
  YU vals locs rg ns n (ns++[{ n with fin:=true,regs:=g }]):=by
 refine ⟨true,g,[],rfl,by simp,1,?_⟩
 have ha:(TT vals locs rg (ns++[{ n with fin:=true,regs:=g }])).at ns.length = { n with fin:=true,regs:=g }:=Nb
 have hl:(TT vals locs rg (ns++[{ n with fin:=true,regs:=g }])).nodes.length=ns.length+1:=by simp
 refine ⟨⟨by omega,by rw [ha];show 0<=n.thread;omega,by grind⟩,.inl ⟨?_,?_,by simp⟩⟩
 .unfold BY
  rw [hl];simp
 simp_all [A50,G2]
theorem T0 {n:AJ} (h1:n.fin=false) (h2:n.regs=[]):({ n with fin:=false,regs:=[] }:AJ)=n:=by
 cases n;simp at h1 h2;subst h1;subst h2;rfl
theorem LM {vals:Int} {locs:List ByteArray} {rg:List (List ByteArray)} {ns:List AJ} {n x:AJ} {th:Nat} (ht:n.thread=th) (hth:th < rg.length) (hf:n.fin=false) (hr:n.regs=[]) (hxu:x.up=ns.length) (hxt:x.thread=th)
  (ha:J4 locs.length vals n x=true) {ns':List AJ} (h:YU vals locs rg (ns++[n]) x ns'):YU vals locs rg ns n ns':=by
 obtain ⟨f,g,l,rfl,h1,m,h2⟩:=h
 refine ⟨false,[],{ x with fin:=f,regs:=g }::l,?_,?_,m+1,?_⟩
 .rw [T0 hf hr];simp
 .grind
 .have e:ns++[n]++{ x with fin:=f,regs:=g }::l=ns++n::{ x with fin:=f,regs:=g }::l:=by simp
  rw [e] at h2 ⊢
  have a0:(TT vals locs rg (ns++n::{ x with fin:=f,regs:=g }::l)).at ns.length=n:=Nb
  have a1:(TT vals locs rg (ns++n::{ x with fin:=f,regs:=g }::l)).at (ns.length+1) = { x with fin:=f,regs:=g }:=AdK
  have hl:ns.length+1 < (TT vals locs rg (ns++n::{ x with fin:=f,regs:=g }::l)).nodes.length:=by simp
  refine ⟨⟨by omega,by rw [a0];omega,by grind⟩,.inr (.inl ⟨?_,by rw [a0];exact hf,by rw [a0];exact hr,?_,?_⟩)⟩
  .grind [BY]
  .rw [A1r,a0,a1];exact ha
  .simpa using h2
theorem Pd {vals:Int} {locs:List ByteArray} {rg:List (List ByteArray)} {ns:List AJ} {x y:AJ} {ns':List AJ} (hu:y.up=ns.length) (hr:y.rmw=true) (h:YU vals locs rg (ns++[x]) y ns'):Kp (TT vals locs rg ns') ns.length=true:=by
 obtain ⟨f,g,l,rfl,_⟩:=h
 grind [Nb,Kp]
def Z0 (vals:Int) (locs:List ByteArray) (rg:List (List ByteArray)) (ns:List AJ) (n:AJ) (v:Nat) (loc mode:Int) (rm:Nat->Bool) (nsv:List AJ):Prop :=
 ∃ (l:List AJ) (k:Nat->Nat),nsv=ns++n::l/\(∀ x∈l,(ns.length:Int)<=x.up)/\k 0=ns.length+1/\k v=nsv.length /\
  ∀ j,j < v->BY (TT vals locs rg nsv) (k j) ns.length=true/\E5 (TT vals locs rg nsv) (k j) j loc mode=true/\(∃ m,GW (TT vals locs rg nsv) m (k j) (k (j+1)))/\(rm j=true->Kp (TT vals locs rg nsv) (k j)=true)
theorem M1 {vals:Int} {locs:List ByteArray} {rg:List (List ByteArray)} {ns:List AJ} {n:AJ} {loc mode:Int} {rm:Nat->Bool}:Z0 vals locs rg ns n 0 loc mode rm (ns++[n]) :=
 ⟨[],fun _=>ns.length+1,rfl,by simp,rfl,by simp,fun j hj=>by omega⟩
theorem A9h {t t':A2} {l:List AJ} (h:YV t t' l) {u a:Nat} (hu:u < t.nodes.length) (ha:a < t.nodes.length):BY t' a u=BY t a u:=by
 unfold BY
 have:=h.len
 rw [DS h.n ha,DS h.n hu,decide_eq_true ha,decide_eq_true (show a < t'.nodes.length by omega)]
theorem AgB {t:A2} {k:Nat->Nat} {v:Nat} (h:∀ j,j < v->∃ m,GW t m (k j) (k (j+1))):∀ i j,i<=j->j<=v->k i<=k j:=by
 intro i j hij hj
 induction j with
 | zero=>grind
 | succ j ih =>
  by_cases e:i=j+1
  .subst e;exact Nat.le_refl _
  .have h1:=ih (by omega) (by omega)
   obtain ⟨m,h2⟩:=h j (by omega)
   have:=h2.lt
   omega
theorem Jn {vals:Int} {locs:List ByteArray} {rg:List (List ByteArray)} {ns:List AJ} {n x:AJ} {v:Nat} {loc mode:Int} {rm:Nat->Bool} {nsv ns':List AJ} (h:Z0 vals locs rg ns n v loc mode rm nsv)
  (hxu:x.up=ns.length) (hxt:x.thread=n.thread) (hk:x.kind=2) (hv:x.val=v) (hl:x.loc=loc) (hm:x.mode=mode) (hr:x.rmw=false) (hg:YU vals locs rg nsv x ns') (hrm:rm v=true->Kp (TT vals locs rg ns') nsv.length=true) :
  Z0 vals locs rg ns n (v+1) loc mode rm ns':=by
 obtain ⟨l,k,rfl,h1,h2,h3,h4⟩:=h
 obtain ⟨f,g,l',rfl,g1,m',g2⟩:=hg
 have mo:YV (TT vals locs rg (ns++n::l)) (TT vals locs rg ((ns++n::l)++{ x with fin:=f,regs:=g }::l')) ({ x with fin:=f,regs:=g }::l'):=⟨rfl,rfl,rfl,rfl⟩
 have hlen:(TT vals locs rg (ns++n::l)).nodes.length=(ns++n::l).length:=rfl
 have ru:=AgB (t:=TT vals locs rg (ns++n::l)) (k:=k) (v:=v) fun j hj=>(h4 j hj).2.2.1
 have hnl:ns.length < (ns++n::l).length:=by simp
 refine ⟨l++{ x with fin:=f,regs:=g }::l',fun j=>if j<=v then k j else ((ns++n::l)++{ x with fin:=f,regs:=g }::l').length,by simp,?_,by simp [h2],if_neg (by omega),?_⟩
 .grind
 .intro j hj
  dsimp only
  rw [if_pos (show j<=v by omega)]
  by_cases e:j=v
  .subst e
   rw [h3,if_neg (by omega)]
   grind [Nb,BY,E5]
  .rw [if_pos (show j+1<=v by omega)]
   obtain ⟨c1,c2,⟨m,c3⟩,c4⟩:=h4 j (by omega)
   have c0:=Mn c1
   have r1:=ru (j+1) v (by omega) (Nat.le_refl _)
   have r0:=ru 0 j (by omega) (by omega)
   have r2:=c3.lt
   rw [h3] at r1
   rw [h2] at r0
   have hx:∀ y∈({ x with fin:=f,regs:=g }::l':List AJ),y.up < (k j:Int)\/(k (j+1):Int)<=y.up:=by
    grind
   refine ⟨?_,?_,⟨m,c3.more mo hx⟩,fun h=>?_⟩
   .grind [A9h]
   .unfold E5 at c2 ⊢
    rw [DS mo.n c0];exact c2
   grind [A0S]
theorem Aaz {t:A2} {k:Nat->Nat}:∀ v,(∀ j,j < v->∃ m,GW t m (k j) (k (j+1)))->∃ M,∀ j,j < v->GW t M (k j) (k (j+1)):=by
 intro v
 induction v with
 | zero=>simp_all
 | succ v ih =>
  intro h
  obtain ⟨M,hM⟩:=ih fun j hj=>h j (by omega)
  obtain ⟨m,hm⟩:=h v (by omega)
  refine ⟨max M m,fun j hj=>?_⟩
  by_cases e:j=v
  .subst e;exact hm.fuel' (Nat.le_max_right _ _)
  .exact (hM j (by omega)).fuel' (Nat.le_max_left _ _)
theorem Ni {vals:Nat} {locs:List ByteArray} {rg:List (List ByteArray)} {ns:List AJ} {n:AJ} {th:Nat} (ht:n.thread=th) (hth:th < rg.length) (hf:n.fin=false) (hr:n.regs=[]) {loc mode:Int} {rm:Nat->Bool} {nsv:List AJ} (hv:0 < vals) (hl:0<=loc/\loc < locs.length)
  (hm:(mode=0\/mode=1\/mode=4)\/(0<=mode/\mode<=4/\∃ v,v < vals/\rm v=true)) (h:Z0 vals locs rg ns n vals loc mode rm nsv):YU vals locs rg ns n nsv:=by
 obtain ⟨l,k,rfl,h1,h2,h3,h4⟩:=h
 refine ⟨false,[],l,by rw [T0 hf hr],h1,?_⟩
 obtain ⟨M,hM⟩:=Aaz vals fun j hj=>(h4 j hj).2.2.1
 have a0:(TT vals locs rg (ns++n::l)).at ns.length=n:=Nb
 have c0:=(h4 0 hv).1
 rw [h2] at c0
 refine ⟨M+1,⟨by have:=Mn c0;omega,by rw [a0];omega,by grind⟩,.inr (.inr ⟨c0,by rw [a0];exact hf,by rw [a0];exact hr,vals,k,loc,mode,rfl,hv,h2,h3,?_,fun v hv=>⟨(h4 v hv).1,(h4 v hv).2.1,hM v hv⟩,?_⟩)⟩
 .simp [K1,hl.1,hl.2]
 grind
def Thr (vals:Int) (locs:List ByteArray) (rg:List (List ByteArray)) (i:Nat) (ns:List AJ):Prop :=
 (locs.length<=ns.length/\∀ j,j < locs.length->Hx (TT vals locs rg ns) j=true)/\∃ s:Nat->Nat,s 0=locs.length/\s i=ns.length /\
  ∀ j,j < i->DT (TT vals locs rg ns) (s j) j=true/\∃ m,GW (TT vals locs rg ns) m (s j) (s (j+1))
theorem AcW {vals:Int} {locs:List ByteArray} {rg:List (List ByteArray)} {i:Nat} {ns ns':List AJ} {x:AJ} (h:Thr vals locs rg i ns) (hx:x = ⟨i,-1,1,0,0,0,false,false,[]⟩) (hg:YU vals locs rg ns x ns'):Thr vals locs rg (i+1) ns':=by
 subst hx
 obtain ⟨⟨h1,h2⟩,s,s0,si,hs⟩:=h
 obtain ⟨f,g,l,rfl,g1,m,g2⟩:=hg
 let x':AJ:=⟨i,-1,1,0,0,0,false,f,g⟩
 have mo:YV (TT vals locs rg ns) (TT vals locs rg (ns++x'::l)) (x'::l):=⟨rfl,rfl,rfl,rfl⟩
 have hl:(TT vals locs rg ns).nodes.length=ns.length:=rfl
 have ru:=AgB (t:=TT vals locs rg ns) (k:=s) (v:=i) fun j hj=>(hs j hj).2
 refine ⟨⟨by simp;omega,fun j hj=>?_⟩,fun j=>if j<=i then s j else (ns++x'::l).length,by simp [s0],if_neg (by omega),fun j hj=>?_⟩
 .have:=h2 j hj
  unfold Hx G2 at this ⊢
  rw [DS mo.n (by rw [hl];omega)]
  exact this
 .dsimp only
  rw [if_pos (show j<=i by omega)]
  by_cases e:j=i
  .subst e
   rw [si,if_neg (by omega)]
   grind [DT,Nb]
  .rw [if_pos (show j+1<=i by omega)]
   obtain ⟨b1,m2,b2⟩:=hs j (by omega)
   have r1:=ru (j+1) i (by omega) (Nat.le_refl _)
   have r2:=b2.lt
   rw [si] at r1
   refine ⟨?_,m2,b2.more mo fun y hy=>?_⟩
   .unfold DT at b1 ⊢
    rw [DS mo.n (by rw [hl];omega)];exact b1
   grind
def S2 (ini:List (ByteArray×Int)) (k:Nat):List AJ:=(List.range k).map fun (i:Nat)=>(⟨-1,-1,3,(i:Int),0,(ini.getD i default).2,false,false,[]⟩:AJ)
theorem Mw (ini:List (ByteArray×Int)) (k:Nat):(S2 ini k).length=k:=by simp [S2]
theorem A7M (ini:List (ByteArray×Int)) (k:Nat):S2 ini (k+1)=S2 ini k++[⟨-1,-1,3,k,0,(ini.getD k default).2,false,false,[]⟩]:=by
 grind [S2,range_succ]
theorem AcX {vals:Int} {rg:List (List ByteArray)} {ini:List (ByteArray×Int)} (hv:∀ x∈ini,0<=x.2/\x.2 < vals):Thr vals (ini.map (·.1)) rg 0 (S2 ini ini.length):=by
 refine ⟨⟨by simp [Mw],fun j hj=>?_⟩,fun _=>ini.length,by simp,by simp [Mw],fun j hj=>by omega⟩
 grind [S2,A2.at,Ac,Hx,G2]
theorem A8n {vals:Int} {locs:List ByteArray} {rg:List (List ByteArray)} {ns:List AJ} (h:Thr vals locs rg rg.length ns) (v2:2<=vals) (v4:vals<=4) (l4:locs.length<=4) (ln:locs.Nodup) (n64:ns.length<=64) (r1:1<=rg.length) (r4:rg.length<=4) (rl:∀ l∈rg,l.length<=4/\l.Nodup):A9 (TT vals locs rg ns) where
 v2:=v2
 v4:=v4
 l4:=l4
 ln:=ln
 n64:=n64
 r1:=r1
 r4:=r4
 rl:=rl
 first:=h.1
 thr:=h.2
structure YW (t:A2) (m:Nat):Prop where
 thr:0<=(t.at m).thread
 up0 : -1<=(t.at m).up
 up:(t.at m).up < m
 loc:(t.at m).kind=2\/(t.at m).kind=3->K1 t (t.at m).loc=true
 rmw:(t.at m).rmw=true->0<=(t.at m).up/\(t.at (t.at m).up.toNat).kind=2
 par:0<=(t.at m).up->(t.at (t.at m).up.toNat).thread=(t.at m).thread
theorem JS {t:A2} {a u:Nat} (h:BY t a u=true):(t.at a).up=u/\(t.at a).thread=(t.at u).thread:=by
 simp_all [BY]
theorem A7j {t:A2} {u:Nat} (h:D5 t u=true):(t.at (u+1)).kind=2\/(t.at (u+1)).kind=3->K1 t (t.at (u+1)).loc=true:=by
 simp only [D5,or_eq_true,and_eq_true,decide_eq_true_eq] at h
 grind
theorem A7k {t:A2} {u:Nat} (h:D5 t u=true) (hr:(t.at (u+1)).rmw=true):(t.at u).kind=2:=by
 simp_all [D5]
theorem Df {k:Nat->Nat} {m:Nat}:∀ n:Nat,k 0<=m->m < k n->∃ v,v < n/\k v<=m/\m < k (v+1):=by
 intro n
 induction n with
 | zero=>intro h1 h2;omega
 | succ n ih =>
  grind
theorem GW.good {t:A2}:∀ {n u e:Nat},GW t n u e->∀ m,u < m->m < e->YW t m:=by
 intro n
 induction n with
 | zero=>grind [GW]
 | succ n ih =>
  intro u e h m h1 h2
  obtain ⟨⟨_,ht,_⟩,h⟩:=h
  rcases h with ⟨_,_,rfl⟩ | ⟨c,_,_,al,hb⟩ | ⟨c,_,_,vals,k,loc,mode,_,_,hk0,hke,hloc,hs,_⟩
  .omega
  .by_cases e1:m=u+1
   .subst e1
    obtain ⟨p,q⟩:=JS c
    exact ⟨by omega,by omega,by omega,A7j al,fun hr=>⟨by omega,by grind [A7k]⟩,fun _=>by rw [p,toNat_natCast];exact q.symm⟩
   .exact ih hb m (by omega) h2
  .obtain ⟨v,hv,a,b⟩:=Df (k:=k) (m:=m) vals (by omega) (by omega)
   obtain ⟨s1,s2,s3⟩:=hs v hv
   by_cases e1:m=k v
   .subst e1
    obtain ⟨p,q⟩:=JS s1
    simp only [E5,and_eq_true,decide_eq_true_eq] at s2
    exact ⟨by omega,by omega,by omega,fun _=>by rw [s2.1.1.2];exact hloc,fun hr=>by rw [hr] at s2;simp at s2,fun _=>by rw [p,toNat_natCast];exact q.symm⟩
   .exact ih s3 m (by omega) b
theorem A9.good {t:A2} (h:A9 t) (m:Nat) (h1:t.locs.length<=m) (h2:m < t.nodes.length):YW t m:=by
 obtain ⟨s,h0,he,hs⟩:=h.thr
 obtain ⟨v,hv,a,b⟩:=Df (k:=s) (m:=m) t.regs.length (by omega) (by omega)
 obtain ⟨hb,n,hn⟩:=hs v hv
 by_cases e1:m=s v
 .subst e1
  simp only [DT,and_eq_true,decide_eq_true_eq] at hb
  have k1:=hb.1.1.1.1.2
  have k3:=hb.1.1.1.1.1.2
  have k4:=hb.2
  exact ⟨by omega,by omega,by omega,fun k=>by omega,fun hr=>by simp_all,fun h0=>by omega⟩
 .exact hn.good m (by omega) b
structure A8C (t:A2) (i:Nat):Prop where
 thr:(t.at i).thread = -1
 up:(t.at i).up = -1
 kind:(t.at i).kind=3
 loc:(t.at i).loc=i
theorem A9.init {t:A2} (h:A9 t) (i:Nat) (hi:i < t.locs.length):A8C t i:=by
 have:=h.first.2 i hi
 simp only [Hx,and_eq_true,decide_eq_true_eq] at this
 obtain ⟨⟨⟨⟨⟨⟨⟨⟨a,b⟩,c⟩,d⟩,_⟩,_⟩,_⟩,_⟩,_⟩:=this
 exact ⟨a,b,c,d⟩
theorem A9.up {t:A2} (h:A9 t):HZ t:=by
 intro i hi
 by_cases c:i < t.locs.length
 .rw [(h.init i c).up];omega
 .exact (h.good i (by omega) hi).up
theorem A9.wloc {t:A2} (h:A9 t) {m:Nat} (hm:m < t.nodes.length) (hk:(t.at m).kind=2\/(t.at m).kind=3):0<=(t.at m).loc/\(t.at m).loc < t.locs.length:=by
 by_cases c:m < t.locs.length
 .rw [(h.init m c).loc];omega
 .have:=(h.good m (by omega) hm).loc hk
  simp_all [K1]
theorem A9.thr_iff {t:A2} (h:A9 t) {m:Nat} (hm:m < t.nodes.length):(t.at m).thread < 0↔m < t.locs.length:=by
 by_cases c:m < t.locs.length
 .rw [(h.init m c).thr];omega
 .have:=(h.good m (by omega) hm).thr
  omega
def U3 (t:A2):Nat->Nat->Int
 | 0,_=>0
 | n+1,i=>if (t.at i).up < 0 then 0 else U3 t n (t.at i).up.toNat+1
def Yi (t:A2):Nat->Nat->BitVec 64
 | 0,_=>0#64
 | n+1,i=>if (t.at i).up < 0 then 0#64 else Yi t n (t.at i).up.toNat ||| BK (t.at i).up
def PC (t:A2) (i:Nat):Int:=U3 t (i+1) i
def ovr (t:A2) (i:Nat):BitVec 64:=Yi t (i+1) i
theorem A7v {t:A2} (h:HZ t):∀ (n i:Nat),i < n->i < t.nodes.length->U3 t (n+1) i=U3 t n i:=by
 intro n
 induction n with
 | zero=>intro i hi;omega
 | succ n ih =>
  intro i hi hl
  rw [U3]
  conv=>rhs;rw [U3]
  by_cases c:(t.at i).up < 0
  .rw [if_pos c,if_pos c]
  .rw [if_neg c,if_neg c]
   have:=h i hl
   rw [ih _ (by omega) (by omega)]
theorem A7Z {t:A2} (h:HZ t):∀ (n i:Nat),i < n->i < t.nodes.length->Yi t (n+1) i=Yi t n i:=by
 intro n
 induction n with
 | zero=>intro i hi;omega
 | succ n ih =>
  intro i hi hl
  rw [Yi]
  conv=>rhs;rw [Yi]
  by_cases c:(t.at i).up < 0
  .rw [if_pos c,if_pos c]
  .rw [if_neg c,if_neg c]
   have:=h i hl
   rw [ih _ (by omega) (by omega)]
theorem AdS {t:A2} (h:HZ t) {i:Nat} (hl:i < t.nodes.length):∀ k,U3 t (i+1+k) i=PC t i:=by
 intro k
 induction k with
 | zero=>rfl
 | succ k ih=>grind [A7v]
theorem Aft {t:A2} (h:HZ t) {i:Nat} (hl:i < t.nodes.length):∀ k,Yi t (i+1+k) i=ovr t i:=by
 intro k
 induction k with
 | zero=>rfl
 | succ k ih=>grind [A7Z]
theorem A1F {t:A2} (h:HZ t) {i u:Nat} (hl:i < t.nodes.length) (hu:(t.at i).up=u):PC t i=PC t u+1:=by
 have:=h i hl
 rw [PC,U3,if_neg (by omega),hu,toNat_natCast,<- AdS h (by omega) (i - (u+1))]
 grind
theorem Acn {t:A2} (h:HZ t) {i u:Nat} (hl:i < t.nodes.length) (hu:(t.at i).up=u):ovr t i=ovr t u ||| BK u:=by
 have:=h i hl
 rw [ovr,Yi,if_neg (by omega),hu,toNat_natCast,<- Aft h (by omega) (i - (u+1))]
 grind
theorem A9n {t:A2} {i:Nat} (hu:(t.at i).up < 0):PC t i=0:=by rw [PC,U3,if_pos hu]
theorem Acm {t:A2} {i:Nat} (hu:(t.at i).up < 0):ovr t i=0#64:=by rw [ovr,Yi,if_pos hu]
theorem DU {t:A2} (h:HZ t) (a:Int) {x:Int} (hx:x < t.nodes.length):L0 t a t.nodes.length x=if x < 0 then false else if x=a then true else L0 t a t.nodes.length (t.at x.toNat).up:=by
 rw [<- SE h a t.nodes.length x hx hx,L0]
theorem Aef (s r:BitVec 64) (x:Int):B1 (s ||| r) x=(B1 s x || B1 r x):=by
 grind [B1]
theorem AaD (i:Nat) (x:Nat) (hx:x < 64):B1 (BK i) (x:Int)=decide (x=i):=by
 grind [AD,Cb]
theorem Zi {t:A2} (h:HZ t) {a:Nat} (ha:a < 64):∀ (n b:Nat),b < n->b < t.nodes.length->B1 (ovr t b) a=Az t a b/\(Az t a b=true->PC t a < PC t b):=by
 intro n
 induction n with
 | zero=>intro b hb;omega
 | succ n ih =>
  intro b hb hl
  have hup:=h b hl
  unfold Az
  by_cases c:(t.at b).up < 0
  .rw [Acm c,DU h a (by omega),if_pos c]
   grind [B1]
  .obtain ⟨u,hu⟩:=eq_ofNat_of_zero_le (show 0<=(t.at b).up by omega)
   have hub:u < b:=by omega
   obtain ⟨i1,i2⟩:=ih u (by omega) (by omega)
   unfold Az at i1 i2
   rw [Acn h hl hu,A1F h hl hu,hu,DU h a (by omega),if_neg (by omega),Aef,AaD _ _ ha,i1,toNat_natCast]
   grind
theorem Ahx {t:A2} (h:HZ t):∀ (n i:Nat),i < n->i < t.nodes.length->0<=PC t i/\PC t i<=i:=by
 intro n
 induction n with
 | zero=>intro i hi;omega
 | succ n ih =>
  intro i hi hl
  have hup:=h i hl
  by_cases c:(t.at i).up < 0
  .rw [A9n c];omega
  grind [eq_ofNat_of_zero_le,A1F]
def Ahw (t:A2):List Int:=(List.range t.nodes.length).map (PC t)
def Ajo (t:A2):List (BitVec 64):=(List.range t.nodes.length).map (ovr t)
theorem Mo {t:A2} {i:Nat} (h:i < t.nodes.length):(Ahw t)[i]? = some (PC t i):=by simp [Ahw,h]
theorem Acl {t:A2} {i:Nat} (h:i < t.nodes.length):(Ajo t)[i]? = some (ovr t i):=by simp [Ajo,h]
theorem U2 {t:A2} (h:HZ t) (hn:t.nodes.length<=64) {a b:Nat} (ha:a < t.nodes.length) (hb:b < t.nodes.length):(decide (PC t a < PC t b) && B1 (ovr t b) a)=Az t a b:=by
 grind [Zi]
theorem A71 {α:Type} {n k j:Nat} {f:Nat->α} {z:α} (h:j < k) (hn:j < n):(CO n k f z)[j]? = some (f j):=by
 simp [CO,hn,h]
theorem Tp {α:Type} {n k:Nat} {f:Nat->α} {z:α} (h:f k=z):CO n k f z=CO n (k+1) f z:=by
 unfold CO
 grind
theorem Aax (j:Nat) (hj:j < 64):∀ (l:List Int) (s:BitVec 64),(l.foldl (fun s i=>s ||| BK i) s).getLsbD j=(s.getLsbD j || B9 l (j:Int)):=by
 intro l
 induction l with
 | nil=>intro s;simp [B9]
 | cons x l ih =>
  intro s
  rw [List.foldl_cons,ih,getLsbD_or,Cb]
  have e:B9 (x::l) (j:Int)=(decide ((j:Int)=x) || B9 l (j:Int)):=rfl
  grind
theorem PW (l:List Int) {x:Int} (h0:0<=x) (h1:x < 64):B1 (CP l) x=B9 l x:=by
 obtain ⟨j,rfl⟩:=eq_ofNat_of_zero_le h0
 grind [AD,CP,Aax]
theorem Cu {s:BitVec 64} {x:Int} (h:B1 s x=true):0<=x/\x < 64:=by
 simp only [B1,and_eq_true,decide_eq_true_eq] at h
 grind
def Cq (t:A2) (l:List Int):Prop:=∀ n∈l,BU t n=true
theorem Cq.has {t:A2} (ht:t.nodes.length<=64) {l:List Int} (h:Cq t l) (x:Int):B1 (CP l) x=B9 l x:=by
 by_cases c:0<=x/\x < 64
 .exact PW l c.1 c.2
 .have e1:B1 (CP l) x=false:=by
   rw [<- Bool.not_eq_true]
   exact fun h=>c (Cu h)
  have e2:B9 l x=false:=by
   rw [<- Bool.not_eq_true]
   intro h'
   obtain ⟨m,rfl,hm⟩:=A7 (h x (Af.1 h'))
   exact c ⟨by omega,by omega⟩
  rw [e1,e2]
def Br (t:A2) (has:List Int) (n loc:Int):Bool:=B9 has n && GY t n loc
def DV (t:A2) (l has:List Int) (loc:Int) (i:Nat):Bool :=
 Br t has (l.getD i 0) loc && decide (0<=(t.at (l.getD i 0).toNat).thread) && CN l i && (!decide (1 < l.length) || CV (t.at (l.getD i 0).toNat)) && (decide (i=0) || (l.take i).all fun m=>AZ t (l.getD i 0) m)
def En (t:A2) (l has:List Int) (loc:Int):Bool:=(List.range l.length).all (DV t l has loc) && decide (0 < l.length)
theorem Kt {l:List Int} {p:Int->Bool}:∀ i,i<=l.length->(l.take i).all p=(List.range i).all fun k=>p (l.getD k 0):=by
 intro i
 induction i with
 | zero=>intro _;rfl
 | succ i ih =>
  grind [List.take_succ_eq_append_getElem,range_succ]
theorem A7q (t:A2) (l has:List Int) (loc:Int):En t l has loc=Dd t l has loc:=by
 rw [Bool.eq_iff_iff]
 simp only [En,Dd,and_eq_true,not_eq_true',decide_eq_true_eq,decide_eq_false_iff_not,Aw]
 constructor
 .rintro ⟨h1,h2⟩
  refine ⟨by omega,fun i hi=>?_⟩
  have:=h1 i hi
  simp only [DV,Br,and_eq_true,or_eq_true,decide_eq_true_eq] at this
  obtain ⟨⟨⟨⟨⟨a,b⟩,c⟩,d⟩,e⟩,f⟩:=this
  simp only [BO,and_eq_true,decide_eq_true_eq]
  refine ⟨⟨⟨⟨a,d⟩,b⟩,c⟩,?_⟩
  rw [<- Kt (p:=fun m=>AZ t (l.getD i 0) m) i (by omega)]
  grind
 .rintro ⟨h1,h2⟩
  refine ⟨fun i hi=>?_,by omega⟩
  have hp:1 < l.length->CV (t.at (l.getD i 0).toNat)=true:=by
   intro hl
   by_cases i0:i=0
   .subst i0
    have:=h2 1 hl
    simp_all [BO,AZ]
   .have:=h2 i hi
    simp only [BO,and_eq_true,Aw] at this
    have:=this.2 0 (by omega)
    simp_all [AZ]
  have:=h2 i hi
  simp only [BO,and_eq_true,decide_eq_true_eq] at this
  obtain ⟨⟨⟨⟨a,d⟩,b⟩,c⟩,f⟩:=this
  simp only [DV,Br,and_eq_true,or_eq_true,decide_eq_true_eq,not_eq_true',decide_eq_false_iff_not]
  grind [Kt]
def KZ (m:List (List Int)) (loc:Nat):List Int:=(loc:Int)::(m.drop 1).flatten
def G5 (t:A2) (s:A6) (loc:Nat):Nat:=(s.has.filter fun n=>Br t s.has n loc).length
def Ln (t:A2) (s:A6) (loc:Nat):Bool :=
 let m:=s.mo.getD loc []
 !decide (m.length=0) && decide (m.getD 0 []=[(loc:Int)]) && (m.drop 1).all (fun c=>En t c s.has loc) && decide ((KZ m loc).length=G5 t s loc) && decide ((Ca (CP (KZ m loc))).length=G5 t s loc)
def E0 (t:A2) (s:A6):Bool:=decide (s.mo.length=t.locs.length) && (List.range s.mo.length).all (Ln t s)
def Lj (t:A2) (s:A6):Bool:=decide (s.jf.length=s.has.length) && (List.range s.has.length).all (GD t s)
theorem Lm:∀ (l m:List Int),l.Nodup->(∀ x∈l,x∈m)->l.length<=m.length:=by
 intro l
 induction l with
 | nil=>intro m _ _;simp
 | cons x l ih =>
  intro m hn hs
  have hx:=hs x List.mem_cons_self
  have h1:x∉l:=(List.nodup_cons.1 hn).1
  have:=ih (m.erase x) (List.nodup_cons.1 hn).2 fun y hy=>by
   grind
  grind
theorem Aji {l m:List Int} (hn:l.Nodup) (hs:∀ x∈l,x∈m) (hl:m.length<=l.length):∀ x∈m,x∈l:=by
 intro x hx
 refine Classical.byContradiction fun hc=>?_
 have:=Lm l (m.erase x) hn fun y hy=>(List.mem_erase_of_ne fun (e:y=x)=>hc (e ▸ hy)).2 (hs y hy)
 grind
theorem Amq:∀ (l S:List Int),S.Nodup->(∀ x∈S,x∈l)->l.length<=S.length->l.Nodup:=by
 intro l
 induction l with
 | nil=>intro S _ _ _;exact List.nodup_nil
 | cons x l ih =>
  intro S hn hs hl
  by_cases hx:x∈l
  .have:=Lm S l hn fun y hy=>by
    grind
   grind
  .refine List.nodup_cons.2 ⟨hx,ih (S.erase x) (hn.erase x) (fun y hy=>?_) ?_⟩
   .grind
   grind
theorem A7r (n:Int):∀ (m:List (List Int)),(∀ c∈m,c.Nodup)->(m.filter fun c=>B9 c n).length=m.flatten.count n:=by
 intro m
 induction m with
 | nil=>intro _;rfl
 | cons c m ih =>
  intro h
  have h1:=h c List.mem_cons_self
  have h2:=ih fun d hd=>h d (List.mem_cons_of_mem _ hd)
  rw [List.flatten_cons,List.count_append,<- h2,List.filter_cons]
  cases e:B9 c n with
  | true =>
   have hm:n∈c:=Af.1 e
   grind
  | false =>
   grind [Af]
theorem Ajv {l:List Int} (h:∀ i,i < l.length->CN l i=true):∀ j,j < l.length->∀ i,i < j->l.getD i 0 < l.getD j 0:=by
 intro j
 induction j with
 | zero=>intro _ i hi;omega
 | succ j ih =>
  intro hj i hi
  have h1:=h (j+1) hj
  simp only [CN,or_eq_true,decide_eq_true_eq,Nat.add_sub_cancel] at h1
  grind
theorem KT {l:List Int} (h:∀ i,i < l.length->CN l i=true):l.Nodup:=by
 rw [List.nodup_iff_pairwise_ne,List.pairwise_iff_getElem]
 intro i j hi hj hij e
 have:=Ajv h j hj i hij
 grind
theorem A03 (w:BitVec 64):(Ca w).Nodup:=List.Nodup.sublist List.filter_sublist List.nodup_range
theorem AcK {t:A2} (h64:t.nodes.length<=64) {l:List Int} (h:Cq t l) (x:Int):x∈(Ca (CP l)).map (fun (j:Nat)=>(j:Int))↔x∈l:=by
 constructor
 .intro hx
  obtain ⟨j,hj,rfl⟩:=List.mem_map.1 hx
  obtain ⟨j1,j2⟩:=A02 hj
  have:=h.has h64 (j:Int)
  grind [AD,Af]
 .intro hx
  obtain ⟨m,rfl,hm⟩:=A7 (h x hx)
  refine List.mem_map.2 ⟨m,KL.2 ?_,rfl⟩
  have:=h.has h64 (m:Int)
  grind [AD,Af]
theorem A4s (w:BitVec 64):((Ca w).map fun (j:Nat)=>(j:Int)).Nodup:=by
 grind [A03]
theorem Acj {t:A2} (h64:t.nodes.length<=64) {all W:List Int} (ha:Cq t all) (hw:W.Nodup) (hs:∀ x∈all,x∈W) :
  (all.length=W.length/\(Ca (CP all)).length=W.length)↔∀ n∈W,all.count n=1:=by
 have hS:=A4s (CP all)
 have hm:=fun x=>AcK h64 ha x
 have hl:((Ca (CP all)).map fun (j:Nat)=>(j:Int)).length=(Ca (CP all)).length:=List.length_map ..
 generalize ((Ca (CP all)).map fun (j:Nat)=>(j:Int))=S at *
 rw [<- hl]
 constructor
 .grind [Amq,Aji]
 .intro h
  have nd:all.Nodup:=by
   grind
  have hmem:∀ x∈W,x∈all:=fun x hx=>List.count_pos_iff.1 (by rw [h x hx];decide)
  have a1:=Lm all W nd hs
  have a2:=Lm W all hw hmem
  have a3:=Lm all S nd fun x hx=>(hm x).2 hx
  have a4:=Lm S all hS fun x hx=>(hm x).1 hx
  omega
theorem MG {t:A2} {l:List Int} (h:C8 t l=true):Cq t l/\l.Nodup/\(GA t ||| CP l=CP l):=by
 simp only [C8,and_eq_true,decide_eq_true_eq] at h
 have hr:=Aw.1 h.1
 refine ⟨fun n hn=>?_,KT fun i hi=>?_,h.2⟩
 .obtain ⟨k,hk,rfl⟩:=List.mem_iff_getElem.1 hn
  simp_all [C6]
 simp_all [C6]
theorem Aeh {t:A2} (ht:A9 t) {l:List Int} (h:C8 t l=true) {k:Nat} (hk:k < t.locs.length):(k:Int)∈l:=by
 obtain ⟨hn,_,hi⟩:=MG h
 have hkn:k < t.nodes.length:=Nat.lt_of_lt_of_le hk ht.first.1
 have h64:=ht.n64
 have e:(GA t).getLsbD k=true:=by
  unfold GA
  rw [AE,decide_eq_true hkn,(ht.init k hk).up,decide_eq_true (show k < 64 by omega)];rfl
 have e2:(CP l).getLsbD k=true:=by rw [<- hi,getLsbD_or,e];rfl
 have:=hn.has h64 (k:Int)
 grind [AD,Af]
theorem TU {t:A2} {l has:List Int} {loc:Int} (h:Dd t l has loc=true):l.Nodup/\∀ n∈l,Br t has n loc=true:=by
 simp only [Dd,and_eq_true] at h
 have hr:=Aw.1 h.2
 refine ⟨KT fun i hi=>?_,fun n hn=>?_⟩
 .simp_all [BO]
 .obtain ⟨k,hk,rfl⟩:=List.mem_iff_getElem.1 hn
  simp_all [BO,Br]
theorem A0a {t:A2} {s:A6} {k:Nat}:GI t s k=true↔∃ D,s.mo.getD k []=[(k:Int)]::D/\∀ c∈D,Dd t c s.has k=true:=by
 simp only [GI,and_eq_true,not_eq_true',decide_eq_false_iff_not,decide_eq_true_eq,Aw,or_eq_true]
 generalize s.mo.getD k []=m
 constructor
 .rintro ⟨⟨h1,h2⟩,h3⟩
  rcases m with _ | ⟨c,D⟩
  .simp at h1
  .refine ⟨D,by rw [show c=[(k:Int)] from h2],fun d hd=>?_⟩
   obtain ⟨j,hj,rfl⟩:=List.mem_iff_getElem.1 hd
   have:=h3 (j+1) (by simp;omega)
   grind
 grind
theorem Rf {t:A2} {s:A6} {k:Nat}:Ln t s k=true↔∃ D,s.mo.getD k []=[(k:Int)]::D/\(∀ c∈D,Dd t c s.has k=true)/\((s.mo.getD k []).flatten.length=G5 t s k/\(Ca (CP (s.mo.getD k []).flatten)).length=G5 t s k):=by
 simp only [Ln,and_eq_true,not_eq_true',decide_eq_false_iff_not,decide_eq_true_eq,List.all_eq_true,A7q]
 generalize s.mo.getD k []=m
 constructor
 .rintro ⟨⟨⟨⟨h1,h2⟩,h3⟩,h4⟩,h5⟩
  rcases m with _ | ⟨c,D⟩
  .simp at h1
  .have e:c=[(k:Int)]:=h2
   subst e
   exact ⟨D,rfl,h3,h4,h5⟩
 .rintro ⟨D,rfl,h3,h4,h5⟩
  exact ⟨⟨⟨⟨by simp,rfl⟩,h3⟩,h4⟩,h5⟩
theorem A6G {t:A2} (ht:A9 t) {s:A6} (hn:C8 t s.has=true) {i:Nat} (hi:i < s.has.length):Kd t s i=true↔((t.at (s.has.getD i 0).toNat).kind=3->((s.mo.getD (t.at (s.has.getD i 0).toNat).loc.toNat []).filter fun c=>B9 c (s.has.getD i 0)).length=1):=by
 simp only [Kd,or_eq_true,not_eq_true',decide_eq_false_iff_not,decide_eq_true_eq]
 omega
theorem Abr (t:A2) (ht:A9 t) (s:A6):(C8 t s.has && Lj t s && E0 t s)=Bd t s:=by
 cases hn:C8 t s.has with
 | false=>simp [Bd,hn]
 | true =>
 obtain ⟨hN,hnd,_⟩:=MG hn
 have h64:=ht.n64
 by_cases hm:¬ s.mo.length=t.locs.length
 .simp [Bd,E0,hm]
 have hm:=Decidable.not_not.1 hm
 rw [Bool.eq_iff_iff]
 simp only [Bd,E0,Lj,hn,decide_eq_true hm,Bool.true_and,Bool.and_true,and_eq_true,decide_eq_true_eq]
 have key:(∀ k,k < s.mo.length->Ln t s k=true)↔((∀ k,k < s.mo.length->GI t s k=true)/\∀ i,i < s.has.length->Kd t s i=true):=by
  have W:∀ k,k < s.mo.length->∀ D,s.mo.getD k []=[(k:Int)]::D->(∀ c∈D,Dd t c s.has k=true) ->
    (((s.mo.getD k []).flatten.length=G5 t s k/\(Ca (CP (s.mo.getD k []).flatten)).length=G5 t s k)↔∀ n∈s.has,Br t s.has n k=true->((s.mo.getD k []).filter fun c=>B9 c n).length=1):=by
   intro k hk D hD hc
   have hk':k < t.locs.length:=by omega
   have hin:=Aeh ht hn hk'
   have hwk:Br t s.has k k=true:=by
    simp only [Br,GY,and_eq_true,decide_eq_true_eq,toNat_natCast]
    exact ⟨Af.2 hin,(ht.init k hk').kind,(ht.init k hk').loc⟩
   have hcw:∀ c∈s.mo.getD k [],c.Nodup/\∀ n∈c,Br t s.has n k=true:=by
    intro c hcm
    rw [hD] at hcm
    rcases List.mem_cons.1 hcm with rfl | h
    .grind
    .exact TU (hc c h)
   have hsub:∀ x∈(s.mo.getD k []).flatten,x∈s.has.filter fun n=>Br t s.has n k:=by
    intro x hx
    obtain ⟨c,hc1,hc2⟩:=List.mem_flatten.1 hx
    have:=(hcw c hc1).2 x hc2
    simp_all [Br,Af]
   have hNa:Cq t (s.mo.getD k []).flatten:=fun x hx=>hN x (List.mem_filter.1 (hsub x hx)).1
   have:=Acj h64 (W:=s.has.filter fun n=>Br t s.has n k) hNa (List.Nodup.sublist List.filter_sublist hnd) hsub
   rw [show G5 t s k=(s.has.filter fun n=>Br t s.has n k).length from rfl,this]
   simp_all [A7r]
  constructor
  .intro h
   refine ⟨fun k hk=>?_,fun i hi=>?_⟩
   .grind [Rf,A0a]
   .rw [A6G ht hn hi]
    intro k3
    have hmem:s.has.getD i 0∈s.has:=Ac hi
    obtain ⟨m,hm1,hm2⟩:=A7 (hN _ hmem)
    rw [hm1,toNat_natCast] at k3 ⊢
    obtain ⟨l1,l2⟩:=ht.wloc hm2 (.inr k3)
    obtain ⟨lc,hlc⟩:=eq_ofNat_of_zero_le l1
    rw [hlc,toNat_natCast]
    have hk:lc < s.mo.length:=by omega
    obtain ⟨D,hD,hc,hl⟩:=Rf.1 (h lc hk)
    refine (W lc hk D hD hc).1 hl m (hm1 ▸ hmem) ?_
    simp only [Br,GY,and_eq_true,decide_eq_true_eq,toNat_natCast]
    grind [Af]
  .rintro ⟨h1,h2⟩ k hk
   obtain ⟨D,hD,hc⟩:=A0a.1 (h1 k hk)
   refine Rf.2 ⟨D,hD,hc,(W k hk D hD hc).2 fun n hn1 hn2=>?_⟩
   obtain ⟨i,hi,rfl⟩:=List.mem_iff_getElem.1 hn1
   have e:s.has.getD i 0=s.has[i]:=by grind
   have:=(A6G ht hn hi).1 (h2 i hi)
   simp_all [Br,GY]
 grind
def Aj (n:Nat) (p:Nat->Nat->Bool):Rows:=(List.range n).map fun a=>BT fun b=>decide (b < n) && p a b
theorem Al {n:Nat} {p:Nat->Nat->Bool}:(Aj n p).length=n:=by simp [Aj]
theorem BA {n:Nat} {p:Nat->Nat->Bool} {a:Nat} (h:a < n):(Aj n p)[a]? = some (BT fun b=>decide (b < n) && p a b):=by simp [Aj,h]
theorem EJ {n:Nat} {p:Nat->Nat->Bool} {a b:Nat} (hn:n<=64) (h:a < n) (hb:b < n):B1 ((Aj n p).getD a 0#64) (b:Int)=p a b:=by
 grind [BA,AD,AE]
def DW (t:A2) (x f:List Int) (i:Nat):Bool :=
 if (t.at (x.getD i 0).toNat).kind=2 then B9 x (f.getD i 0) && GY t (f.getD i 0) (t.at (x.getD i 0).toNat).loc else decide (f.getD i 0 = -1)
def Bh (t:A2) (x:List Int) (i:Nat):Bool:=BU t (x.getD i 0) && CN x i
def CL (t:A2) (x f:List Int):Bool:=decide (x.length=f.length) && (List.range x.length).all (Bh t x) && (List.range x.length).all (DW t x f)
def Ed (x f:List Int) (n:Int):Int:=if B9 x n then f.getD (Kv x n).toNat 0 else -1
structure CR (t:A2) (x f:List Int):Prop where
 len:x.length=f.length
 node:Cq t x
 nd:x.Nodup
 at_:∀ i,i < x.length->Ed x f (x.getD i 0)=f.getD i 0
 read:∀ n,n∈x->(t.at n.toNat).kind=2->Ed x f n∈x/\(t.at (Ed x f n).toNat).kind=3/\(t.at (Ed x f n).toNat).loc=(t.at n.toNat).loc
 none:∀ n,n∈x->(t.at n.toNat).kind≠2->Ed x f n = -1
theorem MF {x:List Int} (h:x.Nodup) {i:Nat} (hi:i < x.length):Kv x (x.getD i 0)=i:=by
 have hm:B9 x (x.getD i 0)=true:=Af.2 (Ac hi)
 grind [DD,List.pairwise_iff_getElem]
theorem Ba {t:A2} {x f:List Int} (h:CL t x f=true):CR t x f:=by
 simp only [CL,and_eq_true,decide_eq_true_eq,Aw,Bh] at h
 obtain ⟨⟨h1,h2⟩,h3⟩:=h
 have hnode:Cq t x:=by
  intro n hn
  obtain ⟨i,hi,rfl⟩:=List.getElem_of_mem hn
  grind
 have hnd:x.Nodup:=KT fun i hi=>(h2 i hi).2
 have hat:∀ i,i < x.length->Ed x f (x.getD i 0)=f.getD i 0:=by
  intro i hi
  unfold Ed
  rw [if_pos (Af.2 (Ac hi)),MF hnd hi,toNat_natCast]
 refine ⟨h1,hnode,hnd,hat,?_,?_⟩
 .intro n hn hk
  obtain ⟨i,hi,rfl⟩:=List.getElem_of_mem hn
  have e:x[i]=x.getD i 0:=by grind
  have h3i:=h3 i hi
  rw [e] at hk ⊢
  rw [hat i hi]
  simp_all [DW,GY,Af]
 .intro n hn hk
  obtain ⟨i,hi,rfl⟩:=List.getElem_of_mem hn
  have e:x[i]=x.getD i 0:=by grind
  have h3i:=h3 i hi
  rw [e] at hk ⊢
  rw [hat i hi]
  simp_all [DW]
def ahF (t:A2) (x f:List Int) (w:Int):Int:=if (t.at w.toNat).rmw=true/\B9 x (t.at w.toNat).up=true then Ed x f (t.at w.toNat).up else -1
def Aco (t:A2) (x:List Int) (w:Int) (n:Nat):Bool:=(decide ((n:Int)=w) && Ee (t.at n)) || (B9 x (n:Int) && decide ((t.at n).kind=4) && Ee (t.at n) && Ah t n w)
def MK (t:A2) (x:List Int) (w:Int):BitVec 64:=BT (Aco t x w)
def HO (t:A2) (w:Int):Bool:=decide (w < 0) || decide ((t.at w.toNat).thread < 0)
def Jw (t:A2) (x f:List Int):Nat->Int->BitVec 64
 | 0,_=>0#64
 | k+1,w=>if HO t w=true then 0#64 else MK t x w ||| Jw t x f k (ahF t x f w)
def AU (t:A2) (x f:List Int) (w:Int):BitVec 64:=Jw t x f (x.length+1) w
def HH (t:A2) (x f:List Int):Nat->Int->Int
 | 0,w=>w
 | k+1,w=>ahF t x f (HH t x f k w)
theorem JZ (t:A2) (x f:List Int):∀ (k:Nat) (w:Int),HH t x f (k+1) w=HH t x f k (ahF t x f w)
 | 0,w=>rfl
 | k+1,w=>by rw [HH,JZ t x f k w];rfl
theorem HL (t:A2) (x f:List Int) (b:Nat):∀ (k:Nat) (w:Int),(Jw t x f k w).getLsbD b=true↔∃ j,j < k/\(∀ i,i<=j->HO t (HH t x f i w)=false)/\(MK t x (HH t x f j w)).getLsbD b=true
 | 0,w=>by simp [Jw]
 | k+1,w=>by
  rw [Jw]
  by_cases c:HO t w=true
  .rw [if_pos c]
   constructor
   .intro h;simp at h
   .rintro ⟨j,_,h,_⟩
    have:=h 0 (Nat.zero_le _)
    rw [HH,c] at this;cases this
  .rw [if_neg c,getLsbD_or,or_eq_true,HL t x f b k]
   constructor
   .rintro (h | ⟨j,h1,h2,h3⟩)
    .exact ⟨0,by omega,fun i hi=>by rw [Nat.le_zero.1 hi];exact Bool.eq_false_iff.2 c,h⟩
    .refine ⟨j+1,by omega,fun i hi=>?_,by rw [JZ];exact h3⟩
     rcases i with _ | i
     .exact Bool.eq_false_iff.2 c
     .rw [JZ];exact h2 i (by omega)
   .rintro ⟨j,h1,h2,h3⟩
    rcases j with _ | j
    .exact .inl h3
    .refine .inr ⟨j,by omega,fun i hi=>?_,by rw [JZ] at h3;exact h3⟩
     have:=h2 (i+1) (by omega)
     rwa [JZ] at this
def Qw (t:A2) (x f:List Int) (w:Int) (i:Nat):BitVec 64:=(List.range i).foldl (fun s j=>s ||| MK t x (HH t x f j w)) 0#64
theorem A3i (t:A2) (x f:List Int) (w:Int) (i:Nat):Qw t x f w (i+1)=Qw t x f w i ||| MK t x (HH t x f i w):=by
 grind [Qw,range_succ]
theorem SR (t:A2) (x f:List Int) (w:Int) (b:Nat) (i:Nat):(Qw t x f w i).getLsbD b=true↔∃ j,j < i/\(MK t x (HH t x f j w)).getLsbD b=true:=by
 simp_all [Qw,Un]
def JF (t:A2) (x f:List Int) (w:Int) (i:Nat):List Int:=(List.range i).map fun j=>HH t x f j w
theorem Tx (t:A2) (x f:List Int) (w:Int) (i:Nat):JF t x f w (i+1)=JF t x f w i++[HH t x f i w]:=by
 grind [JF,range_succ]
theorem PT {t:A2} {x f:List Int} {w:Int} {i:Nat} {v:Int}:v∈JF t x f w i↔∃ j,j < i/\HH t x f j w=v:=by
 simp [JF]
theorem A4S {t:A2} (ht:A9 t) {x f:List Int} (h:CR t x f) {w:Int} (hw:w∈x):ahF t x f w = -1\/(ahF t x f w∈x/\(t.at (ahF t x f w).toNat).kind=3):=by
 unfold ahF
 by_cases c:(t.at w.toNat).rmw=true/\B9 x (t.at w.toNat).up=true
 .rw [if_pos c]
  obtain ⟨m,rfl,hm⟩:=A7 (h.node w hw)
  rw [toNat_natCast] at c ⊢
  have hl:t.locs.length<=m:=by
   rcases Nat.lt_or_ge m t.locs.length with h1 | h1
   .have:=ht.first.2 m h1
    simp_all [Hx]
   .exact h1
  obtain ⟨_,k2⟩:=(ht.good m hl hm).rmw c.1
  obtain ⟨r1,r2,_⟩:=h.read _ (Af.1 c.2) k2
  exact .inr ⟨r1,r2⟩
 .rw [if_neg c];exact .inl rfl
theorem LN {t:A2} (ht:A9 t) {x f:List Int} (h:CR t x f) {w:Int} (hw:w∈x):∀ (i:Nat),(∀ j,j < i->HO t (HH t x f j w)=false)->HH t x f i w = -1\/HH t x f i w∈x
 | 0,_=>.inr hw
 | i+1,hi=>by
  rcases LN ht h hw i (fun j hj=>hi j (by omega)) with e | e
  .have:=hi i (by omega)
   rw [e] at this;cases this
  .rcases A4S ht h e with e | e
   .exact .inl e
   .exact .inr e.1
theorem AfV {t:A2} (ht:A9 t) {x f:List Int} (h:CR t x f) {w:Int} (hw:w∈x) {i:Nat} (hoff:∀ j,j < i->HO t (HH t x f j w)=false) (hnd:(JF t x f w i).Nodup)
  (he:HO t (HH t x f i w)=true\/HH t x f i w∈JF t x f w i):Qw t x f w i=AU t x f w:=by
 have hil:i<=x.length:=by
  have h1:(JF t x f w i).length=i:=by simp [JF]
  rw [<- h1]
  refine Lm _ _ hnd fun v hv=>?_
  obtain ⟨j,hj,rfl⟩:=PT.1 hv
  rcases LN ht h hw j (fun k hk=>hoff k (by omega)) with e | e
  .have:=hoff j hj
   rw [e] at this;cases this
  .exact e
 apply Z4.anti
 .intro b hb
  obtain ⟨j,hj,h1⟩:=(SR _ _ _ _ _ _).1 hb
  exact (HL _ _ _ _ _ _).2 ⟨j,by omega,fun k hk=>hoff k (by omega),h1⟩
 .intro b hb
  obtain ⟨j,hj,h1,h2⟩:=(HL _ _ _ _ _ _).1 hb
  have key:∀ j,(∀ k,k<=j->HO t (HH t x f k w)=false)->∃ j',j' < i/\HH t x f j' w=HH t x f j w:=by
   intro j
   induction j with
   | zero =>
    intro hk
    rcases Nat.eq_zero_or_pos i with e | e
    .simp_all [JF]
    .exact ⟨0,e,rfl⟩
   | succ j ih =>
    intro hk
    obtain ⟨j',h3,h4⟩:=ih fun k hk'=>hk k (by omega)
    have e5:HH t x f (j' + 1) w=HH t x f (j+1) w:=by rw [HH,HH,h4]
    rcases Nat.lt_or_ge (j' + 1) i with h5 | h5
    .exact ⟨j' + 1,h5,e5⟩
    .have e6:j' + 1=i:=by omega
     simp_all [PT]
  obtain ⟨j',h3,h4⟩:=key j h1
  grind [SR]
def EE (t:A2) (x:List Int) (r:Int) (n:Nat):Bool:=(decide ((n:Int)=r) && J3 (t.at n)) || (B9 x (n:Int) && decide ((t.at n).kind=4) && J3 (t.at n) && Ah t r n)
def Jl (t:A2) (x f:List Int) (r:Int):Bool:=decide ((t.at r.toNat).kind=2) && !decide ((t.at (Ed x f r).toNat).thread=(t.at r.toNat).thread)
def swB (t:A2) (x f:List Int) (a b:Nat):Bool:=x.any fun r=>Jl t x f r && B1 (AU t x f (Ed x f r)) (a:Int) && EE t x r b
def Mv (t:A2) (x f:List Int) (a b:Nat):Bool:=(B9 x (a:Int) && B9 x (b:Int) && Ah t a b) || swB t x f a b
def Lh (t:A2) (x f:List Int):Rows:=Bz (Aj t.nodes.length (Mv t x f))
theorem Cm {n:Nat} (hn:n<=64) (p:Nat->Nat->Bool):CX (Aj n p)=true:=by
 simp only [CX,and_eq_true,decide_eq_true_eq,List.all_eq_true,Al]
 refine ⟨hn,fun r hr=>?_⟩
 obtain ⟨a,ha,rfl⟩:=List.mem_map.1 hr
 apply Bm
 grind [AE,CG]
theorem Ge {n:Nat} {p:Nat->Nat->Bool} {a:Nat} (h:a < n):(Aj n p).getD a 0#64=BT fun b=>decide (b < n) && p a b:=by
 rw [List.getD_eq_getElem?_getD,BA h,Option.getD_some]
theorem B8 {n:Nat} {p q:Nat->Nat->Bool} (h:∀ a b,a < n->b < n->p a b=q a b):Aj n p=Aj n q:=by
 unfold Aj
 apply List.map_congr_left
 grind
theorem Ack {n:Nat} (hn:n<=64) (p q:Nat->Nat->Bool):orF (Aj n p) (Aj n q)=Aj n fun a b=>p a b || q a b:=by
 unfold orF
 rw [Cm hn,Cm hn,Al,Al]
 simp only [decide_true,Bool.and_self,if_true]
 apply List.map_congr_left
 intro a ha
 have h:=List.mem_range.1 ha
 rw [Ge h,Ge h]
 apply Bm
 grind [AE]
theorem Jc {n:Nat} (hn:n<=64) (p:Nat->Nat->Bool) (s:BitVec 64):Mz (Aj n p) s=Aj n fun a b=>B1 s a && B1 s b && p a b:=by
 unfold Mz
 rw [Cm hn,Al]
 simp only [if_true]
 apply List.map_congr_left
 intro a ha
 have h:=List.mem_range.1 ha
 rw [Ge h]
 cases c:B1 s (a:Int) with
 | false =>
  simp only [Bool.false_and,Bool.and_false,Bool.false_eq_true,if_false,c]
  exact Gl.symm
 | true =>
  simp only [if_true,Bool.true_and,c]
  apply Bm
  grind [AE,AD]
theorem B7 {s:BitVec 64} {x:Int}:x∈AC s↔B1 s x=true:=by
 unfold AC
 rw [List.mem_map]
 constructor
 .rintro ⟨i,hi,rfl⟩
  rw [AD];exact KL.1 hi
 .intro h
  obtain ⟨h1,h2⟩:=Cu h
  obtain ⟨m,rfl⟩:=eq_ofNat_of_zero_le h1
  rw [AD] at h
  exact ⟨m,KL.2 h,rfl⟩
theorem Cq.list {t:A2} (ht:t.nodes.length<=64) {l:List Int} (h:Cq t l) (x:Int):x∈AC (CP l)↔x∈l:=by
 rw [B7,h.has ht,Af]
def Di (p:Int->Bool) (s:BitVec 64) (l:List Int):BitVec 64:=l.foldl (fun s n=>if p n=true then s ||| BK n else s) s
theorem NA (p:Int->Bool) (j:Nat) (hj:j < 64):∀ (l:List Int) (s:BitVec 64),(Di p s l).getLsbD j=(s.getLsbD j || (B9 l (j:Int) && p (j:Int))):=by
 intro l
 induction l with
 | nil=>intro s;simp [Di,B9]
 | cons x l ih =>
  intro s
  show (Di p (if p x=true then s ||| BK x else s) l).getLsbD j=_
  rw [ih]
  have e:B9 (x::l) (j:Int)=(decide ((j:Int)=x) || B9 l (j:Int)):=rfl
  rw [e]
  by_cases c:(j:Int)=x
  .subst c
   cases hp:p (j:Int) with
   | false=>simp
   | true =>
    rw [if_pos rfl,getLsbD_or,Cb]
    simp [hj]
  .have:(BK x).getLsbD j=false:=by rw [Cb];simp [c]
   grind
theorem Jh {p:Int->Bool} {s:BitVec 64} {l:List Int} {k:Nat} (hk:k < l.length):Di p s (l.take (k+1))=if p (l.getD k 0)=true then Di p s (l.take k) ||| BK (l.getD k 0) else Di p s (l.take k):=by
 grind [Di,List.take_succ_eq_append_getElem]
theorem Afy {p:Int->Bool} {s:BitVec 64} {l:List Int} {k:Nat} (hk:k < l.length) (h:p (l.getD k 0)=true):Di p s (l.take k) ||| BK (l.getD k 0)=Di p s (l.take (k+1)):=by rw [Jh hk,if_pos h]
theorem PZ {p:Int->Bool} {s:BitVec 64} {l:List Int} {k:Nat} (hk:k < l.length) (h:p (l.getD k 0)=false):Di p s (l.take k)=Di p s (l.take (k+1)):=by simp_all [Jh]
theorem AcA {n a:Nat} (ha:a < n) (p:Nat->Nat->Bool) (q:Nat->Bool) (hq:∀ b,q b=true->b < n):(Aj n p).set a ((Aj n p).getD a 0#64 ||| BT q)=Aj n fun i b=>p i b || (decide (i=a) && q b):=by
 apply ext_getElem
 .simp [Aj]
 .intro i h1 h2
  have hi:i < n:=by simpa [Aj] using h2
  rw [List.getElem_set]
  by_cases c:a=i
  .subst c
   rw [if_pos rfl,Ge ha]
   have:(Aj n fun i b=>p i b || (decide (i=a) && q b))[a]=BT fun b=>decide (b < n) && (p a b || (decide (a=a) && q b)):=by simp [Aj]
   rw [this]
   apply Bm
   grind [AE]
  .rw [if_neg c]
   grind [Aj,Bu]
theorem KS (n:Nat):Aj n (fun _ _=>false)=List.replicate n 0#64:=by
 apply ext_getElem
 .simp [Aj]
 simp_all [Aj,Gl]
def onL (t:A2) (x f:List Int):List Int:=(List.range t.nodes.length).map fun (n:Nat)=>Ed x f (n:Int)
theorem PX {t:A2} {x f:List Int}:(onL t x f).length=t.nodes.length:=by simp [onL]
theorem Jg {t:A2} {x f:List Int} {n:Nat} (h:n < t.nodes.length):(onL t x f)[n]? = some (Ed x f (n:Int)):=by simp [onL,h]
def Ko (t:A2) (x f:List Int) (n:Int):Bool:=if (t.at n.toNat).kind=2 then B9 x (Ed x f n) && GY t (Ed x f n) (t.at n.toNat).loc else decide (Ed x f n = -1)
theorem ZQ (t:A2) (x f:List Int):CL t x f=(decide (x.length=f.length) && (List.range x.length).all (Bh t x) && (List.range x.length).all fun i=>Ko t x f (x.getD i 0)):=by
 unfold CL
 by_cases h1:(decide (x.length=f.length) && (List.range x.length).all (Bh t x))=true
 .rw [h1,Bool.true_and,Bool.true_and]
  simp only [and_eq_true,decide_eq_true_eq,Aw,Bh] at h1
  have hnd:x.Nodup:=KT fun i hi=>(h1.2 i hi).2
  have hat:∀ i,i < x.length->Ed x f (x.getD i 0)=f.getD i 0:=by
   intro i hi
   unfold Ed
   rw [if_pos (Af.2 (Ac hi)),MF hnd hi,toNat_natCast]
  rw [Bool.eq_iff_iff,Aw,Aw]
  grind [DW,Ko]
 grind
theorem A1t {t:A2} (ht:A9 t) {a:Nat} (hla:t.locs.length<=a):∀ (n:Nat) (b:Nat),b < n->b < t.nodes.length->Az t a b=true->(t.at a).thread=(t.at b).thread:=by
 intro n
 induction n with
 | zero=>intro b h;omega
 | succ n ih =>
  intro b hbn hb h
  unfold Az at h
  rw [DU ht.up a (by have:=ht.up b hb;omega)] at h
  by_cases c1:(t.at b).up < 0
  .rw [if_pos c1] at h;cases h
  .rw [if_neg c1] at h
   have hl:t.locs.length<=b:=by
    rcases Nat.lt_or_ge b t.locs.length with h1 | h1
    .have:=(ht.init b h1).up;omega
    .exact h1
   have hp:=(ht.good b hl hb).par (by omega)
   by_cases c2:(t.at b).up=a
   .grind
   .rw [if_neg c2] at h
    have hub:=ht.up b hb
    have hu:((t.at b).up.toNat:Int)=(t.at b).up:=by omega
    rw [<- hp]
    exact ih (t.at b).up.toNat (by omega) (by omega) h
end Go.AM
