/-
  Own work, part of the proof of these laws: plain laws.
-/
import Derived.Test.YtpnaenhghnkggaaGreatDoorAmF
set_option maxRecDepth 10000
set_option maxHeartbeats 64000000
set_option linter.unusedVariables false
set_option linter.unusedSimpArgs false
set_option linter.unnecessarySimpa false
open Bool (and_eq_true or_eq_true not_eq_true')
open Int (toNat_natCast eq_ofNat_of_zero_le)
open BitVec (getLsbD_or)
open List (range_succ ext_getElem)
namespace Go.AM
open Go Go.Proofs
def BI(xs:List Int):BitVec 64:=xs.foldl (fun s i=>s|||BC i) 0#64
def CZ(lo hi:Int):BitVec 64:=BR fun i=>decide (lo<=(i:Int)/\(i:Int)<hi)
def AC(s:BitVec 64):List Int:=(BP s).map fun(i:Nat)=>(i:Int)
def CE{α:Type}(p:α->Bool)(xs:List α):Int:=match xs.findIdx? p with
 |some i=>i
 |none=>-1
theorem DC{α:Type}{p:α->Bool}{xs:List α}{k:Nat}(hk:k<xs.length)(h1:p xs[k]=true)(h2:∀(j:Nat) (hj:j<k),p xs[j]=false):CE p xs=k:=by
 grind[CE,List.findIdx?_eq_some_iff_getElem]
theorem DB{α:Type}{p:α->Bool}{xs:List α}(h:∀x∈xs,p x=false):CE p xs=-1:=by
 unfold CE
 rw[List.findIdx?_eq_none_iff.2 h]
theorem KG{α:Type}(p:α->Bool)(xs:List α):decide (0<=CE p xs)=xs.any p:=by
 grind[CE]
abbrev Rows:=List (BitVec 64)
def Dp(r:Rows):Bool:=decide (r.length<=64)&&r.all fun x=>decide (x&&&~~~(CZ 0 r.length)=0#64)
def Dn(a:Rows)(s:BitVec 64):BitVec 64:=(BP (s&&&CZ 0 a.length)).foldl (fun x i=>x|||a.getD i 0#64) 0#64
def K5(a:Rows):Nat->BitVec 64->BitVec 64
 |0,s=>s
 |n+1,s=>if s|||Dn a s=s then s else K5 a n (s|||Dn a s)
theorem Kk{s x:BitVec 64}(h:s|||x≠s):s.toNat<(s|||x).toNat:=by
 grind[Nat.left_le_or,BitVec.eq_of_toNat_eq]
theorem A4g(a:Rows):∀(n:Nat) (s:BitVec 64),18446744073709551616-s.toNat<=n->K5 a (n+1) s=K5 a n s:=by
 intro n
 induction n with
 |zero=>intro s h;have:=s.isLt;omega
 |succ n ih=>
  intro s h
  rw[K5]
  by_cases e:s|||Dn a s=s
  .rw[if_pos e];rw[K5,if_pos e]
  .rw[if_neg e]
   have:=Kk e
   rw[ih _ (by omega),K5,if_neg e]
def Ge(a:Rows)(s:BitVec 64):BitVec 64:=K5 a 18446744073709551616 s
theorem A2u(a:Rows)(s:BitVec 64):Ge a s=if s|||Dn a s=s then s else Ge a (s|||Dn a s):=by
 have h0:Ge a s=K5 a (18446744073709551615+1) s:=rfl
 rw[h0,K5]
 by_cases e:s|||Dn a s=s
 .rw[if_pos e,if_pos e]
 .rw[if_neg e,if_neg e]
  have:=Kk e
  exact(A4g a 18446744073709551615 _ (by omega)).symm
def BG(a:Rows):Rows:=if Dp a then(List.range a.length).map (fun i=>Ge a (a.getD i 0#64))else []
def A0U(a:Rows)(s:BitVec 64):Rows:=if Dp a then(List.range a.length).map (fun(i:Nat)=>if Bh s (i:Int)then a.getD i 0#64&&&s else 0#64)else []
theorem Ag4{a:Rows}{i:Nat}(h:i<a.length):a.getD i 0#64=a[i]:=by
 grind
theorem Jp{a:Rows}(h:Dp a=true):a.length<=64:=by simp_all[Dp]
def Bt(a:Rows):List (Int×Int):=if Dp a then(List.range a.length).flatMap (fun i=>(AC (a.getD i 0#64)).map fun j=>((i:Int),j))else []
theorem Cz(s:BitVec 64):(AC s).length<=64:=by
 grind[AC,BP]
theorem Nr(a:Rows):∀k,((List.range k).flatMap (fun i=>(AC (a.getD i 0#64)).map fun j=>((i:Int),j))).length<=64 * k:=by
 intro k
 induction k with
 |zero=>simp
 |succ k ih=>
  grind[range_succ,Cz]
def ZZ(s t:BitVec 64):Prop:=∀j,s.getLsbD j=true->t.getLsbD j=true
def M5(a:Rows)(t:BitVec 64):Prop:=∀y,y<a.length->t.getLsbD y=true->ZZ (a.getD y 0#64) t
structure Q8(a:Rows)(s t:BitVec 64):Prop where
 sub:ZZ s t
 closed:M5 a t
 least:∀u,ZZ s u->M5 a u->ZZ t u
theorem ZZ.anti{s t:BitVec 64}(h:ZZ s t)(k:ZZ t s):s=t:=by
 apply B4
 intro j _
 cases hs:s.getLsbD j with
 |true=>exact(h j hs).symm
 |false=>
  cases ht:t.getLsbD j with
  |false=>rfl
  |true=>rw[k j ht]at hs;cases hs
theorem Q8.uniq{a:Rows}{s t u:BitVec 64}(h:Q8 a s t)(k:Q8 a s u):t=u:=ZZ.anti (h.least u k.sub k.closed) (k.least t h.sub h.closed)
theorem V2{α:Type}(f:α->BitVec 64)(j:Nat):∀(l:List α) (x:BitVec 64),(l.foldl (fun x i=>x|||f i) x).getLsbD j=(x.getLsbD j||l.any fun i=>(f i).getLsbD j)
 | [],x=>by simp
 |i::l,x=>by rw[List.foldl_cons,V2 f j l,getLsbD_or,List.any_cons,Bool.or_assoc]
theorem HP{a:Rows}(hl:a.length<=64)(s:BitVec 64)(j:Nat):(Dn a s).getLsbD j=true↔∃i,i<a.length/\s.getLsbD i=true/\(a.getD i 0#64).getLsbD j=true:=by
 unfold Dn
 rw[V2]
 simp only[BitVec.getLsbD_zero,Bool.false_or,List.any_eq_true,KP,BitVec.getLsbD_and,and_eq_true,CZ,AA,decide_eq_true_eq]
 grind
theorem A9Q{a:Rows}(hl:a.length<=64):∀(n:Nat) (s:BitVec 64),18446744073709551616-s.toNat<=n->Q8 a s (K5 a n s):=by
 intro n
 induction n with
 |zero=>intro s h;have:=s.isLt;omega
 |succ n ih=>
  intro s h
  rw[K5]
  by_cases e:s|||Dn a s=s
  .rw[if_pos e]
   refine⟨fun j h=>h,fun y hy hs j hj=>?_,fun u hu _=>hu⟩
   have:(Dn a s).getLsbD j=true:=(HP hl s j).2 ⟨y,hy,hs,hj⟩
   grind
  .rw[if_neg e]
   have hg:=Kk e
   obtain⟨h1,h2,h3⟩:=ih (s|||Dn a s) (by omega)
   refine⟨fun j hj=>h1 j (by grind),h2,fun u hu hc=>h3 u (fun j hj=>?_) hc⟩
   rw[getLsbD_or,or_eq_true]at hj
   rcases hj with hj|hj
   .exact hu j hj
   .obtain⟨i,hi,hs,h0⟩:=(HP hl s j).1 hj
    exact hc i hi (hu i hs) j h0
theorem Ql{a:Rows}(hl:a.length<=64)(s:BitVec 64):Q8 a s (Ge a s):=A9Q hl _ s (by omega)
theorem Aet(s t:BitVec 64):(s|||t=t)↔ZZ s t:=by
 constructor
 .intro h j hj
  grind
 .intro h
  apply B4
  intro j _
  rw[getLsbD_or]
  cases hs:s.getLsbD j with
  |true=>rw[h j hs];rfl
  |false=>simp
def Uj(a:Rows):Bool:=Dp a&&(List.range a.length).all fun i=>!((BG a).getD i 0#64).getLsbD i
def orF(a b:Rows):Rows:=if Dp a&&Dp b&&decide (a.length=b.length)then(List.range a.length).map (fun i=>a.getD i 0#64|||b.getD i 0#64)else []
def CR{α:Type}(n k:Nat)(f:Nat->α)(z:α):List α:=(List.range n).map fun j=>if j<k then f j else z
theorem S9{α:Type}{n k:Nat}{f:Nat->α}{z:α}:(CR n k f z).length=n:=by simp[CR]
theorem J3{α:Type}{n k:Nat}{f:Nat->α}{z:α}(h:k<n):(CR n k f z)[k]? = some z:=by
 grind[CR]
theorem MP{α β:Type}{n k:Nat}{f:Nat->α}{z:α}(g:α->β):((CR n k f z).map g).set k (g (f k))=(CR n (k+1) f z).map g:=by
 apply ext_getElem
 .simp[CR]
 grind[CR]
theorem EM{α:Type}{n:Nat}{f:Nat->α}{z:α}:CR n 0 f z=List.replicate n z:=by
 apply ext_getElem
 .simp[CR]
 .intro j h1 h2;simp[CR]
theorem H7{α:Type}{n:Nat}{f:Nat->α}{z:α}:CR n n f z=(List.range n).map f:=by
 apply List.map_congr_left
 grind
def AI.zero:AI:=⟨0,0,0,0,0,0,false,false,[]⟩
def A2.at(t:A2)(i:Nat):AI:=t.nodes.getD i AI.zero
def J9(t:A2):Prop:=∀i,i<t.nodes.length->(t.at i).up<i
def L8(t:A2)(a:Int):Nat->Int->Bool
 |0,_=>false
 |n+1,x=>if x<0 then false else if x=a then true else L8 t a n (t.at x.toNat).up
theorem Tc{t:A2}(h:J9 t)(a:Int):∀(n:Nat) (x:Int),x<n->x<t.nodes.length->L8 t a (n+1) x=L8 t a n x:=by
 intro n
 induction n with
 |zero=>
  simp_all[L8]
 |succ n ih=>
  intro x hx hl
  rw[L8]
  by_cases h0:x<0
  .rw[if_pos h0,L8,if_pos h0]
  .rw[if_neg h0]
   conv=>rhs;rw[L8,if_neg h0]
   by_cases h1:x=a
   .rw[if_pos h1,if_pos h1]
   .rw[if_neg h1,if_neg h1]
    have:=h x.toNat (by omega)
    exact ih _ (by omega) (by omega)
def AK(t:A2)(a:Int)(b:Nat):Bool:=L8 t a t.nodes.length (t.at b).up
theorem Ao8{t:A2}{i:Nat}(h:i<t.nodes.length):t.at i=t.nodes[i]:=by
 simp only[A2.at,List.getD_eq_getElem?_getD,List.getElem?_eq_getElem h,Option.getD_some]
theorem A5{t:A2}{i:Nat}(h:i<t.nodes.length):t.nodes[i]? = some (t.at i):=by rw[Ao8 h,List.getElem?_eq_getElem h]
def BZ(t:A2)(n:Int):Bool:=decide (0<=n)&&decide (n<t.nodes.length)
theorem A9{t:A2}{n:Int}(h:BZ t n=true):∃m:Nat,n=(m:Int)/\m<t.nodes.length:=by
 simp only[BZ,and_eq_true,decide_eq_true_eq]at h
 obtain⟨m,rfl⟩:=eq_ofNat_of_zero_le h.1
 exact⟨m,rfl,by omega⟩
theorem C1{t:A2}{m:Nat}(h:m<t.nodes.length):BZ t (m:Int)=true:=by
 simp only[BZ,and_eq_true,decide_eq_true_eq]
 omega
def Ao(t:A2)(a b:Int):Bool:=BZ t a&&BZ t b&&(if(t.at a.toNat).thread<0 then decide (0<=(t.at b.toNat).thread)else AK t a b.toNat)
def AO(t:A2)(a b:Int):Bool:=BZ t a&&BZ t b&&!decide (a=b)&&decide (0<=(t.at a.toNat).thread)&&decide ((t.at a.toNat).thread=(t.at b.toNat).thread)&&!AK t a b.toNat&&!AK t b a.toNat
def CY(n:AI):Bool:=decide (0<=n.thread)&&decide (n.kind=3)&&decide (n.mode=0)&&!n.rmw
def Jc(n:AI):Bool:=(decide (n.kind=2)||decide (n.kind=4))&&(decide (n.mode=1)||decide (n.mode=3)||decide (n.mode=4))
def Et(n:AI):Bool:=(decide (n.kind=3)&&decide (0<=n.thread)||decide (n.kind=4))&&(decide (n.mode=2)||decide (n.mode=3)||decide (n.mode=4))
theorem AD{n:Nat}{p:Nat->Bool}(h:∀j,j<n->p j=true):(List.range n).all p=true:=by
 grind
theorem AB{n k:Nat}{p:Nat->Bool}(hk:k<n)(h:p k=false):(List.range n).all p=false:=by
 grind
theorem Ag{n:Nat}{p:Nat->Bool}:(List.range n).all p=true↔∀j,j<n->p j=true:=by
 grind
theorem A06{n k:Nat}{p:Nat->Bool}(hk:k<n)(h:p k=true):(List.range n).any p=true:=by
 grind
theorem Ak{xs:List Int}{k:Nat}(h:k<xs.length):xs[k]? = some (xs.getD k 0):=by
 grind
theorem CT{xs:List (List Int)}{k:Nat}(h:k<xs.length):xs[k]? = some (xs.getD k []):=by
 grind
theorem C7{xs:List (List (List Int))}{k:Nat}(h:k<xs.length):xs[k]? = some (xs.getD k []):=by
 grind
theorem Aa{α:Type}{xs:List α}{k:Nat}{d:α}(h:k<xs.length):xs.getD k d∈xs:=by
 grind
def AQ(l:List Int)(n:Int):Bool:=l.any fun y=>decide (n=y)
theorem Ac{l:List Int}{n:Int}:AQ l n=true↔n∈l:=by
 simp_all[AQ]
def BH(l:List Int)(n:Int):Int:=CE (fun y=>decide (n=y)) l
theorem DQ(l:List Int)(n:Int):decide (0<=BH l n)=AQ l n:=KG _ _
theorem C0(l:List Int)(n:Int):decide (BH l n<0) = !AQ l n:=by
 rw[<- DQ]
 grind
theorem HN{α:Type}{p:α->Bool}{l:List α}(h:l.any p=true):∃k:Nat,CE p l=k/\∃hk:k<l.length,p l[k]=true/\∀(j:Nat) (hj:j<k),p (l[j]'(by omega))=false:=by
 unfold CE
 cases e:l.findIdx? p with
 |none=>
  grind
 |some i=>
  obtain⟨hi,h1,h2⟩:=List.findIdx?_eq_some_iff_getElem.1 e
  grind
theorem Qr{α:Type}{p:α->Bool}{l:List α}(h:l.any p=false):CE p l=-1:=by
 grind[DB]
theorem Bn{l:List Int}{n:Int}(h:AQ l n=true):∃k:Nat,BH l n=k/\k<l.length/\l.getD k 0=n/\∀j,j<k->l.getD j 0≠n:=by
 obtain⟨k,e,hk,h1,h2⟩:=HN h
 refine⟨k,e,hk,?_,fun j hj=>?_⟩
 .grind
 grind
theorem A26{l:List Int}{n:Int}(h:AQ l n=false):BH l n=-1:=Qr h
def Ch(l:List Int)(k:Nat):Bool:=decide (k=0)||decide (l.getD (k-1) 0<l.getD k 0)
def Ed(t:A2):BitVec 64:=BR fun i=>decide (i<t.nodes.length)&&decide ((t.at i).up<0)
def Ce(t:A2)(l:List Int)(k:Nat):Bool:=BZ t (l.getD k 0)&&Ch l k&&(decide ((t.at (l.getD k 0).toNat).up<0)||AQ l (t.at (l.getD k 0).toNat).up)
def Cg(t:A2)(l:List Int):Bool:=(List.range l.length).all (Ce t l)&&decide (Ed t|||BI l=BI l)
def B1(t:A2)(x y:Int):Bool:=CY (t.at x.toNat)&&CY (t.at y.toNat)&&decide ((t.at x.toNat).val=(t.at y.toNat).val)&&AO t x y
def G7(t:A2)(n loc:Int):Bool:=decide ((t.at n.toNat).kind=3)&&decide ((t.at n.toNat).loc=loc)
def Bb(t:A2)(l has:List Int)(loc:Int)(i:Nat):Bool:=AQ has (l.getD i 0)&&Ch l i&&G7 t (l.getD i 0) loc&&decide (0<=(t.at (l.getD i 0).toNat).thread)&&(List.range i).all fun k=>B1 t (l.getD i 0) (l.getD k 0)
def Ca(t:A2)(l has:List Int)(loc:Int):Bool:=!decide (l.length=0)&&(List.range l.length).all (Bb t l has loc)
def GU(t:A2)(s:A8)(i:Nat):Bool:=
 if(t.at (s.has.getD i 0).toNat).kind=2 then AQ s.has (s.jf.getD i 0)&&G7 t (s.jf.getD i 0) (t.at (s.has.getD i 0).toNat).loc&&decide ((t.at (s.jf.getD i 0).toNat).val=(t.at (s.has.getD i 0).toNat).val)else decide (s.jf.getD i 0=-1)
def Dq(t:A2)(s:A8)(loc:Nat):Bool:=
 let m:=s.mo.getD loc []
 !decide (m.length=0)&&decide (m.getD 0 []=[(loc:Int)])&&(List.range m.length).all fun i=>decide (i=0)||Ca t (m.getD i []) s.has loc
def Kj(t:A2)(s:A8)(i:Nat):Bool:=
 !decide ((t.at (s.has.getD i 0).toNat).kind=3)||decide (((s.mo.getD (t.at (s.has.getD i 0).toNat).loc.toNat []).filter fun c=>AQ c (s.has.getD i 0)).length=1)
def Bj(t:A2)(s:A8):Bool:=Cg t s.has&&decide (s.jf.length=s.has.length)&&decide (s.mo.length=t.locs.length)&&(List.range s.has.length).all (GU t s)&&(List.range s.mo.length).all (Dq t s)&&(List.range s.has.length).all (Kj t s)
structure GI(s:A8):Prop where
 has:s.has.length<=1000
 jf:s.jf.length<=1000
 mo:s.mo.length<=1000
 mi:∀l∈s.mo,l.length<=1000
 mc:∀l∈s.mo,∀c∈l,c.length<=1000
theorem GI.mi'{s:A8}(h:GI s)(k:Nat):(s.mo.getD k []).length<=1000:=by
 by_cases hk:k<s.mo.length
 .exact h.mi _ (Aa hk)
 grind
theorem GI.mc'{s:A8}(h:GI s)(k j:Nat):((s.mo.getD k []).getD j []).length<=1000:=by
 by_cases hk:k<s.mo.length
 .by_cases hj:j<(s.mo.getD k []).length
  .exact h.mc _ (Aa hk) _ (Aa hj)
  grind
 grind
def Mv(s:A8)(n:Int):Int:=if BH s.has n<0\/(s.jf.length:Int)<=BH s.has n then -1 else s.jf.getD (BH s.has n).toNat 0
def BW(s:A8)(loc w:Int):Int:=if loc<0\/(s.mo.length:Int)<=loc then -1 else CE (fun c=>AQ c w) (s.mo.getD loc.toNat [])
def DW(a b:AI)(pa pb:Int):Bool:=
 (!(decide (a.kind=2)||decide (a.kind=3))||!(decide (b.kind=2)||decide (b.kind=3))||!decide (a.loc=b.loc))||(if b.kind=2 then decide (pa<=pb)else decide (pa<pb))
def C6(t:A2)(a u:Nat):Bool:=decide (a<t.nodes.length)&&decide ((t.at a).up=u)&&decide ((t.at a).thread=(t.at u).thread)
def Gj(t:A2)(v:Int):Bool:=decide (0<=v)&&decide (v<t.vals)
def Ka(t:A2)(v:Int):Bool:=decide (0<=v)&&decide (v<t.locs.length)
def A68(t:A2)(u:Nat):Bool:=(t.at u).fin&&decide ((t.at u).regs.length=(t.regs.getD (t.at u).thread.toNat []).length)&&(t.at u).regs.all (Gj t)
def Dc(t:A2)(u:Nat):Bool:=
 let n:=t.at (u+1);let m:=t.at u
 (decide (n.kind=4)&&decide (n.loc=0)&&decide (n.val=0)&&!n.rmw&&decide (1<=n.mode)&&decide (n.mode<=4)) ||
 (decide (n.kind=3)&&Ka t n.loc&&Gj t n.val &&
  (if n.rmw then decide (0<=n.mode)&&decide (n.mode<=4)&&decide (m.kind=2)&&decide (m.loc=n.loc)&&decide (m.mode=n.mode)else decide (n.mode=0)||decide (n.mode=2)||decide (n.mode=4)))
def JN(t:A2)(u:Nat):Bool:=decide (u+1<t.nodes.length)&&decide ((t.at (u+1)).up=u)&&(t.at (u+1)).rmw
def Em(t:A2)(a v:Nat)(loc mode:Int):Bool:=decide ((t.at a).kind=2)&&decide ((t.at a).val=v)&&decide ((t.at a).loc=loc)&&decide ((t.at a).mode=mode)&&!(t.at a).rmw
def Akg(t:A2)(u:Nat):Prop:=u<t.nodes.length/\0<=(t.at u).thread/\(t.at u).thread<t.regs.length
def G3(t:A2):Nat->Nat->Nat->Prop
 |0,_,_=>False
 |n+1,u,e=>Akg t u/\(
  (C6 t (u+1) u=false/\A68 t u=true/\e=u+1) \/
  (C6 t (u+1) u=true/\(t.at u).fin=false/\(t.at u).regs=[]/\Dc t u=true/\G3 t n (u+1) e) \/
  (C6 t (u+1) u=true/\(t.at u).fin=false/\(t.at u).regs=[]/\∃(vals:Nat) (k:Nat->Nat) (loc mode:Int),t.vals=vals/\0<vals/\k 0=u+1/\k vals=e/\Ka t loc=true /\
   (∀v,v<vals->C6 t (k v) u=true/\Em t (k v) v loc mode=true/\G3 t n (k v) (k (v+1))) /\
   ((mode=0\/mode=1\/mode=4)\/(0<=mode/\mode<=4/\∃v,v<vals/\JN t (k v)=true))))
def GT(t:A2)(i:Nat):Bool:=decide ((t.at i).thread=-1)&&decide ((t.at i).up=-1)&&decide ((t.at i).kind=3)&&decide ((t.at i).loc=i)&&decide ((t.at i).mode=0)&&Gj t (t.at i).val&&!(t.at i).rmw&&!(t.at i).fin&&decide ((t.at i).regs=[])
def DO(t:A2)(u i:Nat):Bool:=decide ((t.at u).thread=i)&&decide ((t.at u).up=-1)&&decide ((t.at u).kind=1)&&decide ((t.at u).loc=0)&&decide ((t.at u).mode=0)&&decide ((t.at u).val=0)&&!(t.at u).rmw
structure A7(t:A2):Prop where
 v2:2<=t.vals
 v4:t.vals<=4
 l4:t.locs.length<=4
 ln:t.locs.Nodup
 n64:t.nodes.length<=64
 r1:1<=t.regs.length
 r4:t.regs.length<=4
 rl:∀l∈t.regs,l.length<=4/\l.Nodup
 first:t.locs.length<=t.nodes.length/\∀i,i<t.locs.length->GT t i=true
 thr:∃s:Nat->Nat,s 0=t.locs.length/\s t.regs.length=t.nodes.length/\∀i,i<t.regs.length->DO t (s i) i=true/\∃n,G3 t n (s i) (s (i+1))
theorem Ai2{v n:Int}(hn:0<n):(v.tmod n<0->v.tmod n+n=v % n/\-n<v.tmod n)/\(¬v.tmod n<0->v.tmod n=v % n):=by
 have h1:v.tmod n<n:=Int.tmod_lt_of_pos v hn
 have h2 : -n<v.tmod n:=Int.lt_tmod_of_pos v hn
 have h3:v.tmod n+n * v.tdiv n=v:=Int.tmod_add_mul_tdiv v n
 have h4:v % n=v.tmod n % n:=by
  conv=>lhs;rw[<- h3]
  exact Int.add_mul_emod_self_left ..
 constructor
 .intro h
  refine⟨?_,h2⟩
  rw[h4,<- Int.add_emod_right,Int.emod_eq_of_lt (by omega) (by omega)]
 simp_all[Int.emod_eq_of_lt]
inductive GE:List VV->Prop
 |mk (op n:Int) (nm:ByteArray) (kids:List (List VV)):kids.length<=1000->(∀k∈kids,GE k)->GE [.i .i64 op,.i .i64 n,.s nm,.ls kids]
theorem GE.len{r:List VV}(h:GE r):r.length=4:=by cases h;rfl
theorem GE.frz{r:List VV}(h:GE r){hh:VH}{d:Nat}:B5 (frz hh (d+1)) r=some (r,[]):=by cases h;rfl
theorem GE.take{r:List VV}(h:GE r):r.take 4=r:=by cases h;rfl
theorem GE.cell{r:List VV}(h:GE r):r.all VV.cell=true:=by cases h;rfl
theorem Sv{l:List (List VV)}{k:Nat}(h:k<l.length):l[k]? = some l[k]:=List.getElem?_eq_getElem h
def N4:List ByteArray:=[⟨⟨[97]⟩⟩,⟨⟨[98]⟩⟩,⟨⟨[99]⟩⟩,⟨⟨[100]⟩⟩]
def GZ(k:Int):Bool:=decide (k=1)||decide (k=2)||decide (k=4)||decide (k=5)
structure OKS(locs:List ByteArray)(kind mode:Int)(reg loc:ByteArray)(args:Nat):Prop where
 k:1<=kind/\kind<=7
 rn:GZ kind=true->reg∈N4
 one:kind=1\/kind=3\/kind=4\/kind=5\/kind=7->1<=args
 two:kind=5->2<=args
 loc:kind=2\/kind=3\/kind=4\/kind=5->loc∈locs
 ml:kind=2->mode=0\/mode=1\/mode=4
 ms:kind=3->mode=0\/mode=2\/mode=4
 ma:kind=4\/kind=5->0<=mode/\mode<=4
 mf:kind=6->1<=mode/\mode<=4
 rs:reg.size<=1000
abbrev rS(kind mode:Int)(reg loc:ByteArray)(args th el:List (List VV)):List VV:=[.i .i64 kind,.i .i64 mode,.s reg,.s loc,.ls args,.ls th,.ls el]
inductive GS (locs:List ByteArray):List VV->Prop
 |mk (kind mode:Int) (reg loc:ByteArray) (args th el:List (List VV)):args.length<=1000->(∀a∈args,GE a)->th.length<=1000->el.length<=1000 ->
  (∀s∈th,GS locs s)->(∀s∈el,GS locs s)->OKS locs kind mode reg loc args.length->GS locs (rS kind mode reg loc args th el)
inductive RI (names:List ByteArray):List VV->Prop
 |mk (kind mode:Int) (reg loc:ByteArray) (args th el:List (List VV)):(GZ kind=true->reg∈names)->(∀s∈th,RI names s)->(∀s∈el,RI names s)->RI names (rS kind mode reg loc args th el)
theorem RI.mono{n m:List ByteArray}(h:∀x∈n,x∈m){r:List VV}(k:RI n r):RI m r:=by
 induction k with
 |mk kind mode reg loc args th el h1 h2 h3 ih1 ih2=>exact .mk _ _ _ _ _ _ _ (fun e=>h _ (h1 e)) ih1 ih2
theorem GS.len{l:List ByteArray}{r:List VV}(h:GS l r):r.length=7:=by cases h;rfl
theorem GS.frz{l:List ByteArray}{r:List VV}(h:GS l r){hh:VH}{d:Nat}:B5 (frz hh (d+1)) r=some (r,[]):=by cases h;rfl
theorem GS.take{l:List ByteArray}{r:List VV}(h:GS l r):r.take 7=r:=by cases h;rfl
theorem GS.cell{l:List ByteArray}{r:List VV}(h:GS l r):r.all VV.cell=true:=by cases h;rfl
theorem Aa6{c:List ByteArray}{l:List (List VV)}(h:∀k∈l,GS c k):DH 7 l=true:=by
 unfold DH
 rw[List.all_eq_true]
 intro r hr
 rw[(h r hr).len];rfl
theorem E7{t t':A2}{l:List AI}(h:t'.nodes=t.nodes++l){i:Nat}(hi:i<t.nodes.length):t'.at i=t.at i:=by
 grind[A2.at]
theorem AaX{t t':A2}{l:List AI}(h:t'.nodes=t.nodes++l){i:Nat}(hi:t.nodes.length<=i)(h2:i<t'.nodes.length):t'.at i∈l:=by
 grind[A2.at]
structure ZT(t t':A2)(l:List AI):Prop where
 n:t'.nodes=t.nodes++l
 v:t'.vals=t.vals
 l:t'.locs=t.locs
 r:t'.regs=t.regs
theorem ZT.len{t t':A2}{l:List AI}(h:ZT t t' l):t.nodes.length<=t'.nodes.length:=by rw[h.n,List.length_append];omega
theorem A2w{t t':A2}{l:List AI}(h:ZT t t' l){u a:Nat}(hu:u<t.nodes.length)(hx:∀x∈l,x.up≠(u:Int)):C6 t' a u=C6 t a u:=by
 unfold C6
 by_cases ha:a<t.nodes.length
 .have:=h.len
  have h0:a<t'.nodes.length:=by omega
  rw[E7 h.n ha,E7 h.n hu,decide_eq_true ha,decide_eq_true h0]
 .rw[decide_eq_false ha]
  by_cases h0:a<t'.nodes.length
  .have:=hx _ (AaX h.n (by omega) h0)
   rw[decide_eq_false this];simp
  .rw[decide_eq_false h0];simp
theorem A1P{t t':A2}{l:List AI}(h:ZT t t' l){u:Nat}(hu:u<t.nodes.length)(hx:∀x∈l,x.up≠(u:Int)):JN t' u=JN t u:=by
 unfold JN
 by_cases ha:u+1<t.nodes.length
 .have:=h.len
  have h0:u+1<t'.nodes.length:=by omega
  rw[E7 h.n ha,decide_eq_true ha,decide_eq_true h0]
 .rw[decide_eq_false ha]
  by_cases h0:u+1<t'.nodes.length
  .have:=hx _ (AaX h.n (by omega) h0)
   rw[decide_eq_false this];simp
  .rw[decide_eq_false h0];simp
theorem G3.lt{t:A2}:∀{n u e:Nat},G3 t n u e->u<e:=by
 intro n
 induction n with
 |zero=>intro u e h;exact h.elim
 |succ n ih=>
  intro u e h
  rcases h.2 with ⟨_,_,rfl⟩|⟨_,_,_,_,b⟩|⟨_,_,_,vals,k,loc,mode,_,h0,hk0,hke,_,hs,_⟩
  .omega
  .have:=ih b;omega
  .have h1:∀j,j<=vals->u+1<=k j:=by
    intro j
    induction j with
    |zero=>intro _;omega
    |succ j ihj=>
     grind
   grind
theorem Mk{t:A2}{a u:Nat}(h:C6 t a u=true):a<t.nodes.length:=by
 simp_all[C6]
theorem A9U{t:A2}{n:Nat}{k:Nat->Nat}{vals:Nat}(hs:∀v,v<vals->G3 t n (k v) (k (v+1))):∀i j,i<=j->j<=vals->k i<=k j:=by
 intro i j h0 hj
 induction j with
 |zero=>grind
 |succ j ih=>
  by_cases e:i=j+1
  .subst e;exact Nat.le_refl _
  .have h1:=ih (by omega) (by omega)
   have h2:=(hs j (by omega)).lt
   omega
theorem G3.le{t:A2}:∀{n u e:Nat},G3 t n u e->e<=t.nodes.length:=by
 intro n
 induction n with
 |zero=>intro u e h;exact h.elim
 |succ n ih=>
  intro u e h
  rcases h.2 with ⟨_,_,rfl⟩|⟨_,_,_,_,b⟩|⟨_,_,_,vals,k,loc,mode,_,h0,hk0,hke,_,hs,_⟩
  .exact h.1.1
  .exact ih b
  .have:=ih (hs (vals-1) (by omega)).2.2
   grind
theorem G3.more{t t':A2}{l:List AI}(h:ZT t t' l):∀{n u e:Nat},G3 t n u e->(∀x∈l,x.up<(u:Int)\/(e:Int)<=x.up)->G3 t' n u e:=by
 intro n
 induction n with
 |zero=>intro u e b;exact b.elim
 |succ n ih=>
  intro u e b hx
  have h4:=b.lt
  have h0:=b.le
  have hl:=h.len
  obtain⟨⟨i1,i2,i3⟩,b⟩:=b
  have hu:t'.at u=t.at u:=E7 h.n i1
  have hc:∀a,C6 t' a u=C6 t a u:=fun a=>A2w h i1 fun x hx' e'=>by rcases hx x hx' with h1|h1<;>omega
  refine⟨⟨by omega,by rw[hu];exact i2,by rw[hu,h.r];exact i3⟩,?_⟩
  rcases b with ⟨b1,b2,b3⟩|⟨b1,b2,b3,b4,b5⟩|⟨b1,b2,b3,vals,k,loc,mode,b4,b5,b6,b7,b8,b9,b10⟩
  .refine .inl ⟨(hc _).trans b1,?_,b3⟩
   unfold A68 Gj at b2 ⊢
   rw[hu,h.r,h.v];exact b2
  .refine .inr (.inl ⟨(hc _).trans b1,by rw[hu];exact b2,by rw[hu];exact b3,?_,ih b5 fun x hx'=>?_⟩)
   .have:=Mk b1
    unfold Dc Ka Gj at b4 ⊢
    rw[hu,E7 h.n this,h.l,h.v];exact b4
   grind
  .have hr:=A9U fun v hv=>(b9 v hv).2.2
   refine .inr (.inr ⟨(hc _).trans b1,by rw[hu];exact b2,by rw[hu];exact b3,vals,k,loc,mode,by rw[h.v];exact b4,b5,b6,b7,by unfold Ka at b8 ⊢;rw[h.l];exact b8,fun v hv=>?_,?_⟩)
   .obtain⟨c1,c2,c3⟩:=b9 v hv
    have h1:=hr 0 v (by omega) (by omega)
    have h2:=hr (v+1) vals (by omega) (by omega)
    refine⟨(hc _).trans c1,?_,ih c3 fun x hx'=>?_⟩
    .unfold Em at c2 ⊢
     rw[E7 h.n (Mk c1)];exact c2
    grind
   .rcases b10 with b10|⟨c1,c2,v,c3,c4⟩
    .exact .inl b10
    .have h1:=hr 0 v (by omega) (by omega)
     have h2:=hr (v+1) vals (by omega) (by omega)
     have h3:=(b9 v c3).2.2.lt
     refine .inr ⟨c1,c2,v,c3,?_⟩
     grind[A1P]
theorem G3.fuel{t:A2}:∀{n u e:Nat},G3 t n u e->G3 t (n+1) u e:=by
 intro n
 induction n with
 |zero=>intro u e h;exact h.elim
 |succ n ih=>
  intro u e h
  refine⟨h.1,?_⟩
  rcases h.2 with b|⟨b1,b2,b3,b4,b5⟩|⟨b1,b2,b3,vals,k,loc,mode,b4,b5,b6,b7,b8,b9,b10⟩
  .exact .inl b
  .grind
  .exact .inr (.inr ⟨b1,b2,b3,vals,k,loc,mode,b4,b5,b6,b7,b8,fun v hv=>⟨(b9 v hv).1,(b9 v hv).2.1,ih (b9 v hv).2.2⟩,b10⟩)
theorem G3.fuel'{t:A2}{n m u e:Nat}(h:G3 t n u e)(hm:n<=m):G3 t m u e:=by
 induction m with
 |zero=>grind
 |succ m ih=>
  grind[fuel]
abbrev TT(vals:Int)(locs:List ByteArray)(rg:List (List ByteArray))(ns:List AI):A2:=⟨vals,locs,rg,ns⟩
def ZS(vals:Int)(locs:List ByteArray)(rg:List (List ByteArray))(ns:List AI)(n:AI)(ns':List AI):Prop:=
 ∃(f:Bool) (g:List Int) (l:List AI),ns'=ns++{ n with fin:=f,regs:=g }::l/\(∀x∈l,(ns.length:Int)<=x.up)/\∃m,G3 (TT vals locs rg ns') m ns.length ns'.length
def Jd(nl:Nat)(vals:Int)(m n:AI):Bool:=
 (decide (n.kind=4)&&decide (n.loc=0)&&decide (n.val=0)&&!n.rmw&&decide (1<=n.mode)&&decide (n.mode<=4)) ||
 (decide (n.kind=3)&&(decide (0<=n.loc)&&decide (n.loc<nl))&&(decide (0<=n.val)&&decide (n.val<vals)) &&
  (if n.rmw then decide (0<=n.mode)&&decide (n.mode<=4)&&decide (m.kind=2)&&decide (m.loc=n.loc)&&decide (m.mode=n.mode)else decide (n.mode=0)||decide (n.mode=2)||decide (n.mode=4)))
theorem A2n(t:A2)(u:Nat):Dc t u=Jd t.locs.length t.vals (t.at u) (t.at (u+1)):=rfl
theorem MZ{vals:Int}{locs:List ByteArray}{rg:List (List ByteArray)}{a:List AI}{x:AI}{b:List AI}:(TT vals locs rg (a++x::b)).at a.length=x:=by
 simp[A2.at]
theorem Afu{vals:Int}{locs:List ByteArray}{rg:List (List ByteArray)}{a:List AI}{x y:AI}{b:List AI}:(TT vals locs rg (a++x::y::b)).at (a.length+1)=y:=by
 simp[A2.at]
theorem Acu{vals:Int}{locs:List ByteArray}{rg:List (List ByteArray)}{ns:List AI}{n:AI}{th:Nat}(ht:n.thread=th)(hth:th<rg.length){g:List Int}(hg:g.length=(rg.getD th []).length)(hv:∀v∈g,0<=v/\v<vals) :
  ZS vals locs rg ns n (ns++[{ n with fin:=true,regs:=g }]):=by
 refine⟨true,g,[],rfl,by simp,1,?_⟩
 have ha:(TT vals locs rg (ns++[{ n with fin:=true,regs:=g }])).at ns.length = { n with fin:=true,regs:=g }:=MZ
 have hl:(TT vals locs rg (ns++[{ n with fin:=true,regs:=g }])).nodes.length=ns.length+1:=by simp
 refine⟨⟨by omega,by rw[ha];show 0<=n.thread;omega,by grind⟩,.inl ⟨?_,?_,by simp⟩⟩
 .unfold C6
  rw[hl];simp
 simp_all[A68,Gj]
theorem Tz{n:AI}(h1:n.fin=false)(h2:n.regs=[]):({ n with fin:=false,regs:=[] }:AI)=n:=by
 cases n;simp at h1 h2;subst h1;subst h2;rfl
theorem LH{vals:Int}{locs:List ByteArray}{rg:List (List ByteArray)}{ns:List AI}{n x:AI}{th:Nat}(ht:n.thread=th)(hth:th<rg.length)(hf:n.fin=false)(hr:n.regs=[])(hxu:x.up=ns.length)(hxt:x.thread=th)
  (ha:Jd locs.length vals n x=true) {ns':List AI} (h:ZS vals locs rg (ns++[n]) x ns'):ZS vals locs rg ns n ns':=by
 obtain⟨f,g,l,rfl,h1,m,h2⟩:=h
 refine⟨false,[],{ x with fin:=f,regs:=g }::l,?_,?_,m+1,?_⟩
 .rw[Tz hf hr];simp
 .grind
 .have e:ns++[n]++{ x with fin:=f,regs:=g }::l=ns++n::{ x with fin:=f,regs:=g }::l:=by simp
  rw[e]at h2 ⊢
  have a0:(TT vals locs rg (ns++n::{ x with fin:=f,regs:=g }::l)).at ns.length=n:=MZ
  have a1:(TT vals locs rg (ns++n::{ x with fin:=f,regs:=g }::l)).at (ns.length+1) = { x with fin:=f,regs:=g }:=Afu
  have hl:ns.length+1<(TT vals locs rg (ns++n::{ x with fin:=f,regs:=g }::l)).nodes.length:=by simp
  refine⟨⟨by omega,by rw[a0];omega,by grind⟩,.inr (.inl ⟨?_,by rw[a0];exact hf,by rw[a0];exact hr,?_,?_⟩)⟩
  .grind[C6]
  .rw[A2n,a0,a1];exact ha
  .simpa using h2
theorem Pc{vals:Int}{locs:List ByteArray}{rg:List (List ByteArray)}{ns:List AI}{x y:AI}{ns':List AI}(hu:y.up=ns.length)(hr:y.rmw=true)(h:ZS vals locs rg (ns++[x]) y ns'):JN (TT vals locs rg ns') ns.length=true:=by
 obtain⟨f,g,l,rfl,_⟩:=h
 grind[MZ,JN]
def ZY(vals:Int)(locs:List ByteArray)(rg:List (List ByteArray))(ns:List AI)(n:AI)(v:Nat)(loc mode:Int)(rm:Nat->Bool)(nsv:List AI):Prop:=
 ∃(l:List AI) (k:Nat->Nat),nsv=ns++n::l/\(∀x∈l,(ns.length:Int)<=x.up)/\k 0=ns.length+1/\k v=nsv.length /\
  ∀j,j<v->C6 (TT vals locs rg nsv) (k j) ns.length=true/\Em (TT vals locs rg nsv) (k j) j loc mode=true/\(∃m,G3 (TT vals locs rg nsv) m (k j) (k (j+1)))/\(rm j=true->JN (TT vals locs rg nsv) (k j)=true)
theorem M0{vals:Int}{locs:List ByteArray}{rg:List (List ByteArray)}{ns:List AI}{n:AI}{loc mode:Int}{rm:Nat->Bool}:ZY vals locs rg ns n 0 loc mode rm (ns++[n]):=
 ⟨[],fun _=>ns.length+1,rfl,by simp,rfl,by simp,fun j hj=>by omega⟩
theorem Abg{t t':A2}{l:List AI}(h:ZT t t' l){u a:Nat}(hu:u<t.nodes.length)(ha:a<t.nodes.length):C6 t' a u=C6 t a u:=by
 unfold C6
 have:=h.len
 rw[E7 h.n ha,E7 h.n hu,decide_eq_true ha,decide_eq_true (show a<t'.nodes.length by omega)]
theorem Aj0{t:A2}{k:Nat->Nat}{v:Nat}(h:∀j,j<v->∃m,G3 t m (k j) (k (j+1))):∀i j,i<=j->j<=v->k i<=k j:=by
 intro i j h0 hj
 induction j with
 |zero=>grind
 |succ j ih=>
  by_cases e:i=j+1
  .subst e;exact Nat.le_refl _
  .have h1:=ih (by omega) (by omega)
   obtain⟨m,h2⟩:=h j (by omega)
   have:=h2.lt
   omega
theorem Jy{vals:Int}{locs:List ByteArray}{rg:List (List ByteArray)}{ns:List AI}{n x:AI}{v:Nat}{loc mode:Int}{rm:Nat->Bool}{nsv ns':List AI}(h:ZY vals locs rg ns n v loc mode rm nsv)
  (hxu:x.up=ns.length) (hxt:x.thread=n.thread) (hk:x.kind=2) (hv:x.val=v) (hl:x.loc=loc) (hm:x.mode=mode) (hr:x.rmw=false) (hg:ZS vals locs rg nsv x ns') (hrm:rm v=true->JN (TT vals locs rg ns') nsv.length=true) :
  ZY vals locs rg ns n (v+1) loc mode rm ns':=by
 obtain⟨l,k,rfl,h1,h2,h3,h4⟩:=h
 obtain⟨f,g,l',rfl,g1,m',g2⟩:=hg
 have mo:ZT (TT vals locs rg (ns++n::l)) (TT vals locs rg ((ns++n::l)++{ x with fin:=f,regs:=g }::l')) ({ x with fin:=f,regs:=g }::l'):=⟨rfl,rfl,rfl,rfl⟩
 have h0:(TT vals locs rg (ns++n::l)).nodes.length=(ns++n::l).length:=rfl
 have ru:=Aj0 (t:=TT vals locs rg (ns++n::l)) (k:=k) (v:=v) fun j hj=>(h4 j hj).2.2.1
 have h5:ns.length<(ns++n::l).length:=by simp
 refine⟨l++{ x with fin:=f,regs:=g }::l',fun j=>if j<=v then k j else((ns++n::l)++{ x with fin:=f,regs:=g }::l').length,by simp,?_,by simp[h2],if_neg (by omega),?_⟩
 .grind
 .intro j hj
  dsimp only
  rw[if_pos (show j<=v by omega)]
  by_cases e:j=v
  .subst e
   rw[h3,if_neg (by omega)]
   grind[MZ,C6,Em]
  .rw[if_pos (show j+1<=v by omega)]
   obtain⟨c1,c2,⟨m,c3⟩,c4⟩:=h4 j (by omega)
   have c0:=Mk c1
   have r1:=ru (j+1) v (by omega) (Nat.le_refl _)
   have r0:=ru 0 j (by omega) (by omega)
   have r2:=c3.lt
   rw[h3]at r1
   rw[h2]at r0
   have hx:∀y∈({ x with fin:=f,regs:=g }::l':List AI),y.up<(k j:Int)\/(k (j+1):Int)<=y.up:=by
    grind
   refine⟨?_,?_,⟨m,c3.more mo hx⟩,fun h=>?_⟩
   .grind[Abg]
   .unfold Em at c2 ⊢
    rw[E7 mo.n c0];exact c2
   grind[A1P]
theorem Acp{t:A2}{k:Nat->Nat}:∀v,(∀j,j<v->∃m,G3 t m (k j) (k (j+1)))->∃M,∀j,j<v->G3 t M (k j) (k (j+1)):=by
 intro v
 induction v with
 |zero=>simp_all
 |succ v ih=>
  intro h
  obtain⟨M,hM⟩:=ih fun j hj=>h j (by omega)
  obtain⟨m,hm⟩:=h v (by omega)
  refine⟨max M m,fun j hj=>?_⟩
  by_cases e:j=v
  .subst e;exact hm.fuel' (Nat.le_max_right _ _)
  .exact(hM j (by omega)).fuel' (Nat.le_max_left _ _)
theorem N7{vals:Nat}{locs:List ByteArray}{rg:List (List ByteArray)}{ns:List AI}{n:AI}{th:Nat}(ht:n.thread=th)(hth:th<rg.length)(hf:n.fin=false)(hr:n.regs=[]){loc mode:Int}{rm:Nat->Bool}{nsv:List AI}(hv:0<vals)(hl:0<=loc/\loc<locs.length)
  (hm:(mode=0\/mode=1\/mode=4)\/(0<=mode/\mode<=4/\∃v,v<vals/\rm v=true)) (h:ZY vals locs rg ns n vals loc mode rm nsv):ZS vals locs rg ns n nsv:=by
 obtain⟨l,k,rfl,h1,h2,h3,h4⟩:=h
 refine⟨false,[],l,by rw[Tz hf hr],h1,?_⟩
 obtain⟨M,hM⟩:=Acp vals fun j hj=>(h4 j hj).2.2.1
 have a0:(TT vals locs rg (ns++n::l)).at ns.length=n:=MZ
 have c0:=(h4 0 hv).1
 rw[h2]at c0
 refine⟨M+1,⟨by have:=Mk c0;omega,by rw[a0];omega,by grind⟩,.inr (.inr ⟨c0,by rw[a0];exact hf,by rw[a0];exact hr,vals,k,loc,mode,rfl,hv,h2,h3,?_,fun v hv=>⟨(h4 v hv).1,(h4 v hv).2.1,hM v hv⟩,?_⟩)⟩
 .simp[Ka,hl.1,hl.2]
 grind
def Thr(vals:Int)(locs:List ByteArray)(rg:List (List ByteArray))(i:Nat)(ns:List AI):Prop:=
 (locs.length<=ns.length/\∀j,j<locs.length->GT (TT vals locs rg ns) j=true)/\∃s:Nat->Nat,s 0=locs.length/\s i=ns.length /\
  ∀j,j<i->DO (TT vals locs rg ns) (s j) j=true/\∃m,G3 (TT vals locs rg ns) m (s j) (s (j+1))
theorem AeA{vals:Int}{locs:List ByteArray}{rg:List (List ByteArray)}{i:Nat}{ns ns':List AI}{x:AI}(h:Thr vals locs rg i ns)(hx:x = ⟨i,-1,1,0,0,0,false,false,[]⟩)(hg:ZS vals locs rg ns x ns'):Thr vals locs rg (i+1) ns':=by
 subst hx
 obtain⟨⟨h1,h2⟩,s,s0,si,hs⟩:=h
 obtain⟨f,g,l,rfl,g1,m,g2⟩:=hg
 let x':AI:=⟨i,-1,1,0,0,0,false,f,g⟩
 have mo:ZT (TT vals locs rg ns) (TT vals locs rg (ns++x'::l)) (x'::l):=⟨rfl,rfl,rfl,rfl⟩
 have hl:(TT vals locs rg ns).nodes.length=ns.length:=rfl
 have ru:=Aj0 (t:=TT vals locs rg ns) (k:=s) (v:=i) fun j hj=>(hs j hj).2
 refine⟨⟨by simp;omega,fun j hj=>?_⟩,fun j=>if j<=i then s j else(ns++x'::l).length,by simp[s0],if_neg (by omega),fun j hj=>?_⟩
 .have:=h2 j hj
  unfold GT Gj at this ⊢
  rw[E7 mo.n (by rw[hl];omega)]
  exact this
 .dsimp only
  rw[if_pos (show j<=i by omega)]
  by_cases e:j=i
  .subst e
   rw[si,if_neg (by omega)]
   grind[DO,MZ]
  .rw[if_pos (show j+1<=i by omega)]
   obtain⟨b1,m2,b2⟩:=hs j (by omega)
   have r1:=ru (j+1) i (by omega) (Nat.le_refl _)
   have r2:=b2.lt
   rw[si]at r1
   refine⟨?_,m2,b2.more mo fun y hy=>?_⟩
   .unfold DO at b1 ⊢
    rw[E7 mo.n (by rw[hl];omega)];exact b1
   grind
def Sw(ini:List (ByteArray×Int))(k:Nat):List AI:=(List.range k).map fun(i:Nat)=>(⟨-1,-1,3,(i:Int),0,(ini.getD i default).2,false,false,[]⟩:AI)
theorem Ms(ini:List (ByteArray×Int))(k:Nat):(Sw ini k).length=k:=by simp[Sw]
theorem A9T(ini:List (ByteArray×Int))(k:Nat):Sw ini (k+1)=Sw ini k++[⟨-1,-1,3,k,0,(ini.getD k default).2,false,false,[]⟩]:=by
 grind[Sw,range_succ]
theorem AeB{vals:Int}{rg:List (List ByteArray)}{ini:List (ByteArray×Int)}(hv:∀x∈ini,0<=x.2/\x.2<vals):Thr vals (ini.map (·.1)) rg 0 (Sw ini ini.length):=by
 refine⟨⟨by simp[Ms],fun j hj=>?_⟩,fun _=>ini.length,by simp,by simp[Ms],fun j hj=>by omega⟩
 grind[Sw,A2.at,Aa,GT,Gj]
theorem Aar{vals:Int}{locs:List ByteArray}{rg:List (List ByteArray)}{ns:List AI}(h:Thr vals locs rg rg.length ns)(v2:2<=vals)(v4:vals<=4)(l4:locs.length<=4)(ln:locs.Nodup)(n64:ns.length<=64)(r1:1<=rg.length)(r4:rg.length<=4)(rl:∀l∈rg,l.length<=4/\l.Nodup):A7 (TT vals locs rg ns) where
 v2:=v2
 v4:=v4
 l4:=l4
 ln:=ln
 n64:=n64
 r1:=r1
 r4:=r4
 rl:=rl
 first:=h.1
 thr:=h.2
structure ZU(t:A2)(m:Nat):Prop where
 thr:0<=(t.at m).thread
 up0 : -1<=(t.at m).up
 up:(t.at m).up<m
 loc:(t.at m).kind=2\/(t.at m).kind=3->Ka t (t.at m).loc=true
 rmw:(t.at m).rmw=true->0<=(t.at m).up/\(t.at (t.at m).up.toNat).kind=2
 par:0<=(t.at m).up->(t.at (t.at m).up.toNat).thread=(t.at m).thread
theorem Ea{t:A2}{a u:Nat}(h:C6 t a u=true):(t.at a).up=u/\(t.at a).thread=(t.at u).thread:=by
 simp_all[C6]
theorem A9g{t:A2}{u:Nat}(h:Dc t u=true):(t.at (u+1)).kind=2\/(t.at (u+1)).kind=3->Ka t (t.at (u+1)).loc=true:=by
 simp only[Dc,or_eq_true,and_eq_true,decide_eq_true_eq]at h
 grind
theorem A9h{t:A2}{u:Nat}(h:Dc t u=true)(hr:(t.at (u+1)).rmw=true):(t.at u).kind=2:=by
 simp_all[Dc]
theorem Ci{k:Nat->Nat}{m:Nat}:∀n:Nat,k 0<=m->m<k n->∃v,v<n/\k v<=m/\m<k (v+1):=by
 intro n
 induction n with
 |zero=>intro h1 h2;omega
 |succ n ih=>
  grind
theorem G3.good{t:A2}:∀{n u e:Nat},G3 t n u e->∀m,u<m->m<e->ZU t m:=by
 intro n
 induction n with
 |zero=>grind[G3]
 |succ n ih=>
  intro u e h m h1 h2
  obtain⟨⟨_,ht,_⟩,h⟩:=h
  rcases h with ⟨_,_,rfl⟩|⟨c,_,_,al,hb⟩|⟨c,_,_,vals,k,loc,mode,_,_,hk0,hke,hloc,hs,_⟩
  .omega
  .by_cases e1:m=u+1
   .subst e1
    obtain⟨p,q⟩:=Ea c
    exact⟨by omega,by omega,by omega,A9g al,fun hr=>⟨by omega,by grind[A9h]⟩,fun _=>by rw[p,toNat_natCast];exact q.symm⟩
   .exact ih hb m (by omega) h2
  .obtain⟨v,hv,a,b⟩:=Ci (k:=k) (m:=m) vals (by omega) (by omega)
   obtain⟨s1,s2,s3⟩:=hs v hv
   by_cases e1:m=k v
   .subst e1
    obtain⟨p,q⟩:=Ea s1
    simp only[Em,and_eq_true,decide_eq_true_eq]at s2
    exact⟨by omega,by omega,by omega,fun _=>by rw[s2.1.1.2];exact hloc,fun hr=>by rw[hr]at s2;simp at s2,fun _=>by rw[p,toNat_natCast];exact q.symm⟩
   .exact ih s3 m (by omega) b
theorem A7.good{t:A2}(h:A7 t)(m:Nat)(h1:t.locs.length<=m)(h2:m<t.nodes.length):ZU t m:=by
 obtain⟨s,h0,he,hs⟩:=h.thr
 obtain⟨v,hv,a,b⟩:=Ci (k:=s) (m:=m) t.regs.length (by omega) (by omega)
 obtain⟨hb,n,hn⟩:=hs v hv
 by_cases e1:m=s v
 .subst e1
  simp only[DO,and_eq_true,decide_eq_true_eq]at hb
  have k1:=hb.1.1.1.1.2
  have k3:=hb.1.1.1.1.1.2
  have k4:=hb.2
  exact⟨by omega,by omega,by omega,fun k=>by omega,fun hr=>by simp_all,fun h0=>by omega⟩
 .exact hn.good m (by omega) b
structure AaM(t:A2)(i:Nat):Prop where
 thr:(t.at i).thread=-1
 up:(t.at i).up=-1
 kind:(t.at i).kind=3
 loc:(t.at i).loc=i
theorem A7.init{t:A2}(h:A7 t)(i:Nat)(hi:i<t.locs.length):AaM t i:=by
 have:=h.first.2 i hi
 simp only[GT,and_eq_true,decide_eq_true_eq]at this
 obtain⟨⟨⟨⟨⟨⟨⟨⟨a,b⟩,c⟩,d⟩,_⟩,_⟩,_⟩,_⟩,_⟩:=this
 exact⟨a,b,c,d⟩
theorem A7.up{t:A2}(h:A7 t):J9 t:=by
 intro i hi
 by_cases c:i<t.locs.length
 .rw[(h.init i c).up];omega
 .exact(h.good i (by omega) hi).up
theorem A7.wloc{t:A2}(h:A7 t){m:Nat}(hm:m<t.nodes.length)(hk:(t.at m).kind=2\/(t.at m).kind=3):0<=(t.at m).loc/\(t.at m).loc<t.locs.length:=by
 by_cases c:m<t.locs.length
 .rw[(h.init m c).loc];omega
 .have:=(h.good m (by omega) hm).loc hk
  simp_all[Ka]
theorem A7.thr_iff{t:A2}(h:A7 t){m:Nat}(hm:m<t.nodes.length):(t.at m).thread<0↔m<t.locs.length:=by
 by_cases c:m<t.locs.length
 .rw[(h.init m c).thr];omega
 .have:=(h.good m (by omega) hm).thr
  omega
def Uu(t:A2):Nat->Nat->Int
 |0,_=>0
 |n+1,i=>if(t.at i).up<0 then 0 else Uu t n (t.at i).up.toNat+1
def Zb(t:A2):Nat->Nat->BitVec 64
 |0,_=>0#64
 |n+1,i=>if(t.at i).up<0 then 0#64 else Zb t n (t.at i).up.toNat|||BC (t.at i).up
def PB(t:A2)(i:Nat):Int:=Uu t (i+1) i
def ovr(t:A2)(i:Nat):BitVec 64:=Zb t (i+1) i
theorem A9u{t:A2}(h:J9 t):∀(n i:Nat),i<n->i<t.nodes.length->Uu t (n+1) i=Uu t n i:=by
 intro n
 induction n with
 |zero=>intro i hi;omega
 |succ n ih=>
  intro i hi hl
  rw[Uu]
  conv=>rhs;rw[Uu]
  by_cases c:(t.at i).up<0
  .rw[if_pos c,if_pos c]
  .rw[if_neg c,if_neg c]
   have:=h i hl
   rw[ih _ (by omega) (by omega)]
theorem Aa8{t:A2}(h:J9 t):∀(n i:Nat),i<n->i<t.nodes.length->Zb t (n+1) i=Zb t n i:=by
 intro n
 induction n with
 |zero=>intro i hi;omega
 |succ n ih=>
  intro i hi hl
  rw[Zb]
  conv=>rhs;rw[Zb]
  by_cases c:(t.at i).up<0
  .rw[if_pos c,if_pos c]
  .rw[if_neg c,if_neg c]
   have:=h i hl
   rw[ih _ (by omega) (by omega)]
theorem AfH{t:A2}(h:J9 t){i:Nat}(hl:i<t.nodes.length):∀k,Uu t (i+1+k) i=PB t i:=by
 intro k
 induction k with
 |zero=>rfl
 |succ k ih=>grind[A9u]
theorem AhJ{t:A2}(h:J9 t){i:Nat}(hl:i<t.nodes.length):∀k,Zb t (i+1+k) i=ovr t i:=by
 intro k
 induction k with
 |zero=>rfl
 |succ k ih=>grind[Aa8]
theorem A2A{t:A2}(h:J9 t){i u:Nat}(hl:i<t.nodes.length)(hu:(t.at i).up=u):PB t i=PB t u+1:=by
 have:=h i hl
 rw[PB,Uu,if_neg (by omega),hu,toNat_natCast,<- AfH h (by omega) (i-(u+1))]
 grind
theorem Ae3{t:A2}(h:J9 t){i u:Nat}(hl:i<t.nodes.length)(hu:(t.at i).up=u):ovr t i=ovr t u|||BC u:=by
 have:=h i hl
 rw[ovr,Zb,if_neg (by omega),hu,toNat_natCast,<- AhJ h (by omega) (i-(u+1))]
 grind
theorem Abo{t:A2}{i:Nat}(hu:(t.at i).up<0):PB t i=0:=by rw[PB,Uu,if_pos hu]
theorem Ae2{t:A2}{i:Nat}(hu:(t.at i).up<0):ovr t i=0#64:=by rw[ovr,Zb,if_pos hu]
theorem E8{t:A2}(h:J9 t)(a:Int){x:Int}(hx:x<t.nodes.length):L8 t a t.nodes.length x=if x<0 then false else if x=a then true else L8 t a t.nodes.length (t.at x.toNat).up:=by
 rw[<- Tc h a t.nodes.length x hx hx,L8]
theorem Ag7(s r:BitVec 64)(x:Int):Bh (s|||r) x=(Bh s x||Bh r x):=by
 grind[Bh]
theorem Acv(i:Nat)(x:Nat)(hx:x<64):Bh (BC i) (x:Int)=decide (x=i):=by
 grind[Aq,C2]
theorem A09{t:A2}(h:J9 t){a:Nat}(ha:a<64):∀(n b:Nat),b<n->b<t.nodes.length->Bh (ovr t b) a=AK t a b/\(AK t a b=true->PB t a<PB t b):=by
 intro n
 induction n with
 |zero=>intro b hb;omega
 |succ n ih=>
  intro b hb hl
  have h1:=h b hl
  unfold AK
  by_cases c:(t.at b).up<0
  .rw[Ae2 c,E8 h a (by omega),if_pos c]
   grind[Bh]
  .obtain⟨u,hu⟩:=eq_ofNat_of_zero_le (show 0<=(t.at b).up by omega)
   have h0:u<b:=by omega
   obtain⟨i1,i2⟩:=ih u (by omega) (by omega)
   unfold AK at i1 i2
   rw[Ae3 h hl hu,A2A h hl hu,hu,E8 h a (by omega),if_neg (by omega),Ag7,Acv _ _ ha,i1,toNat_natCast]
   grind
theorem AjN{t:A2}(h:J9 t):∀(n i:Nat),i<n->i<t.nodes.length->0<=PB t i/\PB t i<=i:=by
 intro n
 induction n with
 |zero=>intro i hi;omega
 |succ n ih=>
  intro i hi hl
  have h0:=h i hl
  by_cases c:(t.at i).up<0
  .rw[Abo c];omega
  grind[eq_ofNat_of_zero_le,A2A]
def AjM(t:A2):List Int:=(List.range t.nodes.length).map (PB t)
def AlX(t:A2):List (BitVec 64):=(List.range t.nodes.length).map (ovr t)
theorem Ml{t:A2}{i:Nat}(h:i<t.nodes.length):(AjM t)[i]? = some (PB t i):=by simp[AjM,h]
theorem Ae1{t:A2}{i:Nat}(h:i<t.nodes.length):(AlX t)[i]? = some (ovr t i):=by simp[AlX,h]
theorem Ut{t:A2}(h:J9 t)(hn:t.nodes.length<=64){a b:Nat}(ha:a<t.nodes.length)(hb:b<t.nodes.length):(decide (PB t a<PB t b)&&Bh (ovr t b) a)=AK t a b:=by
 grind[A09]
theorem A8Q{α:Type}{n k j:Nat}{f:Nat->α}{z:α}(h:j<k)(hn:j<n):(CR n k f z)[j]? = some (f j):=by
 simp[CR,hn,h]
theorem TZ{α:Type}{n k:Nat}{f:Nat->α}{z:α}(h:f k=z):CR n k f z=CR n (k+1) f z:=by
 unfold CR
 grind
theorem Acn(j:Nat)(hj:j<64):∀(l:List Int) (s:BitVec 64),(l.foldl (fun s i=>s|||BC i) s).getLsbD j=(s.getLsbD j||AQ l (j:Int)):=by
 intro l
 induction l with
 |nil=>intro s;simp[AQ]
 |cons x l ih=>
  intro s
  rw[List.foldl_cons,ih,getLsbD_or,C2]
  have e:AQ (x::l) (j:Int)=(decide ((j:Int)=x)||AQ l (j:Int)):=rfl
  grind
theorem Gw(l:List Int){x:Int}(h0:0<=x)(h1:x<64):Bh (BI l) x=AQ l x:=by
 obtain⟨j,rfl⟩:=eq_ofNat_of_zero_le h0
 grind[Aq,BI,Acn]
theorem CO{s:BitVec 64}{x:Int}(h:Bh s x=true):0<=x/\x<64:=by
 simp only[Bh,and_eq_true,decide_eq_true_eq]at h
 grind
def BF(t:A2)(l:List Int):Prop:=∀n∈l,BZ t n=true
theorem BF.has{t:A2}(ht:t.nodes.length<=64){l:List Int}(h:BF t l)(x:Int):Bh (BI l) x=AQ l x:=by
 by_cases c:0<=x/\x<64
 .exact Gw l c.1 c.2
 .have e1:Bh (BI l) x=false:=by
   rw[<- Bool.not_eq_true]
   exact fun h=>c (CO h)
  have e2:AQ l x=false:=by
   rw[<- Bool.not_eq_true]
   intro h'
   obtain⟨m,rfl,hm⟩:=A9 (h x (Ac.1 h'))
   exact c ⟨by omega,by omega⟩
  rw[e1,e2]
def Bu(t:A2)(has:List Int)(n loc:Int):Bool:=AQ has n&&G7 t n loc
def E9(t:A2)(l has:List Int)(loc:Int)(i:Nat):Bool:=
 Bu t has (l.getD i 0) loc&&decide (0<=(t.at (l.getD i 0).toNat).thread)&&Ch l i&&(!decide (1<l.length)||CY (t.at (l.getD i 0).toNat))&&(decide (i=0)||(l.take i).all fun m=>B1 t (l.getD i 0) m)
def ED(t:A2)(l has:List Int)(loc:Int):Bool:=(List.range l.length).all (E9 t l has loc)&&decide (0<l.length)
theorem Ky{l:List Int}{p:Int->Bool}:∀i,i<=l.length->(l.take i).all p=(List.range i).all fun k=>p (l.getD k 0):=by
 intro i
 induction i with
 |zero=>intro _;rfl
 |succ i ih=>
  grind[List.take_succ_eq_append_getElem,range_succ]
theorem A9p(t:A2)(l has:List Int)(loc:Int):ED t l has loc=Ca t l has loc:=by
 rw[Bool.eq_iff_iff]
 simp only[ED,Ca,and_eq_true,not_eq_true',decide_eq_true_eq,decide_eq_false_iff_not,Ag]
 constructor
 .rintro⟨h1,h2⟩
  refine⟨by omega,fun i hi=>?_⟩
  have:=h1 i hi
  simp only[E9,Bu,and_eq_true,or_eq_true,decide_eq_true_eq]at this
  obtain⟨⟨⟨⟨⟨a,b⟩,c⟩,d⟩,e⟩,f⟩:=this
  simp only[Bb,and_eq_true,decide_eq_true_eq]
  refine⟨⟨⟨⟨a,d⟩,b⟩,c⟩,?_⟩
  rw[<- Ky (p:=fun m=>B1 t (l.getD i 0) m) i (by omega)]
  grind
 .rintro⟨h1,h2⟩
  refine⟨fun i hi=>?_,by omega⟩
  have hp:1<l.length->CY (t.at (l.getD i 0).toNat)=true:=by
   intro hl
   by_cases i0:i=0
   .subst i0
    have:=h2 1 hl
    simp_all[Bb,B1]
   .have:=h2 i hi
    simp only[Bb,and_eq_true,Ag]at this
    have:=this.2 0 (by omega)
    simp_all[B1]
  have:=h2 i hi
  simp only[Bb,and_eq_true,decide_eq_true_eq]at this
  obtain⟨⟨⟨⟨a,d⟩,b⟩,c⟩,f⟩:=this
  simp only[E9,Bu,and_eq_true,or_eq_true,decide_eq_true_eq,not_eq_true',decide_eq_false_iff_not]
  grind[Ky]
def L6(m:List (List Int))(loc:Nat):List Int:=(loc:Int)::(m.drop 1).flatten
def Gm(t:A2)(s:A8)(loc:Nat):Nat:=(s.has.filter fun n=>Bu t s.has n loc).length
def Ln(t:A2)(s:A8)(loc:Nat):Bool:=
 let m:=s.mo.getD loc []
 !decide (m.length=0)&&decide (m.getD 0 []=[(loc:Int)])&&(m.drop 1).all (fun c=>ED t c s.has loc)&&decide ((L6 m loc).length=Gm t s loc)&&decide ((BP (BI (L6 m loc))).length=Gm t s loc)
def Ej(t:A2)(s:A8):Bool:=decide (s.mo.length=t.locs.length)&&(List.range s.mo.length).all (Ln t s)
def Lk(t:A2)(s:A8):Bool:=decide (s.jf.length=s.has.length)&&(List.range s.has.length).all (GU t s)
theorem Hs:∀(l m:List Int),l.Nodup->(∀x∈l,x∈m)->l.length<=m.length:=by
 intro l
 induction l with
 |nil=>intro m _ _;simp
 |cons x l ih=>
  intro m hn hs
  have hx:=hs x List.mem_cons_self
  have h1:x∉l:=(List.nodup_cons.1 hn).1
  have:=ih (m.erase x) (List.nodup_cons.1 hn).2 fun y hy=>by
   grind
  grind
theorem Z5{l m:List Int}(hn:l.Nodup)(hs:∀x∈l,x∈m)(hl:m.length<=l.length):∀x∈m,x∈l:=by
 intro x hx
 refine Classical.byContradiction fun hc=>?_
 have:=Hs l (m.erase x) hn fun y hy=>(List.mem_erase_of_ne fun(e:y=x)=>hc (e ▸ hy)).2 (hs y hy)
 grind
theorem AiR:∀(l S:List Int),S.Nodup->(∀x∈S,x∈l)->l.length<=S.length->l.Nodup:=by
 intro l
 induction l with
 |nil=>intro S _ _ _;exact List.nodup_nil
 |cons x l ih=>
  intro S hn hs hl
  by_cases hx:x∈l
  .have:=Hs S l hn fun y hy=>by
    grind
   grind
  .refine List.nodup_cons.2 ⟨hx,ih (S.erase x) (hn.erase x) (fun y hy=>?_) ?_⟩
   .grind
   grind
theorem A9q(n:Int):∀(m:List (List Int)),(∀c∈m,c.Nodup)->(m.filter fun c=>AQ c n).length=m.flatten.count n:=by
 intro m
 induction m with
 |nil=>intro _;rfl
 |cons c m ih=>
  intro h
  have h1:=h c List.mem_cons_self
  have h2:=ih fun d hd=>h d (List.mem_cons_of_mem _ hd)
  rw[List.flatten_cons,List.count_append,<- h2,List.filter_cons]
  cases e:AQ c n with
  |true=>
   have hm:n∈c:=Ac.1 e
   grind
  |false=>
   grind[Ac]
theorem Am2{l:List Int}(h:∀i,i<l.length->Ch l i=true):∀j,j<l.length->∀i,i<j->l.getD i 0<l.getD j 0:=by
 intro j
 induction j with
 |zero=>intro _ i hi;omega
 |succ j ih=>
  intro hj i hi
  have h1:=h (j+1) hj
  simp only[Ch,or_eq_true,decide_eq_true_eq,Nat.add_sub_cancel]at h1
  grind
theorem KY{l:List Int}(h:∀i,i<l.length->Ch l i=true):l.Nodup:=by
 rw[List.nodup_iff_pairwise_ne,List.pairwise_iff_getElem]
 intro i j hi hj h0 e
 have:=Am2 h j hj i h0
 grind
theorem A11(w:BitVec 64):(BP w).Nodup:=List.Nodup.sublist List.filter_sublist List.nodup_range
theorem A1Q{t:A2}(h64:t.nodes.length<=64){l:List Int}(h:BF t l)(x:Int):x∈(BP (BI l)).map (fun(j:Nat)=>(j:Int))↔x∈l:=by
 constructor
 .intro hx
  obtain⟨j,hj,rfl⟩:=List.mem_map.1 hx
  obtain⟨j1,j2⟩:=A10 hj
  have:=h.has h64 (j:Int)
  grind[Aq,Ac]
 .intro hx
  obtain⟨m,rfl,hm⟩:=A9 (h x hx)
  refine List.mem_map.2 ⟨m,KP.2 ?_,rfl⟩
  have:=h.has h64 (m:Int)
  grind[Aq,Ac]
theorem RW(w:BitVec 64):((BP w).map fun(j:Nat)=>(j:Int)).Nodup:=by
 grind[A11]
theorem Ae0{t:A2}(h64:t.nodes.length<=64){all W:List Int}(ha:BF t all)(hw:W.Nodup)(hs:∀x∈all,x∈W) :
  (all.length=W.length/\(BP (BI all)).length=W.length)↔∀n∈W,all.count n=1:=by
 have hS:=RW (BI all)
 have hm:=fun x=>A1Q h64 ha x
 have hl:((BP (BI all)).map fun(j:Nat)=>(j:Int)).length=(BP (BI all)).length:=List.length_map ..
 generalize ((BP (BI all)).map fun(j:Nat)=>(j:Int))=S at *
 rw[<- hl]
 constructor
 .grind[AiR,Z5]
 .intro h
  have nd:all.Nodup:=by
   grind
  have h0:∀x∈W,x∈all:=fun x hx=>List.count_pos_iff.1 (by rw[h x hx];decide)
  have a1:=Hs all W nd hs
  have a2:=Hs W all hw h0
  have a3:=Hs all S nd fun x hx=>(hm x).2 hx
  have a4:=Hs S all hS fun x hx=>(hm x).1 hx
  omega
theorem Mz{t:A2}{l:List Int}(h:Cg t l=true):BF t l/\l.Nodup/\(Ed t|||BI l=BI l):=by
 simp only[Cg,and_eq_true,decide_eq_true_eq]at h
 have hr:=Ag.1 h.1
 refine⟨fun n hn=>?_,KY fun i hi=>?_,h.2⟩
 .obtain⟨k,hk,rfl⟩:=List.mem_iff_getElem.1 hn
  simp_all[Ce]
 simp_all[Ce]
theorem Agd{t:A2}(ht:A7 t){l:List Int}(h:Cg t l=true){k:Nat}(hk:k<t.locs.length):(k:Int)∈l:=by
 obtain⟨hn,_,hi⟩:=Mz h
 have h1:k<t.nodes.length:=Nat.lt_of_lt_of_le hk ht.first.1
 have h0:=ht.n64
 have e:(Ed t).getLsbD k=true:=by
  unfold Ed
  rw[AA,decide_eq_true h1,(ht.init k hk).up,decide_eq_true (show k<64 by omega)];rfl
 have e2:(BI l).getLsbD k=true:=by rw[<- hi,getLsbD_or,e];rfl
 have:=hn.has h0 (k:Int)
 grind[Aq,Ac]
theorem Un{t:A2}{l has:List Int}{loc:Int}(h:Ca t l has loc=true):l.Nodup/\∀n∈l,Bu t has n loc=true:=by
 simp only[Ca,and_eq_true]at h
 have hr:=Ag.1 h.2
 refine⟨KY fun i hi=>?_,fun n hn=>?_⟩
 .simp_all[Bb]
 .obtain⟨k,hk,rfl⟩:=List.mem_iff_getElem.1 hn
  simp_all[Bb,Bu]
theorem A1d{t:A2}{s:A8}{k:Nat}:Dq t s k=true↔∃D,s.mo.getD k []=[(k:Int)]::D/\∀c∈D,Ca t c s.has k=true:=by
 simp only[Dq,and_eq_true,not_eq_true',decide_eq_false_iff_not,decide_eq_true_eq,Ag,or_eq_true]
 generalize s.mo.getD k []=m
 constructor
 .rintro⟨⟨h1,h2⟩,h3⟩
  rcases m with _|⟨c,D⟩
  .simp at h1
  .refine⟨D,by rw[show c=[(k:Int)] from h2],fun d hd=>?_⟩
   obtain⟨j,hj,rfl⟩:=List.mem_iff_getElem.1 hd
   have:=h3 (j+1) (by simp;omega)
   grind
 grind
theorem RD{t:A2}{s:A8}{k:Nat}:Ln t s k=true↔∃D,s.mo.getD k []=[(k:Int)]::D/\(∀c∈D,Ca t c s.has k=true)/\((s.mo.getD k []).flatten.length=Gm t s k/\(BP (BI (s.mo.getD k []).flatten)).length=Gm t s k):=by
 simp only[Ln,and_eq_true,not_eq_true',decide_eq_false_iff_not,decide_eq_true_eq,List.all_eq_true,A9p]
 generalize s.mo.getD k []=m
 constructor
 .rintro⟨⟨⟨⟨h1,h2⟩,h3⟩,h4⟩,h5⟩
  rcases m with _|⟨c,D⟩
  .simp at h1
  .have e:c=[(k:Int)]:=h2
   subst e
   exact⟨D,rfl,h3,h4,h5⟩
 .rintro⟨D,rfl,h3,h4,h5⟩
  exact⟨⟨⟨⟨by simp,rfl⟩,h3⟩,h4⟩,h5⟩
theorem A8s{t:A2}(ht:A7 t){s:A8}(hn:Cg t s.has=true){i:Nat}(hi:i<s.has.length):Kj t s i=true↔((t.at (s.has.getD i 0).toNat).kind=3->((s.mo.getD (t.at (s.has.getD i 0).toNat).loc.toNat []).filter fun c=>AQ c (s.has.getD i 0)).length=1):=by
 simp only[Kj,or_eq_true,not_eq_true',decide_eq_false_iff_not,decide_eq_true_eq]
 omega
theorem AlC(t:A2)(ht:A7 t)(s:A8):(Cg t s.has&&Lk t s&&Ej t s)=Bj t s:=by
 cases hn:Cg t s.has with
 |false=>simp[Bj,hn]
 |true=>
 obtain⟨hN,hg,_⟩:=Mz hn
 have h7:=ht.n64
 by_cases hm:¬s.mo.length=t.locs.length
 .simp[Bj,Ej,hm]
 have hm:=Decidable.not_not.1 hm
 rw[Bool.eq_iff_iff]
 simp only[Bj,Ej,Lk,hn,decide_eq_true hm,Bool.true_and,Bool.and_true,and_eq_true,decide_eq_true_eq]
 have hj:(∀k,k<s.mo.length->Ln t s k=true)↔((∀k,k<s.mo.length->Dq t s k=true)/\∀i,i<s.has.length->Kj t s i=true):=by
  have W:∀k,k<s.mo.length->∀D,s.mo.getD k []=[(k:Int)]::D->(∀c∈D,Ca t c s.has k=true) ->
    (((s.mo.getD k []).flatten.length=Gm t s k/\(BP (BI (s.mo.getD k []).flatten)).length=Gm t s k)↔∀n∈s.has,Bu t s.has n k=true->((s.mo.getD k []).filter fun c=>AQ c n).length=1):=by
   intro k hk D hD hc
   have h4:k<t.locs.length:=by omega
   have hd:=Agd ht hn h4
   have hh:Bu t s.has k k=true:=by
    simp only[Bu,G7,and_eq_true,decide_eq_true_eq,toNat_natCast]
    exact⟨Ac.2 hd,(ht.init k h4).kind,(ht.init k h4).loc⟩
   have hb:∀c∈s.mo.getD k [],c.Nodup/\∀n∈c,Bu t s.has n k=true:=by
    intro c h5
    rw[hD]at h5
    rcases List.mem_cons.1 h5 with rfl|h
    .grind
    .exact Un (hc c h)
   have h3:∀x∈(s.mo.getD k []).flatten,x∈s.has.filter fun n=>Bu t s.has n k:=by
    intro x hx
    obtain⟨c,h9,ha⟩:=List.mem_flatten.1 hx
    have:=(hb c h9).2 x ha
    simp_all[Bu,Ac]
   have h8:BF t (s.mo.getD k []).flatten:=fun x hx=>hN x (List.mem_filter.1 (h3 x hx)).1
   have:=Ae0 h7 (W:=s.has.filter fun n=>Bu t s.has n k) h8 (List.Nodup.sublist List.filter_sublist hg) h3
   rw[show Gm t s k=(s.has.filter fun n=>Bu t s.has n k).length from rfl,this]
   simp_all[A9q]
  constructor
  .intro h
   refine⟨fun k hk=>?_,fun i hi=>?_⟩
   .grind[RD,A1d]
   .rw[A8s ht hn hi]
    intro k3
    have h0:s.has.getD i 0∈s.has:=Aa hi
    obtain⟨m,h6,hf⟩:=A9 (hN _ h0)
    rw[h6,toNat_natCast]at k3 ⊢
    obtain⟨l1,l2⟩:=ht.wloc hf (.inr k3)
    obtain⟨lc,he⟩:=eq_ofNat_of_zero_le l1
    rw[he,toNat_natCast]
    have hk:lc<s.mo.length:=by omega
    obtain⟨D,hD,hc,hl⟩:=RD.1 (h lc hk)
    refine(W lc hk D hD hc).1 hl m (h6 ▸ h0) ?_
    simp only[Bu,G7,and_eq_true,decide_eq_true_eq,toNat_natCast]
    grind[Ac]
  .rintro⟨h1,h2⟩ k hk
   obtain⟨D,hD,hc⟩:=A1d.1 (h1 k hk)
   refine RD.2 ⟨D,hD,hc,(W k hk D hD hc).2 fun n hn1 hn2=>?_⟩
   obtain⟨i,hi,rfl⟩:=List.mem_iff_getElem.1 hn1
   have e:s.has.getD i 0=s.has[i]:=by grind
   have:=(A8s ht hn hi).1 (h2 i hi)
   simp_all[Bu,G7]
 grind
def Av(n:Nat)(p:Nat->Nat->Bool):Rows:=(List.range n).map fun a=>BR fun b=>decide (b<n)&&p a b
theorem Az{n:Nat}{p:Nat->Nat->Bool}:(Av n p).length=n:=by simp[Av]
theorem BK{n:Nat}{p:Nat->Nat->Bool}{a:Nat}(h:a<n):(Av n p)[a]? = some (BR fun b=>decide (b<n)&&p a b):=by simp[Av,h]
theorem GY{n:Nat}{p:Nat->Nat->Bool}{a b:Nat}(hn:n<=64)(h:a<n)(hb:b<n):Bh ((Av n p).getD a 0#64) (b:Int)=p a b:=by
 grind[BK,Aq,AA]
def Eb(t:A2)(x f:List Int)(i:Nat):Bool:=
 if(t.at (x.getD i 0).toNat).kind=2 then AQ x (f.getD i 0)&&G7 t (f.getD i 0) (t.at (x.getD i 0).toNat).loc else decide (f.getD i 0=-1)
def Bk(t:A2)(x:List Int)(i:Nat):Bool:=BZ t (x.getD i 0)&&Ch x i
def Cb(t:A2)(x f:List Int):Bool:=decide (x.length=f.length)&&(List.range x.length).all (Bk t x)&&(List.range x.length).all (Eb t x f)
def CA(x f:List Int)(n:Int):Int:=if AQ x n then f.getD (BH x n).toNat 0 else -1
structure Dg(t:A2)(x f:List Int):Prop where
 len:x.length=f.length
 node:BF t x
 nd:x.Nodup
 at_:∀i,i<x.length->CA x f (x.getD i 0)=f.getD i 0
 read:∀n,n∈x->(t.at n.toNat).kind=2->CA x f n∈x/\(t.at (CA x f n).toNat).kind=3/\(t.at (CA x f n).toNat).loc=(t.at n.toNat).loc
 none:∀n,n∈x->(t.at n.toNat).kind≠2->CA x f n=-1
theorem CX{x:List Int}(h:x.Nodup){i:Nat}(hi:i<x.length):BH x (x.getD i 0)=i:=by
 have hm:AQ x (x.getD i 0)=true:=Ac.2 (Aa hi)
 grind[Bn,List.pairwise_iff_getElem]
theorem Bv{t:A2}{x f:List Int}(h:Cb t x f=true):Dg t x f:=by
 simp only[Cb,and_eq_true,decide_eq_true_eq,Ag,Bk]at h
 obtain⟨⟨h1,h2⟩,h3⟩:=h
 have h0:BF t x:=by
  intro n hn
  obtain⟨i,hi,rfl⟩:=List.getElem_of_mem hn
  grind
 have h5:x.Nodup:=KY fun i hi=>(h2 i hi).2
 have h4:∀i,i<x.length->CA x f (x.getD i 0)=f.getD i 0:=by
  intro i hi
  unfold CA
  rw[if_pos (Ac.2 (Aa hi)),CX h5 hi,toNat_natCast]
 refine⟨h1,h0,h5,h4,?_,?_⟩
 .intro n hn hk
  obtain⟨i,hi,rfl⟩:=List.getElem_of_mem hn
  have e:x[i]=x.getD i 0:=by grind
  have h6:=h3 i hi
  rw[e]at hk ⊢
  rw[h4 i hi]
  simp_all[Eb,G7,Ac]
 .intro n hn hk
  obtain⟨i,hi,rfl⟩:=List.getElem_of_mem hn
  have e:x[i]=x.getD i 0:=by grind
  have h6:=h3 i hi
  rw[e]at hk ⊢
  rw[h4 i hi]
  simp_all[Eb]
def ahF(t:A2)(x f:List Int)(w:Int):Int:=if(t.at w.toNat).rmw=true/\AQ x (t.at w.toNat).up=true then CA x f (t.at w.toNat).up else -1
def Ae4(t:A2)(x:List Int)(w:Int)(n:Nat):Bool:=(decide ((n:Int)=w)&&Et (t.at n))||(AQ x (n:Int)&&decide ((t.at n).kind=4)&&Et (t.at n)&&Ao t n w)
def MC(t:A2)(x:List Int)(w:Int):BitVec 64:=BR (Ae4 t x w)
def HS(t:A2)(w:Int):Bool:=decide (w<0)||decide ((t.at w.toNat).thread<0)
def JH(t:A2)(x f:List Int):Nat->Int->BitVec 64
 |0,_=>0#64
 |k+1,w=>if HS t w=true then 0#64 else MC t x w|||JH t x f k (ahF t x f w)
def B0(t:A2)(x f:List Int)(w:Int):BitVec 64:=JH t x f (x.length+1) w
def JS(t:A2)(x f:List Int):Nat->Int->Int
 |0,w=>w
 |k+1,w=>ahF t x f (JS t x f k w)
theorem K8(t:A2)(x f:List Int):∀(k:Nat) (w:Int),JS t x f (k+1) w=JS t x f k (ahF t x f w)
 |0,w=>rfl
 |k+1,w=>by rw[JS,K8 t x f k w];rfl
theorem HO(t:A2)(x f:List Int)(b:Nat):∀(k:Nat) (w:Int),(JH t x f k w).getLsbD b=true↔∃j,j<k/\(∀i,i<=j->HS t (JS t x f i w)=false)/\(MC t x (JS t x f j w)).getLsbD b=true
 |0,w=>by simp[JH]
 |k+1,w=>by
  rw[JH]
  by_cases c:HS t w=true
  .rw[if_pos c]
   constructor
   .intro h;simp at h
   .rintro⟨j,_,h,_⟩
    have:=h 0 (Nat.zero_le _)
    rw[JS,c]at this;cases this
  .rw[if_neg c,getLsbD_or,or_eq_true,HO t x f b k]
   constructor
   .rintro(h|⟨j,h1,h2,h3⟩)
    .exact⟨0,by omega,fun i hi=>by rw[Nat.le_zero.1 hi];exact Bool.eq_false_iff.2 c,h⟩
    .refine⟨j+1,by omega,fun i hi=>?_,by rw[K8];exact h3⟩
     rcases i with _|i
     .exact Bool.eq_false_iff.2 c
     .rw[K8];exact h2 i (by omega)
   .rintro⟨j,h1,h2,h3⟩
    rcases j with _|j
    .exact .inl h3
    .refine .inr ⟨j,by omega,fun i hi=>?_,by rw[K8]at h3;exact h3⟩
     have:=h2 (i+1) (by omega)
     rwa [K8]at this
def QE(t:A2)(x f:List Int)(w:Int)(i:Nat):BitVec 64:=(List.range i).foldl (fun s j=>s|||MC t x (JS t x f j w)) 0#64
theorem A4k(t:A2)(x f:List Int)(w:Int)(i:Nat):QE t x f w (i+1)=QE t x f w i|||MC t x (JS t x f i w):=by
 grind[QE,range_succ]
theorem Tu(t:A2)(x f:List Int)(w:Int)(b:Nat)(i:Nat):(QE t x f w i).getLsbD b=true↔∃j,j<i/\(MC t x (JS t x f j w)).getLsbD b=true:=by
 simp_all[QE,V2]
def JO(t:A2)(x f:List Int)(w:Int)(i:Nat):List Int:=(List.range i).map fun j=>JS t x f j w
theorem U5(t:A2)(x f:List Int)(w:Int)(i:Nat):JO t x f w (i+1)=JO t x f w i++[JS t x f i w]:=by
 grind[JO,range_succ]
theorem PZ{t:A2}{x f:List Int}{w:Int}{i:Nat}{v:Int}:v∈JO t x f w i↔∃j,j<i/\JS t x f j w=v:=by
 simp[JO]
theorem A5W{t:A2}(ht:A7 t){x f:List Int}(h:Dg t x f){w:Int}(hw:w∈x):ahF t x f w=-1\/(ahF t x f w∈x/\(t.at (ahF t x f w).toNat).kind=3):=by
 unfold ahF
 by_cases c:(t.at w.toNat).rmw=true/\AQ x (t.at w.toNat).up=true
 .rw[if_pos c]
  obtain⟨m,rfl,hm⟩:=A9 (h.node w hw)
  rw[toNat_natCast]at c ⊢
  have hl:t.locs.length<=m:=by
   rcases Nat.lt_or_ge m t.locs.length with h1|h1
   .have:=ht.first.2 m h1
    simp_all[GT]
   .exact h1
  obtain⟨_,k2⟩:=(ht.good m hl hm).rmw c.1
  obtain⟨r1,r2,_⟩:=h.read _ (Ac.1 c.2) k2
  exact .inr ⟨r1,r2⟩
 .rw[if_neg c];exact .inl rfl
theorem LJ{t:A2}(ht:A7 t){x f:List Int}(h:Dg t x f){w:Int}(hw:w∈x):∀(i:Nat),(∀j,j<i->HS t (JS t x f j w)=false)->JS t x f i w=-1\/JS t x f i w∈x
 |0,_=>.inr hw
 |i+1,hi=>by
  rcases LJ ht h hw i (fun j hj=>hi j (by omega))with e|e
  .have:=hi i (by omega)
   rw[e]at this;cases this
  .rcases A5W ht h e with e|e
   .exact .inl e
   .exact .inr e.1
theorem Ai9{t:A2}(ht:A7 t){x f:List Int}(h:Dg t x f){w:Int}(hw:w∈x){i:Nat}(hoff:∀j,j<i->HS t (JS t x f j w)=false)(hnd:(JO t x f w i).Nodup)
  (he:HS t (JS t x f i w)=true\/JS t x f i w∈JO t x f w i):QE t x f w i=B0 t x f w:=by
 have h6:i<=x.length:=by
  have h1:(JO t x f w i).length=i:=by simp[JO]
  rw[<- h1]
  refine Hs _ _ hnd fun v hv=>?_
  obtain⟨j,hj,rfl⟩:=PZ.1 hv
  rcases LJ ht h hw j (fun k hk=>hoff k (by omega))with e|e
  .have:=hoff j hj
   rw[e]at this;cases this
  .exact e
 apply ZZ.anti
 .intro b hb
  obtain⟨j,hj,h1⟩:=(Tu _ _ _ _ _ _).1 hb
  exact(HO _ _ _ _ _ _).2 ⟨j,by omega,fun k hk=>hoff k (by omega),h1⟩
 .intro b hb
  obtain⟨j,hj,h1,h2⟩:=(HO _ _ _ _ _ _).1 hb
  have h0:∀j,(∀k,k<=j->HS t (JS t x f k w)=false)->∃j',j'<i/\JS t x f j' w=JS t x f j w:=by
   intro j
   induction j with
   |zero=>
    intro hk
    rcases Nat.eq_zero_or_pos i with e|e
    .simp_all[JO]
    .exact⟨0,e,rfl⟩
   |succ j ih=>
    intro hk
    obtain⟨j',h3,h4⟩:=ih fun k hk'=>hk k (by omega)
    have e5:JS t x f (j' + 1) w=JS t x f (j+1) w:=by rw[JS,JS,h4]
    rcases Nat.lt_or_ge (j' + 1) i with h5|h5
    .exact⟨j' + 1,h5,e5⟩
    .have e6:j' + 1=i:=by omega
     simp_all[PZ]
  obtain⟨j',h3,h4⟩:=h0 j h1
  grind[Tu]
def Gq(t:A2)(x:List Int)(r:Int)(n:Nat):Bool:=(decide ((n:Int)=r)&&Jc (t.at n))||(AQ x (n:Int)&&decide ((t.at n).kind=4)&&Jc (t.at n)&&Ao t r n)
def LZ(t:A2)(x f:List Int)(r:Int):Bool:=decide ((t.at r.toNat).kind=2)&&!decide ((t.at (CA x f r).toNat).thread=(t.at r.toNat).thread)
def swB(t:A2)(x f:List Int)(a b:Nat):Bool:=x.any fun r=>LZ t x f r&&Bh (B0 t x f (CA x f r)) (a:Int)&&Gq t x r b
def hbB(t:A2)(x f:List Int)(a b:Nat):Bool:=(AQ x (a:Int)&&AQ x (b:Int)&&Ao t a b)||swB t x f a b
def DP(t:A2)(x f:List Int):Rows:=BG (Av t.nodes.length (hbB t x f))
theorem DN{n:Nat}(hn:n<=64)(p:Nat->Nat->Bool):Dp (Av n p)=true:=by
 simp only[Dp,and_eq_true,decide_eq_true_eq,List.all_eq_true,Az]
 refine⟨hn,fun r hr=>?_⟩
 obtain⟨a,ha,rfl⟩:=List.mem_map.1 hr
 apply B4
 grind[AA,CZ]
theorem El{n:Nat}{p:Nat->Nat->Bool}{a:Nat}(h:a<n):(Av n p).getD a 0#64=BR fun b=>decide (b<n)&&p a b:=by
 rw[List.getD_eq_getElem?_getD,BK h,Option.getD_some]
theorem B8{n:Nat}{p q:Nat->Nat->Bool}(h:∀a b,a<n->b<n->p a b=q a b):Av n p=Av n q:=by
 unfold Av
 apply List.map_congr_left
 grind
theorem Ry{n:Nat}(hn:n<=64)(p q:Nat->Nat->Bool):orF (Av n p) (Av n q)=Av n fun a b=>p a b||q a b:=by
 unfold orF
 rw[DN hn,DN hn,Az,Az]
 simp only[decide_true,Bool.and_self,if_true]
 apply List.map_congr_left
 intro a ha
 have h:=List.mem_range.1 ha
 rw[El h,El h]
 apply B4
 grind[AA]
theorem A4r{n:Nat}(hn:n<=64)(p:Nat->Nat->Bool)(s:BitVec 64):A0U (Av n p) s=Av n fun a b=>Bh s a&&Bh s b&&p a b:=by
 unfold A0U
 rw[DN hn,Az]
 simp only[if_true]
 apply List.map_congr_left
 intro a ha
 have h:=List.mem_range.1 ha
 rw[El h]
 cases c:Bh s (a:Int)with
 |false=>
  simp only[Bool.false_and,Bool.and_false,Bool.false_eq_true,if_false,c]
  exact GH.symm
 |true=>
  simp only[if_true,Bool.true_and,c]
  apply B4
  grind[AA,Aq]
theorem B7{s:BitVec 64}{x:Int}:x∈AC s↔Bh s x=true:=by
 unfold AC
 rw[List.mem_map]
 constructor
 .rintro⟨i,hi,rfl⟩
  rw[Aq];exact KP.1 hi
 .intro h
  obtain⟨h1,h2⟩:=CO h
  obtain⟨m,rfl⟩:=eq_ofNat_of_zero_le h1
  rw[Aq]at h
  exact⟨m,KP.2 h,rfl⟩
theorem BF.list{t:A2}(ht:t.nodes.length<=64){l:List Int}(h:BF t l)(x:Int):x∈AC (BI l)↔x∈l:=by
 rw[B7,h.has ht,Ac]
def Dr(p:Int->Bool)(s:BitVec 64)(l:List Int):BitVec 64:=l.foldl (fun s n=>if p n=true then s|||BC n else s) s
theorem Nu(p:Int->Bool)(j:Nat)(hj:j<64):∀(l:List Int) (s:BitVec 64),(Dr p s l).getLsbD j=(s.getLsbD j||(AQ l (j:Int)&&p (j:Int))):=by
 intro l
 induction l with
 |nil=>intro s;simp[Dr,AQ]
 |cons x l ih=>
  intro s
  show(Dr p (if p x=true then s|||BC x else s) l).getLsbD j=_
  rw[ih]
  have e:AQ (x::l) (j:Int)=(decide ((j:Int)=x)||AQ l (j:Int)):=rfl
  rw[e]
  by_cases c:(j:Int)=x
  .subst c
   cases hp:p (j:Int)with
   |false=>simp
   |true=>
    rw[if_pos rfl,getLsbD_or,C2]
    simp[hj]
  .have:(BC x).getLsbD j=false:=by rw[C2];simp[c]
   grind
theorem Js{p:Int->Bool}{s:BitVec 64}{l:List Int}{k:Nat}(hk:k<l.length):Dr p s (l.take (k+1))=if p (l.getD k 0)=true then Dr p s (l.take k)|||BC (l.getD k 0)else Dr p s (l.take k):=by
 grind[Dr,List.take_succ_eq_append_getElem]
theorem AhM{p:Int->Bool}{s:BitVec 64}{l:List Int}{k:Nat}(hk:k<l.length)(h:p (l.getD k 0)=true):Dr p s (l.take k)|||BC (l.getD k 0)=Dr p s (l.take (k+1)):=by rw[Js hk,if_pos h]
theorem Q7{p:Int->Bool}{s:BitVec 64}{l:List Int}{k:Nat}(hk:k<l.length)(h:p (l.getD k 0)=false):Dr p s (l.take k)=Dr p s (l.take (k+1)):=by simp_all[Js]
theorem Aei{n a:Nat}(ha:a<n)(p:Nat->Nat->Bool)(q:Nat->Bool)(hq:∀b,q b=true->b<n):(Av n p).set a ((Av n p).getD a 0#64|||BR q)=Av n fun i b=>p i b||(decide (i=a)&&q b):=by
 apply ext_getElem
 .simp[Av]
 .intro i h1 h2
  have hi:i<n:=by simpa[Av]using h2
  rw[List.getElem_set]
  by_cases c:a=i
  .subst c
   rw[if_pos rfl,El ha]
   have:(Av n fun i b=>p i b||(decide (i=a)&&q b))[a]=BR fun b=>decide (b<n)&&(p a b||(decide (a=a)&&q b)):=by simp[Av]
   rw[this]
   apply B4
   grind[AA]
  .rw[if_neg c]
   grind[Av,Bx]
theorem HX(n:Nat):Av n (fun _ _=>false)=List.replicate n 0#64:=by
 apply ext_getElem
 .simp[Av]
 simp_all[Av,GH]
def onL(t:A2)(x f:List Int):List Int:=(List.range t.nodes.length).map fun(n:Nat)=>CA x f (n:Int)
theorem Q3{t:A2}{x f:List Int}:(onL t x f).length=t.nodes.length:=by simp[onL]
theorem Jr{t:A2}{x f:List Int}{n:Nat}(h:n<t.nodes.length):(onL t x f)[n]? = some (CA x f (n:Int)):=by simp[onL,h]
def Kv(t:A2)(x f:List Int)(n:Int):Bool:=if(t.at n.toNat).kind=2 then AQ x (CA x f n)&&G7 t (CA x f n) (t.at n.toNat).loc else decide (CA x f n=-1)
theorem A0L(t:A2)(x f:List Int):Cb t x f=(decide (x.length=f.length)&&(List.range x.length).all (Bk t x)&&(List.range x.length).all fun i=>Kv t x f (x.getD i 0)):=by
 unfold Cb
 by_cases h1:(decide (x.length=f.length)&&(List.range x.length).all (Bk t x))=true
 .rw[h1,Bool.true_and,Bool.true_and]
  simp only[and_eq_true,decide_eq_true_eq,Ag,Bk]at h1
  have h0:x.Nodup:=KY fun i hi=>(h1.2 i hi).2
  have h2:∀i,i<x.length->CA x f (x.getD i 0)=f.getD i 0:=by
   intro i hi
   unfold CA
   rw[if_pos (Ac.2 (Aa hi)),CX h0 hi,toNat_natCast]
  rw[Bool.eq_iff_iff,Ag,Ag]
  grind[Eb,Kv]
 grind
theorem A2o{t:A2}(ht:A7 t){a:Nat}(hla:t.locs.length<=a):∀(n:Nat) (b:Nat),b<n->b<t.nodes.length->AK t a b=true->(t.at a).thread=(t.at b).thread:=by
 intro n
 induction n with
 |zero=>intro b h;omega
 |succ n ih=>
  intro b h0 hb h
  unfold AK at h
  rw[E8 ht.up a (by have:=ht.up b hb;omega)]at h
  by_cases c1:(t.at b).up<0
  .rw[if_pos c1]at h;cases h
  .rw[if_neg c1]at h
   have hl:t.locs.length<=b:=by
    rcases Nat.lt_or_ge b t.locs.length with h1|h1
    .have:=(ht.init b h1).up;omega
    .exact h1
   have hp:=(ht.good b hl hb).par (by omega)
   by_cases c2:(t.at b).up=a
   .grind
   .rw[if_neg c2]at h
    have h2:=ht.up b hb
    have hu:((t.at b).up.toNat:Int)=(t.at b).up:=by omega
    rw[<- hp]
    exact ih (t.at b).up.toNat (by omega) (by omega) h
end Go.AM
