/-
  Own work, part of the proof of these laws: a deterministic machine over the model (first part).
-/
import GoSem.Step
import Derived.WalkKit
import Derived.Orders
import Derived.LoopN
import Derived.Laws.OwnMore
import Derived.Laws.CopyOwn
import Derived.Laws.Slices
import Derived.Maps.AppendAt
import Derived.Laws.IdiomCopy
import Derived.Laws.Build
set_option maxRecDepth 10000
set_option maxHeartbeats 64000000
set_option linter.unusedVariables false
set_option linter.unusedSimpArgs false
set_option linter.unusedSectionVars false
set_option linter.unnecessarySimpa false
open Bool (and_eq_true)
open Nat (eq_of_beq_eq_true lt_or_ge blt_eq zero_add beq_refl le_trans add_assoc ble_eq mod_lt)
attribute [go_sem_proc ↓] reduceIte
namespace Go.AM
inductive Tm (α:Type) where
 |e
 |n (l:Tm α) (v:Option α) (r:Tm α)
namespace Tm
variable {α:Type}
def get:Tm α->Nat->Option α
 |.e,_=>none
 |.n l v r,k=>match k with
  |0=>v
  |k+1=>bif (k % 2).beq 0 then l.get (k / 2)else r.get (k / 2)
def BR:Nat->Tm α->Nat->Option α->Tm α
 |0,t,_,_=>t
 |f+1,t,k,x=>
  match t with
  |.e=>(match k with
   |0=>.n .e x .e
   |k+1=>bif (k % 2).beq 0 then .n (BR f .e (k / 2) x) none .e else .n .e none (BR f .e (k / 2) x))
  |.n l v r=>(match k with
   |0=>.n l x r
   |k+1=>bif (k % 2).beq 0 then .n (BR f l (k / 2) x) v r else .n l v (BR f r (k / 2) x))
def set(t:Tm α)(k:Nat)(x:α):Tm α:=BR (k+1) t k (some x)
def del(t:Tm α)(k:Nat):Tm α:=BR (k+1) t k none
def ofFrom:Nat->List α->Tm α->Tm α
 |_,[],t=>t
 |k,x::xs,t=>ofFrom (k+1) xs (t.set k x)
def ofList(xs:List α):Tm α:=ofFrom 0 xs .e
theorem get_e(k:Nat):(Tm.e:Tm α).get k=none:=by unfold get;rfl
theorem A0P:∀(f:Nat) (t:Tm α) (k:Nat) (x:Option α),k<f->∀j,(BR f t k x).get j=if j=k then x else t.get j:=by
 intro f
 induction f with
 |zero=>intro t k x h;omega
 |succ f ih=>
  intro t k x h j
  have key:∀(l r:Tm α) (v:Option α),(match k with
    |0=>Tm.n l x r
    |k+1=>bif (k % 2).beq 0 then .n (BR f l (k / 2) x) v r else .n l v (BR f r (k / 2) x)).get j=if j=k then x else(Tm.n l v r).get j:=by
   intro l r v
   cases k with
   |zero=>
    cases j with
    |zero=>simp[get]
    |succ j=>simp[get]
   |succ k=>
    cases hk:(k % 2).beq 0 with
    |true=>
     have hk':k % 2=0:=eq_of_beq_eq_true hk
     simp only[hk,cond_true]
     cases j with
     |zero=>simp[get]
     |succ j=>
      simp only[get]
      cases hj:(j % 2).beq 0 with
      |true=>
       have hj':j % 2=0:=eq_of_beq_eq_true hj
       grind
      |false=>
       grind
    |false=>
     have hk':k % 2≠0:=by intro e;rw[e]at hk;simp at hk
     simp only[hk,cond_false]
     cases j with
     |zero=>simp[get]
     |succ j=>
      simp only[get]
      cases hj:(j % 2).beq 0 with
      |true=>
       grind
      |false=>
       have hj':j % 2≠0:=by intro e;rw[e]at hj;simp at hj
       grind
  cases t with
  |n l v r=>unfold BR;exact key l r v
  |e=>
   have h1:=key .e .e none
   have h2:(Tm.n .e none .e:Tm α).get j=(Tm.e:Tm α).get j:=by
    cases j with
    |zero=>simp[get]
    |succ j=>simp[get]
   grind[BR]
theorem get_set(t:Tm α)(k:Nat)(x:α)(j:Nat):(t.set k x).get j=if j=k then some x else t.get j:=A0P _ _ _ _ (Nat.lt_succ_self k) j
theorem get_del(t:Tm α)(k:Nat)(j:Nat):(t.del k).get j=if j=k then none else t.get j:=A0P _ _ _ _ (Nat.lt_succ_self k) j
theorem get_ofFrom:∀(xs:List α) (k:Nat) (t:Tm α) (j:Nat),(ofFrom k xs t).get j=if j<k then t.get j else match xs[j-k]? with|some x=>some x|none=>t.get j:=by
 intro xs
 induction xs with
 |nil=>intro k t j;simp[ofFrom]
 |cons x xs ih=>
  intro k t j
  unfold ofFrom
  rw[ih,get_set]
  grind
theorem get_ofList(xs:List α)(j:Nat):(ofList xs).get j=xs[j]?:=by
 unfold ofList
 rw[get_ofFrom]
 simp only[Nat.not_lt_zero,if_false,Nat.sub_zero,get_e]
 cases xs[j]?<;>rfl
end Tm
inductive AV where
 |b (x:Bool)
 |i (k:IntKind) (n:Int)
 |s (x:ByteArray)
 |p (o:Option (Nat×Nat))
 |sl (o:Option (Nat×Nat)) (n:Nat)
 |f (g:Nat) (first captured:List AV)
 |nf
 |ag (cs:List AV)
 |tu (vs:List AV)
 deriving Inhabited
def AV.un:AV:=.tu []
def AV.cell:AV->Bool
 |.ag _|.tu _=>false
 |_=>true
def AV.cells:AV->List AV
 |.ag cs=>cs
 |v=>[v]
mutual
def AV.eqb:AV->AV->Bool
 |.b x,.b y=>x==y
 |.i k n,.i k' n'=>decide (k=k')&&n==n'
 |.s x,.s y=>x.data.toList==y.data.toList
 |.p o,.p o'=>o==o'
 |.sl o n,.sl o' n'=>o==o'&&n==n'
 |.f g a c,.f g' a' c'=>g==g'&&AV.eqbL a a'&&AV.eqbL c c'
 |.nf,.nf=>true
 |.ag cs,.ag cs'=>AV.eqbL cs cs'
 |.tu cs,.tu cs'=>AV.eqbL cs cs'
 |_,_=>false
def AV.eqbL:List AV->List AV->Bool
 | [],[]=>true
 |x::xs,y::ys=>AV.eqb x y&&AV.eqbL xs ys
 |_,_=>false
end
structure JQ where
 ty:Nat
 rw:Bool
 esz:Nat
 len:Nat
 cs:Tm AV
structure St where
 objs:Tm JQ
 next:Nat
namespace St
def get(σ:St)(id:Nat):Option JQ:=σ.objs.get id
def put(σ:St)(id:Nat)(ob:JQ):St:={ σ with objs:=σ.objs.set id ob }
def new(σ:St)(ob:JQ):St:={ objs:=σ.objs.set σ.next ob,next:=σ.next+1 }
def load1(σ:St)(id off:Nat):Option AV:=
 match σ.get id with
 |some ob=>bif Nat.blt off ob.len then ob.cs.get off else none
 |none=>none
def loadN(σ:St)(id:Nat):Nat->Nat->Option (List AV)
 |_,0=>some []
 |off,n+1=>match σ.load1 id off with
  |some v=>(match σ.loadN id (off+1) n with
   |some vs=>some (v::vs)
   |none=>none)
  |none=>none
def store1(σ:St)(id off:Nat)(v:AV):Option St:=
 match σ.get id with
 |some ob=>bif ob.rw&&Nat.blt off ob.len&&v.cell then some (σ.put id { ob with cs:=ob.cs.set off v })else none
 |none=>none
def loadV(σ:St)(n:Option Nat)(id off:Nat):Option AV:=
 match n with
 |none=>σ.load1 id off
 |some n=>match σ.loadN id off n with
  |some vs=>some (.ag vs)
  |none=>none
def storeN(σ:St)(id off:Nat):List AV->Option St
 | []=>some σ
 |v::vs=>match σ.store1 id off v with
  |some σ'=>σ'.storeN id (off+1) vs
  |none=>none
end St
inductive Ar where
 |t (n:Nat)
 |c (v:AV)
 deriving Inhabited
abbrev Fr:=Tm AV
def Fr.tmp(F:Fr)(n:Nat):AV:=match Tm.get F n with|some v=>v|none=>AV.un
def Fr.ev(F:Fr):Ar->AV
 |.t n=>Fr.tmp F n
 |.c v=>v
inductive Pk where|b|p|s|f
 deriving Inhabited,DecidableEq
inductive Bl where
 |mov (x:Ar)
 |pick (c a b:Ar)
 |box (ty n:Nat) (x:Ar)
 |build (zero:List AV) (parts:List (Nat×Nat×Ar))
 |bsl (ty esz len:Nat) (zero:List AV) (parts:List (Nat×Nat×Ar))
 |ld (n:Option Nat) (a:Ar)
 |st (n:Nat) (a x:Ar)
 |nilc (x:Ar)
 |bin (op:BinOp) (e:Option Pk) (x y:Ar)
 |not (x:Ar)
 |neg (x:Ar)
 |conv (k:IntKind) (x:Ar)
 |mkf (g:Nat) (first captured:List Ar)
 |mks (ty esz bytes:Nat) (zero:List AV) (l c:Ar)
 |slc (esz:Nat) (x:Ar) (lo hi:Option Ar)
 |fa (off:Nat) (x:Ar)
 |ia (esz:Nat) (x i:Ar)
 |iaa (len esz:Nat) (x i:Ar)
 |ix (x i:Ar)
 |ext (x:Ar) (i:Nat)
 |call (f:Ar) (args:List Ar)
 |len (str:Bool) (x:Ar)
 |app (ty esz bytes:Nat) (x y:Ar)
 |cpy (esz:Nat) (x y:Ar)
 |mnx (mx:Bool) (x y:Ar)
 |fail
 deriving Inhabited
structure Ay where
 dst:Option Nat
 g:Option (Nat×Bool)
 op:Bl
 deriving Inhabited
structure AE where
 idx:Nat
 o:Ay
 chk:List Ay
 deriving Inhabited
inductive A1 where
 |skip
 |reg (ops:List Ay)
 |dreg (ops:List AE)
 |seq (a b:A1)
 |cond (c:Ar) (a b:A1)
 |block (id:Nat) (c:A1)
 |loop (c:A1)
 |exit (id:Nat)
 |ret
 |fail
 deriving Inhabited
inductive A91 where
 |t (n:Nat)
 |cell (a:Nat) (n:Option Nat)
 deriving Inhabited
structure A4 where
 results:List A91
 body:A1
 deriving Inhabited
def Li(cells:List AV)(off:Nat)(xs:List AV):List AV:=cells.take off++xs++cells.drop (off+xs.length)
def BN(F:Fr):List AV->List (Nat×Nat×Ar)->Option (List AV)
 |cells,[]=>some cells
 |cells,(off,sz,x)::r=>
  let xs:=(Fr.ev F x).cells
  bif Nat.beq xs.length sz&&xs.all AV.cell&&Nat.ble (off+sz) cells.length then BN F (Li cells off xs) r else none
def A6:Nat:=140737488355328
def G6(op:BinOp)(k:IntKind)(x y:Int):Option AV:=
 match op with
 |.add=>some (.i k (k.wrap (x+y)))
 |.sub=>some (.i k (k.wrap (x-y)))
 |.mul=>some (.i k (k.wrap (x * y)))
 |.quo=>if y=0 then none else some (.i k (k.wrap (x.tdiv y)))
 |.rem=>if y=0 then none else some (.i k (x.tmod y))
 |.and=>some (.i k (k.wrap ((BitVec.ofInt k.bits x&&&BitVec.ofInt k.bits y).toNat:Int)))
 |.or=>some (.i k (k.wrap ((BitVec.ofInt k.bits x|||BitVec.ofInt k.bits y).toNat:Int)))
 |.xor=>some (.i k (k.wrap ((BitVec.ofInt k.bits x^^^BitVec.ofInt k.bits y).toNat:Int)))
 |.andNot=>some (.i k (k.wrap ((BitVec.ofInt k.bits x&&&~~~ BitVec.ofInt k.bits y).toNat:Int)))
 |.eql=>some (.b (x==y))
 |.neq=>some (.b (x != y))
 |.lss=>some (.b (decide (x<y)))
 |.leq=>some (.b (decide (x<=y)))
 |.gtr=>some (.b (decide (x > y)))
 |.geq=>some (.b (decide (x ≥ y)))
 |_=>none
def GO(op:BinOp)(k:IntKind)(x y:Int):Option AV:=
 if y<0 then none else
 match op with
 |.shl=>some (.i k (k.wrap (x * 2 ^ (min y.toNat k.bits))))
 |.shr=>some (.i k (x.fdiv (2 ^ (min y.toNat k.bits))))
 |_=>none
def Ab0(op:BinOp)(x y:ByteArray):Option AV:=
 match op with
 |.add=>if x.size+y.size<=A6 then some (.s (x++y))else none
 |.eql=>some (.b (x.toList==y.toList))
 |.neq=>some (.b (!(x.toList==y.toList)))
 |.lss=>some (.b (Op.bytesLess x.toList y.toList))
 |.leq=>some (.b (Op.bytesLess x.toList y.toList||x.toList==y.toList))
 |.gtr=>some (.b (!(Op.bytesLess x.toList y.toList||x.toList==y.toList)))
 |.geq=>some (.b (!Op.bytesLess x.toList y.toList))
 |_=>none
def A0q(e:Option Pk)(x y:AV):Option Bool:=
 match e,x,y with
 |some .b,.b a,.b c=>some (a==c)
 |some .p,.p none,.p o=>some o.isNone
 |some .p,.p (some _),.p none=>some false
 |some .s,.sl none _,.sl o _=>some o.isNone
 |some .s,.sl (some _) _,.sl none _=>some false
 |some .f,.nf,.nf=>some true
 |some .f,.f _ _ _,.nf=>some false
 |some .f,.nf,.f _ _ _=>some false
 |_,_,_=>none
def Bg(op:BinOp)(e:Option Pk)(x y:AV):Option AV:=
 match x,y with
 |.i k a,.i k' c=>
  match op with
  |.shl|.shr=>GO op k a c
  |_=>if k=k' then G6 op k a c else none
 |.s a,.s c=>Ab0 op a c
 |x,y=>match op with
  |.eql=>(A0q e x y).map AV.b
  |.neq=>(A0q e x y).map fun r=>AV.b (!r)
  |_=>none
def bnd(x:Option AV)(d:Nat):Option Nat:=
 match x with
 |none=>some d
 |some (.i _ n)=>if 0<=n then some n.toNat else none
 |_=>none
def XF(mx:Bool)(a c:Int):Int:=bif mx then(if c > a then c else a)else(if c<a then c else a)
def En(esz:Nat)(x:AV)(lo hi:Option AV):Option AV:=
 match x with
 |.s s=>
  bif Nat.beq esz 0 then
   match bnd lo 0,bnd hi s.size with
   |some l,some h=>if l<=h/\h<=s.size then some (.s (s.extract l h))else none
   |_,_=>none
  else none
 |.sl o len=>
  bif Nat.beq esz 0 then none else
  match bnd lo 0,bnd hi len with
  |some l,some h=>if l<=h/\h<=len then
    (match o with
    |none=>some (.sl none 0)
    |some (id,off)=>some (.sl (some (id,off+l * esz)) (h-l)))else none
  |_,_=>none
 |_=>none
def GB(esz:Nat)(o':Option (Nat×Nat))(m:Nat)(σ:St):Option (List AV):=
 match o' with
 |none=>bif Nat.beq m 0 then some []else none
 |some (id,off)=>σ.loadN id off (m * esz)
def Ey(σ:St)(dead:Option Nat):St:=match dead with|some id=>{ σ with objs:=σ.objs.del id } | none=>σ
def Pm(ty esz bytes:Nat)(o:Option (Nat×Nat))(n:Nat)(o':Option (Nat×Nat))(m:Nat)(σ:St):Option (AV×St):=
 bif Nat.ble ((n+m) * bytes) A6 then
  match GB esz o' m σ with
  |none=>none
  |some ys=>
   bif Nat.beq m 0 then some (.sl o n,σ)else
   match o with
   |none=>
    bif Nat.beq n 0 then
     some (.sl (some (σ.next,0)) m,σ.new { ty:=ty,rw:=true,esz:=esz,len:=m * esz,cs:=Tm.ofList ys })
    else none
   |some (id,off)=>
    match σ.get id with
    |none=>none
    |some ob=>
     bif Nat.beq off 0&&ob.rw&&Nat.beq ob.ty ty&&Nat.beq ob.esz esz&&Nat.beq ob.len (n * esz)then
      some (.sl (some (σ.next,0)) (n+m),(Ey σ (some id)).new { ty:=ty,rw:=true,esz:=esz,len:=(n+m) * esz,cs:=Tm.ofFrom (n * esz) ys ob.cs })
     else none
 else none
def A9r(esz:Nat)(o:Option (Nat×Nat))(n:Nat)(o':Option (Nat×Nat))(m:Nat)(σ:St):Option (AV×St):=
 match GB esz o' (min m n) σ with
 |none=>none
 |some ys=>match o with
  |none=>some (.i .i64 (min m n:Nat),σ)
  |some (id,off)=>(match σ.storeN id off ys with|some σ'=>some (.i .i64 (min m n:Nat),σ')|none=>none)
def Ap(op:Bl)(F:Fr)(σ:St):Option (AV×St):=
 match op with
 |.mov x=>some (Fr.ev F x,σ)
 |.pick c a b=>match Fr.ev F c with
  |.b t=>some (bif t then Fr.ev F a else Fr.ev F b,σ)
  |_=>none
 |.box ty n x=>
  let cs:=(Fr.ev F x).cells
  bif Nat.beq cs.length n&&cs.all AV.cell then some (.p (some (σ.next,0)),σ.new { ty:=ty,rw:=true,esz:=0,len:=n,cs:=Tm.ofList cs })else none
 |.build zero parts=>match BN F zero parts with
  |some cs=>some (.ag cs,σ)
  |none=>none
 |.bsl ty esz len zero parts=>match BN F zero parts with
  |some cs=>some (.sl (some (σ.next,0)) len,σ.new { ty:=ty,rw:=true,esz:=esz,len:=len * esz,cs:=Tm.ofList cs })
  |none=>none
 |.ld n a=>match Fr.ev F a with
  |.p (some (id,off))=>(match σ.loadV n id off with|some v=>some (v,σ)|none=>none)
  |_=>none
 |.st n a x=>match Fr.ev F a with
  |.p (some (id,off))=>
   let cs:=(Fr.ev F x).cells
   bif Nat.beq cs.length n then(match σ.storeN id off cs with|some σ'=>some (AV.un,σ')|none=>none)else none
  |_=>none
 |.nilc x=>match Fr.ev F x with
  |.p (some a)=>some (.p (some a),σ)
  |.f g a c=>some (.f g a c,σ)
  |_=>none
 |.bin op e x y=>match Bg op e (Fr.ev F x) (Fr.ev F y)with|some v=>some (v,σ)|none=>none
 |.not x=>match Fr.ev F x with|.b t=>some (.b (!t),σ)|_=>none
 |.neg x=>match Fr.ev F x with|.i k n=>some (.i k (k.wrap (0-n)),σ)|_=>none
 |.conv k x=>match Fr.ev F x with|.i _ n=>some (.i k (k.wrap n),σ)|_=>none
 |.mkf g a c=>some (.f g (a.map (Fr.ev F)) (c.map (Fr.ev F)),σ)
 |.mks ty esz bytes zero l c=>match Fr.ev F l,Fr.ev F c with
  |.i .i64 n,.i .i64 m=>
   if 0<=n/\n<=m/\m.toNat * bytes<=A6 then
    some (.sl (some (σ.next,0)) n.toNat,σ.new { ty:=ty,rw:=true,esz:=esz,len:=n.toNat * esz,cs:=Tm.ofList ((List.replicate n.toNat zero).flatten) })
   else none
  |_,_=>none
 |.slc esz x lo hi=>match En esz (Fr.ev F x) (lo.map (Fr.ev F)) (hi.map (Fr.ev F))with|some v=>some (v,σ)|none=>none
 |.fa off x=>match Fr.ev F x with
  |.p (some (id,o))=>some (.p (some (id,o+off)),σ)
  |_=>none
 |.ia esz x i=>match Fr.ev F x,Fr.ev F i with
  |.sl (some (id,o)) len,.i _ n=>if 0<=n/\n<len then some (.p (some (id,o+n.toNat * esz)),σ)else none
  |_,_=>none
 |.iaa len esz x i=>match Fr.ev F x,Fr.ev F i with
  |.p (some (id,o)),.i _ n=>if 0<=n/\n<len then some (.p (some (id,o+n.toNat * esz)),σ)else none
  |_,_=>none
 |.ix x i=>match Fr.ev F x,Fr.ev F i with
  |.s s,.i _ n=>if 0<=n then(match s.data.toList[n.toNat]? with|some b=>some (.i .u8 b.toNat,σ)|none=>none)else none
  |_,_=>none
 |.ext x i=>match Fr.ev F x with
  |.tu vs=>(match vs[i]? with|some v=>some (v,σ)|none=>none)
  |_=>none
 |.len str x=>match str,Fr.ev F x with
  |true,.s s=>some (.i .i64 s.size,σ)
  |false,.sl _ n=>some (.i .i64 n,σ)
  |_,_=>none
 |.app ty esz bytes x y=>match Fr.ev F x,Fr.ev F y with
  |.sl o n,.sl o' m=>Pm ty esz bytes o n o' m σ
  |_,_=>none
 |.cpy esz x y=>match Fr.ev F x,Fr.ev F y with
  |.sl o n,.sl o' m=>A9r esz o n o' m σ
  |_,_=>none
 |.mnx mx x y=>match Fr.ev F x,Fr.ev F y with
  |.i k a,.i k' c=>if k=k' then some (.i k (XF mx a c),σ)else none
  |_,_=>none
 |.call _ _=>none
 |.fail=>none
abbrev E5:=Nat->List AV->St->Option (AV×St)
def AX(H:E5)(op:Bl)(F:Fr)(σ:St):Option (AV×St):=
 match op with
 |.call f args=>match Fr.ev F f with
  |.f g a c=>H g (a++args.map (Fr.ev F)++c) σ
  |_=>none
 |op=>Ap op F σ
def wanted(F:Fr):Option (Nat×Bool)->Bool
 |none=>true
 |some (t,want)=>match Fr.tmp F t with
  |.b x=>x==want
  |_=>false
def BD(F:Fr)(d:Option Nat)(v:AV):Fr:=match d with|some d=>Tm.set F d v|none=>F
def Dt(H:E5):List Ay->Fr->St->Option (Fr×St)
 | [],F,σ=>some (F,σ)
 |o::r,F,σ=>
  bif wanted F o.g then
   match AX H o.op F σ with
   |some (v,σ')=>Dt H r (BD F o.dst v) σ'
   |none=>none
  else Dt H r (BD F o.dst AV.un) σ
def Cu(F:Fr)(σ:St):List Ay->Bool
 | []=>true
 |o::r=>
  (bif wanted F o.g then
   (match Ap o.op F σ with
   |some (v,_)=>(match o.dst with|some d=>AV.eqb v (Fr.tmp F d)|none=>false)
   |none=>false)
  else true)&&Cu F σ r
def BX(H:E5):List AE->Fr->St->Option (Fr×St)
 | [],F,σ=>some (F,σ)
 |s::r,F,σ=>
  bif wanted F s.o.g then
   match AX H s.o.op F σ with
   |some (v,σ')=>bif Cu (BD F s.o.dst v) σ' s.chk then BX H r (BD F s.o.dst v) σ' else none
   |none=>none
  else BX H r (BD F s.o.dst AV.un) σ
inductive Ex where
 |norm
 |exit (id:Nat)
 |ret
 deriving DecidableEq
def Ck(F:Fr)(σ:St):List A91->Option (List AV)
 | []=>some []
 |.t n::r=>(match Ck F σ r with|some vs=>some (Fr.tmp F n::vs)|none=>none)
 |.cell a n::r=>match Fr.tmp F a with
  |.p (some (id,off))=>
   match σ.loadV n id off with
   |some v=>(match Ck F σ r with|some vs=>some (v::vs)|none=>none)
   |none=>none
  |_=>none
def Zd:List AV->AV
 | [v]=>v
 |vs=>.tu vs
structure Dz where
 fn:Nat->Option A4
 ext:Nat->Option (List AV->St->Option (AV×St))
def C9(A:Dz)(ex:A1->Fr->St->Option (Ex×Fr×St)):E5:=fun g args σ=>
 match A.ext g with
 |some x=>x args σ
 |none=>
  match A.fn g with
  |none=>none
  |some fn=>
   match ex fn.body (Tm.ofList args) σ with
   |some (.norm,F',σ')|some (.ret,F',σ')=>(match Ck F' σ' fn.results with|some vs=>some (Zd vs,σ')|none=>none)
   |_=>none
def B3(A:Dz):Nat->A1->Fr->St->Option (Ex×Fr×St)
 |0,_,_,_=>none
 |n+1,c,F,σ=>
  match c with
  |.skip=>some (.norm,F,σ)
  |.reg ops=>(match Dt (C9 A (B3 A n)) ops F σ with|some (F',σ')=>some (.norm,F',σ')|none=>none)
  |.dreg ops=>(match BX (C9 A (B3 A n)) ops F σ with|some (F',σ')=>some (.norm,F',σ')|none=>none)
  |.seq a b=>(match B3 A n a F σ with
   |some (.norm,F',σ')=>B3 A n b F' σ'
   |r=>r)
  |.cond c a b=>(match Fr.ev F c with
   |.b true=>B3 A n a F σ
   |.b false=>B3 A n b F σ
   |_=>none)
  |.block id c=>(match B3 A n c F σ with
   |some (.exit id',F',σ')=>bif Nat.beq id' id then some (.norm,F',σ')else some (.exit id',F',σ')
   |r=>r)
  |.loop c=>(match B3 A n c F σ with
   |some (.norm,F',σ')=>B3 A n (.loop c) F' σ'
   |r=>r)
  |.exit id=>some (.exit id,F,σ)
  |.ret=>some (.ret,F,σ)
  |.fail=>none
def call(A:Dz)(fuel:Nat):E5:=C9 A (B3 A fuel)
end Go.AM
namespace Go.AM
def Ei:Value->Option AV
 |.bool x=>some (.b x)
 |.int k n=>some (.i k n)
 |.string s=>some (.s s)
 |.pointer none=>some (.p none)
 |.slice none 0 0=>some (.sl none 0)
 |.nilFunc=>some .nf
 |_=>none
def AdW:Value->Option AV
 |.agg cs=>(cs.toList.mapM Ei).map AV.ag
 |v=>Ei v
def Au:Operand->Option Ar
 |.tmp t=>some (.t t)
 |.const v=>(AdW v).map Ar.c
 |.func f=>some (.c (.f f [] []))
 |.global _=>none
def EP(P:Program)(t:TypeId):Option (List AV):=
 match P.info? t with
 |some i=>(match i.zero with|some z=>z.cells.toList.mapM Ei|none=>none)
 |none=>none
def sizeOf?(P:Program)(t:TypeId):Option Nat:=(P.info? t).map (·.size)
def Bc?(P:Program)(t:TypeId):Option Nat:=(P.info? t).map (·.bytes)
def NN(P:Program)(t:TypeId):Option (Option Nat):=
 match P.underlying t,sizeOf? P t with
 |some (.struct _),some n=>some (some n)
 |some (.array _ _),some n=>some (some n)
 |some _,some _=>some none
 |_,_=>none
def DK(place:Nat->Option (Nat×Nat)):List (Nat×Operand)->Option (List (Nat×Nat×Ar))
 | []=>some []
 |(i,x)::r=>
  match place i,Au x,DK place r with
  |some (off,sz),some y,some ps=>some ((off,sz,y)::ps)
  |_,_,_=>none
def EW(P:Program)(fields:Array Field)(i:Nat):Option (Nat×Nat):=
 match fields[i]? with
 |some f=>(match sizeOf? P f.type with|some s=>some (f.offset,s)|none=>none)
 |none=>none
def HA(x:Option Operand):Option (Option Ar):=
 match x with
 |none=>some none
 |some y=>(Au y).map some
def Ji(P:Program)(t:TypeId):Option Pk:=match P.underlying t with
      |some .bool=>some .b
      |some (.pointer _)=>some .p
      |some (.slice _)=>some .s
      |some (.func _ _ _)=>some .f
      |_=>none
def Bf?(P:Program)(op:Op):Option Bl:=
 match op with
 |.move x|.assign x=>(Au x).map .mov
 |.pick c a b=>do pure (.pick (<- Au c) (<- Au a) (<- Au b))
 |.alloc e=>do
  let z <- EP P e
  match z with
  | [v]=>pure (.box e 1 (.c v))
  |vs=>pure (.box e vs.length (.c (.ag vs)))
 |.box e x=>do pure (.box e (<- sizeOf? P e) (<- Au x))
 |.build t parts=>do
  let z <- EP P t
  match P.underlying t with
  |some (.struct fields)=>do
   if fields.any (fun f=>(sizeOf? P f.type).isNone)then none
   pure (.build z (<- DK (EW P fields) parts.toList))
  |some (.array _ e)=>do
   let s <- sizeOf? P e
   pure (.build z (<- DK (fun i=>some (i * s,s)) parts.toList))
  |_=>none
 |.buildSlice t len parts=>do
  match P.underlying t with
  |some (.slice e)=>do
   let s <- sizeOf? P e
   let z <- EP P e
   if s=0\/z.length≠s\/len * s > 65536 then none
   pure (.bsl e s len ((List.replicate len z).flatten) (<- DK (fun i=>some (i * s,s)) parts.toList))
  |_=>none
 |.load t a=>do pure (.ld (<- NN P t) (<- Au a))
 |.store t a x=>do pure (.st (<- sizeOf? P t) (<- Au a) (<- Au x))
 |.nilCheck x=>do pure (.nilc (<- Au x))
 |.binOp op t x y _=>do pure (.bin op (Ji P t) (<- Au x) (<- Au y))
 |.unOp .not _ x=>(Au x).map .not
 |.unOp .neg _ x=>(Au x).map .neg
 |.convert src dst x=>do
  if(P.underlying src).isNone then none
  match P.underlying dst with
  |some (.int k)=>pure (.conv k (<- Au x))
  |_=>none
 |.makeFunc (.func g) a c=>do pure (.mkf g (<- a.toList.mapM Au) (<- c.toList.mapM Au))
 |.makeSlice t l c=>do
  match P.underlying t with
  |some (.slice e)=>do
   let s <- sizeOf? P e
   let z <- EP P e
   let b <- Bc? P e
   if s=0\/z.length≠s\/b=0 then none
   pure (.mks e s b z (<- Au l) (<- Au c))
  |_=>none
 |.slice t x lo hi none=>do
  match P.underlying t with
  |some .string=>pure (.slc 0 (<- Au x) (<- HA lo) (<- HA hi))
  |some (.slice e)=>do
   let s <- sizeOf? P e
   if s=0 then none
   pure (.slc s (<- Au x) (<- HA lo) (<- HA hi))
  |_=>none
 |.fieldAddr s x f=>do
  match P.underlying s with
  |some (.struct fields)=>do
   let fd <- fields[f]?
   let n <- sizeOf? P fd.type
   if n=0 then none
   pure (.fa fd.offset (<- Au x))
  |_=>none
 |.indexAddr t x ix=>do
  match P.underlying t with
  |some (.slice e)=>pure (.ia (<- sizeOf? P e) (<- Au x) (<- Au ix))
  |some (.array n e)=>pure (.iaa n (<- sizeOf? P e) (<- Au x) (<- Au ix))
  |_=>none
 |.index t x ix=>do
  match P.underlying t with
  |some .string=>pure (.ix (<- Au x) (<- Au ix))
  |_=>none
 |.extract t i=>do pure (.ext (<- Au t) i)
 |.call { callee:=.value f,args,.. }=>do pure (.call (<- Au f) (<- args.toList.mapM Au))
 |.call { callee:=.builtin .len,args,argTypes }=>
  match args.toList,argTypes.toList with
  | [x],[t]=>do
   match P.underlying t with
   |some .string=>pure (.len true (<- Au x))
   |some (.slice _)=>pure (.len false (<- Au x))
   |_=>none
  |_,_=>none
 |.call { callee:=.builtin .append,args,argTypes }=>
  match args.toList,argTypes.toList with
  | [x,y],[t,t']=>do
   if t≠t' then none
   match P.underlying t with
   |some (.slice e)=>do
    let s <- sizeOf? P e
    let z <- EP P e
    let b <- Bc? P e
    if s=0\/z.length≠s\/b=0 then none
    pure (.app e s b (<- Au x) (<- Au y))
   |_=>none
  |_,_=>none
 |.call { callee:=.builtin .copy,args,argTypes }=>
  match args.toList,argTypes.toList with
  | [x,y],[t,t']=>do
   if t≠t' then none
   match P.underlying t with
   |some (.slice e)=>do pure (.cpy (<- sizeOf? P e) (<- Au x) (<- Au y))
   |_=>none
  |_,_=>none
 |.call { callee:=.builtin .max,args,.. }=>
  match args.toList with
  | [x,y]=>do pure (.mnx true (<- Au x) (<- Au y))
  |_=>none
 |.call { callee:=.builtin .min,args,.. }=>
  match args.toList with
  | [x,y]=>do pure (.mnx false (<- Au x) (<- Au y))
  |_=>none
 |_=>none
def Bf(P:Program)(op:Op):Bl:=match Bf? P op with|some a=>a|none=>.fail
def Mo(ops:Array Oper):Option (Nat×Bool)->Option (Option (Nat×Bool))
 |none=>some none
 |some (j,want)=>match ops[j]? with
  |some o=>(match o.dst with|some d=>some (some (d,want))|none=>none)
  |none=>none
def Gu(P:Program)(ops:Array Oper)(o:Oper):Option Ay:=
 match Mo ops o.guard with
 |some g=>some { dst:=o.dst,g:=g,op:=Bf P o.op }
 |none=>none
def Bl.writer:Bl->Bool
 |.call _ _|.app _ _ _ _ _|.st _ _ _|.cpy _ _ _|.fail=>true
 |_=>false
def Bl.reader:Bl->Bool
 |.ld _ _=>true
 |_=>false
def Ar.tmps:Ar->List Nat
 |.t n=>[n]
 |.c _=>[]
def Z9:Option Ar->List Nat
 |some x=>x.tmps
 |none=>[]
def Bl.reads:Bl->List Nat
 |.mov x|.box _ _ x|.nilc x|.not x|.neg x|.conv _ x|.fa _ x|.ext x _|.len _ x|.ld _ x=>x.tmps
 |.pick a b c=>a.tmps++b.tmps++c.tmps
 |.build _ ps|.bsl _ _ _ _ ps=>ps.flatMap fun p=>p.2.2.tmps
 |.st _ a x|.bin _ _ a x|.mks _ _ _ _ a x|.ia _ a x|.iaa _ _ a x|.ix a x|.app _ _ _ a x|.cpy _ a x|.mnx _ a x=>a.tmps++x.tmps
 |.mkf _ a c=>(a++c).flatMap Ar.tmps
 |.slc _ x lo hi=>x.tmps++Z9 lo++Z9 hi
 |.call f args=>f.tmps++args.flatMap Ar.tmps
 |.fail=>[]
def Ay.reads(o:Ay):List Nat:=(match o.g with|some (t,_)=>[t]|none=>[])++o.op.reads
def LL(acc:List Nat)(o:Oper):Nat:=o.after.toList.foldl (fun s e=>bif Region.binds .any e then s|||2 ^ e.on|||acc.getD e.on 0 else s) 0
def Hq:List Oper->List Nat->List Nat
 | [],acc=>acc
 |o::r,acc=>Hq r (acc++[LL acc o])
def Ez(ops:Array Oper):List Nat:=Hq ops.toList []
def Za(b:List Nat)(wr:Nat->Bool)(n:Nat):Nat->Nat->List Nat->List Nat
 |0,_,acc=>acc.reverse
 |f+1,done,acc=>
  let ready:=(List.range n).filter fun i=>!done.testBit i&&(b.getD i 0&&&done)==b.getD i 0
  match(ready.find? fun i=>!wr i)with
  |some i=>Za b wr n f (done|||2 ^ i) (i::acc)
  |none=>match ready with
   |i::_=>Za b wr n f (done|||2 ^ i) (i::acc)
   | []=>acc.reverse
def LA(x y:Ay):Bool:=
 (match x.dst with|some d=>!(y.reads.contains d)&&y.dst != some d|none=>true) &&
 (match y.dst with|some d=>!(x.reads.contains d)|none=>true)
def KQ(b:List Nat)(os:Nat->Option Ay):List Nat->List (Nat×Ay)->Option (List AE)
 | [],_=>some []
 |i::r,bef=>
  match os i with
  |none=>none
  |some o=>
   let un:=bef.filter fun p=>!(b.getD i 0).testBit p.1
   bif bef.all (fun p=>!(b.getD p.1 0).testBit i&&p.1 != i)&&un.all (fun p=>LA p.2 o&&!p.2.op.writer)then
    let chk:=(bif o.op.writer then(un.filter fun p=>p.2.op.reader)else []).map (·.2)
    match KQ b os r ((i,o)::bef)with
    |some ss=>some ({ idx:=i,o:=o,chk:=chk }::ss)
    |none=>none
   else none
def Jg:List AE->Bool
 | []=>true
 |s::r=>(bif s.o.op.reader then(match s.o.dst with|some d=>!(s.o.reads.contains d)|none=>true)&&(r.all (fun q=>match q.o.dst with|some d=>!(s.o.reads.contains d)&&s.o.dst != some d|none=>true)||r.all (fun q=>q.chk.isEmpty))else true)&&Jg r
def PF(P:Program)(ops:Array Oper):Option (List AE):=
 let b:=Ez ops
 let n:=ops.size
 let os:Nat->Option Ay:=fun i=>(ops[i]?).bind (Gu P ops)
 let wr:Nat->Bool:=fun i=>match os i with|some o=>o.op.writer|none=>true
 let ord:=Za b wr n n 0 []
 bif Nat.beq ord.length n&&(List.range n).all (fun i=>ord.contains i&&!(b.getD i 0).testBit i)&&ops.toList.all (fun o=>o.after.toList.all fun e=>!Region.binds .any e||Nat.blt e.on n)then
  match KQ b os ord []with
  |some ss=>bif Jg ss then some ss else none
  |none=>none
 else none
def By(P:Program):Code->A1
 |.skip=>.skip
 |.region _ ops false=>(match ops.toList.mapM (Gu P ops)with|some os=>.reg os|none=>.fail)
 |.region _ ops true=>(match PF P ops with|some ss=>.dreg ss|none=>.fail)
 |.seq a b=>.seq (By P a) (By P b)
 |.cond c a b=>(match Au c with|some c=>.cond c (By P a) (By P b)|none=>.fail)
 |.block id c=>.block id (By P c)
 |.loop c=>.loop (By P c)
 |.exit id=>.exit id
 |.ret=>.ret
 |_=>.fail
def V7(P:Program):ResultVar->Option A91
 |.tmp t=>some (.t t)
 |.cell a t=>(NN P t).map (.cell a)
def Tk(n:Nat)(o:Ay):Bool:=match o.dst with|some d=>Nat.blt d n|none=>true
def EF(n:Nat):A1->Bool
 |.reg os=>os.all (Tk n)
 |.dreg ss=>ss.all fun s=>Tk n s.o
 |.seq a b=>EF n a&&EF n b
 |.cond _ a b=>EF n a&&EF n b
 |.block _ c=>EF n c
 |.loop c=>EF n c
 |_=>true
def A6B(P:Program)(f:Func):Option A4:=
 match f.body,f.results.toList.mapM (V7 P)with
 | some c, some rs => bif EF f.ntmps (By P c) && !(f.name == "runtime.NumGoroutine") then some { results := rs, body := By P c } else none
 |_,_=>none
def V6(P:Program)(g:Nat):Option A4:=match P.funcs[g]? with|some f=>A6B P f|none=>none
end Go.AM
namespace Go.AM
open Go
structure RB where
 blk:Nat
 base:Nat
 own:Option (Nat×Nat)
abbrev Re:=Nat->Option RB
mutual
inductive Cm (ρ:Re):AV->Value->Prop where
 |b (x:Bool):Cm ρ (.b x) (.bool x)
 |i (k:IntKind) (n:Int):Cm ρ (.i k n) (.int k n)
 |s (x:ByteArray):Cm ρ (.s x) (.string x)
 |p0:Cm ρ (.p none) (.pointer none)
 |p (id o:Nat) (rb:RB) (h:ρ id=some rb):Cm ρ (.p (some (id,o))) (.pointer (some ⟨rb.blk,rb.base+o,none⟩))
 |sl0:Cm ρ (.sl none 0) (.slice none 0 0)
 |sl (id o n c:Nat) (rb:RB) (h:ρ id=some rb) (hc:n<=c) (hm:c<=maxLen) (ho:o=0->∀m e,rb.own=some (m,e)->c * e=m):Cm ρ (.sl (some (id,o)) n) (.slice (some ⟨rb.blk,rb.base+o,none⟩) n c)
 |sle (id o:Nat) (a:Addr) (rb:RB) (h:ρ id=some rb):Cm ρ (.sl (some (id,o)) 0) (.slice (some a) 0 0)
 |f (g:Nat) (a c:List AV) (a' c':List Value) (ha:BO ρ a a') (hc:BO ρ c c'):Cm ρ (.f g a c) (.func (.func g) a'.toArray c'.toArray)
 |nf:Cm ρ .nf .nilFunc
 |ag (cs:List AV) (cs':List Value) (h:BO ρ cs cs'):Cm ρ (.ag cs) (.agg cs'.toArray)
 |tu (cs:List AV) (cs':List Value) (h:BO ρ cs cs'):Cm ρ (.tu cs) (.tuple cs'.toArray)
inductive BO (ρ:Re):List AV->List Value->Prop where
 |nil:BO ρ [] []
 |cons (x:AV) (y:Value) (xs:List AV) (ys:List Value) (h:Cm ρ x y) (hs:BO ρ xs ys):BO ρ (x::xs) (y::ys)
end
theorem RS(ρ:Re):Cm ρ AV.un undef:=.tu [] [] .nil
theorem BO.length{ρ:Re}:∀{xs:List AV} {ys:List Value},BO ρ xs ys->xs.length=ys.length
 | [],[],_=>rfl
 |x::xs,y::ys,h=>by
  cases h with
  |cons _ _ _ _ h hs=>simp[hs.length]
theorem BO.get{ρ:Re}:∀{xs:List AV} {ys:List Value},BO ρ xs ys->∀(j:Nat) (x:AV),xs[j]? = some x->∃y,ys[j]? = some y/\Cm ρ x y
 | [],[],_,j,x,h=>by simp at h
 |x::xs,y::ys,h,j,z,hz=>by
  cases h with
  |cons _ _ _ _ h hs=>
   cases j with
   |zero=>grind
   |succ j=>simpa using hs.get j z (by simpa using hz)
theorem BO.append{ρ:Re}:∀{xs:List AV} {ys:List Value} {xs':List AV} {ys':List Value},BO ρ xs ys->BO ρ xs' ys'->BO ρ (xs++xs') (ys++ys')
 | [],[],_,_,_,h'=>h'
 |x::xs,y::ys,_,_,h,h'=>by
  cases h with
  |cons _ _ _ _ h hs=>exact .cons _ _ _ _ h (hs.append h')
theorem BO.of_get{ρ:Re}:∀(xs:List AV) (ys:List Value),xs.length=ys.length->(∀(j:Nat) (x:AV),xs[j]? = some x->∃y,ys[j]? = some y/\Cm ρ x y)->BO ρ xs ys
 | [],[],_,_=>.nil
 | [],y::ys,h,_=>by simp at h
 |x::xs,[],h,_=>by simp at h
 |x::xs,y::ys,h,hg=>by
  refine .cons _ _ _ _ ?_ (BO.of_get xs ys (by simpa using h) (fun j z hz=>?_))
  .obtain⟨y',h1,h2⟩:=hg 0 x (by simp)
   simp at h1
   subst h1
   exact h2
  .obtain⟨y',h1,h2⟩:=hg (j+1) z (by simpa using hz)
   exact⟨y',by simpa using h1,h2⟩
theorem BO.get'{ρ:Re}{xs:List AV}{ys:List Value}(h:BO ρ xs ys)(j:Nat)(y:Value)(hy:ys[j]? = some y):∃x,xs[j]? = some x/\Cm ρ x y:=by
 have hl:=h.length
 have hj:j<xs.length:=by grind
 obtain⟨y',h1,h2⟩:=h.get j _ (List.getElem?_eq_getElem hj)
 grind
def Le(ρ ρ':Re):Prop:=∀id rb,ρ id=some rb->ρ' id=some rb
theorem Le.refl(ρ:Re):Le ρ ρ:=fun _ _ h=>h
theorem Le.trans{a b c:Re}(h:Le a b)(k:Le b c):Le a c:=fun id rb x=>k id rb (h id rb x)
mutual
theorem Cm.mono{ρ ρ':Re}(hle:Le ρ ρ'):∀{v:AV} {u:Value},Cm ρ v u->Cm ρ' v u
 |_,_,.b x=>.b x
 |_,_,.i k n=>.i k n
 |_,_,.s x=>.s x
 |_,_,.p0=>.p0
 |_,_,.p id o rb h=>.p id o rb (hle _ _ h)
 |_,_,.sl0=>.sl0
 |_,_,.sl id o n c rb h hc hm ho=>.sl id o n c rb (hle _ _ h) hc hm ho
 |_,_,.sle id o a rb h=>.sle id o a rb (hle _ _ h)
 |_,_,.f g a c a' c' ha hc=>.f g a c a' c' (BO.mono hle ha) (BO.mono hle hc)
 |_,_,.nf=>.nf
 |_,_,.ag cs cs' h=>.ag cs cs' (BO.mono hle h)
 |_,_,.tu cs cs' h=>.tu cs cs' (BO.mono hle h)
theorem BO.mono{ρ ρ':Re}(hle:Le ρ ρ'):∀{v:List AV} {u:List Value},BO ρ v u->BO ρ' v u
 |_,_,.nil=>.nil
 |_,_,.cons x y xs ys h hs=>.cons x y xs ys (Cm.mono hle h) (BO.mono hle hs)
end
theorem Cm.cell{ρ:Re}{v:AV}{u:Value}(h:Cm ρ v u)(hc:v.cell=true):u.oneCell'=true:=by
 cases h<;>first|rfl|(simp[AV.cell]at hc)
theorem Cm.cells{ρ:Re}{v:AV}{u:Value}(h:Cm ρ v u)(ht:∀vs,v≠.tu vs):BO ρ v.cells u.cells.toList:=by
 cases h with
 |ag cs cs' h=>simpa[AV.cells,Value.cells]using h
 |tu cs cs' h=>exact absurd rfl (ht _)
 |b x=>exact .cons _ _ _ _ (.b x) .nil
 |i k n=>exact .cons _ _ _ _ (.i k n) .nil
 |s x=>exact .cons _ _ _ _ (.s x) .nil
 |p0=>exact .cons _ _ _ _ .p0 .nil
 |p id o rb h=>exact .cons _ _ _ _ (.p id o rb h) .nil
 |sl0=>exact .cons _ _ _ _ .sl0 .nil
 |sl id o n c rb h hc hm ho=>exact .cons _ _ _ _ (.sl id o n c rb h hc hm ho) .nil
 |sle id o a rb h=>exact .cons _ _ _ _ (.sle id o a rb h) .nil
 |f g a c a' c' ha hc=>exact .cons _ _ _ _ (.f g a c a' c' ha hc) .nil
 |nf=>exact .cons _ _ _ _ .nf .nil
theorem Cm.cells'{ρ:Re}{v:AV}{u:Value}(h:Cm ρ v u):BO ρ v.cells u.cells.toList:=by
 cases h with
 |tu cs cs' h=>exact .cons _ _ _ _ (.tu cs cs' h) .nil
 |_=>apply Cm.cells (by constructor<;>assumption) (by intro vs;simp)
theorem GF{ρ:Re}:∀{xs:List AV} {ys:List Value},BO ρ xs ys->xs.all AV.cell=true->∀u∈ys,u.oneCell'=true
 |_,_,.nil,_,u,hu=>by simp at hu
 |_,_,.cons x y xs ys h hs,ha,u,hu=>by
  simp only[List.all_cons,and_eq_true]at ha
  rcases List.mem_cons.1 hu with rfl|hu
  .exact h.cell ha.1
  .exact GF hs ha.2 u hu
structure ArQ(ρ:Re)(B:Nat)(W:World)(ob:JQ)(rb:RB):Prop where
 cells:∀j v,j<ob.len->ob.cs.get j=some v->∃u,W.cell? ⟨rb.blk,rb.base+j,none⟩ = some u/\Cm ρ v u/\u.oneCell'=true
 own:ob.rw=true->B<=rb.blk/\rb.base=0/\∃cur,W.heap[rb.blk]? = some (.cells cur ob.ty (0,0))/\rb.own=some (cur.size,ob.esz)/\ob.len<=cur.size
 ro:ob.rw=false->rb.blk<B/\rb.own=none
structure CU(σ:St)(ρ:Re)(B:Nat)(W:World):Prop where
 live:∀id ob rb,σ.get id=some ob->ρ id=some rb->ArQ ρ B W ob rb
 dom:∀id,σ.next<=id->ρ id=none
 ndom:∀id,σ.next<=id->σ.get id=none
 excl:∀id id' ob ob' rb rb',id≠id'->σ.get id=some ob->σ.get id'=some ob'->ob.rw=true->ob'.rw=true->ρ id=some rb->ρ id'=some rb'->rb.blk≠rb'.blk
 hB:B<=W.heap.size
structure Cx(σ:St)(ρ:Re)(W:World)(σ':St)(ρ':Re)(W':World):Prop where
 ext:∀id,id < σ.next->ρ' id=ρ id
 nx:σ.next<=σ'.next
 hs:W.heap.size<=W'.heap.size
 os:W'.os=W.os
 tape:W'.tape=W.tape
 output:W'.output=W.output
 frame:∀k,k<W.heap.size->(∀id ob rb,σ.get id=some ob->ob.rw=true->ρ id=some rb->rb.blk≠k)->W'.heap[k]? = W.heap[k]?
 unre:∀id,id < σ.next->ρ id=none->σ'.get id=σ.get id
 fresh:∀id ob rb,σ.next<=id->σ'.get id=some ob->ob.rw=true->ρ' id=some rb->W.heap.size<=rb.blk\/∃id0 ob0 rb0,σ.get id0=some ob0/\ob0.rw=true/\ρ id0=some rb0/\rb0.blk=rb.blk
 old:∀id ob',id < σ.next->σ'.get id=some ob'->∃ob,σ.get id=some ob/\ob.rw=ob'.rw
theorem CU.le{σ σ':St}{ρ ρ':Re}{B:Nat}{W W':World}(h:CU σ ρ B W)(g:Cx σ ρ W σ' ρ' W'):Le ρ ρ':=by
 intro id rb hr
 have:id < σ.next:=by
  rcases lt_or_ge id σ.next with h1|h1
  .exact h1
  .rw[h.dom id h1]at hr;cases hr
 rw[g.ext id this,hr]
theorem Cx.refl(σ:St)(ρ:Re)(W:World){B:Nat}(h:CU σ ρ B W):Cx σ ρ W σ ρ W:=
  { ext:=fun _ _=>rfl,nx:=Nat.le_refl _,hs:=Nat.le_refl _,os:=rfl,tape:=rfl,output:=rfl,frame:=fun _ _ _=>rfl,unre:=fun _ _ _=>rfl,
    fresh:=fun id ob rb h1 h2 _ _=>by rw[h.ndom id h1]at h2;cases h2
    old:=fun id ob h1 h2=>⟨ob,h2,rfl⟩ }
theorem Cx.trans{σ σ1 σ2:St}{ρ ρ1 ρ2:Re}{W W1 W2:World}(g:Cx σ ρ W σ1 ρ1 W1)(k:Cx σ1 ρ1 W1 σ2 ρ2 W2):Cx σ ρ W σ2 ρ2 W2 where
 ext id h:=(k.ext id (Nat.lt_of_lt_of_le h g.nx)).trans (g.ext id h)
 nx:=le_trans g.nx k.nx
 hs:=le_trans g.hs k.hs
 os:=k.os.trans g.os
 tape:=k.tape.trans g.tape
 output:=k.output.trans g.output
 frame b hb hn:=by
  refine(k.frame b (Nat.lt_of_lt_of_le hb g.hs) ?_).trans (g.frame b hb hn)
  intro id ob rb ho hrw hr e
  rcases lt_or_ge id σ.next with h1|h1
  .obtain⟨ob0,h2,h3⟩:=g.old id ob h1 ho
   exact hn id ob0 rb h2 (h3.trans hrw) ((g.ext id h1) ▸ hr) e
  .rcases g.fresh id ob rb h1 ho hrw hr with h2|⟨id0,ob0,rb0,h2,h3,h4,h5⟩
   .omega
   grind
 unre id h1 h2:=(k.unre id (Nat.lt_of_lt_of_le h1 g.nx) ((g.ext id h1).trans h2)).trans (g.unre id h1 h2)
 fresh id ob rb h1 h2 h3 h4:=by
  have key:∀id ob rb,σ1.get id=some ob->ob.rw=true->ρ1 id=some rb->W.heap.size<=rb.blk\/∃id0 ob0 rb0,σ.get id0=some ob0/\ob0.rw=true/\ρ id0=some rb0/\rb0.blk=rb.blk:=by
   intro id ob rb h2 h3 h4
   rcases lt_or_ge id σ.next with h5|h5
   .obtain⟨ob0,h6,h7⟩:=g.old id ob h5 h2
    exact .inr ⟨id,ob0,rb,h6,h7.trans h3,(g.ext id h5) ▸ h4,rfl⟩
   .exact g.fresh id ob rb h5 h2 h3 h4
  rcases lt_or_ge id σ1.next with h5|h5
  .obtain⟨ob0,h6,h7⟩:=k.old id ob h5 h2
   exact key id ob0 rb h6 (h7.trans h3) ((k.ext id h5) ▸ h4)
  .rcases k.fresh id ob rb h5 h2 h3 h4 with h6|⟨id0,ob0,rb0,h6,h7,h8,h9⟩
   .exact .inl (le_trans g.hs h6)
   grind
 old id ob' h1 h2:=by
  obtain⟨ob,h3,h4⟩:=k.old id ob' (Nat.lt_of_lt_of_le h1 g.nx) h2
  obtain⟨ob0,h5,h6⟩:=g.old id ob h1 h3
  exact⟨ob0,h5,h6.trans h4⟩
theorem Cx.below{σ σ':St}{ρ ρ':Re}{B:Nat}{W W':World}(h:CU σ ρ B W)(g:Cx σ ρ W σ' ρ' W'):RowKit.Below B W W':=
 ⟨g.os,g.tape,g.output,g.hs,fun k hk=>g.frame k (Nat.lt_of_lt_of_le hk h.hB) (fun id ob rb ho hrw hr e=>by
  have:=((h.live id ob rb ho hr).own hrw).1
  omega)⟩
def FR(ρ:Re)(F:Fr)(tmps:Array Value):Prop:=∀t,Cm ρ (Fr.tmp F t) (tmps.getD t undef)
theorem FR.mono{ρ ρ':Re}{F:Fr}{tmps:Array Value}(h:FR ρ F tmps)(hle:Le ρ ρ'):FR ρ' F tmps:=fun t=>(h t).mono hle
theorem FR.put{ρ:Re}{F:Fr}{a:Act}{n:Nat}(h:FR ρ F a.tmps)(hn:n<=a.tmps.size){d:Option Nat}(hd:∀k,d=some k->k<n){v:AV}{u:Value}(hv:Cm ρ v u):FR ρ (BD F d v) (a.put d u).tmps:=by
 intro t
 cases d with
 |none=>exact h t
 |some k=>
  have hk:=hd k rfl
  unfold BD Fr.tmp Act.put
  simp only[Tm.get_set]
  by_cases e:t=k
  .subst e
   have:t<a.tmps.size:=by omega
   simp_all
  .have h2:=h t
   simp_all[Fr.tmp,Ne.symm]
theorem HT(a:Act)(d:Option Nat)(u:Value):(a.put d u).tmps.size=a.tmps.size:=by cases d<;>simp[Act.put]
theorem MA{ρ:Re}{v:Value}{x:AV}(h:Ei v=some x):Cm ρ x v:=by
 unfold Ei at h
 split at h<;>first|(cases h;constructor)|cases h
theorem Hp{ρ:Re}:∀(vs:List Value) (xs:List AV),vs.mapM Ei=some xs->BO ρ xs vs
 | [],xs,h=>by
  simp at h
  subst h
  exact .nil
 |v::vs,xs,h=>by
  simp only[List.mapM_cons,Option.bind_eq_bind,Option.bind_eq_some_iff,Option.pure_def]at h
  obtain⟨x,hx,ys,hys,e⟩:=h
  cases e
  exact .cons _ _ _ _ (MA hx) (Hp vs ys hys)
theorem Aa5{ρ:Re}{v:Value}{x:AV}(h:AdW v=some x):Cm ρ x v:=by
 unfold AdW at h
 split at h
 .rename_i cs
  obtain⟨xs,h1,h2⟩:=Option.map_eq_some_iff.1 h
  subst h2
  have:=Cm.ag xs cs.toList (Hp (ρ:=ρ) _ _ h1)
  simpa using this
 .exact MA h
theorem AR{ρ:Re}{F:Fr}{a:Act}(hF:FR ρ F a.tmps){x:Operand}{y:Ar}(h:Au x=some y):Cm ρ (Fr.ev F y) (a.eval x):=by
 cases x with
 |tmp t=>simp only[Au,Option.some.injEq]at h;subst h;exact hF t
 |const v=>
  obtain⟨z,h1,h2⟩:=Option.map_eq_some_iff.1 h
  subst h2
  exact Aa5 h1
 |global g=>cases h
 |func f=>simp only[Au,Option.some.injEq]at h;subst h;exact Cm.f f [] [] [] [] .nil .nil
theorem MB{ρ:Re}{F:Fr}{a:Act}(hF:FR ρ F a.tmps):∀(xs:List Operand) (ys:List Ar),xs.mapM Au=some ys->BO ρ (ys.map (Fr.ev F)) (xs.map a.eval)
 | [],ys,h=>by
  simp at h
  subst h
  exact .nil
 |x::xs,ys,h=>by
  simp only[List.mapM_cons,Option.bind_eq_bind,Option.bind_eq_some_iff,Option.pure_def]at h
  obtain⟨y,hy,zs,hzs,e⟩:=h
  cases e
  exact .cons _ _ _ _ (AR hF hy) (MB hF xs zs hzs)
theorem GL(g o j:Nat):(⟨g,o,none⟩:Addr).add j = ⟨g,o+j,none⟩:=by unfold Addr.add;split<;>simp_all
section
variable {σ:St}{ρ:Re}{B:Nat}{W:World}
theorem NX(hS:CU σ ρ B W){id off:Nat}{v:AV}{rb:RB}(h:σ.load1 id off=some v)(hr:ρ id=some rb) :
  ∃u,W.cell? ⟨rb.blk,rb.base+off,none⟩ = some u/\Cm ρ v u/\u.oneCell'=true:=by
 unfold St.load1 at h
 split at h
 .rename_i ob ho
  cases hb:Nat.blt off ob.len with
  |false=>rw[hb]at h;cases h
  |true=>
   rw[hb]at h
   exact(hS.live id ob rb ho hr).cells off v (by simpa[blt_eq]using hb) h
 .cases h
theorem NY(hS:CU σ ρ B W){id:Nat}{rb:RB}(hr:ρ id=some rb):∀(n off:Nat) (vs:List AV),σ.loadN id off n=some vs ->
  ∃us:List Value,BO ρ vs us/\us.length=n/\(∀j u,us[j]? = some u->W.cell? ((⟨rb.blk,rb.base+off,none⟩:Addr).add j)=some u)/\∀u∈us,u.oneCell'=true:=by
 intro n
 induction n with
 |zero=>intro off vs h;simp only[St.loadN,Option.some.injEq]at h;subst h;exact⟨[],.nil,rfl,by simp,by simp⟩
 |succ n ih=>
  intro off vs h
  unfold St.loadN at h
  split at h
  .rename_i v hv
   split at h
   .rename_i vs' hvs
    cases h
    obtain⟨u,h1,h2,h3⟩:=NX hS hv hr
    obtain⟨us,h4,h5,h6,h7⟩:=ih (off+1) vs' hvs
    refine⟨u::us,.cons _ _ _ _ h2 h4,by simp[h5],fun j w hj=>?_,fun w hw=>?_⟩
    .cases j with
     |zero=>simp_all[GL]
     |succ j=>
      grind[GL]
    grind
   .cases h
  .cases h
theorem Rt(hS:CU σ ρ B W)(ob:JQ):CU (σ.new ob) ρ B W where
 live id ob' rb h hr:=by
  refine hS.live id ob' rb ?_ hr
  unfold St.get St.new at h
  rw[Tm.get_set]at h
  have:id≠σ.next:=by rintro rfl;rw[hS.dom _ (Nat.le_refl _)]at hr;cases hr
  rw[if_neg this]at h
  exact h
 dom id h:=hS.dom id (by simp only[St.new]at h;omega)
 ndom id h:=by
  simp only[St.new]at h
  unfold St.get St.new
  rw[Tm.get_set,if_neg (by omega)]
  exact hS.ndom id (by omega)
 excl id id' ob1 ob2 rb rb' hne h1 h2 h3 h4 h5 h6:=by
  have g:∀{i:Nat} {o:JQ} {r:RB},(σ.new ob).get i=some o->ρ i=some r->σ.get i=some o:=by
   intro i o r h hr
   unfold St.get St.new at h
   rw[Tm.get_set]at h
   have:i≠σ.next:=by rintro rfl;rw[hS.dom _ (Nat.le_refl _)]at hr;cases hr
   rw[if_neg this]at h
   exact h
  exact hS.excl id id' ob1 ob2 rb rb' hne (g h1 h5) (g h2 h6) h3 h4 h5 h6
 hB:=hS.hB
def upd(ρ:Re)(id:Nat)(rb:RB):Re:=fun j=>if j=id then some rb else ρ j
theorem Cl(ρ:Re)(id:Nat)(rb:RB):upd ρ id rb id=some rb:=by simp[upd]
theorem BY{ρ:Re}{id j:Nat}{rb:RB}(h:j≠id):upd ρ id rb j=ρ j:=by simp[upd,h]
theorem A4t{id:Nat}{rb:RB}(h:ρ id=none):Le ρ (upd ρ id rb):=by
 intro j r hj
 have:j≠id:=by rintro rfl;rw[h]at hj;cases hj
 rw[BY this];exact hj
theorem JC{W W':World}{b o:Nat}(h:W'.heap[b]? = W.heap[b]?):W'.cell? ⟨b,o,none⟩ = W.cell? ⟨b,o,none⟩:=by simp[World.cell?,h]
theorem A8B(hS:CU σ ρ B W){id:Nat}{ob:JQ}(hid:id < σ.next)(ho:σ.get id=some ob)(hn:ρ id=none)(hrw:ob.rw=true)(cur:Array Value)(hlen:ob.len<=cur.size)
  (hc:∀j v,j<ob.len->ob.cs.get j=some v->∃u,cur[j]? = some u/\Cm ρ v u/\u.oneCell'=true) :
  CU σ (upd ρ id ⟨W.heap.size,0,some (cur.size,ob.esz)⟩) B (W.alloc (.cells cur ob.ty)):=by
 have hle:Le ρ (upd ρ id ⟨W.heap.size,0,some (cur.size,ob.esz)⟩):=A4t hn
 have hold:∀j ob' rb,σ.get j=some ob'->ρ j=some rb->ob'.rw=true->rb.blk<W.heap.size:=by
  intro j ob' rb h1 h2 h3
  obtain⟨_,_,c,h4,_⟩:=(hS.live j ob' rb h1 h2).own h3
  grind
 constructor
 .intro j ob' rb h1 h2
  by_cases e:j=id
  .subst e
   rw[Cl]at h2
   cases h2
   rw[ho]at h1
   cases h1
   refine⟨fun k v hk hv=>?_,fun _=>⟨hS.hB,rfl,cur,heap_alloc_new _ _,rfl,hlen⟩,fun h=>by rw[hrw]at h;cases h⟩
   obtain⟨u,h3,h4,h5⟩:=hc k v hk hv
   refine⟨u,?_,h4.mono hle,h5⟩
   simp_all
  .rw[BY e]at h2
   obtain⟨l1,l2,l3⟩:=hS.live j ob' rb h1 h2
   refine⟨fun k v hk hv=>?_,fun h=>?_,l3⟩
   .obtain⟨u,h3,h4,h5⟩:=l1 k v hk hv
    have:=World.block_lt_of_cell? W _ h3
    exact⟨u,by grind[World.cell?_alloc_lt],h4.mono hle,h5⟩
   grind[heap_alloc_old]
 .intro j hj
  rw[BY (by omega)]
  exact hS.dom j hj
 .exact hS.ndom
 .intro i j o1 o2 r1 r2 hne h1 h2 h3 h4 h5 h6
  by_cases e1:i=id
  .subst e1
   rw[Cl]at h5
   cases h5
   rw[BY (Ne.symm hne)]at h6
   grind
  .rw[BY e1]at h5
   by_cases e2:j=id
   .grind[Cl]
   .rw[BY e2]at h6
    exact hS.excl i j o1 o2 r1 r2 hne h1 h2 h3 h4 h5 h6
 .have:=hS.hB
  simp
  omega
theorem Br(σ:St)(ob:JQ)(id:Nat):(σ.new ob).get id=if id=σ.next then some ob else σ.get id:=by
 unfold St.get St.new
 rw[Tm.get_set]
theorem Nj(hS:CU σ ρ B W)(ob:JQ)(hrw:ob.rw=true)(cur:Array Value)(hlen:ob.len<=cur.size)
  (hc:∀j v,j<ob.len->ob.cs.get j=some v->∃u,cur[j]? = some u/\Cm ρ v u/\u.oneCell'=true) :
  CU (σ.new ob) (upd ρ σ.next ⟨W.heap.size,0,some (cur.size,ob.esz)⟩) B (W.alloc (.cells cur ob.ty)) /\
   Cx σ ρ W (σ.new ob) (upd ρ σ.next ⟨W.heap.size,0,some (cur.size,ob.esz)⟩) (W.alloc (.cells cur ob.ty)):=by
 refine⟨A8B (Rt hS ob) (id:=σ.next) (by simp[St.new]) (by rw[Br,if_pos rfl]) (hS.dom _ (Nat.le_refl _)) hrw cur hlen hc,?_⟩
 constructor
 .intro id h;exact BY (by omega)
 .simp[St.new]
 .simp
 .rfl
 .rfl
 .rfl
 .grind[heap_alloc_old]
 .intro id h _;rw[Br,if_neg (by omega)]
 .intro id ob' rb h1 h2 h3 h4
  rw[Br]at h2
  by_cases e:id=σ.next
  .subst e
   rw[Cl]at h4
   grind
  .rw[if_neg e,hS.ndom id h1]at h2
   cases h2
 .intro id ob' h1 h2
  rw[Br,if_neg (by omega)]at h2
  exact⟨ob',h2,rfl⟩
theorem Zz(hS:CU σ ρ B W){id off:Nat}{v:AV}{rb:RB}{σ':St}(h:σ.store1 id off v=some σ')(hr:ρ id=some rb){u:Value}(hu:Cm ρ v u) :
  W.frozen? ⟨rb.blk,rb.base+off,none⟩ = false/\(∃c,W.cell? ⟨rb.blk,rb.base+off,none⟩ = some c)/\u.oneCell'=true /\
   CU σ' ρ B (W.setCell ⟨rb.blk,rb.base+off,none⟩ u)/\Cx σ ρ W σ' ρ (W.setCell ⟨rb.blk,rb.base+off,none⟩ u):=by
 unfold St.store1 at h
 split at h
 .rename_i ob ho
  cases hb:(ob.rw&&Nat.blt off ob.len&&v.cell)with
  |false=>rw[hb]at h;cases h
  |true=>
   rw[hb]at h
   simp only[cond_true,Option.some.injEq]at h
   subst h
   simp only[and_eq_true,blt_eq]at hb
   obtain⟨⟨hrw,hlt⟩,hcell⟩:=hb
   have hone:=hu.cell hcell
   have L:=hS.live id ob rb ho hr
   obtain⟨hB1,hbase,cur,hcur,hown,hle⟩:=L.own hrw
   have hput:∀j,(σ.put id { ob with cs:=ob.cs.set off v }).get j=if j=id then some { ob with cs:=ob.cs.set off v }else σ.get j:=by
    grind[St.get,St.put,Tm.get_set]
   have hoff:off<cur.size:=by omega
   have hW:(W.setCell ⟨rb.blk,rb.base+off,none⟩ u).heap[rb.blk]? = some (.cells (cur.setIfInBounds off u) ob.ty (0,0)):=by
    rw[hbase,zero_add]
    grind[heap_setCell_same]
   have hO:∀k,k≠rb.blk->(W.setCell ⟨rb.blk,rb.base+off,none⟩ u).heap[k]? = W.heap[k]?:=fun k hk=>heap_setCell_other W _ k u hk
   refine⟨?_,⟨cur[off],?_⟩,hone,?_,?_⟩
   .simp[World.frozen?,hcur]
   .rw[hbase,zero_add,cell_of_row W rb.blk off cur ob.ty (0,0) hcur]
    simp[hoff]
   .constructor
    .intro j ob' rb' h1 h2
     rw[hput]at h1
     by_cases e:j=id
     .subst e
      rw[if_pos rfl]at h1
      cases h1
      rw[hr]at h2
      cases h2
      refine⟨fun k w hk hw=>?_,fun _=>⟨hB1,hbase,_,hW,by simpa using hown,by simpa using hle⟩,fun h=>by grind⟩
      simp only[Tm.get_set]at hw
      rw[cell_of_row _ rb.blk (rb.base+k) _ ob.ty (0,0) hW,hbase,zero_add]
      by_cases e2:k=off
      .grind
      .rw[if_neg e2]at hw
       obtain⟨x,h3,h4,h5⟩:=L.cells k w hk hw
       rw[hbase,zero_add,cell_of_row W rb.blk k cur ob.ty (0,0) hcur]at h3
       grind
     .rw[if_neg e]at h1
      have L':=hS.live j ob' rb' h1 h2
      have hne:rb'.blk≠rb.blk:=by
       cases hrw':ob'.rw with
       |true=>exact hS.excl j id ob' ob rb' rb e h1 ho hrw' hrw h2 hr
       |false=>have:=(L'.ro hrw').1;omega
      refine⟨fun k w hk hw=>?_,fun h=>?_,L'.ro⟩
      .obtain⟨x,h3,h4,h5⟩:=L'.cells k w hk hw
       grind[JC]
      .obtain⟨h3,h4,c,h5,h6,h7⟩:=L'.own h
       grind
    .exact hS.dom
    .intro j hj
     rw[hput]
     have:j≠id:=by rintro rfl;rw[hS.ndom j hj]at ho;cases ho
     rw[if_neg this]
     exact hS.ndom j hj
    .intro i j o1 o2 r1 r2 hne h1 h2 h3 h4 h5 h6
     have g:∀{i:Nat} {o:JQ},(σ.put id { ob with cs:=ob.cs.set off v }).get i=some o->o.rw=true->∃o',σ.get i=some o'/\o'.rw=true:=by
      grind
     obtain⟨o1',g1,g2⟩:=g h1 h3
     obtain⟨o2',g3,g4⟩:=g h2 h4
     exact hS.excl i j o1' o2' r1 r2 hne g1 g3 g2 g4 h5 h6
    .simpa using hS.hB
   .constructor
    .intro _ _;rfl
    .exact Nat.le_refl _
    .simp
    .rfl
    .rfl
    .rfl
    .grind
    .grind
    .grind
    grind
 .cases h
theorem ML{P:Program}{id:Nat}{rb:RB}:∀(cs:List AV) (us:List Value) (off i:Nat) (σ:St) (W:World) (σ':St),CU σ ρ B W->σ.storeN id (off+i) cs=some σ'->ρ id=some rb->BO ρ cs us ->
  ∃W',(storeCells ⟨rb.blk,rb.base+off,none⟩ us i).run P W=.ok () W'/\CU σ' ρ B W'/\Cx σ ρ W σ' ρ W':=by
 intro cs
 induction cs with
 |nil=>
  intro us off i σ W σ' hS h hr hR
  cases hR
  simp only[St.storeN,Option.some.injEq]at h
  subst h
  exact⟨W,rfl,hS,Cx.refl _ _ _ hS⟩
 |cons v vs ih=>
  intro us off i σ W σ' hS h hr hR
  cases hR with
  |cons _ u _ us hu hus=>
   unfold St.storeN at h
   split at h
   .rename_i σ1 h1
    obtain⟨hf,⟨c,hc⟩,hone,hS1,hG1⟩:=Zz hS h1 hr hu
    obtain⟨W',h2,h3,h4⟩:=ih us off (i+1) σ1 _ σ' hS1 (by rw[<- add_assoc];exact h) hr hus
    refine⟨W',?_,h3,hG1.trans h4⟩
    simp_all[storeCells,GL,add_assoc,run_store]
   .cases h
end
theorem A9t(σ:St)(id j:Nat):(Ey σ (some id)).get j=if j=id then none else σ.get j:=by
 grind[Ey,St.get,Tm.get_del]
section
variable {σ:St}{ρ:Re}{B:Nat}{W:World}
theorem Km(hS:CU σ ρ B W){W':World}{row:Option Nat}(hg:W.grownBy W' row)(dead:Option Nat)
  (hdead:∀id,dead=some id->∃ob,σ.get id=some ob/\ob.rw=true/\ρ id≠none)
  (hrow:∀k,row=some k->∃id ob rb,dead=some id/\σ.get id=some ob/\ob.rw=true/\ρ id=some rb/\rb.blk=k)
  (nob:JQ) (hrw:nob.rw=true) {g:Nat} {cur:Array Value} (hcur:W'.heap[g]? = some (.cells cur nob.ty (0,0))) (hBg:B<=g) (hgn:row=some g\/g=W.heap.size) (hlen:nob.len<=cur.size)
  (hc:∀j v,j<nob.len->nob.cs.get j=some v->∃u,cur[j]? = some u/\Cm ρ v u/\u.oneCell'=true) :
  CU ((Ey σ dead).new nob) (upd ρ σ.next ⟨g,0,some (cur.size,nob.esz)⟩) B W'/\Cx σ ρ W ((Ey σ dead).new nob) (upd ρ σ.next ⟨g,0,some (cur.size,nob.esz)⟩) W':=by
 have hnx:(Ey σ dead).next=σ.next:=by cases dead<;>rfl
 have Cf:∀j,((Ey σ dead).new nob).get j=if j=σ.next then some nob else if dead=some j then none else σ.get j:=by
  intro j
  rw[Br,hnx]
  by_cases e:j=σ.next
  .rw[if_pos e,if_pos e]
  .rw[if_neg e,if_neg e]
   cases dead with
   |none=>simp[Ey]
   |some id=>
    rw[A9t]
    grind
 have hle:Le ρ (upd ρ σ.next ⟨g,0,some (cur.size,nob.esz)⟩):=A4t (hS.dom _ (Nat.le_refl _))
 have elder:∀j ob,j≠σ.next->((Ey σ dead).new nob).get j=some ob->σ.get j=some ob/\dead≠some j:=by
  grind
 have away:∀j ob rb,j≠σ.next->((Ey σ dead).new nob).get j=some ob->ρ j=some rb->some rb.blk≠row:=by
  intro j ob rb hj h hr e
  obtain⟨h1,h2⟩:=elder j ob hj h
  obtain⟨id,ob0,rb0,h3,h4,h5,h6,h7⟩:=hrow rb.blk e.symm
  cases hw:ob.rw with
  |true=>
   have hne:j≠id:=by rintro rfl;exact h2 h3
   exact hS.excl j id ob ob0 rb rb0 hne h1 h4 hw h5 hr h6 h7.symm
  |false=>
   have h8:=((hS.live j ob rb h1 hr).ro hw).1
   have h9:=((hS.live id ob0 rb0 h4 h6).own h5).1
   omega
 have hblkR:∀j ob rb,σ.get j=some ob->ρ j=some rb->rb.blk<W.heap.size:=by
  intro j ob rb h hr
  cases hw:ob.rw with
  |true=>
   obtain⟨_,_,c,h5,_⟩:=(hS.live j ob rb h hr).own hw
   grind
  |false=>
   have:=((hS.live j ob rb h hr).ro hw).1
   have:=hS.hB
   omega
 constructor
 .constructor
  .intro j ob rb h hr
   by_cases e:j=σ.next
   .subst e
    rw[Cl]at hr
    cases hr
    rw[Cf,if_pos rfl]at h
    cases h
    refine⟨fun k v hk hv=>?_,fun _=>⟨hBg,rfl,cur,hcur,rfl,hlen⟩,fun h=>by rw[hrw]at h;cases h⟩
    obtain⟨u,h3,h4,h5⟩:=hc k v hk hv
    refine⟨u,?_,h4.mono hle,h5⟩
    rw[zero_add,cell_of_row W' g k cur nob.ty (0,0) hcur]
    exact h3
   .rw[BY e]at hr
    obtain⟨h1,h2⟩:=elder j ob e h
    have hb:=hblkR j ob rb h1 hr
    have hblk:=hg.block rb.blk hb (away j ob rb e h hr)
    obtain⟨l1,l2,l3⟩:=hS.live j ob rb h1 hr
    refine⟨fun k v hk hv=>?_,fun hh=>?_,l3⟩
    .obtain⟨u,h3,h4,h5⟩:=l1 k v hk hv
     exact⟨u,by rw[JC hblk];exact h3,h4.mono hle,h5⟩
    grind
  .intro j hj
   have:σ.next+1<=j:=by simpa[St.new,hnx]using hj
   rw[BY (by omega)]
   exact hS.dom j (by omega)
  .intro j hj
   have h1:σ.next+1<=j:=by simpa[St.new,hnx]using hj
   rw[Cf,if_neg (by omega)]
   split
   .rfl
   .exact hS.ndom j (by omega)
  .intro i j o1 o2 r1 r2 hne h1 h2 h3 h4 h5 h6
   have newold:∀j ob rb,j≠σ.next->((Ey σ dead).new nob).get j=some ob->ρ j=some rb->rb.blk≠g:=by
    grind
   by_cases e1:i=σ.next
   .subst e1
    rw[Cl]at h5
    cases h5
    have e2:j≠σ.next:=Ne.symm hne
    rw[BY e2]at h6
    exact Ne.symm (newold j o2 r2 e2 h2 h6)
   .rw[BY e1]at h5
    by_cases e2:j=σ.next
    .grind[Cl]
    .rw[BY e2]at h6
     exact hS.excl i j o1 o2 r1 r2 hne (elder i o1 e1 h1).1 (elder j o2 e2 h2).1 h3 h4 h5 h6
  .exact le_trans hS.hB hg.size
 .constructor
  .intro j hj;exact BY (by omega)
  .simp[St.new,hnx]
  .exact hg.size
  .exact hg.os
  .exact hg.tape
  .exact hg.output
  .intro k hk hn
   refine hg.block k hk (fun e=>?_)
   grind
  .grind
  .intro j ob rb h1 h2 h3 h4
   by_cases e:j=σ.next
   .grind[Cl]
   .have:=(elder j ob e h2).1
    rw[hS.ndom j h1]at this
    cases this
  grind
theorem TU(hS:CU σ ρ B W){esz m:Nat}{o':Option (Nat×Nat)}{k:Nat}{ys:List AV}(h:GB esz o' k σ=some ys)(hk:k<=m){vy:Value}(hy:Cm ρ (.sl o' m) vy) :
  ∃a c us,vy=.slice a m c/\BO ρ ys us/\us.length=k * esz/\(∀u∈us,u.oneCell'=true)/\(k≠0->∃ad,a=some ad/\∀j u,us[j]? = some u->W.cell? (ad.add j)=some u):=by
 cases hy with
 |sl0=>
  have:k=0:=by omega
  subst this
  simp[GB]at h
  subst h
  exact⟨none,0,[],rfl,.nil,by simp,by simp,fun h=>absurd rfl h⟩
 |sl id off _ c rb hr hc hm ho=>
  obtain⟨us,h1,h2,h3,h4⟩:=NY hS hr (k * esz) off ys h
  exact⟨_,c,us,rfl,h1,h2,h4,fun _=>⟨_,rfl,h3⟩⟩
 |sle id off a rb hr=>
  have:k=0:=by omega
  subst this
  simp[GB,St.loadN]at h
  subst h
  exact⟨some a,0,[],rfl,.nil,by simp,by simp,fun h=>absurd rfl h⟩
theorem JZ{P:Program}{t ty e:TypeId}{i:TypeInfo}(ht:P.underlying t=some (.slice e))(hi:P.info? e=some i)(b a:Option Addr)(n c c':Nat)(hn:n<=c)(W:World)(ha:a=none->c'=0) :
  (Builtin.append_ #[t,t] ty #[.slice b n c,.slice a 0 c']).run P W=.ok (.slice b n c) W:=by
 cases a with
 |none=>
  cases b with
  |none=>simp[Builtin.append_,run_underlying ht,sizeOf,typeInfo,hi,Builtin.lenOf,Builtin.firstCells,hn]
  |some b=>simp[Builtin.append_,run_underlying ht,sizeOf,typeInfo,hi,Builtin.lenOf,Builtin.firstCells,hn,storeCells]
 |some a=>
  cases b with
  |none=>simp[Builtin.append_,run_underlying ht,sizeOf,typeInfo,hi,Builtin.lenOf,Builtin.firstCells,loadCells,loadCellsFrom,hn]
  |some b=>simp[Builtin.append_,run_underlying ht,sizeOf,typeInfo,hi,Builtin.lenOf,Builtin.firstCells,loadCells,loadCellsFrom,hn,storeCells]
theorem A9i{P:Program}{t ty e:TypeId}{i:TypeInfo}{zv:Value}(ht:P.underlying t=some (.slice e))(hi:P.info? e=some i)(hz:i.zero=some zv)(hzs:zv.cells.size=i.size)(hsz:0<i.size)(hb:0<i.bytes)
  (hS:CU σ ρ B W) {o o':Option (Nat×Nat)} {n m:Nat} {vx vy:Value} (hx:Cm ρ (.sl o n) vx) (hy:Cm ρ (.sl o' m) vy) {v:AV} {σ':St} (h:Pm e i.size i.bytes o n o' m σ=some (v,σ')) :
  ∃ρ' W' u,(Builtin.append_ #[t,t] ty #[vx,vy]).run P W=.ok u W'/\Cm ρ' v u/\CU σ' ρ' B W'/\Cx σ ρ W σ' ρ' W':=by
 unfold Pm at h
 cases hsize:Nat.ble ((n+m) * i.bytes) A6 with
 |false=>rw[hsize]at h;cases h
 |true=>
 rw[hsize]at h
 simp only[cond_true]at h
 have hbytes:(n+m) * i.bytes<=140737488355328:=by simpa[A6]using hsize
 have hnm:n+m<=140737488355328:=le_trans (Nat.le_mul_of_pos_right _ hb) hbytes
 cases hys:GB i.size o' m σ with
 |none=>rw[hys]at h;cases h
 |some ys=>
 rw[hys]at h
 simp only at h
 obtain⟨a,c,us,rfl,hR,hul,hone,hcells⟩:=TU hS hys (Nat.le_refl m) hy
 have hac:a=none->c=0:=by
  intro e
  subst e
  cases hy
  rfl
 by_cases hm0:m=0
 .subst hm0
  simp only[beq_refl,cond_true,Option.some.injEq,Prod.mk.injEq]at h
  obtain⟨rfl,rfl⟩:=h
  refine⟨ρ,W,vx,?_,hx,hS,Cx.refl _ _ _ hS⟩
  cases hx with
  |sl0=>simp_all[JZ]
  |sl id off _ cx rb hr hc hmx ho=>grind[JZ]
  |sle id off b rb hr=>simp_all[JZ]
 have hmb:Nat.beq m 0=false:=by
  grind[eq_of_beq_eq_true]
 rw[hmb]at h
 simp only[cond_false]at h
 obtain⟨ad,rfl,hcell⟩:=hcells hm0
 cases o with
 |none=>
  have hx':n=0/\vx=.slice none 0 0:=by cases hx;exact⟨rfl,rfl⟩
  obtain⟨rfl,rfl⟩:=hx'
  simp only[beq_refl,cond_true,Option.some.injEq,Prod.mk.injEq]at h
  obtain⟨rfl,rfl⟩:=h
  obtain⟨v',w',hr,hown,hg,hnil,hat⟩:=run_append_own_at (P:=P) W B t ty e i zv i.size i.bytes ht hi hz rfl rfl hzs hsz (.slice none 0 0) 0 [] (World.ownsRow_nil _ _ _ _) ad m c us hul hcell hone (by simp only[maxLen];omega) hbytes hS.hB
  rw[zero_add]at hown
  rcases hown.2 with ⟨h1,h2⟩|⟨g,cap,cur,rfl,hBg,hcur,hnc,hcm,hcs,htake⟩
  .exact absurd h2 hm0
  .have hgW:g=W.heap.size:=by
    grind[Value.ownBlock]
   have hlen:m * i.size<=cur.size:=by grind
   have:=Km hS (row:=none) (W':=w') hg none (fun _ h=>by cases h) (fun _ h=>by cases h) { ty:=e,rw:=true,esz:=i.size,len:=m * i.size,cs:=Tm.ofList ys } rfl hcur hBg (.inr hgW) hlen
    (fun j v hj hv=>by
     simp only at hj hv
     rw[Tm.get_ofList]at hv
     obtain⟨u,h3,h4⟩:=hR.get j v hv
     grind)
   refine⟨_,w',_,hr,?_,this.1,this.2⟩
   have:=Cm.sl (ρ:=upd ρ σ.next ⟨g,0,some (cur.size,i.size)⟩) σ.next 0 m cap ⟨g,0,some (cur.size,i.size)⟩ (Cl _ _ _) hnc hcm (fun _ m' e' he=>by
    grind)
   simpa using this
 |some io=>
  obtain⟨id,off⟩:=io
  simp only at h
  cases hob:σ.get id with
  |none=>rw[hob]at h;cases h
  |some ob=>
  rw[hob]at h
  simp only at h
  cases hcond:(Nat.beq off 0&&ob.rw&&Nat.beq ob.ty e&&Nat.beq ob.esz i.size&&Nat.beq ob.len (n * i.size))with
  |false=>rw[hcond]at h;cases h
  |true=>
  rw[hcond]at h
  simp only[cond_true,Option.some.injEq,Prod.mk.injEq]at h
  obtain⟨rfl,rfl⟩:=h
  simp only[and_eq_true]at hcond
  obtain⟨⟨⟨⟨h1,hrw⟩,h2⟩,h3⟩,h4⟩:=hcond
  have hoff:off=0:=eq_of_beq_eq_true h1
  have hty:ob.ty=e:=eq_of_beq_eq_true h2
  have hesz:ob.esz=i.size:=eq_of_beq_eq_true h3
  have hlen:ob.len=n * i.size:=eq_of_beq_eq_true h4
  subst hoff
  have cellsOf:∀(xs:List Value) (cur:Array Value),xs.length=n * i.size->(∀j v,j<ob.len->ob.cs.get j=some v->∃u,xs[j]? = some u/\Cm ρ v u/\u.oneCell'=true)->cur.toList.take ((n+m) * i.size)=xs++us ->
    ∀j v,j<(n+m) * i.size->(Tm.ofFrom (n * i.size) ys ob.cs).get j=some v->∃u,cur[j]? = some u/\Cm ρ v u/\u.oneCell'=true:=by
   intro xs cur hxl hxs htake j v hj hv
   have hcur:cur[j]? = (xs++us)[j]?:=by grind
   rw[hcur]
   rw[Tm.get_ofFrom]at hv
   by_cases hjn:j<n * i.size
   .grind
   .rw[if_neg hjn]at hv
    rw[List.getElem?_append_right (by omega),hxl]
    have hlt:j-n * i.size<ys.length:=by
     have:=hR.length
     rw[Nat.add_mul]at hj
     omega
    rw[List.getElem?_eq_getElem hlt]at hv
    simp only[Option.some.injEq]at hv
    obtain⟨u,h5,h6⟩:=hR.get _ v (by rw[List.getElem?_eq_getElem hlt,hv])
    grind
  have repOf:∀(g cap:Nat) (cur:Array Value),n+m<=cap->cap<=maxLen->cur.size=cap * i.size ->
    Cm (upd ρ σ.next ⟨g,0,some (cur.size,i.size)⟩) (.sl (some (σ.next,0)) (n+m)) (.slice (some ⟨g,0,none⟩) (n+m) cap):=by
   intro g cap cur hnc hcm hcs
   have:=Cm.sl (ρ:=upd ρ σ.next ⟨g,0,some (cur.size,i.size)⟩) σ.next 0 (n+m) cap ⟨g,0,some (cur.size,i.size)⟩ (Cl _ _ _) hnc hcm (fun _ m' e' he=>by
    grind)
   simpa using this
  cases hx with
  |sle _ _ b rb0 hr0=>
   have hr:=run_append_grow (P:=P) W t ty e i zv ht hi hz b 0 0 [] (by simp) (by simp) ad m c us hul hcell (by omega) (by omega) (growslice_fits (by omega) hbytes)
   have hge:=grownCap_ge W (0+m) 0 e
   have hcm:grownCap W (0+m) 0 e<=maxLen:=grownCap_le_maxLen W (0+m) 0 e (by simp only[maxLen];omega)
   generalize hcur:(#[]++us.toArray++Builtin.zeroCells zv.cells (grownCap W (0+m) 0 e-(0+m)):Array Value)=cur at *
   have hcs:cur.size=grownCap W (0+m) 0 e * i.size:=by
    rw[<- hcur]
    simp only[Array.size_append,List.size_toArray,List.length_nil,size_zeroCells,hzs,hul,<- Nat.add_mul,zero_add]
    grind
   have htake:cur.toList.take ((0+m) * i.size)=[]++us:=by
    grind
   have hg:W.grownBy (W.drew.alloc (.cells cur e)) none:=⟨rfl,rfl,rfl,by simp,fun k hk _=>heap_alloc_old W.drew _ hk⟩
   have:=Km hS hg (some id) (fun j hj=>by grind) (fun _ h=>by cases h) { ty:=e,rw:=true,esz:=i.size,len:=(0+m) * i.size,cs:=Tm.ofFrom (0 * i.size) ys ob.cs } rfl
    (heap_alloc_new W.drew _) hS.hB (.inr rfl) (by grind) (cellsOf [] cur (by simp) (fun j v hj=>by rw[hlen]at hj;omega) htake)
   exact⟨_,_,_,hr,repOf _ _ cur hge hcm hcs,this.1,this.2⟩
  |sl _ _ _ cx rb hr hc hmx ho=>
   have L:=hS.live id ob rb hob hr
   obtain⟨hB1,hbase,cur,hcur,hown,hle⟩:=L.own hrw
   have hcs:cur.size=cx * i.size:=by
    grind
   have hxl:(cur.toList.take (n * i.size)).length=n * i.size:=by
    grind
   have hownR:W.ownsRow B e i.size (.slice (some ⟨rb.blk,0,none⟩) n cx) n (cur.toList.take (n * i.size)):=⟨hxl,.inr ⟨rb.blk,cx,cur,rfl,hB1,by rw[<- hty];exact hcur,hc,hmx,hcs,rfl⟩⟩
   obtain⟨v',w',hrun,hown',hg,hnil,hat⟩:=run_append_own_at (P:=P) W B t ty e i zv i.size i.bytes ht hi hz rfl rfl hzs hsz _ n _ hownR ad m c us hul hcell hone (by simp only[maxLen];omega) hbytes hS.hB
   rcases hown'.2 with ⟨h5,h6⟩|⟨g,cap,cur2,rfl,hBg,hcur2,hnc,hcm,hcs2,htake⟩
   .exact absurd h6 (by omega)
   .simp only[Value.ownBlock]at hg hat
    have hgn:some rb.blk=some g\/g=W.heap.size:=by
     grind
    have:=Km hS hg (some id) (fun j hj=>by grind) (fun k hk=>by grind) { ty:=e,rw:=true,esz:=i.size,len:=(n+m) * i.size,cs:=Tm.ofFrom (n * i.size) ys ob.cs } rfl
     hcur2 hBg hgn (by simp_all[Nat.mul_le_mul_right]) (cellsOf _ cur2 hxl (fun j v hj hv=>by
      obtain⟨u,h7,h8,h9⟩:=L.cells j v hj hv
      rw[hbase,zero_add,cell_of_row W rb.blk j cur ob.ty (0,0) hcur]at h7
      grind) htake)
    grind
end
theorem BO.size{ρ:Re}{xs:List AV}{ys:Array Value}(h:BO ρ xs ys.toList):xs.length=ys.size:=by
 rw[h.length,Array.length_toList (xs:=ys)]
def Bz(P:Program)(o:Oper)(a:Act)(σ:St)(ρ:Re)(B:Nat)(W:World)(v:AV)(σ':St):Prop:=
 ∃ρ' W',CU σ' ρ' B W'/\Cx σ ρ W σ' ρ' W'/\((∃u,(execOp a.eval o).run P W=.ok (.value u) W'/\Cm ρ' v u)\/((execOp a.eval o).run P W=.ok .skip W'/\v=AV.un))
section
variable {P:Program}{o:Oper}{a:Act}{σ σ':St}{ρ:Re}{B:Nat}{W:World}{F:Fr}{v:AV}
theorem Bz.pure(hS:CU σ ρ B W){u:Value}(h:(execOp a.eval o).run P W=.ok (.value u) W)(hr:Cm ρ v u):Bz P o a σ ρ B W v σ:=
 ⟨ρ,W,hS,Cx.refl _ _ _ hS,.inl ⟨u,h,hr⟩⟩
theorem Bz.val{ρ':Re}{W':World}(hS:CU σ' ρ' B W')(hg:Cx σ ρ W σ' ρ' W'){u:Value}(h:(execOp a.eval o).run P W=.ok (.value u) W')(hr:Cm ρ' v u):Bz P o a σ ρ B W v σ':=
 ⟨ρ',W',hS,hg,.inl ⟨u,h,hr⟩⟩
theorem Gh{ρ:Re}{k:IntKind}{n:Int}{u:Value}(h:Cm ρ (.i k n) u):u=.int k n:=by cases h;rfl
theorem A8C{ρ:Re}{x:Bool}{u:Value}(h:Cm ρ (.b x) u):u=.bool x:=by cases h;rfl
theorem A1M{ρ:Re}{x:ByteArray}{u:Value}(h:Cm ρ (.s x) u):u=.string x:=by cases h;rfl
theorem TL{ρ:Re}{id off:Nat}{u:Value}(h:Cm ρ (.p (some (id,off))) u):∃rb,ρ id=some rb/\u=.pointer (some ⟨rb.blk,rb.base+off,none⟩):=by cases h;exact⟨_,‹_›,rfl⟩
theorem sizeOf?_some{t:TypeId}{n:Nat}(h:sizeOf? P t=some n):∃i,P.info? t=some i/\i.size=n:=Option.map_eq_some_iff.1 h
theorem Bc?_some{t:TypeId}{n:Nat}(h:Bc? P t=some n):∃i,P.info? t=some i/\i.bytes=n:=Option.map_eq_some_iff.1 h
theorem Cq{t:TypeId}{z:List AV}(h:EP P t=some z):∃i zv,P.info? t=some i/\i.zero=some zv/\(∀ρ,BO ρ z zv.cells.toList)/\z.length=zv.cells.size/\zv.cells.toList.mapM Ei=some z:=by
 unfold EP at h
 split at h
 .rename_i i hi
  split at h
  .rename_i zv hz
   exact⟨i,zv,hi,hz,fun ρ=>Hp _ _ h,by simpa using(Hp (ρ:=fun _=>none) _ _ h).length,h⟩
  .cases h
 .cases h
theorem Cd:∀(vs:List Value) (xs:List AV),vs.mapM Ei=some xs->xs.all AV.cell=true
 | [],xs,h=>by
  simp at h
  subst h
  rfl
 |v::vs,xs,h=>by
  simp only[List.mapM_cons,Option.bind_eq_bind,Option.bind_eq_some_iff,Option.pure_def]at h
  obtain⟨x,hx,ys,hys,e⟩:=h
  cases e
  have h2:=Cd vs ys hys
  have h3:x.cell=true:=by
   unfold Ei at hx
   split at hx<;>first|(cases hx;rfl)|cases hx
  simp[h2,h3]
theorem Te(hS:CU σ ρ B W){e:TypeId}{n:Nat}{cs:List AV}{us:Array Value}(hR:BO ρ cs us.toList)(hn:cs.length=n)(hc:cs.all AV.cell=true) :
  CU (σ.new { ty:=e,rw:=true,esz:=0,len:=n,cs:=Tm.ofList cs }) (upd ρ σ.next ⟨W.heap.size,0,some (us.size,0)⟩) B (W.alloc (.cells us e)) /\
   Cx σ ρ W (σ.new { ty:=e,rw:=true,esz:=0,len:=n,cs:=Tm.ofList cs }) (upd ρ σ.next ⟨W.heap.size,0,some (us.size,0)⟩) (W.alloc (.cells us e)):=by
 have hl:=hR.size
 refine Nj hS { ty:=e,rw:=true,esz:=0,len:=n,cs:=Tm.ofList cs } rfl us (by simp only;omega) (fun j v hj hv=>?_)
 simp only at hj hv
 rw[Tm.get_ofList]at hv
 obtain⟨u,h1,h2⟩:=hR.get j v hv
 grind[GF]
theorem A6b(hS:CU σ ρ B W)(hF:FR ρ F a.tmps){x:Operand}(hop:o.op=.move x\/o.op=.assign x){y:Ar}(hy:Au x=some y):Bz P o a σ ρ B W (Fr.ev F y) σ:=
 Bz.pure hS (u:=a.eval x) (by rcases hop with hop|hop<;>simp[execOp,hop]) (AR hF hy)
theorem AfP(hS:CU σ ρ B W)(hF:FR ρ F a.tmps){c x y:Operand}(hop:o.op=.pick c x y){c' x' y':Ar}(hc:Au c=some c')(hx:Au x=some x')(hy:Au y=some y')
  (h:Ap (.pick c' x' y') F σ=some (v,σ')):Bz P o a σ ρ B W v σ':=by
 simp only[Ap]at h
 split at h
 .rename_i t ht
  simp only[Option.some.injEq,Prod.mk.injEq]at h
  obtain⟨rfl,rfl⟩:=h
  have h1:=AR hF hc
  rw[ht]at h1
  have h2:=A8C h1
  refine Bz.pure hS (u:=if t then a.eval x else a.eval y) (by simp_all[execOp,asBool]) ?_
  grind[AR]
 .cases h
theorem A0t(hS:CU σ ρ B W){e:TypeId}(hop:o.op=.alloc e){z:List AV}(hz:EP P e=some z){y:Ar}(hy:(Fr.ev F y).cells=z)
  (h:Ap (.box e z.length y) F σ=some (v,σ')):Bz P o a σ ρ B W v σ':=by
 obtain⟨i,zv,hi,hzv,hR,hl,hm⟩:=Cq hz
 simp only[Ap,hy,beq_refl,Cd _ _ hm,Bool.and_self,cond_true,Option.some.injEq,Prod.mk.injEq]at h
 obtain⟨rfl,rfl⟩:=h
 have hb:=Te hS (e:=e) (hR ρ) rfl (Cd _ _ hm)
 refine Bz.val hb.1 hb.2 (u:=.pointer (some ⟨W.heap.size,0,none⟩)) ?_ ?_
 .simp_all[execOp,Instr.alloc,zeroValue,typeInfo,newVar,newRow]
 .have:=Cm.p (ρ:=upd ρ σ.next ⟨W.heap.size,0,some (zv.cells.size,0)⟩) σ.next 0 _ (Cl _ _ _)
  simpa using this
theorem AjY(hS:CU σ ρ B W)(hF:FR ρ F a.tmps){e:TypeId}{x:Operand}(hop:o.op=.box e x){n:Nat}{y:Ar}(hy:Au x=some y)
  (h:Ap (.box e n y) F σ=some (v,σ')):Bz P o a σ ρ B W v σ':=by
 simp only[Ap]at h
 cases hc:(Nat.beq (Fr.ev F y).cells.length n&&(Fr.ev F y).cells.all AV.cell)with
 |false=>rw[hc]at h;cases h
 |true=>
  rw[hc]at h
  simp only[cond_true,Option.some.injEq,Prod.mk.injEq]at h
  obtain⟨rfl,rfl⟩:=h
  simp only[and_eq_true]at hc
  have hR:=(AR hF hy).cells'
  have hb:=Te hS (e:=e) hR (eq_of_beq_eq_true hc.1) hc.2
  refine Bz.val hb.1 hb.2 (u:=.pointer (some ⟨W.heap.size,0,none⟩)) ?_ ?_
  .simp[execOp,hop,Instr.box,newVar,newRow]
  .have:=Cm.p (ρ:=upd ρ σ.next ⟨W.heap.size,0,some ((a.eval x).cells.size,0)⟩) σ.next 0 _ (Cl _ _ _)
   simpa using this
theorem V3(off:Nat):∀(vs:List Value) (k:Nat) (cells:Array Value),off+k+vs.length<=cells.size ->
  ((vs.zipIdx k).foldl (fun cs (x:Value×Nat)=>cs.setIfInBounds (off+x.2) x.1) cells).toList=cells.toList.take (off+k)++vs++cells.toList.drop (off+k+vs.length):=by
 intro vs
 induction vs with
 |nil=>intro k cells h;simp
 |cons v vs ih=>
  intro k cells h
  simp only[List.length_cons]at h
  simp only[List.zipIdx_cons,List.foldl_cons]
  rw[ih (k+1) _ (by simp;omega)]
  have hs:=list_seg_step cells.toList (off+k) v vs (by omega)
  grind
theorem Jm(hF:FR ρ F a.tmps)(place:Nat->Option (Nat×Nat)):∀(parts:List (Nat×Operand)) (ps:List (Nat×Nat×Ar)) (cells:List AV) (real:Array Value) (out:List AV),
  DK place parts=some ps->BO ρ cells real.toList->cells.all AV.cell=true->BN F cells ps=some out ->
  ∃r,Instr.fill place real (parts.map fun(i,x)=>(i,a.eval x))=some r/\BO ρ out r.toList/\out.all AV.cell=true:=by
 intro parts
 induction parts with
 |nil=>
  intro ps cells real out hg hR hc h
  simp only[DK,Option.some.injEq]at hg
  subst hg
  simp only[BN,Option.some.injEq]at h
  subst h
  exact⟨real,rfl,hR,hc⟩
 |cons p parts ih=>
  intro ps cells real out hg hR hc h
  obtain⟨i,x⟩:=p
  simp only[DK]at hg
  split at hg
  .rename_i off sz y ps' h1 h2 h3
   cases hg
   simp only[BN]at h
   cases hcond:(Nat.beq (Fr.ev F y).cells.length sz&&(Fr.ev F y).cells.all AV.cell&&Nat.ble (off+sz) cells.length)with
   |false=>rw[hcond]at h;cases h
   |true=>
    rw[hcond]at h
    simp only[cond_true]at h
    simp only[and_eq_true,ble_eq]at hcond
    obtain⟨⟨h4,h5⟩,h6⟩:=hcond
    have h4':=eq_of_beq_eq_true h4
    have hx:=(AR hF h2).cells'
    have hlx:=hx.size
    have hlr:=hR.size
    have hlx':(a.eval x).cells.toList.length=(a.eval x).cells.size:=Array.length_toList
    have hspl:=V3 off (a.eval x).cells.toList 0 real (by omega)
    simp only[Nat.add_zero,hlx']at hspl
    have hnew:BO ρ (Li cells off (Fr.ev F y).cells) (((a.eval x).cells.toList.zipIdx 0).foldl (fun cs (x:Value×Nat)=>cs.setIfInBounds (off+x.2) x.1) real).toList:=by
     rw[hspl]
     unfold Li
     refine BO.append (BO.append ?_ hx) ?_
     .refine BO.of_get _ _ (by simp;omega) (fun j z hz=>?_)
      rw[List.getElem?_take]at hz ⊢
      split at hz
      .rename_i hj
       rw[if_pos hj]
       exact hR.get j z hz
      .cases hz
     .refine BO.of_get _ _ (by simp;omega) (fun j z hz=>?_)
      rw[List.getElem?_drop]at hz ⊢
      rw[hlx]at hz
      exact hR.get _ z hz
    have hcell:(Li cells off (Fr.ev F y).cells).all AV.cell=true:=by
     unfold Li
     grind
    obtain⟨r,h7,h8,h9⟩:=ih ps' _ _ out h3 hnew hcell h
    refine⟨r,?_,h8,h9⟩
    simp only[List.map_cons,Instr.fill,h1]
    rw[if_neg (by grind)]
    grind[Array.toList_zipIdx]
  .cases hg
theorem A4o{t:TypeId}(h:NN P t=some none)(W:World):(isAgg t).run P W=.ok false W:=by
 unfold NN at h
 split at h
 .cases h
 .cases h
 .rename_i d n h1 h2 hd hs
  simp only[isAgg,Sem.run_bind,run_underlying hd,Result.andThen_ok]
  simp_all
 .cases h
theorem A4p{t:TypeId}{n:Nat}(h:NN P t=some (some n))(W:World):(isAgg t).run P W=.ok true W/\∃i,P.info? t=some i/\i.size=n:=by
 unfold NN at h
 split at h
 .simp_all[isAgg,run_underlying,sizeOf?_some]
 .simp_all[isAgg,run_underlying,sizeOf?_some]
 .cases h
 .cases h
theorem Ll(hS:CU σ ρ B W){t:TypeId}{n:Option Nat}(hn:NN P t=some n){id off:Nat}{rb:RB}(hr:ρ id=some rb)
  (h:σ.loadV n id off=some v) :
  ∃u,(loadVar t ⟨rb.blk,rb.base+off,none⟩).run P W=.ok u W/\Cm ρ v u:=by
 unfold St.loadV at h
 cases n with
 |none=>
  simp only at h
  obtain⟨u,h1,h2,h3⟩:=NX hS h hr
  simp_all[loadVar,A4o]
 |some n=>
  simp only at h
  split at h
  .rename_i vs hvs
   cases h
   obtain⟨us,h1,h2,h3,h4⟩:=NY hS hr n off vs hvs
   obtain⟨hA,i,hi,hsz⟩:=A4p hn W
   refine⟨.agg us.toArray,?_,.ag _ _ h1⟩
   have hl:=run_loadCells_list (P:=P) W ⟨rb.blk,rb.base+off,none⟩ us h3
   simp_all[loadVar,sizeOf,typeInfo]
  .cases h
theorem Aou(hS:CU σ ρ B W)(hF:FR ρ F a.tmps){t:TypeId}{x:Operand}(hop:o.op=.load t x){n:Option Nat}(hn:NN P t=some n){y:Ar}(hy:Au x=some y)
  (h:Ap (.ld n y) F σ=some (v,σ')):Bz P o a σ ρ B W v σ':=by
 simp only[Ap]at h
 split at h
 .rename_i id off hv
  have h1:=AR hF hy
  rw[hv]at h1
  obtain⟨rb,hr,hu⟩:=TL h1
  split at h
  .rename_i w hw
   cases h
   obtain⟨u,h2,h3⟩:=Ll hS hn hr hw
   simp_all[Bz.pure,execOp,Instr.loadAt,Instr.sureAddr]
  .cases h
 .cases h
theorem Aov(hS:CU σ ρ B W)(hF:FR ρ F a.tmps){t:TypeId}{x z:Operand}(hop:o.op=.store t x z){n:Nat}(hn:sizeOf? P t=some n){y w:Ar}(hy:Au x=some y)(hw:Au z=some w)
  (h:Ap (.st n y w) F σ=some (v,σ')):Bz P o a σ ρ B W v σ':=by
 simp only[Ap]at h
 split at h
 .rename_i id off hv
  have h1:=AR hF hy
  rw[hv]at h1
  obtain⟨rb,hr,hu⟩:=TL h1
  cases hc:Nat.beq (Fr.ev F w).cells.length n with
  |false=>rw[hc]at h;cases h
  |true=>
   rw[hc]at h
   simp only[cond_true]at h
   split at h
   .rename_i σ1 h2
    cases h
    have hR:=(AR hF hw).cells'
    obtain⟨W',h3,h4,h5⟩:=ML (P:=P) _ _ off 0 σ W σ' hS h2 hr hR
    obtain⟨i,hi,hsz⟩:=sizeOf?_some hn
    refine⟨ρ,W',h4,h5,.inr ⟨?_,rfl⟩⟩
    have hl:=hR.size
    simp_all[execOp,Instr.storeAt,Instr.sureAddr,storeVar,sizeOf,typeInfo]
   .cases h
 .cases h
theorem AfO(hS:CU σ ρ B W)(hF:FR ρ F a.tmps){x:Operand}(hop:o.op=.nilCheck x){y:Ar}(hy:Au x=some y)
  (h:Ap (.nilc y) F σ=some (v,σ')):Bz P o a σ ρ B W v σ':=by
 simp only[Ap]at h
 have h1:=AR hF hy
 split at h
 .rename_i ad hv
  cases h
  rw[hv]at h1
  refine Bz.pure hS (u:=a.eval x) ?_ h1
  obtain⟨id,off⟩:=ad
  obtain⟨rb,hr,hu⟩:=TL h1
  simp[execOp,hop,hu]
 .rename_i g c d hv
  cases h
  rw[hv]at h1
  refine Bz.pure hS (u:=a.eval x) ?_ h1
  generalize hu:a.eval x=u at *
  cases h1
  simp[execOp,hop,hu]
 .cases h
theorem Ak6(hS:CU σ ρ B W)(hF:FR ρ F a.tmps){t:TypeId}{x:Operand}(hop:o.op=.unOp .not t x){y:Ar}(hy:Au x=some y)
  (h:Ap (.not y) F σ=some (v,σ')):Bz P o a σ ρ B W v σ':=by
 simp only[Ap]at h
 have h1:=AR hF hy
 split at h
 .rename_i t hv
  cases h
  rw[hv]at h1
  have h2:=A8C h1
  exact Bz.pure hS (u:=.bool (!t)) (by simp[execOp,hop,h2,Op.unary]) (.b _)
 .cases h
theorem Ak5(hS:CU σ ρ B W)(hF:FR ρ F a.tmps){t:TypeId}{x:Operand}(hop:o.op=.unOp .neg t x){y:Ar}(hy:Au x=some y)
  (h:Ap (.neg y) F σ=some (v,σ')):Bz P o a σ ρ B W v σ':=by
 simp only[Ap]at h
 have h1:=AR hF hy
 split at h
 .rename_i k n hv
  cases h
  rw[hv]at h1
  have h2:=Gh h1
  exact Bz.pure hS (u:=.int k (k.wrap (0-n))) (by simp[execOp,hop,h2,Op.unary,Op.intArith]) (.i _ _)
 .cases h
theorem AfN(hS:CU σ ρ B W)(hF:FR ρ F a.tmps){s d:TypeId}{x:Operand}(hop:o.op=.convert s d x){k:IntKind}(hs:(P.underlying s).isNone=false)(hd:P.underlying d=some (.int k)){y:Ar}(hy:Au x=some y)
  (h:Ap (.conv k y) F σ=some (v,σ')):Bz P o a σ ρ B W v σ':=by
 simp only[Ap]at h
 have h1:=AR hF hy
 split at h
 .rename_i k' n hv
  cases h
  rw[hv]at h1
  have h2:=Gh h1
  obtain⟨ds,hds⟩:∃ds,P.underlying s=some ds:=by
   cases hh:P.underlying s with
   |none=>rw[hh]at hs;cases hs
   |some ds=>exact⟨ds,rfl⟩
  refine Bz.pure hS (u:=.int k (k.wrap n)) ?_ (.i _ _)
  simp_all[execOp,convert,run_underlying,Conv.intToInt]
 .cases h
theorem Ak3(hS:CU σ ρ B W)(hF:FR ρ F a.tmps){g:Nat}{x z:Array Operand}(hop:o.op=.makeFunc (.func g) x z){y w:List Ar}(hy:x.toList.mapM Au=some y)(hw:z.toList.mapM Au=some w)
  (h:Ap (.mkf g y w) F σ=some (v,σ')):Bz P o a σ ρ B W v σ':=by
 simp only[Ap,Option.some.injEq,Prod.mk.injEq]at h
 obtain⟨rfl,rfl⟩:=h
 have h1:=MB hF _ _ hy
 have h2:=MB hF _ _ hw
 refine Bz.pure hS (u:=.func (.func g) (x.toList.map a.eval).toArray (z.toList.map a.eval).toArray) ?_ (.f _ _ _ _ _ h1 h2)
 have e1:(x.toList.map a.eval).toArray=x.map a.eval:=by apply Array.ext';simp
 have e2:(z.toList.map a.eval).toArray=z.map a.eval:=by apply Array.ext';simp
 simp_all[execOp,Instr.makeFunc]
theorem Aor(hS:CU σ ρ B W)(hF:FR ρ F a.tmps){s:TypeId}{x:Operand}{f:Nat}(hop:o.op=.fieldAddr s x f){fields:Array Field}{fd:Field}{n:Nat}(hs:P.underlying s=some (.struct fields))(hf:fields[f]? = some fd)(hn:sizeOf? P fd.type=some n)(hn0:n≠0){y:Ar}(hy:Au x=some y)
  (h:Ap (.fa fd.offset y) F σ=some (v,σ')):Bz P o a σ ρ B W v σ':=by
 simp only[Ap]at h
 have h1:=AR hF hy
 split at h
 .rename_i id off hv
  cases h
  rw[hv]at h1
  obtain⟨rb,hr,hu⟩:=TL h1
  obtain⟨i,hi,hsz⟩:=sizeOf?_some hn
  refine Bz.pure hS (u:=.pointer (some ⟨rb.blk,rb.base+(off+fd.offset),none⟩)) ?_ (.p _ _ _ hr)
  simp_all[GL,execOp,Instr.fieldAt,run_underlying,Instr.sureAddr,fieldPlace,sizeOf,typeInfo]
 .cases h
theorem Aos(hS:CU σ ρ B W)(hF:FR ρ F a.tmps){t e:TypeId}{x ix:Operand}(hop:o.op=.indexAddr t x ix)(ht:P.underlying t=some (.slice e)){n:Nat}(hn:sizeOf? P e=some n){y w:Ar}(hy:Au x=some y)(hw:Au ix=some w)
  (h:Ap (.ia n y w) F σ=some (v,σ')):Bz P o a σ ρ B W v σ':=by
 simp only[Ap]at h
 have h1:=AR hF hy
 have h2:=AR hF hw
 split at h
 .rename_i id off len k j hv hj
  rw[hv]at h1
  rw[hj]at h2
  have h3:=Gh h2
  split at h
  .rename_i hlt
   cases h
   obtain⟨i,hi,hsz⟩:=sizeOf?_some hn
   generalize hu:a.eval x=u at *
   cases h1 with
   |sl _ _ _ c rb hr hc hm ho=>
    refine Bz.pure hS (u:=.pointer (some ⟨rb.blk,rb.base+(off+j.toNat * n),none⟩)) ?_ (.p _ _ _ hr)
    simp_all[GL,execOp,Instr.indexAt,asIntOf,run_underlying,sizeOf,typeInfo]
   |sle _ _ ad rb hr=>omega
  .cases h
 .cases h
theorem Ak2(hS:CU σ ρ B W)(hF:FR ρ F a.tmps){t e:TypeId}{len:Nat}{x ix:Operand}(hop:o.op=.indexAddr t x ix)(ht:P.underlying t=some (.array len e)){n:Nat}(hn:sizeOf? P e=some n){y w:Ar}(hy:Au x=some y)(hw:Au ix=some w)
  (h:Ap (.iaa len n y w) F σ=some (v,σ')):Bz P o a σ ρ B W v σ':=by
 simp only[Ap]at h
 have h1:=AR hF hy
 have h2:=AR hF hw
 split at h
 .rename_i id off k j hv hj
  rw[hv]at h1
  rw[hj]at h2
  have h3:=Gh h2
  split at h
  .rename_i hlt
   cases h
   obtain⟨i,hi,hsz⟩:=sizeOf?_some hn
   obtain⟨rb,hr,hu⟩:=TL h1
   refine Bz.pure hS (u:=.pointer (some ⟨rb.blk,rb.base+(off+j.toNat * n),none⟩)) ?_ (.p _ _ _ hr)
   simp_all[GL,execOp,Instr.indexAt,Instr.sureAddr,asIntOf,run_underlying,sizeOf,typeInfo]
  .cases h
 .cases h
theorem Aot(hS:CU σ ρ B W)(hF:FR ρ F a.tmps){t:TypeId}{x ix:Operand}(hop:o.op=.index t x ix)(ht:P.underlying t=some .string){y w:Ar}(hy:Au x=some y)(hw:Au ix=some w)
  (h:Ap (.ix y w) F σ=some (v,σ')):Bz P o a σ ρ B W v σ':=by
 simp only[Ap]at h
 have h1:=AR hF hy
 have h2:=AR hF hw
 split at h
 .rename_i s k j hv hj
  rw[hv]at h1
  rw[hj]at h2
  have h3:=Gh h2
  have h4:=A1M h1
  split at h
  .rename_i h0
   split at h
   .rename_i b hb
    cases h
    have hb':s[j.toNat]? = some b:=by
     rw[Array.getElem?_toList]at hb
     obtain⟨hl,he⟩:=Array.getElem?_eq_some_iff.1 hb
     have hl':j.toNat<s.size:=hl
     rw[getElem?_pos s j.toNat hl']
     rw[<- he]
     rfl
    refine Bz.pure hS (u:=.int .u8 b.toNat) ?_ (.i _ _)
    simp_all[execOp,Instr.index,asIntOf,run_underlying]
   .cases h
  .cases h
 .cases h
theorem Ak1(hS:CU σ ρ B W)(hF:FR ρ F a.tmps){x:Operand}{j:Nat}(hop:o.op=.extract x j){y:Ar}(hy:Au x=some y)
  (h:Ap (.ext y j) F σ=some (v,σ')):Bz P o a σ ρ B W v σ':=by
 simp only[Ap]at h
 have h1:=AR hF hy
 split at h
 .rename_i vs hv
  rw[hv]at h1
  split at h
  .rename_i w hw
   cases h
   generalize hu:a.eval x=u at *
   cases h1 with
   |tu _ us hus=>
    obtain⟨z,h2,h3⟩:=hus.get j v hw
    simp_all[Bz.pure,execOp,Instr.extract]
  .cases h
 .cases h
theorem A2p{op:BinOp}{k:IntKind}{x y:Int}(h:G6 op k x y=some v)(t:TypeId)(W:World):∃u,(binOp op t (.int k x) (.int k y)).run P W=.ok u W/\∀ρ,Cm ρ v u:=by
  cases op<;>simp only[G6]at h<;>first
    |(cases h;done)
    |(cases h;exact⟨_,by simp[binOp,Op.intArith,Op.intCmp];rfl,fun ρ=>by constructor⟩)
    |(cases h;exact⟨_,by unfold binOp;simp[Op.intBits];rfl,fun ρ=>by constructor⟩)
    |(cases h;exact⟨.int k (k.wrap ((BitVec.ofInt k.bits x&&&~~~BitVec.ofInt k.bits y).toNat:Int)),rfl,fun ρ=>by constructor⟩)
    | (split at h
       · cases h
       · cases h;rename_i h0;exact⟨_,by simp[binOp,Op.intDiv,h0];rfl,fun ρ=>by constructor⟩)
theorem K0{op:BinOp}{k k':IntKind}{x y:Int}(h:GO op k x y=some v)(t:TypeId)(W:World):∃u,(binOp op t (.int k x) (.int k' y)).run P W=.ok u W/\∀ρ,Cm ρ v u:=by
 unfold GO at h
 split at h
 .cases h
 .rename_i h0
  split at h
  .cases h;exact⟨_,by simp[binOp,Op.shift,h0];rfl,fun ρ=>by constructor⟩
  .cases h;exact⟨_,by simp[binOp,Op.shift,h0];rfl,fun ρ=>by constructor⟩
  .cases h
theorem A2q{op:BinOp}{x y:ByteArray}(h:Ab0 op x y=some v)(t:TypeId)(W:World):∃u,(binOp op t (.string x) (.string y)).run P W=.ok u W/\∀ρ,Cm ρ v u:=by
  cases op<;>simp only[Ab0]at h<;>first
    |(cases h;done)
    |(cases h;exact⟨_,by simp[binOp,Op.stringOp];rfl,fun ρ=>by constructor⟩)
    |(cases h;exact⟨_,rfl,fun ρ=>by constructor⟩)
    | (split at h
       · rename_i h0
         cases h
         refine⟨.string (x++y),?_,fun ρ=>by constructor⟩
         have:¬(((x.size+y.size:Nat):Int) > IntKind.i64.max):=by
           simp only[A6]at h0
           have:IntKind.i64.max=9223372036854775807:=rfl
           omega
         simp_all[binOp,Op.stringOp]
       · cases h)
theorem A6a{t:TypeId}(ht:P.underlying t=some .bool)(p q:Bool)(W:World):(Op.equal t (.bool p) (.bool q)).run P W=.ok (p==q) W:=by
 have:∀d,(Op.equalIn (d+1) t (.bool p) (.bool q)).run P W=.ok (p==q) W:=fun d=>by simp[Op.equalIn,run_underlying ht]
 exact this 9999
theorem Abs{t z:TypeId}(ht:P.underlying t=some (.pointer z))(p q:Option Addr)(h:p=none\/q=none)(W:World):(Op.equal t (.pointer p) (.pointer q)).run P W=.ok (p.isNone&&q.isNone) W:=by
 have:∀d,(Op.equalIn (d+1) t (.pointer p) (.pointer q)).run P W=.ok (p.isNone&&q.isNone) W:=fun d=>by
  rcases h with rfl|rfl
  .simp[Op.equalIn,run_underlying ht]
  .cases p<;>simp[Op.equalIn,run_underlying ht]
 exact this 9999
theorem A0r{t z:TypeId}(ht:P.underlying t=some (.slice z))(p q:Option Addr)(n m c d:Nat)(h:p=none\/q=none)(W:World):(Op.equal t (.slice p n c) (.slice q m d)).run P W=.ok (p.isNone&&q.isNone) W:=by
 have:∀f,(Op.equalIn (f+1) t (.slice p n c) (.slice q m d)).run P W=.ok (p.isNone&&q.isNone) W:=fun f=>by
  rcases h with rfl|rfl
  .simp[Op.equalIn,run_underlying ht]
  .cases p<;>simp[Op.equalIn,run_underlying ht]
 exact this 9999
theorem Aoq{t:TypeId}{a b:Array TypeId}{c:Bool}(ht:P.underlying t=some (.func a b c))(W:World):(Op.equal t .nilFunc .nilFunc).run P W=.ok true W/\(∀f x y,(Op.equal t (.func f x y) .nilFunc).run P W=.ok false W)/\(∀f x y,(Op.equal t .nilFunc (.func f x y)).run P W=.ok false W):=by
 refine⟨?_,fun f x y=>?_,fun f x y=>?_⟩
 .have:∀d,(Op.equalIn (d+1) t .nilFunc .nilFunc).run P W=.ok true W:=fun d=>by simp[Op.equalIn,run_underlying ht]
  exact this 9999
 .have:∀d,(Op.equalIn (d+1) t (.func f x y) .nilFunc).run P W=.ok false W:=fun d=>by simp[Op.equalIn,run_underlying ht]
  exact this 9999
 .have:∀d,(Op.equalIn (d+1) t .nilFunc (.func f x y)).run P W=.ok false W:=fun d=>by simp[Op.equalIn,run_underlying ht]
  exact this 9999
structure JB(P:Program)(t:TypeId)(u w:Value)(r:Bool)(W:World):Prop where
 guard:∀op X Y,(eqGuard op t X Y u w).run P W=.ok () W
 eql:(binOp .eql t u w).run P W=.ok (.bool r) W
 neq:(binOp .neq t u w).run P W=.ok (.bool !r) W
theorem JB.of_bool{t:TypeId}(ht:P.underlying t=some .bool)(p q:Bool)(W:World):JB P t (.bool p) (.bool q) (p==q) W:=
 ⟨fun op X Y=>by unfold eqGuard;split<;>rfl,by simp[binOp,A6a ht],by simp[binOp,A6a ht]⟩
theorem JB.of_ptr{t z:TypeId}(ht:P.underlying t=some (.pointer z))(p q:Option Addr)(h:p=none\/q=none)(W:World):JB P t (.pointer p) (.pointer q) (p.isNone&&q.isNone) W:=
 ⟨fun op X Y=>by unfold eqGuard;split<;>rfl,by simp[binOp,Abs ht _ _ h],by simp[binOp,Abs ht _ _ h]⟩
theorem JB.of_slice{t z:TypeId}(ht:P.underlying t=some (.slice z))(p q:Option Addr)(n m c d:Nat)(h:p=none\/q=none)(W:World):JB P t (.slice p n c) (.slice q m d) (p.isNone&&q.isNone) W:=
 ⟨fun op X Y=>by unfold eqGuard;split<;>rfl,by simp[binOp,A0r ht _ _ _ _ _ _ h],by simp[binOp,A0r ht _ _ _ _ _ _ h]⟩
theorem NS{t:TypeId}{x y:AV}{r:Bool}(h:A0q (Ji P t) x y=some r){u w:Value}(hx:Cm ρ x u)(hy:Cm ρ y w)(W:World):JB P t u w r W:=by
  unfold A0q at h
  split at h<;>rename_i he
  · -- bool
    cases h
    cases hx;cases hy
    grind[Ji,JB.of_bool]
  · cases h
    unfold Ji at he
    split at he<;>first|cases he|skip
    cases hx
    have hw:∀q,Cm ρ (.p q) w->∃q',w=.pointer q'/\q'.isNone=q.isNone:=by intro q hy;cases hy<;>exact⟨_,rfl,rfl⟩
    obtain⟨q',rfl,hq⟩:=hw _ hy
    rw[<- hq]
    have:=JB.of_ptr ‹_› none q' (.inl rfl) W
    simpa using this
  · cases h
    unfold Ji at he
    split at he<;>first|cases he|skip
    cases hx
    cases hy
    have:=fun ad=>JB.of_ptr ‹_› (some ad) none (.inr rfl) W
    simpa using this _
  · cases h
    unfold Ji at he
    split at he<;>first|cases he|skip
    cases hx
    have hw:∀q m,Cm ρ (.sl q m) w->∃q' a b,w=.slice q' a b/\q'.isNone=q.isNone:=by intro q m hy;cases hy<;>exact⟨_,_,_,rfl,rfl⟩
    obtain⟨q',b,c,rfl,hq⟩:=hw _ _ hy
    rw[<- hq]
    have:=JB.of_slice ‹_› none q' 0 b 0 c (.inl rfl) W
    simpa using this
  · cases h
    unfold Ji at he
    split at he<;>first|cases he|skip
    have hw:∀q m,Cm ρ (.sl (some q) m) u->∃ad a b,u=.slice (some ad) a b:=by intro q m hx;cases hx<;>exact⟨_,_,_,rfl⟩
    obtain⟨ad,b,c,rfl⟩:=hw _ _ hx
    cases hy
    have:=JB.of_slice ‹_› (some ad) none b 0 c 0 (.inr rfl) W
    simpa using this
  all_goals
    first
    |(cases h;done)
    | (cases h
       unfold Ji at he
       split at he<;>first|cases he|skip
       cases hx
       cases hy
       have hf:=Aoq ‹_› W
       exact⟨fun op X Y=>by unfold eqGuard;split<;>rfl,by simp[binOp,hf],by simp[binOp,hf]⟩)
theorem AjX(hS:CU σ ρ B W)(hF:FR ρ F a.tmps){op:BinOp}{t yt:TypeId}{x z:Operand}(hop:o.op=.binOp op t x z yt){y w:Ar}(hy:Au x=some y)(hw:Au z=some w)
  (h:Ap (.bin op (Ji P t) y w) F σ=some (v,σ')):Bz P o a σ ρ B W v σ':=by
 simp only[Ap]at h
 have h1:=AR hF hy
 have h2:=AR hF hw
 split at h
 .rename_i r hr
  cases h
  have fin:∀u,(∀ρ,Cm ρ v u)->(eqGuard op t x z (a.eval x) (a.eval z)).run P W=.ok () W->(binOp op t (a.eval x) (a.eval z)).run P W=.ok u W->Bz P o a σ ρ B W v σ:=by
   simp_all[Bz.pure,execOp]
  generalize Fr.ev F y=vy at *
  generalize Fr.ev F w=vw at *
  unfold Bg at hr
  split at hr
  ·-- two numbers
   rename_i k n k' m
   rw[Gh h1,Gh h2]at fin
   have hgu:(eqGuard op t x z (.int k n) (.int k' m)).run P W=.ok () W:=by unfold eqGuard;split<;>rfl
   split at hr
   .obtain⟨u,hb,hu⟩:=K0 (P:=P) (k':=k') hr t W
    exact fin u hu hgu hb
   .obtain⟨u,hb,hu⟩:=K0 (P:=P) (k':=k') hr t W
    exact fin u hu hgu hb
   .split at hr
    .rename_i hk
     subst hk
     obtain⟨u,hb,hu⟩:=A2p (P:=P) hr t W
     exact fin u hu hgu hb
    .cases hr
  ·-- two strings
   rename_i n m
   rw[A1M h1,A1M h2]at fin
   obtain⟨u,hb,hu⟩:=A2q (P:=P) hr t W
   exact fin u hu (by unfold eqGuard;split<;>rfl) hb
  .split at hr
   .obtain⟨r',h3,h4⟩:=Option.map_eq_some_iff.1 hr
    subst h4
    have:=NS h3 h1 h2 W
    exact fin (.bool r') (fun ρ=>.b _) (this.guard _ _ _) this.eql
   .obtain⟨r',h3,h4⟩:=Option.map_eq_some_iff.1 hr
    subst h4
    have:=NS h3 h1 h2 W
    exact fin (.bool !r') (fun ρ=>.b _) (this.guard _ _ _) this.neq
   .cases hr
 .cases h
theorem A5A{fields:List Field}(h:fields.any (fun f=>(sizeOf? P f.type).isNone)=false)(W:World) :
  ((fields.mapM fun f=>(do pure (f.offset,<- sizeOf f.type):Sem (Nat×Nat)))).run P W=.ok (fields.map fun f=>(f.offset,(sizeOf? P f.type).getD 0)) W:=by
 induction fields with
 |nil=>simp
 |cons f fields ih=>
  simp only[List.any_cons,Bool.or_eq_false_iff]at h
  obtain⟨h1,h2⟩:=h
  cases hs:sizeOf? P f.type with
  |none=>rw[hs]at h1;cases h1
  |some n=>
   obtain⟨i,hi,hsz⟩:=sizeOf?_some hs
   simp_all[sizeOf,typeInfo]
theorem Abt(hS:CU σ ρ B W)(hF:FR ρ F a.tmps){t:TypeId}{parts:Array (Nat×Operand)}(hop:o.op=.build t parts){z:List AV}(hz:EP P t=some z){fields:Array Field}(ht:P.underlying t=some (.struct fields))
  (hfs:fields.any (fun f=>(sizeOf? P f.type).isNone)=false) {ps:List (Nat×Nat×Ar)} (hps:DK (EW P fields) parts.toList=some ps)
  (h:Ap (.build z ps) F σ=some (v,σ')):Bz P o a σ ρ B W v σ':=by
 simp only[Ap]at h
 split at h
 .rename_i cs hcs
  cases h
  obtain⟨i,zv,hi,hzv,hR,hl,hm⟩:=Cq hz
  obtain⟨r,h1,h2,h3⟩:=Jm hF (EW P fields) _ _ _ zv.cells _ hps (hR ρ) (Cd _ _ hm) hcs
  refine Bz.pure hS (u:=.agg r) ?_ (by have:=Cm.ag _ _ h2;simpa using this)
  have hfs':fields.toList.any (fun f=>(sizeOf? P f.type).isNone)=false:=by rw[Array.any_toList];exact hfs
  have hpl:=A5A (P:=P) hfs' W
  have hplace:(fun i=>((fields.toList.map fun f=>(f.offset,(sizeOf? P f.type).getD 0)).toArray[i]? : Option (Nat×Nat)))=EW P fields:=by
   funext j
   unfold EW
   grind
  simp_all[Array.mapM_eq_mapM_toList,execOp,Instr.build,zeroValue,typeInfo,run_underlying]
 .cases h
theorem A9z(hS:CU σ ρ B W)(hF:FR ρ F a.tmps){t e:TypeId}{len:Nat}{parts:Array (Nat×Operand)}(hop:o.op=.build t parts){z:List AV}(hz:EP P t=some z)(ht:P.underlying t=some (.array len e))
  {s:Nat} (hs:sizeOf? P e=some s) {ps:List (Nat×Nat×Ar)} (hps:DK (fun i=>some (i * s,s)) parts.toList=some ps)
  (h:Ap (.build z ps) F σ=some (v,σ')):Bz P o a σ ρ B W v σ':=by
 simp only[Ap]at h
 split at h
 .rename_i cs hcs
  cases h
  obtain⟨i,zv,hi,hzv,hR,hl,hm⟩:=Cq hz
  obtain⟨ie,hie,hse⟩:=sizeOf?_some hs
  obtain⟨r,h1,h2,h3⟩:=Jm hF (fun i=>some (i * s,s)) _ _ _ zv.cells _ hps (hR ρ) (Cd _ _ hm) hcs
  refine Bz.pure hS (u:=.agg r) ?_ (by have:=Cm.ag _ _ h2;simpa using this)
  simp_all[execOp,Instr.build,zeroValue,typeInfo,run_underlying,sizeOf]
 .cases h
theorem A0I{z:List AV}{s:Nat}(hz:z.length=s):∀(len j:Nat),j<len * s->((List.replicate len z).flatten)[j]? = z[j % s]?:=by
 intro len
 induction len with
 |zero=>intro j h;omega
 |succ len ih=>
  grind[Nat.mod_eq_of_lt,List.getElem?_append_right,Nat.mod_eq_sub_mod]
theorem A19(zv:Array Value)(n j:Nat)(hj:j<n)(hz:0<zv.size):(madeCells zv n)[j]? = zv[j % zv.size]?:=by
 simp_all[mod_lt,madeCells]
theorem TM{z:List AV}{zv:Array Value}(hR:BO ρ z zv.toList)(s:Nat)(hs:zv.size=s)(hs0:0<s)(len:Nat):BO ρ ((List.replicate len z).flatten) (madeCells zv (len * s)).toList:=by
 have hl:=hR.size
 have hz:((List.replicate len z).flatten).length=len * s:=by rw[List.length_flatten];simp[hl,hs]
 refine BO.of_get _ _ (by rw[hz];simp[size_madeCells]) (fun j x hx=>?_)
 have hj:j<len * s:=by grind
 have key:∀(len j:Nat),j<len * s->((List.replicate len z).flatten)[j]? = z[j % s]?:=by
  intro len
  induction len with
  |zero=>intro j h;omega
  |succ len ih=>
   grind[Nat.mod_eq_of_lt,List.getElem?_append_right,Nat.mod_eq_sub_mod]
 rw[key len j hj]at hx
 obtain⟨u,h1,h2⟩:=hR.get _ x hx
 simp_all[mod_lt,madeCells]
theorem AjZ(hS:CU σ ρ B W)(hF:FR ρ F a.tmps){t e:TypeId}{len:Nat}{parts:Array (Nat×Operand)}(hop:o.op=.buildSlice t len parts){z:List AV}(hz:EP P e=some z)(ht:P.underlying t=some (.slice e))
    {s:Nat} (hs:sizeOf? P e=some s) (hs0:s≠0) (hsz:z.length=s) (hmax:len * s<=65536) {ps:List (Nat×Nat×Ar)} (hps:DK (fun i=>some (i * s,s)) parts.toList=some ps)
    (h:Ap (.bsl e s len ((List.replicate len z).flatten) ps) F σ=some (v,σ')):Bz P o a σ ρ B W v σ':=by
  simp only[Ap]at h
  split at h
  · rename_i cs hcs
    cases h
    obtain⟨i,zv,hi,hzv,hR,hl,hm⟩:=Cq hz
    obtain⟨ie,hie,hse⟩:=sizeOf?_some hs
    rw[hi]at hie
    cases hie
    have hzz:=TM (hR ρ) s (by omega) (by omega) len
    have hall:((List.replicate len z).flatten).all AV.cell=true:=by
      grind[Cd]
    obtain⟨r,h1,h2,h3⟩:=Jm hF (fun i=>some (i * s,s)) _ _ _ (madeCells zv.cells (len * s)) _ hps hzz hall hcs
    have hcl:cs.length=len * s:=by
      have:∀(ps:List (Nat×Nat×Ar)) (c c':List AV),BN F c ps=some c'->c'.length=c.length:=by
        intro ps
        induction ps with
        |nil=>grind[BN]
        |cons p ps ih=>
          intro c c' h
          obtain⟨off,sz,y⟩:=p
          simp only[BN]at h
          cases hc:(Nat.beq (Fr.ev F y).cells.length sz&&(Fr.ev F y).cells.all AV.cell&&Nat.ble (off+sz) c.length)with
          |false=>rw[hc]at h;cases h
          |true=>
            rw[hc]at h
            simp only[cond_true]at h
            rw[ih _ _ h]
            simp only[and_eq_true,ble_eq]at hc
            grind[eq_of_beq_eq_true,Li]
      rw[this _ _ _ hcs,List.length_flatten]
      simp[hsz]
    have hrs:r.size=len * s:=by rw[<- h2.size,hcl]
    have hn:=Nj hS { ty:=e,rw:=true,esz:=s,len:=len * s,cs:=Tm.ofList cs } rfl r (by simp only;omega) (fun j w hj hw=>by
      simp only at hj hw
      rw[Tm.get_ofList]at hw
      obtain⟨u,h4,h5⟩:=h2.get j w hw
      grind[GF])
    refine Bz.val hn.1 hn.2 (u:=.slice (some ⟨W.heap.size,0,none⟩) len len) ?_ ?_
    · have hparts : (parts.map fun (x : Nat × Operand) => (x.1, a.eval x.2)).toList = parts.toList.map fun (i, x) => (i, a.eval x) := by simp
      have h1':Instr.fill (fun i=>some (i * s,s)) (madeCells zv.cells (len * s)) (parts.map fun(x:Nat×Operand)=>(x.1,a.eval x.2)).toList=some r:=by rw[hparts];exact h1
      have h24:¬(len * s > 2 ^ 24):=by omega
      by_cases h0:len * s=0
      · have hmk : madeCells (#[] : Array Value) (len * s) = madeCells zv.cells (len * s) := by rw [h0]; simp [madeCells]
        simp only[execOp,hop,Sem.run_bind,Instr.buildSlice,run_underlying ht,sizeOf,typeInfo,run_program,hi,hse,Result.andThen_ok,Sem.run_pure,Sem.run_ite,if_neg h24,if_pos h0]
        have h1'':=h1'
        rw[<- hmk]at h1''
        simp_all[madeCells,newRow]
      · simp only [execOp, hop, Sem.run_bind, Instr.buildSlice, run_underlying ht, sizeOf, typeInfo, run_program, hi, hse, Result.andThen_ok, Sem.run_pure, Sem.run_ite, if_neg h24, if_neg h0, zeroValue, hzv]
        simp_all[madeCells,newRow]
    · have:=Cm.sl (ρ:=upd ρ σ.next ⟨W.heap.size,0,some (r.size,s)⟩) σ.next 0 len len ⟨W.heap.size,0,some (r.size,s)⟩ (Cl _ _ _) (Nat.le_refl _) (by
          have:len<=len * s:=Nat.le_mul_of_pos_right _ (by omega)
          simp only[maxLen];omega) (fun _ m' e' he=>by
        grind)
      simpa using this
  · cases h
theorem Ak4(hS:CU σ ρ B W)(hF:FR ρ F a.tmps){t e:TypeId}{l c:Operand}(hop:o.op=.makeSlice t l c){z:List AV}(hz:EP P e=some z)(ht:P.underlying t=some (.slice e))
  {s b:Nat} (hs:sizeOf? P e=some s) (hb:Bc? P e=some b) (hs0:s≠0) (hsz:z.length=s) (hb0:b≠0) {y w:Ar} (hy:Au l=some y) (hw:Au c=some w)
  (h:Ap (.mks e s b z y w) F σ=some (v,σ')):Bz P o a σ ρ B W v σ':=by
 simp only[Ap]at h
 have h1:=AR hF hy
 have h2:=AR hF hw
 split at h
 .rename_i n m hn hm
  rw[hn]at h1
  rw[hm]at h2
  split at h
  .rename_i hc
   obtain⟨h0,hnm,hby⟩:=hc
   cases h
   obtain⟨i,zv,hi,hzv,hR,hl,hmm⟩:=Cq hz
   obtain⟨ie,hie,hse⟩:=sizeOf?_some hs
   rw[hi]at hie
   cases hie
   obtain⟨ie,hie,hbe⟩:=Bc?_some hb
   rw[hi]at hie
   cases hie
   have hmm2:(m.toNat:Int)=m:=Int.toNat_of_nonneg (by omega)
   have hmle:m.toNat<=140737488355328:=le_trans (Nat.le_mul_of_pos_right m.toNat (Nat.pos_of_ne_zero hb0)) (by simpa[A6]using hby)
   have hby':(i.bytes:Int) * m<=281474976710656:=by
    grind[A6]
   have hrun:=run_make (P:=P) W t e i zv ht hi hzv .i64 .i64 n m h0 hnm hby' (by omega)
   have hzvs:zv.cells.size=s:=by omega
   have hle:n.toNat * s<=m.toNat * s:=Nat.mul_le_mul_right _ (by omega)
   have hnw:=Nj hS { ty:=e,rw:=true,esz:=s,len:=n.toNat * s,cs:=Tm.ofList ((List.replicate n.toNat z).flatten) } rfl (madeCells zv.cells (m.toNat * s)) (by grind[size_madeCells]) (fun j x hj hx=>by
    simp only at hj hx
    rw[Tm.get_ofList,A0I hsz _ _ hj]at hx
    rw[A19 _ _ _ (by omega) (by omega),hzvs]
    obtain⟨u,h4,h5⟩:=(hR ρ).get _ x hx
    refine⟨u,by grind,h5,GF (hR ρ) (Cd _ _ hmm) u (List.mem_of_getElem? h4)⟩)
   refine Bz.val hnw.1 hnw.2 (u:=.slice (some ⟨W.heap.size,0,none⟩) n.toNat m.toNat) ?_ ?_
   .rw[hse]at hrun
    simp[execOp,hop,Gh h1,Gh h2,hrun]
   .rw[size_madeCells]
    have:=Cm.sl (ρ:=upd ρ σ.next ⟨W.heap.size,0,some (m.toNat * s,s)⟩) σ.next 0 n.toNat m.toNat ⟨W.heap.size,0,some (m.toNat * s,s)⟩ (Cl _ _ _) (by omega) (by simp only[maxLen];omega) (fun _ m' e' he=>by
     grind)
    simpa using this
  .cases h
 .cases h
inductive A98 (ρ:Re):Option AV->Option Value->Prop where
 |none:A98 ρ none none
 |some (x:AV) (u:Value) (h:Cm ρ x u):A98 ρ (some x) (some u)
theorem Q5(hF:FR ρ F a.tmps){x:Option Operand}{y:Option Ar}(h:HA x=some y):A98 ρ (y.map (Fr.ev F)) (x.map a.eval):=by
 cases x with
 |none=>simp only[HA,Option.some.injEq]at h;subst h;exact .none
 |some x=>
  obtain⟨z,h1,h2⟩:=Option.map_eq_some_iff.1 h
  subst h2
  exact .some _ _ (AR hF h1)
theorem Mh{isS:Bool}{len cap l h:Nat}{lo hi:Option AV}{lo' hi':Option Value}(hlo:A98 ρ lo lo')(hhi:A98 ρ hi hi')(h1:bnd lo 0=some l)(h2:bnd hi len=some h)(h3:l<=h)(h4:h<=cap) :
  (Instr.sliceBounds isS len cap lo' hi' none).run P W=.ok (l,h,cap) W:=by
 have key:∀(y:Option AV) (y':Option Value) (d r:Nat),A98 ρ y y'->bnd y d=some r->(y'=none/\r=d)\/∃k n,y'=some (.int k n)/\0<=n/\n.toNat=r:=by
  intro y y' d r hr hb
  cases hr with
  |none=>simp only[bnd,Option.some.injEq]at hb;exact .inl ⟨rfl,hb.symm⟩
  |some x u hx=>
   unfold bnd at hb
   split at hb
   .rename_i heq;cases heq
   .rename_i k n heq
    cases heq
    split at hb
    .rename_i h0
     simp only[Option.some.injEq]at hb
     exact .inr ⟨k,n,by rw[Gh hx],h0,hb⟩
    .cases hb
   .cases hb
 rcases key _ _ _ _ hhi h2 with ⟨rfl,rfl⟩|⟨k,n,rfl,hn,rfl⟩<;>rcases key _ _ _ _ hlo h1 with ⟨rfl,rfl⟩|⟨k',n',rfl,hn',rfl⟩
 .simp[Instr.sliceBounds]
 .simp_all[Instr.sliceBounds,run_sliceBound]
 .simp_all[Instr.sliceBounds,run_sliceBound]
 .have h5:n<=(cap:Int):=by omega
  have h6:n'<=max n 0:=by omega
  simp_all[Instr.sliceBounds,run_sliceBound]
theorem AfR(hS:CU σ ρ B W)(hF:FR ρ F a.tmps){t:TypeId}{x:Operand}{lo hi:Option Operand}(hop:o.op=.slice t x lo hi none)(ht:P.underlying t=some .string){y:Ar}{lo' hi':Option Ar}(hy:Au x=some y)(hlo:HA lo=some lo')(hhi:HA hi=some hi')
  {s:ByteArray} (hv:Fr.ev F y=.s s) (h:En 0 (.s s) (lo'.map (Fr.ev F)) (hi'.map (Fr.ev F))=some v):Bz P o a σ ρ B W v σ:=by
 have h1:=AR hF hy
 rw[hv]at h1
 have h2:=A1M h1
 simp only[En,beq_refl,cond_true]at h
 split at h
 .rename_i l hh hl hh'
  split at h
  .rename_i hc
   cases h
   have hb:=Mh (P:=P) (W:=W) (isS:=false) (cap:=s.size) (Q5 hF hlo) (Q5 hF hhi) hl hh' hc.1 hc.2
   refine Bz.pure hS (u:=.string (s.extract l hh)) ?_ (.s _)
   simp_all[execOp,Instr.sliceAt,Instr.slice,run_underlying]
  .cases h
 .cases h
theorem AfQ(hS:CU σ ρ B W)(hF:FR ρ F a.tmps){t e:TypeId}{x:Operand}{lo hi:Option Operand}(hop:o.op=.slice t x lo hi none)(ht:P.underlying t=some (.slice e)){es:Nat}(hes:sizeOf? P e=some es)(hes0:es≠0){y:Ar}{lo' hi':Option Ar}(hy:Au x=some y)(hlo:HA lo=some lo')(hhi:HA hi=some hi')
  {ob:Option (Nat×Nat)} {len:Nat} (hv:Fr.ev F y=.sl ob len) (h:En es (.sl ob len) (lo'.map (Fr.ev F)) (hi'.map (Fr.ev F))=some v):Bz P o a σ ρ B W v σ:=by
 have h1:=AR hF hy
 rw[hv]at h1
 obtain⟨i,hi2,hsz⟩:=sizeOf?_some hes
 have hes1:Nat.beq es 0=false:=by
  grind[eq_of_beq_eq_true]
 simp only[En,hes1,cond_false]at h
 split at h
 .rename_i l hh hl hh'
  split at h
  .rename_i hc
   generalize hu:a.eval x=u at *
   have fin:∀A cap,u=.slice A len cap->len<=cap->Cm ρ v (.slice (if cap=l then A else A.map (·.add (l * es))) (hh-l) (cap-l))->Bz P o a σ ρ B W v σ:=by
    intro A cap he hlc hr
    subst he
    have hb:=Mh (P:=P) (W:=W) (isS:=true) (cap:=cap) (Q5 hF hlo) (Q5 hF hhi) hl hh' hc.1 (by omega)
    simp_all[Bz.pure,execOp,Instr.sliceAt,Instr.slice,run_underlying,sizeOf,typeInfo]
   cases h1 with
   |sl0=>
    have:hh=0:=by omega
    have hl0:l=0:=by omega
    subst this hl0
    cases h
    refine fin none 0 rfl (Nat.le_refl _) ?_
    simpa using Cm.sl0
   |sl id off _ c rb hr hcn hmx ho=>
    cases h
    refine fin _ c rfl hcn ?_
    by_cases e:c=l
    .subst e
     have:hh=c:=by omega
     subst this
     simp only[if_true,Nat.sub_self]
     exact Cm.sle _ _ _ rb hr
    .rw[if_neg e]
     simp only[Option.map_some,GL]
     rw[add_assoc]
     refine Cm.sl _ _ _ _ rb hr (by omega) (by omega) (fun h0 m e' he=>?_)
     have hl0:l=0:=by
      rcases Nat.eq_zero_or_pos l with h|h
      .exact h
      .have:=Nat.mul_pos h (Nat.pos_of_ne_zero hes0)
       omega
     grind
   |sle id off ad rb hr=>
    have:hh=0:=by omega
    have hl0:l=0:=by omega
    subst this hl0
    cases h
    refine fin (some ad) 0 rfl (Nat.le_refl _) ?_
    simpa using Cm.sle _ _ ad rb hr
  .cases h
 .cases h
theorem Abu(hS:CU σ ρ B W)(hF:FR ρ F a.tmps){t:TypeId}{x:Operand}{c:Call}(hop:o.op=.call c)(hc1:c.callee=.builtin .len)(hc2:c.args = #[x])(hc3:c.argTypes = #[t]){str:Bool}(ht:if str then P.underlying t=some .string else ∃e,P.underlying t=some (.slice e)){y:Ar}(hy:Au x=some y)
  (h:Ap (.len str y) F σ=some (v,σ')):Bz P o a σ ρ B W v σ':=by
 simp only[Ap]at h
 have h1:=AR hF hy
 obtain⟨callee,args,argTypes⟩:=c
 simp only at hc1 hc2 hc3
 subst hc1 hc2 hc3
 split at h
 .rename_i s hv
  cases h
  rw[hv]at h1
  have h2:=A1M h1
  have ht':P.underlying t=some .string:=by simpa using ht
  refine Bz.pure hS (u:=.int .i64 s.size) ?_ (.i _ _)
  simp[execOp,hop,resolve,invoke,builtin,Builtin.len_,h2,run_underlying ht',goInt]
 .rename_i ob n hv
  cases h
  rw[hv]at h1
  have ht':∃e,P.underlying t=some (.slice e):=by simpa using ht
  obtain⟨e,ht'⟩:=ht'
  have hu:∃A cc,a.eval x=.slice A n cc:=by
   generalize a.eval x=u at *
   cases h1<;>exact⟨_,_,rfl⟩
  obtain⟨A,cc,hu⟩:=hu
  refine Bz.pure hS (u:=.int .i64 n) ?_ (.i _ _)
  simp[execOp,hop,resolve,invoke,builtin,Builtin.len_,hu,run_underlying ht',goInt]
 .cases h
theorem AjW(hS:CU σ ρ B W)(hF:FR ρ F a.tmps){t e:TypeId}{x x2:Operand}{c:Call}(hop:o.op=.call c)(hc1:c.callee=.builtin .append)(hc2:c.args = #[x,x2])(hc3:c.argTypes = #[t,t])(ht:P.underlying t=some (.slice e))
  {z:List AV} (hz:EP P e=some z) {s b:Nat} (hs:sizeOf? P e=some s) (hb:Bc? P e=some b) (hs0:s≠0) (hsz:z.length=s) (hb0:b≠0) {y w:Ar} (hy:Au x=some y) (hw:Au x2=some w)
  (h:Ap (.app e s b y w) F σ=some (v,σ')):Bz P o a σ ρ B W v σ':=by
 simp only[Ap]at h
 have h1:=AR hF hy
 have h2:=AR hF hw
 obtain⟨callee,args,argTypes⟩:=c
 simp only at hc1 hc2 hc3
 subst hc1 hc2 hc3
 split at h
 .rename_i ob n ob' m hv hv'
  rw[hv]at h1
  rw[hv']at h2
  obtain⟨i,zv,hi,hzv,hR,hl,hmm⟩:=Cq hz
  obtain⟨ie,hie,hse⟩:=sizeOf?_some hs
  rw[hi]at hie
  cases hie
  obtain⟨ie,hie,hbe⟩:=Bc?_some hb
  rw[hi]at hie
  cases hie
  subst hse hbe
  obtain⟨ρ',W',u,h3,h4,h5,h6⟩:=A9i (P:=P) (t:=t) (ty:=o.type) ht hi hzv (by omega) (by omega) (by omega) hS h1 h2 h
  refine Bz.val h5 h6 (u:=u) ?_ h4
  simp[execOp,hop,resolve,invoke,builtin,h3]
 .cases h
theorem Ak0(hS:CU σ ρ B W)(hF:FR ρ F a.tmps){t e:TypeId}{x x2:Operand}{c:Call}(hop:o.op=.call c)(hc1:c.callee=.builtin .copy)(hc2:c.args = #[x,x2])(hc3:c.argTypes = #[t,t])(ht:P.underlying t=some (.slice e))
  {s:Nat} (hs:sizeOf? P e=some s) {y w:Ar} (hy:Au x=some y) (hw:Au x2=some w)
  (h:Ap (.cpy s y w) F σ=some (v,σ')):Bz P o a σ ρ B W v σ':=by
 simp only[Ap]at h
 have h1:=AR hF hy
 have h2:=AR hF hw
 obtain⟨callee,args,argTypes⟩:=c
 simp only at hc1 hc2 hc3
 subst hc1 hc2 hc3
 split at h
 .rename_i ob n ob' m hv hv'
  rw[hv]at h1
  rw[hv']at h2
  obtain⟨i,hi,hsz⟩:=sizeOf?_some hs
  unfold A9r at h
  split at h
  .cases h
  .rename_i ys hys
   obtain⟨A,cc,us,hx2,hR,hul,hone,hcells⟩:=TU hS hys (Nat.min_le_left m n) h2
   have hfirst':(Builtin.firstCells i.size (Nat.min m n) (a.eval x2)).run P W=.ok us.toArray W:=by
    rw[hx2]
    by_cases hk:min m n=0
    .have:us=[]:=List.eq_nil_of_length_eq_zero (by rw[hul,hk,Nat.zero_mul])
     subst this
     have hk':Nat.min m n=0:=hk
     cases A<;>simp[Builtin.firstCells,hk',loadCells,loadCellsFrom]
    .obtain⟨ad,rfl,hc⟩:=hcells hk
     have:=run_loadCells_list (P:=P) W ad us hc
     rw[hul,<- hsz]at this
     exact this
   split at h
   .cases h
    have hu:a.eval x=.slice none 0 0:=by
     generalize a.eval x=u at *
     cases h1
     rfl
    have hn0:n=0:=by
     generalize a.eval x=u at *
     cases h1
     rfl
    subst hn0
    refine Bz.pure hS (u:=.int .i64 (min m 0:Nat)) ?_ (.i _ _)
    simp_all[execOp,resolve,invoke,builtin,Builtin.copy_,run_underlying,Builtin.lenOf,sizeOf,typeInfo,goInt]
   .rename_i id off
    split at h
    .rename_i σ1 hst
     cases h
     have hdst:∃dp dc W',a.eval x=.slice (some dp) n dc/\(storeCells dp us).run P W=.ok () W'/\CU σ' ρ B W'/\Cx σ ρ W σ' ρ W':=by
      generalize a.eval x=u at *
      cases h1 with
      |sl _ _ _ c rb hr hc hm ho=>
       obtain⟨W',h3,h4,h5⟩:=ML (P:=P) _ _ off 0 σ W σ' hS hst hr hR
       exact⟨_,c,W',rfl,h3,h4,h5⟩
      |sle _ _ ad rb hr=>
       have:ys=[]:=by
        have:=hR.length
        simp_all
       subst this
       simp only[St.storeN,Option.some.injEq]at hst
       subst hst
       cases hR
       exact⟨ad,0,W,rfl,rfl,hS,Cx.refl _ _ _ hS⟩
     obtain⟨dp,dc,W',hu,h3,h4,h5⟩:=hdst
     refine Bz.val h4 h5 (u:=.int .i64 (min m n:Nat)) ?_ (.i _ _)
     rw[hx2]at hfirst'
     have e1:Nat.min m n=min m n:=rfl
     simp_all[execOp,resolve,invoke,builtin,Builtin.copy_,run_underlying,Builtin.lenOf,sizeOf,typeInfo,goInt]
    .cases h
 .cases h
theorem Abv(hS:CU σ ρ B W)(hF:FR ρ F a.tmps){x x2:Operand}{c:Call}{mx:Bool}(hop:o.op=.call c)(hc1:c.callee=.builtin (if mx then .max else .min))(hc2:c.args = #[x,x2]){y w:Ar}(hy:Au x=some y)(hw:Au x2=some w)
  (h:Ap (.mnx mx y w) F σ=some (v,σ')):Bz P o a σ ρ B W v σ':=by
 simp only[Ap]at h
 have h1:=AR hF hy
 have h2:=AR hF hw
 obtain⟨callee,args,argTypes⟩:=c
 simp only at hc1 hc2
 subst hc1 hc2
 split at h
 .rename_i k n k' m hv hv'
  rw[hv]at h1
  rw[hv']at h2
  split at h
  .cases h
   cases mx
   .refine Bz.pure hS (u:=.int k (if m<n then m else n)) ?_ (.i _ _)
    simp[execOp,hop,resolve,invoke,builtin,Builtin.min_,Builtin.min2,Gh h1,Gh h2]
   .refine Bz.pure hS (u:=.int k (if m > n then m else n)) ?_ (.i _ _)
    simp[execOp,hop,resolve,invoke,builtin,Builtin.max_,Builtin.max2,Gh h1,Gh h2]
  .cases h
 .cases h
end
end Go.AM
