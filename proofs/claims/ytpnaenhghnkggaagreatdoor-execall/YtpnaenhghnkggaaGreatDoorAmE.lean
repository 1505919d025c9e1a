/-
  Own work, part of the proof of these laws: rules by which code is run over the machine of values.
-/
import Derived.Test.YtpnaenhghnkggaaGreatDoorAmD
import Derived.Attr
set_option maxRecDepth 10000
set_option maxHeartbeats 64000000
set_option linter.unusedVariables false
set_option linter.unusedSimpArgs false
set_option linter.unusedSectionVars false
set_option linter.unnecessarySimpa false
open List (length_cons nil_append cons_append append_nil map_cons mem_cons length_nil not_mem_nil drop_zero map_nil all_cons)
open Option (bind_some)
namespace Go.AM
open Go
section
variable {A:Dz}{F:Fr}{σ:St}
@[go_sem] theorem Aro (F:Fr) (k:Nat) (v:AV) (j:Nat):Fr.tmp (Tm.set F k v) j=if j=k then v else Fr.tmp F j:=by
 grind[Fr.tmp,Tm.get_set]
def nth(l:List AV)(j:Nat):AV:=match l[j]? with|some v=>v|none=>AV.un
@[go_sem] theorem Amg (l:List AV) (j:Nat):Fr.tmp (Tm.ofList l) j=nth l j:=by
 grind[Fr.tmp,nth,Tm.get_ofList]
@[go_sem] theorem Ar5 (j:Nat):nth [] j=AV.un:=by simp[nth]
@[go_sem] theorem Aph (a:AV) (l:List AV):nth (a::l) 0=a:=by simp[nth]
@[go_sem] theorem Apg (a:AV) (l:List AV) (j:Nat):nth (a::l) (j+1)=nth l j:=by simp[nth]
@[go_sem] theorem Ana (F:Fr) (d:Nat) (v:AV):BD F (some d) v=Tm.set F d v:=rfl
@[go_sem] theorem An9 (F:Fr) (v:AV):BD F none v=F:=rfl
@[go_sem] theorem Awb (F:Fr) (n:Nat):Fr.ev F (.t n)=Fr.tmp F n:=rfl
@[go_sem] theorem Awa (F:Fr) (v:AV):Fr.ev F (.c v)=v:=rfl
variable {Q:AV->St->Prop}{R:Fr->St->Prop}
@[go_sem] theorem Afm {d:Option Nat} {op:Bl} {r:List Ay}:Wr A (⟨d,none,op⟩::r) F σ R↔Wo A op F σ (fun v σ'=>Wr A r (BD F d v) σ' R):=A5U
def WG(A:Dz)(v:AV)(w:Bool)(d:Option Nat)(op:Bl)(r:List Ay)(F:Fr)(σ:St)(R:Fr->St->Prop):Prop:=match v with
 |.b x=>(bif x==w then Wo A op F σ (fun v σ'=>Wr A r (BD F d v) σ' R)else Wr A r (BD F d AV.un) σ R)
 |_=>Wr A r (BD F d AV.un) σ R
@[go_sem] theorem AnY {d:Option Nat} {t:Nat} {w:Bool} {op:Bl} {r:List Ay}:Wr A (⟨d,some (t,w),op⟩::r) F σ R↔WG A (Fr.tmp F t) w d op r F σ R:=by
 rw[A5U]
 simp only[wanted,WG]
 cases Fr.tmp F t<;>rfl
@[go_sem] theorem Av2 {d:Option Nat} {op:Bl} {r:List Ay}:WG A (.b true) true d op r F σ R↔Wo A op F σ (fun v σ'=>Wr A r (BD F d v) σ' R):=Iff.rfl
@[go_sem] theorem AuZ {d:Option Nat} {op:Bl} {r:List Ay}:WG A (.b false) false d op r F σ R↔Wo A op F σ (fun v σ'=>Wr A r (BD F d v) σ' R):=Iff.rfl
@[go_sem] theorem Av1 {d:Option Nat} {op:Bl} {r:List Ay}:WG A (.b true) false d op r F σ R↔Wr A r (BD F d AV.un) σ R:=Iff.rfl
@[go_sem] theorem Av0 {d:Option Nat} {op:Bl} {r:List Ay}:WG A (.b false) true d op r F σ R↔Wr A r (BD F d AV.un) σ R:=Iff.rfl
attribute [go_sem] Ajm Ajn Afj Afi Ajk Ajj Afh Ajl
@[go_sem] theorem Afn {i:Nat} {d:Option Nat} {op:Bl} {c:List Ay} {r:List AE}:Ws A (⟨i,⟨d,none,op⟩,c⟩::r) F σ R↔Wo A op F σ (fun v σ'=>Cu (BD F d v) σ' c=true/\Ws A r (BD F d v) σ' R):=A5V
def WGs(A:Dz)(v:AV)(w:Bool)(d:Option Nat)(op:Bl)(c:List Ay)(r:List AE)(F:Fr)(σ:St)(R:Fr->St->Prop):Prop:=match v with
 |.b x=>(bif x==w then Wo A op F σ (fun v σ'=>Cu (BD F d v) σ' c=true/\Ws A r (BD F d v) σ' R)else Ws A r (BD F d AV.un) σ R)
 |_=>Ws A r (BD F d AV.un) σ R
@[go_sem] theorem AnZ {i:Nat} {d:Option Nat} {t:Nat} {w:Bool} {op:Bl} {c:List Ay} {r:List AE}:Ws A (⟨i,⟨d,some (t,w),op⟩,c⟩::r) F σ R↔WGs A (Fr.tmp F t) w d op c r F σ R:=by
 grind[A5V,wanted,WGs]
@[go_sem] theorem Asi {d:Option Nat} {op:Bl} {c:List Ay} {r:List AE}:WGs A (.b true) true d op c r F σ R↔Wo A op F σ (fun v σ'=>Cu (BD F d v) σ' c=true/\Ws A r (BD F d v) σ' R):=Iff.rfl
@[go_sem] theorem Asf {d:Option Nat} {op:Bl} {c:List Ay} {r:List AE}:WGs A (.b false) false d op c r F σ R↔Wo A op F σ (fun v σ'=>Cu (BD F d v) σ' c=true/\Ws A r (BD F d v) σ' R):=Iff.rfl
@[go_sem] theorem Ash {d:Option Nat} {op:Bl} {c:List Ay} {r:List AE}:WGs A (.b true) false d op c r F σ R↔Ws A r (BD F d AV.un) σ R:=Iff.rfl
@[go_sem] theorem Asg {d:Option Nat} {op:Bl} {c:List Ay} {r:List AE}:WGs A (.b false) true d op c r F σ R↔Ws A r (BD F d AV.un) σ R:=Iff.rfl
@[go_sem] theorem Av3 {w:Bool} {d:Option Nat} {op:Bl} {r:List Ay}:WG A AV.un w d op r F σ R↔Wr A r (BD F d AV.un) σ R:=Iff.rfl
@[go_sem] theorem Asj {w:Bool} {d:Option Nat} {op:Bl} {c:List Ay} {r:List AE}:WGs A AV.un w d op c r F σ R↔Ws A r (BD F d AV.un) σ R:=Iff.rfl
def WC(A:Dz)(v:AV)(a b:A1)(F:Fr)(σ:St)(Q:Ex->Fr->St->Prop):Prop:=match v with
 |.b true=>Wc A a F σ Q
 |.b false=>Wc A b F σ Q
 |_=>False
@[go_sem] theorem AmJ {x:Ar} {a b:A1} {Q:Ex->Fr->St->Prop}:Wc A (.cond x a b) F σ Q↔WC A (Fr.ev F x) a b F σ Q:=by
 cases h:Fr.ev F x with
 |b t=>rw[Afg h];cases t<;>rfl
 |_=>
  constructor
  .rintro⟨n,e,F',σ',h2,_⟩
   cases n with
   |zero=>simp[B3]at h2
   |succ n=>simp[B3,h]at h2
  .intro h2;exact h2.elim
@[go_sem] theorem AvS {a b:A1} {Q:Ex->Fr->St->Prop}:WC A (.b true) a b F σ Q↔Wc A a F σ Q:=Iff.rfl
@[go_sem] theorem AvR {a b:A1} {Q:Ex->Fr->St->Prop}:WC A (.b false) a b F σ Q↔Wc A b F σ Q:=Iff.rfl
def WP(v x y:AV)(σ:St)(Q:AV->St->Prop):Prop:=match v with
 |.b t=>Q (bif t then x else y) σ
 |_=>False
@[go_sem] theorem AvU {x y:AV}:WP (.b true) x y σ Q↔Q x σ:=Iff.rfl
@[go_sem] theorem AvT {x y:AV}:WP (.b false) x y σ Q↔Q y σ:=Iff.rfl
@[go_sem] theorem Asw {x:Ar}:Wo A (.mov x) F σ Q↔Q (Fr.ev F x) σ:=by
 simp_all[D0,Ap,and_assoc]
@[go_sem] theorem Aqt {c x y:Ar}:Wo A (.pick c x y) F σ Q↔WP (Fr.ev F c) (Fr.ev F x) (Fr.ev F y) σ Q:=by
 rw[D0 (by intros;simp)]
 simp only[Ap]
 cases Fr.ev F c with
 |b t=>simp only[Option.some.injEq,Prod.mk.injEq,exists_and_left,exists_eq_left',and_assoc,WP]
 |_=>simp[WP]
@[go_sem] theorem Asn {ty n:Nat} {x:Ar}:Wo A (.box ty n x) F σ Q↔((Fr.ev F x).cells.length=n/\(Fr.ev F x).cells.all AV.cell=true)/\Q (.p (some (σ.next,0))) (σ.new { ty:=ty,rw:=true,esz:=0,len:=n,cs:=Tm.ofList (Fr.ev F x).cells }):=by
 rw[D0 (by intros;simp)]
 simp only[Ap]
 cases hc:(Nat.beq (Fr.ev F x).cells.length n&&(Fr.ev F x).cells.all AV.cell)with
 |false=>
  simp only[cond_false,reduceCtorEq,false_and,exists_false,false_iff]
  rintro⟨⟨h1,h2⟩,_⟩
  rw[h1,h2]at hc
  simp at hc
 |true=>
  simp_all[and_assoc]
@[go_sem] theorem AnV {z:List AV} {ps:List (Nat×Nat×Ar)}:Wo A (.build z ps) F σ Q↔∃cs,BN F z ps=some cs/\Q (.ag cs) σ:=by
 rw[D0 (by intros;simp)]
 simp only[Ap]
 grind
@[go_sem] theorem Aso {ty esz len:Nat} {z:List AV} {ps:List (Nat×Nat×Ar)}:Wo A (.bsl ty esz len z ps) F σ Q↔∃cs,BN F z ps=some cs/\Q (.sl (some (σ.next,0)) len) (σ.new { ty:=ty,rw:=true,esz:=esz,len:=len * esz,cs:=Tm.ofList cs }):=by
 rw[D0 (by intros;simp)]
 simp only[Ap]
 grind
theorem Uz{n:Option Nat}{a:Ar}{r:AV×St}:Ap (.ld n a) F σ=some r↔∃id off,Fr.ev F a=.p (some (id,off))/\σ.loadV n id off=some r.1/\σ=r.2:=by
 simp only[Ap]
 grind
@[go_sem] theorem Av7 {n:Option Nat} {a:Ar}:Wo A (.ld n a) F σ Q↔∃id off,Fr.ev F a=.p (some (id,off))/\∃v,σ.loadV n id off=some v/\Q v σ:=by
 rw[D0 (by intros;simp)]
 simp only[Uz]
 grind
@[go_sem] theorem Av8 {n:Nat} {a x:Ar}:Wo A (.st n a x) F σ Q↔∃id off,Fr.ev F a=.p (some (id,off))/\(Fr.ev F x).cells.length=n/\∃σ',σ.storeN id off (Fr.ev F x).cells=some σ'/\Q AV.un σ':=by
 rw[D0 (by intros;simp)]
 simp only[Ap]
 constructor
 .rintro⟨v,σ',h,hq⟩
  split at h
  .rename_i id off ha
   cases hc:Nat.beq (Fr.ev F x).cells.length n with
   |false=>rw[hc]at h;cases h
   |true=>
    rw[hc]at h
    simp only[cond_true]at h
    grind[Nat.eq_of_beq_eq_true]
  .cases h
 .rintro⟨id,off,ha,hc,σ',hs,hq⟩
  refine⟨AV.un,σ',?_,hq⟩
  simp_all
def A8m:AV->Option AV
 |.p (some a)=>some (.p (some a))
 |.f g a c=>some (.f g a c)
 |_=>none
@[go_sem] theorem Ar2 (a:Nat×Nat):A8m (.p (some a))=some (.p (some a)):=rfl
@[go_sem] theorem Ar1 (g:Nat) (a c:List AV):A8m (.f g a c)=some (.f g a c):=rfl
@[go_sem] theorem Aqs {x:Ar}:Wo A (.nilc x) F σ Q↔∃v,A8m (Fr.ev F x)=some v/\Q v σ:=by
 rw[D0 (by intros;simp)]
 simp only[Ap]
 constructor
 .rintro⟨v,σ',h,hq⟩
  split at h<;>cases h<;>(rename_i e;rw[e];exact⟨_,rfl,hq⟩)
 .rintro⟨v,h,hq⟩
  unfold A8m at h
  grind
@[go_sem] theorem Asm {op:BinOp} {e:Option Pk} {x y:Ar}:Wo A (.bin op e x y) F σ Q↔∃v,Bg op e (Fr.ev F x) (Fr.ev F y)=some v/\Q v σ:=by
 rw[D0 (by intros;simp)]
 simp only[Ap]
 grind
@[go_sem] theorem Asy {x:Ar}:Wo A (.not x) F σ Q↔∃t,Fr.ev F x=.b t/\Q (.b (!t)) σ:=by
 rw[D0 (by intros;simp)]
 simp only[Ap]
 grind
@[go_sem] theorem Asx {x:Ar}:Wo A (.neg x) F σ Q↔∃k n,Fr.ev F x=.i k n/\Q (.i k (k.wrap (0-n))) σ:=by
 rw[D0 (by intros;simp)]
 simp only[Ap]
 grind
@[go_sem] theorem Aqq {k:IntKind} {x:Ar}:Wo A (.conv k x) F σ Q↔∃k' n,Fr.ev F x=.i k' n/\Q (.i k (k.wrap n)) σ:=by
 rw[D0 (by intros;simp)]
 simp only[Ap]
 grind
@[go_sem] theorem Ast {g:Nat} {a c:List Ar}:Wo A (.mkf g a c) F σ Q↔Q (.f g (a.map (Fr.ev F)) (c.map (Fr.ev F))) σ:=by
 simp_all[D0,Ap,and_assoc]
@[go_sem] theorem Asu {ty esz bytes:Nat} {z:List AV} {l c:Ar}:Wo A (.mks ty esz bytes z l c) F σ Q↔∃n,Fr.ev F l=.i .i64 n/\∃m,Fr.ev F c=.i .i64 m/\(0<=n/\n<=m/\m.toNat * bytes<=A6)/\Q (.sl (some (σ.next,0)) n.toNat) (σ.new { ty:=ty,rw:=true,esz:=esz,len:=n.toNat * esz,cs:=Tm.ofList ((List.replicate n.toNat z).flatten) }):=by
 rw[D0 (by intros;simp)]
 simp only[Ap]
 grind
@[go_sem] theorem Asz {esz:Nat} {x:Ar} {lo hi:Option Ar}:Wo A (.slc esz x lo hi) F σ Q↔∃v,En esz (Fr.ev F x) (lo.map (Fr.ev F)) (hi.map (Fr.ev F))=some v/\Q v σ:=by
 rw[D0 (by intros;simp)]
 simp only[Ap]
 grind
@[go_sem] theorem Av4 {off:Nat} {x:Ar}:Wo A (.fa off x) F σ Q↔∃id o,Fr.ev F x=.p (some (id,o))/\Q (.p (some (id,o+off))) σ:=by
 rw[D0 (by intros;simp)]
 simp only[Ap]
 grind
def Acx(esz:Nat)(x i:AV):Option AV:=match x,i with
  |.sl (some (id,o)) len,.i _ n=>if 0<=n/\n<len then some (.p (some (id,o+n.toNat * esz)))else none
  |_,_=>none
@[go_sem] theorem Av5 {esz:Nat} {x i:Ar}:Wo A (.ia esz x i) F σ Q↔∃v,Acx esz (Fr.ev F x) (Fr.ev F i)=some v/\Q v σ:=by
 rw[D0 (by intros;simp)]
 have e:Ap (.ia esz x i) F σ=(match Acx esz (Fr.ev F x) (Fr.ev F i)with|some v=>some (v,σ)|none=>none):=by
  simp only[Ap,Acx]
  grind
 grind
@[go_sem] theorem Asr {len esz:Nat} {x i:Ar}:Wo A (.iaa len esz x i) F σ Q↔∃id o,Fr.ev F x=.p (some (id,o))/\∃k n,Fr.ev F i=.i k n/\(0<=n/\n<len)/\Q (.p (some (id,o+n.toNat * esz))) σ:=by
 rw[D0 (by intros;simp)]
 simp only[Ap]
 grind
@[go_sem] theorem Av6 {x i:Ar}:Wo A (.ix x i) F σ Q↔∃s,Fr.ev F x=.s s/\∃k n,Fr.ev F i=.i k n/\0<=n/\∃b,s.data.toList[n.toNat]? = some b/\Q (.i .u8 b.toNat) σ:=by
 rw[D0 (by intros;simp)]
 simp only[Ap]
 grind
@[go_sem] theorem Asq {x:Ar} {i:Nat}:Wo A (.ext x i) F σ Q↔∃vs,Fr.ev F x=.tu vs/\∃v,vs[i]? = some v/\Q v σ:=by
 rw[D0 (by intros;simp)]
 simp only[Ap]
 grind
@[go_sem] theorem Ass {x:Ar}:Wo A (.len false x) F σ Q↔∃o n,Fr.ev F x=.sl o n/\Q (.i .i64 n) σ:=by
 rw[D0 (by intros;simp)]
 simp only[Ap]
 grind
@[go_sem] theorem Aqr {x:Ar}:Wo A (.len true x) F σ Q↔∃s,Fr.ev F x=.s s/\Q (.i .i64 s.size) σ:=by
 rw[D0 (by intros;simp)]
 simp only[Ap]
 grind
@[go_sem] theorem Asl {ty esz bytes:Nat} {x y:Ar}:Wo A (.app ty esz bytes x y) F σ Q↔∃o n,Fr.ev F x=.sl o n/\∃o' m,Fr.ev F y=.sl o' m/\∃v σ',Pm ty esz bytes o n o' m σ=some (v,σ')/\Q v σ':=by
 rw[D0 (by intros;simp)]
 simp only[Ap]
 grind
@[go_sem] theorem Asp {esz:Nat} {x y:Ar}:Wo A (.cpy esz x y) F σ Q↔∃o n,Fr.ev F x=.sl o n/\∃o' m,Fr.ev F y=.sl o' m/\∃v σ',A9r esz o n o' m σ=some (v,σ')/\Q v σ':=by
 rw[D0 (by intros;simp)]
 simp only[Ap]
 grind
@[go_sem] theorem Asv {mx:Bool} {x y:Ar}:Wo A (.mnx mx x y) F σ Q↔∃k a,Fr.ev F x=.i k a/\∃c,Fr.ev F y=.i k c/\Q (.i k (XF mx a c)) σ:=by
 rw[D0 (by intros;simp)]
 simp only[Ap]
 constructor
 .rintro⟨v,σ',h,hq⟩
  split at h
  .rename_i k a k' c h1 h2
   split at h
   .grind
   .cases h
  .cases h
 grind
@[go_sem] theorem AnW {g:Nat} {a c:List AV} {args:List Ar}:Wo A (.call (.c (.f g a c)) args) F σ Q↔Wk A g (a++args.map (Fr.ev F)++c) σ Q:=A5T rfl
@[go_sem] theorem AnX {t:Nat} {args:List Ar}:Wo A (.call (.t t) args) F σ Q↔∃g a c,Fr.tmp F t=.f g a c/\Wk A g (a++args.map (Fr.ev F)++c) σ Q:=by
 constructor
 .rintro⟨n,v,σ',h,hq⟩
  simp only[AX]at h
  split at h
  .rename_i g a c h1;exact⟨g,a,c,h1,n,v,σ',h,hq⟩
  .cases h
 .rintro⟨g,a,c,h1,h2⟩
  exact(A5T (f:=.t t) h1).2 h2
@[go_sem] theorem AiZ:Cu F σ []=true:=rfl
mutual
theorem A0s:∀v:AV,AV.eqb v v=true
 |.b x=>by simp[AV.eqb]
 |.i k n=>by simp[AV.eqb]
 |.s x=>by simp[AV.eqb]
 |.p o=>by simp[AV.eqb]
 |.sl o n=>by simp[AV.eqb]
 |.f g a c=>by simp[AV.eqb,HL a,HL c]
 |.nf=>rfl
 |.ag cs=>by simp[AV.eqb,HL cs]
 |.tu cs=>by simp[AV.eqb,HL cs]
theorem HL:∀l:List AV,AV.eqbL l l=true
 | []=>rfl
 |x::xs=>by simp[AV.eqbL,A0s x,HL xs]
end
theorem A5q{d:Nat}{n:Option Nat}{a:Ar}{r:List Ay}:Cu F σ (⟨some d,none,.ld n a⟩::r)=true↔(∃id off,Fr.ev F a=.p (some (id,off))/\σ.loadV n id off=some (Fr.tmp F d))/\Cu F σ r=true:=by
 simp only[Cu,wanted,cond_true,Bool.and_eq_true]
 refine and_congr ?_ Iff.rfl
 constructor
 .grind[Uz,A2F]
 .rintro⟨id,off,h1,h2⟩
  have he:Ap (.ld n a) F σ=some (Fr.tmp F d,σ):=Uz.2 ⟨id,off,h1,h2,rfl⟩
  rw[he]
  exact A0s _
attribute [go_sem] A5q
@[go_sem] theorem Aqy (x:Bool):(AV.b x).cells=[.b x]:=rfl
@[go_sem] theorem AqA (k:IntKind) (x:Int):(AV.i k x).cells=[.i k x]:=rfl
@[go_sem] theorem AqC (x:ByteArray):(AV.s x).cells=[.s x]:=rfl
@[go_sem] theorem AqB (x:Option (Nat×Nat)):(AV.p x).cells=[.p x]:=rfl
@[go_sem] theorem Aog (x:Option (Nat×Nat)) (n:Nat):(AV.sl x n).cells=[.sl x n]:=rfl
@[go_sem] theorem Aqz (g:Nat) (a c:List AV):(AV.f g a c).cells=[.f g a c]:=rfl
@[go_sem] theorem Aof:AV.nf.cells=[.nf]:=rfl
@[go_sem] theorem Aoe (l:List AV):(AV.ag l).cells=l:=rfl
@[go_sem] theorem AsK (x:Bool):(AV.b x).cell=true:=rfl
@[go_sem] theorem AsM (k:IntKind) (x:Int):(AV.i k x).cell=true:=rfl
@[go_sem] theorem AsO (x:ByteArray):(AV.s x).cell=true:=rfl
@[go_sem] theorem AsN (x:Option (Nat×Nat)):(AV.p x).cell=true:=rfl
@[go_sem] theorem Aqx (x:Option (Nat×Nat)) (n:Nat):(AV.sl x n).cell=true:=rfl
@[go_sem] theorem AsL (g:Nat) (a c:List AV):(AV.f g a c).cell=true:=rfl
@[go_sem] theorem Aqw:AV.nf.cell=true:=rfl
@[go_sem] theorem AiO (cells:List AV):BN F cells []=some cells:=rfl
@[go_sem] theorem AfU {cells:List AV} {off sz:Nat} {x:Ar} {r:List (Nat×Nat×Ar)} (h1:(Fr.ev F x).cells.length=sz) (h2:(Fr.ev F x).cells.all AV.cell=true) (h3:off+sz<=cells.length):BN F cells ((off,sz,x)::r)=BN F (Li cells off (Fr.ev F x).cells) r:=by
 have h3':Nat.ble (off+sz) cells.length=true:=by rw[Nat.ble_eq];exact h3
 have h1':Nat.beq (Fr.ev F x).cells.length sz=true:=by rw[h1];exact Nat.beq_refl sz
 simp only[BN,h1',h2,h3',Bool.and_self,cond_true]
theorem A9G(cells:List AV)(off:Nat)(xs:List AV):Li cells off xs=cells.take off++xs++cells.drop (off+xs.length):=rfl
attribute [go_sem] A9G length_cons length_nil all_cons List.all_nil Bool.and_self Bool.and_true Bool.true_and List.take_succ_cons List.take_zero List.drop_succ_cons drop_zero List.take_nil List.drop_nil Nat.zero_add Nat.add_zero Nat.mul_one Nat.le_refl
@[go_sem] theorem AhR:Ck F σ []=some []:=rfl
@[go_sem] theorem AlY {a:Nat}:Ck F σ [.t a]=some [Fr.tmp F a]:=rfl
@[go_sem] theorem AlZ {a b:Nat}:Ck F σ [.t a,.t b]=some [Fr.tmp F a,Fr.tmp F b]:=rfl
@[go_sem] theorem Am0 {a b c:Nat}:Ck F σ [.t a,.t b,.t c]=some [Fr.tmp F a,Fr.tmp F b,Fr.tmp F c]:=rfl
@[go_sem] theorem Aub:Zd []=.tu []:=rfl
@[go_sem] theorem Auc (v:AV):Zd [v]=v:=rfl
@[go_sem] theorem Aud (v w:AV) (l:List AV):Zd (v::w::l)=.tu (v::w::l):=rfl
attribute [go_sem] decide_true decide_false Bool.not_true Bool.not_false cond_true cond_false not_true_eq_false not_false_eq_true if_true if_false false_and and_false exists_false imp_false
attribute [go_sem] AV.b.injEq AV.i.injEq AV.s.injEq AV.p.injEq AV.sl.injEq AV.f.injEq AV.ag.injEq AV.tu.injEq Option.some.injEq Prod.mk.injEq true_and and_true and_self exists_eq_left' exists_eq' exists_and_left and_assoc
 map_cons map_nil append_nil nil_append cons_append Option.map_some Option.map_none decide_eq_true_eq decide_eq_false_iff_not forall_const Bool.not_eq_true Bool.not_eq_false reduceCtorEq false_implies implies_true
end
theorem Ax{x:Int}(h1 : -9223372036854775808<=x)(h2:x<9223372036854775808):IntKind.i64.wrap x=x:=by
 grind[IntKind.wrap,IntKind.signed,IntKind.bits]
theorem J6(x:Int):IntKind.u64.wrap x=x % 18446744073709551616:=by
 simp[IntKind.wrap,IntKind.signed,IntKind.bits]
section
variable {e:Option Pk}{k:IntKind}{a c:Int}
@[go_sem] theorem Aoa:Bg .add e (.i k a) (.i k c)=some (.i k (k.wrap (a+c))):=by simp[Bg,G6]
@[go_sem] theorem Aoc:Bg .sub e (.i k a) (.i k c)=some (.i k (k.wrap (a-c))):=by simp[Bg,G6]
@[go_sem] theorem Aob:Bg .mul e (.i k a) (.i k c)=some (.i k (k.wrap (a * c))):=by simp[Bg,G6]
theorem Ab5(h:c≠0):Bg .rem e (.i k a) (.i k c)=some (.i k (a.tmod c)):=by simp[Bg,G6,h]
@[go_sem] theorem A0a:Bg .eql e (.i k a) (.i k c)=some (.b (decide (a=c))):=by
 grind[Bg,G6]
@[go_sem] theorem A0b:Bg .neq e (.i k a) (.i k c)=some (.b (!decide (a=c))):=by
 grind[Bg,G6]
@[go_sem] theorem Ab4:Bg .lss e (.i k a) (.i k c)=some (.b (decide (a<c))):=by simp[Bg,G6]
@[go_sem] theorem Ab3:Bg .leq e (.i k a) (.i k c)=some (.b (decide (a<=c))):=by simp[Bg,G6]
@[go_sem] theorem Ab2:Bg .gtr e (.i k a) (.i k c)=some (.b (decide (c<a))):=by simp[Bg,G6]
@[go_sem] theorem Ab1:Bg .geq e (.i k a) (.i k c)=some (.b (decide (c<=a))):=by simp[Bg,G6]
end
@[go_sem] theorem AmT (x y:Bool):Bg .eql (some .b) (.b x) (.b y)=some (.b (x==y)):=rfl
@[go_sem] theorem AmU (x y:Bool):Bg .neq (some .b) (.b x) (.b y)=some (.b (!(x==y))):=rfl
theorem A0h{a b:ByteArray}:a.toList=b.toList↔a=b:=by
 have key:∀a:ByteArray,a.toList=a.data.toList:=fun a=>by
  simp[ByteArray.toList_eq]
 constructor
 .intro h
  rw[key,key]at h
  cases a;cases b
  simp at h
  rw[h]
 .rintro rfl;rfl
@[go_sem] theorem A9m {e:Option Pk} (x y:ByteArray):Bg .eql e (.s x) (.s y)=some (.b (decide (x=y))):=by
 grind[Bg,Ab0,A0h]
@[go_sem] theorem A9n {e:Option Pk} (x y:ByteArray):Bg .neq e (.s x) (.s y)=some (.b (!decide (x=y))):=by
 grind[Bg,Ab0,A0h]
def Wd(w:BitVec 64):AV:=.i .u64 (w.toNat:Int)
theorem Ht(w:BitVec 64):BitVec.ofInt 64 (w.toNat:Int)=w:=by
 grind
theorem A5M(w:BitVec 64):IntKind.u64.wrap (w.toNat:Int)=(w.toNat:Int):=by
 rw[J6]
 have:=w.isLt
 omega
section
variable {e:Option Pk}{a b:BitVec 64}
@[go_sem] theorem AvV:AV.i .u64 0=Wd 0#64:=rfl
@[go_sem] theorem AvW:AV.i .u64 1=Wd 1#64:=rfl
@[go_sem] theorem A0c:Bg .and e (Wd a) (Wd b)=some (Wd (a&&&b)):=by
 simp only[Wd,Bg,G6,if_true,IntKind.bits,Ht,A5M]
 rfl
@[go_sem] theorem Afx:Bg .or e (Wd a) (Wd b)=some (Wd (a|||b)):=by
 simp only[Wd,Bg,G6,if_true,IntKind.bits,Ht,A5M]
 rfl
@[go_sem] theorem A0d:Bg .andNot e (Wd a) (Wd b)=some (Wd (a&&&~~~b)):=by
 simp only[Wd,Bg,G6,if_true,IntKind.bits,Ht,A5M]
 rfl
@[go_sem] theorem Abb:Bg .sub e (Wd a) (Wd b)=some (Wd (a-b)):=by
 simp only[Wd,Bg,G6,if_true,J6,Option.some.injEq,AV.i.injEq,true_and]
 rw[BitVec.toNat_sub]
 have:=a.isLt;have:=b.isLt
 omega
@[go_sem] theorem Ab6:Bg .add e (Wd a) (Wd b)=some (Wd (a+b)):=by
 simp only[Wd,Bg,G6,if_true,J6,Option.some.injEq,AV.i.injEq,true_and]
 grind
@[go_sem] theorem Ab7:Bg .eql e (Wd a) (Wd b)=some (.b (decide (a=b))):=by
 simp only[Wd,A0a,Int.natCast_inj,BitVec.toNat_inj]
@[go_sem] theorem Ab8:Bg .neq e (Wd a) (Wd b)=some (.b (!decide (a=b))):=by
 simp only[Wd,A0b,Int.natCast_inj,BitVec.toNat_inj]
theorem Ab9{n:Nat}(h:n<64):Bg .shl e (Wd a) (.i .i64 n)=some (Wd (a<<<n)):=by
 have h0:¬((n:Int)<0):=by omega
 simp only[Wd,Bg,GO,if_neg h0,IntKind.bits,J6,Option.some.injEq,AV.i.injEq,true_and,Int.toNat_natCast]
 grind[Nat.shiftLeft_eq]
theorem Aba{n:Nat}(h:n<64):Bg .shr e (Wd a) (.i .i64 n)=some (Wd (a>>>n)):=by
 have h0:¬((n:Int)<0):=by omega
 simp only[Wd,Bg,GO,if_neg h0,IntKind.bits,Option.some.injEq,AV.i.injEq,true_and,Int.toNat_natCast]
 grind[Nat.shiftRight_eq_div_pow]
end
@[go_sem] theorem AV.cell_Wd (w:BitVec 64):(Wd w).cell=true:=rfl
@[go_sem] theorem AV.cells_Wd (w:BitVec 64):(Wd w).cells=[Wd w]:=rfl
end Go.AM
namespace Go.AM
open Go
class Rdr (α:Type) where
 size:Nat
 rd:St->List AV->Option α
 len:∀{σ:St} {cs:List AV} {x:α},rd σ cs=some x->cs.length=size
 ext:∀{σ σ':St} {cs:List AV} {x:α},Dy σ σ'->rd σ cs=some x->rd σ' cs=some x
 cell:∀{σ:St} {cs:List AV} {x:α},rd σ cs=some x->cs.all AV.cell=true
def A8y(cs:List AV):Option Int:=match cs with
 | [.i .i64 n]=>some n
 |_=>none
theorem RF{cs:List AV}{n:Int}:A8y cs=some n↔cs=[.i .i64 n]:=by
 constructor
 .intro h
  unfold A8y at h
  grind
 .rintro rfl;rfl
instance : Rdr Int where
 size:=1
 rd _ cs:=A8y cs
 len h:=by rw[RF.1 h];rfl
 ext _ h:=h
 cell h:=by rw[RF.1 h];rfl
def Zg(cs:List AV):Option Bool:=match cs with
 | [.b n]=>some n
 |_=>none
theorem Nw{cs:List AV}{n:Bool}:Zg cs=some n↔cs=[.b n]:=by
 constructor
 .intro h
  unfold Zg at h
  grind
 .rintro rfl;rfl
instance : Rdr Bool where
 size:=1
 rd _ cs:=Zg cs
 len h:=by rw[Nw.1 h];rfl
 ext _ h:=h
 cell h:=by rw[Nw.1 h];rfl
def RJ(cs:List AV):Option (BitVec 64):=match cs with
 | [.i .u64 n]=>if 0<=n/\n<18446744073709551616 then some (BitVec.ofInt 64 n)else none
 |_=>none
theorem Nx{cs:List AV}{n:BitVec 64}:RJ cs=some n↔cs=[Wd n]:=by
 constructor
 .intro h
  unfold RJ at h
  split at h
  .split at h
   .rename_i n hn
    cases h
    simp only[Wd,List.cons.injEq,and_true,AV.i.injEq,true_and]
    obtain⟨m,rfl⟩:=Int.eq_ofNat_of_zero_le hn.1
    grind
   .cases h
  .cases h
 .rintro rfl
  have:=n.isLt
  simp only[RJ,Wd]
  rw[if_pos (by omega),Ht]
instance : Rdr (BitVec 64) where
 size:=1
 rd _ cs:=RJ cs
 len h:=by rw[Nx.1 h];rfl
 ext _ h:=h
 cell h:=by rw[Nx.1 h];rfl
def A8z(cs:List AV):Option ByteArray:=match cs with
 | [.s n]=>some n
 |_=>none
theorem RH{cs:List AV}{n:ByteArray}:A8z cs=some n↔cs=[.s n]:=by
 constructor
 .intro h
  unfold A8z at h
  grind
 .rintro rfl;rfl
instance : Rdr ByteArray where
 size:=1
 rd _ cs:=A8z cs
 len h:=by rw[RH.1 h];rfl
 ext _ h:=h
 cell h:=by rw[RH.1 h];rfl
structure U8 where
 n:Nat
def AhN(cs:List AV):Option U8:=match cs with
 | [.i .u8 n]=>if 0<=n/\n<256 then some ⟨n.toNat⟩else none
 |_=>none
theorem A8A{cs:List AV}{n:U8}:AhN cs=some n↔cs=[.i .u8 (n.n:Int)]/\n.n<256:=by
 constructor
 .intro h
  unfold AhN at h
  grind
 .rintro⟨rfl,h⟩
  simp only[AhN]
  rw[if_pos (by omega)]
  rfl
instance : Rdr U8 where
 size:=1
 rd _ cs:=AhN cs
 len h:=by rw[(A8A.1 h).1];rfl
 ext _ h:=h
 cell h:=by rw[(A8A.1 h).1];rfl
section
variable {α:Type}[Rdr α]
def HU(σ:St):Nat->List AV->Option (List α)
 |0,cs=>if cs.length=0 then some []else none
 |n+1,cs=>match Rdr.rd σ (cs.take (Rdr.size α)),HU σ n (cs.drop (Rdr.size α))with
  |some x,some xs=>some (x::xs)
  |_,_=>none
theorem Nv{σ:St}:∀{n:Nat} {cs:List AV} {xs:List α},HU σ n cs=some xs->xs.length=n/\cs.length=n * Rdr.size α:=by
 intro n
 induction n with
 |zero=>
  intro cs xs h
  simp only[HU]at h
  grind
 |succ n ih=>
  grind[HU,Rdr.len,List.length_take]
theorem Aab{σ σ':St}(he:Dy σ σ'):∀{n:Nat} {cs:List AV} {xs:List α},HU σ n cs=some xs->HU σ' n cs=some xs:=by
 intro n
 induction n with
 |zero=>intro cs xs h;exact h
 |succ n ih=>
  grind[HU,Rdr.ext]
theorem Aed{σ:St}:∀{n:Nat} {cs:List AV} {xs:List α},HU σ n cs=some xs->∀(i:Nat) (h:i<xs.length),Rdr.rd σ ((cs.drop (i * Rdr.size α)).take (Rdr.size α))=some xs[i]:=by
 intro n
 induction n with
 |zero=>
  grind[HU]
 |succ n ih=>
  intro cs xs h i hi
  simp only[HU]at h
  split at h
  .rename_i x ys h1 h2
   cases h
   cases i with
   |zero=>simpa using h1
   |succ i=>
    have:=ih h2 i (by simpa using hi)
    grind[List.drop_drop]
  .cases h
def Aac(σ:St)(cs:List AV):Option (List α):=match cs with
 | [.sl o n]=>(GB (Rdr.size α) o n σ).bind (HU σ n)
 |_=>none
theorem Hu{σ:St}{cs:List AV}{xs:List α}:Aac σ cs=some xs↔∃o ys,cs=[.sl o xs.length]/\GB (Rdr.size α) o xs.length σ=some ys/\HU σ xs.length ys=some xs:=by
 constructor
 .intro h
  unfold Aac at h
  split at h
  .rename_i o n
   obtain⟨ys,h1,h2⟩:=Option.bind_eq_some_iff.1 h
   obtain⟨h3,_⟩:=Nv h2
   grind
  .cases h
 .rintro⟨o,ys,rfl,h1,h2⟩
  grind[Aac]
theorem Aep{σ σ':St}(he:Dy σ σ'){esz:Nat}{o:Option (Nat×Nat)}{n:Nat}{ys:List AV}(h:GB esz o n σ=some ys):GB esz o n σ'=some ys:=by
 unfold GB at h ⊢
 cases o with
 |none=>exact h
 |some x=>exact he.loadN h
instance : Rdr (List α) where
 size:=1
 rd σ cs:=Aac σ cs
 len h:=by obtain⟨o,ys,rfl,_⟩:=Hu.1 h;rfl
 ext he h:=by
  obtain⟨o,ys,rfl,h1,h2⟩:=Hu.1 h
  exact Hu.2 ⟨o,ys,rfl,Aep he h1,Aab he h2⟩
 cell h:=by obtain⟨o,ys,rfl,_⟩:=Hu.1 h;rfl
def Rd(σ:St)(v:AV)(x:α):Prop:=Rdr.rd σ [v]=some x
theorem Rd.ext{σ σ':St}{v:AV}{x:α}(h:Rd σ v x)(he:Dy σ σ'):Rd σ' v x:=Rdr.ext he h
theorem Rd.sl{σ:St}{v:AV}{xs:List α}(h:Rd σ v xs):∃o,v=.sl o xs.length:=by
 obtain⟨o,ys,h1,_⟩:=Hu.1 h
 grind
theorem Rd.nil{σ:St}:Rd σ (.sl none 0) ([]:List α):=Hu.2 ⟨none,[],rfl,rfl,rfl⟩
theorem Rd.at{σ:St}{v:AV}{xs:List α}(h:Rd σ v xs)(hs:0<Rdr.size α){i:Nat}(hi:i<xs.length){k:IntKind} :
  ∃id off cs,Acx (Rdr.size α) v (.i k i)=some (.p (some (id,off)))/\σ.loadN id off (Rdr.size α)=some cs/\Rdr.rd σ cs=some xs[i]:=by
 obtain⟨o,ys,h1,h2,h3⟩:=Hu.1 h
 simp only[List.cons.injEq,and_true]at h1
 subst h1
 have h4:=Aed h3 i hi
 obtain⟨_,h5⟩:=Nv h3
 unfold GB at h2
 cases o with
 |none=>
  grind[Nat.eq_of_beq_eq_true]
 |some x=>
  obtain⟨id,off⟩:=x
  simp only at h2
  obtain⟨h6,h7⟩:=A12 h2
  refine⟨id,off+i * Rdr.size α,_,?_,?_,h4⟩
  .simp_all[Acx]
  .have hle:i * Rdr.size α+Rdr.size α<=xs.length * Rdr.size α:=by
    rw[<- Nat.succ_mul]
    exact Nat.mul_le_mul_right _ hi
   grind[HQ]
end
theorem Rd.int{σ:St}{v:AV}{x:Int}:Rd σ v x↔v=.i .i64 x:=by
 show A8y [v]=some x↔_
 rw[RF]
 simp
theorem Rd.word{σ:St}{v:AV}{x:BitVec 64}:Rd σ v x↔v=Wd x:=by
 show RJ [v]=some x↔_
 rw[Nx]
 simp
theorem Rd.bool{σ:St}{v:AV}{x:Bool}:Rd σ v x↔v=.b x:=by
 show Zg [v]=some x↔_
 rw[Nw]
 simp
theorem Rd.str{σ:St}{v:AV}{x:ByteArray}:Rd σ v x↔v=.s x:=by
 show A8z [v]=some x↔_
 rw[RH]
 simp
def Da(σ:St)(id ty esz len:Nat)(cells:List AV):Prop:=
 ∃cs,σ.get id=some { ty:=ty,rw:=true,esz:=esz,len:=len,cs:=cs }/\cells.length=len/\∀j,j<len->cs.get j=cells[j]?
theorem Da.ext{σ σ':St}{id ty esz len:Nat}{cells:List AV}(h:Da σ id ty esz len cells)(he:Dy σ σ'):Da σ' id ty esz len cells:=by
 obtain⟨cs,h1,h2⟩:=h
 exact⟨cs,he.keep _ _ h1,h2⟩
theorem Da.of_get{σ σ':St}{id ty esz len:Nat}{cells:List AV}(h:Da σ id ty esz len cells)(he:σ'.get id=σ.get id):Da σ' id ty esz len cells:=by
 obtain⟨cs,h1,h2⟩:=h
 exact⟨cs,he.trans h1,h2⟩
theorem Da.load{σ:St}{id ty esz len:Nat}{cells:List AV}(h:Da σ id ty esz len cells){j:Nat}(hj:j<len):σ.load1 id j=cells[j]?:=by
 obtain⟨cs,h1,h2,h3⟩:=h
 unfold St.load1
 rw[h1]
 have:Nat.blt j len=true:=by simpa[Nat.blt_eq]using hj
 grind
theorem Da.new{σ:St}{ty esz len:Nat}{cells:List AV}(hl:cells.length=len):Da (σ.new { ty:=ty,rw:=true,esz:=esz,len:=len,cs:=Tm.ofList cells }) σ.next ty esz len cells:=
 ⟨_,by rw[Br,if_pos rfl],hl,fun j hj=>Tm.get_ofList cells j⟩
theorem Da.lt{σ:St}{id ty esz len:Nat}{cells:List AV}(h:Da σ id ty esz len cells)(hn:Hy σ):id < σ.next:=by
 obtain⟨cs,h1,_⟩:=h
 rcases Nat.lt_or_ge id σ.next with h2|h2
 .exact h2
 .rw[hn _ h2]at h1;cases h1
theorem Da.store{σ:St}{id ty esz len:Nat}{cells:List AV}(h:Da σ id ty esz len cells):∀{vs:List AV} {off:Nat},off+vs.length<=len->vs.all AV.cell=true ->
  ∃σ',σ.storeN id off vs=some σ'/\Da σ' id ty esz len (cells.take off++vs++cells.drop (off+vs.length))/\σ'.next=σ.next/\∀j,j≠id->σ'.get j=σ.get j:=by
 intro vs
 induction vs generalizing σ cells with
 |nil=>
  intro off ho _
  refine⟨σ,rfl,?_,rfl,fun _ _=>rfl⟩
  simpa using h
 |cons v vs ih=>
  intro off ho hc
  simp only[length_cons]at ho
  simp only[all_cons,Bool.and_eq_true]at hc
  obtain⟨cs,h1,h2,h3⟩:=h
  have hb:Nat.blt off len=true:=by simp[Nat.blt_eq];omega
  have e1:σ.store1 id off v=some (σ.put id { ty:=ty,rw:=true,esz:=esz,len:=len,cs:=cs.set off v }):=by
   unfold St.store1
   grind
  have o1:Da (σ.put id { ty:=ty,rw:=true,esz:=esz,len:=len,cs:=cs.set off v }) id ty esz len (cells.set off v):=by
   refine⟨_,by rw[KK,if_pos rfl],by rw[List.length_set];exact h2,fun j hj=>?_⟩
   rw[Tm.get_set,List.getElem?_set]
   grind
  obtain⟨σ',g1,g2,g3,g4⟩:=ih o1 (off:=off+1) (by omega) hc.2
  refine⟨σ',?_,?_,g3,fun j hj=>?_⟩
  .grind[St.storeN]
  .have e2:(cells.set off v).take (off+1)++vs++(cells.set off v).drop (off+1+vs.length)=cells.take off++(v::vs)++cells.drop (off+(v::vs).length):=by
    rw[List.take_add_one,List.getElem?_set,if_pos rfl,if_pos (by omega),List.take_set_of_le (by omega),List.drop_set_of_lt (by omega)]
    grind
   rw[e2]at g2
   exact g2
  .rw[g4 j hj,KK,if_neg hj]
def Eu(σ0 σ:St)(v:AV)(ty esz n:Nat)(cells:List AV):Prop:=
 (v=.sl none 0/\n=0/\cells=[])\/∃id,v=.sl (some (id,0)) n/\σ0.get id=none/\Da σ id ty esz (n * esz) cells
theorem Eu.ext{σ0 σ σ':St}{v:AV}{ty esz n:Nat}{cells:List AV}(h:Eu σ0 σ v ty esz n cells)(he:Dy σ σ'):Eu σ0 σ' v ty esz n cells:=by
 rcases h with h|⟨id,h1,h2,h3⟩
 .exact .inl h
 .exact .inr ⟨id,h1,h2,h3.ext he⟩
theorem Eu.nil{σ0 σ:St}{ty esz:Nat}:Eu σ0 σ (.sl none 0) ty esz 0 []:=.inl ⟨rfl,rfl,rfl⟩
theorem Eu.sl{σ0 σ:St}{v:AV}{ty esz n:Nat}{cells:List AV}(h:Eu σ0 σ v ty esz n cells):∃o,v=.sl o n:=by
 rcases h with ⟨rfl,rfl,_⟩|⟨id,h1,_⟩
 .exact⟨none,rfl⟩
 .exact⟨_,h1⟩
theorem Eu.len{σ0 σ:St}{v:AV}{ty esz n:Nat}{cells:List AV}(h:Eu σ0 σ v ty esz n cells):cells.length=n * esz:=by
 rcases h with ⟨rfl,rfl,rfl⟩|⟨id,_,_,h1⟩
 .simp
 .obtain⟨cs,_,h2,_⟩:=h1;exact h2
theorem Eu.src{σ0 σ:St}{o:Option (Nat×Nat)}{ty esz n:Nat}{cells:List AV}(h:Eu σ0 σ (.sl o n) ty esz n cells):GB esz o n σ=some cells:=by
 rcases h with ⟨h1,rfl,rfl⟩|⟨id,h1,_,h2⟩
 .cases h1;rfl
 .cases h1
  have h4:cells.length=n * esz:=by obtain⟨cs,_,h4,_⟩:=h2;exact h4
  exact HQ h4 fun j hj=>by rw[Nat.zero_add];exact h2.load hj
theorem Eu.rd{α:Type}[Rdr α]{σ0 σ:St}{v:AV}{ty n:Nat}{cells:List AV}{xs:List α}(h:Eu σ0 σ v ty (Rdr.size α) n cells)(hx:HU σ n cells=some xs):Rd σ v xs:=by
 obtain⟨o,rfl⟩:=h.sl
 obtain⟨h1,_⟩:=Nv hx
 subst h1
 exact Hu.2 ⟨o,cells,rfl,h.src,hx⟩
theorem Da.loadV{σ:St}{id ty esz len:Nat}{cells:List AV}(h:Da σ id ty esz len cells){j:Nat}(hj:j<len){c:AV}(hc:cells[j]? = some c):σ.loadV none id j=some c:=(h.load hj).trans hc
theorem Dy.upd{a b c:St}(h:Dy a b){id:Nat}(hid:a.get id=none)(hn:id<b.next)(hx:c.next=b.next)(hg:∀j,j≠id->c.get j=b.get j):Dy a c:=by
 refine⟨by rw[hx];exact h.nx,fun j o x=>?_,fun j hj=>?_⟩
 .have:j≠id:=by rintro rfl;rw[hid]at x;cases x
  rw[hg j this]
  exact h.keep _ _ x
 .rw[hx]at hj
  rw[hg j (by omega)]
  exact h.nd _ hj
theorem Eu.upd{σ0 σ σ':St}{v:AV}{ty esz n r:Nat}{cells:List AV}(h:Eu σ0 σ v ty esz n cells)(hne:∀off n,v≠.sl (some (r,off)) n)(hg:∀j,j≠r->σ'.get j=σ.get j):Eu σ0 σ' v ty esz n cells:=by
 rcases h with h|⟨id,h1,h2,h3⟩
 .exact .inl h
 .exact .inr ⟨id,h1,h2,h3.of_get (hg id (by rintro rfl;exact hne _ _ h1))⟩
@[go_sem] theorem An1 {σ:St} {ty esz len j:Nat} {rw:Bool} {cells:List AV}:(σ.new { ty:=ty,rw:=rw,esz:=esz,len:=len,cs:=Tm.ofList cells }).loadV none σ.next j=if j<len then cells[j]? else none:=by
 show St.load1 _ _ _=_
 unfold St.load1
 rw[Br,if_pos rfl]
 by_cases h:j<len
 .have:Nat.blt j len=true:=by simpa[Nat.blt_eq]using h
  simp only[this,cond_true,if_pos h,Tm.get_ofList]
 .have:Nat.blt j len=false:=by
   grind[Nat.blt_eq]
  simp only[this,cond_false,if_neg h]
theorem Da.loadAll{σ:St}{id ty esz len:Nat}{cells:List AV}(h:Da σ id ty esz len cells){off n:Nat}(hn:off+n<=len):σ.loadV (some n) id off=some (.ag ((cells.drop off).take n)):=by
 have hl:cells.length=len:=by obtain⟨cs,_,h4,_⟩:=h;exact h4
 have:σ.loadN id off n=some ((cells.drop off).take n):=by
  refine HQ (by grind) fun j hj=>?_
  rw[h.load (by omega),List.getElem?_take_of_lt hj,List.getElem?_drop]
 unfold St.loadV
 simp only[this]
@[go_sem] theorem Aly {σ:St} {ty esz len n:Nat} {cells:List AV} (h1:cells.length=len) (h2:n=len):(σ.new { ty:=ty,rw:=true,esz:=esz,len:=len,cs:=Tm.ofList cells }).loadV (some n) σ.next 0=some (.ag cells):=by
 have h:Da (σ.new { ty:=ty,rw:=true,esz:=esz,len:=len,cs:=Tm.ofList cells }) σ.next ty esz len cells:=Da.new h1
 subst h2
 rw[h.loadAll (by omega),drop_zero,List.take_of_length_le (by omega)]
theorem Eu.new{σ:St}(hn:Hy σ){ty esz n:Nat}{cells:List AV}(hl:cells.length=n * esz):Eu σ (σ.new { ty:=ty,rw:=true,esz:=esz,len:=n * esz,cs:=Tm.ofList cells }) (.sl (some (σ.next,0)) n) ty esz n cells:=
 .inr ⟨σ.next,rfl,hn _ (Nat.le_refl _),Da.new hl⟩
theorem Eu.base{σ0 σ1 σ:St}{v:AV}{ty esz n:Nat}{cells:List AV}(h:Eu σ1 σ v ty esz n cells)(he:Dy σ0 σ1):Eu σ0 σ v ty esz n cells:=by
 rcases h with h|⟨id,e1,e2,e3⟩
 .exact .inl h
 .refine .inr ⟨id,e1,?_,e3⟩
  cases hg:σ0.get id with
  |none=>rfl
  |some ob=>rw[he.keep _ _ hg]at e2;cases e2
end Go.AM
namespace Go.AM
open Go Go.Proofs
def BC(i:Int):BitVec 64:=if 0<=i/\i<64 then 1#64<<<i.toNat else 0#64
def BP(s:BitVec 64):List Nat:=(List.range 64).filter fun i=>s.getLsbD i
theorem V0{p q:Nat->Bool}{k:Nat}(h1:p k=true)(h2:∀j,j<k->p j=false)(h3:∀j,q j=(p j&&j != k)):∀n,(List.range n).filter p=if k<n then k::(List.range n).filter q else []:=by
 intro n
 induction n with
 |zero=>simp
 |succ n ih=>
  rw[List.range_succ,List.filter_append,List.filter_append,ih]
  rcases Nat.lt_trichotomy k n with h|h|h
  .grind
  .simp_all
  grind
theorem AcM(s:BitVec 64)(h:s≠0#64):s.getLsbD (Lib.ctz 64 s.toNat)=true/\(∀j,j<Lib.ctz 64 s.toNat->s.getLsbD j=false)/\(∀j,(s&&&(s-1#64)).getLsbD j=(s.getLsbD j&&j != Lib.ctz 64 s.toNat))/\Lib.ctz 64 s.toNat<64:=by
 have h0:s.toNat≠0:=fun e=>h (BitVec.eq_of_toNat_eq (by simpa using e))
 have hc:Lib.ctz 64 s.toNat=Lib.ctzFrom 64 s.toNat:=by simp[Lib.ctz,h0]
 obtain⟨m,hm,hk⟩:=Lib.ctzFrom_spec 64 s.toNat (by omega) s.isLt
 rw[hc]
 generalize Lib.ctzFrom 64 s.toNat=k at hm hk
 have hb:∀j,s.getLsbD j=(decide (j ≥ k)&&(2 * m+1).testBit (j-k)):=by
  intro j
  show s.toNat.testBit j=_
  rw[hm,Nat.testBit_two_pow_mul]
 have hp:0<2 ^ k:=Nat.two_pow_pos k
 have hs1:(s-1#64).toNat=2 ^ k * (2 * m)+(2 ^ k-1):=by
  have h1:(s-1#64).toNat=s.toNat-1:=by
   rw[BitVec.toNat_sub]
   have:=s.isLt
   simp
   omega
  grind
 have hb1:∀j,(s-1#64).getLsbD j=if j<k then(2 ^ k-1).testBit j else(2 * m).testBit (j-k):=by
  intro j
  show(s-1#64).toNat.testBit j=_
  rw[hs1,Nat.testBit_two_pow_mul_add _ (by omega)]
 refine⟨?_,?_,?_,hk⟩
 .rw[hb];simp
 .grind
 .intro j
  rw[BitVec.getLsbD_and,hb1,hb]
  rcases Nat.lt_trichotomy j k with h|h|h
  .grind
  .subst h;simp
  .obtain⟨d,rfl⟩:∃d,j=k+(d+1):=⟨j-k-1,by omega⟩
   have h1:¬k+(d+1)<k:=by omega
   have h2:k+(d+1) ≥ k:=by omega
   have h3:k+(d+1)-k=d+1:=by omega
   grind
theorem A4u{s:BitVec 64}(h:s≠0#64):BP s=Lib.ctz 64 s.toNat::BP (s&&&(s-1#64)):=by
 obtain⟨h1,h2,h3,h4⟩:=AcM s h
 have:=V0 (p:=fun j=>s.getLsbD j) (q:=fun j=>(s&&&(s-1#64)).getLsbD j) h1 h2 h3 64
 rw[if_pos h4]at this
 exact this
theorem A4v:BP 0#64=[]:=by simp[BP]
theorem A10{s:BitVec 64}{i:Nat}(h:i∈BP s):i<64/\s.getLsbD i=true:=by
 simpa[BP]using h
theorem KP{s:BitVec 64}{i:Nat}:i∈BP s↔s.getLsbD i=true:=by
 grind[BP]
theorem C2(i:Int)(j:Nat):(BC i).getLsbD j=decide ((j:Int)=i/\j<64):=by
 unfold BC
 grind
theorem NP(s:BitVec 64)(i:Int):(s&&&BC i=0#64)↔¬(0<=i/\s.getLsbD i.toNat=true):=by
 constructor
 .rintro h ⟨h0,h1⟩
  have:=congrArg (fun x=>x.getLsbD i.toNat) h
  simp only[BitVec.getLsbD_and,h1,Bool.true_and,C2]at this
  grind
 .intro h
  apply BitVec.eq_of_getLsbD_eq
  grind[C2]
def Bh(s:BitVec 64)(i:Int):Bool:=decide (0<=i)&&s.getLsbD i.toNat
theorem Ag6(s:BitVec 64)(i:Int):(!decide (s&&&BC i=0#64))=Bh s i:=by
 have h:=NP s i
 unfold Bh
 grind
theorem Aq(s:BitVec 64)(i:Nat):Bh s (i:Int)=s.getLsbD i:=by simp[Bh]
def BR(p:Nat->Bool):BitVec 64:=(List.range 64).foldl (fun s i=>if p i then s|||BC i else s) 0#64
theorem AA(p:Nat->Bool)(j:Nat):(BR p).getLsbD j=(p j&&decide (j<64)):=by
 have key:∀n,n<=64->((List.range n).foldl (fun s i=>if p i then s|||BC i else s) 0#64).getLsbD j=(p j&&decide (j<n)):=by
  intro n
  induction n with
  |zero=>intro _;simp
  |succ n ih=>
   grind[List.range_succ,C2]
 exact key 64 (Nat.le_refl _)
theorem B4{a b:BitVec 64}(h:∀j,j<64->a.getLsbD j=b.getLsbD j):a=b:=BitVec.eq_of_getLsbD_eq fun j hj=>h j hj
theorem MJ(p:Nat->Bool)(k:Nat)(hk:k<64):BR p|||BC k=BR (fun j=>p j||decide (j=k)):=by
 apply B4
 grind[AA,C2]
theorem Bx{p q:Nat->Bool}(h:∀j,j<64->p j=q j):BR p=BR q:=by
 apply B4
 grind[AA]
theorem GH:BR (fun _=>false)=0#64:=by
 apply B4
 intro j hj
 rw[AA]
 simp
end Go.AM
namespace Go.AM
open Go
structure AI where
 thread:Int
 up:Int
 kind:Int
 loc:Int
 mode:Int
 val:Int
 rmw:Bool
 fin:Bool
 regs:List Int
 deriving DecidableEq
structure A2 where
 vals:Int
 locs:List ByteArray
 regs:List (List ByteArray)
 nodes:List AI
structure A8 where
 has:List Int
 jf:List Int
 mo:List (List (List Int))
 deriving DecidableEq
structure AF where
 has:List Int
 rf:List Int
 mo:List (List Int)
 deriving DecidableEq
def Nk(n:AI)(rv:AV):List AV:=[.i .i64 n.thread,.i .i64 n.up,.i .i64 n.kind,.i .i64 n.loc,.i .i64 n.mode,.i .i64 n.val,.b n.rmw,.b n.fin,rv]
def Zh(σ:St)(cs:List AV):Option AI:=match cs with
 | [.i .i64 a,.i .i64 b,.i .i64 c,.i .i64 d,.i .i64 e,.i .i64 f,.b g,.b h,rv]=>match Aac σ [rv]with
  |some rs=>some ⟨a,b,c,d,e,f,g,h,rs⟩
  |none=>none
 |_=>none
theorem KU{σ:St}{cs:List AV}{n:AI}:Zh σ cs=some n↔∃rv,cs=Nk n rv/\Rd σ rv n.regs:=by
 constructor
 .intro h
  unfold Zh at h
  split at h
  .rename_i a b c d e f g k rv
   split at h
   .rename_i rs hrs
    cases h
    exact⟨rv,rfl,hrs⟩
   .cases h
  .cases h
 .rintro⟨rv,rfl,h⟩
  have h':Aac σ [rv]=some n.regs:=h
  simp only[Zh,Nk,h']
theorem Rd.cell{α:Type}[Rdr α]{σ:St}{v:AV}{x:α}(h:Rd σ v x):v.cell=true:=by
 have:=Rdr.cell h
 simpa using this
instance : Rdr AI where
 size:=9
 rd σ cs:=Zh σ cs
 len h:=by obtain⟨rv,rfl,_⟩:=KU.1 h;rfl
 ext he h:=by
  obtain⟨rv,rfl,h1⟩:=KU.1 h
  exact KU.2 ⟨rv,rfl,h1.ext he⟩
 cell h:=by
  obtain⟨rv,rfl,h1⟩:=KU.1 h
  have:=h1.cell
  simp only[Nk,all_cons,List.all_nil,this]
  rfl
def Aaq(t:A2)(a b c:AV):List AV:=[.i .i64 t.vals,a,b,c]
def RdT(σ:St)(v:AV)(t:A2):Prop:=∃a b c,v=.ag (Aaq t a b c)/\Rd σ a t.locs/\Rd σ b t.regs/\Rd σ c t.nodes
theorem RdT.ext{σ σ':St}{v:AV}{t:A2}(h:RdT σ v t)(he:Dy σ σ'):RdT σ' v t:=by
 obtain⟨a,b,c,h1,h2,h3,h4⟩:=h
 exact⟨a,b,c,h1,h2.ext he,h3.ext he,h4.ext he⟩
def RdS(σ:St)(v:AV)(s:A8):Prop:=∃a b c,v=.ag [a,b,c]/\Rd σ a s.has/\Rd σ b s.jf/\Rd σ c s.mo
theorem RdS.ext{σ σ':St}{v:AV}{t:A8}(h:RdS σ v t)(he:Dy σ σ'):RdS σ' v t:=by
 obtain⟨a,b,c,h1,h2,h3,h4⟩:=h
 exact⟨a,b,c,h1,h2.ext he,h3.ext he,h4.ext he⟩
def RdE(σ:St)(v:AV)(s:AF):Prop:=∃a b c,v=.ag [a,b,c]/\Rd σ a s.has/\Rd σ b s.rf/\Rd σ c s.mo
theorem RdE.ext{σ σ':St}{v:AV}{t:AF}(h:RdE σ v t)(he:Dy σ σ'):RdE σ' v t:=by
 obtain⟨a,b,c,h1,h2,h3,h4⟩:=h
 exact⟨a,b,c,h1,h2.ext he,h3.ext he,h4.ext he⟩
theorem Rd.cells{α:Type}[Rdr α]{σ:St}{v:AV}{x:List α}(h:Rd σ v x):v.cells=[v]:=by
 obtain⟨o,rfl⟩:=h.sl
 rfl
def enc:List Nat->Nat
 | []=>0
 |b::r=>b+256 * enc r
theorem GV(a b c d:Nat)(ha:a<256)(hc:c<256):(a+256 * b)&&&(c+256 * d)=(a&&&c)+256 * (b&&&d):=by
 have hac:a&&&c<2 ^ 8:=Nat.and_lt_two_pow _ (by omega)
 apply Nat.eq_of_testBit_eq
 intro j
 rw[Nat.testBit_and]
 rw[show a+256 * b=2 ^ 8 * b+a by omega,show c+256 * d=2 ^ 8 * d+c by omega,show(a&&&c)+256 * (b&&&d)=2 ^ 8 * (b&&&d)+(a&&&c) by omega]
 rw[Nat.testBit_two_pow_mul_add _ (by omega),Nat.testBit_two_pow_mul_add _ (by omega),Nat.testBit_two_pow_mul_add _ hac]
 split<;>rw[Nat.testBit_and]
def f1(b:Nat):Nat:=(b / 2&&&85)+(b&&&85)
def f2(b:Nat):Nat:=(b / 4&&&51)+(b&&&51)
def f3(b:Nat):Nat:=b / 16+b % 16
def pc8(b:Nat):Nat:=((List.range 8).filter fun i=>b.testBit i).length
theorem k1:∀b:Fin 256,∀t:Fin 2,(b.val / 2+128 * t.val)&&&85=b.val / 2&&&85:=by decide +kernel
theorem k2:∀b:Fin 256,∀t:Fin 4,(b.val / 4+64 * t.val)&&&51=b.val / 4&&&51:=by decide +kernel
theorem k3:∀b:Fin 256,∀t:Fin 5,b.val % 16<=4->b.val / 16<=4->(b.val / 16+16 * t.val+b.val)&&&15=f3 b.val:=by decide +kernel
theorem k4:∀b:Fin 256,f1 b.val<256/\f2 (f1 b.val)<256/\f2 (f1 b.val) % 16<=4/\f2 (f1 b.val) / 16<=4/\f3 (f2 (f1 b.val))=pc8 b.val/\pc8 b.val<=8:=by decide +kernel
theorem Aon:∀bs:List Nat,(∀b∈bs,b<256)->(enc bs / 2&&&enc (List.replicate bs.length 85))+(enc bs&&&enc (List.replicate bs.length 85))=enc (bs.map f1)
 | [],_=>by simp[enc]
 |b::r,h=>by
  have hb:=h b (by simp)
  have ih:=Aon r fun x hx=>h x (by simp[hx])
  simp only[length_cons,List.replicate_succ,enc,map_cons]
  generalize enc r=R at *
  generalize enc (List.replicate r.length 85)=M at *
  have e1:(b+256 * R) / 2=(b / 2+128 * (R % 2))+256 * (R / 2):=by omega
  have e2:=k1 ⟨b,hb⟩ ⟨R % 2,by omega⟩
  simp only at e2
  rw[e1,GV _ _ _ _ (by omega) (by omega),GV _ _ _ _ hb (by omega),e2,<- ih,f1]
  omega
theorem Aoo:∀bs:List Nat,(∀b∈bs,b<256)->(enc bs / 4&&&enc (List.replicate bs.length 51))+(enc bs&&&enc (List.replicate bs.length 51))=enc (bs.map f2)
 | [],_=>by simp[enc]
 |b::r,h=>by
  have hb:=h b (by simp)
  have ih:=Aoo r fun x hx=>h x (by simp[hx])
  simp only[length_cons,List.replicate_succ,enc,map_cons]
  generalize enc r=R at *
  generalize enc (List.replicate r.length 51)=M at *
  have e1:(b+256 * R) / 4=(b / 4+64 * (R % 4))+256 * (R / 4):=by omega
  have e2:=k2 ⟨b,hb⟩ ⟨R % 4,by omega⟩
  simp only at e2
  rw[e1,GV _ _ _ _ (by omega) (by omega),GV _ _ _ _ hb (by omega),e2,<- ih,f2]
  omega
theorem AfJ:∀bs:List Nat,(∀b∈bs,b<256/\b % 16<=4/\b / 16<=4)->enc bs % 16<=4
 | [],_=>by simp[enc]
 |b::r,h=>by
  have hb:=h b (by simp)
  simp only[enc]
  omega
theorem Aop:∀bs:List Nat,(∀b∈bs,b<256/\b % 16<=4/\b / 16<=4)->(enc bs / 16+enc bs)&&&enc (List.replicate bs.length 15)=enc (bs.map f3)
 | [],_=>by simp[enc]
 |b::r,h=>by
  have hb:=h b (by simp)
  have ih:=Aop r fun x hx=>h x (by simp[hx])
  have hm:=AfJ r fun x hx=>h x (by simp[hx])
  simp only[length_cons,List.replicate_succ,enc,map_cons]
  generalize enc r=R at *
  generalize enc (List.replicate r.length 15)=M at *
  have e1:(b+256 * R) / 16+(b+256 * R)=(b / 16+16 * (R % 16)+b)+256 * (R / 16+R):=by omega
  have e2:=k3 ⟨b,hb.1⟩ ⟨R % 16,by omega⟩ hb.2.1 hb.2.2
  simp only at e2
  rw[e1,GV _ _ _ _ (by omega) (by omega),e2,<- ih]
def Bc(x:Nat):List Nat:=[x % 256,x / 256 % 256,x / 65536 % 256,x / 16777216 % 256,x / 4294967296 % 256,x / 1099511627776 % 256,x / 281474976710656 % 256,x / 72057594037927936 % 256]
theorem A9v{x:Nat}(h:x<18446744073709551616):enc (Bc x)=x:=by
 simp only[Bc,enc]
 omega
def s1(x:Nat):Nat:=((x / 2)&&&6148914691236517205)+(x&&&6148914691236517205)
def s2(x:Nat):Nat:=((x / 4)&&&3689348814741910323)+(x&&&3689348814741910323)
def s3(x:Nat):Nat:=(x / 16+x)&&&1085102592571150095
def s4(x:Nat):Nat:=x+x / 256
def s5(x:Nat):Nat:=x+x / 65536
def s6(x:Nat):Nat:=x+x / 4294967296
theorem K1{x b:Nat}(hb:b∈Bc x):b<256:=by
 simp only[Bc,mem_cons,not_mem_nil,or_false]at hb
 omega
theorem m1(l:List Nat)(h:l.length=8):enc (List.replicate l.length 85)=6148914691236517205:=by rw[h];decide
theorem m2(l:List Nat)(h:l.length=8):enc (List.replicate l.length 51)=3689348814741910323:=by rw[h];decide
theorem m3(l:List Nat)(h:l.length=8):enc (List.replicate l.length 15)=1085102592571150095:=by rw[h];decide
theorem bl(x:Nat):(Bc x).length=8:=rfl
theorem Apu{x:Nat}(h:x<18446744073709551616):s1 x=enc ((Bc x).map f1):=by
 have h1:=Aon (Bc x) fun b hb=>K1 hb
 rw[A9v h,m1 _ (bl x)]at h1
 exact h1
theorem Apv{x:Nat}(h:x<18446744073709551616):s2 (s1 x)=enc (((Bc x).map f1).map f2):=by
 rw[Apu h]
 have h2:=Aoo ((Bc x).map f1) (by
  intro b hb'
  obtain⟨c,hc,rfl⟩:=List.mem_map.1 hb'
  exact(k4 ⟨c,K1 hc⟩).1)
 rw[m2 _ (by rw[List.length_map];exact bl x)]at h2
 exact h2
theorem Apw{x:Nat}(h:x<18446744073709551616):s3 (s2 (s1 x))=enc ((Bc x).map pc8):=by
 rw[Apv h]
 have hg:∀b∈((Bc x).map f1).map f2,b<256/\b % 16<=4/\b / 16<=4:=by
  intro b hb'
  obtain⟨c,hc,rfl⟩:=List.mem_map.1 hb'
  obtain⟨d,hd,rfl⟩:=List.mem_map.1 hc
  have:=k4 ⟨d,K1 hd⟩
  grind
 have h3:=Aop (((Bc x).map f1).map f2) hg
 rw[m3 _ (by rw[List.length_map,List.length_map];exact bl x)]at h3
 have h4:((((Bc x).map f1).map f2).map f3)=(Bc x).map pc8:=by
  rw[List.map_map,List.map_map]
  apply List.map_congr_left
  intro b hb'
  exact(k4 ⟨b,K1 hb'⟩).2.2.2.2.1
 rw[h4]at h3
 exact h3
theorem Aup(p0 p1 p2 p3 p4 p5 p6 p7:Nat)(h0:p0<=8)(h1:p1<=8)(h2:p2<=8)(h3:p3<=8)(h4:p4<=8)(h5:p5<=8)(h6:p6<=8)(h7:p7<=8) :
  s4 (enc [p0,p1,p2,p3,p4,p5,p6,p7])=(p0+p1)+256 * ((p1+p2)+256 * ((p2+p3)+256 * ((p3+p4)+256 * ((p4+p5)+256 * ((p5+p6)+256 * ((p6+p7)+256 * p7)))))):=by
 simp only[enc,s4]
 omega
theorem Auq(q0 q1 q2 q3 q4 q5 q6 q7:Nat)(h0:q0<=16)(h1:q1<=16)(h2:q2<=16)(h3:q3<=16)(h4:q4<=16)(h5:q5<=16)(h6:q6<=16)(h7:q7<=16) :
  s5 (q0+256 * (q1+256 * (q2+256 * (q3+256 * (q4+256 * (q5+256 * (q6+256 * q7)))))))=(q0+q2)+256 * ((q1+q3)+256 * ((q2+q4)+256 * ((q3+q5)+256 * ((q4+q6)+256 * ((q5+q7)+256 * (q6+256 * q7)))))):=by
 simp only[s5]
 omega
theorem Aur(q0 q1 q2 q3 q4 q5 q6 q7:Nat)(h0:q0<=32)(h1:q1<=32)(h2:q2<=32)(h3:q3<=32)(h4:q4<=32)(h5:q5<=32)(h6:q6<=32)(h7:q7<=32) :
  s6 (q0+256 * (q1+256 * (q2+256 * (q3+256 * (q4+256 * (q5+256 * (q6+256 * q7))))))) % 128=(q0+q4) % 128:=by
 simp only[s6]
 have e:(q0+256 * (q1+256 * (q2+256 * (q3+256 * (q4+256 * (q5+256 * (q6+256 * q7))))))) / 4294967296=q4+256 * (q5+256 * (q6+256 * q7)):=by omega
 omega
theorem Aus(p0 p1 p2 p3 p4 p5 p6 p7:Nat)(h0:p0<=8)(h1:p1<=8)(h2:p2<=8)(h3:p3<=8)(h4:p4<=8)(h5:p5<=8)(h6:p6<=8)(h7:p7<=8) :
  s6 (s5 (s4 (enc [p0,p1,p2,p3,p4,p5,p6,p7]))) % 128=p0+p1+p2+p3+p4+p5+p6+p7:=by
 rw[Aup _ _ _ _ _ _ _ _ h0 h1 h2 h3 h4 h5 h6 h7,Auq _ _ _ _ _ _ _ _ (by omega) (by omega) (by omega) (by omega) (by omega) (by omega) (by omega) (by omega),
  Aur _ _ _ _ _ _ _ _ (by omega) (by omega) (by omega) (by omega) (by omega) (by omega) (by omega) (by omega)]
 omega
theorem Aue{x:Nat}(h:x<18446744073709551616):s6 (s5 (s4 (s3 (s2 (s1 x))))) % 128=((Bc x).map pc8).sum:=by
 rw[Apw h]
 have hp:∀b∈Bc x,pc8 b<=8:=fun b hb'=>(k4 ⟨b,K1 hb'⟩).2.2.2.2.2
 simp only[Bc,mem_cons,not_mem_nil,or_false,forall_eq_or_imp,forall_eq]at hp
 obtain⟨h0,h1,h2,h3,h4,h5,h6,h7⟩:=hp
 simp only[Bc,map_cons,map_nil,List.sum_cons,List.sum_nil]
 grind[Aus]
def cnt(n x:Nat):Nat:=((List.range n).filter fun i=>x.testBit i).length
theorem Abf(n x:Nat):cnt (n+1) x=x % 2+cnt n (x / 2):=by
 unfold cnt
 rw[List.range_succ_eq_map,List.filter_cons]
 have e:((List.map Nat.succ (List.range n)).filter fun i=>x.testBit i).length=((List.range n).filter fun i=>(x / 2).testBit i).length:=by
  grind[List.filter_congr]
 grind
theorem A0j(x:Nat):cnt 0 x=0:=rfl
theorem A0i(n x:Nat):cnt (n+8) x=pc8 (x % 256)+cnt n (x / 256):=by
 have hp:pc8 (x % 256)=cnt 8 (x % 256):=rfl
 rw[hp]
 simp only[Abf,A0j]
 have e:x / 2 / 2 / 2 / 2 / 2 / 2 / 2 / 2=x / 256:=by omega
 rw[e]
 omega
theorem Aoj(x:Nat):cnt 64 x=((Bc x).map pc8).sum:=by
 rw[show 64=56+8 from rfl,A0i,show 56=48+8 from rfl,A0i,show 48=40+8 from rfl,A0i,show 40=32+8 from rfl,A0i,show 32=24+8 from rfl,A0i,show 24=16+8 from rfl,A0i,show 16=8+8 from rfl,A0i,show 8=0+8 from rfl,A0i,A0j]
 simp only[Bc,map_cons,map_nil,List.sum_cons,List.sum_nil,Nat.div_div_eq_div_mul]
theorem Aa9(w:BitVec 64):s6 (s5 (s4 (s3 (s2 (s1 w.toNat))))) % 128=(BP w).length:=by
 rw[Aue w.isLt,<- Aoj]
 rfl
theorem Aug{x:Nat}(h:x<18446744073709551616):s1 x<18446744073709551616/\s2 (s1 x)<18446744073709551616/\s2 (s1 x) / 16+s2 (s1 x)<18446744073709551616/\s3 (s2 (s1 x))<=1085102592571150095/\s4 (s3 (s2 (s1 x)))<18446744073709551616/\s5 (s4 (s3 (s2 (s1 x))))<18446744073709551616/\s6 (s5 (s4 (s3 (s2 (s1 x)))))<9223372036854775808:=by
 have a1:s1 x<=6148914691236517205+6148914691236517205:=Nat.add_le_add Nat.and_le_right Nat.and_le_right
 have a2:s2 (s1 x)<=3689348814741910323+3689348814741910323:=Nat.add_le_add Nat.and_le_right Nat.and_le_right
 have a3:s3 (s2 (s1 x))<=1085102592571150095:=Nat.and_le_right
 refine⟨by omega,by omega,by omega,a3,?_,?_,?_⟩
 .simp only[s4];omega
 .simp only[s4,s5];omega
 .simp only[s4,s5,s6];omega
abbrev o(d:Nat)(op:Bl):Ay:=⟨some d,none,op⟩
abbrev ov(op:Bl):Ay:=⟨none,none,op⟩
abbrev og(d t:Nat)(w:Bool)(op:Bl):Ay:=⟨some d,some (t,w),op⟩
abbrev ovg(t:Nat)(w:Bool)(op:Bl):Ay:=⟨none,some (t,w),op⟩
abbrev bs(l:List UInt8):ByteArray:=⟨⟨l⟩⟩
abbrev sp(i:Nat)(x:Ay):AE:=⟨i,x,[]⟩
abbrev sq(i:Nat)(x:Ay)(c:List Ay):AE:=⟨i,x,c⟩
section
variable {V:Ai}{m:Nat->Nat}{F:A3}{h:VH}
@[congr] theorem AnM {F:A3} {F':Unit->A3} {h:VH} {h':Unit->VH} {c:A1} {Q:Ex->A3->VH->Prop} (hF:∀u:Unit,F=F' u) (hh:∀u:Unit,h=h' u):Vc V m c F h Q=Vc V m c (F' ()) (h' ()) Q:=by rw[<- hF ()];rw[<- hh ()]
@[congr] theorem AnP {F:A3} {F':Unit->A3} {h:VH} {h':Unit->VH} {c:List Ay} {Q:A3->VH->Prop} (hF:∀u:Unit,F=F' u) (hh:∀u:Unit,h=h' u):Vr V m c F h Q=Vr V m c (F' ()) (h' ()) Q:=by rw[<- hF ()];rw[<- hh ()]
@[congr] theorem AnQ {F:A3} {F':Unit->A3} {h:VH} {h':Unit->VH} {L:JP} {c:List AE} {Q:A3->VH->Prop} (hF:∀u:Unit,F=F' u) (hh:∀u:Unit,h=h' u):Vs V m c L F h Q=Vs V m c L (F' ()) (h' ()) Q:=by rw[<- hF ()];rw[<- hh ()]
@[congr] theorem AnO {k:Nat} {k':Unit->Nat} {op:Bl} {Q:VV->VH->Prop} (hk:∀u:Unit,k=k' u):Vo V k op F h Q=Vo V (k' ()) op F h Q:=by rw[<- hk ()]
@[congr] theorem AnL {g:Nat} {a:List VV} {a':Unit->List VV} {Q:VV->Prop} (ha:∀u:Unit,a=a' u):VP V g a Q=VP V g (a' ()) Q:=by rw[<- ha ()]
@[congr] theorem AmE {g b:Nat} {b':Unit->Nat} {a:List VV} {a':Unit->List VV} {Q:VV->VH->Prop} (ha:∀u:Unit,a=a' u) (hb:∀u:Unit,b=b' u):VP1 V g a b Q=VP1 V g (a' ()) (b' ()) Q:=by rw[<- ha ()];rw[<- hb ()]
@[congr] theorem AmF {g:Nat} {a:List VV} {a':Unit->List VV} {h:VH} {h':Unit->VH} {Q:VV->VH->Prop} (ha:∀u:Unit,a=a' u) (hb:∀u:Unit,h=h' u):Lx V g a h Q=Lx V g (a' ()) (h' ()) Q:=by rw[<- ha ()];rw[<- hb ()]
@[congr] theorem AmG {g:Nat} {a:List VV} {a':Unit->List VV} {h:VH} {h':Unit->VH} {Q:VV->VH->Prop} (ha:∀u:Unit,a=a' u) (hb:∀u:Unit,h=h' u):J7 V g a h Q=J7 V g (a' ()) (h' ()) Q:=by rw[<- ha ()];rw[<- hb ()]
def OK{α:Type}(r:Option α)(Q:α->Prop):Prop:=match r with
 |some x=>Q x
 |none=>False
@[congr] theorem AnE {α:Type} {r:Option α} {r':Unit->Option α} {Q:α->Prop} (hr:∀u:Unit,r=r' u):OK r Q=OK (r' ()) Q:=by rw[<- hr ()]
@[go_sem] theorem Ub {α:Type} {x:α} {Q:α->Prop}:OK (some x) Q↔Q x:=Iff.rfl
@[go_sem] theorem Aqh {α:Type} {Q:α->Prop}:OK none Q↔False:=Iff.rfl
def KB{α β:Type}(r:Option (α×β))(Q:α->β->Prop):Prop:=match r with
 |some (x,y)=>Q x y
 |none=>False
@[congr] theorem AmB {α β:Type} {r:Option (α×β)} {r':Unit->Option (α×β)} {Q:α->β->Prop} (hr:∀u:Unit,r=r' u):KB r Q=KB (r' ()) Q:=by rw[<- hr ()]
@[go_sem] theorem ZV {α β:Type} {x:α} {y:β} {Q:α->β->Prop}:KB (some (x,y)) Q↔Q x y:=Iff.rfl
@[go_sem] theorem AnD {α β:Type} {Q:α->β->Prop}:KB none Q↔False:=Iff.rfl
theorem Hg{α β:Type}{r:Option (α×β)}{Q:α->β->Prop}:KB r Q↔∃x y,r=some (x,y)/\Q x y:=by
 cases r with
 |none=>simp[KB]
 |some z=>
  obtain⟨a,b⟩:=z
  exact⟨fun q=>⟨a,b,rfl,q⟩,fun⟨x,y,e,q⟩=>by cases e;exact q⟩
def mk{α:Type}(x:α):α:=x
@[go_sem] theorem EA {α:Type} (x:α):mk x=x:=by
 have h:∀y:α,mk y=y:=fun y=>rfl
 exact h x
theorem A2f{α:Type}{r:Option α}{Q:α->Prop}:OK r Q↔∃x,r=some x/\Q x:=by
 cases r<;>simp[OK]
theorem Db{k:Nat}{op:Bl}{Q:VV->VH->Prop}(hc:∀f args,op≠.call f args):Vo V k op F h Q↔KB (Df k op F h) Q:=by
 rw[Ail hc,Hg]
section
variable {k:Nat}{Q:VV->VH->Prop}
@[go_sem ↓] theorem A5S {x:Ar}:Vo V k (.mov x) F h Q↔KB (mk (Df k (.mov x) F h)) Q:=Db (by intros;simp)
@[go_sem ↓] theorem Aqn {a b c:Ar}:Vo V k (.pick a b c) F h Q↔KB (mk (Df k (.pick a b c) F h)) Q:=Db (by intros;simp)
@[go_sem ↓] theorem As2 {ty n:Nat} {x:Ar}:Vo V k (.box ty n x) F h Q↔KB (mk (Df k (.box ty n x) F h)) Q:=Db (by intros;simp)
@[go_sem ↓] theorem AnN {z:List AV} {ps:List (Nat×Nat×Ar)}:Vo V k (.build z ps) F h Q↔KB (mk (Df k (.build z ps) F h)) Q:=Db (by intros;simp)
@[go_sem ↓] theorem As3 {t e l:Nat} {z:List AV} {ps:List (Nat×Nat×Ar)}:Vo V k (.bsl t e l z ps) F h Q↔KB (mk (Df k (.bsl t e l z ps) F h)) Q:=Db (by intros;simp)
@[go_sem ↓] theorem AuV {n:Option Nat} {a:Ar}:Vo V k (.ld n a) F h Q↔OK (mk (vld h n (A3.ev F a))) fun v=>Q v h:=by
 rw[Db (by intros;simp),EA]
 simp only[Df]
 cases vld h n (A3.ev F a)<;>exact Iff.rfl
@[go_sem ↓] theorem AuW {n:Nat} {a x:Ar}:Vo V k (.st n a x) F h Q↔KB (mk (Df k (.st n a x) F h)) Q:=Db (by intros;simp)
@[go_sem ↓] theorem Aqm {x:Ar}:Vo V k (.nilc x) F h Q↔KB (mk (Df k (.nilc x) F h)) Q:=Db (by intros;simp)
@[go_sem ↓] theorem A2h {op:BinOp} {e:Option Pk} {x y:Ar}:Vo V k (.bin op e x y) F h Q↔OK (mk (B9 op e (A3.ev F x) (A3.ev F y))) fun v=>Q v h:=by
 rw[Db (by intros;simp),EA]
 simp only[Df]
 cases B9 op e (A3.ev F x) (A3.ev F y)<;>exact Iff.rfl
@[go_sem ↓] theorem Asc {x:Ar}:Vo V k (.not x) F h Q↔KB (mk (Df k (.not x) F h)) Q:=Db (by intros;simp)
@[go_sem ↓] theorem Asb {x:Ar}:Vo V k (.neg x) F h Q↔KB (mk (Df k (.neg x) F h)) Q:=Db (by intros;simp)
@[go_sem ↓] theorem Aql {i:IntKind} {x:Ar}:Vo V k (.conv i x) F h Q↔KB (mk (Df k (.conv i x) F h)) Q:=Db (by intros;simp)
@[go_sem ↓] theorem As8 {g:Nat} {a c:List Ar}:Vo V k (.mkf g a c) F h Q↔Q (.f g (a.map (A3.ev F)) (c.map (A3.ev F))) h:=by
 rw[Db (by intros;simp)];exact Iff.rfl
@[go_sem ↓] theorem As9 {t e b:Nat} {z:List AV} {l c:Ar}:Vo V k (.mks t e b z l c) F h Q↔KB (mk (Df k (.mks t e b z l c) F h)) Q:=Db (by intros;simp)
@[go_sem ↓] theorem Asd {e:Nat} {x:Ar} {lo hi:Option Ar}:Vo V k (.slc e x lo hi) F h Q↔OK (mk (Aav h e (A3.ev F x) (lo.map (A3.ev F)) (hi.map (A3.ev F)))) fun v=>Q v h:=by
 rw[Db (by intros;simp),EA]
 simp only[Df]
 cases Aav h e (A3.ev F x) (lo.map (A3.ev F)) (hi.map (A3.ev F))<;>exact Iff.rfl
@[go_sem ↓] theorem AuS {o:Nat} {x:Ar}:Vo V k (.fa o x) F h Q↔KB (mk (Df k (.fa o x) F h)) Q:=Db (by intros;simp)
@[go_sem ↓] theorem AuT {e:Nat} {x i:Ar}:Vo V k (.ia e x i) F h Q↔KB (mk (Df k (.ia e x i) F h)) Q:=Db (by intros;simp)
@[go_sem ↓] theorem As6 {l e:Nat} {x i:Ar}:Vo V k (.iaa l e x i) F h Q↔KB (mk (Df k (.iaa l e x i) F h)) Q:=Db (by intros;simp)
@[go_sem ↓] theorem AuU {x i:Ar}:Vo V k (.ix x i) F h Q↔KB (mk (Df k (.ix x i) F h)) Q:=Db (by intros;simp)
@[go_sem ↓] theorem As5 {x:Ar} {i:Nat}:Vo V k (.ext x i) F h Q↔KB (mk (Df k (.ext x i) F h)) Q:=Db (by intros;simp)
@[go_sem ↓] theorem As7 {s:Bool} {x:Ar}:Vo V k (.len s x) F h Q↔KB (mk (Df k (.len s x) F h)) Q:=Db (by intros;simp)
@[go_sem ↓] theorem As1 {t e b:Nat} {x y:Ar}:Vo V k (.app t e b x y) F h Q↔KB (mk (Ph k h t e b (A3.ev F x) (A3.ev F y))) Q:=by
 rw[Db (by intros;simp)];exact Iff.rfl
@[go_sem ↓] theorem As4 {e:Nat} {x y:Ar}:Vo V k (.cpy e x y) F h Q↔KB (mk (AeI h e (A3.ev F x) (A3.ev F y))) Q:=by
 rw[Db (by intros;simp)];exact Iff.rfl
@[go_sem ↓] theorem Asa {b:Bool} {x y:Ar}:Vo V k (.mnx b x y) F h Q↔KB (mk (Df k (.mnx b x y) F h)) Q:=Db (by intros;simp)
def VF(V:Ai)(k:Nat)(f:VV)(args:List VV)(h:VH)(Q:VV->VH->Prop):Prop:=match f with
 |.f g a c=>(match k with
  |0=>KB (Gt h (a++args++c)) fun pa ids=>VP V g pa fun r=>Q r (bif scal r then h else Bw ids h)
  |1=>KB (Gt h (a++args++c)) fun pa ids=>VP1 V g pa h.length fun r os=>Q r (Bw ids h++os)
  |2=>Lx V g (a++args++c) h Q
  |4=>Lx V g (a++args++c) (Bw (Kd (a++args++c) h) h) (fun _ _=>True)/\J7 V g (a++args++c) h Q
  |_=>J7 V g (a++args++c) h Q)
 |_=>False
@[congr] theorem AnG {k:Nat} {k':Unit->Nat} {f:VV} {f':Unit->VV} {a:List VV} {a':Unit->List VV} (hk:∀u:Unit,k=k' u) (hf:∀u:Unit,f=f' u) (ha:∀u:Unit,a=a' u):VF V k f a h Q=VF V (k' ()) (f' ()) (a' ()) h Q:=by grind
theorem AnH{f:VV}{args:List VV}{g:Nat}{a c:List VV}(hf:f=.f g a c)(hv:VF V k f args h Q):VC V k g (a++args++c) h Q/\VC4 V k g (a++args++c) h:=by
 subst hf
 unfold VF at hv
 unfold VC
 rcases k with _|_|_|_|_|k
 .exact⟨Hg.1 hv,fun h=>by cases h⟩
 .exact⟨Hg.1 hv,fun h=>by cases h⟩
 .exact⟨hv,fun h=>by cases h⟩
 .exact⟨hv,fun h=>by cases h⟩
 .exact⟨hv.2,fun _=>hv.1⟩
 .exact⟨hv,fun h=>by omega⟩
theorem AnI{f:VV}{args:List VV}{g:Nat}{a c:List VV}(hf:f=.f g a c)(hv:VC V k g (a++args++c) h Q)(h4:VC4 V k g (a++args++c) h):VF V k f args h Q:=by
 subst hf
 unfold VF
 unfold VC at hv
 rcases k with _|_|_|_|_|k
 .exact Hg.2 hv
 .exact Hg.2 hv
 .exact hv
 .exact hv
 .exact⟨h4 rfl,hv⟩
 .exact hv
@[go_sem ↓] theorem Aqk {f:Ar} {args:List Ar}:Vo V k (.call f args) F h Q↔VF V k (mk (A3.ev F f)) (args.map (A3.ev F)) h Q:=by
 rw[EA]
 constructor
 .intro hv
  cases hf:A3.ev F f with
  |f g a c=>grind[AnI,A2i]
  |_=>obtain⟨n,v,h',e,_⟩:=hv;simp[JJ,hf]at e
 .intro hv
  cases hf:A3.ev F f with
  |f g a c=>grind[Qf,AnH]
  |_=>rw[hf]at hv;exact hv.elim
@[go_sem] theorem AvM {g:Nat} {a c args:List VV}:VF V 0 (.f g a c) args h Q↔KB (mk (Gt h (a++args++c))) fun pa ids=>VP V g (mk pa) fun r=>Q r (bif scal r then h else Bw ids h):=Iff.rfl
@[go_sem] theorem AvN {g:Nat} {a c args:List VV}:VF V 1 (.f g a c) args h Q↔KB (mk (Gt h (a++args++c))) fun pa ids=>VP1 V g (mk pa) h.length fun r os=>Q r (Bw ids h++os):=Iff.rfl
@[go_sem] theorem AvO {g:Nat} {a c args:List VV}:VF V 2 (.f g a c) args h Q↔Lx V g (mk (a++args++c)) h Q:=Iff.rfl
@[go_sem] theorem AvQ {g:Nat} {a c args:List VV}:VF V 4 (.f g a c) args h Q↔Lx V g (mk (a++args++c)) (Bw (Kd (mk (a++args++c)) h) h) (fun _ _=>True)/\J7 V g (mk (a++args++c)) h Q:=Iff.rfl
@[go_sem] theorem AvP {g:Nat} {a c args:List VV}:VF V 3 (.f g a c) args h Q↔J7 V g (mk (a++args++c)) h Q:=Iff.rfl
end
section
variable {R:A3->VH->Prop}
@[go_sem ↓] theorem Aff {d:Option Nat} {op:Bl} {r:List Ay}:Vr V m (⟨d,none,op⟩::r) F h R↔Vo V (DS m d) op F h fun v h'=>Vr V m r (BM F d v) h' R:=KC
@[go_sem ↓] theorem AaT {d:Nat} {op:Bl} {r:List Ay}:Vr V m (o d op::r) F h R↔Vo V (m d) op F h fun v h'=>Vr V m r (Tm.set F d v) h' R:=KC
@[go_sem ↓] theorem AuY {op:Bl} {r:List Ay}:Vr V m (ov op::r) F h R↔Vo V 2 op F h fun v h'=>Vr V m r F h' R:=KC
def VG(V:Ai)(m:Nat->Nat)(v:VV)(w:Bool)(d:Option Nat)(op:Bl)(r:List Ay)(F:A3)(h:VH)(R:A3->VH->Prop):Prop:=match v with
 |.b x=>(bif x==w then Vo V (DS m d) op F h (fun v h'=>Vr V m r (BM F d v) h' R)else Vr V m r (BM F d VV.nul) h R)
 |.tu []=>Vr V m r (BM F d VV.nul) h R
 |_=>False
@[congr] theorem AnJ {v:VV} {v':Unit->VV} {w:Bool} {d:Option Nat} {op:Bl} {r:List Ay} (hv:∀u:Unit,v=v' u):VG V m v w d op r F h R=VG V m (v' ()) w d op r F h R:=by rw[<- hv ()]
@[go_sem ↓] theorem A03 {d:Option Nat} {t:Nat} {w:Bool} {op:Bl} {r:List Ay}:Vr V m (⟨d,some (t,w),op⟩::r) F h R↔VG V m (mk (A3.tmp F t)) w d op r F h R:=by
 rw[EA]
 rw[KC]
 simp only[Cv,VG]
 grind
@[go_sem ↓] theorem AuX {d:Nat} {t:Nat} {w:Bool} {op:Bl} {r:List Ay}:Vr V m (og d t w op::r) F h R↔VG V m (mk (A3.tmp F t)) w (some d) op r F h R:=A03
@[go_sem ↓] theorem Ase {t:Nat} {w:Bool} {op:Bl} {r:List Ay}:Vr V m (ovg t w op::r) F h R↔VG V m (mk (A3.tmp F t)) w none op r F h R:=A03
@[go_sem] theorem AuR {d:Option Nat} {op:Bl} {r:List Ay}:VG V m (.b true) true d op r F h R↔Vo V (DS m d) op F h (fun v h'=>Vr V m r (BM F d v) h' R):=Iff.rfl
@[go_sem] theorem AuO {d:Option Nat} {op:Bl} {r:List Ay}:VG V m (.b false) false d op r F h R↔Vo V (DS m d) op F h (fun v h'=>Vr V m r (BM F d v) h' R):=Iff.rfl
@[go_sem] theorem AuQ {d:Option Nat} {op:Bl} {r:List Ay}:VG V m (.b true) false d op r F h R↔Vr V m r (BM F d VV.nul) h R:=Iff.rfl
@[go_sem] theorem AuP {d:Option Nat} {op:Bl} {r:List Ay}:VG V m (.b false) true d op r F h R↔Vr V m r (BM F d VV.nul) h R:=Iff.rfl
@[go_sem] theorem ArV {w:Bool} {d:Option Nat} {op:Bl} {r:List Ay}:VG V m VV.nul w d op r F h R↔Vr V m r (BM F d VV.nul) h R:=Iff.rfl
@[go_sem ↓] theorem Gn {i:Nat} {d:Option Nat} {op:Bl} {c:List Ay} {r:List AE} {L:JP}:Vs V m (⟨i,⟨d,none,op⟩,c⟩::r) L F h R↔Vo V (DS m d) op F h fun v h'=>C3 (BM F d v) h' (Dd (DS m d) d op F h L) c/\Vs V m r (Dd (DS m d) d op F h L) (BM F d v) h' R:=Py
def VGs(V:Ai)(m:Nat->Nat)(v:VV)(w:Bool)(d:Option Nat)(op:Bl)(c:List Ay)(r:List AE)(L:JP)(F:A3)(h:VH)(R:A3->VH->Prop):Prop:=match v with
 |.b x=>(bif x==w then Vo V (DS m d) op F h (fun v h'=>C3 (BM F d v) h' (Dd (DS m d) d op F h L) c/\Vs V m r (Dd (DS m d) d op F h L) (BM F d v) h' R)else Vs V m r (Hj d L) (BM F d VV.nul) h R)
 |.tu []=>Vs V m r (Hj d L) (BM F d VV.nul) h R
 |_=>False
@[congr] theorem AmD {v:VV} {v':Unit->VV} {w:Bool} {d:Option Nat} {op:Bl} {c:List Ay} {r:List AE} {L:JP} (hv:∀u:Unit,v=v' u):VGs V m v w d op c r L F h R=VGs V m (v' ()) w d op c r L F h R:=by rw[<- hv ()]
@[go_sem ↓] theorem Mb {i:Nat} {d:Option Nat} {t:Nat} {w:Bool} {op:Bl} {c:List Ay} {r:List AE} {L:JP}:Vs V m (⟨i,⟨d,some (t,w),op⟩,c⟩::r) L F h R↔VGs V m (mk (A3.tmp F t)) w d op c r L F h R:=by
 grind[Py,EA,Cv,VGs]
section
variable {i d t:Nat}{w:Bool}{op:Bl}{c:List Ay}{r:List AE}{L:JP}
@[go_sem ↓] theorem Aqo:Vs V m (sp i (o d op)::r) L F h R↔Vo V (m d) op F h fun v h'=>Vs V m r (Dd (m d) (some d) op F h L) (Tm.set F d v) h' R:=by
 unfold sp o
 rw[Gn]
 simp only[C3,true_and]
 exact Iff.rfl
@[go_sem ↓] theorem AnS:Vs V m (sp i (ov op)::r) L F h R↔Vo V 2 op F h fun v h'=>Vs V m r (Dd 2 none op F h L) F h' R:=by
 unfold sp ov
 rw[Gn]
 simp only[C3,true_and]
 exact Iff.rfl
@[go_sem ↓] theorem AnR:Vs V m (sp i (og d t w op)::r) L F h R↔VGs V m (mk (A3.tmp F t)) w (some d) op [] r L F h R:=Mb
@[go_sem ↓] theorem AmH:Vs V m (sp i (ovg t w op)::r) L F h R↔VGs V m (mk (A3.tmp F t)) w none op [] r L F h R:=Mb
@[go_sem ↓] theorem Aqp:Vs V m (sq i (o d op) c::r) L F h R↔Vo V (m d) op F h fun v h'=>C3 (Tm.set F d v) h' (Dd (m d) (some d) op F h L) c/\Vs V m r (Dd (m d) (some d) op F h L) (Tm.set F d v) h' R:=Gn
@[go_sem ↓] theorem AnU:Vs V m (sq i (ov op) c::r) L F h R↔Vo V 2 op F h fun v h'=>C3 F h' (Dd 2 none op F h L) c/\Vs V m r (Dd 2 none op F h L) F h' R:=Gn
@[go_sem ↓] theorem AnT:Vs V m (sq i (og d t w op) c::r) L F h R↔VGs V m (mk (A3.tmp F t)) w (some d) op c r L F h R:=Mb
@[go_sem ↓] theorem AmI:Vs V m (sq i (ovg t w op) c::r) L F h R↔VGs V m (mk (A3.tmp F t)) w none op c r L F h R:=Mb
end
section
variable {d:Option Nat}{op:Bl}{c:List Ay}{r:List AE}{L:JP}
@[go_sem] theorem ArZ:VGs V m (.b true) true d op c r L F h R↔Vo V (DS m d) op F h (fun v h'=>C3 (BM F d v) h' (Dd (DS m d) d op F h L) c/\Vs V m r (Dd (DS m d) d op F h L) (BM F d v) h' R):=Iff.rfl
@[go_sem] theorem ArW:VGs V m (.b false) false d op c r L F h R↔Vo V (DS m d) op F h (fun v h'=>C3 (BM F d v) h' (Dd (DS m d) d op F h L) c/\Vs V m r (Dd (DS m d) d op F h L) (BM F d v) h' R):=Iff.rfl
@[go_sem] theorem ArY:VGs V m (.b true) false d op c r L F h R↔Vs V m r (Hj d L) (BM F d VV.nul) h R:=Iff.rfl
@[go_sem] theorem ArX:VGs V m (.b false) true d op c r L F h R↔Vs V m r (Hj d L) (BM F d VV.nul) h R:=Iff.rfl
@[go_sem] theorem Aqi {w:Bool}:VGs V m VV.nul w d op c r L F h R↔Vs V m r (Hj d L) (BM F d VV.nul) h R:=Iff.rfl
end
end
section
variable {Q:Ex->A3->VH->Prop}
@[go_sem ↓] theorem A5R:Vc V m .skip F h Q↔Q .norm F h:=
 ⟨fun⟨n,e,F',h',k,q⟩=>by
  cases n with
  |zero=>simp[Aw]at k
  |succ n=>simp only[Aw,Option.some.injEq,Prod.mk.injEq]at k;grind,fun q=>⟨1,.norm,F,h,rfl,q⟩⟩
@[go_sem ↓] theorem A5Q {id:Nat}:Vc V m (.exit id) F h Q↔Q (.exit id) F h:=
 ⟨fun⟨n,e,F',h',k,q⟩=>by
  cases n with
  |zero=>simp[Aw]at k
  |succ n=>simp only[Aw,Option.some.injEq,Prod.mk.injEq]at k;grind,fun q=>⟨1,.exit id,F,h,rfl,q⟩⟩
@[go_sem ↓] theorem As0:Vc V m .ret F h Q↔Q .ret F h:=
 ⟨fun⟨n,e,F',h',k,q⟩=>by
  cases n with
  |zero=>simp[Aw]at k
  |succ n=>simp only[Aw,Option.some.injEq,Prod.mk.injEq]at k;grind,fun q=>⟨1,.ret,F,h,rfl,q⟩⟩
@[go_sem ↓] theorem Uh {ops:List Ay}:Vc V m (.reg ops) F h Q↔Vr V m ops F h (Q .norm):=by
 constructor
 .rintro⟨n,e,F',h',k,q⟩
  cases n with
  |zero=>simp[Aw]at k
  |succ n=>
   simp only[Aw]at k
   split at k
   .rename_i F1 h1 hr;cases k;exact⟨n,_,_,hr,q⟩
   .cases k
 .rintro⟨n,F',h',k,q⟩
  exact⟨n+1,.norm,F',h',by simp only[Aw,k],q⟩
@[go_sem ↓] theorem Aqj {ops:List AE}:Vc V m (.dreg ops) F h Q↔Vs V m ops [] F h (Q .norm):=by
 constructor
 .rintro⟨n,e,F',h',k,q⟩
  cases n with
  |zero=>simp[Aw]at k
  |succ n=>
   simp only[Aw]at k
   split at k
   .rename_i F1 h1 hr;cases k;exact⟨n,_,_,hr,q⟩
   .cases k
 .rintro⟨n,F',h',k,q⟩
  exact⟨n+1,.norm,F',h',by simp only[Aw,k],q⟩
attribute [go_sem ↓] Qg AaU
@[go_sem ↓] theorem Ly {a b:A1}:Vc V m (.seq a b) F h Q↔Vc V m a F h (fun e F' h'=>match e with|.norm=>Vc V m b F' h' Q|e=>Q e F' h'):=by
 constructor
 .rintro⟨n,e,F',h',k,q⟩
  cases n with
  |zero=>simp[Aw]at k
  |succ n=>
   simp only[Aw]at k
   split at k
   .rename_i F1 h1 hr
    exact⟨n,.norm,F1,h1,hr,n,e,F',h',k,q⟩
   .rename_i hne
    refine⟨n,e,F',h',k,?_⟩
    simp_all
 .rintro⟨n,e,F1,h1,k,q⟩
  cases e with
  |norm=>
   obtain⟨j,e,F',h',k2,q⟩:=q
   refine⟨max n j+1,e,F',h',?_,q⟩
   grind[Aw,CI,Nat.le_max_right]
  |exit id=>exact⟨n+1,.exit id,F1,h1,by simp only[Aw,k],q⟩
  |ret=>exact⟨n+1,.ret,F1,h1,by simp only[Aw,k],q⟩
def VCn(V:Ai)(m:Nat->Nat)(v:VV)(a b:A1)(F:A3)(h:VH)(Q:Ex->A3->VH->Prop):Prop:=match v with
 |.b true=>Vc V m a F h Q
 |.b false=>Vc V m b F h Q
 |_=>False
@[congr] theorem AmC {v:VV} {v':Unit->VV} {a b:A1} (hv:∀u:Unit,v=v' u):VCn V m v a b F h Q=VCn V m (v' ()) a b F h Q:=by rw[<- hv ()]
@[go_sem ↓] theorem A5P {x:Ar} {a b:A1}:Vc V m (.cond x a b) F h Q↔VCn V m (mk (A3.ev F x)) a b F h Q:=by
 rw[EA]
 constructor
 .rintro⟨n,e,F',h',k,q⟩
  cases n with
  |zero=>simp[Aw]at k
  |succ n=>
   simp only[Aw]at k
   split at k
   .rename_i hv;rw[hv];exact⟨n,e,F',h',k,q⟩
   .rename_i hv;rw[hv];exact⟨n,e,F',h',k,q⟩
   .cases k
 .intro k
  unfold VCn at k
  split at k
  .rename_i hv;obtain⟨n,e,F',h',k,q⟩:=k;exact⟨n+1,e,F',h',by simp only[Aw,hv];exact k,q⟩
  .rename_i hv;obtain⟨n,e,F',h',k,q⟩:=k;exact⟨n+1,e,F',h',by simp only[Aw,hv];exact k,q⟩
  .exact k.elim
@[go_sem] theorem Aik {a b:A1}:VCn V m (.b true) a b F h Q↔Vc V m a F h Q:=Iff.rfl
@[go_sem] theorem Aij {a b:A1}:VCn V m (.b false) a b F h Q↔Vc V m b F h Q:=Iff.rfl
theorem A0{id:Nat}{c:A1}:Vc V m (.block id c) F h Q↔Vc V m c F h (fun e F' h'=>match e with|.exit id'=>(bif Nat.beq id' id then Q .norm F' h' else Q (.exit id') F' h')|e=>Q e F' h'):=by
 constructor
 .rintro⟨n,e,F',h',k,q⟩
  cases n with
  |zero=>simp[Aw]at k
  |succ n=>
   simp only[Aw]at k
   split at k
   .rename_i id' F1 h1 hr
    refine⟨n,.exit id',F1,h1,hr,?_⟩
    grind
   .rename_i hne
    refine⟨n,e,F',h',k,?_⟩
    simp_all
 .rintro⟨n,e,F1,h1,k,q⟩
  cases e with
  |norm=>exact⟨n+1,.norm,F1,h1,by simp only[Aw,k],q⟩
  |ret=>exact⟨n+1,.ret,F1,h1,by simp only[Aw,k],q⟩
  |exit id'=>
   simp only at q
   cases hb:Nat.beq id' id with
   |true=>rw[hb]at q;exact⟨n+1,.norm,F1,h1,by simp only[Aw,k,hb,cond_true],q⟩
   |false=>rw[hb]at q;exact⟨n+1,.exit id',F1,h1,by simp only[Aw,k,hb,cond_false],q⟩
open Classical in
noncomputable def gcF(h h':VH)(F':A3):A3:=if LT h.length h h' then Ew h.length F' else F'
open Classical in
noncomputable def gcH(h h':VH):VH:=if LT h.length h h' then h'.take h.length else h'
theorem Px{c:A1}:Vc V m (.loop c) F h Q↔Vc V m c F h (fun e F' h'=>match e with|.norm=>Vc V m (.loop c) (gcF h h' F') (gcH h h') Q|e=>Q e F' h'):=by
 constructor
 .rintro⟨n,e,F',h',k,q⟩
  cases n with
  |zero=>simp[Aw]at k
  |succ n=>
   simp only[Aw]at k
   split at k
   .rename_i F1 h1 hr
    refine⟨n,.norm,F1,h1,hr,n,e,F',h',?_,q⟩
    unfold gcF gcH
    grind
   .rename_i hne
    refine⟨n,e,F',h',k,?_⟩
    simp_all
 .rintro⟨n,e,F1,h1,k,q⟩
  cases e with
  |norm=>
   obtain⟨j,e,F',h',k2,q⟩:=q
   refine⟨max n j+1,e,F',h',?_,q⟩
   simp only[Aw,CI (Nat.le_max_left n j) k]
   unfold gcF gcH at k2
   split
   .rename_i hc;rw[if_pos hc,if_pos hc]at k2;exact CI (Nat.le_max_right n j) k2
   .rename_i hc;rw[if_neg hc,if_neg hc]at k2;exact CI (Nat.le_max_right n j) k2
  |exit id=>exact⟨n+1,.exit id,F1,h1,by simp only[Aw,k],q⟩
  |ret=>exact⟨n+1,.ret,F1,h1,by simp only[Aw,k],q⟩
def VL(V:Ai)(m:Nat->Nat)(B:Nat)(c:A1)(F:A3)(h:VH)(Q:Ex->A3->VH->Prop):Prop:=Vc V m (.block B (.loop c)) F h Q
@[congr] theorem AnK {B:Nat} {c:A1} {F:A3} {F':Unit->A3} {h:VH} {h':Unit->VH} (hF:∀u:Unit,F=F' u) (hh:∀u:Unit,h=h' u):VL V m B c F h Q=VL V m B c (F' ()) (h' ()) Q:=by rw[<- hF ()];rw[<- hh ()]
@[go_sem ↓] theorem Afe {B:Nat} {c:A1}:Vc V m (.block B (.loop c)) F h Q↔VL V m B c (mk F) h Q:=Iff.rfl
theorem AJ{M:Type}(I:M->A3->VH->Prop)(μ:M->Nat){c:A1}
  (k:∀x F h,I x F h->Vc V m c F h (fun e F' h'=>match e with|.norm=>LT h.length h h'/\∃x',μ x' < μ x/\I x' (Ew h.length F') (h'.take h.length)|e=>Q e F' h')):∀x F h,I x F h->Vc V m (.loop c) F h Q:=by
 have key:∀j x F h,μ x<=j->I x F h->Vc V m (.loop c) F h Q:=by
  intro j
  induction j with
  |zero=>
   intro x F h hj hi
   rw[Px]
   refine(k x F h hi).mono fun e F' h' hq=>?_
   grind
  |succ j ih=>
   intro x F h hj hi
   rw[Px]
   refine(k x F h hi).mono fun e F' h' hq=>?_
   cases e with
   |norm=>
    obtain⟨h0,x',h1,h2⟩:=hq
    unfold gcF gcH
    grind
   |_=>exact hq
 exact fun x F h hi=>key _ x F h (Nat.le_refl _) hi
end
theorem Ug{vf:Gd}{args:List VV}{Q:VV->VH->Prop}:Vb V vf args h Q↔Vc V vf.m vf.af.body (Tm.ofList args) h (fun e F' h'=>(match e with|.exit _=>False|_=>True)/\OK (Cs F' h' vf.af.results) fun vs=>Q (Lt vs) h'):=by
 unfold Vb Vc Ha
 constructor
 .rintro⟨n,v,h',k,q⟩
  split at k
  .rename_i F1 h1 hr
   split at k
   .rename_i vs hvs;cases k;exact⟨n,_,_,_,hr,trivial,A2f.2 ⟨vs,hvs,q⟩⟩
   .cases k
  .rename_i F1 h1 hr
   split at k
   .rename_i vs hvs;cases k;exact⟨n,_,_,_,hr,trivial,A2f.2 ⟨vs,hvs,q⟩⟩
   .cases k
  .cases k
 .rintro⟨n,e,F1,h1,k,he,hq⟩
  obtain⟨vs,hvs,q⟩:=A2f.1 hq
  cases e with
  |exit id=>exact he.elim
  |norm=>grind
  |ret=>grind
theorem Ad{g:Nat}{af:A4}{mm:Nat->Nat}(hx:V.ext g=none)(hf:V.fn g=some ⟨af,mm⟩){args:List VV}{Q:VV->Prop} :
  VP V g args Q↔Vc V mm af.body (Tm.ofList args) [] (fun e F' h'=>(match e with|.exit _=>False|_=>True)/\OK (mk (Cs F' h' af.results)) fun vs=>KB (mk (frz h' dF (Lt vs))) fun r _=>Q r):=by
 unfold VP
 simp_all[Ug,Hg,EA]
theorem JX{g:Nat}{af:A4}{mm:Nat->Nat}(hf:V.fn g=some ⟨af,mm⟩){args:List VV}{b:Nat}{Q:VV->VH->Prop} :
  VP1 V g args b Q↔Vc V mm af.body (Tm.ofList args) [] (fun e F' h'=>(match e with|.exit _=>False|_=>True)/\OK (mk (Cs F' h' af.results)) fun vs=>KB (mk (Bp h' dF b (Lt vs))) fun r T=>(T.moved.Nodup/\∀id∈T.moved,id∉T.frozen)/\Q r T.objs):=by
 simp_all[VP1,Ug,Hg,EA]
theorem G4{g:Nat}{af:A4}{mm:Nat->Nat}(hf:V.fnH g=some ⟨af,mm⟩){args:List VV}{Q:VV->VH->Prop} :
  Lx V g args h Q↔Vc V mm af.body (Tm.ofList args) h (fun e F' h'=>(match e with|.exit _=>False|_=>True)/\OK (mk (Cs F' h' af.results)) fun vs=>Q (Lt vs) h'):=by
 simp_all[Lx,Ug,EA]
theorem DG{g:Nat}{af:A4}{mm:Nat->Nat}(hf:V.fnH g=some ⟨af,mm⟩){args:List VV}{Q:VV->VH->Prop} :
  J7 V g args h Q↔Vc V mm af.body (Tm.ofList args) h (fun e F' h'=>(match e with|.exit _=>False|_=>True)/\OK (mk (Cs F' h' af.results)) fun vs=>KB (mk (frz h' dF (Lt vs))) fun r ids=>LT h.length h (Bw ids h')/\Q r ((Bw ids h').take h.length)):=by
 simp_all[J7,Ug,Hg,EA]
@[go_sem] theorem ArN (F:A3) (k:Nat) (v:VV):A3.tmp (Tm.set F k v) k=v:=by rw[J5,if_pos rfl]
@[go_sem] theorem ArO (F:A3) (k:Nat) (v:VV) {j:Nat} (h:(j==k)=false):A3.tmp (Tm.set F k v) j=A3.tmp F j:=by
 simp_all[J5]
attribute [go_sem] KZ Nat.reduceBeqDiff
def ZH(l:List VV)(j:Nat):VV:=match l[j]? with|some v=>v|none=>VV.nul
@[go_sem] theorem Aj9 (l:List VV) (j:Nat):A3.tmp (Tm.ofList l) j=ZH l j:=by
 grind[A3.tmp,ZH,Tm.get_ofList]
@[go_sem] theorem Aqc (j:Nat):ZH [] j=VV.nul:=by simp[ZH]
@[go_sem] theorem Anx (a:VV) (l:List VV):ZH (a::l) 0=a:=by simp[ZH]
@[go_sem] theorem Anw (a:VV) (l:List VV) (j:Nat):ZH (a::l) (j+1)=ZH l j:=by simp[ZH]
@[go_sem] theorem Amp (F:A3) (d:Nat) (v:VV):BM F (some d) v=Tm.set F d v:=rfl
@[go_sem] theorem Amo (F:A3) (v:VV):BM F none v=F:=rfl
@[go_sem] theorem A24 (F:A3) (n:Nat):A3.ev F (.t n)=A3.tmp F n:=rfl
@[go_sem] theorem Aj7 (F:A3) (v:AV):A3.ev F (.c v)=Kh v:=rfl
@[go_sem] theorem AmX (d:Nat):DS m (some d)=m d:=rfl
@[go_sem] theorem AmW:DS m none=2:=rfl
@[go_sem] theorem Au7 (x:Bool):Kh (.b x)=.b x:=rfl
@[go_sem] theorem AdU (k:IntKind) (n:Int):Kh (.i k n)=.i k n:=rfl
@[go_sem] theorem Au9 (x:ByteArray):Kh (.s x)=.s x:=rfl
@[go_sem] theorem Ar6 (w:BitVec 64):Kh (Wd w)=.i .u64 (w.toNat:Int):=rfl
@[go_sem] theorem Ara:Kh (.p none)=.np:=rfl
@[go_sem] theorem Ar9:Kh (.sl none 0)=.nl:=rfl
@[go_sem] theorem Ar8:Kh .nf=.nf:=rfl
@[go_sem] theorem Au8 (g:Nat) (a c:List AV):Kh (.f g a c)=.f g (CC a) (CC c):=rfl
@[go_sem] theorem Ar7 (c:List AV):Kh (.ag c)=.ag (CC c):=rfl
@[go_sem] theorem Arb (c:List AV):Kh (.tu c)=.tu (CC c):=rfl
@[go_sem] theorem An7:CC []=[]:=rfl
@[go_sem] theorem AlM (v:AV) (vs:List AV):CC (v::vs)=Kh v::CC vs:=rfl
@[go_sem] theorem Aq6 (x:Bool):(VV.b x).cells=[.b x]:=rfl
@[go_sem] theorem Aq8 (k:IntKind) (x:Int):(VV.i k x).cells=[.i k x]:=rfl
@[go_sem] theorem Aqa (x:ByteArray):(VV.s x).cells=[.s x]:=rfl
@[go_sem] theorem Anr:VV.nf.cells=[.nf]:=rfl
@[go_sem] theorem Anu:VV.np.cells=[.np]:=rfl
@[go_sem] theorem Ant:VV.nl.cells=[.nl]:=rfl
@[go_sem] theorem Aq9 (a b c d:Nat):(VV.p a b c d).cells=[.p a b c d]:=rfl
@[go_sem] theorem Anp (a:List VV) (c:Nat):(VV.fp a c).cells=[.fp a c]:=rfl
@[go_sem] theorem Anv (a b c d:Nat):(VV.sl a b c d).cells=[.sl a b c d]:=rfl
@[go_sem] theorem Anq (r:List (List VV)):(VV.ls r).cells=[.ls r]:=rfl
@[go_sem] theorem Aq7 (g:Nat) (a c:List VV):(VV.f g a c).cells=[.f g a c]:=rfl
@[go_sem] theorem Ano (l:List VV):(VV.ag l).cells=l:=rfl
@[go_sem] theorem Arz (x:Bool):(VV.b x).cell=true:=rfl
@[go_sem] theorem ArB (k:IntKind) (x:Int):(VV.i k x).cell=true:=rfl
@[go_sem] theorem ArD (x:ByteArray):(VV.s x).cell=true:=rfl
@[go_sem] theorem Aq2:VV.nf.cell=true:=rfl
@[go_sem] theorem Aq4:VV.np.cell=true:=rfl
@[go_sem] theorem Aq3:VV.nl.cell=true:=rfl
@[go_sem] theorem ArC (a b c d:Nat):(VV.p a b c d).cell=true:=rfl
@[go_sem] theorem Aq0 (a:List VV) (c:Nat):(VV.fp a c).cell=true:=rfl
@[go_sem] theorem Aq5 (a b c d:Nat):(VV.sl a b c d).cell=true:=rfl
@[go_sem] theorem Aq1 (r:List (List VV)):(VV.ls r).cell=true:=rfl
@[go_sem] theorem ArA (g:Nat) (a c:List VV):(VV.f g a c).cell=true:=rfl
@[go_sem] theorem Hr (a b:Nat):Nat.beq a b=decide (a=b):=by
 cases e:Nat.beq a b with
 |true=>rw[Nat.eq_of_beq_eq_true e];simp
 |false=>symm;rw[decide_eq_false_iff_not];rintro rfl;rw[Nat.beq_refl]at e;cases e
@[go_sem] theorem Q1 (a b:Nat):Nat.ble a b=decide (a<=b):=by
 grind[Nat.ble_eq]
@[go_sem] theorem A8k (a b:Nat):Nat.blt a b=decide (a<b):=Q1 _ _
def XG(k:Nat)(v:VV)(h:VH):Option (VV×VH):=match k with
 |2=>(match AL h.length v.cells with
   |(ws,os)=>(match v with
    |.ag _=>some (.ag ws,h++os)
    |.nl=>(match ws with | [w]=>some (w,h++os)|_=>none)
    |v=>some (v,h)))
 |5=>(match frz h dF v with
  |some (r,ids)=>some (r,Bw ids h)
  |none=>none)
 |_=>some (v,h)
@[go_sem ↓] theorem A8S {k:Nat} {x:Ar}:Df k (.mov x) F h=XG k (A3.ev F x) h:=rfl
@[go_sem] theorem Adm (v:VV):XG 0 v h=some (v,h):=rfl
@[go_sem] theorem AtV (v:VV):XG 5 v h=(match frz h 8 v with
  |some (r,ids)=>some (r,Bw ids h)
  |none=>none):=rfl
@[go_sem] theorem AtU (v:VV):XG 1 v h=some (v,h):=rfl
@[go_sem] theorem AqX:XG 2 .nl h=some (.sl h.length 0 0 0,h++[some { ty:=0,esz:=0,ver:=0,nl:=true,rows:=[] }]):=rfl
@[go_sem] theorem AqV (cs:List VV):XG 2 (.ag cs) h=some (.ag (AL h.length cs).1,h++(AL h.length cs).2):=rfl
@[go_sem] theorem AqY (a b c d:Nat):XG 2 (.sl a b c d) h=some (.sl a b c d,h):=rfl
@[go_sem] theorem AqW (l:List (List VV)):XG 2 (.ls l) h=some (.ls l,h):=rfl
@[go_sem] theorem AtW (k:IntKind) (n:Int):XG 2 (.i k n) h=some (.i k n,h):=rfl
def Ae8(c a b:VV)(h:VH):Option (VV×VH):=match c with
 |.b t=>some (bif t then a else b,h)
 |_=>none
@[go_sem ↓] theorem Aqf {k:Nat} {c a b:Ar}:Df k (.pick c a b) F h=Ae8 (A3.ev F c) (A3.ev F a) (A3.ev F b) h:=rfl
@[go_sem] theorem Arf (a b:VV):Ae8 (.b true) a b h=some (a,h):=rfl
@[go_sem] theorem Are (a b:VV):Ae8 (.b false) a b h=some (b,h):=rfl
def Afz(k ty n:Nat)(cs:List VV)(h:VH):Option (VV×VH):=
  bif Nat.beq cs.length n&&cs.all VV.cell then
   match k with
   |0=>(match Gt h cs with
    |some (cs',ids)=>some (.fp cs' 0,Bw ids h)
    |none=>none)
   |1=>some (.p h.length 0 0 0,h++[some { ty:=ty,esz:=0,ver:=0,nl:=false,rows:=[cs] }])
   |_=>(match AL h.length cs with
    |(ws,os)=>some (.p (h++os).length 0 0 0,h++os++[some { ty:=ty,esz:=0,ver:=0,nl:=false,rows:=[ws] }]))
  else none
@[go_sem ↓] theorem ArE {k ty n:Nat} {x:Ar}:Df k (.box ty n x) F h=Afz k ty n (A3.ev F x).cells h:=rfl
@[go_sem] theorem AsF (ty n:Nat) (cs:List VV):Afz 0 ty n cs h=bif decide (cs.length=n)&&cs.all VV.cell then(match Gt h cs with
        |some (cs',ids)=>some (.fp cs' 0,Bw ids h)
        |none=>none)else none:=by rw[<- Hr];rfl
@[go_sem] theorem AsG (ty n:Nat) (cs:List VV):Afz 1 ty n cs h=bif decide (cs.length=n)&&cs.all VV.cell then some (.p h.length 0 0 0,h++[some { ty:=ty,esz:=0,ver:=0,nl:=false,rows:=[cs] }])else none:=by rw[<- Hr];rfl
@[go_sem] theorem AsH (ty n:Nat) (cs:List VV):Afz 2 ty n cs h=bif decide (cs.length=n)&&cs.all VV.cell then some (.p (h++(AL h.length cs).2).length 0 0 0,h++(AL h.length cs).2++[some { ty:=ty,esz:=0,ver:=0,nl:=false,rows:=[(AL h.length cs).1] }])else none:=by rw[<- Hr];rfl
def agV(k:Nat)(r:Option (List VV))(h:VH):Option (VV×VH):=match r with
 |some cs=>(match k with
  |2=>(match AL h.length cs with|(ws,os)=>some (.ag ws,h++os))
  |_=>some (.ag cs,h))
 |none=>none
@[go_sem ↓] theorem Any {k:Nat} {z:List AV} {ps:List (Nat×Nat×Ar)}:Df k (.build z ps) F h=agV k (Er F (CC z) ps) h:=rfl
@[go_sem] theorem Ao6 (cs:List VV):agV 0 (some cs) h=some (.ag cs,h):=rfl
@[go_sem] theorem AmR (cs:List VV):agV 1 (some cs) h=some (.ag cs,h):=rfl
@[go_sem] theorem AmS (cs:List VV):agV 2 (some cs) h=some (.ag (AL h.length cs).1,h++(AL h.length cs).2):=rfl
def AjB(k ty esz len:Nat)(r:Option (List VV))(h:VH):Option (VV×VH):=match r with
  |some cs=>bif Nat.beq cs.length (len * esz)&&Nat.blt 0 esz&&cs.all VV.cell then
    match k with
    |0=>(match A4d h (CV esz len cs)with
     |some (rs,ids)=>some (.ls rs,Bw ids h)
     |none=>none)
    |_=>some (.sl h.length 0 0 len,h++[some { ty:=ty,esz:=esz,ver:=0,nl:=false,rows:=CV esz len cs }])
   else none
  |none=>none
@[go_sem ↓] theorem ArF {k ty esz len:Nat} {z:List AV} {ps:List (Nat×Nat×Ar)}:Df k (.bsl ty esz len z ps) F h=AjB k ty esz len (Er F (CC z) ps) h:=rfl
@[go_sem] theorem AsI (ty esz len:Nat) (cs:List VV):AjB 0 ty esz len (some cs) h=bif decide (cs.length=len * esz)&&decide (0<esz)&&cs.all VV.cell then(match A4d h (CV esz len cs)with
          |some (rs,ids)=>some (.ls rs,Bw ids h)
          |none=>none)else none:=by rw[<- Hr,<- A8k];rfl
@[go_sem] theorem AsJ (ty esz len:Nat) (cs:List VV):AjB 1 ty esz len (some cs) h=bif decide (cs.length=len * esz)&&decide (0<esz)&&cs.all VV.cell then some (.sl h.length 0 0 len,h++[some { ty:=ty,esz:=esz,ver:=0,nl:=false,rows:=CV esz len cs }])else none:=by rw[<- Hr,<- A8k];rfl
def stV(n:Nat)(a:VV)(cs:List VV)(h:VH):Option (VV×VH):=
  bif Nat.beq cs.length n then(match vst h a cs with|some h'=>some (VV.nul,h')|none=>none)else none
@[go_sem ↓] theorem AuI {k n:Nat} {a x:Ar}:Df k (.st n a x) F h=stV n (A3.ev F a) (A3.ev F x).cells h:=rfl
def stO(id r c:Nat)(cs:List VV)(h:VH)(o:Option VO):Option (VV×VH):=match o with
 |some o=>(match o.rows[r]? with
   |some row=>bif Nat.ble (c+cs.length) row.length&&cs.all VV.cell then some (VV.nul,h.set id (some { o with rows:=o.rows.set r (Ep row c cs) }))else none
   |none=>none)
 |none=>none
@[go_sem] theorem Avw (n id ver r c:Nat) (cs:List VV):stV n (.p id ver r c) cs h=bif decide (cs.length=n)then stO id r c cs h (Cf h id ver)else none:=by
 rw[<- Hr]
 unfold stV stO vst
 grind
@[go_sem] theorem ApB (id r c:Nat) (cs:List VV) (o:VO):stO id r c cs h (some o)=(match o.rows[r]? with
      |some row=>bif decide (c+cs.length<=row.length)&&cs.all VV.cell then some (VV.nul,h.set id (some { o with rows:=o.rows.set r (Ep row c cs) }))else none
      |none=>none):=by
  unfold stO
  simp only[Q1]
def A8n(v:VV)(h:VH):Option (VV×VH):=match v with
  |.p id ver r c=>some (.p id ver r c,h)
  |.fp cells c=>some (.fp cells c,h)
  |.f g a c=>some (.f g a c,h)
  |_=>none
@[go_sem ↓] theorem Aqe {k:Nat} {x:Ar}:Df k (.nilc x) F h=A8n (A3.ev F x) h:=rfl
@[go_sem] theorem Ar4 (id ver r c:Nat):A8n (.p id ver r c) h=some (.p id ver r c,h):=rfl
@[go_sem] theorem Ape (l:List VV) (c:Nat):A8n (.fp l c) h=some (.fp l c,h):=rfl
@[go_sem] theorem Ar3 (g:Nat) (a c:List VV):A8n (.f g a c) h=some (.f g a c,h):=rfl
def Apf(v:VV)(h:VH):Option (VV×VH):=match v with|.b t=>some (.b (!t),h)|_=>none
@[go_sem ↓] theorem ArM {k:Nat} {x:Ar}:Df k (.not x) F h=Apf (A3.ev F x) h:=rfl
@[go_sem] theorem Au6 (t:Bool):Apf (.b t) h=some (.b (!t),h):=rfl
def Apb(v:VV)(h:VH):Option (VV×VH):=match v with|.i k n=>some (.i k (k.wrap (0-n)),h)|_=>none
@[go_sem ↓] theorem ArL {k:Nat} {x:Ar}:Df k (.neg x) F h=Apb (A3.ev F x) h:=rfl
@[go_sem] theorem Au5 (k:IntKind) (n:Int):Apb (.i k n) h=some (.i k (k.wrap (0-n)),h):=rfl
def Abk(k:IntKind)(v:VV)(h:VH):Option (VV×VH):=match v with|.i _ n=>some (.i k (k.wrap n),h)|_=>none
@[go_sem ↓] theorem Aqd {k:Nat} {i:IntKind} {x:Ar}:Df k (.conv i x) F h=Abk i (A3.ev F x) h:=rfl
@[go_sem] theorem AqH (k i:IntKind) (n:Int):Abk k (.i i n) h=some (.i k (k.wrap n),h):=rfl
def Ap9(m ty esz bytes:Nat)(zero:List AV)(l c:VV)(h:VH):Option (VV×VH):=match l,c with
  |.i .i64 n,.i .i64 k=>
   if 0<=n/\n<=k/\k.toNat * bytes<=A6 then
    bif Nat.beq zero.length esz&&Nat.blt 0 esz&&(CC zero).all VV.cell then
     match m with
     |0=>(match Gt [] (CC zero)with
      |some (z,_)=>some (.ls (List.replicate n.toNat z),h)
      |none=>none)
     |_=>some (.sl h.length 0 0 n.toNat,h++[some { ty:=ty,esz:=esz,ver:=0,nl:=false,rows:=List.replicate n.toNat (CC zero) }])
    else none
   else none
  |_,_=>none
@[go_sem ↓] theorem ArJ {k ty esz bytes:Nat} {z:List AV} {l c:Ar}:Df k (.mks ty esz bytes z l c) F h=Ap9 k ty esz bytes z (A3.ev F l) (A3.ev F c) h:=rfl
attribute [go_sem] Ap9
def faV(off:Nat)(v:VV)(h:VH):Option (VV×VH):=match v with
  |.p id ver r c=>some (.p id ver r (c+off),h)
  |.fp cells c=>some (.fp cells (c+off),h)
  |_=>none
@[go_sem ↓] theorem AuF {k off:Nat} {x:Ar}:Df k (.fa off x) F h=faV off (A3.ev F x) h:=rfl
@[go_sem] theorem Avh (off id ver r c:Nat):faV off (.p id ver r c) h=some (.p id ver r (c+off),h):=rfl
@[go_sem] theorem Att (off:Nat) (l:List VV) (c:Nat):faV off (.fp l c) h=some (.fp l (c+off),h):=rfl
def iaV(esz:Nat)(x i:VV)(h:VH):Option (VV×VH):=match x,i with
  |.ls rows,.i _ n=>if 0<=n then(match rows[n.toNat]? with
   |some row=>bif Nat.beq row.length esz then some (.fp row 0,h)else none
   |none=>none)else none
  |.sl id ver off len,.i _ n=>if 0<=n/\n<len then(match Cf h id ver with
   |some o=>bif Nat.beq o.esz esz&&!o.nl then some (.p id ver (off+n.toNat) 0,h)else none
   |none=>none)else none
  |_,_=>none
@[go_sem ↓] theorem AuG {k esz:Nat} {x i:Ar}:Df k (.ia esz x i) F h=iaV esz (A3.ev F x) (A3.ev F i) h:=rfl
def iaR(esz:Nat)(row:Option (List VV))(h:VH):Option (VV×VH):=match row with
      |some row=>bif decide (row.length=esz)then some (.fp row 0,h)else none
      |none=>none
@[go_sem] theorem AoL (esz:Nat) (row:List VV):iaR esz (some row) h=bif decide (row.length=esz)then some (.fp row 0,h)else none:=rfl
@[go_sem] theorem AtI (esz:Nat) (rows:List (List VV)) (k:IntKind) (n:Int):iaV esz (.ls rows) (.i k n) h=if 0<=n then iaR esz rows[n.toNat]? h else none:=by
 simp only[iaV,iaR,Hr]
@[go_sem] theorem AtJ (esz id ver off len:Nat) (k:IntKind) (n:Int):iaV esz (.sl id ver off len) (.i k n) h=if 0<=n/\n<len then(match Cf h id ver with
      |some o=>bif decide (o.esz=esz)&&!o.nl then some (.p id ver (off+n.toNat) 0,h)else none
      |none=>none)else none:=by
  simp only[iaV,Hr]
def Akf(len esz:Nat)(x i:VV)(h:VH):Option (VV×VH):=match x,i with
  |.p id ver r c,.i _ n=>if 0<=n/\n<len then some (.p id ver r (c+n.toNat * esz),h)else none
  |.fp cells c,.i _ n=>if 0<=n/\n<len then some (.fp cells (c+n.toNat * esz),h)else none
  |_,_=>none
@[go_sem ↓] theorem ArH {k len esz:Nat} {x i:Ar}:Df k (.iaa len esz x i) F h=Akf len esz (A3.ev F x) (A3.ev F i) h:=rfl
@[go_sem] theorem AtK (len esz id ver r c:Nat) (k:IntKind) (n:Int):Akf len esz (.p id ver r c) (.i k n) h=if 0<=n/\n<len then some (.p id ver r (c+n.toNat * esz),h)else none:=rfl
@[go_sem] theorem AqQ (len esz:Nat) (l:List VV) (c:Nat) (k:IntKind) (n:Int):Akf len esz (.fp l c) (.i k n) h=if 0<=n/\n<len then some (.fp l (c+n.toNat * esz),h)else none:=rfl
def ixV(x i:VV)(h:VH):Option (VV×VH):=match x,i with
  |.s s,.i _ n=>if 0<=n then(match s.data.toList[n.toNat]? with|some b=>some (.i .u8 b.toNat,h)|none=>none)else none
  |_,_=>none
@[go_sem ↓] theorem AuH {k:Nat} {x i:Ar}:Df k (.ix x i) F h=ixV (A3.ev F x) (A3.ev F i) h:=rfl
@[go_sem] theorem Avr (s:ByteArray) (k:IntKind) (n:Int):ixV (.s s) (.i k n) h=if 0<=n then(match s.data.toList[n.toNat]? with|some b=>some (.i .u8 b.toNat,h)|none=>none)else none:=rfl
def Aow(v:VV)(i:Nat)(h:VH):Option (VV×VH):=match v with
  |.tu vs=>(match vs[i]? with|some v=>some (v,h)|none=>none)
  |_=>none
@[go_sem ↓] theorem ArG {k i:Nat} {x:Ar}:Df k (.ext x i) F h=Aow (A3.ev F x) i h:=rfl
@[go_sem] theorem AqM (vs:List VV) (i:Nat):Aow (.tu vs) i h=(match vs[i]? with|some v=>some (v,h)|none=>none):=rfl
def AcL(s:Bool)(v:VV)(h:VH):Option (VV×VH):=match s,v with
  |true,.s s=>some (.i .i64 s.size,h)
  |false,x=>(match M1 x with|some n=>some (.i .i64 n,h)|none=>none)
  |_,_=>none
@[go_sem ↓] theorem ArI {k:Nat} {s:Bool} {x:Ar}:Df k (.len s x) F h=AcL s (A3.ev F x) h:=by cases s<;>rfl
@[go_sem] theorem AtQ (s:ByteArray):AcL true (.s s) h=some (.i .i64 s.size,h):=rfl
@[go_sem] theorem AqR (r:List (List VV)):AcL false (.ls r) h=some (.i .i64 r.length,h):=rfl
@[go_sem] theorem AqS:AcL false .nl h=some (.i .i64 (0:Nat),h):=rfl
@[go_sem] theorem AqT (a b c n:Nat):AcL false (.sl a b c n) h=some (.i .i64 n,h):=rfl
def AlF(mx:Bool)(x y:VV)(h:VH):Option (VV×VH):=match x,y with
  |.i k a,.i k' c=>if k=k' then some (.i k (XF mx a c),h)else none
  |_,_=>none
@[go_sem ↓] theorem ArK {k:Nat} {mx:Bool} {x y:Ar}:Df k (.mnx mx x y) F h=AlF mx (A3.ev F x) (A3.ev F y) h:=rfl
@[go_sem] theorem AtT (mx:Bool) (k:IntKind) (a c:Int):AlF mx (.i k a) (.i k c) h=some (.i k (XF mx a c),h):=by simp only[AlF,if_true]
def ldR(n:Option Nat)(c:Nat)(row:List VV):Option VV:=match n with
  |none=>row[c]?
  |some n=>bif decide (c+n<=row.length)then some (.ag ((row.drop c).take n))else none
@[go_sem] theorem Ap3 (c:Nat) (row:List VV):ldR none c row=row[c]?:=rfl
@[go_sem] theorem Ap4 (n c:Nat) (row:List VV):ldR (some n) c row=bif decide (c+n<=row.length)then some (.ag ((row.drop c).take n))else none:=rfl
@[go_sem] theorem AuE (n:Option Nat) (cells:List VV) (c:Nat):vld h n (.fp cells c)=ldR n c cells:=by
 grind[vld,A5L,ldR,Q1]
def ldO(n:Option Nat)(r c:Nat)(o:Option VO):Option VV:=match o with
 |some o=>(match o.rows[r]? with
  |some row=>ldR n c row
  |none=>none)
 |none=>none
@[go_sem] theorem AvF (n:Option Nat) (id ver r c:Nat):vld h n (.p id ver r c)=ldO n r c (Cf h id ver):=by
 unfold vld A5L ldO
 grind[ldR,Q1]
@[go_sem] theorem Ap2 (n:Option Nat) (r c:Nat) (o:VO):ldO n r c (some o)=(match o.rows[r]? with
  |some row=>ldR n c row
  |none=>none):=rfl
attribute [go_sem] Er Ep Cf M1 AL CV Cs Lt
attribute [go_sem] Nat.reduceEqDiff Nat.reduceLeDiff Nat.reduceLT Nat.reduceAdd Nat.reduceMul Nat.reduceSub Nat.lt_irrefl
attribute [go_sem] List.getElem?_cons_zero List.getElem?_cons_succ List.getElem?_nil List.set_cons_zero List.set_cons_succ List.getElem?_map List.length_map List.length_append List.flatten_cons
@[go_sem] theorem AoB (h:VH) (vs:List VV):Gt h vs=B5 (frz h 8) vs:=rfl
@[go_sem] theorem AoC (h:VH) (vs:List (List VV)):A4d h vs=B5 (fun row=>B5 (frz h 8) row) vs:=rfl
attribute [go_sem] B5
section
variable {d:Nat}
@[go_sem] theorem Avj (x:Bool):frz h (d+1) (.b x)=some (.b x,[]):=rfl
@[go_sem] theorem Avl (k:IntKind) (x:Int):frz h (d+1) (.i k x)=some (.i k x,[]):=rfl
@[go_sem] theorem Avn (x:ByteArray):frz h (d+1) (.s x)=some (.s x,[]):=rfl
@[go_sem] theorem AtA:frz h (d+1) .nf=some (.nf,[]):=rfl
@[go_sem] theorem AtC:frz h (d+1) .np=some (.np,[]):=rfl
@[go_sem] theorem AtB:frz h (d+1) .nl=some (.ls [],[]):=rfl
@[go_sem] theorem Atz (r:List (List VV)):frz h (d+1) (.ls r)=some (.ls r,[]):=rfl
@[go_sem] theorem Aty (r:List VV) (c:Nat):frz h (d+1) (.fp r c)=some (.fp r c,[]):=rfl
@[go_sem] theorem Avm (id ver r c:Nat):frz h (d+1) (.p id ver r c)=(match Cf h id ver with
      |some o=>(match o.rows[r]? with
        |some row=>(match B5 (frz h d) row with
          |some (cs,ids)=>some (.fp cs c,id::ids)
          |none=>none)
        |none=>none)
      |none=>none):=rfl
@[go_sem] theorem AtD (id ver off n:Nat):frz h (d+1) (.sl id ver off n)=(match Cf h id ver with
      |some o=>bif Nat.ble (off+n) o.rows.length&&(Nat.blt 0 o.esz||o.nl)then
          (match B5 (fun row=>B5 (frz h d) row) ((o.rows.drop off).take n)with
          |some (rs,ids)=>some (.ls rs,id::ids)
          |none=>none)else none
      |none=>none):=rfl
@[go_sem] theorem Avk (g:Nat) (a c:List VV):frz h (d+1) (.f g a c)=(match B5 (frz h d) a,B5 (frz h d) c with
      |some (a',i1),some (c',i2)=>some (.f g a' c',i1++i2)
      |_,_=>none):=rfl
@[go_sem] theorem Atx (cs:List VV):frz h (d+1) (.ag cs)=(match B5 (frz h d) cs with
      |some (cs',is)=>some (.ag cs',is)
      |none=>none):=rfl
@[go_sem] theorem AtE (cs:List VV):frz h (d+1) (.tu cs)=(match B5 (frz h d) cs with
      |some (cs',is)=>some (.tu cs',is)
      |none=>none):=rfl
end
@[go_sem] theorem P1 {α β:Type} {f:α->β} {g:β->Option (β×List Nat)} {l:List α} (hg:∀x,g (f x)=some (f x,[])):B5 g (l.map f)=some (l.map f,[]):=by
 induction l with
 |nil=>rfl
 |cons x xs ih=>grind[B5]
@[go_sem] theorem Ap5 {β:Type} {z:β} {g:β->Option (β×List Nat)} {n:Nat} (hg:g z=some (z,[])):B5 g (List.replicate n z)=some (List.replicate n z,[]):=by
 induction n with
 |zero=>rfl
 |succ n ih=>grind[B5]
@[go_sem] theorem AoP (h:VH):Bw [] h=h:=rfl
@[go_sem] theorem An0 (i:Nat) (l:List Nat) (h:VH):Bw (i::l) h=Bw l (h.set i none):=rfl
@[go_sem] theorem Auh (x:Bool):scal (.b x)=true:=rfl
@[go_sem] theorem Auj (k:IntKind) (x:Int):scal (.i k x)=true:=rfl
@[go_sem] theorem Auk (x:ByteArray):scal (.s x)=true:=rfl
@[go_sem] theorem Arj:scal .nf=true:=rfl
@[go_sem] theorem Ark:scal .np=true:=rfl
@[go_sem] theorem Ari (r:List (List VV)):scal (.ls r)=false:=rfl
@[go_sem] theorem Arh (r:List VV) (c:Nat):scal (.fp r c)=false:=rfl
@[go_sem] theorem Arg (r:List VV):scal (.ag r)=false:=rfl
@[go_sem] theorem Aui (g:Nat) (a c:List VV):scal (.f g a c)=false:=rfl
@[go_sem] theorem Arl (r:List VV):scal (.tu r)=MI r:=rfl
@[go_sem] theorem Anc:MI []=true:=rfl
@[go_sem] theorem Am3 (v:VV) (r:List VV):MI (v::r)=(scal v&&MI r):=rfl
@[go_sem] theorem AmV {α:Type} (b:Bool) (x:α):(bif b then x else x)=x:=by cases b<;>rfl
@[go_sem] theorem AlP {α:Type} {f:α->List VV} {e:Nat} {l:List α} (hf:∀x,(f x).length=e):DH e (l.map f)=true:=by
 unfold DH
 simp_all
@[go_sem] theorem AlQ {e:Nat}:DH e []=true:=rfl
@[go_sem] theorem AiU {e:Nat} (r:List VV) (rs:List (List VV)):DH e (r::rs)=(Nat.beq r.length e&&DH e rs):=rfl
@[go_sem] theorem AlR {e n:Nat} {z:List VV} (hz:z.length=e):DH e (List.replicate n z)=true:=by
 grind[DH,Nat.beq_refl]
attribute [go_sem] NH Aav Sb
@[go_sem] theorem An2 {α β:Type} (f:α->β) (n:Nat) (l:List α):(l.map f).drop n=(l.drop n).map f:=(List.map_drop ..).symm
@[go_sem] theorem An3 {α β:Type} (f:α->β) (n:Nat) (l:List α):(l.map f).take n=(l.take n).map f:=(List.map_take ..).symm
@[go_sem] theorem Anf {α:Type} (l:List α):l.take l.length=l:=List.take_length
attribute [go_sem] drop_zero length_cons length_nil all_cons List.all_nil List.take_succ_cons List.take_zero List.drop_succ_cons List.take_nil List.drop_nil Nat.zero_add Nat.add_zero Nat.le_refl Nat.sub_zero Nat.zero_le List.length_replicate List.length_take List.length_drop
@[go_sem] theorem AhC (L:Nat) (h:VH):LT L [] h=True:=by cases h<;>rfl
def okB(L:Nat)(o':Option VO):Bool:=match o' with|none=>true|some x=>x.rows.all (CK L)
@[go_sem] theorem Apl (L:Nat):okB L none=true:=rfl
@[go_sem] theorem Apm (L:Nat) (x:VO):okB L (some x)=x.rows.all (CK L):=rfl
@[go_sem] theorem Hh {α:Type} {f:α->List VV} {L:Nat} {l:List α} (hf:∀x,CK L (f x)=true):(l.map f).all (CK L)=true:=by
 grind
@[go_sem] theorem Ain {L n:Nat} {z:List VV} (hf:CK L z=true):(List.replicate n z).all (CK L)=true:=by
 grind
@[go_sem] theorem A1u (L:Nat) (o o':Option VO) (h h':VH):LT L (o::h) (o'::h')=((o=o'\/okB L o'=true)/\LT L h h'):=by
 show((o=o'\/∀x,o'=some x->x.rows.all (CK L)=true)/\LT L h h')=_
 congr 2
 apply propext
 cases o' with
 |none=>simp[okB]
 |some x=>simp[okB]
def Fz(a:List VV):Prop:=∀h d,B5 (frz h (d+3)) a=some (a,[])
theorem A1b{α:Type}{f:α->Option (α×List Nat)}:∀{a b:List α},B5 f a=some (a,[])->B5 f b=some (b,[])->B5 f (a++b)=some (a++b,[]):=by
 intro a
 induction a with
 |nil=>intro b _ h;exact h
 |cons x xs ih=>
  intro b h1 h2
  simp only[B5]at h1
  split at h1
  .rename_i y i ys is e1 e2
   simp only[Option.some.injEq,Prod.mk.injEq,List.cons.injEq,List.append_eq_nil_iff]at h1
   obtain⟨⟨rfl,rfl⟩,rfl,rfl⟩:=h1
   grind[B5]
  .cases h1
theorem Fz.call{a c x:List VV}(ha:Fz a)(hc:Fz c){h:VH}(hx:B5 (frz h 8) x=some (x,[])):B5 (frz h 8) (a++x++c)=some (a++x++c,[]):=A1b (A1b (ha h 5) hx) (hc h 5)
theorem Kc{L:Nat}{h:VH}{d:Nat}:∀{a:List VV},B5 (frz h d) a=some (a,[])->(∀v,frz h d v=some (v,[])->bel L v=true)->CK L a=true:=by
 intro a
 induction a with
 |nil=>intro _ _;rfl
 |cons x xs ih=>
  intro h1 h2
  simp only[B5]at h1
  split at h1
  .rename_i y i ys is e1 e2
   simp only[Option.some.injEq,Prod.mk.injEq,List.cons.injEq,List.append_eq_nil_iff]at h1
   obtain⟨⟨rfl,rfl⟩,rfl,rfl⟩:=h1
   grind[CK]
  .cases h1
theorem A6A{L:Nat}{h:VH}:∀{d:Nat} {v:VV},frz h d v=some (v,[])->bel L v=true:=by
 intro d
 induction d with
 |zero=>intro v e;simp[frz]at e
 |succ d ih=>
  intro v e
  cases v with
  |p id ver r c=>
   grind[frz]
  |sl id ver off n=>
   simp only[frz]at e
   grind
  |f g a c=>
   simp only[frz]at e
   split at e
   .rename_i a' i1 c' i2 h1 h2
    simp only[Option.some.injEq,Prod.mk.injEq,VV.f.injEq,true_and,List.append_eq_nil_iff]at e
    obtain⟨⟨rfl,rfl⟩,rfl,rfl⟩:=e
    grind[bel,Kc]
   .cases e
  |ag cs=>
   simp only[frz]at e
   split at e
   .rename_i cs' is h1
    simp only[Option.some.injEq,Prod.mk.injEq,VV.ag.injEq]at e
    obtain⟨rfl,rfl⟩:=e
    grind[bel,Kc]
   .cases e
  |tu cs=>
   simp only[frz]at e
   split at e
   .rename_i cs' is h1
    simp only[Option.some.injEq,Prod.mk.injEq,VV.tu.injEq]at e
    obtain⟨rfl,rfl⟩:=e
    grind[bel,Kc]
   .cases e
  |_=>rfl
theorem Fz.bel{L:Nat}{a:List VV}(ha:Fz a):CK L a=true:=Kc (ha [] 0) fun v=>A6A
theorem Fz.nil:Fz []:=fun _ _=>rfl
@[go_sem] theorem Fz.eq {a:List VV} (ha:Fz a) {h:VH} {d:Nat}:B5 (frz h (d+3)) a=some (a,[]):=ha h d
@[go_sem] theorem A1v (L:Nat) (h g:VH):LT L h (h++g)=True:=by
 induction h with
 |nil=>simp only[AhC]
 |cons o h ih=>simp only[cons_append,A1u,ih,true_or,true_and]
@[go_sem] theorem Apo (L:Nat) (h:VH):LT L h h=True:=by
 have:=A1v L h []
 rwa [append_nil]at this
@[go_sem] theorem Avb (L:Nat) (x:Bool):Mi L (.b x)=.b x:=rfl
@[go_sem] theorem Aip (L:Nat) (k:IntKind) (x:Int):Mi L (.i k x)=.i k x:=rfl
@[go_sem] theorem Avd (L:Nat) (x:ByteArray):Mi L (.s x)=.s x:=rfl
@[go_sem] theorem AsS (L:Nat):Mi L .nf=.nf:=rfl
@[go_sem] theorem AsU (L:Nat):Mi L .np=.np:=rfl
@[go_sem] theorem AsT (L:Nat):Mi L .nl=.nl:=rfl
@[go_sem] theorem AsR (L:Nat) (r:List (List VV)):Mi L (.ls r)=.ls r:=rfl
@[go_sem] theorem AsQ (L:Nat) (r:List VV) (c:Nat):Mi L (.fp r c)=.fp r c:=rfl
@[go_sem] theorem Aoi (L:Nat):Mi L VV.nul=VV.nul:=A63 L
@[go_sem] theorem Avc (L id ver r c:Nat):Mi L (.p id ver r c)=(bif Nat.blt id L then .p id ver r c else .un):=rfl
@[go_sem] theorem AsV (L id ver r c:Nat):Mi L (.sl id ver r c)=(bif Nat.blt id L then .sl id ver r c else .un):=rfl
@[go_sem] theorem AsP (L:Nat) (l:List VV):Mi L (.ag l)=(bif CK L l then .ag l else .un):=rfl
@[go_sem] theorem Abe (L g:Nat) (a c:List VV):Mi L (.f g a c)=(bif CK L a&&CK L c then .f g a c else .un):=rfl
attribute [go_sem] bel CK
section
variable {e:Option Pk}{k:IntKind}{a c:Int}
@[go_sem] theorem A22:B9 .add e (.i k a) (.i k c)=some (.i k (k.wrap (a+c))):=by simp[B9,Bg,G6,Gx]
@[go_sem] theorem ApZ:B9 .sub e (.i k a) (.i k c)=some (.i k (k.wrap (a-c))):=by simp[B9,Bg,G6,Gx]
@[go_sem] theorem ApV:B9 .mul e (.i k a) (.i k c)=some (.i k (k.wrap (a * c))):=by simp[B9,Bg,G6,Gx]
theorem AeF(h:c≠0):B9 .quo e (.i k a) (.i k c)=some (.i k (k.wrap (a.tdiv c))):=by simp[B9,Bg,G6,h,Gx]
theorem H8(h:c≠0):B9 .rem e (.i k a) (.i k c)=some (.i k (a.tmod c)):=by simp[B9,Bg,G6,h,Gx]
@[go_sem] theorem ApP:B9 .eql e (.i k a) (.i k c)=some (.b (decide (a=c))):=by simp only[B9,A0a,bind_some,Gx]
@[go_sem] theorem ApW:B9 .neq e (.i k a) (.i k c)=some (.b (!decide (a=c))):=by simp only[B9,A0b,bind_some,Gx]
@[go_sem] theorem AeE:B9 .lss e (.i k a) (.i k c)=some (.b (decide (a<c))):=by simp only[B9,Ab4,bind_some,Gx]
@[go_sem] theorem ApU:B9 .leq e (.i k a) (.i k c)=some (.b (decide (a<=c))):=by simp only[B9,Ab3,bind_some,Gx]
@[go_sem] theorem ApT:B9 .gtr e (.i k a) (.i k c)=some (.b (decide (c<a))):=by simp only[B9,Ab2,bind_some,Gx]
@[go_sem] theorem ApS:B9 .geq e (.i k a) (.i k c)=some (.b (decide (c<=a))):=by simp only[B9,Ab1,bind_some,Gx]
@[go_sem] theorem Ank (x y:Bool):B9 .eql (some .b) (.b x) (.b y)=some (.b (x==y)):=rfl
@[go_sem] theorem Anm (x y:Bool):B9 .neq (some .b) (.b x) (.b y)=some (.b (!(x==y))):=rfl
@[go_sem] theorem Anl (x y:ByteArray):B9 .eql e (.s x) (.s y)=some (.b (decide (x=y))):=by simp only[B9,A9m,bind_some,Gx]
@[go_sem] theorem Ann (x y:ByteArray):B9 .neq e (.s x) (.s y)=some (.b (!decide (x=y))):=by simp only[B9,A9n,bind_some,Gx]
@[go_sem] theorem ApX:B9 .eql (some .p) .np .np=some (.b true):=rfl
@[go_sem] theorem ApY:B9 .neq (some .p) .np .np=some (.b false):=rfl
@[go_sem] theorem Arx (i v r c:Nat):B9 .eql (some .p) (.p i v r c) .np=some (.b false):=rfl
@[go_sem] theorem Ary (i v r c:Nat):B9 .neq (some .p) (.p i v r c) .np=some (.b true):=rfl
@[go_sem] theorem ApQ (l:List VV) (c:Nat):B9 .eql (some .p) (.fp l c) .np=some (.b false):=rfl
@[go_sem] theorem ApR (l:List VV) (c:Nat):B9 .neq (some .p) (.fp l c) .np=some (.b true):=rfl
theorem AeH{i v o n:Nat}(h:0<n):B9 .eql (some .s) (.sl i v o n) .nl=some (.b false):=by
 cases n with
 |zero=>omega
 |succ n=>rfl
@[go_sem] theorem Arw:B9 .eql (some .s) .nl .nl=some (.b true):=rfl
def vW(w:BitVec 64):VV:=.i .u64 (w.toNat:Int)
variable {x y:BitVec 64}
@[go_sem] theorem Auz:VV.i .u64 (x.toNat:Int)=vW x:=rfl
@[go_sem] theorem Aws:VV.i .u64 0=vW 0#64:=rfl
@[go_sem] theorem Awt:VV.i .u64 1=vW 1#64:=rfl
theorem Sa{op:BinOp}{w:BitVec 64}(hb:Bg op e (Wd x) (Wd y)=some (Wd w)):B9 op e (vW x) (vW y)=some (vW w):=by
 show(Bg op e (Wd x) (Wd y)).bind Gx=_
 rw[hb];rfl
theorem A8R{op:BinOp}{w:Bool}(hb:Bg op e (Wd x) (Wd y)=some (.b w)):B9 op e (vW x) (vW y)=some (.b w):=by
 show(Bg op e (Wd x) (Wd y)).bind Gx=_
 rw[hb];rfl
@[go_sem] theorem Aux:B9 .and e (vW x) (vW y)=some (vW (x&&&y)):=Sa A0c
@[go_sem] theorem AvE:B9 .or e (vW x) (vW y)=some (vW (x|||y)):=Sa Afx
@[go_sem] theorem Ani:B9 .andNot e (vW x) (vW y)=some (vW (x&&&~~~y)):=Sa A0d
@[go_sem] theorem AuD:B9 .sub e (vW x) (vW y)=some (vW (x-y)):=Sa Abb
@[go_sem] theorem Auw:B9 .add e (vW x) (vW y)=some (vW (x+y)):=Sa Ab6
@[go_sem] theorem AuA:B9 .eql e (vW x) (vW y)=some (.b (decide (x=y))):=A8R Ab7
@[go_sem] theorem AuC:B9 .neq e (vW x) (vW y)=some (.b (!decide (x=y))):=A8R Ab8
theorem Amh{n:Nat}(h:n<64):B9 .shl e (vW x) (.i .i64 n)=some (vW (x<<<n)):=by
 show(Bg .shl e (Wd x) (.i .i64 n)).bind Gx=_
 rw[Ab9 h];rfl
@[go_sem] theorem Arq:(vW x).cell=true:=rfl
@[go_sem] theorem ApO:(vW x).cells=[vW x]:=rfl
@[go_sem] theorem AuB {d:Nat}:frz h (d+1) (vW x)=some (vW x,[]):=rfl
@[go_sem] theorem Arr:scal (vW x)=true:=rfl
@[go_sem] theorem Auy {L:Nat}:bel L (vW x)=true:=rfl
@[go_sem] theorem AvD {L:Nat}:Mi L (vW x)=vW x:=rfl
end
def A5I:List VV->Option VV
 | [.i .u64 n]=>if 0<=n/\n<18446744073709551616 then some (.i .i64 (Lib.ctz 64 n.toNat:Nat))else none
 |_=>none
def ZP(F:A3)(h:VH)(d:Nat)(n:Option Nat)(a:Nat):Prop:=CJ (A3.tmp F d)=true/\vld h n (A3.tmp F a)=some (A3.tmp F d)
def A9o(v:VV)(w:Bool)(P:Prop):Prop:=match v with
 |.b x=>(bif x==w then P else True)
 |.tu []=>True
 |_=>False
@[go_sem] theorem AqG {P:Prop}:A9o (.b true) true P↔P:=Iff.rfl
@[go_sem] theorem AqD {P:Prop}:A9o (.b false) false P↔P:=Iff.rfl
@[go_sem] theorem AqF {P:Prop}:A9o (.b true) false P↔True:=Iff.rfl
@[go_sem] theorem AqE {P:Prop}:A9o (.b false) true P↔True:=Iff.rfl
@[go_sem] theorem Aoh {w:Bool} {P:Prop}:A9o VV.nul w P↔True:=Iff.rfl
@[go_sem ↓] theorem Ai5 {L:JP}:C3 F h L []↔True:=Iff.rfl
@[go_sem ↓] theorem Amq {L:JP} {d a:Nat} {n:Option Nat} {r:List Ay}:C3 F h L (o d (.ld n (.t a))::r)↔((d,n,a)∈L\/ZP F h d n a)/\C3 F h L r:=Iff.rfl
@[go_sem ↓] theorem Aj8 {L:JP} {d t a:Nat} {w:Bool} {n:Option Nat} {r:List Ay}:C3 F h L (og d t w (.ld n (.t a))::r)↔A9o (A3.tmp F t) w ((d,n,a)∈L\/ZP F h d n a)/\C3 F h L r:=by
 show(match Cv F (some (t,w))with|some false=>True|some true=>_|none=>False)/\_↔_
 refine and_congr ?_ Iff.rfl
 simp only[Cv]
 generalize A3.tmp F t=v
 cases v with
 |b x=>cases x<;>cases w<;>exact Iff.rfl
 |tu vs=>cases vs<;>exact Iff.rfl
 |_=>exact Iff.rfl
attribute [go_sem] NG M2 Dd Ajw Hj A0V Cv List.filter_cons List.filter_nil mem_cons not_mem_nil
attribute [go_sem] decide_true decide_false Bool.not_true Bool.not_false Bool.and_true Bool.true_and Bool.and_false Bool.false_and Bool.or_true Bool.true_or Bool.or_false Bool.false_or cond_true cond_false not_true_eq_false not_false_eq_true if_true if_false false_and and_false exists_false imp_false
attribute [go_sem] or_false false_or or_self ite_true ite_false
attribute [go_sem] VV.b.injEq VV.i.injEq VV.s.injEq VV.ls.injEq VV.sl.injEq VV.p.injEq VV.fp.injEq VV.f.injEq VV.ag.injEq VV.tu.injEq Option.some.injEq Prod.mk.injEq true_and and_true and_self true_or or_true
 map_cons map_nil append_nil nil_append cons_append Option.map_some Option.map_none decide_eq_true_eq decide_eq_false_iff_not forall_const Bool.not_eq_true Bool.not_eq_false reduceCtorEq false_implies implies_true
 Int.toNat_natCast Int.natCast_nonneg Int.ofNat_lt Int.ofNat_le
end
section
variable {V:Ai}{m:Nat->Nat}
theorem Hb{k:Nat}(h:k<9223372036854775807):IntKind.i64.wrap ((k:Int)+1)=((k+1:Nat):Int):=by grind[Ax]
theorem Aj{i n c d B C:Nat}{body:A1}(hne:c≠i/\c≠n/\d≠n/\i≠n/\m i=0)(N:Nat)(hN:N<9223372036854775807)(I:Nat->A3->VH->Prop){Q:Ex->A3->VH->Prop}
  (step:∀k F h,k<N->A3.tmp F i=.i .i64 k->A3.tmp F n=.i .i64 N->I k F h ->
   Vc V m body (Tm.set F c (.b true)) h (fun e F' h'=>match e with
    |.norm=>A3.tmp F' i=.i .i64 k/\A3.tmp F' n=.i .i64 N/\LT h.length h h'/\∀v,I (k+1) (Ew h.length (Tm.set (Tm.set F' d v) i v)) (h'.take h.length)
    |.exit x=>(bif Nat.beq x C then A3.tmp F' i=.i .i64 k/\A3.tmp F' n=.i .i64 N/\LT h.length h h'/\∀v,I (k+1) (Ew h.length (Tm.set (Tm.set F' d v) i v)) (h'.take h.length)else bif Nat.beq x B then Q .norm F' h' else Q (.exit x) F' h')
    |.ret=>Q .ret F' h'))
  (done:∀F h,I N F h->Q .norm (Tm.set F c (.b false)) h) :
  ∀k F h,k<=N->A3.tmp F i=.i .i64 k->A3.tmp F n=.i .i64 N->I k F h ->
   VL V m B (.seq (.reg [o c (.bin .lss none (.t i) (.t n))]) (.seq (.cond (.t c) .skip (.exit B)) (.seq (.block C body) (.reg [o d (.bin .add none (.t i) (.c (.i .i64 1))),o i (.mov (.t d))])))) F h Q:=by
 obtain⟨hci,hcn,hdn,hin,hm⟩:=hne
 intro k F h hk h1 h2 h3
 unfold VL
 rw[A0]
 refine AJ (M:=Nat) (I:=fun k F h=>k<=N/\A3.tmp F i=.i .i64 k/\A3.tmp F n=.i .i64 N/\I k F h) (μ:=fun k=>N-k) ?_ k F h ⟨hk,h1,h2,h3⟩
 rintro k F h ⟨hk,h1,h2,h3⟩
 rw[Ly,Uh,AaT,A2h]
 simp only[A24,h1,h2,AeE,Ub,EA,Qg]
 rw[Ly,A5P]
 simp only[A24,J5,if_true,EA]
 rcases Nat.lt_or_ge k N with hlt|hge
 .have:decide ((k:Int)<N)=true:=by simp;omega
  rw[this,Aik,A5R]
  simp only
  rw[Ly,A0]
  refine(step k F h hlt h1 h2 h3).mono fun e F' h' hq=>?_
  have fin:(A3.tmp F' i=.i .i64 k/\A3.tmp F' n=.i .i64 N/\LT h.length h h'/\∀v,I (k+1) (Ew h.length (Tm.set (Tm.set F' d v) i v)) (h'.take h.length)) ->
    Vc V m (.reg [o d (.bin .add none (.t i) (.c (.i .i64 1))),o i (.mov (.t d))]) F' h' (fun e F' h'=>match e with
     |.norm=>LT h.length h h'/\∃m',N-m'<N-k/\m'<=N/\A3.tmp (Ew h.length F') i=.i .i64 m'/\A3.tmp (Ew h.length F') n=.i .i64 N/\I m' (Ew h.length F') (h'.take h.length)
     |.exit id'=>(bif Nat.beq id' B then Q .norm F' h' else Q (.exit id') F' h')
     |e=>Q e F' h'):=by
   rintro⟨g1,g2,g3,g4⟩
   rw[Uh,AaT,A2h]
   simp only[A24,Aj7,AdU,g1,A22,Ub,EA,AaT,hm,A5S,A8S,Adm,ZV,EA,Qg,J5,if_true,KZ,if_neg hin.symm,if_neg hdn.symm,g2,Aip]
   rw[Hb (by omega)]
   grind
  cases e with
  |norm=>grind
  |ret=>exact hq
  |exit x=>
   grind
 .have hkN:k=N:=by omega
  subst hkN
  have:decide ((k:Int)<k)=false:=by simp
  simp_all[Aij,A5Q]
theorem Ab{i c d1 d2 B C:Nat}{pre:List Ay}{body:A1}(hne:m d1=0/\m i=0)(N:Nat)(hN:N<9223372036854775807)(I:Nat->A3->VH->Prop){Q:Ex->A3->VH->Prop}
  (hpre:∀k F h,k<=N->A3.tmp F i=.i .i64 k->I k F h->Vr V m pre F h (fun F' h'=>A3.tmp F' c=.b (decide (k<N))/\A3.tmp F' i=.i .i64 k/\h'=h/\I k F' h))
  (step:∀k F h,k<N->A3.tmp F i=.i .i64 k->I k F h ->
   Vc V m body F h (fun e F' h'=>match e with
    |.norm=>A3.tmp F' i=.i .i64 k/\LT h.length h h'/\∀v w,I (k+1) (Ew h.length (Tm.set (Tm.set (Tm.set F' d1 v) d2 w) i w)) (h'.take h.length)
    |.exit x=>(bif Nat.beq x C then A3.tmp F' i=.i .i64 k/\LT h.length h h'/\∀v w,I (k+1) (Ew h.length (Tm.set (Tm.set (Tm.set F' d1 v) d2 w) i w)) (h'.take h.length)else bif Nat.beq x B then Q .norm F' h' else Q (.exit x) F' h')
    |.ret=>Q .ret F' h'))
  (done:∀F h,I N F h->Q .norm F h) :
  ∀k F h,k<=N->A3.tmp F i=.i .i64 k->I k F h ->
   VL V m B (.seq (.seq (.reg pre) (.cond (.t c) .skip (.exit B))) (.seq (.block C body) (.reg [o d1 (.mov (.t i)),o d2 (.bin .add none (.t d1) (.c (.i .i64 1))),o i (.mov (.t d2))]))) F h Q:=by
 obtain⟨hm1,hm2⟩:=hne
 intro k F h hk h1 h3
 unfold VL
 rw[A0]
 refine AJ (M:=Nat) (I:=fun k F h=>k<=N/\A3.tmp F i=.i .i64 k/\I k F h) (μ:=fun k=>N-k) ?_ k F h ⟨hk,h1,h3⟩
 rintro k F h ⟨hk,h1,h3⟩
 rw[Ly,Ly,Uh]
 obtain⟨n,F1,h',hr,hc,hi,rfl,hI⟩:=hpre k F h hk h1 h3
 refine⟨n,F1,h',hr,?_⟩
 simp only
 rw[A5P]
 simp only[A24,hc,EA]
 rcases Nat.lt_or_ge k N with hlt|hge
 .rw[decide_eq_true hlt,Aik,A5R]
  simp only
  rw[Ly,A0]
  refine(step k F1 h' hlt hi hI).mono fun e F' h2 hq=>?_
  have fin:(A3.tmp F' i=.i .i64 k/\LT h'.length h' h2/\∀v w,I (k+1) (Ew h'.length (Tm.set (Tm.set (Tm.set F' d1 v) d2 w) i w)) (h2.take h'.length)) ->
    Vc V m (.reg [o d1 (.mov (.t i)),o d2 (.bin .add none (.t d1) (.c (.i .i64 1))),o i (.mov (.t d2))]) F' h2 (fun e F' h2=>match e with
     |.norm=>LT h'.length h' h2/\∃m',N-m'<N-k/\m'<=N/\A3.tmp (Ew h'.length F') i=.i .i64 m'/\I m' (Ew h'.length F') (h2.take h'.length)
     |.exit id'=>(bif Nat.beq id' B then Q .norm F' h2 else Q (.exit id') F' h2)
     |e=>Q e F' h2):=by
   rintro⟨g1,g3,g4⟩
   rw[Uh,AaT]
   simp only[hm1,A5S,A8S,Adm,ZV,EA,A24,Aj7,AdU,g1,AaT,A2h,J5,if_true,A22,Ub,EA,hm2,Qg,KZ,Aip]
   rw[Hb (by omega)]
   grind
  cases e with
  |norm=>grind
  |ret=>exact hq
  |exit x=>
   grind
 .have hkN:k=N:=by omega
  subst hkN
  have:decide (k<k)=false:=by simp
  simp_all[Aij,A5Q]
end
abbrev eI(x:Int):List VV:=[.i .i64 x]
abbrev eW(x:BitVec 64):List VV:=[vW x]
abbrev eS(x:ByteArray):List VV:=[.s x]
abbrev eU(x:U8):List VV:=[.i .u8 (x.n:Int)]
abbrev lI(l:List Int):VV:=.ls (l.map eI)
abbrev lW(l:List (BitVec 64)):VV:=.ls (l.map eW)
abbrev lS(l:List ByteArray):VV:=.ls (l.map eS)
abbrev lU(l:List U8):VV:=.ls (l.map eU)
abbrev EG(l:List Int):List VV:=[lI l]
abbrev J8(l:List ByteArray):List VV:=[lS l]
abbrev EV(l:List (List Int)):List VV:=[.ls (l.map EG)]
abbrev eN(n:AI):List VV:=[.i .i64 n.thread,.i .i64 n.up,.i .i64 n.kind,.i .i64 n.loc,.i .i64 n.mode,.i .i64 n.val,.b n.rmw,.b n.fin,lI n.regs]
abbrev vN(n:AI):VV:=.ag (eN n)
abbrev eT(t:A2):List VV:=[.i .i64 t.vals,lS t.locs,.ls (t.regs.map J8),.ls (t.nodes.map eN)]
abbrev vT(t:A2):VV:=.ag (eT t)
abbrev Hd(s:A8):List VV:=[lI s.has,lI s.jf,.ls (s.mo.map EV)]
abbrev HJ(s:A8):VV:=.ag (Hd s)
abbrev Uv(e:AF):List VV:=[lI e.has,lI e.rf,.ls (e.mo.map EG)]
abbrev T5(e:AF):VV:=.ag (Uv e)
def DT:VO:={ ty:=0,esz:=0,ver:=0,nl:=true,rows:=[] }
def AN(ty e:Nat)(rows:List (List VV)):VO:=if rows.length=0 then DT else{ ty:=ty,esz:=e,ver:=rows.length,nl:=false,rows:=rows }
section
variable {ty e:Nat}{rows:List (List VV)}
@[go_sem] theorem EU:(AN ty e rows).ver=rows.length:=by
 unfold AN;split
 .rename_i h;rw[h];rfl
 .rfl
@[go_sem] theorem Tb:(AN ty e rows).rows=rows:=by
 unfold AN;split
 .rename_i h;rw[List.length_eq_zero_iff.1 h];rfl
 .rfl
@[go_sem] theorem Aqu:((AN ty e rows).nl||(decide ((AN ty e rows).ty=ty)&&decide ((AN ty e rows).esz=e)))=true:=by
 unfold AN;split
 .rfl
 .simp
@[go_sem] theorem Ao5:(decide ((AN ty e rows).esz=e)||(AN ty e rows).nl)=true:=by
 grind[AN,DT]
theorem JY(he:0<e):(decide (0<(AN ty e rows).esz)||(AN ty e rows).nl)=true:=by
 unfold AN;split
 .rfl
 .simp[he]
@[go_sem] theorem AmL:(decide (0<(AN ty 1 rows).esz)||(AN ty 1 rows).nl)=true:=JY (by decide)
@[go_sem] theorem AmM:(decide (0<(AN ty 2 rows).esz)||(AN ty 2 rows).nl)=true:=JY (by decide)
@[go_sem] theorem AmN:(decide (0<(AN ty 4 rows).esz)||(AN ty 4 rows).nl)=true:=JY (by decide)
@[go_sem] theorem AmO:(decide (0<(AN ty 7 rows).esz)||(AN ty 7 rows).nl)=true:=JY (by decide)
@[go_sem] theorem AmP:(decide (0<(AN ty 9 rows).esz)||(AN ty 9 rows).nl)=true:=JY (by decide)
@[go_sem] theorem AmQ {r:List VV}:({ ty:=ty,esz:=e,ver:=rows.length+1,nl:=false,rows:=rows++[r] }:VO)=AN ty e (rows++[r]):=by
 simp_all[AN]
@[go_sem] theorem Jb {α:Type} {xs:List α} {x:α} {f:α->List VV}:({ ty:=ty,esz:=e,ver:=xs.length+1,nl:=false,rows:=(xs++[x]).map f }:VO)=AN ty e ((xs++[x]).map f):=by
 simp_all[AN]
@[go_sem] theorem Ao4:AN ty e []=DT:=rfl
@[go_sem] theorem An6:DT.rows=[]:=rfl
@[go_sem] theorem AqZ:DT.nl=true:=rfl
@[go_sem] theorem Apd:DT.ver=0:=rfl
@[go_sem] theorem Apc:DT.esz=0:=rfl
@[go_sem] theorem Ar0:DT.ty=0:=rfl
@[go_sem] theorem Ru:({ ty:=0,esz:=0,ver:=0,nl:=true,rows:=[] }:VO)=DT:=rfl
end
@[go_sem] theorem CG (xs:List Int) (x:Int):xs.map eI++[[.i .i64 x]]=(xs++[x]).map eI:=by simp
@[go_sem] theorem Am4 (xs:List (BitVec 64)) (x:BitVec 64):xs.map eW++[[vW x]]=(xs++[x]).map eW:=by simp
@[go_sem] theorem Aun (xs:List ByteArray) (x:ByteArray):xs.map eS++[[.s x]]=(xs++[x]).map eS:=by simp
section
variable {V:Ai}{m:Nat->Nat}{F:A3}{h:VH}{x w:Bool}{d:Option Nat}{op:Bl}
theorem BB{r:List Ay}{R:A3->VH->Prop}(h1:x=true->VG V m (.b true) w d op r F h R)(h2:x=false->VG V m (.b false) w d op r F h R):VG V m (.b x) w d op r F h R:=by
 cases x with
 |true=>exact h1 rfl
 |false=>exact h2 rfl
theorem Bq{c:List Ay}{r:List AE}{L:JP}{R:A3->VH->Prop}(h1:x=true->VGs V m (.b true) w d op c r L F h R)(h2:x=false->VGs V m (.b false) w d op c r L F h R):VGs V m (.b x) w d op c r L F h R:=by
 cases x with
 |true=>exact h1 rfl
 |false=>exact h2 rfl
theorem Bd{a b:A1}{Q:Ex->A3->VH->Prop}(h1:x=true->VCn V m (.b true) a b F h Q)(h2:x=false->VCn V m (.b false) a b F h Q):VCn V m (.b x) a b F h Q:=by
 cases x with
 |true=>exact h1 rfl
 |false=>exact h2 rfl
end
@[go_sem] theorem Ars (h:VH) (t e b:Nat) (x y:VV):Ph 0 h t e b x y=Lc h t e b x y:=rfl
@[go_sem] theorem Art (h:VH) (t e b:Nat) (x y:VV):Ph 1 h t e b x y=Lc h t e b x y:=rfl
@[go_sem] theorem Aru (h:VH) (t e b:Nat) (x y:VV):Ph 2 h t e b x y=Lc h t e b x y:=rfl
def Ak9(r:Option (VV×VH)):Option (VV×VH):=match r with
 |some (v,h')=>(match frz h' dF v with
  |some (r,ids)=>some (r,Bw ids h')
  |none=>none)
 |none=>none
@[go_sem] theorem Arv (h:VH) (t e b:Nat) (x y:VV):Ph 5 h t e b x y=Ak9 (Lc h t e b x y):=by
 unfold Ph Ak9;rfl
@[go_sem] theorem AmZ (v:VV) (h:VH):Ak9 (some (v,h))=(match frz h 8 v with
  |some (r,ids)=>some (r,Bw ids h)
  |none=>none):=rfl
def E0(n:Nat):Nat:=if n=0 then 0 else 1
def LC(ty e:Nat)(rows:List (List VV)):VO:={ ty:=ty,esz:=e,ver:=E0 rows.length,nl:=false,rows:=rows }
@[go_sem] theorem AqJ (ty e:Nat) (rows:List (List VV)):(LC ty e rows).ver=E0 rows.length:=rfl
@[go_sem] theorem Aok (ty e:Nat) (rows:List (List VV)):(LC ty e rows).rows=rows:=rfl
@[go_sem] theorem AsY (ty e:Nat) (rows:List (List VV)):(LC ty e rows).ty=ty:=rfl
@[go_sem] theorem AqI (ty e:Nat) (rows:List (List VV)):(LC ty e rows).esz=e:=rfl
@[go_sem] theorem AsX (ty e:Nat) (rows:List (List VV)):(LC ty e rows).nl=false:=rfl
@[go_sem high] theorem Anj (h:VH) (ty e b id:Nat) (ys:List (List VV)) (h0:Cf h id 0=some { ty:=ty,esz:=e,ver:=0,nl:=false,rows:=[] }) (h1:DH e ys=true) (h2:ys.length * b<=A6) (h3:0 < e) :
  Lc h ty e b (.sl id 0 0 0) (.ls ys)=some (.sl id (E0 ys.length) 0 ys.length,h.set id (some (LC ty e ys))):=by
 have hg:h[id]? = some (some { ty:=ty,esz:=e,ver:=0,nl:=false,rows:=[] }):=by
  grind[Cf]
 have hb1:(Nat.ble ((0+ys.length) * b) A6&&Nat.blt 0 e)=true:=by
  simp_all
 unfold Lc
 simp only[M1,NH,h1,cond_true,h0,hb1]
 cases ys with
 |nil=>
  simp only[Option.some.injEq,Prod.mk.injEq]
  refine⟨rfl,?_⟩
  obtain⟨hi,he⟩:=List.getElem?_eq_some_iff.1 hg
  have:(some (LC ty e []):Option VO)=h[id]:=by rw[he];rfl
  rw[this,List.set_getElem_self]
 |cons y ys=>
  simp only[Nat.beq_refl,length_nil,Bool.and_self,Bool.or_true,cond_true,nil_append,Nat.zero_add]
  rfl
@[go_sem low] theorem Aml (h:VH) (ty esz bytes:Nat) (id ver off n:Nat) (ys:List (List VV)):Lc h ty esz bytes (.sl id ver off n) (.ls ys)=(match M1 (.sl id ver off n),NH h esz (.ls ys)with
 |some n0,some ys0=>
  bif Nat.ble ((n0+ys0.length) * bytes) A6&&Nat.blt 0 esz then
   match((.sl id ver off n):VV)with
   |.sl id3 ver3 off3 _=>(match Cf h id3 ver3 with
    |some o=>(match ys0 with
     | []=>some ((.sl id ver off n),h)
     |y0::yr=>bif Nat.beq off3 0&&Nat.beq n0 o.rows.length&&(o.nl||(Nat.beq o.ty ty&&Nat.beq o.esz esz))then
       some (.sl id3 (ver3+1) 0 (n0+ys0.length),h.set id3 (some { ty:=ty,esz:=esz,ver:=ver3+1,nl:=false,rows:=o.rows++ys0 }))
      else none)
    |none=>none)
   |.nl=>(match ys0 with
    | []=>some (.nl,h)
    |y0::yr=>some (.sl h.length 0 0 ys0.length,h++[some { ty:=ty,esz:=esz,ver:=0,nl:=false,rows:=ys0 }]))
   |_=>none
  else none
 |_,_=>none):=rfl
@[go_sem low] theorem Amm (h:VH) (ty esz bytes:Nat) (id ver off n:Nat)  : Lc h ty esz bytes (.sl id ver off n) .nl=(match M1 (.sl id ver off n),NH h esz .nl with
 |some n0,some ys0=>
  bif Nat.ble ((n0+ys0.length) * bytes) A6&&Nat.blt 0 esz then
   match((.sl id ver off n):VV)with
   |.sl id3 ver3 off3 _=>(match Cf h id3 ver3 with
    |some o=>(match ys0 with
     | []=>some ((.sl id ver off n),h)
     |y0::yr=>bif Nat.beq off3 0&&Nat.beq n0 o.rows.length&&(o.nl||(Nat.beq o.ty ty&&Nat.beq o.esz esz))then
       some (.sl id3 (ver3+1) 0 (n0+ys0.length),h.set id3 (some { ty:=ty,esz:=esz,ver:=ver3+1,nl:=false,rows:=o.rows++ys0 }))
      else none)
    |none=>none)
   |.nl=>(match ys0 with
    | []=>some (.nl,h)
    |y0::yr=>some (.sl h.length 0 0 ys0.length,h++[some { ty:=ty,esz:=esz,ver:=0,nl:=false,rows:=ys0 }]))
   |_=>none
  else none
 |_,_=>none):=rfl
@[go_sem low] theorem Amn (h:VH) (ty esz bytes:Nat) (id ver off n:Nat) (id2 ver2 off2 n2:Nat):Lc h ty esz bytes (.sl id ver off n) (.sl id2 ver2 off2 n2)=(match M1 (.sl id ver off n),NH h esz (.sl id2 ver2 off2 n2)with
 |some n0,some ys0=>
  bif Nat.ble ((n0+ys0.length) * bytes) A6&&Nat.blt 0 esz then
   match((.sl id ver off n):VV)with
   |.sl id3 ver3 off3 _=>(match Cf h id3 ver3 with
    |some o=>(match ys0 with
     | []=>some ((.sl id ver off n),h)
     |y0::yr=>bif Nat.beq off3 0&&Nat.beq n0 o.rows.length&&(o.nl||(Nat.beq o.ty ty&&Nat.beq o.esz esz))then
       some (.sl id3 (ver3+1) 0 (n0+ys0.length),h.set id3 (some { ty:=ty,esz:=esz,ver:=ver3+1,nl:=false,rows:=o.rows++ys0 }))
      else none)
    |none=>none)
   |.nl=>(match ys0 with
    | []=>some (.nl,h)
    |y0::yr=>some (.sl h.length 0 0 ys0.length,h++[some { ty:=ty,esz:=esz,ver:=0,nl:=false,rows:=ys0 }]))
   |_=>none
  else none
 |_,_=>none):=rfl
@[go_sem low] theorem Ami (h:VH) (ty esz bytes:Nat)  (ys:List (List VV)):Lc h ty esz bytes .nl (.ls ys)=(match M1 .nl,NH h esz (.ls ys)with
 |some n0,some ys0=>
  bif Nat.ble ((n0+ys0.length) * bytes) A6&&Nat.blt 0 esz then
   match(.nl:VV)with
   |.sl id3 ver3 off3 _=>(match Cf h id3 ver3 with
    |some o=>(match ys0 with
     | []=>some (.nl,h)
     |y0::yr=>bif Nat.beq off3 0&&Nat.beq n0 o.rows.length&&(o.nl||(Nat.beq o.ty ty&&Nat.beq o.esz esz))then
       some (.sl id3 (ver3+1) 0 (n0+ys0.length),h.set id3 (some { ty:=ty,esz:=esz,ver:=ver3+1,nl:=false,rows:=o.rows++ys0 }))
      else none)
    |none=>none)
   |.nl=>(match ys0 with
    | []=>some (.nl,h)
    |y0::yr=>some (.sl h.length 0 0 ys0.length,h++[some { ty:=ty,esz:=esz,ver:=0,nl:=false,rows:=ys0 }]))
   |_=>none
  else none
 |_,_=>none):=rfl
@[go_sem low] theorem Amj (h:VH) (ty esz bytes:Nat)   : Lc h ty esz bytes .nl .nl=(match M1 .nl,NH h esz .nl with
 |some n0,some ys0=>
  bif Nat.ble ((n0+ys0.length) * bytes) A6&&Nat.blt 0 esz then
   match(.nl:VV)with
   |.sl id3 ver3 off3 _=>(match Cf h id3 ver3 with
    |some o=>(match ys0 with
     | []=>some (.nl,h)
     |y0::yr=>bif Nat.beq off3 0&&Nat.beq n0 o.rows.length&&(o.nl||(Nat.beq o.ty ty&&Nat.beq o.esz esz))then
       some (.sl id3 (ver3+1) 0 (n0+ys0.length),h.set id3 (some { ty:=ty,esz:=esz,ver:=ver3+1,nl:=false,rows:=o.rows++ys0 }))
      else none)
    |none=>none)
   |.nl=>(match ys0 with
    | []=>some (.nl,h)
    |y0::yr=>some (.sl h.length 0 0 ys0.length,h++[some { ty:=ty,esz:=esz,ver:=0,nl:=false,rows:=ys0 }]))
   |_=>none
  else none
 |_,_=>none):=rfl
@[go_sem low] theorem Amk (h:VH) (ty esz bytes:Nat)  (id2 ver2 off2 n2:Nat):Lc h ty esz bytes .nl (.sl id2 ver2 off2 n2)=(match M1 .nl,NH h esz (.sl id2 ver2 off2 n2)with
 |some n0,some ys0=>
  bif Nat.ble ((n0+ys0.length) * bytes) A6&&Nat.blt 0 esz then
   match(.nl:VV)with
   |.sl id3 ver3 off3 _=>(match Cf h id3 ver3 with
    |some o=>(match ys0 with
     | []=>some (.nl,h)
     |y0::yr=>bif Nat.beq off3 0&&Nat.beq n0 o.rows.length&&(o.nl||(Nat.beq o.ty ty&&Nat.beq o.esz esz))then
       some (.sl id3 (ver3+1) 0 (n0+ys0.length),h.set id3 (some { ty:=ty,esz:=esz,ver:=ver3+1,nl:=false,rows:=o.rows++ys0 }))
      else none)
    |none=>none)
   |.nl=>(match ys0 with
    | []=>some (.nl,h)
    |y0::yr=>some (.sl h.length 0 0 ys0.length,h++[some { ty:=ty,esz:=esz,ver:=0,nl:=false,rows:=ys0 }]))
   |_=>none
  else none
 |_,_=>none):=rfl
attribute [go_sem] AeI
end Go.AM
