/-
  Own work, part of the proof of CoheExec: rules by which code is run over the machine of values.
-/
import Derived.Test.YtpcpldaangchaaaGreatDoorAmC
import Derived.Test.YtpcpldaangchaaaGreatDoorAmD
import Derived.Attr
set_option maxRecDepth 4000
set_option linter.unusedVariables false
set_option linter.unusedSimpArgs false
set_option linter.unusedSectionVars false
set_option linter.unnecessarySimpa false
namespace Go.AM
open Go
section
variable {A:D9} {F:Fr} {σ:St}
@[go_sem] theorem Aif (F:Fr) (k:Nat) (v:AV) (j:Nat):Fr.tmp (Tm.set F k v) j=if j=k then v else Fr.tmp F j:=by
 unfold Fr.tmp
 rw [Tm.get_set]
 by_cases h:j=k<;>simp [h]
def nth (l:List AV) (j:Nat):AV:=match l[j]? with | some v=>v | none=>AV.un
@[go_sem] theorem AdP (l:List AV) (j:Nat):Fr.tmp (Tm.ofList l) j=nth l j:=by
 unfold Fr.tmp nth
 rw [Tm.get_ofList]
 cases l[j]?<;>rfl
@[go_sem] theorem AhY (j:Nat):nth [] j=AV.un:=by simp [nth]
@[go_sem] theorem Agt (a:AV) (l:List AV):nth (a::l) 0=a:=by simp [nth]
@[go_sem] theorem Ags (a:AV) (l:List AV) (j:Nat):nth (a::l) (j+1)=nth l j:=by simp [nth]
@[go_sem] theorem AeJ (F:Fr) (d:Nat) (v:AV):Bm F (some d) v=Tm.set F d v:=rfl
@[go_sem] theorem AeI (F:Fr) (v:AV):Bm F none v=F:=rfl
@[go_sem] theorem AmL (F:Fr) (n:Nat):Fr.ev F (.t n)=Fr.tmp F n:=rfl
@[go_sem] theorem AmK (F:Fr) (v:AV):Fr.ev F (.c v)=v:=rfl
variable {Q:AV→St→Prop} {R:Fr→St→Prop}
@[go_sem] theorem A8L {d:Option Nat} {op:B7} {r:List Aq}:Wr A (⟨d,none,op⟩::r) F σ R↔Wo A op F σ (fun v σ'=>Wr A r (Bm F d v) σ' R):=A1b
def WG (A:D9) (v:AV) (w:Bool) (d:Option Nat) (op:B7) (r:List Aq) (F:Fr) (σ:St) (R:Fr→St→Prop):Prop:=match v with
 | .b x=>(bif x == w then Wo A op F σ (fun v σ'=>Wr A r (Bm F d v) σ' R) else Wr A r (Bm F d AV.un) σ R)
 | _=>Wr A r (Bm F d AV.un) σ R
@[go_sem] theorem Aft {d:Option Nat} {t:Nat} {w:Bool} {op:B7} {r:List Aq}:Wr A (⟨d,some (t,w),op⟩::r) F σ R↔WG A (Fr.tmp F t) w d op r F σ R:=by
 rw [A1b]
 simp only [wanted,WG]
 cases Fr.tmp F t<;>rfl
@[go_sem] theorem AlK {d:Option Nat} {op:B7} {r:List Aq}:WG A (.b true) true d op r F σ R↔Wo A op F σ (fun v σ'=>Wr A r (Bm F d v) σ' R):=Iff.rfl
@[go_sem] theorem AlH {d:Option Nat} {op:B7} {r:List Aq}:WG A (.b false) false d op r F σ R↔Wo A op F σ (fun v σ'=>Wr A r (Bm F d v) σ' R):=Iff.rfl
@[go_sem] theorem AlJ {d:Option Nat} {op:B7} {r:List Aq}:WG A (.b true) false d op r F σ R↔Wr A r (Bm F d AV.un) σ R:=Iff.rfl
@[go_sem] theorem AlI {d:Option Nat} {op:B7} {r:List Aq}:WG A (.b false) true d op r F σ R↔Wr A r (Bm F d AV.un) σ R:=Iff.rfl
attribute [go_sem] Abw Abx A8H A8G Abu Abt A8F Abv
@[go_sem] theorem A8M {i:Nat} {d:Option Nat} {op:B7} {c:List Aq} {r:List At}:Ws A (⟨i,⟨d,none,op⟩,c⟩::r) F σ R↔Wo A op F σ (fun v σ'=>BW (Bm F d v) σ' c=true∧Ws A r (Bm F d v) σ' R):=A1c
def WGs (A:D9) (v:AV) (w:Bool) (d:Option Nat) (op:B7) (c:List Aq) (r:List At) (F:Fr) (σ:St) (R:Fr→St→Prop):Prop:=match v with
 | .b x=>(bif x == w then Wo A op F σ (fun v σ'=>BW (Bm F d v) σ' c=true∧Ws A r (Bm F d v) σ' R) else Ws A r (Bm F d AV.un) σ R)
 | _=>Ws A r (Bm F d AV.un) σ R
@[go_sem] theorem Afu {i:Nat} {d:Option Nat} {t:Nat} {w:Bool} {op:B7} {c:List Aq} {r:List At}:Ws A (⟨i,⟨d,some (t,w),op⟩,c⟩::r) F σ R↔WGs A (Fr.tmp F t) w d op c r F σ R:=by
 rw [A1c]
 simp only [wanted,WGs]
 cases Fr.tmp F t<;>rfl
@[go_sem] theorem Aj9 {d:Option Nat} {op:B7} {c:List Aq} {r:List At}:WGs A (.b true) true d op c r F σ R↔Wo A op F σ (fun v σ'=>BW (Bm F d v) σ' c=true∧Ws A r (Bm F d v) σ' R):=Iff.rfl
@[go_sem] theorem Aj6 {d:Option Nat} {op:B7} {c:List Aq} {r:List At}:WGs A (.b false) false d op c r F σ R↔Wo A op F σ (fun v σ'=>BW (Bm F d v) σ' c=true∧Ws A r (Bm F d v) σ' R):=Iff.rfl
@[go_sem] theorem Aj8 {d:Option Nat} {op:B7} {c:List Aq} {r:List At}:WGs A (.b true) false d op c r F σ R↔Ws A r (Bm F d AV.un) σ R:=Iff.rfl
@[go_sem] theorem Aj7 {d:Option Nat} {op:B7} {c:List Aq} {r:List At}:WGs A (.b false) true d op c r F σ R↔Ws A r (Bm F d AV.un) σ R:=Iff.rfl
@[go_sem] theorem AlL {w:Bool} {d:Option Nat} {op:B7} {r:List Aq}:WG A AV.un w d op r F σ R↔Wr A r (Bm F d AV.un) σ R:=Iff.rfl
@[go_sem] theorem Aja {w:Bool} {d:Option Nat} {op:B7} {c:List Aq} {r:List At}:WGs A AV.un w d op c r F σ R↔Ws A r (Bm F d AV.un) σ R:=Iff.rfl
def WC (A:D9) (v:AV) (a b:A1) (F:Fr) (σ:St) (Q:Ex→Fr→St→Prop):Prop:=match v with
 | .b true=>Wc A a F σ Q
 | .b false=>Wc A b F σ Q
 | _=>False
@[go_sem] theorem Aej {x:Af} {a b:A1} {Q:Ex→Fr→St→Prop}:Wc A (.cond x a b) F σ Q↔WC A (Fr.ev F x) a b F σ Q:=by
 cases h:Fr.ev F x with
 | b t=>rw [A8E h];cases t<;>rfl
 | _ =>
  constructor
  ·rintro ⟨n,e,F',σ',h2,_⟩
   cases n with
   | zero=>simp [AP] at h2
   | succ n=>simp [AP,h] at h2
  ·intro h2;exact h2.elim
@[go_sem] theorem Amt {a b:A1} {Q:Ex→Fr→St→Prop}:WC A (.b true) a b F σ Q↔Wc A a F σ Q:=Iff.rfl
@[go_sem] theorem Ams {a b:A1} {Q:Ex→Fr→St→Prop}:WC A (.b false) a b F σ Q↔Wc A b F σ Q:=Iff.rfl
def WP (v x y:AV) (σ:St) (Q:AV→St→Prop):Prop:=match v with
 | .b t=>Q (bif t then x else y) σ
 | _=>False
@[go_sem] theorem Amv {x y:AV}:WP (.b true) x y σ Q↔Q x σ:=Iff.rfl
@[go_sem] theorem Amu {x y:AV}:WP (.b false) x y σ Q↔Q y σ:=Iff.rfl
@[go_sem] theorem Ajn {x:Af}:Wo A (.mov x) F σ Q↔Q (Fr.ev F x) σ:=by
 rw [Cw (by intros;simp)]
 simp only [Ad,Option.some.injEq,Prod.mk.injEq,exists_and_left,exists_eq_left',and_assoc]
@[go_sem] theorem Ahq {c x y:Af}:Wo A (.pick c x y) F σ Q↔WP (Fr.ev F c) (Fr.ev F x) (Fr.ev F y) σ Q:=by
 rw [Cw (by intros;simp)]
 simp only [Ad]
 cases Fr.ev F c with
 | b t=>simp only [Option.some.injEq,Prod.mk.injEq,exists_and_left,exists_eq_left',and_assoc,WP]
 | _=>simp [WP]
@[go_sem] theorem Aje {ty n:Nat} {x:Af}:Wo A (.box ty n x) F σ Q↔((Fr.ev F x).cells.length=n∧(Fr.ev F x).cells.all AV.cell=true)∧Q (.p (some (σ.next,0))) (σ.new { ty:=ty,rw:=true,esz:=0,len:=n,cs:=Tm.ofList (Fr.ev F x).cells }):=by
 rw [Cw (by intros;simp)]
 simp only [Ad]
 cases hc:(Nat.beq (Fr.ev F x).cells.length n && (Fr.ev F x).cells.all AV.cell) with
 | false =>
  simp only [cond_false,reduceCtorEq,false_and,exists_false,false_iff]
  rintro ⟨⟨h1,h2⟩,_⟩
  rw [h1,h2] at hc
  simp at hc
 | true =>
  simp only [Bool.and_eq_true] at hc
  simp only [cond_true,Option.some.injEq,Prod.mk.injEq,exists_and_left,exists_eq_left',and_assoc,Nat.eq_of_beq_eq_true hc.1,hc.2,true_and]
@[go_sem] theorem Afq {z:List AV} {ps:List (Nat×Nat×Af)}:Wo A (.build z ps) F σ Q↔∃ cs,Bg F z ps=some cs∧Q (.ag cs) σ:=by
 rw [Cw (by intros;simp)]
 simp only [Ad]
 cases Bg F z ps with
 | none=>simp
 | some v=>simp only [Option.some.injEq,Prod.mk.injEq,exists_and_left,exists_eq_left',and_assoc]
@[go_sem] theorem Ajf {ty esz len:Nat} {z:List AV} {ps:List (Nat×Nat×Af)}:Wo A (.bsl ty esz len z ps) F σ Q↔∃ cs,Bg F z ps=some cs∧Q (.sl (some (σ.next,0)) len) (σ.new { ty:=ty,rw:=true,esz:=esz,len:=len * esz,cs:=Tm.ofList cs }):=by
 rw [Cw (by intros;simp)]
 simp only [Ad]
 cases Bg F z ps with
 | none=>simp
 | some v=>simp only [Option.some.injEq,Prod.mk.injEq,exists_and_left,exists_eq_left',and_assoc]
theorem Td {n:Option Nat} {a:Af} {r:AV×St}:Ad (.ld n a) F σ=some r↔∃ id off,Fr.ev F a = .p (some (id,off))∧σ.loadV n id off=some r.1∧σ=r.2:=by
 simp only [Ad]
 constructor
 ·intro h
  split at h
  ·rename_i id off ha
   split at h
   ·rename_i v hv
    cases h
    exact ⟨id,off,ha,hv,rfl⟩
   ·cases h
  ·cases h
 ·rintro ⟨id,off,ha,hv,rfl⟩
  simp only [ha,hv]
@[go_sem] theorem AlP {n:Option Nat} {a:Af}:Wo A (.ld n a) F σ Q↔∃ id off,Fr.ev F a = .p (some (id,off))∧∃ v,σ.loadV n id off=some v∧Q v σ:=by
 rw [Cw (by intros;simp)]
 simp only [Td]
 constructor
 ·rintro ⟨v,σ',⟨id,off,h1,h2,h3⟩,hq⟩
  subst h3
  exact ⟨id,off,h1,v,h2,hq⟩
 ·rintro ⟨id,off,h1,v,h2,hq⟩
  exact ⟨v,σ,⟨id,off,h1,h2,rfl⟩,hq⟩
@[go_sem] theorem AlQ {n:Nat} {a x:Af}:Wo A (.st n a x) F σ Q↔∃ id off,Fr.ev F a = .p (some (id,off))∧(Fr.ev F x).cells.length=n∧∃ σ',σ.storeN id off (Fr.ev F x).cells=some σ'∧Q AV.un σ':=by
 rw [Cw (by intros;simp)]
 simp only [Ad]
 constructor
 ·rintro ⟨v,σ',h,hq⟩
  split at h
  ·rename_i id off ha
   cases hc:Nat.beq (Fr.ev F x).cells.length n with
   | false=>rw [hc] at h;cases h
   | true =>
    rw [hc] at h
    simp only [cond_true] at h
    split at h
    ·rename_i σ1 hs
     cases h
     exact ⟨id,off,ha,Nat.eq_of_beq_eq_true hc,_,hs,hq⟩
    ·cases h
  ·cases h
 ·rintro ⟨id,off,ha,hc,σ',hs,hq⟩
  refine ⟨AV.un,σ',?_,hq⟩
  have:Nat.beq (Fr.ev F x).cells.length n=true:=by rw [hc];exact Nat.beq_refl n
  simp only [ha,this,cond_true,hs]
def A33:AV→Option AV
 | .p (some a)=>some (.p (some a))
 | .f g a c=>some (.f g a c)
 | _=>none
@[go_sem] theorem AhV (a:Nat×Nat):A33 (.p (some a))=some (.p (some a)):=rfl
@[go_sem] theorem AhU (g:Nat) (a c:List AV):A33 (.f g a c)=some (.f g a c):=rfl
@[go_sem] theorem Ahp {x:Af}:Wo A (.nilc x) F σ Q↔∃ v,A33 (Fr.ev F x)=some v∧Q v σ:=by
 rw [Cw (by intros;simp)]
 simp only [Ad]
 constructor
 ·rintro ⟨v,σ',h,hq⟩
  split at h<;>cases h<;>(rename_i e;rw [e];exact ⟨_,rfl,hq⟩)
 ·rintro ⟨v,h,hq⟩
  unfold A33 at h
  split at h<;>cases h<;>(rename_i e;rw [e];exact ⟨_,_,rfl,hq⟩)
@[go_sem] theorem Ajd {op:BinOp} {e:Option NW} {x y:Af}:Wo A (.bin op e x y) F σ Q↔∃ v,B1 op e (Fr.ev F x) (Fr.ev F y)=some v∧Q v σ:=by
 rw [Cw (by intros;simp)]
 simp only [Ad]
 cases B1 op e (Fr.ev F x) (Fr.ev F y) with
 | none=>simp
 | some v=>simp only [Option.some.injEq,Prod.mk.injEq,exists_and_left,exists_eq_left',and_assoc]
@[go_sem] theorem Ajp {x:Af}:Wo A (.not x) F σ Q↔∃ t,Fr.ev F x = .b t∧Q (.b (!t)) σ:=by
 rw [Cw (by intros;simp)]
 simp only [Ad]
 constructor
 ·rintro ⟨v,σ',h,hq⟩
  split at h
  ·rename_i t ht;cases h;exact ⟨t,ht,hq⟩
  ·cases h
 ·rintro ⟨t,h,hq⟩
  exact ⟨_,_,by rw [h],hq⟩
@[go_sem] theorem Ajo {x:Af}:Wo A (.neg x) F σ Q↔∃ k n,Fr.ev F x = .i k n∧Q (.i k (k.wrap (0 - n))) σ:=by
 rw [Cw (by intros;simp)]
 simp only [Ad]
 constructor
 ·rintro ⟨v,σ',h,hq⟩
  split at h
  ·rename_i k n ht;cases h;exact ⟨k,n,ht,hq⟩
  ·cases h
 ·rintro ⟨k,n,h,hq⟩
  exact ⟨_,_,by rw [h],hq⟩
@[go_sem] theorem Ahn {k:IntKind} {x:Af}:Wo A (.conv k x) F σ Q↔∃ k' n,Fr.ev F x = .i k' n∧Q (.i k (k.wrap n)) σ:=by
 rw [Cw (by intros;simp)]
 simp only [Ad]
 constructor
 ·rintro ⟨v,σ',h,hq⟩
  split at h
  ·rename_i k n ht;cases h;exact ⟨k,n,ht,hq⟩
  ·cases h
 ·rintro ⟨k,n,h,hq⟩
  exact ⟨_,_,by rw [h],hq⟩
@[go_sem] theorem Ajk {g:Nat} {a c:List Af}:Wo A (.mkf g a c) F σ Q↔Q (.f g (a.map (Fr.ev F)) (c.map (Fr.ev F))) σ:=by
 rw [Cw (by intros;simp)]
 simp only [Ad,Option.some.injEq,Prod.mk.injEq,exists_and_left,exists_eq_left',and_assoc]
@[go_sem] theorem Ajl {ty esz bytes:Nat} {z:List AV} {l c:Af}:Wo A (.mks ty esz bytes z l c) F σ Q↔∃ n,Fr.ev F l = .i .i64 n∧∃ m,Fr.ev F c = .i .i64 m∧(0≤n∧n≤m∧m.toNat * bytes≤A6)∧Q (.sl (some (σ.next,0)) n.toNat) (σ.new { ty:=ty,rw:=true,esz:=esz,len:=n.toNat * esz,cs:=Tm.ofList ((List.replicate n.toNat z).flatten) }):=by
 rw [Cw (by intros;simp)]
 simp only [Ad]
 constructor
 ·rintro ⟨v,σ',h,hq⟩
  split at h
  ·rename_i n m h1 h2
   split at h
   ·rename_i h3
    cases h
    exact ⟨n,h1,m,h2,h3,hq⟩
   ·cases h
  ·cases h
 ·rintro ⟨n,h1,m,h2,h3,hq⟩
  exact ⟨_,_,by simp only [h1,h2,if_pos h3],hq⟩
@[go_sem] theorem Ajq {esz:Nat} {x:Af} {lo hi:Option Af}:Wo A (.slc esz x lo hi) F σ Q↔∃ v,DB esz (Fr.ev F x) (lo.map (Fr.ev F)) (hi.map (Fr.ev F))=some v∧Q v σ:=by
 rw [Cw (by intros;simp)]
 simp only [Ad]
 cases DB esz (Fr.ev F x) (lo.map (Fr.ev F)) (hi.map (Fr.ev F)) with
 | none=>simp
 | some v=>simp only [Option.some.injEq,Prod.mk.injEq,exists_and_left,exists_eq_left',and_assoc]
@[go_sem] theorem AlM {off:Nat} {x:Af}:Wo A (.fa off x) F σ Q↔∃ id o,Fr.ev F x = .p (some (id,o))∧Q (.p (some (id,o+off))) σ:=by
 rw [Cw (by intros;simp)]
 simp only [Ad]
 constructor
 ·rintro ⟨v,σ',h,hq⟩
  split at h
  ·rename_i id o h1;cases h;exact ⟨id,o,h1,hq⟩
  ·cases h
 ·rintro ⟨id,o,h1,hq⟩
  exact ⟨_,_,by rw [h1],hq⟩
def A42 (esz:Nat) (x i:AV):Option AV:=match x,i with
  | .sl (some (id,o)) len,.i _ n=>if 0≤n∧n < len then some (.p (some (id,o+n.toNat * esz))) else none
  | _,_=>none
@[go_sem] theorem AlN {esz:Nat} {x i:Af}:Wo A (.ia esz x i) F σ Q↔∃ v,A42 esz (Fr.ev F x) (Fr.ev F i)=some v∧Q v σ:=by
 rw [Cw (by intros;simp)]
 have e:Ad (.ia esz x i) F σ=(match A42 esz (Fr.ev F x) (Fr.ev F i) with | some v=>some (v,σ) | none=>none):=by
  simp only [Ad,A42]
  generalize Fr.ev F x=vx
  generalize Fr.ev F i=vi
  cases vx<;>try rfl
  rename_i o len
  cases o<;>try rfl
  cases vi<;>try rfl
  simp only
  split<;>rfl
 rw [e]
 cases A42 esz (Fr.ev F x) (Fr.ev F i) with
 | none=>simp
 | some v=>simp only [Option.some.injEq,Prod.mk.injEq,exists_and_left,exists_eq_left',and_assoc]
@[go_sem] theorem Aji {len esz:Nat} {x i:Af}:Wo A (.iaa len esz x i) F σ Q↔∃ id o,Fr.ev F x = .p (some (id,o))∧∃ k n,Fr.ev F i = .i k n∧(0≤n∧n < len)∧Q (.p (some (id,o+n.toNat * esz))) σ:=by
 rw [Cw (by intros;simp)]
 simp only [Ad]
 constructor
 ·rintro ⟨v,σ',h,hq⟩
  split at h
  ·rename_i id o k n h1 h2
   split at h
   ·rename_i h3
    cases h
    exact ⟨id,o,h1,k,n,h2,h3,hq⟩
   ·cases h
  ·cases h
 ·rintro ⟨id,o,h1,k,n,h2,h3,hq⟩
  exact ⟨_,_,by simp only [h1,h2,if_pos h3],hq⟩
@[go_sem] theorem AlO {x i:Af}:Wo A (.ix x i) F σ Q↔∃ s,Fr.ev F x = .s s∧∃ k n,Fr.ev F i = .i k n∧0≤n∧∃ b,s.data.toList[n.toNat]? = some b∧Q (.i .u8 b.toNat) σ:=by
 rw [Cw (by intros;simp)]
 simp only [Ad]
 constructor
 ·rintro ⟨v,σ',h,hq⟩
  split at h
  ·rename_i s k n h1 h2
   split at h
   ·rename_i h3
    split at h
    ·rename_i b hb
     cases h
     exact ⟨s,h1,k,n,h2,h3,b,hb,hq⟩
    ·cases h
   ·cases h
  ·cases h
 ·rintro ⟨s,h1,k,n,h2,h3,b,hb,hq⟩
  exact ⟨_,_,by simp only [h1,h2,if_pos h3,hb],hq⟩
@[go_sem] theorem Ajh {x:Af} {i:Nat}:Wo A (.ext x i) F σ Q↔∃ vs,Fr.ev F x = .tu vs∧∃ v,vs[i]? = some v∧Q v σ:=by
 rw [Cw (by intros;simp)]
 simp only [Ad]
 constructor
 ·rintro ⟨v,σ',h,hq⟩
  split at h
  ·rename_i vs h1
   split at h
   ·rename_i w hw;cases h;exact ⟨vs,h1,_,hw,hq⟩
   ·cases h
  ·cases h
 ·rintro ⟨vs,h1,v,h2,hq⟩
  exact ⟨_,_,by simp only [h1,h2],hq⟩
@[go_sem] theorem Ajj {x:Af}:Wo A (.len false x) F σ Q↔∃ o n,Fr.ev F x = .sl o n∧Q (.i .i64 n) σ:=by
 rw [Cw (by intros;simp)]
 simp only [Ad]
 generalize Fr.ev F x=vx
 cases vx<;>simp
 constructor
 ·rintro ⟨v,σ',⟨rfl,rfl⟩,h⟩;exact ⟨_,_,⟨rfl,rfl⟩,h⟩
 ·rintro ⟨o,n,⟨rfl,rfl⟩,h⟩;exact ⟨_,_,⟨rfl,rfl⟩,h⟩
@[go_sem] theorem Aho {x:Af}:Wo A (.len true x) F σ Q↔∃ s,Fr.ev F x = .s s∧Q (.i .i64 s.size) σ:=by
 rw [Cw (by intros;simp)]
 simp only [Ad]
 generalize Fr.ev F x=vx
 cases vx<;>simp
 constructor
 ·rintro ⟨v,σ',⟨rfl,rfl⟩,h⟩;exact h
 ·intro h;exact ⟨_,_,⟨rfl,rfl⟩,h⟩
@[go_sem] theorem Ajc {ty esz bytes:Nat} {x y:Af}:Wo A (.app ty esz bytes x y) F σ Q↔∃ o n,Fr.ev F x = .sl o n∧∃ o' m,Fr.ev F y = .sl o' m∧∃ v σ',NN ty esz bytes o n o' m σ=some (v,σ')∧Q v σ':=by
 rw [Cw (by intros;simp)]
 simp only [Ad]
 constructor
 ·rintro ⟨v,σ',h,hq⟩
  split at h
  ·rename_i o n o' m h1 h2;exact ⟨o,n,h1,o',m,h2,v,σ',h,hq⟩
  ·cases h
 ·rintro ⟨o,n,h1,o',m,h2,v,σ',h,hq⟩
  exact ⟨v,σ',by simp only [h1,h2];exact h,hq⟩
@[go_sem] theorem Ajg {esz:Nat} {x y:Af}:Wo A (.cpy esz x y) F σ Q↔∃ o n,Fr.ev F x = .sl o n∧∃ o' m,Fr.ev F y = .sl o' m∧∃ v σ',A3L esz o n o' m σ=some (v,σ')∧Q v σ':=by
 rw [Cw (by intros;simp)]
 simp only [Ad]
 constructor
 ·rintro ⟨v,σ',h,hq⟩
  split at h
  ·rename_i o n o' m h1 h2;exact ⟨o,n,h1,o',m,h2,v,σ',h,hq⟩
  ·cases h
 ·rintro ⟨o,n,h1,o',m,h2,v,σ',h,hq⟩
  exact ⟨v,σ',by simp only [h1,h2];exact h,hq⟩
@[go_sem] theorem Ajm {mx:Bool} {x y:Af}:Wo A (.mnx mx x y) F σ Q↔∃ k a,Fr.ev F x = .i k a∧∃ c,Fr.ev F y = .i k c∧Q (.i k (U7 mx a c)) σ:=by
 rw [Cw (by intros;simp)]
 simp only [Ad]
 constructor
 ·rintro ⟨v,σ',h,hq⟩
  split at h
  ·rename_i k a k' c h1 h2
   split at h
   ·rename_i h3
    cases h
    subst h3
    exact ⟨k,a,h1,c,h2,hq⟩
   ·cases h
  ·cases h
 ·rintro ⟨k,a,h1,c,h2,hq⟩
  exact ⟨_,_,by simp only [h1,h2,if_true],hq⟩
@[go_sem] theorem Afr {g:Nat} {a c:List AV} {args:List Af}:Wo A (.call (.c (.f g a c)) args) F σ Q↔Wk A g (a++args.map (Fr.ev F)++c) σ Q:=A1a rfl
@[go_sem] theorem Afs {t:Nat} {args:List Af}:Wo A (.call (.t t) args) F σ Q↔∃ g a c,Fr.tmp F t = .f g a c∧Wk A g (a++args.map (Fr.ev F)++c) σ Q:=by
 constructor
 ·rintro ⟨n,v,σ',h,hq⟩
  simp only [AK] at h
  split at h
  ·rename_i g a c h1;exact ⟨g,a,c,h1,n,v,σ',h,hq⟩
  ·cases h
 ·rintro ⟨g,a,c,h1,h2⟩
  exact (A1a (f:=.t t) h1).2 h2
@[go_sem] theorem Abg:BW F σ []=true:=rfl
mutual
theorem WL:∀ v:AV,AV.eqb v v=true
 | .b x=>by simp [AV.eqb]
 | .i k n=>by simp [AV.eqb]
 | .s x=>by simp [AV.eqb]
 | .p o=>by simp [AV.eqb]
 | .sl o n=>by simp [AV.eqb]
 | .f g a c=>by simp [AV.eqb,Hz a,Hz c]
 | .nf=>rfl
 | .ag cs=>by simp [AV.eqb,Hz cs]
 | .tu cs=>by simp [AV.eqb,Hz cs]
theorem Hz:∀ l:List AV,AV.eqbL l l=true
 | []=>rfl
 | x::xs=>by simp [AV.eqbL,WL x,Hz xs]
end
theorem A0J {d:Nat} {n:Option Nat} {a:Af} {r:List Aq}:BW F σ (⟨some d,none,.ld n a⟩::r)=true↔(∃ id off,Fr.ev F a = .p (some (id,off))∧σ.loadV n id off=some (Fr.tmp F d))∧BW F σ r=true:=by
 simp only [BW,wanted,cond_true,Bool.and_eq_true]
 refine and_congr ?_ Iff.rfl
 constructor
 ·intro h
  split at h
  ·rename_i v σ' he
   obtain ⟨id,off,h1,h2,_⟩:=Td.1 he
   have:=YO _ _ h
   subst this
   exact ⟨id,off,h1,h2⟩
  ·cases h
 ·rintro ⟨id,off,h1,h2⟩
  have he:Ad (.ld n a) F σ=some (Fr.tmp F d,σ):=Td.2 ⟨id,off,h1,h2,rfl⟩
  rw [he]
  exact WL _
attribute [go_sem] A0J
@[go_sem] theorem Ahv (x:Bool):(AV.b x).cells=[.b x]:=rfl
@[go_sem] theorem Ahx (k:IntKind) (x:Int):(AV.i k x).cells=[.i k x]:=rfl
@[go_sem] theorem Ahz (x:ByteArray):(AV.s x).cells=[.s x]:=rfl
@[go_sem] theorem Ahy (x:Option (Nat×Nat)):(AV.p x).cells=[.p x]:=rfl
@[go_sem] theorem AfI (x:Option (Nat×Nat)) (n:Nat):(AV.sl x n).cells=[.sl x n]:=rfl
@[go_sem] theorem Ahw (g:Nat) (a c:List AV):(AV.f g a c).cells=[.f g a c]:=rfl
@[go_sem] theorem AfH:AV.nf.cells=[.nf]:=rfl
@[go_sem] theorem AfG (l:List AV):(AV.ag l).cells=l:=rfl
@[go_sem] theorem Ajz (x:Bool):(AV.b x).cell=true:=rfl
@[go_sem] theorem AjB (k:IntKind) (x:Int):(AV.i k x).cell=true:=rfl
@[go_sem] theorem AjD (x:ByteArray):(AV.s x).cell=true:=rfl
@[go_sem] theorem AjC (x:Option (Nat×Nat)):(AV.p x).cell=true:=rfl
@[go_sem] theorem Ahu (x:Option (Nat×Nat)) (n:Nat):(AV.sl x n).cell=true:=rfl
@[go_sem] theorem AjA (g:Nat) (a c:List AV):(AV.f g a c).cell=true:=rfl
@[go_sem] theorem Aht:AV.nf.cell=true:=rfl
@[go_sem] theorem Ab9 (cells:List AV):Bg F cells []=some cells:=rfl
@[go_sem] theorem A99 {cells:List AV} {off sz:Nat} {x:Af} {r:List (Nat×Nat×Af)} (h1:(Fr.ev F x).cells.length=sz) (h2:(Fr.ev F x).cells.all AV.cell=true) (h3:off+sz≤cells.length):Bg F cells ((off,sz,x)::r)=Bg F (KW cells off (Fr.ev F x).cells) r:=by
 have h3':Nat.ble (off+sz) cells.length=true:=by rw [Nat.ble_eq];exact h3
 have h1':Nat.beq (Fr.ev F x).cells.length sz=true:=by rw [h1];exact Nat.beq_refl sz
 simp only [Bg,h1',h2,h3',Bool.and_self,cond_true]
theorem A3V (cells:List AV) (off:Nat) (xs:List AV):KW cells off xs=cells.take off++xs++cells.drop (off+xs.length):=rfl
attribute [go_sem] A3V List.length_cons List.length_nil List.all_cons List.all_nil Bool.and_self Bool.and_true Bool.true_and List.take_succ_cons List.take_zero List.drop_succ_cons List.drop_zero List.take_nil List.drop_nil Nat.zero_add Nat.add_zero Nat.mul_one Nat.le_refl
@[go_sem] theorem Aak:BJ F σ []=some []:=rfl
@[go_sem] theorem AdC {a:Nat}:BJ F σ [.t a]=some [Fr.tmp F a]:=rfl
@[go_sem] theorem AdD {a b:Nat}:BJ F σ [.t a,.t b]=some [Fr.tmp F a,Fr.tmp F b]:=rfl
@[go_sem] theorem AdE {a b c:Nat}:BJ F σ [.t a,.t b,.t c]=some [Fr.tmp F a,Fr.tmp F b,Fr.tmp F c]:=rfl
@[go_sem] theorem AkV:Vg [] = .tu []:=rfl
@[go_sem] theorem AkW (v:AV):Vg [v]=v:=rfl
@[go_sem] theorem AkX (v w:AV) (l:List AV):Vg (v::w::l) = .tu (v::w::l):=rfl
attribute [go_sem] decide_true decide_false Bool.not_true Bool.not_false cond_true cond_false not_true_eq_false not_false_eq_true if_true if_false false_and and_false exists_false imp_false
attribute [go_sem] AV.b.injEq AV.i.injEq AV.s.injEq AV.p.injEq AV.sl.injEq AV.f.injEq AV.ag.injEq AV.tu.injEq Option.some.injEq Prod.mk.injEq true_and and_true and_self exists_eq_left' exists_eq' exists_and_left and_assoc
 List.map_cons List.map_nil List.append_nil List.nil_append List.cons_append Option.map_some Option.map_none decide_eq_true_eq decide_eq_false_iff_not forall_const Bool.not_eq_true Bool.not_eq_false reduceCtorEq false_implies implies_true
end
theorem AG {x:Int} (h1 : -9223372036854775808≤x) (h2:x < 9223372036854775808):IntKind.i64.wrap x=x:=by
 simp only [IntKind.wrap,IntKind.signed,IntKind.bits]
 simp
 omega
theorem HL (x:Int):IntKind.u64.wrap x=x % 18446744073709551616:=by
 simp [IntKind.wrap,IntKind.signed,IntKind.bits]
section
variable {e:Option NW} {k:IntKind} {a c:Int}
@[go_sem] theorem AfC:B1 .add e (.i k a) (.i k c)=some (.i k (k.wrap (a+c))):=by simp [B1,EX]
@[go_sem] theorem AfE:B1 .sub e (.i k a) (.i k c)=some (.i k (k.wrap (a - c))):=by simp [B1,EX]
@[go_sem] theorem AfD:B1 .mul e (.i k a) (.i k c)=some (.i k (k.wrap (a * c))):=by simp [B1,EX]
theorem A5i (h:c≠0):B1 .rem e (.i k a) (.i k c)=some (.i k (a.tmod c)):=by simp [B1,EX,h]
@[go_sem] theorem Wt:B1 .eql e (.i k a) (.i k c)=some (.b (decide (a=c))):=by
 simp [B1,EX]
 by_cases h:a=c<;>simp [h]
@[go_sem] theorem Wu:B1 .neq e (.i k a) (.i k c)=some (.b (!decide (a=c))):=by
 simp [B1,EX,bne]
 by_cases h:a=c<;>simp [h]
@[go_sem] theorem A5h:B1 .lss e (.i k a) (.i k c)=some (.b (decide (a < c))):=by simp [B1,EX]
@[go_sem] theorem A5g:B1 .leq e (.i k a) (.i k c)=some (.b (decide (a≤c))):=by simp [B1,EX]
@[go_sem] theorem A5f:B1 .gtr e (.i k a) (.i k c)=some (.b (decide (c < a))):=by simp [B1,EX]
@[go_sem] theorem A5e:B1 .geq e (.i k a) (.i k c)=some (.b (decide (c≤a))):=by simp [B1,EX]
end
@[go_sem] theorem Aes (x y:Bool):B1 .eql (some .b) (.b x) (.b y)=some (.b (x == y)):=rfl
@[go_sem] theorem Aet (x y:Bool):B1 .neq (some .b) (.b x) (.b y)=some (.b (!(x == y))):=rfl
theorem WA {a b:ByteArray}:a.toList=b.toList↔a=b:=by
 have key:∀ a:ByteArray,a.toList=a.data.toList:=fun a=>by
  simp [ByteArray.toList_eq]
 constructor
 ·intro h
  rw [key,key] at h
  cases a;cases b
  simp at h
  rw [h]
 ·rintro rfl;rfl
@[go_sem] theorem A3H {e:Option NW} (x y:ByteArray):B1 .eql e (.s x) (.s y)=some (.b (decide (x=y))):=by
 simp only [B1,A5d,Option.some.injEq,AV.b.injEq]
 by_cases h:x=y
 ·simp [h]
 ·have:x.toList≠y.toList:=fun h2=>h (WA.1 h2)
  simp [h,this]
@[go_sem] theorem A3I {e:Option NW} (x y:ByteArray):B1 .neq e (.s x) (.s y)=some (.b (!decide (x=y))):=by
 simp only [B1,A5d,Option.some.injEq,AV.b.injEq]
 by_cases h:x=y
 ·simp [h]
 ·have:x.toList≠y.toList:=fun h2=>h (WA.1 h2)
  simp [h,this]
def Wd (w:BitVec 64):AV:=.i .u64 (w.toNat:Int)
theorem Ha (w:BitVec 64):BitVec.ofInt 64 (w.toNat:Int)=w:=by
 apply BitVec.eq_of_toNat_eq
 rw [BitVec.ofInt_natCast,BitVec.toNat_ofNat]
 exact Nat.mod_eq_of_lt w.isLt
theorem A14 (w:BitVec 64):IntKind.u64.wrap (w.toNat:Int)=(w.toNat:Int):=by
 rw [HL]
 have:=w.isLt
 omega
section
variable {e:Option NW} {a b:BitVec 64}
@[go_sem] theorem Amw:AV.i .u64 0=Wd 0#64:=rfl
@[go_sem] theorem Amx:AV.i .u64 1=Wd 1#64:=rfl
@[go_sem] theorem Wv:B1 .and e (Wd a) (Wd b)=some (Wd (a &&& b)):=by
 simp only [Wd,B1,EX,if_true,IntKind.bits,Ha,A14]
 rfl
@[go_sem] theorem A8S:B1 .or e (Wd a) (Wd b)=some (Wd (a ||| b)):=by
 simp only [Wd,B1,EX,if_true,IntKind.bits,Ha,A14]
 rfl
@[go_sem] theorem Ww:B1 .andNot e (Wd a) (Wd b)=some (Wd (a &&& ~~~b)):=by
 simp only [Wd,B1,EX,if_true,IntKind.bits,Ha,A14]
 rfl
@[go_sem] theorem A5o:B1 .sub e (Wd a) (Wd b)=some (Wd (a - b)):=by
 simp only [Wd,B1,EX,if_true,HL,Option.some.injEq,AV.i.injEq,true_and]
 rw [BitVec.toNat_sub]
 have:=a.isLt;have:=b.isLt
 omega
@[go_sem] theorem A5j:B1 .add e (Wd a) (Wd b)=some (Wd (a+b)):=by
 simp only [Wd,B1,EX,if_true,HL,Option.some.injEq,AV.i.injEq,true_and]
 rw [BitVec.toNat_add]
 have:=a.isLt;have:=b.isLt
 omega
@[go_sem] theorem A5k:B1 .eql e (Wd a) (Wd b)=some (.b (decide (a=b))):=by
 simp only [Wd,Wt,Int.natCast_inj,BitVec.toNat_inj]
@[go_sem] theorem A5l:B1 .neq e (Wd a) (Wd b)=some (.b (!decide (a=b))):=by
 simp only [Wd,Wu,Int.natCast_inj,BitVec.toNat_inj]
theorem A5m {n:Nat} (h:n < 64):B1 .shl e (Wd a) (.i .i64 n)=some (Wd (a <<< n)):=by
 have h0:¬ ((n:Int) < 0):=by omega
 simp only [Wd,B1,Gj,if_neg h0,IntKind.bits,HL,Option.some.injEq,AV.i.injEq,true_and,Int.toNat_natCast]
 rw [Nat.min_eq_left (by omega),BitVec.toNat_shiftLeft,Nat.shiftLeft_eq]
 rw [show ((2:Int) ^ n)=((2 ^ n:Nat):Int) by simp,← Int.natCast_mul]
 rfl
theorem A5n {n:Nat} (h:n < 64):B1 .shr e (Wd a) (.i .i64 n)=some (Wd (a >>> n)):=by
 have h0:¬ ((n:Int) < 0):=by omega
 simp only [Wd,B1,Gj,if_neg h0,IntKind.bits,Option.some.injEq,AV.i.injEq,true_and,Int.toNat_natCast]
 rw [Nat.min_eq_left (by omega),BitVec.toNat_ushiftRight,Nat.shiftRight_eq_div_pow]
 rw [show ((2:Int) ^ n)=((2 ^ n:Nat):Int) by simp,Int.fdiv_eq_ediv_of_nonneg _ (Int.natCast_nonneg _)]
 rfl
end
@[go_sem] theorem AV.cell_Wd (w:BitVec 64):(Wd w).cell=true:=rfl
@[go_sem] theorem AV.cells_Wd (w:BitVec 64):(Wd w).cells=[Wd w]:=rfl
section
variable {A:D9}
end
end Go.AM
namespace Go.AM
open Go
class Rdr (α:Type) where
 size:Nat
 rd:St→List AV→Option α
 len:∀ {σ:St} {cs:List AV} {x:α},rd σ cs=some x→cs.length=size
 ext:∀ {σ σ':St} {cs:List AV} {x:α},D8 σ σ'→rd σ cs=some x→rd σ' cs=some x
 cell:∀ {σ:St} {cs:List AV} {x:α},rd σ cs=some x→cs.all AV.cell=true
def A38 (cs:List AV):Option Int:=match cs with
 | [.i .i64 n]=>some n
 | _=>none
theorem QD {cs:List AV} {n:Int}:A38 cs=some n↔cs=[.i .i64 n]:=by
 constructor
 ·intro h
  unfold A38 at h
  split at h
  ·cases h;rfl
  ·cases h
 ·rintro rfl;rfl
instance : Rdr Int where
 size:=1
 rd _ cs:=A38 cs
 len h:=by rw [QD.1 h];rfl
 ext _ h:=h
 cell h:=by rw [QD.1 h];rfl
def Vh (cs:List AV):Option Bool:=match cs with
 | [.b n]=>some n
 | _=>none
theorem Nb {cs:List AV} {n:Bool}:Vh cs=some n↔cs=[.b n]:=by
 constructor
 ·intro h
  unfold Vh at h
  split at h
  ·cases h;rfl
  ·cases h
 ·rintro rfl;rfl
instance : Rdr Bool where
 size:=1
 rd _ cs:=Vh cs
 len h:=by rw [Nb.1 h];rfl
 ext _ h:=h
 cell h:=by rw [Nb.1 h];rfl
def QF (cs:List AV):Option (BitVec 64):=match cs with
 | [.i .u64 n]=>if 0≤n∧n < 18446744073709551616 then some (BitVec.ofInt 64 n) else none
 | _=>none
theorem Nc {cs:List AV} {n:BitVec 64}:QF cs=some n↔cs=[Wd n]:=by
 constructor
 ·intro h
  unfold QF at h
  split at h
  ·split at h
   ·rename_i n hn
    cases h
    simp only [Wd,List.cons.injEq,and_true,AV.i.injEq,true_and]
    obtain ⟨m,rfl⟩:=Int.eq_ofNat_of_zero_le hn.1
    rw [BitVec.ofInt_natCast,BitVec.toNat_ofNat]
    omega
   ·cases h
  ·cases h
 ·rintro rfl
  have:=n.isLt
  simp only [QF,Wd]
  rw [if_pos (by omega),Ha]
instance : Rdr (BitVec 64) where
 size:=1
 rd _ cs:=QF cs
 len h:=by rw [Nc.1 h];rfl
 ext _ h:=h
 cell h:=by rw [Nc.1 h];rfl
def A39 (cs:List AV):Option ByteArray:=match cs with
 | [.s n]=>some n
 | _=>none
theorem QE {cs:List AV} {n:ByteArray}:A39 cs=some n↔cs=[.s n]:=by
 constructor
 ·intro h
  unfold A39 at h
  split at h
  ·cases h;rfl
  ·cases h
 ·rintro rfl;rfl
instance : Rdr ByteArray where
 size:=1
 rd _ cs:=A39 cs
 len h:=by rw [QE.1 h];rfl
 ext _ h:=h
 cell h:=by rw [QE.1 h];rfl
structure U8 where
 n:Nat
def Aaj (cs:List AV):Option U8:=match cs with
 | [.i .u8 n]=>if 0≤n∧n < 256 then some ⟨n.toNat⟩ else none
 | _=>none
theorem A3a {cs:List AV} {n:U8}:Aaj cs=some n↔cs=[.i .u8 (n.n:Int)]∧n.n < 256:=by
 constructor
 ·intro h
  unfold Aaj at h
  split at h
  ·split at h
   ·rename_i n hn
    cases h
    obtain ⟨m,rfl⟩:=Int.eq_ofNat_of_zero_le hn.1
    simp only [Int.toNat_natCast]
    exact ⟨trivial,by omega⟩
   ·cases h
  ·cases h
 ·rintro ⟨rfl,h⟩
  simp only [Aaj]
  rw [if_pos (by omega)]
  rfl
instance : Rdr U8 where
 size:=1
 rd _ cs:=Aaj cs
 len h:=by rw [(A3a.1 h).1];rfl
 ext _ h:=h
 cell h:=by rw [(A3a.1 h).1];rfl
section
variable {α:Type} [Rdr α]
def HE (σ:St):Nat→List AV→Option (List α)
 | 0,cs=>if cs.length=0 then some [] else none
 | n+1,cs=>match Rdr.rd σ (cs.take (Rdr.size α)),HE σ n (cs.drop (Rdr.size α)) with
  | some x,some xs=>some (x::xs)
  | _,_=>none
theorem Na {σ:St}:∀ {n:Nat} {cs:List AV} {xs:List α},HE σ n cs=some xs→xs.length=n∧cs.length=n * Rdr.size α:=by
 intro n
 induction n with
 | zero =>
  intro cs xs h
  simp only [HE] at h
  split at h
  ·rename_i h0;cases h;exact ⟨rfl,by omega⟩
  ·cases h
 | succ n ih =>
  intro cs xs h
  simp only [HE] at h
  split at h
  ·rename_i x ys h1 h2
   cases h
   obtain ⟨h3,h4⟩:=ih h2
   have h5:=Rdr.len h1
   rw [List.length_drop] at h4
   rw [List.length_take] at h5
   refine ⟨by simp [h3],?_⟩
   rw [Nat.succ_mul]
   omega
  ·cases h
theorem A4n {σ σ':St} (he:D8 σ σ'):∀ {n:Nat} {cs:List AV} {xs:List α},HE σ n cs=some xs→HE σ' n cs=some xs:=by
 intro n
 induction n with
 | zero=>intro cs xs h;exact h
 | succ n ih =>
  intro cs xs h
  simp only [HE] at h ⊢
  split at h
  ·rename_i x ys h1 h2
   rw [Rdr.ext he h1,ih h2]
   exact h
  ·cases h
theorem A7M {σ:St}:∀ {n:Nat} {cs:List AV} {xs:List α},HE σ n cs=some xs→∀ (i:Nat) (h:i < xs.length),Rdr.rd σ ((cs.drop (i * Rdr.size α)).take (Rdr.size α))=some xs[i]:=by
 intro n
 induction n with
 | zero =>
  intro cs xs h i hi
  simp only [HE] at h
  split at h
  ·cases h;simp at hi
  ·cases h
 | succ n ih =>
  intro cs xs h i hi
  simp only [HE] at h
  split at h
  ·rename_i x ys h1 h2
   cases h
   cases i with
   | zero=>simpa using h1
   | succ i =>
    have:=ih h2 i (by simpa using hi)
    rw [List.drop_drop] at this
    rw [List.getElem_cons_succ,← this]
    congr 3
    rw [Nat.succ_mul]
    omega
  ·cases h
def A4o (σ:St) (cs:List AV):Option (List α):=match cs with
 | [.sl o n]=>(G4 (Rdr.size α) o n σ).bind (HE σ n)
 | _=>none
theorem Hb {σ:St} {cs:List AV} {xs:List α}:A4o σ cs=some xs↔∃ o ys,cs=[.sl o xs.length]∧G4 (Rdr.size α) o xs.length σ=some ys∧HE σ xs.length ys=some xs:=by
 constructor
 ·intro h
  unfold A4o at h
  split at h
  ·rename_i o n
   obtain ⟨ys,h1,h2⟩:=Option.bind_eq_some_iff.1 h
   obtain ⟨h3,_⟩:=Na h2
   subst h3
   exact ⟨o,ys,rfl,h1,h2⟩
  ·cases h
 ·rintro ⟨o,ys,rfl,h1,h2⟩
  simp only [A4o,h1,Option.bind_some,h2]
theorem A7V {σ σ':St} (he:D8 σ σ') {esz:Nat} {o:Option (Nat×Nat)} {n:Nat} {ys:List AV} (h:G4 esz o n σ=some ys):G4 esz o n σ' = some ys:=by
 unfold G4 at h ⊢
 cases o with
 | none=>exact h
 | some x=>exact he.loadN h
instance : Rdr (List α) where
 size:=1
 rd σ cs:=A4o σ cs
 len h:=by obtain ⟨o,ys,rfl,_⟩:=Hb.1 h;rfl
 ext he h:=by
  obtain ⟨o,ys,rfl,h1,h2⟩:=Hb.1 h
  exact Hb.2 ⟨o,ys,rfl,A7V he h1,A4n he h2⟩
 cell h:=by obtain ⟨o,ys,rfl,_⟩:=Hb.1 h;rfl
def Rd (σ:St) (v:AV) (x:α):Prop:=Rdr.rd σ [v]=some x
theorem Rd.ext {σ σ':St} {v:AV} {x:α} (h:Rd σ v x) (he:D8 σ σ'):Rd σ' v x:=Rdr.ext he h
theorem Rd.sl {σ:St} {v:AV} {xs:List α} (h:Rd σ v xs):∃ o,v = .sl o xs.length:=by
 obtain ⟨o,ys,h1,_⟩:=Hb.1 h
 simp only [List.cons.injEq,and_true] at h1
 exact ⟨o,h1⟩
theorem Rd.nil {σ:St}:Rd σ (.sl none 0) ([]:List α):=Hb.2 ⟨none,[],rfl,rfl,rfl⟩
theorem Rd.at {σ:St} {v:AV} {xs:List α} (h:Rd σ v xs) (hs:0 < Rdr.size α) {i:Nat} (hi:i < xs.length) {k:IntKind} :
  ∃ id off cs,A42 (Rdr.size α) v (.i k i)=some (.p (some (id,off)))∧σ.loadN id off (Rdr.size α)=some cs∧Rdr.rd σ cs=some xs[i]:=by
 obtain ⟨o,ys,h1,h2,h3⟩:=Hb.1 h
 simp only [List.cons.injEq,and_true] at h1
 subst h1
 have h4:=A7M h3 i hi
 obtain ⟨_,h5⟩:=Na h3
 unfold G4 at h2
 cases o with
 | none =>
  simp only at h2
  cases hb:Nat.beq xs.length 0 with
  | false=>rw [hb] at h2;cases h2
  | true=>have:=Nat.eq_of_beq_eq_true hb;omega
 | some x =>
  obtain ⟨id,off⟩:=x
  simp only at h2
  obtain ⟨h6,h7⟩:=Xg h2
  refine ⟨id,off+i * Rdr.size α,_,?_,?_,h4⟩
  ·simp only [A42,Int.toNat_natCast]
   rw [if_pos (by omega)]
  ·have hle:i * Rdr.size α+Rdr.size α≤xs.length * Rdr.size α:=by
    rw [← Nat.succ_mul]
    exact Nat.mul_le_mul_right _ hi
   refine HB (by rw [List.length_take,List.length_drop];omega) fun j hj=>?_
   rw [Nat.add_assoc,h7 _ (by omega),List.getElem?_take_of_lt hj,List.getElem?_drop]
end
theorem Rd.int {σ:St} {v:AV} {x:Int}:Rd σ v x↔v = .i .i64 x:=by
 show A38 [v]=some x↔_
 rw [QD]
 simp
theorem Rd.word {σ:St} {v:AV} {x:BitVec 64}:Rd σ v x↔v=Wd x:=by
 show QF [v]=some x↔_
 rw [Nc]
 simp
theorem Rd.bool {σ:St} {v:AV} {x:Bool}:Rd σ v x↔v = .b x:=by
 show Vh [v]=some x↔_
 rw [Nb]
 simp
theorem Rd.str {σ:St} {v:AV} {x:ByteArray}:Rd σ v x↔v = .s x:=by
 show A39 [v]=some x↔_
 rw [QE]
 simp
def CI (σ:St) (id ty esz len:Nat) (cells:List AV):Prop :=
 ∃ cs,σ.get id=some { ty:=ty,rw:=true,esz:=esz,len:=len,cs:=cs }∧cells.length=len∧∀ j,j < len→cs.get j=cells[j]?
theorem CI.ext {σ σ':St} {id ty esz len:Nat} {cells:List AV} (h:CI σ id ty esz len cells) (he:D8 σ σ'):CI σ' id ty esz len cells:=by
 obtain ⟨cs,h1,h2⟩:=h
 exact ⟨cs,he.keep _ _ h1,h2⟩
theorem CI.of_get {σ σ':St} {id ty esz len:Nat} {cells:List AV} (h:CI σ id ty esz len cells) (he:σ'.get id=σ.get id):CI σ' id ty esz len cells:=by
 obtain ⟨cs,h1,h2⟩:=h
 exact ⟨cs,he.trans h1,h2⟩
theorem CI.load {σ:St} {id ty esz len:Nat} {cells:List AV} (h:CI σ id ty esz len cells) {j:Nat} (hj:j < len):σ.load1 id j=cells[j]?:=by
 obtain ⟨cs,h1,h2,h3⟩:=h
 unfold St.load1
 rw [h1]
 have:Nat.blt j len=true:=by simpa [Nat.blt_eq] using hj
 simp only [this,cond_true]
 exact h3 j hj
theorem CI.new {σ:St} {ty esz len:Nat} {cells:List AV} (hl:cells.length=len):CI (σ.new { ty:=ty,rw:=true,esz:=esz,len:=len,cs:=Tm.ofList cells }) σ.next ty esz len cells :=
 ⟨_,by rw [Bc,if_pos rfl],hl,fun j hj=>Tm.get_ofList cells j⟩
theorem CI.lt {σ:St} {id ty esz len:Nat} {cells:List AV} (h:CI σ id ty esz len cells) (hn:Hg σ):id < σ.next:=by
 obtain ⟨cs,h1,_⟩:=h
 rcases Nat.lt_or_ge id σ.next with h2 | h2
 ·exact h2
 ·rw [hn _ h2] at h1;cases h1
theorem CI.store {σ:St} {id ty esz len:Nat} {cells:List AV} (h:CI σ id ty esz len cells):∀ {vs:List AV} {off:Nat},off+vs.length≤len→vs.all AV.cell=true →
  ∃ σ',σ.storeN id off vs=some σ'∧CI σ' id ty esz len (cells.take off++vs++cells.drop (off+vs.length))∧σ'.next=σ.next∧∀ j,j≠id→σ'.get j=σ.get j:=by
 intro vs
 induction vs generalizing σ cells with
 | nil =>
  intro off ho _
  refine ⟨σ,rfl,?_,rfl,fun _ _=>rfl⟩
  simpa using h
 | cons v vs ih =>
  intro off ho hc
  simp only [List.length_cons] at ho
  simp only [List.all_cons,Bool.and_eq_true] at hc
  obtain ⟨cs,h1,h2,h3⟩:=h
  have hb:Nat.blt off len=true:=by simp [Nat.blt_eq];omega
  have e1:σ.store1 id off v=some (σ.put id { ty:=ty,rw:=true,esz:=esz,len:=len,cs:=cs.set off v }):=by
   unfold St.store1
   rw [h1]
   simp only [hb,hc.1,Bool.and_true,cond_true]
  have o1:CI (σ.put id { ty:=ty,rw:=true,esz:=esz,len:=len,cs:=cs.set off v }) id ty esz len (cells.set off v):=by
   refine ⟨_,by rw [KB,if_pos rfl],by rw [List.length_set];exact h2,fun j hj=>?_⟩
   rw [Tm.get_set,List.getElem?_set]
   by_cases e:j=off
   ·subst e;rw [if_pos rfl,if_pos rfl,if_pos (by omega)]
   ·rw [if_neg e,if_neg (Ne.symm e)];exact h3 j hj
  obtain ⟨σ',g1,g2,g3,g4⟩:=ih o1 (off:=off+1) (by omega) hc.2
  refine ⟨σ',?_,?_,g3,fun j hj=>?_⟩
  ·unfold St.storeN
   rw [e1]
   exact g1
  ·have e2:(cells.set off v).take (off+1)++vs++(cells.set off v).drop (off+1+vs.length)=cells.take off++(v::vs)++cells.drop (off+(v::vs).length):=by
    rw [List.take_add_one,List.getElem?_set,if_pos rfl,if_pos (by omega),List.take_set_of_le (by omega),List.drop_set_of_lt (by omega)]
    simp only [Option.toList,List.append_assoc,List.cons_append,List.nil_append,List.length_cons]
    rw [show off+1+vs.length=off+(vs.length+1) by omega]
   rw [e2] at g2
   exact g2
  ·rw [g4 j hj,KB,if_neg hj]
def GM (σ0 σ:St) (v:AV) (ty esz n:Nat) (cells:List AV):Prop :=
 (v = .sl none 0∧n=0∧cells=[])∨∃ id,v = .sl (some (id,0)) n∧σ0.get id=none∧CI σ id ty esz (n * esz) cells
theorem GM.ext {σ0 σ σ':St} {v:AV} {ty esz n:Nat} {cells:List AV} (h:GM σ0 σ v ty esz n cells) (he:D8 σ σ'):GM σ0 σ' v ty esz n cells:=by
 rcases h with h | ⟨id,h1,h2,h3⟩
 ·exact .inl h
 ·exact .inr ⟨id,h1,h2,h3.ext he⟩
theorem GM.nil {σ0 σ:St} {ty esz:Nat}:GM σ0 σ (.sl none 0) ty esz 0 []:=.inl ⟨rfl,rfl,rfl⟩
theorem GM.sl {σ0 σ:St} {v:AV} {ty esz n:Nat} {cells:List AV} (h:GM σ0 σ v ty esz n cells):∃ o,v = .sl o n:=by
 rcases h with ⟨rfl,rfl,_⟩ | ⟨id,h1,_⟩
 ·exact ⟨none,rfl⟩
 ·exact ⟨_,h1⟩
theorem GM.len {σ0 σ:St} {v:AV} {ty esz n:Nat} {cells:List AV} (h:GM σ0 σ v ty esz n cells):cells.length=n * esz:=by
 rcases h with ⟨rfl,rfl,rfl⟩ | ⟨id,_,_,h1⟩
 ·simp
 ·obtain ⟨cs,_,h2,_⟩:=h1;exact h2
theorem GM.src {σ0 σ:St} {o:Option (Nat×Nat)} {ty esz n:Nat} {cells:List AV} (h:GM σ0 σ (.sl o n) ty esz n cells):G4 esz o n σ=some cells:=by
 rcases h with ⟨h1,rfl,rfl⟩ | ⟨id,h1,_,h2⟩
 ·cases h1;rfl
 ·cases h1
  have h4:cells.length=n * esz:=by obtain ⟨cs,_,h4,_⟩:=h2;exact h4
  exact HB h4 fun j hj=>by rw [Nat.zero_add];exact h2.load hj
theorem GM.rd {α:Type} [Rdr α] {σ0 σ:St} {v:AV} {ty n:Nat} {cells:List AV} {xs:List α} (h:GM σ0 σ v ty (Rdr.size α) n cells) (hx:HE σ n cells=some xs):Rd σ v xs:=by
 obtain ⟨o,rfl⟩:=h.sl
 obtain ⟨h1,_⟩:=Na hx
 subst h1
 exact Hb.2 ⟨o,cells,rfl,h.src,hx⟩
theorem CI.loadV {σ:St} {id ty esz len:Nat} {cells:List AV} (h:CI σ id ty esz len cells) {j:Nat} (hj:j < len) {c:AV} (hc:cells[j]? = some c):σ.loadV none id j=some c:=(h.load hj).trans hc
theorem D8.upd {a b c:St} (h:D8 a b) {id:Nat} (hid:a.get id=none) (hn:id < b.next) (hx:c.next=b.next) (hg:∀ j,j≠id→c.get j=b.get j):D8 a c:=by
 refine ⟨by rw [hx];exact h.nx,fun j o x=>?_,fun j hj=>?_⟩
 ·have:j≠id:=by rintro rfl;rw [hid] at x;cases x
  rw [hg j this]
  exact h.keep _ _ x
 ·rw [hx] at hj
  rw [hg j (by omega)]
  exact h.nd _ hj
theorem GM.upd {σ0 σ σ':St} {v:AV} {ty esz n r:Nat} {cells:List AV} (h:GM σ0 σ v ty esz n cells) (hne:∀ off n,v≠.sl (some (r,off)) n) (hg:∀ j,j≠r→σ'.get j=σ.get j):GM σ0 σ' v ty esz n cells:=by
 rcases h with h | ⟨id,h1,h2,h3⟩
 ·exact .inl h
 ·exact .inr ⟨id,h1,h2,h3.of_get (hg id (by rintro rfl;exact hne _ _ h1))⟩
@[go_sem] theorem AeA {σ:St} {ty esz len j:Nat} {rw:Bool} {cells:List AV}:(σ.new { ty:=ty,rw:=rw,esz:=esz,len:=len,cs:=Tm.ofList cells }).loadV none σ.next j=if j < len then cells[j]? else none:=by
 show St.load1 _ _ _=_
 unfold St.load1
 rw [Bc,if_pos rfl]
 by_cases h:j < len
 ·have:Nat.blt j len=true:=by simpa [Nat.blt_eq] using h
  simp only [this,cond_true,if_pos h,Tm.get_ofList]
 ·have:Nat.blt j len=false:=by
   cases hb:Nat.blt j len with
   | false=>rfl
   | true=>rw [Nat.blt_eq] at hb;exact absurd hb h
  simp only [this,cond_false,if_neg h]
theorem CI.loadAll {σ:St} {id ty esz len:Nat} {cells:List AV} (h:CI σ id ty esz len cells) {off n:Nat} (hn:off+n≤len):σ.loadV (some n) id off=some (.ag ((cells.drop off).take n)):=by
 have hl:cells.length=len:=by obtain ⟨cs,_,h4,_⟩:=h;exact h4
 have:σ.loadN id off n=some ((cells.drop off).take n):=by
  refine HB (by rw [List.length_take,List.length_drop];omega) fun j hj=>?_
  rw [h.load (by omega),List.getElem?_take_of_lt hj,List.getElem?_drop]
 unfold St.loadV
 simp only [this]
@[go_sem] theorem Adm {σ:St} {ty esz len n:Nat} {cells:List AV} (h1:cells.length=len) (h2:n=len):(σ.new { ty:=ty,rw:=true,esz:=esz,len:=len,cs:=Tm.ofList cells }).loadV (some n) σ.next 0=some (.ag cells):=by
 have h:CI (σ.new { ty:=ty,rw:=true,esz:=esz,len:=len,cs:=Tm.ofList cells }) σ.next ty esz len cells:=CI.new h1
 subst h2
 rw [h.loadAll (by omega),List.drop_zero,List.take_of_length_le (by omega)]
theorem GM.new {σ:St} (hn:Hg σ) {ty esz n:Nat} {cells:List AV} (hl:cells.length=n * esz):GM σ (σ.new { ty:=ty,rw:=true,esz:=esz,len:=n * esz,cs:=Tm.ofList cells }) (.sl (some (σ.next,0)) n) ty esz n cells :=
 .inr ⟨σ.next,rfl,hn _ (Nat.le_refl _),CI.new hl⟩
theorem GM.base {σ0 σ1 σ:St} {v:AV} {ty esz n:Nat} {cells:List AV} (h:GM σ1 σ v ty esz n cells) (he:D8 σ0 σ1):GM σ0 σ v ty esz n cells:=by
 rcases h with h | ⟨id,e1,e2,e3⟩
 ·exact .inl h
 ·refine .inr ⟨id,e1,?_,e3⟩
  cases hg:σ0.get id with
  | none=>rfl
  | some ob=>rw [he.keep _ _ hg] at e2;cases e2
end Go.AM
namespace Go.AM
open Go Go.Proofs
def C9 (i:Int):BitVec 64:=if 0≤i∧i < 64 then 1#64 <<< i.toNat else 0#64
def BX (s:BitVec 64):List Nat:=(List.range 64).filter fun i=>s.getLsbD i
theorem Tn {p q:Nat→Bool} {k:Nat} (h1:p k=true) (h2:∀ j,j < k→p j=false) (h3:∀ j,q j=(p j && j != k)):∀ n,(List.range n).filter p=if k < n then k::(List.range n).filter q else []:=by
 intro n
 induction n with
 | zero=>simp
 | succ n ih =>
  rw [List.range_succ,List.filter_append,List.filter_append,ih]
  rcases Nat.lt_trichotomy k n with h | h | h
  ·rw [if_pos h,if_pos (by omega),List.cons_append]
   congr 2
   have:q n=p n:=by
    rw [h3]
    have:(n != k)=true:=by simp;omega
    rw [this,Bool.and_true]
   simp only [List.filter_cons,this,List.filter_nil]
  ·subst h
   have e:(List.range k).filter q=[]:=by
    rw [List.filter_eq_nil_iff]
    intro j hj
    have:=h2 j (List.mem_range.1 hj)
    simp [h3,this]
   rw [if_neg (by omega),if_pos (by omega),e]
   simp [h1,h3]
  ·rw [if_neg (by omega),if_neg (by omega)]
   have:=h2 n h
   simp [this]
theorem A6E (s:BitVec 64) (h:s≠0#64):s.getLsbD (Lib.ctz 64 s.toNat)=true∧(∀ j,j < Lib.ctz 64 s.toNat→s.getLsbD j=false)∧(∀ j,(s &&& (s - 1#64)).getLsbD j=(s.getLsbD j && j != Lib.ctz 64 s.toNat))∧Lib.ctz 64 s.toNat < 64:=by
 have h0:s.toNat≠0:=fun e=>h (BitVec.eq_of_toNat_eq (by simpa using e))
 have hc:Lib.ctz 64 s.toNat=Lib.ctzFrom 64 s.toNat:=by simp [Lib.ctz,h0]
 obtain ⟨m,hm,hk⟩:=Lib.ctzFrom_spec 64 s.toNat (by omega) s.isLt
 rw [hc]
 generalize Lib.ctzFrom 64 s.toNat=k at hm hk
 have hb:∀ j,s.getLsbD j=(decide (j ≥ k) && (2 * m+1).testBit (j - k)):=by
  intro j
  show s.toNat.testBit j=_
  rw [hm,Nat.testBit_two_pow_mul]
 have hp:0 < 2 ^ k:=Nat.two_pow_pos k
 have hs1:(s - 1#64).toNat=2 ^ k * (2 * m)+(2 ^ k - 1):=by
  have h1:(s - 1#64).toNat=s.toNat - 1:=by
   rw [BitVec.toNat_sub]
   have:=s.isLt
   simp
   omega
  rw [h1,hm,Nat.mul_add,Nat.mul_one]
  omega
 have hb1:∀ j,(s - 1#64).getLsbD j=if j < k then (2 ^ k - 1).testBit j else (2 * m).testBit (j - k):=by
  intro j
  show (s - 1#64).toNat.testBit j=_
  rw [hs1,Nat.testBit_two_pow_mul_add _ (by omega)]
 refine ⟨?_,?_,?_,hk⟩
 ·rw [hb];simp
 ·intro j hj
  rw [hb]
  have:¬ j ≥ k:=by omega
  simp [this]
 ·intro j
  rw [BitVec.getLsbD_and,hb1,hb]
  rcases Nat.lt_trichotomy j k with h | h | h
  ·have:¬ j ≥ k:=by omega
   simp [this]
  ·subst h;simp
  ·obtain ⟨d,rfl⟩:∃ d,j=k+(d+1):=⟨j - k - 1,by omega⟩
   have h1:¬ k+(d+1) < k:=by omega
   have h2:k+(d+1) ≥ k:=by omega
   have h3:k+(d+1) - k=d+1:=by omega
   have h4:(k+(d+1) != k)=true:=by simp
   rw [if_neg h1,h3,h4,decide_eq_true h2]
   simp only [Bool.true_and,Bool.and_true,Nat.testBit_succ]
   have:(2 * m+1) / 2=2 * m / 2:=by omega
   rw [this,Bool.and_self]
theorem A0f {s:BitVec 64} (h:s≠0#64):BX s=Lib.ctz 64 s.toNat::BX (s &&& (s - 1#64)):=by
 obtain ⟨h1,h2,h3,h4⟩:=A6E s h
 have:=Tn (p:=fun j=>s.getLsbD j) (q:=fun j=>(s &&& (s - 1#64)).getLsbD j) h1 h2 h3 64
 rw [if_pos h4] at this
 exact this
theorem A0g:BX 0#64=[]:=by simp [BX]
theorem PY {s:BitVec 64} {i:Nat} (h:i∈BX s):i < 64∧s.getLsbD i=true:=by
 simpa [BX] using h
theorem KH {s:BitVec 64} {i:Nat}:i∈BX s↔s.getLsbD i=true:=by
 constructor
 ·intro h;exact (PY h).2
 ·intro h
  have:i < 64:=by
   rcases Nat.lt_or_ge i 64 with h1 | h1
   ·exact h1
   ·rw [BitVec.getLsbD_of_ge _ _ h1] at h;cases h
  simp [BX,this,h]
theorem Cm (i:Int) (j:Nat):(C9 i).getLsbD j=decide ((j:Int)=i∧j < 64):=by
 unfold C9
 split
 ·rename_i h
  obtain ⟨n,rfl⟩:=Int.eq_ofNat_of_zero_le h.1
  simp only [Int.toNat_natCast,BitVec.getLsbD_shiftLeft]
  by_cases hj:j < 64
  ·by_cases e:j=n
   ·subst e;simp [hj]
   ·have:¬ ((j:Int)=n):=by omega
    simp only [this,hj]
    simp
    intro h2 h3
    omega
  ·simp [hj]
 ·rename_i h
  simp
  intro e
  omega
theorem Nq (s:BitVec 64) (i:Int):(s &&& C9 i=0#64)↔¬ (0≤i∧s.getLsbD i.toNat=true):=by
 constructor
 ·rintro h ⟨h0,h1⟩
  have:=congrArg (fun x=>x.getLsbD i.toNat) h
  simp only [BitVec.getLsbD_and,h1,Bool.true_and,Cm] at this
  have h2:i.toNat < 64:=by
   rcases Nat.lt_or_ge i.toNat 64 with h2 | h2
   ·exact h2
   ·rw [BitVec.getLsbD_of_ge _ _ h2] at h1;cases h1
  simp at this
  omega
 ·intro h
  apply BitVec.eq_of_getLsbD_eq
  intro j hj
  rw [BitVec.getLsbD_and,Cm]
  simp
  intro h1 h2
  exfalso
  apply h
  have:i.toNat=j:=by omega
  rw [this]
  exact ⟨by omega,h1⟩
def Bx (s:BitVec 64) (i:Int):Bool:=decide (0≤i) && s.getLsbD i.toNat
theorem A9d (s:BitVec 64) (i:Int):(!decide (s &&& C9 i=0#64))=Bx s i:=by
 have h:=Nq s i
 unfold Bx
 cases hb:decide (s &&& C9 i=0#64) with
 | true =>
  have:=h.1 (of_decide_eq_true hb)
  by_cases h0:0≤i
  ·cases h1:s.getLsbD i.toNat with
   | false=>simp
   | true=>exact absurd ⟨h0,h1⟩ this
  ·simp [h0]
 | false =>
  have h2:¬ s &&& C9 i=0#64:=of_decide_eq_false hb
  have h3:0≤i∧s.getLsbD i.toNat=true:=Classical.byContradiction fun hn=>h2 (h.2 hn)
  simp [h3.1,h3.2]
theorem AH (s:BitVec 64) (i:Nat):Bx s (i:Int)=s.getLsbD i:=by simp [Bx]
def BC (p:Nat→Bool):BitVec 64:=(List.range 64).foldl (fun s i=>if p i then s ||| C9 i else s) 0#64
theorem AF (p:Nat→Bool) (j:Nat):(BC p).getLsbD j=(p j && decide (j < 64)):=by
 have key:∀ n,n≤64→((List.range n).foldl (fun s i=>if p i then s ||| C9 i else s) 0#64).getLsbD j=(p j && decide (j < n)):=by
  intro n
  induction n with
  | zero=>intro _;simp
  | succ n ih =>
   intro hn
   rw [List.range_succ,List.foldl_append,List.foldl_cons,List.foldl_nil]
   have ih:=ih (by omega)
   have h1:decide (j < n+1)=(decide (j < n) || decide (j=n)):=by
    by_cases h:j < n
    ·simp [h];omega
    ·by_cases h2:j=n
     ·simp [h2]
     ·simp [h,h2];omega
   split
   ·rename_i hp
    rw [BitVec.getLsbD_or,ih,Cm,h1]
    by_cases e:j=n
    ·subst e
     have:j < 64:=by omega
     simp [hp,this]
    ·have:¬ ((j:Int)=n):=by omega
     simp [this,e]
   ·rename_i hp
    rw [ih,h1]
    by_cases e:j=n
    ·subst e;simp at hp;simp [hp]
    ·simp [e]
 exact key 64 (Nat.le_refl _)
theorem BL {a b:BitVec 64} (h:∀ j,j < 64→a.getLsbD j=b.getLsbD j):a=b:=BitVec.eq_of_getLsbD_eq fun j hj=>h j hj
theorem Mo (p:Nat→Bool) (k:Nat) (hk:k < 64):BC p ||| C9 k=BC (fun j=>p j || decide (j=k)):=by
 apply BL
 intro j hj
 rw [BitVec.getLsbD_or,AF,AF,Cm]
 have:(decide ((j:Int)=(k:Int)∧j < 64))=decide (j=k):=by
  by_cases e:j=k
  ·subst e;simp [hj]
  ·have:¬ ((j:Int)=k):=by omega
   simp [e,this]
 rw [this]
 simp [hj]
theorem Ba {p q:Nat→Bool} (h:∀ j,j < 64→p j=q j):BC p=BC q:=by
 apply BL
 intro j hj
 rw [AF,AF,h j hj]
theorem Ga:BC (fun _=>false)=0#64:=by
 apply BL
 intro j hj
 rw [AF]
 simp
end Go.AM
namespace Go.AM
open Go
structure Ay where
 thread:Int
 up:Int
 kind:Int
 loc:Int
 mode:Int
 val:Int
 rmw:Bool
 fin:Bool
 regs:List Int
 deriving DecidableEq
structure A4 where
 vals:Int
 locs:List ByteArray
 regs:List (List ByteArray)
 nodes:List Ay
structure Am where
 has:List Int
 jf:List Int
 mo:List (List (List Int))
 deriving DecidableEq
structure C4 where
 has:List Int
 rf:List Int
 mo:List (List Int)
 deriving DecidableEq
def N5 (n:Ay) (rv:AV):List AV:=[.i .i64 n.thread,.i .i64 n.up,.i .i64 n.kind,.i .i64 n.loc,.i .i64 n.mode,.i .i64 n.val,.b n.rmw,.b n.fin,rv]
def Vi (σ:St) (cs:List AV):Option Ay:=match cs with
 | [.i .i64 a,.i .i64 b,.i .i64 c,.i .i64 d,.i .i64 e,.i .i64 f,.b g,.b h,rv]=>match A4o σ [rv] with
  | some rs=>some ⟨a,b,c,d,e,f,g,h,rs⟩
  | none=>none
 | _=>none
theorem KL {σ:St} {cs:List AV} {n:Ay}:Vi σ cs=some n↔∃ rv,cs=N5 n rv∧Rd σ rv n.regs:=by
 constructor
 ·intro h
  unfold Vi at h
  split at h
  ·rename_i a b c d e f g k rv
   split at h
   ·rename_i rs hrs
    cases h
    exact ⟨rv,rfl,hrs⟩
   ·cases h
  ·cases h
 ·rintro ⟨rv,rfl,h⟩
  have h':A4o σ [rv]=some n.regs:=h
  simp only [Vi,N5,h']
theorem Rd.cell {α:Type} [Rdr α] {σ:St} {v:AV} {x:α} (h:Rd σ v x):v.cell=true:=by
 have:=Rdr.cell h
 simpa using this
instance : Rdr Ay where
 size:=9
 rd σ cs:=Vi σ cs
 len h:=by obtain ⟨rv,rfl,_⟩:=KL.1 h;rfl
 ext he h:=by
  obtain ⟨rv,rfl,h1⟩:=KL.1 h
  exact KL.2 ⟨rv,rfl,h1.ext he⟩
 cell h:=by
  obtain ⟨rv,rfl,h1⟩:=KL.1 h
  have:=h1.cell
  simp only [N5,List.all_cons,List.all_nil,this]
  rfl
def A4F (t:A4) (a b c:AV):List AV:=[.i .i64 t.vals,a,b,c]
def RdT (σ:St) (v:AV) (t:A4):Prop:=∃ a b c,v = .ag (A4F t a b c)∧Rd σ a t.locs∧Rd σ b t.regs∧Rd σ c t.nodes
theorem RdT.ext {σ σ':St} {v:AV} {t:A4} (h:RdT σ v t) (he:D8 σ σ'):RdT σ' v t:=by
 obtain ⟨a,b,c,h1,h2,h3,h4⟩:=h
 exact ⟨a,b,c,h1,h2.ext he,h3.ext he,h4.ext he⟩
def RdS (σ:St) (v:AV) (s:Am):Prop:=∃ a b c,v = .ag [a,b,c]∧Rd σ a s.has∧Rd σ b s.jf∧Rd σ c s.mo
theorem RdS.ext {σ σ':St} {v:AV} {t:Am} (h:RdS σ v t) (he:D8 σ σ'):RdS σ' v t:=by
 obtain ⟨a,b,c,h1,h2,h3,h4⟩:=h
 exact ⟨a,b,c,h1,h2.ext he,h3.ext he,h4.ext he⟩
def RdE (σ:St) (v:AV) (s:C4):Prop:=∃ a b c,v = .ag [a,b,c]∧Rd σ a s.has∧Rd σ b s.rf∧Rd σ c s.mo
theorem RdE.ext {σ σ':St} {v:AV} {t:C4} (h:RdE σ v t) (he:D8 σ σ'):RdE σ' v t:=by
 obtain ⟨a,b,c,h1,h2,h3,h4⟩:=h
 exact ⟨a,b,c,h1,h2.ext he,h3.ext he,h4.ext he⟩
theorem Rd.cells {α:Type} [Rdr α] {σ:St} {v:AV} {x:List α} (h:Rd σ v x):v.cells=[v]:=by
 obtain ⟨o,rfl⟩:=h.sl
 rfl
def enc:List Nat→Nat
 | []=>0
 | b::r=>b+256 * enc r
theorem Gq (a b c d:Nat) (ha:a < 256) (hc:c < 256):(a+256 * b) &&& (c+256 * d)=(a &&& c)+256 * (b &&& d):=by
 have hac:a &&& c < 2 ^ 8:=Nat.and_lt_two_pow _ (by omega)
 apply Nat.eq_of_testBit_eq
 intro j
 rw [Nat.testBit_and]
 rw [show a+256 * b=2 ^ 8 * b+a by omega,show c+256 * d=2 ^ 8 * d+c by omega,show (a &&& c)+256 * (b &&& d)=2 ^ 8 * (b &&& d)+(a &&& c) by omega]
 rw [Nat.testBit_two_pow_mul_add _ (by omega),Nat.testBit_two_pow_mul_add _ (by omega),Nat.testBit_two_pow_mul_add _ hac]
 split<;>rw [Nat.testBit_and]
def f1 (b:Nat):Nat:=(b / 2 &&& 85)+(b &&& 85)
def f2 (b:Nat):Nat:=(b / 4 &&& 51)+(b &&& 51)
def f3 (b:Nat):Nat:=b / 16+b % 16
def pc8 (b:Nat):Nat:=((List.range 8).filter fun i=>b.testBit i).length
theorem k1:∀ b:Fin 256,∀ t:Fin 2,(b.val / 2+128 * t.val) &&& 85=b.val / 2 &&& 85:=by decide +kernel
theorem k2:∀ b:Fin 256,∀ t:Fin 4,(b.val / 4+64 * t.val) &&& 51=b.val / 4 &&& 51:=by decide +kernel
theorem k3:∀ b:Fin 256,∀ t:Fin 5,b.val % 16≤4→b.val / 16≤4→(b.val / 16+16 * t.val+b.val) &&& 15=f3 b.val:=by decide +kernel
theorem k4:∀ b:Fin 256,f1 b.val < 256∧f2 (f1 b.val) < 256∧f2 (f1 b.val) % 16≤4∧f2 (f1 b.val) / 16≤4∧f3 (f2 (f1 b.val))=pc8 b.val∧pc8 b.val≤8:=by decide +kernel
theorem AfO:∀ bs:List Nat,(∀ b∈bs,b < 256)→(enc bs / 2 &&& enc (List.replicate bs.length 85))+(enc bs &&& enc (List.replicate bs.length 85))=enc (bs.map f1)
 | [],_=>by simp [enc]
 | b::r,h=>by
  have hb:=h b (by simp)
  have ih:=AfO r fun x hx=>h x (by simp [hx])
  simp only [List.length_cons,List.replicate_succ,enc,List.map_cons]
  generalize enc r=R at *
  generalize enc (List.replicate r.length 85)=M at *
  have e1:(b+256 * R) / 2=(b / 2+128 * (R % 2))+256 * (R / 2):=by omega
  have e2:=k1 ⟨b,hb⟩ ⟨R % 2,by omega⟩
  simp only at e2
  rw [e1,Gq _ _ _ _ (by omega) (by omega),Gq _ _ _ _ hb (by omega),e2,← ih,f1]
  omega
theorem AfP:∀ bs:List Nat,(∀ b∈bs,b < 256)→(enc bs / 4 &&& enc (List.replicate bs.length 51))+(enc bs &&& enc (List.replicate bs.length 51))=enc (bs.map f2)
 | [],_=>by simp [enc]
 | b::r,h=>by
  have hb:=h b (by simp)
  have ih:=AfP r fun x hx=>h x (by simp [hx])
  simp only [List.length_cons,List.replicate_succ,enc,List.map_cons]
  generalize enc r=R at *
  generalize enc (List.replicate r.length 51)=M at *
  have e1:(b+256 * R) / 4=(b / 4+64 * (R % 4))+256 * (R / 4):=by omega
  have e2:=k2 ⟨b,hb⟩ ⟨R % 4,by omega⟩
  simp only at e2
  rw [e1,Gq _ _ _ _ (by omega) (by omega),Gq _ _ _ _ hb (by omega),e2,← ih,f2]
  omega
theorem A8X:∀ bs:List Nat,(∀ b∈bs,b < 256∧b % 16≤4∧b / 16≤4)→enc bs % 16≤4
 | [],_=>by simp [enc]
 | b::r,h=>by
  have hb:=h b (by simp)
  simp only [enc]
  omega
theorem AfQ:∀ bs:List Nat,(∀ b∈bs,b < 256∧b % 16≤4∧b / 16≤4)→(enc bs / 16+enc bs) &&& enc (List.replicate bs.length 15)=enc (bs.map f3)
 | [],_=>by simp [enc]
 | b::r,h=>by
  have hb:=h b (by simp)
  have ih:=AfQ r fun x hx=>h x (by simp [hx])
  have hm:=A8X r fun x hx=>h x (by simp [hx])
  simp only [List.length_cons,List.replicate_succ,enc,List.map_cons]
  generalize enc r=R at *
  generalize enc (List.replicate r.length 15)=M at *
  have e1:(b+256 * R) / 16+(b+256 * R)=(b / 16+16 * (R % 16)+b)+256 * (R / 16+R):=by omega
  have e2:=k3 ⟨b,hb.1⟩ ⟨R % 16,by omega⟩ hb.2.1 hb.2.2
  simp only at e2
  rw [e1,Gq _ _ _ _ (by omega) (by omega),e2,← ih]
def AX (x:Nat):List Nat:=[x % 256,x / 256 % 256,x / 65536 % 256,x / 16777216 % 256,x / 4294967296 % 256,x / 1099511627776 % 256,x / 281474976710656 % 256,x / 72057594037927936 % 256]
theorem A3Q {x:Nat} (h:x < 18446744073709551616):enc (AX x)=x:=by
 simp only [AX,enc]
 omega
def s1 (x:Nat):Nat:=((x / 2) &&& 6148914691236517205)+(x &&& 6148914691236517205)
def s2 (x:Nat):Nat:=((x / 4) &&& 3689348814741910323)+(x &&& 3689348814741910323)
def s3 (x:Nat):Nat:=(x / 16+x) &&& 1085102592571150095
def s4 (x:Nat):Nat:=x+x / 256
def s5 (x:Nat):Nat:=x+x / 65536
def s6 (x:Nat):Nat:=x+x / 4294967296
theorem JO {x b:Nat} (hb:b∈AX x):b < 256:=by
 simp only [AX,List.mem_cons,List.not_mem_nil,or_false] at hb
 omega
theorem m1 (l:List Nat) (h:l.length=8):enc (List.replicate l.length 85)=6148914691236517205:=by rw [h];decide
theorem m2 (l:List Nat) (h:l.length=8):enc (List.replicate l.length 51)=3689348814741910323:=by rw [h];decide
theorem m3 (l:List Nat) (h:l.length=8):enc (List.replicate l.length 15)=1085102592571150095:=by rw [h];decide
theorem bl (x:Nat):(AX x).length=8:=rfl
theorem Agy {x:Nat} (h:x < 18446744073709551616):s1 x=enc ((AX x).map f1):=by
 have h1:=AfO (AX x) fun b hb=>JO hb
 rw [A3Q h,m1 _ (bl x)] at h1
 exact h1
theorem Agz {x:Nat} (h:x < 18446744073709551616):s2 (s1 x)=enc (((AX x).map f1).map f2):=by
 rw [Agy h]
 have h2:=AfP ((AX x).map f1) (by
  intro b hb'
  obtain ⟨c,hc,rfl⟩:=List.mem_map.1 hb'
  exact (k4 ⟨c,JO hc⟩).1)
 rw [m2 _ (by rw [List.length_map];exact bl x)] at h2
 exact h2
theorem AgA {x:Nat} (h:x < 18446744073709551616):s3 (s2 (s1 x))=enc ((AX x).map pc8):=by
 rw [Agz h]
 have hg:∀ b∈((AX x).map f1).map f2,b < 256∧b % 16≤4∧b / 16≤4:=by
  intro b hb'
  obtain ⟨c,hc,rfl⟩:=List.mem_map.1 hb'
  obtain ⟨d,hd,rfl⟩:=List.mem_map.1 hc
  have:=k4 ⟨d,JO hd⟩
  exact ⟨this.2.1,this.2.2.1,this.2.2.2.1⟩
 have h3:=AfQ (((AX x).map f1).map f2) hg
 rw [m3 _ (by rw [List.length_map,List.length_map];exact bl x)] at h3
 have h4:((((AX x).map f1).map f2).map f3)=(AX x).map pc8:=by
  rw [List.map_map,List.map_map]
  apply List.map_congr_left
  intro b hb'
  exact (k4 ⟨b,JO hb'⟩).2.2.2.2.1
 rw [h4] at h3
 exact h3
theorem Al9 (p0 p1 p2 p3 p4 p5 p6 p7:Nat) (h0:p0≤8) (h1:p1≤8) (h2:p2≤8) (h3:p3≤8) (h4:p4≤8) (h5:p5≤8) (h6:p6≤8) (h7:p7≤8) :
  s4 (enc [p0,p1,p2,p3,p4,p5,p6,p7])=(p0+p1)+256 * ((p1+p2)+256 * ((p2+p3)+256 * ((p3+p4)+256 * ((p4+p5)+256 * ((p5+p6)+256 * ((p6+p7)+256 * p7)))))):=by
 simp only [enc,s4]
 omega
theorem Ala (q0 q1 q2 q3 q4 q5 q6 q7:Nat) (h0:q0≤16) (h1:q1≤16) (h2:q2≤16) (h3:q3≤16) (h4:q4≤16) (h5:q5≤16) (h6:q6≤16) (h7:q7≤16) :
  s5 (q0+256 * (q1+256 * (q2+256 * (q3+256 * (q4+256 * (q5+256 * (q6+256 * q7)))))))=(q0+q2)+256 * ((q1+q3)+256 * ((q2+q4)+256 * ((q3+q5)+256 * ((q4+q6)+256 * ((q5+q7)+256 * (q6+256 * q7)))))):=by
 simp only [s5]
 omega
theorem Alb (q0 q1 q2 q3 q4 q5 q6 q7:Nat) (h0:q0≤32) (h1:q1≤32) (h2:q2≤32) (h3:q3≤32) (h4:q4≤32) (h5:q5≤32) (h6:q6≤32) (h7:q7≤32) :
  s6 (q0+256 * (q1+256 * (q2+256 * (q3+256 * (q4+256 * (q5+256 * (q6+256 * q7))))))) % 128=(q0+q4) % 128:=by
 simp only [s6]
 have e:(q0+256 * (q1+256 * (q2+256 * (q3+256 * (q4+256 * (q5+256 * (q6+256 * q7))))))) / 4294967296=q4+256 * (q5+256 * (q6+256 * q7)):=by omega
 omega
theorem Alc (p0 p1 p2 p3 p4 p5 p6 p7:Nat) (h0:p0≤8) (h1:p1≤8) (h2:p2≤8) (h3:p3≤8) (h4:p4≤8) (h5:p5≤8) (h6:p6≤8) (h7:p7≤8) :
  s6 (s5 (s4 (enc [p0,p1,p2,p3,p4,p5,p6,p7]))) % 128=p0+p1+p2+p3+p4+p5+p6+p7:=by
 rw [Al9 _ _ _ _ _ _ _ _ h0 h1 h2 h3 h4 h5 h6 h7,Ala _ _ _ _ _ _ _ _ (by omega) (by omega) (by omega) (by omega) (by omega) (by omega) (by omega) (by omega),
  Alb _ _ _ _ _ _ _ _ (by omega) (by omega) (by omega) (by omega) (by omega) (by omega) (by omega) (by omega)]
 omega
theorem AkY {x:Nat} (h:x < 18446744073709551616):s6 (s5 (s4 (s3 (s2 (s1 x))))) % 128=((AX x).map pc8).sum:=by
 rw [AgA h]
 have hp:∀ b∈AX x,pc8 b≤8:=fun b hb'=>(k4 ⟨b,JO hb'⟩).2.2.2.2.2
 simp only [AX,List.mem_cons,List.not_mem_nil,or_false,forall_eq_or_imp,forall_eq] at hp
 obtain ⟨h0,h1,h2,h3,h4,h5,h6,h7⟩:=hp
 simp only [AX,List.map_cons,List.map_nil,List.sum_cons,List.sum_nil]
 rw [Alc _ _ _ _ _ _ _ _ h0 h1 h2 h3 h4 h5 h6 h7]
 omega
def cnt (n x:Nat):Nat:=((List.range n).filter fun i=>x.testBit i).length
theorem A5q (n x:Nat):cnt (n+1) x=x % 2+cnt n (x / 2):=by
 unfold cnt
 rw [List.range_succ_eq_map,List.filter_cons]
 have e:((List.map Nat.succ (List.range n)).filter fun i=>x.testBit i).length=((List.range n).filter fun i=>(x / 2).testBit i).length:=by
  rw [List.filter_map,List.length_map]
  congr 1
  apply List.filter_congr
  intro i _
  simp [Nat.testBit_succ]
 have h0:x.testBit 0=decide (x % 2=1):=by simp [Nat.testBit_zero]
 rw [h0]
 by_cases h:x % 2=1
 ·simp only [h,decide_true,if_true,List.length_cons,e]
  omega
 ·simp only [h,decide_false]
  simp only [Bool.false_eq_true,if_false,e]
  omega
theorem WD (x:Nat):cnt 0 x=0:=rfl
theorem WB (n x:Nat):cnt (n+8) x=pc8 (x % 256)+cnt n (x / 256):=by
 have hp:pc8 (x % 256)=cnt 8 (x % 256):=rfl
 rw [hp]
 simp only [A5q,WD]
 have e:x / 2 / 2 / 2 / 2 / 2 / 2 / 2 / 2=x / 256:=by omega
 rw [e]
 omega
theorem AfL (x:Nat):cnt 64 x=((AX x).map pc8).sum:=by
 rw [show 64=56+8 from rfl,WB,show 56=48+8 from rfl,WB,show 48=40+8 from rfl,WB,show 40=32+8 from rfl,WB,show 32=24+8 from rfl,WB,show 24=16+8 from rfl,WB,show 16=8+8 from rfl,WB,show 8=0+8 from rfl,WB,WD]
 simp only [AX,List.map_cons,List.map_nil,List.sum_cons,List.sum_nil,Nat.div_div_eq_div_mul]
theorem A4l (w:BitVec 64):s6 (s5 (s4 (s3 (s2 (s1 w.toNat))))) % 128=(BX w).length:=by
 rw [AkY w.isLt,← AfL]
 rfl
theorem AkZ {x:Nat} (h:x < 18446744073709551616):s1 x < 18446744073709551616∧s2 (s1 x) < 18446744073709551616∧s2 (s1 x) / 16+s2 (s1 x) < 18446744073709551616∧s3 (s2 (s1 x))≤1085102592571150095∧s4 (s3 (s2 (s1 x))) < 18446744073709551616∧s5 (s4 (s3 (s2 (s1 x)))) < 18446744073709551616∧s6 (s5 (s4 (s3 (s2 (s1 x))))) < 9223372036854775808:=by
 have a1:s1 x≤6148914691236517205+6148914691236517205:=Nat.add_le_add Nat.and_le_right Nat.and_le_right
 have a2:s2 (s1 x)≤3689348814741910323+3689348814741910323:=Nat.add_le_add Nat.and_le_right Nat.and_le_right
 have a3:s3 (s2 (s1 x))≤1085102592571150095:=Nat.and_le_right
 refine ⟨by omega,by omega,by omega,a3,?_,?_,?_⟩
 ·simp only [s4];omega
 ·simp only [s4,s5];omega
 ·simp only [s4,s5,s6];omega
abbrev o (d:Nat) (op:B7):Aq:=⟨some d,none,op⟩
abbrev ov (op:B7):Aq:=⟨none,none,op⟩
abbrev og (d t:Nat) (w:Bool) (op:B7):Aq:=⟨some d,some (t,w),op⟩
abbrev ovg (t:Nat) (w:Bool) (op:B7):Aq:=⟨none,some (t,w),op⟩
abbrev bs (l:List UInt8):ByteArray:=⟨⟨l⟩⟩
abbrev sp (i:Nat) (x:Aq):At:=⟨i,x,[]⟩
abbrev sq (i:Nat) (x:Aq) (c:List Aq):At:=⟨i,x,c⟩
section
variable {V:Al} {m:Nat→Nat} {F:A3} {h:VH}
@[congr] theorem Afh {F:A3} {F':Unit→A3} {h:VH} {h':Unit→VH} {c:A1} {Q:Ex→A3→VH→Prop} (hF:∀ u:Unit,F=F' u) (hh:∀ u:Unit,h=h' u):Vc V m c F h Q=Vc V m c (F' ()) (h' ()) Q:=by rw [← hF ()];rw [← hh ()]
@[congr] theorem Afk {F:A3} {F':Unit→A3} {h:VH} {h':Unit→VH} {c:List Aq} {Q:A3→VH→Prop} (hF:∀ u:Unit,F=F' u) (hh:∀ u:Unit,h=h' u):Vr V m c F h Q=Vr V m c (F' ()) (h' ()) Q:=by rw [← hF ()];rw [← hh ()]
@[congr] theorem Afl {F:A3} {F':Unit→A3} {h:VH} {h':Unit→VH} {L:JG} {c:List At} {Q:A3→VH→Prop} (hF:∀ u:Unit,F=F' u) (hh:∀ u:Unit,h=h' u):Vs V m c L F h Q=Vs V m c L (F' ()) (h' ()) Q:=by rw [← hF ()];rw [← hh ()]
@[congr] theorem Afj {k:Nat} {k':Unit→Nat} {op:B7} {Q:VV→VH→Prop} (hk:∀ u:Unit,k=k' u):Vo V k op F h Q=Vo V (k' ()) op F h Q:=by rw [← hk ()]
@[congr] theorem Afg {g:Nat} {a:List VV} {a':Unit→List VV} {Q:VV→Prop} (ha:∀ u:Unit,a=a' u):VP V g a Q=VP V g (a' ()) Q:=by rw [← ha ()]
@[congr] theorem Aee {g b:Nat} {b':Unit→Nat} {a:List VV} {a':Unit→List VV} {Q:VV→VH→Prop} (ha:∀ u:Unit,a=a' u) (hb:∀ u:Unit,b=b' u):Yp V g a b Q=Yp V g (a' ()) (b' ()) Q:=by rw [← ha ()];rw [← hb ()]
@[congr] theorem Aef {g:Nat} {a:List VV} {a':Unit→List VV} {h:VH} {h':Unit→VH} {Q:VV→VH→Prop} (ha:∀ u:Unit,a=a' u) (hb:∀ u:Unit,h=h' u):LT V g a h Q=LT V g (a' ()) (h' ()) Q:=by rw [← ha ()];rw [← hb ()]
@[congr] theorem Aeg {g:Nat} {a:List VV} {a':Unit→List VV} {h:VH} {h':Unit→VH} {Q:VV→VH→Prop} (ha:∀ u:Unit,a=a' u) (hb:∀ u:Unit,h=h' u):GT V g a h Q=GT V g (a' ()) (h' ()) Q:=by rw [← ha ()];rw [← hb ()]
def OK {α:Type} (r:Option α) (Q:α→Prop):Prop:=match r with
 | some x=>Q x
 | none=>False
@[congr] theorem Afa {α:Type} {r:Option α} {r':Unit→Option α} {Q:α→Prop} (hr:∀ u:Unit,r=r' u):OK r Q=OK (r' ()) Q:=by rw [← hr ()]
@[go_sem] theorem SS {α:Type} {x:α} {Q:α→Prop}:OK (some x) Q↔Q x:=Iff.rfl
@[go_sem] theorem Ahe {α:Type} {Q:α→Prop}:OK none Q↔False:=Iff.rfl
def Kq {α β:Type} (r:Option (α×β)) (Q:α→β→Prop):Prop:=match r with
 | some (x,y)=>Q x y
 | none=>False
@[congr] theorem Aeb {α β:Type} {r:Option (α×β)} {r':Unit→Option (α×β)} {Q:α→β→Prop} (hr:∀ u:Unit,r=r' u):Kq r Q=Kq (r' ()) Q:=by rw [← hr ()]
@[go_sem] theorem W9 {α β:Type} {x:α} {y:β} {Q:α→β→Prop}:Kq (some (x,y)) Q↔Q x y:=Iff.rfl
@[go_sem] theorem Af9 {α β:Type} {Q:α→β→Prop}:Kq none Q↔False:=Iff.rfl
theorem GR {α β:Type} {r:Option (α×β)} {Q:α→β→Prop}:Kq r Q↔∃ x y,r=some (x,y)∧Q x y:=by
 cases r with
 | none=>simp [Kq]
 | some z =>
  obtain ⟨a,b⟩:=z
  exact ⟨fun q=>⟨a,b,rfl,q⟩,fun ⟨x,y,e,q⟩=>by cases e;exact q⟩
def mk {α:Type} (x:α):α:=x
@[go_sem] theorem Ec {α:Type} (x:α):mk x=x:=by
 have h:∀ y:α,mk y=y:=fun y=>rfl
 exact h x
theorem Mt {α:Type} {r:Option α} {Q:α→Prop}:OK r Q↔∃ x,r=some x∧Q x:=by
 cases r<;>simp [OK]
theorem CJ {k:Nat} {op:B7} {Q:VV→VH→Prop} (hc:∀ f args,op≠.call f args):Vo V k op F h Q↔Kq (CN k op F h) Q:=by
 rw [AaL hc,GR]
section
variable {k:Nat} {Q:VV→VH→Prop}
@[go_sem ↓] theorem A19 {x:Af}:Vo V k (.mov x) F h Q↔Kq (mk (CN k (.mov x) F h)) Q:=CJ (by intros;simp)
@[go_sem ↓] theorem Ahk {a b c:Af}:Vo V k (.pick a b c) F h Q↔Kq (mk (CN k (.pick a b c) F h)) Q:=CJ (by intros;simp)
@[go_sem ↓] theorem AiT {ty n:Nat} {x:Af}:Vo V k (.box ty n x) F h Q↔Kq (mk (CN k (.box ty n x) F h)) Q:=CJ (by intros;simp)
@[go_sem ↓] theorem Afi {z:List AV} {ps:List (Nat×Nat×Af)}:Vo V k (.build z ps) F h Q↔Kq (mk (CN k (.build z ps) F h)) Q:=CJ (by intros;simp)
@[go_sem ↓] theorem AiU {t e l:Nat} {z:List AV} {ps:List (Nat×Nat×Af)}:Vo V k (.bsl t e l z ps) F h Q↔Kq (mk (CN k (.bsl t e l z ps) F h)) Q:=CJ (by intros;simp)
@[go_sem ↓] theorem AlD {n:Option Nat} {a:Af}:Vo V k (.ld n a) F h Q↔OK (mk (vld h n (A3.ev F a))) fun v=>Q v h:=by
 rw [CJ (by intros;simp),Ec]
 simp only [CN]
 cases vld h n (A3.ev F a)<;>exact Iff.rfl
@[go_sem ↓] theorem AlE {n:Nat} {a x:Af}:Vo V k (.st n a x) F h Q↔Kq (mk (CN k (.st n a x) F h)) Q:=CJ (by intros;simp)
@[go_sem ↓] theorem Ahj {x:Af}:Vo V k (.nilc x) F h Q↔Kq (mk (CN k (.nilc x) F h)) Q:=CJ (by intros;simp)
@[go_sem ↓] theorem Yx {op:BinOp} {e:Option NW} {x y:Af}:Vo V k (.bin op e x y) F h Q↔OK (mk (B6 op e (A3.ev F x) (A3.ev F y))) fun v=>Q v h:=by
 rw [CJ (by intros;simp),Ec]
 simp only [CN]
 cases B6 op e (A3.ev F x) (A3.ev F y)<;>exact Iff.rfl
@[go_sem ↓] theorem Aj3 {x:Af}:Vo V k (.not x) F h Q↔Kq (mk (CN k (.not x) F h)) Q:=CJ (by intros;simp)
@[go_sem ↓] theorem Aj2 {x:Af}:Vo V k (.neg x) F h Q↔Kq (mk (CN k (.neg x) F h)) Q:=CJ (by intros;simp)
@[go_sem ↓] theorem Ahi {i:IntKind} {x:Af}:Vo V k (.conv i x) F h Q↔Kq (mk (CN k (.conv i x) F h)) Q:=CJ (by intros;simp)
@[go_sem ↓] theorem AiZ {g:Nat} {a c:List Af}:Vo V k (.mkf g a c) F h Q↔Q (.f g (a.map (A3.ev F)) (c.map (A3.ev F))) h:=by
 rw [CJ (by intros;simp)];exact Iff.rfl
@[go_sem ↓] theorem Aj0 {t e b:Nat} {z:List AV} {l c:Af}:Vo V k (.mks t e b z l c) F h Q↔Kq (mk (CN k (.mks t e b z l c) F h)) Q:=CJ (by intros;simp)
@[go_sem ↓] theorem Aj4 {e:Nat} {x:Af} {lo hi:Option Af}:Vo V k (.slc e x lo hi) F h Q↔OK (mk (A4M h e (A3.ev F x) (lo.map (A3.ev F)) (hi.map (A3.ev F)))) fun v=>Q v h:=by
 rw [CJ (by intros;simp),Ec]
 simp only [CN]
 cases A4M h e (A3.ev F x) (lo.map (A3.ev F)) (hi.map (A3.ev F))<;>exact Iff.rfl
@[go_sem ↓] theorem AlA {o:Nat} {x:Af}:Vo V k (.fa o x) F h Q↔Kq (mk (CN k (.fa o x) F h)) Q:=CJ (by intros;simp)
@[go_sem ↓] theorem AlB {e:Nat} {x i:Af}:Vo V k (.ia e x i) F h Q↔Kq (mk (CN k (.ia e x i) F h)) Q:=CJ (by intros;simp)
@[go_sem ↓] theorem AiX {l e:Nat} {x i:Af}:Vo V k (.iaa l e x i) F h Q↔Kq (mk (CN k (.iaa l e x i) F h)) Q:=CJ (by intros;simp)
@[go_sem ↓] theorem AlC {x i:Af}:Vo V k (.ix x i) F h Q↔Kq (mk (CN k (.ix x i) F h)) Q:=CJ (by intros;simp)
@[go_sem ↓] theorem AiW {x:Af} {i:Nat}:Vo V k (.ext x i) F h Q↔Kq (mk (CN k (.ext x i) F h)) Q:=CJ (by intros;simp)
@[go_sem ↓] theorem AiY {s:Bool} {x:Af}:Vo V k (.len s x) F h Q↔Kq (mk (CN k (.len s x) F h)) Q:=CJ (by intros;simp)
@[go_sem ↓] theorem AiS {t e b:Nat} {x y:Af}:Vo V k (.app t e b x y) F h Q↔Kq (mk (NJ k h t e b (A3.ev F x) (A3.ev F y))) Q:=by
 rw [CJ (by intros;simp)];exact Iff.rfl
@[go_sem ↓] theorem AiV {e:Nat} {x y:Af}:Vo V k (.cpy e x y) F h Q↔Kq (mk (A8c h e (A3.ev F x) (A3.ev F y))) Q:=by
 rw [CJ (by intros;simp)];exact Iff.rfl
@[go_sem ↓] theorem Aj1 {b:Bool} {x y:Af}:Vo V k (.mnx b x y) F h Q↔Kq (mk (CN k (.mnx b x y) F h)) Q:=CJ (by intros;simp)
def VF (V:Al) (k:Nat) (f:VV) (args:List VV) (h:VH) (Q:VV→VH→Prop):Prop:=match f with
 | .f g a c=>(match k with
  | 0=>Kq (EZ h (a++args++c)) fun pa ids=>VP V g pa fun r=>Q r (bif scal r then h else Bl ids h)
  | 1=>Kq (EZ h (a++args++c)) fun pa ids=>Yp V g pa h.length fun r os=>Q r (Bl ids h++os)
  | 2=>LT V g (a++args++c) h Q
  | 4=>LT V g (a++args++c) (Bl (K6 (a++args++c) h) h) (fun _ _=>True)∧GT V g (a++args++c) h Q
  | _=>GT V g (a++args++c) h Q)
 | _=>False
@[congr] theorem Afc {k:Nat} {k':Unit→Nat} {f:VV} {f':Unit→VV} {a:List VV} {a':Unit→List VV} (hk:∀ u:Unit,k=k' u) (hf:∀ u:Unit,f=f' u) (ha:∀ u:Unit,a=a' u):VF V k f a h Q=VF V (k' ()) (f' ()) (a' ()) h Q:=by rw [← hk ()];rw [← hf ()];rw [← ha ()]
theorem AaK {f:VV} {args:List VV} {g:Nat} {a c:List VV} (hf:f = .f g a c) (hv:VF V k f args h Q):VC V k g (a++args++c) h Q∧VC4 V k g (a++args++c) h:=by
 subst hf
 unfold VF at hv
 unfold VC
 rcases k with _ | _ | _ | _ | _ | k
 ·exact ⟨GR.1 hv,fun h=>by cases h⟩
 ·exact ⟨GR.1 hv,fun h=>by cases h⟩
 ·exact ⟨hv,fun h=>by cases h⟩
 ·exact ⟨hv,fun h=>by cases h⟩
 ·exact ⟨hv.2,fun _=>hv.1⟩
 ·exact ⟨hv,fun h=>by omega⟩
theorem Afd {f:VV} {args:List VV} {g:Nat} {a c:List VV} (hf:f = .f g a c) (hv:VC V k g (a++args++c) h Q) (h4:VC4 V k g (a++args++c) h):VF V k f args h Q:=by
 subst hf
 unfold VF
 unfold VC at hv
 rcases k with _ | _ | _ | _ | _ | k
 ·exact GR.2 hv
 ·exact GR.2 hv
 ·exact hv
 ·exact hv
 ·exact ⟨h4 rfl,hv⟩
 ·exact hv
@[go_sem ↓] theorem Ahh {f:Af} {args:List Af}:Vo V k (.call f args) F h Q↔VF V k (mk (A3.ev F f)) (args.map (A3.ev F)) h Q:=by
 rw [Ec]
 constructor
 ·intro hv
  cases hf:A3.ev F f with
  | f g a c=>rw [← hf];exact Afd hf (Pv hf hv).1 (Pv hf hv).2
  | _=>obtain ⟨n,v,h',e,_⟩:=hv;simp [Jz,hf] at e
 ·intro hv
  cases hf:A3.ev F f with
  | f g a c=>exact Pu hf (AaK hf hv).1 (AaK hf hv).2
  | _=>rw [hf] at hv;exact hv.elim
@[go_sem] theorem Amn {g:Nat} {a c args:List VV}:VF V 0 (.f g a c) args h Q↔Kq (mk (EZ h (a++args++c))) fun pa ids=>VP V g (mk pa) fun r=>Q r (bif scal r then h else Bl ids h):=Iff.rfl
@[go_sem] theorem Amo {g:Nat} {a c args:List VV}:VF V 1 (.f g a c) args h Q↔Kq (mk (EZ h (a++args++c))) fun pa ids=>Yp V g (mk pa) h.length fun r os=>Q r (Bl ids h++os):=Iff.rfl
@[go_sem] theorem Amp {g:Nat} {a c args:List VV}:VF V 2 (.f g a c) args h Q↔LT V g (mk (a++args++c)) h Q:=Iff.rfl
@[go_sem] theorem Amr {g:Nat} {a c args:List VV}:VF V 4 (.f g a c) args h Q↔LT V g (mk (a++args++c)) (Bl (K6 (mk (a++args++c)) h) h) (fun _ _=>True)∧GT V g (mk (a++args++c)) h Q:=Iff.rfl
@[go_sem] theorem Amq {g:Nat} {a c args:List VV}:VF V 3 (.f g a c) args h Q↔GT V g (mk (a++args++c)) h Q:=Iff.rfl
end
section
variable {R:A3→VH→Prop}
@[go_sem ↓] theorem A8D {d:Option Nat} {op:B7} {r:List Aq}:Vr V m (⟨d,none,op⟩::r) F h R↔Vo V (Dw m d) op F h fun v h'=>Vr V m r (Br F d v) h' R:=Kr
@[go_sem ↓] theorem A55 {d:Nat} {op:B7} {r:List Aq}:Vr V m (o d op::r) F h R↔Vo V (m d) op F h fun v h'=>Vr V m r (Tm.set F d v) h' R:=Kr
@[go_sem ↓] theorem AlG {op:B7} {r:List Aq}:Vr V m (ov op::r) F h R↔Vo V 2 op F h fun v h'=>Vr V m r F h' R:=Kr
def VG (V:Al) (m:Nat→Nat) (v:VV) (w:Bool) (d:Option Nat) (op:B7) (r:List Aq) (F:A3) (h:VH) (R:A3→VH→Prop):Prop:=match v with
 | .b x=>(bif x == w then Vo V (Dw m d) op F h (fun v h'=>Vr V m r (Br F d v) h' R) else Vr V m r (Br F d VV.nul) h R)
 | .tu []=>Vr V m r (Br F d VV.nul) h R
 | _=>False
@[congr] theorem Afe {v:VV} {v':Unit→VV} {w:Bool} {d:Option Nat} {op:B7} {r:List Aq} (hv:∀ u:Unit,v=v' u):VG V m v w d op r F h R=VG V m (v' ()) w d op r F h R:=by rw [← hv ()]
@[go_sem ↓] theorem Wj {d:Option Nat} {t:Nat} {w:Bool} {op:B7} {r:List Aq}:Vr V m (⟨d,some (t,w),op⟩::r) F h R↔VG V m (mk (A3.tmp F t)) w d op r F h R:=by
 rw [Ec]
 rw [Kr]
 simp only [C2,VG]
 generalize A3.tmp F t=v
 cases v with
 | b x=>cases x<;>cases w<;>rfl
 | tu vs=>cases vs<;>rfl
 | _=>rfl
@[go_sem ↓] theorem AlF {d:Nat} {t:Nat} {w:Bool} {op:B7} {r:List Aq}:Vr V m (og d t w op::r) F h R↔VG V m (mk (A3.tmp F t)) w (some d) op r F h R:=Wj
@[go_sem ↓] theorem Aj5 {t:Nat} {w:Bool} {op:B7} {r:List Aq}:Vr V m (ovg t w op::r) F h R↔VG V m (mk (A3.tmp F t)) w none op r F h R:=Wj
@[go_sem] theorem Alz {d:Option Nat} {op:B7} {r:List Aq}:VG V m (.b true) true d op r F h R↔Vo V (Dw m d) op F h (fun v h'=>Vr V m r (Br F d v) h' R):=Iff.rfl
@[go_sem] theorem Alw {d:Option Nat} {op:B7} {r:List Aq}:VG V m (.b false) false d op r F h R↔Vo V (Dw m d) op F h (fun v h'=>Vr V m r (Br F d v) h' R):=Iff.rfl
@[go_sem] theorem Aly {d:Option Nat} {op:B7} {r:List Aq}:VG V m (.b true) false d op r F h R↔Vr V m r (Br F d VV.nul) h R:=Iff.rfl
@[go_sem] theorem Alx {d:Option Nat} {op:B7} {r:List Aq}:VG V m (.b false) true d op r F h R↔Vr V m r (Br F d VV.nul) h R:=Iff.rfl
@[go_sem] theorem AiM {w:Bool} {d:Option Nat} {op:B7} {r:List Aq}:VG V m VV.nul w d op r F h R↔Vr V m r (Br F d VV.nul) h R:=Iff.rfl
@[go_sem ↓] theorem EW {i:Nat} {d:Option Nat} {op:B7} {c:List Aq} {r:List At} {L:JG}:Vs V m (⟨i,⟨d,none,op⟩,c⟩::r) L F h R↔Vo V (Dw m d) op F h fun v h'=>BD (Br F d v) h' (CM (Dw m d) d op F h L) c∧Vs V m r (CM (Dw m d) d op F h L) (Br F d v) h' R:=NZ
def Yo (V:Al) (m:Nat→Nat) (v:VV) (w:Bool) (d:Option Nat) (op:B7) (c:List Aq) (r:List At) (L:JG) (F:A3) (h:VH) (R:A3→VH→Prop):Prop:=match v with
 | .b x=>(bif x == w then Vo V (Dw m d) op F h (fun v h'=>BD (Br F d v) h' (CM (Dw m d) d op F h L) c∧Vs V m r (CM (Dw m d) d op F h L) (Br F d v) h' R) else Vs V m r (GW d L) (Br F d VV.nul) h R)
 | .tu []=>Vs V m r (GW d L) (Br F d VV.nul) h R
 | _=>False
@[congr] theorem Aed {v:VV} {v':Unit→VV} {w:Bool} {d:Option Nat} {op:B7} {c:List Aq} {r:List At} {L:JG} (hv:∀ u:Unit,v=v' u):Yo V m v w d op c r L F h R=Yo V m (v' ()) w d op c r L F h R:=by rw [← hv ()]
@[go_sem ↓] theorem LU {i:Nat} {d:Option Nat} {t:Nat} {w:Bool} {op:B7} {c:List Aq} {r:List At} {L:JG}:Vs V m (⟨i,⟨d,some (t,w),op⟩,c⟩::r) L F h R↔Yo V m (mk (A3.tmp F t)) w d op c r L F h R:=by
 rw [NZ,Ec]
 simp only [C2,Yo]
 generalize A3.tmp F t=v
 cases v with
 | b x=>cases x<;>cases w<;>rfl
 | tu vs=>cases vs<;>rfl
 | _=>rfl
section
variable {i d t:Nat} {w:Bool} {op:B7} {c:List Aq} {r:List At} {L:JG}
@[go_sem ↓] theorem Ahl:Vs V m (sp i (o d op)::r) L F h R↔Vo V (m d) op F h fun v h'=>Vs V m r (CM (m d) (some d) op F h L) (Tm.set F d v) h' R:=by
 unfold sp o
 rw [EW]
 simp only [BD,true_and]
 exact Iff.rfl
@[go_sem ↓] theorem Afn:Vs V m (sp i (ov op)::r) L F h R↔Vo V 2 op F h fun v h'=>Vs V m r (CM 2 none op F h L) F h' R:=by
 unfold sp ov
 rw [EW]
 simp only [BD,true_and]
 exact Iff.rfl
@[go_sem ↓] theorem Afm:Vs V m (sp i (og d t w op)::r) L F h R↔Yo V m (mk (A3.tmp F t)) w (some d) op [] r L F h R:=LU
@[go_sem ↓] theorem Aeh:Vs V m (sp i (ovg t w op)::r) L F h R↔Yo V m (mk (A3.tmp F t)) w none op [] r L F h R:=LU
@[go_sem ↓] theorem Ahm:Vs V m (sq i (o d op) c::r) L F h R↔Vo V (m d) op F h fun v h'=>BD (Tm.set F d v) h' (CM (m d) (some d) op F h L) c∧Vs V m r (CM (m d) (some d) op F h L) (Tm.set F d v) h' R:=EW
@[go_sem ↓] theorem Afp:Vs V m (sq i (ov op) c::r) L F h R↔Vo V 2 op F h fun v h'=>BD F h' (CM 2 none op F h L) c∧Vs V m r (CM 2 none op F h L) F h' R:=EW
@[go_sem ↓] theorem Afo:Vs V m (sq i (og d t w op) c::r) L F h R↔Yo V m (mk (A3.tmp F t)) w (some d) op c r L F h R:=LU
@[go_sem ↓] theorem Aei:Vs V m (sq i (ovg t w op) c::r) L F h R↔Yo V m (mk (A3.tmp F t)) w none op c r L F h R:=LU
end
section
variable {d:Option Nat} {op:B7} {c:List Aq} {r:List At} {L:JG}
@[go_sem] theorem AiQ:Yo V m (.b true) true d op c r L F h R↔Vo V (Dw m d) op F h (fun v h'=>BD (Br F d v) h' (CM (Dw m d) d op F h L) c∧Vs V m r (CM (Dw m d) d op F h L) (Br F d v) h' R):=Iff.rfl
@[go_sem] theorem AiN:Yo V m (.b false) false d op c r L F h R↔Vo V (Dw m d) op F h (fun v h'=>BD (Br F d v) h' (CM (Dw m d) d op F h L) c∧Vs V m r (CM (Dw m d) d op F h L) (Br F d v) h' R):=Iff.rfl
@[go_sem] theorem AiP:Yo V m (.b true) false d op c r L F h R↔Vs V m r (GW d L) (Br F d VV.nul) h R:=Iff.rfl
@[go_sem] theorem AiO:Yo V m (.b false) true d op c r L F h R↔Vs V m r (GW d L) (Br F d VV.nul) h R:=Iff.rfl
@[go_sem] theorem Ahf {w:Bool}:Yo V m VV.nul w d op c r L F h R↔Vs V m r (GW d L) (Br F d VV.nul) h R:=Iff.rfl
end
end
section
variable {Q:Ex→A3→VH→Prop}
@[go_sem ↓] theorem A18:Vc V m .skip F h Q↔Q .norm F h :=
 ⟨fun ⟨n,e,F',h',k,q⟩=>by
  cases n with
  | zero=>simp [Ak] at k
  | succ n=>simp only [Ak,Option.some.injEq,Prod.mk.injEq] at k;obtain ⟨rfl,rfl,rfl⟩:=k;exact q,fun q=>⟨1,.norm,F,h,rfl,q⟩⟩
@[go_sem ↓] theorem A17 {id:Nat}:Vc V m (.exit id) F h Q↔Q (.exit id) F h :=
 ⟨fun ⟨n,e,F',h',k,q⟩=>by
  cases n with
  | zero=>simp [Ak] at k
  | succ n=>simp only [Ak,Option.some.injEq,Prod.mk.injEq] at k;obtain ⟨rfl,rfl,rfl⟩:=k;exact q,fun q=>⟨1,.exit id,F,h,rfl,q⟩⟩
@[go_sem ↓] theorem AiR:Vc V m .ret F h Q↔Q .ret F h :=
 ⟨fun ⟨n,e,F',h',k,q⟩=>by
  cases n with
  | zero=>simp [Ak] at k
  | succ n=>simp only [Ak,Option.some.injEq,Prod.mk.injEq] at k;obtain ⟨rfl,rfl,rfl⟩:=k;exact q,fun q=>⟨1,.ret,F,h,rfl,q⟩⟩
@[go_sem ↓] theorem SY {ops:List Aq}:Vc V m (.reg ops) F h Q↔Vr V m ops F h (Q .norm):=by
 constructor
 ·rintro ⟨n,e,F',h',k,q⟩
  cases n with
  | zero=>simp [Ak] at k
  | succ n =>
   simp only [Ak] at k
   split at k
   ·rename_i F1 h1 hr;cases k;exact ⟨n,_,_,hr,q⟩
   ·cases k
 ·rintro ⟨n,F',h',k,q⟩
  exact ⟨n+1,.norm,F',h',by simp only [Ak,k],q⟩
@[go_sem ↓] theorem Ahg {ops:List At}:Vc V m (.dreg ops) F h Q↔Vs V m ops [] F h (Q .norm):=by
 constructor
 ·rintro ⟨n,e,F',h',k,q⟩
  cases n with
  | zero=>simp [Ak] at k
  | succ n =>
   simp only [Ak] at k
   split at k
   ·rename_i F1 h1 hr;cases k;exact ⟨n,_,_,hr,q⟩
   ·cases k
 ·rintro ⟨n,F',h',k,q⟩
  exact ⟨n+1,.norm,F',h',by simp only [Ak,k],q⟩
attribute [go_sem ↓] Pw A56
@[go_sem ↓] theorem Lc {a b:A1}:Vc V m (.seq a b) F h Q↔Vc V m a F h (fun e F' h'=>match e with | .norm=>Vc V m b F' h' Q | e=>Q e F' h'):=by
 constructor
 ·rintro ⟨n,e,F',h',k,q⟩
  cases n with
  | zero=>simp [Ak] at k
  | succ n =>
   simp only [Ak] at k
   split at k
   ·rename_i F1 h1 hr
    exact ⟨n,.norm,F1,h1,hr,n,e,F',h',k,q⟩
   ·rename_i hne
    refine ⟨n,e,F',h',k,?_⟩
    cases e with
    | norm=>exact absurd k (hne _ _)
    | _=>exact q
 ·rintro ⟨n,e,F1,h1,k,q⟩
  cases e with
  | norm =>
   obtain ⟨j,e,F',h',k2,q⟩:=q
   refine ⟨max n j+1,e,F',h',?_,q⟩
   simp only [Ak,BQ (Nat.le_max_left n j) k]
   exact BQ (Nat.le_max_right n j) k2
  | exit id=>exact ⟨n+1,.exit id,F1,h1,by simp only [Ak,k],q⟩
  | ret=>exact ⟨n+1,.ret,F1,h1,by simp only [Ak,k],q⟩
def VCn (V:Al) (m:Nat→Nat) (v:VV) (a b:A1) (F:A3) (h:VH) (Q:Ex→A3→VH→Prop):Prop:=match v with
 | .b true=>Vc V m a F h Q
 | .b false=>Vc V m b F h Q
 | _=>False
@[congr] theorem Aec {v:VV} {v':Unit→VV} {a b:A1} (hv:∀ u:Unit,v=v' u):VCn V m v a b F h Q=VCn V m (v' ()) a b F h Q:=by rw [← hv ()]
@[go_sem ↓] theorem A16 {x:Af} {a b:A1}:Vc V m (.cond x a b) F h Q↔VCn V m (mk (A3.ev F x)) a b F h Q:=by
 rw [Ec]
 constructor
 ·rintro ⟨n,e,F',h',k,q⟩
  cases n with
  | zero=>simp [Ak] at k
  | succ n =>
   simp only [Ak] at k
   split at k
   ·rename_i hv;rw [hv];exact ⟨n,e,F',h',k,q⟩
   ·rename_i hv;rw [hv];exact ⟨n,e,F',h',k,q⟩
   ·cases k
 ·intro k
  unfold VCn at k
  split at k
  ·rename_i hv;obtain ⟨n,e,F',h',k,q⟩:=k;exact ⟨n+1,e,F',h',by simp only [Ak,hv];exact k,q⟩
  ·rename_i hv;obtain ⟨n,e,F',h',k,q⟩:=k;exact ⟨n+1,e,F',h',by simp only [Ak,hv];exact k,q⟩
  ·exact k.elim
@[go_sem] theorem AaJ {a b:A1}:VCn V m (.b true) a b F h Q↔Vc V m a F h Q:=Iff.rfl
@[go_sem] theorem AaI {a b:A1}:VCn V m (.b false) a b F h Q↔Vc V m b F h Q:=Iff.rfl
theorem A0 {id:Nat} {c:A1}:Vc V m (.block id c) F h Q↔Vc V m c F h (fun e F' h'=>match e with | .exit id'=>(bif Nat.beq id' id then Q .norm F' h' else Q (.exit id') F' h') | e=>Q e F' h'):=by
 constructor
 ·rintro ⟨n,e,F',h',k,q⟩
  cases n with
  | zero=>simp [Ak] at k
  | succ n =>
   simp only [Ak] at k
   split at k
   ·rename_i id' F1 h1 hr
    refine ⟨n,.exit id',F1,h1,hr,?_⟩
    simp only
    cases hb:Nat.beq id' id with
    | true=>rw [hb] at k;cases k;exact q
    | false=>rw [hb] at k;cases k;exact q
   ·rename_i hne
    refine ⟨n,e,F',h',k,?_⟩
    cases e with
    | exit id'=>exact absurd k (hne _ _ _)
    | _=>exact q
 ·rintro ⟨n,e,F1,h1,k,q⟩
  cases e with
  | norm=>exact ⟨n+1,.norm,F1,h1,by simp only [Ak,k],q⟩
  | ret=>exact ⟨n+1,.ret,F1,h1,by simp only [Ak,k],q⟩
  | exit id' =>
   simp only at q
   cases hb:Nat.beq id' id with
   | true=>rw [hb] at q;exact ⟨n+1,.norm,F1,h1,by simp only [Ak,k,hb,cond_true],q⟩
   | false=>rw [hb] at q;exact ⟨n+1,.exit id',F1,h1,by simp only [Ak,k,hb,cond_false],q⟩
open Classical in
noncomputable def gcF (h h':VH) (F':A3):A3:=if LF h.length h h' then E8 h.length F' else F'
open Classical in
noncomputable def gcH (h h':VH):VH:=if LF h.length h h' then h'.take h.length else h'
theorem NY {c:A1}:Vc V m (.loop c) F h Q↔Vc V m c F h (fun e F' h'=>match e with | .norm=>Vc V m (.loop c) (gcF h h' F') (gcH h h') Q | e=>Q e F' h'):=by
 constructor
 ·rintro ⟨n,e,F',h',k,q⟩
  cases n with
  | zero=>simp [Ak] at k
  | succ n =>
   simp only [Ak] at k
   split at k
   ·rename_i F1 h1 hr
    refine ⟨n,.norm,F1,h1,hr,n,e,F',h',?_,q⟩
    unfold gcF gcH
    split at k
    ·rename_i hc;rw [if_pos hc,if_pos hc];exact k
    ·rename_i hc;rw [if_neg hc,if_neg hc];exact k
   ·rename_i hne
    refine ⟨n,e,F',h',k,?_⟩
    cases e with
    | norm=>exact absurd k (hne _ _)
    | _=>exact q
 ·rintro ⟨n,e,F1,h1,k,q⟩
  cases e with
  | norm =>
   obtain ⟨j,e,F',h',k2,q⟩:=q
   refine ⟨max n j+1,e,F',h',?_,q⟩
   simp only [Ak,BQ (Nat.le_max_left n j) k]
   unfold gcF gcH at k2
   split
   ·rename_i hc;rw [if_pos hc,if_pos hc] at k2;exact BQ (Nat.le_max_right n j) k2
   ·rename_i hc;rw [if_neg hc,if_neg hc] at k2;exact BQ (Nat.le_max_right n j) k2
  | exit id=>exact ⟨n+1,.exit id,F1,h1,by simp only [Ak,k],q⟩
  | ret=>exact ⟨n+1,.ret,F1,h1,by simp only [Ak,k],q⟩
def VL (V:Al) (m:Nat→Nat) (B:Nat) (c:A1) (F:A3) (h:VH) (Q:Ex→A3→VH→Prop):Prop:=Vc V m (.block B (.loop c)) F h Q
@[congr] theorem Aff {B:Nat} {c:A1} {F:A3} {F':Unit→A3} {h:VH} {h':Unit→VH} (hF:∀ u:Unit,F=F' u) (hh:∀ u:Unit,h=h' u):VL V m B c F h Q=VL V m B c (F' ()) (h' ()) Q:=by rw [← hF ()];rw [← hh ()]
@[go_sem ↓] theorem A8C {B:Nat} {c:A1}:Vc V m (.block B (.loop c)) F h Q↔VL V m B c (mk F) h Q:=Iff.rfl
theorem AU {M:Type} (I:M→A3→VH→Prop) (μ:M→Nat) {c:A1}
  (k:∀ x F h,I x F h→Vc V m c F h (fun e F' h'=>match e with | .norm=>LF h.length h h'∧∃ x',μ x' < μ x∧I x' (E8 h.length F') (h'.take h.length) | e=>Q e F' h')):∀ x F h,I x F h→Vc V m (.loop c) F h Q:=by
 have key:∀ j x F h,μ x≤j→I x F h→Vc V m (.loop c) F h Q:=by
  intro j
  induction j with
  | zero =>
   intro x F h hj hi
   rw [NY]
   refine (k x F h hi).mono fun e F' h' hq=>?_
   cases e with
   | norm=>obtain ⟨_,x',h1,_⟩:=hq;omega
   | _=>exact hq
  | succ j ih =>
   intro x F h hj hi
   rw [NY]
   refine (k x F h hi).mono fun e F' h' hq=>?_
   cases e with
   | norm =>
    obtain ⟨h0,x',h1,h2⟩:=hq
    unfold gcF gcH
    rw [if_pos h0,if_pos h0]
    exact ih x' _ _ (by omega) h2
   | _=>exact hq
 exact fun x F h hi=>key _ x F h (Nat.le_refl _) hi
end
theorem SW {vf:EP} {args:List VV} {Q:VV→VH→Prop}:Vb V vf args h Q↔Vc V vf.m vf.af.body (Tm.ofList args) h (fun e F' h'=>(match e with | .exit _=>False | _=>True)∧OK (C1 F' h' vf.af.results) fun vs=>Q (JA vs) h'):=by
 unfold Vb Vc GK
 constructor
 ·rintro ⟨n,v,h',k,q⟩
  split at k
  ·rename_i F1 h1 hr
   split at k
   ·rename_i vs hvs;cases k;exact ⟨n,_,_,_,hr,trivial,Mt.2 ⟨vs,hvs,q⟩⟩
   ·cases k
  ·rename_i F1 h1 hr
   split at k
   ·rename_i vs hvs;cases k;exact ⟨n,_,_,_,hr,trivial,Mt.2 ⟨vs,hvs,q⟩⟩
   ·cases k
  ·cases k
 ·rintro ⟨n,e,F1,h1,k,he,hq⟩
  obtain ⟨vs,hvs,q⟩:=Mt.1 hq
  cases e with
  | exit id=>exact he.elim
  | norm=>exact ⟨n,JA vs,h1,by simp only [k,hvs],q⟩
  | ret=>exact ⟨n,JA vs,h1,by simp only [k,hvs],q⟩
theorem Ab {g:Nat} {af:A2} {mm:Nat→Nat} (hx:V.ext g=none) (hf:V.fn g=some ⟨af,mm⟩) {args:List VV} {Q:VV→Prop} :
  VP V g args Q↔Vc V mm af.body (Tm.ofList args) [] (fun e F' h'=>(match e with | .exit _=>False | _=>True)∧OK (mk (C1 F' h' af.results)) fun vs=>Kq (mk (frz h' dF (JA vs))) fun r _=>Q r):=by
 unfold VP
 rw [hx]
 simp only [hf,Option.some.injEq,exists_eq_left',SW,Mt,GR,Ec]
theorem Lb {g:Nat} {af:A2} {mm:Nat→Nat} (hf:V.fn g=some ⟨af,mm⟩) {args:List VV} {b:Nat} {Q:VV→VH→Prop} :
  Yp V g args b Q↔Vc V mm af.body (Tm.ofList args) [] (fun e F' h'=>(match e with | .exit _=>False | _=>True)∧OK (mk (C1 F' h' af.results)) fun vs=>Kq (mk (Bi h' dF b (JA vs))) fun r T=>(T.moved.Nodup∧∀ id∈T.moved,id∉T.frozen)∧Q r T.objs):=by
 unfold Yp
 simp only [hf,Option.some.injEq,exists_eq_left',SW,Mt,GR,true_and,Ec]
theorem Gd {g:Nat} {af:A2} {mm:Nat→Nat} (hf:V.fnH g=some ⟨af,mm⟩) {args:List VV} {Q:VV→VH→Prop} :
  LT V g args h Q↔Vc V mm af.body (Tm.ofList args) h (fun e F' h'=>(match e with | .exit _=>False | _=>True)∧OK (mk (C1 F' h' af.results)) fun vs=>Q (JA vs) h'):=by
 unfold LT
 simp only [hf,Option.some.injEq,exists_eq_left',SW,true_and,Ec]
theorem Ct {g:Nat} {af:A2} {mm:Nat→Nat} (hf:V.fnH g=some ⟨af,mm⟩) {args:List VV} {Q:VV→VH→Prop} :
  GT V g args h Q↔Vc V mm af.body (Tm.ofList args) h (fun e F' h'=>(match e with | .exit _=>False | _=>True)∧OK (mk (C1 F' h' af.results)) fun vs=>Kq (mk (frz h' dF (JA vs))) fun r ids=>LF h.length h (Bl ids h')∧Q r ((Bl ids h').take h.length)):=by
 unfold GT
 simp only [hf,Option.some.injEq,exists_eq_left',SW,Mt,GR,true_and,Ec]
@[go_sem] theorem AiE (F:A3) (k:Nat) (v:VV):A3.tmp (Tm.set F k v) k=v:=by rw [HK,if_pos rfl]
@[go_sem] theorem AiF (F:A3) (k:Nat) (v:VV) {j:Nat} (h:(j == k)=false):A3.tmp (Tm.set F k v) j=A3.tmp F j:=by
 rw [HK,if_neg (by intro e;subst e;simp at h)]
attribute [go_sem] KM Nat.reduceBeqDiff
def VN (l:List VV) (j:Nat):VV:=match l[j]? with | some v=>v | none=>VV.nul
@[go_sem] theorem Abm (l:List VV) (j:Nat):A3.tmp (Tm.ofList l) j=VN l j:=by
 unfold A3.tmp VN
 rw [Tm.get_ofList]
 cases l[j]?<;>rfl
@[go_sem] theorem Aha (j:Nat):VN [] j=VV.nul:=by simp [VN]
@[go_sem] theorem Af5 (a:VV) (l:List VV):VN (a::l) 0=a:=by simp [VN]
@[go_sem] theorem Af4 (a:VV) (l:List VV) (j:Nat):VN (a::l) (j+1)=VN l j:=by simp [VN]
@[go_sem] theorem AdY (F:A3) (d:Nat) (v:VV):Br F (some d) v=Tm.set F d v:=rfl
@[go_sem] theorem AdX (F:A3) (v:VV):Br F none v=F:=rfl
@[go_sem] theorem Yj (F:A3) (n:Nat):A3.ev F (.t n)=A3.tmp F n:=rfl
@[go_sem] theorem Abk (F:A3) (v:AV):A3.ev F (.c v)=Ka v:=rfl
@[go_sem] theorem Aew (d:Nat):Dw m (some d)=m d:=rfl
@[go_sem] theorem Aev:Dw m none=2:=rfl
@[go_sem] theorem AkQ (x:Bool):Ka (.b x) = .b x:=rfl
@[go_sem] theorem A7v (k:IntKind) (n:Int):Ka (.i k n) = .i k n:=rfl
@[go_sem] theorem AkS (x:ByteArray):Ka (.s x) = .s x:=rfl
@[go_sem] theorem AhZ (w:BitVec 64):Ka (Wd w) = .i .u64 (w.toNat:Int):=rfl
@[go_sem] theorem Ai3:Ka (.p none) = .np:=rfl
@[go_sem] theorem Ai2:Ka (.sl none 0) = .nl:=rfl
@[go_sem] theorem Ai1:Ka .nf = .nf:=rfl
@[go_sem] theorem AkR (g:Nat) (a c:List AV):Ka (.f g a c) = .f g (C8 a) (C8 c):=rfl
@[go_sem] theorem Ai0 (c:List AV):Ka (.ag c) = .ag (C8 c):=rfl
@[go_sem] theorem Ai4 (c:List AV):Ka (.tu c) = .tu (C8 c):=rfl
@[go_sem] theorem AeF:C8 []=[]:=rfl
@[go_sem] theorem Adw (v:AV) (vs:List AV):C8 (v::vs)=Ka v::C8 vs:=rfl
@[go_sem] theorem Ah5 (x:Bool):(VV.b x).cells=[.b x]:=rfl
@[go_sem] theorem Ah7 (k:IntKind) (x:Int):(VV.i k x).cells=[.i k x]:=rfl
@[go_sem] theorem Ah9 (x:ByteArray):(VV.s x).cells=[.s x]:=rfl
@[go_sem] theorem Af0:VV.nf.cells=[.nf]:=rfl
@[go_sem] theorem Af2:VV.np.cells=[.np]:=rfl
@[go_sem] theorem Af1:VV.nl.cells=[.nl]:=rfl
@[go_sem] theorem Ah8 (a b c d:Nat):(VV.p a b c d).cells=[.p a b c d]:=rfl
@[go_sem] theorem AeY (a:List VV) (c:Nat):(VV.fp a c).cells=[.fp a c]:=rfl
@[go_sem] theorem Af3 (a b c d:Nat):(VV.sl a b c d).cells=[.sl a b c d]:=rfl
@[go_sem] theorem AeZ (r:List (List VV)):(VV.ls r).cells=[.ls r]:=rfl
@[go_sem] theorem Ah6 (g:Nat) (a c:List VV):(VV.f g a c).cells=[.f g a c]:=rfl
@[go_sem] theorem AeX (l:List VV):(VV.ag l).cells=l:=rfl
@[go_sem] theorem Aiq (x:Bool):(VV.b x).cell=true:=rfl
@[go_sem] theorem Ais (k:IntKind) (x:Int):(VV.i k x).cell=true:=rfl
@[go_sem] theorem Aiu (x:ByteArray):(VV.s x).cell=true:=rfl
@[go_sem] theorem Ah1:VV.nf.cell=true:=rfl
@[go_sem] theorem Ah3:VV.np.cell=true:=rfl
@[go_sem] theorem Ah2:VV.nl.cell=true:=rfl
@[go_sem] theorem Ait (a b c d:Nat):(VV.p a b c d).cell=true:=rfl
@[go_sem] theorem AgZ (a:List VV) (c:Nat):(VV.fp a c).cell=true:=rfl
@[go_sem] theorem Ah4 (a b c d:Nat):(VV.sl a b c d).cell=true:=rfl
@[go_sem] theorem Ah0 (r:List (List VV)):(VV.ls r).cell=true:=rfl
@[go_sem] theorem Air (g:Nat) (a c:List VV):(VV.f g a c).cell=true:=rfl
@[go_sem] theorem H8 (a b:Nat):Nat.beq a b=decide (a=b):=by
 cases e:Nat.beq a b with
 | true=>rw [Nat.eq_of_beq_eq_true e];simp
 | false=>symm;rw [decide_eq_false_iff_not];rintro rfl;rw [Nat.beq_refl] at e;cases e
@[go_sem] theorem Pd (a b:Nat):Nat.ble a b=decide (a≤b):=by
 cases e:Nat.ble a b with
 | true=>rw [Nat.ble_eq] at e;simp [e]
 | false=>symm;rw [decide_eq_false_iff_not,← Nat.ble_eq,e];simp
@[go_sem] theorem A32 (a b:Nat):Nat.blt a b=decide (a < b):=Pd _ _
def Xy (k:Nat) (v:VV) (h:VH):Option (VV×VH):=match k with
 | 2=>(match Az h.length v.cells with
   | (ws,os)=>(match v with
    | .ag _=>some (.ag ws,h++os)
    | .nl=>(match ws with | [w]=>some (w,h++os) | _=>none)
    | v=>some (v,h)))
 | _=>some (v,h)
@[go_sem ↓] theorem A3m {k:Nat} {x:Af}:CN k (.mov x) F h=Xy k (A3.ev F x) h:=rfl
@[go_sem] theorem A7a (v:VV):Xy 0 v h=some (v,h):=rfl
@[go_sem] theorem AkF (v:VV):Xy 1 v h=some (v,h):=rfl
@[go_sem] theorem AhQ:Xy 2 .nl h=some (.sl h.length 0 0 0,h++[some { ty:=0,esz:=0,ver:=0,nl:=true,rows:=[] }]):=rfl
@[go_sem] theorem AhO (cs:List VV):Xy 2 (.ag cs) h=some (.ag (Az h.length cs).1,h++(Az h.length cs).2):=rfl
@[go_sem] theorem AhR (a b c d:Nat):Xy 2 (.sl a b c d) h=some (.sl a b c d,h):=rfl
@[go_sem] theorem AhP (l:List (List VV)):Xy 2 (.ls l) h=some (.ls l,h):=rfl
@[go_sem] theorem AkG (k:IntKind) (n:Int):Xy 2 (.i k n) h=some (.i k n,h):=rfl
def A7K (c a b:VV) (h:VH):Option (VV×VH):=match c with
 | .b t=>some (bif t then a else b,h)
 | _=>none
@[go_sem ↓] theorem Ahd {k:Nat} {c a b:Af}:CN k (.pick c a b) F h=A7K (A3.ev F c) (A3.ev F a) (A3.ev F b) h:=rfl
@[go_sem] theorem Ai7 (a b:VV):A7K (.b true) a b h=some (a,h):=rfl
@[go_sem] theorem Ai6 (a b:VV):A7K (.b false) a b h=some (b,h):=rfl
def A8T (k ty n:Nat) (cs:List VV) (h:VH):Option (VV×VH) :=
  bif Nat.beq cs.length n && cs.all VV.cell then
   match k with
   | 0=>(match EZ h cs with
    | some (cs',ids)=>some (.fp cs' 0,Bl ids h)
    | none=>none)
   | 1=>some (.p h.length 0 0 0,h++[some { ty:=ty,esz:=0,ver:=0,nl:=false,rows:=[cs] }])
   | _=>(match Az h.length cs with
    | (ws,os)=>some (.p (h++os).length 0 0 0,h++os++[some { ty:=ty,esz:=0,ver:=0,nl:=false,rows:=[ws] }]))
  else none
@[go_sem ↓] theorem Aiv {k ty n:Nat} {x:Af}:CN k (.box ty n x) F h=A8T k ty n (A3.ev F x).cells h:=rfl
@[go_sem] theorem Aju (ty n:Nat) (cs:List VV):A8T 0 ty n cs h=bif decide (cs.length=n) && cs.all VV.cell then (match EZ h cs with
        | some (cs',ids)=>some (.fp cs' 0,Bl ids h)
        | none=>none) else none:=by rw [← H8];rfl
@[go_sem] theorem Ajv (ty n:Nat) (cs:List VV):A8T 1 ty n cs h=bif decide (cs.length=n) && cs.all VV.cell then some (.p h.length 0 0 0,h++[some { ty:=ty,esz:=0,ver:=0,nl:=false,rows:=[cs] }]) else none:=by rw [← H8];rfl
@[go_sem] theorem Ajw (ty n:Nat) (cs:List VV):A8T 2 ty n cs h=bif decide (cs.length=n) && cs.all VV.cell then some (.p (h++(Az h.length cs).2).length 0 0 0,h++(Az h.length cs).2++[some { ty:=ty,esz:=0,ver:=0,nl:=false,rows:=[(Az h.length cs).1] }]) else none:=by rw [← H8];rfl
def agV (k:Nat) (r:Option (List VV)) (h:VH):Option (VV×VH):=match r with
 | some cs=>(match k with
  | 2=>(match Az h.length cs with | (ws,os)=>some (.ag ws,h++os))
  | _=>some (.ag cs,h))
 | none=>none
@[go_sem ↓] theorem Af6 {k:Nat} {z:List AV} {ps:List (Nat×Nat×Af)}:CN k (.build z ps) F h=agV k (E4 F (C8 z) ps) h:=rfl
@[go_sem] theorem Afx (cs:List VV):agV 0 (some cs) h=some (.ag cs,h):=rfl
@[go_sem] theorem Aeq (cs:List VV):agV 1 (some cs) h=some (.ag cs,h):=rfl
@[go_sem] theorem Aer (cs:List VV):agV 2 (some cs) h=some (.ag (Az h.length cs).1,h++(Az h.length cs).2):=rfl
def AbJ (k ty esz len:Nat) (r:Option (List VV)) (h:VH):Option (VV×VH):=match r with
  | some cs=>bif Nat.beq cs.length (len * esz) && Nat.blt 0 esz && cs.all VV.cell then
    match k with
    | 0=>(match ZZ h (Cu esz len cs) with
     | some (rs,ids)=>some (.ls rs,Bl ids h)
     | none=>none)
    | _=>some (.sl h.length 0 0 len,h++[some { ty:=ty,esz:=esz,ver:=0,nl:=false,rows:=Cu esz len cs }])
   else none
  | none=>none
@[go_sem ↓] theorem Aiw {k ty esz len:Nat} {z:List AV} {ps:List (Nat×Nat×Af)}:CN k (.bsl ty esz len z ps) F h=AbJ k ty esz len (E4 F (C8 z) ps) h:=rfl
@[go_sem] theorem Ajx (ty esz len:Nat) (cs:List VV):AbJ 0 ty esz len (some cs) h=bif decide (cs.length=len * esz) && decide (0 < esz) && cs.all VV.cell then (match ZZ h (Cu esz len cs) with
          | some (rs,ids)=>some (.ls rs,Bl ids h)
          | none=>none) else none:=by rw [← H8,← A32];rfl
@[go_sem] theorem Ajy (ty esz len:Nat) (cs:List VV):AbJ 1 ty esz len (some cs) h=bif decide (cs.length=len * esz) && decide (0 < esz) && cs.all VV.cell then some (.sl h.length 0 0 len,h++[some { ty:=ty,esz:=esz,ver:=0,nl:=false,rows:=Cu esz len cs }]) else none:=by rw [← H8,← A32];rfl
def stV (n:Nat) (a:VV) (cs:List VV) (h:VH):Option (VV×VH) :=
  bif Nat.beq cs.length n then (match vst h a cs with | some h'=>some (VV.nul,h') | none=>none) else none
@[go_sem ↓] theorem Als {k n:Nat} {a x:Af}:CN k (.st n a x) F h=stV n (A3.ev F a) (A3.ev F x).cells h:=rfl
def stO (id r c:Nat) (cs:List VV) (h:VH) (o:Option VO):Option (VV×VH):=match o with
 | some o=>(match o.rows[r]? with
   | some row=>bif Nat.ble (c+cs.length) row.length && cs.all VV.cell then some (VV.nul,h.set id (some { o with rows:=o.rows.set r (DC row c cs) })) else none
   | none=>none)
 | none=>none
@[go_sem] theorem Amc (n id ver r c:Nat) (cs:List VV):stV n (.p id ver r c) cs h=bif decide (cs.length=n) then stO id r c cs h (BS h id ver) else none:=by
 rw [← H8]
 unfold stV stO vst
 cases Nat.beq cs.length n with
 | false=>rfl
 | true =>
  simp only [cond_true]
  cases BS h id ver with
  | none=>rfl
  | some o =>
   simp only
   cases o.rows[r]? with
   | none=>rfl
   | some row =>
    simp only
    cases (Nat.ble (c+cs.length) row.length && cs.all VV.cell)<;>rfl
@[go_sem] theorem AgE (id r c:Nat) (cs:List VV) (o:VO):stO id r c cs h (some o)=(match o.rows[r]? with
      | some row=>bif decide (c+cs.length≤row.length) && cs.all VV.cell then some (VV.nul,h.set id (some { o with rows:=o.rows.set r (DC row c cs) })) else none
      | none=>none):=by
  unfold stO
  simp only [Pd]
def A34 (v:VV) (h:VH):Option (VV×VH):=match v with
  | .p id ver r c=>some (.p id ver r c,h)
  | .fp cells c=>some (.fp cells c,h)
  | .f g a c=>some (.f g a c,h)
  | _=>none
@[go_sem ↓] theorem Ahc {k:Nat} {x:Af}:CN k (.nilc x) F h=A34 (A3.ev F x) h:=rfl
@[go_sem] theorem AhX (id ver r c:Nat):A34 (.p id ver r c) h=some (.p id ver r c,h):=rfl
@[go_sem] theorem Agq (l:List VV) (c:Nat):A34 (.fp l c) h=some (.fp l c,h):=rfl
@[go_sem] theorem AhW (g:Nat) (a c:List VV):A34 (.f g a c) h=some (.f g a c,h):=rfl
def Agr (v:VV) (h:VH):Option (VV×VH):=match v with | .b t=>some (.b (!t),h) | _=>none
@[go_sem ↓] theorem AiD {k:Nat} {x:Af}:CN k (.not x) F h=Agr (A3.ev F x) h:=rfl
@[go_sem] theorem AkP (t:Bool):Agr (.b t) h=some (.b (!t),h):=rfl
def Agn (v:VV) (h:VH):Option (VV×VH):=match v with | .i k n=>some (.i k (k.wrap (0 - n)),h) | _=>none
@[go_sem ↓] theorem AiC {k:Nat} {x:Af}:CN k (.neg x) F h=Agn (A3.ev F x) h:=rfl
@[go_sem] theorem AkO (k:IntKind) (n:Int):Agn (.i k n) h=some (.i k (k.wrap (0 - n)),h):=rfl
def A5t (k:IntKind) (v:VV) (h:VH):Option (VV×VH):=match v with | .i _ n=>some (.i k (k.wrap n),h) | _=>none
@[go_sem ↓] theorem Ahb {k:Nat} {i:IntKind} {x:Af}:CN k (.conv i x) F h=A5t i (A3.ev F x) h:=rfl
@[go_sem] theorem AhE (k i:IntKind) (n:Int):A5t k (.i i n) h=some (.i k (k.wrap n),h):=rfl
def Agm (m ty esz bytes:Nat) (zero:List AV) (l c:VV) (h:VH):Option (VV×VH):=match l,c with
  | .i .i64 n,.i .i64 k =>
   if 0≤n∧n≤k∧k.toNat * bytes≤A6 then
    bif Nat.beq zero.length esz && Nat.blt 0 esz && (C8 zero).all VV.cell then
     match m with
     | 0=>(match EZ [] (C8 zero) with
      | some (z,_)=>some (.ls (List.replicate n.toNat z),h)
      | none=>none)
     | _=>some (.sl h.length 0 0 n.toNat,h++[some { ty:=ty,esz:=esz,ver:=0,nl:=false,rows:=List.replicate n.toNat (C8 zero) }])
    else none
   else none
  | _,_=>none
@[go_sem ↓] theorem AiA {k ty esz bytes:Nat} {z:List AV} {l c:Af}:CN k (.mks ty esz bytes z l c) F h=Agm k ty esz bytes z (A3.ev F l) (A3.ev F c) h:=rfl
attribute [go_sem] Agm
def faV (off:Nat) (v:VV) (h:VH):Option (VV×VH):=match v with
  | .p id ver r c=>some (.p id ver r (c+off),h)
  | .fp cells c=>some (.fp cells (c+off),h)
  | _=>none
@[go_sem ↓] theorem Alp {k off:Nat} {x:Af}:CN k (.fa off x) F h=faV off (A3.ev F x) h:=rfl
@[go_sem] theorem AlZ (off id ver r c:Nat):faV off (.p id ver r c) h=some (.p id ver r (c+off),h):=rfl
@[go_sem] theorem Akh (off:Nat) (l:List VV) (c:Nat):faV off (.fp l c) h=some (.fp l (c+off),h):=rfl
def iaV (esz:Nat) (x i:VV) (h:VH):Option (VV×VH):=match x,i with
  | .ls rows,.i _ n=>if 0≤n then (match rows[n.toNat]? with
   | some row=>bif Nat.beq row.length esz then some (.fp row 0,h) else none
   | none=>none) else none
  | .sl id ver off len,.i _ n=>if 0≤n∧n < len then (match BS h id ver with
   | some o=>bif Nat.beq o.esz esz && !o.nl then some (.p id ver (off+n.toNat) 0,h) else none
   | none=>none) else none
  | _,_=>none
@[go_sem ↓] theorem Alq {k esz:Nat} {x i:Af}:CN k (.ia esz x i) F h=iaV esz (A3.ev F x) (A3.ev F i) h:=rfl
def iaR (esz:Nat) (row:Option (List VV)) (h:VH):Option (VV×VH):=match row with
      | some row=>bif decide (row.length=esz) then some (.fp row 0,h) else none
      | none=>none
@[go_sem] theorem Aga (esz:Nat) (row:List VV):iaR esz (some row) h=bif decide (row.length=esz) then some (.fp row 0,h) else none:=rfl
@[go_sem] theorem Akt (esz:Nat) (rows:List (List VV)) (k:IntKind) (n:Int):iaV esz (.ls rows) (.i k n) h=if 0≤n then iaR esz rows[n.toNat]? h else none:=by
 simp only [iaV,iaR,H8]
@[go_sem] theorem Aku (esz id ver off len:Nat) (k:IntKind) (n:Int):iaV esz (.sl id ver off len) (.i k n) h=if 0≤n∧n < len then (match BS h id ver with
      | some o=>bif decide (o.esz=esz) && !o.nl then some (.p id ver (off+n.toNat) 0,h) else none
      | none=>none) else none:=by
  simp only [iaV,H8]
def Ace (len esz:Nat) (x i:VV) (h:VH):Option (VV×VH):=match x,i with
  | .p id ver r c,.i _ n=>if 0≤n∧n < len then some (.p id ver r (c+n.toNat * esz),h) else none
  | .fp cells c,.i _ n=>if 0≤n∧n < len then some (.fp cells (c+n.toNat * esz),h) else none
  | _,_=>none
@[go_sem ↓] theorem Aiy {k len esz:Nat} {x i:Af}:CN k (.iaa len esz x i) F h=Ace len esz (A3.ev F x) (A3.ev F i) h:=rfl
@[go_sem] theorem Akv (len esz id ver r c:Nat) (k:IntKind) (n:Int):Ace len esz (.p id ver r c) (.i k n) h=if 0≤n∧n < len then some (.p id ver r (c+n.toNat * esz),h) else none:=rfl
@[go_sem] theorem AhK (len esz:Nat) (l:List VV) (c:Nat) (k:IntKind) (n:Int):Ace len esz (.fp l c) (.i k n) h=if 0≤n∧n < len then some (.fp l (c+n.toNat * esz),h) else none:=rfl
def ixV (x i:VV) (h:VH):Option (VV×VH):=match x,i with
  | .s s,.i _ n=>if 0≤n then (match s.data.toList[n.toNat]? with | some b=>some (.i .u8 b.toNat,h) | none=>none) else none
  | _,_=>none
@[go_sem ↓] theorem Alr {k:Nat} {x i:Af}:CN k (.ix x i) F h=ixV (A3.ev F x) (A3.ev F i) h:=rfl
@[go_sem] theorem Am8 (s:ByteArray) (k:IntKind) (n:Int):ixV (.s s) (.i k n) h=if 0≤n then (match s.data.toList[n.toNat]? with | some b=>some (.i .u8 b.toNat,h) | none=>none) else none:=rfl
def Ag1 (v:VV) (i:Nat) (h:VH):Option (VV×VH):=match v with
  | .tu vs=>(match vs[i]? with | some v=>some (v,h) | none=>none)
  | _=>none
@[go_sem ↓] theorem Aix {k i:Nat} {x:Af}:CN k (.ext x i) F h=Ag1 (A3.ev F x) i h:=rfl
@[go_sem] theorem AhI (vs:List VV) (i:Nat):Ag1 (.tu vs) i h=(match vs[i]? with | some v=>some (v,h) | none=>none):=rfl
def A6C (s:Bool) (v:VV) (h:VH):Option (VV×VH):=match s,v with
  | true,.s s=>some (.i .i64 s.size,h)
  | false,x=>(match LM x with | some n=>some (.i .i64 n,h) | none=>none)
  | _,_=>none
@[go_sem ↓] theorem Aiz {k:Nat} {s:Bool} {x:Af}:CN k (.len s x) F h=A6C s (A3.ev F x) h:=by cases s<;>rfl
@[go_sem] theorem AkA (s:ByteArray):A6C true (.s s) h=some (.i .i64 s.size,h):=rfl
@[go_sem] theorem AhL (r:List (List VV)):A6C false (.ls r) h=some (.i .i64 r.length,h):=rfl
@[go_sem] theorem AhM:A6C false .nl h=some (.i .i64 (0:Nat),h):=rfl
@[go_sem] theorem AhN (a b c n:Nat):A6C false (.sl a b c n) h=some (.i .i64 n,h):=rfl
def Ads (mx:Bool) (x y:VV) (h:VH):Option (VV×VH):=match x,y with
  | .i k a,.i k' c=>if k=k' then some (.i k (U7 mx a c),h) else none
  | _,_=>none
@[go_sem ↓] theorem AiB {k:Nat} {mx:Bool} {x y:Af}:CN k (.mnx mx x y) F h=Ads mx (A3.ev F x) (A3.ev F y) h:=rfl
@[go_sem] theorem AkE (mx:Bool) (k:IntKind) (a c:Int):Ads mx (.i k a) (.i k c) h=some (.i k (U7 mx a c),h):=by simp only [Ads,if_true]
def ldR (n:Option Nat) (c:Nat) (row:List VV):Option VV:=match n with
  | none=>row[c]?
  | some n=>bif decide (c+n≤row.length) then some (.ag ((row.drop c).take n)) else none
@[go_sem] theorem Agj (c:Nat) (row:List VV):ldR none c row=row[c]?:=rfl
@[go_sem] theorem Agk (n c:Nat) (row:List VV):ldR (some n) c row=bif decide (c+n≤row.length) then some (.ag ((row.drop c).take n)) else none:=rfl
@[go_sem] theorem Alo (n:Option Nat) (cells:List VV) (c:Nat):vld h n (.fp cells c)=ldR n c cells:=by
 cases n with
 | none=>rfl
 | some n=>simp only [vld,A12,ldR,Pd]
def ldO (n:Option Nat) (r c:Nat) (o:Option VO):Option VV:=match o with
 | some o=>(match o.rows[r]? with
  | some row=>ldR n c row
  | none=>none)
 | none=>none
@[go_sem] theorem Ami (n:Option Nat) (id ver r c:Nat):vld h n (.p id ver r c)=ldO n r c (BS h id ver):=by
 unfold vld A12 ldO
 simp only
 cases BS h id ver with
 | none=>rfl
 | some o =>
  simp only
  cases o.rows[r]? with
  | none=>rfl
  | some row =>
   simp only
   cases n with
   | none=>rfl
   | some n=>simp only [ldR,Pd]
@[go_sem] theorem Agi (n:Option Nat) (r c:Nat) (o:VO):ldO n r c (some o)=(match o.rows[r]? with
  | some row=>ldR n c row
  | none=>none):=rfl
attribute [go_sem] E4 DC BS LM Az Cu C1 JA
attribute [go_sem] Nat.reduceEqDiff Nat.reduceLeDiff Nat.reduceLT Nat.reduceAdd Nat.reduceMul Nat.reduceSub Nat.lt_irrefl
attribute [go_sem] List.getElem?_cons_zero List.getElem?_cons_succ List.getElem?_nil List.set_cons_zero List.set_cons_succ List.getElem?_map List.length_map List.length_append List.flatten_cons
@[go_sem] theorem Ag5 (h:VH) (vs:List VV):EZ h vs=B5 (frz h 8) vs:=rfl
@[go_sem] theorem Ag6 (h:VH) (vs:List (List VV)):ZZ h vs=B5 (fun row=>B5 (frz h 8) row) vs:=rfl
attribute [go_sem] B5
section
variable {d:Nat}
@[go_sem] theorem Am1 (x:Bool):frz h (d+1) (.b x)=some (.b x,[]):=rfl
@[go_sem] theorem Am3 (k:IntKind) (x:Int):frz h (d+1) (.i k x)=some (.i k x,[]):=rfl
@[go_sem] theorem Am5 (x:ByteArray):frz h (d+1) (.s x)=some (.s x,[]):=rfl
@[go_sem] theorem Akn:frz h (d+1) .nf=some (.nf,[]):=rfl
@[go_sem] theorem Akp:frz h (d+1) .np=some (.np,[]):=rfl
@[go_sem] theorem Ako:frz h (d+1) .nl=some (.ls [],[]):=rfl
@[go_sem] theorem Akm (r:List (List VV)):frz h (d+1) (.ls r)=some (.ls r,[]):=rfl
@[go_sem] theorem Akl (r:List VV) (c:Nat):frz h (d+1) (.fp r c)=some (.fp r c,[]):=rfl
@[go_sem] theorem Am4 (id ver r c:Nat):frz h (d+1) (.p id ver r c)=(match BS h id ver with
      | some o=>(match o.rows[r]? with
        | some row=>(match B5 (frz h d) row with
          | some (cs,ids)=>some (.fp cs c,id::ids)
          | none=>none)
        | none=>none)
      | none=>none):=rfl
@[go_sem] theorem Akq (id ver off n:Nat):frz h (d+1) (.sl id ver off n)=(match BS h id ver with
      | some o=>bif Nat.ble (off+n) o.rows.length && (Nat.blt 0 o.esz || o.nl) then
          (match B5 (fun row=>B5 (frz h d) row) ((o.rows.drop off).take n) with
          | some (rs,ids)=>some (.ls rs,id::ids)
          | none=>none) else none
      | none=>none):=rfl
@[go_sem] theorem Am2 (g:Nat) (a c:List VV):frz h (d+1) (.f g a c)=(match B5 (frz h d) a,B5 (frz h d) c with
      | some (a',i1),some (c',i2)=>some (.f g a' c',i1++i2)
      | _,_=>none):=rfl
@[go_sem] theorem Akk (cs:List VV):frz h (d+1) (.ag cs)=(match B5 (frz h d) cs with
      | some (cs',is)=>some (.ag cs',is)
      | none=>none):=rfl
@[go_sem] theorem Akr (cs:List VV):frz h (d+1) (.tu cs)=(match B5 (frz h d) cs with
      | some (cs',is)=>some (.tu cs',is)
      | none=>none):=rfl
end
@[go_sem] theorem Xw {α β:Type} {f:α→β} {g:β→Option (β×List Nat)} {l:List α} (hg:∀ x,g (f x)=some (f x,[])):B5 g (l.map f)=some (l.map f,[]):=by
 induction l with
 | nil=>rfl
 | cons x xs ih=>simp only [List.map_cons,B5,hg,ih,List.nil_append]
@[go_sem] theorem Agl {β:Type} {z:β} {g:β→Option (β×List Nat)} {n:Nat} (hg:g z=some (z,[])):B5 g (List.replicate n z)=some (List.replicate n z,[]):=by
 induction n with
 | zero=>rfl
 | succ n ih=>simp only [List.replicate_succ,B5,hg,ih,List.nil_append]
@[go_sem] theorem Age (h:VH):Bl [] h=h:=rfl
@[go_sem] theorem Aez (i:Nat) (l:List Nat) (h:VH):Bl (i::l) h=Bl l (h.set i none):=rfl
@[go_sem] theorem Al0 (x:Bool):scal (.b x)=true:=rfl
@[go_sem] theorem Al2 (k:IntKind) (x:Int):scal (.i k x)=true:=rfl
@[go_sem] theorem Al3 (x:ByteArray):scal (.s x)=true:=rfl
@[go_sem] theorem Aib:scal .nf=true:=rfl
@[go_sem] theorem Aic:scal .np=true:=rfl
@[go_sem] theorem Aia (r:List (List VV)):scal (.ls r)=false:=rfl
@[go_sem] theorem Ai9 (r:List VV) (c:Nat):scal (.fp r c)=false:=rfl
@[go_sem] theorem Ai8 (r:List VV):scal (.ag r)=false:=rfl
@[go_sem] theorem Al1 (g:Nat) (a c:List VV):scal (.f g a c)=false:=rfl
@[go_sem] theorem Aid (r:List VV):scal (.tu r)=Mn r:=rfl
@[go_sem] theorem AeL:Mn []=true:=rfl
@[go_sem] theorem AdG (v:VV) (r:List VV):Mn (v::r)=(scal v && Mn r):=rfl
@[go_sem] theorem Aeu {α:Type} (b:Bool) (x:α):(bif b then x else x)=x:=by cases b<;>rfl
@[go_sem] theorem A0G {α:Type} {f:α→List VV} {e:Nat} {l:List α} (hf:∀ x,(f x).length=e):D0 e (l.map f)=true:=by
 unfold D0
 rw [List.all_eq_true]
 intro r hr
 obtain ⟨x,_,rfl⟩:=List.mem_map.1 hr
 rw [hf];exact Nat.beq_refl e
@[go_sem] theorem Adx {e:Nat}:D0 e []=true:=rfl
@[go_sem] theorem Abd {e:Nat} (r:List VV) (rs:List (List VV)):D0 e (r::rs)=(Nat.beq r.length e && D0 e rs):=rfl
@[go_sem] theorem Ady {e n:Nat} {z:List VV} (hz:z.length=e):D0 e (List.replicate n z)=true:=by
 unfold D0
 rw [List.all_eq_true]
 intro r hr
 rw [List.eq_of_mem_replicate hr,hz];exact Nat.beq_refl e
attribute [go_sem] JE A4M R1
@[go_sem] theorem AeB {α β:Type} (f:α→β) (n:Nat) (l:List α):(l.map f).drop n=(l.drop n).map f:=(List.map_drop ..).symm
@[go_sem] theorem AeC {α β:Type} (f:α→β) (n:Nat) (l:List α):(l.map f).take n=(l.take n).map f:=(List.map_take ..).symm
@[go_sem] theorem AeO {α:Type} (l:List α):l.take l.length=l:=List.take_length
attribute [go_sem] List.drop_zero List.length_cons List.length_nil List.all_cons List.all_nil List.take_succ_cons List.take_zero List.drop_succ_cons List.take_nil List.drop_nil Nat.zero_add Nat.add_zero Nat.le_refl Nat.sub_zero Nat.zero_le List.length_replicate List.length_take List.length_drop
@[go_sem] theorem Aa9 (L:Nat) (h:VH):LF L [] h=True:=by cases h<;>rfl
def okB (L:Nat) (o':Option VO):Bool:=match o' with | none=>true | some x=>x.rows.all (Cx L)
@[go_sem] theorem Agu (L:Nat):okB L none=true:=rfl
@[go_sem] theorem Agv (L:Nat) (x:VO):okB L (some x)=x.rows.all (Cx L):=rfl
@[go_sem] theorem GV {α:Type} {f:α→List VV} {L:Nat} {l:List α} (hf:∀ x,Cx L (f x)=true):(l.map f).all (Cx L)=true:=by
 rw [List.all_eq_true]
 intro r hr
 obtain ⟨x,_,rfl⟩:=List.mem_map.1 hr
 exact hf x
@[go_sem] theorem AaN {L n:Nat} {z:List VV} (hf:Cx L z=true):(List.replicate n z).all (Cx L)=true:=by
 rw [List.all_eq_true]
 intro r hr
 rw [List.eq_of_mem_replicate hr];exact hf
@[go_sem] theorem XM (L:Nat) (o o':Option VO) (h h':VH):LF L (o::h) (o'::h')=((o=o'∨okB L o' = true)∧LF L h h'):=by
 show ((o=o'∨∀ x,o' = some x→x.rows.all (Cx L)=true)∧LF L h h')=_
 congr 2
 apply propext
 cases o' with
 | none=>simp [okB]
 | some x=>simp [okB]
def Fz (a:List VV):Prop:=∀ h d,B5 (frz h (d+3)) a=some (a,[])
theorem Xv {α:Type} {f:α→Option (α×List Nat)}:∀ {a b:List α},B5 f a=some (a,[])→B5 f b=some (b,[])→B5 f (a++b)=some (a++b,[]):=by
 intro a
 induction a with
 | nil=>intro b _ h;exact h
 | cons x xs ih =>
  intro b h1 h2
  simp only [B5] at h1
  split at h1
  ·rename_i y i ys is e1 e2
   simp only [Option.some.injEq,Prod.mk.injEq,List.cons.injEq,List.append_eq_nil_iff] at h1
   obtain ⟨⟨rfl,rfl⟩,rfl,rfl⟩:=h1
   simp only [List.cons_append,B5,e1,ih e2 h2,List.nil_append]
  ·cases h1
theorem Fz.call {a c x:List VV} (ha:Fz a) (hc:Fz c) {h:VH} (hx:B5 (frz h 8) x=some (x,[])):B5 (frz h 8) (a++x++c)=some (a++x++c,[]):=Xv (Xv (ha h 5) hx) (hc h 5)
theorem HC {L:Nat} {h:VH} {d:Nat}:∀ {a:List VV},B5 (frz h d) a=some (a,[])→(∀ v,frz h d v=some (v,[])→bel L v=true)→Cx L a=true:=by
 intro a
 induction a with
 | nil=>intro _ _;rfl
 | cons x xs ih =>
  intro h1 h2
  simp only [B5] at h1
  split at h1
  ·rename_i y i ys is e1 e2
   simp only [Option.some.injEq,Prod.mk.injEq,List.cons.injEq,List.append_eq_nil_iff] at h1
   obtain ⟨⟨rfl,rfl⟩,rfl,rfl⟩:=h1
   simp only [Cx,h2 _ e1,ih e2 h2,Bool.and_self]
  ·cases h1
theorem A1I {L:Nat} {h:VH}:∀ {d:Nat} {v:VV},frz h d v=some (v,[])→bel L v=true:=by
 intro d
 induction d with
 | zero=>intro v e;simp [frz] at e
 | succ d ih =>
  intro v e
  cases v with
  | p id ver r c =>
   simp only [frz] at e
   split at e
   ·split at e
    ·split at e<;>cases e
    ·cases e
   ·cases e
  | sl id ver off n =>
   simp only [frz] at e
   split at e
   ·rename_i o ho
    cases hb:(Nat.ble (off+n) o.rows.length && (Nat.blt 0 o.esz || o.nl)) with
    | false=>rw [hb] at e;cases e
    | true=>rw [hb] at e;simp only [cond_true] at e;split at e<;>cases e
   ·cases e
  | f g a c =>
   simp only [frz] at e
   split at e
   ·rename_i a' i1 c' i2 h1 h2
    simp only [Option.some.injEq,Prod.mk.injEq,VV.f.injEq,true_and,List.append_eq_nil_iff] at e
    obtain ⟨⟨rfl,rfl⟩,rfl,rfl⟩:=e
    simp only [bel,HC h1 (fun v=>ih),HC h2 (fun v=>ih),Bool.and_self]
   ·cases e
  | ag cs =>
   simp only [frz] at e
   split at e
   ·rename_i cs' is h1
    simp only [Option.some.injEq,Prod.mk.injEq,VV.ag.injEq] at e
    obtain ⟨rfl,rfl⟩:=e
    simp only [bel,HC h1 (fun v=>ih)]
   ·cases e
  | tu cs =>
   simp only [frz] at e
   split at e
   ·rename_i cs' is h1
    simp only [Option.some.injEq,Prod.mk.injEq,VV.tu.injEq] at e
    obtain ⟨rfl,rfl⟩:=e
    simp only [bel,HC h1 (fun v=>ih)]
   ·cases e
  | _=>rfl
theorem Fz.bel {L:Nat} {a:List VV} (ha:Fz a):Cx L a=true:=HC (ha [] 0) fun v=>A1I
theorem Fz.nil:Fz []:=fun _ _=>rfl
@[go_sem] theorem Fz.eq {a:List VV} (ha:Fz a) {h:VH} {d:Nat}:B5 (frz h (d+3)) a=some (a,[]):=ha h d
@[go_sem] theorem XN (L:Nat) (h g:VH):LF L h (h++g)=True:=by
 induction h with
 | nil=>simp only [Aa9]
 | cons o h ih=>simp only [List.cons_append,XM,ih,true_or,true_and]
@[go_sem] theorem Agx (L:Nat) (h:VH):LF L h h=True:=by
 have:=XN L h []
 rwa [List.append_nil] at this
@[go_sem] theorem AlT (L:Nat) (x:Bool):MB L (.b x) = .b x:=rfl
@[go_sem] theorem AaP (L:Nat) (k:IntKind) (x:Int):MB L (.i k x) = .i k x:=rfl
@[go_sem] theorem AlV (L:Nat) (x:ByteArray):MB L (.s x) = .s x:=rfl
@[go_sem] theorem AjH (L:Nat):MB L .nf = .nf:=rfl
@[go_sem] theorem AjJ (L:Nat):MB L .np = .np:=rfl
@[go_sem] theorem AjI (L:Nat):MB L .nl = .nl:=rfl
@[go_sem] theorem AjG (L:Nat) (r:List (List VV)):MB L (.ls r) = .ls r:=rfl
@[go_sem] theorem AjF (L:Nat) (r:List VV) (c:Nat):MB L (.fp r c) = .fp r c:=rfl
@[go_sem] theorem AfK (L:Nat):MB L VV.nul=VV.nul:=A1e L
@[go_sem] theorem AlU (L id ver r c:Nat):MB L (.p id ver r c)=(bif Nat.blt id L then .p id ver r c else .un):=rfl
@[go_sem] theorem AjK (L id ver r c:Nat):MB L (.sl id ver r c)=(bif Nat.blt id L then .sl id ver r c else .un):=rfl
@[go_sem] theorem AjE (L:Nat) (l:List VV):MB L (.ag l)=(bif Cx L l then .ag l else .un):=rfl
@[go_sem] theorem AaO (L g:Nat) (a c:List VV):MB L (.f g a c)=(bif Cx L a && Cx L c then .f g a c else .un):=rfl
attribute [go_sem] bel Cx
section
variable {e:Option NW} {k:IntKind} {a c:Int}
@[go_sem] theorem Yh:B6 .add e (.i k a) (.i k c)=some (.i k (k.wrap (a+c))):=by simp [B6,B1,EX,Gz]
@[go_sem] theorem AgY:B6 .sub e (.i k a) (.i k c)=some (.i k (k.wrap (a - c))):=by simp [B6,B1,EX,Gz]
@[go_sem] theorem AgU:B6 .mul e (.i k a) (.i k c)=some (.i k (k.wrap (a * c))):=by simp [B6,B1,EX,Gz]
theorem EE (h:c≠0):B6 .rem e (.i k a) (.i k c)=some (.i k (a.tmod c)):=by simp [B6,B1,EX,h,Gz]
@[go_sem] theorem AgO:B6 .eql e (.i k a) (.i k c)=some (.b (decide (a=c))):=by simp only [B6,Wt,Option.bind_some,Gz]
@[go_sem] theorem AgV:B6 .neq e (.i k a) (.i k c)=some (.b (!decide (a=c))):=by simp only [B6,Wu,Option.bind_some,Gz]
@[go_sem] theorem A89:B6 .lss e (.i k a) (.i k c)=some (.b (decide (a < c))):=by simp only [B6,A5h,Option.bind_some,Gz]
@[go_sem] theorem AgT:B6 .leq e (.i k a) (.i k c)=some (.b (decide (a≤c))):=by simp only [B6,A5g,Option.bind_some,Gz]
@[go_sem] theorem AgS:B6 .gtr e (.i k a) (.i k c)=some (.b (decide (c < a))):=by simp only [B6,A5f,Option.bind_some,Gz]
@[go_sem] theorem AgR:B6 .geq e (.i k a) (.i k c)=some (.b (decide (c≤a))):=by simp only [B6,A5e,Option.bind_some,Gz]
@[go_sem] theorem AeT (x y:Bool):B6 .eql (some .b) (.b x) (.b y)=some (.b (x == y)):=rfl
@[go_sem] theorem AeV (x y:Bool):B6 .neq (some .b) (.b x) (.b y)=some (.b (!(x == y))):=rfl
@[go_sem] theorem AeU (x y:ByteArray):B6 .eql e (.s x) (.s y)=some (.b (decide (x=y))):=by simp only [B6,A3H,Option.bind_some,Gz]
@[go_sem] theorem AeW (x y:ByteArray):B6 .neq e (.s x) (.s y)=some (.b (!decide (x=y))):=by simp only [B6,A3I,Option.bind_some,Gz]
@[go_sem] theorem AgW:B6 .eql (some .p) .np .np=some (.b true):=rfl
@[go_sem] theorem AgX:B6 .neq (some .p) .np .np=some (.b false):=rfl
@[go_sem] theorem Aio (i v r c:Nat):B6 .eql (some .p) (.p i v r c) .np=some (.b false):=rfl
@[go_sem] theorem Aip (i v r c:Nat):B6 .neq (some .p) (.p i v r c) .np=some (.b true):=rfl
@[go_sem] theorem AgP (l:List VV) (c:Nat):B6 .eql (some .p) (.fp l c) .np=some (.b false):=rfl
@[go_sem] theorem AgQ (l:List VV) (c:Nat):B6 .neq (some .p) (.fp l c) .np=some (.b true):=rfl
theorem A8b {i v o n:Nat} (h:0 < n):B6 .eql (some .s) (.sl i v o n) .nl=some (.b false):=by
 cases n with
 | zero=>omega
 | succ n=>rfl
@[go_sem] theorem Ain:B6 .eql (some .s) .nl .nl=some (.b true):=rfl
def vW (w:BitVec 64):VV:=.i .u64 (w.toNat:Int)
variable {x y:BitVec 64}
@[go_sem] theorem Ali:VV.i .u64 (x.toNat:Int)=vW x:=rfl
@[go_sem] theorem AmX:VV.i .u64 0=vW 0#64:=rfl
@[go_sem] theorem AmY:VV.i .u64 1=vW 1#64:=rfl
theorem R0 {op:BinOp} {w:BitVec 64} (hb:B1 op e (Wd x) (Wd y)=some (Wd w)):B6 op e (vW x) (vW y)=some (vW w):=by
 show (B1 op e (Wd x) (Wd y)).bind Gz=_
 rw [hb];rfl
theorem A3l {op:BinOp} {w:Bool} (hb:B1 op e (Wd x) (Wd y)=some (.b w)):B6 op e (vW x) (vW y)=some (.b w):=by
 show (B1 op e (Wd x) (Wd y)).bind Gz=_
 rw [hb];rfl
@[go_sem] theorem Alg:B6 .and e (vW x) (vW y)=some (vW (x &&& y)):=R0 Wv
@[go_sem] theorem Amh:B6 .or e (vW x) (vW y)=some (vW (x ||| y)):=R0 A8S
@[go_sem] theorem AeR:B6 .andNot e (vW x) (vW y)=some (vW (x &&& ~~~y)):=R0 Ww
@[go_sem] theorem Aln:B6 .sub e (vW x) (vW y)=some (vW (x - y)):=R0 A5o
@[go_sem] theorem Alf:B6 .add e (vW x) (vW y)=some (vW (x+y)):=R0 A5j
@[go_sem] theorem Alj:B6 .eql e (vW x) (vW y)=some (.b (decide (x=y))):=A3l A5k
@[go_sem] theorem Alm:B6 .neq e (vW x) (vW y)=some (.b (!decide (x=y))):=A3l A5l
theorem AdQ {n:Nat} (h:n < 64):B6 .shl e (vW x) (.i .i64 n)=some (vW (x <<< n)):=by
 show (B1 .shl e (Wd x) (.i .i64 n)).bind Gz=_
 rw [A5m h];rfl
@[go_sem] theorem Aih:(vW x).cell=true:=rfl
@[go_sem] theorem AgN:(vW x).cells=[vW x]:=rfl
@[go_sem] theorem Alk {d:Nat}:frz h (d+1) (vW x)=some (vW x,[]):=rfl
@[go_sem] theorem Aii:scal (vW x)=true:=rfl
@[go_sem] theorem Alh {L:Nat}:bel L (vW x)=true:=rfl
@[go_sem] theorem Amg {L:Nat}:MB L (vW x)=vW x:=rfl
end
def A0Z:List VV→Option VV
 | [.i .u64 n]=>if 0≤n∧n < 18446744073709551616 then some (.i .i64 (Lib.ctz 64 n.toNat:Nat)) else none
 | _=>none
def W3 (F:A3) (h:VH) (d:Nat) (n:Option Nat) (a:Nat):Prop:=Ce (A3.tmp F d)=true∧vld h n (A3.tmp F a)=some (A3.tmp F d)
def A3J (v:VV) (w:Bool) (P:Prop):Prop:=match v with
 | .b x=>(bif x == w then P else True)
 | .tu []=>True
 | _=>False
@[go_sem] theorem AhD {P:Prop}:A3J (.b true) true P↔P:=Iff.rfl
@[go_sem] theorem AhA {P:Prop}:A3J (.b false) false P↔P:=Iff.rfl
@[go_sem] theorem AhC {P:Prop}:A3J (.b true) false P↔True:=Iff.rfl
@[go_sem] theorem AhB {P:Prop}:A3J (.b false) true P↔True:=Iff.rfl
@[go_sem] theorem AfJ {w:Bool} {P:Prop}:A3J VV.nul w P↔True:=Iff.rfl
@[go_sem ↓] theorem Aaz {L:JG}:BD F h L []↔True:=Iff.rfl
@[go_sem ↓] theorem AdZ {L:JG} {d a:Nat} {n:Option Nat} {r:List Aq}:BD F h L (o d (.ld n (.t a))::r)↔((d,n,a)∈L∨W3 F h d n a)∧BD F h L r:=Iff.rfl
@[go_sem ↓] theorem Abl {L:JG} {d t a:Nat} {w:Bool} {n:Option Nat} {r:List Aq}:BD F h L (og d t w (.ld n (.t a))::r)↔A3J (A3.tmp F t) w ((d,n,a)∈L∨W3 F h d n a)∧BD F h L r:=by
 show (match C2 F (some (t,w)) with | some false=>True | some true=>_ | none=>False)∧_↔_
 refine and_congr ?_ Iff.rfl
 simp only [C2]
 generalize A3.tmp F t=v
 cases v with
 | b x=>cases x<;>cases w<;>exact Iff.rfl
 | tu vs=>cases vs<;>exact Iff.rfl
 | _=>exact Iff.rfl
attribute [go_sem] Nk LN CM AbC GW Xc C2 List.filter_cons List.filter_nil List.mem_cons List.not_mem_nil
attribute [go_sem] decide_true decide_false Bool.not_true Bool.not_false Bool.and_true Bool.true_and Bool.and_false Bool.false_and Bool.or_true Bool.true_or Bool.or_false Bool.false_or cond_true cond_false not_true_eq_false not_false_eq_true if_true if_false false_and and_false exists_false imp_false
attribute [go_sem] or_false false_or or_self ite_true ite_false
attribute [go_sem] VV.b.injEq VV.i.injEq VV.s.injEq VV.ls.injEq VV.sl.injEq VV.p.injEq VV.fp.injEq VV.f.injEq VV.ag.injEq VV.tu.injEq Option.some.injEq Prod.mk.injEq true_and and_true and_self true_or or_true
 List.map_cons List.map_nil List.append_nil List.nil_append List.cons_append Option.map_some Option.map_none decide_eq_true_eq decide_eq_false_iff_not forall_const Bool.not_eq_true Bool.not_eq_false reduceCtorEq false_implies implies_true
 Int.toNat_natCast Int.natCast_nonneg Int.ofNat_lt Int.ofNat_le
end
section
variable {V:Al} {m:Nat→Nat}
theorem GL {k:Nat} (h:k < 9223372036854775807):IntKind.i64.wrap ((k:Int)+1)=((k+1:Nat):Int):=by rw [AG (by omega) (by omega)];omega
theorem Au {i n c d B C:Nat} {body:A1} (hne:c≠i∧c≠n∧d≠n∧i≠n∧m i=0) (N:Nat) (hN:N < 9223372036854775807) (I:Nat→A3→VH→Prop) {Q:Ex→A3→VH→Prop}
  (step:∀ k F h,k < N→A3.tmp F i = .i .i64 k→A3.tmp F n = .i .i64 N→I k F h →
   Vc V m body (Tm.set F c (.b true)) h (fun e F' h'=>match e with
    | .norm=>A3.tmp F' i = .i .i64 k∧A3.tmp F' n = .i .i64 N∧LF h.length h h'∧∀ v,I (k+1) (E8 h.length (Tm.set (Tm.set F' d v) i v)) (h'.take h.length)
    | .exit x=>(bif Nat.beq x C then A3.tmp F' i = .i .i64 k∧A3.tmp F' n = .i .i64 N∧LF h.length h h'∧∀ v,I (k+1) (E8 h.length (Tm.set (Tm.set F' d v) i v)) (h'.take h.length) else bif Nat.beq x B then Q .norm F' h' else Q (.exit x) F' h')
    | .ret=>Q .ret F' h'))
  (done:∀ F h,I N F h→Q .norm (Tm.set F c (.b false)) h) :
  ∀ k F h,k≤N→A3.tmp F i = .i .i64 k→A3.tmp F n = .i .i64 N→I k F h →
   VL V m B (.seq (.reg [o c (.bin .lss none (.t i) (.t n))]) (.seq (.cond (.t c) .skip (.exit B)) (.seq (.block C body) (.reg [o d (.bin .add none (.t i) (.c (.i .i64 1))),o i (.mov (.t d))])))) F h Q:=by
 obtain ⟨hci,hcn,hdn,hin,hm⟩:=hne
 intro k F h hk h1 h2 h3
 unfold VL
 rw [A0]
 refine AU (M:=Nat) (I:=fun k F h=>k≤N∧A3.tmp F i = .i .i64 k∧A3.tmp F n = .i .i64 N∧I k F h) (μ:=fun k=>N - k) ?_ k F h ⟨hk,h1,h2,h3⟩
 rintro k F h ⟨hk,h1,h2,h3⟩
 rw [Lc,SY,A55,Yx]
 simp only [Yj,h1,h2,A89,SS,Ec,Pw]
 rw [Lc,A16]
 simp only [Yj,HK,if_true,Ec]
 rcases Nat.lt_or_ge k N with hlt | hge
 ·have:decide ((k:Int) < N)=true:=by simp;omega
  rw [this,AaJ,A18]
  simp only
  rw [Lc,A0]
  refine (step k F h hlt h1 h2 h3).mono fun e F' h' hq=>?_
  have fin:(A3.tmp F' i = .i .i64 k∧A3.tmp F' n = .i .i64 N∧LF h.length h h'∧∀ v,I (k+1) (E8 h.length (Tm.set (Tm.set F' d v) i v)) (h'.take h.length)) →
    Vc V m (.reg [o d (.bin .add none (.t i) (.c (.i .i64 1))),o i (.mov (.t d))]) F' h' (fun e F' h'=>match e with
     | .norm=>LF h.length h h'∧∃ m',N - m' < N - k∧m'≤N∧A3.tmp (E8 h.length F') i = .i .i64 m'∧A3.tmp (E8 h.length F') n = .i .i64 N∧I m' (E8 h.length F') (h'.take h.length)
     | .exit id'=>(bif Nat.beq id' B then Q .norm F' h' else Q (.exit id') F' h')
     | e=>Q e F' h'):=by
   rintro ⟨g1,g2,g3,g4⟩
   rw [SY,A55,Yx]
   simp only [Yj,Abk,A7v,g1,Yh,SS,Ec,A55,hm,A19,A3m,A7a,W9,Ec,Pw,HK,if_true,KM,if_neg hin.symm,if_neg hdn.symm,g2,AaP]
   rw [GL (by omega)]
   exact ⟨g3,k+1,by omega,by omega,rfl,trivial,g4 _⟩
  cases e with
  | norm=>exact (fin hq).mono (by intro e F h hh;cases e<;>exact hh)
  | ret=>exact hq
  | exit x =>
   simp only at hq ⊢
   cases hb:Nat.beq x C with
   | true=>rw [hb] at hq;exact (fin hq).mono (by intro e F h hh;cases e<;>exact hh)
   | false=>rw [hb] at hq;exact hq
 ·have hkN:k=N:=by omega
  subst hkN
  have:decide ((k:Int) < k)=false:=by simp
  rw [this,AaI,A17]
  simp only [Nat.beq_refl,cond_true]
  exact done F h h3
theorem A8 {i c d1 d2 B C:Nat} {pre:List Aq} {body:A1} (hne:m d1=0∧m i=0) (N:Nat) (hN:N < 9223372036854775807) (I:Nat→A3→VH→Prop) {Q:Ex→A3→VH→Prop}
  (hpre:∀ k F h,k≤N→A3.tmp F i = .i .i64 k→I k F h→Vr V m pre F h (fun F' h'=>A3.tmp F' c = .b (decide (k < N))∧A3.tmp F' i = .i .i64 k∧h' = h∧I k F' h))
  (step:∀ k F h,k < N→A3.tmp F i = .i .i64 k→I k F h →
   Vc V m body F h (fun e F' h'=>match e with
    | .norm=>A3.tmp F' i = .i .i64 k∧LF h.length h h'∧∀ v w,I (k+1) (E8 h.length (Tm.set (Tm.set (Tm.set F' d1 v) d2 w) i w)) (h'.take h.length)
    | .exit x=>(bif Nat.beq x C then A3.tmp F' i = .i .i64 k∧LF h.length h h'∧∀ v w,I (k+1) (E8 h.length (Tm.set (Tm.set (Tm.set F' d1 v) d2 w) i w)) (h'.take h.length) else bif Nat.beq x B then Q .norm F' h' else Q (.exit x) F' h')
    | .ret=>Q .ret F' h'))
  (done:∀ F h,I N F h→Q .norm F h) :
  ∀ k F h,k≤N→A3.tmp F i = .i .i64 k→I k F h →
   VL V m B (.seq (.seq (.reg pre) (.cond (.t c) .skip (.exit B))) (.seq (.block C body) (.reg [o d1 (.mov (.t i)),o d2 (.bin .add none (.t d1) (.c (.i .i64 1))),o i (.mov (.t d2))]))) F h Q:=by
 obtain ⟨hm1,hm2⟩:=hne
 intro k F h hk h1 h3
 unfold VL
 rw [A0]
 refine AU (M:=Nat) (I:=fun k F h=>k≤N∧A3.tmp F i = .i .i64 k∧I k F h) (μ:=fun k=>N - k) ?_ k F h ⟨hk,h1,h3⟩
 rintro k F h ⟨hk,h1,h3⟩
 rw [Lc,Lc,SY]
 obtain ⟨n,F1,h',hr,hc,hi,rfl,hI⟩:=hpre k F h hk h1 h3
 refine ⟨n,F1,h',hr,?_⟩
 simp only
 rw [A16]
 simp only [Yj,hc,Ec]
 rcases Nat.lt_or_ge k N with hlt | hge
 ·rw [decide_eq_true hlt,AaJ,A18]
  simp only
  rw [Lc,A0]
  refine (step k F1 h' hlt hi hI).mono fun e F' h2 hq=>?_
  have fin:(A3.tmp F' i = .i .i64 k∧LF h'.length h' h2∧∀ v w,I (k+1) (E8 h'.length (Tm.set (Tm.set (Tm.set F' d1 v) d2 w) i w)) (h2.take h'.length)) →
    Vc V m (.reg [o d1 (.mov (.t i)),o d2 (.bin .add none (.t d1) (.c (.i .i64 1))),o i (.mov (.t d2))]) F' h2 (fun e F' h2=>match e with
     | .norm=>LF h'.length h' h2∧∃ m',N - m' < N - k∧m'≤N∧A3.tmp (E8 h'.length F') i = .i .i64 m'∧I m' (E8 h'.length F') (h2.take h'.length)
     | .exit id'=>(bif Nat.beq id' B then Q .norm F' h2 else Q (.exit id') F' h2)
     | e=>Q e F' h2):=by
   rintro ⟨g1,g3,g4⟩
   rw [SY,A55]
   simp only [hm1,A19,A3m,A7a,W9,Ec,Yj,Abk,A7v,g1,A55,Yx,HK,if_true,Yh,SS,Ec,hm2,Pw,KM,AaP]
   rw [GL (by omega)]
   exact ⟨g3,k+1,by omega,by omega,rfl,g4 _ _⟩
  cases e with
  | norm=>exact (fin hq).mono (by intro e F h hh;cases e<;>exact hh)
  | ret=>exact hq
  | exit x =>
   simp only at hq ⊢
   cases hb:Nat.beq x C with
   | true=>rw [hb] at hq;exact (fin hq).mono (by intro e F h hh;cases e<;>exact hh)
   | false=>rw [hb] at hq;exact hq
 ·have hkN:k=N:=by omega
  subst hkN
  have:decide (k < k)=false:=by simp
  rw [this,AaI,A17]
  simp only [Nat.beq_refl,cond_true]
  exact done F1 h' hI
end
abbrev eI (x:Int):List VV:=[.i .i64 x]
abbrev eW (x:BitVec 64):List VV:=[vW x]
abbrev eS (x:ByteArray):List VV:=[.s x]
abbrev eU (x:U8):List VV:=[.i .u8 (x.n:Int)]
abbrev lI (l:List Int):VV:=.ls (l.map eI)
abbrev lW (l:List (BitVec 64)):VV:=.ls (l.map eW)
abbrev lS (l:List ByteArray):VV:=.ls (l.map eS)
abbrev lU (l:List U8):VV:=.ls (l.map eU)
abbrev M2 (l:List Int):List VV:=[lI l]
abbrev Js (l:List ByteArray):List VV:=[lS l]
abbrev Hy (l:List (List Int)):List VV:=[.ls (l.map M2)]
abbrev eN (n:Ay):List VV:=[.i .i64 n.thread,.i .i64 n.up,.i .i64 n.kind,.i .i64 n.loc,.i .i64 n.mode,.i .i64 n.val,.b n.rmw,.b n.fin,lI n.regs]
abbrev vN (n:Ay):VV:=.ag (eN n)
abbrev eT (t:A4):List VV:=[.i .i64 t.vals,lS t.locs,.ls (t.regs.map Js),.ls (t.nodes.map eN)]
abbrev vT (t:A4):VV:=.ag (eT t)
abbrev eSh (s:Am):List VV:=[lI s.has,lI s.jf,.ls (s.mo.map Hy)]
abbrev QZ (s:Am):VV:=.ag (eSh s)
abbrev eEx (e:C4):List VV:=[lI e.has,lI e.rf,.ls (e.mo.map M2)]
abbrev vEx (e:C4):VV:=.ag (eEx e)
def LE:VO:={ ty:=0,esz:=0,ver:=0,nl:=true,rows:=[] }
def AN (ty e:Nat) (rows:List (List VV)):VO:=if rows.length=0 then LE else { ty:=ty,esz:=e,ver:=rows.length,nl:=false,rows:=rows }
section
variable {ty e:Nat} {rows:List (List VV)}
@[go_sem] theorem DP:(AN ty e rows).ver=rows.length:=by
 unfold AN;split
 ·rename_i h;rw [h];rfl
 ·rfl
@[go_sem] theorem RJ:(AN ty e rows).rows=rows:=by
 unfold AN;split
 ·rename_i h;rw [List.length_eq_zero_iff.1 h];rfl
 ·rfl
@[go_sem] theorem Ahr:((AN ty e rows).nl || (decide ((AN ty e rows).ty=ty) && decide ((AN ty e rows).esz=e)))=true:=by
 unfold AN;split
 ·rfl
 ·simp
@[go_sem] theorem A59:(decide ((AN ty e rows).esz=e) || (AN ty e rows).nl)=true:=by
 unfold AN;split
 ·simp [LE]
 ·simp
theorem JL (he:0 < e):(decide (0 < (AN ty e rows).esz) || (AN ty e rows).nl)=true:=by
 unfold AN;split
 ·rfl
 ·simp [he]
@[go_sem] theorem Aek:(decide (0 < (AN ty 1 rows).esz) || (AN ty 1 rows).nl)=true:=JL (by decide)
@[go_sem] theorem Ael:(decide (0 < (AN ty 2 rows).esz) || (AN ty 2 rows).nl)=true:=JL (by decide)
@[go_sem] theorem Aem:(decide (0 < (AN ty 4 rows).esz) || (AN ty 4 rows).nl)=true:=JL (by decide)
@[go_sem] theorem Aen:(decide (0 < (AN ty 7 rows).esz) || (AN ty 7 rows).nl)=true:=JL (by decide)
@[go_sem] theorem Aeo:(decide (0 < (AN ty 9 rows).esz) || (AN ty 9 rows).nl)=true:=JL (by decide)
@[go_sem] theorem Aep {r:List VV}:({ ty:=ty,esz:=e,ver:=rows.length+1,nl:=false,rows:=rows++[r] }:VO)=AN ty e (rows++[r]):=by
 unfold AN
 rw [if_neg (by simp),List.length_append];rfl
@[go_sem] theorem HO {α:Type} {xs:List α} {x:α} {f:α→List VV}:({ ty:=ty,esz:=e,ver:=xs.length+1,nl:=false,rows:=(xs++[x]).map f }:VO)=AN ty e ((xs++[x]).map f):=by
 unfold AN
 rw [if_neg (by simp),List.length_map,List.length_append];rfl
@[go_sem] theorem Afw:AN ty e []=LE:=rfl
@[go_sem] theorem AeE:LE.rows=[]:=rfl
@[go_sem] theorem AhS:LE.nl=true:=rfl
@[go_sem] theorem Agp:LE.ver=0:=rfl
@[go_sem] theorem Ago:LE.esz=0:=rfl
@[go_sem] theorem AhT:LE.ty=0:=rfl
@[go_sem] theorem Qy:({ ty:=0,esz:=0,ver:=0,nl:=true,rows:=[] }:VO)=LE:=rfl
end
@[go_sem] theorem QQ (xs:List Int) (x:Int):xs.map eI++[[.i .i64 x]]=(xs++[x]).map eI:=by simp
@[go_sem] theorem Al7 (xs:List (BitVec 64)) (x:BitVec 64):xs.map eW++[[vW x]]=(xs++[x]).map eW:=by simp
@[go_sem] theorem Al6 (xs:List ByteArray) (x:ByteArray):xs.map eS++[[.s x]]=(xs++[x]).map eS:=by simp
section
variable {V:Al} {m:Nat→Nat} {F:A3} {h:VH} {x w:Bool} {d:Option Nat} {op:B7}
theorem Bk {r:List Aq} {R:A3→VH→Prop} (h1:x=true→VG V m (.b true) w d op r F h R) (h2:x=false→VG V m (.b false) w d op r F h R):VG V m (.b x) w d op r F h R:=by
 cases x with
 | true=>exact h1 rfl
 | false=>exact h2 rfl
theorem Bb {c:List Aq} {r:List At} {L:JG} {R:A3→VH→Prop} (h1:x=true→Yo V m (.b true) w d op c r L F h R) (h2:x=false→Yo V m (.b false) w d op c r L F h R):Yo V m (.b x) w d op c r L F h R:=by
 cases x with
 | true=>exact h1 rfl
 | false=>exact h2 rfl
theorem AZ {a b:A1} {Q:Ex→A3→VH→Prop} (h1:x=true→VCn V m (.b true) a b F h Q) (h2:x=false→VCn V m (.b false) a b F h Q):VCn V m (.b x) a b F h Q:=by
 cases x with
 | true=>exact h1 rfl
 | false=>exact h2 rfl
end
@[go_sem] theorem Aij (h:VH) (t e b:Nat) (x y:VV):NJ 0 h t e b x y=Hv h t e b x y:=rfl
@[go_sem] theorem Aik (h:VH) (t e b:Nat) (x y:VV):NJ 1 h t e b x y=Hv h t e b x y:=rfl
@[go_sem] theorem Ail (h:VH) (t e b:Nat) (x y:VV):NJ 2 h t e b x y=Hv h t e b x y:=rfl
def Ac9 (r:Option (VV×VH)):Option (VV×VH):=match r with
 | some (v,h')=>(match frz h' dF v with
  | some (r,ids)=>some (r,Bl ids h')
  | none=>none)
 | none=>none
@[go_sem] theorem Aim (h:VH) (t e b:Nat) (x y:VV):NJ 5 h t e b x y=Ac9 (Hv h t e b x y):=by
 unfold NJ Ac9;rfl
@[go_sem] theorem Aey (v:VV) (h:VH):Ac9 (some (v,h))=(match frz h 8 v with
  | some (r,ids)=>some (r,Bl ids h)
  | none=>none):=rfl
def cpV (n:Nat):Nat:=if n=0 then 0 else 1
def cpO (ty e:Nat) (rows:List (List VV)):VO:={ ty:=ty,esz:=e,ver:=cpV rows.length,nl:=false,rows:=rows }
@[go_sem] theorem AhG (ty e:Nat) (rows:List (List VV)):(cpO ty e rows).ver=cpV rows.length:=rfl
@[go_sem] theorem AfM (ty e:Nat) (rows:List (List VV)):(cpO ty e rows).rows=rows:=rfl
@[go_sem] theorem AjM (ty e:Nat) (rows:List (List VV)):(cpO ty e rows).ty=ty:=rfl
@[go_sem] theorem AhF (ty e:Nat) (rows:List (List VV)):(cpO ty e rows).esz=e:=rfl
@[go_sem] theorem AjL (ty e:Nat) (rows:List (List VV)):(cpO ty e rows).nl=false:=rfl
@[go_sem high] theorem AeS (h:VH) (ty e b id:Nat) (ys:List (List VV)) (h0:BS h id 0=some { ty:=ty,esz:=e,ver:=0,nl:=false,rows:=[] }) (h1:D0 e ys=true) (h2:ys.length * b≤A6) (h3:0 < e) :
  Hv h ty e b (.sl id 0 0 0) (.ls ys)=some (.sl id (cpV ys.length) 0 ys.length,h.set id (some (cpO ty e ys))):=by
 have hg:h[id]? = some (some { ty:=ty,esz:=e,ver:=0,nl:=false,rows:=[] }):=by
  unfold BS at h0
  split at h0
  ·rename_i o ho
   cases hb:Nat.beq o.ver 0 with
   | true=>rw [hb] at h0;cases h0;exact ho
   | false=>rw [hb] at h0;cases h0
  ·cases h0
 have hb1:(Nat.ble ((0+ys.length) * b) A6 && Nat.blt 0 e)=true:=by
  rw [Nat.zero_add];simp only [Bool.and_eq_true,Nat.ble_eq,Nat.blt_eq];exact ⟨h2,h3⟩
 unfold Hv
 simp only [LM,JE,h1,cond_true,h0,hb1]
 cases ys with
 | nil =>
  simp only [Option.some.injEq,Prod.mk.injEq]
  refine ⟨rfl,?_⟩
  obtain ⟨hi,he⟩:=List.getElem?_eq_some_iff.1 hg
  have:(some (cpO ty e []):Option VO)=h[id]:=by rw [he];rfl
  rw [this,List.set_getElem_self]
 | cons y ys =>
  simp only [Nat.beq_refl,List.length_nil,Bool.and_self,Bool.or_true,cond_true,List.nil_append,Nat.zero_add]
  rfl
@[go_sem low] theorem AdU (h:VH) (ty esz bytes:Nat) (id ver off n:Nat) (ys:List (List VV)):Hv h ty esz bytes (.sl id ver off n) (.ls ys)=(match LM (.sl id ver off n),JE h esz (.ls ys) with
 | some n0,some ys0 =>
  bif Nat.ble ((n0+ys0.length) * bytes) A6 && Nat.blt 0 esz then
   match ((.sl id ver off n):VV) with
   | .sl id3 ver3 off3 _=>(match BS h id3 ver3 with
    | some o=>(match ys0 with
     | []=>some ((.sl id ver off n),h)
     | y0::yr=>bif Nat.beq off3 0 && Nat.beq n0 o.rows.length && (o.nl || (Nat.beq o.ty ty && Nat.beq o.esz esz)) then
       some (.sl id3 (ver3+1) 0 (n0+ys0.length),h.set id3 (some { ty:=ty,esz:=esz,ver:=ver3+1,nl:=false,rows:=o.rows++ys0 }))
      else none)
    | none=>none)
   | .nl=>(match ys0 with
    | []=>some (.nl,h)
    | y0::yr=>some (.sl h.length 0 0 ys0.length,h++[some { ty:=ty,esz:=esz,ver:=0,nl:=false,rows:=ys0 }]))
   | _=>none
  else none
 | _,_=>none):=rfl
@[go_sem low] theorem AdV (h:VH) (ty esz bytes:Nat) (id ver off n:Nat)  : Hv h ty esz bytes (.sl id ver off n) .nl=(match LM (.sl id ver off n),JE h esz .nl with
 | some n0,some ys0 =>
  bif Nat.ble ((n0+ys0.length) * bytes) A6 && Nat.blt 0 esz then
   match ((.sl id ver off n):VV) with
   | .sl id3 ver3 off3 _=>(match BS h id3 ver3 with
    | some o=>(match ys0 with
     | []=>some ((.sl id ver off n),h)
     | y0::yr=>bif Nat.beq off3 0 && Nat.beq n0 o.rows.length && (o.nl || (Nat.beq o.ty ty && Nat.beq o.esz esz)) then
       some (.sl id3 (ver3+1) 0 (n0+ys0.length),h.set id3 (some { ty:=ty,esz:=esz,ver:=ver3+1,nl:=false,rows:=o.rows++ys0 }))
      else none)
    | none=>none)
   | .nl=>(match ys0 with
    | []=>some (.nl,h)
    | y0::yr=>some (.sl h.length 0 0 ys0.length,h++[some { ty:=ty,esz:=esz,ver:=0,nl:=false,rows:=ys0 }]))
   | _=>none
  else none
 | _,_=>none):=rfl
@[go_sem low] theorem AdW (h:VH) (ty esz bytes:Nat) (id ver off n:Nat) (id2 ver2 off2 n2:Nat):Hv h ty esz bytes (.sl id ver off n) (.sl id2 ver2 off2 n2)=(match LM (.sl id ver off n),JE h esz (.sl id2 ver2 off2 n2) with
 | some n0,some ys0 =>
  bif Nat.ble ((n0+ys0.length) * bytes) A6 && Nat.blt 0 esz then
   match ((.sl id ver off n):VV) with
   | .sl id3 ver3 off3 _=>(match BS h id3 ver3 with
    | some o=>(match ys0 with
     | []=>some ((.sl id ver off n),h)
     | y0::yr=>bif Nat.beq off3 0 && Nat.beq n0 o.rows.length && (o.nl || (Nat.beq o.ty ty && Nat.beq o.esz esz)) then
       some (.sl id3 (ver3+1) 0 (n0+ys0.length),h.set id3 (some { ty:=ty,esz:=esz,ver:=ver3+1,nl:=false,rows:=o.rows++ys0 }))
      else none)
    | none=>none)
   | .nl=>(match ys0 with
    | []=>some (.nl,h)
    | y0::yr=>some (.sl h.length 0 0 ys0.length,h++[some { ty:=ty,esz:=esz,ver:=0,nl:=false,rows:=ys0 }]))
   | _=>none
  else none
 | _,_=>none):=rfl
@[go_sem low] theorem AdR (h:VH) (ty esz bytes:Nat)  (ys:List (List VV)):Hv h ty esz bytes .nl (.ls ys)=(match LM .nl,JE h esz (.ls ys) with
 | some n0,some ys0 =>
  bif Nat.ble ((n0+ys0.length) * bytes) A6 && Nat.blt 0 esz then
   match (.nl:VV) with
   | .sl id3 ver3 off3 _=>(match BS h id3 ver3 with
    | some o=>(match ys0 with
     | []=>some (.nl,h)
     | y0::yr=>bif Nat.beq off3 0 && Nat.beq n0 o.rows.length && (o.nl || (Nat.beq o.ty ty && Nat.beq o.esz esz)) then
       some (.sl id3 (ver3+1) 0 (n0+ys0.length),h.set id3 (some { ty:=ty,esz:=esz,ver:=ver3+1,nl:=false,rows:=o.rows++ys0 }))
      else none)
    | none=>none)
   | .nl=>(match ys0 with
    | []=>some (.nl,h)
    | y0::yr=>some (.sl h.length 0 0 ys0.length,h++[some { ty:=ty,esz:=esz,ver:=0,nl:=false,rows:=ys0 }]))
   | _=>none
  else none
 | _,_=>none):=rfl
@[go_sem low] theorem AdS (h:VH) (ty esz bytes:Nat)   : Hv h ty esz bytes .nl .nl=(match LM .nl,JE h esz .nl with
 | some n0,some ys0 =>
  bif Nat.ble ((n0+ys0.length) * bytes) A6 && Nat.blt 0 esz then
   match (.nl:VV) with
   | .sl id3 ver3 off3 _=>(match BS h id3 ver3 with
    | some o=>(match ys0 with
     | []=>some (.nl,h)
     | y0::yr=>bif Nat.beq off3 0 && Nat.beq n0 o.rows.length && (o.nl || (Nat.beq o.ty ty && Nat.beq o.esz esz)) then
       some (.sl id3 (ver3+1) 0 (n0+ys0.length),h.set id3 (some { ty:=ty,esz:=esz,ver:=ver3+1,nl:=false,rows:=o.rows++ys0 }))
      else none)
    | none=>none)
   | .nl=>(match ys0 with
    | []=>some (.nl,h)
    | y0::yr=>some (.sl h.length 0 0 ys0.length,h++[some { ty:=ty,esz:=esz,ver:=0,nl:=false,rows:=ys0 }]))
   | _=>none
  else none
 | _,_=>none):=rfl
@[go_sem low] theorem AdT (h:VH) (ty esz bytes:Nat)  (id2 ver2 off2 n2:Nat):Hv h ty esz bytes .nl (.sl id2 ver2 off2 n2)=(match LM .nl,JE h esz (.sl id2 ver2 off2 n2) with
 | some n0,some ys0 =>
  bif Nat.ble ((n0+ys0.length) * bytes) A6 && Nat.blt 0 esz then
   match (.nl:VV) with
   | .sl id3 ver3 off3 _=>(match BS h id3 ver3 with
    | some o=>(match ys0 with
     | []=>some (.nl,h)
     | y0::yr=>bif Nat.beq off3 0 && Nat.beq n0 o.rows.length && (o.nl || (Nat.beq o.ty ty && Nat.beq o.esz esz)) then
       some (.sl id3 (ver3+1) 0 (n0+ys0.length),h.set id3 (some { ty:=ty,esz:=esz,ver:=ver3+1,nl:=false,rows:=o.rows++ys0 }))
      else none)
    | none=>none)
   | .nl=>(match ys0 with
    | []=>some (.nl,h)
    | y0::yr=>some (.sl h.length 0 0 ys0.length,h++[some { ty:=ty,esz:=esz,ver:=0,nl:=false,rows:=ys0 }]))
   | _=>none
  else none
 | _,_=>none):=rfl
attribute [go_sem] A8c
end Go.AM
