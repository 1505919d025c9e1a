/-
  Own work, part of the proof of the laws SeenLasts, SeenCalm, SeenConflict: rules by which code is run over the machine of values.
-/
import Derived.Test.YthhlhddnndlhkaaGreatDoorAmC
import Derived.Test.YthhlhddnndlhkaaGreatDoorAmD
import Derived.Attr
set_option maxRecDepth 4000
set_option linter.unusedVariables false
set_option linter.unusedSimpArgs false
set_option linter.unusedSectionVars false
set_option linter.unnecessarySimpa false
namespace Go.AM
open Go
section
variable {A:Dy} {F:Fr} {σ:St}
@[go_sem] theorem Am2 (F:Fr) (k:Nat) (v:AV) (j:Nat):Fr.tmp (Tm.set F k v) j=if j=k then v else Fr.tmp F j:=by
 unfold Fr.tmp
 rw [Tm.get_set]
 by_cases h:j=k<;>simp [h]
def nth (l:List AV) (j:Nat):AV:=match l[j]? with | some v=>v | none=>AV.un
@[go_sem] theorem Ahx (l:List AV) (j:Nat):Fr.tmp (Tm.ofList l) j=nth l j:=by
 unfold Fr.tmp nth
 rw [Tm.get_ofList]
 cases l[j]?<;>rfl
@[go_sem] theorem AlL (j:Nat):nth [] j=AV.un:=by simp [nth]
@[go_sem] theorem Akc (a:AV) (l:List AV):nth (a::l) 0=a:=by simp [nth]
@[go_sem] theorem Akb (a:AV) (l:List AV) (j:Nat):nth (a::l) (j+1)=nth l j:=by simp [nth]
@[go_sem] theorem Aio (F:Fr) (d:Nat) (v:AV):BA F (some d) v=Tm.set F d v:=rfl
@[go_sem] theorem Ain (F:Fr) (v:AV):BA F none v=F:=rfl
@[go_sem] theorem AqD (F:Fr) (n:Nat):Fr.ev F (.t n)=Fr.tmp F n:=rfl
@[go_sem] theorem AqC (F:Fr) (v:AV):Fr.ev F (.c v)=v:=rfl
variable {Q:AV→St→Prop} {R:Fr→St→Prop}
@[go_sem] theorem Ac1 {d:Option Nat} {op:Be} {r:List Av}:Wr A (⟨d,none,op⟩::r) F σ R↔Wo A op F σ (fun v σ'=>Wr A r (BA F d v) σ' R):=A3N
def WG (A:Dy) (v:AV) (w:Bool) (d:Option Nat) (op:Be) (r:List Av) (F:Fr) (σ:St) (R:Fr→St→Prop):Prop:=match v with
 | .b x=>(bif x == w then Wo A op F σ (fun v σ'=>Wr A r (BA F d v) σ' R) else Wr A r (BA F d AV.un) σ R)
 | _=>Wr A r (BA F d AV.un) σ R
@[go_sem] theorem Aj9 {d:Option Nat} {t:Nat} {w:Bool} {op:Be} {r:List Av}:Wr A (⟨d,some (t,w),op⟩::r) F σ R↔WG A (Fr.tmp F t) w d op r F σ R:=by
 rw [A3N]
 simp only [wanted,WG]
 cases Fr.tmp F t<;>rfl
@[go_sem] theorem Apy {d:Option Nat} {op:Be} {r:List Av}:WG A (.b true) true d op r F σ R↔Wo A op F σ (fun v σ'=>Wr A r (BA F d v) σ' R):=Iff.rfl
@[go_sem] theorem Apv {d:Option Nat} {op:Be} {r:List Av}:WG A (.b false) false d op r F σ R↔Wo A op F σ (fun v σ'=>Wr A r (BA F d v) σ' R):=Iff.rfl
@[go_sem] theorem Apx {d:Option Nat} {op:Be} {r:List Av}:WG A (.b true) false d op r F σ R↔Wr A r (BA F d AV.un) σ R:=Iff.rfl
@[go_sem] theorem Apw {d:Option Nat} {op:Be} {r:List Av}:WG A (.b false) true d op r F σ R↔Wr A r (BA F d AV.un) σ R:=Iff.rfl
attribute [go_sem] Afa Afb AbX AbW Af8 Af7 AbV Af9
@[go_sem] theorem Ac2 {i:Nat} {d:Option Nat} {op:Be} {c:List Av} {r:List Ax}:Ws A (⟨i,⟨d,none,op⟩,c⟩::r) F σ R↔Wo A op F σ (fun v σ'=>Ci (BA F d v) σ' c=true∧Ws A r (BA F d v) σ' R):=A3O
def WGs (A:Dy) (v:AV) (w:Bool) (d:Option Nat) (op:Be) (c:List Av) (r:List Ax) (F:Fr) (σ:St) (R:Fr→St→Prop):Prop:=match v with
 | .b x=>(bif x == w then Wo A op F σ (fun v σ'=>Ci (BA F d v) σ' c=true∧Ws A r (BA F d v) σ' R) else Ws A r (BA F d AV.un) σ R)
 | _=>Ws A r (BA F d AV.un) σ R
@[go_sem] theorem Aja {i:Nat} {d:Option Nat} {t:Nat} {w:Bool} {op:Be} {c:List Av} {r:List Ax}:Ws A (⟨i,⟨d,some (t,w),op⟩,c⟩::r) F σ R↔WGs A (Fr.tmp F t) w d op c r F σ R:=by
 rw [A3O]
 simp only [wanted,WGs]
 cases Fr.tmp F t<;>rfl
@[go_sem] theorem AmV {d:Option Nat} {op:Be} {c:List Av} {r:List Ax}:WGs A (.b true) true d op c r F σ R↔Wo A op F σ (fun v σ'=>Ci (BA F d v) σ' c=true∧Ws A r (BA F d v) σ' R):=Iff.rfl
@[go_sem] theorem AmS {d:Option Nat} {op:Be} {c:List Av} {r:List Ax}:WGs A (.b false) false d op c r F σ R↔Wo A op F σ (fun v σ'=>Ci (BA F d v) σ' c=true∧Ws A r (BA F d v) σ' R):=Iff.rfl
@[go_sem] theorem AmU {d:Option Nat} {op:Be} {c:List Av} {r:List Ax}:WGs A (.b true) false d op c r F σ R↔Ws A r (BA F d AV.un) σ R:=Iff.rfl
@[go_sem] theorem AmT {d:Option Nat} {op:Be} {c:List Av} {r:List Ax}:WGs A (.b false) true d op c r F σ R↔Ws A r (BA F d AV.un) σ R:=Iff.rfl
@[go_sem] theorem Apz {w:Bool} {d:Option Nat} {op:Be} {r:List Av}:WG A AV.un w d op r F σ R↔Wr A r (BA F d AV.un) σ R:=Iff.rfl
@[go_sem] theorem AmW {w:Bool} {d:Option Nat} {op:Be} {c:List Av} {r:List Ax}:WGs A AV.un w d op c r F σ R↔Ws A r (BA F d AV.un) σ R:=Iff.rfl
def WC (A:Dy) (v:AV) (a b:A1) (F:Fr) (σ:St) (Q:Ex→Fr→St→Prop):Prop:=match v with
 | .b true=>Wc A a F σ Q
 | .b false=>Wc A b F σ Q
 | _=>False
@[go_sem] theorem AhV {x:Ak} {a b:A1} {Q:Ex→Fr→St→Prop}:Wc A (.cond x a b) F σ Q↔WC A (Fr.ev F x) a b F σ Q:=by
 cases h:Fr.ev F x with
 | b t=>rw [AbU h];cases t<;>rfl
 | _ =>
  constructor
  ·rintro ⟨n,e,F',σ',h2,_⟩
   cases n with
   | zero=>simp [AY] at h2
   | succ n=>simp [AY,h] at h2
  ·intro h2;exact h2.elim
@[go_sem] theorem Aql {a b:A1} {Q:Ex→Fr→St→Prop}:WC A (.b true) a b F σ Q↔Wc A a F σ Q:=Iff.rfl
@[go_sem] theorem Aqk {a b:A1} {Q:Ex→Fr→St→Prop}:WC A (.b false) a b F σ Q↔Wc A b F σ Q:=Iff.rfl
def WP (v x y:AV) (σ:St) (Q:AV→St→Prop):Prop:=match v with
 | .b t=>Q (bif t then x else y) σ
 | _=>False
@[go_sem] theorem Aqn {x y:AV}:WP (.b true) x y σ Q↔Q x σ:=Iff.rfl
@[go_sem] theorem Aqm {x y:AV}:WP (.b false) x y σ Q↔Q y σ:=Iff.rfl
@[go_sem] theorem An9 {x:Ak}:Wo A (.mov x) F σ Q↔Q (Fr.ev F x) σ:=by
 rw [D2 (by intros;simp)]
 simp only [Aj,Option.some.injEq,Prod.mk.injEq,exists_and_left,exists_eq_left',and_assoc]
@[go_sem] theorem Al8 {c x y:Ak}:Wo A (.pick c x y) F σ Q↔WP (Fr.ev F c) (Fr.ev F x) (Fr.ev F y) σ Q:=by
 rw [D2 (by intros;simp)]
 simp only [Aj]
 cases Fr.ev F c with
 | b t=>simp only [Option.some.injEq,Prod.mk.injEq,exists_and_left,exists_eq_left',and_assoc,WP]
 | _=>simp [WP]
@[go_sem] theorem An0 {ty n:Nat} {x:Ak}:Wo A (.box ty n x) F σ Q↔((Fr.ev F x).cells.length=n∧(Fr.ev F x).cells.all AV.cell=true)∧Q (.p (some (σ.next,0))) (σ.new { ty:=ty,rw:=true,esz:=0,len:=n,cs:=Tm.ofList (Fr.ev F x).cells }):=by
 rw [D2 (by intros;simp)]
 simp only [Aj]
 cases hc:(Nat.beq (Fr.ev F x).cells.length n && (Fr.ev F x).cells.all AV.cell) with
 | false =>
  simp only [cond_false,reduceCtorEq,false_and,exists_false,false_iff]
  rintro ⟨⟨h1,h2⟩,_⟩
  rw [h1,h2] at hc
  simp at hc
 | true =>
  simp only [Bool.and_eq_true] at hc
  simp only [cond_true,Option.some.injEq,Prod.mk.injEq,exists_and_left,exists_eq_left',and_assoc,Nat.eq_of_beq_eq_true hc.1,hc.2,true_and]
@[go_sem] theorem Aj6 {z:List AV} {ps:List (Nat×Nat×Ak)}:Wo A (.build z ps) F σ Q↔∃ cs,Br F z ps=some cs∧Q (.ag cs) σ:=by
 rw [D2 (by intros;simp)]
 simp only [Aj]
 cases Br F z ps with
 | none=>simp
 | some v=>simp only [Option.some.injEq,Prod.mk.injEq,exists_and_left,exists_eq_left',and_assoc]
@[go_sem] theorem An1 {ty esz len:Nat} {z:List AV} {ps:List (Nat×Nat×Ak)}:Wo A (.bsl ty esz len z ps) F σ Q↔∃ cs,Br F z ps=some cs∧Q (.sl (some (σ.next,0)) len) (σ.new { ty:=ty,rw:=true,esz:=esz,len:=len * esz,cs:=Tm.ofList cs }):=by
 rw [D2 (by intros;simp)]
 simp only [Aj]
 cases Br F z ps with
 | none=>simp
 | some v=>simp only [Option.some.injEq,Prod.mk.injEq,exists_and_left,exists_eq_left',and_assoc]
theorem V4 {n:Option Nat} {a:Ak} {r:AV×St}:Aj (.ld n a) F σ=some r↔∃ id off,Fr.ev F a = .p (some (id,off))∧σ.loadV n id off=some r.1∧σ=r.2:=by
 simp only [Aj]
 constructor
 ·intro h
  split at h
  ·rename_i id off ha
   split at h
   ·rename_i v hv
    cases h
    exact ⟨id,off,ha,hv,rfl⟩
   ·cases h
  ·cases h
 ·rintro ⟨id,off,ha,hv,rfl⟩
  simp only [ha,hv]
@[go_sem] theorem ApD {n:Option Nat} {a:Ak}:Wo A (.ld n a) F σ Q↔∃ id off,Fr.ev F a = .p (some (id,off))∧∃ v,σ.loadV n id off=some v∧Q v σ:=by
 rw [D2 (by intros;simp)]
 simp only [V4]
 constructor
 ·rintro ⟨v,σ',⟨id,off,h1,h2,h3⟩,hq⟩
  subst h3
  exact ⟨id,off,h1,v,h2,hq⟩
 ·rintro ⟨id,off,h1,v,h2,hq⟩
  exact ⟨v,σ,⟨id,off,h1,h2,rfl⟩,hq⟩
@[go_sem] theorem ApE {n:Nat} {a x:Ak}:Wo A (.st n a x) F σ Q↔∃ id off,Fr.ev F a = .p (some (id,off))∧(Fr.ev F x).cells.length=n∧∃ σ',σ.storeN id off (Fr.ev F x).cells=some σ'∧Q AV.un σ':=by
 rw [D2 (by intros;simp)]
 simp only [Aj]
 constructor
 ·rintro ⟨v,σ',h,hq⟩
  split at h
  ·rename_i id off ha
   cases hc:Nat.beq (Fr.ev F x).cells.length n with
   | false=>rw [hc] at h;cases h
   | true =>
    rw [hc] at h
    simp only [cond_true] at h
    split at h
    ·rename_i σ1 hs
     cases h
     exact ⟨id,off,ha,Nat.eq_of_beq_eq_true hc,_,hs,hq⟩
    ·cases h
  ·cases h
 ·rintro ⟨id,off,ha,hc,σ',hs,hq⟩
  refine ⟨AV.un,σ',?_,hq⟩
  have:Nat.beq (Fr.ev F x).cells.length n=true:=by rw [hc];exact Nat.beq_refl n
  simp only [ha,this,cond_true,hs]
def A5J:AV→Option AV
 | .p (some a)=>some (.p (some a))
 | .f g a c=>some (.f g a c)
 | _=>none
@[go_sem] theorem AlI (a:Nat×Nat):A5J (.p (some a))=some (.p (some a)):=rfl
@[go_sem] theorem AlH (g:Nat) (a c:List AV):A5J (.f g a c)=some (.f g a c):=rfl
@[go_sem] theorem Al7 {x:Ak}:Wo A (.nilc x) F σ Q↔∃ v,A5J (Fr.ev F x)=some v∧Q v σ:=by
 rw [D2 (by intros;simp)]
 simp only [Aj]
 constructor
 ·rintro ⟨v,σ',h,hq⟩
  split at h<;>cases h<;>(rename_i e;rw [e];exact ⟨_,rfl,hq⟩)
 ·rintro ⟨v,h,hq⟩
  unfold A5J at h
  split at h<;>cases h<;>(rename_i e;rw [e];exact ⟨_,_,rfl,hq⟩)
@[go_sem] theorem AmZ {op:BinOp} {e:Option Qo} {x y:Ak}:Wo A (.bin op e x y) F σ Q↔∃ v,B9 op e (Fr.ev F x) (Fr.ev F y)=some v∧Q v σ:=by
 rw [D2 (by intros;simp)]
 simp only [Aj]
 cases B9 op e (Fr.ev F x) (Fr.ev F y) with
 | none=>simp
 | some v=>simp only [Option.some.injEq,Prod.mk.injEq,exists_and_left,exists_eq_left',and_assoc]
@[go_sem] theorem Anb {x:Ak}:Wo A (.not x) F σ Q↔∃ t,Fr.ev F x = .b t∧Q (.b (!t)) σ:=by
 rw [D2 (by intros;simp)]
 simp only [Aj]
 constructor
 ·rintro ⟨v,σ',h,hq⟩
  split at h
  ·rename_i t ht;cases h;exact ⟨t,ht,hq⟩
  ·cases h
 ·rintro ⟨t,h,hq⟩
  exact ⟨_,_,by rw [h],hq⟩
@[go_sem] theorem Ana {x:Ak}:Wo A (.neg x) F σ Q↔∃ k n,Fr.ev F x = .i k n∧Q (.i k (k.wrap (0 - n))) σ:=by
 rw [D2 (by intros;simp)]
 simp only [Aj]
 constructor
 ·rintro ⟨v,σ',h,hq⟩
  split at h
  ·rename_i k n ht;cases h;exact ⟨k,n,ht,hq⟩
  ·cases h
 ·rintro ⟨k,n,h,hq⟩
  exact ⟨_,_,by rw [h],hq⟩
@[go_sem] theorem Al5 {k:IntKind} {x:Ak}:Wo A (.conv k x) F σ Q↔∃ k' n,Fr.ev F x = .i k' n∧Q (.i k (k.wrap n)) σ:=by
 rw [D2 (by intros;simp)]
 simp only [Aj]
 constructor
 ·rintro ⟨v,σ',h,hq⟩
  split at h
  ·rename_i k n ht;cases h;exact ⟨k,n,ht,hq⟩
  ·cases h
 ·rintro ⟨k,n,h,hq⟩
  exact ⟨_,_,by rw [h],hq⟩
@[go_sem] theorem An6 {g:Nat} {a c:List Ak}:Wo A (.mkf g a c) F σ Q↔Q (.f g (a.map (Fr.ev F)) (c.map (Fr.ev F))) σ:=by
 rw [D2 (by intros;simp)]
 simp only [Aj,Option.some.injEq,Prod.mk.injEq,exists_and_left,exists_eq_left',and_assoc]
@[go_sem] theorem An7 {ty esz bytes:Nat} {z:List AV} {l c:Ak}:Wo A (.mks ty esz bytes z l c) F σ Q↔∃ n,Fr.ev F l = .i .i64 n∧∃ m,Fr.ev F c = .i .i64 m∧(0≤n∧n≤m∧m.toNat * bytes≤A7)∧Q (.sl (some (σ.next,0)) n.toNat) (σ.new { ty:=ty,rw:=true,esz:=esz,len:=n.toNat * esz,cs:=Tm.ofList ((List.replicate n.toNat z).flatten) }):=by
 rw [D2 (by intros;simp)]
 simp only [Aj]
 constructor
 ·rintro ⟨v,σ',h,hq⟩
  split at h
  ·rename_i n m h1 h2
   split at h
   ·rename_i h3
    cases h
    exact ⟨n,h1,m,h2,h3,hq⟩
   ·cases h
  ·cases h
 ·rintro ⟨n,h1,m,h2,h3,hq⟩
  exact ⟨_,_,by simp only [h1,h2,if_pos h3],hq⟩
@[go_sem] theorem Anc {esz:Nat} {x:Ak} {lo hi:Option Ak}:Wo A (.slc esz x lo hi) F σ Q↔∃ v,DX esz (Fr.ev F x) (lo.map (Fr.ev F)) (hi.map (Fr.ev F))=some v∧Q v σ:=by
 rw [D2 (by intros;simp)]
 simp only [Aj]
 cases DX esz (Fr.ev F x) (lo.map (Fr.ev F)) (hi.map (Fr.ev F)) with
 | none=>simp
 | some v=>simp only [Option.some.injEq,Prod.mk.injEq,exists_and_left,exists_eq_left',and_assoc]
@[go_sem] theorem ApA {off:Nat} {x:Ak}:Wo A (.fa off x) F σ Q↔∃ id o,Fr.ev F x = .p (some (id,o))∧Q (.p (some (id,o+off))) σ:=by
 rw [D2 (by intros;simp)]
 simp only [Aj]
 constructor
 ·rintro ⟨v,σ',h,hq⟩
  split at h
  ·rename_i id o h1;cases h;exact ⟨id,o,h1,hq⟩
  ·cases h
 ·rintro ⟨id,o,h1,hq⟩
  exact ⟨_,_,by rw [h1],hq⟩
def A6S (esz:Nat) (x i:AV):Option AV:=match x,i with
  | .sl (some (id,o)) len,.i _ n=>if 0≤n∧n < len then some (.p (some (id,o+n.toNat * esz))) else none
  | _,_=>none
@[go_sem] theorem ApB {esz:Nat} {x i:Ak}:Wo A (.ia esz x i) F σ Q↔∃ v,A6S esz (Fr.ev F x) (Fr.ev F i)=some v∧Q v σ:=by
 rw [D2 (by intros;simp)]
 have e:Aj (.ia esz x i) F σ=(match A6S esz (Fr.ev F x) (Fr.ev F i) with | some v=>some (v,σ) | none=>none):=by
  simp only [Aj,A6S]
  generalize Fr.ev F x=vx
  generalize Fr.ev F i=vi
  cases vx<;>try rfl
  rename_i o len
  cases o<;>try rfl
  cases vi<;>try rfl
  simp only
  split<;>rfl
 rw [e]
 cases A6S esz (Fr.ev F x) (Fr.ev F i) with
 | none=>simp
 | some v=>simp only [Option.some.injEq,Prod.mk.injEq,exists_and_left,exists_eq_left',and_assoc]
@[go_sem] theorem An4 {len esz:Nat} {x i:Ak}:Wo A (.iaa len esz x i) F σ Q↔∃ id o,Fr.ev F x = .p (some (id,o))∧∃ k n,Fr.ev F i = .i k n∧(0≤n∧n < len)∧Q (.p (some (id,o+n.toNat * esz))) σ:=by
 rw [D2 (by intros;simp)]
 simp only [Aj]
 constructor
 ·rintro ⟨v,σ',h,hq⟩
  split at h
  ·rename_i id o k n h1 h2
   split at h
   ·rename_i h3
    cases h
    exact ⟨id,o,h1,k,n,h2,h3,hq⟩
   ·cases h
  ·cases h
 ·rintro ⟨id,o,h1,k,n,h2,h3,hq⟩
  exact ⟨_,_,by simp only [h1,h2,if_pos h3],hq⟩
@[go_sem] theorem ApC {x i:Ak}:Wo A (.ix x i) F σ Q↔∃ s,Fr.ev F x = .s s∧∃ k n,Fr.ev F i = .i k n∧0≤n∧∃ b,s.data.toList[n.toNat]? = some b∧Q (.i .u8 b.toNat) σ:=by
 rw [D2 (by intros;simp)]
 simp only [Aj]
 constructor
 ·rintro ⟨v,σ',h,hq⟩
  split at h
  ·rename_i s k n h1 h2
   split at h
   ·rename_i h3
    split at h
    ·rename_i b hb
     cases h
     exact ⟨s,h1,k,n,h2,h3,b,hb,hq⟩
    ·cases h
   ·cases h
  ·cases h
 ·rintro ⟨s,h1,k,n,h2,h3,b,hb,hq⟩
  exact ⟨_,_,by simp only [h1,h2,if_pos h3,hb],hq⟩
@[go_sem] theorem An3 {x:Ak} {i:Nat}:Wo A (.ext x i) F σ Q↔∃ vs,Fr.ev F x = .tu vs∧∃ v,vs[i]? = some v∧Q v σ:=by
 rw [D2 (by intros;simp)]
 simp only [Aj]
 constructor
 ·rintro ⟨v,σ',h,hq⟩
  split at h
  ·rename_i vs h1
   split at h
   ·rename_i w hw;cases h;exact ⟨vs,h1,_,hw,hq⟩
   ·cases h
  ·cases h
 ·rintro ⟨vs,h1,v,h2,hq⟩
  exact ⟨_,_,by simp only [h1,h2],hq⟩
@[go_sem] theorem An5 {x:Ak}:Wo A (.len false x) F σ Q↔∃ o n,Fr.ev F x = .sl o n∧Q (.i .i64 n) σ:=by
 rw [D2 (by intros;simp)]
 simp only [Aj]
 generalize Fr.ev F x=vx
 cases vx<;>simp
 constructor
 ·rintro ⟨v,σ',⟨rfl,rfl⟩,h⟩;exact ⟨_,_,⟨rfl,rfl⟩,h⟩
 ·rintro ⟨o,n,⟨rfl,rfl⟩,h⟩;exact ⟨_,_,⟨rfl,rfl⟩,h⟩
@[go_sem] theorem Al6 {x:Ak}:Wo A (.len true x) F σ Q↔∃ s,Fr.ev F x = .s s∧Q (.i .i64 s.size) σ:=by
 rw [D2 (by intros;simp)]
 simp only [Aj]
 generalize Fr.ev F x=vx
 cases vx<;>simp
 constructor
 ·rintro ⟨v,σ',⟨rfl,rfl⟩,h⟩;exact h
 ·intro h;exact ⟨_,_,⟨rfl,rfl⟩,h⟩
@[go_sem] theorem AmY {ty esz bytes:Nat} {x y:Ak}:Wo A (.app ty esz bytes x y) F σ Q↔∃ o n,Fr.ev F x = .sl o n∧∃ o' m,Fr.ev F y = .sl o' m∧∃ v σ',Qq ty esz bytes o n o' m σ=some (v,σ')∧Q v σ':=by
 rw [D2 (by intros;simp)]
 simp only [Aj]
 constructor
 ·rintro ⟨v,σ',h,hq⟩
  split at h
  ·rename_i o n o' m h1 h2;exact ⟨o,n,h1,o',m,h2,v,σ',h,hq⟩
  ·cases h
 ·rintro ⟨o,n,h1,o',m,h2,v,σ',h,hq⟩
  exact ⟨v,σ',by simp only [h1,h2];exact h,hq⟩
@[go_sem] theorem An2 {esz:Nat} {x y:Ak}:Wo A (.cpy esz x y) F σ Q↔∃ o n,Fr.ev F x = .sl o n∧∃ o' m,Fr.ev F y = .sl o' m∧∃ v σ',A6v esz o n o' m σ=some (v,σ')∧Q v σ':=by
 rw [D2 (by intros;simp)]
 simp only [Aj]
 constructor
 ·rintro ⟨v,σ',h,hq⟩
  split at h
  ·rename_i o n o' m h1 h2;exact ⟨o,n,h1,o',m,h2,v,σ',h,hq⟩
  ·cases h
 ·rintro ⟨o,n,h1,o',m,h2,v,σ',h,hq⟩
  exact ⟨v,σ',by simp only [h1,h2];exact h,hq⟩
@[go_sem] theorem An8 {mx:Bool} {x y:Ak}:Wo A (.mnx mx x y) F σ Q↔∃ k a,Fr.ev F x = .i k a∧∃ c,Fr.ev F y = .i k c∧Q (.i k (Wp mx a c)) σ:=by
 rw [D2 (by intros;simp)]
 simp only [Aj]
 constructor
 ·rintro ⟨v,σ',h,hq⟩
  split at h
  ·rename_i k a k' c h1 h2
   split at h
   ·rename_i h3
    cases h
    subst h3
    exact ⟨k,a,h1,c,h2,hq⟩
   ·cases h
  ·cases h
 ·rintro ⟨k,a,h1,c,h2,hq⟩
  exact ⟨_,_,by simp only [h1,h2,if_true],hq⟩
@[go_sem] theorem Aj7 {g:Nat} {a c:List AV} {args:List Ak}:Wo A (.call (.c (.f g a c)) args) F σ Q↔Wk A g (a++args.map (Fr.ev F)++c) σ Q:=A3M rfl
@[go_sem] theorem Aj8 {t:Nat} {args:List Ak}:Wo A (.call (.t t) args) F σ Q↔∃ g a c,Fr.tmp F t = .f g a c∧Wk A g (a++args.map (Fr.ev F)++c) σ Q:=by
 constructor
 ·rintro ⟨n,v,σ',h,hq⟩
  simp only [AR] at h
  split at h
  ·rename_i g a c h1;exact ⟨g,a,c,h1,n,v,σ',h,hq⟩
  ·cases h
 ·rintro ⟨g,a,c,h1,h2⟩
  exact (A3M (f:=.t t) h1).2 h2
@[go_sem] theorem AeQ:Ci F σ []=true:=rfl
mutual
theorem YY:∀ v:AV,AV.eqb v v=true
 | .b x=>by simp [AV.eqb]
 | .i k n=>by simp [AV.eqb]
 | .s x=>by simp [AV.eqb]
 | .p o=>by simp [AV.eqb]
 | .sl o n=>by simp [AV.eqb]
 | .f g a c=>by simp [AV.eqb,Jb a,Jb c]
 | .nf=>rfl
 | .ag cs=>by simp [AV.eqb,Jb cs]
 | .tu cs=>by simp [AV.eqb,Jb cs]
theorem Jb:∀ l:List AV,AV.eqbL l l=true
 | []=>rfl
 | x::xs=>by simp [AV.eqbL,YY x,Jb xs]
end
theorem A3f {d:Nat} {n:Option Nat} {a:Ak} {r:List Av}:Ci F σ (⟨some d,none,.ld n a⟩::r)=true↔(∃ id off,Fr.ev F a = .p (some (id,off))∧σ.loadV n id off=some (Fr.tmp F d))∧Ci F σ r=true:=by
 simp only [Ci,wanted,cond_true,Bool.and_eq_true]
 refine and_congr ?_ Iff.rfl
 constructor
 ·intro h
  split at h
  ·rename_i v σ' he
   obtain ⟨id,off,h1,h2,_⟩:=V4.1 he
   have:=A16 _ _ h
   subst this
   exact ⟨id,off,h1,h2⟩
  ·cases h
 ·rintro ⟨id,off,h1,h2⟩
  have he:Aj (.ld n a) F σ=some (Fr.tmp F d,σ):=V4.2 ⟨id,off,h1,h2,rfl⟩
  rw [he]
  exact YY _
attribute [go_sem] A3f
@[go_sem] theorem Ald (x:Bool):(AV.b x).cells=[.b x]:=rfl
@[go_sem] theorem Alf (k:IntKind) (x:Int):(AV.i k x).cells=[.i k x]:=rfl
@[go_sem] theorem Alh (x:ByteArray):(AV.s x).cells=[.s x]:=rfl
@[go_sem] theorem Alg (x:Option (Nat×Nat)):(AV.p x).cells=[.p x]:=rfl
@[go_sem] theorem Ajp (x:Option (Nat×Nat)) (n:Nat):(AV.sl x n).cells=[.sl x n]:=rfl
@[go_sem] theorem Ale (g:Nat) (a c:List AV):(AV.f g a c).cells=[.f g a c]:=rfl
@[go_sem] theorem Ajo:AV.nf.cells=[.nf]:=rfl
@[go_sem] theorem Ajn (l:List AV):(AV.ag l).cells=l:=rfl
@[go_sem] theorem Ank (x:Bool):(AV.b x).cell=true:=rfl
@[go_sem] theorem Anm (k:IntKind) (x:Int):(AV.i k x).cell=true:=rfl
@[go_sem] theorem Ano (x:ByteArray):(AV.s x).cell=true:=rfl
@[go_sem] theorem Ann (x:Option (Nat×Nat)):(AV.p x).cell=true:=rfl
@[go_sem] theorem Alc (x:Option (Nat×Nat)) (n:Nat):(AV.sl x n).cell=true:=rfl
@[go_sem] theorem Anl (g:Nat) (a c:List AV):(AV.f g a c).cell=true:=rfl
@[go_sem] theorem Alb:AV.nf.cell=true:=rfl
@[go_sem] theorem AeL (cells:List AV):Br F cells []=some cells:=rfl
@[go_sem] theorem Acu {cells:List AV} {off sz:Nat} {x:Ak} {r:List (Nat×Nat×Ak)} (h1:(Fr.ev F x).cells.length=sz) (h2:(Fr.ev F x).cells.all AV.cell=true) (h3:off+sz≤cells.length):Br F cells ((off,sz,x)::r)=Br F (M3 cells off (Fr.ev F x).cells) r:=by
 have h3':Nat.ble (off+sz) cells.length=true:=by rw [Nat.ble_eq];exact h3
 have h1':Nat.beq (Fr.ev F x).cells.length sz=true:=by rw [h1];exact Nat.beq_refl sz
 simp only [Br,h1',h2,h3',Bool.and_self,cond_true]
theorem A6H (cells:List AV) (off:Nat) (xs:List AV):M3 cells off xs=cells.take off++xs++cells.drop (off+xs.length):=rfl
attribute [go_sem] A6H List.length_cons List.length_nil List.all_cons List.all_nil Bool.and_self Bool.and_true Bool.true_and List.take_succ_cons List.take_zero List.drop_succ_cons List.drop_zero List.take_nil List.drop_nil Nat.zero_add Nat.add_zero Nat.mul_one Nat.le_refl
@[go_sem] theorem Ae3:C5 F σ []=some []:=rfl
@[go_sem] theorem Ahn {a:Nat}:C5 F σ [.t a]=some [Fr.tmp F a]:=rfl
@[go_sem] theorem Aho {a b:Nat}:C5 F σ [.t a,.t b]=some [Fr.tmp F a,Fr.tmp F b]:=rfl
@[go_sem] theorem Ahp {a b c:Nat}:C5 F σ [.t a,.t b,.t c]=some [Fr.tmp F a,Fr.tmp F b,Fr.tmp F c]:=rfl
@[go_sem] theorem AoI:XN [] = .tu []:=rfl
@[go_sem] theorem AoJ (v:AV):XN [v]=v:=rfl
@[go_sem] theorem AoK (v w:AV) (l:List AV):XN (v::w::l) = .tu (v::w::l):=rfl
attribute [go_sem] decide_true decide_false Bool.not_true Bool.not_false cond_true cond_false not_true_eq_false not_false_eq_true if_true if_false false_and and_false exists_false imp_false
attribute [go_sem] AV.b.injEq AV.i.injEq AV.s.injEq AV.p.injEq AV.sl.injEq AV.f.injEq AV.ag.injEq AV.tu.injEq Option.some.injEq Prod.mk.injEq true_and and_true and_self exists_eq_left' exists_eq' exists_and_left and_assoc
 List.map_cons List.map_nil List.append_nil List.nil_append List.cons_append Option.map_some Option.map_none decide_eq_true_eq decide_eq_false_iff_not forall_const Bool.not_eq_true Bool.not_eq_false reduceCtorEq false_implies implies_true
end
theorem AC {x:Int} (h1 : -9223372036854775808≤x) (h2:x < 9223372036854775808):IntKind.i64.wrap x=x:=by
 simp only [IntKind.wrap,IntKind.signed,IntKind.bits]
 simp
 omega
theorem Ju (x:Int):IntKind.u64.wrap x=x % 18446744073709551616:=by
 simp [IntKind.wrap,IntKind.signed,IntKind.bits]
section
variable {e:Option Qo} {k:IntKind} {a c:Int}
@[go_sem] theorem Ajj:B9 .add e (.i k a) (.i k c)=some (.i k (k.wrap (a+c))):=by simp [B9,Gb]
@[go_sem] theorem Ajl:B9 .sub e (.i k a) (.i k c)=some (.i k (k.wrap (a - c))):=by simp [B9,Gb]
@[go_sem] theorem Ajk:B9 .mul e (.i k a) (.i k c)=some (.i k (k.wrap (a * c))):=by simp [B9,Gb]
theorem A88 (h:c≠0):B9 .rem e (.i k a) (.i k c)=some (.i k (a.tmod c)):=by simp [B9,Gb,h]
@[go_sem] theorem YH:B9 .eql e (.i k a) (.i k c)=some (.b (decide (a=c))):=by
 simp [B9,Gb]
 by_cases h:a=c<;>simp [h]
@[go_sem] theorem YI:B9 .neq e (.i k a) (.i k c)=some (.b (!decide (a=c))):=by
 simp [B9,Gb,bne]
 by_cases h:a=c<;>simp [h]
@[go_sem] theorem A87:B9 .lss e (.i k a) (.i k c)=some (.b (decide (a < c))):=by simp [B9,Gb]
@[go_sem] theorem A86:B9 .leq e (.i k a) (.i k c)=some (.b (decide (a≤c))):=by simp [B9,Gb]
@[go_sem] theorem A85:B9 .gtr e (.i k a) (.i k c)=some (.b (decide (c < a))):=by simp [B9,Gb]
@[go_sem] theorem A84:B9 .geq e (.i k a) (.i k c)=some (.b (decide (c≤a))):=by simp [B9,Gb]
end
@[go_sem] theorem Ai4 (x y:Bool):B9 .eql (some .b) (.b x) (.b y)=some (.b (x == y)):=rfl
@[go_sem] theorem Ai5 (x y:Bool):B9 .neq (some .b) (.b x) (.b y)=some (.b (!(x == y))):=rfl
theorem YO {a b:ByteArray}:a.toList=b.toList↔a=b:=by
 have key:∀ a:ByteArray,a.toList=a.data.toList:=fun a=>by
  simp [ByteArray.toList_eq]
 constructor
 ·intro h
  rw [key,key] at h
  cases a;cases b
  simp at h
  rw [h]
 ·rintro rfl;rfl
@[go_sem] theorem A6q {e:Option Qo} (x y:ByteArray):B9 .eql e (.s x) (.s y)=some (.b (decide (x=y))):=by
 simp only [B9,A83,Option.some.injEq,AV.b.injEq]
 by_cases h:x=y
 ·simp [h]
 ·have:x.toList≠y.toList:=fun h2=>h (YO.1 h2)
  simp [h,this]
@[go_sem] theorem A6r {e:Option Qo} (x y:ByteArray):B9 .neq e (.s x) (.s y)=some (.b (!decide (x=y))):=by
 simp only [B9,A83,Option.some.injEq,AV.b.injEq]
 by_cases h:x=y
 ·simp [h]
 ·have:x.toList≠y.toList:=fun h2=>h (YO.1 h2)
  simp [h,this]
def Wd (w:BitVec 64):AV:=.i .u64 (w.toNat:Int)
theorem HD (w:BitVec 64):BitVec.ofInt 64 (w.toNat:Int)=w:=by
 apply BitVec.eq_of_toNat_eq
 rw [BitVec.ofInt_natCast,BitVec.toNat_ofNat]
 exact Nat.mod_eq_of_lt w.isLt
theorem A3E (w:BitVec 64):IntKind.u64.wrap (w.toNat:Int)=(w.toNat:Int):=by
 rw [Ju]
 have:=w.isLt
 omega
section
variable {e:Option Qo} {a b:BitVec 64}
@[go_sem] theorem Aqo:AV.i .u64 0=Wd 0#64:=rfl
@[go_sem] theorem Aqp:AV.i .u64 1=Wd 1#64:=rfl
@[go_sem] theorem YJ:B9 .and e (Wd a) (Wd b)=some (Wd (a &&& b)):=by
 simp only [Wd,B9,Gb,if_true,IntKind.bits,HD,A3E]
 rfl
@[go_sem] theorem Ac7:B9 .or e (Wd a) (Wd b)=some (Wd (a ||| b)):=by
 simp only [Wd,B9,Gb,if_true,IntKind.bits,HD,A3E]
 rfl
@[go_sem] theorem YK:B9 .andNot e (Wd a) (Wd b)=some (Wd (a &&& ~~~b)):=by
 simp only [Wd,B9,Gb,if_true,IntKind.bits,HD,A3E]
 rfl
@[go_sem] theorem A8e:B9 .sub e (Wd a) (Wd b)=some (Wd (a - b)):=by
 simp only [Wd,B9,Gb,if_true,Ju,Option.some.injEq,AV.i.injEq,true_and]
 rw [BitVec.toNat_sub]
 have:=a.isLt;have:=b.isLt
 omega
@[go_sem] theorem A89:B9 .add e (Wd a) (Wd b)=some (Wd (a+b)):=by
 simp only [Wd,B9,Gb,if_true,Ju,Option.some.injEq,AV.i.injEq,true_and]
 rw [BitVec.toNat_add]
 have:=a.isLt;have:=b.isLt
 omega
@[go_sem] theorem A8a:B9 .eql e (Wd a) (Wd b)=some (.b (decide (a=b))):=by
 simp only [Wd,YH,Int.natCast_inj,BitVec.toNat_inj]
@[go_sem] theorem A8b:B9 .neq e (Wd a) (Wd b)=some (.b (!decide (a=b))):=by
 simp only [Wd,YI,Int.natCast_inj,BitVec.toNat_inj]
theorem A8c {n:Nat} (h:n < 64):B9 .shl e (Wd a) (.i .i64 n)=some (Wd (a <<< n)):=by
 have h0:¬ ((n:Int) < 0):=by omega
 simp only [Wd,B9,GN,if_neg h0,IntKind.bits,Ju,Option.some.injEq,AV.i.injEq,true_and,Int.toNat_natCast]
 rw [Nat.min_eq_left (by omega),BitVec.toNat_shiftLeft,Nat.shiftLeft_eq]
 rw [show ((2:Int) ^ n)=((2 ^ n:Nat):Int) by simp,← Int.natCast_mul]
 rfl
theorem A8d {n:Nat} (h:n < 64):B9 .shr e (Wd a) (.i .i64 n)=some (Wd (a >>> n)):=by
 have h0:¬ ((n:Int) < 0):=by omega
 simp only [Wd,B9,GN,if_neg h0,IntKind.bits,Option.some.injEq,AV.i.injEq,true_and,Int.toNat_natCast]
 rw [Nat.min_eq_left (by omega),BitVec.toNat_ushiftRight,Nat.shiftRight_eq_div_pow]
 rw [show ((2:Int) ^ n)=((2 ^ n:Nat):Int) by simp,Int.fdiv_eq_ediv_of_nonneg _ (Int.natCast_nonneg _)]
 rfl
end
@[go_sem] theorem AV.cell_Wd (w:BitVec 64):(Wd w).cell=true:=rfl
@[go_sem] theorem AV.cells_Wd (w:BitVec 64):(Wd w).cells=[Wd w]:=rfl
section
variable {A:Dy}
end
end Go.AM
namespace Go.AM
open Go
class Rdr (α:Type) where
 size:Nat
 rd:St→List AV→Option α
 len:∀ {σ:St} {cs:List AV} {x:α},rd σ cs=some x→cs.length=size
 ext:∀ {σ σ':St} {cs:List AV} {x:α},Dx σ σ'→rd σ cs=some x→rd σ' cs=some x
 cell:∀ {σ:St} {cs:List AV} {x:α},rd σ cs=some x→cs.all AV.cell=true
def A5R (cs:List AV):Option Int:=match cs with
 | [.i .i64 n]=>some n
 | _=>none
theorem Si {cs:List AV} {n:Int}:A5R cs=some n↔cs=[.i .i64 n]:=by
 constructor
 ·intro h
  unfold A5R at h
  split at h
  ·cases h;rfl
  ·cases h
 ·rintro rfl;rfl
instance : Rdr Int where
 size:=1
 rd _ cs:=A5R cs
 len h:=by rw [Si.1 h];rfl
 ext _ h:=h
 cell h:=by rw [Si.1 h];rfl
def XO (cs:List AV):Option Bool:=match cs with
 | [.b n]=>some n
 | _=>none
theorem PH {cs:List AV} {n:Bool}:XO cs=some n↔cs=[.b n]:=by
 constructor
 ·intro h
  unfold XO at h
  split at h
  ·cases h;rfl
  ·cases h
 ·rintro rfl;rfl
instance : Rdr Bool where
 size:=1
 rd _ cs:=XO cs
 len h:=by rw [PH.1 h];rfl
 ext _ h:=h
 cell h:=by rw [PH.1 h];rfl
def Sk (cs:List AV):Option (BitVec 64):=match cs with
 | [.i .u64 n]=>if 0≤n∧n < 18446744073709551616 then some (BitVec.ofInt 64 n) else none
 | _=>none
theorem PI {cs:List AV} {n:BitVec 64}:Sk cs=some n↔cs=[Wd n]:=by
 constructor
 ·intro h
  unfold Sk at h
  split at h
  ·split at h
   ·rename_i n hn
    cases h
    simp only [Wd,List.cons.injEq,and_true,AV.i.injEq,true_and]
    obtain ⟨m,rfl⟩:=Int.eq_ofNat_of_zero_le hn.1
    rw [BitVec.ofInt_natCast,BitVec.toNat_ofNat]
    omega
   ·cases h
  ·cases h
 ·rintro rfl
  have:=n.isLt
  simp only [Sk,Wd]
  rw [if_pos (by omega),HD]
instance : Rdr (BitVec 64) where
 size:=1
 rd _ cs:=Sk cs
 len h:=by rw [PI.1 h];rfl
 ext _ h:=h
 cell h:=by rw [PI.1 h];rfl
def A5S (cs:List AV):Option ByteArray:=match cs with
 | [.s n]=>some n
 | _=>none
theorem Sj {cs:List AV} {n:ByteArray}:A5S cs=some n↔cs=[.s n]:=by
 constructor
 ·intro h
  unfold A5S at h
  split at h
  ·cases h;rfl
  ·cases h
 ·rintro rfl;rfl
instance : Rdr ByteArray where
 size:=1
 rd _ cs:=A5S cs
 len h:=by rw [Sj.1 h];rfl
 ext _ h:=h
 cell h:=by rw [Sj.1 h];rfl
structure U8 where
 n:Nat
def Ae1 (cs:List AV):Option U8:=match cs with
 | [.i .u8 n]=>if 0≤n∧n < 256 then some ⟨n.toNat⟩ else none
 | _=>none
theorem A5T {cs:List AV} {n:U8}:Ae1 cs=some n↔cs=[.i .u8 (n.n:Int)]∧n.n < 256:=by
 constructor
 ·intro h
  unfold Ae1 at h
  split at h
  ·split at h
   ·rename_i n hn
    cases h
    obtain ⟨m,rfl⟩:=Int.eq_ofNat_of_zero_le hn.1
    simp only [Int.toNat_natCast]
    exact ⟨trivial,by omega⟩
   ·cases h
  ·cases h
 ·rintro ⟨rfl,h⟩
  simp only [Ae1]
  rw [if_pos (by omega)]
  rfl
instance : Rdr U8 where
 size:=1
 rd _ cs:=Ae1 cs
 len h:=by rw [(A5T.1 h).1];rfl
 ext _ h:=h
 cell h:=by rw [(A5T.1 h).1];rfl
section
variable {α:Type} [Rdr α]
def Jl (σ:St):Nat→List AV→Option (List α)
 | 0,cs=>if cs.length=0 then some [] else none
 | n+1,cs=>match Rdr.rd σ (cs.take (Rdr.size α)),Jl σ n (cs.drop (Rdr.size α)) with
  | some x,some xs=>some (x::xs)
  | _,_=>none
theorem PG {σ:St}:∀ {n:Nat} {cs:List AV} {xs:List α},Jl σ n cs=some xs→xs.length=n∧cs.length=n * Rdr.size α:=by
 intro n
 induction n with
 | zero =>
  intro cs xs h
  simp only [Jl] at h
  split at h
  ·rename_i h0;cases h;exact ⟨rfl,by omega⟩
  ·cases h
 | succ n ih =>
  intro cs xs h
  simp only [Jl] at h
  split at h
  ·rename_i x ys h1 h2
   cases h
   obtain ⟨h3,h4⟩:=ih h2
   have h5:=Rdr.len h1
   rw [List.length_drop] at h4
   rw [List.length_take] at h5
   refine ⟨by simp [h3],?_⟩
   rw [Nat.succ_mul]
   omega
  ·cases h
theorem A7a {σ σ':St} (he:Dx σ σ'):∀ {n:Nat} {cs:List AV} {xs:List α},Jl σ n cs=some xs→Jl σ' n cs=some xs:=by
 intro n
 induction n with
 | zero=>intro cs xs h;exact h
 | succ n ih =>
  intro cs xs h
  simp only [Jl] at h ⊢
  split at h
  ·rename_i x ys h1 h2
   rw [Rdr.ext he h1,ih h2]
   exact h
  ·cases h
theorem AaW {σ:St}:∀ {n:Nat} {cs:List AV} {xs:List α},Jl σ n cs=some xs→∀ (i:Nat) (h:i < xs.length),Rdr.rd σ ((cs.drop (i * Rdr.size α)).take (Rdr.size α))=some xs[i]:=by
 intro n
 induction n with
 | zero =>
  intro cs xs h i hi
  simp only [Jl] at h
  split at h
  ·cases h;simp at hi
  ·cases h
 | succ n ih =>
  intro cs xs h i hi
  simp only [Jl] at h
  split at h
  ·rename_i x ys h1 h2
   cases h
   cases i with
   | zero=>simpa using h1
   | succ i =>
    have:=ih h2 i (by simpa using hi)
    rw [List.drop_drop] at this
    rw [List.getElem_cons_succ,← this]
    congr 3
    rw [Nat.succ_mul]
    omega
  ·cases h
def A7b (σ:St) (cs:List AV):Option (List α):=match cs with
 | [.sl o n]=>(GA (Rdr.size α) o n σ).bind (Jl σ n)
 | _=>none
theorem HE {σ:St} {cs:List AV} {xs:List α}:A7b σ cs=some xs↔∃ o ys,cs=[.sl o xs.length]∧GA (Rdr.size α) o xs.length σ=some ys∧Jl σ xs.length ys=some xs:=by
 constructor
 ·intro h
  unfold A7b at h
  split at h
  ·rename_i o n
   obtain ⟨ys,h1,h2⟩:=Option.bind_eq_some_iff.1 h
   obtain ⟨h3,_⟩:=PG h2
   subst h3
   exact ⟨o,ys,rfl,h1,h2⟩
  ·cases h
 ·rintro ⟨o,ys,rfl,h1,h2⟩
  simp only [A7b,h1,Option.bind_some,h2]
theorem Abb {σ σ':St} (he:Dx σ σ') {esz:Nat} {o:Option (Nat×Nat)} {n:Nat} {ys:List AV} (h:GA esz o n σ=some ys):GA esz o n σ' = some ys:=by
 unfold GA at h ⊢
 cases o with
 | none=>exact h
 | some x=>exact he.loadN h
instance : Rdr (List α) where
 size:=1
 rd σ cs:=A7b σ cs
 len h:=by obtain ⟨o,ys,rfl,_⟩:=HE.1 h;rfl
 ext he h:=by
  obtain ⟨o,ys,rfl,h1,h2⟩:=HE.1 h
  exact HE.2 ⟨o,ys,rfl,Abb he h1,A7a he h2⟩
 cell h:=by obtain ⟨o,ys,rfl,_⟩:=HE.1 h;rfl
def Rd (σ:St) (v:AV) (x:α):Prop:=Rdr.rd σ [v]=some x
theorem Rd.ext {σ σ':St} {v:AV} {x:α} (h:Rd σ v x) (he:Dx σ σ'):Rd σ' v x:=Rdr.ext he h
theorem Rd.sl {σ:St} {v:AV} {xs:List α} (h:Rd σ v xs):∃ o,v = .sl o xs.length:=by
 obtain ⟨o,ys,h1,_⟩:=HE.1 h
 simp only [List.cons.injEq,and_true] at h1
 exact ⟨o,h1⟩
theorem Rd.nil {σ:St}:Rd σ (.sl none 0) ([]:List α):=HE.2 ⟨none,[],rfl,rfl,rfl⟩
theorem Rd.at {σ:St} {v:AV} {xs:List α} (h:Rd σ v xs) (hs:0 < Rdr.size α) {i:Nat} (hi:i < xs.length) {k:IntKind} :
  ∃ id off cs,A6S (Rdr.size α) v (.i k i)=some (.p (some (id,off)))∧σ.loadN id off (Rdr.size α)=some cs∧Rdr.rd σ cs=some xs[i]:=by
 obtain ⟨o,ys,h1,h2,h3⟩:=HE.1 h
 simp only [List.cons.injEq,and_true] at h1
 subst h1
 have h4:=AaW h3 i hi
 obtain ⟨_,h5⟩:=PG h3
 unfold GA at h2
 cases o with
 | none =>
  simp only at h2
  cases hb:Nat.beq xs.length 0 with
  | false=>rw [hb] at h2;cases h2
  | true=>have:=Nat.eq_of_beq_eq_true hb;omega
 | some x =>
  obtain ⟨id,off⟩:=x
  simp only at h2
  obtain ⟨h6,h7⟩:=Zv h2
  refine ⟨id,off+i * Rdr.size α,_,?_,?_,h4⟩
  ·simp only [A6S,Int.toNat_natCast]
   rw [if_pos (by omega)]
  ·have hle:i * Rdr.size α+Rdr.size α≤xs.length * Rdr.size α:=by
    rw [← Nat.succ_mul]
    exact Nat.mul_le_mul_right _ hi
   refine Jg (by rw [List.length_take,List.length_drop];omega) fun j hj=>?_
   rw [Nat.add_assoc,h7 _ (by omega),List.getElem?_take_of_lt hj,List.getElem?_drop]
end
theorem Rd.int {σ:St} {v:AV} {x:Int}:Rd σ v x↔v = .i .i64 x:=by
 show A5R [v]=some x↔_
 rw [Si]
 simp
theorem Rd.word {σ:St} {v:AV} {x:BitVec 64}:Rd σ v x↔v=Wd x:=by
 show Sk [v]=some x↔_
 rw [PI]
 simp
theorem Rd.bool {σ:St} {v:AV} {x:Bool}:Rd σ v x↔v = .b x:=by
 show XO [v]=some x↔_
 rw [PH]
 simp
theorem Rd.str {σ:St} {v:AV} {x:ByteArray}:Rd σ v x↔v = .s x:=by
 show A5S [v]=some x↔_
 rw [Sj]
 simp
def Da (σ:St) (id ty esz len:Nat) (cells:List AV):Prop :=
 ∃ cs,σ.get id=some { ty:=ty,rw:=true,esz:=esz,len:=len,cs:=cs }∧cells.length=len∧∀ j,j < len→cs.get j=cells[j]?
theorem Da.ext {σ σ':St} {id ty esz len:Nat} {cells:List AV} (h:Da σ id ty esz len cells) (he:Dx σ σ'):Da σ' id ty esz len cells:=by
 obtain ⟨cs,h1,h2⟩:=h
 exact ⟨cs,he.keep _ _ h1,h2⟩
theorem Da.of_get {σ σ':St} {id ty esz len:Nat} {cells:List AV} (h:Da σ id ty esz len cells) (he:σ'.get id=σ.get id):Da σ' id ty esz len cells:=by
 obtain ⟨cs,h1,h2⟩:=h
 exact ⟨cs,he.trans h1,h2⟩
theorem Da.load {σ:St} {id ty esz len:Nat} {cells:List AV} (h:Da σ id ty esz len cells) {j:Nat} (hj:j < len):σ.load1 id j=cells[j]?:=by
 obtain ⟨cs,h1,h2,h3⟩:=h
 unfold St.load1
 rw [h1]
 have:Nat.blt j len=true:=by simpa [Nat.blt_eq] using hj
 simp only [this,cond_true]
 exact h3 j hj
theorem Da.new {σ:St} {ty esz len:Nat} {cells:List AV} (hl:cells.length=len):Da (σ.new { ty:=ty,rw:=true,esz:=esz,len:=len,cs:=Tm.ofList cells }) σ.next ty esz len cells :=
 ⟨_,by rw [Bl,if_pos rfl],hl,fun j hj=>Tm.get_ofList cells j⟩
theorem Da.lt {σ:St} {id ty esz len:Nat} {cells:List AV} (h:Da σ id ty esz len cells) (hn:HK σ):id < σ.next:=by
 obtain ⟨cs,h1,_⟩:=h
 rcases Nat.lt_or_ge id σ.next with h2 | h2
 ·exact h2
 ·rw [hn _ h2] at h1;cases h1
theorem Da.store {σ:St} {id ty esz len:Nat} {cells:List AV} (h:Da σ id ty esz len cells):∀ {vs:List AV} {off:Nat},off+vs.length≤len→vs.all AV.cell=true →
  ∃ σ',σ.storeN id off vs=some σ'∧Da σ' id ty esz len (cells.take off++vs++cells.drop (off+vs.length))∧σ'.next=σ.next∧∀ j,j≠id→σ'.get j=σ.get j:=by
 intro vs
 induction vs generalizing σ cells with
 | nil =>
  intro off ho _
  refine ⟨σ,rfl,?_,rfl,fun _ _=>rfl⟩
  simpa using h
 | cons v vs ih =>
  intro off ho hc
  simp only [List.length_cons] at ho
  simp only [List.all_cons,Bool.and_eq_true] at hc
  obtain ⟨cs,h1,h2,h3⟩:=h
  have hb:Nat.blt off len=true:=by simp [Nat.blt_eq];omega
  have e1:σ.store1 id off v=some (σ.put id { ty:=ty,rw:=true,esz:=esz,len:=len,cs:=cs.set off v }):=by
   unfold St.store1
   rw [h1]
   simp only [hb,hc.1,Bool.and_true,cond_true]
  have o1:Da (σ.put id { ty:=ty,rw:=true,esz:=esz,len:=len,cs:=cs.set off v }) id ty esz len (cells.set off v):=by
   refine ⟨_,by rw [Ls,if_pos rfl],by rw [List.length_set];exact h2,fun j hj=>?_⟩
   rw [Tm.get_set,List.getElem?_set]
   by_cases e:j=off
   ·subst e;rw [if_pos rfl,if_pos rfl,if_pos (by omega)]
   ·rw [if_neg e,if_neg (Ne.symm e)];exact h3 j hj
  obtain ⟨σ',g1,g2,g3,g4⟩:=ih o1 (off:=off+1) (by omega) hc.2
  refine ⟨σ',?_,?_,g3,fun j hj=>?_⟩
  ·unfold St.storeN
   rw [e1]
   exact g1
  ·have e2:(cells.set off v).take (off+1)++vs++(cells.set off v).drop (off+1+vs.length)=cells.take off++(v::vs)++cells.drop (off+(v::vs).length):=by
    rw [List.take_add_one,List.getElem?_set,if_pos rfl,if_pos (by omega),List.take_set_of_le (by omega),List.drop_set_of_lt (by omega)]
    simp only [Option.toList,List.append_assoc,List.cons_append,List.nil_append,List.length_cons]
    rw [show off+1+vs.length=off+(vs.length+1) by omega]
   rw [e2] at g2
   exact g2
  ·rw [g4 j hj,Ls,if_neg hj]
def Hi (σ0 σ:St) (v:AV) (ty esz n:Nat) (cells:List AV):Prop :=
 (v = .sl none 0∧n=0∧cells=[])∨∃ id,v = .sl (some (id,0)) n∧σ0.get id=none∧Da σ id ty esz (n * esz) cells
theorem Hi.ext {σ0 σ σ':St} {v:AV} {ty esz n:Nat} {cells:List AV} (h:Hi σ0 σ v ty esz n cells) (he:Dx σ σ'):Hi σ0 σ' v ty esz n cells:=by
 rcases h with h | ⟨id,h1,h2,h3⟩
 ·exact .inl h
 ·exact .inr ⟨id,h1,h2,h3.ext he⟩
theorem Hi.nil {σ0 σ:St} {ty esz:Nat}:Hi σ0 σ (.sl none 0) ty esz 0 []:=.inl ⟨rfl,rfl,rfl⟩
theorem Hi.sl {σ0 σ:St} {v:AV} {ty esz n:Nat} {cells:List AV} (h:Hi σ0 σ v ty esz n cells):∃ o,v = .sl o n:=by
 rcases h with ⟨rfl,rfl,_⟩ | ⟨id,h1,_⟩
 ·exact ⟨none,rfl⟩
 ·exact ⟨_,h1⟩
theorem Hi.len {σ0 σ:St} {v:AV} {ty esz n:Nat} {cells:List AV} (h:Hi σ0 σ v ty esz n cells):cells.length=n * esz:=by
 rcases h with ⟨rfl,rfl,rfl⟩ | ⟨id,_,_,h1⟩
 ·simp
 ·obtain ⟨cs,_,h2,_⟩:=h1;exact h2
theorem Hi.src {σ0 σ:St} {o:Option (Nat×Nat)} {ty esz n:Nat} {cells:List AV} (h:Hi σ0 σ (.sl o n) ty esz n cells):GA esz o n σ=some cells:=by
 rcases h with ⟨h1,rfl,rfl⟩ | ⟨id,h1,_,h2⟩
 ·cases h1;rfl
 ·cases h1
  have h4:cells.length=n * esz:=by obtain ⟨cs,_,h4,_⟩:=h2;exact h4
  exact Jg h4 fun j hj=>by rw [Nat.zero_add];exact h2.load hj
theorem Hi.rd {α:Type} [Rdr α] {σ0 σ:St} {v:AV} {ty n:Nat} {cells:List AV} {xs:List α} (h:Hi σ0 σ v ty (Rdr.size α) n cells) (hx:Jl σ n cells=some xs):Rd σ v xs:=by
 obtain ⟨o,rfl⟩:=h.sl
 obtain ⟨h1,_⟩:=PG hx
 subst h1
 exact HE.2 ⟨o,cells,rfl,h.src,hx⟩
theorem Da.loadV {σ:St} {id ty esz len:Nat} {cells:List AV} (h:Da σ id ty esz len cells) {j:Nat} (hj:j < len) {c:AV} (hc:cells[j]? = some c):σ.loadV none id j=some c:=(h.load hj).trans hc
theorem Dx.upd {a b c:St} (h:Dx a b) {id:Nat} (hid:a.get id=none) (hn:id < b.next) (hx:c.next=b.next) (hg:∀ j,j≠id→c.get j=b.get j):Dx a c:=by
 refine ⟨by rw [hx];exact h.nx,fun j o x=>?_,fun j hj=>?_⟩
 ·have:j≠id:=by rintro rfl;rw [hid] at x;cases x
  rw [hg j this]
  exact h.keep _ _ x
 ·rw [hx] at hj
  rw [hg j (by omega)]
  exact h.nd _ hj
theorem Hi.upd {σ0 σ σ':St} {v:AV} {ty esz n r:Nat} {cells:List AV} (h:Hi σ0 σ v ty esz n cells) (hne:∀ off n,v≠.sl (some (r,off)) n) (hg:∀ j,j≠r→σ'.get j=σ.get j):Hi σ0 σ' v ty esz n cells:=by
 rcases h with h | ⟨id,h1,h2,h3⟩
 ·exact .inl h
 ·exact .inr ⟨id,h1,h2,h3.of_get (hg id (by rintro rfl;exact hne _ _ h1))⟩
@[go_sem] theorem Aie {σ:St} {ty esz len j:Nat} {rw:Bool} {cells:List AV}:(σ.new { ty:=ty,rw:=rw,esz:=esz,len:=len,cs:=Tm.ofList cells }).loadV none σ.next j=if j < len then cells[j]? else none:=by
 show St.load1 _ _ _=_
 unfold St.load1
 rw [Bl,if_pos rfl]
 by_cases h:j < len
 ·have:Nat.blt j len=true:=by simpa [Nat.blt_eq] using h
  simp only [this,cond_true,if_pos h,Tm.get_ofList]
 ·have:Nat.blt j len=false:=by
   cases hb:Nat.blt j len with
   | false=>rfl
   | true=>rw [Nat.blt_eq] at hb;exact absurd hb h
  simp only [this,cond_false,if_neg h]
theorem Da.loadAll {σ:St} {id ty esz len:Nat} {cells:List AV} (h:Da σ id ty esz len cells) {off n:Nat} (hn:off+n≤len):σ.loadV (some n) id off=some (.ag ((cells.drop off).take n)):=by
 have hl:cells.length=len:=by obtain ⟨cs,_,h4,_⟩:=h;exact h4
 have:σ.loadN id off n=some ((cells.drop off).take n):=by
  refine Jg (by rw [List.length_take,List.length_drop];omega) fun j hj=>?_
  rw [h.load (by omega),List.getElem?_take_of_lt hj,List.getElem?_drop]
 unfold St.loadV
 simp only [this]
@[go_sem] theorem Ah6 {σ:St} {ty esz len n:Nat} {cells:List AV} (h1:cells.length=len) (h2:n=len):(σ.new { ty:=ty,rw:=true,esz:=esz,len:=len,cs:=Tm.ofList cells }).loadV (some n) σ.next 0=some (.ag cells):=by
 have h:Da (σ.new { ty:=ty,rw:=true,esz:=esz,len:=len,cs:=Tm.ofList cells }) σ.next ty esz len cells:=Da.new h1
 subst h2
 rw [h.loadAll (by omega),List.drop_zero,List.take_of_length_le (by omega)]
theorem Hi.new {σ:St} (hn:HK σ) {ty esz n:Nat} {cells:List AV} (hl:cells.length=n * esz):Hi σ (σ.new { ty:=ty,rw:=true,esz:=esz,len:=n * esz,cs:=Tm.ofList cells }) (.sl (some (σ.next,0)) n) ty esz n cells :=
 .inr ⟨σ.next,rfl,hn _ (Nat.le_refl _),Da.new hl⟩
theorem Hi.base {σ0 σ1 σ:St} {v:AV} {ty esz n:Nat} {cells:List AV} (h:Hi σ1 σ v ty esz n cells) (he:Dx σ0 σ1):Hi σ0 σ v ty esz n cells:=by
 rcases h with h | ⟨id,e1,e2,e3⟩
 ·exact .inl h
 ·refine .inr ⟨id,e1,?_,e3⟩
  cases hg:σ0.get id with
  | none=>rfl
  | some ob=>rw [he.keep _ _ hg] at e2;cases e2
end Go.AM
namespace Go.AM
open Go Go.Proofs
def CQ (i:Int):BitVec 64:=if 0≤i∧i < 64 then 1#64 <<< i.toNat else 0#64
def C1 (s:BitVec 64):List Nat:=(List.range 64).filter fun i=>s.getLsbD i
theorem Vh {p q:Nat→Bool} {k:Nat} (h1:p k=true) (h2:∀ j,j < k→p j=false) (h3:∀ j,q j=(p j && j != k)):∀ n,(List.range n).filter p=if k < n then k::(List.range n).filter q else []:=by
 intro n
 induction n with
 | zero=>simp
 | succ n ih =>
  rw [List.range_succ,List.filter_append,List.filter_append,ih]
  rcases Nat.lt_trichotomy k n with h | h | h
  ·rw [if_pos h,if_pos (by omega),List.cons_append]
   congr 2
   have:q n=p n:=by
    rw [h3]
    have:(n != k)=true:=by simp;omega
    rw [this,Bool.and_true]
   simp only [List.filter_cons,this,List.filter_nil]
  ·subst h
   have e:(List.range k).filter q=[]:=by
    rw [List.filter_eq_nil_iff]
    intro j hj
    have:=h2 j (List.mem_range.1 hj)
    simp [h3,this]
   rw [if_neg (by omega),if_pos (by omega),e]
   simp [h1,h3]
  ·rw [if_neg (by omega),if_neg (by omega)]
   have:=h2 n h
   simp [this]
theorem A9V (s:BitVec 64) (h:s≠0#64):s.getLsbD (Lib.ctz 64 s.toNat)=true∧(∀ j,j < Lib.ctz 64 s.toNat→s.getLsbD j=false)∧(∀ j,(s &&& (s - 1#64)).getLsbD j=(s.getLsbD j && j != Lib.ctz 64 s.toNat))∧Lib.ctz 64 s.toNat < 64:=by
 have h0:s.toNat≠0:=fun e=>h (BitVec.eq_of_toNat_eq (by simpa using e))
 have hc:Lib.ctz 64 s.toNat=Lib.ctzFrom 64 s.toNat:=by simp [Lib.ctz,h0]
 obtain ⟨m,hm,hk⟩:=Lib.ctzFrom_spec 64 s.toNat (by omega) s.isLt
 rw [hc]
 generalize Lib.ctzFrom 64 s.toNat=k at hm hk
 have hb:∀ j,s.getLsbD j=(decide (j ≥ k) && (2 * m+1).testBit (j - k)):=by
  intro j
  show s.toNat.testBit j=_
  rw [hm,Nat.testBit_two_pow_mul]
 have hp:0 < 2 ^ k:=Nat.two_pow_pos k
 have hs1:(s - 1#64).toNat=2 ^ k * (2 * m)+(2 ^ k - 1):=by
  have h1:(s - 1#64).toNat=s.toNat - 1:=by
   rw [BitVec.toNat_sub]
   have:=s.isLt
   simp
   omega
  rw [h1,hm,Nat.mul_add,Nat.mul_one]
  omega
 have hb1:∀ j,(s - 1#64).getLsbD j=if j < k then (2 ^ k - 1).testBit j else (2 * m).testBit (j - k):=by
  intro j
  show (s - 1#64).toNat.testBit j=_
  rw [hs1,Nat.testBit_two_pow_mul_add _ (by omega)]
 refine ⟨?_,?_,?_,hk⟩
 ·rw [hb];simp
 ·intro j hj
  rw [hb]
  have:¬ j ≥ k:=by omega
  simp [this]
 ·intro j
  rw [BitVec.getLsbD_and,hb1,hb]
  rcases Nat.lt_trichotomy j k with h | h | h
  ·have:¬ j ≥ k:=by omega
   simp [this]
  ·subst h;simp
  ·obtain ⟨d,rfl⟩:∃ d,j=k+(d+1):=⟨j - k - 1,by omega⟩
   have h1:¬ k+(d+1) < k:=by omega
   have h2:k+(d+1) ≥ k:=by omega
   have h3:k+(d+1) - k=d+1:=by omega
   have h4:(k+(d+1) != k)=true:=by simp
   rw [if_neg h1,h3,h4,decide_eq_true h2]
   simp only [Bool.true_and,Bool.and_true,Nat.testBit_succ]
   have:(2 * m+1) / 2=2 * m / 2:=by omega
   rw [this,Bool.and_self]
theorem A2C {s:BitVec 64} (h:s≠0#64):C1 s=Lib.ctz 64 s.toNat::C1 (s &&& (s - 1#64)):=by
 obtain ⟨h1,h2,h3,h4⟩:=A9V s h
 have:=Vh (p:=fun j=>s.getLsbD j) (q:=fun j=>(s &&& (s - 1#64)).getLsbD j) h1 h2 h3 64
 rw [if_pos h4] at this
 exact this
theorem A2D:C1 0#64=[]:=by simp [C1]
theorem RC {s:BitVec 64} {i:Nat} (h:i∈C1 s):i < 64∧s.getLsbD i=true:=by
 simpa [C1] using h
theorem LC {s:BitVec 64} {i:Nat}:i∈C1 s↔s.getLsbD i=true:=by
 constructor
 ·intro h;exact (RC h).2
 ·intro h
  have:i < 64:=by
   rcases Nat.lt_or_ge i 64 with h1 | h1
   ·exact h1
   ·rw [BitVec.getLsbD_of_ge _ _ h1] at h;cases h
  simp [C1,this,h]
theorem CR (i:Int) (j:Nat):(CQ i).getLsbD j=decide ((j:Int)=i∧j < 64):=by
 unfold CQ
 split
 ·rename_i h
  obtain ⟨n,rfl⟩:=Int.eq_ofNat_of_zero_le h.1
  simp only [Int.toNat_natCast,BitVec.getLsbD_shiftLeft]
  by_cases hj:j < 64
  ·by_cases e:j=n
   ·subst e;simp [hj]
   ·have:¬ ((j:Int)=n):=by omega
    simp only [this,hj]
    simp
    intro h2 h3
    omega
  ·simp [hj]
 ·rename_i h
  simp
  intro e
  omega
theorem PX (s:BitVec 64) (i:Int):(s &&& CQ i=0#64)↔¬ (0≤i∧s.getLsbD i.toNat=true):=by
 constructor
 ·rintro h ⟨h0,h1⟩
  have:=congrArg (fun x=>x.getLsbD i.toNat) h
  simp only [BitVec.getLsbD_and,h1,Bool.true_and,CR] at this
  have h2:i.toNat < 64:=by
   rcases Nat.lt_or_ge i.toNat 64 with h2 | h2
   ·exact h2
   ·rw [BitVec.getLsbD_of_ge _ _ h2] at h1;cases h1
  simp at this
  omega
 ·intro h
  apply BitVec.eq_of_getLsbD_eq
  intro j hj
  rw [BitVec.getLsbD_and,CR]
  simp
  intro h1 h2
  exfalso
  apply h
  have:i.toNat=j:=by omega
  rw [this]
  exact ⟨by omega,h1⟩
def Bv (s:BitVec 64) (i:Int):Bool:=decide (0≤i) && s.getLsbD i.toNat
theorem AcB (s:BitVec 64) (i:Int):(!decide (s &&& CQ i=0#64))=Bv s i:=by
 have h:=PX s i
 unfold Bv
 cases hb:decide (s &&& CQ i=0#64) with
 | true =>
  have:=h.1 (of_decide_eq_true hb)
  by_cases h0:0≤i
  ·cases h1:s.getLsbD i.toNat with
   | false=>simp
   | true=>exact absurd ⟨h0,h1⟩ this
  ·simp [h0]
 | false =>
  have h2:¬ s &&& CQ i=0#64:=of_decide_eq_false hb
  have h3:0≤i∧s.getLsbD i.toNat=true:=Classical.byContradiction fun hn=>h2 (h.2 hn)
  simp [h3.1,h3.2]
theorem AS (s:BitVec 64) (i:Nat):Bv s (i:Int)=s.getLsbD i:=by simp [Bv]
def BS (p:Nat→Bool):BitVec 64:=(List.range 64).foldl (fun s i=>if p i then s ||| CQ i else s) 0#64
theorem At (p:Nat→Bool) (j:Nat):(BS p).getLsbD j=(p j && decide (j < 64)):=by
 have key:∀ n,n≤64→((List.range n).foldl (fun s i=>if p i then s ||| CQ i else s) 0#64).getLsbD j=(p j && decide (j < n)):=by
  intro n
  induction n with
  | zero=>intro _;simp
  | succ n ih =>
   intro hn
   rw [List.range_succ,List.foldl_append,List.foldl_cons,List.foldl_nil]
   have ih:=ih (by omega)
   have h1:decide (j < n+1)=(decide (j < n) || decide (j=n)):=by
    by_cases h:j < n
    ·simp [h];omega
    ·by_cases h2:j=n
     ·simp [h2]
     ·simp [h,h2];omega
   split
   ·rename_i hp
    rw [BitVec.getLsbD_or,ih,CR,h1]
    by_cases e:j=n
    ·subst e
     have:j < 64:=by omega
     simp [hp,this]
    ·have:¬ ((j:Int)=n):=by omega
     simp [this,e]
   ·rename_i hp
    rw [ih,h1]
    by_cases e:j=n
    ·subst e;simp at hp;simp [hp]
    ·simp [e]
 exact key 64 (Nat.le_refl _)
theorem Bp {a b:BitVec 64} (h:∀ j,j < 64→a.getLsbD j=b.getLsbD j):a=b:=BitVec.eq_of_getLsbD_eq fun j hj=>h j hj
theorem SF (p:Nat→Bool) (k:Nat) (hk:k < 64):BS p ||| CQ k=BS (fun j=>p j || decide (j=k)):=by
 apply Bp
 intro j hj
 rw [BitVec.getLsbD_or,At,At,CR]
 have:(decide ((j:Int)=(k:Int)∧j < 64))=decide (j=k):=by
  by_cases e:j=k
  ·subst e;simp [hj]
  ·have:¬ ((j:Int)=k):=by omega
   simp [e,this]
 rw [this]
 simp [hj]
theorem Cd {p q:Nat→Bool} (h:∀ j,j < 64→p j=q j):BS p=BS q:=by
 apply Bp
 intro j hj
 rw [At,At,h j hj]
theorem Jo:BS (fun _=>false)=0#64:=by
 apply Bp
 intro j hj
 rw [At]
 simp
end Go.AM
namespace Go.AM
open Go
structure AK where
 thread:Int
 up:Int
 kind:Int
 loc:Int
 mode:Int
 val:Int
 rmw:Bool
 fin:Bool
 regs:List Int
 deriving DecidableEq
structure A2 where
 vals:Int
 locs:List ByteArray
 regs:List (List ByteArray)
 nodes:List AK
structure A5 where
 has:List Int
 jf:List Int
 mo:List (List (List Int))
 deriving DecidableEq
structure AiN where
 has:List Int
 rf:List Int
 mo:List (List Int)
 deriving DecidableEq
def PC (n:AK) (rv:AV):List AV:=[.i .i64 n.thread,.i .i64 n.up,.i .i64 n.kind,.i .i64 n.loc,.i .i64 n.mode,.i .i64 n.val,.b n.rmw,.b n.fin,rv]
def XP (σ:St) (cs:List AV):Option AK:=match cs with
 | [.i .i64 a,.i .i64 b,.i .i64 c,.i .i64 d,.i .i64 e,.i .i64 f,.b g,.b h,rv]=>match A7b σ [rv] with
  | some rs=>some ⟨a,b,c,d,e,f,g,h,rs⟩
  | none=>none
 | _=>none
theorem LH {σ:St} {cs:List AV} {n:AK}:XP σ cs=some n↔∃ rv,cs=PC n rv∧Rd σ rv n.regs:=by
 constructor
 ·intro h
  unfold XP at h
  split at h
  ·rename_i a b c d e f g k rv
   split at h
   ·rename_i rs hrs
    cases h
    exact ⟨rv,rfl,hrs⟩
   ·cases h
  ·cases h
 ·rintro ⟨rv,rfl,h⟩
  have h':A7b σ [rv]=some n.regs:=h
  simp only [XP,PC,h']
theorem Rd.cell {α:Type} [Rdr α] {σ:St} {v:AV} {x:α} (h:Rd σ v x):v.cell=true:=by
 have:=Rdr.cell h
 simpa using this
instance : Rdr AK where
 size:=9
 rd σ cs:=XP σ cs
 len h:=by obtain ⟨rv,rfl,_⟩:=LH.1 h;rfl
 ext he h:=by
  obtain ⟨rv,rfl,h1⟩:=LH.1 h
  exact LH.2 ⟨rv,rfl,h1.ext he⟩
 cell h:=by
  obtain ⟨rv,rfl,h1⟩:=LH.1 h
  have:=h1.cell
  simp only [PC,List.all_cons,List.all_nil,this]
  rfl
def A7r (t:A2) (a b c:AV):List AV:=[.i .i64 t.vals,a,b,c]
def RdT (σ:St) (v:AV) (t:A2):Prop:=∃ a b c,v = .ag (A7r t a b c)∧Rd σ a t.locs∧Rd σ b t.regs∧Rd σ c t.nodes
theorem RdT.ext {σ σ':St} {v:AV} {t:A2} (h:RdT σ v t) (he:Dx σ σ'):RdT σ' v t:=by
 obtain ⟨a,b,c,h1,h2,h3,h4⟩:=h
 exact ⟨a,b,c,h1,h2.ext he,h3.ext he,h4.ext he⟩
def RdS (σ:St) (v:AV) (s:A5):Prop:=∃ a b c,v = .ag [a,b,c]∧Rd σ a s.has∧Rd σ b s.jf∧Rd σ c s.mo
theorem RdS.ext {σ σ':St} {v:AV} {t:A5} (h:RdS σ v t) (he:Dx σ σ'):RdS σ' v t:=by
 obtain ⟨a,b,c,h1,h2,h3,h4⟩:=h
 exact ⟨a,b,c,h1,h2.ext he,h3.ext he,h4.ext he⟩
def RdE (σ:St) (v:AV) (s:AiN):Prop:=∃ a b c,v = .ag [a,b,c]∧Rd σ a s.has∧Rd σ b s.rf∧Rd σ c s.mo
theorem RdE.ext {σ σ':St} {v:AV} {t:AiN} (h:RdE σ v t) (he:Dx σ σ'):RdE σ' v t:=by
 obtain ⟨a,b,c,h1,h2,h3,h4⟩:=h
 exact ⟨a,b,c,h1,h2.ext he,h3.ext he,h4.ext he⟩
theorem Rd.cells {α:Type} [Rdr α] {σ:St} {v:AV} {x:List α} (h:Rd σ v x):v.cells=[v]:=by
 obtain ⟨o,rfl⟩:=h.sl
 rfl
def enc:List Nat→Nat
 | []=>0
 | b::r=>b+256 * enc r
theorem GW (a b c d:Nat) (ha:a < 256) (hc:c < 256):(a+256 * b) &&& (c+256 * d)=(a &&& c)+256 * (b &&& d):=by
 have hac:a &&& c < 2 ^ 8:=Nat.and_lt_two_pow _ (by omega)
 apply Nat.eq_of_testBit_eq
 intro j
 rw [Nat.testBit_and]
 rw [show a+256 * b=2 ^ 8 * b+a by omega,show c+256 * d=2 ^ 8 * d+c by omega,show (a &&& c)+256 * (b &&& d)=2 ^ 8 * (b &&& d)+(a &&& c) by omega]
 rw [Nat.testBit_two_pow_mul_add _ (by omega),Nat.testBit_two_pow_mul_add _ (by omega),Nat.testBit_two_pow_mul_add _ hac]
 split<;>rw [Nat.testBit_and]
def f1 (b:Nat):Nat:=(b / 2 &&& 85)+(b &&& 85)
def f2 (b:Nat):Nat:=(b / 4 &&& 51)+(b &&& 51)
def f3 (b:Nat):Nat:=b / 16+b % 16
def pc8 (b:Nat):Nat:=((List.range 8).filter fun i=>b.testBit i).length
theorem k1:∀ b:Fin 256,∀ t:Fin 2,(b.val / 2+128 * t.val) &&& 85=b.val / 2 &&& 85:=by decide +kernel
theorem k2:∀ b:Fin 256,∀ t:Fin 4,(b.val / 4+64 * t.val) &&& 51=b.val / 4 &&& 51:=by decide +kernel
theorem k3:∀ b:Fin 256,∀ t:Fin 5,b.val % 16≤4→b.val / 16≤4→(b.val / 16+16 * t.val+b.val) &&& 15=f3 b.val:=by decide +kernel
theorem k4:∀ b:Fin 256,f1 b.val < 256∧f2 (f1 b.val) < 256∧f2 (f1 b.val) % 16≤4∧f2 (f1 b.val) / 16≤4∧f3 (f2 (f1 b.val))=pc8 b.val∧pc8 b.val≤8:=by decide +kernel
theorem Ajw:∀ bs:List Nat,(∀ b∈bs,b < 256)→(enc bs / 2 &&& enc (List.replicate bs.length 85))+(enc bs &&& enc (List.replicate bs.length 85))=enc (bs.map f1)
 | [],_=>by simp [enc]
 | b::r,h=>by
  have hb:=h b (by simp)
  have ih:=Ajw r fun x hx=>h x (by simp [hx])
  simp only [List.length_cons,List.replicate_succ,enc,List.map_cons]
  generalize enc r=R at *
  generalize enc (List.replicate r.length 85)=M at *
  have e1:(b+256 * R) / 2=(b / 2+128 * (R % 2))+256 * (R / 2):=by omega
  have e2:=k1 ⟨b,hb⟩ ⟨R % 2,by omega⟩
  simp only at e2
  rw [e1,GW _ _ _ _ (by omega) (by omega),GW _ _ _ _ hb (by omega),e2,← ih,f1]
  omega
theorem Ajx:∀ bs:List Nat,(∀ b∈bs,b < 256)→(enc bs / 4 &&& enc (List.replicate bs.length 51))+(enc bs &&& enc (List.replicate bs.length 51))=enc (bs.map f2)
 | [],_=>by simp [enc]
 | b::r,h=>by
  have hb:=h b (by simp)
  have ih:=Ajx r fun x hx=>h x (by simp [hx])
  simp only [List.length_cons,List.replicate_succ,enc,List.map_cons]
  generalize enc r=R at *
  generalize enc (List.replicate r.length 51)=M at *
  have e1:(b+256 * R) / 4=(b / 4+64 * (R % 4))+256 * (R / 4):=by omega
  have e2:=k2 ⟨b,hb⟩ ⟨R % 4,by omega⟩
  simp only at e2
  rw [e1,GW _ _ _ _ (by omega) (by omega),GW _ _ _ _ hb (by omega),e2,← ih,f2]
  omega
theorem Ach:∀ bs:List Nat,(∀ b∈bs,b < 256∧b % 16≤4∧b / 16≤4)→enc bs % 16≤4
 | [],_=>by simp [enc]
 | b::r,h=>by
  have hb:=h b (by simp)
  simp only [enc]
  omega
theorem Ajy:∀ bs:List Nat,(∀ b∈bs,b < 256∧b % 16≤4∧b / 16≤4)→(enc bs / 16+enc bs) &&& enc (List.replicate bs.length 15)=enc (bs.map f3)
 | [],_=>by simp [enc]
 | b::r,h=>by
  have hb:=h b (by simp)
  have ih:=Ajy r fun x hx=>h x (by simp [hx])
  have hm:=Ach r fun x hx=>h x (by simp [hx])
  simp only [List.length_cons,List.replicate_succ,enc,List.map_cons]
  generalize enc r=R at *
  generalize enc (List.replicate r.length 15)=M at *
  have e1:(b+256 * R) / 16+(b+256 * R)=(b / 16+16 * (R % 16)+b)+256 * (R / 16+R):=by omega
  have e2:=k3 ⟨b,hb.1⟩ ⟨R % 16,by omega⟩ hb.2.1 hb.2.2
  simp only at e2
  rw [e1,GW _ _ _ _ (by omega) (by omega),e2,← ih]
def B6 (x:Nat):List Nat:=[x % 256,x / 256 % 256,x / 65536 % 256,x / 16777216 % 256,x / 4294967296 % 256,x / 1099511627776 % 256,x / 281474976710656 % 256,x / 72057594037927936 % 256]
theorem A6z {x:Nat} (h:x < 18446744073709551616):enc (B6 x)=x:=by
 simp only [B6,enc]
 omega
def s1 (x:Nat):Nat:=((x / 2) &&& 6148914691236517205)+(x &&& 6148914691236517205)
def s2 (x:Nat):Nat:=((x / 4) &&& 3689348814741910323)+(x &&& 3689348814741910323)
def s3 (x:Nat):Nat:=(x / 16+x) &&& 1085102592571150095
def s4 (x:Nat):Nat:=x+x / 256
def s5 (x:Nat):Nat:=x+x / 65536
def s6 (x:Nat):Nat:=x+x / 4294967296
theorem Ky {x b:Nat} (hb:b∈B6 x):b < 256:=by
 simp only [B6,List.mem_cons,List.not_mem_nil,or_false] at hb
 omega
theorem m1 (l:List Nat) (h:l.length=8):enc (List.replicate l.length 85)=6148914691236517205:=by rw [h];decide
theorem m2 (l:List Nat) (h:l.length=8):enc (List.replicate l.length 51)=3689348814741910323:=by rw [h];decide
theorem m3 (l:List Nat) (h:l.length=8):enc (List.replicate l.length 15)=1085102592571150095:=by rw [h];decide
theorem bl (x:Nat):(B6 x).length=8:=rfl
theorem Akh {x:Nat} (h:x < 18446744073709551616):s1 x=enc ((B6 x).map f1):=by
 have h1:=Ajw (B6 x) fun b hb=>Ky hb
 rw [A6z h,m1 _ (bl x)] at h1
 exact h1
theorem Aki {x:Nat} (h:x < 18446744073709551616):s2 (s1 x)=enc (((B6 x).map f1).map f2):=by
 rw [Akh h]
 have h2:=Ajx ((B6 x).map f1) (by
  intro b hb'
  obtain ⟨c,hc,rfl⟩:=List.mem_map.1 hb'
  exact (k4 ⟨c,Ky hc⟩).1)
 rw [m2 _ (by rw [List.length_map];exact bl x)] at h2
 exact h2
theorem Akj {x:Nat} (h:x < 18446744073709551616):s3 (s2 (s1 x))=enc ((B6 x).map pc8):=by
 rw [Aki h]
 have hg:∀ b∈((B6 x).map f1).map f2,b < 256∧b % 16≤4∧b / 16≤4:=by
  intro b hb'
  obtain ⟨c,hc,rfl⟩:=List.mem_map.1 hb'
  obtain ⟨d,hd,rfl⟩:=List.mem_map.1 hc
  have:=k4 ⟨d,Ky hd⟩
  exact ⟨this.2.1,this.2.2.1,this.2.2.2.1⟩
 have h3:=Ajy (((B6 x).map f1).map f2) hg
 rw [m3 _ (by rw [List.length_map,List.length_map];exact bl x)] at h3
 have h4:((((B6 x).map f1).map f2).map f3)=(B6 x).map pc8:=by
  rw [List.map_map,List.map_map]
  apply List.map_congr_left
  intro b hb'
  exact (k4 ⟨b,Ky hb'⟩).2.2.2.2.1
 rw [h4] at h3
 exact h3
theorem AoW (p0 p1 p2 p3 p4 p5 p6 p7:Nat) (h0:p0≤8) (h1:p1≤8) (h2:p2≤8) (h3:p3≤8) (h4:p4≤8) (h5:p5≤8) (h6:p6≤8) (h7:p7≤8) :
  s4 (enc [p0,p1,p2,p3,p4,p5,p6,p7])=(p0+p1)+256 * ((p1+p2)+256 * ((p2+p3)+256 * ((p3+p4)+256 * ((p4+p5)+256 * ((p5+p6)+256 * ((p6+p7)+256 * p7)))))):=by
 simp only [enc,s4]
 omega
theorem AoX (q0 q1 q2 q3 q4 q5 q6 q7:Nat) (h0:q0≤16) (h1:q1≤16) (h2:q2≤16) (h3:q3≤16) (h4:q4≤16) (h5:q5≤16) (h6:q6≤16) (h7:q7≤16) :
  s5 (q0+256 * (q1+256 * (q2+256 * (q3+256 * (q4+256 * (q5+256 * (q6+256 * q7)))))))=(q0+q2)+256 * ((q1+q3)+256 * ((q2+q4)+256 * ((q3+q5)+256 * ((q4+q6)+256 * ((q5+q7)+256 * (q6+256 * q7)))))):=by
 simp only [s5]
 omega
theorem AoY (q0 q1 q2 q3 q4 q5 q6 q7:Nat) (h0:q0≤32) (h1:q1≤32) (h2:q2≤32) (h3:q3≤32) (h4:q4≤32) (h5:q5≤32) (h6:q6≤32) (h7:q7≤32) :
  s6 (q0+256 * (q1+256 * (q2+256 * (q3+256 * (q4+256 * (q5+256 * (q6+256 * q7))))))) % 128=(q0+q4) % 128:=by
 simp only [s6]
 have e:(q0+256 * (q1+256 * (q2+256 * (q3+256 * (q4+256 * (q5+256 * (q6+256 * q7))))))) / 4294967296=q4+256 * (q5+256 * (q6+256 * q7)):=by omega
 omega
theorem AoZ (p0 p1 p2 p3 p4 p5 p6 p7:Nat) (h0:p0≤8) (h1:p1≤8) (h2:p2≤8) (h3:p3≤8) (h4:p4≤8) (h5:p5≤8) (h6:p6≤8) (h7:p7≤8) :
  s6 (s5 (s4 (enc [p0,p1,p2,p3,p4,p5,p6,p7]))) % 128=p0+p1+p2+p3+p4+p5+p6+p7:=by
 rw [AoW _ _ _ _ _ _ _ _ h0 h1 h2 h3 h4 h5 h6 h7,AoX _ _ _ _ _ _ _ _ (by omega) (by omega) (by omega) (by omega) (by omega) (by omega) (by omega) (by omega),
  AoY _ _ _ _ _ _ _ _ (by omega) (by omega) (by omega) (by omega) (by omega) (by omega) (by omega) (by omega)]
 omega
theorem AoL {x:Nat} (h:x < 18446744073709551616):s6 (s5 (s4 (s3 (s2 (s1 x))))) % 128=((B6 x).map pc8).sum:=by
 rw [Akj h]
 have hp:∀ b∈B6 x,pc8 b≤8:=fun b hb'=>(k4 ⟨b,Ky hb'⟩).2.2.2.2.2
 simp only [B6,List.mem_cons,List.not_mem_nil,or_false,forall_eq_or_imp,forall_eq] at hp
 obtain ⟨h0,h1,h2,h3,h4,h5,h6,h7⟩:=hp
 simp only [B6,List.map_cons,List.map_nil,List.sum_cons,List.sum_nil]
 rw [AoZ _ _ _ _ _ _ _ _ h0 h1 h2 h3 h4 h5 h6 h7]
 omega
def cnt (n x:Nat):Nat:=((List.range n).filter fun i=>x.testBit i).length
theorem A8m (n x:Nat):cnt (n+1) x=x % 2+cnt n (x / 2):=by
 unfold cnt
 rw [List.range_succ_eq_map,List.filter_cons]
 have e:((List.map Nat.succ (List.range n)).filter fun i=>x.testBit i).length=((List.range n).filter fun i=>(x / 2).testBit i).length:=by
  rw [List.filter_map,List.length_map]
  congr 1
  apply List.filter_congr
  intro i _
  simp [Nat.testBit_succ]
 have h0:x.testBit 0=decide (x % 2=1):=by simp [Nat.testBit_zero]
 rw [h0]
 by_cases h:x % 2=1
 ·simp only [h,decide_true,if_true,List.length_cons,e]
  omega
 ·simp only [h,decide_false]
  simp only [Bool.false_eq_true,if_false,e]
  omega
theorem YS (x:Nat):cnt 0 x=0:=rfl
theorem YR (n x:Nat):cnt (n+8) x=pc8 (x % 256)+cnt n (x / 256):=by
 have hp:pc8 (x % 256)=cnt 8 (x % 256):=rfl
 rw [hp]
 simp only [A8m,YS]
 have e:x / 2 / 2 / 2 / 2 / 2 / 2 / 2 / 2=x / 256:=by omega
 rw [e]
 omega
theorem Ajs (x:Nat):cnt 64 x=((B6 x).map pc8).sum:=by
 rw [show 64=56+8 from rfl,YR,show 56=48+8 from rfl,YR,show 48=40+8 from rfl,YR,show 40=32+8 from rfl,YR,show 32=24+8 from rfl,YR,show 24=16+8 from rfl,YR,show 16=8+8 from rfl,YR,show 8=0+8 from rfl,YR,YS]
 simp only [B6,List.map_cons,List.map_nil,List.sum_cons,List.sum_nil,Nat.div_div_eq_div_mul]
theorem A78 (w:BitVec 64):s6 (s5 (s4 (s3 (s2 (s1 w.toNat))))) % 128=(C1 w).length:=by
 rw [AoL w.isLt,← Ajs]
 rfl
theorem AoM {x:Nat} (h:x < 18446744073709551616):s1 x < 18446744073709551616∧s2 (s1 x) < 18446744073709551616∧s2 (s1 x) / 16+s2 (s1 x) < 18446744073709551616∧s3 (s2 (s1 x))≤1085102592571150095∧s4 (s3 (s2 (s1 x))) < 18446744073709551616∧s5 (s4 (s3 (s2 (s1 x)))) < 18446744073709551616∧s6 (s5 (s4 (s3 (s2 (s1 x))))) < 9223372036854775808:=by
 have a1:s1 x≤6148914691236517205+6148914691236517205:=Nat.add_le_add Nat.and_le_right Nat.and_le_right
 have a2:s2 (s1 x)≤3689348814741910323+3689348814741910323:=Nat.add_le_add Nat.and_le_right Nat.and_le_right
 have a3:s3 (s2 (s1 x))≤1085102592571150095:=Nat.and_le_right
 refine ⟨by omega,by omega,by omega,a3,?_,?_,?_⟩
 ·simp only [s4];omega
 ·simp only [s4,s5];omega
 ·simp only [s4,s5,s6];omega
abbrev o (d:Nat) (op:Be):Av:=⟨some d,none,op⟩
abbrev ov (op:Be):Av:=⟨none,none,op⟩
abbrev og (d t:Nat) (w:Bool) (op:Be):Av:=⟨some d,some (t,w),op⟩
abbrev ovg (t:Nat) (w:Bool) (op:Be):Av:=⟨none,some (t,w),op⟩
abbrev bs (l:List UInt8):ByteArray:=⟨⟨l⟩⟩
abbrev sp (i:Nat) (x:Av):Ax:=⟨i,x,[]⟩
abbrev sq (i:Nat) (x:Av) (c:List Av):Ax:=⟨i,x,c⟩
section
variable {V:Am} {m:Nat→Nat} {F:A4} {h:VH}
@[congr] theorem AiX {F:A4} {F':Unit→A4} {h:VH} {h':Unit→VH} {c:A1} {Q:Ex→A4→VH→Prop} (hF:∀ u:Unit,F=F' u) (hh:∀ u:Unit,h=h' u):Vc V m c F h Q=Vc V m c (F' ()) (h' ()) Q:=by rw [← hF ()];rw [← hh ()]
@[congr] theorem Aj0 {F:A4} {F':Unit→A4} {h:VH} {h':Unit→VH} {c:List Av} {Q:A4→VH→Prop} (hF:∀ u:Unit,F=F' u) (hh:∀ u:Unit,h=h' u):Vr V m c F h Q=Vr V m c (F' ()) (h' ()) Q:=by rw [← hF ()];rw [← hh ()]
@[congr] theorem Aj1 {F:A4} {F':Unit→A4} {h:VH} {h':Unit→VH} {L:Kn} {c:List Ax} {Q:A4→VH→Prop} (hF:∀ u:Unit,F=F' u) (hh:∀ u:Unit,h=h' u):Vs V m c L F h Q=Vs V m c L (F' ()) (h' ()) Q:=by rw [← hF ()];rw [← hh ()]
@[congr] theorem AiZ {k:Nat} {k':Unit→Nat} {op:Be} {Q:VV→VH→Prop} (hk:∀ u:Unit,k=k' u):Vo V k op F h Q=Vo V (k' ()) op F h Q:=by rw [← hk ()]
@[congr] theorem AiW {g:Nat} {a:List VV} {a':Unit→List VV} {Q:VV→Prop} (ha:∀ u:Unit,a=a' u):VP V g a Q=VP V g (a' ()) Q:=by rw [← ha ()]
@[congr] theorem AhQ {g b:Nat} {b':Unit→Nat} {a:List VV} {a':Unit→List VV} {Q:VV→VH→Prop} (ha:∀ u:Unit,a=a' u) (hb:∀ u:Unit,b=b' u):Yk V g a b Q=Yk V g (a' ()) (b' ()) Q:=by rw [← ha ()];rw [← hb ()]
@[congr] theorem AhR {g:Nat} {a:List VV} {a':Unit→List VV} {h:VH} {h':Unit→VH} {Q:VV→VH→Prop} (ha:∀ u:Unit,a=a' u) (hb:∀ u:Unit,h=h' u):LS V g a h Q=LS V g (a' ()) (h' ()) Q:=by rw [← ha ()];rw [← hb ()]
@[congr] theorem AhS {g:Nat} {a:List VV} {a':Unit→List VV} {h:VH} {h':Unit→VH} {Q:VV→VH→Prop} (ha:∀ u:Unit,a=a' u) (hb:∀ u:Unit,h=h' u):Hj V g a h Q=Hj V g (a' ()) (h' ()) Q:=by rw [← ha ()];rw [← hb ()]
def OK {α:Type} (r:Option α) (Q:α→Prop):Prop:=match r with
 | some x=>Q x
 | none=>False
@[congr] theorem AiQ {α:Type} {r:Option α} {r':Unit→Option α} {Q:α→Prop} (hr:∀ u:Unit,r=r' u):OK r Q=OK (r' ()) Q:=by rw [← hr ()]
@[go_sem] theorem UM {α:Type} {x:α} {Q:α→Prop}:OK (some x) Q↔Q x:=Iff.rfl
@[go_sem] theorem AkW {α:Type} {Q:α→Prop}:OK none Q↔False:=Iff.rfl
def Lf {α β:Type} (r:Option (α×β)) (Q:α→β→Prop):Prop:=match r with
 | some (x,y)=>Q x y
 | none=>False
@[congr] theorem AhN {α β:Type} {r:Option (α×β)} {r':Unit→Option (α×β)} {Q:α→β→Prop} (hr:∀ u:Unit,r=r' u):Lf r Q=Lf (r' ()) Q:=by rw [← hr ()]
@[go_sem] theorem Yt {α β:Type} {x:α} {y:β} {Q:α→β→Prop}:Lf (some (x,y)) Q↔Q x y:=Iff.rfl
@[go_sem] theorem AiP {α β:Type} {Q:α→β→Prop}:Lf none Q↔False:=Iff.rfl
theorem Hp {α β:Type} {r:Option (α×β)} {Q:α→β→Prop}:Lf r Q↔∃ x y,r=some (x,y)∧Q x y:=by
 cases r with
 | none=>simp [Lf]
 | some z =>
  obtain ⟨a,b⟩:=z
  exact ⟨fun q=>⟨a,b,rfl,q⟩,fun ⟨x,y,e,q⟩=>by cases e;exact q⟩
def mk {α:Type} (x:α):α:=x
@[go_sem] theorem Et {α:Type} (x:α):mk x=x:=by
 have h:∀ y:α,mk y=y:=fun y=>rfl
 exact h x
theorem P8 {α:Type} {r:Option α} {Q:α→Prop}:OK r Q↔∃ x,r=some x∧Q x:=by
 cases r<;>simp [OK]
theorem Dc {k:Nat} {op:Be} {Q:VV→VH→Prop} (hc:∀ f args,op≠.call f args):Vo V k op F h Q↔Lf (Dg k op F h) Q:=by
 rw [Aeo hc,Hp]
section
variable {k:Nat} {Q:VV→VH→Prop}
@[go_sem ↓] theorem A3L {x:Ak}:Vo V k (.mov x) F h Q↔Lf (mk (Dg k (.mov x) F h)) Q:=Dc (by intros;simp)
@[go_sem ↓] theorem Al2 {a b c:Ak}:Vo V k (.pick a b c) F h Q↔Lf (mk (Dg k (.pick a b c) F h)) Q:=Dc (by intros;simp)
@[go_sem ↓] theorem AmF {ty n:Nat} {x:Ak}:Vo V k (.box ty n x) F h Q↔Lf (mk (Dg k (.box ty n x) F h)) Q:=Dc (by intros;simp)
@[go_sem ↓] theorem AiY {z:List AV} {ps:List (Nat×Nat×Ak)}:Vo V k (.build z ps) F h Q↔Lf (mk (Dg k (.build z ps) F h)) Q:=Dc (by intros;simp)
@[go_sem ↓] theorem AmG {t e l:Nat} {z:List AV} {ps:List (Nat×Nat×Ak)}:Vo V k (.bsl t e l z ps) F h Q↔Lf (mk (Dg k (.bsl t e l z ps) F h)) Q:=Dc (by intros;simp)
@[go_sem ↓] theorem Apr {n:Option Nat} {a:Ak}:Vo V k (.ld n a) F h Q↔OK (mk (vld h n (A4.ev F a))) fun v=>Q v h:=by
 rw [Dc (by intros;simp),Et]
 simp only [Dg]
 cases vld h n (A4.ev F a)<;>exact Iff.rfl
@[go_sem ↓] theorem Aps {n:Nat} {a x:Ak}:Vo V k (.st n a x) F h Q↔Lf (mk (Dg k (.st n a x) F h)) Q:=Dc (by intros;simp)
@[go_sem ↓] theorem Al1 {x:Ak}:Vo V k (.nilc x) F h Q↔Lf (mk (Dg k (.nilc x) F h)) Q:=Dc (by intros;simp)
@[go_sem ↓] theorem A0O {op:BinOp} {e:Option Qo} {x y:Ak}:Vo V k (.bin op e x y) F h Q↔OK (mk (B5 op e (A4.ev F x) (A4.ev F y))) fun v=>Q v h:=by
 rw [Dc (by intros;simp),Et]
 simp only [Dg]
 cases B5 op e (A4.ev F x) (A4.ev F y)<;>exact Iff.rfl
@[go_sem ↓] theorem AmP {x:Ak}:Vo V k (.not x) F h Q↔Lf (mk (Dg k (.not x) F h)) Q:=Dc (by intros;simp)
@[go_sem ↓] theorem AmO {x:Ak}:Vo V k (.neg x) F h Q↔Lf (mk (Dg k (.neg x) F h)) Q:=Dc (by intros;simp)
@[go_sem ↓] theorem Al0 {i:IntKind} {x:Ak}:Vo V k (.conv i x) F h Q↔Lf (mk (Dg k (.conv i x) F h)) Q:=Dc (by intros;simp)
@[go_sem ↓] theorem AmL {g:Nat} {a c:List Ak}:Vo V k (.mkf g a c) F h Q↔Q (.f g (a.map (A4.ev F)) (c.map (A4.ev F))) h:=by
 rw [Dc (by intros;simp)];exact Iff.rfl
@[go_sem ↓] theorem AmM {t e b:Nat} {z:List AV} {l c:Ak}:Vo V k (.mks t e b z l c) F h Q↔Lf (mk (Dg k (.mks t e b z l c) F h)) Q:=Dc (by intros;simp)
@[go_sem ↓] theorem AmQ {e:Nat} {x:Ak} {lo hi:Option Ak}:Vo V k (.slc e x lo hi) F h Q↔OK (mk (A7w h e (A4.ev F x) (lo.map (A4.ev F)) (hi.map (A4.ev F)))) fun v=>Q v h:=by
 rw [Dc (by intros;simp),Et]
 simp only [Dg]
 cases A7w h e (A4.ev F x) (lo.map (A4.ev F)) (hi.map (A4.ev F))<;>exact Iff.rfl
@[go_sem ↓] theorem Apo {o:Nat} {x:Ak}:Vo V k (.fa o x) F h Q↔Lf (mk (Dg k (.fa o x) F h)) Q:=Dc (by intros;simp)
@[go_sem ↓] theorem App {e:Nat} {x i:Ak}:Vo V k (.ia e x i) F h Q↔Lf (mk (Dg k (.ia e x i) F h)) Q:=Dc (by intros;simp)
@[go_sem ↓] theorem AmJ {l e:Nat} {x i:Ak}:Vo V k (.iaa l e x i) F h Q↔Lf (mk (Dg k (.iaa l e x i) F h)) Q:=Dc (by intros;simp)
@[go_sem ↓] theorem Apq {x i:Ak}:Vo V k (.ix x i) F h Q↔Lf (mk (Dg k (.ix x i) F h)) Q:=Dc (by intros;simp)
@[go_sem ↓] theorem AmI {x:Ak} {i:Nat}:Vo V k (.ext x i) F h Q↔Lf (mk (Dg k (.ext x i) F h)) Q:=Dc (by intros;simp)
@[go_sem ↓] theorem AmK {s:Bool} {x:Ak}:Vo V k (.len s x) F h Q↔Lf (mk (Dg k (.len s x) F h)) Q:=Dc (by intros;simp)
@[go_sem ↓] theorem AmE {t e b:Nat} {x y:Ak}:Vo V k (.app t e b x y) F h Q↔Lf (mk (Ql k h t e b (A4.ev F x) (A4.ev F y))) Q:=by
 rw [Dc (by intros;simp)];exact Iff.rfl
@[go_sem ↓] theorem AmH {e:Nat} {x y:Ak}:Vo V k (.cpy e x y) F h Q↔Lf (mk (Abr h e (A4.ev F x) (A4.ev F y))) Q:=by
 rw [Dc (by intros;simp)];exact Iff.rfl
@[go_sem ↓] theorem AmN {b:Bool} {x y:Ak}:Vo V k (.mnx b x y) F h Q↔Lf (mk (Dg k (.mnx b x y) F h)) Q:=Dc (by intros;simp)
def VF (V:Am) (k:Nat) (f:VV) (args:List VV) (h:VH) (Q:VV→VH→Prop):Prop:=match f with
 | .f g a c=>(match k with
  | 0=>Lf (Gv h (a++args++c)) fun pa ids=>VP V g pa fun r=>Q r (bif scal r then h else Bn ids h)
  | 1=>Lf (Gv h (a++args++c)) fun pa ids=>Yk V g pa h.length fun r os=>Q r (Bn ids h++os)
  | 2=>LS V g (a++args++c) h Q
  | 4=>LS V g (a++args++c) (Bn (KT (a++args++c) h) h) (fun _ _=>True)∧Hj V g (a++args++c) h Q
  | _=>Hj V g (a++args++c) h Q)
 | _=>False
@[congr] theorem AiS {k:Nat} {k':Unit→Nat} {f:VV} {f':Unit→VV} {a:List VV} {a':Unit→List VV} (hk:∀ u:Unit,k=k' u) (hf:∀ u:Unit,f=f' u) (ha:∀ u:Unit,a=a' u):VF V k f a h Q=VF V (k' ()) (f' ()) (a' ()) h Q:=by rw [← hk ()];rw [← hf ()];rw [← ha ()]
theorem Aen {f:VV} {args:List VV} {g:Nat} {a c:List VV} (hf:f = .f g a c) (hv:VF V k f args h Q):VC V k g (a++args++c) h Q∧VC4 V k g (a++args++c) h:=by
 subst hf
 unfold VF at hv
 unfold VC
 rcases k with _ | _ | _ | _ | _ | k
 ·exact ⟨Hp.1 hv,fun h=>by cases h⟩
 ·exact ⟨Hp.1 hv,fun h=>by cases h⟩
 ·exact ⟨hv,fun h=>by cases h⟩
 ·exact ⟨hv,fun h=>by cases h⟩
 ·exact ⟨hv.2,fun _=>hv.1⟩
 ·exact ⟨hv,fun h=>by omega⟩
theorem AiT {f:VV} {args:List VV} {g:Nat} {a c:List VV} (hf:f = .f g a c) (hv:VC V k g (a++args++c) h Q) (h4:VC4 V k g (a++args++c) h):VF V k f args h Q:=by
 subst hf
 unfold VF
 unfold VC at hv
 rcases k with _ | _ | _ | _ | _ | k
 ·exact Hp.2 hv
 ·exact Hp.2 hv
 ·exact hv
 ·exact hv
 ·exact ⟨h4 rfl,hv⟩
 ·exact hv
@[go_sem ↓] theorem AkZ {f:Ak} {args:List Ak}:Vo V k (.call f args) F h Q↔VF V k (mk (A4.ev F f)) (args.map (A4.ev F)) h Q:=by
 rw [Et]
 constructor
 ·intro hv
  cases hf:A4.ev F f with
  | f g a c=>rw [← hf];exact AiT hf (R2 hf hv).1 (R2 hf hv).2
  | _=>obtain ⟨n,v,h',e,_⟩:=hv;simp [Ki,hf] at e
 ·intro hv
  cases hf:A4.ev F f with
  | f g a c=>exact R1 hf (Aen hf hv).1 (Aen hf hv).2
  | _=>rw [hf] at hv;exact hv.elim
@[go_sem] theorem Aqf {g:Nat} {a c args:List VV}:VF V 0 (.f g a c) args h Q↔Lf (mk (Gv h (a++args++c))) fun pa ids=>VP V g (mk pa) fun r=>Q r (bif scal r then h else Bn ids h):=Iff.rfl
@[go_sem] theorem Aqg {g:Nat} {a c args:List VV}:VF V 1 (.f g a c) args h Q↔Lf (mk (Gv h (a++args++c))) fun pa ids=>Yk V g (mk pa) h.length fun r os=>Q r (Bn ids h++os):=Iff.rfl
@[go_sem] theorem Aqh {g:Nat} {a c args:List VV}:VF V 2 (.f g a c) args h Q↔LS V g (mk (a++args++c)) h Q:=Iff.rfl
@[go_sem] theorem Aqj {g:Nat} {a c args:List VV}:VF V 4 (.f g a c) args h Q↔LS V g (mk (a++args++c)) (Bn (KT (mk (a++args++c)) h) h) (fun _ _=>True)∧Hj V g (mk (a++args++c)) h Q:=Iff.rfl
@[go_sem] theorem Aqi {g:Nat} {a c args:List VV}:VF V 3 (.f g a c) args h Q↔Hj V g (mk (a++args++c)) h Q:=Iff.rfl
end
section
variable {R:A4→VH→Prop}
@[go_sem ↓] theorem AbT {d:Option Nat} {op:Be} {r:List Av}:Vr V m (⟨d,none,op⟩::r) F h R↔Vo V (DU m d) op F h fun v h'=>Vr V m r (BJ F d v) h' R:=Lg
@[go_sem ↓] theorem A7P {d:Nat} {op:Be} {r:List Av}:Vr V m (o d op::r) F h R↔Vo V (m d) op F h fun v h'=>Vr V m r (Tm.set F d v) h' R:=Lg
@[go_sem ↓] theorem Apu {op:Be} {r:List Av}:Vr V m (ov op::r) F h R↔Vo V 2 op F h fun v h'=>Vr V m r F h' R:=Lg
def VG (V:Am) (m:Nat→Nat) (v:VV) (w:Bool) (d:Option Nat) (op:Be) (r:List Av) (F:A4) (h:VH) (R:A4→VH→Prop):Prop:=match v with
 | .b x=>(bif x == w then Vo V (DU m d) op F h (fun v h'=>Vr V m r (BJ F d v) h' R) else Vr V m r (BJ F d VV.nul) h R)
 | .tu []=>Vr V m r (BJ F d VV.nul) h R
 | _=>False
@[congr] theorem AiU {v:VV} {v':Unit→VV} {w:Bool} {d:Option Nat} {op:Be} {r:List Av} (hv:∀ u:Unit,v=v' u):VG V m v w d op r F h R=VG V m (v' ()) w d op r F h R:=by rw [← hv ()]
@[go_sem ↓] theorem Yz {d:Option Nat} {t:Nat} {w:Bool} {op:Be} {r:List Av}:Vr V m (⟨d,some (t,w),op⟩::r) F h R↔VG V m (mk (A4.tmp F t)) w d op r F h R:=by
 rw [Et]
 rw [Lg]
 simp only [Cr,VG]
 generalize A4.tmp F t=v
 cases v with
 | b x=>cases x<;>cases w<;>rfl
 | tu vs=>cases vs<;>rfl
 | _=>rfl
@[go_sem ↓] theorem Apt {d:Nat} {t:Nat} {w:Bool} {op:Be} {r:List Av}:Vr V m (og d t w op::r) F h R↔VG V m (mk (A4.tmp F t)) w (some d) op r F h R:=Yz
@[go_sem ↓] theorem AmR {t:Nat} {w:Bool} {op:Be} {r:List Av}:Vr V m (ovg t w op::r) F h R↔VG V m (mk (A4.tmp F t)) w none op r F h R:=Yz
@[go_sem] theorem Apn {d:Option Nat} {op:Be} {r:List Av}:VG V m (.b true) true d op r F h R↔Vo V (DU m d) op F h (fun v h'=>Vr V m r (BJ F d v) h' R):=Iff.rfl
@[go_sem] theorem Apk {d:Option Nat} {op:Be} {r:List Av}:VG V m (.b false) false d op r F h R↔Vo V (DU m d) op F h (fun v h'=>Vr V m r (BJ F d v) h' R):=Iff.rfl
@[go_sem] theorem Apm {d:Option Nat} {op:Be} {r:List Av}:VG V m (.b true) false d op r F h R↔Vr V m r (BJ F d VV.nul) h R:=Iff.rfl
@[go_sem] theorem Apl {d:Option Nat} {op:Be} {r:List Av}:VG V m (.b false) true d op r F h R↔Vr V m r (BJ F d VV.nul) h R:=Iff.rfl
@[go_sem] theorem Amy {w:Bool} {d:Option Nat} {op:Be} {r:List Av}:VG V m VV.nul w d op r F h R↔Vr V m r (BJ F d VV.nul) h R:=Iff.rfl
@[go_sem ↓] theorem Gt {i:Nat} {d:Option Nat} {op:Be} {c:List Av} {r:List Ax} {L:Kn}:Vs V m (⟨i,⟨d,none,op⟩,c⟩::r) L F h R↔Vo V (DU m d) op F h fun v h'=>BV (BJ F d v) h' (Df (DU m d) d op F h L) c∧Vs V m r (Df (DU m d) d op F h L) (BJ F d v) h' R:=Qx
def VGs (V:Am) (m:Nat→Nat) (v:VV) (w:Bool) (d:Option Nat) (op:Be) (c:List Av) (r:List Ax) (L:Kn) (F:A4) (h:VH) (R:A4→VH→Prop):Prop:=match v with
 | .b x=>(bif x == w then Vo V (DU m d) op F h (fun v h'=>BV (BJ F d v) h' (Df (DU m d) d op F h L) c∧Vs V m r (Df (DU m d) d op F h L) (BJ F d v) h' R) else Vs V m r (Hs d L) (BJ F d VV.nul) h R)
 | .tu []=>Vs V m r (Hs d L) (BJ F d VV.nul) h R
 | _=>False
@[congr] theorem AhP {v:VV} {v':Unit→VV} {w:Bool} {d:Option Nat} {op:Be} {c:List Av} {r:List Ax} {L:Kn} (hv:∀ u:Unit,v=v' u):VGs V m v w d op c r L F h R=VGs V m (v' ()) w d op c r L F h R:=by rw [← hv ()]
@[go_sem ↓] theorem Na {i:Nat} {d:Option Nat} {t:Nat} {w:Bool} {op:Be} {c:List Av} {r:List Ax} {L:Kn}:Vs V m (⟨i,⟨d,some (t,w),op⟩,c⟩::r) L F h R↔VGs V m (mk (A4.tmp F t)) w d op c r L F h R:=by
 rw [Qx,Et]
 simp only [Cr,VGs]
 generalize A4.tmp F t=v
 cases v with
 | b x=>cases x<;>cases w<;>rfl
 | tu vs=>cases vs<;>rfl
 | _=>rfl
section
variable {i d t:Nat} {w:Bool} {op:Be} {c:List Av} {r:List Ax} {L:Kn}
@[go_sem ↓] theorem Al3:Vs V m (sp i (o d op)::r) L F h R↔Vo V (m d) op F h fun v h'=>Vs V m r (Df (m d) (some d) op F h L) (Tm.set F d v) h' R:=by
 unfold sp o
 rw [Gt]
 simp only [BV,true_and]
 exact Iff.rfl
@[go_sem ↓] theorem Aj3:Vs V m (sp i (ov op)::r) L F h R↔Vo V 2 op F h fun v h'=>Vs V m r (Df 2 none op F h L) F h' R:=by
 unfold sp ov
 rw [Gt]
 simp only [BV,true_and]
 exact Iff.rfl
@[go_sem ↓] theorem Aj2:Vs V m (sp i (og d t w op)::r) L F h R↔VGs V m (mk (A4.tmp F t)) w (some d) op [] r L F h R:=Na
@[go_sem ↓] theorem AhT:Vs V m (sp i (ovg t w op)::r) L F h R↔VGs V m (mk (A4.tmp F t)) w none op [] r L F h R:=Na
@[go_sem ↓] theorem Al4:Vs V m (sq i (o d op) c::r) L F h R↔Vo V (m d) op F h fun v h'=>BV (Tm.set F d v) h' (Df (m d) (some d) op F h L) c∧Vs V m r (Df (m d) (some d) op F h L) (Tm.set F d v) h' R:=Gt
@[go_sem ↓] theorem Aj5:Vs V m (sq i (ov op) c::r) L F h R↔Vo V 2 op F h fun v h'=>BV F h' (Df 2 none op F h L) c∧Vs V m r (Df 2 none op F h L) F h' R:=Gt
@[go_sem ↓] theorem Aj4:Vs V m (sq i (og d t w op) c::r) L F h R↔VGs V m (mk (A4.tmp F t)) w (some d) op c r L F h R:=Na
@[go_sem ↓] theorem AhU:Vs V m (sq i (ovg t w op) c::r) L F h R↔VGs V m (mk (A4.tmp F t)) w none op c r L F h R:=Na
end
section
variable {d:Option Nat} {op:Be} {c:List Av} {r:List Ax} {L:Kn}
@[go_sem] theorem AmC:VGs V m (.b true) true d op c r L F h R↔Vo V (DU m d) op F h (fun v h'=>BV (BJ F d v) h' (Df (DU m d) d op F h L) c∧Vs V m r (Df (DU m d) d op F h L) (BJ F d v) h' R):=Iff.rfl
@[go_sem] theorem Amz:VGs V m (.b false) false d op c r L F h R↔Vo V (DU m d) op F h (fun v h'=>BV (BJ F d v) h' (Df (DU m d) d op F h L) c∧Vs V m r (Df (DU m d) d op F h L) (BJ F d v) h' R):=Iff.rfl
@[go_sem] theorem AmB:VGs V m (.b true) false d op c r L F h R↔Vs V m r (Hs d L) (BJ F d VV.nul) h R:=Iff.rfl
@[go_sem] theorem AmA:VGs V m (.b false) true d op c r L F h R↔Vs V m r (Hs d L) (BJ F d VV.nul) h R:=Iff.rfl
@[go_sem] theorem AkX {w:Bool}:VGs V m VV.nul w d op c r L F h R↔Vs V m r (Hs d L) (BJ F d VV.nul) h R:=Iff.rfl
end
end
section
variable {Q:Ex→A4→VH→Prop}
@[go_sem ↓] theorem A3K:Vc V m .skip F h Q↔Q .norm F h :=
 ⟨fun ⟨n,e,F',h',k,q⟩=>by
  cases n with
  | zero=>simp [Aq] at k
  | succ n=>simp only [Aq,Option.some.injEq,Prod.mk.injEq] at k;obtain ⟨rfl,rfl,rfl⟩:=k;exact q,fun q=>⟨1,.norm,F,h,rfl,q⟩⟩
@[go_sem ↓] theorem A3J {id:Nat}:Vc V m (.exit id) F h Q↔Q (.exit id) F h :=
 ⟨fun ⟨n,e,F',h',k,q⟩=>by
  cases n with
  | zero=>simp [Aq] at k
  | succ n=>simp only [Aq,Option.some.injEq,Prod.mk.injEq] at k;obtain ⟨rfl,rfl,rfl⟩:=k;exact q,fun q=>⟨1,.exit id,F,h,rfl,q⟩⟩
@[go_sem ↓] theorem AmD:Vc V m .ret F h Q↔Q .ret F h :=
 ⟨fun ⟨n,e,F',h',k,q⟩=>by
  cases n with
  | zero=>simp [Aq] at k
  | succ n=>simp only [Aq,Option.some.injEq,Prod.mk.injEq] at k;obtain ⟨rfl,rfl,rfl⟩:=k;exact q,fun q=>⟨1,.ret,F,h,rfl,q⟩⟩
@[go_sem ↓] theorem US {ops:List Av}:Vc V m (.reg ops) F h Q↔Vr V m ops F h (Q .norm):=by
 constructor
 ·rintro ⟨n,e,F',h',k,q⟩
  cases n with
  | zero=>simp [Aq] at k
  | succ n =>
   simp only [Aq] at k
   split at k
   ·rename_i F1 h1 hr;cases k;exact ⟨n,_,_,hr,q⟩
   ·cases k
 ·rintro ⟨n,F',h',k,q⟩
  exact ⟨n+1,.norm,F',h',by simp only [Aq,k],q⟩
@[go_sem ↓] theorem AkY {ops:List Ax}:Vc V m (.dreg ops) F h Q↔Vs V m ops [] F h (Q .norm):=by
 constructor
 ·rintro ⟨n,e,F',h',k,q⟩
  cases n with
  | zero=>simp [Aq] at k
  | succ n =>
   simp only [Aq] at k
   split at k
   ·rename_i F1 h1 hr;cases k;exact ⟨n,_,_,hr,q⟩
   ·cases k
 ·rintro ⟨n,F',h',k,q⟩
  exact ⟨n+1,.norm,F',h',by simp only [Aq,k],q⟩
attribute [go_sem ↓] R3 A7Q
@[go_sem ↓] theorem Mq {a b:A1}:Vc V m (.seq a b) F h Q↔Vc V m a F h (fun e F' h'=>match e with | .norm=>Vc V m b F' h' Q | e=>Q e F' h'):=by
 constructor
 ·rintro ⟨n,e,F',h',k,q⟩
  cases n with
  | zero=>simp [Aq] at k
  | succ n =>
   simp only [Aq] at k
   split at k
   ·rename_i F1 h1 hr
    exact ⟨n,.norm,F1,h1,hr,n,e,F',h',k,q⟩
   ·rename_i hne
    refine ⟨n,e,F',h',k,?_⟩
    cases e with
    | norm=>exact absurd k (hne _ _)
    | _=>exact q
 ·rintro ⟨n,e,F1,h1,k,q⟩
  cases e with
  | norm =>
   obtain ⟨j,e,F',h',k2,q⟩:=q
   refine ⟨max n j+1,e,F',h',?_,q⟩
   simp only [Aq,Ce (Nat.le_max_left n j) k]
   exact Ce (Nat.le_max_right n j) k2
  | exit id=>exact ⟨n+1,.exit id,F1,h1,by simp only [Aq,k],q⟩
  | ret=>exact ⟨n+1,.ret,F1,h1,by simp only [Aq,k],q⟩
def VCn (V:Am) (m:Nat→Nat) (v:VV) (a b:A1) (F:A4) (h:VH) (Q:Ex→A4→VH→Prop):Prop:=match v with
 | .b true=>Vc V m a F h Q
 | .b false=>Vc V m b F h Q
 | _=>False
@[congr] theorem AhO {v:VV} {v':Unit→VV} {a b:A1} (hv:∀ u:Unit,v=v' u):VCn V m v a b F h Q=VCn V m (v' ()) a b F h Q:=by rw [← hv ()]
@[go_sem ↓] theorem A3I {x:Ak} {a b:A1}:Vc V m (.cond x a b) F h Q↔VCn V m (mk (A4.ev F x)) a b F h Q:=by
 rw [Et]
 constructor
 ·rintro ⟨n,e,F',h',k,q⟩
  cases n with
  | zero=>simp [Aq] at k
  | succ n =>
   simp only [Aq] at k
   split at k
   ·rename_i hv;rw [hv];exact ⟨n,e,F',h',k,q⟩
   ·rename_i hv;rw [hv];exact ⟨n,e,F',h',k,q⟩
   ·cases k
 ·intro k
  unfold VCn at k
  split at k
  ·rename_i hv;obtain ⟨n,e,F',h',k,q⟩:=k;exact ⟨n+1,e,F',h',by simp only [Aq,hv];exact k,q⟩
  ·rename_i hv;obtain ⟨n,e,F',h',k,q⟩:=k;exact ⟨n+1,e,F',h',by simp only [Aq,hv];exact k,q⟩
  ·exact k.elim
@[go_sem] theorem Aem {a b:A1}:VCn V m (.b true) a b F h Q↔Vc V m a F h Q:=Iff.rfl
@[go_sem] theorem Ael {a b:A1}:VCn V m (.b false) a b F h Q↔Vc V m b F h Q:=Iff.rfl
theorem A0 {id:Nat} {c:A1}:Vc V m (.block id c) F h Q↔Vc V m c F h (fun e F' h'=>match e with | .exit id'=>(bif Nat.beq id' id then Q .norm F' h' else Q (.exit id') F' h') | e=>Q e F' h'):=by
 constructor
 ·rintro ⟨n,e,F',h',k,q⟩
  cases n with
  | zero=>simp [Aq] at k
  | succ n =>
   simp only [Aq] at k
   split at k
   ·rename_i id' F1 h1 hr
    refine ⟨n,.exit id',F1,h1,hr,?_⟩
    simp only
    cases hb:Nat.beq id' id with
    | true=>rw [hb] at k;cases k;exact q
    | false=>rw [hb] at k;cases k;exact q
   ·rename_i hne
    refine ⟨n,e,F',h',k,?_⟩
    cases e with
    | exit id'=>exact absurd k (hne _ _ _)
    | _=>exact q
 ·rintro ⟨n,e,F1,h1,k,q⟩
  cases e with
  | norm=>exact ⟨n+1,.norm,F1,h1,by simp only [Aq,k],q⟩
  | ret=>exact ⟨n+1,.ret,F1,h1,by simp only [Aq,k],q⟩
  | exit id' =>
   simp only at q
   cases hb:Nat.beq id' id with
   | true=>rw [hb] at q;exact ⟨n+1,.norm,F1,h1,by simp only [Aq,k,hb,cond_true],q⟩
   | false=>rw [hb] at q;exact ⟨n+1,.exit id',F1,h1,by simp only [Aq,k,hb,cond_false],q⟩
open Classical in
noncomputable def gcF (h h':VH) (F':A4):A4:=if MU h.length h h' then Er h.length F' else F'
open Classical in
noncomputable def gcH (h h':VH):VH:=if MU h.length h h' then h'.take h.length else h'
theorem Qw {c:A1}:Vc V m (.loop c) F h Q↔Vc V m c F h (fun e F' h'=>match e with | .norm=>Vc V m (.loop c) (gcF h h' F') (gcH h h') Q | e=>Q e F' h'):=by
 constructor
 ·rintro ⟨n,e,F',h',k,q⟩
  cases n with
  | zero=>simp [Aq] at k
  | succ n =>
   simp only [Aq] at k
   split at k
   ·rename_i F1 h1 hr
    refine ⟨n,.norm,F1,h1,hr,n,e,F',h',?_,q⟩
    unfold gcF gcH
    split at k
    ·rename_i hc;rw [if_pos hc,if_pos hc];exact k
    ·rename_i hc;rw [if_neg hc,if_neg hc];exact k
   ·rename_i hne
    refine ⟨n,e,F',h',k,?_⟩
    cases e with
    | norm=>exact absurd k (hne _ _)
    | _=>exact q
 ·rintro ⟨n,e,F1,h1,k,q⟩
  cases e with
  | norm =>
   obtain ⟨j,e,F',h',k2,q⟩:=q
   refine ⟨max n j+1,e,F',h',?_,q⟩
   simp only [Aq,Ce (Nat.le_max_left n j) k]
   unfold gcF gcH at k2
   split
   ·rename_i hc;rw [if_pos hc,if_pos hc] at k2;exact Ce (Nat.le_max_right n j) k2
   ·rename_i hc;rw [if_neg hc,if_neg hc] at k2;exact Ce (Nat.le_max_right n j) k2
  | exit id=>exact ⟨n+1,.exit id,F1,h1,by simp only [Aq,k],q⟩
  | ret=>exact ⟨n+1,.ret,F1,h1,by simp only [Aq,k],q⟩
def VL (V:Am) (m:Nat→Nat) (B:Nat) (c:A1) (F:A4) (h:VH) (Q:Ex→A4→VH→Prop):Prop:=Vc V m (.block B (.loop c)) F h Q
@[congr] theorem AiV {B:Nat} {c:A1} {F:A4} {F':Unit→A4} {h:VH} {h':Unit→VH} (hF:∀ u:Unit,F=F' u) (hh:∀ u:Unit,h=h' u):VL V m B c F h Q=VL V m B c (F' ()) (h' ()) Q:=by rw [← hF ()];rw [← hh ()]
@[go_sem ↓] theorem AbS {B:Nat} {c:A1}:Vc V m (.block B (.loop c)) F h Q↔VL V m B c (mk F) h Q:=Iff.rfl
theorem AW {M:Type} (I:M→A4→VH→Prop) (μ:M→Nat) {c:A1}
  (k:∀ x F h,I x F h→Vc V m c F h (fun e F' h'=>match e with | .norm=>MU h.length h h'∧∃ x',μ x' < μ x∧I x' (Er h.length F') (h'.take h.length) | e=>Q e F' h')):∀ x F h,I x F h→Vc V m (.loop c) F h Q:=by
 have key:∀ j x F h,μ x≤j→I x F h→Vc V m (.loop c) F h Q:=by
  intro j
  induction j with
  | zero =>
   intro x F h hj hi
   rw [Qw]
   refine (k x F h hi).mono fun e F' h' hq=>?_
   cases e with
   | norm=>obtain ⟨_,x',h1,_⟩:=hq;omega
   | _=>exact hq
  | succ j ih =>
   intro x F h hj hi
   rw [Qw]
   refine (k x F h hi).mono fun e F' h' hq=>?_
   cases e with
   | norm =>
    obtain ⟨h0,x',h1,h2⟩:=hq
    unfold gcF gcH
    rw [if_pos h0,if_pos h0]
    exact ih x' _ _ (by omega) h2
   | _=>exact hq
 exact fun x F h hi=>key _ x F h (Nat.le_refl _) hi
end
theorem UQ {vf:Gj} {args:List VV} {Q:VV→VH→Prop}:Vb V vf args h Q↔Vc V vf.m vf.af.body (Tm.ofList args) h (fun e F' h'=>(match e with | .exit _=>False | _=>True)∧OK (Cp F' h' vf.af.results) fun vs=>Q (Kj vs) h'):=by
 unfold Vb Vc Hf
 constructor
 ·rintro ⟨n,v,h',k,q⟩
  split at k
  ·rename_i F1 h1 hr
   split at k
   ·rename_i vs hvs;cases k;exact ⟨n,_,_,_,hr,trivial,P8.2 ⟨vs,hvs,q⟩⟩
   ·cases k
  ·rename_i F1 h1 hr
   split at k
   ·rename_i vs hvs;cases k;exact ⟨n,_,_,_,hr,trivial,P8.2 ⟨vs,hvs,q⟩⟩
   ·cases k
  ·cases k
 ·rintro ⟨n,e,F1,h1,k,he,hq⟩
  obtain ⟨vs,hvs,q⟩:=P8.1 hq
  cases e with
  | exit id=>exact he.elim
  | norm=>exact ⟨n,Kj vs,h1,by simp only [k,hvs],q⟩
  | ret=>exact ⟨n,Kj vs,h1,by simp only [k,hvs],q⟩
theorem Ac {g:Nat} {af:A3} {mm:Nat→Nat} (hx:V.ext g=none) (hf:V.fn g=some ⟨af,mm⟩) {args:List VV} {Q:VV→Prop} :
  VP V g args Q↔Vc V mm af.body (Tm.ofList args) [] (fun e F' h'=>(match e with | .exit _=>False | _=>True)∧OK (mk (Cp F' h' af.results)) fun vs=>Lf (mk (frz h' dF (Kj vs))) fun r _=>Q r):=by
 unfold VP
 rw [hx]
 simp only [hf,Option.some.injEq,exists_eq_left',UQ,P8,Hp,Et]
theorem Jw {g:Nat} {af:A3} {mm:Nat→Nat} (hf:V.fn g=some ⟨af,mm⟩) {args:List VV} {b:Nat} {Q:VV→VH→Prop} :
  Yk V g args b Q↔Vc V mm af.body (Tm.ofList args) [] (fun e F' h'=>(match e with | .exit _=>False | _=>True)∧OK (mk (Cp F' h' af.results)) fun vs=>Lf (mk (Bj h' dF b (Kj vs))) fun r T=>(T.moved.Nodup∧∀ id∈T.moved,id∉T.frozen)∧Q r T.objs):=by
 unfold Yk
 simp only [hf,Option.some.injEq,exists_eq_left',UQ,P8,Hp,true_and,Et]
theorem Eu {g:Nat} {af:A3} {mm:Nat→Nat} (hf:V.fnH g=some ⟨af,mm⟩) {args:List VV} {Q:VV→VH→Prop} :
  LS V g args h Q↔Vc V mm af.body (Tm.ofList args) h (fun e F' h'=>(match e with | .exit _=>False | _=>True)∧OK (mk (Cp F' h' af.results)) fun vs=>Q (Kj vs) h'):=by
 unfold LS
 simp only [hf,Option.some.injEq,exists_eq_left',UQ,true_and,Et]
theorem CN {g:Nat} {af:A3} {mm:Nat→Nat} (hf:V.fnH g=some ⟨af,mm⟩) {args:List VV} {Q:VV→VH→Prop} :
  Hj V g args h Q↔Vc V mm af.body (Tm.ofList args) h (fun e F' h'=>(match e with | .exit _=>False | _=>True)∧OK (mk (Cp F' h' af.results)) fun vs=>Lf (mk (frz h' dF (Kj vs))) fun r ids=>MU h.length h (Bn ids h')∧Q r ((Bn ids h').take h.length)):=by
 unfold Hj
 simp only [hf,Option.some.injEq,exists_eq_left',UQ,P8,Hp,true_and,Et]
@[go_sem] theorem Amq (F:A4) (k:Nat) (v:VV):A4.tmp (Tm.set F k v) k=v:=by rw [Jt,if_pos rfl]
@[go_sem] theorem Amr (F:A4) (k:Nat) (v:VV) {j:Nat} (h:(j == k)=false):A4.tmp (Tm.set F k v) j=A4.tmp F j:=by
 rw [Jt,if_neg (by intro e;subst e;simp at h)]
attribute [go_sem] LL Nat.reduceBeqDiff
def Yh (l:List VV) (j:Nat):VV:=match l[j]? with | some v=>v | none=>VV.nul
@[go_sem] theorem AeZ (l:List VV) (j:Nat):A4.tmp (Tm.ofList l) j=Yh l j:=by
 unfold A4.tmp Yh
 rw [Tm.get_ofList]
 cases l[j]?<;>rfl
@[go_sem] theorem AkS (j:Nat):Yh [] j=VV.nul:=by simp [Yh]
@[go_sem] theorem AiK (a:VV) (l:List VV):Yh (a::l) 0=a:=by simp [Yh]
@[go_sem] theorem AiJ (a:VV) (l:List VV) (j:Nat):Yh (a::l) (j+1)=Yh l j:=by simp [Yh]
@[go_sem] theorem AhG (F:A4) (d:Nat) (v:VV):BJ F (some d) v=Tm.set F d v:=rfl
@[go_sem] theorem AhF (F:A4) (v:VV):BJ F none v=F:=rfl
@[go_sem] theorem A0E (F:A4) (n:Nat):A4.ev F (.t n)=A4.tmp F n:=rfl
@[go_sem] theorem AeX (F:A4) (v:AV):A4.ev F (.c v)=KX v:=rfl
@[go_sem] theorem Ai8 (d:Nat):DU m (some d)=m d:=rfl
@[go_sem] theorem Ai7:DU m none=2:=rfl
@[go_sem] theorem AoD (x:Bool):KX (.b x) = .b x:=rfl
@[go_sem] theorem AaF (k:IntKind) (n:Int):KX (.i k n) = .i k n:=rfl
@[go_sem] theorem AoF (x:ByteArray):KX (.s x) = .s x:=rfl
@[go_sem] theorem AlM (w:BitVec 64):KX (Wd w) = .i .u64 (w.toNat:Int):=rfl
@[go_sem] theorem AlQ:KX (.p none) = .np:=rfl
@[go_sem] theorem AlP:KX (.sl none 0) = .nl:=rfl
@[go_sem] theorem AlO:KX .nf = .nf:=rfl
@[go_sem] theorem AoE (g:Nat) (a c:List AV):KX (.f g a c) = .f g (CC a) (CC c):=rfl
@[go_sem] theorem AlN (c:List AV):KX (.ag c) = .ag (CC c):=rfl
@[go_sem] theorem AlR (c:List AV):KX (.tu c) = .tu (CC c):=rfl
@[go_sem] theorem Aik:CC []=[]:=rfl
@[go_sem] theorem Ahh (v:AV) (vs:List AV):CC (v::vs)=KX v::CC vs:=rfl
@[go_sem] theorem AkN (x:Bool):(VV.b x).cells=[.b x]:=rfl
@[go_sem] theorem AkP (k:IntKind) (x:Int):(VV.i k x).cells=[.i k x]:=rfl
@[go_sem] theorem AkR (x:ByteArray):(VV.s x).cells=[.s x]:=rfl
@[go_sem] theorem AiF:VV.nf.cells=[.nf]:=rfl
@[go_sem] theorem AiH:VV.np.cells=[.np]:=rfl
@[go_sem] theorem AiG:VV.nl.cells=[.nl]:=rfl
@[go_sem] theorem AkQ (a b c d:Nat):(VV.p a b c d).cells=[.p a b c d]:=rfl
@[go_sem] theorem AiD (a:List VV) (c:Nat):(VV.fp a c).cells=[.fp a c]:=rfl
@[go_sem] theorem AiI (a b c d:Nat):(VV.sl a b c d).cells=[.sl a b c d]:=rfl
@[go_sem] theorem AiE (r:List (List VV)):(VV.ls r).cells=[.ls r]:=rfl
@[go_sem] theorem AkO (g:Nat) (a c:List VV):(VV.f g a c).cells=[.f g a c]:=rfl
@[go_sem] theorem AiC (l:List VV):(VV.ag l).cells=l:=rfl
@[go_sem] theorem Amc (x:Bool):(VV.b x).cell=true:=rfl
@[go_sem] theorem Ame (k:IntKind) (x:Int):(VV.i k x).cell=true:=rfl
@[go_sem] theorem Amg (x:ByteArray):(VV.s x).cell=true:=rfl
@[go_sem] theorem AkJ:VV.nf.cell=true:=rfl
@[go_sem] theorem AkL:VV.np.cell=true:=rfl
@[go_sem] theorem AkK:VV.nl.cell=true:=rfl
@[go_sem] theorem Amf (a b c d:Nat):(VV.p a b c d).cell=true:=rfl
@[go_sem] theorem AkH (a:List VV) (c:Nat):(VV.fp a c).cell=true:=rfl
@[go_sem] theorem AkM (a b c d:Nat):(VV.sl a b c d).cell=true:=rfl
@[go_sem] theorem AkI (r:List (List VV)):(VV.ls r).cell=true:=rfl
@[go_sem] theorem Amd (g:Nat) (a c:List VV):(VV.f g a c).cell=true:=rfl
@[go_sem] theorem HC (a b:Nat):Nat.beq a b=decide (a=b):=by
 cases e:Nat.beq a b with
 | true=>rw [Nat.eq_of_beq_eq_true e];simp
 | false=>symm;rw [decide_eq_false_iff_not];rintro rfl;rw [Nat.beq_refl] at e;cases e
@[go_sem] theorem QL (a b:Nat):Nat.ble a b=decide (a≤b):=by
 cases e:Nat.ble a b with
 | true=>rw [Nat.ble_eq] at e;simp [e]
 | false=>symm;rw [decide_eq_false_iff_not,← Nat.ble_eq,e];simp
@[go_sem] theorem A5H (a b:Nat):Nat.blt a b=decide (a < b):=QL _ _
def Wq (k:Nat) (v:VV) (h:VH):Option (VV×VH):=match k with
 | 2=>(match AF h.length v.cells with
   | (ws,os)=>(match v with
    | .ag _=>some (.ag ws,h++os)
    | .nl=>(match ws with | [w]=>some (w,h++os) | _=>none)
    | v=>some (v,h)))
 | 5=>(match frz h dF v with
  | some (r,ids)=>some (r,Bn ids h)
  | none=>none)
 | _=>some (v,h)
@[go_sem ↓] theorem A66 {k:Nat} {x:Ak}:Dg k (.mov x) F h=Wq k (A4.ev F x) h:=rfl
@[go_sem] theorem Aam (v:VV):Wq 0 v h=some (v,h):=rfl
@[go_sem] theorem Aos (v:VV):Wq 5 v h=(match frz h 8 v with
  | some (r,ids)=>some (r,Bn ids h)
  | none=>none):=rfl
@[go_sem] theorem Aor (v:VV):Wq 1 v h=some (v,h):=rfl
@[go_sem] theorem AlD:Wq 2 .nl h=some (.sl h.length 0 0 0,h++[some { ty:=0,esz:=0,ver:=0,nl:=true,rows:=[] }]):=rfl
@[go_sem] theorem AlB (cs:List VV):Wq 2 (.ag cs) h=some (.ag (AF h.length cs).1,h++(AF h.length cs).2):=rfl
@[go_sem] theorem AlE (a b c d:Nat):Wq 2 (.sl a b c d) h=some (.sl a b c d,h):=rfl
@[go_sem] theorem AlC (l:List (List VV)):Wq 2 (.ls l) h=some (.ls l,h):=rfl
@[go_sem] theorem Aot (k:IntKind) (n:Int):Wq 2 (.i k n) h=some (.i k n,h):=rfl
def AaT (c a b:VV) (h:VH):Option (VV×VH):=match c with
 | .b t=>some (bif t then a else b,h)
 | _=>none
@[go_sem ↓] theorem AkV {k:Nat} {c a b:Ak}:Dg k (.pick c a b) F h=AaT (A4.ev F c) (A4.ev F a) (A4.ev F b) h:=rfl
@[go_sem] theorem AlU (a b:VV):AaT (.b true) a b h=some (a,h):=rfl
@[go_sem] theorem AlT (a b:VV):AaT (.b false) a b h=some (b,h):=rfl
def Ac9 (k ty n:Nat) (cs:List VV) (h:VH):Option (VV×VH) :=
  bif Nat.beq cs.length n && cs.all VV.cell then
   match k with
   | 0=>(match Gv h cs with
    | some (cs',ids)=>some (.fp cs' 0,Bn ids h)
    | none=>none)
   | 1=>some (.p h.length 0 0 0,h++[some { ty:=ty,esz:=0,ver:=0,nl:=false,rows:=[cs] }])
   | _=>(match AF h.length cs with
    | (ws,os)=>some (.p (h++os).length 0 0 0,h++os++[some { ty:=ty,esz:=0,ver:=0,nl:=false,rows:=[ws] }]))
  else none
@[go_sem ↓] theorem Amh {k ty n:Nat} {x:Ak}:Dg k (.box ty n x) F h=Ac9 k ty n (A4.ev F x).cells h:=rfl
@[go_sem] theorem Anf (ty n:Nat) (cs:List VV):Ac9 0 ty n cs h=bif decide (cs.length=n) && cs.all VV.cell then (match Gv h cs with
        | some (cs',ids)=>some (.fp cs' 0,Bn ids h)
        | none=>none) else none:=by rw [← HC];rfl
@[go_sem] theorem Ang (ty n:Nat) (cs:List VV):Ac9 1 ty n cs h=bif decide (cs.length=n) && cs.all VV.cell then some (.p h.length 0 0 0,h++[some { ty:=ty,esz:=0,ver:=0,nl:=false,rows:=[cs] }]) else none:=by rw [← HC];rfl
@[go_sem] theorem Anh (ty n:Nat) (cs:List VV):Ac9 2 ty n cs h=bif decide (cs.length=n) && cs.all VV.cell then some (.p (h++(AF h.length cs).2).length 0 0 0,h++(AF h.length cs).2++[some { ty:=ty,esz:=0,ver:=0,nl:=false,rows:=[(AF h.length cs).1] }]) else none:=by rw [← HC];rfl
def agV (k:Nat) (r:Option (List VV)) (h:VH):Option (VV×VH):=match r with
 | some cs=>(match k with
  | 2=>(match AF h.length cs with | (ws,os)=>some (.ag ws,h++os))
  | _=>some (.ag cs,h))
 | none=>none
@[go_sem ↓] theorem AiL {k:Nat} {z:List AV} {ps:List (Nat×Nat×Ak)}:Dg k (.build z ps) F h=agV k (En F (CC z) ps) h:=rfl
@[go_sem] theorem Aje (cs:List VV):agV 0 (some cs) h=some (.ag cs,h):=rfl
@[go_sem] theorem Ai2 (cs:List VV):agV 1 (some cs) h=some (.ag cs,h):=rfl
@[go_sem] theorem Ai3 (cs:List VV):agV 2 (some cs) h=some (.ag (AF h.length cs).1,h++(AF h.length cs).2):=rfl
def Afm (k ty esz len:Nat) (r:Option (List VV)) (h:VH):Option (VV×VH):=match r with
  | some cs=>bif Nat.beq cs.length (len * esz) && Nat.blt 0 esz && cs.all VV.cell then
    match k with
    | 0=>(match A2m h (CW esz len cs) with
     | some (rs,ids)=>some (.ls rs,Bn ids h)
     | none=>none)
    | _=>some (.sl h.length 0 0 len,h++[some { ty:=ty,esz:=esz,ver:=0,nl:=false,rows:=CW esz len cs }])
   else none
  | none=>none
@[go_sem ↓] theorem Ami {k ty esz len:Nat} {z:List AV} {ps:List (Nat×Nat×Ak)}:Dg k (.bsl ty esz len z ps) F h=Afm k ty esz len (En F (CC z) ps) h:=rfl
@[go_sem] theorem Ani (ty esz len:Nat) (cs:List VV):Afm 0 ty esz len (some cs) h=bif decide (cs.length=len * esz) && decide (0 < esz) && cs.all VV.cell then (match A2m h (CW esz len cs) with
          | some (rs,ids)=>some (.ls rs,Bn ids h)
          | none=>none) else none:=by rw [← HC,← A5H];rfl
@[go_sem] theorem Anj (ty esz len:Nat) (cs:List VV):Afm 1 ty esz len (some cs) h=bif decide (cs.length=len * esz) && decide (0 < esz) && cs.all VV.cell then some (.sl h.length 0 0 len,h++[some { ty:=ty,esz:=esz,ver:=0,nl:=false,rows:=CW esz len cs }]) else none:=by rw [← HC,← A5H];rfl
def stV (n:Nat) (a:VV) (cs:List VV) (h:VH):Option (VV×VH) :=
  bif Nat.beq cs.length n then (match vst h a cs with | some h'=>some (VV.nul,h') | none=>none) else none
@[go_sem ↓] theorem Apg {k n:Nat} {a x:Ak}:Dg k (.st n a x) F h=stV n (A4.ev F a) (A4.ev F x).cells h:=rfl
def stO (id r c:Nat) (cs:List VV) (h:VH) (o:Option VO):Option (VV×VH):=match o with
 | some o=>(match o.rows[r]? with
   | some row=>bif Nat.ble (c+cs.length) row.length && cs.all VV.cell then some (VV.nul,h.set id (some { o with rows:=o.rows.set r (DY row c cs) })) else none
   | none=>none)
 | none=>none
@[go_sem] theorem Aq0 (n id ver r c:Nat) (cs:List VV):stV n (.p id ver r c) cs h=bif decide (cs.length=n) then stO id r c cs h (C7 h id ver) else none:=by
 rw [← HC]
 unfold stV stO vst
 cases Nat.beq cs.length n with
 | false=>rfl
 | true =>
  simp only [cond_true]
  cases C7 h id ver with
  | none=>rfl
  | some o =>
   simp only
   cases o.rows[r]? with
   | none=>rfl
   | some row =>
    simp only
    cases (Nat.ble (c+cs.length) row.length && cs.all VV.cell)<;>rfl
@[go_sem] theorem Akn (id r c:Nat) (cs:List VV) (o:VO):stO id r c cs h (some o)=(match o.rows[r]? with
      | some row=>bif decide (c+cs.length≤row.length) && cs.all VV.cell then some (VV.nul,h.set id (some { o with rows:=o.rows.set r (DY row c cs) })) else none
      | none=>none):=by
  unfold stO
  simp only [QL]
def A5K (v:VV) (h:VH):Option (VV×VH):=match v with
  | .p id ver r c=>some (.p id ver r c,h)
  | .fp cells c=>some (.fp cells c,h)
  | .f g a c=>some (.f g a c,h)
  | _=>none
@[go_sem ↓] theorem AkU {k:Nat} {x:Ak}:Dg k (.nilc x) F h=A5K (A4.ev F x) h:=rfl
@[go_sem] theorem AlK (id ver r c:Nat):A5K (.p id ver r c) h=some (.p id ver r c,h):=rfl
@[go_sem] theorem Ak9 (l:List VV) (c:Nat):A5K (.fp l c) h=some (.fp l c,h):=rfl
@[go_sem] theorem AlJ (g:Nat) (a c:List VV):A5K (.f g a c) h=some (.f g a c,h):=rfl
def Aka (v:VV) (h:VH):Option (VV×VH):=match v with | .b t=>some (.b (!t),h) | _=>none
@[go_sem ↓] theorem Amp {k:Nat} {x:Ak}:Dg k (.not x) F h=Aka (A4.ev F x) h:=rfl
@[go_sem] theorem AoC (t:Bool):Aka (.b t) h=some (.b (!t),h):=rfl
def Ak6 (v:VV) (h:VH):Option (VV×VH):=match v with | .i k n=>some (.i k (k.wrap (0 - n)),h) | _=>none
@[go_sem ↓] theorem Amo {k:Nat} {x:Ak}:Dg k (.neg x) F h=Ak6 (A4.ev F x) h:=rfl
@[go_sem] theorem AoB (k:IntKind) (n:Int):Ak6 (.i k n) h=some (.i k (k.wrap (0 - n)),h):=rfl
def A8q (k:IntKind) (v:VV) (h:VH):Option (VV×VH):=match v with | .i _ n=>some (.i k (k.wrap n),h) | _=>none
@[go_sem ↓] theorem AkT {k:Nat} {i:IntKind} {x:Ak}:Dg k (.conv i x) F h=A8q i (A4.ev F x) h:=rfl
@[go_sem] theorem Aln (k i:IntKind) (n:Int):A8q k (.i i n) h=some (.i k (k.wrap n),h):=rfl
def Ak3 (m ty esz bytes:Nat) (zero:List AV) (l c:VV) (h:VH):Option (VV×VH):=match l,c with
  | .i .i64 n,.i .i64 k =>
   if 0≤n∧n≤k∧k.toNat * bytes≤A7 then
    bif Nat.beq zero.length esz && Nat.blt 0 esz && (CC zero).all VV.cell then
     match m with
     | 0=>(match Gv [] (CC zero) with
      | some (z,_)=>some (.ls (List.replicate n.toNat z),h)
      | none=>none)
     | _=>some (.sl h.length 0 0 n.toNat,h++[some { ty:=ty,esz:=esz,ver:=0,nl:=false,rows:=List.replicate n.toNat (CC zero) }])
    else none
   else none
  | _,_=>none
@[go_sem ↓] theorem Amm {k ty esz bytes:Nat} {z:List AV} {l c:Ak}:Dg k (.mks ty esz bytes z l c) F h=Ak3 k ty esz bytes z (A4.ev F l) (A4.ev F c) h:=rfl
attribute [go_sem] Ak3
def faV (off:Nat) (v:VV) (h:VH):Option (VV×VH):=match v with
  | .p id ver r c=>some (.p id ver r (c+off),h)
  | .fp cells c=>some (.fp cells (c+off),h)
  | _=>none
@[go_sem ↓] theorem Apd {k off:Nat} {x:Ak}:Dg k (.fa off x) F h=faV off (A4.ev F x) h:=rfl
@[go_sem] theorem ApN (off id ver r c:Nat):faV off (.p id ver r c) h=some (.p id ver r (c+off),h):=rfl
@[go_sem] theorem Ao3 (off:Nat) (l:List VV) (c:Nat):faV off (.fp l c) h=some (.fp l (c+off),h):=rfl
def iaV (esz:Nat) (x i:VV) (h:VH):Option (VV×VH):=match x,i with
  | .ls rows,.i _ n=>if 0≤n then (match rows[n.toNat]? with
   | some row=>bif Nat.beq row.length esz then some (.fp row 0,h) else none
   | none=>none) else none
  | .sl id ver off len,.i _ n=>if 0≤n∧n < len then (match C7 h id ver with
   | some o=>bif Nat.beq o.esz esz && !o.nl then some (.p id ver (off+n.toNat) 0,h) else none
   | none=>none) else none
  | _,_=>none
@[go_sem ↓] theorem Ape {k esz:Nat} {x i:Ak}:Dg k (.ia esz x i) F h=iaV esz (A4.ev F x) (A4.ev F i) h:=rfl
def iaR (esz:Nat) (row:Option (List VV)) (h:VH):Option (VV×VH):=match row with
      | some row=>bif decide (row.length=esz) then some (.fp row 0,h) else none
      | none=>none
@[go_sem] theorem AjP (esz:Nat) (row:List VV):iaR esz (some row) h=bif decide (row.length=esz) then some (.fp row 0,h) else none:=rfl
@[go_sem] theorem Aog (esz:Nat) (rows:List (List VV)) (k:IntKind) (n:Int):iaV esz (.ls rows) (.i k n) h=if 0≤n then iaR esz rows[n.toNat]? h else none:=by
 simp only [iaV,iaR,HC]
@[go_sem] theorem Aoh (esz id ver off len:Nat) (k:IntKind) (n:Int):iaV esz (.sl id ver off len) (.i k n) h=if 0≤n∧n < len then (match C7 h id ver with
      | some o=>bif decide (o.esz=esz) && !o.nl then some (.p id ver (off+n.toNat) 0,h) else none
      | none=>none) else none:=by
  simp only [iaV,HC]
def AfT (len esz:Nat) (x i:VV) (h:VH):Option (VV×VH):=match x,i with
  | .p id ver r c,.i _ n=>if 0≤n∧n < len then some (.p id ver r (c+n.toNat * esz),h) else none
  | .fp cells c,.i _ n=>if 0≤n∧n < len then some (.fp cells (c+n.toNat * esz),h) else none
  | _,_=>none
@[go_sem ↓] theorem Amk {k len esz:Nat} {x i:Ak}:Dg k (.iaa len esz x i) F h=AfT len esz (A4.ev F x) (A4.ev F i) h:=rfl
@[go_sem] theorem Aoi (len esz id ver r c:Nat) (k:IntKind) (n:Int):AfT len esz (.p id ver r c) (.i k n) h=if 0≤n∧n < len then some (.p id ver r (c+n.toNat * esz),h) else none:=rfl
@[go_sem] theorem Alw (len esz:Nat) (l:List VV) (c:Nat) (k:IntKind) (n:Int):AfT len esz (.fp l c) (.i k n) h=if 0≤n∧n < len then some (.fp l (c+n.toNat * esz),h) else none:=rfl
def ixV (x i:VV) (h:VH):Option (VV×VH):=match x,i with
  | .s s,.i _ n=>if 0≤n then (match s.data.toList[n.toNat]? with | some b=>some (.i .u8 b.toNat,h) | none=>none) else none
  | _,_=>none
@[go_sem ↓] theorem Apf {k:Nat} {x i:Ak}:Dg k (.ix x i) F h=ixV (A4.ev F x) (A4.ev F i) h:=rfl
@[go_sem] theorem ApW (s:ByteArray) (k:IntKind) (n:Int):ixV (.s s) (.i k n) h=if 0≤n then (match s.data.toList[n.toNat]? with | some b=>some (.i .u8 b.toNat,h) | none=>none) else none:=rfl
def AjF (v:VV) (i:Nat) (h:VH):Option (VV×VH):=match v with
  | .tu vs=>(match vs[i]? with | some v=>some (v,h) | none=>none)
  | _=>none
@[go_sem ↓] theorem Amj {k i:Nat} {x:Ak}:Dg k (.ext x i) F h=AjF (A4.ev F x) i h:=rfl
@[go_sem] theorem Alq (vs:List VV) (i:Nat):AjF (.tu vs) i h=(match vs[i]? with | some v=>some (v,h) | none=>none):=rfl
def A9U (s:Bool) (v:VV) (h:VH):Option (VV×VH):=match s,v with
  | true,.s s=>some (.i .i64 s.size,h)
  | false,x=>(match N1 x with | some n=>some (.i .i64 n,h) | none=>none)
  | _,_=>none
@[go_sem ↓] theorem Aml {k:Nat} {s:Bool} {x:Ak}:Dg k (.len s x) F h=A9U s (A4.ev F x) h:=by cases s<;>rfl
@[go_sem] theorem Aon (s:ByteArray):A9U true (.s s) h=some (.i .i64 s.size,h):=rfl
@[go_sem] theorem Alx (r:List (List VV)):A9U false (.ls r) h=some (.i .i64 r.length,h):=rfl
@[go_sem] theorem Aly:A9U false .nl h=some (.i .i64 (0:Nat),h):=rfl
@[go_sem] theorem Alz (a b c n:Nat):A9U false (.sl a b c n) h=some (.i .i64 n,h):=rfl
def Ahb (mx:Bool) (x y:VV) (h:VH):Option (VV×VH):=match x,y with
  | .i k a,.i k' c=>if k=k' then some (.i k (Wp mx a c),h) else none
  | _,_=>none
@[go_sem ↓] theorem Amn {k:Nat} {mx:Bool} {x y:Ak}:Dg k (.mnx mx x y) F h=Ahb mx (A4.ev F x) (A4.ev F y) h:=rfl
@[go_sem] theorem Aoq (mx:Bool) (k:IntKind) (a c:Int):Ahb mx (.i k a) (.i k c) h=some (.i k (Wp mx a c),h):=by simp only [Ahb,if_true]
def ldR (n:Option Nat) (c:Nat) (row:List VV):Option VV:=match n with
  | none=>row[c]?
  | some n=>bif decide (c+n≤row.length) then some (.ag ((row.drop c).take n)) else none
@[go_sem] theorem Ak0 (c:Nat) (row:List VV):ldR none c row=row[c]?:=rfl
@[go_sem] theorem Ak1 (n c:Nat) (row:List VV):ldR (some n) c row=bif decide (c+n≤row.length) then some (.ag ((row.drop c).take n)) else none:=rfl
@[go_sem] theorem Apc (n:Option Nat) (cells:List VV) (c:Nat):vld h n (.fp cells c)=ldR n c cells:=by
 cases n with
 | none=>rfl
 | some n=>simp only [vld,A3C,ldR,QL]
def ldO (n:Option Nat) (r c:Nat) (o:Option VO):Option VV:=match o with
 | some o=>(match o.rows[r]? with
  | some row=>ldR n c row
  | none=>none)
 | none=>none
@[go_sem] theorem Aqa (n:Option Nat) (id ver r c:Nat):vld h n (.p id ver r c)=ldO n r c (C7 h id ver):=by
 unfold vld A3C ldO
 simp only
 cases C7 h id ver with
 | none=>rfl
 | some o =>
  simp only
  cases o.rows[r]? with
  | none=>rfl
  | some row =>
   simp only
   cases n with
   | none=>rfl
   | some n=>simp only [ldR,QL]
@[go_sem] theorem AjZ (n:Option Nat) (r c:Nat) (o:VO):ldO n r c (some o)=(match o.rows[r]? with
  | some row=>ldR n c row
  | none=>none):=rfl
attribute [go_sem] En DY C7 N1 AF CW Cp Kj
attribute [go_sem] Nat.reduceEqDiff Nat.reduceLeDiff Nat.reduceLT Nat.reduceAdd Nat.reduceMul Nat.reduceSub Nat.lt_irrefl
attribute [go_sem] List.getElem?_cons_zero List.getElem?_cons_succ List.getElem?_nil List.set_cons_zero List.set_cons_succ List.getElem?_map List.length_map List.length_append List.flatten_cons
@[go_sem] theorem AjI (h:VH) (vs:List VV):Gv h vs=B4 (frz h 8) vs:=rfl
@[go_sem] theorem AjJ (h:VH) (vs:List (List VV)):A2m h vs=B4 (fun row=>B4 (frz h 8) row) vs:=rfl
attribute [go_sem] B4
section
variable {d:Nat}
@[go_sem] theorem ApP (x:Bool):frz h (d+1) (.b x)=some (.b x,[]):=rfl
@[go_sem] theorem ApR (k:IntKind) (x:Int):frz h (d+1) (.i k x)=some (.i k x,[]):=rfl
@[go_sem] theorem ApT (x:ByteArray):frz h (d+1) (.s x)=some (.s x,[]):=rfl
@[go_sem] theorem Ao9:frz h (d+1) .nf=some (.nf,[]):=rfl
@[go_sem] theorem Aob:frz h (d+1) .np=some (.np,[]):=rfl
@[go_sem] theorem Aoa:frz h (d+1) .nl=some (.ls [],[]):=rfl
@[go_sem] theorem Ao8 (r:List (List VV)):frz h (d+1) (.ls r)=some (.ls r,[]):=rfl
@[go_sem] theorem Ao7 (r:List VV) (c:Nat):frz h (d+1) (.fp r c)=some (.fp r c,[]):=rfl
@[go_sem] theorem ApS (id ver r c:Nat):frz h (d+1) (.p id ver r c)=(match C7 h id ver with
      | some o=>(match o.rows[r]? with
        | some row=>(match B4 (frz h d) row with
          | some (cs,ids)=>some (.fp cs c,id::ids)
          | none=>none)
        | none=>none)
      | none=>none):=rfl
@[go_sem] theorem Aoc (id ver off n:Nat):frz h (d+1) (.sl id ver off n)=(match C7 h id ver with
      | some o=>bif Nat.ble (off+n) o.rows.length && (Nat.blt 0 o.esz || o.nl) then
          (match B4 (fun row=>B4 (frz h d) row) ((o.rows.drop off).take n) with
          | some (rs,ids)=>some (.ls rs,id::ids)
          | none=>none) else none
      | none=>none):=rfl
@[go_sem] theorem ApQ (g:Nat) (a c:List VV):frz h (d+1) (.f g a c)=(match B4 (frz h d) a,B4 (frz h d) c with
      | some (a',i1),some (c',i2)=>some (.f g a' c',i1++i2)
      | _,_=>none):=rfl
@[go_sem] theorem Ao6 (cs:List VV):frz h (d+1) (.ag cs)=(match B4 (frz h d) cs with
      | some (cs',is)=>some (.ag cs',is)
      | none=>none):=rfl
@[go_sem] theorem Aod (cs:List VV):frz h (d+1) (.tu cs)=(match B4 (frz h d) cs with
      | some (cs',is)=>some (.tu cs',is)
      | none=>none):=rfl
end
@[go_sem] theorem Qa {α β:Type} {f:α→β} {g:β→Option (β×List Nat)} {l:List α} (hg:∀ x,g (f x)=some (f x,[])):B4 g (l.map f)=some (l.map f,[]):=by
 induction l with
 | nil=>rfl
 | cons x xs ih=>simp only [List.map_cons,B4,hg,ih,List.nil_append]
@[go_sem] theorem Ak2 {β:Type} {z:β} {g:β→Option (β×List Nat)} {n:Nat} (hg:g z=some (z,[])):B4 g (List.replicate n z)=some (List.replicate n z,[]):=by
 induction n with
 | zero=>rfl
 | succ n ih=>simp only [List.replicate_succ,B4,hg,ih,List.nil_append]
@[go_sem] theorem AjT (h:VH):Bn [] h=h:=rfl
@[go_sem] theorem Aid (i:Nat) (l:List Nat) (h:VH):Bn (i::l) h=Bn l (h.set i none):=rfl
@[go_sem] theorem AoN (x:Bool):scal (.b x)=true:=rfl
@[go_sem] theorem AoP (k:IntKind) (x:Int):scal (.i k x)=true:=rfl
@[go_sem] theorem AoQ (x:ByteArray):scal (.s x)=true:=rfl
@[go_sem] theorem AlY:scal .nf=true:=rfl
@[go_sem] theorem AlZ:scal .np=true:=rfl
@[go_sem] theorem AlX (r:List (List VV)):scal (.ls r)=false:=rfl
@[go_sem] theorem AlW (r:List VV) (c:Nat):scal (.fp r c)=false:=rfl
@[go_sem] theorem AlV (r:List VV):scal (.ag r)=false:=rfl
@[go_sem] theorem AoO (g:Nat) (a c:List VV):scal (.f g a c)=false:=rfl
@[go_sem] theorem Am0 (r:List VV):scal (.tu r)=NS r:=rfl
@[go_sem] theorem Aiq:NS []=true:=rfl
@[go_sem] theorem Ahr (v:VV) (r:List VV):NS (v::r)=(scal v && NS r):=rfl
@[go_sem] theorem Ai6 {α:Type} (b:Bool) (x:α):(bif b then x else x)=x:=by cases b<;>rfl
@[go_sem] theorem A3c {α:Type} {f:α→List VV} {e:Nat} {l:List α} (hf:∀ x,(f x).length=e):Dr e (l.map f)=true:=by
 unfold Dr
 rw [List.all_eq_true]
 intro r hr
 obtain ⟨x,_,rfl⟩:=List.mem_map.1 hr
 rw [hf];exact Nat.beq_refl e
@[go_sem] theorem Ahi {e:Nat}:Dr e []=true:=rfl
@[go_sem] theorem AeO {e:Nat} (r:List VV) (rs:List (List VV)):Dr e (r::rs)=(Nat.beq r.length e && Dr e rs):=rfl
@[go_sem] theorem Ahj {e n:Nat} {z:List VV} (hz:z.length=e):Dr e (List.replicate n z)=true:=by
 unfold Dr
 rw [List.all_eq_true]
 intro r hr
 rw [List.eq_of_mem_replicate hr,hz];exact Nat.beq_refl e
attribute [go_sem] Kl A7w SU
@[go_sem] theorem Aif {α β:Type} (f:α→β) (n:Nat) (l:List α):(l.map f).drop n=(l.drop n).map f:=(List.map_drop ..).symm
@[go_sem] theorem Aig {α β:Type} (f:α→β) (n:Nat) (l:List α):(l.map f).take n=(l.take n).map f:=(List.map_take ..).symm
@[go_sem] theorem Ait {α:Type} (l:List α):l.take l.length=l:=List.take_length
attribute [go_sem] List.drop_zero List.length_cons List.length_nil List.all_cons List.all_nil List.take_succ_cons List.take_zero List.drop_succ_cons List.take_nil List.drop_nil Nat.zero_add Nat.add_zero Nat.le_refl Nat.sub_zero Nat.zero_le List.length_replicate List.length_take List.length_drop
@[go_sem] theorem AdS (L:Nat) (h:VH):MU L [] h=True:=by cases h<;>rfl
def okB (L:Nat) (o':Option VO):Bool:=match o' with | none=>true | some x=>x.rows.all (CT L)
@[go_sem] theorem Akd (L:Nat):okB L none=true:=rfl
@[go_sem] theorem Ake (L:Nat) (x:VO):okB L (some x)=x.rows.all (CT L):=rfl
@[go_sem] theorem Hr {α:Type} {f:α→List VV} {L:Nat} {l:List α} (hf:∀ x,CT L (f x)=true):(l.map f).all (CT L)=true:=by
 rw [List.all_eq_true]
 intro r hr
 obtain ⟨x,_,rfl⟩:=List.mem_map.1 hr
 exact hf x
@[go_sem] theorem Aer {L n:Nat} {z:List VV} (hf:CT L z=true):(List.replicate n z).all (CT L)=true:=by
 rw [List.all_eq_true]
 intro r hr
 rw [List.eq_of_mem_replicate hr];exact hf
@[go_sem] theorem A05 (L:Nat) (o o':Option VO) (h h':VH):MU L (o::h) (o'::h')=((o=o'∨okB L o' = true)∧MU L h h'):=by
 show ((o=o'∨∀ x,o' = some x→x.rows.all (CT L)=true)∧MU L h h')=_
 congr 2
 apply propext
 cases o' with
 | none=>simp [okB]
 | some x=>simp [okB]
def Fz (a:List VV):Prop:=∀ h d,B4 (frz h (d+3)) a=some (a,[])
theorem ZI {α:Type} {f:α→Option (α×List Nat)}:∀ {a b:List α},B4 f a=some (a,[])→B4 f b=some (b,[])→B4 f (a++b)=some (a++b,[]):=by
 intro a
 induction a with
 | nil=>intro b _ h;exact h
 | cons x xs ih =>
  intro b h1 h2
  simp only [B4] at h1
  split at h1
  ·rename_i y i ys is e1 e2
   simp only [Option.some.injEq,Prod.mk.injEq,List.cons.injEq,List.append_eq_nil_iff] at h1
   obtain ⟨⟨rfl,rfl⟩,rfl,rfl⟩:=h1
   simp only [List.cons_append,B4,e1,ih e2 h2,List.nil_append]
  ·cases h1
theorem Fz.call {a c x:List VV} (ha:Fz a) (hc:Fz c) {h:VH} (hx:B4 (frz h 8) x=some (x,[])):B4 (frz h 8) (a++x++c)=some (a++x++c,[]):=ZI (ZI (ha h 5) hx) (hc h 5)
theorem KS {L:Nat} {h:VH} {d:Nat}:∀ {a:List VV},B4 (frz h d) a=some (a,[])→(∀ v,frz h d v=some (v,[])→bel L v=true)→CT L a=true:=by
 intro a
 induction a with
 | nil=>intro _ _;rfl
 | cons x xs ih =>
  intro h1 h2
  simp only [B4] at h1
  split at h1
  ·rename_i y i ys is e1 e2
   simp only [Option.some.injEq,Prod.mk.injEq,List.cons.injEq,List.append_eq_nil_iff] at h1
   obtain ⟨⟨rfl,rfl⟩,rfl,rfl⟩:=h1
   simp only [CT,h2 _ e1,ih e2 h2,Bool.and_self]
  ·cases h1
theorem Acy {L:Nat} {h:VH}:∀ {d:Nat} {v:VV},frz h d v=some (v,[])→bel L v=true:=by
 intro d
 induction d with
 | zero=>intro v e;simp [frz] at e
 | succ d ih =>
  intro v e
  cases v with
  | p id ver r c =>
   simp only [frz] at e
   split at e
   ·split at e
    ·split at e<;>cases e
    ·cases e
   ·cases e
  | sl id ver off n =>
   simp only [frz] at e
   split at e
   ·rename_i o ho
    cases hb:(Nat.ble (off+n) o.rows.length && (Nat.blt 0 o.esz || o.nl)) with
    | false=>rw [hb] at e;cases e
    | true=>rw [hb] at e;simp only [cond_true] at e;split at e<;>cases e
   ·cases e
  | f g a c =>
   simp only [frz] at e
   split at e
   ·rename_i a' i1 c' i2 h1 h2
    simp only [Option.some.injEq,Prod.mk.injEq,VV.f.injEq,true_and,List.append_eq_nil_iff] at e
    obtain ⟨⟨rfl,rfl⟩,rfl,rfl⟩:=e
    simp only [bel,KS h1 (fun v=>ih),KS h2 (fun v=>ih),Bool.and_self]
   ·cases e
  | ag cs =>
   simp only [frz] at e
   split at e
   ·rename_i cs' is h1
    simp only [Option.some.injEq,Prod.mk.injEq,VV.ag.injEq] at e
    obtain ⟨rfl,rfl⟩:=e
    simp only [bel,KS h1 (fun v=>ih)]
   ·cases e
  | tu cs =>
   simp only [frz] at e
   split at e
   ·rename_i cs' is h1
    simp only [Option.some.injEq,Prod.mk.injEq,VV.tu.injEq] at e
    obtain ⟨rfl,rfl⟩:=e
    simp only [bel,KS h1 (fun v=>ih)]
   ·cases e
  | _=>rfl
theorem Fz.bel {L:Nat} {a:List VV} (ha:Fz a):CT L a=true:=KS (ha [] 0) fun v=>Acy
theorem Fz.nil:Fz []:=fun _ _=>rfl
@[go_sem] theorem Fz.eq {a:List VV} (ha:Fz a) {h:VH} {d:Nat}:B4 (frz h (d+3)) a=some (a,[]):=ha h d
@[go_sem] theorem A06 (L:Nat) (h g:VH):MU L h (h++g)=True:=by
 induction h with
 | nil=>simp only [AdS]
 | cons o h ih=>simp only [List.cons_append,A05,ih,true_or,true_and]
@[go_sem] theorem Akg (L:Nat) (h:VH):MU L h h=True:=by
 have:=A06 L h []
 rwa [List.append_nil] at this
@[go_sem] theorem ApH (L:Nat) (x:Bool):Ni L (.b x) = .b x:=rfl
@[go_sem] theorem Aes (L:Nat) (k:IntKind) (x:Int):Ni L (.i k x) = .i k x:=rfl
@[go_sem] theorem ApJ (L:Nat) (x:ByteArray):Ni L (.s x) = .s x:=rfl
@[go_sem] theorem Ant (L:Nat):Ni L .nf = .nf:=rfl
@[go_sem] theorem Anv (L:Nat):Ni L .np = .np:=rfl
@[go_sem] theorem Anu (L:Nat):Ni L .nl = .nl:=rfl
@[go_sem] theorem Anr (L:Nat) (r:List (List VV)):Ni L (.ls r) = .ls r:=rfl
@[go_sem] theorem Anq (L:Nat) (r:List VV) (c:Nat):Ni L (.fp r c) = .fp r c:=rfl
@[go_sem] theorem Ajr (L:Nat):Ni L VV.nul=VV.nul:=A3R L
@[go_sem] theorem ApI (L id ver r c:Nat):Ni L (.p id ver r c)=(bif Nat.blt id L then .p id ver r c else .un):=rfl
@[go_sem] theorem Anw (L id ver r c:Nat):Ni L (.sl id ver r c)=(bif Nat.blt id L then .sl id ver r c else .un):=rfl
@[go_sem] theorem Anp (L:Nat) (l:List VV):Ni L (.ag l)=(bif CT L l then .ag l else .un):=rfl
@[go_sem] theorem A8k (L g:Nat) (a c:List VV):Ni L (.f g a c)=(bif CT L a && CT L c then .f g a c else .un):=rfl
attribute [go_sem] bel CT
section
variable {e:Option Qo} {k:IntKind} {a c:Int}
@[go_sem] theorem A0C:B5 .add e (.i k a) (.i k c)=some (.i k (k.wrap (a+c))):=by simp [B5,B9,Gb,Gx]
@[go_sem] theorem AkG:B5 .sub e (.i k a) (.i k c)=some (.i k (k.wrap (a - c))):=by simp [B5,B9,Gb,Gx]
@[go_sem] theorem AkC:B5 .mul e (.i k a) (.i k c)=some (.i k (k.wrap (a * c))):=by simp [B5,B9,Gb,Gx]
theorem Abp (h:c≠0):B5 .quo e (.i k a) (.i k c)=some (.i k (k.wrap (a.tdiv c))):=by simp [B5,B9,Gb,h,Gx]
theorem G6 (h:c≠0):B5 .rem e (.i k a) (.i k c)=some (.i k (a.tmod c)):=by simp [B5,B9,Gb,h,Gx]
@[go_sem] theorem Akw:B5 .eql e (.i k a) (.i k c)=some (.b (decide (a=c))):=by simp only [B5,YH,Option.bind_some,Gx]
@[go_sem] theorem AkD:B5 .neq e (.i k a) (.i k c)=some (.b (!decide (a=c))):=by simp only [B5,YI,Option.bind_some,Gx]
@[go_sem] theorem Abo:B5 .lss e (.i k a) (.i k c)=some (.b (decide (a < c))):=by simp only [B5,A87,Option.bind_some,Gx]
@[go_sem] theorem AkB:B5 .leq e (.i k a) (.i k c)=some (.b (decide (a≤c))):=by simp only [B5,A86,Option.bind_some,Gx]
@[go_sem] theorem AkA:B5 .gtr e (.i k a) (.i k c)=some (.b (decide (c < a))):=by simp only [B5,A85,Option.bind_some,Gx]
@[go_sem] theorem Akz:B5 .geq e (.i k a) (.i k c)=some (.b (decide (c≤a))):=by simp only [B5,A84,Option.bind_some,Gx]
@[go_sem] theorem Aiy (x y:Bool):B5 .eql (some .b) (.b x) (.b y)=some (.b (x == y)):=rfl
@[go_sem] theorem AiA (x y:Bool):B5 .neq (some .b) (.b x) (.b y)=some (.b (!(x == y))):=rfl
@[go_sem] theorem Aiz (x y:ByteArray):B5 .eql e (.s x) (.s y)=some (.b (decide (x=y))):=by simp only [B5,A6q,Option.bind_some,Gx]
@[go_sem] theorem AiB (x y:ByteArray):B5 .neq e (.s x) (.s y)=some (.b (!decide (x=y))):=by simp only [B5,A6r,Option.bind_some,Gx]
@[go_sem] theorem AkE:B5 .eql (some .p) .np .np=some (.b true):=rfl
@[go_sem] theorem AkF:B5 .neq (some .p) .np .np=some (.b false):=rfl
@[go_sem] theorem Ama (i v r c:Nat):B5 .eql (some .p) (.p i v r c) .np=some (.b false):=rfl
@[go_sem] theorem Amb (i v r c:Nat):B5 .neq (some .p) (.p i v r c) .np=some (.b true):=rfl
@[go_sem] theorem Akx (l:List VV) (c:Nat):B5 .eql (some .p) (.fp l c) .np=some (.b false):=rfl
@[go_sem] theorem Aky (l:List VV) (c:Nat):B5 .neq (some .p) (.fp l c) .np=some (.b true):=rfl
@[go_sem] theorem Am9:B5 .eql (some .s) .nl .nl=some (.b true):=rfl
def vW (w:BitVec 64):VV:=.i .u64 (w.toNat:Int)
variable {x y:BitVec 64}
@[go_sem] theorem Ap7:VV.i .u64 (x.toNat:Int)=vW x:=rfl
@[go_sem] theorem AqS:VV.i .u64 0=vW 0#64:=rfl
@[go_sem] theorem AqT:VV.i .u64 1=vW 1#64:=rfl
theorem ST {op:BinOp} {w:BitVec 64} (hb:B9 op e (Wd x) (Wd y)=some (Wd w)):B5 op e (vW x) (vW y)=some (vW w):=by
 show (B9 op e (Wd x) (Wd y)).bind Gx=_
 rw [hb];rfl
theorem A65 {op:BinOp} {w:Bool} (hb:B9 op e (Wd x) (Wd y)=some (.b w)):B5 op e (vW x) (vW y)=some (.b w):=by
 show (B9 op e (Wd x) (Wd y)).bind Gx=_
 rw [hb];rfl
@[go_sem] theorem Ap5:B5 .and e (vW x) (vW y)=some (vW (x &&& y)):=ST YJ
@[go_sem] theorem Aq9:B5 .or e (vW x) (vW y)=some (vW (x ||| y)):=ST Ac7
@[go_sem] theorem Aiw:B5 .andNot e (vW x) (vW y)=some (vW (x &&& ~~~y)):=ST YK
@[go_sem] theorem Apb:B5 .sub e (vW x) (vW y)=some (vW (x - y)):=ST A8e
@[go_sem] theorem Ap4:B5 .add e (vW x) (vW y)=some (vW (x+y)):=ST A89
@[go_sem] theorem Ap8:B5 .eql e (vW x) (vW y)=some (.b (decide (x=y))):=A65 A8a
@[go_sem] theorem Apa:B5 .neq e (vW x) (vW y)=some (.b (!decide (x=y))):=A65 A8b
theorem Ahy {n:Nat} (h:n < 64):B5 .shl e (vW x) (.i .i64 n)=some (vW (x <<< n)):=by
 show (B9 .shl e (Wd x) (.i .i64 n)).bind Gx=_
 rw [A8c h];rfl
@[go_sem] theorem Am3:(vW x).cell=true:=rfl
@[go_sem] theorem Akv:(vW x).cells=[vW x]:=rfl
@[go_sem] theorem Ap9 {d:Nat}:frz h (d+1) (vW x)=some (vW x,[]):=rfl
@[go_sem] theorem Am4:scal (vW x)=true:=rfl
@[go_sem] theorem Ap6 {L:Nat}:bel L (vW x)=true:=rfl
@[go_sem] theorem Aq8 {L:Nat}:Ni L (vW x)=vW x:=rfl
end
def A3z:List VV→Option VV
 | [.i .u64 n]=>if 0≤n∧n < 18446744073709551616 then some (.i .i64 (Lib.ctz 64 n.toNat:Nat)) else none
 | _=>none
def Yn (F:A4) (h:VH) (d:Nat) (n:Option Nat) (a:Nat):Prop:=CG (A4.tmp F d)=true∧vld h n (A4.tmp F a)=some (A4.tmp F d)
def A6t (v:VV) (w:Bool) (P:Prop):Prop:=match v with
 | .b x=>(bif x == w then P else True)
 | .tu []=>True
 | _=>False
@[go_sem] theorem Alm {P:Prop}:A6t (.b true) true P↔P:=Iff.rfl
@[go_sem] theorem Ali {P:Prop}:A6t (.b false) false P↔P:=Iff.rfl
@[go_sem] theorem Alk {P:Prop}:A6t (.b true) false P↔True:=Iff.rfl
@[go_sem] theorem Alj {P:Prop}:A6t (.b false) true P↔True:=Iff.rfl
@[go_sem] theorem Ajq {w:Bool} {P:Prop}:A6t VV.nul w P↔True:=Iff.rfl
@[go_sem ↓] theorem Aef {L:Kn}:BV F h L []↔True:=Iff.rfl
@[go_sem ↓] theorem AhH {L:Kn} {d a:Nat} {n:Option Nat} {r:List Av}:BV F h L (o d (.ld n (.t a))::r)↔((d,n,a)∈L∨Yn F h d n a)∧BV F h L r:=Iff.rfl
@[go_sem ↓] theorem AeY {L:Kn} {d t a:Nat} {w:Bool} {n:Option Nat} {r:List Av}:BV F h L (og d t w (.ld n (.t a))::r)↔A6t (A4.tmp F t) w ((d,n,a)∈L∨Yn F h d n a)∧BV F h L r:=by
 show (match Cr F (some (t,w)) with | some false=>True | some true=>_ | none=>False)∧_↔_
 refine and_congr ?_ Iff.rfl
 simp only [Cr]
 generalize A4.tmp F t=v
 cases v with
 | b x=>cases x<;>cases w<;>exact Iff.rfl
 | tu vs=>cases vs<;>exact Iff.rfl
 | _=>exact Iff.rfl
attribute [go_sem] PQ N3 Df Aff Hs Zr Cr List.filter_cons List.filter_nil List.mem_cons List.not_mem_nil
attribute [go_sem] decide_true decide_false Bool.not_true Bool.not_false Bool.and_true Bool.true_and Bool.and_false Bool.false_and Bool.or_true Bool.true_or Bool.or_false Bool.false_or cond_true cond_false not_true_eq_false not_false_eq_true if_true if_false false_and and_false exists_false imp_false
attribute [go_sem] or_false false_or or_self ite_true ite_false
attribute [go_sem] VV.b.injEq VV.i.injEq VV.s.injEq VV.ls.injEq VV.sl.injEq VV.p.injEq VV.fp.injEq VV.f.injEq VV.ag.injEq VV.tu.injEq Option.some.injEq Prod.mk.injEq true_and and_true and_self true_or or_true
 List.map_cons List.map_nil List.append_nil List.nil_append List.cons_append Option.map_some Option.map_none decide_eq_true_eq decide_eq_false_iff_not forall_const Bool.not_eq_true Bool.not_eq_false reduceCtorEq false_implies implies_true
 Int.toNat_natCast Int.natCast_nonneg Int.ofNat_lt Int.ofNat_le
end
section
variable {V:Am} {m:Nat→Nat}
theorem Gp {k:Nat} (h:k < 9223372036854775807):IntKind.i64.wrap ((k:Int)+1)=((k+1:Nat):Int):=by rw [AC (by omega) (by omega)];omega
theorem Ae {i n c d B C:Nat} {body:A1} (hne:c≠i∧c≠n∧d≠n∧i≠n∧m i=0) (N:Nat) (hN:N < 9223372036854775807) (I:Nat→A4→VH→Prop) {Q:Ex→A4→VH→Prop}
  (step:∀ k F h,k < N→A4.tmp F i = .i .i64 k→A4.tmp F n = .i .i64 N→I k F h →
   Vc V m body (Tm.set F c (.b true)) h (fun e F' h'=>match e with
    | .norm=>A4.tmp F' i = .i .i64 k∧A4.tmp F' n = .i .i64 N∧MU h.length h h'∧∀ v,I (k+1) (Er h.length (Tm.set (Tm.set F' d v) i v)) (h'.take h.length)
    | .exit x=>(bif Nat.beq x C then A4.tmp F' i = .i .i64 k∧A4.tmp F' n = .i .i64 N∧MU h.length h h'∧∀ v,I (k+1) (Er h.length (Tm.set (Tm.set F' d v) i v)) (h'.take h.length) else bif Nat.beq x B then Q .norm F' h' else Q (.exit x) F' h')
    | .ret=>Q .ret F' h'))
  (done:∀ F h,I N F h→Q .norm (Tm.set F c (.b false)) h) :
  ∀ k F h,k≤N→A4.tmp F i = .i .i64 k→A4.tmp F n = .i .i64 N→I k F h →
   VL V m B (.seq (.reg [o c (.bin .lss none (.t i) (.t n))]) (.seq (.cond (.t c) .skip (.exit B)) (.seq (.block C body) (.reg [o d (.bin .add none (.t i) (.c (.i .i64 1))),o i (.mov (.t d))])))) F h Q:=by
 obtain ⟨hci,hcn,hdn,hin,hm⟩:=hne
 intro k F h hk h1 h2 h3
 unfold VL
 rw [A0]
 refine AW (M:=Nat) (I:=fun k F h=>k≤N∧A4.tmp F i = .i .i64 k∧A4.tmp F n = .i .i64 N∧I k F h) (μ:=fun k=>N - k) ?_ k F h ⟨hk,h1,h2,h3⟩
 rintro k F h ⟨hk,h1,h2,h3⟩
 rw [Mq,US,A7P,A0O]
 simp only [A0E,h1,h2,Abo,UM,Et,R3]
 rw [Mq,A3I]
 simp only [A0E,Jt,if_true,Et]
 rcases Nat.lt_or_ge k N with hlt | hge
 ·have:decide ((k:Int) < N)=true:=by simp;omega
  rw [this,Aem,A3K]
  simp only
  rw [Mq,A0]
  refine (step k F h hlt h1 h2 h3).mono fun e F' h' hq=>?_
  have fin:(A4.tmp F' i = .i .i64 k∧A4.tmp F' n = .i .i64 N∧MU h.length h h'∧∀ v,I (k+1) (Er h.length (Tm.set (Tm.set F' d v) i v)) (h'.take h.length)) →
    Vc V m (.reg [o d (.bin .add none (.t i) (.c (.i .i64 1))),o i (.mov (.t d))]) F' h' (fun e F' h'=>match e with
     | .norm=>MU h.length h h'∧∃ m',N - m' < N - k∧m'≤N∧A4.tmp (Er h.length F') i = .i .i64 m'∧A4.tmp (Er h.length F') n = .i .i64 N∧I m' (Er h.length F') (h'.take h.length)
     | .exit id'=>(bif Nat.beq id' B then Q .norm F' h' else Q (.exit id') F' h')
     | e=>Q e F' h'):=by
   rintro ⟨g1,g2,g3,g4⟩
   rw [US,A7P,A0O]
   simp only [A0E,AeX,AaF,g1,A0C,UM,Et,A7P,hm,A3L,A66,Aam,Yt,Et,R3,Jt,if_true,LL,if_neg hin.symm,if_neg hdn.symm,g2,Aes]
   rw [Gp (by omega)]
   exact ⟨g3,k+1,by omega,by omega,rfl,trivial,g4 _⟩
  cases e with
  | norm=>exact (fin hq).mono (by intro e F h hh;cases e<;>exact hh)
  | ret=>exact hq
  | exit x =>
   simp only at hq ⊢
   cases hb:Nat.beq x C with
   | true=>rw [hb] at hq;exact (fin hq).mono (by intro e F h hh;cases e<;>exact hh)
   | false=>rw [hb] at hq;exact hq
 ·have hkN:k=N:=by omega
  subst hkN
  have:decide ((k:Int) < k)=false:=by simp
  rw [this,Ael,A3J]
  simp only [Nat.beq_refl,cond_true]
  exact done F h h3
theorem Ai {i c d1 d2 B C:Nat} {pre:List Av} {body:A1} (hne:m d1=0∧m i=0) (N:Nat) (hN:N < 9223372036854775807) (I:Nat→A4→VH→Prop) {Q:Ex→A4→VH→Prop}
  (hpre:∀ k F h,k≤N→A4.tmp F i = .i .i64 k→I k F h→Vr V m pre F h (fun F' h'=>A4.tmp F' c = .b (decide (k < N))∧A4.tmp F' i = .i .i64 k∧h' = h∧I k F' h))
  (step:∀ k F h,k < N→A4.tmp F i = .i .i64 k→I k F h →
   Vc V m body F h (fun e F' h'=>match e with
    | .norm=>A4.tmp F' i = .i .i64 k∧MU h.length h h'∧∀ v w,I (k+1) (Er h.length (Tm.set (Tm.set (Tm.set F' d1 v) d2 w) i w)) (h'.take h.length)
    | .exit x=>(bif Nat.beq x C then A4.tmp F' i = .i .i64 k∧MU h.length h h'∧∀ v w,I (k+1) (Er h.length (Tm.set (Tm.set (Tm.set F' d1 v) d2 w) i w)) (h'.take h.length) else bif Nat.beq x B then Q .norm F' h' else Q (.exit x) F' h')
    | .ret=>Q .ret F' h'))
  (done:∀ F h,I N F h→Q .norm F h) :
  ∀ k F h,k≤N→A4.tmp F i = .i .i64 k→I k F h →
   VL V m B (.seq (.seq (.reg pre) (.cond (.t c) .skip (.exit B))) (.seq (.block C body) (.reg [o d1 (.mov (.t i)),o d2 (.bin .add none (.t d1) (.c (.i .i64 1))),o i (.mov (.t d2))]))) F h Q:=by
 obtain ⟨hm1,hm2⟩:=hne
 intro k F h hk h1 h3
 unfold VL
 rw [A0]
 refine AW (M:=Nat) (I:=fun k F h=>k≤N∧A4.tmp F i = .i .i64 k∧I k F h) (μ:=fun k=>N - k) ?_ k F h ⟨hk,h1,h3⟩
 rintro k F h ⟨hk,h1,h3⟩
 rw [Mq,Mq,US]
 obtain ⟨n,F1,h',hr,hc,hi,rfl,hI⟩:=hpre k F h hk h1 h3
 refine ⟨n,F1,h',hr,?_⟩
 simp only
 rw [A3I]
 simp only [A0E,hc,Et]
 rcases Nat.lt_or_ge k N with hlt | hge
 ·rw [decide_eq_true hlt,Aem,A3K]
  simp only
  rw [Mq,A0]
  refine (step k F1 h' hlt hi hI).mono fun e F' h2 hq=>?_
  have fin:(A4.tmp F' i = .i .i64 k∧MU h'.length h' h2∧∀ v w,I (k+1) (Er h'.length (Tm.set (Tm.set (Tm.set F' d1 v) d2 w) i w)) (h2.take h'.length)) →
    Vc V m (.reg [o d1 (.mov (.t i)),o d2 (.bin .add none (.t d1) (.c (.i .i64 1))),o i (.mov (.t d2))]) F' h2 (fun e F' h2=>match e with
     | .norm=>MU h'.length h' h2∧∃ m',N - m' < N - k∧m'≤N∧A4.tmp (Er h'.length F') i = .i .i64 m'∧I m' (Er h'.length F') (h2.take h'.length)
     | .exit id'=>(bif Nat.beq id' B then Q .norm F' h2 else Q (.exit id') F' h2)
     | e=>Q e F' h2):=by
   rintro ⟨g1,g3,g4⟩
   rw [US,A7P]
   simp only [hm1,A3L,A66,Aam,Yt,Et,A0E,AeX,AaF,g1,A7P,A0O,Jt,if_true,A0C,UM,Et,hm2,R3,LL,Aes]
   rw [Gp (by omega)]
   exact ⟨g3,k+1,by omega,by omega,rfl,g4 _ _⟩
  cases e with
  | norm=>exact (fin hq).mono (by intro e F h hh;cases e<;>exact hh)
  | ret=>exact hq
  | exit x =>
   simp only at hq ⊢
   cases hb:Nat.beq x C with
   | true=>rw [hb] at hq;exact (fin hq).mono (by intro e F h hh;cases e<;>exact hh)
   | false=>rw [hb] at hq;exact hq
 ·have hkN:k=N:=by omega
  subst hkN
  have:decide (k < k)=false:=by simp
  rw [this,Ael,A3J]
  simp only [Nat.beq_refl,cond_true]
  exact done F1 h' hI
end
abbrev eI (x:Int):List VV:=[.i .i64 x]
abbrev eW (x:BitVec 64):List VV:=[vW x]
abbrev eS (x:ByteArray):List VV:=[.s x]
abbrev eU (x:U8):List VV:=[.i .u8 (x.n:Int)]
abbrev lI (l:List Int):VV:=.ls (l.map eI)
abbrev lW (l:List (BitVec 64)):VV:=.ls (l.map eW)
abbrev lS (l:List ByteArray):VV:=.ls (l.map eS)
abbrev lU (l:List U8):VV:=.ls (l.map eU)
abbrev M2 (l:List Int):List VV:=[lI l]
abbrev J9 (l:List ByteArray):List VV:=[lS l]
abbrev EB (l:List (List Int)):List VV:=[.ls (l.map M2)]
abbrev eN (n:AK):List VV:=[.i .i64 n.thread,.i .i64 n.up,.i .i64 n.kind,.i .i64 n.loc,.i .i64 n.mode,.i .i64 n.val,.b n.rmw,.b n.fin,lI n.regs]
abbrev vN (n:AK):VV:=.ag (eN n)
abbrev eT (t:A2):List VV:=[.i .i64 t.vals,lS t.locs,.ls (t.regs.map J9),.ls (t.nodes.map eN)]
abbrev vT (t:A2):VV:=.ag (eT t)
abbrev TU (s:A5):List VV:=[lI s.has,lI s.jf,.ls (s.mo.map EB)]
abbrev J6 (s:A5):VV:=.ag (TU s)
def DO:VO:={ ty:=0,esz:=0,ver:=0,nl:=true,rows:=[] }
def AL (ty e:Nat) (rows:List (List VV)):VO:=if rows.length=0 then DO else { ty:=ty,esz:=e,ver:=rows.length,nl:=false,rows:=rows }
section
variable {ty e:Nat} {rows:List (List VV)}
@[go_sem] theorem Eb:(AL ty e rows).ver=rows.length:=by
 unfold AL;split
 ·rename_i h;rw [h];rfl
 ·rfl
@[go_sem] theorem TH:(AL ty e rows).rows=rows:=by
 unfold AL;split
 ·rename_i h;rw [List.length_eq_zero_iff.1 h];rfl
 ·rfl
@[go_sem] theorem Al9:((AL ty e rows).nl || (decide ((AL ty e rows).ty=ty) && decide ((AL ty e rows).esz=e)))=true:=by
 unfold AL;split
 ·rfl
 ·simp
@[go_sem] theorem A7Y:(decide ((AL ty e rows).esz=e) || (AL ty e rows).nl)=true:=by
 unfold AL;split
 ·simp [DO]
 ·simp
theorem Kv (he:0 < e):(decide (0 < (AL ty e rows).esz) || (AL ty e rows).nl)=true:=by
 unfold AL;split
 ·rfl
 ·simp [he]
@[go_sem] theorem AhW:(decide (0 < (AL ty 1 rows).esz) || (AL ty 1 rows).nl)=true:=Kv (by decide)
@[go_sem] theorem AhX:(decide (0 < (AL ty 2 rows).esz) || (AL ty 2 rows).nl)=true:=Kv (by decide)
@[go_sem] theorem AhY:(decide (0 < (AL ty 4 rows).esz) || (AL ty 4 rows).nl)=true:=Kv (by decide)
@[go_sem] theorem AhZ:(decide (0 < (AL ty 7 rows).esz) || (AL ty 7 rows).nl)=true:=Kv (by decide)
@[go_sem] theorem Ai0:(decide (0 < (AL ty 9 rows).esz) || (AL ty 9 rows).nl)=true:=Kv (by decide)
@[go_sem] theorem Ai1 {r:List VV}:({ ty:=ty,esz:=e,ver:=rows.length+1,nl:=false,rows:=rows++[r] }:VO)=AL ty e (rows++[r]):=by
 unfold AL
 rw [if_neg (by simp),List.length_append];rfl
@[go_sem] theorem Jx {α:Type} {xs:List α} {x:α} {f:α→List VV}:({ ty:=ty,esz:=e,ver:=xs.length+1,nl:=false,rows:=(xs++[x]).map f }:VO)=AL ty e ((xs++[x]).map f):=by
 unfold AL
 rw [if_neg (by simp),List.length_map,List.length_append];rfl
@[go_sem] theorem Ajd:AL ty e []=DO:=rfl
@[go_sem] theorem Aij:DO.rows=[]:=rfl
@[go_sem] theorem AlF:DO.nl=true:=rfl
@[go_sem] theorem Ak8:DO.ver=0:=rfl
@[go_sem] theorem Ak7:DO.esz=0:=rfl
@[go_sem] theorem AlG:DO.ty=0:=rfl
@[go_sem] theorem Sa:({ ty:=0,esz:=0,ver:=0,nl:=true,rows:=[] }:VO)=DO:=rfl
end
@[go_sem] theorem PM (xs:List Int) (x:Int):xs.map eI++[[.i .i64 x]]=(xs++[x]).map eI:=by simp
@[go_sem] theorem AoU (xs:List (BitVec 64)) (x:BitVec 64):xs.map eW++[[vW x]]=(xs++[x]).map eW:=by simp
@[go_sem] theorem AoT (xs:List ByteArray) (x:ByteArray):xs.map eS++[[.s x]]=(xs++[x]).map eS:=by simp
section
variable {V:Am} {m:Nat→Nat} {F:A4} {h:VH} {x w:Bool} {d:Option Nat} {op:Be}
theorem Bx {r:List Av} {R:A4→VH→Prop} (h1:x=true→VG V m (.b true) w d op r F h R) (h2:x=false→VG V m (.b false) w d op r F h R):VG V m (.b x) w d op r F h R:=by
 cases x with
 | true=>exact h1 rfl
 | false=>exact h2 rfl
theorem Bk {c:List Av} {r:List Ax} {L:Kn} {R:A4→VH→Prop} (h1:x=true→VGs V m (.b true) w d op c r L F h R) (h2:x=false→VGs V m (.b false) w d op c r L F h R):VGs V m (.b x) w d op c r L F h R:=by
 cases x with
 | true=>exact h1 rfl
 | false=>exact h2 rfl
theorem B8 {a b:A1} {Q:Ex→A4→VH→Prop} (h1:x=true→VCn V m (.b true) a b F h Q) (h2:x=false→VCn V m (.b false) a b F h Q):VCn V m (.b x) a b F h Q:=by
 cases x with
 | true=>exact h1 rfl
 | false=>exact h2 rfl
end
@[go_sem] theorem Am5 (h:VH) (t e b:Nat) (x y:VV):Ql 0 h t e b x y=J4 h t e b x y:=rfl
@[go_sem] theorem Am6 (h:VH) (t e b:Nat) (x y:VV):Ql 1 h t e b x y=J4 h t e b x y:=rfl
@[go_sem] theorem Am7 (h:VH) (t e b:Nat) (x y:VV):Ql 2 h t e b x y=J4 h t e b x y:=rfl
def AfR (r:Option (VV×VH)):Option (VV×VH):=match r with
 | some (v,h')=>(match frz h' dF v with
  | some (r,ids)=>some (r,Bn ids h')
  | none=>none)
 | none=>none
@[go_sem] theorem Am8 (h:VH) (t e b:Nat) (x y:VV):Ql 5 h t e b x y=AfR (J4 h t e b x y):=by
 unfold Ql AfR;rfl
@[go_sem] theorem Aib (v:VV) (h:VH):AfR (some (v,h))=(match frz h 8 v with
  | some (r,ids)=>some (r,Bn ids h)
  | none=>none):=rfl
def Hl (n:Nat):Nat:=if n=0 then 0 else 1
def Ra (ty e:Nat) (rows:List (List VV)):VO:={ ty:=ty,esz:=e,ver:=Hl rows.length,nl:=false,rows:=rows }
@[go_sem] theorem Alp (ty e:Nat) (rows:List (List VV)):(Ra ty e rows).ver=Hl rows.length:=rfl
@[go_sem] theorem Ajt (ty e:Nat) (rows:List (List VV)):(Ra ty e rows).rows=rows:=rfl
@[go_sem] theorem Any (ty e:Nat) (rows:List (List VV)):(Ra ty e rows).ty=ty:=rfl
@[go_sem] theorem Alo (ty e:Nat) (rows:List (List VV)):(Ra ty e rows).esz=e:=rfl
@[go_sem] theorem Anx (ty e:Nat) (rows:List (List VV)):(Ra ty e rows).nl=false:=rfl
@[go_sem high] theorem Aix (h:VH) (ty e b id:Nat) (ys:List (List VV)) (h0:C7 h id 0=some { ty:=ty,esz:=e,ver:=0,nl:=false,rows:=[] }) (h1:Dr e ys=true) (h2:ys.length * b≤A7) (h3:0 < e) :
  J4 h ty e b (.sl id 0 0 0) (.ls ys)=some (.sl id (Hl ys.length) 0 ys.length,h.set id (some (Ra ty e ys))):=by
 have hg:h[id]? = some (some { ty:=ty,esz:=e,ver:=0,nl:=false,rows:=[] }):=by
  unfold C7 at h0
  split at h0
  ·rename_i o ho
   cases hb:Nat.beq o.ver 0 with
   | true=>rw [hb] at h0;cases h0;exact ho
   | false=>rw [hb] at h0;cases h0
  ·cases h0
 have hb1:(Nat.ble ((0+ys.length) * b) A7 && Nat.blt 0 e)=true:=by
  rw [Nat.zero_add];simp only [Bool.and_eq_true,Nat.ble_eq,Nat.blt_eq];exact ⟨h2,h3⟩
 unfold J4
 simp only [N1,Kl,h1,cond_true,h0,hb1]
 cases ys with
 | nil =>
  simp only [Option.some.injEq,Prod.mk.injEq]
  refine ⟨rfl,?_⟩
  obtain ⟨hi,he⟩:=List.getElem?_eq_some_iff.1 hg
  have:(some (Ra ty e []):Option VO)=h[id]:=by rw [he];rfl
  rw [this,List.set_getElem_self]
 | cons y ys =>
  simp only [Nat.beq_refl,List.length_nil,Bool.and_self,Bool.or_true,cond_true,List.nil_append,Nat.zero_add]
  rfl
@[go_sem low] theorem AhC (h:VH) (ty esz bytes:Nat) (id ver off n:Nat) (ys:List (List VV)):J4 h ty esz bytes (.sl id ver off n) (.ls ys)=(match N1 (.sl id ver off n),Kl h esz (.ls ys) with
 | some n0,some ys0 =>
  bif Nat.ble ((n0+ys0.length) * bytes) A7 && Nat.blt 0 esz then
   match ((.sl id ver off n):VV) with
   | .sl id3 ver3 off3 _=>(match C7 h id3 ver3 with
    | some o=>(match ys0 with
     | []=>some ((.sl id ver off n),h)
     | y0::yr=>bif Nat.beq off3 0 && Nat.beq n0 o.rows.length && (o.nl || (Nat.beq o.ty ty && Nat.beq o.esz esz)) then
       some (.sl id3 (ver3+1) 0 (n0+ys0.length),h.set id3 (some { ty:=ty,esz:=esz,ver:=ver3+1,nl:=false,rows:=o.rows++ys0 }))
      else none)
    | none=>none)
   | .nl=>(match ys0 with
    | []=>some (.nl,h)
    | y0::yr=>some (.sl h.length 0 0 ys0.length,h++[some { ty:=ty,esz:=esz,ver:=0,nl:=false,rows:=ys0 }]))
   | _=>none
  else none
 | _,_=>none):=rfl
@[go_sem low] theorem AhD (h:VH) (ty esz bytes:Nat) (id ver off n:Nat)  : J4 h ty esz bytes (.sl id ver off n) .nl=(match N1 (.sl id ver off n),Kl h esz .nl with
 | some n0,some ys0 =>
  bif Nat.ble ((n0+ys0.length) * bytes) A7 && Nat.blt 0 esz then
   match ((.sl id ver off n):VV) with
   | .sl id3 ver3 off3 _=>(match C7 h id3 ver3 with
    | some o=>(match ys0 with
     | []=>some ((.sl id ver off n),h)
     | y0::yr=>bif Nat.beq off3 0 && Nat.beq n0 o.rows.length && (o.nl || (Nat.beq o.ty ty && Nat.beq o.esz esz)) then
       some (.sl id3 (ver3+1) 0 (n0+ys0.length),h.set id3 (some { ty:=ty,esz:=esz,ver:=ver3+1,nl:=false,rows:=o.rows++ys0 }))
      else none)
    | none=>none)
   | .nl=>(match ys0 with
    | []=>some (.nl,h)
    | y0::yr=>some (.sl h.length 0 0 ys0.length,h++[some { ty:=ty,esz:=esz,ver:=0,nl:=false,rows:=ys0 }]))
   | _=>none
  else none
 | _,_=>none):=rfl
@[go_sem low] theorem AhE (h:VH) (ty esz bytes:Nat) (id ver off n:Nat) (id2 ver2 off2 n2:Nat):J4 h ty esz bytes (.sl id ver off n) (.sl id2 ver2 off2 n2)=(match N1 (.sl id ver off n),Kl h esz (.sl id2 ver2 off2 n2) with
 | some n0,some ys0 =>
  bif Nat.ble ((n0+ys0.length) * bytes) A7 && Nat.blt 0 esz then
   match ((.sl id ver off n):VV) with
   | .sl id3 ver3 off3 _=>(match C7 h id3 ver3 with
    | some o=>(match ys0 with
     | []=>some ((.sl id ver off n),h)
     | y0::yr=>bif Nat.beq off3 0 && Nat.beq n0 o.rows.length && (o.nl || (Nat.beq o.ty ty && Nat.beq o.esz esz)) then
       some (.sl id3 (ver3+1) 0 (n0+ys0.length),h.set id3 (some { ty:=ty,esz:=esz,ver:=ver3+1,nl:=false,rows:=o.rows++ys0 }))
      else none)
    | none=>none)
   | .nl=>(match ys0 with
    | []=>some (.nl,h)
    | y0::yr=>some (.sl h.length 0 0 ys0.length,h++[some { ty:=ty,esz:=esz,ver:=0,nl:=false,rows:=ys0 }]))
   | _=>none
  else none
 | _,_=>none):=rfl
@[go_sem low] theorem Ahz (h:VH) (ty esz bytes:Nat)  (ys:List (List VV)):J4 h ty esz bytes .nl (.ls ys)=(match N1 .nl,Kl h esz (.ls ys) with
 | some n0,some ys0 =>
  bif Nat.ble ((n0+ys0.length) * bytes) A7 && Nat.blt 0 esz then
   match (.nl:VV) with
   | .sl id3 ver3 off3 _=>(match C7 h id3 ver3 with
    | some o=>(match ys0 with
     | []=>some (.nl,h)
     | y0::yr=>bif Nat.beq off3 0 && Nat.beq n0 o.rows.length && (o.nl || (Nat.beq o.ty ty && Nat.beq o.esz esz)) then
       some (.sl id3 (ver3+1) 0 (n0+ys0.length),h.set id3 (some { ty:=ty,esz:=esz,ver:=ver3+1,nl:=false,rows:=o.rows++ys0 }))
      else none)
    | none=>none)
   | .nl=>(match ys0 with
    | []=>some (.nl,h)
    | y0::yr=>some (.sl h.length 0 0 ys0.length,h++[some { ty:=ty,esz:=esz,ver:=0,nl:=false,rows:=ys0 }]))
   | _=>none
  else none
 | _,_=>none):=rfl
@[go_sem low] theorem AhA (h:VH) (ty esz bytes:Nat)   : J4 h ty esz bytes .nl .nl=(match N1 .nl,Kl h esz .nl with
 | some n0,some ys0 =>
  bif Nat.ble ((n0+ys0.length) * bytes) A7 && Nat.blt 0 esz then
   match (.nl:VV) with
   | .sl id3 ver3 off3 _=>(match C7 h id3 ver3 with
    | some o=>(match ys0 with
     | []=>some (.nl,h)
     | y0::yr=>bif Nat.beq off3 0 && Nat.beq n0 o.rows.length && (o.nl || (Nat.beq o.ty ty && Nat.beq o.esz esz)) then
       some (.sl id3 (ver3+1) 0 (n0+ys0.length),h.set id3 (some { ty:=ty,esz:=esz,ver:=ver3+1,nl:=false,rows:=o.rows++ys0 }))
      else none)
    | none=>none)
   | .nl=>(match ys0 with
    | []=>some (.nl,h)
    | y0::yr=>some (.sl h.length 0 0 ys0.length,h++[some { ty:=ty,esz:=esz,ver:=0,nl:=false,rows:=ys0 }]))
   | _=>none
  else none
 | _,_=>none):=rfl
@[go_sem low] theorem AhB (h:VH) (ty esz bytes:Nat)  (id2 ver2 off2 n2:Nat):J4 h ty esz bytes .nl (.sl id2 ver2 off2 n2)=(match N1 .nl,Kl h esz (.sl id2 ver2 off2 n2) with
 | some n0,some ys0 =>
  bif Nat.ble ((n0+ys0.length) * bytes) A7 && Nat.blt 0 esz then
   match (.nl:VV) with
   | .sl id3 ver3 off3 _=>(match C7 h id3 ver3 with
    | some o=>(match ys0 with
     | []=>some (.nl,h)
     | y0::yr=>bif Nat.beq off3 0 && Nat.beq n0 o.rows.length && (o.nl || (Nat.beq o.ty ty && Nat.beq o.esz esz)) then
       some (.sl id3 (ver3+1) 0 (n0+ys0.length),h.set id3 (some { ty:=ty,esz:=esz,ver:=ver3+1,nl:=false,rows:=o.rows++ys0 }))
      else none)
    | none=>none)
   | .nl=>(match ys0 with
    | []=>some (.nl,h)
    | y0::yr=>some (.sl h.length 0 0 ys0.length,h++[some { ty:=ty,esz:=esz,ver:=0,nl:=false,rows:=ys0 }]))
   | _=>none
  else none
 | _,_=>none):=rfl
attribute [go_sem] Abr
end Go.AM
