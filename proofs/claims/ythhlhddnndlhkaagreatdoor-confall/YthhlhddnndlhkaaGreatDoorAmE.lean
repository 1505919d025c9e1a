/-
  Own work, part of the proof of these laws: rules by which code is run over the machine of values.
-/
import Derived.Test.YthhlhddnndlhkaaGreatDoorAmD
import Derived.Attr
set_option maxRecDepth 10000
set_option maxHeartbeats 64000000
set_option linter.unusedVariables false
set_option linter.unusedSimpArgs false
set_option linter.unusedSectionVars false
set_option linter.unnecessarySimpa false
open List (length_map length_append length_take length_cons all_eq_true nil_append length_drop cons_append append_nil map_cons mem_cons length_nil not_mem_nil drop_zero map_nil filter_cons all_cons replicate_succ)
open Nat (blt_eq zero_add beq_refl succ_mul ble_eq)
open Option (bind_some)
namespace Go.AM
open Go
section
variable {A:E8} {F:Fr} {σ:St}
@[go_sem] theorem Auw (F:Fr) (k:Nat) (v:AV) (j:Nat):Fr.tmp (Tm.set F k v) j=if j=k then v else Fr.tmp F j:=by
 unfold Fr.tmp
 rw [Tm.get_set]
 by_cases h:j=k<;>simp [h]
def nth (l:List AV) (j:Nat):AV:=match l[j]? with | some v=>v | none=>AV.un
@[go_sem] theorem Apq (l:List AV) (j:Nat):Fr.tmp (Tm.ofList l) j=nth l j:=by
 unfold Fr.tmp nth
 rw [Tm.get_ofList]
 cases l[j]?<;>rfl
@[go_sem] theorem Aue (j:Nat):nth [] j=AV.un:=by simp [nth]
@[go_sem] theorem Asm (a:AV) (l:List AV):nth (a::l) 0=a:=by simp [nth]
@[go_sem] theorem Asl (a:AV) (l:List AV) (j:Nat):nth (a::l) (j+1)=nth l j:=by simp [nth]
@[go_sem] theorem Aqk (F:Fr) (d:Nat) (v:AV):BW F (some d) v=Tm.set F d v:=rfl
@[go_sem] theorem Aqj (F:Fr) (v:AV):BW F none v=F:=rfl
@[go_sem] theorem Az4 (F:Fr) (n:Nat):Fr.ev F (.t n)=Fr.tmp F n:=rfl
@[go_sem] theorem Az3 (F:Fr) (v:AV):Fr.ev F (.c v)=v:=rfl
variable {Q:AV->St->Prop} {R:Fr->St->Prop}
@[go_sem] theorem Ajo {d:Option Nat} {op:By} {r:List AI}:Wr A (⟨d,none,op⟩::r) F σ R↔Wo A op F σ (fun v σ'=>Wr A r (BW F d v) σ' R):=AcQ
def WG (A:E8) (v:AV) (w:Bool) (d:Option Nat) (op:By) (r:List AI) (F:Fr) (σ:St) (R:Fr->St->Prop):Prop:=match v with
 | .b x=>(bif x == w then Wo A op F σ (fun v σ'=>Wr A r (BW F d v) σ' R) else Wr A r (BW F d AV.un) σ R)
 | _=>Wr A r (BW F d AV.un) σ R
@[go_sem] theorem Ara {d:Option Nat} {t:Nat} {w:Bool} {op:By} {r:List AI}:Wr A (⟨d,some (t,w),op⟩::r) F σ R↔WG A (Fr.tmp F t) w d op r F σ R:=by
 rw [AcQ]
 simp only [wanted,WG]
 cases Fr.tmp F t<;>rfl
@[go_sem] theorem Ay3 {d:Option Nat} {op:By} {r:List AI}:WG A (.b true) true d op r F σ R↔Wo A op F σ (fun v σ'=>Wr A r (BW F d v) σ' R):=Iff.rfl
@[go_sem] theorem Ay0 {d:Option Nat} {op:By} {r:List AI}:WG A (.b false) false d op r F σ R↔Wo A op F σ (fun v σ'=>Wr A r (BW F d v) σ' R):=Iff.rfl
@[go_sem] theorem Ay2 {d:Option Nat} {op:By} {r:List AI}:WG A (.b true) false d op r F σ R↔Wr A r (BW F d AV.un) σ R:=Iff.rfl
@[go_sem] theorem Ay1 {d:Option Nat} {op:By} {r:List AI}:WG A (.b false) true d op r F σ R↔Wr A r (BW F d AV.un) σ R:=Iff.rfl
attribute [go_sem] AmU AmV Ajl Ajk AmS AmR Ajj AmT
@[go_sem] theorem Ajp {i:Nat} {d:Option Nat} {op:By} {c:List AI} {r:List AL}:Ws A (⟨i,⟨d,none,op⟩,c⟩::r) F σ R↔Wo A op F σ (fun v σ'=>CK (BW F d v) σ' c=true/\Ws A r (BW F d v) σ' R):=AcR
def WGs (A:E8) (v:AV) (w:Bool) (d:Option Nat) (op:By) (c:List AI) (r:List AL) (F:Fr) (σ:St) (R:Fr->St->Prop):Prop:=match v with
 | .b x=>(bif x == w then Wo A op F σ (fun v σ'=>CK (BW F d v) σ' c=true/\Ws A r (BW F d v) σ' R) else Ws A r (BW F d AV.un) σ R)
 | _=>Ws A r (BW F d AV.un) σ R
@[go_sem] theorem Arb {i:Nat} {d:Option Nat} {t:Nat} {w:Bool} {op:By} {c:List AI} {r:List AL}:Ws A (⟨i,⟨d,some (t,w),op⟩,c⟩::r) F σ R↔WGs A (Fr.tmp F t) w d op c r F σ R:=by
 rw [AcR]
 simp only [wanted,WGs]
 cases Fr.tmp F t<;>rfl
@[go_sem] theorem Avq {d:Option Nat} {op:By} {c:List AI} {r:List AL}:WGs A (.b true) true d op c r F σ R↔Wo A op F σ (fun v σ'=>CK (BW F d v) σ' c=true/\Ws A r (BW F d v) σ' R):=Iff.rfl
@[go_sem] theorem Avn {d:Option Nat} {op:By} {c:List AI} {r:List AL}:WGs A (.b false) false d op c r F σ R↔Wo A op F σ (fun v σ'=>CK (BW F d v) σ' c=true/\Ws A r (BW F d v) σ' R):=Iff.rfl
@[go_sem] theorem Avp {d:Option Nat} {op:By} {c:List AI} {r:List AL}:WGs A (.b true) false d op c r F σ R↔Ws A r (BW F d AV.un) σ R:=Iff.rfl
@[go_sem] theorem Avo {d:Option Nat} {op:By} {c:List AI} {r:List AL}:WGs A (.b false) true d op c r F σ R↔Ws A r (BW F d AV.un) σ R:=Iff.rfl
@[go_sem] theorem Ay4 {w:Bool} {d:Option Nat} {op:By} {r:List AI}:WG A AV.un w d op r F σ R↔Wr A r (BW F d AV.un) σ R:=Iff.rfl
@[go_sem] theorem Avr {w:Bool} {d:Option Nat} {op:By} {c:List AI} {r:List AL}:WGs A AV.un w d op c r F σ R↔Ws A r (BW F d AV.un) σ R:=Iff.rfl
def WC (A:E8) (v:AV) (a b:A2) (F:Fr) (σ:St) (Q:Ex->Fr->St->Prop):Prop:=match v with
 | .b true=>Wc A a F σ Q
 | .b false=>Wc A b F σ Q
 | _=>False
@[go_sem] theorem ApT {x:Ax} {a b:A2} {Q:Ex->Fr->St->Prop}:Wc A (.cond x a b) F σ Q↔WC A (Fr.ev F x) a b F σ Q:=by
 cases h:Fr.ev F x with
 | b t=>rw [Aji h];cases t<;>rfl
 | _ =>
  constructor
  .rintro ⟨n,e,F',σ',h2,_⟩
   cases n with
   | zero=>simp [Bb] at h2
   | succ n=>simp [Bb,h] at h2
  .intro h2;exact h2.elim
@[go_sem] theorem AyM {a b:A2} {Q:Ex->Fr->St->Prop}:WC A (.b true) a b F σ Q↔Wc A a F σ Q:=Iff.rfl
@[go_sem] theorem AyL {a b:A2} {Q:Ex->Fr->St->Prop}:WC A (.b false) a b F σ Q↔Wc A b F σ Q:=Iff.rfl
def WP (v x y:AV) (σ:St) (Q:AV->St->Prop):Prop:=match v with
 | .b t=>Q (bif t then x else y) σ
 | _=>False
@[go_sem] theorem AyO {x y:AV}:WP (.b true) x y σ Q↔Q x σ:=Iff.rfl
@[go_sem] theorem AyN {x y:AV}:WP (.b false) x y σ Q↔Q y σ:=Iff.rfl
@[go_sem] theorem AvE {x:Ax}:Wo A (.mov x) F σ Q↔Q (Fr.ev F x) σ:=by
 rw [Dv (by intros;simp)]
 simp only [Av,Option.some.injEq,Prod.mk.injEq,exists_and_left,exists_eq_left',and_assoc]
@[go_sem] theorem AtF {c x y:Ax}:Wo A (.pick c x y) F σ Q↔WP (Fr.ev F c) (Fr.ev F x) (Fr.ev F y) σ Q:=by
 rw [Dv (by intros;simp)]
 simp only [Av]
 cases Fr.ev F c with
 | b t=>simp only [Option.some.injEq,Prod.mk.injEq,exists_and_left,exists_eq_left',and_assoc,WP]
 | _=>simp [WP]
@[go_sem] theorem Avv {ty n:Nat} {x:Ax}:Wo A (.box ty n x) F σ Q↔((Fr.ev F x).cells.length=n/\(Fr.ev F x).cells.all AV.cell=true)/\Q (.p (some (σ.next,0))) (σ.new { ty:=ty,rw:=true,esz:=0,len:=n,cs:=Tm.ofList (Fr.ev F x).cells }):=by
 rw [Dv (by intros;simp)]
 simp only [Av]
 cases hc:(Nat.beq (Fr.ev F x).cells.length n && (Fr.ev F x).cells.all AV.cell) with
 | false =>
  simp only [cond_false,reduceCtorEq,false_and,exists_false,false_iff]
  rintro ⟨⟨h1,h2⟩,_⟩
  rw [h1,h2] at hc
  simp at hc
 | true =>
  simp only [Bool.and_eq_true] at hc
  simp only [cond_true,Option.some.injEq,Prod.mk.injEq,exists_and_left,exists_eq_left',and_assoc,Nat.eq_of_beq_eq_true hc.1,hc.2,true_and]
@[go_sem] theorem Ar7 {z:List AV} {ps:List (Nat×Nat×Ax)}:Wo A (.build z ps) F σ Q↔∃ cs,BN F z ps=some cs/\Q (.ag cs) σ:=by
 rw [Dv (by intros;simp)]
 simp only [Av]
 cases BN F z ps with
 | none=>simp
 | some v=>simp only [Option.some.injEq,Prod.mk.injEq,exists_and_left,exists_eq_left',and_assoc]
@[go_sem] theorem Avw {ty esz len:Nat} {z:List AV} {ps:List (Nat×Nat×Ax)}:Wo A (.bsl ty esz len z ps) F σ Q↔∃ cs,BN F z ps=some cs/\Q (.sl (some (σ.next,0)) len) (σ.new { ty:=ty,rw:=true,esz:=esz,len:=len * esz,cs:=Tm.ofList cs }):=by
 rw [Dv (by intros;simp)]
 simp only [Av]
 cases BN F z ps with
 | none=>simp
 | some v=>simp only [Option.some.injEq,Prod.mk.injEq,exists_and_left,exists_eq_left',and_assoc]
theorem A6O {n:Option Nat} {a:Ax} {r:AV×St}:Av (.ld n a) F σ=some r↔∃ id off,Fr.ev F a = .p (some (id,off))/\σ.loadV n id off=some r.1/\σ=r.2:=by
 simp only [Av]
 constructor
 .intro h
  split at h
  .rename_i id off ha
   split at h
   .rename_i v hv
    cases h
    exact ⟨id,off,ha,hv,rfl⟩
   .cases h
  .cases h
 .rintro ⟨id,off,ha,hv,rfl⟩
  simp only [ha,hv]
@[go_sem] theorem Ay8 {n:Option Nat} {a:Ax}:Wo A (.ld n a) F σ Q↔∃ id off,Fr.ev F a = .p (some (id,off))/\∃ v,σ.loadV n id off=some v/\Q v σ:=by
 rw [Dv (by intros;simp)]
 simp only [A6O]
 constructor
 .rintro ⟨v,σ',⟨id,off,h1,h2,h3⟩,hq⟩
  subst h3
  exact ⟨id,off,h1,v,h2,hq⟩
 .rintro ⟨id,off,h1,v,h2,hq⟩
  exact ⟨v,σ,⟨id,off,h1,h2,rfl⟩,hq⟩
@[go_sem] theorem Ay9 {n:Nat} {a x:Ax}:Wo A (.st n a x) F σ Q↔∃ id off,Fr.ev F a = .p (some (id,off))/\(Fr.ev F x).cells.length=n/\∃ σ',σ.storeN id off (Fr.ev F x).cells=some σ'/\Q AV.un σ':=by
 rw [Dv (by intros;simp)]
 simp only [Av]
 constructor
 .rintro ⟨v,σ',h,hq⟩
  split at h
  .rename_i id off ha
   cases hc:Nat.beq (Fr.ev F x).cells.length n with
   | false=>rw [hc] at h;cases h
   | true =>
    rw [hc] at h
    simp only [cond_true] at h
    split at h
    .rename_i σ1 hs
     cases h
     exact ⟨id,off,ha,Nat.eq_of_beq_eq_true hc,_,hs,hq⟩
    .cases h
  .cases h
 .rintro ⟨id,off,ha,hc,σ',hs,hq⟩
  refine ⟨AV.un,σ',?_,hq⟩
  have:Nat.beq (Fr.ev F x).cells.length n=true:=by rw [hc];exact beq_refl n
  simp only [ha,this,cond_true,hs]
def AdA:AV->Option AV
 | .p (some a)=>some (.p (some a))
 | .f g a c=>some (.f g a c)
 | _=>none
@[go_sem] theorem Aub (a:Nat×Nat):AdA (.p (some a))=some (.p (some a)):=rfl
@[go_sem] theorem Aua (g:Nat) (a c:List AV):AdA (.f g a c)=some (.f g a c):=rfl
@[go_sem] theorem AtE {x:Ax}:Wo A (.nilc x) F σ Q↔∃ v,AdA (Fr.ev F x)=some v/\Q v σ:=by
 rw [Dv (by intros;simp)]
 simp only [Av]
 constructor
 .rintro ⟨v,σ',h,hq⟩
  split at h<;>cases h<;>(rename_i e;rw [e];exact ⟨_,rfl,hq⟩)
 .rintro ⟨v,h,hq⟩
  unfold AdA at h
  split at h<;>cases h<;>(rename_i e;rw [e];exact ⟨_,_,rfl,hq⟩)
@[go_sem] theorem Avu {op:BinOp} {e:Option Yc} {x y:Ax}:Wo A (.bin op e x y) F σ Q↔∃ v,Bq op e (Fr.ev F x) (Fr.ev F y)=some v/\Q v σ:=by
 rw [Dv (by intros;simp)]
 simp only [Av]
 cases Bq op e (Fr.ev F x) (Fr.ev F y) with
 | none=>simp
 | some v=>simp only [Option.some.injEq,Prod.mk.injEq,exists_and_left,exists_eq_left',and_assoc]
@[go_sem] theorem AvG {x:Ax}:Wo A (.not x) F σ Q↔∃ t,Fr.ev F x = .b t/\Q (.b (!t)) σ:=by
 rw [Dv (by intros;simp)]
 simp only [Av]
 constructor
 .rintro ⟨v,σ',h,hq⟩
  split at h
  .rename_i t ht;cases h;exact ⟨t,ht,hq⟩
  .cases h
 .rintro ⟨t,h,hq⟩
  exact ⟨_,_,by rw [h],hq⟩
@[go_sem] theorem AvF {x:Ax}:Wo A (.neg x) F σ Q↔∃ k n,Fr.ev F x = .i k n/\Q (.i k (k.wrap (0 - n))) σ:=by
 rw [Dv (by intros;simp)]
 simp only [Av]
 constructor
 .rintro ⟨v,σ',h,hq⟩
  split at h
  .rename_i k n ht;cases h;exact ⟨k,n,ht,hq⟩
  .cases h
 .rintro ⟨k,n,h,hq⟩
  exact ⟨_,_,by rw [h],hq⟩
@[go_sem] theorem AtC {k:IntKind} {x:Ax}:Wo A (.conv k x) F σ Q↔∃ k' n,Fr.ev F x = .i k' n/\Q (.i k (k.wrap n)) σ:=by
 rw [Dv (by intros;simp)]
 simp only [Av]
 constructor
 .rintro ⟨v,σ',h,hq⟩
  split at h
  .rename_i k n ht;cases h;exact ⟨k,n,ht,hq⟩
  .cases h
 .rintro ⟨k,n,h,hq⟩
  exact ⟨_,_,by rw [h],hq⟩
@[go_sem] theorem AvB {g:Nat} {a c:List Ax}:Wo A (.mkf g a c) F σ Q↔Q (.f g (a.map (Fr.ev F)) (c.map (Fr.ev F))) σ:=by
 rw [Dv (by intros;simp)]
 simp only [Av,Option.some.injEq,Prod.mk.injEq,exists_and_left,exists_eq_left',and_assoc]
@[go_sem] theorem AvC {ty esz bytes:Nat} {z:List AV} {l c:Ax}:Wo A (.mks ty esz bytes z l c) F σ Q↔∃ n,Fr.ev F l = .i .i64 n/\∃ m,Fr.ev F c = .i .i64 m/\(0<=n/\n<=m/\m.toNat * bytes<=Aa)/\Q (.sl (some (σ.next,0)) n.toNat) (σ.new { ty:=ty,rw:=true,esz:=esz,len:=n.toNat * esz,cs:=Tm.ofList ((List.replicate n.toNat z).flatten) }):=by
 rw [Dv (by intros;simp)]
 simp only [Av]
 constructor
 .rintro ⟨v,σ',h,hq⟩
  split at h
  .rename_i n m h1 h2
   split at h
   .rename_i h3
    cases h
    exact ⟨n,h1,m,h2,h3,hq⟩
   .cases h
  .cases h
 .rintro ⟨n,h1,m,h2,h3,hq⟩
  exact ⟨_,_,by simp only [h1,h2,if_pos h3],hq⟩
@[go_sem] theorem AvH {esz:Nat} {x:Ax} {lo hi:Option Ax}:Wo A (.slc esz x lo hi) F σ Q↔∃ v,EK esz (Fr.ev F x) (lo.map (Fr.ev F)) (hi.map (Fr.ev F))=some v/\Q v σ:=by
 rw [Dv (by intros;simp)]
 simp only [Av]
 cases EK esz (Fr.ev F x) (lo.map (Fr.ev F)) (hi.map (Fr.ev F)) with
 | none=>simp
 | some v=>simp only [Option.some.injEq,Prod.mk.injEq,exists_and_left,exists_eq_left',and_assoc]
@[go_sem] theorem Ay5 {off:Nat} {x:Ax}:Wo A (.fa off x) F σ Q↔∃ id o,Fr.ev F x = .p (some (id,o))/\Q (.p (some (id,o+off))) σ:=by
 rw [Dv (by intros;simp)]
 simp only [Av]
 constructor
 .rintro ⟨v,σ',h,hq⟩
  split at h
  .rename_i id o h1;cases h;exact ⟨id,o,h1,hq⟩
  .cases h
 .rintro ⟨id,o,h1,hq⟩
  exact ⟨_,_,by rw [h1],hq⟩
def AeQ (esz:Nat) (x i:AV):Option AV:=match x,i with
  | .sl (some (id,o)) len,.i _ n=>if 0<=n/\n < len then some (.p (some (id,o+n.toNat * esz))) else none
  | _,_=>none
@[go_sem] theorem Ay6 {esz:Nat} {x i:Ax}:Wo A (.ia esz x i) F σ Q↔∃ v,AeQ esz (Fr.ev F x) (Fr.ev F i)=some v/\Q v σ:=by
 rw [Dv (by intros;simp)]
 have e:Av (.ia esz x i) F σ=(match AeQ esz (Fr.ev F x) (Fr.ev F i) with | some v=>some (v,σ) | none=>none):=by
  simp only [Av,AeQ]
  generalize Fr.ev F x=vx
  generalize Fr.ev F i=vi
  cases vx<;>try rfl
  rename_i o len
  cases o<;>try rfl
  cases vi<;>try rfl
  simp only
  split<;>rfl
 rw [e]
 cases AeQ esz (Fr.ev F x) (Fr.ev F i) with
 | none=>simp
 | some v=>simp only [Option.some.injEq,Prod.mk.injEq,exists_and_left,exists_eq_left',and_assoc]
@[go_sem] theorem Avz {len esz:Nat} {x i:Ax}:Wo A (.iaa len esz x i) F σ Q↔∃ id o,Fr.ev F x = .p (some (id,o))/\∃ k n,Fr.ev F i = .i k n/\(0<=n/\n < len)/\Q (.p (some (id,o+n.toNat * esz))) σ:=by
 rw [Dv (by intros;simp)]
 simp only [Av]
 constructor
 .rintro ⟨v,σ',h,hq⟩
  split at h
  .rename_i id o k n h1 h2
   split at h
   .rename_i h3
    cases h
    exact ⟨id,o,h1,k,n,h2,h3,hq⟩
   .cases h
  .cases h
 .rintro ⟨id,o,h1,k,n,h2,h3,hq⟩
  exact ⟨_,_,by simp only [h1,h2,if_pos h3],hq⟩
@[go_sem] theorem Ay7 {x i:Ax}:Wo A (.ix x i) F σ Q↔∃ s,Fr.ev F x = .s s/\∃ k n,Fr.ev F i = .i k n/\0<=n/\∃ b,s.data.toList[n.toNat]? = some b/\Q (.i .u8 b.toNat) σ:=by
 rw [Dv (by intros;simp)]
 simp only [Av]
 constructor
 .rintro ⟨v,σ',h,hq⟩
  split at h
  .rename_i s k n h1 h2
   split at h
   .rename_i h3
    split at h
    .rename_i b hb
     cases h
     exact ⟨s,h1,k,n,h2,h3,b,hb,hq⟩
    .cases h
   .cases h
  .cases h
 .rintro ⟨s,h1,k,n,h2,h3,b,hb,hq⟩
  exact ⟨_,_,by simp only [h1,h2,if_pos h3,hb],hq⟩
@[go_sem] theorem Avy {x:Ax} {i:Nat}:Wo A (.ext x i) F σ Q↔∃ vs,Fr.ev F x = .tu vs/\∃ v,vs[i]? = some v/\Q v σ:=by
 rw [Dv (by intros;simp)]
 simp only [Av]
 constructor
 .rintro ⟨v,σ',h,hq⟩
  split at h
  .rename_i vs h1
   split at h
   .rename_i w hw;cases h;exact ⟨vs,h1,_,hw,hq⟩
   .cases h
  .cases h
 .rintro ⟨vs,h1,v,h2,hq⟩
  exact ⟨_,_,by simp only [h1,h2],hq⟩
@[go_sem] theorem AvA {x:Ax}:Wo A (.len false x) F σ Q↔∃ o n,Fr.ev F x = .sl o n/\Q (.i .i64 n) σ:=by
 rw [Dv (by intros;simp)]
 simp only [Av]
 generalize Fr.ev F x=vx
 cases vx<;>simp
 constructor
 .rintro ⟨v,σ',⟨rfl,rfl⟩,h⟩;exact ⟨_,_,⟨rfl,rfl⟩,h⟩
 .rintro ⟨o,n,⟨rfl,rfl⟩,h⟩;exact ⟨_,_,⟨rfl,rfl⟩,h⟩
@[go_sem] theorem AtD {x:Ax}:Wo A (.len true x) F σ Q↔∃ s,Fr.ev F x = .s s/\Q (.i .i64 s.size) σ:=by
 rw [Dv (by intros;simp)]
 simp only [Av]
 generalize Fr.ev F x=vx
 cases vx<;>simp
 constructor
 .rintro ⟨v,σ',⟨rfl,rfl⟩,h⟩;exact h
 .intro h;exact ⟨_,_,⟨rfl,rfl⟩,h⟩
@[go_sem] theorem Avt {ty esz bytes:Nat} {x y:Ax}:Wo A (.app ty esz bytes x y) F σ Q↔∃ o n,Fr.ev F x = .sl o n/\∃ o' m,Fr.ev F y = .sl o' m/\∃ v σ',Ye ty esz bytes o n o' m σ=some (v,σ')/\Q v σ':=by
 rw [Dv (by intros;simp)]
 simp only [Av]
 constructor
 .rintro ⟨v,σ',h,hq⟩
  split at h
  .rename_i o n o' m h1 h2;exact ⟨o,n,h1,o',m,h2,v,σ',h,hq⟩
  .cases h
 .rintro ⟨o,n,h1,o',m,h2,v,σ',h,hq⟩
  exact ⟨v,σ',by simp only [h1,h2];exact h,hq⟩
@[go_sem] theorem Avx {esz:Nat} {x y:Ax}:Wo A (.cpy esz x y) F σ Q↔∃ o n,Fr.ev F x = .sl o n/\∃ o' m,Fr.ev F y = .sl o' m/\∃ v σ',Aew esz o n o' m σ=some (v,σ')/\Q v σ':=by
 rw [Dv (by intros;simp)]
 simp only [Av]
 constructor
 .rintro ⟨v,σ',h,hq⟩
  split at h
  .rename_i o n o' m h1 h2;exact ⟨o,n,h1,o',m,h2,v,σ',h,hq⟩
  .cases h
 .rintro ⟨o,n,h1,o',m,h2,v,σ',h,hq⟩
  exact ⟨v,σ',by simp only [h1,h2];exact h,hq⟩
@[go_sem] theorem AvD {mx:Bool} {x y:Ax}:Wo A (.mnx mx x y) F σ Q↔∃ k a,Fr.ev F x = .i k a/\∃ c,Fr.ev F y = .i k c/\Q (.i k (A7e mx a c)) σ:=by
 rw [Dv (by intros;simp)]
 simp only [Av]
 constructor
 .rintro ⟨v,σ',h,hq⟩
  split at h
  .rename_i k a k' c h1 h2
   split at h
   .rename_i h3
    cases h
    subst h3
    exact ⟨k,a,h1,c,h2,hq⟩
   .cases h
  .cases h
 .rintro ⟨k,a,h1,c,h2,hq⟩
  exact ⟨_,_,by simp only [h1,h2,if_true],hq⟩
@[go_sem] theorem Ar8 {g:Nat} {a c:List AV} {args:List Ax}:Wo A (.call (.c (.f g a c)) args) F σ Q↔Wk A g (a++args.map (Fr.ev F)++c) σ Q:=AcP rfl
@[go_sem] theorem Ar9 {t:Nat} {args:List Ax}:Wo A (.call (.t t) args) F σ Q↔∃ g a c,Fr.tmp F t = .f g a c/\Wk A g (a++args.map (Fr.ev F)++c) σ Q:=by
 constructor
 .rintro ⟨n,v,σ',h,hq⟩
  simp only [B8] at h
  split at h
  .rename_i g a c h1;exact ⟨g,a,c,h1,n,v,σ',h,hq⟩
  .cases h
 .rintro ⟨g,a,c,h1,h2⟩
  exact (AcP (f:=.t t) h1).2 h2
@[go_sem] theorem Amw:CK F σ []=true:=rfl
mutual
theorem A8M:∀ v:AV,AV.eqb v v=true
 | .b x=>by simp [AV.eqb]
 | .i k n=>by simp [AV.eqb]
 | .s x=>by simp [AV.eqb]
 | .p o=>by simp [AV.eqb]
 | .sl o n=>by simp [AV.eqb]
 | .f g a c=>by simp [AV.eqb,Kv a,Kv c]
 | .nf=>rfl
 | .ag cs=>by simp [AV.eqb,Kv cs]
 | .tu cs=>by simp [AV.eqb,Kv cs]
theorem Kv:∀ l:List AV,AV.eqbL l l=true
 | []=>rfl
 | x::xs=>by simp [AV.eqbL,A8M x,Kv xs]
end
theorem Acg {d:Nat} {n:Option Nat} {a:Ax} {r:List AI}:CK F σ (⟨some d,none,.ld n a⟩::r)=true↔(∃ id off,Fr.ev F a = .p (some (id,off))/\σ.loadV n id off=some (Fr.tmp F d))/\CK F σ r=true:=by
 simp only [CK,wanted,cond_true,Bool.and_eq_true]
 refine and_congr ?_ Iff.rfl
 constructor
 .intro h
  split at h
  .rename_i v σ' he
   obtain ⟨id,off,h1,h2,_⟩:=A6O.1 he
   have:=AbF _ _ h
   subst this
   exact ⟨id,off,h1,h2⟩
  .cases h
 .rintro ⟨id,off,h1,h2⟩
  have he:Av (.ld n a) F σ=some (Fr.tmp F d,σ):=A6O.2 ⟨id,off,h1,h2,rfl⟩
  rw [he]
  exact A8M _
attribute [go_sem] Acg
@[go_sem] theorem AtK (x:Bool):(AV.b x).cells=[.b x]:=rfl
@[go_sem] theorem AtM (k:IntKind) (x:Int):(AV.i k x).cells=[.i k x]:=rfl
@[go_sem] theorem AtO (x:ByteArray):(AV.s x).cells=[.s x]:=rfl
@[go_sem] theorem AtN (x:Option (Nat×Nat)):(AV.p x).cells=[.p x]:=rfl
@[go_sem] theorem Arv (x:Option (Nat×Nat)) (n:Nat):(AV.sl x n).cells=[.sl x n]:=rfl
@[go_sem] theorem AtL (g:Nat) (a c:List AV):(AV.f g a c).cells=[.f g a c]:=rfl
@[go_sem] theorem Aru:AV.nf.cells=[.nf]:=rfl
@[go_sem] theorem Art (l:List AV):(AV.ag l).cells=l:=rfl
@[go_sem] theorem AvP (x:Bool):(AV.b x).cell=true:=rfl
@[go_sem] theorem AvR (k:IntKind) (x:Int):(AV.i k x).cell=true:=rfl
@[go_sem] theorem AvT (x:ByteArray):(AV.s x).cell=true:=rfl
@[go_sem] theorem AvS (x:Option (Nat×Nat)):(AV.p x).cell=true:=rfl
@[go_sem] theorem AtJ (x:Option (Nat×Nat)) (n:Nat):(AV.sl x n).cell=true:=rfl
@[go_sem] theorem AvQ (g:Nat) (a c:List AV):(AV.f g a c).cell=true:=rfl
@[go_sem] theorem AtI:AV.nf.cell=true:=rfl
@[go_sem] theorem Amp (cells:List AV):BN F cells []=some cells:=rfl
@[go_sem] theorem AjQ {cells:List AV} {off sz:Nat} {x:Ax} {r:List (Nat×Nat×Ax)} (h1:(Fr.ev F x).cells.length=sz) (h2:(Fr.ev F x).cells.all AV.cell=true) (h3:off+sz<=cells.length):BN F cells ((off,sz,x)::r)=BN F (P8 cells off (Fr.ev F x).cells) r:=by
 have h3':Nat.ble (off+sz) cells.length=true:=by rw [ble_eq];exact h3
 have h1':Nat.beq (Fr.ev F x).cells.length sz=true:=by rw [h1];exact beq_refl sz
 simp only [BN,h1',h2,h3',Bool.and_self,cond_true]
theorem AeF (cells:List AV) (off:Nat) (xs:List AV):P8 cells off xs=cells.take off++xs++cells.drop (off+xs.length):=rfl
attribute [go_sem] AeF length_cons length_nil all_cons List.all_nil Bool.and_self Bool.and_true Bool.true_and List.take_succ_cons List.take_zero List.drop_succ_cons drop_zero List.take_nil List.drop_nil zero_add Nat.add_zero Nat.mul_one Nat.le_refl
@[go_sem] theorem AlM:CA F σ []=some []:=rfl
@[go_sem] theorem Aph {a:Nat}:CA F σ [.t a]=some [Fr.tmp F a]:=rfl
@[go_sem] theorem Api {a b:Nat}:CA F σ [.t a,.t b]=some [Fr.tmp F a,Fr.tmp F b]:=rfl
@[go_sem] theorem Apj {a b c:Nat}:CA F σ [.t a,.t b,.t c]=some [Fr.tmp F a,Fr.tmp F b,Fr.tmp F c]:=rfl
@[go_sem] theorem Axc:A7m [] = .tu []:=rfl
@[go_sem] theorem Axd (v:AV):A7m [v]=v:=rfl
@[go_sem] theorem Axe (v w:AV) (l:List AV):A7m (v::w::l) = .tu (v::w::l):=rfl
attribute [go_sem] decide_true decide_false Bool.not_true Bool.not_false cond_true cond_false not_true_eq_false not_false_eq_true if_true if_false false_and and_false exists_false imp_false
attribute [go_sem] AV.b.injEq AV.i.injEq AV.s.injEq AV.p.injEq AV.sl.injEq AV.f.injEq AV.ag.injEq AV.tu.injEq Option.some.injEq Prod.mk.injEq true_and and_true and_self exists_eq_left' exists_eq' exists_and_left and_assoc
 map_cons map_nil append_nil nil_append cons_append Option.map_some Option.map_none decide_eq_true_eq decide_eq_false_iff_not forall_const Bool.not_eq_true Bool.not_eq_false reduceCtorEq false_implies implies_true
end
theorem Az {x:Int} (h1 : -9223372036854775808<=x) (h2:x < 9223372036854775808):IntKind.i64.wrap x=x:=by
 simp only [IntKind.wrap,IntKind.signed,IntKind.bits]
 simp
 omega
theorem KL (x:Int):IntKind.u64.wrap x=x % 18446744073709551616:=by
 simp [IntKind.wrap,IntKind.signed,IntKind.bits]
section
variable {e:Option Yc} {k:IntKind} {a c:Int}
@[go_sem] theorem Arp:Bq .add e (.i k a) (.i k c)=some (.i k (k.wrap (a+c))):=by simp [Bq,Hu]
@[go_sem] theorem Arr:Bq .sub e (.i k a) (.i k c)=some (.i k (k.wrap (a - c))):=by simp [Bq,Hu]
@[go_sem] theorem Arq:Bq .mul e (.i k a) (.i k c)=some (.i k (k.wrap (a * c))):=by simp [Bq,Hu]
theorem Agz (h:c≠0):Bq .rem e (.i k a) (.i k c)=some (.i k (a.tmod c)):=by simp [Bq,Hu,h]
@[go_sem] theorem A8q:Bq .eql e (.i k a) (.i k c)=some (.b (decide (a=c))):=by
 simp [Bq,Hu]
 by_cases h:a=c<;>simp [h]
@[go_sem] theorem A8r:Bq .neq e (.i k a) (.i k c)=some (.b (!decide (a=c))):=by
 simp [Bq,Hu,bne]
 by_cases h:a=c<;>simp [h]
@[go_sem] theorem Agy:Bq .lss e (.i k a) (.i k c)=some (.b (decide (a < c))):=by simp [Bq,Hu]
@[go_sem] theorem Agx:Bq .leq e (.i k a) (.i k c)=some (.b (decide (a<=c))):=by simp [Bq,Hu]
@[go_sem] theorem Agw:Bq .gtr e (.i k a) (.i k c)=some (.b (decide (c < a))):=by simp [Bq,Hu]
@[go_sem] theorem Agv:Bq .geq e (.i k a) (.i k c)=some (.b (decide (c<=a))):=by simp [Bq,Hu]
end
@[go_sem] theorem Aq2 (x y:Bool):Bq .eql (some .b) (.b x) (.b y)=some (.b (x == y)):=rfl
@[go_sem] theorem Aq3 (x y:Bool):Bq .neq (some .b) (.b x) (.b y)=some (.b (!(x == y))):=rfl
theorem A8x {a b:ByteArray}:a.toList=b.toList↔a=b:=by
 have key:∀ a:ByteArray,a.toList=a.data.toList:=fun a=>by
  simp [ByteArray.toList_eq]
 constructor
 .intro h
  rw [key,key] at h
  cases a;cases b
  simp at h
  rw [h]
 .rintro rfl;rfl
@[go_sem] theorem Aer {e:Option Yc} (x y:ByteArray):Bq .eql e (.s x) (.s y)=some (.b (decide (x=y))):=by
 simp only [Bq,Agu,Option.some.injEq,AV.b.injEq]
 by_cases h:x=y
 .simp [h]
 .have:x.toList≠y.toList:=fun h2=>h (A8x.1 h2)
  simp [h,this]
@[go_sem] theorem Aes {e:Option Yc} (x y:ByteArray):Bq .neq e (.s x) (.s y)=some (.b (!decide (x=y))):=by
 simp only [Bq,Agu,Option.some.injEq,AV.b.injEq]
 by_cases h:x=y
 .simp [h]
 .have:x.toList≠y.toList:=fun h2=>h (A8x.1 h2)
  simp [h,this]
def Wd (w:BitVec 64):AV:=.i .u64 (w.toNat:Int)
theorem JX (w:BitVec 64):BitVec.ofInt 64 (w.toNat:Int)=w:=by
 apply BitVec.eq_of_toNat_eq
 rw [BitVec.ofInt_natCast,BitVec.toNat_ofNat]
 exact Nat.mod_eq_of_lt w.isLt
theorem AcH (w:BitVec 64):IntKind.u64.wrap (w.toNat:Int)=(w.toNat:Int):=by
 rw [KL]
 have:=w.isLt
 omega
section
variable {e:Option Yc} {a b:BitVec 64}
@[go_sem] theorem AyP:AV.i .u64 0=Wd 0#64:=rfl
@[go_sem] theorem AyQ:AV.i .u64 1=Wd 1#64:=rfl
@[go_sem] theorem A8s:Bq .and e (Wd a) (Wd b)=some (Wd (a &&& b)):=by
 simp only [Wd,Bq,Hu,if_true,IntKind.bits,JX,AcH]
 rfl
@[go_sem] theorem Ajt:Bq .or e (Wd a) (Wd b)=some (Wd (a ||| b)):=by
 simp only [Wd,Bq,Hu,if_true,IntKind.bits,JX,AcH]
 rfl
@[go_sem] theorem A8t:Bq .andNot e (Wd a) (Wd b)=some (Wd (a &&& ~~~b)):=by
 simp only [Wd,Bq,Hu,if_true,IntKind.bits,JX,AcH]
 rfl
@[go_sem] theorem AgF:Bq .sub e (Wd a) (Wd b)=some (Wd (a - b)):=by
 simp only [Wd,Bq,Hu,if_true,KL,Option.some.injEq,AV.i.injEq,true_and]
 rw [BitVec.toNat_sub]
 have:=a.isLt;have:=b.isLt
 omega
@[go_sem] theorem AgA:Bq .add e (Wd a) (Wd b)=some (Wd (a+b)):=by
 simp only [Wd,Bq,Hu,if_true,KL,Option.some.injEq,AV.i.injEq,true_and]
 rw [BitVec.toNat_add]
 have:=a.isLt;have:=b.isLt
 omega
@[go_sem] theorem AgB:Bq .eql e (Wd a) (Wd b)=some (.b (decide (a=b))):=by
 simp only [Wd,A8q,Int.natCast_inj,BitVec.toNat_inj]
@[go_sem] theorem AgC:Bq .neq e (Wd a) (Wd b)=some (.b (!decide (a=b))):=by
 simp only [Wd,A8r,Int.natCast_inj,BitVec.toNat_inj]
theorem AgD {n:Nat} (h:n < 64):Bq .shl e (Wd a) (.i .i64 n)=some (Wd (a <<< n)):=by
 have h0:¬ ((n:Int) < 0):=by omega
 simp only [Wd,Bq,Jd,if_neg h0,IntKind.bits,KL,Option.some.injEq,AV.i.injEq,true_and,Int.toNat_natCast]
 rw [Nat.min_eq_left (by omega),BitVec.toNat_shiftLeft,Nat.shiftLeft_eq]
 rw [show ((2:Int) ^ n)=((2 ^ n:Nat):Int) by simp,<- Int.natCast_mul]
 rfl
theorem AgE {n:Nat} (h:n < 64):Bq .shr e (Wd a) (.i .i64 n)=some (Wd (a >>> n)):=by
 have h0:¬ ((n:Int) < 0):=by omega
 simp only [Wd,Bq,Jd,if_neg h0,IntKind.bits,Option.some.injEq,AV.i.injEq,true_and,Int.toNat_natCast]
 rw [Nat.min_eq_left (by omega),BitVec.toNat_ushiftRight,Nat.shiftRight_eq_div_pow]
 rw [show ((2:Int) ^ n)=((2 ^ n:Nat):Int) by simp,Int.fdiv_eq_ediv_of_nonneg _ (Int.natCast_nonneg _)]
 rfl
end
@[go_sem] theorem AV.cell_Wd (w:BitVec 64):(Wd w).cell=true:=rfl
@[go_sem] theorem AV.cells_Wd (w:BitVec 64):(Wd w).cells=[Wd w]:=rfl
end Go.AM
namespace Go.AM
open Go
class Rdr (α:Type) where
 size:Nat
 rd:St->List AV->Option α
 len:∀ {σ:St} {cs:List AV} {x:α},rd σ cs=some x->cs.length=size
 ext:∀ {σ σ':St} {cs:List AV} {x:α},E7 σ σ'->rd σ cs=some x->rd σ' cs=some x
 cell:∀ {σ:St} {cs:List AV} {x:α},rd σ cs=some x->cs.all AV.cell=true
def AdL (cs:List AV):Option Int:=match cs with
 | [.i .i64 n]=>some n
 | _=>none
theorem A1J {cs:List AV} {n:Int}:AdL cs=some n↔cs=[.i .i64 n]:=by
 constructor
 .intro h
  unfold AdL at h
  split at h
  .cases h;rfl
  .cases h
 .rintro rfl;rfl
instance : Rdr Int where
 size:=1
 rd _ cs:=AdL cs
 len h:=by rw [A1J.1 h];rfl
 ext _ h:=h
 cell h:=by rw [A1J.1 h];rfl
def A7n (cs:List AV):Option Bool:=match cs with
 | [.b n]=>some n
 | _=>none
theorem Xd {cs:List AV} {n:Bool}:A7n cs=some n↔cs=[.b n]:=by
 constructor
 .intro h
  unfold A7n at h
  split at h
  .cases h;rfl
  .cases h
 .rintro rfl;rfl
instance : Rdr Bool where
 size:=1
 rd _ cs:=A7n cs
 len h:=by rw [Xd.1 h];rfl
 ext _ h:=h
 cell h:=by rw [Xd.1 h];rfl
def A1L (cs:List AV):Option (BitVec 64):=match cs with
 | [.i .u64 n]=>if 0<=n/\n < 18446744073709551616 then some (BitVec.ofInt 64 n) else none
 | _=>none
theorem Xe {cs:List AV} {n:BitVec 64}:A1L cs=some n↔cs=[Wd n]:=by
 constructor
 .intro h
  unfold A1L at h
  split at h
  .split at h
   .rename_i n hn
    cases h
    simp only [Wd,List.cons.injEq,and_true,AV.i.injEq,true_and]
    obtain ⟨m,rfl⟩:=Int.eq_ofNat_of_zero_le hn.1
    rw [BitVec.ofInt_natCast,BitVec.toNat_ofNat]
    omega
   .cases h
  .cases h
 .rintro rfl
  have:=n.isLt
  simp only [A1L,Wd]
  rw [if_pos (by omega),JX]
instance : Rdr (BitVec 64) where
 size:=1
 rd _ cs:=A1L cs
 len h:=by rw [Xe.1 h];rfl
 ext _ h:=h
 cell h:=by rw [Xe.1 h];rfl
def AdM (cs:List AV):Option ByteArray:=match cs with
 | [.s n]=>some n
 | _=>none
theorem A1K {cs:List AV} {n:ByteArray}:AdM cs=some n↔cs=[.s n]:=by
 constructor
 .intro h
  unfold AdM at h
  split at h
  .cases h;rfl
  .cases h
 .rintro rfl;rfl
instance : Rdr ByteArray where
 size:=1
 rd _ cs:=AdM cs
 len h:=by rw [A1K.1 h];rfl
 ext _ h:=h
 cell h:=by rw [A1K.1 h];rfl
structure U8 where
 n:Nat
def AlK (cs:List AV):Option U8:=match cs with
 | [.i .u8 n]=>if 0<=n/\n < 256 then some ⟨n.toNat⟩ else none
 | _=>none
theorem AdN {cs:List AV} {n:U8}:AlK cs=some n↔cs=[.i .u8 (n.n:Int)]/\n.n < 256:=by
 constructor
 .intro h
  unfold AlK at h
  split at h
  .split at h
   .rename_i n hn
    cases h
    obtain ⟨m,rfl⟩:=Int.eq_ofNat_of_zero_le hn.1
    simp only [Int.toNat_natCast]
    exact ⟨trivial,by omega⟩
   .cases h
  .cases h
 .rintro ⟨rfl,h⟩
  simp only [AlK]
  rw [if_pos (by omega)]
  rfl
instance : Rdr U8 where
 size:=1
 rd _ cs:=AlK cs
 len h:=by rw [(AdN.1 h).1];rfl
 ext _ h:=h
 cell h:=by rw [(AdN.1 h).1];rfl
section
variable {α:Type} [Rdr α]
def KD (σ:St):Nat->List AV->Option (List α)
 | 0,cs=>if cs.length=0 then some [] else none
 | n+1,cs=>match Rdr.rd σ (cs.take (Rdr.size α)),KD σ n (cs.drop (Rdr.size α)) with
  | some x,some xs=>some (x::xs)
  | _,_=>none
theorem Xc {σ:St}:∀ {n:Nat} {cs:List AV} {xs:List α},KD σ n cs=some xs->xs.length=n/\cs.length=n * Rdr.size α:=by
 intro n
 induction n with
 | zero =>
  intro cs xs h
  simp only [KD] at h
  split at h
  .rename_i h0;cases h;exact ⟨rfl,by omega⟩
  .cases h
 | succ n ih =>
  intro cs xs h
  simp only [KD] at h
  split at h
  .rename_i x ys h1 h2
   cases h
   obtain ⟨h3,h4⟩:=ih h2
   have h5:=Rdr.len h1
   rw [length_drop] at h4
   rw [length_take] at h5
   refine ⟨by simp [h3],?_⟩
   rw [succ_mul]
   omega
  .cases h
theorem Afs {σ σ':St} (he:E7 σ σ'):∀ {n:Nat} {cs:List AV} {xs:List α},KD σ n cs=some xs->KD σ' n cs=some xs:=by
 intro n
 induction n with
 | zero=>intro cs xs h;exact h
 | succ n ih =>
  intro cs xs h
  simp only [KD] at h ⊢
  split at h
  .rename_i x ys h1 h2
   rw [Rdr.ext he h1,ih h2]
   exact h
  .cases h
theorem Ai4 {σ:St}:∀ {n:Nat} {cs:List AV} {xs:List α},KD σ n cs=some xs->∀ (i:Nat) (h:i < xs.length),Rdr.rd σ ((cs.drop (i * Rdr.size α)).take (Rdr.size α))=some xs[i]:=by
 intro n
 induction n with
 | zero =>
  intro cs xs h i hi
  simp only [KD] at h
  split at h
  .cases h;simp at hi
  .cases h
 | succ n ih =>
  intro cs xs h i hi
  simp only [KD] at h
  split at h
  .rename_i x ys h1 h2
   cases h
   cases i with
   | zero=>simpa using h1
   | succ i =>
    have:=ih h2 i (by simpa using hi)
    rw [List.drop_drop] at this
    rw [List.getElem_cons_succ,<- this]
    congr 3
    rw [succ_mul]
    omega
  .cases h
def Aft (σ:St) (cs:List AV):Option (List α):=match cs with
 | [.sl o n]=>(HZ (Rdr.size α) o n σ).bind (KD σ n)
 | _=>none
theorem JY {σ:St} {cs:List AV} {xs:List α}:Aft σ cs=some xs↔∃ o ys,cs=[.sl o xs.length]/\HZ (Rdr.size α) o xs.length σ=some ys/\KD σ xs.length ys=some xs:=by
 constructor
 .intro h
  unfold Aft at h
  split at h
  .rename_i o n
   obtain ⟨ys,h1,h2⟩:=Option.bind_eq_some_iff.1 h
   obtain ⟨h3,_⟩:=Xc h2
   subst h3
   exact ⟨o,ys,rfl,h1,h2⟩
  .cases h
 .rintro ⟨o,ys,rfl,h1,h2⟩
  simp only [Aft,h1,bind_some,h2]
theorem Aig {σ σ':St} (he:E7 σ σ') {esz:Nat} {o:Option (Nat×Nat)} {n:Nat} {ys:List AV} (h:HZ esz o n σ=some ys):HZ esz o n σ' = some ys:=by
 unfold HZ at h ⊢
 cases o with
 | none=>exact h
 | some x=>exact he.loadN h
instance : Rdr (List α) where
 size:=1
 rd σ cs:=Aft σ cs
 len h:=by obtain ⟨o,ys,rfl,_⟩:=JY.1 h;rfl
 ext he h:=by
  obtain ⟨o,ys,rfl,h1,h2⟩:=JY.1 h
  exact JY.2 ⟨o,ys,rfl,Aig he h1,Afs he h2⟩
 cell h:=by obtain ⟨o,ys,rfl,_⟩:=JY.1 h;rfl
def Rd (σ:St) (v:AV) (x:α):Prop:=Rdr.rd σ [v]=some x
theorem Rd.ext {σ σ':St} {v:AV} {x:α} (h:Rd σ v x) (he:E7 σ σ'):Rd σ' v x:=Rdr.ext he h
theorem Rd.sl {σ:St} {v:AV} {xs:List α} (h:Rd σ v xs):∃ o,v = .sl o xs.length:=by
 obtain ⟨o,ys,h1,_⟩:=JY.1 h
 simp only [List.cons.injEq,and_true] at h1
 exact ⟨o,h1⟩
theorem Rd.nil {σ:St}:Rd σ (.sl none 0) ([]:List α):=JY.2 ⟨none,[],rfl,rfl,rfl⟩
theorem Rd.at {σ:St} {v:AV} {xs:List α} (h:Rd σ v xs) (hs:0 < Rdr.size α) {i:Nat} (hi:i < xs.length) {k:IntKind} :
  ∃ id off cs,AeQ (Rdr.size α) v (.i k i)=some (.p (some (id,off)))/\σ.loadN id off (Rdr.size α)=some cs/\Rdr.rd σ cs=some xs[i]:=by
 obtain ⟨o,ys,h1,h2,h3⟩:=JY.1 h
 simp only [List.cons.injEq,and_true] at h1
 subst h1
 have h4:=Ai4 h3 i hi
 obtain ⟨_,h5⟩:=Xc h3
 unfold HZ at h2
 cases o with
 | none =>
  simp only at h2
  cases hb:Nat.beq xs.length 0 with
  | false=>rw [hb] at h2;cases h2
  | true=>have:=Nat.eq_of_beq_eq_true hb;omega
 | some x =>
  obtain ⟨id,off⟩:=x
  simp only at h2
  obtain ⟨h6,h7⟩:=Aaa h2
  refine ⟨id,off+i * Rdr.size α,_,?_,?_,h4⟩
  .simp only [AeQ,Int.toNat_natCast]
   rw [if_pos (by omega)]
  .have hle:i * Rdr.size α+Rdr.size α<=xs.length * Rdr.size α:=by
    rw [<- succ_mul]
    exact Nat.mul_le_mul_right _ hi
   refine Ky (by rw [length_take,length_drop];omega) fun j hj=>?_
   rw [Nat.add_assoc,h7 _ (by omega),List.getElem?_take_of_lt hj,List.getElem?_drop]
end
theorem Rd.int {σ:St} {v:AV} {x:Int}:Rd σ v x↔v = .i .i64 x:=by
 show AdL [v]=some x↔_
 rw [A1J]
 simp
theorem Rd.word {σ:St} {v:AV} {x:BitVec 64}:Rd σ v x↔v=Wd x:=by
 show A1L [v]=some x↔_
 rw [Xe]
 simp
theorem Rd.bool {σ:St} {v:AV} {x:Bool}:Rd σ v x↔v = .b x:=by
 show A7n [v]=some x↔_
 rw [Xd]
 simp
theorem Rd.str {σ:St} {v:AV} {x:ByteArray}:Rd σ v x↔v = .s x:=by
 show AdM [v]=some x↔_
 rw [A1K]
 simp
def DF (σ:St) (id ty esz len:Nat) (cells:List AV):Prop :=
 ∃ cs,σ.get id=some { ty:=ty,rw:=true,esz:=esz,len:=len,cs:=cs }/\cells.length=len/\∀ j,j < len->cs.get j=cells[j]?
theorem DF.ext {σ σ':St} {id ty esz len:Nat} {cells:List AV} (h:DF σ id ty esz len cells) (he:E7 σ σ'):DF σ' id ty esz len cells:=by
 obtain ⟨cs,h1,h2⟩:=h
 exact ⟨cs,he.keep _ _ h1,h2⟩
theorem DF.of_get {σ σ':St} {id ty esz len:Nat} {cells:List AV} (h:DF σ id ty esz len cells) (he:σ'.get id=σ.get id):DF σ' id ty esz len cells:=by
 obtain ⟨cs,h1,h2⟩:=h
 exact ⟨cs,he.trans h1,h2⟩
theorem DF.load {σ:St} {id ty esz len:Nat} {cells:List AV} (h:DF σ id ty esz len cells) {j:Nat} (hj:j < len):σ.load1 id j=cells[j]?:=by
 obtain ⟨cs,h1,h2,h3⟩:=h
 unfold St.load1
 rw [h1]
 have:Nat.blt j len=true:=by simpa [blt_eq] using hj
 simp only [this,cond_true]
 exact h3 j hj
theorem DF.new {σ:St} {ty esz len:Nat} {cells:List AV} (hl:cells.length=len):DF (σ.new { ty:=ty,rw:=true,esz:=esz,len:=len,cs:=Tm.ofList cells }) σ.next ty esz len cells :=
 ⟨_,by rw [BJ,if_pos rfl],hl,fun j hj=>Tm.get_ofList cells j⟩
theorem DF.lt {σ:St} {id ty esz len:Nat} {cells:List AV} (h:DF σ id ty esz len cells) (hn:K7 σ):id < σ.next:=by
 obtain ⟨cs,h1,_⟩:=h
 rcases Nat.lt_or_ge id σ.next with h2 | h2
 .exact h2
 .rw [hn _ h2] at h1;cases h1
theorem DF.store {σ:St} {id ty esz len:Nat} {cells:List AV} (h:DF σ id ty esz len cells):∀ {vs:List AV} {off:Nat},off+vs.length<=len->vs.all AV.cell=true ->
  ∃ σ',σ.storeN id off vs=some σ'/\DF σ' id ty esz len (cells.take off++vs++cells.drop (off+vs.length))/\σ'.next=σ.next/\∀ j,j≠id->σ'.get j=σ.get j:=by
 intro vs
 induction vs generalizing σ cells with
 | nil =>
  intro off ho _
  refine ⟨σ,rfl,?_,rfl,fun _ _=>rfl⟩
  simpa using h
 | cons v vs ih =>
  intro off ho hc
  simp only [length_cons] at ho
  simp only [all_cons,Bool.and_eq_true] at hc
  obtain ⟨cs,h1,h2,h3⟩:=h
  have hb:Nat.blt off len=true:=by simp [blt_eq];omega
  have e1:σ.store1 id off v=some (σ.put id { ty:=ty,rw:=true,esz:=esz,len:=len,cs:=cs.set off v }):=by
   unfold St.store1
   rw [h1]
   simp only [hb,hc.1,Bool.and_true,cond_true]
  have o1:DF (σ.put id { ty:=ty,rw:=true,esz:=esz,len:=len,cs:=cs.set off v }) id ty esz len (cells.set off v):=by
   refine ⟨_,by rw [N1,if_pos rfl],by rw [List.length_set];exact h2,fun j hj=>?_⟩
   rw [Tm.get_set,List.getElem?_set]
   by_cases e:j=off
   .subst e;rw [if_pos rfl,if_pos rfl,if_pos (by omega)]
   .rw [if_neg e,if_neg (Ne.symm e)];exact h3 j hj
  obtain ⟨σ',g1,g2,g3,g4⟩:=ih o1 (off:=off+1) (by omega) hc.2
  refine ⟨σ',?_,?_,g3,fun j hj=>?_⟩
  .unfold St.storeN
   rw [e1]
   exact g1
  .have e2:(cells.set off v).take (off+1)++vs++(cells.set off v).drop (off+1+vs.length)=cells.take off++(v::vs)++cells.drop (off+(v::vs).length):=by
    rw [List.take_add_one,List.getElem?_set,if_pos rfl,if_pos (by omega),List.take_set_of_le (by omega),List.drop_set_of_lt (by omega)]
    simp only [Option.toList,List.append_assoc,cons_append,nil_append,length_cons]
    rw [show off+1+vs.length=off+(vs.length+1) by omega]
   rw [e2] at g2
   exact g2
  .rw [g4 j hj,N1,if_neg hj]
def Hr (σ0 σ:St) (v:AV) (ty esz n:Nat) (cells:List AV):Prop :=
 (v = .sl none 0/\n=0/\cells=[])\/∃ id,v = .sl (some (id,0)) n/\σ0.get id=none/\DF σ id ty esz (n * esz) cells
theorem Hr.ext {σ0 σ σ':St} {v:AV} {ty esz n:Nat} {cells:List AV} (h:Hr σ0 σ v ty esz n cells) (he:E7 σ σ'):Hr σ0 σ' v ty esz n cells:=by
 rcases h with h | ⟨id,h1,h2,h3⟩
 .exact .inl h
 .exact .inr ⟨id,h1,h2,h3.ext he⟩
theorem Hr.nil {σ0 σ:St} {ty esz:Nat}:Hr σ0 σ (.sl none 0) ty esz 0 []:=.inl ⟨rfl,rfl,rfl⟩
theorem Hr.sl {σ0 σ:St} {v:AV} {ty esz n:Nat} {cells:List AV} (h:Hr σ0 σ v ty esz n cells):∃ o,v = .sl o n:=by
 rcases h with ⟨rfl,rfl,_⟩ | ⟨id,h1,_⟩
 .exact ⟨none,rfl⟩
 .exact ⟨_,h1⟩
theorem Hr.len {σ0 σ:St} {v:AV} {ty esz n:Nat} {cells:List AV} (h:Hr σ0 σ v ty esz n cells):cells.length=n * esz:=by
 rcases h with ⟨rfl,rfl,rfl⟩ | ⟨id,_,_,h1⟩
 .simp
 .obtain ⟨cs,_,h2,_⟩:=h1;exact h2
theorem Hr.src {σ0 σ:St} {o:Option (Nat×Nat)} {ty esz n:Nat} {cells:List AV} (h:Hr σ0 σ (.sl o n) ty esz n cells):HZ esz o n σ=some cells:=by
 rcases h with ⟨h1,rfl,rfl⟩ | ⟨id,h1,_,h2⟩
 .cases h1;rfl
 .cases h1
  have h4:cells.length=n * esz:=by obtain ⟨cs,_,h4,_⟩:=h2;exact h4
  exact Ky h4 fun j hj=>by rw [zero_add];exact h2.load hj
theorem Hr.rd {α:Type} [Rdr α] {σ0 σ:St} {v:AV} {ty n:Nat} {cells:List AV} {xs:List α} (h:Hr σ0 σ v ty (Rdr.size α) n cells) (hx:KD σ n cells=some xs):Rd σ v xs:=by
 obtain ⟨o,rfl⟩:=h.sl
 obtain ⟨h1,_⟩:=Xc hx
 subst h1
 exact JY.2 ⟨o,cells,rfl,h.src,hx⟩
theorem DF.loadV {σ:St} {id ty esz len:Nat} {cells:List AV} (h:DF σ id ty esz len cells) {j:Nat} (hj:j < len) {c:AV} (hc:cells[j]? = some c):σ.loadV none id j=some c:=(h.load hj).trans hc
theorem E7.upd {a b c:St} (h:E7 a b) {id:Nat} (hid:a.get id=none) (hn:id < b.next) (hx:c.next=b.next) (hg:∀ j,j≠id->c.get j=b.get j):E7 a c:=by
 refine ⟨by rw [hx];exact h.nx,fun j o x=>?_,fun j hj=>?_⟩
 .have:j≠id:=by rintro rfl;rw [hid] at x;cases x
  rw [hg j this]
  exact h.keep _ _ x
 .rw [hx] at hj
  rw [hg j (by omega)]
  exact h.nd _ hj
theorem Hr.upd {σ0 σ σ':St} {v:AV} {ty esz n r:Nat} {cells:List AV} (h:Hr σ0 σ v ty esz n cells) (hne:∀ off n,v≠.sl (some (r,off)) n) (hg:∀ j,j≠r->σ'.get j=σ.get j):Hr σ0 σ' v ty esz n cells:=by
 rcases h with h | ⟨id,h1,h2,h3⟩
 .exact .inl h
 .exact .inr ⟨id,h1,h2,h3.of_get (hg id (by rintro rfl;exact hne _ _ h1))⟩
@[go_sem] theorem Aqa {σ:St} {ty esz len j:Nat} {rw:Bool} {cells:List AV}:(σ.new { ty:=ty,rw:=rw,esz:=esz,len:=len,cs:=Tm.ofList cells }).loadV none σ.next j=if j < len then cells[j]? else none:=by
 show St.load1 _ _ _=_
 unfold St.load1
 rw [BJ,if_pos rfl]
 by_cases h:j < len
 .have:Nat.blt j len=true:=by simpa [blt_eq] using h
  simp only [this,cond_true,if_pos h,Tm.get_ofList]
 .have:Nat.blt j len=false:=by
   cases hb:Nat.blt j len with
   | false=>rfl
   | true=>rw [blt_eq] at hb;exact absurd hb h
  simp only [this,cond_false,if_neg h]
theorem DF.loadAll {σ:St} {id ty esz len:Nat} {cells:List AV} (h:DF σ id ty esz len cells) {off n:Nat} (hn:off+n<=len):σ.loadV (some n) id off=some (.ag ((cells.drop off).take n)):=by
 have hl:cells.length=len:=by obtain ⟨cs,_,h4,_⟩:=h;exact h4
 have:σ.loadN id off n=some ((cells.drop off).take n):=by
  refine Ky (by rw [length_take,length_drop];omega) fun j hj=>?_
  rw [h.load (by omega),List.getElem?_take_of_lt hj,List.getElem?_drop]
 unfold St.loadV
 simp only [this]
@[go_sem] theorem Ap3 {σ:St} {ty esz len n:Nat} {cells:List AV} (h1:cells.length=len) (h2:n=len):(σ.new { ty:=ty,rw:=true,esz:=esz,len:=len,cs:=Tm.ofList cells }).loadV (some n) σ.next 0=some (.ag cells):=by
 have h:DF (σ.new { ty:=ty,rw:=true,esz:=esz,len:=len,cs:=Tm.ofList cells }) σ.next ty esz len cells:=DF.new h1
 subst h2
 rw [h.loadAll (by omega),drop_zero,List.take_of_length_le (by omega)]
theorem Hr.new {σ:St} (hn:K7 σ) {ty esz n:Nat} {cells:List AV} (hl:cells.length=n * esz):Hr σ (σ.new { ty:=ty,rw:=true,esz:=esz,len:=n * esz,cs:=Tm.ofList cells }) (.sl (some (σ.next,0)) n) ty esz n cells :=
 .inr ⟨σ.next,rfl,hn _ (Nat.le_refl _),DF.new hl⟩
theorem Hr.base {σ0 σ1 σ:St} {v:AV} {ty esz n:Nat} {cells:List AV} (h:Hr σ1 σ v ty esz n cells) (he:E7 σ0 σ1):Hr σ0 σ v ty esz n cells:=by
 rcases h with h | ⟨id,e1,e2,e3⟩
 .exact .inl h
 .refine .inr ⟨id,e1,?_,e3⟩
  cases hg:σ0.get id with
  | none=>rfl
  | some ob=>rw [he.keep _ _ hg] at e2;cases e2
def AqM (u v:AV):Prop:=∀ j o1 n1 o2 n2,u = .sl (some (j,o1)) n1->v≠.sl (some (j,o2)) n2
theorem Hr.apart {σb σ σ0:St} {u v:AV} {ty esz n ty' esz' n':Nat} {cells cells':List AV} (h:Hr σb σ u ty esz n cells) (h':Hr σ0 σb v ty' esz' n' cells'):AqM u v:=by
 rintro j o1 n1 o2 n2 rfl rfl
 rcases h with ⟨h1,_⟩ | ⟨id,h1,h2,h3⟩
 .cases h1
 .cases h1
  rcases h' with ⟨g1,_⟩ | ⟨id',g1,g2,cs,g3,_⟩
  .cases g1
  .cases g1
   rw [g3] at h2
   cases h2
end Go.AM
namespace Go.AM
open Go Go.Proofs
def C4 (i:Int):BitVec 64:=if 0<=i/\i < 64 then 1#64 <<< i.toNat else 0#64
def Ca (s:BitVec 64):List Nat:=(List.range 64).filter fun i=>s.getLsbD i
theorem A6U {p q:Nat->Bool} {k:Nat} (h1:p k=true) (h2:∀ j,j < k->p j=false) (h3:∀ j,q j=(p j && j != k)):∀ n,(List.range n).filter p=if k < n then k::(List.range n).filter q else []:=by
 intro n
 induction n with
 | zero=>simp
 | succ n ih =>
  rw [List.range_succ,List.filter_append,List.filter_append,ih]
  rcases Nat.lt_trichotomy k n with h | h | h
  .rw [if_pos h,if_pos (by omega),cons_append]
   congr 2
   have:q n=p n:=by
    rw [h3]
    have:(n != k)=true:=by simp;omega
    rw [this,Bool.and_true]
   simp only [filter_cons,this,List.filter_nil]
  .subst h
   have e:(List.range k).filter q=[]:=by
    rw [List.filter_eq_nil_iff]
    intro j hj
    have:=h2 j (List.mem_range.1 hj)
    simp [h3,this]
   rw [if_neg (by omega),if_pos (by omega),e]
   simp [h1,h3]
  .rw [if_neg (by omega),if_neg (by omega)]
   have:=h2 n h
   simp [this]
theorem AhA (s:BitVec 64) (h:s≠0#64):s.getLsbD (Lib.ctz 64 s.toNat)=true/\(∀ j,j < Lib.ctz 64 s.toNat->s.getLsbD j=false)/\(∀ j,(s &&& (s - 1#64)).getLsbD j=(s.getLsbD j && j != Lib.ctz 64 s.toNat))/\Lib.ctz 64 s.toNat < 64:=by
 have h0:s.toNat≠0:=fun e=>h (BitVec.eq_of_toNat_eq (by simpa using e))
 have hc:Lib.ctz 64 s.toNat=Lib.ctzFrom 64 s.toNat:=by simp [Lib.ctz,h0]
 obtain ⟨m,hm,hk⟩:=Lib.ctzFrom_spec 64 s.toNat (by omega) s.isLt
 rw [hc]
 generalize Lib.ctzFrom 64 s.toNat=k at hm hk
 have hb:∀ j,s.getLsbD j=(decide (j ≥ k) && (2 * m+1).testBit (j - k)):=by
  intro j
  show s.toNat.testBit j=_
  rw [hm,Nat.testBit_two_pow_mul]
 have hp:0 < 2 ^ k:=Nat.two_pow_pos k
 have hs1:(s - 1#64).toNat=2 ^ k * (2 * m)+(2 ^ k - 1):=by
  have h1:(s - 1#64).toNat=s.toNat - 1:=by
   rw [BitVec.toNat_sub]
   have:=s.isLt
   simp
   omega
  rw [h1,hm,Nat.mul_add,Nat.mul_one]
  omega
 have hb1:∀ j,(s - 1#64).getLsbD j=if j < k then (2 ^ k - 1).testBit j else (2 * m).testBit (j - k):=by
  intro j
  show (s - 1#64).toNat.testBit j=_
  rw [hs1,Nat.testBit_two_pow_mul_add _ (by omega)]
 refine ⟨?_,?_,?_,hk⟩
 .rw [hb];simp
 .intro j hj
  rw [hb]
  have:¬ j ≥ k:=by omega
  simp [this]
 .intro j
  rw [BitVec.getLsbD_and,hb1,hb]
  rcases Nat.lt_trichotomy j k with h | h | h
  .have:¬ j ≥ k:=by omega
   simp [this]
  .subst h;simp
  .obtain ⟨d,rfl⟩:∃ d,j=k+(d+1):=⟨j - k - 1,by omega⟩
   have h1:¬ k+(d+1) < k:=by omega
   have h2:k+(d+1) ≥ k:=by omega
   have h3:k+(d+1) - k=d+1:=by omega
   have h4:(k+(d+1) != k)=true:=by simp
   rw [if_neg h1,h3,h4,decide_eq_true h2]
   simp only [Bool.true_and,Bool.and_true,Nat.testBit_succ]
   have:(2 * m+1) / 2=2 * m / 2:=by omega
   rw [this,Bool.and_self]
theorem Ac2 {s:BitVec 64} (h:s≠0#64):Ca s=Lib.ctz 64 s.toNat::Ca (s &&& (s - 1#64)):=by
 obtain ⟨h1,h2,h3,h4⟩:=AhA s h
 have:=A6U (p:=fun j=>s.getLsbD j) (q:=fun j=>(s &&& (s - 1#64)).getLsbD j) h1 h2 h3 64
 rw [if_pos h4] at this
 exact this
theorem Ac3:Ca 0#64=[]:=by simp [Ca]
theorem A1e {s:BitVec 64} {i:Nat} (h:i∈Ca s):i < 64/\s.getLsbD i=true:=by
 simpa [Ca] using h
theorem Nz {s:BitVec 64} {i:Nat}:i∈Ca s↔s.getLsbD i=true:=by
 constructor
 .intro h;exact (A1e h).2
 .intro h
  have:i < 64:=by
   rcases Nat.lt_or_ge i 64 with h1 | h1
   .exact h1
   .rw [BitVec.getLsbD_of_ge _ _ h1] at h;cases h
  simp [Ca,this,h]
theorem CT (i:Int) (j:Nat):(C4 i).getLsbD j=decide ((j:Int)=i/\j < 64):=by
 unfold C4
 split
 .rename_i h
  obtain ⟨n,rfl⟩:=Int.eq_ofNat_of_zero_le h.1
  simp only [Int.toNat_natCast,BitVec.getLsbD_shiftLeft]
  by_cases hj:j < 64
  .by_cases e:j=n
   .subst e;simp [hj]
   .have:¬ ((j:Int)=n):=by omega
    simp only [this,hj]
    simp
    intro h2 h3
    omega
  .simp [hj]
 .rename_i h
  simp
  intro e
  omega
theorem Xu (s:BitVec 64) (i:Int):(s &&& C4 i=0#64)↔¬ (0<=i/\s.getLsbD i.toNat=true):=by
 constructor
 .rintro h ⟨h0,h1⟩
  have:=congrArg (fun x=>x.getLsbD i.toNat) h
  simp only [BitVec.getLsbD_and,h1,Bool.true_and,CT] at this
  have h2:i.toNat < 64:=by
   rcases Nat.lt_or_ge i.toNat 64 with h2 | h2
   .exact h2
   .rw [BitVec.getLsbD_of_ge _ _ h2] at h1;cases h1
  simp at this
  omega
 .intro h
  apply BitVec.eq_of_getLsbD_eq
  intro j hj
  rw [BitVec.getLsbD_and,CT]
  simp
  intro h1 h2
  exfalso
  apply h
  have:i.toNat=j:=by omega
  rw [this]
  exact ⟨by omega,h1⟩
def Bc (s:BitVec 64) (i:Int):Bool:=decide (0<=i) && s.getLsbD i.toNat
theorem Ak1 (s:BitVec 64) (i:Int):(!decide (s &&& C4 i=0#64))=Bc s i:=by
 have h:=Xu s i
 unfold Bc
 cases hb:decide (s &&& C4 i=0#64) with
 | true =>
  have:=h.1 (of_decide_eq_true hb)
  by_cases h0:0<=i
  .cases h1:s.getLsbD i.toNat with
   | false=>simp
   | true=>exact absurd ⟨h0,h1⟩ this
  .simp [h0]
 | false =>
  have h2:¬ s &&& C4 i=0#64:=of_decide_eq_false hb
  have h3:0<=i/\s.getLsbD i.toNat=true:=Classical.byContradiction fun hn=>h2 (h.2 hn)
  simp [h3.1,h3.2]
theorem AC (s:BitVec 64) (i:Nat):Bc s (i:Int)=s.getLsbD i:=by simp [Bc]
def BS (p:Nat->Bool):BitVec 64:=(List.range 64).foldl (fun s i=>if p i then s ||| C4 i else s) 0#64
theorem Au (p:Nat->Bool) (j:Nat):(BS p).getLsbD j=(p j && decide (j < 64)):=by
 have key:∀ n,n<=64->((List.range n).foldl (fun s i=>if p i then s ||| C4 i else s) 0#64).getLsbD j=(p j && decide (j < n)):=by
  intro n
  induction n with
  | zero=>intro _;simp
  | succ n ih =>
   intro hn
   rw [List.range_succ,List.foldl_append,List.foldl_cons,List.foldl_nil]
   have ih:=ih (by omega)
   have h1:decide (j < n+1)=(decide (j < n) || decide (j=n)):=by
    by_cases h:j < n
    .simp [h];omega
    .by_cases h2:j=n
     .simp [h2]
     .simp [h,h2];omega
   split
   .rename_i hp
    rw [BitVec.getLsbD_or,ih,CT,h1]
    by_cases e:j=n
    .subst e
     have:j < 64:=by omega
     simp [hp,this]
    .have:¬ ((j:Int)=n):=by omega
     simp [this,e]
   .rename_i hp
    rw [ih,h1]
    by_cases e:j=n
    .subst e;simp at hp;simp [hp]
    .simp [e]
 exact key 64 (Nat.le_refl _)
theorem B1 {a b:BitVec 64} (h:∀ j,j < 64->a.getLsbD j=b.getLsbD j):a=b:=BitVec.eq_of_getLsbD_eq fun j hj=>h j hj
theorem Rq (p:Nat->Bool) (k:Nat) (hk:k < 64):BS p ||| C4 k=BS (fun j=>p j || decide (j=k)):=by
 apply B1
 intro j hj
 rw [BitVec.getLsbD_or,Au,Au,CT]
 have:(decide ((j:Int)=(k:Int)/\j < 64))=decide (j=k):=by
  by_cases e:j=k
  .subst e;simp [hj]
  .have:¬ ((j:Int)=k):=by omega
   simp [e,this]
 rw [this]
 simp [hj]
theorem BD {p q:Nat->Bool} (h:∀ j,j < 64->p j=q j):BS p=BS q:=by
 apply B1
 intro j hj
 rw [Au,Au,h j hj]
theorem J8:BS (fun _=>false)=0#64:=by
 apply B1
 intro j hj
 rw [Au]
 simp
end Go.AM
namespace Go.AM
open Go
structure AX where
 thread:Int
 up:Int
 kind:Int
 loc:Int
 mode:Int
 val:Int
 rmw:Bool
 fin:Bool
 regs:List Int
 deriving DecidableEq
structure A1 where
 vals:Int
 locs:List ByteArray
 regs:List (List ByteArray)
 nodes:List AX
structure A6 where
 has:List Int
 jf:List Int
 mo:List (List (List Int))
 deriving DecidableEq
structure AqO where
 has:List Int
 rf:List Int
 mo:List (List Int)
 deriving DecidableEq
def X6 (n:AX) (rv:AV):List AV:=[.i .i64 n.thread,.i .i64 n.up,.i .i64 n.kind,.i .i64 n.loc,.i .i64 n.mode,.i .i64 n.val,.b n.rmw,.b n.fin,rv]
def A7o (σ:St) (cs:List AV):Option AX:=match cs with
 | [.i .i64 a,.i .i64 b,.i .i64 c,.i .i64 d,.i .i64 e,.i .i64 f,.b g,.b h,rv]=>match Aft σ [rv] with
  | some rs=>some ⟨a,b,c,d,e,f,g,h,rs⟩
  | none=>none
 | _=>none
theorem NE {σ:St} {cs:List AV} {n:AX}:A7o σ cs=some n↔∃ rv,cs=X6 n rv/\Rd σ rv n.regs:=by
 constructor
 .intro h
  unfold A7o at h
  split at h
  .rename_i a b c d e f g k rv
   split at h
   .rename_i rs hrs
    cases h
    exact ⟨rv,rfl,hrs⟩
   .cases h
  .cases h
 .rintro ⟨rv,rfl,h⟩
  have h':Aft σ [rv]=some n.regs:=h
  simp only [A7o,X6,h']
theorem Rd.cell {α:Type} [Rdr α] {σ:St} {v:AV} {x:α} (h:Rd σ v x):v.cell=true:=by
 have:=Rdr.cell h
 simpa using this
instance : Rdr AX where
 size:=9
 rd σ cs:=A7o σ cs
 len h:=by obtain ⟨rv,rfl,_⟩:=NE.1 h;rfl
 ext he h:=by
  obtain ⟨rv,rfl,h1⟩:=NE.1 h
  exact NE.2 ⟨rv,rfl,h1.ext he⟩
 cell h:=by
  obtain ⟨rv,rfl,h1⟩:=NE.1 h
  have:=h1.cell
  simp only [X6,all_cons,List.all_nil,this]
  rfl
def AfL (t:A1) (a b c:AV):List AV:=[.i .i64 t.vals,a,b,c]
def RdT (σ:St) (v:AV) (t:A1):Prop:=∃ a b c,v = .ag (AfL t a b c)/\Rd σ a t.locs/\Rd σ b t.regs/\Rd σ c t.nodes
theorem RdT.ext {σ σ':St} {v:AV} {t:A1} (h:RdT σ v t) (he:E7 σ σ'):RdT σ' v t:=by
 obtain ⟨a,b,c,h1,h2,h3,h4⟩:=h
 exact ⟨a,b,c,h1,h2.ext he,h3.ext he,h4.ext he⟩
def RdS (σ:St) (v:AV) (s:A6):Prop:=∃ a b c,v = .ag [a,b,c]/\Rd σ a s.has/\Rd σ b s.jf/\Rd σ c s.mo
theorem RdS.ext {σ σ':St} {v:AV} {t:A6} (h:RdS σ v t) (he:E7 σ σ'):RdS σ' v t:=by
 obtain ⟨a,b,c,h1,h2,h3,h4⟩:=h
 exact ⟨a,b,c,h1,h2.ext he,h3.ext he,h4.ext he⟩
def RdE (σ:St) (v:AV) (s:AqO):Prop:=∃ a b c,v = .ag [a,b,c]/\Rd σ a s.has/\Rd σ b s.rf/\Rd σ c s.mo
theorem RdE.ext {σ σ':St} {v:AV} {t:AqO} (h:RdE σ v t) (he:E7 σ σ'):RdE σ' v t:=by
 obtain ⟨a,b,c,h1,h2,h3,h4⟩:=h
 exact ⟨a,b,c,h1,h2.ext he,h3.ext he,h4.ext he⟩
theorem Rd.cells {α:Type} [Rdr α] {σ:St} {v:AV} {x:List α} (h:Rd σ v x):v.cells=[v]:=by
 obtain ⟨o,rfl⟩:=h.sl
 rfl
def enc:List Nat->Nat
 | []=>0
 | b::r=>b+256 * enc r
theorem Jn (a b c d:Nat) (ha:a < 256) (hc:c < 256):(a+256 * b) &&& (c+256 * d)=(a &&& c)+256 * (b &&& d):=by
 have hac:a &&& c < 2 ^ 8:=Nat.and_lt_two_pow _ (by omega)
 apply Nat.eq_of_testBit_eq
 intro j
 rw [Nat.testBit_and]
 rw [show a+256 * b=2 ^ 8 * b+a by omega,show c+256 * d=2 ^ 8 * d+c by omega,show (a &&& c)+256 * (b &&& d)=2 ^ 8 * (b &&& d)+(a &&& c) by omega]
 rw [Nat.testBit_two_pow_mul_add _ (by omega),Nat.testBit_two_pow_mul_add _ (by omega),Nat.testBit_two_pow_mul_add _ hac]
 split<;>rw [Nat.testBit_and]
def f1 (b:Nat):Nat:=(b / 2 &&& 85)+(b &&& 85)
def f2 (b:Nat):Nat:=(b / 4 &&& 51)+(b &&& 51)
def f3 (b:Nat):Nat:=b / 16+b % 16
def pc8 (b:Nat):Nat:=((List.range 8).filter fun i=>b.testBit i).length
theorem k1:∀ b:Fin 256,∀ t:Fin 2,(b.val / 2+128 * t.val) &&& 85=b.val / 2 &&& 85:=by decide +kernel
theorem k2:∀ b:Fin 256,∀ t:Fin 4,(b.val / 4+64 * t.val) &&& 51=b.val / 4 &&& 51:=by decide +kernel
theorem k3:∀ b:Fin 256,∀ t:Fin 5,b.val % 16<=4->b.val / 16<=4->(b.val / 16+16 * t.val+b.val) &&& 15=f3 b.val:=by decide +kernel
theorem k4:∀ b:Fin 256,f1 b.val < 256/\f2 (f1 b.val) < 256/\f2 (f1 b.val) % 16<=4/\f2 (f1 b.val) / 16<=4/\f3 (f2 (f1 b.val))=pc8 b.val/\pc8 b.val<=8:=by decide +kernel
theorem ArC:∀ bs:List Nat,(∀ b∈bs,b < 256)->(enc bs / 2 &&& enc (List.replicate bs.length 85))+(enc bs &&& enc (List.replicate bs.length 85))=enc (bs.map f1)
 | [],_=>by simp [enc]
 | b::r,h=>by
  have hb:=h b (by simp)
  have ih:=ArC r fun x hx=>h x (by simp [hx])
  simp only [length_cons,replicate_succ,enc,map_cons]
  generalize enc r=R at *
  generalize enc (List.replicate r.length 85)=M at *
  have e1:(b+256 * R) / 2=(b / 2+128 * (R % 2))+256 * (R / 2):=by omega
  have e2:=k1 ⟨b,hb⟩ ⟨R % 2,by omega⟩
  simp only at e2
  rw [e1,Jn _ _ _ _ (by omega) (by omega),Jn _ _ _ _ hb (by omega),e2,<- ih,f1]
  omega
theorem ArD:∀ bs:List Nat,(∀ b∈bs,b < 256)->(enc bs / 4 &&& enc (List.replicate bs.length 51))+(enc bs &&& enc (List.replicate bs.length 51))=enc (bs.map f2)
 | [],_=>by simp [enc]
 | b::r,h=>by
  have hb:=h b (by simp)
  have ih:=ArD r fun x hx=>h x (by simp [hx])
  simp only [length_cons,replicate_succ,enc,map_cons]
  generalize enc r=R at *
  generalize enc (List.replicate r.length 51)=M at *
  have e1:(b+256 * R) / 4=(b / 4+64 * (R % 4))+256 * (R / 4):=by omega
  have e2:=k2 ⟨b,hb⟩ ⟨R % 4,by omega⟩
  simp only at e2
  rw [e1,Jn _ _ _ _ (by omega) (by omega),Jn _ _ _ _ hb (by omega),e2,<- ih,f2]
  omega
theorem AjC:∀ bs:List Nat,(∀ b∈bs,b < 256/\b % 16<=4/\b / 16<=4)->enc bs % 16<=4
 | [],_=>by simp [enc]
 | b::r,h=>by
  have hb:=h b (by simp)
  simp only [enc]
  omega
theorem ArE:∀ bs:List Nat,(∀ b∈bs,b < 256/\b % 16<=4/\b / 16<=4)->(enc bs / 16+enc bs) &&& enc (List.replicate bs.length 15)=enc (bs.map f3)
 | [],_=>by simp [enc]
 | b::r,h=>by
  have hb:=h b (by simp)
  have ih:=ArE r fun x hx=>h x (by simp [hx])
  have hm:=AjC r fun x hx=>h x (by simp [hx])
  simp only [length_cons,replicate_succ,enc,map_cons]
  generalize enc r=R at *
  generalize enc (List.replicate r.length 15)=M at *
  have e1:(b+256 * R) / 16+(b+256 * R)=(b / 16+16 * (R % 16)+b)+256 * (R / 16+R):=by omega
  have e2:=k3 ⟨b,hb.1⟩ ⟨R % 16,by omega⟩ hb.2.1 hb.2.2
  simp only at e2
  rw [e1,Jn _ _ _ _ (by omega) (by omega),e2,<- ih]
def Bo (x:Nat):List Nat:=[x % 256,x / 256 % 256,x / 65536 % 256,x / 16777216 % 256,x / 4294967296 % 256,x / 1099511627776 % 256,x / 281474976710656 % 256,x / 72057594037927936 % 256]
theorem AeA {x:Nat} (h:x < 18446744073709551616):enc (Bo x)=x:=by
 simp only [Bo,enc]
 omega
def s1 (x:Nat):Nat:=((x / 2) &&& 6148914691236517205)+(x &&& 6148914691236517205)
def s2 (x:Nat):Nat:=((x / 4) &&& 3689348814741910323)+(x &&& 3689348814741910323)
def s3 (x:Nat):Nat:=(x / 16+x) &&& 1085102592571150095
def s4 (x:Nat):Nat:=x+x / 256
def s5 (x:Nat):Nat:=x+x / 65536
def s6 (x:Nat):Nat:=x+x / 4294967296
theorem M8 {x b:Nat} (hb:b∈Bo x):b < 256:=by
 simp only [Bo,mem_cons,not_mem_nil,or_false] at hb
 omega
theorem m1 (l:List Nat) (h:l.length=8):enc (List.replicate l.length 85)=6148914691236517205:=by rw [h];decide
theorem m2 (l:List Nat) (h:l.length=8):enc (List.replicate l.length 51)=3689348814741910323:=by rw [h];decide
theorem m3 (l:List Nat) (h:l.length=8):enc (List.replicate l.length 15)=1085102592571150095:=by rw [h];decide
theorem bl (x:Nat):(Bo x).length=8:=rfl
theorem Asr {x:Nat} (h:x < 18446744073709551616):s1 x=enc ((Bo x).map f1):=by
 have h1:=ArC (Bo x) fun b hb=>M8 hb
 rw [AeA h,m1 _ (bl x)] at h1
 exact h1
theorem Ass {x:Nat} (h:x < 18446744073709551616):s2 (s1 x)=enc (((Bo x).map f1).map f2):=by
 rw [Asr h]
 have h2:=ArD ((Bo x).map f1) (by
  intro b hb'
  obtain ⟨c,hc,rfl⟩:=List.mem_map.1 hb'
  exact (k4 ⟨c,M8 hc⟩).1)
 rw [m2 _ (by rw [length_map];exact bl x)] at h2
 exact h2
theorem Ast {x:Nat} (h:x < 18446744073709551616):s3 (s2 (s1 x))=enc ((Bo x).map pc8):=by
 rw [Ass h]
 have hg:∀ b∈((Bo x).map f1).map f2,b < 256/\b % 16<=4/\b / 16<=4:=by
  intro b hb'
  obtain ⟨c,hc,rfl⟩:=List.mem_map.1 hb'
  obtain ⟨d,hd,rfl⟩:=List.mem_map.1 hc
  have:=k4 ⟨d,M8 hd⟩
  exact ⟨this.2.1,this.2.2.1,this.2.2.2.1⟩
 have h3:=ArE (((Bo x).map f1).map f2) hg
 rw [m3 _ (by rw [length_map,length_map];exact bl x)] at h3
 have h4:((((Bo x).map f1).map f2).map f3)=(Bo x).map pc8:=by
  rw [List.map_map,List.map_map]
  apply List.map_congr_left
  intro b hb'
  exact (k4 ⟨b,M8 hb'⟩).2.2.2.2.1
 rw [h4] at h3
 exact h3
theorem Axp (p0 p1 p2 p3 p4 p5 p6 p7:Nat) (h0:p0<=8) (h1:p1<=8) (h2:p2<=8) (h3:p3<=8) (h4:p4<=8) (h5:p5<=8) (h6:p6<=8) (h7:p7<=8) :
  s4 (enc [p0,p1,p2,p3,p4,p5,p6,p7])=(p0+p1)+256 * ((p1+p2)+256 * ((p2+p3)+256 * ((p3+p4)+256 * ((p4+p5)+256 * ((p5+p6)+256 * ((p6+p7)+256 * p7)))))):=by
 simp only [enc,s4]
 omega
theorem Axq (q0 q1 q2 q3 q4 q5 q6 q7:Nat) (h0:q0<=16) (h1:q1<=16) (h2:q2<=16) (h3:q3<=16) (h4:q4<=16) (h5:q5<=16) (h6:q6<=16) (h7:q7<=16) :
  s5 (q0+256 * (q1+256 * (q2+256 * (q3+256 * (q4+256 * (q5+256 * (q6+256 * q7)))))))=(q0+q2)+256 * ((q1+q3)+256 * ((q2+q4)+256 * ((q3+q5)+256 * ((q4+q6)+256 * ((q5+q7)+256 * (q6+256 * q7)))))):=by
 simp only [s5]
 omega
theorem Axr (q0 q1 q2 q3 q4 q5 q6 q7:Nat) (h0:q0<=32) (h1:q1<=32) (h2:q2<=32) (h3:q3<=32) (h4:q4<=32) (h5:q5<=32) (h6:q6<=32) (h7:q7<=32) :
  s6 (q0+256 * (q1+256 * (q2+256 * (q3+256 * (q4+256 * (q5+256 * (q6+256 * q7))))))) % 128=(q0+q4) % 128:=by
 simp only [s6]
 have e:(q0+256 * (q1+256 * (q2+256 * (q3+256 * (q4+256 * (q5+256 * (q6+256 * q7))))))) / 4294967296=q4+256 * (q5+256 * (q6+256 * q7)):=by omega
 omega
theorem Axs (p0 p1 p2 p3 p4 p5 p6 p7:Nat) (h0:p0<=8) (h1:p1<=8) (h2:p2<=8) (h3:p3<=8) (h4:p4<=8) (h5:p5<=8) (h6:p6<=8) (h7:p7<=8) :
  s6 (s5 (s4 (enc [p0,p1,p2,p3,p4,p5,p6,p7]))) % 128=p0+p1+p2+p3+p4+p5+p6+p7:=by
 rw [Axp _ _ _ _ _ _ _ _ h0 h1 h2 h3 h4 h5 h6 h7,Axq _ _ _ _ _ _ _ _ (by omega) (by omega) (by omega) (by omega) (by omega) (by omega) (by omega) (by omega),
  Axr _ _ _ _ _ _ _ _ (by omega) (by omega) (by omega) (by omega) (by omega) (by omega) (by omega) (by omega)]
 omega
theorem Axf {x:Nat} (h:x < 18446744073709551616):s6 (s5 (s4 (s3 (s2 (s1 x))))) % 128=((Bo x).map pc8).sum:=by
 rw [Ast h]
 have hp:∀ b∈Bo x,pc8 b<=8:=fun b hb'=>(k4 ⟨b,M8 hb'⟩).2.2.2.2.2
 simp only [Bo,mem_cons,not_mem_nil,or_false,forall_eq_or_imp,forall_eq] at hp
 obtain ⟨h0,h1,h2,h3,h4,h5,h6,h7⟩:=hp
 simp only [Bo,map_cons,map_nil,List.sum_cons,List.sum_nil]
 rw [Axs _ _ _ _ _ _ _ _ h0 h1 h2 h3 h4 h5 h6 h7]
 omega
def cnt (n x:Nat):Nat:=((List.range n).filter fun i=>x.testBit i).length
theorem AgM (n x:Nat):cnt (n+1) x=x % 2+cnt n (x / 2):=by
 unfold cnt
 rw [List.range_succ_eq_map,filter_cons]
 have e:((List.map Nat.succ (List.range n)).filter fun i=>x.testBit i).length=((List.range n).filter fun i=>(x / 2).testBit i).length:=by
  rw [List.filter_map,length_map]
  congr 1
  apply List.filter_congr
  intro i _
  simp [Nat.testBit_succ]
 have h0:x.testBit 0=decide (x % 2=1):=by simp [Nat.testBit_zero]
 rw [h0]
 by_cases h:x % 2=1
 .simp only [h,decide_true,if_true,length_cons,e]
  omega
 .simp only [h,decide_false]
  simp only [Bool.false_eq_true,if_false,e]
  omega
theorem A8A (x:Nat):cnt 0 x=0:=rfl
theorem A8z (n x:Nat):cnt (n+8) x=pc8 (x % 256)+cnt n (x / 256):=by
 have hp:pc8 (x % 256)=cnt 8 (x % 256):=rfl
 rw [hp]
 simp only [AgM,A8A]
 have e:x / 2 / 2 / 2 / 2 / 2 / 2 / 2 / 2=x / 256:=by omega
 rw [e]
 omega
theorem Ary (x:Nat):cnt 64 x=((Bo x).map pc8).sum:=by
 rw [show 64=56+8 from rfl,A8z,show 56=48+8 from rfl,A8z,show 48=40+8 from rfl,A8z,show 40=32+8 from rfl,A8z,show 32=24+8 from rfl,A8z,show 24=16+8 from rfl,A8z,show 16=8+8 from rfl,A8z,show 8=0+8 from rfl,A8z,A8A]
 simp only [Bo,map_cons,map_nil,List.sum_cons,List.sum_nil,Nat.div_div_eq_div_mul]
theorem Afq (w:BitVec 64):s6 (s5 (s4 (s3 (s2 (s1 w.toNat))))) % 128=(Ca w).length:=by
 rw [Axf w.isLt,<- Ary]
 rfl
theorem Axg {x:Nat} (h:x < 18446744073709551616):s1 x < 18446744073709551616/\s2 (s1 x) < 18446744073709551616/\s2 (s1 x) / 16+s2 (s1 x) < 18446744073709551616/\s3 (s2 (s1 x))<=1085102592571150095/\s4 (s3 (s2 (s1 x))) < 18446744073709551616/\s5 (s4 (s3 (s2 (s1 x)))) < 18446744073709551616/\s6 (s5 (s4 (s3 (s2 (s1 x))))) < 9223372036854775808:=by
 have a1:s1 x<=6148914691236517205+6148914691236517205:=Nat.add_le_add Nat.and_le_right Nat.and_le_right
 have a2:s2 (s1 x)<=3689348814741910323+3689348814741910323:=Nat.add_le_add Nat.and_le_right Nat.and_le_right
 have a3:s3 (s2 (s1 x))<=1085102592571150095:=Nat.and_le_right
 refine ⟨by omega,by omega,by omega,a3,?_,?_,?_⟩
 .simp only [s4];omega
 .simp only [s4,s5];omega
 .simp only [s4,s5,s6];omega
abbrev o (d:Nat) (op:By):AI:=⟨some d,none,op⟩
abbrev ov (op:By):AI:=⟨none,none,op⟩
abbrev og (d t:Nat) (w:Bool) (op:By):AI:=⟨some d,some (t,w),op⟩
abbrev ovg (t:Nat) (w:Bool) (op:By):AI:=⟨none,some (t,w),op⟩
abbrev bs (l:List UInt8):ByteArray:=⟨⟨l⟩⟩
abbrev sp (i:Nat) (x:AI):AL:=⟨i,x,[]⟩
abbrev sq (i:Nat) (x:AI) (c:List AI):AL:=⟨i,x,c⟩
section
variable {V:At} {m:Nat->Nat} {F:A4} {h:VH}
@[congr] theorem AqY {F:A4} {F':Unit->A4} {h:VH} {h':Unit->VH} {c:A2} {Q:Ex->A4->VH->Prop} (hF:∀ u:Unit,F=F' u) (hh:∀ u:Unit,h=h' u):Vc V m c F h Q=Vc V m c (F' ()) (h' ()) Q:=by rw [<- hF ()];rw [<- hh ()]
@[congr] theorem Ar1 {F:A4} {F':Unit->A4} {h:VH} {h':Unit->VH} {c:List AI} {Q:A4->VH->Prop} (hF:∀ u:Unit,F=F' u) (hh:∀ u:Unit,h=h' u):Vr V m c F h Q=Vr V m c (F' ()) (h' ()) Q:=by rw [<- hF ()];rw [<- hh ()]
@[congr] theorem Ar2 {F:A4} {F':Unit->A4} {h:VH} {h':Unit->VH} {L:LZ} {c:List AL} {Q:A4->VH->Prop} (hF:∀ u:Unit,F=F' u) (hh:∀ u:Unit,h=h' u):Vs V m c L F h Q=Vs V m c L (F' ()) (h' ()) Q:=by rw [<- hF ()];rw [<- hh ()]
@[congr] theorem Ar0 {k:Nat} {k':Unit->Nat} {op:By} {Q:VV->VH->Prop} (hk:∀ u:Unit,k=k' u):Vo V k op F h Q=Vo V (k' ()) op F h Q:=by rw [<- hk ()]
@[congr] theorem AqX {g:Nat} {a:List VV} {a':Unit->List VV} {Q:VV->Prop} (ha:∀ u:Unit,a=a' u):VP V g a Q=VP V g (a' ()) Q:=by rw [<- ha ()]
@[congr] theorem ApO {g b:Nat} {b':Unit->Nat} {a:List VV} {a':Unit->List VV} {Q:VV->VH->Prop} (ha:∀ u:Unit,a=a' u) (hb:∀ u:Unit,b=b' u):VP1 V g a b Q=VP1 V g (a' ()) (b' ()) Q:=by rw [<- ha ()];rw [<- hb ()]
@[congr] theorem ApP {g:Nat} {a:List VV} {a':Unit->List VV} {h:VH} {h':Unit->VH} {Q:VV->VH->Prop} (ha:∀ u:Unit,a=a' u) (hb:∀ u:Unit,h=h' u):NR V g a h Q=NR V g (a' ()) (h' ()) Q:=by rw [<- ha ()];rw [<- hb ()]
@[congr] theorem ApQ {g:Nat} {a:List VV} {a':Unit->List VV} {h:VH} {h':Unit->VH} {Q:VV->VH->Prop} (ha:∀ u:Unit,a=a' u) (hb:∀ u:Unit,h=h' u):Hs V g a h Q=Hs V g (a' ()) (h' ()) Q:=by rw [<- ha ()];rw [<- hb ()]
def OK {α:Type} (r:Option α) (Q:α->Prop):Prop:=match r with
 | some x=>Q x
 | none=>False
@[congr] theorem AqR {α:Type} {r:Option α} {r':Unit->Option α} {Q:α->Prop} (hr:∀ u:Unit,r=r' u):OK r Q=OK (r' ()) Q:=by rw [<- hr ()]
@[go_sem] theorem A6o {α:Type} {x:α} {Q:α->Prop}:OK (some x) Q↔Q x:=Iff.rfl
@[go_sem] theorem Att {α:Type} {Q:α->Prop}:OK none Q↔False:=Iff.rfl
def ML {α β:Type} (r:Option (α×β)) (Q:α->β->Prop):Prop:=match r with
 | some (x,y)=>Q x y
 | none=>False
@[congr] theorem ApL {α β:Type} {r:Option (α×β)} {r':Unit->Option (α×β)} {Q:α->β->Prop} (hr:∀ u:Unit,r=r' u):ML r Q=ML (r' ()) Q:=by rw [<- hr ()]
@[go_sem] theorem A88 {α β:Type} {x:α} {y:β} {Q:α->β->Prop}:ML (some (x,y)) Q↔Q x y:=Iff.rfl
@[go_sem] theorem AqQ {α β:Type} {Q:α->β->Prop}:ML none Q↔False:=Iff.rfl
theorem JI {α β:Type} {r:Option (α×β)} {Q:α->β->Prop}:ML r Q↔∃ x y,r=some (x,y)/\Q x y:=by
 cases r with
 | none=>simp [ML]
 | some z =>
  obtain ⟨a,b⟩:=z
  exact ⟨fun q=>⟨a,b,rfl,q⟩,fun ⟨x,y,e,q⟩=>by cases e;exact q⟩
def mk {α:Type} (x:α):α:=x
@[go_sem] theorem GI {α:Type} (x:α):mk x=x:=by
 have h:∀ y:α,mk y=y:=fun y=>rfl
 exact h x
theorem RK {α:Type} {r:Option α} {Q:α->Prop}:OK r Q↔∃ x,r=some x/\Q x:=by
 cases r<;>simp [OK]
theorem DG {k:Nat} {op:By} {Q:VV->VH->Prop} (hc:∀ f args,op≠.call f args):Vo V k op F h Q↔ML (DN k op F h) Q:=by
 rw [Ame hc,JI]
section
variable {k:Nat} {Q:VV->VH->Prop}
@[go_sem ↓] theorem AcO {x:Ax}:Vo V k (.mov x) F h Q↔ML (mk (DN k (.mov x) F h)) Q:=DG (by intros;simp)
@[go_sem ↓] theorem Atz {a b c:Ax}:Vo V k (.pick a b c) F h Q↔ML (mk (DN k (.pick a b c) F h)) Q:=DG (by intros;simp)
@[go_sem ↓] theorem Ava {ty n:Nat} {x:Ax}:Vo V k (.box ty n x) F h Q↔ML (mk (DN k (.box ty n x) F h)) Q:=DG (by intros;simp)
@[go_sem ↓] theorem AqZ {z:List AV} {ps:List (Nat×Nat×Ax)}:Vo V k (.build z ps) F h Q↔ML (mk (DN k (.build z ps) F h)) Q:=DG (by intros;simp)
@[go_sem ↓] theorem Avb {t e l:Nat} {z:List AV} {ps:List (Nat×Nat×Ax)}:Vo V k (.bsl t e l z ps) F h Q↔ML (mk (DN k (.bsl t e l z ps) F h)) Q:=DG (by intros;simp)
@[go_sem ↓] theorem AxW {n:Option Nat} {a:Ax}:Vo V k (.ld n a) F h Q↔OK (mk (vld h n (A4.ev F a))) fun v=>Q v h:=by
 rw [DG (by intros;simp),GI]
 simp only [DN]
 cases vld h n (A4.ev F a)<;>exact Iff.rfl
@[go_sem ↓] theorem AxX {n:Nat} {a x:Ax}:Vo V k (.st n a x) F h Q↔ML (mk (DN k (.st n a x) F h)) Q:=DG (by intros;simp)
@[go_sem ↓] theorem Aty {x:Ax}:Vo V k (.nilc x) F h Q↔ML (mk (DN k (.nilc x) F h)) Q:=DG (by intros;simp)
@[go_sem ↓] theorem Abh {op:BinOp} {e:Option Yc} {x y:Ax}:Vo V k (.bin op e x y) F h Q↔OK (mk (Bk op e (A4.ev F x) (A4.ev F y))) fun v=>Q v h:=by
 rw [DG (by intros;simp),GI]
 simp only [DN]
 cases Bk op e (A4.ev F x) (A4.ev F y)<;>exact Iff.rfl
@[go_sem ↓] theorem Avk {x:Ax}:Vo V k (.not x) F h Q↔ML (mk (DN k (.not x) F h)) Q:=DG (by intros;simp)
@[go_sem ↓] theorem Avj {x:Ax}:Vo V k (.neg x) F h Q↔ML (mk (DN k (.neg x) F h)) Q:=DG (by intros;simp)
@[go_sem ↓] theorem Atx {i:IntKind} {x:Ax}:Vo V k (.conv i x) F h Q↔ML (mk (DN k (.conv i x) F h)) Q:=DG (by intros;simp)
@[go_sem ↓] theorem Avg {g:Nat} {a c:List Ax}:Vo V k (.mkf g a c) F h Q↔Q (.f g (a.map (A4.ev F)) (c.map (A4.ev F))) h:=by
 rw [DG (by intros;simp)];exact Iff.rfl
@[go_sem ↓] theorem Avh {t e b:Nat} {z:List AV} {l c:Ax}:Vo V k (.mks t e b z l c) F h Q↔ML (mk (DN k (.mks t e b z l c) F h)) Q:=DG (by intros;simp)
@[go_sem ↓] theorem Avl {e:Nat} {x:Ax} {lo hi:Option Ax}:Vo V k (.slc e x lo hi) F h Q↔OK (mk (AfR h e (A4.ev F x) (lo.map (A4.ev F)) (hi.map (A4.ev F)))) fun v=>Q v h:=by
 rw [DG (by intros;simp),GI]
 simp only [DN]
 cases AfR h e (A4.ev F x) (lo.map (A4.ev F)) (hi.map (A4.ev F))<;>exact Iff.rfl
@[go_sem ↓] theorem AxT {o:Nat} {x:Ax}:Vo V k (.fa o x) F h Q↔ML (mk (DN k (.fa o x) F h)) Q:=DG (by intros;simp)
@[go_sem ↓] theorem AxU {e:Nat} {x i:Ax}:Vo V k (.ia e x i) F h Q↔ML (mk (DN k (.ia e x i) F h)) Q:=DG (by intros;simp)
@[go_sem ↓] theorem Ave {l e:Nat} {x i:Ax}:Vo V k (.iaa l e x i) F h Q↔ML (mk (DN k (.iaa l e x i) F h)) Q:=DG (by intros;simp)
@[go_sem ↓] theorem AxV {x i:Ax}:Vo V k (.ix x i) F h Q↔ML (mk (DN k (.ix x i) F h)) Q:=DG (by intros;simp)
@[go_sem ↓] theorem Avd {x:Ax} {i:Nat}:Vo V k (.ext x i) F h Q↔ML (mk (DN k (.ext x i) F h)) Q:=DG (by intros;simp)
@[go_sem ↓] theorem Avf {s:Bool} {x:Ax}:Vo V k (.len s x) F h Q↔ML (mk (DN k (.len s x) F h)) Q:=DG (by intros;simp)
@[go_sem ↓] theorem Av9 {t e b:Nat} {x y:Ax}:Vo V k (.app t e b x y) F h Q↔ML (mk (Y8 k h t e b (A4.ev F x) (A4.ev F y))) Q:=by
 rw [DG (by intros;simp)];exact Iff.rfl
@[go_sem ↓] theorem Avc {e:Nat} {x y:Ax}:Vo V k (.cpy e x y) F h Q↔ML (mk (AiD h e (A4.ev F x) (A4.ev F y))) Q:=by
 rw [DG (by intros;simp)];exact Iff.rfl
@[go_sem ↓] theorem Avi {b:Bool} {x y:Ax}:Vo V k (.mnx b x y) F h Q↔ML (mk (DN k (.mnx b x y) F h)) Q:=DG (by intros;simp)
def VF (V:At) (k:Nat) (f:VV) (args:List VV) (h:VH) (Q:VV->VH->Prop):Prop:=match f with
 | .f g a c=>(match k with
  | 0=>ML (HQ h (a++args++c)) fun pa ids=>VP V g pa fun r=>Q r (bif scal r then h else BL ids h)
  | 1=>ML (HQ h (a++args++c)) fun pa ids=>VP1 V g pa h.length fun r os=>Q r (BL ids h++os)
  | 2=>NR V g (a++args++c) h Q
  | 4=>NR V g (a++args++c) (BL (Ml (a++args++c) h) h) (fun _ _=>True)/\Hs V g (a++args++c) h Q
  | _=>Hs V g (a++args++c) h Q)
 | _=>False
@[congr] theorem AqT {k:Nat} {k':Unit->Nat} {f:VV} {f':Unit->VV} {a:List VV} {a':Unit->List VV} (hk:∀ u:Unit,k=k' u) (hf:∀ u:Unit,f=f' u) (ha:∀ u:Unit,a=a' u):VF V k f a h Q=VF V (k' ()) (f' ()) (a' ()) h Q:=by rw [<- hk ()];rw [<- hf ()];rw [<- ha ()]
theorem Amd {f:VV} {args:List VV} {g:Nat} {a c:List VV} (hf:f = .f g a c) (hv:VF V k f args h Q):VC V k g (a++args++c) h Q/\VC4 V k g (a++args++c) h:=by
 subst hf
 unfold VF at hv
 unfold VC
 rcases k with _ | _ | _ | _ | _ | k
 .exact ⟨JI.1 hv,fun h=>by cases h⟩
 .exact ⟨JI.1 hv,fun h=>by cases h⟩
 .exact ⟨hv,fun h=>by cases h⟩
 .exact ⟨hv,fun h=>by cases h⟩
 .exact ⟨hv.2,fun _=>hv.1⟩
 .exact ⟨hv,fun h=>by omega⟩
theorem AqU {f:VV} {args:List VV} {g:Nat} {a c:List VV} (hf:f = .f g a c) (hv:VC V k g (a++args++c) h Q) (h4:VC4 V k g (a++args++c) h):VF V k f args h Q:=by
 subst hf
 unfold VF
 unfold VC at hv
 rcases k with _ | _ | _ | _ | _ | k
 .exact JI.2 hv
 .exact JI.2 hv
 .exact hv
 .exact hv
 .exact ⟨h4 rfl,hv⟩
 .exact hv
@[go_sem ↓] theorem Atw {f:Ax} {args:List Ax}:Vo V k (.call f args) F h Q↔VF V k (mk (A4.ev F f)) (args.map (A4.ev F)) h Q:=by
 rw [GI]
 constructor
 .intro hv
  cases hf:A4.ev F f with
  | f g a c=>rw [<- hf];exact AqU hf (Z7 hf hv).1 (Z7 hf hv).2
  | _=>obtain ⟨n,v,h',e,_⟩:=hv;simp [LS,hf] at e
 .intro hv
  cases hf:A4.ev F f with
  | f g a c=>exact Z6 hf (Amd hf hv).1 (Amd hf hv).2
  | _=>rw [hf] at hv;exact hv.elim
@[go_sem] theorem AyG {g:Nat} {a c args:List VV}:VF V 0 (.f g a c) args h Q↔ML (mk (HQ h (a++args++c))) fun pa ids=>VP V g (mk pa) fun r=>Q r (bif scal r then h else BL ids h):=Iff.rfl
@[go_sem] theorem AyH {g:Nat} {a c args:List VV}:VF V 1 (.f g a c) args h Q↔ML (mk (HQ h (a++args++c))) fun pa ids=>VP1 V g (mk pa) h.length fun r os=>Q r (BL ids h++os):=Iff.rfl
@[go_sem] theorem AyI {g:Nat} {a c args:List VV}:VF V 2 (.f g a c) args h Q↔NR V g (mk (a++args++c)) h Q:=Iff.rfl
@[go_sem] theorem AyK {g:Nat} {a c args:List VV}:VF V 4 (.f g a c) args h Q↔NR V g (mk (a++args++c)) (BL (Ml (mk (a++args++c)) h) h) (fun _ _=>True)/\Hs V g (mk (a++args++c)) h Q:=Iff.rfl
@[go_sem] theorem AyJ {g:Nat} {a c args:List VV}:VF V 3 (.f g a c) args h Q↔Hs V g (mk (a++args++c)) h Q:=Iff.rfl
end
section
variable {R:A4->VH->Prop}
@[go_sem ↓] theorem Ajh {d:Option Nat} {op:By} {r:List AI}:Vr V m (⟨d,none,op⟩::r) F h R↔Vo V (EE m d) op F h fun v h'=>Vr V m r (C5 F d v) h' R:=MM
@[go_sem ↓] theorem Agc {d:Nat} {op:By} {r:List AI}:Vr V m (o d op::r) F h R↔Vo V (m d) op F h fun v h'=>Vr V m r (Tm.set F d v) h' R:=MM
@[go_sem ↓] theorem AxZ {op:By} {r:List AI}:Vr V m (ov op::r) F h R↔Vo V 2 op F h fun v h'=>Vr V m r F h' R:=MM
def VG (V:At) (m:Nat->Nat) (v:VV) (w:Bool) (d:Option Nat) (op:By) (r:List AI) (F:A4) (h:VH) (R:A4->VH->Prop):Prop:=match v with
 | .b x=>(bif x == w then Vo V (EE m d) op F h (fun v h'=>Vr V m r (C5 F d v) h' R) else Vr V m r (C5 F d VV.nul) h R)
 | .tu []=>Vr V m r (C5 F d VV.nul) h R
 | _=>False
@[congr] theorem AqV {v:VV} {v':Unit->VV} {w:Bool} {d:Option Nat} {op:By} {r:List AI} (hv:∀ u:Unit,v=v' u):VG V m v w d op r F h R=VG V m (v' ()) w d op r F h R:=by rw [<- hv ()]
@[go_sem ↓] theorem A8g {d:Option Nat} {t:Nat} {w:Bool} {op:By} {r:List AI}:Vr V m (⟨d,some (t,w),op⟩::r) F h R↔VG V m (mk (A4.tmp F t)) w d op r F h R:=by
 rw [GI]
 rw [MM]
 simp only [CW,VG]
 generalize A4.tmp F t=v
 cases v with
 | b x=>cases x<;>cases w<;>rfl
 | tu vs=>cases vs<;>rfl
 | _=>rfl
@[go_sem ↓] theorem AxY {d:Nat} {t:Nat} {w:Bool} {op:By} {r:List AI}:Vr V m (og d t w op::r) F h R↔VG V m (mk (A4.tmp F t)) w (some d) op r F h R:=A8g
@[go_sem ↓] theorem Avm {t:Nat} {w:Bool} {op:By} {r:List AI}:Vr V m (ovg t w op::r) F h R↔VG V m (mk (A4.tmp F t)) w none op r F h R:=A8g
@[go_sem] theorem AxS {d:Option Nat} {op:By} {r:List AI}:VG V m (.b true) true d op r F h R↔Vo V (EE m d) op F h (fun v h'=>Vr V m r (C5 F d v) h' R):=Iff.rfl
@[go_sem] theorem AxP {d:Option Nat} {op:By} {r:List AI}:VG V m (.b false) false d op r F h R↔Vo V (EE m d) op F h (fun v h'=>Vr V m r (C5 F d v) h' R):=Iff.rfl
@[go_sem] theorem AxR {d:Option Nat} {op:By} {r:List AI}:VG V m (.b true) false d op r F h R↔Vr V m r (C5 F d VV.nul) h R:=Iff.rfl
@[go_sem] theorem AxQ {d:Option Nat} {op:By} {r:List AI}:VG V m (.b false) true d op r F h R↔Vr V m r (C5 F d VV.nul) h R:=Iff.rfl
@[go_sem] theorem Av3 {w:Bool} {d:Option Nat} {op:By} {r:List AI}:VG V m VV.nul w d op r F h R↔Vr V m r (C5 F d VV.nul) h R:=Iff.rfl
@[go_sem ↓] theorem HO {i:Nat} {d:Option Nat} {op:By} {c:List AI} {r:List AL} {L:LZ}:Vs V m (⟨i,⟨d,none,op⟩,c⟩::r) L F h R↔Vo V (EE m d) op F h fun v h'=>Cj (C5 F d v) h' (DJ (EE m d) d op F h L) c/\Vs V m r (DJ (EE m d) d op F h L) (C5 F d v) h' R:=Ys
def VGs (V:At) (m:Nat->Nat) (v:VV) (w:Bool) (d:Option Nat) (op:By) (c:List AI) (r:List AL) (L:LZ) (F:A4) (h:VH) (R:A4->VH->Prop):Prop:=match v with
 | .b x=>(bif x == w then Vo V (EE m d) op F h (fun v h'=>Cj (C5 F d v) h' (DJ (EE m d) d op F h L) c/\Vs V m r (DJ (EE m d) d op F h L) (C5 F d v) h' R) else Vs V m r (JL d L) (C5 F d VV.nul) h R)
 | .tu []=>Vs V m r (JL d L) (C5 F d VV.nul) h R
 | _=>False
@[congr] theorem ApN {v:VV} {v':Unit->VV} {w:Bool} {d:Option Nat} {op:By} {c:List AI} {r:List AL} {L:LZ} (hv:∀ u:Unit,v=v' u):VGs V m v w d op c r L F h R=VGs V m (v' ()) w d op c r L F h R:=by rw [<- hv ()]
@[go_sem ↓] theorem QG {i:Nat} {d:Option Nat} {t:Nat} {w:Bool} {op:By} {c:List AI} {r:List AL} {L:LZ}:Vs V m (⟨i,⟨d,some (t,w),op⟩,c⟩::r) L F h R↔VGs V m (mk (A4.tmp F t)) w d op c r L F h R:=by
 rw [Ys,GI]
 simp only [CW,VGs]
 generalize A4.tmp F t=v
 cases v with
 | b x=>cases x<;>cases w<;>rfl
 | tu vs=>cases vs<;>rfl
 | _=>rfl
section
variable {i d t:Nat} {w:Bool} {op:By} {c:List AI} {r:List AL} {L:LZ}
@[go_sem ↓] theorem AtA:Vs V m (sp i (o d op)::r) L F h R↔Vo V (m d) op F h fun v h'=>Vs V m r (DJ (m d) (some d) op F h L) (Tm.set F d v) h' R:=by
 unfold sp o
 rw [HO]
 simp only [Cj,true_and]
 exact Iff.rfl
@[go_sem ↓] theorem Ar4:Vs V m (sp i (ov op)::r) L F h R↔Vo V 2 op F h fun v h'=>Vs V m r (DJ 2 none op F h L) F h' R:=by
 unfold sp ov
 rw [HO]
 simp only [Cj,true_and]
 exact Iff.rfl
@[go_sem ↓] theorem Ar3:Vs V m (sp i (og d t w op)::r) L F h R↔VGs V m (mk (A4.tmp F t)) w (some d) op [] r L F h R:=QG
@[go_sem ↓] theorem ApR:Vs V m (sp i (ovg t w op)::r) L F h R↔VGs V m (mk (A4.tmp F t)) w none op [] r L F h R:=QG
@[go_sem ↓] theorem AtB:Vs V m (sq i (o d op) c::r) L F h R↔Vo V (m d) op F h fun v h'=>Cj (Tm.set F d v) h' (DJ (m d) (some d) op F h L) c/\Vs V m r (DJ (m d) (some d) op F h L) (Tm.set F d v) h' R:=HO
@[go_sem ↓] theorem Ar6:Vs V m (sq i (ov op) c::r) L F h R↔Vo V 2 op F h fun v h'=>Cj F h' (DJ 2 none op F h L) c/\Vs V m r (DJ 2 none op F h L) F h' R:=HO
@[go_sem ↓] theorem Ar5:Vs V m (sq i (og d t w op) c::r) L F h R↔VGs V m (mk (A4.tmp F t)) w (some d) op c r L F h R:=QG
@[go_sem ↓] theorem ApS:Vs V m (sq i (ovg t w op) c::r) L F h R↔VGs V m (mk (A4.tmp F t)) w none op c r L F h R:=QG
end
section
variable {d:Option Nat} {op:By} {c:List AI} {r:List AL} {L:LZ}
@[go_sem] theorem Av7:VGs V m (.b true) true d op c r L F h R↔Vo V (EE m d) op F h (fun v h'=>Cj (C5 F d v) h' (DJ (EE m d) d op F h L) c/\Vs V m r (DJ (EE m d) d op F h L) (C5 F d v) h' R):=Iff.rfl
@[go_sem] theorem Av4:VGs V m (.b false) false d op c r L F h R↔Vo V (EE m d) op F h (fun v h'=>Cj (C5 F d v) h' (DJ (EE m d) d op F h L) c/\Vs V m r (DJ (EE m d) d op F h L) (C5 F d v) h' R):=Iff.rfl
@[go_sem] theorem Av6:VGs V m (.b true) false d op c r L F h R↔Vs V m r (JL d L) (C5 F d VV.nul) h R:=Iff.rfl
@[go_sem] theorem Av5:VGs V m (.b false) true d op c r L F h R↔Vs V m r (JL d L) (C5 F d VV.nul) h R:=Iff.rfl
@[go_sem] theorem Atu {w:Bool}:VGs V m VV.nul w d op c r L F h R↔Vs V m r (JL d L) (C5 F d VV.nul) h R:=Iff.rfl
end
end
section
variable {Q:Ex->A4->VH->Prop}
@[go_sem ↓] theorem AcN:Vc V m .skip F h Q↔Q .norm F h :=
 ⟨fun ⟨n,e,F',h',k,q⟩=>by
  cases n with
  | zero=>simp [AF] at k
  | succ n=>simp only [AF,Option.some.injEq,Prod.mk.injEq] at k;obtain ⟨rfl,rfl,rfl⟩:=k;exact q,fun q=>⟨1,.norm,F,h,rfl,q⟩⟩
@[go_sem ↓] theorem AcM {id:Nat}:Vc V m (.exit id) F h Q↔Q (.exit id) F h :=
 ⟨fun ⟨n,e,F',h',k,q⟩=>by
  cases n with
  | zero=>simp [AF] at k
  | succ n=>simp only [AF,Option.some.injEq,Prod.mk.injEq] at k;obtain ⟨rfl,rfl,rfl⟩:=k;exact q,fun q=>⟨1,.exit id,F,h,rfl,q⟩⟩
@[go_sem ↓] theorem Av8:Vc V m .ret F h Q↔Q .ret F h :=
 ⟨fun ⟨n,e,F',h',k,q⟩=>by
  cases n with
  | zero=>simp [AF] at k
  | succ n=>simp only [AF,Option.some.injEq,Prod.mk.injEq] at k;obtain ⟨rfl,rfl,rfl⟩:=k;exact q,fun q=>⟨1,.ret,F,h,rfl,q⟩⟩
@[go_sem ↓] theorem A6w {ops:List AI}:Vc V m (.reg ops) F h Q↔Vr V m ops F h (Q .norm):=by
 constructor
 .rintro ⟨n,e,F',h',k,q⟩
  cases n with
  | zero=>simp [AF] at k
  | succ n =>
   simp only [AF] at k
   split at k
   .rename_i F1 h1 hr;cases k;exact ⟨n,_,_,hr,q⟩
   .cases k
 .rintro ⟨n,F',h',k,q⟩
  exact ⟨n+1,.norm,F',h',by simp only [AF,k],q⟩
@[go_sem ↓] theorem Atv {ops:List AL}:Vc V m (.dreg ops) F h Q↔Vs V m ops [] F h (Q .norm):=by
 constructor
 .rintro ⟨n,e,F',h',k,q⟩
  cases n with
  | zero=>simp [AF] at k
  | succ n =>
   simp only [AF] at k
   split at k
   .rename_i F1 h1 hr;cases k;exact ⟨n,_,_,hr,q⟩
   .cases k
 .rintro ⟨n,F',h',k,q⟩
  exact ⟨n+1,.norm,F',h',by simp only [AF,k],q⟩
attribute [go_sem ↓] Z8 Agd
@[go_sem ↓] theorem Pw {a b:A2}:Vc V m (.seq a b) F h Q↔Vc V m a F h (fun e F' h'=>match e with | .norm=>Vc V m b F' h' Q | e=>Q e F' h'):=by
 constructor
 .rintro ⟨n,e,F',h',k,q⟩
  cases n with
  | zero=>simp [AF] at k
  | succ n =>
   simp only [AF] at k
   split at k
   .rename_i F1 h1 hr
    exact ⟨n,.norm,F1,h1,hr,n,e,F',h',k,q⟩
   .rename_i hne
    refine ⟨n,e,F',h',k,?_⟩
    cases e with
    | norm=>exact absurd k (hne _ _)
    | _=>exact q
 .rintro ⟨n,e,F1,h1,k,q⟩
  cases e with
  | norm =>
   obtain ⟨j,e,F',h',k2,q⟩:=q
   refine ⟨max n j+1,e,F',h',?_,q⟩
   simp only [AF,CG (Nat.le_max_left n j) k]
   exact CG (Nat.le_max_right n j) k2
  | exit id=>exact ⟨n+1,.exit id,F1,h1,by simp only [AF,k],q⟩
  | ret=>exact ⟨n+1,.ret,F1,h1,by simp only [AF,k],q⟩
def VCn (V:At) (m:Nat->Nat) (v:VV) (a b:A2) (F:A4) (h:VH) (Q:Ex->A4->VH->Prop):Prop:=match v with
 | .b true=>Vc V m a F h Q
 | .b false=>Vc V m b F h Q
 | _=>False
@[congr] theorem ApM {v:VV} {v':Unit->VV} {a b:A2} (hv:∀ u:Unit,v=v' u):VCn V m v a b F h Q=VCn V m (v' ()) a b F h Q:=by rw [<- hv ()]
@[go_sem ↓] theorem AcL {x:Ax} {a b:A2}:Vc V m (.cond x a b) F h Q↔VCn V m (mk (A4.ev F x)) a b F h Q:=by
 rw [GI]
 constructor
 .rintro ⟨n,e,F',h',k,q⟩
  cases n with
  | zero=>simp [AF] at k
  | succ n =>
   simp only [AF] at k
   split at k
   .rename_i hv;rw [hv];exact ⟨n,e,F',h',k,q⟩
   .rename_i hv;rw [hv];exact ⟨n,e,F',h',k,q⟩
   .cases k
 .intro k
  unfold VCn at k
  split at k
  .rename_i hv;obtain ⟨n,e,F',h',k,q⟩:=k;exact ⟨n+1,e,F',h',by simp only [AF,hv];exact k,q⟩
  .rename_i hv;obtain ⟨n,e,F',h',k,q⟩:=k;exact ⟨n+1,e,F',h',by simp only [AF,hv];exact k,q⟩
  .exact k.elim
@[go_sem] theorem Amc {a b:A2}:VCn V m (.b true) a b F h Q↔Vc V m a F h Q:=Iff.rfl
@[go_sem] theorem Amb {a b:A2}:VCn V m (.b false) a b F h Q↔Vc V m b F h Q:=Iff.rfl
theorem A0 {id:Nat} {c:A2}:Vc V m (.block id c) F h Q↔Vc V m c F h (fun e F' h'=>match e with | .exit id'=>(bif Nat.beq id' id then Q .norm F' h' else Q (.exit id') F' h') | e=>Q e F' h'):=by
 constructor
 .rintro ⟨n,e,F',h',k,q⟩
  cases n with
  | zero=>simp [AF] at k
  | succ n =>
   simp only [AF] at k
   split at k
   .rename_i id' F1 h1 hr
    refine ⟨n,.exit id',F1,h1,hr,?_⟩
    simp only
    cases hb:Nat.beq id' id with
    | true=>rw [hb] at k;cases k;exact q
    | false=>rw [hb] at k;cases k;exact q
   .rename_i hne
    refine ⟨n,e,F',h',k,?_⟩
    cases e with
    | exit id'=>exact absurd k (hne _ _ _)
    | _=>exact q
 .rintro ⟨n,e,F1,h1,k,q⟩
  cases e with
  | norm=>exact ⟨n+1,.norm,F1,h1,by simp only [AF,k],q⟩
  | ret=>exact ⟨n+1,.ret,F1,h1,by simp only [AF,k],q⟩
  | exit id' =>
   simp only at q
   cases hb:Nat.beq id' id with
   | true=>rw [hb] at q;exact ⟨n+1,.norm,F1,h1,by simp only [AF,k,hb,cond_true],q⟩
   | false=>rw [hb] at q;exact ⟨n+1,.exit id',F1,h1,by simp only [AF,k,hb,cond_false],q⟩
open Classical in
noncomputable def gcF (h h':VH) (F':A4):A4:=if Qp h.length h h' then GD h.length F' else F'
open Classical in
noncomputable def gcH (h h':VH):VH:=if Qp h.length h h' then h'.take h.length else h'
theorem Yr {c:A2}:Vc V m (.loop c) F h Q↔Vc V m c F h (fun e F' h'=>match e with | .norm=>Vc V m (.loop c) (gcF h h' F') (gcH h h') Q | e=>Q e F' h'):=by
 constructor
 .rintro ⟨n,e,F',h',k,q⟩
  cases n with
  | zero=>simp [AF] at k
  | succ n =>
   simp only [AF] at k
   split at k
   .rename_i F1 h1 hr
    refine ⟨n,.norm,F1,h1,hr,n,e,F',h',?_,q⟩
    unfold gcF gcH
    split at k
    .rename_i hc;rw [if_pos hc,if_pos hc];exact k
    .rename_i hc;rw [if_neg hc,if_neg hc];exact k
   .rename_i hne
    refine ⟨n,e,F',h',k,?_⟩
    cases e with
    | norm=>exact absurd k (hne _ _)
    | _=>exact q
 .rintro ⟨n,e,F1,h1,k,q⟩
  cases e with
  | norm =>
   obtain ⟨j,e,F',h',k2,q⟩:=q
   refine ⟨max n j+1,e,F',h',?_,q⟩
   simp only [AF,CG (Nat.le_max_left n j) k]
   unfold gcF gcH at k2
   split
   .rename_i hc;rw [if_pos hc,if_pos hc] at k2;exact CG (Nat.le_max_right n j) k2
   .rename_i hc;rw [if_neg hc,if_neg hc] at k2;exact CG (Nat.le_max_right n j) k2
  | exit id=>exact ⟨n+1,.exit id,F1,h1,by simp only [AF,k],q⟩
  | ret=>exact ⟨n+1,.ret,F1,h1,by simp only [AF,k],q⟩
def VL (V:At) (m:Nat->Nat) (B:Nat) (c:A2) (F:A4) (h:VH) (Q:Ex->A4->VH->Prop):Prop:=Vc V m (.block B (.loop c)) F h Q
@[congr] theorem AqW {B:Nat} {c:A2} {F:A4} {F':Unit->A4} {h:VH} {h':Unit->VH} (hF:∀ u:Unit,F=F' u) (hh:∀ u:Unit,h=h' u):VL V m B c F h Q=VL V m B c (F' ()) (h' ()) Q:=by rw [<- hF ()];rw [<- hh ()]
@[go_sem ↓] theorem Ajg {B:Nat} {c:A2}:Vc V m (.block B (.loop c)) F h Q↔VL V m B c (mk F) h Q:=Iff.rfl
theorem AT {M:Type} (I:M->A4->VH->Prop) (μ:M->Nat) {c:A2}
  (k:∀ x F h,I x F h->Vc V m c F h (fun e F' h'=>match e with | .norm=>Qp h.length h h'/\∃ x',μ x' < μ x/\I x' (GD h.length F') (h'.take h.length) | e=>Q e F' h')):∀ x F h,I x F h->Vc V m (.loop c) F h Q:=by
 have key:∀ j x F h,μ x<=j->I x F h->Vc V m (.loop c) F h Q:=by
  intro j
  induction j with
  | zero =>
   intro x F h hj hi
   rw [Yr]
   refine (k x F h hi).mono fun e F' h' hq=>?_
   cases e with
   | norm=>obtain ⟨_,x',h1,_⟩:=hq;omega
   | _=>exact hq
  | succ j ih =>
   intro x F h hj hi
   rw [Yr]
   refine (k x F h hi).mono fun e F' h' hq=>?_
   cases e with
   | norm =>
    obtain ⟨h0,x',h1,h2⟩:=hq
    unfold gcF gcH
    rw [if_pos h0,if_pos h0]
    exact ih x' _ _ (by omega) h2
   | _=>exact hq
 exact fun x F h hi=>key _ x F h (Nat.le_refl _) hi
end
theorem A6u {vf:HE} {args:List VV} {Q:VV->VH->Prop}:Vb V vf args h Q↔Vc V vf.m vf.af.body (Tm.ofList args) h (fun e F' h'=>(match e with | .exit _=>False | _=>True)/\OK (CV F' h' vf.af.results) fun vs=>Q (LT vs) h'):=by
 unfold Vb Vc JD
 constructor
 .rintro ⟨n,v,h',k,q⟩
  split at k
  .rename_i F1 h1 hr
   split at k
   .rename_i vs hvs;cases k;exact ⟨n,_,_,_,hr,trivial,RK.2 ⟨vs,hvs,q⟩⟩
   .cases k
  .rename_i F1 h1 hr
   split at k
   .rename_i vs hvs;cases k;exact ⟨n,_,_,_,hr,trivial,RK.2 ⟨vs,hvs,q⟩⟩
   .cases k
  .cases k
 .rintro ⟨n,e,F1,h1,k,he,hq⟩
  obtain ⟨vs,hvs,q⟩:=RK.1 hq
  cases e with
  | exit id=>exact he.elim
  | norm=>exact ⟨n,LT vs,h1,by simp only [k,hvs],q⟩
  | ret=>exact ⟨n,LT vs,h1,by simp only [k,hvs],q⟩
theorem Ad {g:Nat} {af:A3} {mm:Nat->Nat} (hx:V.ext g=none) (hf:V.fn g=some ⟨af,mm⟩) {args:List VV} {Q:VV->Prop} :
  VP V g args Q↔Vc V mm af.body (Tm.ofList args) [] (fun e F' h'=>(match e with | .exit _=>False | _=>True)/\OK (mk (CV F' h' af.results)) fun vs=>ML (mk (frz h' dF (LT vs))) fun r _=>Q r):=by
 unfold VP
 rw [hx]
 simp only [hf,Option.some.injEq,exists_eq_left',A6u,RK,JI,GI]
theorem K9 {g:Nat} {af:A3} {mm:Nat->Nat} (hf:V.fn g=some ⟨af,mm⟩) {args:List VV} {b:Nat} {Q:VV->VH->Prop} :
  VP1 V g args b Q↔Vc V mm af.body (Tm.ofList args) [] (fun e F' h'=>(match e with | .exit _=>False | _=>True)/\OK (mk (CV F' h' af.results)) fun vs=>ML (mk (BF h' dF b (LT vs))) fun r T=>(T.moved.Nodup/\∀ id∈T.moved,id∉T.frozen)/\Q r T.objs):=by
 unfold VP1
 simp only [hf,Option.some.injEq,exists_eq_left',A6u,RK,JI,true_and,GI]
theorem GN {g:Nat} {af:A3} {mm:Nat->Nat} (hf:V.fnH g=some ⟨af,mm⟩) {args:List VV} {Q:VV->VH->Prop} :
  NR V g args h Q↔Vc V mm af.body (Tm.ofList args) h (fun e F' h'=>(match e with | .exit _=>False | _=>True)/\OK (mk (CV F' h' af.results)) fun vs=>Q (LT vs) h'):=by
 unfold NR
 simp only [hf,Option.some.injEq,exists_eq_left',A6u,true_and,GI]
theorem Cm {g:Nat} {af:A3} {mm:Nat->Nat} (hf:V.fnH g=some ⟨af,mm⟩) {args:List VV} {Q:VV->VH->Prop} :
  Hs V g args h Q↔Vc V mm af.body (Tm.ofList args) h (fun e F' h'=>(match e with | .exit _=>False | _=>True)/\OK (mk (CV F' h' af.results)) fun vs=>ML (mk (frz h' dF (LT vs))) fun r ids=>Qp h.length h (BL ids h')/\Q r ((BL ids h').take h.length)):=by
 unfold Hs
 simp only [hf,Option.some.injEq,exists_eq_left',A6u,RK,JI,true_and,GI]
@[go_sem] theorem AuV (F:A4) (k:Nat) (v:VV):A4.tmp (Tm.set F k v) k=v:=by rw [KK,if_pos rfl]
@[go_sem] theorem AuW (F:A4) (k:Nat) (v:VV) {j:Nat} (h:(j == k)=false):A4.tmp (Tm.set F k v) j=A4.tmp F j:=by
 rw [KK,if_neg (by intro e;subst e;simp at h)]
attribute [go_sem] NJ Nat.reduceBeqDiff
def A7R (l:List VV) (j:Nat):VV:=match l[j]? with | some v=>v | none=>VV.nul
@[go_sem] theorem AmJ (l:List VV) (j:Nat):A4.tmp (Tm.ofList l) j=A7R l j:=by
 unfold A4.tmp A7R
 rw [Tm.get_ofList]
 cases l[j]?<;>rfl
@[go_sem] theorem Ath (j:Nat):A7R [] j=VV.nul:=by simp [A7R]
@[go_sem] theorem AqK (a:VV) (l:List VV):A7R (a::l) 0=a:=by simp [A7R]
@[go_sem] theorem AqJ (a:VV) (l:List VV) (j:Nat):A7R (a::l) (j+1)=A7R l j:=by simp [A7R]
@[go_sem] theorem ApB (F:A4) (d:Nat) (v:VV):C5 F (some d) v=Tm.set F d v:=rfl
@[go_sem] theorem ApA (F:A4) (v:VV):C5 F none v=F:=rfl
@[go_sem] theorem AaX (F:A4) (n:Nat):A4.ev F (.t n)=A4.tmp F n:=rfl
@[go_sem] theorem AmH (F:A4) (v:AV):A4.ev F (.c v)=Mt v:=rfl
@[go_sem] theorem Aq6 (d:Nat):EE m (some d)=m d:=rfl
@[go_sem] theorem Aq5:EE m none=2:=rfl
@[go_sem] theorem Ax7 (x:Bool):Mt (.b x) = .b x:=rfl
@[go_sem] theorem AhO (k:IntKind) (n:Int):Mt (.i k n) = .i k n:=rfl
@[go_sem] theorem Ax9 (x:ByteArray):Mt (.s x) = .s x:=rfl
@[go_sem] theorem Auf (w:BitVec 64):Mt (Wd w) = .i .u64 (w.toNat:Int):=rfl
@[go_sem] theorem Auj:Mt (.p none) = .np:=rfl
@[go_sem] theorem Aui:Mt (.sl none 0) = .nl:=rfl
@[go_sem] theorem Auh:Mt .nf = .nf:=rfl
@[go_sem] theorem Ax8 (g:Nat) (a c:List AV):Mt (.f g a c) = .f g (D2 a) (D2 c):=rfl
@[go_sem] theorem Aug (c:List AV):Mt (.ag c) = .ag (D2 c):=rfl
@[go_sem] theorem Auk (c:List AV):Mt (.tu c) = .tu (D2 c):=rfl
@[go_sem] theorem Aqg:D2 []=[]:=rfl
@[go_sem] theorem Apc (v:AV) (vs:List AV):D2 (v::vs)=Mt v::D2 vs:=rfl
@[go_sem] theorem Atc (x:Bool):(VV.b x).cells=[.b x]:=rfl
@[go_sem] theorem Ate (k:IntKind) (x:Int):(VV.i k x).cells=[.i k x]:=rfl
@[go_sem] theorem Atg (x:ByteArray):(VV.s x).cells=[.s x]:=rfl
@[go_sem] theorem AqF:VV.nf.cells=[.nf]:=rfl
@[go_sem] theorem AqH:VV.np.cells=[.np]:=rfl
@[go_sem] theorem AqG:VV.nl.cells=[.nl]:=rfl
@[go_sem] theorem Atf (a b c d:Nat):(VV.p a b c d).cells=[.p a b c d]:=rfl
@[go_sem] theorem AqD (a:List VV) (c:Nat):(VV.fp a c).cells=[.fp a c]:=rfl
@[go_sem] theorem AqI (a b c d:Nat):(VV.sl a b c d).cells=[.sl a b c d]:=rfl
@[go_sem] theorem AqE (r:List (List VV)):(VV.ls r).cells=[.ls r]:=rfl
@[go_sem] theorem Atd (g:Nat) (a c:List VV):(VV.f g a c).cells=[.f g a c]:=rfl
@[go_sem] theorem AqC (l:List VV):(VV.ag l).cells=l:=rfl
@[go_sem] theorem AuH (x:Bool):(VV.b x).cell=true:=rfl
@[go_sem] theorem AuJ (k:IntKind) (x:Int):(VV.i k x).cell=true:=rfl
@[go_sem] theorem AuL (x:ByteArray):(VV.s x).cell=true:=rfl
@[go_sem] theorem At8:VV.nf.cell=true:=rfl
@[go_sem] theorem Ata:VV.np.cell=true:=rfl
@[go_sem] theorem At9:VV.nl.cell=true:=rfl
@[go_sem] theorem AuK (a b c d:Nat):(VV.p a b c d).cell=true:=rfl
@[go_sem] theorem At6 (a:List VV) (c:Nat):(VV.fp a c).cell=true:=rfl
@[go_sem] theorem Atb (a b c d:Nat):(VV.sl a b c d).cell=true:=rfl
@[go_sem] theorem At7 (r:List (List VV)):(VV.ls r).cell=true:=rfl
@[go_sem] theorem AuI (g:Nat) (a c:List VV):(VV.f g a c).cell=true:=rfl
@[go_sem] theorem JW (a b:Nat):Nat.beq a b=decide (a=b):=by
 cases e:Nat.beq a b with
 | true=>rw [Nat.eq_of_beq_eq_true e];simp
 | false=>symm;rw [decide_eq_false_iff_not];rintro rfl;rw [beq_refl] at e;cases e
@[go_sem] theorem YM (a b:Nat):Nat.ble a b=decide (a<=b):=by
 cases e:Nat.ble a b with
 | true=>rw [ble_eq] at e;simp [e]
 | false=>symm;rw [decide_eq_false_iff_not,<- ble_eq,e];simp
@[go_sem] theorem Adz (a b:Nat):Nat.blt a b=decide (a < b):=YM _ _
def A7f (k:Nat) (v:VV) (h:VH):Option (VV×VH):=match k with
 | 2=>(match AZ h.length v.cells with
   | (ws,os)=>(match v with
    | .ag _=>some (.ag ws,h++os)
    | .nl=>(match ws with | [w]=>some (w,h++os) | _=>none)
    | v=>some (v,h)))
 | 5=>(match frz h dF v with
  | some (r,ids)=>some (r,BL ids h)
  | none=>none)
 | _=>some (v,h)
@[go_sem ↓] theorem Ae2 {k:Nat} {x:Ax}:DN k (.mov x) F h=A7f k (A4.ev F x) h:=rfl
@[go_sem] theorem AhL (v:VV):A7f 0 v h=some (v,h):=rfl
@[go_sem] theorem AwV (v:VV):A7f 5 v h=(match frz h 8 v with
  | some (r,ids)=>some (r,BL ids h)
  | none=>none):=rfl
@[go_sem] theorem AwU (v:VV):A7f 1 v h=some (v,h):=rfl
@[go_sem] theorem Au6:A7f 2 .nl h=some (.sl h.length 0 0 0,h++[some { ty:=0,esz:=0,ver:=0,nl:=true,rows:=[] }]):=rfl
@[go_sem] theorem Au4 (cs:List VV):A7f 2 (.ag cs) h=some (.ag (AZ h.length cs).1,h++(AZ h.length cs).2):=rfl
@[go_sem] theorem Au7 (a b c d:Nat):A7f 2 (.sl a b c d) h=some (.sl a b c d,h):=rfl
@[go_sem] theorem Au5 (l:List (List VV)):A7f 2 (.ls l) h=some (.ls l,h):=rfl
@[go_sem] theorem AwW (k:IntKind) (n:Int):A7f 2 (.i k n) h=some (.i k n,h):=rfl
def Ai2 (c a b:VV) (h:VH):Option (VV×VH):=match c with
 | .b t=>some (bif t then a else b,h)
 | _=>none
@[go_sem ↓] theorem Atk {k:Nat} {c a b:Ax}:DN k (.pick c a b) F h=Ai2 (A4.ev F c) (A4.ev F a) (A4.ev F b) h:=rfl
@[go_sem] theorem Aun (a b:VV):Ai2 (.b true) a b h=some (a,h):=rfl
@[go_sem] theorem Aum (a b:VV):Ai2 (.b false) a b h=some (b,h):=rfl
def Ajv (k ty n:Nat) (cs:List VV) (h:VH):Option (VV×VH) :=
  bif Nat.beq cs.length n && cs.all VV.cell then
   match k with
   | 0=>(match HQ h cs with
    | some (cs',ids)=>some (.fp cs' 0,BL ids h)
    | none=>none)
   | 1=>some (.p h.length 0 0 0,h++[some { ty:=ty,esz:=0,ver:=0,nl:=false,rows:=[cs] }])
   | _=>(match AZ h.length cs with
    | (ws,os)=>some (.p (h++os).length 0 0 0,h++os++[some { ty:=ty,esz:=0,ver:=0,nl:=false,rows:=[ws] }]))
  else none
@[go_sem ↓] theorem AuM {k ty n:Nat} {x:Ax}:DN k (.box ty n x) F h=Ajv k ty n (A4.ev F x).cells h:=rfl
@[go_sem] theorem AvK (ty n:Nat) (cs:List VV):Ajv 0 ty n cs h=bif decide (cs.length=n) && cs.all VV.cell then (match HQ h cs with
        | some (cs',ids)=>some (.fp cs' 0,BL ids h)
        | none=>none) else none:=by rw [<- JW];rfl
@[go_sem] theorem AvL (ty n:Nat) (cs:List VV):Ajv 1 ty n cs h=bif decide (cs.length=n) && cs.all VV.cell then some (.p h.length 0 0 0,h++[some { ty:=ty,esz:=0,ver:=0,nl:=false,rows:=[cs] }]) else none:=by rw [<- JW];rfl
@[go_sem] theorem AvM (ty n:Nat) (cs:List VV):Ajv 2 ty n cs h=bif decide (cs.length=n) && cs.all VV.cell then some (.p (h++(AZ h.length cs).2).length 0 0 0,h++(AZ h.length cs).2++[some { ty:=ty,esz:=0,ver:=0,nl:=false,rows:=[(AZ h.length cs).1] }]) else none:=by rw [<- JW];rfl
def agV (k:Nat) (r:Option (List VV)) (h:VH):Option (VV×VH):=match r with
 | some cs=>(match k with
  | 2=>(match AZ h.length cs with | (ws,os)=>some (.ag ws,h++os))
  | _=>some (.ag cs,h))
 | none=>none
@[go_sem ↓] theorem AqL {k:Nat} {z:List AV} {ps:List (Nat×Nat×Ax)}:DN k (.build z ps) F h=agV k (Gv F (D2 z) ps) h:=rfl
@[go_sem] theorem Ark (cs:List VV):agV 0 (some cs) h=some (.ag cs,h):=rfl
@[go_sem] theorem Aq0 (cs:List VV):agV 1 (some cs) h=some (.ag cs,h):=rfl
@[go_sem] theorem Aq1 (cs:List VV):agV 2 (some cs) h=some (.ag (AZ h.length cs).1,h++(AZ h.length cs).2):=rfl
def Ank (k ty esz len:Nat) (r:Option (List VV)) (h:VH):Option (VV×VH):=match r with
  | some cs=>bif Nat.beq cs.length (len * esz) && Nat.blt 0 esz && cs.all VV.cell then
    match k with
    | 0=>(match AbL h (Dp esz len cs) with
     | some (rs,ids)=>some (.ls rs,BL ids h)
     | none=>none)
    | _=>some (.sl h.length 0 0 len,h++[some { ty:=ty,esz:=esz,ver:=0,nl:=false,rows:=Dp esz len cs }])
   else none
  | none=>none
@[go_sem ↓] theorem AuN {k ty esz len:Nat} {z:List AV} {ps:List (Nat×Nat×Ax)}:DN k (.bsl ty esz len z ps) F h=Ank k ty esz len (Gv F (D2 z) ps) h:=rfl
@[go_sem] theorem AvN (ty esz len:Nat) (cs:List VV):Ank 0 ty esz len (some cs) h=bif decide (cs.length=len * esz) && decide (0 < esz) && cs.all VV.cell then (match AbL h (Dp esz len cs) with
          | some (rs,ids)=>some (.ls rs,BL ids h)
          | none=>none) else none:=by rw [<- JW,<- Adz];rfl
@[go_sem] theorem AvO (ty esz len:Nat) (cs:List VV):Ank 1 ty esz len (some cs) h=bif decide (cs.length=len * esz) && decide (0 < esz) && cs.all VV.cell then some (.sl h.length 0 0 len,h++[some { ty:=ty,esz:=esz,ver:=0,nl:=false,rows:=Dp esz len cs }]) else none:=by rw [<- JW,<- Adz];rfl
def stV (n:Nat) (a:VV) (cs:List VV) (h:VH):Option (VV×VH) :=
  bif Nat.beq cs.length n then (match vst h a cs with | some h'=>some (VV.nul,h') | none=>none) else none
@[go_sem ↓] theorem AxL {k n:Nat} {a x:Ax}:DN k (.st n a x) F h=stV n (A4.ev F a) (A4.ev F x).cells h:=rfl
def stO (id r c:Nat) (cs:List VV) (h:VH) (o:Option VO):Option (VV×VH):=match o with
 | some o=>(match o.rows[r]? with
   | some row=>bif Nat.ble (c+cs.length) row.length && cs.all VV.cell then some (VV.nul,h.set id (some { o with rows:=o.rows.set r (EL row c cs) })) else none
   | none=>none)
 | none=>none
@[go_sem] theorem Ayv (n id ver r c:Nat) (cs:List VV):stV n (.p id ver r c) cs h=bif decide (cs.length=n) then stO id r c cs h (Cp h id ver) else none:=by
 rw [<- JW]
 unfold stV stO vst
 cases Nat.beq cs.length n with
 | false=>rfl
 | true =>
  simp only [cond_true]
  cases Cp h id ver with
  | none=>rfl
  | some o =>
   simp only
   cases o.rows[r]? with
   | none=>rfl
   | some row =>
    simp only
    cases (Nat.ble (c+cs.length) row.length && cs.all VV.cell)<;>rfl
@[go_sem] theorem Asx (id r c:Nat) (cs:List VV) (o:VO):stO id r c cs h (some o)=(match o.rows[r]? with
      | some row=>bif decide (c+cs.length<=row.length) && cs.all VV.cell then some (VV.nul,h.set id (some { o with rows:=o.rows.set r (EL row c cs) })) else none
      | none=>none):=by
  unfold stO
  simp only [YM]
def AdB (v:VV) (h:VH):Option (VV×VH):=match v with
  | .p id ver r c=>some (.p id ver r c,h)
  | .fp cells c=>some (.fp cells c,h)
  | .f g a c=>some (.f g a c,h)
  | _=>none
@[go_sem ↓] theorem Atj {k:Nat} {x:Ax}:DN k (.nilc x) F h=AdB (A4.ev F x) h:=rfl
@[go_sem] theorem Aud (id ver r c:Nat):AdB (.p id ver r c) h=some (.p id ver r c,h):=rfl
@[go_sem] theorem Asj (l:List VV) (c:Nat):AdB (.fp l c) h=some (.fp l c,h):=rfl
@[go_sem] theorem Auc (g:Nat) (a c:List VV):AdB (.f g a c) h=some (.f g a c,h):=rfl
def Ask (v:VV) (h:VH):Option (VV×VH):=match v with | .b t=>some (.b (!t),h) | _=>none
@[go_sem ↓] theorem AuU {k:Nat} {x:Ax}:DN k (.not x) F h=Ask (A4.ev F x) h:=rfl
@[go_sem] theorem Ax6 (t:Bool):Ask (.b t) h=some (.b (!t),h):=rfl
def Asg (v:VV) (h:VH):Option (VV×VH):=match v with | .i k n=>some (.i k (k.wrap (0 - n)),h) | _=>none
@[go_sem ↓] theorem AuT {k:Nat} {x:Ax}:DN k (.neg x) F h=Asg (A4.ev F x) h:=rfl
@[go_sem] theorem Ax5 (k:IntKind) (n:Int):Asg (.i k n) h=some (.i k (k.wrap (0 - n)),h):=rfl
def AgT (k:IntKind) (v:VV) (h:VH):Option (VV×VH):=match v with | .i _ n=>some (.i k (k.wrap n),h) | _=>none
@[go_sem ↓] theorem Ati {k:Nat} {i:IntKind} {x:Ax}:DN k (.conv i x) F h=AgT i (A4.ev F x) h:=rfl
@[go_sem] theorem AtT (k i:IntKind) (n:Int):AgT k (.i i n) h=some (.i k (k.wrap n),h):=rfl
def Asd (m ty esz bytes:Nat) (zero:List AV) (l c:VV) (h:VH):Option (VV×VH):=match l,c with
  | .i .i64 n,.i .i64 k =>
   if 0<=n/\n<=k/\k.toNat * bytes<=Aa then
    bif Nat.beq zero.length esz && Nat.blt 0 esz && (D2 zero).all VV.cell then
     match m with
     | 0=>(match HQ [] (D2 zero) with
      | some (z,_)=>some (.ls (List.replicate n.toNat z),h)
      | none=>none)
     | _=>some (.sl h.length 0 0 n.toNat,h++[some { ty:=ty,esz:=esz,ver:=0,nl:=false,rows:=List.replicate n.toNat (D2 zero) }])
    else none
   else none
  | _,_=>none
@[go_sem ↓] theorem AuR {k ty esz bytes:Nat} {z:List AV} {l c:Ax}:DN k (.mks ty esz bytes z l c) F h=Asd k ty esz bytes z (A4.ev F l) (A4.ev F c) h:=rfl
attribute [go_sem] Asd
def faV (off:Nat) (v:VV) (h:VH):Option (VV×VH):=match v with
  | .p id ver r c=>some (.p id ver r (c+off),h)
  | .fp cells c=>some (.fp cells (c+off),h)
  | _=>none
@[go_sem ↓] theorem AxI {k off:Nat} {x:Ax}:DN k (.fa off x) F h=faV off (A4.ev F x) h:=rfl
@[go_sem] theorem Ayi (off id ver r c:Nat):faV off (.p id ver r c) h=some (.p id ver r (c+off),h):=rfl
@[go_sem] theorem Awx (off:Nat) (l:List VV) (c:Nat):faV off (.fp l c) h=some (.fp l (c+off),h):=rfl
def iaV (esz:Nat) (x i:VV) (h:VH):Option (VV×VH):=match x,i with
  | .ls rows,.i _ n=>if 0<=n then (match rows[n.toNat]? with
   | some row=>bif Nat.beq row.length esz then some (.fp row 0,h) else none
   | none=>none) else none
  | .sl id ver off len,.i _ n=>if 0<=n/\n < len then (match Cp h id ver with
   | some o=>bif Nat.beq o.esz esz && !o.nl then some (.p id ver (off+n.toNat) 0,h) else none
   | none=>none) else none
  | _,_=>none
@[go_sem ↓] theorem AxJ {k esz:Nat} {x i:Ax}:DN k (.ia esz x i) F h=iaV esz (A4.ev F x) (A4.ev F i) h:=rfl
def iaR (esz:Nat) (row:Option (List VV)) (h:VH):Option (VV×VH):=match row with
      | some row=>bif decide (row.length=esz) then some (.fp row 0,h) else none
      | none=>none
@[go_sem] theorem ArU (esz:Nat) (row:List VV):iaR esz (some row) h=bif decide (row.length=esz) then some (.fp row 0,h) else none:=rfl
@[go_sem] theorem AwJ (esz:Nat) (rows:List (List VV)) (k:IntKind) (n:Int):iaV esz (.ls rows) (.i k n) h=if 0<=n then iaR esz rows[n.toNat]? h else none:=by
 simp only [iaV,iaR,JW]
@[go_sem] theorem AwK (esz id ver off len:Nat) (k:IntKind) (n:Int):iaV esz (.sl id ver off len) (.i k n) h=if 0<=n/\n < len then (match Cp h id ver with
      | some o=>bif decide (o.esz=esz) && !o.nl then some (.p id ver (off+n.toNat) 0,h) else none
      | none=>none) else none:=by
  simp only [iaV,JW]
def AnR (len esz:Nat) (x i:VV) (h:VH):Option (VV×VH):=match x,i with
  | .p id ver r c,.i _ n=>if 0<=n/\n < len then some (.p id ver r (c+n.toNat * esz),h) else none
  | .fp cells c,.i _ n=>if 0<=n/\n < len then some (.fp cells (c+n.toNat * esz),h) else none
  | _,_=>none
@[go_sem ↓] theorem AuP {k len esz:Nat} {x i:Ax}:DN k (.iaa len esz x i) F h=AnR len esz (A4.ev F x) (A4.ev F i) h:=rfl
@[go_sem] theorem AwL (len esz id ver r c:Nat) (k:IntKind) (n:Int):AnR len esz (.p id ver r c) (.i k n) h=if 0<=n/\n < len then some (.p id ver r (c+n.toNat * esz),h) else none:=rfl
@[go_sem] theorem AtZ (len esz:Nat) (l:List VV) (c:Nat) (k:IntKind) (n:Int):AnR len esz (.fp l c) (.i k n) h=if 0<=n/\n < len then some (.fp l (c+n.toNat * esz),h) else none:=rfl
def ixV (x i:VV) (h:VH):Option (VV×VH):=match x,i with
  | .s s,.i _ n=>if 0<=n then (match s.data.toList[n.toNat]? with | some b=>some (.i .u8 b.toNat,h) | none=>none) else none
  | _,_=>none
@[go_sem ↓] theorem AxK {k:Nat} {x i:Ax}:DN k (.ix x i) F h=ixV (A4.ev F x) (A4.ev F i) h:=rfl
@[go_sem] theorem Ayr (s:ByteArray) (k:IntKind) (n:Int):ixV (.s s) (.i k n) h=if 0<=n then (match s.data.toList[n.toNat]? with | some b=>some (.i .u8 b.toNat,h) | none=>none) else none:=rfl
def ArL (v:VV) (i:Nat) (h:VH):Option (VV×VH):=match v with
  | .tu vs=>(match vs[i]? with | some v=>some (v,h) | none=>none)
  | _=>none
@[go_sem ↓] theorem AuO {k i:Nat} {x:Ax}:DN k (.ext x i) F h=ArL (A4.ev F x) i h:=rfl
@[go_sem] theorem AtW (vs:List VV) (i:Nat):ArL (.tu vs) i h=(match vs[i]? with | some v=>some (v,h) | none=>none):=rfl
def Ahy (s:Bool) (v:VV) (h:VH):Option (VV×VH):=match s,v with
  | true,.s s=>some (.i .i64 s.size,h)
  | false,x=>(match Qx x with | some n=>some (.i .i64 n,h) | none=>none)
  | _,_=>none
@[go_sem ↓] theorem AuQ {k:Nat} {s:Bool} {x:Ax}:DN k (.len s x) F h=Ahy s (A4.ev F x) h:=by cases s<;>rfl
@[go_sem] theorem AwQ (s:ByteArray):Ahy true (.s s) h=some (.i .i64 s.size,h):=rfl
@[go_sem] theorem Au0 (r:List (List VV)):Ahy false (.ls r) h=some (.i .i64 r.length,h):=rfl
@[go_sem] theorem Au1:Ahy false .nl h=some (.i .i64 (0:Nat),h):=rfl
@[go_sem] theorem Au2 (a b c n:Nat):Ahy false (.sl a b c n) h=some (.i .i64 n,h):=rfl
def Ap6 (mx:Bool) (x y:VV) (h:VH):Option (VV×VH):=match x,y with
  | .i k a,.i k' c=>if k=k' then some (.i k (A7e mx a c),h) else none
  | _,_=>none
@[go_sem ↓] theorem AuS {k:Nat} {mx:Bool} {x y:Ax}:DN k (.mnx mx x y) F h=Ap6 mx (A4.ev F x) (A4.ev F y) h:=rfl
@[go_sem] theorem AwT (mx:Bool) (k:IntKind) (a c:Int):Ap6 mx (.i k a) (.i k c) h=some (.i k (A7e mx a c),h):=by simp only [Ap6,if_true]
def ldR (n:Option Nat) (c:Nat) (row:List VV):Option VV:=match n with
  | none=>row[c]?
  | some n=>bif decide (c+n<=row.length) then some (.ag ((row.drop c).take n)) else none
@[go_sem] theorem Asa (c:Nat) (row:List VV):ldR none c row=row[c]?:=rfl
@[go_sem] theorem Asb (n c:Nat) (row:List VV):ldR (some n) c row=bif decide (c+n<=row.length) then some (.ag ((row.drop c).take n)) else none:=rfl
@[go_sem] theorem AxH (n:Option Nat) (cells:List VV) (c:Nat):vld h n (.fp cells c)=ldR n c cells:=by
 cases n with
 | none=>rfl
 | some n=>simp only [vld,AcE,ldR,YM]
def ldO (n:Option Nat) (r c:Nat) (o:Option VO):Option VV:=match o with
 | some o=>(match o.rows[r]? with
  | some row=>ldR n c row
  | none=>none)
 | none=>none
@[go_sem] theorem AyB (n:Option Nat) (id ver r c:Nat):vld h n (.p id ver r c)=ldO n r c (Cp h id ver):=by
 unfold vld AcE ldO
 simp only
 cases Cp h id ver with
 | none=>rfl
 | some o =>
  simp only
  cases o.rows[r]? with
  | none=>rfl
  | some row =>
   simp only
   cases n with
   | none=>rfl
   | some n=>simp only [ldR,YM]
@[go_sem] theorem As9 (n:Option Nat) (r c:Nat) (o:VO):ldO n r c (some o)=(match o.rows[r]? with
  | some row=>ldR n c row
  | none=>none):=rfl
attribute [go_sem] Gv EL Cp Qx AZ Dp CV LT
attribute [go_sem] Nat.reduceEqDiff Nat.reduceLeDiff Nat.reduceLT Nat.reduceAdd Nat.reduceMul Nat.reduceSub Nat.lt_irrefl
attribute [go_sem] List.getElem?_cons_zero List.getElem?_cons_succ List.getElem?_nil List.set_cons_zero List.set_cons_succ List.getElem?_map length_map length_append List.flatten_cons
@[go_sem] theorem ArN (h:VH) (vs:List VV):HQ h vs=Bh (frz h 8) vs:=rfl
@[go_sem] theorem ArO (h:VH) (vs:List (List VV)):AbL h vs=Bh (fun row=>Bh (frz h 8) row) vs:=rfl
attribute [go_sem] Bh
section
variable {d:Nat}
@[go_sem] theorem Ayk (x:Bool):frz h (d+1) (.b x)=some (.b x,[]):=rfl
@[go_sem] theorem Aym (k:IntKind) (x:Int):frz h (d+1) (.i k x)=some (.i k x,[]):=rfl
@[go_sem] theorem Ayo (x:ByteArray):frz h (d+1) (.s x)=some (.s x,[]):=rfl
@[go_sem] theorem AwD:frz h (d+1) .nf=some (.nf,[]):=rfl
@[go_sem] theorem AwF:frz h (d+1) .np=some (.np,[]):=rfl
@[go_sem] theorem AwE:frz h (d+1) .nl=some (.ls [],[]):=rfl
@[go_sem] theorem AwC (r:List (List VV)):frz h (d+1) (.ls r)=some (.ls r,[]):=rfl
@[go_sem] theorem AwB (r:List VV) (c:Nat):frz h (d+1) (.fp r c)=some (.fp r c,[]):=rfl
@[go_sem] theorem Ayn (id ver r c:Nat):frz h (d+1) (.p id ver r c)=(match Cp h id ver with
      | some o=>(match o.rows[r]? with
        | some row=>(match Bh (frz h d) row with
          | some (cs,ids)=>some (.fp cs c,id::ids)
          | none=>none)
        | none=>none)
      | none=>none):=rfl
@[go_sem] theorem AwG (id ver off n:Nat):frz h (d+1) (.sl id ver off n)=(match Cp h id ver with
      | some o=>bif Nat.ble (off+n) o.rows.length && (Nat.blt 0 o.esz || o.nl) then
          (match Bh (fun row=>Bh (frz h d) row) ((o.rows.drop off).take n) with
          | some (rs,ids)=>some (.ls rs,id::ids)
          | none=>none) else none
      | none=>none):=rfl
@[go_sem] theorem Ayl (g:Nat) (a c:List VV):frz h (d+1) (.f g a c)=(match Bh (frz h d) a,Bh (frz h d) c with
      | some (a',i1),some (c',i2)=>some (.f g a' c',i1++i2)
      | _,_=>none):=rfl
@[go_sem] theorem AwA (cs:List VV):frz h (d+1) (.ag cs)=(match Bh (frz h d) cs with
      | some (cs',is)=>some (.ag cs',is)
      | none=>none):=rfl
@[go_sem] theorem AwH (cs:List VV):frz h (d+1) (.tu cs)=(match Bh (frz h d) cs with
      | some (cs',is)=>some (.tu cs',is)
      | none=>none):=rfl
end
@[go_sem] theorem XO {α β:Type} {f:α->β} {g:β->Option (β×List Nat)} {l:List α} (hg:∀ x,g (f x)=some (f x,[])):Bh g (l.map f)=some (l.map f,[]):=by
 induction l with
 | nil=>rfl
 | cons x xs ih=>simp only [map_cons,Bh,hg,ih,nil_append]
@[go_sem] theorem Asc {β:Type} {z:β} {g:β->Option (β×List Nat)} {n:Nat} (hg:g z=some (z,[])):Bh g (List.replicate n z)=some (List.replicate n z,[]):=by
 induction n with
 | zero=>rfl
 | succ n ih=>simp only [replicate_succ,Bh,hg,ih,nil_append]
@[go_sem] theorem ArY (h:VH):BL [] h=h:=rfl
@[go_sem] theorem Aq9 (i:Nat) (l:List Nat) (h:VH):BL (i::l) h=BL l (h.set i none):=rfl
@[go_sem] theorem Axh (x:Bool):scal (.b x)=true:=rfl
@[go_sem] theorem Axj (k:IntKind) (x:Int):scal (.i k x)=true:=rfl
@[go_sem] theorem Axk (x:ByteArray):scal (.s x)=true:=rfl
@[go_sem] theorem Aur:scal .nf=true:=rfl
@[go_sem] theorem Aus:scal .np=true:=rfl
@[go_sem] theorem Auq (r:List (List VV)):scal (.ls r)=false:=rfl
@[go_sem] theorem Aup (r:List VV) (c:Nat):scal (.fp r c)=false:=rfl
@[go_sem] theorem Auo (r:List VV):scal (.ag r)=false:=rfl
@[go_sem] theorem Axi (g:Nat) (a c:List VV):scal (.f g a c)=false:=rfl
@[go_sem] theorem Aut (r:List VV):scal (.tu r)=Rp r:=rfl
@[go_sem] theorem Aqm:Rp []=true:=rfl
@[go_sem] theorem Apl (v:VV) (r:List VV):Rp (v::r)=(scal v && Rp r):=rfl
@[go_sem] theorem Aq4 {α:Type} (b:Bool) (x:α):(bif b then x else x)=x:=by cases b<;>rfl
@[go_sem] theorem Acc {α:Type} {f:α->List VV} {e:Nat} {l:List α} (hf:∀ x,(f x).length=e):DX e (l.map f)=true:=by
 unfold DX
 rw [all_eq_true]
 intro r hr
 obtain ⟨x,_,rfl⟩:=List.mem_map.1 hr
 rw [hf];exact beq_refl e
@[go_sem] theorem Apd {e:Nat}:DX e []=true:=rfl
@[go_sem] theorem Amt {e:Nat} (r:List VV) (rs:List (List VV)):DX e (r::rs)=(Nat.beq r.length e && DX e rs):=rfl
@[go_sem] theorem Ape {e n:Nat} {z:List VV} (hz:z.length=e):DX e (List.replicate n z)=true:=by
 unfold DX
 rw [all_eq_true]
 intro r hr
 rw [List.eq_of_mem_replicate hr,hz];exact beq_refl e
attribute [go_sem] LW AfR A2l
@[go_sem] theorem Aqb {α β:Type} (f:α->β) (n:Nat) (l:List α):(l.map f).drop n=(l.drop n).map f:=(List.map_drop ..).symm
@[go_sem] theorem Aqc {α β:Type} (f:α->β) (n:Nat) (l:List α):(l.map f).take n=(l.take n).map f:=(List.map_take ..).symm
@[go_sem] theorem Aqp {α:Type} (l:List α):l.take l.length=l:=List.take_length
attribute [go_sem] drop_zero length_cons length_nil all_cons List.all_nil List.take_succ_cons List.take_zero List.drop_succ_cons List.take_nil List.drop_nil zero_add Nat.add_zero Nat.le_refl Nat.sub_zero Nat.zero_le List.length_replicate length_take length_drop
@[go_sem] theorem Alz (L:Nat) (h:VH):Qp L [] h=True:=by cases h<;>rfl
def okB (L:Nat) (o':Option VO):Bool:=match o' with | none=>true | some x=>x.rows.all (Db L)
@[go_sem] theorem Asn (L:Nat):okB L none=true:=rfl
@[go_sem] theorem Aso (L:Nat) (x:VO):okB L (some x)=x.rows.all (Db L):=rfl
@[go_sem] theorem JJ {α:Type} {f:α->List VV} {L:Nat} {l:List α} (hf:∀ x,Db L (f x)=true):(l.map f).all (Db L)=true:=by
 rw [all_eq_true]
 intro r hr
 obtain ⟨x,_,rfl⟩:=List.mem_map.1 hr
 exact hf x
@[go_sem] theorem Aml {L n:Nat} {z:List VV} (hf:Db L z=true):(List.replicate n z).all (Db L)=true:=by
 rw [all_eq_true]
 intro r hr
 rw [List.eq_of_mem_replicate hr];exact hf
@[go_sem] theorem Aan (L:Nat) (o o':Option VO) (h h':VH):Qp L (o::h) (o'::h')=((o=o'\/okB L o' = true)/\Qp L h h'):=by
 show ((o=o'\/∀ x,o' = some x->x.rows.all (Db L)=true)/\Qp L h h')=_
 congr 2
 apply propext
 cases o' with
 | none=>simp [okB]
 | some x=>simp [okB]
def Fz (a:List VV):Prop:=∀ h d,Bh (frz h (d+3)) a=some (a,[])
theorem Aag {α:Type} {f:α->Option (α×List Nat)}:∀ {a b:List α},Bh f a=some (a,[])->Bh f b=some (b,[])->Bh f (a++b)=some (a++b,[]):=by
 intro a
 induction a with
 | nil=>intro b _ h;exact h
 | cons x xs ih =>
  intro b h1 h2
  simp only [Bh] at h1
  split at h1
  .rename_i y i ys is e1 e2
   simp only [Option.some.injEq,Prod.mk.injEq,List.cons.injEq,List.append_eq_nil_iff] at h1
   obtain ⟨⟨rfl,rfl⟩,rfl,rfl⟩:=h1
   simp only [cons_append,Bh,e1,ih e2 h2,nil_append]
  .cases h1
theorem Fz.call {a c x:List VV} (ha:Fz a) (hc:Fz c) {h:VH} (hx:Bh (frz h 8) x=some (x,[])):Bh (frz h 8) (a++x++c)=some (a++x++c,[]):=Aag (Aag (ha h 5) hx) (hc h 5)
theorem Kz {L:Nat} {h:VH} {d:Nat}:∀ {a:List VV},Bh (frz h d) a=some (a,[])->(∀ v,frz h d v=some (v,[])->bel L v=true)->Db L a=true:=by
 intro a
 induction a with
 | nil=>intro _ _;rfl
 | cons x xs ih =>
  intro h1 h2
  simp only [Bh] at h1
  split at h1
  .rename_i y i ys is e1 e2
   simp only [Option.some.injEq,Prod.mk.injEq,List.cons.injEq,List.append_eq_nil_iff] at h1
   obtain ⟨⟨rfl,rfl⟩,rfl,rfl⟩:=h1
   simp only [Db,h2 _ e1,ih e2 h2,Bool.and_self]
  .cases h1
theorem Adk {L:Nat} {h:VH}:∀ {d:Nat} {v:VV},frz h d v=some (v,[])->bel L v=true:=by
 intro d
 induction d with
 | zero=>intro v e;simp [frz] at e
 | succ d ih =>
  intro v e
  cases v with
  | p id ver r c =>
   simp only [frz] at e
   split at e
   .split at e
    .split at e<;>cases e
    .cases e
   .cases e
  | sl id ver off n =>
   simp only [frz] at e
   split at e
   .rename_i o ho
    cases hb:(Nat.ble (off+n) o.rows.length && (Nat.blt 0 o.esz || o.nl)) with
    | false=>rw [hb] at e;cases e
    | true=>rw [hb] at e;simp only [cond_true] at e;split at e<;>cases e
   .cases e
  | f g a c =>
   simp only [frz] at e
   split at e
   .rename_i a' i1 c' i2 h1 h2
    simp only [Option.some.injEq,Prod.mk.injEq,VV.f.injEq,true_and,List.append_eq_nil_iff] at e
    obtain ⟨⟨rfl,rfl⟩,rfl,rfl⟩:=e
    simp only [bel,Kz h1 (fun v=>ih),Kz h2 (fun v=>ih),Bool.and_self]
   .cases e
  | ag cs =>
   simp only [frz] at e
   split at e
   .rename_i cs' is h1
    simp only [Option.some.injEq,Prod.mk.injEq,VV.ag.injEq] at e
    obtain ⟨rfl,rfl⟩:=e
    simp only [bel,Kz h1 (fun v=>ih)]
   .cases e
  | tu cs =>
   simp only [frz] at e
   split at e
   .rename_i cs' is h1
    simp only [Option.some.injEq,Prod.mk.injEq,VV.tu.injEq] at e
    obtain ⟨rfl,rfl⟩:=e
    simp only [bel,Kz h1 (fun v=>ih)]
   .cases e
  | _=>rfl
theorem Fz.bel {L:Nat} {a:List VV} (ha:Fz a):Db L a=true:=Kz (ha [] 0) fun v=>Adk
theorem Fz.nil:Fz []:=fun _ _=>rfl
@[go_sem] theorem Fz.eq {a:List VV} (ha:Fz a) {h:VH} {d:Nat}:Bh (frz h (d+3)) a=some (a,[]):=ha h d
@[go_sem] theorem Aao (L:Nat) (h g:VH):Qp L h (h++g)=True:=by
 induction h with
 | nil=>simp only [Alz]
 | cons o h ih=>simp only [cons_append,Aan,ih,true_or,true_and]
@[go_sem] theorem Asq (L:Nat) (h:VH):Qp L h h=True:=by
 have:=Aao L h []
 rwa [append_nil] at this
@[go_sem] theorem Ayc (L:Nat) (x:Bool):QO L (.b x) = .b x:=rfl
@[go_sem] theorem Amm (L:Nat) (k:IntKind) (x:Int):QO L (.i k x) = .i k x:=rfl
@[go_sem] theorem Aye (L:Nat) (x:ByteArray):QO L (.s x) = .s x:=rfl
@[go_sem] theorem AvX (L:Nat):QO L .nf = .nf:=rfl
@[go_sem] theorem AvZ (L:Nat):QO L .np = .np:=rfl
@[go_sem] theorem AvY (L:Nat):QO L .nl = .nl:=rfl
@[go_sem] theorem AvW (L:Nat) (r:List (List VV)):QO L (.ls r) = .ls r:=rfl
@[go_sem] theorem AvV (L:Nat) (r:List VV) (c:Nat):QO L (.fp r c) = .fp r c:=rfl
@[go_sem] theorem Arx (L:Nat):QO L VV.nul=VV.nul:=Ad0 L
@[go_sem] theorem Ayd (L id ver r c:Nat):QO L (.p id ver r c)=(bif Nat.blt id L then .p id ver r c else .un):=rfl
@[go_sem] theorem Aw0 (L id ver r c:Nat):QO L (.sl id ver r c)=(bif Nat.blt id L then .sl id ver r c else .un):=rfl
@[go_sem] theorem AvU (L:Nat) (l:List VV):QO L (.ag l)=(bif Db L l then .ag l else .un):=rfl
@[go_sem] theorem AgK (L g:Nat) (a c:List VV):QO L (.f g a c)=(bif Db L a && Db L c then .f g a c else .un):=rfl
attribute [go_sem] bel Db
section
variable {e:Option Yc} {k:IntKind} {a c:Int}
@[go_sem] theorem AaV:Bk .add e (.i k a) (.i k c)=some (.i k (k.wrap (a+c))):=by simp [Bk,Bq,Hu,HV]
@[go_sem] theorem At5:Bk .sub e (.i k a) (.i k c)=some (.i k (k.wrap (a - c))):=by simp [Bk,Bq,Hu,HV]
@[go_sem] theorem At1:Bk .mul e (.i k a) (.i k c)=some (.i k (k.wrap (a * c))):=by simp [Bk,Bq,Hu,HV]
theorem AiA (h:c≠0):Bk .quo e (.i k a) (.i k c)=some (.i k (k.wrap (a.tdiv c))):=by simp [Bk,Bq,Hu,h,HV]
theorem Hp (h:c≠0):Bk .rem e (.i k a) (.i k c)=some (.i k (a.tmod c)):=by simp [Bk,Bq,Hu,h,HV]
@[go_sem] theorem AsV:Bk .eql e (.i k a) (.i k c)=some (.b (decide (a=c))):=by simp only [Bk,A8q,bind_some,HV]
@[go_sem] theorem At2:Bk .neq e (.i k a) (.i k c)=some (.b (!decide (a=c))):=by simp only [Bk,A8r,bind_some,HV]
@[go_sem] theorem Aiz:Bk .lss e (.i k a) (.i k c)=some (.b (decide (a < c))):=by simp only [Bk,Agy,bind_some,HV]
@[go_sem] theorem At0:Bk .leq e (.i k a) (.i k c)=some (.b (decide (a<=c))):=by simp only [Bk,Agx,bind_some,HV]
@[go_sem] theorem AsZ:Bk .gtr e (.i k a) (.i k c)=some (.b (decide (c < a))):=by simp only [Bk,Agw,bind_some,HV]
@[go_sem] theorem AsY:Bk .geq e (.i k a) (.i k c)=some (.b (decide (c<=a))):=by simp only [Bk,Agv,bind_some,HV]
@[go_sem] theorem Aqy (x y:Bool):Bk .eql (some .b) (.b x) (.b y)=some (.b (x == y)):=rfl
@[go_sem] theorem AqA (x y:Bool):Bk .neq (some .b) (.b x) (.b y)=some (.b (!(x == y))):=rfl
@[go_sem] theorem Aqz (x y:ByteArray):Bk .eql e (.s x) (.s y)=some (.b (decide (x=y))):=by simp only [Bk,Aer,bind_some,HV]
@[go_sem] theorem AqB (x y:ByteArray):Bk .neq e (.s x) (.s y)=some (.b (!decide (x=y))):=by simp only [Bk,Aes,bind_some,HV]
@[go_sem] theorem At3:Bk .eql (some .p) .np .np=some (.b true):=rfl
@[go_sem] theorem At4:Bk .neq (some .p) .np .np=some (.b false):=rfl
@[go_sem] theorem AuF (i v r c:Nat):Bk .eql (some .p) (.p i v r c) .np=some (.b false):=rfl
@[go_sem] theorem AuG (i v r c:Nat):Bk .neq (some .p) (.p i v r c) .np=some (.b true):=rfl
@[go_sem] theorem AsW (l:List VV) (c:Nat):Bk .eql (some .p) (.fp l c) .np=some (.b false):=rfl
@[go_sem] theorem AsX (l:List VV) (c:Nat):Bk .neq (some .p) (.fp l c) .np=some (.b true):=rfl
theorem AiC {i v o n:Nat} (h:0 < n):Bk .eql (some .s) (.sl i v o n) .nl=some (.b false):=by
 cases n with
 | zero=>omega
 | succ n=>rfl
@[go_sem] theorem AuE:Bk .eql (some .s) .nl .nl=some (.b true):=rfl
def vW (w:BitVec 64):VV:=.i .u64 (w.toNat:Int)
variable {x y:BitVec 64}
@[go_sem] theorem AxC:VV.i .u64 (x.toNat:Int)=vW x:=rfl
@[go_sem] theorem Aze:VV.i .u64 0=vW 0#64:=rfl
@[go_sem] theorem Azf:VV.i .u64 1=vW 1#64:=rfl
theorem A2k {op:BinOp} {w:BitVec 64} (hb:Bq op e (Wd x) (Wd y)=some (Wd w)):Bk op e (vW x) (vW y)=some (vW w):=by
 show (Bq op e (Wd x) (Wd y)).bind HV=_
 rw [hb];rfl
theorem Ae1 {op:BinOp} {w:Bool} (hb:Bq op e (Wd x) (Wd y)=some (.b w)):Bk op e (vW x) (vW y)=some (.b w):=by
 show (Bq op e (Wd x) (Wd y)).bind HV=_
 rw [hb];rfl
@[go_sem] theorem AxA:Bk .and e (vW x) (vW y)=some (vW (x &&& y)):=A2k A8s
@[go_sem] theorem AyA:Bk .or e (vW x) (vW y)=some (vW (x ||| y)):=A2k Ajt
@[go_sem] theorem Aqw:Bk .andNot e (vW x) (vW y)=some (vW (x &&& ~~~y)):=A2k A8t
@[go_sem] theorem AxG:Bk .sub e (vW x) (vW y)=some (vW (x - y)):=A2k AgF
@[go_sem] theorem Axz:Bk .add e (vW x) (vW y)=some (vW (x+y)):=A2k AgA
@[go_sem] theorem AxD:Bk .eql e (vW x) (vW y)=some (.b (decide (x=y))):=Ae1 AgB
@[go_sem] theorem AxF:Bk .neq e (vW x) (vW y)=some (.b (!decide (x=y))):=Ae1 AgC
theorem Apt {n:Nat} (h:n < 64):Bk .shl e (vW x) (.i .i64 n)=some (vW (x <<< n)):=by
 show (Bq .shl e (Wd x) (.i .i64 n)).bind HV=_
 rw [AgD h];rfl
@[go_sem] theorem Auy:(vW x).cell=true:=rfl
@[go_sem] theorem AsU:(vW x).cells=[vW x]:=rfl
@[go_sem] theorem AxE {d:Nat}:frz h (d+1) (vW x)=some (vW x,[]):=rfl
@[go_sem] theorem Auz:scal (vW x)=true:=rfl
@[go_sem] theorem AxB {L:Nat}:bel L (vW x)=true:=rfl
@[go_sem] theorem Ayz {L:Nat}:QO L (vW x)=vW x:=rfl
end
def A7P:List VV->Option VV
 | [.i .u64 n]=>if 0<=n/\n < 18446744073709551616 then some (.i .i64 (Lib.ctz 64 n.toNat:Nat)) else none
 | _=>none
def rgd (F:A4) (h:VH) (d:Nat) (n:Option Nat) (a:Nat):Prop:=D5 (A4.tmp F d)=true/\vld h n (A4.tmp F a)=some (A4.tmp F d)
def Aet (v:VV) (w:Bool) (P:Prop):Prop:=match v with
 | .b x=>(bif x == w then P else True)
 | .tu []=>True
 | _=>False
@[go_sem] theorem AtS {P:Prop}:Aet (.b true) true P↔P:=Iff.rfl
@[go_sem] theorem AtP {P:Prop}:Aet (.b false) false P↔P:=Iff.rfl
@[go_sem] theorem AtR {P:Prop}:Aet (.b true) false P↔True:=Iff.rfl
@[go_sem] theorem AtQ {P:Prop}:Aet (.b false) true P↔True:=Iff.rfl
@[go_sem] theorem Arw {w:Bool} {P:Prop}:Aet VV.nul w P↔True:=Iff.rfl
@[go_sem ↓] theorem Am2 {L:LZ}:Cj F h L []↔True:=Iff.rfl
@[go_sem ↓] theorem ApC {L:LZ} {d a:Nat} {n:Option Nat} {r:List AI}:Cj F h L (o d (.ld n (.t a))::r)↔((d,n,a)∈L\/rgd F h d n a)/\Cj F h L r:=Iff.rfl
@[go_sem ↓] theorem AmI {L:LZ} {d t a:Nat} {w:Bool} {n:Option Nat} {r:List AI}:Cj F h L (og d t w (.ld n (.t a))::r)↔Aet (A4.tmp F t) w ((d,n,a)∈L\/rgd F h d n a)/\Cj F h L r:=by
 show (match CW F (some (t,w)) with | some false=>True | some true=>_ | none=>False)/\_↔_
 refine and_congr ?_ Iff.rfl
 simp only [CW]
 generalize A4.tmp F t=v
 cases v with
 | b x=>cases x<;>cases w<;>exact Iff.rfl
 | tu vs=>cases vs<;>exact Iff.rfl
 | _=>exact Iff.rfl
attribute [go_sem] Xm Qy DJ An7 JL Aa6 CW filter_cons List.filter_nil mem_cons not_mem_nil
attribute [go_sem] decide_true decide_false Bool.not_true Bool.not_false Bool.and_true Bool.true_and Bool.and_false Bool.false_and Bool.or_true Bool.true_or Bool.or_false Bool.false_or cond_true cond_false not_true_eq_false not_false_eq_true if_true if_false false_and and_false exists_false imp_false
attribute [go_sem] or_false false_or or_self ite_true ite_false
attribute [go_sem] VV.b.injEq VV.i.injEq VV.s.injEq VV.ls.injEq VV.sl.injEq VV.p.injEq VV.fp.injEq VV.f.injEq VV.ag.injEq VV.tu.injEq Option.some.injEq Prod.mk.injEq true_and and_true and_self true_or or_true
 map_cons map_nil append_nil nil_append cons_append Option.map_some Option.map_none decide_eq_true_eq decide_eq_false_iff_not forall_const Bool.not_eq_true Bool.not_eq_false reduceCtorEq false_implies implies_true
 Int.toNat_natCast Int.natCast_nonneg Int.ofNat_lt Int.ofNat_le
end
section
variable {V:At} {m:Nat->Nat}
theorem HL {k:Nat} (h:k < 9223372036854775807):IntKind.i64.wrap ((k:Int)+1)=((k+1:Nat):Int):=by rw [Az (by omega) (by omega)];omega
theorem Ag {i n c d B C:Nat} {body:A2} (hne:c≠i/\c≠n/\d≠n/\i≠n/\m i=0) (N:Nat) (hN:N < 9223372036854775807) (I:Nat->A4->VH->Prop) {Q:Ex->A4->VH->Prop}
  (step:∀ k F h,k < N->A4.tmp F i = .i .i64 k->A4.tmp F n = .i .i64 N->I k F h ->
   Vc V m body (Tm.set F c (.b true)) h (fun e F' h'=>match e with
    | .norm=>A4.tmp F' i = .i .i64 k/\A4.tmp F' n = .i .i64 N/\Qp h.length h h'/\∀ v,I (k+1) (GD h.length (Tm.set (Tm.set F' d v) i v)) (h'.take h.length)
    | .exit x=>(bif Nat.beq x C then A4.tmp F' i = .i .i64 k/\A4.tmp F' n = .i .i64 N/\Qp h.length h h'/\∀ v,I (k+1) (GD h.length (Tm.set (Tm.set F' d v) i v)) (h'.take h.length) else bif Nat.beq x B then Q .norm F' h' else Q (.exit x) F' h')
    | .ret=>Q .ret F' h'))
  (done:∀ F h,I N F h->Q .norm (Tm.set F c (.b false)) h) :
  ∀ k F h,k<=N->A4.tmp F i = .i .i64 k->A4.tmp F n = .i .i64 N->I k F h ->
   VL V m B (.seq (.reg [o c (.bin .lss none (.t i) (.t n))]) (.seq (.cond (.t c) .skip (.exit B)) (.seq (.block C body) (.reg [o d (.bin .add none (.t i) (.c (.i .i64 1))),o i (.mov (.t d))])))) F h Q:=by
 obtain ⟨hci,hcn,hdn,hin,hm⟩:=hne
 intro k F h hk h1 h2 h3
 unfold VL
 rw [A0]
 refine AT (M:=Nat) (I:=fun k F h=>k<=N/\A4.tmp F i = .i .i64 k/\A4.tmp F n = .i .i64 N/\I k F h) (μ:=fun k=>N - k) ?_ k F h ⟨hk,h1,h2,h3⟩
 rintro k F h ⟨hk,h1,h2,h3⟩
 rw [Pw,A6w,Agc,Abh]
 simp only [AaX,h1,h2,Aiz,A6o,GI,Z8]
 rw [Pw,AcL]
 simp only [AaX,KK,if_true,GI]
 rcases Nat.lt_or_ge k N with hlt | hge
 .have:decide ((k:Int) < N)=true:=by simp;omega
  rw [this,Amc,AcN]
  simp only
  rw [Pw,A0]
  refine (step k F h hlt h1 h2 h3).mono fun e F' h' hq=>?_
  have fin:(A4.tmp F' i = .i .i64 k/\A4.tmp F' n = .i .i64 N/\Qp h.length h h'/\∀ v,I (k+1) (GD h.length (Tm.set (Tm.set F' d v) i v)) (h'.take h.length)) ->
    Vc V m (.reg [o d (.bin .add none (.t i) (.c (.i .i64 1))),o i (.mov (.t d))]) F' h' (fun e F' h'=>match e with
     | .norm=>Qp h.length h h'/\∃ m',N - m' < N - k/\m'<=N/\A4.tmp (GD h.length F') i = .i .i64 m'/\A4.tmp (GD h.length F') n = .i .i64 N/\I m' (GD h.length F') (h'.take h.length)
     | .exit id'=>(bif Nat.beq id' B then Q .norm F' h' else Q (.exit id') F' h')
     | e=>Q e F' h'):=by
   rintro ⟨g1,g2,g3,g4⟩
   rw [A6w,Agc,Abh]
   simp only [AaX,AmH,AhO,g1,AaV,A6o,GI,Agc,hm,AcO,Ae2,AhL,A88,GI,Z8,KK,if_true,NJ,if_neg hin.symm,if_neg hdn.symm,g2,Amm]
   rw [HL (by omega)]
   exact ⟨g3,k+1,by omega,by omega,rfl,trivial,g4 _⟩
  cases e with
  | norm=>exact (fin hq).mono (by intro e F h hh;cases e<;>exact hh)
  | ret=>exact hq
  | exit x =>
   simp only at hq ⊢
   cases hb:Nat.beq x C with
   | true=>rw [hb] at hq;exact (fin hq).mono (by intro e F h hh;cases e<;>exact hh)
   | false=>rw [hb] at hq;exact hq
 .have hkN:k=N:=by omega
  subst hkN
  have:decide ((k:Int) < k)=false:=by simp
  rw [this,Amb,AcM]
  simp only [beq_refl,cond_true]
  exact done F h h3
theorem Ab {i c d1 d2 B C:Nat} {pre:List AI} {body:A2} (hne:m d1=0/\m i=0) (N:Nat) (hN:N < 9223372036854775807) (I:Nat->A4->VH->Prop) {Q:Ex->A4->VH->Prop}
  (hpre:∀ k F h,k<=N->A4.tmp F i = .i .i64 k->I k F h->Vr V m pre F h (fun F' h'=>A4.tmp F' c = .b (decide (k < N))/\A4.tmp F' i = .i .i64 k/\h' = h/\I k F' h))
  (step:∀ k F h,k < N->A4.tmp F i = .i .i64 k->I k F h ->
   Vc V m body F h (fun e F' h'=>match e with
    | .norm=>A4.tmp F' i = .i .i64 k/\Qp h.length h h'/\∀ v w,I (k+1) (GD h.length (Tm.set (Tm.set (Tm.set F' d1 v) d2 w) i w)) (h'.take h.length)
    | .exit x=>(bif Nat.beq x C then A4.tmp F' i = .i .i64 k/\Qp h.length h h'/\∀ v w,I (k+1) (GD h.length (Tm.set (Tm.set (Tm.set F' d1 v) d2 w) i w)) (h'.take h.length) else bif Nat.beq x B then Q .norm F' h' else Q (.exit x) F' h')
    | .ret=>Q .ret F' h'))
  (done:∀ F h,I N F h->Q .norm F h) :
  ∀ k F h,k<=N->A4.tmp F i = .i .i64 k->I k F h ->
   VL V m B (.seq (.seq (.reg pre) (.cond (.t c) .skip (.exit B))) (.seq (.block C body) (.reg [o d1 (.mov (.t i)),o d2 (.bin .add none (.t d1) (.c (.i .i64 1))),o i (.mov (.t d2))]))) F h Q:=by
 obtain ⟨hm1,hm2⟩:=hne
 intro k F h hk h1 h3
 unfold VL
 rw [A0]
 refine AT (M:=Nat) (I:=fun k F h=>k<=N/\A4.tmp F i = .i .i64 k/\I k F h) (μ:=fun k=>N - k) ?_ k F h ⟨hk,h1,h3⟩
 rintro k F h ⟨hk,h1,h3⟩
 rw [Pw,Pw,A6w]
 obtain ⟨n,F1,h',hr,hc,hi,rfl,hI⟩:=hpre k F h hk h1 h3
 refine ⟨n,F1,h',hr,?_⟩
 simp only
 rw [AcL]
 simp only [AaX,hc,GI]
 rcases Nat.lt_or_ge k N with hlt | hge
 .rw [decide_eq_true hlt,Amc,AcN]
  simp only
  rw [Pw,A0]
  refine (step k F1 h' hlt hi hI).mono fun e F' h2 hq=>?_
  have fin:(A4.tmp F' i = .i .i64 k/\Qp h'.length h' h2/\∀ v w,I (k+1) (GD h'.length (Tm.set (Tm.set (Tm.set F' d1 v) d2 w) i w)) (h2.take h'.length)) ->
    Vc V m (.reg [o d1 (.mov (.t i)),o d2 (.bin .add none (.t d1) (.c (.i .i64 1))),o i (.mov (.t d2))]) F' h2 (fun e F' h2=>match e with
     | .norm=>Qp h'.length h' h2/\∃ m',N - m' < N - k/\m'<=N/\A4.tmp (GD h'.length F') i = .i .i64 m'/\I m' (GD h'.length F') (h2.take h'.length)
     | .exit id'=>(bif Nat.beq id' B then Q .norm F' h2 else Q (.exit id') F' h2)
     | e=>Q e F' h2):=by
   rintro ⟨g1,g3,g4⟩
   rw [A6w,Agc]
   simp only [hm1,AcO,Ae2,AhL,A88,GI,AaX,AmH,AhO,g1,Agc,Abh,KK,if_true,AaV,A6o,GI,hm2,Z8,NJ,Amm]
   rw [HL (by omega)]
   exact ⟨g3,k+1,by omega,by omega,rfl,g4 _ _⟩
  cases e with
  | norm=>exact (fin hq).mono (by intro e F h hh;cases e<;>exact hh)
  | ret=>exact hq
  | exit x =>
   simp only at hq ⊢
   cases hb:Nat.beq x C with
   | true=>rw [hb] at hq;exact (fin hq).mono (by intro e F h hh;cases e<;>exact hh)
   | false=>rw [hb] at hq;exact hq
 .have hkN:k=N:=by omega
  subst hkN
  have:decide (k < k)=false:=by simp
  rw [this,Amb,AcM]
  simp only [beq_refl,cond_true]
  exact done F1 h' hI
end
abbrev eI (x:Int):List VV:=[.i .i64 x]
abbrev eW (x:BitVec 64):List VV:=[vW x]
abbrev eS (x:ByteArray):List VV:=[.s x]
abbrev eU (x:U8):List VV:=[.i .u8 (x.n:Int)]
abbrev lI (l:List Int):VV:=.ls (l.map eI)
abbrev lW (l:List (BitVec 64)):VV:=.ls (l.map eW)
abbrev lS (l:List ByteArray):VV:=.ls (l.map eS)
abbrev lU (l:List U8):VV:=.ls (l.map eU)
abbrev Hv (l:List Int):List VV:=[lI l]
abbrev JE (l:List ByteArray):List VV:=[lS l]
abbrev DD (l:List (List Int)):List VV:=[.ls (l.map Hv)]
abbrev eN (n:AX):List VV:=[.i .i64 n.thread,.i .i64 n.up,.i .i64 n.kind,.i .i64 n.loc,.i .i64 n.mode,.i .i64 n.val,.b n.rmw,.b n.fin,lI n.regs]
abbrev vN (n:AX):VV:=.ag (eN n)
abbrev eT (t:A1):List VV:=[.i .i64 t.vals,lS t.locs,.ls (t.regs.map JE),.ls (t.nodes.map eN)]
abbrev vT (t:A1):VV:=.ag (eT t)
abbrev Je (s:A6):List VV:=[lI s.has,lI s.jf,.ls (s.mo.map DD)]
abbrev Dy (s:A6):VV:=.ag (Je s)
def DW:VO:={ ty:=0,esz:=0,ver:=0,nl:=true,rows:=[] }
def AW (ty e:Nat) (rows:List (List VV)):VO:=if rows.length=0 then DW else { ty:=ty,esz:=e,ver:=rows.length,nl:=false,rows:=rows }
section
variable {ty e:Nat} {rows:List (List VV)}
@[go_sem] theorem G9:(AW ty e rows).ver=rows.length:=by
 unfold AW;split
 .rename_i h;rw [h];rfl
 .rfl
@[go_sem] theorem A37:(AW ty e rows).rows=rows:=by
 unfold AW;split
 .rename_i h;rw [List.length_eq_zero_iff.1 h];rfl
 .rfl
@[go_sem] theorem AtG:((AW ty e rows).nl || (decide ((AW ty e rows).ty=ty) && decide ((AW ty e rows).esz=e)))=true:=by
 unfold AW;split
 .rfl
 .simp
@[go_sem] theorem Agn:(decide ((AW ty e rows).esz=e) || (AW ty e rows).nl)=true:=by
 unfold AW;split
 .simp [DW]
 .simp
theorem M5 (he:0 < e):(decide (0 < (AW ty e rows).esz) || (AW ty e rows).nl)=true:=by
 unfold AW;split
 .rfl
 .simp [he]
@[go_sem] theorem ApU:(decide (0 < (AW ty 1 rows).esz) || (AW ty 1 rows).nl)=true:=M5 (by decide)
@[go_sem] theorem ApV:(decide (0 < (AW ty 2 rows).esz) || (AW ty 2 rows).nl)=true:=M5 (by decide)
@[go_sem] theorem ApW:(decide (0 < (AW ty 4 rows).esz) || (AW ty 4 rows).nl)=true:=M5 (by decide)
@[go_sem] theorem ApX:(decide (0 < (AW ty 7 rows).esz) || (AW ty 7 rows).nl)=true:=M5 (by decide)
@[go_sem] theorem ApY:(decide (0 < (AW ty 9 rows).esz) || (AW ty 9 rows).nl)=true:=M5 (by decide)
@[go_sem] theorem ApZ {r:List VV}:({ ty:=ty,esz:=e,ver:=rows.length+1,nl:=false,rows:=rows++[r] }:VO)=AW ty e (rows++[r]):=by
 unfold AW
 rw [if_neg (by simp),length_append];rfl
@[go_sem] theorem KO {α:Type} {xs:List α} {x:α} {f:α->List VV}:({ ty:=ty,esz:=e,ver:=xs.length+1,nl:=false,rows:=(xs++[x]).map f }:VO)=AW ty e ((xs++[x]).map f):=by
 unfold AW
 rw [if_neg (by simp),length_map,length_append];rfl
@[go_sem] theorem Arj:AW ty e []=DW:=rfl
@[go_sem] theorem Aqf:DW.rows=[]:=rfl
@[go_sem] theorem Au8:DW.nl=true:=rfl
@[go_sem] theorem Asi:DW.ver=0:=rfl
@[go_sem] theorem Ash:DW.esz=0:=rfl
@[go_sem] theorem Au9:DW.ty=0:=rfl
@[go_sem] theorem A1B:({ ty:=0,esz:=0,ver:=0,nl:=true,rows:=[] }:VO)=DW:=rfl
end
@[go_sem] theorem Du (xs:List Int) (x:Int):xs.map eI++[[.i .i64 x]]=(xs++[x]).map eI:=by simp
@[go_sem] theorem Acr (xs:List (BitVec 64)) (x:BitVec 64):xs.map eW++[[vW x]]=(xs++[x]).map eW:=by simp
@[go_sem] theorem Axn (xs:List ByteArray) (x:ByteArray):xs.map eS++[[.s x]]=(xs++[x]).map eS:=by simp
section
variable {V:At} {m:Nat->Nat} {F:A4} {h:VH} {x w:Bool} {d:Option Nat} {op:By}
theorem BT {r:List AI} {R:A4->VH->Prop} (h1:x=true->VG V m (.b true) w d op r F h R) (h2:x=false->VG V m (.b false) w d op r F h R):VG V m (.b x) w d op r F h R:=by
 cases x with
 | true=>exact h1 rfl
 | false=>exact h2 rfl
theorem BI {c:List AI} {r:List AL} {L:LZ} {R:A4->VH->Prop} (h1:x=true->VGs V m (.b true) w d op c r L F h R) (h2:x=false->VGs V m (.b false) w d op c r L F h R):VGs V m (.b x) w d op c r L F h R:=by
 cases x with
 | true=>exact h1 rfl
 | false=>exact h2 rfl
theorem Bp {a b:A2} {Q:Ex->A4->VH->Prop} (h1:x=true->VCn V m (.b true) a b F h Q) (h2:x=false->VCn V m (.b false) a b F h Q):VCn V m (.b x) a b F h Q:=by
 cases x with
 | true=>exact h1 rfl
 | false=>exact h2 rfl
end
@[go_sem] theorem AuA (h:VH) (t e b:Nat) (x y:VV):Y8 0 h t e b x y=Kr h t e b x y:=rfl
@[go_sem] theorem AuB (h:VH) (t e b:Nat) (x y:VV):Y8 1 h t e b x y=Kr h t e b x y:=rfl
@[go_sem] theorem AuC (h:VH) (t e b:Nat) (x y:VV):Y8 2 h t e b x y=Kr h t e b x y:=rfl
def AnP (r:Option (VV×VH)):Option (VV×VH):=match r with
 | some (v,h')=>(match frz h' dF v with
  | some (r,ids)=>some (r,BL ids h')
  | none=>none)
 | none=>none
@[go_sem] theorem AuD (h:VH) (t e b:Nat) (x y:VV):Y8 5 h t e b x y=AnP (Kr h t e b x y):=by
 unfold Y8 AnP;rfl
@[go_sem] theorem Aq8 (v:VV) (h:VH):AnP (some (v,h))=(match frz h 8 v with
  | some (r,ids)=>some (r,BL ids h)
  | none=>none):=rfl
def Hf (n:Nat):Nat:=if n=0 then 0 else 1
def Yg (ty e:Nat) (rows:List (List VV)):VO:={ ty:=ty,esz:=e,ver:=Hf rows.length,nl:=false,rows:=rows }
@[go_sem] theorem AtV (ty e:Nat) (rows:List (List VV)):(Yg ty e rows).ver=Hf rows.length:=rfl
@[go_sem] theorem Arz (ty e:Nat) (rows:List (List VV)):(Yg ty e rows).rows=rows:=rfl
@[go_sem] theorem Aw2 (ty e:Nat) (rows:List (List VV)):(Yg ty e rows).ty=ty:=rfl
@[go_sem] theorem AtU (ty e:Nat) (rows:List (List VV)):(Yg ty e rows).esz=e:=rfl
@[go_sem] theorem Aw1 (ty e:Nat) (rows:List (List VV)):(Yg ty e rows).nl=false:=rfl
@[go_sem high] theorem Aqx (h:VH) (ty e b id:Nat) (ys:List (List VV)) (h0:Cp h id 0=some { ty:=ty,esz:=e,ver:=0,nl:=false,rows:=[] }) (h1:DX e ys=true) (h2:ys.length * b<=Aa) (h3:0 < e) :
  Kr h ty e b (.sl id 0 0 0) (.ls ys)=some (.sl id (Hf ys.length) 0 ys.length,h.set id (some (Yg ty e ys))):=by
 have hg:h[id]? = some (some { ty:=ty,esz:=e,ver:=0,nl:=false,rows:=[] }):=by
  unfold Cp at h0
  split at h0
  .rename_i o ho
   cases hb:Nat.beq o.ver 0 with
   | true=>rw [hb] at h0;cases h0;exact ho
   | false=>rw [hb] at h0;cases h0
  .cases h0
 have hb1:(Nat.ble ((0+ys.length) * b) Aa && Nat.blt 0 e)=true:=by
  rw [zero_add];simp only [Bool.and_eq_true,ble_eq,blt_eq];exact ⟨h2,h3⟩
 unfold Kr
 simp only [Qx,LW,h1,cond_true,h0,hb1]
 cases ys with
 | nil =>
  simp only [Option.some.injEq,Prod.mk.injEq]
  refine ⟨rfl,?_⟩
  obtain ⟨hi,he⟩:=List.getElem?_eq_some_iff.1 hg
  have:(some (Yg ty e []):Option VO)=h[id]:=by rw [he];rfl
  rw [this,List.set_getElem_self]
 | cons y ys =>
  simp only [beq_refl,length_nil,Bool.and_self,Bool.or_true,cond_true,nil_append,zero_add]
  rfl
@[go_sem low] theorem Apx (h:VH) (ty esz bytes:Nat) (id ver off n:Nat) (ys:List (List VV)):Kr h ty esz bytes (.sl id ver off n) (.ls ys)=(match Qx (.sl id ver off n),LW h esz (.ls ys) with
 | some n0,some ys0 =>
  bif Nat.ble ((n0+ys0.length) * bytes) Aa && Nat.blt 0 esz then
   match ((.sl id ver off n):VV) with
   | .sl id3 ver3 off3 _=>(match Cp h id3 ver3 with
    | some o=>(match ys0 with
     | []=>some ((.sl id ver off n),h)
     | y0::yr=>bif Nat.beq off3 0 && Nat.beq n0 o.rows.length && (o.nl || (Nat.beq o.ty ty && Nat.beq o.esz esz)) then
       some (.sl id3 (ver3+1) 0 (n0+ys0.length),h.set id3 (some { ty:=ty,esz:=esz,ver:=ver3+1,nl:=false,rows:=o.rows++ys0 }))
      else none)
    | none=>none)
   | .nl=>(match ys0 with
    | []=>some (.nl,h)
    | y0::yr=>some (.sl h.length 0 0 ys0.length,h++[some { ty:=ty,esz:=esz,ver:=0,nl:=false,rows:=ys0 }]))
   | _=>none
  else none
 | _,_=>none):=rfl
@[go_sem low] theorem Apy (h:VH) (ty esz bytes:Nat) (id ver off n:Nat)  : Kr h ty esz bytes (.sl id ver off n) .nl=(match Qx (.sl id ver off n),LW h esz .nl with
 | some n0,some ys0 =>
  bif Nat.ble ((n0+ys0.length) * bytes) Aa && Nat.blt 0 esz then
   match ((.sl id ver off n):VV) with
   | .sl id3 ver3 off3 _=>(match Cp h id3 ver3 with
    | some o=>(match ys0 with
     | []=>some ((.sl id ver off n),h)
     | y0::yr=>bif Nat.beq off3 0 && Nat.beq n0 o.rows.length && (o.nl || (Nat.beq o.ty ty && Nat.beq o.esz esz)) then
       some (.sl id3 (ver3+1) 0 (n0+ys0.length),h.set id3 (some { ty:=ty,esz:=esz,ver:=ver3+1,nl:=false,rows:=o.rows++ys0 }))
      else none)
    | none=>none)
   | .nl=>(match ys0 with
    | []=>some (.nl,h)
    | y0::yr=>some (.sl h.length 0 0 ys0.length,h++[some { ty:=ty,esz:=esz,ver:=0,nl:=false,rows:=ys0 }]))
   | _=>none
  else none
 | _,_=>none):=rfl
@[go_sem low] theorem Apz (h:VH) (ty esz bytes:Nat) (id ver off n:Nat) (id2 ver2 off2 n2:Nat):Kr h ty esz bytes (.sl id ver off n) (.sl id2 ver2 off2 n2)=(match Qx (.sl id ver off n),LW h esz (.sl id2 ver2 off2 n2) with
 | some n0,some ys0 =>
  bif Nat.ble ((n0+ys0.length) * bytes) Aa && Nat.blt 0 esz then
   match ((.sl id ver off n):VV) with
   | .sl id3 ver3 off3 _=>(match Cp h id3 ver3 with
    | some o=>(match ys0 with
     | []=>some ((.sl id ver off n),h)
     | y0::yr=>bif Nat.beq off3 0 && Nat.beq n0 o.rows.length && (o.nl || (Nat.beq o.ty ty && Nat.beq o.esz esz)) then
       some (.sl id3 (ver3+1) 0 (n0+ys0.length),h.set id3 (some { ty:=ty,esz:=esz,ver:=ver3+1,nl:=false,rows:=o.rows++ys0 }))
      else none)
    | none=>none)
   | .nl=>(match ys0 with
    | []=>some (.nl,h)
    | y0::yr=>some (.sl h.length 0 0 ys0.length,h++[some { ty:=ty,esz:=esz,ver:=0,nl:=false,rows:=ys0 }]))
   | _=>none
  else none
 | _,_=>none):=rfl
@[go_sem low] theorem Apu (h:VH) (ty esz bytes:Nat)  (ys:List (List VV)):Kr h ty esz bytes .nl (.ls ys)=(match Qx .nl,LW h esz (.ls ys) with
 | some n0,some ys0 =>
  bif Nat.ble ((n0+ys0.length) * bytes) Aa && Nat.blt 0 esz then
   match (.nl:VV) with
   | .sl id3 ver3 off3 _=>(match Cp h id3 ver3 with
    | some o=>(match ys0 with
     | []=>some (.nl,h)
     | y0::yr=>bif Nat.beq off3 0 && Nat.beq n0 o.rows.length && (o.nl || (Nat.beq o.ty ty && Nat.beq o.esz esz)) then
       some (.sl id3 (ver3+1) 0 (n0+ys0.length),h.set id3 (some { ty:=ty,esz:=esz,ver:=ver3+1,nl:=false,rows:=o.rows++ys0 }))
      else none)
    | none=>none)
   | .nl=>(match ys0 with
    | []=>some (.nl,h)
    | y0::yr=>some (.sl h.length 0 0 ys0.length,h++[some { ty:=ty,esz:=esz,ver:=0,nl:=false,rows:=ys0 }]))
   | _=>none
  else none
 | _,_=>none):=rfl
@[go_sem low] theorem Apv (h:VH) (ty esz bytes:Nat)   : Kr h ty esz bytes .nl .nl=(match Qx .nl,LW h esz .nl with
 | some n0,some ys0 =>
  bif Nat.ble ((n0+ys0.length) * bytes) Aa && Nat.blt 0 esz then
   match (.nl:VV) with
   | .sl id3 ver3 off3 _=>(match Cp h id3 ver3 with
    | some o=>(match ys0 with
     | []=>some (.nl,h)
     | y0::yr=>bif Nat.beq off3 0 && Nat.beq n0 o.rows.length && (o.nl || (Nat.beq o.ty ty && Nat.beq o.esz esz)) then
       some (.sl id3 (ver3+1) 0 (n0+ys0.length),h.set id3 (some { ty:=ty,esz:=esz,ver:=ver3+1,nl:=false,rows:=o.rows++ys0 }))
      else none)
    | none=>none)
   | .nl=>(match ys0 with
    | []=>some (.nl,h)
    | y0::yr=>some (.sl h.length 0 0 ys0.length,h++[some { ty:=ty,esz:=esz,ver:=0,nl:=false,rows:=ys0 }]))
   | _=>none
  else none
 | _,_=>none):=rfl
@[go_sem low] theorem Apw (h:VH) (ty esz bytes:Nat)  (id2 ver2 off2 n2:Nat):Kr h ty esz bytes .nl (.sl id2 ver2 off2 n2)=(match Qx .nl,LW h esz (.sl id2 ver2 off2 n2) with
 | some n0,some ys0 =>
  bif Nat.ble ((n0+ys0.length) * bytes) Aa && Nat.blt 0 esz then
   match (.nl:VV) with
   | .sl id3 ver3 off3 _=>(match Cp h id3 ver3 with
    | some o=>(match ys0 with
     | []=>some (.nl,h)
     | y0::yr=>bif Nat.beq off3 0 && Nat.beq n0 o.rows.length && (o.nl || (Nat.beq o.ty ty && Nat.beq o.esz esz)) then
       some (.sl id3 (ver3+1) 0 (n0+ys0.length),h.set id3 (some { ty:=ty,esz:=esz,ver:=ver3+1,nl:=false,rows:=o.rows++ys0 }))
      else none)
    | none=>none)
   | .nl=>(match ys0 with
    | []=>some (.nl,h)
    | y0::yr=>some (.sl h.length 0 0 ys0.length,h++[some { ty:=ty,esz:=esz,ver:=0,nl:=false,rows:=ys0 }]))
   | _=>none
  else none
 | _,_=>none):=rfl
attribute [go_sem] AiD
end Go.AM
