/-
  Own work, part of the proof of these laws: rules by which code is run over the machine of values.
-/
import Derived.Test.YtpnaenhghnkggabGreatDoorAmD
import Derived.Attr
set_option maxRecDepth 10000
set_option maxHeartbeats 64000000
set_option linter.unusedVariables false
set_option linter.unusedSimpArgs false
set_option linter.unusedSectionVars false
set_option linter.unnecessarySimpa false
open List (length_cons nil_append cons_append append_nil map_cons mem_cons length_nil not_mem_nil drop_zero map_nil all_cons)
open Option (bind_some)
namespace Go.AM
open Go
section
variable {A:Do} {F:Fr} {σ:St}
@[go_sem] theorem Aoz (F:Fr) (k:Nat) (v:AV) (j:Nat):Fr.tmp (Tm.set F k v) j=if j=k then v else Fr.tmp F j:=by
 grind [Fr.tmp,Tm.get_set]
def nth (l:List AV) (j:Nat):AV:=match l[j]? with | some v=>v | none=>AV.un
@[go_sem] theorem AjH (l:List AV) (j:Nat):Fr.tmp (Tm.ofList l) j=nth l j:=by
 grind [Fr.tmp,nth,Tm.get_ofList]
@[go_sem] theorem Aoi (j:Nat):nth [] j=AV.un:=by simp [nth]
@[go_sem] theorem Amx (a:AV) (l:List AV):nth (a::l) 0=a:=by simp [nth]
@[go_sem] theorem Amw (a:AV) (l:List AV) (j:Nat):nth (a::l) (j+1)=nth l j:=by simp [nth]
@[go_sem] theorem Akx (F:Fr) (d:Nat) (v:AV):BB F (some d) v=Tm.set F d v:=rfl
@[go_sem] theorem Akw (F:Fr) (v:AV):BB F none v=F:=rfl
@[go_sem] theorem Ato (F:Fr) (n:Nat):Fr.ev F (.t n)=Fr.tmp F n:=rfl
@[go_sem] theorem Atn (F:Fr) (v:AV):Fr.ev F (.c v)=v:=rfl
variable {Q:AV->St->Prop} {R:Fr->St->Prop}
@[go_sem] theorem AdF {d:Option Nat} {op:Bi} {r:List Ay}:Wr A (⟨d,none,op⟩::r) F σ R↔Wo A op F σ (fun v σ'=>Wr A r (BB F d v) σ' R):=A4O
def WG (A:Do) (v:AV) (w:Bool) (d:Option Nat) (op:Bi) (r:List Ay) (F:Fr) (σ:St) (R:Fr->St->Prop):Prop:=match v with
 | .b x=>(bif x == w then Wo A op F σ (fun v σ'=>Wr A r (BB F d v) σ' R) else Wr A r (BB F d AV.un) σ R)
 | _=>Wr A r (BB F d AV.un) σ R
@[go_sem] theorem Alo {d:Option Nat} {t:Nat} {w:Bool} {op:Bi} {r:List Ay}:Wr A (⟨d,some (t,w),op⟩::r) F σ R↔WG A (Fr.tmp F t) w d op r F σ R:=by
 rw [A4O]
 simp only [wanted,WG]
 cases Fr.tmp F t<;>rfl
@[go_sem] theorem Asj {d:Option Nat} {op:Bi} {r:List Ay}:WG A (.b true) true d op r F σ R↔Wo A op F σ (fun v σ'=>Wr A r (BB F d v) σ' R):=Iff.rfl
@[go_sem] theorem Asg {d:Option Nat} {op:Bi} {r:List Ay}:WG A (.b false) false d op r F σ R↔Wo A op F σ (fun v σ'=>Wr A r (BB F d v) σ' R):=Iff.rfl
@[go_sem] theorem Asi {d:Option Nat} {op:Bi} {r:List Ay}:WG A (.b true) false d op r F σ R↔Wr A r (BB F d AV.un) σ R:=Iff.rfl
@[go_sem] theorem Ash {d:Option Nat} {op:Bi} {r:List Ay}:WG A (.b false) true d op r F σ R↔Wr A r (BB F d AV.un) σ R:=Iff.rfl
attribute [go_sem] Ah1 Ah2 AdC AdB AgZ AgY AdA Ah0
@[go_sem] theorem AdG {i:Nat} {d:Option Nat} {op:Bi} {c:List Ay} {r:List AB}:Ws A (⟨i,⟨d,none,op⟩,c⟩::r) F σ R↔Wo A op F σ (fun v σ'=>Co (BB F d v) σ' c=true/\Ws A r (BB F d v) σ' R):=A4P
def WGs (A:Do) (v:AV) (w:Bool) (d:Option Nat) (op:Bi) (c:List Ay) (r:List AB) (F:Fr) (σ:St) (R:Fr->St->Prop):Prop:=match v with
 | .b x=>(bif x == w then Wo A op F σ (fun v σ'=>Co (BB F d v) σ' c=true/\Ws A r (BB F d v) σ' R) else Ws A r (BB F d AV.un) σ R)
 | _=>Ws A r (BB F d AV.un) σ R
@[go_sem] theorem Alp {i:Nat} {d:Option Nat} {t:Nat} {w:Bool} {op:Bi} {c:List Ay} {r:List AB}:Ws A (⟨i,⟨d,some (t,w),op⟩,c⟩::r) F σ R↔WGs A (Fr.tmp F t) w d op c r F σ R:=by
 grind [A4P,wanted,WGs]
@[go_sem] theorem Apv {d:Option Nat} {op:Bi} {c:List Ay} {r:List AB}:WGs A (.b true) true d op c r F σ R↔Wo A op F σ (fun v σ'=>Co (BB F d v) σ' c=true/\Ws A r (BB F d v) σ' R):=Iff.rfl
@[go_sem] theorem Aps {d:Option Nat} {op:Bi} {c:List Ay} {r:List AB}:WGs A (.b false) false d op c r F σ R↔Wo A op F σ (fun v σ'=>Co (BB F d v) σ' c=true/\Ws A r (BB F d v) σ' R):=Iff.rfl
@[go_sem] theorem Apu {d:Option Nat} {op:Bi} {c:List Ay} {r:List AB}:WGs A (.b true) false d op c r F σ R↔Ws A r (BB F d AV.un) σ R:=Iff.rfl
@[go_sem] theorem Apt {d:Option Nat} {op:Bi} {c:List Ay} {r:List AB}:WGs A (.b false) true d op c r F σ R↔Ws A r (BB F d AV.un) σ R:=Iff.rfl
@[go_sem] theorem Ask {w:Bool} {d:Option Nat} {op:Bi} {r:List Ay}:WG A AV.un w d op r F σ R↔Wr A r (BB F d AV.un) σ R:=Iff.rfl
@[go_sem] theorem Apw {w:Bool} {d:Option Nat} {op:Bi} {c:List Ay} {r:List AB}:WGs A AV.un w d op c r F σ R↔Ws A r (BB F d AV.un) σ R:=Iff.rfl
def WC (A:Do) (v:AV) (a b:A1) (F:Fr) (σ:St) (Q:Ex->Fr->St->Prop):Prop:=match v with
 | .b true=>Wc A a F σ Q
 | .b false=>Wc A b F σ Q
 | _=>False
@[go_sem] theorem Ak6 {x:Ar} {a b:A1} {Q:Ex->Fr->St->Prop}:Wc A (.cond x a b) F σ Q↔WC A (Fr.ev F x) a b F σ Q:=by
 cases h:Fr.ev F x with
 | b t=>rw [Adz h];cases t<;>rfl
 | _ =>
  constructor
  .rintro ⟨n,e,F',σ',h2,_⟩
   cases n with
   | zero=>simp [B0] at h2
   | succ n=>simp [B0,h] at h2
  .intro h2;exact h2.elim
@[go_sem] theorem At6 {a b:A1} {Q:Ex->Fr->St->Prop}:WC A (.b true) a b F σ Q↔Wc A a F σ Q:=Iff.rfl
@[go_sem] theorem At5 {a b:A1} {Q:Ex->Fr->St->Prop}:WC A (.b false) a b F σ Q↔Wc A b F σ Q:=Iff.rfl
def WP (v x y:AV) (σ:St) (Q:AV->St->Prop):Prop:=match v with
 | .b t=>Q (bif t then x else y) σ
 | _=>False
@[go_sem] theorem At8 {x y:AV}:WP (.b true) x y σ Q↔Q x σ:=Iff.rfl
@[go_sem] theorem At7 {x y:AV}:WP (.b false) x y σ Q↔Q y σ:=Iff.rfl
@[go_sem] theorem ApJ {x:Ar}:Wo A (.mov x) F σ Q↔Q (Fr.ev F x) σ:=by
 simp_all [CW,Aq,and_assoc]
@[go_sem] theorem AnL {c x y:Ar}:Wo A (.pick c x y) F σ Q↔WP (Fr.ev F c) (Fr.ev F x) (Fr.ev F y) σ Q:=by
 rw [CW (by intros;simp)]
 simp only [Aq]
 cases Fr.ev F c with
 | b t=>simp only [Option.some.injEq,Prod.mk.injEq,exists_and_left,exists_eq_left',and_assoc,WP]
 | _=>simp [WP]
@[go_sem] theorem ApA {ty n:Nat} {x:Ar}:Wo A (.box ty n x) F σ Q↔((Fr.ev F x).cells.length=n/\(Fr.ev F x).cells.all AV.cell=true)/\Q (.p (some (σ.next,0))) (σ.new { ty:=ty,rw:=true,esz:=0,len:=n,cs:=Tm.ofList (Fr.ev F x).cells }):=by
 rw [CW (by intros;simp)]
 simp only [Aq]
 cases hc:(Nat.beq (Fr.ev F x).cells.length n && (Fr.ev F x).cells.all AV.cell) with
 | false =>
  simp only [cond_false,reduceCtorEq,false_and,exists_false,false_iff]
  rintro ⟨⟨h1,h2⟩,_⟩
  rw [h1,h2] at hc
  simp at hc
 | true =>
  simp_all [and_assoc]
@[go_sem] theorem Alk {z:List AV} {ps:List (Nat×Nat×Ar)}:Wo A (.build z ps) F σ Q↔∃ cs,BJ F z ps=some cs/\Q (.ag cs) σ:=by
 rw [CW (by intros;simp)]
 simp only [Aq]
 grind
@[go_sem] theorem ApB {ty esz len:Nat} {z:List AV} {ps:List (Nat×Nat×Ar)}:Wo A (.bsl ty esz len z ps) F σ Q↔∃ cs,BJ F z ps=some cs/\Q (.sl (some (σ.next,0)) len) (σ.new { ty:=ty,rw:=true,esz:=esz,len:=len * esz,cs:=Tm.ofList cs }):=by
 rw [CW (by intros;simp)]
 simp only [Aq]
 grind
theorem U7 {n:Option Nat} {a:Ar} {r:AV×St}:Aq (.ld n a) F σ=some r↔∃ id off,Fr.ev F a = .p (some (id,off))/\σ.loadV n id off=some r.1/\σ=r.2:=by
 simp only [Aq]
 grind
@[go_sem] theorem Aso {n:Option Nat} {a:Ar}:Wo A (.ld n a) F σ Q↔∃ id off,Fr.ev F a = .p (some (id,off))/\∃ v,σ.loadV n id off=some v/\Q v σ:=by
 rw [CW (by intros;simp)]
 simp only [U7]
 grind
@[go_sem] theorem Asp {n:Nat} {a x:Ar}:Wo A (.st n a x) F σ Q↔∃ id off,Fr.ev F a = .p (some (id,off))/\(Fr.ev F x).cells.length=n/\∃ σ',σ.storeN id off (Fr.ev F x).cells=some σ'/\Q AV.un σ':=by
 rw [CW (by intros;simp)]
 simp only [Aq]
 constructor
 .rintro ⟨v,σ',h,hq⟩
  split at h
  .rename_i id off ha
   cases hc:Nat.beq (Fr.ev F x).cells.length n with
   | false=>rw [hc] at h;cases h
   | true =>
    rw [hc] at h
    simp only [cond_true] at h
    grind [Nat.eq_of_beq_eq_true]
  .cases h
 .rintro ⟨id,off,ha,hc,σ',hs,hq⟩
  refine ⟨AV.un,σ',?_,hq⟩
  simp_all
def A6B:AV->Option AV
 | .p (some a)=>some (.p (some a))
 | .f g a c=>some (.f g a c)
 | _=>none
@[go_sem] theorem Aof (a:Nat×Nat):A6B (.p (some a))=some (.p (some a)):=rfl
@[go_sem] theorem Aoe (g:Nat) (a c:List AV):A6B (.f g a c)=some (.f g a c):=rfl
@[go_sem] theorem AnK {x:Ar}:Wo A (.nilc x) F σ Q↔∃ v,A6B (Fr.ev F x)=some v/\Q v σ:=by
 rw [CW (by intros;simp)]
 simp only [Aq]
 constructor
 .rintro ⟨v,σ',h,hq⟩
  split at h<;>cases h<;>(rename_i e;rw [e];exact ⟨_,rfl,hq⟩)
 .rintro ⟨v,h,hq⟩
  unfold A6B at h
  grind
@[go_sem] theorem Apz {op:BinOp} {e:Option Pl} {x y:Ar}:Wo A (.bin op e x y) F σ Q↔∃ v,Bf op e (Fr.ev F x) (Fr.ev F y)=some v/\Q v σ:=by
 rw [CW (by intros;simp)]
 simp only [Aq]
 grind
@[go_sem] theorem ApL {x:Ar}:Wo A (.not x) F σ Q↔∃ t,Fr.ev F x = .b t/\Q (.b (!t)) σ:=by
 rw [CW (by intros;simp)]
 simp only [Aq]
 grind
@[go_sem] theorem ApK {x:Ar}:Wo A (.neg x) F σ Q↔∃ k n,Fr.ev F x = .i k n/\Q (.i k (k.wrap (0 - n))) σ:=by
 rw [CW (by intros;simp)]
 simp only [Aq]
 grind
@[go_sem] theorem AnI {k:IntKind} {x:Ar}:Wo A (.conv k x) F σ Q↔∃ k' n,Fr.ev F x = .i k' n/\Q (.i k (k.wrap n)) σ:=by
 rw [CW (by intros;simp)]
 simp only [Aq]
 grind
@[go_sem] theorem ApG {g:Nat} {a c:List Ar}:Wo A (.mkf g a c) F σ Q↔Q (.f g (a.map (Fr.ev F)) (c.map (Fr.ev F))) σ:=by
 simp_all [CW,Aq,and_assoc]
@[go_sem] theorem ApH {ty esz bytes:Nat} {z:List AV} {l c:Ar}:Wo A (.mks ty esz bytes z l c) F σ Q↔∃ n,Fr.ev F l = .i .i64 n/\∃ m,Fr.ev F c = .i .i64 m/\(0<=n/\n<=m/\m.toNat * bytes<=A8)/\Q (.sl (some (σ.next,0)) n.toNat) (σ.new { ty:=ty,rw:=true,esz:=esz,len:=n.toNat * esz,cs:=Tm.ofList ((List.replicate n.toNat z).flatten) }):=by
 rw [CW (by intros;simp)]
 simp only [Aq]
 grind
@[go_sem] theorem ApM {esz:Nat} {x:Ar} {lo hi:Option Ar}:Wo A (.slc esz x lo hi) F σ Q↔∃ v,E6 esz (Fr.ev F x) (lo.map (Fr.ev F)) (hi.map (Fr.ev F))=some v/\Q v σ:=by
 rw [CW (by intros;simp)]
 simp only [Aq]
 grind
@[go_sem] theorem Asl {off:Nat} {x:Ar}:Wo A (.fa off x) F σ Q↔∃ id o,Fr.ev F x = .p (some (id,o))/\Q (.p (some (id,o+off))) σ:=by
 rw [CW (by intros;simp)]
 simp only [Aq]
 grind
def AaF (esz:Nat) (x i:AV):Option AV:=match x,i with
  | .sl (some (id,o)) len,.i _ n=>if 0<=n/\n < len then some (.p (some (id,o+n.toNat * esz))) else none
  | _,_=>none
@[go_sem] theorem Asm {esz:Nat} {x i:Ar}:Wo A (.ia esz x i) F σ Q↔∃ v,AaF esz (Fr.ev F x) (Fr.ev F i)=some v/\Q v σ:=by
 rw [CW (by intros;simp)]
 have e:Aq (.ia esz x i) F σ=(match AaF esz (Fr.ev F x) (Fr.ev F i) with | some v=>some (v,σ) | none=>none):=by
  simp only [Aq,AaF]
  grind
 grind
@[go_sem] theorem ApE {len esz:Nat} {x i:Ar}:Wo A (.iaa len esz x i) F σ Q↔∃ id o,Fr.ev F x = .p (some (id,o))/\∃ k n,Fr.ev F i = .i k n/\(0<=n/\n < len)/\Q (.p (some (id,o+n.toNat * esz))) σ:=by
 rw [CW (by intros;simp)]
 simp only [Aq]
 grind
@[go_sem] theorem Asn {x i:Ar}:Wo A (.ix x i) F σ Q↔∃ s,Fr.ev F x = .s s/\∃ k n,Fr.ev F i = .i k n/\0<=n/\∃ b,s.data.toList[n.toNat]? = some b/\Q (.i .u8 b.toNat) σ:=by
 rw [CW (by intros;simp)]
 simp only [Aq]
 grind
@[go_sem] theorem ApD {x:Ar} {i:Nat}:Wo A (.ext x i) F σ Q↔∃ vs,Fr.ev F x = .tu vs/\∃ v,vs[i]? = some v/\Q v σ:=by
 rw [CW (by intros;simp)]
 simp only [Aq]
 grind
@[go_sem] theorem ApF {x:Ar}:Wo A (.len false x) F σ Q↔∃ o n,Fr.ev F x = .sl o n/\Q (.i .i64 n) σ:=by
 rw [CW (by intros;simp)]
 simp only [Aq]
 grind
@[go_sem] theorem AnJ {x:Ar}:Wo A (.len true x) F σ Q↔∃ s,Fr.ev F x = .s s/\Q (.i .i64 s.size) σ:=by
 rw [CW (by intros;simp)]
 simp only [Aq]
 grind
@[go_sem] theorem Apy {ty esz bytes:Nat} {x y:Ar}:Wo A (.app ty esz bytes x y) F σ Q↔∃ o n,Fr.ev F x = .sl o n/\∃ o' m,Fr.ev F y = .sl o' m/\∃ v σ',Pn ty esz bytes o n o' m σ=some (v,σ')/\Q v σ':=by
 rw [CW (by intros;simp)]
 simp only [Aq]
 grind
@[go_sem] theorem ApC {esz:Nat} {x y:Ar}:Wo A (.cpy esz x y) F σ Q↔∃ o n,Fr.ev F x = .sl o n/\∃ o' m,Fr.ev F y = .sl o' m/\∃ v σ',A7s esz o n o' m σ=some (v,σ')/\Q v σ':=by
 rw [CW (by intros;simp)]
 simp only [Aq]
 grind
@[go_sem] theorem ApI {mx:Bool} {x y:Ar}:Wo A (.mnx mx x y) F σ Q↔∃ k a,Fr.ev F x = .i k a/\∃ c,Fr.ev F y = .i k c/\Q (.i k (Nm mx a c)) σ:=by
 rw [CW (by intros;simp)]
 simp only [Aq]
 constructor
 .rintro ⟨v,σ',h,hq⟩
  split at h
  .rename_i k a k' c h1 h2
   split at h
   .grind
   .cases h
  .cases h
 grind
@[go_sem] theorem Alm {g:Nat} {a c:List AV} {args:List Ar}:Wo A (.call (.c (.f g a c)) args) F σ Q↔Wk A g (a++args.map (Fr.ev F)++c) σ Q:=A4N rfl
@[go_sem] theorem Aln {t:Nat} {args:List Ar}:Wo A (.call (.t t) args) F σ Q↔∃ g a c,Fr.tmp F t = .f g a c/\Wk A g (a++args.map (Fr.ev F)++c) σ Q:=by
 constructor
 .rintro ⟨n,v,σ',h,hq⟩
  simp only [AT] at h
  split at h
  .rename_i g a c h1;exact ⟨g,a,c,h1,n,v,σ',h,hq⟩
  .cases h
 .rintro ⟨g,a,c,h1,h2⟩
  exact (A4N (f:=.t t) h1).2 h2
@[go_sem] theorem AgA:Co F σ []=true:=rfl
mutual
theorem ZB:∀ v:AV,AV.eqb v v=true
 | .b x=>by simp [AV.eqb]
 | .i k n=>by simp [AV.eqb]
 | .s x=>by simp [AV.eqb]
 | .p o=>by simp [AV.eqb]
 | .sl o n=>by simp [AV.eqb]
 | .f g a c=>by simp [AV.eqb,HJ a,HJ c]
 | .nf=>rfl
 | .ag cs=>by simp [AV.eqb,HJ cs]
 | .tu cs=>by simp [AV.eqb,HJ cs]
theorem HJ:∀ l:List AV,AV.eqbL l l=true
 | []=>rfl
 | x::xs=>by simp [AV.eqbL,ZB x,HJ xs]
end
theorem A4g {d:Nat} {n:Option Nat} {a:Ar} {r:List Ay}:Co F σ (⟨some d,none,.ld n a⟩::r)=true↔(∃ id off,Fr.ev F a = .p (some (id,off))/\σ.loadV n id off=some (Fr.tmp F d))/\Co F σ r=true:=by
 simp only [Co,wanted,cond_true,Bool.and_eq_true]
 refine and_congr ?_ Iff.rfl
 constructor
 .grind [U7,A1J]
 .rintro ⟨id,off,h1,h2⟩
  have he:Aq (.ld n a) F σ=some (Fr.tmp F d,σ):=U7.2 ⟨id,off,h1,h2,rfl⟩
  rw [he]
  exact ZB _
attribute [go_sem] A4g
@[go_sem] theorem AnQ (x:Bool):(AV.b x).cells=[.b x]:=rfl
@[go_sem] theorem AnS (k:IntKind) (x:Int):(AV.i k x).cells=[.i k x]:=rfl
@[go_sem] theorem AnU (x:ByteArray):(AV.s x).cells=[.s x]:=rfl
@[go_sem] theorem AnT (x:Option (Nat×Nat)):(AV.p x).cells=[.p x]:=rfl
@[go_sem] theorem AlE (x:Option (Nat×Nat)) (n:Nat):(AV.sl x n).cells=[.sl x n]:=rfl
@[go_sem] theorem AnR (g:Nat) (a c:List AV):(AV.f g a c).cells=[.f g a c]:=rfl
@[go_sem] theorem AlD:AV.nf.cells=[.nf]:=rfl
@[go_sem] theorem AlC (l:List AV):(AV.ag l).cells=l:=rfl
@[go_sem] theorem ApU (x:Bool):(AV.b x).cell=true:=rfl
@[go_sem] theorem ApW (k:IntKind) (x:Int):(AV.i k x).cell=true:=rfl
@[go_sem] theorem ApY (x:ByteArray):(AV.s x).cell=true:=rfl
@[go_sem] theorem ApX (x:Option (Nat×Nat)):(AV.p x).cell=true:=rfl
@[go_sem] theorem AnP (x:Option (Nat×Nat)) (n:Nat):(AV.sl x n).cell=true:=rfl
@[go_sem] theorem ApV (g:Nat) (a c:List AV):(AV.f g a c).cell=true:=rfl
@[go_sem] theorem AnO:AV.nf.cell=true:=rfl
@[go_sem] theorem Ags (cells:List AV):BJ F cells []=some cells:=rfl
@[go_sem] theorem Ae6 {cells:List AV} {off sz:Nat} {x:Ar} {r:List (Nat×Nat×Ar)} (h1:(Fr.ev F x).cells.length=sz) (h2:(Fr.ev F x).cells.all AV.cell=true) (h3:off+sz<=cells.length):BJ F cells ((off,sz,x)::r)=BJ F (Lg cells off (Fr.ev F x).cells) r:=by
 have h3':Nat.ble (off+sz) cells.length=true:=by rw [Nat.ble_eq];exact h3
 have h1':Nat.beq (Fr.ev F x).cells.length sz=true:=by rw [h1];exact Nat.beq_refl sz
 simp only [BJ,h1',h2,h3',Bool.and_self,cond_true]
theorem A7C (cells:List AV) (off:Nat) (xs:List AV):Lg cells off xs=cells.take off++xs++cells.drop (off+xs.length):=rfl
attribute [go_sem] A7C length_cons length_nil all_cons List.all_nil Bool.and_self Bool.and_true Bool.true_and List.take_succ_cons List.take_zero List.drop_succ_cons drop_zero List.take_nil List.drop_nil Nat.zero_add Nat.add_zero Nat.mul_one Nat.le_refl
@[go_sem] theorem AfE:Cc F σ []=some []:=rfl
@[go_sem] theorem Ajs {a:Nat}:Cc F σ [.t a]=some [Fr.tmp F a]:=rfl
@[go_sem] theorem Ajt {a b:Nat}:Cc F σ [.t a,.t b]=some [Fr.tmp F a,Fr.tmp F b]:=rfl
@[go_sem] theorem Aju {a b c:Nat}:Cc F σ [.t a,.t b,.t c]=some [Fr.tmp F a,Fr.tmp F b,Fr.tmp F c]:=rfl
@[go_sem] theorem Arl:Yj [] = .tu []:=rfl
@[go_sem] theorem Arm (v:AV):Yj [v]=v:=rfl
@[go_sem] theorem Arn (v w:AV) (l:List AV):Yj (v::w::l) = .tu (v::w::l):=rfl
attribute [go_sem] decide_true decide_false Bool.not_true Bool.not_false cond_true cond_false not_true_eq_false not_false_eq_true if_true if_false false_and and_false exists_false imp_false
attribute [go_sem] AV.b.injEq AV.i.injEq AV.s.injEq AV.p.injEq AV.sl.injEq AV.f.injEq AV.ag.injEq AV.tu.injEq Option.some.injEq Prod.mk.injEq true_and and_true and_self exists_eq_left' exists_eq' exists_and_left and_assoc
 map_cons map_nil append_nil nil_append cons_append Option.map_some Option.map_none decide_eq_true_eq decide_eq_false_iff_not forall_const Bool.not_eq_true Bool.not_eq_false reduceCtorEq false_implies implies_true
end
theorem Av {x:Int} (h1 : -9223372036854775808<=x) (h2:x < 9223372036854775808):IntKind.i64.wrap x=x:=by
 grind [IntKind.wrap,IntKind.signed,IntKind.bits]
theorem HX (x:Int):IntKind.u64.wrap x=x % 18446744073709551616:=by
 simp [IntKind.wrap,IntKind.signed,IntKind.bits]
section
variable {e:Option Pl} {k:IntKind} {a c:Int}
@[go_sem] theorem Aly:Bf .add e (.i k a) (.i k c)=some (.i k (k.wrap (a+c))):=by simp [Bf,ER]
@[go_sem] theorem AlA:Bf .sub e (.i k a) (.i k c)=some (.i k (k.wrap (a - c))):=by simp [Bf,ER]
@[go_sem] theorem Alz:Bf .mul e (.i k a) (.i k c)=some (.i k (k.wrap (a * c))):=by simp [Bf,ER]
theorem A92 (h:c≠0):Bf .rem e (.i k a) (.i k c)=some (.i k (a.tmod c)):=by simp [Bf,ER,h]
@[go_sem] theorem Zj:Bf .eql e (.i k a) (.i k c)=some (.b (decide (a=c))):=by
 grind [Bf,ER]
@[go_sem] theorem Zk:Bf .neq e (.i k a) (.i k c)=some (.b (!decide (a=c))):=by
 grind [Bf,ER]
@[go_sem] theorem A91:Bf .lss e (.i k a) (.i k c)=some (.b (decide (a < c))):=by simp [Bf,ER]
@[go_sem] theorem A90:Bf .leq e (.i k a) (.i k c)=some (.b (decide (a<=c))):=by simp [Bf,ER]
@[go_sem] theorem A8Z:Bf .gtr e (.i k a) (.i k c)=some (.b (decide (c < a))):=by simp [Bf,ER]
@[go_sem] theorem A8Y:Bf .geq e (.i k a) (.i k c)=some (.b (decide (c<=a))):=by simp [Bf,ER]
end
@[go_sem] theorem Akf (x y:Bool):Bf .eql (some .b) (.b x) (.b y)=some (.b (x == y)):=rfl
@[go_sem] theorem Akg (x y:Bool):Bf .neq (some .b) (.b x) (.b y)=some (.b (!(x == y))):=rfl
theorem Zr {a b:ByteArray}:a.toList=b.toList↔a=b:=by
 have key:∀ a:ByteArray,a.toList=a.data.toList:=fun a=>by
  simp [ByteArray.toList_eq]
 constructor
 .intro h
  rw [key,key] at h
  cases a;cases b
  simp at h
  rw [h]
 .rintro rfl;rfl
@[go_sem] theorem A7m {e:Option Pl} (x y:ByteArray):Bf .eql e (.s x) (.s y)=some (.b (decide (x=y))):=by
 grind [Bf,A8X,Zr]
@[go_sem] theorem A7n {e:Option Pl} (x y:ByteArray):Bf .neq e (.s x) (.s y)=some (.b (!decide (x=y))):=by
 grind [Bf,A8X,Zr]
def Wd (w:BitVec 64):AV:=.i .u64 (w.toNat:Int)
theorem Hj (w:BitVec 64):BitVec.ofInt 64 (w.toNat:Int)=w:=by
 grind
theorem A4G (w:BitVec 64):IntKind.u64.wrap (w.toNat:Int)=(w.toNat:Int):=by
 rw [HX]
 have:=w.isLt
 omega
section
variable {e:Option Pl} {a b:BitVec 64}
@[go_sem] theorem At9:AV.i .u64 0=Wd 0#64:=rfl
@[go_sem] theorem Ata:AV.i .u64 1=Wd 1#64:=rfl
@[go_sem] theorem Zl:Bf .and e (Wd a) (Wd b)=some (Wd (a &&& b)):=by
 simp only [Wd,Bf,ER,if_true,IntKind.bits,Hj,A4G]
 rfl
@[go_sem] theorem AdL:Bf .or e (Wd a) (Wd b)=some (Wd (a ||| b)):=by
 simp only [Wd,Bf,ER,if_true,IntKind.bits,Hj,A4G]
 rfl
@[go_sem] theorem Zm:Bf .andNot e (Wd a) (Wd b)=some (Wd (a &&& ~~~b)):=by
 simp only [Wd,Bf,ER,if_true,IntKind.bits,Hj,A4G]
 rfl
@[go_sem] theorem A98:Bf .sub e (Wd a) (Wd b)=some (Wd (a - b)):=by
 simp only [Wd,Bf,ER,if_true,HX,Option.some.injEq,AV.i.injEq,true_and]
 rw [BitVec.toNat_sub]
 have:=a.isLt;have:=b.isLt
 omega
@[go_sem] theorem A93:Bf .add e (Wd a) (Wd b)=some (Wd (a+b)):=by
 simp only [Wd,Bf,ER,if_true,HX,Option.some.injEq,AV.i.injEq,true_and]
 grind
@[go_sem] theorem A94:Bf .eql e (Wd a) (Wd b)=some (.b (decide (a=b))):=by
 simp only [Wd,Zj,Int.natCast_inj,BitVec.toNat_inj]
@[go_sem] theorem A95:Bf .neq e (Wd a) (Wd b)=some (.b (!decide (a=b))):=by
 simp only [Wd,Zk,Int.natCast_inj,BitVec.toNat_inj]
theorem A96 {n:Nat} (h:n < 64):Bf .shl e (Wd a) (.i .i64 n)=some (Wd (a <<< n)):=by
 have h0:¬ ((n:Int) < 0):=by omega
 simp only [Wd,Bf,Gv,if_neg h0,IntKind.bits,HX,Option.some.injEq,AV.i.injEq,true_and,Int.toNat_natCast]
 grind [Nat.shiftLeft_eq]
theorem A97 {n:Nat} (h:n < 64):Bf .shr e (Wd a) (.i .i64 n)=some (Wd (a >>> n)):=by
 have h0:¬ ((n:Int) < 0):=by omega
 simp only [Wd,Bf,Gv,if_neg h0,IntKind.bits,Option.some.injEq,AV.i.injEq,true_and,Int.toNat_natCast]
 grind [Nat.shiftRight_eq_div_pow]
end
@[go_sem] theorem AV.cell_Wd (w:BitVec 64):(Wd w).cell=true:=rfl
@[go_sem] theorem AV.cells_Wd (w:BitVec 64):(Wd w).cells=[Wd w]:=rfl
end Go.AM
namespace Go.AM
open Go
class Rdr (α:Type) where
 size:Nat
 rd:St->List AV->Option α
 len:∀ {σ:St} {cs:List AV} {x:α},rd σ cs=some x->cs.length=size
 ext:∀ {σ σ':St} {cs:List AV} {x:α},Dn σ σ'->rd σ cs=some x->rd σ' cs=some x
 cell:∀ {σ:St} {cs:List AV} {x:α},rd σ cs=some x->cs.all AV.cell=true
def A6M (cs:List AV):Option Int:=match cs with
 | [.i .i64 n]=>some n
 | _=>none
theorem Rh {cs:List AV} {n:Int}:A6M cs=some n↔cs=[.i .i64 n]:=by
 constructor
 .intro h
  unfold A6M at h
  grind
 .rintro rfl;rfl
instance : Rdr Int where
 size:=1
 rd _ cs:=A6M cs
 len h:=by rw [Rh.1 h];rfl
 ext _ h:=h
 cell h:=by rw [Rh.1 h];rfl
def Yl (cs:List AV):Option Bool:=match cs with
 | [.b n]=>some n
 | _=>none
theorem NC {cs:List AV} {n:Bool}:Yl cs=some n↔cs=[.b n]:=by
 constructor
 .intro h
  unfold Yl at h
  grind
 .rintro rfl;rfl
instance : Rdr Bool where
 size:=1
 rd _ cs:=Yl cs
 len h:=by rw [NC.1 h];rfl
 ext _ h:=h
 cell h:=by rw [NC.1 h];rfl
def Rj (cs:List AV):Option (BitVec 64):=match cs with
 | [.i .u64 n]=>if 0<=n/\n < 18446744073709551616 then some (BitVec.ofInt 64 n) else none
 | _=>none
theorem ND {cs:List AV} {n:BitVec 64}:Rj cs=some n↔cs=[Wd n]:=by
 constructor
 .intro h
  unfold Rj at h
  split at h
  .split at h
   .rename_i n hn
    cases h
    simp only [Wd,List.cons.injEq,and_true,AV.i.injEq,true_and]
    obtain ⟨m,rfl⟩:=Int.eq_ofNat_of_zero_le hn.1
    grind
   .cases h
  .cases h
 .rintro rfl
  have:=n.isLt
  simp only [Rj,Wd]
  rw [if_pos (by omega),Hj]
instance : Rdr (BitVec 64) where
 size:=1
 rd _ cs:=Rj cs
 len h:=by rw [ND.1 h];rfl
 ext _ h:=h
 cell h:=by rw [ND.1 h];rfl
def A6N (cs:List AV):Option ByteArray:=match cs with
 | [.s n]=>some n
 | _=>none
theorem Ri {cs:List AV} {n:ByteArray}:A6N cs=some n↔cs=[.s n]:=by
 constructor
 .intro h
  unfold A6N at h
  grind
 .rintro rfl;rfl
instance : Rdr ByteArray where
 size:=1
 rd _ cs:=A6N cs
 len h:=by rw [Ri.1 h];rfl
 ext _ h:=h
 cell h:=by rw [Ri.1 h];rfl
structure U8 where
 n:Nat
def Afz (cs:List AV):Option U8:=match cs with
 | [.i .u8 n]=>if 0<=n/\n < 256 then some ⟨n.toNat⟩ else none
 | _=>none
theorem A6O {cs:List AV} {n:U8}:Afz cs=some n↔cs=[.i .u8 (n.n:Int)]/\n.n < 256:=by
 constructor
 .intro h
  unfold Afz at h
  grind
 .rintro ⟨rfl,h⟩
  simp only [Afz]
  rw [if_pos (by omega)]
  rfl
instance : Rdr U8 where
 size:=1
 rd _ cs:=Afz cs
 len h:=by rw [(A6O.1 h).1];rfl
 ext _ h:=h
 cell h:=by rw [(A6O.1 h).1];rfl
section
variable {α:Type} [Rdr α]
def HQ (σ:St):Nat->List AV->Option (List α)
 | 0,cs=>if cs.length=0 then some [] else none
 | n+1,cs=>match Rdr.rd σ (cs.take (Rdr.size α)),HQ σ n (cs.drop (Rdr.size α)) with
  | some x,some xs=>some (x::xs)
  | _,_=>none
theorem NB {σ:St}:∀ {n:Nat} {cs:List AV} {xs:List α},HQ σ n cs=some xs->xs.length=n/\cs.length=n * Rdr.size α:=by
 intro n
 induction n with
 | zero =>
  intro cs xs h
  simp only [HQ] at h
  grind
 | succ n ih =>
  grind [HQ,Rdr.len,List.length_take]
theorem A84 {σ σ':St} (he:Dn σ σ'):∀ {n:Nat} {cs:List AV} {xs:List α},HQ σ n cs=some xs->HQ σ' n cs=some xs:=by
 intro n
 induction n with
 | zero=>intro cs xs h;exact h
 | succ n ih =>
  grind [HQ,Rdr.ext]
theorem Acv {σ:St}:∀ {n:Nat} {cs:List AV} {xs:List α},HQ σ n cs=some xs->∀ (i:Nat) (h:i < xs.length),Rdr.rd σ ((cs.drop (i * Rdr.size α)).take (Rdr.size α))=some xs[i]:=by
 intro n
 induction n with
 | zero =>
  grind [HQ]
 | succ n ih =>
  intro cs xs h i hi
  simp only [HQ] at h
  split at h
  .rename_i x ys h1 h2
   cases h
   cases i with
   | zero=>simpa using h1
   | succ i =>
    have:=ih h2 i (by simpa using hi)
    grind [List.drop_drop]
  .cases h
def A85 (σ:St) (cs:List AV):Option (List α):=match cs with
 | [.sl o n]=>(Gg (Rdr.size α) o n σ).bind (HQ σ n)
 | _=>none
theorem Hl {σ:St} {cs:List AV} {xs:List α}:A85 σ cs=some xs↔∃ o ys,cs=[.sl o xs.length]/\Gg (Rdr.size α) o xs.length σ=some ys/\HQ σ xs.length ys=some xs:=by
 constructor
 .intro h
  unfold A85 at h
  split at h
  .rename_i o n
   obtain ⟨ys,h1,h2⟩:=Option.bind_eq_some_iff.1 h
   obtain ⟨h3,_⟩:=NB h2
   grind
  .cases h
 .rintro ⟨o,ys,rfl,h1,h2⟩
  grind [A85]
theorem AcO {σ σ':St} (he:Dn σ σ') {esz:Nat} {o:Option (Nat×Nat)} {n:Nat} {ys:List AV} (h:Gg esz o n σ=some ys):Gg esz o n σ' = some ys:=by
 unfold Gg at h ⊢
 cases o with
 | none=>exact h
 | some x=>exact he.loadN h
instance : Rdr (List α) where
 size:=1
 rd σ cs:=A85 σ cs
 len h:=by obtain ⟨o,ys,rfl,_⟩:=Hl.1 h;rfl
 ext he h:=by
  obtain ⟨o,ys,rfl,h1,h2⟩:=Hl.1 h
  exact Hl.2 ⟨o,ys,rfl,AcO he h1,A84 he h2⟩
 cell h:=by obtain ⟨o,ys,rfl,_⟩:=Hl.1 h;rfl
def Rd (σ:St) (v:AV) (x:α):Prop:=Rdr.rd σ [v]=some x
theorem Rd.ext {σ σ':St} {v:AV} {x:α} (h:Rd σ v x) (he:Dn σ σ'):Rd σ' v x:=Rdr.ext he h
theorem Rd.sl {σ:St} {v:AV} {xs:List α} (h:Rd σ v xs):∃ o,v = .sl o xs.length:=by
 obtain ⟨o,ys,h1,_⟩:=Hl.1 h
 grind
theorem Rd.nil {σ:St}:Rd σ (.sl none 0) ([]:List α):=Hl.2 ⟨none,[],rfl,rfl,rfl⟩
theorem Rd.at {σ:St} {v:AV} {xs:List α} (h:Rd σ v xs) (hs:0 < Rdr.size α) {i:Nat} (hi:i < xs.length) {k:IntKind} :
  ∃ id off cs,AaF (Rdr.size α) v (.i k i)=some (.p (some (id,off)))/\σ.loadN id off (Rdr.size α)=some cs/\Rdr.rd σ cs=some xs[i]:=by
 obtain ⟨o,ys,h1,h2,h3⟩:=Hl.1 h
 simp only [List.cons.injEq,and_true] at h1
 subst h1
 have h4:=Acv h3 i hi
 obtain ⟨_,h5⟩:=NB h3
 unfold Gg at h2
 cases o with
 | none =>
  grind [Nat.eq_of_beq_eq_true]
 | some x =>
  obtain ⟨id,off⟩:=x
  simp only at h2
  obtain ⟨h6,h7⟩:=A04 h2
  refine ⟨id,off+i * Rdr.size α,_,?_,?_,h4⟩
  .simp_all [AaF]
  .have hle:i * Rdr.size α+Rdr.size α<=xs.length * Rdr.size α:=by
    rw [<- Nat.succ_mul]
    exact Nat.mul_le_mul_right _ hi
   grind [HN]
end
theorem Rd.int {σ:St} {v:AV} {x:Int}:Rd σ v x↔v = .i .i64 x:=by
 show A6M [v]=some x↔_
 rw [Rh]
 simp
theorem Rd.word {σ:St} {v:AV} {x:BitVec 64}:Rd σ v x↔v=Wd x:=by
 show Rj [v]=some x↔_
 rw [ND]
 simp
theorem Rd.bool {σ:St} {v:AV} {x:Bool}:Rd σ v x↔v = .b x:=by
 show Yl [v]=some x↔_
 rw [NC]
 simp
theorem Rd.str {σ:St} {v:AV} {x:ByteArray}:Rd σ v x↔v = .s x:=by
 show A6N [v]=some x↔_
 rw [Ri]
 simp
def D3 (σ:St) (id ty esz len:Nat) (cells:List AV):Prop :=
 ∃ cs,σ.get id=some { ty:=ty,rw:=true,esz:=esz,len:=len,cs:=cs }/\cells.length=len/\∀ j,j < len->cs.get j=cells[j]?
theorem D3.ext {σ σ':St} {id ty esz len:Nat} {cells:List AV} (h:D3 σ id ty esz len cells) (he:Dn σ σ'):D3 σ' id ty esz len cells:=by
 obtain ⟨cs,h1,h2⟩:=h
 exact ⟨cs,he.keep _ _ h1,h2⟩
theorem D3.of_get {σ σ':St} {id ty esz len:Nat} {cells:List AV} (h:D3 σ id ty esz len cells) (he:σ'.get id=σ.get id):D3 σ' id ty esz len cells:=by
 obtain ⟨cs,h1,h2⟩:=h
 exact ⟨cs,he.trans h1,h2⟩
theorem D3.load {σ:St} {id ty esz len:Nat} {cells:List AV} (h:D3 σ id ty esz len cells) {j:Nat} (hj:j < len):σ.load1 id j=cells[j]?:=by
 obtain ⟨cs,h1,h2,h3⟩:=h
 unfold St.load1
 rw [h1]
 have:Nat.blt j len=true:=by simpa [Nat.blt_eq] using hj
 grind
theorem D3.new {σ:St} {ty esz len:Nat} {cells:List AV} (hl:cells.length=len):D3 (σ.new { ty:=ty,rw:=true,esz:=esz,len:=len,cs:=Tm.ofList cells }) σ.next ty esz len cells :=
 ⟨_,by rw [Bq,if_pos rfl],hl,fun j hj=>Tm.get_ofList cells j⟩
theorem D3.lt {σ:St} {id ty esz len:Nat} {cells:List AV} (h:D3 σ id ty esz len cells) (hn:Hr σ):id < σ.next:=by
 obtain ⟨cs,h1,_⟩:=h
 rcases Nat.lt_or_ge id σ.next with h2 | h2
 .exact h2
 .rw [hn _ h2] at h1;cases h1
theorem D3.store {σ:St} {id ty esz len:Nat} {cells:List AV} (h:D3 σ id ty esz len cells):∀ {vs:List AV} {off:Nat},off+vs.length<=len->vs.all AV.cell=true ->
  ∃ σ',σ.storeN id off vs=some σ'/\D3 σ' id ty esz len (cells.take off++vs++cells.drop (off+vs.length))/\σ'.next=σ.next/\∀ j,j≠id->σ'.get j=σ.get j:=by
 intro vs
 induction vs generalizing σ cells with
 | nil =>
  intro off ho _
  refine ⟨σ,rfl,?_,rfl,fun _ _=>rfl⟩
  simpa using h
 | cons v vs ih =>
  intro off ho hc
  simp only [length_cons] at ho
  simp only [all_cons,Bool.and_eq_true] at hc
  obtain ⟨cs,h1,h2,h3⟩:=h
  have hb:Nat.blt off len=true:=by simp [Nat.blt_eq];omega
  have e1:σ.store1 id off v=some (σ.put id { ty:=ty,rw:=true,esz:=esz,len:=len,cs:=cs.set off v }):=by
   unfold St.store1
   grind
  have o1:D3 (σ.put id { ty:=ty,rw:=true,esz:=esz,len:=len,cs:=cs.set off v }) id ty esz len (cells.set off v):=by
   refine ⟨_,by rw [KI,if_pos rfl],by rw [List.length_set];exact h2,fun j hj=>?_⟩
   rw [Tm.get_set,List.getElem?_set]
   grind
  obtain ⟨σ',g1,g2,g3,g4⟩:=ih o1 (off:=off+1) (by omega) hc.2
  refine ⟨σ',?_,?_,g3,fun j hj=>?_⟩
  .grind [St.storeN]
  .have e2:(cells.set off v).take (off+1)++vs++(cells.set off v).drop (off+1+vs.length)=cells.take off++(v::vs)++cells.drop (off+(v::vs).length):=by
    rw [List.take_add_one,List.getElem?_set,if_pos rfl,if_pos (by omega),List.take_set_of_le (by omega),List.drop_set_of_lt (by omega)]
    grind
   rw [e2] at g2
   exact g2
  .rw [g4 j hj,KI,if_neg hj]
def Eb (σ0 σ:St) (v:AV) (ty esz n:Nat) (cells:List AV):Prop :=
 (v = .sl none 0/\n=0/\cells=[])\/∃ id,v = .sl (some (id,0)) n/\σ0.get id=none/\D3 σ id ty esz (n * esz) cells
theorem Eb.ext {σ0 σ σ':St} {v:AV} {ty esz n:Nat} {cells:List AV} (h:Eb σ0 σ v ty esz n cells) (he:Dn σ σ'):Eb σ0 σ' v ty esz n cells:=by
 rcases h with h | ⟨id,h1,h2,h3⟩
 .exact .inl h
 .exact .inr ⟨id,h1,h2,h3.ext he⟩
theorem Eb.nil {σ0 σ:St} {ty esz:Nat}:Eb σ0 σ (.sl none 0) ty esz 0 []:=.inl ⟨rfl,rfl,rfl⟩
theorem Eb.sl {σ0 σ:St} {v:AV} {ty esz n:Nat} {cells:List AV} (h:Eb σ0 σ v ty esz n cells):∃ o,v = .sl o n:=by
 rcases h with ⟨rfl,rfl,_⟩ | ⟨id,h1,_⟩
 .exact ⟨none,rfl⟩
 .exact ⟨_,h1⟩
theorem Eb.len {σ0 σ:St} {v:AV} {ty esz n:Nat} {cells:List AV} (h:Eb σ0 σ v ty esz n cells):cells.length=n * esz:=by
 rcases h with ⟨rfl,rfl,rfl⟩ | ⟨id,_,_,h1⟩
 .simp
 .obtain ⟨cs,_,h2,_⟩:=h1;exact h2
theorem Eb.src {σ0 σ:St} {o:Option (Nat×Nat)} {ty esz n:Nat} {cells:List AV} (h:Eb σ0 σ (.sl o n) ty esz n cells):Gg esz o n σ=some cells:=by
 rcases h with ⟨h1,rfl,rfl⟩ | ⟨id,h1,_,h2⟩
 .cases h1;rfl
 .cases h1
  have h4:cells.length=n * esz:=by obtain ⟨cs,_,h4,_⟩:=h2;exact h4
  exact HN h4 fun j hj=>by rw [Nat.zero_add];exact h2.load hj
theorem Eb.rd {α:Type} [Rdr α] {σ0 σ:St} {v:AV} {ty n:Nat} {cells:List AV} {xs:List α} (h:Eb σ0 σ v ty (Rdr.size α) n cells) (hx:HQ σ n cells=some xs):Rd σ v xs:=by
 obtain ⟨o,rfl⟩:=h.sl
 obtain ⟨h1,_⟩:=NB hx
 subst h1
 exact Hl.2 ⟨o,cells,rfl,h.src,hx⟩
theorem D3.loadV {σ:St} {id ty esz len:Nat} {cells:List AV} (h:D3 σ id ty esz len cells) {j:Nat} (hj:j < len) {c:AV} (hc:cells[j]? = some c):σ.loadV none id j=some c:=(h.load hj).trans hc
theorem Dn.upd {a b c:St} (h:Dn a b) {id:Nat} (hid:a.get id=none) (hn:id < b.next) (hx:c.next=b.next) (hg:∀ j,j≠id->c.get j=b.get j):Dn a c:=by
 refine ⟨by rw [hx];exact h.nx,fun j o x=>?_,fun j hj=>?_⟩
 .have:j≠id:=by rintro rfl;rw [hid] at x;cases x
  rw [hg j this]
  exact h.keep _ _ x
 .rw [hx] at hj
  rw [hg j (by omega)]
  exact h.nd _ hj
theorem Eb.upd {σ0 σ σ':St} {v:AV} {ty esz n r:Nat} {cells:List AV} (h:Eb σ0 σ v ty esz n cells) (hne:∀ off n,v≠.sl (some (r,off)) n) (hg:∀ j,j≠r->σ'.get j=σ.get j):Eb σ0 σ' v ty esz n cells:=by
 rcases h with h | ⟨id,h1,h2,h3⟩
 .exact .inl h
 .exact .inr ⟨id,h1,h2,h3.of_get (hg id (by rintro rfl;exact hne _ _ h1))⟩
@[go_sem] theorem Ako {σ:St} {ty esz len j:Nat} {rw:Bool} {cells:List AV}:(σ.new { ty:=ty,rw:=rw,esz:=esz,len:=len,cs:=Tm.ofList cells }).loadV none σ.next j=if j < len then cells[j]? else none:=by
 show St.load1 _ _ _=_
 unfold St.load1
 rw [Bq,if_pos rfl]
 by_cases h:j < len
 .have:Nat.blt j len=true:=by simpa [Nat.blt_eq] using h
  simp only [this,cond_true,if_pos h,Tm.get_ofList]
 .have:Nat.blt j len=false:=by
   grind [Nat.blt_eq]
  simp only [this,cond_false,if_neg h]
theorem D3.loadAll {σ:St} {id ty esz len:Nat} {cells:List AV} (h:D3 σ id ty esz len cells) {off n:Nat} (hn:off+n<=len):σ.loadV (some n) id off=some (.ag ((cells.drop off).take n)):=by
 have hl:cells.length=len:=by obtain ⟨cs,_,h4,_⟩:=h;exact h4
 have:σ.loadN id off n=some ((cells.drop off).take n):=by
  refine HN (by grind) fun j hj=>?_
  rw [h.load (by omega),List.getElem?_take_of_lt hj,List.getElem?_drop]
 unfold St.loadV
 simp only [this]
@[go_sem] theorem Aj0 {σ:St} {ty esz len n:Nat} {cells:List AV} (h1:cells.length=len) (h2:n=len):(σ.new { ty:=ty,rw:=true,esz:=esz,len:=len,cs:=Tm.ofList cells }).loadV (some n) σ.next 0=some (.ag cells):=by
 have h:D3 (σ.new { ty:=ty,rw:=true,esz:=esz,len:=len,cs:=Tm.ofList cells }) σ.next ty esz len cells:=D3.new h1
 subst h2
 rw [h.loadAll (by omega),drop_zero,List.take_of_length_le (by omega)]
theorem Eb.new {σ:St} (hn:Hr σ) {ty esz n:Nat} {cells:List AV} (hl:cells.length=n * esz):Eb σ (σ.new { ty:=ty,rw:=true,esz:=esz,len:=n * esz,cs:=Tm.ofList cells }) (.sl (some (σ.next,0)) n) ty esz n cells :=
 .inr ⟨σ.next,rfl,hn _ (Nat.le_refl _),D3.new hl⟩
theorem Eb.base {σ0 σ1 σ:St} {v:AV} {ty esz n:Nat} {cells:List AV} (h:Eb σ1 σ v ty esz n cells) (he:Dn σ0 σ1):Eb σ0 σ v ty esz n cells:=by
 rcases h with h | ⟨id,e1,e2,e3⟩
 .exact .inl h
 .refine .inr ⟨id,e1,?_,e3⟩
  cases hg:σ0.get id with
  | none=>rfl
  | some ob=>rw [he.keep _ _ hg] at e2;cases e2
def AkW (u v:AV):Prop:=∀ j o1 n1 o2 n2,u = .sl (some (j,o1)) n1->v≠.sl (some (j,o2)) n2
theorem Eb.apart {σb σ σ0:St} {u v:AV} {ty esz n ty' esz' n':Nat} {cells cells':List AV} (h:Eb σb σ u ty esz n cells) (h':Eb σ0 σb v ty' esz' n' cells'):AkW u v:=by
 rintro j o1 n1 o2 n2 rfl rfl
 rcases h with ⟨h1,_⟩ | ⟨id,h1,h2,h3⟩
 .cases h1
 .cases h1
  rcases h' with ⟨g1,_⟩ | ⟨id',g1,g2,cs,g3,_⟩
  .cases g1
  grind
end Go.AM
namespace Go.AM
open Go Go.Proofs
def BK (i:Int):BitVec 64:=if 0<=i/\i < 64 then 1#64 <<< i.toNat else 0#64
def Ca (s:BitVec 64):List Nat:=(List.range 64).filter fun i=>s.getLsbD i
theorem Um {p q:Nat->Bool} {k:Nat} (h1:p k=true) (h2:∀ j,j < k->p j=false) (h3:∀ j,q j=(p j && j != k)):∀ n,(List.range n).filter p=if k < n then k::(List.range n).filter q else []:=by
 intro n
 induction n with
 | zero=>simp
 | succ n ih =>
  rw [List.range_succ,List.filter_append,List.filter_append,ih]
  rcases Nat.lt_trichotomy k n with h | h | h
  .grind
  .simp_all
  grind
theorem AaO (s:BitVec 64) (h:s≠0#64):s.getLsbD (Lib.ctz 64 s.toNat)=true/\(∀ j,j < Lib.ctz 64 s.toNat->s.getLsbD j=false)/\(∀ j,(s &&& (s - 1#64)).getLsbD j=(s.getLsbD j && j != Lib.ctz 64 s.toNat))/\Lib.ctz 64 s.toNat < 64:=by
 have h0:s.toNat≠0:=fun e=>h (BitVec.eq_of_toNat_eq (by simpa using e))
 have hc:Lib.ctz 64 s.toNat=Lib.ctzFrom 64 s.toNat:=by simp [Lib.ctz,h0]
 obtain ⟨m,hm,hk⟩:=Lib.ctzFrom_spec 64 s.toNat (by omega) s.isLt
 rw [hc]
 generalize Lib.ctzFrom 64 s.toNat=k at hm hk
 have hb:∀ j,s.getLsbD j=(decide (j ≥ k) && (2 * m+1).testBit (j - k)):=by
  intro j
  show s.toNat.testBit j=_
  rw [hm,Nat.testBit_two_pow_mul]
 have hp:0 < 2 ^ k:=Nat.two_pow_pos k
 have hs1:(s - 1#64).toNat=2 ^ k * (2 * m)+(2 ^ k - 1):=by
  have h1:(s - 1#64).toNat=s.toNat - 1:=by
   rw [BitVec.toNat_sub]
   have:=s.isLt
   simp
   omega
  grind
 have hb1:∀ j,(s - 1#64).getLsbD j=if j < k then (2 ^ k - 1).testBit j else (2 * m).testBit (j - k):=by
  intro j
  show (s - 1#64).toNat.testBit j=_
  rw [hs1,Nat.testBit_two_pow_mul_add _ (by omega)]
 refine ⟨?_,?_,?_,hk⟩
 .rw [hb];simp
 .grind
 .intro j
  rw [BitVec.getLsbD_and,hb1,hb]
  rcases Nat.lt_trichotomy j k with h | h | h
  .grind
  .subst h;simp
  .obtain ⟨d,rfl⟩:∃ d,j=k+(d+1):=⟨j - k - 1,by omega⟩
   have h1:¬ k+(d+1) < k:=by omega
   have h2:k+(d+1) ≥ k:=by omega
   have h3:k+(d+1) - k=d+1:=by omega
   grind
theorem A3t {s:BitVec 64} (h:s≠0#64):Ca s=Lib.ctz 64 s.toNat::Ca (s &&& (s - 1#64)):=by
 obtain ⟨h1,h2,h3,h4⟩:=AaO s h
 have:=Um (p:=fun j=>s.getLsbD j) (q:=fun j=>(s &&& (s - 1#64)).getLsbD j) h1 h2 h3 64
 rw [if_pos h4] at this
 exact this
theorem A3u:Ca 0#64=[]:=by simp [Ca]
theorem A02 {s:BitVec 64} {i:Nat} (h:i∈Ca s):i < 64/\s.getLsbD i=true:=by
 simpa [Ca] using h
theorem KL {s:BitVec 64} {i:Nat}:i∈Ca s↔s.getLsbD i=true:=by
 grind [Ca]
theorem Cb (i:Int) (j:Nat):(BK i).getLsbD j=decide ((j:Int)=i/\j < 64):=by
 unfold BK
 grind
theorem NR (s:BitVec 64) (i:Int):(s &&& BK i=0#64)↔¬ (0<=i/\s.getLsbD i.toNat=true):=by
 constructor
 .rintro h ⟨h0,h1⟩
  have:=congrArg (fun x=>x.getLsbD i.toNat) h
  simp only [BitVec.getLsbD_and,h1,Bool.true_and,Cb] at this
  grind
 .intro h
  apply BitVec.eq_of_getLsbD_eq
  grind [Cb]
def B1 (s:BitVec 64) (i:Int):Bool:=decide (0<=i) && s.getLsbD i.toNat
theorem Aee (s:BitVec 64) (i:Int):(!decide (s &&& BK i=0#64))=B1 s i:=by
 have h:=NR s i
 unfold B1
 grind
theorem AD (s:BitVec 64) (i:Nat):B1 s (i:Int)=s.getLsbD i:=by simp [B1]
def BT (p:Nat->Bool):BitVec 64:=(List.range 64).foldl (fun s i=>if p i then s ||| BK i else s) 0#64
theorem AE (p:Nat->Bool) (j:Nat):(BT p).getLsbD j=(p j && decide (j < 64)):=by
 have key:∀ n,n<=64->((List.range n).foldl (fun s i=>if p i then s ||| BK i else s) 0#64).getLsbD j=(p j && decide (j < n)):=by
  intro n
  induction n with
  | zero=>intro _;simp
  | succ n ih =>
   grind [List.range_succ,Cb]
 exact key 64 (Nat.le_refl _)
theorem Bm {a b:BitVec 64} (h:∀ j,j < 64->a.getLsbD j=b.getLsbD j):a=b:=BitVec.eq_of_getLsbD_eq fun j hj=>h j hj
theorem MX (p:Nat->Bool) (k:Nat) (hk:k < 64):BT p ||| BK k=BT (fun j=>p j || decide (j=k)):=by
 apply Bm
 grind [AE,Cb]
theorem Bu {p q:Nat->Bool} (h:∀ j,j < 64->p j=q j):BT p=BT q:=by
 apply Bm
 grind [AE]
theorem Gl:BT (fun _=>false)=0#64:=by
 apply Bm
 intro j hj
 rw [AE]
 simp
end Go.AM
namespace Go.AM
open Go
structure AJ where
 thread:Int
 up:Int
 kind:Int
 loc:Int
 mode:Int
 val:Int
 rmw:Bool
 fin:Bool
 regs:List Int
 deriving DecidableEq
structure A2 where
 vals:Int
 locs:List ByteArray
 regs:List (List ByteArray)
 nodes:List AJ
structure A6 where
 has:List Int
 jf:List Int
 mo:List (List (List Int))
 deriving DecidableEq
structure A1k where
 has:List Int
 rf:List Int
 mo:List (List Int)
 deriving DecidableEq
def Nv (n:AJ) (rv:AV):List AV:=[.i .i64 n.thread,.i .i64 n.up,.i .i64 n.kind,.i .i64 n.loc,.i .i64 n.mode,.i .i64 n.val,.b n.rmw,.b n.fin,rv]
def Ym (σ:St) (cs:List AV):Option AJ:=match cs with
 | [.i .i64 a,.i .i64 b,.i .i64 c,.i .i64 d,.i .i64 e,.i .i64 f,.b g,.b h,rv]=>match A85 σ [rv] with
  | some rs=>some ⟨a,b,c,d,e,f,g,h,rs⟩
  | none=>none
 | _=>none
theorem KQ {σ:St} {cs:List AV} {n:AJ}:Ym σ cs=some n↔∃ rv,cs=Nv n rv/\Rd σ rv n.regs:=by
 constructor
 .intro h
  unfold Ym at h
  split at h
  .rename_i a b c d e f g k rv
   split at h
   .rename_i rs hrs
    cases h
    exact ⟨rv,rfl,hrs⟩
   .cases h
  .cases h
 .rintro ⟨rv,rfl,h⟩
  have h':A85 σ [rv]=some n.regs:=h
  simp only [Ym,Nv,h']
theorem Rd.cell {α:Type} [Rdr α] {σ:St} {v:AV} {x:α} (h:Rd σ v x):v.cell=true:=by
 have:=Rdr.cell h
 simpa using this
instance : Rdr AJ where
 size:=9
 rd σ cs:=Ym σ cs
 len h:=by obtain ⟨rv,rfl,_⟩:=KQ.1 h;rfl
 ext he h:=by
  obtain ⟨rv,rfl,h1⟩:=KQ.1 h
  exact KQ.2 ⟨rv,rfl,h1.ext he⟩
 cell h:=by
  obtain ⟨rv,rfl,h1⟩:=KQ.1 h
  have:=h1.cell
  simp only [Nv,all_cons,List.all_nil,this]
  rfl
def A8m (t:A2) (a b c:AV):List AV:=[.i .i64 t.vals,a,b,c]
def RdT (σ:St) (v:AV) (t:A2):Prop:=∃ a b c,v = .ag (A8m t a b c)/\Rd σ a t.locs/\Rd σ b t.regs/\Rd σ c t.nodes
theorem RdT.ext {σ σ':St} {v:AV} {t:A2} (h:RdT σ v t) (he:Dn σ σ'):RdT σ' v t:=by
 obtain ⟨a,b,c,h1,h2,h3,h4⟩:=h
 exact ⟨a,b,c,h1,h2.ext he,h3.ext he,h4.ext he⟩
def RdS (σ:St) (v:AV) (s:A6):Prop:=∃ a b c,v = .ag [a,b,c]/\Rd σ a s.has/\Rd σ b s.jf/\Rd σ c s.mo
theorem RdS.ext {σ σ':St} {v:AV} {t:A6} (h:RdS σ v t) (he:Dn σ σ'):RdS σ' v t:=by
 obtain ⟨a,b,c,h1,h2,h3,h4⟩:=h
 exact ⟨a,b,c,h1,h2.ext he,h3.ext he,h4.ext he⟩
def RdE (σ:St) (v:AV) (s:A1k):Prop:=∃ a b c,v = .ag [a,b,c]/\Rd σ a s.has/\Rd σ b s.rf/\Rd σ c s.mo
theorem RdE.ext {σ σ':St} {v:AV} {t:A1k} (h:RdE σ v t) (he:Dn σ σ'):RdE σ' v t:=by
 obtain ⟨a,b,c,h1,h2,h3,h4⟩:=h
 exact ⟨a,b,c,h1,h2.ext he,h3.ext he,h4.ext he⟩
theorem Rd.cells {α:Type} [Rdr α] {σ:St} {v:AV} {x:List α} (h:Rd σ v x):v.cells=[v]:=by
 obtain ⟨o,rfl⟩:=h.sl
 rfl
def enc:List Nat->Nat
 | []=>0
 | b::r=>b+256 * enc r
theorem GH (a b c d:Nat) (ha:a < 256) (hc:c < 256):(a+256 * b) &&& (c+256 * d)=(a &&& c)+256 * (b &&& d):=by
 have hac:a &&& c < 2 ^ 8:=Nat.and_lt_two_pow _ (by omega)
 apply Nat.eq_of_testBit_eq
 intro j
 rw [Nat.testBit_and]
 rw [show a+256 * b=2 ^ 8 * b+a by omega,show c+256 * d=2 ^ 8 * d+c by omega,show (a &&& c)+256 * (b &&& d)=2 ^ 8 * (b &&& d)+(a &&& c) by omega]
 rw [Nat.testBit_two_pow_mul_add _ (by omega),Nat.testBit_two_pow_mul_add _ (by omega),Nat.testBit_two_pow_mul_add _ hac]
 split<;>rw [Nat.testBit_and]
def f1 (b:Nat):Nat:=(b / 2 &&& 85)+(b &&& 85)
def f2 (b:Nat):Nat:=(b / 4 &&& 51)+(b &&& 51)
def f3 (b:Nat):Nat:=b / 16+b % 16
def pc8 (b:Nat):Nat:=((List.range 8).filter fun i=>b.testBit i).length
theorem k1:∀ b:Fin 256,∀ t:Fin 2,(b.val / 2+128 * t.val) &&& 85=b.val / 2 &&& 85:=by decide +kernel
theorem k2:∀ b:Fin 256,∀ t:Fin 4,(b.val / 4+64 * t.val) &&& 51=b.val / 4 &&& 51:=by decide +kernel
theorem k3:∀ b:Fin 256,∀ t:Fin 5,b.val % 16<=4->b.val / 16<=4->(b.val / 16+16 * t.val+b.val) &&& 15=f3 b.val:=by decide +kernel
theorem k4:∀ b:Fin 256,f1 b.val < 256/\f2 (f1 b.val) < 256/\f2 (f1 b.val) % 16<=4/\f2 (f1 b.val) / 16<=4/\f3 (f2 (f1 b.val))=pc8 b.val/\pc8 b.val<=8:=by decide +kernel
theorem AlL:∀ bs:List Nat,(∀ b∈bs,b < 256)->(enc bs / 2 &&& enc (List.replicate bs.length 85))+(enc bs &&& enc (List.replicate bs.length 85))=enc (bs.map f1)
 | [],_=>by simp [enc]
 | b::r,h=>by
  have hb:=h b (by simp)
  have ih:=AlL r fun x hx=>h x (by simp [hx])
  simp only [length_cons,List.replicate_succ,enc,map_cons]
  generalize enc r=R at *
  generalize enc (List.replicate r.length 85)=M at *
  have e1:(b+256 * R) / 2=(b / 2+128 * (R % 2))+256 * (R / 2):=by omega
  have e2:=k1 ⟨b,hb⟩ ⟨R % 2,by omega⟩
  simp only at e2
  rw [e1,GH _ _ _ _ (by omega) (by omega),GH _ _ _ _ hb (by omega),e2,<- ih,f1]
  omega
theorem AlM:∀ bs:List Nat,(∀ b∈bs,b < 256)->(enc bs / 4 &&& enc (List.replicate bs.length 51))+(enc bs &&& enc (List.replicate bs.length 51))=enc (bs.map f2)
 | [],_=>by simp [enc]
 | b::r,h=>by
  have hb:=h b (by simp)
  have ih:=AlM r fun x hx=>h x (by simp [hx])
  simp only [length_cons,List.replicate_succ,enc,map_cons]
  generalize enc r=R at *
  generalize enc (List.replicate r.length 51)=M at *
  have e1:(b+256 * R) / 4=(b / 4+64 * (R % 4))+256 * (R / 4):=by omega
  have e2:=k2 ⟨b,hb⟩ ⟨R % 4,by omega⟩
  simp only at e2
  rw [e1,GH _ _ _ _ (by omega) (by omega),GH _ _ _ _ hb (by omega),e2,<- ih,f2]
  omega
theorem AdW:∀ bs:List Nat,(∀ b∈bs,b < 256/\b % 16<=4/\b / 16<=4)->enc bs % 16<=4
 | [],_=>by simp [enc]
 | b::r,h=>by
  have hb:=h b (by simp)
  simp only [enc]
  omega
theorem AlN:∀ bs:List Nat,(∀ b∈bs,b < 256/\b % 16<=4/\b / 16<=4)->(enc bs / 16+enc bs) &&& enc (List.replicate bs.length 15)=enc (bs.map f3)
 | [],_=>by simp [enc]
 | b::r,h=>by
  have hb:=h b (by simp)
  have ih:=AlN r fun x hx=>h x (by simp [hx])
  have hm:=AdW r fun x hx=>h x (by simp [hx])
  simp only [length_cons,List.replicate_succ,enc,map_cons]
  generalize enc r=R at *
  generalize enc (List.replicate r.length 15)=M at *
  have e1:(b+256 * R) / 16+(b+256 * R)=(b / 16+16 * (R % 16)+b)+256 * (R / 16+R):=by omega
  have e2:=k3 ⟨b,hb.1⟩ ⟨R % 16,by omega⟩ hb.2.1 hb.2.2
  simp only at e2
  rw [e1,GH _ _ _ _ (by omega) (by omega),e2,<- ih]
def Bb (x:Nat):List Nat:=[x % 256,x / 256 % 256,x / 65536 % 256,x / 16777216 % 256,x / 4294967296 % 256,x / 1099511627776 % 256,x / 281474976710656 % 256,x / 72057594037927936 % 256]
theorem A7w {x:Nat} (h:x < 18446744073709551616):enc (Bb x)=x:=by
 simp only [Bb,enc]
 omega
def s1 (x:Nat):Nat:=((x / 2) &&& 6148914691236517205)+(x &&& 6148914691236517205)
def s2 (x:Nat):Nat:=((x / 4) &&& 3689348814741910323)+(x &&& 3689348814741910323)
def s3 (x:Nat):Nat:=(x / 16+x) &&& 1085102592571150095
def s4 (x:Nat):Nat:=x+x / 256
def s5 (x:Nat):Nat:=x+x / 65536
def s6 (x:Nat):Nat:=x+x / 4294967296
theorem JR {x b:Nat} (hb:b∈Bb x):b < 256:=by
 simp only [Bb,mem_cons,not_mem_nil,or_false] at hb
 omega
theorem m1 (l:List Nat) (h:l.length=8):enc (List.replicate l.length 85)=6148914691236517205:=by rw [h];decide
theorem m2 (l:List Nat) (h:l.length=8):enc (List.replicate l.length 51)=3689348814741910323:=by rw [h];decide
theorem m3 (l:List Nat) (h:l.length=8):enc (List.replicate l.length 15)=1085102592571150095:=by rw [h];decide
theorem bl (x:Nat):(Bb x).length=8:=rfl
theorem AmF {x:Nat} (h:x < 18446744073709551616):s1 x=enc ((Bb x).map f1):=by
 have h1:=AlL (Bb x) fun b hb=>JR hb
 rw [A7w h,m1 _ (bl x)] at h1
 exact h1
theorem AmG {x:Nat} (h:x < 18446744073709551616):s2 (s1 x)=enc (((Bb x).map f1).map f2):=by
 rw [AmF h]
 have h2:=AlM ((Bb x).map f1) (by
  intro b hb'
  obtain ⟨c,hc,rfl⟩:=List.mem_map.1 hb'
  exact (k4 ⟨c,JR hc⟩).1)
 rw [m2 _ (by rw [List.length_map];exact bl x)] at h2
 exact h2
theorem AmH {x:Nat} (h:x < 18446744073709551616):s3 (s2 (s1 x))=enc ((Bb x).map pc8):=by
 rw [AmG h]
 have hg:∀ b∈((Bb x).map f1).map f2,b < 256/\b % 16<=4/\b / 16<=4:=by
  intro b hb'
  obtain ⟨c,hc,rfl⟩:=List.mem_map.1 hb'
  obtain ⟨d,hd,rfl⟩:=List.mem_map.1 hc
  have:=k4 ⟨d,JR hd⟩
  grind
 have h3:=AlN (((Bb x).map f1).map f2) hg
 rw [m3 _ (by rw [List.length_map,List.length_map];exact bl x)] at h3
 have h4:((((Bb x).map f1).map f2).map f3)=(Bb x).map pc8:=by
  rw [List.map_map,List.map_map]
  apply List.map_congr_left
  intro b hb'
  exact (k4 ⟨b,JR hb'⟩).2.2.2.2.1
 rw [h4] at h3
 exact h3
theorem ArB (p0 p1 p2 p3 p4 p5 p6 p7:Nat) (h0:p0<=8) (h1:p1<=8) (h2:p2<=8) (h3:p3<=8) (h4:p4<=8) (h5:p5<=8) (h6:p6<=8) (h7:p7<=8) :
  s4 (enc [p0,p1,p2,p3,p4,p5,p6,p7])=(p0+p1)+256 * ((p1+p2)+256 * ((p2+p3)+256 * ((p3+p4)+256 * ((p4+p5)+256 * ((p5+p6)+256 * ((p6+p7)+256 * p7)))))):=by
 simp only [enc,s4]
 omega
theorem ArC (q0 q1 q2 q3 q4 q5 q6 q7:Nat) (h0:q0<=16) (h1:q1<=16) (h2:q2<=16) (h3:q3<=16) (h4:q4<=16) (h5:q5<=16) (h6:q6<=16) (h7:q7<=16) :
  s5 (q0+256 * (q1+256 * (q2+256 * (q3+256 * (q4+256 * (q5+256 * (q6+256 * q7)))))))=(q0+q2)+256 * ((q1+q3)+256 * ((q2+q4)+256 * ((q3+q5)+256 * ((q4+q6)+256 * ((q5+q7)+256 * (q6+256 * q7)))))):=by
 simp only [s5]
 omega
theorem ArD (q0 q1 q2 q3 q4 q5 q6 q7:Nat) (h0:q0<=32) (h1:q1<=32) (h2:q2<=32) (h3:q3<=32) (h4:q4<=32) (h5:q5<=32) (h6:q6<=32) (h7:q7<=32) :
  s6 (q0+256 * (q1+256 * (q2+256 * (q3+256 * (q4+256 * (q5+256 * (q6+256 * q7))))))) % 128=(q0+q4) % 128:=by
 simp only [s6]
 have e:(q0+256 * (q1+256 * (q2+256 * (q3+256 * (q4+256 * (q5+256 * (q6+256 * q7))))))) / 4294967296=q4+256 * (q5+256 * (q6+256 * q7)):=by omega
 omega
theorem ArE (p0 p1 p2 p3 p4 p5 p6 p7:Nat) (h0:p0<=8) (h1:p1<=8) (h2:p2<=8) (h3:p3<=8) (h4:p4<=8) (h5:p5<=8) (h6:p6<=8) (h7:p7<=8) :
  s6 (s5 (s4 (enc [p0,p1,p2,p3,p4,p5,p6,p7]))) % 128=p0+p1+p2+p3+p4+p5+p6+p7:=by
 rw [ArB _ _ _ _ _ _ _ _ h0 h1 h2 h3 h4 h5 h6 h7,ArC _ _ _ _ _ _ _ _ (by omega) (by omega) (by omega) (by omega) (by omega) (by omega) (by omega) (by omega),
  ArD _ _ _ _ _ _ _ _ (by omega) (by omega) (by omega) (by omega) (by omega) (by omega) (by omega) (by omega)]
 omega
theorem Aro {x:Nat} (h:x < 18446744073709551616):s6 (s5 (s4 (s3 (s2 (s1 x))))) % 128=((Bb x).map pc8).sum:=by
 rw [AmH h]
 have hp:∀ b∈Bb x,pc8 b<=8:=fun b hb'=>(k4 ⟨b,JR hb'⟩).2.2.2.2.2
 simp only [Bb,mem_cons,not_mem_nil,or_false,forall_eq_or_imp,forall_eq] at hp
 obtain ⟨h0,h1,h2,h3,h4,h5,h6,h7⟩:=hp
 simp only [Bb,map_cons,map_nil,List.sum_cons,List.sum_nil]
 grind [ArE]
def cnt (n x:Nat):Nat:=((List.range n).filter fun i=>x.testBit i).length
theorem A9e (n x:Nat):cnt (n+1) x=x % 2+cnt n (x / 2):=by
 unfold cnt
 rw [List.range_succ_eq_map,List.filter_cons]
 have e:((List.map Nat.succ (List.range n)).filter fun i=>x.testBit i).length=((List.range n).filter fun i=>(x / 2).testBit i).length:=by
  grind [List.filter_congr]
 grind
theorem Zt (x:Nat):cnt 0 x=0:=rfl
theorem Zs (n x:Nat):cnt (n+8) x=pc8 (x % 256)+cnt n (x / 256):=by
 have hp:pc8 (x % 256)=cnt 8 (x % 256):=rfl
 rw [hp]
 simp only [A9e,Zt]
 have e:x / 2 / 2 / 2 / 2 / 2 / 2 / 2 / 2=x / 256:=by omega
 rw [e]
 omega
theorem AlH (x:Nat):cnt 64 x=((Bb x).map pc8).sum:=by
 rw [show 64=56+8 from rfl,Zs,show 56=48+8 from rfl,Zs,show 48=40+8 from rfl,Zs,show 40=32+8 from rfl,Zs,show 32=24+8 from rfl,Zs,show 24=16+8 from rfl,Zs,show 16=8+8 from rfl,Zs,show 8=0+8 from rfl,Zs,Zt]
 simp only [Bb,map_cons,map_nil,List.sum_cons,List.sum_nil,Nat.div_div_eq_div_mul]
theorem A81 (w:BitVec 64):s6 (s5 (s4 (s3 (s2 (s1 w.toNat))))) % 128=(Ca w).length:=by
 rw [Aro w.isLt,<- AlH]
 rfl
theorem Arq {x:Nat} (h:x < 18446744073709551616):s1 x < 18446744073709551616/\s2 (s1 x) < 18446744073709551616/\s2 (s1 x) / 16+s2 (s1 x) < 18446744073709551616/\s3 (s2 (s1 x))<=1085102592571150095/\s4 (s3 (s2 (s1 x))) < 18446744073709551616/\s5 (s4 (s3 (s2 (s1 x)))) < 18446744073709551616/\s6 (s5 (s4 (s3 (s2 (s1 x))))) < 9223372036854775808:=by
 have a1:s1 x<=6148914691236517205+6148914691236517205:=Nat.add_le_add Nat.and_le_right Nat.and_le_right
 have a2:s2 (s1 x)<=3689348814741910323+3689348814741910323:=Nat.add_le_add Nat.and_le_right Nat.and_le_right
 have a3:s3 (s2 (s1 x))<=1085102592571150095:=Nat.and_le_right
 refine ⟨by omega,by omega,by omega,a3,?_,?_,?_⟩
 .simp only [s4];omega
 .simp only [s4,s5];omega
 .simp only [s4,s5,s6];omega
abbrev o (d:Nat) (op:Bi):Ay:=⟨some d,none,op⟩
abbrev ov (op:Bi):Ay:=⟨none,none,op⟩
abbrev og (d t:Nat) (w:Bool) (op:Bi):Ay:=⟨some d,some (t,w),op⟩
abbrev ovg (t:Nat) (w:Bool) (op:Bi):Ay:=⟨none,some (t,w),op⟩
abbrev bs (l:List UInt8):ByteArray:=⟨⟨l⟩⟩
abbrev sp (i:Nat) (x:Ay):AB:=⟨i,x,[]⟩
abbrev sq (i:Nat) (x:Ay) (c:List Ay):AB:=⟨i,x,c⟩
section
variable {V:Am} {m:Nat->Nat} {F:A3} {h:VH}
@[congr] theorem Alb {F:A3} {F':Unit->A3} {h:VH} {h':Unit->VH} {c:A1} {Q:Ex->A3->VH->Prop} (hF:∀ u:Unit,F=F' u) (hh:∀ u:Unit,h=h' u):Vc V m c F h Q=Vc V m c (F' ()) (h' ()) Q:=by rw [<- hF ()];rw [<- hh ()]
@[congr] theorem Ale {F:A3} {F':Unit->A3} {h:VH} {h':Unit->VH} {c:List Ay} {Q:A3->VH->Prop} (hF:∀ u:Unit,F=F' u) (hh:∀ u:Unit,h=h' u):Vr V m c F h Q=Vr V m c (F' ()) (h' ()) Q:=by rw [<- hF ()];rw [<- hh ()]
@[congr] theorem Alf {F:A3} {F':Unit->A3} {h:VH} {h':Unit->VH} {L:JI} {c:List AB} {Q:A3->VH->Prop} (hF:∀ u:Unit,F=F' u) (hh:∀ u:Unit,h=h' u):Vs V m c L F h Q=Vs V m c L (F' ()) (h' ()) Q:=by rw [<- hF ()];rw [<- hh ()]
@[congr] theorem Ald {k:Nat} {k':Unit->Nat} {op:Bi} {Q:VV->VH->Prop} (hk:∀ u:Unit,k=k' u):Vo V k op F h Q=Vo V (k' ()) op F h Q:=by rw [<- hk ()]
@[congr] theorem Ala {g:Nat} {a:List VV} {a':Unit->List VV} {Q:VV->Prop} (ha:∀ u:Unit,a=a' u):VP V g a Q=VP V g (a' ()) Q:=by rw [<- ha ()]
@[congr] theorem Ak1 {g b:Nat} {b':Unit->Nat} {a:List VV} {a':Unit->List VV} {Q:VV->VH->Prop} (ha:∀ u:Unit,a=a' u) (hb:∀ u:Unit,b=b' u):TE V g a b Q=TE V g (a' ()) (b' ()) Q:=by rw [<- ha ()];rw [<- hb ()]
@[congr] theorem Ak2 {g:Nat} {a:List VV} {a':Unit->List VV} {h:VH} {h':Unit->VH} {Q:VV->VH->Prop} (ha:∀ u:Unit,a=a' u) (hb:∀ u:Unit,h=h' u):LC V g a h Q=LC V g (a' ()) (h' ()) Q:=by rw [<- ha ()];rw [<- hb ()]
@[congr] theorem Ak3 {g:Nat} {a:List VV} {a':Unit->List VV} {h:VH} {h':Unit->VH} {Q:VV->VH->Prop} (ha:∀ u:Unit,a=a' u) (hb:∀ u:Unit,h=h' u):Gh V g a h Q=Gh V g (a' ()) (h' ()) Q:=by rw [<- ha ()];rw [<- hb ()]
def OK {α:Type} (r:Option α) (Q:α->Prop):Prop:=match r with
 | some x=>Q x
 | none=>False
@[congr] theorem Al2 {α:Type} {r:Option α} {r':Unit->Option α} {Q:α->Prop} (hr:∀ u:Unit,r=r' u):OK r Q=OK (r' ()) Q:=by rw [<- hr ()]
@[go_sem] theorem TA {α:Type} {x:α} {Q:α->Prop}:OK (some x) Q↔Q x:=Iff.rfl
@[go_sem] theorem Anz {α:Type} {Q:α->Prop}:OK none Q↔False:=Iff.rfl
def Ky {α β:Type} (r:Option (α×β)) (Q:α->β->Prop):Prop:=match r with
 | some (x,y)=>Q x y
 | none=>False
@[congr] theorem AjY {α β:Type} {r:Option (α×β)} {r':Unit->Option (α×β)} {Q:α->β->Prop} (hr:∀ u:Unit,r=r' u):Ky r Q=Ky (r' ()) Q:=by rw [<- hr ()]
@[go_sem] theorem YX {α β:Type} {x:α} {y:β} {Q:α->β->Prop}:Ky (some (x,y)) Q↔Q x y:=Iff.rfl
@[go_sem] theorem Al1 {α β:Type} {Q:α->β->Prop}:Ky none Q↔False:=Iff.rfl
theorem H8 {α β:Type} {r:Option (α×β)} {Q:α->β->Prop}:Ky r Q↔∃ x y,r=some (x,y)/\Q x y:=by
 cases r with
 | none=>simp [Ky]
 | some z =>
  obtain ⟨a,b⟩:=z
  exact ⟨fun q=>⟨a,b,rfl,q⟩,fun ⟨x,y,e,q⟩=>by cases e;exact q⟩
def mk {α:Type} (x:α):α:=x
@[go_sem] theorem Ej {α:Type} (x:α):mk x=x:=by
 have h:∀ y:α,mk y=y:=fun y=>rfl
 exact h x
theorem A1m {α:Type} {r:Option α} {Q:α->Prop}:OK r Q↔∃ x,r=some x/\Q x:=by
 cases r<;>simp [OK]
theorem D4 {k:Nat} {op:Bi} {Q:VV->VH->Prop} (hc:∀ f args,op≠.call f args):Vo V k op F h Q↔Ky (D7 k op F h) Q:=by
 rw [Ag0 hc,H8]
section
variable {k:Nat} {Q:VV->VH->Prop}
@[go_sem ↓] theorem A4M {x:Ar}:Vo V k (.mov x) F h Q↔Ky (mk (D7 k (.mov x) F h)) Q:=D4 (by intros;simp)
@[go_sem ↓] theorem AnF {a b c:Ar}:Vo V k (.pick a b c) F h Q↔Ky (mk (D7 k (.pick a b c) F h)) Q:=D4 (by intros;simp)
@[go_sem ↓] theorem Apf {ty n:Nat} {x:Ar}:Vo V k (.box ty n x) F h Q↔Ky (mk (D7 k (.box ty n x) F h)) Q:=D4 (by intros;simp)
@[go_sem ↓] theorem Alc {z:List AV} {ps:List (Nat×Nat×Ar)}:Vo V k (.build z ps) F h Q↔Ky (mk (D7 k (.build z ps) F h)) Q:=D4 (by intros;simp)
@[go_sem ↓] theorem Apg {t e l:Nat} {z:List AV} {ps:List (Nat×Nat×Ar)}:Vo V k (.bsl t e l z ps) F h Q↔Ky (mk (D7 k (.bsl t e l z ps) F h)) Q:=D4 (by intros;simp)
@[go_sem ↓] theorem Asc {n:Option Nat} {a:Ar}:Vo V k (.ld n a) F h Q↔OK (mk (vld h n (A3.ev F a))) fun v=>Q v h:=by
 rw [D4 (by intros;simp),Ej]
 simp only [D7]
 cases vld h n (A3.ev F a)<;>exact Iff.rfl
@[go_sem ↓] theorem Asd {n:Nat} {a x:Ar}:Vo V k (.st n a x) F h Q↔Ky (mk (D7 k (.st n a x) F h)) Q:=D4 (by intros;simp)
@[go_sem ↓] theorem AnE {x:Ar}:Vo V k (.nilc x) F h Q↔Ky (mk (D7 k (.nilc x) F h)) Q:=D4 (by intros;simp)
@[go_sem ↓] theorem A1o {op:BinOp} {e:Option Pl} {x y:Ar}:Vo V k (.bin op e x y) F h Q↔OK (mk (B5 op e (A3.ev F x) (A3.ev F y))) fun v=>Q v h:=by
 rw [D4 (by intros;simp),Ej]
 simp only [D7]
 cases B5 op e (A3.ev F x) (A3.ev F y)<;>exact Iff.rfl
@[go_sem ↓] theorem App {x:Ar}:Vo V k (.not x) F h Q↔Ky (mk (D7 k (.not x) F h)) Q:=D4 (by intros;simp)
@[go_sem ↓] theorem Apo {x:Ar}:Vo V k (.neg x) F h Q↔Ky (mk (D7 k (.neg x) F h)) Q:=D4 (by intros;simp)
@[go_sem ↓] theorem AnD {i:IntKind} {x:Ar}:Vo V k (.conv i x) F h Q↔Ky (mk (D7 k (.conv i x) F h)) Q:=D4 (by intros;simp)
@[go_sem ↓] theorem Apl {g:Nat} {a c:List Ar}:Vo V k (.mkf g a c) F h Q↔Q (.f g (a.map (A3.ev F)) (c.map (A3.ev F))) h:=by
 rw [D4 (by intros;simp)];exact Iff.rfl
@[go_sem ↓] theorem Apm {t e b:Nat} {z:List AV} {l c:Ar}:Vo V k (.mks t e b z l c) F h Q↔Ky (mk (D7 k (.mks t e b z l c) F h)) Q:=D4 (by intros;simp)
@[go_sem ↓] theorem Apq {e:Nat} {x:Ar} {lo hi:Option Ar}:Vo V k (.slc e x lo hi) F h Q↔OK (mk (A8r h e (A3.ev F x) (lo.map (A3.ev F)) (hi.map (A3.ev F)))) fun v=>Q v h:=by
 rw [D4 (by intros;simp),Ej]
 simp only [D7]
 cases A8r h e (A3.ev F x) (lo.map (A3.ev F)) (hi.map (A3.ev F))<;>exact Iff.rfl
@[go_sem ↓] theorem As9 {o:Nat} {x:Ar}:Vo V k (.fa o x) F h Q↔Ky (mk (D7 k (.fa o x) F h)) Q:=D4 (by intros;simp)
@[go_sem ↓] theorem Asa {e:Nat} {x i:Ar}:Vo V k (.ia e x i) F h Q↔Ky (mk (D7 k (.ia e x i) F h)) Q:=D4 (by intros;simp)
@[go_sem ↓] theorem Apj {l e:Nat} {x i:Ar}:Vo V k (.iaa l e x i) F h Q↔Ky (mk (D7 k (.iaa l e x i) F h)) Q:=D4 (by intros;simp)
@[go_sem ↓] theorem Asb {x i:Ar}:Vo V k (.ix x i) F h Q↔Ky (mk (D7 k (.ix x i) F h)) Q:=D4 (by intros;simp)
@[go_sem ↓] theorem Api {x:Ar} {i:Nat}:Vo V k (.ext x i) F h Q↔Ky (mk (D7 k (.ext x i) F h)) Q:=D4 (by intros;simp)
@[go_sem ↓] theorem Apk {s:Bool} {x:Ar}:Vo V k (.len s x) F h Q↔Ky (mk (D7 k (.len s x) F h)) Q:=D4 (by intros;simp)
@[go_sem ↓] theorem Ape {t e b:Nat} {x y:Ar}:Vo V k (.app t e b x y) F h Q↔Ky (mk (Pg k h t e b (A3.ev F x) (A3.ev F y))) Q:=by
 rw [D4 (by intros;simp)];exact Iff.rfl
@[go_sem ↓] theorem Aph {e:Nat} {x y:Ar}:Vo V k (.cpy e x y) F h Q↔Ky (mk (Ad6 h e (A3.ev F x) (A3.ev F y))) Q:=by
 rw [D4 (by intros;simp)];exact Iff.rfl
@[go_sem ↓] theorem Apn {b:Bool} {x y:Ar}:Vo V k (.mnx b x y) F h Q↔Ky (mk (D7 k (.mnx b x y) F h)) Q:=D4 (by intros;simp)
def VF (V:Am) (k:Nat) (f:VV) (args:List VV) (h:VH) (Q:VV->VH->Prop):Prop:=match f with
 | .f g a c=>(match k with
  | 0=>Ky (G7 h (a++args++c)) fun pa ids=>VP V g pa fun r=>Q r (bif scal r then h else Bt ids h)
  | 1=>Ky (G7 h (a++args++c)) fun pa ids=>TE V g pa h.length fun r os=>Q r (Bt ids h++os)
  | 2=>LC V g (a++args++c) h Q
  | 4=>LC V g (a++args++c) (Bt (K4 (a++args++c) h) h) (fun _ _=>True)/\Gh V g (a++args++c) h Q
  | _=>Gh V g (a++args++c) h Q)
 | _=>False
@[congr] theorem Al5 {k:Nat} {k':Unit->Nat} {f:VV} {f':Unit->VV} {a:List VV} {a':Unit->List VV} (hk:∀ u:Unit,k=k' u) (hf:∀ u:Unit,f=f' u) (ha:∀ u:Unit,a=a' u):VF V k f a h Q=VF V (k' ()) (f' ()) (a' ()) h Q:=by grind
theorem Al6 {f:VV} {args:List VV} {g:Nat} {a c:List VV} (hf:f = .f g a c) (hv:VF V k f args h Q):VC V k g (a++args++c) h Q/\VC4 V k g (a++args++c) h:=by
 subst hf
 unfold VF at hv
 unfold VC
 rcases k with _ | _ | _ | _ | _ | k
 .exact ⟨H8.1 hv,fun h=>by cases h⟩
 .exact ⟨H8.1 hv,fun h=>by cases h⟩
 .exact ⟨hv,fun h=>by cases h⟩
 .exact ⟨hv,fun h=>by cases h⟩
 .exact ⟨hv.2,fun _=>hv.1⟩
 .exact ⟨hv,fun h=>by omega⟩
theorem Al7 {f:VV} {args:List VV} {g:Nat} {a c:List VV} (hf:f = .f g a c) (hv:VC V k g (a++args++c) h Q) (h4:VC4 V k g (a++args++c) h):VF V k f args h Q:=by
 subst hf
 unfold VF
 unfold VC at hv
 rcases k with _ | _ | _ | _ | _ | k
 .exact H8.2 hv
 .exact H8.2 hv
 .exact hv
 .exact hv
 .exact ⟨h4 rfl,hv⟩
 .exact hv
@[go_sem ↓] theorem AnC {f:Ar} {args:List Ar}:Vo V k (.call f args) F h Q↔VF V k (mk (A3.ev F f)) (args.map (A3.ev F)) h Q:=by
 rw [Ej]
 constructor
 .intro hv
  cases hf:A3.ev F f with
  | f g a c=>grind [Al7,A1p]
  | _=>obtain ⟨n,v,h',e,_⟩:=hv;simp [JA,hf] at e
 .intro hv
  cases hf:A3.ev F f with
  | f g a c=>grind [Q9,Al6]
  | _=>rw [hf] at hv;exact hv.elim
@[go_sem] theorem At0 {g:Nat} {a c args:List VV}:VF V 0 (.f g a c) args h Q↔Ky (mk (G7 h (a++args++c))) fun pa ids=>VP V g (mk pa) fun r=>Q r (bif scal r then h else Bt ids h):=Iff.rfl
@[go_sem] theorem At1 {g:Nat} {a c args:List VV}:VF V 1 (.f g a c) args h Q↔Ky (mk (G7 h (a++args++c))) fun pa ids=>TE V g (mk pa) h.length fun r os=>Q r (Bt ids h++os):=Iff.rfl
@[go_sem] theorem At2 {g:Nat} {a c args:List VV}:VF V 2 (.f g a c) args h Q↔LC V g (mk (a++args++c)) h Q:=Iff.rfl
@[go_sem] theorem At4 {g:Nat} {a c args:List VV}:VF V 4 (.f g a c) args h Q↔LC V g (mk (a++args++c)) (Bt (K4 (mk (a++args++c)) h) h) (fun _ _=>True)/\Gh V g (mk (a++args++c)) h Q:=Iff.rfl
@[go_sem] theorem At3 {g:Nat} {a c args:List VV}:VF V 3 (.f g a c) args h Q↔Gh V g (mk (a++args++c)) h Q:=Iff.rfl
end
section
variable {R:A3->VH->Prop}
@[go_sem ↓] theorem Ady {d:Option Nat} {op:Bi} {r:List Ay}:Vr V m (⟨d,none,op⟩::r) F h R↔Vo V (DG m d) op F h fun v h'=>Vr V m r (BI F d v) h' R:=Kz
@[go_sem ↓] theorem A8J {d:Nat} {op:Bi} {r:List Ay}:Vr V m (o d op::r) F h R↔Vo V (m d) op F h fun v h'=>Vr V m r (Tm.set F d v) h' R:=Kz
@[go_sem ↓] theorem Asf {op:Bi} {r:List Ay}:Vr V m (ov op::r) F h R↔Vo V 2 op F h fun v h'=>Vr V m r F h' R:=Kz
def VG (V:Am) (m:Nat->Nat) (v:VV) (w:Bool) (d:Option Nat) (op:Bi) (r:List Ay) (F:A3) (h:VH) (R:A3->VH->Prop):Prop:=match v with
 | .b x=>(bif x == w then Vo V (DG m d) op F h (fun v h'=>Vr V m r (BI F d v) h' R) else Vr V m r (BI F d VV.nul) h R)
 | .tu []=>Vr V m r (BI F d VV.nul) h R
 | _=>False
@[congr] theorem Al8 {v:VV} {v':Unit->VV} {w:Bool} {d:Option Nat} {op:Bi} {r:List Ay} (hv:∀ u:Unit,v=v' u):VG V m v w d op r F h R=VG V m (v' ()) w d op r F h R:=by rw [<- hv ()]
@[go_sem ↓] theorem Z8 {d:Option Nat} {t:Nat} {w:Bool} {op:Bi} {r:List Ay}:Vr V m (⟨d,some (t,w),op⟩::r) F h R↔VG V m (mk (A3.tmp F t)) w d op r F h R:=by
 rw [Ej]
 rw [Kz]
 simp only [Cp,VG]
 grind
@[go_sem ↓] theorem Ase {d:Nat} {t:Nat} {w:Bool} {op:Bi} {r:List Ay}:Vr V m (og d t w op::r) F h R↔VG V m (mk (A3.tmp F t)) w (some d) op r F h R:=Z8
@[go_sem ↓] theorem Apr {t:Nat} {w:Bool} {op:Bi} {r:List Ay}:Vr V m (ovg t w op::r) F h R↔VG V m (mk (A3.tmp F t)) w none op r F h R:=Z8
@[go_sem] theorem As8 {d:Option Nat} {op:Bi} {r:List Ay}:VG V m (.b true) true d op r F h R↔Vo V (DG m d) op F h (fun v h'=>Vr V m r (BI F d v) h' R):=Iff.rfl
@[go_sem] theorem As5 {d:Option Nat} {op:Bi} {r:List Ay}:VG V m (.b false) false d op r F h R↔Vo V (DG m d) op F h (fun v h'=>Vr V m r (BI F d v) h' R):=Iff.rfl
@[go_sem] theorem As7 {d:Option Nat} {op:Bi} {r:List Ay}:VG V m (.b true) false d op r F h R↔Vr V m r (BI F d VV.nul) h R:=Iff.rfl
@[go_sem] theorem As6 {d:Option Nat} {op:Bi} {r:List Ay}:VG V m (.b false) true d op r F h R↔Vr V m r (BI F d VV.nul) h R:=Iff.rfl
@[go_sem] theorem Ap8 {w:Bool} {d:Option Nat} {op:Bi} {r:List Ay}:VG V m VV.nul w d op r F h R↔Vr V m r (BI F d VV.nul) h R:=Iff.rfl
@[go_sem ↓] theorem G6 {i:Nat} {d:Option Nat} {op:Bi} {c:List Ay} {r:List AB} {L:JI}:Vs V m (⟨i,⟨d,none,op⟩,c⟩::r) L F h R↔Vo V (DG m d) op F h fun v h'=>BV (BI F d v) h' (D6 (DG m d) d op F h L) c/\Vs V m r (D6 (DG m d) d op F h L) (BI F d v) h' R:=Pz
def VGs (V:Am) (m:Nat->Nat) (v:VV) (w:Bool) (d:Option Nat) (op:Bi) (c:List Ay) (r:List AB) (L:JI) (F:A3) (h:VH) (R:A3->VH->Prop):Prop:=match v with
 | .b x=>(bif x == w then Vo V (DG m d) op F h (fun v h'=>BV (BI F d v) h' (D6 (DG m d) d op F h L) c/\Vs V m r (D6 (DG m d) d op F h L) (BI F d v) h' R) else Vs V m r (Hc d L) (BI F d VV.nul) h R)
 | .tu []=>Vs V m r (Hc d L) (BI F d VV.nul) h R
 | _=>False
@[congr] theorem Ak0 {v:VV} {v':Unit->VV} {w:Bool} {d:Option Nat} {op:Bi} {c:List Ay} {r:List AB} {L:JI} (hv:∀ u:Unit,v=v' u):VGs V m v w d op c r L F h R=VGs V m (v' ()) w d op c r L F h R:=by rw [<- hv ()]
@[go_sem ↓] theorem Me {i:Nat} {d:Option Nat} {t:Nat} {w:Bool} {op:Bi} {c:List Ay} {r:List AB} {L:JI}:Vs V m (⟨i,⟨d,some (t,w),op⟩,c⟩::r) L F h R↔VGs V m (mk (A3.tmp F t)) w d op c r L F h R:=by
 grind [Pz,Ej,Cp,VGs]
section
variable {i d t:Nat} {w:Bool} {op:Bi} {c:List Ay} {r:List AB} {L:JI}
@[go_sem ↓] theorem AnG:Vs V m (sp i (o d op)::r) L F h R↔Vo V (m d) op F h fun v h'=>Vs V m r (D6 (m d) (some d) op F h L) (Tm.set F d v) h' R:=by
 unfold sp o
 rw [G6]
 simp only [BV,true_and]
 exact Iff.rfl
@[go_sem ↓] theorem Alh:Vs V m (sp i (ov op)::r) L F h R↔Vo V 2 op F h fun v h'=>Vs V m r (D6 2 none op F h L) F h' R:=by
 unfold sp ov
 rw [G6]
 simp only [BV,true_and]
 exact Iff.rfl
@[go_sem ↓] theorem Alg:Vs V m (sp i (og d t w op)::r) L F h R↔VGs V m (mk (A3.tmp F t)) w (some d) op [] r L F h R:=Me
@[go_sem ↓] theorem Ak4:Vs V m (sp i (ovg t w op)::r) L F h R↔VGs V m (mk (A3.tmp F t)) w none op [] r L F h R:=Me
@[go_sem ↓] theorem AnH:Vs V m (sq i (o d op) c::r) L F h R↔Vo V (m d) op F h fun v h'=>BV (Tm.set F d v) h' (D6 (m d) (some d) op F h L) c/\Vs V m r (D6 (m d) (some d) op F h L) (Tm.set F d v) h' R:=G6
@[go_sem ↓] theorem Alj:Vs V m (sq i (ov op) c::r) L F h R↔Vo V 2 op F h fun v h'=>BV F h' (D6 2 none op F h L) c/\Vs V m r (D6 2 none op F h L) F h' R:=G6
@[go_sem ↓] theorem Ali:Vs V m (sq i (og d t w op) c::r) L F h R↔VGs V m (mk (A3.tmp F t)) w (some d) op c r L F h R:=Me
@[go_sem ↓] theorem Ak5:Vs V m (sq i (ovg t w op) c::r) L F h R↔VGs V m (mk (A3.tmp F t)) w none op c r L F h R:=Me
end
section
variable {d:Option Nat} {op:Bi} {c:List Ay} {r:List AB} {L:JI}
@[go_sem] theorem Apc:VGs V m (.b true) true d op c r L F h R↔Vo V (DG m d) op F h (fun v h'=>BV (BI F d v) h' (D6 (DG m d) d op F h L) c/\Vs V m r (D6 (DG m d) d op F h L) (BI F d v) h' R):=Iff.rfl
@[go_sem] theorem Ap9:VGs V m (.b false) false d op c r L F h R↔Vo V (DG m d) op F h (fun v h'=>BV (BI F d v) h' (D6 (DG m d) d op F h L) c/\Vs V m r (D6 (DG m d) d op F h L) (BI F d v) h' R):=Iff.rfl
@[go_sem] theorem Apb:VGs V m (.b true) false d op c r L F h R↔Vs V m r (Hc d L) (BI F d VV.nul) h R:=Iff.rfl
@[go_sem] theorem Apa:VGs V m (.b false) true d op c r L F h R↔Vs V m r (Hc d L) (BI F d VV.nul) h R:=Iff.rfl
@[go_sem] theorem AnA {w:Bool}:VGs V m VV.nul w d op c r L F h R↔Vs V m r (Hc d L) (BI F d VV.nul) h R:=Iff.rfl
end
end
section
variable {Q:Ex->A3->VH->Prop}
@[go_sem ↓] theorem A4L:Vc V m .skip F h Q↔Q .norm F h :=
 ⟨fun ⟨n,e,F',h',k,q⟩=>by
  cases n with
  | zero=>simp [Ax] at k
  | succ n=>simp only [Ax,Option.some.injEq,Prod.mk.injEq] at k;grind,fun q=>⟨1,.norm,F,h,rfl,q⟩⟩
@[go_sem ↓] theorem A4K {id:Nat}:Vc V m (.exit id) F h Q↔Q (.exit id) F h :=
 ⟨fun ⟨n,e,F',h',k,q⟩=>by
  cases n with
  | zero=>simp [Ax] at k
  | succ n=>simp only [Ax,Option.some.injEq,Prod.mk.injEq] at k;grind,fun q=>⟨1,.exit id,F,h,rfl,q⟩⟩
@[go_sem ↓] theorem Apd:Vc V m .ret F h Q↔Q .ret F h :=
 ⟨fun ⟨n,e,F',h',k,q⟩=>by
  cases n with
  | zero=>simp [Ax] at k
  | succ n=>simp only [Ax,Option.some.injEq,Prod.mk.injEq] at k;grind,fun q=>⟨1,.ret,F,h,rfl,q⟩⟩
@[go_sem ↓] theorem TJ {ops:List Ay}:Vc V m (.reg ops) F h Q↔Vr V m ops F h (Q .norm):=by
 constructor
 .rintro ⟨n,e,F',h',k,q⟩
  cases n with
  | zero=>simp [Ax] at k
  | succ n =>
   simp only [Ax] at k
   split at k
   .rename_i F1 h1 hr;cases k;exact ⟨n,_,_,hr,q⟩
   .cases k
 .rintro ⟨n,F',h',k,q⟩
  exact ⟨n+1,.norm,F',h',by simp only [Ax,k],q⟩
@[go_sem ↓] theorem AnB {ops:List AB}:Vc V m (.dreg ops) F h Q↔Vs V m ops [] F h (Q .norm):=by
 constructor
 .rintro ⟨n,e,F',h',k,q⟩
  cases n with
  | zero=>simp [Ax] at k
  | succ n =>
   simp only [Ax] at k
   split at k
   .rename_i F1 h1 hr;cases k;exact ⟨n,_,_,hr,q⟩
   .cases k
 .rintro ⟨n,F',h',k,q⟩
  exact ⟨n+1,.norm,F',h',by simp only [Ax,k],q⟩
attribute [go_sem ↓] Qa A8K
@[go_sem ↓] theorem LD {a b:A1}:Vc V m (.seq a b) F h Q↔Vc V m a F h (fun e F' h'=>match e with | .norm=>Vc V m b F' h' Q | e=>Q e F' h'):=by
 constructor
 .rintro ⟨n,e,F',h',k,q⟩
  cases n with
  | zero=>simp [Ax] at k
  | succ n =>
   simp only [Ax] at k
   split at k
   .rename_i F1 h1 hr
    exact ⟨n,.norm,F1,h1,hr,n,e,F',h',k,q⟩
   .rename_i hne
    refine ⟨n,e,F',h',k,?_⟩
    simp_all
 .rintro ⟨n,e,F1,h1,k,q⟩
  cases e with
  | norm =>
   obtain ⟨j,e,F',h',k2,q⟩:=q
   refine ⟨max n j+1,e,F',h',?_,q⟩
   grind [Ax,CH,Nat.le_max_right]
  | exit id=>exact ⟨n+1,.exit id,F1,h1,by simp only [Ax,k],q⟩
  | ret=>exact ⟨n+1,.ret,F1,h1,by simp only [Ax,k],q⟩
def VCn (V:Am) (m:Nat->Nat) (v:VV) (a b:A1) (F:A3) (h:VH) (Q:Ex->A3->VH->Prop):Prop:=match v with
 | .b true=>Vc V m a F h Q
 | .b false=>Vc V m b F h Q
 | _=>False
@[congr] theorem AjZ {v:VV} {v':Unit->VV} {a b:A1} (hv:∀ u:Unit,v=v' u):VCn V m v a b F h Q=VCn V m (v' ()) a b F h Q:=by rw [<- hv ()]
@[go_sem ↓] theorem A4J {x:Ar} {a b:A1}:Vc V m (.cond x a b) F h Q↔VCn V m (mk (A3.ev F x)) a b F h Q:=by
 rw [Ej]
 constructor
 .rintro ⟨n,e,F',h',k,q⟩
  cases n with
  | zero=>simp [Ax] at k
  | succ n =>
   simp only [Ax] at k
   split at k
   .rename_i hv;rw [hv];exact ⟨n,e,F',h',k,q⟩
   .rename_i hv;rw [hv];exact ⟨n,e,F',h',k,q⟩
   .cases k
 .intro k
  unfold VCn at k
  split at k
  .rename_i hv;obtain ⟨n,e,F',h',k,q⟩:=k;exact ⟨n+1,e,F',h',by simp only [Ax,hv];exact k,q⟩
  .rename_i hv;obtain ⟨n,e,F',h',k,q⟩:=k;exact ⟨n+1,e,F',h',by simp only [Ax,hv];exact k,q⟩
  .exact k.elim
@[go_sem] theorem AfZ {a b:A1}:VCn V m (.b true) a b F h Q↔Vc V m a F h Q:=Iff.rfl
@[go_sem] theorem AfY {a b:A1}:VCn V m (.b false) a b F h Q↔Vc V m b F h Q:=Iff.rfl
theorem A0 {id:Nat} {c:A1}:Vc V m (.block id c) F h Q↔Vc V m c F h (fun e F' h'=>match e with | .exit id'=>(bif Nat.beq id' id then Q .norm F' h' else Q (.exit id') F' h') | e=>Q e F' h'):=by
 constructor
 .rintro ⟨n,e,F',h',k,q⟩
  cases n with
  | zero=>simp [Ax] at k
  | succ n =>
   simp only [Ax] at k
   split at k
   .rename_i id' F1 h1 hr
    refine ⟨n,.exit id',F1,h1,hr,?_⟩
    grind
   .rename_i hne
    refine ⟨n,e,F',h',k,?_⟩
    simp_all
 .rintro ⟨n,e,F1,h1,k,q⟩
  cases e with
  | norm=>exact ⟨n+1,.norm,F1,h1,by simp only [Ax,k],q⟩
  | ret=>exact ⟨n+1,.ret,F1,h1,by simp only [Ax,k],q⟩
  | exit id' =>
   simp only at q
   cases hb:Nat.beq id' id with
   | true=>rw [hb] at q;exact ⟨n+1,.norm,F1,h1,by simp only [Ax,k,hb,cond_true],q⟩
   | false=>rw [hb] at q;exact ⟨n+1,.exit id',F1,h1,by simp only [Ax,k,hb,cond_false],q⟩
open Classical in
noncomputable def gcF (h h':VH) (F':A3):A3:=if LY h.length h h' then Ef h.length F' else F'
open Classical in
noncomputable def gcH (h h':VH):VH:=if LY h.length h h' then h'.take h.length else h'
theorem Py {c:A1}:Vc V m (.loop c) F h Q↔Vc V m c F h (fun e F' h'=>match e with | .norm=>Vc V m (.loop c) (gcF h h' F') (gcH h h') Q | e=>Q e F' h'):=by
 constructor
 .rintro ⟨n,e,F',h',k,q⟩
  cases n with
  | zero=>simp [Ax] at k
  | succ n =>
   simp only [Ax] at k
   split at k
   .rename_i F1 h1 hr
    refine ⟨n,.norm,F1,h1,hr,n,e,F',h',?_,q⟩
    unfold gcF gcH
    grind
   .rename_i hne
    refine ⟨n,e,F',h',k,?_⟩
    simp_all
 .rintro ⟨n,e,F1,h1,k,q⟩
  cases e with
  | norm =>
   obtain ⟨j,e,F',h',k2,q⟩:=q
   refine ⟨max n j+1,e,F',h',?_,q⟩
   simp only [Ax,CH (Nat.le_max_left n j) k]
   unfold gcF gcH at k2
   split
   .rename_i hc;rw [if_pos hc,if_pos hc] at k2;exact CH (Nat.le_max_right n j) k2
   .rename_i hc;rw [if_neg hc,if_neg hc] at k2;exact CH (Nat.le_max_right n j) k2
  | exit id=>exact ⟨n+1,.exit id,F1,h1,by simp only [Ax,k],q⟩
  | ret=>exact ⟨n+1,.ret,F1,h1,by simp only [Ax,k],q⟩
def VL (V:Am) (m:Nat->Nat) (B:Nat) (c:A1) (F:A3) (h:VH) (Q:Ex->A3->VH->Prop):Prop:=Vc V m (.block B (.loop c)) F h Q
@[congr] theorem Al9 {B:Nat} {c:A1} {F:A3} {F':Unit->A3} {h:VH} {h':Unit->VH} (hF:∀ u:Unit,F=F' u) (hh:∀ u:Unit,h=h' u):VL V m B c F h Q=VL V m B c (F' ()) (h' ()) Q:=by rw [<- hF ()];rw [<- hh ()]
@[go_sem ↓] theorem Adx {B:Nat} {c:A1}:Vc V m (.block B (.loop c)) F h Q↔VL V m B c (mk F) h Q:=Iff.rfl
theorem AA {M:Type} (I:M->A3->VH->Prop) (μ:M->Nat) {c:A1}
  (k:∀ x F h,I x F h->Vc V m c F h (fun e F' h'=>match e with | .norm=>LY h.length h h'/\∃ x',μ x' < μ x/\I x' (Ef h.length F') (h'.take h.length) | e=>Q e F' h')):∀ x F h,I x F h->Vc V m (.loop c) F h Q:=by
 have key:∀ j x F h,μ x<=j->I x F h->Vc V m (.loop c) F h Q:=by
  intro j
  induction j with
  | zero =>
   intro x F h hj hi
   rw [Py]
   refine (k x F h hi).mono fun e F' h' hq=>?_
   grind
  | succ j ih =>
   intro x F h hj hi
   rw [Py]
   refine (k x F h hi).mono fun e F' h' hq=>?_
   cases e with
   | norm =>
    obtain ⟨h0,x',h1,h2⟩:=hq
    unfold gcF gcH
    grind
   | _=>exact hq
 exact fun x F h hi=>key _ x F h (Nat.le_refl _) hi
end
theorem TG {vf:EW} {args:List VV} {Q:VV->VH->Prop}:Vb V vf args h Q↔Vc V vf.m vf.af.body (Tm.ofList args) h (fun e F' h'=>(match e with | .exit _=>False | _=>True)/\OK (Cn F' h' vf.af.results) fun vs=>Q (Lz vs) h'):=by
 unfold Vb Vc GU
 constructor
 .rintro ⟨n,v,h',k,q⟩
  split at k
  .rename_i F1 h1 hr
   split at k
   .rename_i vs hvs;cases k;exact ⟨n,_,_,_,hr,trivial,A1m.2 ⟨vs,hvs,q⟩⟩
   .cases k
  .rename_i F1 h1 hr
   split at k
   .rename_i vs hvs;cases k;exact ⟨n,_,_,_,hr,trivial,A1m.2 ⟨vs,hvs,q⟩⟩
   .cases k
  .cases k
 .rintro ⟨n,e,F1,h1,k,he,hq⟩
  obtain ⟨vs,hvs,q⟩:=A1m.1 hq
  cases e with
  | exit id=>exact he.elim
  | norm=>grind
  | ret=>grind
theorem Ab {g:Nat} {af:A4} {mm:Nat->Nat} (hx:V.ext g=none) (hf:V.fn g=some ⟨af,mm⟩) {args:List VV} {Q:VV->Prop} :
  VP V g args Q↔Vc V mm af.body (Tm.ofList args) [] (fun e F' h'=>(match e with | .exit _=>False | _=>True)/\OK (mk (Cn F' h' af.results)) fun vs=>Ky (mk (frz h' dF (Lz vs))) fun r _=>Q r):=by
 unfold VP
 simp_all [TG,H8,Ej]
theorem Ht {g:Nat} {af:A4} {mm:Nat->Nat} (hf:V.fn g=some ⟨af,mm⟩) {args:List VV} {b:Nat} {Q:VV->VH->Prop} :
  TE V g args b Q↔Vc V mm af.body (Tm.ofList args) [] (fun e F' h'=>(match e with | .exit _=>False | _=>True)/\OK (mk (Cn F' h' af.results)) fun vs=>Ky (mk (Bl h' dF b (Lz vs))) fun r T=>(T.moved.Nodup/\∀ id∈T.moved,id∉T.frozen)/\Q r T.objs):=by
 simp_all [TE,TG,H8,Ej]
theorem EP {g:Nat} {af:A4} {mm:Nat->Nat} (hf:V.fnH g=some ⟨af,mm⟩) {args:List VV} {Q:VV->VH->Prop} :
  LC V g args h Q↔Vc V mm af.body (Tm.ofList args) h (fun e F' h'=>(match e with | .exit _=>False | _=>True)/\OK (mk (Cn F' h' af.results)) fun vs=>Q (Lz vs) h'):=by
 simp_all [LC,TG,Ej]
theorem Cf {g:Nat} {af:A4} {mm:Nat->Nat} (hf:V.fnH g=some ⟨af,mm⟩) {args:List VV} {Q:VV->VH->Prop} :
  Gh V g args h Q↔Vc V mm af.body (Tm.ofList args) h (fun e F' h'=>(match e with | .exit _=>False | _=>True)/\OK (mk (Cn F' h' af.results)) fun vs=>Ky (mk (frz h' dF (Lz vs))) fun r ids=>LY h.length h (Bt ids h')/\Q r ((Bt ids h').take h.length)):=by
 simp_all [Gh,TG,H8,Ej]
@[go_sem] theorem AoY (F:A3) (k:Nat) (v:VV):A3.tmp (Tm.set F k v) k=v:=by rw [HV,if_pos rfl]
@[go_sem] theorem AoZ (F:A3) (k:Nat) (v:VV) {j:Nat} (h:(j == k)=false):A3.tmp (Tm.set F k v) j=A3.tmp F j:=by
 simp_all [HV]
attribute [go_sem] KU Nat.reduceBeqDiff
def YL (l:List VV) (j:Nat):VV:=match l[j]? with | some v=>v | none=>VV.nul
@[go_sem] theorem AgN (l:List VV) (j:Nat):A3.tmp (Tm.ofList l) j=YL l j:=by
 grind [A3.tmp,YL,Tm.get_ofList]
@[go_sem] theorem Anm (j:Nat):YL [] j=VV.nul:=by simp [YL]
@[go_sem] theorem AkU (a:VV) (l:List VV):YL (a::l) 0=a:=by simp [YL]
@[go_sem] theorem AkT (a:VV) (l:List VV) (j:Nat):YL (a::l) (j+1)=YL l j:=by simp [YL]
@[go_sem] theorem AjR (F:A3) (d:Nat) (v:VV):BI F (some d) v=Tm.set F d v:=rfl
@[go_sem] theorem AjQ (F:A3) (v:VV):BI F none v=F:=rfl
@[go_sem] theorem A16 (F:A3) (n:Nat):A3.ev F (.t n)=A3.tmp F n:=rfl
@[go_sem] theorem AgL (F:A3) (v:AV):A3.ev F (.c v)=Ka v:=rfl
@[go_sem] theorem Akj (d:Nat):DG m (some d)=m d:=rfl
@[go_sem] theorem Aki:DG m none=2:=rfl
@[go_sem] theorem Arf (x:Bool):Ka (.b x) = .b x:=rfl
@[go_sem] theorem Ace (k:IntKind) (n:Int):Ka (.i k n) = .i k n:=rfl
@[go_sem] theorem Arh (x:ByteArray):Ka (.s x) = .s x:=rfl
@[go_sem] theorem Aoj (w:BitVec 64):Ka (Wd w) = .i .u64 (w.toNat:Int):=rfl
@[go_sem] theorem Aon:Ka (.p none) = .np:=rfl
@[go_sem] theorem Aom:Ka (.sl none 0) = .nl:=rfl
@[go_sem] theorem Aol:Ka .nf = .nf:=rfl
@[go_sem] theorem Arg (g:Nat) (a c:List AV):Ka (.f g a c) = .f g (CB a) (CB c):=rfl
@[go_sem] theorem Aok (c:List AV):Ka (.ag c) = .ag (CB c):=rfl
@[go_sem] theorem Aoo (c:List AV):Ka (.tu c) = .tu (CB c):=rfl
@[go_sem] theorem Aku:CB []=[]:=rfl
@[go_sem] theorem Ajj (v:AV) (vs:List AV):CB (v::vs)=Ka v::CB vs:=rfl
@[go_sem] theorem Anh (x:Bool):(VV.b x).cells=[.b x]:=rfl
@[go_sem] theorem Anj (k:IntKind) (x:Int):(VV.i k x).cells=[.i k x]:=rfl
@[go_sem] theorem Anl (x:ByteArray):(VV.s x).cells=[.s x]:=rfl
@[go_sem] theorem AkP:VV.nf.cells=[.nf]:=rfl
@[go_sem] theorem AkR:VV.np.cells=[.np]:=rfl
@[go_sem] theorem AkQ:VV.nl.cells=[.nl]:=rfl
@[go_sem] theorem Ank (a b c d:Nat):(VV.p a b c d).cells=[.p a b c d]:=rfl
@[go_sem] theorem AkN (a:List VV) (c:Nat):(VV.fp a c).cells=[.fp a c]:=rfl
@[go_sem] theorem AkS (a b c d:Nat):(VV.sl a b c d).cells=[.sl a b c d]:=rfl
@[go_sem] theorem AkO (r:List (List VV)):(VV.ls r).cells=[.ls r]:=rfl
@[go_sem] theorem Ani (g:Nat) (a c:List VV):(VV.f g a c).cells=[.f g a c]:=rfl
@[go_sem] theorem AkM (l:List VV):(VV.ag l).cells=l:=rfl
@[go_sem] theorem AoK (x:Bool):(VV.b x).cell=true:=rfl
@[go_sem] theorem AoM (k:IntKind) (x:Int):(VV.i k x).cell=true:=rfl
@[go_sem] theorem AoO (x:ByteArray):(VV.s x).cell=true:=rfl
@[go_sem] theorem And:VV.nf.cell=true:=rfl
@[go_sem] theorem Anf:VV.np.cell=true:=rfl
@[go_sem] theorem Ane:VV.nl.cell=true:=rfl
@[go_sem] theorem AoN (a b c d:Nat):(VV.p a b c d).cell=true:=rfl
@[go_sem] theorem Anb (a:List VV) (c:Nat):(VV.fp a c).cell=true:=rfl
@[go_sem] theorem Ang (a b c d:Nat):(VV.sl a b c d).cell=true:=rfl
@[go_sem] theorem Anc (r:List (List VV)):(VV.ls r).cell=true:=rfl
@[go_sem] theorem AoL (g:Nat) (a c:List VV):(VV.f g a c).cell=true:=rfl
@[go_sem] theorem Hi (a b:Nat):Nat.beq a b=decide (a=b):=by
 cases e:Nat.beq a b with
 | true=>rw [Nat.eq_of_beq_eq_true e];simp
 | false=>symm;rw [decide_eq_false_iff_not];rintro rfl;rw [Nat.beq_refl] at e;cases e
@[go_sem] theorem PV (a b:Nat):Nat.ble a b=decide (a<=b):=by
 grind [Nat.ble_eq]
@[go_sem] theorem A6A (a b:Nat):Nat.blt a b=decide (a < b):=PV _ _
def WY (k:Nat) (v:VV) (h:VH):Option (VV×VH):=match k with
 | 2=>(match AN h.length v.cells with
   | (ws,os)=>(match v with
    | .ag _=>some (.ag ws,h++os)
    | .nl=>(match ws with | [w]=>some (w,h++os) | _=>none)
    | v=>some (v,h)))
 | 5=>(match frz h dF v with
  | some (r,ids)=>some (r,Bt ids h)
  | none=>none)
 | _=>some (v,h)
@[go_sem ↓] theorem A73 {k:Nat} {x:Ar}:D7 k (.mov x) F h=WY k (A3.ev F x) h:=rfl
@[go_sem] theorem Abw (v:VV):WY 0 v h=some (v,h):=rfl
@[go_sem] theorem Ar3 (v:VV):WY 5 v h=(match frz h 8 v with
  | some (r,ids)=>some (r,Bt ids h)
  | none=>none):=rfl
@[go_sem] theorem Ar2 (v:VV):WY 1 v h=some (v,h):=rfl
@[go_sem] theorem Aoa:WY 2 .nl h=some (.sl h.length 0 0 0,h++[some { ty:=0,esz:=0,ver:=0,nl:=true,rows:=[] }]):=rfl
@[go_sem] theorem Ao8 (cs:List VV):WY 2 (.ag cs) h=some (.ag (AN h.length cs).1,h++(AN h.length cs).2):=rfl
@[go_sem] theorem Aob (a b c d:Nat):WY 2 (.sl a b c d) h=some (.sl a b c d,h):=rfl
@[go_sem] theorem Ao9 (l:List (List VV)):WY 2 (.ls l) h=some (.ls l,h):=rfl
@[go_sem] theorem Ar4 (k:IntKind) (n:Int):WY 2 (.i k n) h=some (.i k n,h):=rfl
def Acs (c a b:VV) (h:VH):Option (VV×VH):=match c with
 | .b t=>some (bif t then a else b,h)
 | _=>none
@[go_sem ↓] theorem Anp {k:Nat} {c a b:Ar}:D7 k (.pick c a b) F h=Acs (A3.ev F c) (A3.ev F a) (A3.ev F b) h:=rfl
@[go_sem] theorem Aor (a b:VV):Acs (.b true) a b h=some (a,h):=rfl
@[go_sem] theorem Aoq (a b:VV):Acs (.b false) a b h=some (b,h):=rfl
def AdN (k ty n:Nat) (cs:List VV) (h:VH):Option (VV×VH) :=
  bif Nat.beq cs.length n && cs.all VV.cell then
   match k with
   | 0=>(match G7 h cs with
    | some (cs',ids)=>some (.fp cs' 0,Bt ids h)
    | none=>none)
   | 1=>some (.p h.length 0 0 0,h++[some { ty:=ty,esz:=0,ver:=0,nl:=false,rows:=[cs] }])
   | _=>(match AN h.length cs with
    | (ws,os)=>some (.p (h++os).length 0 0 0,h++os++[some { ty:=ty,esz:=0,ver:=0,nl:=false,rows:=[ws] }]))
  else none
@[go_sem ↓] theorem AoP {k ty n:Nat} {x:Ar}:D7 k (.box ty n x) F h=AdN k ty n (A3.ev F x).cells h:=rfl
@[go_sem] theorem ApP (ty n:Nat) (cs:List VV):AdN 0 ty n cs h=bif decide (cs.length=n) && cs.all VV.cell then (match G7 h cs with
        | some (cs',ids)=>some (.fp cs' 0,Bt ids h)
        | none=>none) else none:=by rw [<- Hi];rfl
@[go_sem] theorem ApQ (ty n:Nat) (cs:List VV):AdN 1 ty n cs h=bif decide (cs.length=n) && cs.all VV.cell then some (.p h.length 0 0 0,h++[some { ty:=ty,esz:=0,ver:=0,nl:=false,rows:=[cs] }]) else none:=by rw [<- Hi];rfl
@[go_sem] theorem ApR (ty n:Nat) (cs:List VV):AdN 2 ty n cs h=bif decide (cs.length=n) && cs.all VV.cell then some (.p (h++(AN h.length cs).2).length 0 0 0,h++(AN h.length cs).2++[some { ty:=ty,esz:=0,ver:=0,nl:=false,rows:=[(AN h.length cs).1] }]) else none:=by rw [<- Hi];rfl
def agV (k:Nat) (r:Option (List VV)) (h:VH):Option (VV×VH):=match r with
 | some cs=>(match k with
  | 2=>(match AN h.length cs with | (ws,os)=>some (.ag ws,h++os))
  | _=>some (.ag cs,h))
 | none=>none
@[go_sem ↓] theorem AkV {k:Nat} {z:List AV} {ps:List (Nat×Nat×Ar)}:D7 k (.build z ps) F h=agV k (E9 F (CB z) ps) h:=rfl
@[go_sem] theorem Alt (cs:List VV):agV 0 (some cs) h=some (.ag cs,h):=rfl
@[go_sem] theorem Akd (cs:List VV):agV 1 (some cs) h=some (.ag cs,h):=rfl
@[go_sem] theorem Ake (cs:List VV):agV 2 (some cs) h=some (.ag (AN h.length cs).1,h++(AN h.length cs).2):=rfl
def Ahq (k ty esz len:Nat) (r:Option (List VV)) (h:VH):Option (VV×VH):=match r with
  | some cs=>bif Nat.beq cs.length (len * esz) && Nat.blt 0 esz && cs.all VV.cell then
    match k with
    | 0=>(match A3a h (CT esz len cs) with
     | some (rs,ids)=>some (.ls rs,Bt ids h)
     | none=>none)
    | _=>some (.sl h.length 0 0 len,h++[some { ty:=ty,esz:=esz,ver:=0,nl:=false,rows:=CT esz len cs }])
   else none
  | none=>none
@[go_sem ↓] theorem AoQ {k ty esz len:Nat} {z:List AV} {ps:List (Nat×Nat×Ar)}:D7 k (.bsl ty esz len z ps) F h=Ahq k ty esz len (E9 F (CB z) ps) h:=rfl
@[go_sem] theorem ApS (ty esz len:Nat) (cs:List VV):Ahq 0 ty esz len (some cs) h=bif decide (cs.length=len * esz) && decide (0 < esz) && cs.all VV.cell then (match A3a h (CT esz len cs) with
          | some (rs,ids)=>some (.ls rs,Bt ids h)
          | none=>none) else none:=by rw [<- Hi,<- A6A];rfl
@[go_sem] theorem ApT (ty esz len:Nat) (cs:List VV):Ahq 1 ty esz len (some cs) h=bif decide (cs.length=len * esz) && decide (0 < esz) && cs.all VV.cell then some (.sl h.length 0 0 len,h++[some { ty:=ty,esz:=esz,ver:=0,nl:=false,rows:=CT esz len cs }]) else none:=by rw [<- Hi,<- A6A];rfl
def stV (n:Nat) (a:VV) (cs:List VV) (h:VH):Option (VV×VH) :=
  bif Nat.beq cs.length n then (match vst h a cs with | some h'=>some (VV.nul,h') | none=>none) else none
@[go_sem ↓] theorem ArW {k n:Nat} {a x:Ar}:D7 k (.st n a x) F h=stV n (A3.ev F a) (A3.ev F x).cells h:=rfl
def stO (id r c:Nat) (cs:List VV) (h:VH) (o:Option VO):Option (VV×VH):=match o with
 | some o=>(match o.rows[r]? with
   | some row=>bif Nat.ble (c+cs.length) row.length && cs.all VV.cell then some (VV.nul,h.set id (some { o with rows:=o.rows.set r (E8 row c cs) })) else none
   | none=>none)
 | none=>none
@[go_sem] theorem AsM (n id ver r c:Nat) (cs:List VV):stV n (.p id ver r c) cs h=bif decide (cs.length=n) then stO id r c cs h (Cs h id ver) else none:=by
 rw [<- Hi]
 unfold stV stO vst
 grind
@[go_sem] theorem AmL (id r c:Nat) (cs:List VV) (o:VO):stO id r c cs h (some o)=(match o.rows[r]? with
      | some row=>bif decide (c+cs.length<=row.length) && cs.all VV.cell then some (VV.nul,h.set id (some { o with rows:=o.rows.set r (E8 row c cs) })) else none
      | none=>none):=by
  unfold stO
  simp only [PV]
def A6C (v:VV) (h:VH):Option (VV×VH):=match v with
  | .p id ver r c=>some (.p id ver r c,h)
  | .fp cells c=>some (.fp cells c,h)
  | .f g a c=>some (.f g a c,h)
  | _=>none
@[go_sem ↓] theorem Ano {k:Nat} {x:Ar}:D7 k (.nilc x) F h=A6C (A3.ev F x) h:=rfl
@[go_sem] theorem Aoh (id ver r c:Nat):A6C (.p id ver r c) h=some (.p id ver r c,h):=rfl
@[go_sem] theorem Amu (l:List VV) (c:Nat):A6C (.fp l c) h=some (.fp l c,h):=rfl
@[go_sem] theorem Aog (g:Nat) (a c:List VV):A6C (.f g a c) h=some (.f g a c,h):=rfl
def Amv (v:VV) (h:VH):Option (VV×VH):=match v with | .b t=>some (.b (!t),h) | _=>none
@[go_sem ↓] theorem AoX {k:Nat} {x:Ar}:D7 k (.not x) F h=Amv (A3.ev F x) h:=rfl
@[go_sem] theorem Are (t:Bool):Amv (.b t) h=some (.b (!t),h):=rfl
def Amr (v:VV) (h:VH):Option (VV×VH):=match v with | .i k n=>some (.i k (k.wrap (0 - n)),h) | _=>none
@[go_sem ↓] theorem AoW {k:Nat} {x:Ar}:D7 k (.neg x) F h=Amr (A3.ev F x) h:=rfl
@[go_sem] theorem Ard (k:IntKind) (n:Int):Amr (.i k n) h=some (.i k (k.wrap (0 - n)),h):=rfl
def A9j (k:IntKind) (v:VV) (h:VH):Option (VV×VH):=match v with | .i _ n=>some (.i k (k.wrap n),h) | _=>none
@[go_sem ↓] theorem Ann {k:Nat} {i:IntKind} {x:Ar}:D7 k (.conv i x) F h=A9j i (A3.ev F x) h:=rfl
@[go_sem] theorem AnZ (k i:IntKind) (n:Int):A9j k (.i i n) h=some (.i k (k.wrap n),h):=rfl
def Amo (m ty esz bytes:Nat) (zero:List AV) (l c:VV) (h:VH):Option (VV×VH):=match l,c with
  | .i .i64 n,.i .i64 k =>
   if 0<=n/\n<=k/\k.toNat * bytes<=A8 then
    bif Nat.beq zero.length esz && Nat.blt 0 esz && (CB zero).all VV.cell then
     match m with
     | 0=>(match G7 [] (CB zero) with
      | some (z,_)=>some (.ls (List.replicate n.toNat z),h)
      | none=>none)
     | _=>some (.sl h.length 0 0 n.toNat,h++[some { ty:=ty,esz:=esz,ver:=0,nl:=false,rows:=List.replicate n.toNat (CB zero) }])
    else none
   else none
  | _,_=>none
@[go_sem ↓] theorem AoU {k ty esz bytes:Nat} {z:List AV} {l c:Ar}:D7 k (.mks ty esz bytes z l c) F h=Amo k ty esz bytes z (A3.ev F l) (A3.ev F c) h:=rfl
attribute [go_sem] Amo
def faV (off:Nat) (v:VV) (h:VH):Option (VV×VH):=match v with
  | .p id ver r c=>some (.p id ver r (c+off),h)
  | .fp cells c=>some (.fp cells (c+off),h)
  | _=>none
@[go_sem ↓] theorem ArT {k off:Nat} {x:Ar}:D7 k (.fa off x) F h=faV off (A3.ev F x) h:=rfl
@[go_sem] theorem Asy (off id ver r c:Nat):faV off (.p id ver r c) h=some (.p id ver r (c+off),h):=rfl
@[go_sem] theorem AqD (off:Nat) (l:List VV) (c:Nat):faV off (.fp l c) h=some (.fp l (c+off),h):=rfl
def iaV (esz:Nat) (x i:VV) (h:VH):Option (VV×VH):=match x,i with
  | .ls rows,.i _ n=>if 0<=n then (match rows[n.toNat]? with
   | some row=>bif Nat.beq row.length esz then some (.fp row 0,h) else none
   | none=>none) else none
  | .sl id ver off len,.i _ n=>if 0<=n/\n < len then (match Cs h id ver with
   | some o=>bif Nat.beq o.esz esz && !o.nl then some (.p id ver (off+n.toNat) 0,h) else none
   | none=>none) else none
  | _,_=>none
@[go_sem ↓] theorem ArU {k esz:Nat} {x i:Ar}:D7 k (.ia esz x i) F h=iaV esz (A3.ev F x) (A3.ev F i) h:=rfl
def iaR (esz:Nat) (row:Option (List VV)) (h:VH):Option (VV×VH):=match row with
      | some row=>bif decide (row.length=esz) then some (.fp row 0,h) else none
      | none=>none
@[go_sem] theorem Am6 (esz:Nat) (row:List VV):iaR esz (some row) h=bif decide (row.length=esz) then some (.fp row 0,h) else none:=rfl
@[go_sem] theorem AqQ (esz:Nat) (rows:List (List VV)) (k:IntKind) (n:Int):iaV esz (.ls rows) (.i k n) h=if 0<=n then iaR esz rows[n.toNat]? h else none:=by
 simp only [iaV,iaR,Hi]
@[go_sem] theorem AqR (esz id ver off len:Nat) (k:IntKind) (n:Int):iaV esz (.sl id ver off len) (.i k n) h=if 0<=n/\n < len then (match Cs h id ver with
      | some o=>bif decide (o.esz=esz) && !o.nl then some (.p id ver (off+n.toNat) 0,h) else none
      | none=>none) else none:=by
  simp only [iaV,Hi]
def AhT (len esz:Nat) (x i:VV) (h:VH):Option (VV×VH):=match x,i with
  | .p id ver r c,.i _ n=>if 0<=n/\n < len then some (.p id ver r (c+n.toNat * esz),h) else none
  | .fp cells c,.i _ n=>if 0<=n/\n < len then some (.fp cells (c+n.toNat * esz),h) else none
  | _,_=>none
@[go_sem ↓] theorem AoS {k len esz:Nat} {x i:Ar}:D7 k (.iaa len esz x i) F h=AhT len esz (A3.ev F x) (A3.ev F i) h:=rfl
@[go_sem] theorem AqS (len esz id ver r c:Nat) (k:IntKind) (n:Int):AhT len esz (.p id ver r c) (.i k n) h=if 0<=n/\n < len then some (.p id ver r (c+n.toNat * esz),h) else none:=rfl
@[go_sem] theorem Ao4 (len esz:Nat) (l:List VV) (c:Nat) (k:IntKind) (n:Int):AhT len esz (.fp l c) (.i k n) h=if 0<=n/\n < len then some (.fp l (c+n.toNat * esz),h) else none:=rfl
def ixV (x i:VV) (h:VH):Option (VV×VH):=match x,i with
  | .s s,.i _ n=>if 0<=n then (match s.data.toList[n.toNat]? with | some b=>some (.i .u8 b.toNat,h) | none=>none) else none
  | _,_=>none
@[go_sem ↓] theorem ArV {k:Nat} {x i:Ar}:D7 k (.ix x i) F h=ixV (A3.ev F x) (A3.ev F i) h:=rfl
@[go_sem] theorem AsH (s:ByteArray) (k:IntKind) (n:Int):ixV (.s s) (.i k n) h=if 0<=n then (match s.data.toList[n.toNat]? with | some b=>some (.i .u8 b.toNat,h) | none=>none) else none:=rfl
def AlU (v:VV) (i:Nat) (h:VH):Option (VV×VH):=match v with
  | .tu vs=>(match vs[i]? with | some v=>some (v,h) | none=>none)
  | _=>none
@[go_sem ↓] theorem AoR {k i:Nat} {x:Ar}:D7 k (.ext x i) F h=AlU (A3.ev F x) i h:=rfl
@[go_sem] theorem Ao2 (vs:List VV) (i:Nat):AlU (.tu vs) i h=(match vs[i]? with | some v=>some (v,h) | none=>none):=rfl
def AaN (s:Bool) (v:VV) (h:VH):Option (VV×VH):=match s,v with
  | true,.s s=>some (.i .i64 s.size,h)
  | false,x=>(match M5 x with | some n=>some (.i .i64 n,h) | none=>none)
  | _,_=>none
@[go_sem ↓] theorem AoT {k:Nat} {s:Bool} {x:Ar}:D7 k (.len s x) F h=AaN s (A3.ev F x) h:=by cases s<;>rfl
@[go_sem] theorem AqY (s:ByteArray):AaN true (.s s) h=some (.i .i64 s.size,h):=rfl
@[go_sem] theorem Ao5 (r:List (List VV)):AaN false (.ls r) h=some (.i .i64 r.length,h):=rfl
@[go_sem] theorem Ao6:AaN false .nl h=some (.i .i64 (0:Nat),h):=rfl
@[go_sem] theorem Ao7 (a b c n:Nat):AaN false (.sl a b c n) h=some (.i .i64 n,h):=rfl
def Aja (mx:Bool) (x y:VV) (h:VH):Option (VV×VH):=match x,y with
  | .i k a,.i k' c=>if k=k' then some (.i k (Nm mx a c),h) else none
  | _,_=>none
@[go_sem ↓] theorem AoV {k:Nat} {mx:Bool} {x y:Ar}:D7 k (.mnx mx x y) F h=Aja mx (A3.ev F x) (A3.ev F y) h:=rfl
@[go_sem] theorem Ar1 (mx:Bool) (k:IntKind) (a c:Int):Aja mx (.i k a) (.i k c) h=some (.i k (Nm mx a c),h):=by simp only [Aja,if_true]
def ldR (n:Option Nat) (c:Nat) (row:List VV):Option VV:=match n with
  | none=>row[c]?
  | some n=>bif decide (c+n<=row.length) then some (.ag ((row.drop c).take n)) else none
@[go_sem] theorem Aml (c:Nat) (row:List VV):ldR none c row=row[c]?:=rfl
@[go_sem] theorem Amm (n c:Nat) (row:List VV):ldR (some n) c row=bif decide (c+n<=row.length) then some (.ag ((row.drop c).take n)) else none:=rfl
@[go_sem] theorem ArS (n:Option Nat) (cells:List VV) (c:Nat):vld h n (.fp cells c)=ldR n c cells:=by
 grind [vld,A4F,ldR,PV]
def ldO (n:Option Nat) (r c:Nat) (o:Option VO):Option VV:=match o with
 | some o=>(match o.rows[r]? with
  | some row=>ldR n c row
  | none=>none)
 | none=>none
@[go_sem] theorem AsU (n:Option Nat) (id ver r c:Nat):vld h n (.p id ver r c)=ldO n r c (Cs h id ver):=by
 unfold vld A4F ldO
 grind [ldR,PV]
@[go_sem] theorem Amk (n:Option Nat) (r c:Nat) (o:VO):ldO n r c (some o)=(match o.rows[r]? with
  | some row=>ldR n c row
  | none=>none):=rfl
attribute [go_sem] E9 E8 Cs M5 AN CT Cn Lz
attribute [go_sem] Nat.reduceEqDiff Nat.reduceLeDiff Nat.reduceLT Nat.reduceAdd Nat.reduceMul Nat.reduceSub Nat.lt_irrefl
attribute [go_sem] List.getElem?_cons_zero List.getElem?_cons_succ List.getElem?_nil List.set_cons_zero List.set_cons_succ List.getElem?_map List.length_map List.length_append List.flatten_cons
@[go_sem] theorem AlZ (h:VH) (vs:List VV):G7 h vs=B6 (frz h 8) vs:=rfl
@[go_sem] theorem Am0 (h:VH) (vs:List (List VV)):A3a h vs=B6 (fun row=>B6 (frz h 8) row) vs:=rfl
attribute [go_sem] B6
section
variable {d:Nat}
@[go_sem] theorem AsA (x:Bool):frz h (d+1) (.b x)=some (.b x,[]):=rfl
@[go_sem] theorem AsC (k:IntKind) (x:Int):frz h (d+1) (.i k x)=some (.i k x,[]):=rfl
@[go_sem] theorem AsE (x:ByteArray):frz h (d+1) (.s x)=some (.s x,[]):=rfl
@[go_sem] theorem AqJ:frz h (d+1) .nf=some (.nf,[]):=rfl
@[go_sem] theorem AqL:frz h (d+1) .np=some (.np,[]):=rfl
@[go_sem] theorem AqK:frz h (d+1) .nl=some (.ls [],[]):=rfl
@[go_sem] theorem AqI (r:List (List VV)):frz h (d+1) (.ls r)=some (.ls r,[]):=rfl
@[go_sem] theorem AqH (r:List VV) (c:Nat):frz h (d+1) (.fp r c)=some (.fp r c,[]):=rfl
@[go_sem] theorem AsD (id ver r c:Nat):frz h (d+1) (.p id ver r c)=(match Cs h id ver with
      | some o=>(match o.rows[r]? with
        | some row=>(match B6 (frz h d) row with
          | some (cs,ids)=>some (.fp cs c,id::ids)
          | none=>none)
        | none=>none)
      | none=>none):=rfl
@[go_sem] theorem AqM (id ver off n:Nat):frz h (d+1) (.sl id ver off n)=(match Cs h id ver with
      | some o=>bif Nat.ble (off+n) o.rows.length && (Nat.blt 0 o.esz || o.nl) then
          (match B6 (fun row=>B6 (frz h d) row) ((o.rows.drop off).take n) with
          | some (rs,ids)=>some (.ls rs,id::ids)
          | none=>none) else none
      | none=>none):=rfl
@[go_sem] theorem AsB (g:Nat) (a c:List VV):frz h (d+1) (.f g a c)=(match B6 (frz h d) a,B6 (frz h d) c with
      | some (a',i1),some (c',i2)=>some (.f g a' c',i1++i2)
      | _,_=>none):=rfl
@[go_sem] theorem AqG (cs:List VV):frz h (d+1) (.ag cs)=(match B6 (frz h d) cs with
      | some (cs',is)=>some (.ag cs',is)
      | none=>none):=rfl
@[go_sem] theorem AqN (cs:List VV):frz h (d+1) (.tu cs)=(match B6 (frz h d) cs with
      | some (cs',is)=>some (.tu cs',is)
      | none=>none):=rfl
end
@[go_sem] theorem P7 {α β:Type} {f:α->β} {g:β->Option (β×List Nat)} {l:List α} (hg:∀ x,g (f x)=some (f x,[])):B6 g (l.map f)=some (l.map f,[]):=by
 induction l with
 | nil=>rfl
 | cons x xs ih=>grind [B6]
@[go_sem] theorem Amn {β:Type} {z:β} {g:β->Option (β×List Nat)} {n:Nat} (hg:g z=some (z,[])):B6 g (List.replicate n z)=some (List.replicate n z,[]):=by
 induction n with
 | zero=>rfl
 | succ n ih=>grind [B6]
@[go_sem] theorem Amb (h:VH):Bt [] h=h:=rfl
@[go_sem] theorem Akn (i:Nat) (l:List Nat) (h:VH):Bt (i::l) h=Bt l (h.set i none):=rfl
@[go_sem] theorem Arr (x:Bool):scal (.b x)=true:=rfl
@[go_sem] theorem Art (k:IntKind) (x:Int):scal (.i k x)=true:=rfl
@[go_sem] theorem Aru (x:ByteArray):scal (.s x)=true:=rfl
@[go_sem] theorem Aov:scal .nf=true:=rfl
@[go_sem] theorem Aow:scal .np=true:=rfl
@[go_sem] theorem Aou (r:List (List VV)):scal (.ls r)=false:=rfl
@[go_sem] theorem Aot (r:List VV) (c:Nat):scal (.fp r c)=false:=rfl
@[go_sem] theorem Aos (r:List VV):scal (.ag r)=false:=rfl
@[go_sem] theorem Ars (g:Nat) (a c:List VV):scal (.f g a c)=false:=rfl
@[go_sem] theorem Aox (r:List VV):scal (.tu r)=MW r:=rfl
@[go_sem] theorem Akz:MW []=true:=rfl
@[go_sem] theorem Ajx (v:VV) (r:List VV):MW (v::r)=(scal v && MW r):=rfl
@[go_sem] theorem Akh {α:Type} (b:Bool) (x:α):(bif b then x else x)=x:=by cases b<;>rfl
@[go_sem] theorem Ajk {α:Type} {f:α->List VV} {e:Nat} {l:List α} (hf:∀ x,(f x).length=e):Dv e (l.map f)=true:=by
 unfold Dv
 simp_all
@[go_sem] theorem Ajl {e:Nat}:Dv e []=true:=rfl
@[go_sem] theorem Agx {e:Nat} (r:List VV) (rs:List (List VV)):Dv e (r::rs)=(Nat.beq r.length e && Dv e rs):=rfl
@[go_sem] theorem Ajm {e n:Nat} {z:List VV} (hz:z.length=e):Dv e (List.replicate n z)=true:=by
 grind [Dv,Nat.beq_refl]
attribute [go_sem] NK A8r RN
@[go_sem] theorem Akp {α β:Type} (f:α->β) (n:Nat) (l:List α):(l.map f).drop n=(l.drop n).map f:=(List.map_drop ..).symm
@[go_sem] theorem Akq {α β:Type} (f:α->β) (n:Nat) (l:List α):(l.map f).take n=(l.take n).map f:=(List.map_take ..).symm
@[go_sem] theorem AkC {α:Type} (l:List α):l.take l.length=l:=List.take_length
attribute [go_sem] drop_zero length_cons length_nil all_cons List.all_nil List.take_succ_cons List.take_zero List.drop_succ_cons List.take_nil List.drop_nil Nat.zero_add Nat.add_zero Nat.le_refl Nat.sub_zero Nat.zero_le List.length_replicate List.length_take List.length_drop
@[go_sem] theorem Afo (L:Nat) (h:VH):LY L [] h=True:=by cases h<;>rfl
def okB (L:Nat) (o':Option VO):Bool:=match o' with | none=>true | some x=>x.rows.all (CF L)
@[go_sem] theorem Amz (L:Nat):okB L none=true:=rfl
@[go_sem] theorem AmA (L:Nat) (x:VO):okB L (some x)=x.rows.all (CF L):=rfl
@[go_sem] theorem Ha {α:Type} {f:α->List VV} {L:Nat} {l:List α} (hf:∀ x,CF L (f x)=true):(l.map f).all (CF L)=true:=by
 grind
@[go_sem] theorem Ag3 {L n:Nat} {z:List VV} (hf:CF L z=true):(List.replicate n z).all (CF L)=true:=by
 grind
@[go_sem] theorem A0z (L:Nat) (o o':Option VO) (h h':VH):LY L (o::h) (o'::h')=((o=o'\/okB L o' = true)/\LY L h h'):=by
 show ((o=o'\/∀ x,o' = some x->x.rows.all (CF L)=true)/\LY L h h')=_
 congr 2
 apply propext
 cases o' with
 | none=>simp [okB]
 | some x=>simp [okB]
def Fz (a:List VV):Prop:=∀ h d,B6 (frz h (d+3)) a=some (a,[])
theorem A09 {α:Type} {f:α->Option (α×List Nat)}:∀ {a b:List α},B6 f a=some (a,[])->B6 f b=some (b,[])->B6 f (a++b)=some (a++b,[]):=by
 intro a
 induction a with
 | nil=>intro b _ h;exact h
 | cons x xs ih =>
  intro b h1 h2
  simp only [B6] at h1
  split at h1
  .rename_i y i ys is e1 e2
   simp only [Option.some.injEq,Prod.mk.injEq,List.cons.injEq,List.append_eq_nil_iff] at h1
   obtain ⟨⟨rfl,rfl⟩,rfl,rfl⟩:=h1
   grind [B6]
  .cases h1
theorem Fz.call {a c x:List VV} (ha:Fz a) (hc:Fz c) {h:VH} (hx:B6 (frz h 8) x=some (x,[])):B6 (frz h 8) (a++x++c)=some (a++x++c,[]):=A09 (A09 (ha h 5) hx) (hc h 5)
theorem K3 {L:Nat} {h:VH} {d:Nat}:∀ {a:List VV},B6 (frz h d) a=some (a,[])->(∀ v,frz h d v=some (v,[])->bel L v=true)->CF L a=true:=by
 intro a
 induction a with
 | nil=>intro _ _;rfl
 | cons x xs ih =>
  intro h1 h2
  simp only [B6] at h1
  split at h1
  .rename_i y i ys is e1 e2
   simp only [Option.some.injEq,Prod.mk.injEq,List.cons.injEq,List.append_eq_nil_iff] at h1
   obtain ⟨⟨rfl,rfl⟩,rfl,rfl⟩:=h1
   grind [CF]
  .cases h1
theorem A5p {L:Nat} {h:VH}:∀ {d:Nat} {v:VV},frz h d v=some (v,[])->bel L v=true:=by
 intro d
 induction d with
 | zero=>intro v e;simp [frz] at e
 | succ d ih =>
  intro v e
  cases v with
  | p id ver r c =>
   grind [frz]
  | sl id ver off n =>
   simp only [frz] at e
   grind
  | f g a c =>
   simp only [frz] at e
   split at e
   .rename_i a' i1 c' i2 h1 h2
    simp only [Option.some.injEq,Prod.mk.injEq,VV.f.injEq,true_and,List.append_eq_nil_iff] at e
    obtain ⟨⟨rfl,rfl⟩,rfl,rfl⟩:=e
    grind [bel,K3]
   .cases e
  | ag cs =>
   simp only [frz] at e
   split at e
   .rename_i cs' is h1
    simp only [Option.some.injEq,Prod.mk.injEq,VV.ag.injEq] at e
    obtain ⟨rfl,rfl⟩:=e
    grind [bel,K3]
   .cases e
  | tu cs =>
   simp only [frz] at e
   split at e
   .rename_i cs' is h1
    simp only [Option.some.injEq,Prod.mk.injEq,VV.tu.injEq] at e
    obtain ⟨rfl,rfl⟩:=e
    grind [bel,K3]
   .cases e
  | _=>rfl
theorem Fz.bel {L:Nat} {a:List VV} (ha:Fz a):CF L a=true:=K3 (ha [] 0) fun v=>A5p
theorem Fz.nil:Fz []:=fun _ _=>rfl
@[go_sem] theorem Fz.eq {a:List VV} (ha:Fz a) {h:VH} {d:Nat}:B6 (frz h (d+3)) a=some (a,[]):=ha h d
@[go_sem] theorem A0A (L:Nat) (h g:VH):LY L h (h++g)=True:=by
 induction h with
 | nil=>simp only [Afo]
 | cons o h ih=>simp only [cons_append,A0z,ih,true_or,true_and]
@[go_sem] theorem AmC (L:Nat) (h:VH):LY L h h=True:=by
 have:=A0A L h []
 rwa [append_nil] at this
@[go_sem] theorem Ass (L:Nat) (x:Bool):Mm L (.b x) = .b x:=rfl
@[go_sem] theorem Ag4 (L:Nat) (k:IntKind) (x:Int):Mm L (.i k x) = .i k x:=rfl
@[go_sem] theorem Asu (L:Nat) (x:ByteArray):Mm L (.s x) = .s x:=rfl
@[go_sem] theorem Aq2 (L:Nat):Mm L .nf = .nf:=rfl
@[go_sem] theorem Aq4 (L:Nat):Mm L .np = .np:=rfl
@[go_sem] theorem Aq3 (L:Nat):Mm L .nl = .nl:=rfl
@[go_sem] theorem Aq1 (L:Nat) (r:List (List VV)):Mm L (.ls r) = .ls r:=rfl
@[go_sem] theorem Aq0 (L:Nat) (r:List VV) (c:Nat):Mm L (.fp r c) = .fp r c:=rfl
@[go_sem] theorem AlG (L:Nat):Mm L VV.nul=VV.nul:=A4W L
@[go_sem] theorem Ast (L id ver r c:Nat):Mm L (.p id ver r c)=(bif Nat.blt id L then .p id ver r c else .un):=rfl
@[go_sem] theorem Aq5 (L id ver r c:Nat):Mm L (.sl id ver r c)=(bif Nat.blt id L then .sl id ver r c else .un):=rfl
@[go_sem] theorem ApZ (L:Nat) (l:List VV):Mm L (.ag l)=(bif CF L l then .ag l else .un):=rfl
@[go_sem] theorem A9d (L g:Nat) (a c:List VV):Mm L (.f g a c)=(bif CF L a && CF L c then .f g a c else .un):=rfl
attribute [go_sem] bel CF
section
variable {e:Option Pl} {k:IntKind} {a c:Int}
@[go_sem] theorem A14:B5 .add e (.i k a) (.i k c)=some (.i k (k.wrap (a+c))):=by simp [B5,Bf,ER,Gb]
@[go_sem] theorem Ana:B5 .sub e (.i k a) (.i k c)=some (.i k (k.wrap (a - c))):=by simp [B5,Bf,ER,Gb]
@[go_sem] theorem An6:B5 .mul e (.i k a) (.i k c)=some (.i k (k.wrap (a * c))):=by simp [B5,Bf,ER,Gb]
theorem Ad3 (h:c≠0):B5 .quo e (.i k a) (.i k c)=some (.i k (k.wrap (a.tdiv c))):=by simp [B5,Bf,ER,h,Gb]
theorem GR (h:c≠0):B5 .rem e (.i k a) (.i k c)=some (.i k (a.tmod c)):=by simp [B5,Bf,ER,h,Gb]
@[go_sem] theorem An0:B5 .eql e (.i k a) (.i k c)=some (.b (decide (a=c))):=by simp only [B5,Zj,bind_some,Gb]
@[go_sem] theorem An7:B5 .neq e (.i k a) (.i k c)=some (.b (!decide (a=c))):=by simp only [B5,Zk,bind_some,Gb]
@[go_sem] theorem Ad2:B5 .lss e (.i k a) (.i k c)=some (.b (decide (a < c))):=by simp only [B5,A91,bind_some,Gb]
@[go_sem] theorem An5:B5 .leq e (.i k a) (.i k c)=some (.b (decide (a<=c))):=by simp only [B5,A90,bind_some,Gb]
@[go_sem] theorem An4:B5 .gtr e (.i k a) (.i k c)=some (.b (decide (c < a))):=by simp only [B5,A8Z,bind_some,Gb]
@[go_sem] theorem An3:B5 .geq e (.i k a) (.i k c)=some (.b (decide (c<=a))):=by simp only [B5,A8Y,bind_some,Gb]
@[go_sem] theorem AkI (x y:Bool):B5 .eql (some .b) (.b x) (.b y)=some (.b (x == y)):=rfl
@[go_sem] theorem AkK (x y:Bool):B5 .neq (some .b) (.b x) (.b y)=some (.b (!(x == y))):=rfl
@[go_sem] theorem AkJ (x y:ByteArray):B5 .eql e (.s x) (.s y)=some (.b (decide (x=y))):=by simp only [B5,A7m,bind_some,Gb]
@[go_sem] theorem AkL (x y:ByteArray):B5 .neq e (.s x) (.s y)=some (.b (!decide (x=y))):=by simp only [B5,A7n,bind_some,Gb]
@[go_sem] theorem An8:B5 .eql (some .p) .np .np=some (.b true):=rfl
@[go_sem] theorem An9:B5 .neq (some .p) .np .np=some (.b false):=rfl
@[go_sem] theorem AoI (i v r c:Nat):B5 .eql (some .p) (.p i v r c) .np=some (.b false):=rfl
@[go_sem] theorem AoJ (i v r c:Nat):B5 .neq (some .p) (.p i v r c) .np=some (.b true):=rfl
@[go_sem] theorem An1 (l:List VV) (c:Nat):B5 .eql (some .p) (.fp l c) .np=some (.b false):=rfl
@[go_sem] theorem An2 (l:List VV) (c:Nat):B5 .neq (some .p) (.fp l c) .np=some (.b true):=rfl
theorem Ad5 {i v o n:Nat} (h:0 < n):B5 .eql (some .s) (.sl i v o n) .nl=some (.b false):=by
 cases n with
 | zero=>omega
 | succ n=>rfl
@[go_sem] theorem AoH:B5 .eql (some .s) .nl .nl=some (.b true):=rfl
def vW (w:BitVec 64):VV:=.i .u64 (w.toNat:Int)
variable {x y:BitVec 64}
@[go_sem] theorem ArN:VV.i .u64 (x.toNat:Int)=vW x:=rfl
@[go_sem] theorem AtA:VV.i .u64 0=vW 0#64:=rfl
@[go_sem] theorem AtB:VV.i .u64 1=vW 1#64:=rfl
theorem RM {op:BinOp} {w:BitVec 64} (hb:Bf op e (Wd x) (Wd y)=some (Wd w)):B5 op e (vW x) (vW y)=some (vW w):=by
 show (Bf op e (Wd x) (Wd y)).bind Gb=_
 rw [hb];rfl
theorem A72 {op:BinOp} {w:Bool} (hb:Bf op e (Wd x) (Wd y)=some (.b w)):B5 op e (vW x) (vW y)=some (.b w):=by
 show (Bf op e (Wd x) (Wd y)).bind Gb=_
 rw [hb];rfl
@[go_sem] theorem ArL:B5 .and e (vW x) (vW y)=some (vW (x &&& y)):=RM Zl
@[go_sem] theorem AsT:B5 .or e (vW x) (vW y)=some (vW (x ||| y)):=RM AdL
@[go_sem] theorem AkG:B5 .andNot e (vW x) (vW y)=some (vW (x &&& ~~~y)):=RM Zm
@[go_sem] theorem ArR:B5 .sub e (vW x) (vW y)=some (vW (x - y)):=RM A98
@[go_sem] theorem ArK:B5 .add e (vW x) (vW y)=some (vW (x+y)):=RM A93
@[go_sem] theorem ArO:B5 .eql e (vW x) (vW y)=some (.b (decide (x=y))):=A72 A94
@[go_sem] theorem ArQ:B5 .neq e (vW x) (vW y)=some (.b (!decide (x=y))):=A72 A95
theorem AjI {n:Nat} (h:n < 64):B5 .shl e (vW x) (.i .i64 n)=some (vW (x <<< n)):=by
 show (Bf .shl e (Wd x) (.i .i64 n)).bind Gb=_
 rw [A96 h];rfl
@[go_sem] theorem AoB:(vW x).cell=true:=rfl
@[go_sem] theorem AmZ:(vW x).cells=[vW x]:=rfl
@[go_sem] theorem ArP {d:Nat}:frz h (d+1) (vW x)=some (vW x,[]):=rfl
@[go_sem] theorem AoC:scal (vW x)=true:=rfl
@[go_sem] theorem ArM {L:Nat}:bel L (vW x)=true:=rfl
@[go_sem] theorem AsS {L:Nat}:Mm L (vW x)=vW x:=rfl
end
def A4C:List VV->Option VV
 | [.i .u64 n]=>if 0<=n/\n < 18446744073709551616 then some (.i .i64 (Lib.ctz 64 n.toNat:Nat)) else none
 | _=>none
def YS (F:A3) (h:VH) (d:Nat) (n:Option Nat) (a:Nat):Prop:=CI (A3.tmp F d)=true/\vld h n (A3.tmp F a)=some (A3.tmp F d)
def A7p (v:VV) (w:Bool) (P:Prop):Prop:=match v with
 | .b x=>(bif x == w then P else True)
 | .tu []=>True
 | _=>False
@[go_sem] theorem AnY {P:Prop}:A7p (.b true) true P↔P:=Iff.rfl
@[go_sem] theorem AnV {P:Prop}:A7p (.b false) false P↔P:=Iff.rfl
@[go_sem] theorem AnX {P:Prop}:A7p (.b true) false P↔True:=Iff.rfl
@[go_sem] theorem AnW {P:Prop}:A7p (.b false) true P↔True:=Iff.rfl
@[go_sem] theorem AlF {w:Bool} {P:Prop}:A7p VV.nul w P↔True:=Iff.rfl
@[go_sem ↓] theorem AfT {L:JI}:BV F h L []↔True:=Iff.rfl
@[go_sem ↓] theorem AjS {L:JI} {d a:Nat} {n:Option Nat} {r:List Ay}:BV F h L (o d (.ld n (.t a))::r)↔((d,n,a)∈L\/YS F h d n a)/\BV F h L r:=Iff.rfl
@[go_sem ↓] theorem AgM {L:JI} {d t a:Nat} {w:Bool} {n:Option Nat} {r:List Ay}:BV F h L (og d t w (.ld n (.t a))::r)↔A7p (A3.tmp F t) w ((d,n,a)∈L\/YS F h d n a)/\BV F h L r:=by
 show (match Cp F (some (t,w)) with | some false=>True | some true=>_ | none=>False)/\_↔_
 refine and_congr ?_ Iff.rfl
 simp only [Cp]
 generalize A3.tmp F t=v
 cases v with
 | b x=>cases x<;>cases w<;>exact Iff.rfl
 | tu vs=>cases vs<;>exact Iff.rfl
 | _=>exact Iff.rfl
attribute [go_sem] NJ M6 D6 Ahd Hc ZY Cp List.filter_cons List.filter_nil mem_cons not_mem_nil
attribute [go_sem] decide_true decide_false Bool.not_true Bool.not_false Bool.and_true Bool.true_and Bool.and_false Bool.false_and Bool.or_true Bool.true_or Bool.or_false Bool.false_or cond_true cond_false not_true_eq_false not_false_eq_true if_true if_false false_and and_false exists_false imp_false
attribute [go_sem] or_false false_or or_self ite_true ite_false
attribute [go_sem] VV.b.injEq VV.i.injEq VV.s.injEq VV.ls.injEq VV.sl.injEq VV.p.injEq VV.fp.injEq VV.f.injEq VV.ag.injEq VV.tu.injEq Option.some.injEq Prod.mk.injEq true_and and_true and_self true_or or_true
 map_cons map_nil append_nil nil_append cons_append Option.map_some Option.map_none decide_eq_true_eq decide_eq_false_iff_not forall_const Bool.not_eq_true Bool.not_eq_false reduceCtorEq false_implies implies_true
 Int.toNat_natCast Int.natCast_nonneg Int.ofNat_lt Int.ofNat_le
end
section
variable {V:Am} {m:Nat->Nat}
theorem GV {k:Nat} (h:k < 9223372036854775807):IntKind.i64.wrap ((k:Int)+1)=((k+1:Nat):Int):=by grind [Av]
theorem Ag {i n c d B C:Nat} {body:A1} (hne:c≠i/\c≠n/\d≠n/\i≠n/\m i=0) (N:Nat) (hN:N < 9223372036854775807) (I:Nat->A3->VH->Prop) {Q:Ex->A3->VH->Prop}
  (step:∀ k F h,k < N->A3.tmp F i = .i .i64 k->A3.tmp F n = .i .i64 N->I k F h ->
   Vc V m body (Tm.set F c (.b true)) h (fun e F' h'=>match e with
    | .norm=>A3.tmp F' i = .i .i64 k/\A3.tmp F' n = .i .i64 N/\LY h.length h h'/\∀ v,I (k+1) (Ef h.length (Tm.set (Tm.set F' d v) i v)) (h'.take h.length)
    | .exit x=>(bif Nat.beq x C then A3.tmp F' i = .i .i64 k/\A3.tmp F' n = .i .i64 N/\LY h.length h h'/\∀ v,I (k+1) (Ef h.length (Tm.set (Tm.set F' d v) i v)) (h'.take h.length) else bif Nat.beq x B then Q .norm F' h' else Q (.exit x) F' h')
    | .ret=>Q .ret F' h'))
  (done:∀ F h,I N F h->Q .norm (Tm.set F c (.b false)) h) :
  ∀ k F h,k<=N->A3.tmp F i = .i .i64 k->A3.tmp F n = .i .i64 N->I k F h ->
   VL V m B (.seq (.reg [o c (.bin .lss none (.t i) (.t n))]) (.seq (.cond (.t c) .skip (.exit B)) (.seq (.block C body) (.reg [o d (.bin .add none (.t i) (.c (.i .i64 1))),o i (.mov (.t d))])))) F h Q:=by
 obtain ⟨hci,hcn,hdn,hin,hm⟩:=hne
 intro k F h hk h1 h2 h3
 unfold VL
 rw [A0]
 refine AA (M:=Nat) (I:=fun k F h=>k<=N/\A3.tmp F i = .i .i64 k/\A3.tmp F n = .i .i64 N/\I k F h) (μ:=fun k=>N - k) ?_ k F h ⟨hk,h1,h2,h3⟩
 rintro k F h ⟨hk,h1,h2,h3⟩
 rw [LD,TJ,A8J,A1o]
 simp only [A16,h1,h2,Ad2,TA,Ej,Qa]
 rw [LD,A4J]
 simp only [A16,HV,if_true,Ej]
 rcases Nat.lt_or_ge k N with hlt | hge
 .have:decide ((k:Int) < N)=true:=by simp;omega
  rw [this,AfZ,A4L]
  simp only
  rw [LD,A0]
  refine (step k F h hlt h1 h2 h3).mono fun e F' h' hq=>?_
  have fin:(A3.tmp F' i = .i .i64 k/\A3.tmp F' n = .i .i64 N/\LY h.length h h'/\∀ v,I (k+1) (Ef h.length (Tm.set (Tm.set F' d v) i v)) (h'.take h.length)) ->
    Vc V m (.reg [o d (.bin .add none (.t i) (.c (.i .i64 1))),o i (.mov (.t d))]) F' h' (fun e F' h'=>match e with
     | .norm=>LY h.length h h'/\∃ m',N - m' < N - k/\m'<=N/\A3.tmp (Ef h.length F') i = .i .i64 m'/\A3.tmp (Ef h.length F') n = .i .i64 N/\I m' (Ef h.length F') (h'.take h.length)
     | .exit id'=>(bif Nat.beq id' B then Q .norm F' h' else Q (.exit id') F' h')
     | e=>Q e F' h'):=by
   rintro ⟨g1,g2,g3,g4⟩
   rw [TJ,A8J,A1o]
   simp only [A16,AgL,Ace,g1,A14,TA,Ej,A8J,hm,A4M,A73,Abw,YX,Ej,Qa,HV,if_true,KU,if_neg hin.symm,if_neg hdn.symm,g2,Ag4]
   rw [GV (by omega)]
   grind
  cases e with
  | norm=>grind
  | ret=>exact hq
  | exit x =>
   grind
 .have hkN:k=N:=by omega
  subst hkN
  have:decide ((k:Int) < k)=false:=by simp
  simp_all [AfY,A4K]
theorem Aa {i c d1 d2 B C:Nat} {pre:List Ay} {body:A1} (hne:m d1=0/\m i=0) (N:Nat) (hN:N < 9223372036854775807) (I:Nat->A3->VH->Prop) {Q:Ex->A3->VH->Prop}
  (hpre:∀ k F h,k<=N->A3.tmp F i = .i .i64 k->I k F h->Vr V m pre F h (fun F' h'=>A3.tmp F' c = .b (decide (k < N))/\A3.tmp F' i = .i .i64 k/\h' = h/\I k F' h))
  (step:∀ k F h,k < N->A3.tmp F i = .i .i64 k->I k F h ->
   Vc V m body F h (fun e F' h'=>match e with
    | .norm=>A3.tmp F' i = .i .i64 k/\LY h.length h h'/\∀ v w,I (k+1) (Ef h.length (Tm.set (Tm.set (Tm.set F' d1 v) d2 w) i w)) (h'.take h.length)
    | .exit x=>(bif Nat.beq x C then A3.tmp F' i = .i .i64 k/\LY h.length h h'/\∀ v w,I (k+1) (Ef h.length (Tm.set (Tm.set (Tm.set F' d1 v) d2 w) i w)) (h'.take h.length) else bif Nat.beq x B then Q .norm F' h' else Q (.exit x) F' h')
    | .ret=>Q .ret F' h'))
  (done:∀ F h,I N F h->Q .norm F h) :
  ∀ k F h,k<=N->A3.tmp F i = .i .i64 k->I k F h ->
   VL V m B (.seq (.seq (.reg pre) (.cond (.t c) .skip (.exit B))) (.seq (.block C body) (.reg [o d1 (.mov (.t i)),o d2 (.bin .add none (.t d1) (.c (.i .i64 1))),o i (.mov (.t d2))]))) F h Q:=by
 obtain ⟨hm1,hm2⟩:=hne
 intro k F h hk h1 h3
 unfold VL
 rw [A0]
 refine AA (M:=Nat) (I:=fun k F h=>k<=N/\A3.tmp F i = .i .i64 k/\I k F h) (μ:=fun k=>N - k) ?_ k F h ⟨hk,h1,h3⟩
 rintro k F h ⟨hk,h1,h3⟩
 rw [LD,LD,TJ]
 obtain ⟨n,F1,h',hr,hc,hi,rfl,hI⟩:=hpre k F h hk h1 h3
 refine ⟨n,F1,h',hr,?_⟩
 simp only
 rw [A4J]
 simp only [A16,hc,Ej]
 rcases Nat.lt_or_ge k N with hlt | hge
 .rw [decide_eq_true hlt,AfZ,A4L]
  simp only
  rw [LD,A0]
  refine (step k F1 h' hlt hi hI).mono fun e F' h2 hq=>?_
  have fin:(A3.tmp F' i = .i .i64 k/\LY h'.length h' h2/\∀ v w,I (k+1) (Ef h'.length (Tm.set (Tm.set (Tm.set F' d1 v) d2 w) i w)) (h2.take h'.length)) ->
    Vc V m (.reg [o d1 (.mov (.t i)),o d2 (.bin .add none (.t d1) (.c (.i .i64 1))),o i (.mov (.t d2))]) F' h2 (fun e F' h2=>match e with
     | .norm=>LY h'.length h' h2/\∃ m',N - m' < N - k/\m'<=N/\A3.tmp (Ef h'.length F') i = .i .i64 m'/\I m' (Ef h'.length F') (h2.take h'.length)
     | .exit id'=>(bif Nat.beq id' B then Q .norm F' h2 else Q (.exit id') F' h2)
     | e=>Q e F' h2):=by
   rintro ⟨g1,g3,g4⟩
   rw [TJ,A8J]
   simp only [hm1,A4M,A73,Abw,YX,Ej,A16,AgL,Ace,g1,A8J,A1o,HV,if_true,A14,TA,Ej,hm2,Qa,KU,Ag4]
   rw [GV (by omega)]
   grind
  cases e with
  | norm=>grind
  | ret=>exact hq
  | exit x =>
   grind
 .have hkN:k=N:=by omega
  subst hkN
  have:decide (k < k)=false:=by simp
  simp_all [AfY,A4K]
end
abbrev eI (x:Int):List VV:=[.i .i64 x]
abbrev eW (x:BitVec 64):List VV:=[vW x]
abbrev eS (x:ByteArray):List VV:=[.s x]
abbrev eU (x:U8):List VV:=[.i .u8 (x.n:Int)]
abbrev lI (l:List Int):VV:=.ls (l.map eI)
abbrev lW (l:List (BitVec 64)):VV:=.ls (l.map eW)
abbrev lS (l:List ByteArray):VV:=.ls (l.map eS)
abbrev lU (l:List U8):VV:=.ls (l.map eU)
abbrev JC (l:List Int):List VV:=[lI l]
abbrev Hv (l:List ByteArray):List VV:=[lS l]
abbrev De (l:List (List Int)):List VV:=[.ls (l.map JC)]
abbrev eN (n:AJ):List VV:=[.i .i64 n.thread,.i .i64 n.up,.i .i64 n.kind,.i .i64 n.loc,.i .i64 n.mode,.i .i64 n.val,.b n.rmw,.b n.fin,lI n.regs]
abbrev vN (n:AJ):VV:=.ag (eN n)
abbrev eT (t:A2):List VV:=[.i .i64 t.vals,lS t.locs,.ls (t.regs.map Hv),.ls (t.nodes.map eN)]
abbrev vT (t:A2):VV:=.ag (eT t)
abbrev EX (s:A6):List VV:=[lI s.has,lI s.jf,.ls (s.mo.map De)]
abbrev Eu (s:A6):VV:=.ag (EX s)
def Dh:VO:={ ty:=0,esz:=0,ver:=0,nl:=true,rows:=[] }
def AX (ty e:Nat) (rows:List (List VV)):VO:=if rows.length=0 then Dh else { ty:=ty,esz:=e,ver:=rows.length,nl:=false,rows:=rows }
section
variable {ty e:Nat} {rows:List (List VV)}
@[go_sem] theorem ED:(AX ty e rows).ver=rows.length:=by
 unfold AX;split
 .rename_i h;rw [h];rfl
 .rfl
@[go_sem] theorem A7f:(AX ty e rows).rows=rows:=by
 unfold AX;split
 .rename_i h;rw [List.length_eq_zero_iff.1 h];rfl
 .rfl
@[go_sem] theorem AnM:((AX ty e rows).nl || (decide ((AX ty e rows).ty=ty) && decide ((AX ty e rows).esz=e)))=true:=by
 unfold AX;split
 .rfl
 .simp
@[go_sem] theorem Als:(decide ((AX ty e rows).esz=e) || (AX ty e rows).nl)=true:=by
 grind [AX,Dh]
theorem JO (he:0 < e):(decide (0 < (AX ty e rows).esz) || (AX ty e rows).nl)=true:=by
 unfold AX;split
 .rfl
 .simp [he]
@[go_sem] theorem Ak7:(decide (0 < (AX ty 1 rows).esz) || (AX ty 1 rows).nl)=true:=JO (by decide)
@[go_sem] theorem Ak8:(decide (0 < (AX ty 2 rows).esz) || (AX ty 2 rows).nl)=true:=JO (by decide)
@[go_sem] theorem Ak9:(decide (0 < (AX ty 4 rows).esz) || (AX ty 4 rows).nl)=true:=JO (by decide)
@[go_sem] theorem Aka:(decide (0 < (AX ty 7 rows).esz) || (AX ty 7 rows).nl)=true:=JO (by decide)
@[go_sem] theorem Akb:(decide (0 < (AX ty 9 rows).esz) || (AX ty 9 rows).nl)=true:=JO (by decide)
@[go_sem] theorem Akc {r:List VV}:({ ty:=ty,esz:=e,ver:=rows.length+1,nl:=false,rows:=rows++[r] }:VO)=AX ty e (rows++[r]):=by
 simp_all [AX]
@[go_sem] theorem J2 {α:Type} {xs:List α} {x:α} {f:α->List VV}:({ ty:=ty,esz:=e,ver:=xs.length+1,nl:=false,rows:=(xs++[x]).map f }:VO)=AX ty e ((xs++[x]).map f):=by
 simp_all [AX]
@[go_sem] theorem Alr:AX ty e []=Dh:=rfl
@[go_sem] theorem Akt:Dh.rows=[]:=rfl
@[go_sem] theorem Aoc:Dh.nl=true:=rfl
@[go_sem] theorem Amt:Dh.ver=0:=rfl
@[go_sem] theorem Ams:Dh.esz=0:=rfl
@[go_sem] theorem Aod:Dh.ty=0:=rfl
@[go_sem] theorem R8:({ ty:=0,esz:=0,ver:=0,nl:=true,rows:=[] }:VO)=Dh:=rfl
end
@[go_sem] theorem D2 (xs:List Int) (x:Int):xs.map eI++[[.i .i64 x]]=(xs++[x]).map eI:=by simp
@[go_sem] theorem Arz (xs:List (BitVec 64)) (x:BitVec 64):xs.map eW++[[vW x]]=(xs++[x]).map eW:=by simp
@[go_sem] theorem Ary (xs:List ByteArray) (x:ByteArray):xs.map eS++[[.s x]]=(xs++[x]).map eS:=by simp
section
variable {V:Am} {m:Nat->Nat} {F:A3} {h:VH} {x w:Bool} {d:Option Nat} {op:Bi}
theorem By {r:List Ay} {R:A3->VH->Prop} (h1:x=true->VG V m (.b true) w d op r F h R) (h2:x=false->VG V m (.b false) w d op r F h R):VG V m (.b x) w d op r F h R:=by
 cases x with
 | true=>exact h1 rfl
 | false=>exact h2 rfl
theorem Bp {c:List Ay} {r:List AB} {L:JI} {R:A3->VH->Prop} (h1:x=true->VGs V m (.b true) w d op c r L F h R) (h2:x=false->VGs V m (.b false) w d op c r L F h R):VGs V m (.b x) w d op c r L F h R:=by
 cases x with
 | true=>exact h1 rfl
 | false=>exact h2 rfl
theorem Bc {a b:A1} {Q:Ex->A3->VH->Prop} (h1:x=true->VCn V m (.b true) a b F h Q) (h2:x=false->VCn V m (.b false) a b F h Q):VCn V m (.b x) a b F h Q:=by
 cases x with
 | true=>exact h1 rfl
 | false=>exact h2 rfl
end
@[go_sem] theorem AoD (h:VH) (t e b:Nat) (x y:VV):Pg 0 h t e b x y=L6 h t e b x y:=rfl
@[go_sem] theorem AoE (h:VH) (t e b:Nat) (x y:VV):Pg 1 h t e b x y=L6 h t e b x y:=rfl
@[go_sem] theorem AoF (h:VH) (t e b:Nat) (x y:VV):Pg 2 h t e b x y=L6 h t e b x y:=rfl
def AhR (r:Option (VV×VH)):Option (VV×VH):=match r with
 | some (v,h')=>(match frz h' dF v with
  | some (r,ids)=>some (r,Bt ids h')
  | none=>none)
 | none=>none
@[go_sem] theorem AoG (h:VH) (t e b:Nat) (x y:VV):Pg 5 h t e b x y=AhR (L6 h t e b x y):=by
 unfold Pg AhR;rfl
@[go_sem] theorem Akl (v:VV) (h:VH):AhR (some (v,h))=(match frz h 8 v with
  | some (r,ids)=>some (r,Bt ids h)
  | none=>none):=rfl
def GX (n:Nat):Nat:=if n=0 then 0 else 1
def Qi (ty e:Nat) (rows:List (List VV)):VO:={ ty:=ty,esz:=e,ver:=GX rows.length,nl:=false,rows:=rows }
@[go_sem] theorem Ao1 (ty e:Nat) (rows:List (List VV)):(Qi ty e rows).ver=GX rows.length:=rfl
@[go_sem] theorem AlI (ty e:Nat) (rows:List (List VV)):(Qi ty e rows).rows=rows:=rfl
@[go_sem] theorem Aq7 (ty e:Nat) (rows:List (List VV)):(Qi ty e rows).ty=ty:=rfl
@[go_sem] theorem Ao0 (ty e:Nat) (rows:List (List VV)):(Qi ty e rows).esz=e:=rfl
@[go_sem] theorem Aq6 (ty e:Nat) (rows:List (List VV)):(Qi ty e rows).nl=false:=rfl
@[go_sem high] theorem AkH (h:VH) (ty e b id:Nat) (ys:List (List VV)) (h0:Cs h id 0=some { ty:=ty,esz:=e,ver:=0,nl:=false,rows:=[] }) (h1:Dv e ys=true) (h2:ys.length * b<=A8) (h3:0 < e) :
  L6 h ty e b (.sl id 0 0 0) (.ls ys)=some (.sl id (GX ys.length) 0 ys.length,h.set id (some (Qi ty e ys))):=by
 have hg:h[id]? = some (some { ty:=ty,esz:=e,ver:=0,nl:=false,rows:=[] }):=by
  grind [Cs]
 have hb1:(Nat.ble ((0+ys.length) * b) A8 && Nat.blt 0 e)=true:=by
  simp_all
 unfold L6
 simp only [M5,NK,h1,cond_true,h0,hb1]
 cases ys with
 | nil =>
  simp only [Option.some.injEq,Prod.mk.injEq]
  refine ⟨rfl,?_⟩
  obtain ⟨hi,he⟩:=List.getElem?_eq_some_iff.1 hg
  have:(some (Qi ty e []):Option VO)=h[id]:=by rw [he];rfl
  rw [this,List.set_getElem_self]
 | cons y ys =>
  simp only [Nat.beq_refl,length_nil,Bool.and_self,Bool.or_true,cond_true,nil_append,Nat.zero_add]
  rfl
@[go_sem low] theorem AjM (h:VH) (ty esz bytes:Nat) (id ver off n:Nat) (ys:List (List VV)):L6 h ty esz bytes (.sl id ver off n) (.ls ys)=(match M5 (.sl id ver off n),NK h esz (.ls ys) with
 | some n0,some ys0 =>
  bif Nat.ble ((n0+ys0.length) * bytes) A8 && Nat.blt 0 esz then
   match ((.sl id ver off n):VV) with
   | .sl id3 ver3 off3 _=>(match Cs h id3 ver3 with
    | some o=>(match ys0 with
     | []=>some ((.sl id ver off n),h)
     | y0::yr=>bif Nat.beq off3 0 && Nat.beq n0 o.rows.length && (o.nl || (Nat.beq o.ty ty && Nat.beq o.esz esz)) then
       some (.sl id3 (ver3+1) 0 (n0+ys0.length),h.set id3 (some { ty:=ty,esz:=esz,ver:=ver3+1,nl:=false,rows:=o.rows++ys0 }))
      else none)
    | none=>none)
   | .nl=>(match ys0 with
    | []=>some (.nl,h)
    | y0::yr=>some (.sl h.length 0 0 ys0.length,h++[some { ty:=ty,esz:=esz,ver:=0,nl:=false,rows:=ys0 }]))
   | _=>none
  else none
 | _,_=>none):=rfl
@[go_sem low] theorem AjN (h:VH) (ty esz bytes:Nat) (id ver off n:Nat)  : L6 h ty esz bytes (.sl id ver off n) .nl=(match M5 (.sl id ver off n),NK h esz .nl with
 | some n0,some ys0 =>
  bif Nat.ble ((n0+ys0.length) * bytes) A8 && Nat.blt 0 esz then
   match ((.sl id ver off n):VV) with
   | .sl id3 ver3 off3 _=>(match Cs h id3 ver3 with
    | some o=>(match ys0 with
     | []=>some ((.sl id ver off n),h)
     | y0::yr=>bif Nat.beq off3 0 && Nat.beq n0 o.rows.length && (o.nl || (Nat.beq o.ty ty && Nat.beq o.esz esz)) then
       some (.sl id3 (ver3+1) 0 (n0+ys0.length),h.set id3 (some { ty:=ty,esz:=esz,ver:=ver3+1,nl:=false,rows:=o.rows++ys0 }))
      else none)
    | none=>none)
   | .nl=>(match ys0 with
    | []=>some (.nl,h)
    | y0::yr=>some (.sl h.length 0 0 ys0.length,h++[some { ty:=ty,esz:=esz,ver:=0,nl:=false,rows:=ys0 }]))
   | _=>none
  else none
 | _,_=>none):=rfl
@[go_sem low] theorem AjO (h:VH) (ty esz bytes:Nat) (id ver off n:Nat) (id2 ver2 off2 n2:Nat):L6 h ty esz bytes (.sl id ver off n) (.sl id2 ver2 off2 n2)=(match M5 (.sl id ver off n),NK h esz (.sl id2 ver2 off2 n2) with
 | some n0,some ys0 =>
  bif Nat.ble ((n0+ys0.length) * bytes) A8 && Nat.blt 0 esz then
   match ((.sl id ver off n):VV) with
   | .sl id3 ver3 off3 _=>(match Cs h id3 ver3 with
    | some o=>(match ys0 with
     | []=>some ((.sl id ver off n),h)
     | y0::yr=>bif Nat.beq off3 0 && Nat.beq n0 o.rows.length && (o.nl || (Nat.beq o.ty ty && Nat.beq o.esz esz)) then
       some (.sl id3 (ver3+1) 0 (n0+ys0.length),h.set id3 (some { ty:=ty,esz:=esz,ver:=ver3+1,nl:=false,rows:=o.rows++ys0 }))
      else none)
    | none=>none)
   | .nl=>(match ys0 with
    | []=>some (.nl,h)
    | y0::yr=>some (.sl h.length 0 0 ys0.length,h++[some { ty:=ty,esz:=esz,ver:=0,nl:=false,rows:=ys0 }]))
   | _=>none
  else none
 | _,_=>none):=rfl
@[go_sem low] theorem AjJ (h:VH) (ty esz bytes:Nat)  (ys:List (List VV)):L6 h ty esz bytes .nl (.ls ys)=(match M5 .nl,NK h esz (.ls ys) with
 | some n0,some ys0 =>
  bif Nat.ble ((n0+ys0.length) * bytes) A8 && Nat.blt 0 esz then
   match (.nl:VV) with
   | .sl id3 ver3 off3 _=>(match Cs h id3 ver3 with
    | some o=>(match ys0 with
     | []=>some (.nl,h)
     | y0::yr=>bif Nat.beq off3 0 && Nat.beq n0 o.rows.length && (o.nl || (Nat.beq o.ty ty && Nat.beq o.esz esz)) then
       some (.sl id3 (ver3+1) 0 (n0+ys0.length),h.set id3 (some { ty:=ty,esz:=esz,ver:=ver3+1,nl:=false,rows:=o.rows++ys0 }))
      else none)
    | none=>none)
   | .nl=>(match ys0 with
    | []=>some (.nl,h)
    | y0::yr=>some (.sl h.length 0 0 ys0.length,h++[some { ty:=ty,esz:=esz,ver:=0,nl:=false,rows:=ys0 }]))
   | _=>none
  else none
 | _,_=>none):=rfl
@[go_sem low] theorem AjK (h:VH) (ty esz bytes:Nat)   : L6 h ty esz bytes .nl .nl=(match M5 .nl,NK h esz .nl with
 | some n0,some ys0 =>
  bif Nat.ble ((n0+ys0.length) * bytes) A8 && Nat.blt 0 esz then
   match (.nl:VV) with
   | .sl id3 ver3 off3 _=>(match Cs h id3 ver3 with
    | some o=>(match ys0 with
     | []=>some (.nl,h)
     | y0::yr=>bif Nat.beq off3 0 && Nat.beq n0 o.rows.length && (o.nl || (Nat.beq o.ty ty && Nat.beq o.esz esz)) then
       some (.sl id3 (ver3+1) 0 (n0+ys0.length),h.set id3 (some { ty:=ty,esz:=esz,ver:=ver3+1,nl:=false,rows:=o.rows++ys0 }))
      else none)
    | none=>none)
   | .nl=>(match ys0 with
    | []=>some (.nl,h)
    | y0::yr=>some (.sl h.length 0 0 ys0.length,h++[some { ty:=ty,esz:=esz,ver:=0,nl:=false,rows:=ys0 }]))
   | _=>none
  else none
 | _,_=>none):=rfl
@[go_sem low] theorem AjL (h:VH) (ty esz bytes:Nat)  (id2 ver2 off2 n2:Nat):L6 h ty esz bytes .nl (.sl id2 ver2 off2 n2)=(match M5 .nl,NK h esz (.sl id2 ver2 off2 n2) with
 | some n0,some ys0 =>
  bif Nat.ble ((n0+ys0.length) * bytes) A8 && Nat.blt 0 esz then
   match (.nl:VV) with
   | .sl id3 ver3 off3 _=>(match Cs h id3 ver3 with
    | some o=>(match ys0 with
     | []=>some (.nl,h)
     | y0::yr=>bif Nat.beq off3 0 && Nat.beq n0 o.rows.length && (o.nl || (Nat.beq o.ty ty && Nat.beq o.esz esz)) then
       some (.sl id3 (ver3+1) 0 (n0+ys0.length),h.set id3 (some { ty:=ty,esz:=esz,ver:=ver3+1,nl:=false,rows:=o.rows++ys0 }))
      else none)
    | none=>none)
   | .nl=>(match ys0 with
    | []=>some (.nl,h)
    | y0::yr=>some (.sl h.length 0 0 ys0.length,h++[some { ty:=ty,esz:=esz,ver:=0,nl:=false,rows:=ys0 }]))
   | _=>none
  else none
 | _,_=>none):=rfl
attribute [go_sem] Ad6
end Go.AM
