/-
  Own work, part of the proof of these laws: rules by which code is run over the machine of values.
-/
import Derived.Test.YtpnaenhghnkggaaGreatDoorAmD
import Derived.Attr
set_option maxRecDepth 10000
set_option maxHeartbeats 64000000
set_option linter.unusedVariables false
set_option linter.unusedSimpArgs false
set_option linter.unusedSectionVars false
set_option linter.unnecessarySimpa false
open List (length_cons nil_append cons_append append_nil map_cons mem_cons length_nil not_mem_nil drop_zero map_nil all_cons)
open Option (bind_some)
namespace Go.AM
open Go
section
variable {A:Df} {F:Fr} {σ:St}
@[go_sem] theorem Alq (F:Fr) (k:Nat) (v:AV) (j:Nat):Fr.tmp (Tm.set F k v) j=if j=k then v else Fr.tmp F j:=by
 grind [Fr.tmp,Tm.get_set]
def nth (l:List AV) (j:Nat):AV:=match l[j]? with | some v=>v | none=>AV.un
@[go_sem] theorem AgH (l:List AV) (j:Nat):Fr.tmp (Tm.ofList l) j=nth l j:=by
 grind [Fr.tmp,nth,Tm.get_ofList]
@[go_sem] theorem Al7 (j:Nat):nth [] j=AV.un:=by simp [nth]
@[go_sem] theorem Ajn (a:AV) (l:List AV):nth (a::l) 0=a:=by simp [nth]
@[go_sem] theorem Ajm (a:AV) (l:List AV) (j:Nat):nth (a::l) (j+1)=nth l j:=by simp [nth]
@[go_sem] theorem Ahz (F:Fr) (d:Nat) (v:AV):Bq F (some d) v=Tm.set F d v:=rfl
@[go_sem] theorem Ahy (F:Fr) (v:AV):Bq F none v=F:=rfl
@[go_sem] theorem Aqi (F:Fr) (n:Nat):Fr.ev F (.t n)=Fr.tmp F n:=rfl
@[go_sem] theorem Aqh (F:Fr) (v:AV):Fr.ev F (.c v)=v:=rfl
variable {Q:AV->St->Prop} {R:Fr->St->Prop}
@[go_sem] theorem Abu {d:Option Nat} {op:B7} {r:List Ap}:Wr A (⟨d,none,op⟩::r) F σ R↔Wo A op F σ (fun v σ'=>Wr A r (Bq F d v) σ' R):=A3s
def WG (A:Df) (v:AV) (w:Bool) (d:Option Nat) (op:B7) (r:List Ap) (F:Fr) (σ:St) (R:Fr->St->Prop):Prop:=match v with
 | .b x=>(bif x == w then Wo A op F σ (fun v σ'=>Wr A r (Bq F d v) σ' R) else Wr A r (Bq F d AV.un) σ R)
 | _=>Wr A r (Bq F d AV.un) σ R
@[go_sem] theorem Ail {d:Option Nat} {t:Nat} {w:Bool} {op:B7} {r:List Ap}:Wr A (⟨d,some (t,w),op⟩::r) F σ R↔WG A (Fr.tmp F t) w d op r F σ R:=by
 rw [A3s]
 simp only [wanted,WG]
 cases Fr.tmp F t<;>rfl
@[go_sem] theorem Ap5 {d:Option Nat} {op:B7} {r:List Ap}:WG A (.b true) true d op r F σ R↔Wo A op F σ (fun v σ'=>Wr A r (Bq F d v) σ' R):=Iff.rfl
@[go_sem] theorem Ap2 {d:Option Nat} {op:B7} {r:List Ap}:WG A (.b false) false d op r F σ R↔Wo A op F σ (fun v σ'=>Wr A r (Bq F d v) σ' R):=Iff.rfl
@[go_sem] theorem Ap4 {d:Option Nat} {op:B7} {r:List Ap}:WG A (.b true) false d op r F σ R↔Wr A r (Bq F d AV.un) σ R:=Iff.rfl
@[go_sem] theorem Ap3 {d:Option Nat} {op:B7} {r:List Ap}:WG A (.b false) true d op r F σ R↔Wr A r (Bq F d AV.un) σ R:=Iff.rfl
attribute [go_sem] Aeu Aev Abr Abq Aer Aeq Abp Aes
@[go_sem] theorem Abv {i:Nat} {d:Option Nat} {op:B7} {c:List Ap} {r:List Aq}:Ws A (⟨i,⟨d,none,op⟩,c⟩::r) F σ R↔Wo A op F σ (fun v σ'=>Ch (Bq F d v) σ' c=true/\Ws A r (Bq F d v) σ' R):=A3t
def WGs (A:Df) (v:AV) (w:Bool) (d:Option Nat) (op:B7) (c:List Ap) (r:List Aq) (F:Fr) (σ:St) (R:Fr->St->Prop):Prop:=match v with
 | .b x=>(bif x == w then Wo A op F σ (fun v σ'=>Ch (Bq F d v) σ' c=true/\Ws A r (Bq F d v) σ' R) else Ws A r (Bq F d AV.un) σ R)
 | _=>Ws A r (Bq F d AV.un) σ R
@[go_sem] theorem Aim {i:Nat} {d:Option Nat} {t:Nat} {w:Bool} {op:B7} {c:List Ap} {r:List Aq}:Ws A (⟨i,⟨d,some (t,w),op⟩,c⟩::r) F σ R↔WGs A (Fr.tmp F t) w d op c r F σ R:=by
 grind [A3t,wanted,WGs]
@[go_sem] theorem Amj {d:Option Nat} {op:B7} {c:List Ap} {r:List Aq}:WGs A (.b true) true d op c r F σ R↔Wo A op F σ (fun v σ'=>Ch (Bq F d v) σ' c=true/\Ws A r (Bq F d v) σ' R):=Iff.rfl
@[go_sem] theorem Amg {d:Option Nat} {op:B7} {c:List Ap} {r:List Aq}:WGs A (.b false) false d op c r F σ R↔Wo A op F σ (fun v σ'=>Ch (Bq F d v) σ' c=true/\Ws A r (Bq F d v) σ' R):=Iff.rfl
@[go_sem] theorem Ami {d:Option Nat} {op:B7} {c:List Ap} {r:List Aq}:WGs A (.b true) false d op c r F σ R↔Ws A r (Bq F d AV.un) σ R:=Iff.rfl
@[go_sem] theorem Amh {d:Option Nat} {op:B7} {c:List Ap} {r:List Aq}:WGs A (.b false) true d op c r F σ R↔Ws A r (Bq F d AV.un) σ R:=Iff.rfl
@[go_sem] theorem Ap6 {w:Bool} {d:Option Nat} {op:B7} {r:List Ap}:WG A AV.un w d op r F σ R↔Wr A r (Bq F d AV.un) σ R:=Iff.rfl
@[go_sem] theorem Amk {w:Bool} {d:Option Nat} {op:B7} {c:List Ap} {r:List Aq}:WGs A AV.un w d op c r F σ R↔Ws A r (Bq F d AV.un) σ R:=Iff.rfl
def WC (A:Df) (v:AV) (a b:A4) (F:Fr) (σ:St) (Q:Ex->Fr->St->Prop):Prop:=match v with
 | .b true=>Wc A a F σ Q
 | .b false=>Wc A b F σ Q
 | _=>False
@[go_sem] theorem Ah7 {x:Ak} {a b:A4} {Q:Ex->Fr->St->Prop}:Wc A (.cond x a b) F σ Q↔WC A (Fr.ev F x) a b F σ Q:=by
 cases h:Fr.ev F x with
 | b t=>rw [Abo h];cases t<;>rfl
 | _ =>
  constructor
  .rintro ⟨n,e,F',σ',h2,_⟩
   cases n with
   | zero=>simp [AO] at h2
   | succ n=>simp [AO,h] at h2
  .intro h2;exact h2.elim
@[go_sem] theorem ApZ {a b:A4} {Q:Ex->Fr->St->Prop}:WC A (.b true) a b F σ Q↔Wc A a F σ Q:=Iff.rfl
@[go_sem] theorem ApY {a b:A4} {Q:Ex->Fr->St->Prop}:WC A (.b false) a b F σ Q↔Wc A b F σ Q:=Iff.rfl
def WP (v x y:AV) (σ:St) (Q:AV->St->Prop):Prop:=match v with
 | .b t=>Q (bif t then x else y) σ
 | _=>False
@[go_sem] theorem Aq1 {x y:AV}:WP (.b true) x y σ Q↔Q x σ:=Iff.rfl
@[go_sem] theorem Aq0 {x y:AV}:WP (.b false) x y σ Q↔Q y σ:=Iff.rfl
@[go_sem] theorem Amx {x:Ak}:Wo A (.mov x) F σ Q↔Q (Fr.ev F x) σ:=by
 simp_all [CJ,Aj,and_assoc]
@[go_sem] theorem Aku {c x y:Ak}:Wo A (.pick c x y) F σ Q↔WP (Fr.ev F c) (Fr.ev F x) (Fr.ev F y) σ Q:=by
 rw [CJ (by intros;simp)]
 simp only [Aj]
 cases Fr.ev F c with
 | b t=>simp only [Option.some.injEq,Prod.mk.injEq,exists_and_left,exists_eq_left',and_assoc,WP]
 | _=>simp [WP]
@[go_sem] theorem Amo {ty n:Nat} {x:Ak}:Wo A (.box ty n x) F σ Q↔((Fr.ev F x).cells.length=n/\(Fr.ev F x).cells.all AV.cell=true)/\Q (.p (some (σ.next,0))) (σ.new { ty:=ty,rw:=true,esz:=0,len:=n,cs:=Tm.ofList (Fr.ev F x).cells }):=by
 rw [CJ (by intros;simp)]
 simp only [Aj]
 cases hc:(Nat.beq (Fr.ev F x).cells.length n && (Fr.ev F x).cells.all AV.cell) with
 | false =>
  simp only [cond_false,reduceCtorEq,false_and,exists_false,false_iff]
  rintro ⟨⟨h1,h2⟩,_⟩
  rw [h1,h2] at hc
  simp at hc
 | true =>
  simp_all [and_assoc]
@[go_sem] theorem Aii {z:List AV} {ps:List (Nat×Nat×Ak)}:Wo A (.build z ps) F σ Q↔∃ cs,Bu F z ps=some cs/\Q (.ag cs) σ:=by
 rw [CJ (by intros;simp)]
 simp only [Aj]
 grind
@[go_sem] theorem Amp {ty esz len:Nat} {z:List AV} {ps:List (Nat×Nat×Ak)}:Wo A (.bsl ty esz len z ps) F σ Q↔∃ cs,Bu F z ps=some cs/\Q (.sl (some (σ.next,0)) len) (σ.new { ty:=ty,rw:=true,esz:=esz,len:=len * esz,cs:=Tm.ofList cs }):=by
 rw [CJ (by intros;simp)]
 simp only [Aj]
 grind
theorem SP {n:Option Nat} {a:Ak} {r:AV×St}:Aj (.ld n a) F σ=some r↔∃ id off,Fr.ev F a = .p (some (id,off))/\σ.loadV n id off=some r.1/\σ=r.2:=by
 simp only [Aj]
 grind
@[go_sem] theorem Apa {n:Option Nat} {a:Ak}:Wo A (.ld n a) F σ Q↔∃ id off,Fr.ev F a = .p (some (id,off))/\∃ v,σ.loadV n id off=some v/\Q v σ:=by
 rw [CJ (by intros;simp)]
 simp only [SP]
 grind
@[go_sem] theorem Apb {n:Nat} {a x:Ak}:Wo A (.st n a x) F σ Q↔∃ id off,Fr.ev F a = .p (some (id,off))/\(Fr.ev F x).cells.length=n/\∃ σ',σ.storeN id off (Fr.ev F x).cells=some σ'/\Q AV.un σ':=by
 rw [CJ (by intros;simp)]
 simp only [Aj]
 constructor
 .rintro ⟨v,σ',h,hq⟩
  split at h
  .rename_i id off ha
   cases hc:Nat.beq (Fr.ev F x).cells.length n with
   | false=>rw [hc] at h;cases h
   | true =>
    rw [hc] at h
    simp only [cond_true] at h
    grind [Nat.eq_of_beq_eq_true]
  .cases h
 .rintro ⟨id,off,ha,hc,σ',hs,hq⟩
  refine ⟨AV.un,σ',?_,hq⟩
  simp_all
def A5C:AV->Option AV
 | .p (some a)=>some (.p (some a))
 | .f g a c=>some (.f g a c)
 | _=>none
@[go_sem] theorem Al4 (a:Nat×Nat):A5C (.p (some a))=some (.p (some a)):=rfl
@[go_sem] theorem Al3 (g:Nat) (a c:List AV):A5C (.f g a c)=some (.f g a c):=rfl
@[go_sem] theorem Akt {x:Ak}:Wo A (.nilc x) F σ Q↔∃ v,A5C (Fr.ev F x)=some v/\Q v σ:=by
 rw [CJ (by intros;simp)]
 simp only [Aj]
 constructor
 .rintro ⟨v,σ',h,hq⟩
  split at h<;>cases h<;>(rename_i e;rw [e];exact ⟨_,rfl,hq⟩)
 .rintro ⟨v,h,hq⟩
  unfold A5C at h
  grind
@[go_sem] theorem Amn {op:BinOp} {e:Option NP} {x y:Ak}:Wo A (.bin op e x y) F σ Q↔∃ v,B2 op e (Fr.ev F x) (Fr.ev F y)=some v/\Q v σ:=by
 rw [CJ (by intros;simp)]
 simp only [Aj]
 grind
@[go_sem] theorem Amz {x:Ak}:Wo A (.not x) F σ Q↔∃ t,Fr.ev F x = .b t/\Q (.b (!t)) σ:=by
 rw [CJ (by intros;simp)]
 simp only [Aj]
 grind
@[go_sem] theorem Amy {x:Ak}:Wo A (.neg x) F σ Q↔∃ k n,Fr.ev F x = .i k n/\Q (.i k (k.wrap (0 - n))) σ:=by
 rw [CJ (by intros;simp)]
 simp only [Aj]
 grind
@[go_sem] theorem Akr {k:IntKind} {x:Ak}:Wo A (.conv k x) F σ Q↔∃ k' n,Fr.ev F x = .i k' n/\Q (.i k (k.wrap n)) σ:=by
 rw [CJ (by intros;simp)]
 simp only [Aj]
 grind
@[go_sem] theorem Amu {g:Nat} {a c:List Ak}:Wo A (.mkf g a c) F σ Q↔Q (.f g (a.map (Fr.ev F)) (c.map (Fr.ev F))) σ:=by
 simp_all [CJ,Aj,and_assoc]
@[go_sem] theorem Amv {ty esz bytes:Nat} {z:List AV} {l c:Ak}:Wo A (.mks ty esz bytes z l c) F σ Q↔∃ n,Fr.ev F l = .i .i64 n/\∃ m,Fr.ev F c = .i .i64 m/\(0<=n/\n<=m/\m.toNat * bytes<=A9)/\Q (.sl (some (σ.next,0)) n.toNat) (σ.new { ty:=ty,rw:=true,esz:=esz,len:=n.toNat * esz,cs:=Tm.ofList ((List.replicate n.toNat z).flatten) }):=by
 rw [CJ (by intros;simp)]
 simp only [Aj]
 grind
@[go_sem] theorem AmA {esz:Nat} {x:Ak} {lo hi:Option Ak}:Wo A (.slc esz x lo hi) F σ Q↔∃ v,DW esz (Fr.ev F x) (lo.map (Fr.ev F)) (hi.map (Fr.ev F))=some v/\Q v σ:=by
 rw [CJ (by intros;simp)]
 simp only [Aj]
 grind
@[go_sem] theorem Ap7 {off:Nat} {x:Ak}:Wo A (.fa off x) F σ Q↔∃ id o,Fr.ev F x = .p (some (id,o))/\Q (.p (some (id,o+off))) σ:=by
 rw [CJ (by intros;simp)]
 simp only [Aj]
 grind
def A9l (esz:Nat) (x i:AV):Option AV:=match x,i with
  | .sl (some (id,o)) len,.i _ n=>if 0<=n/\n < len then some (.p (some (id,o+n.toNat * esz))) else none
  | _,_=>none
@[go_sem] theorem Ap8 {esz:Nat} {x i:Ak}:Wo A (.ia esz x i) F σ Q↔∃ v,A9l esz (Fr.ev F x) (Fr.ev F i)=some v/\Q v σ:=by
 rw [CJ (by intros;simp)]
 have e:Aj (.ia esz x i) F σ=(match A9l esz (Fr.ev F x) (Fr.ev F i) with | some v=>some (v,σ) | none=>none):=by
  simp only [Aj,A9l]
  grind
 grind
@[go_sem] theorem Ams {len esz:Nat} {x i:Ak}:Wo A (.iaa len esz x i) F σ Q↔∃ id o,Fr.ev F x = .p (some (id,o))/\∃ k n,Fr.ev F i = .i k n/\(0<=n/\n < len)/\Q (.p (some (id,o+n.toNat * esz))) σ:=by
 rw [CJ (by intros;simp)]
 simp only [Aj]
 grind
@[go_sem] theorem Ap9 {x i:Ak}:Wo A (.ix x i) F σ Q↔∃ s,Fr.ev F x = .s s/\∃ k n,Fr.ev F i = .i k n/\0<=n/\∃ b,s.data.toList[n.toNat]? = some b/\Q (.i .u8 b.toNat) σ:=by
 rw [CJ (by intros;simp)]
 simp only [Aj]
 grind
@[go_sem] theorem Amr {x:Ak} {i:Nat}:Wo A (.ext x i) F σ Q↔∃ vs,Fr.ev F x = .tu vs/\∃ v,vs[i]? = some v/\Q v σ:=by
 rw [CJ (by intros;simp)]
 simp only [Aj]
 grind
@[go_sem] theorem Amt {x:Ak}:Wo A (.len false x) F σ Q↔∃ o n,Fr.ev F x = .sl o n/\Q (.i .i64 n) σ:=by
 rw [CJ (by intros;simp)]
 simp only [Aj]
 grind
@[go_sem] theorem Aks {x:Ak}:Wo A (.len true x) F σ Q↔∃ s,Fr.ev F x = .s s/\Q (.i .i64 s.size) σ:=by
 rw [CJ (by intros;simp)]
 simp only [Aj]
 grind
@[go_sem] theorem Amm {ty esz bytes:Nat} {x y:Ak}:Wo A (.app ty esz bytes x y) F σ Q↔∃ o n,Fr.ev F x = .sl o n/\∃ o' m,Fr.ev F y = .sl o' m/\∃ v σ',Na ty esz bytes o n o' m σ=some (v,σ')/\Q v σ':=by
 rw [CJ (by intros;simp)]
 simp only [Aj]
 grind
@[go_sem] theorem Amq {esz:Nat} {x y:Ak}:Wo A (.cpy esz x y) F σ Q↔∃ o n,Fr.ev F x = .sl o n/\∃ o' m,Fr.ev F y = .sl o' m/\∃ v σ',A6y esz o n o' m σ=some (v,σ')/\Q v σ':=by
 rw [CJ (by intros;simp)]
 simp only [Aj]
 grind
@[go_sem] theorem Amw {mx:Bool} {x y:Ak}:Wo A (.mnx mx x y) F σ Q↔∃ k a,Fr.ev F x = .i k a/\∃ c,Fr.ev F y = .i k c/\Q (.i k (Vw mx a c)) σ:=by
 rw [CJ (by intros;simp)]
 simp only [Aj]
 constructor
 .rintro ⟨v,σ',h,hq⟩
  split at h
  .rename_i k a k' c h1 h2
   split at h
   .grind
   .cases h
  .cases h
 grind
@[go_sem] theorem Aij {g:Nat} {a c:List AV} {args:List Ak}:Wo A (.call (.c (.f g a c)) args) F σ Q↔Wk A g (a++args.map (Fr.ev F)++c) σ Q:=A3r rfl
@[go_sem] theorem Aik {t:Nat} {args:List Ak}:Wo A (.call (.t t) args) F σ Q↔∃ g a c,Fr.tmp F t = .f g a c/\Wk A g (a++args.map (Fr.ev F)++c) σ Q:=by
 constructor
 .rintro ⟨n,v,σ',h,hq⟩
  simp only [AH] at h
  split at h
  .rename_i g a c h1;exact ⟨g,a,c,h1,n,v,σ',h,hq⟩
  .cases h
 .rintro ⟨g,a,c,h1,h2⟩
  exact (A3r (f:=.t t) h1).2 h2
@[go_sem] theorem Aeb:Ch F σ []=true:=rfl
mutual
theorem Yy:∀ v:AV,AV.eqb v v=true
 | .b x=>by simp [AV.eqb]
 | .i k n=>by simp [AV.eqb]
 | .s x=>by simp [AV.eqb]
 | .p o=>by simp [AV.eqb]
 | .sl o n=>by simp [AV.eqb]
 | .f g a c=>by simp [AV.eqb,Hi a,Hi c]
 | .nf=>rfl
 | .ag cs=>by simp [AV.eqb,Hi cs]
 | .tu cs=>by simp [AV.eqb,Hi cs]
theorem Hi:∀ l:List AV,AV.eqbL l l=true
 | []=>rfl
 | x::xs=>by simp [AV.eqbL,Yy x,Hi xs]
end
theorem A2S {d:Nat} {n:Option Nat} {a:Ak} {r:List Ap}:Ch F σ (⟨some d,none,.ld n a⟩::r)=true↔(∃ id off,Fr.ev F a = .p (some (id,off))/\σ.loadV n id off=some (Fr.tmp F d))/\Ch F σ r=true:=by
 simp only [Ch,wanted,cond_true,Bool.and_eq_true]
 refine and_congr ?_ Iff.rfl
 constructor
 .grind [SP,A0J]
 .rintro ⟨id,off,h1,h2⟩
  have he:Aj (.ld n a) F σ=some (Fr.tmp F d,σ):=SP.2 ⟨id,off,h1,h2,rfl⟩
  rw [he]
  exact Yy _
attribute [go_sem] A2S
@[go_sem] theorem Akz (x:Bool):(AV.b x).cells=[.b x]:=rfl
@[go_sem] theorem AkB (k:IntKind) (x:Int):(AV.i k x).cells=[.i k x]:=rfl
@[go_sem] theorem AkD (x:ByteArray):(AV.s x).cells=[.s x]:=rfl
@[go_sem] theorem AkC (x:Option (Nat×Nat)):(AV.p x).cells=[.p x]:=rfl
@[go_sem] theorem AiB (x:Option (Nat×Nat)) (n:Nat):(AV.sl x n).cells=[.sl x n]:=rfl
@[go_sem] theorem AkA (g:Nat) (a c:List AV):(AV.f g a c).cells=[.f g a c]:=rfl
@[go_sem] theorem AiA:AV.nf.cells=[.nf]:=rfl
@[go_sem] theorem Aiz (l:List AV):(AV.ag l).cells=l:=rfl
@[go_sem] theorem AmL (x:Bool):(AV.b x).cell=true:=rfl
@[go_sem] theorem AmN (k:IntKind) (x:Int):(AV.i k x).cell=true:=rfl
@[go_sem] theorem AmP (x:ByteArray):(AV.s x).cell=true:=rfl
@[go_sem] theorem AmO (x:Option (Nat×Nat)):(AV.p x).cell=true:=rfl
@[go_sem] theorem Aky (x:Option (Nat×Nat)) (n:Nat):(AV.sl x n).cell=true:=rfl
@[go_sem] theorem AmM (g:Nat) (a c:List AV):(AV.f g a c).cell=true:=rfl
@[go_sem] theorem Akx:AV.nf.cell=true:=rfl
@[go_sem] theorem Ae3 (cells:List AV):Bu F cells []=some cells:=rfl
@[go_sem] theorem AbW {cells:List AV} {off sz:Nat} {x:Ak} {r:List (Nat×Nat×Ak)} (h1:(Fr.ev F x).cells.length=sz) (h2:(Fr.ev F x).cells.all AV.cell=true) (h3:off+sz<=cells.length):Bu F cells ((off,sz,x)::r)=Bu F (Kk cells off (Fr.ev F x).cells) r:=by
 have h3':Nat.ble (off+sz) cells.length=true:=by rw [Nat.ble_eq];exact h3
 have h1':Nat.beq (Fr.ev F x).cells.length sz=true:=by rw [h1];exact Nat.beq_refl sz
 simp only [Bu,h1',h2,h3',Bool.and_self,cond_true]
theorem A6L (cells:List AV) (off:Nat) (xs:List AV):Kk cells off xs=cells.take off++xs++cells.drop (off+xs.length):=rfl
attribute [go_sem] A6L length_cons length_nil all_cons List.all_nil Bool.and_self Bool.and_true Bool.true_and List.take_succ_cons List.take_zero List.drop_succ_cons drop_zero List.take_nil List.drop_nil Nat.zero_add Nat.add_zero Nat.mul_one Nat.le_refl
@[go_sem] theorem Adq:C4 F σ []=some []:=rfl
@[go_sem] theorem Agp {a:Nat}:C4 F σ [.t a]=some [Fr.tmp F a]:=rfl
@[go_sem] theorem Agq {a b:Nat}:C4 F σ [.t a,.t b]=some [Fr.tmp F a,Fr.tmp F b]:=rfl
@[go_sem] theorem Agr {a b c:Nat}:C4 F σ [.t a,.t b,.t c]=some [Fr.tmp F a,Fr.tmp F b,Fr.tmp F c]:=rfl
@[go_sem] theorem Aob:Xr [] = .tu []:=rfl
@[go_sem] theorem Aoc (v:AV):Xr [v]=v:=rfl
@[go_sem] theorem Aod (v w:AV) (l:List AV):Xr (v::w::l) = .tu (v::w::l):=rfl
attribute [go_sem] decide_true decide_false Bool.not_true Bool.not_false cond_true cond_false not_true_eq_false not_false_eq_true if_true if_false false_and and_false exists_false imp_false
attribute [go_sem] AV.b.injEq AV.i.injEq AV.s.injEq AV.p.injEq AV.sl.injEq AV.f.injEq AV.ag.injEq AV.tu.injEq Option.some.injEq Prod.mk.injEq true_and and_true and_self exists_eq_left' exists_eq' exists_and_left and_assoc
 map_cons map_nil append_nil nil_append cons_append Option.map_some Option.map_none decide_eq_true_eq decide_eq_false_iff_not forall_const Bool.not_eq_true Bool.not_eq_false reduceCtorEq false_implies implies_true
end
theorem AR {x:Int} (h1 : -9223372036854775808<=x) (h2:x < 9223372036854775808):IntKind.i64.wrap x=x:=by
 grind [IntKind.wrap,IntKind.signed,IntKind.bits]
theorem Hu (x:Int):IntKind.u64.wrap x=x % 18446744073709551616:=by
 simp [IntKind.wrap,IntKind.signed,IntKind.bits]
section
variable {e:Option NP} {k:IntKind} {a c:Int}
@[go_sem] theorem Aiv:B2 .add e (.i k a) (.i k c)=some (.i k (k.wrap (a+c))):=by simp [B2,EQ]
@[go_sem] theorem Aix:B2 .sub e (.i k a) (.i k c)=some (.i k (k.wrap (a - c))):=by simp [B2,EQ]
@[go_sem] theorem Aiw:B2 .mul e (.i k a) (.i k c)=some (.i k (k.wrap (a * c))):=by simp [B2,EQ]
theorem A89 (h:c≠0):B2 .rem e (.i k a) (.i k c)=some (.i k (a.tmod c)):=by simp [B2,EQ,h]
@[go_sem] theorem Yi:B2 .eql e (.i k a) (.i k c)=some (.b (decide (a=c))):=by
 grind [B2,EQ]
@[go_sem] theorem Yj:B2 .neq e (.i k a) (.i k c)=some (.b (!decide (a=c))):=by
 grind [B2,EQ]
@[go_sem] theorem A88:B2 .lss e (.i k a) (.i k c)=some (.b (decide (a < c))):=by simp [B2,EQ]
@[go_sem] theorem A87:B2 .leq e (.i k a) (.i k c)=some (.b (decide (a<=c))):=by simp [B2,EQ]
@[go_sem] theorem A86:B2 .gtr e (.i k a) (.i k c)=some (.b (decide (c < a))):=by simp [B2,EQ]
@[go_sem] theorem A85:B2 .geq e (.i k a) (.i k c)=some (.b (decide (c<=a))):=by simp [B2,EQ]
end
@[go_sem] theorem Ahh (x y:Bool):B2 .eql (some .b) (.b x) (.b y)=some (.b (x == y)):=rfl
@[go_sem] theorem Ahi (x y:Bool):B2 .neq (some .b) (.b x) (.b y)=some (.b (!(x == y))):=rfl
theorem Yp {a b:ByteArray}:a.toList=b.toList↔a=b:=by
 have key:∀ a:ByteArray,a.toList=a.data.toList:=fun a=>by
  simp [ByteArray.toList_eq]
 constructor
 .intro h
  rw [key,key] at h
  cases a;cases b
  simp at h
  rw [h]
 .rintro rfl;rfl
@[go_sem] theorem A6t {e:Option NP} (x y:ByteArray):B2 .eql e (.s x) (.s y)=some (.b (decide (x=y))):=by
 grind [B2,A84,Yp]
@[go_sem] theorem A6u {e:Option NP} (x y:ByteArray):B2 .neq e (.s x) (.s y)=some (.b (!decide (x=y))):=by
 grind [B2,A84,Yp]
def Wd (w:BitVec 64):AV:=.i .u64 (w.toNat:Int)
theorem GR (w:BitVec 64):BitVec.ofInt 64 (w.toNat:Int)=w:=by
 grind
theorem A3j (w:BitVec 64):IntKind.u64.wrap (w.toNat:Int)=(w.toNat:Int):=by
 rw [Hu]
 have:=w.isLt
 omega
section
variable {e:Option NP} {a b:BitVec 64}
@[go_sem] theorem Aq2:AV.i .u64 0=Wd 0#64:=rfl
@[go_sem] theorem Aq3:AV.i .u64 1=Wd 1#64:=rfl
@[go_sem] theorem Yk:B2 .and e (Wd a) (Wd b)=some (Wd (a &&& b)):=by
 simp only [Wd,B2,EQ,if_true,IntKind.bits,GR,A3j]
 rfl
@[go_sem] theorem AbH:B2 .or e (Wd a) (Wd b)=some (Wd (a ||| b)):=by
 simp only [Wd,B2,EQ,if_true,IntKind.bits,GR,A3j]
 rfl
@[go_sem] theorem Yl:B2 .andNot e (Wd a) (Wd b)=some (Wd (a &&& ~~~b)):=by
 simp only [Wd,B2,EQ,if_true,IntKind.bits,GR,A3j]
 rfl
@[go_sem] theorem A8f:B2 .sub e (Wd a) (Wd b)=some (Wd (a - b)):=by
 simp only [Wd,B2,EQ,if_true,Hu,Option.some.injEq,AV.i.injEq,true_and]
 rw [BitVec.toNat_sub]
 have:=a.isLt;have:=b.isLt
 omega
@[go_sem] theorem A8a:B2 .add e (Wd a) (Wd b)=some (Wd (a+b)):=by
 simp only [Wd,B2,EQ,if_true,Hu,Option.some.injEq,AV.i.injEq,true_and]
 grind
@[go_sem] theorem A8b:B2 .eql e (Wd a) (Wd b)=some (.b (decide (a=b))):=by
 simp only [Wd,Yi,Int.natCast_inj,BitVec.toNat_inj]
@[go_sem] theorem A8c:B2 .neq e (Wd a) (Wd b)=some (.b (!decide (a=b))):=by
 simp only [Wd,Yj,Int.natCast_inj,BitVec.toNat_inj]
theorem A8d {n:Nat} (h:n < 64):B2 .shl e (Wd a) (.i .i64 n)=some (Wd (a <<< n)):=by
 have h0:¬ ((n:Int) < 0):=by omega
 simp only [Wd,B2,Ge,if_neg h0,IntKind.bits,Hu,Option.some.injEq,AV.i.injEq,true_and,Int.toNat_natCast]
 grind [Nat.shiftLeft_eq]
theorem A8e {n:Nat} (h:n < 64):B2 .shr e (Wd a) (.i .i64 n)=some (Wd (a >>> n)):=by
 have h0:¬ ((n:Int) < 0):=by omega
 simp only [Wd,B2,Ge,if_neg h0,IntKind.bits,Option.some.injEq,AV.i.injEq,true_and,Int.toNat_natCast]
 grind [Nat.shiftRight_eq_div_pow]
end
@[go_sem] theorem AV.cell_Wd (w:BitVec 64):(Wd w).cell=true:=rfl
@[go_sem] theorem AV.cells_Wd (w:BitVec 64):(Wd w).cells=[Wd w]:=rfl
end Go.AM
namespace Go.AM
open Go
class Rdr (α:Type) where
 size:Nat
 rd:St->List AV->Option α
 len:∀ {σ:St} {cs:List AV} {x:α},rd σ cs=some x->cs.length=size
 ext:∀ {σ σ':St} {cs:List AV} {x:α},De σ σ'->rd σ cs=some x->rd σ' cs=some x
 cell:∀ {σ:St} {cs:List AV} {x:α},rd σ cs=some x->cs.all AV.cell=true
def A5L (cs:List AV):Option Int:=match cs with
 | [.i .i64 n]=>some n
 | _=>none
theorem Qi {cs:List AV} {n:Int}:A5L cs=some n↔cs=[.i .i64 n]:=by
 constructor
 .intro h
  unfold A5L at h
  grind
 .rintro rfl;rfl
instance : Rdr Int where
 size:=1
 rd _ cs:=A5L cs
 len h:=by rw [Qi.1 h];rfl
 ext _ h:=h
 cell h:=by rw [Qi.1 h];rfl
def Xt (cs:List AV):Option Bool:=match cs with
 | [.b n]=>some n
 | _=>none
theorem Mr {cs:List AV} {n:Bool}:Xt cs=some n↔cs=[.b n]:=by
 constructor
 .intro h
  unfold Xt at h
  grind
 .rintro rfl;rfl
instance : Rdr Bool where
 size:=1
 rd _ cs:=Xt cs
 len h:=by rw [Mr.1 h];rfl
 ext _ h:=h
 cell h:=by rw [Mr.1 h];rfl
def Qk (cs:List AV):Option (BitVec 64):=match cs with
 | [.i .u64 n]=>if 0<=n/\n < 18446744073709551616 then some (BitVec.ofInt 64 n) else none
 | _=>none
theorem Ms {cs:List AV} {n:BitVec 64}:Qk cs=some n↔cs=[Wd n]:=by
 constructor
 .intro h
  unfold Qk at h
  split at h
  .split at h
   .rename_i n hn
    cases h
    simp only [Wd,List.cons.injEq,and_true,AV.i.injEq,true_and]
    obtain ⟨m,rfl⟩:=Int.eq_ofNat_of_zero_le hn.1
    grind
   .cases h
  .cases h
 .rintro rfl
  have:=n.isLt
  simp only [Qk,Wd]
  rw [if_pos (by omega),GR]
instance : Rdr (BitVec 64) where
 size:=1
 rd _ cs:=Qk cs
 len h:=by rw [Ms.1 h];rfl
 ext _ h:=h
 cell h:=by rw [Ms.1 h];rfl
def A5M (cs:List AV):Option ByteArray:=match cs with
 | [.s n]=>some n
 | _=>none
theorem Qj {cs:List AV} {n:ByteArray}:A5M cs=some n↔cs=[.s n]:=by
 constructor
 .intro h
  unfold A5M at h
  grind
 .rintro rfl;rfl
instance : Rdr ByteArray where
 size:=1
 rd _ cs:=A5M cs
 len h:=by rw [Qj.1 h];rfl
 ext _ h:=h
 cell h:=by rw [Qj.1 h];rfl
structure U8 where
 n:Nat
def Adp (cs:List AV):Option U8:=match cs with
 | [.i .u8 n]=>if 0<=n/\n < 256 then some ⟨n.toNat⟩ else none
 | _=>none
theorem A5N {cs:List AV} {n:U8}:Adp cs=some n↔cs=[.i .u8 (n.n:Int)]/\n.n < 256:=by
 constructor
 .intro h
  unfold Adp at h
  grind
 .rintro ⟨rfl,h⟩
  simp only [Adp]
  rw [if_pos (by omega)]
  rfl
instance : Rdr U8 where
 size:=1
 rd _ cs:=Adp cs
 len h:=by rw [(A5N.1 h).1];rfl
 ext _ h:=h
 cell h:=by rw [(A5N.1 h).1];rfl
section
variable {α:Type} [Rdr α]
def Hn (σ:St):Nat->List AV->Option (List α)
 | 0,cs=>if cs.length=0 then some [] else none
 | n+1,cs=>match Rdr.rd σ (cs.take (Rdr.size α)),Hn σ n (cs.drop (Rdr.size α)) with
  | some x,some xs=>some (x::xs)
  | _,_=>none
theorem Mq {σ:St}:∀ {n:Nat} {cs:List AV} {xs:List α},Hn σ n cs=some xs->xs.length=n/\cs.length=n * Rdr.size α:=by
 intro n
 induction n with
 | zero =>
  intro cs xs h
  simp only [Hn] at h
  grind
 | succ n ih =>
  grind [Hn,Rdr.len,List.length_take]
theorem A7b {σ σ':St} (he:De σ σ'):∀ {n:Nat} {cs:List AV} {xs:List α},Hn σ n cs=some xs->Hn σ' n cs=some xs:=by
 intro n
 induction n with
 | zero=>intro cs xs h;exact h
 | succ n ih =>
  grind [Hn,Rdr.ext]
theorem Aai {σ:St}:∀ {n:Nat} {cs:List AV} {xs:List α},Hn σ n cs=some xs->∀ (i:Nat) (h:i < xs.length),Rdr.rd σ ((cs.drop (i * Rdr.size α)).take (Rdr.size α))=some xs[i]:=by
 intro n
 induction n with
 | zero =>
  grind [Hn]
 | succ n ih =>
  intro cs xs h i hi
  simp only [Hn] at h
  split at h
  .rename_i x ys h1 h2
   cases h
   cases i with
   | zero=>simpa using h1
   | succ i =>
    have:=ih h2 i (by simpa using hi)
    grind [List.drop_drop]
  .cases h
def A7c (σ:St) (cs:List AV):Option (List α):=match cs with
 | [.sl o n]=>(EZ (Rdr.size α) o n σ).bind (Hn σ n)
 | _=>none
theorem GT {σ:St} {cs:List AV} {xs:List α}:A7c σ cs=some xs↔∃ o ys,cs=[.sl o xs.length]/\EZ (Rdr.size α) o xs.length σ=some ys/\Hn σ xs.length ys=some xs:=by
 constructor
 .intro h
  unfold A7c at h
  split at h
  .rename_i o n
   obtain ⟨ys,h1,h2⟩:=Option.bind_eq_some_iff.1 h
   obtain ⟨h3,_⟩:=Mq h2
   grind
  .cases h
 .rintro ⟨o,ys,rfl,h1,h2⟩
  grind [A7c]
theorem Aat {σ σ':St} (he:De σ σ') {esz:Nat} {o:Option (Nat×Nat)} {n:Nat} {ys:List AV} (h:EZ esz o n σ=some ys):EZ esz o n σ' = some ys:=by
 unfold EZ at h ⊢
 cases o with
 | none=>exact h
 | some x=>exact he.loadN h
instance : Rdr (List α) where
 size:=1
 rd σ cs:=A7c σ cs
 len h:=by obtain ⟨o,ys,rfl,_⟩:=GT.1 h;rfl
 ext he h:=by
  obtain ⟨o,ys,rfl,h1,h2⟩:=GT.1 h
  exact GT.2 ⟨o,ys,rfl,Aat he h1,A7b he h2⟩
 cell h:=by obtain ⟨o,ys,rfl,_⟩:=GT.1 h;rfl
def Rd (σ:St) (v:AV) (x:α):Prop:=Rdr.rd σ [v]=some x
theorem Rd.ext {σ σ':St} {v:AV} {x:α} (h:Rd σ v x) (he:De σ σ'):Rd σ' v x:=Rdr.ext he h
theorem Rd.sl {σ:St} {v:AV} {xs:List α} (h:Rd σ v xs):∃ o,v = .sl o xs.length:=by
 obtain ⟨o,ys,h1,_⟩:=GT.1 h
 grind
theorem Rd.nil {σ:St}:Rd σ (.sl none 0) ([]:List α):=GT.2 ⟨none,[],rfl,rfl,rfl⟩
theorem Rd.at {σ:St} {v:AV} {xs:List α} (h:Rd σ v xs) (hs:0 < Rdr.size α) {i:Nat} (hi:i < xs.length) {k:IntKind} :
  ∃ id off cs,A9l (Rdr.size α) v (.i k i)=some (.p (some (id,off)))/\σ.loadN id off (Rdr.size α)=some cs/\Rdr.rd σ cs=some xs[i]:=by
 obtain ⟨o,ys,h1,h2,h3⟩:=GT.1 h
 simp only [List.cons.injEq,and_true] at h1
 subst h1
 have h4:=Aai h3 i hi
 obtain ⟨_,h5⟩:=Mq h3
 unfold EZ at h2
 cases o with
 | none =>
  grind [Nat.eq_of_beq_eq_true]
 | some x =>
  obtain ⟨id,off⟩:=x
  simp only at h2
  obtain ⟨h6,h7⟩:=Z4 h2
  refine ⟨id,off+i * Rdr.size α,_,?_,?_,h4⟩
  .simp_all [A9l]
  .have hle:i * Rdr.size α+Rdr.size α<=xs.length * Rdr.size α:=by
    rw [<- Nat.succ_mul]
    exact Nat.mul_le_mul_right _ hi
   grind [Hl]
end
theorem Rd.int {σ:St} {v:AV} {x:Int}:Rd σ v x↔v = .i .i64 x:=by
 show A5L [v]=some x↔_
 rw [Qi]
 simp
theorem Rd.word {σ:St} {v:AV} {x:BitVec 64}:Rd σ v x↔v=Wd x:=by
 show Qk [v]=some x↔_
 rw [Ms]
 simp
theorem Rd.bool {σ:St} {v:AV} {x:Bool}:Rd σ v x↔v = .b x:=by
 show Xt [v]=some x↔_
 rw [Mr]
 simp
theorem Rd.str {σ:St} {v:AV} {x:ByteArray}:Rd σ v x↔v = .s x:=by
 show A5M [v]=some x↔_
 rw [Qj]
 simp
def CT (σ:St) (id ty esz len:Nat) (cells:List AV):Prop :=
 ∃ cs,σ.get id=some { ty:=ty,rw:=true,esz:=esz,len:=len,cs:=cs }/\cells.length=len/\∀ j,j < len->cs.get j=cells[j]?
theorem CT.ext {σ σ':St} {id ty esz len:Nat} {cells:List AV} (h:CT σ id ty esz len cells) (he:De σ σ'):CT σ' id ty esz len cells:=by
 obtain ⟨cs,h1,h2⟩:=h
 exact ⟨cs,he.keep _ _ h1,h2⟩
theorem CT.of_get {σ σ':St} {id ty esz len:Nat} {cells:List AV} (h:CT σ id ty esz len cells) (he:σ'.get id=σ.get id):CT σ' id ty esz len cells:=by
 obtain ⟨cs,h1,h2⟩:=h
 exact ⟨cs,he.trans h1,h2⟩
theorem CT.load {σ:St} {id ty esz len:Nat} {cells:List AV} (h:CT σ id ty esz len cells) {j:Nat} (hj:j < len):σ.load1 id j=cells[j]?:=by
 obtain ⟨cs,h1,h2,h3⟩:=h
 unfold St.load1
 rw [h1]
 have:Nat.blt j len=true:=by simpa [Nat.blt_eq] using hj
 grind
theorem CT.new {σ:St} {ty esz len:Nat} {cells:List AV} (hl:cells.length=len):CT (σ.new { ty:=ty,rw:=true,esz:=esz,len:=len,cs:=Tm.ofList cells }) σ.next ty esz len cells :=
 ⟨_,by rw [Bb,if_pos rfl],hl,fun j hj=>Tm.get_ofList cells j⟩
theorem CT.lt {σ:St} {id ty esz len:Nat} {cells:List AV} (h:CT σ id ty esz len cells) (hn:H5 σ):id < σ.next:=by
 obtain ⟨cs,h1,_⟩:=h
 rcases Nat.lt_or_ge id σ.next with h2 | h2
 .exact h2
 .rw [hn _ h2] at h1;cases h1
theorem CT.store {σ:St} {id ty esz len:Nat} {cells:List AV} (h:CT σ id ty esz len cells):∀ {vs:List AV} {off:Nat},off+vs.length<=len->vs.all AV.cell=true ->
  ∃ σ',σ.storeN id off vs=some σ'/\CT σ' id ty esz len (cells.take off++vs++cells.drop (off+vs.length))/\σ'.next=σ.next/\∀ j,j≠id->σ'.get j=σ.get j:=by
 intro vs
 induction vs generalizing σ cells with
 | nil =>
  intro off ho _
  refine ⟨σ,rfl,?_,rfl,fun _ _=>rfl⟩
  simpa using h
 | cons v vs ih =>
  intro off ho hc
  simp only [length_cons] at ho
  simp only [all_cons,Bool.and_eq_true] at hc
  obtain ⟨cs,h1,h2,h3⟩:=h
  have hb:Nat.blt off len=true:=by simp [Nat.blt_eq];omega
  have e1:σ.store1 id off v=some (σ.put id { ty:=ty,rw:=true,esz:=esz,len:=len,cs:=cs.set off v }):=by
   unfold St.store1
   grind
  have o1:CT (σ.put id { ty:=ty,rw:=true,esz:=esz,len:=len,cs:=cs.set off v }) id ty esz len (cells.set off v):=by
   refine ⟨_,by rw [JV,if_pos rfl],by rw [List.length_set];exact h2,fun j hj=>?_⟩
   rw [Tm.get_set,List.getElem?_set]
   grind
  obtain ⟨σ',g1,g2,g3,g4⟩:=ih o1 (off:=off+1) (by omega) hc.2
  refine ⟨σ',?_,?_,g3,fun j hj=>?_⟩
  .grind [St.storeN]
  .have e2:(cells.set off v).take (off+1)++vs++(cells.set off v).drop (off+1+vs.length)=cells.take off++(v::vs)++cells.drop (off+(v::vs).length):=by
    rw [List.take_add_one,List.getElem?_set,if_pos rfl,if_pos (by omega),List.take_set_of_le (by omega),List.drop_set_of_lt (by omega)]
    grind
   rw [e2] at g2
   exact g2
  .rw [g4 j hj,JV,if_neg hj]
def E9 (σ0 σ:St) (v:AV) (ty esz n:Nat) (cells:List AV):Prop :=
 (v = .sl none 0/\n=0/\cells=[])\/∃ id,v = .sl (some (id,0)) n/\σ0.get id=none/\CT σ id ty esz (n * esz) cells
theorem E9.ext {σ0 σ σ':St} {v:AV} {ty esz n:Nat} {cells:List AV} (h:E9 σ0 σ v ty esz n cells) (he:De σ σ'):E9 σ0 σ' v ty esz n cells:=by
 rcases h with h | ⟨id,h1,h2,h3⟩
 .exact .inl h
 .exact .inr ⟨id,h1,h2,h3.ext he⟩
theorem E9.nil {σ0 σ:St} {ty esz:Nat}:E9 σ0 σ (.sl none 0) ty esz 0 []:=.inl ⟨rfl,rfl,rfl⟩
theorem E9.sl {σ0 σ:St} {v:AV} {ty esz n:Nat} {cells:List AV} (h:E9 σ0 σ v ty esz n cells):∃ o,v = .sl o n:=by
 rcases h with ⟨rfl,rfl,_⟩ | ⟨id,h1,_⟩
 .exact ⟨none,rfl⟩
 .exact ⟨_,h1⟩
theorem E9.len {σ0 σ:St} {v:AV} {ty esz n:Nat} {cells:List AV} (h:E9 σ0 σ v ty esz n cells):cells.length=n * esz:=by
 rcases h with ⟨rfl,rfl,rfl⟩ | ⟨id,_,_,h1⟩
 .simp
 .obtain ⟨cs,_,h2,_⟩:=h1;exact h2
theorem E9.src {σ0 σ:St} {o:Option (Nat×Nat)} {ty esz n:Nat} {cells:List AV} (h:E9 σ0 σ (.sl o n) ty esz n cells):EZ esz o n σ=some cells:=by
 rcases h with ⟨h1,rfl,rfl⟩ | ⟨id,h1,_,h2⟩
 .cases h1;rfl
 .cases h1
  have h4:cells.length=n * esz:=by obtain ⟨cs,_,h4,_⟩:=h2;exact h4
  exact Hl h4 fun j hj=>by rw [Nat.zero_add];exact h2.load hj
theorem E9.rd {α:Type} [Rdr α] {σ0 σ:St} {v:AV} {ty n:Nat} {cells:List AV} {xs:List α} (h:E9 σ0 σ v ty (Rdr.size α) n cells) (hx:Hn σ n cells=some xs):Rd σ v xs:=by
 obtain ⟨o,rfl⟩:=h.sl
 obtain ⟨h1,_⟩:=Mq hx
 subst h1
 exact GT.2 ⟨o,cells,rfl,h.src,hx⟩
theorem CT.loadV {σ:St} {id ty esz len:Nat} {cells:List AV} (h:CT σ id ty esz len cells) {j:Nat} (hj:j < len) {c:AV} (hc:cells[j]? = some c):σ.loadV none id j=some c:=(h.load hj).trans hc
theorem De.upd {a b c:St} (h:De a b) {id:Nat} (hid:a.get id=none) (hn:id < b.next) (hx:c.next=b.next) (hg:∀ j,j≠id->c.get j=b.get j):De a c:=by
 refine ⟨by rw [hx];exact h.nx,fun j o x=>?_,fun j hj=>?_⟩
 .have:j≠id:=by rintro rfl;rw [hid] at x;cases x
  rw [hg j this]
  exact h.keep _ _ x
 .rw [hx] at hj
  rw [hg j (by omega)]
  exact h.nd _ hj
theorem E9.upd {σ0 σ σ':St} {v:AV} {ty esz n r:Nat} {cells:List AV} (h:E9 σ0 σ v ty esz n cells) (hne:∀ off n,v≠.sl (some (r,off)) n) (hg:∀ j,j≠r->σ'.get j=σ.get j):E9 σ0 σ' v ty esz n cells:=by
 rcases h with h | ⟨id,h1,h2,h3⟩
 .exact .inl h
 .exact .inr ⟨id,h1,h2,h3.of_get (hg id (by rintro rfl;exact hne _ _ h1))⟩
@[go_sem] theorem Ahq {σ:St} {ty esz len j:Nat} {rw:Bool} {cells:List AV}:(σ.new { ty:=ty,rw:=rw,esz:=esz,len:=len,cs:=Tm.ofList cells }).loadV none σ.next j=if j < len then cells[j]? else none:=by
 show St.load1 _ _ _=_
 unfold St.load1
 rw [Bb,if_pos rfl]
 by_cases h:j < len
 .have:Nat.blt j len=true:=by simpa [Nat.blt_eq] using h
  simp only [this,cond_true,if_pos h,Tm.get_ofList]
 .have:Nat.blt j len=false:=by
   grind [Nat.blt_eq]
  simp only [this,cond_false,if_neg h]
theorem CT.loadAll {σ:St} {id ty esz len:Nat} {cells:List AV} (h:CT σ id ty esz len cells) {off n:Nat} (hn:off+n<=len):σ.loadV (some n) id off=some (.ag ((cells.drop off).take n)):=by
 have hl:cells.length=len:=by obtain ⟨cs,_,h4,_⟩:=h;exact h4
 have:σ.loadN id off n=some ((cells.drop off).take n):=by
  refine Hl (by grind) fun j hj=>?_
  rw [h.load (by omega),List.getElem?_take_of_lt hj,List.getElem?_drop]
 unfold St.loadV
 simp only [this]
@[go_sem] theorem Ag0 {σ:St} {ty esz len n:Nat} {cells:List AV} (h1:cells.length=len) (h2:n=len):(σ.new { ty:=ty,rw:=true,esz:=esz,len:=len,cs:=Tm.ofList cells }).loadV (some n) σ.next 0=some (.ag cells):=by
 have h:CT (σ.new { ty:=ty,rw:=true,esz:=esz,len:=len,cs:=Tm.ofList cells }) σ.next ty esz len cells:=CT.new h1
 subst h2
 rw [h.loadAll (by omega),drop_zero,List.take_of_length_le (by omega)]
theorem E9.new {σ:St} (hn:H5 σ) {ty esz n:Nat} {cells:List AV} (hl:cells.length=n * esz):E9 σ (σ.new { ty:=ty,rw:=true,esz:=esz,len:=n * esz,cs:=Tm.ofList cells }) (.sl (some (σ.next,0)) n) ty esz n cells :=
 .inr ⟨σ.next,rfl,hn _ (Nat.le_refl _),CT.new hl⟩
theorem E9.base {σ0 σ1 σ:St} {v:AV} {ty esz n:Nat} {cells:List AV} (h:E9 σ1 σ v ty esz n cells) (he:De σ0 σ1):E9 σ0 σ v ty esz n cells:=by
 rcases h with h | ⟨id,e1,e2,e3⟩
 .exact .inl h
 .refine .inr ⟨id,e1,?_,e3⟩
  cases hg:σ0.get id with
  | none=>rfl
  | some ob=>rw [he.keep _ _ hg] at e2;cases e2
end Go.AM
namespace Go.AM
open Go Go.Proofs
def Cl (i:Int):BitVec 64:=if 0<=i/\i < 64 then 1#64 <<< i.toNat else 0#64
def Bw (s:BitVec 64):List Nat:=(List.range 64).filter fun i=>s.getLsbD i
theorem Ta {p q:Nat->Bool} {k:Nat} (h1:p k=true) (h2:∀ j,j < k->p j=false) (h3:∀ j,q j=(p j && j != k)):∀ n,(List.range n).filter p=if k < n then k::(List.range n).filter q else []:=by
 intro n
 induction n with
 | zero=>simp
 | succ n ih =>
  rw [List.range_succ,List.filter_append,List.filter_append,ih]
  rcases Nat.lt_trichotomy k n with h | h | h
  .grind
  .simp_all
  grind
theorem A9w (s:BitVec 64) (h:s≠0#64):s.getLsbD (Lib.ctz 64 s.toNat)=true/\(∀ j,j < Lib.ctz 64 s.toNat->s.getLsbD j=false)/\(∀ j,(s &&& (s - 1#64)).getLsbD j=(s.getLsbD j && j != Lib.ctz 64 s.toNat))/\Lib.ctz 64 s.toNat < 64:=by
 have h0:s.toNat≠0:=fun e=>h (BitVec.eq_of_toNat_eq (by simpa using e))
 have hc:Lib.ctz 64 s.toNat=Lib.ctzFrom 64 s.toNat:=by simp [Lib.ctz,h0]
 obtain ⟨m,hm,hk⟩:=Lib.ctzFrom_spec 64 s.toNat (by omega) s.isLt
 rw [hc]
 generalize Lib.ctzFrom 64 s.toNat=k at hm hk
 have hb:∀ j,s.getLsbD j=(decide (j ≥ k) && (2 * m+1).testBit (j - k)):=by
  intro j
  show s.toNat.testBit j=_
  rw [hm,Nat.testBit_two_pow_mul]
 have hp:0 < 2 ^ k:=Nat.two_pow_pos k
 have hs1:(s - 1#64).toNat=2 ^ k * (2 * m)+(2 ^ k - 1):=by
  have h1:(s - 1#64).toNat=s.toNat - 1:=by
   rw [BitVec.toNat_sub]
   have:=s.isLt
   simp
   omega
  grind
 have hb1:∀ j,(s - 1#64).getLsbD j=if j < k then (2 ^ k - 1).testBit j else (2 * m).testBit (j - k):=by
  intro j
  show (s - 1#64).toNat.testBit j=_
  rw [hs1,Nat.testBit_two_pow_mul_add _ (by omega)]
 refine ⟨?_,?_,?_,hk⟩
 .rw [hb];simp
 .grind
 .intro j
  rw [BitVec.getLsbD_and,hb1,hb]
  rcases Nat.lt_trichotomy j k with h | h | h
  .grind
  .subst h;simp
  .obtain ⟨d,rfl⟩:∃ d,j=k+(d+1):=⟨j - k - 1,by omega⟩
   have h1:¬ k+(d+1) < k:=by omega
   have h2:k+(d+1) ≥ k:=by omega
   have h3:k+(d+1) - k=d+1:=by omega
   grind
theorem A2t {s:BitVec 64} (h:s≠0#64):Bw s=Lib.ctz 64 s.toNat::Bw (s &&& (s - 1#64)):=by
 obtain ⟨h1,h2,h3,h4⟩:=A9w s h
 have:=Ta (p:=fun j=>s.getLsbD j) (q:=fun j=>(s &&& (s - 1#64)).getLsbD j) h1 h2 h3 64
 rw [if_pos h4] at this
 exact this
theorem A2u:Bw 0#64=[]:=by simp [Bw]
theorem YZ {s:BitVec 64} {i:Nat} (h:i∈Bw s):i < 64/\s.getLsbD i=true:=by
 simpa [Bw] using h
theorem K1 {s:BitVec 64} {i:Nat}:i∈Bw s↔s.getLsbD i=true:=by
 grind [Bw]
theorem C3 (i:Int) (j:Nat):(Cl i).getLsbD j=decide ((j:Int)=i/\j < 64):=by
 unfold Cl
 grind
theorem MG (s:BitVec 64) (i:Int):(s &&& Cl i=0#64)↔¬ (0<=i/\s.getLsbD i.toNat=true):=by
 constructor
 .rintro h ⟨h0,h1⟩
  have:=congrArg (fun x=>x.getLsbD i.toNat) h
  simp only [BitVec.getLsbD_and,h1,Bool.true_and,C3] at this
  grind
 .intro h
  apply BitVec.eq_of_getLsbD_eq
  grind [C3]
def BG (s:BitVec 64) (i:Int):Bool:=decide (0<=i) && s.getLsbD i.toNat
theorem Ac3 (s:BitVec 64) (i:Int):(!decide (s &&& Cl i=0#64))=BG s i:=by
 have h:=MG s i
 unfold BG
 grind
theorem Au (s:BitVec 64) (i:Nat):BG s (i:Int)=s.getLsbD i:=by simp [BG]
def BO (p:Nat->Bool):BitVec 64:=(List.range 64).foldl (fun s i=>if p i then s ||| Cl i else s) 0#64
theorem Aw (p:Nat->Bool) (j:Nat):(BO p).getLsbD j=(p j && decide (j < 64)):=by
 have key:∀ n,n<=64->((List.range n).foldl (fun s i=>if p i then s ||| Cl i else s) 0#64).getLsbD j=(p j && decide (j < n)):=by
  intro n
  induction n with
  | zero=>intro _;simp
  | succ n ih =>
   grind [List.range_succ,C3]
 exact key 64 (Nat.le_refl _)
theorem B4 {a b:BitVec 64} (h:∀ j,j < 64->a.getLsbD j=b.getLsbD j):a=b:=BitVec.eq_of_getLsbD_eq fun j hj=>h j hj
theorem Qv (p:Nat->Bool) (k:Nat) (hk:k < 64):BO p ||| Cl k=BO (fun j=>p j || decide (j=k)):=by
 apply B4
 grind [Aw,C3]
theorem Cf {p q:Nat->Bool} (h:∀ j,j < 64->p j=q j):BO p=BO q:=by
 apply B4
 grind [Aw]
theorem Ho:BO (fun _=>false)=0#64:=by
 apply B4
 intro j hj
 rw [Aw]
 simp
end Go.AM
namespace Go.AM
open Go
structure Az where
 thread:Int
 up:Int
 kind:Int
 loc:Int
 mode:Int
 val:Int
 rmw:Bool
 fin:Bool
 regs:List Int
 deriving DecidableEq
structure A1 where
 vals:Int
 locs:List ByteArray
 regs:List (List ByteArray)
 nodes:List Az
structure A8 where
 has:List Int
 jf:List Int
 mo:List (List (List Int))
 deriving DecidableEq
structure AT where
 has:List Int
 rf:List Int
 mo:List (List Int)
 deriving DecidableEq
def Ml (n:Az) (rv:AV):List AV:=[.i .i64 n.thread,.i .i64 n.up,.i .i64 n.kind,.i .i64 n.loc,.i .i64 n.mode,.i .i64 n.val,.b n.rmw,.b n.fin,rv]
def Xu (σ:St) (cs:List AV):Option Az:=match cs with
 | [.i .i64 a,.i .i64 b,.i .i64 c,.i .i64 d,.i .i64 e,.i .i64 f,.b g,.b h,rv]=>match A7c σ [rv] with
  | some rs=>some ⟨a,b,c,d,e,f,g,h,rs⟩
  | none=>none
 | _=>none
theorem K6 {σ:St} {cs:List AV} {n:Az}:Xu σ cs=some n↔∃ rv,cs=Ml n rv/\Rd σ rv n.regs:=by
 constructor
 .intro h
  unfold Xu at h
  split at h
  .rename_i a b c d e f g k rv
   split at h
   .rename_i rs hrs
    cases h
    exact ⟨rv,rfl,hrs⟩
   .cases h
  .cases h
 .rintro ⟨rv,rfl,h⟩
  have h':A7c σ [rv]=some n.regs:=h
  simp only [Xu,Ml,h']
theorem Rd.cell {α:Type} [Rdr α] {σ:St} {v:AV} {x:α} (h:Rd σ v x):v.cell=true:=by
 have:=Rdr.cell h
 simpa using this
instance : Rdr Az where
 size:=9
 rd σ cs:=Xu σ cs
 len h:=by obtain ⟨rv,rfl,_⟩:=K6.1 h;rfl
 ext he h:=by
  obtain ⟨rv,rfl,h1⟩:=K6.1 h
  exact K6.2 ⟨rv,rfl,h1.ext he⟩
 cell h:=by
  obtain ⟨rv,rfl,h1⟩:=K6.1 h
  have:=h1.cell
  simp only [Ml,all_cons,List.all_nil,this]
  rfl
def A7s (t:A1) (a b c:AV):List AV:=[.i .i64 t.vals,a,b,c]
def RdT (σ:St) (v:AV) (t:A1):Prop:=∃ a b c,v = .ag (A7s t a b c)/\Rd σ a t.locs/\Rd σ b t.regs/\Rd σ c t.nodes
theorem RdT.ext {σ σ':St} {v:AV} {t:A1} (h:RdT σ v t) (he:De σ σ'):RdT σ' v t:=by
 obtain ⟨a,b,c,h1,h2,h3,h4⟩:=h
 exact ⟨a,b,c,h1,h2.ext he,h3.ext he,h4.ext he⟩
def RdS (σ:St) (v:AV) (s:A8):Prop:=∃ a b c,v = .ag [a,b,c]/\Rd σ a s.has/\Rd σ b s.jf/\Rd σ c s.mo
theorem RdS.ext {σ σ':St} {v:AV} {t:A8} (h:RdS σ v t) (he:De σ σ'):RdS σ' v t:=by
 obtain ⟨a,b,c,h1,h2,h3,h4⟩:=h
 exact ⟨a,b,c,h1,h2.ext he,h3.ext he,h4.ext he⟩
def RdE (σ:St) (v:AV) (s:AT):Prop:=∃ a b c,v = .ag [a,b,c]/\Rd σ a s.has/\Rd σ b s.rf/\Rd σ c s.mo
theorem RdE.ext {σ σ':St} {v:AV} {t:AT} (h:RdE σ v t) (he:De σ σ'):RdE σ' v t:=by
 obtain ⟨a,b,c,h1,h2,h3,h4⟩:=h
 exact ⟨a,b,c,h1,h2.ext he,h3.ext he,h4.ext he⟩
theorem Rd.cells {α:Type} [Rdr α] {σ:St} {v:AV} {x:List α} (h:Rd σ v x):v.cells=[v]:=by
 obtain ⟨o,rfl⟩:=h.sl
 rfl
def enc:List Nat->Nat
 | []=>0
 | b::r=>b+256 * enc r
theorem Gj (a b c d:Nat) (ha:a < 256) (hc:c < 256):(a+256 * b) &&& (c+256 * d)=(a &&& c)+256 * (b &&& d):=by
 have hac:a &&& c < 2 ^ 8:=Nat.and_lt_two_pow _ (by omega)
 apply Nat.eq_of_testBit_eq
 intro j
 rw [Nat.testBit_and]
 rw [show a+256 * b=2 ^ 8 * b+a by omega,show c+256 * d=2 ^ 8 * d+c by omega,show (a &&& c)+256 * (b &&& d)=2 ^ 8 * (b &&& d)+(a &&& c) by omega]
 rw [Nat.testBit_two_pow_mul_add _ (by omega),Nat.testBit_two_pow_mul_add _ (by omega),Nat.testBit_two_pow_mul_add _ hac]
 split<;>rw [Nat.testBit_and]
def f1 (b:Nat):Nat:=(b / 2 &&& 85)+(b &&& 85)
def f2 (b:Nat):Nat:=(b / 4 &&& 51)+(b &&& 51)
def f3 (b:Nat):Nat:=b / 16+b % 16
def pc8 (b:Nat):Nat:=((List.range 8).filter fun i=>b.testBit i).length
theorem k1:∀ b:Fin 256,∀ t:Fin 2,(b.val / 2+128 * t.val) &&& 85=b.val / 2 &&& 85:=by decide +kernel
theorem k2:∀ b:Fin 256,∀ t:Fin 4,(b.val / 4+64 * t.val) &&& 51=b.val / 4 &&& 51:=by decide +kernel
theorem k3:∀ b:Fin 256,∀ t:Fin 5,b.val % 16<=4->b.val / 16<=4->(b.val / 16+16 * t.val+b.val) &&& 15=f3 b.val:=by decide +kernel
theorem k4:∀ b:Fin 256,f1 b.val < 256/\f2 (f1 b.val) < 256/\f2 (f1 b.val) % 16<=4/\f2 (f1 b.val) / 16<=4/\f3 (f2 (f1 b.val))=pc8 b.val/\pc8 b.val<=8:=by decide +kernel
theorem AiH:∀ bs:List Nat,(∀ b∈bs,b < 256)->(enc bs / 2 &&& enc (List.replicate bs.length 85))+(enc bs &&& enc (List.replicate bs.length 85))=enc (bs.map f1)
 | [],_=>by simp [enc]
 | b::r,h=>by
  have hb:=h b (by simp)
  have ih:=AiH r fun x hx=>h x (by simp [hx])
  simp only [length_cons,List.replicate_succ,enc,map_cons]
  generalize enc r=R at *
  generalize enc (List.replicate r.length 85)=M at *
  have e1:(b+256 * R) / 2=(b / 2+128 * (R % 2))+256 * (R / 2):=by omega
  have e2:=k1 ⟨b,hb⟩ ⟨R % 2,by omega⟩
  simp only at e2
  rw [e1,Gj _ _ _ _ (by omega) (by omega),Gj _ _ _ _ hb (by omega),e2,<- ih,f1]
  omega
theorem AiI:∀ bs:List Nat,(∀ b∈bs,b < 256)->(enc bs / 4 &&& enc (List.replicate bs.length 51))+(enc bs &&& enc (List.replicate bs.length 51))=enc (bs.map f2)
 | [],_=>by simp [enc]
 | b::r,h=>by
  have hb:=h b (by simp)
  have ih:=AiI r fun x hx=>h x (by simp [hx])
  simp only [length_cons,List.replicate_succ,enc,map_cons]
  generalize enc r=R at *
  generalize enc (List.replicate r.length 51)=M at *
  have e1:(b+256 * R) / 4=(b / 4+64 * (R % 4))+256 * (R / 4):=by omega
  have e2:=k2 ⟨b,hb⟩ ⟨R % 4,by omega⟩
  simp only at e2
  rw [e1,Gj _ _ _ _ (by omega) (by omega),Gj _ _ _ _ hb (by omega),e2,<- ih,f2]
  omega
theorem AbN:∀ bs:List Nat,(∀ b∈bs,b < 256/\b % 16<=4/\b / 16<=4)->enc bs % 16<=4
 | [],_=>by simp [enc]
 | b::r,h=>by
  have hb:=h b (by simp)
  simp only [enc]
  omega
theorem AiJ:∀ bs:List Nat,(∀ b∈bs,b < 256/\b % 16<=4/\b / 16<=4)->(enc bs / 16+enc bs) &&& enc (List.replicate bs.length 15)=enc (bs.map f3)
 | [],_=>by simp [enc]
 | b::r,h=>by
  have hb:=h b (by simp)
  have ih:=AiJ r fun x hx=>h x (by simp [hx])
  have hm:=AbN r fun x hx=>h x (by simp [hx])
  simp only [length_cons,List.replicate_succ,enc,map_cons]
  generalize enc r=R at *
  generalize enc (List.replicate r.length 15)=M at *
  have e1:(b+256 * R) / 16+(b+256 * R)=(b / 16+16 * (R % 16)+b)+256 * (R / 16+R):=by omega
  have e2:=k3 ⟨b,hb.1⟩ ⟨R % 16,by omega⟩ hb.2.1 hb.2.2
  simp only at e2
  rw [e1,Gj _ _ _ _ (by omega) (by omega),e2,<- ih]
def AY (x:Nat):List Nat:=[x % 256,x / 256 % 256,x / 65536 % 256,x / 16777216 % 256,x / 4294967296 % 256,x / 1099511627776 % 256,x / 281474976710656 % 256,x / 72057594037927936 % 256]
theorem A6C {x:Nat} (h:x < 18446744073709551616):enc (AY x)=x:=by
 simp only [AY,enc]
 omega
def s1 (x:Nat):Nat:=((x / 2) &&& 6148914691236517205)+(x &&& 6148914691236517205)
def s2 (x:Nat):Nat:=((x / 4) &&& 3689348814741910323)+(x &&& 3689348814741910323)
def s3 (x:Nat):Nat:=(x / 16+x) &&& 1085102592571150095
def s4 (x:Nat):Nat:=x+x / 256
def s5 (x:Nat):Nat:=x+x / 65536
def s6 (x:Nat):Nat:=x+x / 4294967296
theorem Ji {x b:Nat} (hb:b∈AY x):b < 256:=by
 simp only [AY,mem_cons,not_mem_nil,or_false] at hb
 omega
theorem m1 (l:List Nat) (h:l.length=8):enc (List.replicate l.length 85)=6148914691236517205:=by rw [h];decide
theorem m2 (l:List Nat) (h:l.length=8):enc (List.replicate l.length 51)=3689348814741910323:=by rw [h];decide
theorem m3 (l:List Nat) (h:l.length=8):enc (List.replicate l.length 15)=1085102592571150095:=by rw [h];decide
theorem bl (x:Nat):(AY x).length=8:=rfl
theorem Aju {x:Nat} (h:x < 18446744073709551616):s1 x=enc ((AY x).map f1):=by
 have h1:=AiH (AY x) fun b hb=>Ji hb
 rw [A6C h,m1 _ (bl x)] at h1
 exact h1
theorem Ajv {x:Nat} (h:x < 18446744073709551616):s2 (s1 x)=enc (((AY x).map f1).map f2):=by
 rw [Aju h]
 have h2:=AiI ((AY x).map f1) (by
  intro b hb'
  obtain ⟨c,hc,rfl⟩:=List.mem_map.1 hb'
  exact (k4 ⟨c,Ji hc⟩).1)
 rw [m2 _ (by rw [List.length_map];exact bl x)] at h2
 exact h2
theorem Ajw {x:Nat} (h:x < 18446744073709551616):s3 (s2 (s1 x))=enc ((AY x).map pc8):=by
 rw [Ajv h]
 have hg:∀ b∈((AY x).map f1).map f2,b < 256/\b % 16<=4/\b / 16<=4:=by
  intro b hb'
  obtain ⟨c,hc,rfl⟩:=List.mem_map.1 hb'
  obtain ⟨d,hd,rfl⟩:=List.mem_map.1 hc
  have:=k4 ⟨d,Ji hd⟩
  grind
 have h3:=AiJ (((AY x).map f1).map f2) hg
 rw [m3 _ (by rw [List.length_map,List.length_map];exact bl x)] at h3
 have h4:((((AY x).map f1).map f2).map f3)=(AY x).map pc8:=by
  rw [List.map_map,List.map_map]
  apply List.map_congr_left
  intro b hb'
  exact (k4 ⟨b,Ji hb'⟩).2.2.2.2.1
 rw [h4] at h3
 exact h3
theorem Aop (p0 p1 p2 p3 p4 p5 p6 p7:Nat) (h0:p0<=8) (h1:p1<=8) (h2:p2<=8) (h3:p3<=8) (h4:p4<=8) (h5:p5<=8) (h6:p6<=8) (h7:p7<=8) :
  s4 (enc [p0,p1,p2,p3,p4,p5,p6,p7])=(p0+p1)+256 * ((p1+p2)+256 * ((p2+p3)+256 * ((p3+p4)+256 * ((p4+p5)+256 * ((p5+p6)+256 * ((p6+p7)+256 * p7)))))):=by
 simp only [enc,s4]
 omega
theorem Aoq (q0 q1 q2 q3 q4 q5 q6 q7:Nat) (h0:q0<=16) (h1:q1<=16) (h2:q2<=16) (h3:q3<=16) (h4:q4<=16) (h5:q5<=16) (h6:q6<=16) (h7:q7<=16) :
  s5 (q0+256 * (q1+256 * (q2+256 * (q3+256 * (q4+256 * (q5+256 * (q6+256 * q7)))))))=(q0+q2)+256 * ((q1+q3)+256 * ((q2+q4)+256 * ((q3+q5)+256 * ((q4+q6)+256 * ((q5+q7)+256 * (q6+256 * q7)))))):=by
 simp only [s5]
 omega
theorem Aor (q0 q1 q2 q3 q4 q5 q6 q7:Nat) (h0:q0<=32) (h1:q1<=32) (h2:q2<=32) (h3:q3<=32) (h4:q4<=32) (h5:q5<=32) (h6:q6<=32) (h7:q7<=32) :
  s6 (q0+256 * (q1+256 * (q2+256 * (q3+256 * (q4+256 * (q5+256 * (q6+256 * q7))))))) % 128=(q0+q4) % 128:=by
 simp only [s6]
 have e:(q0+256 * (q1+256 * (q2+256 * (q3+256 * (q4+256 * (q5+256 * (q6+256 * q7))))))) / 4294967296=q4+256 * (q5+256 * (q6+256 * q7)):=by omega
 omega
theorem Aos (p0 p1 p2 p3 p4 p5 p6 p7:Nat) (h0:p0<=8) (h1:p1<=8) (h2:p2<=8) (h3:p3<=8) (h4:p4<=8) (h5:p5<=8) (h6:p6<=8) (h7:p7<=8) :
  s6 (s5 (s4 (enc [p0,p1,p2,p3,p4,p5,p6,p7]))) % 128=p0+p1+p2+p3+p4+p5+p6+p7:=by
 rw [Aop _ _ _ _ _ _ _ _ h0 h1 h2 h3 h4 h5 h6 h7,Aoq _ _ _ _ _ _ _ _ (by omega) (by omega) (by omega) (by omega) (by omega) (by omega) (by omega) (by omega),
  Aor _ _ _ _ _ _ _ _ (by omega) (by omega) (by omega) (by omega) (by omega) (by omega) (by omega) (by omega)]
 omega
theorem Aoe {x:Nat} (h:x < 18446744073709551616):s6 (s5 (s4 (s3 (s2 (s1 x))))) % 128=((AY x).map pc8).sum:=by
 rw [Ajw h]
 have hp:∀ b∈AY x,pc8 b<=8:=fun b hb'=>(k4 ⟨b,Ji hb'⟩).2.2.2.2.2
 simp only [AY,mem_cons,not_mem_nil,or_false,forall_eq_or_imp,forall_eq] at hp
 obtain ⟨h0,h1,h2,h3,h4,h5,h6,h7⟩:=hp
 simp only [AY,map_cons,map_nil,List.sum_cons,List.sum_nil]
 grind [Aos]
def cnt (n x:Nat):Nat:=((List.range n).filter fun i=>x.testBit i).length
theorem A8j (n x:Nat):cnt (n+1) x=x % 2+cnt n (x / 2):=by
 unfold cnt
 rw [List.range_succ_eq_map,List.filter_cons]
 have e:((List.map Nat.succ (List.range n)).filter fun i=>x.testBit i).length=((List.range n).filter fun i=>(x / 2).testBit i).length:=by
  grind [List.filter_congr]
 grind
theorem Yr (x:Nat):cnt 0 x=0:=rfl
theorem Yq (n x:Nat):cnt (n+8) x=pc8 (x % 256)+cnt n (x / 256):=by
 have hp:pc8 (x % 256)=cnt 8 (x % 256):=rfl
 rw [hp]
 simp only [A8j,Yr]
 have e:x / 2 / 2 / 2 / 2 / 2 / 2 / 2 / 2=x / 256:=by omega
 rw [e]
 omega
theorem AiE (x:Nat):cnt 64 x=((AY x).map pc8).sum:=by
 rw [show 64=56+8 from rfl,Yq,show 56=48+8 from rfl,Yq,show 48=40+8 from rfl,Yq,show 40=32+8 from rfl,Yq,show 32=24+8 from rfl,Yq,show 24=16+8 from rfl,Yq,show 16=8+8 from rfl,Yq,show 8=0+8 from rfl,Yq,Yr]
 simp only [AY,map_cons,map_nil,List.sum_cons,List.sum_nil,Nat.div_div_eq_div_mul]
theorem A78 (w:BitVec 64):s6 (s5 (s4 (s3 (s2 (s1 w.toNat))))) % 128=(Bw w).length:=by
 rw [Aoe w.isLt,<- AiE]
 rfl
theorem Aof {x:Nat} (h:x < 18446744073709551616):s1 x < 18446744073709551616/\s2 (s1 x) < 18446744073709551616/\s2 (s1 x) / 16+s2 (s1 x) < 18446744073709551616/\s3 (s2 (s1 x))<=1085102592571150095/\s4 (s3 (s2 (s1 x))) < 18446744073709551616/\s5 (s4 (s3 (s2 (s1 x)))) < 18446744073709551616/\s6 (s5 (s4 (s3 (s2 (s1 x))))) < 9223372036854775808:=by
 have a1:s1 x<=6148914691236517205+6148914691236517205:=Nat.add_le_add Nat.and_le_right Nat.and_le_right
 have a2:s2 (s1 x)<=3689348814741910323+3689348814741910323:=Nat.add_le_add Nat.and_le_right Nat.and_le_right
 have a3:s3 (s2 (s1 x))<=1085102592571150095:=Nat.and_le_right
 refine ⟨by omega,by omega,by omega,a3,?_,?_,?_⟩
 .simp only [s4];omega
 .simp only [s4,s5];omega
 .simp only [s4,s5,s6];omega
abbrev o (d:Nat) (op:B7):Ap:=⟨some d,none,op⟩
abbrev ov (op:B7):Ap:=⟨none,none,op⟩
abbrev og (d t:Nat) (w:Bool) (op:B7):Ap:=⟨some d,some (t,w),op⟩
abbrev ovg (t:Nat) (w:Bool) (op:B7):Ap:=⟨none,some (t,w),op⟩
abbrev bs (l:List UInt8):ByteArray:=⟨⟨l⟩⟩
abbrev sp (i:Nat) (x:Ap):Aq:=⟨i,x,[]⟩
abbrev sq (i:Nat) (x:Ap) (c:List Ap):Aq:=⟨i,x,c⟩
section
variable {V:Ae} {m:Nat->Nat} {F:A2} {h:VH}
@[congr] theorem Ai9 {F:A2} {F':Unit->A2} {h:VH} {h':Unit->VH} {c:A4} {Q:Ex->A2->VH->Prop} (hF:∀ u:Unit,F=F' u) (hh:∀ u:Unit,h=h' u):Vc V m c F h Q=Vc V m c (F' ()) (h' ()) Q:=by rw [<- hF ()];rw [<- hh ()]
@[congr] theorem Aic {F:A2} {F':Unit->A2} {h:VH} {h':Unit->VH} {c:List Ap} {Q:A2->VH->Prop} (hF:∀ u:Unit,F=F' u) (hh:∀ u:Unit,h=h' u):Vr V m c F h Q=Vr V m c (F' ()) (h' ()) Q:=by rw [<- hF ()];rw [<- hh ()]
@[congr] theorem Aid {F:A2} {F':Unit->A2} {h:VH} {h':Unit->VH} {L:J7} {c:List Aq} {Q:A2->VH->Prop} (hF:∀ u:Unit,F=F' u) (hh:∀ u:Unit,h=h' u):Vs V m c L F h Q=Vs V m c L (F' ()) (h' ()) Q:=by rw [<- hF ()];rw [<- hh ()]
@[congr] theorem Aib {k:Nat} {k':Unit->Nat} {op:B7} {Q:VV->VH->Prop} (hk:∀ u:Unit,k=k' u):Vo V k op F h Q=Vo V (k' ()) op F h Q:=by rw [<- hk ()]
@[congr] theorem Ai8 {g:Nat} {a:List VV} {a':Unit->List VV} {Q:VV->Prop} (ha:∀ u:Unit,a=a' u):VP V g a Q=VP V g (a' ()) Q:=by rw [<- ha ()]
@[congr] theorem Ah2 {g b:Nat} {b':Unit->Nat} {a:List VV} {a':Unit->List VV} {Q:VV->VH->Prop} (ha:∀ u:Unit,a=a' u) (hb:∀ u:Unit,b=b' u):VP1 V g a b Q=VP1 V g (a' ()) (b' ()) Q:=by rw [<- ha ()];rw [<- hb ()]
@[congr] theorem Ah3 {g:Nat} {a:List VV} {a':Unit->List VV} {h:VH} {h':Unit->VH} {Q:VV->VH->Prop} (ha:∀ u:Unit,a=a' u) (hb:∀ u:Unit,h=h' u):LW V g a h Q=LW V g (a' ()) (h' ()) Q:=by rw [<- ha ()];rw [<- hb ()]
@[congr] theorem Ah4 {g:Nat} {a:List VV} {a':Unit->List VV} {h:VH} {h':Unit->VH} {Q:VV->VH->Prop} (ha:∀ u:Unit,a=a' u) (hb:∀ u:Unit,h=h' u):GF V g a h Q=GF V g (a' ()) (h' ()) Q:=by rw [<- ha ()];rw [<- hb ()]
def OK {α:Type} (r:Option α) (Q:α->Prop):Prop:=match r with
 | some x=>Q x
 | none=>False
@[congr] theorem Ai1 {α:Type} {r:Option α} {r':Unit->Option α} {Q:α->Prop} (hr:∀ u:Unit,r=r' u):OK r Q=OK (r' ()) Q:=by rw [<- hr ()]
@[go_sem] theorem Sv {α:Type} {x:α} {Q:α->Prop}:OK (some x) Q↔Q x:=Iff.rfl
@[go_sem] theorem Aki {α:Type} {Q:α->Prop}:OK none Q↔False:=Iff.rfl
def JL {α β:Type} (r:Option (α×β)) (Q:α->β->Prop):Prop:=match r with
 | some (x,y)=>Q x y
 | none=>False
@[congr] theorem AgZ {α β:Type} {r:Option (α×β)} {r':Unit->Option (α×β)} {Q:α->β->Prop} (hr:∀ u:Unit,r=r' u):JL r Q=JL (r' ()) Q:=by rw [<- hr ()]
@[go_sem] theorem Y5 {α β:Type} {x:α} {y:β} {Q:α->β->Prop}:JL (some (x,y)) Q↔Q x y:=Iff.rfl
@[go_sem] theorem Ai0 {α β:Type} {Q:α->β->Prop}:JL none Q↔False:=Iff.rfl
theorem GD {α β:Type} {r:Option (α×β)} {Q:α->β->Prop}:JL r Q↔∃ x y,r=some (x,y)/\Q x y:=by
 cases r with
 | none=>simp [JL]
 | some z =>
  obtain ⟨a,b⟩:=z
  exact ⟨fun q=>⟨a,b,rfl,q⟩,fun ⟨x,y,e,q⟩=>by cases e;exact q⟩
def mk {α:Type} (x:α):α:=x
@[go_sem] theorem E7 {α:Type} (x:α):mk x=x:=by
 have h:∀ y:α,mk y=y:=fun y=>rfl
 exact h x
theorem A0j {α:Type} {r:Option α} {Q:α->Prop}:OK r Q↔∃ x,r=some x/\Q x:=by
 cases r<;>simp [OK]
theorem CV {k:Nat} {op:B7} {Q:VV->VH->Prop} (hc:∀ f args,op≠.call f args):Vo V k op F h Q↔JL (D1 k op F h) Q:=by
 rw [AdR hc,GD]
section
variable {k:Nat} {Q:VV->VH->Prop}
@[go_sem ↓] theorem A3q {x:Ak}:Vo V k (.mov x) F h Q↔JL (mk (D1 k (.mov x) F h)) Q:=CV (by intros;simp)
@[go_sem ↓] theorem Ako {a b c:Ak}:Vo V k (.pick a b c) F h Q↔JL (mk (D1 k (.pick a b c) F h)) Q:=CV (by intros;simp)
@[go_sem ↓] theorem Am3 {ty n:Nat} {x:Ak}:Vo V k (.box ty n x) F h Q↔JL (mk (D1 k (.box ty n x) F h)) Q:=CV (by intros;simp)
@[go_sem ↓] theorem Aia {z:List AV} {ps:List (Nat×Nat×Ak)}:Vo V k (.build z ps) F h Q↔JL (mk (D1 k (.build z ps) F h)) Q:=CV (by intros;simp)
@[go_sem ↓] theorem Am4 {t e l:Nat} {z:List AV} {ps:List (Nat×Nat×Ak)}:Vo V k (.bsl t e l z ps) F h Q↔JL (mk (D1 k (.bsl t e l z ps) F h)) Q:=CV (by intros;simp)
@[go_sem ↓] theorem AoY {n:Option Nat} {a:Ak}:Vo V k (.ld n a) F h Q↔OK (mk (vld h n (A2.ev F a))) fun v=>Q v h:=by
 rw [CV (by intros;simp),E7]
 simp only [D1]
 cases vld h n (A2.ev F a)<;>exact Iff.rfl
@[go_sem ↓] theorem AoZ {n:Nat} {a x:Ak}:Vo V k (.st n a x) F h Q↔JL (mk (D1 k (.st n a x) F h)) Q:=CV (by intros;simp)
@[go_sem ↓] theorem Akn {x:Ak}:Vo V k (.nilc x) F h Q↔JL (mk (D1 k (.nilc x) F h)) Q:=CV (by intros;simp)
@[go_sem ↓] theorem A0m {op:BinOp} {e:Option NP} {x y:Ak}:Vo V k (.bin op e x y) F h Q↔OK (mk (B6 op e (A2.ev F x) (A2.ev F y))) fun v=>Q v h:=by
 rw [CV (by intros;simp),E7]
 simp only [D1]
 cases B6 op e (A2.ev F x) (A2.ev F y)<;>exact Iff.rfl
@[go_sem ↓] theorem Amd {x:Ak}:Vo V k (.not x) F h Q↔JL (mk (D1 k (.not x) F h)) Q:=CV (by intros;simp)
@[go_sem ↓] theorem Amc {x:Ak}:Vo V k (.neg x) F h Q↔JL (mk (D1 k (.neg x) F h)) Q:=CV (by intros;simp)
@[go_sem ↓] theorem Akm {i:IntKind} {x:Ak}:Vo V k (.conv i x) F h Q↔JL (mk (D1 k (.conv i x) F h)) Q:=CV (by intros;simp)
@[go_sem ↓] theorem Am9 {g:Nat} {a c:List Ak}:Vo V k (.mkf g a c) F h Q↔Q (.f g (a.map (A2.ev F)) (c.map (A2.ev F))) h:=by
 rw [CV (by intros;simp)];exact Iff.rfl
@[go_sem ↓] theorem Ama {t e b:Nat} {z:List AV} {l c:Ak}:Vo V k (.mks t e b z l c) F h Q↔JL (mk (D1 k (.mks t e b z l c) F h)) Q:=CV (by intros;simp)
@[go_sem ↓] theorem Ame {e:Nat} {x:Ak} {lo hi:Option Ak}:Vo V k (.slc e x lo hi) F h Q↔OK (mk (A7y h e (A2.ev F x) (lo.map (A2.ev F)) (hi.map (A2.ev F)))) fun v=>Q v h:=by
 rw [CV (by intros;simp),E7]
 simp only [D1]
 cases A7y h e (A2.ev F x) (lo.map (A2.ev F)) (hi.map (A2.ev F))<;>exact Iff.rfl
@[go_sem ↓] theorem AoV {o:Nat} {x:Ak}:Vo V k (.fa o x) F h Q↔JL (mk (D1 k (.fa o x) F h)) Q:=CV (by intros;simp)
@[go_sem ↓] theorem AoW {e:Nat} {x i:Ak}:Vo V k (.ia e x i) F h Q↔JL (mk (D1 k (.ia e x i) F h)) Q:=CV (by intros;simp)
@[go_sem ↓] theorem Am7 {l e:Nat} {x i:Ak}:Vo V k (.iaa l e x i) F h Q↔JL (mk (D1 k (.iaa l e x i) F h)) Q:=CV (by intros;simp)
@[go_sem ↓] theorem AoX {x i:Ak}:Vo V k (.ix x i) F h Q↔JL (mk (D1 k (.ix x i) F h)) Q:=CV (by intros;simp)
@[go_sem ↓] theorem Am6 {x:Ak} {i:Nat}:Vo V k (.ext x i) F h Q↔JL (mk (D1 k (.ext x i) F h)) Q:=CV (by intros;simp)
@[go_sem ↓] theorem Am8 {s:Bool} {x:Ak}:Vo V k (.len s x) F h Q↔JL (mk (D1 k (.len s x) F h)) Q:=CV (by intros;simp)
@[go_sem ↓] theorem Am2 {t e b:Nat} {x y:Ak}:Vo V k (.app t e b x y) F h Q↔JL (mk (N6 k h t e b (A2.ev F x) (A2.ev F y))) Q:=by
 rw [CV (by intros;simp)];exact Iff.rfl
@[go_sem ↓] theorem Am5 {e:Nat} {x y:Ak}:Vo V k (.cpy e x y) F h Q↔JL (mk (AaO h e (A2.ev F x) (A2.ev F y))) Q:=by
 rw [CV (by intros;simp)];exact Iff.rfl
@[go_sem ↓] theorem Amb {b:Bool} {x y:Ak}:Vo V k (.mnx b x y) F h Q↔JL (mk (D1 k (.mnx b x y) F h)) Q:=CV (by intros;simp)
def VF (V:Ae) (k:Nat) (f:VV) (args:List VV) (h:VH) (Q:VV->VH->Prop):Prop:=match f with
 | .f g a c=>(match k with
  | 0=>JL (ET h (a++args++c)) fun pa ids=>VP V g pa fun r=>Q r (bif scal r then h else Bf ids h)
  | 1=>JL (ET h (a++args++c)) fun pa ids=>VP1 V g pa h.length fun r os=>Q r (Bf ids h++os)
  | 2=>LW V g (a++args++c) h Q
  | 4=>LW V g (a++args++c) (Bf (Jt (a++args++c) h) h) (fun _ _=>True)/\GF V g (a++args++c) h Q
  | _=>GF V g (a++args++c) h Q)
 | _=>False
@[congr] theorem Ai3 {k:Nat} {k':Unit->Nat} {f:VV} {f':Unit->VV} {a:List VV} {a':Unit->List VV} (hk:∀ u:Unit,k=k' u) (hf:∀ u:Unit,f=f' u) (ha:∀ u:Unit,a=a' u):VF V k f a h Q=VF V (k' ()) (f' ()) (a' ()) h Q:=by grind
theorem Ai4 {f:VV} {args:List VV} {g:Nat} {a c:List VV} (hf:f = .f g a c) (hv:VF V k f args h Q):VC V k g (a++args++c) h Q/\VC4 V k g (a++args++c) h:=by
 subst hf
 unfold VF at hv
 unfold VC
 rcases k with _ | _ | _ | _ | _ | k
 .exact ⟨GD.1 hv,fun h=>by cases h⟩
 .exact ⟨GD.1 hv,fun h=>by cases h⟩
 .exact ⟨hv,fun h=>by cases h⟩
 .exact ⟨hv,fun h=>by cases h⟩
 .exact ⟨hv.2,fun _=>hv.1⟩
 .exact ⟨hv,fun h=>by omega⟩
theorem Ai5 {f:VV} {args:List VV} {g:Nat} {a c:List VV} (hf:f = .f g a c) (hv:VC V k g (a++args++c) h Q) (h4:VC4 V k g (a++args++c) h):VF V k f args h Q:=by
 subst hf
 unfold VF
 unfold VC at hv
 rcases k with _ | _ | _ | _ | _ | k
 .exact GD.2 hv
 .exact GD.2 hv
 .exact hv
 .exact hv
 .exact ⟨h4 rfl,hv⟩
 .exact hv
@[go_sem ↓] theorem Akl {f:Ak} {args:List Ak}:Vo V k (.call f args) F h Q↔VF V k (mk (A2.ev F f)) (args.map (A2.ev F)) h Q:=by
 rw [E7]
 constructor
 .intro hv
  cases hf:A2.ev F f with
  | f g a c=>grind [Ai5,A0n]
  | _=>obtain ⟨n,v,h',e,_⟩:=hv;simp [J3,hf] at e
 .intro hv
  cases hf:A2.ev F f with
  | f g a c=>grind [NZ,Ai4]
  | _=>rw [hf] at hv;exact hv.elim
@[go_sem] theorem ApT {g:Nat} {a c args:List VV}:VF V 0 (.f g a c) args h Q↔JL (mk (ET h (a++args++c))) fun pa ids=>VP V g (mk pa) fun r=>Q r (bif scal r then h else Bf ids h):=Iff.rfl
@[go_sem] theorem ApU {g:Nat} {a c args:List VV}:VF V 1 (.f g a c) args h Q↔JL (mk (ET h (a++args++c))) fun pa ids=>VP1 V g (mk pa) h.length fun r os=>Q r (Bf ids h++os):=Iff.rfl
@[go_sem] theorem ApV {g:Nat} {a c args:List VV}:VF V 2 (.f g a c) args h Q↔LW V g (mk (a++args++c)) h Q:=Iff.rfl
@[go_sem] theorem ApX {g:Nat} {a c args:List VV}:VF V 4 (.f g a c) args h Q↔LW V g (mk (a++args++c)) (Bf (Jt (mk (a++args++c)) h) h) (fun _ _=>True)/\GF V g (mk (a++args++c)) h Q:=Iff.rfl
@[go_sem] theorem ApW {g:Nat} {a c args:List VV}:VF V 3 (.f g a c) args h Q↔GF V g (mk (a++args++c)) h Q:=Iff.rfl
end
section
variable {R:A2->VH->Prop}
@[go_sem ↓] theorem Abn {d:Option Nat} {op:B7} {r:List Ap}:Vr V m (⟨d,none,op⟩::r) F h R↔Vo V (Dx m d) op F h fun v h'=>Vr V m r (Bt F d v) h' R:=JM
@[go_sem ↓] theorem A7V {d:Nat} {op:B7} {r:List Ap}:Vr V m (o d op::r) F h R↔Vo V (m d) op F h fun v h'=>Vr V m r (Tm.set F d v) h' R:=JM
@[go_sem ↓] theorem Ap1 {op:B7} {r:List Ap}:Vr V m (ov op::r) F h R↔Vo V 2 op F h fun v h'=>Vr V m r F h' R:=JM
def VG (V:Ae) (m:Nat->Nat) (v:VV) (w:Bool) (d:Option Nat) (op:B7) (r:List Ap) (F:A2) (h:VH) (R:A2->VH->Prop):Prop:=match v with
 | .b x=>(bif x == w then Vo V (Dx m d) op F h (fun v h'=>Vr V m r (Bt F d v) h' R) else Vr V m r (Bt F d VV.nul) h R)
 | .tu []=>Vr V m r (Bt F d VV.nul) h R
 | _=>False
@[congr] theorem Ai6 {v:VV} {v':Unit->VV} {w:Bool} {d:Option Nat} {op:B7} {r:List Ap} (hv:∀ u:Unit,v=v' u):VG V m v w d op r F h R=VG V m (v' ()) w d op r F h R:=by rw [<- hv ()]
@[go_sem ↓] theorem Yb {d:Option Nat} {t:Nat} {w:Bool} {op:B7} {r:List Ap}:Vr V m (⟨d,some (t,w),op⟩::r) F h R↔VG V m (mk (A2.tmp F t)) w d op r F h R:=by
 rw [E7]
 rw [JM]
 simp only [Ci,VG]
 grind
@[go_sem ↓] theorem Ap0 {d:Nat} {t:Nat} {w:Bool} {op:B7} {r:List Ap}:Vr V m (og d t w op::r) F h R↔VG V m (mk (A2.tmp F t)) w (some d) op r F h R:=Yb
@[go_sem ↓] theorem Amf {t:Nat} {w:Bool} {op:B7} {r:List Ap}:Vr V m (ovg t w op::r) F h R↔VG V m (mk (A2.tmp F t)) w none op r F h R:=Yb
@[go_sem] theorem AoU {d:Option Nat} {op:B7} {r:List Ap}:VG V m (.b true) true d op r F h R↔Vo V (Dx m d) op F h (fun v h'=>Vr V m r (Bt F d v) h' R):=Iff.rfl
@[go_sem] theorem AoR {d:Option Nat} {op:B7} {r:List Ap}:VG V m (.b false) false d op r F h R↔Vo V (Dx m d) op F h (fun v h'=>Vr V m r (Bt F d v) h' R):=Iff.rfl
@[go_sem] theorem AoT {d:Option Nat} {op:B7} {r:List Ap}:VG V m (.b true) false d op r F h R↔Vr V m r (Bt F d VV.nul) h R:=Iff.rfl
@[go_sem] theorem AoS {d:Option Nat} {op:B7} {r:List Ap}:VG V m (.b false) true d op r F h R↔Vr V m r (Bt F d VV.nul) h R:=Iff.rfl
@[go_sem] theorem AlW {w:Bool} {d:Option Nat} {op:B7} {r:List Ap}:VG V m VV.nul w d op r F h R↔Vr V m r (Bt F d VV.nul) h R:=Iff.rfl
@[go_sem ↓] theorem EP {i:Nat} {d:Option Nat} {op:B7} {c:List Ap} {r:List Aq} {L:J7}:Vs V m (⟨i,⟨d,none,op⟩,c⟩::r) L F h R↔Vo V (Dx m d) op F h fun v h'=>BK (Bt F d v) h' (CY (Dx m d) d op F h L) c/\Vs V m r (CY (Dx m d) d op F h L) (Bt F d v) h' R:=Nm
def VGs (V:Ae) (m:Nat->Nat) (v:VV) (w:Bool) (d:Option Nat) (op:B7) (c:List Ap) (r:List Aq) (L:J7) (F:A2) (h:VH) (R:A2->VH->Prop):Prop:=match v with
 | .b x=>(bif x == w then Vo V (Dx m d) op F h (fun v h'=>BK (Bt F d v) h' (CY (Dx m d) d op F h L) c/\Vs V m r (CY (Dx m d) d op F h L) (Bt F d v) h' R) else Vs V m r (GH d L) (Bt F d VV.nul) h R)
 | .tu []=>Vs V m r (GH d L) (Bt F d VV.nul) h R
 | _=>False
@[congr] theorem Ah1 {v:VV} {v':Unit->VV} {w:Bool} {d:Option Nat} {op:B7} {c:List Ap} {r:List Aq} {L:J7} (hv:∀ u:Unit,v=v' u):VGs V m v w d op c r L F h R=VGs V m (v' ()) w d op c r L F h R:=by rw [<- hv ()]
@[go_sem ↓] theorem L8 {i:Nat} {d:Option Nat} {t:Nat} {w:Bool} {op:B7} {c:List Ap} {r:List Aq} {L:J7}:Vs V m (⟨i,⟨d,some (t,w),op⟩,c⟩::r) L F h R↔VGs V m (mk (A2.tmp F t)) w d op c r L F h R:=by
 grind [Nm,E7,Ci,VGs]
section
variable {i d t:Nat} {w:Bool} {op:B7} {c:List Ap} {r:List Aq} {L:J7}
@[go_sem ↓] theorem Akp:Vs V m (sp i (o d op)::r) L F h R↔Vo V (m d) op F h fun v h'=>Vs V m r (CY (m d) (some d) op F h L) (Tm.set F d v) h' R:=by
 unfold sp o
 rw [EP]
 simp only [BK,true_and]
 exact Iff.rfl
@[go_sem ↓] theorem Aif:Vs V m (sp i (ov op)::r) L F h R↔Vo V 2 op F h fun v h'=>Vs V m r (CY 2 none op F h L) F h' R:=by
 unfold sp ov
 rw [EP]
 simp only [BK,true_and]
 exact Iff.rfl
@[go_sem ↓] theorem Aie:Vs V m (sp i (og d t w op)::r) L F h R↔VGs V m (mk (A2.tmp F t)) w (some d) op [] r L F h R:=L8
@[go_sem ↓] theorem Ah5:Vs V m (sp i (ovg t w op)::r) L F h R↔VGs V m (mk (A2.tmp F t)) w none op [] r L F h R:=L8
@[go_sem ↓] theorem Akq:Vs V m (sq i (o d op) c::r) L F h R↔Vo V (m d) op F h fun v h'=>BK (Tm.set F d v) h' (CY (m d) (some d) op F h L) c/\Vs V m r (CY (m d) (some d) op F h L) (Tm.set F d v) h' R:=EP
@[go_sem ↓] theorem Aih:Vs V m (sq i (ov op) c::r) L F h R↔Vo V 2 op F h fun v h'=>BK F h' (CY 2 none op F h L) c/\Vs V m r (CY 2 none op F h L) F h' R:=EP
@[go_sem ↓] theorem Aig:Vs V m (sq i (og d t w op) c::r) L F h R↔VGs V m (mk (A2.tmp F t)) w (some d) op c r L F h R:=L8
@[go_sem ↓] theorem Ah6:Vs V m (sq i (ovg t w op) c::r) L F h R↔VGs V m (mk (A2.tmp F t)) w none op c r L F h R:=L8
end
section
variable {d:Option Nat} {op:B7} {c:List Ap} {r:List Aq} {L:J7}
@[go_sem] theorem Am0:VGs V m (.b true) true d op c r L F h R↔Vo V (Dx m d) op F h (fun v h'=>BK (Bt F d v) h' (CY (Dx m d) d op F h L) c/\Vs V m r (CY (Dx m d) d op F h L) (Bt F d v) h' R):=Iff.rfl
@[go_sem] theorem AlX:VGs V m (.b false) false d op c r L F h R↔Vo V (Dx m d) op F h (fun v h'=>BK (Bt F d v) h' (CY (Dx m d) d op F h L) c/\Vs V m r (CY (Dx m d) d op F h L) (Bt F d v) h' R):=Iff.rfl
@[go_sem] theorem AlZ:VGs V m (.b true) false d op c r L F h R↔Vs V m r (GH d L) (Bt F d VV.nul) h R:=Iff.rfl
@[go_sem] theorem AlY:VGs V m (.b false) true d op c r L F h R↔Vs V m r (GH d L) (Bt F d VV.nul) h R:=Iff.rfl
@[go_sem] theorem Akj {w:Bool}:VGs V m VV.nul w d op c r L F h R↔Vs V m r (GH d L) (Bt F d VV.nul) h R:=Iff.rfl
end
end
section
variable {Q:Ex->A2->VH->Prop}
@[go_sem ↓] theorem A3p:Vc V m .skip F h Q↔Q .norm F h :=
 ⟨fun ⟨n,e,F',h',k,q⟩=>by
  cases n with
  | zero=>simp [Ao] at k
  | succ n=>simp only [Ao,Option.some.injEq,Prod.mk.injEq] at k;grind,fun q=>⟨1,.norm,F,h,rfl,q⟩⟩
@[go_sem ↓] theorem A3n {id:Nat}:Vc V m (.exit id) F h Q↔Q (.exit id) F h :=
 ⟨fun ⟨n,e,F',h',k,q⟩=>by
  cases n with
  | zero=>simp [Ao] at k
  | succ n=>simp only [Ao,Option.some.injEq,Prod.mk.injEq] at k;grind,fun q=>⟨1,.exit id,F,h,rfl,q⟩⟩
@[go_sem ↓] theorem Am1:Vc V m .ret F h Q↔Q .ret F h :=
 ⟨fun ⟨n,e,F',h',k,q⟩=>by
  cases n with
  | zero=>simp [Ao] at k
  | succ n=>simp only [Ao,Option.some.injEq,Prod.mk.injEq] at k;grind,fun q=>⟨1,.ret,F,h,rfl,q⟩⟩
@[go_sem ↓] theorem SC {ops:List Ap}:Vc V m (.reg ops) F h Q↔Vr V m ops F h (Q .norm):=by
 constructor
 .rintro ⟨n,e,F',h',k,q⟩
  cases n with
  | zero=>simp [Ao] at k
  | succ n =>
   simp only [Ao] at k
   split at k
   .rename_i F1 h1 hr;cases k;exact ⟨n,_,_,hr,q⟩
   .cases k
 .rintro ⟨n,F',h',k,q⟩
  exact ⟨n+1,.norm,F',h',by simp only [Ao,k],q⟩
@[go_sem ↓] theorem Akk {ops:List Aq}:Vc V m (.dreg ops) F h Q↔Vs V m ops [] F h (Q .norm):=by
 constructor
 .rintro ⟨n,e,F',h',k,q⟩
  cases n with
  | zero=>simp [Ao] at k
  | succ n =>
   simp only [Ao] at k
   split at k
   .rename_i F1 h1 hr;cases k;exact ⟨n,_,_,hr,q⟩
   .cases k
 .rintro ⟨n,F',h',k,q⟩
  exact ⟨n+1,.norm,F',h',by simp only [Ao,k],q⟩
attribute [go_sem ↓] P2 A7W
@[go_sem ↓] theorem Kx {a b:A4}:Vc V m (.seq a b) F h Q↔Vc V m a F h (fun e F' h'=>match e with | .norm=>Vc V m b F' h' Q | e=>Q e F' h'):=by
 constructor
 .rintro ⟨n,e,F',h',k,q⟩
  cases n with
  | zero=>simp [Ao] at k
  | succ n =>
   simp only [Ao] at k
   split at k
   .rename_i F1 h1 hr
    exact ⟨n,.norm,F1,h1,hr,n,e,F',h',k,q⟩
   .rename_i hne
    refine ⟨n,e,F',h',k,?_⟩
    simp_all
 .rintro ⟨n,e,F1,h1,k,q⟩
  cases e with
  | norm =>
   obtain ⟨j,e,F',h',k2,q⟩:=q
   refine ⟨max n j+1,e,F',h',?_,q⟩
   grind [Ao,Cq,Nat.le_max_right]
  | exit id=>exact ⟨n+1,.exit id,F1,h1,by simp only [Ao,k],q⟩
  | ret=>exact ⟨n+1,.ret,F1,h1,by simp only [Ao,k],q⟩
def VCn (V:Ae) (m:Nat->Nat) (v:VV) (a b:A4) (F:A2) (h:VH) (Q:Ex->A2->VH->Prop):Prop:=match v with
 | .b true=>Vc V m a F h Q
 | .b false=>Vc V m b F h Q
 | _=>False
@[congr] theorem Ah0 {v:VV} {v':Unit->VV} {a b:A4} (hv:∀ u:Unit,v=v' u):VCn V m v a b F h Q=VCn V m (v' ()) a b F h Q:=by rw [<- hv ()]
@[go_sem ↓] theorem A3m {x:Ak} {a b:A4}:Vc V m (.cond x a b) F h Q↔VCn V m (mk (A2.ev F x)) a b F h Q:=by
 rw [E7]
 constructor
 .rintro ⟨n,e,F',h',k,q⟩
  cases n with
  | zero=>simp [Ao] at k
  | succ n =>
   simp only [Ao] at k
   split at k
   .rename_i hv;rw [hv];exact ⟨n,e,F',h',k,q⟩
   .rename_i hv;rw [hv];exact ⟨n,e,F',h',k,q⟩
   .cases k
 .intro k
  unfold VCn at k
  split at k
  .rename_i hv;obtain ⟨n,e,F',h',k,q⟩:=k;exact ⟨n+1,e,F',h',by simp only [Ao,hv];exact k,q⟩
  .rename_i hv;obtain ⟨n,e,F',h',k,q⟩:=k;exact ⟨n+1,e,F',h',by simp only [Ao,hv];exact k,q⟩
  .exact k.elim
@[go_sem] theorem AdQ {a b:A4}:VCn V m (.b true) a b F h Q↔Vc V m a F h Q:=Iff.rfl
@[go_sem] theorem AdP {a b:A4}:VCn V m (.b false) a b F h Q↔Vc V m b F h Q:=Iff.rfl
theorem A0 {id:Nat} {c:A4}:Vc V m (.block id c) F h Q↔Vc V m c F h (fun e F' h'=>match e with | .exit id'=>(bif Nat.beq id' id then Q .norm F' h' else Q (.exit id') F' h') | e=>Q e F' h'):=by
 constructor
 .rintro ⟨n,e,F',h',k,q⟩
  cases n with
  | zero=>simp [Ao] at k
  | succ n =>
   simp only [Ao] at k
   split at k
   .rename_i id' F1 h1 hr
    refine ⟨n,.exit id',F1,h1,hr,?_⟩
    grind
   .rename_i hne
    refine ⟨n,e,F',h',k,?_⟩
    simp_all
 .rintro ⟨n,e,F1,h1,k,q⟩
  cases e with
  | norm=>exact ⟨n+1,.norm,F1,h1,by simp only [Ao,k],q⟩
  | ret=>exact ⟨n+1,.ret,F1,h1,by simp only [Ao,k],q⟩
  | exit id' =>
   simp only at q
   cases hb:Nat.beq id' id with
   | true=>rw [hb] at q;exact ⟨n+1,.norm,F1,h1,by simp only [Ao,k,hb,cond_true],q⟩
   | false=>rw [hb] at q;exact ⟨n+1,.exit id',F1,h1,by simp only [Ao,k,hb,cond_false],q⟩
open Classical in
noncomputable def gcF (h h':VH) (F':A2):A2:=if L0 h.length h h' then E4 h.length F' else F'
open Classical in
noncomputable def gcH (h h':VH):VH:=if L0 h.length h h' then h'.take h.length else h'
theorem A3o {c:A4}:Vc V m (.loop c) F h Q↔Vc V m c F h (fun e F' h'=>match e with | .norm=>Vc V m (.loop c) (gcF h h' F') (gcH h h') Q | e=>Q e F' h'):=by
 constructor
 .rintro ⟨n,e,F',h',k,q⟩
  cases n with
  | zero=>simp [Ao] at k
  | succ n =>
   simp only [Ao] at k
   split at k
   .rename_i F1 h1 hr
    refine ⟨n,.norm,F1,h1,hr,n,e,F',h',?_,q⟩
    unfold gcF gcH
    grind
   .rename_i hne
    refine ⟨n,e,F',h',k,?_⟩
    simp_all
 .rintro ⟨n,e,F1,h1,k,q⟩
  cases e with
  | norm =>
   obtain ⟨j,e,F',h',k2,q⟩:=q
   refine ⟨max n j+1,e,F',h',?_,q⟩
   simp only [Ao,Cq (Nat.le_max_left n j) k]
   unfold gcF gcH at k2
   split
   .rename_i hc;rw [if_pos hc,if_pos hc] at k2;exact Cq (Nat.le_max_right n j) k2
   .rename_i hc;rw [if_neg hc,if_neg hc] at k2;exact Cq (Nat.le_max_right n j) k2
  | exit id=>exact ⟨n+1,.exit id,F1,h1,by simp only [Ao,k],q⟩
  | ret=>exact ⟨n+1,.ret,F1,h1,by simp only [Ao,k],q⟩
def VL (V:Ae) (m:Nat->Nat) (B:Nat) (c:A4) (F:A2) (h:VH) (Q:Ex->A2->VH->Prop):Prop:=Vc V m (.block B (.loop c)) F h Q
@[congr] theorem Ai7 {B:Nat} {c:A4} {F:A2} {F':Unit->A2} {h:VH} {h':Unit->VH} (hF:∀ u:Unit,F=F' u) (hh:∀ u:Unit,h=h' u):VL V m B c F h Q=VL V m B c (F' ()) (h' ()) Q:=by rw [<- hF ()];rw [<- hh ()]
@[go_sem ↓] theorem Abm {B:Nat} {c:A4}:Vc V m (.block B (.loop c)) F h Q↔VL V m B c (mk F) h Q:=Iff.rfl
theorem AU {M:Type} (I:M->A2->VH->Prop) (μ:M->Nat) {c:A4}
  (k:∀ x F h,I x F h->Vc V m c F h (fun e F' h'=>match e with | .norm=>L0 h.length h h'/\∃ x',μ x' < μ x/\I x' (E4 h.length F') (h'.take h.length) | e=>Q e F' h')):∀ x F h,I x F h->Vc V m (.loop c) F h Q:=by
 have key:∀ j x F h,μ x<=j->I x F h->Vc V m (.loop c) F h Q:=by
  intro j
  induction j with
  | zero =>
   intro x F h hj hi
   rw [A3o]
   refine (k x F h hi).mono fun e F' h' hq=>?_
   grind
  | succ j ih =>
   intro x F h hj hi
   rw [A3o]
   refine (k x F h hi).mono fun e F' h' hq=>?_
   cases e with
   | norm =>
    obtain ⟨h0,x',h1,h2⟩:=hq
    unfold gcF gcH
    grind
   | _=>exact hq
 exact fun x F h hi=>key _ x F h (Nat.le_refl _) hi
end
theorem SB {vf:EG} {args:List VV} {Q:VV->VH->Prop}:Vb V vf args h Q↔Vc V vf.m vf.af.body (Tm.ofList args) h (fun e F' h'=>(match e with | .exit _=>False | _=>True)/\OK (Cg F' h' vf.af.results) fun vs=>Q (Ku vs) h'):=by
 unfold Vb Vc Gx
 constructor
 .rintro ⟨n,v,h',k,q⟩
  split at k
  .rename_i F1 h1 hr
   split at k
   .rename_i vs hvs;cases k;exact ⟨n,_,_,_,hr,trivial,A0j.2 ⟨vs,hvs,q⟩⟩
   .cases k
  .rename_i F1 h1 hr
   split at k
   .rename_i vs hvs;cases k;exact ⟨n,_,_,_,hr,trivial,A0j.2 ⟨vs,hvs,q⟩⟩
   .cases k
  .cases k
 .rintro ⟨n,e,F1,h1,k,he,hq⟩
  obtain ⟨vs,hvs,q⟩:=A0j.1 hq
  cases e with
  | exit id=>exact he.elim
  | norm=>grind
  | ret=>grind
theorem Ab {g:Nat} {af:A3} {mm:Nat->Nat} (hx:V.ext g=none) (hf:V.fn g=some ⟨af,mm⟩) {args:List VV} {Q:VV->Prop} :
  VP V g args Q↔Vc V mm af.body (Tm.ofList args) [] (fun e F' h'=>(match e with | .exit _=>False | _=>True)/\OK (mk (Cg F' h' af.results)) fun vs=>JL (mk (frz h' dF (Ku vs))) fun r _=>Q r):=by
 unfold VP
 simp_all [SB,GD,E7]
theorem M1 {g:Nat} {af:A3} {mm:Nat->Nat} (hf:V.fn g=some ⟨af,mm⟩) {args:List VV} {b:Nat} {Q:VV->VH->Prop} :
  VP1 V g args b Q↔Vc V mm af.body (Tm.ofList args) [] (fun e F' h'=>(match e with | .exit _=>False | _=>True)/\OK (mk (Cg F' h' af.results)) fun vs=>JL (mk (Bo h' dF b (Ku vs))) fun r T=>(T.moved.Nodup/\∀ id∈T.moved,id∉T.frozen)/\Q r T.objs):=by
 simp_all [VP1,SB,GD,E7]
theorem H6 {g:Nat} {af:A3} {mm:Nat->Nat} (hf:V.fnH g=some ⟨af,mm⟩) {args:List VV} {Q:VV->VH->Prop} :
  LW V g args h Q↔Vc V mm af.body (Tm.ofList args) h (fun e F' h'=>(match e with | .exit _=>False | _=>True)/\OK (mk (Cg F' h' af.results)) fun vs=>Q (Ku vs) h'):=by
 simp_all [LW,SB,E7]
theorem CF {g:Nat} {af:A3} {mm:Nat->Nat} (hf:V.fnH g=some ⟨af,mm⟩) {args:List VV} {Q:VV->VH->Prop} :
  GF V g args h Q↔Vc V mm af.body (Tm.ofList args) h (fun e F' h'=>(match e with | .exit _=>False | _=>True)/\OK (mk (Cg F' h' af.results)) fun vs=>JL (mk (frz h' dF (Ku vs))) fun r ids=>L0 h.length h (Bf ids h')/\Q r ((Bf ids h').take h.length)):=by
 simp_all [GF,SB,GD,E7]
@[go_sem] theorem AlO (F:A2) (k:Nat) (v:VV):A2.tmp (Tm.set F k v) k=v:=by rw [Ht,if_pos rfl]
@[go_sem] theorem AlP (F:A2) (k:Nat) (v:VV) {j:Nat} (h:(j == k)=false):A2.tmp (Tm.set F k v) j=A2.tmp F j:=by
 simp_all [Ht]
attribute [go_sem] Ka Nat.reduceBeqDiff
def XR (l:List VV) (j:Nat):VV:=match l[j]? with | some v=>v | none=>VV.nul
@[go_sem] theorem Aei (l:List VV) (j:Nat):A2.tmp (Tm.ofList l) j=XR l j:=by
 grind [A2.tmp,XR,Tm.get_ofList]
@[go_sem] theorem Ake (j:Nat):XR [] j=VV.nul:=by simp [XR]
@[go_sem] theorem AhW (a:VV) (l:List VV):XR (a::l) 0=a:=by simp [XR]
@[go_sem] theorem AhV (a:VV) (l:List VV) (j:Nat):XR (a::l) (j+1)=XR l j:=by simp [XR]
@[go_sem] theorem AgQ (F:A2) (d:Nat) (v:VV):Bt F (some d) v=Tm.set F d v:=rfl
@[go_sem] theorem AgP (F:A2) (v:VV):Bt F none v=F:=rfl
@[go_sem] theorem A07 (F:A2) (n:Nat):A2.ev F (.t n)=A2.tmp F n:=rfl
@[go_sem] theorem Aeg (F:A2) (v:AV):A2.ev F (.c v)=Jx v:=rfl
@[go_sem] theorem Ahl (d:Nat):Dx m (some d)=m d:=rfl
@[go_sem] theorem Ahk:Dx m none=2:=rfl
@[go_sem] theorem Ao7 (x:Bool):Jx (.b x) = .b x:=rfl
@[go_sem] theorem A9W (k:IntKind) (n:Int):Jx (.i k n) = .i k n:=rfl
@[go_sem] theorem Ao9 (x:ByteArray):Jx (.s x) = .s x:=rfl
@[go_sem] theorem Al8 (w:BitVec 64):Jx (Wd w) = .i .u64 (w.toNat:Int):=rfl
@[go_sem] theorem Alc:Jx (.p none) = .np:=rfl
@[go_sem] theorem Alb:Jx (.sl none 0) = .nl:=rfl
@[go_sem] theorem Ala:Jx .nf = .nf:=rfl
@[go_sem] theorem Ao8 (g:Nat) (a c:List AV):Jx (.f g a c) = .f g (Cn a) (Cn c):=rfl
@[go_sem] theorem Al9 (c:List AV):Jx (.ag c) = .ag (Cn c):=rfl
@[go_sem] theorem Ald (c:List AV):Jx (.tu c) = .tu (Cn c):=rfl
@[go_sem] theorem Ahv:Cn []=[]:=rfl
@[go_sem] theorem Agf (v:AV) (vs:List AV):Cn (v::vs)=Jx v::Cn vs:=rfl
@[go_sem] theorem Ak8 (x:Bool):(VV.b x).cells=[.b x]:=rfl
@[go_sem] theorem Aka (k:IntKind) (x:Int):(VV.i k x).cells=[.i k x]:=rfl
@[go_sem] theorem Akc (x:ByteArray):(VV.s x).cells=[.s x]:=rfl
@[go_sem] theorem AhR:VV.nf.cells=[.nf]:=rfl
@[go_sem] theorem AhT:VV.np.cells=[.np]:=rfl
@[go_sem] theorem AhS:VV.nl.cells=[.nl]:=rfl
@[go_sem] theorem Akb (a b c d:Nat):(VV.p a b c d).cells=[.p a b c d]:=rfl
@[go_sem] theorem AhP (a:List VV) (c:Nat):(VV.fp a c).cells=[.fp a c]:=rfl
@[go_sem] theorem AhU (a b c d:Nat):(VV.sl a b c d).cells=[.sl a b c d]:=rfl
@[go_sem] theorem AhQ (r:List (List VV)):(VV.ls r).cells=[.ls r]:=rfl
@[go_sem] theorem Ak9 (g:Nat) (a c:List VV):(VV.f g a c).cells=[.f g a c]:=rfl
@[go_sem] theorem AhO (l:List VV):(VV.ag l).cells=l:=rfl
@[go_sem] theorem AlA (x:Bool):(VV.b x).cell=true:=rfl
@[go_sem] theorem AlC (k:IntKind) (x:Int):(VV.i k x).cell=true:=rfl
@[go_sem] theorem AlE (x:ByteArray):(VV.s x).cell=true:=rfl
@[go_sem] theorem Ak4:VV.nf.cell=true:=rfl
@[go_sem] theorem Ak6:VV.np.cell=true:=rfl
@[go_sem] theorem Ak5:VV.nl.cell=true:=rfl
@[go_sem] theorem AlD (a b c d:Nat):(VV.p a b c d).cell=true:=rfl
@[go_sem] theorem Ak2 (a:List VV) (c:Nat):(VV.fp a c).cell=true:=rfl
@[go_sem] theorem Ak7 (a b c d:Nat):(VV.sl a b c d).cell=true:=rfl
@[go_sem] theorem Ak3 (r:List (List VV)):(VV.ls r).cell=true:=rfl
@[go_sem] theorem AlB (g:Nat) (a c:List VV):(VV.f g a c).cell=true:=rfl
@[go_sem] theorem GO (a b:Nat):Nat.beq a b=decide (a=b):=by
 cases e:Nat.beq a b with
 | true=>rw [Nat.eq_of_beq_eq_true e];simp
 | false=>symm;rw [decide_eq_false_iff_not];rintro rfl;rw [Nat.beq_refl] at e;cases e
@[go_sem] theorem NL (a b:Nat):Nat.ble a b=decide (a<=b):=by
 grind [Nat.ble_eq]
@[go_sem] theorem A5B (a b:Nat):Nat.blt a b=decide (a < b):=NL _ _
def Vz (k:Nat) (v:VV) (h:VH):Option (VV×VH):=match k with
 | 2=>(match Ay h.length v.cells with
   | (ws,os)=>(match v with
    | .ag _=>some (.ag ws,h++os)
    | .nl=>(match ws with | [w]=>some (w,h++os) | _=>none)
    | v=>some (v,h)))
 | 5=>(match frz h dF v with
  | some (r,ids)=>some (r,Bf ids h)
  | none=>none)
 | _=>some (v,h)
@[go_sem ↓] theorem A60 {k:Nat} {x:Ak}:D1 k (.mov x) F h=Vz k (A2.ev F x) h:=rfl
@[go_sem] theorem A9N (v:VV):Vz 0 v h=some (v,h):=rfl
@[go_sem] theorem AnW (v:VV):Vz 5 v h=(match frz h 8 v with
  | some (r,ids)=>some (r,Bf ids h)
  | none=>none):=rfl
@[go_sem] theorem AnV (v:VV):Vz 1 v h=some (v,h):=rfl
@[go_sem] theorem AkZ:Vz 2 .nl h=some (.sl h.length 0 0 0,h++[some { ty:=0,esz:=0,ver:=0,nl:=true,rows:=[] }]):=rfl
@[go_sem] theorem AkX (cs:List VV):Vz 2 (.ag cs) h=some (.ag (Ay h.length cs).1,h++(Ay h.length cs).2):=rfl
@[go_sem] theorem Al0 (a b c d:Nat):Vz 2 (.sl a b c d) h=some (.sl a b c d,h):=rfl
@[go_sem] theorem AkY (l:List (List VV)):Vz 2 (.ls l) h=some (.ls l,h):=rfl
@[go_sem] theorem AnX (k:IntKind) (n:Int):Vz 2 (.i k n) h=some (.i k n,h):=rfl
def Aab (c a b:VV) (h:VH):Option (VV×VH):=match c with
 | .b t=>some (bif t then a else b,h)
 | _=>none
@[go_sem ↓] theorem Akh {k:Nat} {c a b:Ak}:D1 k (.pick c a b) F h=Aab (A2.ev F c) (A2.ev F a) (A2.ev F b) h:=rfl
@[go_sem] theorem Alg (a b:VV):Aab (.b true) a b h=some (a,h):=rfl
@[go_sem] theorem Alf (a b:VV):Aab (.b false) a b h=some (b,h):=rfl
def AbJ (k ty n:Nat) (cs:List VV) (h:VH):Option (VV×VH) :=
  bif Nat.beq cs.length n && cs.all VV.cell then
   match k with
   | 0=>(match ET h cs with
    | some (cs',ids)=>some (.fp cs' 0,Bf ids h)
    | none=>none)
   | 1=>some (.p h.length 0 0 0,h++[some { ty:=ty,esz:=0,ver:=0,nl:=false,rows:=[cs] }])
   | _=>(match Ay h.length cs with
    | (ws,os)=>some (.p (h++os).length 0 0 0,h++os++[some { ty:=ty,esz:=0,ver:=0,nl:=false,rows:=[ws] }]))
  else none
@[go_sem ↓] theorem AlF {k ty n:Nat} {x:Ak}:D1 k (.box ty n x) F h=AbJ k ty n (A2.ev F x).cells h:=rfl
@[go_sem] theorem AmG (ty n:Nat) (cs:List VV):AbJ 0 ty n cs h=bif decide (cs.length=n) && cs.all VV.cell then (match ET h cs with
        | some (cs',ids)=>some (.fp cs' 0,Bf ids h)
        | none=>none) else none:=by rw [<- GO];rfl
@[go_sem] theorem AmH (ty n:Nat) (cs:List VV):AbJ 1 ty n cs h=bif decide (cs.length=n) && cs.all VV.cell then some (.p h.length 0 0 0,h++[some { ty:=ty,esz:=0,ver:=0,nl:=false,rows:=[cs] }]) else none:=by rw [<- GO];rfl
@[go_sem] theorem AmI (ty n:Nat) (cs:List VV):AbJ 2 ty n cs h=bif decide (cs.length=n) && cs.all VV.cell then some (.p (h++(Ay h.length cs).2).length 0 0 0,h++(Ay h.length cs).2++[some { ty:=ty,esz:=0,ver:=0,nl:=false,rows:=[(Ay h.length cs).1] }]) else none:=by rw [<- GO];rfl
def agV (k:Nat) (r:Option (List VV)) (h:VH):Option (VV×VH):=match r with
 | some cs=>(match k with
  | 2=>(match Ay h.length cs with | (ws,os)=>some (.ag ws,h++os))
  | _=>some (.ag cs,h))
 | none=>none
@[go_sem ↓] theorem AhX {k:Nat} {z:List AV} {ps:List (Nat×Nat×Ak)}:D1 k (.build z ps) F h=agV k (DZ F (Cn z) ps) h:=rfl
@[go_sem] theorem Aiq (cs:List VV):agV 0 (some cs) h=some (.ag cs,h):=rfl
@[go_sem] theorem Ahf (cs:List VV):agV 1 (some cs) h=some (.ag cs,h):=rfl
@[go_sem] theorem Ahg (cs:List VV):agV 2 (some cs) h=some (.ag (Ay h.length cs).1,h++(Ay h.length cs).2):=rfl
def AeN (k ty esz len:Nat) (r:Option (List VV)) (h:VH):Option (VV×VH):=match r with
  | some cs=>bif Nat.beq cs.length (len * esz) && Nat.blt 0 esz && cs.all VV.cell then
    match k with
    | 0=>(match A2e h (CH esz len cs) with
     | some (rs,ids)=>some (.ls rs,Bf ids h)
     | none=>none)
    | _=>some (.sl h.length 0 0 len,h++[some { ty:=ty,esz:=esz,ver:=0,nl:=false,rows:=CH esz len cs }])
   else none
  | none=>none
@[go_sem ↓] theorem AlG {k ty esz len:Nat} {z:List AV} {ps:List (Nat×Nat×Ak)}:D1 k (.bsl ty esz len z ps) F h=AeN k ty esz len (DZ F (Cn z) ps) h:=rfl
@[go_sem] theorem AmJ (ty esz len:Nat) (cs:List VV):AeN 0 ty esz len (some cs) h=bif decide (cs.length=len * esz) && decide (0 < esz) && cs.all VV.cell then (match A2e h (CH esz len cs) with
          | some (rs,ids)=>some (.ls rs,Bf ids h)
          | none=>none) else none:=by rw [<- GO,<- A5B];rfl
@[go_sem] theorem AmK (ty esz len:Nat) (cs:List VV):AeN 1 ty esz len (some cs) h=bif decide (cs.length=len * esz) && decide (0 < esz) && cs.all VV.cell then some (.sl h.length 0 0 len,h++[some { ty:=ty,esz:=esz,ver:=0,nl:=false,rows:=CH esz len cs }]) else none:=by rw [<- GO,<- A5B];rfl
def stV (n:Nat) (a:VV) (cs:List VV) (h:VH):Option (VV×VH) :=
  bif Nat.beq cs.length n then (match vst h a cs with | some h'=>some (VV.nul,h') | none=>none) else none
@[go_sem ↓] theorem AoJ {k n:Nat} {a x:Ak}:D1 k (.st n a x) F h=stV n (A2.ev F a) (A2.ev F x).cells h:=rfl
def stO (id r c:Nat) (cs:List VV) (h:VH) (o:Option VO):Option (VV×VH):=match o with
 | some o=>(match o.rows[r]? with
   | some row=>bif Nat.ble (c+cs.length) row.length && cs.all VV.cell then some (VV.nul,h.set id (some { o with rows:=o.rows.set r (DY row c cs) })) else none
   | none=>none)
 | none=>none
@[go_sem] theorem ApC (n id ver r c:Nat) (cs:List VV):stV n (.p id ver r c) cs h=bif decide (cs.length=n) then stO id r c cs h (BW h id ver) else none:=by
 rw [<- GO]
 unfold stV stO vst
 grind
@[go_sem] theorem AjB (id r c:Nat) (cs:List VV) (o:VO):stO id r c cs h (some o)=(match o.rows[r]? with
      | some row=>bif decide (c+cs.length<=row.length) && cs.all VV.cell then some (VV.nul,h.set id (some { o with rows:=o.rows.set r (DY row c cs) })) else none
      | none=>none):=by
  unfold stO
  simp only [NL]
def A5D (v:VV) (h:VH):Option (VV×VH):=match v with
  | .p id ver r c=>some (.p id ver r c,h)
  | .fp cells c=>some (.fp cells c,h)
  | .f g a c=>some (.f g a c,h)
  | _=>none
@[go_sem ↓] theorem Akg {k:Nat} {x:Ak}:D1 k (.nilc x) F h=A5D (A2.ev F x) h:=rfl
@[go_sem] theorem Al6 (id ver r c:Nat):A5D (.p id ver r c) h=some (.p id ver r c,h):=rfl
@[go_sem] theorem Ajk (l:List VV) (c:Nat):A5D (.fp l c) h=some (.fp l c,h):=rfl
@[go_sem] theorem Al5 (g:Nat) (a c:List VV):A5D (.f g a c) h=some (.f g a c,h):=rfl
def Ajl (v:VV) (h:VH):Option (VV×VH):=match v with | .b t=>some (.b (!t),h) | _=>none
@[go_sem ↓] theorem AlN {k:Nat} {x:Ak}:D1 k (.not x) F h=Ajl (A2.ev F x) h:=rfl
@[go_sem] theorem Ao6 (t:Bool):Ajl (.b t) h=some (.b (!t),h):=rfl
def Ajh (v:VV) (h:VH):Option (VV×VH):=match v with | .i k n=>some (.i k (k.wrap (0 - n)),h) | _=>none
@[go_sem ↓] theorem AlM {k:Nat} {x:Ak}:D1 k (.neg x) F h=Ajh (A2.ev F x) h:=rfl
@[go_sem] theorem Ao5 (k:IntKind) (n:Int):Ajh (.i k n) h=some (.i k (k.wrap (0 - n)),h):=rfl
def A8m (k:IntKind) (v:VV) (h:VH):Option (VV×VH):=match v with | .i _ n=>some (.i k (k.wrap n),h) | _=>none
@[go_sem ↓] theorem Akf {k:Nat} {i:IntKind} {x:Ak}:D1 k (.conv i x) F h=A8m i (A2.ev F x) h:=rfl
@[go_sem] theorem AkI (k i:IntKind) (n:Int):A8m k (.i i n) h=some (.i k (k.wrap n),h):=rfl
def Ajf (m ty esz bytes:Nat) (zero:List AV) (l c:VV) (h:VH):Option (VV×VH):=match l,c with
  | .i .i64 n,.i .i64 k =>
   if 0<=n/\n<=k/\k.toNat * bytes<=A9 then
    bif Nat.beq zero.length esz && Nat.blt 0 esz && (Cn zero).all VV.cell then
     match m with
     | 0=>(match ET [] (Cn zero) with
      | some (z,_)=>some (.ls (List.replicate n.toNat z),h)
      | none=>none)
     | _=>some (.sl h.length 0 0 n.toNat,h++[some { ty:=ty,esz:=esz,ver:=0,nl:=false,rows:=List.replicate n.toNat (Cn zero) }])
    else none
   else none
  | _,_=>none
@[go_sem ↓] theorem AlK {k ty esz bytes:Nat} {z:List AV} {l c:Ak}:D1 k (.mks ty esz bytes z l c) F h=Ajf k ty esz bytes z (A2.ev F l) (A2.ev F c) h:=rfl
attribute [go_sem] Ajf
def faV (off:Nat) (v:VV) (h:VH):Option (VV×VH):=match v with
  | .p id ver r c=>some (.p id ver r (c+off),h)
  | .fp cells c=>some (.fp cells (c+off),h)
  | _=>none
@[go_sem ↓] theorem AoG {k off:Nat} {x:Ak}:D1 k (.fa off x) F h=faV off (A2.ev F x) h:=rfl
@[go_sem] theorem Apl (off id ver r c:Nat):faV off (.p id ver r c) h=some (.p id ver r (c+off),h):=rfl
@[go_sem] theorem Anw (off:Nat) (l:List VV) (c:Nat):faV off (.fp l c) h=some (.fp l (c+off),h):=rfl
def iaV (esz:Nat) (x i:VV) (h:VH):Option (VV×VH):=match x,i with
  | .ls rows,.i _ n=>if 0<=n then (match rows[n.toNat]? with
   | some row=>bif Nat.beq row.length esz then some (.fp row 0,h) else none
   | none=>none) else none
  | .sl id ver off len,.i _ n=>if 0<=n/\n < len then (match BW h id ver with
   | some o=>bif Nat.beq o.esz esz && !o.nl then some (.p id ver (off+n.toNat) 0,h) else none
   | none=>none) else none
  | _,_=>none
@[go_sem ↓] theorem AoH {k esz:Nat} {x i:Ak}:D1 k (.ia esz x i) F h=iaV esz (A2.ev F x) (A2.ev F i) h:=rfl
def iaR (esz:Nat) (row:Option (List VV)) (h:VH):Option (VV×VH):=match row with
      | some row=>bif decide (row.length=esz) then some (.fp row 0,h) else none
      | none=>none
@[go_sem] theorem AiZ (esz:Nat) (row:List VV):iaR esz (some row) h=bif decide (row.length=esz) then some (.fp row 0,h) else none:=rfl
@[go_sem] theorem AnK (esz:Nat) (rows:List (List VV)) (k:IntKind) (n:Int):iaV esz (.ls rows) (.i k n) h=if 0<=n then iaR esz rows[n.toNat]? h else none:=by
 simp only [iaV,iaR,GO]
@[go_sem] theorem AnL (esz id ver off len:Nat) (k:IntKind) (n:Int):iaV esz (.sl id ver off len) (.i k n) h=if 0<=n/\n < len then (match BW h id ver with
      | some o=>bif decide (o.esz=esz) && !o.nl then some (.p id ver (off+n.toNat) 0,h) else none
      | none=>none) else none:=by
  simp only [iaV,GO]
def Aff (len esz:Nat) (x i:VV) (h:VH):Option (VV×VH):=match x,i with
  | .p id ver r c,.i _ n=>if 0<=n/\n < len then some (.p id ver r (c+n.toNat * esz),h) else none
  | .fp cells c,.i _ n=>if 0<=n/\n < len then some (.fp cells (c+n.toNat * esz),h) else none
  | _,_=>none
@[go_sem ↓] theorem AlI {k len esz:Nat} {x i:Ak}:D1 k (.iaa len esz x i) F h=Aff len esz (A2.ev F x) (A2.ev F i) h:=rfl
@[go_sem] theorem AnM (len esz id ver r c:Nat) (k:IntKind) (n:Int):Aff len esz (.p id ver r c) (.i k n) h=if 0<=n/\n < len then some (.p id ver r (c+n.toNat * esz),h) else none:=rfl
@[go_sem] theorem AkS (len esz:Nat) (l:List VV) (c:Nat) (k:IntKind) (n:Int):Aff len esz (.fp l c) (.i k n) h=if 0<=n/\n < len then some (.fp l (c+n.toNat * esz),h) else none:=rfl
def ixV (x i:VV) (h:VH):Option (VV×VH):=match x,i with
  | .s s,.i _ n=>if 0<=n then (match s.data.toList[n.toNat]? with | some b=>some (.i .u8 b.toNat,h) | none=>none) else none
  | _,_=>none
@[go_sem ↓] theorem AoI {k:Nat} {x i:Ak}:D1 k (.ix x i) F h=ixV (A2.ev F x) (A2.ev F i) h:=rfl
@[go_sem] theorem Apv (s:ByteArray) (k:IntKind) (n:Int):ixV (.s s) (.i k n) h=if 0<=n then (match s.data.toList[n.toNat]? with | some b=>some (.i .u8 b.toNat,h) | none=>none) else none:=rfl
def AiS (v:VV) (i:Nat) (h:VH):Option (VV×VH):=match v with
  | .tu vs=>(match vs[i]? with | some v=>some (v,h) | none=>none)
  | _=>none
@[go_sem ↓] theorem AlH {k i:Nat} {x:Ak}:D1 k (.ext x i) F h=AiS (A2.ev F x) i h:=rfl
@[go_sem] theorem AkL (vs:List VV) (i:Nat):AiS (.tu vs) i h=(match vs[i]? with | some v=>some (v,h) | none=>none):=rfl
def A9v (s:Bool) (v:VV) (h:VH):Option (VV×VH):=match s,v with
  | true,.s s=>some (.i .i64 s.size,h)
  | false,x=>(match KX x with | some n=>some (.i .i64 n,h) | none=>none)
  | _,_=>none
@[go_sem ↓] theorem AlJ {k:Nat} {s:Bool} {x:Ak}:D1 k (.len s x) F h=A9v s (A2.ev F x) h:=by cases s<;>rfl
@[go_sem] theorem AnR (s:ByteArray):A9v true (.s s) h=some (.i .i64 s.size,h):=rfl
@[go_sem] theorem AkT (r:List (List VV)):A9v false (.ls r) h=some (.i .i64 r.length,h):=rfl
@[go_sem] theorem AkU:A9v false .nl h=some (.i .i64 (0:Nat),h):=rfl
@[go_sem] theorem AkV (a b c n:Nat):A9v false (.sl a b c n) h=some (.i .i64 n,h):=rfl
def Ag8 (mx:Bool) (x y:VV) (h:VH):Option (VV×VH):=match x,y with
  | .i k a,.i k' c=>if k=k' then some (.i k (Vw mx a c),h) else none
  | _,_=>none
@[go_sem ↓] theorem AlL {k:Nat} {mx:Bool} {x y:Ak}:D1 k (.mnx mx x y) F h=Ag8 mx (A2.ev F x) (A2.ev F y) h:=rfl
@[go_sem] theorem AnU (mx:Bool) (k:IntKind) (a c:Int):Ag8 mx (.i k a) (.i k c) h=some (.i k (Vw mx a c),h):=by simp only [Ag8,if_true]
def ldR (n:Option Nat) (c:Nat) (row:List VV):Option VV:=match n with
  | none=>row[c]?
  | some n=>bif decide (c+n<=row.length) then some (.ag ((row.drop c).take n)) else none
@[go_sem] theorem Ajc (c:Nat) (row:List VV):ldR none c row=row[c]?:=rfl
@[go_sem] theorem Ajd (n c:Nat) (row:List VV):ldR (some n) c row=bif decide (c+n<=row.length) then some (.ag ((row.drop c).take n)) else none:=rfl
@[go_sem] theorem AoF (n:Option Nat) (cells:List VV) (c:Nat):vld h n (.fp cells c)=ldR n c cells:=by
 grind [vld,A3g,ldR,NL]
def ldO (n:Option Nat) (r c:Nat) (o:Option VO):Option VV:=match o with
 | some o=>(match o.rows[r]? with
  | some row=>ldR n c row
  | none=>none)
 | none=>none
@[go_sem] theorem ApM (n:Option Nat) (id ver r c:Nat):vld h n (.p id ver r c)=ldO n r c (BW h id ver):=by
 unfold vld A3g ldO
 grind [ldR,NL]
@[go_sem] theorem Ajb (n:Option Nat) (r c:Nat) (o:VO):ldO n r c (some o)=(match o.rows[r]? with
  | some row=>ldR n c row
  | none=>none):=rfl
attribute [go_sem] DZ DY BW KX Ay CH Cg Ku
attribute [go_sem] Nat.reduceEqDiff Nat.reduceLeDiff Nat.reduceLT Nat.reduceAdd Nat.reduceMul Nat.reduceSub Nat.lt_irrefl
attribute [go_sem] List.getElem?_cons_zero List.getElem?_cons_succ List.getElem?_nil List.set_cons_zero List.set_cons_succ List.getElem?_map List.length_map List.length_append List.flatten_cons
@[go_sem] theorem AiW (h:VH) (vs:List VV):ET h vs=Bk (frz h 8) vs:=rfl
@[go_sem] theorem AiX (h:VH) (vs:List (List VV)):A2e h vs=Bk (fun row=>Bk (frz h 8) row) vs:=rfl
attribute [go_sem] Bk
section
variable {d:Nat}
@[go_sem] theorem Apo (x:Bool):frz h (d+1) (.b x)=some (.b x,[]):=rfl
@[go_sem] theorem Apq (k:IntKind) (x:Int):frz h (d+1) (.i k x)=some (.i k x,[]):=rfl
@[go_sem] theorem Aps (x:ByteArray):frz h (d+1) (.s x)=some (.s x,[]):=rfl
@[go_sem] theorem AnC:frz h (d+1) .nf=some (.nf,[]):=rfl
@[go_sem] theorem AnE:frz h (d+1) .np=some (.np,[]):=rfl
@[go_sem] theorem AnD:frz h (d+1) .nl=some (.ls [],[]):=rfl
@[go_sem] theorem AnB (r:List (List VV)):frz h (d+1) (.ls r)=some (.ls r,[]):=rfl
@[go_sem] theorem AnA (r:List VV) (c:Nat):frz h (d+1) (.fp r c)=some (.fp r c,[]):=rfl
@[go_sem] theorem Apr (id ver r c:Nat):frz h (d+1) (.p id ver r c)=(match BW h id ver with
      | some o=>(match o.rows[r]? with
        | some row=>(match Bk (frz h d) row with
          | some (cs,ids)=>some (.fp cs c,id::ids)
          | none=>none)
        | none=>none)
      | none=>none):=rfl
@[go_sem] theorem AnF (id ver off n:Nat):frz h (d+1) (.sl id ver off n)=(match BW h id ver with
      | some o=>bif Nat.ble (off+n) o.rows.length && (Nat.blt 0 o.esz || o.nl) then
          (match Bk (fun row=>Bk (frz h d) row) ((o.rows.drop off).take n) with
          | some (rs,ids)=>some (.ls rs,id::ids)
          | none=>none) else none
      | none=>none):=rfl
@[go_sem] theorem App (g:Nat) (a c:List VV):frz h (d+1) (.f g a c)=(match Bk (frz h d) a,Bk (frz h d) c with
      | some (a',i1),some (c',i2)=>some (.f g a' c',i1++i2)
      | _,_=>none):=rfl
@[go_sem] theorem Anz (cs:List VV):frz h (d+1) (.ag cs)=(match Bk (frz h d) cs with
      | some (cs',is)=>some (.ag cs',is)
      | none=>none):=rfl
@[go_sem] theorem AnG (cs:List VV):frz h (d+1) (.tu cs)=(match Bk (frz h d) cs with
      | some (cs',is)=>some (.tu cs',is)
      | none=>none):=rfl
end
@[go_sem] theorem Zd {α β:Type} {f:α->β} {g:β->Option (β×List Nat)} {l:List α} (hg:∀ x,g (f x)=some (f x,[])):Bk g (l.map f)=some (l.map f,[]):=by
 induction l with
 | nil=>rfl
 | cons x xs ih=>grind [Bk]
@[go_sem] theorem Aje {β:Type} {z:β} {g:β->Option (β×List Nat)} {n:Nat} (hg:g z=some (z,[])):Bk g (List.replicate n z)=some (List.replicate n z,[]):=by
 induction n with
 | zero=>rfl
 | succ n ih=>grind [Bk]
@[go_sem] theorem Aj3 (h:VH):Bf [] h=h:=rfl
@[go_sem] theorem Ahp (i:Nat) (l:List Nat) (h:VH):Bf (i::l) h=Bf l (h.set i none):=rfl
@[go_sem] theorem Aog (x:Bool):scal (.b x)=true:=rfl
@[go_sem] theorem Aoi (k:IntKind) (x:Int):scal (.i k x)=true:=rfl
@[go_sem] theorem Aoj (x:ByteArray):scal (.s x)=true:=rfl
@[go_sem] theorem Alk:scal .nf=true:=rfl
@[go_sem] theorem Alm:scal .np=true:=rfl
@[go_sem] theorem Alj (r:List (List VV)):scal (.ls r)=false:=rfl
@[go_sem] theorem Ali (r:List VV) (c:Nat):scal (.fp r c)=false:=rfl
@[go_sem] theorem Alh (r:List VV):scal (.ag r)=false:=rfl
@[go_sem] theorem Aoh (g:Nat) (a c:List VV):scal (.f g a c)=false:=rfl
@[go_sem] theorem Aln (r:List VV):scal (.tu r)=LN r:=rfl
@[go_sem] theorem AhC:LN []=true:=rfl
@[go_sem] theorem Agu (v:VV) (r:List VV):LN (v::r)=(scal v && LN r):=rfl
@[go_sem] theorem Ahj {α:Type} (b:Bool) (x:α):(bif b then x else x)=x:=by cases b<;>rfl
@[go_sem] theorem A2P {α:Type} {f:α->List VV} {e:Nat} {l:List α} (hf:∀ x,(f x).length=e):D9 e (l.map f)=true:=by
 unfold D9
 simp_all
@[go_sem] theorem Agg {e:Nat}:D9 e []=true:=rfl
@[go_sem] theorem Ae8 {e:Nat} (r:List VV) (rs:List (List VV)):D9 e (r::rs)=(Nat.beq r.length e && D9 e rs):=rfl
@[go_sem] theorem Agh {e n:Nat} {z:List VV} (hz:z.length=e):D9 e (List.replicate n z)=true:=by
 grind [D9,Nat.beq_refl]
attribute [go_sem] J5 A7y QL
@[go_sem] theorem Ahr {α β:Type} (f:α->β) (n:Nat) (l:List α):(l.map f).drop n=(l.drop n).map f:=(List.map_drop ..).symm
@[go_sem] theorem Ahs {α β:Type} (f:α->β) (n:Nat) (l:List α):(l.map f).take n=(l.take n).map f:=(List.map_take ..).symm
@[go_sem] theorem AhF {α:Type} (l:List α):l.take l.length=l:=List.take_length
attribute [go_sem] drop_zero length_cons length_nil all_cons List.all_nil List.take_succ_cons List.take_zero List.drop_succ_cons List.take_nil List.drop_nil Nat.zero_add Nat.add_zero Nat.le_refl Nat.sub_zero Nat.zero_le List.length_replicate List.length_take List.length_drop
@[go_sem] theorem Adc (L:Nat) (h:VH):L0 L [] h=True:=by cases h<;>rfl
def okB (L:Nat) (o':Option VO):Bool:=match o' with | none=>true | some x=>x.rows.all (CA L)
@[go_sem] theorem Ajo (L:Nat):okB L none=true:=rfl
@[go_sem] theorem Ajp (L:Nat) (x:VO):okB L (some x)=x.rows.all (CA L):=rfl
@[go_sem] theorem GG {α:Type} {f:α->List VV} {L:Nat} {l:List α} (hf:∀ x,CA L (f x)=true):(l.map f).all (CA L)=true:=by
 grind
@[go_sem] theorem AdT {L n:Nat} {z:List VV} (hf:CA L z=true):(List.replicate n z).all (CA L)=true:=by
 grind
@[go_sem] theorem Zy (L:Nat) (o o':Option VO) (h h':VH):L0 L (o::h) (o'::h')=((o=o'\/okB L o' = true)/\L0 L h h'):=by
 show ((o=o'\/∀ x,o' = some x->x.rows.all (CA L)=true)/\L0 L h h')=_
 congr 2
 apply propext
 cases o' with
 | none=>simp [okB]
 | some x=>simp [okB]
def Fz (a:List VV):Prop:=∀ h d,Bk (frz h (d+3)) a=some (a,[])
theorem Zb {α:Type} {f:α->Option (α×List Nat)}:∀ {a b:List α},Bk f a=some (a,[])->Bk f b=some (b,[])->Bk f (a++b)=some (a++b,[]):=by
 intro a
 induction a with
 | nil=>intro b _ h;exact h
 | cons x xs ih =>
  intro b h1 h2
  simp only [Bk] at h1
  split at h1
  .rename_i y i ys is e1 e2
   simp only [Option.some.injEq,Prod.mk.injEq,List.cons.injEq,List.append_eq_nil_iff] at h1
   obtain ⟨⟨rfl,rfl⟩,rfl,rfl⟩:=h1
   grind [Bk]
  .cases h1
theorem Fz.call {a c x:List VV} (ha:Fz a) (hc:Fz c) {h:VH} (hx:Bk (frz h 8) x=some (x,[])):Bk (frz h 8) (a++x++c)=some (a++x++c,[]):=Zb (Zb (ha h 5) hx) (hc h 5)
theorem Js {L:Nat} {h:VH} {d:Nat}:∀ {a:List VV},Bk (frz h d) a=some (a,[])->(∀ v,frz h d v=some (v,[])->bel L v=true)->CA L a=true:=by
 intro a
 induction a with
 | nil=>intro _ _;rfl
 | cons x xs ih =>
  intro h1 h2
  simp only [Bk] at h1
  split at h1
  .rename_i y i ys is e1 e2
   simp only [Option.some.injEq,Prod.mk.injEq,List.cons.injEq,List.append_eq_nil_iff] at h1
   obtain ⟨⟨rfl,rfl⟩,rfl,rfl⟩:=h1
   grind [CA]
  .cases h1
theorem A40 {L:Nat} {h:VH}:∀ {d:Nat} {v:VV},frz h d v=some (v,[])->bel L v=true:=by
 intro d
 induction d with
 | zero=>intro v e;simp [frz] at e
 | succ d ih =>
  intro v e
  cases v with
  | p id ver r c =>
   grind [frz]
  | sl id ver off n =>
   simp only [frz] at e
   grind
  | f g a c =>
   simp only [frz] at e
   split at e
   .rename_i a' i1 c' i2 h1 h2
    simp only [Option.some.injEq,Prod.mk.injEq,VV.f.injEq,true_and,List.append_eq_nil_iff] at e
    obtain ⟨⟨rfl,rfl⟩,rfl,rfl⟩:=e
    grind [bel,Js]
   .cases e
  | ag cs =>
   simp only [frz] at e
   split at e
   .rename_i cs' is h1
    simp only [Option.some.injEq,Prod.mk.injEq,VV.ag.injEq] at e
    obtain ⟨rfl,rfl⟩:=e
    grind [bel,Js]
   .cases e
  | tu cs =>
   simp only [frz] at e
   split at e
   .rename_i cs' is h1
    simp only [Option.some.injEq,Prod.mk.injEq,VV.tu.injEq] at e
    obtain ⟨rfl,rfl⟩:=e
    grind [bel,Js]
   .cases e
  | _=>rfl
theorem Fz.bel {L:Nat} {a:List VV} (ha:Fz a):CA L a=true:=Js (ha [] 0) fun v=>A40
theorem Fz.nil:Fz []:=fun _ _=>rfl
@[go_sem] theorem Fz.eq {a:List VV} (ha:Fz a) {h:VH} {d:Nat}:Bk (frz h (d+3)) a=some (a,[]):=ha h d
@[go_sem] theorem Zz (L:Nat) (h g:VH):L0 L h (h++g)=True:=by
 induction h with
 | nil=>simp only [Adc]
 | cons o h ih=>simp only [cons_append,Zy,ih,true_or,true_and]
@[go_sem] theorem Ajr (L:Nat) (h:VH):L0 L h h=True:=by
 have:=Zz L h []
 rwa [append_nil] at this
@[go_sem] theorem Ape (L:Nat) (x:Bool):Lh L (.b x) = .b x:=rfl
@[go_sem] theorem AdU (L:Nat) (k:IntKind) (x:Int):Lh L (.i k x) = .i k x:=rfl
@[go_sem] theorem Apg (L:Nat) (x:ByteArray):Lh L (.s x) = .s x:=rfl
@[go_sem] theorem AmT (L:Nat):Lh L .nf = .nf:=rfl
@[go_sem] theorem AmV (L:Nat):Lh L .np = .np:=rfl
@[go_sem] theorem AmU (L:Nat):Lh L .nl = .nl:=rfl
@[go_sem] theorem AmS (L:Nat) (r:List (List VV)):Lh L (.ls r) = .ls r:=rfl
@[go_sem] theorem AmR (L:Nat) (r:List VV) (c:Nat):Lh L (.fp r c) = .fp r c:=rfl
@[go_sem] theorem AiD (L:Nat):Lh L VV.nul=VV.nul:=A3w L
@[go_sem] theorem Apf (L id ver r c:Nat):Lh L (.p id ver r c)=(bif Nat.blt id L then .p id ver r c else .un):=rfl
@[go_sem] theorem AmW (L id ver r c:Nat):Lh L (.sl id ver r c)=(bif Nat.blt id L then .sl id ver r c else .un):=rfl
@[go_sem] theorem AmQ (L:Nat) (l:List VV):Lh L (.ag l)=(bif CA L l then .ag l else .un):=rfl
@[go_sem] theorem A8i (L g:Nat) (a c:List VV):Lh L (.f g a c)=(bif CA L a && CA L c then .f g a c else .un):=rfl
attribute [go_sem] bel CA
section
variable {e:Option NP} {k:IntKind} {a c:Int}
@[go_sem] theorem A05:B6 .add e (.i k a) (.i k c)=some (.i k (k.wrap (a+c))):=by simp [B6,B2,EQ,Gm]
@[go_sem] theorem Ak1:B6 .sub e (.i k a) (.i k c)=some (.i k (k.wrap (a - c))):=by simp [B6,B2,EQ,Gm]
@[go_sem] theorem AjX:B6 .mul e (.i k a) (.i k c)=some (.i k (k.wrap (a * c))):=by simp [B6,B2,EQ,Gm]
theorem Gv (h:c≠0):B6 .rem e (.i k a) (.i k c)=some (.i k (a.tmod c)):=by simp [B6,B2,EQ,h,Gm]
@[go_sem] theorem AjR:B6 .eql e (.i k a) (.i k c)=some (.b (decide (a=c))):=by simp only [B6,Yi,bind_some,Gm]
@[go_sem] theorem AjY:B6 .neq e (.i k a) (.i k c)=some (.b (!decide (a=c))):=by simp only [B6,Yj,bind_some,Gm]
@[go_sem] theorem AaM:B6 .lss e (.i k a) (.i k c)=some (.b (decide (a < c))):=by simp only [B6,A88,bind_some,Gm]
@[go_sem] theorem AjW:B6 .leq e (.i k a) (.i k c)=some (.b (decide (a<=c))):=by simp only [B6,A87,bind_some,Gm]
@[go_sem] theorem AjV:B6 .gtr e (.i k a) (.i k c)=some (.b (decide (c < a))):=by simp only [B6,A86,bind_some,Gm]
@[go_sem] theorem AjU:B6 .geq e (.i k a) (.i k c)=some (.b (decide (c<=a))):=by simp only [B6,A85,bind_some,Gm]
@[go_sem] theorem AhK (x y:Bool):B6 .eql (some .b) (.b x) (.b y)=some (.b (x == y)):=rfl
@[go_sem] theorem AhM (x y:Bool):B6 .neq (some .b) (.b x) (.b y)=some (.b (!(x == y))):=rfl
@[go_sem] theorem AhL (x y:ByteArray):B6 .eql e (.s x) (.s y)=some (.b (decide (x=y))):=by simp only [B6,A6t,bind_some,Gm]
@[go_sem] theorem AhN (x y:ByteArray):B6 .neq e (.s x) (.s y)=some (.b (!decide (x=y))):=by simp only [B6,A6u,bind_some,Gm]
@[go_sem] theorem AjZ:B6 .eql (some .p) .np .np=some (.b true):=rfl
@[go_sem] theorem Ak0:B6 .neq (some .p) .np .np=some (.b false):=rfl
@[go_sem] theorem Aly (i v r c:Nat):B6 .eql (some .p) (.p i v r c) .np=some (.b false):=rfl
@[go_sem] theorem Alz (i v r c:Nat):B6 .neq (some .p) (.p i v r c) .np=some (.b true):=rfl
@[go_sem] theorem AjS (l:List VV) (c:Nat):B6 .eql (some .p) (.fp l c) .np=some (.b false):=rfl
@[go_sem] theorem AjT (l:List VV) (c:Nat):B6 .neq (some .p) (.fp l c) .np=some (.b true):=rfl
@[go_sem] theorem Alx:B6 .eql (some .s) .nl .nl=some (.b true):=rfl
def vW (w:BitVec 64):VV:=.i .u64 (w.toNat:Int)
variable {x y:BitVec 64}
@[go_sem] theorem Aoz:VV.i .u64 (x.toNat:Int)=vW x:=rfl
@[go_sem] theorem Aqz:VV.i .u64 0=vW 0#64:=rfl
@[go_sem] theorem AqA:VV.i .u64 1=vW 1#64:=rfl
theorem QK {op:BinOp} {w:BitVec 64} (hb:B2 op e (Wd x) (Wd y)=some (Wd w)):B6 op e (vW x) (vW y)=some (vW w):=by
 show (B2 op e (Wd x) (Wd y)).bind Gm=_
 rw [hb];rfl
theorem A5Y {op:BinOp} {w:Bool} (hb:B2 op e (Wd x) (Wd y)=some (.b w)):B6 op e (vW x) (vW y)=some (.b w):=by
 show (B2 op e (Wd x) (Wd y)).bind Gm=_
 rw [hb];rfl
@[go_sem] theorem Aox:B6 .and e (vW x) (vW y)=some (vW (x &&& y)):=QK Yk
@[go_sem] theorem ApL:B6 .or e (vW x) (vW y)=some (vW (x ||| y)):=QK AbH
@[go_sem] theorem AhI:B6 .andNot e (vW x) (vW y)=some (vW (x &&& ~~~y)):=QK Yl
@[go_sem] theorem AoD:B6 .sub e (vW x) (vW y)=some (vW (x - y)):=QK A8f
@[go_sem] theorem Aow:B6 .add e (vW x) (vW y)=some (vW (x+y)):=QK A8a
@[go_sem] theorem AoA:B6 .eql e (vW x) (vW y)=some (.b (decide (x=y))):=A5Y A8b
@[go_sem] theorem AoC:B6 .neq e (vW x) (vW y)=some (.b (!decide (x=y))):=A5Y A8c
theorem AgI {n:Nat} (h:n < 64):B6 .shl e (vW x) (.i .i64 n)=some (vW (x <<< n)):=by
 show (B2 .shl e (Wd x) (.i .i64 n)).bind Gm=_
 rw [A8d h];rfl
@[go_sem] theorem Alr:(vW x).cell=true:=rfl
@[go_sem] theorem AjQ:(vW x).cells=[vW x]:=rfl
@[go_sem] theorem AoB {d:Nat}:frz h (d+1) (vW x)=some (vW x,[]):=rfl
@[go_sem] theorem Als:scal (vW x)=true:=rfl
@[go_sem] theorem Aoy {L:Nat}:bel L (vW x)=true:=rfl
@[go_sem] theorem ApK {L:Nat}:Lh L (vW x)=vW x:=rfl
end
def A3d:List VV->Option VV
 | [.i .u64 n]=>if 0<=n/\n < 18446744073709551616 then some (.i .i64 (Lib.ctz 64 n.toNat:Nat)) else none
 | _=>none
def XZ (F:A2) (h:VH) (d:Nat) (n:Option Nat) (a:Nat):Prop:=Cr (A2.tmp F d)=true/\vld h n (A2.tmp F a)=some (A2.tmp F d)
def A6v (v:VV) (w:Bool) (P:Prop):Prop:=match v with
 | .b x=>(bif x == w then P else True)
 | .tu []=>True
 | _=>False
@[go_sem] theorem AkH {P:Prop}:A6v (.b true) true P↔P:=Iff.rfl
@[go_sem] theorem AkE {P:Prop}:A6v (.b false) false P↔P:=Iff.rfl
@[go_sem] theorem AkG {P:Prop}:A6v (.b true) false P↔True:=Iff.rfl
@[go_sem] theorem AkF {P:Prop}:A6v (.b false) true P↔True:=Iff.rfl
@[go_sem] theorem AiC {w:Bool} {P:Prop}:A6v VV.nul w P↔True:=Iff.rfl
@[go_sem ↓] theorem AdG {L:J7}:BK F h L []↔True:=Iff.rfl
@[go_sem ↓] theorem AgR {L:J7} {d a:Nat} {n:Option Nat} {r:List Ap}:BK F h L (o d (.ld n (.t a))::r)↔((d,n,a)∈L\/XZ F h d n a)/\BK F h L r:=Iff.rfl
@[go_sem ↓] theorem Aeh {L:J7} {d t a:Nat} {w:Bool} {n:Option Nat} {r:List Ap}:BK F h L (og d t w (.ld n (.t a))::r)↔A6v (A2.tmp F t) w ((d,n,a)∈L\/XZ F h d n a)/\BK F h L r:=by
 show (match Ci F (some (t,w)) with | some false=>True | some true=>_ | none=>False)/\_↔_
 refine and_congr ?_ Iff.rfl
 simp only [Ci]
 generalize A2.tmp F t=v
 cases v with
 | b x=>cases x<;>cases w<;>exact Iff.rfl
 | tu vs=>cases vs<;>exact Iff.rfl
 | _=>exact Iff.rfl
attribute [go_sem] MA KY CY AeG GH YW Ci List.filter_cons List.filter_nil mem_cons not_mem_nil
attribute [go_sem] decide_true decide_false Bool.not_true Bool.not_false Bool.and_true Bool.true_and Bool.and_false Bool.false_and Bool.or_true Bool.true_or Bool.or_false Bool.false_or cond_true cond_false not_true_eq_false not_false_eq_true if_true if_false false_and and_false exists_false imp_false
attribute [go_sem] or_false false_or or_self ite_true ite_false
attribute [go_sem] VV.b.injEq VV.i.injEq VV.s.injEq VV.ls.injEq VV.sl.injEq VV.p.injEq VV.fp.injEq VV.f.injEq VV.ag.injEq VV.tu.injEq Option.some.injEq Prod.mk.injEq true_and and_true and_self true_or or_true
 map_cons map_nil append_nil nil_append cons_append Option.map_some Option.map_none decide_eq_true_eq decide_eq_false_iff_not forall_const Bool.not_eq_true Bool.not_eq_false reduceCtorEq false_implies implies_true
 Int.toNat_natCast Int.natCast_nonneg Int.ofNat_lt Int.ofNat_le
end
section
variable {V:Ae} {m:Nat->Nat}
theorem EN {k:Nat} (h:k < 9223372036854775807):IntKind.i64.wrap ((k:Int)+1)=((k+1:Nat):Int):=by grind [AR]
theorem Ac {i n c d B C:Nat} {body:A4} (hne:c≠i/\c≠n/\d≠n/\i≠n/\m i=0) (N:Nat) (hN:N < 9223372036854775807) (I:Nat->A2->VH->Prop) {Q:Ex->A2->VH->Prop}
  (step:∀ k F h,k < N->A2.tmp F i = .i .i64 k->A2.tmp F n = .i .i64 N->I k F h ->
   Vc V m body (Tm.set F c (.b true)) h (fun e F' h'=>match e with
    | .norm=>A2.tmp F' i = .i .i64 k/\A2.tmp F' n = .i .i64 N/\L0 h.length h h'/\∀ v,I (k+1) (E4 h.length (Tm.set (Tm.set F' d v) i v)) (h'.take h.length)
    | .exit x=>(bif Nat.beq x C then A2.tmp F' i = .i .i64 k/\A2.tmp F' n = .i .i64 N/\L0 h.length h h'/\∀ v,I (k+1) (E4 h.length (Tm.set (Tm.set F' d v) i v)) (h'.take h.length) else bif Nat.beq x B then Q .norm F' h' else Q (.exit x) F' h')
    | .ret=>Q .ret F' h'))
  (done:∀ F h,I N F h->Q .norm (Tm.set F c (.b false)) h) :
  ∀ k F h,k<=N->A2.tmp F i = .i .i64 k->A2.tmp F n = .i .i64 N->I k F h ->
   VL V m B (.seq (.reg [o c (.bin .lss none (.t i) (.t n))]) (.seq (.cond (.t c) .skip (.exit B)) (.seq (.block C body) (.reg [o d (.bin .add none (.t i) (.c (.i .i64 1))),o i (.mov (.t d))])))) F h Q:=by
 obtain ⟨hci,hcn,hdn,hin,hm⟩:=hne
 intro k F h hk h1 h2 h3
 unfold VL
 rw [A0]
 refine AU (M:=Nat) (I:=fun k F h=>k<=N/\A2.tmp F i = .i .i64 k/\A2.tmp F n = .i .i64 N/\I k F h) (μ:=fun k=>N - k) ?_ k F h ⟨hk,h1,h2,h3⟩
 rintro k F h ⟨hk,h1,h2,h3⟩
 rw [Kx,SC,A7V,A0m]
 simp only [A07,h1,h2,AaM,Sv,E7,P2]
 rw [Kx,A3m]
 simp only [A07,Ht,if_true,E7]
 rcases Nat.lt_or_ge k N with hlt | hge
 .have:decide ((k:Int) < N)=true:=by simp;omega
  rw [this,AdQ,A3p]
  simp only
  rw [Kx,A0]
  refine (step k F h hlt h1 h2 h3).mono fun e F' h' hq=>?_
  have fin:(A2.tmp F' i = .i .i64 k/\A2.tmp F' n = .i .i64 N/\L0 h.length h h'/\∀ v,I (k+1) (E4 h.length (Tm.set (Tm.set F' d v) i v)) (h'.take h.length)) ->
    Vc V m (.reg [o d (.bin .add none (.t i) (.c (.i .i64 1))),o i (.mov (.t d))]) F' h' (fun e F' h'=>match e with
     | .norm=>L0 h.length h h'/\∃ m',N - m' < N - k/\m'<=N/\A2.tmp (E4 h.length F') i = .i .i64 m'/\A2.tmp (E4 h.length F') n = .i .i64 N/\I m' (E4 h.length F') (h'.take h.length)
     | .exit id'=>(bif Nat.beq id' B then Q .norm F' h' else Q (.exit id') F' h')
     | e=>Q e F' h'):=by
   rintro ⟨g1,g2,g3,g4⟩
   rw [SC,A7V,A0m]
   simp only [A07,Aeg,A9W,g1,A05,Sv,E7,A7V,hm,A3q,A60,A9N,Y5,E7,P2,Ht,if_true,Ka,if_neg hin.symm,if_neg hdn.symm,g2,AdU]
   rw [EN (by omega)]
   grind
  cases e with
  | norm=>grind
  | ret=>exact hq
  | exit x =>
   grind
 .have hkN:k=N:=by omega
  subst hkN
  have:decide ((k:Int) < k)=false:=by simp
  simp_all [AdP,A3n]
theorem Al {i c d1 d2 B C:Nat} {pre:List Ap} {body:A4} (hne:m d1=0/\m i=0) (N:Nat) (hN:N < 9223372036854775807) (I:Nat->A2->VH->Prop) {Q:Ex->A2->VH->Prop}
  (hpre:∀ k F h,k<=N->A2.tmp F i = .i .i64 k->I k F h->Vr V m pre F h (fun F' h'=>A2.tmp F' c = .b (decide (k < N))/\A2.tmp F' i = .i .i64 k/\h' = h/\I k F' h))
  (step:∀ k F h,k < N->A2.tmp F i = .i .i64 k->I k F h ->
   Vc V m body F h (fun e F' h'=>match e with
    | .norm=>A2.tmp F' i = .i .i64 k/\L0 h.length h h'/\∀ v w,I (k+1) (E4 h.length (Tm.set (Tm.set (Tm.set F' d1 v) d2 w) i w)) (h'.take h.length)
    | .exit x=>(bif Nat.beq x C then A2.tmp F' i = .i .i64 k/\L0 h.length h h'/\∀ v w,I (k+1) (E4 h.length (Tm.set (Tm.set (Tm.set F' d1 v) d2 w) i w)) (h'.take h.length) else bif Nat.beq x B then Q .norm F' h' else Q (.exit x) F' h')
    | .ret=>Q .ret F' h'))
  (done:∀ F h,I N F h->Q .norm F h) :
  ∀ k F h,k<=N->A2.tmp F i = .i .i64 k->I k F h ->
   VL V m B (.seq (.seq (.reg pre) (.cond (.t c) .skip (.exit B))) (.seq (.block C body) (.reg [o d1 (.mov (.t i)),o d2 (.bin .add none (.t d1) (.c (.i .i64 1))),o i (.mov (.t d2))]))) F h Q:=by
 obtain ⟨hm1,hm2⟩:=hne
 intro k F h hk h1 h3
 unfold VL
 rw [A0]
 refine AU (M:=Nat) (I:=fun k F h=>k<=N/\A2.tmp F i = .i .i64 k/\I k F h) (μ:=fun k=>N - k) ?_ k F h ⟨hk,h1,h3⟩
 rintro k F h ⟨hk,h1,h3⟩
 rw [Kx,Kx,SC]
 obtain ⟨n,F1,h',hr,hc,hi,rfl,hI⟩:=hpre k F h hk h1 h3
 refine ⟨n,F1,h',hr,?_⟩
 simp only
 rw [A3m]
 simp only [A07,hc,E7]
 rcases Nat.lt_or_ge k N with hlt | hge
 .rw [decide_eq_true hlt,AdQ,A3p]
  simp only
  rw [Kx,A0]
  refine (step k F1 h' hlt hi hI).mono fun e F' h2 hq=>?_
  have fin:(A2.tmp F' i = .i .i64 k/\L0 h'.length h' h2/\∀ v w,I (k+1) (E4 h'.length (Tm.set (Tm.set (Tm.set F' d1 v) d2 w) i w)) (h2.take h'.length)) ->
    Vc V m (.reg [o d1 (.mov (.t i)),o d2 (.bin .add none (.t d1) (.c (.i .i64 1))),o i (.mov (.t d2))]) F' h2 (fun e F' h2=>match e with
     | .norm=>L0 h'.length h' h2/\∃ m',N - m' < N - k/\m'<=N/\A2.tmp (E4 h'.length F') i = .i .i64 m'/\I m' (E4 h'.length F') (h2.take h'.length)
     | .exit id'=>(bif Nat.beq id' B then Q .norm F' h2 else Q (.exit id') F' h2)
     | e=>Q e F' h2):=by
   rintro ⟨g1,g3,g4⟩
   rw [SC,A7V]
   simp only [hm1,A3q,A60,A9N,Y5,E7,A07,Aeg,A9W,g1,A7V,A0m,Ht,if_true,A05,Sv,E7,hm2,P2,Ka,AdU]
   rw [EN (by omega)]
   grind
  cases e with
  | norm=>grind
  | ret=>exact hq
  | exit x =>
   grind
 .have hkN:k=N:=by omega
  subst hkN
  have:decide (k < k)=false:=by simp
  simp_all [AdP,A3n]
end
abbrev eI (x:Int):List VV:=[.i .i64 x]
abbrev eW (x:BitVec 64):List VV:=[vW x]
abbrev eS (x:ByteArray):List VV:=[.s x]
abbrev eU (x:U8):List VV:=[.i .u8 (x.n:Int)]
abbrev lI (l:List Int):VV:=.ls (l.map eI)
abbrev lW (l:List (BitVec 64)):VV:=.ls (l.map eW)
abbrev lS (l:List ByteArray):VV:=.ls (l.map eS)
abbrev lU (l:List U8):VV:=.ls (l.map eU)
abbrev M5 (l:List Int):List VV:=[lI l]
abbrev Hv (l:List ByteArray):List VV:=[lS l]
abbrev ES (l:List (List Int)):List VV:=[.ls (l.map M5)]
abbrev eN (n:Az):List VV:=[.i .i64 n.thread,.i .i64 n.up,.i .i64 n.kind,.i .i64 n.loc,.i .i64 n.mode,.i .i64 n.val,.b n.rmw,.b n.fin,lI n.regs]
abbrev vN (n:Az):VV:=.ag (eN n)
abbrev eT (t:A1):List VV:=[.i .i64 t.vals,lS t.locs,.ls (t.regs.map Hv),.ls (t.nodes.map eN)]
abbrev vT (t:A1):VV:=.ag (eT t)
abbrev XV (s:A8):List VV:=[lI s.has,lI s.jf,.ls (s.mo.map ES)]
abbrev LX (s:A8):VV:=.ag (XV s)
abbrev eEx (e:AT):List VV:=[lI e.has,lI e.rf,.ls (e.mo.map M5)]
abbrev vEx (e:AT):VV:=.ag (eEx e)
def KS:VO:={ ty:=0,esz:=0,ver:=0,nl:=true,rows:=[] }
def AL (ty e:Nat) (rows:List (List VV)):VO:=if rows.length=0 then KS else { ty:=ty,esz:=e,ver:=rows.length,nl:=false,rows:=rows }
section
variable {ty e:Nat} {rows:List (List VV)}
@[go_sem] theorem DL:(AL ty e rows).ver=rows.length:=by
 unfold AL;split
 .rename_i h;rw [h];rfl
 .rfl
@[go_sem] theorem A6k:(AL ty e rows).rows=rows:=by
 unfold AL;split
 .rename_i h;rw [List.length_eq_zero_iff.1 h];rfl
 .rfl
@[go_sem] theorem Akv:((AL ty e rows).nl || (decide ((AL ty e rows).ty=ty) && decide ((AL ty e rows).esz=e)))=true:=by
 unfold AL;split
 .rfl
 .simp
@[go_sem] theorem A7Y:(decide ((AL ty e rows).esz=e) || (AL ty e rows).nl)=true:=by
 grind [AL,KS]
theorem Je (he:0 < e):(decide (0 < (AL ty e rows).esz) || (AL ty e rows).nl)=true:=by
 unfold AL;split
 .rfl
 .simp [he]
@[go_sem] theorem Ah9:(decide (0 < (AL ty 1 rows).esz) || (AL ty 1 rows).nl)=true:=Je (by decide)
@[go_sem] theorem Aha:(decide (0 < (AL ty 2 rows).esz) || (AL ty 2 rows).nl)=true:=Je (by decide)
@[go_sem] theorem Ahb:(decide (0 < (AL ty 4 rows).esz) || (AL ty 4 rows).nl)=true:=Je (by decide)
@[go_sem] theorem Ahc:(decide (0 < (AL ty 7 rows).esz) || (AL ty 7 rows).nl)=true:=Je (by decide)
@[go_sem] theorem Ahd:(decide (0 < (AL ty 9 rows).esz) || (AL ty 9 rows).nl)=true:=Je (by decide)
@[go_sem] theorem Ahe {r:List VV}:({ ty:=ty,esz:=e,ver:=rows.length+1,nl:=false,rows:=rows++[r] }:VO)=AL ty e (rows++[r]):=by
 simp_all [AL]
@[go_sem] theorem Hx {α:Type} {xs:List α} {x:α} {f:α->List VV}:({ ty:=ty,esz:=e,ver:=xs.length+1,nl:=false,rows:=(xs++[x]).map f }:VO)=AL ty e ((xs++[x]).map f):=by
 simp_all [AL]
@[go_sem] theorem Aip:AL ty e []=KS:=rfl
@[go_sem] theorem Ahu:KS.rows=[]:=rfl
@[go_sem] theorem Al1:KS.nl=true:=rfl
@[go_sem] theorem Ajj:KS.ver=0:=rfl
@[go_sem] theorem Aji:KS.esz=0:=rfl
@[go_sem] theorem Al2:KS.ty=0:=rfl
@[go_sem] theorem Qa:({ ty:=0,esz:=0,ver:=0,nl:=true,rows:=[] }:VO)=KS:=rfl
end
@[go_sem] theorem JH (xs:List Int) (x:Int):xs.map eI++[[.i .i64 x]]=(xs++[x]).map eI:=by simp
@[go_sem] theorem Aon (xs:List (BitVec 64)) (x:BitVec 64):xs.map eW++[[vW x]]=(xs++[x]).map eW:=by simp
@[go_sem] theorem Aom (xs:List ByteArray) (x:ByteArray):xs.map eS++[[.s x]]=(xs++[x]).map eS:=by simp
section
variable {V:Ae} {m:Nat->Nat} {F:A2} {h:VH} {x w:Bool} {d:Option Nat} {op:B7}
theorem Bl {r:List Ap} {R:A2->VH->Prop} (h1:x=true->VG V m (.b true) w d op r F h R) (h2:x=false->VG V m (.b false) w d op r F h R):VG V m (.b x) w d op r F h R:=by
 cases x with
 | true=>exact h1 rfl
 | false=>exact h2 rfl
theorem Ba {c:List Ap} {r:List Aq} {L:J7} {R:A2->VH->Prop} (h1:x=true->VGs V m (.b true) w d op c r L F h R) (h2:x=false->VGs V m (.b false) w d op c r L F h R):VGs V m (.b x) w d op c r L F h R:=by
 cases x with
 | true=>exact h1 rfl
 | false=>exact h2 rfl
theorem B0 {a b:A4} {Q:Ex->A2->VH->Prop} (h1:x=true->VCn V m (.b true) a b F h Q) (h2:x=false->VCn V m (.b false) a b F h Q):VCn V m (.b x) a b F h Q:=by
 cases x with
 | true=>exact h1 rfl
 | false=>exact h2 rfl
end
@[go_sem] theorem Alt (h:VH) (t e b:Nat) (x y:VV):N6 0 h t e b x y=Hf h t e b x y:=rfl
@[go_sem] theorem Alu (h:VH) (t e b:Nat) (x y:VV):N6 1 h t e b x y=Hf h t e b x y:=rfl
@[go_sem] theorem Alv (h:VH) (t e b:Nat) (x y:VV):N6 2 h t e b x y=Hf h t e b x y:=rfl
def Afc (r:Option (VV×VH)):Option (VV×VH):=match r with
 | some (v,h')=>(match frz h' dF v with
  | some (r,ids)=>some (r,Bf ids h')
  | none=>none)
 | none=>none
@[go_sem] theorem Alw (h:VH) (t e b:Nat) (x y:VV):N6 5 h t e b x y=Afc (Hf h t e b x y):=by
 unfold N6 Afc;rfl
@[go_sem] theorem Aho (v:VV) (h:VH):Afc (some (v,h))=(match frz h 8 v with
  | some (r,ids)=>some (r,Bf ids h)
  | none=>none):=rfl
def cpV (n:Nat):Nat:=if n=0 then 0 else 1
def cpO (ty e:Nat) (rows:List (List VV)):VO:={ ty:=ty,esz:=e,ver:=cpV rows.length,nl:=false,rows:=rows }
@[go_sem] theorem AkK (ty e:Nat) (rows:List (List VV)):(cpO ty e rows).ver=cpV rows.length:=rfl
@[go_sem] theorem AiF (ty e:Nat) (rows:List (List VV)):(cpO ty e rows).rows=rows:=rfl
@[go_sem] theorem AmZ (ty e:Nat) (rows:List (List VV)):(cpO ty e rows).ty=ty:=rfl
@[go_sem] theorem AkJ (ty e:Nat) (rows:List (List VV)):(cpO ty e rows).esz=e:=rfl
@[go_sem] theorem AmY (ty e:Nat) (rows:List (List VV)):(cpO ty e rows).nl=false:=rfl
@[go_sem high] theorem AhJ (h:VH) (ty e b id:Nat) (ys:List (List VV)) (h0:BW h id 0=some { ty:=ty,esz:=e,ver:=0,nl:=false,rows:=[] }) (h1:D9 e ys=true) (h2:ys.length * b<=A9) (h3:0 < e) :
  Hf h ty e b (.sl id 0 0 0) (.ls ys)=some (.sl id (cpV ys.length) 0 ys.length,h.set id (some (cpO ty e ys))):=by
 have hg:h[id]? = some (some { ty:=ty,esz:=e,ver:=0,nl:=false,rows:=[] }):=by
  grind [BW]
 have hb1:(Nat.ble ((0+ys.length) * b) A9 && Nat.blt 0 e)=true:=by
  simp_all
 unfold Hf
 simp only [KX,J5,h1,cond_true,h0,hb1]
 cases ys with
 | nil =>
  simp only [Option.some.injEq,Prod.mk.injEq]
  refine ⟨rfl,?_⟩
  obtain ⟨hi,he⟩:=List.getElem?_eq_some_iff.1 hg
  have:(some (cpO ty e []):Option VO)=h[id]:=by rw [he];rfl
  rw [this,List.set_getElem_self]
 | cons y ys =>
  simp only [Nat.beq_refl,length_nil,Bool.and_self,Bool.or_true,cond_true,nil_append,Nat.zero_add]
  rfl
@[go_sem low] theorem AgM (h:VH) (ty esz bytes:Nat) (id ver off n:Nat) (ys:List (List VV)):Hf h ty esz bytes (.sl id ver off n) (.ls ys)=(match KX (.sl id ver off n),J5 h esz (.ls ys) with
 | some n0,some ys0 =>
  bif Nat.ble ((n0+ys0.length) * bytes) A9 && Nat.blt 0 esz then
   match ((.sl id ver off n):VV) with
   | .sl id3 ver3 off3 _=>(match BW h id3 ver3 with
    | some o=>(match ys0 with
     | []=>some ((.sl id ver off n),h)
     | y0::yr=>bif Nat.beq off3 0 && Nat.beq n0 o.rows.length && (o.nl || (Nat.beq o.ty ty && Nat.beq o.esz esz)) then
       some (.sl id3 (ver3+1) 0 (n0+ys0.length),h.set id3 (some { ty:=ty,esz:=esz,ver:=ver3+1,nl:=false,rows:=o.rows++ys0 }))
      else none)
    | none=>none)
   | .nl=>(match ys0 with
    | []=>some (.nl,h)
    | y0::yr=>some (.sl h.length 0 0 ys0.length,h++[some { ty:=ty,esz:=esz,ver:=0,nl:=false,rows:=ys0 }]))
   | _=>none
  else none
 | _,_=>none):=rfl
@[go_sem low] theorem AgN (h:VH) (ty esz bytes:Nat) (id ver off n:Nat)  : Hf h ty esz bytes (.sl id ver off n) .nl=(match KX (.sl id ver off n),J5 h esz .nl with
 | some n0,some ys0 =>
  bif Nat.ble ((n0+ys0.length) * bytes) A9 && Nat.blt 0 esz then
   match ((.sl id ver off n):VV) with
   | .sl id3 ver3 off3 _=>(match BW h id3 ver3 with
    | some o=>(match ys0 with
     | []=>some ((.sl id ver off n),h)
     | y0::yr=>bif Nat.beq off3 0 && Nat.beq n0 o.rows.length && (o.nl || (Nat.beq o.ty ty && Nat.beq o.esz esz)) then
       some (.sl id3 (ver3+1) 0 (n0+ys0.length),h.set id3 (some { ty:=ty,esz:=esz,ver:=ver3+1,nl:=false,rows:=o.rows++ys0 }))
      else none)
    | none=>none)
   | .nl=>(match ys0 with
    | []=>some (.nl,h)
    | y0::yr=>some (.sl h.length 0 0 ys0.length,h++[some { ty:=ty,esz:=esz,ver:=0,nl:=false,rows:=ys0 }]))
   | _=>none
  else none
 | _,_=>none):=rfl
@[go_sem low] theorem AgO (h:VH) (ty esz bytes:Nat) (id ver off n:Nat) (id2 ver2 off2 n2:Nat):Hf h ty esz bytes (.sl id ver off n) (.sl id2 ver2 off2 n2)=(match KX (.sl id ver off n),J5 h esz (.sl id2 ver2 off2 n2) with
 | some n0,some ys0 =>
  bif Nat.ble ((n0+ys0.length) * bytes) A9 && Nat.blt 0 esz then
   match ((.sl id ver off n):VV) with
   | .sl id3 ver3 off3 _=>(match BW h id3 ver3 with
    | some o=>(match ys0 with
     | []=>some ((.sl id ver off n),h)
     | y0::yr=>bif Nat.beq off3 0 && Nat.beq n0 o.rows.length && (o.nl || (Nat.beq o.ty ty && Nat.beq o.esz esz)) then
       some (.sl id3 (ver3+1) 0 (n0+ys0.length),h.set id3 (some { ty:=ty,esz:=esz,ver:=ver3+1,nl:=false,rows:=o.rows++ys0 }))
      else none)
    | none=>none)
   | .nl=>(match ys0 with
    | []=>some (.nl,h)
    | y0::yr=>some (.sl h.length 0 0 ys0.length,h++[some { ty:=ty,esz:=esz,ver:=0,nl:=false,rows:=ys0 }]))
   | _=>none
  else none
 | _,_=>none):=rfl
@[go_sem low] theorem AgJ (h:VH) (ty esz bytes:Nat)  (ys:List (List VV)):Hf h ty esz bytes .nl (.ls ys)=(match KX .nl,J5 h esz (.ls ys) with
 | some n0,some ys0 =>
  bif Nat.ble ((n0+ys0.length) * bytes) A9 && Nat.blt 0 esz then
   match (.nl:VV) with
   | .sl id3 ver3 off3 _=>(match BW h id3 ver3 with
    | some o=>(match ys0 with
     | []=>some (.nl,h)
     | y0::yr=>bif Nat.beq off3 0 && Nat.beq n0 o.rows.length && (o.nl || (Nat.beq o.ty ty && Nat.beq o.esz esz)) then
       some (.sl id3 (ver3+1) 0 (n0+ys0.length),h.set id3 (some { ty:=ty,esz:=esz,ver:=ver3+1,nl:=false,rows:=o.rows++ys0 }))
      else none)
    | none=>none)
   | .nl=>(match ys0 with
    | []=>some (.nl,h)
    | y0::yr=>some (.sl h.length 0 0 ys0.length,h++[some { ty:=ty,esz:=esz,ver:=0,nl:=false,rows:=ys0 }]))
   | _=>none
  else none
 | _,_=>none):=rfl
@[go_sem low] theorem AgK (h:VH) (ty esz bytes:Nat)   : Hf h ty esz bytes .nl .nl=(match KX .nl,J5 h esz .nl with
 | some n0,some ys0 =>
  bif Nat.ble ((n0+ys0.length) * bytes) A9 && Nat.blt 0 esz then
   match (.nl:VV) with
   | .sl id3 ver3 off3 _=>(match BW h id3 ver3 with
    | some o=>(match ys0 with
     | []=>some (.nl,h)
     | y0::yr=>bif Nat.beq off3 0 && Nat.beq n0 o.rows.length && (o.nl || (Nat.beq o.ty ty && Nat.beq o.esz esz)) then
       some (.sl id3 (ver3+1) 0 (n0+ys0.length),h.set id3 (some { ty:=ty,esz:=esz,ver:=ver3+1,nl:=false,rows:=o.rows++ys0 }))
      else none)
    | none=>none)
   | .nl=>(match ys0 with
    | []=>some (.nl,h)
    | y0::yr=>some (.sl h.length 0 0 ys0.length,h++[some { ty:=ty,esz:=esz,ver:=0,nl:=false,rows:=ys0 }]))
   | _=>none
  else none
 | _,_=>none):=rfl
@[go_sem low] theorem AgL (h:VH) (ty esz bytes:Nat)  (id2 ver2 off2 n2:Nat):Hf h ty esz bytes .nl (.sl id2 ver2 off2 n2)=(match KX .nl,J5 h esz (.sl id2 ver2 off2 n2) with
 | some n0,some ys0 =>
  bif Nat.ble ((n0+ys0.length) * bytes) A9 && Nat.blt 0 esz then
   match (.nl:VV) with
   | .sl id3 ver3 off3 _=>(match BW h id3 ver3 with
    | some o=>(match ys0 with
     | []=>some (.nl,h)
     | y0::yr=>bif Nat.beq off3 0 && Nat.beq n0 o.rows.length && (o.nl || (Nat.beq o.ty ty && Nat.beq o.esz esz)) then
       some (.sl id3 (ver3+1) 0 (n0+ys0.length),h.set id3 (some { ty:=ty,esz:=esz,ver:=ver3+1,nl:=false,rows:=o.rows++ys0 }))
      else none)
    | none=>none)
   | .nl=>(match ys0 with
    | []=>some (.nl,h)
    | y0::yr=>some (.sl h.length 0 0 ys0.length,h++[some { ty:=ty,esz:=esz,ver:=0,nl:=false,rows:=ys0 }]))
   | _=>none
  else none
 | _,_=>none):=rfl
attribute [go_sem] AaO
end Go.AM
