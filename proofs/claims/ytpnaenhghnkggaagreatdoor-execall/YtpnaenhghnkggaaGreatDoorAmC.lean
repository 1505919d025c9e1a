/-
  Own work, part of the proof of these laws: a machine of plain values over it (first part).
-/
import Derived.Test.YtpnaenhghnkggaaGreatDoorAmB
import Derived.Shelf.Spec.TrailingZeros
set_option maxRecDepth 10000
set_option maxHeartbeats 64000000
set_option linter.unusedVariables false
set_option linter.unusedSimpArgs false
set_option linter.unusedSectionVars false
set_option linter.unnecessarySimpa false
open Bool (and_eq_true)
open List (getElem?_eq_getElem length_take mem_of_getElem? getElem?_take getElem?_drop all_cons)
open Nat (eq_of_beq_eq_true blt_eq le_trans succ_mul mul_le_mul_right ble_eq add_mul mod_lt)
namespace Go.AM
open Go Go.Proofs Go.Shelf Go.RowKit
def AfG(n:Nat):Nat:=bif Nat.beq n 0 then 64 else Nat.log2 (Nat.land n (18446744073709551616-n))
def A0T:IntKind->Bool
 |.u64=>true
 |_=>false
def A6H:Int->Bool
 |.ofNat _=>true
 |_=>false
def ctzX(args:List AV)(σ:St):Option (AV×St):=
 match args with
 | [.i k n]=>bif A0T k&&Nat.blt n.toNat 18446744073709551616&&A6H n then some (.i .i64 (AfG n.toNat:Nat),σ)else none
 |_=>none
theorem A67(n:Nat)(h:n<18446744073709551616):AfG n=Lib.ctz 64 n:=by
 unfold AfG
 by_cases h0:n=0
 .subst h0;rfl
 .have:Nat.beq n 0=false:=by
   grind[eq_of_beq_eq_true]
  rw[this]
  simp only[cond_false]
  obtain⟨h1,_⟩:=Lib.lowest_bit 64 n h0 h
  simp_all
theorem A9s{P:Program}{B:Nat}{ρs:Ren}(L:Lays7.n29 P ρs):JU P B (TabAt (ρs.g 1) Lib.deBruijn64tab) (fun g args σ=>if g=ρs.f 29 then ctzX args σ else none):=by
 intro g args σ v σ' h ρ W vals hS hX hR
 simp only at h
 split at h
 .rename_i hg
  subst hg
  unfold ctzX at h
  split at h
  .rename_i k n
   cases hc:(A0T k&&Nat.blt n.toNat 18446744073709551616&&A6H n)with
   |false=>rw[hc]at h;cases h
   |true=>
    rw[hc]at h
    simp only[cond_true,Option.some.injEq,Prod.mk.injEq]at h
    obtain⟨rfl,rfl⟩:=h
    simp only[and_eq_true,blt_eq]at hc
    obtain⟨⟨hk,hlt⟩,hp⟩:=hc
    cases n with
    |negSucc n=>simp[A6H]at hp
    |ofNat n=>
    have hk':k=.u64:=by grind[A0T]
    subst hk'
    cases hR with
    |cons _ _ _ _ h1 h2=>
    cases h2
    cases h1
    refine ⟨⟨_, L.f29, rfl, show (("math/bits.TrailingZeros64" : String) == "runtime.NumGoroutine") = false by decide⟩, ?_⟩
    simp only[Int.ofNat_eq_natCast,Int.toNat_natCast]at hlt ⊢
    refine(Any7.bits_TrailingZeros64 L n hlt W fun _=>hX).mono fun e W' he=>?_
    obtain⟨rfl,rfl⟩:=he
    rw[A67 n hlt]
    exact⟨_,ρ,rfl,hS,Cx.refl _ _ _ hS,.i _ _⟩
  .cases h
 .cases h
theorem Aao{B g:Nat}(hg:g<B)(tab:List Nat):T8 B (TabAt g tab):=by
 intro W W' hb h j hj
 rw[hb.cell (show(Addr.block ⟨g,j,none⟩)<B from hg)]
 exact h j hj
def Sz(P:Program)(tz:Nat):Dz:={ fn:=V6 P,ext:=fun g=>bif Nat.beq g tz then some ctzX else none }
theorem Aa0{P:Program}{B:Nat}{ρs:Ren}(L:Lays7.n29 P ρs):AnB P B (TabAt (ρs.g 1) Lib.deBruijn64tab) (Sz P (ρs.f 29)) where
 fn g af h:=h
 ext g f h:=by
  unfold Sz at h
  simp only at h
  cases hb:Nat.beq g (ρs.f 29)with
  |false=>rw[hb]at h;cases h
  |true=>
   rw[hb]at h
   cases h
   grind[eq_of_beq_eq_true,A9s]
theorem top{P:Program}{ρs:Ren}(L:Lays7.n29 P ρs){n g:Nat}{args:List AV}{σ σ':St}{v:AV}(h:call (Sz P (ρs.f 29)) n g args σ=some (v,σ'))
  {ρ:Re} {W:World} {vals:List Value} (hS:CU σ ρ W.heap.size W) (hT:TabAt (ρs.g 1) Lib.deBruijn64tab W) (hg:ρs.g 1<W.heap.size) (hR:BO ρ args vals) :
  Calls P g vals.toArray W fun e W'=>∃u ρ',e=.returned u/\Cm ρ' v u/\Below W.heap.size W W':=by
 have hX:=Aao (B:=W.heap.size) hg Lib.deBruijn64tab
 have:=(A2s hX (A2B L.mixed hX) _ (Aa0 L) n g args σ v σ' h ρ W vals hS hT hR).2
 exact this.mono fun e W' ⟨u,ρ',h1,h2,h3,h4⟩=>⟨u,ρ',h1,h4,h3.below hS⟩
def σ0:St:={ objs:=.e,next:=0 }
theorem A9O(id:Nat):σ0.get id=none:=Tm.get_e id
theorem Aul(W:World):CU σ0 (fun _=>none) W.heap.size W where
 live id ob rb h:=by rw[A9O]at h;cases h
 dom id h:=rfl
 ndom id h:=A9O id
 excl id id' ob ob' rb rb' _ h:=by rw[A9O]at h;cases h
 hB:=Nat.le_refl _
end Go.AM
namespace Go.AM
open Go
def HLe(H H':E5):Prop:=∀g args σ r,H g args σ=some r->H' g args σ=some r
section
variable {H H':E5}{A:Dz}
theorem DU(h:HLe H H'){op:Bl}{F:Fr}{σ:St}{r:AV×St}(he:AX H op F σ=some r):AX H' op F σ=some r:=by
 cases op<;>first|exact he|skip
 simp only[AX]at he ⊢
 split at he
 .exact h _ _ _ _ he
 .cases he
theorem Kw(h:HLe H H'):∀(ops:List Ay) (F:Fr) (σ:St) (r:Fr×St),Dt H ops F σ=some r->Dt H' ops F σ=some r:=by
 intro ops
 induction ops with
 |nil=>intro F σ r he;exact he
 |cons o os ih=>
  intro F σ r he
  simp only[Dt]at he ⊢
  cases hw:wanted F o.g with
  |true=>
   rw[hw]at he
   simp only[cond_true]at he ⊢
   grind[DU]
  |false=>
   rw[hw]at he
   exact ih _ _ _ he
theorem HF(h:HLe H H'):∀(ops:List AE) (F:Fr) (σ:St) (r:Fr×St),BX H ops F σ=some r->BX H' ops F σ=some r:=by
 intro ops
 induction ops with
 |nil=>intro F σ r he;exact he
 |cons o os ih=>
  intro F σ r he
  simp only[BX]at he ⊢
  cases hw:wanted F o.o.g with
  |true=>
   rw[hw]at he
   simp only[cond_true]at he ⊢
   grind[DU]
  |false=>
   rw[hw]at he
   exact ih _ _ _ he
theorem Lf{e e':A1->Fr->St->Option (Ex×Fr×St)}(h:∀c F σ r,e c F σ=some r->e' c F σ=some r):HLe (C9 A e) (C9 A e'):=by
 intro g args σ r he
 grind[C9]
theorem HM:∀{n m:Nat},n<=m->∀{c:A1} {F:Fr} {σ:St} {r:Ex×Fr×St},B3 A n c F σ=some r->B3 A m c F σ=some r:=by
 intro n
 induction n with
 |zero=>intro m _ c F σ r h;simp[B3]at h
 |succ n ih=>
  intro m hm c F σ r h
  obtain⟨m,rfl⟩:∃k,m=k+1:=⟨m-1,by omega⟩
  have hnm:n<=m:=by omega
  have hH:HLe (C9 A (B3 A n)) (C9 A (B3 A m)):=Lf fun c F σ r h=>ih hnm h
  cases c with
  |skip=>simpa only[B3]using h
  |reg ops=>
   grind[B3,Kw]
  |dreg ops=>
   grind[B3,HF]
  |seq a b=>
   grind[B3]
  |cond x a b=>
   grind[B3]
  |block id c=>
   grind[B3]
  |loop c=>
   grind[B3]
  |exit id=>simpa only[B3]using h
  |ret=>simpa only[B3]using h
  |fail=>simp[B3]at h
theorem D5{n m:Nat}(hm:n<=m):HLe (call A n) (call A m):=Lf fun _ _ _ _ h=>HM hm h
end
section
variable (A:Dz)
def Wc(c:A1)(F:Fr)(σ:St)(Q:Ex->Fr->St->Prop):Prop:=∃n ex F' σ',B3 A n c F σ=some (ex,F',σ')/\Q ex F' σ'
def Wk(g:Nat)(args:List AV)(σ:St)(Q:AV->St->Prop):Prop:=∃n v σ',call A n g args σ=some (v,σ')/\Q v σ'
def Wo(op:Bl)(F:Fr)(σ:St)(Q:AV->St->Prop):Prop:=∃n v σ',AX (call A n) op F σ=some (v,σ')/\Q v σ'
def Wr(ops:List Ay)(F:Fr)(σ:St)(Q:Fr->St->Prop):Prop:=∃n F' σ',Dt (call A n) ops F σ=some (F',σ')/\Q F' σ'
def Ws(ops:List AE)(F:Fr)(σ:St)(Q:Fr->St->Prop):Prop:=∃n F' σ',BX (call A n) ops F σ=some (F',σ')/\Q F' σ'
end
section
variable {A:Dz}
theorem Wk.mono{g:Nat}{args:List AV}{σ:St}{Q Q':AV->St->Prop}(h:Wk A g args σ Q)(k:∀v σ',Q v σ'->Q' v σ'):Wk A g args σ Q':=by
 obtain⟨n,v,σ',h1,h2⟩:=h
 exact⟨n,v,σ',h1,k _ _ h2⟩
theorem Wc.mono{c:A1}{F:Fr}{σ:St}{Q Q':Ex->Fr->St->Prop}(h:Wc A c F σ Q)(k:∀e F' σ',Q e F' σ'->Q' e F' σ'):Wc A c F σ Q':=by
 obtain⟨n,e,F',σ',h1,h2⟩:=h
 exact⟨n,e,F',σ',h1,k _ _ _ h2⟩
theorem Ajm{F:Fr}{σ:St}{Q:Fr->St->Prop}:Wr A [] F σ Q↔Q F σ:=
 ⟨fun⟨n,F',σ',h,hq⟩=>by simp only[Dt,Option.some.injEq,Prod.mk.injEq]at h;obtain⟨rfl,rfl⟩:=h;exact hq,fun h=>⟨0,F,σ,rfl,h⟩⟩
theorem A5U{o:Ay}{r:List Ay}{F:Fr}{σ:St}{Q:Fr->St->Prop} :
  Wr A (o::r) F σ Q↔(bif wanted F o.g then Wo A o.op F σ (fun v σ'=>Wr A r (BD F o.dst v) σ' Q)else Wr A r (BD F o.dst AV.un) σ Q):=by
 unfold Wr
 simp only[Dt]
 cases hw:wanted F o.g with
 |false=>simp only[cond_false]
 |true=>
  simp only[cond_true]
  constructor
  .rintro⟨n,F',σ',h,hq⟩
   split at h
   .rename_i v σ1 hv
    exact⟨n,v,σ1,hv,n,F',σ',h,hq⟩
   .cases h
  .rintro⟨n,v,σ1,h,m,F',σ',h2,hq⟩
   refine⟨max n m,F',σ',?_,hq⟩
   rw[DU (D5 (Nat.le_max_left n m)) h]
   exact Kw (D5 (Nat.le_max_right n m)) _ _ _ _ h2
theorem Ajn{F:Fr}{σ:St}{Q:Fr->St->Prop}:Ws A [] F σ Q↔Q F σ:=
 ⟨fun⟨n,F',σ',h,hq⟩=>by simp only[BX,Option.some.injEq,Prod.mk.injEq]at h;obtain⟨rfl,rfl⟩:=h;exact hq,fun h=>⟨0,F,σ,rfl,h⟩⟩
theorem A5V{s:AE}{r:List AE}{F:Fr}{σ:St}{Q:Fr->St->Prop} :
  Ws A (s::r) F σ Q↔(bif wanted F s.o.g then Wo A s.o.op F σ (fun v σ'=>Cu (BD F s.o.dst v) σ' s.chk=true/\Ws A r (BD F s.o.dst v) σ' Q)else Ws A r (BD F s.o.dst AV.un) σ Q):=by
 unfold Ws
 simp only[BX]
 cases hw:wanted F s.o.g with
 |false=>simp only[cond_false]
 |true=>
  simp only[cond_true]
  constructor
  .rintro⟨n,F',σ',h,hq⟩
   split at h
   .rename_i v σ1 hv
    cases hr:Cu (BD F s.o.dst v) σ1 s.chk with
    |false=>rw[hr]at h;cases h
    |true=>rw[hr]at h;exact⟨n,v,σ1,hv,hr,n,F',σ',h,hq⟩
   .cases h
  .rintro⟨n,v,σ1,h,hr,m,F',σ',h2,hq⟩
   refine⟨max n m,F',σ',?_,hq⟩
   rw[DU (D5 (Nat.le_max_left n m)) h]
   simp only[hr,cond_true]
   exact HF (D5 (Nat.le_max_right n m)) _ _ _ _ h2
theorem D0{op:Bl}{F:Fr}{σ:St}{Q:AV->St->Prop}(h:∀f args,op≠.call f args):Wo A op F σ Q↔∃v σ',Ap op F σ=some (v,σ')/\Q v σ':=by
 have e:∀n,AX (call A n) op F σ=Ap op F σ:=fun n=>by cases op<;>first|rfl|exact absurd rfl (h _ _)
 unfold Wo
 simp_all
theorem A5T{f:Ar}{args:List Ar}{F:Fr}{σ:St}{Q:AV->St->Prop}{g:Nat}{a c:List AV}(h:Fr.ev F f=.f g a c):Wo A (.call f args) F σ Q↔Wk A g (a++args.map (Fr.ev F)++c) σ Q:=by
 unfold Wo Wk
 simp only[AX,h]
theorem Afj{F:Fr}{σ:St}{Q:Ex->Fr->St->Prop}:Wc A .skip F σ Q↔Q .norm F σ:=
 ⟨fun⟨n,e,F',σ',h,hq⟩=>by
  cases n with
  |zero=>simp[B3]at h
  |succ n=>simp only[B3,Option.some.injEq,Prod.mk.injEq]at h;grind,fun h=>⟨1,.norm,F,σ,rfl,h⟩⟩
theorem Afi{id:Nat}{F:Fr}{σ:St}{Q:Ex->Fr->St->Prop}:Wc A (.exit id) F σ Q↔Q (.exit id) F σ:=
 ⟨fun⟨n,e,F',σ',h,hq⟩=>by
  cases n with
  |zero=>simp[B3]at h
  |succ n=>simp only[B3,Option.some.injEq,Prod.mk.injEq]at h;grind,fun h=>⟨1,.exit id,F,σ,rfl,h⟩⟩
theorem Ajk{F:Fr}{σ:St}{Q:Ex->Fr->St->Prop}:Wc A .ret F σ Q↔Q .ret F σ:=
 ⟨fun⟨n,e,F',σ',h,hq⟩=>by
  cases n with
  |zero=>simp[B3]at h
  |succ n=>simp only[B3,Option.some.injEq,Prod.mk.injEq]at h;grind,fun h=>⟨1,.ret,F,σ,rfl,h⟩⟩
theorem Ajj{ops:List Ay}{F:Fr}{σ:St}{Q:Ex->Fr->St->Prop}:Wc A (.reg ops) F σ Q↔Wr A ops F σ (Q .norm):=by
 constructor
 .rintro⟨n,e,F',σ',h,hq⟩
  cases n with
  |zero=>simp[B3]at h
  |succ n=>
   simp only[B3]at h
   split at h
   .rename_i F1 σ1 hr
    cases h
    exact⟨n,_,_,hr,hq⟩
   .cases h
 .rintro⟨n,F',σ',h,hq⟩
  refine⟨n+1,.norm,F',σ',?_,hq⟩
  have h':Dt (C9 A (B3 A n)) ops F σ=some (F',σ'):=h
  simp only[B3,h']
theorem Afh{ops:List AE}{F:Fr}{σ:St}{Q:Ex->Fr->St->Prop}:Wc A (.dreg ops) F σ Q↔Ws A ops F σ (Q .norm):=by
 constructor
 .rintro⟨n,e,F',σ',h,hq⟩
  cases n with
  |zero=>simp[B3]at h
  |succ n=>
   simp only[B3]at h
   split at h
   .rename_i F1 σ1 hr
    cases h
    exact⟨n,_,_,hr,hq⟩
   .cases h
 .rintro⟨n,F',σ',h,hq⟩
  refine⟨n+1,.norm,F',σ',?_,hq⟩
  have h':BX (C9 A (B3 A n)) ops F σ=some (F',σ'):=h
  simp only[B3,h']
theorem Ajl{a b:A1}{F:Fr}{σ:St}{Q:Ex->Fr->St->Prop}:Wc A (.seq a b) F σ Q↔Wc A a F σ (fun e F' σ'=>match e with|.norm=>Wc A b F' σ' Q|e=>Q e F' σ'):=by
 constructor
 .rintro⟨n,e,F',σ',h,hq⟩
  cases n with
  |zero=>simp[B3]at h
  |succ n=>
   simp only[B3]at h
   split at h
   .rename_i F1 σ1 hr
    exact⟨n,.norm,F1,σ1,hr,n,e,F',σ',h,hq⟩
   .rename_i hne
    refine⟨n,e,F',σ',h,?_⟩
    simp_all
 .rintro⟨n,e,F1,σ1,h,hq⟩
  cases e with
  |norm=>
   obtain⟨m,e,F',σ',h2,hq⟩:=hq
   refine⟨max n m+1,e,F',σ',?_,hq⟩
   grind[B3,HM,Nat.le_max_right]
  |exit id=>exact⟨n+1,.exit id,F1,σ1,by simp only[B3,h],hq⟩
  |ret=>exact⟨n+1,.ret,F1,σ1,by simp only[B3,h],hq⟩
theorem Afg{x:Ar}{a b:A1}{F:Fr}{σ:St}{Q:Ex->Fr->St->Prop}{t:Bool}(h:Fr.ev F x=.b t):Wc A (.cond x a b) F σ Q↔(bif t then Wc A a F σ Q else Wc A b F σ Q):=by
 constructor
 .rintro⟨n,e,F',σ',h2,hq⟩
  cases n with
  |zero=>simp[B3]at h2
  |succ n=>
   simp only[B3,h]at h2
   cases t<;>exact⟨n,e,F',σ',h2,hq⟩
 .intro h2
  cases t<;>(obtain⟨n,e,F',σ',h2,hq⟩:=h2;exact⟨n+1,e,F',σ',by simp only[B3,h];exact h2,hq⟩)
end
structure Dy(σ σ':St):Prop where
 nx:σ.next<=σ'.next
 keep:∀id ob,σ.get id=some ob->σ'.get id=some ob
 nd:Hy σ'
theorem Dy.refl{σ:St}(h:Hy σ):Dy σ σ:=⟨Nat.le_refl _,fun _ _ h=>h,h⟩
theorem Dy.trans{a b c:St}(h:Dy a b)(k:Dy b c):Dy a c:=⟨le_trans h.nx k.nx,fun id ob x=>k.keep id ob (h.keep id ob x),k.nd⟩
theorem Dy.new{a b:St}(h:Dy a b)(ob:JQ):Dy a (b.new ob):=by
 refine⟨le_trans h.nx (by simp[St.new]),fun id o x=>?_,GX h.nd ob⟩
 rw[Br]
 by_cases e:id=b.next
 .subst e
  have:=h.keep _ _ x
  rw[h.nd _ (Nat.le_refl _)]at this
  cases this
 .rw[if_neg e];exact h.keep _ _ x
theorem KK(σ:St)(id:Nat)(ob:JQ)(j:Nat):(σ.put id ob).get j=if j=id then some ob else σ.get j:=by
 simp[St.put,St.get,Tm.get_set]
theorem KJ(σ:St)(id j:Nat):(Ey σ (some id)).get j=if j=id then none else σ.get j:=by
 simp[Ey,St.get,Tm.get_del]
theorem Dy.put{a b:St}(h:Dy a b){id:Nat}(hid:a.get id=none)(hn:id<b.next)(ob:JQ):Dy a (b.put id ob):=by
 refine⟨h.nx,fun j o x=>?_,fun j hj=>?_⟩
 .rw[KK]
  by_cases e:j=id
  .subst e;rw[hid]at x;cases x
  .rw[if_neg e];exact h.keep _ _ x
 .rw[KK]
  have:b.next<=j:=hj
  rw[if_neg (by omega)]
  exact h.nd _ this
theorem Dy.del{a b:St}(h:Dy a b){id:Nat}(hid:a.get id=none):Dy a (Ey b (some id)):=by
 refine⟨h.nx,fun j o x=>?_,fun j hj=>?_⟩
 .rw[KJ]
  by_cases e:j=id
  .subst e;rw[hid]at x;cases x
  .rw[if_neg e];exact h.keep _ _ x
 .rw[KJ]
  split
  .rfl
  .exact h.nd _ hj
section
variable {σ σ':St}
theorem Dy.load1(h:Dy σ σ'){id off:Nat}{v:AV}(hl:σ.load1 id off=some v):σ'.load1 id off=some v:=by
 unfold St.load1 at hl ⊢
 cases ho:σ.get id with
 |none=>rw[ho]at hl;cases hl
 |some ob=>rw[h.keep _ _ ho];rw[ho]at hl;exact hl
theorem Dy.loadN(h:Dy σ σ'):∀{n id off:Nat} {vs:List AV},σ.loadN id off n=some vs->σ'.loadN id off n=some vs:=by
 intro n
 induction n with
 |zero=>intro id off vs hl;exact hl
 |succ n ih=>
  intro id off vs hl
  unfold St.loadN at hl ⊢
  split at hl
  .rename_i v hv
   rw[h.load1 hv]
   grind
  .cases hl
end
def Sl(σ:St)(v:AV)(esz n:Nat)(cells:List AV):Prop:=
 ∃o,v=.sl o n/\cells.length=n * esz/\GB esz o n σ=some cells
theorem Dy.sl{σ σ':St}(h:Dy σ σ'){v:AV}{esz n:Nat}{cells:List AV}(hs:Sl σ v esz n cells):Sl σ' v esz n cells:=by
 obtain⟨o,h1,h2,h3⟩:=hs
 refine⟨o,h1,h2,?_⟩
 unfold GB at h3 ⊢
 cases o with
 |none=>exact h3
 |some x=>exact h.loadN h3
theorem A12{σ:St}{id:Nat}:∀{n off:Nat} {vs:List AV},σ.loadN id off n=some vs->vs.length=n/\∀j,j<n->σ.load1 id (off+j)=vs[j]?:=by
 intro n
 induction n with
 |zero=>intro off vs h;simp only[St.loadN,Option.some.injEq]at h;grind
 |succ n ih=>
  grind[St.loadN]
theorem HQ{σ:St}{id:Nat}:∀{n off:Nat} {vs:List AV},vs.length=n->(∀j,j<n->σ.load1 id (off+j)=vs[j]?)->σ.loadN id off n=some vs:=by
 intro n
 induction n with
 |zero=>intro off vs h _;have:vs=[]:=List.length_eq_zero_iff.1 h;subst this;rfl
 |succ n ih=>
  intro off vs h h2
  cases vs with
  |nil=>simp at h
  |cons v vs=>
   unfold St.loadN
   have h0:=h2 0 (by omega)
   grind
inductive VV where
 |un
 |b (x:Bool)
 |i (k:IntKind) (n:Int)
 |s (x:ByteArray)
 |nf
 |np
 |nl
 |p (id ver r c:Nat)
 |fp (cells:List VV) (c:Nat)
 |sl (id ver off n:Nat)
 |ls (rows:List (List VV))
 |f (g:Nat) (first captured:List VV)
 |ag (cs:List VV)
 |tu (vs:List VV)
 deriving Inhabited
def VV.cell:VV->Bool
 |.ag _|.tu _|.un=>false
 |_=>true
def VV.cells:VV->List VV
 |.ag cs=>cs
 |v=>[v]
structure VO where
 ty:Nat
 esz:Nat
 ver:Nat
 nl:Bool
 rows:List (List VV)
abbrev VH:=List (Option VO)
def Cf(h:VH)(id ver:Nat):Option VO:=
 match h[id]? with
 |some (some o)=>bif Nat.beq o.ver ver then some o else none
 |_=>none
mutual
def bel(L:Nat):VV->Bool
 |.p id _ _ _=>Nat.blt id L
 |.sl id _ _ _=>Nat.blt id L
 |.f _ a c=>CK L a&&CK L c
 |.ag cs=>CK L cs
 |.tu vs=>CK L vs
 |_=>true
def CK(L:Nat):List VV->Bool
 | []=>true
 |v::vs=>bel L v&&CK L vs
end
mutual
def scal:VV->Bool
 |.b _=>true
 |.i _ _=>true
 |.s _=>true
 |.nf=>true
 |.np=>true
 |.tu vs=>MI vs
 |_=>false
def MI:List VV->Bool
 | []=>true
 |v::vs=>scal v&&MI vs
end
def B5{α β:Type}(f:α->Option (β×List Nat)):List α->Option (List β×List Nat)
 | []=>some ([],[])
 |x::xs=>match f x,B5 f xs with
  |some (y,i),some (ys,is)=>some (y::ys,i++is)
  |_,_=>none
def frz(h:VH):Nat->VV->Option (VV×List Nat)
 |0,_=>none
 |d+1,v=>match v with
  |.un=>none
  |.nl=>some (.ls [],[])
  |.p id ver r c=>(match Cf h id ver with
   |some o=>(match o.rows[r]? with
    |some row=>(match B5 (frz h d) row with
     |some (cs,ids)=>some (.fp cs c,id::ids)
     |none=>none)
    |none=>none)
   |none=>none)
  |.sl id ver off n=>(match Cf h id ver with
   |some o=>bif Nat.ble (off+n) o.rows.length&&(Nat.blt 0 o.esz||o.nl)then
     (match B5 (fun row=>B5 (frz h d) row) ((o.rows.drop off).take n)with
     |some (rs,ids)=>some (.ls rs,id::ids)
     |none=>none)else none
   |none=>none)
  |.f g a c=>(match B5 (frz h d) a,B5 (frz h d) c with
   |some (a',i1),some (c',i2)=>some (.f g a' c',i1++i2)
   |_,_=>none)
  |.ag cs=>(match B5 (frz h d) cs with
   |some (cs',is)=>some (.ag cs',is)
   |none=>none)
  |.tu cs=>(match B5 (frz h d) cs with
   |some (cs',is)=>some (.tu cs',is)
   |none=>none)
  |v=>some (v,[])
abbrev dF:Nat:=8
def Gt(h:VH)(vs:List VV):Option (List VV×List Nat):=B5 (frz h dF) vs
def A4d(h:VH)(rows:List (List VV)):Option (List (List VV)×List Nat):=B5 (fun row=>B5 (frz h dF) row) rows
def Bw(ids:List Nat)(h:VH):VH:=match ids with
 | []=>h
 |id::ids=>Bw ids (h.set id none)
structure Ta where
 objs:VH
 moved:List Nat
 frozen:List Nat
def Bp(h:VH):Nat->Nat->VV->Option (VV×Ta)
 |0,_,_=>none
 |d+1,base,v=>match v with
  |.sl id ver off n=>(match Cf h id ver with
   |some o=>bif Nat.beq off 0&&Nat.beq n o.rows.length&&(Nat.blt 0 o.esz||o.nl)then
     (match A4d h o.rows with
     |some (rs,ids)=>some (.sl base 0 0 n,⟨[some { o with ver:=0,rows:=rs }],[id],ids⟩)
     |none=>none)else none
   |none=>none)
  |.ag cs=>(match takeL h d base cs with
   |some (cs',T)=>some (.ag cs',T)
   |none=>none)
  |.tu cs=>(match takeL h d base cs with
   |some (cs',T)=>some (.tu cs',T)
   |none=>none)
  |v=>(match frz h dF v with
   |some (v',ids)=>some (v',⟨[],[],ids⟩)
   |none=>none)
where
 takeL (h:VH) (d:Nat) (base:Nat):List VV->Option (List VV×Ta)
  | []=>some ([],⟨[],[],[]⟩)
  |v::vs=>match Bp h d base v with
   |some (v',T)=>(match takeL h d (base+T.objs.length) vs with
    |some (vs',T')=>some (v'::vs',⟨T.objs++T'.objs,T.moved++T'.moved,T.frozen++T'.frozen⟩)
    |none=>none)
   |none=>none
mutual
def Kh:AV->VV
 |.b x=>.b x
 |.i k n=>.i k n
 |.s x=>.s x
 |.p none=>.np
 |.p (some _)=>.un
 |.sl none 0=>.nl
 |.sl _ _=>.un
 |.f g a c=>.f g (CC a) (CC c)
 |.nf=>.nf
 |.ag cs=>.ag (CC cs)
 |.tu cs=>.tu (CC cs)
def CC:List AV->List VV
 | []=>[]
 |v::vs=>Kh v::CC vs
end
def VV.nul:VV:=.tu []
abbrev A3:=Tm VV
def A3.tmp(F:A3)(n:Nat):VV:=match Tm.get F n with|some v=>v|none=>VV.nul
def A3.ev(F:A3):Ar->VV
 |.t n=>A3.tmp F n
 |.c v=>Kh v
def Ep(cells:List VV)(off:Nat)(xs:List VV):List VV:=cells.take off++xs++cells.drop (off+xs.length)
def Er(F:A3):List VV->List (Nat×Nat×Ar)->Option (List VV)
 |cells,[]=>some cells
 |cells,(off,sz,x)::r=>
  let xs:=(A3.ev F x).cells
  bif Nat.beq xs.length sz&&xs.all VV.cell&&Nat.ble (off+sz) cells.length then Er F (Ep cells off xs) r else none
def Gx:AV->Option VV
 |.b x=>some (.b x)
 |.i k n=>some (.i k n)
 |.s x=>some (.s x)
 |_=>none
def A5H(e:Option Pk)(x y:VV):Option Bool:=
 match e,x,y with
 |some .b,.b a,.b c=>some (a==c)
 |some .p,.np,.np=>some true
 |some .p,.np,.p _ _ _ _=>some false
 |some .p,.np,.fp _ _=>some false
 |some .p,.p _ _ _ _,.np=>some false
 |some .p,.fp _ _,.np=>some false
 |some .s,.nl,.nl=>some true
 |some .s,.ls (_::_),.nl=>some false
 |some .s,.nl,.ls (_::_)=>some false
 |some .s,.sl _ _ _ (_+1),.nl=>some false
 |some .f,.nf,.nf=>some true
 |some .f,.f _ _ _,.nf=>some false
 |some .f,.nf,.f _ _ _=>some false
 |_,_,_=>none
def B9(op:BinOp)(e:Option Pk)(x y:VV):Option VV:=
 match x,y with
 |.i k a,.i k' c=>(Bg op e (.i k a) (.i k' c)).bind Gx
 |.s a,.s c=>(Bg op e (.s a) (.s c)).bind Gx
 |x,y=>match op with
  |.eql=>(A5H e x y).map VV.b
  |.neq=>(A5H e x y).map fun r=>VV.b (!r)
  |_=>none
def Sb(x:Option VV)(d:Nat):Option Nat:=
 match x with
 |none=>some d
 |some (.i _ n)=>if 0<=n then some n.toNat else none
 |_=>none
def DH(esz:Nat)(rows:List (List VV)):Bool:=rows.all fun r=>Nat.beq r.length esz
def A5L(h:VH):VV->Option (List VV×Nat)
 |.fp cells c=>some (cells,c)
 |.p id ver r c=>(match Cf h id ver with
  |some o=>(match o.rows[r]? with
   |some row=>some (row,c)
   |none=>none)
  |none=>none)
 |_=>none
def vld(h:VH)(n:Option Nat)(a:VV):Option VV:=
 match A5L h a with
 |some (row,c)=>(match n with
  |none=>row[c]?
  |some n=>bif Nat.ble (c+n) row.length then some (.ag ((row.drop c).take n))else none)
 |none=>none
def vst(h:VH)(a:VV)(vs:List VV):Option VH:=
 match a with
 |.p id ver r c=>(match Cf h id ver with
  |some o=>(match o.rows[r]? with
   |some row=>bif Nat.ble (c+vs.length) row.length&&vs.all VV.cell then some (h.set id (some { o with rows:=o.rows.set r (Ep row c vs) }))else none
   |none=>none)
  |none=>none)
 |_=>none
def Aav(h:VH)(esz:Nat)(x:VV)(lo hi:Option VV):Option VV:=
 match x with
 |.s s=>
  bif Nat.beq esz 0 then
   match Sb lo 0,Sb hi s.size with
   |some l,some u=>if l<=u/\u<=s.size then some (.s (s.extract l u))else none
   |_,_=>none
  else none
 |.ls rows=>
  bif Nat.blt 0 esz&&DH esz rows then
   match Sb lo 0,Sb hi rows.length with
   |some l,some u=>if l<=u/\u<=rows.length then some (.ls ((rows.drop l).take (u-l)))else none
   |_,_=>none
  else none
 |.nl=>
  bif Nat.blt 0 esz then
   match Sb lo 0,Sb hi 0 with
   |some l,some u=>if l<=u/\u<=0 then some .nl else none
   |_,_=>none
  else none
 |.sl id ver off n=>(match Cf h id ver with
  |some o=>bif Nat.blt 0 esz&&Nat.beq o.esz esz&&!o.nl then
   match Sb lo 0,Sb hi n with
   |some l,some u=>if l<=u/\u<=n then some (.sl id ver (off+l) (u-l))else none
   |_,_=>none
   else none
  |none=>none)
 |_=>none
def NH(h:VH)(esz:Nat)(y:VV):Option (List (List VV)):=
 match y with
 |.nl=>some []
 |.ls rows=>bif DH esz rows then some rows else none
 |.sl id ver off n=>(match Cf h id ver with
  |some o=>bif (Nat.beq o.esz esz||o.nl)&&Nat.ble (off+n) o.rows.length then some ((o.rows.drop off).take n)else none
  |none=>none)
 |_=>none
def M1:VV->Option Nat
 |.nl=>some 0
 |.ls rows=>some rows.length
 |.sl _ _ _ n=>some n
 |_=>none
def Lc(h:VH)(ty esz bytes:Nat)(x y:VV):Option (VV×VH):=
 match M1 x,NH h esz y with
 |some n,some ys=>
  bif Nat.ble ((n+ys.length) * bytes) A6&&Nat.blt 0 esz then
   match x with
   |.sl id ver off _=>(match Cf h id ver with
    |some o=>(match ys with
     | []=>some (x,h)
     |y0::yr=>bif Nat.beq off 0&&Nat.beq n o.rows.length&&(o.nl||(Nat.beq o.ty ty&&Nat.beq o.esz esz))then
       some (.sl id (ver+1) 0 (n+ys.length),h.set id (some { ty:=ty,esz:=esz,ver:=ver+1,nl:=false,rows:=o.rows++ys }))
      else none)
    |none=>none)
   |.nl=>(match ys with
    | []=>some (.nl,h)
    |y0::yr=>some (.sl h.length 0 0 ys.length,h++[some { ty:=ty,esz:=esz,ver:=0,nl:=false,rows:=ys }]))
   |_=>none
  else none
 |_,_=>none
def AeI(h:VH)(esz:Nat)(x y:VV):Option (VV×VH):=
 match x,NH h esz y with
 |.sl id ver off n,some ys=>(match Cf h id ver with
  |some o=>bif Nat.beq o.esz esz&&!o.nl&&Nat.ble (off+n) o.rows.length&&Nat.blt 0 esz&&ys.all (fun r=>r.all VV.cell)then
    let k:=min ys.length n
    some (.i .i64 (k:Nat),h.set id (some { o with rows:=o.rows.take off++ys.take k++o.rows.drop (off+k) }))
   else none
  |none=>none)
 |_,_=>none
def CV(esz:Nat):Nat->List VV->List (List VV)
 |0,_=>[]
 |n+1,cs=>cs.take esz::CV esz n (cs.drop esz)
def AL:Nat->List VV->List VV×VH
 |_,[]=>([],[])
 |base,v::vs=>match v with
  |.nl=>(match AL (base+1) vs with|(ws,os)=>(.sl base 0 0 0::ws,some { ty:=0,esz:=0,ver:=0,nl:=true,rows:=[] }::os))
  |v=>(match AL base vs with|(ws,os)=>(v::ws,os))
def Ph(m:Nat)(h:VH)(ty esz bytes:Nat)(x y:VV):Option (VV×VH):=match m with
 |5=>(match Lc h ty esz bytes x y with
  |some (v,h')=>(match frz h' dF v with
   |some (r,ids)=>some (r,Bw ids h')
   |none=>none)
  |none=>none)
 |_=>Lc h ty esz bytes x y
def Df(m:Nat)(op:Bl)(F:A3)(h:VH):Option (VV×VH):=
 match op with
 |.mov x=>(match m with
  |2=>(match AL h.length (A3.ev F x).cells with
   |(ws,os)=>(match A3.ev F x with
    |.ag _=>some (.ag ws,h++os)
    |.nl=>(match ws with | [w]=>some (w,h++os)|_=>none)
    |v=>some (v,h)))
  |5=>(match frz h dF (A3.ev F x)with
   |some (r,ids)=>some (r,Bw ids h)
   |none=>none)
  |_=>some (A3.ev F x,h))
 |.pick c a b=>match A3.ev F c with
  |.b t=>some (bif t then A3.ev F a else A3.ev F b,h)
  |_=>none
 |.box ty n x=>
  let cs:=(A3.ev F x).cells
  bif Nat.beq cs.length n&&cs.all VV.cell then
   match m with
   |0=>(match Gt h cs with
    |some (cs',ids)=>some (.fp cs' 0,Bw ids h)
    |none=>none)
   |1=>some (.p h.length 0 0 0,h++[some { ty:=ty,esz:=0,ver:=0,nl:=false,rows:=[cs] }])
   |_=>(match AL h.length cs with
    |(ws,os)=>some (.p (h++os).length 0 0 0,h++os++[some { ty:=ty,esz:=0,ver:=0,nl:=false,rows:=[ws] }]))
  else none
 |.build zero parts=>match Er F (CC zero) parts with
  |some cs=>(match m with
   |2=>(match AL h.length cs with|(ws,os)=>some (.ag ws,h++os))
   |_=>some (.ag cs,h))
  |none=>none
 |.bsl ty esz len zero parts=>match Er F (CC zero) parts with
  |some cs=>bif Nat.beq cs.length (len * esz)&&Nat.blt 0 esz&&cs.all VV.cell then
    match m with
    |0=>(match A4d h (CV esz len cs)with
     |some (rs,ids)=>some (.ls rs,Bw ids h)
     |none=>none)
    |_=>some (.sl h.length 0 0 len,h++[some { ty:=ty,esz:=esz,ver:=0,nl:=false,rows:=CV esz len cs }])
   else none
  |none=>none
 |.ld n a=>(match vld h n (A3.ev F a)with|some v=>some (v,h)|none=>none)
 |.st n a x=>
  let cs:=(A3.ev F x).cells
  bif Nat.beq cs.length n then(match vst h (A3.ev F a) cs with|some h'=>some (VV.nul,h')|none=>none)else none
 |.nilc x=>match A3.ev F x with
  |.p id ver r c=>some (.p id ver r c,h)
  |.fp cells c=>some (.fp cells c,h)
  |.f g a c=>some (.f g a c,h)
  |_=>none
 |.bin op e x y=>match B9 op e (A3.ev F x) (A3.ev F y)with|some v=>some (v,h)|none=>none
 |.not x=>match A3.ev F x with|.b t=>some (.b (!t),h)|_=>none
 |.neg x=>match A3.ev F x with|.i k n=>some (.i k (k.wrap (0-n)),h)|_=>none
 |.conv k x=>match A3.ev F x with|.i _ n=>some (.i k (k.wrap n),h)|_=>none
 |.mkf g a c=>some (.f g (a.map (A3.ev F)) (c.map (A3.ev F)),h)
 |.mks ty esz bytes zero l c=>match A3.ev F l,A3.ev F c with
  |.i .i64 n,.i .i64 k=>
   if 0<=n/\n<=k/\k.toNat * bytes<=A6 then
    bif Nat.beq zero.length esz&&Nat.blt 0 esz&&(CC zero).all VV.cell then
     match m with
     |0=>(match Gt [] (CC zero)with
      |some (z,_)=>some (.ls (List.replicate n.toNat z),h)
      |none=>none)
     |_=>some (.sl h.length 0 0 n.toNat,h++[some { ty:=ty,esz:=esz,ver:=0,nl:=false,rows:=List.replicate n.toNat (CC zero) }])
    else none
   else none
  |_,_=>none
 |.slc esz x lo hi=>match Aav h esz (A3.ev F x) (lo.map (A3.ev F)) (hi.map (A3.ev F))with|some v=>some (v,h)|none=>none
 |.fa off x=>match A3.ev F x with
  |.p id ver r c=>some (.p id ver r (c+off),h)
  |.fp cells c=>some (.fp cells (c+off),h)
  |_=>none
 |.ia esz x i=>match A3.ev F x,A3.ev F i with
  |.ls rows,.i _ n=>if 0<=n then(match rows[n.toNat]? with
   |some row=>bif Nat.beq row.length esz then some (.fp row 0,h)else none
   |none=>none)else none
  |.sl id ver off len,.i _ n=>if 0<=n/\n<len then(match Cf h id ver with
   |some o=>bif Nat.beq o.esz esz&&!o.nl then some (.p id ver (off+n.toNat) 0,h)else none
   |none=>none)else none
  |_,_=>none
 |.iaa len esz x i=>match A3.ev F x,A3.ev F i with
  |.p id ver r c,.i _ n=>if 0<=n/\n<len then some (.p id ver r (c+n.toNat * esz),h)else none
  |.fp cells c,.i _ n=>if 0<=n/\n<len then some (.fp cells (c+n.toNat * esz),h)else none
  |_,_=>none
 |.ix x i=>match A3.ev F x,A3.ev F i with
  |.s s,.i _ n=>if 0<=n then(match s.data.toList[n.toNat]? with|some b=>some (.i .u8 b.toNat,h)|none=>none)else none
  |_,_=>none
 |.ext x i=>match A3.ev F x with
  |.tu vs=>(match vs[i]? with|some v=>some (v,h)|none=>none)
  |_=>none
 |.len str x=>match str,A3.ev F x with
  |true,.s s=>some (.i .i64 s.size,h)
  |false,x=>(match M1 x with|some n=>some (.i .i64 n,h)|none=>none)
  |_,_=>none
 |.app ty esz bytes x y=>Ph m h ty esz bytes (A3.ev F x) (A3.ev F y)
 |.cpy esz x y=>AeI h esz (A3.ev F x) (A3.ev F y)
 |.mnx mx x y=>match A3.ev F x,A3.ev F y with
  |.i k a,.i k' c=>if k=k' then some (.i k (XF mx a c),h)else none
  |_,_=>none
 |.call _ _=>none
 |.fail=>none
structure Gd where
 af:A4
 m:Nat->Nat
structure Ai where
 fn:Nat->Option Gd
 fnH:Nat->Option Gd
 ext:Nat->Option (List VV->Option VV)
abbrev Pl:=Gd->List VV->VH->Option (VV×VH)
def DS(m:Nat->Nat)(d:Option Nat):Nat:=match d with|some d=>m d|none=>2
open Classical in
def LT(L:Nat):VH->VH->Prop
 | [],_=>True
 |o::h,o'::h'=>(o=o'\/∀x,o'=some x->x.rows.all (CK L)=true)/\LT L h h'
 |_::_,[]=>False
open Classical in
noncomputable def J4(V:Ai)(run:Pl)(m:Nat)(g:Nat)(args:List VV)(h:VH):Option (VV×VH):=
 match m with
  |0=>(match V.ext g with
   |some x=>(match Gt h args with
    |some (pa,_)=>(match x pa with
     |some v=>bif scal v then some (v,h)else none
     |none=>none)
    |none=>none)
   |none=>(match V.fn g with
    |some vf=>(match Gt h args with
     |some (pa,ids)=>(match run vf pa []with
      |some (v,h2)=>(match frz h2 dF v with
       |some (r,_)=>some (r,bif scal r then h else Bw ids h)
       |none=>none)
      |none=>none)
     |none=>none)
    |none=>none))
  |1=>(match V.fn g with
   |some vf=>(match Gt h args with
    |some (pa,ids)=>(match run vf pa []with
     |some (v,h2)=>(match Bp h2 dF h.length v with
      |some (r,T)=>if T.moved.Nodup/\∀id∈T.moved,id∉T.frozen then some (r,Bw ids h++T.objs)else none
      |none=>none)
     |none=>none)
    |none=>none)
   |none=>none)
  |2=>(match V.fnH g with
   |some vf=>run vf args h
   |none=>none)
  |_=>(match V.fnH g with
   |some vf=>(match run vf args h with
    |some (v,h2)=>(match frz h2 dF v with
     |some (r,ids)=>if LT h.length h (Bw ids h2)then some (r,(Bw ids h2).take h.length)else none
     |none=>none)
    |none=>none)
   |none=>none)
def RO:List VV->List Nat
 | []=>[]
 |.p id _ _ _::vs=>id::RO vs
 |.sl id _ _ _::vs=>id::RO vs
 |_::vs=>RO vs
def Kd(args:List VV)(h:VH):List Nat:=(List.range h.length).filter fun i=>!(RO args).contains i
def GM(V:Ai)(run:Pl)(m:Nat)(g:Nat)(args:List VV)(h:VH):Bool:=
 bif Nat.beq m 4 then(match V.fnH g with
  |some vf=>(run vf args (Bw (Kd args h) h)).isSome
  |none=>false)else true
noncomputable def JJ(V:Ai)(run:Pl)(m:Nat)(op:Bl)(F:A3)(h:VH):Option (VV×VH):=
 match op with
 |.call f args=>match A3.ev F f with
  |.f g a c=>bif GM V run m g (a++args.map (A3.ev F)++c) h then J4 V run m g (a++args.map (A3.ev F)++c) h else none
  |_=>none
 |op=>Df m op F h
def Cv(F:A3):Option (Nat×Bool)->Option Bool
 |none=>some true
 |some (t,want)=>match A3.tmp F t with
  |.b x=>some (x==want)
  |.tu []=>some false
  |_=>none
def BM(F:A3)(d:Option Nat)(v:VV):A3:=match d with|some d=>Tm.set F d v|none=>F
noncomputable def Pw(V:Ai)(m:Nat->Nat)(run:Pl):List Ay->A3->VH->Option (A3×VH)
 | [],F,h=>some (F,h)
 |o::r,F,h=>match Cv F o.g with
  |some true=>(match JJ V run (DS m o.dst) o.op F h with
   |some (v,h')=>Pw V m run r (BM F o.dst v) h'
   |none=>none)
  |some false=>Pw V m run r (BM F o.dst VV.nul) h
  |none=>none
abbrev JP:=List (Nat×Option Nat×Nat)
def NG(m:Nat):Bl->Bool
 |.st _ _ _=>false
 |.app _ _ _ _ _=>false
 |.cpy _ _ _=>false
 |.call _ _=>Nat.ble m 1
 |_=>true
def M2(m:Nat)(op:Bl)(F:A3)(id:Nat):Bool:=
 match op with
 |.st _ a _=>(match A3.ev F a with|.p j _ _ _=>Nat.beq id j|_=>true)
 |.app _ _ _ x _=>(match A3.ev F x with|.sl j _ _ _=>Nat.beq id j|.nl=>false|_=>true)
 |.cpy _ x _=>(match A3.ev F x with|.sl j _ _ _=>Nat.beq id j|_=>true)
 |.call f args=>(match A3.ev F f with
  |.f _ a c=>bif Nat.beq m 4 then(RO (a++args.map (A3.ev F)++c)).contains id else !(Nat.ble m 1)
  |_=>true)
 |_=>false
def A0V(m:Nat)(op:Bl)(F:A3)(h:VH)(L:JP):JP:=
 bif NG m op then L else L.filter fun x=>match A3.tmp F x.2.2 with
  |.p id ver _ _=>(Cf h id ver).isSome&&!(M2 m op F id)
  |.fp _ _=>true
  |_=>false
def Hj(d:Option Nat)(L:JP):JP:=match d with
 |none=>L
 |some d=>L.filter fun x=>!(Nat.beq x.1 d)&&!(Nat.beq x.2.2 d)
def Ajw(d:Option Nat)(op:Bl)(L:JP):JP:=match d,op with
 |some d,.ld n (.t a)=>bif Nat.beq a d then L else(d,n,a)::L
 |_,_=>L
def Dd(m:Nat)(d:Option Nat)(op:Bl)(F:A3)(h:VH)(L:JP):JP:=Ajw d op (Hj d (A0V m op F h L))
def CJ:VV->Bool
 |.p _ _ _ _=>true
 |.sl _ _ _ _=>true
 |v=>scal v
def C3(F:A3)(h:VH)(L:JP):List Ay->Prop
 | []=>True
 |o::r=>(match Cv F o.g with
  |some false=>True
  |some true=>(match o.dst,o.op with
   |some d,.ld n (.t a)=>(d,n,a)∈L\/(CJ (A3.tmp F d)=true/\vld h n (A3.tmp F a)=some (A3.tmp F d))
   |_,_=>False)
  |none=>False)/\C3 F h L r
open Classical in
noncomputable def Gc(V:Ai)(m:Nat->Nat)(run:Pl):List AE->JP->A3->VH->Option (A3×VH)
 | [],_,F,h=>some (F,h)
 |s::r,L,F,h=>match Cv F s.o.g with
  |some true=>(match JJ V run (DS m s.o.dst) s.o.op F h with
   |some (v,h')=>
    if C3 (BM F s.o.dst v) h' (Dd (DS m s.o.dst) s.o.dst s.o.op F h L) s.chk then
     Gc V m run r (Dd (DS m s.o.dst) s.o.dst s.o.op F h L) (BM F s.o.dst v) h'
    else none
   |none=>none)
  |some false=>Gc V m run r (Hj s.o.dst L) (BM F s.o.dst VV.nul) h
  |none=>none
def Mi(L:Nat)(v:VV):VV:=bif bel L v then v else .un
def Tm.mapV{α:Type}(f:α->α):Tm α->Tm α
 |.e=>.e
 |.n l v r=>.n (l.mapV f) (v.map f) (r.mapV f)
theorem Tm.get_mapV{α:Type}(f:α->α):∀(t:Tm α) (k:Nat),(t.mapV f).get k=(t.get k).map f:=by
 intro t
 induction t with
 |e=>intro k;simp[Tm.mapV,Tm.get_e]
 |n l v r ihl ihr=>
  intro k
  cases k with
  |zero=>simp[Tm.mapV,Tm.get]
  |succ k=>
   grind[Tm.mapV,Tm.get]
def Ew(L:Nat)(F:A3):A3:=Tm.mapV (Mi L) F
theorem A63(L:Nat):Mi L VV.nul=VV.nul:=by simp[Mi,VV.nul,bel,CK]
theorem KZ(L:Nat)(F:A3)(t:Nat):A3.tmp (Ew L F) t=Mi L (A3.tmp F t):=by
 grind[A3.tmp,Ew,Tm.get_mapV,A63]
def Cs(F:A3)(h:VH):List A91->Option (List VV)
 | []=>some []
 |.t n::r=>(match Cs F h r with|some vs=>some (A3.tmp F n::vs)|none=>none)
 |.cell a n::r=>match vld h n (A3.tmp F a)with
  |some v=>(match Cs F h r with|some vs=>some (v::vs)|none=>none)
  |none=>none
def Lt:List VV->VV
 | [v]=>v
 |vs=>.tu vs
abbrev AaS:=A1->A3->VH->Option (Ex×A3×VH)
def Ha(ex:(Nat->Nat)->AaS):Pl:=fun vf args h=>
 match ex vf.m vf.af.body (Tm.ofList args) h with
 |some (.norm,F',h')|some (.ret,F',h')=>(match Cs F' h' vf.af.results with|some vs=>some (Lt vs,h')|none=>none)
 |_=>none
open Classical in
noncomputable def Aw(V:Ai):Nat->(Nat->Nat)->AaS
 |0,_,_,_,_=>none
 |n+1,m,c,F,h=>
  match c with
  |.skip=>some (.norm,F,h)
  |.reg ops=>(match Pw V m (Ha (Aw V n)) ops F h with|some (F',h')=>some (.norm,F',h')|none=>none)
  |.dreg ops=>(match Gc V m (Ha (Aw V n)) ops [] F h with|some (F',h')=>some (.norm,F',h')|none=>none)
  |.seq a b=>(match Aw V n m a F h with
   |some (.norm,F',h')=>Aw V n m b F' h'
   |r=>r)
  |.cond c a b=>(match A3.ev F c with
   |.b true=>Aw V n m a F h
   |.b false=>Aw V n m b F h
   |_=>none)
  |.block id c=>(match Aw V n m c F h with
   |some (.exit id',F',h')=>bif Nat.beq id' id then some (.norm,F',h')else some (.exit id',F',h')
   |r=>r)
  |.loop c=>(match Aw V n m c F h with
   |some (.norm,F',h')=>if LT h.length h h' then Aw V n m (.loop c) (Ew h.length F') (h'.take h.length)else Aw V n m (.loop c) F' h'
   |r=>r)
  |.exit id=>some (.exit id,F,h)
  |.ret=>some (.ret,F,h)
  |.fail=>none
abbrev BQ:=Nat->Option JQ
abbrev B6:=Nat->Nat->Option (Option (Nat×Nat))
def ρ0:B6:=fun _ _=>none
def JQ.at(ob:JQ)(k:Nat)(w:AV):Prop:=k<ob.len/\ob.cs.get k=some w
inductive VR (Z:BQ):B6->VV->AV->Prop
 |un (ρ:B6) (w:AV):VR Z ρ .un w
 |b (ρ:B6) (x:Bool):VR Z ρ (.b x) (.b x)
 |i (ρ:B6) (k:IntKind) (n:Int):VR Z ρ (.i k n) (.i k n)
 |s (ρ:B6) (x:ByteArray):VR Z ρ (.s x) (.s x)
 |nf (ρ:B6):VR Z ρ .nf .nf
 |np (ρ:B6):VR Z ρ .np (.p none)
 |nl (ρ:B6):VR Z ρ .nl (.sl none 0)
 |p {ρ:B6} {id ver rid esz:Nat} (r c:Nat) (h:ρ id ver=some (some (rid,esz))):VR Z ρ (.p id ver r c) (.p (some (rid,r * esz+c)))
 |fp (ρ:B6) {cells:List VV} (c:Nat) {rid base:Nat} {ob:JQ} (cl:Nat->AV) (hZ:Z rid=some ob) (h1:∀j,j<cells.length->ob.at (base+j) (cl j)) (h2:∀(j:Nat) (v:VV),cells[j]? = some v->VR Z ρ0 v (cl j)):VR Z ρ (.fp cells c) (.p (some (rid,base+c)))
 |sl {ρ:B6} {id ver rid esz:Nat} (off n:Nat) (h:ρ id ver=some (some (rid,esz))):VR Z ρ (.sl id ver off n) (.sl (some (rid,off * esz)) n)
 |sn {ρ:B6} {id ver:Nat} (off:Nat) (h:ρ id ver=some none):VR Z ρ (.sl id ver off 0) (.sl none 0)
 |ls0 (ρ:B6) (o:Option (Nat×Nat)):VR Z ρ (.ls []) (.sl o 0)
 |ls (ρ:B6) {rows:List (List VV)} {rid off esz:Nat} {ob:JQ} (cl:Nat->AV) (hZ:Z rid=some ob) (hr:∀row∈rows,row.length=esz) (h1:∀k,k<rows.length * esz->ob.at (off+k) (cl k)) (h2:∀(i:Nat) (row:List VV) (j:Nat) (v:VV),rows[i]? = some row->row[j]? = some v->VR Z ρ0 v (cl (i * esz+j))):VR Z ρ (.ls rows) (.sl (some (rid,off)) rows.length)
 |f {ρ:B6} (g:Nat) {a c:List VV} {a' c':List AV} (h1:a.length=a'.length) (h2:∀(j:Nat) (v:VV) (w:AV),a[j]? = some v->a'[j]? = some w->VR Z ρ v w) (h3:c.length=c'.length) (h4:∀(j:Nat) (v:VV) (w:AV),c[j]? = some v->c'[j]? = some w->VR Z ρ v w):VR Z ρ (.f g a c) (.f g a' c')
 |ag {ρ:B6} {a:List VV} {a':List AV} (h1:a.length=a'.length) (h2:∀(j:Nat) (v:VV) (w:AV),a[j]? = some v->a'[j]? = some w->VR Z ρ v w):VR Z ρ (.ag a) (.ag a')
 |tu {ρ:B6} {a:List VV} {a':List AV} (h1:a.length=a'.length) (h2:∀(j:Nat) (v:VV) (w:AV),a[j]? = some v->a'[j]? = some w->VR Z ρ v w):VR Z ρ (.tu a) (.tu a')
def Cw(Z:BQ)(ρ:B6)(a:List VV)(a':List AV):Prop:=a.length=a'.length/\∀(j:Nat) (v:VV) (w:AV),a[j]? = some v->a'[j]? = some w->VR Z ρ v w
def GD(Z Z':BQ):Prop:=∀id ob,Z id=some ob->Z' id=some ob
def EQ(ρ ρ':B6):Prop:=∀id ver x,ρ id ver=some x->ρ' id ver=some x
theorem GD.refl(Z:BQ):GD Z Z:=fun _ _ h=>h
theorem GD.trans{a b c:BQ}(h:GD a b)(k:GD b c):GD a c:=fun id ob x=>k _ _ (h _ _ x)
theorem EQ.refl(ρ:B6):EQ ρ ρ:=fun _ _ _ h=>h
theorem EQ.trans{a b c:B6}(h:EQ a b)(k:EQ b c):EQ a c:=fun id v x e=>k _ _ _ (h _ _ _ e)
theorem EQ.zero(ρ:B6):EQ ρ0 ρ:=fun _ _ _ h=>by simp[ρ0]at h
theorem VR.mono{Z Z':BQ}{ρ:B6}{v:VV}{w:AV}(h:VR Z ρ v w)(hz:GD Z Z'):∀{ρ':B6},EQ ρ ρ'->VR Z' ρ' v w:=by
 induction h with
 |un ρ w=>intro ρ' _;exact .un _ _
 |b ρ x=>intro ρ' _;exact .b _ _
 |i ρ k n=>intro ρ' _;exact .i _ _ _
 |s ρ x=>intro ρ' _;exact .s _ _
 |nf ρ=>intro ρ' _;exact .nf _
 |np ρ=>intro ρ' _;exact .np _
 |nl ρ=>intro ρ' _;exact .nl _
 |p r c h=>intro ρ' hr;exact .p _ _ (hr _ _ _ h)
 |fp ρ c cl hZ h1 h2 ih=>intro ρ' hr;exact .fp _ _ cl (hz _ _ hZ) h1 fun j v e=>ih j v e (EQ.refl _)
 |sl off n h=>intro ρ' hr;exact .sl _ _ (hr _ _ _ h)
 |sn off h=>intro ρ' hr;exact .sn _ (hr _ _ _ h)
 |ls0 ρ o=>intro ρ' _;exact .ls0 _ _
 |ls ρ cl hZ hr h1 h2 ih=>intro ρ' _;exact .ls _ cl (hz _ _ hZ) hr h1 fun i row j v e1 e2=>ih i row j v e1 e2 (EQ.refl _)
 |f g h1 h2 h3 h4 ih1 ih2=>intro ρ' hr;exact .f g h1 (fun j v w e1 e2=>ih1 j v w e1 e2 hr) h3 (fun j v w e1 e2=>ih2 j v w e1 e2 hr)
 |ag h1 h2 ih=>intro ρ' hr;exact .ag h1 fun j v w e1 e2=>ih j v w e1 e2 hr
 |tu h1 h2 ih=>intro ρ' hr;exact .tu h1 fun j v w e1 e2=>ih j v w e1 e2 hr
theorem Cw.mono{Z Z':BQ}{ρ ρ':B6}{v:List VV}{w:List AV}(h:Cw Z ρ v w)(hz:GD Z Z')(hr:EQ ρ ρ'):Cw Z' ρ' v w:=⟨h.1,fun j v w e1 e2=>(h.2 j v w e1 e2).mono hz hr⟩
section
variable {Z:BQ}{ρ:B6}
theorem Cw.nil:Cw Z ρ [] []:=⟨rfl,fun j v w e=>by simp at e⟩
theorem Cw.cons{v:VV}{w:AV}{vs:List VV}{ws:List AV}(h:VR Z ρ v w)(hs:Cw Z ρ vs ws):Cw Z ρ (v::vs) (w::ws):=by
 refine⟨by simp[hs.1],fun j x y e1 e2=>?_⟩
 cases j with
 |zero=>grind
 |succ j=>simp at e1 e2;exact hs.2 j x y e1 e2
theorem Cw.uncons{v:VV}{vs:List VV}{ws':List AV}(h:Cw Z ρ (v::vs) ws'):∃w ws,ws'=w::ws/\VR Z ρ v w/\Cw Z ρ vs ws:=by
 cases ws' with
 |nil=>have:=h.1;simp at this
 |cons w ws=>exact⟨w,ws,rfl,h.2 0 v w rfl rfl,by simpa using h.1,fun j x y e1 e2=>h.2 (j+1) x y (by simpa using e1) (by simpa using e2)⟩
theorem Cw.append{a b:List VV}{a' b':List AV}(h:Cw Z ρ a a')(k:Cw Z ρ b b'):Cw Z ρ (a++b) (a'++b'):=by
 induction a generalizing a' with
 |nil=>have:=h.1;grind
 |cons v vs ih=>
  obtain⟨w,ws,rfl,h1,h2⟩:=h.uncons
  exact .cons h1 (ih h2)
theorem Cw.take{a:List VV}{a':List AV}(h:Cw Z ρ a a')(n:Nat):Cw Z ρ (a.take n) (a'.take n):=by
 refine⟨by simp[h.1],fun j v w e1 e2=>?_⟩
 rw[getElem?_take]at e1 e2
 split at e1
 .rw[if_pos (by assumption)]at e2;exact h.2 j v w e1 e2
 .cases e1
theorem Cw.drop{a:List VV}{a':List AV}(h:Cw Z ρ a a')(n:Nat):Cw Z ρ (a.drop n) (a'.drop n):=by
 refine⟨by simp[h.1],fun j v w e1 e2=>?_⟩
 rw[getElem?_drop]at e1 e2
 exact h.2 _ v w e1 e2
theorem Cw.get{a:List VV}{a':List AV}(h:Cw Z ρ a a'){j:Nat}{v:VV}(e:a[j]? = some v):∃w,a'[j]? = some w/\VR Z ρ v w:=by
 have hj:=(List.getElem?_eq_some_iff.1 e).1
 have hj':j<a'.length:=by rw[<- h.1];exact hj
 exact⟨a'[j],getElem?_eq_getElem hj',h.2 j _ _ e (getElem?_eq_getElem hj')⟩
theorem Cw.of_map{α:Type}{f:α->VV}{g:α->AV}{l:List α}(h:∀x∈l,VR Z ρ (f x) (g x)):Cw Z ρ (l.map f) (l.map g):=by
 induction l with
 |nil=>exact .nil
 |cons x xs ih=>grind[cons]
theorem VR.nul:VR Z ρ VV.nul AV.un:=.tu rfl fun j v w e=>by simp at e
mutual
theorem VR.const:∀v:AV,VR Z ρ (Kh v) v
 |.b x=>.b _ _
 |.i k n=>.i _ _ _
 |.s x=>.s _ _
 |.p none=>.np _
 |.p (some _)=>.un _ _
 |.sl none 0=>.nl _
 |.sl none (n+1)=>by simp only[Kh];exact .un _ _
 |.sl (some _) n=>by simp only[Kh];exact .un _ _
 |.f g a c=>.f g (Cw.const a).1 (Cw.const a).2 (Cw.const c).1 (Cw.const c).2
 |.nf=>.nf _
 |.ag cs=>.ag (Cw.const cs).1 (Cw.const cs).2
 |.tu cs=>.tu (Cw.const cs).1 (Cw.const cs).2
theorem Cw.const:∀l:List AV,Cw Z ρ (CC l) l
 | []=>.nil
 |v::vs=>.cons (VR.const v) (Cw.const vs)
end
theorem VR.cell{v:VV}{w:AV}(h:VR Z ρ v w)(hc:v.cell=true):w.cell=true:=by
 cases h<;>first|rfl|simp[VV.cell]at hc
theorem Cw.cell{a:List VV}{a':List AV}(h:Cw Z ρ a a')(hc:a.all VV.cell=true):a'.all AV.cell=true:=by
 induction a generalizing a' with
 |nil=>have:=h.1;grind
 |cons v vs ih=>
  obtain⟨w,ws,rfl,h1,h2⟩:=h.uncons
  simp only[all_cons,and_eq_true]at hc ⊢
  exact⟨h1.cell hc.1,ih h2 hc.2⟩
theorem VR.cells{v:VV}{w:AV}(h:VR Z ρ v w)(hc:v.cells.all VV.cell=true):Cw Z ρ v.cells w.cells:=by
 cases h with
 |un=>simp[VV.cells,VV.cell]at hc
 |tu=>simp[VV.cells,VV.cell]at hc
 |ag h1 h2=>exact⟨h1,h2⟩
 |b=>exact .cons (.b _ _) .nil
 |i=>exact .cons (.i _ _ _) .nil
 |s=>exact .cons (.s _ _) .nil
 |nf=>exact .cons (.nf _) .nil
 |np=>exact .cons (.np _) .nil
 |nl=>exact .cons (.nl _) .nil
 |p r c h=>exact .cons (.p _ _ h) .nil
 |fp _ c cl hZ h1 h2=>exact .cons (.fp _ _ cl hZ h1 h2) .nil
 |sl off n h=>exact .cons (.sl _ _ h) .nil
 |sn off h=>exact .cons (.sn _ h) .nil
 |ls0=>exact .cons (.ls0 _ _) .nil
 |ls _ cl hZ hr h1 h2=>exact .cons (.ls _ cl hZ hr h1 h2) .nil
 |f g h1 h2 h3 h4=>exact .cons (.f g h1 h2 h3 h4) .nil
end
def okO(o:VO):Prop:=(o.esz=0/\∃row,o.rows=[row])\/(0<o.esz/\∀row∈o.rows,row.length=o.esz)
def VO.len(o:VO):Nat:=o.rows.flatten.length
theorem Dm{e:Nat}:∀{rows:List (List VV)},(∀row∈rows,row.length=e)->rows.flatten.length=rows.length * e:=by
 intro rows
 induction rows with
 |nil=>intro _;simp
 |cons r rs ih=>
  grind
theorem okO.lt{o:VO}(h:okO o){r c:Nat}{row:List VV}(hr:o.rows[r]? = some row)(hc:c<row.length):r * o.esz+c<o.len:=by
 unfold VO.len
 rcases h with ⟨h0,row',h1⟩|⟨h0,h1⟩
 .grind
 .have hl:=(List.getElem?_eq_some_iff.1 hr).1
  have hm:=h1 row (mem_of_getElem? hr)
  rw[Dm h1]
  have:(r+1) * o.esz<=o.rows.length * o.esz:=mul_le_mul_right _ hl
  rw[succ_mul]at this
  omega
structure HR(Z:BQ)(ρ:B6)(h:VH)(σ:St):Prop where
 nd:Hy σ
 zs:∀id ob,Z id=some ob->σ.get id=some ob
 live:∀(i:Nat) (o:VO),h[i]? = some (some o)->o.nl=false->okO o/\∃rid cs,ρ i o.ver=some (some (rid,o.esz))/\Z rid=none/\σ.get rid=some { ty:=o.ty,rw:=true,esz:=o.esz,len:=o.len,cs:=cs } /\
  ∀(r:Nat) (row:List VV) (c:Nat) (v:VV),o.rows[r]? = some row->row[c]? = some v->∃w,cs.get (r * o.esz+c)=some w/\VR Z ρ v w
 nils:∀(i:Nat) (o:VO),h[i]? = some (some o)->o.nl=true->ρ i o.ver=some none/\o.rows=[]
 inj:∀(i j:Nat) (o o':VO) (rid e e':Nat),h[i]? = some (some o)->h[j]? = some (some o')->ρ i o.ver=some (some (rid,e))->ρ j o'.ver=some (some (rid,e'))->i=j
 dom:∀id ver x,ρ id ver=some x->id<h.length
 rdom:∀id ver rid e,ρ id ver=some (some (rid,e))->rid < σ.next
 vers:∀(i:Nat) (o:VO) (ver:Nat) x,h[i]? = some (some o)->ρ i ver=some x->ver<=o.ver
def Lv(ρ:B6)(h:VH)(rid:Nat):Prop:=∃(i:Nat) (o:VO) (e:Nat),h[i]? = some (some o)/\ρ i o.ver=some (some (rid,e))
structure Ev(Z:BQ)(ρ:B6)(h:VH)(σ:St)(Z':BQ)(ρ':B6)(h':VH)(σ':St):Prop where
 zl:GD Z Z'
 rl:EQ ρ ρ'
 nx:σ.next<=σ'.next
 keep:∀id ob,σ.get id=some ob->¬Lv ρ h id->σ'.get id=some ob
 lv:∀id,Lv ρ' h' id->Lv ρ h id\/σ.next<=id
 zd:∀id ob,Z' id=some ob->Z id=some ob\/Lv ρ h id\/σ.next<=id
theorem Ev.refl{Z:BQ}{ρ:B6}{h:VH}{σ:St}:Ev Z ρ h σ Z ρ h σ:=⟨GD.refl _,EQ.refl _,Nat.le_refl _,fun _ _ h _=>h,fun _ h=>.inl h,fun _ _ h=>.inl h⟩
theorem CP{σ:St}(h:Hy σ){id:Nat}{ob:JQ}(e:σ.get id=some ob):id < σ.next:=by
 rcases Nat.lt_or_ge id σ.next with h1|h1
 .exact h1
 .rw[h _ h1]at e;cases e
theorem Ev.trans{Z1 Z2 Z3:BQ}{ρ1 ρ2 ρ3:B6}{h1 h2 h3:VH}{σ1 σ2 σ3:St}(a:Ev Z1 ρ1 h1 σ1 Z2 ρ2 h2 σ2)(b:Ev Z2 ρ2 h2 σ2 Z3 ρ3 h3 σ3)(hn:Hy σ1):Ev Z1 ρ1 h1 σ1 Z3 ρ3 h3 σ3 where
 zl:=a.zl.trans b.zl
 rl:=a.rl.trans b.rl
 nx:=le_trans a.nx b.nx
 keep:=fun id ob e hl=>by
  refine b.keep id ob (a.keep id ob e hl) fun h2=>?_
  rcases a.lv id h2 with h|h
  .exact hl h
  .have:=CP hn e;omega
 lv:=fun id h=>by
  rcases b.lv id h with h|h
  .exact a.lv id h
  .exact .inr (le_trans a.nx h)
 zd:=fun id ob h=>by
  rcases b.zd id ob h with h|h|h
  .exact a.zd id ob h
  .exact .inr (a.lv id h)
  .exact .inr (.inr (le_trans a.nx h))
theorem Ec{h:VH}{id ver:Nat}{o:VO}(e:Cf h id ver=some o):h[id]? = some (some o)/\o.ver=ver:=by
 grind[Cf,eq_of_beq_eq_true]
theorem DD{α β:Type}{f:α->Option (β×List Nat)}:∀{xs:List α} {ys:List β} {is:List Nat},B5 f xs=some (ys,is) ->
  ys.length=xs.length/\(∀(j:Nat) (x:α),xs[j]? = some x->∃y ij,f x=some (y,ij)/\ys[j]? = some y/\∀id∈ij,id∈is)/\∀id∈is,∃x∈xs,∃y ij,f x=some (y,ij)/\id∈ij:=by
 intro xs
 induction xs with
 |nil=>intro ys is h;simp only[B5,Option.some.injEq,Prod.mk.injEq]at h;grind
 |cons x xs ih=>
  grind[B5]
theorem Jo{α β:Type}{f:α->Option (β×List Nat)}{xs:List α}{ys:List β}{is:List Nat}(h:B5 f xs=some (ys,is)){j:Nat}{y:β}(e:ys[j]? = some y):∃x ij,xs[j]? = some x/\f x=some (y,ij)/\∀id∈ij,id∈is:=by
 obtain⟨h1,h2,_⟩:=DD h
 have hj:=(List.getElem?_eq_some_iff.1 e).1
 have hj':j<xs.length:=by omega
 obtain⟨y',ij,e1,e2,e3⟩:=h2 j xs[j] (getElem?_eq_getElem hj')
 grind
def U9(Z':BQ)(ρ:B6)(h:VH)(σ:St)(ids:List Nat):Prop:=
 ∀id∈ids,∀(o:VO) (rid e:Nat),h[id]? = some (some o)->ρ id o.ver=some (some (rid,e))->Z' rid=σ.get rid
theorem VR.rz{Z Z':BQ}{ρ:B6}{v:VV}{w:AV}(hz:GD Z Z')(h:VR Z ρ v w)(hv:(∀a b c d,v≠.p a b c d)/\(∀a b c d,v≠.sl a b c d)/\(∀g a c,v≠.f g a c)/\(∀a,v≠.ag a)/\∀a,v≠.tu a):VR Z' ρ0 v w:=by
 obtain⟨h1,h2,h3,h4,h5⟩:=hv
 cases h with
 |un=>exact .un _ _
 |b=>exact .b _ _
 |i=>exact .i _ _ _
 |s=>exact .s _ _
 |nf=>exact .nf _
 |np=>exact .np _
 |nl=>exact .nl _
 |p r c h=>exact absurd rfl (h1 _ _ _ _)
 |fp _ c cl hZ g1 g2=>exact .fp _ _ cl (hz _ _ hZ) g1 fun j v e=>(g2 j v e).mono hz (EQ.refl _)
 |sl off n h=>exact absurd rfl (h2 _ _ _ _)
 |sn off h=>exact absurd rfl (h2 _ _ _ _)
 |ls0=>exact .ls0 _ _
 |ls _ cl hZ hr g1 g2=>exact .ls _ cl (hz _ _ hZ) hr g1 fun i row j v e1 e2=>(g2 i row j v e1 e2).mono hz (EQ.refl _)
 |f g _ _ _ _=>exact absurd rfl (h3 _ _ _)
 |ag _ _=>exact absurd rfl (h4 _)
 |tu _ _=>exact absurd rfl (h5 _)
theorem KI{Z Z':BQ}{ρ:B6}{h:VH}{σ:St}(H:HR Z ρ h σ)(hz:GD Z Z'):∀(d:Nat) (v v':VV) (w:AV) (ids:List Nat),frz h d v=some (v',ids)->VR Z ρ v w->U9 Z' ρ h σ ids->VR Z' ρ0 v' w:=by
 intro d
 induction d with
 |zero=>intro v v' w ids e;simp[frz]at e
 |succ d ih=>
  intro v v' w ids e hv hF
  have hmap:∀(a b:List VV) (a':List AV) (is:List Nat),B5 (frz h d) a=some (b,is)->Cw Z ρ a a'->(∀id∈is,id∈ids)->Cw Z' ρ0 b a':=by
   intro a b a' is e1 e2 e3
   obtain⟨g1,g2,_⟩:=DD e1
   refine⟨by rw[g1];exact e2.1,fun j y w ey ew=>?_⟩
   obtain⟨x,ij,q1,q2,q3⟩:=Jo e1 ey
   exact ih x y w ij q2 (e2.2 j x w q1 ew) fun id hid=>hF id (e3 _ (q3 id hid))
  have hsame:v'=v->ids=[]->((∀a b c d,v≠.p a b c d)/\(∀a b c d,v≠.sl a b c d)/\(∀g a c,v≠.f g a c)/\(∀a,v≠.ag a)/\∀a,v≠.tu a)->VR Z' ρ0 v' w:=by
   rintro rfl _ hc
   exact hv.rz hz hc
  cases v with
  |un=>simp[frz]at e
  |nl=>
   simp only[frz,Option.some.injEq,Prod.mk.injEq]at e
   obtain⟨rfl,rfl⟩:=e
   cases hv
   exact .ls0 _ _
  |p id ver r c=>
   simp only[frz]at e
   split at e
   .rename_i o ho
    split at e
    .rename_i row hrow
     split at e
     .rename_i cs is hm
      cases e
      obtain⟨q1,q2⟩:=Ec ho
      subst q2
      cases hv with
      |p r c hρ=>
       rename_i rid esz
       have hnl:o.nl=false:=by
        cases hn:o.nl with
        |false=>rfl
        |true=>have:=(H.nils _ _ q1 hn).1;rw[hρ]at this;cases this
       obtain⟨hok,rid',cs',k1,k2,k3,k4⟩:=H.live _ _ q1 hnl
       rw[hρ]at k1
       cases k1
       have hzr:Z' rid=some { ty:=o.ty,rw:=true,esz:=o.esz,len:=o.len,cs:=cs' }:=by
        rw[hF id (by simp) o rid o.esz q1 hρ,k3]
       obtain⟨g1,g2,_⟩:=DD hm
       refine .fp _ _ (cl:=fun j=>(cs'.get (r * o.esz+j)).getD AV.un) hzr ?_ ?_
       .intro j hj
        rw[g1]at hj
        obtain⟨w,hw,_⟩:=k4 r row j row[j] hrow (getElem?_eq_getElem hj)
        exact⟨hok.lt hrow hj,by rw[hw];rfl⟩
       .intro j y ey
        obtain⟨x,ij,p1,p2,p3⟩:=Jo hm ey
        obtain⟨w,hw,hx⟩:=k4 r row j x hrow p1
        have:=ih x y w ij p2 hx fun id hid=>hF id (by simp[p3 id hid])
        grind
     .cases e
    .cases e
   .cases e
  |sl id ver off n=>
   simp only[frz]at e
   split at e
   .rename_i o ho
    cases hb:(Nat.ble (off+n) o.rows.length&&(Nat.blt 0 o.esz||o.nl))with
    |false=>rw[hb]at e;cases e
    |true=>
     rw[hb]at e
     simp only[cond_true]at e
     simp only[and_eq_true,ble_eq,Bool.or_eq_true,blt_eq]at hb
     split at e
     .rename_i rs is hm
      cases e
      obtain⟨q1,q2⟩:=Ec ho
      subst q2
      obtain⟨g1,g2,_⟩:=DD hm
      rw[length_take,List.length_drop]at g1
      cases hv with
      |sn off hρ=>
       have:rs=[]:=List.length_eq_zero_iff.1 (by omega)
       subst this
       exact .ls0 _ _
      |sl off n hρ=>
       rename_i rid esz
       have hnl:o.nl=false:=by
        cases hn:o.nl with
        |false=>rfl
        |true=>have:=(H.nils _ _ q1 hn).1;rw[hρ]at this;cases this
       obtain⟨hok,rid',cs',k1,k2,k3,k4⟩:=H.live _ _ q1 hnl
       rw[hρ]at k1
       cases k1
       have hes:0<o.esz:=by grind
       have hrows:∀row∈o.rows,row.length=o.esz:=by
        rcases hok with ⟨h0,_⟩|⟨_,h1⟩
        .omega
        .exact h1
       have hzr:Z' rid=some { ty:=o.ty,rw:=true,esz:=o.esz,len:=o.len,cs:=cs' }:=by
        rw[hF id (by simp) o rid o.esz q1 hρ,k3]
       have hrl:rs.length=n:=by omega
       have hrow':∀(i:Nat) (y:List VV),rs[i]? = some y->∃row ij,o.rows[off+i]? = some row/\B5 (frz h d) row=some (y,ij)/\∀id∈ij,id∈is:=by
        intro i y ey
        obtain⟨x,ij,p1,p2,p3⟩:=Jo hm ey
        grind
       have hrs:∀row∈rs,row.length=o.esz:=by
        intro row hr
        obtain⟨i,hi,e⟩:=List.mem_iff_getElem.1 hr
        obtain⟨x,ij,p1,p2,_⟩:=hrow' i row (by rw[getElem?_eq_getElem hi,e])
        rw[(DD p2).1]
        exact hrows x (mem_of_getElem? p1)
       rw[show n=rs.length from hrl.symm]
       refine .ls _ (esz:=o.esz) (cl:=fun k=>(cs'.get (off * o.esz+k)).getD AV.un) hzr hrs ?_ ?_
       .intro k hk
        have hd:k / o.esz<n:=by
         rw[Nat.div_lt_iff_lt_mul hes]
         grind
        have hm':=mod_lt k hes
        have hi:off+k / o.esz<o.rows.length:=by omega
        have hrw:=getElem?_eq_getElem hi
        have hlen:=hrows _ (List.getElem_mem hi)
        obtain⟨w,hw,_⟩:=k4 _ _ (k % o.esz) _ hrw (getElem?_eq_getElem (by rw[hlen];exact hm'))
        have hkk:(off+k / o.esz) * o.esz+k % o.esz=off * o.esz+k:=by
         grind[Nat.div_add_mod]
        rw[hkk]at hw
        refine⟨?_,by rw[hw];rfl⟩
        rw[<- hkk]
        exact hok.lt hrw (by rw[hlen];exact hm')
       .intro i y j u e1 e2
        obtain⟨row,ij,p1,p2,p3⟩:=hrow' i y e1
        obtain⟨x,ij',r1,r2,r3⟩:=Jo p2 e2
        obtain⟨w,hw,hx⟩:=k4 _ row j x p1 r1
        have hkk:(off+i) * o.esz+j=off * o.esz+(i * o.esz+j):=by rw[add_mul];omega
        rw[hkk]at hw
        have:=ih x u w ij' r2 hx fun id hid=>hF id (by simp[p3 id (r3 id hid)])
        grind
     .cases e
   .cases e
  |f g a c=>
   simp only[frz]at e
   split at e
   .rename_i a' i1 c' i2 h1 h2
    cases e
    cases hv with
    |f g l1 l2 l3 l4=>
     have r1:=hmap a a' _ i1 h1 ⟨l1,l2⟩ fun id hid=>by simp[hid]
     have r2:=hmap c c' _ i2 h2 ⟨l3,l4⟩ fun id hid=>by simp[hid]
     exact .f g r1.1 r1.2 r2.1 r2.2
   .cases e
  |ag cs=>
   simp only[frz]at e
   split at e
   .rename_i cs' is h1
    cases e
    cases hv with
    |ag l1 l2=>
     have r1:=hmap cs cs' _ _ h1 ⟨l1,l2⟩ fun id hid=>hid
     exact .ag r1.1 r1.2
   .cases e
  |tu cs=>
   simp only[frz]at e
   split at e
   .rename_i cs' is h1
    cases e
    cases hv with
    |tu l1 l2=>
     have r1:=hmap cs cs' _ _ h1 ⟨l1,l2⟩ fun id hid=>hid
     exact .tu r1.1 r1.2
   .cases e
  |b x=>grind[frz]
  |i k n=>grind[frz]
  |s x=>grind[frz]
  |nf=>grind[frz]
  |np=>grind[frz]
  |fp cells c=>grind[frz]
  |ls rows=>grind[frz]
section
variable {Z:BQ}{ρ:B6}{h:VH}{σ:St}
theorem HR.zl_lv(H:HR Z ρ h σ){i:Nat}{o:VO}{rid e:Nat}(h1:h[i]? = some (some o))(h2:ρ i o.ver=some (some (rid,e))):o.nl=false/\e=o.esz/\Z rid=none:=by
 have hnl:o.nl=false:=by
  cases hn:o.nl with
  |false=>rfl
  |true=>have:=(H.nils _ _ h1 hn).1;rw[h2]at this;cases this
 obtain⟨_,rid',cs',k1,k2,_,_⟩:=H.live _ _ h1 hnl
 grind
theorem DF{α:Type}{h:List α}{id i:Nat}{x y:α}(e:(h.set id x)[i]? = some y):(i=id/\y=x/\id<h.length)\/(i≠id/\h[i]? = some y):=by
 grind
open Classical in
theorem HR.kill1(H:HR Z ρ h σ)(id:Nat):∃Z',HR Z' ρ (h.set id none) σ/\GD Z Z'/\U9 Z' ρ h σ [id]/\(∀r ob,Z' r=some ob->Z r=some ob\/Lv ρ h r)/\∀r,Lv ρ (h.set id none) r->Lv ρ h r:=by
 have hl:∀r,Lv ρ (h.set id none) r->Lv ρ h r:=by
  rintro r ⟨i,o,e,h1,h2⟩
  rcases DF h1 with ⟨_,h3,_⟩|⟨_,h3⟩
  .cases h3
  .exact⟨i,o,e,h3,h2⟩
 let P:Nat->Prop:=fun r=>∃(o:VO) (e:Nat),h[id]? = some (some o)/\ρ id o.ver=some (some (r,e))
 have hle:GD Z fun r=>if P r then σ.get r else Z r:=by
  intro r ob e
  show(if P r then σ.get r else Z r)=some ob
  by_cases c:P r
  .obtain⟨o,e',q1,q2⟩:=c
   rw[(H.zl_lv q1 q2).2.2]at e
   cases e
  .rw[if_neg c];exact e
 refine⟨fun r=>if P r then σ.get r else Z r,⟨H.nd,?_,?_,?_,?_,?_,H.rdom,?_⟩,hle,?_,?_,hl⟩
 .intro r ob e
  by_cases c:P r
  .rw[if_pos c]at e;exact e
  .rw[if_neg c]at e;exact H.zs _ _ e
 .intro i o e hn
  rcases DF e with ⟨_,h3,_⟩|⟨hne,h3⟩
  .cases h3
  .obtain⟨k0,rid,cs,k1,k2,k3,k4⟩:=H.live i o h3 hn
   refine⟨k0,rid,cs,k1,?_,k3,fun r row c v e1 e2=>?_⟩
   .have c:¬P rid:=by
     rintro⟨o',e',q1,q2⟩
     exact hne (H.inj _ _ _ _ _ _ _ h3 q1 k1 q2)
    rw[if_neg c];exact k2
   .obtain⟨w,hw,hv⟩:=k4 r row c v e1 e2
    exact⟨w,hw,hv.mono hle (EQ.refl _)⟩
 .intro i o e hn
  rcases DF e with ⟨_,h3,_⟩|⟨hne,h3⟩
  .cases h3
  .exact H.nils i o h3 hn
 .intro i j o o' rid e e' h1 h2 h3 h4
  rcases DF h1 with ⟨_,h5,_⟩|⟨_,h5⟩
  .cases h5
  .rcases DF h2 with ⟨_,h6,_⟩|⟨_,h6⟩
   .cases h6
   .exact H.inj _ _ _ _ _ _ _ h5 h6 h3 h4
 .intro id' ver x e
  rw[List.length_set]
  exact H.dom _ _ _ e
 .intro i o ver x e1 e2
  rcases DF e1 with ⟨_,h3,_⟩|⟨hne,h3⟩
  .cases h3
  .exact H.vers _ _ _ _ h3 e2
 .intro id' hid o rid e q1 q2
  have:id'=id:=by simpa using hid
  subst this
  exact if_pos ⟨o,e,q1,q2⟩
 .intro r ob e
  by_cases c:P r
  .obtain⟨o,e',q1,q2⟩:=c
   exact .inr ⟨id,o,e',q1,q2⟩
  grind
theorem U9.mono{Z' Z'':BQ}{ids:List Nat}(hF:U9 Z' ρ h σ ids)(H:HR Z ρ h σ)(hz:GD Z' Z''):U9 Z'' ρ h σ ids:=by
 intro id hid o rid e q1 q2
 have:=hF id hid o rid e q1 q2
 obtain⟨hn,_⟩:=H.zl_lv q1 q2
 obtain⟨_,rid',cs,k1,k2,k3,_⟩:=H.live _ _ q1 hn
 rw[q2]at k1
 cases k1
 rw[k3]at this ⊢
 exact hz _ _ this
theorem AcG(ids:List Nat):∀h:VH,(Bw ids h).length=h.length:=by
 induction ids with
 |nil=>intro h;rfl
 |cons id ids ih=>grind[Bw]
theorem HR.killAll:∀(ids:List Nat) {Z:BQ} {h:VH},HR Z ρ h σ->∃Z',HR Z' ρ (Bw ids h) σ/\GD Z Z'/\U9 Z' ρ h σ ids/\(∀r ob,Z' r=some ob->Z r=some ob\/Lv ρ h r)/\∀r,Lv ρ (Bw ids h) r->Lv ρ h r:=by
 intro ids
 induction ids with
 |nil=>intro Z h H;exact⟨Z,H,GD.refl _,fun id h=>by simp at h,fun _ _ h=>.inl h,fun _ h=>h⟩
 |cons id ids ih=>
  intro Z h H
  obtain⟨Z1,H1,z1,f1,d1,l1⟩:=H.kill1 id
  obtain⟨Z2,H2,z2,f2,d2,l2⟩:=ih H1
  refine⟨Z2,H2,z1.trans z2,?_,?_,fun r hr=>l1 r (l2 r hr)⟩
  .intro id' hid o rid e q1 q2
   by_cases c:id'=id
   .subst c
    have:=f1 id' (by simp) o rid e q1 q2
    obtain⟨hn,_⟩:=H.zl_lv q1 q2
    obtain⟨_,rid',cs,k1,k2,k3,_⟩:=H.live _ _ q1 hn
    rw[q2]at k1
    cases k1
    rw[k3]at this ⊢
    exact z2 _ _ this
   .have hid':id'∈ids:=by simpa[c]using hid
    refine f2 id' hid' o rid e ?_ q2
    grind
  grind
theorem K3{Z':BQ}(H:HR Z ρ h σ)(hz:GD Z Z'){vs ps:List VV}{ws:List AV}{ids:List Nat}(e:Gt h vs=some (ps,ids))(hv:Cw Z ρ vs ws)(hF:U9 Z' ρ h σ ids):Cw Z' ρ0 ps ws:=by
 obtain⟨g1,g2,_⟩:=DD e
 refine⟨by rw[g1];exact hv.1,fun j y w ey ew=>?_⟩
 obtain⟨x,ij,q1,q2,q3⟩:=Jo e ey
 exact KI H hz _ x y w ij q2 (hv.2 j x w q1 ew) fun id hid=>hF id (q3 id hid)
theorem HR.slot(H:HR Z ρ h σ):HR Z ρ (h++[none]) σ:=by
 have key:∀(i:Nat) (o:VO),(h++[none])[i]? = some (some o)->h[i]? = some (some o):=by
  grind
 refine⟨H.nd,H.zs,fun i o e hn=>H.live i o (key _ _ e) hn,fun i o e hn=>H.nils i o (key _ _ e) hn,fun i j o o' rid e e' h1 h2 h3 h4=>H.inj _ _ _ _ _ _ _ (key _ _ h1) (key _ _ h2) h3 h4,fun id ver x e=>?_,H.rdom,fun i o ver x e1 e2=>H.vers _ _ _ _ (key _ _ e1) e2⟩
 have:=H.dom _ _ _ e
 simp
 omega
theorem Lv.slot{r:Nat}(hl:Lv ρ (h++[none]) r):Lv ρ h r:=by
 obtain⟨i,o,e,h1,h2⟩:=hl
 refine⟨i,o,e,?_,h2⟩
 grind
theorem HR.turn(H:HR Z ρ h σ){i:Nat}(hi:i<h.length){o':VO}{ρ':B6}{σ':St}{rid':Nat}{cs':Tm AV}(hρ:EQ ρ ρ')
  (hnew:∀id ver x,ρ' id ver=some x->ρ id ver=some x\/(id=i/\ver=o'.ver/\x=some (rid',o'.esz)))
  (nd:Hy σ') (nx:σ.next<=σ'.next) (hr:ρ' i o'.ver=some (some (rid',o'.esz))) (hz:Z rid'=none) (hlt:rid' < σ'.next)
  (get':σ'.get rid'=some { ty:=o'.ty,rw:=true,esz:=o'.esz,len:=o'.len,cs:=cs' }) (ok:okO o') (nl:o'.nl=false)
  (cells:∀(r:Nat) (row:List VV) (c:Nat) (v:VV),o'.rows[r]? = some row->row[c]? = some v->∃w,cs'.get (r * o'.esz+c)=some w/\VR Z ρ' v w)
  (others:∀(j:Nat) (o:VO) (rid e:Nat),j≠i->h[j]? = some (some o)->ρ j o.ver=some (some (rid,e))->σ'.get rid=σ.get rid/\rid≠rid')
  (zs:∀id ob,Z id=some ob->σ'.get id=some ob)
  (vers:∀ver x,ρ i ver=some x->ver<=o'.ver):HR Z ρ' (h.set i (some o')) σ':=by
 have hver:∀(j:Nat) (o:VO) x,j≠i->ρ' j o.ver=some x->ρ j o.ver=some x:=by
  grind
 refine⟨nd,zs,?_,?_,?_,?_,?_,?_⟩
 .intro j o e hn
  rcases DF e with ⟨h1,h2,_⟩|⟨hne,h3⟩
  .grind
  .obtain⟨k0,rid,cs,k1,k2,k3,k4⟩:=H.live j o h3 hn
   refine⟨k0,rid,cs,hρ _ _ _ k1,k2,by grind,fun r row c v e1 e2=>?_⟩
   obtain⟨w,hw,hv⟩:=k4 r row c v e1 e2
   exact⟨w,hw,hv.mono (GD.refl _) hρ⟩
 .intro j o e hn
  rcases DF e with ⟨h1,h2,_⟩|⟨hne,h3⟩
  .cases h2
   rw[nl]at hn;cases hn
  .exact⟨hρ _ _ _ (H.nils j o h3 hn).1,(H.nils j o h3 hn).2⟩
 .intro a b o1 o2 rid e e' h1 h2 h3 h4
  rcases DF h1 with ⟨g1,g2,_⟩|⟨g1,g2⟩
  .grind
  .rcases DF h2 with ⟨k1,k2,_⟩|⟨k1,k2⟩
   .grind
   .exact H.inj _ _ _ _ _ _ _ g2 k2 (hver _ _ _ g1 h3) (hver _ _ _ k1 h4)
 .intro id ver x e
  rw[List.length_set]
  rcases hnew _ _ _ e with h1|⟨h1,_⟩
  .exact H.dom _ _ _ h1
  .rw[h1];exact hi
 .intro id ver rid e h1
  rcases hnew _ _ _ h1 with h2|⟨_,_,h2⟩
  .exact Nat.lt_of_lt_of_le (H.rdom _ _ _ _ h2) nx
  .cases h2;exact hlt
 .intro j o ver x e1 e2
  rcases DF e1 with ⟨h1,h2,_⟩|⟨hne,h3⟩
  .grind
  .rcases hnew _ _ _ e2 with h4|⟨h4,_⟩
   .exact H.vers _ _ _ _ h3 h4
   .exact absurd h4 hne
theorem Lv.turn{i:Nat}{o':VO}{ρ':B6}{rid':Nat}(hnew:∀id ver x,ρ' id ver=some x->ρ id ver=some x\/(id=i/\ver=o'.ver/\x=some (rid',o'.esz)))(hr:ρ' i o'.ver=some (some (rid',o'.esz))){r:Nat}(hl:Lv ρ' (h.set i (some o')) r):Lv ρ h r\/r=rid':=by
 obtain⟨j,o,e,h1,h2⟩:=hl
 rcases DF h1 with ⟨g1,g2,_⟩|⟨g1,g2⟩
 .grind
 .rcases hnew _ _ _ h2 with h3|⟨h3,_⟩
  .exact .inl ⟨j,o,e,g2,h3⟩
  .exact absurd h3 g1
theorem HR.fresh(H:HR Z ρ h σ)(ob:JQ):HR (fun r=>if r=σ.next then some ob else Z r) ρ h (σ.new ob)/\Ev Z ρ h σ (fun r=>if r=σ.next then some ob else Z r) ρ h (σ.new ob):=by
 have hn:∀r ob',Z r=some ob'->r≠σ.next:=fun r ob' e c=>by
  have:=CP H.nd (H.zs _ _ e);omega
 have hle:GD Z (fun r=>if r=σ.next then some ob else Z r):=fun r ob' e=>by
  grind
 refine⟨⟨GX H.nd ob,?_,?_,H.nils,H.inj,H.dom,?_,H.vers⟩,hle,EQ.refl _,by simp[St.new],?_,fun _ h=>.inl h,?_⟩
 .intro r ob' e
  rw[Br]
  by_cases c:r=σ.next
  .simp only[if_pos c]at e ⊢;exact e
  .simp only[if_neg c]at e ⊢;exact H.zs _ _ e
 .intro i o e hnl
  obtain⟨k0,rid,cs,k1,k2,k3,k4⟩:=H.live i o e hnl
  have hlt:=H.rdom _ _ _ _ k1
  refine⟨k0,rid,cs,k1,?_,?_,fun r row c v e1 e2=>?_⟩
  .rw[if_neg (by omega)];exact k2
  .rw[Br,if_neg (by omega)];exact k3
  .obtain⟨w,hw,hv⟩:=k4 r row c v e1 e2
   exact⟨w,hw,hv.mono hle (EQ.refl _)⟩
 .intro id ver rid e h1
  have:=H.rdom _ _ _ _ h1
  simp[St.new];omega
 .intro id ob' e _
  rw[Br,if_neg (by have:=CP H.nd e;omega)]
  exact e
 grind
theorem HR.nilObj'(H:HR Z ρ h σ)(on:VO)(hv:on.ver=0)(hnl:on.nl=true)(hrw:on.rows=[]):∃ρ',HR Z ρ' (h++[some on]) σ/\Ev Z ρ h σ Z ρ' (h++[some on]) σ/\ρ' h.length 0=some none:=by
 have hdom:∀ver,ρ h.length ver=none:=by
  intro ver
  cases e:ρ h.length ver with
  |none=>rfl
  |some x=>have:=H.dom _ _ _ e;omega
 let ρ':B6:=fun id ver=>if id=h.length/\ver=0 then some none else ρ id ver
 have hle:EQ ρ ρ':=by
  intro id ver x e
  grind
 have hnew:∀id ver x,ρ' id ver=some x->ρ id ver=some x\/(id=h.length/\ver=0/\x=none):=by
  grind
 have key:∀(i:Nat) (o:VO),(h++[some on])[i]? = some (some o)->(h[i]? = some (some o)/\i<h.length)\/(i=h.length/\o=on):=by
  grind
 have hlv:∀(j:Nat) (o:VO) (rid e:Nat),(h++[some on])[j]? = some (some o)->ρ' j o.ver=some (some (rid,e))->h[j]? = some (some o)/\ρ j o.ver=some (some (rid,e)):=by
  grind
 refine⟨ρ',⟨H.nd,H.zs,?_,?_,?_,?_,?_,?_⟩,⟨GD.refl _,hle,Nat.le_refl _,fun _ _ h _=>h,?_,fun _ _ h=>.inl h⟩,?_⟩
 .intro i o e hn
  rcases key i o e with ⟨h1,_⟩|⟨_,h1⟩
  .obtain⟨k0,rid,cs,k1,k2,k3,k4⟩:=H.live i o h1 hn
   refine⟨k0,rid,cs,hle _ _ _ k1,k2,k3,fun r row c v e1 e2=>?_⟩
   obtain⟨w,hw,hv⟩:=k4 r row c v e1 e2
   exact⟨w,hw,hv.mono (GD.refl _) hle⟩
  .subst h1;rw[hnl]at hn;cases hn
 .intro i o e hn
  rcases key i o e with ⟨h1,_⟩|⟨h0,h1⟩
  .exact⟨hle _ _ _ (H.nils i o h1 hn).1,(H.nils i o h1 hn).2⟩
  grind
 .intro i j o o' rid e e' h1 h2 h3 h4
  obtain⟨q1,q2⟩:=hlv _ _ _ _ h1 h3
  obtain⟨q3,q4⟩:=hlv _ _ _ _ h2 h4
  exact H.inj _ _ _ _ _ _ _ q1 q3 q2 q4
 .intro id ver x e
  rw[List.length_append]
  rcases hnew _ _ _ e with h1|⟨h1,_⟩
  .have:=H.dom _ _ _ h1;simp;omega
  .simp;omega
 .intro id ver rid e h1
  rcases hnew _ _ _ h1 with h2|⟨_,_,h2⟩
  .exact H.rdom _ _ _ _ h2
  .cases h2
 .intro i o ver x e1 e2
  rcases key i o e1 with ⟨h1,hi⟩|⟨h0,h1⟩
  .rcases hnew _ _ _ e2 with h2|⟨h2,_⟩
   .exact H.vers _ _ _ _ h1 h2
   .omega
  grind
 .rintro r ⟨j,o,e,h1,h2⟩
  obtain⟨q1,q2⟩:=hlv _ _ _ _ h1 h2
  exact .inl ⟨j,o,e,q1,q2⟩
 grind
theorem HR.nilObj(H:HR Z ρ h σ):∃ρ',HR Z ρ' (h++[some { ty:=0,esz:=0,ver:=0,nl:=true,rows:=[] }]) σ/\Ev Z ρ h σ Z ρ' (h++[some { ty:=0,esz:=0,ver:=0,nl:=true,rows:=[] }]) σ/\ρ' h.length 0=some none:=H.nilObj' _ rfl rfl rfl
theorem HR.push(H:HR Z ρ h σ){o:VO}{cs:Tm AV}(hv:o.ver=0)(ok:okO o)(nl:o.nl=false)
  (cells:∀(r:Nat) (row:List VV) (c:Nat) (v:VV),o.rows[r]? = some row->row[c]? = some v->∃w,cs.get (r * o.esz+c)=some w/\VR Z ρ v w) :
  ∃ρ',HR Z ρ' (h++[some o]) (σ.new { ty:=o.ty,rw:=true,esz:=o.esz,len:=o.len,cs:=cs })/\Ev Z ρ h σ Z ρ' (h++[some o]) (σ.new { ty:=o.ty,rw:=true,esz:=o.esz,len:=o.len,cs:=cs })/\ρ' h.length 0=some (some (σ.next,o.esz)):=by
 have hdom:∀ver,ρ h.length ver=none:=by
  intro ver
  cases e:ρ h.length ver with
  |none=>rfl
  |some x=>have:=H.dom _ _ _ e;omega
 let ρ':B6:=fun id ver=>if id=h.length/\ver=0 then some (some (σ.next,o.esz))else ρ id ver
 have hle:EQ ρ ρ':=by
  intro id ver x e
  grind
 have hnew:∀id ver x,ρ' id ver=some x->ρ id ver=some x\/(id=h.length/\ver=o.ver/\x=some (σ.next,o.esz)):=by
  grind
 have hr:ρ' h.length o.ver=some (some (σ.next,o.esz)):=by
  grind
 have hs:(h++[none]).set h.length (some o)=h++[some o]:=by
  grind
 have T:=H.slot.turn (i:=h.length) (o':=o) (ρ':=ρ') (σ':=σ.new { ty:=o.ty,rw:=true,esz:=o.esz,len:=o.len,cs:=cs }) (rid':=σ.next) (cs':=cs) (by simp) hle hnew (GX H.nd _) (by simp[St.new]) hr ?_ (by simp[St.new]) (by rw[Br,if_pos rfl]) ok nl ?_ ?_ ?_ ?_
 .rw[hs]at T
  refine⟨ρ',T,⟨GD.refl _,hle,by simp[St.new],?_,?_,fun _ _ h=>.inl h⟩,by rw[<- hv];exact hr⟩
  .intro id ob e _
   rw[Br,if_neg (by have:=CP H.nd e;omega)]
   exact e
  .intro r hl
   rw[<- hs]at hl
   rcases hl.turn hnew hr with h1|h1
   .exact .inl h1.slot
   .exact .inr (by omega)
 .cases e:Z σ.next with
  |none=>rfl
  |some ob=>have:=CP H.nd (H.zs _ _ e);omega
 .intro r row c v e1 e2
  obtain⟨w,hw,hx⟩:=cells r row c v e1 e2
  exact⟨w,hw,hx.mono (GD.refl _) hle⟩
 .intro j o2 rid e hj h1 h2
  have:=H.rdom _ _ _ _ h2
  rw[Br,if_neg (by omega)]
  exact⟨rfl,by omega⟩
 .intro id ob e
  have e1:=H.zs _ _ e
  rw[Br,if_neg (by have:=CP H.nd e1;omega)]
  exact e1
 grind
theorem HR.adopt(H:HR Z ρ h σ){o:VO}{cs:Tm AV}{rid:Nat}(hv:o.ver=0)(ok:okO o)(nl:o.nl=false)(hz:Z rid=none)(hl:¬Lv ρ h rid)
  (hg:σ.get rid=some { ty:=o.ty,rw:=true,esz:=o.esz,len:=o.len,cs:=cs })
  (cells:∀(r:Nat) (row:List VV) (c:Nat) (v:VV),o.rows[r]? = some row->row[c]? = some v->∃w,cs.get (r * o.esz+c)=some w/\VR Z ρ v w) :
  ∃ρ',HR Z ρ' (h++[some o]) σ/\EQ ρ ρ'/\(∀r,Lv ρ' (h++[some o]) r->Lv ρ h r\/r=rid)/\ρ' h.length 0=some (some (rid,o.esz)):=by
 have hdom:∀ver,ρ h.length ver=none:=by
  intro ver
  cases e:ρ h.length ver with
  |none=>rfl
  |some x=>have:=H.dom _ _ _ e;omega
 let ρ':B6:=fun id ver=>if id=h.length/\ver=0 then some (some (rid,o.esz))else ρ id ver
 have hle:EQ ρ ρ':=by
  intro id ver x e
  grind
 have hnew:∀id ver x,ρ' id ver=some x->ρ id ver=some x\/(id=h.length/\ver=o.ver/\x=some (rid,o.esz)):=by
  grind
 have hr:ρ' h.length o.ver=some (some (rid,o.esz)):=by
  grind
 have hs:(h++[none]).set h.length (some o)=h++[some o]:=by
  grind
 have T:=H.slot.turn (i:=h.length) (o':=o) (ρ':=ρ') (σ':=σ) (rid':=rid) (cs':=cs) (by simp) hle hnew H.nd (Nat.le_refl _) hr hz (CP H.nd hg) hg ok nl ?_ ?_ H.zs ?_
 .rw[hs]at T
  refine⟨ρ',T,hle,?_,by rw[<- hv];exact hr⟩
  intro r hl
  rw[<- hs]at hl
  rcases hl.turn hnew hr with h1|h1
  .exact .inl h1.slot
  .exact .inr h1
 .intro r row c v e1 e2
  obtain⟨w,hw,hx⟩:=cells r row c v e1 e2
  exact⟨w,hw,hx.mono (GD.refl _) hle⟩
 .intro j o2 rid2 e hj h1 h2
  refine⟨rfl,?_⟩
  rintro rfl
  exact hl (Lv.slot ⟨j,o2,e,h1,h2⟩)
 grind
end
def DZ(Z:BQ)(ρ:B6)(F:A3)(G:Fr):Prop:=∀t,VR Z ρ (A3.tmp F t) (Fr.tmp G t)
theorem DZ.mono{Z Z':BQ}{ρ ρ':B6}{F:A3}{G:Fr}(h:DZ Z ρ F G)(hz:GD Z Z')(hr:EQ ρ ρ'):DZ Z' ρ' F G:=fun t=>(h t).mono hz hr
theorem DZ.ev{Z:BQ}{ρ:B6}{F:A3}{G:Fr}(h:DZ Z ρ F G)(x:Ar):VR Z ρ (A3.ev F x) (Fr.ev G x):=by
 cases x with
 |t n=>exact h n
 |c v=>exact VR.const v
theorem J5(F:A3)(k:Nat)(v:VV)(j:Nat):A3.tmp (Tm.set F k v) j=if j=k then v else A3.tmp F j:=by
 grind[A3.tmp,Tm.get_set]
theorem DZ.set{Z:BQ}{ρ:B6}{F:A3}{G:Fr}(h:DZ Z ρ F G){v:VV}{w:AV}(hv:VR Z ρ v w)(k:Nat):DZ Z ρ (Tm.set F k v) (Tm.set G k w):=by
 intro t
 have e:Fr.tmp (Tm.set G k w) t=if t=k then w else Fr.tmp G t:=by
  grind[Fr.tmp,Tm.get_set]
 rw[J5,e]
 by_cases c:t=k
 .rw[if_pos c,if_pos c];exact hv
 .rw[if_neg c,if_neg c];exact h t
theorem DZ.put{Z:BQ}{ρ:B6}{F:A3}{G:Fr}(h:DZ Z ρ F G){v:VV}{w:AV}(hv:VR Z ρ v w)(d:Option Nat):DZ Z ρ (BM F d v) (BD G d w):=by
 cases d with
 |none=>exact h
 |some d=>exact h.set hv d
section
variable {Z:BQ}{ρ:B6}{h:VH}{σ:St}
theorem NV{F:A3}{G:Fr}(hF:DZ Z ρ F G):∀{ps:List (Nat×Nat×Ar)} {a b:List VV} {a':List AV},Er F a ps=some b->Cw Z ρ a a'->∃b',BN G a' ps=some b'/\Cw Z ρ b b':=by
 intro ps
 induction ps with
 |nil=>intro a b a' e hr;simp only[Er,Option.some.injEq]at e;subst e;exact⟨a',rfl,hr⟩
 |cons p ps ih=>
  obtain⟨off,sz,x⟩:=p
  intro a b a' e hr
  simp only[Er]at e
  cases hc:(Nat.beq (A3.ev F x).cells.length sz&&(A3.ev F x).cells.all VV.cell&&Nat.ble (off+sz) a.length)with
  |false=>rw[hc]at e;cases e
  |true=>
   rw[hc]at e
   simp only[cond_true]at e
   simp only[and_eq_true]at hc
   obtain⟨⟨c1,c2⟩,c3⟩:=hc
   have hx:=(hF.ev x).cells c2
   have c1':Nat.beq (Fr.ev G x).cells.length sz=true:=by rw[<- hx.1];exact c1
   have c3':Nat.ble (off+sz) a'.length=true:=by rw[<- hr.1];exact c3
   simp only[BN,c1',hx.cell c2,c3',Bool.and_self,cond_true]
   refine ih e ?_
   unfold Ep Li
   rw[hx.1]
   exact((hr.take _).append hx).append (hr.drop _)
theorem AeM(H:HR Z ρ h σ){a:VV}{w:AV}(ha:VR Z ρ a w){row:List VV}{c:Nat}(e:A5L h a=some (row,c)) :
  ∃rid base,w=.p (some (rid,base+c))/\∀(j:Nat) (v:VV),row[j]? = some v->∃w',σ.load1 rid (base+j)=some w'/\VR Z ρ v w':=by
 cases ha with
 |fp _ c cl hZ h1 h2=>
  rename_i cells rid base ob
  simp only[A5L,Option.some.injEq,Prod.mk.injEq]at e
  obtain⟨rfl,rfl⟩:=e
  refine⟨rid,base,rfl,fun j v ej=>?_⟩
  have hj:=(List.getElem?_eq_some_iff.1 ej).1
  obtain⟨k1,k2⟩:=h1 j hj
  refine⟨cl j,?_,(h2 j v ej).mono (GD.refl _) (EQ.zero _)⟩
  unfold St.load1
  rw[H.zs _ _ hZ]
  have:Nat.blt (base+j) ob.len=true:=by rw[blt_eq];exact k1
  grind
 |p r c hρ=>
  rename_i id ver rid esz
  simp only[A5L]at e
  split at e
  .rename_i o ho
   split at e
   .rename_i row' hrow
    cases e
    obtain⟨q1,q2⟩:=Ec ho
    subst q2
    obtain⟨hn,rfl,_⟩:=H.zl_lv q1 hρ
    obtain⟨hok,rid',cs',k1,k2,k3,k4⟩:=H.live _ _ q1 hn
    rw[hρ]at k1
    cases k1
    refine⟨rid,r * o.esz,rfl,fun j v ej=>?_⟩
    obtain⟨w',hw,hv⟩:=k4 r row j v hrow ej
    refine⟨w',?_,hv⟩
    unfold St.load1
    rw[k3]
    have:Nat.blt (r * o.esz+j) o.len=true:=by rw[blt_eq];exact hok.lt hrow (List.getElem?_eq_some_iff.1 ej).1
    grind
   .cases e
  .cases e
 |_=>simp[A5L]at e
theorem A9Y{rid base:Nat}{row:List VV}(hl:∀(j:Nat) (v:VV),row[j]? = some v->∃w',σ.load1 rid (base+j)=some w'/\VR Z ρ v w'):∀(n c:Nat),c+n<=row.length->∃ws,σ.loadN rid (base+c) n=some ws/\Cw Z ρ ((row.drop c).take n) ws:=by
 intro n
 induction n with
 |zero=>intro c _;exact⟨[],rfl,by rw[List.take_zero];exact .nil⟩
 |succ n ih=>
  intro c hc
  obtain⟨w,h1,h2⟩:=hl c row[c] (getElem?_eq_getElem (by omega))
  obtain⟨ws,h3,h4⟩:=ih (c+1) (by omega)
  refine⟨w::ws,?_,?_⟩
  .grind[St.loadN]
  .rw[List.drop_eq_getElem_cons (by omega),List.take_succ_cons]
   exact .cons h2 h4
theorem ZG(H:HR Z ρ h σ){a:VV}{w:AV}(ha:VR Z ρ a w){n:Option Nat}{v:VV}(e:vld h n a=some v):∃id off,w=.p (some (id,off))/\∃w',σ.loadV n id off=some w'/\VR Z ρ v w':=by
 unfold vld at e
 split at e
 .rename_i row c hrow
  obtain⟨rid,base,rfl,hl⟩:=AeM H ha hrow
  refine⟨rid,base+c,rfl,?_⟩
  cases n with
  |none=>exact hl c v e
  |some n=>
   simp only at e
   cases hb:Nat.ble (c+n) row.length with
   |false=>rw[hb]at e;cases e
   |true=>
    rw[hb]at e
    simp only[cond_true,Option.some.injEq]at e
    subst e
    obtain⟨ws,h1,h2⟩:=A9Y hl n c (by rw[ble_eq]at hb;exact hb)
    exact⟨.ag ws,by unfold St.loadV;simp only[h1],.ag h2.1 h2.2⟩
 .cases e
theorem TV{rid ty esz len:Nat}:∀(ws:List AV) (off:Nat) (σ:St) (cs:Tm AV),σ.get rid=some { ty:=ty,rw:=true,esz:=esz,len:=len,cs:=cs }->off+ws.length<=len->ws.all AV.cell=true ->
  ∃σ' cs',σ.storeN rid off ws=some σ'/\σ'.get rid=some { ty:=ty,rw:=true,esz:=esz,len:=len,cs:=cs' }/\σ'.next=σ.next/\(∀j,j≠rid->σ'.get j=σ.get j)/\(∀k,cs'.get k=if off<=k/\k<off+ws.length then ws[k-off]? else cs.get k):=by
 intro ws
 induction ws with
 |nil=>intro off σ cs hg _ _;exact⟨σ,cs,rfl,hg,rfl,fun _ _=>rfl,fun k=>by rw[if_neg (by simp)]⟩
 |cons w ws ih=>
  intro off σ cs hg hl hc
  simp only[List.length_cons]at hl
  simp only[all_cons,and_eq_true]at hc
  have hb:Nat.blt off len=true:=by rw[blt_eq];omega
  have e1:σ.store1 rid off w=some (σ.put rid { ty:=ty,rw:=true,esz:=esz,len:=len,cs:=cs.set off w }):=by
   unfold St.store1
   grind
  obtain⟨σ',cs',g1,g2,g3,g4,g5⟩:=ih (off+1) (σ.put rid { ty:=ty,rw:=true,esz:=esz,len:=len,cs:=cs.set off w }) (cs.set off w) (by rw[KK,if_pos rfl]) (by omega) hc.2
  refine⟨σ',cs',?_,g2,g3,fun j hj=>by rw[g4 j hj,KK,if_neg hj],fun k=>?_⟩
  .grind[St.storeN]
  .rw[g5 k,Tm.get_set]
   grind
theorem Ai6(H:HR Z ρ h σ){a:VV}{w:AV}(ha:VR Z ρ a w){vs:List VV}{ws:List AV}(hv:Cw Z ρ vs ws){h':VH}(e:vst h a vs=some h') :
  ∃rid off σ',w=.p (some (rid,off))/\σ.storeN rid off ws=some σ'/\HR Z ρ h' σ'/\Ev Z ρ h σ Z ρ h' σ'/\∀i o r e,h[i]? = some (some o)->ρ i o.ver=some (some (r,e))->(match a with|.p j _ _ _=>Nat.beq i j|_=>true)=false->σ'.get r=σ.get r:=by
 cases ha with
 |p r c hρ=>
  rename_i id ver rid esz
  simp only[vst]at e
  split at e
  .rename_i o ho
   split at e
   .rename_i row hrow
    cases hb:(Nat.ble (c+vs.length) row.length&&vs.all VV.cell)with
    |false=>rw[hb]at e;cases e
    |true=>
     rw[hb]at e
     simp only[cond_true,Option.some.injEq]at e
     subst e
     simp only[and_eq_true,ble_eq]at hb
     obtain⟨hb1,hb2⟩:=hb
     obtain⟨q1,q2⟩:=Ec ho
     subst q2
     obtain⟨hn,rfl,_⟩:=H.zl_lv q1 hρ
     obtain⟨hok,rid',cs',k1,k2,k3,k4⟩:=H.live _ _ q1 hn
     rw[hρ]at k1
     cases k1
     have hi:=(List.getElem?_eq_some_iff.1 q1).1
     have hr:=(List.getElem?_eq_some_iff.1 hrow).1
     have hlen:(Ep row c vs).length=row.length:=by
      grind[Ep]
     have hlast:0<row.length->r * o.esz+(row.length-1)<o.len:=fun hp=>hok.lt hrow (by omega)
     have hoff:r * o.esz+c+ws.length<=o.len:=by
      rw[<- hv.1]
      rcases Nat.eq_zero_or_pos row.length with h0|h0
      .have hc0:c=0:=by omega
       have hv0:vs.length=0:=by omega
       rw[hc0,hv0]
       rcases hok with ⟨g0,row',g1⟩|⟨g0,g1⟩
       .grind
       grind
      .have:=hlast h0;omega
     obtain⟨σ',cs2,g1,g2,g3,g4,g5⟩:=TV ws (r * o.esz+c) σ cs' k3 hoff (hv.cell hb2)
     have hlen2:({ o with rows:=o.rows.set r (Ep row c vs) }:VO).len=o.len:=by
      grind[VO.len,List.map_set,List.set_getElem_self]
     have hok':okO { o with rows:=o.rows.set r (Ep row c vs) }:=by
      rcases hok with ⟨g0,row',g1⟩|⟨g0,g1⟩
      .refine .inl ⟨g0,?_⟩
       grind
      .refine .inr ⟨g0,fun x hx=>?_⟩
       grind
     have hnd:Hy σ':=by
      intro j hj
      rw[g3]at hj
      rw[g4 j (by have:=H.rdom _ _ _ _ hρ;omega)]
      exact H.nd j hj
     have hrid:∀j,Z j=none\/j≠rid:=by
      grind
     have T:=H.turn (i:=id) hi (o':={ o with rows:=o.rows.set r (Ep row c vs) }) (ρ':=ρ) (σ':=σ') (rid':=rid) (cs':=cs2) (EQ.refl _) (fun _ _ _ e=>.inl e) hnd (by omega) hρ k2 (by rw[g3];exact H.rdom _ _ _ _ hρ) (by rw[g2,hlen2]) hok' hn ?_ ?_ ?_ ?_
     .refine⟨rid,r * o.esz+c,σ',rfl,g1,T,⟨GD.refl _,EQ.refl _,by omega,?_,?_,fun _ _ h=>.inl h⟩,?_⟩
      .intro j ob ej hj
       rw[g4 j ?_]
       .exact ej
       .rintro rfl
        exact hj ⟨id,o,o.esz,q1,hρ⟩
      .intro j hl
       rcases Lv.turn (ρ:=ρ) (o':={ o with rows:=o.rows.set r (Ep row c vs) }) (rid':=rid) (fun _ _ _ e=>.inl e) hρ hl with h1|h1
       .exact .inl h1
       .exact .inl ⟨id,o,o.esz,q1,by rw[h1];exact hρ⟩
      .intro i o2 r2 e2 p1 p2 p3
       refine g4 r2 ?_
       rintro rfl
       have:=H.inj _ _ _ _ _ _ _ p1 q1 p2 hρ
       subst this
       simp at p3
     .intro r2 row2 c2 v e1 e2
      simp only at e1 ⊢
      rcases DF e1 with ⟨p1,p2,_⟩|⟨p1,p2⟩
      .subst p1 p2
       rw[g5]
       by_cases cc:r2 * o.esz+c<=r2 * o.esz+c2/\r2 * o.esz+c2<r2 * o.esz+c+ws.length
       .rw[if_pos cc]
        have:r2 * o.esz+c2-(r2 * o.esz+c)=c2-c:=by omega
        rw[this]
        have e3:vs[c2-c]? = some v:=by
         unfold Ep at e2
         rw[List.append_assoc,List.getElem?_append_right (by rw[length_take];omega),length_take,Nat.min_eq_left (by omega),List.getElem?_append_left (by rw[hv.1];omega)]at e2
         exact e2
        exact hv.get e3
       .rw[if_neg cc]
        have e3:row[c2]? = some v:=by
         unfold Ep at e2
         rcases Nat.lt_or_ge c2 c with h1|h1
         .grind
         .have:¬c2<c+vs.length:=by rw[hv.1];omega
          rw[List.getElem?_append_right (by grind),getElem?_drop,List.length_append,length_take,Nat.min_eq_left (by omega)]at e2
          grind
        exact k4 _ row c2 v hrow e3
      .obtain⟨w2,hw,hx⟩:=k4 r2 row2 c2 v p2 e2
       refine⟨w2,?_,hx⟩
       rw[g5,if_neg]
       .exact hw
       .rcases hok with ⟨g0,row',g1⟩|⟨g0,g1⟩
        .grind
        .have l1:=g1 row (mem_of_getElem? hrow)
         have l2:=g1 row2 (mem_of_getElem? p2)
         have hc2:=(List.getElem?_eq_some_iff.1 e2).1
         rw[<- hv.1]
         rintro⟨x1,x2⟩
         rcases Nat.lt_or_gt_of_ne p1 with hlt|hgt
         .have:(r2+1) * o.esz<=r * o.esz:=mul_le_mul_right _ hlt
          grind
         .have:(r+1) * o.esz<=r2 * o.esz:=mul_le_mul_right _ hgt
          grind
     .intro j o2 r2 e2 hj p1 p2
      have hne:r2≠rid:=by
       rintro rfl
       exact hj (H.inj _ _ _ _ _ _ _ p1 q1 p2 hρ)
      exact⟨g4 r2 hne,hne⟩
     .intro j ob ej
      rw[g4 j ?_]
      .exact H.zs _ _ ej
      grind
     .intro v2 x e2
      exact H.vers id o v2 x q1 e2
   .cases e
  .cases e
 |_=>simp[vst]at e
theorem A1q{r:AV}{v:VV}(e:Gx r=some v):VR Z ρ v r:=by
 cases r<;>simp only[Gx,Option.some.injEq,reduceCtorEq]at e<;>subst e
 .exact .b _ _
 .exact .i _ _ _
 .exact .s _ _
theorem A20{e:Option Pk}{x y:VV}{x' y':AV}(hx:VR Z ρ x x')(hy:VR Z ρ y y'){t:Bool}(h:A5H e x y=some t):A0q e x' y'=some t:=by
 unfold A5H at h
 split at h<;>simp only[Option.some.injEq,reduceCtorEq]at h<;>subst h<;>cases hx<;>cases hy<;>first|rfl|skip
theorem AeG{op:BinOp}{e:Option Pk}{x y:VV}{x' y':AV}(hx:VR Z ρ x x')(hy:VR Z ρ y y'){v:VV}(h:B9 op e x y=some v):∃w,Bg op e x' y'=some w/\VR Z ρ v w:=by
 unfold B9 at h
 split at h
 .cases hx;cases hy
  grind[Option.bind_eq_some_iff,A1q]
 .cases hx;cases hy
  grind[Option.bind_eq_some_iff,A1q]
 .rename_i hn1 hn2
  have key:∀t,A5H e x y=some t->(∀k a k' c,¬(x'=.i k a/\y'=.i k' c))/\(∀a c,¬(x'=.s a/\y'=.s c)):=by
   intro t ht
   unfold A5H at ht
   split at ht<;>simp only[Option.some.injEq,reduceCtorEq]at ht<;>cases hx<;>cases hy<;>exact⟨by simp,by simp⟩
  split at h
  .obtain⟨t,h1,h2⟩:=Option.map_eq_some_iff.1 h
   subst h2
   obtain⟨k1,k2⟩:=key t h1
   refine⟨.b t,?_,.b _ _⟩
   unfold Bg
   split
   .grind
   .exact absurd ⟨rfl,rfl⟩ (k2 _ _)
   grind[A20]
  .obtain⟨t,h1,h2⟩:=Option.map_eq_some_iff.1 h
   subst h2
   obtain⟨k1,k2⟩:=key t h1
   refine⟨.b (!t),?_,.b _ _⟩
   unfold Bg
   split
   .grind
   .exact absurd ⟨rfl,rfl⟩ (k2 _ _)
   grind[A20]
  .cases h
theorem G2{F:A3}{G:Fr}(hF:DZ Z ρ F G){x:Option Ar}{d n:Nat}(h:Sb (x.map (A3.ev F)) d=some n):bnd (x.map (Fr.ev G)) d=some n:=by
 cases x with
 |none=>exact h
 |some x=>
  simp only[Option.map_some]at h ⊢
  have hx:=hF.ev x
  cases hv:A3.ev F x with
  |i k n=>rw[hv]at hx h;generalize Fr.ev G x=w at hx ⊢;cases hx;exact h
  |_=>rw[hv]at h;simp[Sb]at h
theorem TC{esz:Nat}{rows:List (List VV)}(h:DH esz rows=true):∀row∈rows,row.length=esz:=by
 intro row hr
 exact eq_of_beq_eq_true (List.all_eq_true.1 h row hr)
theorem VR.ls_inv{rows:List (List VV)}{w:AV}(hv:VR Z ρ (.ls rows) w):(rows=[]/\∃o,w=.sl o 0)\/(∃(rid off esz:Nat) (ob:JQ) (cl:Nat->AV),rows≠[]/\w=.sl (some (rid,off)) rows.length/\Z rid=some ob/\(∀row∈rows,row.length=esz)/\(∀k,k<rows.length * esz->ob.at (off+k) (cl k))/\∀(i:Nat) (row:List VV) (j:Nat) (v:VV),rows[i]? = some row->row[j]? = some v->VR Z ρ0 v (cl (i * esz+j))):=by
 cases hv with
 |ls0 _ o=>exact .inl ⟨rfl,o,rfl⟩
 |ls _ cl hZ hr h1 h2=>
  by_cases c:rows=[]
  .subst c;exact .inl ⟨rfl,_,rfl⟩
  .exact .inr ⟨_,_,_,_,cl,c,rfl,hZ,hr,h1,h2⟩
theorem VR.ls_len{rows:List (List VV)}{w:AV}(hv:VR Z ρ (.ls rows) w):∃o,w=.sl o rows.length:=by
 rcases hv.ls_inv with ⟨rfl,o,rfl⟩|⟨rid,off,esz,ob,cl,_,rfl,_⟩
 .exact⟨o,rfl⟩
 .exact⟨_,rfl⟩
theorem VR.ls_sub{rows:List (List VV)}{o:Option (Nat×Nat)}{esz:Nat}(hv:VR Z ρ (.ls rows) (.sl o rows.length))(he:DH esz rows=true){l u:Nat}(h1:l<=u)(h2:u<=rows.length) :
  VR Z ρ (.ls ((rows.drop l).take (u-l))) (match o with|none=>.sl none 0|some (id,off)=>.sl (some (id,off+l * esz)) (u-l)):=by
 have hlen:((rows.drop l).take (u-l)).length=u-l:=by grind
 rcases hv.ls_inv with ⟨rfl,o',e⟩|⟨rid,off,esz',ob,cl,hne,e,hZ,hr,g1,g2⟩
 .grind
 .simp only[AV.sl.injEq]at e
  obtain⟨e,_⟩:=e
  subst e
  have hee:esz'=esz:=by
   obtain⟨row,rs,e⟩:∃row rs,rows=row::rs:=by
    cases rows with
    |nil=>exact absurd rfl hne
    |cons r rs=>exact⟨r,rs,rfl⟩
   have m:row∈rows:=by rw[e];simp
   rw[<- hr row m,TC he row m]
  subst hee
  simp only
  conv=>arg 4;rw[<- hlen]
  refine .ls _ (esz:=esz') (cl:=fun k=>cl (l * esz' + k)) hZ ?_ ?_ ?_
  .grind
  .intro k hk
   rw[hlen]at hk
   rw[Nat.add_assoc]
   refine g1 _ ?_
   have:(l+(u-l)) * esz'<=rows.length * esz':=mul_le_mul_right _ (by omega)
   rw[add_mul]at this
   omega
  grind
theorem AeN(H:HR Z ρ h σ){F:A3}{G:Fr}(hF:DZ Z ρ F G){esz:Nat}{x:VV}{w:AV}(hx:VR Z ρ x w){lo hi:Option Ar}{v:VV}(e:Aav h esz x (lo.map (A3.ev F)) (hi.map (A3.ev F))=some v) :
  ∃w',En esz w (lo.map (Fr.ev G)) (hi.map (Fr.ev G))=some w'/\VR Z ρ v w':=by
 unfold Aav at e
 split at e
 .rename_i s
  cases hx
  cases hb:Nat.beq esz 0 with
  |false=>rw[hb]at e;cases e
  |true=>
   rw[hb]at e
   simp only[cond_true]at e
   split at e
   .rename_i l u h1 h2
    split at e
    .cases e
     refine⟨.s (s.extract l u),?_,.s _ _⟩
     simp only[En,hb,cond_true,G2 hF h1,G2 hF h2]
     rw[if_pos (by assumption)]
    .cases e
   .cases e
 .rename_i rows
  cases hb:(Nat.blt 0 esz&&DH esz rows)with
  |false=>rw[hb]at e;cases e
  |true=>
   rw[hb]at e
   simp only[cond_true]at e
   simp only[and_eq_true,blt_eq]at hb
   obtain⟨o,rfl⟩:=hx.ls_len
   split at e
   .rename_i l u h1 h2
    split at e
    .rename_i h3
     cases e
     have hz:Nat.beq esz 0=false:=by
      grind[eq_of_beq_eq_true]
     refine⟨_,?_,hx.ls_sub hb.2 h3.1 h3.2⟩
     simp only[En,hz,cond_false,G2 hF h1,G2 hF h2]
     grind
    .cases e
   .cases e
 .cases hx
  cases hb:Nat.blt 0 esz with
  |false=>rw[hb]at e;cases e
  |true=>
   rw[hb]at e
   simp only[cond_true]at e
   rw[blt_eq]at hb
   split at e
   .rename_i l u h1 h2
    split at e
    .rename_i h3
     cases e
     have hz:Nat.beq esz 0=false:=by
      grind[eq_of_beq_eq_true]
     refine⟨_,?_,.nl _⟩
     simp only[En,hz,cond_false,G2 hF h1,G2 hF h2]
     rw[if_pos h3]
    .cases e
   .cases e
 .rename_i id ver off n
  split at e
  .rename_i o ho
   cases hb:(Nat.blt 0 esz&&Nat.beq o.esz esz&&!o.nl)with
   |false=>rw[hb]at e;cases e
   |true=>
    rw[hb]at e
    simp only[cond_true]at e
    simp only[and_eq_true,blt_eq,Bool.not_eq_true']at hb
    obtain⟨⟨b1,b2⟩,b3⟩:=hb
    have b2:=eq_of_beq_eq_true b2
    obtain⟨q1,q2⟩:=Ec ho
    subst q2
    obtain⟨hok,rid,cs,k1,_⟩:=H.live _ _ q1 b3
    split at e
    .rename_i l u h1 h2
     split at e
     .rename_i h3
      cases e
      have hz:Nat.beq esz 0=false:=by
       grind[eq_of_beq_eq_true]
      cases hx with
      |sl _ _ hρ=>
       rw[k1]at hρ
       cases hρ
       refine⟨.sl (some (rid,(off+l) * esz)) (u-l),?_,?_⟩
       .simp only[En,hz,cond_false,G2 hF h1,G2 hF h2]
        rw[if_pos h3,b2,add_mul]
       .rw[<- b2];exact .sl _ _ k1
      |sn _ hρ=>rw[k1]at hρ;cases hρ
     .cases e
    .cases e
  .cases e
 .cases e
theorem A25(H:HR Z ρ h σ){esz:Nat}(he:0<esz){y:VV}{w:AV}(hy:VR Z ρ y w){ys:List (List VV)}(e:NH h esz y=some ys) :
  ∃o,w=.sl o ys.length/\(∀row∈ys,row.length=esz)/\∃cs,GB esz o ys.length σ=some cs/\cs.length=ys.length * esz/\∀(i:Nat) (row:List VV) (j:Nat) (v:VV),ys[i]? = some row->row[j]? = some v->∃w,cs[i * esz+j]? = some w/\VR Z ρ v w:=by
 unfold NH at e
 split at e
 .cases e
  cases hy
  exact⟨none,rfl,by simp,[],rfl,by simp,by simp⟩
 .rename_i rows
  cases hb:DH esz rows with
  |false=>rw[hb]at e;cases e
  |true=>
   rw[hb]at e
   simp only[cond_true,Option.some.injEq]at e
   subst e
   rcases hy.ls_inv with ⟨rfl,o,rfl⟩|⟨rid,off,esz',ob,cl,hne,rfl,hZ,hr,g1,g2⟩
   .refine⟨o,rfl,by simp,[],?_,by simp,by simp⟩
    cases o with
    |none=>rfl
    |some x=>simp[GB,St.loadN]
   .have hee:esz'=esz:=by
     obtain⟨row,rs,e⟩:∃row rs,rows=row::rs:=by
      cases rows with
      |nil=>exact absurd rfl hne
      |cons r rs=>exact⟨r,rs,rfl⟩
     have m:row∈rows:=by rw[e];simp
     rw[<- hr row m,TC hb row m]
    subst hee
    refine⟨_,rfl,hr,(List.range (rows.length * esz')).map cl,?_,by simp,?_⟩
    .unfold GB
     refine HQ (by simp) fun j hj=>?_
     obtain⟨a1,a2⟩:=g1 j hj
     unfold St.load1
     rw[H.zs _ _ hZ]
     have:Nat.blt (off+j) ob.len=true:=by rw[blt_eq];exact a1
     grind
    .intro i row j v e1 e2
     refine⟨cl (i * esz' + j),?_,(g2 i row j v e1 e2).mono (GD.refl _) (EQ.zero _)⟩
     have hi:=(List.getElem?_eq_some_iff.1 e1).1
     have hj:=(List.getElem?_eq_some_iff.1 e2).1
     rw[hr row (mem_of_getElem? e1)]at hj
     have:(i+1) * esz'<=rows.length * esz':=mul_le_mul_right _ hi
     grind
 .rename_i id ver off n
  split at e
  .rename_i o ho
   cases hb:((Nat.beq o.esz esz||o.nl)&&Nat.ble (off+n) o.rows.length)with
   |false=>rw[hb]at e;cases e
   |true=>
    rw[hb]at e
    simp only[cond_true,Option.some.injEq]at e
    subst e
    simp only[and_eq_true,ble_eq,Bool.or_eq_true]at hb
    obtain⟨b1,b2⟩:=hb
    obtain⟨q1,q2⟩:=Ec ho
    subst q2
    have hlen:((o.rows.drop off).take n).length=n:=by grind
    cases hn:o.nl with
    |true=>
     obtain⟨k1,k2⟩:=H.nils _ _ q1 hn
     rw[k2]at b2 ⊢
     simp only[List.length_nil]at b2
     have:n=0:=by omega
     subst this
     cases hy with
     |sl _ _ hρ=>rw[k1]at hρ;cases hρ
     |sn _ hρ=>simp_all[GB]
    |false=>
     have b1':o.esz=esz:=by
      grind[eq_of_beq_eq_true]
     obtain⟨hok,rid,cs,k1,k2,k3,k4⟩:=H.live _ _ q1 hn
     have hrows:∀row∈o.rows,row.length=o.esz:=by
      rcases hok with ⟨h0,_⟩|⟨_,h1⟩
      .omega
      .exact h1
     cases hy with
     |sn _ hρ=>rw[k1]at hρ;cases hρ
     |sl _ _ hρ=>
      rw[k1]at hρ
      cases hρ
      refine⟨some (rid,off * o.esz),by rw[hlen],?_,?_⟩
      .grind
      rw[hlen]
      have hcell:∀k,k<n * esz->∃w,σ.load1 rid (off * o.esz+k)=some w:=by
       intro k hk
       have hd:k / esz<n:=by rw[Nat.div_lt_iff_lt_mul he];exact hk
       have hm':=mod_lt k he
       have hi:off+k / esz<o.rows.length:=by omega
       have hrw:=getElem?_eq_getElem hi
       have hl:=hrows _ (List.getElem_mem hi)
       obtain⟨w,hw,_⟩:=k4 _ _ (k % esz) _ hrw (getElem?_eq_getElem (by rw[hl,b1'];exact hm'))
       have hkk:(off+k / esz) * o.esz+k % esz=off * o.esz+k:=by
        grind[Nat.div_add_mod]
       refine⟨w,?_⟩
       unfold St.load1
       rw[k3]
       have hlt:=hok.lt hrw (c:=k % esz) (by rw[hl,b1'];exact hm')
       rw[hkk]at hlt hw
       have:Nat.blt (off * o.esz+k) o.len=true:=by rw[blt_eq];exact hlt
       grind
      have:∃ws:List AV,ws.length=n * esz/\∀k,k<n * esz->σ.load1 rid (off * o.esz+k)=ws[k]?:=by
       refine⟨(List.range (n * esz)).map fun k=>(σ.load1 rid (off * o.esz+k)).getD AV.un,by simp,fun k hk=>?_⟩
       grind
      obtain⟨ws,l1,l2⟩:=this
      refine⟨ws,?_,l1,?_⟩
      .grind[GB,HQ]
      .intro i row j v e1 e2
       rw[getElem?_take]at e1
       split at e1
       .rename_i hin
        rw[getElem?_drop]at e1
        obtain⟨w,hw,hv⟩:=k4 _ row j v e1 e2
        have hj:=(List.getElem?_eq_some_iff.1 e2).1
        rw[hrows row (mem_of_getElem? e1),b1']at hj
        have hb:(i+1) * esz<=n * esz:=mul_le_mul_right _ hin
        rw[succ_mul]at hb
        refine⟨w,?_,hv⟩
        rw[<- l2 _ (by omega)]
        have hkk:(off+i) * o.esz+j=off * o.esz+(i * esz+j):=by rw[add_mul,Nat.add_assoc,b1']
        unfold St.load1
        rw[k3]
        have hlt:=hok.lt e1 (c:=j) (by grind)
        rw[hkk]at hlt hw
        have:Nat.blt (off * o.esz+(i * esz+j)) o.len=true:=by rw[blt_eq];exact hlt
        grind
       .cases e1
  .cases e
 .cases e
end
theorem LB(esz:Nat):∀(n:Nat) (cs:List VV),(CV esz n cs).length=n:=by
 intro n
 induction n with
 |zero=>intro cs;rfl
 |succ n ih=>grind[CV]
theorem Tf(esz:Nat):∀(n:Nat) (cs:List VV) (i:Nat) (row:List VV),(CV esz n cs)[i]? = some row->row=(cs.drop (i * esz)).take esz:=by
 intro n
 induction n with
 |zero=>intro cs i row e;simp[CV]at e
 |succ n ih=>
  intro cs i row e
  cases i with
  |zero=>simp[CV]at e;rw[<- e];simp
  |succ i=>
   grind[CV,List.drop_drop]
theorem Qk{esz n:Nat}{cs:List VV}(hl:cs.length=n * esz):∀row∈CV esz n cs,row.length=esz:=by
 intro row hr
 obtain⟨i,hi,e⟩:=List.mem_iff_getElem.1 hr
 have e2:=Tf esz n cs i row (by rw[getElem?_eq_getElem hi,e])
 rw[LB]at hi
 rw[e2,length_take,List.length_drop,hl]
 have:(i+1) * esz<=n * esz:=mul_le_mul_right _ hi
 rw[succ_mul]at this
 omega
theorem NQ{esz n:Nat}{cs:List VV}{i:Nat}{row:List VV}{j:Nat}{v:VV}(h1:(CV esz n cs)[i]? = some row)(h2:row[j]? = some v):cs[i * esz+j]? = some v:=by
 rw[Tf _ _ _ _ _ h1,getElem?_take]at h2
 grind
section
variable {Z:BQ}{ρ:B6}{h:VH}{σ:St}
theorem Hv:∀(vs:List VV) (ws:List VV) (os:VH) (avs:List AV) {ρ:B6} {h:VH},AL h.length vs=(ws,os)->HR Z ρ h σ->Cw Z ρ vs avs->∃ρ',HR Z ρ' (h++os) σ/\Ev Z ρ h σ Z ρ' (h++os) σ/\Cw Z ρ' ws avs:=by
 intro vs
 induction vs with
 |nil=>
  intro ws os avs ρ h e H hv
  simp only[AL,Prod.mk.injEq]at e
  obtain⟨rfl,rfl⟩:=e
  grind[Ev.refl]
 |cons v vs ih=>
  intro ws os avs ρ h e H hv
  obtain⟨w,avs,rfl,h1,h2⟩:=hv.uncons
  have other:(∀ws' os',AL h.length vs=(ws',os')->ws=v::ws'/\os=os')->∃ρ',HR Z ρ' (h++os) σ/\Ev Z ρ h σ Z ρ' (h++os) σ/\Cw Z ρ' ws (w::avs):=by
   intro hh
   obtain⟨e1,e2⟩:=hh _ _ rfl
   obtain⟨ρ',H',E',V'⟩:=ih _ _ avs (show AL h.length vs=((AL h.length vs).1,(AL h.length vs).2) from rfl) H h2
   rw[e1,e2]
   exact⟨ρ',H',E',.cons (h1.mono E'.zl E'.rl) V'⟩
  cases v with
  |nl=>
   cases h1
   simp only[AL,Prod.mk.injEq]at e
   obtain⟨ρ1,H1,E1,r1⟩:=H.nilObj
   have hl:(h++[some ({ ty:=0,esz:=0,ver:=0,nl:=true,rows:=[] }:VO)]).length=h.length+1:=by simp
   have hr:=ih (AL (h.length+1) vs).1 (AL (h.length+1) vs).2 avs (ρ:=ρ1) (h:=h++[some { ty:=0,esz:=0,ver:=0,nl:=true,rows:=[] }]) (by rw[hl]) H1 (h2.mono E1.zl E1.rl)
   obtain⟨ρ',H',E',V'⟩:=hr
   obtain⟨rfl,rfl⟩:=e
   rw[List.append_assoc,List.singleton_append]at H' E'
   refine⟨ρ',H',E1.trans E' H.nd,.cons ?_ V'⟩
   exact .sn 0 (E'.rl _ _ _ r1)
  |un=>simp only[AL,Prod.mk.injEq]at e;exact other fun ws' os' e'=>by grind
  |b x=>simp only[AL,Prod.mk.injEq]at e;exact other fun ws' os' e'=>by grind
  |i k n=>simp only[AL,Prod.mk.injEq]at e;exact other fun ws' os' e'=>by grind
  |s x=>simp only[AL,Prod.mk.injEq]at e;exact other fun ws' os' e'=>by grind
  |nf=>simp only[AL,Prod.mk.injEq]at e;exact other fun ws' os' e'=>by grind
  |np=>simp only[AL,Prod.mk.injEq]at e;exact other fun ws' os' e'=>by grind
  |p a b c d=>simp only[AL,Prod.mk.injEq]at e;exact other fun ws' os' e'=>by grind
  |fp a b=>simp only[AL,Prod.mk.injEq]at e;exact other fun ws' os' e'=>by grind
  |sl a b c d=>simp only[AL,Prod.mk.injEq]at e;exact other fun ws' os' e'=>by grind
  |ls a=>simp only[AL,Prod.mk.injEq]at e;exact other fun ws' os' e'=>by grind
  |f a b c=>simp only[AL,Prod.mk.injEq]at e;exact other fun ws' os' e'=>by grind
  |ag a=>simp only[AL,Prod.mk.injEq]at e;exact other fun ws' os' e'=>by grind
  |tu a=>simp only[AL,Prod.mk.injEq]at e;exact other fun ws' os' e'=>by grind
def Dh(Z:BQ)(ρ:B6)(h:VH)(σ:St)(v:VV)(h':VH)(r:Option (AV×St))(tch:Nat->Bool):Prop:=
 ∃w σ' Z' ρ',r=some (w,σ')/\HR Z' ρ' h' σ'/\VR Z' ρ' v w/\Ev Z ρ h σ Z' ρ' h' σ'/\∀i o rid e,h[i]? = some (some o)->ρ i o.ver=some (some (rid,e))->tch i=false->σ'.get rid=σ.get rid
theorem Dh.same(H:HR Z ρ h σ){v:VV}{w:AV}{r:Option (AV×St)}{tch:Nat->Bool}(hr:r=some (w,σ))(hv:VR Z ρ v w):Dh Z ρ h σ v h r tch:=⟨w,σ,Z,ρ,hr,H,hv,Ev.refl,fun _ _ _ _ _ _ _=>rfl⟩
theorem D6(H:HR Z ρ h σ)(ob:JQ):∀i o rid e,h[i]? = some (some o)->ρ i o.ver=some (some (rid,e))->(σ.new ob).get rid=σ.get rid:=by
 intro i o rid e h1 h2
 have:=H.rdom _ _ _ _ h2
 rw[Br,if_neg (by omega)]
theorem Ev.killed{Z':BQ}{ids:List Nat}(hz:GD Z Z')(hd:∀r ob,Z' r=some ob->Z r=some ob\/Lv ρ h r)(hl:∀r,Lv ρ (Bw ids h) r->Lv ρ h r):Ev Z ρ h σ Z' ρ (Bw ids h) σ:=
 ⟨hz,EQ.refl _,Nat.le_refl _,fun _ _ e _=>e,fun id h=>.inl (hl id h),fun id ob e=>by grind⟩
theorem Dh.freeze(H:HR Z ρ h σ){v v':VV}{h':VH}{r:Option (AV×St)}{tch:Nat->Bool}{ids:List Nat}{d:Nat}(k:Dh Z ρ h σ v h' r tch)(e:frz h' d v=some (v',ids)):Dh Z ρ h σ v' (Bw ids h') r tch:=by
 obtain⟨w,σ',Z',ρ',hr,H',hv,E',hk⟩:=k
 obtain⟨Z1,H1,z1,f1,d1,l1⟩:=H'.killAll ids
 exact⟨w,σ',Z1,ρ',hr,H1,(KI H' z1 _ _ _ _ _ e hv f1).mono (GD.refl _) (EQ.zero _),E'.trans (Ev.killed z1 d1 l1) H.nd,hk⟩
theorem A2r(H:HR Z ρ h σ){cs ps:List VV}{ws:List AV}{ids:List Nat}(hv:Cw Z ρ cs ws)(e:Gt h cs=some (ps,ids)){ty esz:Nat} :
  ∃Z',HR Z' ρ (Bw ids h) (σ.new { ty:=ty,rw:=true,esz:=esz,len:=ws.length,cs:=Tm.ofList ws })/\Ev Z ρ h σ Z' ρ (Bw ids h) (σ.new { ty:=ty,rw:=true,esz:=esz,len:=ws.length,cs:=Tm.ofList ws })/\Cw Z' ρ0 ps ws/\Z' σ.next=some { ty:=ty,rw:=true,esz:=esz,len:=ws.length,cs:=Tm.ofList ws }:=by
 obtain⟨Z1,H1,z1,f1,d1,l1⟩:=H.killAll ids
 have hp:=K3 H z1 e hv f1
 obtain⟨H2,E2⟩:=H1.fresh { ty:=ty,rw:=true,esz:=esz,len:=ws.length,cs:=Tm.ofList ws }
 refine⟨_,H2,(Ev.killed z1 d1 l1).trans E2 H.nd,hp.mono E2.zl (EQ.refl _),?_⟩
 grind
theorem Aa4{ws:List AV}{k:Nat}(hk:k<ws.length){ty esz:Nat}:JQ.at { ty:=ty,rw:=true,esz:=esz,len:=ws.length,cs:=Tm.ofList ws } k ws[k]:=⟨hk,by rw[Tm.get_ofList,getElem?_eq_getElem hk]⟩
theorem V8{ws:List AV}{j:Nat}{w:AV}(e:ws[j]? = some w):ws.getD j AV.un=w:=by rw[List.getD_eq_getElem?_getD,e];rfl
theorem AjA{Z':BQ}{ps:List VV}{ws:List AV}{rid ty esz:Nat}(hp:Cw Z' ρ0 ps ws)(hz:Z' rid=some { ty:=ty,rw:=true,esz:=esz,len:=ws.length,cs:=Tm.ofList ws }):VR Z' ρ (.fp ps 0) (.p (some (rid,0))):=by
 refine .fp _ _ (base:=0) (cl:=fun j=>ws.getD j AV.un) hz ?_ ?_
 .intro j hj
  have hj':j<ws.length:=by rw[<- hp.1];exact hj
  simp_all[Aa4]
 .intro j v e
  obtain⟨w,h1,h2⟩:=hp.get e
  rw[V8 h1]
  exact h2
theorem A0M{Z':BQ}(H:HR Z ρ h σ)(hz:GD Z Z'){rows rs:List (List VV)}{ids:List Nat}(e:A4d h rows=some (rs,ids))(hF:U9 Z' ρ h σ ids) :
  rs.length=rows.length/\(∀(i:Nat) (row:List VV),rs[i]? = some row->∃row0:List VV,rows[i]? = some row0/\row.length=row0.length/\∀(j:Nat) (v:VV),row[j]? = some v->∃v0,row0[j]? = some v0/\∀w,VR Z ρ v0 w->VR Z' ρ0 v w):=by
 obtain⟨g1,g2,_⟩:=DD e
 refine⟨g1,fun i row e1=>?_⟩
 obtain⟨x,ij,p1,p2,p3⟩:=Jo e e1
 refine⟨x,p1,(DD p2).1,fun j v e2=>?_⟩
 obtain⟨y,ij',r1,r2,r3⟩:=Jo p2 e2
 exact⟨y,r1,fun w hw=>KI H hz _ y v w ij' r2 hw fun id hid=>hF id (p3 id (r3 id hid))⟩
theorem A07{ty esz bytes:Nat}{n:Nat}{o':Option (Nat×Nat)}{m:Nat}{cs:List AV}(hb:(n+m) * bytes<=A6)(hs:GB esz o' m σ=some cs)(hm:m=0)(o:Option (Nat×Nat)):Pm ty esz bytes o n o' m σ=some (.sl o n,σ):=by
 have h1:Nat.ble ((n+m) * bytes) A6=true:=by rw[ble_eq];exact hb
 subst hm
 simp only[Pm,h1,cond_true,hs,Nat.beq_refl]
end
end Go.AM
