/-
  Own work, part of the proof of these laws: the machine and its soundness (second part).
-/
import Derived.Test.YtpnaenhghnkggaaGreatDoorAmA
set_option maxRecDepth 10000
set_option maxHeartbeats 64000000
set_option linter.unusedVariables false
set_option linter.unusedSimpArgs false
set_option linter.unusedSectionVars false
set_option linter.unnecessarySimpa false
open Bool (and_eq_true false_eq_true not_eq_true')
open Option (bind_eq_some_iff bind_eq_bind pure_def getD_some bind_some)
namespace Go.AM
open Go
section
variable {P:Program}{o:Oper}{a:Act}{σ σ':St}{ρ:Re}{B:Nat}{W:World}{F:Fr}{v:AV}
theorem map_some{α β:Type}{f:α->β}{x:Option α}{y:β}(h:x.map f=some y):∃z,x=some z/\f z=y:=Option.map_eq_some_iff.1 h
theorem A2H(hS:CU σ ρ B W)(hF:FR ρ F a.tmps){c:Call}(hop:o.op=.call c){op:Bl}(hg:Bf? P (.call c)=some op)(h:Ap op F σ=some (v,σ')):Bz P o a σ ρ B W v σ':=by
 obtain⟨callee,args,argTypes⟩:=c
 cases callee with
 |value f=>
  simp only[Bf?,bind_eq_bind,bind_eq_some_iff,pure_def,Option.some.injEq]at hg
  obtain⟨f',hf,as,has,rfl⟩:=hg
  simp only[Ap]at h
  cases h
 |invoke r m=>simp only[Bf?]at hg;cases hg
 |builtin b=>
  cases b<;>simp only[Bf?]at hg<;>try(cases hg;done)
  ·-- append
   split at hg
   .rename_i x y t t' hx ht
    have e1:args = #[x,y]:=by apply Array.ext';simpa using hx
    have e2:argTypes = #[t,t']:=by apply Array.ext';simpa using ht
    subst e1 e2
    simp only[bind_eq_bind,pure_def]at hg
    split at hg
    .cases hg
    .rename_i hne
     have htt:t=t':=Decidable.not_not.1 hne
     subst htt
     split at hg
     .rename_i e hte
      simp only[bind_eq_some_iff]at hg
      obtain⟨s,hs,z,hz,b,hb,hg⟩:=hg
      split at hg
      .simp at hg
      .rename_i hcond
       simp only[not_or]at hcond
       simp only[bind_some,bind_eq_some_iff,Option.some.injEq]at hg
       obtain⟨x',hx',y',hy',rfl⟩:=hg
       exact AjW hS hF hop rfl rfl rfl hte hz hs hb hcond.1 (Decidable.not_not.1 hcond.2.1) hcond.2.2 hx' hy' h
     .cases hg
   .cases hg
  ·-- copy
   split at hg
   .rename_i x y t t' hx ht
    have e1:args = #[x,y]:=by apply Array.ext';simpa using hx
    have e2:argTypes = #[t,t']:=by apply Array.ext';simpa using ht
    subst e1 e2
    simp only[bind_eq_bind,pure_def]at hg
    split at hg
    .cases hg
    .rename_i hne
     have htt:t=t':=Decidable.not_not.1 hne
     subst htt
     split at hg
     .rename_i e hte
      simp only[bind_eq_some_iff,Option.some.injEq]at hg
      obtain⟨s,hs,x',hx',y',hy',rfl⟩:=hg
      exact Ak0 hS hF hop rfl rfl rfl hte hs hx' hy' h
     .cases hg
   .cases hg
  ·-- len
   split at hg
   .rename_i x t hx ht
    have e1:args = #[x]:=by apply Array.ext';simpa using hx
    have e2:argTypes = #[t]:=by apply Array.ext';simpa using ht
    subst e1 e2
    split at hg
    .rename_i hte
     simp only[bind_eq_bind,pure_def,bind_eq_some_iff,Option.some.injEq]at hg
     obtain⟨x',hx',rfl⟩:=hg
     exact Abu hS hF hop rfl rfl rfl (str:=true) (by simpa using hte) hx' h
    .rename_i e hte
     simp only[bind_eq_bind,pure_def,bind_eq_some_iff,Option.some.injEq]at hg
     obtain⟨x',hx',rfl⟩:=hg
     exact Abu hS hF hop rfl rfl rfl (str:=false) (by simpa using⟨e,hte⟩) hx' h
    .cases hg
   .cases hg
  ·-- max
   split at hg
   .rename_i x y hx
    have e1:args = #[x,y]:=by apply Array.ext';simpa using hx
    subst e1
    simp only[bind_eq_bind,pure_def,bind_eq_some_iff,Option.some.injEq]at hg
    obtain⟨x',hx',y',hy',rfl⟩:=hg
    exact Abv hS hF hop (mx:=true) rfl rfl hx' hy' h
   .cases hg
  ·-- min
   split at hg
   .rename_i x y hx
    have e1:args = #[x,y]:=by apply Array.ext';simpa using hx
    subst e1
    simp only[bind_eq_bind,pure_def,bind_eq_some_iff,Option.some.injEq]at hg
    obtain⟨x',hx',y',hy',rfl⟩:=hg
    exact Abv hS hF hop (mx:=false) rfl rfl hx' hy' h
   .cases hg
theorem Abw(hS:CU σ ρ B W)(hF:FR ρ F a.tmps){op:Bl}(hg:Bf? P o.op=some op)(h:Ap op F σ=some (v,σ')):Bz P o a σ ρ B W v σ':=by
 cases hop:o.op with
 |call c=>grind[A2H]
 |move x=>
  rw[hop]at hg
  obtain⟨y,hy,rfl⟩:=map_some hg
  simp only[Ap,Option.some.injEq,Prod.mk.injEq]at h
  obtain⟨rfl,rfl⟩:=h
  exact A6b hS hF (.inl hop) hy
 |assign x=>
  rw[hop]at hg
  obtain⟨y,hy,rfl⟩:=map_some hg
  simp only[Ap,Option.some.injEq,Prod.mk.injEq]at h
  obtain⟨rfl,rfl⟩:=h
  exact A6b hS hF (.inr hop) hy
 |pick c x y=>
  rw[hop]at hg
  simp only[Bf?,bind_eq_bind,bind_eq_some_iff,pure_def,Option.some.injEq]at hg
  obtain⟨c',hc,x',hx,y',hy,rfl⟩:=hg
  exact AfP hS hF hop hc hx hy h
 |alloc e=>
  rw[hop]at hg
  simp only[Bf?,bind_eq_bind,bind_eq_some_iff,pure_def]at hg
  obtain⟨z,hz,hg⟩:=hg
  split at hg
  .rename_i w
   cases hg
   refine A0t hS hop hz (y:=.c w) ?_ h
   have:w.cell=true:=by
    obtain⟨_,_,_,_,_,_,hm⟩:=Cq hz
    have:=Cd _ _ hm
    simpa using this
   simp only[Fr.ev]
   cases w<;>first|rfl|(simp[AV.cell]at this)
  .cases hg
   exact A0t hS hop hz (y:=.c (.ag z)) rfl h
 |box e x=>
  rw[hop]at hg
  simp only[Bf?,bind_eq_bind,bind_eq_some_iff,pure_def,Option.some.injEq]at hg
  obtain⟨n,hn,y,hy,rfl⟩:=hg
  exact AjY hS hF hop hy h
 |build t parts=>
  rw[hop]at hg
  simp only[Bf?,bind_eq_bind,bind_eq_some_iff,pure_def]at hg
  obtain⟨z,hz,hg⟩:=hg
  split at hg
  .rename_i fields ht
   split at hg
   .simp at hg
   .rename_i hfs
    simp only[bind_some,bind_eq_some_iff,Option.some.injEq]at hg
    obtain⟨ps,hps,rfl⟩:=hg
    grind[Abt]
  .rename_i len e ht
   simp only[bind_eq_some_iff,Option.some.injEq]at hg
   obtain⟨s,hs,ps,hps,rfl⟩:=hg
   grind[A9z]
  .cases hg
 |buildSlice t len parts=>
  rw[hop]at hg
  simp only[Bf?,bind_eq_bind,pure_def]at hg
  split at hg
  .rename_i e ht
   simp only[bind_eq_some_iff]at hg
   obtain⟨s,hs,z,hz,hg⟩:=hg
   split at hg
   .simp at hg
   .rename_i hcond
    simp only[not_or]at hcond
    simp only[bind_some,bind_eq_some_iff,Option.some.injEq]at hg
    obtain⟨ps,hps,rfl⟩:=hg
    exact AjZ hS hF hop hz ht hs hcond.1 (Decidable.not_not.1 hcond.2.1) (by omega) hps h
  .cases hg
 |load t x=>
  rw[hop]at hg
  simp only[Bf?,bind_eq_bind,bind_eq_some_iff,pure_def,Option.some.injEq]at hg
  obtain⟨n,hn,y,hy,rfl⟩:=hg
  exact Aou hS hF hop hn hy h
 |store t x z=>
  rw[hop]at hg
  simp only[Bf?,bind_eq_bind,bind_eq_some_iff,pure_def,Option.some.injEq]at hg
  obtain⟨n,hn,y,hy,w,hw,rfl⟩:=hg
  exact Aov hS hF hop hn hy hw h
 |nilCheck x=>
  rw[hop]at hg
  simp only[Bf?,bind_eq_bind,bind_eq_some_iff,pure_def,Option.some.injEq]at hg
  obtain⟨y,hy,rfl⟩:=hg
  exact AfO hS hF hop hy h
 |binOp op t x y yt=>
  rw[hop]at hg
  simp only[Bf?,bind_eq_bind,bind_eq_some_iff,pure_def,Option.some.injEq]at hg
  obtain⟨x',hx,y',hy,rfl⟩:=hg
  exact AjX hS hF hop hx hy h
 |unOp u t x=>
  rw[hop]at hg
  cases u<;>simp only[Bf?]at hg<;>try(cases hg;done)
  all_goals
   obtain⟨y,hy,rfl⟩:=map_some hg
   first|exact Ak6 hS hF hop hy h|exact Ak5 hS hF hop hy h
 |convert s d x=>
  rw[hop]at hg
  simp only[Bf?,bind_eq_bind,pure_def]at hg
  split at hg
  .simp at hg
  .rename_i hs
   split at hg
   .rename_i k hd
    simp only[bind_eq_some_iff,Option.some.injEq]at hg
    obtain⟨y,hy,rfl⟩:=hg
    exact AfN hS hF hop (by grind) hd hy h
   .cases hg
 |makeFunc fn x y=>
  rw[hop]at hg
  cases fn<;>simp only[Bf?]at hg<;>try(cases hg;done)
  simp only[bind_eq_bind,bind_eq_some_iff,pure_def,Option.some.injEq]at hg
  obtain⟨x',hx,y',hy,rfl⟩:=hg
  exact Ak3 hS hF hop hx hy h
 |makeSlice t l c=>
  rw[hop]at hg
  simp only[Bf?,bind_eq_bind,pure_def]at hg
  split at hg
  .rename_i e ht
   simp only[bind_eq_some_iff]at hg
   obtain⟨s,hs,z,hz,b,hb,hg⟩:=hg
   split at hg
   .simp at hg
   .rename_i hcond
    simp only[not_or]at hcond
    simp only[bind_some,bind_eq_some_iff,Option.some.injEq]at hg
    obtain⟨l',hl,c',hc,rfl⟩:=hg
    exact Ak4 hS hF hop hz ht hs hb hcond.1 (Decidable.not_not.1 hcond.2.1) hcond.2.2 hl hc h
  .cases hg
 |slice t x lo hi mx=>
  rw[hop]at hg
  cases mx with
  |some m=>simp only[Bf?]at hg;cases hg
  |none=>
   simp only[Bf?,bind_eq_bind,pure_def]at hg
   split at hg
   .rename_i ht
    simp only[bind_eq_some_iff,Option.some.injEq]at hg
    obtain⟨x',hx,lo',hlo,hi',hhi,rfl⟩:=hg
    simp only[Ap]at h
    split at h
    .rename_i w hw
     cases h
     generalize hv:Fr.ev F x'=xv at hw
     cases xv<;>try(simp only[En]at hw;cases hw;done)
     grind[AfR]
    .cases h
   .rename_i e ht
    simp only[bind_eq_some_iff]at hg
    obtain⟨s,hs,hg⟩:=hg
    split at hg
    .simp at hg
    .rename_i hs0
     simp only[bind_some,bind_eq_some_iff,Option.some.injEq]at hg
     obtain⟨x',hx,lo',hlo,hi',hhi,rfl⟩:=hg
     simp only[Ap]at h
     split at h
     .rename_i w hw
      cases h
      generalize hv:Fr.ev F x'=xv at hw
      cases xv<;>try(simp only[En]at hw;cases hw;done)
      .grind[Nat.eq_of_beq_eq_true,En]
      grind[AfQ]
     .cases h
   .cases hg
 |fieldAddr s x f=>
  rw[hop]at hg
  simp only[Bf?,bind_eq_bind,pure_def]at hg
  split at hg
  .rename_i fields hs
   simp only[bind_eq_some_iff]at hg
   obtain⟨fd,hfd,n,hn,hg⟩:=hg
   split at hg
   .simp at hg
   .rename_i hn0
    simp only[bind_some,bind_eq_some_iff,Option.some.injEq]at hg
    obtain⟨y,hy,rfl⟩:=hg
    grind[Aor]
  .cases hg
 |indexAddr t x ix=>
  rw[hop]at hg
  simp only[Bf?,bind_eq_bind,pure_def]at hg
  split at hg
  .rename_i e ht
   simp only[bind_eq_some_iff,Option.some.injEq]at hg
   obtain⟨s,hs,x',hx,ix',hix,rfl⟩:=hg
   exact Aos hS hF hop ht hs hx hix h
  .rename_i n e ht
   simp only[bind_eq_some_iff,Option.some.injEq]at hg
   obtain⟨s,hs,x',hx,ix',hix,rfl⟩:=hg
   exact Ak2 hS hF hop ht hs hx hix h
  .cases hg
 |index t x ix=>
  rw[hop]at hg
  simp only[Bf?,bind_eq_bind,pure_def]at hg
  split at hg
  .rename_i ht
   simp only[bind_eq_some_iff,Option.some.injEq]at hg
   obtain⟨x',hx,ix',hix,rfl⟩:=hg
   exact Aot hS hF hop ht hx hix h
  .cases hg
 |extract x i=>
  rw[hop]at hg
  simp only[Bf?,bind_eq_bind,bind_eq_some_iff,pure_def,Option.some.injEq]at hg
  obtain⟨x',hx,rfl⟩:=hg
  exact Ak1 hS hF hop hx h
 |_=>grind[Bf?]
end
def Af9(P:Program)(B:Nat)(g:Nat)(σ:St)(ρ:Re)(vals:List Value)(W:World)(v:AV)(σ':St):Prop:=
 (∃ fn, P.funcs[g]? = some fn ∧ fn.body.isSome = true ∧ (fn.name == "runtime.NumGoroutine") = false) ∧
 Calls P g vals.toArray W fun e W'=>∃u ρ',e=.returned u/\CU σ' ρ' B W'/\Cx σ ρ W σ' ρ' W'/\Cm ρ' v u
def JU(P:Program)(B:Nat)(X:World->Prop)(H:E5):Prop:=
 ∀g args σ v σ',H g args σ=some (v,σ')->∀ρ W vals,CU σ ρ B W->X W->BO ρ args vals->Af9 P B g σ ρ vals W v σ'
def T8(B:Nat)(X:World->Prop):Prop:=∀W W',RowKit.Below B W W'->X W->X W'
section
variable {P:Program}{B:Nat}{X:World->Prop}{H:E5}
theorem U4{ops:Array Oper}{o:Oper}{g:Option (Nat×Bool)}(hg:Mo ops o.guard=some g){ρ:Re}{F:Fr}{tmps:Array Value}(hF:FR ρ F tmps):Region.wanted o (yielded ops tmps)=wanted F g:=by
 unfold Mo at hg
 split at hg
 .grind[Region.wanted,wanted]
 .rename_i j want h0
  split at hg
  .rename_i o' ho'
   split at hg
   .rename_i d hd
    cases hg
    simp only[Region.wanted,h0,wanted,yielded,ho',bind_some,hd]
    have h1:=hF d
    simp only[Array.getD_eq_getD_getElem?]at h1
    cases ht:tmps[d]? with
    |none=>
     rw[ht]at h1
     generalize Fr.tmp F d=x at h1
     have:x=.tu []:=by
      simp only[Option.getD_none,undef]at h1
      cases x<;>first|(cases h1;done)|skip
      rename_i vs
      generalize he:(Value.tuple #[])=u at h1
      cases h1 with
      |tu cs cs' hh=>
       injection he with he
       have:cs' = []:=by simpa using he.symm
       subst this
       cases hh
       rfl
     subst this
     rfl
    |some u=>
     rw[ht]at h1
     simp only[getD_some]at h1
     generalize Fr.tmp F d=x at h1
     cases h1<;>rfl
   .cases hg
  .cases hg
theorem A4f{P:Program}{op:Op}{f:Ar}{args:List Ar}(hg:Bf? P op=some (.call f args)) :
  ∃fo cargs cty,op=.call { callee:=.value fo,args:=cargs,argTypes:=cty }/\Au fo=some f/\cargs.toList.mapM Au=some args:=by
 cases op with
 |call c=>
  obtain⟨callee,cargs,cty⟩:=c
  cases callee with
  |value fo=>
   simp only[Bf?,bind_eq_bind,bind_eq_some_iff,pure_def,Option.some.injEq,Bl.call.injEq]at hg
   obtain⟨f',hf,as,has,rfl,rfl⟩:=hg
   exact⟨fo,cargs,cty,rfl,hf,has⟩
  |invoke r m=>simp[Bf?]at hg
  |builtin b=>
   exfalso
   cases b<;>simp only[Bf?]at hg<;>(repeat' split at hg)<;>simp[bind_eq_some_iff]at hg
   all_goals (repeat' split at hg)<;>simp[bind_eq_some_iff]at hg
 |_=>
  exfalso
  simp only[Bf?]at hg
  (repeat' split at hg)<;>simp[bind_eq_some_iff]at hg
  all_goals first
   |(exact absurd ‹_=_› (by simp))
   |(obtain⟨a,_,h2⟩:=hg;split at h2<;>cases h2)
theorem LU(hH:JU P B X H){o:Oper}{op:Bl}(hop:op=Bf P o.op){a:Act}{F:Fr}{σ σ':St}{ρ:Re}{W:World}{v:AV}(hS:CU σ ρ B W)(hX:X W)(hF:FR ρ F a.tmps)(h:AX H op F σ=some (v,σ'))
  {K:Act->World->Prop} {Q:Exit->Act->World->Prop} (hK:∀u ρ' W',CU σ' ρ' B W'->Cx σ ρ W σ' ρ' W'->Cm ρ' v u->K (a.put o.dst u) W'):o.wp P a W K Q:=by
 have plain:∀op',Bf? P o.op=some op'->Ap op' F σ=some (v,σ')->o.wp P a W K Q:=by
  intro op' hg he
  obtain⟨ρ',W',h1,h2,h3⟩:=Abw hS hF hg he
  unfold Oper.wp
  rcases h3 with ⟨u,h4,h5⟩|⟨h4,rfl⟩
  .rw[h4];exact hK u ρ' W' h1 h2 h5
  .rw[h4];exact hK undef ρ' W' h1 h2 (RS _)
 unfold Bf at hop
 split at hop
 .rename_i op' hg
  subst hop
  by_cases hc:∃f args,op=.call f args
  .obtain⟨f,args,rfl⟩:=hc
   simp only[AX]at h
   split at h
   .rename_i g x y hv
    obtain⟨fo,cargs,cty,ho,hf,has⟩:=A4f hg
    have h1:=AR hF hf
    rw[hv]at h1
    have h2:=MB hF _ _ has
    generalize hu:a.eval fo=u at *
    cases h1 with
    |f _ _ _ x' y' hx hy=>
     obtain⟨⟨fn,hfn,hbody,hname⟩,hcall⟩:=hH g _ σ v σ' h ρ W (x'++cargs.toList.map a.eval++y') hS hX ((hx.append h2).append hy)
     have hrun:(execOp a.eval o).run P W=.ok (.enter g (x'++cargs.toList.map a.eval++y').toArray) W:=by
      have e1:(x'.toArray++cargs.map a.eval++y'.toArray)=(x'++cargs.toList.map a.eval++y').toArray:=by apply Array.ext';simp
      have hb:fn.body.isNone=false:=by simp_all
      simp only[execOp,ho,resolve,hu,Deferred.ofValue,Sem.run_bind,Sem.run_pure,Result.andThen_ok,invoke,callFunc,run_program,hfn,hname,hb,e1]
      rfl
     unfold Oper.wp
     rw[hrun,Oper.upon_enter]
     refine hcall.mono fun e W' he=>?_
     grind
   .cases h
  .refine plain op hg ?_
   cases op<;>first|exact h|exact absurd ⟨_,_,rfl⟩ hc
 simp_all[AX,Ap]
def A97(B:Nat)(σ:St)(ρ:Re)(W:World)(a:Act)(ex:Exit)(F':Fr)(σ':St):Exit->Act->World->Prop:=fun e a' W'=>
 ∃ρ',e=ex/\FR ρ' F' a'.tmps/\CU σ' ρ' B W'/\Cx σ ρ W σ' ρ' W'/\a'.tmps.size=a.tmps.size/\a'.defers=a.defers
theorem Ju(a:Act)(d:Option Nat)(u:Value):(a.put d u).defers=a.defers:=by cases d<;>rfl
theorem Zw(hX:T8 B X)(hH:JU P B X H){n:Nat}(ops:Array Oper){Q:Exit->Act->World->Prop}:∀(os:List Oper) (as:List Ay) (F:Fr) (σ:St) (F':Fr) (σ':St) (ρ:Re) (W:World) (a:Act),
  os.mapM (Gu P ops)=some as->Dt H as F σ=some (F',σ')->as.all (Tk n)=true->n<=a.tmps.size->FR ρ F a.tmps->CU σ ρ B W->X W ->
  (∀a' W',A97 B σ ρ W a .normal F' σ' .normal a' W'->Q .normal a' W')->wpList P ops Q os a W:=by
 intro os
 induction os with
 |nil=>
  intro as F σ F' σ' ρ W a hg hr _ _ hF hS _ hQ
  simp at hg
  subst hg
  simp only[Dt,Option.some.injEq,Prod.mk.injEq]at hr
  obtain⟨rfl,rfl⟩:=hr
  exact hQ a W ⟨ρ,rfl,hF,hS,Cx.refl _ _ _ hS,rfl,rfl⟩
 |cons o os ih=>
  intro as F σ F' σ' ρ W a hg hr hd hn hF hS hXW hQ
  simp only[List.mapM_cons,bind_eq_bind,bind_eq_some_iff,pure_def,Option.some.injEq]at hg
  obtain⟨ao,hao,as',has,rfl⟩:=hg
  unfold Gu at hao
  split at hao
  .rename_i g hgu
   cases hao
   simp only[List.all_cons,and_eq_true]at hd
   obtain⟨hd1,hd2⟩:=hd
   have hdk:∀k,o.dst=some k->k<n:=by
    grind[Tk,Nat.blt_eq]
   have hw:=U4 hgu hF
   simp only[Dt]at hr
   unfold wpList
   rw[hw]
   cases hwa:wanted F g with
   |true=>
    rw[hwa]at hr
    simp only[cond_true]at hr
    simp only[if_true]
    split at hr
    .rename_i v σ1 hev
     refine .inl (LU hH rfl hS hXW hF hev fun u ρ1 W1 h1 h2 h3=>?_)
     refine ih as' _ σ1 F' σ' ρ1 W1 (a.put o.dst u) has hr hd2 (by rw[HT];exact hn) (FR.put (hF.mono (hS.le h2)) hn hdk h3) h1 (hX W W1 (h2.below hS) hXW) fun a' W' hp=>?_
     obtain⟨ρ',_,h4,h5,h6,h7,h8⟩:=hp
     exact hQ a' W' ⟨ρ',rfl,h4,h5,h2.trans h6,by rw[h7,HT],by rw[h8,Ju]⟩
    .cases hr
   |false=>
    rw[hwa]at hr
    simp only[cond_false]at hr
    simp only[false_eq_true,if_false]
    refine ih as' _ σ F' σ' ρ W (a.put o.dst undef) has hr hd2 (by rw[HT];exact hn) (FR.put hF hn hdk (RS _)) hS hXW fun a' W' hp=>?_
    obtain⟨ρ',_,h4,h5,h6,h7,h8⟩:=hp
    exact hQ a' W' ⟨ρ',rfl,h4,h5,h6,by rw[h7,HT],by rw[h8,Ju]⟩
  .cases hao
def MT(P:Program)(B:Nat)(X:World->Prop):Prop:=∀(H:E5),JU P B X H->∀(id:Nat) (ops:Array Oper) (ss:List AE) (n:Nat) (F:Fr) (σ:St) (F':Fr) (σ':St) (ρ:Re) (W:World) (a:Act),
  PF P ops=some ss->BX H ss F σ=some (F',σ')->(ss.all fun s=>Tk n s.o)=true->n<=a.tmps.size->FR ρ F a.tmps->CU σ ρ B W->X W ->
  (Code.region id ops true).wp P (A97 B σ ρ W a .normal F' σ') a W
def Ak7:Ex->Exit
 |.norm=>.normal
 |.exit id=>.exit id
 |.ret=>.ret
theorem RE{σ σ1:St}{ρ ρ1:Re}{W W1:World}{a a1:Act}{ex:Exit}{F':Fr}{σ':St}(h:Cx σ ρ W σ1 ρ1 W1)(hs:a1.tmps.size=a.tmps.size)(hd:a1.defers=a.defers){e:Exit}{a':Act}{W':World} :
  A97 B σ1 ρ1 W1 a1 ex F' σ' e a' W'->A97 B σ ρ W a ex F' σ' e a' W':=by
 rintro⟨ρ',h1,h2,h3,h4,h5,h6⟩
 exact⟨ρ',h1,h2,h3,h.trans h4,h5.trans hs,h6.trans hd⟩
def A93(P:Program)(B:Nat)(X:World->Prop)(A:Dz)(n:Nat):Prop:=
 ∀(c:Code) (F:Fr) (σ:St) (ex:Ex) (F':Fr) (σ':St) (N:Nat) (ρ:Re) (W:World) (a:Act) (Q:Exit->Act->World->Prop),B3 A n (By P c) F σ=some (ex,F',σ')->EF N (By P c)=true->N<=a.tmps.size->FR ρ F a.tmps->CU σ ρ B W->X W ->
  (∀e a' W',A97 B σ ρ W a (Ak7 ex) F' σ' e a' W'->Q e a' W')->c.wp P Q a W
def T9(P:Program)(B:Nat)(X:World->Prop)(A:Dz)(n:Nat):Prop:=
 ∀(c:Code) (F:Fr) (σ:St) (ex:Ex) (F':Fr) (σ':St) (N:Nat) (ρ:Re) (W:World) (a:Act) (Q:Exit->Act->World->Prop),B3 A n (.loop (By P c)) F σ=some (ex,F',σ')->EF N (By P c)=true->N<=a.tmps.size->FR ρ F a.tmps->CU σ ρ B W->X W ->
  (∀e a' W',A97 B σ ρ W a (Ak7 ex) F' σ' e a' W'->Q e a' W')->Code.rounds P c Q n a W
theorem A2K(hX:T8 B X)(hD:MT P B X)(A:Dz):∀n,(∀m,m<n->JU P B X (C9 A (B3 A m)))->A93 P B X A n/\T9 P B X A n:=by
 intro n
 induction n with
 |zero=>
  intro _
  exact⟨fun c F σ ex F' σ' N ρ W a Q h=>by simp[B3]at h,fun c F σ ex F' σ' N ρ W a Q h=>by simp[B3]at h⟩
 |succ n ih=>
  intro hcalls
  obtain⟨ihc,ihr⟩:=ih (fun m hm=>hcalls m (by omega))
  have hH:=hcalls n (Nat.lt_succ_self n)
  have rounds:T9 P B X A (n+1):=by
   intro c F σ ex F' σ' N ρ W a Q h hd hN hF hS hXW hQ
   rw[rounds_succ]
   simp only[B3]at h
   split at h
   .rename_i F1 σ1 h1
    refine ihc c F σ .norm F1 σ1 N ρ W a _ h1 hd hN hF hS hXW ?_
    rintro e a1 W1 ⟨ρ1,rfl,h2,h3,h4,h5,h6⟩
    exact ihr c F1 σ1 ex F' σ' N ρ1 W1 a1 Q h hd (by omega) h2 h3 (hX W W1 (h4.below hS) hXW) fun e a' W' hp=>hQ e a' W' (RE h4 h5 h6 hp)
   .rename_i hne
    refine ihc c F σ ex F' σ' N ρ W a _ h hd hN hF hS hXW ?_
    intro e a1 W1 hp
    have hq:=hQ e a1 W1 hp
    obtain⟨ρ1,rfl,_⟩:=hp
    cases ex with
    |norm=>exact absurd h (hne F' σ')
    |exit id=>exact hq
    |ret=>exact hq
  refine⟨?_,rounds⟩
  intro c F σ ex F' σ' N ρ W a Q h hd hN hF hS hXW hQ
  cases c with
  |skip=>
   simp only[By,B3,Option.some.injEq,Prod.mk.injEq]at h
   obtain⟨rfl,rfl,rfl⟩:=h
   exact wp_skip (hQ _ _ _ ⟨ρ,rfl,hF,hS,Cx.refl _ _ _ hS,rfl,rfl⟩)
  |region id ops draw=>
   cases draw with
   |false=>
    simp only[By]at h hd
    split at h
    .rename_i os hos
     rw[hos]at hd
     simp only[B3]at h
     split at h
     .rename_i F1 σ1 hr
      simp only[Option.some.injEq,Prod.mk.injEq]at h
      obtain⟨rfl,rfl,rfl⟩:=h
      exact wp_region_list (Zw hX hH ops _ os F σ F1 σ1 ρ W a hos hr hd hN hF hS hXW fun a' W' hp=>hQ _ _ _ hp)
     .cases h
    .simp[B3]at h
   |true=>
    simp only[By]at h hd
    split at h
    .rename_i ss hss
     rw[hss]at hd
     simp only[B3]at h
     split at h
     .rename_i F1 σ1 hr
      simp only[Option.some.injEq,Prod.mk.injEq]at h
      obtain⟨rfl,rfl,rfl⟩:=h
      exact wp_mono (hD _ hH id ops ss N F σ F1 σ1 ρ W a hss hr hd hN hF hS hXW) fun e a' W' hp=>hQ _ _ _ hp
     .cases h
    .simp[B3]at h
  |seq x y=>
   simp only[By,EF,and_eq_true]at hd
   simp only[By,B3]at h
   split at h
   .rename_i F1 σ1 h1
    refine wp_seq (ihc x F σ .norm F1 σ1 N ρ W a _ h1 hd.1 hN hF hS hXW ?_)
    rintro e a1 W1 ⟨ρ1,rfl,h2,h3,h4,h5,h6⟩
    exact ihc y F1 σ1 ex F' σ' N ρ1 W1 a1 Q h hd.2 (by omega) h2 h3 (hX W W1 (h4.below hS) hXW) fun e a' W' hp=>hQ e a' W' (RE h4 h5 h6 hp)
   .rename_i hne
    refine wp_seq (ihc x F σ ex F' σ' N ρ W a _ h hd.1 hN hF hS hXW ?_)
    intro e a1 W1 hp
    have hq:=hQ e a1 W1 hp
    obtain⟨ρ1,rfl,_⟩:=hp
    cases ex with
    |norm=>exact absurd h (hne F' σ')
    |exit id=>exact hq
    |ret=>exact hq
  |cond cc x y=>
   simp only[By]at h hd
   split at h
   .rename_i cc' hcc
    rw[hcc]at hd
    simp only[EF,and_eq_true]at hd
    simp only[B3]at h
    have h1:=AR hF hcc
    split at h
    .rename_i hv
     rw[hv]at h1
     exact wp_cond (t:=true) (A8C h1) (ihc x F σ ex F' σ' N ρ W a Q h hd.1 hN hF hS hXW hQ)
    .rename_i hv
     rw[hv]at h1
     exact wp_cond (t:=false) (A8C h1) (ihc y F σ ex F' σ' N ρ W a Q h hd.2 hN hF hS hXW hQ)
    .cases h
   .simp[B3]at h
  |block id x=>
   simp only[By,EF]at hd
   simp only[By,B3]at h
   split at h
   .rename_i id' F1 σ1 h1
    refine wp_block (ihc x F σ (.exit id') F1 σ1 N ρ W a _ h1 hd hN hF hS hXW ?_)
    intro e a1 W1 hp
    obtain⟨ρ1,rfl,h2⟩:=hp
    simp only[Ak7,Exit.inBlock]
    cases hb:Nat.beq id' id with
    |true=>
     rw[hb]at h
     simp only[cond_true,Option.some.injEq,Prod.mk.injEq]at h
     obtain⟨rfl,rfl,rfl⟩:=h
     rw[if_pos (Nat.eq_of_beq_eq_true hb)]
     exact hQ _ _ _ ⟨ρ1,rfl,h2⟩
    |false=>
     rw[hb]at h
     simp only[cond_false,Option.some.injEq,Prod.mk.injEq]at h
     obtain⟨rfl,rfl,rfl⟩:=h
     have:id'≠id:=by rintro rfl;simp at hb
     rw[if_neg this]
     exact hQ _ _ _ ⟨ρ1,rfl,h2⟩
   .rename_i hne
    refine wp_block (ihc x F σ ex F' σ' N ρ W a _ h hd hN hF hS hXW ?_)
    intro e a1 W1 hp
    have hq:=hQ e a1 W1 hp
    obtain⟨ρ1,rfl,_⟩:=hp
    cases ex with
    |norm=>exact hq
    |exit id'=>exact absurd h (hne id' F' σ')
    |ret=>exact hq
  |loop x=>
   exact wp_loop_rounds (n+1) (rounds x F σ ex F' σ' N ρ W a Q h hd hN hF hS hXW hQ)
  |exit id=>
   simp only[By,B3,Option.some.injEq,Prod.mk.injEq]at h
   obtain⟨rfl,rfl,rfl⟩:=h
   exact wp_exit (hQ _ _ _ ⟨ρ,rfl,hF,hS,Cx.refl _ _ _ hS,rfl,rfl⟩)
  |ret=>
   simp only[By,B3,Option.some.injEq,Prod.mk.injEq]at h
   obtain⟨rfl,rfl,rfl⟩:=h
   exact wp_ret (hQ _ _ _ ⟨ρ,rfl,hF,hS,Cx.refl _ _ _ hS,rfl,rfl⟩)
  |_=>simp[By,B3]at h
theorem SV{σ:St}{ρ:Re}{W:World}{F:Fr}{tmps:Array Value}(hF:FR ρ F tmps)(hS:CU σ ρ B W):∀(rs:List ResultVar) (as:List A91) (vs:List AV),rs.mapM (V7 P)=some as->Ck F σ as=some vs ->
  ∃us:List Value,(rs.mapM (fun(x:ResultVar)=>(match x with
   |.tmp t=>(pure (tmps.getD t undef):Sem Value)
   |.cell a t=>(do loadVar t (<- asAddr (tmps.getD a undef)):Sem Value)))).run P W=.ok us W/\BO ρ vs us:=by
 intro rs
 induction rs with
 |nil=>
  intro as vs hg h
  simp at hg
  subst hg
  simp only[Ck,Option.some.injEq]at h
  subst h
  exact⟨[],by simp,.nil⟩
 |cons r rs ih=>
  intro as vs hg h
  simp only[List.mapM_cons,bind_eq_bind,bind_eq_some_iff,pure_def,Option.some.injEq]at hg
  obtain⟨ra,hra,as',has,rfl⟩:=hg
  cases r with
  |tmp t=>
   simp only[V7,Option.some.injEq]at hra
   subst hra
   simp only[Ck]at h
   split at h
   .rename_i vs' hvs
    cases h
    obtain⟨us,h1,h2⟩:=ih as' vs' has hvs
    exact⟨_::us,by simp_all,.cons _ _ _ _ (hF t) h2⟩
   .cases h
  |cell c t=>
   obtain⟨n,hn,rfl⟩:=map_some hra
   simp only[Ck]at h
   split at h
   .rename_i id off hv
    split at h
    .rename_i v hlv
     split at h
     .rename_i vs' hvs
      cases h
      obtain⟨us,h1,h2⟩:=ih as' vs' has hvs
      have h3:=hF c
      rw[hv]at h3
      obtain⟨rb,hr,hu⟩:=TL h3
      obtain⟨u,h4,h5⟩:=Ll (P:=P) hS hn hr hlv
      have e1:(do loadVar t (<- asAddr (tmps.getD c undef)):Sem Value).run P W=.ok u W:=by
       grind[asAddr]
      refine⟨u::us,?_,.cons _ _ _ _ h5 h2⟩
      grind[Sem.run_bind,Result.andThen_ok,Sem.run_pure]
     .cases h
    .cases h
   .cases h
theorem AfY{ρ:Re}{args:List AV}{vals:List Value}(h:BO ρ args vals)(n:Nat):FR ρ (Tm.ofList args) (vals.toArray++Array.replicate n undef):=by
 intro t
 unfold Fr.tmp
 rw[Tm.get_ofList]
 have hl:=h.length
 cases ht:args[t]? with
 |some x=>
  obtain⟨u,h1,h2⟩:=h.get t x ht
  have hlt:t<vals.length:=(List.getElem?_eq_some_iff.1 h1).1
  have:(vals.toArray++Array.replicate n undef).getD t undef=u:=by
   simp_all[Array.getElem?_append_left]
  rw[this]
  exact h2
 |none=>
  have hlt:vals.length<=t:=by grind
  have:(vals.toArray++Array.replicate n undef).getD t undef=undef:=by
   rw[Array.getD_eq_getD_getElem?,Array.getElem?_append_right (by simpa using hlt)]
   grind
  rw[this]
  exact RS ρ
structure AnB(P:Program)(B:Nat)(X:World->Prop)(A:Dz):Prop where
 fn:∀g af,A.fn g=some af->V6 P g=some af
 ext:∀g f,A.ext g=some f->JU P B X (fun g' args σ=>if g'=g then f args σ else none)
theorem A2s(hX:T8 B X)(hD:MT P B X)(A:Dz)(hA:AnB P B X A):∀n,JU P B X (C9 A (B3 A n)):=by
 intro n
 induction n using Nat.strongRecOn with
 |_ n ih=>
  obtain⟨hc,_⟩:=A2K hX hD A n ih
  intro g args σ v σ' h ρ W vals hS hXW hR
  unfold C9 at h
  split at h
  .rename_i x hx
   exact hA.ext g x hx g args σ v σ' (by simpa using h) ρ W vals hS hXW hR
  .split at h
   .cases h
   .rename_i af haf
    have hgen:=hA.fn g af haf
    unfold V6 at hgen
    split at hgen
    .rename_i fn hfn
     unfold A6B at hgen
     split at hgen
     .rename_i c rs hbody hrs
      cases hok : (EF fn.ntmps (By P c) && !(fn.name == "runtime.NumGoroutine")) with
      |false=>rw[hok]at hgen;cases hgen
      |true=>
       rw[hok]at hgen
       simp only[cond_true,Option.some.injEq]at hgen
       subst hgen
       simp only[and_eq_true,not_eq_true']at hok
       refine⟨⟨fn,hfn,by rw[hbody];rfl,hok.2⟩,?_⟩
       have fin:∀(ex:Ex) (F':Fr) (σ1:St),(ex=.norm\/ex=.ret)->B3 A n (By P c) (Tm.ofList args) σ=some (ex,F',σ1)->(match Ck F' σ1 rs with|some vs=>some (Zd vs,σ1)|none=>none)=some (v,σ') ->
         Calls P g vals.toArray W fun e W'=>∃u ρ',e=.returned u/\CU σ' ρ' B W'/\Cx σ ρ W σ' ρ' W'/\Cm ρ' v u:=by
        intro ex F' σ1 hex hrun hres
        split at hres
        .rename_i vs hvs
         cases hres
         refine calls_of_wp hfn hbody (hc c (Tm.ofList args) σ ex F' σ' fn.ntmps ρ W _ _ hrun hok.1 ?_ (AfY hR _) hS hXW ?_)
         .grind
         .rintro e a' W' ⟨ρ',rfl,h1,h2,h3,h4,h5⟩
          obtain⟨us,h6,h7⟩:=SV (P:=P) h1 h2 fn.results.toList rs vs hrs hvs
          have hresr:(results fn a'.tmps).run P W'=.ok (if h:us.toArray.size=1 then us.toArray[0]else .tuple us.toArray) W':=by
           unfold results
           rw[Array.mapM_eq_mapM_toList]
           simp only[Sem.run_bind,Sem.run_map,Sem.run_pure]
           exact(congrArg (fun(r:Result (List Value))=>(Result.andThen (Result.andThen r fun a w'=>Result.ok a.toArray w') fun a w'=>Result.ok (if h:a.size=1 then a[0]else Value.tuple a) w')) h6)
          have hpost:a'.defers=[]/\∃v',(results fn a'.tmps).run P W'=.ok v' W'/\∃u ρ',Ending.returned v'=.returned u/\CU σ' ρ' B W'/\Cx σ ρ W σ' ρ' W'/\Cm ρ' (Zd vs) u:=by
           refine⟨h5,_,hresr,_,ρ',rfl,h2,h3,?_⟩
           cases h7 with
           |nil=>exact .tu [] [] .nil
           |cons x y xs ys hx hxs=>
            cases hxs with
            |nil=>exact hx
            |cons x2 y2 xs2 ys2 hx2 hxs2=>
             have hne:¬((y::y2::ys2).toArray.size=1):=by simp
             rw[dif_neg hne]
             exact .tu _ _ (.cons _ _ _ _ hx (.cons _ _ _ _ hx2 hxs2))
          rcases hex with rfl|rfl<;>exact hpost
        .cases hres
       grind
     .cases hgen
    .cases hgen
end
theorem AH{F G:Fr}{x:Ar}(h:∀t,t∈x.tmps->Fr.tmp F t=Fr.tmp G t):Fr.ev F x=Fr.ev G x:=by
 cases x with
 |t n=>exact h n (by simp[Ar.tmps])
 |c v=>rfl
theorem N3{F G:Fr}{xs:List Ar}(h:∀t,t∈xs.flatMap Ar.tmps->Fr.tmp F t=Fr.tmp G t):xs.map (Fr.ev F)=xs.map (Fr.ev G):=by
 grind[List.map_congr_left,AH]
theorem LF{F G:Fr}:∀(ps:List (Nat×Nat×Ar)) (cs:List AV),(∀t,t∈ps.flatMap (fun p=>p.2.2.tmps)->Fr.tmp F t=Fr.tmp G t)->BN F cs ps=BN G cs ps:=by
 intro ps
 induction ps with
 |nil=>intro cs _;rfl
 |cons p ps ih=>
  grind[AH,BN]
theorem TD{F G:Fr}{x:Option Ar}(h:∀t,t∈Z9 x->Fr.tmp F t=Fr.tmp G t):x.map (Fr.ev F)=x.map (Fr.ev G):=by
 cases x with
 |none=>rfl
 |some x=>simp only[Option.map_some];rw[AH (fun t ht=>h t ht)]
theorem Mn{H:E5}{op:Bl}{F G:Fr}{σ:St}(h:∀t,t∈op.reads->Fr.tmp F t=Fr.tmp G t):AX H op F σ=AX H op G σ:=by
 cases op with
 |call f args=>
  grind[AH,Bl.reads,N3,AX]
 |build z ps=>simp only[AX,Ap,LF ps z (fun t ht=>h t ht)]
 |bsl ty esz len z ps=>simp only[AX,Ap,LF ps z (fun t ht=>h t ht)]
 |mkf g x y=>
  have h1:x.map (Fr.ev F)=x.map (Fr.ev G):=N3 fun t ht=>h t (by rw[Bl.reads,List.flatMap_append];exact List.mem_append_left _ ht)
  have h2:y.map (Fr.ev F)=y.map (Fr.ev G):=N3 fun t ht=>h t (by rw[Bl.reads,List.flatMap_append];exact List.mem_append_right _ ht)
  simp only[AX,Ap,h1,h2]
 |slc e x lo hi=>
  have h1:Fr.ev F x=Fr.ev G x:=AH fun t ht=>h t (by simp[Bl.reads,ht])
  have h2:lo.map (Fr.ev F)=lo.map (Fr.ev G):=TD fun t ht=>h t (by simp[Bl.reads,ht])
  have h3:hi.map (Fr.ev F)=hi.map (Fr.ev G):=TD fun t ht=>h t (by simp[Bl.reads,ht])
  simp only[AX,Ap,h1,h2,h3]
 |pick a b c=>
  have h1:Fr.ev F a=Fr.ev G a:=AH fun t ht=>h t (by simp[Bl.reads,ht])
  have h2:Fr.ev F b=Fr.ev G b:=AH fun t ht=>h t (by simp[Bl.reads,ht])
  have h3:Fr.ev F c=Fr.ev G c:=AH fun t ht=>h t (by simp[Bl.reads,ht])
  simp only[AX,Ap,h1,h2,h3]
 |fail=>rfl
 |st n a x=>
  have h1:Fr.ev F a=Fr.ev G a:=AH fun t ht=>h t (by simp[Bl.reads,ht])
  have h2:Fr.ev F x=Fr.ev G x:=AH fun t ht=>h t (by simp[Bl.reads,ht])
  simp only[AX,Ap,h1,h2]
 |bin _ _ a x=>
  have h1:Fr.ev F a=Fr.ev G a:=AH fun t ht=>h t (by simp[Bl.reads,ht])
  have h2:Fr.ev F x=Fr.ev G x:=AH fun t ht=>h t (by simp[Bl.reads,ht])
  simp only[AX,Ap,h1,h2]
 |mks _ _ _ _ a x=>
  have h1:Fr.ev F a=Fr.ev G a:=AH fun t ht=>h t (by simp[Bl.reads,ht])
  have h2:Fr.ev F x=Fr.ev G x:=AH fun t ht=>h t (by simp[Bl.reads,ht])
  simp only[AX,Ap,h1,h2]
 |ia _ a x=>
  have h1:Fr.ev F a=Fr.ev G a:=AH fun t ht=>h t (by simp[Bl.reads,ht])
  have h2:Fr.ev F x=Fr.ev G x:=AH fun t ht=>h t (by simp[Bl.reads,ht])
  simp only[AX,Ap,h1,h2]
 |iaa _ _ a x=>
  have h1:Fr.ev F a=Fr.ev G a:=AH fun t ht=>h t (by simp[Bl.reads,ht])
  have h2:Fr.ev F x=Fr.ev G x:=AH fun t ht=>h t (by simp[Bl.reads,ht])
  simp only[AX,Ap,h1,h2]
 |ix a x=>
  have h1:Fr.ev F a=Fr.ev G a:=AH fun t ht=>h t (by simp[Bl.reads,ht])
  have h2:Fr.ev F x=Fr.ev G x:=AH fun t ht=>h t (by simp[Bl.reads,ht])
  simp only[AX,Ap,h1,h2]
 |app _ _ _ a x=>
  have h1:Fr.ev F a=Fr.ev G a:=AH fun t ht=>h t (by simp[Bl.reads,ht])
  have h2:Fr.ev F x=Fr.ev G x:=AH fun t ht=>h t (by simp[Bl.reads,ht])
  simp only[AX,Ap,h1,h2]
 |cpy _ a x=>
  have h1:Fr.ev F a=Fr.ev G a:=AH fun t ht=>h t (by simp[Bl.reads,ht])
  have h2:Fr.ev F x=Fr.ev G x:=AH fun t ht=>h t (by simp[Bl.reads,ht])
  simp only[AX,Ap,h1,h2]
 |mnx _ a x=>
  have h1:Fr.ev F a=Fr.ev G a:=AH fun t ht=>h t (by simp[Bl.reads,ht])
  have h2:Fr.ev F x=Fr.ev G x:=AH fun t ht=>h t (by simp[Bl.reads,ht])
  simp only[AX,Ap,h1,h2]
 |mov x=>simp only[AX,Ap,AH (x:=x) (fun t ht=>h t (by simp[Bl.reads,ht]))]
 |box _ _ x=>simp only[AX,Ap,AH (x:=x) (fun t ht=>h t (by simp[Bl.reads,ht]))]
 |ld _ x=>simp only[AX,Ap,AH (x:=x) (fun t ht=>h t (by simp[Bl.reads,ht]))]
 |nilc x=>simp only[AX,Ap,AH (x:=x) (fun t ht=>h t (by simp[Bl.reads,ht]))]
 |not x=>simp only[AX,Ap,AH (x:=x) (fun t ht=>h t (by simp[Bl.reads,ht]))]
 |neg x=>simp only[AX,Ap,AH (x:=x) (fun t ht=>h t (by simp[Bl.reads,ht]))]
 |conv _ x=>simp only[AX,Ap,AH (x:=x) (fun t ht=>h t (by simp[Bl.reads,ht]))]
 |fa _ x=>simp only[AX,Ap,AH (x:=x) (fun t ht=>h t (by simp[Bl.reads,ht]))]
 |ext x _=>simp only[AX,Ap,AH (x:=x) (fun t ht=>h t (by simp[Bl.reads,ht]))]
 |len _ x=>simp only[AX,Ap,AH (x:=x) (fun t ht=>h t (by simp[Bl.reads,ht]))]
theorem A2G{op:Bl}{F G:Fr}{σ:St}(h:∀t,t∈op.reads->Fr.tmp F t=Fr.tmp G t):Ap op F σ=Ap op G σ:=by
 have:=Mn (H:=fun _ _ _=>none) (op:=op) (F:=F) (G:=G) (σ:=σ) h
 cases op<;>first|exact this|rfl
theorem MR{F G:Fr}{g:Option (Nat×Bool)}(h:∀t w,g=some (t,w)->Fr.tmp F t=Fr.tmp G t):wanted F g=wanted G g:=by
 cases g with
 |none=>rfl
 |some g=>obtain⟨t,w⟩:=g;simp only[wanted,h t w rfl]
def Bl.alloc:Bl->Bool
 |.box _ _ _|.bsl _ _ _ _ _|.mks _ _ _ _ _ _=>true
 |_=>false
def CN(op:Bl)(F:Fr):Option (JQ×(Nat->AV)):=
 match op with
 |.box ty n x=>
  let cs:=(Fr.ev F x).cells
  bif Nat.beq cs.length n&&cs.all AV.cell then some ({ ty:=ty,rw:=true,esz:=0,len:=n,cs:=Tm.ofList cs },fun id=>.p (some (id,0)))else none
 |.bsl ty esz len zero parts=>match BN F zero parts with
  |some cs=>some ({ ty:=ty,rw:=true,esz:=esz,len:=len * esz,cs:=Tm.ofList cs },fun id=>.sl (some (id,0)) len)
  |none=>none
 |.mks ty esz bytes zero l c=>match Fr.ev F l,Fr.ev F c with
  |.i .i64 n,.i .i64 m=>
   if 0<=n/\n<=m/\m.toNat * bytes<=A6 then
    some ({ ty:=ty,rw:=true,esz:=esz,len:=n.toNat * esz,cs:=Tm.ofList ((List.replicate n.toNat zero).flatten) },fun id=>.sl (some (id,0)) n.toNat)
   else none
  |_,_=>none
 |_=>none
theorem Jj{op:Bl}(ha:op.alloc=true)(F:Fr)(σ:St):Ap op F σ=(CN op F).map fun x=>(x.2 σ.next,σ.new x.1):=by
 cases op<;>first|(simp[Bl.alloc]at ha;done)|skip
 .simp only[Ap,CN]
  grind
 .simp only[Ap,CN]
  split<;>simp_all
 .simp only[Ap,CN]
  grind
theorem Uk{op:Bl}(ha:op.alloc=true){F G:Fr}(h:∀t,t∈op.reads->Fr.tmp F t=Fr.tmp G t):CN op F=CN op G:=by
 cases op<;>first|(simp[Bl.alloc]at ha;done)|skip
 .grind[AH,Bl.reads,CN]
 .simp only[CN,LF _ _ (fun t ht=>h t ht)]
 grind[AH,Bl.reads,CN]
theorem Tl{op:Bl}(h1:op.writer=false)(h2:op.reader=false)(h3:op.alloc=false){F:Fr}{σ σ':St}{v:AV}(h:Ap op F σ=some (v,σ')):σ'=σ/\∀σ2,Ap op F σ2=some (v,σ2):=by
 cases op<;>first|(simp[Bl.writer]at h1;done)|(simp[Bl.reader]at h2;done)|(simp[Bl.alloc]at h3;done)|skip
 all_goals
  simp only[Ap]at h ⊢
  first
  |(simp only[Option.some.injEq,Prod.mk.injEq]at h;obtain⟨rfl,rfl⟩:=h;exact⟨rfl,fun _=>rfl⟩)
  |(repeat' split at h)<;>first
   |(cases h;done)
   |(cases h;refine⟨rfl,fun σ2=>?_⟩;simp_all)
theorem A0O{P:Program}{op:Op}{aop:Bl}(hg:Bf? P op=some aop)(ha:aop.alloc=true) :
  (∃e,op=.alloc e)\/(∃e x,op=.box e x)\/(∃t n ps,op=.buildSlice t n ps)\/∃t l c,op=.makeSlice t l c:=by
 cases op with
 |alloc e=>exact .inl ⟨e,rfl⟩
 |box e x=>exact .inr (.inl ⟨e,x,rfl⟩)
 |buildSlice t n ps=>exact .inr (.inr (.inl ⟨t,n,ps,rfl⟩))
 |makeSlice t l c=>exact .inr (.inr (.inr ⟨t,l,c,rfl⟩))
 |call c=>
  exfalso
  obtain⟨callee,cargs,cty⟩:=c
  cases callee with
  |value fo=>
   simp only[Bf?,bind_eq_bind,bind_eq_some_iff,pure_def,Option.some.injEq]at hg
   obtain⟨f',hf,as,has,rfl⟩:=hg
   simp[Bl.alloc]at ha
  |invoke r m=>simp[Bf?]at hg
  |builtin b=>
   cases aop<;>first|(simp[Bl.alloc]at ha;done)|skip
   all_goals
    cases b<;>simp only[Bf?]at hg<;>(repeat' split at hg)<;>simp[bind_eq_some_iff]at hg
    all_goals (repeat' split at hg)<;>simp[bind_eq_some_iff]at hg
 |_=>
  exfalso
  cases aop<;>first|(simp[Bl.alloc]at ha;done)|skip
  all_goals
   simp only[Bf?]at hg
   (repeat' split at hg)<;>simp[bind_eq_some_iff]at hg
   all_goals first
    |contradiction
    |(obtain⟨a,_,h2⟩:=hg;split at h2<;>cases h2)
section
variable {P:Program}{o:Oper}{a:Act}{ρ:Re}{F:Fr}
theorem A0G{F:Fr}:∀(ps:List (Nat×Nat×Ar)) (c c':List AV),BN F c ps=some c'->c'.length=c.length:=by
 intro ps
 induction ps with
 |nil=>grind[BN]
 |cons p ps ih=>
  intro c c' h
  obtain⟨off,sz,y⟩:=p
  simp only[BN]at h
  cases hc:(Nat.beq (Fr.ev F y).cells.length sz&&(Fr.ev F y).cells.all AV.cell&&Nat.ble (off+sz) c.length)with
  |false=>rw[hc]at h;cases h
  |true=>
   rw[hc]at h
   simp only[cond_true]at h
   rw[ih _ _ h]
   simp only[and_eq_true,Nat.ble_eq]at hc
   grind[Nat.eq_of_beq_eq_true,Li]
def ZR(P:Program)(o:Oper)(a:Act)(ρ:Re)(ob:JQ)(mk:Nat->AV)(W:World):Prop:=
 ∃(cur:Array Value) (u:Value),(execOp a.eval o).run P W=.ok (.value u) (W.alloc (.cells cur ob.ty))/\ob.rw=true/\ob.len<=cur.size /\
  (∀j v,j<ob.len->ob.cs.get j=some v->∃u,cur[j]? = some u/\Cm ρ v u/\u.oneCell'=true)/\∀(ρ':Re) id,ρ' id=some ⟨W.heap.size,0,some (cur.size,ob.esz)⟩->Cm ρ' (mk id) u
theorem N0{cs:List AV}{us:Array Value}(hR:BO ρ cs us.toList)(hc:cs.all AV.cell=true)(j:Nat)(v:AV)(hv:(Tm.ofList cs).get j=some v):∃u,us[j]? = some u/\Cm ρ v u/\u.oneCell'=true:=by
 rw[Tm.get_ofList]at hv
 obtain⟨u,h1,h2⟩:=hR.get j v hv
 grind[GF]
theorem A9d(hF:FR ρ F a.tmps){op:Bl}(hg:Bf? P o.op=some op)(ha:op.alloc=true){ob:JQ}{mk:Nat->AV}(h:CN op F=some (ob,mk))(W:World):ZR P o a ρ ob mk W:=by
 rcases A0O hg ha with ⟨e,hop⟩|⟨e,x,hop⟩|⟨t,len,parts,hop⟩|⟨t,l,c,hop⟩
 ·-- alloc
  rw[hop]at hg
  simp only[Bf?,bind_eq_bind,bind_eq_some_iff,pure_def]at hg
  obtain⟨z,hz,hg⟩:=hg
  obtain⟨i,zv,hi,hzv,hR,hl,hm⟩:=Cq hz
  have hall:=Cd _ _ hm
  have key:∀y:Ar,(Fr.ev F y).cells=z->CN (.box e z.length y) F=some (ob,mk)->ZR P o a ρ ob mk W:=by
   intro y hy h
   simp only[CN,hy,Nat.beq_refl,hall,Bool.and_self,cond_true,Option.some.injEq,Prod.mk.injEq]at h
   obtain⟨rfl,rfl⟩:=h
   refine⟨zv.cells,.pointer (some ⟨W.heap.size,0,none⟩),?_,rfl,by simp only;omega,fun j v _ hv=>N0 (hR ρ) hall j v hv,fun ρ' id hr=>?_⟩
   .simp_all[execOp,Instr.alloc,zeroValue,typeInfo,newVar,newRow]
   .have:=Cm.p (ρ:=ρ') id 0 _ hr
    simpa using this
  split at hg
  .rename_i w
   cases hg
   refine key (.c w) ?_ h
   have:w.cell=true:=by simpa using hall
   simp only[Fr.ev]
   cases w<;>first|rfl|(simp[AV.cell]at this)
  .cases hg
   exact key (.c (.ag z)) rfl h
 ·-- box
  rw[hop]at hg
  simp only[Bf?,bind_eq_bind,bind_eq_some_iff,pure_def,Option.some.injEq]at hg
  obtain⟨n,hn,y,hy,rfl⟩:=hg
  simp only[CN]at h
  cases hc:(Nat.beq (Fr.ev F y).cells.length n&&(Fr.ev F y).cells.all AV.cell)with
  |false=>rw[hc]at h;cases h
  |true=>
   rw[hc]at h
   simp only[cond_true,Option.some.injEq,Prod.mk.injEq]at h
   obtain⟨rfl,rfl⟩:=h
   simp only[and_eq_true]at hc
   have hR:=(AR hF hy).cells'
   have hl:=hR.size
   have hn2:=Nat.eq_of_beq_eq_true hc.1
   refine⟨(a.eval x).cells,.pointer (some ⟨W.heap.size,0,none⟩),?_,rfl,by simp only;omega,fun j v _ hv=>N0 hR hc.2 j v hv,fun ρ' id hr=>?_⟩
   .simp[execOp,hop,Instr.box,newVar,newRow]
   .have:=Cm.p (ρ:=ρ') id 0 _ hr
    simpa using this
 ·-- buildSlice
  rw[hop]at hg
  simp only[Bf?,bind_eq_bind,pure_def]at hg
  split at hg
  .rename_i e ht
   simp only[bind_eq_some_iff]at hg
   obtain⟨s,hs,z,hz,hg⟩:=hg
   split at hg
   .simp at hg
   .rename_i hcond
    simp only[not_or]at hcond
    simp only[bind_some,bind_eq_some_iff,Option.some.injEq]at hg
    obtain⟨ps,hps,rfl⟩:=hg
    have hs0:=hcond.1
    have hsz:z.length=s:=Decidable.not_not.1 hcond.2.1
    have hmax:len * s<=65536:=by omega
    simp only[CN]at h
    split at h
    .rename_i cs hcs
     simp only[Option.some.injEq,Prod.mk.injEq]at h
     obtain⟨rfl,rfl⟩:=h
     obtain⟨i,zv,hi,hzv,hR,hl,hm⟩:=Cq hz
     obtain⟨ie,hie,hse⟩:=sizeOf?_some hs
     rw[hi]at hie
     cases hie
     have hzz:=TM (hR ρ) s (by omega) (by omega) len
     have hall:((List.replicate len z).flatten).all AV.cell=true:=by
      grind[Cd]
     obtain⟨r,h1,h2,h3⟩:=Jm hF (fun i=>some (i * s,s)) _ _ _ (madeCells zv.cells (len * s)) _ hps hzz hall hcs
     have hcl:cs.length=len * s:=by
      rw[A0G _ _ _ hcs,List.length_flatten]
      simp[hsz]
     have hrs:r.size=len * s:=by rw[<- h2.size,hcl]
     refine⟨r,.slice (some ⟨W.heap.size,0,none⟩) len len,?_,rfl,by simp only;omega,fun j v _ hv=>N0 h2 h3 j v hv,fun ρ' id hr=>?_⟩
     .have hparts:(parts.map fun(x:Nat×Operand)=>(x.1,a.eval x.2)).toList=parts.toList.map fun(i,x)=>(i,a.eval x):=by simp
      have h1':Instr.fill (fun i=>some (i * s,s)) (madeCells zv.cells (len * s)) (parts.map fun(x:Nat×Operand)=>(x.1,a.eval x.2)).toList=some r:=by rw[hparts];exact h1
      have h24:¬(len * s > 2 ^ 24):=by omega
      by_cases h0:len * s=0
      .have hmk:madeCells (#[]:Array Value) (len * s)=madeCells zv.cells (len * s):=by rw[h0];simp[madeCells]
       simp only[execOp,hop,Sem.run_bind,Instr.buildSlice,run_underlying ht,sizeOf,typeInfo,run_program,hi,hse,Result.andThen_ok,Sem.run_pure,Sem.run_ite,if_neg h24,if_pos h0]
       have h1'':=h1'
       rw[<- hmk]at h1''
       simp_all[madeCells,newRow]
      .simp only[execOp,hop,Sem.run_bind,Instr.buildSlice,run_underlying ht,sizeOf,typeInfo,run_program,hi,hse,Result.andThen_ok,Sem.run_pure,Sem.run_ite,if_neg h24,if_neg h0,zeroValue,hzv]
       simp_all[madeCells,newRow]
     .have:=Cm.sl (ρ:=ρ') id 0 len len ⟨W.heap.size,0,some (r.size,s)⟩ hr (Nat.le_refl _) (by
       have:len<=len * s:=Nat.le_mul_of_pos_right _ (by omega)
       simp only[maxLen];omega) (fun _ m' e' he=>by
       grind)
      simpa using this
    .cases h
  .cases hg
 ·-- makeSlice
  rw[hop]at hg
  simp only[Bf?,bind_eq_bind,pure_def]at hg
  split at hg
  .rename_i e ht
   simp only[bind_eq_some_iff]at hg
   obtain⟨s,hs,z,hz,b,hb,hg⟩:=hg
   split at hg
   .simp at hg
   .rename_i hcond
    simp only[not_or]at hcond
    simp only[bind_some,bind_eq_some_iff,Option.some.injEq]at hg
    obtain⟨y,hy,w,hw,rfl⟩:=hg
    have hs0:=hcond.1
    have hsz:z.length=s:=Decidable.not_not.1 hcond.2.1
    have hb0:=hcond.2.2
    have h1:=AR hF hy
    have h2:=AR hF hw
    simp only[CN]at h
    split at h
    .rename_i n m hn hm
     rw[hn]at h1
     rw[hm]at h2
     split at h
     .rename_i hc
      obtain⟨h0,hnm,hby⟩:=hc
      simp only[Option.some.injEq,Prod.mk.injEq]at h
      obtain⟨rfl,rfl⟩:=h
      obtain⟨i,zv,hi,hzv,hR,hl,hmm⟩:=Cq hz
      obtain⟨ie,hie,hse⟩:=sizeOf?_some hs
      rw[hi]at hie
      cases hie
      obtain⟨ie,hie,hbe⟩:=Bc?_some hb
      rw[hi]at hie
      cases hie
      have hmm2:(m.toNat:Int)=m:=Int.toNat_of_nonneg (by omega)
      have hmle:m.toNat<=140737488355328:=Nat.le_trans (Nat.le_mul_of_pos_right m.toNat (Nat.pos_of_ne_zero hb0)) (by simpa[A6]using hby)
      have hby':(i.bytes:Int) * m<=281474976710656:=by
       grind[A6]
      have hrun:=run_make (P:=P) W t e i zv ht hi hzv .i64 .i64 n m h0 hnm hby' (by omega)
      have hzvs:zv.cells.size=s:=by omega
      have hle:n.toNat * s<=m.toNat * s:=Nat.mul_le_mul_right _ (by omega)
      refine⟨madeCells zv.cells (m.toNat * s),.slice (some ⟨W.heap.size,0,none⟩) n.toNat m.toNat,?_,rfl,by grind[size_madeCells],fun j x hj hx=>?_,fun ρ' id hr=>?_⟩
      .rw[hse]at hrun
       simp[execOp,hop,Gh h1,Gh h2,hrun]
      .simp only at hj hx
       rw[Tm.get_ofList,A0I hsz _ _ hj]at hx
       rw[A19 _ _ _ (by omega) (by omega),hzvs]
       obtain⟨u,h4,h5⟩:=(hR ρ).get _ x hx
       exact⟨u,by grind,h5,GF (hR ρ) (Cd _ _ hmm) u (List.mem_of_getElem? h4)⟩
      .rw[size_madeCells]at hr
       have:=Cm.sl (ρ:=ρ') id 0 n.toNat m.toNat ⟨W.heap.size,0,some (m.toNat * s,s)⟩ hr (by omega) (by simp only[maxLen];omega) (fun _ m' e' he=>by
        grind)
       simpa using this
     .cases h
    .cases h
  .cases hg
end
def BJ(listed:Array Bool)(i:Nat):Prop:=listed.getD i false=true
def M4(ops:Array Oper)(listed:Array Bool):Prop:=∀j o,ops[j]? = some o->BJ listed j->∀e,e∈o.after.toList->Region.binds .any e=true->BJ listed e.on
theorem A4Z{acc:List Nat}{o:Oper}{i:Nat}(h:(LL acc o).testBit i=true):∃e,e∈o.after.toList/\Region.binds .any e=true/\(i=e.on\/(acc.getD e.on 0).testBit i=true):=by
 have key:∀(l:List Edge) (s:Nat),(l.foldl (fun s e=>bif Region.binds .any e then s|||2 ^ e.on|||acc.getD e.on 0 else s) s).testBit i=true->s.testBit i=true\/∃e,e∈l/\Region.binds .any e=true/\(i=e.on\/(acc.getD e.on 0).testBit i=true):=by
  intro l
  induction l with
  |nil=>intro s h;exact .inl h
  |cons e l ih=>
   grind
 rcases key _ 0 h with h1|h1
 .simp at h1
 .exact h1
theorem SB{acc:List Nat}{o:Oper}{e:Edge}(he:e∈o.after.toList)(hb:Region.binds .any e=true):(LL acc o).testBit e.on=true:=by
 have mono:∀(l:List Edge) (s:Nat),s.testBit e.on=true->(l.foldl (fun s e=>bif Region.binds .any e then s|||2 ^ e.on|||acc.getD e.on 0 else s) s).testBit e.on=true:=by
  intro l
  induction l with
  |nil=>intro s h;exact h
  |cons d l ih=>
   grind
 have key:∀(l:List Edge) (s:Nat),e∈l->(l.foldl (fun s e=>bif Region.binds .any e then s|||2 ^ e.on|||acc.getD e.on 0 else s) s).testBit e.on=true:=by
  intro l
  induction l with
  |nil=>intro s h;simp at h
  |cons d l ih=>
   grind
 exact key _ 0 he
theorem XB:∀(r:List Oper) (acc:List Nat) (j:Nat),j<acc.length->(Hq r acc).getD j 0=acc.getD j 0:=by
 intro r
 induction r with
 |nil=>intro acc j h;rfl
 |cons o r ih=>
  grind[Hq]
theorem A50:∀(r:List Oper) (acc:List Nat) (j:Nat) (o:Oper),r[j]? = some o->∃acc',(Hq r acc).getD (acc.length+j) 0=LL acc' o:=by
 intro r
 induction r with
 |nil=>intro acc j o h;simp at h
 |cons d r ih=>
  intro acc j o h
  simp only[Hq]
  cases j with
  |zero=>
   simp only[List.getElem?_cons_zero,Option.some.injEq]at h
   subst h
   refine⟨acc,?_⟩
   grind[XB]
  |succ j=>
   obtain⟨acc',h'⟩:=ih (acc++[LL acc d]) j o (by simpa using h)
   grind
theorem XC{ops:Array Oper}{j:Nat}{o:Oper}(h:ops[j]? = some o){e:Edge}(he:e∈o.after.toList)(hb:Region.binds .any e=true):((Ez ops).getD j 0).testBit e.on=true:=by
 obtain⟨acc,h1⟩:=A50 ops.toList [] j o (by rw[Array.getElem?_toList];exact h)
 simp_all[Ez,SB]
theorem Eh{ops:Array Oper}{listed:Array Bool}(hc:M4 ops listed){j i:Nat}(h:((Ez ops).getD j 0).testBit i=true)(hj:BJ listed j):BJ listed i:=by
 have key:∀(r pre:List Oper) (acc:List Nat),ops.toList=pre++r->acc.length=pre.length->(∀j i,(acc.getD j 0).testBit i=true->BJ listed j->BJ listed i) ->
   ∀j i,((Hq r acc).getD j 0).testBit i=true->BJ listed j->BJ listed i:=by
  intro r
  induction r with
  |nil=>intro pre acc _ _ h;exact h
  |cons o r ih=>
   intro pre acc h1 h2 h3
   simp only[Hq]
   refine ih (pre++[o]) _ (by simp[h1]) (by simp[h2]) ?_
   intro j i hb hj
   by_cases hlt:j<acc.length
   .grind
   .by_cases he:j=acc.length
    .subst he
     have:(acc++[LL acc o]).getD acc.length 0=LL acc o:=by simp[List.getD_eq_getElem?_getD]
     rw[this]at hb
     obtain⟨e,h4,h5,h6⟩:=A4Z hb
     have ho:ops[acc.length]? = some o:=by
      rw[<- Array.getElem?_toList,h1,h2]
      simp
     have h7:=hc _ o ho hj e h4 h5
     grind
    grind
 exact key ops.toList [] [] rfl rfl (fun j i h=>by simp at h) j i h hj
def AaY(b:List Nat)(s:AE)(bef:List (Nat×Ay)):Prop:=
 ∀p,p∈bef->(b.getD p.1 0).testBit s.idx=false/\p.1≠s.idx /\
  ((b.getD s.idx 0).testBit p.1=false->LA p.2 s.o=true/\p.2.op.writer=false/\(s.o.op.writer=true->p.2.op.reader=true->p.2∈s.chk))
def M8(b:List Nat)(os:Nat->Option Ay):List AE->List (Nat×Ay)->Prop
 | [],_=>True
 |s::r,bef=>os s.idx=some s.o/\AaY b s bef/\M8 b os r ((s.idx,s.o)::bef)
theorem A51{b:List Nat}{os:Nat->Option Ay}:∀(ord:List Nat) (bef:List (Nat×Ay)) (ss:List AE),KQ b os ord bef=some ss->M8 b os ss bef/\ss.map (·.idx)=ord:=by
 intro ord
 induction ord with
 |nil=>intro bef ss h;simp only[KQ,Option.some.injEq]at h;subst h;exact⟨trivial,rfl⟩
 |cons i r ih=>
  intro bef ss h
  simp only[KQ]at h
  split at h
  .cases h
  .rename_i o ho
   cases hc:(bef.all (fun p=>!(b.getD p.1 0).testBit i&&p.1 != i)&&(bef.filter fun p=>!(b.getD i 0).testBit p.1).all (fun p=>LA p.2 o&&!p.2.op.writer))with
   |false=>rw[hc]at h;cases h
   |true=>
    rw[hc]at h
    simp only[cond_true]at h
    split at h
    .rename_i ss' hss
     cases h
     obtain⟨h1,h2⟩:=ih _ _ hss
     simp only[and_eq_true,List.all_eq_true]at hc
     refine⟨⟨ho,fun p hp=>?_,h1⟩,by simp[h2]⟩
     grind
    .cases h
theorem S1{b:List Nat}{os:Nat->Option Ay}:∀(ss:List AE) (bef:List (Nat×Ay)),M8 b os ss bef->∀(q:Nat) (s:AE),ss[q]? = some s->os s.idx=some s.o/\(∀(p:Nat) (s':AE),p<q->ss[p]? = some s'->AaY b s [(s'.idx,s'.o)])/\AaY b s bef:=by
 intro ss
 induction ss with
 |nil=>intro bef _ q s h;simp at h
 |cons d r ih=>
  intro bef h q s hs
  obtain⟨h1,h2,h3⟩:=h
  cases q with
  |zero=>
   grind
  |succ q=>
   obtain⟨h4,h5,h6⟩:=ih _ h3 q s (by simpa using hs)
   refine⟨h4,fun p s' hp hs'=>?_,fun p hp=>h6 p (List.mem_cons_of_mem _ hp)⟩
   cases p with
   |zero=>
    simp only[List.getElem?_cons_zero,Option.some.injEq]at hs'
    subst hs'
    intro p hp
    simp only[List.mem_singleton]at hp
    subst hp
    exact h6 _ List.mem_cons_self
   |succ p=>grind
theorem A2t:∀(ss:List AE),Jg ss=true->∀(p q:Nat) (s s':AE),p<q->ss[p]? = some s->ss[q]? = some s'->s.o.op.reader=true->s'.chk≠[] ->
  ∀(q2:Nat) (s2:AE),p<q2->ss[q2]? = some s2->(∀d,s2.o.dst=some d->d∉s.o.reads/\s.o.dst≠some d)/\∀d,s.o.dst=some d->d∉s.o.reads:=by
 intro ss
 induction ss with
 |nil=>intro _ p q s s' _ h;simp at h
 |cons c r ih=>
  intro hk p q s s' hpq hp hq hr hne q2 s2 hpq2 hq2
  simp only[Jg,and_eq_true]at hk
  cases p with
  |zero=>
   simp only[List.getElem?_cons_zero,Option.some.injEq]at hp
   subst hp
   obtain⟨q,rfl⟩:∃k,q=k+1:=⟨q-1,by omega⟩
   obtain⟨q2,rfl⟩:∃k,q2=k+1:=⟨q2-1,by omega⟩
   have hk1:=hk.1
   rw[hr]at hk1
   simp only[cond_true,and_eq_true,Bool.or_eq_true,List.all_eq_true]at hk1
   obtain⟨hown,hk1⟩:=hk1
   refine⟨fun d hd=>?_,fun d hd=>by rw[hd]at hown;simpa using hown⟩
   rcases hk1 with h|h
   .have:=h s2 (List.mem_of_getElem? (by simpa using hq2))
    grind
   grind[List.mem_of_getElem?]
  |succ p=>
   obtain⟨q,rfl⟩:∃k,q=k+1:=⟨q-1,by omega⟩
   obtain⟨q2,rfl⟩:∃k,q2=k+1:=⟨q2-1,by omega⟩
   exact ih hk.2 p q s s' (by omega) (by simpa using hp) (by simpa using hq) hr hne q2 s2 (by omega) (by simpa using hq2)
def Uc(H:E5)(s:AE)(x y:Fr×St):Prop:=
 (wanted x.1 s.o.g=true/\∃v,AX H s.o.op x.1 x.2=some (v,y.2)/\y.1=BD x.1 s.o.dst v/\Cu y.1 y.2 s.chk=true) \/
 (wanted x.1 s.o.g=false/\y=(BD x.1 s.o.dst AV.un,x.2))
theorem AeD{H:E5}:∀(ss:List AE) (F:Fr) (σ:St) (F':Fr) (σ':St),BX H ss F σ=some (F',σ') ->
  ∃tr:Nat->Fr×St,tr 0=(F,σ)/\tr ss.length=(F',σ')/\∀(p:Nat) (s:AE),ss[p]? = some s->Uc H s (tr p) (tr (p+1)):=by
 intro ss
 induction ss with
 |nil=>
  intro F σ F' σ' h
  simp only[BX,Option.some.injEq,Prod.mk.injEq]at h
  obtain⟨rfl,rfl⟩:=h
  exact⟨fun _=>(F,σ),rfl,rfl,fun p s h=>by simp at h⟩
 |cons s r ih=>
  intro F σ F' σ' h
  simp only[BX]at h
  have fin:∀F1 σ1,BX H r F1 σ1=some (F',σ')->Uc H s (F,σ) (F1,σ1) ->
    ∃tr:Nat->Fr×St,tr 0=(F,σ)/\tr (s::r).length=(F',σ')/\∀(p:Nat) (s':AE),(s::r)[p]? = some s'->Uc H s' (tr p) (tr (p+1)):=by
   intro F1 σ1 hr hs
   obtain⟨tr,h1,h2,h3⟩:=ih F1 σ1 F' σ' hr
   refine⟨fun n=>match n with|0=>(F,σ)|n+1=>tr n,rfl,h2,fun p s' hp=>?_⟩
   grind
  cases hw:wanted F s.o.g with
  |true=>
   rw[hw]at h
   simp only[cond_true]at h
   split at h
   .rename_i v σ1 hev
    cases hrc:Cu (BD F s.o.dst v) σ1 s.chk with
    |false=>rw[hrc]at h;cases h
    |true=>
     rw[hrc]at h
     exact fin _ _ h (.inl ⟨hw,v,hev,rfl,hrc⟩)
   .cases h
  |false=>
   rw[hw]at h
   exact fin _ _ h (.inr ⟨hw,rfl⟩)
mutual
theorem A2F:∀(a b:AV),AV.eqb a b=true->a=b
 |.b x,b,h=>by cases b<;>simp[AV.eqb]at h;rw[h]
 |.i k n,b,h=>by cases b<;>simp[AV.eqb]at h;rw[h.1,h.2]
 |.s x,b,h=>by
  cases b<;>simp[AV.eqb]at h
  rename_i y
  obtain⟨⟨xs⟩⟩:=x
  simp_all
 |.p o,b,h=>by cases b<;>simp[AV.eqb]at h;rw[h]
 |.sl o n,b,h=>by cases b<;>simp[AV.eqb]at h;rw[h.1,h.2]
 |.f g x y,b,h=>by
  cases b<;>simp[AV.eqb]at h
  rw[h.1.1,Mm _ _ h.1.2,Mm _ _ h.2]
 |.nf,b,h=>by cases b<;>simp[AV.eqb]at h;rfl
 |.ag x,b,h=>by cases b<;>simp[AV.eqb]at h;rw[Mm _ _ h]
 |.tu x,b,h=>by cases b<;>simp[AV.eqb]at h;rw[Mm _ _ h]
theorem Mm:∀(a b:List AV),AV.eqbL a b=true->a=b
 | [],b,h=>by cases b<;>simp[AV.eqbL]at h;rfl
 |x::xs,b,h=>by
  cases b<;>simp[AV.eqbL]at h
  rw[A2F _ _ h.1,Mm _ _ h.2]
end
theorem GG{H:E5}{op:Bl}(h:op.writer=false)(F:Fr)(σ:St):AX H op F σ=Ap op F σ:=by
 cases op<;>first|rfl|(simp[Bl.writer]at h)
theorem K2{op:Bl}(h:op.reader=true){F:Fr}{σ σ':St}{v:AV}(he:Ap op F σ=some (v,σ')):σ'=σ:=by
 cases op<;>first|(simp[Bl.reader]at h;done)|skip
 simp only[Ap]at he
 grind
def Hy(σ:St):Prop:=∀id,σ.next<=id->σ.get id=none
theorem GX{σ:St}(h:Hy σ)(ob:JQ):Hy (σ.new ob):=by
 intro id hid
 have:σ.next+1<=id:=by simpa[St.new]using hid
 rw[Br,if_neg (by omega)]
 exact h id (by omega)
theorem Tv{σ:St}(h:Hy σ)(ob:JQ){id off:Nat}{v:AV}(hl:σ.load1 id off=some v):(σ.new ob).load1 id off=some v:=by
 unfold St.load1 at hl ⊢
 have hne:id≠σ.next:=by
  rintro rfl
  rw[h _ (Nat.le_refl _)]at hl
  cases hl
 rw[Br,if_neg hne]
 exact hl
theorem A9X{σ:St}(h:Hy σ)(ob:JQ){id:Nat}:∀(n off:Nat) (vs:List AV),σ.loadN id off n=some vs->(σ.new ob).loadN id off n=some vs:=by
 intro n
 induction n with
 |zero=>intro off vs hl;exact hl
 |succ n ih=>
  grind[St.loadN,Tv]
theorem A5p{op:Bl}(h:op.reader=true){F:Fr}{σ:St}(hn:Hy σ)(ob:JQ){v:AV}(he:Ap op F σ=some (v,σ)):Ap op F (σ.new ob)=some (v,σ.new ob):=by
 cases op<;>first|(simp[Bl.reader]at h;done)|skip
 rename_i n x
 simp only[Ap]at he ⊢
 split at he
 .rename_i id off hv
  split at he
  .rename_i w hw
   simp only[Option.some.injEq,Prod.mk.injEq,and_true]at he
   subst he
   have:(σ.new ob).loadV n id off=some w:=by
    unfold St.loadV at hw ⊢
    grind[Tv,A9X]
   rw[this]
  .cases he
 .cases he
theorem Acs{σ0 σ:St}{ρ0 ρ:Re}{B:Nat}{W0 W:World}(hS:CU σ ρ B W)(h:Cx σ0 ρ0 W0 σ ρ W)(ob:JQ):Cx σ0 ρ0 W0 (σ.new ob) ρ W where
 ext:=h.ext
 nx:=by have:=h.nx;simp only[St.new];omega
 hs:=h.hs
 os:=h.os
 tape:=h.tape
 output:=h.output
 frame:=h.frame
 unre id h1 h2:=by
  have:=h.nx
  rw[Br,if_neg (by omega)]
  exact h.unre id h1 h2
 fresh id ob' rb h1 h2 h3 h4:=by
  rw[Br]at h2
  by_cases e:id=σ.next
  .subst e;rw[hS.dom _ (Nat.le_refl _)]at h4;cases h4
  .rw[if_neg e]at h2;exact h.fresh id ob' rb h1 h2 h3 h4
 old id ob' h1 h2:=by
  have:=h.nx
  rw[Br,if_neg (by omega)]at h2
  exact h.old id ob' h1 h2
theorem A9P{σ0 σ:St}{ρ0 ρ:Re}{W0 W:World}(h:Cx σ0 ρ0 W0 σ ρ W){id:Nat}(hid:σ0.next<=id)(cur:Array Value)(ty:Nat)(e:Option (Nat×Nat)):Cx σ0 ρ0 W0 σ (upd ρ id ⟨W.heap.size,0,e⟩) (W.alloc (.cells cur ty)) where
 ext j hj:=by rw[BY (by omega)];exact h.ext j hj
 nx:=h.nx
 hs:=by have:=h.hs;simp;omega
 os:=h.os
 tape:=h.tape
 output:=h.output
 frame k hk hn:=by
  rw[heap_alloc_old W _ (Nat.lt_of_lt_of_le hk h.hs)]
  exact h.frame k hk hn
 unre:=h.unre
 fresh j ob rb h1 h2 h3 h4:=by
  by_cases e:j=id
  .subst e
   rw[Cl]at h4
   cases h4
   exact .inl h.hs
  .rw[BY e]at h4
   exact h.fresh j ob rb h1 h2 h3 h4
 old:=h.old
structure M6(P:Program)(B:Nat)(X:World->Prop)(H:E5)(ops:Array Oper)(ss:List AE)(n:Nat)(tr:Nat->Fr×St):Prop where
 keep:T8 B X
 hH:JU P B X H
 ok:M8 (Ez ops) (fun i=>(ops[i]?).bind (Gu P ops)) ss []
 perm:∀i,i<ops.size->∃(p:Nat) (s:AE),ss[p]? = some s/\s.idx=i
 edges:∀(j:Nat) (o:Oper) (e:Edge),ops[j]? = some o->e∈o.after.toList->Region.binds .any e=true->e.on<ops.size
 kept:Jg ss=true
 irr:∀i,i<ops.size->((Ez ops).getD i 0).testBit i=false
 step:∀(p:Nat) (s:AE),ss[p]? = some s->Uc H s (tr p) (tr (p+1))
 dst:∀(p:Nat) (s:AE) (d:Nat),ss[p]? = some s->s.o.dst=some d->d<n
section
variable {P:Program}{B:Nat}{X:World->Prop}{H:E5}{ops:Array Oper}{ss:List AE}{n:Nat}{tr:Nat->Fr×St}
theorem M6.op(c:M6 P B X H ops ss n tr){p:Nat}{s:AE}(h:ss[p]? = some s):∃o g,ops[s.idx]? = some o/\Mo ops o.guard=some g/\s.o = { dst:=o.dst,g:=g,op:=Bf P o.op }:=by
 obtain⟨h1,_,_⟩:=S1 ss [] c.ok p s h
 grind[Gu]
theorem M6.pair(c:M6 P B X H ops ss n tr){p q:Nat}{s s':AE}(hpq:p<q)(hp:ss[p]? = some s)(hq:ss[q]? = some s') :
  ((Ez ops).getD s.idx 0).testBit s'.idx=false/\s.idx≠s'.idx/\(((Ez ops).getD s'.idx 0).testBit s.idx=false->LA s.o s'.o=true/\s.o.op.writer=false/\(s'.o.op.writer=true->s.o.op.reader=true->s.o∈s'.chk)):=by
 obtain⟨_,h2,_⟩:=S1 ss [] c.ok q s' hq
 have:=h2 p s hpq hp (s.idx,s.o) (by simp)
 exact this
theorem M6.uniq(c:M6 P B X H ops ss n tr){p q:Nat}{s s':AE}(hp:ss[p]? = some s)(hq:ss[q]? = some s')(he:s.idx=s'.idx):p=q:=by
 rcases Nat.lt_trichotomy p q with h|h|h
 .exact absurd he (c.pair h hp hq).2.1
 .exact h
 .exact absurd he.symm (c.pair h hq hp).2.1
theorem M6.fr_other(c:M6 P B X H ops ss n tr){p:Nat}{s:AE}(h:ss[p]? = some s){x:Nat}(hx:s.o.dst≠some x):Fr.tmp (tr (p+1)).1 x=Fr.tmp (tr p).1 x:=by
 have key:∀v,Fr.tmp (BD (tr p).1 s.o.dst v) x=Fr.tmp (tr p).1 x:=by
  intro v
  cases hd:s.o.dst with
  |none=>rfl
  |some d=>
   have:x≠d:=by rintro rfl;exact hx hd
   simp only[BD,Fr.tmp,Tm.get_set,if_neg this]
 rcases c.step p s h with ⟨_,v,_,h2,_⟩|⟨_,h2⟩
 .rw[h2];exact key v
 .rw[h2];exact key _
theorem A8P(F:Fr)(d:Nat)(v:AV):Fr.tmp (BD F (some d) v) d=v:=by simp[BD,Fr.tmp,Tm.get_set]
theorem Ls(F:Fr){d x:Nat}(h:x≠d)(v:AV):Fr.tmp (BD F (some d) v) x=Fr.tmp F x:=by simp[BD,Fr.tmp,Tm.get_set,h]
theorem M6.fr_keep(c:M6 P B X H ops ss n tr){x p:Nat}:∀(k:Nat),p+k<=ss.length->(∀(q:Nat) (s:AE),p<=q->q<p+k->ss[q]? = some s->s.o.dst≠some x)->Fr.tmp (tr (p+k)).1 x=Fr.tmp (tr p).1 x:=by
 intro k
 induction k with
 |zero=>intro _ _;rfl
 |succ k ih=>
  intro hl h
  have hlt:p+k<ss.length:=by omega
  rw[show p+(k+1)=p+k+1 by omega,c.fr_other (List.getElem?_eq_getElem hlt) (h _ _ (by omega) (by omega) (List.getElem?_eq_getElem hlt))]
  grind
theorem M6.nw(c:M6 P B X H ops ss n tr){p:Nat}{s:AE}(h:ss[p]? = some s)(hw:s.o.op.writer=false) :
  (tr (p+1)).2=(tr p).2\/∃ob mk,s.o.op.alloc=true/\wanted (tr p).1 s.o.g=true/\CN s.o.op (tr p).1=some (ob,mk)/\(tr (p+1)).2=(tr p).2.new ob:=by
 rcases c.step p s h with ⟨hwa,v,h1,h2,_⟩|⟨_,h2⟩
 .rw[GG hw]at h1
  cases hr:s.o.op.reader with
  |true=>exact .inl (K2 hr h1)
  |false=>
   cases ha:s.o.op.alloc with
   |false=>exact .inl (Tl hw hr ha h1).1
   |true=>
    rw[Jj ha]at h1
    obtain⟨⟨ob,mk⟩,h3,h4⟩:=map_some h1
    grind
 .left;rw[h2]
theorem A1x{F:Fr}{σ:St}:∀(l:List Ay),Cu F σ l=true->∀o,o∈l->wanted F o.g=true->∃v d,Ap o.op F σ=some v/\o.dst=some d/\v.1=Fr.tmp F d:=by
 intro l
 induction l with
 |nil=>intro _ o h;simp at h
 |cons c r ih=>
  intro h o ho hw
  simp only[Cu,and_eq_true]at h
  rcases List.mem_cons.1 ho with rfl|ho
  .have h1:=h.1
   rw[hw]at h1
   simp only[cond_true]at h1
   grind[A2F]
  .exact ih h.2 o ho hw
theorem M6.stable(c:M6 P B X H ops ss n tr){p:Nat}{sp:AE}(hp:ss[p]? = some sp)(hr:sp.o.op.reader=true)(hw:wanted (tr p).1 sp.o.g=true){v:AV}(hv:Ap sp.o.op (tr p).1 (tr p).2=some (v,(tr p).2)) :
  ∀(k:Nat),p+1+k<=ss.length->(∀q,p<=q->q<=p+1+k->Hy (tr q).2)->(∀(w:Nat) (sw:AE),p<w->w<p+1+k->ss[w]? = some sw->sw.o.op.writer=true->((Ez ops).getD sw.idx 0).testBit sp.idx=false) ->
   Ap sp.o.op (tr p).1 (tr (p+1+k)).2=some (v,(tr (p+1+k)).2):=by
 have hwr:sp.o.op.writer=false:=by
  cases ho:sp.o.op<;>rw[ho]at hr<;>first|rfl|(simp[Bl.reader]at hr)
 have hal:sp.o.op.alloc=false:=by
  cases ho:sp.o.op<;>rw[ho]at hr<;>first|rfl|(simp[Bl.reader]at hr)
 intro k
 induction k with
 |zero=>
  intro _ _ _
  rcases c.nw hp hwr with h|⟨ob,mk,h,_⟩
  .rw[Nat.add_zero,h];exact hv
  .rw[hal]at h;cases h
 |succ k ih=>
  intro hl hnd hun
  have ih':=ih (by omega) (fun q h1 h2=>hnd q h1 (by omega)) (fun w sw h1 h2=>hun w sw h1 (by omega))
  have hlt:p+1+k<ss.length:=by omega
  have hs:=List.getElem?_eq_getElem hlt
  generalize hsd:ss[p+1+k]=s at hs
  rw[show p+1+(k+1)=p+1+k+1 by omega]
  cases hww:s.o.op.writer with
  |false=>
   rcases c.nw hs hww with h|⟨ob,mk,_,_,_,h⟩
   .rw[h];exact ih'
   grind[A5p]
  |true=>
   have hu:=hun (p+1+k) s (by omega) (by omega) hs hww
   have hmem:=((c.pair (by omega) hp hs).2.2 hu).2.2 hww hr
   have hne:s.chk≠[]:=by intro e;rw[e]at hmem;simp at hmem
   have hk:=fun q2 s2 h1 h2=>A2t ss c.kept p (p+1+k) sp s (by omega) hp hs hr hne q2 s2 h1 h2
   rcases c.step _ s hs with ⟨_,v',h1,h2,h3⟩|⟨_,h2⟩
   ·-- it was looked at again
    have own:=(hk (p+1+k) s (by omega) hs).2
    have same:∀x,x∈sp.o.reads->Fr.tmp (tr (p+1+k+1)).1 x=Fr.tmp (tr p).1 x:=by
     intro x hx
     have h4:=c.fr_keep (x:=x) (p:=p) (k+2) (by omega) (fun q s2 h5 h6 h7 h8=>by
      grind)
     grind
    have hg:wanted (tr (p+1+k+1)).1 sp.o.g=true:=by
     grind[MR,Ay.reads]
    obtain⟨v2,d,h4,h5,h6⟩:=A1x _ h3 _ hmem hg
    have hcong:Ap sp.o.op (tr (p+1+k+1)).1 (tr (p+1+k+1)).2=Ap sp.o.op (tr p).1 (tr (p+1+k+1)).2:=A2G fun t ht=>same t (by grind[Ay.reads])
    have hval:Fr.tmp (tr (p+1+k+1)).1 d=v:=by
     have h7:=c.fr_keep (x:=d) (p:=p+1) (k+1) (by omega) (fun q s2 h8 h9 h10 h11=>((hk q s2 (by omega) h10).1 d h11).2 h5)
     rw[show p+1+k+1=p+1+(k+1) by omega,h7]
     rcases c.step p sp hp with ⟨_,v3,h12,h13,_⟩|⟨h12,_⟩
     .grind[A8P,GG]
     .rw[hw]at h12;cases h12
    grind[K2]
   .rw[h2];exact ih'
end
end Go.AM
namespace Go.AM
open Go
section
variable {P:Program}{B:Nat}{X:World->Prop}{H:E5}{ops:Array Oper}{ss:List AE}{n:Nat}{tr:Nat->Fr×St}
structure J0(B:Nat)(X:World->Prop)(ops:Array Oper)(ss:List AE)(tr:Nat->Fr×St)(ρ0:Re)(W0:World)(a0:Act)(listed:Array Bool)(a:Act)(W:World)(t:Nat)(ρ:Re)(G:Fr):Prop where
 tl:t<=ss.length
 lt:∀(p:Nat) (s:AE),ss[p]? = some s->BJ listed s.idx->p<t
 wd:∀(p:Nat) (s:AE),ss[p]? = some s->p<t->s.o.op.writer=true->BJ listed s.idx
 fr:FR ρ G a.tmps
 g1:∀(x q:Nat) (s:AE),ss[q]? = some s->BJ listed s.idx->s.o.dst=some x->(∀(q':Nat) (s':AE),ss[q']? = some s'->BJ listed s'.idx->q<q'->s'.o.dst≠some x)->Fr.tmp G x=Fr.tmp (tr (q+1)).1 x
 g0:∀(x:Nat),(∀(q:Nat) (s:AE),ss[q]? = some s->BJ listed s.idx->s.o.dst≠some x)->Fr.tmp G x=Fr.tmp (tr 0).1 x
 sim:CU (tr t).2 ρ B W
 goes:Cx (tr 0).2 ρ0 W0 (tr t).2 ρ W
 xw:X W
 nd:∀q,q<=t->Hy (tr q).2
 al:∀(p:Nat) (s:AE) (ob:JQ) (mk:Nat->AV),ss[p]? = some s->p<t->¬BJ listed s.idx->s.o.op.alloc=true->wanted (tr p).1 s.o.g=true->CN s.o.op (tr p).1=some (ob,mk) ->
  ρ (tr p).2.next=none/\(tr t).2.get (tr p).2.next=some ob/\(tr p).2.next<(tr t).2.next
 nxs:∀(p q:Nat),p<=q->q<=t->(tr p).2.next<=(tr q).2.next
 sz:a.tmps.size=a0.tmps.size
 df:a.defers=a0.defers
 lsz:listed.size=ops.size
 cl:M4 ops listed
structure J(B:Nat)(X:World->Prop)(ops:Array Oper)(ss:List AE)(tr:Nat->Fr×St)(ρ0:Re)(W0:World)(a0:Act)(listed:Array Bool)(a:Act)(W:World)(t:Nat)(ρ:Re)(G:Fr):Prop extends J0 B X ops ss tr ρ0 W0 a0 listed a W t ρ G where
 tw:∀s,ss[t]? = some s->s.o.op.writer=true/\¬BJ listed s.idx
theorem M6.adv(c:M6 P B X H ops ss n tr){ρ0:Re}{W0:World}{a0:Act}{listed:Array Bool}{a:Act}{W:World}{ρ:Re}{G:Fr}:∀(k t:Nat),ss.length-t=k->J0 B X ops ss tr ρ0 W0 a0 listed a W t ρ G->∃t',J B X ops ss tr ρ0 W0 a0 listed a W t' ρ G:=by
  intro k
  induction k with
  |zero=>
    intro t hk j
    refine⟨t,{ toJ0:=j,tw:=fun s hs=>?_ }⟩
    grind
  |succ k ih=>
    intro t hk j
    have hlt:t<ss.length:=by omega
    have hs:=List.getElem?_eq_getElem hlt
    generalize hsd:ss[t]=s at hs
    cases hw:s.o.op.writer with
    |true=>
      refine⟨t,{ toJ0:=j,tw:=fun s' hs'=>?_ }⟩
      rw[hs]at hs'
      cases hs'
      exact⟨hw,fun hd=>Nat.lt_irrefl _ (j.lt t s hs hd)⟩
    |false=>
      have hnot:¬BJ listed s.idx:=fun hd=>Nat.lt_irrefl _ (j.lt t s hs hd)
      refine ih (t+1) (by omega) ?_
      have common:∀(hsim:CU (tr (t+1)).2 ρ B W) (hgoes:Cx (tr 0).2 ρ0 W0 (tr (t+1)).2 ρ W) (hnx:(tr t).2.next<=(tr (t+1)).2.next)
          (hal:∀(p:Nat) (s:AE) (ob:JQ) (mk:Nat->AV),ss[p]? = some s->p<t+1->¬BJ listed s.idx->s.o.op.alloc=true->wanted (tr p).1 s.o.g=true->CN s.o.op (tr p).1=some (ob,mk)->ρ (tr p).2.next=none/\(tr (t+1)).2.get (tr p).2.next=some ob/\(tr p).2.next<(tr (t+1)).2.next),
          J0 B X ops ss tr ρ0 W0 a0 listed a W (t+1) ρ G:=by
        intro hsim hgoes hnx hal
        exact { tl := hlt, lt := fun p s' h1 h2 => Nat.lt_succ_of_lt (j.lt p s' h1 h2)
                wd:=fun p s' h1 h2 h3=>by
                  by_cases e:p=t
                  · grind
                  · exact j.wd p s' h1 (by omega) h3
                fr:=j.fr,g1:=j.g1,g0:=j.g0,sim:=hsim,goes:=hgoes,xw:=j.xw
                nd:=fun q hq=>by
                  by_cases e:q=t+1
                  · subst e;exact hsim.ndom
                  · exact j.nd q (by omega)
                al:=hal
                nxs:=fun p q h1 h2=>by
                  by_cases e:q=t+1
                  · subst e
                    by_cases e2:p=t+1
                    · subst e2;exact Nat.le_refl _
                    · exact Nat.le_trans (j.nxs p t (by omega) (Nat.le_refl _)) hnx
                  · exact j.nxs p q h1 (by omega)
                sz:=j.sz,df:=j.df,lsz:=j.lsz,cl:=j.cl }
      rcases c.nw hs hw with h|⟨ob,mk,ha,hwa,hav,h⟩
      · refine common (h ▸ j.sim) (h ▸ j.goes) (by rw [h]; exact Nat.le_refl _) ?_
        intro p s' ob mk h1 h2 h3 h4 h5 h6
        rw[h]
        by_cases e:p=t
        · subst e
          rw[hs]at h1
          cases h1
          exfalso
          rcases c.step p s hs with ⟨_,v,h7,_,_⟩|⟨h7,_⟩
          · rw [GG hw, Jj h4, h6] at h7
            simp only[Option.map_some,Option.some.injEq,Prod.mk.injEq]at h7
            have h8:=congrArg St.next h7.2
            grind[St.new]
          · rw[h5]at h7;cases h7
        · exact j.al p s' ob mk h1 (by omega) h3 h4 h5 h6
      · refine common (h ▸ Rt j.sim ob) (h ▸ Acs j.sim j.goes ob) (by rw [h]; simp [St.new]) ?_
        intro p s' ob' mk' h1 h2 h3 h4 h5 h6
        rw[h,Br]
        by_cases e:p=t
        · subst e
          rw[hs]at h1
          cases h1
          rw[hav]at h6
          cases h6
          exact⟨j.sim.dom _ (Nat.le_refl _),by rw[if_pos rfl],by simp[St.new]⟩
        · obtain ⟨h7, h8, h9⟩ := j.al p s' ob' mk' h1 (by omega) h3 h4 h5 h6
          refine⟨h7,?_,by simp only[St.new];omega⟩
          grind
theorem Cc{l:Array Bool}{i j:Nat}(hi:i<l.size):BJ (l.setIfInBounds i true) j↔j=i\/BJ l j:=by
 unfold BJ
 simp only[Array.getD_eq_getD_getElem?,Array.getElem?_setIfInBounds]
 grind
theorem P2(p:Nat->Prop):∀k,(∃q,q<k/\p q/\∀q',q<q'->q'<k->¬p q')\/∀q,q<k->¬p q:=by
 intro k
 induction k with
 |zero=>exact .inr fun q h=>by omega
 |succ k ih=>
  grind
theorem M6.ready(c:M6 P B X H ops ss n tr){listed:Array Bool}(hl:listed.size=ops.size)(hc:M4 ops listed){i:Nat}(hi:i∈Region.ready .any ops listed) :
  i<ops.size/\¬BJ listed i/\M4 ops (listed.setIfInBounds i true):=by
 unfold Region.ready at hi
 obtain⟨h1,h2⟩:=List.mem_filter.1 hi
 have hlt:i<ops.size:=List.mem_range.1 h1
 simp only[and_eq_true,not_eq_true']at h2
 refine⟨hlt,?_,?_⟩
 .grind[BJ]
 .intro j o ho hj e he hb
  rw[Cc (by omega)]at hj ⊢
  rcases hj with rfl|hj
  .rw[ho]at h2
   have h4:=h2.2
   simp only[Option.map_some,getD_some]at h4
   rw[<- Array.all_toList,List.all_eq_true]at h4
   grind[BJ]
  .exact .inr (hc j o ho hj e he hb)
theorem M6.g_read(c:M6 P B X H ops ss n tr){ρ0:Re}{W0:World}{a0:Act}{listed:Array Bool}{a:Act}{W:World}{t:Nat}{ρ:Re}{G:Fr}(j:J B X ops ss tr ρ0 W0 a0 listed a W t ρ G)
  {p:Nat} {s:AE} (hp:ss[p]? = some s) (hi:s.idx<ops.size) (hnd:¬BJ listed s.idx) (hcl:M4 ops (listed.setIfInBounds s.idx true)) {x:Nat} (hx:x∈s.o.reads):Fr.tmp G x=Fr.tmp (tr p).1 x:=by
 have hlp:=(List.getElem?_eq_some_iff.1 hp).1
 have hls:s.idx<listed.size:=by rw[j.lsz];exact hi
 have behind:∀(q:Nat) (s':AE),ss[q]? = some s'->BJ listed s'.idx->p<q->s'.o.dst≠some x:=by
  intro q s' hq hd hpq hdst
  obtain⟨_,_,h3⟩:=c.pair hpq hp hq
  cases hb:((Ez ops).getD s'.idx 0).testBit s.idx with
  |true=>exact hnd (Eh j.cl hb hd)
  |false=>
   simp_all[LA]
 rcases P2 (fun q=>∃s',ss[q]? = some s'/\s'.o.dst=some x) p with ⟨q,hqp,⟨s',hq,hdst⟩,hmax⟩|hnone
 .have hdone:BJ listed s'.idx:=by
   obtain⟨_,h2,h3⟩:=c.pair hqp hq hp
   cases hb:((Ez ops).getD s.idx 0).testBit s'.idx with
   |true=>
    have h4:BJ (listed.setIfInBounds s.idx true) s'.idx:=Eh hcl hb ((Cc hls).2 (.inl rfl))
    grind[Cc]
   |false=>
    simp_all[LA]
  rw[j.g1 x q s' hq hdone hdst (fun q' s2 h1 h2 h3=>by
   grind)]
  obtain⟨k,hk⟩:∃k,p=q+1+k:=⟨p-(q+1),by omega⟩
  subst hk
  exact(c.fr_keep (x:=x) (p:=q+1) k (by omega) (fun q' s2 h1 h2 h3 h4=>hmax q' (by omega) h2 ⟨s2,h3,h4⟩)).symm
 .rw[j.g0 x (fun q s' hq hd=>by
   grind)]
  have:=c.fr_keep (x:=x) (p:=0) p (by omega) (fun q' s2 h1 h2 h3 h4=>hnone q' (by omega) ⟨s2,h3,h4⟩)
  grind
theorem M6.g_step(c:M6 P B X H ops ss n tr){ρ0:Re}{W0:World}{a0:Act}{listed:Array Bool}{a:Act}{W:World}{t:Nat}{ρ:Re}{G:Fr}(j:J B X ops ss tr ρ0 W0 a0 listed a W t ρ G)
  {p:Nat} {s:AE} (hp:ss[p]? = some s) (hi:s.idx<ops.size) (hnd:¬BJ listed s.idx) {v:AV} (hv:(tr (p+1)).1=BD (tr p).1 s.o.dst v) :
  (∀(x q:Nat) (s':AE),ss[q]? = some s'->BJ (listed.setIfInBounds s.idx true) s'.idx->s'.o.dst=some x->(∀(q':Nat) (s2:AE),ss[q']? = some s2->BJ (listed.setIfInBounds s.idx true) s2.idx->q<q'->s2.o.dst≠some x)->Fr.tmp (BD G s.o.dst v) x=Fr.tmp (tr (q+1)).1 x) /\
  (∀(x:Nat),(∀(q:Nat) (s':AE),ss[q]? = some s'->BJ (listed.setIfInBounds s.idx true) s'.idx->s'.o.dst≠some x)->Fr.tmp (BD G s.o.dst v) x=Fr.tmp (tr 0).1 x):=by
 have hls:s.idx<listed.size:=by rw[j.lsz];exact hi
 constructor
 .intro x q s' hq hd hdst hmax
  by_cases e:q=p
  .grind[A8P]
  .have hd':BJ listed s'.idx:=by
    rcases(Cc hls).1 hd with h|h
    .exact absurd (c.uniq hq hp h) e
    .exact h
   have hne:s.o.dst≠some x:=by
    intro hsx
    rcases Nat.lt_or_gt_of_ne e with h|h
    .exact hmax p s hp ((Cc hls).2 (.inl rfl)) h hsx
    ·-- q is behind p and writes the same: then p is done
     obtain⟨_,_,h3⟩:=c.pair h hp hq
     cases hb:((Ez ops).getD s'.idx 0).testBit s.idx with
     |true=>exact hnd (Eh j.cl hb hd')
     |false=>
      simp_all[LA]
   have:Fr.tmp (BD G s.o.dst v) x=Fr.tmp G x:=by
    cases hsd:s.o.dst with
    |none=>rfl
    |some d=>exact Ls _ (by rintro rfl;exact hne hsd) _
   rw[this]
   exact j.g1 x q s' hq hd' hdst (fun q' s2 h1 h2 h3=>hmax q' s2 h1 ((Cc hls).2 (.inr h2)) h3)
 .intro x hx
  have hne:s.o.dst≠some x:=hx p s hp ((Cc hls).2 (.inl rfl))
  have:Fr.tmp (BD G s.o.dst v) x=Fr.tmp G x:=by
   cases hsd:s.o.dst with
   |none=>rfl
   |some d=>exact Ls _ (by rintro rfl;exact hne hsd) _
  rw[this]
  exact j.g0 x (fun q s' h1 h2=>hx q s' h1 ((Cc hls).2 (.inr h2)))
theorem M6.one(c:M6 P B X H ops ss n tr){ρ0:Re}{W0:World}{a0:Act}{listed:Array Bool}{a:Act}{W:World}{t:Nat}{ρ:Re}{G:Fr}(hn:n<=a0.tmps.size)(j:J B X ops ss tr ρ0 W0 a0 listed a W t ρ G)
    {i:Nat} (hi:i∈Region.ready .any ops listed) {K:Act->World->Prop} {Q:Exit->Act->World->Prop}
    (hK:∀a' W' t' ρ' G',J B X ops ss tr ρ0 W0 a0 (listed.setIfInBounds i true) a' W' t' ρ' G'->K a' W'):wpOp P ops Q i K a W:=by
  obtain⟨hlt,hnd,hcl⟩:=c.ready j.lsz j.cl hi
  obtain⟨p,s,hp,rfl⟩:=c.perm i hlt
  obtain⟨o,g,ho,hg,hso⟩:=c.op hp
  have hls:s.idx<listed.size:=by rw[j.lsz];exact hlt
  have hlp:=(List.getElem?_eq_some_iff.1 hp).1
  have hdn:∀k,o.dst=some k->k<n:=fun k hk=>c.dst p s k hp (by rw[hso];exact hk)
  have hna:n<=a.tmps.size:=by rw[j.sz];exact hn
  have hread:∀x,x∈s.o.reads->Fr.tmp G x=Fr.tmp (tr p).1 x:=fun x hx=>c.g_read j hp hlt hnd hcl hx
  have hwant:Region.wanted o (yielded ops a.tmps)=wanted (tr p).1 s.o.g:=by
    rw[U4 hg j.fr,hso]
    grind[MR,Ay.reads]
  have hcong:∀σ,AX H s.o.op G σ=AX H s.o.op (tr p).1 σ:=fun σ=>Mn fun t ht=>hread t (by grind[Ay.reads])
  have hop:s.o.op=Bf P o.op:=by rw[hso]
  have hdst:s.o.dst=o.dst:=by rw[hso]
  have hclosed:∀(q:Nat) (s':AE),ss[q]? = some s'->((Ez ops).getD s.idx 0).testBit s'.idx=true->s'.idx≠s.idx->BJ listed s'.idx:=by
    intro q s' hq hb hne
    have:=Eh hcl hb ((Cc hls).2 (.inl rfl))
    grind[Cc]
  have hple:p<=t:=by
    rcases Nat.lt_or_ge t p with h|h
    · exfalso
      have htl:t<ss.length:=by omega
      have hst:=List.getElem?_eq_getElem htl
      obtain⟨hw,hnt⟩:=j.tw _ hst
      obtain⟨_,h2,h3⟩:=c.pair h hst hp
      grind
    · exact h
  have ltdone:∀(q:Nat) (s':AE),ss[q]? = some s'->BJ (listed.setIfInBounds s.idx true) s'.idx->q=p\/q<t:=by
    intro q s' hq hd
    rcases(Cc hls).1 hd with h|h
    · exact .inl (c.uniq hq hp h)
    · exact .inr (j.lt q s' hq h)
  unfold wpOp
  rw[ho]
  simp only
  rw[hwant]
  cases hwr:s.o.op.writer with
  |true=>
    have hpt:p=t:=by
      rcases Nat.lt_or_ge p t with h|h
      · exact absurd (j.wd p s hp h hwr) hnd
      · omega
    subst hpt
    have next:∀(v:AV) (u:Value) (ρ':Re) (W':World),(tr (p+1)).1=BD (tr p).1 s.o.dst v->Cm ρ' v u->CU (tr (p+1)).2 ρ' B W'->Cx (tr p).2 ρ W (tr (p+1)).2 ρ' W'->K (a.put o.dst u) W':=by
      intro v u ρ' W' hv hr hS hG
      obtain⟨hg1,hg0⟩:=c.g_step j hp hlt hnd hv
      have hle:=j.sim.le hG
      have j0:J0 B X ops ss tr ρ0 W0 a0 (listed.setIfInBounds s.idx true) (a.put o.dst u) W' (p+1) ρ' (BD G s.o.dst v):=
        { tl := hlp
          lt:=fun q s' h1 h2=>by grind
          wd:=fun q s' h1 h2 h3=>(Cc hls).2 (by
            by_cases e:q=p
            · grind
            · exact .inr (j.wd q s' h1 (by omega) h3))
          fr:=by rw[hdst];exact FR.put (j.fr.mono hle) hna hdn hr
          g1:=hg1
          g0:=hg0
          sim:=hS
          goes:=j.goes.trans hG
          xw:=c.keep W W' (hG.below j.sim) j.xw
          nd:=fun q hq=>by
            by_cases e:q=p+1
            · subst e;exact hS.ndom
            · exact j.nd q (by omega)
          al:=fun q s' ob mk h1 h2 h3 h4 h5 h6=>by
            have hqp:q≠p:=by
              rintro rfl
              rw[hp]at h1
              cases h1
              exact h3 ((Cc hls).2 (.inl rfl))
            obtain⟨h7,h8,h9⟩:=j.al q s' ob mk h1 (by omega) (fun h=>h3 ((Cc hls).2 (.inr h))) h4 h5 h6
            exact⟨(hG.ext _ h9).trans h7,(hG.unre _ h9 h7).trans h8,Nat.lt_of_lt_of_le h9 hG.nx⟩
          nxs:=fun q r h1 h2=>by
            by_cases e:r=p+1
            · subst e
              by_cases e2:q=p+1
              · subst e2;exact Nat.le_refl _
              · exact Nat.le_trans (j.nxs q p (by omega) (Nat.le_refl _)) hG.nx
            · exact j.nxs q r h1 (by omega)
          sz:=by rw[HT];exact j.sz
          df:=by rw[Ju];exact j.df
          lsz:=by simp[j.lsz]
          cl:=hcl }
      obtain⟨t',j'⟩:=c.adv _ _ rfl j0
      exact hK _ _ _ _ _ j'
    rcases c.step p s hp with ⟨h1,v,h2,h3,_⟩|⟨h1,h2⟩
    · rw [h1]
      simp only[if_true]
      rw[<- hcong]at h2
      exact .inl (LU c.hH hop j.sim j.xw j.fr h2 fun u ρ' W' h4 h5 h6=>next v u ρ' W' h3 h6 h4 h5)
    · rw [h1]
      simp only[false_eq_true,if_false]
      have h3:(tr (p+1)).1=BD (tr p).1 s.o.dst AV.un:=by rw[h2]
      have h4:(tr (p+1)).2=(tr p).2:=by rw[h2]
      exact next AV.un undef ρ W h3 (RS _) (h4 ▸ j.sim) (by rw[h4];exact Cx.refl _ _ _ j.sim)
  |false=>
    have hpt:p<t:=by
      rcases Nat.lt_or_ge p t with h|h
      · exact h
      · have : p = t := by omega
        subst this
        rw[(j.tw s hp).1]at hwr
        cases hwr
    have same:∀(v:AV) (u:Value) (ρ':Re) (W':World),(tr (p+1)).1=BD (tr p).1 s.o.dst v->Cm ρ' v u->Le ρ ρ'->CU (tr t).2 ρ' B W'->Cx (tr 0).2 ρ0 W0 (tr t).2 ρ' W'->RowKit.Below B W W' ->
        (∀(q:Nat) (s':AE),ss[q]? = some s'->q≠p->ρ (tr q).2.next=none->q<t->s'.o.op.alloc=true->(tr q).2.next<(tr t).2.next->wanted (tr q).1 s'.o.g=true->(CN s'.o.op (tr q).1).isSome=true->ρ' (tr q).2.next=none)->K (a.put o.dst u) W':=by
      intro v u ρ' W' hv hr hle hS hG hbel hal
      obtain⟨hg1,hg0⟩:=c.g_step j hp hlt hnd hv
      have j':J B X ops ss tr ρ0 W0 a0 (listed.setIfInBounds s.idx true) (a.put o.dst u) W' t ρ' (BD G s.o.dst v):=
        { tl := j.tl
          lt:=fun q s' h1 h2=>by grind
          wd:=fun q s' h1 h2 h3=>(Cc hls).2 (.inr (j.wd q s' h1 h2 h3))
          fr:=by rw[hdst];exact FR.put (j.fr.mono hle) hna hdn hr
          g1:=hg1
          g0:=hg0
          sim:=hS
          goes:=hG
          xw:=c.keep W W' hbel j.xw
          nd:=j.nd
          al:=fun q s' ob mk h1 h2 h3 h4 h5 h6=>by
            have hqp:q≠p:=by
              rintro rfl
              rw[hp]at h1
              cases h1
              exact h3 ((Cc hls).2 (.inl rfl))
            obtain⟨h7,h8,h9⟩:=j.al q s' ob mk h1 h2 (fun h=>h3 ((Cc hls).2 (.inr h))) h4 h5 h6
            grind
          nxs:=j.nxs
          sz:=by rw[HT];exact j.sz
          df:=by rw[Ju];exact j.df
          lsz:=by simp[j.lsz]
          cl:=hcl
          tw:=fun s' h1=>by
            obtain⟨h2,h3⟩:=j.tw s' h1
            grind }
      exact hK _ _ _ _ _ j'
    rcases c.step p s hp with ⟨h1,v,h2,h3,_⟩|⟨h1,h2⟩
    · rw [h1]
      simp only[if_true]
      left
      have h2':Ap s.o.op (tr p).1 (tr p).2=some (v,(tr (p+1)).2):=by grind[GG]
      cases hal:s.o.op.alloc with
      |true=>
        have h2a:=h2'
        rw[Jj hal]at h2a
        obtain⟨⟨ob,mk⟩,h4,h5⟩:=map_some h2a
        simp only[Prod.mk.injEq]at h5
        obtain⟨h5,h6⟩:=h5
        obtain⟨h7,h8,h9⟩:=j.al p s ob mk hp hpt hnd hal h1 h4
        have h4':CN s.o.op G=some (ob,mk):=by
          grind[Uk,Ay.reads]
        have hgen:Bf? P o.op=some s.o.op:=by
          grind[Bf,Bl.alloc]
        obtain⟨cur,u,hrun,hrw,hlen,hcells,hrep⟩:=A9d j.fr hgen hal h4' W
        have hS:=A8B j.sim h9 h8 h7 hrw cur hlen hcells
        unfold Oper.wp
        rw[hrun]
        refine same v u _ _ h3 ?_ (A4t h7) hS (A9P j.goes (j.nxs 0 p (by omega) (by omega)) cur ob.ty _) ?_ ?_
        · grind[Cl]
        · exact(RowKit.Below.refl _ _).alloc j.sim.hB _
        · intro q s' hq hqp hnone hqt ha2 hlt2 hw2 hsome
          have hne:(tr q).2.next≠(tr p).2.next:=by
            have strict:∀(q:Nat) (s':AE),ss[q]? = some s'->q<t->s'.o.op.alloc=true->wanted (tr q).1 s'.o.g=true->(tr (q+1)).2.next=(tr q).2.next+1:=by
              intro q s' hq hqt ha2 hw2
              have hnw:s'.o.op.writer=false:=by
                cases he:s'.o.op<;>rw[he]at ha2<;>first|rfl|(simp[Bl.alloc]at ha2)
              rcases c.step q s' hq with ⟨_,v',h10,_,_⟩|⟨h10,_⟩
              · rw [GG hnw, Jj ha2] at h10
                obtain⟨⟨ob',mk'⟩,_,h12⟩:=map_some h10
                simp only[Prod.mk.injEq]at h12
                rw[<- h12.2]
                rfl
              · rw[hw2]at h10;cases h10
            rcases Nat.lt_or_gt_of_ne hqp with h|h
            · have h10 := strict q s' hq hqt ha2 hw2
              have:=j.nxs (q+1) p (by omega) (by omega)
              omega
            · have h10 := strict p s hp hpt hal h1
              have:=j.nxs (p+1) q (by omega) (by omega)
              omega
          grind[BY]
      |false=>
        have h4:Ap s.o.op (tr p).1 (tr t).2=some (v,(tr t).2):=by
          cases hrd:s.o.op.reader with
          |false=>exact(Tl hwr hrd hal h2').2 _
          |true=>
            have h5:=K2 hrd h2'
            rw[h5]at h2'
            obtain⟨k,rfl⟩:∃k,t=p+1+k:=⟨t-(p+1),by omega⟩
            refine c.stable hp hrd h1 h2' k j.tl (fun q _ h6=>j.nd q h6) (fun w sw h6 h7 h8 h9=>?_)
            cases hb:((Ez ops).getD sw.idx 0).testBit s.idx with
            |false=>rfl
            |true=>exact absurd (Eh j.cl hb (j.wd w sw h8 h7 h9)) hnd
        have h5:AX H s.o.op G (tr t).2=some (v,(tr t).2):=by
          grind[GG]
        refine LU c.hH hop j.sim j.xw j.fr h5 fun u ρ' W' h6 h7 h8=>?_
        refine same v u ρ' W' h3 h8 (j.sim.le h7) h6 (j.goes.trans h7) (h7.below j.sim) ?_
        intro q s' _ _ hnone _ _ hlt2 _ _
        rw[h7.ext _ hlt2]
        exact hnone
    · rw [h1]
      simp only[false_eq_true,if_false]
      refine same AV.un undef ρ W (by rw[h2]) (RS _) (Le.refl _) j.sim j.goes (RowKit.Below.refl _ _) ?_
      grind
def A0Y(ops:Array Oper)(listed:Array Bool):Nat:=((List.range ops.size).filter fun i=>!listed.getD i true).length
theorem A0Z{ops:Array Oper}{listed:Array Bool}{i:Nat}(hl:listed.size=ops.size)(hi:i<ops.size)(hn:¬BJ listed i):A0Y ops (listed.setIfInBounds i true)<A0Y ops listed:=by
 unfold A0Y
 have h1:∀j,(listed.setIfInBounds i true).getD j true=(if j=i then true else listed.getD j true):=by
  intro j
  simp only[Array.getD_eq_getD_getElem?,Array.getElem?_setIfInBounds]
  grind
 have h2:listed.getD i true=false:=by
  grind[BJ]
 have key:∀(l:List Nat),(l.filter fun j=>!(listed.setIfInBounds i true).getD j true).length<=(l.filter fun j=>!listed.getD j true).length/\(i∈l->(l.filter fun j=>!(listed.setIfInBounds i true).getD j true).length<(l.filter fun j=>!listed.getD j true).length):=by
  intro l
  induction l with
  |nil=>simp
  |cons d l ih=>
   grind
 exact(key _).2 (List.mem_range.2 hi)
theorem M6.all(c:M6 P B X H ops ss n tr){listed:Array Bool}(hl:listed.size=ops.size)(hr:Region.ready .any ops listed=[]):∀(p:Nat) (s:AE),ss[p]? = some s->BJ listed s.idx:=by
 intro p
 induction p using Nat.strongRecOn with
 |_ p ih=>
  intro s hp
  apply Classical.byContradiction
  intro hnd
  obtain⟨o,g,ho,_,_⟩:=c.op hp
  have hlt:s.idx<ops.size:=(Array.getElem?_eq_some_iff.1 ho).1
  have hmem:s.idx∈Region.ready .any ops listed:=by
   unfold Region.ready
   refine List.mem_filter.2 ⟨List.mem_range.2 hlt,?_⟩
   simp only[and_eq_true,not_eq_true',ho,Option.map_some,getD_some]
   refine⟨?_,?_⟩
   .grind[BJ]
   .rw[<- Array.all_toList,List.all_eq_true]
    intro e he
    cases hb:Region.binds .any e with
    |false=>rfl
    |true=>
     obtain⟨q,s',hq,hqe⟩:=c.perm e.on (c.edges _ o e ho he hb)
     have hd:=XC ho he hb
     rw[<- hqe]at hd
     rcases Nat.lt_trichotomy q p with h|h|h
     .grind[BJ]
     .subst h
      rw[hp]at hq
      cases hq
      rw[c.irr _ hlt]at hd
      cases hd
     .have:=(c.pair h hp hq).1
      rw[hd]at this
      cases this
  rw[hr]at hmem
  simp at hmem
theorem M6.any(c:M6 P B X H ops ss n tr){ρ0:Re}{W0:World}{a0:Act}(hn:n<=a0.tmps.size){Q:Exit->Act->World->Prop}
  (hQ:∀a W ρ,FR ρ (tr ss.length).1 a.tmps->CU (tr ss.length).2 ρ B W->Cx (tr 0).2 ρ0 W0 (tr ss.length).2 ρ W->a.tmps.size=a0.tmps.size->a.defers=a0.defers->Q .normal a W) :
  ∀(fuel:Nat) (listed:Array Bool) (a:Act) (W:World),A0Y ops listed<=fuel->(∃t ρ G,J B X ops ss tr ρ0 W0 a0 listed a W t ρ G)->wpAny P .any ops Q fuel listed a W:=by
 have fin:∀(listed:Array Bool) (a:Act) (W:World),(∃t ρ G,J B X ops ss tr ρ0 W0 a0 listed a W t ρ G)->Region.ready .any ops listed=[]->Q .normal a W:=by
  rintro listed a W ⟨t,ρ,G,j⟩ hr
  have hall:=c.all j.lsz hr
  have ht:t=ss.length:=by
   rcases Nat.lt_or_ge t ss.length with h|h
   .have hs:=List.getElem?_eq_getElem h
    exact absurd (hall t _ hs) (j.tw _ hs).2
   .have:=j.tl;omega
  subst ht
  refine hQ a W ρ (fun x=>?_) j.sim j.goes j.sz j.df
  have hG:Fr.tmp G x=Fr.tmp (tr ss.length).1 x:=by
   rcases P2 (fun q=>∃s',ss[q]? = some s'/\s'.o.dst=some x) ss.length with ⟨q,hqp,⟨s',hq,hdst⟩,hmax⟩|hnone
   .rw[j.g1 x q s' hq (hall q s' hq) hdst (fun q' s2 h1 h2 h3 h4=>hmax q' h3 (List.getElem?_eq_some_iff.1 h1).1 ⟨s2,h1,h4⟩)]
    obtain⟨k,hk⟩:∃k,ss.length=q+1+k:=⟨ss.length-(q+1),by omega⟩
    have:=c.fr_keep (x:=x) (p:=q+1) k (by omega) (fun q' s2 h1 h2 h3 h4=>hmax q' (by omega) (by omega) ⟨s2,h3,h4⟩)
    rw[hk]
    exact this.symm
   .rw[j.g0 x (fun q s' hq hd h5=>hnone q (List.getElem?_eq_some_iff.1 hq).1 ⟨s',hq,h5⟩)]
    have:=c.fr_keep (x:=x) (p:=0) ss.length (by omega) (fun q' s2 h1 h2 h3 h4=>hnone q' (by omega) ⟨s2,h3,h4⟩)
    grind
  rw[<- hG]
  exact j.fr x
 intro fuel
 induction fuel with
 |zero=>
  intro listed a W hf hj
  have hr:Region.ready .any ops listed=[]:=by
   obtain⟨t,ρ,G,j⟩:=hj
   cases he:Region.ready .any ops listed with
   |nil=>rfl
   |cons i r=>
    obtain⟨h1,h2,_⟩:=c.ready j.lsz j.cl (i:=i) (by rw[he];simp)
    have:=A0Z j.lsz h1 h2
    omega
  exact⟨hr,fin listed a W hj hr⟩
 |succ fuel ih=>
  intro listed a W hf hj
  refine⟨fun hr=>fin listed a W hj hr,fun i hi=>?_⟩
  obtain⟨t,ρ,G,j⟩:=hj
  obtain⟨h1,h2,_⟩:=c.ready j.lsz j.cl hi
  have:=A0Z j.lsz h1 h2
  exact c.one hn j hi fun a' W' t' ρ' G' j'=>ih _ a' W' (by omega) ⟨t',ρ',G',j'⟩
end
theorem A4e{P:Program}{ops:Array Oper}{ss:List AE}(h:PF P ops=some ss) :
  M8 (Ez ops) (fun i=>(ops[i]?).bind (Gu P ops)) ss []/\(∀i,i<ops.size->i∈ss.map (·.idx)/\((Ez ops).getD i 0).testBit i=false) /\
  (∀(j:Nat) (o:Oper) (e:Edge),ops[j]? = some o->e∈o.after.toList->Region.binds .any e=true->e.on<ops.size)/\Jg ss=true:=by
 unfold PF at h
 simp only at h
 generalize hord:Za _ _ _ _ _ _=ord at h
 cases hb:(Nat.beq ord.length ops.size&&(List.range ops.size).all (fun i=>ord.contains i&&!((Ez ops).getD i 0).testBit i)&&ops.toList.all (fun o=>o.after.toList.all fun e=>!Region.binds .any e||Nat.blt e.on ops.size))with
 |false=>rw[hb]at h;cases h
 |true=>
  rw[hb]at h
  simp only[cond_true]at h
  cases hss:KQ (Ez ops) (fun i=>(ops[i]?).bind (Gu P ops)) ord []with
  |none=>rw[hss]at h;cases h
  |some ss'=>
  rw[hss]at h
  simp only at h
  cases hk:Jg ss' with
  |false=>rw[hk]at h;cases h
  |true=>
   rw[hk]at h
   simp only[cond_true,Option.some.injEq]at h
   subst h
   obtain⟨h1,h2⟩:=A51 _ _ _ hss
   simp only[and_eq_true,List.all_eq_true]at hb
   refine⟨h1,fun i hi=>?_,fun j o e ho he hbi=>?_,hk⟩
   .grind
   grind[Nat.blt_eq]
theorem A2B{P:Program}{B:Nat}{X:World->Prop}(hm:P.follows .mixedOrders=true)(hX:T8 B X):MT P B X:=by
  intro H hH id ops ss n F σ F' σ' ρ W a hg hr hd hn hF hS hXW
  obtain⟨hok,hperm,hedges,hkept⟩:=A4e hg
  obtain⟨tr,h0,h1,hstep⟩:=AeD ss F σ F' σ' hr
  have c:M6 P B X H ops ss n tr:=
    { keep := hX, hH := hH, ok := hok
      perm:=fun i hi=>by
        grind[List.mem_iff_getElem?]
      edges:=hedges,kept:=hkept,irr:=fun i hi=>(hperm i hi).2,step:=hstep
      dst:=fun p s d hp hsd=>by
        grind[Tk,Nat.blt_eq] }
  have hS':CU σ ρ B { W with drawn:=W.drawn+1 }:=⟨fun id ob rb h1 h2=>by
      have:=hS.live id ob rb h1 h2
      exact⟨this.cells,this.own,this.ro⟩,hS.dom,hS.ndom,hS.excl,hS.hB⟩
  have hg0:Cx σ ρ W σ ρ { W with drawn:=W.drawn+1 }:=
    { ext:=fun _ _=>rfl,nx:=Nat.le_refl _,hs:=Nat.le_refl _,os:=rfl,tape:=rfl,output:=rfl,frame:=fun _ _ _=>rfl,unre:=fun _ _ _=>rfl,
      fresh:=fun id ob rb h1 h2 _ _=>by rw[hS.ndom id h1]at h2;cases h2
      old:=fun id ob h1 h2=>⟨ob,h2,rfl⟩ }
  have hX':X { W with drawn:=W.drawn+1 }:=hX W _ (hg0.below hS) hXW
  have nd:∀i,¬BJ (Array.replicate ops.size false) i:=by
    intro i
    unfold BJ
    simp only[Array.getD_eq_getD_getElem?,Array.getElem?_replicate]
    split<;>simp
  have j0:J0 B X ops ss tr ρ { W with drawn:=W.drawn+1 } a (Array.replicate ops.size false) a { W with drawn:=W.drawn+1 } 0 ρ F:=
    { tl := Nat.zero_le _, lt := fun p s _ h => absurd h (nd _), wd := fun p s _ h => by omega, fr := hF
      g1:=fun x q s _ h=>absurd h (nd _),g0:=fun x _=>by rw[h0]
      sim:=by rw[h0];exact hS'
      goes:=by rw[h0];exact Cx.refl _ _ _ hS'
      xw:=hX'
      nd:=fun q hq=>by
        have:q=0:=by omega
        subst this
        rw[h0]
        exact hS.ndom
      al:=fun p s ob mk _ h=>by omega
      nxs:=fun p q h1 h2=>by
        grind
      sz:=rfl,df:=rfl,lsz:=by simp
      cl:=fun j o _ h=>absurd h (nd _) }
  obtain⟨t,j⟩:=c.adv _ 0 rfl j0
  refine wp_region_any hm (c.any hn (ρ0:=ρ) (W0:={ W with drawn:=W.drawn+1 }) (a0:=a) ?_ ops.size _ a _ ?_ ⟨t,ρ,F,j⟩)
  · intro a' W' ρ' h2 h3 h4 h5 h6
    rw[h1]at h2 h3 h4
    rw[h0]at h4
    exact⟨ρ',rfl,h2,h3,hg0.trans h4,h5,h6⟩
  grind[A0Y]
end Go.AM
