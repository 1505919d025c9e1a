/-
  Own work, part of the proof of these laws: the machine and its soundness (second part).
-/
import Derived.Test.YthhlhddnndlhkaaGreatDoorAmA
set_option maxRecDepth 10000
set_option maxHeartbeats 64000000
set_option linter.unusedVariables false
set_option linter.unusedSimpArgs false
set_option linter.unusedSectionVars false
set_option linter.unnecessarySimpa false
open Bool (and_eq_true false_eq_true not_eq_true')
open Option (bind_eq_some_iff bind_eq_bind pure_def getD_some bind_some)
namespace Go.AM
open Go
section
variable {P:Program} {o:Oper} {a:Act} {σ σ':St} {ρ:Re} {B:Nat} {W:World} {F:Fr} {v:AV}
theorem map_some {α β:Type} {f:α->β} {x:Option α} {y:β} (h:x.map f=some y):∃ z,x=some z/\f z=y:=Option.map_eq_some_iff.1 h
theorem AbH (hS:Dm σ ρ B W) (hF:FR ρ F a.tmps) {c:Call} (hop:o.op = .call c) {op:By} (hg:Bt? P (.call c)=some op) (h:Av op F σ=some (v,σ')):BQ P o a σ ρ B W v σ':=by
 obtain ⟨callee,args,argTypes⟩:=c
 cases callee with
 | value f =>
  simp only [Bt?,bind_eq_bind,bind_eq_some_iff,pure_def,Option.some.injEq] at hg
  obtain ⟨f',hf,as,has,rfl⟩:=hg
  simp only [Av] at h
  cases h
 | invoke r m=>simp only [Bt?] at hg;cases hg
 | builtin b =>
  cases b<;>simp only [Bt?] at hg<;>try (cases hg;done)
  ·-- append
   split at hg
   .rename_i x y t t' hx ht
    have e1:args = #[x,y]:=by apply Array.ext';simpa using hx
    have e2:argTypes = #[t,t']:=by apply Array.ext';simpa using ht
    subst e1 e2
    simp only [bind_eq_bind,pure_def] at hg
    split at hg
    .cases hg
    .rename_i hne
     have htt:t=t':=Decidable.not_not.1 hne
     subst htt
     split at hg
     .rename_i e hte
      simp only [bind_eq_some_iff] at hg
      obtain ⟨s,hs,z,hz,b,hb,hg⟩:=hg
      split at hg
      .simp at hg
      .rename_i hcond
       simp only [not_or] at hcond
       simp only [bind_some,bind_eq_some_iff,Option.some.injEq] at hg
       obtain ⟨x',hx',y',hy',rfl⟩:=hg
       exact AnD hS hF hop rfl rfl rfl hte hz hs hb hcond.1 (Decidable.not_not.1 hcond.2.1) hcond.2.2 hx' hy' h
     .cases hg
   .cases hg
  ·-- copy
   split at hg
   .rename_i x y t t' hx ht
    have e1:args = #[x,y]:=by apply Array.ext';simpa using hx
    have e2:argTypes = #[t,t']:=by apply Array.ext';simpa using ht
    subst e1 e2
    simp only [bind_eq_bind,pure_def] at hg
    split at hg
    .cases hg
    .rename_i hne
     have htt:t=t':=Decidable.not_not.1 hne
     subst htt
     split at hg
     .rename_i e hte
      simp only [bind_eq_some_iff,Option.some.injEq] at hg
      obtain ⟨s,hs,x',hx',y',hy',rfl⟩:=hg
      exact AnH hS hF hop rfl rfl rfl hte hs hx' hy' h
     .cases hg
   .cases hg
  ·-- len
   split at hg
   .rename_i x t hx ht
    have e1:args = #[x]:=by apply Array.ext';simpa using hx
    have e2:argTypes = #[t]:=by apply Array.ext';simpa using ht
    subst e1 e2
    split at hg
    .rename_i hte
     simp only [bind_eq_bind,pure_def,bind_eq_some_iff,Option.some.injEq] at hg
     obtain ⟨x',hx',rfl⟩:=hg
     exact Ahb hS hF hop rfl rfl rfl (str:=true) (by simpa using hte) hx' h
    .rename_i e hte
     simp only [bind_eq_bind,pure_def,bind_eq_some_iff,Option.some.injEq] at hg
     obtain ⟨x',hx',rfl⟩:=hg
     exact Ahb hS hF hop rfl rfl rfl (str:=false) (by simpa using ⟨e,hte⟩) hx' h
    .cases hg
   .cases hg
  ·-- max
   split at hg
   .rename_i x y hx
    have e1:args = #[x,y]:=by apply Array.ext';simpa using hx
    subst e1
    simp only [bind_eq_bind,pure_def,bind_eq_some_iff,Option.some.injEq] at hg
    obtain ⟨x',hx',y',hy',rfl⟩:=hg
    exact Ahc hS hF hop (mx:=true) rfl rfl hx' hy' h
   .cases hg
  ·-- min
   split at hg
   .rename_i x y hx
    have e1:args = #[x,y]:=by apply Array.ext';simpa using hx
    subst e1
    simp only [bind_eq_bind,pure_def,bind_eq_some_iff,Option.some.injEq] at hg
    obtain ⟨x',hx',y',hy',rfl⟩:=hg
    exact Ahc hS hF hop (mx:=false) rfl rfl hx' hy' h
   .cases hg
theorem Ahd (hS:Dm σ ρ B W) (hF:FR ρ F a.tmps) {op:By} (hg:Bt? P o.op=some op) (h:Av op F σ=some (v,σ')):BQ P o a σ ρ B W v σ':=by
 cases hop:o.op with
 | call c=>rw [hop] at hg;exact AbH hS hF hop hg h
 | move x =>
  rw [hop] at hg
  obtain ⟨y,hy,rfl⟩:=map_some hg
  simp only [Av,Option.some.injEq,Prod.mk.injEq] at h
  obtain ⟨rfl,rfl⟩:=h
  exact Ad6 hS hF (.inl hop) hy
 | assign x =>
  rw [hop] at hg
  obtain ⟨y,hy,rfl⟩:=map_some hg
  simp only [Av,Option.some.injEq,Prod.mk.injEq] at h
  obtain ⟨rfl,rfl⟩:=h
  exact Ad6 hS hF (.inr hop) hy
 | pick c x y =>
  rw [hop] at hg
  simp only [Bt?,bind_eq_bind,bind_eq_some_iff,pure_def,Option.some.injEq] at hg
  obtain ⟨c',hc,x',hx,y',hy,rfl⟩:=hg
  exact AjJ hS hF hop hc hx hy h
 | alloc e =>
  rw [hop] at hg
  simp only [Bt?,bind_eq_bind,bind_eq_some_iff,pure_def] at hg
  obtain ⟨z,hz,hg⟩:=hg
  split at hg
  .rename_i w
   cases hg
   refine A8O hS hop hz (y:=.c w) ?_ h
   have:w.cell=true:=by
    obtain ⟨_,_,_,_,_,_,hm⟩:=CM hz
    have:=CB _ _ hm
    simpa using this
   simp only [Fr.ev]
   cases w<;>first | rfl | (simp [AV.cell] at this)
  .cases hg
   exact A8O hS hop hz (y:=.c (.ag z)) rfl h
 | box e x =>
  rw [hop] at hg
  simp only [Bt?,bind_eq_bind,bind_eq_some_iff,pure_def,Option.some.injEq] at hg
  obtain ⟨n,hn,y,hy,rfl⟩:=hg
  exact AnF hS hF hop hy h
 | build t parts =>
  rw [hop] at hg
  simp only [Bt?,bind_eq_bind,bind_eq_some_iff,pure_def] at hg
  obtain ⟨z,hz,hg⟩:=hg
  split at hg
  .rename_i fields ht
   split at hg
   .simp at hg
   .rename_i hfs
    simp only [bind_some,bind_eq_some_iff,Option.some.injEq] at hg
    obtain ⟨ps,hps,rfl⟩:=hg
    exact Aha hS hF hop hz ht (by simpa using hfs) hps h
  .rename_i len e ht
   simp only [bind_eq_some_iff,Option.some.injEq] at hg
   obtain ⟨s,hs,ps,hps,rfl⟩:=hg
   exact AeE hS hF hop hz ht hs hps h
  .cases hg
 | buildSlice t len parts =>
  rw [hop] at hg
  simp only [Bt?,bind_eq_bind,pure_def] at hg
  split at hg
  .rename_i e ht
   simp only [bind_eq_some_iff] at hg
   obtain ⟨s,hs,z,hz,hg⟩:=hg
   split at hg
   .simp at hg
   .rename_i hcond
    simp only [not_or] at hcond
    simp only [bind_some,bind_eq_some_iff,Option.some.injEq] at hg
    obtain ⟨ps,hps,rfl⟩:=hg
    exact AnG hS hF hop hz ht hs hcond.1 (Decidable.not_not.1 hcond.2.1) (by omega) hps h
  .cases hg
 | load t x =>
  rw [hop] at hg
  simp only [Bt?,bind_eq_bind,bind_eq_some_iff,pure_def,Option.some.injEq] at hg
  obtain ⟨n,hn,y,hy,rfl⟩:=hg
  exact ArJ hS hF hop hn hy h
 | store t x z =>
  rw [hop] at hg
  simp only [Bt?,bind_eq_bind,bind_eq_some_iff,pure_def,Option.some.injEq] at hg
  obtain ⟨n,hn,y,hy,w,hw,rfl⟩:=hg
  exact ArK hS hF hop hn hy hw h
 | nilCheck x =>
  rw [hop] at hg
  simp only [Bt?,bind_eq_bind,bind_eq_some_iff,pure_def,Option.some.injEq] at hg
  obtain ⟨y,hy,rfl⟩:=hg
  exact AjI hS hF hop hy h
 | binOp op t x y yt =>
  rw [hop] at hg
  simp only [Bt?,bind_eq_bind,bind_eq_some_iff,pure_def,Option.some.injEq] at hg
  obtain ⟨x',hx,y',hy,rfl⟩:=hg
  exact AnE hS hF hop hx hy h
 | unOp u t x =>
  rw [hop] at hg
  cases u<;>simp only [Bt?] at hg<;>try (cases hg;done)
  all_goals
   obtain ⟨y,hy,rfl⟩:=map_some hg
   first | exact AnN hS hF hop hy h | exact AnM hS hF hop hy h
 | convert s d x =>
  rw [hop] at hg
  simp only [Bt?,bind_eq_bind,pure_def] at hg
  split at hg
  .simp at hg
  .rename_i hs
   split at hg
   .rename_i k hd
    simp only [bind_eq_some_iff,Option.some.injEq] at hg
    obtain ⟨y,hy,rfl⟩:=hg
    exact AjH hS hF hop (by cases hu:P.underlying s with
     | none=>rw [hu] at hs;exact absurd rfl hs
     | some d=>rfl) hd hy h
   .cases hg
 | makeFunc fn x y =>
  rw [hop] at hg
  cases fn<;>simp only [Bt?] at hg<;>try (cases hg;done)
  simp only [bind_eq_bind,bind_eq_some_iff,pure_def,Option.some.injEq] at hg
  obtain ⟨x',hx,y',hy,rfl⟩:=hg
  exact AnK hS hF hop hx hy h
 | makeSlice t l c =>
  rw [hop] at hg
  simp only [Bt?,bind_eq_bind,pure_def] at hg
  split at hg
  .rename_i e ht
   simp only [bind_eq_some_iff] at hg
   obtain ⟨s,hs,z,hz,b,hb,hg⟩:=hg
   split at hg
   .simp at hg
   .rename_i hcond
    simp only [not_or] at hcond
    simp only [bind_some,bind_eq_some_iff,Option.some.injEq] at hg
    obtain ⟨l',hl,c',hc,rfl⟩:=hg
    exact AnL hS hF hop hz ht hs hb hcond.1 (Decidable.not_not.1 hcond.2.1) hcond.2.2 hl hc h
  .cases hg
 | slice t x lo hi mx =>
  rw [hop] at hg
  cases mx with
  | some m=>simp only [Bt?] at hg;cases hg
  | none =>
   simp only [Bt?,bind_eq_bind,pure_def] at hg
   split at hg
   .rename_i ht
    simp only [bind_eq_some_iff,Option.some.injEq] at hg
    obtain ⟨x',hx,lo',hlo,hi',hhi,rfl⟩:=hg
    simp only [Av] at h
    split at h
    .rename_i w hw
     cases h
     generalize hv:Fr.ev F x' = xv at hw
     cases xv<;>try (simp only [EK] at hw;cases hw;done)
     .exact AjL hS hF hop ht hx hlo hhi hv hw
    .cases h
   .rename_i e ht
    simp only [bind_eq_some_iff] at hg
    obtain ⟨s,hs,hg⟩:=hg
    split at hg
    .simp at hg
    .rename_i hs0
     simp only [bind_some,bind_eq_some_iff,Option.some.injEq] at hg
     obtain ⟨x',hx,lo',hlo,hi',hhi,rfl⟩:=hg
     simp only [Av] at h
     split at h
     .rename_i w hw
      cases h
      generalize hv:Fr.ev F x' = xv at hw
      cases xv<;>try (simp only [EK] at hw;cases hw;done)
      .have:Nat.beq s 0=false:=by
        cases hb:Nat.beq s 0 with
        | true=>exact absurd (Nat.eq_of_beq_eq_true hb) hs0
        | false=>rfl
       simp [EK,this] at hw
      .exact AjK hS hF hop ht hs hs0 hx hlo hhi hv hw
     .cases h
   .cases hg
 | fieldAddr s x f =>
  rw [hop] at hg
  simp only [Bt?,bind_eq_bind,pure_def] at hg
  split at hg
  .rename_i fields hs
   simp only [bind_eq_some_iff] at hg
   obtain ⟨fd,hfd,n,hn,hg⟩:=hg
   split at hg
   .simp at hg
   .rename_i hn0
    simp only [bind_some,bind_eq_some_iff,Option.some.injEq] at hg
    obtain ⟨y,hy,rfl⟩:=hg
    exact ArG hS hF hop hs hfd hn hn0 hy h
  .cases hg
 | indexAddr t x ix =>
  rw [hop] at hg
  simp only [Bt?,bind_eq_bind,pure_def] at hg
  split at hg
  .rename_i e ht
   simp only [bind_eq_some_iff,Option.some.injEq] at hg
   obtain ⟨s,hs,x',hx,ix',hix,rfl⟩:=hg
   exact ArH hS hF hop ht hs hx hix h
  .rename_i n e ht
   simp only [bind_eq_some_iff,Option.some.injEq] at hg
   obtain ⟨s,hs,x',hx,ix',hix,rfl⟩:=hg
   exact AnJ hS hF hop ht hs hx hix h
  .cases hg
 | index t x ix =>
  rw [hop] at hg
  simp only [Bt?,bind_eq_bind,pure_def] at hg
  split at hg
  .rename_i ht
   simp only [bind_eq_some_iff,Option.some.injEq] at hg
   obtain ⟨x',hx,ix',hix,rfl⟩:=hg
   exact ArI hS hF hop ht hx hix h
  .cases hg
 | extract x i =>
  rw [hop] at hg
  simp only [Bt?,bind_eq_bind,bind_eq_some_iff,pure_def,Option.some.injEq] at hg
  obtain ⟨x',hx,rfl⟩:=hg
  exact AnI hS hF hop hx h
 | _=>rw [hop] at hg;simp only [Bt?] at hg;cases hg
end
def Aj9 (P:Program) (B:Nat) (g:Nat) (σ:St) (ρ:Re) (vals:List Value) (W:World) (v:AV) (σ':St):Prop :=
 (∃ fn, P.funcs[g]? = some fn ∧ fn.body.isSome = true ∧ (fn.name == "runtime.NumGoroutine") = false) ∧
 Calls P g vals.toArray W fun e W'=>∃ u ρ',e = .returned u/\Dm σ' ρ' B W'/\CX σ ρ W σ' ρ' W'/\CJ ρ' v u
def M2 (P:Program) (B:Nat) (X:World->Prop) (H:G6):Prop :=
 ∀ g args σ v σ',H g args σ=some (v,σ')->∀ ρ W vals,Dm σ ρ B W->X W->BZ ρ args vals->Aj9 P B g σ ρ vals W v σ'
def A33 (B:Nat) (X:World->Prop):Prop:=∀ W W',RowKit.Below B W W'->X W->X W'
section
variable {P:Program} {B:Nat} {X:World->Prop} {H:G6}
theorem A6j {ops:Array Oper} {o:Oper} {g:Option (Nat×Bool)} (hg:QV ops o.guard=some g) {ρ:Re} {F:Fr} {tmps:Array Value} (hF:FR ρ F tmps):Region.wanted o (yielded ops tmps)=wanted F g:=by
 unfold QV at hg
 split at hg
 .rename_i h0
  cases hg
  simp [Region.wanted,h0,wanted]
 .rename_i j want h0
  split at hg
  .rename_i o' ho'
   split at hg
   .rename_i d hd
    cases hg
    simp only [Region.wanted,h0,wanted,yielded,ho',bind_some,hd]
    have h1:=hF d
    simp only [Array.getD_eq_getD_getElem?] at h1
    cases ht:tmps[d]? with
    | none =>
     rw [ht] at h1
     generalize Fr.tmp F d=x at h1
     have:x = .tu []:=by
      simp only [Option.getD_none,undef] at h1
      cases x<;>first | (cases h1;done) | skip
      rename_i vs
      generalize he:(Value.tuple #[])=u at h1
      cases h1 with
      | tu cs cs' hh =>
       injection he with he
       have:cs' = []:=by simpa using he.symm
       subst this
       cases hh
       rfl
     subst this
     rfl
    | some u =>
     rw [ht] at h1
     simp only [getD_some] at h1
     generalize Fr.tmp F d=x at h1
     cases h1<;>rfl
   .cases hg
  .cases hg
theorem AbN {P:Program} {op:Op} {f:Ax} {args:List Ax} (hg:Bt? P op=some (.call f args)) :
  ∃ fo cargs cty,op = .call { callee:=.value fo,args:=cargs,argTypes:=cty }/\AB fo=some f/\cargs.toList.mapM AB=some args:=by
 cases op with
 | call c =>
  obtain ⟨callee,cargs,cty⟩:=c
  cases callee with
  | value fo =>
   simp only [Bt?,bind_eq_bind,bind_eq_some_iff,pure_def,Option.some.injEq,By.call.injEq] at hg
   obtain ⟨f',hf,as,has,rfl,rfl⟩:=hg
   exact ⟨fo,cargs,cty,rfl,hf,has⟩
  | invoke r m=>simp [Bt?] at hg
  | builtin b =>
   exfalso
   cases b<;>simp only [Bt?] at hg<;>(repeat' split at hg)<;>simp [bind_eq_some_iff] at hg
   all_goals (repeat' split at hg)<;>simp [bind_eq_some_iff] at hg
 | _ =>
  exfalso
  simp only [Bt?] at hg
  (repeat' split at hg)<;>simp [bind_eq_some_iff] at hg
  all_goals first
   | (exact absurd ‹_=_› (by simp))
   | (obtain ⟨a,_,h2⟩:=hg;split at h2<;>cases h2)
theorem Qq (hH:M2 P B X H) {o:Oper} {op:By} (hop:op=Bt P o.op) {a:Act} {F:Fr} {σ σ':St} {ρ:Re} {W:World} {v:AV} (hS:Dm σ ρ B W) (hX:X W) (hF:FR ρ F a.tmps) (h:B8 H op F σ=some (v,σ'))
  {K:Act->World->Prop} {Q:Exit->Act->World->Prop} (hK:∀ u ρ' W',Dm σ' ρ' B W'->CX σ ρ W σ' ρ' W'->CJ ρ' v u->K (a.put o.dst u) W'):o.wp P a W K Q:=by
 have plain:∀ op',Bt? P o.op=some op'->Av op' F σ=some (v,σ')->o.wp P a W K Q:=by
  intro op' hg he
  obtain ⟨ρ',W',h1,h2,h3⟩:=Ahd hS hF hg he
  unfold Oper.wp
  rcases h3 with ⟨u,h4,h5⟩ | ⟨h4,rfl⟩
  .rw [h4];exact hK u ρ' W' h1 h2 h5
  .rw [h4];exact hK undef ρ' W' h1 h2 (A1Z _)
 unfold Bt at hop
 split at hop
 .rename_i op' hg
  subst hop
  by_cases hc:∃ f args,op = .call f args
  .obtain ⟨f,args,rfl⟩:=hc
   simp only [B8] at h
   split at h
   .rename_i g x y hv
    obtain ⟨fo,cargs,cty,ho,hf,has⟩:=AbN hg
    have h1:=B0 hF hf
    rw [hv] at h1
    have h2:=Rf hF _ _ has
    generalize hu:a.eval fo=u at *
    cases h1 with
    | f _ _ _ x' y' hx hy =>
     obtain ⟨⟨fn,hfn,hbody,hname⟩,hcall⟩:=hH g _ σ v σ' h ρ W (x'++cargs.toList.map a.eval++y') hS hX ((hx.append h2).append hy)
     have hrun:(execOp a.eval o).run P W = .ok (.enter g (x'++cargs.toList.map a.eval++y').toArray) W:=by
      have e1:(x'.toArray++cargs.map a.eval++y'.toArray)=(x'++cargs.toList.map a.eval++y').toArray:=by apply Array.ext';simp
      have hb:fn.body.isNone=false:=by cases hb:fn.body with
       | none=>rw [hb] at hbody;cases hbody
       | some c=>rfl
      simp only [execOp,ho,resolve,hu,Deferred.ofValue,Sem.run_bind,Sem.run_pure,Result.andThen_ok,invoke,callFunc,run_program,hfn,hname,hb,e1]
      rfl
     unfold Oper.wp
     rw [hrun,Oper.upon_enter]
     refine hcall.mono fun e W' he=>?_
     obtain ⟨u',ρ',rfl,h3,h4,h5⟩:=he
     exact hK u' ρ' W' h3 h4 h5
   .cases h
  .refine plain op hg ?_
   cases op<;>first | exact h | exact absurd ⟨_,_,rfl⟩ hc
 .subst hop
  simp only [B8,Av] at h
  cases h
def Aef (B:Nat) (σ:St) (ρ:Re) (W:World) (a:Act) (ex:Exit) (F':Fr) (σ':St):Exit->Act->World->Prop:=fun e a' W' =>
 ∃ ρ',e=ex/\FR ρ' F' a'.tmps/\Dm σ' ρ' B W'/\CX σ ρ W σ' ρ' W'/\a'.tmps.size=a.tmps.size/\a'.defers=a.defers
theorem Ls (a:Act) (d:Option Nat) (u:Value):(a.put d u).defers=a.defers:=by cases d<;>rfl
theorem A7C (hX:A33 B X) (hH:M2 P B X H) {n:Nat} (ops:Array Oper) {Q:Exit->Act->World->Prop}:∀ (os:List Oper) (as:List AI) (F:Fr) (σ:St) (F':Fr) (σ':St) (ρ:Re) (W:World) (a:Act),
  os.mapM (HS P ops)=some as->E3 H as F σ=some (F',σ')->as.all (A3i n)=true->n<=a.tmps.size->FR ρ F a.tmps->Dm σ ρ B W->X W ->
  (∀ a' W',Aef B σ ρ W a .normal F' σ' .normal a' W'->Q .normal a' W')->wpList P ops Q os a W:=by
 intro os
 induction os with
 | nil =>
  intro as F σ F' σ' ρ W a hg hr _ _ hF hS _ hQ
  simp at hg
  subst hg
  simp only [E3,Option.some.injEq,Prod.mk.injEq] at hr
  obtain ⟨rfl,rfl⟩:=hr
  exact hQ a W ⟨ρ,rfl,hF,hS,CX.refl _ _ _ hS,rfl,rfl⟩
 | cons o os ih =>
  intro as F σ F' σ' ρ W a hg hr hd hn hF hS hXW hQ
  simp only [List.mapM_cons,bind_eq_bind,bind_eq_some_iff,pure_def,Option.some.injEq] at hg
  obtain ⟨ao,hao,as',has,rfl⟩:=hg
  unfold HS at hao
  split at hao
  .rename_i g hgu
   cases hao
   simp only [List.all_cons,and_eq_true] at hd
   obtain ⟨hd1,hd2⟩:=hd
   have hdk:∀ k,o.dst=some k->k < n:=by
    intro k hk
    unfold A3i at hd1
    simp only [hk] at hd1
    simpa [Nat.blt_eq] using hd1
   have hw:=A6j hgu hF
   simp only [E3] at hr
   unfold wpList
   rw [hw]
   cases hwa:wanted F g with
   | true =>
    rw [hwa] at hr
    simp only [cond_true] at hr
    simp only [if_true]
    split at hr
    .rename_i v σ1 hev
     refine .inl (Qq hH rfl hS hXW hF hev fun u ρ1 W1 h1 h2 h3=>?_)
     refine ih as' _ σ1 F' σ' ρ1 W1 (a.put o.dst u) has hr hd2 (by rw [KC];exact hn) (FR.put (hF.mono (hS.le h2)) hn hdk h3) h1 (hX W W1 (h2.below hS) hXW) fun a' W' hp=>?_
     obtain ⟨ρ',_,h4,h5,h6,h7,h8⟩:=hp
     exact hQ a' W' ⟨ρ',rfl,h4,h5,h2.trans h6,by rw [h7,KC],by rw [h8,Ls]⟩
    .cases hr
   | false =>
    rw [hwa] at hr
    simp only [cond_false] at hr
    simp only [false_eq_true,if_false]
    refine ih as' _ σ F' σ' ρ W (a.put o.dst undef) has hr hd2 (by rw [KC];exact hn) (FR.put hF hn hdk (A1Z _)) hS hXW fun a' W' hp=>?_
    obtain ⟨ρ',_,h4,h5,h6,h7,h8⟩:=hp
    exact hQ a' W' ⟨ρ',rfl,h4,h5,h6,by rw [h7,KC],by rw [h8,Ls]⟩
  .cases hao
def RJ (P:Program) (B:Nat) (X:World->Prop):Prop:=∀ (H:G6),M2 P B X H->∀ (id:Nat) (ops:Array Oper) (ss:List AL) (n:Nat) (F:Fr) (σ:St) (F':Fr) (σ':St) (ρ:Re) (W:World) (a:Act),
  YA P ops=some ss->Cd H ss F σ=some (F',σ')->(ss.all fun s=>A3i n s.o)=true->n<=a.tmps.size->FR ρ F a.tmps->Dm σ ρ B W->X W ->
  (Code.region id ops true).wp P (Aef B σ ρ W a .normal F' σ') a W
def AnO:Ex->Exit
 | .norm=>.normal
 | .exit id=>.exit id
 | .ret=>.ret
theorem A1H {σ σ1:St} {ρ ρ1:Re} {W W1:World} {a a1:Act} {ex:Exit} {F':Fr} {σ':St} (h:CX σ ρ W σ1 ρ1 W1) (hs:a1.tmps.size=a.tmps.size) (hd:a1.defers=a.defers) {e:Exit} {a':Act} {W':World} :
  Aef B σ1 ρ1 W1 a1 ex F' σ' e a' W'->Aef B σ ρ W a ex F' σ' e a' W':=by
 rintro ⟨ρ',h1,h2,h3,h4,h5,h6⟩
 exact ⟨ρ',h1,h2,h3,h.trans h4,h5.trans hs,h6.trans hd⟩
def Aec (P:Program) (B:Nat) (X:World->Prop) (A:E8) (n:Nat):Prop :=
 ∀ (c:Code) (F:Fr) (σ:St) (ex:Ex) (F':Fr) (σ':St) (N:Nat) (ρ:Re) (W:World) (a:Act) (Q:Exit->Act->World->Prop),Bb A n (BO P c) F σ=some (ex,F',σ')->GT N (BO P c)=true->N<=a.tmps.size->FR ρ F a.tmps->Dm σ ρ B W->X W ->
  (∀ e a' W',Aef B σ ρ W a (AnO ex) F' σ' e a' W'->Q e a' W')->c.wp P Q a W
def A34 (P:Program) (B:Nat) (X:World->Prop) (A:E8) (n:Nat):Prop :=
 ∀ (c:Code) (F:Fr) (σ:St) (ex:Ex) (F':Fr) (σ':St) (N:Nat) (ρ:Re) (W:World) (a:Act) (Q:Exit->Act->World->Prop),Bb A n (.loop (BO P c)) F σ=some (ex,F',σ')->GT N (BO P c)=true->N<=a.tmps.size->FR ρ F a.tmps->Dm σ ρ B W->X W ->
  (∀ e a' W',Aef B σ ρ W a (AnO ex) F' σ' e a' W'->Q e a' W')->Code.rounds P c Q n a W
theorem AbI (hX:A33 B X) (hD:RJ P B X) (A:E8):∀ n,(∀ m,m < n->M2 P B X (Cv A (Bb A m)))->Aec P B X A n/\A34 P B X A n:=by
 intro n
 induction n with
 | zero =>
  intro _
  exact ⟨fun c F σ ex F' σ' N ρ W a Q h=>by simp [Bb] at h,fun c F σ ex F' σ' N ρ W a Q h=>by simp [Bb] at h⟩
 | succ n ih =>
  intro hcalls
  obtain ⟨ihc,ihr⟩:=ih (fun m hm=>hcalls m (by omega))
  have hH:=hcalls n (Nat.lt_succ_self n)
  have rounds:A34 P B X A (n+1):=by
   intro c F σ ex F' σ' N ρ W a Q h hd hN hF hS hXW hQ
   rw [rounds_succ]
   simp only [Bb] at h
   split at h
   .rename_i F1 σ1 h1
    refine ihc c F σ .norm F1 σ1 N ρ W a _ h1 hd hN hF hS hXW ?_
    rintro e a1 W1 ⟨ρ1,rfl,h2,h3,h4,h5,h6⟩
    exact ihr c F1 σ1 ex F' σ' N ρ1 W1 a1 Q h hd (by omega) h2 h3 (hX W W1 (h4.below hS) hXW) fun e a' W' hp=>hQ e a' W' (A1H h4 h5 h6 hp)
   .rename_i hne
    refine ihc c F σ ex F' σ' N ρ W a _ h hd hN hF hS hXW ?_
    intro e a1 W1 hp
    have hq:=hQ e a1 W1 hp
    obtain ⟨ρ1,rfl,_⟩:=hp
    cases ex with
    | norm=>exact absurd h (hne F' σ')
    | exit id=>exact hq
    | ret=>exact hq
  refine ⟨?_,rounds⟩
  intro c F σ ex F' σ' N ρ W a Q h hd hN hF hS hXW hQ
  cases c with
  | skip =>
   simp only [BO,Bb,Option.some.injEq,Prod.mk.injEq] at h
   obtain ⟨rfl,rfl,rfl⟩:=h
   exact wp_skip (hQ _ _ _ ⟨ρ,rfl,hF,hS,CX.refl _ _ _ hS,rfl,rfl⟩)
  | region id ops draw =>
   cases draw with
   | false =>
    simp only [BO] at h hd
    split at h
    .rename_i os hos
     rw [hos] at hd
     simp only [Bb] at h
     split at h
     .rename_i F1 σ1 hr
      simp only [Option.some.injEq,Prod.mk.injEq] at h
      obtain ⟨rfl,rfl,rfl⟩:=h
      exact wp_region_list (A7C hX hH ops _ os F σ F1 σ1 ρ W a hos hr hd hN hF hS hXW fun a' W' hp=>hQ _ _ _ hp)
     .cases h
    .simp [Bb] at h
   | true =>
    simp only [BO] at h hd
    split at h
    .rename_i ss hss
     rw [hss] at hd
     simp only [Bb] at h
     split at h
     .rename_i F1 σ1 hr
      simp only [Option.some.injEq,Prod.mk.injEq] at h
      obtain ⟨rfl,rfl,rfl⟩:=h
      exact wp_mono (hD _ hH id ops ss N F σ F1 σ1 ρ W a hss hr hd hN hF hS hXW) fun e a' W' hp=>hQ _ _ _ hp
     .cases h
    .simp [Bb] at h
  | seq x y =>
   simp only [BO,GT,and_eq_true] at hd
   simp only [BO,Bb] at h
   split at h
   .rename_i F1 σ1 h1
    refine wp_seq (ihc x F σ .norm F1 σ1 N ρ W a _ h1 hd.1 hN hF hS hXW ?_)
    rintro e a1 W1 ⟨ρ1,rfl,h2,h3,h4,h5,h6⟩
    exact ihc y F1 σ1 ex F' σ' N ρ1 W1 a1 Q h hd.2 (by omega) h2 h3 (hX W W1 (h4.below hS) hXW) fun e a' W' hp=>hQ e a' W' (A1H h4 h5 h6 hp)
   .rename_i hne
    refine wp_seq (ihc x F σ ex F' σ' N ρ W a _ h hd.1 hN hF hS hXW ?_)
    intro e a1 W1 hp
    have hq:=hQ e a1 W1 hp
    obtain ⟨ρ1,rfl,_⟩:=hp
    cases ex with
    | norm=>exact absurd h (hne F' σ')
    | exit id=>exact hq
    | ret=>exact hq
  | cond cc x y =>
   simp only [BO] at h hd
   split at h
   .rename_i cc' hcc
    rw [hcc] at hd
    simp only [GT,and_eq_true] at hd
    simp only [Bb] at h
    have h1:=B0 hF hcc
    split at h
    .rename_i hv
     rw [hv] at h1
     exact wp_cond (t:=true) (AdP h1) (ihc x F σ ex F' σ' N ρ W a Q h hd.1 hN hF hS hXW hQ)
    .rename_i hv
     rw [hv] at h1
     exact wp_cond (t:=false) (AdP h1) (ihc y F σ ex F' σ' N ρ W a Q h hd.2 hN hF hS hXW hQ)
    .cases h
   .simp [Bb] at h
  | block id x =>
   simp only [BO,GT] at hd
   simp only [BO,Bb] at h
   split at h
   .rename_i id' F1 σ1 h1
    refine wp_block (ihc x F σ (.exit id') F1 σ1 N ρ W a _ h1 hd hN hF hS hXW ?_)
    intro e a1 W1 hp
    obtain ⟨ρ1,rfl,h2⟩:=hp
    simp only [AnO,Exit.inBlock]
    cases hb:Nat.beq id' id with
    | true =>
     rw [hb] at h
     simp only [cond_true,Option.some.injEq,Prod.mk.injEq] at h
     obtain ⟨rfl,rfl,rfl⟩:=h
     rw [if_pos (Nat.eq_of_beq_eq_true hb)]
     exact hQ _ _ _ ⟨ρ1,rfl,h2⟩
    | false =>
     rw [hb] at h
     simp only [cond_false,Option.some.injEq,Prod.mk.injEq] at h
     obtain ⟨rfl,rfl,rfl⟩:=h
     have:id'≠id:=by rintro rfl;simp at hb
     rw [if_neg this]
     exact hQ _ _ _ ⟨ρ1,rfl,h2⟩
   .rename_i hne
    refine wp_block (ihc x F σ ex F' σ' N ρ W a _ h hd hN hF hS hXW ?_)
    intro e a1 W1 hp
    have hq:=hQ e a1 W1 hp
    obtain ⟨ρ1,rfl,_⟩:=hp
    cases ex with
    | norm=>exact hq
    | exit id'=>exact absurd h (hne id' F' σ')
    | ret=>exact hq
  | loop x =>
   exact wp_loop_rounds (n+1) (rounds x F σ ex F' σ' N ρ W a Q h hd hN hF hS hXW hQ)
  | exit id =>
   simp only [BO,Bb,Option.some.injEq,Prod.mk.injEq] at h
   obtain ⟨rfl,rfl,rfl⟩:=h
   exact wp_exit (hQ _ _ _ ⟨ρ,rfl,hF,hS,CX.refl _ _ _ hS,rfl,rfl⟩)
  | ret =>
   simp only [BO,Bb,Option.some.injEq,Prod.mk.injEq] at h
   obtain ⟨rfl,rfl,rfl⟩:=h
   exact wp_ret (hQ _ _ _ ⟨ρ,rfl,hF,hS,CX.refl _ _ _ hS,rfl,rfl⟩)
  | _=>simp [BO,Bb] at h
theorem A2V {σ:St} {ρ:Re} {W:World} {F:Fr} {tmps:Array Value} (hF:FR ρ F tmps) (hS:Dm σ ρ B W):∀ (rs:List ResultVar) (as:List Ae9) (vs:List AV),rs.mapM (A70 P)=some as->CA F σ as=some vs ->
  ∃ us:List Value,(rs.mapM (fun (x:ResultVar)=>(match x with
   | .tmp t=>(pure (tmps.getD t undef):Sem Value)
   | .cell a t=>(do loadVar t (<- asAddr (tmps.getD a undef)):Sem Value)))).run P W = .ok us W/\BZ ρ vs us:=by
 intro rs
 induction rs with
 | nil =>
  intro as vs hg h
  simp at hg
  subst hg
  simp only [CA,Option.some.injEq] at h
  subst h
  exact ⟨[],by simp,.nil⟩
 | cons r rs ih =>
  intro as vs hg h
  simp only [List.mapM_cons,bind_eq_bind,bind_eq_some_iff,pure_def,Option.some.injEq] at hg
  obtain ⟨ra,hra,as',has,rfl⟩:=hg
  cases r with
  | tmp t =>
   simp only [A70,Option.some.injEq] at hra
   subst hra
   simp only [CA] at h
   split at h
   .rename_i vs' hvs
    cases h
    obtain ⟨us,h1,h2⟩:=ih as' vs' has hvs
    exact ⟨_::us,by simp only [List.mapM_cons,Sem.run_bind,Sem.run_pure,Result.andThen_ok,h1],.cons _ _ _ _ (hF t) h2⟩
   .cases h
  | cell c t =>
   obtain ⟨n,hn,rfl⟩:=map_some hra
   simp only [CA] at h
   split at h
   .rename_i id off hv
    split at h
    .rename_i v hlv
     split at h
     .rename_i vs' hvs
      cases h
      obtain ⟨us,h1,h2⟩:=ih as' vs' has hvs
      have h3:=hF c
      rw [hv] at h3
      obtain ⟨rb,hr,hu⟩:=A65 h3
      obtain ⟨u,h4,h5⟩:=Pb (P:=P) hS hn hr hlv
      have e1:(do loadVar t (<- asAddr (tmps.getD c undef)):Sem Value).run P W = .ok u W:=by
       rw [hu]
       simp only [Sem.run_bind,asAddr,Sem.run_pure,Result.andThen_ok,h4]
      refine ⟨u::us,?_,.cons _ _ _ _ h5 h2⟩
      rw [List.mapM_cons,Sem.run_bind]
      show Result.andThen ((do loadVar t (<- asAddr (tmps.getD c undef)):Sem Value).run P W) _=_
      rw [e1,Result.andThen_ok,Sem.run_bind,h1,Result.andThen_ok,Sem.run_pure]
     .cases h
    .cases h
   .cases h
theorem AjT {ρ:Re} {args:List AV} {vals:List Value} (h:BZ ρ args vals) (n:Nat):FR ρ (Tm.ofList args) (vals.toArray++Array.replicate n undef):=by
 intro t
 unfold Fr.tmp
 rw [Tm.get_ofList]
 have hl:=h.length
 cases ht:args[t]? with
 | some x =>
  obtain ⟨u,h1,h2⟩:=h.get t x ht
  have hlt:t < vals.length:=(List.getElem?_eq_some_iff.1 h1).1
  have:(vals.toArray++Array.replicate n undef).getD t undef=u:=by
   rw [Array.getD_eq_getD_getElem?,Array.getElem?_append_left (by simpa using hlt)]
   simp [h1]
  rw [this]
  exact h2
 | none =>
  have hlt:vals.length<=t:=by have:=List.getElem?_eq_none_iff.1 ht;omega
  have:(vals.toArray++Array.replicate n undef).getD t undef=undef:=by
   rw [Array.getD_eq_getD_getElem?,Array.getElem?_append_right (by simpa using hlt)]
   rw [Array.getElem?_replicate]
   split<;>rfl
  rw [this]
  exact A1Z ρ
structure AqP (P:Program) (B:Nat) (X:World->Prop) (A:E8):Prop where
 fn:∀ g af,A.fn g=some af->A6Z P g=some af
 ext:∀ g f,A.ext g=some f->M2 P B X (fun g' args σ=>if g' = g then f args σ else none)
theorem Abt (hX:A33 B X) (hD:RJ P B X) (A:E8) (hA:AqP P B X A):∀ n,M2 P B X (Cv A (Bb A n)):=by
 intro n
 induction n using Nat.strongRecOn with
 | _ n ih =>
  obtain ⟨hc,_⟩:=AbI hX hD A n ih
  intro g args σ v σ' h ρ W vals hS hXW hR
  unfold Cv at h
  split at h
  .rename_i x hx
   exact hA.ext g x hx g args σ v σ' (by simpa using h) ρ W vals hS hXW hR
  .split at h
   .cases h
   .rename_i af haf
    have hgen:=hA.fn g af haf
    unfold A6Z at hgen
    split at hgen
    .rename_i fn hfn
     unfold Adl at hgen
     split at hgen
     .rename_i c rs hbody hrs
      cases hok : (GT fn.ntmps (BO P c) && !(fn.name == "runtime.NumGoroutine")) with
      | false=>rw [hok] at hgen;cases hgen
      | true =>
       rw [hok] at hgen
       simp only [cond_true,Option.some.injEq] at hgen
       subst hgen
       simp only [and_eq_true,not_eq_true'] at hok
       refine ⟨⟨fn,hfn,by rw [hbody];rfl,hok.2⟩,?_⟩
       have fin:∀ (ex:Ex) (F':Fr) (σ1:St),(ex = .norm\/ex = .ret)->Bb A n (BO P c) (Tm.ofList args) σ=some (ex,F',σ1)->(match CA F' σ1 rs with | some vs=>some (A7m vs,σ1) | none=>none)=some (v,σ') ->
         Calls P g vals.toArray W fun e W'=>∃ u ρ',e = .returned u/\Dm σ' ρ' B W'/\CX σ ρ W σ' ρ' W'/\CJ ρ' v u:=by
        intro ex F' σ1 hex hrun hres
        split at hres
        .rename_i vs hvs
         cases hres
         refine calls_of_wp hfn hbody (hc c (Tm.ofList args) σ ex F' σ' fn.ntmps ρ W _ _ hrun hok.1 ?_ (AjT hR _) hS hXW ?_)
         .simp only [Array.size_append,Array.size_replicate,List.size_toArray]
          omega
         .rintro e a' W' ⟨ρ',rfl,h1,h2,h3,h4,h5⟩
          obtain ⟨us,h6,h7⟩:=A2V (P:=P) h1 h2 fn.results.toList rs vs hrs hvs
          have hresr:(results fn a'.tmps).run P W' = .ok (if h:us.toArray.size=1 then us.toArray[0] else .tuple us.toArray) W':=by
           unfold results
           rw [Array.mapM_eq_mapM_toList]
           simp only [Sem.run_bind,Sem.run_map,Sem.run_pure]
           exact (congrArg (fun (r:Result (List Value))=>(Result.andThen (Result.andThen r fun a w'=>Result.ok a.toArray w') fun a w'=>Result.ok (if h:a.size=1 then a[0] else Value.tuple a) w')) h6)
          have hpost:a'.defers=[]/\∃ v',(results fn a'.tmps).run P W' = .ok v' W'/\∃ u ρ',Ending.returned v' = .returned u/\Dm σ' ρ' B W'/\CX σ ρ W σ' ρ' W'/\CJ ρ' (A7m vs) u:=by
           refine ⟨h5,_,hresr,_,ρ',rfl,h2,h3,?_⟩
           cases h7 with
           | nil=>exact .tu [] [] .nil
           | cons x y xs ys hx hxs =>
            cases hxs with
            | nil=>exact hx
            | cons x2 y2 xs2 ys2 hx2 hxs2 =>
             have hne:¬ ((y::y2::ys2).toArray.size=1):=by simp
             rw [dif_neg hne]
             exact .tu _ _ (.cons _ _ _ _ hx (.cons _ _ _ _ hx2 hxs2))
          rcases hex with rfl | rfl<;>exact hpost
        .cases hres
       split at h
       .rename_i F' σ1 hrun
        exact fin .norm F' σ1 (.inl rfl) hrun h
       .rename_i F' σ1 hrun
        exact fin .ret F' σ1 (.inr rfl) hrun h
       .cases h
     .cases hgen
    .cases hgen
end
theorem AR {F G:Fr} {x:Ax} (h:∀ t,t∈x.tmps->Fr.tmp F t=Fr.tmp G t):Fr.ev F x=Fr.ev G x:=by
 cases x with
 | t n=>exact h n (by simp [Ax.tmps])
 | c v=>rfl
theorem RQ {F G:Fr} {xs:List Ax} (h:∀ t,t∈xs.flatMap Ax.tmps->Fr.tmp F t=Fr.tmp G t):xs.map (Fr.ev F)=xs.map (Fr.ev G):=by
 refine List.map_congr_left fun x hx=>AR fun t ht=>h t (List.mem_flatMap.2 ⟨x,hx,ht⟩)
theorem PV {F G:Fr}:∀ (ps:List (Nat×Nat×Ax)) (cs:List AV),(∀ t,t∈ps.flatMap (fun p=>p.2.2.tmps)->Fr.tmp F t=Fr.tmp G t)->BN F cs ps=BN G cs ps:=by
 intro ps
 induction ps with
 | nil=>intro cs _;rfl
 | cons p ps ih =>
  intro cs h
  obtain ⟨off,sz,x⟩:=p
  have hx:Fr.ev F x=Fr.ev G x:=AR fun t ht=>h t (by simp [ht])
  simp only [BN,hx]
  cases (Nat.beq (Fr.ev G x).cells.length sz && (Fr.ev G x).cells.all AV.cell && Nat.ble (off+sz) cs.length) with
  | false=>rfl
  | true=>exact ih _ (fun t ht=>h t (by simp [List.mem_flatMap] at ht ⊢;exact .inr ht))
theorem A5Z {F G:Fr} {x:Option Ax} (h:∀ t,t∈A7j x->Fr.tmp F t=Fr.tmp G t):x.map (Fr.ev F)=x.map (Fr.ev G):=by
 cases x with
 | none=>rfl
 | some x=>simp only [Option.map_some];rw [AR (fun t ht=>h t ht)]
theorem QT {H:G6} {op:By} {F G:Fr} {σ:St} (h:∀ t,t∈op.reads->Fr.tmp F t=Fr.tmp G t):B8 H op F σ=B8 H op G σ:=by
 cases op with
 | call f args =>
  have h1:Fr.ev F f=Fr.ev G f:=AR fun t ht=>h t (by simp [By.reads,ht])
  have h2:args.map (Fr.ev F)=args.map (Fr.ev G):=RQ fun t ht=>h t (by rw [By.reads];exact List.mem_append_right _ ht)
  simp only [B8,h1,h2]
 | build z ps=>simp only [B8,Av,PV ps z (fun t ht=>h t ht)]
 | bsl ty esz len z ps=>simp only [B8,Av,PV ps z (fun t ht=>h t ht)]
 | mkf g x y =>
  have h1:x.map (Fr.ev F)=x.map (Fr.ev G):=RQ fun t ht=>h t (by rw [By.reads,List.flatMap_append];exact List.mem_append_left _ ht)
  have h2:y.map (Fr.ev F)=y.map (Fr.ev G):=RQ fun t ht=>h t (by rw [By.reads,List.flatMap_append];exact List.mem_append_right _ ht)
  simp only [B8,Av,h1,h2]
 | slc e x lo hi =>
  have h1:Fr.ev F x=Fr.ev G x:=AR fun t ht=>h t (by simp [By.reads,ht])
  have h2:lo.map (Fr.ev F)=lo.map (Fr.ev G):=A5Z fun t ht=>h t (by simp [By.reads,ht])
  have h3:hi.map (Fr.ev F)=hi.map (Fr.ev G):=A5Z fun t ht=>h t (by simp [By.reads,ht])
  simp only [B8,Av,h1,h2,h3]
 | pick a b c =>
  have h1:Fr.ev F a=Fr.ev G a:=AR fun t ht=>h t (by simp [By.reads,ht])
  have h2:Fr.ev F b=Fr.ev G b:=AR fun t ht=>h t (by simp [By.reads,ht])
  have h3:Fr.ev F c=Fr.ev G c:=AR fun t ht=>h t (by simp [By.reads,ht])
  simp only [B8,Av,h1,h2,h3]
 | fail=>rfl
 | st n a x =>
  have h1:Fr.ev F a=Fr.ev G a:=AR fun t ht=>h t (by simp [By.reads,ht])
  have h2:Fr.ev F x=Fr.ev G x:=AR fun t ht=>h t (by simp [By.reads,ht])
  simp only [B8,Av,h1,h2]
 | bin _ _ a x =>
  have h1:Fr.ev F a=Fr.ev G a:=AR fun t ht=>h t (by simp [By.reads,ht])
  have h2:Fr.ev F x=Fr.ev G x:=AR fun t ht=>h t (by simp [By.reads,ht])
  simp only [B8,Av,h1,h2]
 | mks _ _ _ _ a x =>
  have h1:Fr.ev F a=Fr.ev G a:=AR fun t ht=>h t (by simp [By.reads,ht])
  have h2:Fr.ev F x=Fr.ev G x:=AR fun t ht=>h t (by simp [By.reads,ht])
  simp only [B8,Av,h1,h2]
 | ia _ a x =>
  have h1:Fr.ev F a=Fr.ev G a:=AR fun t ht=>h t (by simp [By.reads,ht])
  have h2:Fr.ev F x=Fr.ev G x:=AR fun t ht=>h t (by simp [By.reads,ht])
  simp only [B8,Av,h1,h2]
 | iaa _ _ a x =>
  have h1:Fr.ev F a=Fr.ev G a:=AR fun t ht=>h t (by simp [By.reads,ht])
  have h2:Fr.ev F x=Fr.ev G x:=AR fun t ht=>h t (by simp [By.reads,ht])
  simp only [B8,Av,h1,h2]
 | ix a x =>
  have h1:Fr.ev F a=Fr.ev G a:=AR fun t ht=>h t (by simp [By.reads,ht])
  have h2:Fr.ev F x=Fr.ev G x:=AR fun t ht=>h t (by simp [By.reads,ht])
  simp only [B8,Av,h1,h2]
 | app _ _ _ a x =>
  have h1:Fr.ev F a=Fr.ev G a:=AR fun t ht=>h t (by simp [By.reads,ht])
  have h2:Fr.ev F x=Fr.ev G x:=AR fun t ht=>h t (by simp [By.reads,ht])
  simp only [B8,Av,h1,h2]
 | cpy _ a x =>
  have h1:Fr.ev F a=Fr.ev G a:=AR fun t ht=>h t (by simp [By.reads,ht])
  have h2:Fr.ev F x=Fr.ev G x:=AR fun t ht=>h t (by simp [By.reads,ht])
  simp only [B8,Av,h1,h2]
 | mnx _ a x =>
  have h1:Fr.ev F a=Fr.ev G a:=AR fun t ht=>h t (by simp [By.reads,ht])
  have h2:Fr.ev F x=Fr.ev G x:=AR fun t ht=>h t (by simp [By.reads,ht])
  simp only [B8,Av,h1,h2]
 | mov x=>simp only [B8,Av,AR (x:=x) (fun t ht=>h t (by simp [By.reads,ht]))]
 | box _ _ x=>simp only [B8,Av,AR (x:=x) (fun t ht=>h t (by simp [By.reads,ht]))]
 | ld _ x=>simp only [B8,Av,AR (x:=x) (fun t ht=>h t (by simp [By.reads,ht]))]
 | nilc x=>simp only [B8,Av,AR (x:=x) (fun t ht=>h t (by simp [By.reads,ht]))]
 | not x=>simp only [B8,Av,AR (x:=x) (fun t ht=>h t (by simp [By.reads,ht]))]
 | neg x=>simp only [B8,Av,AR (x:=x) (fun t ht=>h t (by simp [By.reads,ht]))]
 | conv _ x=>simp only [B8,Av,AR (x:=x) (fun t ht=>h t (by simp [By.reads,ht]))]
 | fa _ x=>simp only [B8,Av,AR (x:=x) (fun t ht=>h t (by simp [By.reads,ht]))]
 | ext x _=>simp only [B8,Av,AR (x:=x) (fun t ht=>h t (by simp [By.reads,ht]))]
 | len _ x=>simp only [B8,Av,AR (x:=x) (fun t ht=>h t (by simp [By.reads,ht]))]
theorem AbG {op:By} {F G:Fr} {σ:St} (h:∀ t,t∈op.reads->Fr.tmp F t=Fr.tmp G t):Av op F σ=Av op G σ:=by
 have:=QT (H:=fun _ _ _=>none) (op:=op) (F:=F) (G:=G) (σ:=σ) h
 cases op<;>first | exact this | rfl
theorem RF {F G:Fr} {g:Option (Nat×Bool)} (h:∀ t w,g=some (t,w)->Fr.tmp F t=Fr.tmp G t):wanted F g=wanted G g:=by
 cases g with
 | none=>rfl
 | some g=>obtain ⟨t,w⟩:=g;simp only [wanted,h t w rfl]
def By.alloc:By->Bool
 | .box _ _ _ | .bsl _ _ _ _ _ | .mks _ _ _ _ _ _=>true
 | _=>false
def Da (op:By) (F:Fr):Option (M0×(Nat->AV)) :=
 match op with
 | .box ty n x =>
  let cs:=(Fr.ev F x).cells
  bif Nat.beq cs.length n && cs.all AV.cell then some ({ ty:=ty,rw:=true,esz:=0,len:=n,cs:=Tm.ofList cs },fun id=>.p (some (id,0))) else none
 | .bsl ty esz len zero parts=>match BN F zero parts with
  | some cs=>some ({ ty:=ty,rw:=true,esz:=esz,len:=len * esz,cs:=Tm.ofList cs },fun id=>.sl (some (id,0)) len)
  | none=>none
 | .mks ty esz bytes zero l c=>match Fr.ev F l,Fr.ev F c with
  | .i .i64 n,.i .i64 m =>
   if 0<=n/\n<=m/\m.toNat * bytes<=Aa then
    some ({ ty:=ty,rw:=true,esz:=esz,len:=n.toNat * esz,cs:=Tm.ofList ((List.replicate n.toNat zero).flatten) },fun id=>.sl (some (id,0)) n.toNat)
   else none
  | _,_=>none
 | _=>none
theorem KX {op:By} (ha:op.alloc=true) (F:Fr) (σ:St):Av op F σ=(Da op F).map fun x=>(x.2 σ.next,σ.new x.1):=by
 cases op<;>first | (simp [By.alloc] at ha;done) | skip
 .simp only [Av,Da]
  cases (Nat.beq (Fr.ev F _).cells.length _ && (Fr.ev F _).cells.all AV.cell)<;>rfl
 .simp only [Av,Da]
  split<;>simp_all
 .simp only [Av,Da]
  split
  .split<;>simp_all
  .split<;>simp_all
theorem A6z {op:By} (ha:op.alloc=true) {F G:Fr} (h:∀ t,t∈op.reads->Fr.tmp F t=Fr.tmp G t):Da op F=Da op G:=by
 cases op<;>first | (simp [By.alloc] at ha;done) | skip
 .rename_i x
  have h1:Fr.ev F x=Fr.ev G x:=AR fun t ht=>h t (by simp [By.reads,ht])
  simp only [Da,h1]
 .simp only [Da,PV _ _ (fun t ht=>h t ht)]
 .rename_i a x
  have h1:Fr.ev F a=Fr.ev G a:=AR fun t ht=>h t (by simp [By.reads,ht])
  have h2:Fr.ev F x=Fr.ev G x:=AR fun t ht=>h t (by simp [By.reads,ht])
  simp only [Da,h1,h2]
theorem A3j {op:By} (h1:op.writer=false) (h2:op.reader=false) (h3:op.alloc=false) {F:Fr} {σ σ':St} {v:AV} (h:Av op F σ=some (v,σ')):σ' = σ/\∀ σ2,Av op F σ2=some (v,σ2):=by
 cases op<;>first | (simp [By.writer] at h1;done) | (simp [By.reader] at h2;done) | (simp [By.alloc] at h3;done) | skip
 all_goals
  simp only [Av] at h ⊢
  first
  | (simp only [Option.some.injEq,Prod.mk.injEq] at h;obtain ⟨rfl,rfl⟩:=h;exact ⟨rfl,fun _=>rfl⟩)
  | (repeat' split at h)<;>first
   | (cases h;done)
   | (cases h;refine ⟨rfl,fun σ2=>?_⟩;simp_all)
theorem A9X {P:Program} {op:Op} {aop:By} (hg:Bt? P op=some aop) (ha:aop.alloc=true) :
  (∃ e,op = .alloc e)\/(∃ e x,op = .box e x)\/(∃ t n ps,op = .buildSlice t n ps)\/∃ t l c,op = .makeSlice t l c:=by
 cases op with
 | alloc e=>exact .inl ⟨e,rfl⟩
 | box e x=>exact .inr (.inl ⟨e,x,rfl⟩)
 | buildSlice t n ps=>exact .inr (.inr (.inl ⟨t,n,ps,rfl⟩))
 | makeSlice t l c=>exact .inr (.inr (.inr ⟨t,l,c,rfl⟩))
 | call c =>
  exfalso
  obtain ⟨callee,cargs,cty⟩:=c
  cases callee with
  | value fo =>
   simp only [Bt?,bind_eq_bind,bind_eq_some_iff,pure_def,Option.some.injEq] at hg
   obtain ⟨f',hf,as,has,rfl⟩:=hg
   simp [By.alloc] at ha
  | invoke r m=>simp [Bt?] at hg
  | builtin b =>
   cases aop<;>first | (simp [By.alloc] at ha;done) | skip
   all_goals
    cases b<;>simp only [Bt?] at hg<;>(repeat' split at hg)<;>simp [bind_eq_some_iff] at hg
    all_goals (repeat' split at hg)<;>simp [bind_eq_some_iff] at hg
 | _ =>
  exfalso
  cases aop<;>first | (simp [By.alloc] at ha;done) | skip
  all_goals
   simp only [Bt?] at hg
   (repeat' split at hg)<;>simp [bind_eq_some_iff] at hg
   all_goals first
    | contradiction
    | (obtain ⟨a,_,h2⟩:=hg;split at h2<;>cases h2)
section
variable {P:Program} {o:Oper} {a:Act} {ρ:Re} {F:Fr}
theorem A9Q {F:Fr}:∀ (ps:List (Nat×Nat×Ax)) (c c':List AV),BN F c ps=some c'->c'.length=c.length:=by
 intro ps
 induction ps with
 | nil=>intro c c' h;simp only [BN,Option.some.injEq] at h;rw [h]
 | cons p ps ih =>
  intro c c' h
  obtain ⟨off,sz,y⟩:=p
  simp only [BN] at h
  cases hc:(Nat.beq (Fr.ev F y).cells.length sz && (Fr.ev F y).cells.all AV.cell && Nat.ble (off+sz) c.length) with
  | false=>rw [hc] at h;cases h
  | true =>
   rw [hc] at h
   simp only [cond_true] at h
   rw [ih _ _ h]
   simp only [and_eq_true,Nat.ble_eq] at hc
   have:=Nat.eq_of_beq_eq_true hc.1.1
   simp [P8]
   omega
def A84 (P:Program) (o:Oper) (a:Act) (ρ:Re) (ob:M0) (mk:Nat->AV) (W:World):Prop :=
 ∃ (cur:Array Value) (u:Value),(execOp a.eval o).run P W = .ok (.value u) (W.alloc (.cells cur ob.ty))/\ob.rw=true/\ob.len<=cur.size /\
  (∀ j v,j < ob.len->ob.cs.get j=some v->∃ u,cur[j]? = some u/\CJ ρ v u/\u.oneCell' = true)/\∀ (ρ':Re) id,ρ' id=some ⟨W.heap.size,0,some (cur.size,ob.esz)⟩->CJ ρ' (mk id) u
theorem RO {cs:List AV} {us:Array Value} (hR:BZ ρ cs us.toList) (hc:cs.all AV.cell=true) (j:Nat) (v:AV) (hv:(Tm.ofList cs).get j=some v):∃ u,us[j]? = some u/\CJ ρ v u/\u.oneCell' = true:=by
 rw [Tm.get_ofList] at hv
 obtain ⟨u,h1,h2⟩:=hR.get j v hv
 exact ⟨u,by rw [<- Array.getElem?_toList];exact h1,h2,J3 hR hc u (List.mem_of_getElem? h1)⟩
theorem Ael (hF:FR ρ F a.tmps) {op:By} (hg:Bt? P o.op=some op) (ha:op.alloc=true) {ob:M0} {mk:Nat->AV} (h:Da op F=some (ob,mk)) (W:World):A84 P o a ρ ob mk W:=by
 rcases A9X hg ha with ⟨e,hop⟩ | ⟨e,x,hop⟩ | ⟨t,len,parts,hop⟩ | ⟨t,l,c,hop⟩
 ·-- alloc
  rw [hop] at hg
  simp only [Bt?,bind_eq_bind,bind_eq_some_iff,pure_def] at hg
  obtain ⟨z,hz,hg⟩:=hg
  obtain ⟨i,zv,hi,hzv,hR,hl,hm⟩:=CM hz
  have hall:=CB _ _ hm
  have key:∀ y:Ax,(Fr.ev F y).cells=z->Da (.box e z.length y) F=some (ob,mk)->A84 P o a ρ ob mk W:=by
   intro y hy h
   simp only [Da,hy,Nat.beq_refl,hall,Bool.and_self,cond_true,Option.some.injEq,Prod.mk.injEq] at h
   obtain ⟨rfl,rfl⟩:=h
   refine ⟨zv.cells,.pointer (some ⟨W.heap.size,0,none⟩),?_,rfl,by simp only;omega,fun j v _ hv=>RO (hR ρ) hall j v hv,fun ρ' id hr=>?_⟩
   .simp [execOp,hop,Instr.alloc,zeroValue,typeInfo,hi,hzv,newVar,newRow]
   .have:=CJ.p (ρ:=ρ') id 0 _ hr
    simpa using this
  split at hg
  .rename_i w
   cases hg
   refine key (.c w) ?_ h
   have:w.cell=true:=by simpa using hall
   simp only [Fr.ev]
   cases w<;>first | rfl | (simp [AV.cell] at this)
  .cases hg
   exact key (.c (.ag z)) rfl h
 ·-- box
  rw [hop] at hg
  simp only [Bt?,bind_eq_bind,bind_eq_some_iff,pure_def,Option.some.injEq] at hg
  obtain ⟨n,hn,y,hy,rfl⟩:=hg
  simp only [Da] at h
  cases hc:(Nat.beq (Fr.ev F y).cells.length n && (Fr.ev F y).cells.all AV.cell) with
  | false=>rw [hc] at h;cases h
  | true =>
   rw [hc] at h
   simp only [cond_true,Option.some.injEq,Prod.mk.injEq] at h
   obtain ⟨rfl,rfl⟩:=h
   simp only [and_eq_true] at hc
   have hR:=(B0 hF hy).cells'
   have hl:=hR.size
   have hn2:=Nat.eq_of_beq_eq_true hc.1
   refine ⟨(a.eval x).cells,.pointer (some ⟨W.heap.size,0,none⟩),?_,rfl,by simp only;omega,fun j v _ hv=>RO hR hc.2 j v hv,fun ρ' id hr=>?_⟩
   .simp [execOp,hop,Instr.box,newVar,newRow]
   .have:=CJ.p (ρ:=ρ') id 0 _ hr
    simpa using this
 ·-- buildSlice
  rw [hop] at hg
  simp only [Bt?,bind_eq_bind,pure_def] at hg
  split at hg
  .rename_i e ht
   simp only [bind_eq_some_iff] at hg
   obtain ⟨s,hs,z,hz,hg⟩:=hg
   split at hg
   .simp at hg
   .rename_i hcond
    simp only [not_or] at hcond
    simp only [bind_some,bind_eq_some_iff,Option.some.injEq] at hg
    obtain ⟨ps,hps,rfl⟩:=hg
    have hs0:=hcond.1
    have hsz:z.length=s:=Decidable.not_not.1 hcond.2.1
    have hmax:len * s<=65536:=by omega
    simp only [Da] at h
    split at h
    .rename_i cs hcs
     simp only [Option.some.injEq,Prod.mk.injEq] at h
     obtain ⟨rfl,rfl⟩:=h
     obtain ⟨i,zv,hi,hzv,hR,hl,hm⟩:=CM hz
     obtain ⟨ie,hie,hse⟩:=sizeOf?_some hs
     rw [hi] at hie
     cases hie
     have hzz:=A66 (hR ρ) s (by omega) (by omega) len
     have hall:((List.replicate len z).flatten).all AV.cell=true:=by
      refine List.all_eq_true.2 fun x hx=>?_
      obtain ⟨l,h1,h2⟩:=List.mem_flatten.1 hx
      rw [(List.mem_replicate.1 h1).2] at h2
      exact List.all_eq_true.1 (CB _ _ hm) x h2
     obtain ⟨r,h1,h2,h3⟩:=L8 hF (fun i=>some (i * s,s)) _ _ _ (madeCells zv.cells (len * s)) _ hps hzz hall hcs
     have hcl:cs.length=len * s:=by
      rw [A9Q _ _ _ hcs,List.length_flatten]
      simp [hsz]
     have hrs:r.size=len * s:=by rw [<- h2.size,hcl]
     refine ⟨r,.slice (some ⟨W.heap.size,0,none⟩) len len,?_,rfl,by simp only;omega,fun j v _ hv=>RO h2 h3 j v hv,fun ρ' id hr=>?_⟩
     .have hparts:(parts.map fun (x:Nat×Operand)=>(x.1,a.eval x.2)).toList=parts.toList.map fun (i,x)=>(i,a.eval x):=by simp
      have h1':Instr.fill (fun i=>some (i * s,s)) (madeCells zv.cells (len * s)) (parts.map fun (x:Nat×Operand)=>(x.1,a.eval x.2)).toList=some r:=by rw [hparts];exact h1
      have h24:¬ (len * s > 2 ^ 24):=by omega
      by_cases h0:len * s=0
      .have hmk:madeCells (#[]:Array Value) (len * s)=madeCells zv.cells (len * s):=by rw [h0];simp [madeCells]
       simp only [execOp,hop,Sem.run_bind,Instr.buildSlice,run_underlying ht,sizeOf,typeInfo,run_program,hi,hse,Result.andThen_ok,Sem.run_pure,Sem.run_ite,if_neg h24,if_pos h0]
       have h1'':=h1'
       rw [<- hmk] at h1''
       unfold madeCells at h1''
       simp only [h1'']
       simp [newRow]
      .simp only [execOp,hop,Sem.run_bind,Instr.buildSlice,run_underlying ht,sizeOf,typeInfo,run_program,hi,hse,Result.andThen_ok,Sem.run_pure,Sem.run_ite,if_neg h24,if_neg h0,zeroValue,hzv]
       unfold madeCells at h1'
       simp only [h1']
       simp [newRow]
     .have:=CJ.sl (ρ:=ρ') id 0 len len ⟨W.heap.size,0,some (r.size,s)⟩ hr (Nat.le_refl _) (by
       have:len<=len * s:=Nat.le_mul_of_pos_right _ (by omega)
       simp only [maxLen];omega) (fun _ m' e' he=>by
       simp only [Option.some.injEq,Prod.mk.injEq] at he
       obtain ⟨rfl,rfl⟩:=he
       omega)
      simpa using this
    .cases h
  .cases hg
 ·-- makeSlice
  rw [hop] at hg
  simp only [Bt?,bind_eq_bind,pure_def] at hg
  split at hg
  .rename_i e ht
   simp only [bind_eq_some_iff] at hg
   obtain ⟨s,hs,z,hz,b,hb,hg⟩:=hg
   split at hg
   .simp at hg
   .rename_i hcond
    simp only [not_or] at hcond
    simp only [bind_some,bind_eq_some_iff,Option.some.injEq] at hg
    obtain ⟨y,hy,w,hw,rfl⟩:=hg
    have hs0:=hcond.1
    have hsz:z.length=s:=Decidable.not_not.1 hcond.2.1
    have hb0:=hcond.2.2
    have h1:=B0 hF hy
    have h2:=B0 hF hw
    simp only [Da] at h
    split at h
    .rename_i n m hn hm
     rw [hn] at h1
     rw [hm] at h2
     split at h
     .rename_i hc
      obtain ⟨h0,hnm,hby⟩:=hc
      simp only [Option.some.injEq,Prod.mk.injEq] at h
      obtain ⟨rfl,rfl⟩:=h
      obtain ⟨i,zv,hi,hzv,hR,hl,hmm⟩:=CM hz
      obtain ⟨ie,hie,hse⟩:=sizeOf?_some hs
      rw [hi] at hie
      cases hie
      obtain ⟨ie,hie,hbe⟩:=Bo?_some hb
      rw [hi] at hie
      cases hie
      have hmm2:(m.toNat:Int)=m:=Int.toNat_of_nonneg (by omega)
      have hmle:m.toNat<=140737488355328:=Nat.le_trans (Nat.le_mul_of_pos_right m.toNat (Nat.pos_of_ne_zero hb0)) (by simpa [Aa] using hby)
      have hby':(i.bytes:Int) * m<=281474976710656:=by
       have h3:((m.toNat * b:Nat):Int)<=140737488355328:=by simp only [Aa] at hby;omega
       rw [Int.natCast_mul,hmm2,<- hbe,Int.mul_comm] at h3
       omega
      have hrun:=run_make (P:=P) W t e i zv ht hi hzv .i64 .i64 n m h0 hnm hby' (by omega)
      have hzvs:zv.cells.size=s:=by omega
      have hle:n.toNat * s<=m.toNat * s:=Nat.mul_le_mul_right _ (by omega)
      refine ⟨madeCells zv.cells (m.toNat * s),.slice (some ⟨W.heap.size,0,none⟩) n.toNat m.toNat,?_,rfl,by simp only;rw [size_madeCells];exact hle,fun j x hj hx=>?_,fun ρ' id hr=>?_⟩
      .rw [hse] at hrun
       simp [execOp,hop,HH h1,HH h2,hrun]
      .simp only at hj hx
       rw [Tm.get_ofList,A9S hsz _ _ hj] at hx
       rw [Aaf _ _ _ (by omega) (by omega),hzvs]
       obtain ⟨u,h4,h5⟩:=(hR ρ).get _ x hx
       exact ⟨u,by rw [<- Array.getElem?_toList];exact h4,h5,J3 (hR ρ) (CB _ _ hmm) u (List.mem_of_getElem? h4)⟩
      .rw [size_madeCells] at hr
       have:=CJ.sl (ρ:=ρ') id 0 n.toNat m.toNat ⟨W.heap.size,0,some (m.toNat * s,s)⟩ hr (by omega) (by simp only [maxLen];omega) (fun _ m' e' he=>by
        simp only [Option.some.injEq,Prod.mk.injEq] at he
        obtain ⟨rfl,rfl⟩:=he
        rfl)
       simpa using this
     .cases h
    .cases h
  .cases hg
end
def C3 (listed:Array Bool) (i:Nat):Prop:=listed.getD i false=true
def QB (ops:Array Oper) (listed:Array Bool):Prop:=∀ j o,ops[j]? = some o->C3 listed j->∀ e,e∈o.after.toList->Region.binds .any e=true->C3 listed e.on
theorem Ac8 {acc:List Nat} {o:Oper} {i:Nat} (h:(Lf acc o).testBit i=true):∃ e,e∈o.after.toList/\Region.binds .any e=true/\(i=e.on\/(acc.getD e.on 0).testBit i=true):=by
 have key:∀ (l:List Edge) (s:Nat),(l.foldl (fun s e=>bif Region.binds .any e then s ||| 2 ^ e.on ||| acc.getD e.on 0 else s) s).testBit i=true->s.testBit i=true\/∃ e,e∈l/\Region.binds .any e=true/\(i=e.on\/(acc.getD e.on 0).testBit i=true):=by
  intro l
  induction l with
  | nil=>intro s h;exact .inl h
  | cons e l ih =>
   intro s h
   simp only [List.foldl_cons] at h
   rcases ih _ h with h1 | ⟨e',h1,h2,h3⟩
   .cases hb:Region.binds .any e with
    | false=>rw [hb] at h1;exact .inl h1
    | true =>
     rw [hb] at h1
     simp only [cond_true,Nat.testBit_or,Bool.or_eq_true,Nat.testBit_two_pow,decide_eq_true_eq] at h1
     rcases h1 with (h1 | h1) | h1
     .exact .inl h1
     .exact .inr ⟨e,List.mem_cons_self,hb,.inl h1.symm⟩
     .exact .inr ⟨e,List.mem_cons_self,hb,.inr h1⟩
   .exact .inr ⟨e',List.mem_cons_of_mem _ h1,h2,h3⟩
 rcases key _ 0 h with h1 | h1
 .simp at h1
 .exact h1
theorem A2H {acc:List Nat} {o:Oper} {e:Edge} (he:e∈o.after.toList) (hb:Region.binds .any e=true):(Lf acc o).testBit e.on=true:=by
 have mono:∀ (l:List Edge) (s:Nat),s.testBit e.on=true->(l.foldl (fun s e=>bif Region.binds .any e then s ||| 2 ^ e.on ||| acc.getD e.on 0 else s) s).testBit e.on=true:=by
  intro l
  induction l with
  | nil=>intro s h;exact h
  | cons d l ih =>
   intro s h
   simp only [List.foldl_cons]
   apply ih
   cases Region.binds .any d<;>simp [Nat.testBit_or,h]
 have key:∀ (l:List Edge) (s:Nat),e∈l->(l.foldl (fun s e=>bif Region.binds .any e then s ||| 2 ^ e.on ||| acc.getD e.on 0 else s) s).testBit e.on=true:=by
  intro l
  induction l with
  | nil=>intro s h;simp at h
  | cons d l ih =>
   intro s h
   simp only [List.foldl_cons]
   rcases List.mem_cons.1 h with rfl | h
   .apply mono
    simp [hb,Nat.testBit_or,Nat.testBit_two_pow]
   .exact ih _ h
 exact key _ 0 he
theorem A7b:∀ (r:List Oper) (acc:List Nat) (j:Nat),j < acc.length->(JS r acc).getD j 0=acc.getD j 0:=by
 intro r
 induction r with
 | nil=>intro acc j h;rfl
 | cons o r ih =>
  intro acc j h
  simp only [JS]
  rw [ih _ _ (by simp;omega)]
  simp [List.getD_eq_getElem?_getD,List.getElem?_append_left h]
theorem Ac9:∀ (r:List Oper) (acc:List Nat) (j:Nat) (o:Oper),r[j]? = some o->∃ acc',(JS r acc).getD (acc.length+j) 0=Lf acc' o:=by
 intro r
 induction r with
 | nil=>intro acc j o h;simp at h
 | cons d r ih =>
  intro acc j o h
  simp only [JS]
  cases j with
  | zero =>
   simp only [List.getElem?_cons_zero,Option.some.injEq] at h
   subst h
   refine ⟨acc,?_⟩
   rw [A7b _ _ _ (by simp)]
   simp [List.getD_eq_getElem?_getD]
  | succ j =>
   obtain ⟨acc',h'⟩:=ih (acc++[Lf acc d]) j o (by simpa using h)
   refine ⟨acc',?_⟩
   rw [<- h']
   congr 1
   simp
   omega
theorem A7c {ops:Array Oper} {j:Nat} {o:Oper} (h:ops[j]? = some o) {e:Edge} (he:e∈o.after.toList) (hb:Region.binds .any e=true):((Gf ops).getD j 0).testBit e.on=true:=by
 obtain ⟨acc,h1⟩:=Ac9 ops.toList [] j o (by rw [Array.getElem?_toList];exact h)
 simp only [List.length_nil,Nat.zero_add] at h1
 unfold Gf
 rw [h1]
 exact A2H he hb
theorem Gg {ops:Array Oper} {listed:Array Bool} (hc:QB ops listed) {j i:Nat} (h:((Gf ops).getD j 0).testBit i=true) (hj:C3 listed j):C3 listed i:=by
 have key:∀ (r pre:List Oper) (acc:List Nat),ops.toList=pre++r->acc.length=pre.length->(∀ j i,(acc.getD j 0).testBit i=true->C3 listed j->C3 listed i) ->
   ∀ j i,((JS r acc).getD j 0).testBit i=true->C3 listed j->C3 listed i:=by
  intro r
  induction r with
  | nil=>intro pre acc _ _ h;exact h
  | cons o r ih =>
   intro pre acc h1 h2 h3
   simp only [JS]
   refine ih (pre++[o]) _ (by simp [h1]) (by simp [h2]) ?_
   intro j i hb hj
   by_cases hlt:j < acc.length
   .refine h3 j i ?_ hj
    have:(acc++[Lf acc o]).getD j 0=acc.getD j 0:=by simp [List.getD_eq_getElem?_getD,List.getElem?_append_left hlt]
    rw [this] at hb
    exact hb
   .by_cases he:j=acc.length
    .subst he
     have:(acc++[Lf acc o]).getD acc.length 0=Lf acc o:=by simp [List.getD_eq_getElem?_getD]
     rw [this] at hb
     obtain ⟨e,h4,h5,h6⟩:=Ac8 hb
     have ho:ops[acc.length]? = some o:=by
      rw [<- Array.getElem?_toList,h1,h2]
      simp
     have h7:=hc _ o ho hj e h4 h5
     rcases h6 with rfl | h6
     .exact h7
     .exact h3 _ _ h6 h7
    .have:(acc++[Lf acc o]).getD j 0=0:=by
      rw [List.getD_eq_getElem?_getD,List.getElem?_eq_none (by simp;omega)]
      rfl
     rw [this] at hb
     simp at hb
 exact key ops.toList [] [] rfl rfl (fun j i h=>by simp at h) j i h hj
def Ags (b:List Nat) (s:AL) (bef:List (Nat×AI)):Prop :=
 ∀ p,p∈bef->(b.getD p.1 0).testBit s.idx=false/\p.1≠s.idx /\
  ((b.getD s.idx 0).testBit p.1=false->Py p.2 s.o=true/\p.2.op.writer=false/\(s.o.op.writer=true->p.2.op.reader=true->p.2∈s.chk))
def QE (b:List Nat) (os:Nat->Option AI):List AL->List (Nat×AI)->Prop
 | [],_=>True
 | s::r,bef=>os s.idx=some s.o/\Ags b s bef/\QE b os r ((s.idx,s.o)::bef)
theorem Aca {b:List Nat} {os:Nat->Option AI}:∀ (ord:List Nat) (bef:List (Nat×AI)) (ss:List AL),NA b os ord bef=some ss->QE b os ss bef/\ss.map (·.idx)=ord:=by
 intro ord
 induction ord with
 | nil=>intro bef ss h;simp only [NA,Option.some.injEq] at h;subst h;exact ⟨trivial,rfl⟩
 | cons i r ih =>
  intro bef ss h
  simp only [NA] at h
  split at h
  .cases h
  .rename_i o ho
   cases hc:(bef.all (fun p=>!(b.getD p.1 0).testBit i && p.1 != i) && (bef.filter fun p=>!(b.getD i 0).testBit p.1).all (fun p=>Py p.2 o && !p.2.op.writer)) with
   | false=>rw [hc] at h;cases h
   | true =>
    rw [hc] at h
    simp only [cond_true] at h
    split at h
    .rename_i ss' hss
     cases h
     obtain ⟨h1,h2⟩:=ih _ _ hss
     simp only [and_eq_true,List.all_eq_true] at hc
     refine ⟨⟨ho,fun p hp=>?_,h1⟩,by simp [h2]⟩
     have h3:=hc.1 p hp
     simp only [and_eq_true,not_eq_true',bne_iff_ne] at h3
     refine ⟨h3.1,h3.2,fun h4=>?_⟩
     have hm:p∈bef.filter fun p=>!(b.getD i 0).testBit p.1:=List.mem_filter.2 ⟨hp,by simpa using h4⟩
     have h5:=hc.2 p hm
     simp only [and_eq_true,not_eq_true'] at h5
     refine ⟨h5.1,h5.2,fun h6 h7=>?_⟩
     simp only [h6,cond_true]
     exact List.mem_map.2 ⟨p,List.mem_filter.2 ⟨hm,h7⟩,rfl⟩
    .cases h
theorem A2b {b:List Nat} {os:Nat->Option AI}:∀ (ss:List AL) (bef:List (Nat×AI)),QE b os ss bef->∀ (q:Nat) (s:AL),ss[q]? = some s->os s.idx=some s.o/\(∀ (p:Nat) (s':AL),p < q->ss[p]? = some s'->Ags b s [(s'.idx,s'.o)])/\Ags b s bef:=by
 intro ss
 induction ss with
 | nil=>intro bef _ q s h;simp at h
 | cons d r ih =>
  intro bef h q s hs
  obtain ⟨h1,h2,h3⟩:=h
  cases q with
  | zero =>
   simp only [List.getElem?_cons_zero,Option.some.injEq] at hs
   subst hs
   exact ⟨h1,fun p s' hp=>by omega,h2⟩
  | succ q =>
   obtain ⟨h4,h5,h6⟩:=ih _ h3 q s (by simpa using hs)
   refine ⟨h4,fun p s' hp hs'=>?_,fun p hp=>h6 p (List.mem_cons_of_mem _ hp)⟩
   cases p with
   | zero =>
    simp only [List.getElem?_cons_zero,Option.some.injEq] at hs'
    subst hs'
    intro p hp
    simp only [List.mem_singleton] at hp
    subst hp
    exact h6 _ List.mem_cons_self
   | succ p=>exact h5 p s' (by omega) (by simpa using hs')
theorem Abu:∀ (ss:List AL),KV ss=true->∀ (p q:Nat) (s s':AL),p < q->ss[p]? = some s->ss[q]? = some s'->s.o.op.reader=true->s'.chk≠[] ->
  ∀ (q2:Nat) (s2:AL),p < q2->ss[q2]? = some s2->(∀ d,s2.o.dst=some d->d∉s.o.reads/\s.o.dst≠some d)/\∀ d,s.o.dst=some d->d∉s.o.reads:=by
 intro ss
 induction ss with
 | nil=>intro _ p q s s' _ h;simp at h
 | cons c r ih =>
  intro hk p q s s' hpq hp hq hr hne q2 s2 hpq2 hq2
  simp only [KV,and_eq_true] at hk
  cases p with
  | zero =>
   simp only [List.getElem?_cons_zero,Option.some.injEq] at hp
   subst hp
   obtain ⟨q,rfl⟩:∃ k,q=k+1:=⟨q - 1,by omega⟩
   obtain ⟨q2,rfl⟩:∃ k,q2=k+1:=⟨q2 - 1,by omega⟩
   have hk1:=hk.1
   rw [hr] at hk1
   simp only [cond_true,and_eq_true,Bool.or_eq_true,List.all_eq_true] at hk1
   obtain ⟨hown,hk1⟩:=hk1
   refine ⟨fun d hd=>?_,fun d hd=>by rw [hd] at hown;simpa using hown⟩
   rcases hk1 with h | h
   .have:=h s2 (List.mem_of_getElem? (by simpa using hq2))
    rw [hd] at this
    simpa using this
   .have:=h s' (List.mem_of_getElem? (by simpa using hq))
    exact absurd (by simpa using this) hne
  | succ p =>
   obtain ⟨q,rfl⟩:∃ k,q=k+1:=⟨q - 1,by omega⟩
   obtain ⟨q2,rfl⟩:∃ k,q2=k+1:=⟨q2 - 1,by omega⟩
   exact ih hk.2 p q s s' (by omega) (by simpa using hp) (by simpa using hq) hr hne q2 s2 (by omega) (by simpa using hq2)
def YV (H:G6) (s:AL) (x y:Fr×St):Prop :=
 (wanted x.1 s.o.g=true/\∃ v,B8 H s.o.op x.1 x.2=some (v,y.2)/\y.1=BW x.1 s.o.dst v/\CK y.1 y.2 s.chk=true) \/
 (wanted x.1 s.o.g=false/\y=(BW x.1 s.o.dst AV.un,x.2))
theorem Aiw {H:G6}:∀ (ss:List AL) (F:Fr) (σ:St) (F':Fr) (σ':St),Cd H ss F σ=some (F',σ') ->
  ∃ tr:Nat->Fr×St,tr 0=(F,σ)/\tr ss.length=(F',σ')/\∀ (p:Nat) (s:AL),ss[p]? = some s->YV H s (tr p) (tr (p+1)):=by
 intro ss
 induction ss with
 | nil =>
  intro F σ F' σ' h
  simp only [Cd,Option.some.injEq,Prod.mk.injEq] at h
  obtain ⟨rfl,rfl⟩:=h
  exact ⟨fun _=>(F,σ),rfl,rfl,fun p s h=>by simp at h⟩
 | cons s r ih =>
  intro F σ F' σ' h
  simp only [Cd] at h
  have fin:∀ F1 σ1,Cd H r F1 σ1=some (F',σ')->YV H s (F,σ) (F1,σ1) ->
    ∃ tr:Nat->Fr×St,tr 0=(F,σ)/\tr (s::r).length=(F',σ')/\∀ (p:Nat) (s':AL),(s::r)[p]? = some s'->YV H s' (tr p) (tr (p+1)):=by
   intro F1 σ1 hr hs
   obtain ⟨tr,h1,h2,h3⟩:=ih F1 σ1 F' σ' hr
   refine ⟨fun n=>match n with | 0=>(F,σ) | n+1=>tr n,rfl,h2,fun p s' hp=>?_⟩
   cases p with
   | zero =>
    simp only [List.getElem?_cons_zero,Option.some.injEq] at hp
    subst hp
    show YV H s (F,σ) (tr 0)
    rw [h1]
    exact hs
   | succ p=>exact h3 p s' (by simpa using hp)
  cases hw:wanted F s.o.g with
  | true =>
   rw [hw] at h
   simp only [cond_true] at h
   split at h
   .rename_i v σ1 hev
    cases hrc:CK (BW F s.o.dst v) σ1 s.chk with
    | false=>rw [hrc] at h;cases h
    | true =>
     rw [hrc] at h
     exact fin _ _ h (.inl ⟨hw,v,hev,rfl,hrc⟩)
   .cases h
  | false =>
   rw [hw] at h
   exact fin _ _ h (.inr ⟨hw,rfl⟩)
mutual
theorem AbF:∀ (a b:AV),AV.eqb a b=true->a=b
 | .b x,b,h=>by cases b<;>simp [AV.eqb] at h;rw [h]
 | .i k n,b,h=>by cases b<;>simp [AV.eqb] at h;rw [h.1,h.2]
 | .s x,b,h=>by
  cases b<;>simp [AV.eqb] at h
  rename_i y
  obtain ⟨⟨xs⟩⟩:=x
  obtain ⟨⟨ys⟩⟩:=y
  simp at h
  rw [h]
 | .p o,b,h=>by cases b<;>simp [AV.eqb] at h;rw [h]
 | .sl o n,b,h=>by cases b<;>simp [AV.eqb] at h;rw [h.1,h.2]
 | .f g x y,b,h=>by
  cases b<;>simp [AV.eqb] at h
  rw [h.1.1,QS _ _ h.1.2,QS _ _ h.2]
 | .nf,b,h=>by cases b<;>simp [AV.eqb] at h;rfl
 | .ag x,b,h=>by cases b<;>simp [AV.eqb] at h;rw [QS _ _ h]
 | .tu x,b,h=>by cases b<;>simp [AV.eqb] at h;rw [QS _ _ h]
theorem QS:∀ (a b:List AV),AV.eqbL a b=true->a=b
 | [],b,h=>by cases b<;>simp [AV.eqbL] at h;rfl
 | x::xs,b,h=>by
  cases b<;>simp [AV.eqbL] at h
  rw [AbF _ _ h.1,QS _ _ h.2]
end
theorem J4 {H:G6} {op:By} (h:op.writer=false) (F:Fr) (σ:St):B8 H op F σ=Av op F σ:=by
 cases op<;>first | rfl | (simp [By.writer] at h)
theorem Ma {op:By} (h:op.reader=true) {F:Fr} {σ σ':St} {v:AV} (he:Av op F σ=some (v,σ')):σ' = σ:=by
 cases op<;>first | (simp [By.reader] at h;done) | skip
 simp only [Av] at he
 split at he
 .split at he
  .cases he;rfl
  .cases he
 .cases he
def K7 (σ:St):Prop:=∀ id,σ.next<=id->σ.get id=none
theorem Jt {σ:St} (h:K7 σ) (ob:M0):K7 (σ.new ob):=by
 intro id hid
 have:σ.next+1<=id:=by simpa [St.new] using hid
 rw [BJ,if_neg (by omega)]
 exact h id (by omega)
theorem A3G {σ:St} (h:K7 σ) (ob:M0) {id off:Nat} {v:AV} (hl:σ.load1 id off=some v):(σ.new ob).load1 id off=some v:=by
 unfold St.load1 at hl ⊢
 have hne:id≠σ.next:=by
  rintro rfl
  rw [h _ (Nat.le_refl _)] at hl
  cases hl
 rw [BJ,if_neg hne]
 exact hl
theorem AeW {σ:St} (h:K7 σ) (ob:M0) {id:Nat}:∀ (n off:Nat) (vs:List AV),σ.loadN id off n=some vs->(σ.new ob).loadN id off n=some vs:=by
 intro n
 induction n with
 | zero=>intro off vs hl;exact hl
 | succ n ih =>
  intro off vs hl
  unfold St.loadN at hl ⊢
  split at hl
  .rename_i v hv
   rw [A3G h ob hv]
   simp only
   split at hl
   .rename_i vs' hvs
    rw [ih _ _ hvs]
    exact hl
   .cases hl
  .cases hl
theorem Acf {op:By} (h:op.reader=true) {F:Fr} {σ:St} (hn:K7 σ) (ob:M0) {v:AV} (he:Av op F σ=some (v,σ)):Av op F (σ.new ob)=some (v,σ.new ob):=by
 cases op<;>first | (simp [By.reader] at h;done) | skip
 rename_i n x
 simp only [Av] at he ⊢
 split at he
 .rename_i id off hv
  split at he
  .rename_i w hw
   simp only [Option.some.injEq,Prod.mk.injEq,and_true] at he
   subst he
   have:(σ.new ob).loadV n id off=some w:=by
    unfold St.loadV at hw ⊢
    cases n with
    | none=>exact A3G hn ob hw
    | some n =>
     simp only at hw ⊢
     split at hw
     .rename_i vs hvs
      rw [AeW hn ob _ _ _ hvs]
      exact hw
     .cases hw
   rw [this]
  .cases he
 .cases he
theorem Aho {σ0 σ:St} {ρ0 ρ:Re} {B:Nat} {W0 W:World} (hS:Dm σ ρ B W) (h:CX σ0 ρ0 W0 σ ρ W) (ob:M0):CX σ0 ρ0 W0 (σ.new ob) ρ W where
 ext:=h.ext
 nx:=by have:=h.nx;simp only [St.new];omega
 hs:=h.hs
 os:=h.os
 tape:=h.tape
 output:=h.output
 frame:=h.frame
 unre id h1 h2:=by
  have:=h.nx
  rw [BJ,if_neg (by omega)]
  exact h.unre id h1 h2
 fresh id ob' rb h1 h2 h3 h4:=by
  rw [BJ] at h2
  by_cases e:id=σ.next
  .subst e;rw [hS.dom _ (Nat.le_refl _)] at h4;cases h4
  .rw [if_neg e] at h2;exact h.fresh id ob' rb h1 h2 h3 h4
 old id ob' h1 h2:=by
  have:=h.nx
  rw [BJ,if_neg (by omega)] at h2
  exact h.old id ob' h1 h2
theorem AeM {σ0 σ:St} {ρ0 ρ:Re} {W0 W:World} (h:CX σ0 ρ0 W0 σ ρ W) {id:Nat} (hid:σ0.next<=id) (cur:Array Value) (ty:Nat) (e:Option (Nat×Nat)):CX σ0 ρ0 W0 σ (upd ρ id ⟨W.heap.size,0,e⟩) (W.alloc (.cells cur ty)) where
 ext j hj:=by rw [Cf (by omega)];exact h.ext j hj
 nx:=h.nx
 hs:=by have:=h.hs;simp;omega
 os:=h.os
 tape:=h.tape
 output:=h.output
 frame k hk hn:=by
  rw [heap_alloc_old W _ (Nat.lt_of_lt_of_le hk h.hs)]
  exact h.frame k hk hn
 unre:=h.unre
 fresh j ob rb h1 h2 h3 h4:=by
  by_cases e:j=id
  .subst e
   rw [CI] at h4
   cases h4
   exact .inl h.hs
  .rw [Cf e] at h4
   exact h.fresh j ob rb h1 h2 h3 h4
 old:=h.old
structure QD (P:Program) (B:Nat) (X:World->Prop) (H:G6) (ops:Array Oper) (ss:List AL) (n:Nat) (tr:Nat->Fr×St):Prop where
 keep:A33 B X
 hH:M2 P B X H
 ok:QE (Gf ops) (fun i=>(ops[i]?).bind (HS P ops)) ss []
 perm:∀ i,i < ops.size->∃ (p:Nat) (s:AL),ss[p]? = some s/\s.idx=i
 edges:∀ (j:Nat) (o:Oper) (e:Edge),ops[j]? = some o->e∈o.after.toList->Region.binds .any e=true->e.on < ops.size
 kept:KV ss=true
 irr:∀ i,i < ops.size->((Gf ops).getD i 0).testBit i=false
 step:∀ (p:Nat) (s:AL),ss[p]? = some s->YV H s (tr p) (tr (p+1))
 dst:∀ (p:Nat) (s:AL) (d:Nat),ss[p]? = some s->s.o.dst=some d->d < n
section
variable {P:Program} {B:Nat} {X:World->Prop} {H:G6} {ops:Array Oper} {ss:List AL} {n:Nat} {tr:Nat->Fr×St}
theorem QD.op (c:QD P B X H ops ss n tr) {p:Nat} {s:AL} (h:ss[p]? = some s):∃ o g,ops[s.idx]? = some o/\QV ops o.guard=some g/\s.o = { dst:=o.dst,g:=g,op:=Bt P o.op }:=by
 obtain ⟨h1,_,_⟩:=A2b ss [] c.ok p s h
 obtain ⟨o,h2,h3⟩:=Option.bind_eq_some_iff.1 h1
 unfold HS at h3
 split at h3
 .rename_i g hg
  simp only [Option.some.injEq] at h3
  exact ⟨o,g,h2,hg,h3.symm⟩
 .cases h3
theorem QD.pair (c:QD P B X H ops ss n tr) {p q:Nat} {s s':AL} (hpq:p < q) (hp:ss[p]? = some s) (hq:ss[q]? = some s') :
  ((Gf ops).getD s.idx 0).testBit s'.idx=false/\s.idx≠s'.idx/\(((Gf ops).getD s'.idx 0).testBit s.idx=false->Py s.o s'.o=true/\s.o.op.writer=false/\(s'.o.op.writer=true->s.o.op.reader=true->s.o∈s'.chk)):=by
 obtain ⟨_,h2,_⟩:=A2b ss [] c.ok q s' hq
 have:=h2 p s hpq hp (s.idx,s.o) (by simp)
 exact this
theorem QD.uniq (c:QD P B X H ops ss n tr) {p q:Nat} {s s':AL} (hp:ss[p]? = some s) (hq:ss[q]? = some s') (he:s.idx=s'.idx):p=q:=by
 rcases Nat.lt_trichotomy p q with h | h | h
 .exact absurd he (c.pair h hp hq).2.1
 .exact h
 .exact absurd he.symm (c.pair h hq hp).2.1
theorem QD.fr_other (c:QD P B X H ops ss n tr) {p:Nat} {s:AL} (h:ss[p]? = some s) {x:Nat} (hx:s.o.dst≠some x):Fr.tmp (tr (p+1)).1 x=Fr.tmp (tr p).1 x:=by
 have key:∀ v,Fr.tmp (BW (tr p).1 s.o.dst v) x=Fr.tmp (tr p).1 x:=by
  intro v
  cases hd:s.o.dst with
  | none=>rfl
  | some d =>
   have:x≠d:=by rintro rfl;exact hx hd
   simp only [BW,Fr.tmp,Tm.get_set,if_neg this]
 rcases c.step p s h with ⟨_,v,_,h2,_⟩ | ⟨_,h2⟩
 .rw [h2];exact key v
 .rw [h2];exact key _
theorem A7L (F:Fr) (d:Nat) (v:AV):Fr.tmp (BW F (some d) v) d=v:=by simp [BW,Fr.tmp,Tm.get_set]
theorem Pr (F:Fr) {d x:Nat} (h:x≠d) (v:AV):Fr.tmp (BW F (some d) v) x=Fr.tmp F x:=by simp [BW,Fr.tmp,Tm.get_set,h]
theorem QD.fr_keep (c:QD P B X H ops ss n tr) {x p:Nat}:∀ (k:Nat),p+k<=ss.length->(∀ (q:Nat) (s:AL),p<=q->q < p+k->ss[q]? = some s->s.o.dst≠some x)->Fr.tmp (tr (p+k)).1 x=Fr.tmp (tr p).1 x:=by
 intro k
 induction k with
 | zero=>intro _ _;rfl
 | succ k ih =>
  intro hl h
  have hlt:p+k < ss.length:=by omega
  rw [show p+(k+1)=p+k+1 by omega,c.fr_other (List.getElem?_eq_getElem hlt) (h _ _ (by omega) (by omega) (List.getElem?_eq_getElem hlt))]
  exact ih (by omega) (fun q s h1 h2 h3=>h q s h1 (by omega) h3)
theorem QD.nw (c:QD P B X H ops ss n tr) {p:Nat} {s:AL} (h:ss[p]? = some s) (hw:s.o.op.writer=false) :
  (tr (p+1)).2=(tr p).2\/∃ ob mk,s.o.op.alloc=true/\wanted (tr p).1 s.o.g=true/\Da s.o.op (tr p).1=some (ob,mk)/\(tr (p+1)).2=(tr p).2.new ob:=by
 rcases c.step p s h with ⟨hwa,v,h1,h2,_⟩ | ⟨_,h2⟩
 .rw [J4 hw] at h1
  cases hr:s.o.op.reader with
  | true=>exact .inl (Ma hr h1)
  | false =>
   cases ha:s.o.op.alloc with
   | false=>exact .inl (A3j hw hr ha h1).1
   | true =>
    rw [KX ha] at h1
    obtain ⟨⟨ob,mk⟩,h3,h4⟩:=map_some h1
    simp only [Prod.mk.injEq] at h4
    exact .inr ⟨ob,mk,rfl,hwa,h3,h4.2.symm⟩
 .left;rw [h2]
theorem Aav {F:Fr} {σ:St}:∀ (l:List AI),CK F σ l=true->∀ o,o∈l->wanted F o.g=true->∃ v d,Av o.op F σ=some v/\o.dst=some d/\v.1=Fr.tmp F d:=by
 intro l
 induction l with
 | nil=>intro _ o h;simp at h
 | cons c r ih =>
  intro h o ho hw
  simp only [CK,and_eq_true] at h
  rcases List.mem_cons.1 ho with rfl | ho
  .have h1:=h.1
   rw [hw] at h1
   simp only [cond_true] at h1
   split at h1
   .rename_i v σ' hv
    split at h1
    .rename_i d hd
     exact ⟨_,d,hv,hd,AbF _ _ h1⟩
    .cases h1
   .cases h1
  .exact ih h.2 o ho hw
theorem QD.stable (c:QD P B X H ops ss n tr) {p:Nat} {sp:AL} (hp:ss[p]? = some sp) (hr:sp.o.op.reader=true) (hw:wanted (tr p).1 sp.o.g=true) {v:AV} (hv:Av sp.o.op (tr p).1 (tr p).2=some (v,(tr p).2)) :
  ∀ (k:Nat),p+1+k<=ss.length->(∀ q,p<=q->q<=p+1+k->K7 (tr q).2)->(∀ (w:Nat) (sw:AL),p < w->w < p+1+k->ss[w]? = some sw->sw.o.op.writer=true->((Gf ops).getD sw.idx 0).testBit sp.idx=false) ->
   Av sp.o.op (tr p).1 (tr (p+1+k)).2=some (v,(tr (p+1+k)).2):=by
 have hwr:sp.o.op.writer=false:=by
  cases ho:sp.o.op<;>rw [ho] at hr<;>first | rfl | (simp [By.reader] at hr)
 have hal:sp.o.op.alloc=false:=by
  cases ho:sp.o.op<;>rw [ho] at hr<;>first | rfl | (simp [By.reader] at hr)
 intro k
 induction k with
 | zero =>
  intro _ _ _
  rcases c.nw hp hwr with h | ⟨ob,mk,h,_⟩
  .rw [Nat.add_zero,h];exact hv
  .rw [hal] at h;cases h
 | succ k ih =>
  intro hl hnd hun
  have ih':=ih (by omega) (fun q h1 h2=>hnd q h1 (by omega)) (fun w sw h1 h2=>hun w sw h1 (by omega))
  have hlt:p+1+k < ss.length:=by omega
  have hs:=List.getElem?_eq_getElem hlt
  generalize hsd:ss[p+1+k]=s at hs
  rw [show p+1+(k+1)=p+1+k+1 by omega]
  cases hww:s.o.op.writer with
  | false =>
   rcases c.nw hs hww with h | ⟨ob,mk,_,_,_,h⟩
   .rw [h];exact ih'
   .rw [h];exact Acf hr (hnd _ (by omega) (by omega)) ob ih'
  | true =>
   have hu:=hun (p+1+k) s (by omega) (by omega) hs hww
   have hmem:=((c.pair (by omega) hp hs).2.2 hu).2.2 hww hr
   have hne:s.chk≠[]:=by intro e;rw [e] at hmem;simp at hmem
   have hk:=fun q2 s2 h1 h2=>Abu ss c.kept p (p+1+k) sp s (by omega) hp hs hr hne q2 s2 h1 h2
   rcases c.step _ s hs with ⟨_,v',h1,h2,h3⟩ | ⟨_,h2⟩
   ·-- it was looked at again
    have own:=(hk (p+1+k) s (by omega) hs).2
    have same:∀ x,x∈sp.o.reads->Fr.tmp (tr (p+1+k+1)).1 x=Fr.tmp (tr p).1 x:=by
     intro x hx
     have h4:=c.fr_keep (x:=x) (p:=p) (k+2) (by omega) (fun q s2 h5 h6 h7 h8=>by
      by_cases e:q=p
      .subst e
       rw [hp] at h7
       cases h7
       exact own x h8 hx
      .exact ((hk q s2 (by omega) h7).1 x h8).1 hx)
     rw [show p+1+k+1=p+(k+2) by omega]
     exact h4
    have hg:wanted (tr (p+1+k+1)).1 sp.o.g=true:=by
     rw [<- hw]
     refine RF fun t w hgt=>same t ?_
     unfold AI.reads
     rw [hgt]
     simp
    obtain ⟨v2,d,h4,h5,h6⟩:=Aav _ h3 _ hmem hg
    have hcong:Av sp.o.op (tr (p+1+k+1)).1 (tr (p+1+k+1)).2=Av sp.o.op (tr p).1 (tr (p+1+k+1)).2:=AbG fun t ht=>same t (by unfold AI.reads;exact List.mem_append_right _ ht)
    have hval:Fr.tmp (tr (p+1+k+1)).1 d=v:=by
     have h7:=c.fr_keep (x:=d) (p:=p+1) (k+1) (by omega) (fun q s2 h8 h9 h10 h11=>((hk q s2 (by omega) h10).1 d h11).2 h5)
     rw [show p+1+k+1=p+1+(k+1) by omega,h7]
     rcases c.step p sp hp with ⟨_,v3,h12,h13,_⟩ | ⟨h12,_⟩
     .rw [h13,h5,A7L]
      rw [J4 hwr,hv] at h12
      simp only [Option.some.injEq,Prod.mk.injEq] at h12
      exact h12.1.symm
     .rw [hw] at h12;cases h12
    rw [hcong] at h4
    obtain ⟨v2a,v2b⟩:=v2
    have:=Ma hr h4
    subst this
    simp only at h6
    rw [h4,h6,hval]
   .rw [h2];exact ih'
end
end Go.AM
namespace Go.AM
open Go
section
variable {P:Program} {B:Nat} {X:World->Prop} {H:G6} {ops:Array Oper} {ss:List AL} {n:Nat} {tr:Nat->Fr×St}
structure J0 (B:Nat) (X:World->Prop) (ops:Array Oper) (ss:List AL) (tr:Nat->Fr×St) (ρ0:Re) (W0:World) (a0:Act) (listed:Array Bool) (a:Act) (W:World) (t:Nat) (ρ:Re) (G:Fr):Prop where
 tl:t<=ss.length
 lt:∀ (p:Nat) (s:AL),ss[p]? = some s->C3 listed s.idx->p < t
 wd:∀ (p:Nat) (s:AL),ss[p]? = some s->p < t->s.o.op.writer=true->C3 listed s.idx
 fr:FR ρ G a.tmps
 g1:∀ (x q:Nat) (s:AL),ss[q]? = some s->C3 listed s.idx->s.o.dst=some x->(∀ (q':Nat) (s':AL),ss[q']? = some s'->C3 listed s'.idx->q < q'->s'.o.dst≠some x)->Fr.tmp G x=Fr.tmp (tr (q+1)).1 x
 g0:∀ (x:Nat),(∀ (q:Nat) (s:AL),ss[q]? = some s->C3 listed s.idx->s.o.dst≠some x)->Fr.tmp G x=Fr.tmp (tr 0).1 x
 sim:Dm (tr t).2 ρ B W
 goes:CX (tr 0).2 ρ0 W0 (tr t).2 ρ W
 xw:X W
 nd:∀ q,q<=t->K7 (tr q).2
 al:∀ (p:Nat) (s:AL) (ob:M0) (mk:Nat->AV),ss[p]? = some s->p < t->¬ C3 listed s.idx->s.o.op.alloc=true->wanted (tr p).1 s.o.g=true->Da s.o.op (tr p).1=some (ob,mk) ->
  ρ (tr p).2.next=none/\(tr t).2.get (tr p).2.next=some ob/\(tr p).2.next < (tr t).2.next
 nxs:∀ (p q:Nat),p<=q->q<=t->(tr p).2.next<=(tr q).2.next
 sz:a.tmps.size=a0.tmps.size
 df:a.defers=a0.defers
 lsz:listed.size=ops.size
 cl:QB ops listed
structure J (B:Nat) (X:World->Prop) (ops:Array Oper) (ss:List AL) (tr:Nat->Fr×St) (ρ0:Re) (W0:World) (a0:Act) (listed:Array Bool) (a:Act) (W:World) (t:Nat) (ρ:Re) (G:Fr):Prop extends J0 B X ops ss tr ρ0 W0 a0 listed a W t ρ G where
 tw:∀ s,ss[t]? = some s->s.o.op.writer=true/\¬ C3 listed s.idx
theorem QD.adv (c:QD P B X H ops ss n tr) {ρ0:Re} {W0:World} {a0:Act} {listed:Array Bool} {a:Act} {W:World} {ρ:Re} {G:Fr}:∀ (k t:Nat),ss.length - t=k->J0 B X ops ss tr ρ0 W0 a0 listed a W t ρ G->∃ t',J B X ops ss tr ρ0 W0 a0 listed a W t' ρ G:=by
  intro k
  induction k with
  | zero =>
    intro t hk j
    refine ⟨t,{ toJ0:=j,tw:=fun s hs=>?_ }⟩
    have:=(List.getElem?_eq_some_iff.1 hs).1
    omega
  | succ k ih =>
    intro t hk j
    have hlt:t < ss.length:=by omega
    have hs:=List.getElem?_eq_getElem hlt
    generalize hsd:ss[t]=s at hs
    cases hw:s.o.op.writer with
    | true =>
      refine ⟨t,{ toJ0:=j,tw:=fun s' hs'=>?_ }⟩
      rw [hs] at hs'
      cases hs'
      exact ⟨hw,fun hd=>Nat.lt_irrefl _ (j.lt t s hs hd)⟩
    | false =>
      have hnot:¬ C3 listed s.idx:=fun hd=>Nat.lt_irrefl _ (j.lt t s hs hd)
      refine ih (t+1) (by omega) ?_
      have common:∀ (hsim:Dm (tr (t+1)).2 ρ B W) (hgoes:CX (tr 0).2 ρ0 W0 (tr (t+1)).2 ρ W) (hnx:(tr t).2.next<=(tr (t+1)).2.next)
          (hal:∀ (p:Nat) (s:AL) (ob:M0) (mk:Nat->AV),ss[p]? = some s->p < t+1->¬ C3 listed s.idx->s.o.op.alloc=true->wanted (tr p).1 s.o.g=true->Da s.o.op (tr p).1=some (ob,mk)->ρ (tr p).2.next=none/\(tr (t+1)).2.get (tr p).2.next=some ob/\(tr p).2.next < (tr (t+1)).2.next),
          J0 B X ops ss tr ρ0 W0 a0 listed a W (t+1) ρ G:=by
        intro hsim hgoes hnx hal
        exact { tl := hlt, lt := fun p s' h1 h2 => Nat.lt_succ_of_lt (j.lt p s' h1 h2)
                wd:=fun p s' h1 h2 h3=>by
                  by_cases e:p=t
                  · subst e;rw [hs] at h1;cases h1;rw [hw] at h3;cases h3
                  · exact j.wd p s' h1 (by omega) h3
                fr:=j.fr,g1:=j.g1,g0:=j.g0,sim:=hsim,goes:=hgoes,xw:=j.xw
                nd:=fun q hq=>by
                  by_cases e:q=t+1
                  · subst e;exact hsim.ndom
                  · exact j.nd q (by omega)
                al:=hal
                nxs:=fun p q h1 h2=>by
                  by_cases e:q=t+1
                  · subst e
                    by_cases e2:p=t+1
                    · subst e2;exact Nat.le_refl _
                    · exact Nat.le_trans (j.nxs p t (by omega) (Nat.le_refl _)) hnx
                  · exact j.nxs p q h1 (by omega)
                sz:=j.sz,df:=j.df,lsz:=j.lsz,cl:=j.cl }
      rcases c.nw hs hw with h | ⟨ob,mk,ha,hwa,hav,h⟩
      · refine common (h ▸ j.sim) (h ▸ j.goes) (by rw [h]; exact Nat.le_refl _) ?_
        intro p s' ob mk h1 h2 h3 h4 h5 h6
        rw [h]
        by_cases e:p=t
        · subst e
          rw [hs] at h1
          cases h1
          exfalso
          rcases c.step p s hs with ⟨_,v,h7,_,_⟩ | ⟨h7,_⟩
          · rw [J4 hw, KX h4, h6] at h7
            simp only [Option.map_some,Option.some.injEq,Prod.mk.injEq] at h7
            have h8:=congrArg St.next h7.2
            rw [h] at h8
            simp only [St.new] at h8
            omega
          · rw [h5] at h7;cases h7
        · exact j.al p s' ob mk h1 (by omega) h3 h4 h5 h6
      · refine common (h ▸ A1A j.sim ob) (h ▸ Aho j.sim j.goes ob) (by rw [h]; simp [St.new]) ?_
        intro p s' ob' mk' h1 h2 h3 h4 h5 h6
        rw [h,BJ]
        by_cases e:p=t
        · subst e
          rw [hs] at h1
          cases h1
          rw [hav] at h6
          cases h6
          exact ⟨j.sim.dom _ (Nat.le_refl _),by rw [if_pos rfl],by simp [St.new]⟩
        · obtain ⟨h7, h8, h9⟩ := j.al p s' ob' mk' h1 (by omega) h3 h4 h5 h6
          refine ⟨h7,?_,by simp only [St.new];omega⟩
          rw [if_neg (by omega)]
          exact h8
theorem Ch {l:Array Bool} {i j:Nat} (hi:i < l.size):C3 (l.setIfInBounds i true) j↔j=i\/C3 l j:=by
 unfold C3
 simp only [Array.getD_eq_getD_getElem?,Array.getElem?_setIfInBounds]
 by_cases e:i=j
 .subst e;simp [hi]
 .simp [e,Ne.symm e]
theorem XP (p:Nat->Prop):∀ k,(∃ q,q < k/\p q/\∀ q',q < q'->q' < k->¬ p q')\/∀ q,q < k->¬ p q:=by
 intro k
 induction k with
 | zero=>exact .inr fun q h=>by omega
 | succ k ih =>
  by_cases hk:p k
  .exact .inl ⟨k,by omega,hk,fun q' h1 h2=>by omega⟩
  .rcases ih with ⟨q,h1,h2,h3⟩ | h
   .refine .inl ⟨q,by omega,h2,fun q' h4 h5=>?_⟩
    by_cases e:q' = k
    .subst e;exact hk
    .exact h3 q' h4 (by omega)
   .refine .inr fun q h1=>?_
    by_cases e:q=k
    .subst e;exact hk
    .exact h q (by omega)
theorem QD.ready (c:QD P B X H ops ss n tr) {listed:Array Bool} (hl:listed.size=ops.size) (hc:QB ops listed) {i:Nat} (hi:i∈Region.ready .any ops listed) :
  i < ops.size/\¬ C3 listed i/\QB ops (listed.setIfInBounds i true):=by
 unfold Region.ready at hi
 obtain ⟨h1,h2⟩:=List.mem_filter.1 hi
 have hlt:i < ops.size:=List.mem_range.1 h1
 simp only [and_eq_true,not_eq_true'] at h2
 refine ⟨hlt,?_,?_⟩
 .unfold C3
  have h3:=h2.1
  simp only [Array.getD_eq_getD_getElem?] at h3 ⊢
  rw [Array.getElem?_eq_getElem (by omega)] at h3 ⊢
  simp only [getD_some] at h3 ⊢
  rw [h3];simp
 .intro j o ho hj e he hb
  rw [Ch (by omega)] at hj ⊢
  rcases hj with rfl | hj
  .rw [ho] at h2
   have h4:=h2.2
   simp only [Option.map_some,getD_some] at h4
   rw [<- Array.all_toList,List.all_eq_true] at h4
   have:=h4 e he
   rw [hb] at this
   right
   simpa [C3] using this
  .exact .inr (hc j o ho hj e he hb)
theorem QD.g_read (c:QD P B X H ops ss n tr) {ρ0:Re} {W0:World} {a0:Act} {listed:Array Bool} {a:Act} {W:World} {t:Nat} {ρ:Re} {G:Fr} (j:J B X ops ss tr ρ0 W0 a0 listed a W t ρ G)
  {p:Nat} {s:AL} (hp:ss[p]? = some s) (hi:s.idx < ops.size) (hnd:¬ C3 listed s.idx) (hcl:QB ops (listed.setIfInBounds s.idx true)) {x:Nat} (hx:x∈s.o.reads):Fr.tmp G x=Fr.tmp (tr p).1 x:=by
 have hlp:=(List.getElem?_eq_some_iff.1 hp).1
 have hls:s.idx < listed.size:=by rw [j.lsz];exact hi
 have behind:∀ (q:Nat) (s':AL),ss[q]? = some s'->C3 listed s'.idx->p < q->s'.o.dst≠some x:=by
  intro q s' hq hd hpq hdst
  obtain ⟨_,_,h3⟩:=c.pair hpq hp hq
  cases hb:((Gf ops).getD s'.idx 0).testBit s.idx with
  | true=>exact hnd (Gg j.cl hb hd)
  | false =>
   have:=(h3 hb).1
   simp only [Py,and_eq_true] at this
   have h4:=this.2
   rw [hdst] at h4
   simp at h4
   exact h4 hx
 rcases XP (fun q=>∃ s',ss[q]? = some s'/\s'.o.dst=some x) p with ⟨q,hqp,⟨s',hq,hdst⟩,hmax⟩ | hnone
 .have hdone:C3 listed s'.idx:=by
   obtain ⟨_,h2,h3⟩:=c.pair hqp hq hp
   cases hb:((Gf ops).getD s.idx 0).testBit s'.idx with
   | true =>
    have h4:C3 (listed.setIfInBounds s.idx true) s'.idx:=Gg hcl hb ((Ch hls).2 (.inl rfl))
    rcases (Ch hls).1 h4 with h5 | h5
    .exact absurd h5 h2
    .exact h5
   | false =>
    have:=(h3 hb).1
    simp only [Py,and_eq_true] at this
    have h4:=this.1
    rw [hdst] at h4
    simp at h4
    exact absurd hx h4.1
  rw [j.g1 x q s' hq hdone hdst (fun q' s2 h1 h2 h3=>by
   rcases Nat.lt_trichotomy q' p with h4 | h4 | h4
   .exact fun h5=>hmax q' h3 h4 ⟨s2,h1,h5⟩
   .subst h4;rw [hp] at h1;cases h1;exact absurd h2 hnd
   .exact behind q' s2 h1 h2 h4)]
  obtain ⟨k,hk⟩:∃ k,p=q+1+k:=⟨p - (q+1),by omega⟩
  subst hk
  exact (c.fr_keep (x:=x) (p:=q+1) k (by omega) (fun q' s2 h1 h2 h3 h4=>hmax q' (by omega) h2 ⟨s2,h3,h4⟩)).symm
 .rw [j.g0 x (fun q s' hq hd=>by
   rcases Nat.lt_trichotomy q p with h4 | h4 | h4
   .exact fun h5=>hnone q h4 ⟨s',hq,h5⟩
   .subst h4;rw [hp] at hq;cases hq;exact absurd hd hnd
   .exact behind q s' hq hd h4)]
  have:=c.fr_keep (x:=x) (p:=0) p (by omega) (fun q' s2 h1 h2 h3 h4=>hnone q' (by omega) ⟨s2,h3,h4⟩)
  rw [Nat.zero_add] at this
  exact this.symm
theorem QD.g_step (c:QD P B X H ops ss n tr) {ρ0:Re} {W0:World} {a0:Act} {listed:Array Bool} {a:Act} {W:World} {t:Nat} {ρ:Re} {G:Fr} (j:J B X ops ss tr ρ0 W0 a0 listed a W t ρ G)
  {p:Nat} {s:AL} (hp:ss[p]? = some s) (hi:s.idx < ops.size) (hnd:¬ C3 listed s.idx) {v:AV} (hv:(tr (p+1)).1=BW (tr p).1 s.o.dst v) :
  (∀ (x q:Nat) (s':AL),ss[q]? = some s'->C3 (listed.setIfInBounds s.idx true) s'.idx->s'.o.dst=some x->(∀ (q':Nat) (s2:AL),ss[q']? = some s2->C3 (listed.setIfInBounds s.idx true) s2.idx->q < q'->s2.o.dst≠some x)->Fr.tmp (BW G s.o.dst v) x=Fr.tmp (tr (q+1)).1 x) /\
  (∀ (x:Nat),(∀ (q:Nat) (s':AL),ss[q]? = some s'->C3 (listed.setIfInBounds s.idx true) s'.idx->s'.o.dst≠some x)->Fr.tmp (BW G s.o.dst v) x=Fr.tmp (tr 0).1 x):=by
 have hls:s.idx < listed.size:=by rw [j.lsz];exact hi
 constructor
 .intro x q s' hq hd hdst hmax
  by_cases e:q=p
  .subst e
   rw [hp] at hq
   cases hq
   rw [hv,hdst,A7L,A7L]
  .have hd':C3 listed s'.idx:=by
    rcases (Ch hls).1 hd with h | h
    .exact absurd (c.uniq hq hp h) e
    .exact h
   have hne:s.o.dst≠some x:=by
    intro hsx
    rcases Nat.lt_or_gt_of_ne e with h | h
    .exact hmax p s hp ((Ch hls).2 (.inl rfl)) h hsx
    ·-- q is behind p and writes the same: then p is done
     obtain ⟨_,_,h3⟩:=c.pair h hp hq
     cases hb:((Gf ops).getD s'.idx 0).testBit s.idx with
     | true=>exact hnd (Gg j.cl hb hd')
     | false =>
      have:=(h3 hb).1
      simp only [Py,and_eq_true] at this
      have h4:=this.1
      rw [hsx,hdst] at h4
      simp at h4
   have:Fr.tmp (BW G s.o.dst v) x=Fr.tmp G x:=by
    cases hsd:s.o.dst with
    | none=>rfl
    | some d=>exact Pr _ (by rintro rfl;exact hne hsd) _
   rw [this]
   exact j.g1 x q s' hq hd' hdst (fun q' s2 h1 h2 h3=>hmax q' s2 h1 ((Ch hls).2 (.inr h2)) h3)
 .intro x hx
  have hne:s.o.dst≠some x:=hx p s hp ((Ch hls).2 (.inl rfl))
  have:Fr.tmp (BW G s.o.dst v) x=Fr.tmp G x:=by
   cases hsd:s.o.dst with
   | none=>rfl
   | some d=>exact Pr _ (by rintro rfl;exact hne hsd) _
  rw [this]
  exact j.g0 x (fun q s' h1 h2=>hx q s' h1 ((Ch hls).2 (.inr h2)))
theorem QD.one (c:QD P B X H ops ss n tr) {ρ0:Re} {W0:World} {a0:Act} {listed:Array Bool} {a:Act} {W:World} {t:Nat} {ρ:Re} {G:Fr} (hn:n<=a0.tmps.size) (j:J B X ops ss tr ρ0 W0 a0 listed a W t ρ G)
    {i:Nat} (hi:i∈Region.ready .any ops listed) {K:Act->World->Prop} {Q:Exit->Act->World->Prop}
    (hK:∀ a' W' t' ρ' G',J B X ops ss tr ρ0 W0 a0 (listed.setIfInBounds i true) a' W' t' ρ' G'->K a' W'):wpOp P ops Q i K a W:=by
  obtain ⟨hlt,hnd,hcl⟩:=c.ready j.lsz j.cl hi
  obtain ⟨p,s,hp,rfl⟩:=c.perm i hlt
  obtain ⟨o,g,ho,hg,hso⟩:=c.op hp
  have hls:s.idx < listed.size:=by rw [j.lsz];exact hlt
  have hlp:=(List.getElem?_eq_some_iff.1 hp).1
  have hdn:∀ k,o.dst=some k->k < n:=fun k hk=>c.dst p s k hp (by rw [hso];exact hk)
  have hna:n<=a.tmps.size:=by rw [j.sz];exact hn
  have hread:∀ x,x∈s.o.reads->Fr.tmp G x=Fr.tmp (tr p).1 x:=fun x hx=>c.g_read j hp hlt hnd hcl hx
  have hwant:Region.wanted o (yielded ops a.tmps)=wanted (tr p).1 s.o.g:=by
    rw [A6j hg j.fr,hso]
    refine RF fun t w hgt=>hread t ?_
    rw [hso]
    unfold AI.reads
    simp only [hgt]
    simp
  have hcong:∀ σ,B8 H s.o.op G σ=B8 H s.o.op (tr p).1 σ:=fun σ=>QT fun t ht=>hread t (by unfold AI.reads;exact List.mem_append_right _ ht)
  have hop:s.o.op=Bt P o.op:=by rw [hso]
  have hdst:s.o.dst=o.dst:=by rw [hso]
  have hclosed:∀ (q:Nat) (s':AL),ss[q]? = some s'->((Gf ops).getD s.idx 0).testBit s'.idx=true->s'.idx≠s.idx->C3 listed s'.idx:=by
    intro q s' hq hb hne
    have:=Gg hcl hb ((Ch hls).2 (.inl rfl))
    exact ((Ch hls).1 this).resolve_left hne
  have hple:p<=t:=by
    rcases Nat.lt_or_ge t p with h | h
    · exfalso
      have htl:t < ss.length:=by omega
      have hst:=List.getElem?_eq_getElem htl
      obtain ⟨hw,hnt⟩:=j.tw _ hst
      obtain ⟨_,h2,h3⟩:=c.pair h hst hp
      cases hb:((Gf ops).getD s.idx 0).testBit ss[t].idx with
      | true=>exact hnt (hclosed t _ hst hb h2)
      | false=>rw [(h3 hb).2.1] at hw;cases hw
    · exact h
  have ltdone:∀ (q:Nat) (s':AL),ss[q]? = some s'->C3 (listed.setIfInBounds s.idx true) s'.idx->q=p\/q < t:=by
    intro q s' hq hd
    rcases (Ch hls).1 hd with h | h
    · exact .inl (c.uniq hq hp h)
    · exact .inr (j.lt q s' hq h)
  unfold wpOp
  rw [ho]
  simp only
  rw [hwant]
  cases hwr:s.o.op.writer with
  | true =>
    have hpt:p=t:=by
      rcases Nat.lt_or_ge p t with h | h
      · exact absurd (j.wd p s hp h hwr) hnd
      · omega
    subst hpt
    have next:∀ (v:AV) (u:Value) (ρ':Re) (W':World),(tr (p+1)).1=BW (tr p).1 s.o.dst v->CJ ρ' v u->Dm (tr (p+1)).2 ρ' B W'->CX (tr p).2 ρ W (tr (p+1)).2 ρ' W'->K (a.put o.dst u) W':=by
      intro v u ρ' W' hv hr hS hG
      obtain ⟨hg1,hg0⟩:=c.g_step j hp hlt hnd hv
      have hle:=j.sim.le hG
      have j0:J0 B X ops ss tr ρ0 W0 a0 (listed.setIfInBounds s.idx true) (a.put o.dst u) W' (p+1) ρ' (BW G s.o.dst v) :=
        { tl := hlp
          lt:=fun q s' h1 h2=>by rcases ltdone q s' h1 h2 with h | h<;>omega
          wd:=fun q s' h1 h2 h3=>(Ch hls).2 (by
            by_cases e:q=p
            · subst e;rw [hp] at h1;cases h1;exact .inl rfl
            · exact .inr (j.wd q s' h1 (by omega) h3))
          fr:=by rw [hdst];exact FR.put (j.fr.mono hle) hna hdn hr
          g1:=hg1
          g0:=hg0
          sim:=hS
          goes:=j.goes.trans hG
          xw:=c.keep W W' (hG.below j.sim) j.xw
          nd:=fun q hq=>by
            by_cases e:q=p+1
            · subst e;exact hS.ndom
            · exact j.nd q (by omega)
          al:=fun q s' ob mk h1 h2 h3 h4 h5 h6=>by
            have hqp:q≠p:=by
              rintro rfl
              rw [hp] at h1
              cases h1
              exact h3 ((Ch hls).2 (.inl rfl))
            obtain ⟨h7,h8,h9⟩:=j.al q s' ob mk h1 (by omega) (fun h=>h3 ((Ch hls).2 (.inr h))) h4 h5 h6
            exact ⟨(hG.ext _ h9).trans h7,(hG.unre _ h9 h7).trans h8,Nat.lt_of_lt_of_le h9 hG.nx⟩
          nxs:=fun q r h1 h2=>by
            by_cases e:r=p+1
            · subst e
              by_cases e2:q=p+1
              · subst e2;exact Nat.le_refl _
              · exact Nat.le_trans (j.nxs q p (by omega) (Nat.le_refl _)) hG.nx
            · exact j.nxs q r h1 (by omega)
          sz:=by rw [KC];exact j.sz
          df:=by rw [Ls];exact j.df
          lsz:=by simp [j.lsz]
          cl:=hcl }
      obtain ⟨t',j'⟩:=c.adv _ _ rfl j0
      exact hK _ _ _ _ _ j'
    rcases c.step p s hp with ⟨h1,v,h2,h3,_⟩ | ⟨h1,h2⟩
    · rw [h1]
      simp only [if_true]
      rw [<- hcong] at h2
      exact .inl (Qq c.hH hop j.sim j.xw j.fr h2 fun u ρ' W' h4 h5 h6=>next v u ρ' W' h3 h6 h4 h5)
    · rw [h1]
      simp only [false_eq_true,if_false]
      have h3:(tr (p+1)).1=BW (tr p).1 s.o.dst AV.un:=by rw [h2]
      have h4:(tr (p+1)).2=(tr p).2:=by rw [h2]
      exact next AV.un undef ρ W h3 (A1Z _) (h4 ▸ j.sim) (by rw [h4];exact CX.refl _ _ _ j.sim)
  | false =>
    have hpt:p < t:=by
      rcases Nat.lt_or_ge p t with h | h
      · exact h
      · have : p = t := by omega
        subst this
        rw [(j.tw s hp).1] at hwr
        cases hwr
    have same:∀ (v:AV) (u:Value) (ρ':Re) (W':World),(tr (p+1)).1=BW (tr p).1 s.o.dst v->CJ ρ' v u->Le ρ ρ'->Dm (tr t).2 ρ' B W'->CX (tr 0).2 ρ0 W0 (tr t).2 ρ' W'->RowKit.Below B W W' ->
        (∀ (q:Nat) (s':AL),ss[q]? = some s'->q≠p->ρ (tr q).2.next=none->q < t->s'.o.op.alloc=true->(tr q).2.next < (tr t).2.next->wanted (tr q).1 s'.o.g=true->(Da s'.o.op (tr q).1).isSome=true->ρ' (tr q).2.next=none)->K (a.put o.dst u) W':=by
      intro v u ρ' W' hv hr hle hS hG hbel hal
      obtain ⟨hg1,hg0⟩:=c.g_step j hp hlt hnd hv
      have j':J B X ops ss tr ρ0 W0 a0 (listed.setIfInBounds s.idx true) (a.put o.dst u) W' t ρ' (BW G s.o.dst v) :=
        { tl := j.tl
          lt:=fun q s' h1 h2=>by rcases ltdone q s' h1 h2 with h | h<;>omega
          wd:=fun q s' h1 h2 h3=>(Ch hls).2 (.inr (j.wd q s' h1 h2 h3))
          fr:=by rw [hdst];exact FR.put (j.fr.mono hle) hna hdn hr
          g1:=hg1
          g0:=hg0
          sim:=hS
          goes:=hG
          xw:=c.keep W W' hbel j.xw
          nd:=j.nd
          al:=fun q s' ob mk h1 h2 h3 h4 h5 h6=>by
            have hqp:q≠p:=by
              rintro rfl
              rw [hp] at h1
              cases h1
              exact h3 ((Ch hls).2 (.inl rfl))
            obtain ⟨h7,h8,h9⟩:=j.al q s' ob mk h1 h2 (fun h=>h3 ((Ch hls).2 (.inr h))) h4 h5 h6
            exact ⟨hal q s' h1 hqp h7 h2 h4 h9 h5 (by rw [h6];rfl),h8,h9⟩
          nxs:=j.nxs
          sz:=by rw [KC];exact j.sz
          df:=by rw [Ls];exact j.df
          lsz:=by simp [j.lsz]
          cl:=hcl
          tw:=fun s' h1=>by
            obtain ⟨h2,h3⟩:=j.tw s' h1
            refine ⟨h2,fun hd=>?_⟩
            rcases (Ch hls).1 hd with h | h
            · have := c.uniq h1 hp h
              omega
            · exact h3 h }
      exact hK _ _ _ _ _ j'
    rcases c.step p s hp with ⟨h1,v,h2,h3,_⟩ | ⟨h1,h2⟩
    · rw [h1]
      simp only [if_true]
      left
      have h2':Av s.o.op (tr p).1 (tr p).2=some (v,(tr (p+1)).2):=by rw [<- J4 hwr (H:=H)];exact h2
      cases hal:s.o.op.alloc with
      | true =>
        have h2a:=h2'
        rw [KX hal] at h2a
        obtain ⟨⟨ob,mk⟩,h4,h5⟩:=map_some h2a
        simp only [Prod.mk.injEq] at h5
        obtain ⟨h5,h6⟩:=h5
        obtain ⟨h7,h8,h9⟩:=j.al p s ob mk hp hpt hnd hal h1 h4
        have h4':Da s.o.op G=some (ob,mk):=by
          rw [<- h4]
          exact A6z hal fun t ht=>hread t (by unfold AI.reads;exact List.mem_append_right _ ht)
        have hgen:Bt? P o.op=some s.o.op:=by
          unfold Bt at hop
          split at hop
          · rename_i op' hg'
            rw [hop,hg']
          · rw [hop] at hal;simp [By.alloc] at hal
        obtain ⟨cur,u,hrun,hrw,hlen,hcells,hrep⟩:=Ael j.fr hgen hal h4' W
        have hS:=AdO j.sim h9 h8 h7 hrw cur hlen hcells
        unfold Oper.wp
        rw [hrun]
        refine same v u _ _ h3 ?_ (Ac1 h7) hS (AeM j.goes (j.nxs 0 p (by omega) (by omega)) cur ob.ty _) ?_ ?_
        · rw [<- h5]
          exact hrep _ _ (CI _ _ _)
        · exact (RowKit.Below.refl _ _).alloc j.sim.hB _
        · intro q s' hq hqp hnone hqt ha2 hlt2 hw2 hsome
          have hne:(tr q).2.next≠(tr p).2.next:=by
            have strict:∀ (q:Nat) (s':AL),ss[q]? = some s'->q < t->s'.o.op.alloc=true->wanted (tr q).1 s'.o.g=true->(tr (q+1)).2.next=(tr q).2.next+1:=by
              intro q s' hq hqt ha2 hw2
              have hnw:s'.o.op.writer=false:=by
                cases he:s'.o.op<;>rw [he] at ha2<;>first | rfl | (simp [By.alloc] at ha2)
              rcases c.step q s' hq with ⟨_,v',h10,_,_⟩ | ⟨h10,_⟩
              · rw [J4 hnw, KX ha2] at h10
                obtain ⟨⟨ob',mk'⟩,_,h12⟩:=map_some h10
                simp only [Prod.mk.injEq] at h12
                rw [<- h12.2]
                rfl
              · rw [hw2] at h10;cases h10
            rcases Nat.lt_or_gt_of_ne hqp with h | h
            · have h10 := strict q s' hq hqt ha2 hw2
              have:=j.nxs (q+1) p (by omega) (by omega)
              omega
            · have h10 := strict p s hp hpt hal h1
              have:=j.nxs (p+1) q (by omega) (by omega)
              omega
          rw [Cf hne]
          exact hnone
      | false =>
        have h4:Av s.o.op (tr p).1 (tr t).2=some (v,(tr t).2):=by
          cases hrd:s.o.op.reader with
          | false=>exact (A3j hwr hrd hal h2').2 _
          | true =>
            have h5:=Ma hrd h2'
            rw [h5] at h2'
            obtain ⟨k,rfl⟩:∃ k,t=p+1+k:=⟨t - (p+1),by omega⟩
            refine c.stable hp hrd h1 h2' k j.tl (fun q _ h6=>j.nd q h6) (fun w sw h6 h7 h8 h9=>?_)
            cases hb:((Gf ops).getD sw.idx 0).testBit s.idx with
            | false=>rfl
            | true=>exact absurd (Gg j.cl hb (j.wd w sw h8 h7 h9)) hnd
        have h5:B8 H s.o.op G (tr t).2=some (v,(tr t).2):=by
          rw [hcong,J4 hwr]
          exact h4
        refine Qq c.hH hop j.sim j.xw j.fr h5 fun u ρ' W' h6 h7 h8=>?_
        refine same v u ρ' W' h3 h8 (j.sim.le h7) h6 (j.goes.trans h7) (h7.below j.sim) ?_
        intro q s' _ _ hnone _ _ hlt2 _ _
        rw [h7.ext _ hlt2]
        exact hnone
    · rw [h1]
      simp only [false_eq_true,if_false]
      refine same AV.un undef ρ W (by rw [h2]) (A1Z _) (Le.refl _) j.sim j.goes (RowKit.Below.refl _ _) ?_
      intro q s' _ _ hnone _ _ _ _ _
      exact hnone
def Aa7 (ops:Array Oper) (listed:Array Bool):Nat:=((List.range ops.size).filter fun i=>!listed.getD i true).length
theorem Aa8 {ops:Array Oper} {listed:Array Bool} {i:Nat} (hl:listed.size=ops.size) (hi:i < ops.size) (hn:¬ C3 listed i):Aa7 ops (listed.setIfInBounds i true) < Aa7 ops listed:=by
 unfold Aa7
 have h1:∀ j,(listed.setIfInBounds i true).getD j true=(if j=i then true else listed.getD j true):=by
  intro j
  simp only [Array.getD_eq_getD_getElem?,Array.getElem?_setIfInBounds]
  by_cases e:i=j
  .subst e;simp [hl,hi]
  .simp [e,Ne.symm e]
 have h2:listed.getD i true=false:=by
  unfold C3 at hn
  simp only [Array.getD_eq_getD_getElem?] at hn ⊢
  rw [Array.getElem?_eq_getElem (by omega)] at hn ⊢
  simpa using hn
 have key:∀ (l:List Nat),(l.filter fun j=>!(listed.setIfInBounds i true).getD j true).length<=(l.filter fun j=>!listed.getD j true).length/\(i∈l->(l.filter fun j=>!(listed.setIfInBounds i true).getD j true).length < (l.filter fun j=>!listed.getD j true).length):=by
  intro l
  induction l with
  | nil=>simp
  | cons d l ih =>
   simp only [List.filter_cons,h1]
   simp only [h1] at ih
   by_cases e:d=i
   .subst e
    simp only [if_true,Bool.not_true,false_eq_true,if_false,h2,Bool.not_false]
    refine ⟨by simp only [if_true,List.length_cons];omega,fun _=>by simp only [if_true,List.length_cons];omega⟩
   .simp only [if_neg e]
    cases listed.getD d true
    .simp only [Bool.not_false,if_true,List.length_cons]
     refine ⟨by omega,fun h=>?_⟩
     rcases List.mem_cons.1 h with h | h
     .exact absurd h.symm e
     .have:=ih.2 h;omega
    .simp only [Bool.not_true,false_eq_true,if_false]
     refine ⟨ih.1,fun h=>?_⟩
     rcases List.mem_cons.1 h with h | h
     .exact absurd h.symm e
     .exact ih.2 h
 exact (key _).2 (List.mem_range.2 hi)
theorem QD.all (c:QD P B X H ops ss n tr) {listed:Array Bool} (hl:listed.size=ops.size) (hr:Region.ready .any ops listed=[]):∀ (p:Nat) (s:AL),ss[p]? = some s->C3 listed s.idx:=by
 intro p
 induction p using Nat.strongRecOn with
 | _ p ih =>
  intro s hp
  apply Classical.byContradiction
  intro hnd
  obtain ⟨o,g,ho,_,_⟩:=c.op hp
  have hlt:s.idx < ops.size:=(Array.getElem?_eq_some_iff.1 ho).1
  have hmem:s.idx∈Region.ready .any ops listed:=by
   unfold Region.ready
   refine List.mem_filter.2 ⟨List.mem_range.2 hlt,?_⟩
   simp only [and_eq_true,not_eq_true',ho,Option.map_some,getD_some]
   refine ⟨?_,?_⟩
   .unfold C3 at hnd
    simp only [Array.getD_eq_getD_getElem?] at hnd ⊢
    rw [Array.getElem?_eq_getElem (by omega)] at hnd ⊢
    simpa using hnd
   .rw [<- Array.all_toList,List.all_eq_true]
    intro e he
    cases hb:Region.binds .any e with
    | false=>rfl
    | true =>
     obtain ⟨q,s',hq,hqe⟩:=c.perm e.on (c.edges _ o e ho he hb)
     have hd:=A7c ho he hb
     rw [<- hqe] at hd
     rcases Nat.lt_trichotomy q p with h | h | h
     .have:=ih q h s' hq
      rw [hqe] at this
      simpa [C3] using this
     .subst h
      rw [hp] at hq
      cases hq
      rw [c.irr _ hlt] at hd
      cases hd
     .have:=(c.pair h hp hq).1
      rw [hd] at this
      cases this
  rw [hr] at hmem
  simp at hmem
theorem QD.any (c:QD P B X H ops ss n tr) {ρ0:Re} {W0:World} {a0:Act} (hn:n<=a0.tmps.size) {Q:Exit->Act->World->Prop}
  (hQ:∀ a W ρ,FR ρ (tr ss.length).1 a.tmps->Dm (tr ss.length).2 ρ B W->CX (tr 0).2 ρ0 W0 (tr ss.length).2 ρ W->a.tmps.size=a0.tmps.size->a.defers=a0.defers->Q .normal a W) :
  ∀ (fuel:Nat) (listed:Array Bool) (a:Act) (W:World),Aa7 ops listed<=fuel->(∃ t ρ G,J B X ops ss tr ρ0 W0 a0 listed a W t ρ G)->wpAny P .any ops Q fuel listed a W:=by
 have fin:∀ (listed:Array Bool) (a:Act) (W:World),(∃ t ρ G,J B X ops ss tr ρ0 W0 a0 listed a W t ρ G)->Region.ready .any ops listed=[]->Q .normal a W:=by
  rintro listed a W ⟨t,ρ,G,j⟩ hr
  have hall:=c.all j.lsz hr
  have ht:t=ss.length:=by
   rcases Nat.lt_or_ge t ss.length with h | h
   .have hs:=List.getElem?_eq_getElem h
    exact absurd (hall t _ hs) (j.tw _ hs).2
   .have:=j.tl;omega
  subst ht
  refine hQ a W ρ (fun x=>?_) j.sim j.goes j.sz j.df
  have hG:Fr.tmp G x=Fr.tmp (tr ss.length).1 x:=by
   rcases XP (fun q=>∃ s',ss[q]? = some s'/\s'.o.dst=some x) ss.length with ⟨q,hqp,⟨s',hq,hdst⟩,hmax⟩ | hnone
   .rw [j.g1 x q s' hq (hall q s' hq) hdst (fun q' s2 h1 h2 h3 h4=>hmax q' h3 (List.getElem?_eq_some_iff.1 h1).1 ⟨s2,h1,h4⟩)]
    obtain ⟨k,hk⟩:∃ k,ss.length=q+1+k:=⟨ss.length - (q+1),by omega⟩
    have:=c.fr_keep (x:=x) (p:=q+1) k (by omega) (fun q' s2 h1 h2 h3 h4=>hmax q' (by omega) (by omega) ⟨s2,h3,h4⟩)
    rw [hk]
    exact this.symm
   .rw [j.g0 x (fun q s' hq hd h5=>hnone q (List.getElem?_eq_some_iff.1 hq).1 ⟨s',hq,h5⟩)]
    have:=c.fr_keep (x:=x) (p:=0) ss.length (by omega) (fun q' s2 h1 h2 h3 h4=>hnone q' (by omega) ⟨s2,h3,h4⟩)
    rw [Nat.zero_add] at this
    exact this.symm
  rw [<- hG]
  exact j.fr x
 intro fuel
 induction fuel with
 | zero =>
  intro listed a W hf hj
  have hr:Region.ready .any ops listed=[]:=by
   obtain ⟨t,ρ,G,j⟩:=hj
   cases he:Region.ready .any ops listed with
   | nil=>rfl
   | cons i r =>
    obtain ⟨h1,h2,_⟩:=c.ready j.lsz j.cl (i:=i) (by rw [he];simp)
    have:=Aa8 j.lsz h1 h2
    omega
  exact ⟨hr,fin listed a W hj hr⟩
 | succ fuel ih =>
  intro listed a W hf hj
  refine ⟨fun hr=>fin listed a W hj hr,fun i hi=>?_⟩
  obtain ⟨t,ρ,G,j⟩:=hj
  obtain ⟨h1,h2,_⟩:=c.ready j.lsz j.cl hi
  have:=Aa8 j.lsz h1 h2
  exact c.one hn j hi fun a' W' t' ρ' G' j'=>ih _ a' W' (by omega) ⟨t',ρ',G',j'⟩
end
theorem AbM {P:Program} {ops:Array Oper} {ss:List AL} (h:YA P ops=some ss) :
  QE (Gf ops) (fun i=>(ops[i]?).bind (HS P ops)) ss []/\(∀ i,i < ops.size->i∈ss.map (·.idx)/\((Gf ops).getD i 0).testBit i=false) /\
  (∀ (j:Nat) (o:Oper) (e:Edge),ops[j]? = some o->e∈o.after.toList->Region.binds .any e=true->e.on < ops.size)/\KV ss=true:=by
 unfold YA at h
 simp only at h
 generalize hord:A7k _ _ _ _ _ _=ord at h
 cases hb:(Nat.beq ord.length ops.size && (List.range ops.size).all (fun i=>ord.contains i && !((Gf ops).getD i 0).testBit i) && ops.toList.all (fun o=>o.after.toList.all fun e=>!Region.binds .any e || Nat.blt e.on ops.size)) with
 | false=>rw [hb] at h;cases h
 | true =>
  rw [hb] at h
  simp only [cond_true] at h
  cases hss:NA (Gf ops) (fun i=>(ops[i]?).bind (HS P ops)) ord [] with
  | none=>rw [hss] at h;cases h
  | some ss' =>
  rw [hss] at h
  simp only at h
  cases hk:KV ss' with
  | false=>rw [hk] at h;cases h
  | true =>
   rw [hk] at h
   simp only [cond_true,Option.some.injEq] at h
   subst h
   obtain ⟨h1,h2⟩:=Aca _ _ _ hss
   simp only [and_eq_true,List.all_eq_true] at hb
   refine ⟨h1,fun i hi=>?_,fun j o e ho he hbi=>?_,hk⟩
   .have:=hb.1.2 i (List.mem_range.2 hi)
    rw [h2]
    simpa using this
   .have:=hb.2 o (Array.mem_toList_iff.2 (Array.mem_of_getElem? ho)) e he
    rw [hbi] at this
    simpa [Nat.blt_eq] using this
theorem AbC {P:Program} {B:Nat} {X:World->Prop} (hm:P.follows .mixedOrders=true) (hX:A33 B X):RJ P B X:=by
  intro H hH id ops ss n F σ F' σ' ρ W a hg hr hd hn hF hS hXW
  obtain ⟨hok,hperm,hedges,hkept⟩:=AbM hg
  obtain ⟨tr,h0,h1,hstep⟩:=Aiw ss F σ F' σ' hr
  have c:QD P B X H ops ss n tr :=
    { keep := hX, hH := hH, ok := hok
      perm:=fun i hi=>by
        obtain ⟨s,hs,hse⟩:=List.mem_map.1 (hperm i hi).1
        obtain ⟨p,hp⟩:=List.mem_iff_getElem?.1 hs
        exact ⟨p,s,hp,hse⟩
      edges:=hedges,kept:=hkept,irr:=fun i hi=>(hperm i hi).2,step:=hstep
      dst:=fun p s d hp hsd=>by
        have:=(List.all_eq_true.1 hd) s (List.mem_of_getElem? hp)
        unfold A3i at this
        rw [hsd] at this
        simpa [Nat.blt_eq] using this }
  have hS':Dm σ ρ B { W with drawn:=W.drawn+1 }:=⟨fun id ob rb h1 h2=>by
      have:=hS.live id ob rb h1 h2
      exact ⟨this.cells,this.own,this.ro⟩,hS.dom,hS.ndom,hS.excl,hS.hB⟩
  have hg0:CX σ ρ W σ ρ { W with drawn:=W.drawn+1 } :=
    { ext:=fun _ _=>rfl,nx:=Nat.le_refl _,hs:=Nat.le_refl _,os:=rfl,tape:=rfl,output:=rfl,frame:=fun _ _ _=>rfl,unre:=fun _ _ _=>rfl,
      fresh:=fun id ob rb h1 h2 _ _=>by rw [hS.ndom id h1] at h2;cases h2
      old:=fun id ob h1 h2=>⟨ob,h2,rfl⟩ }
  have hX':X { W with drawn:=W.drawn+1 }:=hX W _ (hg0.below hS) hXW
  have nd:∀ i,¬ C3 (Array.replicate ops.size false) i:=by
    intro i
    unfold C3
    simp only [Array.getD_eq_getD_getElem?,Array.getElem?_replicate]
    split<;>simp
  have j0:J0 B X ops ss tr ρ { W with drawn:=W.drawn+1 } a (Array.replicate ops.size false) a { W with drawn:=W.drawn+1 } 0 ρ F :=
    { tl := Nat.zero_le _, lt := fun p s _ h => absurd h (nd _), wd := fun p s _ h => by omega, fr := hF
      g1:=fun x q s _ h=>absurd h (nd _),g0:=fun x _=>by rw [h0]
      sim:=by rw [h0];exact hS'
      goes:=by rw [h0];exact CX.refl _ _ _ hS'
      xw:=hX'
      nd:=fun q hq=>by
        have:q=0:=by omega
        subst this
        rw [h0]
        exact hS.ndom
      al:=fun p s ob mk _ h=>by omega
      nxs:=fun p q h1 h2=>by
        have:q=0:=by omega
        subst this
        have:p=0:=by omega
        subst this
        exact Nat.le_refl _
      sz:=rfl,df:=rfl,lsz:=by simp
      cl:=fun j o _ h=>absurd h (nd _) }
  obtain ⟨t,j⟩:=c.adv _ 0 rfl j0
  refine wp_region_any hm (c.any hn (ρ0:=ρ) (W0:={ W with drawn:=W.drawn+1 }) (a0:=a) ?_ ops.size _ a _ ?_ ⟨t,ρ,F,j⟩)
  · intro a' W' ρ' h2 h3 h4 h5 h6
    rw [h1] at h2 h3 h4
    rw [h0] at h4
    exact ⟨ρ',rfl,h2,h3,hg0.trans h4,h5,h6⟩
  · unfold Aa7
    exact Nat.le_trans (List.length_filter_le _ _) (by simp)
end Go.AM
