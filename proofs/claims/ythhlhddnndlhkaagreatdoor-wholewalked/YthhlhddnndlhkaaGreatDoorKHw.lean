/-
  Own work, part of the proof of these laws: what functions compute.
-/
import Derived.Test.YthhlhddnndlhkaaGreatDoorKGw
set_option maxRecDepth 10000
set_option maxHeartbeats 64000000
set_option linter.unusedVariables false
set_option linter.unusedSimpArgs false
set_option linter.unusedSectionVars false
set_option linter.unnecessarySimpa false
open Bool (and_eq_true false_eq_true)
open Int (toNat_natCast)
namespace Go.AM
open Go Go.Proofs
def Ax4:G7:=leaf WH ⟨A0F,Q1⟩
theorem AhM:∀ n:Fin 65,A7V (AS,A7P) Ax4 (leaf Hy ⟨Kd,Lc⟩) 5000 ⟨A0d,Q0⟩ [.i .u64 1,.i .u64 ((n.val:Nat):Int)] [] (.tu [.i .u64 0,.i .u64 ((n.val:Nat):Int)])=true:=by decide +kernel
def LJ (x:Int) (m n:Nat):List Int:=List.replicate m x++List.replicate (n - m) 0
theorem AeO {x:Int} {m n:Nat} (h:m<=n):(LJ x m n).length=n:=by simp [LJ];omega
theorem AbR {x:Int} {m n:Nat} (h:m<=n):(LJ x m n).take m=List.replicate m x:=by
 unfold LJ
 rw [List.take_left' (by simp)]
theorem AbQ (x:Int) (n:Nat):LJ x n n=List.replicate n x:=by simp [LJ]
theorem AeP {x:Int} {n:Nat} (h:0 < n):List.take (min 1 n) [[VV.i IntKind.i64 x]]++List.map eI (List.drop (min 1 n) (List.replicate n 0))=(LJ x 1 n).map eI:=by
 rw [show min 1 n=1 by omega]
 simp [LJ]
theorem AbP {x:Int} {m n:Nat} (h:m<=n):(List.replicate m x).map eI++((List.take (min m (n - m)) (List.replicate m x)).map eI++(List.drop (m+min m (n - m)) (LJ x m n)).map eI)=(LJ x (m+min m (n - m)) n).map eI:=by
 unfold LJ
 rw [<- List.map_append,<- List.map_append,List.take_replicate,List.drop_append]
 simp only [List.length_replicate,List.drop_replicate]
 rw [show min (min m (n - m)) m=min m (n - m) by omega,show m - (m+min m (n - m))=0 by omega,List.replicate_zero,List.nil_append,show m+min m (n - m) - m=min m (n - m) by omega,
  <- List.append_assoc,List.replicate_append_replicate,show n - m - min m (n - m)=n - (m+min m (n - m)) by omega]
theorem Ars (l:List Int):((l.map eI).all fun r=>r.all VV.cell)=true:=by
 rw [List.all_eq_true]
 intro r hr
 obtain ⟨x,_,rfl⟩:=List.mem_map.1 hr
 rfl
section
variable {V:At} (C:Aq V) {Q:VV->Prop}
include C
theorem A8u {n:Nat} (hn:n<=64):VP V Qj [vW 1#64,.i .u64 (n:Int)] Q↔Q (.tu [vW 0#64,.i .u64 (n:Int)]) :=
 Ae (Bl (a:=⟨Qj,[.i .u64 1,.i .u64 (n:Int)],.tu [.i .u64 0,.i .u64 (n:Int)]⟩) (.of (.leaf C.c_z232) (.leaf C.h_z147) C.c_mathbits_TrailingZeros64) C.c_z195.1 C.c_z195.2 .nil (AhM ⟨n,by omega⟩))
theorem Xi (x:Int) {n:Nat} (hn:n<=64) (h0:0 < n) (b:Nat) {Q:VV->VH->Prop}:VP1 V Vn [.ls [[.i .i64 x]],.i .i64 n] b Q↔Q (.sl b 0 0 n) [some ⟨AO,1,0,false,(List.replicate n x).map eI⟩]:=by
 refine K8 ?_
 rw [K9 C.c_z150.2]
 have b1:n * 8<=Aa:=by unfold Aa;omega
 have q1:¬ (n:Int) < 0:=by omega
 have q2:¬ ((n:Int):Int) > 9223372036854775807:=by omega
 have q3:IntKind.u64.wrap (n:Int)=n:=by
  rw [show IntKind.u64.wrap (n:Int)=(n:Int) % 18446744073709551616 from rfl];omega
 have q4:IntKind.i64.wrap (n:Int)=n:=Az (by omega) (by omega)
 have q5:IntKind.u64.wrap 1=1:=rfl
 have q7:Bk .gtr none (vW 0#64) (vW 0#64)=some (.b false):=rfl
 have q6:¬ (9223372036854775807:Int) < (n:Int):=by omega
 simp only [ZL,go_sem,↓reduceIte,b1,q1,q2,q3,q4,A8u C hn,Int.le_refl,q5,q6,q7,toNat_natCast]
 unfold VL
 rw [A0]
 refine AT (M:=Nat) (I:=fun m F h=>0 < m/\m<=n/\A4.tmp F 7 = .sl 0 0 0 n/\A4.tmp F 8 = .i .i64 m/\h=[some ⟨AO,1,0,false,(LJ x m n).map eI⟩]) (μ:=fun m=>n - m) ?_ 1 _ _ ⟨by omega,by omega,?_,?_,?_⟩
 .rintro m F h ⟨m0,mn,p7,p8,rfl⟩
  by_cases c:m < n
  .have c1:(m:Int) < (n:Int):=by omega
   have hl:=AeO (x:=x) mn
   have hcp:=AbP (x:=x) mn
   have e1:min m n=m:=by omega
   have e2:decide (m+(n - m)<=n)=true:=decide_eq_true (by omega)
   have e3:IntKind.i64.wrap ((m:Int)+((min m (n - m):Nat):Int))=((m+min m (n - m):Nat):Int):=by rw [Az (by omega) (by omega)];omega
   simp only [A73,go_sem,↓reduceIte,p7,p8,c1,A0,hl,mn,AbR mn,e1,e2,hcp,e3,Ars]
   exact ⟨m+min m (n - m),by omega,by omega,by omega,rfl,rfl⟩
  .have c1:¬ (m:Int) < (n:Int):=by omega
   have e:m=n:=by omega
   subst e
   simp only [A73,go_sem,↓reduceIte,p7,p8,c1,A0,AbQ,BF]
   simp
 .simp only [go_sem,↓reduceIte]
 .simp only [go_sem,↓reduceIte]
  omega
 .rw [AeP h0]
end
abbrev eSn (t:A1) (x f:List Int):List VV:=[.i .i64 t.vals,lS t.locs,.ls (t.regs.map JE),.ls (t.nodes.map eN),vW (Cc x),lI (onL t x f),lW (Ak t.nodes.length fun a b=>Ap t a b)]
abbrev vSn (t:A1) (x f:List Int):VV:=.fp (eSn t x f) 0
section
variable {V:At} (C:Aq V) {Q:VV->Prop}
include C
theorem A2h (n:AX):VP V Qn [vN n] Q↔Q (.b (GA n)):=by
 refine Ae ?_
 rw [Ad C.c_z240.1 C.c_z240.2]
 cases c0:decide (n.kind=3)<;>cases c1:decide (0<=n.thread)<;>cases c4:decide (n.kind=4)<;>cases c2:decide (n.mode=2)<;>cases c3:decide (n.mode=3) <;>
  simp only [A0L,go_sem,↓reduceIte,c0,c1,c2,c3,c4,GA]
theorem A2g (n:AX):VP V Ql [vN n] Q↔Q (.b (KP n)):=by
 refine Ae ?_
 rw [Ad C.c_z212.1 C.c_z212.2]
 cases c0:decide (n.kind=2)<;>cases c1:decide (n.kind=4)<;>cases c2:decide (n.mode=1)<;>cases c3:decide (n.mode=3) <;>
  simp only [A0q,go_sem,↓reduceIte,c0,c1,c2,c3,KP]
theorem Kq (t:A1) (x f:List Int) {n:Nat} (hn:n < t.nodes.length):VP V Wl [vSn t x f,.i .i64 n] Q↔Q (.b (decide (0<=(t.at n).thread))):=by
 refine Ae ?_
 rw [Ad C.c_z209.1 C.c_z209.2]
 simp only [A0o,go_sem,↓reduceIte,A7 hn]
theorem A2e (t:A1) (x f:List Int) {n:Nat} (hn:n < t.nodes.length) {g:Nat} {p:Bool} (hg:∀ Q:VV->Prop,VP V g [vN (t.at n)] Q↔Q (.b p)):VP V Wp [vSn t x f,.i .i64 n,.f g [] []] Q↔Q (.b (decide ((t.at n).kind=4) && p)):=by
 refine Ae ?_
 rw [Ad C.c_z213.1 C.c_z213.2]
 cases c:decide ((t.at n).kind=4)<;>simp only [A0r,go_sem,↓reduceIte,A7 hn,c,hg]
theorem A7F (t:A1) (ht:A5 t) (x f:List Int) (hx:Cu t x) {n:Nat} (hn:n < t.nodes.length):VP V Wn [vSn t x f,.i .i64 n] Q↔Q (.i .i64 (ahF t x f n)):=by
 refine Ae ?_
 rw [Ad C.c_z211.1 C.c_z211.2]
 have hh:=hx.has ht.n64
 unfold ahF
 rw [toNat_natCast]
 cases c:(t.at n).rmw with
 | false=>simp only [PR,go_sem,↓reduceIte,A7 hn,c,false_eq_true,false_and]
 | true =>
  cases c2:AU x (t.at n).up with
  | false=>simp only [PR,go_sem,↓reduceIte,A7 hn,c,AN C,hh,c2,false_eq_true,and_false]
  | true =>
   obtain ⟨m,hm1,hm⟩:=A8 (hx _ (A9.1 c2))
   rw [hm1] at c2 ⊢
   simp only [PR,go_sem,↓reduceIte,A7 hn,c,AN C,hh,c2,hm1,Lp hm,and_self]
theorem A7H (t:A1) (ht:A5 t) (x f:List Int) (hx:Cu t x) {n:Nat} (hn:n < t.nodes.length):VP V Wi [vSn t x f,.i .i64 n] Q↔Q (.b (Lw t x f n)):=by
 refine Ae ?_
 rw [Ad C.c_z204.1 C.c_z204.2]
 have hh:=hx.has ht.n64
 unfold Lw
 rw [toNat_natCast]
 cases c:decide ((t.at n).kind=2) with
 | false =>
  have c':=of_decide_eq_false c
  simp only [PQ,go_sem,↓reduceIte,A7 hn,c,Lp hn,c']
 | true =>
  have c':=of_decide_eq_true c
  cases c2:AU x (Ey x f n) with
  | false=>simp only [PQ,go_sem,↓reduceIte,A7 hn,c,Lp hn,c',AN C,hh,c2,Bool.false_and]
  | true =>
   obtain ⟨m,hm1,hm⟩:=A8 (hx _ (A9.1 c2))
   rw [hm1] at c2 ⊢
   cases c3:decide ((t.at m).kind=3)<;>simp only [PQ,go_sem,↓reduceIte,A7 hn,c,Lp hn,c',AN C,hh,c2,hm1,A7 hm,c3,HT,toNat_natCast,Bool.true_and,Bool.false_and]
theorem Acv (t:A1) (ht:A5 t) (x f:List Int) (hx:Cu t x) {w:Nat} (hw:w < t.nodes.length):VP V Wm [vSn t x f,.i .i64 w] Q↔Q (vW (KB t x w)):=by
 refine Ae ?_
 rw [Ad C.c_z210.1 C.c_z210.2]
 have h64:=ht.n64
 have hll:=CO (Cc x)
 obtain ⟨s0,hs0,hb0⟩:∃ s0,s0=(if GA (t.at w)=true then 0#64 ||| C4 (w:Int) else 0#64)/\∀ j,j < 64->s0.getLsbD j=(decide (j=w) && GA (t.at w)):=by
  refine ⟨_,rfl,fun j hj=>?_⟩
  by_cases c:GA (t.at w)=true
  .have e:decide ((j:Int)=(w:Int)/\j < 64)=decide (j=w):=decide_eq_decide.2 ⟨fun h=>by omega,fun h=>⟨by omega,hj⟩⟩
   rw [if_pos c,BitVec.getLsbD_or,CT,e,c];simp
  .rw [if_neg c,Bool.eq_false_iff.2 c];simp
 let p:Int->Bool:=fun n=>decide ((t.at n.toNat).kind=4) && GA (t.at n.toNat) && Ap t n w
 have hfin:DZ p s0 (Ay (Cc x))=KB t x w:=by
  apply B1
  intro j hj
  rw [Xb p j hj,hb0 j hj,KB,Au,Ace,decide_eq_true hj,Bool.and_true]
  have e1:AU (Ay (Cc x)) (j:Int)=AU x (j:Int):=by
   rw [Bool.eq_iff_iff,A9,A9];exact hx.list h64 _
  have e2:(decide (j=w) && GA (t.at w))=(decide ((j:Int)=(w:Int)) && GA (t.at j)):=by
   by_cases c:j=w
   .subst c;simp
   .have c':¬ (j:Int)=(w:Int):=by omega
    simp [c,c']
  rw [e1,e2]
  simp only [p,toNat_natCast,Bool.and_assoc]
 cases c0:GA (t.at w)<;>simp only [c0,false_eq_true,if_true,if_false] at hs0<;>(
 simp only [A0p,go_sem,↓reduceIte,A7 hw,A2h C,C0 C,CZ C,c0,<- hs0]
 refine Ag (by decide) (Ay (Cc x)).length (by omega) (I:=fun k F h=>A4.tmp F 0=vSn t x f/\A4.tmp F 1 = .i .i64 w/\A4.tmp F 24=lI (Ay (Cc x))/\h=[]/\A4.tmp F 5=vW (DZ p s0 ((Ay (Cc x)).take k))) ?_ ?_ 0 _ _ (by omega) ?_ ?_ ?_
 .rintro k F h hk p26 p25 ⟨p0,p1,p24,rfl,p5⟩
  obtain ⟨m,hm1,hm⟩:=A8 (hx _ ((hx.list h64 _).1 (Ai (d:=0) hk)))
  have hT:DZ p s0 ((Ay (Cc x)).take (k+1))=if p m=true then DZ p s0 ((Ay (Cc x)).take k) ||| C4 m else DZ p s0 ((Ay (Cc x)).take k):=by rw [Lq hk,hm1]
  have hp:p m=(decide ((t.at m).kind=4) && GA (t.at m) && Ap t m w):=by simp only [p,toNat_natCast]
  have hbar:=fun (Q:VV->Prop)=>A2e C t x f hm (g:=Qn) (p:=GA (t.at m)) (fun Q=>A2h C (t.at m)) (Q:=Q)
  rw [hT,hp]
  cases c1:(decide ((t.at m).kind=4) && GA (t.at m)) with
  | false=>simp only [go_sem,↓reduceIte,p26,p25,p0,p1,p24,p5,Ar hk,hk,hm1,hbar,c1,A0,Bool.false_and,false_eq_true]
  | true =>
   have hpo:=Gq (p:=fun a b=>Ap t a b) h64 hm hw
   rw [Lu hm] at hpo
   have hg:=Bm (n:=t.nodes.length) (p:=fun a b=>Ap t a b) hm
   cases c2:Ap t m w with
   | false =>
    rw [c2] at hpo
    simp only [go_sem,↓reduceIte,p26,p25,p0,p1,p24,p5,Ar hk,hk,hm1,hbar,c1,A0,hg,AN C,hpo,Bool.and_false,false_eq_true]
   | true =>
    rw [c2] at hpo
    simp only [go_sem,↓reduceIte,p26,p25,p0,p1,p24,p5,Ar hk,hk,hm1,hbar,c1,A0,hg,AN C,hpo,C0 C,Bool.and_self]
 .rintro F h ⟨p0,p1,p24,rfl,p5⟩
  simp only [go_sem,↓reduceIte,p0,p1,p24,p5,List.take_length,hfin]
 .simp only [go_sem,↓reduceIte]
 .simp only [go_sem,↓reduceIte]
 .simp only [go_sem,↓reduceIte]
  rfl)
theorem AaQ (t:A1) (ht:A5 t) (x f:List Int) (hx:Cu t x) {r:Nat} (hr:r < t.nodes.length):VP V Ln [vSn t x f,.i .i64 r] Q↔Q (vW (BS (G3 t x r))):=by
 refine Ae ?_
 rw [Ad C.c_z168.1 C.c_z168.2]
 have h64:=ht.n64
 let X:=Cc x &&& BS fun b=>decide (b < t.nodes.length) && Ap t r b
 have hX:X=Cc x &&& BS fun b=>decide (b < t.nodes.length) && Ap t r b:=rfl
 have hll:=CO X
 have hg:=Bm (n:=t.nodes.length) (p:=fun a b=>Ap t a b) hr
 have hXm:∀ y:Int,y∈Ay X↔y∈x/\Ap t r y=true:=by
  intro y
  rw [B4]
  constructor
  .intro h
   obtain ⟨h1,h2⟩:=CN h
   obtain ⟨m,rfl⟩:=Int.eq_ofNat_of_zero_le h1
   rw [AC,hX,BitVec.getLsbD_and,Au,and_eq_true,and_eq_true,and_eq_true] at h
   exact ⟨by rw [<- A9,<- hx.has h64,AC];exact h.1,h.2.1.2⟩
  .rintro ⟨h1,h2⟩
   obtain ⟨m,rfl,hm⟩:=A8 (hx _ h1)
   rw [AC,hX,BitVec.getLsbD_and,Au,h2,<- AC,hx.has h64,A9.2 h1,decide_eq_true hm,decide_eq_true (show m < 64 by omega)];rfl
 obtain ⟨s0,hs0,hb0⟩:∃ s0,s0=(if KP (t.at r)=true then 0#64 ||| C4 (r:Int) else 0#64)/\∀ j,j < 64->s0.getLsbD j=(decide (j=r) && KP (t.at r)):=by
  refine ⟨_,rfl,fun j hj=>?_⟩
  by_cases c:KP (t.at r)=true
  .have e:decide ((j:Int)=(r:Int)/\j < 64)=decide (j=r):=decide_eq_decide.2 ⟨fun h=>by omega,fun h=>⟨by omega,hj⟩⟩
   rw [if_pos c,BitVec.getLsbD_or,CT,e,c];simp
  .rw [if_neg c,Bool.eq_false_iff.2 c];simp
 let p:Int->Bool:=fun n=>decide ((t.at n.toNat).kind=4) && KP (t.at n.toNat)
 have hfin:DZ p s0 (Ay X)=BS (G3 t x r):=by
  apply B1
  intro j hj
  rw [Xb p j hj,hb0 j hj,Au,G3,decide_eq_true hj,Bool.and_true]
  have e1:AU (Ay X) (j:Int)=(AU x (j:Int) && Ap t r j):=by
   rw [Bool.eq_iff_iff,A9,hXm,and_eq_true,A9]
  have e2:(decide (j=r) && KP (t.at r))=(decide ((j:Int)=(r:Int)) && KP (t.at j)):=by
   by_cases c:j=r
   .subst c;simp
   .have c':¬ (j:Int)=(r:Int):=by omega
    simp [c,c']
  rw [e1,e2]
  simp only [p,toNat_natCast]
  cases AU x (j:Int)<;>cases Ap t r j<;>simp
 cases c0:KP (t.at r)<;>simp only [c0,false_eq_true,if_true,if_false] at hs0<;>(
 simp only [ZW,go_sem,↓reduceIte,A7 hr,A2g C,C0 C,CZ C,c0,hg,<- hs0,<- hX]
 refine Ag (by decide) (Ay X).length (by omega) (I:=fun k F h=>A4.tmp F 0=vSn t x f/\A4.tmp F 32=lI (Ay X)/\h=[]/\A4.tmp F 5=vW (DZ p s0 ((Ay X).take k))) ?_ ?_ 0 _ _ (by omega) ?_ ?_ ?_
 .rintro k F h hk p34 p33 ⟨p0,p32,rfl,p5⟩
  obtain ⟨m,hm1,hm⟩:=A8 (hx _ ((hXm _).1 (Ai (d:=0) hk)).1)
  have hT:DZ p s0 ((Ay X).take (k+1))=if p m=true then DZ p s0 ((Ay X).take k) ||| C4 m else DZ p s0 ((Ay X).take k):=by rw [Lq hk,hm1]
  have hp:p m=(decide ((t.at m).kind=4) && KP (t.at m)):=by simp only [p,toNat_natCast]
  have hbar:=fun (Q:VV->Prop)=>A2e C t x f hm (g:=Ql) (p:=KP (t.at m)) (fun Q=>A2g C (t.at m)) (Q:=Q)
  rw [hT,hp]
  cases c1:(decide ((t.at m).kind=4) && KP (t.at m)) with
  | false=>simp only [go_sem,↓reduceIte,p34,p33,p0,p32,p5,Ar hk,hk,hm1,hbar,c1,A0,false_eq_true]
  | true=>simp only [go_sem,↓reduceIte,p34,p33,p0,p32,p5,Ar hk,hk,hm1,hbar,c1,A0,C0 C]
 .rintro F h ⟨p0,p32,rfl,p5⟩
  simp only [go_sem,↓reduceIte,p0,p32,p5,List.take_length,hfin]
 .simp only [go_sem,↓reduceIte]
 .simp only [go_sem,↓reduceIte]
 .simp only [go_sem,↓reduceIte]
  rfl)
theorem Am5 {t:A1} (ht:A5 t) {x f:List Int} (hF:DO t x f) {w0:Int} (hw0:w0∈x) {i:Nat} (hoff:∀ j,j < i->JH t (EF t x f j w0)=false):Cu t (LX t x f w0 i):=by
 intro v hv
 obtain ⟨j,hj,rfl⟩:=YK.1 hv
 rcases PY ht hF hw0 j (fun k hk=>hoff k (by omega)) with e | e
 .have:=hoff j hj
  rw [e] at this;cases this
 .exact hF.node _ e
theorem A7G (t:A1) (ht:A5 t) (x f:List Int) (hF:DO t x f) {w0:Int} (hw0:w0∈x):VP V Lm [vSn t x f,.i .i64 w0] Q↔Q (vW (B3 t x f w0)):=by
 refine Ae ?_
 rw [Ad C.c_z167.1 C.c_z167.2]
 have h64:=ht.n64
 simp only [ZV,go_sem,↓reduceIte]
 unfold VL
 rw [A0]
 refine AT (M:=Nat) (I:=fun i F h=>h=[]/\A4.tmp F 0=vSn t x f/\A4.tmp F 1 = .i .i64 (EF t x f i w0)/\A4.tmp F 5=vW (A18 t x f w0 i)/\A4.tmp F 6=vW (Cc (LX t x f w0 i))/\(∀ j,j < i->JH t (EF t x f j w0)=false)/\(LX t x f w0 i).Nodup) (μ:=fun i=>x.length+1 - i) ?_ 0 _ _ ⟨rfl,?_,?_,?_,?_,by omega,by simp [LX]⟩
 .rintro i F h ⟨rfl,p0,p1,p5,p6,hoff,hnd⟩
  have hil:i<=x.length:=by
   have h1:(LX t x f w0 i).length=i:=by simp [LX]
   rw [<- h1]
   refine KA _ _ hnd fun v hv=>?_
   obtain ⟨j,hj,rfl⟩:=YK.1 hv
   rcases PY ht hF hw0 j (fun k hk=>hoff k (by omega)) with e | e
   .have:=hoff j hj
    rw [e] at this;cases this
   .exact e
  have hend:=Am4 ht hF hw0 hoff hnd
  rcases PY ht hF hw0 i hoff with e | e
  .have:=hend (.inl (by rw [e];rfl))
   rw [e] at p1
   simp only [R1,go_sem,↓reduceIte,p0,p1,p5,p6,A0,this]
  .obtain ⟨m,hm1,hm⟩:=A8 (hF.node _ e)
   rw [hm1] at p1
   cases c1:decide (0<=(t.at m).thread) with
   | false =>
    have ho:JH t (EF t x f i w0)=true:=by
     have:=of_decide_eq_false c1
     rw [hm1,JH,toNat_natCast,decide_eq_true (show (t.at m).thread < 0 by omega),Bool.or_true]
    have:=hend (.inl ho)
    simp only [R1,go_sem,↓reduceIte,p0,p1,p5,p6,A0,Kq C t x f hm,c1,this]
   | true =>
    have ho:JH t (EF t x f i w0)=false:=by
     have:=of_decide_eq_true c1
     rw [hm1,JH,toNat_natCast,decide_eq_false (show ¬ (t.at m).thread < 0 by omega),decide_eq_false (show ¬ (m:Int) < 0 by omega)];rfl
    have hway:=Am5 C ht hF hw0 hoff
    have hh:=hway.has h64 (m:Int)
    cases c2:AU (LX t x f w0 i) (m:Int) with
    | true =>
     rw [c2] at hh
     have:=hend (.inr (by rw [hm1];exact A9.1 c2))
     simp only [R1,go_sem,↓reduceIte,p0,p1,p5,p6,A0,Kq C t x f hm,c1,AN C,hh,this]
    | false =>
     rw [c2] at hh
     simp only [R1,go_sem,↓reduceIte,p0,p1,p5,p6,A0,Kq C t x f hm,c1,AN C,hh,Acv C t ht x f hF.node hm,C0 C,A7F C t ht x f hF.node hm]
     refine ⟨i+1,by omega,by rw [EF,hm1],by rw [AbS,hm1],by rw [A6k,hm1,Cc,Cc,List.foldl_append];rfl,fun j hj=>?_,?_⟩
     .rcases Nat.lt_or_ge j i with h1 | h1
      .exact hoff j h1
      .rw [show j=i by omega];exact ho
     .rw [A6k,hm1]
      have:(m:Int)∉LX t x f w0 i:=fun h=>by rw [A9.2 h] at c2;cases c2
      exact List.nodup_append.2 ⟨hnd,by simp,fun a ha b hb e=>this (by simp at hb;rw [<- hb,<- e];exact ha)⟩
 .simp only [go_sem,↓reduceIte]
 .simp only [go_sem,↓reduceIte]
  rfl
 .simp only [go_sem,↓reduceIte]
  rfl
 .simp only [go_sem,↓reduceIte]
  rfl
end
theorem AwS:min 5 (4+3)+(1+(4+3 - 6))=7:=rfl
theorem A7h (t:A1) (x:List Int) (k:Nat):Bz t x k=(!(decide (x.getD k 0 < 0) || decide ((t.nodes.length:Int)<=x.getD k 0) || (!decide (k=0) && decide (x.getD k 0<=x.getD (k - 1) 0)))):=by
 unfold Bz BP Di
 rw [Bool.eq_iff_iff]
 simp only [and_eq_true,Bool.or_eq_true,Bool.not_eq_true',Bool.or_eq_false_iff,decide_eq_true_eq,decide_eq_false_iff_not,Bool.and_eq_false_iff,Bool.not_eq_false']
 constructor
 .rintro ⟨⟨a,b⟩,c⟩
  exact ⟨⟨by omega,by omega⟩,c.imp id (by omega)⟩
 .rintro ⟨⟨a,b⟩,c⟩
  exact ⟨⟨by omega,by omega⟩,c.imp id (by omega)⟩
def onH (t:A1) (x f:List Int) (k:Nat):VH:=[some ⟨AO,1,0,false,(onK t x f k).map eI⟩,some ⟨Xq,0,0,false,[[.i .i64 t.vals,lS t.locs,.ls (t.regs.map JE),.ls (t.nodes.map eN),vW (Cc x),.sl 0 0 0 t.nodes.length,lW (Ak t.nodes.length fun a b=>Ap t a b)]]⟩]
def AhT (t:A1) (x f:List Int):VH:=[some ⟨AO,1,0,false,(onL t x f).map eI⟩,some ⟨Xq,0,0,false,[[.i .i64 t.vals,lS t.locs,.ls (t.regs.map JE),.ls (t.nodes.map eN),vW (Cc x),.sl 0 0 0 t.nodes.length,lW (Ak t.nodes.length fun a b=>Ap t a b)]]⟩]
theorem AlC (t:A1) (x f:List Int):onH t x f x.length=AhT t x f:=by rw [onH,AlD];rfl
theorem AdF {t:A1} {x f:List Int} {k m:Nat} (h:m < t.nodes.length):(onK t x f k)[m]? = some (Ey (x.take k) f (m:Int)):=by simp [onK,h]
theorem A1F (t:A1) (x f:List Int):(onL t x f).take t.nodes.length=onL t x f:=List.take_of_length_le (by rw [YO];omega)
section
variable {V:At} (C:Aq V) {Q:VV->Prop}
include C
theorem AfG (t:A1) (ht:A5 t) (x f:List Int) (hF:DO t x f):VP V VJ [vSn t x f,.f Lm [vSn t x f] [],.f Ln [vSn t x f] []] Q↔Q (lW (Ak t.nodes.length (swB t x f))):=by
 refine Ae ?_
 rw [Ad C.c_z166.1 C.c_z166.2]
 have h64:=ht.n64
 have hx:=hF.node
 have hll:=CO (Cc x)
 have hLm:=fun y=>hx.list h64 y
 simp only [ZU,go_sem,↓reduceIte,A1X C _ h64,CZ C]
 refine Ag (by decide) (Ay (Cc x)).length (by omega) (I:=fun k F h=>A4.tmp F 0=vSn t x f/\A4.tmp F 1 = .f Lm [vSn t x f] []/\A4.tmp F 2 = .f Ln [vSn t x f] []/\A4.tmp F 7 = .sl 0 0 0 t.nodes.length/\A4.tmp F 24=lI (Ay (Cc x))/\h=[some ⟨AK,1,0,false,(Ak t.nodes.length (Yp t x f ((Ay (Cc x)).take k))).map eW⟩]) ?_ ?_ 0 _ _ (by omega) ?_ ?_ ?_
 .rintro k F h hk p26 p25 ⟨p0,p1,p2,p7,p24,rfl⟩
  have hkm:(Ay (Cc x)).getD k 0∈x:=(hLm _).1 (Ai (d:=0) hk)
  obtain ⟨r,hr1,hr⟩:=A8 (hx _ hkm)
  have hrx:(r:Int)∈x:=by rw [<- hr1];exact hkm
  have hnext:∀ a b,Yp t x f ((Ay (Cc x)).take (k+1)) a b=(Yp t x f ((Ay (Cc x)).take k) a b || (Jw t x f r && Bc (B3 t x f (Ey x f r)) (a:Int) && G3 t x r b)):=fun a b=>by rw [AaP hk,hr1]
  have same:Jw t x f r=false->Ak t.nodes.length (Yp t x f ((Ay (Cc x)).take k))=Ak t.nodes.length (Yp t x f ((Ay (Cc x)).take (k+1))):=fun e=>Bn fun a b _ _=>by rw [hnext,e];simp
  have hsaw:Jw t x f r=(decide ((t.at r).kind=2) && !decide ((t.at (Ey x f r).toNat).thread=(t.at r).thread)):=by rw [Jw,toNat_natCast]
  by_cases ck:(t.at r).kind=2
  .obtain ⟨o1,o2,o3⟩:=hF.read _ hrx (by rw [toNat_natCast];exact ck)
   obtain ⟨w,hw1,hw⟩:=A8 (hx _ o1)
   rw [hw1] at o1
   have d0:decide ((w:Int) < 0)=false:=decide_eq_false (by omega)
   cases c2:decide ((t.at w).thread=(t.at r).thread) with
   | true =>
    have hs:=same (by rw [hsaw,hw1,toNat_natCast,c2];simp)
    simp only [go_sem,↓reduceIte,p26,p25,p0,p1,p2,p7,p24,Ar hk,hk,hr1,Lp hr,hw1,d0,A7 hw,A7 hr,c2,A0,hs]
   | false =>
    have hs:Jw t x f r=true:=by rw [hsaw,hw1,toNat_natCast,c2,decide_eq_true ck];rfl
    have hh:=fun (Q:VV->Prop)=>A7G C t ht x f hF o1 (Q:=Q)
    simp only [go_sem,↓reduceIte,p26,p25,p0,p1,p2,p7,p24,Ar hk,hk,hr1,Lp hr,hw1,d0,A7 hw,A7 hr,c2,A0,hh,CZ C]
    have hlh:=CO (B3 t x f w)
    have hends:=fun (Q:VV->Prop)=>AaQ C t ht x f hx hr (Q:=Q)
    let M:=fun (j:Nat) (a b:Nat)=>Yp t x f ((Ay (Cc x)).take k) a b || (AU ((Ay (B3 t x f w)).take j) (a:Int) && G3 t x r b)
    refine Ag (by decide) (Ay (B3 t x f w)).length (by omega) (I:=fun j F h=>A4.tmp F 26 = .i .i64 k/\A4.tmp F 25 = .i .i64 (Ay (Cc x)).length/\A4.tmp F 0=vSn t x f/\A4.tmp F 1 = .f Lm [vSn t x f] []/\A4.tmp F 2 = .f Ln [vSn t x f] []/\A4.tmp F 7 = .sl 0 0 0 t.nodes.length/\A4.tmp F 24=lI (Ay (Cc x))/\A4.tmp F 9 = .i .i64 r/\A4.tmp F 63=lI (Ay (B3 t x f w))/\h=[some ⟨AK,1,0,false,(Ak t.nodes.length (M j)).map eW⟩]) ?_ ?_ 0 _ _ (by omega) ?_ ?_ ?_
    .rintro j F h hj q65 q64 ⟨q26,q25,q0,q1,q2,q7,q24,q9,q63,rfl⟩
     have hmem:=(B4 (s:=B3 t x f w)).1 (Ai (d:=0) hj)
     obtain ⟨a0,_⟩:=CN hmem
     obtain ⟨a,ha1⟩:=Int.eq_ofNat_of_zero_le a0
     have ha:a < t.nodes.length:=A19 ht hF o1 (by rw [ha1,AC] at hmem;exact hmem)
     have hset:=A64 ha (M j) (G3 t x r) fun b hb=>AeB hx hrx hb
     have hM:Ak t.nodes.length (fun i b=>M j i b || (decide (i=a) && G3 t x r b))=Ak t.nodes.length (M (j+1)):=Bn fun i b _ _=>by
      simp only [M]
      rw [List.take_succ_eq_append_getElem hj]
      have e:AU ((Ay (B3 t x f w)).take j++[(Ay (B3 t x f w))[j]]) (i:Int)=(AU ((Ay (B3 t x f w)).take j) (i:Int) || decide (i=a)):=by
       rw [List.getD_eq_getElem?_getD,List.getElem?_eq_getElem hj,Option.getD_some] at ha1
       rw [ha1,Bool.eq_iff_iff,A9,List.mem_append,Bool.or_eq_true,A9,decide_eq_true_eq,List.mem_singleton]
       exact ⟨fun h=>h.imp id fun h=>by omega,fun h=>h.imp id fun h=>by omega⟩
      rw [e]
      cases Yp t x f ((Ay (Cc x)).take k) i b<;>cases AU ((Ay (B3 t x f w)).take j) (i:Int)<;>cases decide (i=a)<;>cases G3 t x r b<;>rfl
     rw [hM] at hset
     simp only [go_sem,↓reduceIte,q65,q64,q26,q25,q0,q1,q2,q7,q24,q9,q63,Ar hj,hj,ha1,Bm ha,hends,A0,hset,Aj,ha]
    .rintro F h ⟨q26,q25,q0,q1,q2,q7,q24,q9,q63,rfl⟩
     have hM:Ak t.nodes.length (M (Ay (B3 t x f w)).length)=Ak t.nodes.length (Yp t x f ((Ay (Cc x)).take (k+1))):=Bn fun a b _ _=>by
      simp only [M]
      rw [List.take_length,hnext,hs,hw1,Bool.true_and]
      have e:AU (Ay (B3 t x f w)) (a:Int)=Bc (B3 t x f w) (a:Int):=by rw [Bool.eq_iff_iff,A9,B4]
      rw [e]
     simp only [go_sem,↓reduceIte,q26,q25,q0,q1,q2,q7,q24,hM]
    .simp only [go_sem,↓reduceIte]
    .simp only [go_sem,↓reduceIte]
    .simp only [go_sem,↓reduceIte,p26,p25,p0,p1,p2,p7,p24]
     have hM:Ak t.nodes.length (M 0)=Ak t.nodes.length (Yp t x f ((Ay (Cc x)).take k)):=Bn fun a b _ _=>by simp only [M,List.take_zero,AU,List.any_nil,Bool.false_and,Bool.or_false]
     rw [hM]
  .have o1:=hF.none _ hrx (by rw [toNat_natCast];exact ck)
   have hs:=same (by rw [hsaw,decide_eq_false ck];rfl)
   simp only [go_sem,↓reduceIte,p26,p25,p0,p1,p2,p7,p24,Ar hk,hk,hr1,Lp hr,o1,A0]
   rw [hs]
 .rintro F h ⟨p0,p1,p2,p7,p24,rfl⟩
  have e:Ak t.nodes.length (Yp t x f (Ay (Cc x)))=Ak t.nodes.length (swB t x f):=Bn fun a b _ _=>AlS hLm a b
  simp only [go_sem,↓reduceIte,p0,p1,p2,p7,p24,Aj]
  rw [List.take_of_length_le (by rw [Aj];omega),e]
 .simp only [go_sem,↓reduceIte]
 .simp only [go_sem,↓reduceIte]
 .simp only [go_sem,↓reduceIte]
  rw [<- J7];rfl
theorem AfF (t:A1) (ht:A5 t) (x f:List Int) (hl:x.length<=1000) (hlf:f.length<=1000):VP V VE [vT t,lI x,lI f] Q↔Q (if Df t x f=true then .tu [vSn t x f,.b true] else .tu [.np,.b false]):=by
 refine Ae ?_
 rw [Ad C.c_z163.1 C.c_z163.2]
 have h64:=ht.n64
 have hn1:0 < t.nodes.length:=by
  obtain ⟨s,h0,he,hs⟩:=ht.thr
  have h1:=ht.r1
  obtain ⟨_,n,hB⟩:=hs 0 (by omega)
  cases n with
  | zero=>exact absurd hB (by simp [GL])
  | succ n=>have:=hB.1.1;omega
 have hmay:=fun (Q:VV->Prop)=>Sh C t ht (Q:=Q)
 have hpo:=fun (Q:VV->Prop)=>Xk C t ht (Q:=Q)
 by_cases c1:x.length=f.length
 .have c1':decide ((f.length:Int)=(x.length:Int))=true:=decide_eq_true (by omega)
  simp only [S5,go_sem,↓reduceIte,hmay,c1',MR C x (by omega),Xi C _ h64 hn1,hpo,Ase,AwS]
  refine Ag (by decide) x.length (by omega) (I:=fun k F h=>A4.tmp F 1=lI x/\A4.tmp F 2=lI f/\A4.tmp F 3 = .fp (eT t) 0/\A4.tmp F 8 = .p 1 0 0 0/\A4.tmp F 35=lI x/\h=onH t x f k/\∀ j,j < k->Bz t x j=true) ?_ ?_ 0 _ _ (by omega) ?_ ?_ ?_
  .rintro k F h hk p37 p36 ⟨p1,p2,p3,p8,p35,rfl,pr⟩
   have hkf:k < f.length:=by omega
   have bad:Bz t x k=false->Df t x f=false:=fun h=>by rw [Df,AP hk h];simp
   have hnr:=A7h t x k
   cases d1:decide (x.getD k 0 < 0) with
   | true =>
    have e:=bad (by rw [hnr,d1];rfl)
    simp only [go_sem,↓reduceIte,p37,p36,p1,p2,p3,p8,p35,Ar hk,hk,d1,A0,e]
   | false =>
   cases d2:decide ((t.nodes.length:Int)<=x.getD k 0) with
   | true =>
    have e:=bad (by rw [hnr,d1,d2];rfl)
    simp only [go_sem,↓reduceIte,p37,p36,p1,p2,p3,p8,p35,Ar hk,hk,d1,d2,A0,e]
   | false =>
   have d1':=of_decide_eq_false d1
   have d2':=of_decide_eq_false d2
   obtain ⟨m,hm1⟩:=Int.eq_ofNat_of_zero_le (show 0<=x.getD k 0 by omega)
   have hm:m < t.nodes.length:=by omega
   have d2n:decide (t.nodes.length<=m)=false:=decide_eq_false (by omega)
   have hset:(∀ i,i<=k->Di x i=true)->_:=AlE (t:=t) (f:=f) hk hm1 hm
   have hris0:∀ i,i < k->Di x i=true:=fun i hi=>by have:=pr i hi;simp only [Bz,and_eq_true] at this;exact this.2
   have hgo:Bz t x k=true->∀ j,j < k+1->Bz t x j=true:=fun h j hj=>by
    rcases Nat.lt_or_ge j k with c | c
    .exact pr j c
    .rw [show j=k by omega];exact h
   by_cases z:k=0
   .subst z
    have hok:Bz t x 0=true:=by rw [hnr,d1,d2];rfl
    have hs:=hset fun i hi=>by rw [Nat.le_zero.1 hi];rfl
    rw [hm1] at d1 d2
    simp only [go_sem,↓reduceIte,p37,p36,p1,p2,p3,p8,p35,Ar hk,Ar hkf,hk,hkf,d1,d2n,A0,hm1,onH,hm,AdG,dz0,hs,AdF hm]
    exact hgo hok
   .have z0:decide ((0:Int) < (k:Int))=true:=decide_eq_true (by omega)
    have hk1:k - 1 < x.length:=by omega
    have zw:=H8 (show 0 < k by omega) (by omega)
    cases d3:decide (x.getD k 0<=x.getD (k - 1) 0) with
    | true =>
     have e:=bad (by rw [hnr,d1,d2,d3,decide_eq_false z];rfl)
     rw [hm1] at d1 d2 d3
     simp only [go_sem,↓reduceIte,p37,p36,p1,p2,p3,p8,p35,Ar hk,Ar hk1,hk,d1,d2n,d3,z0,zw,A0,hm1,e]
    | false =>
     have hok:Bz t x k=true:=by rw [hnr,d1,d2,d3];simp
     have hs:=hset fun i hi=>by
      rcases Nat.lt_or_ge i k with c | c
      .exact hris0 i c
      .rw [show i=k by omega];simp only [Bz,and_eq_true] at hok;exact hok.2
     rw [hm1] at d1 d2 d3
     simp only [go_sem,↓reduceIte,p37,p36,p1,p2,p3,p8,p35,Ar hk,Ar hk1,Ar hkf,hk,hkf,d1,d2n,d3,z0,zw,A0,hm1,onH,hm,AdG,hs,AdF hm]
     exact hgo hok
  .rintro F h ⟨p1,p2,p3,p8,p35,rfl,pr⟩
   rw [AlC]
   have hnode:Cu t x:=by
    intro n hn
    obtain ⟨i,hi,rfl⟩:=List.getElem_of_mem hn
    have:=pr i hi
    simp only [Bz,and_eq_true] at this
    have h2:=this.1
    rwa [List.getD_eq_getElem?_getD,List.getElem?_eq_getElem hi] at h2
   simp only [go_sem,↓reduceIte,p1,p2,p3,p8,p35]
   refine Ag (by decide) x.length (by omega) (I:=fun k F h=>A4.tmp F 8 = .p 1 0 0 0/\A4.tmp F 75=lI x/\h=AhT t x f/\∀ j,j < k->Lw t x f (x.getD j 0)=true) ?_ ?_ 0 _ _ (by omega) ?_ ?_ ?_
   .rintro k F h hk p77 p76 ⟨p8,p75,rfl,qr⟩
    have bad:Lw t x f (x.getD k 0)=false->Df t x f=false:=fun h=>by rw [A9U,AP (p:=fun i=>Lw t x f (x.getD i 0)) hk h,Bool.and_false]
    obtain ⟨m,hm1,hm⟩:=A8 (hnode _ (Ai (d:=0) hk))
    have hr:=fun (Q:VV->Prop)=>A7H C t ht x f hnode hm (Q:=Q)
    cases c2:Lw t x f m with
    | true =>
     simp only [go_sem,↓reduceIte,p77,p76,p8,p75,Ar hk,hk,hm1,AhT,hr,c2,A0,YO,A1F]
     intro j hj
     rcases Nat.lt_or_ge j k with c | c
     .exact qr j c
     .rw [show j=k by omega,hm1];exact c2
    | false =>
     have e:=bad (by rw [hm1];exact c2)
     simp only [go_sem,↓reduceIte,p77,p76,p8,p75,Ar hk,hk,hm1,AhT,hr,c2,A0,YO,A1F,e]
   .rintro F h ⟨p8,p75,rfl,qr⟩
    have e:Df t x f=true:=by rw [A9U,decide_eq_true c1,AQ pr,AQ qr];rfl
    simp only [go_sem,↓reduceIte,p8,p75,AhT,e,YO,A1F]
   .simp only [go_sem,↓reduceIte]
   .simp only [go_sem,↓reduceIte]
   .simp only [go_sem,↓reduceIte,p8]
    intro j hj;omega
  .simp only [go_sem,↓reduceIte]
  .simp only [go_sem,↓reduceIte]
  .simp only [go_sem,↓reduceIte,onH,AhU]
   intro j hj;omega
 .have c1':decide ((f.length:Int)=(x.length:Int))=false:=decide_eq_false (by omega)
  have e:Df t x f=false:=by rw [Df,decide_eq_false c1];rfl
  simp only [S5,go_sem,↓reduceIte,hmay,c1',e]
theorem A6d (t:A1) (ht:A5 t) (x f:List Int) (hl:x.length<=1000) (hlf:f.length<=1000):VP V Mn [vT t,lI x,lI f] Q↔Q (lW (hbF t x f)):=by
 refine Ae ?_
 rw [Ad C.c_z112.1 C.c_z112.2]
 have h64:=ht.n64
 have hof:=fun (Q:VV->Prop)=>AfF C t ht x f hl hlf (Q:=Q)
 cases c:Df t x f with
 | false =>
  rw [hbF,c]
  simp only [RT,go_sem,↓reduceIte,hof,c,false_eq_true]
 | true =>
  have hF:=AY c
  rw [hbF,c]
  have hsw:=fun (Q:VV->Prop)=>AfG C t ht x f hF (Q:=Q)
  simp only [RT,go_sem,↓reduceIte,hof,c,hsw,Qt C,Ai6 C,Rh C]
  rw [Jm h64,AhW h64,JP]
  congr 2
  apply Bn
  intro a b _ _
  rw [hF.node.has h64,hF.node.has h64]
  rfl
end
abbrev A8F (n:AX) (p:Int):List VV:=[.i .i64 n.thread,.i .i64 n.up,.i .i64 n.kind,.i .i64 n.loc,.i .i64 n.mode,.i .i64 n.val,.b n.rmw,.b n.fin,lI n.regs,.i .i64 p]
section
variable {V:At} (C:Aq V) {Q:VV->Prop}
include C
theorem A2z (n:AX) (p:Int):VP V Wf [.ag (A8F n p)] Q↔Q (.b (decide (n.kind=2) || decide (n.kind=3))):=by
 refine Ae ?_
 rw [Ad C.c_z201.1 C.c_z201.2]
 cases c:decide (n.kind=2)<;>simp only [A0i,go_sem,↓reduceIte,c,Bool.true_or,Bool.false_or]
theorem A6G (a b:AX) (p q:Int):VP V Wg [.ag (A8F a p),.ag (A8F b q)] Q↔Q (.b (decide (p < q))):=by
 refine Ae ?_
 rw [Ad C.c_z202.1 C.c_z202.2]
 simp only [A0j,go_sem,↓reduceIte]
theorem A8B (a b:AX) (p q:Int):VP V Wh [.ag (A8F a p),.ag (A8F b q)] Q↔Q (.b (decide (p<=q))):=by
 refine Ae ?_
 rw [Ad C.c_z203.1 C.c_z203.2]
 simp only [A0k,go_sem,↓reduceIte]
theorem Xz (a b:AX) (pa pb:Int):VP V VD [vN a,vN b,.i .i64 pa,.i .i64 pb] Q↔Q (.b (Dg a b pa pb)):=by
 refine Ae ?_
 rw [Ad C.c_z162.1 C.c_z162.2]
 have a1:=fun (n:AX) (p:Int) (Q:VV->Prop)=>A2z C n p (Q:=Q)
 have hpf:Dg a b pa pb=((!(decide (a.kind=2) || decide (a.kind=3)) || !(decide (b.kind=2) || decide (b.kind=3)) || !decide (a.loc=b.loc)) || (bif decide (b.kind=2) then decide (pa<=pb) else decide (pa < pb))):=by
  unfold Dg
  by_cases c:b.kind=2<;>simp [c]
 rw [hpf]
 cases c1:(decide (a.kind=2) || decide (a.kind=3)) with
 | false =>
  simp only [L0,go_sem,↓reduceIte,a1,c1,Bool.not_false,Bool.true_or]
 | true =>
 cases c2:(decide (b.kind=2) || decide (b.kind=3)) with
 | false =>
  simp only [L0,go_sem,↓reduceIte,a1,c1,c2,Bool.not_false,Bool.true_or,Bool.not_true,Bool.false_or]
 | true =>
 cases c3:decide (a.loc=b.loc) with
 | false =>
  simp only [L0,go_sem,↓reduceIte,a1,c1,c2,c3,Bool.not_false,Bool.true_or,Bool.not_true,Bool.false_or]
 | true =>
 cases c4:decide (b.kind=2) with
 | false =>
  have c5:decide (b.kind=3)=true:=by rw [c4] at c2;simpa using c2
  simp only [L0,go_sem,↓reduceIte,a1,c1,c2,c3,c4,c5,A6G C,Bool.not_true,Bool.false_or,cond_false]
 | true =>
  simp only [L0,go_sem,↓reduceIte,a1,c1,c2,c3,c4,A8B C,Bool.not_true,Bool.false_or,cond_true]
theorem A2y (t:A1) (s:A6) (hs:DL s) {n:Nat} (hn:n < t.nodes.length):VP V Qb [.i .i64 n,.fp (eT t) 0,.fp (Je s) 0] Q↔Q (.i .i64 (plN t s n)):=by
 refine Ae ?_
 rw [Ad C.c_z113.1 C.c_z113.2]
 unfold plN
 rw [toNat_natCast]
 cases c:decide ((t.at n).kind=2) with
 | false =>
  rw [if_neg (of_decide_eq_false c)]
  simp only [RU,go_sem,↓reduceIte,A7 hn,c,Ko C s hs]
 | true =>
  rw [if_pos (of_decide_eq_true c)]
  simp only [RU,go_sem,↓reduceIte,A7 hn,c,A24 C s hs,Ko C s hs]
theorem A6H (P:Nat->Prop) (t:A1) (ht:A5 t) (r:Rows) (hr:∀ x∈BC r,∃ a b:Nat,a < t.nodes.length/\b < t.nodes.length/\P a/\P b/\x=((a:Int),(b:Int))) (hl:(BC r).length<=5000) {g:Nat} {c:List VV} (hc:Fz c) (pl:Int->Int)
  (hg:∀ (n:Nat),n < t.nodes.length->P n->∀ Q:VV->Prop,VP V g ([VV.i .i64 n]++c) Q↔Q (.i .i64 (pl n))) :
  VP V Qa [vT t,lW r,.f g [] c] Q↔Q (.b ((BC r).all fun x=>Dg (t.at x.1.toNat) (t.at x.2.toNat) (pl x.1) (pl x.2))):=by
 refine Ae ?_
 rw [Ad C.c_z111.1 C.c_z111.2]
 have hbel:Db 0 c=true:=Kz (hc [] 5) (fun v e=>Adk e)
 have hfz8:∀ h,Bh (frz h 8) c=some (c,[]):=fun h=>hc h 5
 have hfz:∀ h,Bh (frz h 7) c=some (c,[]):=fun h=>hc h 4
 simp only [Zs,go_sem,↓reduceIte,Y0 C,hfz]
 refine Ag (by decide) (BC r).length (by omega) (I:=fun k F h=>A4.tmp F 2 = .f g [] c/\A4.tmp F 3 = .fp (eT t) 0/\A4.tmp F 10=lP (BC r)/\h=[]/\∀ x∈(BC r).take k,Dg (t.at x.1.toNat) (t.at x.2.toNat) (pl x.1) (pl x.2)=true) ?_ ?_ 0 _ _ (by omega) ?_ ?_ ?_
 .rintro k F h hk p12 p11 ⟨p2,p3,p10,rfl,pr⟩
  obtain ⟨a,b,ha,hb,hpa,hpb,e⟩:=hr _ (List.getElem_mem hk)
  have Cp:(BC r)[k]? = some ((a:Int),(b:Int)):=by rw [List.getElem?_eq_getElem hk,e]
  have ga:=fun (Q:VV->Prop)=>hg a ha hpa Q
  have gb:=fun (Q:VV->Prop)=>hg b hb hpb Q
  simp only [List.cons_append,List.nil_append] at ga gb
  cases c1:Dg (t.at a) (t.at b) (pl a) (pl b) with
  | true =>
   simp only [go_sem,↓reduceIte,p12,p11,p2,p3,p10,Cp,hk,A7 ha,A7 hb,ga,gb,Xz C,c1,A0,hfz,hfz8,hbel]
   intro x hx
   rw [List.take_succ_eq_append_getElem hk] at hx
   rcases List.mem_append.1 hx with hx | hx
   .exact pr x hx
   .rw [List.mem_singleton.1 hx,e];exact c1
  | false =>
   have e:((BC r).all fun x=>Dg (t.at x.1.toNat) (t.at x.2.toNat) (pl x.1) (pl x.2))=false:=by
    rw [List.all_eq_false]
    exact ⟨_,List.getElem_mem hk,by rw [e,toNat_natCast,toNat_natCast,c1];simp⟩
   simp only [go_sem,↓reduceIte,p12,p11,p2,p3,p10,Cp,hk,A7 ha,A7 hb,ga,gb,Xz C,c1,A0,e,hfz,hfz8]
 .rintro F h ⟨p2,p3,p10,rfl,pr⟩
  rw [List.take_length] at pr
  have e:((BC r).all fun x=>Dg (t.at x.1.toNat) (t.at x.2.toNat) (pl x.1) (pl x.2))=true:=by rw [List.all_eq_true];exact pr
  simp only [go_sem,↓reduceIte,p2,p3,p10,e]
 .simp only [go_sem,↓reduceIte]
 .simp only [go_sem,↓reduceIte]
 .simp only [go_sem,↓reduceIte]
theorem A6I (t:A1) (ht:A5 t) (r:Rows) (hr:∀ x∈BC r,∃ a b:Nat,a < t.nodes.length/\b < t.nodes.length/\x=((a:Int),(b:Int))) (hl:(BC r).length<=5000) {g:Nat} {c:List VV} (hc:Fz c) (pl:Int->Int)
  (hg:∀ (n:Nat),n < t.nodes.length->∀ Q:VV->Prop,VP V g ([VV.i .i64 n]++c) Q↔Q (.i .i64 (pl n))) :
  VP V Qa [vT t,lW r,.f g [] c] Q↔Q (.b ((BC r).all fun x=>Dg (t.at x.1.toNat) (t.at x.2.toNat) (pl x.1) (pl x.2))) :=
 A6H C (fun _=>True) t ht r (fun x hx=>by obtain ⟨a,b,h1,h2,e⟩:=hr x hx;exact ⟨a,b,h1,h2,trivial,trivial,e⟩) hl hc pl (fun n hn _ Q=>hg n hn Q)
theorem QP (t:A1) (ht:A5 t) (s:A6) (hs:DL s):VP V A5t [vT t,Dy s] Q↔Q (.b (DM t s)):=by
 refine Ae ?_
 rw [Ad C.c_z49.1 C.c_z49.2]
 have h64:=ht.n64
 have hmay:=fun (Q:VV->Prop)=>Y4 C t ht s hs (Q:=Q)
 rw [AhD t ht s] at hmay
 unfold DM
 cases hf:Bd t s with
 | false=>simp only [A3t,go_sem,↓reduceIte,hmay,hf,Bool.false_and]
 | true =>
  have hfr:=AJ hf
  have hF:=AY hfr
  have hhb:=fun (Q:VV->Prop)=>A6d C t ht s.has s.jf hs.has hs.jf (Q:=Q)
  rw [hbF,if_pos hfr] at hhb
  have hpl:(BC (JP t s.has s.jf)).length<=5000:=by
   have:=Xa (JP t s.has s.jf) (JP t s.has s.jf).length
   rw [BC]
   have hl:(JP t s.has s.jf).length=t.nodes.length:=Dh h64 _
   split
   .rw [hl] at this ⊢;omega
   .simp
  have hin:∀ x∈BC (JP t s.has s.jf),∃ a b:Nat,a < t.nodes.length/\b < t.nodes.length/\x=((a:Int),(b:Int)):=fun x hx=>by
   obtain ⟨a,b,ha,e,hp⟩:=(EU h64 _ _).1 hx
   exact ⟨a,b,ha,hp.lt,e⟩
  have hpr:=fun (Q:VV->Prop)=>A6I C t ht (JP t s.has s.jf) hin hpl (g:=Qb) (c:=[.fp (eT t) 0,.fp (Je s) 0]) (fun _ _=>rfl) (plN t s) (fun n hn Q=>A2y C t s hs hn (Q:=Q)) (Q:=Q)
  simp only [A3t,go_sem,↓reduceIte,hmay,hf,hhb,hpr,Bool.true_and]
  rfl
end
end Go.AM
