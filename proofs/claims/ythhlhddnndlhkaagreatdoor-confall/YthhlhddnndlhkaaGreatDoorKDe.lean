/-
  Own work, part of the proof of these laws: what functions compute.
-/
import Derived.Test.YthhlhddnndlhkaaGreatDoorKCe
set_option maxRecDepth 10000
set_option maxHeartbeats 64000000
set_option linter.unusedVariables false
set_option linter.unusedSimpArgs false
set_option linter.unusedSectionVars false
open Bool (and_eq_true or_eq_true false_eq_true)
open Int (toNat_natCast)
open List (getElem?_eq_getElem getD_eq_getElem?_getD take_length mem_append take_zero mem_singleton any_nil)
open Nat (zero_le lt_or_ge)
open Option (getD_some)
open BitVec (getLsbD_or getLsbD_and or_zero)
namespace Go.AM
open Go Go.Proofs
def Ax4:G7:=leaf WH ⟨A0F,Q1⟩
theorem AhM:∀ n:Fin 65,A7V (AS,A7P) Ax4 (leaf Hy ⟨Kd,Lc⟩) 5000 ⟨A0d,Q0⟩ [.i .u64 1,.i .u64 ((n.val:Nat):Int)] [] (.tu [.i .u64 0,.i .u64 ((n.val:Nat):Int)])=true:=by decide +kernel
def LJ (x:Int) (m n:Nat):List Int:=List.replicate m x++List.replicate (n - m) 0
theorem AeO {x:Int} {m n:Nat} (h:m<=n):(LJ x m n).length=n:=by simp [LJ];omega
theorem AbR {x:Int} {m n:Nat} (h:m<=n):(LJ x m n).take m=List.replicate m x:=by
 unfold LJ
 rw [List.take_left' (by simp)]
theorem AbQ (x:Int) (n:Nat):LJ x n n=List.replicate n x:=by simp [LJ]
theorem AeP {x:Int} {n:Nat} (h:0 < n):List.take (min 1 n) [[VV.i IntKind.i64 x]]++List.map eI (List.drop (min 1 n) (List.replicate n 0))=(LJ x 1 n).map eI:=by
 rw [show min 1 n=1 by omega]
 simp [LJ]
theorem AbP {x:Int} {m n:Nat} (h:m<=n):(List.replicate m x).map eI++((List.take (min m (n - m)) (List.replicate m x)).map eI++(List.drop (m+min m (n - m)) (LJ x m n)).map eI)=(LJ x (m+min m (n - m)) n).map eI:=by
 unfold LJ
 rw [<- List.map_append,<- List.map_append,List.take_replicate,List.drop_append]
 simp only [List.length_replicate,List.drop_replicate]
 rw [show min (min m (n - m)) m=min m (n - m) by omega,show m - (m+min m (n - m))=0 by omega,List.replicate_zero,List.nil_append,show m+min m (n - m) - m=min m (n - m) by omega,
  <- List.append_assoc,List.replicate_append_replicate,show n - m - min m (n - m)=n - (m+min m (n - m)) by omega]
theorem Ars (l:List Int):((l.map eI).all fun r=>r.all VV.cell)=true:=by
 rw [List.all_eq_true]
 intro r hr
 obtain ⟨x,_,rfl⟩:=List.mem_map.1 hr
 rfl
section
variable {V:At} (C:Aq V) {Q:VV->Prop}
include C
theorem A8u {n:Nat} (hn:n<=64):VP V Qj [vW 1#64,.i .u64 (n:Int)] Q↔Q (.tu [vW 0#64,.i .u64 (n:Int)]) :=
 Ae (Bl (a:=⟨Qj,[.i .u64 1,.i .u64 (n:Int)],.tu [.i .u64 0,.i .u64 (n:Int)]⟩) (.of (.leaf C.c_z232) (.leaf C.h_z147) C.c_mathbits_TrailingZeros64) C.c_z195.1 C.c_z195.2 .nil (AhM ⟨n,by omega⟩))
theorem Xi (x:Int) {n:Nat} (hn:n<=64) (h0:0 < n) (b:Nat) {Q:VV->VH->Prop}:VP1 V Vn [.ls [[.i .i64 x]],.i .i64 n] b Q↔Q (.sl b 0 0 n) [some ⟨AO,1,0,false,(List.replicate n x).map eI⟩]:=by
 refine K8 ?_
 rw [K9 C.c_z150.2]
 have b1:n * 8<=Aa:=by unfold Aa;omega
 have q1:¬ (n:Int) < 0:=by omega
 have q2:¬ ((n:Int):Int) > 9223372036854775807:=by omega
 have q3:IntKind.u64.wrap (n:Int)=n:=by
  rw [show IntKind.u64.wrap (n:Int)=(n:Int) % 18446744073709551616 from rfl];omega
 have q4:IntKind.i64.wrap (n:Int)=n:=Az (by omega) (by omega)
 have q5:IntKind.u64.wrap 1=1:=rfl
 have q7:Bk .gtr none (vW 0#64) (vW 0#64)=some (.b false):=rfl
 have q6:¬ (9223372036854775807:Int) < (n:Int):=by omega
 simp only [ZL,go_sem,↓reduceIte,b1,q1,q2,q3,q4,A8u C hn,Int.le_refl,q5,q6,q7,toNat_natCast]
 unfold VL
 rw [A0]
 refine AT (M:=Nat) (I:=fun m F h=>0 < m/\m<=n/\A4.tmp F 7 = .sl 0 0 0 n/\A4.tmp F 8 = .i .i64 m/\h=[some ⟨AO,1,0,false,(LJ x m n).map eI⟩]) (μ:=fun m=>n - m) ?_ 1 _ _ ⟨by omega,by omega,?_,?_,?_⟩
 .rintro m F h ⟨m0,mn,p7,p8,rfl⟩
  by_cases c:m < n
  .have c1:(m:Int) < (n:Int):=by omega
   have hl:=AeO (x:=x) mn
   have h1:=AbP (x:=x) mn
   have e1:min m n=m:=by omega
   have e2:decide (m+(n - m)<=n)=true:=decide_eq_true (by omega)
   have e3:IntKind.i64.wrap ((m:Int)+((min m (n - m):Nat):Int))=((m+min m (n - m):Nat):Int):=by rw [Az (by omega) (by omega)];omega
   simp only [A73,go_sem,↓reduceIte,p7,p8,c1,A0,hl,mn,AbR mn,e1,e2,h1,e3,Ars]
   exact ⟨m+min m (n - m),by omega,by omega,by omega,rfl,rfl⟩
  .have c1:¬ (m:Int) < (n:Int):=by omega
   have e:m=n:=by omega
   subst e
   simp only [A73,go_sem,↓reduceIte,p7,p8,c1,A0,AbQ,BF]
   simp
 .simp only [go_sem,↓reduceIte]
 .simp only [go_sem,↓reduceIte]
  omega
 .rw [AeP h0]
end
abbrev eSn (t:A1) (x f:List Int):List VV:=[.i .i64 t.vals,lS t.locs,.ls (t.regs.map JE),.ls (t.nodes.map eN),vW (Cc x),lI (onL t x f),lW (Ak t.nodes.length fun a b=>Ap t a b)]
abbrev vSn (t:A1) (x f:List Int):VV:=.fp (eSn t x f) 0
section
variable {V:At} (C:Aq V) {Q:VV->Prop}
include C
theorem A2h (n:AX):VP V Qn [vN n] Q↔Q (.b (GA n)):=by
 refine Ae ?_
 rw [Ad C.c_z240.1 C.c_z240.2]
 cases c0:decide (n.kind=3)<;>cases c1:decide (0<=n.thread)<;>cases c4:decide (n.kind=4)<;>cases c2:decide (n.mode=2)<;>cases c3:decide (n.mode=3) <;>
  simp only [A0L,go_sem,↓reduceIte,c0,c1,c2,c3,c4,GA]
theorem A2g (n:AX):VP V Ql [vN n] Q↔Q (.b (KP n)):=by
 refine Ae ?_
 rw [Ad C.c_z212.1 C.c_z212.2]
 cases c0:decide (n.kind=2)<;>cases c1:decide (n.kind=4)<;>cases c2:decide (n.mode=1)<;>cases c3:decide (n.mode=3) <;>
  simp only [A0q,go_sem,↓reduceIte,c0,c1,c2,c3,KP]
theorem Kq (t:A1) (x f:List Int) {n:Nat} (hn:n < t.nodes.length):VP V Wl [vSn t x f,.i .i64 n] Q↔Q (.b (decide (0<=(t.at n).thread))):=by
 refine Ae ?_
 rw [Ad C.c_z209.1 C.c_z209.2]
 simp only [A0o,go_sem,↓reduceIte,A7 hn]
theorem A2e (t:A1) (x f:List Int) {n:Nat} (hn:n < t.nodes.length) {g:Nat} {p:Bool} (hg:∀ Q:VV->Prop,VP V g [vN (t.at n)] Q↔Q (.b p)):VP V Wp [vSn t x f,.i .i64 n,.f g [] []] Q↔Q (.b (decide ((t.at n).kind=4) && p)):=by
 refine Ae ?_
 rw [Ad C.c_z213.1 C.c_z213.2]
 cases c:decide ((t.at n).kind=4)<;>simp only [A0r,go_sem,↓reduceIte,A7 hn,c,hg]
theorem A7F (t:A1) (ht:A5 t) (x f:List Int) (hx:Cu t x) {n:Nat} (hn:n < t.nodes.length):VP V Wn [vSn t x f,.i .i64 n] Q↔Q (.i .i64 (ahF t x f n)):=by
 refine Ae ?_
 rw [Ad C.c_z211.1 C.c_z211.2]
 have hh:=hx.has ht.n64
 unfold ahF
 rw [toNat_natCast]
 cases c:(t.at n).rmw with
 | false=>simp only [PR,go_sem,↓reduceIte,A7 hn,c,false_eq_true,false_and]
 | true =>
  cases c2:AU x (t.at n).up with
  | false=>simp only [PR,go_sem,↓reduceIte,A7 hn,c,AN C,hh,c2,false_eq_true,and_false]
  | true =>
   obtain ⟨m,h0,hm⟩:=A8 (hx _ (A9.1 c2))
   rw [h0] at c2 ⊢
   simp only [PR,go_sem,↓reduceIte,A7 hn,c,AN C,hh,c2,h0,Lp hm,and_self]
theorem A7H (t:A1) (ht:A5 t) (x f:List Int) (hx:Cu t x) {n:Nat} (hn:n < t.nodes.length):VP V Wi [vSn t x f,.i .i64 n] Q↔Q (.b (Lw t x f n)):=by
 refine Ae ?_
 rw [Ad C.c_z204.1 C.c_z204.2]
 have hh:=hx.has ht.n64
 unfold Lw
 rw [toNat_natCast]
 cases c:decide ((t.at n).kind=2) with
 | false =>
  have c':=of_decide_eq_false c
  simp only [PQ,go_sem,↓reduceIte,A7 hn,c,Lp hn,c']
 | true =>
  have c':=of_decide_eq_true c
  cases c2:AU x (Ey x f n) with
  | false=>simp only [PQ,go_sem,↓reduceIte,A7 hn,c,Lp hn,c',AN C,hh,c2,Bool.false_and]
  | true =>
   obtain ⟨m,h0,hm⟩:=A8 (hx _ (A9.1 c2))
   rw [h0] at c2 ⊢
   cases c3:decide ((t.at m).kind=3)<;>simp only [PQ,go_sem,↓reduceIte,A7 hn,c,Lp hn,c',AN C,hh,c2,h0,A7 hm,c3,HT,toNat_natCast,Bool.true_and,Bool.false_and]
theorem Acv (t:A1) (ht:A5 t) (x f:List Int) (hx:Cu t x) {w:Nat} (hw:w < t.nodes.length):VP V Wm [vSn t x f,.i .i64 w] Q↔Q (vW (KB t x w)):=by
 refine Ae ?_
 rw [Ad C.c_z210.1 C.c_z210.2]
 have h4:=ht.n64
 have ha:=CO (Cc x)
 obtain ⟨s0,h8,h9⟩:∃ s0,s0=(if GA (t.at w)=true then 0#64 ||| C4 (w:Int) else 0#64)/\∀ j,j < 64->s0.getLsbD j=(decide (j=w) && GA (t.at w)):=by
  refine ⟨_,rfl,fun j hj=>?_⟩
  by_cases c:GA (t.at w)=true
  .have e:decide ((j:Int)=(w:Int)/\j < 64)=decide (j=w):=decide_eq_decide.2 ⟨fun h=>by omega,fun h=>⟨by omega,hj⟩⟩
   rw [if_pos c,getLsbD_or,CT,e,c];simp
  .rw [if_neg c,Bool.eq_false_iff.2 c];simp
 let p:Int->Bool:=fun n=>decide ((t.at n.toNat).kind=4) && GA (t.at n.toNat) && Ap t n w
 have h5:DZ p s0 (Ay (Cc x))=KB t x w:=by
  apply B1
  intro j hj
  rw [Xb p j hj,h9 j hj,KB,Au,Ace,decide_eq_true hj,Bool.and_true]
  have e1:AU (Ay (Cc x)) (j:Int)=AU x (j:Int):=by
   rw [Bool.eq_iff_iff,A9,A9];exact hx.list h4 _
  have e2:(decide (j=w) && GA (t.at w))=(decide ((j:Int)=(w:Int)) && GA (t.at j)):=by
   by_cases c:j=w
   .subst c;simp
   .have c':¬ (j:Int)=(w:Int):=by omega
    simp [c,c']
  rw [e1,e2]
  simp only [p,toNat_natCast,Bool.and_assoc]
 cases c0:GA (t.at w)<;>simp only [c0,false_eq_true,if_true,if_false] at h8<;>(
 simp only [A0p,go_sem,↓reduceIte,A7 hw,A2h C,C0 C,CZ C,c0,<- h8]
 refine Ag (by decide) (Ay (Cc x)).length (by omega) (I:=fun k F h=>A4.tmp F 0=vSn t x f/\A4.tmp F 1 = .i .i64 w/\A4.tmp F 24=lI (Ay (Cc x))/\h=[]/\A4.tmp F 5=vW (DZ p s0 ((Ay (Cc x)).take k))) ?_ ?_ 0 _ _ (by omega) ?_ ?_ ?_
 .rintro k F h hk h7 h6 ⟨p0,p1,h2,rfl,p5⟩
  obtain ⟨m,h3,hm⟩:=A8 (hx _ ((hx.list h4 _).1 (Ai (d:=0) hk)))
  have hT:DZ p s0 ((Ay (Cc x)).take (k+1))=if p m=true then DZ p s0 ((Ay (Cc x)).take k) ||| C4 m else DZ p s0 ((Ay (Cc x)).take k):=by rw [Lq hk,h3]
  have hp:p m=(decide ((t.at m).kind=4) && GA (t.at m) && Ap t m w):=by simp only [p,toNat_natCast]
  have h0:=fun (Q:VV->Prop)=>A2e C t x f hm (g:=Qn) (p:=GA (t.at m)) (fun Q=>A2h C (t.at m)) (Q:=Q)
  rw [hT,hp]
  cases c1:(decide ((t.at m).kind=4) && GA (t.at m)) with
  | false=>simp only [go_sem,↓reduceIte,h7,h6,p0,p1,h2,p5,Ar hk,hk,h3,h0,c1,A0,Bool.false_and,false_eq_true]
  | true =>
   have h1:=Gq (p:=fun a b=>Ap t a b) h4 hm hw
   rw [Lu hm] at h1
   have hg:=Bm (n:=t.nodes.length) (p:=fun a b=>Ap t a b) hm
   cases c2:Ap t m w with
   | false =>
    rw [c2] at h1
    simp only [go_sem,↓reduceIte,h7,h6,p0,p1,h2,p5,Ar hk,hk,h3,h0,c1,A0,hg,AN C,h1,Bool.and_false,false_eq_true]
   | true =>
    rw [c2] at h1
    simp only [go_sem,↓reduceIte,h7,h6,p0,p1,h2,p5,Ar hk,hk,h3,h0,c1,A0,hg,AN C,h1,C0 C,Bool.and_self]
 .rintro F h ⟨p0,p1,h2,rfl,p5⟩
  simp only [go_sem,↓reduceIte,p0,p1,h2,p5,take_length,h5]
 .simp only [go_sem,↓reduceIte]
 .simp only [go_sem,↓reduceIte]
 .simp only [go_sem,↓reduceIte]
  rfl)
theorem AaQ (t:A1) (ht:A5 t) (x f:List Int) (hx:Cu t x) {r:Nat} (hr:r < t.nodes.length):VP V Ln [vSn t x f,.i .i64 r] Q↔Q (vW (BS (G3 t x r))):=by
 refine Ae ?_
 rw [Ad C.c_z168.1 C.c_z168.2]
 have h6:=ht.n64
 let X:=Cc x &&& BS fun b=>decide (b < t.nodes.length) && Ap t r b
 have hX:X=Cc x &&& BS fun b=>decide (b < t.nodes.length) && Ap t r b:=rfl
 have hc:=CO X
 have hg:=Bm (n:=t.nodes.length) (p:=fun a b=>Ap t a b) hr
 have h7:∀ y:Int,y∈Ay X↔y∈x/\Ap t r y=true:=by
  intro y
  rw [B4]
  constructor
  .intro h
   obtain ⟨h1,h2⟩:=CN h
   obtain ⟨m,rfl⟩:=Int.eq_ofNat_of_zero_le h1
   rw [AC,hX,getLsbD_and,Au,and_eq_true,and_eq_true,and_eq_true] at h
   exact ⟨by rw [<- A9,<- hx.has h6,AC];exact h.1,h.2.1.2⟩
  .rintro ⟨h1,h2⟩
   obtain ⟨m,rfl,hm⟩:=A8 (hx _ h1)
   rw [AC,hX,getLsbD_and,Au,h2,<- AC,hx.has h6,A9.2 h1,decide_eq_true hm,decide_eq_true (show m < 64 by omega)];rfl
 obtain ⟨s0,h8,hb⟩:∃ s0,s0=(if KP (t.at r)=true then 0#64 ||| C4 (r:Int) else 0#64)/\∀ j,j < 64->s0.getLsbD j=(decide (j=r) && KP (t.at r)):=by
  refine ⟨_,rfl,fun j hj=>?_⟩
  by_cases c:KP (t.at r)=true
  .have e:decide ((j:Int)=(r:Int)/\j < 64)=decide (j=r):=decide_eq_decide.2 ⟨fun h=>by omega,fun h=>⟨by omega,hj⟩⟩
   rw [if_pos c,getLsbD_or,CT,e,c];simp
  .rw [if_neg c,Bool.eq_false_iff.2 c];simp
 let p:Int->Bool:=fun n=>decide ((t.at n.toNat).kind=4) && KP (t.at n.toNat)
 have h4:DZ p s0 (Ay X)=BS (G3 t x r):=by
  apply B1
  intro j hj
  rw [Xb p j hj,hb j hj,Au,G3,decide_eq_true hj,Bool.and_true]
  have e1:AU (Ay X) (j:Int)=(AU x (j:Int) && Ap t r j):=by
   rw [Bool.eq_iff_iff,A9,h7,and_eq_true,A9]
  have e2:(decide (j=r) && KP (t.at r))=(decide ((j:Int)=(r:Int)) && KP (t.at j)):=by
   by_cases c:j=r
   .subst c;simp
   .have c':¬ (j:Int)=(r:Int):=by omega
    simp [c,c']
  rw [e1,e2]
  simp only [p,toNat_natCast]
  cases AU x (j:Int)<;>cases Ap t r j<;>simp
 cases c0:KP (t.at r)<;>simp only [c0,false_eq_true,if_true,if_false] at h8<;>(
 simp only [ZW,go_sem,↓reduceIte,A7 hr,A2g C,C0 C,CZ C,c0,hg,<- h8,<- hX]
 refine Ag (by decide) (Ay X).length (by omega) (I:=fun k F h=>A4.tmp F 0=vSn t x f/\A4.tmp F 32=lI (Ay X)/\h=[]/\A4.tmp F 5=vW (DZ p s0 ((Ay X).take k))) ?_ ?_ 0 _ _ (by omega) ?_ ?_ ?_
 .rintro k F h hk ha h9 ⟨p0,h3,rfl,p5⟩
  obtain ⟨m,h5,hm⟩:=A8 (hx _ ((h7 _).1 (Ai (d:=0) hk)).1)
  have hT:DZ p s0 ((Ay X).take (k+1))=if p m=true then DZ p s0 ((Ay X).take k) ||| C4 m else DZ p s0 ((Ay X).take k):=by rw [Lq hk,h5]
  have hp:p m=(decide ((t.at m).kind=4) && KP (t.at m)):=by simp only [p,toNat_natCast]
  have h0:=fun (Q:VV->Prop)=>A2e C t x f hm (g:=Ql) (p:=KP (t.at m)) (fun Q=>A2g C (t.at m)) (Q:=Q)
  rw [hT,hp]
  cases c1:(decide ((t.at m).kind=4) && KP (t.at m)) with
  | false=>simp only [go_sem,↓reduceIte,ha,h9,p0,h3,p5,Ar hk,hk,h5,h0,c1,A0,false_eq_true]
  | true=>simp only [go_sem,↓reduceIte,ha,h9,p0,h3,p5,Ar hk,hk,h5,h0,c1,A0,C0 C]
 .rintro F h ⟨p0,h3,rfl,p5⟩
  simp only [go_sem,↓reduceIte,p0,h3,p5,take_length,h4]
 .simp only [go_sem,↓reduceIte]
 .simp only [go_sem,↓reduceIte]
 .simp only [go_sem,↓reduceIte]
  rfl)
theorem Am5 {t:A1} (ht:A5 t) {x f:List Int} (hF:DO t x f) {w0:Int} (hw0:w0∈x) {i:Nat} (hoff:∀ j,j < i->JH t (EF t x f j w0)=false):Cu t (LX t x f w0 i):=by
 intro v hv
 obtain ⟨j,hj,rfl⟩:=YK.1 hv
 rcases PY ht hF hw0 j (fun k hk=>hoff k (by omega)) with e | e
 .have:=hoff j hj
  rw [e] at this;cases this
 .exact hF.node _ e
theorem A7G (t:A1) (ht:A5 t) (x f:List Int) (hF:DO t x f) {w0:Int} (hw0:w0∈x):VP V Lm [vSn t x f,.i .i64 w0] Q↔Q (vW (B3 t x f w0)):=by
 refine Ae ?_
 rw [Ad C.c_z167.1 C.c_z167.2]
 have h6:=ht.n64
 simp only [ZV,go_sem,↓reduceIte]
 unfold VL
 rw [A0]
 refine AT (M:=Nat) (I:=fun i F h=>h=[]/\A4.tmp F 0=vSn t x f/\A4.tmp F 1 = .i .i64 (EF t x f i w0)/\A4.tmp F 5=vW (A18 t x f w0 i)/\A4.tmp F 6=vW (Cc (LX t x f w0 i))/\(∀ j,j < i->JH t (EF t x f j w0)=false)/\(LX t x f w0 i).Nodup) (μ:=fun i=>x.length+1 - i) ?_ 0 _ _ ⟨rfl,?_,?_,?_,?_,by omega,by simp [LX]⟩
 .rintro i F h ⟨rfl,p0,p1,p5,p6,h0,h4⟩
  have h7:i<=x.length:=by
   have h1:(LX t x f w0 i).length=i:=by simp [LX]
   rw [<- h1]
   refine KA _ _ h4 fun v hv=>?_
   obtain ⟨j,hj,rfl⟩:=YK.1 hv
   rcases PY ht hF hw0 j (fun k hk=>h0 k (by omega)) with e | e
   .have:=h0 j hj
    rw [e] at this;cases this
   .exact e
  have h3:=Am4 ht hF hw0 h0 h4
  rcases PY ht hF hw0 i h0 with e | e
  .have:=h3 (.inl (by rw [e];rfl))
   rw [e] at p1
   simp only [R1,go_sem,↓reduceIte,p0,p1,p5,p6,A0,this]
  .obtain ⟨m,h2,hm⟩:=A8 (hF.node _ e)
   rw [h2] at p1
   cases c1:decide (0<=(t.at m).thread) with
   | false =>
    have ho:JH t (EF t x f i w0)=true:=by
     have:=of_decide_eq_false c1
     rw [h2,JH,toNat_natCast,decide_eq_true (show (t.at m).thread < 0 by omega),Bool.or_true]
    have:=h3 (.inl ho)
    simp only [R1,go_sem,↓reduceIte,p0,p1,p5,p6,A0,Kq C t x f hm,c1,this]
   | true =>
    have ho:JH t (EF t x f i w0)=false:=by
     have:=of_decide_eq_true c1
     rw [h2,JH,toNat_natCast,decide_eq_false (show ¬ (t.at m).thread < 0 by omega),decide_eq_false (show ¬ (m:Int) < 0 by omega)];rfl
    have h5:=Am5 C ht hF hw0 h0
    have hh:=h5.has h6 (m:Int)
    cases c2:AU (LX t x f w0 i) (m:Int) with
    | true =>
     rw [c2] at hh
     have:=h3 (.inr (by rw [h2];exact A9.1 c2))
     simp only [R1,go_sem,↓reduceIte,p0,p1,p5,p6,A0,Kq C t x f hm,c1,AN C,hh,this]
    | false =>
     rw [c2] at hh
     simp only [R1,go_sem,↓reduceIte,p0,p1,p5,p6,A0,Kq C t x f hm,c1,AN C,hh,Acv C t ht x f hF.node hm,C0 C,A7F C t ht x f hF.node hm]
     refine ⟨i+1,by omega,by rw [EF,h2],by rw [AbS,h2],by rw [A6k,h2,Cc,Cc,List.foldl_append];rfl,fun j hj=>?_,?_⟩
     .rcases lt_or_ge j i with h1 | h1
      .exact h0 j h1
      .rw [show j=i by omega];exact ho
     .rw [A6k,h2]
      have:(m:Int)∉LX t x f w0 i:=fun h=>by rw [A9.2 h] at c2;cases c2
      exact List.nodup_append.2 ⟨h4,by simp,fun a ha b hb e=>this (by simp at hb;rw [<- hb,<- e];exact ha)⟩
 .simp only [go_sem,↓reduceIte]
 .simp only [go_sem,↓reduceIte]
  rfl
 .simp only [go_sem,↓reduceIte]
  rfl
 .simp only [go_sem,↓reduceIte]
  rfl
end
theorem AwS:min 5 (4+3)+(1+(4+3 - 6))=7:=rfl
theorem A7h (t:A1) (x:List Int) (k:Nat):Bz t x k=(!(decide (x.getD k 0 < 0) || decide ((t.nodes.length:Int)<=x.getD k 0) || (!decide (k=0) && decide (x.getD k 0<=x.getD (k - 1) 0)))):=by
 unfold Bz BP Di
 rw [Bool.eq_iff_iff]
 simp only [and_eq_true,or_eq_true,Bool.not_eq_true',Bool.or_eq_false_iff,decide_eq_true_eq,decide_eq_false_iff_not,Bool.and_eq_false_iff,Bool.not_eq_false']
 constructor
 .rintro ⟨⟨a,b⟩,c⟩
  exact ⟨⟨by omega,by omega⟩,c.imp id (by omega)⟩
 .rintro ⟨⟨a,b⟩,c⟩
  exact ⟨⟨by omega,by omega⟩,c.imp id (by omega)⟩
def onH (t:A1) (x f:List Int) (k:Nat):VH:=[some ⟨AO,1,0,false,(onK t x f k).map eI⟩,some ⟨Xq,0,0,false,[[.i .i64 t.vals,lS t.locs,.ls (t.regs.map JE),.ls (t.nodes.map eN),vW (Cc x),.sl 0 0 0 t.nodes.length,lW (Ak t.nodes.length fun a b=>Ap t a b)]]⟩]
def AhT (t:A1) (x f:List Int):VH:=[some ⟨AO,1,0,false,(onL t x f).map eI⟩,some ⟨Xq,0,0,false,[[.i .i64 t.vals,lS t.locs,.ls (t.regs.map JE),.ls (t.nodes.map eN),vW (Cc x),.sl 0 0 0 t.nodes.length,lW (Ak t.nodes.length fun a b=>Ap t a b)]]⟩]
theorem AlC (t:A1) (x f:List Int):onH t x f x.length=AhT t x f:=by rw [onH,AlD];rfl
theorem AdF {t:A1} {x f:List Int} {k m:Nat} (h:m < t.nodes.length):(onK t x f k)[m]? = some (Ey (x.take k) f (m:Int)):=by simp [onK,h]
theorem A1F (t:A1) (x f:List Int):(onL t x f).take t.nodes.length=onL t x f:=List.take_of_length_le (by rw [YO];omega)
section
variable {V:At} (C:Aq V) {Q:VV->Prop}
include C
theorem AfG (t:A1) (ht:A5 t) (x f:List Int) (hF:DO t x f):VP V VJ [vSn t x f,.f Lm [vSn t x f] [],.f Ln [vSn t x f] []] Q↔Q (lW (Ak t.nodes.length (swB t x f))):=by
 refine Ae ?_
 rw [Ad C.c_z166.1 C.c_z166.2]
 have hi:=ht.n64
 have hx:=hF.node
 have hu:=CO (Cc x)
 have hl:=fun y=>hx.list hi y
 simp only [ZU,go_sem,↓reduceIte,A1X C _ hi,CZ C]
 refine Ag (by decide) (Ay (Cc x)).length (by omega) (I:=fun k F h=>A4.tmp F 0=vSn t x f/\A4.tmp F 1 = .f Lm [vSn t x f] []/\A4.tmp F 2 = .f Ln [vSn t x f] []/\A4.tmp F 7 = .sl 0 0 0 t.nodes.length/\A4.tmp F 24=lI (Ay (Cc x))/\h=[some ⟨AK,1,0,false,(Ak t.nodes.length (Yp t x f ((Ay (Cc x)).take k))).map eW⟩]) ?_ ?_ 0 _ _ (by omega) ?_ ?_ ?_
 .rintro k F h hk hc h9 ⟨p0,p1,p2,p7,h4,rfl⟩
  have hm:(Ay (Cc x)).getD k 0∈x:=(hl _).1 (Ai (d:=0) hk)
  obtain ⟨r,h6,hr⟩:=A8 (hx _ hm)
  have hd:(r:Int)∈x:=by rw [<- h6];exact hm
  have h0:∀ a b,Yp t x f ((Ay (Cc x)).take (k+1)) a b=(Yp t x f ((Ay (Cc x)).take k) a b || (Jw t x f r && Bc (B3 t x f (Ey x f r)) (a:Int) && G3 t x r b)):=fun a b=>by rw [AaP hk,h6]
  have same:Jw t x f r=false->Ak t.nodes.length (Yp t x f ((Ay (Cc x)).take k))=Ak t.nodes.length (Yp t x f ((Ay (Cc x)).take (k+1))):=fun e=>Bn fun a b _ _=>by rw [h0,e];simp
  have h2:Jw t x f r=(decide ((t.at r).kind=2) && !decide ((t.at (Ey x f r).toNat).thread=(t.at r).thread)):=by rw [Jw,toNat_natCast]
  by_cases ck:(t.at r).kind=2
  .obtain ⟨o1,o2,o3⟩:=hF.read _ hd (by rw [toNat_natCast];exact ck)
   obtain ⟨w,h3,hw⟩:=A8 (hx _ o1)
   rw [h3] at o1
   have d0:decide ((w:Int) < 0)=false:=decide_eq_false (by omega)
   cases c2:decide ((t.at w).thread=(t.at r).thread) with
   | true =>
    have hs:=same (by rw [h2,h3,toNat_natCast,c2];simp)
    simp only [go_sem,↓reduceIte,hc,h9,p0,p1,p2,p7,h4,Ar hk,hk,h6,Lp hr,h3,d0,A7 hw,A7 hr,c2,A0,hs]
   | false =>
    have hs:Jw t x f r=true:=by rw [h2,h3,toNat_natCast,c2,decide_eq_true ck];rfl
    have hh:=fun (Q:VV->Prop)=>A7G C t ht x f hF o1 (Q:=Q)
    simp only [go_sem,↓reduceIte,hc,h9,p0,p1,p2,p7,h4,Ar hk,hk,h6,Lp hr,h3,d0,A7 hw,A7 hr,c2,A0,hh,CZ C]
    have hq:=CO (B3 t x f w)
    have h5:=fun (Q:VV->Prop)=>AaQ C t ht x f hx hr (Q:=Q)
    let M:=fun (j:Nat) (a b:Nat)=>Yp t x f ((Ay (Cc x)).take k) a b || (AU ((Ay (B3 t x f w)).take j) (a:Int) && G3 t x r b)
    refine Ag (by decide) (Ay (B3 t x f w)).length (by omega) (I:=fun j F h=>A4.tmp F 26 = .i .i64 k/\A4.tmp F 25 = .i .i64 (Ay (Cc x)).length/\A4.tmp F 0=vSn t x f/\A4.tmp F 1 = .f Lm [vSn t x f] []/\A4.tmp F 2 = .f Ln [vSn t x f] []/\A4.tmp F 7 = .sl 0 0 0 t.nodes.length/\A4.tmp F 24=lI (Ay (Cc x))/\A4.tmp F 9 = .i .i64 r/\A4.tmp F 63=lI (Ay (B3 t x f w))/\h=[some ⟨AK,1,0,false,(Ak t.nodes.length (M j)).map eW⟩]) ?_ ?_ 0 _ _ (by omega) ?_ ?_ ?_
    .rintro j F h hj hp ho ⟨hg,hf,q0,q1,q2,q7,he,q9,hn,rfl⟩
     have h1:=(B4 (s:=B3 t x f w)).1 (Ai (d:=0) hj)
     obtain ⟨a0,_⟩:=CN h1
     obtain ⟨a,h8⟩:=Int.eq_ofNat_of_zero_le a0
     have ha:a < t.nodes.length:=A19 ht hF o1 (by rw [h8,AC] at h1;exact h1)
     have h7:=A64 ha (M j) (G3 t x r) fun b hb=>AeB hx hd hb
     have hM:Ak t.nodes.length (fun i b=>M j i b || (decide (i=a) && G3 t x r b))=Ak t.nodes.length (M (j+1)):=Bn fun i b _ _=>by
      simp only [M]
      rw [List.take_succ_eq_append_getElem hj]
      have e:AU ((Ay (B3 t x f w)).take j++[(Ay (B3 t x f w))[j]]) (i:Int)=(AU ((Ay (B3 t x f w)).take j) (i:Int) || decide (i=a)):=by
       rw [getD_eq_getElem?_getD,getElem?_eq_getElem hj,getD_some] at h8
       rw [h8,Bool.eq_iff_iff,A9,mem_append,or_eq_true,A9,decide_eq_true_eq,mem_singleton]
       exact ⟨fun h=>h.imp id fun h=>by omega,fun h=>h.imp id fun h=>by omega⟩
      rw [e]
      cases Yp t x f ((Ay (Cc x)).take k) i b<;>cases AU ((Ay (B3 t x f w)).take j) (i:Int)<;>cases decide (i=a)<;>cases G3 t x r b<;>rfl
     rw [hM] at h7
     simp only [go_sem,↓reduceIte,hp,ho,hg,hf,q0,q1,q2,q7,he,q9,hn,Ar hj,hj,h8,Bm ha,h5,A0,h7,Aj,ha]
    .rintro F h ⟨hg,hf,q0,q1,q2,q7,he,q9,hn,rfl⟩
     have hM:Ak t.nodes.length (M (Ay (B3 t x f w)).length)=Ak t.nodes.length (Yp t x f ((Ay (Cc x)).take (k+1))):=Bn fun a b _ _=>by
      simp only [M]
      rw [take_length,h0,hs,h3,Bool.true_and]
      have e:AU (Ay (B3 t x f w)) (a:Int)=Bc (B3 t x f w) (a:Int):=by rw [Bool.eq_iff_iff,A9,B4]
      rw [e]
     simp only [go_sem,↓reduceIte,hg,hf,q0,q1,q2,q7,he,hM]
    .simp only [go_sem,↓reduceIte]
    .simp only [go_sem,↓reduceIte]
    .simp only [go_sem,↓reduceIte,hc,h9,p0,p1,p2,p7,h4]
     have hM:Ak t.nodes.length (M 0)=Ak t.nodes.length (Yp t x f ((Ay (Cc x)).take k)):=Bn fun a b _ _=>by simp only [M,take_zero,AU,any_nil,Bool.false_and,Bool.or_false]
     rw [hM]
  .have o1:=hF.none _ hd (by rw [toNat_natCast];exact ck)
   have hs:=same (by rw [h2,decide_eq_false ck];rfl)
   simp only [go_sem,↓reduceIte,hc,h9,p0,p1,p2,p7,h4,Ar hk,hk,h6,Lp hr,o1,A0]
   rw [hs]
 .rintro F h ⟨p0,p1,p2,p7,h4,rfl⟩
  have e:Ak t.nodes.length (Yp t x f (Ay (Cc x)))=Ak t.nodes.length (swB t x f):=Bn fun a b _ _=>AlS hl a b
  simp only [go_sem,↓reduceIte,p0,p1,p2,p7,h4,Aj]
  rw [List.take_of_length_le (by rw [Aj];omega),e]
 .simp only [go_sem,↓reduceIte]
 .simp only [go_sem,↓reduceIte]
 .simp only [go_sem,↓reduceIte]
  rw [<- J7];rfl
theorem AfF (t:A1) (ht:A5 t) (x f:List Int) (hl:x.length<=1000) (hlf:f.length<=1000):VP V VE [vT t,lI x,lI f] Q↔Q (if Df t x f=true then .tu [vSn t x f,.b true] else .tu [.np,.b false]):=by
 refine Ae ?_
 rw [Ad C.c_z163.1 C.c_z163.2]
 have hw:=ht.n64
 have hx:0 < t.nodes.length:=by
  obtain ⟨s,h0,he,hs⟩:=ht.thr
  have h1:=ht.r1
  obtain ⟨_,n,hB⟩:=hs 0 (by omega)
  cases n with
  | zero=>exact absurd hB (by simp [GL])
  | succ n=>have:=hB.1.1;omega
 have h7:=fun (Q:VV->Prop)=>Sh C t ht (Q:=Q)
 have hy:=fun (Q:VV->Prop)=>Xk C t ht (Q:=Q)
 by_cases c1:x.length=f.length
 .have hh:decide ((f.length:Int)=(x.length:Int))=true:=decide_eq_true (by omega)
  simp only [S5,go_sem,↓reduceIte,h7,hh,MR C x (by omega),Xi C _ hw hx,hy,Ase,AwS]
  refine Ag (by decide) x.length (by omega) (I:=fun k F h=>A4.tmp F 1=lI x/\A4.tmp F 2=lI f/\A4.tmp F 3 = .fp (eT t) 0/\A4.tmp F 8 = .p 1 0 0 0/\A4.tmp F 35=lI x/\h=onH t x f k/\∀ j,j < k->Bz t x j=true) ?_ ?_ 0 _ _ (by omega) ?_ ?_ ?_
  .rintro k F h hk hd hc ⟨p1,p2,p3,p8,h5,rfl,pr⟩
   have hf:k < f.length:=by omega
   have h6:Bz t x k=false->Df t x f=false:=fun h=>by rw [Df,AP hk h];simp
   have h8:=A7h t x k
   cases d1:decide (x.getD k 0 < 0) with
   | true =>
    have e:=h6 (by rw [h8,d1];rfl)
    simp only [go_sem,↓reduceIte,hd,hc,p1,p2,p3,p8,h5,Ar hk,hk,d1,A0,e]
   | false =>
   cases d2:decide ((t.nodes.length:Int)<=x.getD k 0) with
   | true =>
    have e:=h6 (by rw [h8,d1,d2];rfl)
    simp only [go_sem,↓reduceIte,hd,hc,p1,p2,p3,p8,h5,Ar hk,hk,d1,d2,A0,e]
   | false =>
   have hz:=of_decide_eq_false d1
   have q0:=of_decide_eq_false d2
   obtain ⟨m,h3⟩:=Int.eq_ofNat_of_zero_le (show 0<=x.getD k 0 by omega)
   have hm:m < t.nodes.length:=by omega
   have ho:decide (t.nodes.length<=m)=false:=decide_eq_false (by omega)
   have hb:(∀ i,i<=k->Di x i=true)->_:=AlE (t:=t) (f:=f) hk h3 hm
   have ha:∀ i,i < k->Di x i=true:=fun i hi=>by have:=pr i hi;simp only [Bz,and_eq_true] at this;exact this.2
   have hp:Bz t x k=true->∀ j,j < k+1->Bz t x j=true:=fun h j hj=>by
    rcases lt_or_ge j k with c | c
    .exact pr j c
    .rw [show j=k by omega];exact h
   by_cases z:k=0
   .subst z
    have h9:Bz t x 0=true:=by rw [h8,d1,d2];rfl
    have hs:=hb fun i hi=>by rw [Nat.le_zero.1 hi];rfl
    rw [h3] at d1 d2
    simp only [go_sem,↓reduceIte,hd,hc,p1,p2,p3,p8,h5,Ar hk,Ar hf,hk,hf,d1,ho,A0,h3,onH,hm,AdG,dz0,hs,AdF hm]
    exact hp h9
   .have z0:decide ((0:Int) < (k:Int))=true:=decide_eq_true (by omega)
    have hq:k - 1 < x.length:=by omega
    have zw:=H8 (show 0 < k by omega) (by omega)
    cases d3:decide (x.getD k 0<=x.getD (k - 1) 0) with
    | true =>
     have e:=h6 (by rw [h8,d1,d2,d3,decide_eq_false z];rfl)
     rw [h3] at d1 d2 d3
     simp only [go_sem,↓reduceIte,hd,hc,p1,p2,p3,p8,h5,Ar hk,Ar hq,hk,d1,ho,d3,z0,zw,A0,h3,e]
    | false =>
     have h9:Bz t x k=true:=by rw [h8,d1,d2,d3];simp
     have hs:=hb fun i hi=>by
      rcases lt_or_ge i k with c | c
      .exact ha i c
      .rw [show i=k by omega];simp only [Bz,and_eq_true] at h9;exact h9.2
     rw [h3] at d1 d2 d3
     simp only [go_sem,↓reduceIte,hd,hc,p1,p2,p3,p8,h5,Ar hk,Ar hq,Ar hf,hk,hf,d1,ho,d3,z0,zw,A0,h3,onH,hm,AdG,hs,AdF hm]
     exact hp h9
  .rintro F h ⟨p1,p2,p3,p8,h5,rfl,pr⟩
   rw [AlC]
   have h4:Cu t x:=by
    intro n hn
    obtain ⟨i,hi,rfl⟩:=List.getElem_of_mem hn
    have:=pr i hi
    simp only [Bz,and_eq_true] at this
    have h2:=this.1
    rwa [getD_eq_getElem?_getD,getElem?_eq_getElem hi] at h2
   simp only [go_sem,↓reduceIte,p1,p2,p3,p8,h5]
   refine Ag (by decide) x.length (by omega) (I:=fun k F h=>A4.tmp F 8 = .p 1 0 0 0/\A4.tmp F 75=lI x/\h=AhT t x f/\∀ j,j < k->Lw t x f (x.getD j 0)=true) ?_ ?_ 0 _ _ (by omega) ?_ ?_ ?_
   .rintro k F h hk hv hu ⟨p8,hg,rfl,qr⟩
    have h6:Lw t x f (x.getD k 0)=false->Df t x f=false:=fun h=>by rw [A9U,AP (p:=fun i=>Lw t x f (x.getD i 0)) hk h,Bool.and_false]
    obtain ⟨m,h3,hm⟩:=A8 (h4 _ (Ai (d:=0) hk))
    have hr:=fun (Q:VV->Prop)=>A7H C t ht x f h4 hm (Q:=Q)
    cases c2:Lw t x f m with
    | true =>
     simp only [go_sem,↓reduceIte,hv,hu,p8,hg,Ar hk,hk,h3,AhT,hr,c2,A0,YO,A1F]
     intro j hj
     rcases lt_or_ge j k with c | c
     .exact qr j c
     .rw [show j=k by omega,h3];exact c2
    | false =>
     have e:=h6 (by rw [h3];exact c2)
     simp only [go_sem,↓reduceIte,hv,hu,p8,hg,Ar hk,hk,h3,AhT,hr,c2,A0,YO,A1F,e]
   .rintro F h ⟨p8,hg,rfl,qr⟩
    have e:Df t x f=true:=by rw [A9U,decide_eq_true c1,AQ pr,AQ qr];rfl
    simp only [go_sem,↓reduceIte,p8,hg,AhT,e,YO,A1F]
   .simp only [go_sem,↓reduceIte]
   .simp only [go_sem,↓reduceIte]
   .simp only [go_sem,↓reduceIte,p8]
    intro j hj;omega
  .simp only [go_sem,↓reduceIte]
  .simp only [go_sem,↓reduceIte]
  .simp only [go_sem,↓reduceIte,onH,AhU]
   intro j hj;omega
 .have hh:decide ((f.length:Int)=(x.length:Int))=false:=decide_eq_false (by omega)
  have e:Df t x f=false:=by rw [Df,decide_eq_false c1];rfl
  simp only [S5,go_sem,↓reduceIte,h7,hh,e]
theorem A6d (t:A1) (ht:A5 t) (x f:List Int) (hl:x.length<=1000) (hlf:f.length<=1000):VP V Mn [vT t,lI x,lI f] Q↔Q (lW (hbF t x f)):=by
 refine Ae ?_
 rw [Ad C.c_z112.1 C.c_z112.2]
 have h0:=ht.n64
 have h1:=fun (Q:VV->Prop)=>AfF C t ht x f hl hlf (Q:=Q)
 cases c:Df t x f with
 | false =>
  rw [hbF,c]
  simp only [RT,go_sem,↓reduceIte,h1,c,false_eq_true]
 | true =>
  have hF:=AY c
  rw [hbF,c]
  have h2:=fun (Q:VV->Prop)=>AfG C t ht x f hF (Q:=Q)
  simp only [RT,go_sem,↓reduceIte,h1,c,h2,Qt C,Ai6 C,Rh C]
  rw [Jm h0,AhW h0,JP]
  congr 2
  apply Bn
  intro a b _ _
  rw [hF.node.has h0,hF.node.has h0]
  rfl
theorem Rk (t:A1) (ht:A5 t) (x f:List Int) (hl:x.length<=1000) (hlf:f.length<=1000):VP V VX [vT t,lI x,lI f] Q↔Q (.b (Df t x f)):=by
 refine Ae ?_
 rw [Ad C.c_z183.1 C.c_z183.2]
 have he:=ht.n64
 by_cases c1:x.length=f.length
 .have h9:decide ((x.length:Int)=(f.length:Int))=true:=decide_eq_true (by omega)
  simp only [S8,go_sem,↓reduceIte,h9]
  refine Ab (by decide) x.length (by omega) (I:=fun k F h=>A4.tmp F 1=lI x/\A4.tmp F 2=lI f/\A4.tmp F 3 = .fp (eT t) 0/\h=[]/\∀ j,j < k->Bz t x j=true) ?_ ?_ ?_ 0 _ _ (zero_le _) ?_ ?_
  .rintro k F h hk p7 ⟨p1,p2,p3,rfl,pr⟩
   simp only [go_sem,↓reduceIte,p7,p1,p2,p3]
   exact pr
  .rintro k F h hk p7 ⟨p1,p2,p3,rfl,pr⟩
   have h4:Bz t x k=false->Df t x f=false:=fun h=>by rw [Df,AP hk h];simp
   have h7:Bz t x k=true->∀ j,j < k+1->Bz t x j=true:=fun h j hj=>by
    rcases lt_or_ge j k with c | c
    .exact pr j c
    .rw [show j=k by omega];exact h
   cases d1:BP t (x.getD k 0) with
   | false =>
    have e:=h4 (by rw [Bz,d1];rfl)
    simp only [go_sem,↓reduceIte,p7,p1,p2,p3,Ar hk,hk,AA C,d1,A0,e]
   | true =>
    by_cases z:k=0
    .subst z
     have hb:Bz t x 0=true:=by rw [Bz,d1];rfl
     simp only [go_sem,↓reduceIte,p7,p1,p2,p3,Ar hk,hk,AA C,d1,A0,dz0]
     exact h7 hb
    .have z0:decide ((0:Int) < (k:Int))=true:=decide_eq_true (by omega)
     have hc:k - 1 < x.length:=by omega
     have zw:=H8 (show 0 < k by omega) (by omega)
     cases d3:decide (x.getD k 0<=x.getD (k - 1) 0) with
     | true =>
      have ha:decide (x.getD (k - 1) 0 < x.getD k 0)=false:=by have:=of_decide_eq_true d3;exact decide_eq_false (by omega)
      have e:=h4 (by rw [Bz,d1,Di,ha,decide_eq_false z];rfl)
      simp only [go_sem,↓reduceIte,p7,p1,p2,p3,Ar hk,Ar hc,hk,AA C,d1,A0,z0,zw,d3,e]
     | false =>
      have ha:decide (x.getD (k - 1) 0 < x.getD k 0)=true:=by have:=of_decide_eq_false d3;exact decide_eq_true (by omega)
      have hb:Bz t x k=true:=by rw [Bz,d1,Di,ha];simp
      simp only [go_sem,↓reduceIte,p7,p1,p2,p3,Ar hk,Ar hc,hk,AA C,d1,A0,z0,zw,d3]
      exact h7 hb
  .rintro F h ⟨p1,p2,p3,rfl,pr⟩
   have h3:Cu t x:=by
    intro n hn
    obtain ⟨i,hi,rfl⟩:=List.getElem_of_mem hn
    have:=pr i hi
    simp only [Bz,and_eq_true] at this
    have h2:=this.1
    rwa [getD_eq_getElem?_getD,getElem?_eq_getElem hi] at h2
   simp only [go_sem,↓reduceIte,p1,p2,p3]
   refine Ab (by decide) x.length (by omega) (I:=fun k F h=>A4.tmp F 1=lI x/\A4.tmp F 2=lI f/\A4.tmp F 3 = .fp (eT t) 0/\h=[]/\∀ j,j < k->Ew t x f j=true) ?_ ?_ ?_ 0 _ _ (zero_le _) ?_ ?_
   .rintro k F h hk p8 ⟨p1,p2,p3,rfl,qr⟩
    simp only [go_sem,↓reduceIte,p8,p1,p2,p3]
    exact qr
   .rintro k F h hk p8 ⟨p1,p2,p3,rfl,qr⟩
    have h0:k < f.length:=by omega
    have h4:Ew t x f k=false->Df t x f=false:=fun h=>by rw [Df,AP hk h];simp
    have h7:Ew t x f k=true->∀ j,j < k+1->Ew t x f j=true:=fun h j hj=>by
     rcases lt_or_ge j k with c | c
     .exact qr j c
     .rw [show j=k by omega];exact h
    obtain ⟨m,h5,hm⟩:=A8 (h3 _ (Ai (d:=0) hk))
    have h1:Ew t x f k=if (t.at m).kind=2 then AU x (f.getD k 0) && HT t (f.getD k 0) (t.at m).loc else decide (f.getD k 0 = -1):=by rw [Ew,h5,toNat_natCast]
    cases c2:decide ((t.at m).kind=2) with
    | false =>
     rw [if_neg (of_decide_eq_false c2)] at h1
     cases c3:decide (f.getD k 0 = -1) with
     | true =>
      simp only [go_sem,↓reduceIte,p8,p1,p2,p3,Ar hk,Ar h0,hk,h0,h5,A7 hm,c2,c3,A0]
      exact h7 (by rw [h1,c3])
     | false =>
      have e:=h4 (by rw [h1,c3])
      simp only [go_sem,↓reduceIte,p8,p1,p2,p3,Ar hk,Ar h0,hk,h0,h5,A7 hm,c2,c3,A0,e]
    | true =>
     rw [if_pos (of_decide_eq_true c2)] at h1
     have h6:=Cg x (f.getD k 0)
     cases c3:AU x (f.getD k 0) with
     | false =>
      have e:=h4 (by rw [h1,c3];rfl)
      rw [c3] at h6
      simp only [go_sem,↓reduceIte,p8,p1,p2,p3,Ar hk,Ar h0,hk,h0,h5,A7 hm,c2,A0,e,Ao C x (by omega),h6]
     | true =>
      rw [c3] at h6
      obtain ⟨w,h8,hw⟩:=A8 (h3 _ (A9.1 c3))
      have hd:HT t (f.getD k 0) (t.at m).loc=(decide ((t.at w).kind=3) && decide ((t.at w).loc=(t.at m).loc)):=by rw [HT,h8,toNat_natCast]
      rw [c3,Bool.true_and,hd] at h1
      rw [h8] at h6
      cases c4:decide ((t.at w).kind=3) with
      | false =>
       have e:=h4 (by rw [h1,c4];rfl)
       simp only [go_sem,↓reduceIte,p8,p1,p2,p3,Ar hk,Ar h0,hk,h0,h5,h8,A7 hm,A7 hw,c2,c4,A0,e,Ao C x (by omega),h6]
      | true =>
       cases c5:decide ((t.at w).loc=(t.at m).loc) with
       | false =>
        have e:=h4 (by rw [h1,c4,c5];rfl)
        simp only [go_sem,↓reduceIte,p8,p1,p2,p3,Ar hk,Ar h0,hk,h0,h5,h8,A7 hm,A7 hw,c2,c4,c5,A0,e,Ao C x (by omega),h6]
       | true =>
        simp only [go_sem,↓reduceIte,p8,p1,p2,p3,Ar hk,Ar h0,hk,h0,h5,h8,A7 hm,A7 hw,c2,c4,c5,A0,Ao C x (by omega),h6]
        exact h7 (by rw [h1,c4,c5];rfl)
   .rintro F h ⟨p1,p2,p3,rfl,qr⟩
    have e:Df t x f=true:=by rw [Df,decide_eq_true c1,AQ pr,AQ qr];rfl
    simp only [go_sem,↓reduceIte,p1,p2,p3,e]
   .simp only [go_sem,↓reduceIte]
   .simp only [go_sem,↓reduceIte,p1,p2,p3]
    intro j hj;omega
  .simp only [go_sem,↓reduceIte]
  .simp only [go_sem,↓reduceIte]
   intro j hj;omega
 .have h9:decide ((x.length:Int)=(f.length:Int))=false:=decide_eq_false (by omega)
  have e:Df t x f=false:=by rw [Df,decide_eq_false c1];rfl
  simp only [S8,go_sem,↓reduceIte,h9,e]
omit C in
theorem AbT (t:A1) (x f:List Int) (k:Nat) (w:Int) (h:JH t w=false):HF t x f (k+1) w=KB t x w ||| HF t x f k (ahF t x f w):=by rw [HF,h];rfl
omit C in
theorem Sg (t:A1) (x f:List Int) (k:Nat) (w:Int) (h:JH t w=true):HF t x f k w=0#64:=by
 cases k with
 | zero=>rfl
 | succ k=>rw [HF,h];rfl
omit C in
theorem AhZ {t:A1} (ht:A5 t) {x:List Int} (hx:Cu t x) {w:Nat} (hw:w < t.nodes.length) (hth:0<=(t.at w).thread) (s:BitVec 64) :
  DZ (fun n=>decide ((t.at n.toNat).kind=4) && GA (t.at n.toNat) && decide ((t.at n.toNat).thread=(t.at w).thread) && Ap t n w) (if GA (t.at w)=true then s ||| C4 w else s) x=s ||| KB t x w:=by
 apply B1
 intro j hj
 rw [Xb _ j hj,getLsbD_or,KB,Au,Ace,decide_eq_true hj,Bool.and_true]
 have e0:(if GA (t.at w)=true then s ||| C4 (w:Int) else s).getLsbD j=(s.getLsbD j || (decide ((j:Int)=(w:Int)) && GA (t.at j))):=by
  by_cases c:GA (t.at w)=true
  .rw [if_pos c,getLsbD_or,CT]
   by_cases e:j=w
   .subst e;simp [c,hj]
   .have:¬ (j:Int)=(w:Int):=by omega
    simp [this]
  .rw [if_neg c]
   by_cases e:j=w
   .subst e;simp [c]
   .have:¬ (j:Int)=(w:Int):=by omega
    simp [this]
 have e1:(AU x (j:Int) && (decide ((t.at j).kind=4) && GA (t.at j) && decide ((t.at j).thread=(t.at w).thread) && Ap t j w))=(AU x (j:Int) && decide ((t.at j).kind=4) && GA (t.at j) && Ap t j w):=by
  cases c1:AU x (j:Int) with
  | false=>rfl
  | true =>
   obtain ⟨m,h1,hm⟩:=A8 (hx _ (A9.1 c1))
   have h0:m=j:=by omega
   subst h0
   cases c2:decide ((t.at m).kind=4) with
   | false=>rfl
   | true =>
    cases c3:Ap t m w with
    | false=>simp
    | true =>
     have hl:t.locs.length<=m:=by
      rcases lt_or_ge m t.locs.length with h | h
      .have:=(ht.init m h).kind;have:=of_decide_eq_true c2;omega
      .exact h
     have hb:Aw t m w=true:=by
      simp only [Ap,BM hm,BM hw,toNat_natCast,Bool.true_and] at c3
      rw [if_neg (by have:=(ht.good m hl hm).thr;omega)] at c3
      exact c3
     have:=Abp ht hl (w+1) w (by omega) hw hb
     simp [this]
 simp only [toNat_natCast]
 rw [e0,e1]
 cases s.getLsbD j<;>cases decide ((j:Int)=(w:Int))<;>cases GA (t.at j)<;>simp
theorem A2O (t:A1) (ht:A5 t) (x f:List Int) (hl:x.length<=1000) (hlf:f.length<=1000) (hc:Df t x f=true) {w0:Nat} (hw0:(w0:Int)∈x) (hk0:(t.at w0).kind=3):VP V VY [vT t,lI x,lI f,.i .i64 w0] Q↔Q (vW (B3 t x f w0)):=by
 refine Ae ?_
 rw [Ad C.c_z184.1 C.c_z184.2]
 have q5:=ht.n64
 have hF:=AY hc
 have hx:=hF.node
 obtain ⟨he,q0,hi⟩:=A8 (hx _ hw0)
 have:he = w0:=by omega
 subst this
 have hr:=fun (Q:VV->Prop)=>Rk C t ht x f hl hlf (Q:=Q)
 have hq:=Cg x (he:Int)
 rw [A9.2 hw0] at hq
 simp only [A05,go_sem,↓reduceIte,hr,hc,Ao C x (by omega),hq,A7 hi,hk0]
 refine Ab (by decide) (x.length+1) (by omega) (I:=fun k F h=>A4.tmp F 1=lI x/\A4.tmp F 2=lI f/\A4.tmp F 4 = .fp (eT t) 0/\h=[]/\∃ (s:BitVec 64) (w:Nat),A4.tmp F 9=vW s/\A4.tmp F 3 = .i .i64 w/\(w:Int)∈x/\k<=x.length+1/\s ||| HF t x f (x.length+1 - k) w=B3 t x f he) ?_ ?_ ?_ 0 _ _ (zero_le _) ?_ ?_
 .rintro k F h hk h9 ⟨p1,p2,p4,rfl,s,w,p9,p3,hw,hh,hs⟩
  have e:decide ((k:Int)<=(x.length:Int))=decide (k < x.length+1):=decide_eq_decide.2 ⟨fun h=>by omega,fun h=>by omega⟩
  have e':decide (k<=x.length)=decide (k < x.length+1):=decide_eq_decide.2 ⟨fun h=>by omega,fun h=>by omega⟩
  simp only [go_sem,↓reduceIte,h9,p1,p2,p4,p9,p3,e,e']
  exact ⟨s,rfl,w,rfl,hw,hh,hs⟩
 .rintro k F h hk h9 ⟨p1,p2,p4,rfl,s,w,p9,p3,hw,hh,hs⟩
  obtain ⟨w',q7,hd⟩:=A8 (hx _ hw)
  have:w' = w:=by omega
  subst this
  cases c1:decide ((t.at w').thread < 0) with
  | true =>
   have ho:JH t w' = true:=by rw [JH,toNat_natCast,c1,Bool.or_true]
   rw [Sg _ _ _ _ _ ho] at hs
   simp only [or_zero] at hs
   simp only [go_sem,↓reduceIte,h9,p1,p2,p4,p9,p3,A7 hd,c1,A0,hs]
  | false =>
   have hz:0<=(t.at w').thread:=by have:=of_decide_eq_false c1;omega
   have ho:JH t w' = false:=by rw [JH,toNat_natCast,c1,decide_eq_false (by omega)];rfl
   have hy:x.length+1 - k=(x.length+1 - (k+1))+1:=by omega
   rw [hy,AbT _ _ _ _ _ ho,<- BitVec.or_assoc] at hs
   have h8:=AhZ ht hx hd hz s
   generalize hs1:(if GA (t.at w')=true then s ||| C4 (w':Int) else s)=s1 at h8
   cases c2:GA (t.at w')<;>simp only [c2,false_eq_true,if_true,if_false] at hs1<;>(
   simp only [go_sem,↓reduceIte,h9,p1,p2,p4,p9,p3,A7 hd,c1,A0,Hi C,c2,Bi C]
   refine Ab (by decide) x.length (by omega) (I:=fun j F h=>A4.tmp F 10 = .i .i64 k/\A4.tmp F 1=lI x/\A4.tmp F 2=lI f/\A4.tmp F 4 = .fp (eT t) 0/\A4.tmp F 3 = .i .i64 w'/\A4.tmp F 11 = .p 0 0 0 0/\h=[some ⟨Ck,0,0,false,[eN (t.at w')]⟩]/\A4.tmp F 9=vW (DZ (fun n=>decide ((t.at n.toNat).kind=4) && GA (t.at n.toNat) && decide ((t.at n.toNat).thread=(t.at w').thread) && Ap t n w') s1 (x.take j))) ?_ ?_ ?_ 0 _ _ (zero_le _) ?_ ?_
   .rintro j F h hj h6 ⟨h3,q1,q2,q4,q3,h4,rfl,q9⟩
    simp only [go_sem,↓reduceIte,h6,h3,q1,q2,q4,q3,h4,q9]
   .rintro j F h hj h6 ⟨h3,q1,q2,q4,q3,h4,rfl,q9⟩
    obtain ⟨m,h0,hm⟩:=A8 (hx _ (Ai (d:=0) hj))
    have hb:=fun (Q:VV->Prop)=>E0 C t ht.up (m:Int) (w':Int) (Q:=Q)
    cases d1:decide ((t.at m).kind=4) with
    | false =>
     rw [<- YQ hj (by rw [h0,toNat_natCast,d1];rfl)]
     simp only [go_sem,↓reduceIte,h6,h3,q1,q2,q4,q3,h4,q9,Ar hj,hj,h0,A7 hm,d1,A0]
    | true =>
    cases d2:GA (t.at m) with
    | false =>
     rw [<- YQ hj (by rw [h0,toNat_natCast,d2];simp)]
     simp only [go_sem,↓reduceIte,h6,h3,q1,q2,q4,q3,h4,q9,Ar hj,hj,h0,A7 hm,d1,d2,Hi C,A0]
    | true =>
    cases d3:decide ((t.at m).thread=(t.at w').thread) with
    | false =>
     rw [<- YQ hj (by rw [h0,toNat_natCast,d3];simp)]
     simp only [go_sem,↓reduceIte,h6,h3,q1,q2,q4,q3,h4,q9,Ar hj,hj,h0,A7 hm,d1,d2,d3,Hi C,A0]
    | true =>
    cases d4:Ap t m w' with
    | false =>
     rw [<- YQ hj (by rw [h0,d4];simp)]
     simp only [go_sem,↓reduceIte,h6,h3,q1,q2,q4,q3,h4,q9,Ar hj,hj,h0,A7 hm,d1,d2,d3,d4,hb,Hi C,A0]
    | true =>
     rw [<- AlJ hj (by rw [h0,toNat_natCast,d1,d2,d3,d4];rfl),h0]
     simp only [go_sem,↓reduceIte,h6,h3,q1,q2,q4,q3,h4,q9,Ar hj,hj,h0,A7 hm,d1,d2,d3,d4,hb,Hi C,Bi C,A0]
   .rintro F h ⟨h3,q1,q2,q4,q3,h4,rfl,q9⟩
    rw [take_length,h8] at q9
    have hf:ahF t x f w' = if (t.at w').rmw=true/\AU x (t.at w').up=true then Ey x f (t.at w').up else -1:=by rw [ahF,toNat_natCast]
    have h5:JH t (-1)=true:=rfl
    cases d1:(t.at w').rmw with
    | false =>
     rw [hf,d1,if_neg (by simp),Sg _ _ _ _ _ h5] at hs
     simp only [or_zero] at hs
     simp only [go_sem,↓reduceIte,h3,q1,q2,q4,q3,h4,q9,d1,hs]
    | true =>
    have h2:=Cg x (t.at w').up
    cases d2:AU x (t.at w').up with
    | false =>
     rw [d2] at h2
     rw [hf,d2,if_neg (by simp),Sg _ _ _ _ _ h5] at hs
     simp only [or_zero] at hs
     simp only [go_sem,↓reduceIte,h3,q1,q2,q4,q3,h4,q9,d1,hs,Ao C x (by omega),h2]
    | true =>
     rw [d2] at h2
     have h7:=Yt ht hF hw
     rw [hf,d1,d2,if_pos ⟨rfl,rfl⟩] at hs h7
     obtain ⟨i,hg,hu,_,_⟩:=Gx d2
     have hv:i < f.length:=by rw [<- hF.len];exact hu
     have hn:Ey x f (t.at w').up=f.getD i 0:=by rw [Ey,if_pos d2,hg,toNat_natCast]
     rw [hn] at hs h7
     rw [hg] at h2
     have ha:=(hF.read (t.at w').up (A9.1 d2) (by
      have hl:t.locs.length<=w':=by
       rcases lt_or_ge w' t.locs.length with h1 | h1
       .have:=(ht.init w' h1).thr;omega
       .exact h1
      exact ((ht.good w' hl hd).rmw d1).2)).1
     rw [hn] at ha
     obtain ⟨v,hp,q6⟩:=A8 (hx _ ha)
     rw [hp] at hs ha
     simp only [go_sem,↓reduceIte,h3,q1,q2,q4,q3,h4,q9,d1,Ao C x (by omega),hg,h2,Ar hv,hp]
     exact ⟨_,rfl,v,rfl,ha,by omega,hs⟩
   .simp only [go_sem,↓reduceIte]
   .simp only [go_sem,↓reduceIte,h9,p1,p2,p4,p3,p9,hs1]
    rfl)
 .rintro F h ⟨p1,p2,p4,rfl,s,w,p9,p3,hw,hh,hs⟩
  rw [Nat.sub_self,HF] at hs
  simp only [or_zero] at hs
  simp only [go_sem,↓reduceIte,p1,p2,p4,p9,p3,hs]
 .simp only [go_sem,↓reduceIte]
 .simp only [go_sem,↓reduceIte]
  exact ⟨0#64,rfl,he,rfl,hw0,by rw [B3];simp⟩
end
theorem Afu {n:Nat} {p:Nat->Nat->Bool}:(Ak n p).take n=Ak n p:=List.take_of_length_le (by rw [Aj];omega)
theorem AjD {t:A1} {x:List Int} {r m:Nat} (hm:(m:Int)∈x):G3 t x r m=(KP (t.at m) && (decide (m=r) || (decide ((t.at m).kind=4) && Ap t r m))):=by
 rw [G3,A9.2 hm]
 have e:decide ((m:Int)=(r:Int))=decide (m=r):=decide_eq_decide.2 ⟨fun h=>by omega,fun h=>by omega⟩
 rw [e]
 cases decide (m=r)<;>cases KP (t.at m)<;>cases decide ((t.at m).kind=4)<;>cases Ap t r m<;>rfl
theorem Afj {t:A1} (ht:A5 t):0 < t.nodes.length:=by
 obtain ⟨s,h0,he,hs⟩:=ht.thr
 have h1:=ht.r1
 obtain ⟨_,n,hB⟩:=hs 0 (by omega)
 cases n with
 | zero=>exact absurd hB (by simp [GL])
 | succ n=>have:=hB.1.1;omega
section
variable {V:At} (C:Aq V) {Q:VV->VH->Prop}
include C
theorem Aaz (t:A1) (ht:A5 t) (x f:List Int) (hl:x.length<=1000) (hlf:f.length<=1000) (hc:Df t x f=true) (b0:Nat) :
    VP1 V V7 [vT t,lI x,lI f] b0 Q↔Q (.sl b0 0 0 t.nodes.length) [some ⟨AK,1,0,false,(Ak t.nodes.length (swB t x f)).map eW⟩]:=by
  refine K8 ?_
  rw [K9 C.c_z130.2]
  have q6:=ht.n64
  have hF:=AY hc
  have hx:=hF.node
  have qb:=fun (Q:VV->Prop)=>Rk C t ht x f hl hlf (Q:=Q)
  have b1:t.nodes.length * 8<=Aa:=by unfold Aa;omega
  simp only [Zy,go_sem,↓reduceIte,qb,hc,b1,Int.le_refl]
  refine Ab (by decide) x.length (by omega) (I:=fun i F h=>A4.tmp F 1=lI x/\A4.tmp F 2=lI f/\A4.tmp F 3 = .fp (eT t) 0/\A4.tmp F 7 = .sl 0 0 0 t.nodes.length/\h=[some ⟨AK,1,0,false,(Ak t.nodes.length (Yp t x f (x.take i))).map eW⟩]) ?_ ?_ ?_ 0 _ _ (zero_le _) ?_ ?_
  · rintro i F h hi p8 ⟨p1, p2, p3, p7, rfl⟩
    simp only [go_sem,↓reduceIte,p8,p1,p2,p3,p7]
  · rintro i F h hi p8 ⟨p1, p2, p3, p7, rfl⟩
    have hp:i < f.length:=by rw [<- hF.len];exact hi
    have hz:=hF.at_ i hi
    have he:x.getD i 0∈x:=Ai hi
    obtain ⟨r,h3,hr⟩:=A8 (hx _ he)
    have q4:(r:Int)∈x:=by rw [<- h3];exact he
    rw [h3] at hz
    have h2:∀ a b,Yp t x f (x.take (i+1)) a b=(Yp t x f (x.take i) a b || (Jw t x f r && Bc (B3 t x f (Ey x f r)) (a:Int) && G3 t x r b)):=fun a b=>by rw [AaP hi,h3]
    have same:Jw t x f r=false->Ak t.nodes.length (Yp t x f (x.take i))=Ak t.nodes.length (Yp t x f (x.take (i+1))):=fun e=>Bn fun a b _ _=>by rw [h2,e];simp
    have h7:Jw t x f r=(decide ((t.at r).kind=2) && !decide ((t.at (Ey x f r).toNat).thread=(t.at r).thread)):=by rw [Jw,toNat_natCast]
    cases ck:decide ((t.at r).kind=2) with
    | false =>
      have hs:=same (by rw [h7,ck];rfl)
      simp only [go_sem,↓reduceIte,p8,p1,p2,p3,p7,Ar hi,hi,h3,A7 hr,ck,A0,hs]
    | true =>
    obtain ⟨o1,o2,o3⟩:=hF.read _ q4 (by rw [toNat_natCast];exact of_decide_eq_true ck)
    obtain ⟨w,hg,hw⟩:=A8 (hx _ o1)
    rw [hg] at o1 o2
    rw [toNat_natCast] at o2
    have q0:f.getD i 0=(w:Int):=by rw [<- hz,hg]
    cases c2:decide ((t.at w).thread=(t.at r).thread) with
    | true =>
      have hs:=same (by rw [h7,hg,toNat_natCast,c2];simp)
      simp only [go_sem,↓reduceIte,p8,p1,p2,p3,p7,Ar hi,Ar hp,hi,hp,h3,q0,A7 hr,A7 hw,ck,c2,A0,hs]
    | false =>
    have hs:Jw t x f r=true:=by rw [h7,hg,toNat_natCast,c2,ck];rfl
    have hh:=fun (Q:VV->Prop)=>A2O C t ht x f hl hlf hc o1 o2 (Q:=Q)
    simp only [go_sem,↓reduceIte,p8,p1,p2,p3,p7,Ar hi,Ar hp,hi,hp,h3,q0,A7 hr,A7 hw,ck,c2,A0,hh,MB C]
    have qd:=CO (B3 t x f w)
    let M:=fun (k:Nat) (a b:Nat)=>Yp t x f (x.take i) a b || (Bc (B3 t x f w) (a:Int) && AU (x.take k) (b:Int) && G3 t x r b)
    refine Ab (by decide) x.length (by omega) (I:=fun k F h=>A4.tmp F 8 = .i .i64 i/\A4.tmp F 1=lI x/\A4.tmp F 2=lI f/\A4.tmp F 3 = .fp (eT t) 0/\A4.tmp F 7 = .sl 0 0 0 t.nodes.length/\A4.tmp F 9=lI (Ay (B3 t x f w))/\h=[some ⟨AK,1,0,false,(Ak t.nodes.length (M k)).map eW⟩]) ?_ ?_ ?_ 0 _ _ (zero_le _) ?_ ?_
    · rintro k F h hk h8 ⟨q8, q1, q2, q3, q7, q9, rfl⟩
      simp only [go_sem,↓reduceIte,h8,q8,q1,q2,q3,q7,q9]
    · rintro k F h hk h8 ⟨q8, q1, q2, q3, q7, q9, rfl⟩
      have hd:x.getD k 0∈x:=Ai hk
      obtain ⟨m,h5,hm⟩:=A8 (hx _ hd)
      have qc:(m:Int)∈x:=by rw [<- h5];exact hd
      have h1:=AjD (t:=t) (r:=r) qc
      have hb:=fun (Q:VV->Prop)=>E0 C t ht.up (r:Int) (m:Int) (Q:=Q)
      have q5:∀ b:Nat,AU (x.take (k+1)) (b:Int)=(AU (x.take k) (b:Int) || decide (b=m)):=fun b=>by
        rw [List.take_succ_eq_append_getElem hk]
        rw [getD_eq_getElem?_getD,getElem?_eq_getElem hk,getD_some] at h5
        rw [h5,Bool.eq_iff_iff,A9,mem_append,or_eq_true,A9,decide_eq_true_eq,mem_singleton]
        exact ⟨fun h=>h.imp id fun h=>by omega,fun h=>h.imp id fun h=>by omega⟩
      have h4:G3 t x r m=false->Ak t.nodes.length (M k)=Ak t.nodes.length (M (k+1)):=fun e=>Bn fun a b _ _=>by
        simp only [M]
        rw [q5]
        by_cases c:b=m
        · subst c;rw [e];simp
        · simp [c]
      cases d1:KP (t.at m) with
      | false =>
        have hu:=h4 (by rw [h1,d1];rfl)
        simp only [go_sem,↓reduceIte,h8,q8,q1,q2,q3,q7,q9,Ar hk,hk,h5,A7 hm,MA C,d1,A0,hu]
      | true =>
      have hq:G3 t x r m=true->Ak t.nodes.length (fun a b=>M k a b || (Bc (B3 t x f w) (a:Int) && decide (b=m)))=Ak t.nodes.length (M (k+1)):=fun e=>Bn fun a b _ _=>by
        simp only [M]
        rw [q5]
        by_cases c:b=m
        · subst c;rw [e];cases Yp t x f (x.take i) a b<;>cases Bc (B3 t x f w) (a:Int)<;>cases AU (x.take k) (b:Int)<;>simp
        · simp [c]
      have hy:decide ((m:Int)=(r:Int))=decide (m=r):=decide_eq_decide.2 ⟨fun h=>by omega,fun h=>by omega⟩
      cases d2:decide (m=r)<;>cases d3:decide ((t.at m).kind=4)<;>cases d4:Ap t r m<;>rw [d1,d2,d3,d4] at h1<;>(first
        | (have hu:=h4 (by rw [h1];rfl)
           simp only [go_sem,↓reduceIte,h8,q8,q1,q2,q3,q7,q9,Ar hk,Ar hi,hk,hi,h3,h5,A7 hm,MA C,d1,hy,d2,d3,hb,d4,A0,hu])
        | (have qa:=hq (by rw [h1];rfl)
           simp only [go_sem,↓reduceIte,h8,q8,q1,q2,q3,q7,q9,Ar hk,Ar hi,hk,hi,h3,h5,A7 hm,MA C,d1,hy,d2,d3,hb,d4,A0]
           refine Ab (by decide) (Ay (B3 t x f w)).length (by omega) (I:=fun j F h=>A4.tmp F 10 = .i .i64 k/\A4.tmp F 8 = .i .i64 i/\A4.tmp F 1=lI x/\A4.tmp F 2=lI f/\A4.tmp F 3 = .fp (eT t) 0/\A4.tmp F 7 = .sl 0 0 0 t.nodes.length/\A4.tmp F 9=lI (Ay (B3 t x f w))/\h=[some ⟨AK,1,0,false,(Ak t.nodes.length fun a b=>M k a b || (AU ((Ay (B3 t x f w)).take j) (a:Int) && decide (b=m))).map eW⟩,some ⟨Ck,0,0,false,[eN (t.at m)]⟩]) ?_ ?_ ?_ 0 _ _ (zero_le _) ?_ ?_
           · rintro j F h hj hv ⟨hn, u8, u1, u2, u3, u7, u9, rfl⟩
             simp only [go_sem,↓reduceIte,hv,hn,u8,u1,u2,u3,u7,u9]
           · rintro j F h hj hv ⟨hn, u8, u1, u2, u3, u7, u9, rfl⟩
             have h6:=(B4 (s:=B3 t x f w)).1 (Ai (d:=0) hj)
             obtain ⟨a0,_⟩:=CN h6
             obtain ⟨a,ho⟩:=Int.eq_ofNat_of_zero_le a0
             have ha:a < t.nodes.length:=A19 ht hF o1 (by rw [ho,AC] at h6;exact h6)
             have hf:=A63 ha hm q6 (fun a b=>M k a b || (AU ((Ay (B3 t x f w)).take j) (a:Int) && decide (b=m)))
             have hM:Ak t.nodes.length (fun i' b=>(M k i' b || (AU ((Ay (B3 t x f w)).take j) (i':Int) && decide (b=m))) || (decide (i' = a) && decide (b=m)))=Ak t.nodes.length (fun a b=>M k a b || (AU ((Ay (B3 t x f w)).take (j+1)) (a:Int) && decide (b=m))):=Bn fun i' b _ _=>by
               rw [List.take_succ_eq_append_getElem hj]
               have e:AU ((Ay (B3 t x f w)).take j++[(Ay (B3 t x f w))[j]]) (i':Int)=(AU ((Ay (B3 t x f w)).take j) (i':Int) || decide (i' = a)):=by
                 rw [getD_eq_getElem?_getD,getElem?_eq_getElem hj,getD_some] at ho
                 rw [ho,Bool.eq_iff_iff,A9,mem_append,or_eq_true,A9,decide_eq_true_eq,mem_singleton]
                 exact ⟨fun h=>h.imp id fun h=>by omega,fun h=>h.imp id fun h=>by omega⟩
               rw [e]
               cases M k i' b<;>cases AU ((Ay (B3 t x f w)).take j) (i':Int)<;>cases decide (i' = a)<;>cases decide (b=m)<;>rfl
             rw [hM] at hf
             simp only [go_sem,↓reduceIte,hv,hn,u8,u1,u2,u3,u7,u9,Ar hj,Ar hk,hj,hk,ho,h5,Bm ha,Bi C,A0,hf,Aj,ha]
           · rintro F h ⟨hn, u8, u1, u2, u3, u7, u9, rfl⟩
             have h9:Ak t.nodes.length (fun a b=>M k a b || (AU (Ay (B3 t x f w)) (a:Int) && decide (b=m)))=Ak t.nodes.length (M (k+1)):=by
               rw [<- qa]
               exact Bn fun a b _ _=>by
                 have e:AU (Ay (B3 t x f w)) (a:Int)=Bc (B3 t x f w) (a:Int):=by rw [Bool.eq_iff_iff,A9,B4]
                 rw [e]
             simp only [go_sem,↓reduceIte,hn,u8,u1,u2,u3,u7,u9,take_length,h9]
           · simp only [go_sem,↓reduceIte]
           · simp only [go_sem, ↓reduceIte, h8, q8, q1, q2, q3, q7, q9]
             have h0:Ak t.nodes.length (fun a b=>M k a b || (AU ((Ay (B3 t x f w)).take 0) (a:Int) && decide (b=m)))=Ak t.nodes.length (M k):=Bn fun a b _ _=>by simp only [take_zero,AU,any_nil,Bool.false_and,Bool.or_false]
             rw [take_zero] at h0
             rw [h0]))
    · rintro F h ⟨q8, q1, q2, q3, q7, q9, rfl⟩
      have hM:Ak t.nodes.length (M x.length)=Ak t.nodes.length (Yp t x f (x.take (i+1))):=Bn fun a b _ hb=>by
        simp only [M]
        rw [take_length,h2,hs,hg,Bool.true_and]
        cases e1:G3 t x r b with
        | false=>simp
        | true =>
          have:AU x (b:Int)=true:=by
            simp only [G3,or_eq_true,and_eq_true,decide_eq_true_eq] at e1
            rcases e1 with h | h
            · rw [h.1];exact A9.2 q4
            · exact h.1.1.1
          rw [this];simp
      simp only [go_sem,↓reduceIte,q8,q1,q2,q3,q7,q9,hM]
    · simp only [go_sem,↓reduceIte]
    · simp only [go_sem, ↓reduceIte, p8, p1, p2, p3, p7]
      have hM:Ak t.nodes.length (M 0)=Ak t.nodes.length (Yp t x f (x.take i)):=Bn fun a b _ _=>by simp only [M,take_zero,AU,any_nil,Bool.and_false,Bool.false_and,Bool.or_false]
      rw [hM]
  · rintro F h ⟨p1, p2, p3, p7, rfl⟩
    have e:Ak t.nodes.length (Yp t x f x)=Ak t.nodes.length (swB t x f):=rfl
    simp only [go_sem,↓reduceIte,p1,p2,p3,p7,Aj,BF,take_length,e]
    simp
  · simp only [go_sem,↓reduceIte]
  · simp only [go_sem, ↓reduceIte]
    rw [<- J7];rfl
theorem Qr (t:A1) (ht:A5 t) (x f:List Int) (hl:x.length<=1000) (hlf:f.length<=1000) (hc:Df t x f=true) {Q:VV->Prop}:VP V A5B [vT t,lI x,lI f] Q↔Q (lW (hbF t x f)):=by
 refine Ae ?_
 rw [Ad C.c_z62.1 C.c_z62.2]
 have h6:=ht.n64
 rw [hbF,hc]
 have hF:=AY hc
 have hx:=hF.node
 have he:=fun (b:Nat) (Q:VV->VH->Prop)=>Aaz C t ht x f hl hlf hc b (Q:=Q)
 have h8:=AiC (i:=0) (v:=0) (o:=0) (Afj ht)
 simp only [A9k,go_sem,↓reduceIte,he,h8]
 let M:=fun (i k:Nat) (a b:Nat)=>swB t x f a b || ((AU (x.take i) (a:Int) && AU x (b:Int) && Ap t a b) || (decide ((a:Int)=x.getD i 0) && AU (x.take k) (b:Int) && Ap t a b))
 refine Ab (by decide) x.length (by omega) (I:=fun i F h=>A4.tmp F 1=lI x/\A4.tmp F 3 = .fp (eT t) 0/\A4.tmp F 7 = .sl 0 0 0 t.nodes.length/\h=[some ⟨AK,1,0,false,(Ak t.nodes.length (M i 0)).map eW⟩]) ?_ ?_ ?_ 0 _ _ (zero_le _) ?_ ?_
 .rintro i F h hi p8 ⟨p1,p3,p7,rfl⟩
  simp only [go_sem,↓reduceIte,p8,p1,p3,p7]
 .rintro i F h hi p8 ⟨p1,p3,p7,rfl⟩
  obtain ⟨a,h3,ha⟩:=A8 (hx _ (Ai (d:=0) hi))
  simp only [go_sem,↓reduceIte,p8,p1,p3,p7,A0]
  refine Ab (by decide) x.length (by omega) (I:=fun k F h=>A4.tmp F 8 = .i .i64 i/\A4.tmp F 1=lI x/\A4.tmp F 3 = .fp (eT t) 0/\A4.tmp F 7 = .sl 0 0 0 t.nodes.length/\h=[some ⟨AK,1,0,false,(Ak t.nodes.length (M i k)).map eW⟩]) ?_ ?_ ?_ 0 _ _ (zero_le _) ?_ ?_
  .rintro k F h hk q9 ⟨q8,q1,q3,q7,rfl⟩
   simp only [go_sem,↓reduceIte,q9,q8,q1,q3,q7]
  .rintro k F h hk q9 ⟨q8,q1,q3,q7,rfl⟩
   obtain ⟨m,h2,hm⟩:=A8 (hx _ (Ai (d:=0) hk))
   have hb:=fun (Q:VV->Prop)=>E0 C t ht.up (a:Int) (m:Int) (Q:=Q)
   have h5:∀ b:Nat,AU (x.take (k+1)) (b:Int)=(AU (x.take k) (b:Int) || decide (b=m)):=fun b=>by
    rw [List.take_succ_eq_append_getElem hk]
    rw [getD_eq_getElem?_getD,getElem?_eq_getElem hk,getD_some] at h2
    rw [h2,Bool.eq_iff_iff,A9,mem_append,or_eq_true,A9,decide_eq_true_eq,mem_singleton]
    exact ⟨fun h=>h.imp id fun h=>by omega,fun h=>h.imp id fun h=>by omega⟩
   have h4:∀ i':Nat,decide ((i':Int)=x.getD i 0)=decide (i' = a):=fun i'=>by rw [h3];exact decide_eq_decide.2 ⟨fun h=>by omega,fun h=>by omega⟩
   cases d1:Ap t a m with
   | false =>
    have hd:Ak t.nodes.length (M i k)=Ak t.nodes.length (M i (k+1)):=Bn fun i' b _ _=>by
     simp only [M]
     rw [h5,h4]
     by_cases c:i' = a
     .subst c
      by_cases c':b=m
      .subst c';rw [d1];simp
      .simp [c']
     .simp [c]
    simp only [go_sem,↓reduceIte,q9,q8,q1,q3,q7,Ar hi,Ar hk,hi,hk,h3,h2,hb,d1,A0,hd]
   | true =>
    have h1:=A63 ha hm h6 (M i k)
    have h7:Ak t.nodes.length (fun i' b=>M i k i' b || (decide (i' = a) && decide (b=m)))=Ak t.nodes.length (M i (k+1)):=Bn fun i' b _ _=>by
     simp only [M]
     rw [h5,h4]
     by_cases c:i' = a
     .subst c
      by_cases c':b=m
      .subst c';rw [d1];simp
      .simp [c']
     .simp [c]
    rw [h7] at h1
    simp only [go_sem,↓reduceIte,q9,q8,q1,q3,q7,Ar hi,Ar hk,hi,hk,h3,h2,hb,d1,A0,Bm ha,Bi C,h1,Aj,ha]
  .rintro F h ⟨q8,q1,q3,q7,rfl⟩
   have hM:Ak t.nodes.length (M i x.length)=Ak t.nodes.length (M (i+1) 0):=Bn fun i' b _ _=>by
    simp only [M]
    rw [take_length,take_zero]
    have e:AU (x.take (i+1)) (i':Int)=(AU (x.take i) (i':Int) || decide ((i':Int)=x.getD i 0)):=by
     rw [List.take_succ_eq_append_getElem hi,getD_eq_getElem?_getD,getElem?_eq_getElem hi,getD_some,Bool.eq_iff_iff,A9,mem_append,or_eq_true,A9,decide_eq_true_eq,mem_singleton]
    rw [e]
    show _=(_ || (_ || (_ && false && _)))
    cases swB t x f i' b<;>cases AU (x.take i) (i':Int)<;>cases decide ((i':Int)=x.getD i 0)<;>cases AU x (b:Int)<;>cases Ap t i' b<;>simp
   simp only [go_sem,↓reduceIte,q8,q1,q3,q7,hM]
  .simp only [go_sem,↓reduceIte]
  .simp only [go_sem,↓reduceIte,p8,p1,p3,p7]
 .rintro F h ⟨p1,p3,p7,rfl⟩
  have hM:Ak t.nodes.length (M x.length 0)=Ak t.nodes.length (Ks t x f):=Bn fun a b _ _=>by
   simp only [M]
   rw [take_length,take_zero]
   show (_ || (_ || (_ && false && _)))=_
   rw [Ks]
   cases swB t x f a b<;>cases AU x (a:Int)<;>cases AU x (b:Int)<;>cases Ap t a b<;>simp
  have h9:=fun (Q:VV->Prop)=>XW C (Ak t.nodes.length (Ks t x f)) (by rw [Aj];omega) (Q:=Q)
  simp only [go_sem,↓reduceIte,p1,p3,p7,hM,Aj,Afu,h9]
  try rfl
 .simp only [go_sem,↓reduceIte]
 .simp only [go_sem,↓reduceIte]
  have h0:Ak t.nodes.length (M 0 0)=Ak t.nodes.length (swB t x f):=Bn fun a b _ _=>by
   simp only [M]
   rw [take_zero]
   show (_ || ((false && _ && _) || (_ && false && _)))=_
   simp
  rw [h0]
end
section
variable {V:At} (C:Aq V) {Q:VV->Prop}
include C
theorem He (t:A1) (s:A6) (hs:DL s) {n:Nat} (hn:n < t.nodes.length):VP V Vu [vT t,Dy s,.i .i64 n] Q↔Q (.i .i64 (plR t s n)):=by
 refine Ae ?_
 rw [Ad C.c_z154.1 C.c_z154.2]
 unfold plR
 rw [toNat_natCast]
 cases c:decide ((t.at n).kind=3) with
 | true =>
  rw [if_pos (of_decide_eq_true c)]
  simp only [PK,go_sem,↓reduceIte,A7 hn,c,Ki C s hs,A0]
 | false =>
  rw [if_neg (of_decide_eq_false c)]
  cases c2:decide ((t.at n).kind=2) with
  | true =>
   rw [if_pos (of_decide_eq_true c2)]
   simp only [PK,go_sem,↓reduceIte,A7 hn,c,c2,A1M C s hs,Ki C s hs,A0]
  | false =>
   rw [if_neg (of_decide_eq_false c2)]
   simp only [PK,go_sem,↓reduceIte,A7 hn,c,c2,A0]
def L9 (t:A1) (s:A6) (i k:Nat):Bool:=decide (i=k) || !A71 t s.has s.jf (s.has.getD i 0) (s.has.getD k 0) || Dg (t.at (s.has.getD i 0).toNat) (t.at (s.has.getD k 0).toNat) (plR t s (s.has.getD i 0)) (plR t s (s.has.getD k 0))
theorem A7v (t:A1) (ht:A5 t) (s:A6) (hs:DL s) (hn:Cu t s.has):VP V UP [vT t,Dy s,lW (JP t s.has s.jf)] Q↔Q (.b (Me t s)):=by
 refine Ae ?_
 rw [Ad C.c_z105.1 C.c_z105.2]
 have h7:=ht.n64
 have hl:(JP t s.has s.jf).length=t.nodes.length:=Dh h7 _
 have h9:=hs.has
 have h8:Me t s=(List.range s.has.length).all fun i=>(List.range s.has.length).all fun k=>L9 t s i k:=rfl
 rw [h8]
 simp only [Zo,go_sem,↓reduceIte]
 refine Ab (by decide) s.has.length (by omega) (I:=fun i F h=>A4.tmp F 2=lW (JP t s.has s.jf)/\A4.tmp F 3 = .fp (eT t) 0/\A4.tmp F 4 = .fp (Je s) 0/\h=[]/\∀ j,j < i->(List.range s.has.length).all (fun k=>L9 t s j k)=true) ?_ ?_ ?_ 0 _ _ (zero_le _) ?_ ?_
 .rintro i F h hi p7 ⟨p2,p3,p4,rfl,pr⟩
  simp only [go_sem,↓reduceIte,p7,p2,p3,p4]
  exact pr
 .rintro i F h hi p7 ⟨p2,p3,p4,rfl,pr⟩
  obtain ⟨a,h0,ha⟩:=A8 (hn _ (Ai (d:=0) hi))
  simp only [go_sem,↓reduceIte,p7,p2,p3,p4,A0]
  refine Ab (by decide) s.has.length (by omega) (I:=fun k F h=>A4.tmp F 7 = .i .i64 i/\A4.tmp F 2=lW (JP t s.has s.jf)/\A4.tmp F 3 = .fp (eT t) 0/\A4.tmp F 4 = .fp (Je s) 0/\h=[]/\∀ j,j < k->L9 t s i j=true) ?_ ?_ ?_ 0 _ _ (zero_le _) ?_ ?_
  .rintro k F h hk q8 ⟨q7,q2,q3,q4,rfl,qr⟩
   simp only [go_sem,↓reduceIte,q8,q7,q2,q3,q4]
   exact qr
  .rintro k F h hk q8 ⟨q7,q2,q3,q4,rfl,qr⟩
   obtain ⟨b,h1,hb⟩:=A8 (hn _ (Ai (d:=0) hk))
   have h5:L9 t s i k=true->∀ j,j < k+1->L9 t s i j=true:=fun h j hj=>by
    rcases lt_or_ge j k with c | c
    .exact qr j c
    .rw [show j=k by omega];exact h
   have h6:L9 t s i k=false->((List.range s.has.length).all fun i=>(List.range s.has.length).all fun k=>L9 t s i k)=false:=fun h=>AP hi (AP hk h)
   have h3:L9 t s i k=(decide (i=k) || !A71 t s.has s.jf a b || Dg (t.at a) (t.at b) (plR t s a) (plR t s b)):=by rw [L9,h0,h1,toNat_natCast,toNat_natCast]
   have h2:=fun (Q:VV->Prop)=>A61 C (JP t s.has s.jf) (a:Int) (b:Int) (by omega) (Q:=Q)
   have hh:(decide ((0:Int)<=(a:Int)) && Bc ((JP t s.has s.jf).getD (a:Int).toNat 0#64) (b:Int))=A71 t s.has s.jf a b:=by rw [A71,decide_eq_true (by omega)];rfl
   rw [hh] at h2
   have h4:decide ((i:Int)=(k:Int))=decide (i=k):=decide_eq_decide.2 ⟨fun h=>by omega,fun h=>by omega⟩
   cases d1:decide (i=k) with
   | true =>
    simp only [go_sem,↓reduceIte,q8,q7,q2,q3,q4,Ar hi,Ar hk,hi,hk,h0,h1,h4,d1,A0]
    exact h5 (by rw [h3,d1];rfl)
   | false =>
   cases d2:A71 t s.has s.jf a b with
   | false =>
    simp only [go_sem,↓reduceIte,q8,q7,q2,q3,q4,Ar hi,Ar hk,hi,hk,h0,h1,h4,d1,h2,d2,A0]
    exact h5 (by rw [h3,d2];simp)
   | true =>
   cases d3:Dg (t.at a) (t.at b) (plR t s a) (plR t s b) with
   | true =>
    simp only [go_sem,↓reduceIte,q8,q7,q2,q3,q4,Ar hi,Ar hk,hi,hk,h0,h1,h4,d1,h2,d2,A7 ha,A7 hb,He C t s hs ha,He C t s hs hb,Rl C,d3,A0]
    exact h5 (by rw [h3,d3];simp)
   | false =>
    have e:=h6 (by rw [h3,d1,d2,d3];rfl)
    simp only [go_sem,↓reduceIte,q8,q7,q2,q3,q4,Ar hi,Ar hk,hi,hk,h0,h1,h4,d1,h2,d2,A7 ha,A7 hb,He C t s hs ha,He C t s hs hb,Rl C,d3,A0,e]
  .rintro F h ⟨q7,q2,q3,q4,rfl,qr⟩
   simp only [go_sem,↓reduceIte,q7,q2,q3,q4]
   intro j hj
   rcases lt_or_ge j i with c | c
   .exact pr j c
   .rw [show j=i by omega];exact AQ qr
  .simp only [go_sem,↓reduceIte]
  .simp only [go_sem,↓reduceIte,p7,p2,p3,p4]
   intro j hj;omega
 .rintro F h ⟨p2,p3,p4,rfl,pr⟩
  have e:=AQ pr
  simp only [go_sem,↓reduceIte,p2,p3,p4,e]
 .simp only [go_sem,↓reduceIte]
 .simp only [go_sem,↓reduceIte]
  intro j hj;omega
end
end Go.AM
