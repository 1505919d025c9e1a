/-
  Own work, part of the proof of the laws SeenLasts, SeenCalm, SeenConflict: what functions compute (fourth part).
-/
import Derived.Test.YthhlhddnndlhkaaGreatDoorKC
import Derived.Test.YthhlhddnndlhkaaGreatDoorAmF
import Derived.Test.YthhlhddnndlhkaaGreatDoorPl
set_option maxRecDepth 4000
set_option linter.unusedVariables false
set_option linter.unusedSimpArgs false
set_option linter.unusedSectionVars false
set_option linter.unnecessarySimpa false
namespace Go.AM
open Go Go.Proofs
def AoA:G9:=leaf Xn ⟨A1Z,W7⟩
theorem Aan:∀ n:Fin 65,Yj (AT,A3z) AoA (leaf KV ⟨Pf,JI⟩) 5000 ⟨A1B,VS⟩ [.i .u64 1,.i .u64 ((n.val:Nat):Int)] [] (.tu [.i .u64 0,.i .u64 ((n.val:Nat):Int)])=true:=by decide +kernel
def K8 (x:Int) (m n:Nat):List Int:=List.replicate m x++List.replicate (n - m) 0
theorem A6Q {x:Int} {m n:Nat} (h:m≤n):(K8 x m n).length=n:=by simp [K8];omega
theorem A2s {x:Int} {m n:Nat} (h:m≤n):(K8 x m n).take m=List.replicate m x:=by
 unfold K8
 rw [List.take_left' (by simp)]
theorem A2r (x:Int) (n:Nat):K8 x n n=List.replicate n x:=by simp [K8]
theorem A6R {x:Int} {n:Nat} (h:0 < n):List.take (min 1 n) [[VV.i IntKind.i64 x]]++List.map eI (List.drop (min 1 n) (List.replicate n 0))=(K8 x 1 n).map eI:=by
 rw [show min 1 n=1 by omega]
 simp [K8]
theorem A2q {x:Int} {m n:Nat} (h:m≤n):(List.replicate m x).map eI++((List.take (min m (n - m)) (List.replicate m x)).map eI++(List.drop (m+min m (n - m)) (K8 x m n)).map eI)=(K8 x (m+min m (n - m)) n).map eI:=by
 unfold K8
 rw [← List.map_append,← List.map_append,List.take_replicate,List.drop_append]
 simp only [List.length_replicate,List.drop_replicate]
 rw [show min (min m (n - m)) m=min m (n - m) by omega,show m - (m+min m (n - m))=0 by omega,List.replicate_zero,List.nil_append,show m+min m (n - m) - m=min m (n - m) by omega,
  ← List.append_assoc,List.replicate_append_replicate,show n - m - min m (n - m)=n - (m+min m (n - m)) by omega]
theorem Ajm (l:List Int):((l.map eI).all fun r=>r.all VV.cell)=true:=by
 rw [List.all_eq_true]
 intro r hr
 obtain ⟨x,_,rfl⟩:=List.mem_map.1 hr
 rfl
section
variable {V:Am} (C:Au V) {Q:VV→Prop}
include C
theorem YL {n:Nat} (hn:n≤64):VP V S1 [vW 1#64,.i .u64 (n:Int)] Q↔Q (.tu [vW 0#64,.i .u64 (n:Int)]) :=
 Ad (Cy (a:=⟨S1,[.i .u64 1,.i .u64 (n:Int)],.tu [.i .u64 0,.i .u64 (n:Int)]⟩) (.of (.leaf C.c_z185) (.leaf C.h_z107) C.c_mathbits_TrailingZeros64) C.c_z151.1 C.c_z151.2 .nil (Aan ⟨n,by omega⟩))
set_option maxHeartbeats 4000000 in
theorem PL (x:Int) {n:Nat} (hn:n≤64) (h0:0 < n) (b:Nat) {Q:VV→VH→Prop}:Yk V WA [.ls [[.i .i64 x]],.i .i64 n] b Q↔Q (.sl b 0 0 n) [some ⟨AG,1,0,false,(List.replicate n x).map eI⟩]:=by
 refine Jv ?_
 rw [Jw C.c_z110.2]
 have b1:n * 8≤A7:=by unfold A7;omega
 have q1:¬ (n:Int) < 0:=by omega
 have q2:¬ ((n:Int):Int) > 9223372036854775807:=by omega
 have q3:IntKind.u64.wrap (n:Int)=n:=by
  rw [show IntKind.u64.wrap (n:Int)=(n:Int) % 18446744073709551616 from rfl];omega
 have q4:IntKind.i64.wrap (n:Int)=n:=AC (by omega) (by omega)
 have q5:IntKind.u64.wrap 1=1:=rfl
 have q7:B5 .gtr none (vW 0#64) (vW 0#64)=some (.b false):=rfl
 have q6:¬ (9223372036854775807:Int) < (n:Int):=by omega
 simp only [A1f,KJ,go_sem,↓reduceIte,b1,q1,q2,q3,q4,YL C hn,Int.le_refl,q5,q6,q7,Int.toNat_natCast]
 unfold VL
 rw [A0]
 refine AW (M:=Nat) (I:=fun m F h=>0 < m∧m≤n∧A4.tmp F 7 = .sl 0 0 0 n∧A4.tmp F 8 = .i .i64 m∧h=[some ⟨AG,1,0,false,(K8 x m n).map eI⟩]) (μ:=fun m=>n - m) ?_ 1 _ _ ⟨by omega,by omega,?_,?_,?_⟩
 ·rintro m F h ⟨m0,mn,p7,p8,rfl⟩
  by_cases c:m < n
  ·have c1:(m:Int) < (n:Int):=by omega
   have hl:=A6Q (x:=x) mn
   have hcp:=A2q (x:=x) mn
   have e1:min m n=m:=by omega
   have e2:decide (m+(n - m)≤n)=true:=decide_eq_true (by omega)
   have e3:IntKind.i64.wrap ((m:Int)+((min m (n - m):Nat):Int))=((m+min m (n - m):Nat):Int):=by rw [AC (by omega) (by omega)];omega
   simp only [Vt,KJ,go_sem,↓reduceIte,p7,p8,c1,A0,hl,mn,A2s mn,e1,e2,hcp,e3,Ajm]
   exact ⟨m+min m (n - m),by omega,by omega,by omega,rfl,rfl⟩
  ·have c1:¬ (m:Int) < (n:Int):=by omega
   have e:m=n:=by omega
   subst e
   simp only [Vt,KJ,go_sem,↓reduceIte,p7,p8,c1,A0,A2r,Bj]
   simp
 ·simp only [KJ,go_sem,↓reduceIte]
 ·simp only [KJ,go_sem,↓reduceIte]
  omega
 ·rw [A6R h0]
end
abbrev eSn (t:A2) (x f:List Int):List VV:=[.i .i64 t.vals,lS t.locs,.ls (t.regs.map J9),.ls (t.nodes.map eN),vW (Cj x),lI (onL t x f),lW (Ar t.nodes.length fun a b=>AE t a b)]
abbrev UB (t:A2) (x f:List Int):VV:=.fp (eSn t x f) 0
section
variable {V:Am} (C:Au V) {Q:VV→Prop}
include C
theorem SQ (n:AK):VP V S6 [vN n] Q↔Q (.b (NQ n)):=by
 refine Ad ?_
 rw [Ac C.c_z193.1 C.c_z193.2]
 cases c0:decide (n.kind=3)<;>cases c1:decide (0≤n.thread)<;>cases c4:decide (n.kind=4)<;>cases c2:decide (n.mode=2)<;>cases c3:decide (n.mode=3) <;>
  simp only [A25,Wb,go_sem,↓reduceIte,c0,c1,c2,c3,c4,NQ]
theorem SP (n:AK):VP V S4 [vN n] Q↔Q (.b (Nd n)):=by
 refine Ad ?_
 rw [Ac C.c_z165.1 C.c_z165.2]
 cases c0:decide (n.kind=2)<;>cases c1:decide (n.kind=4)<;>cases c2:decide (n.mode=1)<;>cases c3:decide (n.mode=3) <;>
  simp only [A1L,W3,go_sem,↓reduceIte,c0,c1,c2,c3,Nd]
theorem J3 (t:A2) (x f:List Int) {n:Nat} (hn:n < t.nodes.length):VP V X7 [UB t x f,.i .i64 n] Q↔Q (.b (decide (0≤(t.at n).thread))):=by
 refine Ad ?_
 rw [Ac C.c_z162.1 C.c_z162.2]
 simp only [A1J,VZ,go_sem,↓reduceIte,A6 hn]
theorem SN (t:A2) (x f:List Int) {n:Nat} (hn:n < t.nodes.length) {g:Nat} {p:Bool} (hg:∀ Q:VV→Prop,VP V g [vN (t.at n)] Q↔Q (.b p)):VP V Xa [UB t x f,.i .i64 n,.f g [] []] Q↔Q (.b (decide ((t.at n).kind=4) && p)):=by
 refine Ad ?_
 rw [Ac C.c_z166.1 C.c_z166.2]
 cases c:decide ((t.at n).kind=4)<;>simp only [A1M,W4,go_sem,↓reduceIte,A6 hn,c,hg]
theorem Y9 (t:A2) (ht:A8 t) (x f:List Int) (hx:CH t x) {n:Nat} (hn:n < t.nodes.length):VP V X9 [UB t x f,.i .i64 n] Q↔Q (.i .i64 (ahF t x f n)):=by
 refine Ad ?_
 rw [Ac C.c_z164.1 C.c_z164.2]
 have hh:=hx.has ht.n64
 unfold ahF
 rw [Int.toNat_natCast]
 cases c:(t.at n).rmw with
 | false=>simp only [Rn,Pu,go_sem,↓reduceIte,A6 hn,c,Bool.false_eq_true,false_and]
 | true =>
  cases c2:B2 x (t.at n).up with
  | false=>simp only [Rn,Pu,go_sem,↓reduceIte,A6 hn,c,AD C,hh,c2,Bool.false_eq_true,and_false]
  | true =>
   obtain ⟨m,hm1,hm⟩:=Aa (hx _ (A9.1 c2))
   rw [hm1] at c2 ⊢
   simp only [Rn,Pu,go_sem,↓reduceIte,A6 hn,c,AD C,hh,c2,hm1,JU hm,and_self]
theorem Yb (t:A2) (ht:A8 t) (x f:List Int) (hx:CH t x) {n:Nat} (hn:n < t.nodes.length):VP V X5 [UB t x f,.i .i64 n] Q↔Q (.b (JY t x f n)):=by
 refine Ad ?_
 rw [Ac C.c_z157.1 C.c_z157.2]
 have hh:=hx.has ht.n64
 unfold JY
 rw [Int.toNat_natCast]
 cases c:decide ((t.at n).kind=2) with
 | false =>
  have c':=of_decide_eq_false c
  simp only [Rm,Ps,go_sem,↓reduceIte,A6 hn,c,JU hn,c']
 | true =>
  have c':=of_decide_eq_true c
  cases c2:B2 x (Ho x f n) with
  | false=>simp only [Rm,Ps,go_sem,↓reduceIte,A6 hn,c,JU hn,c',AD C,hh,c2,Bool.false_and]
  | true =>
   obtain ⟨m,hm1,hm⟩:=Aa (hx _ (A9.1 c2))
   rw [hm1] at c2 ⊢
   cases c3:decide ((t.at m).kind=3)<;>simp only [Rm,Ps,go_sem,↓reduceIte,A6 hn,c,JU hn,c',AD C,hh,c2,hm1,A6 hm,c3,HM,Int.toNat_natCast,Bool.true_and,Bool.false_and]
set_option maxHeartbeats 4000000 in
theorem A3u (t:A2) (ht:A8 t) (x f:List Int) (hx:CH t x) {w:Nat} (hw:w < t.nodes.length):VP V X8 [UB t x f,.i .i64 w] Q↔Q (vW (L3 t x w)):=by
 refine Ad ?_
 rw [Ac C.c_z163.1 C.c_z163.2]
 have h64:=ht.n64
 have hll:=DF (Cj x)
 obtain ⟨s0,hs0,hb0⟩:∃ s0,s0=(if NQ (t.at w)=true then 0#64 ||| CQ (w:Int) else 0#64)∧∀ j,j < 64→s0.getLsbD j=(decide (j=w) && NQ (t.at w)):=by
  refine ⟨_,rfl,fun j hj=>?_⟩
  by_cases c:NQ (t.at w)=true
  ·have e:decide ((j:Int)=(w:Int)∧j < 64)=decide (j=w):=decide_eq_decide.2 ⟨fun h=>by omega,fun h=>⟨by omega,hj⟩⟩
   rw [if_pos c,BitVec.getLsbD_or,CR,e,c];simp
  ·rw [if_neg c,Bool.eq_false_iff.2 c];simp
 let p:Int→Bool:=fun n=>decide ((t.at n.toNat).kind=4) && NQ (t.at n.toNat) && AE t n w
 have hfin:G2 p s0 (AX (Cj x))=L3 t x w:=by
  apply Bp
  intro j hj
  rw [Ul p j hj,hb0 j hj,L3,At,A77,decide_eq_true hj,Bool.and_true]
  have e1:B2 (AX (Cj x)) (j:Int)=B2 x (j:Int):=by
   rw [Bool.eq_iff_iff,A9,A9];exact hx.list h64 _
  have e2:(decide (j=w) && NQ (t.at w))=(decide ((j:Int)=(w:Int)) && NQ (t.at j)):=by
   by_cases c:j=w
   ·subst c;simp
   ·have c':¬ (j:Int)=(w:Int):=by omega
    simp [c,c']
  rw [e1,e2]
  simp only [p,Int.toNat_natCast,Bool.and_assoc]
 cases c0:NQ (t.at w)<;>simp only [c0,Bool.false_eq_true,if_true,if_false] at hs0<;>(
 simp only [A1K,GX,go_sem,↓reduceIte,A6 hw,SQ C,BX C,Dl C,c0,← hs0]
 refine Ae (by decide) (AX (Cj x)).length (by omega) (I:=fun k F h=>A4.tmp F 0=UB t x f∧A4.tmp F 1 = .i .i64 w∧A4.tmp F 24=lI (AX (Cj x))∧h=[]∧A4.tmp F 5=vW (G2 p s0 ((AX (Cj x)).take k))) ?_ ?_ 0 _ _ (by omega) ?_ ?_ ?_
 ·rintro k F h hk p26 p25 ⟨p0,p1,p24,rfl,p5⟩
  obtain ⟨m,hm1,hm⟩:=Aa (hx _ ((hx.list h64 _).1 (Ap (d:=0) hk)))
  have hT:G2 p s0 ((AX (Cj x)).take (k+1))=if p m=true then G2 p s0 ((AX (Cj x)).take k) ||| CQ m else G2 p s0 ((AX (Cj x)).take k):=by rw [Sh hk,hm1]
  have hp:p m=(decide ((t.at m).kind=4) && NQ (t.at m) && AE t m w):=by simp only [p,Int.toNat_natCast]
  have hbar:=fun (Q:VV→Prop)=>SN C t x f hm (g:=S6) (p:=NQ (t.at m)) (fun Q=>SQ C (t.at m)) (Q:=Q)
  rw [hT,hp]
  cases c1:(decide ((t.at m).kind=4) && NQ (t.at m)) with
  | false=>simp only [GX,go_sem,↓reduceIte,p26,p25,p0,p1,p24,p5,Az hk,hk,hm1,hbar,c1,A0,Bool.false_and,Bool.false_eq_true]
  | true =>
   have hpo:=Jm (p:=fun a b=>AE t a b) h64 hm hw
   rw [JX hm] at hpo
   have hg:=Bi (n:=t.nodes.length) (p:=fun a b=>AE t a b) hm
   cases c2:AE t m w with
   | false =>
    rw [c2] at hpo
    simp only [GX,go_sem,↓reduceIte,p26,p25,p0,p1,p24,p5,Az hk,hk,hm1,hbar,c1,A0,hg,AD C,hpo,Bool.and_false,Bool.false_eq_true]
   | true =>
    rw [c2] at hpo
    simp only [GX,go_sem,↓reduceIte,p26,p25,p0,p1,p24,p5,Az hk,hk,hm1,hbar,c1,A0,hg,AD C,hpo,BX C,Bool.and_self]
 ·rintro F h ⟨p0,p1,p24,rfl,p5⟩
  simp only [GX,go_sem,↓reduceIte,p0,p1,p24,p5,List.take_length,hfin]
 ·simp only [GX,go_sem,↓reduceIte]
 ·simp only [GX,go_sem,↓reduceIte]
 ·simp only [GX,go_sem,↓reduceIte]
  rfl)
set_option maxHeartbeats 4000000 in
theorem A0w (t:A2) (ht:A8 t) (x f:List Int) (hx:CH t x) {r:Nat} (hr:r < t.nodes.length):VP V ML [UB t x f,.i .i64 r] Q↔Q (vW (BS (Ja t x r))):=by
 refine Ad ?_
 rw [Ac C.c_z126.1 C.c_z126.2]
 have h64:=ht.n64
 let X:=Cj x &&& BS fun b=>decide (b < t.nodes.length) && AE t r b
 have hX:X=Cj x &&& BS fun b=>decide (b < t.nodes.length) && AE t r b:=rfl
 have hll:=DF X
 have hg:=Bi (n:=t.nodes.length) (p:=fun a b=>AE t a b) hr
 have hXm:∀ y:Int,y∈AX X↔y∈x∧AE t r y=true:=by
  intro y
  rw [BQ]
  constructor
  ·intro h
   obtain ⟨h1,h2⟩:=DE h
   obtain ⟨m,rfl⟩:=Int.eq_ofNat_of_zero_le h1
   rw [AS,hX,BitVec.getLsbD_and,At,Bool.and_eq_true,Bool.and_eq_true,Bool.and_eq_true] at h
   exact ⟨by rw [← A9,← hx.has h64,AS];exact h.1,h.2.1.2⟩
  ·rintro ⟨h1,h2⟩
   obtain ⟨m,rfl,hm⟩:=Aa (hx _ h1)
   rw [AS,hX,BitVec.getLsbD_and,At,h2,← AS,hx.has h64,A9.2 h1,decide_eq_true hm,decide_eq_true (show m < 64 by omega)];rfl
 obtain ⟨s0,hs0,hb0⟩:∃ s0,s0=(if Nd (t.at r)=true then 0#64 ||| CQ (r:Int) else 0#64)∧∀ j,j < 64→s0.getLsbD j=(decide (j=r) && Nd (t.at r)):=by
  refine ⟨_,rfl,fun j hj=>?_⟩
  by_cases c:Nd (t.at r)=true
  ·have e:decide ((j:Int)=(r:Int)∧j < 64)=decide (j=r):=decide_eq_decide.2 ⟨fun h=>by omega,fun h=>⟨by omega,hj⟩⟩
   rw [if_pos c,BitVec.getLsbD_or,CR,e,c];simp
  ·rw [if_neg c,Bool.eq_false_iff.2 c];simp
 let p:Int→Bool:=fun n=>decide ((t.at n.toNat).kind=4) && Nd (t.at n.toNat)
 have hfin:G2 p s0 (AX X)=BS (Ja t x r):=by
  apply Bp
  intro j hj
  rw [Ul p j hj,hb0 j hj,At,Ja,decide_eq_true hj,Bool.and_true]
  have e1:B2 (AX X) (j:Int)=(B2 x (j:Int) && AE t r j):=by
   rw [Bool.eq_iff_iff,A9,hXm,Bool.and_eq_true,A9]
  have e2:(decide (j=r) && Nd (t.at r))=(decide ((j:Int)=(r:Int)) && Nd (t.at j)):=by
   by_cases c:j=r
   ·subst c;simp
   ·have c':¬ (j:Int)=(r:Int):=by omega
    simp [c,c']
  rw [e1,e2]
  simp only [p,Int.toNat_natCast]
  cases B2 x (j:Int)<;>cases AE t r j<;>simp
 cases c0:Nd (t.at r)<;>simp only [c0,Bool.false_eq_true,if_true,if_false] at hs0<;>(
 simp only [A1o,HS,go_sem,↓reduceIte,A6 hr,SP C,BX C,Dl C,c0,hg,← hs0,← hX]
 refine Ae (by decide) (AX X).length (by omega) (I:=fun k F h=>A4.tmp F 0=UB t x f∧A4.tmp F 32=lI (AX X)∧h=[]∧A4.tmp F 5=vW (G2 p s0 ((AX X).take k))) ?_ ?_ 0 _ _ (by omega) ?_ ?_ ?_
 ·rintro k F h hk p34 p33 ⟨p0,p32,rfl,p5⟩
  obtain ⟨m,hm1,hm⟩:=Aa (hx _ ((hXm _).1 (Ap (d:=0) hk)).1)
  have hT:G2 p s0 ((AX X).take (k+1))=if p m=true then G2 p s0 ((AX X).take k) ||| CQ m else G2 p s0 ((AX X).take k):=by rw [Sh hk,hm1]
  have hp:p m=(decide ((t.at m).kind=4) && Nd (t.at m)):=by simp only [p,Int.toNat_natCast]
  have hbar:=fun (Q:VV→Prop)=>SN C t x f hm (g:=S4) (p:=Nd (t.at m)) (fun Q=>SP C (t.at m)) (Q:=Q)
  rw [hT,hp]
  cases c1:(decide ((t.at m).kind=4) && Nd (t.at m)) with
  | false=>simp only [HS,go_sem,↓reduceIte,p34,p33,p0,p32,p5,Az hk,hk,hm1,hbar,c1,A0,Bool.false_eq_true]
  | true=>simp only [HS,go_sem,↓reduceIte,p34,p33,p0,p32,p5,Az hk,hk,hm1,hbar,c1,A0,BX C]
 ·rintro F h ⟨p0,p32,rfl,p5⟩
  simp only [HS,go_sem,↓reduceIte,p0,p32,p5,List.take_length,hfin]
 ·simp only [HS,go_sem,↓reduceIte]
 ·simp only [HS,go_sem,↓reduceIte]
 ·simp only [HS,go_sem,↓reduceIte]
  rfl)
theorem Aei {t:A2} (ht:A8 t) {x f:List Int} (hF:DS t x f) {w0:Int} (hw0:w0∈x) {i:Nat} (hoff:∀ j,j < i→MT t (Ep t x f j w0)=false):CH t (Km t x f w0 i):=by
 intro v hv
 obtain ⟨j,hj,rfl⟩:=QK.1 hv
 rcases Mx ht hF hw0 j (fun k hk=>hoff k (by omega)) with e | e
 ·have:=hoff j hj
  rw [e] at this;cases this
 ·exact hF.node _ e
set_option maxHeartbeats 4000000 in
theorem Ya (t:A2) (ht:A8 t) (x f:List Int) (hF:DS t x f) {w0:Int} (hw0:w0∈x):VP V MK [UB t x f,.i .i64 w0] Q↔Q (vW (Co t x f w0)):=by
 refine Ad ?_
 rw [Ac C.c_z125.1 C.c_z125.2]
 have h64:=ht.n64
 simp only [A1n,Gd,go_sem,↓reduceIte]
 unfold VL
 rw [A0]
 refine AW (M:=Nat) (I:=fun i F h=>h=[]∧A4.tmp F 0=UB t x f∧A4.tmp F 1 = .i .i64 (Ep t x f i w0)∧A4.tmp F 5=vW (Rw t x f w0 i)∧A4.tmp F 6=vW (Cj (Km t x f w0 i))∧(∀ j,j < i→MT t (Ep t x f j w0)=false)∧(Km t x f w0 i).Nodup) (μ:=fun i=>x.length+1 - i) ?_ 0 _ _ ⟨rfl,?_,?_,?_,?_,by omega,by simp [Km]⟩
 ·rintro i F h ⟨rfl,p0,p1,p5,p6,hoff,hnd⟩
  have hil:i≤x.length:=by
   have h1:(Km t x f w0 i).length=i:=by simp [Km]
   rw [← h1]
   refine Kc _ _ hnd fun v hv=>?_
   obtain ⟨j,hj,rfl⟩:=QK.1 hv
   rcases Mx ht hF hw0 j (fun k hk=>hoff k (by omega)) with e | e
   ·have:=hoff j hj
    rw [e] at this;cases this
   ·exact e
  have hend:=Aeh ht hF hw0 hoff hnd
  rcases Mx ht hF hw0 i hoff with e | e
  ·have:=hend (.inl (by rw [e];rfl))
   rw [e] at p1
   simp only [Nw,Gd,go_sem,↓reduceIte,p0,p1,p5,p6,A0,this]
  ·obtain ⟨m,hm1,hm⟩:=Aa (hF.node _ e)
   rw [hm1] at p1
   cases c1:decide (0≤(t.at m).thread) with
   | false =>
    have ho:MT t (Ep t x f i w0)=true:=by
     have:=of_decide_eq_false c1
     rw [hm1,MT,Int.toNat_natCast,decide_eq_true (show (t.at m).thread < 0 by omega),Bool.or_true]
    have:=hend (.inl ho)
    simp only [Nw,Gd,go_sem,↓reduceIte,p0,p1,p5,p6,A0,J3 C t x f hm,c1,this]
   | true =>
    have ho:MT t (Ep t x f i w0)=false:=by
     have:=of_decide_eq_true c1
     rw [hm1,MT,Int.toNat_natCast,decide_eq_false (show ¬ (t.at m).thread < 0 by omega),decide_eq_false (show ¬ (m:Int) < 0 by omega)];rfl
    have hway:=Aei C ht hF hw0 hoff
    have hh:=hway.has h64 (m:Int)
    cases c2:B2 (Km t x f w0 i) (m:Int) with
    | true =>
     rw [c2] at hh
     have:=hend (.inr (by rw [hm1];exact A9.1 c2))
     simp only [Nw,Gd,go_sem,↓reduceIte,p0,p1,p5,p6,A0,J3 C t x f hm,c1,AD C,hh,this]
    | false =>
     rw [c2] at hh
     simp only [Nw,Gd,go_sem,↓reduceIte,p0,p1,p5,p6,A0,J3 C t x f hm,c1,AD C,hh,A3u C t ht x f hF.node hm,BX C,Y9 C t ht x f hF.node hm]
     refine ⟨i+1,by omega,by rw [Ep,hm1],by rw [A2t,hm1],by rw [UH,hm1,Cj,Cj,List.foldl_append];rfl,fun j hj=>?_,?_⟩
     ·rcases Nat.lt_or_ge j i with h1 | h1
      ·exact hoff j h1
      ·rw [show j=i by omega];exact ho
     ·rw [UH,hm1]
      have:(m:Int)∉Km t x f w0 i:=fun h=>by rw [A9.2 h] at c2;cases c2
      exact List.nodup_append.2 ⟨hnd,by simp,fun a ha b hb e=>this (by simp at hb;rw [← hb,← e];exact ha)⟩
 ·simp only [Gd,go_sem,↓reduceIte]
 ·simp only [Gd,go_sem,↓reduceIte]
  rfl
 ·simp only [Gd,go_sem,↓reduceIte]
  rfl
 ·simp only [Gd,go_sem,↓reduceIte]
  rfl
end
theorem Aop:min 5 (4+3)+(1+(4+3 - 6))=7:=rfl
theorem XJ (t:A2) (x:List Int) (k:Nat):CB t x k=(!(decide (x.getD k 0 < 0) || decide ((t.nodes.length:Int)≤x.getD k 0) || (!decide (k=0) && decide (x.getD k 0≤x.getD (k - 1) 0)))):=by
 unfold CB BI D1
 rw [Bool.eq_iff_iff]
 simp only [Bool.and_eq_true,Bool.or_eq_true,Bool.not_eq_true',Bool.or_eq_false_iff,decide_eq_true_eq,decide_eq_false_iff_not,Bool.and_eq_false_iff,Bool.not_eq_false']
 constructor
 ·rintro ⟨⟨a,b⟩,c⟩
  exact ⟨⟨by omega,by omega⟩,c.imp id (by omega)⟩
 ·rintro ⟨⟨a,b⟩,c⟩
  exact ⟨⟨by omega,by omega⟩,c.imp id (by omega)⟩
def onH (t:A2) (x f:List Int) (k:Nat):VH:=[some ⟨AG,1,0,false,(Ym t x f k).map eI⟩,some ⟨PS,0,0,false,[[.i .i64 t.vals,lS t.locs,.ls (t.regs.map J9),.ls (t.nodes.map eN),vW (Cj x),.sl 0 0 0 t.nodes.length,lW (Ar t.nodes.length fun a b=>AE t a b)]]⟩]
def AaK (t:A2) (x f:List Int):VH:=[some ⟨AG,1,0,false,(onL t x f).map eI⟩,some ⟨PS,0,0,false,[[.i .i64 t.vals,lS t.locs,.ls (t.regs.map J9),.ls (t.nodes.map eN),vW (Cj x),.sl 0 0 0 t.nodes.length,lW (Ar t.nodes.length fun a b=>AE t a b)]]⟩]
theorem AdV (t:A2) (x f:List Int):onH t x f x.length=AaK t x f:=by rw [onH,AdW];rfl
theorem A5N {t:A2} {x f:List Int} {k m:Nat} (h:m < t.nodes.length):(Ym t x f k)[m]? = some (Ho (x.take k) f (m:Int)):=by simp [Ym,h]
theorem Sd (t:A2) (x f:List Int):(onL t x f).take t.nodes.length=onL t x f:=List.take_of_length_le (by rw [QN];omega)
section
variable {V:Am} (C:Au V) {Q:VV→Prop}
include C
set_option maxHeartbeats 8000000 in
theorem A7m (t:A2) (ht:A8 t) (x f:List Int) (hF:DS t x f):VP V WM [UB t x f,.f MK [UB t x f] [],.f ML [UB t x f] []] Q↔Q (lW (Ar t.nodes.length (swB t x f))):=by
 refine Ad ?_
 rw [Ac C.c_z124.1 C.c_z124.2]
 have h64:=ht.n64
 have hx:=hF.node
 have hll:=DF (Cj x)
 have hLm:=fun y=>hx.list h64 y
 simp only [A1m,DI,go_sem,↓reduceIte,Sy C _ h64,Dl C]
 refine Ae (by decide) (AX (Cj x)).length (by omega) (I:=fun k F h=>A4.tmp F 0=UB t x f∧A4.tmp F 1 = .f MK [UB t x f] []∧A4.tmp F 2 = .f ML [UB t x f] []∧A4.tmp F 7 = .sl 0 0 0 t.nodes.length∧A4.tmp F 24=lI (AX (Cj x))∧h=[some ⟨Bf,1,0,false,(Ar t.nodes.length (swP t x f ((AX (Cj x)).take k))).map eW⟩]) ?_ ?_ 0 _ _ (by omega) ?_ ?_ ?_
 ·rintro k F h hk p26 p25 ⟨p0,p1,p2,p7,p24,rfl⟩
  have hkm:(AX (Cj x)).getD k 0∈x:=(hLm _).1 (Ap (d:=0) hk)
  obtain ⟨r,hr1,hr⟩:=Aa (hx _ hkm)
  have hrx:(r:Int)∈x:=by rw [← hr1];exact hkm
  have hnext:∀ a b,swP t x f ((AX (Cj x)).take (k+1)) a b=(swP t x f ((AX (Cj x)).take k) a b || (MW t x f r && Bv (Co t x f (Ho x f r)) (a:Int) && Ja t x r b)):=fun a b=>by rw [Abh hk,hr1]
  have same:MW t x f r=false→Ar t.nodes.length (swP t x f ((AX (Cj x)).take k))=Ar t.nodes.length (swP t x f ((AX (Cj x)).take (k+1))):=fun e=>EJ fun a b _ _=>by rw [hnext,e];simp
  have hsaw:MW t x f r=(decide ((t.at r).kind=2) && !decide ((t.at (Ho x f r).toNat).thread=(t.at r).thread)):=by rw [MW,Int.toNat_natCast]
  by_cases ck:(t.at r).kind=2
  ·obtain ⟨o1,o2,o3⟩:=hF.read _ hrx (by rw [Int.toNat_natCast];exact ck)
   obtain ⟨w,hw1,hw⟩:=Aa (hx _ o1)
   rw [hw1] at o1
   have d0:decide ((w:Int) < 0)=false:=decide_eq_false (by omega)
   cases c2:decide ((t.at w).thread=(t.at r).thread) with
   | true =>
    have hs:=same (by rw [hsaw,hw1,Int.toNat_natCast,c2];simp)
    simp only [DI,go_sem,↓reduceIte,p26,p25,p0,p1,p2,p7,p24,Az hk,hk,hr1,JU hr,hw1,d0,A6 hw,A6 hr,c2,A0,hs]
   | false =>
    have hs:MW t x f r=true:=by rw [hsaw,hw1,Int.toNat_natCast,c2,decide_eq_true ck];rfl
    have hh:=fun (Q:VV→Prop)=>Ya C t ht x f hF o1 (Q:=Q)
    simp only [DI,go_sem,↓reduceIte,p26,p25,p0,p1,p2,p7,p24,Az hk,hk,hr1,JU hr,hw1,d0,A6 hw,A6 hr,c2,A0,hh,Dl C]
    have hlh:=DF (Co t x f w)
    have hends:=fun (Q:VV→Prop)=>A0w C t ht x f hx hr (Q:=Q)
    let M:=fun (j:Nat) (a b:Nat)=>swP t x f ((AX (Cj x)).take k) a b || (B2 ((AX (Co t x f w)).take j) (a:Int) && Ja t x r b)
    refine Ae (by decide) (AX (Co t x f w)).length (by omega) (I:=fun j F h=>A4.tmp F 26 = .i .i64 k∧A4.tmp F 25 = .i .i64 (AX (Cj x)).length∧A4.tmp F 0=UB t x f∧A4.tmp F 1 = .f MK [UB t x f] []∧A4.tmp F 2 = .f ML [UB t x f] []∧A4.tmp F 7 = .sl 0 0 0 t.nodes.length∧A4.tmp F 24=lI (AX (Cj x))∧A4.tmp F 9 = .i .i64 r∧A4.tmp F 63=lI (AX (Co t x f w))∧h=[some ⟨Bf,1,0,false,(Ar t.nodes.length (M j)).map eW⟩]) ?_ ?_ 0 _ _ (by omega) ?_ ?_ ?_
    ·rintro j F h hj q65 q64 ⟨q26,q25,q0,q1,q2,q7,q24,q9,q63,rfl⟩
     have hmem:=(BQ (s:=Co t x f w)).1 (Ap (d:=0) hj)
     obtain ⟨a0,_⟩:=DE hmem
     obtain ⟨a,ha1⟩:=Int.eq_ofNat_of_zero_le a0
     have ha:a < t.nodes.length:=A2u ht hF o1 (by rw [ha1,AS] at hmem;exact hmem)
     have hset:=A7c ha (M j) (Ja t x r) fun b hb=>A6A hx hrx hb
     have hM:Ar t.nodes.length (fun i b=>M j i b || (decide (i=a) && Ja t x r b))=Ar t.nodes.length (M (j+1)):=EJ fun i b _ _=>by
      simp only [M]
      rw [List.take_succ_eq_append_getElem hj]
      have e:B2 ((AX (Co t x f w)).take j++[(AX (Co t x f w))[j]]) (i:Int)=(B2 ((AX (Co t x f w)).take j) (i:Int) || decide (i=a)):=by
       rw [List.getD_eq_getElem?_getD,List.getElem?_eq_getElem hj,Option.getD_some] at ha1
       rw [ha1,Bool.eq_iff_iff,A9,List.mem_append,Bool.or_eq_true,A9,decide_eq_true_eq,List.mem_singleton]
       exact ⟨fun h=>h.imp id fun h=>by omega,fun h=>h.imp id fun h=>by omega⟩
      rw [e]
      cases swP t x f ((AX (Cj x)).take k) i b<;>cases B2 ((AX (Co t x f w)).take j) (i:Int)<;>cases decide (i=a)<;>cases Ja t x r b<;>rfl
     rw [hM] at hset
     simp only [DI,go_sem,↓reduceIte,q65,q64,q26,q25,q0,q1,q2,q7,q24,q9,q63,Az hj,hj,ha1,Bi ha,hends,A0,hset,Al,ha]
    ·rintro F h ⟨q26,q25,q0,q1,q2,q7,q24,q9,q63,rfl⟩
     have hM:Ar t.nodes.length (M (AX (Co t x f w)).length)=Ar t.nodes.length (swP t x f ((AX (Cj x)).take (k+1))):=EJ fun a b _ _=>by
      simp only [M]
      rw [List.take_length,hnext,hs,hw1,Bool.true_and]
      have e:B2 (AX (Co t x f w)) (a:Int)=Bv (Co t x f w) (a:Int):=by rw [Bool.eq_iff_iff,A9,BQ]
      rw [e]
     simp only [DI,go_sem,↓reduceIte,q26,q25,q0,q1,q2,q7,q24,hM]
    ·simp only [DI,go_sem,↓reduceIte]
    ·simp only [DI,go_sem,↓reduceIte]
    ·simp only [DI,go_sem,↓reduceIte,p26,p25,p0,p1,p2,p7,p24]
     have hM:Ar t.nodes.length (M 0)=Ar t.nodes.length (swP t x f ((AX (Cj x)).take k)):=EJ fun a b _ _=>by simp only [M,List.take_zero,B2,List.any_nil,Bool.false_and,Bool.or_false]
     rw [hM]
  ·have o1:=hF.none _ hrx (by rw [Int.toNat_natCast];exact ck)
   have hs:=same (by rw [hsaw,decide_eq_false ck];rfl)
   simp only [DI,go_sem,↓reduceIte,p26,p25,p0,p1,p2,p7,p24,Az hk,hk,hr1,JU hr,o1,A0]
   rw [hs]
 ·rintro F h ⟨p0,p1,p2,p7,p24,rfl⟩
  have e:Ar t.nodes.length (swP t x f (AX (Cj x)))=Ar t.nodes.length (swB t x f):=EJ fun a b _ _=>Ae9 hLm a b
  simp only [DI,go_sem,↓reduceIte,p0,p1,p2,p7,p24,Al]
  rw [List.take_of_length_le (by rw [Al];omega),e]
 ·simp only [DI,go_sem,↓reduceIte]
 ·simp only [DI,go_sem,↓reduceIte]
 ·simp only [DI,go_sem,↓reduceIte]
  rw [← PJ];rfl
set_option maxHeartbeats 8000000 in
theorem A7l (t:A2) (ht:A8 t) (x f:List Int) (hl:x.length≤1000) (hlf:f.length≤1000):VP V WK [vT t,lI x,lI f] Q↔Q (if GR t x f=true then .tu [UB t x f,.b true] else .tu [.np,.b false]):=by
 refine Ad ?_
 rw [Ac C.c_z121.1 C.c_z121.2]
 have h64:=ht.n64
 have hn1:0 < t.nodes.length:=by
  obtain ⟨s,h0,he,hs⟩:=ht.thr
  have h1:=ht.r1
  obtain ⟨_,n,hB⟩:=hs 0 (by omega)
  cases n with
  | zero=>exact absurd hB (by simp [J5])
  | succ n=>have:=hB.1.1;omega
 have hmay:=fun (Q:VV→Prop)=>Pl C t ht (Q:=Q)
 have hpo:=fun (Q:VV→Prop)=>Uy C t ht (Q:=Q)
 by_cases c1:x.length=f.length
 ·have c1':decide ((f.length:Int)=(x.length:Int))=true:=decide_eq_true (by omega)
  simp only [V8,CP,go_sem,↓reduceIte,hmay,c1',Ll C x (by omega),PL C _ h64 hn1,hpo,Ak4,Aop]
  refine Ae (by decide) x.length (by omega) (I:=fun k F h=>A4.tmp F 1=lI x∧A4.tmp F 2=lI f∧A4.tmp F 3 = .fp (eT t) 0∧A4.tmp F 8 = .p 1 0 0 0∧A4.tmp F 35=lI x∧h=onH t x f k∧∀ j,j < k→CB t x j=true) ?_ ?_ 0 _ _ (by omega) ?_ ?_ ?_
  ·rintro k F h hk p37 p36 ⟨p1,p2,p3,p8,p35,rfl,pr⟩
   have hkf:k < f.length:=by omega
   have bad:CB t x k=false→GR t x f=false:=fun h=>by rw [GR,BF hk h];simp
   have hnr:=XJ t x k
   cases d1:decide (x.getD k 0 < 0) with
   | true =>
    have e:=bad (by rw [hnr,d1];rfl)
    simp only [CP,go_sem,↓reduceIte,p37,p36,p1,p2,p3,p8,p35,Az hk,hk,d1,A0,e]
   | false =>
   cases d2:decide ((t.nodes.length:Int)≤x.getD k 0) with
   | true =>
    have e:=bad (by rw [hnr,d1,d2];rfl)
    simp only [CP,go_sem,↓reduceIte,p37,p36,p1,p2,p3,p8,p35,Az hk,hk,d1,d2,A0,e]
   | false =>
   have d1':=of_decide_eq_false d1
   have d2':=of_decide_eq_false d2
   obtain ⟨m,hm1⟩:=Int.eq_ofNat_of_zero_le (show 0≤x.getD k 0 by omega)
   have hm:m < t.nodes.length:=by omega
   have d2n:decide (t.nodes.length≤m)=false:=decide_eq_false (by omega)
   have hset:(∀ i,i≤k→D1 x i=true)→_:=AdX (t:=t) (f:=f) hk hm1 hm
   have hris0:∀ i,i < k→D1 x i=true:=fun i hi=>by have:=pr i hi;simp only [CB,Bool.and_eq_true] at this;exact this.2
   have hgo:CB t x k=true→∀ j,j < k+1→CB t x j=true:=fun h j hj=>by
    rcases Nat.lt_or_ge j k with c | c
    ·exact pr j c
    ·rw [show j=k by omega];exact h
   by_cases z:k=0
   ·subst z
    have hok:CB t x 0=true:=by rw [hnr,d1,d2];rfl
    have hs:=hset fun i hi=>by rw [Nat.le_zero.1 hi];rfl
    rw [hm1] at d1 d2
    simp only [CP,go_sem,↓reduceIte,p37,p36,p1,p2,p3,p8,p35,Az hk,Az hkf,hk,hkf,d1,d2n,A0,hm1,onH,hm,A5O,dz0,hs,A5N hm]
    exact hgo hok
   ·have z0:decide ((0:Int) < (k:Int))=true:=decide_eq_true (by omega)
    have hk1:k - 1 < x.length:=by omega
    have zw:=Hg (show 0 < k by omega) (by omega)
    cases d3:decide (x.getD k 0≤x.getD (k - 1) 0) with
    | true =>
     have e:=bad (by rw [hnr,d1,d2,d3,decide_eq_false z];rfl)
     rw [hm1] at d1 d2 d3
     simp only [CP,go_sem,↓reduceIte,p37,p36,p1,p2,p3,p8,p35,Az hk,Az hk1,hk,d1,d2n,d3,z0,zw,A0,hm1,e]
    | false =>
     have hok:CB t x k=true:=by rw [hnr,d1,d2,d3];simp
     have hs:=hset fun i hi=>by
      rcases Nat.lt_or_ge i k with c | c
      ·exact hris0 i c
      ·rw [show i=k by omega];simp only [CB,Bool.and_eq_true] at hok;exact hok.2
     rw [hm1] at d1 d2 d3
     simp only [CP,go_sem,↓reduceIte,p37,p36,p1,p2,p3,p8,p35,Az hk,Az hk1,Az hkf,hk,hkf,d1,d2n,d3,z0,zw,A0,hm1,onH,hm,A5O,hs,A5N hm]
     exact hgo hok
  ·rintro F h ⟨p1,p2,p3,p8,p35,rfl,pr⟩
   rw [AdV]
   have hnode:CH t x:=by
    intro n hn
    obtain ⟨i,hi,rfl⟩:=List.getElem_of_mem hn
    have:=pr i hi
    simp only [CB,Bool.and_eq_true] at this
    have h2:=this.1
    rwa [List.getD_eq_getElem?_getD,List.getElem?_eq_getElem hi] at h2
   simp only [CP,go_sem,↓reduceIte,p1,p2,p3,p8,p35]
   refine Ae (by decide) x.length (by omega) (I:=fun k F h=>A4.tmp F 8 = .p 1 0 0 0∧A4.tmp F 75=lI x∧h=AaK t x f∧∀ j,j < k→JY t x f (x.getD j 0)=true) ?_ ?_ 0 _ _ (by omega) ?_ ?_ ?_
   ·rintro k F h hk p77 p76 ⟨p8,p75,rfl,qr⟩
    have bad:JY t x f (x.getD k 0)=false→GR t x f=false:=fun h=>by rw [Zf,BF (p:=fun i=>JY t x f (x.getD i 0)) hk h,Bool.and_false]
    obtain ⟨m,hm1,hm⟩:=Aa (hnode _ (Ap (d:=0) hk))
    have hr:=fun (Q:VV→Prop)=>Yb C t ht x f hnode hm (Q:=Q)
    cases c2:JY t x f m with
    | true =>
     simp only [CP,go_sem,↓reduceIte,p77,p76,p8,p75,Az hk,hk,hm1,AaK,hr,c2,A0,QN,Sd]
     intro j hj
     rcases Nat.lt_or_ge j k with c | c
     ·exact qr j c
     ·rw [show j=k by omega,hm1];exact c2
    | false =>
     have e:=bad (by rw [hm1];exact c2)
     simp only [CP,go_sem,↓reduceIte,p77,p76,p8,p75,Az hk,hk,hm1,AaK,hr,c2,A0,QN,Sd,e]
   ·rintro F h ⟨p8,p75,rfl,qr⟩
    have e:GR t x f=true:=by rw [Zf,decide_eq_true c1,BG pr,BG qr];rfl
    simp only [CP,go_sem,↓reduceIte,p8,p75,AaK,e,QN,Sd]
   ·simp only [CP,go_sem,↓reduceIte]
   ·simp only [CP,go_sem,↓reduceIte]
   ·simp only [CP,go_sem,↓reduceIte,p8]
    intro j hj;omega
  ·simp only [CP,go_sem,↓reduceIte]
  ·simp only [CP,go_sem,↓reduceIte]
  ·simp only [CP,go_sem,↓reduceIte,onH,AaL]
   intro j hj;omega
 ·have c1':decide ((f.length:Int)=(x.length:Int))=false:=decide_eq_false (by omega)
  have e:GR t x f=false:=by rw [GR,decide_eq_false c1];rfl
  simp only [V8,CP,go_sem,↓reduceIte,hmay,c1',e]
theorem A7k (t:A2) (ht:A8 t) (x f:List Int) (hl:x.length≤1000) (hlf:f.length≤1000):VP V A5q [vT t,lI x,lI f] Q↔Q (lW (hbF t x f)):=by
 refine Ad ?_
 rw [Ac C.c_z75.1 C.c_z75.2]
 have h64:=ht.n64
 have hof:=fun (Q:VV→Prop)=>A7l C t ht x f hl hlf (Q:=Q)
 cases c:GR t x f with
 | false =>
  rw [hbF,c]
  simp only [A4a,ZC,go_sem,↓reduceIte,hof,c,Bool.false_eq_true]
 | true =>
  have hF:=Cf c
  rw [hbF,c]
  have hsw:=fun (Q:VV→Prop)=>A7m C t ht x f hF (Q:=Q)
  simp only [A4a,ZC,go_sem,↓reduceIte,hof,c,hsw,Sx C,Ab0 C,XQ C]
  rw [My h64,AaN h64,hbM]
  congr 2
  apply EJ
  intro a b _ _
  rw [hF.node.has h64,hF.node.has h64]
  rfl
end
section
variable {V:Am} (C:Au V) {Q:VV→VH→Prop}
include C
end
section
variable {V:Am} (C:Au V) {Q:VV→Prop}
include C
end
def Kk (ty e:Nat) (rows:List (List VV)):VO:=if rows.length=0 then DO else { ty:=ty,esz:=e,ver:=0,nl:=false,rows:=rows }
def stJ (t:A2) (k:Nat):List Int:=List.replicate (E7 t k).length (-1)
theorem Akm {t:A2} {k:Nat} (h:decide ((t.at k).up < 0)=true):stJ t (k+1)=stJ t k++[-1]:=by
 unfold stJ
 rw [A60 h,List.length_append,List.length_singleton,List.replicate_succ']
theorem Akl {t:A2} {k:Nat} (h:decide ((t.at k).up < 0)=false):stJ t (k+1)=stJ t k:=by unfold stJ;rw [A5Z h]
theorem Ae5 {t:A2} (k:Nat):(stJ t k).length≤k:=by unfold stJ;rw [List.length_replicate];exact PN k
def HI (k:Nat):List (List (List Int)):=(List.range k).map fun (i:Nat)=>[[(i:Int)]]
theorem A7i (k:Nat):HI (k+1)=HI k++[[[(k:Int)]]]:=by
 unfold HI
 rw [List.range_succ,List.map_append];rfl
theorem Abc (k:Nat):(HI k).length=k:=by simp [HI]
def sTh (t:A2) (k j:Nat):VH:=[some ⟨Ab,0,0,false,[[.nl,.nl,.nl]]⟩,some (AL AG 1 ((E7 t k).map eI)),some (AL AG 1 ((stJ t k).map eI)),some (AL Bw 1 ((HI j).map EB)),
 some ⟨Ab,0,0,false,[[.sl 1 (E7 t k).length 0 (E7 t k).length,.sl 2 (stJ t k).length 0 (stJ t k).length,.sl 3 (HI j).length 0 (HI j).length]]⟩]
theorem Ab9 (ty:Nat) (L:List (List Int)) (c:List Int):({ ty:=ty,esz:=1,ver:=L.length+1,nl:=false,rows:=L.map M2++[[VV.ls (c.map eI)]] }:VO)=AL ty 1 ((L++[c]).map M2):=by
 rw [List.map_append]
 unfold AL
 rw [if_neg (by simp),List.length_append,List.length_map];rfl
theorem A5Y (ty:Nat) (L:List (List (List Int))) (c:List (List Int)):({ ty:=ty,esz:=1,ver:=L.length+1,nl:=false,rows:=L.map EB++[[VV.ls (c.map M2)]] }:VO)=AL ty 1 ((L++[c]).map EB):=by
 rw [List.map_append]
 unfold AL
 rw [if_neg (by simp),List.length_append,List.length_map];rfl
def cpH (s:A5) (L:List (List (List Int))):VH:=[some ⟨Ab,0,0,false,[[.nl,.nl,.nl]]⟩,some (Ra AG 1 (s.has.map eI)),some (Ra AG 1 (s.jf.map eI)),
 some ⟨Ab,0,0,false,[[.sl 1 (Hl s.has.length) 0 s.has.length,.sl 2 (Hl s.jf.length) 0 s.jf.length,.sl 4 L.length 0 L.length]]⟩,some (AL Bw 1 (L.map EB))]
section
variable {V:Am} (C:Au V) {Q:VV→Prop}
include C
set_option maxHeartbeats 4000000 in
theorem Mg (t:A2) (ht:A8 t):VP V A55 [vT t] Q↔Q (J6 (BB t)):=by
 refine Ad ?_
 rw [Ac C.c_z30.1 C.c_z30.2]
 have h64:=ht.n64
 have hl4:=ht.l4
 simp only [A93,GY,go_sem,↓reduceIte]
 refine Ai (by decide) t.nodes.length (by omega) (I:=fun k F h=>A4.tmp F 1 = .fp (eT t) 0∧A4.tmp F 2 = .p 0 0 0 0∧A4.tmp F 3 = .p 4 0 0 0∧h=sTh t k 0) ?_ ?_ ?_ 0 _ _ (Nat.zero_le _) ?_ ?_
 ·rintro k F h hk p4 ⟨p1,p2,p3,rfl⟩
  simp only [GY,go_sem,↓reduceIte,p4,p1,p2,p3]
 ·rintro k F h hk p4 ⟨p1,p2,p3,rfl⟩
  have hlen:=PN (t:=t) k
  cases c:decide ((t.at k).up < 0) with
  | true =>
   have b1:((E7 t k).length+1) * 8≤A7:=by unfold A7;omega
   have hj:=Ae5 (t:=t) k
   have b2:((stJ t k).length+1) * 8≤A7:=by unfold A7;omega
   simp only [GY,go_sem,↓reduceIte,p4,p1,p2,p3,hk,A6 hk,c,sTh,A60 c,Akm c,A0,b1,b2,List.length_map,List.length_append]
  | false =>
   simp only [GY,go_sem,↓reduceIte,p4,p1,p2,p3,hk,A6 hk,c,sTh,A5Z c,Akl c,A0]
 ·rintro F h ⟨p1,p2,p3,rfl⟩
  simp only [GY,go_sem,↓reduceIte,p1,p2,p3]
  refine Ai (by decide) t.locs.length (by omega) (I:=fun j F h=>A4.tmp F 1 = .fp (eT t) 0∧A4.tmp F 2 = .p 0 0 0 0∧A4.tmp F 3 = .p 4 0 0 0∧h=sTh t t.nodes.length j) ?_ ?_ ?_ 0 _ _ (Nat.zero_le _) ?_ ?_
  ·rintro k F h hk p5 ⟨p1,p2,p3,rfl⟩
   simp only [GY,go_sem,↓reduceIte,p5,p1,p2,p3]
  ·rintro k F h hk p5 ⟨p1,p2,p3,rfl⟩
   have hm:=Abc k
   have b1:((HI k).length+1) * 24≤A7:=by unfold A7;omega
   simp only [GY,go_sem,↓reduceIte,p5,p1,p2,p3,hk,sTh,A7i,A0,b1,List.length_map,List.length_append]
   have e:List.map EB (HI k++[[[(k:Int)]]])=List.map EB (HI k)++[[VV.ls [[VV.ls [[VV.i IntKind.i64 (k:Int)]]]]]]:=by rw [List.map_append];rfl
   have e2:({ ty:=Bw,esz:=1,ver:=(HI k).length+1,nl:=false,rows:=List.map EB (HI k)++[[VV.ls [[VV.ls [[VV.i IntKind.i64 (k:Int)]]]]]] }:VO)=AL Bw 1 (List.map EB (HI k++[[[(k:Int)]]])):=by
    rw [e]
    unfold AL
    rw [if_neg (by simp),List.length_append,List.length_map];rfl
   rw [e2]
   refine ⟨.inr ?_,rfl⟩
   rw [List.all_append,Bool.and_eq_true]
   exact ⟨Hr (fun _=>rfl),rfl⟩
  ·rintro F h ⟨p1,p2,p3,rfl⟩
   simp only [GY,go_sem,↓reduceIte,p1,p2,p3,sTh]
   rfl
  ·simp only [GY,go_sem,↓reduceIte]
  ·simp only [GY,go_sem,↓reduceIte,p1,p2,p3]
 ·simp only [GY,go_sem,↓reduceIte]
 ·simp only [GY,go_sem,↓reduceIte]
  rfl
set_option maxHeartbeats 4000000 in
theorem Mf (s:A5) (hs:Hq s) (b:Nat) {Q:VV→VH→Prop}:Yk V Qe [J6 s] b Q↔Q (.ag [.sl b 0 0 s.has.length,.sl (b+1) 0 0 s.jf.length,.sl (b+1+1) 0 0 s.mo.length]) [some ⟨AG,1,0,false,s.has.map eI⟩,some ⟨AG,1,0,false,s.jf.map eI⟩,some (Kk Bw 1 (s.mo.map EB))]:=by
 refine Jv ?_
 rw [Jw C.c_z66.2]
 have h1:=hs.has
 have h2:=hs.jf
 have h3:=hs.mo
 have b1:s.has.length * 8≤A7:=by unfold A7;omega
 have b2:s.jf.length * 8≤A7:=by unfold A7;omega
 simp only [U0,Hy,go_sem,↓reduceIte,b1,b2]
 refine Ai (by decide) s.mo.length (by omega) (I:=fun k F h=>A4.tmp F 1 = .fp (TU s) 0∧A4.tmp F 2 = .p 0 0 0 0∧A4.tmp F 3 = .p 3 0 0 0∧∃ L,L=s.mo.take k∧h=cpH s L) ?_ ?_ ?_ 0 _ _ (Nat.zero_le _) ?_ ?_
 ·rintro k F h hk p4 ⟨p1,p2,p3,L,hL,rfl⟩
  simp only [Hy,go_sem,↓reduceIte,p4,p1,p2,p3]
  exact ⟨L,hL,rfl⟩
 ·rintro k F h hk p4 ⟨p1,p2,p3,L,hL,rfl⟩
  have hm:=hs.mi' k
  simp only [Hy,go_sem,↓reduceIte,p4,p1,p2,p3,A0,cpH]
  refine Ai (by decide) (s.mo.getD k []).length (by omega) (I:=fun j F h=>A4.tmp F 4 = .i .i64 k∧A4.tmp F 1 = .fp (TU s) 0∧A4.tmp F 2 = .p 0 0 0 0∧A4.tmp F 3 = .p 3 0 0 0∧∃ K,K=(s.mo.getD k []).take j∧A4.tmp F 5 = .sl 5 K.length 0 K.length∧h=cpH s L++[some (AL ER 1 (K.map M2))]) ?_ ?_ ?_ 0 _ _ (Nat.zero_le _) ?_ ?_
  ·rintro j F h hj q6 ⟨q4,q1,q2,q3,K,hK,q5,rfl⟩
   simp only [Hy,go_sem,↓reduceIte,q6,q4,q1,q2,q3,q5,Cv hk]
   exact ⟨K,hK,rfl,rfl⟩
  ·rintro j F h hj q6 ⟨q4,q1,q2,q3,K,hK,q5,rfl⟩
   have htk:(s.mo.getD k []).take (j+1)=K++[(s.mo.getD k []).getD j []]:=by
    rw [List.take_succ_eq_append_getElem hj,hK,List.getD_eq_getElem?_getD (l:=s.mo.getD k []),List.getElem?_eq_getElem hj];rfl
   have hc:=hs.mc' k j
   have hl:K.length=j:=by rw [hK,List.length_take];omega
   have b3:((s.mo.getD k []).getD j []).length * 8≤A7:=by unfold A7;omega
   have b4:(K.length+1) * 24≤A7:=by unfold A7;omega
   simp only [Hy,go_sem,↓reduceIte,q6,q4,q1,q2,q3,q5,Cv hk,Hu hj,hk,hj,b3,b4,cpH,Ab9,A0,List.length_append,List.length_map]
   exact ⟨K++[(s.mo.getD k []).getD j []],htk.symm,by simp,rfl⟩
  ·rintro F h ⟨q4,q1,q2,q3,K,hK,q5,rfl⟩
   rw [List.take_length] at hK
   subst hK
   have htk:s.mo.take (k+1)=L++[s.mo.getD k []]:=by
    rw [List.take_succ_eq_append_getElem hk,hL,List.getD_eq_getElem?_getD,List.getElem?_eq_getElem hk];rfl
   have hl:L.length=k:=by rw [hL,List.length_take];omega
   have b4:(L.length+1) * 24≤A7:=by unfold A7;omega
   simp only [Hy,go_sem,↓reduceIte,q4,q1,q2,q3,q5,b4,cpH,A5Y,List.length_append,List.length_map]
   exact ⟨L++[s.mo.getD k []],htk.symm,by simp⟩
  ·simp only [Hy,go_sem,↓reduceIte]
  ·simp only [Hy,go_sem,↓reduceIte,p4,p1,p2,p3,cpH]
   exact ⟨[],rfl,rfl,rfl⟩
 ·rintro F h ⟨p1,p2,p3,L,hL,rfl⟩
  rw [List.take_length] at hL
  subst hL
  simp only [Hy,go_sem,↓reduceIte,p1,p2,p3,cpH,Bj,Bj.takeL]
  refine ⟨by decide,?_⟩
  unfold AL Kk
  split<;>simp_all [DO]
 ·simp only [Hy,go_sem,↓reduceIte]
 ·simp only [Hy,go_sem,↓reduceIte]
  exact ⟨[],rfl,rfl⟩
end
def QM:A5:=⟨[],[],[]⟩
def Jn (o:Option A5):VV:=match o with
 | some s=>.tu [J6 s,.b true]
 | none=>.tu [J6 QM,.b false]
def CL (t:A2) (s:A5) (n kind w:Int):Option A5:=if C4 t s n kind=true then some (AQ s n w) else none
theorem Nt {l:List Int} {n:Int} {i:Nat} (h:i≤Ba l n):(i < l.length∧l.getD i 0 < n)↔i < Ba l n:=by
 constructor
 ·rintro ⟨h1,h2⟩
  rcases Nat.lt_or_ge i (Ba l n) with c | c
  ·exact c
  ·have e:i=Ba l n:=by omega
   subst e
   exact absurd h2 (AcF h1)
 ·intro h2
  exact ⟨by have:=CY l n;omega,Nu h2⟩
theorem Nc {ty e:Nat} {rows:List (List VV)}:(Kk ty e rows).ver=0:=by unfold Kk;split<;>rfl
theorem Li {ty e:Nat} {rows:List (List VV)}:(Kk ty e rows).rows=rows:=by
 unfold Kk;split
 ·rename_i h;rw [List.length_eq_zero_iff.1 h];rfl
 ·rfl
theorem Nb {ty:Nat} {rows:List (List VV)}:(decide (0 < (Kk ty 1 rows).esz) || (Kk ty 1 rows).nl)=true:=by unfold Kk;split<;>rfl
def moH (s:A5):VH:=[some ⟨Ab,0,0,false,[[.nl,.nl,.nl]]⟩,some ⟨AG,1,0,false,s.has.map eI⟩,some ⟨AG,1,0,false,s.jf.map eI⟩,some (Kk Bw 1 (s.mo.map EB)),some ⟨Ab,0,0,false,[[.sl 1 0 0 s.has.length,.sl 2 0 0 s.jf.length,.sl 3 0 0 s.mo.length]]⟩]
section
variable {V:Am} (C:Au V) {Q:VV→Prop}
include C
set_option maxRecDepth 4000 in
set_option maxHeartbeats 8000000 in
theorem NP (t:A2) (ht:A8 t) (s:A5) (hs:Hq s) (n kind w:Int):VP V H5 [vT t,J6 s,.i .i64 n,.i .i64 kind,.i .i64 w] Q↔Q (Jn (CL t s n kind w)):=by
 refine Ad ?_
 rw [Ac C.c_z136.1 C.c_z136.2]
 have hfm:=fun (Q:VV→Prop)=>CD C t ht s hs (Q:=Q)
 have hno:C4 t s n kind=false→Jn (CL t s n kind w) = .tu [J6 QM,.b false]:=fun h=>by rw [CL,h];rfl
 have e0:(VV.tu [J6 QM,.b false]) = .tu [.ag [.ls [],.ls [],.ls []],.b false]:=rfl
 have hle:=hs.has
 cases hf:BH t s with
 | false =>
  rw [hno (by rw [C4,hf];rfl),e0]
  simp only [Cu,Bq,go_sem,↓reduceIte,hfm,hf]
 | true =>
 cases h1:BI t n with
 | false =>
  rw [hno (by rw [C4,hf,h1];rfl),e0]
  simp only [Cu,Bq,go_sem,↓reduceIte,hfm,hf,Ay C,h1]
 | true =>
 obtain ⟨m,rfl,hm⟩:=Aa h1
 cases h2:decide ((t.at m).kind=kind) with
 | false =>
  rw [hno (by rw [C4,hf,h1,Int.toNat_natCast,h2];rfl),e0]
  simp only [Cu,Bq,go_sem,↓reduceIte,hfm,hf,Ay C,h1,A6 hm,h2]
 | true =>
 have w1:=GD s.has (m:Int)
 cases h3:B2 s.has (m:Int) with
 | true =>
  rw [hno (by rw [C4,hf,h1,Int.toNat_natCast,h2,h3];rfl),e0]
  rw [h3] at w1
  simp only [Cu,Bq,go_sem,↓reduceIte,hfm,hf,Ay C,h1,A6 hm,h2,Aw C s.has (by omega),w1]
 | false =>
 rw [h3] at w1
 have w2:=CE s.has (t.at m).up
 cases h4:B2 s.has (t.at m).up with
 | false =>
  rw [hno (by rw [C4,hf,h1,Int.toNat_natCast,h2,h3,h4];rfl),e0]
  rw [h4] at w2
  simp only [Cu,Bq,go_sem,↓reduceIte,hfm,hf,Ay C,h1,A6 hm,h2,Aw C s.has (by omega),w1,w2]
 | true =>
 rw [h4] at w2
 have hok:CL t s m kind w=some (AQ s m w):=by rw [CL,C4,hf,h1,Int.toNat_natCast,h2,h3,h4];rfl
 rw [hok]
 have hcp:=fun (b:Nat) (Q:VV→VH→Prop)=>Mf C s hs b (Q:=Q)
 simp only [Cu,Bq,go_sem,↓reduceIte,hfm,hf,Ay C,h1,A6 hm,h2,Aw C s.has (by omega),w1,w2,hcp]
 unfold VL
 rw [A0]
 have hjl:s.jf.length=s.has.length:=by simp only [BH,Bool.and_eq_true,decide_eq_true_eq] at hf;exact hf.1.1.1.1.2
 refine AW (M:=Nat) (I:=fun i F h=>i≤Ba s.has m∧A4.tmp F 2 = .i .i64 m∧A4.tmp F 4 = .i .i64 w∧A4.tmp F 6 = .fp (TU s) 0∧A4.tmp F 10 = .p 0 0 0 0∧A4.tmp F 12 = .p 4 0 0 0∧A4.tmp F 13 = .i .i64 i∧h=moH s) (μ:=fun i=>s.has.length - i) ?_ 0 _ _ ⟨Nat.zero_le _,?_,?_,?_,?_,?_,?_,rfl⟩
 ·rintro i F h ⟨hi,p2,p4,p6,p10,p12,p13,rfl⟩
  have hiff:=Nt hi
  have hkl:=CY s.has m
  by_cases c:i < s.has.length
  ·cases c2:decide (s.has.getD i 0 < (m:Int)) with
   | true =>
    have c2':=of_decide_eq_true c2
    have hlt:=hiff.1 ⟨c,c2'⟩
    have hw:IntKind.i64.wrap ((i:Int)+1)=((i+1:Nat):Int):=by rw [AC (by omega) (by omega)];omega
    simp only [EU,Bq,go_sem,↓reduceIte,p2,p4,p6,p10,p12,p13,c,Az c,c2,A0,hw]
    exact ⟨i+1,by omega,by omega,rfl,rfl,rfl⟩
   | false =>
    have c2':=of_decide_eq_false c2
    have e:i=Ba s.has m:=by
     rcases Nat.lt_or_ge i (Ba s.has m) with h | h
     ·exact absurd (Nu h) c2'
     ·omega
    obtain ⟨A,hA⟩:∃ A,A=s.has.take i:=⟨_,rfl⟩
    obtain ⟨B,hB⟩:∃ B,B=s.has.drop i:=⟨_,rfl⟩
    obtain ⟨A',hA'⟩:∃ A,A=s.jf.take i:=⟨_,rfl⟩
    obtain ⟨B',hB'⟩:∃ B,B=s.jf.drop i:=⟨_,rfl⟩
    have lA:A.length=i:=by rw [hA,List.length_take];omega
    have lA':A'.length=i:=by rw [hA',List.length_take];omega
    have lB:B.length=s.has.length - i:=by rw [hB,List.length_drop]
    have lB':B'.length=s.jf.length - i:=by rw [hB',List.length_drop]
    have tB:List.take (s.has.length - i) B=B:=List.take_of_length_le (by omega)
    have tB':List.take (s.jf.length - i) B' = B':=List.take_of_length_le (by omega)
    have c1:i≤s.has.length:=by omega
    have c1':i≤s.jf.length:=by omega
    have b1:A.length * 8≤A7:=by unfold A7;omega
    have b1':A'.length * 8≤A7:=by unfold A7;omega
    have b2:(A.length+1) * 8≤A7:=by unfold A7;omega
    have b2':(A'.length+1) * 8≤A7:=by unfold A7;omega
    obtain ⟨b0,Bs,rfl⟩:∃ b0 Bs,B=b0::Bs:=by
     cases B with
     | nil=>simp at lB;omega
     | cons b0 Bs=>exact ⟨b0,Bs,rfl⟩
    obtain ⟨b0',Bs',rfl⟩:∃ b0 Bs,B' = b0::Bs:=by
     cases B' with
     | nil=>simp at lB';omega
     | cons b0 Bs=>exact ⟨b0,Bs,rfl⟩
    rw [List.length_cons] at lB lB'
    have tBm:List.take (s.has.length - i) (eI b0::List.map eI Bs)=eI b0::List.map eI Bs:=List.take_of_length_le (by simp;omega)
    have tBm':List.take (s.jf.length - i) (eI b0'::List.map eI Bs')=eI b0'::List.map eI Bs':=List.take_of_length_le (by simp;omega)
    obtain ⟨X,hX⟩:∃ X,X=A++[(m:Int)]++b0::Bs:=⟨_,rfl⟩
    obtain ⟨X',hX'⟩:∃ X,X=A'++[w]++b0'::Bs':=⟨_,rfl⟩
    have jX:List.map eI (A++[(m:Int)])++eI b0::List.map eI Bs=List.map eI X:=by rw [hX,List.map_append (l₁:=A++[(m:Int)])];rfl
    have jX':List.map eI (A'++[w])++eI b0'::List.map eI Bs' = List.map eI X':=by rw [hX',List.map_append (l₁:=A'++[w])];rfl
    have lX:A.length+1+(Bs.length+1)=X.length:=by rw [hX];simp;omega
    have lX':A'.length+1+(Bs'.length+1)=X'.length:=by rw [hX'];simp;omega
    have b3:X.length * 8≤A7:=by unfold A7;omega
    have b3':X'.length * 8≤A7:=by unfold A7;omega
    have eX:X=B3 s.has (Ba s.has m) m:=by rw [hX,B3,← e,← hA,← hB];simp
    have eX':X' = B3 s.jf (Ba s.has m) w:=by rw [hX',B3,← e,← hA',← hB'];simp
    simp only [EU,Bq,go_sem,↓reduceIte,p2,p4,p6,p10,p12,p13,c,Az c,c2,A0,moH,← hA,← hB,← hA',← hB',tBm,tBm',c1,c1',b1,b1',b2,b2',b3,b3',List.length_append,List.length_map,Nc,Li,Nb,jX,jX',lX,lX']
    rw [eX,eX'];rfl
  ·have e:i=Ba s.has m:=by omega
   obtain ⟨A,hA⟩:∃ A,A=s.has.take i:=⟨_,rfl⟩
   obtain ⟨B,hB⟩:∃ B,B=s.has.drop i:=⟨_,rfl⟩
   obtain ⟨A',hA'⟩:∃ A,A=s.jf.take i:=⟨_,rfl⟩
   obtain ⟨B',hB'⟩:∃ B,B=s.jf.drop i:=⟨_,rfl⟩
   have lA:A.length=i:=by rw [hA,List.length_take];omega
   have lA':A'.length=i:=by rw [hA',List.length_take];omega
   have lB:B.length=s.has.length - i:=by rw [hB,List.length_drop]
   have lB':B'.length=s.jf.length - i:=by rw [hB',List.length_drop]
   have tB:List.take (s.has.length - i) B=B:=List.take_of_length_le (by omega)
   have tB':List.take (s.jf.length - i) B' = B':=List.take_of_length_le (by omega)
   have c1:i≤s.has.length:=by omega
   have c1':i≤s.jf.length:=by omega
   have b1:A.length * 8≤A7:=by unfold A7;omega
   have b1':A'.length * 8≤A7:=by unfold A7;omega
   have b2:(A.length+1) * 8≤A7:=by unfold A7;omega
   have b2':(A'.length+1) * 8≤A7:=by unfold A7;omega
   obtain rfl:B=[]:=List.length_eq_zero_iff.1 (by omega)
   obtain rfl:B' = []:=List.length_eq_zero_iff.1 (by omega)
   have b3:(A.length+1+0) * 8≤A7:=by unfold A7;omega
   have b3':(A'.length+1+0) * 8≤A7:=by unfold A7;omega
   simp only [EU,Bq,go_sem,↓reduceIte,p2,p4,p6,p10,p12,p13,c,A0,moH,← hA,← hB,← hA',← hB',tB,tB',c1,c1',b1,b1',b2,b2',b3,b3',List.length_append,List.length_map,Nc,Li,Nb]
   have eX:A++[(m:Int)]=B3 s.has (Ba s.has m) m:=by rw [B3,← e,← hA,← hB]
   have eX':A'++[w]=B3 s.jf (Ba s.has m) w:=by rw [B3,← e,← hA',← hB']
   rw [eX,eX'];rfl
 ·simp only [Bq,go_sem,↓reduceIte]
 ·simp only [Bq,go_sem,↓reduceIte]
 ·simp only [Bq,go_sem,↓reduceIte]
 ·simp only [Bq,go_sem,↓reduceIte]
 ·simp only [Bq,go_sem,↓reduceIte]
 ·simp only [Bq,go_sem,↓reduceIte]
end
abbrev agS (s:A5) (b:Nat):VV:=.ag [.sl b 0 0 s.has.length,.sl (b+1) 0 0 s.jf.length,.sl (b+1+1) 0 0 s.mo.length]
abbrev obS (s:A5):VH:=[some ⟨AG,1,0,false,s.has.map eI⟩,some ⟨AG,1,0,false,s.jf.map eI⟩,some (Kk Bw 1 (s.mo.map EB))]
theorem YC {ty e:Nat} {rows:List (List VV)}:({ ty:=(Kk ty e rows).ty,esz:=(Kk ty e rows).esz,ver:=0,nl:=(Kk ty e rows).nl,rows:=rows }:VO)=Kk ty e rows:=by
 unfold Kk
 split
 ·rename_i h;rw [List.length_eq_zero_iff.1 h];rfl
 ·rfl
theorem RT {α:Type} {g:α→Option (α×List Nat)}:∀ (l:List α) (k:Nat) (x y:α) (ids:List Nat),(∀ a∈l,g a=some (a,[]))→k < l.length→g x=some (y,ids)→B4 g (l.set k x)=some (l.set k y,ids)
 | [],k,x,y,ids,_,hk,_=>by simp at hk
 | a::l,0,x,y,ids,h,_,hx=>by
  have hl:B4 g l=some (l,[]):=by
   have:∀ (l:List α),(∀ a∈l,g a=some (a,[]))→B4 g l=some (l,[]):=by
    intro l
    induction l with
    | nil=>intro _;rfl
    | cons b l ih=>intro h;simp only [B4,h b (by simp),ih fun a ha=>h a (by simp [ha]),List.nil_append]
   exact this l fun a ha=>h a (by simp [ha])
  simp only [List.set_cons_zero,B4,hx,hl,List.append_nil]
 | a::l,k+1,x,y,ids,h,hk,hx=>by
  have:=RT l k x y ids (fun a ha=>h a (by simp [ha])) (by simpa using hk) hx
  simp only [List.set_cons_succ,B4,h a (by simp),this,List.nil_append]
theorem A9G {H:VH} {l:List (List (List Int))} {k:Nat} (hk:k < l.length) {v:VV} {X:List (List Int)} {ids:List Nat} (hv:frz H 5 v=some (.ls (X.map M2),ids)) :
  B4 (fun row=>B4 (frz H 5) row) (List.take l.length ((l.map EB).set k [v]))=some ((l.set k X).map EB,ids):=by
 rw [List.take_of_length_le (by simp)]
 rw [List.map_set]
 refine RT (l.map EB) k [v] (EB X) ids ?_ (by simpa using hk) ?_
 ·intro a ha
  obtain ⟨c,_,rfl⟩:=List.mem_map.1 ha
  simp only [go_sem,Qa,↓reduceIte]
 ·simp only [B4,hv,List.append_nil]
section
variable {V:Am} (C:Au V)
include C
set_option maxHeartbeats 8000000 in
theorem Sm (t:A2) (ht:A8 t) (s:A5) (hs:Hq s) (n kind w:Int) (h0:C4 t s n kind=false) (b:Nat) {Q:VV→VH→Prop}:Yk V H5 [vT t,J6 s,.i .i64 n,.i .i64 kind,.i .i64 w] b Q↔Q (.tu [J6 QM,.b false]) []:=by
 refine Jv ?_
 rw [Jw C.c_z136.2]
 have hfm:=fun (Q:VV→Prop)=>CD C t ht s hs (Q:=Q)
 have e0:(VV.tu [J6 QM,.b false]) = .tu [.ag [.ls [],.ls [],.ls []],.b false]:=rfl
 have hle:=hs.has
 rw [e0]
 cases hf:BH t s with
 | false =>
  simp only [Cu,Bq,go_sem,↓reduceIte,hfm,hf,Bj,Bj.takeL]
  exact List.nodup_nil
 | true =>
 cases h1:BI t n with
 | false =>
  simp only [Cu,Bq,go_sem,↓reduceIte,hfm,hf,Ay C,h1,Bj,Bj.takeL]
  exact List.nodup_nil
 | true =>
 obtain ⟨m,rfl,hm⟩:=Aa h1
 cases h2:decide ((t.at m).kind=kind) with
 | false =>
  simp only [Cu,Bq,go_sem,↓reduceIte,hfm,hf,Ay C,h1,A6 hm,h2,Bj,Bj.takeL]
  exact List.nodup_nil
 | true =>
 have w1:=GD s.has (m:Int)
 cases h3:B2 s.has (m:Int) with
 | true =>
  rw [h3] at w1
  simp only [Cu,Bq,go_sem,↓reduceIte,hfm,hf,Ay C,h1,A6 hm,h2,Aw C s.has (by omega),w1,Bj,Bj.takeL]
  exact List.nodup_nil
 | false =>
 rw [h3] at w1
 have w2:=CE s.has (t.at m).up
 cases h4:B2 s.has (t.at m).up with
 | false =>
  rw [h4] at w2
  simp only [Cu,Bq,go_sem,↓reduceIte,hfm,hf,Ay C,h1,A6 hm,h2,Aw C s.has (by omega),w1,w2,Bj,Bj.takeL]
  exact List.nodup_nil
 | true =>
  rw [C4,hf,h1,Int.toNat_natCast,h2,h3,h4] at h0
  cases h0
set_option maxHeartbeats 8000000 in
theorem Tq (t:A2) (ht:A8 t) (s:A5) (hs:Hq s) {m:Nat} (hm:m < t.nodes.length) (kind w:Int) (hok:C4 t s m kind=true) (b:Nat) {Q:VV→VH→Prop}:Yk V H5 [vT t,J6 s,.i .i64 m,.i .i64 kind,.i .i64 w] b Q↔Q (.tu [agS (AQ s m w) b,.b true]) (obS (AQ s m w)):=by
 refine Jv ?_
 rw [Jw C.c_z136.2]
 have hfm:=fun (Q:VV→Prop)=>CD C t ht s hs (Q:=Q)
 have hle:=hs.has
 have h1:BI t (m:Int)=true:=BN hm
 simp only [C4,Bool.and_eq_true,Bool.not_eq_true',Int.toNat_natCast] at hok
 obtain ⟨⟨⟨⟨hf,_⟩,h2⟩,h3⟩,h4⟩:=hok
 have w1:=GD s.has (m:Int)
 have w2:=CE s.has (t.at m).up
 rw [h3] at w1
 rw [h4] at w2
 have hcp:=fun (b:Nat) (Q:VV→VH→Prop)=>Mf C s hs b (Q:=Q)
 simp only [Cu,Bq,go_sem,↓reduceIte,hfm,hf,Ay C,h1,A6 hm,h2,Aw C s.has (by omega),w1,w2,hcp]
 unfold VL
 rw [A0]
 have hjl:s.jf.length=s.has.length:=by simp only [BH,Bool.and_eq_true,decide_eq_true_eq] at hf;exact hf.1.1.1.1.2
 refine AW (M:=Nat) (I:=fun i F h=>i≤Ba s.has m∧A4.tmp F 2 = .i .i64 m∧A4.tmp F 4 = .i .i64 w∧A4.tmp F 6 = .fp (TU s) 0∧A4.tmp F 10 = .p 0 0 0 0∧A4.tmp F 12 = .p 4 0 0 0∧A4.tmp F 13 = .i .i64 i∧h=moH s) (μ:=fun i=>s.has.length - i) ?_ 0 _ _ ⟨Nat.zero_le _,?_,?_,?_,?_,?_,?_,rfl⟩
 ·rintro i F h ⟨hi,p2,p4,p6,p10,p12,p13,rfl⟩
  have hiff:=Nt hi
  have hkl:=CY s.has m
  by_cases c:i < s.has.length
  ·cases c2:decide (s.has.getD i 0 < (m:Int)) with
   | true =>
    have c2':=of_decide_eq_true c2
    have hlt:=hiff.1 ⟨c,c2'⟩
    have hw:IntKind.i64.wrap ((i:Int)+1)=((i+1:Nat):Int):=by rw [AC (by omega) (by omega)];omega
    simp only [EU,Bq,go_sem,↓reduceIte,p2,p4,p6,p10,p12,p13,c,Az c,c2,A0,hw]
    exact ⟨i+1,by omega,by omega,rfl,rfl,rfl⟩
   | false =>
    have c2':=of_decide_eq_false c2
    have e:i=Ba s.has m:=by
     rcases Nat.lt_or_ge i (Ba s.has m) with h | h
     ·exact absurd (Nu h) c2'
     ·omega
    obtain ⟨A,hA⟩:∃ A,A=s.has.take i:=⟨_,rfl⟩
    obtain ⟨B,hB⟩:∃ B,B=s.has.drop i:=⟨_,rfl⟩
    obtain ⟨A',hA'⟩:∃ A,A=s.jf.take i:=⟨_,rfl⟩
    obtain ⟨B',hB'⟩:∃ B,B=s.jf.drop i:=⟨_,rfl⟩
    have lA:A.length=i:=by rw [hA,List.length_take];omega
    have lA':A'.length=i:=by rw [hA',List.length_take];omega
    have lB:B.length=s.has.length - i:=by rw [hB,List.length_drop]
    have lB':B'.length=s.jf.length - i:=by rw [hB',List.length_drop]
    have tB:List.take (s.has.length - i) B=B:=List.take_of_length_le (by omega)
    have tB':List.take (s.jf.length - i) B' = B':=List.take_of_length_le (by omega)
    have c1:i≤s.has.length:=by omega
    have c1':i≤s.jf.length:=by omega
    have b1:A.length * 8≤A7:=by unfold A7;omega
    have b1':A'.length * 8≤A7:=by unfold A7;omega
    have b2:(A.length+1) * 8≤A7:=by unfold A7;omega
    have b2':(A'.length+1) * 8≤A7:=by unfold A7;omega
    obtain ⟨b0,Bs,rfl⟩:∃ b0 Bs,B=b0::Bs:=by
     cases B with
     | nil=>simp at lB;omega
     | cons b0 Bs=>exact ⟨b0,Bs,rfl⟩
    obtain ⟨b0',Bs',rfl⟩:∃ b0 Bs,B' = b0::Bs:=by
     cases B' with
     | nil=>simp at lB';omega
     | cons b0 Bs=>exact ⟨b0,Bs,rfl⟩
    rw [List.length_cons] at lB lB'
    have tBm:List.take (s.has.length - i) (eI b0::List.map eI Bs)=eI b0::List.map eI Bs:=List.take_of_length_le (by simp;omega)
    have tBm':List.take (s.jf.length - i) (eI b0'::List.map eI Bs')=eI b0'::List.map eI Bs':=List.take_of_length_le (by simp;omega)
    obtain ⟨X,hX⟩:∃ X,X=A++[(m:Int)]++b0::Bs:=⟨_,rfl⟩
    obtain ⟨X',hX'⟩:∃ X,X=A'++[w]++b0'::Bs':=⟨_,rfl⟩
    have jX:List.map eI (A++[(m:Int)])++eI b0::List.map eI Bs=List.map eI X:=by rw [hX,List.map_append (l₁:=A++[(m:Int)])];rfl
    have jX':List.map eI (A'++[w])++eI b0'::List.map eI Bs' = List.map eI X':=by rw [hX',List.map_append (l₁:=A'++[w])];rfl
    have lX:A.length+1+(Bs.length+1)=X.length:=by rw [hX];simp;omega
    have lX':A'.length+1+(Bs'.length+1)=X'.length:=by rw [hX'];simp;omega
    have b3:X.length * 8≤A7:=by unfold A7;omega
    have b3':X'.length * 8≤A7:=by unfold A7;omega
    have eX:X=B3 s.has (Ba s.has m) m:=by rw [hX,B3,← e,← hA,← hB];simp
    have eX':X' = B3 s.jf (Ba s.has m) w:=by rw [hX',B3,← e,← hA',← hB'];simp
    simp only [EU,Bq,go_sem,↓reduceIte,p2,p4,p6,p10,p12,p13,c,Az c,c2,A0,moH,← hA,← hB,← hA',← hB',tBm,tBm',c1,c1',b1,b1',b2,b2',b3,b3',List.length_append,List.length_map,Nc,Li,Nb,Bj,Bj.takeL,jX,jX',lX,lX']
    exact ⟨by decide,by rw [eX,eX'];rfl,by rw [YC,eX,eX'];rfl⟩
  ·have e:i=Ba s.has m:=by omega
   obtain ⟨A,hA⟩:∃ A,A=s.has.take i:=⟨_,rfl⟩
   obtain ⟨B,hB⟩:∃ B,B=s.has.drop i:=⟨_,rfl⟩
   obtain ⟨A',hA'⟩:∃ A,A=s.jf.take i:=⟨_,rfl⟩
   obtain ⟨B',hB'⟩:∃ B,B=s.jf.drop i:=⟨_,rfl⟩
   have lA:A.length=i:=by rw [hA,List.length_take];omega
   have lA':A'.length=i:=by rw [hA',List.length_take];omega
   have lB:B.length=s.has.length - i:=by rw [hB,List.length_drop]
   have lB':B'.length=s.jf.length - i:=by rw [hB',List.length_drop]
   have tB:List.take (s.has.length - i) B=B:=List.take_of_length_le (by omega)
   have tB':List.take (s.jf.length - i) B' = B':=List.take_of_length_le (by omega)
   have c1:i≤s.has.length:=by omega
   have c1':i≤s.jf.length:=by omega
   have b1:A.length * 8≤A7:=by unfold A7;omega
   have b1':A'.length * 8≤A7:=by unfold A7;omega
   have b2:(A.length+1) * 8≤A7:=by unfold A7;omega
   have b2':(A'.length+1) * 8≤A7:=by unfold A7;omega
   obtain rfl:B=[]:=List.length_eq_zero_iff.1 (by omega)
   obtain rfl:B' = []:=List.length_eq_zero_iff.1 (by omega)
   have b3:(A.length+1+0) * 8≤A7:=by unfold A7;omega
   have b3':(A'.length+1+0) * 8≤A7:=by unfold A7;omega
   simp only [EU,Bq,go_sem,↓reduceIte,p2,p4,p6,p10,p12,p13,c,A0,moH,← hA,← hB,← hA',← hB',tB,tB',c1,c1',b1,b1',b2,b2',b3,b3',List.length_append,List.length_map,Nc,Li,Nb,Bj,Bj.takeL]
   have eX:A++[(m:Int)]=B3 s.has (Ba s.has m) m:=by rw [B3,← e,← hA,← hB]
   have eX':A'++[w]=B3 s.jf (Ba s.has m) w:=by rw [B3,← e,← hA',← hB']
   have lX:A.length+1=(B3 s.has (Ba s.has m) m).length:=by rw [← eX];simp
   have lX':A'.length+1=(B3 s.jf (Ba s.has m) w).length:=by rw [← eX'];simp
   exact ⟨by decide,by rw [lX,lX'];rfl,by rw [YC,eX,eX'];rfl⟩
 ·simp only [Bq,go_sem,↓reduceIte]
 ·simp only [Bq,go_sem,↓reduceIte]
 ·simp only [Bq,go_sem,↓reduceIte]
 ·simp only [Bq,go_sem,↓reduceIte]
 ·simp only [Bq,go_sem,↓reduceIte]
 ·simp only [Bq,go_sem,↓reduceIte]
theorem Qf (t:A2) (ht:A8 t) (s:A5) (hs:Hq s) (n:Int) {Q:VV→Prop}:VP V A5w [vT t,J6 s,.i .i64 n] Q↔Q (Jn (CL t s n 4 (-1))):=by
 refine Ad ?_
 rw [Ac C.c_z82.1 C.c_z82.2]
 have hm:=fun (Q:VV→Prop)=>NP C t ht s hs n 4 (-1) (Q:=Q)
 cases h:CL t s n 4 (-1) with
 | none =>
  rw [h] at hm
  simp only [Jn,QM] at hm ⊢
  simp only [A4c,ZD,go_sem,↓reduceIte,hm]
  rfl
 | some s' =>
  rw [h] at hm
  simp only [Jn] at hm ⊢
  simp only [A4c,ZD,go_sem,↓reduceIte,hm]
def HF (t:A2) (s:A5) (n w:Int):Option A5:=match CL t s n 2 w with
 | some s'=>if BH t s' = true then some s' else none
 | none=>none
theorem NO (t:A2) (ht:A8 t) (s:A5) (hs:Hq s) (hz:s.has.length < 1000∧s.jf.length < 1000) (n w:Int) {Q:VV→Prop}:VP V A5x [vT t,J6 s,.i .i64 n,.i .i64 w] Q↔Q (Jn (HF t s n w)):=by
 refine Ad ?_
 rw [Ac C.c_z83.1 C.c_z83.2]
 have hm:=fun (Q:VV→Prop)=>NP C t ht s hs n 2 w (Q:=Q)
 unfold HF
 cases h:CL t s n 2 w with
 | none =>
  rw [h] at hm
  simp only [Jn,QM] at hm ⊢
  simp only [Za,Ub,go_sem,↓reduceIte,hm]
  rfl
 | some s' =>
  rw [h] at hm
  have hs':Hq s':=by
   rw [CL] at h
   split at h
   ·rename_i hok
    cases h
    have h1:=CY s.has n
    have hj:s.jf.length=s.has.length:=by
     simp only [C4,BH,Bool.and_eq_true,decide_eq_true_eq] at hok
     exact hok.1.1.1.1.1.1.1.1.2
    exact ⟨by show (B3 _ _ _).length≤1000;rw [CA h1];omega,by show (B3 _ _ _).length≤1000;rw [CA (by omega)];omega,hs.mo,hs.mi,hs.mc⟩
   ·cases h
  have hf:=fun (Q:VV→Prop)=>CD C t ht s' hs' (Q:=Q)
  cases hff:BH t s' with
  | false =>
   simp only [Jn,QM,hff,Bool.false_eq_true,if_false] at hm ⊢
   simp only [Za,Ub,go_sem,↓reduceIte,hm,hf,hff]
   rfl
  | true =>
   simp only [Jn,hff,if_true] at hm ⊢
   simp only [Za,Ub,go_sem,↓reduceIte,hm,hf,hff]
def DZ (t:A2) (s:A5) (n at_:Int):Option A5:=match CL t s n 3 (-1) with
 | some s'=>if at_ < 1∨((s'.mo.getD (t.at n.toNat).loc.toNat []).length:Int) < at_ then none else
   some { s' with mo:=s'.mo.set (t.at n.toNat).loc.toNat ((s'.mo.getD (t.at n.toNat).loc.toNat []).take at_.toNat++[n]::(s'.mo.getD (t.at n.toNat).loc.toNat []).drop at_.toNat) }
 | none=>none
set_option maxHeartbeats 4000000 in
theorem Mh (t:A2) (ht:A8 t) (s:A5) (hs:Hq s) (n at_:Int) {Q:VV→Prop}:VP V A5z [vT t,J6 s,.i .i64 n,.i .i64 at_] Q↔Q (Jn (DZ t s n at_)):=by
 refine Ad ?_
 rw [Ac C.c_z85.1 C.c_z85.2]
 unfold DZ CL
 cases hok:C4 t s n 3 with
 | false =>
  have hm:=fun (b:Nat) (Q:VV→VH→Prop)=>Sm C t ht s hs n 3 (-1) hok b (Q:=Q)
  simp only [Jn,QM,Bool.false_eq_true,if_false] at hm ⊢
  simp only [Rt,Ka,go_sem,↓reduceIte,hm]
  rfl
 | true =>
  have hok':=hok
  simp only [C4,Bool.and_eq_true,decide_eq_true_eq] at hok'
  obtain ⟨⟨⟨⟨hf,h1⟩,h2⟩,h3⟩,h4⟩:=hok'
  obtain ⟨m,rfl,hmn⟩:=Aa h1
  rw [Int.toNat_natCast] at h2
  have hm:=fun (b:Nat) (Q:VV→VH→Prop)=>Tq C t ht s hs hmn 3 (-1) hok b (Q:=Q)
  have hmo:s.mo.length=t.locs.length:=by simp only [BH,Bool.and_eq_true,decide_eq_true_eq] at hf;exact hf.1.1.1.2
  obtain ⟨l0,l1⟩:=ht.wloc hmn (.inr h2)
  obtain ⟨loc,hloc⟩:=Int.eq_ofNat_of_zero_le l0
  have hll:loc < s.mo.length:=by omega
  rw [if_pos rfl]
  simp only [Int.toNat_natCast,hloc]
  have hll':loc < (AQ s m (-1)).mo.length:=hll
  have hz:Kk Bw 1 (List.map EB (AQ s m (-1)).mo) = ⟨Bw,1,0,false,List.map EB (AQ s m (-1)).mo⟩:=by
   unfold Kk
   rw [if_neg (by rw [List.length_map];omega)]
  have C7:=Cv hll'
  have hsz:=hs.mi' loc
  obtain ⟨L,hL⟩:∃ L,L=(AQ s m (-1)).mo.getD loc []:=⟨_,rfl⟩
  rw [← hL] at C7
  have hLl:L.length≤1000:=by rw [hL];exact hsz
  rw [← hL]
  cases c1:decide (at_ < 1) with
  | true =>
   rw [if_pos (.inl (of_decide_eq_true c1))]
   simp only [Jn,QM]
   simp only [Rt,Ka,go_sem,↓reduceIte,hm,A6 hmn,hloc,hz,C7,hll',c1]
   rfl
  | false =>
  have c1':=of_decide_eq_false c1
  obtain ⟨a,rfl⟩:=Int.eq_ofNat_of_zero_le (show 0≤at_ by omega)
  have c2n:decide ((L.length:Int) < (a:Int))=decide (L.length < a):=decide_eq_decide.2 ⟨fun h=>by omega,fun h=>by omega⟩
  cases c2:decide (L.length < a) with
  | true =>
   have:=of_decide_eq_true c2
   rw [if_pos (.inr (by omega))]
   simp only [Jn,QM]
   simp only [Rt,Ka,go_sem,↓reduceIte,hm,A6 hmn,hloc,hz,C7,hll',c1,c2n,c2]
   rfl
  | false =>
  have c2':=of_decide_eq_false c2
  rw [if_neg (by omega),Int.toNat_natCast]
  have c3:a≤L.length:=by omega
  obtain ⟨A,hA⟩:∃ A,A=L.take a:=⟨_,rfl⟩
  obtain ⟨B,hB⟩:∃ B,B=L.drop a:=⟨_,rfl⟩
  have lA:A.length=a:=by rw [hA,List.length_take];omega
  have lB:B.length=L.length - a:=by rw [hB,List.length_drop]
  have b1:A.length * 24≤A7:=by unfold A7;omega
  have b2:(A.length+1) * 24≤A7:=by unfold A7;omega
  have jA:List.map M2 A++[[VV.ls [[VV.i .i64 (m:Int)]]]]=List.map M2 (A++[[(m:Int)]]):=by rw [List.map_append];rfl
  rw [← hA,← hB]
  cases B with
  | nil =>
   have b3:(A.length+1+0) * 24≤A7:=by unfold A7;omega
   have tB:List.take (L.length - a) ([]:List (List Int))=[]:=List.take_nil
   simp only [Rt,Ka,go_sem,↓reduceIte,hm,A6 hmn,hloc,hz,C7,hll',c1,c2n,c2,c3,← hA,← hB,tB,b1,b2,b3,jA,List.length_append,List.length_map]
   rw [A9G hll' (X:=A++[[(m:Int)]]) (ids:=[8]) (by simp only [Ka,go_sem,↓reduceIte,List.length_append,List.length_map])]
   simp only [Ka,go_sem,↓reduceIte,List.length_set,List.length_map]
   rfl
  | cons b0 Bs =>
   rw [List.length_cons] at lB
   obtain ⟨X,hX⟩:∃ X,X=A++[[(m:Int)]]++b0::Bs:=⟨_,rfl⟩
   have tBm:List.take (L.length - a) (M2 b0::List.map M2 Bs)=M2 b0::List.map M2 Bs:=List.take_of_length_le (by simp;omega)
   have jX:List.map M2 (A++[[(m:Int)]])++M2 b0::List.map M2 Bs=List.map M2 X:=by rw [hX,List.map_append (l₁:=A++[[(m:Int)]])];rfl
   have lX:A.length+1+(Bs.length+1)=X.length:=by rw [hX];simp;omega
   have b3:X.length * 24≤A7:=by unfold A7;omega
   simp only [Rt,Ka,go_sem,↓reduceIte,hm,A6 hmn,hloc,hz,C7,hll',c1,c2n,c2,c3,← hA,← hB,tBm,b1,b2,b3,jA,jX,lX,List.length_append,List.length_map]
   rw [A9G hll' (X:=X) (ids:=[8]) (by simp only [Ka,go_sem,↓reduceIte])]
   simp only [Ka,go_sem,↓reduceIte,List.length_set,List.length_map]
   have eX:X=A++[(m:Int)]::b0::Bs:=by rw [hX];simp
   rw [eX];rfl
end
end Go.AM
