/-
  Own work, part of the proof of CoheExec: what functions compute (fourth part).
-/
import Derived.Test.YtpcpldaangchaaaGreatDoorKC
import Derived.Test.YtpcpldaangchaaaGreatDoorAmF
import Derived.Test.YtpcpldaangchaaaGreatDoorPl
set_option maxRecDepth 4000
set_option linter.unusedVariables false
set_option linter.unusedSimpArgs false
set_option linter.unusedSectionVars false
set_option linter.unnecessarySimpa false
namespace Go.AM
open Go Go.Proofs
def AkN:EG:=leaf UO ⟨ZD,TU⟩
theorem A7b:∀ n:Fin 65,VS (AL,A0Z) AkN (leaf K9 ⟨MF,J3⟩) 5000 ⟨Zh,TJ⟩ [.i .u64 1,.i .u64 ((n.val:Nat):Int)] [] (.tu [.i .u64 0,.i .u64 ((n.val:Nat):Int)])=true:=by decide +kernel
def Ju (x:Int) (m n:Nat):List Int:=List.replicate m x++List.replicate (n - m) 0
theorem A40 {x:Int} {m n:Nat} (h:m≤n):(Ju x m n).length=n:=by simp [Ju];omega
theorem A05 {x:Int} {m n:Nat} (h:m≤n):(Ju x m n).take m=List.replicate m x:=by
 unfold Ju
 rw [List.take_left' (by simp)]
theorem A04 (x:Int) (n:Nat):Ju x n n=List.replicate n x:=by simp [Ju]
theorem A41 {x:Int} {n:Nat} (h:0 < n):List.take (min 1 n) [[VV.i IntKind.i64 x]]++List.map eI (List.drop (min 1 n) (List.replicate n 0))=(Ju x 1 n).map eI:=by
 rw [show min 1 n=1 by omega]
 simp [Ju]
theorem A03 {x:Int} {m n:Nat} (h:m≤n):(List.replicate m x).map eI++((List.take (min m (n - m)) (List.replicate m x)).map eI++(List.drop (m+min m (n - m)) (Ju x m n)).map eI)=(Ju x (m+min m (n - m)) n).map eI:=by
 unfold Ju
 rw [← List.map_append,← List.map_append,List.take_replicate,List.drop_append]
 simp only [List.length_replicate,List.drop_replicate]
 rw [show min (min m (n - m)) m=min m (n - m) by omega,show m - (m+min m (n - m))=0 by omega,List.replicate_zero,List.nil_append,show m+min m (n - m) - m=min m (n - m) by omega,
  ← List.append_assoc,List.replicate_append_replicate,show n - m - min m (n - m)=n - (m+min m (n - m)) by omega]
theorem AfF (l:List Int):((l.map eI).all fun r=>r.all VV.cell)=true:=by
 rw [List.all_eq_true]
 intro r hr
 obtain ⟨x,_,rfl⟩:=List.mem_map.1 hr
 rfl
section
variable {V:Al} (C:AA V) {Q:VV→Prop}
include C
theorem Wx {n:Nat} (hn:n≤64):VP V Qp [vW 1#64,.i .u64 (n:Int)] Q↔Q (.tu [vW 0#64,.i .u64 (n:Int)]) :=
 Ae (Hx (a:=⟨Qp,[.i .u64 1,.i .u64 (n:Int)],.tu [.i .u64 0,.i .u64 (n:Int)]⟩) (.of (.leaf C.c_z166) (.leaf C.h_z131) C.c_mathbits_TrailingZeros64) C.c_z135.1 C.c_z135.2 .nil (A7b ⟨n,by omega⟩))
set_option maxHeartbeats 4000000 in
theorem Nh (x:Int) {n:Nat} (hn:n≤64) (h0:0 < n) (b:Nat) {Q:VV→VH→Prop}:Yp V A2U [.ls [[.i .i64 x]],.i .i64 n] b Q↔Q (.sl b 0 0 n) [some ⟨B3,1,0,false,(List.replicate n x).map eI⟩]:=by
 refine La ?_
 rw [Lb C.c_z88.2]
 have b1:n * 8≤A6:=by unfold A6;omega
 have q1:¬ (n:Int) < 0:=by omega
 have q2:¬ ((n:Int):Int) > 9223372036854775807:=by omega
 have q3:IntKind.u64.wrap (n:Int)=n:=by
  rw [show IntKind.u64.wrap (n:Int)=(n:Int) % 18446744073709551616 from rfl];omega
 have q4:IntKind.i64.wrap (n:Int)=n:=AG (by omega) (by omega)
 have q5:IntKind.u64.wrap 1=1:=rfl
 have q7:B6 .gtr none (vW 0#64) (vW 0#64)=some (.b false):=rfl
 have q6:¬ (9223372036854775807:Int) < (n:Int):=by omega
 simp only [A6h,ND,go_sem,↓reduceIte,b1,q1,q2,q3,q4,Wx C hn,Int.le_refl,q5,q6,q7,Int.toNat_natCast]
 unfold VL
 rw [A0]
 refine AU (M:=Nat) (I:=fun m F h=>0 < m∧m≤n∧A3.tmp F 7 = .sl 0 0 0 n∧A3.tmp F 8 = .i .i64 m∧h=[some ⟨B3,1,0,false,(Ju x m n).map eI⟩]) (μ:=fun m=>n - m) ?_ 1 _ _ ⟨by omega,by omega,?_,?_,?_⟩
 ·rintro m F h ⟨m0,mn,p7,p8,rfl⟩
  by_cases c:m < n
  ·have c1:(m:Int) < (n:Int):=by omega
   have hl:=A40 (x:=x) mn
   have hcp:=A03 (x:=x) mn
   have e1:min m n=m:=by omega
   have e2:decide (m+(n - m)≤n)=true:=decide_eq_true (by omega)
   have e3:IntKind.i64.wrap ((m:Int)+((min m (n - m):Nat):Int))=((m+min m (n - m):Nat):Int):=by rw [AG (by omega) (by omega)];omega
   simp only [A0c,ND,go_sem,↓reduceIte,p7,p8,c1,A0,hl,mn,A05 mn,e1,e2,hcp,e3,AfF]
   exact ⟨m+min m (n - m),by omega,by omega,by omega,rfl,rfl⟩
  ·have c1:¬ (m:Int) < (n:Int):=by omega
   have e:m=n:=by omega
   subst e
   simp only [A0c,ND,go_sem,↓reduceIte,p7,p8,c1,A0,A04,Bi]
   simp
 ·simp only [ND,go_sem,↓reduceIte]
 ·simp only [ND,go_sem,↓reduceIte]
  omega
 ·rw [A41 h0]
end
abbrev eSn (t:A4) (x f:List Int):List VV:=[.i .i64 t.vals,lS t.locs,.ls (t.regs.map Js),.ls (t.nodes.map eN),vW (CD x),lI (onL t x f),lW (AE t.nodes.length fun a b=>Ao t a b)]
abbrev SG (t:A4) (x f:List Int):VV:=.fp (eSn t x f) 0
section
variable {V:Al} (C:AA V) {Q:VV→Prop}
include C
theorem QW (n:Ay):VP V Qq [vN n] Q↔Q (.b (E7 n)):=by
 refine Ae ?_
 rw [Ab C.c_z158.1 C.c_z158.2]
 cases c0:decide (n.kind=3)<;>cases c1:decide (0≤n.thread)<;>cases c4:decide (n.kind=4)<;>cases c2:decide (n.mode=2)<;>cases c3:decide (n.mode=3) <;>
  simp only [Zy,TQ,go_sem,↓reduceIte,c0,c1,c2,c3,c4,E7]
theorem QV (n:Ay):VP V Ql [vN n] Q↔Q (.b (HP n)):=by
 refine Ae ?_
 rw [Ab C.c_z116.1 C.c_z116.2]
 cases c0:decide (n.kind=2)<;>cases c1:decide (n.kind=4)<;>cases c2:decide (n.mode=1)<;>cases c3:decide (n.mode=3) <;>
  simp only [Z0,TC,go_sem,↓reduceIte,c0,c1,c2,c3,HP]
theorem Hu (t:A4) (x f:List Int) {n:Nat} (hn:n < t.nodes.length):VP V Ug [SG t x f,.i .i64 n] Q↔Q (.b (decide (0≤(t.at n).thread))):=by
 refine Ae ?_
 rw [Ab C.c_z113.1 C.c_z113.2]
 simp only [YY,TB,go_sem,↓reduceIte,A5 hn]
theorem QS (t:A4) (x f:List Int) {n:Nat} (hn:n < t.nodes.length) {g:Nat} {p:Bool} (hg:∀ Q:VV→Prop,VP V g [vN (t.at n)] Q↔Q (.b p)):VP V Uj [SG t x f,.i .i64 n,.f g [] []] Q↔Q (.b (decide ((t.at n).kind=4) && p)):=by
 refine Ae ?_
 rw [Ab C.c_z117.1 C.c_z117.2]
 cases c:decide ((t.at n).kind=4)<;>simp only [Z4,TD,go_sem,↓reduceIte,A5 hn,c,hg]
theorem VD (t:A4) (ht:Aa t) (x f:List Int) (hx:Dh t x) {n:Nat} (hn:n < t.nodes.length):VP V Ui [SG t x f,.i .i64 n] Q↔Q (.i .i64 (SZ t x f n)):=by
 refine Ae ?_
 rw [Ab C.c_z115.1 C.c_z115.2]
 have hh:=hx.has ht.n64
 unfold SZ
 rw [Int.toNat_natCast]
 cases c:(t.at n).rmw with
 | false=>simp only [PH,MQ,go_sem,↓reduceIte,A5 hn,c,Bool.false_eq_true,false_and]
 | true =>
  cases c2:B2 x (t.at n).up with
  | false=>simp only [PH,MQ,go_sem,↓reduceIte,A5 hn,c,BO C,hh,c2,Bool.false_eq_true,and_false]
  | true =>
   obtain ⟨m,hm1,hm⟩:=A9 (hx _ (A7.1 c2))
   rw [hm1] at c2 ⊢
   simp only [PH,MQ,go_sem,↓reduceIte,A5 hn,c,BO C,hh,c2,hm1,Je hm,and_self]
theorem VI (t:A4) (ht:Aa t) (x f:List Int) (hx:Dh t x) {n:Nat} (hn:n < t.nodes.length):VP V Ue [SG t x f,.i .i64 n] Q↔Q (.b (Jk t x f n)):=by
 refine Ae ?_
 rw [Ab C.c_z106.1 C.c_z106.2]
 have hh:=hx.has ht.n64
 unfold Jk
 rw [Int.toNat_natCast]
 cases c:decide ((t.at n).kind=2) with
 | false =>
  have c':=of_decide_eq_false c
  simp only [PG,MN,go_sem,↓reduceIte,A5 hn,c,Je hn,c']
 | true =>
  have c':=of_decide_eq_true c
  cases c2:B2 x (GQ x f n) with
  | false=>simp only [PG,MN,go_sem,↓reduceIte,A5 hn,c,Je hn,c',BO C,hh,c2,Bool.false_and]
  | true =>
   obtain ⟨m,hm1,hm⟩:=A9 (hx _ (A7.1 c2))
   rw [hm1] at c2 ⊢
   cases c3:decide ((t.at m).kind=3)<;>simp only [PG,MN,go_sem,↓reduceIte,A5 hn,c,Je hn,c',BO C,hh,c2,hm1,A5 hm,c3,Ll,Int.toNat_natCast,Bool.true_and,Bool.false_and]
set_option maxHeartbeats 4000000 in
theorem A0W (t:A4) (ht:Aa t) (x f:List Int) (hx:Dh t x) {w:Nat} (hw:w < t.nodes.length):VP V Uh [SG t x f,.i .i64 w] Q↔Q (vW (Kd t x w)):=by
 refine Ae ?_
 rw [Ab C.c_z114.1 C.c_z114.2]
 have h64:=ht.n64
 have hll:=De (CD x)
 obtain ⟨s0,hs0,hb0⟩:∃ s0,s0=(if E7 (t.at w)=true then 0#64 ||| C9 (w:Int) else 0#64)∧∀ j,j < 64→s0.getLsbD j=(decide (j=w) && E7 (t.at w)):=by
  refine ⟨_,rfl,fun j hj=>?_⟩
  by_cases c:E7 (t.at w)=true
  ·have e:decide ((j:Int)=(w:Int)∧j < 64)=decide (j=w):=decide_eq_decide.2 ⟨fun h=>by omega,fun h=>⟨by omega,hj⟩⟩
   rw [if_pos c,BitVec.getLsbD_or,Cm,e,c];simp
  ·rw [if_neg c,Bool.eq_false_iff.2 c];simp
 let p:Int→Bool:=fun n=>decide ((t.at n.toNat).kind=4) && E7 (t.at n.toNat) && Ao t n w
 have hfin:D1 p s0 (Ax (CD x))=Kd t x w:=by
  apply BL
  intro j hj
  rw [N9 p j hj,hb0 j hj,Kd,AF,A4k,decide_eq_true hj,Bool.and_true]
  have e1:B2 (Ax (CD x)) (j:Int)=B2 x (j:Int):=by
   rw [Bool.eq_iff_iff,A7,A7];exact hx.list h64 _
  have e2:(decide (j=w) && E7 (t.at w))=(decide ((j:Int)=(w:Int)) && E7 (t.at j)):=by
   by_cases c:j=w
   ·subst c;simp
   ·have c':¬ (j:Int)=(w:Int):=by omega
    simp [c,c']
  rw [e1,e2]
  simp only [p,Int.toNat_natCast,Bool.and_assoc]
 cases c0:E7 (t.at w)<;>simp only [c0,Bool.false_eq_true,if_true,if_false] at hs0<;>(
 simp only [YZ,Gt,go_sem,↓reduceIte,A5 hw,QW C,CS C,DE C,c0,← hs0]
 refine Au (by decide) (Ax (CD x)).length (by omega) (I:=fun k F h=>A3.tmp F 0=SG t x f∧A3.tmp F 1 = .i .i64 w∧A3.tmp F 24=lI (Ax (CD x))∧h=[]∧A3.tmp F 5=vW (D1 p s0 ((Ax (CD x)).take k))) ?_ ?_ 0 _ _ (by omega) ?_ ?_ ?_
 ·rintro k F h hk p26 p25 ⟨p0,p1,p24,rfl,p5⟩
  obtain ⟨m,hm1,hm⟩:=A9 (hx _ ((hx.list h64 _).1 (Aj (d:=0) hk)))
  have hT:D1 p s0 ((Ax (CD x)).take (k+1))=if p m=true then D1 p s0 ((Ax (CD x)).take k) ||| C9 m else D1 p s0 ((Ax (CD x)).take k):=by rw [Jf hk,hm1]
  have hp:p m=(decide ((t.at m).kind=4) && E7 (t.at m) && Ao t m w):=by simp only [p,Int.toNat_natCast]
  have hbar:=fun (Q:VV→Prop)=>QS C t x f hm (g:=Qq) (p:=E7 (t.at m)) (fun Q=>QW C (t.at m)) (Q:=Q)
  rw [hT,hp]
  cases c1:(decide ((t.at m).kind=4) && E7 (t.at m)) with
  | false=>simp only [Gt,go_sem,↓reduceIte,p26,p25,p0,p1,p24,p5,Av hk,hk,hm1,hbar,c1,A0,Bool.false_and,Bool.false_eq_true]
  | true =>
   have hpo:=A7N (p:=fun a b=>Ao t a b) h64 hm hw
   rw [Jj hm] at hpo
   have hg:=GF (n:=t.nodes.length) (p:=fun a b=>Ao t a b) hm
   cases c2:Ao t m w with
   | false =>
    rw [c2] at hpo
    simp only [Gt,go_sem,↓reduceIte,p26,p25,p0,p1,p24,p5,Av hk,hk,hm1,hbar,c1,A0,hg,BO C,hpo,Bool.and_false,Bool.false_eq_true]
   | true =>
    rw [c2] at hpo
    simp only [Gt,go_sem,↓reduceIte,p26,p25,p0,p1,p24,p5,Av hk,hk,hm1,hbar,c1,A0,hg,BO C,hpo,CS C,Bool.and_self]
 ·rintro F h ⟨p0,p1,p24,rfl,p5⟩
  simp only [Gt,go_sem,↓reduceIte,p0,p1,p24,p5,List.take_length,hfin]
 ·simp only [Gt,go_sem,↓reduceIte]
 ·simp only [Gt,go_sem,↓reduceIte]
 ·simp only [Gt,go_sem,↓reduceIte]
  rfl)
set_option maxHeartbeats 4000000 in
theorem Yd (t:A4) (ht:Aa t) (x f:List Int) (hx:Dh t x) {r:Nat} (hr:r < t.nodes.length):VP V Qw [SG t x f,.i .i64 r] Q↔Q (vW (BC (Eh t x r))):=by
 refine Ae ?_
 rw [Ab C.c_z68.1 C.c_z68.2]
 have h64:=ht.n64
 let X:=CD x &&& BC fun b=>decide (b < t.nodes.length) && Ao t r b
 have hX:X=CD x &&& BC fun b=>decide (b < t.nodes.length) && Ao t r b:=rfl
 have hll:=De X
 have hg:=GF (n:=t.nodes.length) (p:=fun a b=>Ao t a b) hr
 have hXm:∀ y:Int,y∈Ax X↔y∈x∧Ao t r y=true:=by
  intro y
  rw [Dg]
  constructor
  ·intro h
   obtain ⟨h1,h2⟩:=G9 h
   obtain ⟨m,rfl⟩:=Int.eq_ofNat_of_zero_le h1
   rw [AH,hX,BitVec.getLsbD_and,AF,Bool.and_eq_true,Bool.and_eq_true,Bool.and_eq_true] at h
   exact ⟨by rw [← A7,← hx.has h64,AH];exact h.1,h.2.1.2⟩
  ·rintro ⟨h1,h2⟩
   obtain ⟨m,rfl,hm⟩:=A9 (hx _ h1)
   rw [AH,hX,BitVec.getLsbD_and,AF,h2,← AH,hx.has h64,A7.2 h1,decide_eq_true hm,decide_eq_true (show m < 64 by omega)];rfl
 obtain ⟨s0,hs0,hb0⟩:∃ s0,s0=(if HP (t.at r)=true then 0#64 ||| C9 (r:Int) else 0#64)∧∀ j,j < 64→s0.getLsbD j=(decide (j=r) && HP (t.at r)):=by
  refine ⟨_,rfl,fun j hj=>?_⟩
  by_cases c:HP (t.at r)=true
  ·have e:decide ((j:Int)=(r:Int)∧j < 64)=decide (j=r):=decide_eq_decide.2 ⟨fun h=>by omega,fun h=>⟨by omega,hj⟩⟩
   rw [if_pos c,BitVec.getLsbD_or,Cm,e,c];simp
  ·rw [if_neg c,Bool.eq_false_iff.2 c];simp
 let p:Int→Bool:=fun n=>decide ((t.at n.toNat).kind=4) && HP (t.at n.toNat)
 have hfin:D1 p s0 (Ax X)=BC (Eh t x r):=by
  apply BL
  intro j hj
  rw [N9 p j hj,hb0 j hj,AF,Eh,decide_eq_true hj,Bool.and_true]
  have e1:B2 (Ax X) (j:Int)=(B2 x (j:Int) && Ao t r j):=by
   rw [Bool.eq_iff_iff,A7,hXm,Bool.and_eq_true,A7]
  have e2:(decide (j=r) && HP (t.at r))=(decide ((j:Int)=(r:Int)) && HP (t.at j)):=by
   by_cases c:j=r
   ·subst c;simp
   ·have c':¬ (j:Int)=(r:Int):=by omega
    simp [c,c']
  rw [e1,e2]
  simp only [p,Int.toNat_natCast]
  cases B2 x (j:Int)<;>cases Ao t r j<;>simp
 cases c0:HP (t.at r)<;>simp only [c0,Bool.false_eq_true,if_true,if_false] at hs0<;>(
 simp only [A68,KZ,go_sem,↓reduceIte,A5 hr,QV C,CS C,DE C,c0,hg,← hs0,← hX]
 refine Au (by decide) (Ax X).length (by omega) (I:=fun k F h=>A3.tmp F 0=SG t x f∧A3.tmp F 32=lI (Ax X)∧h=[]∧A3.tmp F 5=vW (D1 p s0 ((Ax X).take k))) ?_ ?_ 0 _ _ (by omega) ?_ ?_ ?_
 ·rintro k F h hk p34 p33 ⟨p0,p32,rfl,p5⟩
  obtain ⟨m,hm1,hm⟩:=A9 (hx _ ((hXm _).1 (Aj (d:=0) hk)).1)
  have hT:D1 p s0 ((Ax X).take (k+1))=if p m=true then D1 p s0 ((Ax X).take k) ||| C9 m else D1 p s0 ((Ax X).take k):=by rw [Jf hk,hm1]
  have hp:p m=(decide ((t.at m).kind=4) && HP (t.at m)):=by simp only [p,Int.toNat_natCast]
  have hbar:=fun (Q:VV→Prop)=>QS C t x f hm (g:=Ql) (p:=HP (t.at m)) (fun Q=>QV C (t.at m)) (Q:=Q)
  rw [hT,hp]
  cases c1:(decide ((t.at m).kind=4) && HP (t.at m)) with
  | false=>simp only [KZ,go_sem,↓reduceIte,p34,p33,p0,p32,p5,Av hk,hk,hm1,hbar,c1,A0,Bool.false_eq_true]
  | true=>simp only [KZ,go_sem,↓reduceIte,p34,p33,p0,p32,p5,Av hk,hk,hm1,hbar,c1,A0,CS C]
 ·rintro F h ⟨p0,p32,rfl,p5⟩
  simp only [KZ,go_sem,↓reduceIte,p0,p32,p5,List.take_length,hfin]
 ·simp only [KZ,go_sem,↓reduceIte]
 ·simp only [KZ,go_sem,↓reduceIte]
 ·simp only [KZ,go_sem,↓reduceIte]
  rfl)
theorem AaC {t:A4} (ht:Aa t) {x f:List Int} (hF:CF t x f) {w0:Int} (hw0:w0∈x) {i:Nat} (hoff:∀ j,j < i→Hp t (Dx t x f j w0)=false):Dh t (JF t x f w0 i):=by
 intro v hv
 obtain ⟨j,hj,rfl⟩:=Pc.1 hv
 rcases Lm ht hF hw0 j (fun k hk=>hoff k (by omega)) with e | e
 ·have:=hoff j hj
  rw [e] at this;cases this
 ·exact hF.node _ e
set_option maxHeartbeats 4000000 in
theorem VE (t:A4) (ht:Aa t) (x f:List Int) (hF:CF t x f) {w0:Int} (hw0:w0∈x):VP V Qv [SG t x f,.i .i64 w0] Q↔Q (vW (AI t x f w0)):=by
 refine Ae ?_
 rw [Ab C.c_z67.1 C.c_z67.2]
 have h64:=ht.n64
 simp only [A67,Jy,go_sem,↓reduceIte]
 unfold VL
 rw [A0]
 refine AU (M:=Nat) (I:=fun i F h=>h=[]∧A3.tmp F 0=SG t x f∧A3.tmp F 1 = .i .i64 (Dx t x f i w0)∧A3.tmp F 5=vW (PR t x f w0 i)∧A3.tmp F 6=vW (CD (JF t x f w0 i))∧(∀ j,j < i→Hp t (Dx t x f j w0)=false)∧(JF t x f w0 i).Nodup) (μ:=fun i=>x.length+1 - i) ?_ 0 _ _ ⟨rfl,?_,?_,?_,?_,by omega,by simp [JF]⟩
 ·rintro i F h ⟨rfl,p0,p1,p5,p6,hoff,hnd⟩
  have hil:i≤x.length:=by
   have h1:(JF t x f w0 i).length=i:=by simp [JF]
   rw [← h1]
   refine H9 _ _ hnd fun v hv=>?_
   obtain ⟨j,hj,rfl⟩:=Pc.1 hv
   rcases Lm ht hF hw0 j (fun k hk=>hoff k (by omega)) with e | e
   ·have:=hoff j hj
    rw [e] at this;cases this
   ·exact e
  have hend:=AaB ht hF hw0 hoff hnd
  rcases Lm ht hF hw0 i hoff with e | e
  ·have:=hend (.inl (by rw [e];rfl))
   rw [e] at p1
   simp only [PV,Jy,go_sem,↓reduceIte,p0,p1,p5,p6,A0,this]
  ·obtain ⟨m,hm1,hm⟩:=A9 (hF.node _ e)
   rw [hm1] at p1
   cases c1:decide (0≤(t.at m).thread) with
   | false =>
    have ho:Hp t (Dx t x f i w0)=true:=by
     have:=of_decide_eq_false c1
     rw [hm1,Hp,Int.toNat_natCast,decide_eq_true (show (t.at m).thread < 0 by omega),Bool.or_true]
    have:=hend (.inl ho)
    simp only [PV,Jy,go_sem,↓reduceIte,p0,p1,p5,p6,A0,Hu C t x f hm,c1,this]
   | true =>
    have ho:Hp t (Dx t x f i w0)=false:=by
     have:=of_decide_eq_true c1
     rw [hm1,Hp,Int.toNat_natCast,decide_eq_false (show ¬ (t.at m).thread < 0 by omega),decide_eq_false (show ¬ (m:Int) < 0 by omega)];rfl
    have hway:=AaC C ht hF hw0 hoff
    have hh:=hway.has h64 (m:Int)
    cases c2:B2 (JF t x f w0 i) (m:Int) with
    | true =>
     rw [c2] at hh
     have:=hend (.inr (by rw [hm1];exact A7.1 c2))
     simp only [PV,Jy,go_sem,↓reduceIte,p0,p1,p5,p6,A0,Hu C t x f hm,c1,BO C,hh,this]
    | false =>
     rw [c2] at hh
     simp only [PV,Jy,go_sem,↓reduceIte,p0,p1,p5,p6,A0,Hu C t x f hm,c1,BO C,hh,A0W C t ht x f hF.node hm,CS C,VD C t ht x f hF.node hm]
     refine ⟨i+1,by omega,by rw [Dx,hm1],by rw [A06,hm1],by rw [SM,hm1,CD,CD,List.foldl_append];rfl,fun j hj=>?_,?_⟩
     ·rcases Nat.lt_or_ge j i with h1 | h1
      ·exact hoff j h1
      ·rw [show j=i by omega];exact ho
     ·rw [SM,hm1]
      have:(m:Int)∉JF t x f w0 i:=fun h=>by rw [A7.2 h] at c2;cases c2
      exact List.nodup_append.2 ⟨hnd,by simp,fun a ha b hb e=>this (by simp at hb;rw [← hb,← e];exact ha)⟩
 ·simp only [Jy,go_sem,↓reduceIte]
 ·simp only [Jy,go_sem,↓reduceIte]
  rfl
 ·simp only [Jy,go_sem,↓reduceIte]
  rfl
 ·simp only [Jy,go_sem,↓reduceIte]
  rfl
end
theorem AkD:min 5 (4+3)+(1+(4+3 - 6))=7:=rfl
theorem Va (t:A4) (x:List Int) (k:Nat):B8 t x k=(!(decide (x.getD k 0 < 0) || decide ((t.nodes.length:Int)≤x.getD k 0) || (!decide (k=0) && decide (x.getD k 0≤x.getD (k - 1) 0)))):=by
 unfold B8 BT El
 rw [Bool.eq_iff_iff]
 simp only [Bool.and_eq_true,Bool.or_eq_true,Bool.not_eq_true',Bool.or_eq_false_iff,decide_eq_true_eq,decide_eq_false_iff_not,Bool.and_eq_false_iff,Bool.not_eq_false']
 constructor
 ·rintro ⟨⟨a,b⟩,c⟩
  exact ⟨⟨by omega,by omega⟩,c.imp id (by omega)⟩
 ·rintro ⟨⟨a,b⟩,c⟩
  exact ⟨⟨by omega,by omega⟩,c.imp id (by omega)⟩
def onH (t:A4) (x f:List Int) (k:Nat):VH:=[some ⟨B3,1,0,false,(VZ t x f k).map eI⟩,some ⟨Nl,0,0,false,[[.i .i64 t.vals,lS t.locs,.ls (t.regs.map Js),.ls (t.nodes.map eN),vW (CD x),.sl 0 0 0 t.nodes.length,lW (AE t.nodes.length fun a b=>Ao t a b)]]⟩]
def A7A (t:A4) (x f:List Int):VH:=[some ⟨B3,1,0,false,(onL t x f).map eI⟩,some ⟨Nl,0,0,false,[[.i .i64 t.vals,lS t.locs,.ls (t.regs.map Js),.ls (t.nodes.map eN),vW (CD x),.sl 0 0 0 t.nodes.length,lW (AE t.nodes.length fun a b=>Ao t a b)]]⟩]
theorem Aad (t:A4) (x f:List Int):onH t x f x.length=A7A t x f:=by rw [onH,Aae];rfl
theorem A36 {t:A4} {x f:List Int} {k m:Nat} (h:m < t.nodes.length):(VZ t x f k)[m]? = some (GQ (x.take k) f (m:Int)):=by simp [VZ,h]
theorem QB (t:A4) (x f:List Int):(onL t x f).take t.nodes.length=onL t x f:=List.take_of_length_le (by rw [Pf];omega)
section
variable {V:Al} (C:AA V) {Q:VV→Prop}
include C
set_option maxHeartbeats 8000000 in
theorem A4C (t:A4) (ht:Aa t) (x f:List Int) (hF:CF t x f):VP V A2D [SG t x f,.f Qv [SG t x f] [],.f Qw [SG t x f] []] Q↔Q (lW (AE t.nodes.length (swB t x f))):=by
 refine Ae ?_
 rw [Ab C.c_z66.1 C.c_z66.2]
 have h64:=ht.n64
 have hx:=hF.node
 have hll:=De (CD x)
 have hLm:=fun y=>hx.list h64 y
 simp only [A66,ES,go_sem,↓reduceIte,A0R C _ h64,DE C]
 refine Au (by decide) (Ax (CD x)).length (by omega) (I:=fun k F h=>A3.tmp F 0=SG t x f∧A3.tmp F 1 = .f Qv [SG t x f] []∧A3.tmp F 2 = .f Qw [SG t x f] []∧A3.tmp F 7 = .sl 0 0 0 t.nodes.length∧A3.tmp F 24=lI (Ax (CD x))∧h=[some ⟨Bd,1,0,false,(AE t.nodes.length (NS t x f ((Ax (CD x)).take k))).map eW⟩]) ?_ ?_ 0 _ _ (by omega) ?_ ?_ ?_
 ·rintro k F h hk p26 p25 ⟨p0,p1,p2,p7,p24,rfl⟩
  have hkm:(Ax (CD x)).getD k 0∈x:=(hLm _).1 (Aj (d:=0) hk)
  obtain ⟨r,hr1,hr⟩:=A9 (hx _ hkm)
  have hrx:(r:Int)∈x:=by rw [← hr1];exact hkm
  have hnext:∀ a b,NS t x f ((Ax (CD x)).take (k+1)) a b=(NS t x f ((Ax (CD x)).take k) a b || (Ht t x f r && Bx (AI t x f (GQ x f r)) (a:Int) && Eh t x r b)):=fun a b=>by rw [Yb hk,hr1]
  have same:Ht t x f r=false→AE t.nodes.length (NS t x f ((Ax (CD x)).take k))=AE t.nodes.length (NS t x f ((Ax (CD x)).take (k+1))):=fun e=>AW fun a b _ _=>by rw [hnext,e];simp
  have hsaw:Ht t x f r=(decide ((t.at r).kind=2) && !decide ((t.at (GQ x f r).toNat).thread=(t.at r).thread)):=by rw [Ht,Int.toNat_natCast]
  by_cases ck:(t.at r).kind=2
  ·obtain ⟨o1,o2,o3⟩:=hF.read _ hrx (by rw [Int.toNat_natCast];exact ck)
   obtain ⟨w,hw1,hw⟩:=A9 (hx _ o1)
   rw [hw1] at o1
   have d0:decide ((w:Int) < 0)=false:=decide_eq_false (by omega)
   cases c2:decide ((t.at w).thread=(t.at r).thread) with
   | true =>
    have hs:=same (by rw [hsaw,hw1,Int.toNat_natCast,c2];simp)
    simp only [ES,go_sem,↓reduceIte,p26,p25,p0,p1,p2,p7,p24,Av hk,hk,hr1,Je hr,hw1,d0,A5 hw,A5 hr,c2,A0,hs]
   | false =>
    have hs:Ht t x f r=true:=by rw [hsaw,hw1,Int.toNat_natCast,c2,decide_eq_true ck];rfl
    have hh:=fun (Q:VV→Prop)=>VE C t ht x f hF o1 (Q:=Q)
    simp only [ES,go_sem,↓reduceIte,p26,p25,p0,p1,p2,p7,p24,Av hk,hk,hr1,Je hr,hw1,d0,A5 hw,A5 hr,c2,A0,hh,DE C]
    have hlh:=De (AI t x f w)
    have hends:=fun (Q:VV→Prop)=>Yd C t ht x f hx hr (Q:=Q)
    let M:=fun (j:Nat) (a b:Nat)=>NS t x f ((Ax (CD x)).take k) a b || (B2 ((Ax (AI t x f w)).take j) (a:Int) && Eh t x r b)
    refine Au (by decide) (Ax (AI t x f w)).length (by omega) (I:=fun j F h=>A3.tmp F 26 = .i .i64 k∧A3.tmp F 25 = .i .i64 (Ax (CD x)).length∧A3.tmp F 0=SG t x f∧A3.tmp F 1 = .f Qv [SG t x f] []∧A3.tmp F 2 = .f Qw [SG t x f] []∧A3.tmp F 7 = .sl 0 0 0 t.nodes.length∧A3.tmp F 24=lI (Ax (CD x))∧A3.tmp F 9 = .i .i64 r∧A3.tmp F 63=lI (Ax (AI t x f w))∧h=[some ⟨Bd,1,0,false,(AE t.nodes.length (M j)).map eW⟩]) ?_ ?_ 0 _ _ (by omega) ?_ ?_ ?_
    ·rintro j F h hj q65 q64 ⟨q26,q25,q0,q1,q2,q7,q24,q9,q63,rfl⟩
     have hmem:=(Dg (s:=AI t x f w)).1 (Aj (d:=0) hj)
     obtain ⟨a0,_⟩:=G9 hmem
     obtain ⟨a,ha1⟩:=Int.eq_ofNat_of_zero_le a0
     have ha:a < t.nodes.length:=PS ht hF o1 (by rw [ha1,AH] at hmem;exact hmem)
     have hset:=Sr ha (M j) (Eh t x r) fun b hb=>A3R hx hrx hb
     have hM:AE t.nodes.length (fun i b=>M j i b || (decide (i=a) && Eh t x r b))=AE t.nodes.length (M (j+1)):=AW fun i b _ _=>by
      simp only [M]
      rw [List.take_succ_eq_append_getElem hj]
      have e:B2 ((Ax (AI t x f w)).take j++[(Ax (AI t x f w))[j]]) (i:Int)=(B2 ((Ax (AI t x f w)).take j) (i:Int) || decide (i=a)):=by
       rw [List.getD_eq_getElem?_getD,List.getElem?_eq_getElem hj,Option.getD_some] at ha1
       rw [ha1,Bool.eq_iff_iff,A7,List.mem_append,Bool.or_eq_true,A7,decide_eq_true_eq,List.mem_singleton]
       exact ⟨fun h=>h.imp id fun h=>by omega,fun h=>h.imp id fun h=>by omega⟩
      rw [e]
      cases NS t x f ((Ax (CD x)).take k) i b<;>cases B2 ((Ax (AI t x f w)).take j) (i:Int)<;>cases decide (i=a)<;>cases Eh t x r b<;>rfl
     rw [hM] at hset
     simp only [ES,go_sem,↓reduceIte,q65,q64,q26,q25,q0,q1,q2,q7,q24,q9,q63,Av hj,hj,ha1,GF ha,hends,A0,hset,BB,ha]
    ·rintro F h ⟨q26,q25,q0,q1,q2,q7,q24,q9,q63,rfl⟩
     have hM:AE t.nodes.length (M (Ax (AI t x f w)).length)=AE t.nodes.length (NS t x f ((Ax (CD x)).take (k+1))):=AW fun a b _ _=>by
      simp only [M]
      rw [List.take_length,hnext,hs,hw1,Bool.true_and]
      have e:B2 (Ax (AI t x f w)) (a:Int)=Bx (AI t x f w) (a:Int):=by rw [Bool.eq_iff_iff,A7,Dg]
      rw [e]
     simp only [ES,go_sem,↓reduceIte,q26,q25,q0,q1,q2,q7,q24,hM]
    ·simp only [ES,go_sem,↓reduceIte]
    ·simp only [ES,go_sem,↓reduceIte]
    ·simp only [ES,go_sem,↓reduceIte,p26,p25,p0,p1,p2,p7,p24]
     have hM:AE t.nodes.length (M 0)=AE t.nodes.length (NS t x f ((Ax (CD x)).take k)):=AW fun a b _ _=>by simp only [M,List.take_zero,B2,List.any_nil,Bool.false_and,Bool.or_false]
     rw [hM]
  ·have o1:=hF.none _ hrx (by rw [Int.toNat_natCast];exact ck)
   have hs:=same (by rw [hsaw,decide_eq_false ck];rfl)
   simp only [ES,go_sem,↓reduceIte,p26,p25,p0,p1,p2,p7,p24,Av hk,hk,hr1,Je hr,o1,A0]
   rw [hs]
 ·rintro F h ⟨p0,p1,p2,p7,p24,rfl⟩
  have e:AE t.nodes.length (NS t x f (Ax (CD x)))=AE t.nodes.length (swB t x f):=AW fun a b _ _=>Aaq hLm a b
  simp only [ES,go_sem,↓reduceIte,p0,p1,p2,p7,p24,BB]
  rw [List.take_of_length_le (by rw [BB];omega),e]
 ·simp only [ES,go_sem,↓reduceIte]
 ·simp only [ES,go_sem,↓reduceIte]
 ·simp only [ES,go_sem,↓reduceIte]
  rw [← Ss];rfl
set_option maxHeartbeats 8000000 in
theorem A4B (t:A4) (ht:Aa t) (x f:List Int) (hl:x.length≤1000) (hlf:f.length≤1000):VP V A2z [vT t,lI x,lI f] Q↔Q (if BR t x f=true then .tu [SG t x f,.b true] else .tu [.np,.b false]):=by
 refine Ae ?_
 rw [Ab C.c_z62.1 C.c_z62.2]
 have h64:=ht.n64
 have hn1:0 < t.nodes.length:=by
  obtain ⟨s,h0,he,hs⟩:=ht.thr
  have h1:=ht.r1
  obtain ⟨_,n,hB⟩:=hs 0 (by omega)
  cases n with
  | zero=>exact absurd hB (by simp [HM])
  | succ n=>have:=hB.1.1;omega
 have hmay:=fun (Q:VV→Prop)=>S5 C t ht (Q:=Q)
 have hpo:=fun (Q:VV→Prop)=>A4H C t ht (Q:=Q)
 by_cases c1:x.length=f.length
 ·have c1':decide ((f.length:Int)=(x.length:Int))=true:=decide_eq_true (by omega)
  simp only [A1x,DH,go_sem,↓reduceIte,hmay,c1',Mz C x (by omega),Nh C _ h64 hn1,hpo,AkC,AkD]
  refine Au (by decide) x.length (by omega) (I:=fun k F h=>A3.tmp F 1=lI x∧A3.tmp F 2=lI f∧A3.tmp F 3 = .fp (eT t) 0∧A3.tmp F 8 = .p 1 0 0 0∧A3.tmp F 35=lI x∧h=onH t x f k∧∀ j,j < k→B8 t x j=true) ?_ ?_ 0 _ _ (by omega) ?_ ?_ ?_
  ·rintro k F h hk p37 p36 ⟨p1,p2,p3,p8,p35,rfl,pr⟩
   have hkf:k < f.length:=by omega
   have bad:B8 t x k=false→BR t x f=false:=fun h=>by rw [BR,AR hk h];simp
   have hnr:=Va t x k
   cases d1:decide (x.getD k 0 < 0) with
   | true =>
    have e:=bad (by rw [hnr,d1];rfl)
    simp only [DH,go_sem,↓reduceIte,p37,p36,p1,p2,p3,p8,p35,Av hk,hk,d1,A0,e]
   | false =>
   cases d2:decide ((t.nodes.length:Int)≤x.getD k 0) with
   | true =>
    have e:=bad (by rw [hnr,d1,d2];rfl)
    simp only [DH,go_sem,↓reduceIte,p37,p36,p1,p2,p3,p8,p35,Av hk,hk,d1,d2,A0,e]
   | false =>
   have d1':=of_decide_eq_false d1
   have d2':=of_decide_eq_false d2
   obtain ⟨m,hm1⟩:=Int.eq_ofNat_of_zero_le (show 0≤x.getD k 0 by omega)
   have hm:m < t.nodes.length:=by omega
   have d2n:decide (t.nodes.length≤m)=false:=decide_eq_false (by omega)
   have hset:(∀ i,i≤k→El x i=true)→_:=Aaf (t:=t) (f:=f) hk hm1 hm
   have hris0:∀ i,i < k→El x i=true:=fun i hi=>by have:=pr i hi;simp only [B8,Bool.and_eq_true] at this;exact this.2
   have hgo:B8 t x k=true→∀ j,j < k+1→B8 t x j=true:=fun h j hj=>by
    rcases Nat.lt_or_ge j k with c | c
    ·exact pr j c
    ·rw [show j=k by omega];exact h
   by_cases z:k=0
   ·subst z
    have hok:B8 t x 0=true:=by rw [hnr,d1,d2];rfl
    have hs:=hset fun i hi=>by rw [Nat.le_zero.1 hi];rfl
    rw [hm1] at d1 d2
    simp only [DH,go_sem,↓reduceIte,p37,p36,p1,p2,p3,p8,p35,Av hk,Av hkf,hk,hkf,d1,d2n,A0,hm1,onH,hm,A37,dz0,hs,A36 hm]
    exact hgo hok
   ·have z0:decide ((0:Int) < (k:Int))=true:=decide_eq_true (by omega)
    have hk1:k - 1 < x.length:=by omega
    have zw:=Jo (show 0 < k by omega) (by omega)
    cases d3:decide (x.getD k 0≤x.getD (k - 1) 0) with
    | true =>
     have e:=bad (by rw [hnr,d1,d2,d3,decide_eq_false z];rfl)
     rw [hm1] at d1 d2 d3
     simp only [DH,go_sem,↓reduceIte,p37,p36,p1,p2,p3,p8,p35,Av hk,Av hk1,hk,d1,d2n,d3,z0,zw,A0,hm1,e]
    | false =>
     have hok:B8 t x k=true:=by rw [hnr,d1,d2,d3];simp
     have hs:=hset fun i hi=>by
      rcases Nat.lt_or_ge i k with c | c
      ·exact hris0 i c
      ·rw [show i=k by omega];simp only [B8,Bool.and_eq_true] at hok;exact hok.2
     rw [hm1] at d1 d2 d3
     simp only [DH,go_sem,↓reduceIte,p37,p36,p1,p2,p3,p8,p35,Av hk,Av hk1,Av hkf,hk,hkf,d1,d2n,d3,z0,zw,A0,hm1,onH,hm,A37,hs,A36 hm]
     exact hgo hok
  ·rintro F h ⟨p1,p2,p3,p8,p35,rfl,pr⟩
   rw [Aad]
   have hnode:Dh t x:=by
    intro n hn
    obtain ⟨i,hi,rfl⟩:=List.getElem_of_mem hn
    have:=pr i hi
    simp only [B8,Bool.and_eq_true] at this
    have h2:=this.1
    rwa [List.getD_eq_getElem?_getD,List.getElem?_eq_getElem hi] at h2
   simp only [DH,go_sem,↓reduceIte,p1,p2,p3,p8,p35]
   refine Au (by decide) x.length (by omega) (I:=fun k F h=>A3.tmp F 8 = .p 1 0 0 0∧A3.tmp F 75=lI x∧h=A7A t x f∧∀ j,j < k→Jk t x f (x.getD j 0)=true) ?_ ?_ 0 _ _ (by omega) ?_ ?_ ?_
   ·rintro k F h hk p77 p76 ⟨p8,p75,rfl,qr⟩
    have bad:Jk t x f (x.getD k 0)=false→BR t x f=false:=fun h=>by rw [X1,AR (p:=fun i=>Jk t x f (x.getD i 0)) hk h,Bool.and_false]
    obtain ⟨m,hm1,hm⟩:=A9 (hnode _ (Aj (d:=0) hk))
    have hr:=fun (Q:VV→Prop)=>VI C t ht x f hnode hm (Q:=Q)
    cases c2:Jk t x f m with
    | true =>
     simp only [DH,go_sem,↓reduceIte,p77,p76,p8,p75,Av hk,hk,hm1,A7A,hr,c2,A0,Pf,QB]
     intro j hj
     rcases Nat.lt_or_ge j k with c | c
     ·exact qr j c
     ·rw [show j=k by omega,hm1];exact c2
    | false =>
     have e:=bad (by rw [hm1];exact c2)
     simp only [DH,go_sem,↓reduceIte,p77,p76,p8,p75,Av hk,hk,hm1,A7A,hr,c2,A0,Pf,QB,e]
   ·rintro F h ⟨p8,p75,rfl,qr⟩
    have e:BR t x f=true:=by rw [X1,decide_eq_true c1,AO pr,AO qr];rfl
    simp only [DH,go_sem,↓reduceIte,p8,p75,A7A,e,Pf,QB]
   ·simp only [DH,go_sem,↓reduceIte]
   ·simp only [DH,go_sem,↓reduceIte]
   ·simp only [DH,go_sem,↓reduceIte,p8]
    intro j hj;omega
  ·simp only [DH,go_sem,↓reduceIte]
  ·simp only [DH,go_sem,↓reduceIte]
  ·simp only [DH,go_sem,↓reduceIte,onH,A7B]
   intro j hj;omega
 ·have c1':decide ((f.length:Int)=(x.length:Int))=false:=decide_eq_false (by omega)
  have e:BR t x f=false:=by rw [BR,decide_eq_false c1];rfl
  simp only [A1x,DH,go_sem,↓reduceIte,hmay,c1',e]
theorem SD (t:A4) (ht:Aa t) (x f:List Int) (hl:x.length≤1000) (hlf:f.length≤1000):VP V Xz [vT t,lI x,lI f] Q↔Q (lW (hbF t x f)):=by
 refine Ae ?_
 rw [Ab C.c_z23.1 C.c_z23.2]
 have h64:=ht.n64
 have hof:=fun (Q:VV→Prop)=>A4B C t ht x f hl hlf (Q:=Q)
 cases c:BR t x f with
 | false =>
  rw [hbF,c]
  simp only [A1q,Xj,go_sem,↓reduceIte,hof,c,Bool.false_eq_true]
 | true =>
  have hF:=Cy c
  rw [hbF,c]
  have hsw:=fun (Q:VV→Prop)=>A4C C t ht x f hF (Q:=Q)
  simp only [A1q,Xj,go_sem,↓reduceIte,hof,c,hsw,A0Q C,A7P C,Vj C]
  rw [A0b h64,A7D h64,Lk]
  congr 2
  apply AW
  intro a b _ _
  rw [hF.node.has h64,hF.node.has h64]
  rfl
set_option maxHeartbeats 8000000 in
theorem Ji (t:A4) (ht:Aa t) (x f:List Int) (hl:x.length≤1000) (hlf:f.length≤1000):VP V A2J [vT t,lI x,lI f] Q↔Q (.b (BR t x f)):=by
 refine Ae ?_
 rw [Ab C.c_z75.1 C.c_z75.2]
 have h64:=ht.n64
 by_cases c1:x.length=f.length
 ·have c1':decide ((x.length:Int)=(f.length:Int))=true:=decide_eq_true (by omega)
  simp only [A1C,CZ,go_sem,↓reduceIte,c1']
  refine A8 (by decide) x.length (by omega) (I:=fun k F h=>A3.tmp F 1=lI x∧A3.tmp F 2=lI f∧A3.tmp F 3 = .fp (eT t) 0∧h=[]∧∀ j,j < k→B8 t x j=true) ?_ ?_ ?_ 0 _ _ (Nat.zero_le _) ?_ ?_
  ·rintro k F h hk p7 ⟨p1,p2,p3,rfl,pr⟩
   simp only [CZ,go_sem,↓reduceIte,p7,p1,p2,p3]
   exact pr
  ·rintro k F h hk p7 ⟨p1,p2,p3,rfl,pr⟩
   have bad:B8 t x k=false→BR t x f=false:=fun h=>by rw [BR,AR hk h];simp
   have hgo:B8 t x k=true→∀ j,j < k+1→B8 t x j=true:=fun h j hj=>by
    rcases Nat.lt_or_ge j k with c | c
    ·exact pr j c
    ·rw [show j=k by omega];exact h
   cases d1:BT t (x.getD k 0) with
   | false =>
    have e:=bad (by rw [B8,d1];rfl)
    simp only [CZ,go_sem,↓reduceIte,p7,p1,p2,p3,Av hk,hk,Ap C,d1,A0,e]
   | true =>
    by_cases z:k=0
    ·subst z
     have hok:B8 t x 0=true:=by rw [B8,d1];rfl
     simp only [CZ,go_sem,↓reduceIte,p7,p1,p2,p3,Av hk,hk,Ap C,d1,A0,dz0]
     exact hgo hok
    ·have z0:decide ((0:Int) < (k:Int))=true:=decide_eq_true (by omega)
     have hk1:k - 1 < x.length:=by omega
     have zw:=Jo (show 0 < k by omega) (by omega)
     cases d3:decide (x.getD k 0≤x.getD (k - 1) 0) with
     | true =>
      have d3':decide (x.getD (k - 1) 0 < x.getD k 0)=false:=by have:=of_decide_eq_true d3;exact decide_eq_false (by omega)
      have e:=bad (by rw [B8,d1,El,d3',decide_eq_false z];rfl)
      simp only [CZ,go_sem,↓reduceIte,p7,p1,p2,p3,Av hk,Av hk1,hk,Ap C,d1,A0,z0,zw,d3,e]
     | false =>
      have d3':decide (x.getD (k - 1) 0 < x.getD k 0)=true:=by have:=of_decide_eq_false d3;exact decide_eq_true (by omega)
      have hok:B8 t x k=true:=by rw [B8,d1,El,d3'];simp
      simp only [CZ,go_sem,↓reduceIte,p7,p1,p2,p3,Av hk,Av hk1,hk,Ap C,d1,A0,z0,zw,d3]
      exact hgo hok
  ·rintro F h ⟨p1,p2,p3,rfl,pr⟩
   have hnode:Dh t x:=by
    intro n hn
    obtain ⟨i,hi,rfl⟩:=List.getElem_of_mem hn
    have:=pr i hi
    simp only [B8,Bool.and_eq_true] at this
    have h2:=this.1
    rwa [List.getD_eq_getElem?_getD,List.getElem?_eq_getElem hi] at h2
   simp only [CZ,go_sem,↓reduceIte,p1,p2,p3]
   refine A8 (by decide) x.length (by omega) (I:=fun k F h=>A3.tmp F 1=lI x∧A3.tmp F 2=lI f∧A3.tmp F 3 = .fp (eT t) 0∧h=[]∧∀ j,j < k→Ds t x f j=true) ?_ ?_ ?_ 0 _ _ (Nat.zero_le _) ?_ ?_
   ·rintro k F h hk p8 ⟨p1,p2,p3,rfl,qr⟩
    simp only [CZ,go_sem,↓reduceIte,p8,p1,p2,p3]
    exact qr
   ·rintro k F h hk p8 ⟨p1,p2,p3,rfl,qr⟩
    have hkf:k < f.length:=by omega
    have bad:Ds t x f k=false→BR t x f=false:=fun h=>by rw [BR,AR hk h];simp
    have hgo:Ds t x f k=true→∀ j,j < k+1→Ds t x f j=true:=fun h j hj=>by
     rcases Nat.lt_or_ge j k with c | c
     ·exact qr j c
     ·rw [show j=k by omega];exact h
    obtain ⟨m,hm1,hm⟩:=A9 (hnode _ (Aj (d:=0) hk))
    have hfo:Ds t x f k=if (t.at m).kind=2 then B2 x (f.getD k 0) && Ll t (f.getD k 0) (t.at m).loc else decide (f.getD k 0 = -1):=by rw [Ds,hm1,Int.toNat_natCast]
    cases c2:decide ((t.at m).kind=2) with
    | false =>
     rw [if_neg (of_decide_eq_false c2)] at hfo
     cases c3:decide (f.getD k 0 = -1) with
     | true =>
      simp only [CZ,go_sem,↓reduceIte,p8,p1,p2,p3,Av hk,Av hkf,hk,hkf,hm1,A5 hm,c2,c3,A0]
      exact hgo (by rw [hfo,c3])
     | false =>
      have e:=bad (by rw [hfo,c3])
      simp only [CZ,go_sem,↓reduceIte,p8,p1,p2,p3,Av hk,Av hkf,hk,hkf,hm1,A5 hm,c2,c3,A0,e]
    | true =>
     rw [if_pos (of_decide_eq_true c2)] at hfo
     have hwl:=C3 x (f.getD k 0)
     cases c3:B2 x (f.getD k 0) with
     | false =>
      have e:=bad (by rw [hfo,c3];rfl)
      rw [c3] at hwl
      simp only [CZ,go_sem,↓reduceIte,p8,p1,p2,p3,Av hk,Av hkf,hk,hkf,hm1,A5 hm,c2,A0,e,Ac C x (by omega),hwl]
     | true =>
      rw [c3] at hwl
      obtain ⟨w,hw1,hw⟩:=A9 (hnode _ (A7.1 c3))
      have hiw:Ll t (f.getD k 0) (t.at m).loc=(decide ((t.at w).kind=3) && decide ((t.at w).loc=(t.at m).loc)):=by rw [Ll,hw1,Int.toNat_natCast]
      rw [c3,Bool.true_and,hiw] at hfo
      rw [hw1] at hwl
      cases c4:decide ((t.at w).kind=3) with
      | false =>
       have e:=bad (by rw [hfo,c4];rfl)
       simp only [CZ,go_sem,↓reduceIte,p8,p1,p2,p3,Av hk,Av hkf,hk,hkf,hm1,hw1,A5 hm,A5 hw,c2,c4,A0,e,Ac C x (by omega),hwl]
      | true =>
       cases c5:decide ((t.at w).loc=(t.at m).loc) with
       | false =>
        have e:=bad (by rw [hfo,c4,c5];rfl)
        simp only [CZ,go_sem,↓reduceIte,p8,p1,p2,p3,Av hk,Av hkf,hk,hkf,hm1,hw1,A5 hm,A5 hw,c2,c4,c5,A0,e,Ac C x (by omega),hwl]
       | true =>
        simp only [CZ,go_sem,↓reduceIte,p8,p1,p2,p3,Av hk,Av hkf,hk,hkf,hm1,hw1,A5 hm,A5 hw,c2,c4,c5,A0,Ac C x (by omega),hwl]
        exact hgo (by rw [hfo,c4,c5];rfl)
   ·rintro F h ⟨p1,p2,p3,rfl,qr⟩
    have e:BR t x f=true:=by rw [BR,decide_eq_true c1,AO pr,AO qr];rfl
    simp only [CZ,go_sem,↓reduceIte,p1,p2,p3,e]
   ·simp only [CZ,go_sem,↓reduceIte]
   ·simp only [CZ,go_sem,↓reduceIte,p1,p2,p3]
    intro j hj;omega
  ·simp only [CZ,go_sem,↓reduceIte]
  ·simp only [CZ,go_sem,↓reduceIte]
   intro j hj;omega
 ·have c1':decide ((x.length:Int)=(f.length:Int))=false:=decide_eq_false (by omega)
  have e:BR t x f=false:=by rw [BR,decide_eq_false c1];rfl
  simp only [A1C,CZ,go_sem,↓reduceIte,c1',e]
omit C in
theorem A07 (t:A4) (x f:List Int) (k:Nat) (w:Int) (h:Hp t w=false):Jv t x f (k+1) w=Kd t x w ||| Jv t x f k (SZ t x f w):=by rw [Jv,h];rfl
omit C in
theorem MJ (t:A4) (x f:List Int) (k:Nat) (w:Int) (h:Hp t w=true):Jv t x f k w=0#64:=by
 cases k with
 | zero=>rfl
 | succ k=>rw [Jv,h];rfl
omit C in
theorem A7H {t:A4} (ht:Aa t) {x:List Int} (hx:Dh t x) {w:Nat} (hw:w < t.nodes.length) (hth:0≤(t.at w).thread) (s:BitVec 64) :
  D1 (fun n=>decide ((t.at n.toNat).kind=4) && E7 (t.at n.toNat) && decide ((t.at n.toNat).thread=(t.at w).thread) && Ao t n w) (if E7 (t.at w)=true then s ||| C9 w else s) x=s ||| Kd t x w:=by
 apply BL
 intro j hj
 rw [N9 _ j hj,BitVec.getLsbD_or,Kd,AF,A4k,decide_eq_true hj,Bool.and_true]
 have e0:(if E7 (t.at w)=true then s ||| C9 (w:Int) else s).getLsbD j=(s.getLsbD j || (decide ((j:Int)=(w:Int)) && E7 (t.at j))):=by
  by_cases c:E7 (t.at w)=true
  ·rw [if_pos c,BitVec.getLsbD_or,Cm]
   by_cases e:j=w
   ·subst e;simp [c,hj]
   ·have:¬ (j:Int)=(w:Int):=by omega
    simp [this]
  ·rw [if_neg c]
   by_cases e:j=w
   ·subst e;simp [c]
   ·have:¬ (j:Int)=(w:Int):=by omega
    simp [this]
 have e1:(B2 x (j:Int) && (decide ((t.at j).kind=4) && E7 (t.at j) && decide ((t.at j).thread=(t.at w).thread) && Ao t j w))=(B2 x (j:Int) && decide ((t.at j).kind=4) && E7 (t.at j) && Ao t j w):=by
  cases c1:B2 x (j:Int) with
  | false=>rfl
  | true =>
   obtain ⟨m,hm1,hm⟩:=A9 (hx _ (A7.1 c1))
   have hmj:m=j:=by omega
   subst hmj
   cases c2:decide ((t.at m).kind=4) with
   | false=>rfl
   | true =>
    cases c3:Ao t m w with
    | false=>simp
    | true =>
     have hl:t.locs.length≤m:=by
      rcases Nat.lt_or_ge m t.locs.length with h | h
      ·have:=(ht.init m h).kind;have:=of_decide_eq_true c2;omega
      ·exact h
     have hb:AQ t m w=true:=by
      simp only [Ao,Cl hm,Cl hw,Int.toNat_natCast,Bool.true_and] at c3
      rw [if_neg (by have:=(ht.good m hl hm).thr;omega)] at c3
      exact c3
     have:=YA ht hl (w+1) w (by omega) hw hb
     simp [this]
 simp only [Int.toNat_natCast]
 rw [e0,e1]
 cases s.getLsbD j<;>cases decide ((j:Int)=(w:Int))<;>cases E7 (t.at j)<;>simp
set_option maxHeartbeats 8000000 in
theorem Rq (t:A4) (ht:Aa t) (x f:List Int) (hl:x.length≤1000) (hlf:f.length≤1000) (hc:BR t x f=true) {w0:Nat} (hw0:(w0:Int)∈x) (hk0:(t.at w0).kind=3):VP V Ul [vT t,lI x,lI f,.i .i64 w0] Q↔Q (vW (AI t x f w0)):=by
 refine Ae ?_
 rw [Ab C.c_z119.1 C.c_z119.2]
 have h64:=ht.n64
 have hF:=Cy hc
 have hx:=hF.node
 obtain ⟨w0',hw1',hw0n⟩:=A9 (hx _ hw0)
 have:w0' = w0:=by omega
 subst this
 have hfr:=fun (Q:VV→Prop)=>Ji C t ht x f hl hlf (Q:=Q)
 have hwl:=C3 x (w0':Int)
 rw [A7.2 hw0] at hwl
 simp only [Z6,Cc,go_sem,↓reduceIte,hfr,hc,Ac C x (by omega),hwl,A5 hw0n,hk0]
 refine A8 (by decide) (x.length+1) (by omega) (I:=fun k F h=>A3.tmp F 1=lI x∧A3.tmp F 2=lI f∧A3.tmp F 4 = .fp (eT t) 0∧h=[]∧∃ (s:BitVec 64) (w:Nat),A3.tmp F 9=vW s∧A3.tmp F 3 = .i .i64 w∧(w:Int)∈x∧k≤x.length+1∧s ||| Jv t x f (x.length+1 - k) w=AI t x f w0') ?_ ?_ ?_ 0 _ _ (Nat.zero_le _) ?_ ?_
 ·rintro k F h hk p10 ⟨p1,p2,p4,rfl,s,w,p9,p3,hw,hkl,hs⟩
  have e:decide ((k:Int)≤(x.length:Int))=decide (k < x.length+1):=decide_eq_decide.2 ⟨fun h=>by omega,fun h=>by omega⟩
  have e':decide (k≤x.length)=decide (k < x.length+1):=decide_eq_decide.2 ⟨fun h=>by omega,fun h=>by omega⟩
  simp only [Cc,go_sem,↓reduceIte,p10,p1,p2,p4,p9,p3,e,e']
  exact ⟨s,rfl,w,rfl,hw,hkl,hs⟩
 ·rintro k F h hk p10 ⟨p1,p2,p4,rfl,s,w,p9,p3,hw,hkl,hs⟩
  obtain ⟨w',hw1,hwn⟩:=A9 (hx _ hw)
  have:w' = w:=by omega
  subst this
  cases c1:decide ((t.at w').thread < 0) with
  | true =>
   have ho:Hp t w' = true:=by rw [Hp,Int.toNat_natCast,c1,Bool.or_true]
   rw [MJ _ _ _ _ _ ho] at hs
   simp only [BitVec.or_zero] at hs
   simp only [Cc,go_sem,↓reduceIte,p10,p1,p2,p4,p9,p3,A5 hwn,c1,A0,hs]
  | false =>
   have hth:0≤(t.at w').thread:=by have:=of_decide_eq_false c1;omega
   have ho:Hp t w' = false:=by rw [Hp,Int.toNat_natCast,c1,decide_eq_false (by omega)];rfl
   have hst:x.length+1 - k=(x.length+1 - (k+1))+1:=by omega
   rw [hst,A07 _ _ _ _ _ ho,← BitVec.or_assoc] at hs
   have hown:=A7H ht hx hwn hth s
   generalize hs1:(if E7 (t.at w')=true then s ||| C9 (w':Int) else s)=s1 at hown
   cases c2:E7 (t.at w')<;>simp only [c2,Bool.false_eq_true,if_true,if_false] at hs1<;>(
   simp only [Cc,go_sem,↓reduceIte,p10,p1,p2,p4,p9,p3,A5 hwn,c1,A0,EB C,c2,DA C]
   refine A8 (by decide) x.length (by omega) (I:=fun j F h=>A3.tmp F 10 = .i .i64 k∧A3.tmp F 1=lI x∧A3.tmp F 2=lI f∧A3.tmp F 4 = .fp (eT t) 0∧A3.tmp F 3 = .i .i64 w'∧A3.tmp F 11 = .p 0 0 0 0∧h=[some ⟨BN,0,0,false,[eN (t.at w')]⟩]∧A3.tmp F 9=vW (D1 (fun n=>decide ((t.at n.toNat).kind=4) && E7 (t.at n.toNat) && decide ((t.at n.toNat).thread=(t.at w').thread) && Ao t n w') s1 (x.take j))) ?_ ?_ ?_ 0 _ _ (Nat.zero_le _) ?_ ?_
   ·rintro j F h hj q12 ⟨q10,q1,q2,q4,q3,q11,rfl,q9⟩
    simp only [Cc,go_sem,↓reduceIte,q12,q10,q1,q2,q4,q3,q11,q9]
   ·rintro j F h hj q12 ⟨q10,q1,q2,q4,q3,q11,rfl,q9⟩
    obtain ⟨m,hm1,hm⟩:=A9 (hx _ (Aj (d:=0) hj))
    have hb:=fun (Q:VV→Prop)=>GD C t ht.up (m:Int) (w':Int) (Q:=Q)
    cases d1:decide ((t.at m).kind=4) with
    | false =>
     rw [← Ph hj (by rw [hm1,Int.toNat_natCast,d1];rfl)]
     simp only [Cc,go_sem,↓reduceIte,q12,q10,q1,q2,q4,q3,q11,q9,Av hj,hj,hm1,A5 hm,d1,A0]
    | true =>
    cases d2:E7 (t.at m) with
    | false =>
     rw [← Ph hj (by rw [hm1,Int.toNat_natCast,d2];simp)]
     simp only [Cc,go_sem,↓reduceIte,q12,q10,q1,q2,q4,q3,q11,q9,Av hj,hj,hm1,A5 hm,d1,d2,EB C,A0]
    | true =>
    cases d3:decide ((t.at m).thread=(t.at w').thread) with
    | false =>
     rw [← Ph hj (by rw [hm1,Int.toNat_natCast,d3];simp)]
     simp only [Cc,go_sem,↓reduceIte,q12,q10,q1,q2,q4,q3,q11,q9,Av hj,hj,hm1,A5 hm,d1,d2,d3,EB C,A0]
    | true =>
    cases d4:Ao t m w' with
    | false =>
     rw [← Ph hj (by rw [hm1,d4];simp)]
     simp only [Cc,go_sem,↓reduceIte,q12,q10,q1,q2,q4,q3,q11,q9,Av hj,hj,hm1,A5 hm,d1,d2,d3,d4,hb,EB C,A0]
    | true =>
     rw [← Aai hj (by rw [hm1,Int.toNat_natCast,d1,d2,d3,d4];rfl),hm1]
     simp only [Cc,go_sem,↓reduceIte,q12,q10,q1,q2,q4,q3,q11,q9,Av hj,hj,hm1,A5 hm,d1,d2,d3,d4,hb,EB C,DA C,A0]
   ·rintro F h ⟨q10,q1,q2,q4,q3,q11,rfl,q9⟩
    rw [List.take_length,hown] at q9
    have hah:SZ t x f w' = if (t.at w').rmw=true∧B2 x (t.at w').up=true then GQ x f (t.at w').up else -1:=by rw [SZ,Int.toNat_natCast]
    have hoff1:Hp t (-1)=true:=rfl
    cases d1:(t.at w').rmw with
    | false =>
     rw [hah,d1,if_neg (by simp),MJ _ _ _ _ _ hoff1] at hs
     simp only [BitVec.or_zero] at hs
     simp only [Cc,go_sem,↓reduceIte,q10,q1,q2,q4,q3,q11,q9,d1,hs]
    | true =>
    have hwl2:=C3 x (t.at w').up
    cases d2:B2 x (t.at w').up with
    | false =>
     rw [d2] at hwl2
     rw [hah,d2,if_neg (by simp),MJ _ _ _ _ _ hoff1] at hs
     simp only [BitVec.or_zero] at hs
     simp only [Cc,go_sem,↓reduceIte,q10,q1,q2,q4,q3,q11,q9,d1,hs,Ac C x (by omega),hwl2]
    | true =>
     rw [d2] at hwl2
     have hahm:=T0 ht hF hw
     rw [hah,d1,d2,if_pos ⟨rfl,rfl⟩] at hs hahm
     obtain ⟨i,hi1,hi2,_,_⟩:=E5 d2
     have hif:i < f.length:=by rw [← hF.len];exact hi2
     have hon:GQ x f (t.at w').up=f.getD i 0:=by rw [GQ,if_pos d2,hi1,Int.toNat_natCast]
     rw [hon] at hs hahm
     rw [hi1] at hwl2
     have hup:=(hF.read (t.at w').up (A7.1 d2) (by
      have hl:t.locs.length≤w':=by
       rcases Nat.lt_or_ge w' t.locs.length with h1 | h1
       ·have:=(ht.init w' h1).thr;omega
       ·exact h1
      exact ((ht.good w' hl hwn).rmw d1).2)).1
     rw [hon] at hup
     obtain ⟨v,hv1,hvn⟩:=A9 (hx _ hup)
     rw [hv1] at hs hup
     simp only [Cc,go_sem,↓reduceIte,q10,q1,q2,q4,q3,q11,q9,d1,Ac C x (by omega),hi1,hwl2,Av hif,hv1]
     exact ⟨_,rfl,v,rfl,hup,by omega,hs⟩
   ·simp only [Cc,go_sem,↓reduceIte]
   ·simp only [Cc,go_sem,↓reduceIte,p10,p1,p2,p4,p3,p9,hs1]
    rfl)
 ·rintro F h ⟨p1,p2,p4,rfl,s,w,p9,p3,hw,hkl,hs⟩
  rw [Nat.sub_self,Jv] at hs
  simp only [BitVec.or_zero] at hs
  simp only [Cc,go_sem,↓reduceIte,p1,p2,p4,p9,p3,hs]
 ·simp only [Cc,go_sem,↓reduceIte]
 ·simp only [Cc,go_sem,↓reduceIte]
  exact ⟨0#64,rfl,w0',rfl,hw0,by rw [AI];simp⟩
end
theorem A4r {n:Nat} {p:Nat→Nat→Bool}:(AE n p).take n=AE n p:=List.take_of_length_le (by rw [BB];omega)
theorem A8Y {t:A4} {x:List Int} {r m:Nat} (hm:(m:Int)∈x):Eh t x r m=(HP (t.at m) && (decide (m=r) || (decide ((t.at m).kind=4) && Ao t r m))):=by
 rw [Eh,A7.2 hm]
 have e:decide ((m:Int)=(r:Int))=decide (m=r):=decide_eq_decide.2 ⟨fun h=>by omega,fun h=>by omega⟩
 rw [e]
 cases decide (m=r)<;>cases HP (t.at m)<;>cases decide ((t.at m).kind=4)<;>cases Ao t r m<;>rfl
theorem A4c {t:A4} (ht:Aa t):0 < t.nodes.length:=by
 obtain ⟨s,h0,he,hs⟩:=ht.thr
 have h1:=ht.r1
 obtain ⟨_,n,hB⟩:=hs 0 (by omega)
 cases n with
 | zero=>exact absurd hB (by simp [HM])
 | succ n=>have:=hB.1.1;omega
section
variable {V:Al} (C:AA V) {Q:VV→VH→Prop}
include C
set_option maxHeartbeats 16000000 in
theorem XU (t:A4) (ht:Aa t) (x f:List Int) (hl:x.length≤1000) (hlf:f.length≤1000) (hc:BR t x f=true) (b0:Nat) :
    Yp V A2E [vT t,lI x,lI f] b0 Q↔Q (.sl b0 0 0 t.nodes.length) [some ⟨Bd,1,0,false,(AE t.nodes.length (swB t x f)).map eW⟩]:=by
  refine La ?_
  rw [Lb C.c_z69.2]
  have h64:=ht.n64
  have hF:=Cy hc
  have hx:=hF.node
  have hfr:=fun (Q:VV→Prop)=>Ji C t ht x f hl hlf (Q:=Q)
  have b1:t.nodes.length * 8≤A6:=by unfold A6;omega
  simp only [A69,CY,go_sem,↓reduceIte,hfr,hc,b1,Int.le_refl]
  refine A8 (by decide) x.length (by omega) (I:=fun i F h=>A3.tmp F 1=lI x∧A3.tmp F 2=lI f∧A3.tmp F 3 = .fp (eT t) 0∧A3.tmp F 7 = .sl 0 0 0 t.nodes.length∧h=[some ⟨Bd,1,0,false,(AE t.nodes.length (NS t x f (x.take i))).map eW⟩]) ?_ ?_ ?_ 0 _ _ (Nat.zero_le _) ?_ ?_
  · rintro i F h hi p8 ⟨p1, p2, p3, p7, rfl⟩
    simp only [CY,go_sem,↓reduceIte,p8,p1,p2,p3,p7]
  · rintro i F h hi p8 ⟨p1, p2, p3, p7, rfl⟩
    have hif:i < f.length:=by rw [← hF.len];exact hi
    have hat:=hF.at_ i hi
    have hrx0:x.getD i 0∈x:=Aj hi
    obtain ⟨r,hr1,hr⟩:=A9 (hx _ hrx0)
    have hrx:(r:Int)∈x:=by rw [← hr1];exact hrx0
    rw [hr1] at hat
    have hnext:∀ a b,NS t x f (x.take (i+1)) a b=(NS t x f (x.take i) a b || (Ht t x f r && Bx (AI t x f (GQ x f r)) (a:Int) && Eh t x r b)):=fun a b=>by rw [Yb hi,hr1]
    have same:Ht t x f r=false→AE t.nodes.length (NS t x f (x.take i))=AE t.nodes.length (NS t x f (x.take (i+1))):=fun e=>AW fun a b _ _=>by rw [hnext,e];simp
    have hsaw:Ht t x f r=(decide ((t.at r).kind=2) && !decide ((t.at (GQ x f r).toNat).thread=(t.at r).thread)):=by rw [Ht,Int.toNat_natCast]
    cases ck:decide ((t.at r).kind=2) with
    | false =>
      have hs:=same (by rw [hsaw,ck];rfl)
      simp only [CY,go_sem,↓reduceIte,p8,p1,p2,p3,p7,Av hi,hi,hr1,A5 hr,ck,A0,hs]
    | true =>
    obtain ⟨o1,o2,o3⟩:=hF.read _ hrx (by rw [Int.toNat_natCast];exact of_decide_eq_true ck)
    obtain ⟨w,hw1,hw⟩:=A9 (hx _ o1)
    rw [hw1] at o1 o2
    rw [Int.toNat_natCast] at o2
    have hfw:f.getD i 0=(w:Int):=by rw [← hat,hw1]
    cases c2:decide ((t.at w).thread=(t.at r).thread) with
    | true =>
      have hs:=same (by rw [hsaw,hw1,Int.toNat_natCast,c2];simp)
      simp only [CY,go_sem,↓reduceIte,p8,p1,p2,p3,p7,Av hi,Av hif,hi,hif,hr1,hfw,A5 hr,A5 hw,ck,c2,A0,hs]
    | false =>
    have hs:Ht t x f r=true:=by rw [hsaw,hw1,Int.toNat_natCast,c2,ck];rfl
    have hh:=fun (Q:VV→Prop)=>Rq C t ht x f hl hlf hc o1 o2 (Q:=Q)
    simp only [CY,go_sem,↓reduceIte,p8,p1,p2,p3,p7,Av hi,Av hif,hi,hif,hr1,hfw,A5 hr,A5 hw,ck,c2,A0,hh,XV C]
    have hlh:=De (AI t x f w)
    let M:=fun (k:Nat) (a b:Nat)=>NS t x f (x.take i) a b || (Bx (AI t x f w) (a:Int) && B2 (x.take k) (b:Int) && Eh t x r b)
    refine A8 (by decide) x.length (by omega) (I:=fun k F h=>A3.tmp F 8 = .i .i64 i∧A3.tmp F 1=lI x∧A3.tmp F 2=lI f∧A3.tmp F 3 = .fp (eT t) 0∧A3.tmp F 7 = .sl 0 0 0 t.nodes.length∧A3.tmp F 9=lI (Ax (AI t x f w))∧h=[some ⟨Bd,1,0,false,(AE t.nodes.length (M k)).map eW⟩]) ?_ ?_ ?_ 0 _ _ (Nat.zero_le _) ?_ ?_
    · rintro k F h hk q10 ⟨q8, q1, q2, q3, q7, q9, rfl⟩
      simp only [CY,go_sem,↓reduceIte,q10,q8,q1,q2,q3,q7,q9]
    · rintro k F h hk q10 ⟨q8, q1, q2, q3, q7, q9, rfl⟩
      have hmx0:x.getD k 0∈x:=Aj hk
      obtain ⟨m,hm1,hm⟩:=A9 (hx _ hmx0)
      have hmx:(m:Int)∈x:=by rw [← hm1];exact hmx0
      have hend:=A8Y (t:=t) (r:=r) hmx
      have hb:=fun (Q:VV→Prop)=>GD C t ht.up (r:Int) (m:Int) (Q:=Q)
      have htk:∀ b:Nat,B2 (x.take (k+1)) (b:Int)=(B2 (x.take k) (b:Int) || decide (b=m)):=fun b=>by
        rw [List.take_succ_eq_append_getElem hk]
        rw [List.getD_eq_getElem?_getD,List.getElem?_eq_getElem hk,Option.getD_some] at hm1
        rw [hm1,Bool.eq_iff_iff,A7,List.mem_append,Bool.or_eq_true,A7,decide_eq_true_eq,List.mem_singleton]
        exact ⟨fun h=>h.imp id fun h=>by omega,fun h=>h.imp id fun h=>by omega⟩
      have hskip:Eh t x r m=false→AE t.nodes.length (M k)=AE t.nodes.length (M (k+1)):=fun e=>AW fun a b _ _=>by
        simp only [M]
        rw [htk]
        by_cases c:b=m
        · subst c;rw [e];simp
        · simp [c]
      cases d1:HP (t.at m) with
      | false =>
        have hsk:=hskip (by rw [hend,d1];rfl)
        simp only [CY,go_sem,↓reduceIte,q10,q8,q1,q2,q3,q7,q9,Av hk,hk,hm1,A5 hm,Kg C,d1,A0,hsk]
      | true =>
      have hall:Eh t x r m=true→AE t.nodes.length (fun a b=>M k a b || (Bx (AI t x f w) (a:Int) && decide (b=m)))=AE t.nodes.length (M (k+1)):=fun e=>AW fun a b _ _=>by
        simp only [M]
        rw [htk]
        by_cases c:b=m
        · subst c;rw [e];cases NS t x f (x.take i) a b<;>cases Bx (AI t x f w) (a:Int)<;>cases B2 (x.take k) (b:Int)<;>simp
        · simp [c]
      have d2e:decide ((m:Int)=(r:Int))=decide (m=r):=decide_eq_decide.2 ⟨fun h=>by omega,fun h=>by omega⟩
      cases d2:decide (m=r)<;>cases d3:decide ((t.at m).kind=4)<;>cases d4:Ao t r m<;>rw [d1,d2,d3,d4] at hend<;>(first
        | (have hsk:=hskip (by rw [hend];rfl)
           simp only [CY,go_sem,↓reduceIte,q10,q8,q1,q2,q3,q7,q9,Av hk,Av hi,hk,hi,hr1,hm1,A5 hm,Kg C,d1,d2e,d2,d3,hb,d4,A0,hsk])
        | (have hal:=hall (by rw [hend];rfl)
           simp only [CY,go_sem,↓reduceIte,q10,q8,q1,q2,q3,q7,q9,Av hk,Av hi,hk,hi,hr1,hm1,A5 hm,Kg C,d1,d2e,d2,d3,hb,d4,A0]
           refine A8 (by decide) (Ax (AI t x f w)).length (by omega) (I:=fun j F h=>A3.tmp F 10 = .i .i64 k∧A3.tmp F 8 = .i .i64 i∧A3.tmp F 1=lI x∧A3.tmp F 2=lI f∧A3.tmp F 3 = .fp (eT t) 0∧A3.tmp F 7 = .sl 0 0 0 t.nodes.length∧A3.tmp F 9=lI (Ax (AI t x f w))∧h=[some ⟨Bd,1,0,false,(AE t.nodes.length fun a b=>M k a b || (B2 ((Ax (AI t x f w)).take j) (a:Int) && decide (b=m))).map eW⟩,some ⟨BN,0,0,false,[eN (t.at m)]⟩]) ?_ ?_ ?_ 0 _ _ (Nat.zero_le _) ?_ ?_
           · rintro j F h hj u12 ⟨u10, u8, u1, u2, u3, u7, u9, rfl⟩
             simp only [CY,go_sem,↓reduceIte,u12,u10,u8,u1,u2,u3,u7,u9]
           · rintro j F h hj u12 ⟨u10, u8, u1, u2, u3, u7, u9, rfl⟩
             have hmem:=(Dg (s:=AI t x f w)).1 (Aj (d:=0) hj)
             obtain ⟨a0,_⟩:=G9 hmem
             obtain ⟨a,ha1⟩:=Int.eq_ofNat_of_zero_le a0
             have ha:a < t.nodes.length:=PS ht hF o1 (by rw [ha1,AH] at hmem;exact hmem)
             have hset:=Sq ha hm h64 (fun a b=>M k a b || (B2 ((Ax (AI t x f w)).take j) (a:Int) && decide (b=m)))
             have hM:AE t.nodes.length (fun i' b=>(M k i' b || (B2 ((Ax (AI t x f w)).take j) (i':Int) && decide (b=m))) || (decide (i' = a) && decide (b=m)))=AE t.nodes.length (fun a b=>M k a b || (B2 ((Ax (AI t x f w)).take (j+1)) (a:Int) && decide (b=m))):=AW fun i' b _ _=>by
               rw [List.take_succ_eq_append_getElem hj]
               have e:B2 ((Ax (AI t x f w)).take j++[(Ax (AI t x f w))[j]]) (i':Int)=(B2 ((Ax (AI t x f w)).take j) (i':Int) || decide (i' = a)):=by
                 rw [List.getD_eq_getElem?_getD,List.getElem?_eq_getElem hj,Option.getD_some] at ha1
                 rw [ha1,Bool.eq_iff_iff,A7,List.mem_append,Bool.or_eq_true,A7,decide_eq_true_eq,List.mem_singleton]
                 exact ⟨fun h=>h.imp id fun h=>by omega,fun h=>h.imp id fun h=>by omega⟩
               rw [e]
               cases M k i' b<;>cases B2 ((Ax (AI t x f w)).take j) (i':Int)<;>cases decide (i' = a)<;>cases decide (b=m)<;>rfl
             rw [hM] at hset
             simp only [CY,go_sem,↓reduceIte,u12,u10,u8,u1,u2,u3,u7,u9,Av hj,Av hk,hj,hk,ha1,hm1,GF ha,DA C,A0,hset,BB,ha]
           · rintro F h ⟨u10, u8, u1, u2, u3, u7, u9, rfl⟩
             have hfinM:AE t.nodes.length (fun a b=>M k a b || (B2 (Ax (AI t x f w)) (a:Int) && decide (b=m)))=AE t.nodes.length (M (k+1)):=by
               rw [← hal]
               exact AW fun a b _ _=>by
                 have e:B2 (Ax (AI t x f w)) (a:Int)=Bx (AI t x f w) (a:Int):=by rw [Bool.eq_iff_iff,A7,Dg]
                 rw [e]
             simp only [CY,go_sem,↓reduceIte,u10,u8,u1,u2,u3,u7,u9,List.take_length,hfinM]
           · simp only [CY,go_sem,↓reduceIte]
           · simp only [CY, go_sem, ↓reduceIte, q10, q8, q1, q2, q3, q7, q9]
             have h0:AE t.nodes.length (fun a b=>M k a b || (B2 ((Ax (AI t x f w)).take 0) (a:Int) && decide (b=m)))=AE t.nodes.length (M k):=AW fun a b _ _=>by simp only [List.take_zero,B2,List.any_nil,Bool.false_and,Bool.or_false]
             rw [List.take_zero] at h0
             rw [h0]))
    · rintro F h ⟨q8, q1, q2, q3, q7, q9, rfl⟩
      have hM:AE t.nodes.length (M x.length)=AE t.nodes.length (NS t x f (x.take (i+1))):=AW fun a b _ hb=>by
        simp only [M]
        rw [List.take_length,hnext,hs,hw1,Bool.true_and]
        cases e1:Eh t x r b with
        | false=>simp
        | true =>
          have:B2 x (b:Int)=true:=by
            simp only [Eh,Bool.or_eq_true,Bool.and_eq_true,decide_eq_true_eq] at e1
            rcases e1 with h | h
            · rw [h.1];exact A7.2 hrx
            · exact h.1.1.1
          rw [this];simp
      simp only [CY,go_sem,↓reduceIte,q8,q1,q2,q3,q7,q9,hM]
    · simp only [CY,go_sem,↓reduceIte]
    · simp only [CY, go_sem, ↓reduceIte, p8, p1, p2, p3, p7]
      have hM:AE t.nodes.length (M 0)=AE t.nodes.length (NS t x f (x.take i)):=AW fun a b _ _=>by simp only [M,List.take_zero,B2,List.any_nil,Bool.and_false,Bool.false_and,Bool.or_false]
      rw [hM]
  · rintro F h ⟨p1, p2, p3, p7, rfl⟩
    have e:AE t.nodes.length (NS t x f x)=AE t.nodes.length (swB t x f):=rfl
    simp only [CY,go_sem,↓reduceIte,p1,p2,p3,p7,BB,Bi,List.take_length,e]
    simp
  · simp only [CY,go_sem,↓reduceIte]
  · simp only [CY, go_sem, ↓reduceIte]
    rw [← Ss];rfl
set_option maxHeartbeats 8000000 in
theorem A0K (t:A4) (ht:Aa t) (x f:List Int) (hl:x.length≤1000) (hlf:f.length≤1000) (hc:BR t x f=true) {Q:VV→Prop}:VP V A2d [vT t,lI x,lI f] Q↔Q (lW (hbF t x f)):=by
 refine Ae ?_
 rw [Ab C.c_z25.1 C.c_z25.2]
 have h64:=ht.n64
 rw [hbF,hc]
 have hF:=Cy hc
 have hx:=hF.node
 have hsw:=fun (b:Nat) (Q:VV→VH→Prop)=>XU C t ht x f hl hlf hc b (Q:=Q)
 have hne:=A8b (i:=0) (v:=0) (o:=0) (A4c ht)
 simp only [A5R,Gv,go_sem,↓reduceIte,hsw,hne]
 let M:=fun (i k:Nat) (a b:Nat)=>swB t x f a b || ((B2 (x.take i) (a:Int) && B2 x (b:Int) && Ao t a b) || (decide ((a:Int)=x.getD i 0) && B2 (x.take k) (b:Int) && Ao t a b))
 refine A8 (by decide) x.length (by omega) (I:=fun i F h=>A3.tmp F 1=lI x∧A3.tmp F 3 = .fp (eT t) 0∧A3.tmp F 7 = .sl 0 0 0 t.nodes.length∧h=[some ⟨Bd,1,0,false,(AE t.nodes.length (M i 0)).map eW⟩]) ?_ ?_ ?_ 0 _ _ (Nat.zero_le _) ?_ ?_
 ·rintro i F h hi p8 ⟨p1,p3,p7,rfl⟩
  simp only [Gv,go_sem,↓reduceIte,p8,p1,p3,p7]
 ·rintro i F h hi p8 ⟨p1,p3,p7,rfl⟩
  obtain ⟨a,ha1,ha⟩:=A9 (hx _ (Aj (d:=0) hi))
  simp only [Gv,go_sem,↓reduceIte,p8,p1,p3,p7,A0]
  refine A8 (by decide) x.length (by omega) (I:=fun k F h=>A3.tmp F 8 = .i .i64 i∧A3.tmp F 1=lI x∧A3.tmp F 3 = .fp (eT t) 0∧A3.tmp F 7 = .sl 0 0 0 t.nodes.length∧h=[some ⟨Bd,1,0,false,(AE t.nodes.length (M i k)).map eW⟩]) ?_ ?_ ?_ 0 _ _ (Nat.zero_le _) ?_ ?_
  ·rintro k F h hk q9 ⟨q8,q1,q3,q7,rfl⟩
   simp only [Gv,go_sem,↓reduceIte,q9,q8,q1,q3,q7]
  ·rintro k F h hk q9 ⟨q8,q1,q3,q7,rfl⟩
   obtain ⟨m,hm1,hm⟩:=A9 (hx _ (Aj (d:=0) hk))
   have hb:=fun (Q:VV→Prop)=>GD C t ht.up (a:Int) (m:Int) (Q:=Q)
   have htk:∀ b:Nat,B2 (x.take (k+1)) (b:Int)=(B2 (x.take k) (b:Int) || decide (b=m)):=fun b=>by
    rw [List.take_succ_eq_append_getElem hk]
    rw [List.getD_eq_getElem?_getD,List.getElem?_eq_getElem hk,Option.getD_some] at hm1
    rw [hm1,Bool.eq_iff_iff,A7,List.mem_append,Bool.or_eq_true,A7,decide_eq_true_eq,List.mem_singleton]
    exact ⟨fun h=>h.imp id fun h=>by omega,fun h=>h.imp id fun h=>by omega⟩
   have hda:∀ i':Nat,decide ((i':Int)=x.getD i 0)=decide (i' = a):=fun i'=>by rw [ha1];exact decide_eq_decide.2 ⟨fun h=>by omega,fun h=>by omega⟩
   cases d1:Ao t a m with
   | false =>
    have hsk:AE t.nodes.length (M i k)=AE t.nodes.length (M i (k+1)):=AW fun i' b _ _=>by
     simp only [M]
     rw [htk,hda]
     by_cases c:i' = a
     ·subst c
      by_cases c':b=m
      ·subst c';rw [d1];simp
      ·simp [c']
     ·simp [c]
    simp only [Gv,go_sem,↓reduceIte,q9,q8,q1,q3,q7,Av hi,Av hk,hi,hk,ha1,hm1,hb,d1,A0,hsk]
   | true =>
    have hset:=Sq ha hm h64 (M i k)
    have hal:AE t.nodes.length (fun i' b=>M i k i' b || (decide (i' = a) && decide (b=m)))=AE t.nodes.length (M i (k+1)):=AW fun i' b _ _=>by
     simp only [M]
     rw [htk,hda]
     by_cases c:i' = a
     ·subst c
      by_cases c':b=m
      ·subst c';rw [d1];simp
      ·simp [c']
     ·simp [c]
    rw [hal] at hset
    simp only [Gv,go_sem,↓reduceIte,q9,q8,q1,q3,q7,Av hi,Av hk,hi,hk,ha1,hm1,hb,d1,A0,GF ha,DA C,hset,BB,ha]
  ·rintro F h ⟨q8,q1,q3,q7,rfl⟩
   have hM:AE t.nodes.length (M i x.length)=AE t.nodes.length (M (i+1) 0):=AW fun i' b _ _=>by
    simp only [M]
    rw [List.take_length,List.take_zero]
    have e:B2 (x.take (i+1)) (i':Int)=(B2 (x.take i) (i':Int) || decide ((i':Int)=x.getD i 0)):=by
     rw [List.take_succ_eq_append_getElem hi,List.getD_eq_getElem?_getD,List.getElem?_eq_getElem hi,Option.getD_some,Bool.eq_iff_iff,A7,List.mem_append,Bool.or_eq_true,A7,decide_eq_true_eq,List.mem_singleton]
    rw [e]
    show _=(_ || (_ || (_ && false && _)))
    cases swB t x f i' b<;>cases B2 (x.take i) (i':Int)<;>cases decide ((i':Int)=x.getD i 0)<;>cases B2 x (b:Int)<;>cases Ao t i' b<;>simp
   simp only [Gv,go_sem,↓reduceIte,q8,q1,q3,q7,hM]
  ·simp only [Gv,go_sem,↓reduceIte]
  ·simp only [Gv,go_sem,↓reduceIte,p8,p1,p3,p7]
 ·rintro F h ⟨p1,p3,p7,rfl⟩
  have hM:AE t.nodes.length (M x.length 0)=AE t.nodes.length (JX t x f):=AW fun a b _ _=>by
   simp only [M]
   rw [List.take_length,List.take_zero]
   show (_ || (_ || (_ && false && _)))=_
   rw [JX]
   cases swB t x f a b<;>cases B2 x (a:Int)<;>cases B2 x (b:Int)<;>cases Ao t a b<;>simp
  have hpl:=fun (Q:VV→Prop)=>XW C (AE t.nodes.length (JX t x f)) (by rw [BB];omega) (Q:=Q)
  simp only [Gv,go_sem,↓reduceIte,p1,p3,p7,hM,BB,A4r,hpl]
  try rfl
 ·simp only [Gv,go_sem,↓reduceIte]
 ·simp only [Gv,go_sem,↓reduceIte]
  have h0:AE t.nodes.length (M 0 0)=AE t.nodes.length (swB t x f):=AW fun a b _ _=>by
   simp only [M]
   rw [List.take_zero]
   show (_ || ((false && _ && _) || (_ && false && _)))=_
   simp
  rw [h0]
end
abbrev WH (n:Ay) (p:Int):List VV:=[.i .i64 n.thread,.i .i64 n.up,.i .i64 n.kind,.i .i64 n.loc,.i .i64 n.mode,.i .i64 n.val,.b n.rmw,.b n.fin,lI n.regs,.i .i64 p]
section
variable {V:Al} (C:AA V) {Q:VV→Prop}
include C
theorem R8 (n:Ay) (p:Int):VP V A2e [.ag (WH n p)] Q↔Q (.b (decide (n.kind=2) || decide (n.kind=3))):=by
 refine Ae ?_
 rw [Ab C.c_z26.1 C.c_z26.2]
 cases c:decide (n.kind=2)<;>simp only [A5S,A1T,go_sem,↓reduceIte,c,Bool.true_or,Bool.false_or]
theorem T9 (a b:Ay) (p q:Int):VP V A2f [.ag (WH a p),.ag (WH b q)] Q↔Q (.b (decide (p < q))):=by
 refine Ae ?_
 rw [Ab C.c_z27.1 C.c_z27.2]
 simp only [A5T,A1U,go_sem,↓reduceIte]
theorem WF (a b:Ay) (p q:Int):VP V A2g [.ag (WH a p),.ag (WH b q)] Q↔Q (.b (decide (p≤q))):=by
 refine Ae ?_
 rw [Ab C.c_z28.1 C.c_z28.2]
 simp only [A5U,A1V,go_sem,↓reduceIte]
theorem Ns (a b:Ay) (pa pb:Int):VP V Aa3 [vN a,vN b,.i .i64 pa,.i .i64 pb] Q↔Q (.b (CK a b pa pb)):=by
 refine Ae ?_
 rw [Ab C.c_z4.1 C.c_z4.2]
 have a1:=fun (n:Ay) (p:Int) (Q:VV→Prop)=>R8 C n p (Q:=Q)
 have hpf:CK a b pa pb=((!(decide (a.kind=2) || decide (a.kind=3)) || !(decide (b.kind=2) || decide (b.kind=3)) || !decide (a.loc=b.loc)) || (bif decide (b.kind=2) then decide (pa≤pb) else decide (pa < pb))):=by
  unfold CK
  by_cases c:b.kind=2<;>simp [c]
 rw [hpf]
 cases c1:(decide (a.kind=2) || decide (a.kind=3)) with
 | false =>
  simp only [ZX,Xm,go_sem,↓reduceIte,a1,c1,Bool.not_false,Bool.true_or]
 | true =>
 cases c2:(decide (b.kind=2) || decide (b.kind=3)) with
 | false =>
  simp only [ZX,Xm,go_sem,↓reduceIte,a1,c1,c2,Bool.not_false,Bool.true_or,Bool.not_true,Bool.false_or]
 | true =>
 cases c3:decide (a.loc=b.loc) with
 | false =>
  simp only [ZX,Xm,go_sem,↓reduceIte,a1,c1,c2,c3,Bool.not_false,Bool.true_or,Bool.not_true,Bool.false_or]
 | true =>
 cases c4:decide (b.kind=2) with
 | false =>
  have c5:decide (b.kind=3)=true:=by rw [c4] at c2;simpa using c2
  simp only [ZX,Xm,go_sem,↓reduceIte,a1,c1,c2,c3,c4,c5,T9 C,Bool.not_true,Bool.false_or,cond_false]
 | true =>
  simp only [ZX,Xm,go_sem,↓reduceIte,a1,c1,c2,c3,c4,WF C,Bool.not_true,Bool.false_or,cond_true]
set_option maxHeartbeats 4000000 in
theorem Ta (P:Nat→Prop) (t:A4) (ht:Aa t) (r:Rows) (hr:∀ x∈Cd r,∃ a b:Nat,a < t.nodes.length∧b < t.nodes.length∧P a∧P b∧x=((a:Int),(b:Int))) (hl:(Cd r).length≤5000) {g:Nat} {c:List VV} (hc:Fz c) (pl:Int→Int)
  (hg:∀ (n:Nat),n < t.nodes.length→P n→∀ Q:VV→Prop,VP V g ([VV.i .i64 n]++c) Q↔Q (.i .i64 (pl n))) :
  VP V A2c [vT t,lW r,.f g [] c] Q↔Q (.b ((Cd r).all fun x=>CK (t.at x.1.toNat) (t.at x.2.toNat) (pl x.1) (pl x.2))):=by
 refine Ae ?_
 rw [Ab C.c_z22.1 C.c_z22.2]
 have hbel:Cx 0 c=true:=HC (hc [] 5) (fun v e=>A1I e)
 have hfz8:∀ h,B5 (frz h 8) c=some (c,[]):=fun h=>hc h 5
 have hfz:∀ h,B5 (frz h 7) c=some (c,[]):=fun h=>hc h 4
 simp only [A5Q,KY,go_sem,↓reduceIte,Y4 C,hfz]
 refine Au (by decide) (Cd r).length (by omega) (I:=fun k F h=>A3.tmp F 2 = .f g [] c∧A3.tmp F 3 = .fp (eT t) 0∧A3.tmp F 10=lP (Cd r)∧h=[]∧∀ x∈(Cd r).take k,CK (t.at x.1.toNat) (t.at x.2.toNat) (pl x.1) (pl x.2)=true) ?_ ?_ 0 _ _ (by omega) ?_ ?_ ?_
 ·rintro k F h hk p12 p11 ⟨p2,p3,p10,rfl,pr⟩
  obtain ⟨a,b,ha,hb,hpa,hpb,e⟩:=hr _ (List.getElem_mem hk)
  have BS:(Cd r)[k]? = some ((a:Int),(b:Int)):=by rw [List.getElem?_eq_getElem hk,e]
  have ga:=fun (Q:VV→Prop)=>hg a ha hpa Q
  have gb:=fun (Q:VV→Prop)=>hg b hb hpb Q
  simp only [List.cons_append,List.nil_append] at ga gb
  cases c1:CK (t.at a) (t.at b) (pl a) (pl b) with
  | true =>
   simp only [KY,go_sem,↓reduceIte,p12,p11,p2,p3,p10,BS,hk,A5 ha,A5 hb,ga,gb,Ns C,c1,A0,hfz,hfz8,hbel]
   intro x hx
   rw [List.take_succ_eq_append_getElem hk] at hx
   rcases List.mem_append.1 hx with hx | hx
   ·exact pr x hx
   ·rw [List.mem_singleton.1 hx,e];exact c1
  | false =>
   have e:((Cd r).all fun x=>CK (t.at x.1.toNat) (t.at x.2.toNat) (pl x.1) (pl x.2))=false:=by
    rw [List.all_eq_false]
    exact ⟨_,List.getElem_mem hk,by rw [e,Int.toNat_natCast,Int.toNat_natCast,c1];simp⟩
   simp only [KY,go_sem,↓reduceIte,p12,p11,p2,p3,p10,BS,hk,A5 ha,A5 hb,ga,gb,Ns C,c1,A0,e,hfz,hfz8]
 ·rintro F h ⟨p2,p3,p10,rfl,pr⟩
  rw [List.take_length] at pr
  have e:((Cd r).all fun x=>CK (t.at x.1.toNat) (t.at x.2.toNat) (pl x.1) (pl x.2))=true:=by rw [List.all_eq_true];exact pr
  simp only [KY,go_sem,↓reduceIte,p2,p3,p10,e]
 ·simp only [KY,go_sem,↓reduceIte]
 ·simp only [KY,go_sem,↓reduceIte]
 ·simp only [KY,go_sem,↓reduceIte]
end
def JD (ty e:Nat) (rows:List (List VV)):VO:=if rows.length=0 then LE else { ty:=ty,esz:=e,ver:=0,nl:=false,rows:=rows }
def stJ (t:A4) (k:Nat):List Int:=List.replicate (DL t k).length (-1)
theorem AgD {t:A4} {k:Nat} (h:decide ((t.at k).up < 0)=true):stJ t (k+1)=stJ t k++[-1]:=by
 unfold stJ
 rw [A3f h,List.length_append,List.length_singleton,List.replicate_succ']
theorem AgC {t:A4} {k:Nat} (h:decide ((t.at k).up < 0)=false):stJ t (k+1)=stJ t k:=by unfold stJ;rw [A3e h]
theorem Aan {t:A4} (k:Nat):(stJ t k).length≤k:=by unfold stJ;rw [List.length_replicate];exact Ni k
def He (k:Nat):List (List (List Int)):=(List.range k).map fun (i:Nat)=>[[(i:Int)]]
theorem A4z (k:Nat):He (k+1)=He k++[[[(k:Int)]]]:=by
 unfold He
 rw [List.range_succ,List.map_append];rfl
theorem A7W (k:Nat):(He k).length=k:=by simp [He]
def sTh (t:A4) (k j:Nat):VH:=[some ⟨Cp,0,0,false,[[.nl,.nl,.nl]]⟩,some (AN B3 1 ((DL t k).map eI)),some (AN B3 1 ((stJ t k).map eI)),some (AN Da 1 ((He j).map Hy)),
 some ⟨Cp,0,0,false,[[.sl 1 (DL t k).length 0 (DL t k).length,.sl 2 (stJ t k).length 0 (stJ t k).length,.sl 3 (He j).length 0 (He j).length]]⟩]
theorem AdI (ty:Nat) (L:List (List Int)) (c:List Int):({ ty:=ty,esz:=1,ver:=L.length+1,nl:=false,rows:=L.map M2++[[VV.ls (c.map eI)]] }:VO)=AN ty 1 ((L++[c]).map M2):=by
 rw [List.map_append]
 unfold AN
 rw [if_neg (by simp),List.length_append,List.length_map];rfl
theorem Aam (ty:Nat) (L:List (List (List Int))) (c:List (List Int)):({ ty:=ty,esz:=1,ver:=L.length+1,nl:=false,rows:=L.map Hy++[[VV.ls (c.map M2)]] }:VO)=AN ty 1 ((L++[c]).map Hy):=by
 rw [List.map_append]
 unfold AN
 rw [if_neg (by simp),List.length_append,List.length_map];rfl
def cpH (s:Am) (L:List (List (List Int))):VH:=[some ⟨Cp,0,0,false,[[.nl,.nl,.nl]]⟩,some (cpO B3 1 (s.has.map eI)),some (cpO B3 1 (s.jf.map eI)),
 some ⟨Cp,0,0,false,[[.sl 1 (cpV s.has.length) 0 s.has.length,.sl 2 (cpV s.jf.length) 0 s.jf.length,.sl 4 L.length 0 L.length]]⟩,some (AN Da 1 (L.map Hy))]
section
variable {V:Al} (C:AA V) {Q:VV→Prop}
include C
set_option maxHeartbeats 4000000 in
theorem Rr (t:A4) (ht:Aa t):VP V A2a [vT t] Q↔Q (QZ (Bp t)):=by
 refine Ae ?_
 rw [Ab C.c_z18.1 C.c_z18.2]
 have h64:=ht.n64
 have hl4:=ht.l4
 simp only [A5O,Gu,go_sem,↓reduceIte]
 refine A8 (by decide) t.nodes.length (by omega) (I:=fun k F h=>A3.tmp F 1 = .fp (eT t) 0∧A3.tmp F 2 = .p 0 0 0 0∧A3.tmp F 3 = .p 4 0 0 0∧h=sTh t k 0) ?_ ?_ ?_ 0 _ _ (Nat.zero_le _) ?_ ?_
 ·rintro k F h hk p4 ⟨p1,p2,p3,rfl⟩
  simp only [Gu,go_sem,↓reduceIte,p4,p1,p2,p3]
 ·rintro k F h hk p4 ⟨p1,p2,p3,rfl⟩
  have hlen:=Ni (t:=t) k
  cases c:decide ((t.at k).up < 0) with
  | true =>
   have b1:((DL t k).length+1) * 8≤A6:=by unfold A6;omega
   have hj:=Aan (t:=t) k
   have b2:((stJ t k).length+1) * 8≤A6:=by unfold A6;omega
   simp only [Gu,go_sem,↓reduceIte,p4,p1,p2,p3,hk,A5 hk,c,sTh,A3f c,AgD c,A0,b1,b2,List.length_map,List.length_append]
  | false =>
   simp only [Gu,go_sem,↓reduceIte,p4,p1,p2,p3,hk,A5 hk,c,sTh,A3e c,AgC c,A0]
 ·rintro F h ⟨p1,p2,p3,rfl⟩
  simp only [Gu,go_sem,↓reduceIte,p1,p2,p3]
  refine A8 (by decide) t.locs.length (by omega) (I:=fun j F h=>A3.tmp F 1 = .fp (eT t) 0∧A3.tmp F 2 = .p 0 0 0 0∧A3.tmp F 3 = .p 4 0 0 0∧h=sTh t t.nodes.length j) ?_ ?_ ?_ 0 _ _ (Nat.zero_le _) ?_ ?_
  ·rintro k F h hk p5 ⟨p1,p2,p3,rfl⟩
   simp only [Gu,go_sem,↓reduceIte,p5,p1,p2,p3]
  ·rintro k F h hk p5 ⟨p1,p2,p3,rfl⟩
   have hm:=A7W k
   have b1:((He k).length+1) * 24≤A6:=by unfold A6;omega
   simp only [Gu,go_sem,↓reduceIte,p5,p1,p2,p3,hk,sTh,A4z,A0,b1,List.length_map,List.length_append]
   have e:List.map Hy (He k++[[[(k:Int)]]])=List.map Hy (He k)++[[VV.ls [[VV.ls [[VV.i IntKind.i64 (k:Int)]]]]]]:=by rw [List.map_append];rfl
   have e2:({ ty:=Da,esz:=1,ver:=(He k).length+1,nl:=false,rows:=List.map Hy (He k)++[[VV.ls [[VV.ls [[VV.i IntKind.i64 (k:Int)]]]]]] }:VO)=AN Da 1 (List.map Hy (He k++[[[(k:Int)]]])):=by
    rw [e]
    unfold AN
    rw [if_neg (by simp),List.length_append,List.length_map];rfl
   rw [e2]
   refine ⟨.inr ?_,rfl⟩
   rw [List.all_append,Bool.and_eq_true]
   exact ⟨GV (fun _=>rfl),rfl⟩
  ·rintro F h ⟨p1,p2,p3,rfl⟩
   simp only [Gu,go_sem,↓reduceIte,p1,p2,p3,sTh]
   rfl
  ·simp only [Gu,go_sem,↓reduceIte]
  ·simp only [Gu,go_sem,↓reduceIte,p1,p2,p3]
 ·simp only [Gu,go_sem,↓reduceIte]
 ·simp only [Gu,go_sem,↓reduceIte]
  rfl
set_option maxHeartbeats 4000000 in
theorem L4 (s:Am) (hs:Wg s) (b:Nat) {Q:VV→VH→Prop}:Yp V Qt [QZ s] b Q↔Q (.ag [.sl b 0 0 s.has.length,.sl (b+1) 0 0 s.jf.length,.sl (b+1+1) 0 0 s.mo.length]) [some ⟨B3,1,0,false,s.has.map eI⟩,some ⟨B3,1,0,false,s.jf.map eI⟩,some (JD Da 1 (s.mo.map Hy))]:=by
 refine La ?_
 rw [Lb C.c_z21.2]
 have h1:=hs.has
 have h2:=hs.jf
 have h3:=hs.mo
 have b1:s.has.length * 8≤A6:=by unfold A6;omega
 have b2:s.jf.length * 8≤A6:=by unfold A6;omega
 simp only [WO,H5,go_sem,↓reduceIte,b1,b2]
 refine A8 (by decide) s.mo.length (by omega) (I:=fun k F h=>A3.tmp F 1 = .fp (eSh s) 0∧A3.tmp F 2 = .p 0 0 0 0∧A3.tmp F 3 = .p 3 0 0 0∧∃ L,L=s.mo.take k∧h=cpH s L) ?_ ?_ ?_ 0 _ _ (Nat.zero_le _) ?_ ?_
 ·rintro k F h hk p4 ⟨p1,p2,p3,L,hL,rfl⟩
  simp only [H5,go_sem,↓reduceIte,p4,p1,p2,p3]
  exact ⟨L,hL,rfl⟩
 ·rintro k F h hk p4 ⟨p1,p2,p3,L,hL,rfl⟩
  have hm:=hs.mi' k
  simp only [H5,go_sem,↓reduceIte,p4,p1,p2,p3,A0,cpH]
  refine A8 (by decide) (s.mo.getD k []).length (by omega) (I:=fun j F h=>A3.tmp F 4 = .i .i64 k∧A3.tmp F 1 = .fp (eSh s) 0∧A3.tmp F 2 = .p 0 0 0 0∧A3.tmp F 3 = .p 3 0 0 0∧∃ K,K=(s.mo.getD k []).take j∧A3.tmp F 5 = .sl 5 K.length 0 K.length∧h=cpH s L++[some (AN NX 1 (K.map M2))]) ?_ ?_ ?_ 0 _ _ (Nat.zero_le _) ?_ ?_
  ·rintro j F h hj q6 ⟨q4,q1,q2,q3,K,hK,q5,rfl⟩
   simp only [H5,go_sem,↓reduceIte,q6,q4,q1,q2,q3,q5,Dk hk]
   exact ⟨K,hK,rfl,rfl⟩
  ·rintro j F h hj q6 ⟨q4,q1,q2,q3,K,hK,q5,rfl⟩
   have htk:(s.mo.getD k []).take (j+1)=K++[(s.mo.getD k []).getD j []]:=by
    rw [List.take_succ_eq_append_getElem hj,hK,List.getD_eq_getElem?_getD (l:=s.mo.getD k []),List.getElem?_eq_getElem hj];rfl
   have hc:=hs.mc' k j
   have hl:K.length=j:=by rw [hK,List.length_take];omega
   have b3:((s.mo.getD k []).getD j []).length * 8≤A6:=by unfold A6;omega
   have b4:(K.length+1) * 24≤A6:=by unfold A6;omega
   simp only [H5,go_sem,↓reduceIte,q6,q4,q1,q2,q3,q5,Dk hk,Gm hj,hk,hj,b3,b4,cpH,AdI,A0,List.length_append,List.length_map]
   exact ⟨K++[(s.mo.getD k []).getD j []],htk.symm,by simp,rfl⟩
  ·rintro F h ⟨q4,q1,q2,q3,K,hK,q5,rfl⟩
   rw [List.take_length] at hK
   subst hK
   have htk:s.mo.take (k+1)=L++[s.mo.getD k []]:=by
    rw [List.take_succ_eq_append_getElem hk,hL,List.getD_eq_getElem?_getD,List.getElem?_eq_getElem hk];rfl
   have hl:L.length=k:=by rw [hL,List.length_take];omega
   have b4:(L.length+1) * 24≤A6:=by unfold A6;omega
   simp only [H5,go_sem,↓reduceIte,q4,q1,q2,q3,q5,b4,cpH,Aam,List.length_append,List.length_map]
   exact ⟨L++[s.mo.getD k []],htk.symm,by simp⟩
  ·simp only [H5,go_sem,↓reduceIte]
  ·simp only [H5,go_sem,↓reduceIte,p4,p1,p2,p3,cpH]
   exact ⟨[],rfl,rfl,rfl⟩
 ·rintro F h ⟨p1,p2,p3,L,hL,rfl⟩
  rw [List.take_length] at hL
  subst hL
  simp only [H5,go_sem,↓reduceIte,p1,p2,p3,cpH,Bi,Bi.takeL]
  refine ⟨by decide,?_⟩
  unfold AN JD
  split<;>simp_all [LE]
 ·simp only [H5,go_sem,↓reduceIte]
 ·simp only [H5,go_sem,↓reduceIte]
  exact ⟨[],rfl,rfl⟩
end
def noS:Am:=⟨[],[],[]⟩
def Mm (o:Option Am):VV:=match o with
 | some s=>.tu [QZ s,.b true]
 | none=>.tu [QZ noS,.b false]
def Dp (t:A4) (s:Am) (n kind w:Int):Option Am:=if Cv t s n kind=true then some (CA s n w) else none
theorem X7 {l:List Int} {n:Int} {i:Nat} (h:i≤By l n):(i < l.length∧l.getD i 0 < n)↔i < By l n:=by
 constructor
 ·rintro ⟨h1,h2⟩
  rcases Nat.lt_or_ge i (By l n) with c | c
  ·exact c
  ·have e:i=By l n:=by omega
   subst e
   exact absurd h2 (A9j h1)
 ·intro h2
  exact ⟨by have:=DS l n;omega,Tt h2⟩
theorem LW {ty e:Nat} {rows:List (List VV)}:(JD ty e rows).ver=0:=by unfold JD;split<;>rfl
theorem Kt {ty e:Nat} {rows:List (List VV)}:(JD ty e rows).rows=rows:=by
 unfold JD;split
 ·rename_i h;rw [List.length_eq_zero_iff.1 h];rfl
 ·rfl
theorem LV {ty:Nat} {rows:List (List VV)}:(decide (0 < (JD ty 1 rows).esz) || (JD ty 1 rows).nl)=true:=by unfold JD;split<;>rfl
def moH (s:Am):VH:=[some ⟨Cp,0,0,false,[[.nl,.nl,.nl]]⟩,some ⟨B3,1,0,false,s.has.map eI⟩,some ⟨B3,1,0,false,s.jf.map eI⟩,some (JD Da 1 (s.mo.map Hy)),some ⟨Cp,0,0,false,[[.sl 1 0 0 s.has.length,.sl 2 0 0 s.jf.length,.sl 3 0 0 s.mo.length]]⟩]
section
variable {V:Al} (C:AA V) {Q:VV→Prop}
include C
set_option maxRecDepth 4000 in
set_option maxHeartbeats 8000000 in
theorem Mk (t:A4) (ht:Aa t) (s:Am) (hs:Wg s) (n kind w:Int):VP V Jc [vT t,QZ s,.i .i64 n,.i .i64 kind,.i .i64 w] Q↔Q (Mm (Dp t s n kind w)):=by
 refine Ae ?_
 rw [Ab C.c_z102.1 C.c_z102.2]
 have hfm:=fun (Q:VV→Prop)=>G2 C t ht s hs (Q:=Q)
 have hno:Cv t s n kind=false→Mm (Dp t s n kind w) = .tu [QZ noS,.b false]:=fun h=>by rw [Dp,h];rfl
 have e0:(VV.tu [QZ noS,.b false]) = .tu [.ag [.ls [],.ls [],.ls []],.b false]:=rfl
 have hle:=hs.has
 cases hf:Ck t s with
 | false =>
  rw [hno (by rw [Cv,hf];rfl),e0]
  simp only [Dj,Bf,go_sem,↓reduceIte,hfm,hf]
 | true =>
 cases h1:BT t n with
 | false =>
  rw [hno (by rw [Cv,hf,h1];rfl),e0]
  simp only [Dj,Bf,go_sem,↓reduceIte,hfm,hf,Ap C,h1]
 | true =>
 obtain ⟨m,rfl,hm⟩:=A9 h1
 cases h2:decide ((t.at m).kind=kind) with
 | false =>
  rw [hno (by rw [Cv,hf,h1,Int.toNat_natCast,h2];rfl),e0]
  simp only [Dj,Bf,go_sem,↓reduceIte,hfm,hf,Ap C,h1,A5 hm,h2]
 | true =>
 have w1:=KO s.has (m:Int)
 cases h3:B2 s.has (m:Int) with
 | true =>
  rw [hno (by rw [Cv,hf,h1,Int.toNat_natCast,h2,h3];rfl),e0]
  rw [h3] at w1
  simp only [Dj,Bf,go_sem,↓reduceIte,hfm,hf,Ap C,h1,A5 hm,h2,Ac C s.has (by omega),w1]
 | false =>
 rw [h3] at w1
 have w2:=C3 s.has (t.at m).up
 cases h4:B2 s.has (t.at m).up with
 | false =>
  rw [hno (by rw [Cv,hf,h1,Int.toNat_natCast,h2,h3,h4];rfl),e0]
  rw [h4] at w2
  simp only [Dj,Bf,go_sem,↓reduceIte,hfm,hf,Ap C,h1,A5 hm,h2,Ac C s.has (by omega),w1,w2]
 | true =>
 rw [h4] at w2
 have hok:Dp t s m kind w=some (CA s m w):=by rw [Dp,Cv,hf,h1,Int.toNat_natCast,h2,h3,h4];rfl
 rw [hok]
 have hcp:=fun (b:Nat) (Q:VV→VH→Prop)=>L4 C s hs b (Q:=Q)
 simp only [Dj,Bf,go_sem,↓reduceIte,hfm,hf,Ap C,h1,A5 hm,h2,Ac C s.has (by omega),w1,w2,hcp]
 unfold VL
 rw [A0]
 have hjl:s.jf.length=s.has.length:=by simp only [Ck,Bool.and_eq_true,decide_eq_true_eq] at hf;exact hf.1.1.1.1.2
 refine AU (M:=Nat) (I:=fun i F h=>i≤By s.has m∧A3.tmp F 2 = .i .i64 m∧A3.tmp F 4 = .i .i64 w∧A3.tmp F 6 = .fp (eSh s) 0∧A3.tmp F 10 = .p 0 0 0 0∧A3.tmp F 12 = .p 4 0 0 0∧A3.tmp F 13 = .i .i64 i∧h=moH s) (μ:=fun i=>s.has.length - i) ?_ 0 _ _ ⟨Nat.zero_le _,?_,?_,?_,?_,?_,?_,rfl⟩
 ·rintro i F h ⟨hi,p2,p4,p6,p10,p12,p13,rfl⟩
  have hiff:=X7 hi
  have hkl:=DS s.has m
  by_cases c:i < s.has.length
  ·cases c2:decide (s.has.getD i 0 < (m:Int)) with
   | true =>
    have c2':=of_decide_eq_true c2
    have hlt:=hiff.1 ⟨c,c2'⟩
    have hw:IntKind.i64.wrap ((i:Int)+1)=((i+1:Nat):Int):=by rw [AG (by omega) (by omega)];omega
    simp only [J2,Bf,go_sem,↓reduceIte,p2,p4,p6,p10,p12,p13,c,Av c,c2,A0,hw]
    exact ⟨i+1,by omega,by omega,rfl,rfl,rfl⟩
   | false =>
    have c2':=of_decide_eq_false c2
    have e:i=By s.has m:=by
     rcases Nat.lt_or_ge i (By s.has m) with h | h
     ·exact absurd (Tt h) c2'
     ·omega
    obtain ⟨A,hA⟩:∃ A,A=s.has.take i:=⟨_,rfl⟩
    obtain ⟨B,hB⟩:∃ B,B=s.has.drop i:=⟨_,rfl⟩
    obtain ⟨A',hA'⟩:∃ A,A=s.jf.take i:=⟨_,rfl⟩
    obtain ⟨B',hB'⟩:∃ B,B=s.jf.drop i:=⟨_,rfl⟩
    have lA:A.length=i:=by rw [hA,List.length_take];omega
    have lA':A'.length=i:=by rw [hA',List.length_take];omega
    have lB:B.length=s.has.length - i:=by rw [hB,List.length_drop]
    have lB':B'.length=s.jf.length - i:=by rw [hB',List.length_drop]
    have tB:List.take (s.has.length - i) B=B:=List.take_of_length_le (by omega)
    have tB':List.take (s.jf.length - i) B' = B':=List.take_of_length_le (by omega)
    have c1:i≤s.has.length:=by omega
    have c1':i≤s.jf.length:=by omega
    have b1:A.length * 8≤A6:=by unfold A6;omega
    have b1':A'.length * 8≤A6:=by unfold A6;omega
    have b2:(A.length+1) * 8≤A6:=by unfold A6;omega
    have b2':(A'.length+1) * 8≤A6:=by unfold A6;omega
    obtain ⟨b0,Bs,rfl⟩:∃ b0 Bs,B=b0::Bs:=by
     cases B with
     | nil=>simp at lB;omega
     | cons b0 Bs=>exact ⟨b0,Bs,rfl⟩
    obtain ⟨b0',Bs',rfl⟩:∃ b0 Bs,B' = b0::Bs:=by
     cases B' with
     | nil=>simp at lB';omega
     | cons b0 Bs=>exact ⟨b0,Bs,rfl⟩
    rw [List.length_cons] at lB lB'
    have tBm:List.take (s.has.length - i) (eI b0::List.map eI Bs)=eI b0::List.map eI Bs:=List.take_of_length_le (by simp;omega)
    have tBm':List.take (s.jf.length - i) (eI b0'::List.map eI Bs')=eI b0'::List.map eI Bs':=List.take_of_length_le (by simp;omega)
    obtain ⟨X,hX⟩:∃ X,X=A++[(m:Int)]++b0::Bs:=⟨_,rfl⟩
    obtain ⟨X',hX'⟩:∃ X,X=A'++[w]++b0'::Bs':=⟨_,rfl⟩
    have jX:List.map eI (A++[(m:Int)])++eI b0::List.map eI Bs=List.map eI X:=by rw [hX,List.map_append (l₁:=A++[(m:Int)])];rfl
    have jX':List.map eI (A'++[w])++eI b0'::List.map eI Bs' = List.map eI X':=by rw [hX',List.map_append (l₁:=A'++[w])];rfl
    have lX:A.length+1+(Bs.length+1)=X.length:=by rw [hX];simp;omega
    have lX':A'.length+1+(Bs'.length+1)=X'.length:=by rw [hX'];simp;omega
    have b3:X.length * 8≤A6:=by unfold A6;omega
    have b3':X'.length * 8≤A6:=by unfold A6;omega
    have eX:X=Bn s.has (By s.has m) m:=by rw [hX,Bn,← e,← hA,← hB];simp
    have eX':X' = Bn s.jf (By s.has m) w:=by rw [hX',Bn,← e,← hA',← hB'];simp
    simp only [J2,Bf,go_sem,↓reduceIte,p2,p4,p6,p10,p12,p13,c,Av c,c2,A0,moH,← hA,← hB,← hA',← hB',tBm,tBm',c1,c1',b1,b1',b2,b2',b3,b3',List.length_append,List.length_map,LW,Kt,LV,jX,jX',lX,lX']
    rw [eX,eX'];rfl
  ·have e:i=By s.has m:=by omega
   obtain ⟨A,hA⟩:∃ A,A=s.has.take i:=⟨_,rfl⟩
   obtain ⟨B,hB⟩:∃ B,B=s.has.drop i:=⟨_,rfl⟩
   obtain ⟨A',hA'⟩:∃ A,A=s.jf.take i:=⟨_,rfl⟩
   obtain ⟨B',hB'⟩:∃ B,B=s.jf.drop i:=⟨_,rfl⟩
   have lA:A.length=i:=by rw [hA,List.length_take];omega
   have lA':A'.length=i:=by rw [hA',List.length_take];omega
   have lB:B.length=s.has.length - i:=by rw [hB,List.length_drop]
   have lB':B'.length=s.jf.length - i:=by rw [hB',List.length_drop]
   have tB:List.take (s.has.length - i) B=B:=List.take_of_length_le (by omega)
   have tB':List.take (s.jf.length - i) B' = B':=List.take_of_length_le (by omega)
   have c1:i≤s.has.length:=by omega
   have c1':i≤s.jf.length:=by omega
   have b1:A.length * 8≤A6:=by unfold A6;omega
   have b1':A'.length * 8≤A6:=by unfold A6;omega
   have b2:(A.length+1) * 8≤A6:=by unfold A6;omega
   have b2':(A'.length+1) * 8≤A6:=by unfold A6;omega
   obtain rfl:B=[]:=List.length_eq_zero_iff.1 (by omega)
   obtain rfl:B' = []:=List.length_eq_zero_iff.1 (by omega)
   have b3:(A.length+1+0) * 8≤A6:=by unfold A6;omega
   have b3':(A'.length+1+0) * 8≤A6:=by unfold A6;omega
   simp only [J2,Bf,go_sem,↓reduceIte,p2,p4,p6,p10,p12,p13,c,A0,moH,← hA,← hB,← hA',← hB',tB,tB',c1,c1',b1,b1',b2,b2',b3,b3',List.length_append,List.length_map,LW,Kt,LV]
   have eX:A++[(m:Int)]=Bn s.has (By s.has m) m:=by rw [Bn,← e,← hA,← hB]
   have eX':A'++[w]=Bn s.jf (By s.has m) w:=by rw [Bn,← e,← hA',← hB']
   rw [eX,eX'];rfl
 ·simp only [Bf,go_sem,↓reduceIte]
 ·simp only [Bf,go_sem,↓reduceIte]
 ·simp only [Bf,go_sem,↓reduceIte]
 ·simp only [Bf,go_sem,↓reduceIte]
 ·simp only [Bf,go_sem,↓reduceIte]
 ·simp only [Bf,go_sem,↓reduceIte]
end
abbrev agS (s:Am) (b:Nat):VV:=.ag [.sl b 0 0 s.has.length,.sl (b+1) 0 0 s.jf.length,.sl (b+1+1) 0 0 s.mo.length]
abbrev obS (s:Am):VH:=[some ⟨B3,1,0,false,s.has.map eI⟩,some ⟨B3,1,0,false,s.jf.map eI⟩,some (JD Da 1 (s.mo.map Hy))]
theorem Wl {ty e:Nat} {rows:List (List VV)}:({ ty:=(JD ty e rows).ty,esz:=(JD ty e rows).esz,ver:=0,nl:=(JD ty e rows).nl,rows:=rows }:VO)=JD ty e rows:=by
 unfold JD
 split
 ·rename_i h;rw [List.length_eq_zero_iff.1 h];rfl
 ·rfl
theorem Xx {α:Type} {g:α→Option (α×List Nat)}:∀ (l:List α) (k:Nat) (x y:α) (ids:List Nat),(∀ a∈l,g a=some (a,[]))→k < l.length→g x=some (y,ids)→B5 g (l.set k x)=some (l.set k y,ids)
 | [],k,x,y,ids,_,hk,_=>by simp at hk
 | a::l,0,x,y,ids,h,_,hx=>by
  have hl:B5 g l=some (l,[]):=by
   have:∀ (l:List α),(∀ a∈l,g a=some (a,[]))→B5 g l=some (l,[]):=by
    intro l
    induction l with
    | nil=>intro _;rfl
    | cons b l ih=>intro h;simp only [B5,h b (by simp),ih fun a ha=>h a (by simp [ha]),List.nil_append]
   exact this l fun a ha=>h a (by simp [ha])
  simp only [List.set_cons_zero,B5,hx,hl,List.append_nil]
 | a::l,k+1,x,y,ids,h,hk,hx=>by
  have:=Xx l k x y ids (fun a ha=>h a (by simp [ha])) (by simpa using hk) hx
  simp only [List.set_cons_succ,B5,h a (by simp),this,List.nil_append]
theorem A6p {H:VH} {l:List (List (List Int))} {k:Nat} (hk:k < l.length) {v:VV} {X:List (List Int)} {ids:List Nat} (hv:frz H 5 v=some (.ls (X.map M2),ids)) :
  B5 (fun row=>B5 (frz H 5) row) (List.take l.length ((l.map Hy).set k [v]))=some ((l.set k X).map Hy,ids):=by
 rw [List.take_of_length_le (by simp)]
 rw [List.map_set]
 refine Xx (l.map Hy) k [v] (Hy X) ids ?_ (by simpa using hk) ?_
 ·intro a ha
  obtain ⟨c,_,rfl⟩:=List.mem_map.1 ha
  simp only [go_sem,Xw,↓reduceIte]
 ·simp only [B5,hv,List.append_nil]
section
variable {V:Al} (C:AA V)
include C
set_option maxHeartbeats 8000000 in
theorem QG (t:A4) (ht:Aa t) (s:Am) (hs:Wg s) (n kind w:Int) (h0:Cv t s n kind=false) (b:Nat) {Q:VV→VH→Prop}:Yp V Jc [vT t,QZ s,.i .i64 n,.i .i64 kind,.i .i64 w] b Q↔Q (.tu [QZ noS,.b false]) []:=by
 refine La ?_
 rw [Lb C.c_z102.2]
 have hfm:=fun (Q:VV→Prop)=>G2 C t ht s hs (Q:=Q)
 have e0:(VV.tu [QZ noS,.b false]) = .tu [.ag [.ls [],.ls [],.ls []],.b false]:=rfl
 have hle:=hs.has
 rw [e0]
 cases hf:Ck t s with
 | false =>
  simp only [Dj,Bf,go_sem,↓reduceIte,hfm,hf,Bi,Bi.takeL]
  exact List.nodup_nil
 | true =>
 cases h1:BT t n with
 | false =>
  simp only [Dj,Bf,go_sem,↓reduceIte,hfm,hf,Ap C,h1,Bi,Bi.takeL]
  exact List.nodup_nil
 | true =>
 obtain ⟨m,rfl,hm⟩:=A9 h1
 cases h2:decide ((t.at m).kind=kind) with
 | false =>
  simp only [Dj,Bf,go_sem,↓reduceIte,hfm,hf,Ap C,h1,A5 hm,h2,Bi,Bi.takeL]
  exact List.nodup_nil
 | true =>
 have w1:=KO s.has (m:Int)
 cases h3:B2 s.has (m:Int) with
 | true =>
  rw [h3] at w1
  simp only [Dj,Bf,go_sem,↓reduceIte,hfm,hf,Ap C,h1,A5 hm,h2,Ac C s.has (by omega),w1,Bi,Bi.takeL]
  exact List.nodup_nil
 | false =>
 rw [h3] at w1
 have w2:=C3 s.has (t.at m).up
 cases h4:B2 s.has (t.at m).up with
 | false =>
  rw [h4] at w2
  simp only [Dj,Bf,go_sem,↓reduceIte,hfm,hf,Ap C,h1,A5 hm,h2,Ac C s.has (by omega),w1,w2,Bi,Bi.takeL]
  exact List.nodup_nil
 | true =>
  rw [Cv,hf,h1,Int.toNat_natCast,h2,h3,h4] at h0
  cases h0
set_option maxHeartbeats 8000000 in
theorem Rv (t:A4) (ht:Aa t) (s:Am) (hs:Wg s) {m:Nat} (hm:m < t.nodes.length) (kind w:Int) (hok:Cv t s m kind=true) (b:Nat) {Q:VV→VH→Prop}:Yp V Jc [vT t,QZ s,.i .i64 m,.i .i64 kind,.i .i64 w] b Q↔Q (.tu [agS (CA s m w) b,.b true]) (obS (CA s m w)):=by
 refine La ?_
 rw [Lb C.c_z102.2]
 have hfm:=fun (Q:VV→Prop)=>G2 C t ht s hs (Q:=Q)
 have hle:=hs.has
 have h1:BT t (m:Int)=true:=Cl hm
 simp only [Cv,Bool.and_eq_true,Bool.not_eq_true',Int.toNat_natCast] at hok
 obtain ⟨⟨⟨⟨hf,_⟩,h2⟩,h3⟩,h4⟩:=hok
 have w1:=KO s.has (m:Int)
 have w2:=C3 s.has (t.at m).up
 rw [h3] at w1
 rw [h4] at w2
 have hcp:=fun (b:Nat) (Q:VV→VH→Prop)=>L4 C s hs b (Q:=Q)
 simp only [Dj,Bf,go_sem,↓reduceIte,hfm,hf,Ap C,h1,A5 hm,h2,Ac C s.has (by omega),w1,w2,hcp]
 unfold VL
 rw [A0]
 have hjl:s.jf.length=s.has.length:=by simp only [Ck,Bool.and_eq_true,decide_eq_true_eq] at hf;exact hf.1.1.1.1.2
 refine AU (M:=Nat) (I:=fun i F h=>i≤By s.has m∧A3.tmp F 2 = .i .i64 m∧A3.tmp F 4 = .i .i64 w∧A3.tmp F 6 = .fp (eSh s) 0∧A3.tmp F 10 = .p 0 0 0 0∧A3.tmp F 12 = .p 4 0 0 0∧A3.tmp F 13 = .i .i64 i∧h=moH s) (μ:=fun i=>s.has.length - i) ?_ 0 _ _ ⟨Nat.zero_le _,?_,?_,?_,?_,?_,?_,rfl⟩
 ·rintro i F h ⟨hi,p2,p4,p6,p10,p12,p13,rfl⟩
  have hiff:=X7 hi
  have hkl:=DS s.has m
  by_cases c:i < s.has.length
  ·cases c2:decide (s.has.getD i 0 < (m:Int)) with
   | true =>
    have c2':=of_decide_eq_true c2
    have hlt:=hiff.1 ⟨c,c2'⟩
    have hw:IntKind.i64.wrap ((i:Int)+1)=((i+1:Nat):Int):=by rw [AG (by omega) (by omega)];omega
    simp only [J2,Bf,go_sem,↓reduceIte,p2,p4,p6,p10,p12,p13,c,Av c,c2,A0,hw]
    exact ⟨i+1,by omega,by omega,rfl,rfl,rfl⟩
   | false =>
    have c2':=of_decide_eq_false c2
    have e:i=By s.has m:=by
     rcases Nat.lt_or_ge i (By s.has m) with h | h
     ·exact absurd (Tt h) c2'
     ·omega
    obtain ⟨A,hA⟩:∃ A,A=s.has.take i:=⟨_,rfl⟩
    obtain ⟨B,hB⟩:∃ B,B=s.has.drop i:=⟨_,rfl⟩
    obtain ⟨A',hA'⟩:∃ A,A=s.jf.take i:=⟨_,rfl⟩
    obtain ⟨B',hB'⟩:∃ B,B=s.jf.drop i:=⟨_,rfl⟩
    have lA:A.length=i:=by rw [hA,List.length_take];omega
    have lA':A'.length=i:=by rw [hA',List.length_take];omega
    have lB:B.length=s.has.length - i:=by rw [hB,List.length_drop]
    have lB':B'.length=s.jf.length - i:=by rw [hB',List.length_drop]
    have tB:List.take (s.has.length - i) B=B:=List.take_of_length_le (by omega)
    have tB':List.take (s.jf.length - i) B' = B':=List.take_of_length_le (by omega)
    have c1:i≤s.has.length:=by omega
    have c1':i≤s.jf.length:=by omega
    have b1:A.length * 8≤A6:=by unfold A6;omega
    have b1':A'.length * 8≤A6:=by unfold A6;omega
    have b2:(A.length+1) * 8≤A6:=by unfold A6;omega
    have b2':(A'.length+1) * 8≤A6:=by unfold A6;omega
    obtain ⟨b0,Bs,rfl⟩:∃ b0 Bs,B=b0::Bs:=by
     cases B with
     | nil=>simp at lB;omega
     | cons b0 Bs=>exact ⟨b0,Bs,rfl⟩
    obtain ⟨b0',Bs',rfl⟩:∃ b0 Bs,B' = b0::Bs:=by
     cases B' with
     | nil=>simp at lB';omega
     | cons b0 Bs=>exact ⟨b0,Bs,rfl⟩
    rw [List.length_cons] at lB lB'
    have tBm:List.take (s.has.length - i) (eI b0::List.map eI Bs)=eI b0::List.map eI Bs:=List.take_of_length_le (by simp;omega)
    have tBm':List.take (s.jf.length - i) (eI b0'::List.map eI Bs')=eI b0'::List.map eI Bs':=List.take_of_length_le (by simp;omega)
    obtain ⟨X,hX⟩:∃ X,X=A++[(m:Int)]++b0::Bs:=⟨_,rfl⟩
    obtain ⟨X',hX'⟩:∃ X,X=A'++[w]++b0'::Bs':=⟨_,rfl⟩
    have jX:List.map eI (A++[(m:Int)])++eI b0::List.map eI Bs=List.map eI X:=by rw [hX,List.map_append (l₁:=A++[(m:Int)])];rfl
    have jX':List.map eI (A'++[w])++eI b0'::List.map eI Bs' = List.map eI X':=by rw [hX',List.map_append (l₁:=A'++[w])];rfl
    have lX:A.length+1+(Bs.length+1)=X.length:=by rw [hX];simp;omega
    have lX':A'.length+1+(Bs'.length+1)=X'.length:=by rw [hX'];simp;omega
    have b3:X.length * 8≤A6:=by unfold A6;omega
    have b3':X'.length * 8≤A6:=by unfold A6;omega
    have eX:X=Bn s.has (By s.has m) m:=by rw [hX,Bn,← e,← hA,← hB];simp
    have eX':X' = Bn s.jf (By s.has m) w:=by rw [hX',Bn,← e,← hA',← hB'];simp
    simp only [J2,Bf,go_sem,↓reduceIte,p2,p4,p6,p10,p12,p13,c,Av c,c2,A0,moH,← hA,← hB,← hA',← hB',tBm,tBm',c1,c1',b1,b1',b2,b2',b3,b3',List.length_append,List.length_map,LW,Kt,LV,Bi,Bi.takeL,jX,jX',lX,lX']
    exact ⟨by decide,by rw [eX,eX'];rfl,by rw [Wl,eX,eX'];rfl⟩
  ·have e:i=By s.has m:=by omega
   obtain ⟨A,hA⟩:∃ A,A=s.has.take i:=⟨_,rfl⟩
   obtain ⟨B,hB⟩:∃ B,B=s.has.drop i:=⟨_,rfl⟩
   obtain ⟨A',hA'⟩:∃ A,A=s.jf.take i:=⟨_,rfl⟩
   obtain ⟨B',hB'⟩:∃ B,B=s.jf.drop i:=⟨_,rfl⟩
   have lA:A.length=i:=by rw [hA,List.length_take];omega
   have lA':A'.length=i:=by rw [hA',List.length_take];omega
   have lB:B.length=s.has.length - i:=by rw [hB,List.length_drop]
   have lB':B'.length=s.jf.length - i:=by rw [hB',List.length_drop]
   have tB:List.take (s.has.length - i) B=B:=List.take_of_length_le (by omega)
   have tB':List.take (s.jf.length - i) B' = B':=List.take_of_length_le (by omega)
   have c1:i≤s.has.length:=by omega
   have c1':i≤s.jf.length:=by omega
   have b1:A.length * 8≤A6:=by unfold A6;omega
   have b1':A'.length * 8≤A6:=by unfold A6;omega
   have b2:(A.length+1) * 8≤A6:=by unfold A6;omega
   have b2':(A'.length+1) * 8≤A6:=by unfold A6;omega
   obtain rfl:B=[]:=List.length_eq_zero_iff.1 (by omega)
   obtain rfl:B' = []:=List.length_eq_zero_iff.1 (by omega)
   have b3:(A.length+1+0) * 8≤A6:=by unfold A6;omega
   have b3':(A'.length+1+0) * 8≤A6:=by unfold A6;omega
   simp only [J2,Bf,go_sem,↓reduceIte,p2,p4,p6,p10,p12,p13,c,A0,moH,← hA,← hB,← hA',← hB',tB,tB',c1,c1',b1,b1',b2,b2',b3,b3',List.length_append,List.length_map,LW,Kt,LV,Bi,Bi.takeL]
   have eX:A++[(m:Int)]=Bn s.has (By s.has m) m:=by rw [Bn,← e,← hA,← hB]
   have eX':A'++[w]=Bn s.jf (By s.has m) w:=by rw [Bn,← e,← hA',← hB']
   have lX:A.length+1=(Bn s.has (By s.has m) m).length:=by rw [← eX];simp
   have lX':A'.length+1=(Bn s.jf (By s.has m) w).length:=by rw [← eX'];simp
   exact ⟨by decide,by rw [lX,lX'];rfl,by rw [Wl,eX,eX'];rfl⟩
 ·simp only [Bf,go_sem,↓reduceIte]
 ·simp only [Bf,go_sem,↓reduceIte]
 ·simp only [Bf,go_sem,↓reduceIte]
 ·simp only [Bf,go_sem,↓reduceIte]
 ·simp only [Bf,go_sem,↓reduceIte]
 ·simp only [Bf,go_sem,↓reduceIte]
theorem XT (t:A4) (ht:Aa t) (s:Am) (hs:Wg s) (n:Int) {Q:VV→Prop}:VP V A2u [vT t,QZ s,.i .i64 n] Q↔Q (Mm (Dp t s n 4 (-1))):=by
 refine Ae ?_
 rw [Ab C.c_z56.1 C.c_z56.2]
 have hm:=fun (Q:VV→Prop)=>Mk C t ht s hs n 4 (-1) (Q:=Q)
 cases h:Dp t s n 4 (-1) with
 | none =>
  rw [h] at hm
  simp only [Mm,noS] at hm ⊢
  simp only [A1v,Xn,go_sem,↓reduceIte,hm]
  rfl
 | some s' =>
  rw [h] at hm
  simp only [Mm] at hm ⊢
  simp only [A1v,Xn,go_sem,↓reduceIte,hm]
def Sn (t:A4) (s:Am) (n w:Int):Option Am:=match Dp t s n 2 w with
 | some s'=>if Ck t s' = true then some s' else none
 | none=>none
theorem Vp (t:A4) (ht:Aa t) (s:Am) (hs:Wg s) (hz:s.has.length < 1000∧s.jf.length < 1000) (n w:Int) {Q:VV→Prop}:VP V A2v [vT t,QZ s,.i .i64 n,.i .i64 w] Q↔Q (Mm (Sn t s n w)):=by
 refine Ae ?_
 rw [Ab C.c_z57.1 C.c_z57.2]
 have hm:=fun (Q:VV→Prop)=>Mk C t ht s hs n 2 w (Q:=Q)
 unfold Sn
 cases h:Dp t s n 2 w with
 | none =>
  rw [h] at hm
  simp only [Mm,noS] at hm ⊢
  simp only [WU,Sb,go_sem,↓reduceIte,hm]
  rfl
 | some s' =>
  rw [h] at hm
  have hs':Wg s':=by
   rw [Dp] at h
   split at h
   ·rename_i hok
    cases h
    have h1:=DS s.has n
    have hj:s.jf.length=s.has.length:=by
     simp only [Cv,Ck,Bool.and_eq_true,decide_eq_true_eq] at hok
     exact hok.1.1.1.1.1.1.1.1.2
    exact ⟨by show (Bn _ _ _).length≤1000;rw [CV h1];omega,by show (Bn _ _ _).length≤1000;rw [CV (by omega)];omega,hs.mo,hs.mi,hs.mc⟩
   ·cases h
  have hf:=fun (Q:VV→Prop)=>G2 C t ht s' hs' (Q:=Q)
  cases hff:Ck t s' with
  | false =>
   simp only [Mm,noS,hff,Bool.false_eq_true,if_false] at hm ⊢
   simp only [WU,Sb,go_sem,↓reduceIte,hm,hf,hff]
   rfl
  | true =>
   simp only [Mm,hff,if_true] at hm ⊢
   simp only [WU,Sb,go_sem,↓reduceIte,hm,hf,hff]
def Hw (t:A4) (s:Am) (n at_:Int):Option Am:=match Dp t s n 3 (-1) with
 | some s'=>if at_ < 1∨((s'.mo.getD (t.at n.toNat).loc.toNat []).length:Int) < at_ then none else
   some { s' with mo:=s'.mo.set (t.at n.toNat).loc.toNat ((s'.mo.getD (t.at n.toNat).loc.toNat []).take at_.toNat++[n]::(s'.mo.getD (t.at n.toNat).loc.toNat []).drop at_.toNat) }
 | none=>none
set_option maxHeartbeats 4000000 in
theorem Rt (t:A4) (ht:Aa t) (s:Am) (hs:Wg s) (n at_:Int) {Q:VV→Prop}:VP V A2w [vT t,QZ s,.i .i64 n,.i .i64 at_] Q↔Q (Mm (Hw t s n at_)):=by
 refine Ae ?_
 rw [Ab C.c_z58.1 C.c_z58.2]
 unfold Hw Dp
 cases hok:Cv t s n 3 with
 | false =>
  have hm:=fun (b:Nat) (Q:VV→VH→Prop)=>QG C t ht s hs n 3 (-1) hok b (Q:=Q)
  simp only [Mm,noS,Bool.false_eq_true,if_false] at hm ⊢
  simp only [PQ,Jx,go_sem,↓reduceIte,hm]
  rfl
 | true =>
  have hok':=hok
  simp only [Cv,Bool.and_eq_true,decide_eq_true_eq] at hok'
  obtain ⟨⟨⟨⟨hf,h1⟩,h2⟩,h3⟩,h4⟩:=hok'
  obtain ⟨m,rfl,hmn⟩:=A9 h1
  rw [Int.toNat_natCast] at h2
  have hm:=fun (b:Nat) (Q:VV→VH→Prop)=>Rv C t ht s hs hmn 3 (-1) hok b (Q:=Q)
  have hmo:s.mo.length=t.locs.length:=by simp only [Ck,Bool.and_eq_true,decide_eq_true_eq] at hf;exact hf.1.1.1.2
  obtain ⟨l0,l1⟩:=ht.wloc hmn (.inr h2)
  obtain ⟨loc,hloc⟩:=Int.eq_ofNat_of_zero_le l0
  have hll:loc < s.mo.length:=by omega
  rw [if_pos rfl]
  simp only [Int.toNat_natCast,hloc]
  have hll':loc < (CA s m (-1)).mo.length:=hll
  have hz:JD Da 1 (List.map Hy (CA s m (-1)).mo) = ⟨Da,1,0,false,List.map Hy (CA s m (-1)).mo⟩:=by
   unfold JD
   rw [if_neg (by rw [List.length_map];omega)]
  have BS:=Dk hll'
  have hsz:=hs.mi' loc
  obtain ⟨L,hL⟩:∃ L,L=(CA s m (-1)).mo.getD loc []:=⟨_,rfl⟩
  rw [← hL] at BS
  have hLl:L.length≤1000:=by rw [hL];exact hsz
  rw [← hL]
  cases c1:decide (at_ < 1) with
  | true =>
   rw [if_pos (.inl (of_decide_eq_true c1))]
   simp only [Mm,noS]
   simp only [PQ,Jx,go_sem,↓reduceIte,hm,A5 hmn,hloc,hz,BS,hll',c1]
   rfl
  | false =>
  have c1':=of_decide_eq_false c1
  obtain ⟨a,rfl⟩:=Int.eq_ofNat_of_zero_le (show 0≤at_ by omega)
  have c2n:decide ((L.length:Int) < (a:Int))=decide (L.length < a):=decide_eq_decide.2 ⟨fun h=>by omega,fun h=>by omega⟩
  cases c2:decide (L.length < a) with
  | true =>
   have:=of_decide_eq_true c2
   rw [if_pos (.inr (by omega))]
   simp only [Mm,noS]
   simp only [PQ,Jx,go_sem,↓reduceIte,hm,A5 hmn,hloc,hz,BS,hll',c1,c2n,c2]
   rfl
  | false =>
  have c2':=of_decide_eq_false c2
  rw [if_neg (by omega),Int.toNat_natCast]
  have c3:a≤L.length:=by omega
  obtain ⟨A,hA⟩:∃ A,A=L.take a:=⟨_,rfl⟩
  obtain ⟨B,hB⟩:∃ B,B=L.drop a:=⟨_,rfl⟩
  have lA:A.length=a:=by rw [hA,List.length_take];omega
  have lB:B.length=L.length - a:=by rw [hB,List.length_drop]
  have b1:A.length * 24≤A6:=by unfold A6;omega
  have b2:(A.length+1) * 24≤A6:=by unfold A6;omega
  have jA:List.map M2 A++[[VV.ls [[VV.i .i64 (m:Int)]]]]=List.map M2 (A++[[(m:Int)]]):=by rw [List.map_append];rfl
  rw [← hA,← hB]
  cases B with
  | nil =>
   have b3:(A.length+1+0) * 24≤A6:=by unfold A6;omega
   have tB:List.take (L.length - a) ([]:List (List Int))=[]:=List.take_nil
   simp only [PQ,Jx,go_sem,↓reduceIte,hm,A5 hmn,hloc,hz,BS,hll',c1,c2n,c2,c3,← hA,← hB,tB,b1,b2,b3,jA,List.length_append,List.length_map]
   rw [A6p hll' (X:=A++[[(m:Int)]]) (ids:=[8]) (by simp only [Jx,go_sem,↓reduceIte,List.length_append,List.length_map])]
   simp only [Jx,go_sem,↓reduceIte,List.length_set,List.length_map]
   rfl
  | cons b0 Bs =>
   rw [List.length_cons] at lB
   obtain ⟨X,hX⟩:∃ X,X=A++[[(m:Int)]]++b0::Bs:=⟨_,rfl⟩
   have tBm:List.take (L.length - a) (M2 b0::List.map M2 Bs)=M2 b0::List.map M2 Bs:=List.take_of_length_le (by simp;omega)
   have jX:List.map M2 (A++[[(m:Int)]])++M2 b0::List.map M2 Bs=List.map M2 X:=by rw [hX,List.map_append (l₁:=A++[[(m:Int)]])];rfl
   have lX:A.length+1+(Bs.length+1)=X.length:=by rw [hX];simp;omega
   have b3:X.length * 24≤A6:=by unfold A6;omega
   simp only [PQ,Jx,go_sem,↓reduceIte,hm,A5 hmn,hloc,hz,BS,hll',c1,c2n,c2,c3,← hA,← hB,tBm,b1,b2,b3,jA,jX,lX,List.length_append,List.length_map]
   rw [A6p hll' (X:=X) (ids:=[8]) (by simp only [Jx,go_sem,↓reduceIte])]
   simp only [Jx,go_sem,↓reduceIte,List.length_set,List.length_map]
   have eX:X=A++[(m:Int)]::b0::Bs:=by rw [hX];simp
   rw [eX];rfl
end
end Go.AM
