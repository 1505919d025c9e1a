/-
  Own work, part of the proof of these laws: what functions compute.
-/
import Derived.Test.YtpnaenhghnkggaaGreatDoorCoG
import Derived.Test.YtpnaenhghnkggaaGreatDoorPB
set_option maxRecDepth 10000
set_option maxHeartbeats 64000000
set_option linter.unusedVariables false
set_option linter.unusedSimpArgs false
set_option linter.unusedSectionVars false
set_option linter.unnecessarySimpa false
open Int (toNat_natCast)
open List (getElem?_eq_getElem length_map length_append take_length foldl_cons foldl_append)
open Nat (zero_le)
namespace Go.AM
open Go Go.Proofs
section
variable {V:Ae} (C:Ai V) {Q:VV->Prop}
include C
theorem HA (i:Int):VP V A5z [.i .i64 i] Q↔Q (vW (Cl i)):=by
 refine Ad ?_
 rw [Ab C.c_z93.1 C.c_z93.2]
 unfold Cl
 by_cases h0:i < 0
 .simp only [YH,go_sem,↓reduceIte,h0]
  rw [if_neg (by omega)]
 .by_cases h1:64<=i
  .simp only [YH,go_sem,↓reduceIte,h0,h1]
   rw [if_neg (by omega)]
  .obtain ⟨n,rfl⟩:=Int.eq_ofNat_of_zero_le (by omega:0<=i)
   simp only [YH,go_sem,↓reduceIte,h0,h1,AgI (show n < 64 by omega)]
   rw [if_pos (by omega)]
theorem AD (s:BitVec 64) (i:Int):VP V A5q [vW s,.i .i64 i] Q↔Q (.b (BG s i)):=by
 refine Ad ?_
 rw [Ab C.c_z73.1 C.c_z73.2]
 simp only [A95,go_sem,↓reduceIte,HA C,Ac3]
theorem BM (s:BitVec 64) (i:Int):VP V VX [vW s,.i .i64 i] Q↔Q (vW (s ||| Cl i)):=by
 refine Ad ?_
 rw [Ab C.c_z122.1 C.c_z122.2]
 simp only [A0X,go_sem,↓reduceIte,HA C]
theorem H7 (s t:BitVec 64):VP V A5c [vW s,vW t] Q↔Q (.b (decide (s &&& ~~~t=0#64))):=by
 refine Ad ?_
 rw [Ab C.c_z41.1 C.c_z41.2]
 simp only [A8Q,go_sem,↓reduceIte]
theorem CN (xs:List Int) (hl:xs.length < 9223372036854775807):VP V Zj [lI xs] Q↔Q (vW (BA xs)):=by
 refine Ad ?_
 rw [Ab C.c_z39.1 C.c_z39.2]
 simp only [A8O,go_sem,↓reduceIte]
 refine Ac (by decide) xs.length hl (I:=fun k F h=>h=[]/\A2.tmp F 6=lI xs/\A2.tmp F 3=vW (BA (xs.take k))) ?_ ?_ 0 _ _ (by omega) ?_ ?_ ?_
 .rintro k F h hk h1 h2 ⟨rfl,h3,h4⟩
  simp only [go_sem,↓reduceIte,h1,h2,h3,h4,getElem?_eq_getElem hk,HA C]
  rw [List.take_succ_eq_append_getElem hk]
  simp only [BA,foldl_append,foldl_cons,List.foldl_nil]
 .rintro F h ⟨rfl,h3,h4⟩
  rw [take_length] at h4
  simp only [go_sem,↓reduceIte,h4]
 all_goals simp only [go_sem,↓reduceIte]
 all_goals rfl
theorem Lf (lo hi:Int) (hlo:lo < 9223372036854775808):VP V PO [.i .i64 lo,.i .i64 hi] Q↔Q (vW (ED lo hi)):=by
 refine Ad ?_
 rw [Ab C.c_z141.1 C.c_z141.2]
 have hm:Vw false hi 64=min hi 64:=by unfold Vw;simp only [cond_false];split<;>omega
 have h0:Vw true lo 0=max lo 0:=by unfold Vw;simp only [cond_true];split<;>omega
 simp only [A1a,go_sem,↓reduceIte]
 unfold VL
 rw [A0]
 refine AU (M:=Nat) (I:=fun k F h=>h=[]/\A2.tmp F 1 = .i .i64 hi/\A2.tmp F 6 = .i .i64 k/\A2.tmp F 5=vW (BO fun i=>decide (lo<=(i:Int)/\i < k))/\lo<=k/\(k:Int)<=max lo (max 0 (min hi 64))) (μ:=fun k=>64 - k) ?_ (max lo 0).toNat _ _ ⟨rfl,?_,?_,?_,?_,?_⟩
 .rintro k F h ⟨rfl,h1,h2,h3,h4,h5⟩
  by_cases hk:(k:Int) < min hi 64
  .simp only [Tl,go_sem,↓reduceIte,h1,h2,h3,hm,hk,A0,HA C]
   have hw:IntKind.i64.wrap ((k:Int)+1)=((k+1:Nat):Int):=by rw [AR (by omega) (by omega)];omega
   refine ⟨k+1,by omega,?_⟩
   rw [hw]
   refine ⟨rfl,?_,by omega,by omega⟩
   rw [Qv _ _ (by omega)]
   congr 1
   apply Cf
   intro j hj
   by_cases e:j=k
   .subst e;simp;omega
   .by_cases e2:j < k
    .have:j < k+1:=by omega
     simp [e,e2,this]
    .have:¬ j < k+1:=by omega
     simp [e,e2,this]
  .simp only [Tl,go_sem,↓reduceIte,h1,h2,h3,hm,hk,Nat.beq_refl]
   congr 1
   apply Cf
   intro j hj
   by_cases e:lo<=(j:Int)
   .have:(j < k)↔((j:Int) < hi):=by omega
    simp [e,this]
   .simp [e]
 .simp only [go_sem,↓reduceIte]
 .simp only [go_sem,↓reduceIte,h0]
  omega
 .simp only [go_sem,↓reduceIte]
  rw [<- Ho]
  congr 1
  apply Cf
  intro j hj
  simp
  omega
 .omega
 .omega
theorem P5 (xs:List Int) (i:Int) (hl:xs.length < 1000) {Q:VV->VH->Prop}:LW V Mh [.p 1 0 0 0,.i .i64 i] [some (AL Bg 1 (xs.map eI)),some ⟨G8,0,0,false,[[.sl 0 xs.length 0 xs.length]]⟩] Q ↔
  Q (.tu []) [some (AL Bg 1 ((xs++[i]).map eI)),some ⟨G8,0,0,false,[[.sl 0 (xs++[i]).length 0 (xs++[i]).length]]⟩]:=by
 refine NX ?_
 rw [H6 C.h_z100]
 have h1:(xs.length+1) * 8<=A9:=by unfold A9;omega
 simp only [A0O,go_sem,↓reduceIte,h1]
theorem Aou (s:BitVec 64) (h:s≠0#64):VP V AI [vW s] Q↔Q (.i .i64 (Lib.ctz 64 s.toNat:Nat)):=by
 refine Ad ?_
 unfold VP
 rw [C.c_mathbits_TrailingZeros64]
 have:=s.isLt
 refine ⟨.i .i64 (Lib.ctz 64 s.toNat:Nat),?_,rfl,rfl⟩
 unfold A3d vW
 simp only
 rw [if_pos (by omega),toNat_natCast]
theorem Yn (s:BitVec 64):LW V MY [vW s,.f Mh [.p 1 0 0 0] []] [some KS,some ⟨G8,0,0,false,[[.sl 0 0 0 0]]⟩]
  fun _ h=>h=[some (AL Bg 1 ((AF s).map eI)),some ⟨G8,0,0,false,[[.sl 0 (AF s).length 0 (AF s).length]]⟩]:=by
 rw [H6 C.h_z99]
 simp only [RP,go_sem,↓reduceIte]
 unfold VL
 rw [A0]
 refine AU (M:=BitVec 64×List Nat) (I:=fun x F h=>A2.tmp F 0=vW x.1/\A2.tmp F 1 = .f Mh [.p 1 0 0 0] []/\x.2++Bw x.1=Bw s/\h=[some (AL Bg 1 ((x.2.map fun (i:Nat)=>(i:Int)).map eI)),some ⟨G8,0,0,false,[[.sl 0 x.2.length 0 x.2.length]]⟩]) (μ:=fun x=>(Bw x.1).length) ?_ (s,[]) _ _ ⟨?_,?_,rfl,rfl⟩
 .rintro ⟨t,l⟩ F h ⟨h1,h2,h3,rfl⟩
  simp only at h1 h2 h3 ⊢
  by_cases ht:t=0#64
  .subst ht
   rw [A2u,List.append_nil] at h3
   simp only [go_sem,↓reduceIte,h1,h2,AF,h3]
  .have hs:=A2t ht
   have hl:l.length < 1000:=by
    have:=congrArg List.length h3
    have h4:=Dj s
    simp only [AF,length_map,length_append] at this h4
    omega
   have hx:=fun Q=>P5 C (l.map fun (i:Nat)=>(i:Int)) (Lib.ctz 64 t.toNat:Nat) (by simpa using hl) (Q:=Q)
   simp only [length_map,length_append,List.length_cons,List.length_nil] at hx
   simp only [go_sem,↓reduceIte,h1,h2,ht,A0,Aou C t ht]
   rw [hx]
   refine ⟨?_,(t &&& (t - 1#64),l++[Lib.ctz 64 t.toNat]),?_,rfl,?_,?_⟩
   .simp only [go_sem]
   .rw [hs];simp
   .rw [<- h3,hs];simp
   .simp
 all_goals simp only [go_sem]
theorem D7 (s:BitVec 64):VP V RU [vW s] Q↔Q (lI (AF s)):=by
 refine Ad ?_
 rw [Ab C.c_z44.1 C.c_z44.2]
 simp only [A8S,go_sem,↓reduceIte,Qa]
 obtain ⟨vf,h1,h2⟩:=Yn C s
 refine ⟨vf,h1,h2.mono ?_⟩
 rintro v _ rfl
 simp only [go_sem,↓reduceIte]
theorem AK (xs:List Int) (n:Int) (hl:xs.length < 9223372036854775807):VP V VD [lI xs,.i .i64 n] Q↔Q (.i .i64 (C7 (fun y=>decide (n=y)) xs)):=by
 refine Ad ?_
 rw [Ab C.c_z101.1 C.c_z101.2]
 simp only [A0P,go_sem,↓reduceIte]
 refine Ac (by decide) xs.length hl (I:=fun k F h=>h=[]/\A2.tmp F 0=lI xs/\A2.tmp F 1 = .i .i64 n/\∀ (j:Nat) (hj:j < xs.length),j < k->¬ n=xs[j]) ?_ ?_ 0 _ _ (by omega) ?_ ?_ ?_
 .rintro k F h hk h1 h2 ⟨rfl,h3,h4,h5⟩
  by_cases e:n=xs[k]
  .subst e
   simp only [go_sem,↓reduceIte,h1,h2,h3,h4,getElem?_eq_getElem hk]
   rw [Di hk (by simp) fun j hj=>by simpa using h5 j (by omega) hj]
  .simp only [go_sem,↓reduceIte,h1,h2,h3,h4,getElem?_eq_getElem hk,e]
   intro j hj h0
   by_cases e2:j=k
   .subst e2;exact e
   .exact h5 j hj (by omega)
 .rintro F h ⟨rfl,h3,h4,h5⟩
  simp only [go_sem,↓reduceIte]
  rw [DE fun x hx=>by obtain ⟨j,hj,e⟩:=List.mem_iff_getElem.1 hx;rw [<- e];simpa using h5 j hj hj]
 all_goals simp only [go_sem,↓reduceIte]
 all_goals first | rfl | (intro j hj h0;omega)
theorem Gt (xs:List Int) (n:Int) (hl:xs.length < 9223372036854775807):VP V VI [lI xs,.i .i64 n] Q↔Q (.b (xs.any fun y=>decide (n=y))):=by
 refine Ad ?_
 rw [Ab C.c_z104.1 C.c_z104.2]
 simp only [A0S,go_sem,↓reduceIte,AK C _ _ hl,JQ]
theorem Ey (xs:List ByteArray) (n:ByteArray) (hl:xs.length < 9223372036854775807):VP V X9 [lS xs,.s n] Q↔Q (.i .i64 (C7 (fun y=>decide (n=y)) xs)):=by
 refine Ad ?_
 rw [Ab C.c_z230.1 C.c_z230.2]
 simp only [A21,go_sem,↓reduceIte]
 refine Ac (by decide) xs.length hl (I:=fun k F h=>h=[]/\A2.tmp F 0=lS xs/\A2.tmp F 1 = .s n/\∀ (j:Nat) (hj:j < xs.length),j < k->¬ n=xs[j]) ?_ ?_ 0 _ _ (by omega) ?_ ?_ ?_
 .rintro k F h hk h1 h2 ⟨rfl,h3,h4,h5⟩
  by_cases e:n=xs[k]
  .subst e
   simp only [go_sem,↓reduceIte,h1,h2,h3,h4,getElem?_eq_getElem hk]
   rw [Di hk (by simp) fun j hj=>by simpa using h5 j (by omega) hj]
  .simp only [go_sem,↓reduceIte,h1,h2,h3,h4,getElem?_eq_getElem hk,e]
   intro j hj h0
   by_cases e2:j=k
   .subst e2;exact e
   .exact h5 j hj (by omega)
 .rintro F h ⟨rfl,h3,h4,h5⟩
  simp only [go_sem,↓reduceIte]
  rw [DE fun x hx=>by obtain ⟨j,hj,e⟩:=List.mem_iff_getElem.1 hx;rw [<- e];simpa using h5 j hj hj]
 all_goals simp only [go_sem,↓reduceIte]
 all_goals first | rfl | (intro j hj h0;omega)
theorem DX (xs:List ByteArray) (n:ByteArray) (hl:xs.length < 9223372036854775807):VP V WQ [lS xs,.s n] Q↔Q (.b (xs.any fun y=>decide (n=y))):=by
 refine Ad ?_
 rw [Ab C.c_z203.1 C.c_z203.2]
 simp only [A1J,go_sem,↓reduceIte,Ey C _ _ hl,JQ]
theorem DJ (xs:List (BitVec 64)) (hl:xs.length < 9223372036854775807) {g:Nat} {a c:List VV} (ha:Fz a) (hc:Fz c) (p:(BitVec 64)->Bool) (hf:∀ x,VP V g (a++[vW x]++c) fun r=>r = .b (p x)) :
  VP V WB [lW xs,.f g a c] Q↔Q (.i .i64 (C7 p xs)):=by
 refine Ad ?_
 rw [Ab C.c_z184.1 C.c_z184.2]
 simp only [A1y,go_sem,↓reduceIte]
 refine Ac (by decide) xs.length hl (I:=fun k F h=>h=[]/\A2.tmp F 0=lW xs/\A2.tmp F 1 = .f g a c/\∀ (j:Nat) (hj:j < xs.length),j < k->p xs[j]=false) ?_ ?_ 0 _ _ (by omega) ?_ ?_ ?_
 .rintro k F h hk h1 h2 ⟨rfl,h3,h4,h5⟩
  have hq:=fun Q=>Ad (hf xs[k]) (Q:=Q)
  have h0:=ha.call hc (h:=[]) (x:=[vW xs[k]]) rfl
  cases e:p xs[k] with
  | true =>
   simp only [go_sem,↓reduceIte,h1,h2,h3,h4,getElem?_eq_getElem hk,h0,hq,e]
   rw [Di hk e fun j hj=>h5 j (by omega) hj]
  | false =>
   simp only [go_sem,↓reduceIte,h1,h2,h3,h4,getElem?_eq_getElem hk,h0,hq,e]
   have h7:Lh 0 (.f g a c) = .f g a c:=by
    have h1:CA 0 a=true:=Fz.bel ha
    have h2:CA 0 c=true:=Fz.bel hc
    simp [Lh,bel,h1,h2]
   simp only [A8i,Fz.bel ha,Fz.bel hc,Bool.and_self,cond_true,true_and]
   intro j hj h6
   by_cases e2:j=k
   .subst e2;exact e
   .exact h5 j hj (by omega)
 .rintro F h ⟨rfl,h3,h4,h5⟩
  simp only [go_sem,↓reduceIte]
  rw [DE fun x hx=>by obtain ⟨j,hj,e⟩:=List.mem_iff_getElem.1 hx;rw [<- e];exact h5 j hj hj]
 all_goals simp only [go_sem,↓reduceIte]
 all_goals first | rfl | (intro j hj h6;omega)
theorem Do (xs:List (BitVec 64)) (hl:xs.length < 9223372036854775807) {g:Nat} {a c:List VV} (ha:Fz a) (hc:Fz c) (p:(BitVec 64)->Bool) (hf:∀ x,VP V g (a++[vW x]++c) fun r=>r = .b (p x)) :
  VP V Wa [lW xs,.f g a c] Q↔Q (.b (xs.any p)):=by
 refine Ad ?_
 rw [Ab C.c_z142.1 C.c_z142.2]
 simp only [A1b,go_sem,↓reduceIte,DJ C xs hl ha hc p hf,Fz.eq ha,Fz.eq hc,JQ]
theorem EY (xs:List Int) (hl:xs.length < 9223372036854775807) {g:Nat} {a c:List VV} (ha:Fz a) (hc:Fz c) (p:Int->Bool) (hf:∀ x,VP V g (a++[.i .i64 x]++c) fun r=>r = .b (p x)) :
  VP V Xk [lI xs,.f g a c] Q↔Q (.i .i64 (C7 p xs)):=by
 refine Ad ?_
 rw [Ab C.c_z242.1 C.c_z242.2]
 simp only [A2a,go_sem,↓reduceIte]
 refine Ac (by decide) xs.length hl (I:=fun k F h=>h=[]/\A2.tmp F 0=lI xs/\A2.tmp F 1 = .f g a c/\∀ (j:Nat) (hj:j < xs.length),j < k->p xs[j]=false) ?_ ?_ 0 _ _ (by omega) ?_ ?_ ?_
 .rintro k F h hk h1 h2 ⟨rfl,h3,h4,h5⟩
  have hq:=fun Q=>Ad (hf xs[k]) (Q:=Q)
  have h0:=ha.call hc (h:=[]) (x:=[.i .i64 xs[k]]) rfl
  cases e:p xs[k] with
  | true =>
   simp only [go_sem,↓reduceIte,h1,h2,h3,h4,getElem?_eq_getElem hk,h0,hq,e]
   rw [Di hk e fun j hj=>h5 j (by omega) hj]
  | false =>
   simp only [go_sem,↓reduceIte,h1,h2,h3,h4,getElem?_eq_getElem hk,h0,hq,e]
   have h7:Lh 0 (.f g a c) = .f g a c:=by
    have h1:CA 0 a=true:=Fz.bel ha
    have h2:CA 0 c=true:=Fz.bel hc
    simp [Lh,bel,h1,h2]
   simp only [A8i,Fz.bel ha,Fz.bel hc,Bool.and_self,cond_true,true_and]
   intro j hj h6
   by_cases e2:j=k
   .subst e2;exact e
   .exact h5 j hj (by omega)
 .rintro F h ⟨rfl,h3,h4,h5⟩
  simp only [go_sem,↓reduceIte]
  rw [DE fun x hx=>by obtain ⟨j,hj,e⟩:=List.mem_iff_getElem.1 hx;rw [<- e];exact h5 j hj hj]
 all_goals simp only [go_sem,↓reduceIte]
 all_goals first | rfl | (intro j hj h6;omega)
theorem Eh (xs:List Int) (hl:xs.length < 9223372036854775807) {g:Nat} {a c:List VV} (ha:Fz a) (hc:Fz c) (p:Int->Bool) (hf:∀ x,VP V g (a++[.i .i64 x]++c) fun r=>r = .b (p x)) :
  VP V Xb [lI xs,.f g a c] Q↔Q (.b (xs.any p)):=by
 refine Ad ?_
 rw [Ab C.c_z232.1 C.c_z232.2]
 simp only [A22,go_sem,↓reduceIte,EY C xs hl ha hc p hf,Fz.eq ha,Fz.eq hc,JQ]
theorem Ew (xs:List (List Int)) (hl:xs.length < 9223372036854775807) {g:Nat} {a c:List VV} (ha:Fz a) (hc:Fz c) (p:List Int->Bool) (hf:∀ x∈xs,VP V g (a++[lI x]++c) fun r=>r = .b (p x)) :
  VP V VE [.ls (xs.map M5),.f g a c] Q↔Q (.i .i64 (C7 p xs)):=by
 refine Ad ?_
 rw [Ab C.c_z102.1 C.c_z102.2]
 simp only [A0Q,go_sem,↓reduceIte]
 refine Ac (by decide) xs.length hl (I:=fun k F h=>h=[]/\A2.tmp F 0 = .ls (xs.map M5)/\A2.tmp F 1 = .f g a c/\∀ (j:Nat) (hj:j < xs.length),j < k->p xs[j]=false) ?_ ?_ 0 _ _ (by omega) ?_ ?_ ?_
 .rintro k F h hk h1 h2 ⟨rfl,h3,h4,h5⟩
  have hq:=fun Q=>Ad (hf xs[k] (List.getElem_mem hk)) (Q:=Q)
  have h0:=ha.call hc (h:=[]) (x:=[lI (xs[k])]) rfl
  cases e:p xs[k] with
  | true =>
   simp only [go_sem,↓reduceIte,h1,h2,h3,h4,getElem?_eq_getElem hk,h0,hq,e]
   rw [Di hk e fun j hj=>h5 j (by omega) hj]
  | false =>
   simp only [go_sem,↓reduceIte,h1,h2,h3,h4,getElem?_eq_getElem hk,h0,hq,e]
   have h7:Lh 0 (.f g a c) = .f g a c:=by
    have h1:CA 0 a=true:=Fz.bel ha
    have h2:CA 0 c=true:=Fz.bel hc
    simp [Lh,bel,h1,h2]
   simp only [A8i,Fz.bel ha,Fz.bel hc,Bool.and_self,cond_true,true_and]
   intro j hj h6
   by_cases e2:j=k
   .subst e2;exact e
   .exact h5 j hj (by omega)
 .rintro F h ⟨rfl,h3,h4,h5⟩
  simp only [go_sem,↓reduceIte]
  rw [DE fun x hx=>by obtain ⟨j,hj,e⟩:=List.mem_iff_getElem.1 hx;rw [<- e];exact h5 j hj hj]
 all_goals simp only [go_sem,↓reduceIte]
 all_goals first | rfl | (intro j hj h6;omega)
theorem JG (xs ys:List Int) (hl:xs.length < 9223372036854775807):VP V Zl [lI xs,lI ys] Q↔Q (.b (decide (xs=ys))):=by
 refine Ad ?_
 rw [Ab C.c_z43.1 C.c_z43.2]
 by_cases hxy:xs.length=ys.length
 .simp only [A3J,go_sem,↓reduceIte,hxy]
  refine Ac (by decide) ys.length (by omega) (I:=fun k F h=>h=[]/\A2.tmp F 0=lI xs/\A2.tmp F 1=lI ys/\∀ (j:Nat) (hj:j < xs.length) (h0:j < ys.length),j < k->xs[j]=ys[j]) ?_ ?_ 0 _ _ (by omega) ?_ ?_ ?_
  .rintro k F h hk h1 h2 ⟨rfl,h3,h4,h5⟩
   have h6:k < xs.length:=by omega
   by_cases e:xs[k]=ys[k]
   .simp only [go_sem,↓reduceIte,h1,h2,h3,h4,getElem?_eq_getElem hk,getElem?_eq_getElem h6,e]
    intro j hj h0 h7
    by_cases e2:j=k
    .subst e2;exact e
    .exact h5 j hj h0 (by omega)
   .simp only [go_sem,↓reduceIte,h1,h2,h3,h4,getElem?_eq_getElem hk,getElem?_eq_getElem h6,e]
    refine (decide_eq_false ?_).symm
    rintro rfl
    exact e rfl
  .rintro F h ⟨rfl,h3,h4,h5⟩
   simp only [go_sem,↓reduceIte]
   exact (decide_eq_true (List.ext_getElem hxy fun j hj h0=>h5 j hj h0 h0)).symm
  all_goals simp only [go_sem,↓reduceIte]
  all_goals first | rfl | (intro j hj h0 h7;omega)
 .simp only [A3J,go_sem,↓reduceIte,Int.natCast_inj,hxy]
  refine (decide_eq_false ?_).symm
  rintro rfl
  exact hxy rfl
end
@[go_sem] theorem A7v {n k:Nat} {f:Nat->BitVec 64} {z:BitVec 64}:((CS n k f z).map eW).set k [vW (f k)]=(CS n (k+1) f z).map eW:=LU eW
@[go_sem] theorem AhH {n k:Nat} {f:Nat->Int} {z:Int}:((CS n k f z).map eI).set k [.i .i64 (f k)]=(CS n (k+1) f z).map eI:=LU eI
@[go_sem] theorem AhG {α:Type} {n k:Nat} {f:Nat->α} {z:α}:(CS n k f z).take n=CS n k f z:=by rw [List.take_of_length_le];rw [QJ];exact Nat.le_refl n
attribute [go_sem] QJ List.length_range
@[go_sem] theorem AgG (n:Nat):(List.range n).take n=List.range n:=by rw [List.take_of_length_le];simp
@[go_sem] theorem Aqo (n:Nat) (w:BitVec 64):List.replicate n [vW w]=(List.replicate n w).map eW:=by simp
@[go_sem] theorem Aqn (n:Nat) (w:Int):List.replicate n [VV.i .i64 w]=(List.replicate n w).map eI:=by simp
abbrev eP (p:Int×Int):List VV:=[.i .i64 p.1,.i .i64 p.2]
abbrev lP (l:List (Int×Int)):VV:=.ls (l.map eP)
@[go_sem] theorem Aol (xs:List (Int×Int)) (x y:Int):xs.map eP++[[.i .i64 x,.i .i64 y]]=(xs++[(x,y)]).map eP:=by simp
theorem Fz.of {a:List VV} (h:∀ h d,Bk (frz h (d+3)) a=some (a,[])):Fz a:=h
section
variable {V:Ae} (C:Ai V) {Q:VV->Prop}
include C
theorem ZN (x all:BitVec 64):VP V PQ [vW x,.fp [vW all] 0] Q↔Q (.b (!decide (x &&& ~~~all=0#64))):=by
 refine Ad ?_
 rw [Ab C.c_z143.1 C.c_z143.2]
 simp only [A1c,go_sem,↓reduceIte,H7 C]
theorem Cd (r:Rows):VP V MX [lW r] Q↔Q (.b (Dz r)):=by
 refine Ad ?_
 rw [Ab C.c_z72.1 C.c_z72.2]
 by_cases hl:r.length<=64
 .have h0:¬ (64:Int) < r.length:=by omega
  simp only [A3P,go_sem,↓reduceIte,h0,Lf C 0 _ (by omega),
   Do C r (by omega) (g:=PQ) (a:=[]) (c:=[.fp [vW (ED 0 r.length)] 0]) Fz.nil (fun _ _=>rfl) (fun x=>!decide (x &&& ~~~(ED 0 r.length)=0#64)) (fun x=>(ZN C _ _).2 rfl)]
  simp only [Dz,hl,go_sem,List.not_any_eq_all_not,Bool.not_not]
 .have h0:(64:Int) < r.length:=by omega
  simp only [A3P,go_sem,↓reduceIte,h0,Bool.true_eq_false]
  simp [Dz,hl]
theorem A31 {n:Nat} (hl:n<=1000) {gf:Nat} {a c:List VV} (ha:Fz a) (hc:Fz c) (row:Nat->BitVec 64)
  (hp:∀ (i:Nat),i < n->VP V gf (a++[.i .i64 (i:Nat)]++c) fun r=>r=vW (row i)) :
  VP V PL [.i .i64 n,.f gf a c] Q↔Q (lW ((List.range n).map row)):=by
 refine Ad ?_
 rw [Ab C.c_z134.1 C.c_z134.2]
 have h0:n * 8<=A9:=by unfold A9;omega
 simp only [SX,go_sem,↓reduceIte,h0,Int.le_refl]
 refine Ac (by decide) n (by omega) (I:=fun k F h=>A2.tmp F 1 = .f gf a c/\A2.tmp F 5 = .sl 0 0 0 n/\h=[some ⟨C1,1,0,false,(CS n k row 0#64).map eW⟩]) ?_ ?_ 0 _ _ (by omega) ?_ ?_ ?_
 .rintro k F h hk h1 h2 ⟨h3,h4,rfl⟩
  have hq:=fun Q=>Ad (hp k hk) (Q:=Q)
  have h5:=ha.call hc (h:=[some ⟨C1,1,0,false,(CS n k row 0#64).map eW⟩]) (x:=[.i .i64 (k:Nat)]) rfl
  simp only [go_sem,↓reduceIte,h1,h2,h3,h4,hk,h5,hq,JJ hk,Fz.bel ha,Fz.bel hc]
 .rintro F h ⟨h3,h4,rfl⟩
  simp only [go_sem,↓reduceIte,h4,Hr]
 all_goals simp only [go_sem,↓reduceIte]
 all_goals first | rfl | rw [G6]
theorem ZP {n:Nat} (hl:n<=1000) {gf:Nat} {a c:List VV} (ha:Fz a) (hc:Fz c) (row:Nat->BitVec 64) (b0:Nat) {Q':VV->VH->Prop}
  (hp:∀ (i:Nat),i < n->VP V gf (a++[.i .i64 (i:Nat)]++c) fun r=>r=vW (row i)) :
  VP1 V PL [.i .i64 n,.f gf a c] b0 Q'↔Q' (.sl b0 0 0 n) [some ⟨C1,1,0,false,((List.range n).map row).map eW⟩]:=by
 refine M0 ?_
 rw [M1 C.c_z134.2]
 have h0:n * 8<=A9:=by unfold A9;omega
 simp only [SX,go_sem,↓reduceIte,h0,Int.le_refl]
 refine Ac (by decide) n (by omega) (I:=fun k F h=>A2.tmp F 1 = .f gf a c/\A2.tmp F 5 = .sl 0 0 0 n/\h=[some ⟨C1,1,0,false,(CS n k row 0#64).map eW⟩]) ?_ ?_ 0 _ _ (by omega) ?_ ?_ ?_
 .rintro k F h hk h1 h2 ⟨h3,h4,rfl⟩
  have hq:=fun Q=>Ad (hp k hk) (Q:=Q)
  have h5:=ha.call hc (h:=[some ⟨C1,1,0,false,(CS n k row 0#64).map eW⟩]) (x:=[.i .i64 (k:Nat)]) rfl
  simp only [go_sem,↓reduceIte,h1,h2,h3,h4,hk,h5,hq,JJ hk,Fz.bel ha,Fz.bel hc]
 .rintro F h ⟨h3,h4,rfl⟩
  simp only [go_sem,↓reduceIte,h4,Hr,Bo]
  simp
 all_goals simp only [go_sem,↓reduceIte]
 all_goals first | rfl | rw [G6]
theorem JC (a b:Rows):VP V WA [.ag [lW a,lW b]] Q↔Q (.b (Dz a && Dz b && decide (a.length=b.length))):=by
 refine Ad ?_
 rw [Ab C.c_z182.1 C.c_z182.2]
 cases hma:Dz a<;>cases hmb:Dz b <;>
  simp only [A1w,go_sem,↓reduceIte,Cd C,hma,hmb,Int.natCast_inj]
omit C in
theorem Dq {a:Rows} {i:Nat} (h:i < a.length):a[i]? = some (a.getD i 0#64):=by rw [Ac1 h,getElem?_eq_getElem h]
theorem Rm (a b:Rows) {i:Nat} (hi:i < a.length) (hi':i < b.length):VP V PK [.ag [lW a,lW b],.i .i64 i] Q↔Q (vW (a.getD i 0#64 ||| b.getD i 0#64)):=by
 refine Ad ?_
 rw [Ab C.c_z133.1 C.c_z133.2]
 simp only [A14,go_sem,↓reduceIte,Dq hi,Dq hi']
theorem Ni (a b:Rows) {gf:Nat} {fa fc:List VV} (ha:Fz fa) (hc:Fz fc) (row:Nat->BitVec 64)
  (hp:a.length=b.length->a.length<=64->∀ (i:Nat),i < a.length->VP V gf (fa++[.i .i64 (i:Nat)]++fc) fun r=>r=vW (row i)) :
  VP V W5 [.ag [lW a,lW b],.f gf fa fc] Q↔Q (lW (if Dz a && Dz b && decide (a.length=b.length) then (List.range a.length).map row else [])):=by
 refine Ad ?_
 rw [Ab C.c_z132.1 C.c_z132.2]
 cases hm:(Dz a && Dz b && decide (a.length=b.length)) with
 | false=>simp only [SW,go_sem,↓reduceIte,JC C,hm,Bool.false_eq_true]
 | true =>
  have h0:=hm
  simp only [Bool.and_eq_true,decide_eq_true_eq] at h0
  have hl:=Lt h0.1.1
  simp only [SW,go_sem,↓reduceIte,JC C,hm,A31 C (show a.length<=1000 by omega) ha hc row (fun i hi=>hp h0.2 hl i hi),Fz.eq ha,Fz.eq hc]
theorem ZO (a b:Rows):VP V A5n [lW a,lW b] Q↔Q (lW (orF a b)):=by
 refine Ad ?_
 rw [Ab C.c_z67.1 C.c_z67.2]
 simp only [A91,go_sem,↓reduceIte,
  Ni C a b (gf:=PK) (fa:=[.ag [lW a,lW b]]) (fc:=[]) (fun _ _=>rfl) Fz.nil (fun i=>a.getD i 0#64 ||| b.getD i 0#64) (fun h1 h2 i hi=>(Rm C a b hi (by omega)).2 rfl)]
 rfl
theorem A30 (a:Rows) (hl:a.length<=64) (s:BitVec 64):VP V Wy [lW a,vW s] Q↔Q (vW (Dr a s)):=by
 refine Ad ?_
 rw [Ab C.c_z176.1 C.c_z176.2]
 simp only [A1r,go_sem,↓reduceIte,Lf C 0 _ (by omega),D7 C]
 have h1:=Dj (s &&& ED 0 a.length)
 have h7:∀ i,i∈Bw (s &&& ED 0 a.length)->i < a.length:=by
  intro i hi
  have:=(YZ hi).2
  rw [BitVec.getLsbD_and,ED,Aw] at this
  simp at this
  omega
 unfold Dr
 unfold AF at h1 ⊢
 generalize Bw (s &&& ED 0 a.length)=L at *
 refine Ac (by decide) (L.map fun (i:Nat)=>(i:Int)).length (by omega) (I:=fun k F h=>h=[]/\A2.tmp F 0=lW a/\A2.tmp F 13=lI (L.map fun (i:Nat)=>(i:Int))/\A2.tmp F 5=vW ((L.take k).foldl (fun x i=>x ||| a.getD i 0#64) 0#64)) ?_ ?_ 0 _ _ (by omega) ?_ ?_ ?_
 .rintro k F h hk h2 h3 ⟨rfl,h4,h5,h6⟩
  have h0:k < L.length:=by simpa using hk
  simp only [go_sem,↓reduceIte,h2,h3,h4,h5,h6,getElem?_eq_getElem h0,Dq (h7 _ (List.getElem_mem h0))]
  rw [List.take_succ_eq_append_getElem h0,foldl_append,foldl_cons,List.foldl_nil]
 .rintro F h ⟨rfl,h4,h5,h6⟩
  rw [length_map,take_length] at h6
  simp only [go_sem,↓reduceIte,h6]
 all_goals simp only [go_sem,↓reduceIte]
 all_goals rfl
theorem Qq (a:Rows) (hm:Dz a=true) (s:BitVec 64):VP V VU [lW a,vW s] Q↔Q (vW (Dr a s)):=by
 refine Ad ?_
 rw [Ab C.c_z120.1 C.c_z120.2]
 simp only [A0W,go_sem,↓reduceIte,Cd C,hm,A30 C a (Lt hm)]
theorem Kq (a:Rows) (hm:Dz a=true) (s:BitVec 64):VP V KK [lW a,vW s] Q↔Q (vW (Dr a s)):=by
 refine Ad ?_
 rw [Ab C.c_z131.1 C.c_z131.2]
 simp only [A13,go_sem,↓reduceIte,Qq C a hm]
theorem R8 (a:Rows) (hm:Dz a=true) (s:BitVec 64):VP V PJ [lW a,vW s,.f KK [] []] Q↔Q (vW (Jj a s)):=by
 refine Ad ?_
 rw [Ab C.c_z130.1 C.c_z130.2]
 simp only [A12,go_sem,↓reduceIte]
 unfold VL
 rw [A0]
 refine AU (M:=BitVec 64) (I:=fun t F h=>h=[]/\A2.tmp F 0=lW a/\A2.tmp F 1=vW t/\A2.tmp F 2 = .f KK [] []/\Jj a t=Jj a s) (μ:=fun t=>18446744073709551616 - t.toNat) ?_ s _ _ ⟨rfl,?_,?_,?_,rfl⟩
 .rintro t F h ⟨rfl,h0,h1,h2,h3⟩
  have hs:=A0A a t
  by_cases e:t ||| Dr a t=t
  .rw [if_pos e] at hs
   simp only [Tk,go_sem,↓reduceIte,h0,h1,h2,A0,Kq C a hm,e]
   rw [<- h3,hs]
  .rw [if_neg e] at hs
   simp only [Tk,go_sem,↓reduceIte,h0,h1,h2,A0,Kq C a hm,e]
   have:=LC e
   have:=(t ||| Dr a t).isLt
   exact ⟨t ||| Dr a t,by omega,rfl,by rw [<- h3,hs]⟩
 all_goals simp only [go_sem,↓reduceIte]
theorem HP (a:Rows):VP V A5m [lW a] Q↔Q (lW (Cs a)):=by
 refine Ad ?_
 rw [Ab C.c_z66.1 C.c_z66.2]
 cases hm:Dz a with
 | false=>simp only [A3N,go_sem,↓reduceIte,Cd C,hm,Cs,Bool.false_eq_true]
 | true =>
  have hl:=Lt hm
  have h0:a.length * 8<=A9:=by unfold A9;omega
  simp only [A3N,go_sem,↓reduceIte,Cd C,hm,h0,Int.le_refl]
  refine Ac (by decide) a.length (by omega) (I:=fun k F h=>A2.tmp F 0=lW a/\A2.tmp F 12=lW a/\A2.tmp F 3 = .sl 0 0 0 a.length/\h=[some ⟨C1,1,0,false,(CS a.length k (fun i=>Jj a (a.getD i 0#64)) 0#64).map eW⟩]) ?_ ?_ 0 _ _ (by omega) ?_ ?_ ?_
  .rintro k F h hk h1 h2 ⟨h3,h4,h5,rfl⟩
   have hu:=A7v (n:=a.length) (k:=k) (f:=fun i=>Jj a (a.getD i 0#64)) (z:=0#64)
   simp only [go_sem,↓reduceIte,h1,h2,h3,h4,h5,hk,Dq hk,R8 C a hm,JJ hk,hu]
  .rintro F h ⟨h3,h4,h5,rfl⟩
   simp only [go_sem,↓reduceIte,h5,Hr,Cs,hm]
  all_goals simp only [go_sem,↓reduceIte]
  all_goals first | rfl | rw [G6]
theorem Qr (a:Rows) (s:BitVec 64) {i:Nat} (hi:i < a.length):VP V PM [.ag [lW a,vW s],.i .i64 i] Q↔Q (vW (if BG s (i:Int) then a.getD i 0#64 &&& s else 0#64)):=by
 refine Ad ?_
 rw [Ab C.c_z135.1 C.c_z135.2]
 cases hh:BG s (i:Int)<;>simp only [A15,go_sem,↓reduceIte,AD C,hh,Dq hi,Bool.false_eq_true]
theorem A2Z (a:Rows) (s:BitVec 64):VP V A5o [lW a,vW s] Q↔Q (lW (YV a s)):=by
 refine Ad ?_
 rw [Ab C.c_z68.1 C.c_z68.2]
 cases hm:Dz a with
 | false=>simp only [A3O,go_sem,↓reduceIte,Cd C,hm,YV,Bool.false_eq_true]
 | true =>
  have hl:=Lt hm
  simp only [A3O,go_sem,↓reduceIte,Cd C,hm,YV,
   ZP C (show a.length<=1000 by omega) (gf:=PM) (a:=[.ag [lW a,vW s]]) (c:=[]) (fun _ _=>rfl) Fz.nil (fun (i:Nat)=>if BG s (i:Int) then a.getD i 0#64 &&& s else 0#64) 0 (fun i hi=>(Qr C a s hi).2 rfl)]
theorem KU (n:Nat) (hn:n<=64) (b:Nat) {Q:VV->VH->Prop}:VP1 V VS [.i .i64 n] b Q↔Q (.sl b 0 0 n) [some ⟨C1,1,0,false,(List.replicate n 0#64).map eW⟩]:=by
 refine M0 ?_
 rw [M1 C.c_z118.2]
 have h0:n * 8<=A9:=by unfold A9;omega
 have h1:¬ (64:Int) < n:=by omega
 have h2:¬ (n:Int) < 0:=by omega
 simp only [A0U,go_sem,↓reduceIte,h0,h1,h2,Int.le_refl,Bo]
 simp
theorem N0 (a:Rows):VP V PU [lW a] Q↔Q (lP (Bc a)):=by
 refine Ad ?_
 rw [Ab C.c_z174.1 C.c_z174.2]
 cases hm:Dz a with
 | false=>simp only [T4,go_sem,↓reduceIte,Cd C,hm,Bc,Bool.false_eq_true,Qa]
 | true =>
  have hl:=Lt hm
  simp only [T4,go_sem,↓reduceIte,Cd C,hm,Qa]
  refine Ac (by decide) a.length (by omega) (I:=fun k F h=>A2.tmp F 12=lW a/\∃ l,l=((List.range k).flatMap (fun (i:Nat)=>(AF (a.getD i 0#64)).map fun j=>((i:Int),j)))/\A2.tmp F 3 = .sl 0 l.length 0 l.length/\h=[some (AL A3l 2 (l.map eP))]) ?_ ?_ 0 _ _ (by omega) ?_ ?_ ?_
  .rintro k F h hk h1 h2 ⟨h3,l,h0,h4,rfl⟩
   simp only [go_sem,↓reduceIte,h1,h2,h3,h4,Dq hk,D7 C]
   have h8:=Dj (a.getD k 0#64)
   have h7:=Mp a k
   rw [<- h0] at h7
   refine Ac (by decide) (AF (a.getD k 0#64)).length (by omega) (I:=fun m F h=>A2.tmp F 14 = .i .i64 k/\A2.tmp F 13 = .i .i64 a.length/\A2.tmp F 12=lW a/\A2.tmp F 20=lI (AF (a.getD k 0#64))/\A2.tmp F 4 = .i .i64 k/\∃ l',l' = l++((AF (a.getD k 0#64)).take m).map (fun j=>((k:Int),j))/\A2.tmp F 3 = .sl 0 l'.length 0 l'.length/\h=[some (AL A3l 2 (l'.map eP))]) ?_ ?_ 0 _ _ (by omega) ?_ ?_ ?_
   .rintro m G h h6 j1 j2 ⟨j4,j5,j6,j7,j8,l',h5,j9,rfl⟩
    have hb:(l'.length+1) * 16<=A9:=by
     have:l'.length<=10000:=by
      rw [h5,length_append,length_map,List.length_take];omega
     unfold A9;omega
    simp only [go_sem,↓reduceIte,j1,j2,j4,j5,j6,j7,j8,j9,getElem?_eq_getElem h6,hb]
    refine ⟨_,?_,by rw [length_append];rfl,rfl⟩
    rw [h5,List.take_succ_eq_append_getElem h6,List.map_append,List.append_assoc];rfl
   .rintro G h ⟨j4,j5,j6,j7,j8,l',h5,j9,rfl⟩
    simp only [go_sem,↓reduceIte,j4,j5,j6,j9]
    refine ⟨_,?_,rfl,rfl⟩
    rw [h5,take_length,h0,List.flatMap_append];simp
   all_goals simp only [go_sem,↓reduceIte,h1,h2,h3,h4]
   all_goals first | rfl | exact ⟨l,by simp,rfl,rfl⟩
  .rintro F h ⟨h3,l,h0,h4,rfl⟩
   simp only [go_sem,↓reduceIte,h4,Bc,hm,<- h0]
  all_goals simp only [go_sem,↓reduceIte]
  all_goals first | rfl | exact ⟨[],rfl,rfl,rfl⟩
end
theorem Abt {e:Option NP} (s:BitVec 64) {n:Nat} (h:n < 64):B2 .shr e (Wd s) (.i .u64 n)=some (Wd (s >>> n)):=by
 have h0:¬ ((n:Int) < 0):=by omega
 simp only [Wd,B2,Ge,if_neg h0,IntKind.bits,Option.some.injEq,AV.i.injEq,true_and,toNat_natCast]
 rw [Nat.min_eq_left (by omega),BitVec.toNat_ushiftRight,Nat.shiftRight_eq_div_pow]
 rw [show ((2:Int) ^ n)=((2 ^ n:Nat):Int) by simp,Int.fdiv_eq_ediv_of_nonneg _ (Int.natCast_nonneg _)]
 rfl
theorem Abs {e:Option NP} (s:BitVec 64):B2 .rem e (Wd s) (.i .u64 2)=some (Wd (if s.getLsbD 0 then 1#64 else 0#64)):=by
 rw [Wd,A89 (by decide)]
 simp only [Option.some.injEq,Wd,AV.i.injEq,true_and]
 have h0:s.getLsbD 0=decide (s.toNat % 2=1):=by
  show s.toNat.testBit 0=_
  simp [Nat.testBit_zero]
 rw [h0]
 have:(s.toNat:Int).tmod 2=((s.toNat % 2:Nat):Int):=by
  rw [Int.tmod_eq_emod_of_nonneg (Int.natCast_nonneg _)]
  rfl
 rw [this]
 by_cases h:s.toNat % 2=1
 .simp [h]
 .have:s.toNat % 2=0:=by omega
  simp [this]
theorem AdF {e:Option NP} (s:BitVec 64) {n:Nat} (h:n < 64):B6 .shr e (vW s) (.i .u64 n)=some (vW (s >>> n)):=by
 show (B2 .shr e (Wd s) (.i .u64 n)).bind Gm=_
 rw [Abt s h];rfl
theorem AdE {e:Option NP} (s:BitVec 64):B6 .rem e (vW s) (.i .u64 2)=some (vW (if s.getLsbD 0 then 1#64 else 0#64)):=by
 show (B2 .rem e (Wd s) (.i .u64 2)).bind Gm=_
 rw [Abs s];rfl
section
variable {V:Ae} (C:Ai V) {Q:VV->Prop}
include C
theorem Qm (s:BitVec 64) (i:Int):VP V A5h [vW s,.i .i64 i] Q↔Q (.b (BG s i)):=by
 refine Ad ?_
 rw [Ab C.c_z57.1 C.c_z57.2]
 by_cases h0:i < 0
 .have:BG s i=false:=by unfold BG;simp;omega
  simp only [YF,go_sem,↓reduceIte,h0,this]
 .by_cases h1:63 < i
  .have:BG s i=false:=by
    unfold BG
    rw [BitVec.getLsbD_of_ge _ _ (by omega)]
    simp
   simp only [YF,go_sem,↓reduceIte,h0,h1,this]
  .obtain ⟨n,rfl⟩:=Int.eq_ofNat_of_zero_le (by omega:0<=i)
   have hw:IntKind.u64.wrap (n:Int)=n:=by rw [Hu];omega
   have hs:∀ e,B6 .shr e (vW s) (.i .u64 (n:Int))=some (vW (s >>> n)):=fun e=>AdF s (by omega)
   simp only [YF,go_sem,↓reduceIte,h0,h1,hw,hs,AdE]
   rw [Au,BitVec.getLsbD_ushiftRight,Nat.add_zero]
   cases s.getLsbD n<;>rfl
theorem Rl (s t:BitVec 64):VP V A5a [vW s,vW t] Q↔Q (.b (decide (s ||| t=t))):=by
 refine Ad ?_
 rw [Ab C.c_z36.1 C.c_z36.2]
 simp only [A8M,go_sem,↓reduceIte]
theorem Xz (n:Nat) (hn:n < 64):VP V Wg [.i .i64 n] Q↔Q (vW (1#64 <<< n)):=by
 refine Ad ?_
 rw [Ab C.c_z151.1 C.c_z151.2]
 simp only [A1g,go_sem,↓reduceIte]
 refine Al (by decide) n (by omega) (I:=fun k F h=>h=[]/\A2.tmp F 0 = .i .i64 n/\A2.tmp F 3=vW (1#64 <<< k)) ?_ ?_ ?_ 0 _ _ (zero_le _) ?_ ?_
 .rintro k F h hk h1 ⟨rfl,h2,h3⟩
  simp only [go_sem,↓reduceIte,h1,h2,h3]
 .rintro k F h hk h1 ⟨rfl,h2,h3⟩
  simp only [go_sem,↓reduceIte,h1,h2,h3]
  congr 1
  apply BitVec.eq_of_toNat_eq
  rw [BitVec.toNat_add,BitVec.toNat_shiftLeft,BitVec.toNat_shiftLeft]
  simp only [Nat.shiftLeft_eq]
  have:(1#64).toNat=1:=rfl
  rw [this,Nat.pow_succ]
  omega
 .rintro F h ⟨rfl,h2,h3⟩
  simp only [go_sem,↓reduceIte,h3]
 all_goals simp only [go_sem,↓reduceIte]
 all_goals rfl
theorem Qn (s:BitVec 64) (i:Int):VP V A5v [vW s,.i .i64 i] Q↔Q (vW (s ||| Cl i)):=by
 refine Ad ?_
 rw [Ab C.c_z83.1 C.c_z83.2]
 by_cases h0:i < 0
 .have:Cl i=0#64:=by unfold Cl;rw [if_neg (by omega)]
  simp only [RO,go_sem,↓reduceIte,h0,this,BitVec.or_zero]
 .by_cases h1:63 < i
  .have:Cl i=0#64:=by unfold Cl;rw [if_neg (by omega)]
   simp only [RO,go_sem,↓reduceIte,h0,h1,this,BitVec.or_zero]
  .obtain ⟨n,rfl⟩:=Int.eq_ofNat_of_zero_le (by omega:0<=i)
   have h2:Cl (n:Int)=1#64 <<< n:=by unfold Cl;rw [if_pos (by omega)];rfl
   cases hb:BG s n with
   | true =>
    simp only [RO,go_sem,↓reduceIte,h0,h1,Qm C,hb]
    congr 1
    apply B4
    intro j hj
    rw [BitVec.getLsbD_or,C3]
    by_cases e:j=n
    .subst e;rw [Au] at hb;simp [hb]
    .have:¬ ((j:Int)=n):=by omega
     simp [this]
   | false =>
    simp only [RO,go_sem,↓reduceIte,h0,h1,Qm C,hb,Xz C n (by omega)]
    congr 1
    rw [h2]
    apply BitVec.add_eq_or_of_and_eq_zero
    rw [<- h2,MG]
    rw [Au] at hb
    simp [hb]
theorem A7d (xs:List Int) (hl:xs.length < 9223372036854775807):VP V A5b [lI xs] Q↔Q (vW (BA xs)):=by
 refine Ad ?_
 rw [Ab C.c_z37.1 C.c_z37.2]
 simp only [A8N,go_sem,↓reduceIte]
 refine Al (by decide) xs.length hl (I:=fun k F h=>h=[]/\A2.tmp F 0=lI xs/\A2.tmp F 3=vW (BA (xs.take k))) ?_ ?_ ?_ 0 _ _ (zero_le _) ?_ ?_
 .rintro k F h hk h1 ⟨rfl,h2,h3⟩
  simp only [go_sem,↓reduceIte,h1,h2,h3]
 .rintro k F h hk h1 ⟨rfl,h2,h3⟩
  simp only [go_sem,↓reduceIte,h1,h2,h3,getElem?_eq_getElem hk,Qn C]
  rw [List.take_succ_eq_append_getElem hk]
  simp only [BA,foldl_append,foldl_cons,List.foldl_nil]
 .rintro F h ⟨rfl,h2,h3⟩
  rw [take_length] at h3
  simp only [go_sem,↓reduceIte,h3]
 all_goals simp only [go_sem,↓reduceIte]
 all_goals rfl
omit C in
theorem A7B (s t:BitVec 64):decide (s ||| t=t)=decide (s &&& ~~~t=0#64):=by
 apply decide_eq_decide.2
 rw [AgA]
 constructor
 .intro h
  apply B4
  intro j hj
  cases hs:s.getLsbD j with
  | false=>simp [hs]
  | true=>simp [hs,h j hs]
 .intro h j hj
  have:=congrArg (fun w:BitVec 64=>w.getLsbD j) h
  have h0:j < 64:=BitVec.lt_of_getLsbD hj
  simp [hj,h0] at this
  exact this
theorem Rf (xs:List Int) (hl:xs.length < 9223372036854775807) (n:Int):VP V Zm [lI xs,.i .i64 n] Q↔Q (.i .i64 (C7 (fun y=>decide (n=y)) xs)):=by
 refine Ad ?_
 rw [Ab C.c_z48.1 C.c_z48.2]
 simp only [A8U,go_sem,↓reduceIte]
 refine Al (by decide) xs.length hl (I:=fun k F h=>h=[]/\A2.tmp F 0=lI xs/\A2.tmp F 1 = .i .i64 n/\∀ (j:Nat) (hj:j < xs.length),j < k->¬ n=xs[j]) ?_ ?_ ?_ 0 _ _ (zero_le _) ?_ ?_
 .rintro k F h hk h1 ⟨rfl,h2,h3,h4⟩
  simp only [go_sem,↓reduceIte,h1,h2,h3]
  exact h4
 .rintro k F h hk h1 ⟨rfl,h2,h3,h4⟩
  by_cases e:xs[k]=n
  .simp only [go_sem,↓reduceIte,h1,h2,h3,getElem?_eq_getElem hk,e]
   rw [Di hk (by simp [e]) fun j hj=>by simpa using h4 j _ hj]
  .simp only [go_sem,↓reduceIte,h1,h2,h3,getElem?_eq_getElem hk,e]
   intro j hj h0
   by_cases e2:j=k
   .subst e2;exact fun e3=>e e3.symm
   .exact h4 j hj (by omega)
 .rintro F h ⟨rfl,h2,h3,h4⟩
  simp only [go_sem,↓reduceIte]
  rw [DE fun x hx=>by obtain ⟨j,hj,e⟩:=List.mem_iff_getElem.1 hx;rw [<- e];simpa using h4 j hj hj]
 all_goals simp only [go_sem,↓reduceIte]
 all_goals first | rfl | (intro j hj h0;omega)
theorem AC (t:A1) (n:Int):VP V A5y [vT t,.i .i64 n] Q↔Q (.b (BF t n)):=by
 refine Ad ?_
 rw [Ab C.c_z92.1 C.c_z92.2]
 cases h0:decide (0<=n)<;>simp only [A97,go_sem,↓reduceIte,h0,BF]
theorem Rb (n:Az):VP V Wi [vN n] Q↔Q (.b (CI n)):=by
 refine Ad ?_
 rw [Ab C.c_z159.1 C.c_z159.2]
 cases c0:decide (0<=n.thread)<;>cases c1:decide (n.kind=3)<;>cases c2:decide (n.mode=0) <;>
  simp only [A1i,go_sem,↓reduceIte,c0,c1,c2,CI]
theorem J2 (t:A1) (hu:Jd t) (a:Int) {b:Nat} (hb:b < t.nodes.length):VP V Wf [vT t,.i .i64 a,.i .i64 b] Q↔Q (.b (AB t a b)):=by
 refine Ad ?_
 rw [Ab C.c_z150.1 C.c_z150.2]
 simp only [A1f,go_sem,↓reduceIte,A6 hb]
 unfold VL
 rw [A0]
 refine AU (M:=Int) (I:=fun x F h=>h=[]/\A2.tmp F 3 = .fp (eT t) 0/\A2.tmp F 1 = .i .i64 a/\A2.tmp F 7 = .i .i64 x/\x < t.nodes.length/\Kf t a t.nodes.length x=AB t a b) (μ:=fun x=>(x+1).toNat) ?_ (t.at b).up _ _ ⟨rfl,?_,?_,?_,?_,rfl⟩
 .rintro x F h ⟨rfl,j1,j2,j3,j4,j5⟩
  have h1:∀ y:Int,y < t.nodes.length->Kf t a (t.nodes.length+1) y=Kf t a t.nodes.length y:=fun y hy=>Ry hu a _ y hy hy
  by_cases c0:0<=x
  .obtain ⟨m,rfl⟩:=Int.eq_ofNat_of_zero_le c0
   have hm:m < t.nodes.length:=by omega
   have h0:=h1 (m:Int) j4
   rw [Kf,if_neg (by omega)] at h0
   by_cases c1:(m:Int)=a
   .rw [if_pos c1] at h0
    subst c1
    simp only [Nt,go_sem,↓reduceIte,j1,j2,j3,A0]
    rw [<- j5,<- h0]
   .rw [if_neg c1,toNat_natCast] at h0
    have h2:=hu m hm
    simp only [Nt,go_sem,↓reduceIte,j1,j2,j3,c1,A0,A6 hm]
    exact ⟨_,by omega,rfl,by omega,by rw [h0,j5]⟩
  .have h0:=h1 x j4
   rw [Kf,if_pos (by omega)] at h0
   simp only [Nt,go_sem,↓reduceIte,j1,j2,j3,c0]
   rw [<- j5,<- h0]
 .simp only [go_sem,↓reduceIte]
 .simp only [go_sem,↓reduceIte]
 .simp only [go_sem,↓reduceIte]
 .have:=hu b hb;omega
theorem Ng (t:A1) (hu:Jd t) (a b:Int):VP V Wh [vT t,.i .i64 a,.i .i64 b] Q↔Q (.b (Bm t a b)):=by
 refine Ad ?_
 rw [Ab C.c_z154.1 C.c_z154.2]
 cases ha:BF t a with
 | false=>simp only [Ma,go_sem,↓reduceIte,AC C,ha,Bm]
 | true =>
  cases hb:BF t b with
  | false=>simp only [Ma,go_sem,↓reduceIte,AC C,ha,hb,Bm]
  | true =>
   obtain ⟨m,rfl,hm⟩:=Aa ha
   obtain ⟨n,rfl,hn⟩:=Aa hb
   by_cases e:(m:Int)=n
   .simp only [Ma,go_sem,↓reduceIte,AC C,ha,hb,Bm,e]
   .cases c0:decide (0<=(t.at m).thread)<;>cases c1:decide ((t.at m).thread=(t.at n).thread)<;>cases c2:AB t (m:Int) n <;>
     simp only [Ma,go_sem,↓reduceIte,AC C,ha,hb,Bm,e,A6 hm,A6 hn,c0,c1,c2,J2 C t hu _ hn,J2 C t hu _ hm]
end
theorem Gy {k:Nat} (h0:0 < k) (h:k < 9223372036854775807):IntKind.i64.wrap ((k:Int) - 1)=((k - 1:Nat):Int):=by rw [AR (by omega) (by omega)];omega
section
variable {V:Ae} (C:Ai V) {Q:VV->Prop}
include C
theorem AA (xs:List Int) (hl:xs.length < 9223372036854775807) (n:Int):VP V Zm [lI xs,.i .i64 n] Q↔Q (.i .i64 (BI xs n)):=Rf C xs hl n
theorem Ra (t:A1) (ht:t.nodes.length<=1000):VP V PT [vT t] Q↔Q (vW (DP t)):=by
 refine Ad ?_
 rw [Ab C.c_z158.1 C.c_z158.2]
 simp only [A1h,go_sem,↓reduceIte]
 refine Al (by decide) t.nodes.length (by omega) (I:=fun k F h=>h=[]/\A2.tmp F 1 = .fp (eT t) 0/\A2.tmp F 3=vW (BO fun i=>decide (i < k) && decide ((t.at i).up < 0))) ?_ ?_ ?_ 0 _ _ (zero_le _) ?_ ?_
 .rintro k F h hk p1 ⟨rfl,p2,p3⟩
  simp only [go_sem,↓reduceIte,p1,p2,p3]
 .rintro k F h hk p1 ⟨rfl,p2,p3⟩
  by_cases e:(t.at k).up < 0
  .simp only [go_sem,↓reduceIte,p1,p2,p3,A6 hk,e,Qn C]
   by_cases h64:k < 64
   .rw [Qv _ _ h64]
    congr 1
    apply Cf
    intro j hj
    by_cases e2:j=k
    .subst e2;simp [e]
    .have:(j < k+1)↔(j < k):=by omega
     simp [this,e2]
   .have:Cl (k:Int)=0#64:=by unfold Cl;rw [if_neg (by omega)]
    rw [this,BitVec.or_zero]
    congr 1
    apply Cf
    intro j hj
    have:(j < k+1)↔(j < k):=by omega
    simp [this]
  .simp only [go_sem,↓reduceIte,p1,p2,p3,A6 hk,e]
   congr 1
   apply Cf
   intro j hj
   by_cases e2:j=k
   .subst e2;simp [e]
   .have:(j < k+1)↔(j < k):=by omega
    simp [this]
 .rintro F h ⟨rfl,p2,p3⟩
  simp only [go_sem,↓reduceIte,p3,DP]
 all_goals simp only [go_sem,↓reduceIte]
 all_goals first | rfl | (rw [<- Ho];congr 1;apply Cf;intro j hj;simp)
theorem Rj (t:A1) (ht:t.nodes.length<=1000) (l:List Int) (hl:l.length<=1000):VP V A5w [vT t,lI l] Q↔Q (.b (C0 t l)):=by
 refine Ad ?_
 rw [Ab C.c_z90.1 C.c_z90.2]
 simp only [A96,go_sem,↓reduceIte]
 refine Al (by decide) l.length (by omega) (I:=fun k F h=>h=[]/\A2.tmp F 1=lI l/\A2.tmp F 2 = .fp (eT t) 0/\∀ j,j < k->BY t l j=true) ?_ ?_ ?_ 0 _ _ (zero_le _) ?_ ?_
 .rintro k F h hk p1 ⟨rfl,p2,p3,p4⟩
  simp only [go_sem,↓reduceIte,p1,p2,p3]
  exact p4
 .rintro k F h hk p1 ⟨rfl,p2,p3,p4⟩
  have h1:BY t l k=false->false=C0 t l:=fun h=>by rw [C0,AW hk h];rfl
  have good:BY t l k=true->∀ j,j < k+1->BY t l j=true:=fun h j hj=>by
   by_cases e:j=k
   .rw [e];exact h
   .exact p4 j (by omega)
  cases c0:BF t (l.getD k 0) with
  | false =>
   simp only [go_sem,↓reduceIte,p1,p2,p3,Ar hk,AC C,c0]
   exact h1 (by rw [BY,c0];rfl)
  | true =>
   obtain ⟨n,hn,h2⟩:=Aa c0
   have h0:BY t l k=(CB l k && (decide ((t.at n).up < 0) || AZ l (t.at n).up)):=by
    unfold BY
    rw [c0,hn,toNat_natCast,Bool.true_and]
   rw [hn] at c0
   by_cases z:k=0
   .subst z
    have hr:CB l 0=true:=by simp [CB]
    rw [hr,Bool.true_and] at h0
    have z0:¬ (0:Int) < ((0:Nat):Int):=by omega
    by_cases u0:0<=(t.at n).up
    .have u1:¬ (t.at n).up < 0:=by omega
     rw [decide_eq_false u1,Bool.false_or] at h0
     cases u2:AZ l (t.at n).up<;>rw [u2] at h0 <;>
      simp only [go_sem,↓reduceIte,p1,p2,p3,Ar hk,AC C,c0,z0,hn,A6 h2,u0,AA C l (by omega),CZ,u2]
     .exact h1 h0
     .exact good h0
    .have u1:(t.at n).up < 0:=by omega
     rw [decide_eq_true u1,Bool.true_or] at h0
     simp only [go_sem,↓reduceIte,p1,p2,p3,Ar hk,AC C,c0,z0,hn,A6 h2,u0]
     exact good h0
   .have z0:(0:Int) < (k:Int):=by omega
    have zw:=Gy (show 0 < k by omega) (by omega)
    have h3:k - 1 < l.length:=by omega
    have hr:CB l k = !decide ((n:Int)<=l.getD (k - 1) 0):=by
     unfold CB
     rw [decide_eq_false z,Bool.false_or,hn]
     by_cases c:(n:Int)<=l.getD (k - 1) 0
     .rw [decide_eq_true c,decide_eq_false (by omega)];rfl
     .rw [decide_eq_false c,decide_eq_true (by omega)];rfl
    cases c1:decide ((n:Int)<=l.getD (k - 1) 0) with
    | true =>
     rw [c1] at hr
     rw [hr] at h0
     simp only [go_sem,↓reduceIte,p1,p2,p3,Ar hk,AC C,c0,z0,zw,Ar h3,hn,c1]
     exact h1 h0
    | false =>
     rw [c1] at hr
     rw [hr] at h0
     simp only [Bool.not_false,Bool.true_and] at h0
     by_cases u0:0<=(t.at n).up
     .have u1:¬ (t.at n).up < 0:=by omega
      rw [decide_eq_false u1,Bool.false_or] at h0
      cases u2:AZ l (t.at n).up<;>rw [u2] at h0 <;>
       simp only [go_sem,↓reduceIte,p1,p2,p3,Ar hk,AC C,c0,z0,zw,Ar h3,hn,c1,A6 h2,u0,AA C l (by omega),CZ,u2]
      .exact h1 h0
      .exact good h0
     .have u1:(t.at n).up < 0:=by omega
      rw [decide_eq_true u1,Bool.true_or] at h0
      simp only [go_sem,↓reduceIte,p1,p2,p3,Ar hk,AC C,c0,z0,zw,Ar h3,hn,c1,A6 h2,u0]
      exact good h0
 .rintro F h ⟨rfl,p2,p3,p4⟩
  simp only [go_sem,↓reduceIte,p2,p3,Ra C t ht,A7d C l (by omega),Rl C]
  rw [C0,AS p4];rfl
 all_goals simp only [go_sem,↓reduceIte]
 all_goals first | rfl | (intro j hj;omega)
theorem Rh (t:A1) (hu:Jd t) (l has:List Int) (hl:l.length<=1000) (hh:has.length<=1000) (hv:∀ n∈has,BF t n=true) (loc:Int):VP V A5x [vT t,lI l,lI has,.i .i64 loc] Q↔Q (.b (BR t l has loc)):=by
  refine Ad ?_
  rw [Ab C.c_z91.1 C.c_z91.2]
  by_cases z:l.length=0
  · have z' : (l.length : Int) = 0 := by omega
    simp only [A3S,go_sem,↓reduceIte,z']
    simp [BR,z]
  have z':¬ (l.length:Int)=0:=by omega
  simp only [A3S,go_sem,↓reduceIte,z']
  refine Al (by decide) l.length (by omega) (I:=fun k F h=>h=[]/\A2.tmp F 1=lI l/\A2.tmp F 2=lI has/\A2.tmp F 3 = .i .i64 loc/\A2.tmp F 4 = .fp (eT t) 0/\∀ j,j < k->B3 t l has loc j=true) ?_ ?_ ?_ 0 _ _ (zero_le _) ?_ ?_
  · rintro k F h hk p1 ⟨rfl, p2, p3, p4, p5, p6⟩
    simp only [go_sem,↓reduceIte,p1,p2,p3,p4,p5]
    exact p6
  · rintro k F h hk p1 ⟨rfl, p2, p3, p4, p5, p6⟩
    have h2:B3 t l has loc k=false->false=BR t l has loc:=fun h=>by rw [BR,AW hk h];simp
    have good:B3 t l has loc k=true->∀ j,j < k+1->B3 t l has loc j=true:=fun h j hj=>by
      by_cases e:j=k
      · rw [e];exact h
      · exact p6 j (by omega)
    cases c0:AZ has (l.getD k 0) with
    | false =>
      simp only [go_sem,↓reduceIte,p1,p2,p3,p4,p5,Ar hk,AA C has (by omega),CZ,c0]
      exact h2 (by rw [B3,c0];rfl)
    | true =>
      obtain ⟨n,hn,h5⟩:=Aa (hv _ (A7.1 c0))
      have h0:B3 t l has loc k=(CB l k && (decide ((t.at n).kind=3) && decide ((t.at n).loc=loc)) && decide (0<=(t.at n).thread) && (List.range k).all fun j=>AN t (l.getD k 0) (l.getD j 0)):=by
        unfold B3 EV
        rw [c0,hn,toNat_natCast,Bool.true_and]
      have h1:CB l k=(decide (k=0) || decide (l.getD (k - 1) 0 < (n:Int))):=by rw [CB,hn]
      rw [hn] at c0
      have h4:∀ (hr:CB l k=true) (hd:decide ((t.at n).kind=3)=true) (he:decide ((t.at n).loc=loc)=true) (hf:decide ((t.at n).thread < 0)=false) (G:A2) (Q':Ex->A2->VH->Prop)
          (g1:A2.tmp G 1=lI l) (g2:A2.tmp G 2=lI has) (g3:A2.tmp G 3 = .i .i64 loc) (g4:A2.tmp G 4 = .fp (eT t) 0) (g9:A2.tmp G 9 = .i .i64 k) (ha:A2.tmp G 10 = .p 0 0 0 0) (hb:A2.tmp G 11 = .i .i64 0)
          (q1:∀ G' h',A2.tmp G' 1=lI l->A2.tmp G' 2=lI has->A2.tmp G' 3 = .i .i64 loc->A2.tmp G' 4 = .fp (eT t) 0->A2.tmp G' 9 = .i .i64 k->B3 t l has loc k=true->Q' .norm G' h') (q2:∀ G' h',A2.tmp G' 8 = .b false->B3 t l has loc k=false->Q' .ret G' h'),
          VL V Z7 2 A9t G [some ⟨Cp,0,0,false,[eN (t.at n)]⟩] Q':=by
        intro hr hd he hf G Q' g1 g2 g3 g4 g9 ha hb q1 q2
        have h9:decide (0<=(t.at n).thread)=true:=by simp at hf ⊢;omega
        rw [hr,hd,he,h9] at h0
        simp only [Bool.and_self,Bool.true_and] at h0
        refine Al (by decide) k (by omega) (I:=fun j F h=>h=[some ⟨Cp,0,0,false,[eN (t.at n)]⟩]/\A2.tmp F 1=lI l/\A2.tmp F 2=lI has/\A2.tmp F 3 = .i .i64 loc/\A2.tmp F 4 = .fp (eT t) 0/\A2.tmp F 9 = .i .i64 k/\A2.tmp F 10 = .p 0 0 0 0/\∀ i,i < j->AN t (l.getD k 0) (l.getD i 0)=true) ?_ ?_ ?_ 0 _ _ (zero_le _) hb ⟨rfl,g1,g2,g3,g4,g9,ha,fun i hi=>by omega⟩
        · rintro j F h hj r1 ⟨rfl, r2, r3, r4, r5, r6, r7, r8⟩
          simp only [go_sem,↓reduceIte,r1,r2,r3,r4,r5,r6,r7]
          exact r8
        · rintro j F h hj r1 ⟨rfl, r2, r3, r4, r5, r6, r7, r8⟩
          have hg:j < l.length:=by omega
          have c1:AZ has (l.getD j 0)=true:=by
            have:=p6 j hj
            unfold B3 at this
            simp only [Bool.and_eq_true] at this
            exact this.1.1.1.1
          obtain ⟨n2,hc,h7⟩:=Aa (hv _ (A7.1 c1))
          have h8:AN t (l.getD k 0) (l.getD j 0)=(CI (t.at n) && CI (t.at n2) && decide ((t.at n).val=(t.at n2).val) && Bm t n n2):=by
            unfold AN;rw [hn,hc,toNat_natCast,toNat_natCast]
          have h6:AN t (l.getD k 0) (l.getD j 0)=false->B3 t l has loc k=false:=fun h=>by rw [h0];exact AW hj h
          have h3:AN t (l.getD k 0) (l.getD j 0)=true->∀ i,i < j+1->AN t (l.getD k 0) (l.getD i 0)=true:=fun h i hi=>by
            by_cases e:i=j
            · rw [e];exact h
            · exact r8 i (by omega)
          cases y1:CI (t.at n)<;>cases y2:CI (t.at n2)<;>cases y3:decide ((t.at n).val=(t.at n2).val)<;>cases y4:Bm t n n2<;>rw [y1,y2,y3,y4] at h8 <;>
            simp only [go_sem,↓reduceIte,r1,r2,r3,r4,r5,r6,r7,Ar hk,Ar hg,hn,hc,A6 h7,Rb C,Ng C t hu,y1,y2,y3,y4]
          all_goals first
            | exact q2 _ _ (by simp only [go_sem,↓reduceIte]) (h6 h8)
            | (have:=h3 h8;rw [hn] at this;exact this)
        · rintro F h ⟨rfl, r2, r3, r4, r5, r6, r7, r8⟩
          exact q1 _ _ r2 r3 r4 r5 r6 (by rw [h0];exact AS r8)
      have zb:(k=0/\decide ((0:Int) < (k:Int))=false)\/(0 < k/\decide ((0:Int) < (k:Int))=true):=by
        rcases Nat.eq_zero_or_pos k with h | h
        · exact .inl ⟨h,by simp [h]⟩
        · exact .inr ⟨h,by simp;omega⟩
      have hm:k - 1 < l.length:=by omega
      rcases zb with ⟨zk,z0⟩ | ⟨zk,z0⟩
      · have hr : CB l k = true := by rw [h1, zk]; rfl
        simp only [go_sem,↓reduceIte,p1,p2,p3,p4,p5,Ar hk,AA C has (by omega),CZ,hn,c0,z0,A6 h5]
        repeat' first
          | (refine Bl (fun hx=>?_) (fun hx=>?_)<;>simp only [go_sem,↓reduceIte,p1,p2,p3,p4,p5,hx])
          | (refine B0 (fun hx=>?_) (fun hx=>?_)<;>simp only [go_sem,↓reduceIte,p1,p2,p3,p4,p5,hx])
        all_goals first
          | exact h2 (by rw [h0];simp_all)
          | (refine h4 hr (by simp_all) (by simp_all) (by assumption) _ _ ?_ ?_ ?_ ?_ ?_ ?_ ?_ ?_ ?_
             all_goals try simp only [go_sem,↓reduceIte,p1,p2,p3,p4,p5]
             · intro G' e1 e2 e3 e4 e5 e6
               simp only [e1,e2,e3,e4,e5,go_sem]
               exact good e6
             · intro G' h' e1 e2
               simp only [e1,go_sem,h2 e2])
      · have zw := Gy zk (by omega)
        simp only [go_sem,↓reduceIte,p1,p2,p3,p4,p5,Ar hk,Ar hm,AA C has (by omega),CZ,hn,c0,z0,zw,A6 h5]
        repeat' first
          | (refine Bl (fun hx=>?_) (fun hx=>?_)<;>simp only [go_sem,↓reduceIte,p1,p2,p3,p4,p5,Ar hk,hn,hx,A6 h5])
          | (refine B0 (fun hx=>?_) (fun hx=>?_)<;>simp only [go_sem,↓reduceIte,p1,p2,p3,p4,p5,Ar hk,hn,hx,A6 h5])
        all_goals first
          | exact h2 (by rw [h0,h1];simp_all;try omega)
          | (refine h4 (by rw [h1];simp_all) (by simp_all) (by simp_all) (by assumption) _ _ ?_ ?_ ?_ ?_ ?_ ?_ ?_ ?_ ?_
             all_goals try simp only [go_sem,↓reduceIte,p1,p2,p3,p4,p5]
             · intro G' e1 e2 e3 e4 e5 e6
               simp only [e1,e2,e3,e4,e5,go_sem]
               exact good e6
             · intro G' h' e1 e2
               simp only [e1,go_sem,h2 e2])
  · rintro F h ⟨rfl, p2, p3, p4, p5, p6⟩
    simp only [go_sem,↓reduceIte]
    rw [BR,AS p6];simp [z]
  all_goals simp only [go_sem,↓reduceIte]
  all_goals first | rfl | (intro j hj;omega)
end
end Go.AM
