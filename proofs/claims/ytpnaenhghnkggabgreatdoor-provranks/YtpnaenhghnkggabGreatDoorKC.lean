/-
  Own work, part of the proof of these laws: what functions compute.
-/
import Derived.Test.YtpnaenhghnkggabGreatDoorCoG
import Derived.Test.YtpnaenhghnkggabGreatDoorPB
set_option maxRecDepth 10000
set_option maxHeartbeats 64000000
set_option linter.unusedVariables false
set_option linter.unusedSimpArgs false
set_option linter.unusedSectionVars false
set_option linter.unnecessarySimpa false
open Int (toNat_natCast eq_ofNat_of_zero_le)
open List (getElem?_eq_getElem length_map length_append getElem_mem take_length foldl_cons foldl_append)
open Nat (zero_le)
open Bool (false_eq_true)
namespace Go.AM
open Go Go.Proofs
section
variable {V:Am} (C:Ap V) {Q:VV->Prop}
include C
theorem Gw (i:Int):VP V A6t [.i .i64 i] Q↔Q (vW (BK i)):=by
 refine Ad ?_
 rw [Ab C.c_z71.1 C.c_z71.2]
 unfold BK
 by_cases h0:i < 0
 .simp only [ZK,go_sem,↓reduceIte,h0]
  rw [if_neg (by omega)]
 .by_cases h1:64<=i
  .simp only [ZK,go_sem,↓reduceIte,h0,h1]
   rw [if_neg (by omega)]
  .obtain ⟨n,rfl⟩:=eq_ofNat_of_zero_le (by omega:0<=i)
   simp only [ZK,go_sem,↓reduceIte,h0,h1,AjI (show n < 64 by omega)]
   rw [if_pos (by omega)]
theorem AK (s:BitVec 64) (i:Int):VP V X1 [vW s,.i .i64 i] Q↔Q (.b (B1 s i)):=by
 refine Ad ?_
 rw [Ab C.c_z106.1 C.c_z106.2]
 simp only [A1S,go_sem,↓reduceIte,Gw C,Aee]
theorem BN (s:BitVec 64) (i:Int):VP V A6p [vW s,.i .i64 i] Q↔Q (vW (s ||| BK i)):=by
 refine Ad ?_
 rw [Ab C.c_z35.1 C.c_z35.2]
 simp only [Aa3,go_sem,↓reduceIte,Gw C]
theorem Lc (s t:BitVec 64):VP V X0 [vW s,vW t] Q↔Q (.b (decide (s &&& ~~~t=0#64))):=by
 refine Ad ?_
 rw [Ab C.c_z105.1 C.c_z105.2]
 simp only [A1R,go_sem,↓reduceIte]
theorem KD (xs:List Int) (hl:xs.length < 9223372036854775807):VP V A0q [lI xs] Q↔Q (vW (CP xs)):=by
 refine Ad ?_
 rw [Ab C.c_z70.1 C.c_z70.2]
 simp only [Aah,go_sem,↓reduceIte]
 refine Ag (by decide) xs.length hl (I:=fun k F h=>h=[]/\A3.tmp F 6=lI xs/\A3.tmp F 3=vW (CP (xs.take k))) ?_ ?_ 0 _ _ (by omega) ?_ ?_ ?_
 .rintro k F h hk h1 h2 ⟨rfl,h3,h4⟩
  simp only [go_sem,↓reduceIte,h1,h2,h3,h4,getElem?_eq_getElem hk,Gw C]
  rw [List.take_succ_eq_append_getElem hk]
  simp only [CP,foldl_append,foldl_cons,List.foldl_nil]
 .rintro F h ⟨rfl,h3,h4⟩
  rw [take_length] at h4
  simp only [go_sem,↓reduceIte,h4]
 all_goals simp only [go_sem,↓reduceIte]
 all_goals rfl
theorem J5 (lo hi:Int) (hlo:lo < 9223372036854775808):VP V QJ [.i .i64 lo,.i .i64 hi] Q↔Q (vW (CG lo hi)):=by
 refine Ad ?_
 rw [Ab C.c_z102.1 C.c_z102.2]
 have hm:Nm false hi 64=min hi 64:=by unfold Nm;simp only [cond_false];split<;>omega
 have h0:Nm true lo 0=max lo 0:=by unfold Nm;simp only [cond_true];split<;>omega
 simp only [A1O,go_sem,↓reduceIte]
 unfold VL
 rw [A0]
 refine AA (M:=Nat) (I:=fun k F h=>h=[]/\A3.tmp F 1 = .i .i64 hi/\A3.tmp F 6 = .i .i64 k/\A3.tmp F 5=vW (BT fun i=>decide (lo<=(i:Int)/\i < k))/\lo<=k/\(k:Int)<=max lo (max 0 (min hi 64))) (μ:=fun k=>64 - k) ?_ (max lo 0).toNat _ _ ⟨rfl,?_,?_,?_,?_,?_⟩
 .rintro k F h ⟨rfl,h1,h2,h3,h4,h5⟩
  by_cases hk:(k:Int) < min hi 64
  .simp only [Uw,go_sem,↓reduceIte,h1,h2,h3,hm,hk,A0,Gw C]
   have hw:IntKind.i64.wrap ((k:Int)+1)=((k+1:Nat):Int):=by rw [Av (by omega) (by omega)];omega
   refine ⟨k+1,by omega,?_⟩
   rw [hw]
   refine ⟨rfl,?_,by omega,by omega⟩
   rw [MX _ _ (by omega)]
   congr 1
   apply Bu
   intro j hj
   by_cases e:j=k
   .subst e;simp;omega
   .by_cases e2:j < k
    .have:j < k+1:=by omega
     simp [e,e2,this]
    .have:¬ j < k+1:=by omega
     simp [e,e2,this]
  .simp only [Uw,go_sem,↓reduceIte,h1,h2,h3,hm,hk,Nat.beq_refl]
   congr 1
   apply Bu
   intro j hj
   by_cases e:lo<=(j:Int)
   .have:(j < k)↔((j:Int) < hi):=by omega
    simp [e,this]
   .simp [e]
 .simp only [go_sem,↓reduceIte]
 .simp only [go_sem,↓reduceIte,h0]
  omega
 .simp only [go_sem,↓reduceIte]
  rw [<- Gl]
  congr 1
  apply Bu
  intro j hj
  simp
  omega
 .omega
 .omega
theorem Qe (xs:List Int) (i:Int) (hl:xs.length < 1000) {Q:VV->VH->Prop}:LC V Nq [.p 1 0 0 0,.i .i64 i] [some (AX AO 1 (xs.map eI)),some ⟨Gm,0,0,false,[[.sl 0 xs.length 0 xs.length]]⟩] Q ↔
  Q (.tu []) [some (AX AO 1 ((xs++[i]).map eI)),some ⟨Gm,0,0,false,[[.sl 0 (xs++[i]).length 0 (xs++[i]).length]]⟩]:=by
 refine Na ?_
 rw [EP C.h_z113]
 have h1:(xs.length+1) * 8<=A8:=by unfold A8;omega
 simp only [A1W,go_sem,↓reduceIte,h1]
theorem ArF (s:BitVec 64) (h:s≠0#64):VP V AW [vW s] Q↔Q (.i .i64 (Lib.ctz 64 s.toNat:Nat)):=by
 refine Ad ?_
 unfold VP
 rw [C.c_mathbits_TrailingZeros64]
 have:=s.isLt
 refine ⟨.i .i64 (Lib.ctz 64 s.toNat:Nat),?_,rfl,rfl⟩
 unfold A4C vW
 simp only
 rw [if_pos (by omega),toNat_natCast]
theorem Zp (s:BitVec 64):LC V K6 [vW s,.f Nq [.p 1 0 0 0] []] [some Dh,some ⟨Gm,0,0,false,[[.sl 0 0 0 0]]⟩]
  fun _ h=>h=[some (AX AO 1 ((AC s).map eI)),some ⟨Gm,0,0,false,[[.sl 0 (AC s).length 0 (AC s).length]]⟩]:=by
 rw [EP C.h_z112]
 simp only [Nh,go_sem,↓reduceIte]
 unfold VL
 rw [A0]
 refine AA (M:=BitVec 64×List Nat) (I:=fun x F h=>A3.tmp F 0=vW x.1/\A3.tmp F 1 = .f Nq [.p 1 0 0 0] []/\x.2++Ca x.1=Ca s/\h=[some (AX AO 1 ((x.2.map fun (i:Nat)=>(i:Int)).map eI)),some ⟨Gm,0,0,false,[[.sl 0 x.2.length 0 x.2.length]]⟩]) (μ:=fun x=>(Ca x.1).length) ?_ (s,[]) _ _ ⟨?_,?_,rfl,rfl⟩
 .rintro ⟨t,l⟩ F h ⟨h1,h2,h3,rfl⟩
  simp only at h1 h2 h3 ⊢
  by_cases ht:t=0#64
  .subst ht
   rw [A3u,List.append_nil] at h3
   simp only [go_sem,↓reduceIte,h1,h2,AC,h3]
  .have hs:=A3t ht
   have hl:l.length < 1000:=by
    have:=congrArg List.length h3
    have h4:=Cv s
    simp only [AC,length_map,length_append] at this h4
    omega
   have hx:=fun Q=>Qe C (l.map fun (i:Nat)=>(i:Int)) (Lib.ctz 64 t.toNat:Nat) (by simpa using hl) (Q:=Q)
   simp only [length_map,length_append,List.length_cons,List.length_nil] at hx
   simp only [go_sem,↓reduceIte,h1,h2,ht,A0,ArF C t ht]
   rw [hx]
   refine ⟨?_,(t &&& (t - 1#64),l++[Lib.ctz 64 t.toNat]),?_,rfl,?_,?_⟩
   .simp only [go_sem]
   .rw [hs];simp
   .rw [<- h3,hs];simp
   .simp
 all_goals simp only [go_sem]
theorem Cz (s:BitVec 64):VP V R5 [vW s] Q↔Q (lI (AC s)):=by
 refine Ad ?_
 rw [Ab C.c_z73.1 C.c_z73.2]
 simp only [Aaj,go_sem,↓reduceIte,R8]
 obtain ⟨vf,h1,h2⟩:=Zp C s
 refine ⟨vf,h1,h2.mono ?_⟩
 rintro v _ rfl
 simp only [go_sem,↓reduceIte]
theorem DL (xs:List Int) (n:Int) (hl:xs.length < 9223372036854775807):VP V A6s [lI xs,.i .i64 n] Q↔Q (.i .i64 (Gx (fun y=>decide (n=y)) xs)):=by
 refine Ad ?_
 rw [Ab C.c_z63.1 C.c_z63.2]
 simp only [Aad,go_sem,↓reduceIte]
 refine Ag (by decide) xs.length hl (I:=fun k F h=>h=[]/\A3.tmp F 0=lI xs/\A3.tmp F 1 = .i .i64 n/\∀ (j:Nat) (hj:j < xs.length),j < k->¬ n=xs[j]) ?_ ?_ 0 _ _ (by omega) ?_ ?_ ?_
 .rintro k F h hk h1 h2 ⟨rfl,h3,h4,h5⟩
  by_cases e:n=xs[k]
  .subst e
   simp only [go_sem,↓reduceIte,h1,h2,h3,h4,getElem?_eq_getElem hk]
   rw [Dr hk (by simp) fun j hj=>by simpa using h5 j (by omega) hj]
  .simp only [go_sem,↓reduceIte,h1,h2,h3,h4,getElem?_eq_getElem hk,e]
   intro j hj h0
   by_cases e2:j=k
   .subst e2;exact e
   .exact h5 j hj (by omega)
 .rintro F h ⟨rfl,h3,h4,h5⟩
  simp only [go_sem,↓reduceIte]
  rw [Dq fun x hx=>by obtain ⟨j,hj,e⟩:=List.mem_iff_getElem.1 hx;rw [<- e];simpa using h5 j hj hj]
 all_goals simp only [go_sem,↓reduceIte]
 all_goals first | rfl | (intro j hj h0;omega)
theorem GN (xs:List Int) (n:Int) (hl:xs.length < 9223372036854775807):VP V XC [lI xs,.i .i64 n] Q↔Q (.b (xs.any fun y=>decide (n=y))):=by
 refine Ad ?_
 rw [Ab C.c_z180.1 C.c_z180.2]
 simp only [A2B,go_sem,↓reduceIte,DL C _ _ hl,KE]
theorem EL (xs:List ByteArray) (n:ByteArray) (hl:xs.length < 9223372036854775807):VP V XH [lS xs,.s n] Q↔Q (.i .i64 (Gx (fun y=>decide (n=y)) xs)):=by
 refine Ad ?_
 rw [Ab C.c_z192.1 C.c_z192.2]
 simp only [A2H,go_sem,↓reduceIte]
 refine Ag (by decide) xs.length hl (I:=fun k F h=>h=[]/\A3.tmp F 0=lS xs/\A3.tmp F 1 = .s n/\∀ (j:Nat) (hj:j < xs.length),j < k->¬ n=xs[j]) ?_ ?_ 0 _ _ (by omega) ?_ ?_ ?_
 .rintro k F h hk h1 h2 ⟨rfl,h3,h4,h5⟩
  by_cases e:n=xs[k]
  .subst e
   simp only [go_sem,↓reduceIte,h1,h2,h3,h4,getElem?_eq_getElem hk]
   rw [Dr hk (by simp) fun j hj=>by simpa using h5 j (by omega) hj]
  .simp only [go_sem,↓reduceIte,h1,h2,h3,h4,getElem?_eq_getElem hk,e]
   intro j hj h0
   by_cases e2:j=k
   .subst e2;exact e
   .exact h5 j hj (by omega)
 .rintro F h ⟨rfl,h3,h4,h5⟩
  simp only [go_sem,↓reduceIte]
  rw [Dq fun x hx=>by obtain ⟨j,hj,e⟩:=List.mem_iff_getElem.1 hx;rw [<- e];simpa using h5 j hj hj]
 all_goals simp only [go_sem,↓reduceIte]
 all_goals first | rfl | (intro j hj h0;omega)
theorem E7 (xs:List ByteArray) (n:ByteArray) (hl:xs.length < 9223372036854775807):VP V Xr [lS xs,.s n] Q↔Q (.b (xs.any fun y=>decide (n=y))):=by
 refine Ad ?_
 rw [Ab C.c_z158.1 C.c_z158.2]
 simp only [A2l,go_sem,↓reduceIte,EL C _ _ hl,KE]
theorem DP (xs:List (BitVec 64)) (hl:xs.length < 9223372036854775807) {g:Nat} {a c:List VV} (ha:Fz a) (hc:Fz c) (p:(BitVec 64)->Bool) (hf:∀ x,VP V g (a++[vW x]++c) fun r=>r = .b (p x)) :
  VP V Xq [lW xs,.f g a c] Q↔Q (.i .i64 (Gx p xs)):=by
 refine Ad ?_
 rw [Ab C.c_z155.1 C.c_z155.2]
 simp only [A2k,go_sem,↓reduceIte]
 refine Ag (by decide) xs.length hl (I:=fun k F h=>h=[]/\A3.tmp F 0=lW xs/\A3.tmp F 1 = .f g a c/\∀ (j:Nat) (hj:j < xs.length),j < k->p xs[j]=false) ?_ ?_ 0 _ _ (by omega) ?_ ?_ ?_
 .rintro k F h hk h1 h2 ⟨rfl,h3,h4,h5⟩
  have hq:=fun Q=>Ad (hf xs[k]) (Q:=Q)
  have h0:=ha.call hc (h:=[]) (x:=[vW xs[k]]) rfl
  cases e:p xs[k] with
  | true =>
   simp only [go_sem,↓reduceIte,h1,h2,h3,h4,getElem?_eq_getElem hk,h0,hq,e]
   rw [Dr hk e fun j hj=>h5 j (by omega) hj]
  | false =>
   simp only [go_sem,↓reduceIte,h1,h2,h3,h4,getElem?_eq_getElem hk,h0,hq,e]
   have h7:Mm 0 (.f g a c) = .f g a c:=by
    have h1:CF 0 a=true:=Fz.bel ha
    have h2:CF 0 c=true:=Fz.bel hc
    simp [Mm,bel,h1,h2]
   simp only [A9d,Fz.bel ha,Fz.bel hc,Bool.and_self,cond_true,true_and]
   intro j hj h6
   by_cases e2:j=k
   .subst e2;exact e
   .exact h5 j hj (by omega)
 .rintro F h ⟨rfl,h3,h4,h5⟩
  simp only [go_sem,↓reduceIte]
  rw [Dq fun x hx=>by obtain ⟨j,hj,e⟩:=List.mem_iff_getElem.1 hx;rw [<- e];exact h5 j hj hj]
 all_goals simp only [go_sem,↓reduceIte]
 all_goals first | rfl | (intro j hj h6;omega)
theorem Dw (xs:List (BitVec 64)) (hl:xs.length < 9223372036854775807) {g:Nat} {a c:List VV} (ha:Fz a) (hc:Fz c) (p:(BitVec 64)->Bool) (hf:∀ x,VP V g (a++[vW x]++c) fun r=>r = .b (p x)) :
  VP V WZ [lW xs,.f g a c] Q↔Q (.b (xs.any p)):=by
 refine Ad ?_
 rw [Ab C.c_z103.1 C.c_z103.2]
 simp only [A1P,go_sem,↓reduceIte,DP C xs hl ha hc p hf,Fz.eq ha,Fz.eq hc,KE]
theorem Gf (xs:List Int) (hl:xs.length < 9223372036854775807) {g:Nat} {a c:List VV} (ha:Fz a) (hc:Fz c) (p:Int->Bool) (hf:∀ x,VP V g (a++[.i .i64 x]++c) fun r=>r = .b (p x)) :
  VP V Y7 [lI xs,.f g a c] Q↔Q (.i .i64 (Gx p xs)):=by
 refine Ad ?_
 rw [Ab C.c_z221.1 C.c_z221.2]
 simp only [A32,go_sem,↓reduceIte]
 refine Ag (by decide) xs.length hl (I:=fun k F h=>h=[]/\A3.tmp F 0=lI xs/\A3.tmp F 1 = .f g a c/\∀ (j:Nat) (hj:j < xs.length),j < k->p xs[j]=false) ?_ ?_ 0 _ _ (by omega) ?_ ?_ ?_
 .rintro k F h hk h1 h2 ⟨rfl,h3,h4,h5⟩
  have hq:=fun Q=>Ad (hf xs[k]) (Q:=Q)
  have h0:=ha.call hc (h:=[]) (x:=[.i .i64 xs[k]]) rfl
  cases e:p xs[k] with
  | true =>
   simp only [go_sem,↓reduceIte,h1,h2,h3,h4,getElem?_eq_getElem hk,h0,hq,e]
   rw [Dr hk e fun j hj=>h5 j (by omega) hj]
  | false =>
   simp only [go_sem,↓reduceIte,h1,h2,h3,h4,getElem?_eq_getElem hk,h0,hq,e]
   have h7:Mm 0 (.f g a c) = .f g a c:=by
    have h1:CF 0 a=true:=Fz.bel ha
    have h2:CF 0 c=true:=Fz.bel hc
    simp [Mm,bel,h1,h2]
   simp only [A9d,Fz.bel ha,Fz.bel hc,Bool.and_self,cond_true,true_and]
   intro j hj h6
   by_cases e2:j=k
   .subst e2;exact e
   .exact h5 j hj (by omega)
 .rintro F h ⟨rfl,h3,h4,h5⟩
  simp only [go_sem,↓reduceIte]
  rw [Dq fun x hx=>by obtain ⟨j,hj,e⟩:=List.mem_iff_getElem.1 hx;rw [<- e];exact h5 j hj hj]
 all_goals simp only [go_sem,↓reduceIte]
 all_goals first | rfl | (intro j hj h6;omega)
theorem Et (xs:List Int) (hl:xs.length < 9223372036854775807) {g:Nat} {a c:List VV} (ha:Fz a) (hc:Fz c) (p:Int->Bool) (hf:∀ x,VP V g (a++[.i .i64 x]++c) fun r=>r = .b (p x)) :
  VP V XJ [lI xs,.f g a c] Q↔Q (.b (xs.any p)):=by
 refine Ad ?_
 rw [Ab C.c_z194.1 C.c_z194.2]
 simp only [A2I,go_sem,↓reduceIte,Gf C xs hl ha hc p hf,Fz.eq ha,Fz.eq hc,KE]
theorem EK (xs:List (List Int)) (hl:xs.length < 9223372036854775807) {g:Nat} {a c:List VV} (ha:Fz a) (hc:Fz c) (p:List Int->Bool) (hf:∀ x∈xs,VP V g (a++[lI x]++c) fun r=>r = .b (p x)) :
  VP V XB [.ls (xs.map JC),.f g a c] Q↔Q (.i .i64 (Gx p xs)):=by
 refine Ad ?_
 rw [Ab C.c_z178.1 C.c_z178.2]
 simp only [A2z,go_sem,↓reduceIte]
 refine Ag (by decide) xs.length hl (I:=fun k F h=>h=[]/\A3.tmp F 0 = .ls (xs.map JC)/\A3.tmp F 1 = .f g a c/\∀ (j:Nat) (hj:j < xs.length),j < k->p xs[j]=false) ?_ ?_ 0 _ _ (by omega) ?_ ?_ ?_
 .rintro k F h hk h1 h2 ⟨rfl,h3,h4,h5⟩
  have hq:=fun Q=>Ad (hf xs[k] (getElem_mem hk)) (Q:=Q)
  have h0:=ha.call hc (h:=[]) (x:=[lI (xs[k])]) rfl
  cases e:p xs[k] with
  | true =>
   simp only [go_sem,↓reduceIte,h1,h2,h3,h4,getElem?_eq_getElem hk,h0,hq,e]
   rw [Dr hk e fun j hj=>h5 j (by omega) hj]
  | false =>
   simp only [go_sem,↓reduceIte,h1,h2,h3,h4,getElem?_eq_getElem hk,h0,hq,e]
   have h7:Mm 0 (.f g a c) = .f g a c:=by
    have h1:CF 0 a=true:=Fz.bel ha
    have h2:CF 0 c=true:=Fz.bel hc
    simp [Mm,bel,h1,h2]
   simp only [A9d,Fz.bel ha,Fz.bel hc,Bool.and_self,cond_true,true_and]
   intro j hj h6
   by_cases e2:j=k
   .subst e2;exact e
   .exact h5 j hj (by omega)
 .rintro F h ⟨rfl,h3,h4,h5⟩
  simp only [go_sem,↓reduceIte]
  rw [Dq fun x hx=>by obtain ⟨j,hj,e⟩:=List.mem_iff_getElem.1 hx;rw [<- e];exact h5 j hj hj]
 all_goals simp only [go_sem,↓reduceIte]
 all_goals first | rfl | (intro j hj h6;omega)
theorem Rx (xs ys:List Int) (hl:xs.length < 9223372036854775807):VP V QZ [lI xs,lI ys] Q↔Q (.b (decide (xs=ys))):=by
 refine Ad ?_
 rw [Ab C.c_z199.1 C.c_z199.2]
 by_cases hxy:xs.length=ys.length
 .simp only [Uk,go_sem,↓reduceIte,hxy]
  refine Ag (by decide) ys.length (by omega) (I:=fun k F h=>h=[]/\A3.tmp F 0=lI xs/\A3.tmp F 1=lI ys/\∀ (j:Nat) (hj:j < xs.length) (h0:j < ys.length),j < k->xs[j]=ys[j]) ?_ ?_ 0 _ _ (by omega) ?_ ?_ ?_
  .rintro k F h hk h1 h2 ⟨rfl,h3,h4,h5⟩
   have h6:k < xs.length:=by omega
   by_cases e:xs[k]=ys[k]
   .simp only [go_sem,↓reduceIte,h1,h2,h3,h4,getElem?_eq_getElem hk,getElem?_eq_getElem h6,e]
    intro j hj h0 h7
    by_cases e2:j=k
    .subst e2;exact e
    .exact h5 j hj h0 (by omega)
   .simp only [go_sem,↓reduceIte,h1,h2,h3,h4,getElem?_eq_getElem hk,getElem?_eq_getElem h6,e]
    refine (decide_eq_false ?_).symm
    rintro rfl
    exact e rfl
  .rintro F h ⟨rfl,h3,h4,h5⟩
   simp only [go_sem,↓reduceIte]
   exact (decide_eq_true (List.ext_getElem hxy fun j hj h0=>h5 j hj h0 h0)).symm
  all_goals simp only [go_sem,↓reduceIte]
  all_goals first | rfl | (intro j hj h0 h7;omega)
 .simp only [Uk,go_sem,↓reduceIte,Int.natCast_inj,hxy]
  refine (decide_eq_false ?_).symm
  rintro rfl
  exact hxy rfl
end
@[go_sem] theorem NI {n k:Nat} {f:Nat->BitVec 64} {z:BitVec 64}:((CO n k f z).map eW).set k [vW (f k)]=(CO n (k+1) f z).map eW:=N6 eW
@[go_sem] theorem AkE {n k:Nat} {f:Nat->Int} {z:Int}:((CO n k f z).map eI).set k [.i .i64 (f k)]=(CO n (k+1) f z).map eI:=N6 eI
@[go_sem] theorem AkD {α:Type} {n k:Nat} {f:Nat->α} {z:α}:(CO n k f z).take n=CO n k f z:=by rw [List.take_of_length_le];rw [RL];exact Nat.le_refl n
attribute [go_sem] RL List.length_range
@[go_sem] theorem AjE (n:Nat):(List.range n).take n=List.range n:=by rw [List.take_of_length_le];simp
@[go_sem] theorem Atv (n:Nat) (w:BitVec 64):List.replicate n [vW w]=(List.replicate n w).map eW:=by simp
@[go_sem] theorem Atu (n:Nat) (w:Int):List.replicate n [VV.i .i64 w]=(List.replicate n w).map eI:=by simp
abbrev eP (p:Int×Int):List VV:=[.i .i64 p.1,.i .i64 p.2]
abbrev lP (l:List (Int×Int)):VV:=.ls (l.map eP)
@[go_sem] theorem Arx (xs:List (Int×Int)) (x y:Int):xs.map eP++[[.i .i64 x,.i .i64 y]]=(xs++[(x,y)]).map eP:=by simp
theorem Fz.of {a:List VV} (h:∀ h d,B6 (frz h (d+3)) a=some (a,[])):Fz a:=h
section
variable {V:Am} (C:Ap V) {Q:VV->Prop}
include C
theorem A0P (x all:BitVec 64):VP V QK [vW x,.fp [vW all] 0] Q↔Q (.b (!decide (x &&& ~~~all=0#64))):=by
 refine Ad ?_
 rw [Ab C.c_z104.1 C.c_z104.2]
 simp only [A1Q,go_sem,↓reduceIte,Lc C]
theorem Cx (r:Rows):VP V ME [lW r] Q↔Q (.b (CX r)):=by
 refine Ad ?_
 rw [Ab C.c_z64.1 C.c_z64.2]
 by_cases hl:r.length<=64
 .have h0:¬ (64:Int) < r.length:=by omega
  simp only [A5c,go_sem,↓reduceIte,h0,J5 C 0 _ (by omega),
   Dw C r (by omega) (g:=QK) (a:=[]) (c:=[.fp [vW (CG 0 r.length)] 0]) Fz.nil (fun _ _=>rfl) (fun x=>!decide (x &&& ~~~(CG 0 r.length)=0#64)) (fun x=>(A0P C _ _).2 rfl)]
  simp only [CX,hl,go_sem,List.not_any_eq_all_not,Bool.not_not]
 .have h0:(64:Int) < r.length:=by omega
  simp only [A5c,go_sem,↓reduceIte,h0,Bool.true_eq_false]
  simp [CX,hl]
theorem A4p {n:Nat} (hl:n<=1000) {gf:Nat} {a c:List VV} (ha:Fz a) (hc:Fz c) (row:Nat->BitVec 64)
  (hp:∀ (i:Nat),i < n->VP V gf (a++[.i .i64 (i:Nat)]++c) fun r=>r=vW (row i)) :
  VP V A0o [.i .i64 n,.f gf a c] Q↔Q (lW ((List.range n).map row)):=by
 refine Ad ?_
 rw [Ab C.c_z65.1 C.c_z65.2]
 have h0:n * 8<=A8:=by unfold A8;omega
 simp only [A5d,go_sem,↓reduceIte,h0,Int.le_refl]
 refine Ag (by decide) n (by omega) (I:=fun k F h=>A3.tmp F 1 = .f gf a c/\A3.tmp F 5 = .sl 0 0 0 n/\h=[some ⟨AL,1,0,false,(CO n k row 0#64).map eW⟩]) ?_ ?_ 0 _ _ (by omega) ?_ ?_ ?_
 .rintro k F h hk h1 h2 ⟨h3,h4,rfl⟩
  have hq:=fun Q=>Ad (hp k hk) (Q:=Q)
  have h5:=ha.call hc (h:=[some ⟨AL,1,0,false,(CO n k row 0#64).map eW⟩]) (x:=[.i .i64 (k:Nat)]) rfl
  simp only [go_sem,↓reduceIte,h1,h2,h3,h4,hk,h5,hq,GQ hk,Fz.bel ha,Fz.bel hc]
 .rintro F h ⟨h3,h4,rfl⟩
  simp only [go_sem,↓reduceIte,h4,EM]
 all_goals simp only [go_sem,↓reduceIte]
 all_goals first | rfl | rw [DN]
theorem Pc {n:Nat} (hl:n<=1000) {gf:Nat} {a c:List VV} (ha:Fz a) (hc:Fz c) (row:Nat->BitVec 64) (b0:Nat) {Q':VV->VH->Prop}
  (hp:∀ (i:Nat),i < n->VP V gf (a++[.i .i64 (i:Nat)]++c) fun r=>r=vW (row i)) :
  TE V A0o [.i .i64 n,.f gf a c] b0 Q'↔Q' (.sl b0 0 0 n) [some ⟨AL,1,0,false,((List.range n).map row).map eW⟩]:=by
 refine Hs ?_
 rw [Ht C.c_z65.2]
 have h0:n * 8<=A8:=by unfold A8;omega
 simp only [A5d,go_sem,↓reduceIte,h0,Int.le_refl]
 refine Ag (by decide) n (by omega) (I:=fun k F h=>A3.tmp F 1 = .f gf a c/\A3.tmp F 5 = .sl 0 0 0 n/\h=[some ⟨AL,1,0,false,(CO n k row 0#64).map eW⟩]) ?_ ?_ 0 _ _ (by omega) ?_ ?_ ?_
 .rintro k F h hk h1 h2 ⟨h3,h4,rfl⟩
  have hq:=fun Q=>Ad (hp k hk) (Q:=Q)
  have h5:=ha.call hc (h:=[some ⟨AL,1,0,false,(CO n k row 0#64).map eW⟩]) (x:=[.i .i64 (k:Nat)]) rfl
  simp only [go_sem,↓reduceIte,h1,h2,h3,h4,hk,h5,hq,GQ hk,Fz.bel ha,Fz.bel hc]
 .rintro F h ⟨h3,h4,rfl⟩
  simp only [go_sem,↓reduceIte,h4,EM,Bl]
  simp
 all_goals simp only [go_sem,↓reduceIte]
 all_goals first | rfl | rw [DN]
theorem Kn (a b:Rows):VP V Yc [.ag [lW a,lW b]] Q↔Q (.b (CX a && CX b && decide (a.length=b.length))):=by
 refine Ad ?_
 rw [Ab C.c_z226.1 C.c_z226.2]
 cases hma:CX a<;>cases hmb:CX b <;>
  simp only [A37,go_sem,↓reduceIte,Cx C,hma,hmb,Int.natCast_inj]
omit C in
theorem B4 {a:Rows} {i:Nat} (h:i < a.length):a[i]? = some (a.getD i 0#64):=by rw [Aeb h,getElem?_eq_getElem h]
theorem Sp (a b:Rows) {i:Nat} (hi:i < a.length) (hi':i < b.length):VP V R0 [.ag [lW a,lW b],.i .i64 i] Q↔Q (vW (a.getD i 0#64 ||| b.getD i 0#64)):=by
 refine Ad ?_
 rw [Ab C.c_z204.1 C.c_z204.2]
 simp only [A2N,go_sem,↓reduceIte,B4 hi,B4 hi']
theorem Ps (a b:Rows) {gf:Nat} {fa fc:List VV} (ha:Fz fa) (hc:Fz fc) (row:Nat->BitVec 64)
  (hp:a.length=b.length->a.length<=64->∀ (i:Nat),i < a.length->VP V gf (fa++[.i .i64 (i:Nat)]++fc) fun r=>r=vW (row i)) :
  VP V XR [.ag [lW a,lW b],.f gf fa fc] Q↔Q (lW (if CX a && CX b && decide (a.length=b.length) then (List.range a.length).map row else [])):=by
 refine Ad ?_
 rw [Ab C.c_z203.1 C.c_z203.2]
 cases hm:(CX a && CX b && decide (a.length=b.length)) with
 | false=>simp only [Ul,go_sem,↓reduceIte,Kn C,hm,false_eq_true]
 | true =>
  have h0:=hm
  simp only [Bool.and_eq_true,decide_eq_true_eq] at h0
  have hl:=Ga h0.1.1
  simp only [Ul,go_sem,↓reduceIte,Kn C,hm,A4p C (show a.length<=1000 by omega) ha hc row (fun i hi=>hp h0.2 hl i hi),Fz.eq ha,Fz.eq hc]
theorem AcD (a b:Rows):VP V Xx [lW a,lW b] Q↔Q (lW (orF a b)):=by
 refine Ad ?_
 rw [Ab C.c_z169.1 C.c_z169.2]
 simp only [A2r,go_sem,↓reduceIte,
  Ps C a b (gf:=R0) (fa:=[.ag [lW a,lW b]]) (fc:=[]) (fun _ _=>rfl) Fz.nil (fun i=>a.getD i 0#64 ||| b.getD i 0#64) (fun h1 h2 i hi=>(Sp C a b hi (by omega)).2 rfl)]
 rfl
theorem A4o (a:Rows) (hl:a.length<=64) (s:BitVec 64):VP V XX [lW a,vW s] Q↔Q (vW (Dz a s)):=by
 refine Ad ?_
 rw [Ab C.c_z211.1 C.c_z211.2]
 simp only [A2T,go_sem,↓reduceIte,J5 C 0 _ (by omega),Cz C]
 have h1:=Cv (s &&& CG 0 a.length)
 have h7:∀ i,i∈Ca (s &&& CG 0 a.length)->i < a.length:=by
  intro i hi
  have:=(A02 hi).2
  rw [BitVec.getLsbD_and,CG,AE] at this
  simp at this
  omega
 unfold Dz
 unfold AC at h1 ⊢
 generalize Ca (s &&& CG 0 a.length)=L at *
 refine Ag (by decide) (L.map fun (i:Nat)=>(i:Int)).length (by omega) (I:=fun k F h=>h=[]/\A3.tmp F 0=lW a/\A3.tmp F 13=lI (L.map fun (i:Nat)=>(i:Int))/\A3.tmp F 5=vW ((L.take k).foldl (fun x i=>x ||| a.getD i 0#64) 0#64)) ?_ ?_ 0 _ _ (by omega) ?_ ?_ ?_
 .rintro k F h hk h2 h3 ⟨rfl,h4,h5,h6⟩
  have h0:k < L.length:=by simpa using hk
  simp only [go_sem,↓reduceIte,h2,h3,h4,h5,h6,getElem?_eq_getElem h0,B4 (h7 _ (getElem_mem h0))]
  rw [List.take_succ_eq_append_getElem h0,foldl_append,foldl_cons,List.foldl_nil]
 .rintro F h ⟨rfl,h4,h5,h6⟩
  rw [length_map,take_length] at h6
  simp only [go_sem,↓reduceIte,h6]
 all_goals simp only [go_sem,↓reduceIte]
 all_goals rfl
theorem Rr (a:Rows) (hm:CX a=true) (s:BitVec 64):VP V LW [lW a,vW s] Q↔Q (vW (Dz a s)):=by
 refine Ad ?_
 rw [Ab C.c_z175.1 C.c_z175.2]
 simp only [A2x,go_sem,↓reduceIte,Cx C,hm,A4o C a (Ga hm)]
theorem Lp (a:Rows) (hm:CX a=true) (s:BitVec 64):VP V GJ [lW a,vW s] Q↔Q (vW (Dz a s)):=by
 refine Ad ?_
 rw [Ab C.c_z174.1 C.c_z174.2]
 simp only [A2w,go_sem,↓reduceIte,Rr C a hm]
theorem Lq (a:Rows) (hm:CX a=true) (s:BitVec 64):VP V LV [lW a,vW s,.f GJ [] []] Q↔Q (vW (Eg a s)):=by
 refine Ad ?_
 rw [Ab C.c_z173.1 C.c_z173.2]
 simp only [A2v,go_sem,↓reduceIte]
 unfold VL
 rw [A0]
 refine AA (M:=BitVec 64) (I:=fun t F h=>h=[]/\A3.tmp F 0=lW a/\A3.tmp F 1=vW t/\A3.tmp F 2 = .f GJ [] []/\Eg a t=Eg a s) (μ:=fun t=>18446744073709551616 - t.toNat) ?_ s _ _ ⟨rfl,?_,?_,?_,rfl⟩
 .rintro t F h ⟨rfl,h0,h1,h2,h3⟩
  have hs:=A1z a t
  by_cases e:t ||| Dz a t=t
  .rw [if_pos e] at hs
   simp only [Uy,go_sem,↓reduceIte,h0,h1,h2,A0,Lp C a hm,e]
   rw [<- h3,hs]
  .rw [if_neg e] at hs
   simp only [Uy,go_sem,↓reduceIte,h0,h1,h2,A0,Lp C a hm,e]
   have:=Ke e
   have:=(t ||| Dz a t).isLt
   exact ⟨t ||| Dz a t,by omega,rfl,by rw [<- h3,hs]⟩
 all_goals simp only [go_sem,↓reduceIte]
theorem MN (a:Rows):VP V QO [lW a] Q↔Q (lW (Bz a)):=by
 refine Ad ?_
 rw [Ab C.c_z125.1 C.c_z125.2]
 cases hm:CX a with
 | false=>simp only [Ql,go_sem,↓reduceIte,Cx C,hm,Bz,false_eq_true]
 | true =>
  have hl:=Ga hm
  have h0:a.length * 8<=A8:=by unfold A8;omega
  simp only [Ql,go_sem,↓reduceIte,Cx C,hm,h0,Int.le_refl]
  refine Ag (by decide) a.length (by omega) (I:=fun k F h=>A3.tmp F 0=lW a/\A3.tmp F 12=lW a/\A3.tmp F 3 = .sl 0 0 0 a.length/\h=[some ⟨AL,1,0,false,(CO a.length k (fun i=>Eg a (a.getD i 0#64)) 0#64).map eW⟩]) ?_ ?_ 0 _ _ (by omega) ?_ ?_ ?_
  .rintro k F h hk h1 h2 ⟨h3,h4,h5,rfl⟩
   have hu:=NI (n:=a.length) (k:=k) (f:=fun i=>Eg a (a.getD i 0#64)) (z:=0#64)
   simp only [go_sem,↓reduceIte,h1,h2,h3,h4,h5,hk,B4 hk,Lq C a hm,GQ hk,hu]
  .rintro F h ⟨h3,h4,h5,rfl⟩
   simp only [go_sem,↓reduceIte,h5,EM,Bz,hm]
  all_goals simp only [go_sem,↓reduceIte]
  all_goals first | rfl | rw [DN]
theorem Km (a:Rows) (s:BitVec 64) {i:Nat} (hi:i < a.length):VP V SW [.ag [lW a,vW s],.i .i64 i] Q↔Q (vW (if B1 s (i:Int) then a.getD i 0#64 &&& s else 0#64)):=by
 refine Ad ?_
 rw [Ab C.c_z66.1 C.c_z66.2]
 cases hh:B1 s (i:Int)<;>simp only [Aae,go_sem,↓reduceIte,AK C,hh,B4 hi,false_eq_true]
theorem A4m (a:Rows) (s:BitVec 64):VP V A0h [lW a,vW s] Q↔Q (lW (Mz a s)):=by
 refine Ad ?_
 rw [Ab C.c_z32.1 C.c_z32.2]
 cases hm:CX a with
 | false=>simp only [ZH,go_sem,↓reduceIte,Cx C,hm,Mz,false_eq_true]
 | true =>
  have hl:=Ga hm
  simp only [ZH,go_sem,↓reduceIte,Cx C,hm,Mz,
   Pc C (show a.length<=1000 by omega) (gf:=SW) (a:=[.ag [lW a,vW s]]) (c:=[]) (fun _ _=>rfl) Fz.nil (fun (i:Nat)=>if B1 s (i:Int) then a.getD i 0#64 &&& s else 0#64) 0 (fun i hi=>(Km C a s hi).2 rfl)]
theorem A4n (n:Nat) (hn:n<=64) (b:Nat) {Q:VV->VH->Prop}:TE V XS [.i .i64 n] b Q↔Q (.sl b 0 0 n) [some ⟨AL,1,0,false,(List.replicate n 0#64).map eW⟩]:=by
 refine Hs ?_
 rw [Ht C.c_z205.2]
 have h0:n * 8<=A8:=by unfold A8;omega
 have h1:¬ (64:Int) < n:=by omega
 have h2:¬ (n:Int) < 0:=by omega
 simp only [A2O,go_sem,↓reduceIte,h0,h1,h2,Int.le_refl,Bl]
 simp
theorem Pb (a:Rows):VP V QR [lW a] Q↔Q (lP (Bj a)):=by
 refine Ad ?_
 rw [Ab C.c_z156.1 C.c_z156.2]
 cases hm:CX a with
 | false=>simp only [Ud,go_sem,↓reduceIte,Cx C,hm,Bj,false_eq_true,R8]
 | true =>
  have hl:=Ga hm
  simp only [Ud,go_sem,↓reduceIte,Cx C,hm,R8]
  refine Ag (by decide) a.length (by omega) (I:=fun k F h=>A3.tmp F 12=lW a/\∃ l,l=((List.range k).flatMap (fun (i:Nat)=>(AC (a.getD i 0#64)).map fun j=>((i:Int),j)))/\A3.tmp F 3 = .sl 0 l.length 0 l.length/\h=[some (AX A4I 2 (l.map eP))]) ?_ ?_ 0 _ _ (by omega) ?_ ?_ ?_
  .rintro k F h hk h1 h2 ⟨h3,l,h0,h4,rfl⟩
   simp only [go_sem,↓reduceIte,h1,h2,h3,h4,B4 hk,Cz C]
   have h8:=Cv (a.getD k 0#64)
   have h7:=Nz a k
   rw [<- h0] at h7
   refine Ag (by decide) (AC (a.getD k 0#64)).length (by omega) (I:=fun m F h=>A3.tmp F 14 = .i .i64 k/\A3.tmp F 13 = .i .i64 a.length/\A3.tmp F 12=lW a/\A3.tmp F 20=lI (AC (a.getD k 0#64))/\A3.tmp F 4 = .i .i64 k/\∃ l',l' = l++((AC (a.getD k 0#64)).take m).map (fun j=>((k:Int),j))/\A3.tmp F 3 = .sl 0 l'.length 0 l'.length/\h=[some (AX A4I 2 (l'.map eP))]) ?_ ?_ 0 _ _ (by omega) ?_ ?_ ?_
   .rintro m G h h6 j1 j2 ⟨j4,j5,j6,j7,j8,l',h5,j9,rfl⟩
    have hb:(l'.length+1) * 16<=A8:=by
     have:l'.length<=10000:=by
      rw [h5,length_append,length_map,List.length_take];omega
     unfold A8;omega
    simp only [go_sem,↓reduceIte,j1,j2,j4,j5,j6,j7,j8,j9,getElem?_eq_getElem h6,hb]
    refine ⟨_,?_,by rw [length_append];rfl,rfl⟩
    rw [h5,List.take_succ_eq_append_getElem h6,List.map_append,List.append_assoc];rfl
   .rintro G h ⟨j4,j5,j6,j7,j8,l',h5,j9,rfl⟩
    simp only [go_sem,↓reduceIte,j4,j5,j6,j9]
    refine ⟨_,?_,rfl,rfl⟩
    rw [h5,take_length,h0,List.flatMap_append];simp
   all_goals simp only [go_sem,↓reduceIte,h1,h2,h3,h4]
   all_goals first | rfl | exact ⟨l,by simp,rfl,rfl⟩
  .rintro F h ⟨h3,l,h0,h4,rfl⟩
   simp only [go_sem,↓reduceIte,h4,Bj,hm,<- h0]
  all_goals simp only [go_sem,↓reduceIte]
  all_goals first | rfl | exact ⟨[],rfl,rfl,rfl⟩
end
theorem AdE {e:Option Pl} (s:BitVec 64) {n:Nat} (h:n < 64):Bf .shr e (Wd s) (.i .u64 n)=some (Wd (s >>> n)):=by
 have h0:¬ ((n:Int) < 0):=by omega
 simp only [Wd,Bf,Gv,if_neg h0,IntKind.bits,Option.some.injEq,AV.i.injEq,true_and,toNat_natCast]
 rw [Nat.min_eq_left (by omega),BitVec.toNat_ushiftRight,Nat.shiftRight_eq_div_pow]
 rw [show ((2:Int) ^ n)=((2 ^ n:Nat):Int) by simp,Int.fdiv_eq_ediv_of_nonneg _ (Int.natCast_nonneg _)]
 rfl
theorem AdD {e:Option Pl} (s:BitVec 64):Bf .rem e (Wd s) (.i .u64 2)=some (Wd (if s.getLsbD 0 then 1#64 else 0#64)):=by
 rw [Wd,A92 (by decide)]
 simp only [Option.some.injEq,Wd,AV.i.injEq,true_and]
 have h0:s.getLsbD 0=decide (s.toNat % 2=1):=by
  show s.toNat.testBit 0=_
  simp [Nat.testBit_zero]
 rw [h0]
 have:(s.toNat:Int).tmod 2=((s.toNat % 2:Nat):Int):=by
  rw [Int.tmod_eq_emod_of_nonneg (Int.natCast_nonneg _)]
  rfl
 rw [this]
 by_cases h:s.toNat % 2=1
 .simp [h]
 .have:s.toNat % 2=0:=by omega
  simp [this]
theorem AfR {e:Option Pl} (s:BitVec 64) {n:Nat} (h:n < 64):B5 .shr e (vW s) (.i .u64 n)=some (vW (s >>> n)):=by
 show (Bf .shr e (Wd s) (.i .u64 n)).bind Gb=_
 rw [AdE s h];rfl
theorem AfQ {e:Option Pl} (s:BitVec 64):B5 .rem e (vW s) (.i .u64 2)=some (vW (if s.getLsbD 0 then 1#64 else 0#64)):=by
 show (Bf .rem e (Wd s) (.i .u64 2)).bind Gb=_
 rw [AdD s];rfl
section
variable {V:Am} (C:Ap V) {Q:VV->Prop}
include C
theorem AR (s:BitVec 64) (i:Int):VP V Ac2 [vW s,.i .i64 i] Q↔Q (.b (B1 s i)):=by
 refine Ad ?_
 rw [Ab C.c_z85.1 C.c_z85.2]
 by_cases h0:i < 0
 .have:B1 s i=false:=by unfold B1;simp;omega
  simp only [A5h,go_sem,↓reduceIte,h0,this]
 .by_cases h1:63 < i
  .have:B1 s i=false:=by
    unfold B1
    rw [BitVec.getLsbD_of_ge _ _ (by omega)]
    simp
   simp only [A5h,go_sem,↓reduceIte,h0,h1,this]
  .obtain ⟨n,rfl⟩:=eq_ofNat_of_zero_le (by omega:0<=i)
   have hw:IntKind.u64.wrap (n:Int)=n:=by rw [HX];omega
   have hs:∀ e,B5 .shr e (vW s) (.i .u64 (n:Int))=some (vW (s >>> n)):=fun e=>AfR s (by omega)
   simp only [A5h,go_sem,↓reduceIte,h0,h1,hw,hs,AfQ]
   rw [AD,BitVec.getLsbD_ushiftRight,Nat.add_zero]
   cases s.getLsbD n<;>rfl
theorem DC (s t:BitVec 64):VP V A3Y [vW s,vW t] Q↔Q (.b (decide (s ||| t=t))):=by
 refine Ad ?_
 rw [Ab C.c_z131.1 C.c_z131.2]
 simp only [A9D,go_sem,↓reduceIte]
theorem Yv (n:Nat) (hn:n < 64):VP V Ac3 [.i .i64 n] Q↔Q (vW (1#64 <<< n)):=by
 refine Ad ?_
 rw [Ab C.c_z86.1 C.c_z86.2]
 simp only [Ago,go_sem,↓reduceIte]
 refine Aa (by decide) n (by omega) (I:=fun k F h=>h=[]/\A3.tmp F 0 = .i .i64 n/\A3.tmp F 3=vW (1#64 <<< k)) ?_ ?_ ?_ 0 _ _ (zero_le _) ?_ ?_
 .rintro k F h hk h1 ⟨rfl,h2,h3⟩
  simp only [go_sem,↓reduceIte,h1,h2,h3]
 .rintro k F h hk h1 ⟨rfl,h2,h3⟩
  simp only [go_sem,↓reduceIte,h1,h2,h3]
  congr 1
  apply BitVec.eq_of_toNat_eq
  rw [BitVec.toNat_add,BitVec.toNat_shiftLeft,BitVec.toNat_shiftLeft]
  simp only [Nat.shiftLeft_eq]
  have:(1#64).toNat=1:=rfl
  rw [this,Nat.pow_succ]
  omega
 .rintro F h ⟨rfl,h2,h3⟩
  simp only [go_sem,↓reduceIte,h3]
 all_goals simp only [go_sem,↓reduceIte]
 all_goals rfl
theorem Bk (s:BitVec 64) (i:Int):VP V AbL [vW s,.i .i64 i] Q↔Q (vW (s ||| BK i)):=by
 refine Ad ?_
 rw [Ab C.c_z48.1 C.c_z48.2]
 by_cases h0:i < 0
 .have:BK i=0#64:=by unfold BK;rw [if_neg (by omega)]
  simp only [ZJ,go_sem,↓reduceIte,h0,this,BitVec.or_zero]
 .by_cases h1:63 < i
  .have:BK i=0#64:=by unfold BK;rw [if_neg (by omega)]
   simp only [ZJ,go_sem,↓reduceIte,h0,h1,this,BitVec.or_zero]
  .obtain ⟨n,rfl⟩:=eq_ofNat_of_zero_le (by omega:0<=i)
   have h2:BK (n:Int)=1#64 <<< n:=by unfold BK;rw [if_pos (by omega)];rfl
   cases hb:B1 s n with
   | true =>
    simp only [ZJ,go_sem,↓reduceIte,h0,h1,AR C,hb]
    congr 1
    apply Bm
    intro j hj
    rw [BitVec.getLsbD_or,Cb]
    by_cases e:j=n
    .subst e;rw [AD] at hb;simp [hb]
    .have:¬ ((j:Int)=n):=by omega
     simp [this]
   | false =>
    simp only [ZJ,go_sem,↓reduceIte,h0,h1,AR C,hb,Yv C n (by omega)]
    congr 1
    rw [h2]
    apply BitVec.add_eq_or_of_and_eq_zero
    rw [<- h2,NR]
    rw [AD] at hb
    simp [hb]
theorem T9 (r:Rows) (a b:Int) (hl:r.length < 9223372036854775807):VP V Ac8 [lW r,.i .i64 a,.i .i64 b] Q↔Q (.b (decide (0<=a) && B1 (r.getD a.toNat 0#64) b)):=by
 refine Ad ?_
 rw [Ab C.c_z90.1 C.c_z90.2]
 by_cases h0:0<=a
 .obtain ⟨n,rfl⟩:=eq_ofNat_of_zero_le h0
  by_cases h1:n < r.length
  .simp only [A5i,go_sem,↓reduceIte,h1,B4 h1,AR C]
  .have:r.getD n 0#64=0#64:=by rw [List.getD_eq_getElem?_getD,List.getElem?_eq_none (by omega)];rfl
   simp only [A5i,go_sem,↓reduceIte,h1,this]
   simp [B1]
 .simp only [A5i,go_sem,↓reduceIte,h0]
theorem A86 (xs:List Int) (hl:xs.length < 9223372036854775807):VP V A40 [lI xs] Q↔Q (vW (CP xs)):=by
 refine Ad ?_
 rw [Ab C.c_z133.1 C.c_z133.2]
 simp only [A9F,go_sem,↓reduceIte]
 refine Aa (by decide) xs.length hl (I:=fun k F h=>h=[]/\A3.tmp F 0=lI xs/\A3.tmp F 3=vW (CP (xs.take k))) ?_ ?_ ?_ 0 _ _ (zero_le _) ?_ ?_
 .rintro k F h hk h1 ⟨rfl,h2,h3⟩
  simp only [go_sem,↓reduceIte,h1,h2,h3]
 .rintro k F h hk h1 ⟨rfl,h2,h3⟩
  simp only [go_sem,↓reduceIte,h1,h2,h3,getElem?_eq_getElem hk,Bk C]
  rw [List.take_succ_eq_append_getElem hk]
  simp only [CP,foldl_append,foldl_cons,List.foldl_nil]
 .rintro F h ⟨rfl,h2,h3⟩
  rw [take_length] at h3
  simp only [go_sem,↓reduceIte,h3]
 all_goals simp only [go_sem,↓reduceIte]
 all_goals rfl
theorem MT (lo hi:Int):VP V A42 [.i .i64 lo,.i .i64 hi] Q↔Q (vW (CG lo hi)):=by
 refine Ad ?_
 rw [Ab C.c_z135.1 C.c_z135.2]
 simp only [A9H,go_sem,↓reduceIte]
 refine Aa (by decide) 64 (by omega) (I:=fun k F h=>h=[]/\A3.tmp F 0 = .i .i64 lo/\A3.tmp F 1 = .i .i64 hi/\A3.tmp F 5=vW (BT fun i=>decide (lo<=(i:Int)/\(i:Int) < hi) && decide (i < k))) ?_ ?_ ?_ 0 _ _ (zero_le _) ?_ ?_
 .rintro k F h hk h1 ⟨rfl,h2,h3,h4⟩
  simp only [go_sem,↓reduceIte,h1,h2,h3,h4]
  exact decide_eq_decide.2 (by omega)
 .rintro k F h hk h1 ⟨rfl,h2,h3,h4⟩
  by_cases c1:lo<=(k:Int)
  .by_cases c2:(k:Int) < hi
   .simp only [go_sem,↓reduceIte,h1,h2,h3,h4,c1,c2,Bk C]
    rw [MX _ _ hk]
    congr 1
    apply Bu
    intro j hj
    by_cases e:j=k
    .subst e;simp [c1,c2]
    .have:(j < k+1)↔(j < k):=by omega
     simp [e,this]
   .simp only [go_sem,↓reduceIte,h1,h2,h3,h4,c1,c2]
    congr 1
    apply Bu
    intro j hj
    by_cases e:j=k
    .subst e;simp [c2]
    .have:(j < k+1)↔(j < k):=by omega
     simp [this]
  .simp only [go_sem,↓reduceIte,h1,h2,h3,h4,c1]
   congr 1
   apply Bu
   intro j hj
   by_cases e:j=k
   .subst e;simp [c1]
   .have:(j < k+1)↔(j < k):=by omega
    simp [this]
 .rintro F h ⟨rfl,h2,h3,h4⟩
  simp only [go_sem,↓reduceIte,h4]
  congr 1
  apply Bu
  intro j hj
  simp [hj]
 all_goals simp only [go_sem,↓reduceIte]
 all_goals first | rfl | (rw [<- Gl];congr 1;apply Bu;intro j hj;simp)
omit C in
theorem NL (s t:BitVec 64):decide (s ||| t=t)=decide (s &&& ~~~t=0#64):=by
 apply decide_eq_decide.2
 rw [AcR]
 constructor
 .intro h
  apply Bm
  intro j hj
  cases hs:s.getLsbD j with
  | false=>simp [hs]
  | true=>simp [hs,h j hs]
 .intro h j hj
  have:=congrArg (fun w:BitVec 64=>w.getLsbD j) h
  have h0:j < 64:=BitVec.lt_of_getLsbD hj
  simp [hj,h0] at this
  exact this
theorem M0 (r:Rows) (hl:r.length < 9223372036854775807):VP V Ac4 [lW r] Q↔Q (.b (CX r)):=by
 refine Ad ?_
 rw [Ab C.c_z87.1 C.c_z87.2]
 by_cases hl:r.length<=64
 .have h0:¬ (64:Int) < r.length:=by omega
  simp only [Aat,go_sem,↓reduceIte,h0]
  refine Aa (by decide) r.length (by omega) (I:=fun k F h=>h=[]/\A3.tmp F 0=lW r/\∀ (j:Nat) (hj:j < r.length),j < k->r[j] &&& ~~~(CG 0 r.length)=0#64) ?_ ?_ ?_ 0 _ _ (zero_le _) ?_ ?_
  .rintro k F h hk h1 ⟨rfl,h2,h3⟩
   simp only [go_sem,↓reduceIte,h1,h2]
   exact h3
  .rintro k F h hk h1 ⟨rfl,h2,h3⟩
   by_cases e:r[k] &&& ~~~(CG 0 r.length)=0#64
   .simp only [go_sem,↓reduceIte,h1,h2,getElem?_eq_getElem hk,MT C,DC C,NL,e]
    intro j hj h4
    by_cases e2:j=k
    .subst e2;exact e
    .exact h3 j hj (by omega)
   .simp only [go_sem,↓reduceIte,h1,h2,getElem?_eq_getElem hk,MT C,DC C,NL,e]
    have:(r.all fun x=>decide (x &&& ~~~(CG 0 r.length)=0#64))=false:=by
     rw [List.all_eq_false]
     exact ⟨_,getElem_mem hk,by simpa using e⟩
    simp [CX,this]
  .rintro F h ⟨rfl,h2,h3⟩
   simp only [go_sem,↓reduceIte]
   have:(r.all fun x=>decide (x &&& ~~~(CG 0 r.length)=0#64))=true:=by
    rw [List.all_eq_true]
    intro x hx
    obtain ⟨j,hj,e⟩:=List.mem_iff_getElem.1 hx
    rw [<- e];simpa using h3 j hj hj
   simp [CX,hl,this]
  all_goals simp only [go_sem,↓reduceIte]
  all_goals first | rfl | (intro j hj h4;omega)
 .have h0:(64:Int) < r.length:=by omega
  simp only [Aat,go_sem,↓reduceIte,h0]
  simp [CX,hl]
theorem A0H (s:BitVec 64):VP V A44 [vW s] Q↔Q (lI (AC s)):=by
 refine Ad ?_
 rw [Ab C.c_z137.1 C.c_z137.2]
 simp only [A9I,go_sem,↓reduceIte]
 refine Aa (by decide) 64 (by omega) (I:=fun k F h=>A3.tmp F 0=vW s/\∃ l,l=(((List.range k).filter fun i=>s.getLsbD i).map fun (i:Nat)=>(i:Int))/\A3.tmp F 3 = .sl 0 l.length 0 l.length/\h=[some (AX AO 1 (l.map eI))]) ?_ ?_ ?_ 0 _ _ (zero_le _) ?_ ?_
 .rintro k F h hk h1 ⟨h2,l,hl,h3,rfl⟩
  simp only [go_sem,↓reduceIte,h1,h2,h3]
  refine ⟨decide_eq_decide.2 (by omega),l,hl,rfl,rfl⟩
 .rintro k F h hk h1 ⟨h2,l,hl,h3,rfl⟩
  have h4:l.length<=k:=by
   rw [hl,length_map]
   exact Nat.le_trans (List.length_filter_le _ _) (by simp)
  have h0:(l.length+1) * 8<=A8:=by unfold A8;omega
  cases hb:s.getLsbD k with
  | true =>
   simp only [go_sem,↓reduceIte,h1,h2,h3,AR C,AD,hb,h0]
   refine ⟨_,?_,by rw [length_append];rfl,rfl⟩
   rw [hl,List.filter_append,List.map_append]
   simp [hb]
  | false =>
   simp only [go_sem,↓reduceIte,h1,h2,h3,AR C,AD,hb]
   refine ⟨l,?_,rfl,rfl⟩
   rw [hl,List.filter_append]
   simp [hb]
 .rintro F h ⟨h2,l,hl,h3,rfl⟩
  simp only [go_sem,↓reduceIte,h3,hl]
  rfl
 all_goals simp only [go_sem,↓reduceIte]
 all_goals first | rfl | exact ⟨[],rfl,rfl,rfl⟩
theorem P9 (a:Rows) (hl0:a.length < 9223372036854775807):VP V Ac5 [lW a] Q↔Q (lW (Bz a)):=by
 refine Ad ?_
 rw [Ab C.c_z88.1 C.c_z88.2]
 cases hm:CX a with
 | false=>simp only [Aau,go_sem,↓reduceIte,M0 C _ hl0,hm,Bz,false_eq_true]
 | true =>
  have hl:=Ga hm
  have h0:a.length * 8<=A8:=by unfold A8;omega
  simp only [Aau,go_sem,↓reduceIte,M0 C _ hl0,hm,h0,Int.le_refl]
  refine Aa (by decide) a.length (by omega) (I:=fun k F h=>A3.tmp F 0=lW a/\A3.tmp F 3 = .sl 0 0 0 a.length/\h=[some ⟨AL,1,0,false,(CO a.length k (fun i=>Eg a (a.getD i 0#64)) 0#64).map eW⟩]) ?_ ?_ ?_ 0 _ _ (zero_le _) ?_ ?_
  .rintro k F h hk h1 ⟨h2,h3,rfl⟩
   simp only [GG,go_sem,↓reduceIte,h1,h2,h3]
  .rintro k F h hk h1 ⟨h2,h3,rfl⟩
   simp only [GG,go_sem,↓reduceIte,h1,h2,h3,B4 hk]
   unfold VL
   rw [A0]
   refine AA (M:=BitVec 64×Bool) (I:=fun m G h2=>h2=[some ⟨AL,1,0,false,(CO a.length k (fun i=>Eg a (a.getD i 0#64)) 0#64).map eW⟩]/\A3.tmp G 0=lW a/\A3.tmp G 3 = .sl 0 0 0 a.length/\A3.tmp G 4 = .i .i64 k/\A3.tmp G 5=vW m.1/\A3.tmp G 6 = .b m.2/\Z4 (a.getD k 0#64) m.1/\(∀ u,Z4 (a.getD k 0#64) u->Ma a u->Z4 m.1 u)/\(m.2=false->Ma a m.1)) (μ:=fun m=>2 * (18446744073709551616 - m.1.toNat)+(if m.2 then 1 else 0)) ?_ (a.getD k 0#64,true) _ _ ⟨rfl,?_,?_,?_,?_,?_,fun j hj=>hj,fun u hu _=>hu,fun h=>by cases h⟩
   .rintro ⟨t,b⟩ G h7 ⟨rfl,j1,j2,j3,j4,j5,j6,j7,j8⟩
    simp only at j4 j5 j6 j7 j8 ⊢
    cases b with
    | false =>
     have hc:Eg a (a.getD k 0#64)=t:=(Qh hl _).uniq ⟨j6,j8 rfl,j7⟩
     have hu:=NI (n:=a.length) (k:=k) (f:=fun i=>Eg a (a.getD i 0#64)) (z:=0#64)
     rw [hc] at hu
     simp only [GG,go_sem,↓reduceIte,j1,j2,j3,j4,j5,hk,GQ hk,hu]
    | true =>
     simp only [GG,go_sem,↓reduceIte,j1,j2,j3,j4,j5,A0]
     refine Aa (by decide) a.length (by omega) (I:=fun y G h3=>h3=[some ⟨AL,1,0,false,(CO a.length k (fun i=>Eg a (a.getD i 0#64)) 0#64).map eW⟩]/\A3.tmp G 0=lW a/\A3.tmp G 3 = .sl 0 0 0 a.length/\A3.tmp G 4 = .i .i64 k/\∃ t' b',A3.tmp G 5=vW t'/\A3.tmp G 6 = .b b'/\Z4 (a.getD k 0#64) t'/\(∀ u,Z4 (a.getD k 0#64) u->Ma a u->Z4 t' u)/\(b' = true->t.toNat < t'.toNat)/\(b' = false->t' = t/\∀ y',y' < y->t.getLsbD y' = true->Z4 (a.getD y' 0#64) t)) ?_ ?_ ?_ 0 _ _ (zero_le _) ?_ ?_
     .rintro y E h4 hy p1 ⟨rfl,p2,p3,p4,t',b',p5,p6,p7⟩
      simp only [GG,go_sem,↓reduceIte,p1,p2,p3,p4,p5,p6]
      exact ⟨t',rfl,p7⟩
     .rintro y E h4 hy p1 ⟨rfl,p2,p3,p4,t',b',p5,p6,p7,p8,p9,h5⟩
      cases hb:t'.getLsbD y with
      | false =>
       simp only [GG,go_sem,↓reduceIte,p1,p2,p3,p4,p5,p6,AR C,AD,hb]
       refine ⟨t',rfl,p7,p8,p9,fun hb'=>?_⟩
       obtain ⟨e1,e2⟩:=h5 hb'
       refine ⟨e1,fun y' hy' hty=>?_⟩
       by_cases e:y' = y
       .subst e;rw [e1] at hb;rw [hb] at hty;cases hty
       .exact e2 y' (by omega) hty
      | true =>
       by_cases hs:a.getD y 0#64 ||| t' = t'
       .simp only [GG,go_sem,↓reduceIte,p1,p2,p3,p4,p5,p6,AR C,AD,hb,B4 hy,DC C,hs]
        refine ⟨t',rfl,p7,p8,p9,fun hb'=>?_⟩
        obtain ⟨e1,e2⟩:=h5 hb'
        refine ⟨e1,fun y' hy' hty=>?_⟩
        by_cases e:y' = y
        .subst e
         rw [<- e1]
         exact (AcR _ _).1 hs
        .exact e2 y' (by omega) hty
       .simp only [GG,go_sem,↓reduceIte,p1,p2,p3,p4,p5,p6,AR C,AD,hb,B4 hy,DC C,hs]
        have h6:t'.toNat < (t' ||| a.getD y 0#64).toNat:=Ke (by rw [BitVec.or_comm];exact hs)
        refine ⟨t' ||| a.getD y 0#64,rfl,fun j hj=>by rw [BitVec.getLsbD_or,p7 j hj,Bool.true_or],fun u hu hc j hj=>?_,?_⟩
        .rw [BitVec.getLsbD_or,Bool.or_eq_true] at hj
         rcases hj with hj | hj
         .exact p8 u hu hc j hj
         .exact hc y hy (p8 u hu hc y hb) j hj
        .cases b' with
         | true=>have:=p9 rfl;omega
         | false=>rw [(h5 rfl).1] at h6 ⊢;exact h6
     .rintro E h4 ⟨rfl,p2,p3,p4,t',b',p5,p6,p7,p8,p9,h5⟩
      simp only [GG,go_sem,↓reduceIte,p2,p3,p4,p5,p6]
      refine ⟨(t',b'),?_,rfl,rfl,p7,p8,fun hb'=>?_⟩
      .cases b' with
       | true=>have:=p9 rfl;have:=t'.isLt;simp only [if_true];omega
       | false=>rw [(h5 rfl).1];simp
      .obtain ⟨e1,e2⟩:=h5 hb'
       rw [e1]
       exact fun y hy hty=>e2 y hy hty
     all_goals simp only [go_sem,↓reduceIte,j1,j2,j3,j4,j5]
     all_goals first | rfl | exact ⟨t,rfl,j6,j7,rfl,fun y' hy'=>by omega⟩
   all_goals simp only [go_sem,↓reduceIte,h1,h2,h3]
  .rintro F h ⟨h2,h3,rfl⟩
   simp only [GG,go_sem,↓reduceIte,h3,EM,Bz,hm]
  all_goals simp only [go_sem,↓reduceIte]
  all_goals first | rfl | rw [DN]
theorem Sh (xs:List Int) (hl:xs.length < 9223372036854775807) (n:Int):VP V A6i [lI xs,.i .i64 n] Q↔Q (.i .i64 (Gx (fun y=>decide (n=y)) xs)):=by
 refine Ad ?_
 rw [Ab C.c_z14.1 C.c_z14.2]
 simp only [Ag9,go_sem,↓reduceIte]
 refine Aa (by decide) xs.length hl (I:=fun k F h=>h=[]/\A3.tmp F 0=lI xs/\A3.tmp F 1 = .i .i64 n/\∀ (j:Nat) (hj:j < xs.length),j < k->¬ n=xs[j]) ?_ ?_ ?_ 0 _ _ (zero_le _) ?_ ?_
 .rintro k F h hk h1 ⟨rfl,h2,h3,h4⟩
  simp only [go_sem,↓reduceIte,h1,h2,h3]
  exact h4
 .rintro k F h hk h1 ⟨rfl,h2,h3,h4⟩
  by_cases e:xs[k]=n
  .simp only [go_sem,↓reduceIte,h1,h2,h3,getElem?_eq_getElem hk,e]
   rw [Dr hk (by simp [e]) fun j hj=>by simpa using h4 j _ hj]
  .simp only [go_sem,↓reduceIte,h1,h2,h3,getElem?_eq_getElem hk,e]
   intro j hj h0
   by_cases e2:j=k
   .subst e2;exact fun e3=>e e3.symm
   .exact h4 j hj (by omega)
 .rintro F h ⟨rfl,h2,h3,h4⟩
  simp only [go_sem,↓reduceIte]
  rw [Dq fun x hx=>by obtain ⟨j,hj,e⟩:=List.mem_iff_getElem.1 hx;rw [<- e];simpa using h4 j hj hj]
 all_goals simp only [go_sem,↓reduceIte]
 all_goals first | rfl | (intro j hj h0;omega)
theorem Au (t:A2) (n:Int):VP V AbI [vT t,.i .i64 n] Q↔Q (.b (BU t n)):=by
 refine Ad ?_
 rw [Ab C.c_z37.1 C.c_z37.2]
 cases h0:decide (0<=n)<;>simp only [Agd,go_sem,↓reduceIte,h0,BU]
theorem Se (n:AJ):VP V A41 [vN n] Q↔Q (.b (CV n)):=by
 refine Ad ?_
 rw [Ab C.c_z134.1 C.c_z134.2]
 cases c0:decide (0<=n.thread)<;>cases c1:decide (n.kind=3)<;>cases c2:decide (n.mode=0) <;>
  simp only [A9G,go_sem,↓reduceIte,c0,c1,c2,CV]
theorem Kh (n:AJ):VP V A46 [vN n] Q↔Q (.b (J3 n)):=by
 refine Ad ?_
 rw [Ab C.c_z139.1 C.c_z139.2]
 cases c0:decide (n.kind=2)<;>cases c1:decide (n.kind=4)<;>cases c2:decide (n.mode=1)<;>cases c3:decide (n.mode=3) <;>
  simp only [A9K,go_sem,↓reduceIte,c0,c1,c2,c3,J3]
theorem EI (n:AJ):VP V A49 [vN n] Q↔Q (.b (Ee n)):=by
 refine Ad ?_
 rw [Ab C.c_z181.1 C.c_z181.2]
 cases c0:decide (n.kind=3)<;>cases c1:decide (0<=n.thread)<;>cases c4:decide (n.kind=4)<;>cases c2:decide (n.mode=2)<;>cases c3:decide (n.mode=3) <;>
  simp only [A9O,go_sem,↓reduceIte,c0,c1,c2,c3,c4,Ee]
theorem ET (t:A2) (hu:HZ t) (a:Int) {b:Nat} (hb:b < t.nodes.length):VP V AbJ [vT t,.i .i64 a,.i .i64 b] Q↔Q (.b (Az t a b)):=by
 refine Ad ?_
 rw [Ab C.c_z38.1 C.c_z38.2]
 simp only [Age,go_sem,↓reduceIte,A5 hb]
 unfold VL
 rw [A0]
 refine AA (M:=Int) (I:=fun x F h=>h=[]/\A3.tmp F 3 = .fp (eT t) 0/\A3.tmp F 1 = .i .i64 a/\A3.tmp F 7 = .i .i64 x/\x < t.nodes.length/\L0 t a t.nodes.length x=Az t a b) (μ:=fun x=>(x+1).toNat) ?_ (t.at b).up _ _ ⟨rfl,?_,?_,?_,?_,rfl⟩
 .rintro x F h ⟨rfl,j1,j2,j3,j4,j5⟩
  have h1:∀ y:Int,y < t.nodes.length->L0 t a (t.nodes.length+1) y=L0 t a t.nodes.length y:=fun y hy=>SE hu a _ y hy hy
  by_cases c0:0<=x
  .obtain ⟨m,rfl⟩:=eq_ofNat_of_zero_le c0
   have hm:m < t.nodes.length:=by omega
   have h0:=h1 (m:Int) j4
   rw [L0,if_neg (by omega)] at h0
   by_cases c1:(m:Int)=a
   .rw [if_pos c1] at h0
    subst c1
    simp only [UC,go_sem,↓reduceIte,j1,j2,j3,A0]
    rw [<- j5,<- h0]
   .rw [if_neg c1,toNat_natCast] at h0
    have h2:=hu m hm
    simp only [UC,go_sem,↓reduceIte,j1,j2,j3,c1,A0,A5 hm]
    exact ⟨_,by omega,rfl,by omega,by rw [h0,j5]⟩
  .have h0:=h1 x j4
   rw [L0,if_pos (by omega)] at h0
   simp only [UC,go_sem,↓reduceIte,j1,j2,j3,c0]
   rw [<- j5,<- h0]
 .simp only [go_sem,↓reduceIte]
 .simp only [go_sem,↓reduceIte]
 .simp only [go_sem,↓reduceIte]
 .have:=hu b hb;omega
theorem C2 (t:A2) (hu:HZ t) (a b:Int):VP V AbC [vT t,.i .i64 a,.i .i64 b] Q↔Q (.b (Ah t a b)):=by
 refine Ad ?_
 rw [Ab C.c_z16.1 C.c_z16.2]
 cases ha:BU t a with
 | false=>simp only [ZF,go_sem,↓reduceIte,Au C,ha,Ah]
 | true =>
  cases hb:BU t b with
  | false=>simp only [ZF,go_sem,↓reduceIte,Au C,ha,hb,Ah]
  | true =>
   obtain ⟨m,rfl,hm⟩:=A7 ha
   obtain ⟨n,rfl,hn⟩:=A7 hb
   cases c:decide ((t.at m).thread < 0) with
   | true =>
    have c':=of_decide_eq_true c
    simp only [ZF,go_sem,↓reduceIte,Au C,ha,hb,Ah,A5 hm,A5 hn,c,if_pos c']
   | false =>
    have c':=of_decide_eq_false c
    simp only [ZF,go_sem,↓reduceIte,Au C,ha,hb,Ah,A5 hm,A5 hn,c,if_neg c',ET C t hu _ hn]
theorem ES (t:A2) (hu:HZ t) (a b:Int):VP V Ac9 [vT t,.i .i64 a,.i .i64 b] Q↔Q (.b (AH t a b)):=by
 refine Ad ?_
 rw [Ab C.c_z91.1 C.c_z91.2]
 cases ha:BU t a with
 | false=>simp only [ZL,go_sem,↓reduceIte,Au C,ha,AH]
 | true =>
  cases hb:BU t b with
  | false=>simp only [ZL,go_sem,↓reduceIte,Au C,ha,hb,AH]
  | true =>
   obtain ⟨m,rfl,hm⟩:=A7 ha
   obtain ⟨n,rfl,hn⟩:=A7 hb
   by_cases e:(m:Int)=n
   .simp only [ZL,go_sem,↓reduceIte,Au C,ha,hb,AH,e]
   .cases c0:decide (0<=(t.at m).thread)<;>cases c1:decide ((t.at m).thread=(t.at n).thread)<;>cases c2:Az t (m:Int) n <;>
     simp only [ZL,go_sem,↓reduceIte,Au C,ha,hb,AH,e,A5 hm,A5 hn,c0,c1,c2,ET C t hu _ hn,ET C t hu _ hm]
end
theorem Ew {k:Nat} (h0:0 < k) (h:k < 9223372036854775807):IntKind.i64.wrap ((k:Int) - 1)=((k - 1:Nat):Int):=by rw [Av (by omega) (by omega)];omega
section
variable {V:Am} (C:Ap V) {Q:VV->Prop}
include C
theorem Ai (xs:List Int) (hl:xs.length < 9223372036854775807) (n:Int):VP V A6i [lI xs,.i .i64 n] Q↔Q (.i .i64 (Kv xs n)):=Sh C xs hl n
theorem Jk (s:A6) (hs:El s) (n:Int):VP V AbB [Eu s,.i .i64 n] Q↔Q (.i .i64 (Li s n)):=by
 refine Ad ?_
 rw [Ab C.c_z15.1 C.c_z15.2]
 have hl:=hs.has
 unfold Li
 cases h:B9 s.has n with
 | false =>
  simp only [A56,go_sem,↓reduceIte,Ai C s.has (by omega),A18 h,Int.reduceNeg,Int.reduceLT]
 | true =>
  obtain ⟨k,e,hk,_⟩:=DD h
  have h0:¬ (k:Int) < 0:=by omega
  by_cases h1:s.jf.length<=k
  .simp only [A56,go_sem,↓reduceIte,Ai C s.has (by omega),e,h0,h1]
  .simp only [A56,go_sem,↓reduceIte,Ai C s.has (by omega),e,h0,h1,Ak (show k < s.jf.length by omega)]
theorem MQ (a b:AJ) (pa pb:Int):VP V Acc [vN a,vN b,.i .i64 pa,.i .i64 pb] Q↔Q (.b (DA a b pa pb)):=by
 refine Ad ?_
 rw [Ab C.c_z94.1 C.c_z94.2]
 cases c0:decide (a.kind=2)<;>cases c1:decide (a.kind=3)<;>cases c2:decide (b.kind=2)<;>cases c3:decide (b.kind=3)<;>cases c4:decide (a.loc=b.loc) <;>
  simp only [Agr,go_sem,↓reduceIte,c0,c1,c2,c3,c4,DA]<;>simp_all
theorem HA (s:A6) (hs:El s) (loc w:Int):VP V Acb [Eu s,.i .i64 loc,.i .i64 w] Q↔Q (.i .i64 (BQ s loc w)):=by
 refine Ad ?_
 rw [Ab C.c_z93.1 C.c_z93.2]
 unfold BQ
 by_cases h0:loc < 0
 .simp only [A5j,go_sem,↓reduceIte,h0]
 .obtain ⟨k,rfl⟩:=eq_ofNat_of_zero_le (by omega:0<=loc)
  by_cases h1:s.mo.length<=k
  .simp only [A5j,go_sem,↓reduceIte,h0,h1]
  .have hk:k < s.mo.length:=by omega
   have hl:=hs.mi' k
   have hc:=hs.mc' k
   simp only [A5j,go_sem,↓reduceIte,h0,h1]
   generalize hm:s.mo.getD k []=m at *
   refine Aa (by decide) m.length (by omega) (I:=fun j F h=>h=[]/\A3.tmp F 1 = .i .i64 k/\A3.tmp F 2 = .i .i64 w/\A3.tmp F 3 = .fp (EX s) 0/\∀ (i:Nat) (hi:i < m.length),i < j->B9 m[i] w=false) ?_ ?_ ?_ 0 _ _ (zero_le _) ?_ ?_
   .rintro j F h hj p1 ⟨rfl,p2,p3,p4,p5⟩
    simp only [go_sem,↓reduceIte,p1,p2,p3,p4,BP hk,hm]
    exact p5
   .rintro j F h hj p1 ⟨rfl,p2,p3,p4,p5⟩
    have h2:=hc j
    rw [List.getD_eq_getElem?_getD,getElem?_eq_getElem hj,Option.getD_some] at h2
    cases e:B9 m[j] w with
    | true =>
     simp only [go_sem,↓reduceIte,p1,p2,p3,p4,BP hk,hm,getElem?_eq_getElem hj,Ai C m[j] (by omega),Ea,e]
     rw [Dr hj e fun i hi=>p5 i (by omega) hi]
    | false =>
     simp only [go_sem,↓reduceIte,p1,p2,p3,p4,BP hk,hm,getElem?_eq_getElem hj,Ai C m[j] (by omega),Ea,e]
     intro i hi h3
     by_cases e2:i=j
     .subst e2;exact e
     .exact p5 i hi (by omega)
   .rintro F h ⟨rfl,p2,p3,p4,p5⟩
    simp only [go_sem,↓reduceIte]
    rw [Dq fun x hx=>by obtain ⟨j,hj,e⟩:=List.mem_iff_getElem.1 hx;rw [<- e];exact p5 j hj hj]
   all_goals simp only [go_sem,↓reduceIte]
   all_goals first | rfl | (intro j hj h4;omega)
theorem Sd (t:A2) (ht:t.nodes.length<=1000):VP V A3Z [vT t] Q↔Q (vW (GA t)):=by
 refine Ad ?_
 rw [Ab C.c_z132.1 C.c_z132.2]
 simp only [A9E,go_sem,↓reduceIte]
 refine Aa (by decide) t.nodes.length (by omega) (I:=fun k F h=>h=[]/\A3.tmp F 1 = .fp (eT t) 0/\A3.tmp F 3=vW (BT fun i=>decide (i < k) && decide ((t.at i).up < 0))) ?_ ?_ ?_ 0 _ _ (zero_le _) ?_ ?_
 .rintro k F h hk p1 ⟨rfl,p2,p3⟩
  simp only [go_sem,↓reduceIte,p1,p2,p3]
 .rintro k F h hk p1 ⟨rfl,p2,p3⟩
  by_cases e:(t.at k).up < 0
  .simp only [go_sem,↓reduceIte,p1,p2,p3,A5 hk,e,Bk C]
   by_cases h64:k < 64
   .rw [MX _ _ h64]
    congr 1
    apply Bu
    intro j hj
    by_cases e2:j=k
    .subst e2;simp [e]
    .have:(j < k+1)↔(j < k):=by omega
     simp [this,e2]
   .have:BK (k:Int)=0#64:=by unfold BK;rw [if_neg (by omega)]
    rw [this,BitVec.or_zero]
    congr 1
    apply Bu
    intro j hj
    have:(j < k+1)↔(j < k):=by omega
    simp [this]
  .simp only [go_sem,↓reduceIte,p1,p2,p3,A5 hk,e]
   congr 1
   apply Bu
   intro j hj
   by_cases e2:j=k
   .subst e2;simp [e]
   .have:(j < k+1)↔(j < k):=by omega
    simp [this]
 .rintro F h ⟨rfl,p2,p3⟩
  simp only [go_sem,↓reduceIte,p3,GA]
 all_goals simp only [go_sem,↓reduceIte]
 all_goals first | rfl | (rw [<- Gl];congr 1;apply Bu;intro j hj;simp)
theorem Sn (t:A2) (ht:t.nodes.length<=1000) (l:List Int) (hl:l.length<=1000):VP V Ac0 [vT t,lI l] Q↔Q (.b (C8 t l)):=by
 refine Ad ?_
 rw [Ab C.c_z83.1 C.c_z83.2]
 simp only [Agn,go_sem,↓reduceIte]
 refine Aa (by decide) l.length (by omega) (I:=fun k F h=>h=[]/\A3.tmp F 1=lI l/\A3.tmp F 2 = .fp (eT t) 0/\∀ j,j < k->C6 t l j=true) ?_ ?_ ?_ 0 _ _ (zero_le _) ?_ ?_
 .rintro k F h hk p1 ⟨rfl,p2,p3,p4⟩
  simp only [go_sem,↓reduceIte,p1,p2,p3]
  exact p4
 .rintro k F h hk p1 ⟨rfl,p2,p3,p4⟩
  have h1:C6 t l k=false->false=C8 t l:=fun h=>by rw [C8,AF hk h];rfl
  have good:C6 t l k=true->∀ j,j < k+1->C6 t l j=true:=fun h j hj=>by
   by_cases e:j=k
   .rw [e];exact h
   .exact p4 j (by omega)
  cases c0:BU t (l.getD k 0) with
  | false =>
   simp only [go_sem,↓reduceIte,p1,p2,p3,Ak hk,Au C,c0]
   exact h1 (by rw [C6,c0];rfl)
  | true =>
   obtain ⟨n,hn,h2⟩:=A7 c0
   have h0:C6 t l k=(CN l k && (decide ((t.at n).up < 0) || B9 l (t.at n).up)):=by
    unfold C6
    rw [c0,hn,toNat_natCast,Bool.true_and]
   rw [hn] at c0
   by_cases z:k=0
   .subst z
    have hr:CN l 0=true:=by simp [CN]
    rw [hr,Bool.true_and] at h0
    have z0:¬ (0:Int) < ((0:Nat):Int):=by omega
    by_cases u0:0<=(t.at n).up
    .have u1:¬ (t.at n).up < 0:=by omega
     rw [decide_eq_false u1,Bool.false_or] at h0
     cases u2:B9 l (t.at n).up<;>rw [u2] at h0 <;>
      simp only [go_sem,↓reduceIte,p1,p2,p3,Ak hk,Au C,c0,z0,hn,A5 h2,u0,Ai C l (by omega),C7,u2]
     .exact h1 h0
     .exact good h0
    .have u1:(t.at n).up < 0:=by omega
     rw [decide_eq_true u1,Bool.true_or] at h0
     simp only [go_sem,↓reduceIte,p1,p2,p3,Ak hk,Au C,c0,z0,hn,A5 h2,u0]
     exact good h0
   .have z0:(0:Int) < (k:Int):=by omega
    have zw:=Ew (show 0 < k by omega) (by omega)
    have h3:k - 1 < l.length:=by omega
    have hr:CN l k = !decide ((n:Int)<=l.getD (k - 1) 0):=by
     unfold CN
     rw [decide_eq_false z,Bool.false_or,hn]
     by_cases c:(n:Int)<=l.getD (k - 1) 0
     .rw [decide_eq_true c,decide_eq_false (by omega)];rfl
     .rw [decide_eq_false c,decide_eq_true (by omega)];rfl
    cases c1:decide ((n:Int)<=l.getD (k - 1) 0) with
    | true =>
     rw [c1] at hr
     rw [hr] at h0
     simp only [go_sem,↓reduceIte,p1,p2,p3,Ak hk,Au C,c0,z0,zw,Ak h3,hn,c1]
     exact h1 h0
    | false =>
     rw [c1] at hr
     rw [hr] at h0
     simp only [Bool.not_false,Bool.true_and] at h0
     by_cases u0:0<=(t.at n).up
     .have u1:¬ (t.at n).up < 0:=by omega
      rw [decide_eq_false u1,Bool.false_or] at h0
      cases u2:B9 l (t.at n).up<;>rw [u2] at h0 <;>
       simp only [go_sem,↓reduceIte,p1,p2,p3,Ak hk,Au C,c0,z0,zw,Ak h3,hn,c1,A5 h2,u0,Ai C l (by omega),C7,u2]
      .exact h1 h0
      .exact good h0
     .have u1:(t.at n).up < 0:=by omega
      rw [decide_eq_true u1,Bool.true_or] at h0
      simp only [go_sem,↓reduceIte,p1,p2,p3,Ak hk,Au C,c0,z0,zw,Ak h3,hn,c1,A5 h2,u0]
      exact good h0
 .rintro F h ⟨rfl,p2,p3,p4⟩
  simp only [go_sem,↓reduceIte,p2,p3,Sd C t ht,A86 C l (by omega),DC C]
  rw [C8,AG p4];rfl
 all_goals simp only [go_sem,↓reduceIte]
 all_goals first | rfl | (intro j hj;omega)
theorem Sj (t:A2) (hu:HZ t) (l has:List Int) (hl:l.length<=1000) (hh:has.length<=1000) (hv:∀ n∈has,BU t n=true) (loc:Int):VP V Ac1 [vT t,lI l,lI has,.i .i64 loc] Q↔Q (.b (Dd t l has loc)):=by
  refine Ad ?_
  rw [Ab C.c_z84.1 C.c_z84.2]
  by_cases z:l.length=0
  · have z' : (l.length : Int) = 0 := by omega
    simp only [Aas,go_sem,↓reduceIte,z']
    simp [Dd,z]
  have z':¬ (l.length:Int)=0:=by omega
  simp only [Aas,go_sem,↓reduceIte,z']
  refine Aa (by decide) l.length (by omega) (I:=fun k F h=>h=[]/\A3.tmp F 1=lI l/\A3.tmp F 2=lI has/\A3.tmp F 3 = .i .i64 loc/\A3.tmp F 4 = .fp (eT t) 0/\∀ j,j < k->BO t l has loc j=true) ?_ ?_ ?_ 0 _ _ (zero_le _) ?_ ?_
  · rintro k F h hk p1 ⟨rfl, p2, p3, p4, p5, p6⟩
    simp only [go_sem,↓reduceIte,p1,p2,p3,p4,p5]
    exact p6
  · rintro k F h hk p1 ⟨rfl, p2, p3, p4, p5, p6⟩
    have h2:BO t l has loc k=false->false=Dd t l has loc:=fun h=>by rw [Dd,AF hk h];simp
    have good:BO t l has loc k=true->∀ j,j < k+1->BO t l has loc j=true:=fun h j hj=>by
      by_cases e:j=k
      · rw [e];exact h
      · exact p6 j (by omega)
    cases c0:B9 has (l.getD k 0) with
    | false =>
      simp only [go_sem,↓reduceIte,p1,p2,p3,p4,p5,Ak hk,Ai C has (by omega),C7,c0]
      exact h2 (by rw [BO,c0];rfl)
    | true =>
      obtain ⟨n,hn,h5⟩:=A7 (hv _ (Af.1 c0))
      have h0:BO t l has loc k=(CN l k && (decide ((t.at n).kind=3) && decide ((t.at n).loc=loc)) && decide (0<=(t.at n).thread) && (List.range k).all fun j=>AZ t (l.getD k 0) (l.getD j 0)):=by
        unfold BO GY
        rw [c0,hn,toNat_natCast,Bool.true_and]
      have h1:CN l k=(decide (k=0) || decide (l.getD (k - 1) 0 < (n:Int))):=by rw [CN,hn]
      rw [hn] at c0
      have h4:∀ (hr:CN l k=true) (hd:decide ((t.at n).kind=3)=true) (he:decide ((t.at n).loc=loc)=true) (hf:decide ((t.at n).thread < 0)=false) (G:A3) (Q':Ex->A3->VH->Prop)
          (g1:A3.tmp G 1=lI l) (g2:A3.tmp G 2=lI has) (g3:A3.tmp G 3 = .i .i64 loc) (g4:A3.tmp G 4 = .fp (eT t) 0) (g9:A3.tmp G 9 = .i .i64 k) (ha:A3.tmp G 10 = .p 0 0 0 0) (hb:A3.tmp G 11 = .i .i64 0)
          (q1:∀ G' h',A3.tmp G' 1=lI l->A3.tmp G' 2=lI has->A3.tmp G' 3 = .i .i64 loc->A3.tmp G' 4 = .fp (eT t) 0->A3.tmp G' 9 = .i .i64 k->BO t l has loc k=true->Q' .norm G' h') (q2:∀ G' h',A3.tmp G' 8 = .b false->BO t l has loc k=false->Q' .ret G' h'),
          VL V A6a 2 AaK G [some ⟨BW,0,0,false,[eN (t.at n)]⟩] Q':=by
        intro hr hd he hf G Q' g1 g2 g3 g4 g9 ha hb q1 q2
        have h9:decide (0<=(t.at n).thread)=true:=by simp at hf ⊢;omega
        rw [hr,hd,he,h9] at h0
        simp only [Bool.and_self,Bool.true_and] at h0
        refine Aa (by decide) k (by omega) (I:=fun j F h=>h=[some ⟨BW,0,0,false,[eN (t.at n)]⟩]/\A3.tmp F 1=lI l/\A3.tmp F 2=lI has/\A3.tmp F 3 = .i .i64 loc/\A3.tmp F 4 = .fp (eT t) 0/\A3.tmp F 9 = .i .i64 k/\A3.tmp F 10 = .p 0 0 0 0/\∀ i,i < j->AZ t (l.getD k 0) (l.getD i 0)=true) ?_ ?_ ?_ 0 _ _ (zero_le _) hb ⟨rfl,g1,g2,g3,g4,g9,ha,fun i hi=>by omega⟩
        · rintro j F h hj r1 ⟨rfl, r2, r3, r4, r5, r6, r7, r8⟩
          simp only [go_sem,↓reduceIte,r1,r2,r3,r4,r5,r6,r7]
          exact r8
        · rintro j F h hj r1 ⟨rfl, r2, r3, r4, r5, r6, r7, r8⟩
          have hg:j < l.length:=by omega
          have c1:B9 has (l.getD j 0)=true:=by
            have:=p6 j hj
            unfold BO at this
            simp only [Bool.and_eq_true] at this
            exact this.1.1.1.1
          obtain ⟨n2,hc,h7⟩:=A7 (hv _ (Af.1 c1))
          have h8:AZ t (l.getD k 0) (l.getD j 0)=(CV (t.at n) && CV (t.at n2) && decide ((t.at n).val=(t.at n2).val) && AH t n n2):=by
            unfold AZ;rw [hn,hc,toNat_natCast,toNat_natCast]
          have h6:AZ t (l.getD k 0) (l.getD j 0)=false->BO t l has loc k=false:=fun h=>by rw [h0];exact AF hj h
          have h3:AZ t (l.getD k 0) (l.getD j 0)=true->∀ i,i < j+1->AZ t (l.getD k 0) (l.getD i 0)=true:=fun h i hi=>by
            by_cases e:i=j
            · rw [e];exact h
            · exact r8 i (by omega)
          cases y1:CV (t.at n)<;>cases y2:CV (t.at n2)<;>cases y3:decide ((t.at n).val=(t.at n2).val)<;>cases y4:AH t n n2<;>rw [y1,y2,y3,y4] at h8 <;>
            simp only [go_sem,↓reduceIte,r1,r2,r3,r4,r5,r6,r7,Ak hk,Ak hg,hn,hc,A5 h7,Se C,ES C t hu,y1,y2,y3,y4]
          all_goals first
            | exact q2 _ _ (by simp only [go_sem,↓reduceIte]) (h6 h8)
            | (have:=h3 h8;rw [hn] at this;exact this)
        · rintro F h ⟨rfl, r2, r3, r4, r5, r6, r7, r8⟩
          exact q1 _ _ r2 r3 r4 r5 r6 (by rw [h0];exact AG r8)
      have zb:(k=0/\decide ((0:Int) < (k:Int))=false)\/(0 < k/\decide ((0:Int) < (k:Int))=true):=by
        rcases Nat.eq_zero_or_pos k with h | h
        · exact .inl ⟨h,by simp [h]⟩
        · exact .inr ⟨h,by simp;omega⟩
      have hm:k - 1 < l.length:=by omega
      rcases zb with ⟨zk,z0⟩ | ⟨zk,z0⟩
      · have hr : CN l k = true := by rw [h1, zk]; rfl
        simp only [go_sem,↓reduceIte,p1,p2,p3,p4,p5,Ak hk,Ai C has (by omega),C7,hn,c0,z0,A5 h5]
        repeat' first
          | (refine By (fun hx=>?_) (fun hx=>?_)<;>simp only [go_sem,↓reduceIte,p1,p2,p3,p4,p5,hx])
          | (refine Bc (fun hx=>?_) (fun hx=>?_)<;>simp only [go_sem,↓reduceIte,p1,p2,p3,p4,p5,hx])
        all_goals first
          | exact h2 (by rw [h0];simp_all)
          | (refine h4 hr (by simp_all) (by simp_all) (by assumption) _ _ ?_ ?_ ?_ ?_ ?_ ?_ ?_ ?_ ?_
             all_goals try simp only [go_sem,↓reduceIte,p1,p2,p3,p4,p5]
             · intro G' e1 e2 e3 e4 e5 e6
               simp only [e1,e2,e3,e4,e5,go_sem]
               exact good e6
             · intro G' h' e1 e2
               simp only [e1,go_sem,h2 e2])
      · have zw := Ew zk (by omega)
        simp only [go_sem,↓reduceIte,p1,p2,p3,p4,p5,Ak hk,Ak hm,Ai C has (by omega),C7,hn,c0,z0,zw,A5 h5]
        repeat' first
          | (refine By (fun hx=>?_) (fun hx=>?_)<;>simp only [go_sem,↓reduceIte,p1,p2,p3,p4,p5,Ak hk,hn,hx,A5 h5])
          | (refine Bc (fun hx=>?_) (fun hx=>?_)<;>simp only [go_sem,↓reduceIte,p1,p2,p3,p4,p5,Ak hk,hn,hx,A5 h5])
        all_goals first
          | exact h2 (by rw [h0,h1];simp_all;try omega)
          | (refine h4 (by rw [h1];simp_all) (by simp_all) (by simp_all) (by assumption) _ _ ?_ ?_ ?_ ?_ ?_ ?_ ?_ ?_ ?_
             all_goals try simp only [go_sem,↓reduceIte,p1,p2,p3,p4,p5]
             · intro G' e1 e2 e3 e4 e5 e6
               simp only [e1,e2,e3,e4,e5,go_sem]
               exact good e6
             · intro G' h' e1 e2
               simp only [e1,go_sem,h2 e2])
  · rintro F h ⟨rfl, p2, p3, p4, p5, p6⟩
    simp only [go_sem,↓reduceIte]
    rw [Dd,AG p6];simp [z]
  all_goals simp only [go_sem,↓reduceIte]
  all_goals first | rfl | (intro j hj;omega)
end
end Go.AM
