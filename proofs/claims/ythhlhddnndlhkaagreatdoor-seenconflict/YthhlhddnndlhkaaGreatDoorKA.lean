/-
  Own work, part of the proof of the laws SeenLasts, SeenCalm, SeenConflict: what functions compute (first part).
-/
import Derived.Test.YthhlhddnndlhkaaGreatDoorCoF
import Derived.Test.YthhlhddnndlhkaaGreatDoorPl
set_option maxRecDepth 4000
set_option linter.unusedVariables false
set_option linter.unusedSimpArgs false
set_option linter.unusedSectionVars false
set_option linter.unnecessarySimpa false
namespace Go.AM
open Go Go.Proofs
section
variable {V:Am} (C:Au V) {Q:VV→Prop}
include C
theorem JA (i:Int):VP V Ww [.i .i64 i] Q↔Q (vW (CQ i)):=by
 refine Ad ?_
 rw [Ac C.c_z103.1 C.c_z103.2]
 unfold CQ
 by_cases h0:i < 0
 ·simp only [Rf,Pn,go_sem,↓reduceIte,h0]
  rw [if_neg (by omega)]
 ·by_cases h1:64≤i
  ·simp only [Rf,Pn,go_sem,↓reduceIte,h0,h1]
   rw [if_neg (by omega)]
  ·obtain ⟨n,rfl⟩:=Int.eq_ofNat_of_zero_le (by omega:0≤i)
   simp only [Rf,Pn,go_sem,↓reduceIte,h0,h1,Ahy (show n < 64 by omega)]
   rw [if_pos (by omega)]
theorem AD (s:BitVec 64) (i:Int):VP V A5h [vW s,.i .i64 i] Q↔Q (.b (Bv s i)):=by
 refine Ad ?_
 rw [Ac C.c_z53.1 C.c_z53.2]
 simp only [A9g,A4H,go_sem,↓reduceIte,JA C,AcB]
theorem BX (s:BitVec 64) (i:Int):VP V A5g [vW s,.i .i64 i] Q↔Q (vW (s ||| CQ i)):=by
 refine Ad ?_
 rw [Ac C.c_z52.1 C.c_z52.2]
 simp only [A9f,A4G,go_sem,↓reduceIte,JA C]
theorem M0 (s t:BitVec 64):VP V Wv [vW s,vW t] Q↔Q (.b (decide (s &&& ~~~t=0#64))):=by
 refine Ad ?_
 rw [Ac C.c_z102.1 C.c_z102.2]
 simp only [A1c,VD,go_sem,↓reduceIte]
theorem Ll (xs:List Int) (hl:xs.length < 9223372036854775807):VP V WF [lI xs] Q↔Q (vW (Cj xs)):=by
 refine Ad ?_
 rw [Ac C.c_z117.1 C.c_z117.2]
 simp only [A1j,Pq,go_sem,↓reduceIte]
 refine Ae (by decide) xs.length hl (I:=fun k F h=>h=[]∧A4.tmp F 6=lI xs∧A4.tmp F 3=vW (Cj (xs.take k))) ?_ ?_ 0 _ _ (by omega) ?_ ?_ ?_
 ·rintro k F h hk h1 h2 ⟨rfl,h3,h4⟩
  simp only [Pq,go_sem,↓reduceIte,h1,h2,h3,h4,List.getElem?_eq_getElem hk,JA C]
  rw [List.take_succ_eq_append_getElem hk]
  simp only [Cj,List.foldl_append,List.foldl_cons,List.foldl_nil]
 ·rintro F h ⟨rfl,h3,h4⟩
  rw [List.take_length] at h4
  simp only [Pq,go_sem,↓reduceIte,h4]
 all_goals simp only [go_sem,↓reduceIte]
 all_goals rfl
theorem Ng (lo hi:Int) (hlo:lo < 9223372036854775808):VP V A5G [.i .i64 lo,.i .i64 hi] Q↔Q (vW (Gg lo hi)):=by
 refine Ad ?_
 rw [Ac C.c_z99.1 C.c_z99.2]
 have hm:Wp false hi 64=min hi 64:=by unfold Wp;simp only [cond_false];split<;>omega
 have hm0:Wp true lo 0=max lo 0:=by unfold Wp;simp only [cond_true];split<;>omega
 simp only [A9C,Uc,go_sem,↓reduceIte]
 unfold VL
 rw [A0]
 refine AW (M:=Nat) (I:=fun k F h=>h=[]∧A4.tmp F 1 = .i .i64 hi∧A4.tmp F 6 = .i .i64 k∧A4.tmp F 5=vW (BS fun i=>decide (lo≤(i:Int)∧i < k))∧lo≤k∧(k:Int)≤max lo (max 0 (min hi 64))) (μ:=fun k=>64 - k) ?_ (max lo 0).toNat _ _ ⟨rfl,?_,?_,?_,?_,?_⟩
 ·rintro k F h ⟨rfl,h1,h2,h3,h4,h5⟩
  by_cases hk:(k:Int) < min hi 64
  ·simp only [A2z,Uc,go_sem,↓reduceIte,h1,h2,h3,hm,hk,A0,JA C]
   have hw:IntKind.i64.wrap ((k:Int)+1)=((k+1:Nat):Int):=by rw [AC (by omega) (by omega)];omega
   refine ⟨k+1,by omega,?_⟩
   rw [hw]
   refine ⟨rfl,?_,by omega,by omega⟩
   rw [SF _ _ (by omega)]
   congr 1
   apply Cd
   intro j hj
   by_cases e:j=k
   ·subst e;simp;omega
   ·by_cases e2:j < k
    ·have:j < k+1:=by omega
     simp [e,e2,this]
    ·have:¬ j < k+1:=by omega
     simp [e,e2,this]
  ·simp only [A2z,Uc,go_sem,↓reduceIte,h1,h2,h3,hm,hk,Nat.beq_refl]
   congr 1
   apply Cd
   intro j hj
   by_cases e:lo≤(j:Int)
   ·have:(j < k)↔((j:Int) < hi):=by omega
    simp [e,this]
   ·simp [e]
 ·simp only [go_sem,↓reduceIte]
 ·simp only [go_sem,↓reduceIte,hm0]
  omega
 ·simp only [go_sem,↓reduceIte]
  rw [← Jo]
  congr 1
  apply Cd
  intro j hj
  simp
  omega
 ·omega
 ·omega
theorem R7 (xs:List Int) (i:Int) (hl:xs.length < 1000) {Q:VV→VH→Prop}:LS V Py [.p 1 0 0 0,.i .i64 i] [some (AL AG 1 (xs.map eI)),some ⟨GJ,0,0,false,[[.sl 0 xs.length 0 xs.length]]⟩] Q ↔
  Q (.tu []) [some (AL AG 1 ((xs++[i]).map eI)),some ⟨GJ,0,0,false,[[.sl 0 (xs++[i]).length 0 (xs++[i]).length]]⟩]:=by
 refine Mp ?_
 rw [Eu C.h_z108]
 have h1:(xs.length+1) * 8≤A7:=by unfold A7;omega
 simp only [A1e,QG,go_sem,↓reduceIte,h1]
theorem Ap2 (s:BitVec 64) (h:s≠0#64):VP V AT [vW s] Q↔Q (.i .i64 (Lib.ctz 64 s.toNat:Nat)):=by
 refine Ad ?_
 unfold VP
 rw [C.c_mathbits_TrailingZeros64]
 have:=s.isLt
 refine ⟨.i .i64 (Lib.ctz 64 s.toNat:Nat),?_,rfl,rfl⟩
 unfold A3z vW
 simp only
 rw [if_pos (by omega),Int.toNat_natCast]
theorem YM (s:BitVec 64):LS V KV [vW s,.f Py [.p 1 0 0 0] []] [some DO,some ⟨GJ,0,0,false,[[.sl 0 0 0 0]]⟩]
  fun _ h=>h=[some (AL AG 1 ((AX s).map eI)),some ⟨GJ,0,0,false,[[.sl 0 (AX s).length 0 (AX s).length]]⟩]:=by
 rw [Eu C.h_z107]
 simp only [Pf,JI,go_sem,↓reduceIte]
 unfold VL
 rw [A0]
 refine AW (M:=BitVec 64×List Nat) (I:=fun x F h=>A4.tmp F 0=vW x.1∧A4.tmp F 1 = .f Py [.p 1 0 0 0] []∧x.2++C1 x.1=C1 s∧h=[some (AL AG 1 ((x.2.map fun (i:Nat)=>(i:Int)).map eI)),some ⟨GJ,0,0,false,[[.sl 0 x.2.length 0 x.2.length]]⟩]) (μ:=fun x=>(C1 x.1).length) ?_ (s,[]) _ _ ⟨?_,?_,rfl,rfl⟩
 ·rintro ⟨t,l⟩ F h ⟨h1,h2,h3,rfl⟩
  simp only at h1 h2 h3 ⊢
  by_cases ht:t=0#64
  ·subst ht
   rw [A2D,List.append_nil] at h3
   simp only [JI,go_sem,↓reduceIte,h1,h2,AX,h3]
  ·have hs:=A2C ht
   have hl:l.length < 1000:=by
    have:=congrArg List.length h3
    have h4:=DF s
    simp only [AX,List.length_map,List.length_append] at this h4
    omega
   have hx:=fun Q=>R7 C (l.map fun (i:Nat)=>(i:Int)) (Lib.ctz 64 t.toNat:Nat) (by simpa using hl) (Q:=Q)
   simp only [List.length_map,List.length_append,List.length_cons,List.length_nil] at hx
   simp only [JI,go_sem,↓reduceIte,h1,h2,ht,A0,Ap2 C t ht]
   rw [hx]
   refine ⟨?_,(t &&& (t - 1#64),l++[Lib.ctz 64 t.toNat]),?_,rfl,?_,?_⟩
   ·simp only [go_sem]
   ·rw [hs];simp
   ·rw [← h3,hs];simp
   ·simp
 all_goals simp only [go_sem]
theorem Dl (s:BitVec 64):VP V A5l [vW s] Q↔Q (lI (AX s)):=by
 refine Ad ?_
 rw [Ac C.c_z58.1 C.c_z58.2]
 simp only [A9l,ZB,go_sem,↓reduceIte,Sa]
 obtain ⟨vf,h1,h2⟩:=YM C s
 refine ⟨vf,h1,h2.mono ?_⟩
 rintro v _ rfl
 simp only [ZB,go_sem,↓reduceIte]
theorem E6 (xs:List Int) (n:Int) (hl:xs.length < 9223372036854775807):VP V WN [lI xs,.i .i64 n] Q↔Q (.i .i64 (D3 (fun y=>decide (n=y)) xs)):=by
 refine Ad ?_
 rw [Ac C.c_z127.1 C.c_z127.2]
 simp only [A1p,Mz,go_sem,↓reduceIte]
 refine Ae (by decide) xs.length hl (I:=fun k F h=>h=[]∧A4.tmp F 0=lI xs∧A4.tmp F 1 = .i .i64 n∧∀ (j:Nat) (hj:j < xs.length),j < k→¬ n=xs[j]) ?_ ?_ 0 _ _ (by omega) ?_ ?_ ?_
 ·rintro k F h hk h1 h2 ⟨rfl,h3,h4,h5⟩
  by_cases e:n=xs[k]
  ·subst e
   simp only [Mz,go_sem,↓reduceIte,h1,h2,h3,h4,List.getElem?_eq_getElem hk]
   rw [DD hk (by simp) fun j hj=>by simpa using h5 j (by omega) hj]
  ·simp only [Mz,go_sem,↓reduceIte,h1,h2,h3,h4,List.getElem?_eq_getElem hk,e]
   intro j hj hjk
   by_cases e2:j=k
   ·subst e2;exact e
   ·exact h5 j hj (by omega)
 ·rintro F h ⟨rfl,h3,h4,h5⟩
  simp only [Mz,go_sem,↓reduceIte]
  rw [E4 fun x hx=>by obtain ⟨j,hj,e⟩:=List.mem_iff_getElem.1 hx;rw [← e];simpa using h5 j hj hj]
 all_goals simp only [go_sem,↓reduceIte]
 all_goals first | rfl | (intro j hj hjk;omega)
theorem Ha (xs:List Int) (n:Int) (hl:xs.length < 9223372036854775807):VP V WQ [lI xs,.i .i64 n] Q↔Q (.b (xs.any fun y=>decide (n=y))):=by
 refine Ad ?_
 rw [Ac C.c_z130.1 C.c_z130.2]
 simp only [A1s,VK,go_sem,↓reduceIte,E6 C _ _ hl,Lm]
theorem G5 (xs:List ByteArray) (n:ByteArray) (hl:xs.length < 9223372036854775807):VP V Xo [lS xs,.s n] Q↔Q (.i .i64 (D3 (fun y=>decide (n=y)) xs)):=by
 refine Ad ?_
 rw [Ac C.c_z186.1 C.c_z186.2]
 simp only [A20,MC,go_sem,↓reduceIte]
 refine Ae (by decide) xs.length hl (I:=fun k F h=>h=[]∧A4.tmp F 0=lS xs∧A4.tmp F 1 = .s n∧∀ (j:Nat) (hj:j < xs.length),j < k→¬ n=xs[j]) ?_ ?_ 0 _ _ (by omega) ?_ ?_ ?_
 ·rintro k F h hk h1 h2 ⟨rfl,h3,h4,h5⟩
  by_cases e:n=xs[k]
  ·subst e
   simp only [MC,go_sem,↓reduceIte,h1,h2,h3,h4,List.getElem?_eq_getElem hk]
   rw [DD hk (by simp) fun j hj=>by simpa using h5 j (by omega) hj]
  ·simp only [MC,go_sem,↓reduceIte,h1,h2,h3,h4,List.getElem?_eq_getElem hk,e]
   intro j hj hjk
   by_cases e2:j=k
   ·subst e2;exact e
   ·exact h5 j hj (by omega)
 ·rintro F h ⟨rfl,h3,h4,h5⟩
  simp only [MC,go_sem,↓reduceIte]
  rw [E4 fun x hx=>by obtain ⟨j,hj,e⟩:=List.mem_iff_getElem.1 hx;rw [← e];simpa using h5 j hj hj]
 all_goals simp only [go_sem,↓reduceIte]
 all_goals first | rfl | (intro j hj hjk;omega)
theorem Em (xs:List ByteArray) (n:ByteArray) (hl:xs.length < 9223372036854775807):VP V X0 [lS xs,.s n] Q↔Q (.b (xs.any fun y=>decide (n=y))):=by
 refine Ad ?_
 rw [Ac C.c_z152.1 C.c_z152.2]
 simp only [A1C,VT,go_sem,↓reduceIte,G5 C _ _ hl,Lm]
theorem E9 (xs:List (BitVec 64)) (hl:xs.length < 9223372036854775807) {g:Nat} {a c:List VV} (ha:Fz a) (hc:Fz c) (p:(BitVec 64)→Bool) (hf:∀ x,VP V g (a++[vW x]++c) fun r=>r = .b (p x)) :
  VP V WW [lW xs,.f g a c] Q↔Q (.i .i64 (D3 p xs)):=by
 refine Ad ?_
 rw [Ac C.c_z146.1 C.c_z146.2]
 simp only [A1y,MB,go_sem,↓reduceIte]
 refine Ae (by decide) xs.length hl (I:=fun k F h=>h=[]∧A4.tmp F 0=lW xs∧A4.tmp F 1 = .f g a c∧∀ (j:Nat) (hj:j < xs.length),j < k→p xs[j]=false) ?_ ?_ 0 _ _ (by omega) ?_ ?_ ?_
 ·rintro k F h hk h1 h2 ⟨rfl,h3,h4,h5⟩
  have hq:=fun Q=>Ad (hf xs[k]) (Q:=Q)
  have hfz:=ha.call hc (h:=[]) (x:=[vW xs[k]]) rfl
  cases e:p xs[k] with
  | true =>
   simp only [MB,go_sem,↓reduceIte,h1,h2,h3,h4,List.getElem?_eq_getElem hk,hfz,hq,e]
   rw [DD hk e fun j hj=>h5 j (by omega) hj]
  | false =>
   simp only [MB,go_sem,↓reduceIte,h1,h2,h3,h4,List.getElem?_eq_getElem hk,hfz,hq,e]
   have hcl:Ni 0 (.f g a c) = .f g a c:=by
    have h1:CT 0 a=true:=Fz.bel ha
    have h2:CT 0 c=true:=Fz.bel hc
    simp [Ni,bel,h1,h2]
   simp only [A8k,Fz.bel ha,Fz.bel hc,Bool.and_self,cond_true,true_and]
   intro j hj hjk
   by_cases e2:j=k
   ·subst e2;exact e
   ·exact h5 j hj (by omega)
 ·rintro F h ⟨rfl,h3,h4,h5⟩
  simp only [MB,go_sem,↓reduceIte]
  rw [E4 fun x hx=>by obtain ⟨j,hj,e⟩:=List.mem_iff_getElem.1 hx;rw [← e];exact h5 j hj hj]
 all_goals simp only [go_sem,↓reduceIte]
 all_goals first | rfl | (intro j hj hjk;omega)
theorem DK (xs:List (BitVec 64)) (hl:xs.length < 9223372036854775807) {g:Nat} {a c:List VV} (ha:Fz a) (hc:Fz c) (p:(BitVec 64)→Bool) (hf:∀ x,VP V g (a++[vW x]++c) fun r=>r = .b (p x)) :
  VP V Wu [lW xs,.f g a c] Q↔Q (.b (xs.any p)):=by
 refine Ad ?_
 rw [Ac C.c_z100.1 C.c_z100.2]
 simp only [A1a,Vz,go_sem,↓reduceIte,E9 C xs hl ha hc p hf,Fz.eq ha,Fz.eq hc,Lm]
theorem Gz (xs:List Int) (hl:xs.length < 9223372036854775807) {g:Nat} {a c:List VV} (ha:Fz a) (hc:Fz c) (p:Int→Bool) (hf:∀ x,VP V g (a++[.i .i64 x]++c) fun r=>r = .b (p x)) :
  VP V XB [lI xs,.f g a c] Q↔Q (.i .i64 (D3 p xs)):=by
 refine Ad ?_
 rw [Ac C.c_z204.1 C.c_z204.2]
 simp only [A2e,MG,go_sem,↓reduceIte]
 refine Ae (by decide) xs.length hl (I:=fun k F h=>h=[]∧A4.tmp F 0=lI xs∧A4.tmp F 1 = .f g a c∧∀ (j:Nat) (hj:j < xs.length),j < k→p xs[j]=false) ?_ ?_ 0 _ _ (by omega) ?_ ?_ ?_
 ·rintro k F h hk h1 h2 ⟨rfl,h3,h4,h5⟩
  have hq:=fun Q=>Ad (hf xs[k]) (Q:=Q)
  have hfz:=ha.call hc (h:=[]) (x:=[.i .i64 xs[k]]) rfl
  cases e:p xs[k] with
  | true =>
   simp only [MG,go_sem,↓reduceIte,h1,h2,h3,h4,List.getElem?_eq_getElem hk,hfz,hq,e]
   rw [DD hk e fun j hj=>h5 j (by omega) hj]
  | false =>
   simp only [MG,go_sem,↓reduceIte,h1,h2,h3,h4,List.getElem?_eq_getElem hk,hfz,hq,e]
   have hcl:Ni 0 (.f g a c) = .f g a c:=by
    have h1:CT 0 a=true:=Fz.bel ha
    have h2:CT 0 c=true:=Fz.bel hc
    simp [Ni,bel,h1,h2]
   simp only [A8k,Fz.bel ha,Fz.bel hc,Bool.and_self,cond_true,true_and]
   intro j hj hjk
   by_cases e2:j=k
   ·subst e2;exact e
   ·exact h5 j hj (by omega)
 ·rintro F h ⟨rfl,h3,h4,h5⟩
  simp only [MG,go_sem,↓reduceIte]
  rw [E4 fun x hx=>by obtain ⟨j,hj,e⟩:=List.mem_iff_getElem.1 hx;rw [← e];exact h5 j hj hj]
 all_goals simp only [go_sem,↓reduceIte]
 all_goals first | rfl | (intro j hj hjk;omega)
theorem EL (xs:List Int) (hl:xs.length < 9223372036854775807) {g:Nat} {a c:List VV} (ha:Fz a) (hc:Fz c) (p:Int→Bool) (hf:∀ x,VP V g (a++[.i .i64 x]++c) fun r=>r = .b (p x)) :
  VP V Xq [lI xs,.f g a c] Q↔Q (.b (xs.any p)):=by
 refine Ad ?_
 rw [Ac C.c_z188.1 C.c_z188.2]
 simp only [A21,W8,go_sem,↓reduceIte,Gz C xs hl ha hc p hf,Fz.eq ha,Fz.eq hc,Lm]
theorem G4 (xs:List (List Int)) (hl:xs.length < 9223372036854775807) {g:Nat} {a c:List VV} (ha:Fz a) (hc:Fz c) (p:List Int→Bool) (hf:∀ x∈xs,VP V g (a++[lI x]++c) fun r=>r = .b (p x)) :
  VP V WO [.ls (xs.map M2),.f g a c] Q↔Q (.i .i64 (D3 p xs)):=by
 refine Ad ?_
 rw [Ac C.c_z128.1 C.c_z128.2]
 simp only [A1q,MA,go_sem,↓reduceIte]
 refine Ae (by decide) xs.length hl (I:=fun k F h=>h=[]∧A4.tmp F 0 = .ls (xs.map M2)∧A4.tmp F 1 = .f g a c∧∀ (j:Nat) (hj:j < xs.length),j < k→p xs[j]=false) ?_ ?_ 0 _ _ (by omega) ?_ ?_ ?_
 ·rintro k F h hk h1 h2 ⟨rfl,h3,h4,h5⟩
  have hq:=fun Q=>Ad (hf xs[k] (List.getElem_mem hk)) (Q:=Q)
  have hfz:=ha.call hc (h:=[]) (x:=[lI (xs[k])]) rfl
  cases e:p xs[k] with
  | true =>
   simp only [MA,go_sem,↓reduceIte,h1,h2,h3,h4,List.getElem?_eq_getElem hk,hfz,hq,e]
   rw [DD hk e fun j hj=>h5 j (by omega) hj]
  | false =>
   simp only [MA,go_sem,↓reduceIte,h1,h2,h3,h4,List.getElem?_eq_getElem hk,hfz,hq,e]
   have hcl:Ni 0 (.f g a c) = .f g a c:=by
    have h1:CT 0 a=true:=Fz.bel ha
    have h2:CT 0 c=true:=Fz.bel hc
    simp [Ni,bel,h1,h2]
   simp only [A8k,Fz.bel ha,Fz.bel hc,Bool.and_self,cond_true,true_and]
   intro j hj hjk
   by_cases e2:j=k
   ·subst e2;exact e
   ·exact h5 j hj (by omega)
 ·rintro F h ⟨rfl,h3,h4,h5⟩
  simp only [MA,go_sem,↓reduceIte]
  rw [E4 fun x hx=>by obtain ⟨j,hj,e⟩:=List.mem_iff_getElem.1 hx;rw [← e];exact h5 j hj hj]
 all_goals simp only [go_sem,↓reduceIte]
 all_goals first | rfl | (intro j hj hjk;omega)
theorem SJ (xs ys:List Int) (hl:xs.length < 9223372036854775807):VP V RW [lI xs,lI ys] Q↔Q (.b (decide (xs=ys))):=by
 refine Ad ?_
 rw [Ac C.c_z119.1 C.c_z119.2]
 by_cases hxy:xs.length=ys.length
 ·simp only [V7,KK,go_sem,↓reduceIte,hxy]
  refine Ae (by decide) ys.length (by omega) (I:=fun k F h=>h=[]∧A4.tmp F 0=lI xs∧A4.tmp F 1=lI ys∧∀ (j:Nat) (hj:j < xs.length) (hj':j < ys.length),j < k→xs[j]=ys[j]) ?_ ?_ 0 _ _ (by omega) ?_ ?_ ?_
  ·rintro k F h hk h1 h2 ⟨rfl,h3,h4,h5⟩
   have hk':k < xs.length:=by omega
   by_cases e:xs[k]=ys[k]
   ·simp only [KK,go_sem,↓reduceIte,h1,h2,h3,h4,List.getElem?_eq_getElem hk,List.getElem?_eq_getElem hk',e]
    intro j hj hj' hjk
    by_cases e2:j=k
    ·subst e2;exact e
    ·exact h5 j hj hj' (by omega)
   ·simp only [KK,go_sem,↓reduceIte,h1,h2,h3,h4,List.getElem?_eq_getElem hk,List.getElem?_eq_getElem hk',e]
    refine (decide_eq_false ?_).symm
    rintro rfl
    exact e rfl
  ·rintro F h ⟨rfl,h3,h4,h5⟩
   simp only [KK,go_sem,↓reduceIte]
   exact (decide_eq_true (List.ext_getElem hxy fun j hj hj'=>h5 j hj hj' hj')).symm
  all_goals simp only [go_sem,↓reduceIte]
  all_goals first | rfl | (intro j hj hj' hjk;omega)
 ·simp only [V7,KK,go_sem,↓reduceIte,Int.natCast_inj,hxy]
  refine (decide_eq_false ?_).symm
  rintro rfl
  exact hxy rfl
end
@[go_sem] theorem Uz {n k:Nat} {f:Nat→BitVec 64} {z:BitVec 64}:((D6 n k f z).map eW).set k [vW (f k)]=(D6 n (k+1) f z).map eW:=P4 eW
@[go_sem] theorem Aiv {n k:Nat} {f:Nat→Int} {z:Int}:((D6 n k f z).map eI).set k [.i .i64 (f k)]=(D6 n (k+1) f z).map eI:=P4 eI
@[go_sem] theorem Aiu {α:Type} {n k:Nat} {f:Nat→α} {z:α}:(D6 n k f z).take n=D6 n k f z:=by rw [List.take_of_length_le];rw [SS];exact Nat.le_refl n
attribute [go_sem] SS List.length_range
@[go_sem] theorem Ahw (n:Nat):(List.range n).take n=List.range n:=by rw [List.take_of_length_le];simp
@[go_sem] theorem AqJ (n:Nat) (w:BitVec 64):List.replicate n [vW w]=(List.replicate n w).map eW:=by simp
@[go_sem] theorem AqI (n:Nat) (w:Int):List.replicate n [VV.i .i64 w]=(List.replicate n w).map eI:=by simp
abbrev eP (p:Int×Int):List VV:=[.i .i64 p.1,.i .i64 p.2]
abbrev lP (l:List (Int×Int)):VV:=.ls (l.map eP)
@[go_sem] theorem AoS (xs:List (Int×Int)) (x y:Int):xs.map eP++[[.i .i64 x,.i .i64 y]]=(xs++[(x,y)]).map eP:=by simp
theorem Fz.of {a:List VV} (h:∀ h d,B4 (frz h (d+3)) a=some (a,[])):Fz a:=h
section
variable {V:Am} (C:Au V) {Q:VV→Prop}
include C
theorem A0k (x all:BitVec 64):VP V RV [vW x,.fp [vW all] 0] Q↔Q (.b (!decide (x &&& ~~~all=0#64))):=by
 refine Ad ?_
 rw [Ac C.c_z101.1 C.c_z101.2]
 simp only [A1b,VB,go_sem,↓reduceIte,M0 C]
theorem C0 (r:Rows):VP V A5e [lW r] Q↔Q (.b (DJ r)):=by
 refine Ad ?_
 rw [Ac C.c_z48.1 C.c_z48.2]
 by_cases hl:r.length≤64
 ·have hl':¬ (64:Int) < r.length:=by omega
  simp only [A45,ZA,go_sem,↓reduceIte,hl',Ng C 0 _ (by omega),
   DK C r (by omega) (g:=RV) (a:=[]) (c:=[.fp [vW (Gg 0 r.length)] 0]) Fz.nil (fun _ _=>rfl) (fun x=>!decide (x &&& ~~~(Gg 0 r.length)=0#64)) (fun x=>(A0k C _ _).2 rfl)]
  simp only [DJ,hl,go_sem,List.not_any_eq_all_not,Bool.not_not]
 ·have hl':(64:Int) < r.length:=by omega
  simp only [A45,ZA,go_sem,↓reduceIte,hl',Bool.true_eq_false]
  simp [DJ,hl]
theorem A3l {n:Nat} (hl:n≤1000) {gf:Nat} {a c:List VV} (ha:Fz a) (hc:Fz c) (row:Nat→BitVec 64)
  (hp:∀ (i:Nat),i < n→VP V gf (a++[.i .i64 (i:Nat)]++c) fun r=>r=vW (row i)) :
  VP V ZS [.i .i64 n,.f gf a c] Q↔Q (lW ((List.range n).map row)):=by
 refine Ad ?_
 rw [Ac C.c_z49.1 C.c_z49.2]
 have h0:n * 8≤A7:=by unfold A7;omega
 simp only [A46,ND,go_sem,↓reduceIte,h0,Int.le_refl]
 refine Ae (by decide) n (by omega) (I:=fun k F h=>A4.tmp F 1 = .f gf a c∧A4.tmp F 5 = .sl 0 0 0 n∧h=[some ⟨Bf,1,0,false,(D6 n k row 0#64).map eW⟩]) ?_ ?_ 0 _ _ (by omega) ?_ ?_ ?_
 ·rintro k F h hk h1 h2 ⟨h3,h4,rfl⟩
  have hq:=fun Q=>Ad (hp k hk) (Q:=Q)
  have hfz:=ha.call hc (h:=[some ⟨Bf,1,0,false,(D6 n k row 0#64).map eW⟩]) (x:=[.i .i64 (k:Nat)]) rfl
  simp only [ND,go_sem,↓reduceIte,h1,h2,h3,h4,hk,hfz,hq,Jq hk,Fz.bel ha,Fz.bel hc]
 ·rintro F h ⟨h3,h4,rfl⟩
  simp only [ND,go_sem,↓reduceIte,h4,Hd]
 all_goals simp only [go_sem,↓reduceIte]
 all_goals first | rfl | rw [EM]
theorem Qh {n:Nat} (hl:n≤1000) {gf:Nat} {a c:List VV} (ha:Fz a) (hc:Fz c) (row:Nat→BitVec 64) (b0:Nat) {Q':VV→VH→Prop}
  (hp:∀ (i:Nat),i < n→VP V gf (a++[.i .i64 (i:Nat)]++c) fun r=>r=vW (row i)) :
  Yk V ZS [.i .i64 n,.f gf a c] b0 Q'↔Q' (.sl b0 0 0 n) [some ⟨Bf,1,0,false,((List.range n).map row).map eW⟩]:=by
 refine Jv ?_
 rw [Jw C.c_z49.2]
 have h0:n * 8≤A7:=by unfold A7;omega
 simp only [A46,ND,go_sem,↓reduceIte,h0,Int.le_refl]
 refine Ae (by decide) n (by omega) (I:=fun k F h=>A4.tmp F 1 = .f gf a c∧A4.tmp F 5 = .sl 0 0 0 n∧h=[some ⟨Bf,1,0,false,(D6 n k row 0#64).map eW⟩]) ?_ ?_ 0 _ _ (by omega) ?_ ?_ ?_
 ·rintro k F h hk h1 h2 ⟨h3,h4,rfl⟩
  have hq:=fun Q=>Ad (hp k hk) (Q:=Q)
  have hfz:=ha.call hc (h:=[some ⟨Bf,1,0,false,(D6 n k row 0#64).map eW⟩]) (x:=[.i .i64 (k:Nat)]) rfl
  simp only [ND,go_sem,↓reduceIte,h1,h2,h3,h4,hk,hfz,hq,Jq hk,Fz.bel ha,Fz.bel hc]
 ·rintro F h ⟨h3,h4,rfl⟩
  simp only [ND,go_sem,↓reduceIte,h4,Hd,Bj]
  simp
 all_goals simp only [go_sem,↓reduceIte]
 all_goals first | rfl | rw [EM]
theorem L7 (a b:Rows):VP V Xt [.ag [lW a,lW b]] Q↔Q (.b (DJ a && DJ b && decide (a.length=b.length))):=by
 refine Ad ?_
 rw [Ac C.c_z192.1 C.c_z192.2]
 cases hma:DJ a<;>cases hmb:DJ b <;>
  simp only [A24,Wa,go_sem,↓reduceIte,C0 C,hma,hmb,Int.natCast_inj]
omit C in
theorem Bz {a:Rows} {i:Nat} (h:i < a.length):a[i]? = some (a.getD i 0#64):=by rw [AcA h,List.getElem?_eq_getElem h]
theorem Tu (a b:Rows) {i:Nat} (hi:i < a.length) (hi':i < b.length):VP V S3 [.ag [lW a,lW b],.i .i64 i] Q↔Q (vW (a.getD i 0#64 ||| b.getD i 0#64)):=by
 refine Ad ?_
 rw [Ac C.c_z161.1 C.c_z161.2]
 simp only [A1I,VY,go_sem,↓reduceIte,Bz hi,Bz hi']
theorem Qu (a b:Rows) {gf:Nat} {fa fc:List VV} (ha:Fz fa) (hc:Fz fc) (row:Nat→BitVec 64)
  (hp:a.length=b.length→a.length≤64→∀ (i:Nat),i < a.length→VP V gf (fa++[.i .i64 (i:Nat)]++fc) fun r=>r=vW (row i)) :
  VP V X6 [.ag [lW a,lW b],.f gf fa fc] Q↔Q (lW (if DJ a && DJ b && decide (a.length=b.length) then (List.range a.length).map row else [])):=by
 refine Ad ?_
 rw [Ac C.c_z160.1 C.c_z160.2]
 cases hm:(DJ a && DJ b && decide (a.length=b.length)) with
 | false=>simp only [Ve,RM,go_sem,↓reduceIte,L7 C,hm,Bool.false_eq_true]
 | true =>
  have hm':=hm
  simp only [Bool.and_eq_true,decide_eq_true_eq] at hm'
  have hl:=JP hm'.1.1
  simp only [Ve,RM,go_sem,↓reduceIte,L7 C,hm,A3l C (show a.length≤1000 by omega) ha hc row (fun i hi=>hp hm'.2 hl i hi),Fz.eq ha,Fz.eq hc]
theorem Ab0 (a b:Rows):VP V WL [lW a,lW b] Q↔Q (lW (orF a b)):=by
 refine Ad ?_
 rw [Ac C.c_z123.1 C.c_z123.2]
 simp only [A1l,VI,go_sem,↓reduceIte,
  Qu C a b (gf:=S3) (fa:=[.ag [lW a,lW b]]) (fc:=[]) (fun _ _=>rfl) Fz.nil (fun i=>a.getD i 0#64 ||| b.getD i 0#64) (fun h1 h2 i hi=>(Tu C a b hi (by omega)).2 rfl)]
 rfl
theorem A3k (a:Rows) (hl:a.length≤64) (s:BitVec 64):VP V Xm [lW a,vW s] Q↔Q (vW (DM a s)):=by
 refine Ad ?_
 rw [Ac C.c_z182.1 C.c_z182.2]
 simp only [A1Y,Pv,go_sem,↓reduceIte,Ng C 0 _ (by omega),Dl C]
 have hlen:=DF (s &&& Gg 0 a.length)
 have hmem:∀ i,i∈C1 (s &&& Gg 0 a.length)→i < a.length:=by
  intro i hi
  have:=(RC hi).2
  rw [BitVec.getLsbD_and,Gg,At] at this
  simp at this
  omega
 unfold DM
 unfold AX at hlen ⊢
 generalize C1 (s &&& Gg 0 a.length)=L at *
 refine Ae (by decide) (L.map fun (i:Nat)=>(i:Int)).length (by omega) (I:=fun k F h=>h=[]∧A4.tmp F 0=lW a∧A4.tmp F 13=lI (L.map fun (i:Nat)=>(i:Int))∧A4.tmp F 5=vW ((L.take k).foldl (fun x i=>x ||| a.getD i 0#64) 0#64)) ?_ ?_ 0 _ _ (by omega) ?_ ?_ ?_
 ·rintro k F h hk h2 h3 ⟨rfl,h4,h5,h6⟩
  have hk':k < L.length:=by simpa using hk
  simp only [Pv,go_sem,↓reduceIte,h2,h3,h4,h5,h6,List.getElem?_eq_getElem hk',Bz (hmem _ (List.getElem_mem hk'))]
  rw [List.take_succ_eq_append_getElem hk',List.foldl_append,List.foldl_cons,List.foldl_nil]
 ·rintro F h ⟨rfl,h4,h5,h6⟩
  rw [List.length_map,List.take_length] at h6
  simp only [Pv,go_sem,↓reduceIte,h6]
 all_goals simp only [go_sem,↓reduceIte]
 all_goals rfl
theorem Sw (a:Rows) (hm:DJ a=true) (s:BitVec 64):VP V EI [lW a,vW s] Q↔Q (vW (DM a s)):=by
 refine Ad ?_
 rw [Ac C.c_z140.1 C.c_z140.2]
 simp only [A1w,VN,go_sem,↓reduceIte,C0 C,hm,A3k C a (JP hm)]
theorem Md (a:Rows) (hm:DJ a=true) (s:BitVec 64):VP V Ei [lW a,vW s] Q↔Q (vW (DM a s)):=by
 refine Ad ?_
 rw [Ac C.c_z159.1 C.c_z159.2]
 simp only [A1H,VX,go_sem,↓reduceIte,Sw C a hm]
theorem Me (a:Rows) (hm:DJ a=true) (s:BitVec 64):VP V Gf [lW a,vW s,.f Ei [] []] Q↔Q (vW (J8 a s)):=by
 refine Ad ?_
 rw [Ac C.c_z158.1 C.c_z158.2]
 simp only [A1G,Pt,go_sem,↓reduceIte]
 unfold VL
 rw [A0]
 refine AW (M:=BitVec 64) (I:=fun t F h=>h=[]∧A4.tmp F 0=lW a∧A4.tmp F 1=vW t∧A4.tmp F 2 = .f Ei [] []∧J8 a t=J8 a s) (μ:=fun t=>18446744073709551616 - t.toNat) ?_ s _ _ ⟨rfl,?_,?_,?_,rfl⟩
 ·rintro t F h ⟨rfl,h0,h1,h2,h3⟩
  have hs:=A0Y a t
  by_cases e:t ||| DM a t=t
  ·rw [if_pos e] at hs
   simp only [Vv,Pt,go_sem,↓reduceIte,h0,h1,h2,A0,Md C a hm,e]
   rw [← h3,hs]
  ·rw [if_neg e] at hs
   simp only [Vv,Pt,go_sem,↓reduceIte,h0,h1,h2,A0,Md C a hm,e]
   have:=NL e
   have:=(t ||| DM a t).isLt
   exact ⟨t ||| DM a t,by omega,rfl,by rw [← h3,hs]⟩
 all_goals simp only [go_sem,↓reduceIte]
theorem XQ (a:Rows):VP V RX [lW a] Q↔Q (lW (DP a)):=by
 refine Ad ?_
 rw [Ac C.c_z122.1 C.c_z122.2]
 cases hm:DJ a with
 | false=>simp only [Rh,HQ,go_sem,↓reduceIte,C0 C,hm,DP,Bool.false_eq_true]
 | true =>
  have hl:=JP hm
  have h0:a.length * 8≤A7:=by unfold A7;omega
  simp only [Rh,HQ,go_sem,↓reduceIte,C0 C,hm,h0,Int.le_refl]
  refine Ae (by decide) a.length (by omega) (I:=fun k F h=>A4.tmp F 0=lW a∧A4.tmp F 12=lW a∧A4.tmp F 3 = .sl 0 0 0 a.length∧h=[some ⟨Bf,1,0,false,(D6 a.length k (fun i=>J8 a (a.getD i 0#64)) 0#64).map eW⟩]) ?_ ?_ 0 _ _ (by omega) ?_ ?_ ?_
  ·rintro k F h hk h1 h2 ⟨h3,h4,h5,rfl⟩
   have hu:=Uz (n:=a.length) (k:=k) (f:=fun i=>J8 a (a.getD i 0#64)) (z:=0#64)
   simp only [HQ,go_sem,↓reduceIte,h1,h2,h3,h4,h5,hk,Bz hk,Me C a hm,Jq hk,hu]
  ·rintro F h ⟨h3,h4,h5,rfl⟩
   simp only [HQ,go_sem,↓reduceIte,h5,Hd,DP,hm]
  all_goals simp only [go_sem,↓reduceIte]
  all_goals first | rfl | rw [EM]
theorem L6 (a:Rows) (s:BitVec 64) {i:Nat} (hi:i < a.length):VP V Ue [.ag [lW a,vW s],.i .i64 i] Q↔Q (vW (if Bv s (i:Int) then a.getD i 0#64 &&& s else 0#64)):=by
 refine Ad ?_
 rw [Ac C.c_z50.1 C.c_z50.2]
 cases hh:Bv s (i:Int)<;>simp only [A9e,A4F,go_sem,↓reduceIte,AD C,hh,Bz hi,Bool.false_eq_true]
theorem Sx (a:Rows) (s:BitVec 64):VP V ZK [lW a,vW s] Q↔Q (lW (Nv a s)):=by
 refine Ad ?_
 rw [Ac C.c_z12.1 C.c_z12.2]
 cases hm:DJ a with
 | false=>simp only [Z5,U4,go_sem,↓reduceIte,C0 C,hm,Nv,Bool.false_eq_true]
 | true =>
  have hl:=JP hm
  simp only [Z5,U4,go_sem,↓reduceIte,C0 C,hm,Nv,
   Qh C (show a.length≤1000 by omega) (gf:=Ue) (a:=[.ag [lW a,vW s]]) (c:=[]) (fun _ _=>rfl) Fz.nil (fun (i:Nat)=>if Bv s (i:Int) then a.getD i 0#64 &&& s else 0#64) 0 (fun i hi=>(L6 C a s hi).2 rfl)]
theorem Sy (n:Nat) (hn:n≤64) (b:Nat) {Q:VV→VH→Prop}:Yk V A5a [.i .i64 n] b Q↔Q (.sl b 0 0 n) [some ⟨Bf,1,0,false,(List.replicate n 0#64).map eW⟩]:=by
 refine Jv ?_
 rw [Jw C.c_z43.2]
 have h0:n * 8≤A7:=by unfold A7;omega
 have h1:¬ (64:Int) < n:=by omega
 have h2:¬ (n:Int) < 0:=by omega
 simp only [A99,RR,go_sem,↓reduceIte,h0,h1,h2,Int.le_refl,Bj]
 simp
theorem A0l (a:Rows):VP V A5f [lW a] Q↔Q (lP (CS a)):=by
 refine Ad ?_
 rw [Ac C.c_z51.1 C.c_z51.2]
 cases hm:DJ a with
 | false=>simp only [A47,NE,go_sem,↓reduceIte,C0 C,hm,CS,Bool.false_eq_true,Sa]
 | true =>
  have hl:=JP hm
  simp only [A47,NE,go_sem,↓reduceIte,C0 C,hm,Sa]
  refine Ae (by decide) a.length (by omega) (I:=fun k F h=>A4.tmp F 12=lW a∧∃ l,l=((List.range k).flatMap (fun (i:Nat)=>(AX (a.getD i 0#64)).map fun j=>((i:Int),j)))∧A4.tmp F 3 = .sl 0 l.length 0 l.length∧h=[some (AL A3H 2 (l.map eP))]) ?_ ?_ 0 _ _ (by omega) ?_ ?_ ?_
  ·rintro k F h hk h1 h2 ⟨h3,l,hl',h4,rfl⟩
   simp only [NE,go_sem,↓reduceIte,h1,h2,h3,h4,Bz hk,Dl C]
   have hll:=DF (a.getD k 0#64)
   have hpl:=Uj a k
   rw [← hl'] at hpl
   refine Ae (by decide) (AX (a.getD k 0#64)).length (by omega) (I:=fun m F h=>A4.tmp F 14 = .i .i64 k∧A4.tmp F 13 = .i .i64 a.length∧A4.tmp F 12=lW a∧A4.tmp F 20=lI (AX (a.getD k 0#64))∧A4.tmp F 4 = .i .i64 k∧∃ l',l' = l++((AX (a.getD k 0#64)).take m).map (fun j=>((k:Int),j))∧A4.tmp F 3 = .sl 0 l'.length 0 l'.length∧h=[some (AL A3H 2 (l'.map eP))]) ?_ ?_ 0 _ _ (by omega) ?_ ?_ ?_
   ·rintro m G h hm' j1 j2 ⟨j4,j5,j6,j7,j8,l',hl2,j9,rfl⟩
    have hb:(l'.length+1) * 16≤A7:=by
     have:l'.length≤10000:=by
      rw [hl2,List.length_append,List.length_map,List.length_take];omega
     unfold A7;omega
    simp only [NE,go_sem,↓reduceIte,j1,j2,j4,j5,j6,j7,j8,j9,List.getElem?_eq_getElem hm',hb]
    refine ⟨_,?_,by rw [List.length_append];rfl,rfl⟩
    rw [hl2,List.take_succ_eq_append_getElem hm',List.map_append,List.append_assoc];rfl
   ·rintro G h ⟨j4,j5,j6,j7,j8,l',hl2,j9,rfl⟩
    simp only [NE,go_sem,↓reduceIte,j4,j5,j6,j9]
    refine ⟨_,?_,rfl,rfl⟩
    rw [hl2,List.take_length,hl',List.flatMap_append];simp
   all_goals simp only [go_sem,↓reduceIte,h1,h2,h3,h4]
   all_goals first | rfl | exact ⟨l,by simp,rfl,rfl⟩
  ·rintro F h ⟨h3,l,hl',h4,rfl⟩
   simp only [NE,go_sem,↓reduceIte,h4,CS,hm,← hl']
  all_goals simp only [go_sem,↓reduceIte]
  all_goals first | rfl | exact ⟨[],rfl,rfl,rfl⟩
end
theorem AbZ {e:Option Qo} (s:BitVec 64) {n:Nat} (h:n < 64):B9 .shr e (Wd s) (.i .u64 n)=some (Wd (s >>> n)):=by
 have h0:¬ ((n:Int) < 0):=by omega
 simp only [Wd,B9,GN,if_neg h0,IntKind.bits,Option.some.injEq,AV.i.injEq,true_and,Int.toNat_natCast]
 rw [Nat.min_eq_left (by omega),BitVec.toNat_ushiftRight,Nat.shiftRight_eq_div_pow]
 rw [show ((2:Int) ^ n)=((2 ^ n:Nat):Int) by simp,Int.fdiv_eq_ediv_of_nonneg _ (Int.natCast_nonneg _)]
 rfl
theorem AbY {e:Option Qo} (s:BitVec 64):B9 .rem e (Wd s) (.i .u64 2)=some (Wd (if s.getLsbD 0 then 1#64 else 0#64)):=by
 rw [Wd,A88 (by decide)]
 simp only [Option.some.injEq,Wd,AV.i.injEq,true_and]
 have h0:s.getLsbD 0=decide (s.toNat % 2=1):=by
  show s.toNat.testBit 0=_
  simp [Nat.testBit_zero]
 rw [h0]
 have:(s.toNat:Int).tmod 2=((s.toNat % 2:Nat):Int):=by
  rw [Int.tmod_eq_emod_of_nonneg (Int.natCast_nonneg _)]
  rfl
 rw [this]
 by_cases h:s.toNat % 2=1
 ·simp [h]
 ·have:s.toNat % 2=0:=by omega
  simp [this]
theorem Aee {e:Option Qo} (s:BitVec 64) {n:Nat} (h:n < 64):B5 .shr e (vW s) (.i .u64 n)=some (vW (s >>> n)):=by
 show (B9 .shr e (Wd s) (.i .u64 n)).bind Gx=_
 rw [AbZ s h];rfl
theorem Aed {e:Option Qo} (s:BitVec 64):B5 .rem e (vW s) (.i .u64 2)=some (vW (if s.getLsbD 0 then 1#64 else 0#64)):=by
 show (B9 .rem e (Wd s) (.i .u64 2)).bind Gx=_
 rw [AbY s];rfl
section
variable {V:Am} (C:Au V) {Q:VV→Prop}
include C
theorem Sp (s:BitVec 64) (i:Int):VP V A52 [vW s,.i .i64 i] Q↔Q (.b (Bv s i)):=by
 refine Ad ?_
 rw [Ac C.c_z23.1 C.c_z23.2]
 by_cases h0:i < 0
 ·have:Bv s i=false:=by unfold Bv;simp;omega
  simp only [Z7,U6,go_sem,↓reduceIte,h0,this]
 ·by_cases h1:63 < i
  ·have:Bv s i=false:=by
    unfold Bv
    rw [BitVec.getLsbD_of_ge _ _ (by omega)]
    simp
   simp only [Z7,U6,go_sem,↓reduceIte,h0,h1,this]
  ·obtain ⟨n,rfl⟩:=Int.eq_ofNat_of_zero_le (by omega:0≤i)
   have hw:IntKind.u64.wrap (n:Int)=n:=by rw [Ju];omega
   have hs:∀ e,B5 .shr e (vW s) (.i .u64 (n:Int))=some (vW (s >>> n)):=fun e=>Aee s (by omega)
   simp only [Z7,U6,go_sem,↓reduceIte,h0,h1,hw,hs,Aed]
   rw [AS,BitVec.getLsbD_ushiftRight,Nat.add_zero]
   cases s.getLsbD n<;>rfl
theorem Tt (s t:BitVec 64):VP V A51 [vW s,vW t] Q↔Q (.b (decide (s ||| t=t))):=by
 refine Ad ?_
 rw [Ac C.c_z21.1 C.c_z21.2]
 simp only [A8Y,A4z,go_sem,↓reduceIte]
theorem XY (n:Nat) (hn:n < 64):VP V A59 [.i .i64 n] Q↔Q (vW (1#64 <<< n)):=by
 refine Ad ?_
 rw [Ac C.c_z41.1 C.c_z41.2]
 simp only [A97,RQ,go_sem,↓reduceIte]
 refine Ai (by decide) n (by omega) (I:=fun k F h=>h=[]∧A4.tmp F 0 = .i .i64 n∧A4.tmp F 3=vW (1#64 <<< k)) ?_ ?_ ?_ 0 _ _ (Nat.zero_le _) ?_ ?_
 ·rintro k F h hk h1 ⟨rfl,h2,h3⟩
  simp only [RQ,go_sem,↓reduceIte,h1,h2,h3]
 ·rintro k F h hk h1 ⟨rfl,h2,h3⟩
  simp only [RQ,go_sem,↓reduceIte,h1,h2,h3]
  congr 1
  apply BitVec.eq_of_toNat_eq
  rw [BitVec.toNat_add,BitVec.toNat_shiftLeft,BitVec.toNat_shiftLeft]
  simp only [Nat.shiftLeft_eq]
  have:(1#64).toNat=1:=rfl
  rw [this,Nat.pow_succ]
  omega
 ·rintro F h ⟨rfl,h2,h3⟩
  simp only [RQ,go_sem,↓reduceIte,h3]
 all_goals simp only [go_sem,↓reduceIte]
 all_goals rfl
theorem Sq (s:BitVec 64) (i:Int):VP V AdJ [vW s,.i .i64 i] Q↔Q (vW (s ||| CQ i)):=by
 refine Ad ?_
 rw [Ac C.c_z8.1 C.c_z8.2]
 by_cases h0:i < 0
 ·have:CQ i=0#64:=by unfold CQ;rw [if_neg (by omega)]
  simp only [A6G,A2Y,go_sem,↓reduceIte,h0,this,BitVec.or_zero]
 ·by_cases h1:63 < i
  ·have:CQ i=0#64:=by unfold CQ;rw [if_neg (by omega)]
   simp only [A6G,A2Y,go_sem,↓reduceIte,h0,h1,this,BitVec.or_zero]
  ·obtain ⟨n,rfl⟩:=Int.eq_ofNat_of_zero_le (by omega:0≤i)
   have h1f:CQ (n:Int)=1#64 <<< n:=by unfold CQ;rw [if_pos (by omega)];rfl
   cases hb:Bv s n with
   | true =>
    simp only [A6G,A2Y,go_sem,↓reduceIte,h0,h1,Sp C,hb]
    congr 1
    apply Bp
    intro j hj
    rw [BitVec.getLsbD_or,CR]
    by_cases e:j=n
    ·subst e;rw [AS] at hb;simp [hb]
    ·have:¬ ((j:Int)=n):=by omega
     simp [this]
   | false =>
    simp only [A6G,A2Y,go_sem,↓reduceIte,h0,h1,Sp C,hb,XY C n (by omega)]
    congr 1
    rw [h1f]
    apply BitVec.add_eq_or_of_and_eq_zero
    rw [← h1f,PX]
    rw [AS] at hb
    simp [hb]
theorem Um (xs:List Int) (hl:xs.length < 9223372036854775807):VP V A50 [lI xs] Q↔Q (vW (Cj xs)):=by
 refine Ad ?_
 rw [Ac C.c_z20.1 C.c_z20.2]
 simp only [A8X,RP,go_sem,↓reduceIte]
 refine Ai (by decide) xs.length hl (I:=fun k F h=>h=[]∧A4.tmp F 0=lI xs∧A4.tmp F 3=vW (Cj (xs.take k))) ?_ ?_ ?_ 0 _ _ (Nat.zero_le _) ?_ ?_
 ·rintro k F h hk h1 ⟨rfl,h2,h3⟩
  simp only [RP,go_sem,↓reduceIte,h1,h2,h3]
 ·rintro k F h hk h1 ⟨rfl,h2,h3⟩
  simp only [RP,go_sem,↓reduceIte,h1,h2,h3,List.getElem?_eq_getElem hk,Sq C]
  rw [List.take_succ_eq_append_getElem hk]
  simp only [Cj,List.foldl_append,List.foldl_cons,List.foldl_nil]
 ·rintro F h ⟨rfl,h2,h3⟩
  rw [List.take_length] at h3
  simp only [RP,go_sem,↓reduceIte,h3]
 all_goals simp only [go_sem,↓reduceIte]
 all_goals rfl
omit C in
theorem A7y (s t:BitVec 64):decide (s ||| t=t)=decide (s &&& ~~~t=0#64):=by
 apply decide_eq_decide.2
 rw [Ahu]
 constructor
 ·intro h
  apply Bp
  intro j hj
  cases hs:s.getLsbD j with
  | false=>simp [hs]
  | true=>simp [hs,h j hs]
 ·intro h j hj
  have:=congrArg (fun w:BitVec 64=>w.getLsbD j) h
  have hlt:j < 64:=BitVec.lt_of_getLsbD hj
  simp [hj,hlt] at this
  exact this
theorem To (xs:List Int) (hl:xs.length < 9223372036854775807) (n:Int):VP V ZP [lI xs,.i .i64 n] Q↔Q (.i .i64 (D3 (fun y=>decide (n=y)) xs)):=by
 refine Ad ?_
 rw [Ac C.c_z33.1 C.c_z33.2]
 simp only [A94,Q7,go_sem,↓reduceIte]
 refine Ai (by decide) xs.length hl (I:=fun k F h=>h=[]∧A4.tmp F 0=lI xs∧A4.tmp F 1 = .i .i64 n∧∀ (j:Nat) (hj:j < xs.length),j < k→¬ n=xs[j]) ?_ ?_ ?_ 0 _ _ (Nat.zero_le _) ?_ ?_
 ·rintro k F h hk h1 ⟨rfl,h2,h3,h4⟩
  simp only [Q7,go_sem,↓reduceIte,h1,h2,h3]
  exact h4
 ·rintro k F h hk h1 ⟨rfl,h2,h3,h4⟩
  by_cases e:xs[k]=n
  ·simp only [Q7,go_sem,↓reduceIte,h1,h2,h3,List.getElem?_eq_getElem hk,e]
   rw [DD hk (by simp [e]) fun j hj=>by simpa using h4 j _ hj]
  ·simp only [Q7,go_sem,↓reduceIte,h1,h2,h3,List.getElem?_eq_getElem hk,e]
   intro j hj hjk
   by_cases e2:j=k
   ·subst e2;exact fun e3=>e e3.symm
   ·exact h4 j hj (by omega)
 ·rintro F h ⟨rfl,h2,h3,h4⟩
  simp only [Q7,go_sem,↓reduceIte]
  rw [E4 fun x hx=>by obtain ⟨j,hj,e⟩:=List.mem_iff_getElem.1 hx;rw [← e];simpa using h4 j hj hj]
 all_goals simp only [go_sem,↓reduceIte]
 all_goals first | rfl | (intro j hj hjk;omega)
theorem Ay (t:A2) (n:Int):VP V A5i [vT t,.i .i64 n] Q↔Q (.b (BI t n)):=by
 refine Ad ?_
 rw [Ac C.c_z54.1 C.c_z54.2]
 cases h0:decide (0≤n)<;>simp only [A9h,A4I,go_sem,↓reduceIte,h0,BI]
theorem Tn (n:AK):VP V WU [vN n] Q↔Q (.b (D0 n)):=by
 refine Ad ?_
 rw [Ac C.c_z138.1 C.c_z138.2]
 cases c0:decide (0≤n.thread)<;>cases c1:decide (n.kind=3)<;>cases c2:decide (n.mode=0) <;>
  simp only [A1v,VM,go_sem,↓reduceIte,c0,c1,c2,D0]
theorem Ke (t:A2) (hu:Kt t) (a:Int) {b:Nat} (hb:b < t.nodes.length):VP V A5j [vT t,.i .i64 a,.i .i64 b] Q↔Q (.b (AA t a b)):=by
 refine Ad ?_
 rw [Ac C.c_z55.1 C.c_z55.2]
 simp only [A9i,RS,go_sem,↓reduceIte,A6 hb]
 unfold VL
 rw [A0]
 refine AW (M:=Int) (I:=fun x F h=>h=[]∧A4.tmp F 3 = .fp (eT t) 0∧A4.tmp F 1 = .i .i64 a∧A4.tmp F 7 = .i .i64 x∧x < t.nodes.length∧LP t a t.nodes.length x=AA t a b) (μ:=fun x=>(x+1).toNat) ?_ (t.at b).up _ _ ⟨rfl,?_,?_,?_,?_,rfl⟩
 ·rintro x F h ⟨rfl,j1,j2,j3,j4,j5⟩
  have hfuel:∀ y:Int,y < t.nodes.length→LP t a (t.nodes.length+1) y=LP t a t.nodes.length y:=fun y hy=>TL hu a _ y hy hy
  by_cases c0:0≤x
  ·obtain ⟨m,rfl⟩:=Int.eq_ofNat_of_zero_le c0
   have hm:m < t.nodes.length:=by omega
   have hstep:=hfuel (m:Int) j4
   rw [LP,if_neg (by omega)] at hstep
   by_cases c1:(m:Int)=a
   ·rw [if_pos c1] at hstep
    subst c1
    simp only [Vx,RS,go_sem,↓reduceIte,j1,j2,j3,A0]
    rw [← j5,← hstep]
   ·rw [if_neg c1,Int.toNat_natCast] at hstep
    have hup:=hu m hm
    simp only [Vx,RS,go_sem,↓reduceIte,j1,j2,j3,c1,A0,A6 hm]
    exact ⟨_,by omega,rfl,by omega,by rw [hstep,j5]⟩
  ·have hstep:=hfuel x j4
   rw [LP,if_pos (by omega)] at hstep
   simp only [Vx,RS,go_sem,↓reduceIte,j1,j2,j3,c0]
   rw [← j5,← hstep]
 ·simp only [go_sem,↓reduceIte]
 ·simp only [go_sem,↓reduceIte]
 ·simp only [go_sem,↓reduceIte]
 ·have:=hu b hb;omega
set_option maxHeartbeats 1000000 in
theorem Kd (t:A2) (hu:Kt t) (a b:Int):VP V A4X [vT t,.i .i64 a,.i .i64 b] Q↔Q (.b (AN t a b)):=by
 refine Ad ?_
 rw [Ac C.c_z16.1 C.c_z16.2]
 cases ha:BI t a with
 | false=>simp only [TX,RL,go_sem,↓reduceIte,Ay C,ha,AN]
 | true =>
  cases hb:BI t b with
  | false=>simp only [TX,RL,go_sem,↓reduceIte,Ay C,ha,hb,AN]
  | true =>
   obtain ⟨m,rfl,hm⟩:=Aa ha
   obtain ⟨n,rfl,hn⟩:=Aa hb
   by_cases e:(m:Int)=n
   ·simp only [TX,RL,go_sem,↓reduceIte,Ay C,ha,hb,AN,e]
   ·cases c0:decide (0≤(t.at m).thread)<;>cases c1:decide ((t.at m).thread=(t.at n).thread)<;>cases c2:AA t (m:Int) n <;>
     simp only [TX,RL,go_sem,↓reduceIte,Ay C,ha,hb,AN,e,A6 hm,A6 hn,c0,c1,c2,Ke C t hu _ hn,Ke C t hu _ hm]
end
theorem Hg {k:Nat} (h0:0 < k) (h:k < 9223372036854775807):IntKind.i64.wrap ((k:Int) - 1)=((k - 1:Nat):Int):=by rw [AC (by omega) (by omega)];omega
section
variable {V:Am} (C:Au V) {Q:VV→Prop}
include C
theorem Aw (xs:List Int) (hl:xs.length < 9223372036854775807) (n:Int):VP V ZP [lI xs,.i .i64 n] Q↔Q (.i .i64 (K3 xs n)):=To C xs hl n
theorem Tl (t:A2) (ht:t.nodes.length≤1000):VP V WT [vT t] Q↔Q (vW (Gc t)):=by
 refine Ad ?_
 rw [Ac C.c_z137.1 C.c_z137.2]
 simp only [A1u,KL,go_sem,↓reduceIte]
 refine Ai (by decide) t.nodes.length (by omega) (I:=fun k F h=>h=[]∧A4.tmp F 1 = .fp (eT t) 0∧A4.tmp F 3=vW (BS fun i=>decide (i < k) && decide ((t.at i).up < 0))) ?_ ?_ ?_ 0 _ _ (Nat.zero_le _) ?_ ?_
 ·rintro k F h hk p1 ⟨rfl,p2,p3⟩
  simp only [KL,go_sem,↓reduceIte,p1,p2,p3]
 ·rintro k F h hk p1 ⟨rfl,p2,p3⟩
  by_cases e:(t.at k).up < 0
  ·simp only [KL,go_sem,↓reduceIte,p1,p2,p3,A6 hk,e,Sq C]
   by_cases h64:k < 64
   ·rw [SF _ _ h64]
    congr 1
    apply Cd
    intro j hj
    by_cases e2:j=k
    ·subst e2;simp [e]
    ·have:(j < k+1)↔(j < k):=by omega
     simp [this,e2]
   ·have:CQ (k:Int)=0#64:=by unfold CQ;rw [if_neg (by omega)]
    rw [this,BitVec.or_zero]
    congr 1
    apply Cd
    intro j hj
    have:(j < k+1)↔(j < k):=by omega
    simp [this]
  ·simp only [KL,go_sem,↓reduceIte,p1,p2,p3,A6 hk,e]
   congr 1
   apply Cd
   intro j hj
   by_cases e2:j=k
   ·subst e2;simp [e]
   ·have:(j < k+1)↔(j < k):=by omega
    simp [this]
 ·rintro F h ⟨rfl,p2,p3⟩
  simp only [KL,go_sem,↓reduceIte,p3,Gc]
 all_goals simp only [go_sem,↓reduceIte]
 all_goals first | rfl | (rw [← Jo];congr 1;apply Cd;intro j hj;simp)
set_option maxHeartbeats 1000000 in
theorem Tr (t:A2) (ht:t.nodes.length≤1000) (l:List Int) (hl:l.length≤1000):VP V A5A [vT t,lI l] Q↔Q (.b (Cc t l)):=by
 refine Ad ?_
 rw [Ac C.c_z86.1 C.c_z86.2]
 simp only [A9w,Kb,go_sem,↓reduceIte]
 refine Ai (by decide) l.length (by omega) (I:=fun k F h=>h=[]∧A4.tmp F 1=lI l∧A4.tmp F 2 = .fp (eT t) 0∧∀ j,j < k→C9 t l j=true) ?_ ?_ ?_ 0 _ _ (Nat.zero_le _) ?_ ?_
 ·rintro k F h hk p1 ⟨rfl,p2,p3,p4⟩
  simp only [Kb,go_sem,↓reduceIte,p1,p2,p3]
  exact p4
 ·rintro k F h hk p1 ⟨rfl,p2,p3,p4⟩
  have bad:C9 t l k=false→false=Cc t l:=fun h=>by rw [Cc,BF hk h];rfl
  have good:C9 t l k=true→∀ j,j < k+1→C9 t l j=true:=fun h j hj=>by
   by_cases e:j=k
   ·rw [e];exact h
   ·exact p4 j (by omega)
  cases c0:BI t (l.getD k 0) with
  | false =>
   simp only [Kb,go_sem,↓reduceIte,p1,p2,p3,Az hk,Ay C,c0]
   exact bad (by rw [C9,c0];rfl)
  | true =>
   obtain ⟨n,hn,hn'⟩:=Aa c0
   have hup:C9 t l k=(D1 l k && (decide ((t.at n).up < 0) || B2 l (t.at n).up)):=by
    unfold C9
    rw [c0,hn,Int.toNat_natCast,Bool.true_and]
   rw [hn] at c0
   by_cases z:k=0
   ·subst z
    have hr:D1 l 0=true:=by simp [D1]
    rw [hr,Bool.true_and] at hup
    have z0:¬ (0:Int) < ((0:Nat):Int):=by omega
    by_cases u0:0≤(t.at n).up
    ·have u1:¬ (t.at n).up < 0:=by omega
     rw [decide_eq_false u1,Bool.false_or] at hup
     cases u2:B2 l (t.at n).up<;>rw [u2] at hup <;>
      simp only [Kb,go_sem,↓reduceIte,p1,p2,p3,Az hk,Ay C,c0,z0,hn,A6 hn',u0,Aw C l (by omega),CE,u2]
     ·exact bad hup
     ·exact good hup
    ·have u1:(t.at n).up < 0:=by omega
     rw [decide_eq_true u1,Bool.true_or] at hup
     simp only [Kb,go_sem,↓reduceIte,p1,p2,p3,Az hk,Ay C,c0,z0,hn,A6 hn',u0]
     exact good hup
   ·have z0:(0:Int) < (k:Int):=by omega
    have zw:=Hg (show 0 < k by omega) (by omega)
    have hk1:k - 1 < l.length:=by omega
    have hr:D1 l k = !decide ((n:Int)≤l.getD (k - 1) 0):=by
     unfold D1
     rw [decide_eq_false z,Bool.false_or,hn]
     by_cases c:(n:Int)≤l.getD (k - 1) 0
     ·rw [decide_eq_true c,decide_eq_false (by omega)];rfl
     ·rw [decide_eq_false c,decide_eq_true (by omega)];rfl
    cases c1:decide ((n:Int)≤l.getD (k - 1) 0) with
    | true =>
     rw [c1] at hr
     rw [hr] at hup
     simp only [Kb,go_sem,↓reduceIte,p1,p2,p3,Az hk,Ay C,c0,z0,zw,Az hk1,hn,c1]
     exact bad hup
    | false =>
     rw [c1] at hr
     rw [hr] at hup
     simp only [Bool.not_false,Bool.true_and] at hup
     by_cases u0:0≤(t.at n).up
     ·have u1:¬ (t.at n).up < 0:=by omega
      rw [decide_eq_false u1,Bool.false_or] at hup
      cases u2:B2 l (t.at n).up<;>rw [u2] at hup <;>
       simp only [Kb,go_sem,↓reduceIte,p1,p2,p3,Az hk,Ay C,c0,z0,zw,Az hk1,hn,c1,A6 hn',u0,Aw C l (by omega),CE,u2]
      ·exact bad hup
      ·exact good hup
     ·have u1:(t.at n).up < 0:=by omega
      rw [decide_eq_true u1,Bool.true_or] at hup
      simp only [Kb,go_sem,↓reduceIte,p1,p2,p3,Az hk,Ay C,c0,z0,zw,Az hk1,hn,c1,A6 hn',u0]
      exact good hup
 ·rintro F h ⟨rfl,p2,p3,p4⟩
  simp only [Kb,go_sem,↓reduceIte,p2,p3,Tl C t ht,Um C l (by omega),Tt C]
  rw [Cc,BG p4];rfl
 all_goals simp only [go_sem,↓reduceIte]
 all_goals first | rfl | (intro j hj;omega)
set_option maxHeartbeats 4000000 in
theorem Tp (t:A2) (hu:Kt t) (l has:List Int) (hl:l.length≤1000) (hh:has.length≤1000) (hv:∀ n∈has,BI t n=true) (loc:Int):VP V A5B [vT t,lI l,lI has,.i .i64 loc] Q↔Q (.b (Cb t l has loc)):=by
  refine Ad ?_
  rw [Ac C.c_z87.1 C.c_z87.2]
  by_cases z:l.length=0
  · have z' : (l.length : Int) = 0 := by omega
    simp only [A4e,EY,go_sem,↓reduceIte,z']
    simp [Cb,z]
  have z':¬ (l.length:Int)=0:=by omega
  simp only [A4e,EY,go_sem,↓reduceIte,z']
  refine Ai (by decide) l.length (by omega) (I:=fun k F h=>h=[]∧A4.tmp F 1=lI l∧A4.tmp F 2=lI has∧A4.tmp F 3 = .i .i64 loc∧A4.tmp F 4 = .fp (eT t) 0∧∀ j,j < k→Bg t l has loc j=true) ?_ ?_ ?_ 0 _ _ (Nat.zero_le _) ?_ ?_
  · rintro k F h hk p1 ⟨rfl, p2, p3, p4, p5, p6⟩
    simp only [EY,go_sem,↓reduceIte,p1,p2,p3,p4,p5]
    exact p6
  · rintro k F h hk p1 ⟨rfl, p2, p3, p4, p5, p6⟩
    have bad:Bg t l has loc k=false→false=Cb t l has loc:=fun h=>by rw [Cb,BF hk h];simp
    have good:Bg t l has loc k=true→∀ j,j < k+1→Bg t l has loc j=true:=fun h j hj=>by
      by_cases e:j=k
      · rw [e];exact h
      · exact p6 j (by omega)
    cases c0:B2 has (l.getD k 0) with
    | false =>
      simp only [EY,go_sem,↓reduceIte,p1,p2,p3,p4,p5,Az hk,Aw C has (by omega),CE,c0]
      exact bad (by rw [Bg,c0];rfl)
    | true =>
      obtain ⟨n,hn,hn'⟩:=Aa (hv _ (A9.1 c0))
      have hcls:Bg t l has loc k=(D1 l k && (decide ((t.at n).kind=3) && decide ((t.at n).loc=loc)) && decide (0≤(t.at n).thread) && (List.range k).all fun j=>AU t (l.getD k 0) (l.getD j 0)):=by
        unfold Bg HM
        rw [c0,hn,Int.toNat_natCast,Bool.true_and]
      have hris:D1 l k=(decide (k=0) || decide (l.getD (k - 1) 0 < (n:Int))):=by rw [D1,hn]
      rw [hn] at c0
      have tail:∀ (hr:D1 l k=true) (hx1:decide ((t.at n).kind=3)=true) (hx2:decide ((t.at n).loc=loc)=true) (hx3:decide ((t.at n).thread < 0)=false) (G:A4) (Q':Ex→A4→VH→Prop)
          (g1:A4.tmp G 1=lI l) (g2:A4.tmp G 2=lI has) (g3:A4.tmp G 3 = .i .i64 loc) (g4:A4.tmp G 4 = .fp (eT t) 0) (g9:A4.tmp G 9 = .i .i64 k) (g10:A4.tmp G 10 = .p 0 0 0 0) (g11:A4.tmp G 11 = .i .i64 0)
          (q1:∀ G' h',A4.tmp G' 1=lI l→A4.tmp G' 2=lI has→A4.tmp G' 3 = .i .i64 loc→A4.tmp G' 4 = .fp (eT t) 0→A4.tmp G' 9 = .i .i64 k→Bg t l has loc k=true→Q' .norm G' h') (q2:∀ G' h',A4.tmp G' 8 = .b false→Bg t l has loc k=false→Q' .ret G' h'),
          VL V EY 2 A9T G [some ⟨Cn,0,0,false,[eN (t.at n)]⟩] Q':=by
        intro hr hx1 hx2 hx3 G Q' g1 g2 g3 g4 g9 g10 g11 q1 q2
        have hx3':decide (0≤(t.at n).thread)=true:=by simp at hx3 ⊢;omega
        rw [hr,hx1,hx2,hx3'] at hcls
        simp only [Bool.and_self,Bool.true_and] at hcls
        refine Ai (by decide) k (by omega) (I:=fun j F h=>h=[some ⟨Cn,0,0,false,[eN (t.at n)]⟩]∧A4.tmp F 1=lI l∧A4.tmp F 2=lI has∧A4.tmp F 3 = .i .i64 loc∧A4.tmp F 4 = .fp (eT t) 0∧A4.tmp F 9 = .i .i64 k∧A4.tmp F 10 = .p 0 0 0 0∧∀ i,i < j→AU t (l.getD k 0) (l.getD i 0)=true) ?_ ?_ ?_ 0 _ _ (Nat.zero_le _) g11 ⟨rfl,g1,g2,g3,g4,g9,g10,fun i hi=>by omega⟩
        · rintro j F h hj r1 ⟨rfl, r2, r3, r4, r5, r6, r7, r8⟩
          simp only [EY,go_sem,↓reduceIte,r1,r2,r3,r4,r5,r6,r7]
          exact r8
        · rintro j F h hj r1 ⟨rfl, r2, r3, r4, r5, r6, r7, r8⟩
          have hjl:j < l.length:=by omega
          have c1:B2 has (l.getD j 0)=true:=by
            have:=p6 j hj
            unfold Bg at this
            simp only [Bool.and_eq_true] at this
            exact this.1.1.1.1
          obtain ⟨n2,hn2,hn2'⟩:=Aa (hv _ (A9.1 c1))
          have hsc:AU t (l.getD k 0) (l.getD j 0)=(D0 (t.at n) && D0 (t.at n2) && decide ((t.at n).val=(t.at n2).val) && AN t n n2):=by
            unfold AU;rw [hn,hn2,Int.toNat_natCast,Int.toNat_natCast]
          have bad2:AU t (l.getD k 0) (l.getD j 0)=false→Bg t l has loc k=false:=fun h=>by rw [hcls];exact BF hj h
          have good2:AU t (l.getD k 0) (l.getD j 0)=true→∀ i,i < j+1→AU t (l.getD k 0) (l.getD i 0)=true:=fun h i hi=>by
            by_cases e:i=j
            · rw [e];exact h
            · exact r8 i (by omega)
          cases y1:D0 (t.at n)<;>cases y2:D0 (t.at n2)<;>cases y3:decide ((t.at n).val=(t.at n2).val)<;>cases y4:AN t n n2<;>rw [y1,y2,y3,y4] at hsc <;>
            simp only [EY,go_sem,↓reduceIte,r1,r2,r3,r4,r5,r6,r7,Az hk,Az hjl,hn,hn2,A6 hn2',Tn C,Kd C t hu,y1,y2,y3,y4]
          all_goals first
            | exact q2 _ _ (by simp only [go_sem,↓reduceIte]) (bad2 hsc)
            | (have:=good2 hsc;rw [hn] at this;exact this)
        · rintro F h ⟨rfl, r2, r3, r4, r5, r6, r7, r8⟩
          exact q1 _ _ r2 r3 r4 r5 r6 (by rw [hcls];exact BG r8)
      have zb:(k=0∧decide ((0:Int) < (k:Int))=false)∨(0 < k∧decide ((0:Int) < (k:Int))=true):=by
        rcases Nat.eq_zero_or_pos k with h | h
        · exact .inl ⟨h,by simp [h]⟩
        · exact .inr ⟨h,by simp;omega⟩
      have hk1:k - 1 < l.length:=by omega
      rcases zb with ⟨zk,z0⟩ | ⟨zk,z0⟩
      · have hr : D1 l k = true := by rw [hris, zk]; rfl
        simp only [EY,go_sem,↓reduceIte,p1,p2,p3,p4,p5,Az hk,Aw C has (by omega),CE,hn,c0,z0,A6 hn']
        repeat' first
          | (refine Bx (fun hx=>?_) (fun hx=>?_)<;>simp only [EY,go_sem,↓reduceIte,p1,p2,p3,p4,p5,hx])
          | (refine B8 (fun hx=>?_) (fun hx=>?_)<;>simp only [EY,go_sem,↓reduceIte,p1,p2,p3,p4,p5,hx])
        all_goals first
          | exact bad (by rw [hcls];simp_all)
          | (refine tail hr (by simp_all) (by simp_all) (by assumption) _ _ ?_ ?_ ?_ ?_ ?_ ?_ ?_ ?_ ?_
             all_goals try simp only [go_sem,↓reduceIte,p1,p2,p3,p4,p5]
             · intro G' e1 e2 e3 e4 e5 e6
               simp only [e1,e2,e3,e4,e5,go_sem]
               exact good e6
             · intro G' h' e1 e2
               simp only [e1,go_sem,bad e2])
      · have zw := Hg zk (by omega)
        simp only [EY,go_sem,↓reduceIte,p1,p2,p3,p4,p5,Az hk,Az hk1,Aw C has (by omega),CE,hn,c0,z0,zw,A6 hn']
        repeat' first
          | (refine Bx (fun hx=>?_) (fun hx=>?_)<;>simp only [EY,go_sem,↓reduceIte,p1,p2,p3,p4,p5,Az hk,hn,hx,A6 hn'])
          | (refine B8 (fun hx=>?_) (fun hx=>?_)<;>simp only [EY,go_sem,↓reduceIte,p1,p2,p3,p4,p5,Az hk,hn,hx,A6 hn'])
        all_goals first
          | exact bad (by rw [hcls,hris];simp_all;try omega)
          | (refine tail (by rw [hris];simp_all) (by simp_all) (by simp_all) (by assumption) _ _ ?_ ?_ ?_ ?_ ?_ ?_ ?_ ?_ ?_
             all_goals try simp only [go_sem,↓reduceIte,p1,p2,p3,p4,p5]
             · intro G' e1 e2 e3 e4 e5 e6
               simp only [e1,e2,e3,e4,e5,go_sem]
               exact good e6
             · intro G' h' e1 e2
               simp only [e1,go_sem,bad e2])
  · rintro F h ⟨rfl, p2, p3, p4, p5, p6⟩
    simp only [EY,go_sem,↓reduceIte]
    rw [Cb,BG p6];simp [z]
  all_goals simp only [go_sem,↓reduceIte]
  all_goals first | rfl | (intro j hj;omega)
end
abbrev eLk (t:A2) (a:Int):List VV:=[.i .i64 t.vals,lS t.locs,.ls (t.regs.map J9),.ls (t.nodes.map eN),.i .i64 a]
abbrev LK (t:A2) (a:Int):Option VO:=some ⟨UN,0,0,false,[eLk t a]⟩
@[go_sem] theorem Aqr {α:Type} (r s:List α):(r++s)[r.length]? = s[0]?:=by
 rw [List.getElem?_append_right (Nat.le_refl _),Nat.sub_self]
@[go_sem] theorem And {α:Type} (r s:List α) (k:Nat):(r++s)[r.length+k]? = s[k]?:=by
 rw [List.getElem?_append_right (Nat.le_add_right _ _),Nat.add_sub_cancel_left]
@[go_sem] theorem Aqs {α:Type} (r s:List α) (x:α):(r++s).set r.length x=r++s.set 0 x:=by
 rw [List.set_append_right _ _ (Nat.le_refl _),Nat.sub_self]
@[go_sem] theorem Aqt {α:Type} (r s:List α) (k:Nat) (x:α):(r++s).set (r.length+k) x=r++s.set k x:=by
 rw [List.set_append_right _ _ (Nat.le_add_right _ _),Nat.add_sub_cancel_left]
@[go_sem] theorem Air {α:Type} (r s:List α):(r++s).take r.length=r:=by simp
@[go_sem] theorem Ais {α:Type} (r s:List α) (k:Nat):(r++s).take (r.length+k)=r++s.take k:=by rw [List.take_append,List.take_of_length_le (Nat.le_add_right _ _),Nat.add_sub_cancel_left]
@[go_sem] theorem AlS (L:Nat) (r s s':VH):MU L (r++s) (r++s')=MU L s s':=by
 induction r with
 | nil=>rfl
 | cons x r ih=>simp only [List.cons_append,A05,ih,true_or,true_and]
@[go_sem] theorem Akf (L:Nat) (r s':VH):MU L r (r++s')=True:=A06 L r s'
@[go_sem] theorem dz0:decide ((0:Int) < ((0:Nat):Int))=false:=rfl
@[go_sem] theorem Aqu (n:Nat):decide (0 < n+1)=true:=by simp
@[go_sem] theorem Aqv (n:Nat):decide (n < n+1)=true:=by simp
@[go_sem] theorem Aqw (n:Nat):decide (n < n+1+1)=true:=by simp;omega
@[go_sem] theorem Aqx (n:Nat):decide (n < n+1+1+1)=true:=by simp;omega
@[go_sem] theorem Aqy (n:Nat):decide (n < n+1+1+1+1)=true:=by simp;omega
@[go_sem] theorem Anz (n:Nat):decide (1 < n+1+1)=true:=by rw [decide_eq_true_iff];omega
@[go_sem] theorem AnA (n:Nat):decide (1 < n+1+1+1)=true:=by rw [decide_eq_true_iff];omega
@[go_sem] theorem AnB (n:Nat):decide (1 < n+1+1+1+1)=true:=by rw [decide_eq_true_iff];omega
@[go_sem] theorem AnC (n:Nat):decide (1 < n+1+1+1+1+1)=true:=by rw [decide_eq_true_iff];omega
@[go_sem] theorem AnD (n:Nat):decide (1 < n+1+1+1+1+1+1)=true:=by rw [decide_eq_true_iff];omega
@[go_sem] theorem AnE (n:Nat):decide (1 < n+1+1+1+1+1+1+1)=true:=by rw [decide_eq_true_iff];omega
@[go_sem] theorem AnF (n:Nat):decide (1 < n+1+1+1+1+1+1+1+1)=true:=by rw [decide_eq_true_iff];omega
@[go_sem] theorem AnG (n:Nat):decide (2 < n+1+1+1)=true:=by rw [decide_eq_true_iff];omega
@[go_sem] theorem AnH (n:Nat):decide (2 < n+1+1+1+1)=true:=by rw [decide_eq_true_iff];omega
@[go_sem] theorem AnI (n:Nat):decide (2 < n+1+1+1+1+1)=true:=by rw [decide_eq_true_iff];omega
@[go_sem] theorem AnJ (n:Nat):decide (2 < n+1+1+1+1+1+1)=true:=by rw [decide_eq_true_iff];omega
@[go_sem] theorem AnK (n:Nat):decide (2 < n+1+1+1+1+1+1+1)=true:=by rw [decide_eq_true_iff];omega
@[go_sem] theorem AnL (n:Nat):decide (2 < n+1+1+1+1+1+1+1+1)=true:=by rw [decide_eq_true_iff];omega
@[go_sem] theorem AnM (n:Nat):decide (3 < n+1+1+1+1)=true:=by rw [decide_eq_true_iff];omega
@[go_sem] theorem AnN (n:Nat):decide (3 < n+1+1+1+1+1)=true:=by rw [decide_eq_true_iff];omega
@[go_sem] theorem AnO (n:Nat):decide (3 < n+1+1+1+1+1+1)=true:=by rw [decide_eq_true_iff];omega
@[go_sem] theorem AnP (n:Nat):decide (3 < n+1+1+1+1+1+1+1)=true:=by rw [decide_eq_true_iff];omega
@[go_sem] theorem AnQ (n:Nat):decide (3 < n+1+1+1+1+1+1+1+1)=true:=by rw [decide_eq_true_iff];omega
@[go_sem] theorem AnR (n:Nat):decide (4 < n+1+1+1+1+1)=true:=by rw [decide_eq_true_iff];omega
@[go_sem] theorem AnS (n:Nat):decide (4 < n+1+1+1+1+1+1)=true:=by rw [decide_eq_true_iff];omega
@[go_sem] theorem AnT (n:Nat):decide (4 < n+1+1+1+1+1+1+1)=true:=by rw [decide_eq_true_iff];omega
@[go_sem] theorem AnU (n:Nat):decide (4 < n+1+1+1+1+1+1+1+1)=true:=by rw [decide_eq_true_iff];omega
@[go_sem] theorem AnV (n:Nat):decide (5 < n+1+1+1+1+1+1)=true:=by rw [decide_eq_true_iff];omega
@[go_sem] theorem AnW (n:Nat):decide (5 < n+1+1+1+1+1+1+1)=true:=by rw [decide_eq_true_iff];omega
@[go_sem] theorem AnX (n:Nat):decide (5 < n+1+1+1+1+1+1+1+1)=true:=by rw [decide_eq_true_iff];omega
@[go_sem] theorem AnY (n:Nat):decide (6 < n+1+1+1+1+1+1+1)=true:=by rw [decide_eq_true_iff];omega
@[go_sem] theorem AnZ (n:Nat):decide (6 < n+1+1+1+1+1+1+1+1)=true:=by rw [decide_eq_true_iff];omega
attribute [go_sem] Option.isSome_some List.cons_append List.append_assoc List.nil_append
theorem KD {xs:List (List ByteArray)} {k:Nat} (h:k < xs.length):xs[k]? = some (xs.getD k []):=by
 rw [List.getD_eq_getElem?_getD,List.getElem?_eq_getElem h];rfl
theorem Qr {xs:List ByteArray} {k:Nat} (h:k < xs.length):xs[k]? = some xs[k]:=List.getElem?_eq_getElem h
section
variable {V:Am} (C:Au V) {Q:VV→Prop}
include C
theorem Q6 (l:List ByteArray) (hl:l.length≤1000) (hn:l.Nodup):VP V WB [lS l] Q↔Q (.b false):=by
 refine Ad ?_
 rw [Ac C.c_z114.1 C.c_z114.2]
 simp only [A1g,Pp,go_sem,↓reduceIte]
 refine Ae (by decide) l.length (by omega) (I:=fun k F h=>h=[]∧A4.tmp F 5=lS l∧A4.tmp F 0=lS l) ?_ ?_ 0 _ _ (Nat.zero_le _) ?_ ?_ ?_
 ·rintro k F h hk h1 h2 ⟨rfl,h3,h4⟩
  have hx:((l.take k).any fun y=>decide (l[k]=y))=false:=by
   rw [List.any_eq_false]
   intro y hy e
   have e':l[k]=y:=by simpa using e
   obtain ⟨j,hj,ej⟩:=List.mem_iff_getElem.1 hy
   rw [List.getElem_take] at ej
   rw [List.length_take] at hj
   have:=(List.getElem_inj hn).1 (ej.trans e'.symm)
   omega
  have hk':k≤l.length:=by omega
  simp only [Pp,go_sem,↓reduceIte,h1,h2,h3,h4,Qr hk,hk',Em C (l.take k) _ (by simp;omega),hx,Int.toNat_natCast]
 ·rintro F h ⟨rfl,h3,h4⟩
  simp only [Pp,go_sem,↓reduceIte]
 all_goals simp only [go_sem,↓reduceIte]
 all_goals rfl
theorem Hv (t:A2) (a n:Int):VP V X1 [.fp (eLk t a) 0,.i .i64 n] Q↔Q (.b (Gm t n)):=by
 refine Ad ?_
 rw [Ac C.c_z153.1 C.c_z153.2]
 unfold Gm
 cases c0:decide (0≤n)<;>simp only [A1D,VU,go_sem,↓reduceIte,c0]
theorem Lw (t:A2) (a n:Int):VP V XC [.fp (eLk t a) 0,.i .i64 n] Q↔Q (.b (KI t n)):=by
 refine Ad ?_
 rw [Ac C.c_z205.1 C.c_z205.2]
 unfold KI
 cases c0:decide (0≤n)<;>simp only [A2f,Wg,go_sem,↓reduceIte,c0]
theorem EW (t:A2) (a u:Nat) (hu:u < t.nodes.length):VP V Xp [.fp (eLk t a) 0,.i .i64 u] Q↔Q (.b (BY t a u)):=by
 refine Ad ?_
 rw [Ac C.c_z187.1 C.c_z187.2]
 unfold BY
 by_cases ha:a < t.nodes.length
 ·have ha':(a:Int) < t.nodes.length:=by omega
  cases c0:decide ((t.at a).up=u)<;>simp only [Vg,RO,go_sem,↓reduceIte,ha,ha',A6 ha,A6 hu,c0,Int.toNat_natCast]
 ·have ha':¬ (a:Int) < t.nodes.length:=by omega
  simp only [Vg,RO,go_sem,↓reduceIte,ha,ha']
theorem A2F (t:A2) (a n:Int):VP V S5 [.i .i64 n,.fp [.fp (eLk t a) 0] 0] Q↔Q (.b (!Gm t n)):=by
 refine Ad ?_
 rw [Ac C.c_z189.1 C.c_z189.2]
 simp only [A22,W9,go_sem,↓reduceIte,Hv C]
def Af1 (V:Am) (t:A2) (u e:Nat):Prop:=∀ (a:Int) (r:VH),Hj V X2 [.p 0 0 0 0,.i .i64 u] (LK t a::r) fun v h=>v = .b true∧h=LK t e::r
theorem Zw (t:A2) (hn:t.nodes.length≤64) (u e:Nat) (hu:u+1 < t.nodes.length) (ha:DA t u=true) (hb:Af1 V t (u+1) e) (r:VH) :
  Hj V Xr [.p 0 0 0 0,.i .i64 u] (LK t ((u+1:Nat):Int)::r) fun v h=>v = .b true∧h=LK t e::r:=by
 rw [CN C.h_z190]
 have hu0:u < t.nodes.length:=by omega
 have hq:=fun (r:VH) Q=>G8 (hb ((u+1:Nat):Int) r) (Q:=Q)
 unfold DA at ha
 simp only [Bool.or_eq_true,Bool.and_eq_true,decide_eq_true_eq] at ha
 rcases ha with ⟨⟨⟨⟨⟨h1,h2⟩,h3⟩,h4⟩,h5⟩,h6⟩ | ⟨⟨⟨h1,h2⟩,h3⟩,h4⟩
 ·have h4':(t.at (u+1)).rmw=false:=by simpa using h4
  have h5':0≤(t.at (u+1)).mode:=by omega
  have h7:¬ (t.at (u+1)).mode=0:=by omega
  simp only [Rr,LA,go_sem,↓reduceIte,A6 hu,A6 hu0,Int.toNat_natCast,h1,h2,h3,h4',h5',h6,h7,hq,A0]
 ·have h1':¬ (t.at (u+1)).kind=4:=by omega
  cases hr:(t.at (u+1)).rmw with
  | true =>
   rw [hr] at h4
   simp only [if_true,Bool.and_eq_true,decide_eq_true_eq] at h4
   obtain ⟨⟨⟨⟨g1,g2⟩,g3⟩,g4⟩,g5⟩:=h4
   simp only [Rr,LA,go_sem,↓reduceIte,A6 hu,A6 hu0,Int.toNat_natCast,h1,h1',hr,Lw C,Hv C,h2,h3,g1,g2,g3,g4,g5,hq,A0,Int.reduceEq]
  | false =>
   rw [hr] at h4
   simp only [Bool.false_eq_true,if_false,Bool.or_eq_true,decide_eq_true_eq] at h4
   have g1:0≤(t.at (u+1)).mode:=by omega
   have g2:(t.at (u+1)).mode≤4:=by omega
   rcases h4 with (h4 | h4) | h4 <;>
   simp only [Rr,LA,go_sem,↓reduceIte,A6 hu,A6 hu0,Int.toNat_natCast,h1,h1',hr,Lw C,Hv C,h2,h3,g1,g2,h4,hq,A0,Int.reduceEq,Int.reduceLE]
theorem A2G (t:A2) (hn:t.nodes.length≤64) (u e:Nat) (hu:u < t.nodes.length) (vals:Nat) (k:Nat→Nat) (loc mode:Int) (hv:t.vals=vals) (hv0:0 < vals) (hv1:vals≤4) (hk0:k 0=u+1) (hke:k vals=e) (hl:KI t loc=true)
  (hs:∀ v,v < vals→BY t (k v) u=true∧EK t (k v) v loc mode=true∧Af1 V t (k v) (k (v+1)))
  (hm:(mode=0∨mode=1∨mode=4)∨(0≤mode∧mode≤4∧∃ v,v < vals∧G3 t (k v)=true)) (r:VH) :
  Hj V Xs [.p 0 0 0 0,.i .i64 u] (LK t ((u+1:Nat):Int)::r) fun v h=>v = .b true∧h=LK t e::r:=by
 rw [CN C.h_z191]
 have h0:=hs 0 hv0
 rw [hk0] at h0
 obtain ⟨c0,s0,_⟩:=h0
 have hu1:u+1 < t.nodes.length:=by
  unfold BY at c0
  simp only [Bool.and_eq_true,decide_eq_true_eq] at c0
  omega
 simp only [EK,Bool.and_eq_true,decide_eq_true_eq] at s0
 obtain ⟨⟨⟨⟨g1,g2⟩,g3⟩,g4⟩,g5⟩:=s0
 simp only [A23,Hw,go_sem,↓reduceIte,A6 hu1,Int.toNat_natCast,hv]
 refine Ae (by decide) vals (by omega) (I:=fun v F h=>h=LK t (k v)::(r++[some ⟨Cn,0,0,false,[eN (t.at (u+1))]⟩])∧A4.tmp F 0 = .p 0 0 0 0∧A4.tmp F 1 = .i .i64 u∧A4.tmp F 5 = .p (r.length+1) 0 0 0∧A4.tmp F 6 = .b ((List.range v).any fun j=>G3 t (k j))) ?_ ?_ 0 _ _ (Nat.zero_le _) ?_ ?_ ?_
 ·rintro v F h hv2 p1 p2 ⟨rfl,p3,p4,p5,p6⟩
  obtain ⟨c1,s1,b1⟩:=hs v hv2
  have hq:=fun (r:VH) Q=>G8 (b1 (k v) r) (Q:=Q)
  have hkv:k v < t.nodes.length:=by
   unfold BY at c1
   simp only [Bool.and_eq_true,decide_eq_true_eq] at c1
   omega
  simp only [EK,Bool.and_eq_true,decide_eq_true_eq] at s1
  obtain ⟨⟨⟨⟨q1,q2⟩,q3⟩,q4⟩,q5⟩:=s1
  have q5':(t.at (k v)).rmw=false:=by simpa using q5
  have w1:=Gp (show k v < 9223372036854775807 by omega)
  have hany:((List.range (v+1)).any fun j=>G3 t (k j))=(((List.range v).any fun j=>G3 t (k j)) || G3 t (k v)):=by
   rw [List.range_succ,List.any_append];simp
  rw [hany]
  clear hany
  generalize ((List.range v).any fun j=>G3 t (k j))=B at *
  by_cases z1:k v+1 < t.nodes.length
  ·have z1':((k v+1:Nat):Int) < (t.nodes.length:Int):=by omega
   have z2:decide (k v+1 < t.nodes.length)=true:=by simp [z1]
   unfold G3
   rw [z2]
   cases z3:decide ((t.at (k v+1)).up=(k v:Int))<;>cases B <;>
    simp only [Vw,Hw,go_sem,↓reduceIte,p1,p2,p3,p4,p5,p6,EW C t _ u hu,c1,A6 hkv,A6 hu1,A6 z1,Int.toNat_natCast,q1,q2,q3,q4,q5',g1,g3,g4,hq,w1,z1',z3,List.length_append]
  ·have z1':¬ ((k v+1:Nat):Int) < (t.nodes.length:Int):=by omega
   have z2:decide (k v+1 < t.nodes.length)=false:=by simp [z1]
   unfold G3
   rw [z2]
   simp only [Vw,Hw,go_sem,↓reduceIte,p1,p2,p3,p4,p5,p6,EW C t _ u hu,c1,A6 hkv,A6 hu1,Int.toNat_natCast,q1,q2,q3,q4,q5',g1,g3,g4,hq,w1,z1']
 ·rintro F h ⟨rfl,p3,p4,p5,p6⟩
  rw [hke]
  rcases hm with hm | ⟨hm1,hm2,v,hv2,hm3⟩
  ·rcases hm with (hm | hm | hm) <;>
   simp only [Hw,go_sem,↓reduceIte,p3,p4,p5,p6,g3,g4,hm,Lw C,hl,Int.reduceEq]
  ·have hany:((List.range vals).any fun j=>G3 t (k j))=true:=YD hv2 hm3
   rw [hany] at p6
   cases m0:decide (mode=0)<;>cases m1:decide (mode=1)<;>cases m2:decide (mode=4) <;>
   simp only [Hw,go_sem,↓reduceIte,p3,p4,p5,p6,g3,g4,hm1,hm2,m0,m1,m2,Lw C,hl,Int.reduceEq]
 all_goals simp only [go_sem,↓reduceIte]
 ·rfl
 ·simp only [hk0,eN,g1,g2,g3,g4,List.range_zero,List.any_nil,go_sem]
theorem Ta (t:A2) (hn:t.nodes.length≤64) (h4:t.vals≤4) (hr:∀ l∈t.regs,l.length≤1000):∀ n u e,J5 t n u e→Af1 V t u e:=by
 intro n
 induction n with
 | zero=>intro u e h;exact h.elim
 | succ n ih =>
  intro u e hb a r
  obtain ⟨⟨hu,ht0,ht1⟩,hb⟩:=hb
  rw [CN C.h_z154]
  have w1:=Gp (show u < 9223372036854775807 by omega)
  obtain ⟨th,hth⟩:=Int.eq_ofNat_of_zero_le ht0
  have ht1':th < t.regs.length:=by omega
  rcases hb with ⟨c0,e0,rfl⟩ | ⟨c0,f0,r0,a0,b0⟩ | ⟨c0,f0,r0,vals,k,loc,mode,hv,hv0,hk0,hke,hl,hs,hm⟩
  ·simp only [A3X,Bool.and_eq_true,decide_eq_true_eq] at e0
   obtain ⟨⟨g1,g2⟩,g3⟩:=e0
   rw [hth,Int.toNat_natCast] at g2
   have hall:((t.at u).regs.any fun v=>!Gm t v)=false:=by
    rw [List.any_eq_false]
    intro x hx
    rw [List.all_eq_true] at g3
    simp [g3 x hx]
   have hrl:(t.regs.getD th []).length≤1000:=by
    by_cases z:th < t.regs.length
    ·exact hr _ (Ap z)
    ·omega
   have hcf:=fun (a:Int) Q=>EL C (t.at u).regs (by omega) (g:=S5) (a:=[]) (c:=[.fp [.fp (eLk t a) 0] 0]) Fz.nil (fun _ _=>rfl) (fun x=>!Gm t x) (fun x=>(A2F C t a x).2 rfl) (Q:=Q)
   simp only [Rl,Lz,go_sem,↓reduceIte,w1,EW C t _ u hu,c0,A6 hu,Int.toNat_natCast,g1,g2,hth,KD ht1',hcf,hall]
  ·have hu1:u+1 < t.nodes.length:=by
    unfold BY at c0
    simp only [Bool.and_eq_true,decide_eq_true_eq] at c0
    omega
   have hq:=fun (r:VH) Q=>G8 (Zw C t hn u e hu1 a0 (ih _ _ b0) r) (Q:=Q)
   have hk2:¬ (t.at (u+1)).kind=2:=by
    unfold DA at a0
    simp only [Bool.or_eq_true,Bool.and_eq_true,decide_eq_true_eq] at a0
    rcases a0 with ⟨⟨⟨⟨⟨h1,h2⟩,h3⟩,h4⟩,h5⟩,h6⟩ | ⟨⟨⟨h1,h2⟩,h3⟩,h4⟩<;>omega
   simp only [Rl,Lz,go_sem,↓reduceIte,w1,EW C t _ u hu,c0,A6 hu,A6 hu1,Int.toNat_natCast,f0,r0,hk2,hq]
  ·have h0:=hs 0 hv0
   rw [hk0] at h0
   have hu1:u+1 < t.nodes.length:=by
    unfold BY at c0
    simp only [Bool.and_eq_true,decide_eq_true_eq] at c0
    omega
   have hk2:(t.at (u+1)).kind=2:=by
    have:=h0.2.1
    simp only [EK,Bool.and_eq_true,decide_eq_true_eq] at this
    exact this.1.1.1.1
   have hq:=fun (r:VH) Q=>G8 (A2G C t hn u e hu vals k loc mode hv hv0 (by omega) hk0 hke hl (fun v hv=>⟨(hs v hv).1,(hs v hv).2.1,ih _ _ (hs v hv).2.2⟩) hm r) (Q:=Q)
   simp only [Rl,Lz,go_sem,↓reduceIte,w1,EW C t _ u hu,c0,A6 hu,A6 hu1,Int.toNat_natCast,f0,r0,hk2,hq]
theorem Zx (t:A2) (hn:t.nodes.length≤64) (hl:t.locs.length≤t.nodes.length) (hi:∀ i,i < t.locs.length→JH t i=true) (r:VH) :
  Hj V WD [.p 0 0 0 0] (LK t 0::r) fun v h=>v = .b true∧h=LK t t.locs.length::r:=by
 rw [CN C.h_z115]
 simp only [A1h,Lx,go_sem,↓reduceIte]
 unfold VL
 rw [A0]
 refine AW (M:=Nat) (I:=fun k F h=>k≤t.locs.length∧h=LK t (k:Int)::r∧A4.tmp F 0 = .p 0 0 0 0) (μ:=fun k=>t.locs.length - k) ?_ 0 _ _ ⟨Nat.zero_le _,rfl,?_⟩
 ·rintro k F h ⟨hk,rfl,p1⟩
  by_cases hkl:k < t.locs.length
  ·have hkl':(k:Int) < t.locs.length:=by omega
   have hkn:k < t.nodes.length:=by omega
   have hkn':¬ (t.nodes.length:Int)≤k:=by omega
   have w1:=Gp (show k < 9223372036854775807 by omega)
   have:=hi k hkl
   unfold JH at this
   simp only [Bool.and_eq_true,decide_eq_true_eq] at this
   obtain ⟨⟨⟨⟨⟨⟨⟨⟨g1,g2⟩,g3⟩,g4⟩,g5⟩,g6⟩,g7⟩,g8⟩,g9⟩:=this
   have g7':(t.at k).rmw=false:=by simpa using g7
   have g8':(t.at k).fin=false:=by simpa using g8
   simp only [Vu,Lx,go_sem,↓reduceIte,p1,hkl',hkn',A6 hkn,Int.toNat_natCast,g1,g2,g3,g4,g5,g6,g7',g8',g9,Hv C,w1,A0]
   exact ⟨k+1,by omega,by omega,rfl⟩
  ·have hke:k=t.locs.length:=by omega
   subst hke
   simp only [Vu,Lx,go_sem,↓reduceIte,p1,A0]
 all_goals simp only [go_sem,↓reduceIte]
theorem Tb (t:A2) (hn:t.nodes.length≤64) (h4:t.vals≤4) (hr:∀ l∈t.regs,l.length≤1000) (hr4:t.regs.length≤4) (s:Nat→Nat) (hs0:s 0=t.locs.length) (hse:s t.regs.length=t.nodes.length)
  (hs:∀ i,i < t.regs.length→ET t (s i) i=true∧∃ n,J5 t n (s i) (s (i+1))) (r:VH) :
  Hj V WE [.p 0 0 0 0] (LK t t.locs.length::r) fun v h=>v = .b true∧h=LK t t.nodes.length::r:=by
 rw [CN C.h_z116]
 simp only [A1i,Ly,go_sem,↓reduceIte]
 refine Ae (by decide) t.regs.length (by omega) (I:=fun i F h=>h=LK t (s i)::r∧A4.tmp F 0 = .p 0 0 0 0) ?_ ?_ 0 _ _ (Nat.zero_le _) ?_ ?_ ?_
 ·rintro i F h hi h1 h2 ⟨rfl,p1⟩
  obtain ⟨b0,nn,b1⟩:=hs i hi
  have hu:s i < t.nodes.length:=by
   cases nn with
   | zero=>exact b1.elim
   | succ nn=>exact b1.1.1
  have hu':¬ (t.nodes.length:Int)≤s i:=by omega
  have hq:=fun (r:VH) Q=>G8 (Ta C t hn h4 hr _ _ _ b1 (s i) r) (Q:=Q)
  unfold ET at b0
  simp only [Bool.and_eq_true,decide_eq_true_eq] at b0
  obtain ⟨⟨⟨⟨⟨⟨g1,g2⟩,g3⟩,g4⟩,g5⟩,g6⟩,g7⟩:=b0
  have g7':(t.at (s i)).rmw=false:=by simpa using g7
  simp only [A4o,Ly,go_sem,↓reduceIte,h1,h2,p1,hu',A6 hu,Int.toNat_natCast,g1,g2,g3,g4,g5,g6,g7',hq]
 ·rintro F h ⟨rfl,p1⟩
  rw [hse]
  simp only [Ly,go_sem,↓reduceIte,p1]
 all_goals simp only [go_sem,↓reduceIte,hs0]
 all_goals rfl
theorem Pl (t:A2) (h:A8 t):VP V ZW [vT t] Q↔Q (.b true):=by
 refine Ad ?_
 rw [Ac C.c_z70.1 C.c_z70.2]
 have a1:=h.v2
 have a2:=h.v4
 have a3:=h.l4
 have a4:=h.n64
 have a5:=h.r1
 have a6:=h.r4
 have b1:¬ t.vals < 2:=by omega
 have b2:¬ 4 < t.vals:=by omega
 have b3:¬ (4:Int) < t.locs.length:=by omega
 have b4:¬ (64:Int) < t.nodes.length:=by omega
 have b5:¬ (t.regs.length:Int) < 1:=by omega
 have b6:¬ (4:Int) < t.regs.length:=by omega
 obtain ⟨s,s0,se,hs⟩:=h.thr
 have hrl:∀ l∈t.regs,l.length≤1000:=fun l hl=>by have:=(h.rl l hl).1;omega
 have q1:=fun (r:VH) Q=>G8 (Zx C t h.n64 h.first.1 h.first.2 r) (Q:=Q)
 have q2:=fun (r:VH) Q=>G8 (Tb C t h.n64 h.v4 hrl h.r4 s s0 se hs r) (Q:=Q)
 simp only [A9r,U7,go_sem,↓reduceIte,b1,b2,b3,b4,b5,b6,Q6 C t.locs (by omega) h.ln]
 refine Ae (by decide) t.regs.length (by omega) (I:=fun i F h=>h=[]∧A4.tmp F 1 = .fp (eT t) 0∧A4.tmp F 42 = .ls (t.regs.map J9)) ?_ ?_ 0 _ _ (Nat.zero_le _) ?_ ?_ ?_
 ·rintro i F hh hi h1 h2 ⟨rfl,p1,p2⟩
  have hm:=h.rl _ (Ap (d:=[]) hi)
  have hb:¬ (4:Int) < (t.regs.getD i []).length:=by omega
  simp only [A9S,U7,go_sem,↓reduceIte,h1,h2,p1,p2,KD hi,hb,Q6 C (t.regs.getD i []) (by omega) hm.2]
 ·rintro F hh ⟨rfl,p1,p2⟩
  simp only [U7,go_sem,↓reduceIte,p1,q1,q2]
 all_goals simp only [go_sem,↓reduceIte]
 all_goals rfl
end
attribute [go_sem] Int.reduceLE Int.reduceLT Int.reduceEq Int.reduceToNat Int.reduceNeg Int.le_refl Int.toNat_natCast Int.cast_ofNat_Int
section
variable {V:Am} (C:Au V) {Q:VV→Prop}
include C
theorem Un (v n:Int) (h1:1≤n) (h2:n≤2147483648):VP V Xk [.i .i64 v,.i .i64 n] Q↔Q (.i .i64 (v % n)):=by
 refine Ad ?_
 rw [Ac C.c_z178.1 C.c_z178.2]
 have c1:¬ n < 1:=by omega
 have c2:¬ 2147483648 < n:=by omega
 obtain ⟨t1,t2⟩:=Aec (v:=v) (show 0 < n by omega)
 by_cases c:v.tmod n < 0
 ·obtain ⟨t3,t4⟩:=t1 c
  have w:IntKind.i64.wrap (v.tmod n+n)=v % n:=by rw [AC (by omega) (by omega),t3]
  simp only [Vf,RN,go_sem,↓reduceIte,c1,c2,G6 (show n≠0 by omega),c,w]
 ·have c':¬ v % n < 0:=by rw [← t2 c];exact c
  simp only [Vf,RN,go_sem,↓reduceIte,c1,c2,G6 (show n≠0 by omega),t2 c,c']
theorem El (xs:List ByteArray) (n:ByteArray) (hl:xs.length≤1000):VP V Xh [lS xs,.s n] Q↔Q (.i .i64 (D3 (fun y=>decide (n=y)) xs)):=by
 refine Ad ?_
 rw [Ac C.c_z175.1 C.c_z175.2]
 simp only [A1T,KO,go_sem,↓reduceIte]
 refine Ai (by decide) xs.length (by omega) (I:=fun k F h=>h=[]∧A4.tmp F 0=lS xs∧A4.tmp F 1 = .s n∧∀ (j:Nat) (hj:j < xs.length),j < k→¬ n=xs[j]) ?_ ?_ ?_ 0 _ _ (Nat.zero_le _) ?_ ?_
 ·rintro k F h hk p1 ⟨rfl,p2,p3,p4⟩
  simp only [KO,go_sem,↓reduceIte,p1,p2,p3]
  exact p4
 ·rintro k F h hk p1 ⟨rfl,p2,p3,p4⟩
  by_cases e:xs[k]=n
  ·simp only [KO,go_sem,↓reduceIte,p1,p2,p3,Qr hk,e]
   rw [DD hk (by simp [e]) fun j hj=>by simpa using p4 j (by omega) hj]
  ·simp only [KO,go_sem,↓reduceIte,p1,p2,p3,Qr hk,e]
   intro j hj hjk
   by_cases e2:j=k
   ·subst e2;exact fun h=>e h.symm
   ·exact p4 j hj (by omega)
 ·rintro F h ⟨rfl,p2,p3,p4⟩
  simp only [KO,go_sem,↓reduceIte]
  rw [E4 fun x hx=>by obtain ⟨j,hj,e⟩:=List.mem_iff_getElem.1 hx;rw [← e];simpa using p4 j hj hj]
 all_goals simp only [go_sem,↓reduceIte]
 all_goals first | rfl | (intro j hj hjk;omega)
theorem D9 (xs:List ByteArray) (n:ByteArray) (hl:xs.length≤1000):VP V Xd [lS xs,.s n] Q↔Q (.b (xs.any fun y=>decide (n=y))):=by
 refine Ad ?_
 rw [Ac C.c_z169.1 C.c_z169.2]
 simp only [A1O,W5,go_sem,↓reduceIte,El C xs n hl,Lm]
theorem Y1 (r:List VV) (h:GE r):VP V XH [.ag r] fun x=>∃ k:Int,x = .i .i64 k:=by
 induction h with
 | mk op n nm kids hl hk ih =>
  rw [Ac C.c_z210.1 C.c_z210.2]
  simp only [A2k,HV,go_sem,↓reduceIte]
  by_cases ho:op=1∨op=2
  ·unfold VL
   rw [A0]
   refine AW (M:=Nat) (I:=fun k F h=>h=[]∧A4.tmp F 1 = .fp [.i .i64 op,.i .i64 n,.s nm,.ls kids] 0∧A4.tmp F 4 = .i .i64 0∧A4.tmp F 3 = .i .i64 0) (μ:=fun k=>k) ?_ 0 _ _ ⟨rfl,?_,?_,?_⟩
   ·rintro k F h ⟨rfl,p1,p2,p3⟩
    cases c0:decide ((0:Int) < kids.length)<;>rcases ho with ho | ho <;>
     simp only [A4r,HV,go_sem,↓reduceIte,p1,p2,p3,c0,ho,Int.reduceEq,A0]<;>exact ⟨_,rfl⟩
   all_goals simp only [go_sem,↓reduceIte]
  ·have o1:¬ op=1:=fun h=>ho (.inl h)
   have o2:¬ op=2:=fun h=>ho (.inr h)
   refine Ai (by decide) kids.length (by omega) (I:=fun k F h=>h=[]∧A4.tmp F 1 = .fp [.i .i64 op,.i .i64 n,.s nm,.ls kids] 0∧∃ d:Int,A4.tmp F 3 = .i .i64 d) ?_ ?_ ?_ 0 _ _ (Nat.zero_le _) ?_ ?_
   ·rintro k F h hk' p1 ⟨rfl,p2,d,p3⟩
    cases c0:decide ((k:Int) < kids.length)
    ·have:decide (k < kids.length)=false:=by simp at c0 ⊢;omega
     simp only [HV,go_sem,↓reduceIte,p1,p2,p3,o1,o2,c0,this]
     try exact ⟨d,rfl⟩
    ·have:decide (k < kids.length)=true:=by simp at c0 ⊢;omega
     simp only [HV,go_sem,↓reduceIte,p1,p2,p3,o1,o2,c0,this]
     try exact ⟨d,rfl⟩
   ·rintro k F h hk' p1 ⟨rfl,p2,d,p3⟩
    have hg:=hk _ (List.getElem_mem hk')
    simp only [HV,go_sem,↓reduceIte,p1,p2,p3,T8 hk',hg.len,hg.take,hg.frz]
    refine (ih _ (List.getElem_mem hk')).mono ?_
    rintro _ ⟨e,rfl⟩
    cases c0:decide (d < e) <;>
    simp only [HV,go_sem,↓reduceIte,p1,p2,p3,c0]<;>exact ⟨_,rfl⟩
   ·rintro F h ⟨rfl,p2,d,p3⟩
    simp only [HV,go_sem,↓reduceIte,p3]
    try exact ⟨_,rfl⟩
   all_goals simp only [go_sem,↓reduceIte]
   all_goals first | rfl | exact ⟨_,rfl⟩
theorem Y2 (regs:List ByteArray) (vals:List Int) (hr:regs.length≤1000) (hl:vals.length=regs.length) (n:Int) (h1:2≤n) (h2:n≤2147483648) (r:List VV) (h:GE r) :
  VP V XI [.ag r,lS regs,lI vals,.i .i64 n] fun x=>∃ (k:Int) (b:Bool),x = .tu [.i .i64 k,.b b]∧0≤k∧k < n:=by
 have hin:∀ v:Int,0≤v % n∧v % n < n:=fun v=>⟨Int.emod_nonneg v (by omega),Int.emod_lt_of_pos v (by omega)⟩
 have q5:=fun v Q=>Un C v n (by omega) h2 (Q:=Q)
 induction h with
 | mk op m nm kids hkl hk ih =>
  rw [Ac C.c_z211.1 C.c_z211.2]
  by_cases o1:op=1
  ·simp only [JF,Dq,go_sem,↓reduceIte,o1,A0,q5]
   exact ⟨_,_,rfl,hin m⟩
  by_cases o2:op=2
  ·cases c0:regs.any fun y=>decide (nm=y) with
   | false =>
    have e:=Rc c0
    simp only [JF,Dq,go_sem,↓reduceIte,o2,A0,q5,Int.reduceEq,El C regs nm hr,e,Int.reduceLT,Int.reduceNeg]
    exact ⟨_,_,rfl,by omega,by omega⟩
   | true =>
    obtain ⟨k,e,hk',_⟩:=Jc c0
    have hk2:k < vals.length:=by omega
    have hk3:¬ (k:Int) < 0:=by omega
    simp only [JF,Dq,go_sem,↓reduceIte,o2,A0,q5,Int.reduceEq,El C regs nm hr,e,hk3,Az hk2]
    exact ⟨_,_,rfl,hin _⟩
  by_cases o3:op < 3
  ·simp only [JF,Dq,go_sem,↓reduceIte,o1,o2,o3,A0]
   exact ⟨_,_,rfl,by omega,by omega⟩
  by_cases o4:6 < op
  ·simp only [JF,Dq,go_sem,↓reduceIte,o1,o2,o3,o4,A0]
   exact ⟨_,_,rfl,by omega,by omega⟩
  by_cases o5:(kids.length:Int)=2
  ·obtain ⟨a,b,rfl⟩:∃ a b,kids=[a,b]:=by
    rcases kids with _ | ⟨a,_ | ⟨b,_ | ⟨c,l⟩⟩⟩
    ·simp at o5
    ·simp at o5
    ·exact ⟨a,b,rfl⟩
    ·simp at o5;omega
   have ga:=hk a (by simp)
   have gb:=hk b (by simp)
   simp only [JF,Dq,go_sem,↓reduceIte,o1,o2,o3,o4,o5,A0,ga.len,ga.take,ga.frz,gb.len,gb.take,gb.frz,Int.reduceEq,Int.cast_ofNat_Int]
   refine (ih a (by simp)).mono ?_
   rintro _ ⟨ka,ba,rfl,_,_⟩
   simp only [Dq,go_sem,↓reduceIte,gb.len,gb.take,gb.frz]
   refine (ih b (by simp)).mono ?_
   rintro _ ⟨kb,bb,rfl,_,_⟩
   have hop:op=3∨op=4∨op=5∨op=6:=by omega
   cases ba with
   | false =>
    simp only [Dq,go_sem,↓reduceIte]
    exact ⟨_,_,rfl,by omega,by omega⟩
   | true =>
    cases bb with
    | false =>
     simp only [Dq,go_sem,↓reduceIte]
     exact ⟨_,_,rfl,by omega,by omega⟩
    | true =>
     rcases hop with rfl | rfl | rfl | rfl
     ·simp only [Dq,go_sem,↓reduceIte,A0,q5,Int.reduceEq]
      exact ⟨_,_,rfl,hin _⟩
     ·simp only [Dq,go_sem,↓reduceIte,A0,q5,Int.reduceEq]
      exact ⟨_,_,rfl,hin _⟩
     ·cases c0:decide (ka=kb) <;>
      simp only [Dq,go_sem,↓reduceIte,A0,q5,Int.reduceEq,c0] <;>
      exact ⟨_,_,rfl,by omega,by omega⟩
     ·cases c0:decide (ka < kb) <;>
      simp only [Dq,go_sem,↓reduceIte,A0,q5,Int.reduceEq,c0] <;>
      exact ⟨_,_,rfl,by omega,by omega⟩
  ·simp only [JF,Dq,go_sem,↓reduceIte,o1,o2,o3,o4,o5,A0]
   exact ⟨_,_,rfl,by omega,by omega⟩
theorem E5 (regs:List ByteArray) (vals:List Int) (hr:regs.length≤1000) (hl:vals.length=regs.length) (n:Int) (h1:2≤n) (h2:n≤4) (r:List VV) (h:GE r) :
  VP V S7 [.ag r,lS regs,lI vals,.i .i64 n] fun x=>∃ (k:Int) (b:Bool),x = .tu [.i .i64 k,.b b]∧0≤k∧k < n:=by
 have c1:¬ n < 2:=by omega
 have c2:¬ 4 < n:=by omega
 have c3:(regs.length:Int)=vals.length:=by omega
 rw [Ac C.c_z199.1 C.c_z199.2]
 have hb:∀ L,CT L r=true:=fun L=>by cases h;rfl
 simp only [A2a,MF,go_sem,↓reduceIte,c1,c2,c3,h.len,h.take,h.frz,h.cell]
 refine (Y1 C r h).mono ?_
 rintro _ ⟨k,rfl⟩
 cases c0:decide (6 < k) with
 | true =>
  simp only [MF,go_sem,↓reduceIte,c0]
  exact ⟨_,_,rfl,by omega,by omega⟩
 | false =>
  simp only [MF,go_sem,↓reduceIte,c0,h.len,h.take,h.frz]
  refine (Y2 C regs vals hr hl n h1 (by omega) r h).mono ?_
  rintro _ ⟨k,b,rfl,hk⟩
  simp only [MF,go_sem,↓reduceIte]
  exact ⟨_,_,rfl,hk⟩
theorem Ck (k:Int):VP V Xx [.i .i64 k] Q↔Q (.b (H9 k)):=by
 refine Ad ?_
 rw [Ac C.c_z198.1 C.c_z198.2]
 unfold H9
 cases c1:decide (k=1)<;>cases c2:decide (k=2)<;>cases c3:decide (k=4) <;>
 simp only [A29,We,go_sem,↓reduceIte,c1,c2,c3]
def A7G (V:Am) (l:List (List VV)):Prop:=∀ out:List ByteArray,out.Nodup→(∀ n∈out,n∈N4)→VP V Pz [lS out,.ls l] fun x=>∃ o:List ByteArray,x=lS o∧o.Nodup∧(∀ n∈out,n∈o)∧(∀ n∈o,n∈N4)∧∀ r∈l,RI o r
omit C in
theorem PD {o:List ByteArray} (h:o.Nodup) (h4:∀ n∈o,n∈N4):o.length≤4:=List.Nodup.length_le_of_subset h h4
theorem HY (l:List (List VV)) (hl:l.length≤1000) (hs:∀ s∈l,∃ kind mode reg loc args th el,s=rS kind mode reg loc args th el∧(H9 kind=true→reg∈N4)∧A7G V th∧A7G V el):A7G V l:=by
 intro out hn h4
 rw [Ac C.c_z173.1 C.c_z173.2]
 simp only [A1S,DW,go_sem,↓reduceIte]
 refine Ai (by decide) l.length (by omega) (I:=fun k F h=>h=[]∧A4.tmp F 1 = .ls l∧∃ o:List ByteArray,A4.tmp F 0=lS o∧o.Nodup∧(∀ n∈out,n∈o)∧(∀ n∈o,n∈N4)∧∀ j (hj:j < l.length),j < k→RI o l[j]) ?_ ?_ ?_ 0 _ _ (Nat.zero_le _) ?_ ?_
 ·rintro k F h hk p1 ⟨rfl,p2,o,p3,p4⟩
  simp only [DW,go_sem,↓reduceIte,p1,p2,p3]
  exact ⟨o,rfl,p4⟩
 ·rintro k F h hk p1 ⟨rfl,p2,o,p3,p4,p5,p6,p7⟩
  obtain ⟨kind,mode,reg,loc,args,th,el,e,hreg,a1,a2⟩:=hs _ (List.getElem_mem hk)
  have ho:=PD p4 p6
  have hk2:=T8 hk
  rw [e] at hk2
  have fin:∀ o2:List ByteArray,o2.Nodup→(∀ n∈o,n∈o2)→(∀ n∈o2,n∈N4)→(H9 kind=true→reg∈o2)→VP V Pz [lS o2,.ls th] fun x=>∃ o3:List ByteArray,x=lS o3∧VP V Pz [lS o3,.ls el] fun x=>∃ o4:List ByteArray,x=lS o4∧o4.Nodup∧(∀ n∈out,n∈o4)∧(∀ n∈o4,n∈N4)∧∀ j (hj:j < l.length),j < k+1→RI o4 l[j]:=by
   intro o2 g1 g2 g3 g4
   refine (a1 o2 g1 g3).mono ?_
   rintro _ ⟨o3,rfl,q1,q2,q3,q4⟩
   refine ⟨o3,rfl,(a2 o3 q1 q3).mono ?_⟩
   rintro _ ⟨o4,rfl,r1,r2,r3,r4⟩
   refine ⟨o4,rfl,r1,fun n hn=>r2 _ (q2 _ (g2 _ (p5 _ hn))),r3,fun j hj hjk=>?_⟩
   by_cases ej:j=k
   ·subst ej
    rw [e]
    exact .mk _ _ _ _ _ _ _ (fun h=>r2 _ (q2 _ (g4 h))) (fun s hs=>(q4 s hs).mono r2) r4
   ·exact (p7 j hj (by omega)).mono fun n hn=>r2 _ (q2 _ (g2 _ hn))
  cases c0:H9 kind with
  | false =>
   simp only [DW,go_sem,↓reduceIte,p1,p2,p3,hk2,Ck C,c0]
   refine (fin o p4 (fun n h=>h) p6 (fun h=>by rw [c0] at h;cases h)).mono ?_
   rintro _ ⟨o3,rfl,hv⟩
   simp only [DW,go_sem,↓reduceIte,p1,p2,p3,hk2]
   refine hv.mono ?_
   rintro _ ⟨o4,rfl,hv⟩
   simp only [DW,go_sem,↓reduceIte,p1,p2,p3,hk2]
   exact ⟨o4,rfl,hv⟩
  | true =>
   cases c1:o.any fun y=>decide (reg=y) with
   | true =>
    have hreg2:reg∈o:=by
     rw [List.any_eq_true] at c1
     obtain ⟨x,hx,e⟩:=c1
     rw [of_decide_eq_true e];exact hx
    simp only [DW,go_sem,↓reduceIte,p1,p2,p3,hk2,Ck C,c0,D9 C o reg (by omega),c1]
    refine (fin o p4 (fun n h=>h) p6 (fun h=>hreg2)).mono ?_
    rintro _ ⟨o3,rfl,hv⟩
    simp only [DW,go_sem,↓reduceIte,p1,p2,p3,hk2]
    refine hv.mono ?_
    rintro _ ⟨o4,rfl,hv⟩
    simp only [DW,go_sem,↓reduceIte,p1,p2,p3,hk2]
    exact ⟨o4,rfl,hv⟩
   | false =>
    have hreg2:reg∉o:=by
     intro h
     rw [List.any_eq_false] at c1
     simpa using c1 reg h
    have nd:(o++[reg]).Nodup:=List.nodup_append.2 ⟨p4,by simp,by intro a ha b hb;simp at hb;subst hb;intro e;subst e;exact hreg2 ha⟩
    have sub:∀ n∈o++[reg],n∈N4:=fun n hn=>by
     rcases List.mem_append.1 hn with h | h
     ·exact p6 n h
     ·rw [List.mem_singleton.1 h];exact hreg c0
    have f2:=fin (o++[reg]) nd (fun n h=>List.mem_append_left _ h) sub (fun _=>by simp)
    have b0:o.length * 16≤A7:=by unfold A7;omega
    have b1:(o.length+1) * 16≤A7:=by unfold A7;omega
    simp only [DW,go_sem,↓reduceIte,p1,p2,p3,hk2,Ck C,c0,D9 C o reg (by omega),c1,b0,b1]
    refine f2.mono ?_
    rintro _ ⟨o3,rfl,hv⟩
    simp only [DW,go_sem,↓reduceIte,p1,p2,p3,hk2]
    refine hv.mono ?_
    rintro _ ⟨o4,rfl,hv⟩
    simp only [DW,go_sem,↓reduceIte,p1,p2,p3,hk2]
    exact ⟨o4,rfl,hv⟩
 ·rintro F h ⟨rfl,p2,o,p3,p4,p5,p6,p7⟩
  simp only [DW,go_sem,↓reduceIte,p3]
  refine ⟨o,rfl,p4,p5,p6,fun r hr=>?_⟩
  obtain ⟨j,hj,rfl⟩:=List.mem_iff_getElem.1 hr
  exact p7 j hj hj
 all_goals simp only [go_sem,↓reduceIte]
 exact ⟨out,rfl,hn,fun n h=>h,h4,fun j hj hjk=>by omega⟩
theorem A0c {locs:List ByteArray} {r:List VV} (h:GS locs r):∃ kind mode reg loc args th el,r=rS kind mode reg loc args th el∧(H9 kind=true→reg∈N4)∧A7G V th∧A7G V el:=by
 induction h with
 | mk kind mode reg loc args th el h1 h2 h3 h4 h5 h6 h7 ih1 ih2=>exact ⟨kind,mode,reg,loc,args,th,el,rfl,h7.rn,HY C th h3 ih1,HY C el h4 ih2⟩
theorem A0b {locs:List ByteArray} (l:List (List VV)) (hl:l.length≤1000) (h:∀ s∈l,GS locs s):VP V WS [.ls l] fun x=>∃ o:List ByteArray,x=lS o∧o.Nodup∧(∀ n∈o,n∈N4)∧∀ r∈l,RI o r:=by
 rw [Ac C.c_z132.1 C.c_z132.2]
 simp only [A1t,RJ,go_sem,↓reduceIte]
 refine (HY C l hl (fun s hs=>A0c C (h s hs)) [] (by simp) (by simp)).mono ?_
 rintro _ ⟨o,rfl,h1,h2,h3,h4⟩
 simp only [RJ,go_sem,↓reduceIte]
 exact ⟨o,rfl,h1,h3,h4⟩
end
end Go.AM
