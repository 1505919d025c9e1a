/-
  Own work, part of the proof of these laws: what functions compute.
-/
import Derived.Test.YthhlhddnndlhkaaGreatDoorCoGe
import Derived.Test.YthhlhddnndlhkaaGreatDoorPle
set_option maxRecDepth 10000
set_option maxHeartbeats 64000000
set_option linter.unusedVariables false
set_option linter.unusedSimpArgs false
set_option linter.unusedSectionVars false
set_option linter.unnecessarySimpa false
open Int (toNat_natCast eq_ofNat_of_zero_le)
open List (getElem?_eq_getElem length_map length_append getElem_mem take_length foldl_cons foldl_append)
open Nat (zero_le)
open Bool (false_eq_true)
namespace Go.AM
open Go Go.Proofs
section
variable {V:At} (C:Aq V) {Q:VV->Prop}
include C
theorem KT (i:Int):VP V Vh [.i .i64 i] Q↔Q (vW (C4 i)):=by
 refine Ae ?_
 rw [Ad C.c_z141.1 C.c_z141.2]
 unfold C4
 by_cases h0:i < 0
 .simp only [PI,go_sem,↓reduceIte,h0]
  rw [if_neg (by omega)]
 .by_cases h1:64<=i
  .simp only [PI,go_sem,↓reduceIte,h0,h1]
   rw [if_neg (by omega)]
  .obtain ⟨n,rfl⟩:=eq_ofNat_of_zero_le (by omega:0<=i)
   simp only [PI,go_sem,↓reduceIte,h0,h1,Apt (show n < 64 by omega)]
   rw [if_pos (by omega)]
theorem AN (s:BitVec 64) (i:Int):VP V A5K [vW s,.i .i64 i] Q↔Q (.b (Bc s i)):=by
 refine Ae ?_
 rw [Ad C.c_z77.1 C.c_z77.2]
 simp only [A9w,go_sem,↓reduceIte,KT C,Ak1]
theorem C0 (s:BitVec 64) (i:Int):VP V A5J [vW s,.i .i64 i] Q↔Q (vW (s ||| C4 i)):=by
 refine Ae ?_
 rw [Ad C.c_z76.1 C.c_z76.2]
 simp only [A9v,go_sem,↓reduceIte,KT C]
theorem Hb (s t:BitVec 64):VP V Vg [vW s,vW t] Q↔Q (.b (decide (s &&& ~~~t=0#64))):=by
 refine Ae ?_
 rw [Ad C.c_z140.1 C.c_z140.2]
 simp only [ZG,go_sem,↓reduceIte]
theorem MR (xs:List Int) (hl:xs.length < 9223372036854775807):VP V Vy [lI xs] Q↔Q (vW (Cc xs)):=by
 refine Ae ?_
 rw [Ad C.c_z158.1 C.c_z158.2]
 simp only [ZR,go_sem,↓reduceIte]
 refine Ag (by decide) xs.length hl (I:=fun k F h=>h=[]/\A4.tmp F 6=lI xs/\A4.tmp F 3=vW (Cc (xs.take k))) ?_ ?_ 0 _ _ (by omega) ?_ ?_ ?_
 .rintro k F h hk h1 h2 ⟨rfl,h3,h4⟩
  simp only [go_sem,↓reduceIte,h1,h2,h3,h4,getElem?_eq_getElem hk,KT C]
  rw [List.take_succ_eq_append_getElem hk]
  simp only [Cc,foldl_append,foldl_cons,List.foldl_nil]
 .rintro F h ⟨rfl,h3,h4⟩
  rw [take_length] at h4
  simp only [go_sem,↓reduceIte,h4]
 all_goals simp only [go_sem,↓reduceIte]
 all_goals rfl
theorem QL (lo hi:Int) (hlo:lo < 9223372036854775808):VP V Ve [.i .i64 lo,.i .i64 hi] Q↔Q (vW (Ds lo hi)):=by
 refine Ae ?_
 rw [Ad C.c_z137.1 C.c_z137.2]
 have hm:A7e false hi 64=min hi 64:=by unfold A7e;simp only [cond_false];split<;>omega
 have h0:A7e true lo 0=max lo 0:=by unfold A7e;simp only [cond_true];split<;>omega
 simp only [ZD,go_sem,↓reduceIte]
 unfold VL
 rw [A0]
 refine AT (M:=Nat) (I:=fun k F h=>h=[]/\A4.tmp F 1 = .i .i64 hi/\A4.tmp F 6 = .i .i64 k/\A4.tmp F 5=vW (BS fun i=>decide (lo<=(i:Int)/\i < k))/\lo<=k/\(k:Int)<=max lo (max 0 (min hi 64))) (μ:=fun k=>64 - k) ?_ (max lo 0).toNat _ _ ⟨rfl,?_,?_,?_,?_,?_⟩
 .rintro k F h ⟨rfl,h1,h2,h3,h4,h5⟩
  by_cases hk:(k:Int) < min hi 64
  .simp only [A72,go_sem,↓reduceIte,h1,h2,h3,hm,hk,A0,KT C]
   have hw:IntKind.i64.wrap ((k:Int)+1)=((k+1:Nat):Int):=by rw [Az (by omega) (by omega)];omega
   refine ⟨k+1,by omega,?_⟩
   rw [hw]
   refine ⟨rfl,?_,by omega,by omega⟩
   rw [Rq _ _ (by omega)]
   congr 1
   apply BD
   intro j hj
   by_cases e:j=k
   .subst e;simp;omega
   .by_cases e2:j < k
    .have:j < k+1:=by omega
     simp [e,e2,this]
    .have:¬ j < k+1:=by omega
     simp [e,e2,this]
  .simp only [A72,go_sem,↓reduceIte,h1,h2,h3,hm,hk,Nat.beq_refl]
   congr 1
   apply BD
   intro j hj
   by_cases e:lo<=(j:Int)
   .have:(j < k)↔((j:Int) < hi):=by omega
    simp [e,this]
   .simp [e]
 .simp only [go_sem,↓reduceIte]
 .simp only [go_sem,↓reduceIte,h0]
  omega
 .simp only [go_sem,↓reduceIte]
  rw [<- J8]
  congr 1
  apply BD
  intro j hj
  simp
  omega
 .omega
 .omega
theorem Zb (xs:List Int) (i:Int) (hl:xs.length < 1000) {Q:VV->VH->Prop}:NR V Mo [.p 1 0 0 0,.i .i64 i] [some (AW AO 1 (xs.map eI)),some ⟨J9,0,0,false,[[.sl 0 xs.length 0 xs.length]]⟩] Q ↔
  Q (.tu []) [some (AW AO 1 ((xs++[i]).map eI)),some ⟨J9,0,0,false,[[.sl 0 (xs++[i]).length 0 (xs++[i]).length]]⟩]:=by
 refine Pv ?_
 rw [GN C.h_z148]
 have h1:(xs.length+1) * 8<=Aa:=by unfold Aa;omega
 simp only [ZK,go_sem,↓reduceIte,h1]
theorem Axx (s:BitVec 64) (h:s≠0#64):VP V AS [vW s] Q↔Q (.i .i64 (Lib.ctz 64 s.toNat:Nat)):=by
 refine Ae ?_
 unfold VP
 rw [C.c_mathbits_TrailingZeros64]
 have:=s.isLt
 refine ⟨.i .i64 (Lib.ctz 64 s.toNat:Nat),?_,rfl,rfl⟩
 unfold A7P vW
 simp only
 rw [if_pos (by omega),toNat_natCast]
theorem A8v (s:BitVec 64):NR V Hy [vW s,.f Mo [.p 1 0 0 0] []] [some DW,some ⟨J9,0,0,false,[[.sl 0 0 0 0]]⟩]
  fun _ h=>h=[some (AW AO 1 ((Ay s).map eI)),some ⟨J9,0,0,false,[[.sl 0 (Ay s).length 0 (Ay s).length]]⟩]:=by
 rw [GN C.h_z147]
 simp only [Kd,go_sem,↓reduceIte]
 unfold VL
 rw [A0]
 refine AT (M:=BitVec 64×List Nat) (I:=fun x F h=>A4.tmp F 0=vW x.1/\A4.tmp F 1 = .f Mo [.p 1 0 0 0] []/\x.2++Ca x.1=Ca s/\h=[some (AW AO 1 ((x.2.map fun (i:Nat)=>(i:Int)).map eI)),some ⟨J9,0,0,false,[[.sl 0 x.2.length 0 x.2.length]]⟩]) (μ:=fun x=>(Ca x.1).length) ?_ (s,[]) _ _ ⟨?_,?_,rfl,rfl⟩
 .rintro ⟨t,l⟩ F h ⟨h1,h2,h3,rfl⟩
  simp only at h1 h2 h3 ⊢
  by_cases ht:t=0#64
  .subst ht
   rw [Ac3,List.append_nil] at h3
   simp only [go_sem,↓reduceIte,h1,h2,Ay,h3]
  .have hs:=Ac2 ht
   have hl:l.length < 1000:=by
    have:=congrArg List.length h3
    have h4:=CO s
    simp only [Ay,length_map,length_append] at this h4
    omega
   have hx:=fun Q=>Zb C (l.map fun (i:Nat)=>(i:Int)) (Lib.ctz 64 t.toNat:Nat) (by simpa using hl) (Q:=Q)
   simp only [length_map,length_append,List.length_cons,List.length_nil] at hx
   simp only [go_sem,↓reduceIte,h1,h2,ht,A0,Axx C t ht]
   rw [hx]
   refine ⟨?_,(t &&& (t - 1#64),l++[Lib.ctz 64 t.toNat]),?_,rfl,?_,?_⟩
   .simp only [go_sem]
   .rw [hs];simp
   .rw [<- h3,hs];simp
   .simp
 all_goals simp only [go_sem]
theorem CZ (s:BitVec 64):VP V A5P [vW s] Q↔Q (lI (Ay s)):=by
 refine Ae ?_
 rw [Ad C.c_z85.1 C.c_z85.2]
 simp only [A9D,go_sem,↓reduceIte,A1B]
 obtain ⟨vf,h1,h2⟩:=A8v C s
 refine ⟨vf,h1,h2.mono ?_⟩
 rintro v _ rfl
 simp only [go_sem,↓reduceIte]
theorem EW (xs:List Int) (n:Int) (hl:xs.length < 9223372036854775807):VP V VK [lI xs,.i .i64 n] Q↔Q (.i .i64 (Dx (fun y=>decide (n=y)) xs)):=by
 refine Ae ?_
 rw [Ad C.c_z169.1 C.c_z169.2]
 simp only [ZX,go_sem,↓reduceIte]
 refine Ag (by decide) xs.length hl (I:=fun k F h=>h=[]/\A4.tmp F 0=lI xs/\A4.tmp F 1 = .i .i64 n/\∀ (j:Nat) (hj:j < xs.length),j < k->¬ n=xs[j]) ?_ ?_ 0 _ _ (by omega) ?_ ?_ ?_
 .rintro k F h hk h1 h2 ⟨rfl,h3,h4,h5⟩
  by_cases e:n=xs[k]
  .subst e
   simp only [go_sem,↓reduceIte,h1,h2,h3,h4,getElem?_eq_getElem hk]
   rw [DA hk (by simp) fun j hj=>by simpa using h5 j (by omega) hj]
  .simp only [go_sem,↓reduceIte,h1,h2,h3,h4,getElem?_eq_getElem hk,e]
   intro j hj h0
   by_cases e2:j=k
   .subst e2;exact e
   .exact h5 j hj (by omega)
 .rintro F h ⟨rfl,h3,h4,h5⟩
  simp only [go_sem,↓reduceIte]
  rw [Eb fun x hx=>by obtain ⟨j,hj,e⟩:=List.mem_iff_getElem.1 hx;rw [<- e];simpa using h5 j hj hj]
 all_goals simp only [go_sem,↓reduceIte]
 all_goals first | rfl | (intro j hj h0;omega)
theorem Jz (xs:List Int) (n:Int) (hl:xs.length < 9223372036854775807):VP V VN [lI xs,.i .i64 n] Q↔Q (.b (xs.any fun y=>decide (n=y))):=by
 refine Ae ?_
 rw [Ad C.c_z172.1 C.c_z172.2]
 simp only [A00,go_sem,↓reduceIte,EW C _ _ hl,MW]
theorem Hn (xs:List ByteArray) (n:ByteArray) (hl:xs.length < 9223372036854775807):VP V WJ [lS xs,.s n] Q↔Q (.i .i64 (Dx (fun y=>decide (n=y)) xs)):=by
 refine Ae ?_
 rw [Ad C.c_z233.1 C.c_z233.2]
 simp only [A0G,go_sem,↓reduceIte]
 refine Ag (by decide) xs.length hl (I:=fun k F h=>h=[]/\A4.tmp F 0=lS xs/\A4.tmp F 1 = .s n/\∀ (j:Nat) (hj:j < xs.length),j < k->¬ n=xs[j]) ?_ ?_ 0 _ _ (by omega) ?_ ?_ ?_
 .rintro k F h hk h1 h2 ⟨rfl,h3,h4,h5⟩
  by_cases e:n=xs[k]
  .subst e
   simp only [go_sem,↓reduceIte,h1,h2,h3,h4,getElem?_eq_getElem hk]
   rw [DA hk (by simp) fun j hj=>by simpa using h5 j (by omega) hj]
  .simp only [go_sem,↓reduceIte,h1,h2,h3,h4,getElem?_eq_getElem hk,e]
   intro j hj h0
   by_cases e2:j=k
   .subst e2;exact e
   .exact h5 j hj (by omega)
 .rintro F h ⟨rfl,h3,h4,h5⟩
  simp only [go_sem,↓reduceIte]
  rw [Eb fun x hx=>by obtain ⟨j,hj,e⟩:=List.mem_iff_getElem.1 hx;rw [<- e];simpa using h5 j hj hj]
 all_goals simp only [go_sem,↓reduceIte]
 all_goals first | rfl | (intro j hj h0;omega)
theorem Gu (xs:List ByteArray) (n:ByteArray) (hl:xs.length < 9223372036854775807):VP V W8 [lS xs,.s n] Q↔Q (.b (xs.any fun y=>decide (n=y))):=by
 refine Ae ?_
 rw [Ad C.c_z196.1 C.c_z196.2]
 simp only [A0e,go_sem,↓reduceIte,Hn C _ _ hl,MW]
theorem G5 (xs:List (BitVec 64)) (hl:xs.length < 9223372036854775807) {g:Nat} {a c:List VV} (ha:Fz a) (hc:Fz c) (p:(BitVec 64)->Bool) (hf:∀ x,VP V g (a++[vW x]++c) fun r=>r = .b (p x)) :
  VP V W4 [lW xs,.f g a c] Q↔Q (.i .i64 (Dx p xs)):=by
 refine Ae ?_
 rw [Ad C.c_z188.1 C.c_z188.2]
 simp only [A08,go_sem,↓reduceIte]
 refine Ag (by decide) xs.length hl (I:=fun k F h=>h=[]/\A4.tmp F 0=lW xs/\A4.tmp F 1 = .f g a c/\∀ (j:Nat) (hj:j < xs.length),j < k->p xs[j]=false) ?_ ?_ 0 _ _ (by omega) ?_ ?_ ?_
 .rintro k F h hk h1 h2 ⟨rfl,h3,h4,h5⟩
  have hq:=fun Q=>Ae (hf xs[k]) (Q:=Q)
  have h0:=ha.call hc (h:=[]) (x:=[vW xs[k]]) rfl
  cases e:p xs[k] with
  | true =>
   simp only [go_sem,↓reduceIte,h1,h2,h3,h4,getElem?_eq_getElem hk,h0,hq,e]
   rw [DA hk e fun j hj=>h5 j (by omega) hj]
  | false =>
   simp only [go_sem,↓reduceIte,h1,h2,h3,h4,getElem?_eq_getElem hk,h0,hq,e]
   have h7:QO 0 (.f g a c) = .f g a c:=by
    have h1:Db 0 a=true:=Fz.bel ha
    have h2:Db 0 c=true:=Fz.bel hc
    simp [QO,bel,h1,h2]
   simp only [AgK,Fz.bel ha,Fz.bel hc,Bool.and_self,cond_true,true_and]
   intro j hj h6
   by_cases e2:j=k
   .subst e2;exact e
   .exact h5 j hj (by omega)
 .rintro F h ⟨rfl,h3,h4,h5⟩
  simp only [go_sem,↓reduceIte]
  rw [Eb fun x hx=>by obtain ⟨j,hj,e⟩:=List.mem_iff_getElem.1 hx;rw [<- e];exact h5 j hj hj]
 all_goals simp only [go_sem,↓reduceIte]
 all_goals first | rfl | (intro j hj h6;omega)
theorem El (xs:List (BitVec 64)) (hl:xs.length < 9223372036854775807) {g:Nat} {a c:List VV} (ha:Fz a) (hc:Fz c) (p:(BitVec 64)->Bool) (hf:∀ x,VP V g (a++[vW x]++c) fun r=>r = .b (p x)) :
  VP V Vf [lW xs,.f g a c] Q↔Q (.b (xs.any p)):=by
 refine Ae ?_
 rw [Ad C.c_z138.1 C.c_z138.2]
 simp only [ZE,go_sem,↓reduceIte,G5 C xs hl ha hc p hf,Fz.eq ha,Fz.eq hc,MW]
theorem HY (xs:List Int) (hl:xs.length < 9223372036854775807) {g:Nat} {a c:List VV} (ha:Fz a) (hc:Fz c) (p:Int->Bool) (hf:∀ x,VP V g (a++[.i .i64 x]++c) fun r=>r = .b (p x)) :
  VP V WX [lI xs,.f g a c] Q↔Q (.i .i64 (Dx p xs)):=by
 refine Ae ?_
 rw [Ad C.c_z251.1 C.c_z251.2]
 simp only [A0V,go_sem,↓reduceIte]
 refine Ag (by decide) xs.length hl (I:=fun k F h=>h=[]/\A4.tmp F 0=lI xs/\A4.tmp F 1 = .f g a c/\∀ (j:Nat) (hj:j < xs.length),j < k->p xs[j]=false) ?_ ?_ 0 _ _ (by omega) ?_ ?_ ?_
 .rintro k F h hk h1 h2 ⟨rfl,h3,h4,h5⟩
  have hq:=fun Q=>Ae (hf xs[k]) (Q:=Q)
  have h0:=ha.call hc (h:=[]) (x:=[.i .i64 xs[k]]) rfl
  cases e:p xs[k] with
  | true =>
   simp only [go_sem,↓reduceIte,h1,h2,h3,h4,getElem?_eq_getElem hk,h0,hq,e]
   rw [DA hk e fun j hj=>h5 j (by omega) hj]
  | false =>
   simp only [go_sem,↓reduceIte,h1,h2,h3,h4,getElem?_eq_getElem hk,h0,hq,e]
   have h7:QO 0 (.f g a c) = .f g a c:=by
    have h1:Db 0 a=true:=Fz.bel ha
    have h2:Db 0 c=true:=Fz.bel hc
    simp [QO,bel,h1,h2]
   simp only [AgK,Fz.bel ha,Fz.bel hc,Bool.and_self,cond_true,true_and]
   intro j hj h6
   by_cases e2:j=k
   .subst e2;exact e
   .exact h5 j hj (by omega)
 .rintro F h ⟨rfl,h3,h4,h5⟩
  simp only [go_sem,↓reduceIte]
  rw [Eb fun x hx=>by obtain ⟨j,hj,e⟩:=List.mem_iff_getElem.1 hx;rw [<- e];exact h5 j hj hj]
 all_goals simp only [go_sem,↓reduceIte]
 all_goals first | rfl | (intro j hj h6;omega)
theorem H6 (xs:List Int) (hl:xs.length < 9223372036854775807) {g:Nat} {a c:List VV} (ha:Fz a) (hc:Fz c) (p:Int->Bool) (hf:∀ x,VP V g (a++[.i .i64 x]++c) fun r=>r = .b (p x)) :
  VP V WL [lI xs,.f g a c] Q↔Q (.b (xs.any p)):=by
 refine Ae ?_
 rw [Ad C.c_z235.1 C.c_z235.2]
 simp only [A0H,go_sem,↓reduceIte,HY C xs hl ha hc p hf,Fz.eq ha,Fz.eq hc,MW]
theorem Hm (xs:List (List Int)) (hl:xs.length < 9223372036854775807) {g:Nat} {a c:List VV} (ha:Fz a) (hc:Fz c) (p:List Int->Bool) (hf:∀ x∈xs,VP V g (a++[lI x]++c) fun r=>r = .b (p x)) :
  VP V VM [.ls (xs.map Hv),.f g a c] Q↔Q (.i .i64 (Dx p xs)):=by
 refine Ae ?_
 rw [Ad C.c_z170.1 C.c_z170.2]
 simp only [ZY,go_sem,↓reduceIte]
 refine Ag (by decide) xs.length hl (I:=fun k F h=>h=[]/\A4.tmp F 0 = .ls (xs.map Hv)/\A4.tmp F 1 = .f g a c/\∀ (j:Nat) (hj:j < xs.length),j < k->p xs[j]=false) ?_ ?_ 0 _ _ (by omega) ?_ ?_ ?_
 .rintro k F h hk h1 h2 ⟨rfl,h3,h4,h5⟩
  have hq:=fun Q=>Ae (hf xs[k] (getElem_mem hk)) (Q:=Q)
  have h0:=ha.call hc (h:=[]) (x:=[lI (xs[k])]) rfl
  cases e:p xs[k] with
  | true =>
   simp only [go_sem,↓reduceIte,h1,h2,h3,h4,getElem?_eq_getElem hk,h0,hq,e]
   rw [DA hk e fun j hj=>h5 j (by omega) hj]
  | false =>
   simp only [go_sem,↓reduceIte,h1,h2,h3,h4,getElem?_eq_getElem hk,h0,hq,e]
   have h7:QO 0 (.f g a c) = .f g a c:=by
    have h1:Db 0 a=true:=Fz.bel ha
    have h2:Db 0 c=true:=Fz.bel hc
    simp [QO,bel,h1,h2]
   simp only [AgK,Fz.bel ha,Fz.bel hc,Bool.and_self,cond_true,true_and]
   intro j hj h6
   by_cases e2:j=k
   .subst e2;exact e
   .exact h5 j hj (by omega)
 .rintro F h ⟨rfl,h3,h4,h5⟩
  simp only [go_sem,↓reduceIte]
  rw [Eb fun x hx=>by obtain ⟨j,hj,e⟩:=List.mem_iff_getElem.1 hx;rw [<- e];exact h5 j hj hj]
 all_goals simp only [go_sem,↓reduceIte]
 all_goals first | rfl | (intro j hj h6;omega)
theorem A27 (xs ys:List Int) (hl:xs.length < 9223372036854775807):VP V Qd [lI xs,lI ys] Q↔Q (.b (decide (xs=ys))):=by
 refine Ae ?_
 rw [Ad C.c_z160.1 C.c_z160.2]
 by_cases hxy:xs.length=ys.length
 .simp only [S4,go_sem,↓reduceIte,hxy]
  refine Ag (by decide) ys.length (by omega) (I:=fun k F h=>h=[]/\A4.tmp F 0=lI xs/\A4.tmp F 1=lI ys/\∀ (j:Nat) (hj:j < xs.length) (h0:j < ys.length),j < k->xs[j]=ys[j]) ?_ ?_ 0 _ _ (by omega) ?_ ?_ ?_
  .rintro k F h hk h1 h2 ⟨rfl,h3,h4,h5⟩
   have h6:k < xs.length:=by omega
   by_cases e:xs[k]=ys[k]
   .simp only [go_sem,↓reduceIte,h1,h2,h3,h4,getElem?_eq_getElem hk,getElem?_eq_getElem h6,e]
    intro j hj h0 h7
    by_cases e2:j=k
    .subst e2;exact e
    .exact h5 j hj h0 (by omega)
   .simp only [go_sem,↓reduceIte,h1,h2,h3,h4,getElem?_eq_getElem hk,getElem?_eq_getElem h6,e]
    refine (decide_eq_false ?_).symm
    rintro rfl
    exact e rfl
  .rintro F h ⟨rfl,h3,h4,h5⟩
   simp only [go_sem,↓reduceIte]
   exact (decide_eq_true (List.ext_getElem hxy fun j hj h0=>h5 j hj h0 h0)).symm
  all_goals simp only [go_sem,↓reduceIte]
  all_goals first | rfl | (intro j hj h0 h7;omega)
 .simp only [S4,go_sem,↓reduceIte,Int.natCast_inj,hxy]
  refine (decide_eq_false ?_).symm
  rintro rfl
  exact hxy rfl
end
@[go_sem] theorem Xl {n k:Nat} {f:Nat->BitVec 64} {z:BitVec 64}:((Dj n k f z).map eW).set k [vW (f k)]=(Dj n (k+1) f z).map eW:=RD eW
@[go_sem] theorem Aqr {n k:Nat} {f:Nat->Int} {z:Int}:((Dj n k f z).map eI).set k [.i .i64 (f k)]=(Dj n (k+1) f z).map eI:=RD eI
@[go_sem] theorem Aqq {α:Type} {n k:Nat} {f:Nat->α} {z:α}:(Dj n k f z).take n=Dj n k f z:=by rw [List.take_of_length_le];rw [A2j];exact Nat.le_refl n
attribute [go_sem] A2j List.length_range
@[go_sem] theorem Apo (n:Nat):(List.range n).take n=List.range n:=by rw [List.take_of_length_le];simp
@[go_sem] theorem Aza (n:Nat) (w:BitVec 64):List.replicate n [vW w]=(List.replicate n w).map eW:=by simp
@[go_sem] theorem Az9 (n:Nat) (w:Int):List.replicate n [VV.i .i64 w]=(List.replicate n w).map eI:=by simp
abbrev eP (p:Int×Int):List VV:=[.i .i64 p.1,.i .i64 p.2]
abbrev lP (l:List (Int×Int)):VV:=.ls (l.map eP)
@[go_sem] theorem Axm (xs:List (Int×Int)) (x y:Int):xs.map eP++[[.i .i64 x,.i .i64 y]]=(xs++[(x,y)]).map eP:=by simp
theorem Fz.of {a:List VV} (h:∀ h d,Bh (frz h (d+3)) a=some (a,[])):Fz a:=h
section
variable {V:At} (C:Aq V) {Q:VV->Prop}
include C
theorem AaH (x all:BitVec 64):VP V Qc [vW x,.fp [vW all] 0] Q↔Q (.b (!decide (x &&& ~~~all=0#64))):=by
 refine Ae ?_
 rw [Ad C.c_z139.1 C.c_z139.2]
 simp only [ZF,go_sem,↓reduceIte,Hb C]
theorem Ce (r:Rows):VP V A5H [lW r] Q↔Q (.b (Dk r)):=by
 refine Ae ?_
 rw [Ad C.c_z72.1 C.c_z72.2]
 by_cases hl:r.length<=64
 .have h0:¬ (64:Int) < r.length:=by omega
  simp only [A3w,go_sem,↓reduceIte,h0,QL C 0 _ (by omega),
   El C r (by omega) (g:=Qc) (a:=[]) (c:=[.fp [vW (Ds 0 r.length)] 0]) Fz.nil (fun _ _=>rfl) (fun x=>!decide (x &&& ~~~(Ds 0 r.length)=0#64)) (fun x=>(AaH C _ _).2 rfl)]
  simp only [Dk,hl,go_sem,List.not_any_eq_all_not,Bool.not_not]
 .have h0:(64:Int) < r.length:=by omega
  simp only [A3w,go_sem,↓reduceIte,h0,Bool.true_eq_false]
  simp [Dk,hl]
theorem Acm {n:Nat} (hl:n<=1000) {gf:Nat} {a c:List VV} (ha:Fz a) (hc:Fz c) (row:Nat->BitVec 64)
  (hp:∀ (i:Nat),i < n->VP V gf (a++[.i .i64 (i:Nat)]++c) fun r=>r=vW (row i)) :
  VP V A1v [.i .i64 n,.f gf a c] Q↔Q (lW ((List.range n).map row)):=by
 refine Ae ?_
 rw [Ad C.c_z73.1 C.c_z73.2]
 have h0:n * 8<=Aa:=by unfold Aa;omega
 simp only [A3x,go_sem,↓reduceIte,h0,Int.le_refl]
 refine Ag (by decide) n (by omega) (I:=fun k F h=>A4.tmp F 1 = .f gf a c/\A4.tmp F 5 = .sl 0 0 0 n/\h=[some ⟨AK,1,0,false,(Dj n k row 0#64).map eW⟩]) ?_ ?_ 0 _ _ (by omega) ?_ ?_ ?_
 .rintro k F h hk h1 h2 ⟨h3,h4,rfl⟩
  have hq:=fun Q=>Ae (hp k hk) (Q:=Q)
  have h5:=ha.call hc (h:=[some ⟨AK,1,0,false,(Dj n k row 0#64).map eW⟩]) (x:=[.i .i64 (k:Nat)]) rfl
  simp only [go_sem,↓reduceIte,h1,h2,h3,h4,hk,h5,hq,JB hk,Fz.bel ha,Fz.bel hc]
 .rintro F h ⟨h3,h4,rfl⟩
  simp only [go_sem,↓reduceIte,h4,Ho]
 all_goals simp only [go_sem,↓reduceIte]
 all_goals first | rfl | rw [EZ]
theorem Y1 {n:Nat} (hl:n<=1000) {gf:Nat} {a c:List VV} (ha:Fz a) (hc:Fz c) (row:Nat->BitVec 64) (b0:Nat) {Q':VV->VH->Prop}
  (hp:∀ (i:Nat),i < n->VP V gf (a++[.i .i64 (i:Nat)]++c) fun r=>r=vW (row i)) :
  VP1 V A1v [.i .i64 n,.f gf a c] b0 Q'↔Q' (.sl b0 0 0 n) [some ⟨AK,1,0,false,((List.range n).map row).map eW⟩]:=by
 refine K8 ?_
 rw [K9 C.c_z73.2]
 have h0:n * 8<=Aa:=by unfold Aa;omega
 simp only [A3x,go_sem,↓reduceIte,h0,Int.le_refl]
 refine Ag (by decide) n (by omega) (I:=fun k F h=>A4.tmp F 1 = .f gf a c/\A4.tmp F 5 = .sl 0 0 0 n/\h=[some ⟨AK,1,0,false,(Dj n k row 0#64).map eW⟩]) ?_ ?_ 0 _ _ (by omega) ?_ ?_ ?_
 .rintro k F h hk h1 h2 ⟨h3,h4,rfl⟩
  have hq:=fun Q=>Ae (hp k hk) (Q:=Q)
  have h5:=ha.call hc (h:=[some ⟨AK,1,0,false,(Dj n k row 0#64).map eW⟩]) (x:=[.i .i64 (k:Nat)]) rfl
  simp only [go_sem,↓reduceIte,h1,h2,h3,h4,hk,h5,hq,JB hk,Fz.bel ha,Fz.bel hc]
 .rintro F h ⟨h3,h4,rfl⟩
  simp only [go_sem,↓reduceIte,h4,Ho,BF]
  simp
 all_goals simp only [go_sem,↓reduceIte]
 all_goals first | rfl | rw [EZ]
theorem ME (a b:Rows):VP V WO [.ag [lW a,lW b]] Q↔Q (.b (Dk a && Dk b && decide (a.length=b.length))):=by
 refine Ae ?_
 rw [Ad C.c_z239.1 C.c_z239.2]
 cases hma:Dk a<;>cases hmb:Dk b <;>
  simp only [A0K,go_sem,↓reduceIte,Ce C,hma,hmb,Int.natCast_inj]
omit C in
theorem B9 {a:Rows} {i:Nat} (h:i < a.length):a[i]? = some (a.getD i 0#64):=by rw [AjY h,getElem?_eq_getElem h]
theorem A2U (a b:Rows) {i:Nat} (hi:i < a.length) (hi':i < b.length):VP V Qk [.ag [lW a,lW b],.i .i64 i] Q↔Q (vW (a.getD i 0#64 ||| b.getD i 0#64)):=by
 refine Ae ?_
 rw [Ad C.c_z208.1 C.c_z208.2]
 simp only [A0n,go_sem,↓reduceIte,B9 hi,B9 hi']
theorem Yn (a b:Rows) {gf:Nat} {fa fc:List VV} (ha:Fz fa) (hc:Fz fc) (row:Nat->BitVec 64)
  (hp:a.length=b.length->a.length<=64->∀ (i:Nat),i < a.length->VP V gf (fa++[.i .i64 (i:Nat)]++fc) fun r=>r=vW (row i)) :
  VP V Wj [.ag [lW a,lW b],.f gf fa fc] Q↔Q (lW (if Dk a && Dk b && decide (a.length=b.length) then (List.range a.length).map row else [])):=by
 refine Ae ?_
 rw [Ad C.c_z207.1 C.c_z207.2]
 cases hm:(Dk a && Dk b && decide (a.length=b.length)) with
 | false=>simp only [Sa,go_sem,↓reduceIte,ME C,hm,false_eq_true]
 | true =>
  have h0:=hm
  simp only [Bool.and_eq_true,decide_eq_true_eq] at h0
  have hl:=HU h0.1.1
  simp only [Sa,go_sem,↓reduceIte,ME C,hm,Acm C (show a.length<=1000 by omega) ha hc row (fun i hi=>hp h0.2 hl i hi),Fz.eq ha,Fz.eq hc]
theorem Ai6 (a b:Rows):VP V VI [lW a,lW b] Q↔Q (lW (orF a b)):=by
 refine Ae ?_
 rw [Ad C.c_z165.1 C.c_z165.2]
 simp only [ZT,go_sem,↓reduceIte,
  Yn C a b (gf:=Qk) (fa:=[.ag [lW a,lW b]]) (fc:=[]) (fun _ _=>rfl) Fz.nil (fun i=>a.getD i 0#64 ||| b.getD i 0#64) (fun h1 h2 i hi=>(A2U C a b hi (by omega)).2 rfl)]
 rfl
theorem Acl (a:Rows) (hl:a.length<=64) (s:BitVec 64):VP V WE [lW a,vW s] Q↔Q (vW (Eo a s)):=by
 refine Ae ?_
 rw [Ad C.c_z229.1 C.c_z229.2]
 simp only [A0D,go_sem,↓reduceIte,QL C 0 _ (by omega),CZ C]
 have h1:=CO (s &&& Ds 0 a.length)
 have h7:∀ i,i∈Ca (s &&& Ds 0 a.length)->i < a.length:=by
  intro i hi
  have:=(A1e hi).2
  rw [BitVec.getLsbD_and,Ds,Au] at this
  simp at this
  omega
 unfold Eo
 unfold Ay at h1 ⊢
 generalize Ca (s &&& Ds 0 a.length)=L at *
 refine Ag (by decide) (L.map fun (i:Nat)=>(i:Int)).length (by omega) (I:=fun k F h=>h=[]/\A4.tmp F 0=lW a/\A4.tmp F 13=lI (L.map fun (i:Nat)=>(i:Int))/\A4.tmp F 5=vW ((L.take k).foldl (fun x i=>x ||| a.getD i 0#64) 0#64)) ?_ ?_ 0 _ _ (by omega) ?_ ?_ ?_
 .rintro k F h hk h2 h3 ⟨rfl,h4,h5,h6⟩
  have h0:k < L.length:=by simpa using hk
  simp only [go_sem,↓reduceIte,h2,h3,h4,h5,h6,getElem?_eq_getElem h0,B9 (h7 _ (getElem_mem h0))]
  rw [List.take_succ_eq_append_getElem h0,foldl_append,foldl_cons,List.foldl_nil]
 .rintro F h ⟨rfl,h4,h5,h6⟩
  rw [length_map,take_length] at h6
  simp only [go_sem,↓reduceIte,h6]
 all_goals simp only [go_sem,↓reduceIte]
 all_goals rfl
theorem A1W (a:Rows) (hm:Dk a=true) (s:BitVec 64):VP V EI [lW a,vW s] Q↔Q (vW (Eo a s)):=by
 refine Ae ?_
 rw [Ad C.c_z182.1 C.c_z182.2]
 simp only [A04,go_sem,↓reduceIte,Ce C,hm,Acl C a (HU hm)]
theorem Pi (a:Rows) (hm:Dk a=true) (s:BitVec 64):VP V Ek [lW a,vW s] Q↔Q (vW (Eo a s)):=by
 refine Ae ?_
 rw [Ad C.c_z206.1 C.c_z206.2]
 simp only [A0m,go_sem,↓reduceIte,A1W C a hm]
theorem Pj (a:Rows) (hm:Dk a=true) (s:BitVec 64):VP V Gj [lW a,vW s,.f Ek [] []] Q↔Q (vW (GF a s)):=by
 refine Ae ?_
 rw [Ad C.c_z205.1 C.c_z205.2]
 simp only [A0l,go_sem,↓reduceIte]
 unfold VL
 rw [A0]
 refine AT (M:=BitVec 64) (I:=fun t F h=>h=[]/\A4.tmp F 0=lW a/\A4.tmp F 1=vW t/\A4.tmp F 2 = .f Ek [] []/\GF a t=GF a s) (μ:=fun t=>18446744073709551616 - t.toNat) ?_ s _ _ ⟨rfl,?_,?_,?_,rfl⟩
 .rintro t F h ⟨rfl,h0,h1,h2,h3⟩
  have hs:=Abv a t
  by_cases e:t ||| Eo a t=t
  .rw [if_pos e] at hs
   simp only [A75,go_sem,↓reduceIte,h0,h1,h2,A0,Pi C a hm,e]
   rw [<- h3,hs]
  .rw [if_neg e] at hs
   simp only [A75,go_sem,↓reduceIte,h0,h1,h2,A0,Pi C a hm,e]
   have:=Mw e
   have:=(t ||| Eo a t).isLt
   exact ⟨t ||| Eo a t,by omega,rfl,by rw [<- h3,hs]⟩
 all_goals simp only [go_sem,↓reduceIte]
theorem Rh (a:Rows):VP V Ll [lW a] Q↔Q (lW (BV a)):=by
 refine Ae ?_
 rw [Ad C.c_z164.1 C.c_z164.2]
 cases hm:Dk a with
 | false=>simp only [PL,go_sem,↓reduceIte,Ce C,hm,BV,false_eq_true]
 | true =>
  have hl:=HU hm
  have h0:a.length * 8<=Aa:=by unfold Aa;omega
  simp only [PL,go_sem,↓reduceIte,Ce C,hm,h0,Int.le_refl]
  refine Ag (by decide) a.length (by omega) (I:=fun k F h=>A4.tmp F 0=lW a/\A4.tmp F 12=lW a/\A4.tmp F 3 = .sl 0 0 0 a.length/\h=[some ⟨AK,1,0,false,(Dj a.length k (fun i=>GF a (a.getD i 0#64)) 0#64).map eW⟩]) ?_ ?_ 0 _ _ (by omega) ?_ ?_ ?_
  .rintro k F h hk h1 h2 ⟨h3,h4,h5,rfl⟩
   have hu:=Xl (n:=a.length) (k:=k) (f:=fun i=>GF a (a.getD i 0#64)) (z:=0#64)
   simp only [go_sem,↓reduceIte,h1,h2,h3,h4,h5,hk,B9 hk,Pj C a hm,JB hk,hu]
  .rintro F h ⟨h3,h4,h5,rfl⟩
   simp only [go_sem,↓reduceIte,h5,Ho,BV,hm]
  all_goals simp only [go_sem,↓reduceIte]
  all_goals first | rfl | rw [EZ]
theorem MD (a:Rows) (s:BitVec 64) {i:Nat} (hi:i < a.length):VP V XS [.ag [lW a,vW s],.i .i64 i] Q↔Q (vW (if Bc s (i:Int) then a.getD i 0#64 &&& s else 0#64)):=by
 refine Ae ?_
 rw [Ad C.c_z74.1 C.c_z74.2]
 cases hh:Bc s (i:Int)<;>simp only [A9u,go_sem,↓reduceIte,AN C,hh,B9 hi,false_eq_true]
theorem Qt (a:Rows) (s:BitVec 64):VP V A1m [lW a,vW s] Q↔Q (lW (Mj a s)):=by
 refine Ae ?_
 rw [Ad C.c_z25.1 C.c_z25.2]
 cases hm:Dk a with
 | false=>simp only [A0T,go_sem,↓reduceIte,Ce C,hm,Mj,false_eq_true]
 | true =>
  have hl:=HU hm
  simp only [A0T,go_sem,↓reduceIte,Ce C,hm,Mj,
   Y1 C (show a.length<=1000 by omega) (gf:=XS) (a:=[.ag [lW a,vW s]]) (c:=[]) (fun _ _=>rfl) Fz.nil (fun (i:Nat)=>if Bc s (i:Int) then a.getD i 0#64 &&& s else 0#64) 0 (fun i hi=>(MD C a s hi).2 rfl)]
theorem A1X (n:Nat) (hn:n<=64) (b:Nat) {Q:VV->VH->Prop}:VP1 V A5E [.i .i64 n] b Q↔Q (.sl b 0 0 n) [some ⟨AK,1,0,false,(List.replicate n 0#64).map eW⟩]:=by
 refine K8 ?_
 rw [K9 C.c_z67.2]
 have h0:n * 8<=Aa:=by unfold Aa;omega
 have h1:¬ (64:Int) < n:=by omega
 have h2:¬ (n:Int) < 0:=by omega
 simp only [A9o,go_sem,↓reduceIte,h0,h1,h2,Int.le_refl,BF]
 simp
theorem Y0 (a:Rows):VP V A5I [lW a] Q↔Q (lP (BC a)):=by
 refine Ae ?_
 rw [Ad C.c_z75.1 C.c_z75.2]
 cases hm:Dk a with
 | false=>simp only [A3y,go_sem,↓reduceIte,Ce C,hm,BC,false_eq_true,A1B]
 | true =>
  have hl:=HU hm
  simp only [A3y,go_sem,↓reduceIte,Ce C,hm,A1B]
  refine Ag (by decide) a.length (by omega) (I:=fun k F h=>A4.tmp F 12=lW a/\∃ l,l=((List.range k).flatMap (fun (i:Nat)=>(Ay (a.getD i 0#64)).map fun j=>((i:Int),j)))/\A4.tmp F 3 = .sl 0 l.length 0 l.length/\h=[some (AW AcK 2 (l.map eP))]) ?_ ?_ 0 _ _ (by omega) ?_ ?_ ?_
  .rintro k F h hk h1 h2 ⟨h3,l,h0,h4,rfl⟩
   simp only [go_sem,↓reduceIte,h1,h2,h3,h4,B9 hk,CZ C]
   have h8:=CO (a.getD k 0#64)
   have h7:=Xa a k
   rw [<- h0] at h7
   refine Ag (by decide) (Ay (a.getD k 0#64)).length (by omega) (I:=fun m F h=>A4.tmp F 14 = .i .i64 k/\A4.tmp F 13 = .i .i64 a.length/\A4.tmp F 12=lW a/\A4.tmp F 20=lI (Ay (a.getD k 0#64))/\A4.tmp F 4 = .i .i64 k/\∃ l',l' = l++((Ay (a.getD k 0#64)).take m).map (fun j=>((k:Int),j))/\A4.tmp F 3 = .sl 0 l'.length 0 l'.length/\h=[some (AW AcK 2 (l'.map eP))]) ?_ ?_ 0 _ _ (by omega) ?_ ?_ ?_
   .rintro m G h h6 j1 j2 ⟨j4,j5,j6,j7,j8,l',h5,j9,rfl⟩
    have hb:(l'.length+1) * 16<=Aa:=by
     have:l'.length<=10000:=by
      rw [h5,length_append,length_map,List.length_take];omega
     unfold Aa;omega
    simp only [go_sem,↓reduceIte,j1,j2,j4,j5,j6,j7,j8,j9,getElem?_eq_getElem h6,hb]
    refine ⟨_,?_,by rw [length_append];rfl,rfl⟩
    rw [h5,List.take_succ_eq_append_getElem h6,List.map_append,List.append_assoc];rfl
   .rintro G h ⟨j4,j5,j6,j7,j8,l',h5,j9,rfl⟩
    simp only [go_sem,↓reduceIte,j4,j5,j6,j9]
    refine ⟨_,?_,rfl,rfl⟩
    rw [h5,take_length,h0,List.flatMap_append];simp
   all_goals simp only [go_sem,↓reduceIte,h1,h2,h3,h4]
   all_goals first | rfl | exact ⟨l,by simp,rfl,rfl⟩
  .rintro F h ⟨h3,l,h0,h4,rfl⟩
   simp only [go_sem,↓reduceIte,h4,BC,hm,<- h0]
  all_goals simp only [go_sem,↓reduceIte]
  all_goals first | rfl | exact ⟨[],rfl,rfl,rfl⟩
end
theorem Ajn {e:Option Yc} (s:BitVec 64) {n:Nat} (h:n < 64):Bq .shr e (Wd s) (.i .u64 n)=some (Wd (s >>> n)):=by
 have h0:¬ ((n:Int) < 0):=by omega
 simp only [Wd,Bq,Jd,if_neg h0,IntKind.bits,Option.some.injEq,AV.i.injEq,true_and,toNat_natCast]
 rw [Nat.min_eq_left (by omega),BitVec.toNat_ushiftRight,Nat.shiftRight_eq_div_pow]
 rw [show ((2:Int) ^ n)=((2 ^ n:Nat):Int) by simp,Int.fdiv_eq_ediv_of_nonneg _ (Int.natCast_nonneg _)]
 rfl
theorem Ajm {e:Option Yc} (s:BitVec 64):Bq .rem e (Wd s) (.i .u64 2)=some (Wd (if s.getLsbD 0 then 1#64 else 0#64)):=by
 rw [Wd,Agz (by decide)]
 simp only [Option.some.injEq,Wd,AV.i.injEq,true_and]
 have h0:s.getLsbD 0=decide (s.toNat % 2=1):=by
  show s.toNat.testBit 0=_
  simp [Nat.testBit_zero]
 rw [h0]
 have:(s.toNat:Int).tmod 2=((s.toNat % 2:Nat):Int):=by
  rw [Int.tmod_eq_emod_of_nonneg (Int.natCast_nonneg _)]
  rfl
 rw [this]
 by_cases h:s.toNat % 2=1
 .simp [h]
 .have:s.toNat % 2=0:=by omega
  simp [this]
theorem Am1 {e:Option Yc} (s:BitVec 64) {n:Nat} (h:n < 64):Bk .shr e (vW s) (.i .u64 n)=some (vW (s >>> n)):=by
 show (Bq .shr e (Wd s) (.i .u64 n)).bind HV=_
 rw [Ajn s h];rfl
theorem Am0 {e:Option Yc} (s:BitVec 64):Bk .rem e (vW s) (.i .u64 2)=some (vW (if s.getLsbD 0 then 1#64 else 0#64)):=by
 show (Bq .rem e (Wd s) (.i .u64 2)).bind HV=_
 rw [Ajm s];rfl
section
variable {V:At} (C:Aq V) {Q:VV->Prop}
include C
theorem B2 (s:BitVec 64) (i:Int):VP V A5q [vW s,.i .i64 i] Q↔Q (.b (Bc s i)):=by
 refine Ae ?_
 rw [Ad C.c_z42.1 C.c_z42.2]
 by_cases h0:i < 0
 .have:Bc s i=false:=by unfold Bc;simp;omega
  simp only [A13,go_sem,↓reduceIte,h0,this]
 .by_cases h1:63 < i
  .have:Bc s i=false:=by
    unfold Bc
    rw [BitVec.getLsbD_of_ge _ _ (by omega)]
    simp
   simp only [A13,go_sem,↓reduceIte,h0,h1,this]
  .obtain ⟨n,rfl⟩:=eq_ofNat_of_zero_le (by omega:0<=i)
   have hw:IntKind.u64.wrap (n:Int)=n:=by rw [KL];omega
   have hs:∀ e,Bk .shr e (vW s) (.i .u64 (n:Int))=some (vW (s >>> n)):=fun e=>Am1 s (by omega)
   simp only [A13,go_sem,↓reduceIte,h0,h1,hw,hs,Am0]
   rw [AC,BitVec.getLsbD_ushiftRight,Nat.add_zero]
   cases s.getLsbD n<;>rfl
theorem D4 (s t:BitVec 64):VP V A5p [vW s,vW t] Q↔Q (.b (decide (s ||| t=t))):=by
 refine Ae ?_
 rw [Ad C.c_z40.1 C.c_z40.2]
 simp only [A97,go_sem,↓reduceIte]
theorem A7x (n:Nat) (hn:n < 64):VP V A5D [.i .i64 n] Q↔Q (vW (1#64 <<< n)):=by
 refine Ae ?_
 rw [Ad C.c_z65.1 C.c_z65.2]
 simp only [A9n,go_sem,↓reduceIte]
 refine Ab (by decide) n (by omega) (I:=fun k F h=>h=[]/\A4.tmp F 0 = .i .i64 n/\A4.tmp F 3=vW (1#64 <<< k)) ?_ ?_ ?_ 0 _ _ (zero_le _) ?_ ?_
 .rintro k F h hk h1 ⟨rfl,h2,h3⟩
  simp only [go_sem,↓reduceIte,h1,h2,h3]
 .rintro k F h hk h1 ⟨rfl,h2,h3⟩
  simp only [go_sem,↓reduceIte,h1,h2,h3]
  congr 1
  apply BitVec.eq_of_toNat_eq
  rw [BitVec.toNat_add,BitVec.toNat_shiftLeft,BitVec.toNat_shiftLeft]
  simp only [Nat.shiftLeft_eq]
  have:(1#64).toNat=1:=rfl
  rw [this,Nat.pow_succ]
  omega
 .rintro F h ⟨rfl,h2,h3⟩
  simp only [go_sem,↓reduceIte,h3]
 all_goals simp only [go_sem,↓reduceIte]
 all_goals rfl
theorem Bi (s:BitVec 64) (i:Int):VP V A5b [vW s,.i .i64 i] Q↔Q (vW (s ||| C4 i)):=by
 refine Ae ?_
 rw [Ad C.c_z19.1 C.c_z19.2]
 by_cases h0:i < 0
 .have:C4 i=0#64:=by unfold C4;rw [if_neg (by omega)]
  simp only [XC,go_sem,↓reduceIte,h0,this,BitVec.or_zero]
 .by_cases h1:63 < i
  .have:C4 i=0#64:=by unfold C4;rw [if_neg (by omega)]
   simp only [XC,go_sem,↓reduceIte,h0,h1,this,BitVec.or_zero]
  .obtain ⟨n,rfl⟩:=eq_ofNat_of_zero_le (by omega:0<=i)
   have h2:C4 (n:Int)=1#64 <<< n:=by unfold C4;rw [if_pos (by omega)];rfl
   cases hb:Bc s n with
   | true =>
    simp only [XC,go_sem,↓reduceIte,h0,h1,B2 C,hb]
    congr 1
    apply B1
    intro j hj
    rw [BitVec.getLsbD_or,CT]
    by_cases e:j=n
    .subst e;rw [AC] at hb;simp [hb]
    .have:¬ ((j:Int)=n):=by omega
     simp [this]
   | false =>
    simp only [XC,go_sem,↓reduceIte,h0,h1,B2 C,hb,A7x C n (by omega)]
    congr 1
    rw [h2]
    apply BitVec.add_eq_or_of_and_eq_zero
    rw [<- h2,Xu]
    rw [AC] at hb
    simp [hb]
theorem A61 (r:Rows) (a b:Int) (hl:r.length < 9223372036854775807):VP V V6 [lW r,.i .i64 a,.i .i64 b] Q↔Q (.b (decide (0<=a) && Bc (r.getD a.toNat 0#64) b)):=by
 refine Ae ?_
 rw [Ad C.c_z129.1 C.c_z129.2]
 by_cases h0:0<=a
 .obtain ⟨n,rfl⟩:=eq_ofNat_of_zero_le h0
  by_cases h1:n < r.length
  .simp only [PH,go_sem,↓reduceIte,h1,B9 h1,B2 C]
  .have:r.getD n 0#64=0#64:=by rw [List.getD_eq_getElem?_getD,List.getElem?_eq_none (by omega)];rfl
   simp only [PH,go_sem,↓reduceIte,h1,this]
   simp [Bc]
 .simp only [PH,go_sem,↓reduceIte,h0]
theorem NF (xs:List Int) (hl:xs.length < 9223372036854775807):VP V A5o [lI xs] Q↔Q (vW (Cc xs)):=by
 refine Ae ?_
 rw [Ad C.c_z39.1 C.c_z39.2]
 simp only [A96,go_sem,↓reduceIte]
 refine Ab (by decide) xs.length hl (I:=fun k F h=>h=[]/\A4.tmp F 0=lI xs/\A4.tmp F 3=vW (Cc (xs.take k))) ?_ ?_ ?_ 0 _ _ (zero_le _) ?_ ?_
 .rintro k F h hk h1 ⟨rfl,h2,h3⟩
  simp only [go_sem,↓reduceIte,h1,h2,h3]
 .rintro k F h hk h1 ⟨rfl,h2,h3⟩
  simp only [go_sem,↓reduceIte,h1,h2,h3,getElem?_eq_getElem hk,Bi C]
  rw [List.take_succ_eq_append_getElem hk]
  simp only [Cc,foldl_append,foldl_cons,List.foldl_nil]
 .rintro F h ⟨rfl,h2,h3⟩
  rw [take_length] at h3
  simp only [go_sem,↓reduceIte,h3]
 all_goals simp only [go_sem,↓reduceIte]
 all_goals rfl
theorem HX (lo hi:Int):VP V A5Q [.i .i64 lo,.i .i64 hi] Q↔Q (vW (Ds lo hi)):=by
 refine Ae ?_
 rw [Ad C.c_z86.1 C.c_z86.2]
 simp only [A9E,go_sem,↓reduceIte]
 refine Ab (by decide) 64 (by omega) (I:=fun k F h=>h=[]/\A4.tmp F 0 = .i .i64 lo/\A4.tmp F 1 = .i .i64 hi/\A4.tmp F 5=vW (BS fun i=>decide (lo<=(i:Int)/\(i:Int) < hi) && decide (i < k))) ?_ ?_ ?_ 0 _ _ (zero_le _) ?_ ?_
 .rintro k F h hk h1 ⟨rfl,h2,h3,h4⟩
  simp only [go_sem,↓reduceIte,h1,h2,h3,h4]
  exact decide_eq_decide.2 (by omega)
 .rintro k F h hk h1 ⟨rfl,h2,h3,h4⟩
  by_cases c1:lo<=(k:Int)
  .by_cases c2:(k:Int) < hi
   .simp only [go_sem,↓reduceIte,h1,h2,h3,h4,c1,c2,Bi C]
    rw [Rq _ _ hk]
    congr 1
    apply BD
    intro j hj
    by_cases e:j=k
    .subst e;simp [c1,c2]
    .have:(j < k+1)↔(j < k):=by omega
     simp [e,this]
   .simp only [go_sem,↓reduceIte,h1,h2,h3,h4,c1,c2]
    congr 1
    apply BD
    intro j hj
    by_cases e:j=k
    .subst e;simp [c2]
    .have:(j < k+1)↔(j < k):=by omega
     simp [this]
  .simp only [go_sem,↓reduceIte,h1,h2,h3,h4,c1]
   congr 1
   apply BD
   intro j hj
   by_cases e:j=k
   .subst e;simp [c1]
   .have:(j < k+1)↔(j < k):=by omega
    simp [this]
 .rintro F h ⟨rfl,h2,h3,h4⟩
  simp only [go_sem,↓reduceIte,h4]
  congr 1
  apply BD
  intro j hj
  simp [hj]
 all_goals simp only [go_sem,↓reduceIte]
 all_goals first | rfl | (rw [<- J8];congr 1;apply BD;intro j hj;simp)
omit C in
theorem Xn (s t:BitVec 64):decide (s ||| t=t)=decide (s &&& ~~~t=0#64):=by
 apply decide_eq_decide.2
 rw [Aik]
 constructor
 .intro h
  apply B1
  intro j hj
  cases hs:s.getLsbD j with
  | false=>simp [hs]
  | true=>simp [hs,h j hs]
 .intro h j hj
  have:=congrArg (fun w:BitVec 64=>w.getLsbD j) h
  have h0:j < 64:=BitVec.lt_of_getLsbD hj
  simp [hj,h0] at this
  exact this
theorem Qs (r:Rows) (hl:r.length < 9223372036854775807):VP V Vq [lW r] Q↔Q (.b (Dk r)):=by
 refine Ae ?_
 rw [Ad C.c_z152.1 C.c_z152.2]
 by_cases hl:r.length<=64
 .have h0:¬ (64:Int) < r.length:=by omega
  simp only [S1,go_sem,↓reduceIte,h0]
  refine Ab (by decide) r.length (by omega) (I:=fun k F h=>h=[]/\A4.tmp F 0=lW r/\∀ (j:Nat) (hj:j < r.length),j < k->r[j] &&& ~~~(Ds 0 r.length)=0#64) ?_ ?_ ?_ 0 _ _ (zero_le _) ?_ ?_
  .rintro k F h hk h1 ⟨rfl,h2,h3⟩
   simp only [go_sem,↓reduceIte,h1,h2]
   exact h3
  .rintro k F h hk h1 ⟨rfl,h2,h3⟩
   by_cases e:r[k] &&& ~~~(Ds 0 r.length)=0#64
   .simp only [go_sem,↓reduceIte,h1,h2,getElem?_eq_getElem hk,HX C,D4 C,Xn,e]
    intro j hj h4
    by_cases e2:j=k
    .subst e2;exact e
    .exact h3 j hj (by omega)
   .simp only [go_sem,↓reduceIte,h1,h2,getElem?_eq_getElem hk,HX C,D4 C,Xn,e]
    have:(r.all fun x=>decide (x &&& ~~~(Ds 0 r.length)=0#64))=false:=by
     rw [List.all_eq_false]
     exact ⟨_,getElem_mem hk,by simpa using e⟩
    simp [Dk,this]
  .rintro F h ⟨rfl,h2,h3⟩
   simp only [go_sem,↓reduceIte]
   have:(r.all fun x=>decide (x &&& ~~~(Ds 0 r.length)=0#64))=true:=by
    rw [List.all_eq_true]
    intro x hx
    obtain ⟨j,hj,e⟩:=List.mem_iff_getElem.1 hx
    rw [<- e];simpa using h3 j hj hj
   simp [Dk,hl,this]
  all_goals simp only [go_sem,↓reduceIte]
  all_goals first | rfl | (intro j hj h4;omega)
 .have h0:(64:Int) < r.length:=by omega
  simp only [S1,go_sem,↓reduceIte,h0]
  simp [Dk,hl]
theorem MB (s:BitVec 64):VP V A5T [vW s] Q↔Q (lI (Ay s)):=by
 refine Ae ?_
 rw [Ad C.c_z89.1 C.c_z89.2]
 simp only [A9H,go_sem,↓reduceIte]
 refine Ab (by decide) 64 (by omega) (I:=fun k F h=>A4.tmp F 0=vW s/\∃ l,l=(((List.range k).filter fun i=>s.getLsbD i).map fun (i:Nat)=>(i:Int))/\A4.tmp F 3 = .sl 0 l.length 0 l.length/\h=[some (AW AO 1 (l.map eI))]) ?_ ?_ ?_ 0 _ _ (zero_le _) ?_ ?_
 .rintro k F h hk h1 ⟨h2,l,hl,h3,rfl⟩
  simp only [go_sem,↓reduceIte,h1,h2,h3]
  refine ⟨decide_eq_decide.2 (by omega),l,hl,rfl,rfl⟩
 .rintro k F h hk h1 ⟨h2,l,hl,h3,rfl⟩
  have h4:l.length<=k:=by
   rw [hl,length_map]
   exact Nat.le_trans (List.length_filter_le _ _) (by simp)
  have h0:(l.length+1) * 8<=Aa:=by unfold Aa;omega
  cases hb:s.getLsbD k with
  | true =>
   simp only [go_sem,↓reduceIte,h1,h2,h3,B2 C,AC,hb,h0]
   refine ⟨_,?_,by rw [length_append];rfl,rfl⟩
   rw [hl,List.filter_append,List.map_append]
   simp [hb]
  | false =>
   simp only [go_sem,↓reduceIte,h1,h2,h3,B2 C,AC,hb]
   refine ⟨l,?_,rfl,rfl⟩
   rw [hl,List.filter_append]
   simp [hb]
 .rintro F h ⟨h2,l,hl,h3,rfl⟩
  simp only [go_sem,↓reduceIte,h3,hl]
  rfl
 all_goals simp only [go_sem,↓reduceIte]
 all_goals first | rfl | exact ⟨[],rfl,rfl,rfl⟩
theorem XW (a:Rows) (hl0:a.length < 9223372036854775807):VP V V8 [lW a] Q↔Q (lW (BV a)):=by
 refine Ae ?_
 rw [Ad C.c_z131.1 C.c_z131.2]
 cases hm:Dk a with
 | false=>simp only [RZ,go_sem,↓reduceIte,Qs C _ hl0,hm,BV,false_eq_true]
 | true =>
  have hl:=HU hm
  have h0:a.length * 8<=Aa:=by unfold Aa;omega
  simp only [RZ,go_sem,↓reduceIte,Qs C _ hl0,hm,h0,Int.le_refl]
  refine Ab (by decide) a.length (by omega) (I:=fun k F h=>A4.tmp F 0=lW a/\A4.tmp F 3 = .sl 0 0 0 a.length/\h=[some ⟨AK,1,0,false,(Dj a.length k (fun i=>GF a (a.getD i 0#64)) 0#64).map eW⟩]) ?_ ?_ ?_ 0 _ _ (zero_le _) ?_ ?_
  .rintro k F h hk h1 ⟨h2,h3,rfl⟩
   simp only [Ge,go_sem,↓reduceIte,h1,h2,h3]
  .rintro k F h hk h1 ⟨h2,h3,rfl⟩
   simp only [Ge,go_sem,↓reduceIte,h1,h2,h3,B9 hk]
   unfold VL
   rw [A0]
   refine AT (M:=BitVec 64×Bool) (I:=fun m G h2=>h2=[some ⟨AK,1,0,false,(Dj a.length k (fun i=>GF a (a.getD i 0#64)) 0#64).map eW⟩]/\A4.tmp G 0=lW a/\A4.tmp G 3 = .sl 0 0 0 a.length/\A4.tmp G 4 = .i .i64 k/\A4.tmp G 5=vW m.1/\A4.tmp G 6 = .b m.2/\Sub (a.getD k 0#64) m.1/\(∀ u,Sub (a.getD k 0#64) u->QC a u->Sub m.1 u)/\(m.2=false->QC a m.1)) (μ:=fun m=>2 * (18446744073709551616 - m.1.toNat)+(if m.2 then 1 else 0)) ?_ (a.getD k 0#64,true) _ _ ⟨rfl,?_,?_,?_,?_,?_,fun j hj=>hj,fun u hu _=>hu,fun h=>by cases h⟩
   .rintro ⟨t,b⟩ G h7 ⟨rfl,j1,j2,j3,j4,j5,j6,j7,j8⟩
    simp only at j4 j5 j6 j7 j8 ⊢
    cases b with
    | false =>
     have hc:GF a (a.getD k 0#64)=t:=(Zf hl _).uniq ⟨j6,j8 rfl,j7⟩
     have hu:=Xl (n:=a.length) (k:=k) (f:=fun i=>GF a (a.getD i 0#64)) (z:=0#64)
     rw [hc] at hu
     simp only [Ge,go_sem,↓reduceIte,j1,j2,j3,j4,j5,hk,JB hk,hu]
    | true =>
     simp only [Ge,go_sem,↓reduceIte,j1,j2,j3,j4,j5,A0]
     refine Ab (by decide) a.length (by omega) (I:=fun y G h3=>h3=[some ⟨AK,1,0,false,(Dj a.length k (fun i=>GF a (a.getD i 0#64)) 0#64).map eW⟩]/\A4.tmp G 0=lW a/\A4.tmp G 3 = .sl 0 0 0 a.length/\A4.tmp G 4 = .i .i64 k/\∃ t' b',A4.tmp G 5=vW t'/\A4.tmp G 6 = .b b'/\Sub (a.getD k 0#64) t'/\(∀ u,Sub (a.getD k 0#64) u->QC a u->Sub t' u)/\(b' = true->t.toNat < t'.toNat)/\(b' = false->t' = t/\∀ y',y' < y->t.getLsbD y' = true->Sub (a.getD y' 0#64) t)) ?_ ?_ ?_ 0 _ _ (zero_le _) ?_ ?_
     .rintro y E h4 hy p1 ⟨rfl,p2,p3,p4,t',b',p5,p6,p7⟩
      simp only [Ge,go_sem,↓reduceIte,p1,p2,p3,p4,p5,p6]
      exact ⟨t',rfl,p7⟩
     .rintro y E h4 hy p1 ⟨rfl,p2,p3,p4,t',b',p5,p6,p7,p8,p9,h5⟩
      cases hb:t'.getLsbD y with
      | false =>
       simp only [Ge,go_sem,↓reduceIte,p1,p2,p3,p4,p5,p6,B2 C,AC,hb]
       refine ⟨t',rfl,p7,p8,p9,fun hb'=>?_⟩
       obtain ⟨e1,e2⟩:=h5 hb'
       refine ⟨e1,fun y' hy' hty=>?_⟩
       by_cases e:y' = y
       .subst e;rw [e1] at hb;rw [hb] at hty;cases hty
       .exact e2 y' (by omega) hty
      | true =>
       by_cases hs:a.getD y 0#64 ||| t' = t'
       .simp only [Ge,go_sem,↓reduceIte,p1,p2,p3,p4,p5,p6,B2 C,AC,hb,B9 hy,D4 C,hs]
        refine ⟨t',rfl,p7,p8,p9,fun hb'=>?_⟩
        obtain ⟨e1,e2⟩:=h5 hb'
        refine ⟨e1,fun y' hy' hty=>?_⟩
        by_cases e:y' = y
        .subst e
         rw [<- e1]
         exact (Aik _ _).1 hs
        .exact e2 y' (by omega) hty
       .simp only [Ge,go_sem,↓reduceIte,p1,p2,p3,p4,p5,p6,B2 C,AC,hb,B9 hy,D4 C,hs]
        have h6:t'.toNat < (t' ||| a.getD y 0#64).toNat:=Mw (by rw [BitVec.or_comm];exact hs)
        refine ⟨t' ||| a.getD y 0#64,rfl,fun j hj=>by rw [BitVec.getLsbD_or,p7 j hj,Bool.true_or],fun u hu hc j hj=>?_,?_⟩
        .rw [BitVec.getLsbD_or,Bool.or_eq_true] at hj
         rcases hj with hj | hj
         .exact p8 u hu hc j hj
         .exact hc y hy (p8 u hu hc y hb) j hj
        .cases b' with
         | true=>have:=p9 rfl;omega
         | false=>rw [(h5 rfl).1] at h6 ⊢;exact h6
     .rintro E h4 ⟨rfl,p2,p3,p4,t',b',p5,p6,p7,p8,p9,h5⟩
      simp only [Ge,go_sem,↓reduceIte,p2,p3,p4,p5,p6]
      refine ⟨(t',b'),?_,rfl,rfl,p7,p8,fun hb'=>?_⟩
      .cases b' with
       | true=>have:=p9 rfl;have:=t'.isLt;simp only [if_true];omega
       | false=>rw [(h5 rfl).1];simp
      .obtain ⟨e1,e2⟩:=h5 hb'
       rw [e1]
       exact fun y hy hty=>e2 y hy hty
     all_goals simp only [go_sem,↓reduceIte,j1,j2,j3,j4,j5]
     all_goals first | rfl | exact ⟨t,rfl,j6,j7,rfl,fun y' hy'=>by omega⟩
   all_goals simp only [go_sem,↓reduceIte,h1,h2,h3]
  .rintro F h ⟨h2,h3,rfl⟩
   simp only [Ge,go_sem,↓reduceIte,h3,Ho,BV,hm]
  all_goals simp only [go_sem,↓reduceIte]
  all_goals first | rfl | rw [EZ]
theorem A2Q (xs:List Int) (hl:xs.length < 9223372036854775807) (n:Int):VP V A1s [lI xs,.i .i64 n] Q↔Q (.i .i64 (Dx (fun y=>decide (n=y)) xs)):=by
 refine Ae ?_
 rw [Ad C.c_z57.1 C.c_z57.2]
 simp only [A9g,go_sem,↓reduceIte]
 refine Ab (by decide) xs.length hl (I:=fun k F h=>h=[]/\A4.tmp F 0=lI xs/\A4.tmp F 1 = .i .i64 n/\∀ (j:Nat) (hj:j < xs.length),j < k->¬ n=xs[j]) ?_ ?_ ?_ 0 _ _ (zero_le _) ?_ ?_
 .rintro k F h hk h1 ⟨rfl,h2,h3,h4⟩
  simp only [go_sem,↓reduceIte,h1,h2,h3]
  exact h4
 .rintro k F h hk h1 ⟨rfl,h2,h3,h4⟩
  by_cases e:xs[k]=n
  .simp only [go_sem,↓reduceIte,h1,h2,h3,getElem?_eq_getElem hk,e]
   rw [DA hk (by simp [e]) fun j hj=>by simpa using h4 j _ hj]
  .simp only [go_sem,↓reduceIte,h1,h2,h3,getElem?_eq_getElem hk,e]
   intro j hj h0
   by_cases e2:j=k
   .subst e2;exact fun e3=>e e3.symm
   .exact h4 j hj (by omega)
 .rintro F h ⟨rfl,h2,h3,h4⟩
  simp only [go_sem,↓reduceIte]
  rw [Eb fun x hx=>by obtain ⟨j,hj,e⟩:=List.mem_iff_getElem.1 hx;rw [<- e];simpa using h4 j hj hj]
 all_goals simp only [go_sem,↓reduceIte]
 all_goals first | rfl | (intro j hj h0;omega)
theorem AA (t:A1) (n:Int):VP V A5L [vT t,.i .i64 n] Q↔Q (.b (BP t n)):=by
 refine Ae ?_
 rw [Ad C.c_z78.1 C.c_z78.2]
 cases h0:decide (0<=n)<;>simp only [A9x,go_sem,↓reduceIte,h0,BP]
theorem A2M (n:AX):VP V VU [vN n] Q↔Q (.b (Dr n)):=by
 refine Ae ?_
 rw [Ad C.c_z180.1 C.c_z180.2]
 cases c0:decide (0<=n.thread)<;>cases c1:decide (n.kind=3)<;>cases c2:decide (n.mode=0) <;>
  simp only [A03,go_sem,↓reduceIte,c0,c1,c2,Dr]
theorem MA (n:AX):VP V VZ [vN n] Q↔Q (.b (KP n)):=by
 refine Ae ?_
 rw [Ad C.c_z185.1 C.c_z185.2]
 cases c0:decide (n.kind=2)<;>cases c1:decide (n.kind=4)<;>cases c2:decide (n.mode=1)<;>cases c3:decide (n.mode=3) <;>
  simp only [A06,go_sem,↓reduceIte,c0,c1,c2,c3,KP]
theorem Hi (n:AX):VP V WF [vN n] Q↔Q (.b (GA n)):=by
 refine Ae ?_
 rw [Ad C.c_z230.1 C.c_z230.2]
 cases c0:decide (n.kind=3)<;>cases c1:decide (0<=n.thread)<;>cases c4:decide (n.kind=4)<;>cases c2:decide (n.mode=2)<;>cases c3:decide (n.mode=3) <;>
  simp only [A0E,go_sem,↓reduceIte,c0,c1,c2,c3,c4,GA]
theorem Hz (t:A1) (hu:Kt t) (a:Int) {b:Nat} (hb:b < t.nodes.length):VP V A5M [vT t,.i .i64 a,.i .i64 b] Q↔Q (.b (Aw t a b)):=by
 refine Ae ?_
 rw [Ad C.c_z79.1 C.c_z79.2]
 simp only [A9y,go_sem,↓reduceIte,A7 hb]
 unfold VL
 rw [A0]
 refine AT (M:=Int) (I:=fun x F h=>h=[]/\A4.tmp F 3 = .fp (eT t) 0/\A4.tmp F 1 = .i .i64 a/\A4.tmp F 7 = .i .i64 x/\x < t.nodes.length/\NP t a t.nodes.length x=Aw t a b) (μ:=fun x=>(x+1).toNat) ?_ (t.at b).up _ _ ⟨rfl,?_,?_,?_,?_,rfl⟩
 .rintro x F h ⟨rfl,j1,j2,j3,j4,j5⟩
  have h1:∀ y:Int,y < t.nodes.length->NP t a (t.nodes.length+1) y=NP t a t.nodes.length y:=fun y hy=>A3a hu a _ y hy hy
  by_cases c0:0<=x
  .obtain ⟨m,rfl⟩:=eq_ofNat_of_zero_le c0
   have hm:m < t.nodes.length:=by omega
   have h0:=h1 (m:Int) j4
   rw [NP,if_neg (by omega)] at h0
   by_cases c1:(m:Int)=a
   .rw [if_pos c1] at h0
    subst c1
    simp only [A77,go_sem,↓reduceIte,j1,j2,j3,A0]
    rw [<- j5,<- h0]
   .rw [if_neg c1,toNat_natCast] at h0
    have h2:=hu m hm
    simp only [A77,go_sem,↓reduceIte,j1,j2,j3,c1,A0,A7 hm]
    exact ⟨_,by omega,rfl,by omega,by rw [h0,j5]⟩
  .have h0:=h1 x j4
   rw [NP,if_pos (by omega)] at h0
   simp only [A77,go_sem,↓reduceIte,j1,j2,j3,c0]
   rw [<- j5,<- h0]
 .simp only [go_sem,↓reduceIte]
 .simp only [go_sem,↓reduceIte]
 .simp only [go_sem,↓reduceIte]
 .have:=hu b hb;omega
theorem E0 (t:A1) (hu:Kt t) (a b:Int):VP V UN [vT t,.i .i64 a,.i .i64 b] Q↔Q (.b (Ap t a b)):=by
 refine Ae ?_
 rw [Ad C.c_z103.1 C.c_z103.2]
 cases ha:BP t a with
 | false=>simp only [Mb,go_sem,↓reduceIte,AA C,ha,Ap]
 | true =>
  cases hb:BP t b with
  | false=>simp only [Mb,go_sem,↓reduceIte,AA C,ha,hb,Ap]
  | true =>
   obtain ⟨m,rfl,hm⟩:=A8 ha
   obtain ⟨n,rfl,hn⟩:=A8 hb
   cases c:decide ((t.at m).thread < 0) with
   | true =>
    have c':=of_decide_eq_true c
    simp only [Mb,go_sem,↓reduceIte,AA C,ha,hb,Ap,A7 hm,A7 hn,c,if_pos c']
   | false =>
    have c':=of_decide_eq_false c
    simp only [Mb,go_sem,↓reduceIte,AA C,ha,hb,Ap,A7 hm,A7 hn,c,if_neg c',Hz C t hu _ hn]
theorem Ez (t:A1) (hu:Kt t) (a b:Int):VP V A5j [vT t,.i .i64 a,.i .i64 b] Q↔Q (.b (AH t a b)):=by
 refine Ae ?_
 rw [Ad C.c_z29.1 C.c_z29.2]
 cases ha:BP t a with
 | false=>simp only [XE,go_sem,↓reduceIte,AA C,ha,AH]
 | true =>
  cases hb:BP t b with
  | false=>simp only [XE,go_sem,↓reduceIte,AA C,ha,hb,AH]
  | true =>
   obtain ⟨m,rfl,hm⟩:=A8 ha
   obtain ⟨n,rfl,hn⟩:=A8 hb
   by_cases e:(m:Int)=n
   .simp only [XE,go_sem,↓reduceIte,AA C,ha,hb,AH,e]
   .cases c0:decide (0<=(t.at m).thread)<;>cases c1:decide ((t.at m).thread=(t.at n).thread)<;>cases c2:Aw t (m:Int) n <;>
     simp only [XE,go_sem,↓reduceIte,AA C,ha,hb,AH,e,A7 hm,A7 hn,c0,c1,c2,Hz C t hu _ hn,Hz C t hu _ hm]
end
theorem H8 {k:Nat} (h0:0 < k) (h:k < 9223372036854775807):IntKind.i64.wrap ((k:Int) - 1)=((k - 1:Nat):Int):=by rw [Az (by omega) (by omega)];omega
section
variable {V:At} (C:Aq V) {Q:VV->Prop}
include C
theorem Ao (xs:List Int) (hl:xs.length < 9223372036854775807) (n:Int):VP V A1s [lI xs,.i .i64 n] Q↔Q (.i .i64 (LD xs n)):=A2Q C xs hl n
theorem A1M (s:A6) (hs:DL s) (n:Int):VP V VW [Dy s,.i .i64 n] Q↔Q (.i .i64 (Qz s n)):=by
 refine Ae ?_
 rw [Ad C.c_z181.1 C.c_z181.2]
 have hl:=hs.has
 unfold Qz
 cases h:AU s.has n with
 | false =>
  simp only [PM,go_sem,↓reduceIte,Ao C s.has (by omega),Ab0 h,Int.reduceNeg,Int.reduceLT]
 | true =>
  obtain ⟨k,e,hk,_⟩:=Gx h
  have h0:¬ (k:Int) < 0:=by omega
  by_cases h1:s.jf.length<=k
  .simp only [PM,go_sem,↓reduceIte,Ao C s.has (by omega),e,h0,h1]
  .simp only [PM,go_sem,↓reduceIte,Ao C s.has (by omega),e,h0,h1,Ar (show k < s.jf.length by omega)]
theorem Rl (a b:AX) (pa pb:Int):VP V Vt [vN a,vN b,.i .i64 pa,.i .i64 pb] Q↔Q (.b (Dg a b pa pb)):=by
 refine Ae ?_
 rw [Ad C.c_z153.1 C.c_z153.2]
 cases c0:decide (a.kind=2)<;>cases c1:decide (a.kind=3)<;>cases c2:decide (b.kind=2)<;>cases c3:decide (b.kind=3)<;>cases c4:decide (a.loc=b.loc) <;>
  simp only [ZN,go_sem,↓reduceIte,c0,c1,c2,c3,c4,Dg]<;>simp_all
theorem Ki (s:A6) (hs:DL s) (loc w:Int):VP V V4 [Dy s,.i .i64 loc,.i .i64 w] Q↔Q (.i .i64 (Be s loc w)):=by
 refine Ae ?_
 rw [Ad C.c_z127.1 C.c_z127.2]
 unfold Be
 by_cases h0:loc < 0
 .simp only [PG,go_sem,↓reduceIte,h0]
 .obtain ⟨k,rfl⟩:=eq_ofNat_of_zero_le (by omega:0<=loc)
  by_cases h1:s.mo.length<=k
  .simp only [PG,go_sem,↓reduceIte,h0,h1]
  .have hk:k < s.mo.length:=by omega
   have hl:=hs.mi' k
   have hc:=hs.mc' k
   simp only [PG,go_sem,↓reduceIte,h0,h1]
   generalize hm:s.mo.getD k []=m at *
   refine Ab (by decide) m.length (by omega) (I:=fun j F h=>h=[]/\A4.tmp F 1 = .i .i64 k/\A4.tmp F 2 = .i .i64 w/\A4.tmp F 3 = .fp (Je s) 0/\∀ (i:Nat) (hi:i < m.length),i < j->AU m[i] w=false) ?_ ?_ ?_ 0 _ _ (zero_le _) ?_ ?_
   .rintro j F h hj p1 ⟨rfl,p2,p3,p4,p5⟩
    simp only [go_sem,↓reduceIte,p1,p2,p3,p4,C1 hk,hm]
    exact p5
   .rintro j F h hj p1 ⟨rfl,p2,p3,p4,p5⟩
    have h2:=hc j
    rw [List.getD_eq_getElem?_getD,getElem?_eq_getElem hj,Option.getD_some] at h2
    cases e:AU m[j] w with
    | true =>
     simp only [go_sem,↓reduceIte,p1,p2,p3,p4,C1 hk,hm,getElem?_eq_getElem hj,Ao C m[j] (by omega),EB,e]
     rw [DA hj e fun i hi=>p5 i (by omega) hi]
    | false =>
     simp only [go_sem,↓reduceIte,p1,p2,p3,p4,C1 hk,hm,getElem?_eq_getElem hj,Ao C m[j] (by omega),EB,e]
     intro i hi h3
     by_cases e2:i=j
     .subst e2;exact e
     .exact p5 i hi (by omega)
   .rintro F h ⟨rfl,p2,p3,p4,p5⟩
    simp only [go_sem,↓reduceIte]
    rw [Eb fun x hx=>by obtain ⟨j,hj,e⟩:=List.mem_iff_getElem.1 hx;rw [<- e];exact p5 j hj hj]
   all_goals simp only [go_sem,↓reduceIte]
   all_goals first | rfl | (intro j hj h4;omega)
theorem A2L (t:A1) (ht:t.nodes.length<=1000):VP V VT [vT t] Q↔Q (vW (Gc t)):=by
 refine Ae ?_
 rw [Ad C.c_z179.1 C.c_z179.2]
 simp only [A02,go_sem,↓reduceIte]
 refine Ab (by decide) t.nodes.length (by omega) (I:=fun k F h=>h=[]/\A4.tmp F 1 = .fp (eT t) 0/\A4.tmp F 3=vW (BS fun i=>decide (i < k) && decide ((t.at i).up < 0))) ?_ ?_ ?_ 0 _ _ (zero_le _) ?_ ?_
 .rintro k F h hk p1 ⟨rfl,p2,p3⟩
  simp only [go_sem,↓reduceIte,p1,p2,p3]
 .rintro k F h hk p1 ⟨rfl,p2,p3⟩
  by_cases e:(t.at k).up < 0
  .simp only [go_sem,↓reduceIte,p1,p2,p3,A7 hk,e,Bi C]
   by_cases h64:k < 64
   .rw [Rq _ _ h64]
    congr 1
    apply BD
    intro j hj
    by_cases e2:j=k
    .subst e2;simp [e]
    .have:(j < k+1)↔(j < k):=by omega
     simp [this,e2]
   .have:C4 (k:Int)=0#64:=by unfold C4;rw [if_neg (by omega)]
    rw [this,BitVec.or_zero]
    congr 1
    apply BD
    intro j hj
    have:(j < k+1)↔(j < k):=by omega
    simp [this]
  .simp only [go_sem,↓reduceIte,p1,p2,p3,A7 hk,e]
   congr 1
   apply BD
   intro j hj
   by_cases e2:j=k
   .subst e2;simp [e]
   .have:(j < k+1)↔(j < k):=by omega
    simp [this]
 .rintro F h ⟨rfl,p2,p3⟩
  simp only [go_sem,↓reduceIte,p3,Gc]
 all_goals simp only [go_sem,↓reduceIte]
 all_goals first | rfl | (rw [<- J8];congr 1;apply BD;intro j hj;simp)
theorem A2T (t:A1) (ht:t.nodes.length<=1000) (l:List Int) (hl:l.length<=1000):VP V V0 [vT t,lI l] Q↔Q (.b (Cz t l)):=by
 refine Ae ?_
 rw [Ad C.c_z124.1 C.c_z124.2]
 simp only [Zv,go_sem,↓reduceIte]
 refine Ab (by decide) l.length (by omega) (I:=fun k F h=>h=[]/\A4.tmp F 1=lI l/\A4.tmp F 2 = .fp (eT t) 0/\∀ j,j < k->Cs t l j=true) ?_ ?_ ?_ 0 _ _ (zero_le _) ?_ ?_
 .rintro k F h hk p1 ⟨rfl,p2,p3,p4⟩
  simp only [go_sem,↓reduceIte,p1,p2,p3]
  exact p4
 .rintro k F h hk p1 ⟨rfl,p2,p3,p4⟩
  have h1:Cs t l k=false->false=Cz t l:=fun h=>by rw [Cz,AP hk h];rfl
  have good:Cs t l k=true->∀ j,j < k+1->Cs t l j=true:=fun h j hj=>by
   by_cases e:j=k
   .rw [e];exact h
   .exact p4 j (by omega)
  cases c0:BP t (l.getD k 0) with
  | false =>
   simp only [go_sem,↓reduceIte,p1,p2,p3,Ar hk,AA C,c0]
   exact h1 (by rw [Cs,c0];rfl)
  | true =>
   obtain ⟨n,hn,h2⟩:=A8 c0
   have h0:Cs t l k=(Di l k && (decide ((t.at n).up < 0) || AU l (t.at n).up)):=by
    unfold Cs
    rw [c0,hn,toNat_natCast,Bool.true_and]
   rw [hn] at c0
   by_cases z:k=0
   .subst z
    have hr:Di l 0=true:=by simp [Di]
    rw [hr,Bool.true_and] at h0
    have z0:¬ (0:Int) < ((0:Nat):Int):=by omega
    by_cases u0:0<=(t.at n).up
    .have u1:¬ (t.at n).up < 0:=by omega
     rw [decide_eq_false u1,Bool.false_or] at h0
     cases u2:AU l (t.at n).up<;>rw [u2] at h0 <;>
      simp only [go_sem,↓reduceIte,p1,p2,p3,Ar hk,AA C,c0,z0,hn,A7 h2,u0,Ao C l (by omega),Cg,u2]
     .exact h1 h0
     .exact good h0
    .have u1:(t.at n).up < 0:=by omega
     rw [decide_eq_true u1,Bool.true_or] at h0
     simp only [go_sem,↓reduceIte,p1,p2,p3,Ar hk,AA C,c0,z0,hn,A7 h2,u0]
     exact good h0
   .have z0:(0:Int) < (k:Int):=by omega
    have zw:=H8 (show 0 < k by omega) (by omega)
    have h3:k - 1 < l.length:=by omega
    have hr:Di l k = !decide ((n:Int)<=l.getD (k - 1) 0):=by
     unfold Di
     rw [decide_eq_false z,Bool.false_or,hn]
     by_cases c:(n:Int)<=l.getD (k - 1) 0
     .rw [decide_eq_true c,decide_eq_false (by omega)];rfl
     .rw [decide_eq_false c,decide_eq_true (by omega)];rfl
    cases c1:decide ((n:Int)<=l.getD (k - 1) 0) with
    | true =>
     rw [c1] at hr
     rw [hr] at h0
     simp only [go_sem,↓reduceIte,p1,p2,p3,Ar hk,AA C,c0,z0,zw,Ar h3,hn,c1]
     exact h1 h0
    | false =>
     rw [c1] at hr
     rw [hr] at h0
     simp only [Bool.not_false,Bool.true_and] at h0
     by_cases u0:0<=(t.at n).up
     .have u1:¬ (t.at n).up < 0:=by omega
      rw [decide_eq_false u1,Bool.false_or] at h0
      cases u2:AU l (t.at n).up<;>rw [u2] at h0 <;>
       simp only [go_sem,↓reduceIte,p1,p2,p3,Ar hk,AA C,c0,z0,zw,Ar h3,hn,c1,A7 h2,u0,Ao C l (by omega),Cg,u2]
      .exact h1 h0
      .exact good h0
     .have u1:(t.at n).up < 0:=by omega
      rw [decide_eq_true u1,Bool.true_or] at h0
      simp only [go_sem,↓reduceIte,p1,p2,p3,Ar hk,AA C,c0,z0,zw,Ar h3,hn,c1,A7 h2,u0]
      exact good h0
 .rintro F h ⟨rfl,p2,p3,p4⟩
  simp only [go_sem,↓reduceIte,p2,p3,A2L C t ht,NF C l (by omega),D4 C]
  rw [Cz,AQ p4];rfl
 all_goals simp only [go_sem,↓reduceIte]
 all_goals first | rfl | (intro j hj;omega)
theorem A2R (t:A1) (hu:Kt t) (l has:List Int) (hl:l.length<=1000) (hh:has.length<=1000) (hv:∀ n∈has,BP t n=true) (loc:Int):VP V V2 [vT t,lI l,lI has,.i .i64 loc] Q↔Q (.b (CE t l has loc)):=by
  refine Ae ?_
  rw [Ad C.c_z125.1 C.c_z125.2]
  by_cases z:l.length=0
  · have z' : (l.length : Int) = 0 := by omega
    simp only [RY,go_sem,↓reduceIte,z']
    simp [CE,z]
  have z':¬ (l.length:Int)=0:=by omega
  simp only [RY,go_sem,↓reduceIte,z']
  refine Ab (by decide) l.length (by omega) (I:=fun k F h=>h=[]/\A4.tmp F 1=lI l/\A4.tmp F 2=lI has/\A4.tmp F 3 = .i .i64 loc/\A4.tmp F 4 = .fp (eT t) 0/\∀ j,j < k->BA t l has loc j=true) ?_ ?_ ?_ 0 _ _ (zero_le _) ?_ ?_
  · rintro k F h hk p1 ⟨rfl, p2, p3, p4, p5, p6⟩
    simp only [go_sem,↓reduceIte,p1,p2,p3,p4,p5]
    exact p6
  · rintro k F h hk p1 ⟨rfl, p2, p3, p4, p5, p6⟩
    have h2:BA t l has loc k=false->false=CE t l has loc:=fun h=>by rw [CE,AP hk h];simp
    have good:BA t l has loc k=true->∀ j,j < k+1->BA t l has loc j=true:=fun h j hj=>by
      by_cases e:j=k
      · rw [e];exact h
      · exact p6 j (by omega)
    cases c0:AU has (l.getD k 0) with
    | false =>
      simp only [go_sem,↓reduceIte,p1,p2,p3,p4,p5,Ar hk,Ao C has (by omega),Cg,c0]
      exact h2 (by rw [BA,c0];rfl)
    | true =>
      obtain ⟨n,hn,h5⟩:=A8 (hv _ (A9.1 c0))
      have h0:BA t l has loc k=(Di l k && (decide ((t.at n).kind=3) && decide ((t.at n).loc=loc)) && decide (0<=(t.at n).thread) && (List.range k).all fun j=>Ba t (l.getD k 0) (l.getD j 0)):=by
        unfold BA HT
        rw [c0,hn,toNat_natCast,Bool.true_and]
      have h1:Di l k=(decide (k=0) || decide (l.getD (k - 1) 0 < (n:Int))):=by rw [Di,hn]
      rw [hn] at c0
      have h4:∀ (hr:Di l k=true) (hd:decide ((t.at n).kind=3)=true) (he:decide ((t.at n).loc=loc)=true) (hf:decide ((t.at n).thread < 0)=false) (G:A4) (Q':Ex->A4->VH->Prop)
          (g1:A4.tmp G 1=lI l) (g2:A4.tmp G 2=lI has) (g3:A4.tmp G 3 = .i .i64 loc) (g4:A4.tmp G 4 = .fp (eT t) 0) (g9:A4.tmp G 9 = .i .i64 k) (ha:A4.tmp G 10 = .p 0 0 0 0) (hb:A4.tmp G 11 = .i .i64 0)
          (q1:∀ G' h',A4.tmp G' 1=lI l->A4.tmp G' 2=lI has->A4.tmp G' 3 = .i .i64 loc->A4.tmp G' 4 = .fp (eT t) 0->A4.tmp G' 9 = .i .i64 k->BA t l has loc k=true->Q' .norm G' h') (q2:∀ G' h',A4.tmp G' 8 = .b false->BA t l has loc k=false->Q' .ret G' h'),
          VL V PZ 2 Adu G [some ⟨Ck,0,0,false,[eN (t.at n)]⟩] Q':=by
        intro hr hd he hf G Q' g1 g2 g3 g4 g9 ha hb q1 q2
        have h9:decide (0<=(t.at n).thread)=true:=by simp at hf ⊢;omega
        rw [hr,hd,he,h9] at h0
        simp only [Bool.and_self,Bool.true_and] at h0
        refine Ab (by decide) k (by omega) (I:=fun j F h=>h=[some ⟨Ck,0,0,false,[eN (t.at n)]⟩]/\A4.tmp F 1=lI l/\A4.tmp F 2=lI has/\A4.tmp F 3 = .i .i64 loc/\A4.tmp F 4 = .fp (eT t) 0/\A4.tmp F 9 = .i .i64 k/\A4.tmp F 10 = .p 0 0 0 0/\∀ i,i < j->Ba t (l.getD k 0) (l.getD i 0)=true) ?_ ?_ ?_ 0 _ _ (zero_le _) hb ⟨rfl,g1,g2,g3,g4,g9,ha,fun i hi=>by omega⟩
        · rintro j F h hj r1 ⟨rfl, r2, r3, r4, r5, r6, r7, r8⟩
          simp only [go_sem,↓reduceIte,r1,r2,r3,r4,r5,r6,r7]
          exact r8
        · rintro j F h hj r1 ⟨rfl, r2, r3, r4, r5, r6, r7, r8⟩
          have hg:j < l.length:=by omega
          have c1:AU has (l.getD j 0)=true:=by
            have:=p6 j hj
            unfold BA at this
            simp only [Bool.and_eq_true] at this
            exact this.1.1.1.1
          obtain ⟨n2,hc,h7⟩:=A8 (hv _ (A9.1 c1))
          have h8:Ba t (l.getD k 0) (l.getD j 0)=(Dr (t.at n) && Dr (t.at n2) && decide ((t.at n).val=(t.at n2).val) && AH t n n2):=by
            unfold Ba;rw [hn,hc,toNat_natCast,toNat_natCast]
          have h6:Ba t (l.getD k 0) (l.getD j 0)=false->BA t l has loc k=false:=fun h=>by rw [h0];exact AP hj h
          have h3:Ba t (l.getD k 0) (l.getD j 0)=true->∀ i,i < j+1->Ba t (l.getD k 0) (l.getD i 0)=true:=fun h i hi=>by
            by_cases e:i=j
            · rw [e];exact h
            · exact r8 i (by omega)
          cases y1:Dr (t.at n)<;>cases y2:Dr (t.at n2)<;>cases y3:decide ((t.at n).val=(t.at n2).val)<;>cases y4:AH t n n2<;>rw [y1,y2,y3,y4] at h8 <;>
            simp only [go_sem,↓reduceIte,r1,r2,r3,r4,r5,r6,r7,Ar hk,Ar hg,hn,hc,A7 h7,A2M C,Ez C t hu,y1,y2,y3,y4]
          all_goals first
            | exact q2 _ _ (by simp only [go_sem,↓reduceIte]) (h6 h8)
            | (have:=h3 h8;rw [hn] at this;exact this)
        · rintro F h ⟨rfl, r2, r3, r4, r5, r6, r7, r8⟩
          exact q1 _ _ r2 r3 r4 r5 r6 (by rw [h0];exact AQ r8)
      have zb:(k=0/\decide ((0:Int) < (k:Int))=false)\/(0 < k/\decide ((0:Int) < (k:Int))=true):=by
        rcases Nat.eq_zero_or_pos k with h | h
        · exact .inl ⟨h,by simp [h]⟩
        · exact .inr ⟨h,by simp;omega⟩
      have hm:k - 1 < l.length:=by omega
      rcases zb with ⟨zk,z0⟩ | ⟨zk,z0⟩
      · have hr : Di l k = true := by rw [h1, zk]; rfl
        simp only [go_sem,↓reduceIte,p1,p2,p3,p4,p5,Ar hk,Ao C has (by omega),Cg,hn,c0,z0,A7 h5]
        repeat' first
          | (refine BT (fun hx=>?_) (fun hx=>?_)<;>simp only [go_sem,↓reduceIte,p1,p2,p3,p4,p5,hx])
          | (refine Bp (fun hx=>?_) (fun hx=>?_)<;>simp only [go_sem,↓reduceIte,p1,p2,p3,p4,p5,hx])
        all_goals first
          | exact h2 (by rw [h0];simp_all)
          | (refine h4 hr (by simp_all) (by simp_all) (by assumption) _ _ ?_ ?_ ?_ ?_ ?_ ?_ ?_ ?_ ?_
             all_goals try simp only [go_sem,↓reduceIte,p1,p2,p3,p4,p5]
             · intro G' e1 e2 e3 e4 e5 e6
               simp only [e1,e2,e3,e4,e5,go_sem]
               exact good e6
             · intro G' h' e1 e2
               simp only [e1,go_sem,h2 e2])
      · have zw := H8 zk (by omega)
        simp only [go_sem,↓reduceIte,p1,p2,p3,p4,p5,Ar hk,Ar hm,Ao C has (by omega),Cg,hn,c0,z0,zw,A7 h5]
        repeat' first
          | (refine BT (fun hx=>?_) (fun hx=>?_)<;>simp only [go_sem,↓reduceIte,p1,p2,p3,p4,p5,Ar hk,hn,hx,A7 h5])
          | (refine Bp (fun hx=>?_) (fun hx=>?_)<;>simp only [go_sem,↓reduceIte,p1,p2,p3,p4,p5,Ar hk,hn,hx,A7 h5])
        all_goals first
          | exact h2 (by rw [h0,h1];simp_all;try omega)
          | (refine h4 (by rw [h1];simp_all) (by simp_all) (by simp_all) (by assumption) _ _ ?_ ?_ ?_ ?_ ?_ ?_ ?_ ?_ ?_
             all_goals try simp only [go_sem,↓reduceIte,p1,p2,p3,p4,p5]
             · intro G' e1 e2 e3 e4 e5 e6
               simp only [e1,e2,e3,e4,e5,go_sem]
               exact good e6
             · intro G' h' e1 e2
               simp only [e1,go_sem,h2 e2])
  · rintro F h ⟨rfl, p2, p3, p4, p5, p6⟩
    simp only [go_sem,↓reduceIte]
    rw [CE,AQ p6];simp [z]
  all_goals simp only [go_sem,↓reduceIte]
  all_goals first | rfl | (intro j hj;omega)
end
end Go.AM
