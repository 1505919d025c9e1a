/-
  Own work, part of the proof of these laws: what functions compute.
-/
import Derived.Test.YtpnaenhghnkggaaGreatDoorCoG
import Derived.Test.YtpnaenhghnkggaaGreatDoorPB
set_option maxRecDepth 10000
set_option maxHeartbeats 64000000
set_option linter.unusedVariables false
set_option linter.unusedSimpArgs false
set_option linter.unusedSectionVars false
set_option linter.unnecessarySimpa false
open Int (toNat_natCast eq_ofNat_of_zero_le)
open List (getElem?_eq_getElem length_map length_append getElem_mem take_length foldl_cons foldl_append)
open Nat (zero_le)
open Bool (false_eq_true)
namespace Go.AM
open Go Go.Proofs
section
variable {V:Ai}(C:Am V){Q:VV->Prop}
include C
theorem Jf(i:Int):VP V A8i [.i .i64 i] Q↔Q (vW (BC i)):=by
 refine Af ?_
 rw[Ad C.c_z93.1 C.c_z93.2]
 unfold BC
 by_cases h0:i<0
 .simp only[A0F,go_sem,h0]
  rw[if_neg (by omega)]
 .by_cases h1:64<=i
  .simp only[A0F,go_sem,h0,h1]
   rw[if_neg (by omega)]
  .obtain⟨n,rfl⟩:=eq_ofNat_of_zero_le (by omega:0<=i)
   simp only[A0F,go_sem,h0,h1,Amh (show n<64 by omega)]
   rw[if_pos (by omega)]
theorem AS(s:BitVec 64)(i:Int):VP V A88 [vW s,.i .i64 i] Q↔Q (.b (Bh s i)):=by
 refine Af ?_
 rw[Ad C.c_z73.1 C.c_z73.2]
 simp only[Ace,go_sem,Jf C,Ag6]
theorem C5(s:BitVec 64)(i:Int):VP V XT [vW s,.i .i64 i] Q↔Q (vW (s|||BC i)):=by
 refine Af ?_
 rw[Ad C.c_z122.1 C.c_z122.2]
 simp only[A2W,go_sem,Jf C]
theorem Hz(s t:BitVec 64):VP V A7T [vW s,vW t] Q↔Q (.b (decide (s&&&~~~t=0#64))):=by
 refine Af ?_
 rw[Ad C.c_z41.1 C.c_z41.2]
 simp only[AbW,go_sem]
theorem D4(xs:List Int)(hl:xs.length<9223372036854775807):VP V A1g [lI xs] Q↔Q (vW (BI xs)):=by
 refine Af ?_
 rw[Ad C.c_z39.1 C.c_z39.2]
 simp only[AbU,go_sem]
 refine Aj (by decide) xs.length hl (I:=fun k F h=>h=[]/\A3.tmp F 6=lI xs/\A3.tmp F 3=vW (BI (xs.take k))) ?_ ?_ 0 _ _ (by omega) ?_ ?_ ?_
 .rintro k F h hk h1 h2 ⟨rfl,h3,h4⟩
  simp only[go_sem,h1,h2,h3,h4,getElem?_eq_getElem hk,Jf C]
  rw[List.take_succ_eq_append_getElem hk]
  simp only[BI,foldl_append,foldl_cons,List.foldl_nil]
 .rintro F h ⟨rfl,h3,h4⟩
  rw[take_length]at h4
  simp only[go_sem,h4]
 all_goals simp only[go_sem]
 all_goals rfl
theorem Mg(lo hi:Int)(hlo:lo<9223372036854775808):VP V R6 [.i .i64 lo,.i .i64 hi] Q↔Q (vW (CZ lo hi)):=by
 refine Af ?_
 rw[Ad C.c_z141.1 C.c_z141.2]
 have hm:XF false hi 64=min hi 64:=by unfold XF;simp only[cond_false];split<;>omega
 have h0:XF true lo 0=max lo 0:=by unfold XF;simp only[cond_true];split<;>omega
 simp only[A39,go_sem]
 unfold VL
 rw[A0]
 refine AJ (M:=Nat) (I:=fun k F h=>h=[]/\A3.tmp F 1=.i .i64 hi/\A3.tmp F 6=.i .i64 k/\A3.tmp F 5=vW (BR fun i=>decide (lo<=(i:Int)/\i<k))/\lo<=k/\(k:Int)<=max lo (max 0 (min hi 64))) (μ:=fun k=>64-k) ?_ (max lo 0).toNat _ _ ⟨rfl,?_,?_,?_,?_,?_⟩
 .rintro k F h ⟨rfl,h1,h2,h3,h4,h5⟩
  by_cases hk:(k:Int)<min hi 64
  .simp only[Ve,go_sem,h1,h2,h3,hm,hk,A0,Jf C]
   have hw:IntKind.i64.wrap ((k:Int)+1)=((k+1:Nat):Int):=by rw[Ax (by omega) (by omega)];omega
   refine⟨k+1,by omega,?_⟩
   rw[hw]
   refine⟨rfl,?_,by omega,by omega⟩
   rw[MJ _ _ (by omega)]
   congr 1
   apply Bx
   intro j hj
   by_cases e:j=k
   .subst e;simp;omega
   .by_cases e2:j<k
    .have:j<k+1:=by omega
     simp[e,e2,this]
    .have:¬j<k+1:=by omega
     simp[e,e2,this]
  .simp only[Ve,go_sem,h1,h2,h3,hm,hk,Nat.beq_refl]
   congr 1
   apply Bx
   intro j hj
   by_cases e:lo<=(j:Int)
   .have:(j<k)↔((j:Int)<hi):=by omega
    simp[e,this]
   .simp[e]
 .simp only[go_sem]
 .simp only[go_sem,h0]
  omega
 .simp only[go_sem]
  rw[<- GH]
  congr 1
  apply Bx
  intro j hj
  simp
  omega
 .omega
 .omega
theorem Qj(xs:List Int)(i:Int)(hl:xs.length<1000){Q:VV->VH->Prop}:Lx V Nf [.p 1 0 0 0,.i .i64 i] [some (AN AG 1 (xs.map eI)),some ⟨GJ,0,0,false,[[.sl 0 xs.length 0 xs.length]]⟩] Q ↔
  Q (.tu []) [some (AN AG 1 ((xs++[i]).map eI)),some ⟨GJ,0,0,false,[[.sl 0 (xs++[i]).length 0 (xs++[i]).length]]⟩]:=by
 refine MX ?_
 rw[G4 C.h_z100]
 have h1:(xs.length+1) * 8<=A6:=by unfold A6;omega
 simp only[A2L,go_sem,h1]
theorem Auu(s:BitVec 64)(h:s≠0#64):VP V AY [vW s] Q↔Q (.i .i64 (Lib.ctz 64 s.toNat:Nat)):=by
 refine Af ?_
 unfold VP
 rw[C.c_mathbits_TrailingZeros64]
 have:=s.isLt
 refine⟨.i .i64 (Lib.ctz 64 s.toNat:Nat),?_,rfl,rfl⟩
 unfold A5I vW
 simp only
 rw[if_pos (by omega),toNat_natCast]
theorem A0f(s:BitVec 64):Lx V P5 [vW s,.f Nf [.p 1 0 0 0] []] [some DT,some ⟨GJ,0,0,false,[[.sl 0 0 0 0]]⟩]
  fun _ h=>h=[some (AN AG 1 ((AC s).map eI)),some ⟨GJ,0,0,false,[[.sl 0 (AC s).length 0 (AC s).length]]⟩]:=by
 rw[G4 C.h_z99]
 simp only[Tq,go_sem]
 unfold VL
 rw[A0]
 refine AJ (M:=BitVec 64×List Nat) (I:=fun x F h=>A3.tmp F 0=vW x.1/\A3.tmp F 1=.f Nf [.p 1 0 0 0] []/\x.2++BP x.1=BP s/\h=[some (AN AG 1 ((x.2.map fun(i:Nat)=>(i:Int)).map eI)),some ⟨GJ,0,0,false,[[.sl 0 x.2.length 0 x.2.length]]⟩]) (μ:=fun x=>(BP x.1).length) ?_ (s,[]) _ _ ⟨?_,?_,rfl,rfl⟩
 .rintro⟨t,l⟩ F h ⟨h1,h2,h3,rfl⟩
  simp only at h1 h2 h3 ⊢
  by_cases ht:t=0#64
  .subst ht
   rw[A4v,List.append_nil]at h3
   simp only[go_sem,h1,h2,AC,h3]
  .have hs:=A4u ht
   have hl:l.length<1000:=by
    have:=congrArg List.length h3
    have h4:=Cz s
    simp only[AC,length_map,length_append]at this h4
    omega
   have hx:=fun Q=>Qj C (l.map fun(i:Nat)=>(i:Int)) (Lib.ctz 64 t.toNat:Nat) (by simpa using hl) (Q:=Q)
   simp only[length_map,length_append,List.length_cons,List.length_nil]at hx
   simp only[go_sem,h1,h2,ht,A0,Auu C t ht]
   rw[hx]
   refine⟨?_,(t&&&(t-1#64),l++[Lib.ctz 64 t.toNat]),?_,rfl,?_,?_⟩
   .simp only[go_sem]
   .rw[hs];simp
   .rw[<- h3,hs];simp
   .simp
 all_goals simp only[go_sem]
theorem Dl(s:BitVec 64):VP V Tx [vW s] Q↔Q (lI (AC s)):=by
 refine Af ?_
 rw[Ad C.c_z44.1 C.c_z44.2]
 simp only[AbY,go_sem,Ru]
 obtain⟨vf,h1,h2⟩:=A0f C s
 refine⟨vf,h1,h2.mono ?_⟩
 rintro v _ rfl
 simp only[go_sem]
theorem AZ(xs:List Int)(n:Int)(hl:xs.length<9223372036854775807):VP V XH [lI xs,.i .i64 n] Q↔Q (.i .i64 (CE (fun y=>decide (n=y)) xs)):=by
 refine Af ?_
 rw[Ad C.c_z101.1 C.c_z101.2]
 simp only[A2M,go_sem]
 refine Aj (by decide) xs.length hl (I:=fun k F h=>h=[]/\A3.tmp F 0=lI xs/\A3.tmp F 1=.i .i64 n/\∀(j:Nat) (hj:j<xs.length),j<k->¬n=xs[j]) ?_ ?_ 0 _ _ (by omega) ?_ ?_ ?_
 .rintro k F h hk h1 h2 ⟨rfl,h3,h4,h5⟩
  by_cases e:n=xs[k]
  .subst e
   simp only[go_sem,h1,h2,h3,h4,getElem?_eq_getElem hk]
   rw[DC hk (by simp) fun j hj=>by simpa using h5 j (by omega) hj]
  .simp only[go_sem,h1,h2,h3,h4,getElem?_eq_getElem hk,e]
   intro j hj h0
   by_cases e2:j=k
   .subst e2;exact e
   .exact h5 j hj (by omega)
 .rintro F h ⟨rfl,h3,h4,h5⟩
  simp only[go_sem]
  rw[DB fun x hx=>by obtain⟨j,hj,e⟩:=List.mem_iff_getElem.1 hx;rw[<- e];simpa using h5 j hj hj]
 all_goals simp only[go_sem]
 all_goals first|rfl|(intro j hj h0;omega)
theorem H5(xs:List Int)(n:Int)(hl:xs.length<9223372036854775807):VP V XJ [lI xs,.i .i64 n] Q↔Q (.b (xs.any fun y=>decide (n=y))):=by
 refine Af ?_
 rw[Ad C.c_z104.1 C.c_z104.2]
 simp only[A2P,go_sem,AZ C _ _ hl,KG]
theorem G0(xs:List ByteArray)(n:ByteArray)(hl:xs.length<9223372036854775807):VP V YP [lS xs,.s n] Q↔Q (.i .i64 (CE (fun y=>decide (n=y)) xs)):=by
 refine Af ?_
 rw[Ad C.c_z230.1 C.c_z230.2]
 simp only[A41,go_sem]
 refine Aj (by decide) xs.length hl (I:=fun k F h=>h=[]/\A3.tmp F 0=lS xs/\A3.tmp F 1=.s n/\∀(j:Nat) (hj:j<xs.length),j<k->¬n=xs[j]) ?_ ?_ 0 _ _ (by omega) ?_ ?_ ?_
 .rintro k F h hk h1 h2 ⟨rfl,h3,h4,h5⟩
  by_cases e:n=xs[k]
  .subst e
   simp only[go_sem,h1,h2,h3,h4,getElem?_eq_getElem hk]
   rw[DC hk (by simp) fun j hj=>by simpa using h5 j (by omega) hj]
  .simp only[go_sem,h1,h2,h3,h4,getElem?_eq_getElem hk,e]
   intro j hj h0
   by_cases e2:j=k
   .subst e2;exact e
   .exact h5 j hj (by omega)
 .rintro F h ⟨rfl,h3,h4,h5⟩
  simp only[go_sem]
  rw[DB fun x hx=>by obtain⟨j,hj,e⟩:=List.mem_iff_getElem.1 hx;rw[<- e];simpa using h5 j hj hj]
 all_goals simp only[go_sem]
 all_goals first|rfl|(intro j hj h0;omega)
theorem Eo(xs:List ByteArray)(n:ByteArray)(hl:xs.length<9223372036854775807):VP V Yy [lS xs,.s n] Q↔Q (.b (xs.any fun y=>decide (n=y))):=by
 refine Af ?_
 rw[Ad C.c_z203.1 C.c_z203.2]
 simp only[A3J,go_sem,G0 C _ _ hl,KG]
theorem E3(xs:List (BitVec 64))(hl:xs.length<9223372036854775807){g:Nat}{a c:List VV}(ha:Fz a)(hc:Fz c)(p:(BitVec 64)->Bool)(hf:∀x,VP V g (a++[vW x]++c) fun r=>r=.b (p x)) :
  VP V Yn [lW xs,.f g a c] Q↔Q (.i .i64 (CE p xs)):=by
 refine Af ?_
 rw[Ad C.c_z184.1 C.c_z184.2]
 simp only[A3y,go_sem]
 refine Aj (by decide) xs.length hl (I:=fun k F h=>h=[]/\A3.tmp F 0=lW xs/\A3.tmp F 1=.f g a c/\∀(j:Nat) (hj:j<xs.length),j<k->p xs[j]=false) ?_ ?_ 0 _ _ (by omega) ?_ ?_ ?_
 .rintro k F h hk h1 h2 ⟨rfl,h3,h4,h5⟩
  have hq:=fun Q=>Af (hf xs[k]) (Q:=Q)
  have h0:=ha.call hc (h:=[]) (x:=[vW xs[k]]) rfl
  cases e:p xs[k]with
  |true=>
   simp only[go_sem,h1,h2,h3,h4,getElem?_eq_getElem hk,h0,hq,e]
   rw[DC hk e fun j hj=>h5 j (by omega) hj]
  |false=>
   simp only[go_sem,h1,h2,h3,h4,getElem?_eq_getElem hk,h0,hq,e]
   have h7:Mi 0 (.f g a c)=.f g a c:=by
    have h1:CK 0 a=true:=Fz.bel ha
    have h2:CK 0 c=true:=Fz.bel hc
    simp[Mi,bel,h1,h2]
   simp only[Abe,Fz.bel ha,Fz.bel hc,Bool.and_self,cond_true,true_and]
   intro j hj h6
   by_cases e2:j=k
   .subst e2;exact e
   .exact h5 j hj (by omega)
 .rintro F h ⟨rfl,h3,h4,h5⟩
  simp only[go_sem]
  rw[DB fun x hx=>by obtain⟨j,hj,e⟩:=List.mem_iff_getElem.1 hx;rw[<- e];exact h5 j hj hj]
 all_goals simp only[go_sem]
 all_goals first|rfl|(intro j hj h6;omega)
theorem DI(xs:List (BitVec 64))(hl:xs.length<9223372036854775807){g:Nat}{a c:List VV}(ha:Fz a)(hc:Fz c)(p:(BitVec 64)->Bool)(hf:∀x,VP V g (a++[vW x]++c) fun r=>r=.b (p x)) :
  VP V Y3 [lW xs,.f g a c] Q↔Q (.b (xs.any p)):=by
 refine Af ?_
 rw[Ad C.c_z142.1 C.c_z142.2]
 simp only[A3a,go_sem,E3 C xs hl ha hc p hf,Fz.eq ha,Fz.eq hc,KG]
theorem GA(xs:List Int)(hl:xs.length<9223372036854775807){g:Nat}{a c:List VV}(ha:Fz a)(hc:Fz c)(p:Int->Bool)(hf:∀x,VP V g (a++[.i .i64 x]++c) fun r=>r=.b (p x)) :
  VP V Z0 [lI xs,.f g a c] Q↔Q (.i .i64 (CE p xs)):=by
 refine Af ?_
 rw[Ad C.c_z242.1 C.c_z242.2]
 simp only[A4a,go_sem]
 refine Aj (by decide) xs.length hl (I:=fun k F h=>h=[]/\A3.tmp F 0=lI xs/\A3.tmp F 1=.f g a c/\∀(j:Nat) (hj:j<xs.length),j<k->p xs[j]=false) ?_ ?_ 0 _ _ (by omega) ?_ ?_ ?_
 .rintro k F h hk h1 h2 ⟨rfl,h3,h4,h5⟩
  have hq:=fun Q=>Af (hf xs[k]) (Q:=Q)
  have h0:=ha.call hc (h:=[]) (x:=[.i .i64 xs[k]]) rfl
  cases e:p xs[k]with
  |true=>
   simp only[go_sem,h1,h2,h3,h4,getElem?_eq_getElem hk,h0,hq,e]
   rw[DC hk e fun j hj=>h5 j (by omega) hj]
  |false=>
   simp only[go_sem,h1,h2,h3,h4,getElem?_eq_getElem hk,h0,hq,e]
   have h7:Mi 0 (.f g a c)=.f g a c:=by
    have h1:CK 0 a=true:=Fz.bel ha
    have h2:CK 0 c=true:=Fz.bel hc
    simp[Mi,bel,h1,h2]
   simp only[Abe,Fz.bel ha,Fz.bel hc,Bool.and_self,cond_true,true_and]
   intro j hj h6
   by_cases e2:j=k
   .subst e2;exact e
   .exact h5 j hj (by omega)
 .rintro F h ⟨rfl,h3,h4,h5⟩
  simp only[go_sem]
  rw[DB fun x hx=>by obtain⟨j,hj,e⟩:=List.mem_iff_getElem.1 hx;rw[<- e];exact h5 j hj hj]
 all_goals simp only[go_sem]
 all_goals first|rfl|(intro j hj h6;omega)
theorem EL(xs:List Int)(hl:xs.length<9223372036854775807){g:Nat}{a c:List VV}(ha:Fz a)(hc:Fz c)(p:Int->Bool)(hf:∀x,VP V g (a++[.i .i64 x]++c) fun r=>r=.b (p x)) :
  VP V YR [lI xs,.f g a c] Q↔Q (.b (xs.any p)):=by
 refine Af ?_
 rw[Ad C.c_z232.1 C.c_z232.2]
 simp only[A42,go_sem,GA C xs hl ha hc p hf,Fz.eq ha,Fz.eq hc,KG]
theorem EZ(xs:List (List Int))(hl:xs.length<9223372036854775807){g:Nat}{a c:List VV}(ha:Fz a)(hc:Fz c)(p:List Int->Bool)(hf:∀x∈xs,VP V g (a++[lI x]++c) fun r=>r=.b (p x)) :
  VP V XI [.ls (xs.map EG),.f g a c] Q↔Q (.i .i64 (CE p xs)):=by
 refine Af ?_
 rw[Ad C.c_z102.1 C.c_z102.2]
 simp only[A2N,go_sem]
 refine Aj (by decide) xs.length hl (I:=fun k F h=>h=[]/\A3.tmp F 0=.ls (xs.map EG)/\A3.tmp F 1=.f g a c/\∀(j:Nat) (hj:j<xs.length),j<k->p xs[j]=false) ?_ ?_ 0 _ _ (by omega) ?_ ?_ ?_
 .rintro k F h hk h1 h2 ⟨rfl,h3,h4,h5⟩
  have hq:=fun Q=>Af (hf xs[k] (getElem_mem hk)) (Q:=Q)
  have h0:=ha.call hc (h:=[]) (x:=[lI (xs[k])]) rfl
  cases e:p xs[k]with
  |true=>
   simp only[go_sem,h1,h2,h3,h4,getElem?_eq_getElem hk,h0,hq,e]
   rw[DC hk e fun j hj=>h5 j (by omega) hj]
  |false=>
   simp only[go_sem,h1,h2,h3,h4,getElem?_eq_getElem hk,h0,hq,e]
   have h7:Mi 0 (.f g a c)=.f g a c:=by
    have h1:CK 0 a=true:=Fz.bel ha
    have h2:CK 0 c=true:=Fz.bel hc
    simp[Mi,bel,h1,h2]
   simp only[Abe,Fz.bel ha,Fz.bel hc,Bool.and_self,cond_true,true_and]
   intro j hj h6
   by_cases e2:j=k
   .subst e2;exact e
   .exact h5 j hj (by omega)
 .rintro F h ⟨rfl,h3,h4,h5⟩
  simp only[go_sem]
  rw[DB fun x hx=>by obtain⟨j,hj,e⟩:=List.mem_iff_getElem.1 hx;rw[<- e];exact h5 j hj hj]
 all_goals simp only[go_sem]
 all_goals first|rfl|(intro j hj h6;omega)
theorem Kx(xs ys:List Int)(hl:xs.length<9223372036854775807):VP V A1h [lI xs,lI ys] Q↔Q (.b (decide (xs=ys))):=by
 refine Af ?_
 rw[Ad C.c_z43.1 C.c_z43.2]
 by_cases hxy:xs.length=ys.length
 .simp only[A6h,go_sem,hxy]
  refine Aj (by decide) ys.length (by omega) (I:=fun k F h=>h=[]/\A3.tmp F 0=lI xs/\A3.tmp F 1=lI ys/\∀(j:Nat) (hj:j<xs.length) (h0:j<ys.length),j<k->xs[j]=ys[j]) ?_ ?_ 0 _ _ (by omega) ?_ ?_ ?_
  .rintro k F h hk h1 h2 ⟨rfl,h3,h4,h5⟩
   have h6:k<xs.length:=by omega
   by_cases e:xs[k]=ys[k]
   .simp only[go_sem,h1,h2,h3,h4,getElem?_eq_getElem hk,getElem?_eq_getElem h6,e]
    intro j hj h0 h7
    by_cases e2:j=k
    .subst e2;exact e
    .exact h5 j hj h0 (by omega)
   .simp only[go_sem,h1,h2,h3,h4,getElem?_eq_getElem hk,getElem?_eq_getElem h6,e]
    refine(decide_eq_false ?_).symm
    rintro rfl
    exact e rfl
  .rintro F h ⟨rfl,h3,h4,h5⟩
   simp only[go_sem]
   exact(decide_eq_true (List.ext_getElem hxy fun j hj h0=>h5 j hj h0 h0)).symm
  all_goals simp only[go_sem]
  all_goals first|rfl|(intro j hj h0 h7;omega)
 .simp only[A6h,go_sem,Int.natCast_inj,hxy]
  refine(decide_eq_false ?_).symm
  rintro rfl
  exact hxy rfl
end
@[go_sem] theorem TY {n k:Nat} {f:Nat->BitVec 64} {z:BitVec 64}:((CR n k f z).map eW).set k [vW (f k)]=(CR n (k+1) f z).map eW:=MP eW
@[go_sem] theorem Anh {n k:Nat} {f:Nat->Int} {z:Int}:((CR n k f z).map eI).set k [.i .i64 (f k)]=(CR n (k+1) f z).map eI:=MP eI
@[go_sem] theorem Ang {α:Type} {n k:Nat} {f:Nat->α} {z:α}:(CR n k f z).take n=CR n k f z:=by rw[List.take_of_length_le];rw[S9];exact Nat.le_refl n
attribute [go_sem] S9 List.length_range
@[go_sem] theorem Amd (n:Nat):(List.range n).take n=List.range n:=by rw[List.take_of_length_le];simp
@[go_sem] theorem Awh (n:Nat) (w:BitVec 64):List.replicate n [vW w]=(List.replicate n w).map eW:=by simp
@[go_sem] theorem Awg (n:Nat) (w:Int):List.replicate n [VV.i .i64 w]=(List.replicate n w).map eI:=by simp
abbrev eP(p:Int×Int):List VV:=[.i .i64 p.1,.i .i64 p.2]
abbrev lP(l:List (Int×Int)):VV:=.ls (l.map eP)
@[go_sem] theorem Aum (xs:List (Int×Int)) (x y:Int):xs.map eP++[[.i .i64 x,.i .i64 y]]=(xs++[(x,y)]).map eP:=by simp
theorem Fz.of{a:List VV}(h:∀h d,B5 (frz h (d+3)) a=some (a,[])):Fz a:=h
section
variable {V:Ai}(C:Am V){Q:VV->Prop}
include C
theorem A1J(x all:BitVec 64):VP V R7 [vW x,.fp [vW all] 0] Q↔Q (.b (!decide (x&&&~~~all=0#64))):=by
 refine Af ?_
 rw[Ad C.c_z143.1 C.c_z143.2]
 simp only[A3b,go_sem,Hz C]
theorem D9(r:Rows):VP V P4 [lW r] Q↔Q (.b (Dp r)):=by
 refine Af ?_
 rw[Ad C.c_z72.1 C.c_z72.2]
 by_cases hl:r.length<=64
 .have h0:¬(64:Int)<r.length:=by omega
  simp only[A6q,go_sem,↓reduceIte,h0,Mg C 0 _ (by omega),
   DI C r (by omega) (g:=R7) (a:=[]) (c:=[.fp [vW (CZ 0 r.length)] 0]) Fz.nil (fun _ _=>rfl) (fun x=>!decide (x&&&~~~(CZ 0 r.length)=0#64)) (fun x=>(A1J C _ _).2 rfl)]
  simp only[Dp,hl,go_sem,List.not_any_eq_all_not,Bool.not_not]
 .have h0:(64:Int)<r.length:=by omega
  simp only[A6q,go_sem,h0,Bool.true_eq_false]
  simp[Dp,hl]
theorem A5z{n:Nat}(hl:n<=1000){gf:Nat}{a c:List VV}(ha:Fz a)(hc:Fz c)(row:Nat->BitVec 64)
  (hp:∀(i:Nat),i<n->VP V gf (a++[.i .i64 (i:Nat)]++c) fun r=>r=vW (row i)) :
  VP V R3 [.i .i64 n,.f gf a c] Q↔Q (lW ((List.range n).map row)):=by
 refine Af ?_
 rw[Ad C.c_z134.1 C.c_z134.2]
 have h0:n * 8<=A6:=by unfold A6;omega
 simp only[UN,go_sem,h0,Int.le_refl]
 refine Aj (by decide) n (by omega) (I:=fun k F h=>A3.tmp F 1=.f gf a c/\A3.tmp F 5=.sl 0 0 0 n/\h=[some ⟨AW,1,0,false,(CR n k row 0#64).map eW⟩]) ?_ ?_ 0 _ _ (by omega) ?_ ?_ ?_
 .rintro k F h hk h1 h2 ⟨h3,h4,rfl⟩
  have hq:=fun Q=>Af (hp k hk) (Q:=Q)
  have h5:=ha.call hc (h:=[some ⟨AW,1,0,false,(CR n k row 0#64).map eW⟩]) (x:=[.i .i64 (k:Nat)]) rfl
  simp only[go_sem,h1,h2,h3,h4,hk,h5,hq,J3 hk,Fz.bel ha,Fz.bel hc]
 .rintro F h ⟨h3,h4,rfl⟩
  simp only[go_sem,h4,H7]
 all_goals simp only[go_sem]
 all_goals first|rfl|rw[EM]
theorem A1L{n:Nat}(hl:n<=1000){gf:Nat}{a c:List VV}(ha:Fz a)(hc:Fz c)(row:Nat->BitVec 64)(b0:Nat){Q':VV->VH->Prop}
  (hp:∀(i:Nat),i<n->VP V gf (a++[.i .i64 (i:Nat)]++c) fun r=>r=vW (row i)) :
  VP1 V R3 [.i .i64 n,.f gf a c] b0 Q'↔Q' (.sl b0 0 0 n) [some ⟨AW,1,0,false,((List.range n).map row).map eW⟩]:=by
 refine JW ?_
 rw[JX C.c_z134.2]
 have h0:n * 8<=A6:=by unfold A6;omega
 simp only[UN,go_sem,h0,Int.le_refl]
 refine Aj (by decide) n (by omega) (I:=fun k F h=>A3.tmp F 1=.f gf a c/\A3.tmp F 5=.sl 0 0 0 n/\h=[some ⟨AW,1,0,false,(CR n k row 0#64).map eW⟩]) ?_ ?_ 0 _ _ (by omega) ?_ ?_ ?_
 .rintro k F h hk h1 h2 ⟨h3,h4,rfl⟩
  have hq:=fun Q=>Af (hp k hk) (Q:=Q)
  have h5:=ha.call hc (h:=[some ⟨AW,1,0,false,(CR n k row 0#64).map eW⟩]) (x:=[.i .i64 (k:Nat)]) rfl
  simp only[go_sem,h1,h2,h3,h4,hk,h5,hq,J3 hk,Fz.bel ha,Fz.bel hc]
 .rintro F h ⟨h3,h4,rfl⟩
  simp only[go_sem,h4,H7,Bp]
  simp
 all_goals simp only[go_sem]
 all_goals first|rfl|rw[EM]
theorem Ku(a b:Rows):VP V Ym [.ag [lW a,lW b]] Q↔Q (.b (Dp a&&Dp b&&decide (a.length=b.length))):=by
 refine Af ?_
 rw[Ad C.c_z182.1 C.c_z182.2]
 cases hma:Dp a<;>cases hmb:Dp b <;>
  simp only[A3w,go_sem,D9 C,hma,hmb,Int.natCast_inj]
omit C in
theorem Cj{a:Rows}{i:Nat}(h:i<a.length):a[i]? = some (a.getD i 0#64):=by rw[Ag4 h,getElem?_eq_getElem h]
theorem SU(a b:Rows){i:Nat}(hi:i<a.length)(hi':i<b.length):VP V R0 [.ag [lW a,lW b],.i .i64 i] Q↔Q (vW (a.getD i 0#64|||b.getD i 0#64)):=by
 refine Af ?_
 rw[Ad C.c_z133.1 C.c_z133.2]
 simp only[A33,go_sem,Cj hi,Cj hi']
theorem Pr(a b:Rows){gf:Nat}{fa fc:List VV}(ha:Fz fa)(hc:Fz fc)(row:Nat->BitVec 64)
  (hp:a.length=b.length->a.length<=64->∀(i:Nat),i<a.length->VP V gf (fa++[.i .i64 (i:Nat)]++fc) fun r=>r=vW (row i)) :
  VP V XY [.ag [lW a,lW b],.f gf fa fc] Q↔Q (lW (if Dp a&&Dp b&&decide (a.length=b.length)then(List.range a.length).map row else [])):=by
 refine Af ?_
 rw[Ad C.c_z132.1 C.c_z132.2]
 cases hm:(Dp a&&Dp b&&decide (a.length=b.length))with
 |false=>simp only[UM,go_sem,Ku C,hm,false_eq_true]
 |true=>
  have h0:=hm
  simp only[Bool.and_eq_true,decide_eq_true_eq]at h0
  have hl:=Jp h0.1.1
  simp only[UM,go_sem,Ku C,hm,A5z C (show a.length<=1000 by omega) ha hc row (fun i hi=>hp h0.2 hl i hi),Fz.eq ha,Fz.eq hc]
theorem A1K(a b:Rows):VP V A85 [lW a,lW b] Q↔Q (lW (orF a b)):=by
 refine Af ?_
 rw[Ad C.c_z67.1 C.c_z67.2]
 simp only[Ac9,go_sem,↓reduceIte,
  Pr C a b (gf:=R0) (fa:=[.ag [lW a,lW b]]) (fc:=[]) (fun _ _=>rfl) Fz.nil (fun i=>a.getD i 0#64|||b.getD i 0#64) (fun h1 h2 i hi=>(SU C a b hi (by omega)).2 rfl)]
 rfl
theorem A5y(a:Rows)(hl:a.length<=64)(s:BitVec 64):VP V Yk [lW a,vW s] Q↔Q (vW (Dn a s)):=by
 refine Af ?_
 rw[Ad C.c_z176.1 C.c_z176.2]
 simp only[A3r,go_sem,Mg C 0 _ (by omega),Dl C]
 have h1:=Cz (s&&&CZ 0 a.length)
 have h7:∀i,i∈BP (s&&&CZ 0 a.length)->i<a.length:=by
  intro i hi
  have:=(A10 hi).2
  rw[BitVec.getLsbD_and,CZ,AA]at this
  simp at this
  omega
 unfold Dn
 unfold AC at h1 ⊢
 generalize BP (s&&&CZ 0 a.length)=L at *
 refine Aj (by decide) (L.map fun(i:Nat)=>(i:Int)).length (by omega) (I:=fun k F h=>h=[]/\A3.tmp F 0=lW a/\A3.tmp F 13=lI (L.map fun(i:Nat)=>(i:Int))/\A3.tmp F 5=vW ((L.take k).foldl (fun x i=>x|||a.getD i 0#64) 0#64)) ?_ ?_ 0 _ _ (by omega) ?_ ?_ ?_
 .rintro k F h hk h2 h3 ⟨rfl,h4,h5,h6⟩
  have h0:k<L.length:=by simpa using hk
  simp only[go_sem,h2,h3,h4,h5,h6,getElem?_eq_getElem h0,Cj (h7 _ (getElem_mem h0))]
  rw[List.take_succ_eq_append_getElem h0,foldl_append,foldl_cons,List.foldl_nil]
 .rintro F h ⟨rfl,h4,h5,h6⟩
  rw[length_map,take_length]at h6
  simp only[go_sem,h6]
 all_goals simp only[go_sem]
 all_goals rfl
theorem RQ(a:Rows)(hm:Dp a=true)(s:BitVec 64):VP V XR [lW a,vW s] Q↔Q (vW (Dn a s)):=by
 refine Af ?_
 rw[Ad C.c_z120.1 C.c_z120.2]
 simp only[A2V,go_sem,D9 C,hm,A5y C a (Jp hm)]
theorem Lo(a:Rows)(hm:Dp a=true)(s:BitVec 64):VP V LN [lW a,vW s] Q↔Q (vW (Dn a s)):=by
 refine Af ?_
 rw[Ad C.c_z131.1 C.c_z131.2]
 simp only[A32,go_sem,RQ C a hm]
theorem SF(a:Rows)(hm:Dp a=true)(s:BitVec 64):VP V QZ [lW a,vW s,.f LN [] []] Q↔Q (vW (Ge a s)):=by
 refine Af ?_
 rw[Ad C.c_z130.1 C.c_z130.2]
 simp only[A31,go_sem]
 unfold VL
 rw[A0]
 refine AJ (M:=BitVec 64) (I:=fun t F h=>h=[]/\A3.tmp F 0=lW a/\A3.tmp F 1=vW t/\A3.tmp F 2=.f LN [] []/\Ge a t=Ge a s) (μ:=fun t=>18446744073709551616-t.toNat) ?_ s _ _ ⟨rfl,?_,?_,?_,rfl⟩
 .rintro t F h ⟨rfl,h0,h1,h2,h3⟩
  have hs:=A2u a t
  by_cases e:t|||Dn a t=t
  .rw[if_pos e]at hs
   simp only[Vd,go_sem,h0,h1,h2,A0,Lo C a hm,e]
   rw[<- h3,hs]
  .rw[if_neg e]at hs
   simp only[Vd,go_sem,h0,h1,h2,A0,Lo C a hm,e]
   have:=Kk e
   have:=(t|||Dn a t).isLt
   exact⟨t|||Dn a t,by omega,rfl,by rw[<- h3,hs]⟩
 all_goals simp only[go_sem]
theorem Jv(a:Rows):VP V A84 [lW a] Q↔Q (lW (BG a)):=by
 refine Af ?_
 rw[Ad C.c_z66.1 C.c_z66.2]
 cases hm:Dp a with
 |false=>simp only[A6o,go_sem,D9 C,hm,BG,false_eq_true]
 |true=>
  have hl:=Jp hm
  have h0:a.length * 8<=A6:=by unfold A6;omega
  simp only[A6o,go_sem,D9 C,hm,h0,Int.le_refl]
  refine Aj (by decide) a.length (by omega) (I:=fun k F h=>A3.tmp F 0=lW a/\A3.tmp F 12=lW a/\A3.tmp F 3=.sl 0 0 0 a.length/\h=[some ⟨AW,1,0,false,(CR a.length k (fun i=>Ge a (a.getD i 0#64)) 0#64).map eW⟩]) ?_ ?_ 0 _ _ (by omega) ?_ ?_ ?_
  .rintro k F h hk h1 h2 ⟨h3,h4,h5,rfl⟩
   have hu:=TY (n:=a.length) (k:=k) (f:=fun i=>Ge a (a.getD i 0#64)) (z:=0#64)
   simp only[go_sem,h1,h2,h3,h4,h5,hk,Cj hk,SF C a hm,J3 hk,hu]
  .rintro F h ⟨h3,h4,h5,rfl⟩
   simp only[go_sem,h5,H7,BG,hm]
  all_goals simp only[go_sem]
  all_goals first|rfl|rw[EM]
theorem RR(a:Rows)(s:BitVec 64){i:Nat}(hi:i<a.length):VP V R4 [.ag [lW a,vW s],.i .i64 i] Q↔Q (vW (if Bh s (i:Int)then a.getD i 0#64&&&s else 0#64)):=by
 refine Af ?_
 rw[Ad C.c_z135.1 C.c_z135.2]
 cases hh:Bh s (i:Int)<;>simp only[A34,go_sem,AS C,hh,Cj hi,false_eq_true]
theorem A5x(a:Rows)(s:BitVec 64):VP V A86 [lW a,vW s] Q↔Q (lW (A0U a s)):=by
 refine Af ?_
 rw[Ad C.c_z68.1 C.c_z68.2]
 cases hm:Dp a with
 |false=>simp only[A6p,go_sem,D9 C,hm,A0U,false_eq_true]
 |true=>
  have hl:=Jp hm
  simp only[A6p,go_sem,↓reduceIte,D9 C,hm,A0U,
   A1L C (show a.length<=1000 by omega) (gf:=R4) (a:=[.ag [lW a,vW s]]) (c:=[]) (fun _ _=>rfl) Fz.nil (fun(i:Nat)=>if Bh s (i:Int)then a.getD i 0#64&&&s else 0#64) 0 (fun i hi=>(RR C a s hi).2 rfl)]
theorem LY(n:Nat)(hn:n<=64)(b:Nat){Q:VV->VH->Prop}:VP1 V XO [.i .i64 n] b Q↔Q (.sl b 0 0 n) [some ⟨AW,1,0,false,(List.replicate n 0#64).map eW⟩]:=by
 refine JW ?_
 rw[JX C.c_z118.2]
 have h0:n * 8<=A6:=by unfold A6;omega
 have h1:¬(64:Int)<n:=by omega
 have h2:¬(n:Int)<0:=by omega
 simp only[A2T,go_sem,h0,h1,h2,Int.le_refl,Bp]
 simp
theorem Pb(a:Rows):VP V Rb [lW a] Q↔Q (lP (Bt a)):=by
 refine Af ?_
 rw[Ad C.c_z174.1 C.c_z174.2]
 cases hm:Dp a with
 |false=>simp only[UU,go_sem,D9 C,hm,Bt,false_eq_true,Ru]
 |true=>
  have hl:=Jp hm
  simp only[UU,go_sem,D9 C,hm,Ru]
  refine Aj (by decide) a.length (by omega) (I:=fun k F h=>A3.tmp F 12=lW a/\∃l,l=((List.range k).flatMap (fun(i:Nat)=>(AC (a.getD i 0#64)).map fun j=>((i:Int),j)))/\A3.tmp F 3=.sl 0 l.length 0 l.length/\h=[some (AN A5O 2 (l.map eP))]) ?_ ?_ 0 _ _ (by omega) ?_ ?_ ?_
  .rintro k F h hk h1 h2 ⟨h3,l,h0,h4,rfl⟩
   simp only[go_sem,h1,h2,h3,h4,Cj hk,Dl C]
   have h8:=Cz (a.getD k 0#64)
   have h7:=Nr a k
   rw[<- h0]at h7
   refine Aj (by decide) (AC (a.getD k 0#64)).length (by omega) (I:=fun m F h=>A3.tmp F 14=.i .i64 k/\A3.tmp F 13=.i .i64 a.length/\A3.tmp F 12=lW a/\A3.tmp F 20=lI (AC (a.getD k 0#64))/\A3.tmp F 4=.i .i64 k/\∃l',l'=l++((AC (a.getD k 0#64)).take m).map (fun j=>((k:Int),j))/\A3.tmp F 3=.sl 0 l'.length 0 l'.length/\h=[some (AN A5O 2 (l'.map eP))]) ?_ ?_ 0 _ _ (by omega) ?_ ?_ ?_
   .rintro m G h h6 j1 j2 ⟨j4,j5,j6,j7,j8,l',h5,j9,rfl⟩
    have hb:(l'.length+1) * 16<=A6:=by
     have:l'.length<=10000:=by
      rw[h5,length_append,length_map,List.length_take];omega
     unfold A6;omega
    simp only[go_sem,j1,j2,j4,j5,j6,j7,j8,j9,getElem?_eq_getElem h6,hb]
    refine⟨_,?_,by rw[length_append];rfl,rfl⟩
    rw[h5,List.take_succ_eq_append_getElem h6,List.map_append,List.append_assoc];rfl
   .rintro G h ⟨j4,j5,j6,j7,j8,l',h5,j9,rfl⟩
    simp only[go_sem,j4,j5,j6,j9]
    refine⟨_,?_,rfl,rfl⟩
    rw[h5,take_length,h0,List.flatMap_append];simp
   all_goals simp only[go_sem,h1,h2,h3,h4]
   all_goals first|rfl|exact⟨l,by simp,rfl,rfl⟩
  .rintro F h ⟨h3,l,h0,h4,rfl⟩
   simp only[go_sem,h4,Bt,hm,<- h0]
  all_goals simp only[go_sem]
  all_goals first|rfl|exact⟨[],rfl,rfl,rfl⟩
end
theorem Afl{e:Option Pk}(s:BitVec 64){n:Nat}(h:n<64):Bg .shr e (Wd s) (.i .u64 n)=some (Wd (s>>>n)):=by
 have h0:¬((n:Int)<0):=by omega
 simp only[Wd,Bg,GO,if_neg h0,IntKind.bits,Option.some.injEq,AV.i.injEq,true_and,toNat_natCast]
 rw[Nat.min_eq_left (by omega),BitVec.toNat_ushiftRight,Nat.shiftRight_eq_div_pow]
 rw[show((2:Int) ^ n)=((2 ^ n:Nat):Int) by simp,Int.fdiv_eq_ediv_of_nonneg _ (Int.natCast_nonneg _)]
 rfl
theorem Afk{e:Option Pk}(s:BitVec 64):Bg .rem e (Wd s) (.i .u64 2)=some (Wd (if s.getLsbD 0 then 1#64 else 0#64)):=by
 rw[Wd,Ab5 (by decide)]
 simp only[Option.some.injEq,Wd,AV.i.injEq,true_and]
 have h0:s.getLsbD 0=decide (s.toNat % 2=1):=by
  show s.toNat.testBit 0=_
  simp[Nat.testBit_zero]
 rw[h0]
 have:(s.toNat:Int).tmod 2=((s.toNat % 2:Nat):Int):=by
  rw[Int.tmod_eq_emod_of_nonneg (Int.natCast_nonneg _)]
  rfl
 rw[this]
 by_cases h:s.toNat % 2=1
 .simp[h]
 .have:s.toNat % 2=0:=by omega
  simp[this]
theorem Ai4{e:Option Pk}(s:BitVec 64){n:Nat}(h:n<64):B9 .shr e (vW s) (.i .u64 n)=some (vW (s>>>n)):=by
 show(Bg .shr e (Wd s) (.i .u64 n)).bind Gx=_
 rw[Afl s h];rfl
theorem Ai3{e:Option Pk}(s:BitVec 64):B9 .rem e (vW s) (.i .u64 2)=some (vW (if s.getLsbD 0 then 1#64 else 0#64)):=by
 show(Bg .rem e (Wd s) (.i .u64 2)).bind Gx=_
 rw[Afk s];rfl
section
variable {V:Ai}(C:Am V){Q:VV->Prop}
include C
theorem AT(s:BitVec 64)(i:Int):VP V A7Y [vW s,.i .i64 i] Q↔Q (.b (Bh s i)):=by
 refine Af ?_
 rw[Ad C.c_z57.1 C.c_z57.2]
 by_cases h0:i<0
 .have:Bh s i=false:=by unfold Bh;simp;omega
  simp only[A0B,go_sem,h0,this]
 .by_cases h1:63<i
  .have:Bh s i=false:=by
    unfold Bh
    rw[BitVec.getLsbD_of_ge _ _ (by omega)]
    simp
   simp only[A0B,go_sem,h0,h1,this]
  .obtain⟨n,rfl⟩:=eq_ofNat_of_zero_le (by omega:0<=i)
   have hw:IntKind.u64.wrap (n:Int)=n:=by rw[J6];omega
   have hs:∀e,B9 .shr e (vW s) (.i .u64 (n:Int))=some (vW (s>>>n)):=fun e=>Ai4 s (by omega)
   simp only[A0B,go_sem,h0,h1,hw,hs,Ai3]
   rw[Aq,BitVec.getLsbD_ushiftRight,Nat.add_zero]
   cases s.getLsbD n<;>rfl
theorem D7(s t:BitVec 64):VP V A7R [vW s,vW t] Q↔Q (.b (decide (s|||t=t))):=by
 refine Af ?_
 rw[Ad C.c_z36.1 C.c_z36.2]
 simp only[AbR,go_sem]
theorem Zp(n:Nat)(hn:n<64):VP V Y7 [.i .i64 n] Q↔Q (vW (1#64<<<n)):=by
 refine Af ?_
 rw[Ad C.c_z151.1 C.c_z151.2]
 simp only[A3f,go_sem]
 refine Ab (by decide) n (by omega) (I:=fun k F h=>h=[]/\A3.tmp F 0=.i .i64 n/\A3.tmp F 3=vW (1#64<<<k)) ?_ ?_ ?_ 0 _ _ (zero_le _) ?_ ?_
 .rintro k F h hk h1 ⟨rfl,h2,h3⟩
  simp only[go_sem,h1,h2,h3]
 .rintro k F h hk h1 ⟨rfl,h2,h3⟩
  simp only[go_sem,h1,h2,h3]
  congr 1
  apply BitVec.eq_of_toNat_eq
  rw[BitVec.toNat_add,BitVec.toNat_shiftLeft,BitVec.toNat_shiftLeft]
  simp only[Nat.shiftLeft_eq]
  have:(1#64).toNat=1:=rfl
  rw[this,Nat.pow_succ]
  omega
 .rintro F h ⟨rfl,h2,h3⟩
  simp only[go_sem,h3]
 all_goals simp only[go_sem]
 all_goals rfl
theorem AP(s:BitVec 64)(i:Int):VP V A8d [vW s,.i .i64 i] Q↔Q (vW (s|||BC i)):=by
 refine Af ?_
 rw[Ad C.c_z83.1 C.c_z83.2]
 by_cases h0:i<0
 .have:BC i=0#64:=by unfold BC;rw[if_neg (by omega)]
  simp only[Tp,go_sem,h0,this,BitVec.or_zero]
 .by_cases h1:63<i
  .have:BC i=0#64:=by unfold BC;rw[if_neg (by omega)]
   simp only[Tp,go_sem,h0,h1,this,BitVec.or_zero]
  .obtain⟨n,rfl⟩:=eq_ofNat_of_zero_le (by omega:0<=i)
   have h2:BC (n:Int)=1#64<<<n:=by unfold BC;rw[if_pos (by omega)];rfl
   cases hb:Bh s n with
   |true=>
    simp only[Tp,go_sem,h0,h1,AT C,hb]
    congr 1
    apply B4
    intro j hj
    rw[BitVec.getLsbD_or,C2]
    by_cases e:j=n
    .subst e;rw[Aq]at hb;simp[hb]
    .have:¬((j:Int)=n):=by omega
     simp[this]
   |false=>
    simp only[Tp,go_sem,h0,h1,AT C,hb,Zp C n (by omega)]
    congr 1
    rw[h2]
    apply BitVec.add_eq_or_of_and_eq_zero
    rw[<- h2,NP]
    rw[Aq]at hb
    simp[hb]
theorem KV(r:Rows)(a b:Int)(hl:r.length<9223372036854775807):VP V A55 [lW r,.i .i64 a,.i .i64 b] Q↔Q (.b (decide (0<=a)&&Bh (r.getD a.toNat 0#64) b)):=by
 refine Af ?_
 rw[Ad C.c_z108.1 C.c_z108.2]
 by_cases h0:0<=a
 .obtain⟨n,rfl⟩:=eq_ofNat_of_zero_le h0
  by_cases h1:n<r.length
  .simp only[UE,go_sem,h1,Cj h1,AT C]
  .have:r.getD n 0#64=0#64:=by rw[List.getD_eq_getElem?_getD,List.getElem?_eq_none (by omega)];rfl
   simp only[UE,go_sem,h1,this]
   simp[Bh]
 .simp only[UE,go_sem,h0]
theorem TG(xs:List Int)(hl:xs.length<9223372036854775807):VP V A7S [lI xs] Q↔Q (vW (BI xs)):=by
 refine Af ?_
 rw[Ad C.c_z37.1 C.c_z37.2]
 simp only[AbS,go_sem]
 refine Ab (by decide) xs.length hl (I:=fun k F h=>h=[]/\A3.tmp F 0=lI xs/\A3.tmp F 3=vW (BI (xs.take k))) ?_ ?_ ?_ 0 _ _ (zero_le _) ?_ ?_
 .rintro k F h hk h1 ⟨rfl,h2,h3⟩
  simp only[go_sem,h1,h2,h3]
 .rintro k F h hk h1 ⟨rfl,h2,h3⟩
  simp only[go_sem,h1,h2,h3,getElem?_eq_getElem hk,AP C]
  rw[List.take_succ_eq_append_getElem hk]
  simp only[BI,foldl_append,foldl_cons,List.foldl_nil]
 .rintro F h ⟨rfl,h2,h3⟩
  rw[take_length]at h3
  simp only[go_sem,h3]
 all_goals simp only[go_sem]
 all_goals rfl
theorem Gz(lo hi:Int):VP V Ady [.i .i64 lo,.i .i64 hi] Q↔Q (vW (CZ lo hi)):=by
 refine Af ?_
 rw[Ad C.c_z33.1 C.c_z33.2]
 simp only[AiB,go_sem]
 refine Ab (by decide) 64 (by omega) (I:=fun k F h=>h=[]/\A3.tmp F 0=.i .i64 lo/\A3.tmp F 1=.i .i64 hi/\A3.tmp F 5=vW (BR fun i=>decide (lo<=(i:Int)/\(i:Int)<hi)&&decide (i<k))) ?_ ?_ ?_ 0 _ _ (zero_le _) ?_ ?_
 .rintro k F h hk h1 ⟨rfl,h2,h3,h4⟩
  simp only[go_sem,h1,h2,h3,h4]
  exact decide_eq_decide.2 (by omega)
 .rintro k F h hk h1 ⟨rfl,h2,h3,h4⟩
  by_cases c1:lo<=(k:Int)
  .by_cases c2:(k:Int)<hi
   .simp only[go_sem,h1,h2,h3,h4,c1,c2,AP C]
    rw[MJ _ _ hk]
    congr 1
    apply Bx
    intro j hj
    by_cases e:j=k
    .subst e;simp[c1,c2]
    .have:(j<k+1)↔(j<k):=by omega
     simp[e,this]
   .simp only[go_sem,h1,h2,h3,h4,c1,c2]
    congr 1
    apply Bx
    intro j hj
    by_cases e:j=k
    .subst e;simp[c2]
    .have:(j<k+1)↔(j<k):=by omega
     simp[this]
  .simp only[go_sem,h1,h2,h3,h4,c1]
   congr 1
   apply Bx
   intro j hj
   by_cases e:j=k
   .subst e;simp[c1]
   .have:(j<k+1)↔(j<k):=by omega
    simp[this]
 .rintro F h ⟨rfl,h2,h3,h4⟩
  simp only[go_sem,h4]
  congr 1
  apply Bx
  intro j hj
  simp[hj]
 all_goals simp only[go_sem]
 all_goals first|rfl|(rw[<- GH];congr 1;apply Bx;intro j hj;simp)
omit C in
theorem NI(s t:BitVec 64):decide (s|||t=t)=decide (s&&&~~~t=0#64):=by
 apply decide_eq_decide.2
 rw[Aet]
 constructor
 .intro h
  apply B4
  intro j hj
  cases hs:s.getLsbD j with
  |false=>simp[hs]
  |true=>simp[hs,h j hs]
 .intro h j hj
  have:=congrArg (fun w:BitVec 64=>w.getLsbD j) h
  have h0:j<64:=BitVec.lt_of_getLsbD hj
  simp[hj,h0]at this
  exact this
theorem LX(r:Rows)(hl:r.length<9223372036854775807):VP V A58 [lW r] Q↔Q (.b (Dp r)):=by
 refine Af ?_
 rw[Ad C.c_z152.1 C.c_z152.2]
 by_cases hl:r.length<=64
 .have h0:¬(64:Int)<r.length:=by omega
  simp only[A3g,go_sem,h0]
  refine Ab (by decide) r.length (by omega) (I:=fun k F h=>h=[]/\A3.tmp F 0=lW r/\∀(j:Nat) (hj:j<r.length),j<k->r[j]&&&~~~(CZ 0 r.length)=0#64) ?_ ?_ ?_ 0 _ _ (zero_le _) ?_ ?_
  .rintro k F h hk h1 ⟨rfl,h2,h3⟩
   simp only[go_sem,h1,h2]
   exact h3
  .rintro k F h hk h1 ⟨rfl,h2,h3⟩
   by_cases e:r[k]&&&~~~(CZ 0 r.length)=0#64
   .simp only[go_sem,h1,h2,getElem?_eq_getElem hk,Gz C,D7 C,NI,e]
    intro j hj h4
    by_cases e2:j=k
    .subst e2;exact e
    .exact h3 j hj (by omega)
   .simp only[go_sem,h1,h2,getElem?_eq_getElem hk,Gz C,D7 C,NI,e]
    have:(r.all fun x=>decide (x&&&~~~(CZ 0 r.length)=0#64))=false:=by
     rw[List.all_eq_false]
     exact⟨_,getElem_mem hk,by simpa using e⟩
    simp[Dp,this]
  .rintro F h ⟨rfl,h2,h3⟩
   simp only[go_sem]
   have:(r.all fun x=>decide (x&&&~~~(CZ 0 r.length)=0#64))=true:=by
    rw[List.all_eq_true]
    intro x hx
    obtain⟨j,hj,e⟩:=List.mem_iff_getElem.1 hx
    rw[<- e];simpa using h3 j hj hj
   simp[Dp,hl,this]
  all_goals simp only[go_sem]
  all_goals first|rfl|(intro j hj h4;omega)
 .have h0:(64:Int)<r.length:=by omega
  simp only[A3g,go_sem,h0]
  simp[Dp,hl]
theorem Kp(s:BitVec 64):VP V Adr [vW s] Q↔Q (lI (AC s)):=by
 refine Af ?_
 rw[Ad C.c_z15.1 C.c_z15.2]
 simp only[Aiw,go_sem]
 refine Ab (by decide) 64 (by omega) (I:=fun k F h=>A3.tmp F 0=vW s/\∃l,l=(((List.range k).filter fun i=>s.getLsbD i).map fun(i:Nat)=>(i:Int))/\A3.tmp F 3=.sl 0 l.length 0 l.length/\h=[some (AN AG 1 (l.map eI))]) ?_ ?_ ?_ 0 _ _ (zero_le _) ?_ ?_
 .rintro k F h hk h1 ⟨h2,l,hl,h3,rfl⟩
  simp only[go_sem,h1,h2,h3]
  refine⟨decide_eq_decide.2 (by omega),l,hl,rfl,rfl⟩
 .rintro k F h hk h1 ⟨h2,l,hl,h3,rfl⟩
  have h4:l.length<=k:=by
   rw[hl,length_map]
   exact Nat.le_trans (List.length_filter_le _ _) (by simp)
  have h0:(l.length+1) * 8<=A6:=by unfold A6;omega
  cases hb:s.getLsbD k with
  |true=>
   simp only[go_sem,h1,h2,h3,AT C,Aq,hb,h0]
   refine⟨_,?_,by rw[length_append];rfl,rfl⟩
   rw[hl,List.filter_append,List.map_append]
   simp[hb]
  |false=>
   simp only[go_sem,h1,h2,h3,AT C,Aq,hb]
   refine⟨l,?_,rfl,rfl⟩
   rw[hl,List.filter_append]
   simp[hb]
 .rintro F h ⟨h2,l,hl,h3,rfl⟩
  simp only[go_sem,h3,hl]
  rfl
 all_goals simp only[go_sem]
 all_goals first|rfl|exact⟨[],rfl,rfl,rfl⟩
theorem Kq(a:Rows)(hl0:a.length<9223372036854775807):VP V A53 [lW a] Q↔Q (lW (BG a)):=by
 refine Af ?_
 rw[Ad C.c_z106.1 C.c_z106.2]
 cases hm:Dp a with
 |false=>simp only[A2Q,go_sem,LX C _ hl0,hm,BG,false_eq_true]
 |true=>
  have hl:=Jp hm
  have h0:a.length * 8<=A6:=by unfold A6;omega
  simp only[A2Q,go_sem,LX C _ hl0,hm,h0,Int.le_refl]
  refine Ab (by decide) a.length (by omega) (I:=fun k F h=>A3.tmp F 0=lW a/\A3.tmp F 3=.sl 0 0 0 a.length/\h=[some ⟨AW,1,0,false,(CR a.length k (fun i=>Ge a (a.getD i 0#64)) 0#64).map eW⟩]) ?_ ?_ ?_ 0 _ _ (zero_le _) ?_ ?_
  .rintro k F h hk h1 ⟨h2,h3,rfl⟩
   simp only[Eg,go_sem,h1,h2,h3]
  .rintro k F h hk h1 ⟨h2,h3,rfl⟩
   simp only[Eg,go_sem,h1,h2,h3,Cj hk]
   unfold VL
   rw[A0]
   refine AJ (M:=BitVec 64×Bool) (I:=fun m G h2=>h2=[some ⟨AW,1,0,false,(CR a.length k (fun i=>Ge a (a.getD i 0#64)) 0#64).map eW⟩]/\A3.tmp G 0=lW a/\A3.tmp G 3=.sl 0 0 0 a.length/\A3.tmp G 4=.i .i64 k/\A3.tmp G 5=vW m.1/\A3.tmp G 6=.b m.2/\ZZ (a.getD k 0#64) m.1/\(∀u,ZZ (a.getD k 0#64) u->M5 a u->ZZ m.1 u)/\(m.2=false->M5 a m.1)) (μ:=fun m=>2 * (18446744073709551616-m.1.toNat)+(if m.2 then 1 else 0)) ?_ (a.getD k 0#64,true) _ _ ⟨rfl,?_,?_,?_,?_,?_,fun j hj=>hj,fun u hu _=>hu,fun h=>by cases h⟩
   .rintro⟨t,b⟩ G h7 ⟨rfl,j1,j2,j3,j4,j5,j6,j7,j8⟩
    simp only at j4 j5 j6 j7 j8 ⊢
    cases b with
    |false=>
     have hc:Ge a (a.getD k 0#64)=t:=(Ql hl _).uniq ⟨j6,j8 rfl,j7⟩
     have hu:=TY (n:=a.length) (k:=k) (f:=fun i=>Ge a (a.getD i 0#64)) (z:=0#64)
     rw[hc]at hu
     simp only[Eg,go_sem,j1,j2,j3,j4,j5,hk,J3 hk,hu]
    |true=>
     simp only[Eg,go_sem,j1,j2,j3,j4,j5,A0]
     refine Ab (by decide) a.length (by omega) (I:=fun y G h3=>h3=[some ⟨AW,1,0,false,(CR a.length k (fun i=>Ge a (a.getD i 0#64)) 0#64).map eW⟩]/\A3.tmp G 0=lW a/\A3.tmp G 3=.sl 0 0 0 a.length/\A3.tmp G 4=.i .i64 k/\∃t' b',A3.tmp G 5=vW t'/\A3.tmp G 6=.b b'/\ZZ (a.getD k 0#64) t'/\(∀u,ZZ (a.getD k 0#64) u->M5 a u->ZZ t' u)/\(b'=true->t.toNat<t'.toNat)/\(b'=false->t'=t/\∀y',y'<y->t.getLsbD y'=true->ZZ (a.getD y' 0#64) t)) ?_ ?_ ?_ 0 _ _ (zero_le _) ?_ ?_
     .rintro y E h4 hy p1 ⟨rfl,p2,p3,p4,t',b',p5,p6,p7⟩
      simp only[Eg,go_sem,p1,p2,p3,p4,p5,p6]
      exact⟨t',rfl,p7⟩
     .rintro y E h4 hy p1 ⟨rfl,p2,p3,p4,t',b',p5,p6,p7,p8,p9,h5⟩
      cases hb:t'.getLsbD y with
      |false=>
       simp only[Eg,go_sem,p1,p2,p3,p4,p5,p6,AT C,Aq,hb]
       refine⟨t',rfl,p7,p8,p9,fun hb'=>?_⟩
       obtain⟨e1,e2⟩:=h5 hb'
       refine⟨e1,fun y' hy' hty=>?_⟩
       by_cases e:y'=y
       .subst e;rw[e1]at hb;rw[hb]at hty;cases hty
       .exact e2 y' (by omega) hty
      |true=>
       by_cases hs:a.getD y 0#64|||t'=t'
       .simp only[Eg,go_sem,p1,p2,p3,p4,p5,p6,AT C,Aq,hb,Cj hy,D7 C,hs]
        refine⟨t',rfl,p7,p8,p9,fun hb'=>?_⟩
        obtain⟨e1,e2⟩:=h5 hb'
        refine⟨e1,fun y' hy' hty=>?_⟩
        by_cases e:y'=y
        .subst e
         rw[<- e1]
         exact(Aet _ _).1 hs
        .exact e2 y' (by omega) hty
       .simp only[Eg,go_sem,p1,p2,p3,p4,p5,p6,AT C,Aq,hb,Cj hy,D7 C,hs]
        have h6:t'.toNat<(t'|||a.getD y 0#64).toNat:=Kk (by rw[BitVec.or_comm];exact hs)
        refine⟨t'|||a.getD y 0#64,rfl,fun j hj=>by rw[BitVec.getLsbD_or,p7 j hj,Bool.true_or],fun u hu hc j hj=>?_,?_⟩
        .rw[BitVec.getLsbD_or,Bool.or_eq_true]at hj
         rcases hj with hj|hj
         .exact p8 u hu hc j hj
         .exact hc y hy (p8 u hu hc y hb) j hj
        .cases b' with
         |true=>have:=p9 rfl;omega
         |false=>rw[(h5 rfl).1]at h6 ⊢;exact h6
     .rintro E h4 ⟨rfl,p2,p3,p4,t',b',p5,p6,p7,p8,p9,h5⟩
      simp only[Eg,go_sem,p2,p3,p4,p5,p6]
      refine⟨(t',b'),?_,rfl,rfl,p7,p8,fun hb'=>?_⟩
      .cases b' with
       |true=>have:=p9 rfl;have:=t'.isLt;simp only[if_true];omega
       |false=>rw[(h5 rfl).1];simp
      .obtain⟨e1,e2⟩:=h5 hb'
       rw[e1]
       exact fun y hy hty=>e2 y hy hty
     all_goals simp only[go_sem,j1,j2,j3,j4,j5]
     all_goals first|rfl|exact⟨t,rfl,j6,j7,rfl,fun y' hy'=>by omega⟩
   all_goals simp only[go_sem,h1,h2,h3]
  .rintro F h ⟨h2,h3,rfl⟩
   simp only[Eg,go_sem,h3,H7,BG,hm]
  all_goals simp only[go_sem]
  all_goals first|rfl|rw[EM]
theorem SN(xs:List Int)(hl:xs.length<9223372036854775807)(n:Int):VP V A1i [lI xs,.i .i64 n] Q↔Q (.i .i64 (CE (fun y=>decide (n=y)) xs)):=by
 refine Af ?_
 rw[Ad C.c_z48.1 C.c_z48.2]
 simp only[Ac0,go_sem]
 refine Ab (by decide) xs.length hl (I:=fun k F h=>h=[]/\A3.tmp F 0=lI xs/\A3.tmp F 1=.i .i64 n/\∀(j:Nat) (hj:j<xs.length),j<k->¬n=xs[j]) ?_ ?_ ?_ 0 _ _ (zero_le _) ?_ ?_
 .rintro k F h hk h1 ⟨rfl,h2,h3,h4⟩
  simp only[go_sem,h1,h2,h3]
  exact h4
 .rintro k F h hk h1 ⟨rfl,h2,h3,h4⟩
  by_cases e:xs[k]=n
  .simp only[go_sem,h1,h2,h3,getElem?_eq_getElem hk,e]
   rw[DC hk (by simp[e]) fun j hj=>by simpa using h4 j _ hj]
  .simp only[go_sem,h1,h2,h3,getElem?_eq_getElem hk,e]
   intro j hj h0
   by_cases e2:j=k
   .subst e2;exact fun e3=>e e3.symm
   .exact h4 j hj (by omega)
 .rintro F h ⟨rfl,h2,h3,h4⟩
  simp only[go_sem]
  rw[DB fun x hx=>by obtain⟨j,hj,e⟩:=List.mem_iff_getElem.1 hx;rw[<- e];simpa using h4 j hj hj]
 all_goals simp only[go_sem]
 all_goals first|rfl|(intro j hj h0;omega)
theorem At(t:A2)(n:Int):VP V A8h [vT t,.i .i64 n] Q↔Q (.b (BZ t n)):=by
 refine Af ?_
 rw[Ad C.c_z92.1 C.c_z92.2]
 cases h0:decide (0<=n)<;>simp only[Ach,go_sem,h0,BZ]
theorem SJ(n:AI):VP V Y9 [vN n] Q↔Q (.b (CY n)):=by
 refine Af ?_
 rw[Ad C.c_z159.1 C.c_z159.2]
 cases c0:decide (0<=n.thread)<;>cases c1:decide (n.kind=3)<;>cases c2:decide (n.mode=0) <;>
  simp only[A3i,go_sem,c0,c1,c2,CY]
theorem Kn(n:AI):VP V A5i [vN n] Q↔Q (.b (Jc n)):=by
 refine Af ?_
 rw[Ad C.c_z202.1 C.c_z202.2]
 cases c0:decide (n.kind=2)<;>cases c1:decide (n.kind=4)<;>cases c2:decide (n.mode=1)<;>cases c3:decide (n.mode=3) <;>
  simp only[AbI,go_sem,c0,c1,c2,c3,Jc]
theorem EY(n:AI):VP V A5n [vN n] Q↔Q (.b (Et n)):=by
 refine Af ?_
 rw[Ad C.c_z229.1 C.c_z229.2]
 cases c0:decide (n.kind=3)<;>cases c1:decide (0<=n.thread)<;>cases c4:decide (n.kind=4)<;>cases c2:decide (n.mode=2)<;>cases c3:decide (n.mode=3) <;>
  simp only[AbN,go_sem,c0,c1,c2,c3,c4,Et]
theorem G9(t:A2)(hu:J9 t)(a:Int){b:Nat}(hb:b<t.nodes.length):VP V Y6 [vT t,.i .i64 a,.i .i64 b] Q↔Q (.b (AK t a b)):=by
 refine Af ?_
 rw[Ad C.c_z150.1 C.c_z150.2]
 simp only[A3e,go_sem,A5 hb]
 unfold VL
 rw[A0]
 refine AJ (M:=Int) (I:=fun x F h=>h=[]/\A3.tmp F 3=.fp (eT t) 0/\A3.tmp F 1=.i .i64 a/\A3.tmp F 7=.i .i64 x/\x<t.nodes.length/\L8 t a t.nodes.length x=AK t a b) (μ:=fun x=>(x+1).toNat) ?_ (t.at b).up _ _ ⟨rfl,?_,?_,?_,?_,rfl⟩
 .rintro x F h ⟨rfl,j1,j2,j3,j4,j5⟩
  have h1:∀y:Int,y<t.nodes.length->L8 t a (t.nodes.length+1) y=L8 t a t.nodes.length y:=fun y hy=>Tc hu a _ y hy hy
  by_cases c0:0<=x
  .obtain⟨m,rfl⟩:=eq_ofNat_of_zero_le c0
   have hm:m<t.nodes.length:=by omega
   have h0:=h1 (m:Int) j4
   rw[L8,if_neg (by omega)]at h0
   by_cases c1:(m:Int)=a
   .rw[if_pos c1]at h0
    subst c1
    simp only[PH,go_sem,j1,j2,j3,A0]
    rw[<- j5,<- h0]
   .rw[if_neg c1,toNat_natCast]at h0
    have h2:=hu m hm
    simp only[PH,go_sem,j1,j2,j3,c1,A0,A5 hm]
    exact⟨_,by omega,rfl,by omega,by rw[h0,j5]⟩
  .have h0:=h1 x j4
   rw[L8,if_pos (by omega)]at h0
   simp only[PH,go_sem,j1,j2,j3,c0]
   rw[<- j5,<- h0]
 .simp only[go_sem]
 .simp only[go_sem]
 .simp only[go_sem]
 .have:=hu b hb;omega
theorem Ds(t:A2)(hu:J9 t)(a b:Int):VP V AdN [vT t,.i .i64 a,.i .i64 b] Q↔Q (.b (Ao t a b)):=by
 refine Af ?_
 rw[Ad C.c_z82.1 C.c_z82.2]
 cases ha:BZ t a with
 |false=>simp only[A0E,go_sem,At C,ha,Ao]
 |true=>
  cases hb:BZ t b with
  |false=>simp only[A0E,go_sem,At C,ha,hb,Ao]
  |true=>
   obtain⟨m,rfl,hm⟩:=A9 ha
   obtain⟨n,rfl,hn⟩:=A9 hb
   cases c:decide ((t.at m).thread<0)with
   |true=>
    have c':=of_decide_eq_true c
    simp only[A0E,go_sem,At C,ha,hb,Ao,A5 hm,A5 hn,c,if_pos c']
   |false=>
    have c':=of_decide_eq_false c
    simp only[A0E,go_sem,At C,ha,hb,Ao,A5 hm,A5 hn,c,if_neg c',G9 C t hu _ hn]
theorem G8(t:A2)(hu:J9 t)(a b:Int):VP V Y8 [vT t,.i .i64 a,.i .i64 b] Q↔Q (.b (AO t a b)):=by
 refine Af ?_
 rw[Ad C.c_z154.1 C.c_z154.2]
 cases ha:BZ t a with
 |false=>simp only[N5,go_sem,At C,ha,AO]
 |true=>
  cases hb:BZ t b with
  |false=>simp only[N5,go_sem,At C,ha,hb,AO]
  |true=>
   obtain⟨m,rfl,hm⟩:=A9 ha
   obtain⟨n,rfl,hn⟩:=A9 hb
   by_cases e:(m:Int)=n
   .simp only[N5,go_sem,At C,ha,hb,AO,e]
   .cases c0:decide (0<=(t.at m).thread)<;>cases c1:decide ((t.at m).thread=(t.at n).thread)<;>cases c2:AK t (m:Int) n <;>
     simp only[N5,go_sem,At C,ha,hb,AO,e,A5 hm,A5 hn,c0,c1,c2,G9 C t hu _ hn,G9 C t hu _ hm]
end
theorem EN{k:Nat}(h0:0<k)(h:k<9223372036854775807):IntKind.i64.wrap ((k:Int)-1)=((k-1:Nat):Int):=by rw[Ax (by omega) (by omega)];omega
section
variable {V:Ai}(C:Am V){Q:VV->Prop}
include C
theorem Ae(xs:List Int)(hl:xs.length<9223372036854775807)(n:Int):VP V A1i [lI xs,.i .i64 n] Q↔Q (.i .i64 (BH xs n)):=SN C xs hl n
theorem LW(s:A8)(hs:GI s)(n:Int):VP V AdC [HJ s,.i .i64 n] Q↔Q (.i .i64 (Mv s n)):=by
 refine Af ?_
 rw[Ad C.c_z49.1 C.c_z49.2]
 have hl:=hs.has
 unfold Mv
 cases h:AQ s.has n with
 |false=>
  simp only[A6i,go_sem,Ae C s.has (by omega),A26 h,Int.reduceNeg,Int.reduceLT]
 |true=>
  obtain⟨k,e,hk,_⟩:=Bn h
  have h0:¬(k:Int)<0:=by omega
  by_cases h1:s.jf.length<=k
  .simp only[A6i,go_sem,Ae C s.has (by omega),e,h0,h1]
  .simp only[A6i,go_sem,Ae C s.has (by omega),e,h0,h1,Ak (show k<s.jf.length by omega)]
theorem Gy(a b:AI)(pa pb:Int):VP V A5b [vN a,vN b,.i .i64 pa,.i .i64 pb] Q↔Q (.b (DW a b pa pb)):=by
 refine Af ?_
 rw[Ad C.c_z156.1 C.c_z156.2]
 cases c0:decide (a.kind=2)<;>cases c1:decide (a.kind=3)<;>cases c2:decide (b.kind=2)<;>cases c3:decide (b.kind=3)<;>cases c4:decide (a.loc=b.loc) <;>
  simp only[AbC,go_sem,c0,c1,c2,c3,c4,DW]<;>simp_all
theorem ES(s:A8)(hs:GI s)(loc w:Int):VP V AdD [HJ s,.i .i64 loc,.i .i64 w] Q↔Q (.i .i64 (BW s loc w)):=by
 refine Af ?_
 rw[Ad C.c_z50.1 C.c_z50.2]
 unfold BW
 by_cases h0:loc<0
 .simp only[A6j,go_sem,h0]
 .obtain⟨k,rfl⟩:=eq_ofNat_of_zero_le (by omega:0<=loc)
  by_cases h1:s.mo.length<=k
  .simp only[A6j,go_sem,h0,h1]
  .have hk:k<s.mo.length:=by omega
   have hl:=hs.mi' k
   have hc:=hs.mc' k
   simp only[A6j,go_sem,h0,h1]
   generalize hm:s.mo.getD k []=m at *
   refine Ab (by decide) m.length (by omega) (I:=fun j F h=>h=[]/\A3.tmp F 1=.i .i64 k/\A3.tmp F 2=.i .i64 w/\A3.tmp F 3=.fp (Hd s) 0/\∀(i:Nat) (hi:i<m.length),i<j->AQ m[i] w=false) ?_ ?_ ?_ 0 _ _ (zero_le _) ?_ ?_
   .rintro j F h hj p1 ⟨rfl,p2,p3,p4,p5⟩
    simp only[go_sem,p1,p2,p3,p4,C7 hk,hm]
    exact p5
   .rintro j F h hj p1 ⟨rfl,p2,p3,p4,p5⟩
    have h2:=hc j
    rw[List.getD_eq_getElem?_getD,getElem?_eq_getElem hj,Option.getD_some]at h2
    cases e:AQ m[j] w with
    |true=>
     simp only[go_sem,↓reduceIte,p1,p2,p3,p4,C7 hk,hm,getElem?_eq_getElem hj,Ae C m[j] (by omega),DQ,e]
     rw[DC hj e fun i hi=>p5 i (by omega) hi]
    |false=>
     simp only[go_sem,↓reduceIte,p1,p2,p3,p4,C7 hk,hm,getElem?_eq_getElem hj,Ae C m[j] (by omega),DQ,e]
     intro i hi h3
     by_cases e2:i=j
     .subst e2;exact e
     .exact p5 i hi (by omega)
   .rintro F h ⟨rfl,p2,p3,p4,p5⟩
    simp only[go_sem]
    rw[DB fun x hx=>by obtain⟨j,hj,e⟩:=List.mem_iff_getElem.1 hx;rw[<- e];exact p5 j hj hj]
   all_goals simp only[go_sem]
   all_goals first|rfl|(intro j hj h4;omega)
theorem SH(t:A2)(ht:t.nodes.length<=1000):VP V Ra [vT t] Q↔Q (vW (Ed t)):=by
 refine Af ?_
 rw[Ad C.c_z158.1 C.c_z158.2]
 simp only[A3h,go_sem]
 refine Ab (by decide) t.nodes.length (by omega) (I:=fun k F h=>h=[]/\A3.tmp F 1=.fp (eT t) 0/\A3.tmp F 3=vW (BR fun i=>decide (i<k)&&decide ((t.at i).up<0))) ?_ ?_ ?_ 0 _ _ (zero_le _) ?_ ?_
 .rintro k F h hk p1 ⟨rfl,p2,p3⟩
  simp only[go_sem,p1,p2,p3]
 .rintro k F h hk p1 ⟨rfl,p2,p3⟩
  by_cases e:(t.at k).up<0
  .simp only[go_sem,p1,p2,p3,A5 hk,e,AP C]
   by_cases h64:k<64
   .rw[MJ _ _ h64]
    congr 1
    apply Bx
    intro j hj
    by_cases e2:j=k
    .subst e2;simp[e]
    .have:(j<k+1)↔(j<k):=by omega
     simp[this,e2]
   .have:BC (k:Int)=0#64:=by unfold BC;rw[if_neg (by omega)]
    rw[this,BitVec.or_zero]
    congr 1
    apply Bx
    intro j hj
    have:(j<k+1)↔(j<k):=by omega
    simp[this]
  .simp only[go_sem,p1,p2,p3,A5 hk,e]
   congr 1
   apply Bx
   intro j hj
   by_cases e2:j=k
   .subst e2;simp[e]
   .have:(j<k+1)↔(j<k):=by omega
    simp[this]
 .rintro F h ⟨rfl,p2,p3⟩
  simp only[go_sem,p3,Ed]
 all_goals simp only[go_sem]
 all_goals first|rfl|(rw[<- GH];congr 1;apply Bx;intro j hj;simp)
theorem SS(t:A2)(ht:t.nodes.length<=1000)(l:List Int)(hl:l.length<=1000):VP V A8f [vT t,lI l] Q↔Q (.b (Cg t l)):=by
 refine Af ?_
 rw[Ad C.c_z90.1 C.c_z90.2]
 simp only[Acg,go_sem]
 refine Ab (by decide) l.length (by omega) (I:=fun k F h=>h=[]/\A3.tmp F 1=lI l/\A3.tmp F 2=.fp (eT t) 0/\∀j,j<k->Ce t l j=true) ?_ ?_ ?_ 0 _ _ (zero_le _) ?_ ?_
 .rintro k F h hk p1 ⟨rfl,p2,p3,p4⟩
  simp only[go_sem,p1,p2,p3]
  exact p4
 .rintro k F h hk p1 ⟨rfl,p2,p3,p4⟩
  have h1:Ce t l k=false->false=Cg t l:=fun h=>by rw[Cg,AB hk h];rfl
  have good:Ce t l k=true->∀j,j<k+1->Ce t l j=true:=fun h j hj=>by
   by_cases e:j=k
   .rw[e];exact h
   .exact p4 j (by omega)
  cases c0:BZ t (l.getD k 0)with
  |false=>
   simp only[go_sem,p1,p2,p3,Ak hk,At C,c0]
   exact h1 (by rw[Ce,c0];rfl)
  |true=>
   obtain⟨n,hn,h2⟩:=A9 c0
   have h0:Ce t l k=(Ch l k&&(decide ((t.at n).up<0)||AQ l (t.at n).up)):=by
    unfold Ce
    rw[c0,hn,toNat_natCast,Bool.true_and]
   rw[hn]at c0
   by_cases z:k=0
   .subst z
    have hr:Ch l 0=true:=by simp[Ch]
    rw[hr,Bool.true_and]at h0
    have z0:¬(0:Int)<((0:Nat):Int):=by omega
    by_cases u0:0<=(t.at n).up
    .have u1:¬(t.at n).up<0:=by omega
     rw[decide_eq_false u1,Bool.false_or]at h0
     cases u2:AQ l (t.at n).up<;>rw[u2]at h0 <;>
      simp only[go_sem,p1,p2,p3,Ak hk,At C,c0,z0,hn,A5 h2,u0,Ae C l (by omega),C0,u2]
     .exact h1 h0
     .exact good h0
    .have u1:(t.at n).up<0:=by omega
     rw[decide_eq_true u1,Bool.true_or]at h0
     simp only[go_sem,p1,p2,p3,Ak hk,At C,c0,z0,hn,A5 h2,u0]
     exact good h0
   .have z0:(0:Int)<(k:Int):=by omega
    have zw:=EN (show 0<k by omega) (by omega)
    have h3:k-1<l.length:=by omega
    have hr:Ch l k = !decide ((n:Int)<=l.getD (k-1) 0):=by
     unfold Ch
     rw[decide_eq_false z,Bool.false_or,hn]
     by_cases c:(n:Int)<=l.getD (k-1) 0
     .rw[decide_eq_true c,decide_eq_false (by omega)];rfl
     .rw[decide_eq_false c,decide_eq_true (by omega)];rfl
    cases c1:decide ((n:Int)<=l.getD (k-1) 0)with
    |true=>
     rw[c1]at hr
     rw[hr]at h0
     simp only[go_sem,p1,p2,p3,Ak hk,At C,c0,z0,zw,Ak h3,hn,c1]
     exact h1 h0
    |false=>
     rw[c1]at hr
     rw[hr]at h0
     simp only[Bool.not_false,Bool.true_and]at h0
     by_cases u0:0<=(t.at n).up
     .have u1:¬(t.at n).up<0:=by omega
      rw[decide_eq_false u1,Bool.false_or]at h0
      cases u2:AQ l (t.at n).up<;>rw[u2]at h0 <;>
       simp only[go_sem,p1,p2,p3,Ak hk,At C,c0,z0,zw,Ak h3,hn,c1,A5 h2,u0,Ae C l (by omega),C0,u2]
      .exact h1 h0
      .exact good h0
     .have u1:(t.at n).up<0:=by omega
      rw[decide_eq_true u1,Bool.true_or]at h0
      simp only[go_sem,p1,p2,p3,Ak hk,At C,c0,z0,zw,Ak h3,hn,c1,A5 h2,u0]
      exact good h0
 .rintro F h ⟨rfl,p2,p3,p4⟩
  simp only[go_sem,p2,p3,SH C t ht,TG C l (by omega),D7 C]
  rw[Cg,AD p4];rfl
 all_goals simp only[go_sem]
 all_goals first|rfl|(intro j hj;omega)
theorem SP(t:A2)(hu:J9 t)(l has:List Int)(hl:l.length<=1000)(hh:has.length<=1000)(hv:∀n∈has,BZ t n=true)(loc:Int):VP V A8g [vT t,lI l,lI has,.i .i64 loc] Q↔Q (.b (Ca t l has loc)):=by
  refine Af ?_
  rw[Ad C.c_z91.1 C.c_z91.2]
  by_cases z:l.length=0
  · have z' : (l.length : Int) = 0 := by omega
    simp only[A6t,go_sem,z']
    simp[Ca,z]
  have z':¬(l.length:Int)=0:=by omega
  simp only[A6t,go_sem,z']
  refine Ab (by decide) l.length (by omega) (I:=fun k F h=>h=[]/\A3.tmp F 1=lI l/\A3.tmp F 2=lI has/\A3.tmp F 3=.i .i64 loc/\A3.tmp F 4=.fp (eT t) 0/\∀j,j<k->Bb t l has loc j=true) ?_ ?_ ?_ 0 _ _ (zero_le _) ?_ ?_
  · rintro k F h hk p1 ⟨rfl, p2, p3, p4, p5, p6⟩
    simp only[go_sem,p1,p2,p3,p4,p5]
    exact p6
  · rintro k F h hk p1 ⟨rfl, p2, p3, p4, p5, p6⟩
    have h2:Bb t l has loc k=false->false=Ca t l has loc:=fun h=>by rw[Ca,AB hk h];simp
    have good:Bb t l has loc k=true->∀j,j<k+1->Bb t l has loc j=true:=fun h j hj=>by
      by_cases e:j=k
      · rw[e];exact h
      · exact p6 j (by omega)
    cases c0:AQ has (l.getD k 0)with
    |false=>
      simp only[go_sem,p1,p2,p3,p4,p5,Ak hk,Ae C has (by omega),C0,c0]
      exact h2 (by rw[Bb,c0];rfl)
    |true=>
      obtain⟨n,hn,h5⟩:=A9 (hv _ (Ac.1 c0))
      have h0:Bb t l has loc k=(Ch l k&&(decide ((t.at n).kind=3)&&decide ((t.at n).loc=loc))&&decide (0<=(t.at n).thread)&&(List.range k).all fun j=>B1 t (l.getD k 0) (l.getD j 0)):=by
        unfold Bb G7
        rw[c0,hn,toNat_natCast,Bool.true_and]
      have h1:Ch l k=(decide (k=0)||decide (l.getD (k-1) 0<(n:Int))):=by rw[Ch,hn]
      rw[hn]at c0
      have h4:∀(hr:Ch l k=true) (hd:decide ((t.at n).kind=3)=true) (he:decide ((t.at n).loc=loc)=true) (hf:decide ((t.at n).thread<0)=false) (G:A3) (Q':Ex->A3->VH->Prop)
          (g1:A3.tmp G 1=lI l) (g2:A3.tmp G 2=lI has) (g3:A3.tmp G 3=.i .i64 loc) (g4:A3.tmp G 4=.fp (eT t) 0) (g9:A3.tmp G 9=.i .i64 k) (ha:A3.tmp G 10=.p 0 0 0 0) (hb:A3.tmp G 11=.i .i64 0)
          (q1:∀G' h',A3.tmp G' 1=lI l->A3.tmp G' 2=lI has->A3.tmp G' 3=.i .i64 loc->A3.tmp G' 4=.fp (eT t) 0->A3.tmp G' 9=.i .i64 k->Bb t l has loc k=true->Q' .norm G' h') (q2:∀G' h',A3.tmp G' 8=.b false->Bb t l has loc k=false->Q' .ret G' h'),
          VL V A17 2 AcI G [some ⟨BS,0,0,false,[eN (t.at n)]⟩] Q':=by
        intro hr hd he hf G Q' g1 g2 g3 g4 g9 ha hb q1 q2
        have h9:decide (0<=(t.at n).thread)=true:=by simp at hf ⊢;omega
        rw[hr,hd,he,h9]at h0
        simp only[Bool.and_self,Bool.true_and]at h0
        refine Ab (by decide) k (by omega) (I:=fun j F h=>h=[some ⟨BS,0,0,false,[eN (t.at n)]⟩]/\A3.tmp F 1=lI l/\A3.tmp F 2=lI has/\A3.tmp F 3=.i .i64 loc/\A3.tmp F 4=.fp (eT t) 0/\A3.tmp F 9=.i .i64 k/\A3.tmp F 10=.p 0 0 0 0/\∀i,i<j->B1 t (l.getD k 0) (l.getD i 0)=true) ?_ ?_ ?_ 0 _ _ (zero_le _) hb ⟨rfl,g1,g2,g3,g4,g9,ha,fun i hi=>by omega⟩
        · rintro j F h hj r1 ⟨rfl, r2, r3, r4, r5, r6, r7, r8⟩
          simp only[go_sem,r1,r2,r3,r4,r5,r6,r7]
          exact r8
        · rintro j F h hj r1 ⟨rfl, r2, r3, r4, r5, r6, r7, r8⟩
          have hg:j<l.length:=by omega
          have c1:AQ has (l.getD j 0)=true:=by
            have:=p6 j hj
            unfold Bb at this
            simp only[Bool.and_eq_true]at this
            exact this.1.1.1.1
          obtain⟨n2,hc,h7⟩:=A9 (hv _ (Ac.1 c1))
          have h8:B1 t (l.getD k 0) (l.getD j 0)=(CY (t.at n)&&CY (t.at n2)&&decide ((t.at n).val=(t.at n2).val)&&AO t n n2):=by
            unfold B1;rw[hn,hc,toNat_natCast,toNat_natCast]
          have h6:B1 t (l.getD k 0) (l.getD j 0)=false->Bb t l has loc k=false:=fun h=>by rw[h0];exact AB hj h
          have h3:B1 t (l.getD k 0) (l.getD j 0)=true->∀i,i<j+1->B1 t (l.getD k 0) (l.getD i 0)=true:=fun h i hi=>by
            by_cases e:i=j
            · rw[e];exact h
            · exact r8 i (by omega)
          cases y1:CY (t.at n)<;>cases y2:CY (t.at n2)<;>cases y3:decide ((t.at n).val=(t.at n2).val)<;>cases y4:AO t n n2<;>rw[y1,y2,y3,y4]at h8 <;>
            simp only[go_sem,r1,r2,r3,r4,r5,r6,r7,Ak hk,Ak hg,hn,hc,A5 h7,SJ C,G8 C t hu,y1,y2,y3,y4]
          all_goals first
            |exact q2 _ _ (by simp only[go_sem]) (h6 h8)
            |(have:=h3 h8;rw[hn]at this;exact this)
        · rintro F h ⟨rfl, r2, r3, r4, r5, r6, r7, r8⟩
          exact q1 _ _ r2 r3 r4 r5 r6 (by rw[h0];exact AD r8)
      have zb:(k=0/\decide ((0:Int)<(k:Int))=false)\/(0<k/\decide ((0:Int)<(k:Int))=true):=by
        rcases Nat.eq_zero_or_pos k with h|h
        · exact .inl ⟨h,by simp[h]⟩
        · exact .inr ⟨h,by simp;omega⟩
      have hm:k-1<l.length:=by omega
      rcases zb with ⟨zk,z0⟩|⟨zk,z0⟩
      · have hr : Ch l k = true := by rw [h1, zk]; rfl
        simp only[go_sem,p1,p2,p3,p4,p5,Ak hk,Ae C has (by omega),C0,hn,c0,z0,A5 h5]
        repeat' first
          |(refine BB (fun hx=>?_) (fun hx=>?_)<;>simp only[go_sem,p1,p2,p3,p4,p5,hx])
          |(refine Bd (fun hx=>?_) (fun hx=>?_)<;>simp only[go_sem,p1,p2,p3,p4,p5,hx])
        all_goals first
          |exact h2 (by rw[h0];simp_all)
          | (refine h4 hr (by simp_all) (by simp_all) (by assumption) _ _ ?_ ?_ ?_ ?_ ?_ ?_ ?_ ?_ ?_
             all_goals try simp only[go_sem,p1,p2,p3,p4,p5]
             · intro G' e1 e2 e3 e4 e5 e6
               simp only[e1,e2,e3,e4,e5,go_sem]
               exact good e6
             · intro G' h' e1 e2
               simp only[e1,go_sem,h2 e2])
      · have zw := EN zk (by omega)
        simp only[go_sem,p1,p2,p3,p4,p5,Ak hk,Ak hm,Ae C has (by omega),C0,hn,c0,z0,zw,A5 h5]
        repeat' first
          |(refine BB (fun hx=>?_) (fun hx=>?_)<;>simp only[go_sem,p1,p2,p3,p4,p5,Ak hk,hn,hx,A5 h5])
          |(refine Bd (fun hx=>?_) (fun hx=>?_)<;>simp only[go_sem,p1,p2,p3,p4,p5,Ak hk,hn,hx,A5 h5])
        all_goals first
          |exact h2 (by rw[h0,h1];simp_all;try omega)
          | (refine h4 (by rw [h1];simp_all) (by simp_all) (by simp_all) (by assumption) _ _ ?_ ?_ ?_ ?_ ?_ ?_ ?_ ?_ ?_
             all_goals try simp only[go_sem,p1,p2,p3,p4,p5]
             · intro G' e1 e2 e3 e4 e5 e6
               simp only[e1,e2,e3,e4,e5,go_sem]
               exact good e6
             · intro G' h' e1 e2
               simp only[e1,go_sem,h2 e2])
  · rintro F h ⟨rfl, p2, p3, p4, p5, p6⟩
    simp only[go_sem]
    rw[Ca,AD p6];simp[z]
  all_goals simp only[go_sem]
  all_goals first|rfl|(intro j hj;omega)
end
end Go.AM
