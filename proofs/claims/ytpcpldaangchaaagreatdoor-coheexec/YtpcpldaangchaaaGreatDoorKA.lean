/-
  Own work, part of the proof of CoheExec: what functions compute (first part).
-/
import Derived.Test.YtpcpldaangchaaaGreatDoorCoF
import Derived.Test.YtpcpldaangchaaaGreatDoorPl
set_option maxRecDepth 4000
set_option linter.unusedVariables false
set_option linter.unusedSimpArgs false
set_option linter.unusedSectionVars false
set_option linter.unnecessarySimpa false
namespace Go.AM
open Go Go.Proofs
section
variable {V:Al} (C:AA V) {Q:VV→Prop}
include C
theorem HS (i:Int):VP V A2I [.i .i64 i] Q↔Q (vW (C9 i)):=by
 refine Ae ?_
 rw [Ab C.c_z74.1 C.c_z74.2]
 unfold C9
 by_cases h0:i < 0
 ·simp only [WW,Sd,go_sem,↓reduceIte,h0]
  rw [if_neg (by omega)]
 ·by_cases h1:64≤i
  ·simp only [WW,Sd,go_sem,↓reduceIte,h0,h1]
   rw [if_neg (by omega)]
  ·obtain ⟨n,rfl⟩:=Int.eq_ofNat_of_zero_le (by omega:0≤i)
   simp only [WW,Sd,go_sem,↓reduceIte,h0,h1,AdQ (show n < 64 by omega)]
   rw [if_pos (by omega)]
theorem BO (s:BitVec 64) (i:Int):VP V A2i [vW s,.i .i64 i] Q↔Q (.b (Bx s i)):=by
 refine Ae ?_
 rw [Ab C.c_z31.1 C.c_z31.2]
 simp only [A5W,A1W,go_sem,↓reduceIte,HS C,A9d]
theorem CS (s:BitVec 64) (i:Int):VP V A2R [vW s,.i .i64 i] Q↔Q (vW (s ||| C9 i)):=by
 refine Ae ?_
 rw [Ab C.c_z85.1 C.c_z85.2]
 simp only [A6f,A21,go_sem,↓reduceIte,HS C]
theorem R7 (s t:BitVec 64):VP V A2Y [vW s,vW t] Q↔Q (.b (decide (s &&& ~~~t=0#64))):=by
 refine Ae ?_
 rw [Ab C.c_z94.1 C.c_z94.2]
 simp only [A6l,A22,go_sem,↓reduceIte]
theorem Mz (xs:List Int) (hl:xs.length < 9223372036854775807):VP V A2r [lI xs] Q↔Q (vW (CD xs)):=by
 refine Ae ?_
 rw [Ab C.c_z47.1 C.c_z47.2]
 simp only [A62,Sa,go_sem,↓reduceIte]
 refine Au (by decide) xs.length hl (I:=fun k F h=>h=[]∧A3.tmp F 6=lI xs∧A3.tmp F 3=vW (CD (xs.take k))) ?_ ?_ 0 _ _ (by omega) ?_ ?_ ?_
 ·rintro k F h hk h1 h2 ⟨rfl,h3,h4⟩
  simp only [Sa,go_sem,↓reduceIte,h1,h2,h3,h4,List.getElem?_eq_getElem hk,HS C]
  rw [List.take_succ_eq_append_getElem hk]
  simp only [CD,List.foldl_append,List.foldl_cons,List.foldl_nil]
 ·rintro F h ⟨rfl,h3,h4⟩
  rw [List.take_length] at h4
  simp only [Sa,go_sem,↓reduceIte,h4]
 all_goals simp only [go_sem,↓reduceIte]
 all_goals rfl
theorem LY (lo hi:Int) (hlo:lo < 9223372036854775808):VP V Qm [.i .i64 lo,.i .i64 hi] Q↔Q (vW (D2 lo hi)):=by
 refine Ae ?_
 rw [Ab C.c_z123.1 C.c_z123.2]
 have hm:U7 false hi 64=min hi 64:=by unfold U7;simp only [cond_false];split<;>omega
 have hm0:U7 true lo 0=max lo 0:=by unfold U7;simp only [cond_true];split<;>omega
 simp only [Z9,MT,go_sem,↓reduceIte]
 unfold VL
 rw [A0]
 refine AU (M:=Nat) (I:=fun k F h=>h=[]∧A3.tmp F 1 = .i .i64 hi∧A3.tmp F 6 = .i .i64 k∧A3.tmp F 5=vW (BC fun i=>decide (lo≤(i:Int)∧i < k))∧lo≤k∧(k:Int)≤max lo (max 0 (min hi 64))) (μ:=fun k=>64 - k) ?_ (max lo 0).toNat _ _ ⟨rfl,?_,?_,?_,?_,?_⟩
 ·rintro k F h ⟨rfl,h1,h2,h3,h4,h5⟩
  by_cases hk:(k:Int) < min hi 64
  ·simp only [Tv,MT,go_sem,↓reduceIte,h1,h2,h3,hm,hk,A0,HS C]
   have hw:IntKind.i64.wrap ((k:Int)+1)=((k+1:Nat):Int):=by rw [AG (by omega) (by omega)];omega
   refine ⟨k+1,by omega,?_⟩
   rw [hw]
   refine ⟨rfl,?_,by omega,by omega⟩
   rw [Mo _ _ (by omega)]
   congr 1
   apply Ba
   intro j hj
   by_cases e:j=k
   ·subst e;simp;omega
   ·by_cases e2:j < k
    ·have:j < k+1:=by omega
     simp [e,e2,this]
    ·have:¬ j < k+1:=by omega
     simp [e,e2,this]
  ·simp only [Tv,MT,go_sem,↓reduceIte,h1,h2,h3,hm,hk,Nat.beq_refl]
   congr 1
   apply Ba
   intro j hj
   by_cases e:lo≤(j:Int)
   ·have:(j < k)↔((j:Int) < hi):=by omega
    simp [e,this]
   ·simp [e]
 ·simp only [go_sem,↓reduceIte]
 ·simp only [go_sem,↓reduceIte,hm0]
  omega
 ·simp only [go_sem,↓reduceIte]
  rw [← Ga]
  congr 1
  apply Ba
  intro j hj
  simp
  omega
 ·omega
 ·omega
theorem PA (xs:List Int) (i:Int) (hl:xs.length < 1000) {Q:VV→VH→Prop}:LT V MZ [.p 1 0 0 0,.i .i64 i] [some (AN B3 1 (xs.map eI)),some ⟨Gc,0,0,false,[[.sl 0 xs.length 0 xs.length]]⟩] Q ↔
  Q (.tu []) [some (AN B3 1 ((xs++[i]).map eI)),some ⟨Gc,0,0,false,[[.sl 0 (xs++[i]).length 0 (xs++[i]).length]]⟩]:=by
 refine Mw ?_
 rw [Gd C.h_z132]
 have h1:(xs.length+1) * 8≤A6:=by unfold A6;omega
 simp only [Zg,P8,go_sem,↓reduceIte,h1]
theorem Ale (s:BitVec 64) (h:s≠0#64):VP V AL [vW s] Q↔Q (.i .i64 (Lib.ctz 64 s.toNat:Nat)):=by
 refine Ae ?_
 unfold VP
 rw [C.c_mathbits_TrailingZeros64]
 have:=s.isLt
 refine ⟨.i .i64 (Lib.ctz 64 s.toNat:Nat),?_,rfl,rfl⟩
 unfold A0Z vW
 simp only
 rw [if_pos (by omega),Int.toNat_natCast]
theorem Wy (s:BitVec 64):LT V K9 [vW s,.f MZ [.p 1 0 0 0] []] [some LE,some ⟨Gc,0,0,false,[[.sl 0 0 0 0]]⟩]
  fun _ h=>h=[some (AN B3 1 ((Ax s).map eI)),some ⟨Gc,0,0,false,[[.sl 0 (Ax s).length 0 (Ax s).length]]⟩]:=by
 rw [Gd C.h_z131]
 simp only [MF,J3,go_sem,↓reduceIte]
 unfold VL
 rw [A0]
 refine AU (M:=BitVec 64×List Nat) (I:=fun x F h=>A3.tmp F 0=vW x.1∧A3.tmp F 1 = .f MZ [.p 1 0 0 0] []∧x.2++BX x.1=BX s∧h=[some (AN B3 1 ((x.2.map fun (i:Nat)=>(i:Int)).map eI)),some ⟨Gc,0,0,false,[[.sl 0 x.2.length 0 x.2.length]]⟩]) (μ:=fun x=>(BX x.1).length) ?_ (s,[]) _ _ ⟨?_,?_,rfl,rfl⟩
 ·rintro ⟨t,l⟩ F h ⟨h1,h2,h3,rfl⟩
  simp only at h1 h2 h3 ⊢
  by_cases ht:t=0#64
  ·subst ht
   rw [A0g,List.append_nil] at h3
   simp only [J3,go_sem,↓reduceIte,h1,h2,Ax,h3]
  ·have hs:=A0f ht
   have hl:l.length < 1000:=by
    have:=congrArg List.length h3
    have h4:=De s
    simp only [Ax,List.length_map,List.length_append] at this h4
    omega
   have hx:=fun Q=>PA C (l.map fun (i:Nat)=>(i:Int)) (Lib.ctz 64 t.toNat:Nat) (by simpa using hl) (Q:=Q)
   simp only [List.length_map,List.length_append,List.length_cons,List.length_nil] at hx
   simp only [J3,go_sem,↓reduceIte,h1,h2,ht,A0,Ale C t ht]
   rw [hx]
   refine ⟨?_,(t &&& (t - 1#64),l++[Lib.ctz 64 t.toNat]),?_,rfl,?_,?_⟩
   ·simp only [go_sem]
   ·rw [hs];simp
   ·rw [← h3,hs];simp
   ·simp
 all_goals simp only [go_sem]
theorem DE (s:BitVec 64):VP V A2S [vW s] Q↔Q (lI (Ax s)):=by
 refine Ae ?_
 rw [Ab C.c_z86.1 C.c_z86.2]
 simp only [A6g,Xq,go_sem,↓reduceIte,Qy]
 obtain ⟨vf,h1,h2⟩:=Wy C s
 refine ⟨vf,h1,h2.mono ?_⟩
 rintro v _ rfl
 simp only [Xq,go_sem,↓reduceIte]
theorem Cn (xs:List Int) (n:Int) (hl:xs.length < 9223372036854775807):VP V A2s [lI xs,.i .i64 n] Q↔Q (.i .i64 (CG (fun y=>decide (n=y)) xs)):=by
 refine Ae ?_
 rw [Ab C.c_z48.1 C.c_z48.2]
 simp only [A63,Qa,go_sem,↓reduceIte]
 refine Au (by decide) xs.length hl (I:=fun k F h=>h=[]∧A3.tmp F 0=lI xs∧A3.tmp F 1 = .i .i64 n∧∀ (j:Nat) (hj:j < xs.length),j < k→¬ n=xs[j]) ?_ ?_ 0 _ _ (by omega) ?_ ?_ ?_
 ·rintro k F h hk h1 h2 ⟨rfl,h3,h4,h5⟩
  by_cases e:n=xs[k]
  ·subst e
   simp only [Qa,go_sem,↓reduceIte,h1,h2,h3,h4,List.getElem?_eq_getElem hk]
   rw [DG hk (by simp) fun j hj=>by simpa using h5 j (by omega) hj]
  ·simp only [Qa,go_sem,↓reduceIte,h1,h2,h3,h4,List.getElem?_eq_getElem hk,e]
   intro j hj hjk
   by_cases e2:j=k
   ·subst e2;exact e
   ·exact h5 j hj (by omega)
 ·rintro F h ⟨rfl,h3,h4,h5⟩
  simp only [Qa,go_sem,↓reduceIte]
  rw [Ei fun x hx=>by obtain ⟨j,hj,e⟩:=List.mem_iff_getElem.1 hx;rw [← e];simpa using h5 j hj hj]
 all_goals simp only [go_sem,↓reduceIte]
 all_goals first | rfl | (intro j hj hjk;omega)
theorem ED (xs:List ByteArray) (n:ByteArray) (hl:xs.length < 9223372036854775807):VP V UP [lS xs,.s n] Q↔Q (.i .i64 (CG (fun y=>decide (n=y)) xs)):=by
 refine Ae ?_
 rw [Ab C.c_z167.1 C.c_z167.2]
 simp only [ZE,Lq,go_sem,↓reduceIte]
 refine Au (by decide) xs.length hl (I:=fun k F h=>h=[]∧A3.tmp F 0=lS xs∧A3.tmp F 1 = .s n∧∀ (j:Nat) (hj:j < xs.length),j < k→¬ n=xs[j]) ?_ ?_ 0 _ _ (by omega) ?_ ?_ ?_
 ·rintro k F h hk h1 h2 ⟨rfl,h3,h4,h5⟩
  by_cases e:n=xs[k]
  ·subst e
   simp only [Lq,go_sem,↓reduceIte,h1,h2,h3,h4,List.getElem?_eq_getElem hk]
   rw [DG hk (by simp) fun j hj=>by simpa using h5 j (by omega) hj]
  ·simp only [Lq,go_sem,↓reduceIte,h1,h2,h3,h4,List.getElem?_eq_getElem hk,e]
   intro j hj hjk
   by_cases e2:j=k
   ·subst e2;exact e
   ·exact h5 j hj (by omega)
 ·rintro F h ⟨rfl,h3,h4,h5⟩
  simp only [Lq,go_sem,↓reduceIte]
  rw [Ei fun x hx=>by obtain ⟨j,hj,e⟩:=List.mem_iff_getElem.1 hx;rw [← e];simpa using h5 j hj hj]
 all_goals simp only [go_sem,↓reduceIte]
 all_goals first | rfl | (intro j hj hjk;omega)
theorem E3 (xs:List ByteArray) (n:ByteArray) (hl:xs.length < 9223372036854775807):VP V Us [lS xs,.s n] Q↔Q (.b (xs.any fun y=>decide (n=y))):=by
 refine Ae ?_
 rw [Ab C.c_z137.1 C.c_z137.2]
 simp only [Zi,TK,go_sem,↓reduceIte,ED C _ _ hl,M5]
theorem DN (xs:List (BitVec 64)) (hl:xs.length < 9223372036854775807) {g:Nat} {a c:List VV} (ha:Fz a) (hc:Fz c) (p:(BitVec 64)→Bool) (hf:∀ x,VP V g (a++[vW x]++c) fun r=>r = .b (p x)) :
  VP V UK [lW xs,.f g a c] Q↔Q (.i .i64 (CG p xs)):=by
 refine Ae ?_
 rw [Ab C.c_z160.1 C.c_z160.2]
 simp only [ZA,Lp,go_sem,↓reduceIte]
 refine Au (by decide) xs.length hl (I:=fun k F h=>h=[]∧A3.tmp F 0=lW xs∧A3.tmp F 1 = .f g a c∧∀ (j:Nat) (hj:j < xs.length),j < k→p xs[j]=false) ?_ ?_ 0 _ _ (by omega) ?_ ?_ ?_
 ·rintro k F h hk h1 h2 ⟨rfl,h3,h4,h5⟩
  have hq:=fun Q=>Ae (hf xs[k]) (Q:=Q)
  have hfz:=ha.call hc (h:=[]) (x:=[vW xs[k]]) rfl
  cases e:p xs[k] with
  | true =>
   simp only [Lp,go_sem,↓reduceIte,h1,h2,h3,h4,List.getElem?_eq_getElem hk,hfz,hq,e]
   rw [DG hk e fun j hj=>h5 j (by omega) hj]
  | false =>
   simp only [Lp,go_sem,↓reduceIte,h1,h2,h3,h4,List.getElem?_eq_getElem hk,hfz,hq,e]
   have hcl:MB 0 (.f g a c) = .f g a c:=by
    have h1:Cx 0 a=true:=Fz.bel ha
    have h2:Cx 0 c=true:=Fz.bel hc
    simp [MB,bel,h1,h2]
   simp only [AaO,Fz.bel ha,Fz.bel hc,Bool.and_self,cond_true,true_and]
   intro j hj hjk
   by_cases e2:j=k
   ·subst e2;exact e
   ·exact h5 j hj (by omega)
 ·rintro F h ⟨rfl,h3,h4,h5⟩
  simp only [Lp,go_sem,↓reduceIte]
  rw [Ei fun x hx=>by obtain ⟨j,hj,e⟩:=List.mem_iff_getElem.1 hx;rw [← e];exact h5 j hj hj]
 all_goals simp only [go_sem,↓reduceIte]
 all_goals first | rfl | (intro j hj hjk;omega)
theorem Dm (xs:List (BitVec 64)) (hl:xs.length < 9223372036854775807) {g:Nat} {a c:List VV} (ha:Fz a) (hc:Fz c) (p:(BitVec 64)→Bool) (hf:∀ x,VP V g (a++[vW x]++c) fun r=>r = .b (p x)) :
  VP V Up [lW xs,.f g a c] Q↔Q (.b (xs.any p)):=by
 refine Ae ?_
 rw [Ab C.c_z124.1 C.c_z124.2]
 simp only [Za,TF,go_sem,↓reduceIte,DN C xs hl ha hc p hf,Fz.eq ha,Fz.eq hc,M5]
theorem G3 (xs:List Int) (hl:xs.length < 9223372036854775807) {g:Nat} {a c:List VV} (ha:Fz a) (hc:Fz c) (p:Int→Bool) (hf:∀ x,VP V g (a++[.i .i64 x]++c) fun r=>r = .b (p x)) :
  VP V V2 [lI xs,.f g a c] Q↔Q (.i .i64 (CG p xs)):=by
 refine Ae ?_
 rw [Ab C.c_z183.1 C.c_z183.2]
 simp only [ZQ,Lu,go_sem,↓reduceIte]
 refine Au (by decide) xs.length hl (I:=fun k F h=>h=[]∧A3.tmp F 0=lI xs∧A3.tmp F 1 = .f g a c∧∀ (j:Nat) (hj:j < xs.length),j < k→p xs[j]=false) ?_ ?_ 0 _ _ (by omega) ?_ ?_ ?_
 ·rintro k F h hk h1 h2 ⟨rfl,h3,h4,h5⟩
  have hq:=fun Q=>Ae (hf xs[k]) (Q:=Q)
  have hfz:=ha.call hc (h:=[]) (x:=[.i .i64 xs[k]]) rfl
  cases e:p xs[k] with
  | true =>
   simp only [Lu,go_sem,↓reduceIte,h1,h2,h3,h4,List.getElem?_eq_getElem hk,hfz,hq,e]
   rw [DG hk e fun j hj=>h5 j (by omega) hj]
  | false =>
   simp only [Lu,go_sem,↓reduceIte,h1,h2,h3,h4,List.getElem?_eq_getElem hk,hfz,hq,e]
   have hcl:MB 0 (.f g a c) = .f g a c:=by
    have h1:Cx 0 a=true:=Fz.bel ha
    have h2:Cx 0 c=true:=Fz.bel hc
    simp [MB,bel,h1,h2]
   simp only [AaO,Fz.bel ha,Fz.bel hc,Bool.and_self,cond_true,true_and]
   intro j hj hjk
   by_cases e2:j=k
   ·subst e2;exact e
   ·exact h5 j hj (by omega)
 ·rintro F h ⟨rfl,h3,h4,h5⟩
  simp only [Lu,go_sem,↓reduceIte]
  rw [Ei fun x hx=>by obtain ⟨j,hj,e⟩:=List.mem_iff_getElem.1 hx;rw [← e];exact h5 j hj hj]
 all_goals simp only [go_sem,↓reduceIte]
 all_goals first | rfl | (intro j hj hjk;omega)
theorem En (xs:List Int) (hl:xs.length < 9223372036854775807) {g:Nat} {a c:List VV} (ha:Fz a) (hc:Fz c) (p:Int→Bool) (hf:∀ x,VP V g (a++[.i .i64 x]++c) fun r=>r = .b (p x)) :
  VP V UR [lI xs,.f g a c] Q↔Q (.b (xs.any p)):=by
 refine Ae ?_
 rw [Ab C.c_z169.1 C.c_z169.2]
 simp only [ZF,TV,go_sem,↓reduceIte,G3 C xs hl ha hc p hf,Fz.eq ha,Fz.eq hc,M5]
end
@[go_sem] theorem SE {n k:Nat} {f:Nat→BitVec 64} {z:BitVec 64}:((Co n k f z).map eW).set k [vW (f k)]=(Co n (k+1) f z).map eW:=Mq eW
@[go_sem] theorem AeQ {n k:Nat} {f:Nat→Int} {z:Int}:((Co n k f z).map eI).set k [.i .i64 (f k)]=(Co n (k+1) f z).map eI:=Mq eI
@[go_sem] theorem AeP {α:Type} {n k:Nat} {f:Nat→α} {z:α}:(Co n k f z).take n=Co n k f z:=by rw [List.take_of_length_le];rw [QY];exact Nat.le_refl n
attribute [go_sem] QY List.length_range
@[go_sem] theorem AdM (n:Nat):(List.range n).take n=List.range n:=by rw [List.take_of_length_le];simp
@[go_sem] theorem AmP (n:Nat) (w:BitVec 64):List.replicate n [vW w]=(List.replicate n w).map eW:=by simp
@[go_sem] theorem AmO (n:Nat) (w:Int):List.replicate n [VV.i .i64 w]=(List.replicate n w).map eI:=by simp
abbrev eP (p:Int×Int):List VV:=[.i .i64 p.1,.i .i64 p.2]
abbrev lP (l:List (Int×Int)):VV:=.ls (l.map eP)
@[go_sem] theorem Al5 (xs:List (Int×Int)) (x y:Int):xs.map eP++[[.i .i64 x,.i .i64 y]]=(xs++[(x,y)]).map eP:=by simp
theorem Fz.of {a:List VV} (h:∀ h d,B5 (frz h (d+3)) a=some (a,[])):Fz a:=h
section
variable {V:Al} (C:AA V) {Q:VV→Prop}
include C
theorem Y3 (x all:BitVec 64):VP V Qn [vW x,.fp [vW all] 0] Q↔Q (.b (!decide (x &&& ~~~all=0#64))):=by
 refine Ae ?_
 rw [Ab C.c_z125.1 C.c_z125.2]
 simp only [Zb,TG,go_sem,↓reduceIte,R7 C]
theorem DK (r:Rows):VP V XG [lW r] Q↔Q (.b (Dl r)):=by
 refine Ae ?_
 rw [Ab C.c_z78.1 C.c_z78.2]
 by_cases hl:r.length≤64
 ·have hl':¬ (64:Int) < r.length:=by omega
  simp only [A1D,Xp,go_sem,↓reduceIte,hl',LY C 0 _ (by omega),
   Dm C r (by omega) (g:=Qn) (a:=[]) (c:=[.fp [vW (D2 0 r.length)] 0]) Fz.nil (fun _ _=>rfl) (fun x=>!decide (x &&& ~~~(D2 0 r.length)=0#64)) (fun x=>(Y3 C _ _).2 rfl)]
  simp only [Dl,hl,go_sem,List.not_any_eq_all_not,Bool.not_not]
 ·have hl':(64:Int) < r.length:=by omega
  simp only [A1D,Xp,go_sem,↓reduceIte,hl',Bool.true_eq_false]
  simp [Dl,hl]
theorem A0T {n:Nat} (hl:n≤1000) {gf:Nat} {a c:List VV} (ha:Fz a) (hc:Fz c) (row:Nat→BitVec 64)
  (hp:∀ (i:Nat),i < n→VP V gf (a++[.i .i64 (i:Nat)]++c) fun r=>r=vW (row i)) :
  VP V Qj [.i .i64 n,.f gf a c] Q↔Q (lW ((List.range n).map row)):=by
 refine Ae ?_
 rw [Ab C.c_z111.1 C.c_z111.2]
 have h0:n * 8≤A6:=by unfold A6;omega
 simp only [Th,J6,go_sem,↓reduceIte,h0,Int.le_refl]
 refine Au (by decide) n (by omega) (I:=fun k F h=>A3.tmp F 1 = .f gf a c∧A3.tmp F 5 = .sl 0 0 0 n∧h=[some ⟨Bd,1,0,false,(Co n k row 0#64).map eW⟩]) ?_ ?_ 0 _ _ (by omega) ?_ ?_ ?_
 ·rintro k F h hk h1 h2 ⟨h3,h4,rfl⟩
  have hq:=fun Q=>Ae (hp k hk) (Q:=Q)
  have hfz:=ha.call hc (h:=[some ⟨Bd,1,0,false,(Co n k row 0#64).map eW⟩]) (x:=[.i .i64 (k:Nat)]) rfl
  simp only [J6,go_sem,↓reduceIte,h1,h2,h3,h4,hk,hfz,hq,HH hk,Fz.bel ha,Fz.bel hc]
 ·rintro F h ⟨h3,h4,rfl⟩
  simp only [J6,go_sem,↓reduceIte,h4,GI]
 all_goals simp only [go_sem,↓reduceIte]
 all_goals first | rfl | rw [Eo]
theorem Y5 {n:Nat} (hl:n≤1000) {gf:Nat} {a c:List VV} (ha:Fz a) (hc:Fz c) (row:Nat→BitVec 64) (b0:Nat) {Q':VV→VH→Prop}
  (hp:∀ (i:Nat),i < n→VP V gf (a++[.i .i64 (i:Nat)]++c) fun r=>r=vW (row i)) :
  Yp V Qj [.i .i64 n,.f gf a c] b0 Q'↔Q' (.sl b0 0 0 n) [some ⟨Bd,1,0,false,((List.range n).map row).map eW⟩]:=by
 refine La ?_
 rw [Lb C.c_z111.2]
 have h0:n * 8≤A6:=by unfold A6;omega
 simp only [Th,J6,go_sem,↓reduceIte,h0,Int.le_refl]
 refine Au (by decide) n (by omega) (I:=fun k F h=>A3.tmp F 1 = .f gf a c∧A3.tmp F 5 = .sl 0 0 0 n∧h=[some ⟨Bd,1,0,false,(Co n k row 0#64).map eW⟩]) ?_ ?_ 0 _ _ (by omega) ?_ ?_ ?_
 ·rintro k F h hk h1 h2 ⟨h3,h4,rfl⟩
  have hq:=fun Q=>Ae (hp k hk) (Q:=Q)
  have hfz:=ha.call hc (h:=[some ⟨Bd,1,0,false,(Co n k row 0#64).map eW⟩]) (x:=[.i .i64 (k:Nat)]) rfl
  simp only [J6,go_sem,↓reduceIte,h1,h2,h3,h4,hk,hfz,hq,HH hk,Fz.bel ha,Fz.bel hc]
 ·rintro F h ⟨h3,h4,rfl⟩
  simp only [J6,go_sem,↓reduceIte,h4,GI,Bi]
  simp
 all_goals simp only [go_sem,↓reduceIte]
 all_goals first | rfl | rw [Eo]
theorem Kj (a b:Rows):VP V UI [.ag [lW a,lW b]] Q↔Q (.b (Dl a && Dl b && decide (a.length=b.length))):=by
 refine Ae ?_
 rw [Ab C.c_z157.1 C.c_z157.2]
 cases hma:Dl a<;>cases hmb:Dl b <;>
  simp only [Zx,TP,go_sem,↓reduceIte,DK C,hma,hmb,Int.natCast_inj]
omit C in
theorem CU {a:Rows} {i:Nat} (h:i < a.length):a[i]? = some (a.getD i 0#64):=by rw [A9c h,List.getElem?_eq_getElem h]
theorem Rx (a b:Rows) {i:Nat} (hi:i < a.length) (hi':i < b.length):VP V Qi [.ag [lW a,lW b],.i .i64 i] Q↔Q (vW (a.getD i 0#64 ||| b.getD i 0#64)):=by
 refine Ae ?_
 rw [Ab C.c_z110.1 C.c_z110.2]
 simp only [YW,Tz,go_sem,↓reduceIte,CU hi,CU hi']
theorem NR (a b:Rows) {gf:Nat} {fa fc:List VV} (ha:Fz fa) (hc:Fz fc) (row:Nat→BitVec 64)
  (hp:a.length=b.length→a.length≤64→∀ (i:Nat),i < a.length→VP V gf (fa++[.i .i64 (i:Nat)]++fc) fun r=>r=vW (row i)) :
  VP V Uf [.ag [lW a,lW b],.f gf fa fc] Q↔Q (lW (if Dl a && Dl b && decide (a.length=b.length) then (List.range a.length).map row else [])):=by
 refine Ae ?_
 rw [Ab C.c_z109.1 C.c_z109.2]
 cases hm:(Dl a && Dl b && decide (a.length=b.length)) with
 | false=>simp only [Tg,Q3,go_sem,↓reduceIte,Kj C,hm,Bool.false_eq_true]
 | true =>
  have hm':=hm
  simp only [Bool.and_eq_true,decide_eq_true_eq] at hm'
  have hl:=KG hm'.1.1
  simp only [Tg,Q3,go_sem,↓reduceIte,Kj C,hm,A0T C (show a.length≤1000 by omega) ha hc row (fun i hi=>hp hm'.2 hl i hi),Fz.eq ha,Fz.eq hc]
theorem A7P (a b:Rows):VP V A2B [lW a,lW b] Q↔Q (lW (orF a b)):=by
 refine Ae ?_
 rw [Ab C.c_z64.1 C.c_z64.2]
 simp only [A65,A1X,go_sem,↓reduceIte,
  NR C a b (gf:=Qi) (fa:=[.ag [lW a,lW b]]) (fc:=[]) (fun _ _=>rfl) Fz.nil (fun i=>a.getD i 0#64 ||| b.getD i 0#64) (fun h1 h2 i hi=>(Rx C a b hi (by omega)).2 rfl)]
 rfl
theorem A0S (a:Rows) (hl:a.length≤64) (s:BitVec 64):VP V UN [lW a,vW s] Q↔Q (vW (Ea a s)):=by
 refine Ae ?_
 rw [Ab C.c_z163.1 C.c_z163.2]
 simp only [ZC,MU,go_sem,↓reduceIte,LY C 0 _ (by omega),DE C]
 have hlen:=De (s &&& D2 0 a.length)
 have hmem:∀ i,i∈BX (s &&& D2 0 a.length)→i < a.length:=by
  intro i hi
  have:=(PY hi).2
  rw [BitVec.getLsbD_and,D2,AF] at this
  simp at this
  omega
 unfold Ea
 unfold Ax at hlen ⊢
 generalize BX (s &&& D2 0 a.length)=L at *
 refine Au (by decide) (L.map fun (i:Nat)=>(i:Int)).length (by omega) (I:=fun k F h=>h=[]∧A3.tmp F 0=lW a∧A3.tmp F 13=lI (L.map fun (i:Nat)=>(i:Int))∧A3.tmp F 5=vW ((L.take k).foldl (fun x i=>x ||| a.getD i 0#64) 0#64)) ?_ ?_ 0 _ _ (by omega) ?_ ?_ ?_
 ·rintro k F h hk h2 h3 ⟨rfl,h4,h5,h6⟩
  have hk':k < L.length:=by simpa using hk
  simp only [MU,go_sem,↓reduceIte,h2,h3,h4,h5,h6,List.getElem?_eq_getElem hk',CU (hmem _ (List.getElem_mem hk'))]
  rw [List.take_succ_eq_append_getElem hk',List.foldl_append,List.foldl_cons,List.foldl_nil]
 ·rintro F h ⟨rfl,h4,h5,h6⟩
  rw [List.length_map,List.take_length] at h6
  simp only [MU,go_sem,↓reduceIte,h6]
 all_goals simp only [go_sem,↓reduceIte]
 all_goals rfl
theorem A0P (a:Rows) (hm:Dl a=true) (s:BitVec 64):VP V Ur [lW a,vW s] Q↔Q (vW (Ea a s)):=by
 refine Ae ?_
 rw [Ab C.c_z130.1 C.c_z130.2]
 simp only [Zf,TH,go_sem,↓reduceIte,DK C,hm,A0S C a (KG hm)]
theorem L3 (a:Rows) (hm:Dl a=true) (s:BitVec 64):VP V LA [lW a,vW s] Q↔Q (vW (Ea a s)):=by
 refine Ae ?_
 rw [Ab C.c_z108.1 C.c_z108.2]
 simp only [YV,Ty,go_sem,↓reduceIte,A0P C a hm]
theorem Rm (a:Rows) (hm:Dl a=true) (s:BitVec 64):VP V Qh [lW a,vW s,.f LA [] []] Q↔Q (vW (EQ a s)):=by
 refine Ae ?_
 rw [Ab C.c_z107.1 C.c_z107.2]
 simp only [YU,MP,go_sem,↓reduceIte]
 unfold VL
 rw [A0]
 refine AU (M:=BitVec 64) (I:=fun t F h=>h=[]∧A3.tmp F 0=lW a∧A3.tmp F 1=vW t∧A3.tmp F 2 = .f LA [] []∧EQ a t=EQ a s) (μ:=fun t=>18446744073709551616 - t.toNat) ?_ s _ _ ⟨rfl,?_,?_,?_,rfl⟩
 ·rintro t F h ⟨rfl,h0,h1,h2,h3⟩
  have hs:=YG a t
  by_cases e:t ||| Ea a t=t
  ·rw [if_pos e] at hs
   simp only [Tu,MP,go_sem,↓reduceIte,h0,h1,h2,A0,L3 C a hm,e]
   rw [← h3,hs]
  ·rw [if_neg e] at hs
   simp only [Tu,MP,go_sem,↓reduceIte,h0,h1,h2,A0,L3 C a hm,e]
   have:=Kc e
   have:=(t ||| Ea a t).isLt
   exact ⟨t ||| Ea a t,by omega,rfl,by rw [← h3,hs]⟩
 all_goals simp only [go_sem,↓reduceIte]
theorem Vj (a:Rows):VP V A2A [lW a] Q↔Q (lW (Ed a)):=by
 refine Ae ?_
 rw [Ab C.c_z63.1 C.c_z63.2]
 cases hm:Dl a with
 | false=>simp only [A1y,Qd,go_sem,↓reduceIte,DK C,hm,Ed,Bool.false_eq_true]
 | true =>
  have hl:=KG hm
  have h0:a.length * 8≤A6:=by unfold A6;omega
  simp only [A1y,Qd,go_sem,↓reduceIte,DK C,hm,h0,Int.le_refl]
  refine Au (by decide) a.length (by omega) (I:=fun k F h=>A3.tmp F 0=lW a∧A3.tmp F 12=lW a∧A3.tmp F 3 = .sl 0 0 0 a.length∧h=[some ⟨Bd,1,0,false,(Co a.length k (fun i=>EQ a (a.getD i 0#64)) 0#64).map eW⟩]) ?_ ?_ 0 _ _ (by omega) ?_ ?_ ?_
  ·rintro k F h hk h1 h2 ⟨h3,h4,h5,rfl⟩
   have hu:=SE (n:=a.length) (k:=k) (f:=fun i=>EQ a (a.getD i 0#64)) (z:=0#64)
   simp only [Qd,go_sem,↓reduceIte,h1,h2,h3,h4,h5,hk,CU hk,Rm C a hm,HH hk,hu]
  ·rintro F h ⟨h3,h4,h5,rfl⟩
   simp only [Qd,go_sem,↓reduceIte,h5,GI,Ed,hm]
  all_goals simp only [go_sem,↓reduceIte]
  all_goals first | rfl | rw [Eo]
theorem QK (a:Rows) (s:BitVec 64) {i:Nat} (hi:i < a.length):VP V Qk [.ag [lW a,vW s],.i .i64 i] Q↔Q (vW (if Bx s (i:Int) then a.getD i 0#64 &&& s else 0#64)):=by
 refine Ae ?_
 rw [Ab C.c_z112.1 C.c_z112.2]
 cases hh:Bx s (i:Int)<;>simp only [YX,TA,go_sem,↓reduceIte,BO C,hh,CU hi,Bool.false_eq_true]
theorem A0Q (a:Rows) (s:BitVec 64):VP V A2C [lW a,vW s] Q↔Q (lW (Xb a s)):=by
 refine Ae ?_
 rw [Ab C.c_z65.1 C.c_z65.2]
 cases hm:Dl a with
 | false=>simp only [A1z,Xo,go_sem,↓reduceIte,DK C,hm,Xb,Bool.false_eq_true]
 | true =>
  have hl:=KG hm
  simp only [A1z,Xo,go_sem,↓reduceIte,DK C,hm,Xb,
   Y5 C (show a.length≤1000 by omega) (gf:=Qk) (a:=[.ag [lW a,vW s]]) (c:=[]) (fun _ _=>rfl) Fz.nil (fun (i:Nat)=>if Bx s (i:Int) then a.getD i 0#64 &&& s else 0#64) 0 (fun i hi=>(QK C a s hi).2 rfl)]
theorem A0R (n:Nat) (hn:n≤64) (b:Nat) {Q:VV→VH→Prop}:Yp V A2q [.i .i64 n] b Q↔Q (.sl b 0 0 n) [some ⟨Bd,1,0,false,(List.replicate n 0#64).map eW⟩]:=by
 refine La ?_
 rw [Lb C.c_z41.2]
 have h0:n * 8≤A6:=by unfold A6;omega
 have h1:¬ (64:Int) < n:=by omega
 have h2:¬ (n:Int) < 0:=by omega
 simp only [A60,Q9,go_sem,↓reduceIte,h0,h1,h2,Int.le_refl,Bi]
 simp
theorem Y4 (a:Rows):VP V XF [lW a] Q↔Q (lP (Cd a)):=by
 refine Ae ?_
 rw [Ab C.c_z61.1 C.c_z61.2]
 cases hm:Dl a with
 | false=>simp only [A1w,Mb,go_sem,↓reduceIte,DK C,hm,Cd,Bool.false_eq_true,Qy]
 | true =>
  have hl:=KG hm
  simp only [A1w,Mb,go_sem,↓reduceIte,DK C,hm,Qy]
  refine Au (by decide) a.length (by omega) (I:=fun k F h=>A3.tmp F 12=lW a∧∃ l,l=((List.range k).flatMap (fun (i:Nat)=>(Ax (a.getD i 0#64)).map fun j=>((i:Int),j)))∧A3.tmp F 3 = .sl 0 l.length 0 l.length∧h=[some (AN A15 2 (l.map eP))]) ?_ ?_ 0 _ _ (by omega) ?_ ?_ ?_
  ·rintro k F h hk h1 h2 ⟨h3,l,hl',h4,rfl⟩
   simp only [Mb,go_sem,↓reduceIte,h1,h2,h3,h4,CU hk,DE C]
   have hll:=De (a.getD k 0#64)
   have hpl:=Sm a k
   rw [← hl'] at hpl
   refine Au (by decide) (Ax (a.getD k 0#64)).length (by omega) (I:=fun m F h=>A3.tmp F 14 = .i .i64 k∧A3.tmp F 13 = .i .i64 a.length∧A3.tmp F 12=lW a∧A3.tmp F 20=lI (Ax (a.getD k 0#64))∧A3.tmp F 4 = .i .i64 k∧∃ l',l' = l++((Ax (a.getD k 0#64)).take m).map (fun j=>((k:Int),j))∧A3.tmp F 3 = .sl 0 l'.length 0 l'.length∧h=[some (AN A15 2 (l'.map eP))]) ?_ ?_ 0 _ _ (by omega) ?_ ?_ ?_
   ·rintro m G h hm' j1 j2 ⟨j4,j5,j6,j7,j8,l',hl2,j9,rfl⟩
    have hb:(l'.length+1) * 16≤A6:=by
     have:l'.length≤10000:=by
      rw [hl2,List.length_append,List.length_map,List.length_take];omega
     unfold A6;omega
    simp only [Mb,go_sem,↓reduceIte,j1,j2,j4,j5,j6,j7,j8,j9,List.getElem?_eq_getElem hm',hb]
    refine ⟨_,?_,by rw [List.length_append];rfl,rfl⟩
    rw [hl2,List.take_succ_eq_append_getElem hm',List.map_append,List.append_assoc];rfl
   ·rintro G h ⟨j4,j5,j6,j7,j8,l',hl2,j9,rfl⟩
    simp only [Mb,go_sem,↓reduceIte,j4,j5,j6,j9]
    refine ⟨_,?_,rfl,rfl⟩
    rw [hl2,List.take_length,hl',List.flatMap_append];simp
   all_goals simp only [go_sem,↓reduceIte,h1,h2,h3,h4]
   all_goals first | rfl | exact ⟨l,by simp,rfl,rfl⟩
  ·rintro F h ⟨h3,l,hl',h4,rfl⟩
   simp only [Mb,go_sem,↓reduceIte,h4,Cd,hm,← hl']
  all_goals simp only [go_sem,↓reduceIte]
  all_goals first | rfl | exact ⟨[],rfl,rfl,rfl⟩
end
theorem A8J {e:Option NW} (s:BitVec 64) {n:Nat} (h:n < 64):B1 .shr e (Wd s) (.i .u64 n)=some (Wd (s >>> n)):=by
 have h0:¬ ((n:Int) < 0):=by omega
 simp only [Wd,B1,Gj,if_neg h0,IntKind.bits,Option.some.injEq,AV.i.injEq,true_and,Int.toNat_natCast]
 rw [Nat.min_eq_left (by omega),BitVec.toNat_ushiftRight,Nat.shiftRight_eq_div_pow]
 rw [show ((2:Int) ^ n)=((2 ^ n:Nat):Int) by simp,Int.fdiv_eq_ediv_of_nonneg _ (Int.natCast_nonneg _)]
 rfl
theorem A8I {e:Option NW} (s:BitVec 64):B1 .rem e (Wd s) (.i .u64 2)=some (Wd (if s.getLsbD 0 then 1#64 else 0#64)):=by
 rw [Wd,A5i (by decide)]
 simp only [Option.some.injEq,Wd,AV.i.injEq,true_and]
 have h0:s.getLsbD 0=decide (s.toNat % 2=1):=by
  show s.toNat.testBit 0=_
  simp [Nat.testBit_zero]
 rw [h0]
 have:(s.toNat:Int).tmod 2=((s.toNat % 2:Nat):Int):=by
  rw [Int.tmod_eq_emod_of_nonneg (Int.natCast_nonneg _)]
  rfl
 rw [this]
 by_cases h:s.toNat % 2=1
 ·simp [h]
 ·have:s.toNat % 2=0:=by omega
  simp [this]
theorem Aay {e:Option NW} (s:BitVec 64) {n:Nat} (h:n < 64):B6 .shr e (vW s) (.i .u64 n)=some (vW (s >>> n)):=by
 show (B1 .shr e (Wd s) (.i .u64 n)).bind Gz=_
 rw [A8J s h];rfl
theorem Aax {e:Option NW} (s:BitVec 64):B6 .rem e (vW s) (.i .u64 2)=some (vW (if s.getLsbD 0 then 1#64 else 0#64)):=by
 show (B1 .rem e (Wd s) (.i .u64 2)).bind Gz=_
 rw [A8I s];rfl
section
variable {V:Al} (C:AA V) {Q:VV→Prop}
include C
theorem D3 (s:BitVec 64) (i:Int):VP V A2K [vW s,.i .i64 i] Q↔Q (.b (Bx s i)):=by
 refine Ae ?_
 rw [Ab C.c_z76.1 C.c_z76.2]
 by_cases h0:i < 0
 ·have:Bx s i=false:=by unfold Bx;simp;omega
  simp only [WX,Se,go_sem,↓reduceIte,h0,this]
 ·by_cases h1:63 < i
  ·have:Bx s i=false:=by
    unfold Bx
    rw [BitVec.getLsbD_of_ge _ _ (by omega)]
    simp
   simp only [WX,Se,go_sem,↓reduceIte,h0,h1,this]
  ·obtain ⟨n,rfl⟩:=Int.eq_ofNat_of_zero_le (by omega:0≤i)
   have hw:IntKind.u64.wrap (n:Int)=n:=by rw [HL];omega
   have hs:∀ e,B6 .shr e (vW s) (.i .u64 (n:Int))=some (vW (s >>> n)):=fun e=>Aay s (by omega)
   simp only [WX,Se,go_sem,↓reduceIte,h0,h1,hw,hs,Aax]
   rw [AH,BitVec.getLsbD_ushiftRight,Nat.add_zero]
   cases s.getLsbD n<;>rfl
theorem Dq (s t:BitVec 64):VP V A27 [vW s,vW t] Q↔Q (.b (decide (s ||| t=t))):=by
 refine Ae ?_
 rw [Ab C.c_z11.1 C.c_z11.2]
 simp only [A5H,A1R,go_sem,↓reduceIte]
theorem Vq (n:Nat) (hn:n < 64):VP V Uc [.i .i64 n] Q↔Q (vW (1#64 <<< n)):=by
 refine Ae ?_
 rw [Ab C.c_z104.1 C.c_z104.2]
 simp only [YT,Lo,go_sem,↓reduceIte]
 refine A8 (by decide) n (by omega) (I:=fun k F h=>h=[]∧A3.tmp F 0 = .i .i64 n∧A3.tmp F 3=vW (1#64 <<< k)) ?_ ?_ ?_ 0 _ _ (Nat.zero_le _) ?_ ?_
 ·rintro k F h hk h1 ⟨rfl,h2,h3⟩
  simp only [Lo,go_sem,↓reduceIte,h1,h2,h3]
 ·rintro k F h hk h1 ⟨rfl,h2,h3⟩
  simp only [Lo,go_sem,↓reduceIte,h1,h2,h3]
  congr 1
  apply BitVec.eq_of_toNat_eq
  rw [BitVec.toNat_add,BitVec.toNat_shiftLeft,BitVec.toNat_shiftLeft]
  simp only [Nat.shiftLeft_eq]
  have:(1#64).toNat=1:=rfl
  rw [this,Nat.pow_succ]
  omega
 ·rintro F h ⟨rfl,h2,h3⟩
  simp only [Lo,go_sem,↓reduceIte,h3]
 all_goals simp only [go_sem,↓reduceIte]
 all_goals rfl
theorem DA (s:BitVec 64) (i:Int):VP V A2y [vW s,.i .i64 i] Q↔Q (vW (s ||| C9 i)):=by
 refine Ae ?_
 rw [Ab C.c_z60.1 C.c_z60.2]
 by_cases h0:i < 0
 ·have:C9 i=0#64:=by unfold C9;rw [if_neg (by omega)]
  simp only [RW,Qc,go_sem,↓reduceIte,h0,this,BitVec.or_zero]
 ·by_cases h1:63 < i
  ·have:C9 i=0#64:=by unfold C9;rw [if_neg (by omega)]
   simp only [RW,Qc,go_sem,↓reduceIte,h0,h1,this,BitVec.or_zero]
  ·obtain ⟨n,rfl⟩:=Int.eq_ofNat_of_zero_le (by omega:0≤i)
   have h1f:C9 (n:Int)=1#64 <<< n:=by unfold C9;rw [if_pos (by omega)];rfl
   cases hb:Bx s n with
   | true =>
    simp only [RW,Qc,go_sem,↓reduceIte,h0,h1,D3 C,hb]
    congr 1
    apply BL
    intro j hj
    rw [BitVec.getLsbD_or,Cm]
    by_cases e:j=n
    ·subst e;rw [AH] at hb;simp [hb]
    ·have:¬ ((j:Int)=n):=by omega
     simp [this]
   | false =>
    simp only [RW,Qc,go_sem,↓reduceIte,h0,h1,D3 C,hb,Vq C n (by omega)]
    congr 1
    rw [h1f]
    apply BitVec.add_eq_or_of_and_eq_zero
    rw [← h1f,Nq]
    rw [AH] at hb
    simp [hb]
theorem A4p (r:Rows) (a b:Int) (hl:r.length < 9223372036854775807):VP V A2l [lW r,.i .i64 a,.i .i64 b] Q↔Q (.b (decide (0≤a) && Bx (r.getD a.toNat 0#64) b)):=by
 refine Ae ?_
 rw [Ab C.c_z35.1 C.c_z35.2]
 by_cases h0:0≤a
 ·obtain ⟨n,rfl⟩:=Int.eq_ofNat_of_zero_le h0
  by_cases h1:n < r.length
  ·simp only [WS,S7,go_sem,↓reduceIte,h1,CU h1,D3 C]
  ·have:r.getD n 0#64=0#64:=by rw [List.getD_eq_getElem?_getD,List.getElem?_eq_none (by omega)];rfl
   simp only [WS,S7,go_sem,↓reduceIte,h1,this]
   simp [Bx]
 ·simp only [WS,S7,go_sem,↓reduceIte,h0]
theorem A4q (xs:List Int) (hl:xs.length < 9223372036854775807):VP V A2n [lI xs] Q↔Q (vW (CD xs)):=by
 refine Ae ?_
 rw [Ab C.c_z37.1 C.c_z37.2]
 simp only [A5X,Q8,go_sem,↓reduceIte]
 refine A8 (by decide) xs.length hl (I:=fun k F h=>h=[]∧A3.tmp F 0=lI xs∧A3.tmp F 3=vW (CD (xs.take k))) ?_ ?_ ?_ 0 _ _ (Nat.zero_le _) ?_ ?_
 ·rintro k F h hk h1 ⟨rfl,h2,h3⟩
  simp only [Q8,go_sem,↓reduceIte,h1,h2,h3]
 ·rintro k F h hk h1 ⟨rfl,h2,h3⟩
  simp only [Q8,go_sem,↓reduceIte,h1,h2,h3,List.getElem?_eq_getElem hk,DA C]
  rw [List.take_succ_eq_append_getElem hk]
  simp only [CD,List.foldl_append,List.foldl_cons,List.foldl_nil]
 ·rintro F h ⟨rfl,h2,h3⟩
  rw [List.take_length] at h3
  simp only [Q8,go_sem,↓reduceIte,h3]
 all_goals simp only [go_sem,↓reduceIte]
 all_goals rfl
theorem Ml (lo hi:Int):VP V UH [.i .i64 lo,.i .i64 hi] Q↔Q (vW (D2 lo hi)):=by
 refine Ae ?_
 rw [Ab C.c_z156.1 C.c_z156.2]
 simp only [Zw,J8,go_sem,↓reduceIte]
 refine A8 (by decide) 64 (by omega) (I:=fun k F h=>h=[]∧A3.tmp F 0 = .i .i64 lo∧A3.tmp F 1 = .i .i64 hi∧A3.tmp F 5=vW (BC fun i=>decide (lo≤(i:Int)∧(i:Int) < hi) && decide (i < k))) ?_ ?_ ?_ 0 _ _ (Nat.zero_le _) ?_ ?_
 ·rintro k F h hk h1 ⟨rfl,h2,h3,h4⟩
  simp only [J8,go_sem,↓reduceIte,h1,h2,h3,h4]
  exact decide_eq_decide.2 (by omega)
 ·rintro k F h hk h1 ⟨rfl,h2,h3,h4⟩
  by_cases c1:lo≤(k:Int)
  ·by_cases c2:(k:Int) < hi
   ·simp only [J8,go_sem,↓reduceIte,h1,h2,h3,h4,c1,c2,DA C]
    rw [Mo _ _ hk]
    congr 1
    apply Ba
    intro j hj
    by_cases e:j=k
    ·subst e;simp [c1,c2]
    ·have:(j < k+1)↔(j < k):=by omega
     simp [e,this]
   ·simp only [J8,go_sem,↓reduceIte,h1,h2,h3,h4,c1,c2]
    congr 1
    apply Ba
    intro j hj
    by_cases e:j=k
    ·subst e;simp [c2]
    ·have:(j < k+1)↔(j < k):=by omega
     simp [this]
  ·simp only [J8,go_sem,↓reduceIte,h1,h2,h3,h4,c1]
   congr 1
   apply Ba
   intro j hj
   by_cases e:j=k
   ·subst e;simp [c1]
   ·have:(j < k+1)↔(j < k):=by omega
    simp [this]
 ·rintro F h ⟨rfl,h2,h3,h4⟩
  simp only [J8,go_sem,↓reduceIte,h4]
  congr 1
  apply Ba
  intro j hj
  simp [hj]
 all_goals simp only [go_sem,↓reduceIte]
 all_goals first | rfl | (rw [← Ga];congr 1;apply Ba;intro j hj;simp)
omit C in
theorem SN (s t:BitVec 64):decide (s ||| t=t)=decide (s &&& ~~~t=0#64):=by
 apply decide_eq_decide.2
 rw [A7Z]
 constructor
 ·intro h
  apply BL
  intro j hj
  cases hs:s.getLsbD j with
  | false=>simp [hs]
  | true=>simp [hs,h j hs]
 ·intro h j hj
  have:=congrArg (fun w:BitVec 64=>w.getLsbD j) h
  have hlt:j < 64:=BitVec.lt_of_getLsbD hj
  simp [hj,hlt] at this
  exact this
theorem QH (r:Rows) (hl:r.length < 9223372036854775807):VP V Ud [lW r] Q↔Q (.b (Dl r)):=by
 refine Ae ?_
 rw [Ab C.c_z105.1 C.c_z105.2]
 by_cases hl:r.length≤64
 ·have hl':¬ (64:Int) < r.length:=by omega
  simp only [Tf,J5,go_sem,↓reduceIte,hl']
  refine A8 (by decide) r.length (by omega) (I:=fun k F h=>h=[]∧A3.tmp F 0=lW r∧∀ (j:Nat) (hj:j < r.length),j < k→r[j] &&& ~~~(D2 0 r.length)=0#64) ?_ ?_ ?_ 0 _ _ (Nat.zero_le _) ?_ ?_
  ·rintro k F h hk h1 ⟨rfl,h2,h3⟩
   simp only [J5,go_sem,↓reduceIte,h1,h2]
   exact h3
  ·rintro k F h hk h1 ⟨rfl,h2,h3⟩
   by_cases e:r[k] &&& ~~~(D2 0 r.length)=0#64
   ·simp only [J5,go_sem,↓reduceIte,h1,h2,List.getElem?_eq_getElem hk,Ml C,Dq C,SN,e]
    intro j hj hjk
    by_cases e2:j=k
    ·subst e2;exact e
    ·exact h3 j hj (by omega)
   ·simp only [J5,go_sem,↓reduceIte,h1,h2,List.getElem?_eq_getElem hk,Ml C,Dq C,SN,e]
    have:(r.all fun x=>decide (x &&& ~~~(D2 0 r.length)=0#64))=false:=by
     rw [List.all_eq_false]
     exact ⟨_,List.getElem_mem hk,by simpa using e⟩
    simp [Dl,this]
  ·rintro F h ⟨rfl,h2,h3⟩
   simp only [J5,go_sem,↓reduceIte]
   have:(r.all fun x=>decide (x &&& ~~~(D2 0 r.length)=0#64))=true:=by
    rw [List.all_eq_true]
    intro x hx
    obtain ⟨j,hj,e⟩:=List.mem_iff_getElem.1 hx
    rw [← e];simpa using h3 j hj hj
   simp [Dl,hl,this]
  all_goals simp only [go_sem,↓reduceIte]
  all_goals first | rfl | (intro j hj hjk;omega)
 ·have hl':(64:Int) < r.length:=by omega
  simp only [Tf,J5,go_sem,↓reduceIte,hl']
  simp [Dl,hl]
theorem XV (s:BitVec 64):VP V Uk [vW s] Q↔Q (lI (Ax s)):=by
 refine Ae ?_
 rw [Ab C.c_z118.1 C.c_z118.2]
 simp only [Z5,K2,go_sem,↓reduceIte]
 refine A8 (by decide) 64 (by omega) (I:=fun k F h=>A3.tmp F 0=vW s∧∃ l,l=(((List.range k).filter fun i=>s.getLsbD i).map fun (i:Nat)=>(i:Int))∧A3.tmp F 3 = .sl 0 l.length 0 l.length∧h=[some (AN B3 1 (l.map eI))]) ?_ ?_ ?_ 0 _ _ (Nat.zero_le _) ?_ ?_
 ·rintro k F h hk h1 ⟨h2,l,hl,h3,rfl⟩
  simp only [K2,go_sem,↓reduceIte,h1,h2,h3]
  refine ⟨decide_eq_decide.2 (by omega),l,hl,rfl,rfl⟩
 ·rintro k F h hk h1 ⟨h2,l,hl,h3,rfl⟩
  have hll:l.length≤k:=by
   rw [hl,List.length_map]
   exact Nat.le_trans (List.length_filter_le _ _) (by simp)
  have hb8:(l.length+1) * 8≤A6:=by unfold A6;omega
  cases hb:s.getLsbD k with
  | true =>
   simp only [K2,go_sem,↓reduceIte,h1,h2,h3,D3 C,AH,hb,hb8]
   refine ⟨_,?_,by rw [List.length_append];rfl,rfl⟩
   rw [hl,List.filter_append,List.map_append]
   simp [hb]
  | false =>
   simp only [K2,go_sem,↓reduceIte,h1,h2,h3,D3 C,AH,hb]
   refine ⟨l,?_,rfl,rfl⟩
   rw [hl,List.filter_append]
   simp [hb]
 ·rintro F h ⟨h2,l,hl,h3,rfl⟩
  simp only [K2,go_sem,↓reduceIte,h3,hl]
  rfl
 all_goals simp only [go_sem,↓reduceIte]
 all_goals first | rfl | exact ⟨[],rfl,rfl,rfl⟩
theorem XW (a:Rows) (hl0:a.length < 9223372036854775807):VP V A2F [lW a] Q↔Q (lW (Ed a)):=by
 refine Ae ?_
 rw [Ab C.c_z70.1 C.c_z70.2]
 cases hm:Dl a with
 | false=>simp only [A1A,Gw,go_sem,↓reduceIte,QH C _ hl0,hm,Ed,Bool.false_eq_true]
 | true =>
  have hl:=KG hm
  have h0:a.length * 8≤A6:=by unfold A6;omega
  simp only [A1A,Gw,go_sem,↓reduceIte,QH C _ hl0,hm,h0,Int.le_refl]
  refine A8 (by decide) a.length (by omega) (I:=fun k F h=>A3.tmp F 0=lW a∧A3.tmp F 3 = .sl 0 0 0 a.length∧h=[some ⟨Bd,1,0,false,(Co a.length k (fun i=>EQ a (a.getD i 0#64)) 0#64).map eW⟩]) ?_ ?_ ?_ 0 _ _ (Nat.zero_le _) ?_ ?_
  ·rintro k F h hk h1 ⟨h2,h3,rfl⟩
   simp only [Gp,Gw,go_sem,↓reduceIte,h1,h2,h3]
  ·rintro k F h hk h1 ⟨h2,h3,rfl⟩
   simp only [Gp,Gw,go_sem,↓reduceIte,h1,h2,h3,CU hk]
   unfold VL
   rw [A0]
   refine AU (M:=BitVec 64×Bool) (I:=fun m G h2=>h2=[some ⟨Bd,1,0,false,(Co a.length k (fun i=>EQ a (a.getD i 0#64)) 0#64).map eW⟩]∧A3.tmp G 0=lW a∧A3.tmp G 3 = .sl 0 0 0 a.length∧A3.tmp G 4 = .i .i64 k∧A3.tmp G 5=vW m.1∧A3.tmp G 6 = .b m.2∧Wf (a.getD k 0#64) m.1∧(∀ u,Wf (a.getD k 0#64) u→LP a u→Wf m.1 u)∧(m.2=false→LP a m.1)) (μ:=fun m=>2 * (18446744073709551616 - m.1.toNat)+(if m.2 then 1 else 0)) ?_ (a.getD k 0#64,true) _ _ ⟨rfl,?_,?_,?_,?_,?_,fun j hj=>hj,fun u hu _=>hu,fun h=>by cases h⟩
   ·rintro ⟨t,b⟩ G h2' ⟨rfl,j1,j2,j3,j4,j5,j6,j7,j8⟩
    simp only at j4 j5 j6 j7 j8 ⊢
    cases b with
    | false =>
     have hc:EQ a (a.getD k 0#64)=t:=(PC hl _).uniq ⟨j6,j8 rfl,j7⟩
     have hu:=SE (n:=a.length) (k:=k) (f:=fun i=>EQ a (a.getD i 0#64)) (z:=0#64)
     rw [hc] at hu
     simp only [Gp,Gw,go_sem,↓reduceIte,j1,j2,j3,j4,j5,hk,HH hk,hu]
    | true =>
     simp only [Gp,Gw,go_sem,↓reduceIte,j1,j2,j3,j4,j5,A0]
     refine A8 (by decide) a.length (by omega) (I:=fun y G h3=>h3=[some ⟨Bd,1,0,false,(Co a.length k (fun i=>EQ a (a.getD i 0#64)) 0#64).map eW⟩]∧A3.tmp G 0=lW a∧A3.tmp G 3 = .sl 0 0 0 a.length∧A3.tmp G 4 = .i .i64 k∧∃ t' b',A3.tmp G 5=vW t'∧A3.tmp G 6 = .b b'∧Wf (a.getD k 0#64) t'∧(∀ u,Wf (a.getD k 0#64) u→LP a u→Wf t' u)∧(b' = true→t.toNat < t'.toNat)∧(b' = false→t' = t∧∀ y',y' < y→t.getLsbD y' = true→Wf (a.getD y' 0#64) t)) ?_ ?_ ?_ 0 _ _ (Nat.zero_le _) ?_ ?_
     ·rintro y E h4 hy p1 ⟨rfl,p2,p3,p4,t',b',p5,p6,p7⟩
      simp only [Gp,Gw,go_sem,↓reduceIte,p1,p2,p3,p4,p5,p6]
      exact ⟨t',rfl,p7⟩
     ·rintro y E h4 hy p1 ⟨rfl,p2,p3,p4,t',b',p5,p6,p7,p8,p9,p10⟩
      cases hb:t'.getLsbD y with
      | false =>
       simp only [Gp,Gw,go_sem,↓reduceIte,p1,p2,p3,p4,p5,p6,D3 C,AH,hb]
       refine ⟨t',rfl,p7,p8,p9,fun hb'=>?_⟩
       obtain ⟨e1,e2⟩:=p10 hb'
       refine ⟨e1,fun y' hy' hty=>?_⟩
       by_cases e:y' = y
       ·subst e;rw [e1] at hb;rw [hb] at hty;cases hty
       ·exact e2 y' (by omega) hty
      | true =>
       by_cases hs:a.getD y 0#64 ||| t' = t'
       ·simp only [Gp,Gw,go_sem,↓reduceIte,p1,p2,p3,p4,p5,p6,D3 C,AH,hb,CU hy,Dq C,hs]
        refine ⟨t',rfl,p7,p8,p9,fun hb'=>?_⟩
        obtain ⟨e1,e2⟩:=p10 hb'
        refine ⟨e1,fun y' hy' hty=>?_⟩
        by_cases e:y' = y
        ·subst e
         rw [← e1]
         exact (A7Z _ _).1 hs
        ·exact e2 y' (by omega) hty
       ·simp only [Gp,Gw,go_sem,↓reduceIte,p1,p2,p3,p4,p5,p6,D3 C,AH,hb,CU hy,Dq C,hs]
        have hgr:t'.toNat < (t' ||| a.getD y 0#64).toNat:=Kc (by rw [BitVec.or_comm];exact hs)
        refine ⟨t' ||| a.getD y 0#64,rfl,fun j hj=>by rw [BitVec.getLsbD_or,p7 j hj,Bool.true_or],fun u hu hc j hj=>?_,?_⟩
        ·rw [BitVec.getLsbD_or,Bool.or_eq_true] at hj
         rcases hj with hj | hj
         ·exact p8 u hu hc j hj
         ·exact hc y hy (p8 u hu hc y hb) j hj
        ·cases b' with
         | true=>have:=p9 rfl;omega
         | false=>rw [(p10 rfl).1] at hgr ⊢;exact hgr
     ·rintro E h4 ⟨rfl,p2,p3,p4,t',b',p5,p6,p7,p8,p9,p10⟩
      simp only [Gp,Gw,go_sem,↓reduceIte,p2,p3,p4,p5,p6]
      refine ⟨(t',b'),?_,rfl,rfl,p7,p8,fun hb'=>?_⟩
      ·cases b' with
       | true=>have:=p9 rfl;have:=t'.isLt;simp only [if_true];omega
       | false=>rw [(p10 rfl).1];simp
      ·obtain ⟨e1,e2⟩:=p10 hb'
       rw [e1]
       exact fun y hy hty=>e2 y hy hty
     all_goals simp only [go_sem,↓reduceIte,j1,j2,j3,j4,j5]
     all_goals first | rfl | exact ⟨t,rfl,j6,j7,rfl,fun y' hy'=>by omega⟩
   all_goals simp only [go_sem,↓reduceIte,h1,h2,h3]
  ·rintro F h ⟨h2,h3,rfl⟩
   simp only [Gp,Gw,go_sem,↓reduceIte,h3,GI,Ed,hm]
  all_goals simp only [go_sem,↓reduceIte]
  all_goals first | rfl | rw [Eo]
theorem Rs (xs:List Int) (hl:xs.length < 9223372036854775807) (n:Int):VP V XC [lI xs,.i .i64 n] Q↔Q (.i .i64 (CG (fun y=>decide (n=y)) xs)):=by
 refine Ae ?_
 rw [Ab C.c_z39.1 C.c_z39.2]
 simp only [A5Z,NB,go_sem,↓reduceIte]
 refine A8 (by decide) xs.length hl (I:=fun k F h=>h=[]∧A3.tmp F 0=lI xs∧A3.tmp F 1 = .i .i64 n∧∀ (j:Nat) (hj:j < xs.length),j < k→¬ n=xs[j]) ?_ ?_ ?_ 0 _ _ (Nat.zero_le _) ?_ ?_
 ·rintro k F h hk h1 ⟨rfl,h2,h3,h4⟩
  simp only [NB,go_sem,↓reduceIte,h1,h2,h3]
  exact h4
 ·rintro k F h hk h1 ⟨rfl,h2,h3,h4⟩
  by_cases e:xs[k]=n
  ·simp only [NB,go_sem,↓reduceIte,h1,h2,h3,List.getElem?_eq_getElem hk,e]
   rw [DG hk (by simp [e]) fun j hj=>by simpa using h4 j _ hj]
  ·simp only [NB,go_sem,↓reduceIte,h1,h2,h3,List.getElem?_eq_getElem hk,e]
   intro j hj hjk
   by_cases e2:j=k
   ·subst e2;exact fun e3=>e e3.symm
   ·exact h4 j hj (by omega)
 ·rintro F h ⟨rfl,h2,h3,h4⟩
  simp only [NB,go_sem,↓reduceIte]
  rw [Ei fun x hx=>by obtain ⟨j,hj,e⟩:=List.mem_iff_getElem.1 hx;rw [← e];simpa using h4 j hj hj]
 all_goals simp only [go_sem,↓reduceIte]
 all_goals first | rfl | (intro j hj hjk;omega)
theorem Ap (t:A4) (n:Int):VP V A2M [vT t,.i .i64 n] Q↔Q (.b (BT t n)):=by
 refine Ae ?_
 rw [Ab C.c_z79.1 C.c_z79.2]
 cases h0:decide (0≤n)<;>simp only [A6a,A1Y,go_sem,↓reduceIte,h0,BT]
theorem Rp (n:Ay):VP V A2O [vN n] Q↔Q (.b (Kf n)):=by
 refine Ae ?_
 rw [Ab C.c_z81.1 C.c_z81.2]
 cases c0:decide (0≤n.thread)<;>cases c1:decide (n.kind=3)<;>cases c2:decide (n.mode=0) <;>
  simp only [A6d,A1Z,go_sem,↓reduceIte,c0,c1,c2,Kf]
theorem Kg (n:Ay):VP V Um [vN n] Q↔Q (.b (HP n)):=by
 refine Ae ?_
 rw [Ab C.c_z120.1 C.c_z120.2]
 cases c0:decide (n.kind=2)<;>cases c1:decide (n.kind=4)<;>cases c2:decide (n.mode=1)<;>cases c3:decide (n.mode=3) <;>
  simp only [Z7,TE,go_sem,↓reduceIte,c0,c1,c2,c3,HP]
theorem EB (n:Ay):VP V UJ [vN n] Q↔Q (.b (E7 n)):=by
 refine Ae ?_
 rw [Ab C.c_z159.1 C.c_z159.2]
 cases c0:decide (n.kind=3)<;>cases c1:decide (0≤n.thread)<;>cases c4:decide (n.kind=4)<;>cases c2:decide (n.mode=2)<;>cases c3:decide (n.mode=3) <;>
  simp only [Zz,TR,go_sem,↓reduceIte,c0,c1,c2,c3,c4,E7]
theorem EK (t:A4) (hu:JC t) (a:Int) {b:Nat} (hb:b < t.nodes.length):VP V Ub [vT t,.i .i64 a,.i .i64 b] Q↔Q (.b (AQ t a b)):=by
 refine Ae ?_
 rw [Ab C.c_z103.1 C.c_z103.2]
 simp only [YS,Ln,go_sem,↓reduceIte,A5 hb]
 unfold VL
 rw [A0]
 refine AU (M:=Int) (I:=fun x F h=>h=[]∧A3.tmp F 3 = .fp (eT t) 0∧A3.tmp F 1 = .i .i64 a∧A3.tmp F 7 = .i .i64 x∧x < t.nodes.length∧KQ t a t.nodes.length x=AQ t a b) (μ:=fun x=>(x+1).toNat) ?_ (t.at b).up _ _ ⟨rfl,?_,?_,?_,?_,rfl⟩
 ·rintro x F h ⟨rfl,j1,j2,j3,j4,j5⟩
  have hfuel:∀ y:Int,y < t.nodes.length→KQ t a (t.nodes.length+1) y=KQ t a t.nodes.length y:=fun y hy=>RL hu a _ y hy hy
  by_cases c0:0≤x
  ·obtain ⟨m,rfl⟩:=Int.eq_ofNat_of_zero_le c0
   have hm:m < t.nodes.length:=by omega
   have hstep:=hfuel (m:Int) j4
   rw [KQ,if_neg (by omega)] at hstep
   by_cases c1:(m:Int)=a
   ·rw [if_pos c1] at hstep
    subst c1
    simp only [P7,Ln,go_sem,↓reduceIte,j1,j2,j3,A0]
    rw [← j5,← hstep]
   ·rw [if_neg c1,Int.toNat_natCast] at hstep
    have hup:=hu m hm
    simp only [P7,Ln,go_sem,↓reduceIte,j1,j2,j3,c1,A0,A5 hm]
    exact ⟨_,by omega,rfl,by omega,by rw [hstep,j5]⟩
  ·have hstep:=hfuel x j4
   rw [KQ,if_pos (by omega)] at hstep
   simp only [P7,Ln,go_sem,↓reduceIte,j1,j2,j3,c0]
   rw [← j5,← hstep]
 ·simp only [go_sem,↓reduceIte]
 ·simp only [go_sem,↓reduceIte]
 ·simp only [go_sem,↓reduceIte]
 ·have:=hu b hb;omega
theorem GD (t:A4) (hu:JC t) (a b:Int):VP V A2x [vT t,.i .i64 a,.i .i64 b] Q↔Q (.b (Ao t a b)):=by
 refine Ae ?_
 rw [Ab C.c_z59.1 C.c_z59.2]
 cases ha:BT t a with
 | false=>simp only [RV,Qb,go_sem,↓reduceIte,Ap C,ha,Ao]
 | true =>
  cases hb:BT t b with
  | false=>simp only [RV,Qb,go_sem,↓reduceIte,Ap C,ha,hb,Ao]
  | true =>
   obtain ⟨m,rfl,hm⟩:=A9 ha
   obtain ⟨n,rfl,hn⟩:=A9 hb
   cases c:decide ((t.at m).thread < 0) with
   | true =>
    have c':=of_decide_eq_true c
    simp only [RV,Qb,go_sem,↓reduceIte,Ap C,ha,hb,Ao,A5 hm,A5 hn,c,if_pos c']
   | false =>
    have c':=of_decide_eq_false c
    simp only [RV,Qb,go_sem,↓reduceIte,Ap C,ha,hb,Ao,A5 hm,A5 hn,c,if_neg c',EK C t hu _ hn]
set_option maxHeartbeats 1000000 in
theorem NP (t:A4) (hu:JC t) (a b:Int):VP V A2P [vT t,.i .i64 a,.i .i64 b] Q↔Q (.b (Eu t a b)):=by
 refine Ae ?_
 rw [Ab C.c_z82.1 C.c_z82.2]
 cases ha:BT t a with
 | false=>simp only [RX,Qe,go_sem,↓reduceIte,Ap C,ha,Eu]
 | true =>
  cases hb:BT t b with
  | false=>simp only [RX,Qe,go_sem,↓reduceIte,Ap C,ha,hb,Eu]
  | true =>
   obtain ⟨m,rfl,hm⟩:=A9 ha
   obtain ⟨n,rfl,hn⟩:=A9 hb
   by_cases e:(m:Int)=n
   ·simp only [RX,Qe,go_sem,↓reduceIte,Ap C,ha,hb,Eu,e]
   ·cases c0:decide (0≤(t.at m).thread)<;>cases c1:decide ((t.at m).thread=(t.at n).thread)<;>cases c2:AQ t (m:Int) n <;>
     simp only [RX,Qe,go_sem,↓reduceIte,Ap C,ha,hb,Eu,e,A5 hm,A5 hn,c0,c1,c2,EK C t hu _ hn,EK C t hu _ hm]
end
theorem Jo {k:Nat} (h0:0 < k) (h:k < 9223372036854775807):IntKind.i64.wrap ((k:Int) - 1)=((k - 1:Nat):Int):=by rw [AG (by omega) (by omega)];omega
section
variable {V:Al} (C:AA V) {Q:VV→Prop}
include C
theorem Ac (xs:List Int) (hl:xs.length < 9223372036854775807) (n:Int):VP V XC [lI xs,.i .i64 n] Q↔Q (.i .i64 (DD xs n)):=Rs C xs hl n
theorem Mi (a b:Ay) (pa pb:Int):VP V Aa4 [vN a,vN b,.i .i64 pa,.i .i64 pb] Q↔Q (.b (CK a b pa pb)):=by
 refine Ae ?_
 rw [Ab C.c_z5.1 C.c_z5.2]
 cases c0:decide (a.kind=2)<;>cases c1:decide (a.kind=3)<;>cases c2:decide (b.kind=2)<;>cases c3:decide (b.kind=3)<;>cases c4:decide (a.loc=b.loc) <;>
  simp only [Ac7,A9S,go_sem,↓reduceIte,c0,c1,c2,c3,c4,CK]<;>simp_all
theorem Ro (t:A4) (ht:t.nodes.length≤1000):VP V A2N [vT t] Q↔Q (vW (JZ t)):=by
 refine Ae ?_
 rw [Ab C.c_z80.1 C.c_z80.2]
 simp only [A6c,NC,go_sem,↓reduceIte]
 refine A8 (by decide) t.nodes.length (by omega) (I:=fun k F h=>h=[]∧A3.tmp F 1 = .fp (eT t) 0∧A3.tmp F 3=vW (BC fun i=>decide (i < k) && decide ((t.at i).up < 0))) ?_ ?_ ?_ 0 _ _ (Nat.zero_le _) ?_ ?_
 ·rintro k F h hk p1 ⟨rfl,p2,p3⟩
  simp only [NC,go_sem,↓reduceIte,p1,p2,p3]
 ·rintro k F h hk p1 ⟨rfl,p2,p3⟩
  by_cases e:(t.at k).up < 0
  ·simp only [NC,go_sem,↓reduceIte,p1,p2,p3,A5 hk,e,DA C]
   by_cases h64:k < 64
   ·rw [Mo _ _ h64]
    congr 1
    apply Ba
    intro j hj
    by_cases e2:j=k
    ·subst e2;simp [e]
    ·have:(j < k+1)↔(j < k):=by omega
     simp [this,e2]
   ·have:C9 (k:Int)=0#64:=by unfold C9;rw [if_neg (by omega)]
    rw [this,BitVec.or_zero]
    congr 1
    apply Ba
    intro j hj
    have:(j < k+1)↔(j < k):=by omega
    simp [this]
  ·simp only [NC,go_sem,↓reduceIte,p1,p2,p3,A5 hk,e]
   congr 1
   apply Ba
   intro j hj
   by_cases e2:j=k
   ·subst e2;simp [e]
   ·have:(j < k+1)↔(j < k):=by omega
    simp [this]
 ·rintro F h ⟨rfl,p2,p3⟩
  simp only [NC,go_sem,↓reduceIte,p3,JZ]
 all_goals simp only [go_sem,↓reduceIte]
 all_goals first | rfl | (rw [← Ga];congr 1;apply Ba;intro j hj;simp)
set_option maxHeartbeats 1000000 in
theorem Rw (t:A4) (ht:t.nodes.length≤1000) (l:List Int) (hl:l.length≤1000):VP V A2o [vT t,lI l] Q↔Q (.b (EJ t l)):=by
 refine Ae ?_
 rw [Ab C.c_z38.1 C.c_z38.2]
 simp only [A5Y,Jw,go_sem,↓reduceIte]
 refine A8 (by decide) l.length (by omega) (I:=fun k F h=>h=[]∧A3.tmp F 1=lI l∧A3.tmp F 2 = .fp (eT t) 0∧∀ j,j < k→Du t l j=true) ?_ ?_ ?_ 0 _ _ (Nat.zero_le _) ?_ ?_
 ·rintro k F h hk p1 ⟨rfl,p2,p3,p4⟩
  simp only [Jw,go_sem,↓reduceIte,p1,p2,p3]
  exact p4
 ·rintro k F h hk p1 ⟨rfl,p2,p3,p4⟩
  have bad:Du t l k=false→false=EJ t l:=fun h=>by rw [EJ,AR hk h];rfl
  have good:Du t l k=true→∀ j,j < k+1→Du t l j=true:=fun h j hj=>by
   by_cases e:j=k
   ·rw [e];exact h
   ·exact p4 j (by omega)
  cases c0:BT t (l.getD k 0) with
  | false =>
   simp only [Jw,go_sem,↓reduceIte,p1,p2,p3,Av hk,Ap C,c0]
   exact bad (by rw [Du,c0];rfl)
  | true =>
   obtain ⟨n,hn,hn'⟩:=A9 c0
   have hup:Du t l k=(El l k && (decide ((t.at n).up < 0) || B2 l (t.at n).up)):=by
    unfold Du
    rw [c0,hn,Int.toNat_natCast,Bool.true_and]
   rw [hn] at c0
   by_cases z:k=0
   ·subst z
    have hr:El l 0=true:=by simp [El]
    rw [hr,Bool.true_and] at hup
    have z0:¬ (0:Int) < ((0:Nat):Int):=by omega
    by_cases u0:0≤(t.at n).up
    ·have u1:¬ (t.at n).up < 0:=by omega
     rw [decide_eq_false u1,Bool.false_or] at hup
     cases u2:B2 l (t.at n).up<;>rw [u2] at hup <;>
      simp only [Jw,go_sem,↓reduceIte,p1,p2,p3,Av hk,Ap C,c0,z0,hn,A5 hn',u0,Ac C l (by omega),C3,u2]
     ·exact bad hup
     ·exact good hup
    ·have u1:(t.at n).up < 0:=by omega
     rw [decide_eq_true u1,Bool.true_or] at hup
     simp only [Jw,go_sem,↓reduceIte,p1,p2,p3,Av hk,Ap C,c0,z0,hn,A5 hn',u0]
     exact good hup
   ·have z0:(0:Int) < (k:Int):=by omega
    have zw:=Jo (show 0 < k by omega) (by omega)
    have hk1:k - 1 < l.length:=by omega
    have hr:El l k = !decide ((n:Int)≤l.getD (k - 1) 0):=by
     unfold El
     rw [decide_eq_false z,Bool.false_or,hn]
     by_cases c:(n:Int)≤l.getD (k - 1) 0
     ·rw [decide_eq_true c,decide_eq_false (by omega)];rfl
     ·rw [decide_eq_false c,decide_eq_true (by omega)];rfl
    cases c1:decide ((n:Int)≤l.getD (k - 1) 0) with
    | true =>
     rw [c1] at hr
     rw [hr] at hup
     simp only [Jw,go_sem,↓reduceIte,p1,p2,p3,Av hk,Ap C,c0,z0,zw,Av hk1,hn,c1]
     exact bad hup
    | false =>
     rw [c1] at hr
     rw [hr] at hup
     simp only [Bool.not_false,Bool.true_and] at hup
     by_cases u0:0≤(t.at n).up
     ·have u1:¬ (t.at n).up < 0:=by omega
      rw [decide_eq_false u1,Bool.false_or] at hup
      cases u2:B2 l (t.at n).up<;>rw [u2] at hup <;>
       simp only [Jw,go_sem,↓reduceIte,p1,p2,p3,Av hk,Ap C,c0,z0,zw,Av hk1,hn,c1,A5 hn',u0,Ac C l (by omega),C3,u2]
      ·exact bad hup
      ·exact good hup
     ·have u1:(t.at n).up < 0:=by omega
      rw [decide_eq_true u1,Bool.true_or] at hup
      simp only [Jw,go_sem,↓reduceIte,p1,p2,p3,Av hk,Ap C,c0,z0,zw,Av hk1,hn,c1,A5 hn',u0]
      exact good hup
 ·rintro F h ⟨rfl,p2,p3,p4⟩
  simp only [Jw,go_sem,↓reduceIte,p2,p3,Ro C t ht,A4q C l (by omega),Dq C]
  rw [EJ,AO p4];rfl
 all_goals simp only [go_sem,↓reduceIte]
 all_goals first | rfl | (intro j hj;omega)
set_option maxHeartbeats 4000000 in
theorem Ru (t:A4) (hu:JC t) (l has:List Int) (hl:l.length≤1000) (hh:has.length≤1000) (hv:∀ n∈has,BT t n=true) (loc:Int):VP V A2p [vT t,lI l,lI has,.i .i64 loc] Q↔Q (.b (DQ t l has loc)):=by
  refine Ae ?_
  rw [Ab C.c_z40.1 C.c_z40.2]
  by_cases z:l.length=0
  · have z' : (l.length : Int) = 0 := by omega
    simp only [A1t,EA,go_sem,↓reduceIte,z']
    simp [DQ,z]
  have z':¬ (l.length:Int)=0:=by omega
  simp only [A1t,EA,go_sem,↓reduceIte,z']
  refine A8 (by decide) l.length (by omega) (I:=fun k F h=>h=[]∧A3.tmp F 1=lI l∧A3.tmp F 2=lI has∧A3.tmp F 3 = .i .i64 loc∧A3.tmp F 4 = .fp (eT t) 0∧∀ j,j < k→C7 t l has loc j=true) ?_ ?_ ?_ 0 _ _ (Nat.zero_le _) ?_ ?_
  · rintro k F h hk p1 ⟨rfl, p2, p3, p4, p5, p6⟩
    simp only [EA,go_sem,↓reduceIte,p1,p2,p3,p4,p5]
    exact p6
  · rintro k F h hk p1 ⟨rfl, p2, p3, p4, p5, p6⟩
    have bad:C7 t l has loc k=false→false=DQ t l has loc:=fun h=>by rw [DQ,AR hk h];simp
    have good:C7 t l has loc k=true→∀ j,j < k+1→C7 t l has loc j=true:=fun h j hj=>by
      by_cases e:j=k
      · rw [e];exact h
      · exact p6 j (by omega)
    cases c0:B2 has (l.getD k 0) with
    | false =>
      simp only [EA,go_sem,↓reduceIte,p1,p2,p3,p4,p5,Av hk,Ac C has (by omega),C3,c0]
      exact bad (by rw [C7,c0];rfl)
    | true =>
      obtain ⟨n,hn,hn'⟩:=A9 (hv _ (A7.1 c0))
      have hcls:C7 t l has loc k=(El l k && (decide ((t.at n).kind=3) && decide ((t.at n).loc=loc)) && decide (0≤(t.at n).thread) && (List.range k).all fun j=>D5 t (l.getD k 0) (l.getD j 0)):=by
        unfold C7 Ll
        rw [c0,hn,Int.toNat_natCast,Bool.true_and]
      have hris:El l k=(decide (k=0) || decide (l.getD (k - 1) 0 < (n:Int))):=by rw [El,hn]
      rw [hn] at c0
      have tail:∀ (hr:El l k=true) (hx1:decide ((t.at n).kind=3)=true) (hx2:decide ((t.at n).loc=loc)=true) (hx3:decide ((t.at n).thread < 0)=false) (G:A3) (Q':Ex→A3→VH→Prop)
          (g1:A3.tmp G 1=lI l) (g2:A3.tmp G 2=lI has) (g3:A3.tmp G 3 = .i .i64 loc) (g4:A3.tmp G 4 = .fp (eT t) 0) (g9:A3.tmp G 9 = .i .i64 k) (g10:A3.tmp G 10 = .p 0 0 0 0) (g11:A3.tmp G 11 = .i .i64 0)
          (q1:∀ G' h',A3.tmp G' 1=lI l→A3.tmp G' 2=lI has→A3.tmp G' 3 = .i .i64 loc→A3.tmp G' 4 = .fp (eT t) 0→A3.tmp G' 9 = .i .i64 k→C7 t l has loc k=true→Q' .norm G' h') (q2:∀ G' h',A3.tmp G' 8 = .b false→C7 t l has loc k=false→Q' .ret G' h'),
          VL V EA 2 A6B G [some ⟨BN,0,0,false,[eN (t.at n)]⟩] Q':=by
        intro hr hx1 hx2 hx3 G Q' g1 g2 g3 g4 g9 g10 g11 q1 q2
        have hx3':decide (0≤(t.at n).thread)=true:=by simp at hx3 ⊢;omega
        rw [hr,hx1,hx2,hx3'] at hcls
        simp only [Bool.and_self,Bool.true_and] at hcls
        refine A8 (by decide) k (by omega) (I:=fun j F h=>h=[some ⟨BN,0,0,false,[eN (t.at n)]⟩]∧A3.tmp F 1=lI l∧A3.tmp F 2=lI has∧A3.tmp F 3 = .i .i64 loc∧A3.tmp F 4 = .fp (eT t) 0∧A3.tmp F 9 = .i .i64 k∧A3.tmp F 10 = .p 0 0 0 0∧∀ i,i < j→D5 t (l.getD k 0) (l.getD i 0)=true) ?_ ?_ ?_ 0 _ _ (Nat.zero_le _) g11 ⟨rfl,g1,g2,g3,g4,g9,g10,fun i hi=>by omega⟩
        · rintro j F h hj r1 ⟨rfl, r2, r3, r4, r5, r6, r7, r8⟩
          simp only [EA,go_sem,↓reduceIte,r1,r2,r3,r4,r5,r6,r7]
          exact r8
        · rintro j F h hj r1 ⟨rfl, r2, r3, r4, r5, r6, r7, r8⟩
          have hjl:j < l.length:=by omega
          have c1:B2 has (l.getD j 0)=true:=by
            have:=p6 j hj
            unfold C7 at this
            simp only [Bool.and_eq_true] at this
            exact this.1.1.1.1
          obtain ⟨n2,hn2,hn2'⟩:=A9 (hv _ (A7.1 c1))
          have hsc:D5 t (l.getD k 0) (l.getD j 0)=(Kf (t.at n) && Kf (t.at n2) && decide ((t.at n).val=(t.at n2).val) && Eu t n n2):=by
            unfold D5;rw [hn,hn2,Int.toNat_natCast,Int.toNat_natCast]
          have bad2:D5 t (l.getD k 0) (l.getD j 0)=false→C7 t l has loc k=false:=fun h=>by rw [hcls];exact AR hj h
          have good2:D5 t (l.getD k 0) (l.getD j 0)=true→∀ i,i < j+1→D5 t (l.getD k 0) (l.getD i 0)=true:=fun h i hi=>by
            by_cases e:i=j
            · rw [e];exact h
            · exact r8 i (by omega)
          cases y1:Kf (t.at n)<;>cases y2:Kf (t.at n2)<;>cases y3:decide ((t.at n).val=(t.at n2).val)<;>cases y4:Eu t n n2<;>rw [y1,y2,y3,y4] at hsc <;>
            simp only [EA,go_sem,↓reduceIte,r1,r2,r3,r4,r5,r6,r7,Av hk,Av hjl,hn,hn2,A5 hn2',Rp C,NP C t hu,y1,y2,y3,y4]
          all_goals first
            | exact q2 _ _ (by simp only [go_sem,↓reduceIte]) (bad2 hsc)
            | (have:=good2 hsc;rw [hn] at this;exact this)
        · rintro F h ⟨rfl, r2, r3, r4, r5, r6, r7, r8⟩
          exact q1 _ _ r2 r3 r4 r5 r6 (by rw [hcls];exact AO r8)
      have zb:(k=0∧decide ((0:Int) < (k:Int))=false)∨(0 < k∧decide ((0:Int) < (k:Int))=true):=by
        rcases Nat.eq_zero_or_pos k with h | h
        · exact .inl ⟨h,by simp [h]⟩
        · exact .inr ⟨h,by simp;omega⟩
      have hk1:k - 1 < l.length:=by omega
      rcases zb with ⟨zk,z0⟩ | ⟨zk,z0⟩
      · have hr : El l k = true := by rw [hris, zk]; rfl
        simp only [EA,go_sem,↓reduceIte,p1,p2,p3,p4,p5,Av hk,Ac C has (by omega),C3,hn,c0,z0,A5 hn']
        repeat' first
          | (refine Bk (fun hx=>?_) (fun hx=>?_)<;>simp only [EA,go_sem,↓reduceIte,p1,p2,p3,p4,p5,hx])
          | (refine AZ (fun hx=>?_) (fun hx=>?_)<;>simp only [EA,go_sem,↓reduceIte,p1,p2,p3,p4,p5,hx])
        all_goals first
          | exact bad (by rw [hcls];simp_all)
          | (refine tail hr (by simp_all) (by simp_all) (by assumption) _ _ ?_ ?_ ?_ ?_ ?_ ?_ ?_ ?_ ?_
             all_goals try simp only [go_sem,↓reduceIte,p1,p2,p3,p4,p5]
             · intro G' e1 e2 e3 e4 e5 e6
               simp only [e1,e2,e3,e4,e5,go_sem]
               exact good e6
             · intro G' h' e1 e2
               simp only [e1,go_sem,bad e2])
      · have zw := Jo zk (by omega)
        simp only [EA,go_sem,↓reduceIte,p1,p2,p3,p4,p5,Av hk,Av hk1,Ac C has (by omega),C3,hn,c0,z0,zw,A5 hn']
        repeat' first
          | (refine Bk (fun hx=>?_) (fun hx=>?_)<;>simp only [EA,go_sem,↓reduceIte,p1,p2,p3,p4,p5,Av hk,hn,hx,A5 hn'])
          | (refine AZ (fun hx=>?_) (fun hx=>?_)<;>simp only [EA,go_sem,↓reduceIte,p1,p2,p3,p4,p5,Av hk,hn,hx,A5 hn'])
        all_goals first
          | exact bad (by rw [hcls,hris];simp_all;try omega)
          | (refine tail (by rw [hris];simp_all) (by simp_all) (by simp_all) (by assumption) _ _ ?_ ?_ ?_ ?_ ?_ ?_ ?_ ?_ ?_
             all_goals try simp only [go_sem,↓reduceIte,p1,p2,p3,p4,p5]
             · intro G' e1 e2 e3 e4 e5 e6
               simp only [e1,e2,e3,e4,e5,go_sem]
               exact good e6
             · intro G' h' e1 e2
               simp only [e1,go_sem,bad e2])
  · rintro F h ⟨rfl, p2, p3, p4, p5, p6⟩
    simp only [EA,go_sem,↓reduceIte]
    rw [DQ,AO p6];simp [z]
  all_goals simp only [go_sem,↓reduceIte]
  all_goals first | rfl | (intro j hj;omega)
end
abbrev eLk (t:A4) (a:Int):List VV:=[.i .i64 t.vals,lS t.locs,.ls (t.regs.map Js),.ls (t.nodes.map eN),.i .i64 a]
abbrev LK (t:A4) (a:Int):Option VO:=some ⟨ST,0,0,false,[eLk t a]⟩
@[go_sem] theorem Amz {α:Type} (r s:List α):(r++s)[r.length]? = s[0]?:=by
 rw [List.getElem?_append_right (Nat.le_refl _),Nat.sub_self]
@[go_sem] theorem Ajs {α:Type} (r s:List α) (k:Nat):(r++s)[r.length+k]? = s[k]?:=by
 rw [List.getElem?_append_right (Nat.le_add_right _ _),Nat.add_sub_cancel_left]
@[go_sem] theorem AmA {α:Type} (r s:List α) (x:α):(r++s).set r.length x=r++s.set 0 x:=by
 rw [List.set_append_right _ _ (Nat.le_refl _),Nat.sub_self]
@[go_sem] theorem AmB {α:Type} (r s:List α) (k:Nat) (x:α):(r++s).set (r.length+k) x=r++s.set k x:=by
 rw [List.set_append_right _ _ (Nat.le_add_right _ _),Nat.add_sub_cancel_left]
@[go_sem] theorem AeM {α:Type} (r s:List α):(r++s).take r.length=r:=by simp
@[go_sem] theorem AeN {α:Type} (r s:List α) (k:Nat):(r++s).take (r.length+k)=r++s.take k:=by rw [List.take_append,List.take_of_length_le (Nat.le_add_right _ _),Nat.add_sub_cancel_left]
@[go_sem] theorem Ai5 (L:Nat) (r s s':VH):LF L (r++s) (r++s')=LF L s s':=by
 induction r with
 | nil=>rfl
 | cons x r ih=>simp only [List.cons_append,XM,ih,true_or,true_and]
@[go_sem] theorem Agw (L:Nat) (r s':VH):LF L r (r++s')=True:=XN L r s'
@[go_sem] theorem dz0:decide ((0:Int) < ((0:Nat):Int))=false:=rfl
@[go_sem] theorem AmC (n:Nat):decide (0 < n+1)=true:=by simp
@[go_sem] theorem AmD (n:Nat):decide (n < n+1)=true:=by simp
@[go_sem] theorem AmE (n:Nat):decide (n < n+1+1)=true:=by simp;omega
@[go_sem] theorem AmF (n:Nat):decide (n < n+1+1+1)=true:=by simp;omega
@[go_sem] theorem AmG (n:Nat):decide (n < n+1+1+1+1)=true:=by simp;omega
@[go_sem] theorem AjN (n:Nat):decide (1 < n+1+1)=true:=by rw [decide_eq_true_iff];omega
@[go_sem] theorem AjO (n:Nat):decide (1 < n+1+1+1)=true:=by rw [decide_eq_true_iff];omega
@[go_sem] theorem AjP (n:Nat):decide (1 < n+1+1+1+1)=true:=by rw [decide_eq_true_iff];omega
@[go_sem] theorem AjQ (n:Nat):decide (1 < n+1+1+1+1+1)=true:=by rw [decide_eq_true_iff];omega
@[go_sem] theorem AjR (n:Nat):decide (1 < n+1+1+1+1+1+1)=true:=by rw [decide_eq_true_iff];omega
@[go_sem] theorem AjS (n:Nat):decide (1 < n+1+1+1+1+1+1+1)=true:=by rw [decide_eq_true_iff];omega
@[go_sem] theorem AjT (n:Nat):decide (1 < n+1+1+1+1+1+1+1+1)=true:=by rw [decide_eq_true_iff];omega
@[go_sem] theorem AjU (n:Nat):decide (2 < n+1+1+1)=true:=by rw [decide_eq_true_iff];omega
@[go_sem] theorem AjV (n:Nat):decide (2 < n+1+1+1+1)=true:=by rw [decide_eq_true_iff];omega
@[go_sem] theorem AjW (n:Nat):decide (2 < n+1+1+1+1+1)=true:=by rw [decide_eq_true_iff];omega
@[go_sem] theorem AjX (n:Nat):decide (2 < n+1+1+1+1+1+1)=true:=by rw [decide_eq_true_iff];omega
@[go_sem] theorem AjY (n:Nat):decide (2 < n+1+1+1+1+1+1+1)=true:=by rw [decide_eq_true_iff];omega
@[go_sem] theorem AjZ (n:Nat):decide (2 < n+1+1+1+1+1+1+1+1)=true:=by rw [decide_eq_true_iff];omega
@[go_sem] theorem Ak0 (n:Nat):decide (3 < n+1+1+1+1)=true:=by rw [decide_eq_true_iff];omega
@[go_sem] theorem Ak1 (n:Nat):decide (3 < n+1+1+1+1+1)=true:=by rw [decide_eq_true_iff];omega
@[go_sem] theorem Ak2 (n:Nat):decide (3 < n+1+1+1+1+1+1)=true:=by rw [decide_eq_true_iff];omega
@[go_sem] theorem Ak3 (n:Nat):decide (3 < n+1+1+1+1+1+1+1)=true:=by rw [decide_eq_true_iff];omega
@[go_sem] theorem Ak4 (n:Nat):decide (3 < n+1+1+1+1+1+1+1+1)=true:=by rw [decide_eq_true_iff];omega
@[go_sem] theorem Ak5 (n:Nat):decide (4 < n+1+1+1+1+1)=true:=by rw [decide_eq_true_iff];omega
@[go_sem] theorem Ak6 (n:Nat):decide (4 < n+1+1+1+1+1+1)=true:=by rw [decide_eq_true_iff];omega
@[go_sem] theorem Ak7 (n:Nat):decide (4 < n+1+1+1+1+1+1+1)=true:=by rw [decide_eq_true_iff];omega
@[go_sem] theorem Ak8 (n:Nat):decide (4 < n+1+1+1+1+1+1+1+1)=true:=by rw [decide_eq_true_iff];omega
@[go_sem] theorem Ak9 (n:Nat):decide (5 < n+1+1+1+1+1+1)=true:=by rw [decide_eq_true_iff];omega
@[go_sem] theorem Aka (n:Nat):decide (5 < n+1+1+1+1+1+1+1)=true:=by rw [decide_eq_true_iff];omega
@[go_sem] theorem Akb (n:Nat):decide (5 < n+1+1+1+1+1+1+1+1)=true:=by rw [decide_eq_true_iff];omega
@[go_sem] theorem Akc (n:Nat):decide (6 < n+1+1+1+1+1+1+1)=true:=by rw [decide_eq_true_iff];omega
@[go_sem] theorem Akd (n:Nat):decide (6 < n+1+1+1+1+1+1+1+1)=true:=by rw [decide_eq_true_iff];omega
attribute [go_sem] Option.isSome_some List.cons_append List.append_assoc List.nil_append
theorem JV {xs:List (List ByteArray)} {k:Nat} (h:k < xs.length):xs[k]? = some (xs.getD k []):=by
 rw [List.getD_eq_getElem?_getD,List.getElem?_eq_getElem h];rfl
theorem NO {xs:List ByteArray} {k:Nat} (h:k < xs.length):xs[k]? = some xs[k]:=List.getElem?_eq_getElem h
section
variable {V:Al} (C:AA V) {Q:VV→Prop}
include C
theorem NA (l:List ByteArray) (hl:l.length≤1000) (hn:l.Nodup):VP V A2V [lS l] Q↔Q (.b false):=by
 refine Ae ?_
 rw [Ab C.c_z91.1 C.c_z91.2]
 simp only [A6i,Sg,go_sem,↓reduceIte]
 refine Au (by decide) l.length (by omega) (I:=fun k F h=>h=[]∧A3.tmp F 5=lS l∧A3.tmp F 0=lS l) ?_ ?_ 0 _ _ (Nat.zero_le _) ?_ ?_ ?_
 ·rintro k F h hk h1 h2 ⟨rfl,h3,h4⟩
  have hx:((l.take k).any fun y=>decide (l[k]=y))=false:=by
   rw [List.any_eq_false]
   intro y hy e
   have e':l[k]=y:=by simpa using e
   obtain ⟨j,hj,ej⟩:=List.mem_iff_getElem.1 hy
   rw [List.getElem_take] at ej
   rw [List.length_take] at hj
   have:=(List.getElem_inj hn).1 (ej.trans e'.symm)
   omega
  have hk':k≤l.length:=by omega
  simp only [Sg,go_sem,↓reduceIte,h1,h2,h3,h4,NO hk,hk',E3 C (l.take k) _ (by simp;omega),hx,Int.toNat_natCast]
 ·rintro F h ⟨rfl,h3,h4⟩
  simp only [Sg,go_sem,↓reduceIte]
 all_goals simp only [go_sem,↓reduceIte]
 all_goals rfl
theorem GY (t:A4) (a n:Int):VP V Ut [.fp (eLk t a) 0,.i .i64 n] Q↔Q (.b (HI t n)):=by
 refine Ae ?_
 rw [Ab C.c_z138.1 C.c_z138.2]
 unfold HI
 cases c0:decide (0≤n)<;>simp only [Zj,TL,go_sem,↓reduceIte,c0]
theorem KC (t:A4) (a n:Int):VP V V3 [.fp (eLk t a) 0,.i .i64 n] Q↔Q (.b (K1 t n)):=by
 refine Ae ?_
 rw [Ab C.c_z184.1 C.c_z184.2]
 unfold K1
 cases c0:decide (0≤n)<;>simp only [ZR,TZ,go_sem,↓reduceIte,c0]
theorem Ez (t:A4) (a u:Nat) (hu:u < t.nodes.length):VP V UQ [.fp (eLk t a) 0,.i .i64 u] Q↔Q (.b (BF t a u)):=by
 refine Ae ?_
 rw [Ab C.c_z168.1 C.c_z168.2]
 unfold BF
 by_cases ha:a < t.nodes.length
 ·have ha':(a:Int) < t.nodes.length:=by omega
  cases c0:decide ((t.at a).up=u)<;>simp only [Tl,Q7,go_sem,↓reduceIte,ha,ha',A5 ha,A5 hu,c0,Int.toNat_natCast]
 ·have ha':¬ (a:Int) < t.nodes.length:=by omega
  simp only [Tl,Q7,go_sem,↓reduceIte,ha,ha']
theorem A0i (t:A4) (a n:Int):VP V Qr [.i .i64 n,.fp [.fp (eLk t a) 0] 0] Q↔Q (.b (!HI t n)):=by
 refine Ae ?_
 rw [Ab C.c_z170.1 C.c_z170.2]
 simp only [ZG,TW,go_sem,↓reduceIte,GY C]
def Abo (V:Al) (t:A4) (u e:Nat):Prop:=∀ (a:Int) (r:VH),GT V Uu [.p 0 0 0 0,.i .i64 u] (LK t a::r) fun v h=>v = .b true∧h=LK t e::r
theorem Xh (t:A4) (hn:t.nodes.length≤64) (u e:Nat) (hu:u+1 < t.nodes.length) (ha:Dc t u=true) (hb:Abo V t (u+1) e) (r:VH) :
  GT V US [.p 0 0 0 0,.i .i64 u] (LK t ((u+1:Nat):Int)::r) fun v h=>v = .b true∧h=LK t e::r:=by
 rw [Ct C.h_z171]
 have hu0:u < t.nodes.length:=by omega
 have hq:=fun (r:VH) Q=>Ge (hb ((u+1:Nat):Int) r) (Q:=Q)
 unfold Dc at ha
 simp only [Bool.or_eq_true,Bool.and_eq_true,decide_eq_true_eq] at ha
 rcases ha with ⟨⟨⟨⟨⟨h1,h2⟩,h3⟩,h4⟩,h5⟩,h6⟩ | ⟨⟨⟨h1,h2⟩,h3⟩,h4⟩
 ·have h4':(t.at (u+1)).rmw=false:=by simpa using h4
  have h5':0≤(t.at (u+1)).mode:=by omega
  have h7:¬ (t.at (u+1)).mode=0:=by omega
  simp only [PN,KE,go_sem,↓reduceIte,A5 hu,A5 hu0,Int.toNat_natCast,h1,h2,h3,h4',h5',h6,h7,hq,A0]
 ·have h1':¬ (t.at (u+1)).kind=4:=by omega
  cases hr:(t.at (u+1)).rmw with
  | true =>
   rw [hr] at h4
   simp only [if_true,Bool.and_eq_true,decide_eq_true_eq] at h4
   obtain ⟨⟨⟨⟨g1,g2⟩,g3⟩,g4⟩,g5⟩:=h4
   simp only [PN,KE,go_sem,↓reduceIte,A5 hu,A5 hu0,Int.toNat_natCast,h1,h1',hr,KC C,GY C,h2,h3,g1,g2,g3,g4,g5,hq,A0,Int.reduceEq]
  | false =>
   rw [hr] at h4
   simp only [Bool.false_eq_true,if_false,Bool.or_eq_true,decide_eq_true_eq] at h4
   have g1:0≤(t.at (u+1)).mode:=by omega
   have g2:(t.at (u+1)).mode≤4:=by omega
   rcases h4 with (h4 | h4) | h4 <;>
   simp only [PN,KE,go_sem,↓reduceIte,A5 hu,A5 hu0,Int.toNat_natCast,h1,h1',hr,KC C,GY C,h2,h3,g1,g2,h4,hq,A0,Int.reduceEq,Int.reduceLE]
theorem A0j (t:A4) (hn:t.nodes.length≤64) (u e:Nat) (hu:u < t.nodes.length) (vals:Nat) (k:Nat→Nat) (loc mode:Int) (hv:t.vals=vals) (hv0:0 < vals) (hv1:vals≤4) (hk0:k 0=u+1) (hke:k vals=e) (hl:K1 t loc=true)
  (hs:∀ v,v < vals→BF t (k v) u=true∧Em t (k v) v loc mode=true∧Abo V t (k v) (k (v+1)))
  (hm:(mode=0∨mode=1∨mode=4)∨(0≤mode∧mode≤4∧∃ v,v < vals∧EC t (k v)=true)) (r:VH) :
  GT V UT [.p 0 0 0 0,.i .i64 u] (LK t ((u+1:Nat):Int)::r) fun v h=>v = .b true∧h=LK t e::r:=by
 rw [Ct C.h_z172]
 have h0:=hs 0 hv0
 rw [hk0] at h0
 obtain ⟨c0,s0,_⟩:=h0
 have hu1:u+1 < t.nodes.length:=by
  unfold BF at c0
  simp only [Bool.and_eq_true,decide_eq_true_eq] at c0
  omega
 simp only [Em,Bool.and_eq_true,decide_eq_true_eq] at s0
 obtain ⟨⟨⟨⟨g1,g2⟩,g3⟩,g4⟩,g5⟩:=s0
 simp only [ZH,GZ,go_sem,↓reduceIte,A5 hu1,Int.toNat_natCast,hv]
 refine Au (by decide) vals (by omega) (I:=fun v F h=>h=LK t (k v)::(r++[some ⟨BN,0,0,false,[eN (t.at (u+1))]⟩])∧A3.tmp F 0 = .p 0 0 0 0∧A3.tmp F 1 = .i .i64 u∧A3.tmp F 5 = .p (r.length+1) 0 0 0∧A3.tmp F 6 = .b ((List.range v).any fun j=>EC t (k j))) ?_ ?_ 0 _ _ (Nat.zero_le _) ?_ ?_ ?_
 ·rintro v F h hv2 p1 p2 ⟨rfl,p3,p4,p5,p6⟩
  obtain ⟨c1,s1,b1⟩:=hs v hv2
  have hq:=fun (r:VH) Q=>Ge (b1 (k v) r) (Q:=Q)
  have hkv:k v < t.nodes.length:=by
   unfold BF at c1
   simp only [Bool.and_eq_true,decide_eq_true_eq] at c1
   omega
  simp only [Em,Bool.and_eq_true,decide_eq_true_eq] at s1
  obtain ⟨⟨⟨⟨q1,q2⟩,q3⟩,q4⟩,q5⟩:=s1
  have q5':(t.at (k v)).rmw=false:=by simpa using q5
  have w1:=GL (show k v < 9223372036854775807 by omega)
  have hany:((List.range (v+1)).any fun j=>EC t (k j))=(((List.range v).any fun j=>EC t (k j)) || EC t (k v)):=by
   rw [List.range_succ,List.any_append];simp
  rw [hany]
  clear hany
  generalize ((List.range v).any fun j=>EC t (k j))=B at *
  by_cases z1:k v+1 < t.nodes.length
  ·have z1':((k v+1:Nat):Int) < (t.nodes.length:Int):=by omega
   have z2:decide (k v+1 < t.nodes.length)=true:=by simp [z1]
   unfold EC
   rw [z2]
   cases z3:decide ((t.at (k v+1)).up=(k v:Int))<;>cases B <;>
    simp only [Tw,GZ,go_sem,↓reduceIte,p1,p2,p3,p4,p5,p6,Ez C t _ u hu,c1,A5 hkv,A5 hu1,A5 z1,Int.toNat_natCast,q1,q2,q3,q4,q5',g1,g3,g4,hq,w1,z1',z3,List.length_append]
  ·have z1':¬ ((k v+1:Nat):Int) < (t.nodes.length:Int):=by omega
   have z2:decide (k v+1 < t.nodes.length)=false:=by simp [z1]
   unfold EC
   rw [z2]
   simp only [Tw,GZ,go_sem,↓reduceIte,p1,p2,p3,p4,p5,p6,Ez C t _ u hu,c1,A5 hkv,A5 hu1,Int.toNat_natCast,q1,q2,q3,q4,q5',g1,g3,g4,hq,w1,z1']
 ·rintro F h ⟨rfl,p3,p4,p5,p6⟩
  rw [hke]
  rcases hm with hm | ⟨hm1,hm2,v,hv2,hm3⟩
  ·rcases hm with (hm | hm | hm) <;>
   simp only [GZ,go_sem,↓reduceIte,p3,p4,p5,p6,g3,g4,hm,KC C,hl,Int.reduceEq]
  ·have hany:((List.range vals).any fun j=>EC t (k j))=true:=Wm hv2 hm3
   rw [hany] at p6
   cases m0:decide (mode=0)<;>cases m1:decide (mode=1)<;>cases m2:decide (mode=4) <;>
   simp only [GZ,go_sem,↓reduceIte,p3,p4,p5,p6,g3,g4,hm1,hm2,m0,m1,m2,KC C,hl,Int.reduceEq]
 all_goals simp only [go_sem,↓reduceIte]
 ·rfl
 ·simp only [hk0,eN,g1,g2,g3,g4,List.range_zero,List.any_nil,go_sem]
theorem Rc (t:A4) (hn:t.nodes.length≤64) (h4:t.vals≤4) (hr:∀ l∈t.regs,l.length≤1000):∀ n u e,HM t n u e→Abo V t u e:=by
 intro n
 induction n with
 | zero=>intro u e h;exact h.elim
 | succ n ih =>
  intro u e hb a r
  obtain ⟨⟨hu,ht0,ht1⟩,hb⟩:=hb
  rw [Ct C.h_z139]
  have w1:=GL (show u < 9223372036854775807 by omega)
  obtain ⟨th,hth⟩:=Int.eq_ofNat_of_zero_le ht0
  have ht1':th < t.regs.length:=by omega
  rcases hb with ⟨c0,e0,rfl⟩ | ⟨c0,f0,r0,a0,b0⟩ | ⟨c0,f0,r0,vals,k,loc,mode,hv,hv0,hk0,hke,hl,hs,hm⟩
  ·simp only [A1i,Bool.and_eq_true,decide_eq_true_eq] at e0
   obtain ⟨⟨g1,g2⟩,g3⟩:=e0
   rw [hth,Int.toNat_natCast] at g2
   have hall:((t.at u).regs.any fun v=>!HI t v)=false:=by
    rw [List.any_eq_false]
    intro x hx
    rw [List.all_eq_true] at g3
    simp [g3 x hx]
   have hrl:(t.regs.getD th []).length≤1000:=by
    by_cases z:th < t.regs.length
    ·exact hr _ (Aj z)
    ·omega
   have hcf:=fun (a:Int) Q=>En C (t.at u).regs (by omega) (g:=Qr) (a:=[]) (c:=[.fp [.fp (eLk t a) 0] 0]) Fz.nil (fun _ _=>rfl) (fun x=>!HI t x) (fun x=>(A0i C t a x).2 rfl) (Q:=Q)
   simp only [PJ,KD,go_sem,↓reduceIte,w1,Ez C t _ u hu,c0,A5 hu,Int.toNat_natCast,g1,g2,hth,JV ht1',hcf,hall]
  ·have hu1:u+1 < t.nodes.length:=by
    unfold BF at c0
    simp only [Bool.and_eq_true,decide_eq_true_eq] at c0
    omega
   have hq:=fun (r:VH) Q=>Ge (Xh C t hn u e hu1 a0 (ih _ _ b0) r) (Q:=Q)
   have hk2:¬ (t.at (u+1)).kind=2:=by
    unfold Dc at a0
    simp only [Bool.or_eq_true,Bool.and_eq_true,decide_eq_true_eq] at a0
    rcases a0 with ⟨⟨⟨⟨⟨h1,h2⟩,h3⟩,h4⟩,h5⟩,h6⟩ | ⟨⟨⟨h1,h2⟩,h3⟩,h4⟩<;>omega
   simp only [PJ,KD,go_sem,↓reduceIte,w1,Ez C t _ u hu,c0,A5 hu,A5 hu1,Int.toNat_natCast,f0,r0,hk2,hq]
  ·have h0:=hs 0 hv0
   rw [hk0] at h0
   have hu1:u+1 < t.nodes.length:=by
    unfold BF at c0
    simp only [Bool.and_eq_true,decide_eq_true_eq] at c0
    omega
   have hk2:(t.at (u+1)).kind=2:=by
    have:=h0.2.1
    simp only [Em,Bool.and_eq_true,decide_eq_true_eq] at this
    exact this.1.1.1.1
   have hq:=fun (r:VH) Q=>Ge (A0j C t hn u e hu vals k loc mode hv hv0 (by omega) hk0 hke hl (fun v hv=>⟨(hs v hv).1,(hs v hv).2.1,ih _ _ (hs v hv).2.2⟩) hm r) (Q:=Q)
   simp only [PJ,KD,go_sem,↓reduceIte,w1,Ez C t _ u hu,c0,A5 hu,A5 hu1,Int.toNat_natCast,f0,r0,hk2,hq]
theorem Xi (t:A4) (hn:t.nodes.length≤64) (hl:t.locs.length≤t.nodes.length) (hi:∀ i,i < t.locs.length→J1 t i=true) (r:VH) :
  GT V A2W [.p 0 0 0 0] (LK t 0::r) fun v h=>v = .b true∧h=LK t t.locs.length::r:=by
 rw [Ct C.h_z92]
 simp only [A6j,ML,go_sem,↓reduceIte]
 unfold VL
 rw [A0]
 refine AU (M:=Nat) (I:=fun k F h=>k≤t.locs.length∧h=LK t (k:Int)::r∧A3.tmp F 0 = .p 0 0 0 0) (μ:=fun k=>t.locs.length - k) ?_ 0 _ _ ⟨Nat.zero_le _,rfl,?_⟩
 ·rintro k F h ⟨hk,rfl,p1⟩
  by_cases hkl:k < t.locs.length
  ·have hkl':(k:Int) < t.locs.length:=by omega
   have hkn:k < t.nodes.length:=by omega
   have hkn':¬ (t.nodes.length:Int)≤k:=by omega
   have w1:=GL (show k < 9223372036854775807 by omega)
   have:=hi k hkl
   unfold J1 at this
   simp only [Bool.and_eq_true,decide_eq_true_eq] at this
   obtain ⟨⟨⟨⟨⟨⟨⟨⟨g1,g2⟩,g3⟩,g4⟩,g5⟩,g6⟩,g7⟩,g8⟩,g9⟩:=this
   have g7':(t.at k).rmw=false:=by simpa using g7
   have g8':(t.at k).fin=false:=by simpa using g8
   simp only [A0d,ML,go_sem,↓reduceIte,p1,hkl',hkn',A5 hkn,Int.toNat_natCast,g1,g2,g3,g4,g5,g6,g7',g8',g9,GY C,w1,A0]
   exact ⟨k+1,by omega,by omega,rfl⟩
  ·have hke:k=t.locs.length:=by omega
   subst hke
   simp only [A0d,ML,go_sem,↓reduceIte,p1,A0]
 all_goals simp only [go_sem,↓reduceIte]
theorem Rf (t:A4) (hn:t.nodes.length≤64) (h4:t.vals≤4) (hr:∀ l∈t.regs,l.length≤1000) (hr4:t.regs.length≤4) (s:Nat→Nat) (hs0:s 0=t.locs.length) (hse:s t.regs.length=t.nodes.length)
  (hs:∀ i,i < t.regs.length→Et t (s i) i=true∧∃ n,HM t n (s i) (s (i+1))) (r:VH) :
  GT V A2X [.p 0 0 0 0] (LK t t.locs.length::r) fun v h=>v = .b true∧h=LK t t.nodes.length::r:=by
 rw [Ct C.h_z93]
 simp only [A6k,MM,go_sem,↓reduceIte]
 refine Au (by decide) t.regs.length (by omega) (I:=fun i F h=>h=LK t (s i)::r∧A3.tmp F 0 = .p 0 0 0 0) ?_ ?_ 0 _ _ (Nat.zero_le _) ?_ ?_ ?_
 ·rintro i F h hi h1 h2 ⟨rfl,p1⟩
  obtain ⟨b0,nn,b1⟩:=hs i hi
  have hu:s i < t.nodes.length:=by
   cases nn with
   | zero=>exact b1.elim
   | succ nn=>exact b1.1.1
  have hu':¬ (t.nodes.length:Int)≤s i:=by omega
  have hq:=fun (r:VH) Q=>Ge (Rc C t hn h4 hr _ _ _ b1 (s i) r) (Q:=Q)
  unfold Et at b0
  simp only [Bool.and_eq_true,decide_eq_true_eq] at b0
  obtain ⟨⟨⟨⟨⟨⟨g1,g2⟩,g3⟩,g4⟩,g5⟩,g6⟩,g7⟩:=b0
  have g7':(t.at (s i)).rmw=false:=by simpa using g7
  simp only [A6A,MM,go_sem,↓reduceIte,h1,h2,p1,hu',A5 hu,Int.toNat_natCast,g1,g2,g3,g4,g5,g6,g7',hq]
 ·rintro F h ⟨rfl,p1⟩
  rw [hse]
  simp only [MM,go_sem,↓reduceIte,p1]
 all_goals simp only [go_sem,↓reduceIte,hs0]
 all_goals rfl
theorem S5 (t:A4) (h:Aa t):VP V XD [vT t] Q↔Q (.b true):=by
 refine Ae ?_
 rw [Ab C.c_z42.1 C.c_z42.2]
 have a1:=h.v2
 have a2:=h.v4
 have a3:=h.l4
 have a4:=h.n64
 have a5:=h.r1
 have a6:=h.r4
 have b1:¬ t.vals < 2:=by omega
 have b2:¬ 4 < t.vals:=by omega
 have b3:¬ (4:Int) < t.locs.length:=by omega
 have b4:¬ (64:Int) < t.nodes.length:=by omega
 have b5:¬ (t.regs.length:Int) < 1:=by omega
 have b6:¬ (4:Int) < t.regs.length:=by omega
 obtain ⟨s,s0,se,hs⟩:=h.thr
 have hrl:∀ l∈t.regs,l.length≤1000:=fun l hl=>by have:=(h.rl l hl).1;omega
 have q1:=fun (r:VH) Q=>Ge (Xi C t h.n64 h.first.1 h.first.2 r) (Q:=Q)
 have q2:=fun (r:VH) Q=>Ge (Rf C t h.n64 h.v4 hrl h.r4 s s0 se hs r) (Q:=Q)
 simp only [A61,S9,go_sem,↓reduceIte,b1,b2,b3,b4,b5,b6,NA C t.locs (by omega) h.ln]
 refine Au (by decide) t.regs.length (by omega) (I:=fun i F h=>h=[]∧A3.tmp F 1 = .fp (eT t) 0∧A3.tmp F 42 = .ls (t.regs.map Js)) ?_ ?_ 0 _ _ (Nat.zero_le _) ?_ ?_ ?_
 ·rintro i F hh hi h1 h2 ⟨rfl,p1,p2⟩
  have hm:=h.rl _ (Aj (d:=[]) hi)
  have hb:¬ (4:Int) < (t.regs.getD i []).length:=by omega
  simp only [A6y,S9,go_sem,↓reduceIte,h1,h2,p1,p2,JV hi,hb,NA C (t.regs.getD i []) (by omega) hm.2]
 ·rintro F hh ⟨rfl,p1,p2⟩
  simp only [S9,go_sem,↓reduceIte,p1,q1,q2]
 all_goals simp only [go_sem,↓reduceIte]
 all_goals rfl
end
attribute [go_sem] Int.reduceLE Int.reduceLT Int.reduceEq Int.reduceToNat Int.reduceNeg Int.le_refl Int.toNat_natCast Int.cast_ofNat_Int
section
variable {V:Al} (C:AA V) {Q:VV→Prop}
include C
theorem Sp (v n:Int) (h1:1≤n) (h2:n≤2147483648):VP V UF [.i .i64 v,.i .i64 n] Q↔Q (.i .i64 (v % n)):=by
 refine Ae ?_
 rw [Ab C.c_z152.1 C.c_z152.2]
 have c1:¬ n < 1:=by omega
 have c2:¬ 2147483648 < n:=by omega
 obtain ⟨t1,t2⟩:=Aaw (v:=v) (show 0 < n by omega)
 by_cases c:v.tmod n < 0
 ·obtain ⟨t3,t4⟩:=t1 c
  have w:IntKind.i64.wrap (v.tmod n+n)=v % n:=by rw [AG (by omega) (by omega),t3]
  simp only [Tj,Q5,go_sem,↓reduceIte,c1,c2,EE (show n≠0 by omega),c,w]
 ·have c':¬ v % n < 0:=by rw [← t2 c];exact c
  simp only [Tj,Q5,go_sem,↓reduceIte,c1,c2,EE (show n≠0 by omega),t2 c,c']
theorem E0 (xs:List ByteArray) (n:ByteArray) (hl:xs.length≤1000):VP V UC [lS xs,.s n] Q↔Q (.i .i64 (CG (fun y=>decide (n=y)) xs)):=by
 refine Ae ?_
 rw [Ab C.c_z149.1 C.c_z149.2]
 simp only [Zr,K4,go_sem,↓reduceIte]
 refine A8 (by decide) xs.length (by omega) (I:=fun k F h=>h=[]∧A3.tmp F 0=lS xs∧A3.tmp F 1 = .s n∧∀ (j:Nat) (hj:j < xs.length),j < k→¬ n=xs[j]) ?_ ?_ ?_ 0 _ _ (Nat.zero_le _) ?_ ?_
 ·rintro k F h hk p1 ⟨rfl,p2,p3,p4⟩
  simp only [K4,go_sem,↓reduceIte,p1,p2,p3]
  exact p4
 ·rintro k F h hk p1 ⟨rfl,p2,p3,p4⟩
  by_cases e:xs[k]=n
  ·simp only [K4,go_sem,↓reduceIte,p1,p2,p3,NO hk,e]
   rw [DG hk (by simp [e]) fun j hj=>by simpa using p4 j (by omega) hj]
  ·simp only [K4,go_sem,↓reduceIte,p1,p2,p3,NO hk,e]
   intro j hj hjk
   by_cases e2:j=k
   ·subst e2;exact fun h=>e h.symm
   ·exact p4 j hj (by omega)
 ·rintro F h ⟨rfl,p2,p3,p4⟩
  simp only [K4,go_sem,↓reduceIte]
  rw [Ei fun x hx=>by obtain ⟨j,hj,e⟩:=List.mem_iff_getElem.1 hx;rw [← e];simpa using p4 j hj hj]
 all_goals simp only [go_sem,↓reduceIte]
 all_goals first | rfl | (intro j hj hjk;omega)
theorem CE (xs:List ByteArray) (n:ByteArray) (hl:xs.length≤1000):VP V Uy [lS xs,.s n] Q↔Q (.b (xs.any fun y=>decide (n=y))):=by
 refine Ae ?_
 rw [Ab C.c_z143.1 C.c_z143.2]
 simp only [Zm,TN,go_sem,↓reduceIte,E0 C xs n hl,M5]
theorem Vv (r:List VV) (h:GE r):VP V V8 [.ag r] fun x=>∃ k:Int,x = .i .i64 k:=by
 induction h with
 | mk op n nm kids hl hk ih =>
  rw [Ab C.c_z189.1 C.c_z189.2]
  simp only [ZW,Hn,go_sem,↓reduceIte]
  by_cases ho:op=1∨op=2
  ·unfold VL
   rw [A0]
   refine AU (M:=Nat) (I:=fun k F h=>h=[]∧A3.tmp F 1 = .fp [.i .i64 op,.i .i64 n,.s nm,.ls kids] 0∧A3.tmp F 4 = .i .i64 0∧A3.tmp F 3 = .i .i64 0) (μ:=fun k=>k) ?_ 0 _ _ ⟨rfl,?_,?_,?_⟩
   ·rintro k F h ⟨rfl,p1,p2,p3⟩
    cases c0:decide ((0:Int) < kids.length)<;>rcases ho with ho | ho <;>
     simp only [A1P,Hn,go_sem,↓reduceIte,p1,p2,p3,c0,ho,Int.reduceEq,A0]<;>exact ⟨_,rfl⟩
   all_goals simp only [go_sem,↓reduceIte]
  ·have o1:¬ op=1:=fun h=>ho (.inl h)
   have o2:¬ op=2:=fun h=>ho (.inr h)
   refine A8 (by decide) kids.length (by omega) (I:=fun k F h=>h=[]∧A3.tmp F 1 = .fp [.i .i64 op,.i .i64 n,.s nm,.ls kids] 0∧∃ d:Int,A3.tmp F 3 = .i .i64 d) ?_ ?_ ?_ 0 _ _ (Nat.zero_le _) ?_ ?_
   ·rintro k F h hk' p1 ⟨rfl,p2,d,p3⟩
    cases c0:decide ((k:Int) < kids.length)
    ·have:decide (k < kids.length)=false:=by simp at c0 ⊢;omega
     simp only [Hn,go_sem,↓reduceIte,p1,p2,p3,o1,o2,c0,this]
     try exact ⟨d,rfl⟩
    ·have:decide (k < kids.length)=true:=by simp at c0 ⊢;omega
     simp only [Hn,go_sem,↓reduceIte,p1,p2,p3,o1,o2,c0,this]
     try exact ⟨d,rfl⟩
   ·rintro k F h hk' p1 ⟨rfl,p2,d,p3⟩
    have hg:=hk _ (List.getElem_mem hk')
    simp only [Hn,go_sem,↓reduceIte,p1,p2,p3,Rb hk',hg.len,hg.take,hg.frz]
    refine (ih _ (List.getElem_mem hk')).mono ?_
    rintro _ ⟨e,rfl⟩
    cases c0:decide (d < e) <;>
    simp only [Hn,go_sem,↓reduceIte,p1,p2,p3,c0]<;>exact ⟨_,rfl⟩
   ·rintro F h ⟨rfl,p2,d,p3⟩
    simp only [Hn,go_sem,↓reduceIte,p3]
    try exact ⟨_,rfl⟩
   all_goals simp only [go_sem,↓reduceIte]
   all_goals first | rfl | exact ⟨_,rfl⟩
theorem Vw (regs:List ByteArray) (vals:List Int) (hr:regs.length≤1000) (hl:vals.length=regs.length) (n:Int) (h1:2≤n) (h2:n≤2147483648) (r:List VV) (h:GE r) :
  VP V V9 [.ag r,lS regs,lI vals,.i .i64 n] fun x=>∃ (k:Int) (b:Bool),x = .tu [.i .i64 k,.b b]∧0≤k∧k < n:=by
 have hin:∀ v:Int,0≤v % n∧v % n < n:=fun v=>⟨Int.emod_nonneg v (by omega),Int.emod_lt_of_pos v (by omega)⟩
 have q5:=fun v Q=>Sp C v n (by omega) h2 (Q:=Q)
 induction h with
 | mk op m nm kids hkl hk ih =>
  rw [Ab C.c_z190.1 C.c_z190.2]
  by_cases o1:op=1
  ·simp only [HY,CX,go_sem,↓reduceIte,o1,A0,q5]
   exact ⟨_,_,rfl,hin m⟩
  by_cases o2:op=2
  ·cases c0:regs.any fun y=>decide (nm=y) with
   | false =>
    have e:=WN c0
    simp only [HY,CX,go_sem,↓reduceIte,o2,A0,q5,Int.reduceEq,E0 C regs nm hr,e,Int.reduceLT,Int.reduceNeg]
    exact ⟨_,_,rfl,by omega,by omega⟩
   | true =>
    obtain ⟨k,e,hk',_⟩:=JT c0
    have hk2:k < vals.length:=by omega
    have hk3:¬ (k:Int) < 0:=by omega
    simp only [HY,CX,go_sem,↓reduceIte,o2,A0,q5,Int.reduceEq,E0 C regs nm hr,e,hk3,Av hk2]
    exact ⟨_,_,rfl,hin _⟩
  by_cases o3:op < 3
  ·simp only [HY,CX,go_sem,↓reduceIte,o1,o2,o3,A0]
   exact ⟨_,_,rfl,by omega,by omega⟩
  by_cases o4:6 < op
  ·simp only [HY,CX,go_sem,↓reduceIte,o1,o2,o3,o4,A0]
   exact ⟨_,_,rfl,by omega,by omega⟩
  by_cases o5:(kids.length:Int)=2
  ·obtain ⟨a,b,rfl⟩:∃ a b,kids=[a,b]:=by
    rcases kids with _ | ⟨a,_ | ⟨b,_ | ⟨c,l⟩⟩⟩
    ·simp at o5
    ·simp at o5
    ·exact ⟨a,b,rfl⟩
    ·simp at o5;omega
   have ga:=hk a (by simp)
   have gb:=hk b (by simp)
   simp only [HY,CX,go_sem,↓reduceIte,o1,o2,o3,o4,o5,A0,ga.len,ga.take,ga.frz,gb.len,gb.take,gb.frz,Int.reduceEq,Int.cast_ofNat_Int]
   refine (ih a (by simp)).mono ?_
   rintro _ ⟨ka,ba,rfl,_,_⟩
   simp only [CX,go_sem,↓reduceIte,gb.len,gb.take,gb.frz]
   refine (ih b (by simp)).mono ?_
   rintro _ ⟨kb,bb,rfl,_,_⟩
   have hop:op=3∨op=4∨op=5∨op=6:=by omega
   cases ba with
   | false =>
    simp only [CX,go_sem,↓reduceIte]
    exact ⟨_,_,rfl,by omega,by omega⟩
   | true =>
    cases bb with
    | false =>
     simp only [CX,go_sem,↓reduceIte]
     exact ⟨_,_,rfl,by omega,by omega⟩
    | true =>
     rcases hop with rfl | rfl | rfl | rfl
     ·simp only [CX,go_sem,↓reduceIte,A0,q5,Int.reduceEq]
      exact ⟨_,_,rfl,hin _⟩
     ·simp only [CX,go_sem,↓reduceIte,A0,q5,Int.reduceEq]
      exact ⟨_,_,rfl,hin _⟩
     ·cases c0:decide (ka=kb) <;>
      simp only [CX,go_sem,↓reduceIte,A0,q5,Int.reduceEq,c0] <;>
      exact ⟨_,_,rfl,by omega,by omega⟩
     ·cases c0:decide (ka < kb) <;>
      simp only [CX,go_sem,↓reduceIte,A0,q5,Int.reduceEq,c0] <;>
      exact ⟨_,_,rfl,by omega,by omega⟩
  ·simp only [HY,CX,go_sem,↓reduceIte,o1,o2,o3,o4,o5,A0]
   exact ⟨_,_,rfl,by omega,by omega⟩
theorem DJ (regs:List ByteArray) (vals:List Int) (hr:regs.length≤1000) (hl:vals.length=regs.length) (n:Int) (h1:2≤n) (h2:n≤4) (r:List VV) (h:GE r) :
  VP V Qs [.ag r,lS regs,lI vals,.i .i64 n] fun x=>∃ (k:Int) (b:Bool),x = .tu [.i .i64 k,.b b]∧0≤k∧k < n:=by
 have c1:¬ n < 2:=by omega
 have c2:¬ 4 < n:=by omega
 have c3:(regs.length:Int)=vals.length:=by omega
 rw [Ab C.c_z178.1 C.c_z178.2]
 have hb:∀ L,Cx L r=true:=fun L=>by cases h;rfl
 simp only [ZM,Lt,go_sem,↓reduceIte,c1,c2,c3,h.len,h.take,h.frz,h.cell]
 refine (Vv C r h).mono ?_
 rintro _ ⟨k,rfl⟩
 cases c0:decide (6 < k) with
 | true =>
  simp only [Lt,go_sem,↓reduceIte,c0]
  exact ⟨_,_,rfl,by omega,by omega⟩
 | false =>
  simp only [Lt,go_sem,↓reduceIte,c0,h.len,h.take,h.frz]
  refine (Vw C regs vals hr hl n h1 (by omega) r h).mono ?_
  rintro _ ⟨k,b,rfl,hk⟩
  simp only [Lt,go_sem,↓reduceIte]
  exact ⟨_,_,rfl,hk⟩
theorem BY (k:Int):VP V UX [.i .i64 k] Q↔Q (.b (GG k)):=by
 refine Ae ?_
 rw [Ab C.c_z177.1 C.c_z177.2]
 unfold GG
 cases c1:decide (k=1)<;>cases c2:decide (k=2)<;>cases c3:decide (k=4) <;>
 simp only [ZL,TX,go_sem,↓reduceIte,c1,c2,c3]
def A4W (V:Al) (l:List (List VV)):Prop:=∀ out:List ByteArray,out.Nodup→(∀ n∈out,n∈N4)→VP V N0 [lS out,.ls l] fun x=>∃ o:List ByteArray,x=lS o∧o.Nodup∧(∀ n∈out,n∈o)∧(∀ n∈o,n∈N4)∧∀ r∈l,RI o r
omit C in
theorem N6 {o:List ByteArray} (h:o.Nodup) (h4:∀ n∈o,n∈N4):o.length≤4:=List.Nodup.length_le_of_subset h h4
theorem Hq (l:List (List VV)) (hl:l.length≤1000) (hs:∀ s∈l,∃ kind mode reg loc args th el,s=rS kind mode reg loc args th el∧(GG kind=true→reg∈N4)∧A4W V th∧A4W V el):A4W V l:=by
 intro out hn h4
 rw [Ab C.c_z147.1 C.c_z147.2]
 simp only [Zq,Dz,go_sem,↓reduceIte]
 refine A8 (by decide) l.length (by omega) (I:=fun k F h=>h=[]∧A3.tmp F 1 = .ls l∧∃ o:List ByteArray,A3.tmp F 0=lS o∧o.Nodup∧(∀ n∈out,n∈o)∧(∀ n∈o,n∈N4)∧∀ j (hj:j < l.length),j < k→RI o l[j]) ?_ ?_ ?_ 0 _ _ (Nat.zero_le _) ?_ ?_
 ·rintro k F h hk p1 ⟨rfl,p2,o,p3,p4⟩
  simp only [Dz,go_sem,↓reduceIte,p1,p2,p3]
  exact ⟨o,rfl,p4⟩
 ·rintro k F h hk p1 ⟨rfl,p2,o,p3,p4,p5,p6,p7⟩
  obtain ⟨kind,mode,reg,loc,args,th,el,e,hreg,a1,a2⟩:=hs _ (List.getElem_mem hk)
  have ho:=N6 p4 p6
  have hk2:=Rb hk
  rw [e] at hk2
  have fin:∀ o2:List ByteArray,o2.Nodup→(∀ n∈o,n∈o2)→(∀ n∈o2,n∈N4)→(GG kind=true→reg∈o2)→VP V N0 [lS o2,.ls th] fun x=>∃ o3:List ByteArray,x=lS o3∧VP V N0 [lS o3,.ls el] fun x=>∃ o4:List ByteArray,x=lS o4∧o4.Nodup∧(∀ n∈out,n∈o4)∧(∀ n∈o4,n∈N4)∧∀ j (hj:j < l.length),j < k+1→RI o4 l[j]:=by
   intro o2 g1 g2 g3 g4
   refine (a1 o2 g1 g3).mono ?_
   rintro _ ⟨o3,rfl,q1,q2,q3,q4⟩
   refine ⟨o3,rfl,(a2 o3 q1 q3).mono ?_⟩
   rintro _ ⟨o4,rfl,r1,r2,r3,r4⟩
   refine ⟨o4,rfl,r1,fun n hn=>r2 _ (q2 _ (g2 _ (p5 _ hn))),r3,fun j hj hjk=>?_⟩
   by_cases ej:j=k
   ·subst ej
    rw [e]
    exact .mk _ _ _ _ _ _ _ (fun h=>r2 _ (q2 _ (g4 h))) (fun s hs=>(q4 s hs).mono r2) r4
   ·exact (p7 j hj (by omega)).mono fun n hn=>r2 _ (q2 _ (g2 _ hn))
  cases c0:GG kind with
  | false =>
   simp only [Dz,go_sem,↓reduceIte,p1,p2,p3,hk2,BY C,c0]
   refine (fin o p4 (fun n h=>h) p6 (fun h=>by rw [c0] at h;cases h)).mono ?_
   rintro _ ⟨o3,rfl,hv⟩
   simp only [Dz,go_sem,↓reduceIte,p1,p2,p3,hk2]
   refine hv.mono ?_
   rintro _ ⟨o4,rfl,hv⟩
   simp only [Dz,go_sem,↓reduceIte,p1,p2,p3,hk2]
   exact ⟨o4,rfl,hv⟩
  | true =>
   cases c1:o.any fun y=>decide (reg=y) with
   | true =>
    have hreg2:reg∈o:=by
     rw [List.any_eq_true] at c1
     obtain ⟨x,hx,e⟩:=c1
     rw [of_decide_eq_true e];exact hx
    simp only [Dz,go_sem,↓reduceIte,p1,p2,p3,hk2,BY C,c0,CE C o reg (by omega),c1]
    refine (fin o p4 (fun n h=>h) p6 (fun h=>hreg2)).mono ?_
    rintro _ ⟨o3,rfl,hv⟩
    simp only [Dz,go_sem,↓reduceIte,p1,p2,p3,hk2]
    refine hv.mono ?_
    rintro _ ⟨o4,rfl,hv⟩
    simp only [Dz,go_sem,↓reduceIte,p1,p2,p3,hk2]
    exact ⟨o4,rfl,hv⟩
   | false =>
    have hreg2:reg∉o:=by
     intro h
     rw [List.any_eq_false] at c1
     simpa using c1 reg h
    have nd:(o++[reg]).Nodup:=List.nodup_append.2 ⟨p4,by simp,by intro a ha b hb;simp at hb;subst hb;intro e;subst e;exact hreg2 ha⟩
    have sub:∀ n∈o++[reg],n∈N4:=fun n hn=>by
     rcases List.mem_append.1 hn with h | h
     ·exact p6 n h
     ·rw [List.mem_singleton.1 h];exact hreg c0
    have f2:=fin (o++[reg]) nd (fun n h=>List.mem_append_left _ h) sub (fun _=>by simp)
    have b0:o.length * 16≤A6:=by unfold A6;omega
    have b1:(o.length+1) * 16≤A6:=by unfold A6;omega
    simp only [Dz,go_sem,↓reduceIte,p1,p2,p3,hk2,BY C,c0,CE C o reg (by omega),c1,b0,b1]
    refine f2.mono ?_
    rintro _ ⟨o3,rfl,hv⟩
    simp only [Dz,go_sem,↓reduceIte,p1,p2,p3,hk2]
    refine hv.mono ?_
    rintro _ ⟨o4,rfl,hv⟩
    simp only [Dz,go_sem,↓reduceIte,p1,p2,p3,hk2]
    exact ⟨o4,rfl,hv⟩
 ·rintro F h ⟨rfl,p2,o,p3,p4,p5,p6,p7⟩
  simp only [Dz,go_sem,↓reduceIte,p3]
  refine ⟨o,rfl,p4,p5,p6,fun r hr=>?_⟩
  obtain ⟨j,hj,rfl⟩:=List.mem_iff_getElem.1 hr
  exact p7 j hj hj
 all_goals simp only [go_sem,↓reduceIte]
 exact ⟨out,rfl,hn,fun n h=>h,h4,fun j hj hjk=>by omega⟩
theorem XY {locs:List ByteArray} {r:List VV} (h:GS locs r):∃ kind mode reg loc args th el,r=rS kind mode reg loc args th el∧(GG kind=true→reg∈N4)∧A4W V th∧A4W V el:=by
 induction h with
 | mk kind mode reg loc args th el h1 h2 h3 h4 h5 h6 h7 ih1 ih2=>exact ⟨kind,mode,reg,loc,args,th,el,rfl,h7.rn,Hq C th h3 ih1,Hq C el h4 ih2⟩
theorem XX {locs:List ByteArray} (l:List (List VV)) (hl:l.length≤1000) (h:∀ s∈l,GS locs s):VP V A31 [.ls l] fun x=>∃ o:List ByteArray,x=lS o∧o.Nodup∧(∀ n∈o,n∈N4)∧∀ r∈l,RI o r:=by
 rw [Ab C.c_z98.1 C.c_z98.2]
 simp only [A6n,Xr,go_sem,↓reduceIte]
 refine (Hq C l hl (fun s hs=>XY C (h s hs)) [] (by simp) (by simp)).mono ?_
 rintro _ ⟨o,rfl,h1,h2,h3,h4⟩
 simp only [Xr,go_sem,↓reduceIte]
 exact ⟨o,rfl,h1,h3,h4⟩
end
end Go.AM
