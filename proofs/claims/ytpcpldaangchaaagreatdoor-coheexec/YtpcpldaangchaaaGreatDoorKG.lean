/-
  Own work, part of the proof of CoheExec: executions, and the law itself.
-/
import Derived.Test.YtpcpldaangchaaaGreatDoorKF
set_option maxRecDepth 4000
set_option linter.unusedVariables false
set_option linter.unusedSimpArgs false
set_option linter.unusedSectionVars false
set_option linter.unnecessarySimpa false
namespace Go.AM
open Go Go.Proofs
def L7 (mo:List (List Int)):Nat→VH
 | 0=>[]
 | k+1=>L7 mo k++[some (AN B3 1 ((mo.getD k []).map eI)),some ⟨NX,1,0,false,[[.sl (i7 (2 * k)) (mo.getD k []).length 0 (mo.getD k []).length]]⟩]
theorem E6 (mo:List (List Int)):∀ k,(L7 mo k).length=2 * k
 | 0=>rfl
 | k+1=>by rw [L7,List.length_append,E6 mo k];simp;omega
def SP (mo:List (List Int)) (k:Nat):List (List VV):=(List.range k).map fun i=>[.sl (i7 (2 * i)) (mo.getD i []).length 0 (mo.getD i []).length]
theorem A3r (mo:List (List Int)) (k:Nat):(SP mo k).length=k:=by simp [SP]
theorem A8p (mo:List (List Int)) (k:Nat):SP mo (k+1)=SP mo k++[[.sl (i7 (2 * k)) (mo.getD k []).length 0 (mo.getD k []).length]]:=by
 unfold SP
 rw [List.range_succ,List.map_append];rfl
theorem A3s (mo:List (List Int)) (k:Nat) (Y:VH):(L7 mo k++Y)[2 * k]? = Y[0]?∧(L7 mo k++Y)[2 * k+1]? = Y[1]?∧(L7 mo k++Y)[2 * k+1+1]? = Y[2]?:=by
 have:=E6 mo k
 refine ⟨?_,?_,?_⟩<;>rw [List.getElem?_append_right (by omega)]<;>congr 1<;>omega
theorem AaG (mo:List (List Int)) (k:Nat) (Y:VH) (z:Option VO):(L7 mo k++Y).set (2 * k) z=L7 mo k++Y.set 0 z∧(L7 mo k++Y).set (2 * k+1) z=L7 mo k++Y.set 1 z:=by
 have:=E6 mo k
 refine ⟨?_,?_⟩
 ·have e:=List.set_append_right (s:=(L7 mo k:List (Option VO))) (t:=Y) (2 * k) z (by omega)
  rw [this,Nat.sub_self] at e
  exact e
 ·have e:=List.set_append_right (s:=(L7 mo k:List (Option VO))) (t:=Y) (2 * k+1) z (by omega)
  rw [this,Nat.add_sub_cancel_left] at e
  exact e
theorem VT (mo:List (List Int)) {loc:Nat}:∀ {n:Nat},loc < n→∀ Y:VH,(L7 mo n++Y)[2 * loc]? = some (some (AN B3 1 ((mo.getD loc []).map eI)))
 | 0,h,_=>by omega
 | n+1,h,Y=>by
  rw [L7,List.append_assoc]
  by_cases c:loc=n
  ·subst c
   rw [(A3s mo loc _).1];rfl
  ·exact VT mo (by omega) _
theorem VU (mo:List (List Int)) {n loc i:Nat} (hl:loc < n) (hi:i < n) (z:Option VO) (Y:VH):((L7 mo n).set (2 * loc) z++Y)[2 * i]? = some (if i=loc then z else some (AN B3 1 ((mo.getD i []).map eI))):=by
 have hT:=E6 mo n
 rw [List.getElem?_append_left (by rw [List.length_set];omega),List.getElem?_set]
 by_cases c:i=loc
 ·subst c
  simp;omega
 ·rw [if_neg (by omega),if_neg c]
  have:=VT mo hi []
  rwa [List.append_nil] at this
theorem Ae6 (mo:List (List Int)) (n loc j:Nat) (z:Option VO) (Y:VH):((L7 mo n).set (2 * loc) z++Y)[2 * n+j]? = Y[j]?:=by
 have hT:=E6 mo n
 rw [List.getElem?_append_right (by rw [List.length_set];omega),List.length_set,hT]
 congr 1;omega
theorem Ae4 {mo:List (List Int)} {n loc:Nat} (h:loc < n):(SP mo n)[loc]? = some [.sl (i7 (2 * loc)) (mo.getD loc []).length 0 (mo.getD loc []).length]:=by simp [SP,h]
theorem Ae5 (mo:List (List Int)) (k j:Nat) (Y:VH):(L7 mo k++Y)[2 * k+j]? = Y[j]?:=by
 have:=E6 mo k
 rw [List.getElem?_append_right (by omega)]
 congr 1;omega
theorem Ae7 (mo:List (List Int)) (k j:Nat) (Y:VH) (z:Option VO):(L7 mo k++Y).set (2 * k+j) z=L7 mo k++Y.set j z:=by
 have hl:=E6 mo k
 have e:=List.set_append_right (s:=(L7 mo k:List (Option VO))) (t:=Y) (2 * k+j) z (by omega)
 rw [hl,Nat.add_sub_cancel_left] at e
 exact e
theorem AaF (mo:List (List Int)) {n loc:Nat} (h:loc < n) (Y:VH) (z:Option VO):(L7 mo n++Y).set (2 * loc) z=(L7 mo n).set (2 * loc) z++Y:=by
 have hl:=E6 mo n
 exact List.set_append_left (2 * loc) z (by omega)
theorem A8q (mo:List (List Int)) {n loc:Nat} (h:loc < n) (Y:VH) (z y:Option VO):((L7 mo n).set (2 * loc) y++Y).set (2 * loc) z=(L7 mo n).set (2 * loc) z++Y:=by
 have hl:=E6 mo n
 rw [List.set_append_left (2 * loc) z (by rw [List.length_set];omega),List.set_set]
def xpG (x0 x1:Option VO) (e:C4) (k:Nat):VH:=x0::x1::some ⟨L8,0,0,false,[[.nl,.nl,.nl]]⟩::some (cpO B3 1 (e.has.map eI))::some (cpO B3 1 (e.rf.map eI)) ::
 some ⟨L8,0,0,false,[[.sl 3 (cpV e.has.length) 0 e.has.length,.sl 4 (cpV e.rf.length) 0 e.rf.length,.sl 6 (SP e.mo k).length 0 (SP e.mo k).length]]⟩::some (AN NX 1 (SP e.mo k))::L7 e.mo k
def xpV (e:C4):List VV:=[.sl 3 (cpV e.has.length) 0 e.has.length,.sl 4 (cpV e.rf.length) 0 e.rf.length,.sl 6 (SP e.mo e.mo.length).length 0 (SP e.mo e.mo.length).length]
section
variable {V:Al} (C:AA V)
include C
set_option maxHeartbeats 16000000 in
theorem Xs (s:Am) (hs:Wg s) (h1:∀ l∈s.mo,∀ c∈l,∃ w:Int,c=[w]) (x0 x1:Option VO) {Q:VV→VH→Prop}:LT V A0E [QZ s] [x0,x1] Q ↔
  Q (.ag (xpV (Cj s))) (x0::x1::some ⟨L8,0,0,false,[xpV (Cj s)]⟩::(xpG x0 x1 (Cj s) s.mo.length).drop 3):=by
 refine Mw ?_
 rw [Gd C.h_z8]
 have g1:=hs.has
 have g2:=hs.jf
 have g3:=hs.mo
 have b1:s.has.length * 8≤A6:=by unfold A6;omega
 have b2:s.jf.length * 8≤A6:=by unfold A6;omega
 have eh:(Cj s).has=s.has:=rfl
 have er:(Cj s).rf=s.jf:=rfl
 have em:(Cj s).mo=s.mo.map fun l=>l.flatten:=rfl
 have eml:(s.mo.map fun l=>l.flatten).length=s.mo.length:=List.length_map ..
 obtain ⟨X,hX⟩:∃ X,X=Cj s:=⟨_,rfl⟩
 rw [← hX] at eh er em ⊢
 obtain ⟨m,hm⟩:∃ m,m=s.mo.map fun l=>l.flatten:=⟨_,rfl⟩
 rw [← hm] at em eml
 simp only [A6b,ER,go_sem,↓reduceIte,b1,b2]
 unfold VL
 rw [A0]
 refine SX (M:=Nat) (I:=fun k F h=>k≤s.mo.length∧A3.tmp F 1 = .fp (eSh s) 0∧A3.tmp F 2 = .p 2 0 0 0∧A3.tmp F 3 = .p 5 0 0 0∧A3.tmp F 4 = .i .i64 k∧h=xpG x0 x1 X k) (μ:=fun k=>s.mo.length - k) ?_ 0 _ _ ⟨Nat.zero_le _,?_,?_,?_,?_,?_⟩
 ·rintro k F h ⟨hkl,p1,p2,p3,p4,rfl⟩
  by_cases c:k < s.mo.length
  ·have hmk:=hs.mi' k
   have hw:IntKind.i64.wrap ((k:Int)+1)=((k+1:Nat):Int):=by rw [AG (by omega) (by omega)];omega
   have hone:=h1 _ (Aj (d:=[]) c)
   have hmg:m.getD k []=(s.mo.getD k []).flatten:=by
    rw [hm,List.getD_eq_getElem?_getD,List.getElem?_map,List.getD_eq_getElem?_getD,List.getElem?_eq_getElem c];rfl
   obtain ⟨M,hM⟩:∃ M,M=s.mo.getD k []:=⟨_,rfl⟩
   have gL:=Dk c
   rw [← hM] at gL hmk hone hmg
   simp only [A6z,ER,go_sem,↓reduceIte,p1,p2,p3,p4,c,gL,A0,xpG,eh,er,em]
   have hT:=E6 m k
   have hg:=fun Y=>A3s m k Y
   have hst:=fun Y z=>AaG m k Y z
   refine A8 (by decide) M.length (by omega) (I:=fun j F h=>A3.tmp F 4 = .i .i64 k∧A3.tmp F 1 = .fp (eSh s) 0∧A3.tmp F 2 = .p 2 0 0 0∧A3.tmp F 3 = .p 5 0 0 0∧∃ K,K=(M.take j).flatten∧K.length=j∧A3.tmp F 5 = .sl (i7 (2 * k)) K.length 0 K.length∧h=xpG x0 x1 X k++[some (AN B3 1 (K.map eI))]) ?_ ?_ ?_ 0 _ _ (Nat.zero_le _) ?_ ?_
   ·rintro j F h hj q6 ⟨q4,q1,q2,q3,K,hK,hKl,q5,rfl⟩
    simp only [ER,go_sem,↓reduceIte,q6,q4,q1,q2,q3,q5,gL,c]
    exact ⟨K,hK,hKl,rfl,rfl⟩
   ·rintro j F h hj q6 ⟨q4,q1,q2,q3,K,hK,hKl,q5,rfl⟩
    obtain ⟨w,hw⟩:=hone _ (Aj (d:=[]) hj)
    have gI:=Gm hj
    rw [hw] at gI
    have hKn:(M.take (j+1)).flatten=K++[w]:=by
     rw [List.take_succ_eq_append_getElem hj,List.flatten_append,← hK]
     rw [List.getD_eq_getElem?_getD,List.getElem?_eq_getElem hj] at hw
     rw [show M[j]=[w] from hw];simp
    have b3:(K.length+1) * 8≤A6:=by unfold A6;omega
    simp only [ER,go_sem,↓reduceIte,q6,q4,q1,q2,q3,q5,gL,c,gI,hj,b3,xpG,eh,er,em,QQ,A0,List.length_append,List.length_map,List.map_cons,List.map_nil,hT,(hg _).1,(hg _).2.1,(hg _).2.2,(hst _ _).1,(hst _ _).2]
    exact ⟨K++[w],hKn.symm,by simp [hKl],by simp,by rw [List.take_of_length_le (by rw [List.length_append,hT];exact Nat.le_refl _)]⟩
   ·rintro F h ⟨q4,q1,q2,q3,K,hK,hKl,q5,rfl⟩
    rw [List.take_length] at hK
    rw [← hmg] at hK
    subst hK
    have hr:=A3r m k
    have b4:((SP m k).length+1) * 24≤A6:=by unfold A6;omega
    simp only [ER,go_sem,↓reduceIte,q4,q1,q2,q3,q5,b4,xpG,eh,er,em,List.length_append,List.length_map,hT,(hg _).1,(hg _).2.1,(hg _).2.2,(hst _ _).1,(hst _ _).2,hw]
    refine ⟨?_,k+1,by omega,by omega,rfl,?_⟩
    ·rintro (h | h)
     ·have:=congrArg (fun o=>o.rows.length) h
      simp only [RJ,List.length_append] at this
      simp at this
     ·rw [List.all_append,Bool.and_eq_true] at h
      have:=h.2
      simp [Cx,bel] at this
    ·rw [A8p,L7,List.length_append]
     rfl
   ·simp only [ER,go_sem,↓reduceIte]
   ·simp only [ER,go_sem,↓reduceIte,p4,p1,p2,p3,xpG,eh,er,em,hT]
    exact ⟨[],rfl,rfl,rfl,rfl⟩
  ·have e:k=s.mo.length:=by omega
   subst e
   simp only [A6z,ER,go_sem,↓reduceIte,p1,p2,p3,p4,Nat.lt_irrefl,xpG,xpV,eh,er,em,eml]
 ·simp only [ER,go_sem,↓reduceIte]
 ·simp only [ER,go_sem,↓reduceIte]
 ·simp only [ER,go_sem,↓reduceIte]
 ·simp only [ER,go_sem,↓reduceIte]
 ·simp only [ER,go_sem,↓reduceIte,xpG,eh,er,em]
  rfl
end
def Sh (e:C4) (loc w:Int):Int:=if loc < 0∨(e.mo.length:Int)≤loc then -1 else DD (e.mo.getD loc.toNat []) w
def RD (t:A4) (e:C4) (i:Nat):Int:=if (t.at (e.has.getD i 0).toNat).kind=3 then Sh e (t.at (e.has.getD i 0).toNat).loc (e.has.getD i 0) else if (t.at (e.has.getD i 0).toNat).kind=2 then Sh e (t.at (e.has.getD i 0).toNat).loc (e.rf.getD i 0) else 0
def ET (t:A4) (e:C4) (loc i:Nat):Bool:=B2 e.has ((e.mo.getD loc []).getD i 0) && CH t loc ((e.mo.getD loc []).getD i 0) && decide (DD (e.mo.getD loc []) ((e.mo.getD loc []).getD i 0)=i)
def EM (e:C4):Nat→Nat
 | 0=>0
 | k+1=>EM e k+(e.mo.getD k []).length
def HU (t:A4) (has:List Int):Nat→Nat
 | 0=>0
 | k+1=>HU t has k+(if (t.at (has.getD k 0).toNat).kind=3 then 1 else 0)
def Kv (t:A4) (e:C4):Bool:=BR t e.has e.rf && decide (e.mo.length=t.locs.length) && ((List.range e.mo.length).all fun loc=>(List.range (e.mo.getD loc []).length).all (ET t e loc)) && decide (EM e e.mo.length=HU t e.has e.has.length)
def MI (t:A4) (e:C4) (i k:Nat):Bool:=!X6 t e.has e.rf (e.has.getD i 0) (e.has.getD k 0) || (!decide (i=k) && CK (t.at (e.has.getD i 0).toNat) (t.at (e.has.getD k 0).toNat) (RD t e i) (RD t e k))
def A1K (t:A4) (e:C4):Bool:=Kv t e && (List.range e.has.length).all fun i=>(List.range e.has.length).all (MI t e i)
theorem VB {e:C4} (h:VX e):∀ k,EM e k≤1000 * k
 | 0=>Nat.le_refl _
 | k+1=>by have:=VB h k;have:=h.mi' k;rw [EM];omega
theorem A1g {t:A4} {has:List Int}:∀ k,HU t has k≤k
 | 0=>Nat.le_refl _
 | k+1=>by have:=A1g (t:=t) (has:=has) k;rw [HU];split<;>omega
section
variable {V:Al} (C:AA V) {Q:VV→Prop}
include C
set_option maxHeartbeats 4000000 in
theorem Vn (e:C4) (he:VX e) (loc w:Int):VP V A2L [vEx e,.i .i64 loc,.i .i64 w] Q↔Q (.i .i64 (Sh e loc w)):=by
 refine Ae ?_
 rw [Ab C.c_z77.1 C.c_z77.2]
 have g3:=he.mo
 unfold Sh
 cases c1:decide (loc < 0) with
 | true =>
  rw [if_pos (.inl (of_decide_eq_true c1))]
  simp only [WY,Sf,go_sem,↓reduceIte,c1]
 | false =>
 cases c2:decide ((e.mo.length:Int)≤loc) with
 | true =>
  rw [if_pos (.inr (of_decide_eq_true c2))]
  simp only [WY,Sf,go_sem,↓reduceIte,c1,c2]
 | false =>
  have c1':=of_decide_eq_false c1
  have c2':=of_decide_eq_false c2
  obtain ⟨k,rfl⟩:=Int.eq_ofNat_of_zero_le (show 0≤loc by omega)
  have hk:k < e.mo.length:=by omega
  have gL:=Gm hk
  have hmi:=he.mi' k
  have c2n:decide (e.mo.length≤k)=false:=decide_eq_false (by omega)
  rw [if_neg (by omega),Int.toNat_natCast]
  simp only [WY,Sf,go_sem,↓reduceIte,c1,c2,c2n,hk,gL,Ac C (e.mo.getD k []) (by omega)]
set_option maxHeartbeats 4000000 in
theorem Mj (t:A4) (e:C4) (he:VX e) (hn:Dh t e.has) (hl:e.has.length=e.rf.length) {i:Nat} (hi:i < e.has.length):VP V A2m [vT t,vEx e,.i .i64 i] Q↔Q (.i .i64 (RD t e i)):=by
 refine Ae ?_
 rw [Ab C.c_z36.1 C.c_z36.2]
 have g1:=he.has
 have hir:i < e.rf.length:=by omega
 have gI:=Av hi
 have gR:=Av hir
 obtain ⟨n,hne,hnl⟩:=A9 (hn _ (Aj (d:=0) hi))
 unfold RD
 rw [hne] at gI ⊢
 rw [Int.toNat_natCast]
 have hM:=fun (loc w:Int) (Q:VV→Prop)=>Vn C e he loc w (Q:=Q)
 cases c3:decide ((t.at n).kind=3) with
 | true =>
  rw [if_pos (of_decide_eq_true c3)]
  simp only [WT,S8,go_sem,↓reduceIte,hi,hir,gI,gR,hnl,A5 hnl,c3,hM,A0]
 | false =>
 rw [if_neg (of_decide_eq_false c3)]
 cases c2:decide ((t.at n).kind=2) with
 | true =>
  rw [if_pos (of_decide_eq_true c2)]
  simp only [WT,S8,go_sem,↓reduceIte,hi,hir,gI,gR,hnl,A5 hnl,c3,c2,hM,A0]
 | false =>
  rw [if_neg (of_decide_eq_false c2)]
  simp only [WT,S8,go_sem,↓reduceIte,hi,hir,gI,gR,hnl,A5 hnl,c3,c2,hM,A0]
set_option maxHeartbeats 16000000 in
theorem Nd (t:A4) (ht:Aa t) (e:C4) (he:VX e):VP V A2k [vT t,vEx e] Q↔Q (.b (Kv t e)):=by
 refine Ae ?_
 rw [Ab C.c_z34.1 C.c_z34.2]
 have g1:=he.has
 have g3:=he.mo
 have hfm:=fun (Q:VV→Prop)=>Ji C t ht e.has e.rf he.has he.rf (Q:=Q)
 unfold Kv
 cases hf:BR t e.has e.rf with
 | false=>simp only [WR,Cq,go_sem,↓reduceIte,hfm,hf,Bool.false_and]
 | true =>
 have hF:=Cy hf
 have ci:decide ((e.mo.length:Int)=(t.locs.length:Int))=decide (e.mo.length=t.locs.length):=decide_eq_decide.2 (by omega)
 cases c0:decide (e.mo.length=t.locs.length) with
 | false=>simp only [WR,Cq,go_sem,↓reduceIte,hfm,hf,ci,c0,Bool.true_and,Bool.false_and]
 | true =>
 rw [Bool.true_and,Bool.true_and]
 simp only [WR,Cq,go_sem,↓reduceIte,hfm,hf,ci,c0]
 have hall:∀ {k i:Nat},k < e.mo.length→i < (e.mo.getD k []).length→ET t e k i=false→(((List.range e.mo.length).all fun loc=>(List.range (e.mo.getD loc []).length).all (ET t e loc)) && decide (EM e e.mo.length=HU t e.has e.has.length))=false:=fun hk hi h=>by
  rw [AR hk (AR hi h),Bool.false_and]
 refine A8 (by decide) e.mo.length (by omega) (I:=fun k F h=>A3.tmp F 2 = .fp (eT t) 0∧A3.tmp F 3 = .fp (eEx e) 0∧A3.tmp F 5 = .i .i64 (EM e k:Nat)∧h=[]∧∀ j,j < k→(List.range (e.mo.getD j []).length).all (ET t e j)=true) ?_ ?_ ?_ 0 _ _ (Nat.zero_le _) ?_ ?_
 ·rintro k F h hk p6 ⟨p2,p3,p5,rfl,pr⟩
  simp only [Cq,go_sem,↓reduceIte,p6,p2,p3,p5]
  exact pr
 ·rintro k F h hk p6 ⟨p2,p3,p5,rfl,pr⟩
  have gL:=Gm hk
  have hmi:=he.mi' k
  have hsk:=VB he k
  obtain ⟨M,hM⟩:∃ M,M=e.mo.getD k []:=⟨_,rfl⟩
  have hall':=fun {i:Nat}=>hall (i:=i) hk
  have hsum:EM e (k+1)=EM e k+M.length:=by rw [EM,hM]
  have hok:∀ i,ET t e k i=(B2 e.has (M.getD i 0) && CH t k (M.getD i 0) && decide (DD M (M.getD i 0)=i)):=fun i=>by rw [ET,hM]
  have hnew:(∀ i,i < M.length→ET t e k i=true)→∀ j,j < k+1→(List.range (e.mo.getD j []).length).all (ET t e j)=true:=fun h j hj=>by
   rcases Nat.lt_or_ge j k with c | c
   ·exact pr j c
   ·obtain rfl:j=k:=by omega
    rw [← hM];exact AO h
  rw [← hM] at gL hmi hall'
  simp only [Cq,go_sem,↓reduceIte,p6,p2,p3,p5,A0]
  refine A8 (by decide) M.length (by omega) (I:=fun i F h=>A3.tmp F 6 = .i .i64 k∧A3.tmp F 2 = .fp (eT t) 0∧A3.tmp F 3 = .fp (eEx e) 0∧A3.tmp F 5 = .i .i64 ((EM e k+i:Nat):Int)∧h=[]∧∀ j,j < i→ET t e k j=true) ?_ ?_ ?_ 0 _ _ (Nat.zero_le _) ?_ ?_
  ·rintro i F h hi q7 ⟨q6,q2,q3,q5,rfl,qr⟩
   simp only [Cq,go_sem,↓reduceIte,q7,q6,q2,q3,q5,gL,hk]
   exact qr
  ·rintro i F h hi q7 ⟨q6,q2,q3,q5,rfl,qr⟩
   have gI:=Av hi
   have hoki:=hok i
   have hbad:=fun h=>hall' hi h
   have hgo:ET t e k i=true→∀ j,j < i+1→ET t e k j=true:=fun h j hj=>by
    rcases Nat.lt_or_ge j i with c | c
    ·exact qr j c
    ·rw [show j=i by omega];exact h
   have w1:=C3 e.has (M.getD i 0)
   cases d1:B2 e.has (M.getD i 0) with
   | false =>
    rw [d1] at w1
    have hb:=hbad (by rw [hoki,d1];rfl)
    simp only [Cq,go_sem,↓reduceIte,q7,q6,q2,q3,q5,gL,hk,gI,hi,Ac C e.has (by omega),w1,Bool.not_false,hb,A0]
   | true =>
   rw [d1] at w1
   obtain ⟨n,hne,hnl⟩:=A9 (hF.node _ (A7.1 d1))
   rw [hne] at gI w1 hoki d1
   rw [d1,Bool.true_and] at hoki
   simp only [CH,Int.toNat_natCast] at hoki
   cases d2:decide ((t.at n).kind=3) with
   | false =>
    have hb:=hbad (by rw [hoki,d2];rfl)
    simp only [Cq,go_sem,↓reduceIte,q7,q6,q2,q3,q5,gL,hk,gI,hi,Ac C e.has (by omega),w1,Bool.not_true,hnl,A5 hnl,d2,hb,A0]
   | true =>
   cases d3:decide ((t.at n).loc=(k:Int)) with
   | false =>
    have hb:=hbad (by rw [hoki,d2,d3];rfl)
    simp only [Cq,go_sem,↓reduceIte,q7,q6,q2,q3,q5,gL,hk,gI,hi,Ac C e.has (by omega),w1,Bool.not_true,hnl,A5 hnl,d2,d3,hb,A0]
   | true =>
   cases d4:decide (DD M (n:Int)=(i:Int)) with
   | false =>
    have hb:=hbad (by rw [hoki,d2,d3,d4];rfl)
    simp only [Cq,go_sem,↓reduceIte,q7,q6,q2,q3,q5,gL,hk,gI,hi,Ac C e.has (by omega),Ac C M (by omega),w1,Bool.not_true,hnl,A5 hnl,d2,d3,d4,hb,A0]
   | true =>
    have hw:IntKind.i64.wrap (((EM e k+i:Nat):Int)+1)=((EM e k+(i+1):Nat):Int):=by rw [AG (by omega) (by omega)];omega
    simp only [Cq,go_sem,↓reduceIte,q7,q6,q2,q3,q5,gL,hk,gI,hi,Ac C e.has (by omega),Ac C M (by omega),w1,Bool.not_true,hnl,A5 hnl,d2,d3,d4,hw,A0]
    exact hgo (by rw [hoki,d2,d3,d4];rfl)
  ·rintro F h ⟨q6,q2,q3,q5,rfl,qr⟩
   simp only [Cq,go_sem,↓reduceIte,q6,q2,q3,q5,hsum]
   exact hnew qr
  ·simp only [Cq,go_sem,↓reduceIte]
  ·simp only [Cq,go_sem,↓reduceIte,p6,p2,p3,p5,Nat.add_zero]
   intro j hj;omega
 ·rintro F h ⟨p2,p3,p5,rfl,pr⟩
  have hsk:=VB he e.mo.length
  rw [AO pr,Bool.true_and]
  simp only [Cq,go_sem,↓reduceIte,p2,p3,p5]
  refine A8 (by decide) e.has.length (by omega) (I:=fun j F h=>A3.tmp F 2 = .fp (eT t) 0∧A3.tmp F 3 = .fp (eEx e) 0∧A3.tmp F 5 = .i .i64 ((EM e e.mo.length:Nat) - (HU t e.has j:Nat):Int)∧h=[]) ?_ ?_ ?_ 0 _ _ (Nat.zero_le _) ?_ ?_
  ·rintro j F h hj q9 ⟨q2,q3,q5,rfl⟩
   simp only [Cq,go_sem,↓reduceIte,q9,q2,q3,q5]
  ·rintro j F h hj q9 ⟨q2,q3,q5,rfl⟩
   have gI:=Av hj
   have hcl:=A1g (t:=t) (has:=e.has) j
   obtain ⟨n,hne,hnl⟩:=A9 (hF.node _ (Aj (d:=0) hj))
   have hc:HU t e.has (j+1)=HU t e.has j+(if (t.at n).kind=3 then 1 else 0):=by rw [HU,hne,Int.toNat_natCast]
   rw [hne] at gI
   cases d:decide ((t.at n).kind=3) with
   | false =>
    rw [if_neg (of_decide_eq_false d),Nat.add_zero] at hc
    simp only [Cq,go_sem,↓reduceIte,q9,q2,q3,q5,gI,hj,hnl,A5 hnl,d,hc,A0]
   | true =>
    rw [if_pos (of_decide_eq_true d)] at hc
    have hw:IntKind.i64.wrap ((EM e e.mo.length:Nat) - (HU t e.has j:Nat) - 1:Int)=((EM e e.mo.length:Nat) - (HU t e.has j+1:Nat):Int):=by rw [AG (by omega) (by omega)];omega
    simp only [Cq,go_sem,↓reduceIte,q9,q2,q3,q5,gI,hj,hnl,A5 hnl,d,hc,hw,A0]
  ·rintro F h ⟨q2,q3,q5,rfl⟩
   have hz:decide (((EM e e.mo.length:Nat):Int) - (HU t e.has e.has.length:Nat)=0)=decide (EM e e.mo.length=HU t e.has e.has.length):=decide_eq_decide.2 (by omega)
   simp only [Cq,go_sem,↓reduceIte,q2,q3,q5,hz]
  ·simp only [Cq,go_sem,↓reduceIte]
  ·simp only [Cq,go_sem,↓reduceIte,p2,p3,p5,HU]
   simp
 ·simp only [Cq,go_sem,↓reduceIte]
 ·simp only [Cq,go_sem,↓reduceIte,EM]
  intro j hj;omega
end
def PX (e:C4):Bool:=decide (e.has.length≤40) && decide (e.rf.length≤40) && decide (e.mo.length≤6) && (List.range e.mo.length).all fun i=>decide ((e.mo.getD i []).length≤40)
section
variable {V:Al} (C:AA V) {Q:VV→Prop}
include C
set_option maxHeartbeats 16000000 in
theorem Nf (t:A4) (ht:Aa t) (e:C4) (he:VX e):VP V A26 [vT t,vEx e] Q↔Q (.b (A1K t e)):=by
 refine Ae ?_
 rw [Ab C.c_z10.1 C.c_z10.2]
 have g1:=he.has
 have hfm:=fun (Q:VV→Prop)=>Nd C t ht e he (Q:=Q)
 unfold A1K
 cases hx:Kv t e with
 | false=>simp only [A1p,Eb,go_sem,↓reduceIte,hfm,hx,Bool.false_and]
 | true =>
 have hf:BR t e.has e.rf=true:=by
  simp only [Kv,Bool.and_eq_true] at hx
  exact hx.1.1.1
 have hF:=Cy hf
 have hn:=hF.node
 have h64:=ht.n64
 have hhb:=fun (Q:VV→Prop)=>A0K C t ht e.has e.rf he.has he.rf hf (Q:=Q)
 rw [hbF,if_pos hf] at hhb
 have hl:(Lk t e.has e.rf).length=t.nodes.length:=DZ h64 _
 have hpl:=fun {i:Nat} (hi:i < e.has.length) (Q:VV→Prop)=>Mj C t e he hn hF.len hi (Q:=Q)
 rw [Bool.true_and]
 simp only [A1p,Eb,go_sem,↓reduceIte,hfm,hx,hhb]
 refine A8 (by decide) e.has.length (by omega) (I:=fun i F h=>A3.tmp F 2 = .fp (eT t) 0∧A3.tmp F 3 = .fp (eEx e) 0∧A3.tmp F 5=lW (Lk t e.has e.rf)∧h=[]∧∀ j,j < i→(List.range e.has.length).all (MI t e j)=true) ?_ ?_ ?_ 0 _ _ (Nat.zero_le _) ?_ ?_
 ·rintro i F h hi p6 ⟨p2,p3,p5,rfl,pr⟩
  simp only [Eb,go_sem,↓reduceIte,p6,p2,p3,p5]
  exact pr
 ·rintro i F h hi p6 ⟨p2,p3,p5,rfl,pr⟩
  obtain ⟨a,ha1,ha⟩:=A9 (hn _ (Aj (d:=0) hi))
  simp only [Eb,go_sem,↓reduceIte,p6,p2,p3,p5,A0]
  refine A8 (by decide) e.has.length (by omega) (I:=fun k F h=>A3.tmp F 6 = .i .i64 i∧A3.tmp F 2 = .fp (eT t) 0∧A3.tmp F 3 = .fp (eEx e) 0∧A3.tmp F 5=lW (Lk t e.has e.rf)∧h=[]∧∀ j,j < k→MI t e i j=true) ?_ ?_ ?_ 0 _ _ (Nat.zero_le _) ?_ ?_
  ·rintro k F h hk q7 ⟨q6,q2,q3,q5,rfl,qr⟩
   simp only [Eb,go_sem,↓reduceIte,q7,q6,q2,q3,q5]
   exact qr
  ·rintro k F h hk q7 ⟨q6,q2,q3,q5,rfl,qr⟩
   obtain ⟨b,hb1,hb⟩:=A9 (hn _ (Aj (d:=0) hk))
   have hgo:MI t e i k=true→∀ j,j < k+1→MI t e i j=true:=fun h j hj=>by
    rcases Nat.lt_or_ge j k with c | c
    ·exact qr j c
    ·rw [show j=k by omega];exact h
   have bad:MI t e i k=false→((List.range e.has.length).all fun i=>(List.range e.has.length).all (MI t e i))=false:=fun h=>AR hi (AR hk h)
   have hga:MI t e i k=(!X6 t e.has e.rf a b || (!decide (i=k) && CK (t.at a) (t.at b) (RD t e i) (RD t e k))):=by rw [MI,ha1,hb1,Int.toNat_natCast,Int.toNat_natCast]
   have hAt:=fun (Q:VV→Prop)=>A4p C (Lk t e.has e.rf) (a:Int) (b:Int) (by omega) (Q:=Q)
   have hh:(decide ((0:Int)≤(a:Int)) && Bx ((Lk t e.has e.rf).getD (a:Int).toNat 0#64) (b:Int))=X6 t e.has e.rf a b:=by rw [X6,decide_eq_true (by omega)];rfl
   rw [hh] at hAt
   have hik:decide ((i:Int)=(k:Int))=decide (i=k):=decide_eq_decide.2 ⟨fun h=>by omega,fun h=>by omega⟩
   cases d2:X6 t e.has e.rf a b with
   | false =>
    simp only [Eb,go_sem,↓reduceIte,q7,q6,q2,q3,q5,Av hi,Av hk,hi,hk,ha1,hb1,hAt,d2,A0]
    exact hgo (by rw [hga,d2];rfl)
   | true =>
   cases d1:decide (i=k) with
   | true =>
    have e:=bad (by rw [hga,d2,d1];rfl)
    simp only [Eb,go_sem,↓reduceIte,q7,q6,q2,q3,q5,Av hi,Av hk,hi,hk,ha1,hb1,hAt,d2,hik,d1,A0,e]
   | false =>
   cases d3:CK (t.at a) (t.at b) (RD t e i) (RD t e k) with
   | true =>
    simp only [Eb,go_sem,↓reduceIte,q7,q6,q2,q3,q5,Av hi,Av hk,hi,hk,ha1,hb1,hAt,d2,hik,d1,A5 ha,A5 hb,ha,hb,hpl hi,hpl hk,Mi C,d3,A0]
    exact hgo (by rw [hga,d1,d3];simp)
   | false =>
    have e:=bad (by rw [hga,d2,d1,d3];rfl)
    simp only [Eb,go_sem,↓reduceIte,q7,q6,q2,q3,q5,Av hi,Av hk,hi,hk,ha1,hb1,hAt,d2,hik,d1,A5 ha,A5 hb,ha,hb,hpl hi,hpl hk,Mi C,d3,A0,e]
  ·rintro F h ⟨q6,q2,q3,q5,rfl,qr⟩
   simp only [Eb,go_sem,↓reduceIte,q6,q2,q3,q5]
   intro j hj
   rcases Nat.lt_or_ge j i with c | c
   ·exact pr j c
   ·rw [show j=i by omega];exact AO qr
  ·simp only [Eb,go_sem,↓reduceIte]
  ·simp only [Eb,go_sem,↓reduceIte,p6,p2,p3,p5]
   intro j hj;omega
 ·rintro F h ⟨p2,p3,p5,rfl,pr⟩
  have e:=AO pr
  simp only [Eb,go_sem,↓reduceIte,p2,p3,p5,e]
 ·simp only [Eb,go_sem,↓reduceIte]
 ·simp only [Eb,go_sem,↓reduceIte]
  intro j hj;omega
set_option maxHeartbeats 4000000 in
theorem MW (e:C4):VP V Aa5 [vEx e] Q↔Q (.b (PX e)):=by
 refine Ae ?_
 rw [Ab C.c_z6.1 C.c_z6.2]
 unfold PX
 by_cases c1:40 < e.has.length
 ·have d1:decide ((40:Int) < (e.has.length:Int))=true:=decide_eq_true (by omega)
  rw [decide_eq_false (show ¬ e.has.length≤40 by omega)]
  simp only [A3U,MV,go_sem,↓reduceIte,d1,Bool.false_and]
 by_cases c2:40 < e.rf.length
 ·have d1:decide ((40:Int) < (e.has.length:Int))=false:=decide_eq_false (by omega)
  have d2:decide ((40:Int) < (e.rf.length:Int))=true:=decide_eq_true (by omega)
  rw [decide_eq_false (show ¬ e.rf.length≤40 by omega)]
  simp only [A3U,MV,go_sem,↓reduceIte,d1,d2,Bool.false_and,Bool.and_false]
 by_cases c3:6 < e.mo.length
 ·have d1:decide ((40:Int) < (e.has.length:Int))=false:=decide_eq_false (by omega)
  have d2:decide ((40:Int) < (e.rf.length:Int))=false:=decide_eq_false (by omega)
  have d3:decide ((6:Int) < (e.mo.length:Int))=true:=decide_eq_true (by omega)
  rw [decide_eq_false (show ¬ e.mo.length≤6 by omega)]
  simp only [A3U,MV,go_sem,↓reduceIte,d1,d2,d3,Bool.false_and,Bool.and_false]
 have d1:decide ((40:Int) < (e.has.length:Int))=false:=decide_eq_false (by omega)
 have d2:decide ((40:Int) < (e.rf.length:Int))=false:=decide_eq_false (by omega)
 have d3:decide ((6:Int) < (e.mo.length:Int))=false:=decide_eq_false (by omega)
 rw [decide_eq_true (show e.has.length≤40 by omega),decide_eq_true (show e.rf.length≤40 by omega),decide_eq_true (show e.mo.length≤6 by omega),Bool.true_and,Bool.true_and,Bool.true_and]
 simp only [A3U,MV,go_sem,↓reduceIte,d1,d2,d3]
 refine A8 (by decide) e.mo.length (by omega) (I:=fun k F h=>A3.tmp F 1 = .fp (eEx e) 0∧h=[]∧∀ j,j < k→(e.mo.getD j []).length≤40) ?_ ?_ ?_ 0 _ _ (Nat.zero_le _) ?_ ?_
 ·rintro k F h hk p3 ⟨p1,rfl,pr⟩
  simp only [MV,go_sem,↓reduceIte,p3,p1]
  exact pr
 ·rintro k F h hk p3 ⟨p1,rfl,pr⟩
  have gL:=Gm hk
  by_cases c4:(e.mo.getD k []).length≤40
  ·have d4:decide ((40:Int) < ((e.mo.getD k []).length:Int))=false:=decide_eq_false (by omega)
   simp only [MV,go_sem,↓reduceIte,p3,p1,gL,hk,d4,A0]
   intro j hj
   rcases Nat.lt_or_ge j k with c | c
   ·exact pr j c
   ·rw [show j=k by omega];exact c4
  ·have d4:decide ((40:Int) < ((e.mo.getD k []).length:Int))=true:=decide_eq_true (by omega)
   have hb:=AR (p:=fun i=>decide ((e.mo.getD i []).length≤40)) hk (decide_eq_false c4)
   simp only [MV,go_sem,↓reduceIte,p3,p1,gL,hk,d4,hb,A0]
 ·rintro F h ⟨p1,rfl,pr⟩
  have hb:=AO (p:=fun i=>decide ((e.mo.getD i []).length≤40)) fun j hj=>decide_eq_true (pr j hj)
  simp only [MV,go_sem,↓reduceIte,p1,hb]
 ·simp only [MV,go_sem,↓reduceIte]
 ·simp only [MV,go_sem,↓reduceIte]
  intro j hj;omega
end
theorem A6D {e:C4} (h:PX e=true):VX e:=by
 simp only [PX,Bool.and_eq_true,decide_eq_true_eq,Ar] at h
 obtain ⟨⟨⟨h1,h2⟩,h3⟩,h4⟩:=h
 refine ⟨by omega,by omega,by omega,fun l hl=>?_⟩
 obtain ⟨i,hi,rfl⟩:=List.getElem_of_mem hl
 have:=h4 i hi
 rw [List.getD_eq_getElem?_getD,List.getElem?_eq_getElem hi] at this
 have:e.mo[i].length≤40:=this
 omega
def Rz (t:A4) (has:List Int):Nat→Nat
 | 0=>0
 | k+1=>Rz t has k+(has.filter (CH t k)).length
def ltW (t:A4) (k:Nat) (n:Int):Bool:=decide ((t.at n.toNat).kind=3) && decide (0≤(t.at n.toNat).loc) && decide ((t.at n.toNat).loc < k)
theorem A3i (t:A4) (has:List Int):∀ k,Rz t has k=(has.filter (ltW t k)).length
 | 0=>by
  rw [Rz,List.filter_eq_nil_iff.2]
  ·rfl
  ·intro a _
   simp only [ltW,Bool.and_eq_true,decide_eq_true_eq]
   omega
 | k+1=>by
  rw [Rz,A3i t has k]
  induction has with
  | nil=>rfl
  | cons x l ih =>
   simp only [List.filter_cons]
   have e:ltW t (k+1) x=(ltW t k x || CH t k x):=by
    rw [Bool.eq_iff_iff]
    simp only [ltW,CH,Bool.and_eq_true,Bool.or_eq_true,decide_eq_true_eq]
    omega
   have d:ltW t k x=true→CH t k x=false:=by
    intro h
    rw [Bool.eq_false_iff]
    intro h2
    simp only [ltW,CH,Bool.and_eq_true,decide_eq_true_eq] at h h2
    omega
   rw [e]
   cases h1:ltW t k x with
   | true =>
    rw [d h1,Bool.true_or,if_pos rfl,if_pos rfl,if_neg (by decide),List.length_cons,List.length_cons];omega
   | false =>
    cases h2:CH t k x with
    | true=>rw [Bool.false_or,if_pos rfl,if_pos rfl,if_neg (by decide),List.length_cons,List.length_cons];omega
    | false=>rw [Bool.false_or,if_neg (by decide),if_neg (by decide),if_neg (by decide)];exact ih
theorem A1f (t:A4) (has:List Int):∀ k,k≤has.length→HU t has k=((has.take k).filter fun n=>decide ((t.at n.toNat).kind=3)).length
 | 0,_=>rfl
 | k+1,h=>by
  have e:has.take (k+1)=has.take k++[has.getD k 0]:=by
   rw [List.take_succ_eq_append_getElem (show k < has.length by omega),List.getD_eq_getElem?_getD,List.getElem?_eq_getElem (show k < has.length by omega)];rfl
  rw [HU,A1f t has k (by omega),e,List.filter_append,List.length_append]
  by_cases c:(t.at (has.getD k 0).toNat).kind=3
  ·rw [if_pos c,List.filter_cons_of_pos (by simpa using c)];rfl
  ·rw [if_neg c,List.filter_cons_of_neg (by simpa using c)];rfl
section
variable {t:A4} (ht:Aa t) {e:C4} (hF:CF t e.has e.rf)
include ht hF
theorem Ae2:Rz t e.has t.locs.length=HU t e.has e.has.length:=by
 rw [A3i,A1f _ _ _ (Nat.le_refl _),List.take_length]
 congr 1
 apply List.filter_congr
 intro x hx
 obtain ⟨n,rfl,hn⟩:=A9 (hF.node x hx)
 rw [Bool.eq_iff_iff]
 simp only [ltW,Bool.and_eq_true,decide_eq_true_eq,Int.toNat_natCast]
 constructor
 ·intro h;exact h.1.1
 ·intro h
  have:=ht.wloc hn (.inr h)
  exact ⟨⟨h,this.1⟩,this.2⟩
theorem Abn (loc:Nat):(e.has.filter (CH t loc)).Nodup:=List.Nodup.sublist List.filter_sublist hF.nd
theorem A3n (loc:Nat):Dh t (e.has.filter (CH t loc)):=fun x hx=>hF.node x (List.mem_filter.1 hx).1
theorem Ae3 (loc:Nat):(BX (CD (e.has.filter (CH t loc)))).length=(e.has.filter (CH t loc)).length:=by
 have hm:=fun x=>Y9 ht.n64 (A3n ht hF loc) x
 have hS:=QP (CD (e.has.filter (CH t loc)))
 have a:=H9 _ _ hS fun x hx=>(hm x).1 hx
 have b:=H9 _ _ (Abn ht hF loc) fun x hx=>(hm x).2 hx
 rw [List.length_map] at a b
 omega
theorem XQ (loc:Nat):Gk t e loc=true↔(∀ x∈e.mo.getD loc [],x∈e.has.filter (CH t loc))∧(e.mo.getD loc []).Nodup∧(e.mo.getD loc []).length=(e.has.filter (CH t loc)).length:=by
 have hw:=A8j (t:=t) (has:=e.has) (loc:=loc) e.has.length (Nat.le_refl _)
 rw [List.take_length] at hw
 have hcnt:=Ae3 ht hF loc
 have hnd:=Abn ht hF loc
 have hno:=A3n ht hF loc
 rw [Gk,hw,Bool.and_eq_true,decide_eq_true_eq,decide_eq_true_eq,hcnt]
 obtain ⟨M,hM⟩:∃ M,M=e.mo.getD loc []:=⟨_,rfl⟩
 obtain ⟨W,hW⟩:∃ W,W=e.has.filter (CH t loc):=⟨_,rfl⟩
 rw [← hW] at hnd hno ⊢
 rw [← hM]
 constructor
 ·rintro ⟨h1,h2⟩
  have sub:∀ x∈W,x∈M:=fun x hx=>by
   obtain ⟨n,rfl,hn⟩:=A9 (hno x hx)
   have h64:=ht.n64
   have a:=KK W (x:=(n:Int)) (by omega) (by omega)
   have b:=KK M (x:=(n:Int)) (by omega) (by omega)
   rw [h2,a,A7.2 hx] at b
   exact A7.1 b.symm
  have nd:=Abb M W hnd sub (by omega)
  refine ⟨?_,nd,h1⟩
  intro x hx
  exact A0F hnd sub (by omega) x hx
 ·rintro ⟨h1,h2,h3⟩
  refine ⟨h3,?_⟩
  have sub:∀ x∈W,x∈M:=fun x hx=>A0F h2 h1 (by omega) x hx
  have a:=Me h1
  have b:=Me sub
  rw [BitVec.or_comm] at b
  exact b.symm.trans a
theorem XK {loc:Nat}:(∀ i,i < (e.mo.getD loc []).length→ET t e loc i=true)↔(∀ x∈e.mo.getD loc [],x∈e.has.filter (CH t loc))∧(e.mo.getD loc []).Nodup:=by
 obtain ⟨M,hM⟩:∃ M,M=e.mo.getD loc []:=⟨_,rfl⟩
 have hok:∀ i,ET t e loc i=(B2 e.has (M.getD i 0) && CH t loc (M.getD i 0) && decide (DD M (M.getD i 0)=i)):=fun i=>by rw [ET,hM]
 rw [← hM]
 simp only [hok,Bool.and_eq_true,decide_eq_true_eq,A7,List.mem_filter]
 constructor
 ·intro h
  refine ⟨fun x hx=>?_,?_⟩
  ·obtain ⟨i,hi,rfl⟩:=List.getElem_of_mem hx
   have:=(h i hi).1
   rw [List.getD_eq_getElem?_getD,List.getElem?_eq_getElem hi] at this
   exact this
  ·rw [List.nodup_iff_pairwise_ne,List.pairwise_iff_getElem]
   intro i j hi hj hij c
   have h1:=(h i hi).2
   have h2:=(h j hj).2
   rw [List.getD_eq_getElem?_getD,List.getElem?_eq_getElem hi,Option.getD_some] at h1
   rw [List.getD_eq_getElem?_getD,List.getElem?_eq_getElem hj,Option.getD_some] at h2
   rw [c] at h1
   omega
 ·rintro ⟨h1,h2⟩ i hi
  have hm:=Aj (d:=0) hi
  exact ⟨h1 _ hm,Pe h2 hi⟩
theorem A81 (h:∀ loc,loc < e.mo.length→(e.mo.getD loc []).length≤(e.has.filter (CH t loc)).length):∀ k,k≤e.mo.length→EM e k≤Rz t e.has k∧(EM e k=Rz t e.has k→∀ loc,loc < k→(e.mo.getD loc []).length=(e.has.filter (CH t loc)).length)
 | 0,_=>⟨Nat.le_refl _,fun _ loc hl=>by omega⟩
 | k+1,hk=>by
  obtain ⟨h1,h2⟩:=A81 h k (by omega)
  have:=h k (by omega)
  rw [EM,Rz]
  refine ⟨by omega,fun heq loc hl=>?_⟩
  rcases Nat.lt_or_ge loc k with c | c
  ·exact h2 (by omega) loc c
  ·obtain rfl:loc=k:=by omega
   omega
theorem A80 (h:∀ loc,loc < e.mo.length→(e.mo.getD loc []).length=(e.has.filter (CH t loc)).length):∀ k,k≤e.mo.length→EM e k=Rz t e.has k
 | 0,_=>rfl
 | k+1,hk=>by rw [EM,Rz,A80 h k (by omega),h k (by omega)]
theorem A5C:Te t e=true↔e.mo.length=t.locs.length∧(∀ loc,loc < e.mo.length→∀ i,i < (e.mo.getD loc []).length→ET t e loc i=true)∧EM e e.mo.length=HU t e.has e.has.length:=by
 rw [Te,Bool.and_eq_true,decide_eq_true_eq,Ar]
 have hall:=Ae2 ht hF
 constructor
 ·rintro ⟨h0,h1⟩
  have h1:=fun loc hl=>(XQ ht hF loc).1 (h1 loc hl)
  refine ⟨h0,fun loc hl=>(XK ht hF).2 ⟨(h1 loc hl).1,(h1 loc hl).2.1⟩,?_⟩
  rw [A80 ht hF (fun loc hl=>(h1 loc hl).2.2) _ (Nat.le_refl _),h0,hall]
 ·rintro ⟨h0,h1,h2⟩
  refine ⟨h0,fun loc hl=>?_⟩
  have h1:=fun loc hl=>(XK ht hF).1 (h1 loc hl)
  have hle:∀ loc,loc < e.mo.length→(e.mo.getD loc []).length≤(e.has.filter (CH t loc)).length:=fun loc hl=>H9 _ _ (h1 loc hl).2 (h1 loc hl).1
  have:=(A81 ht hF hle e.mo.length (Nat.le_refl _)).2 (by rw [h2,← hall,h0])
  exact (XQ ht hF loc).2 ⟨(h1 loc hl).1,(h1 loc hl).2,this loc hl⟩
theorem VW (hml:e.mo.length=t.locs.length) {i n:Nat} (hi:i < e.has.length) (hn:e.has.getD i 0=n):RD t e i=xPl t e n:=by
 obtain ⟨m,hm,hmn⟩:=A9 (hF.node _ (Aj (d:=0) hi))
 rw [hn] at hm
 have hm:n=m:=by omega
 subst hm
 have hid:=Pe hF.nd hi
 rw [hn] at hid
 have mo:∀ w,(t.at n).kind=2∨(t.at n).kind=3→Sh e (t.at n).loc w=DD (e.mo.getD (t.at n).loc.toNat []) w:=fun w hk=>by
  have:=ht.wloc hmn hk
  rw [Sh,if_neg (by omega)]
 rw [RD,xPl,hn,Int.toNat_natCast,hid,Int.toNat_natCast]
 by_cases c3:(t.at n).kind=3
 ·rw [if_pos c3,if_neg (by omega),if_neg (by omega),mo _ (.inr c3)]
 ·rw [if_neg c3]
  by_cases c2:(t.at n).kind=2
  ·rw [if_pos c2,if_neg (by omega),if_pos c2,mo _ (.inl c2)]
  ·rw [if_neg c2,if_pos ⟨c2,c3⟩]
theorem Acc (hml:e.mo.length=t.locs.length):(QM (Lk t e.has e.rf) && (Cd (Lk t e.has e.rf)).all fun x=>CK (t.at x.1.toNat) (t.at x.2.toNat) (xPl t e x.1) (xPl t e x.2))=true↔((List.range e.has.length).all fun i=>(List.range e.has.length).all (MI t e i))=true:=by
 have h64:=ht.n64
 have hl:(Lk t e.has e.rf).length=t.nodes.length:=DZ h64 _
 have hbat:∀ a b:Nat,a < t.nodes.length→(X6 t e.has e.rf a b=true↔KU (JX t e.has e.rf) t.nodes.length a b):=fun a b ha=>by
  rw [X6,AH,Int.toNat_natCast,Lk]
  exact GB h64 _ ha
 have hidx:∀ a:Nat,(a:Int)∈e.has→∃ i,i < e.has.length∧e.has.getD i 0=a:=fun a ha=>by
  obtain ⟨i,hi,h⟩:=List.getElem_of_mem ha
  exact ⟨i,hi,by rw [List.getD_eq_getElem?_getD,List.getElem?_eq_getElem hi];exact h⟩
 rw [Bool.and_eq_true,QM,Ar,Ar,List.all_eq_true]
 constructor
 ·rintro ⟨h1,h2⟩ i hi
  rw [Ar]
  intro k hk
  obtain ⟨a,ha1,ha⟩:=A9 (hF.node _ (Aj (d:=0) hi))
  obtain ⟨b,hb1,hb⟩:=A9 (hF.node _ (Aj (d:=0) hk))
  rw [MI,ha1,hb1,Int.toNat_natCast,Int.toNat_natCast,VW ht hF hml hi ha1,VW ht hF hml hk hb1]
  cases hh:X6 t e.has e.rf a b with
  | false=>rfl
  | true =>
   have hp:=(hbat a b ha).1 hh
   have:=h2 _ ((DI h64 _ _).2 ⟨a,b,ha,rfl,hp⟩)
   simp only [Int.toNat_natCast] at this
   rw [this,Bool.not_true,Bool.false_or,Bool.and_true]
   by_cases c:i=k
   ·exfalso
    subst c
    have hab:a=b:=by omega
    subst hab
    have hr:=h1 a (by omega)
    have hb:=(GB h64 _ ha).2 hp
    rw [AH] at hr
    change (!((Ed (AE t.nodes.length (JX t e.has e.rf))).getD a 0#64).getLsbD a)=true at hr
    rw [hb] at hr
    cases hr
   ·rw [decide_eq_false c];rfl
 ·intro h
  refine ⟨fun a ha=>?_,fun x hx=>?_⟩
  ·rw [hl] at ha
   cases c:Bx ((Lk t e.has e.rf).getD a 0#64) (a:Int) with
   | false=>rfl
   | true =>
    exfalso
    rw [AH] at c
    have hp:=(GB h64 _ ha).1 c
    obtain ⟨i,hi,ha1⟩:=hidx a (LH ht hF hp).1
    have:=Ar.1 (h i hi) i hi
    rw [MI,ha1,Int.toNat_natCast,(hbat a a ha).2 hp,decide_eq_true rfl] at this
    simp at this
  ·obtain ⟨a,b,ha,rfl,hp⟩:=(DI h64 _ _).1 hx
   obtain ⟨i,hi,ha1⟩:=hidx a (LH ht hF hp).1
   obtain ⟨k,hk,hb1⟩:=hidx b (LH ht hF hp).2
   have:=Ar.1 (h i hi) k hk
   rw [MI,ha1,hb1,Int.toNat_natCast,Int.toNat_natCast,(hbat a b ha).2 hp,VW ht hF hml hi ha1,VW ht hF hml hk hb1,Bool.not_true,Bool.false_or,Bool.and_eq_true] at this
   simp only [Int.toNat_natCast]
   exact this.2
end
theorem A96 {t:A4} (ht:Aa t) (e:C4):RS t e=A1K t e:=by
 rw [RS,A1K,isX,Kv]
 cases hf:BR t e.has e.rf with
 | false=>simp only [Bool.false_and]
 | true =>
  have hF:=Cy hf
  have hpl:=A5C ht hF
  simp only [Bool.true_and]
  have e1:Te t e=(decide (e.mo.length=t.locs.length) && ((List.range e.mo.length).all fun loc=>(List.range (e.mo.getD loc []).length).all (ET t e loc)) && decide (EM e e.mo.length=HU t e.has e.has.length)):=by
   rw [Bool.eq_iff_iff,hpl]
   simp only [Bool.and_eq_true,decide_eq_true_eq,Ar,and_assoc]
  rw [← e1,Bool.and_assoc]
  cases hp:Te t e with
  | false=>rfl
  | true =>
   rw [Bool.true_and,Bool.true_and,Bool.eq_iff_iff]
   exact Acc ht hF (hpl.1 hp).1
theorem Qg {α β:Type} {g:α→Option (α×List Nat)} {f h:β→α} {is:β→List Nat}:∀ (l:List β),(∀ i∈l,g (f i)=some (h i,is i))→B5 g (l.map f)=some (l.map h,l.flatMap is)
 | [],_=>rfl
 | x::l,hg=>by
  have e:=Qg l fun i hi=>hg i (by simp [hi])
  simp only [List.map_cons,B5,hg x (by simp),e,List.flatMap_cons]
def A9h (n:Nat):List Nat:=(List.range n).flatMap fun i=>[i7 (2 * i)]
theorem Aca {f d:Nat} (hf:f=d+4) (mo:List (List Int)) (a0 a1 a2 a3 a4 a5 a6:Option VO) (Y:VH) :
  B5 (fun row=>B5 (frz (a0::a1::a2::a3::a4::a5::a6::(L7 mo mo.length++Y)) f) row) (SP mo mo.length)=some (mo.map M2,A9h mo.length):=by
 subst hf
 have e:=Qg (g:=fun row=>B5 (frz (a0::a1::a2::a3::a4::a5::a6::(L7 mo mo.length++Y)) (d+4)) row)
  (f:=fun i=>[.sl (i7 (2 * i)) (mo.getD i []).length 0 (mo.getD i []).length]) (h:=fun i=>M2 (mo.getD i [])) (is:=fun i=>[i7 (2 * i)]) (List.range mo.length) (fun i hi=>by
   have hi:=List.mem_range.1 hi
   have h1:=fun Y=>VT mo hi Y
   simp only [Q9,go_sem,↓reduceIte,h1,List.length_map,↓reduceIte])
 rw [show SP mo mo.length=(List.range mo.length).map fun i=>[VV.sl (i7 (2 * i)) (mo.getD i []).length 0 (mo.getD i []).length] from rfl,e,A9h]
 congr 2
 apply List.ext_getElem
 ·simp
 ·intro i h1 h2
  have hi:i < mo.length:=by simpa using h1
  rw [List.getElem_map,List.getElem_map,List.getElem_range,List.getD_eq_getElem?_getD,List.getElem?_eq_getElem hi];rfl
theorem Acb {f d:Nat} (hf:f=d+4) {mo:List (List Int)} {loc:Nat} (hll:loc < mo.length) {L:List Int} {v:Nat} (hv:(mo.getD loc []).length=v) (hL:L.length=v) (a0 a1 a2 a3 a4 a5 a6:Option VO) (Y:VH) :
  B5 (fun row=>B5 (frz (a0::a1::a2::a3::a4::a5::a6::((L7 mo mo.length).set (2 * loc) (some ⟨B3,1,v,false,L.map eI⟩)++Y)) f) row) (SP mo mo.length)=some ((mo.set loc L).map M2,A9h mo.length):=by
 subst hf
 have e:=Qg (g:=fun row=>B5 (frz (a0::a1::a2::a3::a4::a5::a6::((L7 mo mo.length).set (2 * loc) (some ⟨B3,1,v,false,L.map eI⟩)++Y)) (d+4)) row)
  (f:=fun i=>[.sl (i7 (2 * i)) (mo.getD i []).length 0 (mo.getD i []).length]) (h:=fun i=>M2 ((mo.set loc L).getD i [])) (is:=fun i=>[i7 (2 * i)]) (List.range mo.length) (fun i hi=>by
   have hi:=List.mem_range.1 hi
   by_cases c:i=loc
   ·subst c
    have h1:=fun z=>VU mo hll hi z Y
    have h3:(mo.set i L).getD i []=L:=by rw [List.getD_eq_getElem?_getD,List.getElem?_set];simp [hll]
    rw [h3,hv]
    simp only [if_true] at h1
    simp only [Q9,go_sem,↓reduceIte,h1,hL,List.take_of_length_le (Nat.le_of_eq (show (L.map eI).length=v by rw [List.length_map];exact hL)),List.length_map,↓reduceIte]
   ·have h1:=fun z=>VU mo hll hi z Y
    have h3:(mo.set loc L).getD i []=mo.getD i []:=by rw [List.getD_eq_getElem?_getD,List.getD_eq_getElem?_getD,List.getElem?_set_ne (by omega)]
    rw [h3]
    simp only [c,if_false] at h1 ⊢
    simp only [Q9,go_sem,↓reduceIte,h1,List.length_map,↓reduceIte])
 rw [show SP mo mo.length=(List.range mo.length).map fun i=>[VV.sl (i7 (2 * i)) (mo.getD i []).length 0 (mo.getD i []).length] from rfl,e,A9h]
 congr 2
 apply List.ext_getElem
 ·simp
 ·intro i h1 h2
  have hi:i < (mo.set loc L).length:=by simpa using h1
  rw [List.getElem_map,List.getElem_map,List.getElem_range,List.getD_eq_getElem?_getD,List.getElem?_eq_getElem hi];rfl
theorem WI.ne {t:A4} (ht:Aa t) {s:Am} {mem:List Int} {k:Nat} (W:WI t s mem k):0 < s.has.length:=by
 obtain ⟨q,h1,_⟩:=ht.kinds
 obtain ⟨a,_,_,b,_⟩:=h1 0 (by have:=ht.r1;omega)
 have h64:=ht.n64
 have hi:=W.form.init
 have hb:(JZ t).getLsbD (q 0)=true:=by rw [JZ,AF];simp [a,b];omega
 have:(CD s.has).getLsbD (q 0)=true:=by rw [← hi,BitVec.getLsbD_or,hb];rfl
 have h2:=KK s.has (x:=((q 0:Nat):Int)) (by omega) (by omega)
 rw [AH,this] at h2
 exact List.length_pos_of_mem (A7.1 h2.symm)
section
variable {V:Al} (C:AA V)
include C
set_option maxRecDepth 8000 in
set_option maxHeartbeats 32000000 in
theorem law_CoheExec (hb:∀ Q:VV→Prop,VP V A4b [] Q↔Q (.b true)) (l m:List U8) (at_ from_ loc i k:Nat) (odd:C4) (hl:∀ x∈l,x.n < 256) (hm:∀ x∈m,x.n < 256)
  (h1:at_ < 256) (h2:from_ < 256) (h3:loc < 256) (h4:i < 256) (h5:k < 256) :
  VP V Aa1 [lU l,lU m,.i .u8 at_,.i .u8 from_,.i .u8 loc,.i .u8 i,.i .u8 k,vEx odd] fun x=>x = .b true:=by
 rw [Ab C.c_z0.1 C.c_z0.2]
 by_cases c1:(30:Int) < l.length
 ·simp only [Ra,Q2,go_sem,↓reduceIte,hb,c1]
 by_cases c2:(40:Int) < m.length
 ·simp only [Ra,Q2,go_sem,↓reduceIte,hb,c1,c2]
 have qL:=fun (Q:VV→Prop)=>MW C odd (Q:=Q)
 cases hlx:PX odd with
 | false=>simp only [Ra,Q2,go_sem,↓reduceIte,hb,c1,c2,qL,hlx]
 | true =>
 have hoz:=A6D hlx
 obtain ⟨_,⟨t,ok,rfl,ht⟩,qT⟩:=Di (U5 C l ⟨by omega,hl⟩)
 cases ok with
 | false=>simp only [Ra,Q2,go_sem,↓reduceIte,hb,c1,c2,qL,hlx,qT]
 | true =>
 have ht:=(ht rfl).1
 obtain ⟨_,⟨s,mem,kk,rfl,W⟩,qW⟩:=Di (Rh C t ht m ⟨by omega,hm⟩)
 have hs:=W.gr.sz ht (by have:=W.k64 ht;omega)
 have qE:=fun (x0 x1:Option VO) (Q:VV→VH→Prop)=>Xs C s hs (fun l hl c hc=>by
  obtain ⟨i,hi,rfl⟩:=List.getElem_of_mem hl
  have hd:s.mo[i]=s.mo.getD i []:=by rw [List.getD_eq_getElem?_getD,List.getElem?_eq_getElem hi];rfl
  rw [hd] at hc
  exact W.sing hi c hc) x0 x1 (Q:=Q)
 have hez:=Ag0 ht W
 have qX:=fun (e:C4) (he:VX e) (Q:VV→Prop)=>WE C t ht e he (Q:=Q)
 have qR:=fun (e:C4) (he:VX e) (Q:VV→Prop)=>Nf C t ht e he (Q:=Q)
 have eq:=A96 ht
 have hok:=AfY ht W
 have hml:s.mo.length=(Cj s).mo.length:=(List.length_map ..).symm
 have hne:=W.ne ht
 rw [show s.has=(Cj s).has from rfl] at hne
 have hposm:∀ r,r < (Cj s).mo.length→0 < ((Cj s).mo.getD r []).length:=fun r hr=>by
  rw [← hml] at hr
  have hh:=congrArg List.length (HF (W.sing hr))
  rw [List.length_map] at hh
  rw [A5D W hr,← hh]
  exact W.pos hr
 obtain ⟨E,hE⟩:∃ E,E=Cj s:=⟨_,rfl⟩
 rw [← hE] at hez hok hne hposm hml
 simp only [← hE,hml] at qE
 obtain ⟨A,R,M⟩:=E
 simp only at hne hposm
 have hT:=E6 M M.length
 have hr:=A3r M M.length
 have hg1:=hez.has
 have hg2:=hez.rf
 have hg3:=hez.mo
 simp only at hg1 hg2 hg3
 have htk:List.take M.length (SP M M.length)=SP M M.length:=List.take_of_length_le (by omega)
 have f0:=Aca (f:=6) (d:=2) rfl M
 have qX0:=fun (Q:VV→Prop)=>qX _ hez Q
 rw [hok] at qX0
 have qXo:=fun (Q:VV→Prop)=>qX odd hoz Q
 have qRo:=fun (Q:VV→Prop)=>qR odd hoz Q
 rw [← eq] at qRo
 have hbb:∀ b:Bool,(b == b)=true:=fun b=>by cases b<;>rfl
 have hj:=fun Y=>Ae5 M M.length 3 Y
 have hsj:=fun Y z=>Ae7 M M.length 3 Y z
 have hRA:R.length=A.length:=by
  have:=W.form.jl
  have e1:A=s.has:=congrArg C4.has hE
  have e2:R=s.jf:=congrArg C4.rf hE
  rw [e1,e2];exact this
 obtain ⟨q,hq⟩:∃ q,q=at_ % A.length:=⟨_,rfl⟩
 have hql:q < A.length:=by rw [hq];exact Nat.mod_lt _ hne
 have r1:=Ko (e:=none) (a:=at_) (l:=A.length) hne
 rw [← hq] at r1
 obtain ⟨p,hp⟩:∃ p,p=from_ % A.length:=⟨_,rfl⟩
 have hpl:p < A.length:=by rw [hp];exact Nat.mod_lt _ hne
 have r2:=Ko (e:=none) (a:=from_) (l:=A.length) hne
 rw [← hp] at r2
 have hqr:q < R.length:=by omega
 have gR:=Av hqr
 have gA:=Av hpl
 have v0:IntKind.i64.wrap (at_:Int)=at_:=AG (by omega) (by omega)
 have v1:IntKind.i64.wrap (from_:Int)=from_:=AG (by omega) (by omega)
 have v2:IntKind.i64.wrap (loc:Int)=loc:=AG (by omega) (by omega)
 have v3:IntKind.i64.wrap (i:Int)=i:=AG (by omega) (by omega)
 have v4:IntKind.i64.wrap (k:Int)=k:=AG (by omega) (by omega)
 obtain ⟨R',hR',hR'l⟩:∃ R',R' = (if decide (0≤R.getD q 0)=true then R.set q (A.getD p 0) else R)∧R'.length=A.length:=⟨_,rfl,by split<;>simp [hRA]⟩
 have htA:List.take A.length A=A:=List.take_length
 have htR:∀ x,List.take R.length (R.set q x)=R.set q x:=fun x=>List.take_of_length_le (by rw [List.length_set];exact Nat.le_refl _)
 cases cM:decide (0 < M.length) with
 | false =>
  have cMi:decide ((0:Int) < (M.length:Int))=false:=decide_eq_false (by have:=of_decide_eq_false cM;omega)
  have hez2:VX ⟨A,R',M⟩:=⟨hg1,by show R'.length≤1000;omega,hg3,hez.mi⟩
  have qX2:=fun (Q:VV→Prop)=>qX _ hez2 Q
  have qR2:=fun (Q:VV→Prop)=>qR _ hez2 Q
  rw [← eq] at qR2
  cases c3:decide (0≤R.getD q 0) with
  | true =>
   rw [c3,if_pos rfl] at hR'
   subst hR'
   simp only [Ra,Q2,go_sem,↓reduceIte,hb,c1,c2,qL,hlx,qT,qW,qE,xpV,xpG,List.drop_succ_cons,List.drop_zero,hT,hr,htk,f0,qX0,qXo,qRo,hj,hsj,r1,r2,gR,gA,hqr,hql,hpl,v0,v1,v2,v3,v4,c3,cM,cMi,Vy,qX2,qR2,List.length_map,List.length_set,htA,htR,hbb,A0]
  | false =>
   rw [c3,if_neg (by decide)] at hR'
   subst hR'
   simp only [Ra,Q2,go_sem,↓reduceIte,hb,c1,c2,qL,hlx,qT,qW,qE,xpV,xpG,List.drop_succ_cons,List.drop_zero,hT,hr,htk,f0,qX0,qXo,qRo,hj,hsj,r1,r2,gR,gA,hqr,hql,hpl,v0,v1,v2,v3,v4,c3,cM,cMi,Vy,qX2,qR2,List.length_map,List.length_set,htA,htR,hbb,A0]
   rw [hok];rfl
 | true =>
  have hM0:=of_decide_eq_true cM
  have cMi:decide ((0:Int) < (M.length:Int))=true:=decide_eq_true (by omega)
  obtain ⟨r,hrr⟩:∃ r,r=loc % M.length:=⟨_,rfl⟩
  have hrl:r < M.length:=by rw [hrr];exact Nat.mod_lt _ hM0
  have r3:=Ko (e:=none) (a:=loc) (l:=M.length) hM0
  rw [← hrr] at r3
  have hat:=Ae4 (mo:=M) hrl
  have hTa:=fun Y=>VT M hrl Y
  have hL0:=hposm r hrl
  have hLz:=hez.mi' r
  simp only at hLz
  obtain ⟨L,hL⟩:∃ L,M.getD r []=L:=⟨_,rfl⟩
  rw [hL] at hat hTa hL0 hLz
  have hLi:decide ((0:Int) < (L.length:Int))=true:=decide_eq_true (by omega)
  have hLn:decide (0 < L.length)=true:=decide_eq_true hL0
  obtain ⟨a,ha⟩:∃ a,a=i % L.length:=⟨_,rfl⟩
  obtain ⟨b,hbk⟩:∃ b,b=k % L.length:=⟨_,rfl⟩
  have hal:a < L.length:=by rw [ha];exact Nat.mod_lt _ hL0
  have hbl:b < L.length:=by rw [hbk];exact Nat.mod_lt _ hL0
  have r4:=Ko (e:=none) (a:=i) (l:=L.length) hL0
  have r5:=Ko (e:=none) (a:=k) (l:=L.length) hL0
  rw [← ha] at r4
  rw [← hbk] at r5
  have gi:=Av hal
  have gk:=Av hbl
  have hao:AN B3 1 (L.map eI) = ⟨B3,1,L.length,false,L.map eI⟩:=by
   unfold AN
   rw [if_neg (by rw [List.length_map];omega),List.length_map]
  have hix:=GU (ty:=NX) (e:=1) (rows:=SP M M.length) (by omega)
  have hsl:=fun Y z=>AaF M hrl Y z
  have hsl2:=fun Y z y=>A8q M hrl Y z y
  have hat2:∀ z Y,((L7 M M.length).set (2 * r) z++Y)[2 * r]? = some z:=fun z Y=>by rw [VU M hrl hrl z Y,if_pos rfl]
  have hj2:∀ z Y,((L7 M M.length).set (2 * r) z++Y)[2 * M.length+3]? = Y[3]?:=fun z Y=>Ae6 M M.length r 3 z Y
  have gk2:∀ x,(L.set a x)[b]? = some ((L.set a x).getD b 0):=fun x=>Av (by rw [List.length_set];exact hbl)
  have f1:=Acb (f:=6) (d:=2) rfl hrl (L:=Yc L 0 a b) (v:=L.length) (by rw [hL]) (SC L 0 a b)
  have hez2:VX ⟨A,R',M.set r (Yc L 0 a b)⟩:=⟨hg1,by show R'.length≤1000;omega,by show (M.set _ _).length≤1000;rw [List.length_set];exact hg3,fun x hx=>by
   rcases List.mem_or_eq_of_mem_set hx with h | rfl
   ·exact hez.mi x h
   ·rw [SC];exact hLz⟩
  have qX2:=fun (Q:VV→Prop)=>qX _ hez2 Q
  have qR2:=fun (Q:VV→Prop)=>qR _ hez2 Q
  rw [← eq] at qR2
  rw [Yc] at f1 qX2 qR2
  cases c3:decide (0≤R.getD q 0) with
  | true =>
   rw [c3,if_pos rfl] at hR'
   subst hR'
   simp only [Ra,Q2,go_sem,↓reduceIte,hb,c1,c2,qL,hlx,qT,qW,qE,xpV,xpG,List.drop_succ_cons,List.drop_zero,hT,hr,htk,f0,f1,qX0,qXo,qRo,hj,hsj,r1,r2,r3,r4,r5,gR,gA,hqr,hql,hpl,v0,v1,v2,v3,v4,c3,cM,cMi,hLi,hLn,hrl,hat,hTa,hal,hbl,gi,gk,gk2,hao,hix,hsl,hsl2,hat2,hj2,Vy,qX2,qR2,List.length_map,List.length_set,htA,htR,hbb,A0]
  | false =>
   rw [c3,if_neg (by decide)] at hR'
   subst hR'
   simp only [Ra,Q2,go_sem,↓reduceIte,hb,c1,c2,qL,hlx,qT,qW,qE,xpV,xpG,List.drop_succ_cons,List.drop_zero,hT,hr,htk,f0,f1,qX0,qXo,qRo,hj,hsj,r1,r2,r3,r4,r5,gR,gA,hqr,hql,hpl,v0,v1,v2,v3,v4,c3,cM,cMi,hLi,hLn,hrl,hat,hTa,hal,hbl,gi,gk,gk2,hao,hix,hsl,hsl2,hat2,hj2,Vy,qX2,qR2,List.length_map,List.length_set,htA,htR,hbb,A0]
end
end Go.AM
