/-
  Own work, part of the proof of the laws SeenLasts, SeenCalm, SeenConflict: what functions compute (fifth part).
-/
import Derived.Test.YthhlhddnndlhkaaGreatDoorKD
set_option maxRecDepth 4000
set_option linter.unusedVariables false
set_option linter.unusedSimpArgs false
set_option linter.unusedSectionVars false
set_option linter.unnecessarySimpa false
namespace Go.AM
open Go Go.Proofs
section
variable {V:Am} {m:Nat→Nat} {Q:Ex→A4→VH→Prop}
theorem UR {M:Type} (I:M→A4→VH→Prop) (μ:M→Nat) {c:A1}
  (k:∀ x F h,I x F h→Vc V m c F h (fun e F' h'=>match e with | .norm=>¬ MU h.length h h'∧∃ x',μ x' < μ x∧I x' F' h' | e=>Q e F' h')):∀ x F h,I x F h→Vc V m (.loop c) F h Q:=by
 have key:∀ j x F h,μ x≤j→I x F h→Vc V m (.loop c) F h Q:=by
  intro j
  induction j with
  | zero =>
   intro x F h hj hi
   rw [Qw]
   refine (k x F h hi).mono fun e F' h' hq=>?_
   cases e with
   | norm=>obtain ⟨_,x',h1,_⟩:=hq;omega
   | _=>exact hq
  | succ j ih =>
   intro x F h hj hi
   rw [Qw]
   refine (k x F h hi).mono fun e F' h' hq=>?_
   cases e with
   | norm =>
    obtain ⟨h0,x',h1,h2⟩:=hq
    unfold gcF gcH
    rw [if_neg h0,if_neg h0]
    exact ih x' _ _ (by omega) h2
   | _=>exact hq
 exact fun x F h hi=>key _ x F h (Nat.le_refl _) hi
end
abbrev i7 (n:Nat):Nat:=n+1+1+1+1+1+1+1
def K6 (mo:List (List (List Int))):Nat→VH
 | 0=>[]
 | k+1=>K6 mo k++[some (AL ER 1 ((mo.getD k []).map M2)),some ⟨Bw,1,0,false,[[.sl (i7 (2 * k)) (mo.getD k []).length 0 (mo.getD k []).length]]⟩]
theorem CX (mo:List (List (List Int))):∀ k,(K6 mo k).length=2 * k
 | 0=>rfl
 | k+1=>by rw [K6,List.length_append,CX mo k];simp;omega
def Ez (mo:List (List (List Int))) (k:Nat):List (List VV):=(List.range k).map fun i=>[.sl (i7 (2 * i)) (mo.getD i []).length 0 (mo.getD i []).length]
theorem UY (mo:List (List (List Int))) (k:Nat):(Ez mo k).length=k:=by simp [Ez]
theorem A8r (mo:List (List (List Int))) (k:Nat):Ez mo (k+1)=Ez mo k++[[.sl (i7 (2 * k)) (mo.getD k []).length 0 (mo.getD k []).length]]:=by
 unfold Ez
 rw [List.range_succ,List.map_append];rfl
theorem Qy (mo:List (List (List Int))) (k:Nat) (Y:VH):(K6 mo k++Y)[2 * k]? = Y[0]?∧(K6 mo k++Y)[2 * k+1]? = Y[1]?∧(K6 mo k++Y)[2 * k+1+1]? = Y[2]?:=by
 have:=CX mo k
 refine ⟨?_,?_,?_⟩<;>rw [List.getElem?_append_right (by omega)]<;>congr 1<;>omega
theorem A3T (mo:List (List (List Int))) (k:Nat) (Y:VH) (z:Option VO):(K6 mo k++Y).set (2 * k) z=K6 mo k++Y.set 0 z∧(K6 mo k++Y).set (2 * k+1) z=K6 mo k++Y.set 1 z:=by
 have:=CX mo k
 refine ⟨?_,?_⟩
 ·have e:=List.set_append_right (s:=(K6 mo k:List (Option VO))) (t:=Y) (2 * k) z (by omega)
  rw [this,Nat.sub_self] at e
  exact e
 ·have e:=List.set_append_right (s:=(K6 mo k:List (Option VO))) (t:=Y) (2 * k+1) z (by omega)
  rw [this,Nat.add_sub_cancel_left] at e
  exact e
theorem A8t (mo:List (List (List Int))) (k:Nat) (a b:Option VO):List.take (2 * k+1) (K6 mo k++[a,b])=K6 mo k++[a]:=by
 have e:(K6 mo k++[a,b])=(K6 mo k++[a])++[b]:=by simp
 rw [e]
 have hl:(K6 mo k++[a]).length=2 * k+1:=by rw [List.length_append,CX];rfl
 rw [← hl]
 exact List.take_left
def cpG (x0 x1:Option VO) (s:A5) (k:Nat):VH:=x0::x1::some ⟨Ab,0,0,false,[[.nl,.nl,.nl]]⟩::some (Ra AG 1 (s.has.map eI))::some (Ra AG 1 (s.jf.map eI)) ::
 some ⟨Ab,0,0,false,[[.sl 3 (Hl s.has.length) 0 s.has.length,.sl 4 (Hl s.jf.length) 0 s.jf.length,.sl 6 (Ez s.mo k).length 0 (Ez s.mo k).length]]⟩::some (AL Bw 1 (Ez s.mo k))::K6 s.mo k
section
variable {V:Am} (C:Au V)
include C
set_option maxHeartbeats 8000000 in
theorem XV (s:A5) (hs:Hq s) (x0 x1:Option VO) {Q:VV→VH→Prop}:LS V Qe [J6 s] [x0,x1] Q ↔
  Q (.ag [.sl 3 (Hl s.has.length) 0 s.has.length,.sl 4 (Hl s.jf.length) 0 s.jf.length,.sl 6 (Ez s.mo s.mo.length).length 0 (Ez s.mo s.mo.length).length])
   (x0::x1::some ⟨Ab,0,0,false,[[.sl 3 (Hl s.has.length) 0 s.has.length,.sl 4 (Hl s.jf.length) 0 s.jf.length,.sl 6 (Ez s.mo s.mo.length).length 0 (Ez s.mo s.mo.length).length]]⟩::(cpG x0 x1 s s.mo.length).drop 3):=by
 refine Mp ?_
 rw [Eu C.h_z66]
 have h1:=hs.has
 have h2:=hs.jf
 have h3:=hs.mo
 have b1:s.has.length * 8≤A7:=by unfold A7;omega
 have b2:s.jf.length * 8≤A7:=by unfold A7;omega
 simp only [U0,DV,go_sem,↓reduceIte,b1,b2]
 unfold VL
 rw [A0]
 refine UR (M:=Nat) (I:=fun k F h=>k≤s.mo.length∧A4.tmp F 1 = .fp (TU s) 0∧A4.tmp F 2 = .p 2 0 0 0∧A4.tmp F 3 = .p 5 0 0 0∧A4.tmp F 4 = .i .i64 k∧h=cpG x0 x1 s k) (μ:=fun k=>s.mo.length - k) ?_ 0 _ _ ⟨Nat.zero_le _,?_,?_,?_,?_,?_⟩
 ·rintro k F h ⟨hkl,p1,p2,p3,p4,rfl⟩
  by_cases c:k < s.mo.length
  ·have hm:=hs.mi' k
   have hw:IntKind.i64.wrap ((k:Int)+1)=((k+1:Nat):Int):=by rw [AC (by omega) (by omega)];omega
   simp only [A2y,DV,go_sem,↓reduceIte,p1,p2,p3,p4,c,Cv c,A0,cpG]
   have hT:=CX s.mo k
   have hg:=fun Y=>Qy s.mo k Y
   have hst:=fun Y z=>A3T s.mo k Y z
   refine Ai (by decide) (s.mo.getD k []).length (by omega) (I:=fun j F h=>A4.tmp F 4 = .i .i64 k∧A4.tmp F 1 = .fp (TU s) 0∧A4.tmp F 2 = .p 2 0 0 0∧A4.tmp F 3 = .p 5 0 0 0∧∃ K,K=(s.mo.getD k []).take j∧A4.tmp F 5 = .sl (i7 (2 * k)) K.length 0 K.length∧h=cpG x0 x1 s k++[some (AL ER 1 (K.map M2))]) ?_ ?_ ?_ 0 _ _ (Nat.zero_le _) ?_ ?_
   ·rintro j F h hj q6 ⟨q4,q1,q2,q3,K,hK,q5,rfl⟩
    simp only [DV,go_sem,↓reduceIte,q6,q4,q1,q2,q3,q5,Cv c]
    exact ⟨K,hK,rfl,rfl⟩
   ·rintro j F h hj q6 ⟨q4,q1,q2,q3,K,hK,q5,rfl⟩
    have htk:(s.mo.getD k []).take (j+1)=K++[(s.mo.getD k []).getD j []]:=by
     rw [List.take_succ_eq_append_getElem hj,hK,List.getD_eq_getElem?_getD (l:=s.mo.getD k []),List.getElem?_eq_getElem hj];rfl
    have hc:=hs.mc' k j
    have hl:K.length=j:=by rw [hK,List.length_take];omega
    have b3:((s.mo.getD k []).getD j []).length * 8≤A7:=by unfold A7;omega
    have b4:(K.length+1) * 24≤A7:=by unfold A7;omega
    simp only [DV,go_sem,↓reduceIte,q6,q4,q1,q2,q3,q5,Cv c,Hu hj,c,hj,b3,b4,cpG,Ab9,A0,List.length_append,List.length_map,hT,(hg _).1,(hg _).2.1,(hg _).2.2,(hst _ _).1,(hst _ _).2]
    exact ⟨K++[(s.mo.getD k []).getD j []],htk.symm,by simp,by rw [A8t]⟩
   ·rintro F h ⟨q4,q1,q2,q3,K,hK,q5,rfl⟩
    rw [List.take_length] at hK
    subst hK
    have hr:=UY s.mo k
    have b4:((Ez s.mo k).length+1) * 24≤A7:=by unfold A7;omega
    simp only [DV,go_sem,↓reduceIte,q4,q1,q2,q3,q5,b4,cpG,A5Y,List.length_append,List.length_map,hT,(hg _).1,(hg _).2.1,(hg _).2.2,(hst _ _).1,(hst _ _).2,hw]
    refine ⟨?_,k+1,by omega,by omega,rfl,?_⟩
    ·rintro (h | h)
     ·have:=congrArg (fun o=>o.rows.length) h
      simp only [TH,List.length_append] at this
      simp at this
     ·rw [List.all_append,Bool.and_eq_true] at h
      have:=h.2
      simp [CT,bel] at this
    ·rw [A8r,K6,List.length_append]
     rfl
   ·simp only [DV,go_sem,↓reduceIte]
   ·simp only [DV,go_sem,↓reduceIte,p4,p1,p2,p3,cpG,hT]
    exact ⟨[],rfl,rfl,rfl⟩
  ·have e:k=s.mo.length:=by omega
   subst e
   simp only [A2y,DV,go_sem,↓reduceIte,p1,p2,p3,p4,Nat.lt_irrefl,cpG]
 ·simp only [DV,go_sem,↓reduceIte]
 ·simp only [DV,go_sem,↓reduceIte]
 ·simp only [DV,go_sem,↓reduceIte]
 ·simp only [DV,go_sem,↓reduceIte]
 ·rfl
end
def moG (x0:Option VO) (s:A5):VH:=x0::some ⟨Ab,0,0,false,[[.nl,.nl,.nl]]⟩ ::
 some ⟨Ab,0,0,false,[[.sl 3 (Hl s.has.length) 0 s.has.length,.sl 4 (Hl s.jf.length) 0 s.jf.length,.sl 6 (Ez s.mo s.mo.length).length 0 (Ez s.mo s.mo.length).length]]⟩::some (Ra AG 1 (s.has.map eI))::some (Ra AG 1 (s.jf.map eI)) ::
 some ⟨Ab,0,0,false,[[.sl 3 (Hl s.has.length) 0 s.has.length,.sl 4 (Hl s.jf.length) 0 s.jf.length,.sl 6 (Ez s.mo s.mo.length).length 0 (Ez s.mo s.mo.length).length]]⟩::some (AL Bw 1 (Ez s.mo s.mo.length)) ::
 (K6 s.mo s.mo.length++[some ⟨Ab,0,0,false,[[.sl 3 (Hl s.has.length) 0 s.has.length,.sl 4 (Hl s.jf.length) 0 s.jf.length,.sl 6 (Ez s.mo s.mo.length).length 0 (Ez s.mo s.mo.length).length]]⟩])
abbrev moV (s S:A5) (v1 v2:Nat):VV:=.ag [.sl (i7 (2 * s.mo.length)+1) v1 0 S.has.length,.sl (i7 (2 * s.mo.length)+1+1) v2 0 S.jf.length,.sl 6 (Ez s.mo s.mo.length).length 0 (Ez s.mo s.mo.length).length]
abbrev Th (s S:A5) (v1 v2:Nat):List VV:=[.sl (i7 (2 * s.mo.length)+1) v1 0 S.has.length,.sl (i7 (2 * s.mo.length)+1+1) v2 0 S.jf.length,.sl 6 (Ez s.mo s.mo.length).length 0 (Ez s.mo s.mo.length).length]
def moE (x0:Option VO) (s S:A5) (v1 v2:Nat):VH:=x0::some ⟨Ab,0,0,false,[Th s S v1 v2]⟩ ::
 some ⟨Ab,0,0,false,[[.sl 3 (Hl s.has.length) 0 s.has.length,.sl 4 (Hl s.jf.length) 0 s.jf.length,.sl 6 (Ez s.mo s.mo.length).length 0 (Ez s.mo s.mo.length).length]]⟩::some (Ra AG 1 (s.has.map eI))::some (Ra AG 1 (s.jf.map eI)) ::
 some ⟨Ab,0,0,false,[[.sl 3 (Hl s.has.length) 0 s.has.length,.sl 4 (Hl s.jf.length) 0 s.jf.length,.sl 6 (Ez s.mo s.mo.length).length 0 (Ez s.mo s.mo.length).length]]⟩::some (AL Bw 1 (Ez s.mo s.mo.length)) ::
 (K6 s.mo s.mo.length++[some ⟨Ab,0,0,false,[Th s S v1 v2]⟩,some ⟨AG,1,v1,false,S.has.map eI⟩,some ⟨AG,1,v2,false,S.jf.map eI⟩])
theorem AdB (x0:Option VO) (s:A5):(moG x0 s).length=2 * s.mo.length+8:=by
 have hT:=CX s.mo s.mo.length
 simp [moG,hT]
section
variable {V:Am} (C:Au V)
include C
set_option maxHeartbeats 16000000 in
theorem XX (t:A2) (ht:A8 t) (s:A5) (hs:Hq s) {m:Nat} (hm:m < t.nodes.length) (kind w:Int) (hok:C4 t s m kind=true) (x0:Option VO):LS V H5 [vT t,J6 s,.i .i64 m,.i .i64 kind,.i .i64 w] [x0] fun r h'=>∃ v1 v2,r = .tu [moV s (AQ s m w) v1 v2,.b true]∧h' = moE x0 s (AQ s m w) v1 v2:=by
 rw [Eu C.h_z136]
 have hfm:=fun (Q:VV→Prop)=>CD C t ht s hs (Q:=Q)
 have hle:=hs.has
 have h1:BI t (m:Int)=true:=BN hm
 simp only [C4,Bool.and_eq_true,Bool.not_eq_true',Int.toNat_natCast] at hok
 obtain ⟨⟨⟨⟨hf,_⟩,h2⟩,h3⟩,h4⟩:=hok
 have w1:=GD s.has (m:Int)
 have w2:=CE s.has (t.at m).up
 rw [h3] at w1
 rw [h4] at w2
 have hcp:=fun (Q:VV→VH→Prop)=>XV C s hs x0 (some ⟨Ab,0,0,false,[[.nl,.nl,.nl]]⟩) (Q:=Q)
 have hT:=CX s.mo s.mo.length
 have hr:=UY s.mo s.mo.length
 have hg:=fun Y=>Qy s.mo s.mo.length Y
 have hst:=fun Y z=>A3T s.mo s.mo.length Y z
 have hlt0:decide (i7 (2 * s.mo.length) < (moG x0 s).length)=true:=decide_eq_true (by rw [AdB];show 2 * s.mo.length+7 < _;omega)
 simp only [Cu,Cq,go_sem,↓reduceIte,hfm,hf,Ay C,h1,A6 hm,h2,Aw C s.has (by omega),w1,w2,hcp,cpG,hT,(hg _).1,(hg _).2.1,(hg _).2.2,(hst _ _).1,(hst _ _).2]
 unfold VL
 rw [A0]
 have hjl:s.jf.length=s.has.length:=by simp only [BH,Bool.and_eq_true,decide_eq_true_eq] at hf;exact hf.1.1.1.1.2
 refine AW (M:=Nat) (I:=fun i F h=>i≤Ba s.has m∧A4.tmp F 2 = .i .i64 m∧A4.tmp F 4 = .i .i64 w∧A4.tmp F 6 = .fp (TU s) 0∧A4.tmp F 10 = .p 1 0 0 0∧A4.tmp F 12 = .p (i7 (2 * s.mo.length)) 0 0 0∧A4.tmp F 13 = .i .i64 i∧h=moG x0 s) (μ:=fun i=>s.has.length - i) ?_ 0 _ _ ⟨Nat.zero_le _,?_,?_,?_,?_,?_,?_,rfl⟩
 ·rintro i F h ⟨hi,p2,p4,p6,p10,p12,p13,rfl⟩
  have hiff:=Nt hi
  have hkl:=CY s.has m
  by_cases c:i < s.has.length
  ·cases c2:decide (s.has.getD i 0 < (m:Int)) with
   | true =>
    have c2':=of_decide_eq_true c2
    have hlt:=hiff.1 ⟨c,c2'⟩
    have hw:IntKind.i64.wrap ((i:Int)+1)=((i+1:Nat):Int):=by rw [AC (by omega) (by omega)];omega
    simp only [EU,Cq,go_sem,↓reduceIte,p2,p4,p6,p10,p12,p13,c,Az c,c2,A0,hw,hlt0]
    refine ⟨i+1,by omega,by omega,?_⟩
    first | rfl | exact ⟨rfl,rfl⟩ | exact ⟨rfl,rfl,rfl⟩
   | false =>
    have c2':=of_decide_eq_false c2
    have e:i=Ba s.has m:=by
     rcases Nat.lt_or_ge i (Ba s.has m) with h | h
     ·exact absurd (Nu h) c2'
     ·omega
    obtain ⟨A,hA⟩:∃ A,A=s.has.take i:=⟨_,rfl⟩
    obtain ⟨B,hB⟩:∃ B,B=s.has.drop i:=⟨_,rfl⟩
    obtain ⟨A',hA'⟩:∃ A,A=s.jf.take i:=⟨_,rfl⟩
    obtain ⟨B',hB'⟩:∃ B,B=s.jf.drop i:=⟨_,rfl⟩
    have lA:A.length=i:=by rw [hA,List.length_take];omega
    have lA':A'.length=i:=by rw [hA',List.length_take];omega
    have lB:B.length=s.has.length - i:=by rw [hB,List.length_drop]
    have lB':B'.length=s.jf.length - i:=by rw [hB',List.length_drop]
    have tB:List.take (s.has.length - i) B=B:=List.take_of_length_le (by omega)
    have tB':List.take (s.jf.length - i) B' = B':=List.take_of_length_le (by omega)
    have c1:i≤s.has.length:=by omega
    have c1':i≤s.jf.length:=by omega
    have b1:A.length * 8≤A7:=by unfold A7;omega
    have b1':A'.length * 8≤A7:=by unfold A7;omega
    have b2:(A.length+1) * 8≤A7:=by unfold A7;omega
    have b2':(A'.length+1) * 8≤A7:=by unfold A7;omega
    obtain ⟨b0,Bs,rfl⟩:∃ b0 Bs,B=b0::Bs:=by
     cases B with
     | nil=>simp at lB;omega
     | cons b0 Bs=>exact ⟨b0,Bs,rfl⟩
    obtain ⟨b0',Bs',rfl⟩:∃ b0 Bs,B' = b0::Bs:=by
     cases B' with
     | nil=>simp at lB';omega
     | cons b0 Bs=>exact ⟨b0,Bs,rfl⟩
    rw [List.length_cons] at lB lB'
    have tBm:List.take (s.has.length - i) (eI b0::List.map eI Bs)=eI b0::List.map eI Bs:=List.take_of_length_le (by simp;omega)
    have tBm':List.take (s.jf.length - i) (eI b0'::List.map eI Bs')=eI b0'::List.map eI Bs':=List.take_of_length_le (by simp;omega)
    obtain ⟨X,hX⟩:∃ X,X=A++[(m:Int)]++b0::Bs:=⟨_,rfl⟩
    obtain ⟨X',hX'⟩:∃ X,X=A'++[w]++b0'::Bs':=⟨_,rfl⟩
    have jX:List.map eI (A++[(m:Int)])++eI b0::List.map eI Bs=List.map eI X:=by rw [hX,List.map_append (l₁:=A++[(m:Int)])];rfl
    have jX':List.map eI (A'++[w])++eI b0'::List.map eI Bs' = List.map eI X':=by rw [hX',List.map_append (l₁:=A'++[w])];rfl
    have lX:A.length+1+(Bs.length+1)=X.length:=by rw [hX];simp;omega
    have lX':A'.length+1+(Bs'.length+1)=X'.length:=by rw [hX'];simp;omega
    have b3:X.length * 8≤A7:=by unfold A7;omega
    have b3':X'.length * 8≤A7:=by unfold A7;omega
    have eX:X=B3 s.has (Ba s.has m) m:=by rw [hX,B3,← e,← hA,← hB];simp
    have eX':X' = B3 s.jf (Ba s.has m) w:=by rw [hX',B3,← e,← hA',← hB'];simp
    simp only [EU,Cq,go_sem,↓reduceIte,p2,p4,p6,p10,p12,p13,c,Az c,c2,A0,moG,← hA,← hB,← hA',← hB',tBm,tBm',c1,c1',b1,b1',b2,b2',b3,b3',List.length_append,List.length_map,hT,(hg _).1,(hg _).2.1,(hg _).2.2,(hst _ _).1,(hst _ _).2,jX,jX',lX,lX']
    exact ⟨_,_,by rw [eX,eX'];rfl,by rw [eX,eX'];rfl⟩
  ·have e:i=Ba s.has m:=by omega
   obtain ⟨A,hA⟩:∃ A,A=s.has.take i:=⟨_,rfl⟩
   obtain ⟨B,hB⟩:∃ B,B=s.has.drop i:=⟨_,rfl⟩
   obtain ⟨A',hA'⟩:∃ A,A=s.jf.take i:=⟨_,rfl⟩
   obtain ⟨B',hB'⟩:∃ B,B=s.jf.drop i:=⟨_,rfl⟩
   have lA:A.length=i:=by rw [hA,List.length_take];omega
   have lA':A'.length=i:=by rw [hA',List.length_take];omega
   have lB:B.length=s.has.length - i:=by rw [hB,List.length_drop]
   have lB':B'.length=s.jf.length - i:=by rw [hB',List.length_drop]
   have tB:List.take (s.has.length - i) B=B:=List.take_of_length_le (by omega)
   have tB':List.take (s.jf.length - i) B' = B':=List.take_of_length_le (by omega)
   have c1:i≤s.has.length:=by omega
   have c1':i≤s.jf.length:=by omega
   have b1:A.length * 8≤A7:=by unfold A7;omega
   have b1':A'.length * 8≤A7:=by unfold A7;omega
   have b2:(A.length+1) * 8≤A7:=by unfold A7;omega
   have b2':(A'.length+1) * 8≤A7:=by unfold A7;omega
   obtain rfl:B=[]:=List.length_eq_zero_iff.1 (by omega)
   obtain rfl:B' = []:=List.length_eq_zero_iff.1 (by omega)
   have b3:(A.length+1+0) * 8≤A7:=by unfold A7;omega
   have b3':(A'.length+1+0) * 8≤A7:=by unfold A7;omega
   simp only [EU,Cq,go_sem,↓reduceIte,p2,p4,p6,p10,p12,p13,c,A0,moG,← hA,← hB,← hA',← hB',tB,tB',c1,c1',b1,b1',b2,b2',b3,b3',List.length_append,List.length_map,hT,(hg _).1,(hg _).2.1,(hg _).2.2,(hst _ _).1,(hst _ _).2]
   have eX:A++[(m:Int)]=B3 s.has (Ba s.has m) m:=by rw [B3,← e,← hA,← hB]
   have eX':A'++[w]=B3 s.jf (Ba s.has m) w:=by rw [B3,← e,← hA',← hB']
   have lX:A.length+1=(B3 s.has (Ba s.has m) m).length:=by rw [← eX];simp
   have lX':A'.length+1=(B3 s.jf (Ba s.has m) w).length:=by rw [← eX'];simp
   exact ⟨_,_,by rw [lX,lX'];rfl,by rw [lX,lX',eX,eX'];rfl⟩
 ·simp only [Cq,go_sem,↓reduceIte]
 ·simp only [Cq,go_sem,↓reduceIte]
 ·simp only [Cq,go_sem,↓reduceIte]
 ·simp only [Cq,go_sem,↓reduceIte]
 ·simp only [Cq,go_sem,↓reduceIte]
 ·simp only [Cq,go_sem,↓reduceIte]
end
theorem A10 (mo:List (List (List Int))) {loc:Nat}:∀ {n:Nat},loc < n→∀ Y:VH,(K6 mo n++Y)[2 * loc]? = some (some (AL ER 1 ((mo.getD loc []).map M2)))
 | 0,h,_=>by omega
 | n+1,h,Y=>by
  rw [K6,List.append_assoc]
  by_cases c:loc=n
  ·subst c
   rw [(Qy mo loc _).1];rfl
  ·exact A10 mo (by omega) _
theorem UZ (mo:List (List (List Int))) {n loc i:Nat} (hl:loc < n) (hi:i < n) (z:Option VO) (Y:VH):((K6 mo n).set (2 * loc) z++Y)[2 * i]? = some (if i=loc then z else some (AL ER 1 ((mo.getD i []).map M2))):=by
 have hT:=CX mo n
 rw [List.getElem?_append_left (by rw [List.length_set];omega),List.getElem?_set]
 by_cases c:i=loc
 ·subst c
  simp;omega
 ·rw [if_neg (by omega),if_neg c]
  have:=A10 mo hi []
  rwa [List.append_nil] at this
theorem A8s (mo:List (List (List Int))) (n loc j:Nat) (z:Option VO) (Y:VH):((K6 mo n).set (2 * loc) z++Y)[2 * n+j]? = Y[j]?:=by
 have hT:=CX mo n
 rw [List.getElem?_append_right (by rw [List.length_set];omega),List.length_set,hT]
 congr 1;omega
theorem Afs (mo:List (List (List Int))) (n loc j:Nat) (z y:Option VO) (Y:VH):((K6 mo n).set (2 * loc) z++Y).set (2 * n+j) y=(K6 mo n).set (2 * loc) z++Y.set j y:=by
 have hT:=CX mo n
 have hl:((K6 mo n).set (2 * loc) z).length=2 * n:=by rw [List.length_set];exact hT
 have e:=List.set_append_right (s:=((K6 mo n).set (2 * loc) z:List (Option VO))) (t:=Y) (2 * n+j) y (by omega)
 rw [hl,Nat.add_sub_cancel_left] at e
 exact e
theorem A2Z {α:Type} {g:α→Option (α×List Nat)} {f h:Nat→α} {is:Nat→List Nat}:∀ (n:Nat),(∀ i,i < n→g (f i)=some (h i,is i))→∃ ids,B4 g ((List.range n).map f)=some ((List.range n).map h,ids):=by
 have app:∀ (a b:List α) {x y:List α} {i j:List Nat},B4 g a=some (x,i)→B4 g b=some (y,j)→B4 g (a++b)=some (x++y,i++j):=by
  intro a
  induction a with
  | nil=>intro b x y i j h1 h2;simp only [B4,Option.some.injEq,Prod.mk.injEq] at h1;obtain ⟨rfl,rfl⟩:=h1;exact h2
  | cons a0 a ih =>
   intro b x y i j h1 h2
   simp only [B4] at h1
   split at h1
   ·rename_i y0 i0 ys is e1 e2
    simp only [Option.some.injEq,Prod.mk.injEq] at h1
    obtain ⟨rfl,rfl⟩:=h1
    simp only [List.cons_append,B4,e1,ih b e2 h2,List.append_assoc]
   ·cases h1
 intro n
 induction n with
 | zero=>intro _;exact ⟨[],rfl⟩
 | succ n ih =>
  intro hg
  obtain ⟨ids,e⟩:=ih fun i hi=>hg i (by omega)
  refine ⟨ids++(is n++[]),?_⟩
  rw [List.range_succ,List.map_append,List.map_append]
  refine app _ _ e ?_
  simp only [List.map_cons,List.map_nil,B4,hg n (by omega)]
theorem AjK {H:VH} {d:Nat} {l:List (List Int)} {k:Nat} (hk:k < l.length) {v:VV} {X:List Int} {ids:List Nat} (hv:frz H (d+2) v=some (.ls (X.map eI),ids)) :
  B4 (fun row=>B4 (frz H (d+2)) row) (List.take l.length ((l.map M2).set k [v]))=some ((l.set k X).map M2,ids):=by
 rw [List.take_of_length_le (by simp)]
 rw [List.map_set]
 refine RT (l.map M2) k [v] (M2 X) ids ?_ (by simpa using hk) ?_
 ·intro a ha
  obtain ⟨c,_,rfl⟩:=List.mem_map.1 ha
  simp only [go_sem,Qa,↓reduceIte]
 ·simp only [B4,hv,List.append_nil]
theorem Vl {f d:Nat} (hf:f=d+4) {mo:List (List (List Int))} {loc:Nat} (hll:loc < mo.length) {L:List (List Int)} (hL:mo.getD loc []=L) {a:Nat} (ha:a < L.length) (a0 a1 a2 a3 a4 a5 a6:Option VO) {Y:VH} {idx v id:Nat} {X:List Int} (hid:id=i7 (2 * mo.length+idx))
  (hY:Y[idx]? = some (some ⟨AG,1,v,false,X.map eI⟩)) :
  ∃ ids,B4 (fun row=>B4 (frz (a0::a1::a2::a3::a4::a5::a6::((K6 mo mo.length).set (2 * loc) (some ⟨ER,1,L.length,false,(L.map M2).set a [.sl id v 0 X.length]⟩)++Y)) f) row) (Ez mo mo.length)=some ((mo.set loc (L.set a X)).map EB,ids):=by
 subst hid
 subst hf
 obtain ⟨ids,e⟩:=A2Z (g:=fun row=>B4 (frz (a0::a1::a2::a3::a4::a5::a6::((K6 mo mo.length).set (2 * loc) (some ⟨ER,1,L.length,false,(L.map M2).set a [.sl (i7 (2 * mo.length+idx)) v 0 X.length]⟩)++Y)) (d+4)) row)
  (f:=fun i=>[.sl (i7 (2 * i)) (mo.getD i []).length 0 (mo.getD i []).length]) (h:=fun i=>EB ((mo.set loc (L.set a X)).getD i [])) (is:=fun i=>if i=loc then [i7 (2 * i),i7 (2 * mo.length+idx)] else [i7 (2 * i)]) mo.length (fun i hi=>by
   by_cases c:i=loc
   ·subst c
    have h1:=fun z=>UZ mo hll hi z Y
    have h2:=fun z=>A8s mo mo.length i idx z Y
    rw [hL]
    have h3:(mo.set i (L.set a X)).getD i []=L.set a X:=by rw [List.getD_eq_getElem?_getD,List.getElem?_set];simp [hll]
    rw [h3]
    simp only [if_true] at h1
    simp only [RR,go_sem,↓reduceIte,h1,h2,hY,List.length_map,List.length_set,↓reduceIte]
    rw [AjK ha (X:=X) (ids:=[i7 (2 * mo.length+idx)]) (by simp only [RR,go_sem,↓reduceIte,h2,hY,List.length_map])]
    rfl
   ·have h1:=fun z=>UZ mo hll hi z Y
    have h3:(mo.set loc (L.set a X)).getD i []=mo.getD i []:=by rw [List.getD_eq_getElem?_getD,List.getD_eq_getElem?_getD,List.getElem?_set_ne (by omega)]
    rw [h3]
    simp only [c,if_false] at h1 ⊢
    simp only [RR,go_sem,↓reduceIte,h1,List.length_map,↓reduceIte])
 refine ⟨ids,?_⟩
 rw [show Ez mo mo.length=(List.range mo.length).map fun i=>[VV.sl (i7 (2 * i)) (mo.getD i []).length 0 (mo.getD i []).length] from rfl,e]
 congr 2
 apply List.ext_getElem
 ·simp
 ·intro i h1 h2
  have hi:i < (mo.set loc (L.set a X)).length:=by simpa using h1
  rw [List.getElem_map,List.getElem_map,List.getElem_range,List.getD_eq_getElem?_getD,List.getElem?_eq_getElem hi];rfl
theorem Afq {mo:List (List (List Int))} {n loc:Nat} (h:loc < n):(Ez mo n)[loc]? = some [.sl (i7 (2 * loc)) (mo.getD loc []).length 0 (mo.getD loc []).length]:=by simp [Ez,h]
theorem Afr (mo:List (List (List Int))) (k j:Nat) (Y:VH):(K6 mo k++Y)[2 * k+j]? = Y[j]?:=by
 have:=CX mo k
 rw [List.getElem?_append_right (by omega)]
 congr 1;omega
theorem Aft (mo:List (List (List Int))) (k j:Nat) (Y:VH) (z:Option VO):(K6 mo k++Y).set (2 * k+j) z=K6 mo k++Y.set j z:=by
 have hl:=CX mo k
 have e:=List.set_append_right (s:=(K6 mo k:List (Option VO))) (t:=Y) (2 * k+j) z (by omega)
 rw [hl,Nat.add_sub_cancel_left] at e
 exact e
theorem Acc (mo:List (List (List Int))) {n loc:Nat} (h:loc < n) (Y:VH) (z:Option VO):(K6 mo n++Y).set (2 * loc) z=(K6 mo n).set (2 * loc) z++Y:=by
 have hl:=CX mo n
 exact List.set_append_left (2 * loc) z (by omega)
def M4 (t:A2) (s:A5) (n at_:Int):Option A5:=match CL t s n 3 (-1) with
 | some s' =>
  let loc:=(t.at n.toNat).loc.toNat
  let L:=s'.mo.getD loc []
  if at_ < 1∨(L.length:Int)≤at_ then none else
   let c:=L.getD at_.toNat []
   let s'':A5:={ s' with mo:=s'.mo.set loc (L.set at_.toNat (B3 c (Ba c n) n)) }
   if BH t s'' = true then some s'' else none
 | none=>none
def joH (s S:A5) (v1 v2:Nat):VH:=moE (some ⟨Ab,0,0,false,[[.nl,.nl,.nl]]⟩) s S v1 v2++[some DO,some DO,some DO,some ⟨Ab,0,0,false,[Th s S v1 v2]⟩]
theorem AcI (s S:A5) (v1 v2:Nat):(joH s S v1 v2).length=2 * s.mo.length+14:=by
 have hT:=CX s.mo s.mo.length
 simp [joH,moE,hT]
theorem LS.mono {V:Am} {g:Nat} {args:List VV} {h:VH} {Q Q':VV→VH→Prop} (k:LS V g args h Q) (i:∀ v h',Q v h'→Q' v h'):LS V g args h Q':=by
 obtain ⟨vf,e,hb⟩:=k
 exact ⟨vf,e,hb.mono i⟩
theorem A4n {s:A5} (hs:Hq s) (hz:s.has.length < 1000∧s.jf.length < 1000∧∀ l∈s.mo,∀ c∈l,c.length < 1000) (n w:Int) (hj:s.jf.length=s.has.length) {loc a:Nat} {L:List (List Int)} (hL:s.mo.getD loc []=L) (hll:loc < s.mo.length) {X:List Int} (hX:X.length≤1000) :
  Hq ⟨(AQ s n w).has,(AQ s n w).jf,(AQ s n w).mo.set loc (L.set a X)⟩:=by
 have h1:=CY s.has n
 have hm:=Ap (d:=[]) hll
 rw [hL] at hm
 refine ⟨by show (B3 _ _ _).length≤1000;rw [CA h1];omega,by show (B3 _ _ _).length≤1000;rw [CA (by omega)];omega,by show (s.mo.set _ _).length≤1000;rw [List.length_set];exact hs.mo,?_,?_⟩
 ·intro l hl
  rcases List.mem_or_eq_of_mem_set hl with h | rfl
  ·exact hs.mi l h
  ·rw [List.length_set];exact hs.mi L hm
 ·intro l hl c hc
  rcases List.mem_or_eq_of_mem_set hl with h | rfl
  ·exact hs.mc l h c hc
  ·rcases List.mem_or_eq_of_mem_set hc with h | rfl
   ·exact hs.mc L hm c h
   ·exact hX
section
variable {V:Am} (C:Au V)
include C
set_option maxHeartbeats 8000000 in
theorem Sn (t:A2) (ht:A8 t) (s:A5) (hs:Hq s) (n kind w:Int) (h0:C4 t s n kind=false) (x0:Option VO) {Q:VV→VH→Prop}:LS V H5 [vT t,J6 s,.i .i64 n,.i .i64 kind,.i .i64 w] [x0] Q↔Q (.tu [.ag [.nl,.nl,.nl],.b false]) [x0,some ⟨Ab,0,0,false,[[.nl,.nl,.nl]]⟩]:=by
 refine Mp ?_
 rw [Eu C.h_z136]
 have hfm:=fun (Q:VV→Prop)=>CD C t ht s hs (Q:=Q)
 have hle:=hs.has
 cases hf:BH t s with
 | false =>
  simp only [Cu,Cq,go_sem,↓reduceIte,hfm,hf]
 | true =>
 cases h1:BI t n with
 | false =>
  simp only [Cu,Cq,go_sem,↓reduceIte,hfm,hf,Ay C,h1]
 | true =>
 obtain ⟨m,rfl,hm⟩:=Aa h1
 cases h2:decide ((t.at m).kind=kind) with
 | false =>
  simp only [Cu,Cq,go_sem,↓reduceIte,hfm,hf,Ay C,h1,A6 hm,h2]
 | true =>
 have w1:=GD s.has (m:Int)
 cases h3:B2 s.has (m:Int) with
 | true =>
  rw [h3] at w1
  simp only [Cu,Cq,go_sem,↓reduceIte,hfm,hf,Ay C,h1,A6 hm,h2,Aw C s.has (by omega),w1]
 | false =>
 rw [h3] at w1
 have w2:=CE s.has (t.at m).up
 cases h4:B2 s.has (t.at m).up with
 | false =>
  rw [h4] at w2
  simp only [Cu,Cq,go_sem,↓reduceIte,hfm,hf,Ay C,h1,A6 hm,h2,Aw C s.has (by omega),w1,w2]
 | true =>
  rw [C4,hf,h1,Int.toNat_natCast,h2,h3,h4] at h0
  cases h0
set_option maxRecDepth 10000 in
set_option maxHeartbeats 16000000 in
theorem XW (t:A2) (ht:A8 t) (s:A5) (hs:Hq s) (hz:s.has.length < 1000∧s.jf.length < 1000∧∀ l∈s.mo,∀ c∈l,c.length < 1000) (n at_:Int) {Q:VV→Prop}:VP V A5y [vT t,J6 s,.i .i64 n,.i .i64 at_] Q↔Q (Jn (M4 t s n at_)):=by
 refine Ad ?_
 rw [Ac C.c_z84.1 C.c_z84.2]
 unfold M4 CL
 cases hok:C4 t s n 3 with
 | false =>
  have hm:=fun (x0:Option VO) (Q:VV→VH→Prop)=>Sn C t ht s hs n 3 (-1) hok x0 (Q:=Q)
  simp only [Jn,QM,Bool.false_eq_true,if_false] at hm ⊢
  simp only [A4d,CK,go_sem,↓reduceIte,hm]
  rfl
 | true =>
  have hok':=hok
  simp only [C4,Bool.and_eq_true,decide_eq_true_eq] at hok'
  obtain ⟨⟨⟨⟨hf,h1⟩,h2⟩,h3⟩,h4⟩:=hok'
  obtain ⟨m,rfl,hmn⟩:=Aa h1
  rw [Int.toNat_natCast] at h2
  have hmo:s.mo.length=t.locs.length:=by simp only [BH,Bool.and_eq_true,decide_eq_true_eq] at hf;exact hf.1.1.1.2
  have hjl:s.jf.length=s.has.length:=by simp only [BH,Bool.and_eq_true,decide_eq_true_eq] at hf;exact hf.1.1.1.1.2
  obtain ⟨l0,l1⟩:=ht.wloc hmn (.inr h2)
  obtain ⟨loc,hloc⟩:=Int.eq_ofNat_of_zero_le l0
  have hll:loc < s.mo.length:=by omega
  rw [if_pos rfl]
  simp only [Int.toNat_natCast,hloc]
  simp only [A4d,CK,go_sem,↓reduceIte]
  refine LS.mono (XX C t ht s hs hmn 3 (-1) hok _) ?_
  rintro _ _ ⟨v1,v2,rfl,rfl⟩
  have hT:=CX s.mo s.mo.length
  have hr:=UY s.mo s.mo.length
  have hat:=Afq (mo:=s.mo) hll
  have hTa:=fun Y=>A10 s.mo hll Y
  have hg:=fun Y=>Qy s.mo s.mo.length Y
  have hlr:loc < (Ez s.mo s.mo.length).length:=by omega
  have hix:=ES (ty:=Bw) (e:=1) (rows:=Ez s.mo s.mo.length) (by omega)
  have hj:=fun j Y=>Afr s.mo s.mo.length j Y
  have hsj:=fun j Y z=>Aft s.mo s.mo.length j Y z
  have hsl:=fun Y z=>Acc s.mo hll Y z
  obtain ⟨L,hL⟩:∃ L,L=(AQ s m (-1)).mo.getD loc []:=⟨_,rfl⟩
  have hL':s.mo.getD loc []=L:=hL.symm
  have hsz:=hs.mi' loc
  rw [← hL]
  rw [hL'] at hat hTa hsz
  cases c1:decide (at_ < 1) with
  | true =>
   rw [if_pos (.inl (of_decide_eq_true c1))]
   simp only [Jn,QM]
   simp only [CK,go_sem,↓reduceIte,moE,hT,hat,hTa,A6 hmn,hloc,hll,hj 6,hsj 6,c1]
   rfl
  | false =>
  have c1':=of_decide_eq_false c1
  obtain ⟨a,rfl⟩:=Int.eq_ofNat_of_zero_le (show 0≤at_ by omega)
  have c2n:decide ((L.length:Int)≤(a:Int))=decide (L.length≤a):=decide_eq_decide.2 ⟨fun h=>by omega,fun h=>by omega⟩
  cases c2:decide (L.length≤a) with
  | true =>
   have:=of_decide_eq_true c2
   rw [if_pos (.inr (by omega))]
   simp only [Jn,QM]
   simp only [CK,go_sem,↓reduceIte,moE,hT,hat,hTa,A6 hmn,hloc,hll,hlr,hix,hj 6,hsj 6,c1,c2n,c2]
   rfl
  | false =>
  have c2':=of_decide_eq_false c2
  have c3:a < L.length:=by omega
  rw [if_neg (by omega),Int.toNat_natCast]
  obtain ⟨c,hcd⟩:∃ c,c=L.getD a []:=⟨_,rfl⟩
  have hca:L[a]? = some c:=by rw [Hu c3,hcd]
  have hcs:=hs.mc' loc a
  rw [hL',← hcd] at hcs
  have hcz:c.length < 1000:=by
   have hm:=Ap (d:=[]) hll
   rw [hL'] at hm
   refine hz.2.2 L hm c ?_
   rw [hcd]
   exact Ap c3
  rw [← hcd]
  have hix2:=ES (ty:=ER) (e:=1) (rows:=L.map M2) (by rw [List.length_map];omega)
  simp only [CK,go_sem,↓reduceIte,moE,hT,hat,hTa,A6 hmn,hloc,hll,hlr,hix,hj 6,hsj 6,c1,c2n,c2,hca,c3,hix2,List.length_map]
  have hao:AL ER 1 (L.map M2) = ⟨ER,1,L.length,false,L.map M2⟩:=by
   unfold AL
   rw [if_neg (by rw [List.length_map];omega),List.length_map]
  have dne:decide (i7 (2 * s.mo.length+6)=2 * s.mo.length+7+1+1+1+1+1+1+1)=false:=decide_eq_false (by show ¬ 2 * s.mo.length+6+7=2 * s.mo.length+7+7;omega)
  have dn6:decide (6=2 * s.mo.length+7+1+1+1+1+1+1+1)=false:=decide_eq_false (by omega)
  have dnl:decide (i7 (2 * loc)=2 * s.mo.length+7+1+1+1+1+1+1+1)=false:=decide_eq_false (by show ¬ 2 * loc+7=2 * s.mo.length+7+7;omega)
  have hj2:=fun j z Y=>A8s s.mo s.mo.length loc j z Y
  have hs2:=fun j z y Y=>Afs s.mo s.mo.length loc j z y Y
  have hat2:∀ z Y,((K6 s.mo s.mo.length).set (2 * loc) z++Y)[2 * loc]? = some z:=fun z Y=>by rw [UZ s.mo hll hll z Y,if_pos rfl]
  unfold VL
  rw [A0]
  refine AW (M:=Nat) (I:=fun i F h=>i≤Ba c m∧A4.tmp F 2 = .i .i64 m∧A4.tmp F 3 = .i .i64 a∧A4.tmp F 4 = .fp (eT t) 0∧A4.tmp F 8 = .p 0 0 0 0∧A4.tmp F 10 = .p (i7 (2 * s.mo.length+6)) 0 0 0∧A4.tmp F 12 = .i .i64 loc∧A4.tmp F 13=lI c∧A4.tmp F 14 = .i .i64 i∧h=joH s (AQ s m (-1)) v1 v2) (μ:=fun i=>c.length - i) ?_ 0 _ _ ⟨Nat.zero_le _,?_,?_,?_,?_,?_,?_,?_,?_,?_⟩
  ·rintro i F h ⟨hi,p2,p3,p4,p8,p10,p12,p13,p14,rfl⟩
   have hiff:=Nt hi
   have hkl:=CY c m
   have hlt0:decide (i7 (2 * s.mo.length+6) < (joH s (AQ s m (-1)) v1 v2).length)=true:=decide_eq_true (by rw [AcI];show 2 * s.mo.length+6+7 < _;omega)
   by_cases ci:i < c.length
   ·cases ci2:decide (c.getD i 0 < (m:Int)) with
    | true =>
     have ci2':=of_decide_eq_true ci2
     have hlt:=hiff.1 ⟨ci,ci2'⟩
     have hw:IntKind.i64.wrap ((i:Int)+1)=((i+1:Nat):Int):=by rw [AC (by omega) (by omega)];omega
     simp only [Vy,CK,go_sem,↓reduceIte,p2,p3,p4,p8,p10,p12,p13,p14,ci,Az ci,ci2,A0,hw,hlt0]
     exact ⟨i+1,by omega,by omega,rfl,rfl⟩
    | false =>
     have ci2':=of_decide_eq_false ci2
     have e:i=Ba c m:=by
      rcases Nat.lt_or_ge i (Ba c m) with h | h
      ·exact absurd (Nu h) ci2'
      ·omega
     obtain ⟨A,hA⟩:∃ A,A=c.take i:=⟨_,rfl⟩
     obtain ⟨B,hB⟩:∃ B,B=c.drop i:=⟨_,rfl⟩
     have lA:A.length=i:=by rw [hA,List.length_take];omega
     have lB:B.length=c.length - i:=by rw [hB,List.length_drop]
     have k1:i≤c.length:=by omega
     have b1:A.length * 8≤A7:=by unfold A7;omega
     have b2:(A.length+1) * 8≤A7:=by unfold A7;omega
     obtain ⟨b0,Bs,rfl⟩:∃ b0 Bs,B=b0::Bs:=by
      cases B with
      | nil=>simp at lB;omega
      | cons b0 Bs=>exact ⟨b0,Bs,rfl⟩
     rw [List.length_cons] at lB
     have tBm:List.take (c.length - i) (eI b0::List.map eI Bs)=eI b0::List.map eI Bs:=List.take_of_length_le (by simp;omega)
     obtain ⟨X,hX⟩:∃ X,X=A++[(m:Int)]++b0::Bs:=⟨_,rfl⟩
     have jX:List.map eI (A++[(m:Int)])++eI b0::List.map eI Bs=List.map eI X:=by rw [hX,List.map_append (l₁:=A++[(m:Int)])];rfl
     have lX:A.length+1+(Bs.length+1)=X.length:=by rw [hX];simp;omega
     have b3:X.length * 8≤A7:=by unfold A7;omega
     have eX:X=B3 c (Ba c m) m:=by rw [hX,B3,← e,← hA,← hB];simp
     rw [← eX]
     simp only [Vy,CK,go_sem,↓reduceIte,p2,p3,p4,p8,p10,p12,p13,p14,ci,Az ci,ci2,A0,joH,moE,List.cons_append,List.append_assoc,List.nil_append,hT,hat,hTa,hll,hlr,hix,hix2,hao,hj 6,hj 7,hsj 6,hsj 7,hsl,hj2 1,hj2 2,hj2 6,hj2 7,hs2 6,hs2 7,hat2,dne,dn6,dnl,k1,← hA,← hB,tBm,b1,b2,b3,jX,lX,c3,hca,List.length_append,List.length_map]
     obtain ⟨ids,hfM⟩:=Vl (f:=6) (d:=2) rfl hll hL' c3 (some ⟨Ab,0,0,false,[[.nl,.nl,.nl]]⟩) (some ⟨Ab,0,0,false,[Th s (AQ s m (-1)) v1 v2]⟩) (some ⟨Ab,0,0,false,[[.sl 3 (Hl s.has.length) 0 s.has.length,.sl 4 (Hl s.jf.length) 0 s.jf.length,.sl 6 (Ez s.mo s.mo.length).length 0 (Ez s.mo s.mo.length).length]]⟩) (some (Ra AG 1 (s.has.map eI))) (some (Ra AG 1 (s.jf.map eI))) (some ⟨Ab,0,0,false,[[.sl 3 (Hl s.has.length) 0 s.has.length,.sl 4 (Hl s.jf.length) 0 s.jf.length,.sl 6 (Ez s.mo s.mo.length).length 0 (Ez s.mo s.mo.length).length]]⟩) (some (AL Bw 1 (Ez s.mo s.mo.length)))
      (Y:=[some ⟨Ab,0,0,false,[Th s (AQ s m (-1)) v1 v2]⟩,some ⟨AG,1,v1,false,(AQ s m (-1)).has.map eI⟩,some ⟨AG,1,v2,false,(AQ s m (-1)).jf.map eI⟩,some DO,some DO,some DO,some ⟨Ab,0,0,false,[Th s (AQ s m (-1)) v1 v2]⟩,some ⟨AG,1,Hl A.length+1+1,false,X.map eI⟩]) (idx:=7) (id:=2 * s.mo.length+7+1+1+1+1+1+1+1) (X:=X) (v:=Hl A.length+1+1) (by show _=2 * s.mo.length+7+7;omega) rfl
     simp only [CK,go_sem,↓reduceIte,hfM]
     have hsz2:=A4n hs hz (m:Int) (-1) hjl hL' hll (a:=a) (X:=X) (by omega)
     have hfm:=fun (Q:VV→Prop)=>CD C t ht _ hsz2 (Q:=Q)
     have eM:(AQ s m (-1)).mo=s.mo:=rfl
     simp only [eM] at hfm ⊢
     cases hff:BH t ⟨(AQ s m (-1)).has,(AQ s m (-1)).jf,s.mo.set loc (L.set a X)⟩ with
     | false =>
      rw [if_neg (by decide)]
      simp only [CK,go_sem,↓reduceIte,p8,p10,hj2 1,hj2 2,hj2 6,Th,hfm,hff]
      rfl
     | true =>
      rw [if_pos rfl]
      simp only [CK,go_sem,↓reduceIte,p8,p10,hj2 1,hj2 2,hj2 6,Th,hfm,hff]
      obtain ⟨ids2,hfM2⟩:=Vl (f:=5) (d:=1) rfl hll hL' c3 (some ⟨Ab,0,0,false,[Th s (AQ s m (-1)) v1 v2]⟩) (some ⟨Ab,0,0,false,[Th s (AQ s m (-1)) v1 v2]⟩) (some ⟨Ab,0,0,false,[[.sl 3 (Hl s.has.length) 0 s.has.length,.sl 4 (Hl s.jf.length) 0 s.jf.length,.sl 6 (Ez s.mo s.mo.length).length 0 (Ez s.mo s.mo.length).length]]⟩) (some (Ra AG 1 (s.has.map eI))) (some (Ra AG 1 (s.jf.map eI))) (some ⟨Ab,0,0,false,[[.sl 3 (Hl s.has.length) 0 s.has.length,.sl 4 (Hl s.jf.length) 0 s.jf.length,.sl 6 (Ez s.mo s.mo.length).length 0 (Ez s.mo s.mo.length).length]]⟩) (some (AL Bw 1 (Ez s.mo s.mo.length)))
       (Y:=[some ⟨Ab,0,0,false,[Th s (AQ s m (-1)) v1 v2]⟩,some ⟨AG,1,v1,false,(AQ s m (-1)).has.map eI⟩,some ⟨AG,1,v2,false,(AQ s m (-1)).jf.map eI⟩,some DO,some DO,some DO,some ⟨Ab,0,0,false,[Th s (AQ s m (-1)) v1 v2]⟩,some ⟨AG,1,Hl A.length+1+1,false,X.map eI⟩]) (idx:=7) (id:=2 * s.mo.length+7+1+1+1+1+1+1+1) (X:=X) (v:=Hl A.length+1+1) (by show _=2 * s.mo.length+7+7;omega) rfl
      simp only [CK,go_sem,↓reduceIte,hfM2]
      rfl
   ·have e:i=Ba c m:=by omega
    obtain ⟨A,hA⟩:∃ A,A=c.take i:=⟨_,rfl⟩
    obtain ⟨B,hB⟩:∃ B,B=c.drop i:=⟨_,rfl⟩
    have lA:A.length=i:=by rw [hA,List.length_take];omega
    have lB:B.length=c.length - i:=by rw [hB,List.length_drop]
    have k1:i≤c.length:=by omega
    have b1:A.length * 8≤A7:=by unfold A7;omega
    have b2:(A.length+1) * 8≤A7:=by unfold A7;omega
    obtain rfl:B=[]:=List.length_eq_zero_iff.1 (by omega)
    have tB:List.take (c.length - i) ([]:List Int)=[]:=List.take_nil
    have b3:(A.length+1+0) * 8≤A7:=by unfold A7;omega
    obtain ⟨X,hX⟩:∃ X,X=A++[(m:Int)]:=⟨_,rfl⟩
    have lX:A.length+1=X.length:=by rw [hX];simp
    have b4:X.length * 8≤A7:=by rw [← lX];exact b2
    have b5:(X.length+0) * 8≤A7:=b4
    have eX:X=B3 c (Ba c m) m:=by rw [hX,B3,← e,← hA,← hB]
    rw [← eX]
    simp only [Vy,CK,go_sem,↓reduceIte,p2,p3,p4,p8,p10,p12,p13,p14,ci,A0,joH,moE,List.cons_append,List.append_assoc,List.nil_append,hT,hat,hTa,hll,hlr,hix,hix2,hao,hj 6,hj 7,hsj 6,hsj 7,hsl,hj2 1,hj2 2,hj2 6,hj2 7,hs2 6,hs2 7,hat2,dne,dn6,dnl,k1,← hA,← hB,tB,b1,b2,b3,b4,b5,lX,← hX,c3,hca,List.length_append,List.length_map]
    obtain ⟨ids,hfM⟩:=Vl (f:=6) (d:=2) rfl hll hL' c3 (some ⟨Ab,0,0,false,[[.nl,.nl,.nl]]⟩) (some ⟨Ab,0,0,false,[Th s (AQ s m (-1)) v1 v2]⟩) (some ⟨Ab,0,0,false,[[.sl 3 (Hl s.has.length) 0 s.has.length,.sl 4 (Hl s.jf.length) 0 s.jf.length,.sl 6 (Ez s.mo s.mo.length).length 0 (Ez s.mo s.mo.length).length]]⟩) (some (Ra AG 1 (s.has.map eI))) (some (Ra AG 1 (s.jf.map eI))) (some ⟨Ab,0,0,false,[[.sl 3 (Hl s.has.length) 0 s.has.length,.sl 4 (Hl s.jf.length) 0 s.jf.length,.sl 6 (Ez s.mo s.mo.length).length 0 (Ez s.mo s.mo.length).length]]⟩) (some (AL Bw 1 (Ez s.mo s.mo.length)))
     (Y:=[some ⟨Ab,0,0,false,[Th s (AQ s m (-1)) v1 v2]⟩,some ⟨AG,1,v1,false,(AQ s m (-1)).has.map eI⟩,some ⟨AG,1,v2,false,(AQ s m (-1)).jf.map eI⟩,some DO,some DO,some DO,some ⟨Ab,0,0,false,[Th s (AQ s m (-1)) v1 v2]⟩,some ⟨AG,1,Hl A.length+1,false,X.map eI⟩]) (idx:=7) (id:=2 * s.mo.length+7+1+1+1+1+1+1+1) (X:=X) (v:=Hl A.length+1) (by show _=2 * s.mo.length+7+7;omega) rfl
    simp only [CK,go_sem,↓reduceIte,hfM]
    have hsz2:=A4n hs hz (m:Int) (-1) hjl hL' hll (a:=a) (X:=X) (by omega)
    have hfm:=fun (Q:VV→Prop)=>CD C t ht _ hsz2 (Q:=Q)
    have eM:(AQ s m (-1)).mo=s.mo:=rfl
    simp only [eM] at hfm ⊢
    cases hff:BH t ⟨(AQ s m (-1)).has,(AQ s m (-1)).jf,s.mo.set loc (L.set a X)⟩ with
    | false =>
     rw [if_neg (by decide)]
     simp only [CK,go_sem,↓reduceIte,p8,p10,hj2 1,hj2 2,hj2 6,Th,hfm,hff]
     rfl
    | true =>
     rw [if_pos rfl]
     simp only [CK,go_sem,↓reduceIte,p8,p10,hj2 1,hj2 2,hj2 6,Th,hfm,hff]
     obtain ⟨ids2,hfM2⟩:=Vl (f:=5) (d:=1) rfl hll hL' c3 (some ⟨Ab,0,0,false,[Th s (AQ s m (-1)) v1 v2]⟩) (some ⟨Ab,0,0,false,[Th s (AQ s m (-1)) v1 v2]⟩) (some ⟨Ab,0,0,false,[[.sl 3 (Hl s.has.length) 0 s.has.length,.sl 4 (Hl s.jf.length) 0 s.jf.length,.sl 6 (Ez s.mo s.mo.length).length 0 (Ez s.mo s.mo.length).length]]⟩) (some (Ra AG 1 (s.has.map eI))) (some (Ra AG 1 (s.jf.map eI))) (some ⟨Ab,0,0,false,[[.sl 3 (Hl s.has.length) 0 s.has.length,.sl 4 (Hl s.jf.length) 0 s.jf.length,.sl 6 (Ez s.mo s.mo.length).length 0 (Ez s.mo s.mo.length).length]]⟩) (some (AL Bw 1 (Ez s.mo s.mo.length)))
      (Y:=[some ⟨Ab,0,0,false,[Th s (AQ s m (-1)) v1 v2]⟩,some ⟨AG,1,v1,false,(AQ s m (-1)).has.map eI⟩,some ⟨AG,1,v2,false,(AQ s m (-1)).jf.map eI⟩,some DO,some DO,some DO,some ⟨Ab,0,0,false,[Th s (AQ s m (-1)) v1 v2]⟩,some ⟨AG,1,Hl A.length+1,false,X.map eI⟩]) (idx:=7) (id:=2 * s.mo.length+7+1+1+1+1+1+1+1) (X:=X) (v:=Hl A.length+1) (by show _=2 * s.mo.length+7+7;omega) rfl
     simp only [CK,go_sem,↓reduceIte,hfM2]
     rfl
  ·simp only [CK,go_sem,↓reduceIte]
  ·simp only [CK,go_sem,↓reduceIte]
  ·simp only [CK,go_sem,↓reduceIte]
  ·simp only [CK,go_sem,↓reduceIte]
  ·simp only [CK,go_sem,↓reduceIte]
  ·simp only [CK,go_sem,↓reduceIte]
  ·simp only [CK,go_sem,↓reduceIte]
  ·simp only [CK,go_sem,↓reduceIte]
  ·simp only [CK,go_sem,↓reduceIte,joH,moE]
end
theorem J5.kind {t:A2}:∀ {n u e:Nat},J5 t n u e→∀ m,u < m→m < e→(t.at m).kind=2∨(t.at m).kind=3∨(t.at m).kind=4:=by
 intro n
 induction n with
 | zero=>intro u e h;exact absurd h (by simp [J5])
 | succ n ih =>
  intro u e h m h1 h2
  obtain ⟨⟨_,ht,_⟩,h⟩:=h
  rcases h with ⟨_,_,rfl⟩ | ⟨c,_,_,al,hb⟩ | ⟨c,_,_,vals,k,loc,mode,_,_,hk0,hke,hloc,hs,_⟩
  ·omega
  ·by_cases e1:m=u+1
   ·subst e1
    simp only [DA,Bool.or_eq_true,Bool.and_eq_true,decide_eq_true_eq] at al
    rcases al with h | h
    ·exact .inr (.inr h.1.1.1.1.1)
    ·exact .inr (.inl h.1.1.1)
   ·exact ih hb m (by omega) h2
  ·obtain ⟨v,hv,a,b⟩:=Ee (k:=k) (m:=m) vals (by omega) (by omega)
   obtain ⟨s1,s2,s3⟩:=hs v hv
   by_cases e1:m=k v
   ·subst e1
    simp only [EK,Bool.and_eq_true,decide_eq_true_eq] at s2
    exact .inl s2.1.1.1.1
   ·exact ih s3 m (by omega) b
theorem A8.kind {t:A2} (h:A8 t) {m:Nat} (h2:m < t.nodes.length) (h3:0≤(t.at m).up):(t.at m).kind=2∨(t.at m).kind=3∨(t.at m).kind=4:=by
 by_cases c:m < t.locs.length
 ·have:=(h.init m c).up;omega
 ·obtain ⟨s,h0,he,hs⟩:=h.thr
  obtain ⟨v,hv,a,b⟩:=Ee (k:=s) (m:=m) t.regs.length (by omega) (by omega)
  obtain ⟨hb,n,hn⟩:=hs v hv
  by_cases e1:m=s v
  ·subst e1
   simp only [ET,Bool.and_eq_true,decide_eq_true_eq] at hb
   have:=hb.1.1.1.1.1.2
   omega
  ·exact hn.kind m (by omega) b
structure Gr (t:A2) (s:A5) (k:Nat):Prop where
 big:Big t s k
 ok:∀ x∈s.has,BI t x=true
theorem Gr.sz {t:A2} (ht:A8 t) {s:A5} {k:Nat} (h:Gr t s k) (hk:k≤100):Hq s:=h.big.sz ht hk
theorem Gr.sz' {t:A2} {s:A5} {k:Nat} (h:Gr t s k) (hk:k≤100):s.has.length < 1000∧s.jf.length < 1000∧∀ l∈s.mo,∀ c∈l,c.length < 1000 :=
 ⟨by have:=h.big.has;omega,by have:=h.big.jf;omega,fun l hl c hc=>by have:=h.big.mc l hl c hc;omega⟩
theorem A0v {t:A2} (ht:A8 t):Gr t (BB t) 0:=by
 refine ⟨A7j ht,fun x hx=>?_⟩
 simp only [BB,E7,List.mem_map,List.mem_filter,List.mem_range] at hx
 obtain ⟨i,⟨hi,_⟩,rfl⟩:=hx
 exact BN hi
theorem LF {t:A2} {s s':A5} {k:Nat} (h:Gr t s k) {n kind w:Int} (e:CL t s n kind w=some s'):Gr t s' (k+1):=by
 unfold CL at e
 split at e
 ·rename_i hok
  cases e
  simp only [C4,BH,Bool.and_eq_true,decide_eq_true_eq] at hok
  refine ⟨Aal h.big hok.1.1.1.1.1.1.1.1.2 n w,?_⟩
  intro x hx
  simp only [AQ,B3,List.mem_append,List.mem_cons] at hx
  rcases hx with hx | rfl | hx
  ·exact h.ok x (List.mem_of_mem_take hx)
  ·exact hok.1.1.1.2
  ·exact h.ok x (List.mem_of_mem_drop hx)
 ·cases e
theorem Ae2 {t:A2} {s s':A5} {k:Nat} (h:Gr t s k) {n w:Int} (e:HF t s n w=some s'):Gr t s' (k+1):=by
 unfold HF at e
 split at e
 ·rename_i x hx
  split at e
  ·cases e;exact LF h hx
  ·cases e
 ·cases e
theorem Ab8 {t:A2} {s:A5} {k loc:Nat} (h:Gr t s (k+1)) {L:List (List Int)} (h0:L≠[]) (h1:L.length≤2+k) (h2:∀ c∈L,c.length≤2+k):Gr t { s with mo:=s.mo.set loc L } (k+1):=by
 refine ⟨⟨h.big.has,h.big.jf,by rw [List.length_set];exact h.big.mo,?_,?_⟩,h.ok⟩
 ·intro l hl
  rcases List.mem_or_eq_of_mem_set hl with hl | rfl
  ·exact h.big.mi l hl
  ·exact ⟨h0,by omega⟩
 ·intro l hl c hc
  rcases List.mem_or_eq_of_mem_set hl with hl | rfl
  ·exact h.big.mc l hl c hc
  ·have:=h2 c hc;omega
theorem Big.row {t:A2} {s:A5} {k:Nat} (h:Big t s k) (loc:Nat):(s.mo.getD loc []).length≤1+k∧∀ c∈s.mo.getD loc [],c.length≤1+k:=by
 by_cases hl:loc < s.mo.length
 ·have:=Ap (d:=[]) hl
  exact ⟨(h.mi _ this).2,fun c hc=>h.mc _ this c hc⟩
 ·rw [List.getD_eq_getElem?_getD,List.getElem?_eq_none (by omega)]
  simp
theorem A4S {t:A2} {s s':A5} {n kind w:Int} (e:CL t s n kind w=some s'):s'.mo=s.mo:=by
 unfold CL at e
 split at e
 ·cases e;rfl
 ·cases e
theorem SW {t:A2} {s s':A5} {k:Nat} (h:Gr t s k) {n w:Int} (e:DZ t s n w=some s'):Gr t s' (k+1):=by
 unfold DZ at e
 split at e
 ·rename_i x hx
  have hg:=LF h hx
  have hm:=A4S hx
  split at e
  ·cases e
  ·cases e
   have hr:=h.big.row (t.at n.toNat).loc.toNat
   rw [← hm] at hr
   refine Ab8 hg (by simp) ?_ ?_
   ·simp only [List.length_append,List.length_cons,List.length_take,List.length_drop];omega
   ·intro c hc
    simp only [List.mem_append,List.mem_cons] at hc
    rcases hc with hc | rfl | hc
    ·have:=hr.2 c (List.mem_of_mem_take hc);omega
    ·simp;omega
    ·have:=hr.2 c (List.mem_of_mem_drop hc);omega
 ·cases e
theorem AcJ {t:A2} {s s':A5} {k:Nat} (h:Gr t s k) {n w:Int} (e:M4 t s n w=some s'):Gr t s' (k+1):=by
 unfold M4 at e
 split at e
 ·rename_i x hx
  have hg:=LF h hx
  have hm:=A4S hx
  simp only at e
  split at e
  ·cases e
  ·rename_i hw
   split at e
   ·cases e
    have hr:=h.big.row (t.at n.toNat).loc.toNat
    rw [← hm] at hr
    refine Ab8 hg ?_ ?_ ?_
    ·intro h0
     have:=congrArg List.length h0
     rw [List.length_set] at this
     simp only [List.length_nil] at this
     omega
    ·rw [List.length_set];omega
    ·intro c hc
     rcases List.mem_or_eq_of_mem_set hc with hc | rfl
     ·have:=hr.2 c hc;omega
     ·have h1:=CY ((x.mo.getD (t.at n.toNat).loc.toNat []).getD w.toNat []) n
      rw [CA h1]
      have:=hr.2 _ (Ap (d:=[]) (show w.toNat < (x.mo.getD (t.at n.toNat).loc.toNat []).length by omega))
      omega
   ·cases e
 ·cases e
def EE (t:A2) (s:A5) (i:Nat):Bool:=decide (0≤(t.at i).up) && B2 s.has (t.at i).up && !B2 s.has i
def GQ (t:A2) (s:A5) (k:Nat):List Int:=((List.range k).filter (EE t s)).map fun (i:Nat)=>(i:Int)
theorem Acx {t:A2} {s:A5} {k:Nat} (h:EE t s k=true):GQ t s (k+1)=GQ t s k++[(k:Int)]:=by
 unfold GQ
 rw [List.range_succ,List.filter_append,List.map_append]
 simp only [List.filter_cons,List.filter_nil,h,if_true,List.map_cons,List.map_nil]
theorem Vk {t:A2} {s:A5} {k:Nat} (h:EE t s k=false):GQ t s (k+1)=GQ t s k:=by
 unfold GQ
 rw [List.range_succ,List.filter_append,List.map_append]
 simp [h]
theorem A6K {t:A2} {s:A5} (k:Nat):(GQ t s k).length≤k:=by
 unfold GQ
 rw [List.length_map]
 exact Nat.le_trans (List.length_filter_le _ _) (by simp)
theorem A6L {t:A2} {s:A5} {k:Nat} {x:Int} (h:x∈GQ t s k):∃ m:Nat,x=m∧m < k∧EE t s m=true:=by
 simp only [GQ,List.mem_map,List.mem_filter,List.mem_range] at h
 obtain ⟨i,⟨hi,h⟩,rfl⟩:=h
 exact ⟨i,rfl,hi,h⟩
def KG (t:A2) (n:Nat) (y:Int):Bool:=decide ((t.at y.toNat).kind=3) && decide ((t.at y.toNat).loc=(t.at n).loc) && decide ((t.at y.toNat).val=(t.at n).val)
theorem A63 {l:List Int} {k:Nat} (hk:k < l.length):l.take (k+1)=l.take k++[l.getD k 0]:=by
 rw [List.take_succ_eq_append_getElem hk,List.getD_eq_getElem?_getD,List.getElem?_eq_getElem hk];rfl
def TB (t:A2) (s:A5) (n k:Nat):List Int:=(s.has.take k).filter (KG t n)
theorem Ahs {t:A2} {s:A5} {n k:Nat} (hk:k < s.has.length) (h:KG t n (s.has.getD k 0)=true):TB t s n (k+1)=TB t s n k++[s.has.getD k 0]:=by
 unfold TB
 rw [A63 hk,List.filter_append]
 simp only [List.filter_cons,List.filter_nil,h,if_true,Bool.false_eq_true,if_false,List.append_nil]
theorem A3q {t:A2} {s:A5} {n k:Nat} (hk:k < s.has.length) (h:KG t n (s.has.getD k 0)=false):TB t s n (k+1)=TB t s n k:=by
 unfold TB
 rw [A63 hk,List.filter_append]
 simp only [List.filter_cons,List.filter_nil,h,if_true,Bool.false_eq_true,if_false,List.append_nil]
theorem Aba {t:A2} {s:A5} {n:Nat} (k:Nat):(TB t s n k).length≤s.has.length:=by
 unfold TB
 refine Nat.le_trans (List.length_filter_le _ _) ?_
 rw [List.length_take];omega
def Ji (t:A2) (s:A5) (a b:Nat):Option A5 :=
 let l:=GQ t s t.nodes.length
 if l.length=0 then none else
  let n:=l.getD (a % l.length) 0
  let x:=t.at n.toNat
  if x.kind=4 then CL t s n 4 (-1) else
   if x.kind=2 then
    let w:=TB t s n.toNat s.has.length
    if w.length=0 then none else HF t s n (w.getD (b % w.length) 0)
   else
    let k:=(s.mo.getD x.loc.toNat []).length
    let o:=DZ t s n ((1+b / 3 % k:Nat):Int)
    if b % 3=0∧1 < k then (match M4 t s n ((1+b / 3 % (k - 1):Nat):Int) with
     | some s'=>some s'
     | none=>o) else o
theorem AdL {t:A2} {s s':A5} {k a b:Nat} (h:Gr t s k) (e:Ji t s a b=some s'):Gr t s' (k+1):=by
 unfold Ji at e
 simp only at e
 split at e
 ·cases e
 ·split at e
  ·exact LF h e
  ·split at e
   ·split at e
    ·cases e
    ·exact Ae2 h e
   ·split at e
    ·split at e
     ·rename_i s2 hj
      cases e;exact AcJ h hj
     ·exact SW h e
    ·exact SW h e
theorem Gr.mono {t:A2} {s:A5} {k j:Nat} (h:Gr t s k) (hk:k≤j):Gr t s j:=⟨h.big.mono hk,h.ok⟩
def Pc (m:List U8) (i:Nat):Nat:=(m.getD i ⟨0⟩).n
theorem AjN {m:List U8} {i:Nat} (h:i < m.length):m[i]? = some ⟨Pc m i⟩:=by
 rw [Pc,List.getD_eq_getElem?_getD,List.getElem?_eq_getElem h];rfl
theorem A8g {m:List U8} (hm:∀ x∈m,x.n < 256) (i:Nat):Pc m i < 256:=by
 unfold Pc
 rw [List.getD_eq_getElem?_getD]
 cases h:m[i]? with
 | none=>decide
 | some x=>exact hm x (List.mem_of_getElem? h)
def Cz (t:A2) (m:List U8):Nat→A5
 | 0=>BB t
 | k+1=>(match Ji t (Cz t m k) (Pc m (2 * k)) (Pc m (2 * k+1)) with
  | some s=>s
  | none=>Cz t m k)
theorem Lu {t:A2} {m:List U8} {k:Nat} {s:A5} (e:Ji t (Cz t m k) (Pc m (2 * k)) (Pc m (2 * k+1))=some s):Cz t m (k+1)=s:=by rw [Cz,e]
theorem Lt {t:A2} {m:List U8} {k:Nat} (e:Ji t (Cz t m k) (Pc m (2 * k)) (Pc m (2 * k+1))=none):Cz t m (k+1)=Cz t m k:=by rw [Cz,e]
theorem Nr {t:A2} (ht:A8 t) (m:List U8):∀ k,Gr t (Cz t m k) k
 | 0=>A0v ht
 | k+1=>by
  have h:=Nr ht m k
  cases e:Ji t (Cz t m k) (Pc m (2 * k)) (Pc m (2 * k+1)) with
  | some s=>rw [Lu e];exact AdL h e
  | none=>rw [Lt e];exact h.mono (by omega)
section
variable {V:Am} (C:Au V) {Q:VV→Prop}
include C
set_option maxHeartbeats 4000000 in
theorem ZF (t:A2) (ht:A8 t) (s:A5) (hs:Hq s):VP V A5v [vT t,J6 s] Q↔Q (lI (GQ t s t.nodes.length)):=by
 refine Ad ?_
 rw [Ac C.c_z81.1 C.c_z81.2]
 have h64:=ht.n64
 have hle:=hs.has
 simp only [A9v,K9,go_sem,↓reduceIte]
 refine Ai (by decide) t.nodes.length (by omega) (I:=fun k F h=>A4.tmp F 2 = .fp (eT t) 0∧A4.tmp F 3 = .fp (TU s) 0∧∃ L,L=GQ t s k∧A4.tmp F 5 = .sl 0 L.length 0 L.length∧h=[some (AL AG 1 (L.map eI))]) ?_ ?_ ?_ 0 _ _ (Nat.zero_le _) ?_ ?_
 ·rintro k F h hk p6 ⟨p2,p3,L,hL,p5,rfl⟩
  simp only [K9,go_sem,↓reduceIte,p2,p3,p5,p6]
  exact ⟨L,hL,rfl,rfl⟩
 ·rintro k F h hk p6 ⟨p2,p3,L,hL,p5,rfl⟩
  have hlen:=A6K (t:=t) (s:=s) k
  have w1:=GD s.has (t.at k).up
  have w2:=CE s.has (k:Int)
  have b1:(L.length+1) * 8≤A7:=by rw [← hL] at hlen;unfold A7;omega
  cases c1:decide (0≤(t.at k).up) with
  | false =>
   have e:EE t s k=false:=by simp [EE,c1]
   simp only [K9,go_sem,↓reduceIte,p2,p3,p5,p6,hk,A6 hk,c1,A0]
   exact ⟨L,by rw [Vk e];exact hL,rfl,rfl⟩
  | true =>
  cases c2:B2 s.has (t.at k).up with
  | false =>
   rw [c2] at w1
   have e:EE t s k=false:=by simp [EE,c2]
   simp only [K9,go_sem,↓reduceIte,p2,p3,p5,p6,hk,A6 hk,c1,Aw C s.has (by omega),w1,A0]
   exact ⟨L,by rw [Vk e];exact hL,rfl,rfl⟩
  | true =>
  rw [c2] at w1
  cases c3:B2 s.has (k:Int) with
  | true =>
   rw [c3] at w2
   have e:EE t s k=false:=by simp [EE,c3]
   simp only [K9,go_sem,↓reduceIte,p2,p3,p5,p6,hk,A6 hk,c1,Aw C s.has (by omega),w1,w2,A0]
   exact ⟨L,by rw [Vk e];exact hL,rfl,rfl⟩
  | false =>
   rw [c3] at w2
   have e:EE t s k=true:=by simp only [EE,c1,c2,c3];rfl
   simp only [K9,go_sem,↓reduceIte,p2,p3,p5,p6,hk,A6 hk,c1,Aw C s.has (by omega),w1,w2,A0,b1,PM,List.length_append,List.length_map]
   exact ⟨L++[(k:Int)],by rw [Acx e,hL],by simp,rfl⟩
 ·rintro F h ⟨p2,p3,L,hL,p5,rfl⟩
  subst hL
  simp only [K9,go_sem,↓reduceIte,p2,p3,p5,List.length_map]
 ·simp only [K9,go_sem,↓reduceIte]
 ·simp only [K9,go_sem,↓reduceIte]
  exact ⟨[],rfl,rfl,rfl⟩
end
theorem Js {e:Option Qo} {a l:Nat} (h:0 < l):B5 .rem e (.i .i64 (a:Int)) (.i .i64 (l:Int))=some (.i .i64 ((a % l:Nat):Int)):=by
 rw [G6 (by omega),Int.tmod_eq_emod_of_nonneg (by omega),Int.natCast_emod]
theorem A0F {e:Option Qo} {a l:Nat} (h:0 < l) (ha:a≤1000000):B5 .quo e (.i .i64 (a:Int)) (.i .i64 (l:Int))=some (.i .i64 ((a / l:Nat):Int)):=by
 have:=Nat.div_le_self a l
 have w:IntKind.i64.wrap ((a / l:Nat):Int)=((a / l:Nat):Int):=by
  generalize a / l=q at this ⊢
  exact AC (by omega) (by omega)
 rw [Abp (by omega),Int.tdiv_eq_ediv_of_nonneg (by omega),← Int.natCast_ediv,w]
theorem Ca (s:A5):Jn (some s) = .tu [J6 s,.b true]:=rfl
theorem Cx:Jn none = .tu [J6 QM,.b false]:=rfl
def nxH (n:AK) (W:List Int):VH:=[some ⟨Ab,0,0,false,[[.nl,.nl,.nl]]⟩,some ⟨Cn,0,0,false,[eN n]⟩,some (AL AG 1 (W.map eI))]
section
variable {V:Am} (C:Au V) {Q:VV→Prop}
include C
set_option maxRecDepth 4000 in
set_option maxHeartbeats 8000000 in
theorem ZH (t:A2) (ht:A8 t) (s:A5) {k:Nat} (hg:Gr t s k) (hk:k≤90) (a b:Nat) (ha:a < 256) (hb:b < 256):VP V A56 [vT t,J6 s,.i .i64 a,.i .i64 b] Q↔Q (Jn (Ji t s a b)):=by
 have hs:=hg.sz ht (by omega)
 have hz:=hg.sz' (by omega)
 refine Ad ?_
 rw [Ac C.c_z31.1 C.c_z31.2]
 have h64:=ht.n64
 have hfr:=fun (Q:VV→Prop)=>ZF C t ht s hs (Q:=Q)
 unfold Ji
 obtain ⟨l,hl⟩:∃ l,l=GQ t s t.nodes.length:=⟨_,rfl⟩
 rw [← hl] at hfr ⊢
 simp only
 cases c0:decide (l.length=0) with
 | true =>
  have c0':=of_decide_eq_true c0
  have c0i:decide ((l.length:Int)=0)=true:=decide_eq_true (by omega)
  rw [if_pos c0',Cx]
  simp only [Jd,Dd,go_sem,↓reduceIte,hfr,c0,c0i,QM,List.length_map]
  rfl
 | false =>
 have c0':=of_decide_eq_false c0
 have c0i:decide ((l.length:Int)=0)=false:=decide_eq_false (by omega)
 rw [if_neg c0']
 have r1:=Js (e:=none) (a:=a) (l:=l.length) (by omega)
 have hal:a % l.length < l.length:=Nat.mod_lt _ (by omega)
 obtain ⟨n,hn,hnl,hfree⟩:=A6L (show l.getD (a % l.length) 0∈GQ t s t.nodes.length from by rw [← hl];exact Ap hal)
 have g1:=Az hal
 rw [hn] at g1 ⊢
 rw [Int.toNat_natCast]
 have hup:0≤(t.at n).up:=by simp only [EE,Bool.and_eq_true,decide_eq_true_eq] at hfree;exact hfree.1.1
 have hkind:=ht.kind hnl hup
 cases c4:decide ((t.at n).kind=4) with
 | true =>
  rw [if_pos (of_decide_eq_true c4)]
  have hbar:=fun (Q:VV→Prop)=>Qf C t ht s hs n (Q:=Q)
  cases hm:CL t s n 4 (-1) with
  | none =>
   rw [hm,Cx] at hbar
   rw [Cx]
   simp only [Jd,Dd,go_sem,↓reduceIte,hfr,c0,c0i,r1,g1,hal,hnl,A6 hnl,c4,hbar,QM,List.length_map,A0]
   rfl
  | some s' =>
   rw [hm,Ca] at hbar
   rw [Ca]
   simp only [Jd,Dd,go_sem,↓reduceIte,hfr,c0,c0i,r1,g1,hal,hnl,A6 hnl,c4,hbar,List.length_map,A0]
 | false =>
 have c4':=of_decide_eq_false c4
 rw [if_neg c4']
 cases c2:decide ((t.at n).kind=2) with
 | true =>
  rw [if_pos (of_decide_eq_true c2)]
  have hle:=hs.has
  simp only [Jd,Dd,go_sem,↓reduceIte,hfr,c0,c0i,r1,g1,hal,hnl,A6 hnl,c4,c2,List.length_map,A0]
  refine Ai (by decide) s.has.length (by omega) (I:=fun i F h=>A4.tmp F 3 = .i .i64 b∧A4.tmp F 4 = .fp (eT t) 0∧A4.tmp F 5 = .fp (TU s) 0∧A4.tmp F 8 = .p 0 0 0 0∧A4.tmp F 11 = .i .i64 n∧A4.tmp F 12 = .p 1 0 0 0∧∃ W,W=TB t s n i∧A4.tmp F 13 = .sl 2 W.length 0 W.length∧h=nxH (t.at n) W) ?_ ?_ ?_ 0 _ _ (Nat.zero_le _) ?_ ?_
  ·rintro i F h hi p14 ⟨p3,p4,p5,p8,p11,p12,W,hW,p13,rfl⟩
   simp only [Dd,go_sem,↓reduceIte,p3,p4,p5,p8,p11,p12,p13,p14]
   exact ⟨W,hW,rfl,rfl⟩
  ·rintro i F h hi p14 ⟨p3,p4,p5,p8,p11,p12,W,hW,p13,rfl⟩
   have hlen:=Aba (t:=t) (s:=s) (n:=n) i
   rw [← hW] at hlen
   have b1:(W.length+1) * 8≤A7:=by unfold A7;omega
   obtain ⟨y,hy,hyl⟩:=Aa (hg.ok _ (Ap hi))
   have g2:=Az hi
   rw [hy] at g2
   cases d1:decide ((t.at y).kind=3) with
   | false =>
    have e:KG t n (s.has.getD i 0)=false:=by rw [hy];simp only [KG,Int.toNat_natCast,d1];rfl
    simp only [Dd,go_sem,↓reduceIte,p3,p4,p5,p8,p11,p12,p13,p14,hi,g2,hyl,A6 hyl,d1,nxH,A0]
    exact ⟨W,by rw [A3q hi e];exact hW,rfl,rfl⟩
   | true =>
   cases d2:decide ((t.at y).loc=(t.at n).loc) with
   | false =>
    have e:KG t n (s.has.getD i 0)=false:=by rw [hy];simp only [KG,Int.toNat_natCast,d1,d2];rfl
    simp only [Dd,go_sem,↓reduceIte,p3,p4,p5,p8,p11,p12,p13,p14,hi,g2,hyl,A6 hyl,d1,d2,nxH,A0]
    exact ⟨W,by rw [A3q hi e];exact hW,rfl,rfl⟩
   | true =>
   cases d3:decide ((t.at y).val=(t.at n).val) with
   | false =>
    have e:KG t n (s.has.getD i 0)=false:=by rw [hy];simp only [KG,Int.toNat_natCast,d1,d2,d3];rfl
    simp only [Dd,go_sem,↓reduceIte,p3,p4,p5,p8,p11,p12,p13,p14,hi,g2,hyl,A6 hyl,d1,d2,d3,nxH,A0]
    exact ⟨W,by rw [A3q hi e];exact hW,rfl,rfl⟩
   | true =>
    have e:KG t n (s.has.getD i 0)=true:=by rw [hy];simp only [KG,Int.toNat_natCast,d1,d2,d3];rfl
    simp only [Dd,go_sem,↓reduceIte,p3,p4,p5,p8,p11,p12,p13,p14,hi,g2,hyl,A6 hyl,d1,d2,d3,nxH,A0,b1,PM,List.length_append,List.length_map]
    exact ⟨W++[(y:Int)],by rw [Ahs hi e,hW,hy],by simp,rfl⟩
  ·rintro F h ⟨p3,p4,p5,p8,p11,p12,W,hW,p13,rfl⟩
   rw [← hW]
   cases d0:decide (W.length=0) with
   | true =>
    have d0':=of_decide_eq_true d0
    have d0i:decide ((W.length:Int)=0)=true:=decide_eq_true (by omega)
    rw [if_pos d0',Cx]
    simp only [Dd,go_sem,↓reduceIte,p3,p4,p5,p8,p11,p12,p13,d0,d0i,nxH,QM]
    rfl
   | false =>
    have d0':=of_decide_eq_false d0
    have d0i:decide ((W.length:Int)=0)=false:=decide_eq_false (by omega)
    rw [if_neg d0']
    have r2:=Js (e:=none) (a:=b) (l:=W.length) (by omega)
    have hbl:b % W.length < W.length:=Nat.mod_lt _ (by omega)
    have g3:=Az hbl
    obtain ⟨x,hx⟩:∃ x,x=W.getD (b % W.length) 0:=⟨_,rfl⟩
    rw [← hx] at g3 ⊢
    have hix:=ES (ty:=AG) (e:=1) (rows:=W.map eI) (by rw [List.length_map];omega)
    have hread:=fun (Q:VV→Prop)=>NO C t ht s hs ⟨hz.1,hz.2.1⟩ n x (Q:=Q)
    cases hm:HF t s n x with
    | none =>
     rw [hm,Cx] at hread
     rw [Cx]
     simp only [Dd,go_sem,↓reduceIte,p3,p4,p5,p8,p11,p12,p13,d0,d0i,r2,g3,hbl,hix,hread,nxH,QM,List.length_map]
     rfl
    | some s' =>
     rw [hm,Ca] at hread
     rw [Ca]
     simp only [Dd,go_sem,↓reduceIte,p3,p4,p5,p8,p11,p12,p13,d0,d0i,r2,g3,hbl,hix,hread,nxH,List.length_map]
  ·simp only [Dd,go_sem,↓reduceIte]
  ·simp only [Dd,go_sem,↓reduceIte]
   exact ⟨[],rfl,rfl,rfl⟩
 | false =>
 have c2':=of_decide_eq_false c2
 rw [if_neg c2']
 have c3:(t.at n).kind=3:=by omega
 obtain ⟨l0,l1⟩:=ht.wloc hnl (.inr c3)
 obtain ⟨loc,hloc⟩:=Int.eq_ofNat_of_zero_le l0
 have hll:loc < s.mo.length:=by have:=hg.big.mo;omega
 simp only [hloc,Int.toNat_natCast]
 obtain ⟨L,hL⟩:∃ L,L=s.mo.getD loc []:=⟨_,rfl⟩
 have gL:=Cv hll
 rw [← hL] at gL ⊢
 have hm:=hs.mi' loc
 rw [← hL] at hm
 have hL0:0 < L.length:=by
  have:=(hg.big.mi _ (Ap (d:=[]) hll)).1
  rw [← hL] at this
  cases L with
  | nil=>exact absurd rfl this
  | cons _ _=>simp
 have r3:B5 .rem none (.i .i64 (b:Int)) (.i .i64 3)=some (.i .i64 ((b % 3:Nat):Int)):=Js (l:=3) (by omega)
 have q3:B5 .quo none (.i .i64 (b:Int)) (.i .i64 3)=some (.i .i64 ((b / 3:Nat):Int)):=A0F (l:=3) (by omega) (by omega)
 have r4:=Js (e:=none) (a:=b / 3) (l:=L.length) hL0
 have r5:=fun h=>Js (e:=none) (a:=b / 3) (l:=L.length - 1) h
 have hdiv:=Nat.div_le_self b 3
 have hmd:=Nat.mod_le (b / 3) L.length
 have w4:IntKind.i64.wrap (1+((b / 3 % L.length:Nat):Int))=((1+b / 3 % L.length:Nat):Int):=by rw [AC (by omega) (by omega)];omega
 have hw:=fun (Q:VV→Prop)=>Mh C t ht s hs n ((1+b / 3 % L.length:Nat):Int) (Q:=Q)
 have bw:b / 3 % L.length≤1000:=by omega
 cases c5:decide (b % 3=0∧1 < L.length) with
 | false =>
  rw [if_neg (of_decide_eq_false c5)]
  have c5':=of_decide_eq_false c5
  cases hm:DZ t s n ((1+b / 3 % L.length:Nat):Int) with
  | none =>
   rw [hm,Cx] at hw
   rw [Cx]
   cases d1:decide (((b % 3:Nat):Int)=0) with
   | false =>
    simp only [Jd,Dd,go_sem,↓reduceIte,hfr,c0,c0i,r1,g1,hal,hnl,A6 hnl,c4,c2,hloc,hll,gL,r3,q3,r4,w4,d1,hw,QM,List.length_map,A0]
    rfl
   | true =>
    have d1':=of_decide_eq_true d1
    have d2:decide (1 < (L.length:Int))=false:=decide_eq_false (by omega)
    simp only [Jd,Dd,go_sem,↓reduceIte,hfr,c0,c0i,r1,g1,hal,hnl,A6 hnl,c4,c2,hloc,hll,gL,r3,q3,r4,w4,d1,d2,hw,QM,List.length_map,A0]
    rfl
  | some s' =>
   rw [hm,Ca] at hw
   rw [Ca]
   cases d1:decide (((b % 3:Nat):Int)=0) with
   | false =>
    simp only [Jd,Dd,go_sem,↓reduceIte,hfr,c0,c0i,r1,g1,hal,hnl,A6 hnl,c4,c2,hloc,hll,gL,r3,q3,r4,w4,d1,hw,List.length_map,A0]
   | true =>
    have d1':=of_decide_eq_true d1
    have d2:decide (1 < (L.length:Int))=false:=decide_eq_false (by omega)
    simp only [Jd,Dd,go_sem,↓reduceIte,hfr,c0,c0i,r1,g1,hal,hnl,A6 hnl,c4,c2,hloc,hll,gL,r3,q3,r4,w4,d1,d2,hw,List.length_map,A0]
 | true =>
  have c5':=of_decide_eq_true c5
  rw [if_pos c5']
  have d1:decide (((b % 3:Nat):Int)=0)=true:=decide_eq_true (by omega)
  have d2:decide (1 < (L.length:Int))=true:=decide_eq_true (by omega)
  have w1:IntKind.i64.wrap ((L.length:Int) - 1)=((L.length - 1:Nat):Int):=by rw [AC (by omega) (by omega)];omega
  have r5:=Js (e:=none) (a:=b / 3) (l:=L.length - 1) (by omega)
  have hmd2:=Nat.mod_le (b / 3) (L.length - 1)
  have w5:IntKind.i64.wrap (1+((b / 3 % (L.length - 1):Nat):Int))=((1+b / 3 % (L.length - 1):Nat):Int):=by
   generalize b / 3 % (L.length - 1)=z at hmd2 ⊢
   rw [AC (by omega) (by omega)];omega
  have hjn:=fun (Q:VV→Prop)=>XW C t ht s hs hz n ((1+b / 3 % (L.length - 1):Nat):Int) (Q:=Q)
  cases hj:M4 t s n ((1+b / 3 % (L.length - 1):Nat):Int) with
  | some s' =>
   rw [hj,Ca] at hjn
   simp only [Ca]
   simp only [Jd,Dd,go_sem,↓reduceIte,hfr,c0,c0i,r1,g1,hal,hnl,A6 hnl,c4,c2,hloc,hll,gL,r3,q3,r5,w5,w1,d1,d2,hjn,List.length_map,A0]
  | none =>
   rw [hj,Cx] at hjn
   simp only
   cases hm:DZ t s n ((1+b / 3 % L.length:Nat):Int) with
   | none =>
    rw [hm,Cx] at hw
    rw [Cx]
    simp only [Jd,Dd,go_sem,↓reduceIte,hfr,c0,c0i,r1,g1,hal,hnl,A6 hnl,c4,c2,hloc,hll,gL,r3,q3,r4,w4,r5,w5,w1,d1,d2,hjn,hw,QM,List.length_map,A0]
    rfl
   | some s' =>
    rw [hm,Ca] at hw
    rw [Ca]
    simp only [Jd,Dd,go_sem,↓reduceIte,hfr,c0,c0i,r1,g1,hal,hnl,A6 hnl,c4,c2,hloc,hll,gL,r3,q3,r4,w4,r5,w5,w1,d1,d2,hjn,hw,QM,List.length_map,A0]
end
def grH (s:A5):VH:=[some ⟨Ab,0,0,false,[[.nl,.nl,.nl]]⟩,some ⟨Ab,0,0,false,[TU s]⟩]
section
variable {V:Am} (C:Au V) {Q:VV→Prop}
include C
set_option maxRecDepth 4000 in
set_option maxHeartbeats 8000000 in
theorem JM (t:A2) (ht:A8 t) (m:List U8) (hl:m.length≤100) (hm:∀ x∈m,x.n < 256):VP V AdG [vT t,lU m,.b false] Q↔Q (J6 (Cz t m (m.length / 2))):=by
 refine Ad ?_
 rw [Ac C.c_z5.1 C.c_z5.2]
 simp only [AfN,Pw,go_sem,↓reduceIte,Mg C t ht]
 unfold VL
 rw [A0]
 refine AW (M:=Nat) (I:=fun k F h=>2 * k≤m.length∧A4.tmp F 1=lU m∧A4.tmp F 2 = .b false∧A4.tmp F 3 = .fp (eT t) 0∧A4.tmp F 6 = .p 0 0 0 0∧A4.tmp F 7 = .p 1 0 0 0∧A4.tmp F 8 = .i .i64 ((2 * k:Nat):Int)∧h=grH (Cz t m k)) (μ:=fun k=>m.length - 2 * k) ?_ 0 _ _ ⟨by omega,?_,?_,?_,?_,?_,?_,?_⟩
 ·rintro k F h ⟨hk,p1,p2,p3,p6,p7,p8,rfl⟩
  have w1:IntKind.i64.wrap (((2 * k:Nat):Int)+1)=((2 * k+1:Nat):Int):=by rw [AC (by omega) (by omega)];omega
  have w2:IntKind.i64.wrap (((2 * k:Nat):Int)+2)=((2 * (k+1):Nat):Int):=by rw [AC (by omega) (by omega)];omega
  by_cases c:2 * k+1 < m.length
  ·have ci:decide (((2 * k+1:Nat):Int) < (m.length:Int))=true:=decide_eq_true (by omega)
   have c0:2 * k < m.length:=by omega
   have g0:=AjN c0
   have g1:=AjN c
   have b0:=A8g hm (2 * k)
   have b1:=A8g hm (2 * k+1)
   have v0:IntKind.i64.wrap ((Pc m (2 * k):Nat):Int)=((Pc m (2 * k):Nat):Int):=AC (by omega) (by omega)
   have v1:IntKind.i64.wrap ((Pc m (2 * k+1):Nat):Int)=((Pc m (2 * k+1):Nat):Int):=AC (by omega) (by omega)
   have hn:=fun (Q:VV→Prop)=>ZH C t ht (Cz t m k) (Nr ht m k) (by omega) _ _ b0 b1 (Q:=Q)
   cases e:Ji t (Cz t m k) (Pc m (2 * k)) (Pc m (2 * k+1)) with
   | none =>
    rw [e,Cx] at hn
    simp only [A4s,Pw,go_sem,↓reduceIte,p1,p2,p3,p6,p7,p8,w1,w2,ci,c0,c,g0,g1,v0,v1,hn,grH,QM,A0]
    exact ⟨k+1,by omega,by omega,by rw [Lt e];exact ⟨rfl,rfl⟩⟩
   | some s' =>
    rw [e,Ca] at hn
    simp only [A4s,Pw,go_sem,↓reduceIte,p1,p2,p3,p6,p7,p8,w1,w2,ci,c0,c,g0,g1,v0,v1,hn,grH,A0]
    exact ⟨k+1,by omega,by omega,by rw [Lu e];exact ⟨rfl,rfl⟩⟩
  ·have ci:decide (2 * k+1 < m.length)=false:=decide_eq_false (by omega)
   have e:k=m.length / 2:=by omega
   simp only [A4s,Pw,go_sem,↓reduceIte,p1,p2,p3,p6,p7,p8,w1,w2,ci,grH,A0]
   rw [e]
 ·simp only [Pw,go_sem,↓reduceIte]
 ·simp only [Pw,go_sem,↓reduceIte]
 ·simp only [Pw,go_sem,↓reduceIte]
 ·simp only [Pw,go_sem,↓reduceIte]
 ·simp only [Pw,go_sem,↓reduceIte]
 ·simp only [Pw,go_sem,↓reduceIte]
 ·rfl
end
section
variable {V:Am} (C:Au V)
include C
end
end Go.AM
