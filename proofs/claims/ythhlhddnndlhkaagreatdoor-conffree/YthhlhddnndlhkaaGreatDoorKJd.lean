/-
  Own work, part of the proof of these laws: what functions compute.
-/
import Derived.Test.YthhlhddnndlhkaaGreatDoorKId
set_option maxRecDepth 10000
set_option maxHeartbeats 64000000
set_option linter.unusedVariables false
set_option linter.unusedSimpArgs false
set_option linter.unusedSectionVars false
set_option linter.unnecessarySimpa false
open Bool (and_eq_true false_eq_true)
open List (getD_eq_getElem?_getD length_map length_append length_take length_set length_cons take_of_length_le map_append filter_append append_assoc range_succ length_drop cons_append append_nil map_cons mem_cons map_nil set_append_right filter_cons mem_map)
namespace Go.AM
open Go Go.Proofs
section
variable {V:At} {m:Nat->Nat} {Q:Ex->A4->VH->Prop}
theorem A6v {M:Type} (I:M->A4->VH->Prop) (μ:M->Nat) {c:A2}
  (k:∀ x F h,I x F h->Vc V m c F h (fun e F' h'=>match e with | .norm=>¬ Qp h.length h h'/\∃ x',μ x' < μ x/\I x' F' h' | e=>Q e F' h')):∀ x F h,I x F h->Vc V m (.loop c) F h Q:=by
 have h3:∀ j x F h,μ x<=j->I x F h->Vc V m (.loop c) F h Q:=by
  intro j
  induction j with
  | zero =>
   intro x F h hj hi
   rw [Yr]
   refine (k x F h hi).mono fun e F' h' hq=>?_
   cases e with
   | norm=>obtain ⟨_,x',h1,_⟩:=hq;omega
   | _=>exact hq
  | succ j ih =>
   intro x F h hj hi
   rw [Yr]
   refine (k x F h hi).mono fun e F' h' hq=>?_
   cases e with
   | norm =>
    obtain ⟨h0,x',h1,h2⟩:=hq
    unfold gcF gcH
    rw [if_neg h0,if_neg h0]
    exact ih x' _ _ (by omega) h2
   | _=>exact hq
 exact fun x F h hi=>h3 _ x F h (Nat.le_refl _) hi
end
abbrev i7 (n:Nat):Nat:=n+1+1+1+1+1+1+1
def JK (mo:List (List (List Int))):Nat->VH
 | 0=>[]
 | k+1=>JK mo k++[some (AW D7 1 ((mo.getD k []).map Hv)),some ⟨Bx,1,0,false,[[.sl (i7 (2 * k)) (mo.getD k []).length 0 (mo.getD k []).length]]⟩]
theorem D0 (mo:List (List (List Int))):∀ k,(JK mo k).length=2 * k
 | 0=>rfl
 | k+1=>by rw [JK,length_append,D0 mo k];simp;omega
def EQ (mo:List (List (List Int))) (k:Nat):List (List VV):=(List.range k).map fun i=>[.sl (i7 (2 * i)) (mo.getD i []).length 0 (mo.getD i []).length]
theorem Yx (mo:List (List (List Int))) (k:Nat):(EQ mo k).length=k:=by simp [EQ]
theorem AgW (mo:List (List (List Int))) (k:Nat):EQ mo (k+1)=EQ mo k++[[.sl (i7 (2 * k)) (mo.getD k []).length 0 (mo.getD k []).length]]:=by
 unfold EQ
 rw [range_succ,map_append];rfl
theorem QQ (mo:List (List (List Int))) (k:Nat) (Y:VH):(JK mo k++Y)[2 * k]? = Y[0]?/\(JK mo k++Y)[2 * k+1]? = Y[1]?/\(JK mo k++Y)[2 * k+1+1]? = Y[2]?:=by
 have:=D0 mo k
 refine ⟨?_,?_,?_⟩<;>rw [List.getElem?_append_right (by omega)]<;>congr 1<;>omega
theorem A6L (mo:List (List (List Int))) (k:Nat) (Y:VH) (z:Option VO):(JK mo k++Y).set (2 * k) z=JK mo k++Y.set 0 z/\(JK mo k++Y).set (2 * k+1) z=JK mo k++Y.set 1 z:=by
 have:=D0 mo k
 refine ⟨?_,?_⟩
 .have e:=set_append_right (s:=(JK mo k:List (Option VO))) (t:=Y) (2 * k) z (by omega)
  rw [this,Nat.sub_self] at e
  exact e
 .have e:=set_append_right (s:=(JK mo k:List (Option VO))) (t:=Y) (2 * k+1) z (by omega)
  rw [this,Nat.add_sub_cancel_left] at e
  exact e
theorem Ah0 (mo:List (List (List Int))) (k:Nat) (a b:Option VO):List.take (2 * k+1) (JK mo k++[a,b])=JK mo k++[a]:=by
 have e:(JK mo k++[a,b])=(JK mo k++[a])++[b]:=by simp
 rw [e]
 have hl:(JK mo k++[a]).length=2 * k+1:=by rw [length_append,D0];rfl
 rw [<- hl]
 exact List.take_left
def cpG (x0 x1:Option VO) (s:A6) (k:Nat):VH:=x0::x1::some ⟨Af,0,0,false,[[.nl,.nl,.nl]]⟩::some (Yg AO 1 (s.has.map eI))::some (Yg AO 1 (s.jf.map eI)) ::
 some ⟨Af,0,0,false,[[.sl 3 (Hf s.has.length) 0 s.has.length,.sl 4 (Hf s.jf.length) 0 s.jf.length,.sl 6 (EQ s.mo k).length 0 (EQ s.mo k).length]]⟩::some (AW Bx 1 (EQ s.mo k))::JK s.mo k
section
variable {V:At} (C:Aq V)
include C
theorem Rj (s:A6) (hs:DL s) (x0 x1:Option VO) {Q:VV->VH->Prop}:NR V LO [Dy s] [x0,x1] Q ↔
  Q (.ag [.sl 3 (Hf s.has.length) 0 s.has.length,.sl 4 (Hf s.jf.length) 0 s.jf.length,.sl 6 (EQ s.mo s.mo.length).length 0 (EQ s.mo s.mo.length).length])
   (x0::x1::some ⟨Af,0,0,false,[[.sl 3 (Hf s.has.length) 0 s.has.length,.sl 4 (Hf s.jf.length) 0 s.jf.length,.sl 6 (EQ s.mo s.mo.length).length 0 (EQ s.mo s.mo.length).length]]⟩::(cpG x0 x1 s s.mo.length).drop 3):=by
 refine Pv ?_
 rw [GN C.h_z96]
 have h1:=hs.has
 have h2:=hs.jf
 have h3:=hs.mo
 have b1:s.has.length * 8<=Aa:=by unfold Aa;omega
 have b2:s.jf.length * 8<=Aa:=by unfold Aa;omega
 simp only [P7,go_sem,↓reduceIte,b1,b2]
 unfold VL
 rw [A0]
 refine A6v (M:=Nat) (I:=fun k F h=>k<=s.mo.length/\A4.tmp F 1 = .fp (Je s) 0/\A4.tmp F 2 = .p 2 0 0 0/\A4.tmp F 3 = .p 5 0 0 0/\A4.tmp F 4 = .i .i64 k/\h=cpG x0 x1 s k) (μ:=fun k=>s.mo.length - k) ?_ 0 _ _ ⟨Nat.zero_le _,?_,?_,?_,?_,?_⟩
 .rintro k F h ⟨h5,p1,p2,p3,p4,rfl⟩
  by_cases c:k < s.mo.length
  .have hm:=hs.mi' k
   have hw:IntKind.i64.wrap ((k:Int)+1)=((k+1:Nat):Int):=by rw [Az (by omega) (by omega)];omega
   simp only [Ac0,go_sem,↓reduceIte,p1,p2,p3,p4,c,C1 c,A0,cpG]
   have hT:=D0 s.mo k
   have hg:=fun Y=>QQ s.mo k Y
   have h0:=fun Y z=>A6L s.mo k Y z
   refine Ab (by decide) (s.mo.getD k []).length (by omega) (I:=fun j F h=>A4.tmp F 4 = .i .i64 k/\A4.tmp F 1 = .fp (Je s) 0/\A4.tmp F 2 = .p 2 0 0 0/\A4.tmp F 3 = .p 5 0 0 0/\∃ K,K=(s.mo.getD k []).take j/\A4.tmp F 5 = .sl (i7 (2 * k)) K.length 0 K.length/\h=cpG x0 x1 s k++[some (AW D7 1 (K.map Hv))]) ?_ ?_ ?_ 0 _ _ (Nat.zero_le _) ?_ ?_
   .rintro j F h hj q6 ⟨q4,q1,q2,q3,K,hK,q5,rfl⟩
    simp only [go_sem,↓reduceIte,q6,q4,q1,q2,q3,q5,C1 c]
    exact ⟨K,hK,rfl,rfl⟩
   .rintro j F h hj q6 ⟨q4,q1,q2,q3,K,hK,q5,rfl⟩
    have h4:(s.mo.getD k []).take (j+1)=K++[(s.mo.getD k []).getD j []]:=by
     rw [List.take_succ_eq_append_getElem hj,hK,getD_eq_getElem?_getD (l:=s.mo.getD k []),List.getElem?_eq_getElem hj];rfl
    have hc:=hs.mc' k j
    have hl:K.length=j:=by rw [hK,length_take];omega
    have b3:((s.mo.getD k []).getD j []).length * 8<=Aa:=by unfold Aa;omega
    have b4:(K.length+1) * 24<=Aa:=by unfold Aa;omega
    simp only [go_sem,↓reduceIte,q6,q4,q1,q2,q3,q5,C1 c,ET hj,c,hj,b3,b4,cpG,Aie,A0,length_append,length_map,hT,(hg _).1,(hg _).2.1,(hg _).2.2,(h0 _ _).1,(h0 _ _).2]
    exact ⟨K++[(s.mo.getD k []).getD j []],h4.symm,by simp,by rw [Ah0]⟩
   .rintro F h ⟨q4,q1,q2,q3,K,hK,q5,rfl⟩
    rw [List.take_length] at hK
    subst hK
    have hr:=Yx s.mo k
    have b4:((EQ s.mo k).length+1) * 24<=Aa:=by unfold Aa;omega
    simp only [go_sem,↓reduceIte,q4,q1,q2,q3,q5,b4,cpG,AdS,length_append,length_map,hT,(hg _).1,(hg _).2.1,(hg _).2.2,(h0 _ _).1,(h0 _ _).2,hw]
    refine ⟨?_,k+1,by omega,by omega,rfl,?_⟩
    .rintro (h | h)
     .have:=congrArg (fun o=>o.rows.length) h
      simp only [A37,length_append] at this
      simp at this
     .rw [List.all_append,and_eq_true] at h
      have:=h.2
      simp [Db,bel] at this
    .rw [AgW,JK,length_append]
     rfl
   .simp only [go_sem,↓reduceIte]
   .simp only [go_sem,↓reduceIte,p4,p1,p2,p3,cpG,hT]
    exact ⟨[],rfl,rfl,rfl⟩
  .have e:k=s.mo.length:=by omega
   subst e
   simp only [Ac0,go_sem,↓reduceIte,p1,p2,p3,p4,Nat.lt_irrefl,cpG]
 .simp only [go_sem,↓reduceIte]
 .simp only [go_sem,↓reduceIte]
 .simp only [go_sem,↓reduceIte]
 .simp only [go_sem,↓reduceIte]
 .rfl
end
def moG (x0:Option VO) (s:A6):VH:=x0::some ⟨Af,0,0,false,[[.nl,.nl,.nl]]⟩ ::
 some ⟨Af,0,0,false,[[.sl 3 (Hf s.has.length) 0 s.has.length,.sl 4 (Hf s.jf.length) 0 s.jf.length,.sl 6 (EQ s.mo s.mo.length).length 0 (EQ s.mo s.mo.length).length]]⟩::some (Yg AO 1 (s.has.map eI))::some (Yg AO 1 (s.jf.map eI)) ::
 some ⟨Af,0,0,false,[[.sl 3 (Hf s.has.length) 0 s.has.length,.sl 4 (Hf s.jf.length) 0 s.jf.length,.sl 6 (EQ s.mo s.mo.length).length 0 (EQ s.mo s.mo.length).length]]⟩::some (AW Bx 1 (EQ s.mo s.mo.length)) ::
 (JK s.mo s.mo.length++[some ⟨Af,0,0,false,[[.sl 3 (Hf s.has.length) 0 s.has.length,.sl 4 (Hf s.jf.length) 0 s.jf.length,.sl 6 (EQ s.mo s.mo.length).length 0 (EQ s.mo s.mo.length).length]]⟩])
abbrev moV (s S:A6) (v1 v2:Nat):VV:=.ag [.sl (i7 (2 * s.mo.length)+1) v1 0 S.has.length,.sl (i7 (2 * s.mo.length)+1+1) v2 0 S.jf.length,.sl 6 (EQ s.mo s.mo.length).length 0 (EQ s.mo s.mo.length).length]
abbrev moL (s S:A6) (v1 v2:Nat):List VV:=[.sl (i7 (2 * s.mo.length)+1) v1 0 S.has.length,.sl (i7 (2 * s.mo.length)+1+1) v2 0 S.jf.length,.sl 6 (EQ s.mo s.mo.length).length 0 (EQ s.mo s.mo.length).length]
def moE (x0:Option VO) (s S:A6) (v1 v2:Nat):VH:=x0::some ⟨Af,0,0,false,[moL s S v1 v2]⟩ ::
 some ⟨Af,0,0,false,[[.sl 3 (Hf s.has.length) 0 s.has.length,.sl 4 (Hf s.jf.length) 0 s.jf.length,.sl 6 (EQ s.mo s.mo.length).length 0 (EQ s.mo s.mo.length).length]]⟩::some (Yg AO 1 (s.has.map eI))::some (Yg AO 1 (s.jf.map eI)) ::
 some ⟨Af,0,0,false,[[.sl 3 (Hf s.has.length) 0 s.has.length,.sl 4 (Hf s.jf.length) 0 s.jf.length,.sl 6 (EQ s.mo s.mo.length).length 0 (EQ s.mo s.mo.length).length]]⟩::some (AW Bx 1 (EQ s.mo s.mo.length)) ::
 (JK s.mo s.mo.length++[some ⟨Af,0,0,false,[moL s S v1 v2]⟩,some ⟨AO,1,v1,false,S.has.map eI⟩,some ⟨AO,1,v2,false,S.jf.map eI⟩])
theorem Alr (x0:Option VO) (s:A6):(moG x0 s).length=2 * s.mo.length+8:=by
 have hT:=D0 s.mo s.mo.length
 simp [moG,hT]
section
variable {V:At} (C:Aq V)
include C
theorem A7w (t:A1) (ht:A5 t) (s:A6) (hs:DL s) {m:Nat} (hm:m < t.nodes.length) (kind w:Int) (hok:Cy t s m kind=true) (x0:Option VO):NR V EG [vT t,Dy s,.i .i64 m,.i .i64 kind,.i .i64 w] [x0] fun r h'=>∃ v1 v2,r = .tu [moV s (B6 s m w) v1 v2,.b true]/\h' = moE x0 s (B6 s m w) v1 v2:=by
 rw [GN C.h_z178]
 have hy:=fun (Q:VV->Prop)=>Bv C t ht s hs (Q:=Q)
 have q4:=hs.has
 have h1:BP t (m:Int)=true:=BM hm
 simp only [Cy,and_eq_true,Bool.not_eq_true',Int.toNat_natCast] at hok
 obtain ⟨⟨⟨⟨hf,_⟩,h2⟩,h3⟩,h4⟩:=hok
 have w1:=EB s.has (m:Int)
 have w2:=Cg s.has (t.at m).up
 rw [h3] at w1
 rw [h4] at w2
 have hx:=fun (Q:VV->VH->Prop)=>Rj C s hs x0 (some ⟨Af,0,0,false,[[.nl,.nl,.nl]]⟩) (Q:=Q)
 have hT:=D0 s.mo s.mo.length
 have hr:=Yx s.mo s.mo.length
 have hg:=fun Y=>QQ s.mo s.mo.length Y
 have h6:=fun Y z=>A6L s.mo s.mo.length Y z
 have hl:decide (i7 (2 * s.mo.length) < (moG x0 s).length)=true:=decide_eq_true (by rw [Alr];show 2 * s.mo.length+7 < _;omega)
 simp only [Cw,go_sem,↓reduceIte,hy,hf,AA C,h1,A7 hm,h2,Ao C s.has (by omega),w1,w2,hx,cpG,hT,(hg _).1,(hg _).2.1,(hg _).2.2,(h6 _ _).1,(h6 _ _).2]
 unfold VL
 rw [A0]
 have q2:s.jf.length=s.has.length:=by simp only [Bd,and_eq_true,decide_eq_true_eq] at hf;exact hf.1.1.1.1.2
 refine AT (M:=Nat) (I:=fun i F h=>i<=Br s.has m/\A4.tmp F 2 = .i .i64 m/\A4.tmp F 4 = .i .i64 w/\A4.tmp F 6 = .fp (Je s) 0/\A4.tmp F 10 = .p 1 0 0 0/\A4.tmp F 12 = .p (i7 (2 * s.mo.length)) 0 0 0/\A4.tmp F 13 = .i .i64 i/\h=moG x0 s) (μ:=fun i=>s.has.length - i) ?_ 0 _ _ ⟨Nat.zero_le _,?_,?_,?_,?_,?_,?_,rfl⟩
 .rintro i F h ⟨hi,p2,p4,p6,ho,hp,hq,rfl⟩
  have hk:=QZ hi
  have q3:=Dq s.has m
  by_cases c:i < s.has.length
  .cases c2:decide (s.has.getD i 0 < (m:Int)) with
   | true =>
    have hh:=of_decide_eq_true c2
    have q5:=hk.1 ⟨c,hh⟩
    have hw:IntKind.i64.wrap ((i:Int)+1)=((i+1:Nat):Int):=by rw [Az (by omega) (by omega)];omega
    simp only [Hc,go_sem,↓reduceIte,p2,p4,p6,ho,hp,hq,c,Ar c,c2,A0,hw,hl]
    refine ⟨i+1,by omega,by omega,?_⟩
    first | rfl | exact ⟨rfl,rfl⟩ | exact ⟨rfl,rfl,rfl⟩
   | false =>
    have hh:=of_decide_eq_false c2
    have e:i=Br s.has m:=by
     rcases Nat.lt_or_ge i (Br s.has m) with h | h
     .exact absurd (R0 h) hh
     .omega
    obtain ⟨A,hA⟩:∃ A,A=s.has.take i:=⟨_,rfl⟩
    obtain ⟨B,hB⟩:∃ B,B=s.has.drop i:=⟨_,rfl⟩
    obtain ⟨A',h0⟩:∃ A,A=s.jf.take i:=⟨_,rfl⟩
    obtain ⟨B',h5⟩:∃ B,B=s.jf.drop i:=⟨_,rfl⟩
    have lA:A.length=i:=by rw [hA,length_take];omega
    have q0:A'.length=i:=by rw [h0,length_take];omega
    have lB:B.length=s.has.length - i:=by rw [hB,length_drop]
    have hn:B'.length=s.jf.length - i:=by rw [h5,length_drop]
    have tB:List.take (s.has.length - i) B=B:=take_of_length_le (by omega)
    have hv:List.take (s.jf.length - i) B' = B':=take_of_length_le (by omega)
    have c1:i<=s.has.length:=by omega
    have he:i<=s.jf.length:=by omega
    have b1:A.length * 8<=Aa:=by unfold Aa;omega
    have hb:A'.length * 8<=Aa:=by unfold Aa;omega
    have b2:(A.length+1) * 8<=Aa:=by unfold Aa;omega
    have hc:(A'.length+1) * 8<=Aa:=by unfold Aa;omega
    obtain ⟨b0,Bs,rfl⟩:∃ b0 Bs,B=b0::Bs:=by
     cases B with
     | nil=>simp at lB;omega
     | cons b0 Bs=>exact ⟨b0,Bs,rfl⟩
    obtain ⟨h9,h7,rfl⟩:∃ b0 Bs,B' = b0::Bs:=by
     cases B' with
     | nil=>simp at hn;omega
     | cons b0 Bs=>exact ⟨b0,Bs,rfl⟩
    rw [length_cons] at lB hn
    have q1:List.take (s.has.length - i) (eI b0::List.map eI Bs)=eI b0::List.map eI Bs:=take_of_length_le (by simp;omega)
    have hu:List.take (s.jf.length - i) (eI h9::List.map eI h7)=eI h9::List.map eI h7:=take_of_length_le (by simp;omega)
    obtain ⟨X,hX⟩:∃ X,X=A++[(m:Int)]++b0::Bs:=⟨_,rfl⟩
    obtain ⟨X',hj⟩:∃ X,X=A'++[w]++h9::h7:=⟨_,rfl⟩
    have jX:List.map eI (A++[(m:Int)])++eI b0::List.map eI Bs=List.map eI X:=by rw [hX,map_append (l₁:=A++[(m:Int)])];rfl
    have hz:List.map eI (A'++[w])++eI h9::List.map eI h7 = List.map eI X':=by rw [hj,map_append (l₁:=A'++[w])];rfl
    have lX:A.length+1+(Bs.length+1)=X.length:=by rw [hX];simp;omega
    have ha:A'.length+1+(h7.length+1)=X'.length:=by rw [hj];simp;omega
    have b3:X.length * 8<=Aa:=by unfold Aa;omega
    have hd:X'.length * 8<=Aa:=by unfold Aa;omega
    have eX:X=Bg s.has (Br s.has m) m:=by rw [hX,Bg,<- e,<- hA,<- hB];simp
    have h8:X' = Bg s.jf (Br s.has m) w:=by rw [hj,Bg,<- e,<- h0,<- h5];simp
    simp only [Hc,go_sem,↓reduceIte,p2,p4,p6,ho,hp,hq,c,Ar c,c2,A0,moG,<- hA,<- hB,<- h0,<- h5,q1,hu,c1,he,b1,hb,b2,hc,b3,hd,length_append,length_map,hT,(hg _).1,(hg _).2.1,(hg _).2.2,(h6 _ _).1,(h6 _ _).2,jX,hz,lX,ha]
    exact ⟨_,_,by rw [eX,h8];rfl,by rw [eX,h8];rfl⟩
  .have e:i=Br s.has m:=by omega
   obtain ⟨A,hA⟩:∃ A,A=s.has.take i:=⟨_,rfl⟩
   obtain ⟨B,hB⟩:∃ B,B=s.has.drop i:=⟨_,rfl⟩
   obtain ⟨A',h0⟩:∃ A,A=s.jf.take i:=⟨_,rfl⟩
   obtain ⟨B',h5⟩:∃ B,B=s.jf.drop i:=⟨_,rfl⟩
   have lA:A.length=i:=by rw [hA,length_take];omega
   have q0:A'.length=i:=by rw [h0,length_take];omega
   have lB:B.length=s.has.length - i:=by rw [hB,length_drop]
   have hn:B'.length=s.jf.length - i:=by rw [h5,length_drop]
   have tB:List.take (s.has.length - i) B=B:=take_of_length_le (by omega)
   have hv:List.take (s.jf.length - i) B' = B':=take_of_length_le (by omega)
   have c1:i<=s.has.length:=by omega
   have he:i<=s.jf.length:=by omega
   have b1:A.length * 8<=Aa:=by unfold Aa;omega
   have hb:A'.length * 8<=Aa:=by unfold Aa;omega
   have b2:(A.length+1) * 8<=Aa:=by unfold Aa;omega
   have hc:(A'.length+1) * 8<=Aa:=by unfold Aa;omega
   obtain rfl:B=[]:=List.length_eq_zero_iff.1 (by omega)
   obtain rfl:B' = []:=List.length_eq_zero_iff.1 (by omega)
   have b3:(A.length+1+0) * 8<=Aa:=by unfold Aa;omega
   have hd:(A'.length+1+0) * 8<=Aa:=by unfold Aa;omega
   simp only [Hc,go_sem,↓reduceIte,p2,p4,p6,ho,hp,hq,c,A0,moG,<- hA,<- hB,<- h0,<- h5,tB,hv,c1,he,b1,hb,b2,hc,b3,hd,length_append,length_map,hT,(hg _).1,(hg _).2.1,(hg _).2.2,(h6 _ _).1,(h6 _ _).2]
   have eX:A++[(m:Int)]=Bg s.has (Br s.has m) m:=by rw [Bg,<- e,<- hA,<- hB]
   have h8:A'++[w]=Bg s.jf (Br s.has m) w:=by rw [Bg,<- e,<- h0,<- h5]
   have lX:A.length+1=(Bg s.has (Br s.has m) m).length:=by rw [<- eX];simp
   have ha:A'.length+1=(Bg s.jf (Br s.has m) w).length:=by rw [<- h8];simp
   exact ⟨_,_,by rw [lX,ha];rfl,by rw [lX,ha,eX,h8];rfl⟩
 .simp only [go_sem,↓reduceIte]
 .simp only [go_sem,↓reduceIte]
 .simp only [go_sem,↓reduceIte]
 .simp only [go_sem,↓reduceIte]
 .simp only [go_sem,↓reduceIte]
 .simp only [go_sem,↓reduceIte]
end
theorem A6K (mo:List (List (List Int))) {loc:Nat}:∀ {n:Nat},loc < n->∀ Y:VH,(JK mo n++Y)[2 * loc]? = some (some (AW D7 1 ((mo.getD loc []).map Hv)))
 | 0,h,_=>by omega
 | n+1,h,Y=>by
  rw [JK,append_assoc]
  by_cases c:loc=n
  .subst c
   rw [(QQ mo loc _).1];rfl
  .exact A6K mo (by omega) _
theorem MU (mo:List (List (List Int))) {n loc i:Nat} (hl:loc < n) (hi:i < n) (z:Option VO) (Y:VH):((JK mo n).set (2 * loc) z++Y)[2 * i]? = some (if i=loc then z else some (AW D7 1 ((mo.getD i []).map Hv))):=by
 have hT:=D0 mo n
 rw [List.getElem?_append_left (by rw [length_set];omega),List.getElem?_set]
 by_cases c:i=loc
 .subst c
  simp;omega
 .rw [if_neg (by omega),if_neg c]
  have:=A6K mo hi []
  rwa [append_nil] at this
theorem Aby (mo:List (List (List Int))) (n loc j:Nat) (z:Option VO) (Y:VH):((JK mo n).set (2 * loc) z++Y)[2 * n+j]? = Y[j]?:=by
 have hT:=D0 mo n
 rw [List.getElem?_append_right (by rw [length_set];omega),length_set,hT]
 congr 1;omega
theorem Ant (mo:List (List (List Int))) (n loc j:Nat) (z y:Option VO) (Y:VH):((JK mo n).set (2 * loc) z++Y).set (2 * n+j) y=(JK mo n).set (2 * loc) z++Y.set j y:=by
 have hT:=D0 mo n
 have hl:((JK mo n).set (2 * loc) z).length=2 * n:=by rw [length_set];exact hT
 have e:=set_append_right (s:=((JK mo n).set (2 * loc) z:List (Option VO))) (t:=Y) (2 * n+j) y (by omega)
 rw [hl,Nat.add_sub_cancel_left] at e
 exact e
theorem A1i {α:Type} {g:α->Option (α×List Nat)} {f h:Nat->α} {is:Nat->List Nat}:∀ (n:Nat),(∀ i,i < n->g (f i)=some (h i,is i))->∃ ids,Bh g ((List.range n).map f)=some ((List.range n).map h,ids):=by
 have app:∀ (a b:List α) {x y:List α} {i j:List Nat},Bh g a=some (x,i)->Bh g b=some (y,j)->Bh g (a++b)=some (x++y,i++j):=by
  intro a
  induction a with
  | nil=>intro b x y i j h1 h2;simp only [Bh,Option.some.injEq,Prod.mk.injEq] at h1;obtain ⟨rfl,rfl⟩:=h1;exact h2
  | cons a0 a ih =>
   intro b x y i j h1 h2
   simp only [Bh] at h1
   split at h1
   .rename_i y0 i0 ys is e1 e2
    simp only [Option.some.injEq,Prod.mk.injEq] at h1
    obtain ⟨rfl,rfl⟩:=h1
    simp only [cons_append,Bh,e1,ih b e2 h2,append_assoc]
   .cases h1
 intro n
 induction n with
 | zero=>intro _;exact ⟨[],rfl⟩
 | succ n ih =>
  intro hg
  obtain ⟨ids,e⟩:=ih fun i hi=>hg i (by omega)
  refine ⟨ids++(is n++[]),?_⟩
  rw [range_succ,map_append,map_append]
  refine app _ _ e ?_
  simp only [map_cons,map_nil,Bh,hg n (by omega)]
theorem ArP {H:VH} {d:Nat} {l:List (List Int)} {k:Nat} (hk:k < l.length) {v:VV} {X:List Int} {ids:List Nat} (hv:frz H (d+2) v=some (.ls (X.map eI),ids)) :
  Bh (fun row=>Bh (frz H (d+2)) row) (List.take l.length ((l.map Hv).set k [v]))=some ((l.set k X).map Hv,ids):=by
 rw [take_of_length_le (by simp)]
 rw [List.map_set]
 refine A1j (l.map Hv) k [v] (Hv X) ids ?_ (by simpa using hk) ?_
 .intro a ha
  obtain ⟨c,_,rfl⟩:=List.mem_map.1 ha
  simp only [go_sem,XO,↓reduceIte]
 .simp only [Bh,hv,append_nil]
theorem A6Y {f d:Nat} (hf:f=d+4) {mo:List (List (List Int))} {loc:Nat} (hll:loc < mo.length) {L:List (List Int)} (hL:mo.getD loc []=L) {a:Nat} (ha:a < L.length) (a0 a1 a2 a3 a4 a5 a6:Option VO) {Y:VH} {idx v id:Nat} {X:List Int} (hid:id=i7 (2 * mo.length+idx))
  (hY:Y[idx]? = some (some ⟨AO,1,v,false,X.map eI⟩)) :
  ∃ ids,Bh (fun row=>Bh (frz (a0::a1::a2::a3::a4::a5::a6::((JK mo mo.length).set (2 * loc) (some ⟨D7,1,L.length,false,(L.map Hv).set a [.sl id v 0 X.length]⟩)++Y)) f) row) (EQ mo mo.length)=some ((mo.set loc (L.set a X)).map DD,ids):=by
 subst hid
 subst hf
 obtain ⟨ids,e⟩:=A1i (g:=fun row=>Bh (frz (a0::a1::a2::a3::a4::a5::a6::((JK mo mo.length).set (2 * loc) (some ⟨D7,1,L.length,false,(L.map Hv).set a [.sl (i7 (2 * mo.length+idx)) v 0 X.length]⟩)++Y)) (d+4)) row)
  (f:=fun i=>[.sl (i7 (2 * i)) (mo.getD i []).length 0 (mo.getD i []).length]) (h:=fun i=>DD ((mo.set loc (L.set a X)).getD i [])) (is:=fun i=>if i=loc then [i7 (2 * i),i7 (2 * mo.length+idx)] else [i7 (2 * i)]) mo.length (fun i hi=>by
   by_cases c:i=loc
   .subst c
    have h1:=fun z=>MU mo hll hi z Y
    have h2:=fun z=>Aby mo mo.length i idx z Y
    rw [hL]
    have h3:(mo.set i (L.set a X)).getD i []=L.set a X:=by rw [getD_eq_getElem?_getD,List.getElem?_set];simp [hll]
    rw [h3]
    simp only [if_true] at h1
    simp only [go_sem,↓reduceIte,h1,h2,hY,length_map,length_set,↓reduceIte]
    rw [ArP ha (X:=X) (ids:=[i7 (2 * mo.length+idx)]) (by simp only [go_sem,↓reduceIte,h2,hY,length_map])]
    rfl
   .have h1:=fun z=>MU mo hll hi z Y
    have h3:(mo.set loc (L.set a X)).getD i []=mo.getD i []:=by rw [getD_eq_getElem?_getD,getD_eq_getElem?_getD,List.getElem?_set_ne (by omega)]
    rw [h3]
    simp only [c,if_false] at h1 ⊢
    simp only [go_sem,↓reduceIte,h1,length_map,↓reduceIte])
 refine ⟨ids,?_⟩
 rw [show EQ mo mo.length=(List.range mo.length).map fun i=>[VV.sl (i7 (2 * i)) (mo.getD i []).length 0 (mo.getD i []).length] from rfl,e]
 congr 2
 apply List.ext_getElem
 .simp
 .intro i h1 h2
  have hi:i < (mo.set loc (L.set a X)).length:=by simpa using h1
  rw [List.getElem_map,List.getElem_map,List.getElem_range,getD_eq_getElem?_getD,List.getElem?_eq_getElem hi];rfl
theorem AgV {mo:List (List (List Int))} {n loc:Nat} (h:loc < n):(EQ mo n)[loc]? = some [.sl (i7 (2 * loc)) (mo.getD loc []).length 0 (mo.getD loc []).length]:=by simp [EQ,h]
theorem AgX (mo:List (List (List Int))) (k j:Nat) (Y:VH):(JK mo k++Y)[2 * k+j]? = Y[j]?:=by
 have:=D0 mo k
 rw [List.getElem?_append_right (by omega)]
 congr 1;omega
theorem AgZ (mo:List (List (List Int))) (k j:Nat) (Y:VH) (z:Option VO):(JK mo k++Y).set (2 * k+j) z=JK mo k++Y.set j z:=by
 have hl:=D0 mo k
 have e:=set_append_right (s:=(JK mo k:List (Option VO))) (t:=Y) (2 * k+j) z (by omega)
 rw [hl,Nat.add_sub_cancel_left] at e
 exact e
theorem Ad1 (mo:List (List (List Int))) {n loc:Nat} (h:loc < n) (Y:VH) (z:Option VO):(JK mo n++Y).set (2 * loc) z=(JK mo n).set (2 * loc) z++Y:=by
 have hl:=D0 mo n
 exact List.set_append_left (2 * loc) z (by omega)
def P9 (t:A1) (s:A6) (n at_:Int):Option A6:=match D6 t s n 3 (-1) with
 | some s' =>
  let loc:=(t.at n.toNat).loc.toNat
  let L:=s'.mo.getD loc []
  if at_ < 1\/(L.length:Int)<=at_ then none else
   let c:=L.getD at_.toNat []
   let s'':A6:={ s' with mo:=s'.mo.set loc (L.set at_.toNat (Bg c (Br c n) n)) }
   if Bd t s'' = true then some s'' else none
 | none=>none
def joH (s S:A6) (v1 v2:Nat):VH:=moE (some ⟨Af,0,0,false,[[.nl,.nl,.nl]]⟩) s S v1 v2++[some DW,some DW,some DW,some ⟨Af,0,0,false,[moL s S v1 v2]⟩]
theorem Ak8 (s S:A6) (v1 v2:Nat):(joH s S v1 v2).length=2 * s.mo.length+14:=by
 have hT:=D0 s.mo s.mo.length
 simp [joH,moE,hT]
theorem NR.mono {V:At} {g:Nat} {args:List VV} {h:VH} {Q Q':VV->VH->Prop} (k:NR V g args h Q) (i:∀ v h',Q v h'->Q' v h'):NR V g args h Q':=by
 obtain ⟨vf,e,hb⟩:=k
 exact ⟨vf,e,hb.mono i⟩
theorem Ado {s:A6} (hs:DL s) (hz:s.has.length < 1000/\s.jf.length < 1000/\∀ l∈s.mo,∀ c∈l,c.length < 1000) (n w:Int) (hj:s.jf.length=s.has.length) {loc a:Nat} {L:List (List Int)} (hL:s.mo.getD loc []=L) (hll:loc < s.mo.length) {X:List Int} (hX:X.length<=1000) :
  DL ⟨(B6 s n w).has,(B6 s n w).jf,(B6 s n w).mo.set loc (L.set a X)⟩:=by
 have h1:=Dq s.has n
 have hm:=Ai (d:=[]) hll
 rw [hL] at hm
 refine ⟨by show (Bg _ _ _).length<=1000;rw [D1 h1];omega,by show (Bg _ _ _).length<=1000;rw [D1 (by omega)];omega,by show (s.mo.set _ _).length<=1000;rw [length_set];exact hs.mo,?_,?_⟩
 .intro l hl
  rcases List.mem_or_eq_of_mem_set hl with h | rfl
  .exact hs.mi l h
  .rw [length_set];exact hs.mi L hm
 .intro l hl c hc
  rcases List.mem_or_eq_of_mem_set hl with h | rfl
  .exact hs.mc l h c hc
  .rcases List.mem_or_eq_of_mem_set hc with h | rfl
   .exact hs.mc L hm c h
   .exact hX
section
variable {V:At} (C:Aq V)
include C
theorem A1O (t:A1) (ht:A5 t) (s:A6) (hs:DL s) (n kind w:Int) (h0:Cy t s n kind=false) (x0:Option VO) {Q:VV->VH->Prop}:NR V EG [vT t,Dy s,.i .i64 n,.i .i64 kind,.i .i64 w] [x0] Q↔Q (.tu [.ag [.nl,.nl,.nl],.b false]) [x0,some ⟨Af,0,0,false,[[.nl,.nl,.nl]]⟩]:=by
 refine Pv ?_
 rw [GN C.h_z178]
 have h5:=fun (Q:VV->Prop)=>Bv C t ht s hs (Q:=Q)
 have h6:=hs.has
 cases hf:Bd t s with
 | false =>
  simp only [Cw,go_sem,↓reduceIte,h5,hf]
 | true =>
 cases h1:BP t n with
 | false =>
  simp only [Cw,go_sem,↓reduceIte,h5,hf,AA C,h1]
 | true =>
 obtain ⟨m,rfl,hm⟩:=A8 h1
 cases h2:decide ((t.at m).kind=kind) with
 | false =>
  simp only [Cw,go_sem,↓reduceIte,h5,hf,AA C,h1,A7 hm,h2]
 | true =>
 have w1:=EB s.has (m:Int)
 cases h3:AU s.has (m:Int) with
 | true =>
  rw [h3] at w1
  simp only [Cw,go_sem,↓reduceIte,h5,hf,AA C,h1,A7 hm,h2,Ao C s.has (by omega),w1]
 | false =>
 rw [h3] at w1
 have w2:=Cg s.has (t.at m).up
 cases h4:AU s.has (t.at m).up with
 | false =>
  rw [h4] at w2
  simp only [Cw,go_sem,↓reduceIte,h5,hf,AA C,h1,A7 hm,h2,Ao C s.has (by omega),w1,w2]
 | true =>
  rw [Cy,hf,h1,Int.toNat_natCast,h2,h3,h4] at h0
  cases h0
theorem A7u (t:A1) (ht:A5 t) (s:A6) (hs:DL s) (hz:s.has.length < 1000/\s.jf.length < 1000/\∀ l∈s.mo,∀ c∈l,c.length < 1000) (n at_:Int) {Q:VV->Prop}:VP V UY [vT t,Dy s,.i .i64 n,.i .i64 at_] Q↔Q (KE (P9 t s n at_)):=by
 refine Ae ?_
 rw [Ad C.c_z122.1 C.c_z122.2]
 unfold P9 D6
 cases hok:Cy t s n 3 with
 | false =>
  have hm:=fun (x0:Option VO) (Q:VV->VH->Prop)=>A1O C t ht s hs n 3 (-1) hok x0 (Q:=Q)
  simp only [KE,Yk,false_eq_true,if_false] at hm ⊢
  simp only [RX,go_sem,↓reduceIte,hm]
  rfl
 | true =>
  have ho:=hok
  simp only [Cy,and_eq_true,decide_eq_true_eq] at ho
  obtain ⟨⟨⟨⟨hf,h1⟩,h2⟩,h3⟩,h4⟩:=ho
  obtain ⟨m,rfl,hn⟩:=A8 h1
  rw [Int.toNat_natCast] at h2
  have ql:s.mo.length=t.locs.length:=by simp only [Bd,and_eq_true,decide_eq_true_eq] at hf;exact hf.1.1.1.2
  have qb:s.jf.length=s.has.length:=by simp only [Bd,and_eq_true,decide_eq_true_eq] at hf;exact hf.1.1.1.1.2
  obtain ⟨l0,l1⟩:=ht.wloc hn (.inr h2)
  obtain ⟨loc,h7⟩:=Int.eq_ofNat_of_zero_le l0
  have h5:loc < s.mo.length:=by omega
  rw [if_pos rfl]
  simp only [Int.toNat_natCast,h7]
  simp only [RX,go_sem,↓reduceIte]
  refine NR.mono (A7w C t ht s hs hn 3 (-1) hok _) ?_
  rintro _ _ ⟨v1,v2,rfl,rfl⟩
  have hT:=D0 s.mo s.mo.length
  have hr:=Yx s.mo s.mo.length
  have hk:=AgV (mo:=s.mo) h5
  have hh:=fun Y=>A6K s.mo h5 Y
  have hg:=fun Y=>QQ s.mo s.mo.length Y
  have hu:loc < (EQ s.mo s.mo.length).length:=by omega
  have hq:=G8 (ty:=Bx) (e:=1) (rows:=EQ s.mo s.mo.length) (by omega)
  have hj:=fun j Y=>AgX s.mo s.mo.length j Y
  have hc:=fun j Y z=>AgZ s.mo s.mo.length j Y z
  have qc:=fun Y z=>Ad1 s.mo h5 Y z
  obtain ⟨L,hL⟩:∃ L,L=(B6 s m (-1)).mo.getD loc []:=⟨_,rfl⟩
  have h6:s.mo.getD loc []=L:=hL.symm
  have qe:=hs.mi' loc
  rw [<- hL]
  rw [h6] at hk hh qe
  cases c1:decide (at_ < 1) with
  | true =>
   rw [if_pos (.inl (of_decide_eq_true c1))]
   simp only [KE,Yk]
   simp only [go_sem,↓reduceIte,moE,hT,hk,hh,A7 hn,h7,h5,hj 6,hc 6,c1]
   rfl
  | false =>
  have qg:=of_decide_eq_false c1
  obtain ⟨a,rfl⟩:=Int.eq_ofNat_of_zero_le (show 0<=at_ by omega)
  have q6:decide ((L.length:Int)<=(a:Int))=decide (L.length<=a):=decide_eq_decide.2 ⟨fun h=>by omega,fun h=>by omega⟩
  cases c2:decide (L.length<=a) with
  | true =>
   have:=of_decide_eq_true c2
   rw [if_pos (.inr (by omega))]
   simp only [KE,Yk]
   simp only [go_sem,↓reduceIte,moE,hT,hk,hh,A7 hn,h7,h5,hu,hq,hj 6,hc 6,c1,q6,c2]
   rfl
  | false =>
  have qh:=of_decide_eq_false c2
  have c3:a < L.length:=by omega
  rw [if_neg (by omega),Int.toNat_natCast]
  obtain ⟨c,hp⟩:∃ c,c=L.getD a []:=⟨_,rfl⟩
  have hx:L[a]? = some c:=by rw [ET c3,hp]
  have qd:=hs.mc' loc a
  rw [h6,<- hp] at qd
  have qi:c.length < 1000:=by
   have hm:=Ai (d:=[]) h5
   rw [h6] at hm
   refine hz.2.2 L hm c ?_
   rw [hp]
   exact Ai c3
  rw [<- hp]
  have hb:=G8 (ty:=D7) (e:=1) (rows:=L.map Hv) (by rw [length_map];omega)
  simp only [go_sem,↓reduceIte,moE,hT,hk,hh,A7 hn,h7,h5,hu,hq,hj 6,hc 6,c1,q6,c2,hx,c3,hb,length_map]
  have qa:AW D7 1 (L.map Hv) = ⟨D7,1,L.length,false,L.map Hv⟩:=by
   unfold AW
   rw [if_neg (by rw [length_map];omega),length_map]
  have q8:decide (i7 (2 * s.mo.length+6)=2 * s.mo.length+7+1+1+1+1+1+1+1)=false:=decide_eq_false (by show ¬ 2 * s.mo.length+6+7=2 * s.mo.length+7+7;omega)
  have q7:decide (6=2 * s.mo.length+7+1+1+1+1+1+1+1)=false:=decide_eq_false (by omega)
  have q9:decide (i7 (2 * loc)=2 * s.mo.length+7+1+1+1+1+1+1+1)=false:=decide_eq_false (by show ¬ 2 * loc+7=2 * s.mo.length+7+7;omega)
  have h0:=fun j z Y=>Aby s.mo s.mo.length loc j z Y
  have hv:=fun j z y Y=>Ant s.mo s.mo.length loc j z y Y
  have hl:∀ z Y,((JK s.mo s.mo.length).set (2 * loc) z++Y)[2 * loc]? = some z:=fun z Y=>by rw [MU s.mo h5 h5 z Y,if_pos rfl]
  unfold VL
  rw [A0]
  refine AT (M:=Nat) (I:=fun i F h=>i<=Br c m/\A4.tmp F 2 = .i .i64 m/\A4.tmp F 3 = .i .i64 a/\A4.tmp F 4 = .fp (eT t) 0/\A4.tmp F 8 = .p 0 0 0 0/\A4.tmp F 10 = .p (i7 (2 * s.mo.length+6)) 0 0 0/\A4.tmp F 12 = .i .i64 loc/\A4.tmp F 13=lI c/\A4.tmp F 14 = .i .i64 i/\h=joH s (B6 s m (-1)) v1 v2) (μ:=fun i=>c.length - i) ?_ 0 _ _ ⟨Nat.zero_le _,?_,?_,?_,?_,?_,?_,?_,?_,?_⟩
  .rintro i F h ⟨hi,p2,p3,p4,p8,he,q3,q4,q5,rfl⟩
   have q0:=QZ hi
   have qj:=Dq c m
   have q1:decide (i7 (2 * s.mo.length+6) < (joH s (B6 s m (-1)) v1 v2).length)=true:=decide_eq_true (by rw [Ak8];show 2 * s.mo.length+6+7 < _;omega)
   by_cases ci:i < c.length
   .cases ci2:decide (c.getD i 0 < (m:Int)) with
    | true =>
     have h8:=of_decide_eq_true ci2
     have qk:=q0.1 ⟨ci,h8⟩
     have hw:IntKind.i64.wrap ((i:Int)+1)=((i+1:Nat):Int):=by rw [Az (by omega) (by omega)];omega
     simp only [YG,go_sem,↓reduceIte,p2,p3,p4,p8,he,q3,q4,q5,ci,Ar ci,ci2,A0,hw,q1]
     exact ⟨i+1,by omega,by omega,rfl,rfl⟩
    | false =>
     have h8:=of_decide_eq_false ci2
     have e:i=Br c m:=by
      rcases Nat.lt_or_ge i (Br c m) with h | h
      .exact absurd (R0 h) h8
      .omega
     obtain ⟨A,hA⟩:∃ A,A=c.take i:=⟨_,rfl⟩
     obtain ⟨B,hB⟩:∃ B,B=c.drop i:=⟨_,rfl⟩
     have lA:A.length=i:=by rw [hA,length_take];omega
     have lB:B.length=c.length - i:=by rw [hB,length_drop]
     have k1:i<=c.length:=by omega
     have b1:A.length * 8<=Aa:=by unfold Aa;omega
     have b2:(A.length+1) * 8<=Aa:=by unfold Aa;omega
     obtain ⟨b0,Bs,rfl⟩:∃ b0 Bs,B=b0::Bs:=by
      cases B with
      | nil=>simp at lB;omega
      | cons b0 Bs=>exact ⟨b0,Bs,rfl⟩
     rw [length_cons] at lB
     have qf:List.take (c.length - i) (eI b0::List.map eI Bs)=eI b0::List.map eI Bs:=take_of_length_le (by simp;omega)
     obtain ⟨X,hX⟩:∃ X,X=A++[(m:Int)]++b0::Bs:=⟨_,rfl⟩
     have jX:List.map eI (A++[(m:Int)])++eI b0::List.map eI Bs=List.map eI X:=by rw [hX,map_append (l₁:=A++[(m:Int)])];rfl
     have lX:A.length+1+(Bs.length+1)=X.length:=by rw [hX];simp;omega
     have b3:X.length * 8<=Aa:=by unfold Aa;omega
     have eX:X=Bg c (Br c m) m:=by rw [hX,Bg,<- e,<- hA,<- hB];simp
     rw [<- eX]
     simp only [YG,go_sem,↓reduceIte,p2,p3,p4,p8,he,q3,q4,q5,ci,Ar ci,ci2,A0,joH,moE,cons_append,append_assoc,List.nil_append,hT,hk,hh,h5,hu,hq,hb,qa,hj 6,hj 7,hc 6,hc 7,qc,h0 1,h0 2,h0 6,h0 7,hv 6,hv 7,hl,q8,q7,q9,k1,<- hA,<- hB,qf,b1,b2,b3,jX,lX,c3,hx,length_append,length_map]
     obtain ⟨ids,hy⟩:=A6Y (f:=6) (d:=2) rfl h5 h6 c3 (some ⟨Af,0,0,false,[[.nl,.nl,.nl]]⟩) (some ⟨Af,0,0,false,[moL s (B6 s m (-1)) v1 v2]⟩) (some ⟨Af,0,0,false,[[.sl 3 (Hf s.has.length) 0 s.has.length,.sl 4 (Hf s.jf.length) 0 s.jf.length,.sl 6 (EQ s.mo s.mo.length).length 0 (EQ s.mo s.mo.length).length]]⟩) (some (Yg AO 1 (s.has.map eI))) (some (Yg AO 1 (s.jf.map eI))) (some ⟨Af,0,0,false,[[.sl 3 (Hf s.has.length) 0 s.has.length,.sl 4 (Hf s.jf.length) 0 s.jf.length,.sl 6 (EQ s.mo s.mo.length).length 0 (EQ s.mo s.mo.length).length]]⟩) (some (AW Bx 1 (EQ s.mo s.mo.length)))
      (Y:=[some ⟨Af,0,0,false,[moL s (B6 s m (-1)) v1 v2]⟩,some ⟨AO,1,v1,false,(B6 s m (-1)).has.map eI⟩,some ⟨AO,1,v2,false,(B6 s m (-1)).jf.map eI⟩,some DW,some DW,some DW,some ⟨Af,0,0,false,[moL s (B6 s m (-1)) v1 v2]⟩,some ⟨AO,1,Hf A.length+1+1,false,X.map eI⟩]) (idx:=7) (id:=2 * s.mo.length+7+1+1+1+1+1+1+1) (X:=X) (v:=Hf A.length+1+1) (by show _=2 * s.mo.length+7+7;omega) rfl
     simp only [go_sem,↓reduceIte,hy]
     have hd:=Ado hs hz (m:Int) (-1) qb h6 h5 (a:=a) (X:=X) (by omega)
     have ha:=fun (Q:VV->Prop)=>Bv C t ht _ hd (Q:=Q)
     have eM:(B6 s m (-1)).mo=s.mo:=rfl
     simp only [eM] at ha ⊢
     cases hff:Bd t ⟨(B6 s m (-1)).has,(B6 s m (-1)).jf,s.mo.set loc (L.set a X)⟩ with
     | false =>
      rw [if_neg (by decide)]
      simp only [go_sem,↓reduceIte,p8,he,h0 1,h0 2,h0 6,moL,ha,hff]
      rfl
     | true =>
      rw [if_pos rfl]
      simp only [go_sem,↓reduceIte,p8,he,h0 1,h0 2,h0 6,moL,ha,hff]
      obtain ⟨q2,h9⟩:=A6Y (f:=5) (d:=1) rfl h5 h6 c3 (some ⟨Af,0,0,false,[moL s (B6 s m (-1)) v1 v2]⟩) (some ⟨Af,0,0,false,[moL s (B6 s m (-1)) v1 v2]⟩) (some ⟨Af,0,0,false,[[.sl 3 (Hf s.has.length) 0 s.has.length,.sl 4 (Hf s.jf.length) 0 s.jf.length,.sl 6 (EQ s.mo s.mo.length).length 0 (EQ s.mo s.mo.length).length]]⟩) (some (Yg AO 1 (s.has.map eI))) (some (Yg AO 1 (s.jf.map eI))) (some ⟨Af,0,0,false,[[.sl 3 (Hf s.has.length) 0 s.has.length,.sl 4 (Hf s.jf.length) 0 s.jf.length,.sl 6 (EQ s.mo s.mo.length).length 0 (EQ s.mo s.mo.length).length]]⟩) (some (AW Bx 1 (EQ s.mo s.mo.length)))
       (Y:=[some ⟨Af,0,0,false,[moL s (B6 s m (-1)) v1 v2]⟩,some ⟨AO,1,v1,false,(B6 s m (-1)).has.map eI⟩,some ⟨AO,1,v2,false,(B6 s m (-1)).jf.map eI⟩,some DW,some DW,some DW,some ⟨Af,0,0,false,[moL s (B6 s m (-1)) v1 v2]⟩,some ⟨AO,1,Hf A.length+1+1,false,X.map eI⟩]) (idx:=7) (id:=2 * s.mo.length+7+1+1+1+1+1+1+1) (X:=X) (v:=Hf A.length+1+1) (by show _=2 * s.mo.length+7+7;omega) rfl
      simp only [go_sem,↓reduceIte,h9]
      rfl
   .have e:i=Br c m:=by omega
    obtain ⟨A,hA⟩:∃ A,A=c.take i:=⟨_,rfl⟩
    obtain ⟨B,hB⟩:∃ B,B=c.drop i:=⟨_,rfl⟩
    have lA:A.length=i:=by rw [hA,length_take];omega
    have lB:B.length=c.length - i:=by rw [hB,length_drop]
    have k1:i<=c.length:=by omega
    have b1:A.length * 8<=Aa:=by unfold Aa;omega
    have b2:(A.length+1) * 8<=Aa:=by unfold Aa;omega
    obtain rfl:B=[]:=List.length_eq_zero_iff.1 (by omega)
    have tB:List.take (c.length - i) ([]:List Int)=[]:=List.take_nil
    have b3:(A.length+1+0) * 8<=Aa:=by unfold Aa;omega
    obtain ⟨X,hX⟩:∃ X,X=A++[(m:Int)]:=⟨_,rfl⟩
    have lX:A.length+1=X.length:=by rw [hX];simp
    have b4:X.length * 8<=Aa:=by rw [<- lX];exact b2
    have b5:(X.length+0) * 8<=Aa:=b4
    have eX:X=Bg c (Br c m) m:=by rw [hX,Bg,<- e,<- hA,<- hB]
    rw [<- eX]
    simp only [YG,go_sem,↓reduceIte,p2,p3,p4,p8,he,q3,q4,q5,ci,A0,joH,moE,cons_append,append_assoc,List.nil_append,hT,hk,hh,h5,hu,hq,hb,qa,hj 6,hj 7,hc 6,hc 7,qc,h0 1,h0 2,h0 6,h0 7,hv 6,hv 7,hl,q8,q7,q9,k1,<- hA,<- hB,tB,b1,b2,b3,b4,b5,lX,<- hX,c3,hx,length_append,length_map]
    obtain ⟨ids,hy⟩:=A6Y (f:=6) (d:=2) rfl h5 h6 c3 (some ⟨Af,0,0,false,[[.nl,.nl,.nl]]⟩) (some ⟨Af,0,0,false,[moL s (B6 s m (-1)) v1 v2]⟩) (some ⟨Af,0,0,false,[[.sl 3 (Hf s.has.length) 0 s.has.length,.sl 4 (Hf s.jf.length) 0 s.jf.length,.sl 6 (EQ s.mo s.mo.length).length 0 (EQ s.mo s.mo.length).length]]⟩) (some (Yg AO 1 (s.has.map eI))) (some (Yg AO 1 (s.jf.map eI))) (some ⟨Af,0,0,false,[[.sl 3 (Hf s.has.length) 0 s.has.length,.sl 4 (Hf s.jf.length) 0 s.jf.length,.sl 6 (EQ s.mo s.mo.length).length 0 (EQ s.mo s.mo.length).length]]⟩) (some (AW Bx 1 (EQ s.mo s.mo.length)))
     (Y:=[some ⟨Af,0,0,false,[moL s (B6 s m (-1)) v1 v2]⟩,some ⟨AO,1,v1,false,(B6 s m (-1)).has.map eI⟩,some ⟨AO,1,v2,false,(B6 s m (-1)).jf.map eI⟩,some DW,some DW,some DW,some ⟨Af,0,0,false,[moL s (B6 s m (-1)) v1 v2]⟩,some ⟨AO,1,Hf A.length+1,false,X.map eI⟩]) (idx:=7) (id:=2 * s.mo.length+7+1+1+1+1+1+1+1) (X:=X) (v:=Hf A.length+1) (by show _=2 * s.mo.length+7+7;omega) rfl
    simp only [go_sem,↓reduceIte,hy]
    have hd:=Ado hs hz (m:Int) (-1) qb h6 h5 (a:=a) (X:=X) (by omega)
    have ha:=fun (Q:VV->Prop)=>Bv C t ht _ hd (Q:=Q)
    have eM:(B6 s m (-1)).mo=s.mo:=rfl
    simp only [eM] at ha ⊢
    cases hff:Bd t ⟨(B6 s m (-1)).has,(B6 s m (-1)).jf,s.mo.set loc (L.set a X)⟩ with
    | false =>
     rw [if_neg (by decide)]
     simp only [go_sem,↓reduceIte,p8,he,h0 1,h0 2,h0 6,moL,ha,hff]
     rfl
    | true =>
     rw [if_pos rfl]
     simp only [go_sem,↓reduceIte,p8,he,h0 1,h0 2,h0 6,moL,ha,hff]
     obtain ⟨q2,h9⟩:=A6Y (f:=5) (d:=1) rfl h5 h6 c3 (some ⟨Af,0,0,false,[moL s (B6 s m (-1)) v1 v2]⟩) (some ⟨Af,0,0,false,[moL s (B6 s m (-1)) v1 v2]⟩) (some ⟨Af,0,0,false,[[.sl 3 (Hf s.has.length) 0 s.has.length,.sl 4 (Hf s.jf.length) 0 s.jf.length,.sl 6 (EQ s.mo s.mo.length).length 0 (EQ s.mo s.mo.length).length]]⟩) (some (Yg AO 1 (s.has.map eI))) (some (Yg AO 1 (s.jf.map eI))) (some ⟨Af,0,0,false,[[.sl 3 (Hf s.has.length) 0 s.has.length,.sl 4 (Hf s.jf.length) 0 s.jf.length,.sl 6 (EQ s.mo s.mo.length).length 0 (EQ s.mo s.mo.length).length]]⟩) (some (AW Bx 1 (EQ s.mo s.mo.length)))
      (Y:=[some ⟨Af,0,0,false,[moL s (B6 s m (-1)) v1 v2]⟩,some ⟨AO,1,v1,false,(B6 s m (-1)).has.map eI⟩,some ⟨AO,1,v2,false,(B6 s m (-1)).jf.map eI⟩,some DW,some DW,some DW,some ⟨Af,0,0,false,[moL s (B6 s m (-1)) v1 v2]⟩,some ⟨AO,1,Hf A.length+1,false,X.map eI⟩]) (idx:=7) (id:=2 * s.mo.length+7+1+1+1+1+1+1+1) (X:=X) (v:=Hf A.length+1) (by show _=2 * s.mo.length+7+7;omega) rfl
     simp only [go_sem,↓reduceIte,h9]
     rfl
  .simp only [go_sem,↓reduceIte]
  .simp only [go_sem,↓reduceIte]
  .simp only [go_sem,↓reduceIte]
  .simp only [go_sem,↓reduceIte]
  .simp only [go_sem,↓reduceIte]
  .simp only [go_sem,↓reduceIte]
  .simp only [go_sem,↓reduceIte]
  .simp only [go_sem,↓reduceIte]
  .simp only [go_sem,↓reduceIte,joH,moE]
end
theorem GL.kind {t:A1}:∀ {n u e:Nat},GL t n u e->∀ m,u < m->m < e->(t.at m).kind=2\/(t.at m).kind=3\/(t.at m).kind=4:=by
 intro n
 induction n with
 | zero=>intro u e h;exact absurd h (by simp [GL])
 | succ n ih =>
  intro u e h m h1 h2
  obtain ⟨⟨_,ht,_⟩,h⟩:=h
  rcases h with ⟨_,_,rfl⟩ | ⟨c,_,_,al,hb⟩ | ⟨c,_,_,vals,k,loc,mode,_,_,hk0,hke,hloc,hs,_⟩
  .omega
  .by_cases e1:m=u+1
   .subst e1
    simp only [Do,Bool.or_eq_true,and_eq_true,decide_eq_true_eq] at al
    rcases al with h | h
    .exact .inr (.inr h.1.1.1.1.1)
    .exact .inr (.inl h.1.1.1)
   .exact ih hb m (by omega) h2
  .obtain ⟨v,hv,a,b⟩:=Cx (k:=k) (m:=m) vals (by omega) (by omega)
   obtain ⟨s1,s2,s3⟩:=hs v hv
   by_cases e1:m=k v
   .subst e1
    simp only [EJ,and_eq_true,decide_eq_true_eq] at s2
    exact .inl s2.1.1.1.1
   .exact ih s3 m (by omega) b
theorem A5.kind {t:A1} (h:A5 t) {m:Nat} (h2:m < t.nodes.length) (h3:0<=(t.at m).up):(t.at m).kind=2\/(t.at m).kind=3\/(t.at m).kind=4:=by
 by_cases c:m < t.locs.length
 .have:=(h.init m c).up;omega
 .obtain ⟨s,h0,he,hs⟩:=h.thr
  obtain ⟨v,hv,a,b⟩:=Cx (k:=s) (m:=m) t.regs.length (by omega) (by omega)
  obtain ⟨hb,n,hn⟩:=hs v hv
  by_cases e1:m=s v
  .subst e1
   simp only [Eu,and_eq_true,decide_eq_true_eq] at hb
   have:=hb.1.1.1.1.1.2
   omega
  .exact hn.kind m (by omega) b
structure Gr (t:A1) (s:A6) (k:Nat):Prop where
 big:Big t s k
 ok:∀ x∈s.has,BP t x=true
theorem Gr.sz {t:A1} (ht:A5 t) {s:A6} {k:Nat} (h:Gr t s k) (hk:k<=100):DL s:=h.big.sz ht hk
theorem Gr.sz' {t:A1} {s:A6} {k:Nat} (h:Gr t s k) (hk:k<=100):s.has.length < 1000/\s.jf.length < 1000/\∀ l∈s.mo,∀ c∈l,c.length < 1000 :=
 ⟨by have:=h.big.has;omega,by have:=h.big.jf;omega,fun l hl c hc=>by have:=h.big.mc l hl c hc;omega⟩
theorem A29 {t:A1} (ht:A5 t):Gr t (Bu t) 0:=by
 refine ⟨AfB ht,fun x hx=>?_⟩
 simp only [Bu,EX,mem_map,List.mem_filter,List.mem_range] at hx
 obtain ⟨i,⟨hi,_⟩,rfl⟩:=hx
 exact BM hi
theorem NC {t:A1} {s s':A6} {k:Nat} (h:Gr t s k) {n kind w:Int} (e:D6 t s n kind w=some s'):Gr t s' (k+1):=by
 unfold D6 at e
 split at e
 .rename_i h0
  cases e
  simp only [Cy,Bd,and_eq_true,decide_eq_true_eq] at h0
  refine ⟨AhK h.big h0.1.1.1.1.1.1.1.1.2 n w,?_⟩
  intro x hx
  simp only [B6,Bg,List.mem_append,mem_cons] at hx
  rcases hx with hx | rfl | hx
  .exact h.ok x (List.mem_of_mem_take hx)
  .exact h0.1.1.1.2
  .exact h.ok x (List.mem_of_mem_drop hx)
 .cases e
theorem AlL {t:A1} {s s':A6} {k:Nat} (h:Gr t s k) {n w:Int} (e:JZ t s n w=some s'):Gr t s' (k+1):=by
 unfold JZ at e
 split at e
 .rename_i x hx
  split at e
  .cases e;exact NC h hx
  .cases e
 .cases e
theorem Aid {t:A1} {s:A6} {k loc:Nat} (h:Gr t s (k+1)) {L:List (List Int)} (h0:L≠[]) (h1:L.length<=2+k) (h2:∀ c∈L,c.length<=2+k):Gr t { s with mo:=s.mo.set loc L } (k+1):=by
 refine ⟨⟨h.big.has,h.big.jf,by rw [length_set];exact h.big.mo,?_,?_⟩,h.ok⟩
 .intro l hl
  rcases List.mem_or_eq_of_mem_set hl with hl | rfl
  .exact h.big.mi l hl
  .exact ⟨h0,by omega⟩
 .intro l hl c hc
  rcases List.mem_or_eq_of_mem_set hl with hl | rfl
  .exact h.big.mc l hl c hc
  .have:=h2 c hc;omega
theorem Big.row {t:A1} {s:A6} {k:Nat} (h:Big t s k) (loc:Nat):(s.mo.getD loc []).length<=1+k/\∀ c∈s.mo.getD loc [],c.length<=1+k:=by
 by_cases hl:loc < s.mo.length
 .have:=Ai (d:=[]) hl
  exact ⟨(h.mi _ this).2,fun c hc=>h.mc _ this c hc⟩
 .rw [getD_eq_getElem?_getD,List.getElem?_eq_none (by omega)]
  simp
theorem Ady {t:A1} {s s':A6} {n kind w:Int} (e:D6 t s n kind w=some s'):s'.mo=s.mo:=by
 unfold D6 at e
 split at e
 .cases e;rfl
 .cases e
theorem A2q {t:A1} {s s':A6} {k:Nat} (h:Gr t s k) {n w:Int} (e:EM t s n w=some s'):Gr t s' (k+1):=by
 unfold EM at e
 split at e
 .rename_i x hx
  have hg:=NC h hx
  have hm:=Ady hx
  split at e
  .cases e
  .cases e
   have hr:=h.big.row (t.at n.toNat).loc.toNat
   rw [<- hm] at hr
   refine Aid hg (by simp) ?_ ?_
   .simp only [length_append,length_cons,length_take,length_drop];omega
   .intro c hc
    simp only [List.mem_append,mem_cons] at hc
    rcases hc with hc | rfl | hc
    .have:=hr.2 c (List.mem_of_mem_take hc);omega
    .simp;omega
    .have:=hr.2 c (List.mem_of_mem_drop hc);omega
 .cases e
theorem Ak9 {t:A1} {s s':A6} {k:Nat} (h:Gr t s k) {n w:Int} (e:P9 t s n w=some s'):Gr t s' (k+1):=by
 unfold P9 at e
 split at e
 .rename_i x hx
  have hg:=NC h hx
  have hm:=Ady hx
  simp only at e
  split at e
  .cases e
  .rename_i hw
   split at e
   .cases e
    have hr:=h.big.row (t.at n.toNat).loc.toNat
    rw [<- hm] at hr
    refine Aid hg ?_ ?_ ?_
    .intro h0
     have:=congrArg List.length h0
     rw [length_set] at this
     simp only [List.length_nil] at this
     omega
    .rw [length_set];omega
    .intro c hc
     rcases List.mem_or_eq_of_mem_set hc with hc | rfl
     .have:=hr.2 c hc;omega
     .have h1:=Dq ((x.mo.getD (t.at n.toNat).loc.toNat []).getD w.toNat []) n
      rw [D1 h1]
      have:=hr.2 _ (Ai (d:=[]) (show w.toNat < (x.mo.getD (t.at n.toNat).loc.toNat []).length by omega))
      omega
   .cases e
 .cases e
def GX (t:A1) (s:A6) (i:Nat):Bool:=decide (0<=(t.at i).up) && AU s.has (t.at i).up && !AU s.has i
def Ji (t:A1) (s:A6) (k:Nat):List Int:=((List.range k).filter (GX t s)).map fun (i:Nat)=>(i:Int)
theorem AjU {t:A1} {s:A6} {k:Nat} (h:GX t s k=true):Ji t s (k+1)=Ji t s k++[(k:Int)]:=by
 unfold Ji
 rw [range_succ,filter_append,map_append]
 simp only [filter_cons,List.filter_nil,h,if_true,map_cons,map_nil]
theorem A6X {t:A1} {s:A6} {k:Nat} (h:GX t s k=false):Ji t s (k+1)=Ji t s k:=by
 unfold Ji
 rw [range_succ,filter_append,map_append]
 simp [h]
theorem AeI {t:A1} {s:A6} (k:Nat):(Ji t s k).length<=k:=by
 unfold Ji
 rw [length_map]
 exact Nat.le_trans (List.length_filter_le _ _) (by simp)
theorem AeJ {t:A1} {s:A6} {k:Nat} {x:Int} (h:x∈Ji t s k):∃ m:Nat,x=m/\m < k/\GX t s m=true:=by
 simp only [Ji,mem_map,List.mem_filter,List.mem_range] at h
 obtain ⟨i,⟨hi,h⟩,rfl⟩:=h
 exact ⟨i,rfl,hi,h⟩
def Mh (t:A1) (n:Nat) (y:Int):Bool:=decide ((t.at y.toNat).kind=3) && decide ((t.at y.toNat).loc=(t.at n).loc) && decide ((t.at y.toNat).val=(t.at n).val)
theorem AdZ {l:List Int} {k:Nat} (hk:k < l.length):l.take (k+1)=l.take k++[l.getD k 0]:=by
 rw [List.take_succ_eq_append_getElem hk,getD_eq_getElem?_getD,List.getElem?_eq_getElem hk];rfl
def A2Z (t:A1) (s:A6) (n k:Nat):List Int:=(s.has.take k).filter (Mh t n)
theorem Apm {t:A1} {s:A6} {n k:Nat} (hk:k < s.has.length) (h:Mh t n (s.has.getD k 0)=true):A2Z t s n (k+1)=A2Z t s n k++[s.has.getD k 0]:=by
 unfold A2Z
 rw [AdZ hk,filter_append]
 simp only [filter_cons,List.filter_nil,h,if_true,false_eq_true,if_false,append_nil]
theorem Acs {t:A1} {s:A6} {n k:Nat} (hk:k < s.has.length) (h:Mh t n (s.has.getD k 0)=false):A2Z t s n (k+1)=A2Z t s n k:=by
 unfold A2Z
 rw [AdZ hk,filter_append]
 simp only [filter_cons,List.filter_nil,h,if_true,false_eq_true,if_false,append_nil]
theorem Aif {t:A1} {s:A6} {n:Nat} (k:Nat):(A2Z t s n k).length<=s.has.length:=by
 unfold A2Z
 refine Nat.le_trans (List.length_filter_le _ _) ?_
 rw [length_take];omega
def Gk (t:A1) (s:A6) (a b:Nat):Option A6 :=
 let l:=Ji t s t.nodes.length
 if l.length=0 then none else
  let n:=l.getD (a % l.length) 0
  let x:=t.at n.toNat
  if x.kind=4 then D6 t s n 4 (-1) else
   if x.kind=2 then
    let w:=A2Z t s n.toNat s.has.length
    if w.length=0 then none else JZ t s n (w.getD (b % w.length) 0)
   else
    let k:=(s.mo.getD x.loc.toNat []).length
    let o:=EM t s n ((1+b / 3 % k:Nat):Int)
    if b % 3=0/\1 < k then (match P9 t s n ((1+b / 3 % (k - 1):Nat):Int) with
     | some s'=>some s'
     | none=>o) else o
theorem A7g {t:A1} {s s':A6} {k a b:Nat} (h:Gr t s k) (e:Gk t s a b=some s'):Gr t s' (k+1):=by
 unfold Gk at e
 simp only at e
 split at e
 .cases e
 .split at e
  .exact NC h e
  .split at e
   .split at e
    .cases e
    .exact AlL h e
   .split at e
    .split at e
     .rename_i s2 hj
      cases e;exact Ak9 h hj
     .exact A2q h e
    .exact A2q h e
theorem Gr.mono {t:A1} {s:A6} {k j:Nat} (h:Gr t s k) (hk:k<=j):Gr t s j:=⟨h.big.mono hk,h.ok⟩
def KU (m:List U8) (i:Nat):Nat:=(m.getD i ⟨0⟩).n
theorem AjZ {m:List U8} {i:Nat} (h:i < m.length):m[i]? = some ⟨KU m i⟩:=by
 rw [KU,getD_eq_getElem?_getD,List.getElem?_eq_getElem h];rfl
theorem A6C {m:List U8} (hm:∀ x∈m,x.n < 256) (i:Nat):KU m i < 256:=by
 unfold KU
 rw [getD_eq_getElem?_getD]
 cases h:m[i]? with
 | none=>decide
 | some x=>exact hm x (List.mem_of_getElem? h)
end Go.AM
