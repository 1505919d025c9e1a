/-
  Own work, part of the proof of these laws: what functions compute.
-/
import Derived.Test.YthhlhddnndlhkaaGreatDoorKFd
set_option maxRecDepth 10000
set_option maxHeartbeats 64000000
set_option linter.unusedVariables false
set_option linter.unusedSimpArgs false
set_option linter.unusedSectionVars false
set_option linter.unnecessarySimpa false
open Bool (and_eq_true)
open Int (toNat_natCast)
open List (length_map length_append length_take length_cons take_of_length_le map_append length_drop nodup_nil)
open Nat (zero_le lt_or_ge)
namespace Go.AM
open Go Go.Proofs
def LU (ty e:Nat) (rows:List (List VV)):VO:=if rows.length=0 then DW else { ty:=ty,esz:=e,ver:=0,nl:=false,rows:=rows }
def stJ (t:A1) (k:Nat):List Int:=List.replicate (EX t k).length (-1)
theorem Asw {t:A1} {k:Nat} (h:decide ((t.at k).up < 0)=true):stJ t (k+1)=stJ t k++[-1]:=by
 unfold stJ
 rw [AdV h,length_append,List.length_singleton,List.replicate_succ']
theorem Asv {t:A1} {k:Nat} (h:decide ((t.at k).up < 0)=false):stJ t (k+1)=stJ t k:=by unfold stJ;rw [AdU h]
theorem AlO {t:A1} (k:Nat):(stJ t k).length<=k:=by unfold stJ;rw [List.length_replicate];exact Xj k
def K3 (k:Nat):List (List (List Int)):=(List.range k).map fun (i:Nat)=>[[(i:Int)]]
theorem AfA (k:Nat):K3 (k+1)=K3 k++[[[(k:Int)]]]:=by
 unfold K3
 rw [List.range_succ,map_append];rfl
theorem Aih (k:Nat):(K3 k).length=k:=by simp [K3]
def sTh (t:A1) (k j:Nat):VH:=[some ⟨Af,0,0,false,[[.nl,.nl,.nl]]⟩,some (AW AO 1 ((EX t k).map eI)),some (AW AO 1 ((stJ t k).map eI)),some (AW Bx 1 ((K3 j).map DD)),
 some ⟨Af,0,0,false,[[.sl 1 (EX t k).length 0 (EX t k).length,.sl 2 (stJ t k).length 0 (stJ t k).length,.sl 3 (K3 j).length 0 (K3 j).length]]⟩]
theorem Aie (ty:Nat) (L:List (List Int)) (c:List Int):({ ty:=ty,esz:=1,ver:=L.length+1,nl:=false,rows:=L.map Hv++[[VV.ls (c.map eI)]] }:VO)=AW ty 1 ((L++[c]).map Hv):=by
 rw [map_append]
 unfold AW
 rw [if_neg (by simp),length_append,length_map];rfl
theorem AdS (ty:Nat) (L:List (List (List Int))) (c:List (List Int)):({ ty:=ty,esz:=1,ver:=L.length+1,nl:=false,rows:=L.map DD++[[VV.ls (c.map Hv)]] }:VO)=AW ty 1 ((L++[c]).map DD):=by
 rw [map_append]
 unfold AW
 rw [if_neg (by simp),length_append,length_map];rfl
def cpH (s:A6) (L:List (List (List Int))):VH:=[some ⟨Af,0,0,false,[[.nl,.nl,.nl]]⟩,some (Yg AO 1 (s.has.map eI)),some (Yg AO 1 (s.jf.map eI)),
 some ⟨Af,0,0,false,[[.sl 1 (Hf s.has.length) 0 s.has.length,.sl 2 (Hf s.jf.length) 0 s.jf.length,.sl 4 L.length 0 L.length]]⟩,some (AW Bx 1 (L.map DD))]
section
variable {V:At} (C:Aq V) {Q:VV->Prop}
include C
theorem Kj (t:A1) (ht:A5 t):VP V A5w [vT t] Q↔Q (Dy (Bu t)):=by
 refine Ae ?_
 rw [Ad C.c_z54.1 C.c_z54.2]
 have h1:=ht.n64
 have h2:=ht.l4
 simp only [A9f,go_sem,↓reduceIte]
 refine Ab (by decide) t.nodes.length (by omega) (I:=fun k F h=>A4.tmp F 1 = .fp (eT t) 0/\A4.tmp F 2 = .p 0 0 0 0/\A4.tmp F 3 = .p 4 0 0 0/\h=sTh t k 0) ?_ ?_ ?_ 0 _ _ (zero_le _) ?_ ?_
 .rintro k F h hk p4 ⟨p1,p2,p3,rfl⟩
  simp only [go_sem,↓reduceIte,p4,p1,p2,p3]
 .rintro k F h hk p4 ⟨p1,p2,p3,rfl⟩
  have h0:=Xj (t:=t) k
  cases c:decide ((t.at k).up < 0) with
  | true =>
   have b1:((EX t k).length+1) * 8<=Aa:=by unfold Aa;omega
   have hj:=AlO (t:=t) k
   have b2:((stJ t k).length+1) * 8<=Aa:=by unfold Aa;omega
   simp only [go_sem,↓reduceIte,p4,p1,p2,p3,hk,A7 hk,c,sTh,AdV c,Asw c,A0,b1,b2,length_map,length_append]
  | false =>
   simp only [go_sem,↓reduceIte,p4,p1,p2,p3,hk,A7 hk,c,sTh,AdU c,Asv c,A0]
 .rintro F h ⟨p1,p2,p3,rfl⟩
  simp only [go_sem,↓reduceIte,p1,p2,p3]
  refine Ab (by decide) t.locs.length (by omega) (I:=fun j F h=>A4.tmp F 1 = .fp (eT t) 0/\A4.tmp F 2 = .p 0 0 0 0/\A4.tmp F 3 = .p 4 0 0 0/\h=sTh t t.nodes.length j) ?_ ?_ ?_ 0 _ _ (zero_le _) ?_ ?_
  .rintro k F h hk p5 ⟨p1,p2,p3,rfl⟩
   simp only [go_sem,↓reduceIte,p5,p1,p2,p3]
  .rintro k F h hk p5 ⟨p1,p2,p3,rfl⟩
   have hm:=Aih k
   have b1:((K3 k).length+1) * 24<=Aa:=by unfold Aa;omega
   simp only [go_sem,↓reduceIte,p5,p1,p2,p3,hk,sTh,AfA,A0,b1,length_map,length_append]
   have e:List.map DD (K3 k++[[[(k:Int)]]])=List.map DD (K3 k)++[[VV.ls [[VV.ls [[VV.i IntKind.i64 (k:Int)]]]]]]:=by rw [map_append];rfl
   have e2:({ ty:=Bx,esz:=1,ver:=(K3 k).length+1,nl:=false,rows:=List.map DD (K3 k)++[[VV.ls [[VV.ls [[VV.i IntKind.i64 (k:Int)]]]]]] }:VO)=AW Bx 1 (List.map DD (K3 k++[[[(k:Int)]]])):=by
    rw [e]
    unfold AW
    rw [if_neg (by simp),length_append,length_map];rfl
   rw [e2]
   refine ⟨.inr ?_,rfl⟩
   rw [List.all_append,and_eq_true]
   exact ⟨JJ (fun _=>rfl),rfl⟩
  .rintro F h ⟨p1,p2,p3,rfl⟩
   simp only [go_sem,↓reduceIte,p1,p2,p3,sTh]
   rfl
  .simp only [go_sem,↓reduceIte]
  .simp only [go_sem,↓reduceIte,p1,p2,p3]
 .simp only [go_sem,↓reduceIte]
 .simp only [go_sem,↓reduceIte]
  rfl
theorem Pk (s:A6) (hs:DL s) (b:Nat) {Q:VV->VH->Prop}:VP1 V LO [Dy s] b Q↔Q (.ag [.sl b 0 0 s.has.length,.sl (b+1) 0 0 s.jf.length,.sl (b+1+1) 0 0 s.mo.length]) [some ⟨AO,1,0,false,s.has.map eI⟩,some ⟨AO,1,0,false,s.jf.map eI⟩,some (LU Bx 1 (s.mo.map DD))]:=by
 refine K8 ?_
 rw [K9 C.c_z96.2]
 have h1:=hs.has
 have h2:=hs.jf
 have h3:=hs.mo
 have b1:s.has.length * 8<=Aa:=by unfold Aa;omega
 have b2:s.jf.length * 8<=Aa:=by unfold Aa;omega
 simp only [P7,go_sem,↓reduceIte,b1,b2]
 refine Ab (by decide) s.mo.length (by omega) (I:=fun k F h=>A4.tmp F 1 = .fp (Je s) 0/\A4.tmp F 2 = .p 0 0 0 0/\A4.tmp F 3 = .p 3 0 0 0/\∃ L,L=s.mo.take k/\h=cpH s L) ?_ ?_ ?_ 0 _ _ (zero_le _) ?_ ?_
 .rintro k F h hk p4 ⟨p1,p2,p3,L,hL,rfl⟩
  simp only [go_sem,↓reduceIte,p4,p1,p2,p3]
  exact ⟨L,hL,rfl⟩
 .rintro k F h hk p4 ⟨p1,p2,p3,L,hL,rfl⟩
  have hm:=hs.mi' k
  simp only [go_sem,↓reduceIte,p4,p1,p2,p3,A0,cpH]
  refine Ab (by decide) (s.mo.getD k []).length (by omega) (I:=fun j F h=>A4.tmp F 4 = .i .i64 k/\A4.tmp F 1 = .fp (Je s) 0/\A4.tmp F 2 = .p 0 0 0 0/\A4.tmp F 3 = .p 3 0 0 0/\∃ K,K=(s.mo.getD k []).take j/\A4.tmp F 5 = .sl 5 K.length 0 K.length/\h=cpH s L++[some (AW D7 1 (K.map Hv))]) ?_ ?_ ?_ 0 _ _ (zero_le _) ?_ ?_
  .rintro j F h hj q6 ⟨q4,q1,q2,q3,K,hK,q5,rfl⟩
   simp only [go_sem,↓reduceIte,q6,q4,q1,q2,q3,q5,C1 hk]
   exact ⟨K,hK,rfl,rfl⟩
  .rintro j F h hj q6 ⟨q4,q1,q2,q3,K,hK,q5,rfl⟩
   have h0:(s.mo.getD k []).take (j+1)=K++[(s.mo.getD k []).getD j []]:=by
    rw [List.take_succ_eq_append_getElem hj,hK,List.getD_eq_getElem?_getD (l:=s.mo.getD k []),List.getElem?_eq_getElem hj];rfl
   have hc:=hs.mc' k j
   have hl:K.length=j:=by rw [hK,length_take];omega
   have b3:((s.mo.getD k []).getD j []).length * 8<=Aa:=by unfold Aa;omega
   have b4:(K.length+1) * 24<=Aa:=by unfold Aa;omega
   simp only [go_sem,↓reduceIte,q6,q4,q1,q2,q3,q5,C1 hk,ET hj,hk,hj,b3,b4,cpH,Aie,A0,length_append,length_map]
   exact ⟨K++[(s.mo.getD k []).getD j []],h0.symm,by simp,rfl⟩
  .rintro F h ⟨q4,q1,q2,q3,K,hK,q5,rfl⟩
   rw [List.take_length] at hK
   subst hK
   have h0:s.mo.take (k+1)=L++[s.mo.getD k []]:=by
    rw [List.take_succ_eq_append_getElem hk,hL,List.getD_eq_getElem?_getD,List.getElem?_eq_getElem hk];rfl
   have hl:L.length=k:=by rw [hL,length_take];omega
   have b4:(L.length+1) * 24<=Aa:=by unfold Aa;omega
   simp only [go_sem,↓reduceIte,q4,q1,q2,q3,q5,b4,cpH,AdS,length_append,length_map]
   exact ⟨L++[s.mo.getD k []],h0.symm,by simp⟩
  .simp only [go_sem,↓reduceIte]
  .simp only [go_sem,↓reduceIte,p4,p1,p2,p3,cpH]
   exact ⟨[],rfl,rfl,rfl⟩
 .rintro F h ⟨p1,p2,p3,L,hL,rfl⟩
  rw [List.take_length] at hL
  subst hL
  simp only [go_sem,↓reduceIte,p1,p2,p3,cpH,BF,BF.takeL]
  refine ⟨by decide,?_⟩
  unfold AW LU
  split<;>simp_all [DW]
 .simp only [go_sem,↓reduceIte]
 .simp only [go_sem,↓reduceIte]
  exact ⟨[],rfl,rfl⟩
end
def Yk:A6:=⟨[],[],[]⟩
def KE (o:Option A6):VV:=match o with
 | some s=>.tu [Dy s,.b true]
 | none=>.tu [Dy Yk,.b false]
def D6 (t:A1) (s:A6) (n kind w:Int):Option A6:=if Cy t s n kind=true then some (B6 s n w) else none
theorem QZ {l:List Int} {n:Int} {i:Nat} (h:i<=Br l n):(i < l.length/\l.getD i 0 < n)↔i < Br l n:=by
 constructor
 .rintro ⟨h1,h2⟩
  rcases lt_or_ge i (Br l n) with c | c
  .exact c
  .have e:i=Br l n:=by omega
   subst e
   exact absurd h2 (Ak5 h1)
 .intro h2
  exact ⟨by have:=Dq l n;omega,R0 h2⟩
theorem QI {ty e:Nat} {rows:List (List VV)}:(LU ty e rows).ver=0:=by unfold LU;split<;>rfl
theorem MP {ty e:Nat} {rows:List (List VV)}:(LU ty e rows).rows=rows:=by
 unfold LU;split
 .rename_i h;rw [List.length_eq_zero_iff.1 h];rfl
 .rfl
theorem QH {ty:Nat} {rows:List (List VV)}:(decide (0 < (LU ty 1 rows).esz) || (LU ty 1 rows).nl)=true:=by unfold LU;split<;>rfl
def moH (s:A6):VH:=[some ⟨Af,0,0,false,[[.nl,.nl,.nl]]⟩,some ⟨AO,1,0,false,s.has.map eI⟩,some ⟨AO,1,0,false,s.jf.map eI⟩,some (LU Bx 1 (s.mo.map DD)),some ⟨Af,0,0,false,[[.sl 1 0 0 s.has.length,.sl 2 0 0 s.jf.length,.sl 3 0 0 s.mo.length]]⟩]
section
variable {V:At} (C:Aq V) {Q:VV->Prop}
include C
theorem Rn (t:A1) (ht:A5 t) (s:A6) (hs:DL s) (n kind w:Int):VP V EG [vT t,Dy s,.i .i64 n,.i .i64 kind,.i .i64 w] Q↔Q (KE (D6 t s n kind w)):=by
 refine Ae ?_
 rw [Ad C.c_z178.1 C.c_z178.2]
 have h6:=fun (Q:VV->Prop)=>Bv C t ht s hs (Q:=Q)
 have h8:Cy t s n kind=false->KE (D6 t s n kind w) = .tu [Dy Yk,.b false]:=fun h=>by rw [D6,h];rfl
 have e0:(VV.tu [Dy Yk,.b false]) = .tu [.ag [.ls [],.ls [],.ls []],.b false]:=rfl
 have q2:=hs.has
 cases hf:Bd t s with
 | false =>
  rw [h8 (by rw [Cy,hf];rfl),e0]
  simp only [Cw,go_sem,↓reduceIte,h6,hf]
 | true =>
 cases h1:BP t n with
 | false =>
  rw [h8 (by rw [Cy,hf,h1];rfl),e0]
  simp only [Cw,go_sem,↓reduceIte,h6,hf,AA C,h1]
 | true =>
 obtain ⟨m,rfl,hm⟩:=A8 h1
 cases h2:decide ((t.at m).kind=kind) with
 | false =>
  rw [h8 (by rw [Cy,hf,h1,toNat_natCast,h2];rfl),e0]
  simp only [Cw,go_sem,↓reduceIte,h6,hf,AA C,h1,A7 hm,h2]
 | true =>
 have w1:=EB s.has (m:Int)
 cases h3:AU s.has (m:Int) with
 | true =>
  rw [h8 (by rw [Cy,hf,h1,toNat_natCast,h2,h3];rfl),e0]
  rw [h3] at w1
  simp only [Cw,go_sem,↓reduceIte,h6,hf,AA C,h1,A7 hm,h2,Ao C s.has (by omega),w1]
 | false =>
 rw [h3] at w1
 have w2:=Cg s.has (t.at m).up
 cases h4:AU s.has (t.at m).up with
 | false =>
  rw [h8 (by rw [Cy,hf,h1,toNat_natCast,h2,h3,h4];rfl),e0]
  rw [h4] at w2
  simp only [Cw,go_sem,↓reduceIte,h6,hf,AA C,h1,A7 hm,h2,Ao C s.has (by omega),w1,w2]
 | true =>
 rw [h4] at w2
 have hu:D6 t s m kind w=some (B6 s m w):=by rw [D6,Cy,hf,h1,toNat_natCast,h2,h3,h4];rfl
 rw [hu]
 have hr:=fun (b:Nat) (Q:VV->VH->Prop)=>Pk C s hs b (Q:=Q)
 simp only [Cw,go_sem,↓reduceIte,h6,hf,AA C,h1,A7 hm,h2,Ao C s.has (by omega),w1,w2,hr]
 unfold VL
 rw [A0]
 have q0:s.jf.length=s.has.length:=by simp only [Bd,and_eq_true,decide_eq_true_eq] at hf;exact hf.1.1.1.1.2
 refine AT (M:=Nat) (I:=fun i F h=>i<=Br s.has m/\A4.tmp F 2 = .i .i64 m/\A4.tmp F 4 = .i .i64 w/\A4.tmp F 6 = .fp (Je s) 0/\A4.tmp F 10 = .p 0 0 0 0/\A4.tmp F 12 = .p 4 0 0 0/\A4.tmp F 13 = .i .i64 i/\h=moH s) (μ:=fun i=>s.has.length - i) ?_ 0 _ _ ⟨zero_le _,?_,?_,?_,?_,?_,?_,rfl⟩
 .rintro i F h ⟨hi,p2,p4,p6,hl,hn,ho,rfl⟩
  have hj:=QZ hi
  have q1:=Dq s.has m
  by_cases c:i < s.has.length
  .cases c2:decide (s.has.getD i 0 < (m:Int)) with
   | true =>
    have he:=of_decide_eq_true c2
    have q3:=hj.1 ⟨c,he⟩
    have hw:IntKind.i64.wrap ((i:Int)+1)=((i+1:Nat):Int):=by rw [Az (by omega) (by omega)];omega
    simp only [Hc,go_sem,↓reduceIte,p2,p4,p6,hl,hn,ho,c,Ar c,c2,A0,hw]
    exact ⟨i+1,by omega,by omega,rfl,rfl,rfl⟩
   | false =>
    have he:=of_decide_eq_false c2
    have e:i=Br s.has m:=by
     rcases lt_or_ge i (Br s.has m) with h | h
     .exact absurd (R0 h) he
     .omega
    obtain ⟨A,hA⟩:∃ A,A=s.has.take i:=⟨_,rfl⟩
    obtain ⟨B,hB⟩:∃ B,B=s.has.drop i:=⟨_,rfl⟩
    obtain ⟨A',h0⟩:∃ A,A=s.jf.take i:=⟨_,rfl⟩
    obtain ⟨B',h5⟩:∃ B,B=s.jf.drop i:=⟨_,rfl⟩
    have lA:A.length=i:=by rw [hA,length_take];omega
    have hx:A'.length=i:=by rw [h0,length_take];omega
    have lB:B.length=s.has.length - i:=by rw [hB,length_drop]
    have hk:B'.length=s.jf.length - i:=by rw [h5,length_drop]
    have tB:List.take (s.has.length - i) B=B:=take_of_length_le (by omega)
    have hq:List.take (s.jf.length - i) B' = B':=take_of_length_le (by omega)
    have c1:i<=s.has.length:=by omega
    have hd:i<=s.jf.length:=by omega
    have b1:A.length * 8<=Aa:=by unfold Aa;omega
    have ha:A'.length * 8<=Aa:=by unfold Aa;omega
    have b2:(A.length+1) * 8<=Aa:=by unfold Aa;omega
    have hb:(A'.length+1) * 8<=Aa:=by unfold Aa;omega
    obtain ⟨b0,Bs,rfl⟩:∃ b0 Bs,B=b0::Bs:=by
     cases B with
     | nil=>simp at lB;omega
     | cons b0 Bs=>exact ⟨b0,Bs,rfl⟩
    obtain ⟨h9,h7,rfl⟩:∃ b0 Bs,B' = b0::Bs:=by
     cases B' with
     | nil=>simp at hk;omega
     | cons b0 Bs=>exact ⟨b0,Bs,rfl⟩
    rw [length_cons] at lB hk
    have hz:List.take (s.has.length - i) (eI b0::List.map eI Bs)=eI b0::List.map eI Bs:=take_of_length_le (by simp;omega)
    have hp:List.take (s.jf.length - i) (eI h9::List.map eI h7)=eI h9::List.map eI h7:=take_of_length_le (by simp;omega)
    obtain ⟨X,hX⟩:∃ X,X=A++[(m:Int)]++b0::Bs:=⟨_,rfl⟩
    obtain ⟨X',hh⟩:∃ X,X=A'++[w]++h9::h7:=⟨_,rfl⟩
    have jX:List.map eI (A++[(m:Int)])++eI b0::List.map eI Bs=List.map eI X:=by rw [hX,map_append (l₁:=A++[(m:Int)])];rfl
    have hv:List.map eI (A'++[w])++eI h9::List.map eI h7 = List.map eI X':=by rw [hh,map_append (l₁:=A'++[w])];rfl
    have lX:A.length+1+(Bs.length+1)=X.length:=by rw [hX];simp;omega
    have hy:A'.length+1+(h7.length+1)=X'.length:=by rw [hh];simp;omega
    have b3:X.length * 8<=Aa:=by unfold Aa;omega
    have hc:X'.length * 8<=Aa:=by unfold Aa;omega
    have eX:X=Bg s.has (Br s.has m) m:=by rw [hX,Bg,<- e,<- hA,<- hB];simp
    have hg:X' = Bg s.jf (Br s.has m) w:=by rw [hh,Bg,<- e,<- h0,<- h5];simp
    simp only [Hc,go_sem,↓reduceIte,p2,p4,p6,hl,hn,ho,c,Ar c,c2,A0,moH,<- hA,<- hB,<- h0,<- h5,hz,hp,c1,hd,b1,ha,b2,hb,b3,hc,length_append,length_map,QI,MP,QH,jX,hv,lX,hy]
    rw [eX,hg];rfl
  .have e:i=Br s.has m:=by omega
   obtain ⟨A,hA⟩:∃ A,A=s.has.take i:=⟨_,rfl⟩
   obtain ⟨B,hB⟩:∃ B,B=s.has.drop i:=⟨_,rfl⟩
   obtain ⟨A',h0⟩:∃ A,A=s.jf.take i:=⟨_,rfl⟩
   obtain ⟨B',h5⟩:∃ B,B=s.jf.drop i:=⟨_,rfl⟩
   have lA:A.length=i:=by rw [hA,length_take];omega
   have hx:A'.length=i:=by rw [h0,length_take];omega
   have lB:B.length=s.has.length - i:=by rw [hB,length_drop]
   have hk:B'.length=s.jf.length - i:=by rw [h5,length_drop]
   have tB:List.take (s.has.length - i) B=B:=take_of_length_le (by omega)
   have hq:List.take (s.jf.length - i) B' = B':=take_of_length_le (by omega)
   have c1:i<=s.has.length:=by omega
   have hd:i<=s.jf.length:=by omega
   have b1:A.length * 8<=Aa:=by unfold Aa;omega
   have ha:A'.length * 8<=Aa:=by unfold Aa;omega
   have b2:(A.length+1) * 8<=Aa:=by unfold Aa;omega
   have hb:(A'.length+1) * 8<=Aa:=by unfold Aa;omega
   obtain rfl:B=[]:=List.length_eq_zero_iff.1 (by omega)
   obtain rfl:B' = []:=List.length_eq_zero_iff.1 (by omega)
   have b3:(A.length+1+0) * 8<=Aa:=by unfold Aa;omega
   have hc:(A'.length+1+0) * 8<=Aa:=by unfold Aa;omega
   simp only [Hc,go_sem,↓reduceIte,p2,p4,p6,hl,hn,ho,c,A0,moH,<- hA,<- hB,<- h0,<- h5,tB,hq,c1,hd,b1,ha,b2,hb,b3,hc,length_append,length_map,QI,MP,QH]
   have eX:A++[(m:Int)]=Bg s.has (Br s.has m) m:=by rw [Bg,<- e,<- hA,<- hB]
   have hg:A'++[w]=Bg s.jf (Br s.has m) w:=by rw [Bg,<- e,<- h0,<- h5]
   rw [eX,hg];rfl
 .simp only [go_sem,↓reduceIte]
 .simp only [go_sem,↓reduceIte]
 .simp only [go_sem,↓reduceIte]
 .simp only [go_sem,↓reduceIte]
 .simp only [go_sem,↓reduceIte]
 .simp only [go_sem,↓reduceIte]
end
abbrev agS (s:A6) (b:Nat):VV:=.ag [.sl b 0 0 s.has.length,.sl (b+1) 0 0 s.jf.length,.sl (b+1+1) 0 0 s.mo.length]
abbrev obS (s:A6):VH:=[some ⟨AO,1,0,false,s.has.map eI⟩,some ⟨AO,1,0,false,s.jf.map eI⟩,some (LU Bx 1 (s.mo.map DD))]
theorem A8i {ty e:Nat} {rows:List (List VV)}:({ ty:=(LU ty e rows).ty,esz:=(LU ty e rows).esz,ver:=0,nl:=(LU ty e rows).nl,rows:=rows }:VO)=LU ty e rows:=by
 unfold LU
 split
 .rename_i h;rw [List.length_eq_zero_iff.1 h];rfl
 .rfl
theorem A1j {α:Type} {g:α->Option (α×List Nat)}:∀ (l:List α) (k:Nat) (x y:α) (ids:List Nat),(∀ a∈l,g a=some (a,[]))->k < l.length->g x=some (y,ids)->Bh g (l.set k x)=some (l.set k y,ids)
 | [],k,x,y,ids,_,hk,_=>by simp at hk
 | a::l,0,x,y,ids,h,_,hx=>by
  have hl:Bh g l=some (l,[]):=by
   have:∀ (l:List α),(∀ a∈l,g a=some (a,[]))->Bh g l=some (l,[]):=by
    intro l
    induction l with
    | nil=>intro _;rfl
    | cons b l ih=>intro h;simp only [Bh,h b (by simp),ih fun a ha=>h a (by simp [ha]),List.nil_append]
   exact this l fun a ha=>h a (by simp [ha])
  simp only [List.set_cons_zero,Bh,hx,hl,List.append_nil]
 | a::l,k+1,x,y,ids,h,hk,hx=>by
  have:=A1j l k x y ids (fun a ha=>h a (by simp [ha])) (by simpa using hk) hx
  simp only [List.set_cons_succ,Bh,h a (by simp),this,List.nil_append]
theorem Ahm {H:VH} {l:List (List (List Int))} {k:Nat} (hk:k < l.length) {v:VV} {X:List (List Int)} {ids:List Nat} (hv:frz H 5 v=some (.ls (X.map Hv),ids)) :
  Bh (fun row=>Bh (frz H 5) row) (List.take l.length ((l.map DD).set k [v]))=some ((l.set k X).map DD,ids):=by
 rw [take_of_length_le (by simp)]
 rw [List.map_set]
 refine A1j (l.map DD) k [v] (DD X) ids ?_ (by simpa using hk) ?_
 .intro a ha
  obtain ⟨c,_,rfl⟩:=List.mem_map.1 ha
  simp only [go_sem,XO,↓reduceIte]
 .simp only [Bh,hv,List.append_nil]
section
variable {V:At} (C:Aq V)
include C
theorem A1N (t:A1) (ht:A5 t) (s:A6) (hs:DL s) (n kind w:Int) (h0:Cy t s n kind=false) (b:Nat) {Q:VV->VH->Prop}:VP1 V EG [vT t,Dy s,.i .i64 n,.i .i64 kind,.i .i64 w] b Q↔Q (.tu [Dy Yk,.b false]) []:=by
 refine K8 ?_
 rw [K9 C.c_z178.2]
 have h5:=fun (Q:VV->Prop)=>Bv C t ht s hs (Q:=Q)
 have e0:(VV.tu [Dy Yk,.b false]) = .tu [.ag [.ls [],.ls [],.ls []],.b false]:=rfl
 have h6:=hs.has
 rw [e0]
 cases hf:Bd t s with
 | false =>
  simp only [Cw,go_sem,↓reduceIte,h5,hf,BF,BF.takeL]
  exact nodup_nil
 | true =>
 cases h1:BP t n with
 | false =>
  simp only [Cw,go_sem,↓reduceIte,h5,hf,AA C,h1,BF,BF.takeL]
  exact nodup_nil
 | true =>
 obtain ⟨m,rfl,hm⟩:=A8 h1
 cases h2:decide ((t.at m).kind=kind) with
 | false =>
  simp only [Cw,go_sem,↓reduceIte,h5,hf,AA C,h1,A7 hm,h2,BF,BF.takeL]
  exact nodup_nil
 | true =>
 have w1:=EB s.has (m:Int)
 cases h3:AU s.has (m:Int) with
 | true =>
  rw [h3] at w1
  simp only [Cw,go_sem,↓reduceIte,h5,hf,AA C,h1,A7 hm,h2,Ao C s.has (by omega),w1,BF,BF.takeL]
  exact nodup_nil
 | false =>
 rw [h3] at w1
 have w2:=Cg s.has (t.at m).up
 cases h4:AU s.has (t.at m).up with
 | false =>
  rw [h4] at w2
  simp only [Cw,go_sem,↓reduceIte,h5,hf,AA C,h1,A7 hm,h2,Ao C s.has (by omega),w1,w2,BF,BF.takeL]
  exact nodup_nil
 | true =>
  rw [Cy,hf,h1,toNat_natCast,h2,h3,h4] at h0
  cases h0
theorem A2S (t:A1) (ht:A5 t) (s:A6) (hs:DL s) {m:Nat} (hm:m < t.nodes.length) (kind w:Int) (hok:Cy t s m kind=true) (b:Nat) {Q:VV->VH->Prop}:VP1 V EG [vT t,Dy s,.i .i64 m,.i .i64 kind,.i .i64 w] b Q↔Q (.tu [agS (B6 s m w) b,.b true]) (obS (B6 s m w)):=by
 refine K8 ?_
 rw [K9 C.c_z178.2]
 have hr:=fun (Q:VV->Prop)=>Bv C t ht s hs (Q:=Q)
 have q0:=hs.has
 have h1:BP t (m:Int)=true:=BM hm
 simp only [Cy,and_eq_true,Bool.not_eq_true',toNat_natCast] at hok
 obtain ⟨⟨⟨⟨hf,_⟩,h2⟩,h3⟩,h4⟩:=hok
 have w1:=EB s.has (m:Int)
 have w2:=Cg s.has (t.at m).up
 rw [h3] at w1
 rw [h4] at w2
 have hq:=fun (b:Nat) (Q:VV->VH->Prop)=>Pk C s hs b (Q:=Q)
 simp only [Cw,go_sem,↓reduceIte,hr,hf,AA C,h1,A7 hm,h2,Ao C s.has (by omega),w1,w2,hq]
 unfold VL
 rw [A0]
 have hy:s.jf.length=s.has.length:=by simp only [Bd,and_eq_true,decide_eq_true_eq] at hf;exact hf.1.1.1.1.2
 refine AT (M:=Nat) (I:=fun i F h=>i<=Br s.has m/\A4.tmp F 2 = .i .i64 m/\A4.tmp F 4 = .i .i64 w/\A4.tmp F 6 = .fp (Je s) 0/\A4.tmp F 10 = .p 0 0 0 0/\A4.tmp F 12 = .p 4 0 0 0/\A4.tmp F 13 = .i .i64 i/\h=moH s) (μ:=fun i=>s.has.length - i) ?_ 0 _ _ ⟨zero_le _,?_,?_,?_,?_,?_,?_,rfl⟩
 .rintro i F h ⟨hi,p2,p4,p6,hk,hl,hn,rfl⟩
  have hg:=QZ hi
  have hz:=Dq s.has m
  by_cases c:i < s.has.length
  .cases c2:decide (s.has.getD i 0 < (m:Int)) with
   | true =>
    have hd:=of_decide_eq_true c2
    have q1:=hg.1 ⟨c,hd⟩
    have hw:IntKind.i64.wrap ((i:Int)+1)=((i+1:Nat):Int):=by rw [Az (by omega) (by omega)];omega
    simp only [Hc,go_sem,↓reduceIte,p2,p4,p6,hk,hl,hn,c,Ar c,c2,A0,hw]
    exact ⟨i+1,by omega,by omega,rfl,rfl,rfl⟩
   | false =>
    have hd:=of_decide_eq_false c2
    have e:i=Br s.has m:=by
     rcases lt_or_ge i (Br s.has m) with h | h
     .exact absurd (R0 h) hd
     .omega
    obtain ⟨A,hA⟩:∃ A,A=s.has.take i:=⟨_,rfl⟩
    obtain ⟨B,hB⟩:∃ B,B=s.has.drop i:=⟨_,rfl⟩
    obtain ⟨A',h0⟩:∃ A,A=s.jf.take i:=⟨_,rfl⟩
    obtain ⟨B',h5⟩:∃ B,B=s.jf.drop i:=⟨_,rfl⟩
    have lA:A.length=i:=by rw [hA,length_take];omega
    have hv:A'.length=i:=by rw [h0,length_take];omega
    have lB:B.length=s.has.length - i:=by rw [hB,length_drop]
    have hh:B'.length=s.jf.length - i:=by rw [h5,length_drop]
    have tB:List.take (s.has.length - i) B=B:=take_of_length_le (by omega)
    have hp:List.take (s.jf.length - i) B' = B':=take_of_length_le (by omega)
    have c1:i<=s.has.length:=by omega
    have hc:i<=s.jf.length:=by omega
    have b1:A.length * 8<=Aa:=by unfold Aa;omega
    have h9:A'.length * 8<=Aa:=by unfold Aa;omega
    have b2:(A.length+1) * 8<=Aa:=by unfold Aa;omega
    have ha:(A'.length+1) * 8<=Aa:=by unfold Aa;omega
    obtain ⟨b0,Bs,rfl⟩:∃ b0 Bs,B=b0::Bs:=by
     cases B with
     | nil=>simp at lB;omega
     | cons b0 Bs=>exact ⟨b0,Bs,rfl⟩
    obtain ⟨h8,h6,rfl⟩:∃ b0 Bs,B' = b0::Bs:=by
     cases B' with
     | nil=>simp at hh;omega
     | cons b0 Bs=>exact ⟨b0,Bs,rfl⟩
    rw [length_cons] at lB hh
    have hx:List.take (s.has.length - i) (eI b0::List.map eI Bs)=eI b0::List.map eI Bs:=take_of_length_le (by simp;omega)
    have ho:List.take (s.jf.length - i) (eI h8::List.map eI h6)=eI h8::List.map eI h6:=take_of_length_le (by simp;omega)
    obtain ⟨X,hX⟩:∃ X,X=A++[(m:Int)]++b0::Bs:=⟨_,rfl⟩
    obtain ⟨X',he⟩:∃ X,X=A'++[w]++h8::h6:=⟨_,rfl⟩
    have jX:List.map eI (A++[(m:Int)])++eI b0::List.map eI Bs=List.map eI X:=by rw [hX,map_append (l₁:=A++[(m:Int)])];rfl
    have hu:List.map eI (A'++[w])++eI h8::List.map eI h6 = List.map eI X':=by rw [he,map_append (l₁:=A'++[w])];rfl
    have lX:A.length+1+(Bs.length+1)=X.length:=by rw [hX];simp;omega
    have hj:A'.length+1+(h6.length+1)=X'.length:=by rw [he];simp;omega
    have b3:X.length * 8<=Aa:=by unfold Aa;omega
    have hb:X'.length * 8<=Aa:=by unfold Aa;omega
    have eX:X=Bg s.has (Br s.has m) m:=by rw [hX,Bg,<- e,<- hA,<- hB];simp
    have h7:X' = Bg s.jf (Br s.has m) w:=by rw [he,Bg,<- e,<- h0,<- h5];simp
    simp only [Hc,go_sem,↓reduceIte,p2,p4,p6,hk,hl,hn,c,Ar c,c2,A0,moH,<- hA,<- hB,<- h0,<- h5,hx,ho,c1,hc,b1,h9,b2,ha,b3,hb,length_append,length_map,QI,MP,QH,BF,BF.takeL,jX,hu,lX,hj]
    exact ⟨by decide,by rw [eX,h7];rfl,by rw [A8i,eX,h7];rfl⟩
  .have e:i=Br s.has m:=by omega
   obtain ⟨A,hA⟩:∃ A,A=s.has.take i:=⟨_,rfl⟩
   obtain ⟨B,hB⟩:∃ B,B=s.has.drop i:=⟨_,rfl⟩
   obtain ⟨A',h0⟩:∃ A,A=s.jf.take i:=⟨_,rfl⟩
   obtain ⟨B',h5⟩:∃ B,B=s.jf.drop i:=⟨_,rfl⟩
   have lA:A.length=i:=by rw [hA,length_take];omega
   have hv:A'.length=i:=by rw [h0,length_take];omega
   have lB:B.length=s.has.length - i:=by rw [hB,length_drop]
   have hh:B'.length=s.jf.length - i:=by rw [h5,length_drop]
   have tB:List.take (s.has.length - i) B=B:=take_of_length_le (by omega)
   have hp:List.take (s.jf.length - i) B' = B':=take_of_length_le (by omega)
   have c1:i<=s.has.length:=by omega
   have hc:i<=s.jf.length:=by omega
   have b1:A.length * 8<=Aa:=by unfold Aa;omega
   have h9:A'.length * 8<=Aa:=by unfold Aa;omega
   have b2:(A.length+1) * 8<=Aa:=by unfold Aa;omega
   have ha:(A'.length+1) * 8<=Aa:=by unfold Aa;omega
   obtain rfl:B=[]:=List.length_eq_zero_iff.1 (by omega)
   obtain rfl:B' = []:=List.length_eq_zero_iff.1 (by omega)
   have b3:(A.length+1+0) * 8<=Aa:=by unfold Aa;omega
   have hb:(A'.length+1+0) * 8<=Aa:=by unfold Aa;omega
   simp only [Hc,go_sem,↓reduceIte,p2,p4,p6,hk,hl,hn,c,A0,moH,<- hA,<- hB,<- h0,<- h5,tB,hp,c1,hc,b1,h9,b2,ha,b3,hb,length_append,length_map,QI,MP,QH,BF,BF.takeL]
   have eX:A++[(m:Int)]=Bg s.has (Br s.has m) m:=by rw [Bg,<- e,<- hA,<- hB]
   have h7:A'++[w]=Bg s.jf (Br s.has m) w:=by rw [Bg,<- e,<- h0,<- h5]
   have lX:A.length+1=(Bg s.has (Br s.has m) m).length:=by rw [<- eX];simp
   have hj:A'.length+1=(Bg s.jf (Br s.has m) w).length:=by rw [<- h7];simp
   exact ⟨by decide,by rw [lX,hj];rfl,by rw [A8i,eX,h7];rfl⟩
 .simp only [go_sem,↓reduceIte]
 .simp only [go_sem,↓reduceIte]
 .simp only [go_sem,↓reduceIte]
 .simp only [go_sem,↓reduceIte]
 .simp only [go_sem,↓reduceIte]
 .simp only [go_sem,↓reduceIte]
theorem XV (t:A1) (ht:A5 t) (s:A6) (hs:DL s) (n:Int) {Q:VV->Prop}:VP V UW [vT t,Dy s,.i .i64 n] Q↔Q (KE (D6 t s n 4 (-1))):=by
 refine Ae ?_
 rw [Ad C.c_z120.1 C.c_z120.2]
 have hm:=fun (Q:VV->Prop)=>Rn C t ht s hs n 4 (-1) (Q:=Q)
 cases h:D6 t s n 4 (-1) with
 | none =>
  rw [h] at hm
  simp only [KE,Yk] at hm ⊢
  simp only [RW,go_sem,↓reduceIte,hm]
  rfl
 | some s' =>
  rw [h] at hm
  simp only [KE] at hm ⊢
  simp only [RW,go_sem,↓reduceIte,hm]
def JZ (t:A1) (s:A6) (n w:Int):Option A6:=match D6 t s n 2 w with
 | some s'=>if Bd t s' = true then some s' else none
 | none=>none
theorem Rm (t:A1) (ht:A5 t) (s:A6) (hs:DL s) (hz:s.has.length < 1000/\s.jf.length < 1000) (n w:Int) {Q:VV->Prop}:VP V UX [vT t,Dy s,.i .i64 n,.i .i64 w] Q↔Q (KE (JZ t s n w)):=by
 refine Ae ?_
 rw [Ad C.c_z121.1 C.c_z121.2]
 have hm:=fun (Q:VV->Prop)=>Rn C t ht s hs n 2 w (Q:=Q)
 unfold JZ
 cases h:D6 t s n 2 w with
 | none =>
  rw [h] at hm
  simp only [KE,Yk] at hm ⊢
  simp only [PF,go_sem,↓reduceIte,hm]
  rfl
 | some s' =>
  rw [h] at hm
  have h2:DL s':=by
   rw [D6] at h
   split at h
   .rename_i h0
    cases h
    have h1:=Dq s.has n
    have hj:s.jf.length=s.has.length:=by
     simp only [Cy,Bd,and_eq_true,decide_eq_true_eq] at h0
     exact h0.1.1.1.1.1.1.1.1.2
    exact ⟨by show (Bg _ _ _).length<=1000;rw [D1 h1];omega,by show (Bg _ _ _).length<=1000;rw [D1 (by omega)];omega,hs.mo,hs.mi,hs.mc⟩
   .cases h
  have hf:=fun (Q:VV->Prop)=>Bv C t ht s' h2 (Q:=Q)
  cases hff:Bd t s' with
  | false =>
   simp only [KE,Yk,hff,Bool.false_eq_true,if_false] at hm ⊢
   simp only [PF,go_sem,↓reduceIte,hm,hf,hff]
   rfl
  | true =>
   simp only [KE,hff,if_true] at hm ⊢
   simp only [PF,go_sem,↓reduceIte,hm,hf,hff]
def EM (t:A1) (s:A6) (n at_:Int):Option A6:=match D6 t s n 3 (-1) with
 | some s'=>if at_ < 1\/((s'.mo.getD (t.at n.toNat).loc.toNat []).length:Int) < at_ then none else
   some { s' with mo:=s'.mo.set (t.at n.toNat).loc.toNat ((s'.mo.getD (t.at n.toNat).loc.toNat []).take at_.toNat++[n]::(s'.mo.getD (t.at n.toNat).loc.toNat []).drop at_.toNat) }
 | none=>none
theorem Pl (t:A1) (ht:A5 t) (s:A6) (hs:DL s) (n at_:Int) {Q:VV->Prop}:VP V UZ [vT t,Dy s,.i .i64 n,.i .i64 at_] Q↔Q (KE (EM t s n at_)):=by
 refine Ae ?_
 rw [Ad C.c_z123.1 C.c_z123.2]
 unfold EM D6
 cases hok:Cy t s n 3 with
 | false =>
  have hm:=fun (b:Nat) (Q:VV->VH->Prop)=>A1N C t ht s hs n 3 (-1) hok b (Q:=Q)
  simp only [KE,Yk,Bool.false_eq_true,if_false] at hm ⊢
  simp only [KY,go_sem,↓reduceIte,hm]
  rfl
 | true =>
  have h7:=hok
  simp only [Cy,and_eq_true,decide_eq_true_eq] at h7
  obtain ⟨⟨⟨⟨hf,h1⟩,h2⟩,h3⟩,h4⟩:=h7
  obtain ⟨m,rfl,h6⟩:=A8 h1
  rw [toNat_natCast] at h2
  have hm:=fun (b:Nat) (Q:VV->VH->Prop)=>A2S C t ht s hs h6 3 (-1) hok b (Q:=Q)
  have hg:s.mo.length=t.locs.length:=by simp only [Bd,and_eq_true,decide_eq_true_eq] at hf;exact hf.1.1.1.2
  obtain ⟨l0,l1⟩:=ht.wloc h6 (.inr h2)
  obtain ⟨loc,h5⟩:=Int.eq_ofNat_of_zero_le l0
  have h9:loc < s.mo.length:=by omega
  rw [if_pos rfl]
  simp only [toNat_natCast,h5]
  have h0:loc < (B6 s m (-1)).mo.length:=h9
  have hz:LU Bx 1 (List.map DD (B6 s m (-1)).mo) = ⟨Bx,1,0,false,List.map DD (B6 s m (-1)).mo⟩:=by
   unfold LU
   rw [if_neg (by rw [length_map];omega)]
  have Cp:=C1 h0
  have ha:=hs.mi' loc
  obtain ⟨L,hL⟩:∃ L,L=(B6 s m (-1)).mo.getD loc []:=⟨_,rfl⟩
  rw [<- hL] at Cp
  have he:L.length<=1000:=by rw [hL];exact ha
  rw [<- hL]
  cases c1:decide (at_ < 1) with
  | true =>
   rw [if_pos (.inl (of_decide_eq_true c1))]
   simp only [KE,Yk]
   simp only [KY,go_sem,↓reduceIte,hm,A7 h6,h5,hz,Cp,h0,c1]
   rfl
  | false =>
  have hc:=of_decide_eq_false c1
  obtain ⟨a,rfl⟩:=Int.eq_ofNat_of_zero_le (show 0<=at_ by omega)
  have h8:decide ((L.length:Int) < (a:Int))=decide (L.length < a):=decide_eq_decide.2 ⟨fun h=>by omega,fun h=>by omega⟩
  cases c2:decide (L.length < a) with
  | true =>
   have:=of_decide_eq_true c2
   rw [if_pos (.inr (by omega))]
   simp only [KE,Yk]
   simp only [KY,go_sem,↓reduceIte,hm,A7 h6,h5,hz,Cp,h0,c1,h8,c2]
   rfl
  | false =>
  have hd:=of_decide_eq_false c2
  rw [if_neg (by omega),toNat_natCast]
  have c3:a<=L.length:=by omega
  obtain ⟨A,hA⟩:∃ A,A=L.take a:=⟨_,rfl⟩
  obtain ⟨B,hB⟩:∃ B,B=L.drop a:=⟨_,rfl⟩
  have lA:A.length=a:=by rw [hA,length_take];omega
  have lB:B.length=L.length - a:=by rw [hB,length_drop]
  have b1:A.length * 24<=Aa:=by unfold Aa;omega
  have b2:(A.length+1) * 24<=Aa:=by unfold Aa;omega
  have jA:List.map Hv A++[[VV.ls [[VV.i .i64 (m:Int)]]]]=List.map Hv (A++[[(m:Int)]]):=by rw [map_append];rfl
  rw [<- hA,<- hB]
  cases B with
  | nil =>
   have b3:(A.length+1+0) * 24<=Aa:=by unfold Aa;omega
   have tB:List.take (L.length - a) ([]:List (List Int))=[]:=List.take_nil
   simp only [KY,go_sem,↓reduceIte,hm,A7 h6,h5,hz,Cp,h0,c1,h8,c2,c3,<- hA,<- hB,tB,b1,b2,b3,jA,length_append,length_map]
   rw [Ahm h0 (X:=A++[[(m:Int)]]) (ids:=[8]) (by simp only [go_sem,↓reduceIte,length_append,length_map])]
   simp only [go_sem,↓reduceIte,List.length_set,length_map]
   rfl
  | cons b0 Bs =>
   rw [length_cons] at lB
   obtain ⟨X,hX⟩:∃ X,X=A++[[(m:Int)]]++b0::Bs:=⟨_,rfl⟩
   have hb:List.take (L.length - a) (Hv b0::List.map Hv Bs)=Hv b0::List.map Hv Bs:=take_of_length_le (by simp;omega)
   have jX:List.map Hv (A++[[(m:Int)]])++Hv b0::List.map Hv Bs=List.map Hv X:=by rw [hX,map_append (l₁:=A++[[(m:Int)]])];rfl
   have lX:A.length+1+(Bs.length+1)=X.length:=by rw [hX];simp;omega
   have b3:X.length * 24<=Aa:=by unfold Aa;omega
   simp only [KY,go_sem,↓reduceIte,hm,A7 h6,h5,hz,Cp,h0,c1,h8,c2,c3,<- hA,<- hB,hb,b1,b2,b3,jA,jX,lX,length_append,length_map]
   rw [Ahm h0 (X:=X) (ids:=[8]) (by simp only [go_sem,↓reduceIte])]
   simp only [go_sem,↓reduceIte,List.length_set,length_map]
   have eX:X=A++[(m:Int)]::b0::Bs:=by rw [hX];simp
   rw [eX];rfl
end
end Go.AM
