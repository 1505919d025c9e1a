/-
  Own work, part of the proof of these laws: what functions compute.
-/
import Derived.Test.YthhlhddnndlhkaaGreatDoorKCe
set_option maxRecDepth 10000
set_option maxHeartbeats 64000000
set_option linter.unusedVariables false
set_option linter.unusedSimpArgs false
set_option linter.unusedSectionVars false
set_option linter.unnecessarySimpa false
open Bool (and_eq_true false_eq_true)
open Int (toNat_natCast)
open List (getD_eq_getElem?_getD length_map length_append length_take length_set length_cons take_of_length_le take_length nil_append map_append filter_append append_assoc range_succ length_drop cons_append append_nil map_cons mem_cons map_nil set_append_right filter_cons nodup_nil map_set mem_map)
open Nat (zero_le lt_or_ge mod_lt)
namespace Go.AM
open Go Go.Proofs
def LU (ty e:Nat) (rows:List (List VV)):VO:=if rows.length=0 then DW else { ty:=ty,esz:=e,ver:=0,nl:=false,rows:=rows }
def stJ (t:A1) (k:Nat):List Int:=List.replicate (EX t k).length (-1)
theorem Asw {t:A1} {k:Nat} (h:decide ((t.at k).up < 0)=true):stJ t (k+1)=stJ t k++[-1]:=by
 unfold stJ
 rw [AdV h,length_append,List.length_singleton,List.replicate_succ']
theorem Asv {t:A1} {k:Nat} (h:decide ((t.at k).up < 0)=false):stJ t (k+1)=stJ t k:=by unfold stJ;rw [AdU h]
theorem AlO {t:A1} (k:Nat):(stJ t k).length<=k:=by unfold stJ;rw [List.length_replicate];exact Xj k
def K3 (k:Nat):List (List (List Int)):=(List.range k).map fun (i:Nat)=>[[(i:Int)]]
theorem AfA (k:Nat):K3 (k+1)=K3 k++[[[(k:Int)]]]:=by
 unfold K3
 rw [range_succ,map_append];rfl
theorem Aih (k:Nat):(K3 k).length=k:=by simp [K3]
def sTh (t:A1) (k j:Nat):VH:=[some ⟨Af,0,0,false,[[.nl,.nl,.nl]]⟩,some (AW AO 1 ((EX t k).map eI)),some (AW AO 1 ((stJ t k).map eI)),some (AW Bx 1 ((K3 j).map DD)),
 some ⟨Af,0,0,false,[[.sl 1 (EX t k).length 0 (EX t k).length,.sl 2 (stJ t k).length 0 (stJ t k).length,.sl 3 (K3 j).length 0 (K3 j).length]]⟩]
theorem Aie (ty:Nat) (L:List (List Int)) (c:List Int):({ ty:=ty,esz:=1,ver:=L.length+1,nl:=false,rows:=L.map Hv++[[VV.ls (c.map eI)]] }:VO)=AW ty 1 ((L++[c]).map Hv):=by
 rw [map_append]
 unfold AW
 rw [if_neg (by simp),length_append,length_map];rfl
theorem AdS (ty:Nat) (L:List (List (List Int))) (c:List (List Int)):({ ty:=ty,esz:=1,ver:=L.length+1,nl:=false,rows:=L.map DD++[[VV.ls (c.map Hv)]] }:VO)=AW ty 1 ((L++[c]).map DD):=by
 rw [map_append]
 unfold AW
 rw [if_neg (by simp),length_append,length_map];rfl
def cpH (s:A6) (L:List (List (List Int))):VH:=[some ⟨Af,0,0,false,[[.nl,.nl,.nl]]⟩,some (Yg AO 1 (s.has.map eI)),some (Yg AO 1 (s.jf.map eI)),
 some ⟨Af,0,0,false,[[.sl 1 (Hf s.has.length) 0 s.has.length,.sl 2 (Hf s.jf.length) 0 s.jf.length,.sl 4 L.length 0 L.length]]⟩,some (AW Bx 1 (L.map DD))]
section
variable {V:At} (C:Aq V) {Q:VV->Prop}
include C
theorem Kj (t:A1) (ht:A5 t):VP V A5w [vT t] Q↔Q (Dy (Bu t)):=by
 refine Ae ?_
 rw [Ad C.c_z54.1 C.c_z54.2]
 have h1:=ht.n64
 have h2:=ht.l4
 simp only [A9f,go_sem,↓reduceIte]
 refine Ab (by decide) t.nodes.length (by omega) (I:=fun k F h=>A4.tmp F 1 = .fp (eT t) 0/\A4.tmp F 2 = .p 0 0 0 0/\A4.tmp F 3 = .p 4 0 0 0/\h=sTh t k 0) ?_ ?_ ?_ 0 _ _ (zero_le _) ?_ ?_
 .rintro k F h hk p4 ⟨p1,p2,p3,rfl⟩
  simp only [go_sem,↓reduceIte,p4,p1,p2,p3]
 .rintro k F h hk p4 ⟨p1,p2,p3,rfl⟩
  have h0:=Xj (t:=t) k
  cases c:decide ((t.at k).up < 0) with
  | true =>
   have b1:((EX t k).length+1) * 8<=Aa:=by unfold Aa;omega
   have hj:=AlO (t:=t) k
   have b2:((stJ t k).length+1) * 8<=Aa:=by unfold Aa;omega
   simp only [go_sem,↓reduceIte,p4,p1,p2,p3,hk,A7 hk,c,sTh,AdV c,Asw c,A0,b1,b2,length_map,length_append]
  | false =>
   simp only [go_sem,↓reduceIte,p4,p1,p2,p3,hk,A7 hk,c,sTh,AdU c,Asv c,A0]
 .rintro F h ⟨p1,p2,p3,rfl⟩
  simp only [go_sem,↓reduceIte,p1,p2,p3]
  refine Ab (by decide) t.locs.length (by omega) (I:=fun j F h=>A4.tmp F 1 = .fp (eT t) 0/\A4.tmp F 2 = .p 0 0 0 0/\A4.tmp F 3 = .p 4 0 0 0/\h=sTh t t.nodes.length j) ?_ ?_ ?_ 0 _ _ (zero_le _) ?_ ?_
  .rintro k F h hk p5 ⟨p1,p2,p3,rfl⟩
   simp only [go_sem,↓reduceIte,p5,p1,p2,p3]
  .rintro k F h hk p5 ⟨p1,p2,p3,rfl⟩
   have hm:=Aih k
   have b1:((K3 k).length+1) * 24<=Aa:=by unfold Aa;omega
   simp only [go_sem,↓reduceIte,p5,p1,p2,p3,hk,sTh,AfA,A0,b1,length_map,length_append]
   have e:List.map DD (K3 k++[[[(k:Int)]]])=List.map DD (K3 k)++[[VV.ls [[VV.ls [[VV.i IntKind.i64 (k:Int)]]]]]]:=by rw [map_append];rfl
   have e2:({ ty:=Bx,esz:=1,ver:=(K3 k).length+1,nl:=false,rows:=List.map DD (K3 k)++[[VV.ls [[VV.ls [[VV.i IntKind.i64 (k:Int)]]]]]] }:VO)=AW Bx 1 (List.map DD (K3 k++[[[(k:Int)]]])):=by
    rw [e]
    unfold AW
    rw [if_neg (by simp),length_append,length_map];rfl
   rw [e2]
   refine ⟨.inr ?_,rfl⟩
   rw [List.all_append,and_eq_true]
   exact ⟨JJ (fun _=>rfl),rfl⟩
  .rintro F h ⟨p1,p2,p3,rfl⟩
   simp only [go_sem,↓reduceIte,p1,p2,p3,sTh]
   rfl
  .simp only [go_sem,↓reduceIte]
  .simp only [go_sem,↓reduceIte,p1,p2,p3]
 .simp only [go_sem,↓reduceIte]
 .simp only [go_sem,↓reduceIte]
  rfl
theorem Pk (s:A6) (hs:DL s) (b:Nat) {Q:VV->VH->Prop}:VP1 V LO [Dy s] b Q↔Q (.ag [.sl b 0 0 s.has.length,.sl (b+1) 0 0 s.jf.length,.sl (b+1+1) 0 0 s.mo.length]) [some ⟨AO,1,0,false,s.has.map eI⟩,some ⟨AO,1,0,false,s.jf.map eI⟩,some (LU Bx 1 (s.mo.map DD))]:=by
 refine K8 ?_
 rw [K9 C.c_z96.2]
 have h1:=hs.has
 have h2:=hs.jf
 have h3:=hs.mo
 have b1:s.has.length * 8<=Aa:=by unfold Aa;omega
 have b2:s.jf.length * 8<=Aa:=by unfold Aa;omega
 simp only [P7,go_sem,↓reduceIte,b1,b2]
 refine Ab (by decide) s.mo.length (by omega) (I:=fun k F h=>A4.tmp F 1 = .fp (Je s) 0/\A4.tmp F 2 = .p 0 0 0 0/\A4.tmp F 3 = .p 3 0 0 0/\∃ L,L=s.mo.take k/\h=cpH s L) ?_ ?_ ?_ 0 _ _ (zero_le _) ?_ ?_
 .rintro k F h hk p4 ⟨p1,p2,p3,L,hL,rfl⟩
  simp only [go_sem,↓reduceIte,p4,p1,p2,p3]
  exact ⟨L,hL,rfl⟩
 .rintro k F h hk p4 ⟨p1,p2,p3,L,hL,rfl⟩
  have hm:=hs.mi' k
  simp only [go_sem,↓reduceIte,p4,p1,p2,p3,A0,cpH]
  refine Ab (by decide) (s.mo.getD k []).length (by omega) (I:=fun j F h=>A4.tmp F 4 = .i .i64 k/\A4.tmp F 1 = .fp (Je s) 0/\A4.tmp F 2 = .p 0 0 0 0/\A4.tmp F 3 = .p 3 0 0 0/\∃ K,K=(s.mo.getD k []).take j/\A4.tmp F 5 = .sl 5 K.length 0 K.length/\h=cpH s L++[some (AW D7 1 (K.map Hv))]) ?_ ?_ ?_ 0 _ _ (zero_le _) ?_ ?_
  .rintro j F h hj q6 ⟨q4,q1,q2,q3,K,hK,q5,rfl⟩
   simp only [go_sem,↓reduceIte,q6,q4,q1,q2,q3,q5,C1 hk]
   exact ⟨K,hK,rfl,rfl⟩
  .rintro j F h hj q6 ⟨q4,q1,q2,q3,K,hK,q5,rfl⟩
   have h0:(s.mo.getD k []).take (j+1)=K++[(s.mo.getD k []).getD j []]:=by
    rw [List.take_succ_eq_append_getElem hj,hK,getD_eq_getElem?_getD (l:=s.mo.getD k []),List.getElem?_eq_getElem hj];rfl
   have hc:=hs.mc' k j
   have hl:K.length=j:=by rw [hK,length_take];omega
   have b3:((s.mo.getD k []).getD j []).length * 8<=Aa:=by unfold Aa;omega
   have b4:(K.length+1) * 24<=Aa:=by unfold Aa;omega
   simp only [go_sem,↓reduceIte,q6,q4,q1,q2,q3,q5,C1 hk,ET hj,hk,hj,b3,b4,cpH,Aie,A0,length_append,length_map]
   exact ⟨K++[(s.mo.getD k []).getD j []],h0.symm,by simp,rfl⟩
  .rintro F h ⟨q4,q1,q2,q3,K,hK,q5,rfl⟩
   rw [take_length] at hK
   subst hK
   have h0:s.mo.take (k+1)=L++[s.mo.getD k []]:=by
    rw [List.take_succ_eq_append_getElem hk,hL,getD_eq_getElem?_getD,List.getElem?_eq_getElem hk];rfl
   have hl:L.length=k:=by rw [hL,length_take];omega
   have b4:(L.length+1) * 24<=Aa:=by unfold Aa;omega
   simp only [go_sem,↓reduceIte,q4,q1,q2,q3,q5,b4,cpH,AdS,length_append,length_map]
   exact ⟨L++[s.mo.getD k []],h0.symm,by simp⟩
  .simp only [go_sem,↓reduceIte]
  .simp only [go_sem,↓reduceIte,p4,p1,p2,p3,cpH]
   exact ⟨[],rfl,rfl,rfl⟩
 .rintro F h ⟨p1,p2,p3,L,hL,rfl⟩
  rw [take_length] at hL
  subst hL
  simp only [go_sem,↓reduceIte,p1,p2,p3,cpH,BF,BF.takeL]
  refine ⟨by decide,?_⟩
  unfold AW LU
  split<;>simp_all [DW]
 .simp only [go_sem,↓reduceIte]
 .simp only [go_sem,↓reduceIte]
  exact ⟨[],rfl,rfl⟩
end
def Yk:A6:=⟨[],[],[]⟩
def KE (o:Option A6):VV:=match o with
 | some s=>.tu [Dy s,.b true]
 | none=>.tu [Dy Yk,.b false]
def D6 (t:A1) (s:A6) (n kind w:Int):Option A6:=if Cy t s n kind=true then some (B6 s n w) else none
theorem QZ {l:List Int} {n:Int} {i:Nat} (h:i<=Br l n):(i < l.length/\l.getD i 0 < n)↔i < Br l n:=by
 constructor
 .rintro ⟨h1,h2⟩
  rcases lt_or_ge i (Br l n) with c | c
  .exact c
  .have e:i=Br l n:=by omega
   subst e
   exact absurd h2 (Ak5 h1)
 .intro h2
  exact ⟨by have:=Dq l n;omega,R0 h2⟩
theorem QI {ty e:Nat} {rows:List (List VV)}:(LU ty e rows).ver=0:=by unfold LU;split<;>rfl
theorem MP {ty e:Nat} {rows:List (List VV)}:(LU ty e rows).rows=rows:=by
 unfold LU;split
 .rename_i h;rw [List.length_eq_zero_iff.1 h];rfl
 .rfl
theorem QH {ty:Nat} {rows:List (List VV)}:(decide (0 < (LU ty 1 rows).esz) || (LU ty 1 rows).nl)=true:=by unfold LU;split<;>rfl
def moH (s:A6):VH:=[some ⟨Af,0,0,false,[[.nl,.nl,.nl]]⟩,some ⟨AO,1,0,false,s.has.map eI⟩,some ⟨AO,1,0,false,s.jf.map eI⟩,some (LU Bx 1 (s.mo.map DD)),some ⟨Af,0,0,false,[[.sl 1 0 0 s.has.length,.sl 2 0 0 s.jf.length,.sl 3 0 0 s.mo.length]]⟩]
section
variable {V:At} (C:Aq V) {Q:VV->Prop}
include C
theorem Rn (t:A1) (ht:A5 t) (s:A6) (hs:DL s) (n kind w:Int):VP V EG [vT t,Dy s,.i .i64 n,.i .i64 kind,.i .i64 w] Q↔Q (KE (D6 t s n kind w)):=by
 refine Ae ?_
 rw [Ad C.c_z178.1 C.c_z178.2]
 have h6:=fun (Q:VV->Prop)=>Bv C t ht s hs (Q:=Q)
 have h8:Cy t s n kind=false->KE (D6 t s n kind w) = .tu [Dy Yk,.b false]:=fun h=>by rw [D6,h];rfl
 have e0:(VV.tu [Dy Yk,.b false]) = .tu [.ag [.ls [],.ls [],.ls []],.b false]:=rfl
 have q2:=hs.has
 cases hf:Bd t s with
 | false =>
  rw [h8 (by rw [Cy,hf];rfl),e0]
  simp only [Cw,go_sem,↓reduceIte,h6,hf]
 | true =>
 cases h1:BP t n with
 | false =>
  rw [h8 (by rw [Cy,hf,h1];rfl),e0]
  simp only [Cw,go_sem,↓reduceIte,h6,hf,AA C,h1]
 | true =>
 obtain ⟨m,rfl,hm⟩:=A8 h1
 cases h2:decide ((t.at m).kind=kind) with
 | false =>
  rw [h8 (by rw [Cy,hf,h1,toNat_natCast,h2];rfl),e0]
  simp only [Cw,go_sem,↓reduceIte,h6,hf,AA C,h1,A7 hm,h2]
 | true =>
 have w1:=EB s.has (m:Int)
 cases h3:AU s.has (m:Int) with
 | true =>
  rw [h8 (by rw [Cy,hf,h1,toNat_natCast,h2,h3];rfl),e0]
  rw [h3] at w1
  simp only [Cw,go_sem,↓reduceIte,h6,hf,AA C,h1,A7 hm,h2,Ao C s.has (by omega),w1]
 | false =>
 rw [h3] at w1
 have w2:=Cg s.has (t.at m).up
 cases h4:AU s.has (t.at m).up with
 | false =>
  rw [h8 (by rw [Cy,hf,h1,toNat_natCast,h2,h3,h4];rfl),e0]
  rw [h4] at w2
  simp only [Cw,go_sem,↓reduceIte,h6,hf,AA C,h1,A7 hm,h2,Ao C s.has (by omega),w1,w2]
 | true =>
 rw [h4] at w2
 have hu:D6 t s m kind w=some (B6 s m w):=by rw [D6,Cy,hf,h1,toNat_natCast,h2,h3,h4];rfl
 rw [hu]
 have hr:=fun (b:Nat) (Q:VV->VH->Prop)=>Pk C s hs b (Q:=Q)
 simp only [Cw,go_sem,↓reduceIte,h6,hf,AA C,h1,A7 hm,h2,Ao C s.has (by omega),w1,w2,hr]
 unfold VL
 rw [A0]
 have q0:s.jf.length=s.has.length:=by simp only [Bd,and_eq_true,decide_eq_true_eq] at hf;exact hf.1.1.1.1.2
 refine AT (M:=Nat) (I:=fun i F h=>i<=Br s.has m/\A4.tmp F 2 = .i .i64 m/\A4.tmp F 4 = .i .i64 w/\A4.tmp F 6 = .fp (Je s) 0/\A4.tmp F 10 = .p 0 0 0 0/\A4.tmp F 12 = .p 4 0 0 0/\A4.tmp F 13 = .i .i64 i/\h=moH s) (μ:=fun i=>s.has.length - i) ?_ 0 _ _ ⟨zero_le _,?_,?_,?_,?_,?_,?_,rfl⟩
 .rintro i F h ⟨hi,p2,p4,p6,hl,hn,ho,rfl⟩
  have hj:=QZ hi
  have q1:=Dq s.has m
  by_cases c:i < s.has.length
  .cases c2:decide (s.has.getD i 0 < (m:Int)) with
   | true =>
    have he:=of_decide_eq_true c2
    have q3:=hj.1 ⟨c,he⟩
    have hw:IntKind.i64.wrap ((i:Int)+1)=((i+1:Nat):Int):=by rw [Az (by omega) (by omega)];omega
    simp only [Hc,go_sem,↓reduceIte,p2,p4,p6,hl,hn,ho,c,Ar c,c2,A0,hw]
    exact ⟨i+1,by omega,by omega,rfl,rfl,rfl⟩
   | false =>
    have he:=of_decide_eq_false c2
    have e:i=Br s.has m:=by
     rcases lt_or_ge i (Br s.has m) with h | h
     .exact absurd (R0 h) he
     .omega
    obtain ⟨A,hA⟩:∃ A,A=s.has.take i:=⟨_,rfl⟩
    obtain ⟨B,hB⟩:∃ B,B=s.has.drop i:=⟨_,rfl⟩
    obtain ⟨A',h0⟩:∃ A,A=s.jf.take i:=⟨_,rfl⟩
    obtain ⟨B',h5⟩:∃ B,B=s.jf.drop i:=⟨_,rfl⟩
    have lA:A.length=i:=by rw [hA,length_take];omega
    have hx:A'.length=i:=by rw [h0,length_take];omega
    have lB:B.length=s.has.length - i:=by rw [hB,length_drop]
    have hk:B'.length=s.jf.length - i:=by rw [h5,length_drop]
    have tB:List.take (s.has.length - i) B=B:=take_of_length_le (by omega)
    have hq:List.take (s.jf.length - i) B' = B':=take_of_length_le (by omega)
    have c1:i<=s.has.length:=by omega
    have hd:i<=s.jf.length:=by omega
    have b1:A.length * 8<=Aa:=by unfold Aa;omega
    have ha:A'.length * 8<=Aa:=by unfold Aa;omega
    have b2:(A.length+1) * 8<=Aa:=by unfold Aa;omega
    have hb:(A'.length+1) * 8<=Aa:=by unfold Aa;omega
    obtain ⟨b0,Bs,rfl⟩:∃ b0 Bs,B=b0::Bs:=by
     cases B with
     | nil=>simp at lB;omega
     | cons b0 Bs=>exact ⟨b0,Bs,rfl⟩
    obtain ⟨h9,h7,rfl⟩:∃ b0 Bs,B' = b0::Bs:=by
     cases B' with
     | nil=>simp at hk;omega
     | cons b0 Bs=>exact ⟨b0,Bs,rfl⟩
    rw [length_cons] at lB hk
    have hz:List.take (s.has.length - i) (eI b0::List.map eI Bs)=eI b0::List.map eI Bs:=take_of_length_le (by simp;omega)
    have hp:List.take (s.jf.length - i) (eI h9::List.map eI h7)=eI h9::List.map eI h7:=take_of_length_le (by simp;omega)
    obtain ⟨X,hX⟩:∃ X,X=A++[(m:Int)]++b0::Bs:=⟨_,rfl⟩
    obtain ⟨X',hh⟩:∃ X,X=A'++[w]++h9::h7:=⟨_,rfl⟩
    have jX:List.map eI (A++[(m:Int)])++eI b0::List.map eI Bs=List.map eI X:=by rw [hX,map_append (l₁:=A++[(m:Int)])];rfl
    have hv:List.map eI (A'++[w])++eI h9::List.map eI h7 = List.map eI X':=by rw [hh,map_append (l₁:=A'++[w])];rfl
    have lX:A.length+1+(Bs.length+1)=X.length:=by rw [hX];simp;omega
    have hy:A'.length+1+(h7.length+1)=X'.length:=by rw [hh];simp;omega
    have b3:X.length * 8<=Aa:=by unfold Aa;omega
    have hc:X'.length * 8<=Aa:=by unfold Aa;omega
    have eX:X=Bg s.has (Br s.has m) m:=by rw [hX,Bg,<- e,<- hA,<- hB];simp
    have hg:X' = Bg s.jf (Br s.has m) w:=by rw [hh,Bg,<- e,<- h0,<- h5];simp
    simp only [Hc,go_sem,↓reduceIte,p2,p4,p6,hl,hn,ho,c,Ar c,c2,A0,moH,<- hA,<- hB,<- h0,<- h5,hz,hp,c1,hd,b1,ha,b2,hb,b3,hc,length_append,length_map,QI,MP,QH,jX,hv,lX,hy]
    rw [eX,hg];rfl
  .have e:i=Br s.has m:=by omega
   obtain ⟨A,hA⟩:∃ A,A=s.has.take i:=⟨_,rfl⟩
   obtain ⟨B,hB⟩:∃ B,B=s.has.drop i:=⟨_,rfl⟩
   obtain ⟨A',h0⟩:∃ A,A=s.jf.take i:=⟨_,rfl⟩
   obtain ⟨B',h5⟩:∃ B,B=s.jf.drop i:=⟨_,rfl⟩
   have lA:A.length=i:=by rw [hA,length_take];omega
   have hx:A'.length=i:=by rw [h0,length_take];omega
   have lB:B.length=s.has.length - i:=by rw [hB,length_drop]
   have hk:B'.length=s.jf.length - i:=by rw [h5,length_drop]
   have tB:List.take (s.has.length - i) B=B:=take_of_length_le (by omega)
   have hq:List.take (s.jf.length - i) B' = B':=take_of_length_le (by omega)
   have c1:i<=s.has.length:=by omega
   have hd:i<=s.jf.length:=by omega
   have b1:A.length * 8<=Aa:=by unfold Aa;omega
   have ha:A'.length * 8<=Aa:=by unfold Aa;omega
   have b2:(A.length+1) * 8<=Aa:=by unfold Aa;omega
   have hb:(A'.length+1) * 8<=Aa:=by unfold Aa;omega
   obtain rfl:B=[]:=List.length_eq_zero_iff.1 (by omega)
   obtain rfl:B' = []:=List.length_eq_zero_iff.1 (by omega)
   have b3:(A.length+1+0) * 8<=Aa:=by unfold Aa;omega
   have hc:(A'.length+1+0) * 8<=Aa:=by unfold Aa;omega
   simp only [Hc,go_sem,↓reduceIte,p2,p4,p6,hl,hn,ho,c,A0,moH,<- hA,<- hB,<- h0,<- h5,tB,hq,c1,hd,b1,ha,b2,hb,b3,hc,length_append,length_map,QI,MP,QH]
   have eX:A++[(m:Int)]=Bg s.has (Br s.has m) m:=by rw [Bg,<- e,<- hA,<- hB]
   have hg:A'++[w]=Bg s.jf (Br s.has m) w:=by rw [Bg,<- e,<- h0,<- h5]
   rw [eX,hg];rfl
 .simp only [go_sem,↓reduceIte]
 .simp only [go_sem,↓reduceIte]
 .simp only [go_sem,↓reduceIte]
 .simp only [go_sem,↓reduceIte]
 .simp only [go_sem,↓reduceIte]
 .simp only [go_sem,↓reduceIte]
end
abbrev agS (s:A6) (b:Nat):VV:=.ag [.sl b 0 0 s.has.length,.sl (b+1) 0 0 s.jf.length,.sl (b+1+1) 0 0 s.mo.length]
abbrev obS (s:A6):VH:=[some ⟨AO,1,0,false,s.has.map eI⟩,some ⟨AO,1,0,false,s.jf.map eI⟩,some (LU Bx 1 (s.mo.map DD))]
theorem A8i {ty e:Nat} {rows:List (List VV)}:({ ty:=(LU ty e rows).ty,esz:=(LU ty e rows).esz,ver:=0,nl:=(LU ty e rows).nl,rows:=rows }:VO)=LU ty e rows:=by
 unfold LU
 split
 .rename_i h;rw [List.length_eq_zero_iff.1 h];rfl
 .rfl
theorem A1j {α:Type} {g:α->Option (α×List Nat)}:∀ (l:List α) (k:Nat) (x y:α) (ids:List Nat),(∀ a∈l,g a=some (a,[]))->k < l.length->g x=some (y,ids)->Bh g (l.set k x)=some (l.set k y,ids)
 | [],k,x,y,ids,_,hk,_=>by simp at hk
 | a::l,0,x,y,ids,h,_,hx=>by
  have hl:Bh g l=some (l,[]):=by
   have:∀ (l:List α),(∀ a∈l,g a=some (a,[]))->Bh g l=some (l,[]):=by
    intro l
    induction l with
    | nil=>intro _;rfl
    | cons b l ih=>intro h;simp only [Bh,h b (by simp),ih fun a ha=>h a (by simp [ha]),nil_append]
   exact this l fun a ha=>h a (by simp [ha])
  simp only [List.set_cons_zero,Bh,hx,hl,append_nil]
 | a::l,k+1,x,y,ids,h,hk,hx=>by
  have:=A1j l k x y ids (fun a ha=>h a (by simp [ha])) (by simpa using hk) hx
  simp only [List.set_cons_succ,Bh,h a (by simp),this,nil_append]
theorem Ahm {H:VH} {l:List (List (List Int))} {k:Nat} (hk:k < l.length) {v:VV} {X:List (List Int)} {ids:List Nat} (hv:frz H 5 v=some (.ls (X.map Hv),ids)) :
  Bh (fun row=>Bh (frz H 5) row) (List.take l.length ((l.map DD).set k [v]))=some ((l.set k X).map DD,ids):=by
 rw [take_of_length_le (by simp)]
 rw [map_set]
 refine A1j (l.map DD) k [v] (DD X) ids ?_ (by simpa using hk) ?_
 .intro a ha
  obtain ⟨c,_,rfl⟩:=List.mem_map.1 ha
  simp only [go_sem,XO,↓reduceIte]
 .simp only [Bh,hv,append_nil]
section
variable {V:At} (C:Aq V)
include C
theorem A1N (t:A1) (ht:A5 t) (s:A6) (hs:DL s) (n kind w:Int) (h0:Cy t s n kind=false) (b:Nat) {Q:VV->VH->Prop}:VP1 V EG [vT t,Dy s,.i .i64 n,.i .i64 kind,.i .i64 w] b Q↔Q (.tu [Dy Yk,.b false]) []:=by
 refine K8 ?_
 rw [K9 C.c_z178.2]
 have h5:=fun (Q:VV->Prop)=>Bv C t ht s hs (Q:=Q)
 have e0:(VV.tu [Dy Yk,.b false]) = .tu [.ag [.ls [],.ls [],.ls []],.b false]:=rfl
 have h6:=hs.has
 rw [e0]
 cases hf:Bd t s with
 | false =>
  simp only [Cw,go_sem,↓reduceIte,h5,hf,BF,BF.takeL]
  exact nodup_nil
 | true =>
 cases h1:BP t n with
 | false =>
  simp only [Cw,go_sem,↓reduceIte,h5,hf,AA C,h1,BF,BF.takeL]
  exact nodup_nil
 | true =>
 obtain ⟨m,rfl,hm⟩:=A8 h1
 cases h2:decide ((t.at m).kind=kind) with
 | false =>
  simp only [Cw,go_sem,↓reduceIte,h5,hf,AA C,h1,A7 hm,h2,BF,BF.takeL]
  exact nodup_nil
 | true =>
 have w1:=EB s.has (m:Int)
 cases h3:AU s.has (m:Int) with
 | true =>
  rw [h3] at w1
  simp only [Cw,go_sem,↓reduceIte,h5,hf,AA C,h1,A7 hm,h2,Ao C s.has (by omega),w1,BF,BF.takeL]
  exact nodup_nil
 | false =>
 rw [h3] at w1
 have w2:=Cg s.has (t.at m).up
 cases h4:AU s.has (t.at m).up with
 | false =>
  rw [h4] at w2
  simp only [Cw,go_sem,↓reduceIte,h5,hf,AA C,h1,A7 hm,h2,Ao C s.has (by omega),w1,w2,BF,BF.takeL]
  exact nodup_nil
 | true =>
  rw [Cy,hf,h1,toNat_natCast,h2,h3,h4] at h0
  cases h0
theorem A2S (t:A1) (ht:A5 t) (s:A6) (hs:DL s) {m:Nat} (hm:m < t.nodes.length) (kind w:Int) (hok:Cy t s m kind=true) (b:Nat) {Q:VV->VH->Prop}:VP1 V EG [vT t,Dy s,.i .i64 m,.i .i64 kind,.i .i64 w] b Q↔Q (.tu [agS (B6 s m w) b,.b true]) (obS (B6 s m w)):=by
 refine K8 ?_
 rw [K9 C.c_z178.2]
 have hr:=fun (Q:VV->Prop)=>Bv C t ht s hs (Q:=Q)
 have q0:=hs.has
 have h1:BP t (m:Int)=true:=BM hm
 simp only [Cy,and_eq_true,Bool.not_eq_true',toNat_natCast] at hok
 obtain ⟨⟨⟨⟨hf,_⟩,h2⟩,h3⟩,h4⟩:=hok
 have w1:=EB s.has (m:Int)
 have w2:=Cg s.has (t.at m).up
 rw [h3] at w1
 rw [h4] at w2
 have hq:=fun (b:Nat) (Q:VV->VH->Prop)=>Pk C s hs b (Q:=Q)
 simp only [Cw,go_sem,↓reduceIte,hr,hf,AA C,h1,A7 hm,h2,Ao C s.has (by omega),w1,w2,hq]
 unfold VL
 rw [A0]
 have hy:s.jf.length=s.has.length:=by simp only [Bd,and_eq_true,decide_eq_true_eq] at hf;exact hf.1.1.1.1.2
 refine AT (M:=Nat) (I:=fun i F h=>i<=Br s.has m/\A4.tmp F 2 = .i .i64 m/\A4.tmp F 4 = .i .i64 w/\A4.tmp F 6 = .fp (Je s) 0/\A4.tmp F 10 = .p 0 0 0 0/\A4.tmp F 12 = .p 4 0 0 0/\A4.tmp F 13 = .i .i64 i/\h=moH s) (μ:=fun i=>s.has.length - i) ?_ 0 _ _ ⟨zero_le _,?_,?_,?_,?_,?_,?_,rfl⟩
 .rintro i F h ⟨hi,p2,p4,p6,hk,hl,hn,rfl⟩
  have hg:=QZ hi
  have hz:=Dq s.has m
  by_cases c:i < s.has.length
  .cases c2:decide (s.has.getD i 0 < (m:Int)) with
   | true =>
    have hd:=of_decide_eq_true c2
    have q1:=hg.1 ⟨c,hd⟩
    have hw:IntKind.i64.wrap ((i:Int)+1)=((i+1:Nat):Int):=by rw [Az (by omega) (by omega)];omega
    simp only [Hc,go_sem,↓reduceIte,p2,p4,p6,hk,hl,hn,c,Ar c,c2,A0,hw]
    exact ⟨i+1,by omega,by omega,rfl,rfl,rfl⟩
   | false =>
    have hd:=of_decide_eq_false c2
    have e:i=Br s.has m:=by
     rcases lt_or_ge i (Br s.has m) with h | h
     .exact absurd (R0 h) hd
     .omega
    obtain ⟨A,hA⟩:∃ A,A=s.has.take i:=⟨_,rfl⟩
    obtain ⟨B,hB⟩:∃ B,B=s.has.drop i:=⟨_,rfl⟩
    obtain ⟨A',h0⟩:∃ A,A=s.jf.take i:=⟨_,rfl⟩
    obtain ⟨B',h5⟩:∃ B,B=s.jf.drop i:=⟨_,rfl⟩
    have lA:A.length=i:=by rw [hA,length_take];omega
    have hv:A'.length=i:=by rw [h0,length_take];omega
    have lB:B.length=s.has.length - i:=by rw [hB,length_drop]
    have hh:B'.length=s.jf.length - i:=by rw [h5,length_drop]
    have tB:List.take (s.has.length - i) B=B:=take_of_length_le (by omega)
    have hp:List.take (s.jf.length - i) B' = B':=take_of_length_le (by omega)
    have c1:i<=s.has.length:=by omega
    have hc:i<=s.jf.length:=by omega
    have b1:A.length * 8<=Aa:=by unfold Aa;omega
    have h9:A'.length * 8<=Aa:=by unfold Aa;omega
    have b2:(A.length+1) * 8<=Aa:=by unfold Aa;omega
    have ha:(A'.length+1) * 8<=Aa:=by unfold Aa;omega
    obtain ⟨b0,Bs,rfl⟩:∃ b0 Bs,B=b0::Bs:=by
     cases B with
     | nil=>simp at lB;omega
     | cons b0 Bs=>exact ⟨b0,Bs,rfl⟩
    obtain ⟨h8,h6,rfl⟩:∃ b0 Bs,B' = b0::Bs:=by
     cases B' with
     | nil=>simp at hh;omega
     | cons b0 Bs=>exact ⟨b0,Bs,rfl⟩
    rw [length_cons] at lB hh
    have hx:List.take (s.has.length - i) (eI b0::List.map eI Bs)=eI b0::List.map eI Bs:=take_of_length_le (by simp;omega)
    have ho:List.take (s.jf.length - i) (eI h8::List.map eI h6)=eI h8::List.map eI h6:=take_of_length_le (by simp;omega)
    obtain ⟨X,hX⟩:∃ X,X=A++[(m:Int)]++b0::Bs:=⟨_,rfl⟩
    obtain ⟨X',he⟩:∃ X,X=A'++[w]++h8::h6:=⟨_,rfl⟩
    have jX:List.map eI (A++[(m:Int)])++eI b0::List.map eI Bs=List.map eI X:=by rw [hX,map_append (l₁:=A++[(m:Int)])];rfl
    have hu:List.map eI (A'++[w])++eI h8::List.map eI h6 = List.map eI X':=by rw [he,map_append (l₁:=A'++[w])];rfl
    have lX:A.length+1+(Bs.length+1)=X.length:=by rw [hX];simp;omega
    have hj:A'.length+1+(h6.length+1)=X'.length:=by rw [he];simp;omega
    have b3:X.length * 8<=Aa:=by unfold Aa;omega
    have hb:X'.length * 8<=Aa:=by unfold Aa;omega
    have eX:X=Bg s.has (Br s.has m) m:=by rw [hX,Bg,<- e,<- hA,<- hB];simp
    have h7:X' = Bg s.jf (Br s.has m) w:=by rw [he,Bg,<- e,<- h0,<- h5];simp
    simp only [Hc,go_sem,↓reduceIte,p2,p4,p6,hk,hl,hn,c,Ar c,c2,A0,moH,<- hA,<- hB,<- h0,<- h5,hx,ho,c1,hc,b1,h9,b2,ha,b3,hb,length_append,length_map,QI,MP,QH,BF,BF.takeL,jX,hu,lX,hj]
    exact ⟨by decide,by rw [eX,h7];rfl,by rw [A8i,eX,h7];rfl⟩
  .have e:i=Br s.has m:=by omega
   obtain ⟨A,hA⟩:∃ A,A=s.has.take i:=⟨_,rfl⟩
   obtain ⟨B,hB⟩:∃ B,B=s.has.drop i:=⟨_,rfl⟩
   obtain ⟨A',h0⟩:∃ A,A=s.jf.take i:=⟨_,rfl⟩
   obtain ⟨B',h5⟩:∃ B,B=s.jf.drop i:=⟨_,rfl⟩
   have lA:A.length=i:=by rw [hA,length_take];omega
   have hv:A'.length=i:=by rw [h0,length_take];omega
   have lB:B.length=s.has.length - i:=by rw [hB,length_drop]
   have hh:B'.length=s.jf.length - i:=by rw [h5,length_drop]
   have tB:List.take (s.has.length - i) B=B:=take_of_length_le (by omega)
   have hp:List.take (s.jf.length - i) B' = B':=take_of_length_le (by omega)
   have c1:i<=s.has.length:=by omega
   have hc:i<=s.jf.length:=by omega
   have b1:A.length * 8<=Aa:=by unfold Aa;omega
   have h9:A'.length * 8<=Aa:=by unfold Aa;omega
   have b2:(A.length+1) * 8<=Aa:=by unfold Aa;omega
   have ha:(A'.length+1) * 8<=Aa:=by unfold Aa;omega
   obtain rfl:B=[]:=List.length_eq_zero_iff.1 (by omega)
   obtain rfl:B' = []:=List.length_eq_zero_iff.1 (by omega)
   have b3:(A.length+1+0) * 8<=Aa:=by unfold Aa;omega
   have hb:(A'.length+1+0) * 8<=Aa:=by unfold Aa;omega
   simp only [Hc,go_sem,↓reduceIte,p2,p4,p6,hk,hl,hn,c,A0,moH,<- hA,<- hB,<- h0,<- h5,tB,hp,c1,hc,b1,h9,b2,ha,b3,hb,length_append,length_map,QI,MP,QH,BF,BF.takeL]
   have eX:A++[(m:Int)]=Bg s.has (Br s.has m) m:=by rw [Bg,<- e,<- hA,<- hB]
   have h7:A'++[w]=Bg s.jf (Br s.has m) w:=by rw [Bg,<- e,<- h0,<- h5]
   have lX:A.length+1=(Bg s.has (Br s.has m) m).length:=by rw [<- eX];simp
   have hj:A'.length+1=(Bg s.jf (Br s.has m) w).length:=by rw [<- h7];simp
   exact ⟨by decide,by rw [lX,hj];rfl,by rw [A8i,eX,h7];rfl⟩
 .simp only [go_sem,↓reduceIte]
 .simp only [go_sem,↓reduceIte]
 .simp only [go_sem,↓reduceIte]
 .simp only [go_sem,↓reduceIte]
 .simp only [go_sem,↓reduceIte]
 .simp only [go_sem,↓reduceIte]
theorem XV (t:A1) (ht:A5 t) (s:A6) (hs:DL s) (n:Int) {Q:VV->Prop}:VP V UW [vT t,Dy s,.i .i64 n] Q↔Q (KE (D6 t s n 4 (-1))):=by
 refine Ae ?_
 rw [Ad C.c_z120.1 C.c_z120.2]
 have hm:=fun (Q:VV->Prop)=>Rn C t ht s hs n 4 (-1) (Q:=Q)
 cases h:D6 t s n 4 (-1) with
 | none =>
  rw [h] at hm
  simp only [KE,Yk] at hm ⊢
  simp only [RW,go_sem,↓reduceIte,hm]
  rfl
 | some s' =>
  rw [h] at hm
  simp only [KE] at hm ⊢
  simp only [RW,go_sem,↓reduceIte,hm]
def JZ (t:A1) (s:A6) (n w:Int):Option A6:=match D6 t s n 2 w with
 | some s'=>if Bd t s' = true then some s' else none
 | none=>none
theorem Rm (t:A1) (ht:A5 t) (s:A6) (hs:DL s) (hz:s.has.length < 1000/\s.jf.length < 1000) (n w:Int) {Q:VV->Prop}:VP V UX [vT t,Dy s,.i .i64 n,.i .i64 w] Q↔Q (KE (JZ t s n w)):=by
 refine Ae ?_
 rw [Ad C.c_z121.1 C.c_z121.2]
 have hm:=fun (Q:VV->Prop)=>Rn C t ht s hs n 2 w (Q:=Q)
 unfold JZ
 cases h:D6 t s n 2 w with
 | none =>
  rw [h] at hm
  simp only [KE,Yk] at hm ⊢
  simp only [PF,go_sem,↓reduceIte,hm]
  rfl
 | some s' =>
  rw [h] at hm
  have h2:DL s':=by
   rw [D6] at h
   split at h
   .rename_i h0
    cases h
    have h1:=Dq s.has n
    have hj:s.jf.length=s.has.length:=by
     simp only [Cy,Bd,and_eq_true,decide_eq_true_eq] at h0
     exact h0.1.1.1.1.1.1.1.1.2
    exact ⟨by show (Bg _ _ _).length<=1000;rw [D1 h1];omega,by show (Bg _ _ _).length<=1000;rw [D1 (by omega)];omega,hs.mo,hs.mi,hs.mc⟩
   .cases h
  have hf:=fun (Q:VV->Prop)=>Bv C t ht s' h2 (Q:=Q)
  cases hff:Bd t s' with
  | false =>
   simp only [KE,Yk,hff,false_eq_true,if_false] at hm ⊢
   simp only [PF,go_sem,↓reduceIte,hm,hf,hff]
   rfl
  | true =>
   simp only [KE,hff,if_true] at hm ⊢
   simp only [PF,go_sem,↓reduceIte,hm,hf,hff]
def EM (t:A1) (s:A6) (n at_:Int):Option A6:=match D6 t s n 3 (-1) with
 | some s'=>if at_ < 1\/((s'.mo.getD (t.at n.toNat).loc.toNat []).length:Int) < at_ then none else
   some { s' with mo:=s'.mo.set (t.at n.toNat).loc.toNat ((s'.mo.getD (t.at n.toNat).loc.toNat []).take at_.toNat++[n]::(s'.mo.getD (t.at n.toNat).loc.toNat []).drop at_.toNat) }
 | none=>none
theorem Pl (t:A1) (ht:A5 t) (s:A6) (hs:DL s) (n at_:Int) {Q:VV->Prop}:VP V UZ [vT t,Dy s,.i .i64 n,.i .i64 at_] Q↔Q (KE (EM t s n at_)):=by
 refine Ae ?_
 rw [Ad C.c_z123.1 C.c_z123.2]
 unfold EM D6
 cases hok:Cy t s n 3 with
 | false =>
  have hm:=fun (b:Nat) (Q:VV->VH->Prop)=>A1N C t ht s hs n 3 (-1) hok b (Q:=Q)
  simp only [KE,Yk,false_eq_true,if_false] at hm ⊢
  simp only [KY,go_sem,↓reduceIte,hm]
  rfl
 | true =>
  have h7:=hok
  simp only [Cy,and_eq_true,decide_eq_true_eq] at h7
  obtain ⟨⟨⟨⟨hf,h1⟩,h2⟩,h3⟩,h4⟩:=h7
  obtain ⟨m,rfl,h6⟩:=A8 h1
  rw [toNat_natCast] at h2
  have hm:=fun (b:Nat) (Q:VV->VH->Prop)=>A2S C t ht s hs h6 3 (-1) hok b (Q:=Q)
  have hg:s.mo.length=t.locs.length:=by simp only [Bd,and_eq_true,decide_eq_true_eq] at hf;exact hf.1.1.1.2
  obtain ⟨l0,l1⟩:=ht.wloc h6 (.inr h2)
  obtain ⟨loc,h5⟩:=Int.eq_ofNat_of_zero_le l0
  have h9:loc < s.mo.length:=by omega
  rw [if_pos rfl]
  simp only [toNat_natCast,h5]
  have h0:loc < (B6 s m (-1)).mo.length:=h9
  have hz:LU Bx 1 (List.map DD (B6 s m (-1)).mo) = ⟨Bx,1,0,false,List.map DD (B6 s m (-1)).mo⟩:=by
   unfold LU
   rw [if_neg (by rw [length_map];omega)]
  have Cp:=C1 h0
  have ha:=hs.mi' loc
  obtain ⟨L,hL⟩:∃ L,L=(B6 s m (-1)).mo.getD loc []:=⟨_,rfl⟩
  rw [<- hL] at Cp
  have he:L.length<=1000:=by rw [hL];exact ha
  rw [<- hL]
  cases c1:decide (at_ < 1) with
  | true =>
   rw [if_pos (.inl (of_decide_eq_true c1))]
   simp only [KE,Yk]
   simp only [KY,go_sem,↓reduceIte,hm,A7 h6,h5,hz,Cp,h0,c1]
   rfl
  | false =>
  have hc:=of_decide_eq_false c1
  obtain ⟨a,rfl⟩:=Int.eq_ofNat_of_zero_le (show 0<=at_ by omega)
  have h8:decide ((L.length:Int) < (a:Int))=decide (L.length < a):=decide_eq_decide.2 ⟨fun h=>by omega,fun h=>by omega⟩
  cases c2:decide (L.length < a) with
  | true =>
   have:=of_decide_eq_true c2
   rw [if_pos (.inr (by omega))]
   simp only [KE,Yk]
   simp only [KY,go_sem,↓reduceIte,hm,A7 h6,h5,hz,Cp,h0,c1,h8,c2]
   rfl
  | false =>
  have hd:=of_decide_eq_false c2
  rw [if_neg (by omega),toNat_natCast]
  have c3:a<=L.length:=by omega
  obtain ⟨A,hA⟩:∃ A,A=L.take a:=⟨_,rfl⟩
  obtain ⟨B,hB⟩:∃ B,B=L.drop a:=⟨_,rfl⟩
  have lA:A.length=a:=by rw [hA,length_take];omega
  have lB:B.length=L.length - a:=by rw [hB,length_drop]
  have b1:A.length * 24<=Aa:=by unfold Aa;omega
  have b2:(A.length+1) * 24<=Aa:=by unfold Aa;omega
  have jA:List.map Hv A++[[VV.ls [[VV.i .i64 (m:Int)]]]]=List.map Hv (A++[[(m:Int)]]):=by rw [map_append];rfl
  rw [<- hA,<- hB]
  cases B with
  | nil =>
   have b3:(A.length+1+0) * 24<=Aa:=by unfold Aa;omega
   have tB:List.take (L.length - a) ([]:List (List Int))=[]:=List.take_nil
   simp only [KY,go_sem,↓reduceIte,hm,A7 h6,h5,hz,Cp,h0,c1,h8,c2,c3,<- hA,<- hB,tB,b1,b2,b3,jA,length_append,length_map]
   rw [Ahm h0 (X:=A++[[(m:Int)]]) (ids:=[8]) (by simp only [go_sem,↓reduceIte,length_append,length_map])]
   simp only [go_sem,↓reduceIte,length_set,length_map]
   rfl
  | cons b0 Bs =>
   rw [length_cons] at lB
   obtain ⟨X,hX⟩:∃ X,X=A++[[(m:Int)]]++b0::Bs:=⟨_,rfl⟩
   have hb:List.take (L.length - a) (Hv b0::List.map Hv Bs)=Hv b0::List.map Hv Bs:=take_of_length_le (by simp;omega)
   have jX:List.map Hv (A++[[(m:Int)]])++Hv b0::List.map Hv Bs=List.map Hv X:=by rw [hX,map_append (l₁:=A++[[(m:Int)]])];rfl
   have lX:A.length+1+(Bs.length+1)=X.length:=by rw [hX];simp;omega
   have b3:X.length * 24<=Aa:=by unfold Aa;omega
   simp only [KY,go_sem,↓reduceIte,hm,A7 h6,h5,hz,Cp,h0,c1,h8,c2,c3,<- hA,<- hB,hb,b1,b2,b3,jA,jX,lX,length_append,length_map]
   rw [Ahm h0 (X:=X) (ids:=[8]) (by simp only [go_sem,↓reduceIte])]
   simp only [go_sem,↓reduceIte,length_set,length_map]
   have eX:X=A++[(m:Int)]::b0::Bs:=by rw [hX];simp
   rw [eX];rfl
end
section
variable {V:At} {m:Nat->Nat} {Q:Ex->A4->VH->Prop}
theorem A6v {M:Type} (I:M->A4->VH->Prop) (μ:M->Nat) {c:A2}
  (k:∀ x F h,I x F h->Vc V m c F h (fun e F' h'=>match e with | .norm=>¬ Qp h.length h h'/\∃ x',μ x' < μ x/\I x' F' h' | e=>Q e F' h')):∀ x F h,I x F h->Vc V m (.loop c) F h Q:=by
 have h3:∀ j x F h,μ x<=j->I x F h->Vc V m (.loop c) F h Q:=by
  intro j
  induction j with
  | zero =>
   intro x F h hj hi
   rw [Yr]
   refine (k x F h hi).mono fun e F' h' hq=>?_
   cases e with
   | norm=>obtain ⟨_,x',h1,_⟩:=hq;omega
   | _=>exact hq
  | succ j ih =>
   intro x F h hj hi
   rw [Yr]
   refine (k x F h hi).mono fun e F' h' hq=>?_
   cases e with
   | norm =>
    obtain ⟨h0,x',h1,h2⟩:=hq
    unfold gcF gcH
    rw [if_neg h0,if_neg h0]
    exact ih x' _ _ (by omega) h2
   | _=>exact hq
 exact fun x F h hi=>h3 _ x F h (Nat.le_refl _) hi
end
abbrev i7 (n:Nat):Nat:=n+1+1+1+1+1+1+1
def JK (mo:List (List (List Int))):Nat->VH
 | 0=>[]
 | k+1=>JK mo k++[some (AW D7 1 ((mo.getD k []).map Hv)),some ⟨Bx,1,0,false,[[.sl (i7 (2 * k)) (mo.getD k []).length 0 (mo.getD k []).length]]⟩]
theorem D0 (mo:List (List (List Int))):∀ k,(JK mo k).length=2 * k
 | 0=>rfl
 | k+1=>by rw [JK,length_append,D0 mo k];simp;omega
def EQ (mo:List (List (List Int))) (k:Nat):List (List VV):=(List.range k).map fun i=>[.sl (i7 (2 * i)) (mo.getD i []).length 0 (mo.getD i []).length]
theorem Yx (mo:List (List (List Int))) (k:Nat):(EQ mo k).length=k:=by simp [EQ]
theorem AgW (mo:List (List (List Int))) (k:Nat):EQ mo (k+1)=EQ mo k++[[.sl (i7 (2 * k)) (mo.getD k []).length 0 (mo.getD k []).length]]:=by
 unfold EQ
 rw [range_succ,map_append];rfl
theorem QQ (mo:List (List (List Int))) (k:Nat) (Y:VH):(JK mo k++Y)[2 * k]? = Y[0]?/\(JK mo k++Y)[2 * k+1]? = Y[1]?/\(JK mo k++Y)[2 * k+1+1]? = Y[2]?:=by
 have:=D0 mo k
 refine ⟨?_,?_,?_⟩<;>rw [List.getElem?_append_right (by omega)]<;>congr 1<;>omega
theorem A6L (mo:List (List (List Int))) (k:Nat) (Y:VH) (z:Option VO):(JK mo k++Y).set (2 * k) z=JK mo k++Y.set 0 z/\(JK mo k++Y).set (2 * k+1) z=JK mo k++Y.set 1 z:=by
 have:=D0 mo k
 refine ⟨?_,?_⟩
 .have e:=set_append_right (s:=(JK mo k:List (Option VO))) (t:=Y) (2 * k) z (by omega)
  rw [this,Nat.sub_self] at e
  exact e
 .have e:=set_append_right (s:=(JK mo k:List (Option VO))) (t:=Y) (2 * k+1) z (by omega)
  rw [this,Nat.add_sub_cancel_left] at e
  exact e
theorem Ah0 (mo:List (List (List Int))) (k:Nat) (a b:Option VO):List.take (2 * k+1) (JK mo k++[a,b])=JK mo k++[a]:=by
 have e:(JK mo k++[a,b])=(JK mo k++[a])++[b]:=by simp
 rw [e]
 have hl:(JK mo k++[a]).length=2 * k+1:=by rw [length_append,D0];rfl
 rw [<- hl]
 exact List.take_left
def cpG (x0 x1:Option VO) (s:A6) (k:Nat):VH:=x0::x1::some ⟨Af,0,0,false,[[.nl,.nl,.nl]]⟩::some (Yg AO 1 (s.has.map eI))::some (Yg AO 1 (s.jf.map eI)) ::
 some ⟨Af,0,0,false,[[.sl 3 (Hf s.has.length) 0 s.has.length,.sl 4 (Hf s.jf.length) 0 s.jf.length,.sl 6 (EQ s.mo k).length 0 (EQ s.mo k).length]]⟩::some (AW Bx 1 (EQ s.mo k))::JK s.mo k
section
variable {V:At} (C:Aq V)
include C
theorem Rj (s:A6) (hs:DL s) (x0 x1:Option VO) {Q:VV->VH->Prop}:NR V LO [Dy s] [x0,x1] Q ↔
  Q (.ag [.sl 3 (Hf s.has.length) 0 s.has.length,.sl 4 (Hf s.jf.length) 0 s.jf.length,.sl 6 (EQ s.mo s.mo.length).length 0 (EQ s.mo s.mo.length).length])
   (x0::x1::some ⟨Af,0,0,false,[[.sl 3 (Hf s.has.length) 0 s.has.length,.sl 4 (Hf s.jf.length) 0 s.jf.length,.sl 6 (EQ s.mo s.mo.length).length 0 (EQ s.mo s.mo.length).length]]⟩::(cpG x0 x1 s s.mo.length).drop 3):=by
 refine Pv ?_
 rw [GN C.h_z96]
 have h1:=hs.has
 have h2:=hs.jf
 have h3:=hs.mo
 have b1:s.has.length * 8<=Aa:=by unfold Aa;omega
 have b2:s.jf.length * 8<=Aa:=by unfold Aa;omega
 simp only [P7,go_sem,↓reduceIte,b1,b2]
 unfold VL
 rw [A0]
 refine A6v (M:=Nat) (I:=fun k F h=>k<=s.mo.length/\A4.tmp F 1 = .fp (Je s) 0/\A4.tmp F 2 = .p 2 0 0 0/\A4.tmp F 3 = .p 5 0 0 0/\A4.tmp F 4 = .i .i64 k/\h=cpG x0 x1 s k) (μ:=fun k=>s.mo.length - k) ?_ 0 _ _ ⟨zero_le _,?_,?_,?_,?_,?_⟩
 .rintro k F h ⟨h5,p1,p2,p3,p4,rfl⟩
  by_cases c:k < s.mo.length
  .have hm:=hs.mi' k
   have hw:IntKind.i64.wrap ((k:Int)+1)=((k+1:Nat):Int):=by rw [Az (by omega) (by omega)];omega
   simp only [Ac0,go_sem,↓reduceIte,p1,p2,p3,p4,c,C1 c,A0,cpG]
   have hT:=D0 s.mo k
   have hg:=fun Y=>QQ s.mo k Y
   have h0:=fun Y z=>A6L s.mo k Y z
   refine Ab (by decide) (s.mo.getD k []).length (by omega) (I:=fun j F h=>A4.tmp F 4 = .i .i64 k/\A4.tmp F 1 = .fp (Je s) 0/\A4.tmp F 2 = .p 2 0 0 0/\A4.tmp F 3 = .p 5 0 0 0/\∃ K,K=(s.mo.getD k []).take j/\A4.tmp F 5 = .sl (i7 (2 * k)) K.length 0 K.length/\h=cpG x0 x1 s k++[some (AW D7 1 (K.map Hv))]) ?_ ?_ ?_ 0 _ _ (zero_le _) ?_ ?_
   .rintro j F h hj q6 ⟨q4,q1,q2,q3,K,hK,q5,rfl⟩
    simp only [go_sem,↓reduceIte,q6,q4,q1,q2,q3,q5,C1 c]
    exact ⟨K,hK,rfl,rfl⟩
   .rintro j F h hj q6 ⟨q4,q1,q2,q3,K,hK,q5,rfl⟩
    have h4:(s.mo.getD k []).take (j+1)=K++[(s.mo.getD k []).getD j []]:=by
     rw [List.take_succ_eq_append_getElem hj,hK,getD_eq_getElem?_getD (l:=s.mo.getD k []),List.getElem?_eq_getElem hj];rfl
    have hc:=hs.mc' k j
    have hl:K.length=j:=by rw [hK,length_take];omega
    have b3:((s.mo.getD k []).getD j []).length * 8<=Aa:=by unfold Aa;omega
    have b4:(K.length+1) * 24<=Aa:=by unfold Aa;omega
    simp only [go_sem,↓reduceIte,q6,q4,q1,q2,q3,q5,C1 c,ET hj,c,hj,b3,b4,cpG,Aie,A0,length_append,length_map,hT,(hg _).1,(hg _).2.1,(hg _).2.2,(h0 _ _).1,(h0 _ _).2]
    exact ⟨K++[(s.mo.getD k []).getD j []],h4.symm,by simp,by rw [Ah0]⟩
   .rintro F h ⟨q4,q1,q2,q3,K,hK,q5,rfl⟩
    rw [take_length] at hK
    subst hK
    have hr:=Yx s.mo k
    have b4:((EQ s.mo k).length+1) * 24<=Aa:=by unfold Aa;omega
    simp only [go_sem,↓reduceIte,q4,q1,q2,q3,q5,b4,cpG,AdS,length_append,length_map,hT,(hg _).1,(hg _).2.1,(hg _).2.2,(h0 _ _).1,(h0 _ _).2,hw]
    refine ⟨?_,k+1,by omega,by omega,rfl,?_⟩
    .rintro (h | h)
     .have:=congrArg (fun o=>o.rows.length) h
      simp only [A37,length_append] at this
      simp at this
     .rw [List.all_append,and_eq_true] at h
      have:=h.2
      simp [Db,bel] at this
    .rw [AgW,JK,length_append]
     rfl
   .simp only [go_sem,↓reduceIte]
   .simp only [go_sem,↓reduceIte,p4,p1,p2,p3,cpG,hT]
    exact ⟨[],rfl,rfl,rfl⟩
  .have e:k=s.mo.length:=by omega
   subst e
   simp only [Ac0,go_sem,↓reduceIte,p1,p2,p3,p4,Nat.lt_irrefl,cpG]
 .simp only [go_sem,↓reduceIte]
 .simp only [go_sem,↓reduceIte]
 .simp only [go_sem,↓reduceIte]
 .simp only [go_sem,↓reduceIte]
 .rfl
end
def moG (x0:Option VO) (s:A6):VH:=x0::some ⟨Af,0,0,false,[[.nl,.nl,.nl]]⟩ ::
 some ⟨Af,0,0,false,[[.sl 3 (Hf s.has.length) 0 s.has.length,.sl 4 (Hf s.jf.length) 0 s.jf.length,.sl 6 (EQ s.mo s.mo.length).length 0 (EQ s.mo s.mo.length).length]]⟩::some (Yg AO 1 (s.has.map eI))::some (Yg AO 1 (s.jf.map eI)) ::
 some ⟨Af,0,0,false,[[.sl 3 (Hf s.has.length) 0 s.has.length,.sl 4 (Hf s.jf.length) 0 s.jf.length,.sl 6 (EQ s.mo s.mo.length).length 0 (EQ s.mo s.mo.length).length]]⟩::some (AW Bx 1 (EQ s.mo s.mo.length)) ::
 (JK s.mo s.mo.length++[some ⟨Af,0,0,false,[[.sl 3 (Hf s.has.length) 0 s.has.length,.sl 4 (Hf s.jf.length) 0 s.jf.length,.sl 6 (EQ s.mo s.mo.length).length 0 (EQ s.mo s.mo.length).length]]⟩])
abbrev moV (s S:A6) (v1 v2:Nat):VV:=.ag [.sl (i7 (2 * s.mo.length)+1) v1 0 S.has.length,.sl (i7 (2 * s.mo.length)+1+1) v2 0 S.jf.length,.sl 6 (EQ s.mo s.mo.length).length 0 (EQ s.mo s.mo.length).length]
abbrev moL (s S:A6) (v1 v2:Nat):List VV:=[.sl (i7 (2 * s.mo.length)+1) v1 0 S.has.length,.sl (i7 (2 * s.mo.length)+1+1) v2 0 S.jf.length,.sl 6 (EQ s.mo s.mo.length).length 0 (EQ s.mo s.mo.length).length]
def moE (x0:Option VO) (s S:A6) (v1 v2:Nat):VH:=x0::some ⟨Af,0,0,false,[moL s S v1 v2]⟩ ::
 some ⟨Af,0,0,false,[[.sl 3 (Hf s.has.length) 0 s.has.length,.sl 4 (Hf s.jf.length) 0 s.jf.length,.sl 6 (EQ s.mo s.mo.length).length 0 (EQ s.mo s.mo.length).length]]⟩::some (Yg AO 1 (s.has.map eI))::some (Yg AO 1 (s.jf.map eI)) ::
 some ⟨Af,0,0,false,[[.sl 3 (Hf s.has.length) 0 s.has.length,.sl 4 (Hf s.jf.length) 0 s.jf.length,.sl 6 (EQ s.mo s.mo.length).length 0 (EQ s.mo s.mo.length).length]]⟩::some (AW Bx 1 (EQ s.mo s.mo.length)) ::
 (JK s.mo s.mo.length++[some ⟨Af,0,0,false,[moL s S v1 v2]⟩,some ⟨AO,1,v1,false,S.has.map eI⟩,some ⟨AO,1,v2,false,S.jf.map eI⟩])
theorem Alr (x0:Option VO) (s:A6):(moG x0 s).length=2 * s.mo.length+8:=by
 have hT:=D0 s.mo s.mo.length
 simp [moG,hT]
section
variable {V:At} (C:Aq V)
include C
theorem A7w (t:A1) (ht:A5 t) (s:A6) (hs:DL s) {m:Nat} (hm:m < t.nodes.length) (kind w:Int) (hok:Cy t s m kind=true) (x0:Option VO):NR V EG [vT t,Dy s,.i .i64 m,.i .i64 kind,.i .i64 w] [x0] fun r h'=>∃ v1 v2,r = .tu [moV s (B6 s m w) v1 v2,.b true]/\h' = moE x0 s (B6 s m w) v1 v2:=by
 rw [GN C.h_z178]
 have hy:=fun (Q:VV->Prop)=>Bv C t ht s hs (Q:=Q)
 have q4:=hs.has
 have h1:BP t (m:Int)=true:=BM hm
 simp only [Cy,and_eq_true,Bool.not_eq_true',toNat_natCast] at hok
 obtain ⟨⟨⟨⟨hf,_⟩,h2⟩,h3⟩,h4⟩:=hok
 have w1:=EB s.has (m:Int)
 have w2:=Cg s.has (t.at m).up
 rw [h3] at w1
 rw [h4] at w2
 have hx:=fun (Q:VV->VH->Prop)=>Rj C s hs x0 (some ⟨Af,0,0,false,[[.nl,.nl,.nl]]⟩) (Q:=Q)
 have hT:=D0 s.mo s.mo.length
 have hr:=Yx s.mo s.mo.length
 have hg:=fun Y=>QQ s.mo s.mo.length Y
 have h6:=fun Y z=>A6L s.mo s.mo.length Y z
 have hl:decide (i7 (2 * s.mo.length) < (moG x0 s).length)=true:=decide_eq_true (by rw [Alr];show 2 * s.mo.length+7 < _;omega)
 simp only [Cw,go_sem,↓reduceIte,hy,hf,AA C,h1,A7 hm,h2,Ao C s.has (by omega),w1,w2,hx,cpG,hT,(hg _).1,(hg _).2.1,(hg _).2.2,(h6 _ _).1,(h6 _ _).2]
 unfold VL
 rw [A0]
 have q2:s.jf.length=s.has.length:=by simp only [Bd,and_eq_true,decide_eq_true_eq] at hf;exact hf.1.1.1.1.2
 refine AT (M:=Nat) (I:=fun i F h=>i<=Br s.has m/\A4.tmp F 2 = .i .i64 m/\A4.tmp F 4 = .i .i64 w/\A4.tmp F 6 = .fp (Je s) 0/\A4.tmp F 10 = .p 1 0 0 0/\A4.tmp F 12 = .p (i7 (2 * s.mo.length)) 0 0 0/\A4.tmp F 13 = .i .i64 i/\h=moG x0 s) (μ:=fun i=>s.has.length - i) ?_ 0 _ _ ⟨zero_le _,?_,?_,?_,?_,?_,?_,rfl⟩
 .rintro i F h ⟨hi,p2,p4,p6,ho,hp,hq,rfl⟩
  have hk:=QZ hi
  have q3:=Dq s.has m
  by_cases c:i < s.has.length
  .cases c2:decide (s.has.getD i 0 < (m:Int)) with
   | true =>
    have hh:=of_decide_eq_true c2
    have q5:=hk.1 ⟨c,hh⟩
    have hw:IntKind.i64.wrap ((i:Int)+1)=((i+1:Nat):Int):=by rw [Az (by omega) (by omega)];omega
    simp only [Hc,go_sem,↓reduceIte,p2,p4,p6,ho,hp,hq,c,Ar c,c2,A0,hw,hl]
    refine ⟨i+1,by omega,by omega,?_⟩
    first | rfl | exact ⟨rfl,rfl⟩ | exact ⟨rfl,rfl,rfl⟩
   | false =>
    have hh:=of_decide_eq_false c2
    have e:i=Br s.has m:=by
     rcases lt_or_ge i (Br s.has m) with h | h
     .exact absurd (R0 h) hh
     .omega
    obtain ⟨A,hA⟩:∃ A,A=s.has.take i:=⟨_,rfl⟩
    obtain ⟨B,hB⟩:∃ B,B=s.has.drop i:=⟨_,rfl⟩
    obtain ⟨A',h0⟩:∃ A,A=s.jf.take i:=⟨_,rfl⟩
    obtain ⟨B',h5⟩:∃ B,B=s.jf.drop i:=⟨_,rfl⟩
    have lA:A.length=i:=by rw [hA,length_take];omega
    have q0:A'.length=i:=by rw [h0,length_take];omega
    have lB:B.length=s.has.length - i:=by rw [hB,length_drop]
    have hn:B'.length=s.jf.length - i:=by rw [h5,length_drop]
    have tB:List.take (s.has.length - i) B=B:=take_of_length_le (by omega)
    have hv:List.take (s.jf.length - i) B' = B':=take_of_length_le (by omega)
    have c1:i<=s.has.length:=by omega
    have he:i<=s.jf.length:=by omega
    have b1:A.length * 8<=Aa:=by unfold Aa;omega
    have hb:A'.length * 8<=Aa:=by unfold Aa;omega
    have b2:(A.length+1) * 8<=Aa:=by unfold Aa;omega
    have hc:(A'.length+1) * 8<=Aa:=by unfold Aa;omega
    obtain ⟨b0,Bs,rfl⟩:∃ b0 Bs,B=b0::Bs:=by
     cases B with
     | nil=>simp at lB;omega
     | cons b0 Bs=>exact ⟨b0,Bs,rfl⟩
    obtain ⟨h9,h7,rfl⟩:∃ b0 Bs,B' = b0::Bs:=by
     cases B' with
     | nil=>simp at hn;omega
     | cons b0 Bs=>exact ⟨b0,Bs,rfl⟩
    rw [length_cons] at lB hn
    have q1:List.take (s.has.length - i) (eI b0::List.map eI Bs)=eI b0::List.map eI Bs:=take_of_length_le (by simp;omega)
    have hu:List.take (s.jf.length - i) (eI h9::List.map eI h7)=eI h9::List.map eI h7:=take_of_length_le (by simp;omega)
    obtain ⟨X,hX⟩:∃ X,X=A++[(m:Int)]++b0::Bs:=⟨_,rfl⟩
    obtain ⟨X',hj⟩:∃ X,X=A'++[w]++h9::h7:=⟨_,rfl⟩
    have jX:List.map eI (A++[(m:Int)])++eI b0::List.map eI Bs=List.map eI X:=by rw [hX,map_append (l₁:=A++[(m:Int)])];rfl
    have hz:List.map eI (A'++[w])++eI h9::List.map eI h7 = List.map eI X':=by rw [hj,map_append (l₁:=A'++[w])];rfl
    have lX:A.length+1+(Bs.length+1)=X.length:=by rw [hX];simp;omega
    have ha:A'.length+1+(h7.length+1)=X'.length:=by rw [hj];simp;omega
    have b3:X.length * 8<=Aa:=by unfold Aa;omega
    have hd:X'.length * 8<=Aa:=by unfold Aa;omega
    have eX:X=Bg s.has (Br s.has m) m:=by rw [hX,Bg,<- e,<- hA,<- hB];simp
    have h8:X' = Bg s.jf (Br s.has m) w:=by rw [hj,Bg,<- e,<- h0,<- h5];simp
    simp only [Hc,go_sem,↓reduceIte,p2,p4,p6,ho,hp,hq,c,Ar c,c2,A0,moG,<- hA,<- hB,<- h0,<- h5,q1,hu,c1,he,b1,hb,b2,hc,b3,hd,length_append,length_map,hT,(hg _).1,(hg _).2.1,(hg _).2.2,(h6 _ _).1,(h6 _ _).2,jX,hz,lX,ha]
    exact ⟨_,_,by rw [eX,h8];rfl,by rw [eX,h8];rfl⟩
  .have e:i=Br s.has m:=by omega
   obtain ⟨A,hA⟩:∃ A,A=s.has.take i:=⟨_,rfl⟩
   obtain ⟨B,hB⟩:∃ B,B=s.has.drop i:=⟨_,rfl⟩
   obtain ⟨A',h0⟩:∃ A,A=s.jf.take i:=⟨_,rfl⟩
   obtain ⟨B',h5⟩:∃ B,B=s.jf.drop i:=⟨_,rfl⟩
   have lA:A.length=i:=by rw [hA,length_take];omega
   have q0:A'.length=i:=by rw [h0,length_take];omega
   have lB:B.length=s.has.length - i:=by rw [hB,length_drop]
   have hn:B'.length=s.jf.length - i:=by rw [h5,length_drop]
   have tB:List.take (s.has.length - i) B=B:=take_of_length_le (by omega)
   have hv:List.take (s.jf.length - i) B' = B':=take_of_length_le (by omega)
   have c1:i<=s.has.length:=by omega
   have he:i<=s.jf.length:=by omega
   have b1:A.length * 8<=Aa:=by unfold Aa;omega
   have hb:A'.length * 8<=Aa:=by unfold Aa;omega
   have b2:(A.length+1) * 8<=Aa:=by unfold Aa;omega
   have hc:(A'.length+1) * 8<=Aa:=by unfold Aa;omega
   obtain rfl:B=[]:=List.length_eq_zero_iff.1 (by omega)
   obtain rfl:B' = []:=List.length_eq_zero_iff.1 (by omega)
   have b3:(A.length+1+0) * 8<=Aa:=by unfold Aa;omega
   have hd:(A'.length+1+0) * 8<=Aa:=by unfold Aa;omega
   simp only [Hc,go_sem,↓reduceIte,p2,p4,p6,ho,hp,hq,c,A0,moG,<- hA,<- hB,<- h0,<- h5,tB,hv,c1,he,b1,hb,b2,hc,b3,hd,length_append,length_map,hT,(hg _).1,(hg _).2.1,(hg _).2.2,(h6 _ _).1,(h6 _ _).2]
   have eX:A++[(m:Int)]=Bg s.has (Br s.has m) m:=by rw [Bg,<- e,<- hA,<- hB]
   have h8:A'++[w]=Bg s.jf (Br s.has m) w:=by rw [Bg,<- e,<- h0,<- h5]
   have lX:A.length+1=(Bg s.has (Br s.has m) m).length:=by rw [<- eX];simp
   have ha:A'.length+1=(Bg s.jf (Br s.has m) w).length:=by rw [<- h8];simp
   exact ⟨_,_,by rw [lX,ha];rfl,by rw [lX,ha,eX,h8];rfl⟩
 .simp only [go_sem,↓reduceIte]
 .simp only [go_sem,↓reduceIte]
 .simp only [go_sem,↓reduceIte]
 .simp only [go_sem,↓reduceIte]
 .simp only [go_sem,↓reduceIte]
 .simp only [go_sem,↓reduceIte]
end
theorem A6K (mo:List (List (List Int))) {loc:Nat}:∀ {n:Nat},loc < n->∀ Y:VH,(JK mo n++Y)[2 * loc]? = some (some (AW D7 1 ((mo.getD loc []).map Hv)))
 | 0,h,_=>by omega
 | n+1,h,Y=>by
  rw [JK,append_assoc]
  by_cases c:loc=n
  .subst c
   rw [(QQ mo loc _).1];rfl
  .exact A6K mo (by omega) _
theorem MU (mo:List (List (List Int))) {n loc i:Nat} (hl:loc < n) (hi:i < n) (z:Option VO) (Y:VH):((JK mo n).set (2 * loc) z++Y)[2 * i]? = some (if i=loc then z else some (AW D7 1 ((mo.getD i []).map Hv))):=by
 have hT:=D0 mo n
 rw [List.getElem?_append_left (by rw [length_set];omega),List.getElem?_set]
 by_cases c:i=loc
 .subst c
  simp;omega
 .rw [if_neg (by omega),if_neg c]
  have:=A6K mo hi []
  rwa [append_nil] at this
theorem Aby (mo:List (List (List Int))) (n loc j:Nat) (z:Option VO) (Y:VH):((JK mo n).set (2 * loc) z++Y)[2 * n+j]? = Y[j]?:=by
 have hT:=D0 mo n
 rw [List.getElem?_append_right (by rw [length_set];omega),length_set,hT]
 congr 1;omega
theorem Ant (mo:List (List (List Int))) (n loc j:Nat) (z y:Option VO) (Y:VH):((JK mo n).set (2 * loc) z++Y).set (2 * n+j) y=(JK mo n).set (2 * loc) z++Y.set j y:=by
 have hT:=D0 mo n
 have hl:((JK mo n).set (2 * loc) z).length=2 * n:=by rw [length_set];exact hT
 have e:=set_append_right (s:=((JK mo n).set (2 * loc) z:List (Option VO))) (t:=Y) (2 * n+j) y (by omega)
 rw [hl,Nat.add_sub_cancel_left] at e
 exact e
theorem A1i {α:Type} {g:α->Option (α×List Nat)} {f h:Nat->α} {is:Nat->List Nat}:∀ (n:Nat),(∀ i,i < n->g (f i)=some (h i,is i))->∃ ids,Bh g ((List.range n).map f)=some ((List.range n).map h,ids):=by
 have app:∀ (a b:List α) {x y:List α} {i j:List Nat},Bh g a=some (x,i)->Bh g b=some (y,j)->Bh g (a++b)=some (x++y,i++j):=by
  intro a
  induction a with
  | nil=>intro b x y i j h1 h2;simp only [Bh,Option.some.injEq,Prod.mk.injEq] at h1;obtain ⟨rfl,rfl⟩:=h1;exact h2
  | cons a0 a ih =>
   intro b x y i j h1 h2
   simp only [Bh] at h1
   split at h1
   .rename_i y0 i0 ys is e1 e2
    simp only [Option.some.injEq,Prod.mk.injEq] at h1
    obtain ⟨rfl,rfl⟩:=h1
    simp only [cons_append,Bh,e1,ih b e2 h2,append_assoc]
   .cases h1
 intro n
 induction n with
 | zero=>intro _;exact ⟨[],rfl⟩
 | succ n ih =>
  intro hg
  obtain ⟨ids,e⟩:=ih fun i hi=>hg i (by omega)
  refine ⟨ids++(is n++[]),?_⟩
  rw [range_succ,map_append,map_append]
  refine app _ _ e ?_
  simp only [map_cons,map_nil,Bh,hg n (by omega)]
theorem ArP {H:VH} {d:Nat} {l:List (List Int)} {k:Nat} (hk:k < l.length) {v:VV} {X:List Int} {ids:List Nat} (hv:frz H (d+2) v=some (.ls (X.map eI),ids)) :
  Bh (fun row=>Bh (frz H (d+2)) row) (List.take l.length ((l.map Hv).set k [v]))=some ((l.set k X).map Hv,ids):=by
 rw [take_of_length_le (by simp)]
 rw [map_set]
 refine A1j (l.map Hv) k [v] (Hv X) ids ?_ (by simpa using hk) ?_
 .intro a ha
  obtain ⟨c,_,rfl⟩:=List.mem_map.1 ha
  simp only [go_sem,XO,↓reduceIte]
 .simp only [Bh,hv,append_nil]
theorem A6Y {f d:Nat} (hf:f=d+4) {mo:List (List (List Int))} {loc:Nat} (hll:loc < mo.length) {L:List (List Int)} (hL:mo.getD loc []=L) {a:Nat} (ha:a < L.length) (a0 a1 a2 a3 a4 a5 a6:Option VO) {Y:VH} {idx v id:Nat} {X:List Int} (hid:id=i7 (2 * mo.length+idx))
  (hY:Y[idx]? = some (some ⟨AO,1,v,false,X.map eI⟩)) :
  ∃ ids,Bh (fun row=>Bh (frz (a0::a1::a2::a3::a4::a5::a6::((JK mo mo.length).set (2 * loc) (some ⟨D7,1,L.length,false,(L.map Hv).set a [.sl id v 0 X.length]⟩)++Y)) f) row) (EQ mo mo.length)=some ((mo.set loc (L.set a X)).map DD,ids):=by
 subst hid
 subst hf
 obtain ⟨ids,e⟩:=A1i (g:=fun row=>Bh (frz (a0::a1::a2::a3::a4::a5::a6::((JK mo mo.length).set (2 * loc) (some ⟨D7,1,L.length,false,(L.map Hv).set a [.sl (i7 (2 * mo.length+idx)) v 0 X.length]⟩)++Y)) (d+4)) row)
  (f:=fun i=>[.sl (i7 (2 * i)) (mo.getD i []).length 0 (mo.getD i []).length]) (h:=fun i=>DD ((mo.set loc (L.set a X)).getD i [])) (is:=fun i=>if i=loc then [i7 (2 * i),i7 (2 * mo.length+idx)] else [i7 (2 * i)]) mo.length (fun i hi=>by
   by_cases c:i=loc
   .subst c
    have h1:=fun z=>MU mo hll hi z Y
    have h2:=fun z=>Aby mo mo.length i idx z Y
    rw [hL]
    have h3:(mo.set i (L.set a X)).getD i []=L.set a X:=by rw [getD_eq_getElem?_getD,List.getElem?_set];simp [hll]
    rw [h3]
    simp only [if_true] at h1
    simp only [go_sem,↓reduceIte,h1,h2,hY,length_map,length_set,↓reduceIte]
    rw [ArP ha (X:=X) (ids:=[i7 (2 * mo.length+idx)]) (by simp only [go_sem,↓reduceIte,h2,hY,length_map])]
    rfl
   .have h1:=fun z=>MU mo hll hi z Y
    have h3:(mo.set loc (L.set a X)).getD i []=mo.getD i []:=by rw [getD_eq_getElem?_getD,getD_eq_getElem?_getD,List.getElem?_set_ne (by omega)]
    rw [h3]
    simp only [c,if_false] at h1 ⊢
    simp only [go_sem,↓reduceIte,h1,length_map,↓reduceIte])
 refine ⟨ids,?_⟩
 rw [show EQ mo mo.length=(List.range mo.length).map fun i=>[VV.sl (i7 (2 * i)) (mo.getD i []).length 0 (mo.getD i []).length] from rfl,e]
 congr 2
 apply List.ext_getElem
 .simp
 .intro i h1 h2
  have hi:i < (mo.set loc (L.set a X)).length:=by simpa using h1
  rw [List.getElem_map,List.getElem_map,List.getElem_range,getD_eq_getElem?_getD,List.getElem?_eq_getElem hi];rfl
theorem AgV {mo:List (List (List Int))} {n loc:Nat} (h:loc < n):(EQ mo n)[loc]? = some [.sl (i7 (2 * loc)) (mo.getD loc []).length 0 (mo.getD loc []).length]:=by simp [EQ,h]
theorem AgX (mo:List (List (List Int))) (k j:Nat) (Y:VH):(JK mo k++Y)[2 * k+j]? = Y[j]?:=by
 have:=D0 mo k
 rw [List.getElem?_append_right (by omega)]
 congr 1;omega
theorem AgZ (mo:List (List (List Int))) (k j:Nat) (Y:VH) (z:Option VO):(JK mo k++Y).set (2 * k+j) z=JK mo k++Y.set j z:=by
 have hl:=D0 mo k
 have e:=set_append_right (s:=(JK mo k:List (Option VO))) (t:=Y) (2 * k+j) z (by omega)
 rw [hl,Nat.add_sub_cancel_left] at e
 exact e
theorem Ad1 (mo:List (List (List Int))) {n loc:Nat} (h:loc < n) (Y:VH) (z:Option VO):(JK mo n++Y).set (2 * loc) z=(JK mo n).set (2 * loc) z++Y:=by
 have hl:=D0 mo n
 exact List.set_append_left (2 * loc) z (by omega)
def P9 (t:A1) (s:A6) (n at_:Int):Option A6:=match D6 t s n 3 (-1) with
 | some s' =>
  let loc:=(t.at n.toNat).loc.toNat
  let L:=s'.mo.getD loc []
  if at_ < 1\/(L.length:Int)<=at_ then none else
   let c:=L.getD at_.toNat []
   let s'':A6:={ s' with mo:=s'.mo.set loc (L.set at_.toNat (Bg c (Br c n) n)) }
   if Bd t s'' = true then some s'' else none
 | none=>none
def joH (s S:A6) (v1 v2:Nat):VH:=moE (some ⟨Af,0,0,false,[[.nl,.nl,.nl]]⟩) s S v1 v2++[some DW,some DW,some DW,some ⟨Af,0,0,false,[moL s S v1 v2]⟩]
theorem Ak8 (s S:A6) (v1 v2:Nat):(joH s S v1 v2).length=2 * s.mo.length+14:=by
 have hT:=D0 s.mo s.mo.length
 simp [joH,moE,hT]
theorem NR.mono {V:At} {g:Nat} {args:List VV} {h:VH} {Q Q':VV->VH->Prop} (k:NR V g args h Q) (i:∀ v h',Q v h'->Q' v h'):NR V g args h Q':=by
 obtain ⟨vf,e,hb⟩:=k
 exact ⟨vf,e,hb.mono i⟩
theorem Ado {s:A6} (hs:DL s) (hz:s.has.length < 1000/\s.jf.length < 1000/\∀ l∈s.mo,∀ c∈l,c.length < 1000) (n w:Int) (hj:s.jf.length=s.has.length) {loc a:Nat} {L:List (List Int)} (hL:s.mo.getD loc []=L) (hll:loc < s.mo.length) {X:List Int} (hX:X.length<=1000) :
  DL ⟨(B6 s n w).has,(B6 s n w).jf,(B6 s n w).mo.set loc (L.set a X)⟩:=by
 have h1:=Dq s.has n
 have hm:=Ai (d:=[]) hll
 rw [hL] at hm
 refine ⟨by show (Bg _ _ _).length<=1000;rw [D1 h1];omega,by show (Bg _ _ _).length<=1000;rw [D1 (by omega)];omega,by show (s.mo.set _ _).length<=1000;rw [length_set];exact hs.mo,?_,?_⟩
 .intro l hl
  rcases List.mem_or_eq_of_mem_set hl with h | rfl
  .exact hs.mi l h
  .rw [length_set];exact hs.mi L hm
 .intro l hl c hc
  rcases List.mem_or_eq_of_mem_set hl with h | rfl
  .exact hs.mc l h c hc
  .rcases List.mem_or_eq_of_mem_set hc with h | rfl
   .exact hs.mc L hm c h
   .exact hX
section
variable {V:At} (C:Aq V)
include C
theorem A1O (t:A1) (ht:A5 t) (s:A6) (hs:DL s) (n kind w:Int) (h0:Cy t s n kind=false) (x0:Option VO) {Q:VV->VH->Prop}:NR V EG [vT t,Dy s,.i .i64 n,.i .i64 kind,.i .i64 w] [x0] Q↔Q (.tu [.ag [.nl,.nl,.nl],.b false]) [x0,some ⟨Af,0,0,false,[[.nl,.nl,.nl]]⟩]:=by
 refine Pv ?_
 rw [GN C.h_z178]
 have h5:=fun (Q:VV->Prop)=>Bv C t ht s hs (Q:=Q)
 have h6:=hs.has
 cases hf:Bd t s with
 | false =>
  simp only [Cw,go_sem,↓reduceIte,h5,hf]
 | true =>
 cases h1:BP t n with
 | false =>
  simp only [Cw,go_sem,↓reduceIte,h5,hf,AA C,h1]
 | true =>
 obtain ⟨m,rfl,hm⟩:=A8 h1
 cases h2:decide ((t.at m).kind=kind) with
 | false =>
  simp only [Cw,go_sem,↓reduceIte,h5,hf,AA C,h1,A7 hm,h2]
 | true =>
 have w1:=EB s.has (m:Int)
 cases h3:AU s.has (m:Int) with
 | true =>
  rw [h3] at w1
  simp only [Cw,go_sem,↓reduceIte,h5,hf,AA C,h1,A7 hm,h2,Ao C s.has (by omega),w1]
 | false =>
 rw [h3] at w1
 have w2:=Cg s.has (t.at m).up
 cases h4:AU s.has (t.at m).up with
 | false =>
  rw [h4] at w2
  simp only [Cw,go_sem,↓reduceIte,h5,hf,AA C,h1,A7 hm,h2,Ao C s.has (by omega),w1,w2]
 | true =>
  rw [Cy,hf,h1,toNat_natCast,h2,h3,h4] at h0
  cases h0
theorem A7u (t:A1) (ht:A5 t) (s:A6) (hs:DL s) (hz:s.has.length < 1000/\s.jf.length < 1000/\∀ l∈s.mo,∀ c∈l,c.length < 1000) (n at_:Int) {Q:VV->Prop}:VP V UY [vT t,Dy s,.i .i64 n,.i .i64 at_] Q↔Q (KE (P9 t s n at_)):=by
 refine Ae ?_
 rw [Ad C.c_z122.1 C.c_z122.2]
 unfold P9 D6
 cases hok:Cy t s n 3 with
 | false =>
  have hm:=fun (x0:Option VO) (Q:VV->VH->Prop)=>A1O C t ht s hs n 3 (-1) hok x0 (Q:=Q)
  simp only [KE,Yk,false_eq_true,if_false] at hm ⊢
  simp only [RX,go_sem,↓reduceIte,hm]
  rfl
 | true =>
  have ho:=hok
  simp only [Cy,and_eq_true,decide_eq_true_eq] at ho
  obtain ⟨⟨⟨⟨hf,h1⟩,h2⟩,h3⟩,h4⟩:=ho
  obtain ⟨m,rfl,hn⟩:=A8 h1
  rw [toNat_natCast] at h2
  have ql:s.mo.length=t.locs.length:=by simp only [Bd,and_eq_true,decide_eq_true_eq] at hf;exact hf.1.1.1.2
  have qb:s.jf.length=s.has.length:=by simp only [Bd,and_eq_true,decide_eq_true_eq] at hf;exact hf.1.1.1.1.2
  obtain ⟨l0,l1⟩:=ht.wloc hn (.inr h2)
  obtain ⟨loc,h7⟩:=Int.eq_ofNat_of_zero_le l0
  have h5:loc < s.mo.length:=by omega
  rw [if_pos rfl]
  simp only [toNat_natCast,h7]
  simp only [RX,go_sem,↓reduceIte]
  refine NR.mono (A7w C t ht s hs hn 3 (-1) hok _) ?_
  rintro _ _ ⟨v1,v2,rfl,rfl⟩
  have hT:=D0 s.mo s.mo.length
  have hr:=Yx s.mo s.mo.length
  have hk:=AgV (mo:=s.mo) h5
  have hh:=fun Y=>A6K s.mo h5 Y
  have hg:=fun Y=>QQ s.mo s.mo.length Y
  have hu:loc < (EQ s.mo s.mo.length).length:=by omega
  have hq:=G8 (ty:=Bx) (e:=1) (rows:=EQ s.mo s.mo.length) (by omega)
  have hj:=fun j Y=>AgX s.mo s.mo.length j Y
  have hc:=fun j Y z=>AgZ s.mo s.mo.length j Y z
  have qc:=fun Y z=>Ad1 s.mo h5 Y z
  obtain ⟨L,hL⟩:∃ L,L=(B6 s m (-1)).mo.getD loc []:=⟨_,rfl⟩
  have h6:s.mo.getD loc []=L:=hL.symm
  have qe:=hs.mi' loc
  rw [<- hL]
  rw [h6] at hk hh qe
  cases c1:decide (at_ < 1) with
  | true =>
   rw [if_pos (.inl (of_decide_eq_true c1))]
   simp only [KE,Yk]
   simp only [go_sem,↓reduceIte,moE,hT,hk,hh,A7 hn,h7,h5,hj 6,hc 6,c1]
   rfl
  | false =>
  have qg:=of_decide_eq_false c1
  obtain ⟨a,rfl⟩:=Int.eq_ofNat_of_zero_le (show 0<=at_ by omega)
  have q6:decide ((L.length:Int)<=(a:Int))=decide (L.length<=a):=decide_eq_decide.2 ⟨fun h=>by omega,fun h=>by omega⟩
  cases c2:decide (L.length<=a) with
  | true =>
   have:=of_decide_eq_true c2
   rw [if_pos (.inr (by omega))]
   simp only [KE,Yk]
   simp only [go_sem,↓reduceIte,moE,hT,hk,hh,A7 hn,h7,h5,hu,hq,hj 6,hc 6,c1,q6,c2]
   rfl
  | false =>
  have qh:=of_decide_eq_false c2
  have c3:a < L.length:=by omega
  rw [if_neg (by omega),toNat_natCast]
  obtain ⟨c,hp⟩:∃ c,c=L.getD a []:=⟨_,rfl⟩
  have hx:L[a]? = some c:=by rw [ET c3,hp]
  have qd:=hs.mc' loc a
  rw [h6,<- hp] at qd
  have qi:c.length < 1000:=by
   have hm:=Ai (d:=[]) h5
   rw [h6] at hm
   refine hz.2.2 L hm c ?_
   rw [hp]
   exact Ai c3
  rw [<- hp]
  have hb:=G8 (ty:=D7) (e:=1) (rows:=L.map Hv) (by rw [length_map];omega)
  simp only [go_sem,↓reduceIte,moE,hT,hk,hh,A7 hn,h7,h5,hu,hq,hj 6,hc 6,c1,q6,c2,hx,c3,hb,length_map]
  have qa:AW D7 1 (L.map Hv) = ⟨D7,1,L.length,false,L.map Hv⟩:=by
   unfold AW
   rw [if_neg (by rw [length_map];omega),length_map]
  have q8:decide (i7 (2 * s.mo.length+6)=2 * s.mo.length+7+1+1+1+1+1+1+1)=false:=decide_eq_false (by show ¬ 2 * s.mo.length+6+7=2 * s.mo.length+7+7;omega)
  have q7:decide (6=2 * s.mo.length+7+1+1+1+1+1+1+1)=false:=decide_eq_false (by omega)
  have q9:decide (i7 (2 * loc)=2 * s.mo.length+7+1+1+1+1+1+1+1)=false:=decide_eq_false (by show ¬ 2 * loc+7=2 * s.mo.length+7+7;omega)
  have h0:=fun j z Y=>Aby s.mo s.mo.length loc j z Y
  have hv:=fun j z y Y=>Ant s.mo s.mo.length loc j z y Y
  have hl:∀ z Y,((JK s.mo s.mo.length).set (2 * loc) z++Y)[2 * loc]? = some z:=fun z Y=>by rw [MU s.mo h5 h5 z Y,if_pos rfl]
  unfold VL
  rw [A0]
  refine AT (M:=Nat) (I:=fun i F h=>i<=Br c m/\A4.tmp F 2 = .i .i64 m/\A4.tmp F 3 = .i .i64 a/\A4.tmp F 4 = .fp (eT t) 0/\A4.tmp F 8 = .p 0 0 0 0/\A4.tmp F 10 = .p (i7 (2 * s.mo.length+6)) 0 0 0/\A4.tmp F 12 = .i .i64 loc/\A4.tmp F 13=lI c/\A4.tmp F 14 = .i .i64 i/\h=joH s (B6 s m (-1)) v1 v2) (μ:=fun i=>c.length - i) ?_ 0 _ _ ⟨zero_le _,?_,?_,?_,?_,?_,?_,?_,?_,?_⟩
  .rintro i F h ⟨hi,p2,p3,p4,p8,he,q3,q4,q5,rfl⟩
   have q0:=QZ hi
   have qj:=Dq c m
   have q1:decide (i7 (2 * s.mo.length+6) < (joH s (B6 s m (-1)) v1 v2).length)=true:=decide_eq_true (by rw [Ak8];show 2 * s.mo.length+6+7 < _;omega)
   by_cases ci:i < c.length
   .cases ci2:decide (c.getD i 0 < (m:Int)) with
    | true =>
     have h8:=of_decide_eq_true ci2
     have qk:=q0.1 ⟨ci,h8⟩
     have hw:IntKind.i64.wrap ((i:Int)+1)=((i+1:Nat):Int):=by rw [Az (by omega) (by omega)];omega
     simp only [YG,go_sem,↓reduceIte,p2,p3,p4,p8,he,q3,q4,q5,ci,Ar ci,ci2,A0,hw,q1]
     exact ⟨i+1,by omega,by omega,rfl,rfl⟩
    | false =>
     have h8:=of_decide_eq_false ci2
     have e:i=Br c m:=by
      rcases lt_or_ge i (Br c m) with h | h
      .exact absurd (R0 h) h8
      .omega
     obtain ⟨A,hA⟩:∃ A,A=c.take i:=⟨_,rfl⟩
     obtain ⟨B,hB⟩:∃ B,B=c.drop i:=⟨_,rfl⟩
     have lA:A.length=i:=by rw [hA,length_take];omega
     have lB:B.length=c.length - i:=by rw [hB,length_drop]
     have k1:i<=c.length:=by omega
     have b1:A.length * 8<=Aa:=by unfold Aa;omega
     have b2:(A.length+1) * 8<=Aa:=by unfold Aa;omega
     obtain ⟨b0,Bs,rfl⟩:∃ b0 Bs,B=b0::Bs:=by
      cases B with
      | nil=>simp at lB;omega
      | cons b0 Bs=>exact ⟨b0,Bs,rfl⟩
     rw [length_cons] at lB
     have qf:List.take (c.length - i) (eI b0::List.map eI Bs)=eI b0::List.map eI Bs:=take_of_length_le (by simp;omega)
     obtain ⟨X,hX⟩:∃ X,X=A++[(m:Int)]++b0::Bs:=⟨_,rfl⟩
     have jX:List.map eI (A++[(m:Int)])++eI b0::List.map eI Bs=List.map eI X:=by rw [hX,map_append (l₁:=A++[(m:Int)])];rfl
     have lX:A.length+1+(Bs.length+1)=X.length:=by rw [hX];simp;omega
     have b3:X.length * 8<=Aa:=by unfold Aa;omega
     have eX:X=Bg c (Br c m) m:=by rw [hX,Bg,<- e,<- hA,<- hB];simp
     rw [<- eX]
     simp only [YG,go_sem,↓reduceIte,p2,p3,p4,p8,he,q3,q4,q5,ci,Ar ci,ci2,A0,joH,moE,cons_append,append_assoc,nil_append,hT,hk,hh,h5,hu,hq,hb,qa,hj 6,hj 7,hc 6,hc 7,qc,h0 1,h0 2,h0 6,h0 7,hv 6,hv 7,hl,q8,q7,q9,k1,<- hA,<- hB,qf,b1,b2,b3,jX,lX,c3,hx,length_append,length_map]
     obtain ⟨ids,hy⟩:=A6Y (f:=6) (d:=2) rfl h5 h6 c3 (some ⟨Af,0,0,false,[[.nl,.nl,.nl]]⟩) (some ⟨Af,0,0,false,[moL s (B6 s m (-1)) v1 v2]⟩) (some ⟨Af,0,0,false,[[.sl 3 (Hf s.has.length) 0 s.has.length,.sl 4 (Hf s.jf.length) 0 s.jf.length,.sl 6 (EQ s.mo s.mo.length).length 0 (EQ s.mo s.mo.length).length]]⟩) (some (Yg AO 1 (s.has.map eI))) (some (Yg AO 1 (s.jf.map eI))) (some ⟨Af,0,0,false,[[.sl 3 (Hf s.has.length) 0 s.has.length,.sl 4 (Hf s.jf.length) 0 s.jf.length,.sl 6 (EQ s.mo s.mo.length).length 0 (EQ s.mo s.mo.length).length]]⟩) (some (AW Bx 1 (EQ s.mo s.mo.length)))
      (Y:=[some ⟨Af,0,0,false,[moL s (B6 s m (-1)) v1 v2]⟩,some ⟨AO,1,v1,false,(B6 s m (-1)).has.map eI⟩,some ⟨AO,1,v2,false,(B6 s m (-1)).jf.map eI⟩,some DW,some DW,some DW,some ⟨Af,0,0,false,[moL s (B6 s m (-1)) v1 v2]⟩,some ⟨AO,1,Hf A.length+1+1,false,X.map eI⟩]) (idx:=7) (id:=2 * s.mo.length+7+1+1+1+1+1+1+1) (X:=X) (v:=Hf A.length+1+1) (by show _=2 * s.mo.length+7+7;omega) rfl
     simp only [go_sem,↓reduceIte,hy]
     have hd:=Ado hs hz (m:Int) (-1) qb h6 h5 (a:=a) (X:=X) (by omega)
     have ha:=fun (Q:VV->Prop)=>Bv C t ht _ hd (Q:=Q)
     have eM:(B6 s m (-1)).mo=s.mo:=rfl
     simp only [eM] at ha ⊢
     cases hff:Bd t ⟨(B6 s m (-1)).has,(B6 s m (-1)).jf,s.mo.set loc (L.set a X)⟩ with
     | false =>
      rw [if_neg (by decide)]
      simp only [go_sem,↓reduceIte,p8,he,h0 1,h0 2,h0 6,moL,ha,hff]
      rfl
     | true =>
      rw [if_pos rfl]
      simp only [go_sem,↓reduceIte,p8,he,h0 1,h0 2,h0 6,moL,ha,hff]
      obtain ⟨q2,h9⟩:=A6Y (f:=5) (d:=1) rfl h5 h6 c3 (some ⟨Af,0,0,false,[moL s (B6 s m (-1)) v1 v2]⟩) (some ⟨Af,0,0,false,[moL s (B6 s m (-1)) v1 v2]⟩) (some ⟨Af,0,0,false,[[.sl 3 (Hf s.has.length) 0 s.has.length,.sl 4 (Hf s.jf.length) 0 s.jf.length,.sl 6 (EQ s.mo s.mo.length).length 0 (EQ s.mo s.mo.length).length]]⟩) (some (Yg AO 1 (s.has.map eI))) (some (Yg AO 1 (s.jf.map eI))) (some ⟨Af,0,0,false,[[.sl 3 (Hf s.has.length) 0 s.has.length,.sl 4 (Hf s.jf.length) 0 s.jf.length,.sl 6 (EQ s.mo s.mo.length).length 0 (EQ s.mo s.mo.length).length]]⟩) (some (AW Bx 1 (EQ s.mo s.mo.length)))
       (Y:=[some ⟨Af,0,0,false,[moL s (B6 s m (-1)) v1 v2]⟩,some ⟨AO,1,v1,false,(B6 s m (-1)).has.map eI⟩,some ⟨AO,1,v2,false,(B6 s m (-1)).jf.map eI⟩,some DW,some DW,some DW,some ⟨Af,0,0,false,[moL s (B6 s m (-1)) v1 v2]⟩,some ⟨AO,1,Hf A.length+1+1,false,X.map eI⟩]) (idx:=7) (id:=2 * s.mo.length+7+1+1+1+1+1+1+1) (X:=X) (v:=Hf A.length+1+1) (by show _=2 * s.mo.length+7+7;omega) rfl
      simp only [go_sem,↓reduceIte,h9]
      rfl
   .have e:i=Br c m:=by omega
    obtain ⟨A,hA⟩:∃ A,A=c.take i:=⟨_,rfl⟩
    obtain ⟨B,hB⟩:∃ B,B=c.drop i:=⟨_,rfl⟩
    have lA:A.length=i:=by rw [hA,length_take];omega
    have lB:B.length=c.length - i:=by rw [hB,length_drop]
    have k1:i<=c.length:=by omega
    have b1:A.length * 8<=Aa:=by unfold Aa;omega
    have b2:(A.length+1) * 8<=Aa:=by unfold Aa;omega
    obtain rfl:B=[]:=List.length_eq_zero_iff.1 (by omega)
    have tB:List.take (c.length - i) ([]:List Int)=[]:=List.take_nil
    have b3:(A.length+1+0) * 8<=Aa:=by unfold Aa;omega
    obtain ⟨X,hX⟩:∃ X,X=A++[(m:Int)]:=⟨_,rfl⟩
    have lX:A.length+1=X.length:=by rw [hX];simp
    have b4:X.length * 8<=Aa:=by rw [<- lX];exact b2
    have b5:(X.length+0) * 8<=Aa:=b4
    have eX:X=Bg c (Br c m) m:=by rw [hX,Bg,<- e,<- hA,<- hB]
    rw [<- eX]
    simp only [YG,go_sem,↓reduceIte,p2,p3,p4,p8,he,q3,q4,q5,ci,A0,joH,moE,cons_append,append_assoc,nil_append,hT,hk,hh,h5,hu,hq,hb,qa,hj 6,hj 7,hc 6,hc 7,qc,h0 1,h0 2,h0 6,h0 7,hv 6,hv 7,hl,q8,q7,q9,k1,<- hA,<- hB,tB,b1,b2,b3,b4,b5,lX,<- hX,c3,hx,length_append,length_map]
    obtain ⟨ids,hy⟩:=A6Y (f:=6) (d:=2) rfl h5 h6 c3 (some ⟨Af,0,0,false,[[.nl,.nl,.nl]]⟩) (some ⟨Af,0,0,false,[moL s (B6 s m (-1)) v1 v2]⟩) (some ⟨Af,0,0,false,[[.sl 3 (Hf s.has.length) 0 s.has.length,.sl 4 (Hf s.jf.length) 0 s.jf.length,.sl 6 (EQ s.mo s.mo.length).length 0 (EQ s.mo s.mo.length).length]]⟩) (some (Yg AO 1 (s.has.map eI))) (some (Yg AO 1 (s.jf.map eI))) (some ⟨Af,0,0,false,[[.sl 3 (Hf s.has.length) 0 s.has.length,.sl 4 (Hf s.jf.length) 0 s.jf.length,.sl 6 (EQ s.mo s.mo.length).length 0 (EQ s.mo s.mo.length).length]]⟩) (some (AW Bx 1 (EQ s.mo s.mo.length)))
     (Y:=[some ⟨Af,0,0,false,[moL s (B6 s m (-1)) v1 v2]⟩,some ⟨AO,1,v1,false,(B6 s m (-1)).has.map eI⟩,some ⟨AO,1,v2,false,(B6 s m (-1)).jf.map eI⟩,some DW,some DW,some DW,some ⟨Af,0,0,false,[moL s (B6 s m (-1)) v1 v2]⟩,some ⟨AO,1,Hf A.length+1,false,X.map eI⟩]) (idx:=7) (id:=2 * s.mo.length+7+1+1+1+1+1+1+1) (X:=X) (v:=Hf A.length+1) (by show _=2 * s.mo.length+7+7;omega) rfl
    simp only [go_sem,↓reduceIte,hy]
    have hd:=Ado hs hz (m:Int) (-1) qb h6 h5 (a:=a) (X:=X) (by omega)
    have ha:=fun (Q:VV->Prop)=>Bv C t ht _ hd (Q:=Q)
    have eM:(B6 s m (-1)).mo=s.mo:=rfl
    simp only [eM] at ha ⊢
    cases hff:Bd t ⟨(B6 s m (-1)).has,(B6 s m (-1)).jf,s.mo.set loc (L.set a X)⟩ with
    | false =>
     rw [if_neg (by decide)]
     simp only [go_sem,↓reduceIte,p8,he,h0 1,h0 2,h0 6,moL,ha,hff]
     rfl
    | true =>
     rw [if_pos rfl]
     simp only [go_sem,↓reduceIte,p8,he,h0 1,h0 2,h0 6,moL,ha,hff]
     obtain ⟨q2,h9⟩:=A6Y (f:=5) (d:=1) rfl h5 h6 c3 (some ⟨Af,0,0,false,[moL s (B6 s m (-1)) v1 v2]⟩) (some ⟨Af,0,0,false,[moL s (B6 s m (-1)) v1 v2]⟩) (some ⟨Af,0,0,false,[[.sl 3 (Hf s.has.length) 0 s.has.length,.sl 4 (Hf s.jf.length) 0 s.jf.length,.sl 6 (EQ s.mo s.mo.length).length 0 (EQ s.mo s.mo.length).length]]⟩) (some (Yg AO 1 (s.has.map eI))) (some (Yg AO 1 (s.jf.map eI))) (some ⟨Af,0,0,false,[[.sl 3 (Hf s.has.length) 0 s.has.length,.sl 4 (Hf s.jf.length) 0 s.jf.length,.sl 6 (EQ s.mo s.mo.length).length 0 (EQ s.mo s.mo.length).length]]⟩) (some (AW Bx 1 (EQ s.mo s.mo.length)))
      (Y:=[some ⟨Af,0,0,false,[moL s (B6 s m (-1)) v1 v2]⟩,some ⟨AO,1,v1,false,(B6 s m (-1)).has.map eI⟩,some ⟨AO,1,v2,false,(B6 s m (-1)).jf.map eI⟩,some DW,some DW,some DW,some ⟨Af,0,0,false,[moL s (B6 s m (-1)) v1 v2]⟩,some ⟨AO,1,Hf A.length+1,false,X.map eI⟩]) (idx:=7) (id:=2 * s.mo.length+7+1+1+1+1+1+1+1) (X:=X) (v:=Hf A.length+1) (by show _=2 * s.mo.length+7+7;omega) rfl
     simp only [go_sem,↓reduceIte,h9]
     rfl
  .simp only [go_sem,↓reduceIte]
  .simp only [go_sem,↓reduceIte]
  .simp only [go_sem,↓reduceIte]
  .simp only [go_sem,↓reduceIte]
  .simp only [go_sem,↓reduceIte]
  .simp only [go_sem,↓reduceIte]
  .simp only [go_sem,↓reduceIte]
  .simp only [go_sem,↓reduceIte]
  .simp only [go_sem,↓reduceIte,joH,moE]
end
theorem GL.kind {t:A1}:∀ {n u e:Nat},GL t n u e->∀ m,u < m->m < e->(t.at m).kind=2\/(t.at m).kind=3\/(t.at m).kind=4:=by
 intro n
 induction n with
 | zero=>intro u e h;exact absurd h (by simp [GL])
 | succ n ih =>
  intro u e h m h1 h2
  obtain ⟨⟨_,ht,_⟩,h⟩:=h
  rcases h with ⟨_,_,rfl⟩ | ⟨c,_,_,al,hb⟩ | ⟨c,_,_,vals,k,loc,mode,_,_,hk0,hke,hloc,hs,_⟩
  .omega
  .by_cases e1:m=u+1
   .subst e1
    simp only [Do,Bool.or_eq_true,and_eq_true,decide_eq_true_eq] at al
    rcases al with h | h
    .exact .inr (.inr h.1.1.1.1.1)
    .exact .inr (.inl h.1.1.1)
   .exact ih hb m (by omega) h2
  .obtain ⟨v,hv,a,b⟩:=Cx (k:=k) (m:=m) vals (by omega) (by omega)
   obtain ⟨s1,s2,s3⟩:=hs v hv
   by_cases e1:m=k v
   .subst e1
    simp only [EJ,and_eq_true,decide_eq_true_eq] at s2
    exact .inl s2.1.1.1.1
   .exact ih s3 m (by omega) b
theorem A5.kind {t:A1} (h:A5 t) {m:Nat} (h2:m < t.nodes.length) (h3:0<=(t.at m).up):(t.at m).kind=2\/(t.at m).kind=3\/(t.at m).kind=4:=by
 by_cases c:m < t.locs.length
 .have:=(h.init m c).up;omega
 .obtain ⟨s,h0,he,hs⟩:=h.thr
  obtain ⟨v,hv,a,b⟩:=Cx (k:=s) (m:=m) t.regs.length (by omega) (by omega)
  obtain ⟨hb,n,hn⟩:=hs v hv
  by_cases e1:m=s v
  .subst e1
   simp only [Eu,and_eq_true,decide_eq_true_eq] at hb
   have:=hb.1.1.1.1.1.2
   omega
  .exact hn.kind m (by omega) b
structure Gr (t:A1) (s:A6) (k:Nat):Prop where
 big:Big t s k
 ok:∀ x∈s.has,BP t x=true
theorem Gr.sz {t:A1} (ht:A5 t) {s:A6} {k:Nat} (h:Gr t s k) (hk:k<=100):DL s:=h.big.sz ht hk
theorem Gr.sz' {t:A1} {s:A6} {k:Nat} (h:Gr t s k) (hk:k<=100):s.has.length < 1000/\s.jf.length < 1000/\∀ l∈s.mo,∀ c∈l,c.length < 1000 :=
 ⟨by have:=h.big.has;omega,by have:=h.big.jf;omega,fun l hl c hc=>by have:=h.big.mc l hl c hc;omega⟩
theorem A29 {t:A1} (ht:A5 t):Gr t (Bu t) 0:=by
 refine ⟨AfB ht,fun x hx=>?_⟩
 simp only [Bu,EX,mem_map,List.mem_filter,List.mem_range] at hx
 obtain ⟨i,⟨hi,_⟩,rfl⟩:=hx
 exact BM hi
theorem NC {t:A1} {s s':A6} {k:Nat} (h:Gr t s k) {n kind w:Int} (e:D6 t s n kind w=some s'):Gr t s' (k+1):=by
 unfold D6 at e
 split at e
 .rename_i h0
  cases e
  simp only [Cy,Bd,and_eq_true,decide_eq_true_eq] at h0
  refine ⟨AhK h.big h0.1.1.1.1.1.1.1.1.2 n w,?_⟩
  intro x hx
  simp only [B6,Bg,List.mem_append,mem_cons] at hx
  rcases hx with hx | rfl | hx
  .exact h.ok x (List.mem_of_mem_take hx)
  .exact h0.1.1.1.2
  .exact h.ok x (List.mem_of_mem_drop hx)
 .cases e
theorem AlL {t:A1} {s s':A6} {k:Nat} (h:Gr t s k) {n w:Int} (e:JZ t s n w=some s'):Gr t s' (k+1):=by
 unfold JZ at e
 split at e
 .rename_i x hx
  split at e
  .cases e;exact NC h hx
  .cases e
 .cases e
theorem Aid {t:A1} {s:A6} {k loc:Nat} (h:Gr t s (k+1)) {L:List (List Int)} (h0:L≠[]) (h1:L.length<=2+k) (h2:∀ c∈L,c.length<=2+k):Gr t { s with mo:=s.mo.set loc L } (k+1):=by
 refine ⟨⟨h.big.has,h.big.jf,by rw [length_set];exact h.big.mo,?_,?_⟩,h.ok⟩
 .intro l hl
  rcases List.mem_or_eq_of_mem_set hl with hl | rfl
  .exact h.big.mi l hl
  .exact ⟨h0,by omega⟩
 .intro l hl c hc
  rcases List.mem_or_eq_of_mem_set hl with hl | rfl
  .exact h.big.mc l hl c hc
  .have:=h2 c hc;omega
theorem Big.row {t:A1} {s:A6} {k:Nat} (h:Big t s k) (loc:Nat):(s.mo.getD loc []).length<=1+k/\∀ c∈s.mo.getD loc [],c.length<=1+k:=by
 by_cases hl:loc < s.mo.length
 .have:=Ai (d:=[]) hl
  exact ⟨(h.mi _ this).2,fun c hc=>h.mc _ this c hc⟩
 .rw [getD_eq_getElem?_getD,List.getElem?_eq_none (by omega)]
  simp
theorem Ady {t:A1} {s s':A6} {n kind w:Int} (e:D6 t s n kind w=some s'):s'.mo=s.mo:=by
 unfold D6 at e
 split at e
 .cases e;rfl
 .cases e
theorem A2q {t:A1} {s s':A6} {k:Nat} (h:Gr t s k) {n w:Int} (e:EM t s n w=some s'):Gr t s' (k+1):=by
 unfold EM at e
 split at e
 .rename_i x hx
  have hg:=NC h hx
  have hm:=Ady hx
  split at e
  .cases e
  .cases e
   have hr:=h.big.row (t.at n.toNat).loc.toNat
   rw [<- hm] at hr
   refine Aid hg (by simp) ?_ ?_
   .simp only [length_append,length_cons,length_take,length_drop];omega
   .intro c hc
    simp only [List.mem_append,mem_cons] at hc
    rcases hc with hc | rfl | hc
    .have:=hr.2 c (List.mem_of_mem_take hc);omega
    .simp;omega
    .have:=hr.2 c (List.mem_of_mem_drop hc);omega
 .cases e
theorem Ak9 {t:A1} {s s':A6} {k:Nat} (h:Gr t s k) {n w:Int} (e:P9 t s n w=some s'):Gr t s' (k+1):=by
 unfold P9 at e
 split at e
 .rename_i x hx
  have hg:=NC h hx
  have hm:=Ady hx
  simp only at e
  split at e
  .cases e
  .rename_i hw
   split at e
   .cases e
    have hr:=h.big.row (t.at n.toNat).loc.toNat
    rw [<- hm] at hr
    refine Aid hg ?_ ?_ ?_
    .intro h0
     have:=congrArg List.length h0
     rw [length_set] at this
     simp only [List.length_nil] at this
     omega
    .rw [length_set];omega
    .intro c hc
     rcases List.mem_or_eq_of_mem_set hc with hc | rfl
     .have:=hr.2 c hc;omega
     .have h1:=Dq ((x.mo.getD (t.at n.toNat).loc.toNat []).getD w.toNat []) n
      rw [D1 h1]
      have:=hr.2 _ (Ai (d:=[]) (show w.toNat < (x.mo.getD (t.at n.toNat).loc.toNat []).length by omega))
      omega
   .cases e
 .cases e
def GX (t:A1) (s:A6) (i:Nat):Bool:=decide (0<=(t.at i).up) && AU s.has (t.at i).up && !AU s.has i
def Ji (t:A1) (s:A6) (k:Nat):List Int:=((List.range k).filter (GX t s)).map fun (i:Nat)=>(i:Int)
theorem AjU {t:A1} {s:A6} {k:Nat} (h:GX t s k=true):Ji t s (k+1)=Ji t s k++[(k:Int)]:=by
 unfold Ji
 rw [range_succ,filter_append,map_append]
 simp only [filter_cons,List.filter_nil,h,if_true,map_cons,map_nil]
theorem A6X {t:A1} {s:A6} {k:Nat} (h:GX t s k=false):Ji t s (k+1)=Ji t s k:=by
 unfold Ji
 rw [range_succ,filter_append,map_append]
 simp [h]
theorem AeI {t:A1} {s:A6} (k:Nat):(Ji t s k).length<=k:=by
 unfold Ji
 rw [length_map]
 exact Nat.le_trans (List.length_filter_le _ _) (by simp)
theorem AeJ {t:A1} {s:A6} {k:Nat} {x:Int} (h:x∈Ji t s k):∃ m:Nat,x=m/\m < k/\GX t s m=true:=by
 simp only [Ji,mem_map,List.mem_filter,List.mem_range] at h
 obtain ⟨i,⟨hi,h⟩,rfl⟩:=h
 exact ⟨i,rfl,hi,h⟩
def Mh (t:A1) (n:Nat) (y:Int):Bool:=decide ((t.at y.toNat).kind=3) && decide ((t.at y.toNat).loc=(t.at n).loc) && decide ((t.at y.toNat).val=(t.at n).val)
theorem AdZ {l:List Int} {k:Nat} (hk:k < l.length):l.take (k+1)=l.take k++[l.getD k 0]:=by
 rw [List.take_succ_eq_append_getElem hk,getD_eq_getElem?_getD,List.getElem?_eq_getElem hk];rfl
def A2Z (t:A1) (s:A6) (n k:Nat):List Int:=(s.has.take k).filter (Mh t n)
theorem Apm {t:A1} {s:A6} {n k:Nat} (hk:k < s.has.length) (h:Mh t n (s.has.getD k 0)=true):A2Z t s n (k+1)=A2Z t s n k++[s.has.getD k 0]:=by
 unfold A2Z
 rw [AdZ hk,filter_append]
 simp only [filter_cons,List.filter_nil,h,if_true,false_eq_true,if_false,append_nil]
theorem Acs {t:A1} {s:A6} {n k:Nat} (hk:k < s.has.length) (h:Mh t n (s.has.getD k 0)=false):A2Z t s n (k+1)=A2Z t s n k:=by
 unfold A2Z
 rw [AdZ hk,filter_append]
 simp only [filter_cons,List.filter_nil,h,if_true,false_eq_true,if_false,append_nil]
theorem Aif {t:A1} {s:A6} {n:Nat} (k:Nat):(A2Z t s n k).length<=s.has.length:=by
 unfold A2Z
 refine Nat.le_trans (List.length_filter_le _ _) ?_
 rw [length_take];omega
def Gk (t:A1) (s:A6) (a b:Nat):Option A6 :=
 let l:=Ji t s t.nodes.length
 if l.length=0 then none else
  let n:=l.getD (a % l.length) 0
  let x:=t.at n.toNat
  if x.kind=4 then D6 t s n 4 (-1) else
   if x.kind=2 then
    let w:=A2Z t s n.toNat s.has.length
    if w.length=0 then none else JZ t s n (w.getD (b % w.length) 0)
   else
    let k:=(s.mo.getD x.loc.toNat []).length
    let o:=EM t s n ((1+b / 3 % k:Nat):Int)
    if b % 3=0/\1 < k then (match P9 t s n ((1+b / 3 % (k - 1):Nat):Int) with
     | some s'=>some s'
     | none=>o) else o
theorem A7g {t:A1} {s s':A6} {k a b:Nat} (h:Gr t s k) (e:Gk t s a b=some s'):Gr t s' (k+1):=by
 unfold Gk at e
 simp only at e
 split at e
 .cases e
 .split at e
  .exact NC h e
  .split at e
   .split at e
    .cases e
    .exact AlL h e
   .split at e
    .split at e
     .rename_i s2 hj
      cases e;exact Ak9 h hj
     .exact A2q h e
    .exact A2q h e
theorem Gr.mono {t:A1} {s:A6} {k j:Nat} (h:Gr t s k) (hk:k<=j):Gr t s j:=⟨h.big.mono hk,h.ok⟩
def KU (m:List U8) (i:Nat):Nat:=(m.getD i ⟨0⟩).n
theorem AjZ {m:List U8} {i:Nat} (h:i < m.length):m[i]? = some ⟨KU m i⟩:=by
 rw [KU,getD_eq_getElem?_getD,List.getElem?_eq_getElem h];rfl
theorem A6C {m:List U8} (hm:∀ x∈m,x.n < 256) (i:Nat):KU m i < 256:=by
 unfold KU
 rw [getD_eq_getElem?_getD]
 cases h:m[i]? with
 | none=>decide
 | some x=>exact hm x (List.mem_of_getElem? h)
def BH (t:A1) (m:List U8):Nat->A6
 | 0=>Bu t
 | k+1=>(match Gk t (BH t m k) (KU m (2 * k)) (KU m (2 * k+1)) with
  | some s=>s
  | none=>BH t m k)
theorem J6 {t:A1} {m:List U8} {k:Nat} {s:A6} (e:Gk t (BH t m k) (KU m (2 * k)) (KU m (2 * k+1))=some s):BH t m (k+1)=s:=by rw [BH,e]
theorem J5 {t:A1} {m:List U8} {k:Nat} (e:Gk t (BH t m k) (KU m (2 * k)) (KU m (2 * k+1))=none):BH t m (k+1)=BH t m k:=by rw [BH,e]
theorem Ec {t:A1} (ht:A5 t) (m:List U8):∀ k,Gr t (BH t m k) k
 | 0=>A29 ht
 | k+1=>by
  have h:=Ec ht m k
  cases e:Gk t (BH t m k) (KU m (2 * k)) (KU m (2 * k+1)) with
  | some s=>rw [J6 e];exact A7g h e
  | none=>rw [J5 e];exact h.mono (by omega)
section
variable {V:At} (C:Aq V) {Q:VV->Prop}
include C
theorem Aae (t:A1) (ht:A5 t) (s:A6) (hs:DL s):VP V UV [vT t,Dy s] Q↔Q (lI (Ji t s t.nodes.length)):=by
 refine Ae ?_
 rw [Ad C.c_z119.1 C.c_z119.2]
 have h1:=ht.n64
 have h2:=hs.has
 simp only [Zu,go_sem,↓reduceIte]
 refine Ab (by decide) t.nodes.length (by omega) (I:=fun k F h=>A4.tmp F 2 = .fp (eT t) 0/\A4.tmp F 3 = .fp (Je s) 0/\∃ L,L=Ji t s k/\A4.tmp F 5 = .sl 0 L.length 0 L.length/\h=[some (AW AO 1 (L.map eI))]) ?_ ?_ ?_ 0 _ _ (zero_le _) ?_ ?_
 .rintro k F h hk p6 ⟨p2,p3,L,hL,p5,rfl⟩
  simp only [go_sem,↓reduceIte,p2,p3,p5,p6]
  exact ⟨L,hL,rfl,rfl⟩
 .rintro k F h hk p6 ⟨p2,p3,L,hL,p5,rfl⟩
  have h0:=AeI (t:=t) (s:=s) k
  have w1:=EB s.has (t.at k).up
  have w2:=Cg s.has (k:Int)
  have b1:(L.length+1) * 8<=Aa:=by rw [<- hL] at h0;unfold Aa;omega
  cases c1:decide (0<=(t.at k).up) with
  | false =>
   have e:GX t s k=false:=by simp [GX,c1]
   simp only [go_sem,↓reduceIte,p2,p3,p5,p6,hk,A7 hk,c1,A0]
   exact ⟨L,by rw [A6X e];exact hL,rfl,rfl⟩
  | true =>
  cases c2:AU s.has (t.at k).up with
  | false =>
   rw [c2] at w1
   have e:GX t s k=false:=by simp [GX,c2]
   simp only [go_sem,↓reduceIte,p2,p3,p5,p6,hk,A7 hk,c1,Ao C s.has (by omega),w1,A0]
   exact ⟨L,by rw [A6X e];exact hL,rfl,rfl⟩
  | true =>
  rw [c2] at w1
  cases c3:AU s.has (k:Int) with
  | true =>
   rw [c3] at w2
   have e:GX t s k=false:=by simp [GX,c3]
   simp only [go_sem,↓reduceIte,p2,p3,p5,p6,hk,A7 hk,c1,Ao C s.has (by omega),w1,w2,A0]
   exact ⟨L,by rw [A6X e];exact hL,rfl,rfl⟩
  | false =>
   rw [c3] at w2
   have e:GX t s k=true:=by simp only [GX,c1,c2,c3];rfl
   simp only [go_sem,↓reduceIte,p2,p3,p5,p6,hk,A7 hk,c1,Ao C s.has (by omega),w1,w2,A0,b1,Du,length_append,length_map]
   exact ⟨L++[(k:Int)],by rw [AjU e,hL],by simp,rfl⟩
 .rintro F h ⟨p2,p3,L,hL,p5,rfl⟩
  subst hL
  simp only [go_sem,↓reduceIte,p2,p3,p5,length_map]
 .simp only [go_sem,↓reduceIte]
 .simp only [go_sem,↓reduceIte]
  exact ⟨[],rfl,rfl,rfl⟩
end
theorem Gw {e:Option Yc} {a l:Nat} (h:0 < l):Bk .rem e (.i .i64 (a:Int)) (.i .i64 (l:Int))=some (.i .i64 ((a % l:Nat):Int)):=by
 rw [Hp (by omega),Int.tmod_eq_emod_of_nonneg (by omega),Int.natCast_emod]
theorem RE {e:Option Yc} {a l:Nat} (h:0 < l) (ha:a<=1000000):Bk .quo e (.i .i64 (a:Int)) (.i .i64 (l:Int))=some (.i .i64 ((a / l:Nat):Int)):=by
 have:=Nat.div_le_self a l
 have w:IntKind.i64.wrap ((a / l:Nat):Int)=((a / l:Nat):Int):=by
  generalize a / l=q at this ⊢
  exact Az (by omega) (by omega)
 rw [AiA (by omega),Int.tdiv_eq_ediv_of_nonneg (by omega),<- Int.natCast_ediv,w]
theorem Cq (s:A6):KE (some s) = .tu [Dy s,.b true]:=rfl
theorem CP:KE none = .tu [Dy Yk,.b false]:=rfl
def nxH (n:AX) (W:List Int):VH:=[some ⟨Af,0,0,false,[[.nl,.nl,.nl]]⟩,some ⟨Ck,0,0,false,[eN n]⟩,some (AW AO 1 (W.map eI))]
section
variable {V:At} (C:Aq V) {Q:VV->Prop}
include C
theorem XN (t:A1) (ht:A5 t) (s:A6) {k:Nat} (hg:Gr t s k) (hk:k<=90) (a b:Nat) (ha:a < 256) (hb:b < 256):VP V A5x [vT t,Dy s,.i .i64 a,.i .i64 b] Q↔Q (KE (Gk t s a b)):=by
 have hs:=hg.sz ht (by omega)
 have hz:=hg.sz' (by omega)
 refine Ae ?_
 rw [Ad C.c_z55.1 C.c_z55.2]
 have qa:=ht.n64
 have h5:=fun (Q:VV->Prop)=>Aae C t ht s hs (Q:=Q)
 unfold Gk
 obtain ⟨l,hl⟩:∃ l,l=Ji t s t.nodes.length:=⟨_,rfl⟩
 rw [<- hl] at h5 ⊢
 simp only
 cases c0:decide (l.length=0) with
 | true =>
  have hp:=of_decide_eq_true c0
  have h3:decide ((l.length:Int)=0)=true:=decide_eq_true (by omega)
  rw [if_pos hp,CP]
  simp only [Jg,go_sem,↓reduceIte,h5,c0,h3,Yk,length_map]
  rfl
 | false =>
 have hp:=of_decide_eq_false c0
 have h3:decide ((l.length:Int)=0)=false:=decide_eq_false (by omega)
 rw [if_neg hp]
 have r1:=Gw (e:=none) (a:=a) (l:=l.length) (by omega)
 have h4:a % l.length < l.length:=mod_lt _ (by omega)
 obtain ⟨n,hn,h0,hd⟩:=AeJ (show l.getD (a % l.length) 0∈Ji t s t.nodes.length from by rw [<- hl];exact Ai h4)
 have g1:=Ar h4
 rw [hn] at g1 ⊢
 rw [toNat_natCast]
 have q9:0<=(t.at n).up:=by simp only [GX,and_eq_true,decide_eq_true_eq] at hd;exact hd.1.1
 have q2:=ht.kind h0 q9
 cases c4:decide ((t.at n).kind=4) with
 | true =>
  rw [if_pos (of_decide_eq_true c4)]
  have h9:=fun (Q:VV->Prop)=>XV C t ht s hs n (Q:=Q)
  cases hm:D6 t s n 4 (-1) with
  | none =>
   rw [hm,CP] at h9
   rw [CP]
   simp only [Jg,go_sem,↓reduceIte,h5,c0,h3,r1,g1,h4,h0,A7 h0,c4,h9,Yk,length_map,A0]
   rfl
  | some s' =>
   rw [hm,Cq] at h9
   rw [Cq]
   simp only [Jg,go_sem,↓reduceIte,h5,c0,h3,r1,g1,h4,h0,A7 h0,c4,h9,length_map,A0]
 | false =>
 have q5:=of_decide_eq_false c4
 rw [if_neg q5]
 cases c2:decide ((t.at n).kind=2) with
 | true =>
  rw [if_pos (of_decide_eq_true c2)]
  have qb:=hs.has
  simp only [Jg,go_sem,↓reduceIte,h5,c0,h3,r1,g1,h4,h0,A7 h0,c4,c2,length_map,A0]
  refine Ab (by decide) s.has.length (by omega) (I:=fun i F h=>A4.tmp F 3 = .i .i64 b/\A4.tmp F 4 = .fp (eT t) 0/\A4.tmp F 5 = .fp (Je s) 0/\A4.tmp F 8 = .p 0 0 0 0/\A4.tmp F 11 = .i .i64 n/\A4.tmp F 12 = .p 1 0 0 0/\∃ W,W=A2Z t s n i/\A4.tmp F 13 = .sl 2 W.length 0 W.length/\h=nxH (t.at n) W) ?_ ?_ ?_ 0 _ _ (zero_le _) ?_ ?_
  .rintro i F h hi hf ⟨p3,p4,p5,p8,h6,h7,W,hW,h8,rfl⟩
   simp only [go_sem,↓reduceIte,p3,p4,p5,p8,h6,h7,h8,hf]
   exact ⟨W,hW,rfl,rfl⟩
  .rintro i F h hi hf ⟨p3,p4,p5,p8,h6,h7,W,hW,h8,rfl⟩
   have hu:=Aif (t:=t) (s:=s) (n:=n) i
   rw [<- hW] at hu
   have b1:(W.length+1) * 8<=Aa:=by unfold Aa;omega
   obtain ⟨y,hy,he⟩:=A8 (hg.ok _ (Ai hi))
   have g2:=Ar hi
   rw [hy] at g2
   cases d1:decide ((t.at y).kind=3) with
   | false =>
    have e:Mh t n (s.has.getD i 0)=false:=by rw [hy];simp only [Mh,toNat_natCast,d1];rfl
    simp only [go_sem,↓reduceIte,p3,p4,p5,p8,h6,h7,h8,hf,hi,g2,he,A7 he,d1,nxH,A0]
    exact ⟨W,by rw [Acs hi e];exact hW,rfl,rfl⟩
   | true =>
   cases d2:decide ((t.at y).loc=(t.at n).loc) with
   | false =>
    have e:Mh t n (s.has.getD i 0)=false:=by rw [hy];simp only [Mh,toNat_natCast,d1,d2];rfl
    simp only [go_sem,↓reduceIte,p3,p4,p5,p8,h6,h7,h8,hf,hi,g2,he,A7 he,d1,d2,nxH,A0]
    exact ⟨W,by rw [Acs hi e];exact hW,rfl,rfl⟩
   | true =>
   cases d3:decide ((t.at y).val=(t.at n).val) with
   | false =>
    have e:Mh t n (s.has.getD i 0)=false:=by rw [hy];simp only [Mh,toNat_natCast,d1,d2,d3];rfl
    simp only [go_sem,↓reduceIte,p3,p4,p5,p8,h6,h7,h8,hf,hi,g2,he,A7 he,d1,d2,d3,nxH,A0]
    exact ⟨W,by rw [Acs hi e];exact hW,rfl,rfl⟩
   | true =>
    have e:Mh t n (s.has.getD i 0)=true:=by rw [hy];simp only [Mh,toNat_natCast,d1,d2,d3];rfl
    simp only [go_sem,↓reduceIte,p3,p4,p5,p8,h6,h7,h8,hf,hi,g2,he,A7 he,d1,d2,d3,nxH,A0,b1,Du,length_append,length_map]
    exact ⟨W++[(y:Int)],by rw [Apm hi e,hW,hy],by simp,rfl⟩
  .rintro F h ⟨p3,p4,p5,p8,h6,h7,W,hW,h8,rfl⟩
   rw [<- hW]
   cases d0:decide (W.length=0) with
   | true =>
    have hq:=of_decide_eq_true d0
    have ho:decide ((W.length:Int)=0)=true:=decide_eq_true (by omega)
    rw [if_pos hq,CP]
    simp only [go_sem,↓reduceIte,p3,p4,p5,p8,h6,h7,h8,d0,ho,nxH,Yk]
    rfl
   | false =>
    have hq:=of_decide_eq_false d0
    have ho:decide ((W.length:Int)=0)=false:=decide_eq_false (by omega)
    rw [if_neg hq]
    have r2:=Gw (e:=none) (a:=b) (l:=W.length) (by omega)
    have hr:b % W.length < W.length:=mod_lt _ (by omega)
    have g3:=Ar hr
    obtain ⟨x,hx⟩:∃ x,x=W.getD (b % W.length) 0:=⟨_,rfl⟩
    rw [<- hx] at g3 ⊢
    have q1:=G8 (ty:=AO) (e:=1) (rows:=W.map eI) (by rw [length_map];omega)
    have h2:=fun (Q:VV->Prop)=>Rm C t ht s hs ⟨hz.1,hz.2.1⟩ n x (Q:=Q)
    cases hm:JZ t s n x with
    | none =>
     rw [hm,CP] at h2
     rw [CP]
     simp only [go_sem,↓reduceIte,p3,p4,p5,p8,h6,h7,h8,d0,ho,r2,g3,hr,q1,h2,nxH,Yk,length_map]
     rfl
    | some s' =>
     rw [hm,Cq] at h2
     rw [Cq]
     simp only [go_sem,↓reduceIte,p3,p4,p5,p8,h6,h7,h8,d0,ho,r2,g3,hr,q1,h2,nxH,length_map]
  .simp only [go_sem,↓reduceIte]
  .simp only [go_sem,↓reduceIte]
   exact ⟨[],rfl,rfl,rfl⟩
 | false =>
 have q4:=of_decide_eq_false c2
 rw [if_neg q4]
 have c3:(t.at n).kind=3:=by omega
 obtain ⟨l0,l1⟩:=ht.wloc h0 (.inr c3)
 obtain ⟨loc,h1⟩:=Int.eq_ofNat_of_zero_le l0
 have hc:loc < s.mo.length:=by have:=hg.big.mo;omega
 simp only [h1,toNat_natCast]
 obtain ⟨L,hL⟩:∃ L,L=s.mo.getD loc []:=⟨_,rfl⟩
 have gL:=C1 hc
 rw [<- hL] at gL ⊢
 have hm:=hs.mi' loc
 rw [<- hL] at hm
 have q7:0 < L.length:=by
  have:=(hg.big.mi _ (Ai (d:=[]) hc)).1
  rw [<- hL] at this
  cases L with
  | nil=>exact absurd rfl this
  | cons _ _=>simp
 have r3:Bk .rem none (.i .i64 (b:Int)) (.i .i64 3)=some (.i .i64 ((b % 3:Nat):Int)):=Gw (l:=3) (by omega)
 have q3:Bk .quo none (.i .i64 (b:Int)) (.i .i64 3)=some (.i .i64 ((b / 3:Nat):Int)):=RE (l:=3) (by omega) (by omega)
 have r4:=Gw (e:=none) (a:=b / 3) (l:=L.length) q7
 have r5:=fun h=>Gw (e:=none) (a:=b / 3) (l:=L.length - 1) h
 have q8:=Nat.div_le_self b 3
 have qc:=Nat.mod_le (b / 3) L.length
 have w4:IntKind.i64.wrap (1+((b / 3 % L.length:Nat):Int))=((1+b / 3 % L.length:Nat):Int):=by rw [Az (by omega) (by omega)];omega
 have hw:=fun (Q:VV->Prop)=>Pl C t ht s hs n ((1+b / 3 % L.length:Nat):Int) (Q:=Q)
 have bw:b / 3 % L.length<=1000:=by omega
 cases c5:decide (b % 3=0/\1 < L.length) with
 | false =>
  rw [if_neg (of_decide_eq_false c5)]
  have q0:=of_decide_eq_false c5
  cases hm:EM t s n ((1+b / 3 % L.length:Nat):Int) with
  | none =>
   rw [hm,CP] at hw
   rw [CP]
   cases d1:decide (((b % 3:Nat):Int)=0) with
   | false =>
    simp only [Jg,go_sem,↓reduceIte,h5,c0,h3,r1,g1,h4,h0,A7 h0,c4,c2,h1,hc,gL,r3,q3,r4,w4,d1,hw,Yk,length_map,A0]
    rfl
   | true =>
    have q6:=of_decide_eq_true d1
    have d2:decide (1 < (L.length:Int))=false:=decide_eq_false (by omega)
    simp only [Jg,go_sem,↓reduceIte,h5,c0,h3,r1,g1,h4,h0,A7 h0,c4,c2,h1,hc,gL,r3,q3,r4,w4,d1,d2,hw,Yk,length_map,A0]
    rfl
  | some s' =>
   rw [hm,Cq] at hw
   rw [Cq]
   cases d1:decide (((b % 3:Nat):Int)=0) with
   | false =>
    simp only [Jg,go_sem,↓reduceIte,h5,c0,h3,r1,g1,h4,h0,A7 h0,c4,c2,h1,hc,gL,r3,q3,r4,w4,d1,hw,length_map,A0]
   | true =>
    have q6:=of_decide_eq_true d1
    have d2:decide (1 < (L.length:Int))=false:=decide_eq_false (by omega)
    simp only [Jg,go_sem,↓reduceIte,h5,c0,h3,r1,g1,h4,h0,A7 h0,c4,c2,h1,hc,gL,r3,q3,r4,w4,d1,d2,hw,length_map,A0]
 | true =>
  have q0:=of_decide_eq_true c5
  rw [if_pos q0]
  have d1:decide (((b % 3:Nat):Int)=0)=true:=decide_eq_true (by omega)
  have d2:decide (1 < (L.length:Int))=true:=decide_eq_true (by omega)
  have w1:IntKind.i64.wrap ((L.length:Int) - 1)=((L.length - 1:Nat):Int):=by rw [Az (by omega) (by omega)];omega
  have r5:=Gw (e:=none) (a:=b / 3) (l:=L.length - 1) (by omega)
  have hv:=Nat.mod_le (b / 3) (L.length - 1)
  have w5:IntKind.i64.wrap (1+((b / 3 % (L.length - 1):Nat):Int))=((1+b / 3 % (L.length - 1):Nat):Int):=by
   generalize b / 3 % (L.length - 1)=z at hv ⊢
   rw [Az (by omega) (by omega)];omega
  have hh:=fun (Q:VV->Prop)=>A7u C t ht s hs hz n ((1+b / 3 % (L.length - 1):Nat):Int) (Q:=Q)
  cases hj:P9 t s n ((1+b / 3 % (L.length - 1):Nat):Int) with
  | some s' =>
   rw [hj,Cq] at hh
   simp only [Cq]
   simp only [Jg,go_sem,↓reduceIte,h5,c0,h3,r1,g1,h4,h0,A7 h0,c4,c2,h1,hc,gL,r3,q3,r5,w5,w1,d1,d2,hh,length_map,A0]
  | none =>
   rw [hj,CP] at hh
   simp only
   cases hm:EM t s n ((1+b / 3 % L.length:Nat):Int) with
   | none =>
    rw [hm,CP] at hw
    rw [CP]
    simp only [Jg,go_sem,↓reduceIte,h5,c0,h3,r1,g1,h4,h0,A7 h0,c4,c2,h1,hc,gL,r3,q3,r4,w4,r5,w5,w1,d1,d2,hh,hw,Yk,length_map,A0]
    rfl
   | some s' =>
    rw [hm,Cq] at hw
    rw [Cq]
    simp only [Jg,go_sem,↓reduceIte,h5,c0,h3,r1,g1,h4,h0,A7 h0,c4,c2,h1,hc,gL,r3,q3,r4,w4,r5,w5,w1,d1,d2,hh,hw,Yk,length_map,A0]
end
def grH (s:A6):VH:=[some ⟨Af,0,0,false,[[.nl,.nl,.nl]]⟩,some ⟨Af,0,0,false,[Je s]⟩]
section
variable {V:At} (C:Aq V) {Q:VV->Prop}
include C
theorem Cb (t:A1) (ht:A5 t) (m:List U8) (hl:m.length<=100) (hm:∀ x∈m,x.n < 256):VP V Pe [vT t,lU m,.b false] Q↔Q (Dy (BH t m (m.length / 2))):=by
 refine Ae ?_
 rw [Ad C.c_z14.1 C.c_z14.2]
 simp only [A3k,go_sem,↓reduceIte,Kj C t ht]
 unfold VL
 rw [A0]
 refine AT (M:=Nat) (I:=fun k F h=>2 * k<=m.length/\A4.tmp F 1=lU m/\A4.tmp F 2 = .b false/\A4.tmp F 3 = .fp (eT t) 0/\A4.tmp F 6 = .p 0 0 0 0/\A4.tmp F 7 = .p 1 0 0 0/\A4.tmp F 8 = .i .i64 ((2 * k:Nat):Int)/\h=grH (BH t m k)) (μ:=fun k=>m.length - 2 * k) ?_ 0 _ _ ⟨by omega,?_,?_,?_,?_,?_,?_,?_⟩
 .rintro k F h ⟨hk,p1,p2,p3,p6,p7,p8,rfl⟩
  have w1:IntKind.i64.wrap (((2 * k:Nat):Int)+1)=((2 * k+1:Nat):Int):=by rw [Az (by omega) (by omega)];omega
  have w2:IntKind.i64.wrap (((2 * k:Nat):Int)+2)=((2 * (k+1):Nat):Int):=by rw [Az (by omega) (by omega)];omega
  by_cases c:2 * k+1 < m.length
  .have ci:decide (((2 * k+1:Nat):Int) < (m.length:Int))=true:=decide_eq_true (by omega)
   have c0:2 * k < m.length:=by omega
   have g0:=AjZ c0
   have g1:=AjZ c
   have b0:=A6C hm (2 * k)
   have b1:=A6C hm (2 * k+1)
   have v0:IntKind.i64.wrap ((KU m (2 * k):Nat):Int)=((KU m (2 * k):Nat):Int):=Az (by omega) (by omega)
   have v1:IntKind.i64.wrap ((KU m (2 * k+1):Nat):Int)=((KU m (2 * k+1):Nat):Int):=Az (by omega) (by omega)
   have hn:=fun (Q:VV->Prop)=>XN C t ht (BH t m k) (Ec ht m k) (by omega) _ _ b0 b1 (Q:=Q)
   cases e:Gk t (BH t m k) (KU m (2 * k)) (KU m (2 * k+1)) with
   | none =>
    rw [e,CP] at hn
    simp only [Mk,go_sem,↓reduceIte,p1,p2,p3,p6,p7,p8,w1,w2,ci,c0,c,g0,g1,v0,v1,hn,grH,Yk,A0]
    exact ⟨k+1,by omega,by omega,by rw [J5 e];exact ⟨rfl,rfl⟩⟩
   | some s' =>
    rw [e,Cq] at hn
    simp only [Mk,go_sem,↓reduceIte,p1,p2,p3,p6,p7,p8,w1,w2,ci,c0,c,g0,g1,v0,v1,hn,grH,A0]
    exact ⟨k+1,by omega,by omega,by rw [J6 e];exact ⟨rfl,rfl⟩⟩
  .have ci:decide (2 * k+1 < m.length)=false:=decide_eq_false (by omega)
   have e:k=m.length / 2:=by omega
   simp only [Mk,go_sem,↓reduceIte,p1,p2,p3,p6,p7,p8,w1,w2,ci,grH,A0]
   rw [e]
 .simp only [go_sem,↓reduceIte]
 .simp only [go_sem,↓reduceIte]
 .simp only [go_sem,↓reduceIte]
 .simp only [go_sem,↓reduceIte]
 .simp only [go_sem,↓reduceIte]
 .simp only [go_sem,↓reduceIte]
 .rfl
end
end Go.AM
