/-
  Own work, part of the proof of these laws: what functions compute.
-/
import Derived.Test.YtpnaenhghnkggaaGreatDoorKF
set_option maxRecDepth 10000
set_option maxHeartbeats 64000000
set_option linter.unusedVariables false
set_option linter.unusedSimpArgs false
set_option linter.unusedSectionVars false
set_option linter.unnecessarySimpa false
open List (length_map length_append length_take take_of_length_le take_length map_append length_drop)
namespace Go.AM
open Go Go.Proofs
abbrev Yv (n:Az) (p:Int):List VV:=[.i .i64 n.thread,.i .i64 n.up,.i .i64 n.kind,.i .i64 n.loc,.i .i64 n.mode,.i .i64 n.val,.b n.rmw,.b n.fin,lI n.regs,.i .i64 p]
section
variable {V:Ae} (C:Ai V) {Q:VV->Prop}
include C
theorem QT (n:Az) (p:Int):VP V WX [.ag (Yv n p)] Q↔Q (.b (decide (n.kind=2) || decide (n.kind=3))):=by
 refine Ad ?_
 rw [Ab C.c_z212.1 C.c_z212.2]
 cases c:decide (n.kind=2)<;>simp only [A1R,go_sem,↓reduceIte,c,Bool.true_or,Bool.false_or]
theorem SK (a b:Az) (p q:Int):VP V WY [.ag (Yv a p),.ag (Yv b q)] Q↔Q (.b (decide (p < q))):=by
 refine Ad ?_
 rw [Ab C.c_z213.1 C.c_z213.2]
 simp only [A1S,go_sem,↓reduceIte]
theorem Yt (a b:Az) (p q:Int):VP V WZ [.ag (Yv a p),.ag (Yv b q)] Q↔Q (.b (decide (p<=q))):=by
 refine Ad ?_
 rw [Ab C.c_z214.1 C.c_z214.2]
 simp only [A1T,go_sem,↓reduceIte]
theorem MI (a b:Az) (pa pb:Int):VP V Wx [vN a,vN b,.i .i64 pa,.i .i64 pb] Q↔Q (.b (E8 a b pa pb)):=by
 refine Ad ?_
 rw [Ab C.c_z175.1 C.c_z175.2]
 have a1:=fun (n:Az) (p:Int) (Q:VV->Prop)=>QT C n p (Q:=Q)
 have h0:E8 a b pa pb=((!(decide (a.kind=2) || decide (a.kind=3)) || !(decide (b.kind=2) || decide (b.kind=3)) || !decide (a.loc=b.loc)) || (bif decide (b.kind=2) then decide (pa<=pb) else decide (pa < pb))):=by
  unfold E8
  by_cases c:b.kind=2<;>simp [c]
 rw [h0]
 cases c1:(decide (a.kind=2) || decide (a.kind=3)) with
 | false =>
  simp only [KD,go_sem,↓reduceIte,a1,c1,Bool.not_false,Bool.true_or]
 | true =>
 cases c2:(decide (b.kind=2) || decide (b.kind=3)) with
 | false =>
  simp only [KD,go_sem,↓reduceIte,a1,c1,c2,Bool.not_false,Bool.true_or,Bool.not_true,Bool.false_or]
 | true =>
 cases c3:decide (a.loc=b.loc) with
 | false =>
  simp only [KD,go_sem,↓reduceIte,a1,c1,c2,c3,Bool.not_false,Bool.true_or,Bool.not_true,Bool.false_or]
 | true =>
 cases c4:decide (b.kind=2) with
 | false =>
  have c5:decide (b.kind=3)=true:=by rw [c4] at c2;simpa using c2
  simp only [KD,go_sem,↓reduceIte,a1,c1,c2,c3,c4,c5,SK C,Bool.not_true,Bool.false_or,cond_false]
 | true =>
  simp only [KD,go_sem,↓reduceIte,a1,c1,c2,c3,c4,Yt C,Bool.not_true,Bool.false_or,cond_true]
theorem SL (P:Nat->Prop) (t:A1) (ht:A5 t) (r:Rows) (hr:∀ x∈Bc r,∃ a b:Nat,a < t.nodes.length/\b < t.nodes.length/\P a/\P b/\x=((a:Int),(b:Int))) (hl:(Bc r).length<=5000) {g:Nat} {c:List VV} (hc:Fz c) (pl:Int->Int)
  (hg:∀ (n:Nat),n < t.nodes.length->P n->∀ Q:VV->Prop,VP V g ([VV.i .i64 n]++c) Q↔Q (.i .i64 (pl n))) :
  VP V VK [vT t,lW r,.f g [] c] Q↔Q (.b ((Bc r).all fun x=>E8 (t.at x.1.toNat) (t.at x.2.toNat) (pl x.1) (pl x.2))):=by
 refine Ad ?_
 rw [Ab C.c_z113.1 C.c_z113.2]
 have h2:CA 0 c=true:=Js (hc [] 5) (fun v e=>A40 e)
 have h0:∀ h,Bk (frz h 8) c=some (c,[]):=fun h=>hc h 5
 have h3:∀ h,Bk (frz h 7) c=some (c,[]):=fun h=>hc h 4
 simp only [A0T,go_sem,↓reduceIte,N0 C,h3]
 refine Ac (by decide) (Bc r).length (by omega) (I:=fun k F h=>A2.tmp F 2 = .f g [] c/\A2.tmp F 3 = .fp (eT t) 0/\A2.tmp F 10=lP (Bc r)/\h=[]/\∀ x∈(Bc r).take k,E8 (t.at x.1.toNat) (t.at x.2.toNat) (pl x.1) (pl x.2)=true) ?_ ?_ 0 _ _ (by omega) ?_ ?_ ?_
 .rintro k F h hk h5 h4 ⟨p2,p3,h1,rfl,pr⟩
  obtain ⟨a,b,ha,hb,h6,h7,e⟩:=hr _ (List.getElem_mem hk)
  have BW:(Bc r)[k]? = some ((a:Int),(b:Int)):=by rw [List.getElem?_eq_getElem hk,e]
  have ga:=fun (Q:VV->Prop)=>hg a ha h6 Q
  have gb:=fun (Q:VV->Prop)=>hg b hb h7 Q
  simp only [List.cons_append,List.nil_append] at ga gb
  cases c1:E8 (t.at a) (t.at b) (pl a) (pl b) with
  | true =>
   simp only [go_sem,↓reduceIte,h5,h4,p2,p3,h1,BW,hk,A6 ha,A6 hb,ga,gb,MI C,c1,A0,h3,h0,h2]
   intro x hx
   rw [List.take_succ_eq_append_getElem hk] at hx
   rcases List.mem_append.1 hx with hx | hx
   .exact pr x hx
   .rw [List.mem_singleton.1 hx,e];exact c1
  | false =>
   have e:((Bc r).all fun x=>E8 (t.at x.1.toNat) (t.at x.2.toNat) (pl x.1) (pl x.2))=false:=by
    rw [List.all_eq_false]
    exact ⟨_,List.getElem_mem hk,by rw [e,Int.toNat_natCast,Int.toNat_natCast,c1];simp⟩
   simp only [go_sem,↓reduceIte,h5,h4,p2,p3,h1,BW,hk,A6 ha,A6 hb,ga,gb,MI C,c1,A0,e,h3,h0]
 .rintro F h ⟨p2,p3,h1,rfl,pr⟩
  rw [take_length] at pr
  have e:((Bc r).all fun x=>E8 (t.at x.1.toNat) (t.at x.2.toNat) (pl x.1) (pl x.2))=true:=by rw [List.all_eq_true];exact pr
  simp only [go_sem,↓reduceIte,p2,p3,h1,e]
 .simp only [go_sem,↓reduceIte]
 .simp only [go_sem,↓reduceIte]
 .simp only [go_sem,↓reduceIte]
end
def J4 (ty e:Nat) (rows:List (List VV)):VO:=if rows.length=0 then KS else { ty:=ty,esz:=e,ver:=0,nl:=false,rows:=rows }
def stJ (t:A1) (k:Nat):List Int:=List.replicate (DH t k).length (-1)
theorem Ajz {t:A1} {k:Nat} (h:decide ((t.at k).up < 0)=true):stJ t (k+1)=stJ t k++[-1]:=by
 unfold stJ
 rw [A5V h,length_append,List.length_singleton,List.replicate_succ']
theorem Ajy {t:A1} {k:Nat} (h:decide ((t.at k).up < 0)=false):stJ t (k+1)=stJ t k:=by unfold stJ;rw [A5U h]
theorem Adt {t:A1} (k:Nat):(stJ t k).length<=k:=by unfold stJ;rw [List.length_replicate];exact Mx k
def GW (k:Nat):List (List (List Int)):=(List.range k).map fun (i:Nat)=>[[(i:Int)]]
theorem A7k (k:Nat):GW (k+1)=GW k++[[[(k:Int)]]]:=by
 unfold GW
 rw [List.range_succ,map_append];rfl
theorem Aau (k:Nat):(GW k).length=k:=by simp [GW]
def sTh (t:A1) (k j:Nat):VH:=[some ⟨BE,0,0,false,[[.nl,.nl,.nl]]⟩,some (AL Bg 1 ((DH t k).map eI)),some (AL Bg 1 ((stJ t k).map eI)),some (AL Dg 1 ((GW j).map ES)),
 some ⟨BE,0,0,false,[[.sl 1 (DH t k).length 0 (DH t k).length,.sl 2 (stJ t k).length 0 (stJ t k).length,.sl 3 (GW j).length 0 (GW j).length]]⟩]
theorem A35 (ty:Nat) (L:List (List Int)) (c:List Int):({ ty:=ty,esz:=1,ver:=L.length+1,nl:=false,rows:=L.map M5++[[VV.ls (c.map eI)]] }:VO)=AL ty 1 ((L++[c]).map M5):=by
 rw [map_append]
 unfold AL
 rw [if_neg (by simp),length_append,length_map];rfl
theorem Ads (ty:Nat) (L:List (List (List Int))) (c:List (List Int)):({ ty:=ty,esz:=1,ver:=L.length+1,nl:=false,rows:=L.map ES++[[VV.ls (c.map M5)]] }:VO)=AL ty 1 ((L++[c]).map ES):=by
 rw [map_append]
 unfold AL
 rw [if_neg (by simp),length_append,length_map];rfl
def cpH (s:A8) (L:List (List (List Int))):VH:=[some ⟨BE,0,0,false,[[.nl,.nl,.nl]]⟩,some (cpO Bg 1 (s.has.map eI)),some (cpO Bg 1 (s.jf.map eI)),
 some ⟨BE,0,0,false,[[.sl 1 (cpV s.has.length) 0 s.has.length,.sl 2 (cpV s.jf.length) 0 s.jf.length,.sl 4 L.length 0 L.length]]⟩,some (AL Dg 1 (L.map ES))]
section
variable {V:Ae} (C:Ai V) {Q:VV->Prop}
include C
theorem Rc (t:A1) (ht:A5 t):VP V A59 [vT t] Q↔Q (LX (AP t)):=by
 refine Ad ?_
 rw [Ab C.c_z29.1 C.c_z29.2]
 have h1:=ht.n64
 have h2:=ht.l4
 simp only [A8K,go_sem,↓reduceIte]
 refine Al (by decide) t.nodes.length (by omega) (I:=fun k F h=>A2.tmp F 1 = .fp (eT t) 0/\A2.tmp F 2 = .p 0 0 0 0/\A2.tmp F 3 = .p 4 0 0 0/\h=sTh t k 0) ?_ ?_ ?_ 0 _ _ (Nat.zero_le _) ?_ ?_
 .rintro k F h hk p4 ⟨p1,p2,p3,rfl⟩
  simp only [go_sem,↓reduceIte,p4,p1,p2,p3]
 .rintro k F h hk p4 ⟨p1,p2,p3,rfl⟩
  have h0:=Mx (t:=t) k
  cases c:decide ((t.at k).up < 0) with
  | true =>
   have b1:((DH t k).length+1) * 8<=A9:=by unfold A9;omega
   have hj:=Adt (t:=t) k
   have b2:((stJ t k).length+1) * 8<=A9:=by unfold A9;omega
   simp only [go_sem,↓reduceIte,p4,p1,p2,p3,hk,A6 hk,c,sTh,A5V c,Ajz c,A0,b1,b2,length_map,length_append]
  | false =>
   simp only [go_sem,↓reduceIte,p4,p1,p2,p3,hk,A6 hk,c,sTh,A5U c,Ajy c,A0]
 .rintro F h ⟨p1,p2,p3,rfl⟩
  simp only [go_sem,↓reduceIte,p1,p2,p3]
  refine Al (by decide) t.locs.length (by omega) (I:=fun j F h=>A2.tmp F 1 = .fp (eT t) 0/\A2.tmp F 2 = .p 0 0 0 0/\A2.tmp F 3 = .p 4 0 0 0/\h=sTh t t.nodes.length j) ?_ ?_ ?_ 0 _ _ (Nat.zero_le _) ?_ ?_
  .rintro k F h hk p5 ⟨p1,p2,p3,rfl⟩
   simp only [go_sem,↓reduceIte,p5,p1,p2,p3]
  .rintro k F h hk p5 ⟨p1,p2,p3,rfl⟩
   have hm:=Aau k
   have b1:((GW k).length+1) * 24<=A9:=by unfold A9;omega
   simp only [go_sem,↓reduceIte,p5,p1,p2,p3,hk,sTh,A7k,A0,b1,length_map,length_append]
   have e:List.map ES (GW k++[[[(k:Int)]]])=List.map ES (GW k)++[[VV.ls [[VV.ls [[VV.i IntKind.i64 (k:Int)]]]]]]:=by rw [map_append];rfl
   have e2:({ ty:=Dg,esz:=1,ver:=(GW k).length+1,nl:=false,rows:=List.map ES (GW k)++[[VV.ls [[VV.ls [[VV.i IntKind.i64 (k:Int)]]]]]] }:VO)=AL Dg 1 (List.map ES (GW k++[[[(k:Int)]]])):=by
    rw [e]
    unfold AL
    rw [if_neg (by simp),length_append,length_map];rfl
   rw [e2]
   refine ⟨.inr ?_,rfl⟩
   rw [List.all_append,Bool.and_eq_true]
   exact ⟨GG (fun _=>rfl),rfl⟩
  .rintro F h ⟨p1,p2,p3,rfl⟩
   simp only [go_sem,↓reduceIte,p1,p2,p3,sTh]
   rfl
  .simp only [go_sem,↓reduceIte]
  .simp only [go_sem,↓reduceIte,p1,p2,p3]
 .simp only [go_sem,↓reduceIte]
 .simp only [go_sem,↓reduceIte]
  rfl
theorem Kr (s:A8) (hs:KZ s) (b:Nat) {Q:VV->VH->Prop}:VP1 V KP [LX s] b Q↔Q (.ag [.sl b 0 0 s.has.length,.sl (b+1) 0 0 s.jf.length,.sl (b+1+1) 0 0 s.mo.length]) [some ⟨Bg,1,0,false,s.has.map eI⟩,some ⟨Bg,1,0,false,s.jf.map eI⟩,some (J4 Dg 1 (s.mo.map ES))]:=by
 refine M0 ?_
 rw [M1 C.c_z200.2]
 have h1:=hs.has
 have h2:=hs.jf
 have h3:=hs.mo
 have b1:s.has.length * 8<=A9:=by unfold A9;omega
 have b2:s.jf.length * 8<=A9:=by unfold A9;omega
 simp only [Pl,go_sem,↓reduceIte,b1,b2]
 refine Al (by decide) s.mo.length (by omega) (I:=fun k F h=>A2.tmp F 1 = .fp (XV s) 0/\A2.tmp F 2 = .p 0 0 0 0/\A2.tmp F 3 = .p 3 0 0 0/\∃ L,L=s.mo.take k/\h=cpH s L) ?_ ?_ ?_ 0 _ _ (Nat.zero_le _) ?_ ?_
 .rintro k F h hk p4 ⟨p1,p2,p3,L,hL,rfl⟩
  simp only [go_sem,↓reduceIte,p4,p1,p2,p3]
  exact ⟨L,hL,rfl⟩
 .rintro k F h hk p4 ⟨p1,p2,p3,L,hL,rfl⟩
  have hm:=hs.mi' k
  simp only [go_sem,↓reduceIte,p4,p1,p2,p3,A0,cpH]
  refine Al (by decide) (s.mo.getD k []).length (by omega) (I:=fun j F h=>A2.tmp F 4 = .i .i64 k/\A2.tmp F 1 = .fp (XV s) 0/\A2.tmp F 2 = .p 0 0 0 0/\A2.tmp F 3 = .p 3 0 0 0/\∃ K,K=(s.mo.getD k []).take j/\A2.tmp F 5 = .sl 5 K.length 0 K.length/\h=cpH s L++[some (AL Sz 1 (K.map M5))]) ?_ ?_ ?_ 0 _ _ (Nat.zero_le _) ?_ ?_
  .rintro j F h hj q6 ⟨q4,q1,q2,q3,K,hK,q5,rfl⟩
   simp only [go_sem,↓reduceIte,q6,q4,q1,q2,q3,q5,Cx hk]
   exact ⟨K,hK,rfl,rfl⟩
  .rintro j F h hj q6 ⟨q4,q1,q2,q3,K,hK,q5,rfl⟩
   have h0:(s.mo.getD k []).take (j+1)=K++[(s.mo.getD k []).getD j []]:=by
    rw [List.take_succ_eq_append_getElem hj,hK,List.getD_eq_getElem?_getD (l:=s.mo.getD k []),List.getElem?_eq_getElem hj];rfl
   have hc:=hs.mc' k j
   have hl:K.length=j:=by rw [hK,length_take];omega
   have b3:((s.mo.getD k []).getD j []).length * 8<=A9:=by unfold A9;omega
   have b4:(K.length+1) * 24<=A9:=by unfold A9;omega
   simp only [go_sem,↓reduceIte,q6,q4,q1,q2,q3,q5,Cx hk,Ep hj,hk,hj,b3,b4,cpH,A35,A0,length_append,length_map]
   exact ⟨K++[(s.mo.getD k []).getD j []],h0.symm,by simp,rfl⟩
  .rintro F h ⟨q4,q1,q2,q3,K,hK,q5,rfl⟩
   rw [take_length] at hK
   subst hK
   have h0:s.mo.take (k+1)=L++[s.mo.getD k []]:=by
    rw [List.take_succ_eq_append_getElem hk,hL,List.getD_eq_getElem?_getD,List.getElem?_eq_getElem hk];rfl
   have hl:L.length=k:=by rw [hL,length_take];omega
   have b4:(L.length+1) * 24<=A9:=by unfold A9;omega
   simp only [go_sem,↓reduceIte,q4,q1,q2,q3,q5,b4,cpH,Ads,length_append,length_map]
   exact ⟨L++[s.mo.getD k []],h0.symm,by simp⟩
  .simp only [go_sem,↓reduceIte]
  .simp only [go_sem,↓reduceIte,p4,p1,p2,p3,cpH]
   exact ⟨[],rfl,rfl,rfl⟩
 .rintro F h ⟨p1,p2,p3,L,hL,rfl⟩
  rw [take_length] at hL
  subst hL
  simp only [go_sem,↓reduceIte,p1,p2,p3,cpH,Bo,Bo.takeL]
  refine ⟨by decide,?_⟩
  unfold AL J4
  split<;>simp_all [KS]
 .simp only [go_sem,↓reduceIte]
 .simp only [go_sem,↓reduceIte]
  exact ⟨[],rfl,rfl⟩
end
def noS:A8:=⟨[],[],[]⟩
def LM (o:Option A8):VV:=match o with
 | some s=>.tu [LX s,.b true]
 | none=>.tu [LX noS,.b false]
def CL (t:A1) (s:A8) (n kind w:Int):Option A8:=if Cz t s n kind=true then some (C2 s n w) else none
theorem YQ {l:List Int} {n:Int} {i:Nat} (h:i<=Bn l n):(i < l.length/\l.getD i 0 < n)↔i < Bn l n:=by
 constructor
 .rintro ⟨h1,h2⟩
  rcases Nat.lt_or_ge i (Bn l n) with c | c
  .exact c
  .have e:i=Bn l n:=by omega
   subst e
   exact absurd h2 (Ac8 h1)
 .intro h2
  exact ⟨by have:=Du l n;omega,Th h2⟩
theorem Lb {ty e:Nat} {rows:List (List VV)}:(J4 ty e rows).ver=0:=by unfold J4;split<;>rfl
theorem JO {ty e:Nat} {rows:List (List VV)}:(J4 ty e rows).rows=rows:=by
 unfold J4;split
 .rename_i h;rw [List.length_eq_zero_iff.1 h];rfl
 .rfl
theorem La {ty:Nat} {rows:List (List VV)}:(decide (0 < (J4 ty 1 rows).esz) || (J4 ty 1 rows).nl)=true:=by unfold J4;split<;>rfl
def moH (s:A8):VH:=[some ⟨BE,0,0,false,[[.nl,.nl,.nl]]⟩,some ⟨Bg,1,0,false,s.has.map eI⟩,some ⟨Bg,1,0,false,s.jf.map eI⟩,some (J4 Dg 1 (s.mo.map ES)),some ⟨BE,0,0,false,[[.sl 1 0 0 s.has.length,.sl 2 0 0 s.jf.length,.sl 3 0 0 s.mo.length]]⟩]
section
variable {V:Ae} (C:Ai V) {Q:VV->Prop}
include C
theorem LG (t:A1) (ht:A5 t) (s:A8) (hs:KZ s) (n kind w:Int):VP V HL [vT t,LX s,.i .i64 n,.i .i64 kind,.i .i64 w] Q↔Q (LM (CL t s n kind w)):=by
 refine Ad ?_
 rw [Ab C.c_z149.1 C.c_z149.2]
 have h6:=fun (Q:VV->Prop)=>EX C t ht s hs (Q:=Q)
 have h8:Cz t s n kind=false->LM (CL t s n kind w) = .tu [LX noS,.b false]:=fun h=>by rw [CL,h];rfl
 have e0:(VV.tu [LX noS,.b false]) = .tu [.ag [.ls [],.ls [],.ls []],.b false]:=rfl
 have q2:=hs.has
 cases hf:BJ t s with
 | false =>
  rw [h8 (by rw [Cz,hf];rfl),e0]
  simp only [Dn,go_sem,↓reduceIte,h6,hf]
 | true =>
 cases h1:BF t n with
 | false =>
  rw [h8 (by rw [Cz,hf,h1];rfl),e0]
  simp only [Dn,go_sem,↓reduceIte,h6,hf,AC C,h1]
 | true =>
 obtain ⟨m,rfl,hm⟩:=Aa h1
 cases h2:decide ((t.at m).kind=kind) with
 | false =>
  rw [h8 (by rw [Cz,hf,h1,Int.toNat_natCast,h2];rfl),e0]
  simp only [Dn,go_sem,↓reduceIte,h6,hf,AC C,h1,A6 hm,h2]
 | true =>
 have w1:=Kb s.has (m:Int)
 cases h3:AZ s.has (m:Int) with
 | true =>
  rw [h8 (by rw [Cz,hf,h1,Int.toNat_natCast,h2,h3];rfl),e0]
  rw [h3] at w1
  simp only [Dn,go_sem,↓reduceIte,h6,hf,AC C,h1,A6 hm,h2,AA C s.has (by omega),w1]
 | false =>
 rw [h3] at w1
 have w2:=CZ s.has (t.at m).up
 cases h4:AZ s.has (t.at m).up with
 | false =>
  rw [h8 (by rw [Cz,hf,h1,Int.toNat_natCast,h2,h3,h4];rfl),e0]
  rw [h4] at w2
  simp only [Dn,go_sem,↓reduceIte,h6,hf,AC C,h1,A6 hm,h2,AA C s.has (by omega),w1,w2]
 | true =>
 rw [h4] at w2
 have hu:CL t s m kind w=some (C2 s m w):=by rw [CL,Cz,hf,h1,Int.toNat_natCast,h2,h3,h4];rfl
 rw [hu]
 have hr:=fun (b:Nat) (Q:VV->VH->Prop)=>Kr C s hs b (Q:=Q)
 simp only [Dn,go_sem,↓reduceIte,h6,hf,AC C,h1,A6 hm,h2,AA C s.has (by omega),w1,w2,hr]
 unfold VL
 rw [A0]
 have q0:s.jf.length=s.has.length:=by simp only [BJ,Bool.and_eq_true,decide_eq_true_eq] at hf;exact hf.1.1.1.1.2
 refine AU (M:=Nat) (I:=fun i F h=>i<=Bn s.has m/\A2.tmp F 2 = .i .i64 m/\A2.tmp F 4 = .i .i64 w/\A2.tmp F 6 = .fp (XV s) 0/\A2.tmp F 10 = .p 0 0 0 0/\A2.tmp F 12 = .p 4 0 0 0/\A2.tmp F 13 = .i .i64 i/\h=moH s) (μ:=fun i=>s.has.length - i) ?_ 0 _ _ ⟨Nat.zero_le _,?_,?_,?_,?_,?_,?_,rfl⟩
 .rintro i F h ⟨hi,p2,p4,p6,hl,hn,ho,rfl⟩
  have hj:=YQ hi
  have q1:=Du s.has m
  by_cases c:i < s.has.length
  .cases c2:decide (s.has.getD i 0 < (m:Int)) with
   | true =>
    have he:=of_decide_eq_true c2
    have q3:=hj.1 ⟨c,he⟩
    have hw:IntKind.i64.wrap ((i:Int)+1)=((i+1:Nat):Int):=by rw [AR (by omega) (by omega)];omega
    simp only [HI,go_sem,↓reduceIte,p2,p4,p6,hl,hn,ho,c,Ar c,c2,A0,hw]
    exact ⟨i+1,by omega,by omega,rfl,rfl,rfl⟩
   | false =>
    have he:=of_decide_eq_false c2
    have e:i=Bn s.has m:=by
     rcases Nat.lt_or_ge i (Bn s.has m) with h | h
     .exact absurd (Th h) he
     .omega
    obtain ⟨A,hA⟩:∃ A,A=s.has.take i:=⟨_,rfl⟩
    obtain ⟨B,hB⟩:∃ B,B=s.has.drop i:=⟨_,rfl⟩
    obtain ⟨A',h0⟩:∃ A,A=s.jf.take i:=⟨_,rfl⟩
    obtain ⟨B',h5⟩:∃ B,B=s.jf.drop i:=⟨_,rfl⟩
    have lA:A.length=i:=by rw [hA,length_take];omega
    have hx:A'.length=i:=by rw [h0,length_take];omega
    have lB:B.length=s.has.length - i:=by rw [hB,length_drop]
    have hk:B'.length=s.jf.length - i:=by rw [h5,length_drop]
    have tB:List.take (s.has.length - i) B=B:=take_of_length_le (by omega)
    have hq:List.take (s.jf.length - i) B' = B':=take_of_length_le (by omega)
    have c1:i<=s.has.length:=by omega
    have hd:i<=s.jf.length:=by omega
    have b1:A.length * 8<=A9:=by unfold A9;omega
    have ha:A'.length * 8<=A9:=by unfold A9;omega
    have b2:(A.length+1) * 8<=A9:=by unfold A9;omega
    have hb:(A'.length+1) * 8<=A9:=by unfold A9;omega
    obtain ⟨b0,Bs,rfl⟩:∃ b0 Bs,B=b0::Bs:=by
     cases B with
     | nil=>simp at lB;omega
     | cons b0 Bs=>exact ⟨b0,Bs,rfl⟩
    obtain ⟨h9,h7,rfl⟩:∃ b0 Bs,B' = b0::Bs:=by
     cases B' with
     | nil=>simp at hk;omega
     | cons b0 Bs=>exact ⟨b0,Bs,rfl⟩
    rw [List.length_cons] at lB hk
    have hz:List.take (s.has.length - i) (eI b0::List.map eI Bs)=eI b0::List.map eI Bs:=take_of_length_le (by simp;omega)
    have hp:List.take (s.jf.length - i) (eI h9::List.map eI h7)=eI h9::List.map eI h7:=take_of_length_le (by simp;omega)
    obtain ⟨X,hX⟩:∃ X,X=A++[(m:Int)]++b0::Bs:=⟨_,rfl⟩
    obtain ⟨X',hh⟩:∃ X,X=A'++[w]++h9::h7:=⟨_,rfl⟩
    have jX:List.map eI (A++[(m:Int)])++eI b0::List.map eI Bs=List.map eI X:=by rw [hX,map_append (l₁:=A++[(m:Int)])];rfl
    have hv:List.map eI (A'++[w])++eI h9::List.map eI h7 = List.map eI X':=by rw [hh,map_append (l₁:=A'++[w])];rfl
    have lX:A.length+1+(Bs.length+1)=X.length:=by rw [hX];simp;omega
    have hy:A'.length+1+(h7.length+1)=X'.length:=by rw [hh];simp;omega
    have b3:X.length * 8<=A9:=by unfold A9;omega
    have hc:X'.length * 8<=A9:=by unfold A9;omega
    have eX:X=B9 s.has (Bn s.has m) m:=by rw [hX,B9,<- e,<- hA,<- hB];simp
    have hg:X' = B9 s.jf (Bn s.has m) w:=by rw [hh,B9,<- e,<- h0,<- h5];simp
    simp only [HI,go_sem,↓reduceIte,p2,p4,p6,hl,hn,ho,c,Ar c,c2,A0,moH,<- hA,<- hB,<- h0,<- h5,hz,hp,c1,hd,b1,ha,b2,hb,b3,hc,length_append,length_map,Lb,JO,La,jX,hv,lX,hy]
    rw [eX,hg];rfl
  .have e:i=Bn s.has m:=by omega
   obtain ⟨A,hA⟩:∃ A,A=s.has.take i:=⟨_,rfl⟩
   obtain ⟨B,hB⟩:∃ B,B=s.has.drop i:=⟨_,rfl⟩
   obtain ⟨A',h0⟩:∃ A,A=s.jf.take i:=⟨_,rfl⟩
   obtain ⟨B',h5⟩:∃ B,B=s.jf.drop i:=⟨_,rfl⟩
   have lA:A.length=i:=by rw [hA,length_take];omega
   have hx:A'.length=i:=by rw [h0,length_take];omega
   have lB:B.length=s.has.length - i:=by rw [hB,length_drop]
   have hk:B'.length=s.jf.length - i:=by rw [h5,length_drop]
   have tB:List.take (s.has.length - i) B=B:=take_of_length_le (by omega)
   have hq:List.take (s.jf.length - i) B' = B':=take_of_length_le (by omega)
   have c1:i<=s.has.length:=by omega
   have hd:i<=s.jf.length:=by omega
   have b1:A.length * 8<=A9:=by unfold A9;omega
   have ha:A'.length * 8<=A9:=by unfold A9;omega
   have b2:(A.length+1) * 8<=A9:=by unfold A9;omega
   have hb:(A'.length+1) * 8<=A9:=by unfold A9;omega
   obtain rfl:B=[]:=List.length_eq_zero_iff.1 (by omega)
   obtain rfl:B' = []:=List.length_eq_zero_iff.1 (by omega)
   have b3:(A.length+1+0) * 8<=A9:=by unfold A9;omega
   have hc:(A'.length+1+0) * 8<=A9:=by unfold A9;omega
   simp only [HI,go_sem,↓reduceIte,p2,p4,p6,hl,hn,ho,c,A0,moH,<- hA,<- hB,<- h0,<- h5,tB,hq,c1,hd,b1,ha,b2,hb,b3,hc,length_append,length_map,Lb,JO,La]
   have eX:A++[(m:Int)]=B9 s.has (Bn s.has m) m:=by rw [B9,<- e,<- hA,<- hB]
   have hg:A'++[w]=B9 s.jf (Bn s.has m) w:=by rw [B9,<- e,<- h0,<- h5]
   rw [eX,hg];rfl
 .simp only [go_sem,↓reduceIte]
 .simp only [go_sem,↓reduceIte]
 .simp only [go_sem,↓reduceIte]
 .simp only [go_sem,↓reduceIte]
 .simp only [go_sem,↓reduceIte]
 .simp only [go_sem,↓reduceIte]
end
end Go.AM
