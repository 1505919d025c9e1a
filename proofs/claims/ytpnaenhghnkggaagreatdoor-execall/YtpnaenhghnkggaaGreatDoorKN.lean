/-
  Own work, part of the proof of these laws: what functions compute.
-/
import Derived.Test.YtpnaenhghnkggaaGreatDoorKL
import Derived.Test.YtpnaenhghnkggaaGreatDoorKG
set_option maxRecDepth 10000
set_option maxHeartbeats 64000000
set_option linter.unusedVariables false
set_option linter.unusedSimpArgs false
set_option linter.unusedSectionVars false
set_option linter.unnecessarySimpa false
open Bool (and_eq_true)
open Int (toNat_natCast)
open Nat (zero_le lt_or_ge)
namespace Go.AM
open Go Go.Proofs
def Ais(s:A8):AF:=⟨s.has,s.jf,s.mo.map fun l=>l.flatten⟩
def Do(t:A2)(loc:Nat)(n:Int):Bool:=decide ((t.at n.toNat).kind=3)&&decide ((t.at n.toNat).loc=loc)
def U6(t:A2)(has:List Int)(loc:Nat):Nat->BitVec 64
 |0=>0#64
 |k+1=>if Do t loc (has.getD k 0)=true then U6 t has loc k|||BC (has.getD k 0)else U6 t has loc k
def Jk(t:A2)(e:AF)(loc:Nat):Bool:=decide ((e.mo.getD loc []).length=(BP (U6 t e.has loc e.has.length)).length)&&decide (BI (e.mo.getD loc [])=U6 t e.has loc e.has.length)
def UA(t:A2)(e:AF):Bool:=decide (e.mo.length=t.locs.length)&&(List.range e.mo.length).all (Jk t e)
def Lb(t:A2)(e:AF):Bool:=Cb t e.has e.rf&&UA t e
def xPl(t:A2)(e:AF)(n:Int):Int:=if(t.at n.toNat).kind≠2/\(t.at n.toNat).kind≠3 then 0 else BH (e.mo.getD (t.at n.toNat).loc.toNat []) (if(t.at n.toNat).kind=2 then e.rf.getD (BH e.has n).toNat 0 else n)
def A1O(r:Rows):Bool:=(List.range r.length).all fun i=>!Bh (r.getD i 0#64) i
def Lg(t:A2)(e:AF):Bool:=Lb t e&&A1O (DP t e.has e.rf)&&(Bt (DP t e.has e.rf)).all fun x=>DW (t.at x.1.toNat) (t.at x.2.toNat) (xPl t e x.1) (xPl t e x.2)
structure JR(e:AF):Prop where
 has:e.has.length<=1000
 rf:e.rf.length<=1000
 mo:e.mo.length<=1000
 mi:∀l∈e.mo,l.length<=1000
theorem JR.mi'{e:AF}(h:JR e)(k:Nat):(e.mo.getD k []).length<=1000:=by
 by_cases c:k<e.mo.length
 .exact h.mi _ (Aa c)
 .rw[List.getD_eq_getElem?_getD,List.getElem?_eq_none (by omega)];simp
abbrev eRn(t:A2)(e:AF):List VV:=[.i .i64 t.vals,lS t.locs,.ls (t.regs.map J8),.ls (t.nodes.map eN),lI e.has,lI e.rf,.ls (e.mo.map EG)]
section
variable {V:Ai}(C:Am V){Q:VV->Prop}
include C
theorem Sq(t:A2)(ht:A7 t)(e:AF)(he:JR e)(hn:BF t e.has):VP V Yi [.ag (eRn t e)] Q↔Q (.b (UA t e)):=by
 refine Af ?_
 rw[Ad C.c_z173.1 C.c_z173.2]
 have g1:=he.has
 have g3:=he.mo
 unfold UA
 have ci:decide ((e.mo.length:Int)=(t.locs.length:Int))=decide (e.mo.length=t.locs.length):=decide_eq_decide.2 (by omega)
 cases c0:decide (e.mo.length=t.locs.length)with
 |false=>
  simp only[UT,go_sem,ci,c0,Bool.false_and]
 |true=>
 simp only[UT,go_sem,ci,c0,Bool.true_and]
 refine Aj (by decide) e.mo.length (by omega) (I:=fun k F h=>A3.tmp F 1=.fp (eRn t e) 0/\A3.tmp F 20=.ls (e.mo.map EG)/\h=[]/\∀j,j<k->Jk t e j=true) ?_ ?_ 0 _ _ (by omega) ?_ ?_ ?_
 .rintro k F h hk hf hd ⟨p1,h7,rfl,pr⟩
  have gL:=CT hk
  have hh:=he.mi' k
  obtain⟨M,hM⟩:∃M,M=e.mo.getD k []:=⟨_,rfl⟩
  have h0:=fun(w:BitVec 64) (Q:VV->Prop)=>Je C w (Q:=Q)
  rw[<- hM]at gL hh
  simp only[go_sem,hf,hd,p1,h7,gL,hk,A0]
  refine Aj (by decide) e.has.length (by omega) (I:=fun j F h=>A3.tmp F 22=.i .i64 k/\A3.tmp F 21=.i .i64 e.mo.length/\A3.tmp F 1=.fp (eRn t e) 0/\A3.tmp F 20=.ls (e.mo.map EG)/\A3.tmp F 3=.i .i64 k/\A3.tmp F 4=lI M/\A3.tmp F 29=lI e.has/\A3.tmp F 5=vW (U6 t e.has k j)/\h=[]) ?_ ?_ 0 _ _ (by omega) ?_ ?_ ?_
  .rintro j F h hj hc ha ⟨h3,h2,q1,h1,q3,q4,h8,q5,rfl⟩
   have gI:=Ak hj
   obtain⟨n,h5,h4⟩:=A9 (hn _ (Aa (d:=0) hj))
   rw[h5]at gI
   cases c1:decide ((t.at n).kind=3)with
   |false=>
    have hw:U6 t e.has k (j+1)=U6 t e.has k j:=by rw[U6,if_neg (by rw[Do,h5,toNat_natCast,c1];simp)]
    simp only[go_sem,hc,ha,h3,h2,q1,h1,q3,q4,h8,q5,gI,hj,h4,A5 h4,c1,hw,A0]
   |true=>
   cases c2:decide ((t.at n).loc=(k:Int))with
   |false=>
    have hw:U6 t e.has k (j+1)=U6 t e.has k j:=by rw[U6,if_neg (by rw[Do,h5,toNat_natCast,c1,c2];simp)]
    simp only[go_sem,hc,ha,h3,h2,q1,h1,q3,q4,h8,q5,gI,hj,h4,A5 h4,c1,c2,hw,A0]
   |true=>
    have hw:U6 t e.has k (j+1)=U6 t e.has k j|||BC (n:Int):=by rw[U6,if_pos (by rw[Do,h5,toNat_natCast,c1,c2];rfl),h5]
    simp only[go_sem,hc,ha,h3,h2,q1,h1,q3,q4,h8,q5,gI,hj,h4,A5 h4,c1,c2,hw,C5 C,A0]
  .rintro F h ⟨h3,h2,q1,h1,q3,q4,h8,q5,rfl⟩
   have h6:Jk t e k=(decide (M.length=(BP (U6 t e.has k e.has.length)).length)&&decide (BI M=U6 t e.has k e.has.length)):=by rw[Jk,hM]
   obtain⟨W,hW⟩:∃W,W=U6 t e.has k e.has.length:=⟨_,rfl⟩
   rw[<- hW]at q5 h6
   have h9:decide ((M.length:Int)=((BP W).length:Int))=decide (M.length=(BP W).length):=decide_eq_decide.2 (by omega)
   cases d1:decide (M.length=(BP W).length)with
   |false=>
    have hb:=AB (p:=Jk t e) hk (by rw[h6,d1];rfl)
    simp only[go_sem,h3,h2,q1,h1,q3,q4,q5,h0,h9,d1,hb]
   |true=>
   cases d2:decide (BI M=W)with
   |false=>
    have hb:=AB (p:=Jk t e) hk (by rw[h6,d1,d2];rfl)
    simp only[go_sem,h3,h2,q1,h1,q3,q4,q5,h0,h9,d1,D4 C M (by omega),d2,hb]
   |true=>
    have hg:Jk t e k=true:=by rw[h6,d1,d2];rfl
    simp only[go_sem,h3,h2,q1,h1,q3,q4,q5,h0,h9,d1,D4 C M (by omega),d2]
    intro j hj
    rcases lt_or_ge j k with c|c
    .exact pr j c
    .rw[show j=k by omega];exact hg
  .simp only[go_sem]
  .simp only[go_sem]
  .simp only[go_sem,hf,hd,p1,h7,U6]
 .rintro F h ⟨p1,h7,rfl,pr⟩
  have hb:=AD pr
  simp only[go_sem,p1,h7,hb]
 .simp only[go_sem]
 .simp only[go_sem]
 .simp only[go_sem]
  intro j hj;omega
theorem Mj(t:A2)(ht:A7 t)(e:AF)(he:JR e){n:Nat}(hn:n<t.nodes.length)(hk:(t.at n).kind=2\/(t.at n).kind=3)(hm:e.mo.length=t.locs.length)(hl:e.has.length=e.rf.length)(hh:(n:Int)∈e.has):VP V XL [.ag (eRn t e),.i .i64 n] Q↔Q (.i .i64 (xPl t e n)):=by
 refine Af ?_
 rw[Ad C.c_z115.1 C.c_z115.2]
 have g1:=he.has
 obtain⟨i,hi,h5,_⟩:=Bn (Ac.2 hh)
 have h2:=ht.wloc hn hk
 obtain⟨loc,h1⟩:=Int.eq_ofNat_of_zero_le h2.1
 have h0:loc<e.mo.length:=by omega
 have gL:=CT h0
 have gR:=Ak (show i<e.rf.length by omega)
 have h3:i<e.rf.length:=by omega
 have h6:=he.mi' loc
 unfold xPl
 rw[toNat_natCast,if_neg (by omega),h1,toNat_natCast,hi,toNat_natCast]
 cases c:decide ((t.at n).kind=2)with
 |true=>
  rw[if_pos (of_decide_eq_true c)]
  have h4:CE (fun y=>decide ((n:Int)=y)) e.has=(i:Int):=hi
  simp only[UH,go_sem,↓reduceIte,hn,A5 hn,c,h1,h0,gL,gR,h3,AZ C e.has _ (by omega),AZ C (e.mo.getD loc []) _ (by omega),h4]
  rfl
 |false=>
  rw[if_neg (of_decide_eq_false c)]
  simp only[UH,go_sem,↓reduceIte,hn,A5 hn,c,h1,h0,gL,AZ C (e.mo.getD loc []) _ (by omega)]
  rfl
theorem Th(t:A2)(ht:A7 t)(e:AF)(he:JR e):VP V QV [vT t,T5 e] Q↔Q (.b (Lb t e)):=by
 refine Af ?_
 rw[Ad C.c_z112.1 C.c_z112.2]
 have h2:=ht.n64
 have h5:0<t.nodes.length:=by
  obtain⟨s,h1,_⟩:=ht.kinds
  have:=(h1 0 (by have:=ht.r1;omega)).1
  omega
 have h0:=fun(Q:VV->Prop)=>NC C t ht e.has e.rf he.has he.rf (Q:=Q)
 unfold Lb
 cases hf:Cb t e.has e.rf with
 |false=>
  rw[hbF,if_neg (by rw[hf];decide)]at h0
  simp only[UG,go_sem,h0,Bool.false_and]
 |true=>
  have hF:=Bv hf
  rw[hbF,if_pos hf]at h0
  have hl:(DP t e.has e.rf).length=t.nodes.length:=D2 h2 _
  have hd:decide ((0:Int)<((DP t e.has e.rf).length:Nat))=true:=decide_eq_true (by omega)
  have h3:decide (0<(DP t e.has e.rf).length)=true:=decide_eq_true (by omega)
  have h4:=fun(Q:VV->Prop)=>Sq C t ht e he hF.node (Q:=Q)
  simp only[UG,go_sem,h0,Bool.true_and,hd,h3,h4,List.length_map]
theorem Uo(t:A2)(ht:A7 t)(e:AF)(he:JR e)(hm:e.mo.length=t.locs.length)(hl:e.has.length=e.rf.length){n:Nat}(hn:n<t.nodes.length)(hh:(n:Int)∈e.has) :
  VP V Nh [.i .i64 n,.fp (eT t) 0,.fp (eRn t e) 0] Q↔Q (.i .i64 (xPl t e n)):=by
 refine Af ?_
 rw[Ad C.c_z114.1 C.c_z114.2]
 cases c2:decide ((t.at n).kind=2)with
 |true=>
  have hp:=fun(Q:VV->Prop)=>Mj C t ht e he hn (.inl (of_decide_eq_true c2)) hm hl hh (Q:=Q)
  simp only[Qs,go_sem,hn,A5 hn,c2,hp]
 |false=>
 cases c3:decide ((t.at n).kind=3)with
 |true=>
  have hp:=fun(Q:VV->Prop)=>Mj C t ht e he hn (.inr (of_decide_eq_true c3)) hm hl hh (Q:=Q)
  simp only[Qs,go_sem,hn,A5 hn,c2,c3,hp]
 |false=>
  have e0:xPl t e n=0:=by rw[xPl,toNat_natCast,if_pos ⟨of_decide_eq_false c2,of_decide_eq_false c3⟩]
  rw[e0]
  simp only[Qs,go_sem,hn,A5 hn,c2,c3]
theorem A0k(t:A2)(ht:A7 t)(e:AF)(he:JR e):VP V A81 [vT t,T5 e] Q↔Q (.b (Lg t e)):=by
 refine Af ?_
 rw[Ad C.c_z60.1 C.c_z60.2]
 have h2:=ht.n64
 have h4:=fun(Q:VV->Prop)=>Th C t ht e he (Q:=Q)
 unfold Lg
 cases hi:Lb t e with
 |false=>
  simp only[A6m,go_sem,h4,hi,Bool.false_and]
 |true=>
  have h3:=hi
  simp only[Lb,UA,and_eq_true,decide_eq_true_eq]at h3
  obtain⟨hf,h9,_⟩:=h3
  have hF:=Bv hf
  have h1:=fun(Q:VV->Prop)=>NC C t ht e.has e.rf he.has he.rf (Q:=Q)
  rw[hbF,if_pos hf]at h1
  have hl:(DP t e.has e.rf).length=t.nodes.length:=D2 h2 _
  have hc:(Bt (DP t e.has e.rf)).length<=5000:=by
   have:=Nr (DP t e.has e.rf) (DP t e.has e.rf).length
   rw[Bt]
   split
   .rw[hl]at this ⊢;omega
   .simp
  have h8:∀x∈Bt (DP t e.has e.rf),∃a b:Nat,a<t.nodes.length/\b<t.nodes.length/\(a:Int)∈e.has/\(b:Int)∈e.has/\x=((a:Int),(b:Int)):=fun x hx=>by
   obtain⟨a,b,ha,e,hp⟩:=(Nd h2 _ _).1 hx
   have:=Nt ht hF hp
   exact⟨a,b,ha,hp.lt,this.1,this.2,e⟩
  have h5:=fun(Q:VV->Prop)=>Uq C (fun n=>(n:Int)∈e.has) t ht (DP t e.has e.rf) h8 hc (g:=Nh) (c:=[.fp (eT t) 0,.fp (eRn t e) 0]) (fun _ _=>rfl) (xPl t e) (fun n hn hh Q=>Uo C t ht e he h9 hF.len hn hh (Q:=Q)) (Q:=Q)
  obtain⟨R,hR⟩:∃R,R=DP t e.has e.rf:=⟨_,rfl⟩
  rw[<- hR]at hl h1 h5 ⊢
  rw[Bool.true_and]
  simp only[A6m,go_sem,h4,hi,h1]
  refine Aj (by decide) R.length (by omega) (I:=fun k F h=>A3.tmp F 2=.fp (eT t) 0/\A3.tmp F 5=lW R/\A3.tmp F 22=lW R/\A3.tmp F 6=.p 0 0 0 0/\h=[some ⟨A2g,0,0,false,[eRn t e]⟩]/\∀j,j<k->Bh (R.getD j 0#64) j=false) ?_ ?_ 0 _ _ (by omega) ?_ ?_ ?_
  .rintro k F h hk h7 h6 ⟨p2,p5,h0,p6,rfl,pr⟩
   have gW:=Cj (a:=R) hk
   cases c1:Bh (R.getD k 0#64) (k:Int)with
   |true=>
    have hb:A1O R=false:=AB hk (by rw[c1];rfl)
    simp only[go_sem,h7,h6,p2,p5,h0,p6,gW,hk,AS C,c1,hb,A0,Bool.false_and]
   |false=>
    simp only[go_sem,h7,h6,p2,p5,h0,p6,gW,hk,AS C,c1,A0]
    intro j hj
    rcases lt_or_ge j k with c|c
    .exact pr j c
    .rw[show j=k by omega];exact c1
  .rintro F h ⟨p2,p5,h0,p6,rfl,pr⟩
   have hb:A1O R=true:=AD fun j hj=>by rw[pr j hj];rfl
   simp only[go_sem,p2,p5,h0,p6,h5,hb,Bool.true_and]
  .simp only[go_sem]
  .simp only[go_sem]
  .simp only[go_sem]
   intro j hj;omega
end
theorem AdV(l:List Int)(x:Int):BI (l++[x])=BI l|||BC x:=by
 unfold BI
 rw[List.foldl_append];rfl
theorem Ajb{t:A2}{has:List Int}{loc:Nat}:∀k,k<=has.length->U6 t has loc k=BI ((has.take k).filter (Do t loc))
 |0,_=>rfl
 |k+1,h=>by
  have e:has.take (k+1)=has.take k++[has.getD k 0]:=by
   rw[List.take_succ_eq_append_getElem (show k<has.length by omega),List.getD_eq_getElem?_getD,List.getElem?_eq_getElem (show k<has.length by omega)];rfl
  rw[U6,Ajb k (by omega),e,List.filter_append]
  cases c:Do t loc (has.getD k 0)with
  |true=>rw[if_pos rfl,List.filter_cons_of_pos c,List.filter_nil,AdV]
  |false=>rw[if_neg (by decide),List.filter_cons_of_neg (by rw[c];decide),List.filter_nil,List.append_nil]
def P3(e:AF)(loc w:Int):Int:=if loc<0\/(e.mo.length:Int)<=loc then -1 else BH (e.mo.getD loc.toNat []) w
def T7(t:A2)(e:AF)(i:Nat):Int:=if(t.at (e.has.getD i 0).toNat).kind=3 then P3 e (t.at (e.has.getD i 0).toNat).loc (e.has.getD i 0)else if(t.at (e.has.getD i 0).toNat).kind=2 then P3 e (t.at (e.has.getD i 0).toNat).loc (e.rf.getD i 0)else 0
def Gg(t:A2)(e:AF)(loc i:Nat):Bool:=AQ e.has ((e.mo.getD loc []).getD i 0)&&Do t loc ((e.mo.getD loc []).getD i 0)&&decide (BH (e.mo.getD loc []) ((e.mo.getD loc []).getD i 0)=i)
def Gb(e:AF):Nat->Nat
 |0=>0
 |k+1=>Gb e k+(e.mo.getD k []).length
def Jh(t:A2)(has:List Int):Nat->Nat
 |0=>0
 |k+1=>Jh t has k+(if(t.at (has.getD k 0).toNat).kind=3 then 1 else 0)
def Hm(t:A2)(e:AF):Bool:=Cb t e.has e.rf&&decide (e.mo.length=t.locs.length)&&((List.range e.mo.length).all fun loc=>(List.range (e.mo.getD loc []).length).all (Gg t e loc))&&decide (Gb e e.mo.length=Jh t e.has e.has.length)
def N8(t:A2)(e:AF)(i k:Nat):Bool:=!Mr t e.has e.rf (e.has.getD i 0) (e.has.getD k 0)||(!decide (i=k)&&DW (t.at (e.has.getD i 0).toNat) (t.at (e.has.getD k 0).toNat) (T7 t e i) (T7 t e k))
def A6E(t:A2)(e:AF):Bool:=Hm t e&&(List.range e.has.length).all fun i=>(List.range e.has.length).all (N8 t e i)
theorem ZA{e:AF}(h:JR e):∀k,Gb e k<=1000 * k
 |0=>Nat.le_refl _
 |k+1=>by have:=ZA h k;have:=h.mi' k;rw[Gb];omega
theorem A65{t:A2}{has:List Int}:∀k,Jh t has k<=k
 |0=>Nat.le_refl _
 |k+1=>by have:=A65 (t:=t) (has:=has) k;rw[Jh];split<;>omega
section
variable {V:Ai}(C:Am V){Q:VV->Prop}
include C
theorem MF(e:AF)(he:JR e)(loc w:Int):VP V A54 [T5 e,.i .i64 loc,.i .i64 w] Q↔Q (.i .i64 (P3 e loc w)):=by
 refine Af ?_
 rw[Ad C.c_z107.1 C.c_z107.2]
 have g3:=he.mo
 unfold P3
 cases c1:decide (loc<0)with
 |true=>
  rw[if_pos (.inl (of_decide_eq_true c1))]
  simp only[UD,go_sem,c1]
 |false=>
 cases c2:decide ((e.mo.length:Int)<=loc)with
 |true=>
  rw[if_pos (.inr (of_decide_eq_true c2))]
  simp only[UD,go_sem,c1,c2]
 |false=>
  have h1:=of_decide_eq_false c1
  have h2:=of_decide_eq_false c2
  obtain⟨k,rfl⟩:=Int.eq_ofNat_of_zero_le (show 0<=loc by omega)
  have hk:k<e.mo.length:=by omega
  have gL:=CT hk
  have h3:=he.mi' k
  have h0:decide (e.mo.length<=k)=false:=decide_eq_false (by omega)
  rw[if_neg (by omega),toNat_natCast]
  simp only[UD,go_sem,↓reduceIte,c1,c2,h0,hk,gL,Ae C (e.mo.getD k []) (by omega)]
theorem MG(t:A2)(e:AF)(he:JR e)(hn:BF t e.has)(hl:e.has.length=e.rf.length){i:Nat}(hi:i<e.has.length):VP V A5e [vT t,T5 e,.i .i64 i] Q↔Q (.i .i64 (T7 t e i)):=by
 refine Af ?_
 rw[Ad C.c_z170.1 C.c_z170.2]
 have g1:=he.has
 have h1:i<e.rf.length:=by omega
 have gI:=Ak hi
 have gR:=Ak h1
 obtain⟨n,h2,h0⟩:=A9 (hn _ (Aa (d:=0) hi))
 unfold T7
 rw[h2]at gI ⊢
 rw[toNat_natCast]
 have hM:=fun(loc w:Int) (Q:VV->Prop)=>MF C e he loc w (Q:=Q)
 cases c3:decide ((t.at n).kind=3)with
 |true=>
  rw[if_pos (of_decide_eq_true c3)]
  simp only[US,go_sem,hi,h1,gI,gR,h0,A5 h0,c3,hM,A0]
 |false=>
 rw[if_neg (of_decide_eq_false c3)]
 cases c2:decide ((t.at n).kind=2)with
 |true=>
  rw[if_pos (of_decide_eq_true c2)]
  simp only[US,go_sem,hi,h1,gI,gR,h0,A5 h0,c3,c2,hM,A0]
 |false=>
  rw[if_neg (of_decide_eq_false c2)]
  simp only[US,go_sem,hi,h1,gI,gR,h0,A5 h0,c3,c2,hM,A0]
theorem DE(t:A2)(ht:A7 t)(e:AF)(he:JR e):VP V A52 [vT t,T5 e] Q↔Q (.b (Hm t e)):=by
 refine Af ?_
 rw[Ad C.c_z105.1 C.c_z105.2]
 have g1:=he.has
 have g3:=he.mo
 have h6:=fun(Q:VV->Prop)=>Jw C t ht e.has e.rf he.has he.rf (Q:=Q)
 unfold Hm
 cases hf:Cb t e.has e.rf with
 |false=>simp only[UC,go_sem,h6,hf,Bool.false_and]
 |true=>
 have hF:=Bv hf
 have ci:decide ((e.mo.length:Int)=(t.locs.length:Int))=decide (e.mo.length=t.locs.length):=decide_eq_decide.2 (by omega)
 cases c0:decide (e.mo.length=t.locs.length)with
 |false=>simp only[UC,go_sem,h6,hf,ci,c0,Bool.true_and,Bool.false_and]
 |true=>
 rw[Bool.true_and,Bool.true_and]
 simp only[UC,go_sem,h6,hf,ci,c0]
 have h5:∀{k i:Nat},k<e.mo.length->i<(e.mo.getD k []).length->Gg t e k i=false->(((List.range e.mo.length).all fun loc=>(List.range (e.mo.getD loc []).length).all (Gg t e loc))&&decide (Gb e e.mo.length=Jh t e.has e.has.length))=false:=fun hk hi h=>by
  rw[AB hk (AB hi h),Bool.false_and]
 refine Ab (by decide) e.mo.length (by omega) (I:=fun k F h=>A3.tmp F 2=.fp (eT t) 0/\A3.tmp F 3=.fp (Uv e) 0/\A3.tmp F 5=.i .i64 (Gb e k:Nat)/\h=[]/\∀j,j<k->(List.range (e.mo.getD j []).length).all (Gg t e j)=true) ?_ ?_ ?_ 0 _ _ (zero_le _) ?_ ?_
 .rintro k F h hk p6 ⟨p2,p3,p5,rfl,pr⟩
  simp only[go_sem,p6,p2,p3,p5]
  exact pr
 .rintro k F h hk p6 ⟨p2,p3,p5,rfl,pr⟩
  have gL:=CT hk
  have ha:=he.mi' k
  have hg:=ZA he k
  obtain⟨M,hM⟩:∃M,M=e.mo.getD k []:=⟨_,rfl⟩
  have h3:=fun{i:Nat}=>h5 (i:=i) hk
  have h8:Gb e (k+1)=Gb e k+M.length:=by rw[Gb,hM]
  have hd:∀i,Gg t e k i=(AQ e.has (M.getD i 0)&&Do t k (M.getD i 0)&&decide (BH M (M.getD i 0)=i)):=fun i=>by rw[Gg,hM]
  have h7:(∀i,i<M.length->Gg t e k i=true)->∀j,j<k+1->(List.range (e.mo.getD j []).length).all (Gg t e j)=true:=fun h j hj=>by
   rcases lt_or_ge j k with c|c
   .exact pr j c
   .obtain rfl:j=k:=by omega
    rw[<- hM];exact AD h
  rw[<- hM]at gL ha h3
  simp only[go_sem,p6,p2,p3,p5,A0]
  refine Ab (by decide) M.length (by omega) (I:=fun i F h=>A3.tmp F 6=.i .i64 k/\A3.tmp F 2=.fp (eT t) 0/\A3.tmp F 3=.fp (Uv e) 0/\A3.tmp F 5=.i .i64 ((Gb e k+i:Nat):Int)/\h=[]/\∀j,j<i->Gg t e k j=true) ?_ ?_ ?_ 0 _ _ (zero_le _) ?_ ?_
  .rintro i F h hi q7 ⟨q6,q2,q3,q5,rfl,qr⟩
   simp only[go_sem,q7,q6,q2,q3,q5,gL,hk]
   exact qr
  .rintro i F h hi q7 ⟨q6,q2,q3,q5,rfl,qr⟩
   have gI:=Ak hi
   have h0:=hd i
   have h2:=fun h=>h3 hi h
   have h9:Gg t e k i=true->∀j,j<i+1->Gg t e k j=true:=fun h j hj=>by
    rcases lt_or_ge j i with c|c
    .exact qr j c
    .rw[show j=i by omega];exact h
   have w1:=C0 e.has (M.getD i 0)
   cases d1:AQ e.has (M.getD i 0)with
   |false=>
    rw[d1]at w1
    have hb:=h2 (by rw[h0,d1];rfl)
    simp only[go_sem,q7,q6,q2,q3,q5,gL,hk,gI,hi,Ae C e.has (by omega),w1,Bool.not_false,hb,A0]
   |true=>
   rw[d1]at w1
   obtain⟨n,h4,h1⟩:=A9 (hF.node _ (Ac.1 d1))
   rw[h4]at gI w1 h0 d1
   rw[d1,Bool.true_and]at h0
   simp only[Do,toNat_natCast]at h0
   cases d2:decide ((t.at n).kind=3)with
   |false=>
    have hb:=h2 (by rw[h0,d2];rfl)
    simp only[go_sem,q7,q6,q2,q3,q5,gL,hk,gI,hi,Ae C e.has (by omega),w1,Bool.not_true,h1,A5 h1,d2,hb,A0]
   |true=>
   cases d3:decide ((t.at n).loc=(k:Int))with
   |false=>
    have hb:=h2 (by rw[h0,d2,d3];rfl)
    simp only[go_sem,q7,q6,q2,q3,q5,gL,hk,gI,hi,Ae C e.has (by omega),w1,Bool.not_true,h1,A5 h1,d2,d3,hb,A0]
   |true=>
   cases d4:decide (BH M (n:Int)=(i:Int))with
   |false=>
    have hb:=h2 (by rw[h0,d2,d3,d4];rfl)
    simp only[go_sem,q7,q6,q2,q3,q5,gL,hk,gI,hi,Ae C e.has (by omega),Ae C M (by omega),w1,Bool.not_true,h1,A5 h1,d2,d3,d4,hb,A0]
   |true=>
    have hw:IntKind.i64.wrap (((Gb e k+i:Nat):Int)+1)=((Gb e k+(i+1):Nat):Int):=by rw[Ax (by omega) (by omega)];omega
    simp only[go_sem,q7,q6,q2,q3,q5,gL,hk,gI,hi,Ae C e.has (by omega),Ae C M (by omega),w1,Bool.not_true,h1,A5 h1,d2,d3,d4,hw,A0]
    exact h9 (by rw[h0,d2,d3,d4];rfl)
  .rintro F h ⟨q6,q2,q3,q5,rfl,qr⟩
   simp only[go_sem,q6,q2,q3,q5,h8]
   exact h7 qr
  .simp only[go_sem]
  .simp only[go_sem,p6,p2,p3,p5,Nat.add_zero]
   intro j hj;omega
 .rintro F h ⟨p2,p3,p5,rfl,pr⟩
  have hg:=ZA he e.mo.length
  rw[AD pr,Bool.true_and]
  simp only[go_sem,p2,p3,p5]
  refine Ab (by decide) e.has.length (by omega) (I:=fun j F h=>A3.tmp F 2=.fp (eT t) 0/\A3.tmp F 3=.fp (Uv e) 0/\A3.tmp F 5=.i .i64 ((Gb e e.mo.length:Nat)-(Jh t e.has j:Nat):Int)/\h=[]) ?_ ?_ ?_ 0 _ _ (zero_le _) ?_ ?_
  .rintro j F h hj q9 ⟨q2,q3,q5,rfl⟩
   simp only[go_sem,q9,q2,q3,q5]
  .rintro j F h hj q9 ⟨q2,q3,q5,rfl⟩
   have gI:=Ak hj
   have hh:=A65 (t:=t) (has:=e.has) j
   obtain⟨n,h4,h1⟩:=A9 (hF.node _ (Aa (d:=0) hj))
   have hc:Jh t e.has (j+1)=Jh t e.has j+(if(t.at n).kind=3 then 1 else 0):=by rw[Jh,h4,toNat_natCast]
   rw[h4]at gI
   cases d:decide ((t.at n).kind=3)with
   |false=>
    rw[if_neg (of_decide_eq_false d),Nat.add_zero]at hc
    simp only[go_sem,q9,q2,q3,q5,gI,hj,h1,A5 h1,d,hc,A0]
   |true=>
    rw[if_pos (of_decide_eq_true d)]at hc
    have hw:IntKind.i64.wrap ((Gb e e.mo.length:Nat)-(Jh t e.has j:Nat)-1:Int)=((Gb e e.mo.length:Nat)-(Jh t e.has j+1:Nat):Int):=by rw[Ax (by omega) (by omega)];omega
    simp only[go_sem,q9,q2,q3,q5,gI,hj,h1,A5 h1,d,hc,hw,A0]
  .rintro F h ⟨q2,q3,q5,rfl⟩
   have hz:decide (((Gb e e.mo.length:Nat):Int)-(Jh t e.has e.has.length:Nat)=0)=decide (Gb e e.mo.length=Jh t e.has e.has.length):=decide_eq_decide.2 (by omega)
   simp only[go_sem,q2,q3,q5,hz]
  .simp only[go_sem]
  .simp only[go_sem,p2,p3,p5,Jh]
   simp
 .simp only[go_sem]
 .simp only[go_sem,Gb]
  intro j hj;omega
theorem Ny(t:A2)(ht:A7 t)(e:AF)(he:JR e):VP V A56 [vT t,T5 e] Q↔Q (.b (A6E t e)):=by
 refine Af ?_
 rw[Ad C.c_z109.1 C.c_z109.2]
 have g1:=he.has
 have h7:=fun(Q:VV->Prop)=>DE C t ht e he (Q:=Q)
 unfold A6E
 cases hx:Hm t e with
 |false=>simp only[A2R,go_sem,h7,hx,Bool.false_and]
 |true=>
 have hf:Cb t e.has e.rf=true:=by
  simp only[Hm,and_eq_true]at hx
  exact hx.1.1.1
 have hF:=Bv hf
 have hn:=hF.node
 have hc:=ht.n64
 have h9:=fun(Q:VV->Prop)=>LV C t ht e.has e.rf he.has he.rf hf (Q:=Q)
 rw[hbF,if_pos hf]at h9
 have hl:(DP t e.has e.rf).length=t.nodes.length:=D2 hc _
 have h4:=fun{i:Nat} (hi:i<e.has.length) (Q:VV->Prop)=>MG C t e he hn hF.len hi (Q:=Q)
 rw[Bool.true_and]
 simp only[A2R,go_sem,h7,hx,h9]
 refine Ab (by decide) e.has.length (by omega) (I:=fun i F h=>A3.tmp F 2=.fp (eT t) 0/\A3.tmp F 3=.fp (Uv e) 0/\A3.tmp F 5=lW (DP t e.has e.rf)/\h=[]/\∀j,j<i->(List.range e.has.length).all (N8 t e j)=true) ?_ ?_ ?_ 0 _ _ (zero_le _) ?_ ?_
 .rintro i F h hi p6 ⟨p2,p3,p5,rfl,pr⟩
  simp only[go_sem,p6,p2,p3,p5]
  exact pr
 .rintro i F h hi p6 ⟨p2,p3,p5,rfl,pr⟩
  obtain⟨a,h1,ha⟩:=A9 (hn _ (Aa (d:=0) hi))
  simp only[go_sem,p6,p2,p3,p5,A0]
  refine Ab (by decide) e.has.length (by omega) (I:=fun k F h=>A3.tmp F 6=.i .i64 i/\A3.tmp F 2=.fp (eT t) 0/\A3.tmp F 3=.fp (Uv e) 0/\A3.tmp F 5=lW (DP t e.has e.rf)/\h=[]/\∀j,j<k->N8 t e i j=true) ?_ ?_ ?_ 0 _ _ (zero_le _) ?_ ?_
  .rintro k F h hk q7 ⟨q6,q2,q3,q5,rfl,qr⟩
   simp only[go_sem,q7,q6,q2,q3,q5]
   exact qr
  .rintro k F h hk q7 ⟨q6,q2,q3,q5,rfl,qr⟩
   obtain⟨b,h2,hb⟩:=A9 (hn _ (Aa (d:=0) hk))
   have h8:N8 t e i k=true->∀j,j<k+1->N8 t e i j=true:=fun h j hj=>by
    rcases lt_or_ge j k with c|c
    .exact qr j c
    .rw[show j=k by omega];exact h
   have h6:N8 t e i k=false->((List.range e.has.length).all fun i=>(List.range e.has.length).all (N8 t e i))=false:=fun h=>AB hi (AB hk h)
   have h3:N8 t e i k=(!Mr t e.has e.rf a b||(!decide (i=k)&&DW (t.at a) (t.at b) (T7 t e i) (T7 t e k))):=by rw[N8,h1,h2,toNat_natCast,toNat_natCast]
   have h0:=fun(Q:VV->Prop)=>KV C (DP t e.has e.rf) (a:Int) (b:Int) (by omega) (Q:=Q)
   have hh:(decide ((0:Int)<=(a:Int))&&Bh ((DP t e.has e.rf).getD (a:Int).toNat 0#64) (b:Int))=Mr t e.has e.rf a b:=by rw[Mr,decide_eq_true (by omega)];rfl
   rw[hh]at h0
   have h5:decide ((i:Int)=(k:Int))=decide (i=k):=decide_eq_decide.2 ⟨fun h=>by omega,fun h=>by omega⟩
   cases d2:Mr t e.has e.rf a b with
   |false=>
    simp only[go_sem,q7,q6,q2,q3,q5,Ak hi,Ak hk,hi,hk,h1,h2,h0,d2,A0]
    exact h8 (by rw[h3,d2];rfl)
   |true=>
   cases d1:decide (i=k)with
   |true=>
    have e:=h6 (by rw[h3,d2,d1];rfl)
    simp only[go_sem,q7,q6,q2,q3,q5,Ak hi,Ak hk,hi,hk,h1,h2,h0,d2,h5,d1,A0,e]
   |false=>
   cases d3:DW (t.at a) (t.at b) (T7 t e i) (T7 t e k)with
   |true=>
    simp only[go_sem,q7,q6,q2,q3,q5,Ak hi,Ak hk,hi,hk,h1,h2,h0,d2,h5,d1,A5 ha,A5 hb,ha,hb,h4 hi,h4 hk,Gy C,d3,A0]
    exact h8 (by rw[h3,d1,d3];simp)
   |false=>
    have e:=h6 (by rw[h3,d2,d1,d3];rfl)
    simp only[go_sem,q7,q6,q2,q3,q5,Ak hi,Ak hk,hi,hk,h1,h2,h0,d2,h5,d1,A5 ha,A5 hb,ha,hb,h4 hi,h4 hk,Gy C,d3,A0,e]
  .rintro F h ⟨q6,q2,q3,q5,rfl,qr⟩
   simp only[go_sem,q6,q2,q3,q5]
   intro j hj
   rcases lt_or_ge j i with c|c
   .exact pr j c
   .rw[show j=i by omega];exact AD qr
  .simp only[go_sem]
  .simp only[go_sem,p6,p2,p3,p5]
   intro j hj;omega
 .rintro F h ⟨p2,p3,p5,rfl,pr⟩
  have e:=AD pr
  simp only[go_sem,p2,p3,p5,e]
 .simp only[go_sem]
 .simp only[go_sem]
  intro j hj;omega
end
def T3(t:A2)(has:List Int):Nat->Nat
 |0=>0
 |k+1=>T3 t has k+(has.filter (Do t k)).length
def ltW(t:A2)(k:Nat)(n:Int):Bool:=decide ((t.at n.toNat).kind=3)&&decide (0<=(t.at n.toNat).loc)&&decide ((t.at n.toNat).loc<k)
theorem A8M(t:A2)(has:List Int):∀k,T3 t has k=(has.filter (ltW t k)).length
 |0=>by
  rw[T3,List.filter_eq_nil_iff.2]
  .rfl
  .intro a _
   simp only[ltW,and_eq_true,decide_eq_true_eq]
   omega
 |k+1=>by
  rw[T3,A8M t has k]
  induction has with
  |nil=>rfl
  |cons x l ih=>
   simp only[List.filter_cons]
   have e:ltW t (k+1) x=(ltW t k x||Do t k x):=by
    rw[Bool.eq_iff_iff]
    simp only[ltW,Do,and_eq_true,Bool.or_eq_true,decide_eq_true_eq]
    omega
   have d:ltW t k x=true->Do t k x=false:=by
    intro h
    rw[Bool.eq_false_iff]
    intro h2
    simp only[ltW,Do,and_eq_true,decide_eq_true_eq]at h h2
    omega
   rw[e]
   cases h1:ltW t k x with
   |true=>
    rw[d h1,Bool.true_or,if_pos rfl,if_pos rfl,if_neg (by decide),List.length_cons,List.length_cons];omega
   |false=>
    cases h2:Do t k x with
    |true=>rw[Bool.false_or,if_pos rfl,if_pos rfl,if_neg (by decide),List.length_cons,List.length_cons];omega
    |false=>rw[Bool.false_or,if_neg (by decide),if_neg (by decide),if_neg (by decide)];exact ih
theorem A64(t:A2)(has:List Int):∀k,k<=has.length->Jh t has k=((has.take k).filter fun n=>decide ((t.at n.toNat).kind=3)).length
 |0,_=>rfl
 |k+1,h=>by
  have e:has.take (k+1)=has.take k++[has.getD k 0]:=by
   rw[List.take_succ_eq_append_getElem (show k<has.length by omega),List.getD_eq_getElem?_getD,List.getElem?_eq_getElem (show k<has.length by omega)];rfl
  rw[Jh,A64 t has k (by omega),e,List.filter_append,List.length_append]
  by_cases c:(t.at (has.getD k 0).toNat).kind=3
  .rw[if_pos c,List.filter_cons_of_pos (by simpa using c)];rfl
  .rw[if_neg c,List.filter_cons_of_neg (by simpa using c)];rfl
section
variable {t:A2}(ht:A7 t){e:AF}(hF:Dg t e.has e.rf)
include ht hF
theorem Amt:T3 t e.has t.locs.length=Jh t e.has e.has.length:=by
 rw[A8M,A64 _ _ _ (Nat.le_refl _),List.take_length]
 congr 1
 apply List.filter_congr
 intro x hx
 obtain⟨n,rfl,hn⟩:=A9 (hF.node x hx)
 rw[Bool.eq_iff_iff]
 simp only[ltW,and_eq_true,decide_eq_true_eq,toNat_natCast]
 constructor
 .intro h;exact h.1.1
 .intro h
  have:=ht.wloc hn (.inr h)
  exact⟨⟨h,this.1⟩,this.2⟩
theorem Aja(loc:Nat):(e.has.filter (Do t loc)).Nodup:=List.Nodup.sublist List.filter_sublist hF.nd
theorem A8V(loc:Nat):BF t (e.has.filter (Do t loc)):=fun x hx=>hF.node x (List.mem_filter.1 hx).1
theorem Amu(loc:Nat):(BP (BI (e.has.filter (Do t loc)))).length=(e.has.filter (Do t loc)).length:=by
 have hm:=fun x=>A1Q ht.n64 (A8V ht hF loc) x
 have hS:=RW (BI (e.has.filter (Do t loc)))
 have a:=Hs _ _ hS fun x hx=>(hm x).1 hx
 have b:=Hs _ _ (Aja ht hF loc) fun x hx=>(hm x).2 hx
 rw[List.length_map]at a b
 omega
theorem RC(loc:Nat):Jk t e loc=true↔(∀x∈e.mo.getD loc [],x∈e.has.filter (Do t loc))/\(e.mo.getD loc []).Nodup/\(e.mo.getD loc []).length=(e.has.filter (Do t loc)).length:=by
 have hw:=Ajb (t:=t) (has:=e.has) (loc:=loc) e.has.length (Nat.le_refl _)
 rw[List.take_length]at hw
 have h0:=Amu ht hF loc
 have h4:=Aja ht hF loc
 have h5:=A8V ht hF loc
 rw[Jk,hw,and_eq_true,decide_eq_true_eq,decide_eq_true_eq,h0]
 obtain⟨M,hM⟩:∃M,M=e.mo.getD loc []:=⟨_,rfl⟩
 obtain⟨W,hW⟩:∃W,W=e.has.filter (Do t loc):=⟨_,rfl⟩
 rw[<- hW]at h4 h5 ⊢
 rw[<- hM]
 constructor
 .rintro⟨h1,h2⟩
  have sub:∀x∈W,x∈M:=fun x hx=>by
   obtain⟨n,rfl,hn⟩:=A9 (h5 x hx)
   have h6:=ht.n64
   have a:=Gw W (x:=(n:Int)) (by omega) (by omega)
   have b:=Gw M (x:=(n:Int)) (by omega) (by omega)
   rw[h2,a,Ac.2 hx]at b
   exact Ac.1 b.symm
  have nd:=AiR M W h4 sub (by omega)
  refine⟨?_,nd,h1⟩
  intro x hx
  exact Z5 h4 sub (by omega) x hx
 .rintro⟨h1,h2,h3⟩
  refine⟨h3,?_⟩
  have sub:∀x∈W,x∈M:=fun x hx=>Z5 h2 h1 (by omega) x hx
  have a:=Z7 h1
  have b:=Z7 sub
  rw[BitVec.or_comm]at b
  exact b.symm.trans a
theorem A1s{loc:Nat}:(∀i,i<(e.mo.getD loc []).length->Gg t e loc i=true)↔(∀x∈e.mo.getD loc [],x∈e.has.filter (Do t loc))/\(e.mo.getD loc []).Nodup:=by
 obtain⟨M,hM⟩:∃M,M=e.mo.getD loc []:=⟨_,rfl⟩
 have h0:∀i,Gg t e loc i=(AQ e.has (M.getD i 0)&&Do t loc (M.getD i 0)&&decide (BH M (M.getD i 0)=i)):=fun i=>by rw[Gg,hM]
 rw[<- hM]
 simp only[h0,and_eq_true,decide_eq_true_eq,Ac,List.mem_filter]
 constructor
 .intro h
  refine⟨fun x hx=>?_,?_⟩
  .obtain⟨i,hi,rfl⟩:=List.getElem_of_mem hx
   have:=(h i hi).1
   rw[List.getD_eq_getElem?_getD,List.getElem?_eq_getElem hi]at this
   exact this
  .rw[List.nodup_iff_pairwise_ne,List.pairwise_iff_getElem]
   intro i j hi hj h3 c
   have h1:=(h i hi).2
   have h2:=(h j hj).2
   rw[List.getD_eq_getElem?_getD,List.getElem?_eq_getElem hi,Option.getD_some]at h1
   rw[List.getD_eq_getElem?_getD,List.getElem?_eq_getElem hj,Option.getD_some]at h2
   rw[c]at h1
   omega
 .rintro⟨h1,h2⟩ i hi
  have hm:=Aa (d:=0) hi
  exact⟨h1 _ hm,CX h2 hi⟩
theorem Aew(h:∀loc,loc<e.mo.length->(e.mo.getD loc []).length<=(e.has.filter (Do t loc)).length):∀k,k<=e.mo.length->Gb e k<=T3 t e.has k/\(Gb e k=T3 t e.has k->∀loc,loc<k->(e.mo.getD loc []).length=(e.has.filter (Do t loc)).length)
 |0,_=>⟨Nat.le_refl _,fun _ loc hl=>by omega⟩
 |k+1,hk=>by
  obtain⟨h1,h2⟩:=Aew h k (by omega)
  have:=h k (by omega)
  rw[Gb,T3]
  refine⟨by omega,fun heq loc hl=>?_⟩
  rcases lt_or_ge loc k with c|c
  .exact h2 (by omega) loc c
  .obtain rfl:loc=k:=by omega
   omega
theorem Aev(h:∀loc,loc<e.mo.length->(e.mo.getD loc []).length=(e.has.filter (Do t loc)).length):∀k,k<=e.mo.length->Gb e k=T3 t e.has k
 |0,_=>rfl
 |k+1,hk=>by rw[Gb,T3,Aev h k (by omega),h k (by omega)]
theorem A0u:UA t e=true↔e.mo.length=t.locs.length/\(∀loc,loc<e.mo.length->∀i,i<(e.mo.getD loc []).length->Gg t e loc i=true)/\Gb e e.mo.length=Jh t e.has e.has.length:=by
 rw[UA,and_eq_true,decide_eq_true_eq,Ag]
 have h3:=Amt ht hF
 constructor
 .rintro⟨h0,h1⟩
  have h1:=fun loc hl=>(RC ht hF loc).1 (h1 loc hl)
  refine⟨h0,fun loc hl=>(A1s ht hF).2 ⟨(h1 loc hl).1,(h1 loc hl).2.1⟩,?_⟩
  rw[Aev ht hF (fun loc hl=>(h1 loc hl).2.2) _ (Nat.le_refl _),h0,h3]
 .rintro⟨h0,h1,h2⟩
  refine⟨h0,fun loc hl=>?_⟩
  have h1:=fun loc hl=>(A1s ht hF).1 (h1 loc hl)
  have h4:∀loc,loc<e.mo.length->(e.mo.getD loc []).length<=(e.has.filter (Do t loc)).length:=fun loc hl=>Hs _ _ (h1 loc hl).2 (h1 loc hl).1
  have:=(Aew ht hF h4 e.mo.length (Nat.le_refl _)).2 (by rw[h2,<- h3,h0])
  exact(RC ht hF loc).2 ⟨(h1 loc hl).1,(h1 loc hl).2,this loc hl⟩
theorem ZM(hml:e.mo.length=t.locs.length){i n:Nat}(hi:i<e.has.length)(hn:e.has.getD i 0=n):T7 t e i=xPl t e n:=by
 obtain⟨m,hm,h1⟩:=A9 (hF.node _ (Aa (d:=0) hi))
 rw[hn]at hm
 have hm:n=m:=by omega
 subst hm
 have h0:=CX hF.nd hi
 rw[hn]at h0
 have mo:∀w,(t.at n).kind=2\/(t.at n).kind=3->P3 e (t.at n).loc w=BH (e.mo.getD (t.at n).loc.toNat []) w:=fun w hk=>by
  have:=ht.wloc h1 hk
  rw[P3,if_neg (by omega)]
 rw[T7,xPl,hn,toNat_natCast,h0,toNat_natCast]
 by_cases c3:(t.at n).kind=3
 .rw[if_pos c3,if_neg (by omega),if_neg (by omega),mo _ (.inr c3)]
 .rw[if_neg c3]
  by_cases c2:(t.at n).kind=2
  .rw[if_pos c2,if_neg (by omega),if_pos c2,mo _ (.inl c2)]
  .rw[if_neg c2,if_pos ⟨c2,c3⟩]
theorem Akc(hml:e.mo.length=t.locs.length):(A1O (DP t e.has e.rf)&&(Bt (DP t e.has e.rf)).all fun x=>DW (t.at x.1.toNat) (t.at x.2.toNat) (xPl t e x.1) (xPl t e x.2))=true↔((List.range e.has.length).all fun i=>(List.range e.has.length).all (N8 t e i))=true:=by
 have h5:=ht.n64
 have hl:(DP t e.has e.rf).length=t.nodes.length:=D2 h5 _
 have h3:∀a b:Nat,a<t.nodes.length->(Mr t e.has e.rf a b=true↔M7 (hbB t e.has e.rf) t.nodes.length a b):=fun a b ha=>by
  rw[Mr,Aq,toNat_natCast,DP]
  exact DM h5 _ ha
 have h4:∀a:Nat,(a:Int)∈e.has->∃i,i<e.has.length/\e.has.getD i 0=a:=fun a ha=>by
  obtain⟨i,hi,h⟩:=List.getElem_of_mem ha
  exact⟨i,hi,by rw[List.getD_eq_getElem?_getD,List.getElem?_eq_getElem hi];exact h⟩
 rw[and_eq_true,A1O,Ag,Ag,List.all_eq_true]
 constructor
 .rintro⟨h1,h2⟩ i hi
  rw[Ag]
  intro k hk
  obtain⟨a,h0,ha⟩:=A9 (hF.node _ (Aa (d:=0) hi))
  obtain⟨b,h6,hb⟩:=A9 (hF.node _ (Aa (d:=0) hk))
  rw[N8,h0,h6,toNat_natCast,toNat_natCast,ZM ht hF hml hi h0,ZM ht hF hml hk h6]
  cases hh:Mr t e.has e.rf a b with
  |false=>rfl
  |true=>
   have hp:=(h3 a b ha).1 hh
   have:=h2 _ ((Nd h5 _ _).2 ⟨a,b,ha,rfl,hp⟩)
   simp only[toNat_natCast]at this
   rw[this,Bool.not_true,Bool.false_or,Bool.and_true]
   by_cases c:i=k
   .exfalso
    subst c
    have h7:a=b:=by omega
    subst h7
    have hr:=h1 a (by omega)
    have hb:=(DM h5 _ ha).2 hp
    rw[Aq]at hr
    change (!((BG (Av t.nodes.length (hbB t e.has e.rf))).getD a 0#64).getLsbD a)=true at hr
    rw[hb]at hr
    cases hr
   .rw[decide_eq_false c];rfl
 .intro h
  refine⟨fun a ha=>?_,fun x hx=>?_⟩
  .rw[hl]at ha
   cases c:Bh ((DP t e.has e.rf).getD a 0#64) (a:Int)with
   |false=>rfl
   |true=>
    exfalso
    rw[Aq]at c
    have hp:=(DM h5 _ ha).1 c
    obtain⟨i,hi,h0⟩:=h4 a (Nt ht hF hp).1
    have:=Ag.1 (h i hi) i hi
    rw[N8,h0,toNat_natCast,(h3 a a ha).2 hp,decide_eq_true rfl]at this
    simp at this
  .obtain⟨a,b,ha,rfl,hp⟩:=(Nd h5 _ _).1 hx
   obtain⟨i,hi,h0⟩:=h4 a (Nt ht hF hp).1
   obtain⟨k,hk,h6⟩:=h4 b (Nt ht hF hp).2
   have:=Ag.1 (h i hi) k hk
   rw[N8,h0,h6,toNat_natCast,toNat_natCast,(h3 a b ha).2 hp,ZM ht hF hml hi h0,ZM ht hF hml hk h6,Bool.not_true,Bool.false_or,and_eq_true]at this
   simp only[toNat_natCast]
   exact this.2
end
theorem AfS{t:A2}(ht:A7 t)(e:AF):Lg t e=A6E t e:=by
 rw[Lg,A6E,Lb,Hm]
 cases hf:Cb t e.has e.rf with
 |false=>simp only[Bool.false_and]
 |true=>
  have hF:=Bv hf
  have h0:=A0u ht hF
  simp only[Bool.true_and]
  have e1:UA t e=(decide (e.mo.length=t.locs.length)&&((List.range e.mo.length).all fun loc=>(List.range (e.mo.getD loc []).length).all (Gg t e loc))&&decide (Gb e e.mo.length=Jh t e.has e.has.length)):=by
   rw[Bool.eq_iff_iff,h0]
   simp only[and_eq_true,decide_eq_true_eq,Ag,and_assoc]
  rw[<- e1,Bool.and_assoc]
  cases hp:UA t e with
  |false=>rfl
  |true=>
   rw[Bool.true_and,Bool.true_and,Bool.eq_iff_iff]
   exact Akc ht hF (h0.1 hp).1
theorem WI.ne{t:A2}(ht:A7 t){s:A8}{mem:List Int}{k:Nat}(W:WI t s mem k):0<s.has.length:=by
 obtain⟨q,h1,_⟩:=ht.kinds
 obtain⟨a,_,_,b,_⟩:=h1 0 (by have:=ht.r1;omega)
 have h0:=ht.n64
 have hi:=W.form.init
 have hb:(Ed t).getLsbD (q 0)=true:=by rw[Ed,AA];simp[a,b];omega
 have:(BI s.has).getLsbD (q 0)=true:=by rw[<- hi,BitVec.getLsbD_or,hb];rfl
 have h2:=Gw s.has (x:=((q 0:Nat):Int)) (by omega) (by omega)
 rw[Aq,this]at h2
 exact List.length_pos_of_mem (Ac.1 h2.symm)
section
variable {V:Ai}(C:Am V){Q:VV->Prop}
include C
theorem Pp(t:A2)(ht:A7 t)(s:A8)(hs:GI s)(hf:B2 t s)(e:Int):VP V AdB [vT t,HJ s,.i .i64 e] Q↔Q (.b (AQ s.has e&&NF t s e.toNat)):=by
 refine Af ?_
 rw[Ad C.c_z38.1 C.c_z38.2]
 have g1:=hs.has
 have h2:=BV.2 hf
 have h3:=fun(Q:VV->Prop)=>BE C t ht s hs (Q:=Q)
 have hw:=fun(Q:VV->Prop)=>Ae C s.has (by omega) e (Q:=Q)
 have h0:=DQ s.has e
 have h1:=C0 s.has e
 cases c:AQ s.has e with
 |false=>
  rw[c]at h1 h0
  simp only[AbT,go_sem,h3,h2,hw,h1,h0,Bool.false_and]
 |true=>
  rw[c]at h1 h0
  obtain⟨m,rfl,hm⟩:=A9 (hf.node _ (Ac.1 c))
  have hv:=fun(Q:VV->Prop)=>JI C t ht s hs hf (Ac.1 c) (Q:=Q)
  rw[Sd ht hf (Ac.1 c)]at hv
  rw[toNat_natCast,Bool.true_and]
  simp only[AbT,go_sem,h3,h2,hw,h1,h0,hv]
theorem Kr(r:Rows)(hl:r.length<=64):VP V AdF [lW r,lW r] Q↔Q (.b true):=by
 refine Af ?_
 rw[Ad C.c_z52.1 C.c_z52.2]
 simp only[AiE,go_sem]
 refine Ab (by decide) r.length (by omega) (I:=fun k F h=>h=[]/\A3.tmp F 0=lW r/\A3.tmp F 1=lW r) ?_ ?_ ?_ 0 _ _ (zero_le _) ?_ ?_
 .rintro k F h hk p5 ⟨rfl,p0,p1⟩
  simp only[go_sem,p5,p0,p1]
 .rintro k F h hk p5 ⟨rfl,p0,p1⟩
  simp only[go_sem,p5,p0,p1,hk,Cj hk,A0]
 .rintro F h ⟨rfl,p0,p1⟩
  simp only[go_sem,p0,p1]
 .simp only[go_sem]
 .simp only[go_sem]
end
end Go.AM
