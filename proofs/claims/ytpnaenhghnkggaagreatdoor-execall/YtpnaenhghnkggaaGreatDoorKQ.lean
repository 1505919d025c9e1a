/-
  Own work, part of the proof of these laws: what functions compute.
-/
import Derived.Test.YtpnaenhghnkggaaGreatDoorKP
set_option maxRecDepth 10000
set_option maxHeartbeats 64000000
set_option linter.unusedVariables false
set_option linter.unusedSimpArgs false
set_option linter.unusedSectionVars false
open Int (toNat_natCast)
open List (length_map length_append length_take length_set length_cons take_length map_append append_nil map_nil map_set)
open Nat (zero_le)
namespace Go.AM
open Go Go.Proofs
abbrev AfW:VV:=.ls [[.f QW [] []],[.f QX [] []],[.f QY [] []]]
abbrev Np(R:Rows):Option VO:=some ⟨AW,1,0,false,R.map eW⟩
theorem KX{n:Nat}{P:Nat->Nat->Prop}:List.take n (BL n P)=BL n P:=List.take_of_length_le (by rw[Bi];exact Nat.le_refl n)
section
variable {V:Ai}(C:Am V){Q:VV->Prop}{t:A2}(ht:A7 t){e:AF}(X:XP t e)(D:Rows)(he:JR e)
include C ht X he
theorem A0w:VP V XU [.ag (Uw t e D),AfW] Q↔Q (lW (BL t.nodes.length (stX t e))):=by
 refine Af ?_
 rw[Ad C.c_z123.1 C.c_z123.2]
 have h1:=he.has
 have hl:=ht.n64
 have hc:=fun(b:Nat) (Q:VV->VH->Prop)=>LY C t.nodes.length hl b (Q:=Q)
 have hb:=Bm (n:=t.nodes.length) (fun a b _ _=>AhV ht X a b)
 have h0:=(Bm (n:=t.nodes.length) (fun a b _ _=>ApA t e a b)).trans (KW _)
 simp only[A2X,go_sem,hc,length_map]
 refine Aj (by decide) e.has.length (by omega) (I:=fun k F h=>A3.tmp F 1=AfW/\A3.tmp F 2=.fp (Uw t e D) 0/\A3.tmp F 17=lI e.has/\A3.tmp F 5=.sl 0 0 0 t.nodes.length/\h=[Np (BL t.nodes.length (stK t e k))]) ?_ ?_ 0 _ _ (by omega) ?_ ?_ ?_
 .rintro k F h hk hi hh ⟨p1,p2,h9,p5,rfl⟩
  have gH:=Ak hk
  obtain⟨n,en,h3⟩:=A9 (X.ok.node _ (Aa (d:=0) hk))
  have hm:(n:Int)∈e.has:=by rw[<- en];exact Aa hk
  have h2:=AhX ht X hk en h3
  have Cf:=AhW ht X hk en h3
  rw[en]at gH
  obtain⟨R,hR⟩:∃R,R=BL t.nodes.length (stK t e k):=⟨_,rfl⟩
  have ha:R.length=t.nodes.length:=by rw[hR,Bi]
  rw[<- hR]at h2 Cf ⊢
  have gR:∀w,(R.set n w)[n]? = some w:=fun w=>by rw[List.getElem?_set_self (by omega)]
  have sR:∀w w',(R.set n w).set n w'=R.set n w':=fun w w'=>List.set_set ..
  have hd:∀(S:Rows) w,(S.map eW).set n [vW w]=(S.set n w).map eW:=fun S w=>by rw[map_set]
  have h8:n<R.length:=by omega
  have q1:=fun(Q:VV->Prop)=>A9D C t e D he X.ok.len n (Q:=Q)
  have q2:=fun(Q:VV->Prop)=>A9C C ht X D he hm (Q:=Q)
  have q3:=fun(Q:VV->Prop)=>A9B C ht X D he hm (Q:=Q)
  obtain⟨A,hA⟩:∃A,A=rfW e n e.rf.length:=⟨_,rfl⟩
  obtain⟨B,hB⟩:∃B,B=moW t e n:=⟨_,rfl⟩
  obtain⟨E,hE⟩:∃E,E=frW t e n:=⟨_,rfl⟩
  rw[<- hA,<- hB,<- hE]at h2
  rw[<- hA]at q1
  simp only[show(if(t.at n).kind=3 then bhW t e n else 0#64)=B from hB.symm]at q2
  simp only[show(if 0<=CA e.has e.rf n then bhW t e (CA e.has e.rf n)else 0#64)=E from hE.symm]at q3
  have hn:R=R.set n 0#64:=by
   rw[<- Cf,List.getD_eq_getElem?_getD,List.getElem?_eq_getElem h8,Option.getD_some,List.set_getElem_self]
  simp only[go_sem,hi,hh,p1,p2,h9,p5,gH,hk,A0]
  refine Aj (by decide) 3 (by omega) (I:=fun j F h=>A3.tmp F 19=.i .i64 k/\A3.tmp F 18=.i .i64 e.has.length/\A3.tmp F 1=AfW/\A3.tmp F 23=AfW/\A3.tmp F 2=.fp (Uw t e D) 0/\A3.tmp F 17=lI e.has/\A3.tmp F 5=.sl 0 0 0 t.nodes.length/\A3.tmp F 7=.i .i64 n/\h=[Np (R.set n (if j=0 then 0#64 else if j=1 then A else if j=2 then A|||B else A|||B|||E))]) ?_ ?_ 0 _ _ (by omega) ?_ ?_ ?_
  .rintro j F h hj hg hf ⟨h5,h4,r1,h7,r2,h6,r5,r7,rfl⟩
   rcases(show j=0\/j=1\/j=2 by omega)with rfl|rfl|rfl
   .simp only[go_sem,hg,hf,h5,h4,r1,h7,r2,h6,r5,r7,q1,gR,sR,hd,h8,ha,h3,length_set,length_map,BitVec.zero_or,A0]
   .simp only[go_sem,hg,hf,h5,h4,r1,h7,r2,h6,r5,r7,q2,gR,sR,hd,h8,ha,h3,length_set,length_map,A0]
   .simp only[go_sem,hg,hf,h5,h4,r1,h7,r2,h6,r5,r7,q3,gR,sR,hd,h8,ha,h3,length_set,length_map,A0]
  .rintro F h ⟨h5,h4,r1,h7,r2,h6,r5,r7,rfl⟩
   simp only[go_sem,h5,h4,r1,h7,r2,h6,r5,r7,h2]
  .simp only[go_sem]
  .simp only[go_sem]
  .simp only[go_sem,hi,hh,p1,p2,h9,p5]
   rw[<- hn]
 .rintro F h ⟨p1,p2,h9,p5,rfl⟩
  rw[hb]
  simp only[go_sem,p1,p2,h9,p5,Bi,length_map,KX]
 .simp only[go_sem]
 .simp only[go_sem]
 .simp only[go_sem]
  rw[h0]
theorem Qo:VP V A1l [.ag (Uw t e D)] Q↔Q (lW (JL t e)):=by
 refine Af ?_
 rw[Ad C.c_z64.1 C.c_z64.2]
 have q:=fun(Q:VV->Prop)=>A0w C ht X D he (Q:=Q)
 simp only[Ac8,go_sem,q,Jv C,JL]
end
theorem Aft{t:A2}(ht:A7 t)(e:AF):Dp (orF (DP t e.has e.rf) (JL t e))=true:=by
 rw[KL ht e,PD ht e,Ry ht.n64];exact DN ht.n64 _
section
variable {V:Ai}(C:Am V){Q:VV->Prop}{t:A2}(ht:A7 t){e:AF}(X:XP t e)(he:JR e)
include C ht X he
theorem Qp:VP V A1k [.ag (Uw t e (DP t e.has e.rf))] Q↔Q (lW (Ns t e)):=by
 refine Af ?_
 rw[Ad C.c_z63.1 C.c_z63.2]
 have h1:=he.has
 have hm:=ht.n64
 have hq:=fun(b:Nat) (Q:VV->VH->Prop)=>LY C t.nodes.length hm b (Q:=Q)
 have h0:=(Bm (n:=t.nodes.length) (fun a b _ _=>AiW (t:=t) (e:=e) a b)).trans (KW _)
 have ho:=Bm (n:=t.nodes.length) (fun a b _ _=>A8v (t:=t) (e:=e) a b)
 have qE:=fun(Q:VV->Prop)=>Qo C ht X (DP t e.has e.rf) he (Q:=Q)
 have q2:=KL ht e
 have qB:=fun(Q:VV->Prop)=>(A5w C hm (hbE t e) (Q:=Q))
 rw[<- q2]at qB
 have hz:(Av t.nodes.length fun a b=>hbE t e b a).length=t.nodes.length:=Az
 have q0:(DP t e.has e.rf).length=t.nodes.length:=by rw[q2,Az]
 have h5:=Aft ht e
 have hi:=fun a b ha hb=>Aec ht e (a:=a) (b:=b) ha hb
 obtain⟨H,hH⟩:∃H,H=DP t e.has e.rf:=⟨_,rfl⟩
 rw[<- hH]at qE qB q0 h5 hi ⊢
 obtain⟨A,hA⟩:∃A,A=orF H (JL t e):=⟨_,rfl⟩
 obtain⟨B,hB⟩:∃B,B=Av t.nodes.length fun a b=>hbE t e b a:=⟨_,rfl⟩
 rw[<- hB]at qB hz hi
 rw[<- hA]at h5 hi
 have qO:=fun(Q:VV->Prop)=>A1K C H (JL t e) (Q:=Q)
 rw[<- hA]at qO
 have qI:=fun(s:BitVec 64) (Q:VV->Prop)=>RQ C A h5 s (Q:=Q)
 have qS:=fun(n:Nat) (hn:n<t.nodes.length) (Q:VV->Prop)=>Su C t e H hn (Q:=Q)
 have qd:=fun(n:Nat) (hn:n<t.nodes.length) (Q:VV->Prop)=>NU C t e H H hn q0 (Q:=Q)
 have q9:=fun(n:Nat) (hn:n<t.nodes.length) (Q:VV->Prop)=>NU C t e H B hn hz (Q:=Q)
 simp only[Ac7,go_sem,hq,qE,qO,qB,length_map]
 refine Aj (by decide) e.has.length (by omega) (I:=fun k F h=>A3.tmp F 1=.fp (Uw t e H) 0/\A3.tmp F 3=lW A/\A3.tmp F 4=lW B/\A3.tmp F 26=lI e.has/\A3.tmp F 5=.sl 0 0 0 t.nodes.length/\h=[Np (BL t.nodes.length (Zf t e k 0))]) ?_ ?_ 0 _ _ (by omega) ?_ ?_ ?_
 .rintro k F h hk hw hv ⟨p1,p3,p4,hf,p5,rfl⟩
  have gH:=Ak hk
  obtain⟨a,ea,h3⟩:=A9 (X.ok.node _ (Aa (d:=0) hk))
  have qa:(a:Int)∈e.has:=by rw[<- ea];exact Aa hk
  have qh:=gH
  rw[ea]at gH
  cases s1:decide (0<=(t.at a).thread)&&decide ((t.at a).mode=4)with
  |false=>
   have hd:∀y,¬SE t e a y:=fun y hp=>by
    have:=hp.2.2.2.1
    rw[Bool.and_eq_false_iff,decide_eq_false_iff_not,decide_eq_false_iff_not]at s1
    rcases s1 with s1|s1
    .exact s1 this.1
    .exact s1 this.2
   have hx:=Bm (n:=t.nodes.length) (fun i j _ _=>Aeb ea hd i j)
   simp only[go_sem,hw,hv,p1,p3,p4,hf,p5,gH,hk,qS a h3,s1,hx,A0]
  |true=>
  have qe:AhZ t a:=by
   rw[Bool.and_eq_true,decide_eq_true_eq,decide_eq_true_eq]at s1
   exact s1
  have hu:=Bm (n:=t.nodes.length) (fun i j _ _=>A8x (t:=t) (e:=e) (I:=k) i j)
  obtain⟨T,hT⟩:∃T,T=Dn A (wdW t H a):=⟨_,rfl⟩
  have q6:=qI (wdW t H a)
  rw[<- hT]at q6
  simp only[go_sem,hw,hv,p1,p3,p4,hf,p5,gH,hk,qS a h3,s1,qd a h3,q6,length_map,A0]
  refine Aj (by decide) e.has.length (by omega) (I:=fun j F h=>A3.tmp F 28=.i .i64 k/\A3.tmp F 27=.i .i64 e.has.length/\A3.tmp F 1=.fp (Uw t e H) 0/\A3.tmp F 3=lW A/\A3.tmp F 4=lW B/\A3.tmp F 26=lI e.has/\A3.tmp F 45=lI e.has/\A3.tmp F 5=.sl 0 0 0 t.nodes.length/\A3.tmp F 7=.i .i64 a/\A3.tmp F 8=vW T/\h=[Np (BL t.nodes.length (Zf t e k j))]) ?_ ?_ 0 _ _ (by omega) ?_ ?_ ?_
  .rintro j F h hj hh hg ⟨h8,h7,q1,q3,q4,h6,h9,q5,q7,q8,rfl⟩
   have gJ:=Ak hj
   obtain⟨b,eb,h4⟩:=A9 (X.ok.node _ (Aa (d:=0) hj))
   have qb:(b:Int)∈e.has:=by rw[<- eb];exact Aa hj
   rw[eb]at gJ
   have hr:=fun hp=>HY (n:=t.nodes.length) hm h3 h4 (fun i j' _ _=>A8w (t:=t) hk hj ea eb hp i j')
   have hd:=fun hp=>Bm (n:=t.nodes.length) (fun i j' _ _=>Aea (t:=t) (I:=k) (K:=j) ea eb hp i j')
   have gR:(BL t.nodes.length (Zf t e k j))[a]? = some ((BL t.nodes.length (Zf t e k j)).getD a 0#64):=by
    rw[List.getD_eq_getElem?_getD,List.getElem?_eq_getElem (by rw[Bi];exact h3)];rfl
   have qc:∀(S:Rows) w,(S.map eW).set a [vW w]=(S.set a w).map eW:=fun S w=>by rw[map_set]
   have hy:=hi a b h3 h4
   rw[<- hT]at hy
   have qg:decide ((b:Int)≠(a:Int))=decide (b≠a):=decide_eq_decide.2 (by omega)
   cases c1:decide (b=a)with
   |true=>
    have h2:=of_decide_eq_true c1
    have hx:=hd (fun hp=>hp.2.2.1 h2.symm)
    simp only[go_sem,hh,hg,h8,h7,q1,q3,q4,h6,h9,q5,q7,q8,gJ,hj,h2,hx,A0]
   |false=>
   have h2:=of_decide_eq_false c1
   have hl:¬((b:Int)=(a:Int)):=by omega
   cases s2:decide (0<=(t.at b).thread)&&decide ((t.at b).mode=4)with
   |false=>
    have hx:=hd (fun hp=>by
     have:=hp.2.2.2.2.1
     rw[Bool.and_eq_false_iff,decide_eq_false_iff_not,decide_eq_false_iff_not]at s2
     rcases s2 with s2|s2
     .exact s2 this.1
     .exact s2 this.2)
    simp only[go_sem,hh,hg,h8,h7,q1,q3,q4,h6,h9,q5,q7,q8,gJ,hj,hl,h2,qS b h4,s2,hx,A0]
   |true=>
   have qf:AhZ t b:=by
    rw[Bool.and_eq_true,decide_eq_true_eq,decide_eq_true_eq]at s2
    exact s2
   cases d3:decide (T&&&wdW t B b=0#64)with
   |true=>
    have hc:=of_decide_eq_true d3
    have hx:=hd (fun hp=>hy.2 hp.2.2.2.2.2 hc)
    simp only[go_sem,hh,hg,h8,h7,q1,q3,q4,h6,h9,q5,q7,q8,gJ,hj,hl,h2,qS b h4,s2,q9 b h4,d3,hc,hx,A0]
   |false=>
    have hc:=of_decide_eq_false d3
    have hx:=hr ⟨qa,qb,fun h=>h2 h.symm,qe,qf,hy.1 hc⟩
    simp only[go_sem,hh,hg,h8,h7,q1,q3,q4,h6,h9,q5,q7,q8,gJ,hj,hl,h2,qS b h4,s2,q9 b h4,d3,hc,gR,h3,Bi,length_map,C5 C,qc,hx,A0]
  .rintro F h ⟨h8,h7,q1,q3,q4,h6,h9,q5,q7,q8,rfl⟩
   simp only[go_sem,h8,h7,q1,q3,q4,h6,h9,q5,q7,q8,hu]
  .simp only[go_sem]
  .simp only[go_sem]
  .simp only[go_sem,hw,hv,p1,p3,p4,hf,p5]
 .rintro F h ⟨p1,p3,p4,hf,p5,rfl⟩
  rw[ho]
  simp only[go_sem,p1,p3,p4,hf,p5,Bi,length_map,KX,Ns]
 .simp only[go_sem]
 .simp only[go_sem]
 .simp only[go_sem]
  rw[h0]
end
theorem AcB{t:A2}{e:AF}(h:Lb t e=true):hbF t e.has e.rf=DP t e.has e.rf:=by
 rw[Lb,Bool.and_eq_true]at h
 rw[hbF,h.1,if_pos rfl]
abbrev zRu:List VV:=[.i .i64 0,.ls [],.ls [],.ls [],.ls [],.ls [],.ls [],.ls []]
section
variable {V:Ai}(C:Am V){Q:VV->Prop}{t:A2}(ht:A7 t)(e:AF)(he:JR e)
include C ht he
theorem KF:VP V A80 [vT t,T5 e] Q↔Q (.tu [.ag (if Lb t e then Uw t e (DP t e.has e.rf)else zRu),.b (Lb t e)]):=by
 refine Af ?_
 rw[Ad C.c_z59.1 C.c_z59.2]
 have h1:=he.has
 have h2:=he.rf
 have qI:=fun(Q:VV->Prop)=>Th C t ht e he (Q:=Q)
 have qH:=fun(Q:VV->Prop)=>NC C t ht e.has e.rf (by omega) (by omega) (Q:=Q)
 cases d:Lb t e with
 |false=>
  simp only[A6l,go_sem,qI,d]
 |true=>
  rw[AcB d]at qH
  simp only[A6l,go_sem,qI,d,qH,List.cons_append,List.nil_append,show min 4 8=4 from rfl,show min 3 4=3 from rfl,Nat.reduceAdd,Nat.reduceSub,Nat.le_refl,decide_true]
theorem A2I:VP V A7N [vT t,T5 e] Q↔Q (lW (if Lb t e then JL t e else [])):=by
 refine Af ?_
 rw[Ad C.c_z21.1 C.c_z21.2]
 have qO:=fun(Q:VV->Prop)=>KF C ht e he (Q:=Q)
 cases d:Lb t e with
 |false=>
  rw[d]at qO
  simp only[A6e,go_sem,qO]
 |true=>
  rw[d]at qO
  have qE:=fun(Q:VV->Prop)=>Qo C ht (K7 ht d) (DP t e.has e.rf) he (Q:=Q)
  simp only[A6e,go_sem,qO,qE]
theorem Sr:VP V A7M [vT t,T5 e] Q↔Q (.b (A9k t e)):=by
 refine Af ?_
 rw[Ad C.c_z19.1 C.c_z19.2]
 have qO:=fun(Q:VV->Prop)=>KF C ht e he (Q:=Q)
 unfold A9k
 cases d:Lb t e with
 |false=>
  rw[d]at qO
  simp only[A6d,go_sem,qO,Bool.false_and]
 |true=>
  rw[d]at qO
  have qA:=fun(Q:VV->Prop)=>Lh C ht (K7 ht d) (DP t e.has e.rf) he (Q:=Q)
  simp only[A6d,go_sem,qO,qA,Bool.true_and]
theorem A2J:VP V A7P [vT t,T5 e] Q↔Q (lW (if Lb t e then Ns t e else [])):=by
 refine Af ?_
 rw[Ad C.c_z26.1 C.c_z26.2]
 have qO:=fun(Q:VV->Prop)=>KF C ht e he (Q:=Q)
 cases d:Lb t e with
 |false=>
  rw[d]at qO
  simp only[A6g,go_sem,qO]
 |true=>
  rw[d]at qO
  have qE:=fun(Q:VV->Prop)=>Qp C ht (K7 ht d) he (Q:=Q)
  simp only[A6g,go_sem,qO,qE]
theorem A0v:VP V A7L [vT t,T5 e] Q↔Q (.b (Ag5 t e)):=by
 refine Af ?_
 rw[Ad C.c_z18.1 C.c_z18.2]
 have qO:=fun(Q:VV->Prop)=>KF C ht e he (Q:=Q)
 have qX:=fun(Q:VV->Prop)=>A0k C t ht e he (Q:=Q)
 unfold Ag5
 cases d:Lb t e with
 |false=>
  have d2:Lg t e=false:=by rw[Lg,d];rfl
  rw[d]at qO
  simp only[Tn,go_sem,qO,d2,Bool.false_and]
 |true=>
  rw[d]at qO
  have qA:=fun(Q:VV->Prop)=>Lh C ht (K7 ht d) (DP t e.has e.rf) he (Q:=Q)
  have qE:=fun(Q:VV->Prop)=>Qp C ht (K7 ht d) he (Q:=Q)
  have qR:∀(Q:VV->Prop),VP V A1j [lW (Ns t e)] Q↔Q (.b (Uj (Ns t e))):=fun Q=>Po C ht.n64 (fun a b=>@decide (SE t e a b) (Classical.propDecidable _))
  cases c1:Lg t e with
  |false=>simp only[Tn,go_sem,qO,qX,c1,Bool.false_and]
  |true=>
  cases c2:e.has.all (Co t e)with
  |false=>simp only[Tn,go_sem,qO,qX,c1,qA,c2,Bool.true_and,Bool.false_and]
  |true=>simp only[Tn,go_sem,qO,qX,c1,qA,c2,qE,qR,Bool.true_and]
end
section
variable {V:Ai}(C:Am V){Q:VV->Prop}
include C
theorem RZ(l:List Int)(hl:l.length<=1000)(h0:l≠[]):VP V A7V [lI l] Q↔Q (lI l):=by
 refine Af ?_
 rw[Ad C.c_z45.1 C.c_z45.2]
 match l,h0 with
 |y::r,_=>
 have e:lI (y::r)=.ls ([.i .i64 y]::r.map eI):=rfl
 rw[e]
 have b1:(r.length+1) * 8<=A6:=by simp only[length_cons]at hl;unfold A6;omega
 simp only[AbZ,go_sem,b1,B9,A5H,Option.map_some,length_map,length_cons]
end
def ofH(x R:List Int)(M:List (List Int)):VH:=[some ⟨EB,0,0,false,[[.nl,.nl,.nl]]⟩,some (AN AG 1 (R.map eI)),some (AN BT 1 (M.map EG)),
 some ⟨EB,0,0,false,[[lI x,.sl 1 R.length 0 R.length,.sl 2 M.length 0 M.length]]⟩]
def vOf:Option AF->VV
 |some e=>.tu [T5 e,.b true]
 |none=>.tu [.ag [.ls [],.ls [],.ls []],.b false]
section
variable {V:Ai}(C:Am V){Q:VV->Prop}(t:A2)(ht:A7 t)(s:A8)(hs:GI s)
include C ht hs
theorem A9A(x:List Int)(hx:x.length<=1000)(hx0:x≠[]):VP V Ahz [vT t,HJ s,lI x] Q↔Q (vOf (P7 t s x)):=by
 refine Af ?_
 rw[Ad C.c_z8.1 C.c_z8.2]
 have qM:=fun(Q:VV->Prop)=>Zx C t ht s hs (Q:=Q)
 have qS:=fun(Q:VV->Prop)=>A1S C s hs (Q:=Q)
 have qO:=fun(Q:VV->Prop)=>D4 C x (by omega) (Q:=Q)
 have qW:=fun(a b:BitVec 64) (Q:VV->Prop)=>Hz C a b (Q:=Q)
 have qL:=fun(a:BitVec 64) (Q:VV->Prop)=>Dl C a (Q:=Q)
 have qn:=Cz (BI x)
 have qE:=fun(Q:VV->Prop)=>Kx C (AC (BI x)) x (by omega) (Q:=Q)
 have ho:=AlT ht s x
 have q4:decide (BI x&&&~~~BI s.has=0#64)=decide (BI x|||BI s.has=BI s.has):=Aaw
 cases c1:Bj t s with
 |false=>
  have e0:P7 t s x=none:=by rw[P7,ho,c1];rfl
  rw[e0]
  simp only[A9F,go_sem,qO,qM,c1]
  rfl
 |true=>
 cases c2:decide (BI x|||BI s.has=BI s.has)with
 |false=>
  have e0:P7 t s x=none:=by rw[P7,ho,c1,c2];rfl
  rw[e0]
  simp only[A9F,go_sem,qO,qM,c1,qS,qW,q4,c2]
  rfl
 |true=>
 cases c3:decide (AC (BI x)=x)with
 |false=>
  have e0:P7 t s x=none:=by rw[P7,ho,c1,c2,c3];rfl
  rw[e0]
  simp only[A9F,go_sem,qO,qM,c1,qS,qW,q4,c2,qL,qE,c3]
  rfl
 |true=>
 have hf:=BV.1 c1
 have ha:okX t s x=true:=by rw[ho,c1,c2,c3];rfl
 have qi:∀n∈x,n∈s.has:=fun n hn=>Z8 ha hn
 have q5:BF t x:=fun n hn=>hf.node _ (qi n hn)
 have qs:x.length<=64:=by rw[<- of_decide_eq_true c3];exact qn
 have qw:=hf.ml
 have qx:=hs.mo
 have q1:=fun k=>TA (t:=t) (s:=s) (x:=x) (k:=k)
 have q2:=fun k=>TB (t:=t) (s:=s) (x:=x) (k:=k)
 have q3:=A1r ha
 obtain⟨Z,hZ⟩:∃Z,Z=P7 t s x:=⟨_,rfl⟩
 rw[<- hZ]at q1 q2 q3 ⊢
 simp only[A9F,go_sem,qO,qM,c1,qS,qW,q4,c2,qL,qE,c3,RZ C x hx hx0,length_map]
 refine Aj (by decide) x.length (by omega) (I:=fun k F h=>A3.tmp F 3=.fp (eT t) 0/\A3.tmp F 4=.fp (Hd s) 0/\A3.tmp F 6=.p 0 0 0 0/\A3.tmp F 8=vW (BI x)/\A3.tmp F 9=.p 3 0 0 0/\A3.tmp F 45=lI x/\(∀j,j<k->JM t s x (x.getD j 0)=true)/\∃R,R=(x.take k).map (ME t s x)/\h=ofH x R []) ?_ ?_ 0 _ _ (by omega) ?_ ?_ ?_
 .rintro k F h hk qa q7 ⟨p3,p4,p6,p8,p9,hc,h4,R,hR,rfl⟩
  have gX:=Ak hk
  obtain⟨n,en,q0⟩:=A9 (q5 _ (Aa (d:=0) hk))
  have qp:(n:Int)∈x:=by rw[<- en];exact Aa hk
  have qg:=qi _ qp
  have qv:R.length=k:=by rw[hR,length_map,length_take];omega
  have b1:(R.length+1) * 8<=A6:=by unfold A6;omega
  have qf:(x.take (k+1)).map (ME t s x)=R++[ME t s x (n:Int)]:=by rw[J2 hk (d:=0),map_append,<- hR,en];rfl
  have qJ:=fun(Q:VV->Prop)=>A5B C s hs (n:Int) (Q:=Q)
  have nx:JM t s x (n:Int)=true->∀j,j<k+1->JM t s x (x.getD j 0)=true:=fun h j hj=>by
   by_cases c:j=k
   .subst c;rw[en];exact h
   .exact h4 j (by omega)
  have h9:=q1 k hk
  rw[en]at gX h9
  cases cj:decide (0<=Mv s n)with
  |false=>
   have qd:=of_decide_eq_false cj
   have hz:=AcC ht hf qg (by omega)
   have hv:ME t s x (n:Int)=-1:=by rw[ME,if_pos (by omega)]
   have qr:JM t s x (n:Int)=true:=by rw[JM,decide_eq_true (show Mv s n<0 by omega)];rfl
   rw[hz]at qJ
   simp only[go_sem,qa,q7,p3,p4,p6,p8,p9,hc,gX,hk,qJ,b1,ofH,CG,length_append,length_map,A0]
   exact⟨nx qr,R++[-1],by rw[qf,hv],by simp⟩
  |true=>
   have qd:=of_decide_eq_true cj
   obtain⟨w,kc,loc,e1,e2,e3,e4,e5,e6,e7,e8⟩:=QG ht hf qg qd
   have gN:=A5 q0
   have hp:rcX t s x (n:Int)=HI x (Pz s loc kc):=by
    rw[rcX,toNat_natCast,e4,e1,e6,toNat_natCast,toNat_natCast]
   have h5:=Aj4 ht hf e5 e7 q5
   have gM:=C7 e5
   have hu:(Pz s loc kc).length<=1000:=hs.mc' loc kc
   obtain⟨M,hM⟩:∃M,M=s.mo.getD loc []:=⟨_,rfl⟩
   rw[<- hM]at gM e7
   have gC:=CT e7
   have hr:M.getD kc []=Pz s loc kc:=by rw[hM];rfl
   rw[hr]at gC
   obtain⟨T,hT⟩:∃T,T=Pz s loc kc:=⟨_,rfl⟩
   rw[<- hT]at gC h5 hp hu
   rw[e1]at qJ
   have qP:=fun(Q:VV->Prop)=>SW C s hs loc w (Q:=Q)
   rw[e6]at qP
   have h6:=fun(Q:VV->Prop)=>D4 C T (by omega) (Q:=Q)
   have h0:=qL (BI T&&&BI x)
   rw[h5]at h0
   obtain⟨H,hH⟩:∃H,H=HI x T:=⟨_,rfl⟩
   rw[<- hH]at h0 hp
   have qh:JM t s x (n:Int)=decide (H.length=1):=by rw[JM,decide_eq_false (show ¬Mv s n<0 by omega),Bool.false_or,hp]
   have qq:ME t s x (n:Int)=H.getD 0 0:=by rw[ME,if_neg (by omega),hp]
   cases c1:decide (H.length=1)with
   |false=>
    have ql:¬((H.length:Int)=1):=by have:=of_decide_eq_false c1;omega
    have hq:=of_decide_eq_false c1
    have e0:=h9 (by rw[qh,c1])
    simp only[go_sem,qa,q7,p3,p4,p6,p8,p9,hc,gX,hk,qJ,gN,q0,e4,gM,e5,qP,e7,gC,h6,h0,ql,hq,ofH,length_map,A0]
    rw[e0];rfl
   |true=>
    have hq:=of_decide_eq_true c1
    have qm:=Ak (xs:=H) (k:=0) (by omega)
    simp only[go_sem,qa,q7,p3,p4,p6,p8,p9,hc,gX,hk,qJ,gN,q0,e4,gM,e5,qP,e7,gC,h6,h0,hq,qm,b1,ofH,CG,length_append,length_map,A0]
    exact⟨nx (by rw[qh,c1]),R++[H.getD 0 0],by rw[qf,qq],by simp⟩
 .rintro F h ⟨p3,p4,p6,p8,p9,hc,h4,R,hR,rfl⟩
  rw[take_length]at hR
  simp only[go_sem,p3,p4,p6,p8,p9,hc,length_map]
  refine Aj (by decide) s.mo.length (by omega) (I:=fun k F h=>A3.tmp F 6=.p 0 0 0 0/\A3.tmp F 8=vW (BI x)/\A3.tmp F 9=.p 3 0 0 0/\A3.tmp F 92=.ls (s.mo.map EV)/\(∀j,j<k->Vu x (s.mo.getD j [])=true)/\∃L,L=(s.mo.take k).map (Kb x)/\h=ofH x R L) ?_ ?_ 0 _ _ (by omega) ?_ ?_ ?_
  .rintro k F h hk qk qj ⟨p6,p8,p9,qb,h2,L,hL,rfl⟩
   have qu:L.length=k:=by rw[hL,length_map,length_take];omega
   have b2:(L.length+1) * 24<=A6:=by unfold A6;omega
   have qe:(s.mo.take (k+1)).map (Kb x)=L++[Kb x (s.mo.getD k [])]:=by rw[J2 hk (d:=[]),map_append,<- hL];rfl
   have h5:=fun j hj=>Aj4 ht hf (loc:=k) (k:=j) hk hj q5
   have h9:=q2 k hk
   have gM:=C7 hk
   have hy:=hs.mi' k
   have qo:=A4B ht hf x hk
   obtain⟨M,hM⟩:∃M,M=s.mo.getD k []:=⟨_,rfl⟩
   have hr:∀j,Pz s k j=M.getD j []:=fun j=>by rw[hM];rfl
   simp only[hr]at h5
   have hu:∀j,(M.getD j []).length<=1000:=fun j=>by rw[hM];exact hs.mc' k j
   rw[<- hM]at gM h9 qo h5 qe hy
   simp only[go_sem,qk,qj,p6,p8,p9,qb,gM,hk,ofH,length_map,A0]
   refine Aj (by decide) M.length (by omega) (I:=fun j F h=>A3.tmp F 94=.i .i64 k/\A3.tmp F 93=.i .i64 s.mo.length/\A3.tmp F 6=.p 0 0 0 0/\A3.tmp F 8=vW (BI x)/\A3.tmp F 9=.p 3 0 0 0/\A3.tmp F 92=.ls (s.mo.map EV)/\A3.tmp F 98=.ls (M.map EG)/\(∀i,i<j->(HI x (M.getD i [])).length<=1)/\∃K,K=Kb x (M.take j)/\A3.tmp F 17=.sl 4 K.length 0 K.length/\h=ofH x R L++[some (AN AG 1 (K.map eI))]) ?_ ?_ 0 _ _ (by omega) ?_ ?_ ?_
   .rintro j F h hj h3 qc ⟨hh,hg,q6,q8,q9,he,hl,h1,K,hK,hd,rfl⟩
    have gC:=CT hj
    have hb:=h5 j hj
    have hw:=hu j
    have h7:=A16 (x:=x) hj
    rw[<- hK]at h7
    obtain⟨T,hT⟩:∃T,T=M.getD j []:=⟨_,rfl⟩
    rw[<- hT]at gC hb hw h7
    have h6:=fun(Q:VV->Prop)=>D4 C T (by omega) (Q:=Q)
    have h0:=qL (BI T&&&BI x)
    rw[hb]at h0
    have nx:(HI x T).length<=1->∀i,i<j+1->(HI x (M.getD i [])).length<=1:=fun h i hi=>by
     by_cases c:i=j
     .subst c;rw[<- hT];exact h
     .exact h1 i (by omega)
    have h8:¬(HI x T).length<=1->Vu x M=false:=fun h=>A6O hj (by rw[<- hT];exact h)
    have qt:K.length<=64:=by
     have:(Kb x (M.take j)).length<=(Kb x M).length:=by
      have e:=congrArg (Kb x) (List.take_append_drop j M)
      rw[Kb,List.flatMap_append]at e
      rw[<- e,length_append]
      exact Nat.le_add_right _ _
     rw[hK];omega
    have b3:(K.length+1) * 8<=A6:=by unfold A6;omega
    obtain⟨H,hH⟩:∃H,H=HI x T:=⟨_,rfl⟩
    rw[<- hH]at h0 nx h8 h7
    match H,hH with
    | [],hH=>
     have b4:K.length * 8<=A6:=by unfold A6;omega
     simp only[go_sem,h3,qc,hh,hg,q6,q8,q9,he,hl,hd,gC,hj,h6,h0,ofH,b4,map_nil,List.length_nil,append_nil,length_map,A0]
     exact⟨nx (by simp),K,by rw[h7,append_nil],rfl,rfl⟩
    | [y],hH=>
     simp only[go_sem,h3,qc,hh,hg,q6,q8,q9,he,hl,hd,gC,hj,h6,h0,ofH,b3,CG,List.map_cons,map_nil,List.length_nil,length_cons,length_append,length_map,A0]
     exact⟨nx (by simp),K++[y],h7.symm,by simp,rfl⟩
    |y::z::r,hH=>
     have e0:=h9 (h8 (by simp))
     have c1:(1:Int)<((r.length+1+1:Nat):Int):=by omega
     simp only[go_sem,h3,qc,hh,hg,q6,q8,q9,he,hl,hd,gC,hj,h6,h0,ofH,b3,c1,decide_true,length_cons,length_map,A0]
     rw[e0];rfl
   .rintro F h ⟨hh,hg,q6,q8,q9,he,hl,h1,K,hK,hd,rfl⟩
    rw[take_length]at hK
    have hm:=A15 h1
    subst hK
    simp only[go_sem,hh,hg,q6,q8,q9,he,hl,hd,b2,ofH,Zy,length_append,length_map]
    refine⟨fun i hi=>?_,L++[Kb x M],qe.symm,by simp⟩
    by_cases c:i=k
    .subst c;rw[<- hM];exact hm
    .exact h2 i (by omega)
   .simp only[go_sem]
   .simp only[go_sem]
   .simp only[go_sem,qk,qj,p6,p8,p9,qb]
    exact⟨fun i hi=>by omega,[],rfl,rfl,rfl⟩
  .rintro F h ⟨p6,p8,p9,qb,h2,L,hL,rfl⟩
   rw[take_length]at hL
   have e0:=q3 (fun j hj=>h4 j hj) h2
   subst hL hR
   rw[e0]
   simp only[go_sem,p6,p8,p9,ofH,length_map]
   rfl
  .simp only[go_sem]
  .simp only[go_sem]
  .simp only[go_sem,p6,p8,p9]
   exact⟨fun i hi=>by omega,[],rfl,rfl⟩
 .simp only[go_sem]
 .simp only[go_sem]
 .simp only[go_sem]
  exact⟨fun i hi=>by omega,[],rfl,rfl⟩
end
def AcK(l:List Int):Int:=l.getLast?.getD (-1)
theorem A1Z{x l:List Int}{j:Nat}(hj:j<l.length):HI x (l.take (j+1))=HI x (l.take j)++(if AQ x (l.getD j 0)then [l.getD j 0]else []):=by
 rw[J2 hj (d:=0),HI,HI,List.filter_append]
 congr 1
 split
 .rename_i h;rw[List.filter_cons_of_pos h,List.filter_nil]
 .rename_i h;rw[List.filter_cons_of_neg h,List.filter_nil]
theorem Si(x:List Int)(n:Int):decide (0<=BH x n)=AQ x n:=by
 cases c:AQ x n with
 |true=>obtain⟨k,e,_⟩:=Bn c;rw[e];exact decide_eq_true (by omega)
 |false=>rw[MQ c];rfl
theorem A9V{l:List Int}(h:l.length=1):AcK l=l.getD 0 0:=by
 match l,h with
 | [a],_=>rfl
section
variable {V:Ai}(C:Am V){Q:VV->Prop}
include C
theorem Nz(e:AF)(he:JR e):VP V A7K [T5 e,T5 e] Q↔Q (.b true):=by
 refine Af ?_
 rw[Ad C.c_z10.1 C.c_z10.2]
 have h1:=he.has
 have h2:=he.rf
 have h3:=he.mo
 have q1:=fun(Q:VV->Prop)=>Ga C e.has e.has (by omega) (Q:=Q)
 have q2:=fun(Q:VV->Prop)=>Ga C e.rf e.rf (by omega) (Q:=Q)
 simp only[Ait,go_sem,q1,q2,length_map]
 refine Ab (by decide) e.mo.length (by omega) (I:=fun k F h=>A3.tmp F 2=.fp (Uv e) 0/\A3.tmp F 3=.fp (Uv e) 0/\h=[]) ?_ ?_ ?_ 0 _ _ (zero_le _) ?_ ?_
 .rintro k F h hk p5 ⟨p2,p3,rfl⟩
  simp only[go_sem,p5,p2,p3,length_map]
 .rintro k F h hk p5 ⟨p2,p3,rfl⟩
  have hm:=he.mi' k
  have gM:=CT hk
  have q:=fun(Q:VV->Prop)=>Ga C (e.mo.getD k []) (e.mo.getD k []) (by omega) (Q:=Q)
  simp only[go_sem,p5,p2,p3,gM,hk,q,A0]
 .rintro F h ⟨p2,p3,rfl⟩
  simp only[go_sem,p2,p3]
 .simp only[go_sem]
 .simp only[go_sem]
end
def Pd(x R:List Int)(M:List (List Int)):VH:=[some ⟨EB,0,0,false,[[.nl,.nl,.nl]]⟩,some (LC AG 1 (x.map eI)),some (AN AG 1 (R.map eI)),some (AN BT 1 (M.map EG)),
 some ⟨EB,0,0,false,[[.sl 1 (E0 x.length) 0 x.length,.sl 2 R.length 0 R.length,.sl 3 M.length 0 M.length]]⟩]
theorem AlU{t:A2}{s:A8}{x:List Int}(h:Bj t s=true)(h1:∀j,j<x.length->AQ s.has (x.getD j 0)=true)(h2:∀j,j<x.length->Ch x j=true):okX t s x=true:=by
 rw[okX,h,Bool.true_and,Bool.and_eq_true,Ag]
 exact⟨E6.2 h1,h2⟩
theorem AhE{t:A2}{s:A8}{x:List Int}{k:Nat}(hk:k<x.length)(h:AQ s.has (x.getD k 0)=false):P7 t s x=none:=Nq (by
 rw[Bool.eq_false_iff]
 intro hc
 have:=Z8 hc (Aa (d:=0) hk)
 rw[Ac.2 this]at h;cases h)
theorem AhF{t:A2}{s:A8}{x:List Int}{k:Nat}(hk:k<x.length)(h:Ch x k=false):P7 t s x=none:=Nq (by
 rw[Bool.eq_false_iff]
 intro hc
 rw[okX,Bool.and_eq_true,Ag]at hc
 rw[hc.2 k hk]at h;cases h)
section
variable {V:Ai}(C:Am V){Q:VV->Prop}(t:A2)(ht:A7 t)(s:A8)(hs:GI s)
include C ht hs
theorem Zq(x:List Int)(hx:x.length<=1000):VP V AlL [vT t,HJ s,lI x] Q↔Q (vOf (P7 t s x)):=by
 refine Af ?_
 rw[Ad C.c_z9.1 C.c_z9.2]
 have qF:=fun(Q:VV->Prop)=>BE C t ht s hs (Q:=Q)
 have g1:=hs.has
 have qc:=fun(n:Int) (Q:VV->Prop)=>Ae C s.has (by omega) n (Q:=Q)
 have qd:=fun(n:Int) (Q:VV->Prop)=>Ae C x (by omega) n (Q:=Q)
 have b0:x.length * 8<=A6:=by unfold A6;omega
 cases c1:Bj t s with
 |false=>
  have e0:P7 t s x=none:=Nq (by rw[okX,c1];rfl)
  rw[e0]
  simp only[Ak8,go_sem,qF,c1]
  rfl
 |true=>
 have hf:=BV.1 c1
 have pf:=hs.mo
 have q1:=fun k=>TA (t:=t) (s:=s) (x:=x) (k:=k)
 have q2:=fun k=>TB (t:=t) (s:=s) (x:=x) (k:=k)
 have q3:=fun h=>A1r (t:=t) (s:=s) (x:=x) h
 have q4:=fun k=>AhE (t:=t) (s:=s) (x:=x) (k:=k)
 have q5:=fun k=>AhF (t:=t) (s:=s) (x:=x) (k:=k)
 obtain⟨Z,hZ⟩:∃Z,Z=P7 t s x:=⟨_,rfl⟩
 rw[<- hZ]at q1 q2 q3 q4 q5 ⊢
 simp only[Ak8,go_sem,qF,c1,b0,length_map]
 refine Ab (by decide) x.length (by omega) (I:=fun k F h=>A3.tmp F 2=lI x/\A3.tmp F 3=.fp (eT t) 0/\A3.tmp F 4=.fp (Hd s) 0/\A3.tmp F 6=.p 0 0 0 0/\A3.tmp F 8=.p 4 0 0 0/\(∀j,j<k->AQ s.has (x.getD j 0)=true/\Ch x j=true)/\h=Pd x [] []) ?_ ?_ ?_ 0 _ _ (zero_le _) ?_ ?_
 .rintro k F h hk p9 ⟨p2,p3,p4,p6,p8,h0,rfl⟩
  simp only[go_sem,p9,p2,p3,p4,p6,p8,length_map]
  exact h0
 .rintro k F h hk p9 ⟨p2,p3,p4,p6,p8,h0,rfl⟩
  have gX:=Ak hk
  have hu:=q4 k hk
  have qo:=q5 k hk
  have wi:=Si s.has (x.getD k 0)
  have hr:Ch x k=(decide (k=0)||decide (x.getD (k-1) 0<x.getD k 0)):=rfl
  have nx:AQ s.has (x.getD k 0)=true->Ch x k=true->∀j,j<k+1->AQ s.has (x.getD j 0)=true/\Ch x j=true:=fun h1 h2 j hj=>by
   by_cases c:j=k
   .subst c;exact⟨h1,h2⟩
   .exact h0 j (by omega)
  obtain⟨n,hn⟩:∃n,n=x.getD k 0:=⟨_,rfl⟩
  rw[<- hn]at gX hu wi hr nx
  cases c2:AQ s.has n with
  |false=>
   have e0:=hu c2
   rw[c2]at wi
   have h3:BH s.has n<0:=by have:=of_decide_eq_false wi;omega
   simp only[go_sem,p9,p2,p3,p4,p6,p8,gX,hk,qc,h3,Pd,A0]
   rw[e0];rfl
  |true=>
   rw[c2]at wi
   have h3:¬BH s.has n<0:=by have:=of_decide_eq_true wi;omega
   cases c3:decide (0<k)with
   |false=>
    have k0:k=0:=by have:=of_decide_eq_false c3;omega
    have q0:¬((0:Int)<(k:Int)):=by omega
    have h8:Ch x k=true:=by rw[hr,decide_eq_true k0];rfl
    simp only[go_sem,p9,p2,p3,p4,p6,p8,gX,hk,qc,h3,q0,Pd,A0]
    exact nx c2 h8
   |true=>
    have k0:=of_decide_eq_true c3
    have q0:(0:Int)<(k:Int):=by omega
    have w1:IntKind.i64.wrap ((k:Int)-1)=((k-1:Nat):Int):=by rw[Ax (by omega) (by omega)];omega
    have ql:k-1<x.length:=by omega
    have gY:=Ak ql
    obtain⟨m,hm⟩:∃m,m=x.getD (k-1) 0:=⟨_,rfl⟩
    rw[<- hm]at gY hr
    cases c4:decide (n<=m)with
    |true=>
     have qf:=of_decide_eq_true c4
     have h8:Ch x k=false:=by rw[hr,decide_eq_false (by omega),decide_eq_false (by omega)];rfl
     have e0:=qo h8
     simp only[go_sem,p9,p2,p3,p4,p6,p8,gX,hk,qc,h3,q0,w1,ql,gY,c4,qf,Pd,A0]
     rw[e0];rfl
    |false=>
     have qf:=of_decide_eq_false c4
     have h8:Ch x k=true:=by rw[hr,decide_eq_true (show m<n by omega),Bool.or_true]
     simp only[go_sem,p9,p2,p3,p4,p6,p8,gX,hk,qc,h3,q0,w1,ql,gY,c4,qf,Pd,A0]
     exact nx c2 h8
 .rintro F h ⟨p2,p3,p4,p6,p8,h0,rfl⟩
  have hw:=AlU c1 (fun j hj=>(h0 j hj).1) (fun j hj=>(h0 j hj).2)
  have qx:∀n∈x,n∈s.has:=fun n hn=>Z8 hw hn
  have pc:BF t x:=fun n hn=>hf.node _ (qx n hn)
  have q3:=q3 hw
  simp only[go_sem,p2,p3,p4,p6,p8]
  refine Ab (by decide) x.length (by omega) (I:=fun k F h=>A3.tmp F 2=lI x/\A3.tmp F 3=.fp (eT t) 0/\A3.tmp F 4=.fp (Hd s) 0/\A3.tmp F 6=.p 0 0 0 0/\A3.tmp F 8=.p 4 0 0 0/\(∀j,j<k->JM t s x (x.getD j 0)=true)/\∃R,R=(x.take k).map (ME t s x)/\h=Pd x R []) ?_ ?_ ?_ 0 _ _ (zero_le _) ?_ ?_
  .rintro k F h hk hz ⟨p2,p3,p4,p6,p8,h6,R,hR,rfl⟩
   simp only[go_sem,hz,p2,p3,p4,p6,p8,length_map]
   exact⟨h6,R,hR,rfl⟩
  .rintro k F h hk hz ⟨p2,p3,p4,p6,p8,h6,R,hR,rfl⟩
   have gX:=Ak hk
   obtain⟨n,en,pg⟩:=A9 (pc _ (Aa (d:=0) hk))
   have pb:(n:Int)∈x:=by rw[<- en];exact Aa hk
   have qu:=qx _ pb
   have pe:R.length=k:=by rw[hR,length_map,length_take];omega
   have b1:(R.length+1) * 8<=A6:=by unfold A6;omega
   have qt:(x.take (k+1)).map (ME t s x)=R++[ME t s x (n:Int)]:=by rw[J2 hk (d:=0),map_append,<- hR,en];rfl
   have qJ:=fun(Q:VV->Prop)=>LW C s hs (n:Int) (Q:=Q)
   have nx:JM t s x (n:Int)=true->∀j,j<k+1->JM t s x (x.getD j 0)=true:=fun h j hj=>by
    by_cases c:j=k
    .subst c;rw[en];exact h
    .exact h6 j (by omega)
   have hq:=q1 k hk
   rw[en]at gX hq
   cases cj:decide (Mv s n<0)with
   |true=>
    have qg:=of_decide_eq_true cj
    have qn:=AcC ht hf qu qg
    have hv:ME t s x (n:Int)=-1:=by rw[ME,if_pos (by omega)]
    have h8:JM t s x (n:Int)=true:=by rw[JM,cj];rfl
    rw[qn]at qJ
    simp only[go_sem,hz,p2,p3,p4,p6,p8,gX,hk,qJ,b1,Pd,CG,length_append,length_map,A0]
    exact⟨nx h8,R++[-1],by rw[qt,hv],by simp⟩
   |false=>
    have qg:=of_decide_eq_false cj
    obtain⟨w,kc,loc,e1,e2,e3,e4,e5,e6,e7,e8⟩:=QG ht hf qu (by omega)
    obtain⟨w',ew,qw⟩:=A9 (hf.node _ e2)
    have:w'=w:=by omega
    subst this
    have gN:=A5 qw
    have qq:rcX t s x (n:Int)=HI x (Pz s loc kc):=by
     rw[rcX,toNat_natCast,e4,e1,e6,toNat_natCast,toNat_natCast]
    have gM:=C7 e5
    have qi:(Pz s loc kc).length<=1000:=hs.mc' loc kc
    obtain⟨M,hM⟩:∃M,M=s.mo.getD loc []:=⟨_,rfl⟩
    rw[<- hM]at gM e7
    have gC:=CT e7
    have p5:M.getD kc []=Pz s loc kc:=by rw[hM];rfl
    rw[p5]at gC
    obtain⟨T,hT⟩:∃T,T=Pz s loc kc:=⟨_,rfl⟩
    rw[<- hT]at gC qq qi
    rw[e1]at qJ
    have qP:=fun(Q:VV->Prop)=>ES C s hs loc w' (Q:=Q)
    rw[e6]at qP
    have qp:JM t s x (n:Int)=decide ((HI x T).length=1):=by rw[JM,cj,Bool.false_or,qq]
    have qv:ME t s x (n:Int)=(HI x T).getD 0 0:=by rw[ME,if_neg qg,qq]
    have wn:¬((w':Int)<0):=by omega
    simp only[go_sem,hz,p2,p3,p4,p6,p8,gX,hk,qJ,wn,gN,qw,e3,gM,e5,qP,e7,gC,Pd,length_map,A0]
    refine Ab (by decide) T.length (by omega) (I:=fun j F h=>A3.tmp F 10=.i .i64 k/\A3.tmp F 2=lI x/\A3.tmp F 3=.fp (eT t) 0/\A3.tmp F 4=.fp (Hd s) 0/\A3.tmp F 6=.p 0 0 0 0/\A3.tmp F 8=.p 4 0 0 0/\A3.tmp F 13=lI T/\(∃L,L=HI x (T.take j)/\A3.tmp F 14=.i .i64 (AcK L)/\A3.tmp F 15=.i .i64 L.length)/\h=Pd x R []) ?_ ?_ ?_ 0 _ _ (zero_le _) ?_ ?_
    .rintro j F h hj qe ⟨h9,r2,r3,r4,r6,r8,ha,⟨L,hL,hb,hc⟩,rfl⟩
     simp only[go_sem,qe,h9,r2,r3,r4,r6,r8,ha,hb,hc,length_map]
     exact⟨L,hL,rfl,rfl⟩
    .rintro j F h hj qe ⟨h9,r2,r3,r4,r6,r8,ha,⟨L,hL,hb,hc⟩,rfl⟩
     have gT:=Ak hj
     have hn:=A1Z (x:=x) hj
     have wi:=Si x (T.getD j 0)
     have p0:L.length<=1000:=by
      have:L.length<=(T.take j).length:=by rw[hL];exact List.length_filter_le _ _
      rw[length_take]at this;omega
     have w1:IntKind.i64.wrap ((L.length:Int)+1)=((L.length+1:Nat):Int):=by rw[Ax (by omega) (by omega)];omega
     rw[<- hL]at hn
     obtain⟨y,hy⟩:∃y,y=T.getD j 0:=⟨_,rfl⟩
     rw[<- hy]at gT hn wi
     cases c5:AQ x y with
     |true=>
      rw[c5]at wi
      have h3:=of_decide_eq_true wi
      rw[c5,if_pos rfl]at hn
      simp only[go_sem,qe,h9,r2,r3,r4,r6,r8,ha,hb,hc,gT,hj,qd,h3,w1,Pd,A0]
      exact⟨L++[y],hn.symm,by simp[AcK],by simp⟩
     |false=>
      rw[c5]at wi
      have h3:=of_decide_eq_false wi
      rw[c5,if_neg (by decide),append_nil]at hn
      simp only[go_sem,qe,h9,r2,r3,r4,r6,r8,ha,hb,hc,gT,hj,qd,h3,w1,Pd,A0]
      exact⟨L,hn.symm,rfl,rfl⟩
    .rintro F h ⟨h9,r2,r3,r4,r6,r8,ha,⟨L,hL,hb,hc⟩,rfl⟩
     rw[take_length]at hL
     rw[<- hL]at qp qv
     cases c6:decide (L.length=1)with
     |false=>
      have hh:=of_decide_eq_false c6
      have hp:¬((L.length:Int)=1):=by omega
      have e0:=hq (by rw[qp,c6])
      simp only[go_sem,h9,r2,r3,r4,r6,r8,ha,hb,hc,hh,hp,Pd]
      rw[e0];rfl
     |true=>
      have hh:=of_decide_eq_true c6
      have p7:=A9V hh
      simp only[go_sem,h9,r2,r3,r4,r6,r8,ha,hb,hc,hh,p7,b1,Pd,CG,length_append,length_map]
      exact⟨nx (by rw[qp,c6]),R++[L.getD 0 0],by rw[qt,qv],by simp⟩
    .simp only[go_sem]
    .simp only[go_sem,hz,p2,p3,p4,p6,p8,Pd]
     exact⟨[],rfl,rfl,rfl⟩
  .rintro F h ⟨p2,p3,p4,p6,p8,h6,R,hR,rfl⟩
   rw[take_length]at hR
   simp only[go_sem,p2,p3,p4,p6,p8]
   refine Ab (by decide) s.mo.length (by omega) (I:=fun k F h=>A3.tmp F 2=lI x/\A3.tmp F 4=.fp (Hd s) 0/\A3.tmp F 6=.p 0 0 0 0/\A3.tmp F 8=.p 4 0 0 0/\(∀j,j<k->Vu x (s.mo.getD j [])=true)/\∃L,L=(s.mo.take k).map (Kb x)/\h=Pd x R L) ?_ ?_ ?_ 0 _ _ (zero_le _) ?_ ?_
   .rintro k F h hk q9 ⟨p2,p4,p6,p8,h5,L,hL,rfl⟩
    simp only[go_sem,q9,p2,p4,p6,p8,length_map]
    exact⟨h5,L,hL,rfl⟩
   .rintro k F h hk q9 ⟨p2,p4,p6,p8,h5,L,hL,rfl⟩
    have p0:L.length=k:=by rw[hL,length_map,length_take];omega
    have b2:(L.length+1) * 24<=A6:=by unfold A6;omega
    have qs:(s.mo.take (k+1)).map (Kb x)=L++[Kb x (s.mo.getD k [])]:=by rw[J2 hk (d:=[]),map_append,<- hL];rfl
    have hq:=q2 k hk
    have gM:=C7 hk
    have qm:=hs.mi' k
    have pa:=A4B ht hf x hk
    have qj:∀j,((s.mo.getD k []).getD j []).length<=1000:=fun j=>hs.mc' k j
    obtain⟨M,hM⟩:∃M,M=s.mo.getD k []:=⟨_,rfl⟩
    rw[<- hM]at gM hq pa qs qm
    have qi:∀j,(M.getD j []).length<=1000:=fun j=>by rw[hM];exact qj j
    simp only[go_sem,q9,p2,p4,p6,p8,gM,hk,Pd,length_map,A0]
    refine Ab (by decide) M.length (by omega) (I:=fun j F h=>A3.tmp F 17=.i .i64 k/\A3.tmp F 2=lI x/\A3.tmp F 4=.fp (Hd s) 0/\A3.tmp F 6=.p 0 0 0 0/\A3.tmp F 8=.p 4 0 0 0/\(∀i,i<j->(HI x (M.getD i [])).length<=1)/\∃K,K=Kb x (M.take j)/\A3.tmp F 18=.sl 5 K.length 0 K.length/\h=Pd x R L++[some (AN AG 1 (K.map eI))]) ?_ ?_ ?_ 0 _ _ (zero_le _) ?_ ?_
    .rintro j F h hj qa ⟨hl,q2,q4,q6,q8,h4,K,hK,ho,rfl⟩
     simp only[go_sem,qa,hl,q2,q4,q6,q8,ho,gM,hk,length_map]
     exact⟨h4,K,hK,rfl,rfl⟩
    .rintro j F h hj qa ⟨hl,q2,q4,q6,q8,h4,K,hK,ho,rfl⟩
     have gC:=CT hj
     have qk:=qi j
     have q7:=A16 (x:=x) hj
     rw[<- hK]at q7
     obtain⟨T,hT⟩:∃T,T=M.getD j []:=⟨_,rfl⟩
     rw[<- hT]at gC qk q7
     have nx:(HI x T).length<=1->∀i,i<j+1->(HI x (M.getD i [])).length<=1:=fun h i hi=>by
      by_cases c:i=j
      .subst c;rw[<- hT];exact h
      .exact h4 i (by omega)
     have qh:¬(HI x T).length<=1->Vu x M=false:=fun h=>A6O hj (by rw[<- hT];exact h)
     have qy:(K++HI x T).length<=64:=by
      have:(Kb x (M.take (j+1))).length<=(Kb x M).length:=by
       have e:=congrArg (Kb x) (List.take_append_drop (j+1) M)
       rw[Kb,List.flatMap_append]at e
       rw[<- e,length_append]
       exact Nat.le_add_right _ _
      rw[<- q7];omega
     simp only[go_sem,qa,hl,q2,q4,q6,q8,ho,gC,hj,Pd,length_map,A0]
     refine Ab (by decide) T.length (by omega) (I:=fun i F h=>A3.tmp F 19=.i .i64 j/\A3.tmp F 17=.i .i64 k/\A3.tmp F 2=lI x/\A3.tmp F 4=.fp (Hd s) 0/\A3.tmp F 6=.p 0 0 0 0/\A3.tmp F 8=.p 4 0 0 0/\A3.tmp F 20=.i .i64 (HI x (T.take i)).length/\∃N,N=K++HI x (T.take i)/\A3.tmp F 18=.sl 5 N.length 0 N.length/\h=Pd x R L++[some (AN AG 1 (N.map eI))]) ?_ ?_ ?_ 0 _ _ (zero_le _) ?_ ?_
     .rintro i F h hi qb ⟨hg,hd,r2,r4,r6,r8,h7,N,hN,he,rfl⟩
      simp only[go_sem,qb,hg,hd,r2,r4,r6,r8,h7,he,gM,hk,gC,hj,length_map]
      exact⟨N,hN,rfl,rfl⟩
     .rintro i F h hi qb ⟨hg,hd,r2,r4,r6,r8,h7,N,hN,he,rfl⟩
      have gT:=Ak hi
      have hn:=A1Z (x:=x) hi
      have wi:=Si x (T.getD i 0)
      obtain⟨L2,qr⟩:∃L2,L2=HI x (T.take i):=⟨_,rfl⟩
      have p1:L2.length<=1000:=by
       have:L2.length<=(T.take i).length:=by rw[qr];exact List.length_filter_le _ _
       rw[length_take]at this;omega
      have w1:IntKind.i64.wrap ((L2.length:Int)+1)=((L2.length+1:Nat):Int):=by rw[Ax (by omega) (by omega)];omega
      rw[<- qr]at hn hN h7
      have qz:K.length<=64:=by rw[length_append]at qy;omega
      have pd:N.length<=1064:=by rw[hN,length_append];omega
      have b3:(N.length+1) * 8<=A6:=by unfold A6;omega
      obtain⟨y,hy⟩:∃y,y=T.getD i 0:=⟨_,rfl⟩
      rw[<- hy]at gT hn wi
      cases c5:AQ x y with
      |true=>
       rw[c5]at wi
       have h3:=of_decide_eq_true wi
       rw[c5,if_pos rfl]at hn
       simp only[go_sem,qb,hg,hd,r2,r4,r6,r8,h7,he,gM,hk,gC,hj,gT,hi,qd,h3,w1,b3,Pd,CG,length_append,length_map,A0]
       exact⟨by rw[hn];simp,N++[y],by rw[hn,hN,List.append_assoc],by simp,rfl⟩
      |false=>
       rw[c5]at wi
       have h3:=of_decide_eq_false wi
       rw[c5,if_neg (by decide),append_nil]at hn
       simp only[go_sem,qb,hg,hd,r2,r4,r6,r8,h7,he,gM,hk,gC,hj,gT,hi,qd,h3,w1,b3,Pd,length_append,length_map,A0]
       exact⟨by rw[hn],N,by rw[hn,hN],rfl,rfl⟩
     .rintro F h ⟨hg,hd,r2,r4,r6,r8,h7,N,hN,he,rfl⟩
      rw[take_length]at hN h7
      cases c6:decide (1<(HI x T).length)with
      |true=>
       have hh:=of_decide_eq_true c6
       have hp:(1:Int)<((HI x T).length:Int):=by omega
       have e0:=hq (qh (by omega))
       simp only[go_sem,hg,hd,r2,r4,r6,r8,h7,he,hp,Pd]
       rw[e0];rfl
      |false=>
       have hh:=of_decide_eq_false c6
       have hp:¬((1:Int)<((HI x T).length:Int)):=by omega
       simp only[go_sem,hg,hd,r2,r4,r6,r8,h7,he,hp,Pd]
       exact⟨nx (by omega),N,by rw[hN,q7],rfl,rfl⟩
     .simp only[go_sem]
     .simp only[go_sem,qa,hl,q2,q4,q6,q8,ho,Pd]
      exact⟨rfl,K,by simp[HI],rfl,rfl⟩
    .rintro F h ⟨hl,q2,q4,q6,q8,h4,K,hK,ho,rfl⟩
     rw[take_length]at hK
     have hm:=A15 h4
     subst hK
     simp only[go_sem,hl,q2,q4,q6,q8,ho,b2,Pd,Zy,length_append,length_map]
     refine⟨fun i hi=>?_,L++[Kb x M],qs.symm,by simp⟩
     by_cases c:i=k
     .subst c;rw[<- hM];exact hm
     .exact h5 i (by omega)
    .simp only[go_sem]
    .simp only[go_sem,q9,p2,p4,p6,p8]
     exact⟨fun i hi=>by omega,[],rfl,rfl,rfl⟩
   .rintro F h ⟨p2,p4,p6,p8,h5,L,hL,rfl⟩
    rw[take_length]at hL
    have e0:=q3 (fun j hj=>h6 j hj) h5
    subst hL hR
    rw[e0]
    simp only[go_sem,p2,p4,p6,p8,Pd,length_map]
    rfl
   .simp only[go_sem]
   .simp only[go_sem,p2,p4,p6,p8]
    exact⟨fun i hi=>by omega,[],rfl,rfl⟩
  .simp only[go_sem]
  .simp only[go_sem,p2,p3,p4,p6,p8]
   exact⟨fun i hi=>by omega,[],rfl,rfl⟩
 .simp only[go_sem]
 .simp only[go_sem]
  exact⟨fun i hi=>by omega,rfl⟩
end
theorem AlD{e:AF}{L:Nat}(hL:e.mo.length<=L)(I K a b:Nat):QT e L I K a b↔QT e e.mo.length 0 0 a b:=by
 unfold QT
 refine exists_congr fun l=>exists_congr fun i=>exists_congr fun k=>?_
 constructor
 .rintro⟨h1,h2,h3,h4,h5,_⟩;exact⟨h1,h2,h3,h4,h5,.inl h1⟩
 .rintro⟨h1,h2,h3,h4,h5,_⟩;exact⟨h1,h2,h3,h4,h5,.inl (by omega)⟩
theorem Ahp{e:AF}{L:Nat}(K K' a b:Nat):QT e L (e.mo.getD L []).length K a b↔QT e L (e.mo.getD L []).length K' a b:=by
 unfold QT
 refine exists_congr fun l=>exists_congr fun i=>exists_congr fun k=>?_
 constructor
 all_goals
  rintro⟨h1,h2,h3,h4,h5,h6⟩
  refine⟨h1,h2,h3,h4,h5,?_⟩
  rcases h6 with h|⟨h,g|⟨g,_⟩⟩
  .exact .inl h
  .exact .inr ⟨h,.inl g⟩
  .subst h;omega
theorem Adh{e:AF}(a b:Nat):QT e 0 0 1 a b↔False:=by
 unfold QT
 constructor
 .rintro⟨l,i,k,h1,h2,h3,h4,h5,h6⟩;omega
 .exact False.elim
theorem Aee{t:A2}{e:AF}(a b:Nat):rdV t e 0 a b↔False:=by
 unfold rdV
 constructor
 .rintro⟨j,h,_⟩;omega
 .exact False.elim
def ecK(t:A2)(e:AF)(I:Nat)(a b:Nat):Prop:=moX t e a b\/rdV t e I a b
def ecW(t:A2)(e:AF)(I:Nat)(M:List Int)(K:Nat)(a b:Nat):Prop:=moX t e a b\/rdW t e I M K a b
theorem Aom{t:A2}{e:AF}{I x y:Nat}{M:List Int}{K:Nat}(hx:e.rf.getD I 0=(x:Int))(hy:e.has.getD I 0=(y:Int))(hK:(K:Int)=BH M x+1)(a b:Nat):ecW t e I M K a b↔ecK t e I a b\/(a=x/\b=y):=by
 unfold ecW ecK rdW
 rw[hx,hy,or_assoc]
 refine or_congr Iff.rfl (or_congr Iff.rfl ?_)
 constructor
 .rintro(⟨h1,h2⟩|⟨_,k,h1,h2,_⟩)
  .exact⟨by omega,by omega⟩
  .omega
 .rintro⟨h1,h2⟩;exact .inl ⟨by omega,by omega⟩
theorem A5N{a x b y:Nat}:((x:Int)=(a:Int)/\(y:Int)=(b:Int))↔(a=x/\b=y):=by omega
section
variable {V:Ai}(C:Am V){Q:VV->Prop}{t:A2}(ht:A7 t)(e:AF)(he:JR e)
include C ht he
theorem P8:VP V AdG [vT t,T5 e] Q↔Q (lW (if Lb t e then JL t e else [])):=by
 refine Af ?_
 rw[Ad C.c_z53.1 C.c_z53.2]
 have qF:=fun(Q:VV->Prop)=>DE C t ht e he (Q:=Q)
 rw[A4q ht]at qF
 cases hX:Lb t e with
 |false=>simp only[Ac2,go_sem,qF,hX]
 |true=>
 have X:=K7 ht hX
 have h1:=he.has
 have h2:=he.rf
 have h3:=he.mo
 have hl:=X.ok.len
 have hj:=ht.n64
 have qg:=X.ml
 have b0:t.nodes.length * 8<=A6:=by unfold A6;omega
 have h0:=(Bm (n:=t.nodes.length) (fun a b _ _=>Adh (e:=e) a b)).trans (KW _)
 simp only[Ac2,go_sem,qF,hX,b0,length_map,Int.le_refl]
 refine Ab (by decide) e.mo.length (by omega) (I:=fun L F h=>A3.tmp F 2=.fp (eT t) 0/\A3.tmp F 3=.fp (Uv e) 0/\A3.tmp F 5=.sl 0 0 0 t.nodes.length/\h=[Np (BL t.nodes.length (QT e L 0 1))]) ?_ ?_ ?_ 0 _ _ (zero_le _) ?_ ?_
 .rintro L F h hL p6 ⟨p2,p3,p5,rfl⟩
  simp only[go_sem,p6,p2,p3,p5,length_map]
 .rintro L F h hL p6 ⟨p2,p3,p5,rfl⟩
  have gM:=CT hL
  have ho:=he.mi' L
  have q8:L<t.locs.length:=by omega
  have h6:=fun x hx=>A99 ht X q8 (x:=x) hx
  have hk:=fun(I K:Nat)=>Ap7 (e:=e) (L:=L) (I:=I) (K:=K) ht X hL
  have hi:=fun(I:Nat)=>Bm (n:=t.nodes.length) (fun a b _ _=>Ap6 (e:=e) (L:=L) (I:=I) ht X a b)
  have hu:=Bm (n:=t.nodes.length) (fun a b _ _=>(Ap8 (e:=e) (L:=L) ht X a b).trans (Ahp 0 ((e.mo.getD L []).length+1) a b))
  obtain⟨M,hM⟩:∃M,M=e.mo.getD L []:=⟨_,rfl⟩
  rw[<- hM]at gM ho h6 hu
  simp only[<- hM]at hk hi
  simp only[go_sem,p6,p2,p3,p5,gM,hL,A0]
  refine Ab (by decide) M.length (by omega) (I:=fun i F h=>A3.tmp F 6=.i .i64 L/\A3.tmp F 2=.fp (eT t) 0/\A3.tmp F 3=.fp (Uv e) 0/\A3.tmp F 5=.sl 0 0 0 t.nodes.length/\h=[Np (BL t.nodes.length (QT e L i (i+1)))]) ?_ ?_ ?_ 0 _ _ (zero_le _) ?_ ?_
  .rintro i F h hd q7 ⟨q6,q2,q3,q5,rfl⟩
   simp only[go_sem,q7,q6,q2,q3,q5,gM,hL,length_map]
  .rintro i F h hd q7 ⟨q6,q2,q3,q5,rfl⟩
   have gx:=Ak hd
   obtain⟨x,ex,hp,_⟩:=h6 _ (Aa (d:=0) hd)
   rw[ex]at gx
   have w1:IntKind.i64.wrap ((i:Int)+1)=((i+1:Nat):Int):=by rw[Ax (by omega) (by omega)];omega
   have qa:=hi i
   simp only[go_sem,q7,q6,q2,q3,q5,w1,A0]
   refine Ab (by decide) M.length (by omega) (I:=fun k F h=>A3.tmp F 7=.i .i64 i/\A3.tmp F 6=.i .i64 L/\A3.tmp F 2=.fp (eT t) 0/\A3.tmp F 3=.fp (Uv e) 0/\A3.tmp F 5=.sl 0 0 0 t.nodes.length/\i<k/\h=[Np (BL t.nodes.length (QT e L i k))]) ?_ ?_ ?_ (i+1) _ _ (by omega) ?_ ?_
   .rintro k F h h9 r8 ⟨r7,r6,r2,r3,r5,hf,rfl⟩
    simp only[go_sem,r8,r7,r6,r2,r3,r5,gM,hL,length_map]
    exact hf
   .rintro k F h h9 r8 ⟨r7,r6,r2,r3,r5,hf,rfl⟩
    have gy:=Ak h9
    obtain⟨y,ey,h7,_⟩:=h6 _ (Aa (d:=0) h9)
    rw[ey]at gy
    have h5:=HY (n:=t.nodes.length) (P:=QT e L i k) (P':=QT e L i (k+1)) hj hp h7 (fun a b _ _=>by rw[hk i k hf h9 a b,ex,ey];exact or_congr Iff.rfl A5N)
    have gR:(BL t.nodes.length (QT e L i k))[x]? = some ((BL t.nodes.length (QT e L i k)).getD x 0#64):=by
     rw[List.getD_eq_getElem?_getD,List.getElem?_eq_getElem (by rw[Bi];exact hp)];rfl
    have hg:∀(S:Rows) w,(S.map eW).set x [vW w]=(S.set x w).map eW:=fun S w=>by rw[map_set]
    simp only[go_sem,r8,r7,r6,r2,r3,r5,gM,hL,gx,hd,gy,h9,gR,hp,Bi,length_map,AP C,hg,h5,A0]
    omega
   .rintro F h ⟨r7,r6,r2,r3,r5,hf,rfl⟩
    rw[<- qa]
    simp only[go_sem,r7,r6,r2,r3,r5]
   .simp only[go_sem]
   .simp only[go_sem,q7,q6,q2,q3,q5]
    omega
  .rintro F h ⟨q6,q2,q3,q5,rfl⟩
   simp only[go_sem,q6,q2,q3,q5,hu]
  .simp only[go_sem]
  .simp only[go_sem,p6,p2,p3,p5]
 .rintro F h ⟨p2,p3,p5,rfl⟩
  have qc:BL t.nodes.length (QT e e.mo.length 0 1)=BL t.nodes.length (ecK t e 0):=Bm fun a b _ _=>by
   rw[AlD (Nat.le_refl _),Aho ht X,ecK,Aee,or_false]
  have hm:BL t.nodes.length (ecK t e e.has.length)=BL t.nodes.length (stX t e):=Bm fun a b _ _=>by
   rw[ecK,AhO ht X,stX]
   constructor
   .rintro(h|h|h);exact .inr (.inl h);exact .inl h;exact .inr (.inr h)
   .rintro(h|h|h);exact .inr (.inl h);exact .inl h;exact .inr (.inr h)
  rw[qc]
  simp only[go_sem,p2,p3,p5]
  refine Ab (by decide) e.has.length (by omega) (I:=fun i F h=>A3.tmp F 2=.fp (eT t) 0/\A3.tmp F 3=.fp (Uv e) 0/\A3.tmp F 5=.sl 0 0 0 t.nodes.length/\h=[Np (BL t.nodes.length (ecK t e i))]) ?_ ?_ ?_ 0 _ _ (zero_le _) ?_ ?_
  .rintro i F h hi p9 ⟨p2,p3,p5,rfl⟩
   simp only[go_sem,p9,p2,p3,p5,length_map]
  .rintro i F h hi p9 ⟨p2,p3,p5,rfl⟩
   have gR:=Ak (show i<e.rf.length by omega)
   have hr:i<e.rf.length:=by omega
   have gH:=Ak hi
   obtain⟨y,ey,h7⟩:=A9 (X.ok.node _ (Aa (d:=0) hi))
   have qd:(y:Int)∈e.has:=by rw[<- ey];exact Aa hi
   have hw:CA e.has e.rf y=e.rf.getD i 0:=by rw[<- ey];exact X.ok.at_ i hi
   rw[ey]at gH
   cases c0:decide (e.rf.getD i 0<0)with
   |true=>
    have hh:=of_decide_eq_true c0
    have qb:BL t.nodes.length (ecK t e (i+1))=BL t.nodes.length (ecK t e i):=Bm fun a b _ _=>by
     rw[ecK,Aef ht X hh,<- ecK]
    simp only[go_sem,p9,p2,p3,p5,gR,hr,hh,qb,A0]
   |false=>
   have hh:=of_decide_eq_false c0
   obtain⟨x,e1,e2,e3,e4,e5⟩:=A9a ht X qd (by rw[hw];omega)
   rw[hw]at e1
   obtain⟨g1,g2,g3,g4⟩:=A2k ht X e2 e3
   obtain⟨loc,h4⟩:=Int.eq_ofNat_of_zero_le g2
   have hv:loc<t.locs.length:=by omega
   have ha:loc<e.mo.length:=by omega
   have gM:=CT ha
   have ho:=he.mi' loc
   have gN:=A5 g1
   have hy:=Bn (Ac.2 (show(x:Int)∈e.mo.getD loc [] by rw[HC,h4,toNat_natCast]at g4;exact g4))
   have h8:=Bm (n:=t.nodes.length) (fun a b _ _=>or_congr (Iff.rfl (a:=moX t e a b)) (AhP (I:=i) ht X (by omega) hv (by rw[e1,toNat_natCast];exact h4) a b))
   have h6:=fun z hz=>A99 ht X hv (x:=z) hz
   have q0:=fun(K:Nat) h1 h2 (a b:Nat)=>or_congr (Iff.rfl (a:=moX t e a b)) (Aps (t:=t) (e:=e) (I:=i) (M:=e.mo.getD loc []) (K:=K) ht X h1 h2 a b)
   obtain⟨M,hM⟩:∃M,M=e.mo.getD loc []:=⟨_,rfl⟩
   rw[<- hM]at gM ho hy h8 h6
   simp only[<- hM]at q0
   obtain⟨k0,ek,qf,_⟩:=hy
   have w1:IntKind.i64.wrap ((k0:Int)+1)=((k0+1:Nat):Int):=by rw[Ax (by omega) (by omega)];omega
   have qW:=fun(Q:VV->Prop)=>Ae C M (by omega) x (Q:=Q)
   rw[ek]at qW
   rw[e1]at gR
   have wn:¬((x:Int)<0):=by omega
   have h5:=HY (n:=t.nodes.length) (P:=ecK t e i) (P':=ecW t e i M (k0+1)) hj g1 h7 (fun a b _ _=>Aom e1 ey (by rw[ek];omega) a b)
   have q1:(BL t.nodes.length (ecK t e i))[x]? = some ((BL t.nodes.length (ecK t e i)).getD x 0#64):=by
    rw[List.getD_eq_getElem?_getD,List.getElem?_eq_getElem (by rw[Bi];exact g1)];rfl
   have hg:∀z (S:Rows) w,(S.map eW).set z [vW w]=(S.set z w).map eW:=fun z S w=>by rw[map_set]
   simp only[go_sem,p9,p2,p3,p5,gR,hr,wn,gH,hi,q1,g1,Bi,length_map,AP C,hg,h5,gN,h4,gM,ha,qW,w1,A0]
   refine Ab (by decide) M.length (by omega) (I:=fun k F h=>A3.tmp F 9=.i .i64 i/\A3.tmp F 2=.fp (eT t) 0/\A3.tmp F 3=.fp (Uv e) 0/\A3.tmp F 5=.sl 0 0 0 t.nodes.length/\A3.tmp F 11=lI M/\k0<k/\h=[Np (BL t.nodes.length (ecW t e i M k))]) ?_ ?_ ?_ (k0+1) _ _ (by omega) ?_ ?_
   .rintro k F h hk hq ⟨q9,q2,q3,q5,hc,hn,rfl⟩
    simp only[go_sem,hq,q9,q2,q3,q5,hc,length_map]
    exact hn
   .rintro k F h hk hq ⟨q9,q2,q3,q5,hc,hn,rfl⟩
    have gz:=Ak hk
    obtain⟨z,ez,qe,_⟩:=h6 _ (Aa (d:=0) hk)
    rw[ez]at gz
    have hb:=HY (n:=t.nodes.length) (P:=ecW t e i M k) (P':=ecW t e i M (k+1)) hj h7 qe (fun a b _ _=>by
     unfold ecW
     rw[q0 k (by rw[e1,ek];omega) hk a b,ey,ez,or_assoc]
     exact or_congr Iff.rfl (or_congr Iff.rfl A5N))
    have q4:(BL t.nodes.length (ecW t e i M k))[y]? = some ((BL t.nodes.length (ecW t e i M k)).getD y 0#64):=by
     rw[List.getD_eq_getElem?_getD,List.getElem?_eq_getElem (by rw[Bi];exact h7)];rfl
    simp only[go_sem,hq,q9,q2,q3,q5,hc,gH,hi,gz,hk,q4,h7,Bi,length_map,AP C,hg,hb,A0]
    omega
   .rintro F h ⟨q9,q2,q3,q5,hc,hn,rfl⟩
    have:BL t.nodes.length (ecW t e i M M.length)=BL t.nodes.length (ecK t e (i+1)):=h8
    rw[this]
    simp only[go_sem,q9,q2,q3,q5,hc]
   .simp only[go_sem]
   .simp only[go_sem,p9,p2,p3,p5]
    omega
  .rintro F h ⟨p2,p3,p5,rfl⟩
   rw[hm]
   have qP:=fun(Q:VV->Prop)=>Kq C (BL t.nodes.length (stX t e)) (by rw[Bi];omega) (Q:=Q)
   simp only[go_sem,p2,p3,p5,Bi,KX,length_map,qP,JL]
  .simp only[go_sem]
  .simp only[go_sem,p2,p3,p5]
 .simp only[go_sem]
 .simp only[go_sem]
  rw[h0]
end
theorem Ai7(l:List Int)(n:Int) : -1<=BH l n:=by
 cases c:AQ l n with
 |true=>obtain⟨j,ej,_⟩:=Bn c;omega
 |false=>rw[MQ c];omega
theorem Ai8(l:List Int)(n:Int):BH l n<l.length:=UB _ _
abbrev AhB(n:AI):Option VO:=some ⟨BS,0,0,false,[eN n]⟩
section
variable {V:Ai}(C:Am V){Q:VV->Prop}{t:A2}(ht:A7 t)(e:AF)(he:JR e)
include C ht he
theorem Ks:VP V AdH [vT t,T5 e] Q↔Q (.b (A9k t e)):=by
 refine Af ?_
 rw[Ad C.c_z54.1 C.c_z54.2]
 have qF:=fun(Q:VV->Prop)=>DE C t ht e he (Q:=Q)
 rw[A4q ht]at qF
 unfold A9k
 cases hX:Lb t e with
 |false=>simp only[Ac3,go_sem,qF,hX,Bool.false_and]
 |true=>
 have X:=K7 ht hX
 have h1:=he.has
 have h2:=he.rf
 have hl:=X.ok.len
 have q1:=X.ml
 have hh:∀k,k<e.has.length->Co t e (e.has.getD k 0)=false->e.has.all (Co t e)=false:=fun k hk h=>by
  rw[Bool.eq_false_iff]
  intro h7
  rw[E6 (d:=0).1 h7 k hk]at h
  cases h
 have h4:(∀k,k<e.has.length->Co t e (e.has.getD k 0)=true)->e.has.all (Co t e)=true:=E6.2
 obtain⟨G,hG⟩:∃G,G=e.has.all (Co t e):=⟨_,rfl⟩
 rw[<- hG]at hh h4 ⊢
 have qW:=fun(n:Int) (Q:VV->Prop)=>Ae C e.has (by omega) n (Q:=Q)
 have qM:=fun(loc w:Int) (Q:VV->Prop)=>MF C e he loc w (Q:=Q)
 simp only[Ac3,go_sem,qF,hX,Bool.true_and]
 refine Ab (by decide) e.has.length (by omega) (I:=fun k F h=>A3.tmp F 2=.fp (eT t) 0/\A3.tmp F 3=.fp (Uv e) 0/\(∀j,j<k->Co t e (e.has.getD j 0)=true)/\h=[]) ?_ ?_ ?_ 0 _ _ (zero_le _) ?_ ?_
 .rintro k F h hk p5 ⟨p2,p3,h0,rfl⟩
  simp only[go_sem,p5,p2,p3,length_map]
  exact h0
 .rintro k F h hk p5 ⟨p2,p3,h0,rfl⟩
  have gH:=Ak hk
  have hm:=Aa (d:=0) hk
  have hn:=hh k hk
  obtain⟨n,en,h3⟩:=A9 (X.ok.node _ hm)
  rw[en]at gH hm hn
  have gN:=A5 h3
  have nx:Co t e n=true->∀j,j<k+1->Co t e (e.has.getD j 0)=true:=fun h j hj=>by
   by_cases c:j=k
   .subst c;rw[en];exact h
   .exact h0 j (by omega)
  cases hr:(t.at n).rmw with
  |false=>
   have ha:Co t e n=true:=by rw[Co,toNat_natCast,hr];rfl
   cases k3:decide ((t.at n).kind=3)with
   |true=>
    have hc:=of_decide_eq_true k3
    simp only[go_sem,p5,p2,p3,gH,hk,gN,h3,hc,hr,A0]
    exact nx ha
   |false=>
    have hc:=of_decide_eq_false k3
    simp only[go_sem,p5,p2,p3,gH,hk,gN,h3,hc,A0]
    exact nx ha
  |true=>
   obtain⟨q2,hv,k2,q0,k3⟩:=ht.rw1 h3 hr
   have hb:=ht.wloc h3 (.inr k3)
   obtain⟨loc,h9⟩:=Int.eq_ofNat_of_zero_le hb.1
   have hz:loc<e.mo.length:=by omega
   have hp:∀w,P3 e loc w=BH (e.mo.getD loc []) w:=fun w=>by
    rw[P3,if_neg (by omega),toNat_natCast]
   have h5:=fun(w:Int) (Q:VV->Prop)=>qM loc w Q
   simp only[hp]at h5
   have ha:Co t e n=(decide (0<=CA e.has e.rf (t.at n).up)&&decide (BH (e.mo.getD loc []) n=BH (e.mo.getD loc []) (CA e.has e.rf (t.at n).up)+1)):=by
    rw[Co,toNat_natCast,hr,HC,h9,toNat_natCast];rfl
   have ho:=he.mi' loc
   have u1:=fun w=>Ai8 (e.mo.getD loc []) w
   have u2:=fun w=>Ai7 (e.mo.getD loc []) w
   obtain⟨M,hf⟩:∃M,M=e.mo.getD loc []:=⟨_,rfl⟩
   rw[<- hf]at ha ho
   simp only[<- hf]at h5 u1 u2
   cases ci:AQ e.has (t.at n).up with
   |false=>
    have hw:=MQ ci
    have hi:Co t e n=false:=by rw[ha,CA,ci];rfl
    have hg:=hn hi
    have wn:BH e.has (t.at n).up<0:=by omega
    simp only[go_sem,p5,p2,p3,gH,hk,gN,h3,k3,hr,qW,wn,hg,A0]
   |true=>
    obtain⟨j,ej,hx,hy,_⟩:=Bn ci
    have hq:CA e.has e.rf (t.at n).up=e.rf.getD j 0:=by rw[CA,ci,if_pos rfl,ej,toNat_natCast]
    have hu:=(X.ok.read _ (Ac.1 ci) (by rw[hv,toNat_natCast];exact k2)).1
    obtain⟨w,ew,_⟩:=A9 (X.ok.node _ hu)
    rw[hq]at ew ha
    have h8:j<e.rf.length:=by omega
    have gR:=Ak h8
    rw[ew]at gR ha
    rw[decide_eq_true (show(0:Int)<=(w:Int) by omega),Bool.true_and]at ha
    have wn:¬((j:Int)<0):=by omega
    have w1:IntKind.i64.wrap (BH M w+1)=BH M w+1:=Ax (by have:=u2 w;omega) (by have:=u1 w;omega)
    have hd:=fun(Q:VV->Prop)=>qW (t.at n).up Q
    rw[ej]at hd
    cases c3:decide (BH M n=BH M w+1)with
    |true=>
     rw[c3]at ha
     have h6:=of_decide_eq_true c3
     simp only[go_sem,p5,p2,p3,gH,hk,gN,h3,k3,hr,hd,wn,h9,gR,h8,h5,w1,h6,A0]
     exact nx ha
    |false=>
     rw[c3]at ha
     have hg:=hn ha
     have h6:=of_decide_eq_false c3
     have c3'':¬(BH M w+1=BH M n):=fun h=>h6 h.symm
     simp only[go_sem,p5,p2,p3,gH,hk,gN,h3,k3,hr,hd,wn,h9,gR,h8,h5,w1,c3'',hg,A0]
 .rintro F h ⟨p2,p3,h0,rfl⟩
  have hg:=h4 h0
  simp only[go_sem,p2,p3,hg]
 .simp only[go_sem]
 .simp only[go_sem]
  exact fun j hj=>by omega
end
end Go.AM
