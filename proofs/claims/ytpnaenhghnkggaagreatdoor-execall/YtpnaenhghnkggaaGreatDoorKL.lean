/-
  Own work, part of the proof of these laws: what functions compute.
-/
import Derived.Test.YtpnaenhghnkggaaGreatDoorKK
set_option maxRecDepth 10000
set_option maxHeartbeats 64000000
set_option linter.unusedVariables false
set_option linter.unusedSimpArgs false
set_option linter.unusedSectionVars false
open Bool (and_eq_true or_eq_true)
open Int (toNat_natCast)
open List (length_map length_append length_cons nil_append map_append append_assoc range_succ cons_append append_nil any_eq_true length_nil map_nil any_nil)
open Nat (zero_le lt_or_ge add_assoc)
namespace Go.AM
open Go Go.Proofs
def hgW(t:A2)(s:A8)(e:Nat):BitVec 64:=(Av t.nodes.length (hgB t s)).getD e 0#64
def HgK(L:List Int)(v k:Nat)(K:List Int)(w:Nat):Prop:=K=L++(List.range k).map (fun(k:Nat)=>(k:Int))/\w=v+k
structure HgI(t:A2)(s:A8)(e:Nat)(S:BitVec 64)(L:List Int)(i:Nat):Prop where
 le:i<=L.length
 reach:∀x∈L,∃m:Nat,x=m/\m<t.nodes.length/\(m:Int)∈s.has/\hgB t s e m=true
 done:∀j,j<i->S.getLsbD (L.getD j 0).toNat=true
 sub:∀m:Nat,S.getLsbD m=true->hgB t s e m=true/\m<t.nodes.length
 clo:∀m:Nat,S.getLsbD m=true->∀r∈Ps t s m,r∈L
 first:(e:Int)∈L
 size:L.length+6 * Hn S<=1+6 * 64
section
variable {t:A2}(ht:A7 t){s:A8}(hf:B2 t s){e:Nat}(he:(e:Int)∈s.has){S:BitVec 64}{L:List Int}{i:Nat}(I:HgI t s e S L i)
include ht hf he I
theorem HgI.skip(hi:i<L.length){m:Nat}(hm:L.getD i 0=(m:Int))(h:S.getLsbD m=true):HgI t s e S L (i+1):=
 ⟨hi,I.reach,fun j hj=>by
  by_cases c:j=i
  .rw[c,hm];exact h
  .exact I.done j (by omega),I.sub,I.clo,I.first,I.size⟩
theorem HgI.put(hi:i<L.length){m:Nat}(hm:L.getD i 0=(m:Int))(h:S.getLsbD m=false):HgI t s e (S|||BC (m:Int)) (L++Ps t s m) (i+1):=by
 have hc:=ht.n64
 obtain⟨m',e1,h9,h8,h4⟩:=I.reach _ (Aa (d:=0) hi)
 rw[hm]at e1
 have e1:m=m':=by omega
 subst e1
 have h7:e<t.nodes.length:=by
  obtain⟨_,e2,h2⟩:=A9 (hf.node _ he);omega
 have hb:∀x:Nat,(S|||BC (m:Int)).getLsbD x=true↔S.getLsbD x=true\/x=m:=fun x=>by
  rw[BitVec.getLsbD_or,or_eq_true,C2]
  simp only[decide_eq_true_eq]
  constructor
  .rintro(h|h)
   .exact .inl h
   .exact .inr (by omega)
  .rintro(h|h)
   .exact .inl h
   .exact .inr ⟨by omega,by omega⟩
 have h0:∀j,j<L.length->(L++Ps t s m).getD j 0=L.getD j 0:=fun j hj=>by
  rw[List.getD_eq_getElem?_getD,List.getElem?_append_left hj,<- List.getD_eq_getElem?_getD]
 refine⟨by rw[length_append];omega,fun x hx=>?_,fun j hj=>?_,fun x hx=>?_,fun x hx r hr=>?_,List.mem_append_left _ I.first,?_⟩
 .rcases List.mem_append.1 hx with hx|hx
  .exact I.reach x hx
  .obtain⟨r,rfl,h5,ha,h6⟩:=Aeu ht hf h8 hx
   refine⟨r,rfl,h5,ha,?_⟩
   rw[A4n ht h7]at h4 ⊢
   left
   rcases h4 with h|h
   .exact .more h h5 h6
   .rw[h];exact .one h5 h6
 .rw[h0 j (by omega),hb]
  by_cases c:j=i
  .right;rw[c,hm,toNat_natCast]
  .exact .inl (I.done j (by omega))
 .rcases(hb x).1 hx with h|h
  .exact I.sub x h
  .rw[h];exact⟨h4,h9⟩
 .rcases(hb x).1 hx with h|h
  .exact List.mem_append_left _ (I.clo x h r hr)
  .rw[h]at hr;exact List.mem_append_right _ hr
 .have h1:=A0K (S:=S) (n:=m) (by omega) h
  have h2:=A1U t ht s m
  have h3:=I.size
  rw[length_append];omega
theorem HgI.fin(hi:¬i<L.length):S=hgW t s e:=by
 have h3:=ht.n64
 have h1:e<t.nodes.length:=by
  obtain⟨_,e2,h2⟩:=A9 (hf.node _ he);omega
 have h0:∀r:Nat,(r:Int)∈L->S.getLsbD r=true:=fun r hr=>by
  obtain⟨j,hj,ej⟩:=List.getElem_of_mem hr
  have:=I.done j (by have:=I.le;omega)
  rw[List.getD_eq_getElem?_getD,List.getElem?_eq_getElem hj,Option.getD_some,ej,toNat_natCast]at this
  exact this
 apply B4
 intro j hj
 rw[hgW,List.getD_eq_getElem?_getD,BK h1,Option.getD_some,AA,decide_eq_true hj,Bool.and_true,Bool.eq_iff_iff,and_eq_true,decide_eq_true_eq]
 constructor
 .intro h
  exact⟨(I.sub j h).2,(I.sub j h).1⟩
 .rintro⟨_,h⟩
  exact(S2 ht hf (S:=fun m=>S.getLsbD m=true) (fun n hn _ r hr=>h0 r (I.clo n hn _ hr)) he (h0 e I.first) h).1
end
section
variable {V:Ai}(C:Am V){Q:VV->Prop}
include C
theorem SK(t:A2)(ht:A7 t)(s:A8)(hs:GI s)(hf:B2 t s){e:Nat}(he:(e:Int)∈s.has):VP V A5a [vT t,HJ s,.i .i64 e] Q↔Q (vW (hgW t s e)):=by
 refine Af ?_
 rw[Ad C.c_z155.1 C.c_z155.2]
 have h9:=ht.n64
 have l4:=ht.l4
 obtain⟨e',e1,h7⟩:=A9 (hf.node _ he)
 have e1:e=e':=by omega
 subst e1
 simp only[AbB,go_sem]
 unfold VL
 rw[A0]
 refine AJ (M:=Nat) (I:=fun x F h=>A3.tmp F 3=.fp (eT t) 0/\A3.tmp F 4=.fp (Hd s) 0/\∃S L i v,HgI t s e S L i/\L.length=v+1/\x=8 * Hn S+(L.length-i)/\A3.tmp F 7=vW S/\A3.tmp F 8=.sl 0 v 0 (v+1)/\A3.tmp F 9=.i .i64 (i:Nat)/\h=[some ⟨AG,1,v,false,L.map eI⟩]) (μ:=fun x=>x) ?_ (8 * Hn 0#64+1) _ _ ⟨?_,?_,0#64,[(e:Int)],0,0,?_,rfl,rfl,?_,?_,?_,?_⟩
 .rintro x F h ⟨p3,p4,S,L,i,v,I,hv,hx,p7,p8,p9,rfl⟩
  have ha:L.length<=385:=by have:=I.size;omega
  have h5:(L.map eI).length=v+1:=by rw[length_map];exact hv
  by_cases c:i<L.length
  .obtain⟨m,hm,h1,hc,hd⟩:=I.reach _ (Aa (d:=0) c)
   have gL:=Ak c
   rw[hm]at gL
   have ci:decide ((i:Int)<((v+1:Nat):Int))=true:=decide_eq_true (by omega)
   have cj:decide (i<v+1)=true:=decide_eq_true (by omega)
   have cv:i<v+1:=by omega
   have wi:IntKind.i64.wrap ((i:Int)+1)=((i+1:Nat):Int):=by rw[Ax (by omega) (by omega)];omega
   cases d:Bh S (m:Int)with
   |true=>
    simp only[Ef,go_sem,p3,p4,p7,p8,p9,c,ci,cj,cv,hv,gL,AT C,d,wi,A0]
    rw[Aq]at d
    exact⟨_,by omega,S,L,i+1,I.skip ht hf he c hm d,v,hv,rfl,rfl,rfl,rfl,rfl⟩
   |false=>
    have d':=d
    rw[Aq]at d'
    have P:=I.put ht hf he c hm d'
    have hb:=A0K (S:=S) (n:=m) (by omega) d'
    have hg:=A1U t ht s m
    have hj:=fun(Q:VV->Prop)=>LW C s hs (m:Int) (Q:=Q)
    have b1:(v+1+1) * 8<=A6:=by unfold A6;omega
    have b2:(v+1+1+1) * 8<=A6:=by unfold A6;omega
    obtain⟨j,h8⟩:∃j,j=Mv s m:=⟨_,rfl⟩
    rw[<- h8]at hj
    have h0:Ps t s m=(if 0<=j then [j]else [])++(if 0<=(t.at m).up then [(t.at m).up]else [])++(if 0<=(t.at m).thread then(List.range t.locs.length).map fun(k:Nat)=>(k:Int)else []):=by rw[h8];rfl
    rcases Int.lt_or_le j 0 with c1|c1
    .have d1:decide (0<=j)=false:=decide_eq_false (by omega)
     rw[if_neg (by omega)]at h0
     rcases Int.lt_or_le (t.at m).up 0 with c2|c2
     .have d2:decide (0<=(t.at m).up)=false:=decide_eq_false (by omega)
      rw[if_neg (by omega)]at h0
      rcases Int.lt_or_le (t.at m).thread 0 with c3|c3
      .have d3:decide (0<=(t.at m).thread)=false:=decide_eq_false (by omega)
       rw[if_neg (by omega)]at h0
       simp only[Ef,go_sem,p3,p4,p7,p8,p9,c,ci,cj,cv,hv,gL,AT C,AP C,d,wi,hj,d1,d2,h1,A5 h1,b1,b2,h5,CG,length_append,length_map,A0,d3]
       rw[h0]at P
       simp only[append_nil,nil_append,append_assoc,cons_append]at P
       exact⟨8 * Hn (S|||BC (m:Int))+((L).length-(i+1)),by(try simp only[length_append,length_cons,length_nil]);omega,_,_,i+1,P,v,by(try simp only[length_append,length_cons,length_nil]);omega,rfl,rfl,rfl,rfl,rfl⟩
      .have d3:decide (0<=(t.at m).thread)=true:=decide_eq_true c3
       rw[if_pos c3]at h0
       simp only[Ef,go_sem,p3,p4,p7,p8,p9,c,ci,cj,cv,hv,gL,AT C,AP C,d,wi,hj,d1,d2,h1,A5 h1,b1,b2,h5,CG,length_append,length_map,A0,d3]
       refine Ab (by decide) t.locs.length (by omega) (I:=fun k F h=>A3.tmp F 3=.fp (eT t) 0/\A3.tmp F 4=.fp (Hd s) 0/\A3.tmp F 7=vW (S|||BC (m:Int))/\A3.tmp F 9=.i .i64 (i:Nat)/\∃K v',HgK (L) (v) k K v'/\A3.tmp F 8=.sl 0 v' 0 (v' + 1)/\h=[some ⟨AG,1,v',false,K.map eI⟩]) ?_ ?_ ?_ 0 _ _ (zero_le _) ?_ ?_
       .rintro k F h hk h3 ⟨q3,q4,q7,q9,K,v',hK,q8,rfl⟩
        simp only[go_sem,h3,q3,q4,q7,q8,q9]
        exact⟨K,v',hK,rfl,rfl⟩
       .rintro k F h hk h3 ⟨q3,q4,q7,q9,K,v',hK,q8,rfl⟩
        have h6:=hK.2
        have h2:(K.map eI).length=v' + 1:=by rw[length_map,hK.1];simp only[length_append,length_cons,length_nil,length_map,List.length_range];omega
        have b3:(v' + 1+1) * 8<=A6:=by unfold A6;omega
        simp only[go_sem,h3,q3,q4,q7,q8,q9,h2,b3,CG,A0]
        exact⟨K++[(k:Int)],v' + 1,⟨by rw[hK.1,range_succ,map_append,<- append_assoc];rfl,by omega⟩,rfl,rfl⟩
       .rintro F h ⟨q3,q4,q7,q9,K,v',hK,q8,rfl⟩
        have h6:=hK.2
        have h2:K.length=v' + 1:=by rw[hK.1];simp only[length_append,length_cons,length_nil,length_map,List.length_range];omega
        rw[h0]at P
        simp only[append_nil,nil_append,append_assoc,cons_append]at P
        have h4:=hK.1
        (try simp only[append_assoc,cons_append,nil_append]at h4)
        rw[<- h4]at P
        simp only[go_sem,q3,q4,q7,q8,q9,wi]
        exact⟨8 * Hn (S|||BC (m:Int))+(K.length-(i+1)),by omega,_,K,i+1,P,v',h2,rfl,rfl,rfl,rfl,rfl⟩
       .simp only[go_sem]
       .simp only[go_sem,p3,p4,p8,p9]
        exact⟨_,_,⟨by rw[List.range_zero,map_nil,append_nil],rfl⟩,rfl,rfl⟩
     .have d2:decide (0<=(t.at m).up)=true:=decide_eq_true c2
      rw[if_pos c2]at h0
      rcases Int.lt_or_le (t.at m).thread 0 with c3|c3
      .have d3:decide (0<=(t.at m).thread)=false:=decide_eq_false (by omega)
       rw[if_neg (by omega)]at h0
       simp only[Ef,go_sem,p3,p4,p7,p8,p9,c,ci,cj,cv,hv,gL,AT C,AP C,d,wi,hj,d1,d2,h1,A5 h1,b1,b2,h5,CG,length_append,length_map,A0,d3]
       rw[h0]at P
       simp only[append_nil,nil_append,append_assoc,cons_append]at P
       exact⟨8 * Hn (S|||BC (m:Int))+((L++[(t.at m).up]).length-(i+1)),by(try simp only[length_append,length_cons,length_nil]);omega,_,_,i+1,P,v+1,by(try simp only[length_append,length_cons,length_nil]);omega,rfl,rfl,rfl,rfl,rfl⟩
      .have d3:decide (0<=(t.at m).thread)=true:=decide_eq_true c3
       rw[if_pos c3]at h0
       simp only[Ef,go_sem,p3,p4,p7,p8,p9,c,ci,cj,cv,hv,gL,AT C,AP C,d,wi,hj,d1,d2,h1,A5 h1,b1,b2,h5,CG,length_append,length_map,A0,d3]
       refine Ab (by decide) t.locs.length (by omega) (I:=fun k F h=>A3.tmp F 3=.fp (eT t) 0/\A3.tmp F 4=.fp (Hd s) 0/\A3.tmp F 7=vW (S|||BC (m:Int))/\A3.tmp F 9=.i .i64 (i:Nat)/\∃K v',HgK (L++[(t.at m).up]) (v+1) k K v'/\A3.tmp F 8=.sl 0 v' 0 (v' + 1)/\h=[some ⟨AG,1,v',false,K.map eI⟩]) ?_ ?_ ?_ 0 _ _ (zero_le _) ?_ ?_
       .rintro k F h hk h3 ⟨q3,q4,q7,q9,K,v',hK,q8,rfl⟩
        simp only[go_sem,h3,q3,q4,q7,q8,q9]
        exact⟨K,v',hK,rfl,rfl⟩
       .rintro k F h hk h3 ⟨q3,q4,q7,q9,K,v',hK,q8,rfl⟩
        have h6:=hK.2
        have h2:(K.map eI).length=v' + 1:=by rw[length_map,hK.1];simp only[length_append,length_cons,length_nil,length_map,List.length_range];omega
        have b3:(v' + 1+1) * 8<=A6:=by unfold A6;omega
        simp only[go_sem,h3,q3,q4,q7,q8,q9,h2,b3,CG,A0]
        exact⟨K++[(k:Int)],v' + 1,⟨by rw[hK.1,range_succ,map_append,<- append_assoc];rfl,by omega⟩,rfl,rfl⟩
       .rintro F h ⟨q3,q4,q7,q9,K,v',hK,q8,rfl⟩
        have h6:=hK.2
        have h2:K.length=v' + 1:=by rw[hK.1];simp only[length_append,length_cons,length_nil,length_map,List.length_range];omega
        rw[h0]at P
        simp only[append_nil,nil_append,append_assoc,cons_append]at P
        have h4:=hK.1
        (try simp only[append_assoc,cons_append,nil_append]at h4)
        rw[<- h4]at P
        simp only[go_sem,q3,q4,q7,q8,q9,wi]
        exact⟨8 * Hn (S|||BC (m:Int))+(K.length-(i+1)),by omega,_,K,i+1,P,v',h2,rfl,rfl,rfl,rfl,rfl⟩
       .simp only[go_sem]
       .simp only[go_sem,p3,p4,p8,p9]
        exact⟨_,_,⟨by rw[List.range_zero,map_nil,append_nil],rfl⟩,rfl,rfl⟩
    .have d1:decide (0<=j)=true:=decide_eq_true c1
     rw[if_pos c1]at h0
     rcases Int.lt_or_le (t.at m).up 0 with c2|c2
     .have d2:decide (0<=(t.at m).up)=false:=decide_eq_false (by omega)
      rw[if_neg (by omega)]at h0
      rcases Int.lt_or_le (t.at m).thread 0 with c3|c3
      .have d3:decide (0<=(t.at m).thread)=false:=decide_eq_false (by omega)
       rw[if_neg (by omega)]at h0
       simp only[Ef,go_sem,p3,p4,p7,p8,p9,c,ci,cj,cv,hv,gL,AT C,AP C,d,wi,hj,d1,d2,h1,A5 h1,b1,b2,h5,CG,length_append,length_map,A0,d3]
       rw[h0]at P
       simp only[append_nil,nil_append,append_assoc,cons_append]at P
       exact⟨8 * Hn (S|||BC (m:Int))+((L++[j]).length-(i+1)),by(try simp only[length_append,length_cons,length_nil]);omega,_,_,i+1,P,v+1,by(try simp only[length_append,length_cons,length_nil]);omega,rfl,rfl,rfl,rfl,rfl⟩
      .have d3:decide (0<=(t.at m).thread)=true:=decide_eq_true c3
       rw[if_pos c3]at h0
       simp only[Ef,go_sem,p3,p4,p7,p8,p9,c,ci,cj,cv,hv,gL,AT C,AP C,d,wi,hj,d1,d2,h1,A5 h1,b1,b2,h5,CG,length_append,length_map,A0,d3]
       refine Ab (by decide) t.locs.length (by omega) (I:=fun k F h=>A3.tmp F 3=.fp (eT t) 0/\A3.tmp F 4=.fp (Hd s) 0/\A3.tmp F 7=vW (S|||BC (m:Int))/\A3.tmp F 9=.i .i64 (i:Nat)/\∃K v',HgK (L++[j]) (v+1) k K v'/\A3.tmp F 8=.sl 0 v' 0 (v' + 1)/\h=[some ⟨AG,1,v',false,K.map eI⟩]) ?_ ?_ ?_ 0 _ _ (zero_le _) ?_ ?_
       .rintro k F h hk h3 ⟨q3,q4,q7,q9,K,v',hK,q8,rfl⟩
        simp only[go_sem,h3,q3,q4,q7,q8,q9]
        exact⟨K,v',hK,rfl,rfl⟩
       .rintro k F h hk h3 ⟨q3,q4,q7,q9,K,v',hK,q8,rfl⟩
        have h6:=hK.2
        have h2:(K.map eI).length=v' + 1:=by rw[length_map,hK.1];simp only[length_append,length_cons,length_nil,length_map,List.length_range];omega
        have b3:(v' + 1+1) * 8<=A6:=by unfold A6;omega
        simp only[go_sem,h3,q3,q4,q7,q8,q9,h2,b3,CG,A0]
        exact⟨K++[(k:Int)],v' + 1,⟨by rw[hK.1,range_succ,map_append,<- append_assoc];rfl,by omega⟩,rfl,rfl⟩
       .rintro F h ⟨q3,q4,q7,q9,K,v',hK,q8,rfl⟩
        have h6:=hK.2
        have h2:K.length=v' + 1:=by rw[hK.1];simp only[length_append,length_cons,length_nil,length_map,List.length_range];omega
        rw[h0]at P
        simp only[append_nil,nil_append,append_assoc,cons_append]at P
        have h4:=hK.1
        (try simp only[append_assoc,cons_append,nil_append]at h4)
        rw[<- h4]at P
        simp only[go_sem,q3,q4,q7,q8,q9,wi]
        exact⟨8 * Hn (S|||BC (m:Int))+(K.length-(i+1)),by omega,_,K,i+1,P,v',h2,rfl,rfl,rfl,rfl,rfl⟩
       .simp only[go_sem]
       .simp only[go_sem,p3,p4,p8,p9]
        exact⟨_,_,⟨by rw[List.range_zero,map_nil,append_nil],rfl⟩,rfl,rfl⟩
     .have d2:decide (0<=(t.at m).up)=true:=decide_eq_true c2
      rw[if_pos c2]at h0
      rcases Int.lt_or_le (t.at m).thread 0 with c3|c3
      .have d3:decide (0<=(t.at m).thread)=false:=decide_eq_false (by omega)
       rw[if_neg (by omega)]at h0
       simp only[Ef,go_sem,p3,p4,p7,p8,p9,c,ci,cj,cv,hv,gL,AT C,AP C,d,wi,hj,d1,d2,h1,A5 h1,b1,b2,h5,CG,length_append,length_map,A0,d3]
       rw[h0]at P
       simp only[append_nil,nil_append,append_assoc,cons_append]at P
       exact⟨8 * Hn (S|||BC (m:Int))+((L++[j,(t.at m).up]).length-(i+1)),by(try simp only[length_append,length_cons,length_nil]);omega,_,_,i+1,P,v+1+1,by(try simp only[length_append,length_cons,length_nil]);omega,rfl,rfl,rfl,rfl,rfl⟩
      .have d3:decide (0<=(t.at m).thread)=true:=decide_eq_true c3
       rw[if_pos c3]at h0
       simp only[Ef,go_sem,p3,p4,p7,p8,p9,c,ci,cj,cv,hv,gL,AT C,AP C,d,wi,hj,d1,d2,h1,A5 h1,b1,b2,h5,CG,length_append,length_map,A0,d3]
       refine Ab (by decide) t.locs.length (by omega) (I:=fun k F h=>A3.tmp F 3=.fp (eT t) 0/\A3.tmp F 4=.fp (Hd s) 0/\A3.tmp F 7=vW (S|||BC (m:Int))/\A3.tmp F 9=.i .i64 (i:Nat)/\∃K v',HgK (L++[j,(t.at m).up]) (v+1+1) k K v'/\A3.tmp F 8=.sl 0 v' 0 (v' + 1)/\h=[some ⟨AG,1,v',false,K.map eI⟩]) ?_ ?_ ?_ 0 _ _ (zero_le _) ?_ ?_
       .rintro k F h hk h3 ⟨q3,q4,q7,q9,K,v',hK,q8,rfl⟩
        simp only[go_sem,h3,q3,q4,q7,q8,q9]
        exact⟨K,v',hK,rfl,rfl⟩
       .rintro k F h hk h3 ⟨q3,q4,q7,q9,K,v',hK,q8,rfl⟩
        have h6:=hK.2
        have h2:(K.map eI).length=v' + 1:=by rw[length_map,hK.1];simp only[length_append,length_cons,length_nil,length_map,List.length_range];omega
        have b3:(v' + 1+1) * 8<=A6:=by unfold A6;omega
        simp only[go_sem,h3,q3,q4,q7,q8,q9,h2,b3,CG,A0]
        exact⟨K++[(k:Int)],v' + 1,⟨by rw[hK.1,range_succ,map_append,<- append_assoc];rfl,by omega⟩,rfl,rfl⟩
       .rintro F h ⟨q3,q4,q7,q9,K,v',hK,q8,rfl⟩
        have h6:=hK.2
        have h2:K.length=v' + 1:=by rw[hK.1];simp only[length_append,length_cons,length_nil,length_map,List.length_range];omega
        rw[h0]at P
        simp only[append_nil,nil_append,append_assoc,cons_append]at P
        have h4:=hK.1
        (try simp only[append_assoc,cons_append,nil_append]at h4)
        rw[<- h4]at P
        simp only[go_sem,q3,q4,q7,q8,q9,wi]
        exact⟨8 * Hn (S|||BC (m:Int))+(K.length-(i+1)),by omega,_,K,i+1,P,v',h2,rfl,rfl,rfl,rfl,rfl⟩
       .simp only[go_sem]
       .simp only[go_sem,p3,p4,p8,p9]
        exact⟨_,_,⟨by rw[List.range_zero,map_nil,append_nil],rfl⟩,rfl,rfl⟩
  .have ci:decide ((i:Int)<((v+1:Nat):Int))=false:=decide_eq_false (by omega)
   have cj:decide (i<v+1)=false:=decide_eq_false (by omega)
   simp only[Ef,go_sem,p3,p4,p7,p8,p9,c,ci,cj,hv]
   rw[I.fin ht hf he c]
 .simp only[go_sem]
 .simp only[go_sem]
 .exact⟨zero_le _,fun x hx=>⟨e,List.mem_singleton.1 hx,h7,he,(A4n ht h7).2 (.inr rfl)⟩,fun j hj=>absurd hj (Nat.not_lt_zero _),fun m hm=>by simp at hm,fun m hm=>by simp at hm,List.mem_singleton.2 rfl,by have:=Ag0 0#64;simp only[List.length_singleton];omega⟩
 .simp only[go_sem]
 .simp only[go_sem]
 .simp only[go_sem]
 .rfl
end
def A9y(t:A2)(s:A8)(w e:Nat):Bool:=(A2v t s w).any fun c=>decide (c=(e:Int))||Ao t c e||Ao t e c
def Gk(t:A2)(s:A8)(e:Nat)(r w:Int):Bool:=decide (w<0)||!Bh (hgW t s e) r||decide ((t.at w.toNat).thread<0)||decide ((t.at w.toNat).thread=(t.at r.toNat).thread)||!AO t w e||A9y t s w.toNat e
def AeK(t:A2)(s:A8)(e:Nat):Bool:=(List.range s.has.length).all fun i=>Gk t s e (s.has.getD i 0) (s.jf.getD i 0)
section
variable {V:Ai}(C:Am V){Q:VV->Prop}
include C
theorem JI(t:A2)(ht:A7 t)(s:A8)(hs:GI s)(hf:B2 t s){e:Nat}(he:(e:Int)∈s.has):VP V AdR [vT t,HJ s,.i .i64 e] Q↔Q (.b (AeK t s e)):=by
 refine Af ?_
 rw[Ad C.c_z88.1 C.c_z88.2]
 have hy:=ht.n64
 have g1:=hs.has
 have hF:=Bv (Cr (BV.2 hf))
 have hg:=fun(Q:VV->Prop)=>SK C t ht s hs hf he (Q:=Q)
 have hn:=fun(x y:Int) (Q:VV->Prop)=>G8 C t ht.up x y (Q:=Q)
 have ho:=fun(x y:Int) (Q:VV->Prop)=>Ds C t ht.up x y (Q:=Q)
 have hq:=fun(loc w:Int) (Q:VV->Prop)=>ES C s hs loc w (Q:=Q)
 unfold AeK
 simp only[AiM,go_sem,hg]
 refine Ab (by decide) s.has.length (by omega) (I:=fun i F h=>A3.tmp F 2=.i .i64 e/\A3.tmp F 3=.fp (eT t) 0/\A3.tmp F 4=.fp (Hd s) 0/\A3.tmp F 7=vW (hgW t s e)/\h=[]/\∀j,j<i->Gk t s e (s.has.getD j 0) (s.jf.getD j 0)=true) ?_ ?_ ?_ 0 _ _ (zero_le _) ?_ ?_
 .rintro i F h hi p8 ⟨p2,p3,p4,p7,rfl,pr⟩
  simp only[go_sem,p8,p2,p3,p4,p7]
  exact pr
 .rintro i F h hi p8 ⟨p2,p3,p4,p7,rfl,pr⟩
  have gH:=Ak hi
  have h4:i<s.jf.length:=by rw[hf.jl];exact hi
  have gJ:=Ak h4
  obtain⟨r,hr,h7⟩:=A9 (hf.node _ (Aa (d:=0) hi))
  have hl:=Aa (d:=0) hi
  rw[hr]at gH hl
  obtain⟨w,hw⟩:∃w,w=s.jf.getD i 0:=⟨_,rfl⟩
  have hd:=hF.at_ i hi
  rw[hr,<- hw]at hd
  rw[<- hw]at gJ
  have h3:Gk t s e r w=true->∀j,j<i+1->Gk t s e (s.has.getD j 0) (s.jf.getD j 0)=true:=fun h j hj=>by
   rcases lt_or_ge j i with c|c
   .exact pr j c
   .rw[show j=i by omega,hr,<- hw];exact h
  have h9:Gk t s e r w=false->((List.range s.has.length).all fun i=>Gk t s e (s.has.getD i 0) (s.jf.getD i 0))=false:=fun h=>AB hi (by rw[hr,<- hw];exact h)
  cases d1:decide (w<0)with
  |true=>
   simp only[go_sem,p8,p2,p3,p4,p7,gH,gJ,hi,h4,d1,A0]
   exact h3 (by rw[Gk,d1];simp)
  |false=>
  have hk:(t.at r).kind=2:=by
   apply Classical.byContradiction
   intro hk
   have:=hF.none r hl (by rw[toNat_natCast];exact hk)
   rw[hd]at this
   exact of_decide_eq_false d1 (by omega)
  obtain⟨q1,q2,q3⟩:=hF.read r hl (by rw[toNat_natCast];exact hk)
  rw[hd]at q1 q2 q3
  obtain⟨x,hx,h2⟩:=A9 (hf.node _ q1)
  obtain⟨a1,a2,a3,a4,a5⟩:=A0J hf q1 q2 ht
  rw[hx,toNat_natCast]at q2 a1 a2 a3 a4 a5
  rw[hx]at gJ h3 h9 d1
  obtain⟨loc,h5⟩:=Int.eq_ofNat_of_zero_le a1
  rw[h5]at a2 a3 a4
  obtain⟨pl,hh⟩:=Int.eq_ofNat_of_zero_le a3
  rw[hh,toNat_natCast]at a4
  have hp:loc<s.mo.length:=by omega
  have h6:pl<(s.mo.getD loc []).length:=by omega
  have gL:=C7 hp
  have gI:=CT h6
  have hu:=hs.mc' loc pl
  have ha:A2v t s x=(s.mo.getD loc []).getD pl []:=by rw[A2v,h5,toNat_natCast,hh,toNat_natCast]
  obtain⟨K,hK⟩:∃K,K=(s.mo.getD loc []).getD pl []:=⟨_,rfl⟩
  rw[<- hK]at gI hu ha
  obtain⟨L,hL⟩:∃L,L=s.mo.getD loc []:=⟨_,rfl⟩
  rw[<- hL]at gL gI h6
  have hc:Gk t s e r x=(!Bh (hgW t s e) r||decide ((t.at x).thread<0)||decide ((t.at x).thread=(t.at r).thread)||!AO t x e||A9y t s x e):=by
   rw[Gk,d1,Bool.false_or,toNat_natCast,toNat_natCast]
  cases d2:Bh (hgW t s e) (r:Int)with
  |false=>
   simp only[go_sem,p8,p2,p3,p4,p7,gH,gJ,hi,h4,d1,AT C,d2,A0]
   exact h3 (by rw[hc,d2];simp)
  |true=>
  cases d3:decide ((t.at x).thread<0)with
  |true=>
   simp only[go_sem,p8,p2,p3,p4,p7,gH,gJ,hi,h4,d1,AT C,d2,h2,A5 h2,d3,A0]
   exact h3 (by rw[hc,d3];simp)
  |false=>
  cases d4:decide ((t.at x).thread=(t.at r).thread)with
  |true=>
   simp only[go_sem,p8,p2,p3,p4,p7,gH,gJ,hi,h4,d1,AT C,d2,h2,A5 h2,d3,h7,A5 h7,d4,A0]
   exact h3 (by rw[hc,d4];simp)
  |false=>
  cases d5:AO t x e with
  |false=>
   simp only[go_sem,p8,p2,p3,p4,p7,gH,gJ,hi,h4,d1,AT C,d2,h2,A5 h2,d3,h7,A5 h7,d4,hn,d5,A0]
   exact h3 (by rw[hc,d5];simp)
  |true=>
   have hm:Gk t s e r x=K.any fun c=>decide (c=(e:Int))||Ao t c e||Ao t e c:=by
    rw[hc,d2,d3,d4,d5,A9y,ha];simp
   simp only[go_sem,p8,p2,p3,p4,p7,gH,gJ,hi,h4,d1,AT C,d2,h2,A5 h2,d3,h7,A5 h7,d4,hn,d5,h5,gL,gI,hp,h6,hq,hh,A0]
   refine Ab (by decide) K.length (by omega) (I:=fun k F h=>A3.tmp F 8=.i .i64 i/\A3.tmp F 2=.i .i64 e/\A3.tmp F 3=.fp (eT t) 0/\A3.tmp F 4=.fp (Hd s) 0/\A3.tmp F 7=vW (hgW t s e)/\A3.tmp F 11=lI K/\A3.tmp F 12=.b ((K.take k).any fun c=>decide (c=(e:Int))||Ao t c e||Ao t e c)/\h=[]) ?_ ?_ ?_ 0 _ _ (zero_le _) ?_ ?_
   .rintro k F h hk h8 ⟨q8,q2,q3,q4,q7,h1,h0,rfl⟩
    simp only[go_sem,h8,q8,q2,q3,q4,q7,h1,h0]
   .rintro k F h hk h8 ⟨q8,q2,q3,q4,q7,h1,h0,rfl⟩
    have gK:K[k]? = some K[k]:=List.getElem?_eq_getElem hk
    have hv:((K.take (k+1)).any fun c=>decide (c=(e:Int))||Ao t c e||Ao t e c)=(((K.take k).any fun c=>decide (c=(e:Int))||Ao t c e||Ao t e c)||(decide (K[k]=(e:Int))||Ao t K[k] e||Ao t e K[k])):=by
     rw[List.take_succ_eq_append_getElem hk,List.any_append];simp
    rw[hv]
    cases f0:((K.take k).any fun c=>decide (c=(e:Int))||Ao t c e||Ao t e c)with
    |true=>
     rw[f0]at h0
     simp only[go_sem,h8,q8,q2,q3,q4,q7,h1,h0,gK,hk,A0,Bool.true_or]
    |false=>
    rw[f0]at h0
    cases f1:decide (K[k]=(e:Int))with
    |true=>simp only[go_sem,h8,q8,q2,q3,q4,q7,h1,h0,gK,hk,f1,A0,Bool.true_or,Bool.false_or]
    |false=>
    cases f2:Ao t K[k] e with
    |true=>simp only[go_sem,h8,q8,q2,q3,q4,q7,h1,h0,gK,hk,f1,ho,f2,A0,Bool.true_or,Bool.false_or]
    |false=>
    cases f3:Ao t e K[k]<;>simp only[go_sem,h8,q8,q2,q3,q4,q7,h1,h0,gK,hk,f1,ho,f2,f3,A0,Bool.true_or,Bool.false_or]
   .rintro F h ⟨q8,q2,q3,q4,q7,h1,h0,rfl⟩
    rw[List.take_length,<- hm]at h0
    cases d6:Gk t s e r x with
    |true=>
     rw[d6]at h0
     simp only[go_sem,q8,q2,q3,q4,q7,h1,h0]
     exact h3 d6
    |false=>
     rw[d6]at h0
     have hb:=h9 d6
     simp only[go_sem,q8,q2,q3,q4,q7,h1,h0,hb]
   .simp only[go_sem]
   .simp only[go_sem,p8,p2,p3,p4,p7]
    rfl
 .rintro F h ⟨p2,p3,p4,p7,rfl,pr⟩
  have hb:=AD (p:=fun i=>Gk t s e (s.has.getD i 0) (s.jf.getD i 0)) pr
  simp only[go_sem,p2,p3,p4,p7,hb]
 .simp only[go_sem]
 .simp only[go_sem]
  intro j hj;omega
end
theorem AjV{t:A2}(ht:A7 t){s:A8}(hf:B2 t s){w e:Nat}(hw:(w:Int)∈s.has)(hk:(t.at w).kind=3)(he:e<t.nodes.length):AjU t s w e=A9y t s w e:=by
 have h0:=ht.n64
 obtain⟨h1,h2⟩:=AfD hf ht hw hk
 have hl:=ht.wloc (m:=w) (by obtain⟨_,a,b⟩:=A9 (hf.node _ hw);omega) (.inr hk)
 have h4:=hf.ml
 unfold AjU A9y
 rw[Bool.eq_iff_iff,any_eq_true,any_eq_true]
 have h3:∀x∈A2v t s w,(decide (x=(e:Int))||Bh ((poM t).getD x.toNat 0#64) e||Bh ((poM t).getD e 0#64) x)=(decide (x=(e:Int))||Ao t x e||Ao t e x):=fun x hx=>by
  obtain⟨m,rfl,hm⟩:=A9 (A9J hf ht (loc:=(t.at w).loc.toNat) (by omega) h1 hx)
  rw[toNat_natCast,poM,GY h0 hm he,GY h0 he hm]
 constructor
 .rintro⟨x,hx,hp⟩;exact⟨x,hx,by rw[<- h3 x hx];exact hp⟩
 .rintro⟨x,hx,hp⟩;exact⟨x,hx,by rw[h3 x hx];exact hp⟩
theorem AoK{t:A2}(ht:A7 t){s:A8}(hf:B2 t s){e r:Nat}(he:(e:Int)∈s.has)(h:hgB t s e r=true):(r:Int)∈s.has:=
 (S2 ht hf (S:=fun _=>True) (fun _ _ _ _ _=>trivial) he trivial h).2
theorem Sd{t:A2}(ht:A7 t){s:A8}(hf:B2 t s){e:Nat}(he:(e:Int)∈s.has):AeK t s e=NF t s e:=by
 have h6:=ht.n64
 have hF:=Bv (Cr (BV.2 hf))
 obtain⟨e',e1,h3⟩:=A9 (hf.node _ he)
 have e1:e=e':=by omega
 subst e1
 have h5:∀r:Nat,(r:Int)∈s.has->r<t.nodes.length->Bh (hgW t s e) (r:Int)=true->Gk t s e r (CA s.has s.jf r) = !Akd t s r e:=fun r hr h2 hg=>by
  unfold Akd
  simp only[NW hF.len]
  by_cases hk:(t.at r).kind=2
  .obtain⟨q1,q2,_⟩:=hF.read r hr (by rw[toNat_natCast];exact hk)
   obtain⟨w,hw,h9⟩:=A9 (hf.node _ q1)
   rw[hw,toNat_natCast]at q2
   rw[hw]at q1 ⊢
   rw[Gk,toNat_natCast,toNat_natCast,decide_eq_false (show ¬(w:Int)<0 by omega),hg]
   by_cases c1:(t.at w).thread<0
   .rw[decide_eq_true c1,if_pos (.inr (.inl c1))];simp
   .by_cases c2:(t.at w).thread=(t.at r).thread
    .rw[decide_eq_true c2,if_pos (.inr (.inr c2))];simp
    .rw[decide_eq_false c1,decide_eq_false c2,if_neg (by
      rintro(h|h|h)
      .omega
      .exact c1 h
      .exact c2 h),cfM,GY h6 h9 h3,AjV ht hf q1 q2 h3]
     cases AO t w e<;>cases A9y t s w e<;>rfl
  .have hn:=hF.none r hr (by rw[toNat_natCast];exact hk)
   rw[hn,Gk,decide_eq_true (show(-1:Int)<0 by decide),if_pos (.inl (by decide))];simp
 have h7:∀r:Nat,Bh (hgW t s e) (r:Int)=true↔r<t.nodes.length/\hgB t s e r=true:=fun r=>by
  rw[Aq,hgW,List.getD_eq_getElem?_getD,BK h3,Option.getD_some,AA]
  simp only[and_eq_true,decide_eq_true_eq]
  constructor
  .rintro⟨⟨a,b⟩,_⟩;exact⟨a,b⟩
  .rintro⟨a,b⟩;exact⟨⟨a,b⟩,by omega⟩
 rw[AeK,NF,Aqb,Bool.eq_iff_iff,Ag,List.all_eq_true]
 constructor
 .intro h x hx
  obtain⟨h1,_⟩:=CO (B7.1 hx)
  obtain⟨r,rfl⟩:=Int.eq_ofNat_of_zero_le h1
  have hg:Bh (hgW t s e) (r:Int)=true:=B7.1 hx
  obtain⟨h2,h8⟩:=(h7 r).1 hg
  have hr:=AoK ht hf he h8
  obtain⟨i,hi,ei⟩:=List.getElem_of_mem hr
  have eg:s.has.getD i 0=(r:Int):=by rw[List.getD_eq_getElem?_getD,List.getElem?_eq_getElem hi];exact ei
  have:=h i hi
  have h0:=hF.at_ i hi
  rw[eg]at this h0
  rw[<- h0,h5 r hr h2 hg]at this
  rw[toNat_natCast];exact this
 .intro h i hi
  obtain⟨r,hr,h2⟩:=A9 (hf.node _ (Aa (d:=0) hi))
  have h4:=Aa (d:=0) hi
  have h0:=hF.at_ i hi
  rw[hr]at h4 h0 ⊢
  rw[<- h0]
  cases hg:Bh (hgW t s e) (r:Int)with
  |false=>rw[Gk,hg];simp
  |true=>
   rw[h5 r h4 h2 hg]
   have:=h (r:Int) (B7.2 hg)
   rwa [toNat_natCast]at this
theorem MD{t:A2}(ht:A7 t){s:A8}{e:Nat}(he:e<t.nodes.length){x:Int}:x∈RA (DP t s.has s.jf) e↔∃a:Nat,x=a/\a<t.nodes.length/\dnB t s e a=true:=by
 have hl:(DP t s.has s.jf).length=t.nodes.length:=D2 ht.n64 _
 rw[RA,List.mem_cons,hl]
 simp only[Kl,List.mem_map,List.mem_filter,List.mem_range,and_eq_true,Bool.not_eq_true',decide_eq_false_iff_not,Aq]
 constructor
 .rintro(rfl|⟨a,⟨h1,h2,h3⟩,rfl⟩)
  .exact⟨e,rfl,he,by simp[dnB]⟩
  .exact⟨a,rfl,h1,by rw[dnB,hbQ,h3,Bool.true_or]⟩
 .rintro⟨a,rfl,h1,h2⟩
  by_cases c:a=e
  .left;rw[c]
  .right
   refine⟨a,⟨h1,c,?_⟩,rfl⟩
   simp only[dnB,or_eq_true,decide_eq_true_eq]at h2
   rcases h2 with h|h
   .exact h
   .exact absurd h.symm c
theorem Acl{t:A2}(ht:A7 t){s:A8}{a b:Nat}(ha:a<t.nodes.length)(hb:b<t.nodes.length):LE t (RA (DP t s.has s.jf) a) (RA (DP t s.has s.jf) b)=A2D t s a b:=by
 rw[Bool.eq_iff_iff,AfI ht ha hb,LE,any_eq_true]
 constructor
 .rintro⟨x,hx,h⟩
  rw[any_eq_true]at h
  obtain⟨y,hy,h⟩:=h
  obtain⟨x,rfl,h1,h2⟩:=(MD ht ha).1 hx
  obtain⟨y,rfl,h3,h4⟩:=(MD ht hb).1 hy
  exact⟨x,y,h1,h3,h2,h4,h⟩
 .rintro⟨x,y,h1,h3,h2,h4,h⟩
  refine⟨x,(MD ht ha).2 ⟨x,rfl,h1,h2⟩,?_⟩
  rw[any_eq_true]
  exact⟨y,(MD ht hb).2 ⟨y,rfl,h3,h4⟩,h⟩
theorem G3.sub{t:A2}:∀{n u e:Nat},G3 t n u e->∀m,u<=m->m<e->∃n' e',G3 t n' m e':=by
 intro n
 induction n with
 |zero=>intro u e h;exact absurd h (by simp[G3])
 |succ n ih=>
  intro u e h m h1 h2
  rcases Nat.eq_or_lt_of_le h1 with c|c
  .rw[<- c];exact⟨n+1,e,h⟩
  .obtain⟨⟨_,ht,_⟩,h⟩:=h
   rcases h with ⟨_,_,rfl⟩|⟨_,_,_,al,hb⟩|⟨_,_,_,vals,k,loc,mode,_,hv0,hk0,hke,hloc,hs,_⟩
   .omega
   .exact ih hb m (by omega) h2
   .obtain⟨v,hv,a,b⟩:=Ci (k:=k) (m:=m) vals (by omega) (by omega)
    exact ih (hs v hv).2.2 m a b
theorem G3.wval{t:A2}:∀{n u e:Nat},G3 t n u e->∀m,u<m->m<e->(t.at m).kind=3->Gj t (t.at m).val=true:=by
 intro n
 induction n with
 |zero=>intro u e h;exact absurd h (by simp[G3])
 |succ n ih=>
  intro u e h m h1 h2 hk
  obtain⟨⟨_,ht,_⟩,h⟩:=h
  rcases h with ⟨_,_,rfl⟩|⟨c,_,_,al,hb⟩|⟨c,_,_,vals,k,loc,mode,_,hv0,hk0,hke,hloc,hs,_⟩
  .omega
  .by_cases e1:m=u+1
   .subst e1
    simp only[Dc,or_eq_true,and_eq_true,decide_eq_true_eq]at al
    rcases al with h|h
    .have:=h.1.1.1.1.1;omega
    .exact h.1.2
   .exact ih hb m (by omega) h2 hk
  .obtain⟨v,hv,a,b⟩:=Ci (k:=k) (m:=m) vals (by omega) (by omega)
   obtain⟨s1,s2,s3⟩:=hs v hv
   by_cases e1:m=k v
   .subst e1
    simp only[Em,and_eq_true,decide_eq_true_eq]at s2
    have:=s2.1.1.1.1;omega
   .exact ih s3 m (by omega) b hk
theorem A7.wval{t:A2}(h:A7 t){m:Nat}(hm:m<t.nodes.length)(hk:(t.at m).kind=3):Gj t (t.at m).val=true:=by
 by_cases c:m<t.locs.length
 .have:=h.first.2 m c
  simp only[GT,and_eq_true]at this
  exact this.1.1.1.2
 .obtain⟨s,h0,he,hs⟩:=h.thr
  obtain⟨v,hv,a,b⟩:=Ci (k:=s) (m:=m) t.regs.length (by omega) (by omega)
  obtain⟨hb,n,hn⟩:=hs v hv
  by_cases e1:m=s v
  .subst e1
   simp only[DO,and_eq_true,decide_eq_true_eq]at hb
   have:=hb.1.1.1.1.2;omega
  .exact hn.wval m (by omega) b hk
theorem WI.vals{t:A2}(ht:A7 t){s:A8}{mem:List Int}{k:Nat}(W:WI t s mem k)(loc:Nat)(hl:loc<t.locs.length):Gj t (mem.getD loc 0)=true:=by
 have h0:=W.form.ml
 obtain⟨w,e,h1,h2,h3,_⟩:=W.last (loc:=loc) (by omega)
 rw[W.mem loc hl,e,toNat_natCast]
 obtain⟨w',e2,hw⟩:=A9 (W.form.node _ h1)
 exact ht.wval (by omega) h2
def wyE(t:A2)(s:A8)(a b:Nat):Bool:=Ao t a b||decide (CA s.has s.jf b=(a:Int))
def T6(t:A2)(s:A8)(i k a b:Nat):Bool:=(((List.range i).any fun j=>decide (s.has.getD j 0=(a:Int)))&&AQ s.has (b:Int)&&wyE t s a b)||(decide (s.has.getD i 0=(a:Int))&&((List.range k).any fun j=>decide (s.has.getD j 0=(b:Int)))&&wyE t s a b)
def wyB(t:A2)(s:A8)(a b:Nat):Bool:=AQ s.has (a:Int)&&AQ s.has (b:Int)&&wyE t s a b
def wy3(t:A2)(s:A8)(r:Int):Bool:=A2D t s r.toNat r.toNat
def wy4(t:A2)(s:A8)(r w:Int):Bool:=decide (0<=w)&&A2D t s w.toNat r.toNat
def wy5(t:A2)(s:A8)(r w:Int):Bool:=decide (0<=w)&&decide (0<=(t.at w.toNat).thread)&&!decide ((t.at w.toNat).thread=(t.at r.toNat).thread)&&!NF t s w.toNat
def Aid(t:A2)(s:A8):Int:=if Bj t s=false then 1 else if Uj (Av t.nodes.length (wyB t s))=false then 2 else
 if((List.range s.has.length).all fun i=>!wy3 t s (s.has.getD i 0))=false then 3 else
 if((List.range s.has.length).all fun i=>!wy4 t s (s.has.getD i 0) (s.jf.getD i 0))=false then 4 else
 if((List.range s.has.length).all fun i=>!wy5 t s (s.has.getD i 0) (s.jf.getD i 0))=false then 5 else
 if A6D t s=false then 6 else 0
theorem A61{l:List Int}{x:Int}:((List.range l.length).any fun j=>decide (l.getD j 0=x))=AQ l x:=by
 rw[Bool.eq_iff_iff,any_eq_true,Ac]
 constructor
 .rintro⟨j,hj,h⟩
  have:=Aa (d:=0) (List.mem_range.1 hj)
  rwa [of_decide_eq_true h]at this
 .intro h
  obtain⟨j,hj,e⟩:=List.getElem_of_mem h
  exact⟨j,List.mem_range.2 hj,decide_eq_true (by rw[List.getD_eq_getElem?_getD,List.getElem?_eq_getElem hj];exact e)⟩
theorem AeS{t:A2}{s:A8}{i:Nat}:(fun a b=>T6 t s i s.has.length a b)=fun a b=>T6 t s (i+1) 0 a b:=by
 funext a b
 simp only[T6,A61,range_succ,List.range_zero,List.any_append,List.any_cons,any_nil,Bool.or_false,Bool.and_false,Bool.false_and]
 cases((List.range i).any fun j=>decide (s.has.getD j 0=(a:Int)))<;>cases decide (s.has.getD i 0=(a:Int))<;>simp
theorem A8W{t:A2}{s:A8}{i k x y:Nat}(hx:s.has.getD i 0=x)(hy:s.has.getD k 0=y)(h:wyE t s x y=true):(fun a b=>T6 t s i k a b||(decide (a=x)&&decide (b=y)))=T6 t s i (k+1):=by
 funext a b
 simp only[T6,range_succ,List.any_append,List.any_cons,any_nil,Bool.or_false,hx,hy]
 by_cases c1:a=x
 .by_cases c2:b=y
  .subst c1 c2;simp[h]
  .have e:decide ((y:Int)=(b:Int))=false:=decide_eq_false (by omega)
   rw[e,decide_eq_false c2,Bool.or_false,Bool.and_false,Bool.or_false]
 .have e:decide ((x:Int)=(a:Int))=false:=decide_eq_false (by omega)
  rw[e,decide_eq_false c1];simp
theorem Amv{t:A2}{s:A8}{i k x y:Nat}(hx:s.has.getD i 0=x)(hy:s.has.getD k 0=y)(h:wyE t s x y=false):T6 t s i (k+1)=T6 t s i k:=by
 funext a b
 simp only[T6,range_succ,List.any_append,List.any_cons,any_nil,Bool.or_false,hx,hy]
 by_cases c1:a=x
 .by_cases c2:b=y
  .subst c1 c2;simp[h]
  .have e:decide ((y:Int)=(b:Int))=false:=decide_eq_false (by omega)
   rw[e,Bool.or_false]
 .have e:decide ((x:Int)=(a:Int))=false:=decide_eq_false (by omega)
  rw[e];simp
section
variable {V:Ai}(C:Am V){Q:VV->Prop}
include C
theorem Ko{n:Nat}(hn:n<=64)(p:Nat->Nat->Bool):VP V A8e [lW (Av n p)] Q↔Q (.b (Uj (Av n p))):=by
 refine Af ?_
 rw[Ad C.c_z84.1 C.c_z84.2]
 have hm:=DN hn p
 have h0:=Az (n:=n) (p:=p)
 obtain⟨a,ha⟩:∃a,a=Av n p:=⟨_,rfl⟩
 rw[<- ha]at hm h0 ⊢
 unfold Uj
 rw[hm]
 .have hl:=Jp hm
  have h1:=fun(Q:VV->Prop)=>LX C a (by omega) (Q:=Q)
  have h3:=fun(Q:VV->Prop)=>Kq C a (by omega) (Q:=Q)
  have h2:(BG a).length=a.length:=by rw[BG,if_pos hm];simp
  rw[Bool.true_and]
  simp only[AiI,go_sem,h1,hm,h3]
  refine Ab (by decide) (BG a).length (by omega) (I:=fun k F h=>A3.tmp F 3=lW (BG a)/\h=[]/\∀j,j<k->((BG a).getD j 0#64).getLsbD j=false) ?_ ?_ ?_ 0 _ _ (zero_le _) ?_ ?_
  .rintro k F h hk p4 ⟨p3,rfl,pr⟩
   simp only[go_sem,p4,p3]
   exact pr
  .rintro k F h hk p4 ⟨p3,rfl,pr⟩
   have gW:=Cj (a:=BG a) hk
   have hh:=Aq ((BG a).getD k 0#64) k
   cases d:((BG a).getD k 0#64).getLsbD k with
   |true=>
    rw[d]at hh
    have hb:=AB (n:=a.length) (k:=k) (p:=fun i=>!((BG a).getD i 0#64).getLsbD i) (by omega) (by rw[d];rfl)
    simp only[go_sem,p4,p3,gW,hk,AT C,hh,hb,A0]
   |false=>
    rw[d]at hh
    simp only[go_sem,p4,p3,gW,hk,AT C,hh,A0]
    intro j hj
    rcases lt_or_ge j k with c|c
    .exact pr j c
    .rw[show j=k by omega];exact d
  .rintro F h ⟨p3,rfl,pr⟩
   rw[h2]at pr
   have hb:=AD (p:=fun i=>!((BG a).getD i 0#64).getLsbD i) fun j hj=>by rw[pr j hj];rfl
   simp only[go_sem,p3,hb]
  .simp only[go_sem]
  .simp only[go_sem]
   intro j hj;omega
theorem A1C(t:A2)(ht:A7 t)(s:A8)(hs:GI s):VP V Adx [vT t,HJ s] Q↔Q (.i .i64 (Aid t s)):=by
 refine Af ?_
 rw[Ad C.c_z31.1 C.c_z31.2]
 have hp:=ht.n64
 have g1:=hs.has
 have q0:=fun(Q:VV->Prop)=>BE C t ht s hs (Q:=Q)
 unfold Aid
 cases hff:Bj t s with
 |false=>simp only[AbQ,go_sem,q0,hff]
 |true=>
 have hf:=BV.1 hff
 rw[if_neg (by decide)]
 have hF:=Bv (Cr hff)
 have q4:=fun(Q:VV->Prop)=>LV C t ht s.has s.jf hs.has hs.jf (Cr hff) (Q:=Q)
 rw[hbF,if_pos (Cr hff)]at q4
 have hl:(DP t s.has s.jf).length=t.nodes.length:=D2 hp _
 have hr:=fun(e:Nat) (he:e<t.nodes.length) (Q:VV->Prop)=>Zo C (DP t s.has s.jf) (by omega) e (by omega) (Q:=Q)
 have q9:∀e,(RA (DP t s.has s.jf) e).length<=1000:=fun e=>by
  have:=TE (DP t s.has s.jf) e (DP t s.has s.jf).length
  rw[RA,length_cons];omega
 have hz:=fun(a b:Nat) (ha:a<t.nodes.length) (hb:b<t.nodes.length) (Q:VV->Prop)=>(SQ C t ht.up _ _ (q9 a) (q9 b) (Q:=Q)).trans (by rw[Acl ht ha hb])
 have hq:=fun(x y:Int) (Q:VV->Prop)=>Ds C t ht.up x y (Q:=Q)
 have qd:=fun(Q:VV->Prop)=>Zm C t ht s hs hF.node (Q:=Q)
 have b1:t.nodes.length * 8<=A6:=by unfold A6;omega
 have h4:∀i,i<s.has.length->∃m:Nat,s.has.getD i 0=m/\m<t.nodes.length/\(m:Int)∈s.has/\CA s.has s.jf m=s.jf.getD i 0/\i<s.jf.length:=fun i hi=>by
  have hm:=Aa (d:=0) hi
  obtain⟨m,e,qe⟩:=A9 (hf.node _ hm)
  have:=hF.at_ i hi
  rw[e]at this hm
  exact⟨m,e,qe,hm,this,by rw[hf.jl];exact hi⟩
 simp only[AbQ,go_sem,q0,hff,b1,Int.le_refl]
 obtain⟨O,hO⟩:∃O:Option VO,O=some ⟨AW,1,0,false,(Av t.nodes.length (wyB t s)).map eW⟩:=⟨_,rfl⟩
 have qc:Av t.nodes.length (T6 t s s.has.length 0)=Av t.nodes.length (wyB t s):=HV fun a b _ _=>by
  simp only[T6,wyB,A61,List.range_zero,any_nil,Bool.and_false,Bool.false_and,Bool.or_false]
 have src:∀m:Nat,(m:Int)∈s.has->0<=CA s.has s.jf m->∃w:Nat,CA s.has s.jf m=w/\w<t.nodes.length/\(w:Int)∈s.has:=fun m hm h0=>by
  have hk:(t.at m).kind=2:=by
   apply Classical.byContradiction
   intro hk
   have:=hF.none m hm (by rw[toNat_natCast];exact hk)
   omega
  obtain⟨q1,_,_⟩:=hF.read m hm (by rw[toNat_natCast];exact hk)
  obtain⟨w,e,hw⟩:=A9 (hf.node _ q1)
  rw[e]at q1
  exact⟨w,e,hw,q1⟩
 refine Ab (by decide) s.has.length (by omega) (I:=fun i F h=>A3.tmp F 2=.fp (eT t) 0/\A3.tmp F 3=.fp (Hd s) 0/\A3.tmp F 5=.sl 0 0 0 t.nodes.length/\h=[some ⟨AW,1,0,false,(Av t.nodes.length (T6 t s i 0)).map eW⟩]) ?_ ?_ ?_ 0 _ _ (zero_le _) ?_ ?_
 .rintro i F h hi p6 ⟨p2,p3,p5,rfl⟩
  simp only[go_sem,p6,p2,p3,p5]
 .rintro i F h hi p6 ⟨p2,p3,p5,rfl⟩
  obtain⟨x,hx,h1,hd,_,_⟩:=h4 i hi
  have gX:=Ak hi
  rw[hx]at gX
  simp only[go_sem,p6,p2,p3,p5,A0]
  refine Ab (by decide) s.has.length (by omega) (I:=fun k F h=>A3.tmp F 6=.i .i64 i/\A3.tmp F 2=.fp (eT t) 0/\A3.tmp F 3=.fp (Hd s) 0/\A3.tmp F 5=.sl 0 0 0 t.nodes.length/\h=[some ⟨AW,1,0,false,(Av t.nodes.length (T6 t s i k)).map eW⟩]) ?_ ?_ ?_ 0 _ _ (zero_le _) ?_ ?_
  .rintro k F h hk q7 ⟨q6,q2,q3,q5,rfl⟩
   simp only[go_sem,q7,q6,q2,q3,q5]
  .rintro k F h hk q7 ⟨q6,q2,q3,q5,rfl⟩
   obtain⟨y,hy,qg,qi,qh,hn⟩:=h4 k hk
   have gY:=Ak hk
   have gJ:=Ak hn
   rw[hy]at gY
   rw[<- qh]at gJ
   have gW:=Cj (a:=Av t.nodes.length (T6 t s i k)) (i:=x) (by rw[Az];exact h1)
   have h7:=RP hp (T6 t s i k) qg h1
   have hc:∀w,((Av t.nodes.length (T6 t s i k)).map eW).set x [vW w]=((Av t.nodes.length (T6 t s i k)).set x w).map eW:=fun w=>by rw[List.map_set]
   cases d1:Ao t x y with
   |true=>
    rw[A8W hx hy (by rw[wyE,d1];rfl)]at h7
    simp only[go_sem,q7,q6,q2,q3,q5,gX,gY,gJ,hi,hk,hn,hq,d1,h1,gW,AP C,hc,h7,Az,length_map,A0]
   |false=>
   cases d2:decide (CA s.has s.jf y=(x:Int))with
   |true=>
    rw[A8W hx hy (by rw[wyE,d2];simp)]at h7
    simp only[go_sem,q7,q6,q2,q3,q5,gX,gY,gJ,hi,hk,hn,hq,d1,d2,h1,gW,AP C,hc,h7,Az,length_map,A0]
   |false=>
    rw[Amv hx hy (by rw[wyE,d1,d2];rfl)]
    simp only[go_sem,q7,q6,q2,q3,q5,gX,gY,gJ,hi,hk,hn,hq,d1,d2,A0]
  .rintro F h ⟨q6,q2,q3,q5,rfl⟩
   have qf:Av t.nodes.length (T6 t s i s.has.length)=Av t.nodes.length (T6 t s (i+1) 0):=congrArg _ AeS
   simp only[go_sem,q6,q2,q3,q5,qf]
  .simp only[go_sem]
  .simp only[go_sem,p6,p2,p3,p5]
 .rintro F h ⟨p2,p3,p5,rfl⟩
  rw[qc]
  have hv:=fun(Q:VV->Prop)=>Ko C hp (wyB t s) (Q:=Q)
  have qa:=List.take_of_length_le (Nat.le_of_eq (Az (n:=t.nodes.length) (p:=wyB t s)))
  cases c2:Uj (Av t.nodes.length (wyB t s))with
  |false=>simp only[go_sem,p2,p3,p5,hv,c2,Az,length_map,qa]
  |true=>
  rw[if_neg (by decide)]
  simp only[go_sem,p2,p3,p5,hv,c2,Az,length_map,qa,q4]
  rw[<- hO]
  refine Ab (by decide) s.has.length (by omega) (I:=fun i F h=>A3.tmp F 2=.fp (eT t) 0/\A3.tmp F 3=.fp (Hd s) 0/\A3.tmp F 8=lW (DP t s.has s.jf)/\h=[O]/\∀j,j<i->(!wy3 t s (s.has.getD j 0))=true) ?_ ?_ ?_ 0 _ _ (zero_le _) ?_ ?_
  .rintro i F h hi p9 ⟨p2,p3,p8,rfl,pr⟩
   simp only[go_sem,p9,p2,p3,p8]
   exact pr
  .rintro i F h hi p9 ⟨p2,p3,p8,rfl,pr⟩
   obtain⟨x,hx,h1,hd,_,_⟩:=h4 i hi
   have gX:=Ak hi
   rw[hx]at gX
   have h9:=hr x h1
   have h5:=hz x x h1 h1
   cases d:A2D t s x x with
   |true=>
    rw[d]at h5
    have hb:=AB (p:=fun i=>!wy3 t s (s.has.getD i 0)) hi (by rw[hx,wy3,toNat_natCast,d];rfl)
    rw[hb]
    simp only[go_sem,p9,p2,p3,p8,gX,hi,h9,h5,A0]
   |false=>
    rw[d]at h5
    simp only[go_sem,p9,p2,p3,p8,gX,hi,h9,h5,A0]
    intro j hj
    rcases lt_or_ge j i with c|c
    .exact pr j c
    .rw[show j=i by omega,hx,wy3,toNat_natCast,d];rfl
  .rintro F h ⟨p2,p3,p8,rfl,pr⟩
   have hb:=AD (p:=fun i=>!wy3 t s (s.has.getD i 0)) pr
   rw[hb,if_neg (by decide)]
   simp only[go_sem,p2,p3,p8]
   refine Ab (by decide) s.has.length (by omega) (I:=fun i F h=>A3.tmp F 2=.fp (eT t) 0/\A3.tmp F 3=.fp (Hd s) 0/\A3.tmp F 8=lW (DP t s.has s.jf)/\h=[O]/\∀j,j<i->(!wy4 t s (s.has.getD j 0) (s.jf.getD j 0))=true) ?_ ?_ ?_ 0 _ _ (zero_le _) ?_ ?_
   .rintro i F h hi hh ⟨p2,p3,p8,rfl,pr⟩
    simp only[go_sem,hh,p2,p3,p8]
    exact pr
   .rintro i F h hi hh ⟨p2,p3,p8,rfl,pr⟩
    obtain⟨x,hx,h1,hd,hg,h2⟩:=h4 i hi
    have gX:=Ak hi
    have gJ:=Ak h2
    rw[hx]at gX
    have h9:=hr x h1
    have h6:wy4 t s x (s.jf.getD i 0)=false->∀j,j<i+1->(!wy4 t s (s.has.getD j 0) (s.jf.getD j 0))=true:=fun h j hj=>by
     rcases lt_or_ge j i with c|c
     .exact pr j c
     .rw[show j=i by omega,hx,h];rfl
    cases d0:decide (0<=s.jf.getD i 0)with
    |false=>
     simp only[go_sem,hh,p2,p3,p8,gX,gJ,hi,h2,d0,A0]
     exact h6 (by rw[wy4,d0];rfl)
    |true=>
     obtain⟨w,hw,h3,_⟩:=src x hd (by rw[hg];exact of_decide_eq_true d0)
     rw[hg]at hw
     rw[hw]at gJ h6 d0
     have q8:=hr w h3
     have h5:=hz w x h3 h1
     cases d:A2D t s w x with
     |true=>
      rw[d]at h5
      have hb:=AB (p:=fun i=>!wy4 t s (s.has.getD i 0) (s.jf.getD i 0)) hi (by rw[hx,hw,wy4,d0,toNat_natCast,toNat_natCast,d];rfl)
      rw[hb]
      simp only[go_sem,hh,p2,p3,p8,gX,gJ,hi,h2,d0,h9,q8,h5,A0]
     |false=>
      rw[d]at h5
      simp only[go_sem,hh,p2,p3,p8,gX,gJ,hi,h2,d0,h9,q8,h5,A0]
      exact h6 (by rw[wy4,toNat_natCast,toNat_natCast,d,Bool.and_false])
   .rintro F h ⟨p2,p3,p8,rfl,pr⟩
    have hb:=AD (p:=fun i=>!wy4 t s (s.has.getD i 0) (s.jf.getD i 0)) pr
    rw[hb,if_neg (by decide)]
    simp only[go_sem,p2,p3,p8]
    refine Ab (by decide) s.has.length (by omega) (I:=fun i F h=>A3.tmp F 2=.fp (eT t) 0/\A3.tmp F 3=.fp (Hd s) 0/\A3.tmp F 8=lW (DP t s.has s.jf)/\h=[O]/\∀j,j<i->(!wy5 t s (s.has.getD j 0) (s.jf.getD j 0))=true) ?_ ?_ ?_ 0 _ _ (zero_le _) ?_ ?_
    .rintro i F h hi h8 ⟨p2,p3,p8,rfl,pr⟩
     simp only[go_sem,h8,p2,p3,p8]
     exact pr
    .rintro i F h hi h8 ⟨p2,p3,p8,rfl,pr⟩
     obtain⟨x,hx,h1,hd,hg,h2⟩:=h4 i hi
     have gX:=Ak hi
     have gJ:=Ak h2
     rw[hx]at gX
     have h6:wy5 t s x (s.jf.getD i 0)=false->∀j,j<i+1->(!wy5 t s (s.has.getD j 0) (s.jf.getD j 0))=true:=fun h j hj=>by
      rcases lt_or_ge j i with c|c
      .exact pr j c
      .rw[show j=i by omega,hx,h];rfl
     cases d0:decide (0<=s.jf.getD i 0)with
     |false=>
      simp only[go_sem,h8,p2,p3,p8,gX,gJ,hi,h2,d0,A0]
      exact h6 (by rw[wy5,d0];rfl)
     |true=>
      obtain⟨w,hw,h3,qb⟩:=src x hd (by rw[hg];exact of_decide_eq_true d0)
      rw[hg]at hw
      rw[hw]at gJ h6 d0
      have hu:=fun(Q:VV->Prop)=>JI C t ht s hs hf qb (Q:=Q)
      rw[Sd ht hf qb]at hu
      have ho:wy5 t s x w=(decide (0<=(t.at w).thread)&&!decide ((t.at w).thread=(t.at x).thread)&&!NF t s w):=by rw[wy5,d0,toNat_natCast,toNat_natCast,Bool.true_and]
      cases d1:decide (0<=(t.at w).thread)with
      |false=>
       simp only[go_sem,h8,p2,p3,p8,gX,gJ,hi,h2,d0,h3,A5 h3,d1,A0]
       exact h6 (by rw[ho,d1];rfl)
      |true=>
      cases d2:decide ((t.at w).thread=(t.at x).thread)with
      |true=>
       simp only[go_sem,h8,p2,p3,p8,gX,gJ,hi,h2,d0,h3,A5 h3,d1,h1,A5 h1,d2,A0]
       exact h6 (by rw[ho,d2];simp)
      |false=>
      cases d3:NF t s w with
      |true=>
       simp only[go_sem,h8,p2,p3,p8,gX,gJ,hi,h2,d0,h3,A5 h3,d1,h1,A5 h1,d2,hu,d3,A0]
       exact h6 (by rw[ho,d3];simp)
      |false=>
       have hb:=AB (p:=fun i=>!wy5 t s (s.has.getD i 0) (s.jf.getD i 0)) hi (by rw[hx,hw,ho,d1,d2,d3];rfl)
       rw[hb]
       simp only[go_sem,h8,p2,p3,p8,gX,gJ,hi,h2,d0,h3,A5 h3,d1,h1,A5 h1,d2,hu,d3,A0]
    .rintro F h ⟨p2,p3,p8,rfl,pr⟩
     have hb:=AD (p:=fun i=>!wy5 t s (s.has.getD i 0) (s.jf.getD i 0)) pr
     rw[hb,if_neg (by decide)]
     cases d:A6D t s<;>simp only[go_sem,p2,p3,p8,qd,d]
    .simp only[go_sem]
    .simp only[go_sem,p2,p3,p8]
     intro j hj;omega
   .simp only[go_sem]
   .simp only[go_sem,p2,p3,p8]
    intro j hj;omega
  .simp only[go_sem]
  .simp only[go_sem,p2,p3,p5]
   intro j hj;omega
 .simp only[go_sem]
 .simp only[go_sem]
  rw[show Av t.nodes.length (T6 t s 0 0)=Av t.nodes.length (fun _ _=>false) from HV fun a b _ _=>by simp[T6],HX]
end
def DV(t:A2)(m:List U8):Nat->A8
 |0=>CH t
 |k+1=>(match P6 t (DV t m k) (byt m (2 * k)) (byt m (2 * k+1))with
  |some s=>if Aid t s=0 then s else DV t m k
  |none=>DV t m k)
theorem V9{t:A2}(ht:A7 t)(m:List U8):∀k,Gr t (DV t m k) k
 |0=>Aer ht
 |k+1=>by
  have h:=V9 ht m k
  rw[DV]
  split
  .rename_i s e
   split
   .exact A8l h e
   .exact h.mono (by omega)
  .exact h.mono (by omega)
theorem QD{t:A2}(ht:A7 t)(m:List U8):∀k,B2 t (DV t m k)
 |0=>AhY ht
 |k+1=>by
  have ih:=QD ht m k
  rw[DV]
  split
  .rename_i s e
   split
   .obtain⟨n,h⟩:=AdT ht ih e;exact h.form
   .exact ih
  .exact ih
section
variable {V:Ai}(C:Am V){Q:VV->Prop}
include C
theorem SA(t:A2)(ht:A7 t)(m:List U8)(hl:m.length<=100)(hm:∀x∈m,x.n<256):VP V AlJ [vT t,lU m,.b true] Q↔Q (HJ (DV t m (m.length / 2))):=by
 refine Af ?_
 rw[Ad C.c_z6.1 C.c_z6.2]
 simp only[Aoz,go_sem,SM C t ht]
 unfold VL
 rw[A0]
 refine AJ (M:=Nat) (I:=fun k F h=>2 * k<=m.length/\A3.tmp F 1=lU m/\A3.tmp F 2=.b true/\A3.tmp F 3=.fp (eT t) 0/\A3.tmp F 6=.p 0 0 0 0/\A3.tmp F 7=.p 1 0 0 0/\A3.tmp F 8=.i .i64 ((2 * k:Nat):Int)/\h=grH (DV t m k)) (μ:=fun k=>m.length-2 * k) ?_ 0 _ _ ⟨by omega,?_,?_,?_,?_,?_,?_,?_⟩
 .rintro k F h ⟨hk,p1,p2,p3,p6,p7,p8,rfl⟩
  have w1:IntKind.i64.wrap (((2 * k:Nat):Int)+1)=((2 * k+1:Nat):Int):=by rw[Ax (by omega) (by omega)];omega
  have w2:IntKind.i64.wrap (((2 * k:Nat):Int)+2)=((2 * (k+1):Nat):Int):=by rw[Ax (by omega) (by omega)];omega
  by_cases c:2 * k+1<m.length
  .have ci:decide (((2 * k+1:Nat):Int)<(m.length:Int))=true:=decide_eq_true (by omega)
   have c0:2 * k<m.length:=by omega
   have g0:=AoH c0
   have g1:=AoH c
   have b0:=Abd hm (2 * k)
   have b1:=Abd hm (2 * k+1)
   have v0:IntKind.i64.wrap ((byt m (2 * k):Nat):Int)=((byt m (2 * k):Nat):Int):=Ax (by omega) (by omega)
   have v1:IntKind.i64.wrap ((byt m (2 * k+1):Nat):Int)=((byt m (2 * k+1):Nat):Int):=Ax (by omega) (by omega)
   have h0:=V9 ht m k
   have hn:=fun(Q:VV->Prop)=>A1a C t ht (DV t m k) h0 (by omega) _ _ b0 b1 (Q:=Q)
   cases e:P6 t (DV t m k) (byt m (2 * k)) (byt m (2 * k+1))with
   |none=>
    have eg:DV t m (k+1)=DV t m k:=by rw[DV,e]
    rw[e,CB]at hn
    simp only[A0W,go_sem,p1,p2,p3,p6,p7,p8,w1,w2,ci,c0,c,g0,g1,v0,v1,hn,grH,Q2,A0]
    exact⟨k+1,by omega,by omega,by rw[eg];exact⟨rfl,rfl⟩⟩
   |some s'=>
    have hz:=(A8l h0 e).sz ht (by omega)
    have hw:=fun(Q:VV->Prop)=>A1C C t ht s' hz (Q:=Q)
    rw[e,CQ]at hn
    cases d:decide (Aid t s'=0)with
    |true=>
     have eg:DV t m (k+1)=s':=by rw[DV,e];simp only;rw[if_pos (of_decide_eq_true d)]
     simp only[A0W,go_sem,p1,p2,p3,p6,p7,p8,w1,w2,ci,c0,c,g0,g1,v0,v1,hn,grH,hw,d,A0]
     exact⟨k+1,by omega,by omega,by rw[eg];exact⟨rfl,rfl⟩⟩
    |false=>
     have eg:DV t m (k+1)=DV t m k:=by rw[DV,e];simp only;rw[if_neg (of_decide_eq_false d)]
     simp only[A0W,go_sem,p1,p2,p3,p6,p7,p8,w1,w2,ci,c0,c,g0,g1,v0,v1,hn,grH,hw,d,A0]
     exact⟨k+1,by omega,by omega,by rw[eg];exact⟨rfl,rfl⟩⟩
  .have ci:decide (2 * k+1<m.length)=false:=decide_eq_false (by omega)
   have e:k=m.length / 2:=by omega
   simp only[A0W,go_sem,p1,p2,p3,p6,p7,p8,w1,w2,ci,grH,A0]
   rw[e]
 .simp only[go_sem]
 .simp only[go_sem]
 .simp only[go_sem]
 .simp only[go_sem]
 .simp only[go_sem]
 .simp only[go_sem]
 .rfl
end
def Acy(t:A2)(s:A8):Prop:=∀i,¬M7 (wyB t s) t.nodes.length i i
theorem G3.upge{t:A2}:∀{n u e:Nat},G3 t n u e->∀m,u<m->m<e->(u:Int)<=(t.at m).up:=by
 intro n
 induction n with
 |zero=>intro u e h;exact absurd h (by simp[G3])
 |succ n ih=>
  intro u e h m h1 h2
  obtain⟨⟨_,ht,_⟩,h⟩:=h
  rcases h with ⟨_,_,rfl⟩|⟨c,_,_,al,hb⟩|⟨c,_,_,vals,k,loc,mode,_,hv0,hk0,hke,hloc,hs,_⟩
  .omega
  .by_cases e1:m=u+1
   .rw[e1,(Ea c).1];exact Int.le_refl _
   .have:=ih hb m (by omega) h2;omega
  .obtain⟨v,hv,a,b⟩:=Ci (k:=k) (m:=m) vals (by omega) (by omega)
   obtain⟨s1,s2,s3⟩:=hs v hv
   by_cases e1:m=k v
   .rw[e1,(Ea s1).1];exact Int.le_refl _
   .have:=ih s3 m (by omega) b
    have mono:∀v,v<=vals->k 0<=k v:=by
     intro v
     induction v with
     |zero=>intro _;omega
     |succ v iv=>intro hv;have:=iv (by omega);have:=(hs v (by omega)).2.2.moreN.1;omega
    have:=mono v (by omega)
    omega
theorem A8G{k:Nat->Nat}{n v w x:Nat}(mono:∀v,v<n->k v<k (v+1))(hv:v<n)(hw:w<n)(a:k v<=x)(b:x<k (v+1))(c:k w<=x)(d:x<k (w+1)):v=w:=by
 have up:∀d i,i+d<=n->k i<=k (i+d):=by
  intro d
  induction d with
  |zero=>intro i _;exact Nat.le_refl _
  |succ d ih=>
   intro i hi
   have h1:=ih i (by omega)
   have h2:=mono (i+d) (by omega)
   rw[<- add_assoc];omega
 rcases Nat.lt_trichotomy v w with h|h|h
 .have:=up (w-(v+1)) (v+1) (by omega)
  rw[show v+1+(w-(v+1))=w by omega]at this
  omega
 .exact h
 .have:=up (v-(w+1)) (w+1) (by omega)
  rw[show w+1+(v-(w+1))=v by omega]at this
  omega
theorem G3.nokid{t:A2}(hu:J9 t):∀{n u e:Nat},G3 t n u e->e<=t.nodes.length->∀w,u<=w->w<e->(t.at w).fin=true->∀m,u<m->m<e->(t.at m).up≠w:=by
 intro n
 induction n with
 |zero=>intro u e h;exact absurd h (by simp[G3])
 |succ n ih=>
  intro u e h h3 w h9 h4 hf m h1 h2 hm
  obtain⟨⟨_,ht,_⟩,h⟩:=h
  rcases h with ⟨_,_,rfl⟩|⟨c,nf,_,al,hb⟩|⟨c,nf,_,vals,k,loc,mode,_,hv0,hk0,hke,hloc,hs,_⟩
  .omega
  .have h5:w≠u:=fun e=>by rw[e,nf]at hf;cases hf
   by_cases e1:m=u+1
   .rw[e1,(Ea c).1]at hm;omega
   .exact ih hb h3 w (by omega) h4 hf m (by omega) h2 hm
  .have h5:w≠u:=fun e=>by rw[e,nf]at hf;cases hf
   have mono:∀v,v<vals->k v<k (v+1):=fun v hv=>(hs v hv).2.2.moreN.1
   obtain⟨v,hv,a,b⟩:=Ci (k:=k) (m:=w) vals (by omega) (by omega)
   obtain⟨v',h0,a',b'⟩:=Ci (k:=k) (m:=m) vals (by omega) (by omega)
   obtain⟨s1,s2,s3⟩:=hs v' h0
   have top:∀d i,i+d<=vals->k i<=k (i+d):=by
    intro d
    induction d with
    |zero=>intro i _;exact Nat.le_refl _
    |succ d ih=>
     intro i hi
     have h1:=ih i (by omega)
     have h2:=mono (i+d) (by omega)
     rw[<- add_assoc];omega
   have h7:k (v' + 1)<=e:=by
    have:=top (vals-(v' + 1)) (v' + 1) (by omega)
    rw[show v' + 1+(vals-(v' + 1))=vals by omega]at this
    omega
   by_cases e1:m=k v'
   .rw[e1,(Ea s1).1]at hm;omega
   .have h6:=s3.upge m (by omega) b'
    have h8:=hu m (by omega)
    have:v=v':=A8G mono hv h0 a b (by omega) (by omega)
    subst this
    exact ih s3 (by omega) w a b hf m (by omega) b' hm
theorem A7.nokid{t:A2}(h:A7 t){w m:Nat}(hw:w<t.nodes.length)(h0:0<=(t.at w).thread)(hf:(t.at w).fin=true)(hm:m<t.nodes.length):(t.at m).up≠w:=by
 intro hu
 have lo:∀m,m<t.nodes.length->0<=(t.at m).thread->t.locs.length<=m:=fun m hm hu=>by
  rcases lt_or_ge m t.locs.length with h1|h1
  .have:=(h.init m h1).thr;omega
  .exact h1
 have h8:t.locs.length<=m:=by
  rcases lt_or_ge m t.locs.length with h1|h1
  .have:=(h.init m h1).up;omega
  .exact h1
 have h9:=lo w hw h0
 obtain⟨s,h5,he,hs⟩:=h.thr
 have mono:∀v,v<t.regs.length->s v<s (v+1):=fun v hv=>by obtain⟨_,n,hn⟩:=hs v hv;exact hn.moreN.1
 obtain⟨v,hv,a,b⟩:=Ci (k:=s) (m:=w) t.regs.length (by omega) (by omega)
 obtain⟨v',h3,a',b'⟩:=Ci (k:=s) (m:=m) t.regs.length (by omega) (by omega)
 obtain⟨hb,n,hn⟩:=hs v' h3
 have top:∀d i,i+d<=t.regs.length->s i<=s (i+d):=by
  intro d
  induction d with
  |zero=>intro i _;exact Nat.le_refl _
  |succ d ih=>
   intro i hi
   have h1:=ih i (by omega)
   have h2:=mono (i+d) (by omega)
   rw[<- add_assoc];omega
 have h4:s (v' + 1)<=t.nodes.length:=by
  have:=top (t.regs.length-(v' + 1)) (v' + 1) (by omega)
  rw[show v' + 1+(t.regs.length-(v' + 1))=t.regs.length by omega]at this
  omega
 by_cases e1:m=s v'
 .simp only[DO,and_eq_true,decide_eq_true_eq]at hb
  have:=hb.1.1.1.1.1.2
  rw[<- e1]at this;omega
 .have h6:=hn.upge m (by omega) b'
  have h7:=h.up m hm
  have:v=v':=A8G mono hv h3 a b (by omega) (by omega)
  subst this
  exact hn.nokid h.up h4 w a b hf m (by omega) b' hu
end Go.AM
