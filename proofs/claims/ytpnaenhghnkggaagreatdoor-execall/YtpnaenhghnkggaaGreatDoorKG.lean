/-
  Own work, part of the proof of these laws: what functions compute.
-/
import Derived.Test.YtpnaenhghnkggaaGreatDoorKF
set_option maxRecDepth 10000
set_option maxHeartbeats 64000000
set_option linter.unusedVariables false
set_option linter.unusedSimpArgs false
set_option linter.unusedSectionVars false
open Bool (and_eq_true false_eq_true)
open Int (toNat_natCast)
open List (take_length all_eq_true map_append)
namespace Go.AM
open Go Go.Proofs
section
variable {V:Ai}(C:Am V){Q:VV->Prop}
include C
theorem SX(t:A2)(ht:A7 t)(s:A8)(hn:BF t s.has)(l:List Int)(hl:l.length<=1000)(loc:Int):VP V Yg [.fp (eFm t s) 0,lI l,.i .i64 loc] Q↔Q (.b (ED t l s.has loc)):=by
 refine Af ?_
 rw[Ad C.c_z166.1 C.c_z166.2]
 have hc:=ht.n64
 simp only[A3o,go_sem]
 refine Aj (by decide) l.length (by omega) (I:=fun k F h=>A3.tmp F 0=.fp (eFm t s) 0/\A3.tmp F 1=lI l/\A3.tmp F 2=.i .i64 loc/\A3.tmp F 9=lI l/\h=[]/\∀j,j<k->E9 t l s.has loc j=true) ?_ ?_ 0 _ _ (by omega) ?_ ?_ ?_
 .rintro k F h hk h3 h2 ⟨p0,p1,p2,p9,rfl,p3⟩
  have h4:E9 t l s.has loc k=false->false=ED t l s.has loc:=fun h=>by rw[ED,AB hk h];rfl
  have hw:=fun(n loc:Int) (Q:VV->Prop)=>HG C t ht s hn n loc (Q:=Q)
  cases c1:Bu t s.has (l.getD k 0) loc with
  |false=>
   simp only[go_sem,h3,h2,p0,p1,p2,p9,Ak hk,hk,hw,c1,A0]
   exact h4 (by rw[E9,c1];rfl)
  |true=>
  have h9:AQ s.has (l.getD k 0)=true:=by simp only[Bu,and_eq_true]at c1;exact c1.1
  obtain⟨m,h0,hm⟩:=A9 (hn _ (Ac.1 h9))
  have e0:E9 t l s.has loc k=(decide (0<=(t.at m).thread)&&Ch l k&&(!decide (1<l.length)||CY (t.at m))&&(decide (k=0)||(l.take k).all fun x=>B1 t m x)):=by
   unfold E9;rw[c1,h0,toNat_natCast];rfl
  have h1:Ch l k=(decide (k=0)||decide (l.getD (k-1) 0<(m:Int))):=by rw[Ch,h0]
  rw[h0]at c1
  cases c2:decide ((t.at m).thread<0)with
  |true=>
   simp only[go_sem,h3,h2,p0,p1,p2,p9,Ak hk,hk,hw,c1,A0,h0,A5 hm,c2]
   have:decide (0<=(t.at m).thread)=false:=by have:=of_decide_eq_true c2;exact decide_eq_false (by omega)
   exact h4 (by rw[e0,this];rfl)
  |false=>
  have ha:decide (0<=(t.at m).thread)=true:=by have:=of_decide_eq_false c2;exact decide_eq_true (by omega)
  rw[ha,Bool.true_and]at e0
  have pl:∀b,decide ((1:Int)<l.length)=b->decide (1<l.length)=b:=fun b h=>by rw[<- h];congr 1;exact propext ⟨fun h=>by omega,fun h=>by omega⟩
  by_cases z:k=0
  .subst z
   have r0:Ch l 0=true:=by rw[h1];rfl
   rw[r0,Bool.true_and]at e0
   cases c5:decide ((1:Int)<l.length)with
   |false=>
    rw[pl _ c5]at e0
    simp only[go_sem,h3,h2,p0,p1,p2,p9,Ak hk,hk,hw,c1,A0,h0,A5 hm,c2,c5,dz0]
    exact Gi p3 (by rw[e0];rfl)
   |true=>
    rw[pl _ c5]at e0
    cases c6:CY (t.at m)with
    |false=>
     simp only[go_sem,h3,h2,p0,p1,p2,p9,Ak hk,hk,hw,c1,A0,h0,A5 hm,c2,c5,c6,dz0,C8 C]
     exact h4 (by rw[e0,c6];rfl)
    |true=>
     simp only[go_sem,h3,h2,p0,p1,p2,p9,Ak hk,hk,hw,c1,A0,h0,A5 hm,c2,c5,c6,dz0,C8 C]
     exact Gi p3 (by rw[e0,c6];rfl)
  .have z0:decide ((0:Int)<(k:Int))=true:=decide_eq_true (by omega)
   have h5:k-1<l.length:=by omega
   have zw:=EN (show 0<k by omega) (by omega)
   have h6:decide ((1:Int)<l.length)=true:=decide_eq_true (by omega)
   rw[pl _ h6,decide_eq_false z,Bool.false_or]at e0
   rw[decide_eq_false z,Bool.false_or]at h1
   have hb:BF t (l.take k):=by
    intro x hx
    obtain⟨j,hj,rfl⟩:=List.mem_iff_getElem.1 hx
    rw[List.length_take]at hj
    rw[List.getElem_take]
    have:=p3 j (by omega)
    simp only[E9,Bu,and_eq_true]at this
    have:=hn _ (Ac.1 this.1.1.1.1.1)
    rw[List.getD_eq_getElem?_getD,List.getElem?_eq_getElem (by omega)]at this
    exact this
   have h8:k<=l.length:=by omega
   have h7:=fun(Q:VV->Prop)=>SY C t ht s m hm (l.take k) (by rw[List.length_take];omega) hb (Q:=Q)
   cases c4:decide ((m:Int)<=l.getD (k-1) 0)with
   |true=>
    have r1:Ch l k=false:=by rw[h1];have:=of_decide_eq_true c4;exact decide_eq_false (by omega)
    simp only[go_sem,h3,h2,p0,p1,p2,p9,Ak hk,Ak h5,hk,hw,c1,A0,h0,A5 hm,c2,z0,zw,c4]
    exact h4 (by rw[e0,r1];rfl)
   |false=>
    have r1:Ch l k=true:=by rw[h1];have:=of_decide_eq_false c4;exact decide_eq_true (by omega)
    rw[r1,Bool.true_and]at e0
    cases c6:CY (t.at m)with
    |false=>
     simp only[go_sem,h3,h2,p0,p1,p2,p9,Ak hk,Ak h5,hk,hw,c1,A0,h0,A5 hm,c2,z0,zw,c4,h6,c6,C8 C]
     exact h4 (by rw[e0,c6];rfl)
    |true=>
     rw[c6,Bool.or_true,Bool.true_and]at e0
     cases c7:(l.take k).all fun x=>B1 t m x with
     |false=>
      simp only[go_sem,h3,h2,p0,p1,p2,p9,Ak hk,Ak h5,hk,hw,c1,A0,h0,A5 hm,c2,z0,zw,c4,h6,c6,C8 C,h7,c7,h8]
      exact h4 (by rw[e0];exact c7)
     |true=>
      simp only[go_sem,h3,h2,p0,p1,p2,p9,Ak hk,Ak h5,hk,hw,c1,A0,h0,A5 hm,c2,z0,zw,c4,h6,c6,C8 C,h7,c7,h8]
      exact Gi p3 (by rw[e0];exact c7)
 .rintro F h ⟨p0,p1,p2,p9,rfl,p3⟩
  simp only[go_sem,p0,p1,p2,p9]
  rw[ED,AD p3]
  simp
 .simp only[go_sem]
 .simp only[go_sem]
 .simp only[go_sem]
  intro j hj;omega
theorem SZ(t:A2)(ht:A7 t)(s:A8)(hs:GI s):VP V A1n [.fp (eFm t s) 0] Q↔Q (.b (Cg t s.has)):=by
 refine Af ?_
 rw[Ad C.c_z96.1 C.c_z96.2]
 have h8:=ht.n64
 have hh:=hs.has
 generalize hl:s.has=l at *
 simp only[Ack,go_sem,hl]
 refine Aj (by decide) l.length (by omega) (I:=fun k F h=>A3.tmp F 0=.fp (eFm t s) 0/\A3.tmp F 10=lI l/\h=[]/\∀j,j<k->Ce t l j=true) ?_ ?_ 0 _ _ (by omega) ?_ ?_ ?_
 .rintro k F h hk h3 h2 ⟨p0,h0,rfl,p3⟩
  have h4:Ce t l k=false->false=Cg t l:=fun h=>by rw[Cg,AB hk h];rfl
  cases c0:BZ t (l.getD k 0)with
  |false=>
   have cc:decide (l.getD k 0<0)=true\/(decide (l.getD k 0<0)=false/\decide ((t.nodes.length:Int)<=l.getD k 0)=true):=by
    simp only[BZ,Bool.and_eq_false_iff,decide_eq_false_iff_not]at c0
    by_cases d:l.getD k 0<0
    .exact .inl (decide_eq_true d)
    .exact .inr ⟨decide_eq_false d,decide_eq_true (by omega)⟩
   rcases cc with cc|⟨cc,cc2⟩
   .simp only[go_sem,h3,h2,p0,h0,Ak hk,hk,cc,A0,hl]
    exact h4 (by rw[Ce,c0];rfl)
   .simp only[go_sem,h3,h2,p0,h0,Ak hk,hk,cc,cc2,A0,hl]
    exact h4 (by rw[Ce,c0];rfl)
  |true=>
  obtain⟨m,h1,hm⟩:=A9 c0
  have q1:decide ((m:Int)<0)=false:=decide_eq_false (by omega)
  have q2:decide ((t.nodes.length:Int)<=m)=false:=decide_eq_false (by omega)
  have q3:decide (t.nodes.length<=m)=false:=decide_eq_false (by omega)
  have h9:=ht.up m hm
  have e0:Ce t l k=(Ch l k&&(decide ((t.at m).up<0)||AQ l (t.at m).up)):=by
   unfold Ce;rw[c0,h1,toNat_natCast,Bool.true_and]
  have h5:Ch l k=(decide (k=0)||decide (l.getD (k-1) 0<(m:Int))):=by rw[Ch,h1]
  have h7:(decide (0<=(t.at m).up)=true/\decide ((t.at m).up<0)=false/\Bh (BI l) (t.at m).up=AQ l (t.at m).up)\/(decide (0<=(t.at m).up)=false/\decide ((t.at m).up<0)=true):=by
   by_cases d:0<=(t.at m).up
   .exact .inl ⟨decide_eq_true d,decide_eq_false (by omega),Gw l d (by omega)⟩
   .exact .inr ⟨decide_eq_false d,decide_eq_true (by omega)⟩
  have zc:(decide ((0:Int)<(k:Int))=false/\Ch l k=true)\/(decide ((0:Int)<(k:Int))=true/\0<k/\Ch l k=decide (l.getD (k-1) 0<(m:Int))):=by
   by_cases z:k=0
   .subst z;exact .inl ⟨rfl,by rw[h5];rfl⟩
   .exact .inr ⟨decide_eq_true (by omega),by omega,by rw[h5,decide_eq_false z,Bool.false_or]⟩
  rcases zc with ⟨z0,r1⟩|⟨z0,zp,r0⟩
  .rw[r1,Bool.true_and]at e0
   rcases h7 with ⟨u1,u2,u3⟩|⟨u1,u2⟩
   .rw[u2,Bool.false_or]at e0
    cases c5:AQ l (t.at m).up with
    |false=>
     simp only[go_sem,h3,h2,p0,h0,Ak hk,hk,h1,q1,q2,q3,z0,A5 hm,u1,u3,c5,A0,AS C,hl]
     exact h4 (by rw[e0,c5])
    |true=>
     simp only[go_sem,h3,h2,p0,h0,Ak hk,hk,h1,q1,q2,q3,z0,A5 hm,u1,u3,c5,A0,AS C,hl]
     exact Gi p3 (by rw[e0,c5])
   .simp only[go_sem,h3,h2,p0,h0,Ak hk,hk,h1,q1,q2,q3,z0,A5 hm,u1,A0,AS C,hl]
    exact Gi p3 (by rw[e0,u2];rfl)
  .have h6:k-1<l.length:=by omega
   have zw:=EN zp (by omega)
   cases c4:decide ((m:Int)<=l.getD (k-1) 0)with
   |true=>
    have r1:Ch l k=false:=by rw[r0];have:=of_decide_eq_true c4;exact decide_eq_false (by omega)
    simp only[go_sem,h3,h2,p0,h0,Ak hk,Ak h6,hk,h1,q1,q2,q3,z0,zw,c4,A0,hl]
    exact h4 (by rw[e0,r1];rfl)
   |false=>
    have r1:Ch l k=true:=by rw[r0];have:=of_decide_eq_false c4;exact decide_eq_true (by omega)
    rw[r1,Bool.true_and]at e0
    rcases h7 with ⟨u1,u2,u3⟩|⟨u1,u2⟩
    .rw[u2,Bool.false_or]at e0
     cases c5:AQ l (t.at m).up with
     |false=>
      simp only[go_sem,h3,h2,p0,h0,Ak hk,Ak h6,hk,h1,q1,q2,q3,z0,zw,c4,A5 hm,u1,u3,c5,A0,AS C,hl]
      exact h4 (by rw[e0,c5])
     |true=>
      simp only[go_sem,h3,h2,p0,h0,Ak hk,Ak h6,hk,h1,q1,q2,q3,z0,zw,c4,A5 hm,u1,u3,c5,A0,AS C,hl]
      exact Gi p3 (by rw[e0,c5])
    .simp only[go_sem,h3,h2,p0,h0,Ak hk,Ak h6,hk,h1,q1,q2,q3,z0,zw,c4,A5 hm,u1,A0,AS C,hl]
     exact Gi p3 (by rw[e0,u2];rfl)
 .rintro F h ⟨p0,h0,rfl,p3⟩
  have s1:=fun(Q:VV->Prop)=>ZE C t ht (Q:=Q)
  simp only[go_sem,p0,h0,s1,Hz C,hl]
  rw[Cg,AD p3,NI,Bool.true_and]
 .simp only[go_sem,hl]
 .simp only[go_sem,hl]
 .simp only[go_sem,hl]
  intro j hj;omega
theorem MK(t:A2)(ht:A7 t)(s:A8)(hs:GI s)(hn:BF t s.has):VP V A1o [.fp (eFm t s) 0] Q↔Q (.b (Lk t s)):=by
 refine Af ?_
 rw[Ad C.c_z97.1 C.c_z97.2]
 have hc:=ht.n64
 have hh:=hs.has
 by_cases c2:¬s.jf.length=s.has.length
 .have ha:¬(s.jf.length:Int)=s.has.length:=by omega
  simp only[A6u,go_sem,ha]
  rw[Lk,decide_eq_false c2];rfl
 have c2:=Decidable.not_not.1 c2
 have ha:(s.jf.length:Int)=s.has.length:=by omega
 simp only[A6u,go_sem,ha]
 refine Aj (by decide) s.has.length (by omega) (I:=fun k F h=>A3.tmp F 0=.fp (eFm t s) 0/\A3.tmp F 24=lI s.has/\h=[]/\∀j,j<k->GU t s j=true) ?_ ?_ 0 _ _ (by omega) ?_ ?_ ?_
 .rintro k F h hk h7 h6 ⟨p0,h1,rfl,p3⟩
  have h9:GU t s k=false->false=Lk t s:=fun h=>by rw[Lk,AB hk h,Bool.and_false]
  have h0:k<s.jf.length:=by omega
  have hw:=fun(n loc:Int) (Q:VV->Prop)=>HG C t ht s hn n loc (Q:=Q)
  obtain⟨n,h2,h4⟩:=A9 (hn _ (Aa (d:=0) hk))
  have h3:GU t s k=if(t.at n).kind=2 then AQ s.has (s.jf.getD k 0)&&G7 t (s.jf.getD k 0) (t.at n).loc&&decide ((t.at (s.jf.getD k 0).toNat).val=(t.at n).val)else decide (s.jf.getD k 0=-1):=by
   unfold GU;rw[h2,toNat_natCast]
  by_cases k2:(t.at n).kind=2
  .rw[if_pos k2]at h3
   cases w1:Bu t s.has (s.jf.getD k 0) (t.at n).loc with
   |false=>
    simp only[go_sem,h7,h6,p0,h1,Ak hk,hk,Ak h0,h0,h2,A5 h4,k2,hw,w1,A0]
    exact h9 (by rw[h3,show(AQ s.has (s.jf.getD k 0)&&G7 t (s.jf.getD k 0) (t.at n).loc)=Bu t s.has (s.jf.getD k 0) (t.at n).loc from rfl,w1];rfl)
   |true=>
   have w2:AQ s.has (s.jf.getD k 0)=true:=by simp only[Bu,and_eq_true]at w1;exact w1.1
   obtain⟨m,h8,hb⟩:=A9 (hn _ (Ac.1 w2))
   have h5:GU t s k=decide ((t.at m).val=(t.at n).val):=by
    rw[h3,show(AQ s.has (s.jf.getD k 0)&&G7 t (s.jf.getD k 0) (t.at n).loc)=Bu t s.has (s.jf.getD k 0) (t.at n).loc from rfl,w1,h8,toNat_natCast,Bool.true_and]
   rw[h8]at w1
   cases x3:decide ((t.at m).val=(t.at n).val)with
   |false=>
    simp only[go_sem,h7,h6,p0,h1,Ak hk,hk,Ak h0,h0,h2,A5 h4,k2,hw,w1,h8,A5 hb,x3,A0]
    exact h9 (by rw[h5,x3])
   |true=>
    simp only[go_sem,h7,h6,p0,h1,Ak hk,hk,Ak h0,h0,h2,A5 h4,k2,hw,w1,h8,A5 hb,x3,A0]
    exact Gi p3 (by rw[h5,x3])
  .rw[if_neg k2]at h3
   cases w1:decide (s.jf.getD k 0=-1)with
   |false=>
    simp only[go_sem,h7,h6,p0,h1,Ak hk,hk,Ak h0,h0,h2,A5 h4,k2,w1,A0]
    exact h9 (by rw[h3,w1])
   |true=>
    simp only[go_sem,h7,h6,p0,h1,Ak hk,hk,Ak h0,h0,h2,A5 h4,k2,w1,A0]
    exact Gi p3 (by rw[h3,w1])
 .rintro F h ⟨p0,h1,rfl,p3⟩
  simp only[go_sem,p0,h1]
  rw[Lk,decide_eq_true c2,AD p3];rfl
 .simp only[go_sem]
 .simp only[go_sem]
 .simp only[go_sem]
  intro j hj;omega
end
abbrev hAl(i:Nat)(l:List Int):VH:=[some ⟨AG,1,i,false,l.map eI⟩]
theorem A6y:∀(l:List (List Int)),(∀c∈l,c.length<=1000)->l.flatten.length<=1000 * l.length:=by
 intro l
 induction l with
 |nil=>intro _;simp
 |cons c l ih=>
  intro h
  have h1:=h c List.mem_cons_self
  have h2:=ih fun d hd=>h d (List.mem_cons_of_mem _ hd)
  rw[List.flatten_cons,List.length_append,List.length_cons]
  omega
theorem Aae(L:Nat)(l:List Int):(l.map eI).all (CK L)=true:=by
 rw[all_eq_true]
 intro r hr
 obtain⟨x,_,rfl⟩:=List.mem_map.1 hr
 rfl
section
variable {V:Ai}(C:Am V){Q:VV->Prop}
include C
theorem RY(t:A2)(ht:A7 t)(s:A8)(hs:GI s)(hn:BF t s.has):VP V A1p [.fp (eFm t s) 0] Q↔Q (.b (Ej t s)):=by
 refine Af ?_
 rw[Ad C.c_z98.1 C.c_z98.2]
 have qd:=ht.n64
 have hh:=hs.has
 have qi:=hs.mo
 by_cases c2:¬s.mo.length=t.locs.length
 .have ha:¬(s.mo.length:Int)=t.locs.length:=by omega
  simp only[A6v,go_sem,ha]
  rw[Ej,decide_eq_false c2];rfl
 have c2:=Decidable.not_not.1 c2
 have ha:(s.mo.length:Int)=t.locs.length:=by omega
 simp only[A6v,go_sem,ha]
 refine Aj (by decide) s.mo.length (by omega) (I:=fun k F h=>A3.tmp F 0=.fp (eFm t s) 0/\A3.tmp F 28=.ls (s.mo.map EV)/\h=[]/\∀j,j<k->Ln t s j=true) ?_ ?_ 0 _ _ (by omega) ?_ ?_ ?_
 .rintro k F h hk h6 h5 ⟨p0,h3,rfl,p3⟩
  have h8:Ln t s k=false->false=Ej t s:=fun h=>by rw[Ej,AB hk h,Bool.and_false]
  have qh:=hs.mi' k
  have hu:=hs.mc' k
  have ho:=C7 hk
  generalize hm:s.mo.getD k []=m at *
  by_cases z:m.length=0
  .have z':(m.length:Int)=0:=by omega
   simp only[go_sem,h6,h5,p0,h3,ho,hk,z',A0]
   exact h8 (by simp only[Ln,hm,z];simp)
  have z':¬(m.length:Int)=0:=by omega
  have z0:0<m.length:=by omega
  have hr:∀(Q:VV->Prop),VP V A1h [.ls ((m.getD 0 []).map eI),.ls [[.i .i64 k]]] Q↔Q (.b (decide (m.getD 0 []=[(k:Int)]))):=fun Q=>Kx C (m.getD 0 []) [(k:Int)] (by have:=hu 0;omega) (Q:=Q)
  cases z3:decide (m.getD 0 []=[(k:Int)])with
  |false=>
   simp only[go_sem,h6,h5,p0,h3,ho,hk,z',CT z0,hr,z3,A0]
   exact h8 (by simp only[Ln,hm,z3,Bool.and_false,Bool.false_and])
  |true=>
  have hN:1<=m.length:=z0
  obtain⟨D,hD⟩:∃D,D=m.drop 1:=⟨_,rfl⟩
  have q6:D.length=m.length-1:=by rw[hD,List.length_drop]
  have qa:(m.drop 1).take (m.length-1)=D:=by rw[<- hD,List.take_of_length_le (by omega)]
  have hp:min (m.length-1) (m.length-1)=D.length:=by rw[Nat.min_self,q6]
  have hl:∀c∈D,c.length<=1000:=by
   intro c hc
   obtain⟨i,hi,rfl⟩:=List.mem_iff_getElem.1 (List.mem_of_mem_drop (hD ▸ hc))
   have:=hu i
   rw[List.getD_eq_getElem?_getD,List.getElem?_eq_getElem hi]at this
   exact this
  have h4:L6 m k=(k:Int)::D.flatten:=by rw[L6,hD]
  have hd:Ln t s k=(D.all (fun c=>ED t c s.has k)&&decide ((L6 m k).length=Gm t s k)&&decide ((BP (BI (L6 m k))).length=Gm t s k)):=by
   simp only[Ln,hm,z3,decide_eq_false z,Bool.not_false,Bool.true_and,<- hD]
  simp only[go_sem,h6,h5,p0,h3,ho,hk,z',CT z0,hr,z3,hN,qa,hp,A0]
  refine Aj (by decide) D.length (by omega) (I:=fun i F h=>A3.tmp F 0=.fp (eFm t s) 0/\A3.tmp F 28=.ls (s.mo.map EV)/\A3.tmp F 3=.i .i64 k/\A3.tmp F 30=.i .i64 k/\A3.tmp F 29=.i .i64 s.mo.length/\A3.tmp F 50=.ls (D.map EG)/\A3.tmp F 5=.sl 0 i 0 ((D.take i).flatten.length+1)/\h=hAl i ((k:Int)::(D.take i).flatten)/\∀(j:Nat) (hj:j<D.length),j<i->ED t D[j] s.has k=true) ?_ ?_ 0 _ _ (by omega) ?_ ?_ ?_
  .rintro i F h hi hz hy ⟨q0,h0,q3,h2,h1,hf,q5,rfl,q4⟩
   have q7:=hl _ (List.getElem_mem hi)
   have hq:=fun(Q:VV->Prop)=>SX C t ht s hn D[i] q7 k (Q:=Q)
   have h9:D[i]? = some D[i]:=List.getElem?_eq_getElem hi
   have qb:=A6y (D.take i) (fun c hc=>hl c (List.mem_of_mem_take hc))
   rw[List.length_take]at qb
   have b1:((D.take i).flatten.length+1+D[i].length) * 8<=A6:=by unfold A6;omega
   have he:(D.take (i+1)).flatten=(D.take i).flatten++D[i]:=by rw[List.take_succ_eq_append_getElem hi,List.flatten_append];simp
   cases c4:ED t D[i] s.has k with
   |false=>
    simp only[go_sem,hz,hy,q0,h0,q3,h2,h1,hf,q5,hi,h9,hq,c4,A0]
    exact h8 (by rw[hd,show D.all (fun c=>ED t c s.has k)=false from List.all_eq_false.2 ⟨D[i],List.getElem_mem hi,by rw[c4];simp⟩];rfl)
   |true=>
    simp only[go_sem,hz,hy,q0,h0,q3,h2,h1,hf,q5,hi,h9,hq,c4,b1,he,A0]
    obtain⟨y,ys,qc⟩:∃y ys,D[i]=y::ys:=by
     cases h:D[i]with
     |nil=>rw[h]at c4;simp[ED]at c4
     |cons y ys=>exact⟨y,ys,rfl⟩
    have e1:(List.map eI D[i])=eI y::List.map eI ys:=by rw[qc];rfl
    have e2:eI (k:Int)::(List.map eI (List.take i D).flatten++List.map eI D[i])=((k:Int)::((List.take i D).flatten++D[i])).map eI:=by rw[List.map_cons,map_append]
    rw[e2,e1]
    refine⟨⟨.inr (fun x hx=>by cases hx;exact Aae _ _),trivial⟩,?_,rfl,?_⟩
    .show VV.sl 0 (i+1) 0 ((List.take i D).flatten.length+1+D[i].length)=_
     congr 1;omega
    .intro j hj qf
     by_cases e:j=i
     .subst e;exact c4
     .exact q4 j hj (by omega)
  .rintro F h ⟨q0,h0,q3,h2,h1,hf,q5,rfl,q4⟩
   have q9:D.all (fun c=>ED t c s.has k)=true:=by
    rw[all_eq_true]
    intro c hc
    obtain⟨j,hj,rfl⟩:=List.mem_iff_getElem.1 hc
    exact q4 j hj hj
   rw[take_length]at q5
   simp only[go_sem,q0,h0,q3,h2,h1,hf,q5,take_length]
   rw[<- h4]
   refine Aj (by decide) s.has.length (by omega) (I:=fun i F h=>A3.tmp F 0=.fp (eFm t s) 0/\A3.tmp F 28=.ls (s.mo.map EV)/\A3.tmp F 3=.i .i64 k/\A3.tmp F 30=.i .i64 k/\A3.tmp F 29=.i .i64 s.mo.length/\A3.tmp F 69=lI s.has/\A3.tmp F 5=.sl 0 D.length 0 (L6 m k).length/\h=hAl D.length (L6 m k)/\A3.tmp F 8=.i .i64 (((s.has.take i).filter fun n=>Bu t s.has n k).length:Nat)) ?_ ?_ 0 _ _ (by omega) ?_ ?_ ?_
   .rintro i F h hi q2 q1 ⟨q0,h0,q3,h2,h1,h7,q5,rfl,q8⟩
    have hw:=fun(n loc:Int) (Q:VV->Prop)=>HG C t ht s hn n loc (Q:=Q)
    have h9:s.has[i]? = some s.has[i]:=List.getElem?_eq_getElem hi
    have he:s.has.take (i+1)=s.has.take i++[s.has[i]]:=List.take_succ_eq_append_getElem hi
    cases c4:Bu t s.has s.has[i] k with
    |false=>
     simp only[go_sem,q2,q1,q0,h0,q3,h2,h1,h7,q5,q8,hi,h9,hw,c4,A0]
     have e:[s.has[i]].filter (fun n=>Bu t s.has n k)=[]:=by rw[List.filter_cons,c4];rfl
     rw[he,List.filter_append,e,List.append_nil]
    |true=>
     have qg:((s.has.take i).filter fun n=>Bu t s.has n k).length<=1000:=Nat.le_trans (List.length_filter_le _ _) (by rw[List.length_take];omega)
     have w1:=Hb (show((s.has.take i).filter fun n=>Bu t s.has n k).length<9223372036854775807 by omega)
     simp only[go_sem,q2,q1,q0,h0,q3,h2,h1,h7,q5,q8,hi,h9,hw,c4,w1,A0]
     have e:[s.has[i]].filter (fun n=>Bu t s.has n k)=[s.has[i]]:=by rw[List.filter_cons,c4];rfl
     rw[he,List.filter_append,e,List.length_append];rfl
   .rintro F h ⟨q0,h0,q3,h2,h1,h7,q5,rfl,q8⟩
    rw[take_length,show(s.has.filter fun n=>Bu t s.has n k).length=Gm t s k from rfl]at q8
    have qe:(L6 m k).length<=1000000000:=by
     have:=A6y D hl
     rw[h4,List.length_cons];omega
    have hv:=fun(Q:VV->Prop)=>D4 C (L6 m k) (by omega) (Q:=Q)
    by_cases c7:(L6 m k).length=Gm t s k
    .have hb:((L6 m k).length:Int)=Gm t s k:=by omega
     by_cases c8:(BP (BI (L6 m k))).length=Gm t s k
     .have hg:((BP (BI (L6 m k))).length:Int)=Gm t s k:=by omega
      simp only[go_sem,q0,h0,q3,h2,h1,h7,q5,q8,hb,hv,Je C,hg,hAl,take_length]
      exact Gi p3 (by rw[hd,q9,decide_eq_true c7,decide_eq_true c8];rfl)
     .have hg:¬((BP (BI (L6 m k))).length:Int)=Gm t s k:=by omega
      simp only[go_sem,q0,h0,q3,h2,h1,h7,q5,q8,hb,hv,Je C,hg,hAl,take_length]
      exact h8 (by rw[hd,decide_eq_false c8,Bool.and_false])
    .have hb:¬((L6 m k).length:Int)=Gm t s k:=by omega
     simp only[go_sem,q0,h0,q3,h2,h1,h7,q5,q8,hb]
     exact h8 (by rw[hd,decide_eq_false c7,Bool.and_false,Bool.false_and])
   .simp only[go_sem,q0,h0,q3,h2,h1,q5]
   .simp only[go_sem,q0,h0,q3,h2,h1,q5]
   .simp only[go_sem,q0,h0,q3,h2,h1,q5]
    rw[h4];rfl
  .simp only[go_sem,h6,h5,p0,h3]
  .simp only[go_sem,h6,h5,p0,h3]
  .simp only[go_sem,h6,h5,p0,h3]
   exact⟨rfl,rfl,fun j hj h=>by omega⟩
 .rintro F h ⟨p0,h3,rfl,p3⟩
  simp only[go_sem,p0,h3]
  rw[Ej,decide_eq_true c2,AD p3];rfl
 .simp only[go_sem]
 .simp only[go_sem]
  exact ha.symm
 .simp only[go_sem]
  intro j hj;omega
end
abbrev QS(t:A2)(s:A8):VV:=.ls [[.f A1n [.fp (eFm t s) 0] []],[.f A1o [.fp (eFm t s) 0] []],[.f A1p [.fp (eFm t s) 0] []]]
section
variable {V:Ai}(C:Am V){Q:VV->Prop}
include C
theorem A1S(s:A8)(hs:GI s):VP V A7U [HJ s] Q↔Q (vW (BI s.has)):=by
 refine Af ?_
 rw[Ad C.c_z42.1 C.c_z42.2]
 have:=hs.has
 simp only[AbX,go_sem,D4 C s.has (by omega)]
theorem A5B(s:A8)(hs:GI s)(n:Int):VP V A7W [HJ s,.i .i64 n] Q↔Q (.i .i64 (Mv s n)):=by
 refine Af ?_
 rw[Ad C.c_z46.1 C.c_z46.2]
 have hh:=hs.has
 have h0:=fun(Q:VV->Prop)=>AZ C s.has n (by omega) (Q:=Q)
 cases c:AQ s.has n with
 |false=>
  have e:CE (fun y=>decide (n=y)) s.has=-1:=A26 c
  simp only[A0z,go_sem,h0,e]
  rw[Mv,if_pos (.inl (by show CE (fun y=>decide (n=y)) s.has<0;rw[e];decide))]
 |true=>
  obtain⟨k,e,hk,_,_⟩:=Bn c
  have e':CE (fun y=>decide (n=y)) s.has=k:=e
  have q1:decide ((k:Int)<0)=false:=decide_eq_false (by omega)
  by_cases c2:s.jf.length<=k
  .simp only[A0z,go_sem,h0,e',q1,c2]
   rw[Mv,if_pos (.inr (by rw[e];omega))]
  .have h1:k<s.jf.length:=by omega
   simp only[A0z,go_sem,h0,e',q1,c2,Ak h1]
   rw[Mv,if_neg (by rw[e];omega),e,toNat_natCast]
theorem RX(c:List Int)(hc:c.length<9223372036854775807)(w:Int):VP V QU [lI c,.fp [.i .i64 w] 0] Q↔Q (.b (AQ c w)):=by
 refine Af ?_
 rw[Ad C.c_z103.1 C.c_z103.2]
 simp only[A2O,go_sem,H5 C c w hc]
 rfl
theorem fzW(w:Int):Fz [.fp [.i .i64 w] 0]:=fun _ _=>rfl
theorem SW(s:A8)(hs:GI s)(loc w:Int):VP V A7X [HJ s,.i .i64 loc,.i .i64 w] Q↔Q (.i .i64 (BW s loc w)):=by
 refine Af ?_
 rw[Ad C.c_z47.1 C.c_z47.2]
 unfold BW
 by_cases h0:loc<0
 .simp only[A0A,go_sem,h0]
 .obtain⟨k,rfl⟩:=Int.eq_ofNat_of_zero_le (by omega:0<=loc)
  by_cases h1:s.mo.length<=k
  .simp only[A0A,go_sem,h0,h1]
  .have hk:k<s.mo.length:=by omega
   have hl:=hs.mi' k
   have h2:=fun(Q:VV->Prop)=>EZ C (s.mo.getD k []) (by omega) (g:=QU) Fz.nil (fzW C w) (fun c=>AQ c w) (fun x hx=>by
    have:x.length<=1000:=hs.mc _ (Aa hk) x hx
    exact(RX C x (by omega) w).2 rfl) (Q:=Q)
   simp only[A0A,go_sem,h0,h1,C7 hk,h2]
theorem A1R(t:A2)(ht:A7 t)(s:A8)(hs:GI s):VP V Tw [vT t,HJ s] Q↔Q (.b (Cg t s.has&&Lk t s&&Ej t s)):=by
 refine Af ?_
 rw[Ad C.c_z40.1 C.c_z40.2]
 have s1:=fun(Q:VV->Prop)=>Nc C t ht (Q:=Q)
 have s2:=fun(Q:VV->Prop)=>A5C C t ht s hs (Q:=Q)
 have s3:=fun(Q:VV->Prop)=>SZ C t ht s hs (Q:=Q)
 simp only[AbV,go_sem,s1,s2]
 refine Aj (by decide) 3 (by omega) (I:=fun k F h=>A3.tmp F 20=QS t s/\h=[]/\(1<=k->Cg t s.has=true)/\(2<=k->Lk t s=true)/\(3<=k->Ej t s=true)) ?_ ?_ 0 _ _ (by omega) ?_ ?_ ?_
 .rintro k F h hk h5 h4 ⟨h0,rfl,h1,h2,h3⟩
  rcases(show k=0\/k=1\/k=2 by omega)with rfl|rfl|rfl
  .cases c:Cg t s.has with
   |false=>simp only[go_sem,h5,h4,h0,QS,s3,c,A0]
   |true=>simp only[go_sem,h5,h4,h0,QS,s3,c,A0]
  .have hn:=Kg (h1 (by omega))
   have s4:=fun(Q:VV->Prop)=>MK C t ht s hs hn (Q:=Q)
   cases c:Lk t s with
   |false=>simp only[go_sem,h5,h4,h0,QS,s4,c,A0]
   |true=>simp only[go_sem,h5,h4,h0,QS,s4,c,A0];exact h1 (by omega)
  .have hn:=Kg (h1 (by omega))
   have s4:=fun(Q:VV->Prop)=>RY C t ht s hs hn (Q:=Q)
   cases c:Ej t s with
   |false=>simp only[go_sem,h5,h4,h0,QS,s4,c,A0]
   |true=>simp only[go_sem,h5,h4,h0,QS,s4,c,A0];exact⟨h1 (by omega),h2 (by omega)⟩
 .rintro F h ⟨h0,rfl,h1,h2,h3⟩
  simp only[go_sem,h0]
  rw[h1 (by omega),h2 (by omega),h3 (by omega)];rfl
 .simp only[go_sem]
 .simp only[go_sem]
 .simp only[go_sem]
theorem Zx(t:A2)(ht:A7 t)(s:A8)(hs:GI s):VP V Tw [vT t,HJ s] Q↔Q (.b (Bj t s)):=by
 rw[A1R C t ht s hs,AlC t ht s]
end
def Au4:G5:=leaf YI ⟨A3U,QO⟩
theorem Adn:∀n:Fin 65,ZL (AY,A5I) Au4 (leaf P5 ⟨Tq,QL⟩) 5000 ⟨A3t,QN⟩ [.i .u64 1,.i .u64 ((n.val:Nat):Int)] [] (.tu [.i .u64 0,.i .u64 ((n.val:Nat):Int)])=true:=by decide +kernel
def JG(x:Int)(m n:Nat):List Int:=List.replicate m x++List.replicate (n-m) 0
theorem A9R{x:Int}{m n:Nat}(h:m<=n):(JG x m n).length=n:=by simp[JG];omega
theorem A4j{x:Int}{m n:Nat}(h:m<=n):(JG x m n).take m=List.replicate m x:=by
 unfold JG
 rw[List.take_left' (by simp)]
theorem A4i(x:Int)(n:Nat):JG x n n=List.replicate n x:=by simp[JG]
theorem A9S{x:Int}{n:Nat}(h:0<n):List.take (min 1 n) [[VV.i IntKind.i64 x]]++List.map eI (List.drop (min 1 n) (List.replicate n 0))=(JG x 1 n).map eI:=by
 rw[show min 1 n=1 by omega]
 simp[JG]
theorem A4h{x:Int}{m n:Nat}(h:m<=n):(List.replicate m x).map eI++((List.take (min m (n-m)) (List.replicate m x)).map eI++(List.drop (m+min m (n-m)) (JG x m n)).map eI)=(JG x (m+min m (n-m)) n).map eI:=by
 unfold JG
 rw[<- map_append,<- map_append,List.take_replicate,List.drop_append]
 simp only[List.length_replicate,List.drop_replicate]
 rw[show min (min m (n-m)) m=min m (n-m) by omega,show m-(m+min m (n-m))=0 by omega,List.replicate_zero,List.nil_append,show m+min m (n-m)-m=min m (n-m) by omega,
  <- List.append_assoc,List.replicate_append_replicate,show n-m-min m (n-m)=n-(m+min m (n-m)) by omega]
theorem Aod(l:List Int):((l.map eI).all fun r=>r.all VV.cell)=true:=by
 rw[all_eq_true]
 intro r hr
 obtain⟨x,_,rfl⟩:=List.mem_map.1 hr
 rfl
section
variable {V:Ai}(C:Am V){Q:VV->Prop}
include C
theorem A0e{n:Nat}(hn:n<=64):VP V Rf [vW 1#64,.i .u64 (n:Int)] Q↔Q (.tu [vW 0#64,.i .u64 (n:Int)]):=
 Af (CM (a:=⟨Rf,[.i .u64 1,.i .u64 (n:Int)],.tu [.i .u64 0,.i .u64 (n:Int)]⟩) (.of (.leaf C.c_z216) (.leaf C.h_z99) C.c_mathbits_TrailingZeros64) C.c_z178.1 C.c_z178.2 .nil (Adn ⟨n,by omega⟩))
theorem NA(x:Int){n:Nat}(hn:n<=64)(h0:0<n)(b:Nat){Q:VV->VH->Prop}:VP1 V XV [.ls [[.i .i64 x]],.i .i64 n] b Q↔Q (.sl b 0 0 n) [some ⟨AG,1,0,false,(List.replicate n x).map eI⟩]:=by
 refine JW ?_
 rw[JX C.c_z127.2]
 have b1:n * 8<=A6:=by unfold A6;omega
 have q1:¬(n:Int)<0:=by omega
 have q2:¬((n:Int):Int) > 9223372036854775807:=by omega
 have q3:IntKind.u64.wrap (n:Int)=n:=by
  rw[show IntKind.u64.wrap (n:Int)=(n:Int) % 18446744073709551616 from rfl];omega
 have q4:IntKind.i64.wrap (n:Int)=n:=Ax (by omega) (by omega)
 have q5:IntKind.u64.wrap 1=1:=rfl
 have q7:B9 .gtr none (vW 0#64) (vW 0#64)=some (.b false):=rfl
 have q6:¬(9223372036854775807:Int)<(n:Int):=by omega
 simp only[A2Z,go_sem,b1,q1,q2,q3,q4,A0e C hn,Int.le_refl,q5,q6,q7,toNat_natCast]
 unfold VL
 rw[A0]
 refine AJ (M:=Nat) (I:=fun m F h=>0<m/\m<=n/\A3.tmp F 7=.sl 0 0 0 n/\A3.tmp F 8=.i .i64 m/\h=[some ⟨AG,1,0,false,(JG x m n).map eI⟩]) (μ:=fun m=>n-m) ?_ 1 _ _ ⟨by omega,by omega,?_,?_,?_⟩
 .rintro m F h ⟨m0,mn,p7,p8,rfl⟩
  by_cases c:m<n
  .have c1:(m:Int)<(n:Int):=by omega
   have hl:=A9R (x:=x) mn
   have h1:=A4h (x:=x) mn
   have e1:min m n=m:=by omega
   have e2:decide (m+(n-m)<=n)=true:=decide_eq_true (by omega)
   have e3:IntKind.i64.wrap ((m:Int)+((min m (n-m):Nat):Int))=((m+min m (n-m):Nat):Int):=by rw[Ax (by omega) (by omega)];omega
   simp only[Va,go_sem,p7,p8,c1,A0,hl,mn,A4j mn,e1,e2,h1,e3,Aod]
   exact⟨m+min m (n-m),by omega,by omega,by omega,rfl,rfl⟩
  .have c1:¬(m:Int)<(n:Int):=by omega
   have e:m=n:=by omega
   subst e
   simp only[Va,go_sem,p7,p8,c1,A0,A4i,Bp]
   simp
 .simp only[go_sem]
 .simp only[go_sem]
  omega
 .rw[A9S h0]
end
abbrev eSn(t:A2)(x f:List Int):List VV:=[.i .i64 t.vals,lS t.locs,.ls (t.regs.map J8),.ls (t.nodes.map eN),vW (BI x),lI (onL t x f),lW (Av t.nodes.length fun a b=>Ao t a b)]
abbrev U0(t:A2)(x f:List Int):VV:=.fp (eSn t x f) 0
section
variable {V:Ai}(C:Am V){Q:VV->Prop}
include C
theorem S7(n:AI):VP V Ri [vN n] Q↔Q (.b (Et n)):=by
 refine Af ?_
 rw[Ad C.c_z183.1 C.c_z183.2]
 cases c0:decide (n.kind=3)<;>cases c1:decide (0<=n.thread)<;>cases c4:decide (n.kind=4)<;>cases c2:decide (n.mode=2)<;>cases c3:decide (n.mode=3) <;>
  simp only[A3x,go_sem,c0,c1,c2,c3,c4,Et]
theorem S6(n:AI):VP V R5 [vN n] Q↔Q (.b (Jc n)):=by
 refine Af ?_
 rw[Ad C.c_z139.1 C.c_z139.2]
 cases c0:decide (n.kind=2)<;>cases c1:decide (n.kind=4)<;>cases c2:decide (n.mode=1)<;>cases c3:decide (n.mode=3) <;>
  simp only[A37,go_sem,c0,c1,c2,c3,Jc]
theorem HH(t:A2)(x f:List Int){n:Nat}(hn:n<t.nodes.length):VP V XZ [U0 t x f,.i .i64 n] Q↔Q (.b (decide (0<=(t.at n).thread))):=by
 refine Af ?_
 rw[Ad C.c_z136.1 C.c_z136.2]
 simp only[A35,go_sem,A5 hn]
theorem S3(t:A2)(x f:List Int){n:Nat}(hn:n<t.nodes.length){g:Nat}{p:Bool}(hg:∀Q:VV->Prop,VP V g [vN (t.at n)] Q↔Q (.b p)):VP V Y2 [U0 t x f,.i .i64 n,.f g [] []] Q↔Q (.b (decide ((t.at n).kind=4)&&p)):=by
 refine Af ?_
 rw[Ad C.c_z140.1 C.c_z140.2]
 cases c:decide ((t.at n).kind=4)<;>simp only[A38,go_sem,A5 hn,c,hg]
theorem ZB(t:A2)(ht:A7 t)(x f:List Int)(hx:BF t x){n:Nat}(hn:n<t.nodes.length):VP V Y1 [U0 t x f,.i .i64 n] Q↔Q (.i .i64 (ahF t x f n)):=by
 refine Af ?_
 rw[Ad C.c_z138.1 C.c_z138.2]
 have hh:=hx.has ht.n64
 unfold ahF
 rw[toNat_natCast]
 cases c:(t.at n).rmw with
 |false=>simp only[Qv,go_sem,A5 hn,c,false_eq_true,false_and]
 |true=>
  cases c2:AQ x (t.at n).up with
  |false=>simp only[Qv,go_sem,A5 hn,c,AS C,hh,c2,false_eq_true,and_false]
  |true=>
   obtain⟨m,h0,hm⟩:=A9 (hx _ (Ac.1 c2))
   rw[h0]at c2 ⊢
   simp only[Qv,go_sem,A5 hn,c,AS C,hh,c2,h0,Jr hm,and_self]
theorem ZD(t:A2)(ht:A7 t)(x f:List Int)(hx:BF t x){n:Nat}(hn:n<t.nodes.length):VP V XX [U0 t x f,.i .i64 n] Q↔Q (.b (Kv t x f n)):=by
 refine Af ?_
 rw[Ad C.c_z129.1 C.c_z129.2]
 have hh:=hx.has ht.n64
 unfold Kv
 rw[toNat_natCast]
 cases c:decide ((t.at n).kind=2)with
 |false=>
  have c':=of_decide_eq_false c
  simp only[Qu,go_sem,A5 hn,c,Jr hn,c']
 |true=>
  have c':=of_decide_eq_true c
  cases c2:AQ x (CA x f n)with
  |false=>simp only[Qu,go_sem,A5 hn,c,Jr hn,c',AS C,hh,c2,Bool.false_and]
  |true=>
   obtain⟨m,h0,hm⟩:=A9 (hx _ (Ac.1 c2))
   rw[h0]at c2 ⊢
   cases c3:decide ((t.at m).kind=3)<;>simp only[Qu,go_sem,A5 hn,c,Jr hn,c',AS C,hh,c2,h0,A5 hm,c3,G7,toNat_natCast,Bool.true_and,Bool.false_and]
theorem A5E(t:A2)(ht:A7 t)(x f:List Int)(hx:BF t x){w:Nat}(hw:w<t.nodes.length):VP V Y0 [U0 t x f,.i .i64 w] Q↔Q (vW (MC t x w)):=by
 refine Af ?_
 rw[Ad C.c_z137.1 C.c_z137.2]
 have h4:=ht.n64
 have ha:=Cz (BI x)
 obtain⟨s0,h8,h9⟩:∃s0,s0=(if Et (t.at w)=true then 0#64|||BC (w:Int)else 0#64)/\∀j,j<64->s0.getLsbD j=(decide (j=w)&&Et (t.at w)):=by
  refine⟨_,rfl,fun j hj=>?_⟩
  by_cases c:Et (t.at w)=true
  .have e:decide ((j:Int)=(w:Int)/\j<64)=decide (j=w):=decide_eq_decide.2 ⟨fun h=>by omega,fun h=>⟨by omega,hj⟩⟩
   rw[if_pos c,BitVec.getLsbD_or,C2,e,c];simp
  .rw[if_neg c,Bool.eq_false_iff.2 c];simp
 let p:Int->Bool:=fun n=>decide ((t.at n.toNat).kind=4)&&Et (t.at n.toNat)&&Ao t n w
 have h5:Dr p s0 (AC (BI x))=MC t x w:=by
  apply B4
  intro j hj
  rw[Nu p j hj,h9 j hj,MC,AA,Ae4,decide_eq_true hj,Bool.and_true]
  have e1:AQ (AC (BI x)) (j:Int)=AQ x (j:Int):=by
   rw[Bool.eq_iff_iff,Ac,Ac];exact hx.list h4 _
  have e2:(decide (j=w)&&Et (t.at w))=(decide ((j:Int)=(w:Int))&&Et (t.at j)):=by
   by_cases c:j=w
   .subst c;simp
   .have c':¬(j:Int)=(w:Int):=by omega
    simp[c,c']
  rw[e1,e2]
  simp only[p,toNat_natCast,Bool.and_assoc]
 cases c0:Et (t.at w)<;>simp only[c0,false_eq_true,if_true,if_false]at h8<;>(
 simp only[A36,go_sem,A5 hw,S7 C,C5 C,Dl C,c0,<- h8]
 refine Aj (by decide) (AC (BI x)).length (by omega) (I:=fun k F h=>A3.tmp F 0=U0 t x f/\A3.tmp F 1=.i .i64 w/\A3.tmp F 24=lI (AC (BI x))/\h=[]/\A3.tmp F 5=vW (Dr p s0 ((AC (BI x)).take k))) ?_ ?_ 0 _ _ (by omega) ?_ ?_ ?_
 .rintro k F h hk h7 h6 ⟨p0,p1,h2,rfl,p5⟩
  obtain⟨m,h3,hm⟩:=A9 (hx _ ((hx.list h4 _).1 (Aa (d:=0) hk)))
  have hT:Dr p s0 ((AC (BI x)).take (k+1))=if p m=true then Dr p s0 ((AC (BI x)).take k)|||BC m else Dr p s0 ((AC (BI x)).take k):=by rw[Js hk,h3]
  have hp:p m=(decide ((t.at m).kind=4)&&Et (t.at m)&&Ao t m w):=by simp only[p,toNat_natCast]
  have h0:=fun(Q:VV->Prop)=>S3 C t x f hm (g:=Ri) (p:=Et (t.at m)) (fun Q=>S7 C (t.at m)) (Q:=Q)
  rw[hT,hp]
  cases c1:(decide ((t.at m).kind=4)&&Et (t.at m))with
  |false=>simp only[go_sem,h7,h6,p0,p1,h2,p5,Ak hk,hk,h3,h0,c1,A0,Bool.false_and,false_eq_true]
  |true=>
   have h1:=GY (p:=fun a b=>Ao t a b) h4 hm hw
   rw[El hm]at h1
   have hg:=BK (n:=t.nodes.length) (p:=fun a b=>Ao t a b) hm
   cases c2:Ao t m w with
   |false=>
    rw[c2]at h1
    simp only[go_sem,h7,h6,p0,p1,h2,p5,Ak hk,hk,h3,h0,c1,A0,hg,AS C,h1,Bool.and_false,false_eq_true]
   |true=>
    rw[c2]at h1
    simp only[go_sem,h7,h6,p0,p1,h2,p5,Ak hk,hk,h3,h0,c1,A0,hg,AS C,h1,C5 C,Bool.and_self]
 .rintro F h ⟨p0,p1,h2,rfl,p5⟩
  simp only[go_sem,p0,p1,h2,p5,take_length,h5]
 .simp only[go_sem]
 .simp only[go_sem]
 .simp only[go_sem]
  rfl)
theorem A1X(t:A2)(ht:A7 t)(x f:List Int)(hx:BF t x){r:Nat}(hr:r<t.nodes.length):VP V Rs [U0 t x f,.i .i64 r] Q↔Q (vW (BR (Gq t x r))):=by
 refine Af ?_
 rw[Ad C.c_z71.1 C.c_z71.2]
 have h6:=ht.n64
 let X:=BI x&&&BR fun b=>decide (b<t.nodes.length)&&Ao t r b
 have hX:X=BI x&&&BR fun b=>decide (b<t.nodes.length)&&Ao t r b:=rfl
 have hc:=Cz X
 have hg:=BK (n:=t.nodes.length) (p:=fun a b=>Ao t a b) hr
 have h7:∀y:Int,y∈AC X↔y∈x/\Ao t r y=true:=by
  intro y
  rw[B7]
  constructor
  .intro h
   obtain⟨h1,h2⟩:=CO h
   obtain⟨m,rfl⟩:=Int.eq_ofNat_of_zero_le h1
   rw[Aq,hX,BitVec.getLsbD_and,AA,and_eq_true,and_eq_true,and_eq_true]at h
   exact⟨by rw[<- Ac,<- hx.has h6,Aq];exact h.1,h.2.1.2⟩
  .rintro⟨h1,h2⟩
   obtain⟨m,rfl,hm⟩:=A9 (hx _ h1)
   rw[Aq,hX,BitVec.getLsbD_and,AA,h2,<- Aq,hx.has h6,Ac.2 h1,decide_eq_true hm,decide_eq_true (show m<64 by omega)];rfl
 obtain⟨s0,h8,hb⟩:∃s0,s0=(if Jc (t.at r)=true then 0#64|||BC (r:Int)else 0#64)/\∀j,j<64->s0.getLsbD j=(decide (j=r)&&Jc (t.at r)):=by
  refine⟨_,rfl,fun j hj=>?_⟩
  by_cases c:Jc (t.at r)=true
  .have e:decide ((j:Int)=(r:Int)/\j<64)=decide (j=r):=decide_eq_decide.2 ⟨fun h=>by omega,fun h=>⟨by omega,hj⟩⟩
   rw[if_pos c,BitVec.getLsbD_or,C2,e,c];simp
  .rw[if_neg c,Bool.eq_false_iff.2 c];simp
 let p:Int->Bool:=fun n=>decide ((t.at n.toNat).kind=4)&&Jc (t.at n.toNat)
 have h4:Dr p s0 (AC X)=BR (Gq t x r):=by
  apply B4
  intro j hj
  rw[Nu p j hj,hb j hj,AA,Gq,decide_eq_true hj,Bool.and_true]
  have e1:AQ (AC X) (j:Int)=(AQ x (j:Int)&&Ao t r j):=by
   rw[Bool.eq_iff_iff,Ac,h7,and_eq_true,Ac]
  have e2:(decide (j=r)&&Jc (t.at r))=(decide ((j:Int)=(r:Int))&&Jc (t.at j)):=by
   by_cases c:j=r
   .subst c;simp
   .have c':¬(j:Int)=(r:Int):=by omega
    simp[c,c']
  rw[e1,e2]
  simp only[p,toNat_natCast]
  cases AQ x (j:Int)<;>cases Ao t r j<;>simp
 cases c0:Jc (t.at r)<;>simp only[c0,false_eq_true,if_true,if_false]at h8<;>(
 simp only[Acd,go_sem,A5 hr,S6 C,C5 C,Dl C,c0,hg,<- h8,<- hX]
 refine Aj (by decide) (AC X).length (by omega) (I:=fun k F h=>A3.tmp F 0=U0 t x f/\A3.tmp F 32=lI (AC X)/\h=[]/\A3.tmp F 5=vW (Dr p s0 ((AC X).take k))) ?_ ?_ 0 _ _ (by omega) ?_ ?_ ?_
 .rintro k F h hk ha h9 ⟨p0,h3,rfl,p5⟩
  obtain⟨m,h5,hm⟩:=A9 (hx _ ((h7 _).1 (Aa (d:=0) hk)).1)
  have hT:Dr p s0 ((AC X).take (k+1))=if p m=true then Dr p s0 ((AC X).take k)|||BC m else Dr p s0 ((AC X).take k):=by rw[Js hk,h5]
  have hp:p m=(decide ((t.at m).kind=4)&&Jc (t.at m)):=by simp only[p,toNat_natCast]
  have h0:=fun(Q:VV->Prop)=>S3 C t x f hm (g:=R5) (p:=Jc (t.at m)) (fun Q=>S6 C (t.at m)) (Q:=Q)
  rw[hT,hp]
  cases c1:(decide ((t.at m).kind=4)&&Jc (t.at m))with
  |false=>simp only[go_sem,ha,h9,p0,h3,p5,Ak hk,hk,h5,h0,c1,A0,false_eq_true]
  |true=>simp only[go_sem,ha,h9,p0,h3,p5,Ak hk,hk,h5,h0,c1,A0,C5 C]
 .rintro F h ⟨p0,h3,rfl,p5⟩
  simp only[go_sem,p0,h3,p5,take_length,h4]
 .simp only[go_sem]
 .simp only[go_sem]
 .simp only[go_sem]
  rfl)
theorem Aia{t:A2}(ht:A7 t){x f:List Int}(hF:Dg t x f){w0:Int}(hw0:w0∈x){i:Nat}(hoff:∀j,j<i->HS t (JS t x f j w0)=false):BF t (JO t x f w0 i):=by
 intro v hv
 obtain⟨j,hj,rfl⟩:=PZ.1 hv
 rcases LJ ht hF hw0 j (fun k hk=>hoff k (by omega))with e|e
 .have:=hoff j hj
  rw[e]at this;cases this
 .exact hF.node _ e
theorem ZC(t:A2)(ht:A7 t)(x f:List Int)(hF:Dg t x f){w0:Int}(hw0:w0∈x):VP V Rr [U0 t x f,.i .i64 w0] Q↔Q (vW (B0 t x f w0)):=by
 refine Af ?_
 rw[Ad C.c_z70.1 C.c_z70.2]
 have h6:=ht.n64
 simp only[Acc,go_sem]
 unfold VL
 rw[A0]
 refine AJ (M:=Nat) (I:=fun i F h=>h=[]/\A3.tmp F 0=U0 t x f/\A3.tmp F 1=.i .i64 (JS t x f i w0)/\A3.tmp F 5=vW (QE t x f w0 i)/\A3.tmp F 6=vW (BI (JO t x f w0 i))/\(∀j,j<i->HS t (JS t x f j w0)=false)/\(JO t x f w0 i).Nodup) (μ:=fun i=>x.length+1-i) ?_ 0 _ _ ⟨rfl,?_,?_,?_,?_,by omega,by simp[JO]⟩
 .rintro i F h ⟨rfl,p0,p1,p5,p6,h0,h4⟩
  have h7:i<=x.length:=by
   have h1:(JO t x f w0 i).length=i:=by simp[JO]
   rw[<- h1]
   refine Hs _ _ h4 fun v hv=>?_
   obtain⟨j,hj,rfl⟩:=PZ.1 hv
   rcases LJ ht hF hw0 j (fun k hk=>h0 k (by omega))with e|e
   .have:=h0 j hj
    rw[e]at this;cases this
   .exact e
  have h3:=Ai9 ht hF hw0 h0 h4
  rcases LJ ht hF hw0 i h0 with e|e
  .have:=h3 (.inl (by rw[e];rfl))
   rw[e]at p1
   simp only[QI,go_sem,p0,p1,p5,p6,A0,this]
  .obtain⟨m,h2,hm⟩:=A9 (hF.node _ e)
   rw[h2]at p1
   cases c1:decide (0<=(t.at m).thread)with
   |false=>
    have ho:HS t (JS t x f i w0)=true:=by
     have:=of_decide_eq_false c1
     rw[h2,HS,toNat_natCast,decide_eq_true (show(t.at m).thread<0 by omega),Bool.or_true]
    have:=h3 (.inl ho)
    simp only[QI,go_sem,p0,p1,p5,p6,A0,HH C t x f hm,c1,this]
   |true=>
    have ho:HS t (JS t x f i w0)=false:=by
     have:=of_decide_eq_true c1
     rw[h2,HS,toNat_natCast,decide_eq_false (show ¬(t.at m).thread<0 by omega),decide_eq_false (show ¬(m:Int)<0 by omega)];rfl
    have h5:=Aia C ht hF hw0 h0
    have hh:=h5.has h6 (m:Int)
    cases c2:AQ (JO t x f w0 i) (m:Int)with
    |true=>
     rw[c2]at hh
     have:=h3 (.inr (by rw[h2];exact Ac.1 c2))
     simp only[QI,go_sem,p0,p1,p5,p6,A0,HH C t x f hm,c1,AS C,hh,this]
    |false=>
     rw[c2]at hh
     simp only[QI,go_sem,p0,p1,p5,p6,A0,HH C t x f hm,c1,AS C,hh,A5E C t ht x f hF.node hm,C5 C,ZB C t ht x f hF.node hm]
     refine⟨i+1,by omega,by rw[JS,h2],by rw[A4k,h2],by rw[U5,h2,BI,BI,List.foldl_append];rfl,fun j hj=>?_,?_⟩
     .rcases Nat.lt_or_ge j i with h1|h1
      .exact h0 j h1
      .rw[show j=i by omega];exact ho
     .rw[U5,h2]
      have:(m:Int)∉JO t x f w0 i:=fun h=>by rw[Ac.2 h]at c2;cases c2
      exact List.nodup_append.2 ⟨h4,by simp,fun a ha b hb e=>this (by simp at hb;rw[<- hb,<- e];exact ha)⟩
 .simp only[go_sem]
 .simp only[go_sem]
  rfl
 .simp only[go_sem]
  rfl
 .simp only[go_sem]
  rfl
end
theorem AtS:min 5 (4+3)+(1+(4+3-6))=7:=rfl
theorem Z6(t:A2)(x:List Int)(k:Nat):Bk t x k=(!(decide (x.getD k 0<0)||decide ((t.nodes.length:Int)<=x.getD k 0)||(!decide (k=0)&&decide (x.getD k 0<=x.getD (k-1) 0)))):=by
 unfold Bk BZ Ch
 rw[Bool.eq_iff_iff]
 simp only[and_eq_true,Bool.or_eq_true,Bool.not_eq_true',Bool.or_eq_false_iff,decide_eq_true_eq,decide_eq_false_iff_not,Bool.and_eq_false_iff,Bool.not_eq_false']
 constructor
 .rintro⟨⟨a,b⟩,c⟩
  exact⟨⟨by omega,by omega⟩,c.imp id (by omega)⟩
 .rintro⟨⟨a,b⟩,c⟩
  exact⟨⟨by omega,by omega⟩,c.imp id (by omega)⟩
def onH(t:A2)(x f:List Int)(k:Nat):VH:=[some ⟨AG,1,0,false,(ZO t x f k).map eI⟩,some ⟨NK,0,0,false,[[.i .i64 t.vals,lS t.locs,.ls (t.regs.map J8),.ls (t.nodes.map eN),vW (BI x),.sl 0 0 0 t.nodes.length,lW (Av t.nodes.length fun a b=>Ao t a b)]]⟩]
def AdY(t:A2)(x f:List Int):VH:=[some ⟨AG,1,0,false,(onL t x f).map eI⟩,some ⟨NK,0,0,false,[[.i .i64 t.vals,lS t.locs,.ls (t.regs.map J8),.ls (t.nodes.map eN),vW (BI x),.sl 0 0 0 t.nodes.length,lW (Av t.nodes.length fun a b=>Ao t a b)]]⟩]
theorem AhG(t:A2)(x f:List Int):onH t x f x.length=AdY t x f:=by rw[onH,AhH];rfl
theorem A8q{t:A2}{x f:List Int}{k m:Nat}(h:m<t.nodes.length):(ZO t x f k)[m]? = some (CA (x.take k) f (m:Int)):=by simp[ZO,h]
theorem Rx(t:A2)(x f:List Int):(onL t x f).take t.nodes.length=onL t x f:=List.take_of_length_le (by rw[Q3];omega)
section
variable {V:Ai}(C:Am V){Q:VV->Prop}
include C
theorem Aam(t:A2)(ht:A7 t)(x f:List Int)(hF:Dg t x f):VP V A87 [U0 t x f,.f Rr [U0 t x f] [],.f Rs [U0 t x f] []] Q↔Q (lW (Av t.nodes.length (swB t x f))):=by
 refine Af ?_
 rw[Ad C.c_z69.1 C.c_z69.2]
 have hi:=ht.n64
 have hx:=hF.node
 have hu:=Cz (BI x)
 have hl:=fun y=>hx.list hi y
 simp only[Aca,go_sem,LY C _ hi,Dl C]
 refine Aj (by decide) (AC (BI x)).length (by omega) (I:=fun k F h=>A3.tmp F 0=U0 t x f/\A3.tmp F 1=.f Rr [U0 t x f] []/\A3.tmp F 2=.f Rs [U0 t x f] []/\A3.tmp F 7=.sl 0 0 0 t.nodes.length/\A3.tmp F 24=lI (AC (BI x))/\h=[some ⟨AW,1,0,false,(Av t.nodes.length (Pt t x f ((AC (BI x)).take k))).map eW⟩]) ?_ ?_ 0 _ _ (by omega) ?_ ?_ ?_
 .rintro k F h hk hc h9 ⟨p0,p1,p2,p7,h4,rfl⟩
  have hm:(AC (BI x)).getD k 0∈x:=(hl _).1 (Aa (d:=0) hk)
  obtain⟨r,h6,hr⟩:=A9 (hx _ hm)
  have hd:(r:Int)∈x:=by rw[<- h6];exact hm
  have h0:∀a b,Pt t x f ((AC (BI x)).take (k+1)) a b=(Pt t x f ((AC (BI x)).take k) a b||(LZ t x f r&&Bh (B0 t x f (CA x f r)) (a:Int)&&Gq t x r b)):=fun a b=>by rw[A1V hk,h6]
  have same:LZ t x f r=false->Av t.nodes.length (Pt t x f ((AC (BI x)).take k))=Av t.nodes.length (Pt t x f ((AC (BI x)).take (k+1))):=fun e=>B8 fun a b _ _=>by rw[h0,e];simp
  have h2:LZ t x f r=(decide ((t.at r).kind=2)&&!decide ((t.at (CA x f r).toNat).thread=(t.at r).thread)):=by rw[LZ,toNat_natCast]
  by_cases ck:(t.at r).kind=2
  .obtain⟨o1,o2,o3⟩:=hF.read _ hd (by rw[toNat_natCast];exact ck)
   obtain⟨w,h3,hw⟩:=A9 (hx _ o1)
   rw[h3]at o1
   have d0:decide ((w:Int)<0)=false:=decide_eq_false (by omega)
   cases c2:decide ((t.at w).thread=(t.at r).thread)with
   |true=>
    have hs:=same (by rw[h2,h3,toNat_natCast,c2];simp)
    simp only[go_sem,hc,h9,p0,p1,p2,p7,h4,Ak hk,hk,h6,Jr hr,h3,d0,A5 hw,A5 hr,c2,A0,hs]
   |false=>
    have hs:LZ t x f r=true:=by rw[h2,h3,toNat_natCast,c2,decide_eq_true ck];rfl
    have hh:=fun(Q:VV->Prop)=>ZC C t ht x f hF o1 (Q:=Q)
    simp only[go_sem,hc,h9,p0,p1,p2,p7,h4,Ak hk,hk,h6,Jr hr,h3,d0,A5 hw,A5 hr,c2,A0,hh,Dl C]
    have hq:=Cz (B0 t x f w)
    have h5:=fun(Q:VV->Prop)=>A1X C t ht x f hx hr (Q:=Q)
    let M:=fun(j:Nat) (a b:Nat)=>Pt t x f ((AC (BI x)).take k) a b||(AQ ((AC (B0 t x f w)).take j) (a:Int)&&Gq t x r b)
    refine Aj (by decide) (AC (B0 t x f w)).length (by omega) (I:=fun j F h=>A3.tmp F 26=.i .i64 k/\A3.tmp F 25=.i .i64 (AC (BI x)).length/\A3.tmp F 0=U0 t x f/\A3.tmp F 1=.f Rr [U0 t x f] []/\A3.tmp F 2=.f Rs [U0 t x f] []/\A3.tmp F 7=.sl 0 0 0 t.nodes.length/\A3.tmp F 24=lI (AC (BI x))/\A3.tmp F 9=.i .i64 r/\A3.tmp F 63=lI (AC (B0 t x f w))/\h=[some ⟨AW,1,0,false,(Av t.nodes.length (M j)).map eW⟩]) ?_ ?_ 0 _ _ (by omega) ?_ ?_ ?_
    .rintro j F h hj hp ho ⟨hg,hf,q0,q1,q2,q7,he,q9,hn,rfl⟩
     have h1:=(B7 (s:=B0 t x f w)).1 (Aa (d:=0) hj)
     obtain⟨a0,_⟩:=CO h1
     obtain⟨a,h8⟩:=Int.eq_ofNat_of_zero_le a0
     have ha:a<t.nodes.length:=QF ht hF o1 (by rw[h8,Aq]at h1;exact h1)
     have h7:=TK ha (M j) (Gq t x r) fun b hb=>A9w hx hd hb
     have hM:Av t.nodes.length (fun i b=>M j i b||(decide (i=a)&&Gq t x r b))=Av t.nodes.length (M (j+1)):=B8 fun i b _ _=>by
      simp only[M]
      rw[List.take_succ_eq_append_getElem hj]
      have e:AQ ((AC (B0 t x f w)).take j++[(AC (B0 t x f w))[j]]) (i:Int)=(AQ ((AC (B0 t x f w)).take j) (i:Int)||decide (i=a)):=by
       rw[List.getD_eq_getElem?_getD,List.getElem?_eq_getElem hj,Option.getD_some]at h8
       rw[h8,Bool.eq_iff_iff,Ac,List.mem_append,Bool.or_eq_true,Ac,decide_eq_true_eq,List.mem_singleton]
       exact⟨fun h=>h.imp id fun h=>by omega,fun h=>h.imp id fun h=>by omega⟩
      rw[e]
      cases Pt t x f ((AC (BI x)).take k) i b<;>cases AQ ((AC (B0 t x f w)).take j) (i:Int)<;>cases decide (i=a)<;>cases Gq t x r b<;>rfl
     rw[hM]at h7
     simp only[go_sem,hp,ho,hg,hf,q0,q1,q2,q7,he,q9,hn,Ak hj,hj,h8,BK ha,h5,A0,h7,Az,ha]
    .rintro F h ⟨hg,hf,q0,q1,q2,q7,he,q9,hn,rfl⟩
     have hM:Av t.nodes.length (M (AC (B0 t x f w)).length)=Av t.nodes.length (Pt t x f ((AC (BI x)).take (k+1))):=B8 fun a b _ _=>by
      simp only[M]
      rw[take_length,h0,hs,h3,Bool.true_and]
      have e:AQ (AC (B0 t x f w)) (a:Int)=Bh (B0 t x f w) (a:Int):=by rw[Bool.eq_iff_iff,Ac,B7]
      rw[e]
     simp only[go_sem,hg,hf,q0,q1,q2,q7,he,hM]
    .simp only[go_sem]
    .simp only[go_sem]
    .simp only[go_sem,hc,h9,p0,p1,p2,p7,h4]
     have hM:Av t.nodes.length (M 0)=Av t.nodes.length (Pt t x f ((AC (BI x)).take k)):=B8 fun a b _ _=>by simp only[M,List.take_zero,AQ,List.any_nil,Bool.false_and,Bool.or_false]
     rw[hM]
  .have o1:=hF.none _ hd (by rw[toNat_natCast];exact ck)
   have hs:=same (by rw[h2,decide_eq_false ck];rfl)
   simp only[go_sem,hc,h9,p0,p1,p2,p7,h4,Ak hk,hk,h6,Jr hr,o1,A0]
   rw[hs]
 .rintro F h ⟨p0,p1,p2,p7,h4,rfl⟩
  have e:Av t.nodes.length (Pt t x f (AC (BI x)))=Av t.nodes.length (swB t x f):=B8 fun a b _ _=>Ai0 hl a b
  simp only[go_sem,p0,p1,p2,p7,h4,Az]
  rw[List.take_of_length_le (by rw[Az];omega),e]
 .simp only[go_sem]
 .simp only[go_sem]
 .simp only[go_sem]
  rw[<- HX];rfl
theorem Aal(t:A2)(ht:A7 t)(x f:List Int)(hl:x.length<=1000)(hlf:f.length<=1000):VP V A83 [vT t,lI x,lI f] Q↔Q (if Cb t x f=true then .tu [U0 t x f,.b true]else .tu [.np,.b false]):=by
 refine Af ?_
 rw[Ad C.c_z65.1 C.c_z65.2]
 have hw:=ht.n64
 have hx:0<t.nodes.length:=by
  obtain⟨s,h0,he,hs⟩:=ht.thr
  have h1:=ht.r1
  obtain⟨_,n,hB⟩:=hs 0 (by omega)
  cases n with
  |zero=>exact absurd hB (by simp[G3])
  |succ n=>have:=hB.1.1;omega
 have h7:=fun(Q:VV->Prop)=>Nc C t ht (Q:=Q)
 have hy:=fun(Q:VV->Prop)=>Aas C t ht (Q:=Q)
 by_cases c1:x.length=f.length
 .have hh:decide ((f.length:Int)=(x.length:Int))=true:=decide_eq_true (by omega)
  simp only[A6n,go_sem,h7,hh,D4 C x (by omega),NA C _ hw hx,hy,Apa,AtS]
  refine Aj (by decide) x.length (by omega) (I:=fun k F h=>A3.tmp F 1=lI x/\A3.tmp F 2=lI f/\A3.tmp F 3=.fp (eT t) 0/\A3.tmp F 8=.p 1 0 0 0/\A3.tmp F 35=lI x/\h=onH t x f k/\∀j,j<k->Bk t x j=true) ?_ ?_ 0 _ _ (by omega) ?_ ?_ ?_
  .rintro k F h hk hd hc ⟨p1,p2,p3,p8,h5,rfl,pr⟩
   have hf:k<f.length:=by omega
   have h6:Bk t x k=false->Cb t x f=false:=fun h=>by rw[Cb,AB hk h];simp
   have h8:=Z6 t x k
   cases d1:decide (x.getD k 0<0)with
   |true=>
    have e:=h6 (by rw[h8,d1];rfl)
    simp only[go_sem,hd,hc,p1,p2,p3,p8,h5,Ak hk,hk,d1,A0,e]
   |false=>
   cases d2:decide ((t.nodes.length:Int)<=x.getD k 0)with
   |true=>
    have e:=h6 (by rw[h8,d1,d2];rfl)
    simp only[go_sem,hd,hc,p1,p2,p3,p8,h5,Ak hk,hk,d1,d2,A0,e]
   |false=>
   have hz:=of_decide_eq_false d1
   have q0:=of_decide_eq_false d2
   obtain⟨m,h3⟩:=Int.eq_ofNat_of_zero_le (show 0<=x.getD k 0 by omega)
   have hm:m<t.nodes.length:=by omega
   have ho:decide (t.nodes.length<=m)=false:=decide_eq_false (by omega)
   have hb:(∀i,i<=k->Ch x i=true)->_:=AhI (t:=t) (f:=f) hk h3 hm
   have ha:∀i,i<k->Ch x i=true:=fun i hi=>by have:=pr i hi;simp only[Bk,and_eq_true]at this;exact this.2
   have hp:Bk t x k=true->∀j,j<k+1->Bk t x j=true:=fun h j hj=>by
    rcases Nat.lt_or_ge j k with c|c
    .exact pr j c
    .rw[show j=k by omega];exact h
   by_cases z:k=0
   .subst z
    have h9:Bk t x 0=true:=by rw[h8,d1,d2];rfl
    have hs:=hb fun i hi=>by rw[Nat.le_zero.1 hi];rfl
    rw[h3]at d1 d2
    simp only[go_sem,hd,hc,p1,p2,p3,p8,h5,Ak hk,Ak hf,hk,hf,d1,ho,A0,h3,onH,hm,A8r,dz0,hs,A8q hm]
    exact hp h9
   .have z0:decide ((0:Int)<(k:Int))=true:=decide_eq_true (by omega)
    have hq:k-1<x.length:=by omega
    have zw:=EN (show 0<k by omega) (by omega)
    cases d3:decide (x.getD k 0<=x.getD (k-1) 0)with
    |true=>
     have e:=h6 (by rw[h8,d1,d2,d3,decide_eq_false z];rfl)
     rw[h3]at d1 d2 d3
     simp only[go_sem,hd,hc,p1,p2,p3,p8,h5,Ak hk,Ak hq,hk,d1,ho,d3,z0,zw,A0,h3,e]
    |false=>
     have h9:Bk t x k=true:=by rw[h8,d1,d2,d3];simp
     have hs:=hb fun i hi=>by
      rcases Nat.lt_or_ge i k with c|c
      .exact ha i c
      .rw[show i=k by omega];simp only[Bk,and_eq_true]at h9;exact h9.2
     rw[h3]at d1 d2 d3
     simp only[go_sem,hd,hc,p1,p2,p3,p8,h5,Ak hk,Ak hq,Ak hf,hk,hf,d1,ho,d3,z0,zw,A0,h3,onH,hm,A8r,hs,A8q hm]
     exact hp h9
  .rintro F h ⟨p1,p2,p3,p8,h5,rfl,pr⟩
   rw[AhG]
   have h4:BF t x:=by
    intro n hn
    obtain⟨i,hi,rfl⟩:=List.getElem_of_mem hn
    have:=pr i hi
    simp only[Bk,and_eq_true]at this
    have h2:=this.1
    rwa [List.getD_eq_getElem?_getD,List.getElem?_eq_getElem hi]at h2
   simp only[go_sem,p1,p2,p3,p8,h5]
   refine Aj (by decide) x.length (by omega) (I:=fun k F h=>A3.tmp F 8=.p 1 0 0 0/\A3.tmp F 75=lI x/\h=AdY t x f/\∀j,j<k->Kv t x f (x.getD j 0)=true) ?_ ?_ 0 _ _ (by omega) ?_ ?_ ?_
   .rintro k F h hk hv hu ⟨p8,hg,rfl,qr⟩
    have h6:Kv t x f (x.getD k 0)=false->Cb t x f=false:=fun h=>by rw[A0L,AB (p:=fun i=>Kv t x f (x.getD i 0)) hk h,Bool.and_false]
    obtain⟨m,h3,hm⟩:=A9 (h4 _ (Aa (d:=0) hk))
    have hr:=fun(Q:VV->Prop)=>ZD C t ht x f h4 hm (Q:=Q)
    cases c2:Kv t x f m with
    |true=>
     simp only[go_sem,hv,hu,p8,hg,Ak hk,hk,h3,AdY,hr,c2,A0,Q3,Rx]
     intro j hj
     rcases Nat.lt_or_ge j k with c|c
     .exact qr j c
     .rw[show j=k by omega,h3];exact c2
    |false=>
     have e:=h6 (by rw[h3];exact c2)
     simp only[go_sem,hv,hu,p8,hg,Ak hk,hk,h3,AdY,hr,c2,A0,Q3,Rx,e]
   .rintro F h ⟨p8,hg,rfl,qr⟩
    have e:Cb t x f=true:=by rw[A0L,decide_eq_true c1,AD pr,AD qr];rfl
    simp only[go_sem,p8,hg,AdY,e,Q3,Rx]
   .simp only[go_sem]
   .simp only[go_sem]
   .simp only[go_sem,p8]
    intro j hj;omega
  .simp only[go_sem]
  .simp only[go_sem]
  .simp only[go_sem,onH,AdZ]
   intro j hj;omega
 .have hh:decide ((f.length:Int)=(x.length:Int))=false:=decide_eq_false (by omega)
  have e:Cb t x f=false:=by rw[Cb,decide_eq_false c1];rfl
  simp only[A6n,go_sem,h7,hh,e]
theorem NC(t:A2)(ht:A7 t)(x f:List Int)(hl:x.length<=1000)(hlf:f.length<=1000):VP V A1e [vT t,lI x,lI f] Q↔Q (lW (hbF t x f)):=by
 refine Af ?_
 rw[Ad C.c_z22.1 C.c_z22.2]
 have h0:=ht.n64
 have h1:=fun(Q:VV->Prop)=>Aal C t ht x f hl hlf (Q:=Q)
 cases c:Cb t x f with
 |false=>
  rw[hbF,c]
  simp only[A6f,go_sem,h1,c,false_eq_true]
 |true=>
  have hF:=Bv c
  rw[hbF,c]
  have h2:=fun(Q:VV->Prop)=>Aam C t ht x f hF (Q:=Q)
  simp only[A6f,go_sem,h1,c,h2,A5x C,A1K C,Jv C]
  rw[A4r h0,Ry h0,DP]
  congr 2
  apply B8
  intro a b _ _
  rw[hF.node.has h0,hF.node.has h0]
  rfl
end
end Go.AM
