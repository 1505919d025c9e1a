/-
  Own work, part of the proof of these laws: what functions compute.
-/
import Derived.Test.YtpnaenhghnkggaaGreatDoorKQ
set_option maxRecDepth 10000
set_option maxHeartbeats 64000000
set_option linter.unusedVariables false
set_option linter.unusedSimpArgs false
set_option linter.unusedSectionVars false
set_option linter.unnecessarySimpa false
open Int (toNat_natCast)
open List (getElem?_eq_getElem getD_eq_getElem?_getD length_map length_append length_set take_length all_eq_true map_append append_nil length_nil getElem_map map_set)
open Nat (zero_le mod_lt)
namespace Go.AM
open Go Go.Proofs
def KT(e:AF)(p:Nat):Nat:=(e.has.getD p 0).toNat
def ok1(t:A2)(e:AF)(x c:Nat):Prop:=c=x\/((t.at x).kind=4/\hbX t e x c)
def ok2(t:A2)(e:AF)(y d:Nat):Prop:=d=y\/((t.at y).kind=4/\hbX t e d y)
def gP(t:A2)(e:AF)(x y P:Nat):Prop:=∃p,p<P/\p<e.has.length/\ok1 t e x (KT e p)/\∃q,q<e.has.length/\ok2 t e y (KT e q)/\(hbX t e (KT e p) (KT e q)\/Uy t e (KT e p) (KT e q))
def gQ(t:A2)(e:AF)(x y P K:Nat):Prop:=gP t e x y P\/∃q,q<K/\q<e.has.length/\ok2 t e y (KT e q)/\(hbX t e (KT e P) (KT e q)\/Uy t e (KT e P) (KT e q))
def Ze(t:A2)(e:AF)(I K:Nat)(g:Prop)(x y a b:Nat):Prop:=Zf t e I K a b\/(g/\a=x/\b=y)
theorem Q6{t:A2}{e:AF}{I K x y:Nat}{g g':Prop}(h:g↔g'):BL t.nodes.length (Ze t e I K g x y)=BL t.nodes.length (Ze t e I K g' x y):=Bm fun a b _ _=>by
 unfold Ze;rw[h]
theorem Apq{t:A2}{e:AF}{I K x y:Nat}:BL t.nodes.length (Zf t e I K)=BL t.nodes.length (Ze t e I K (gP t e x y 0) x y):=Bm fun a b _ _=>by
 unfold Ze
 constructor
 .exact .inl
 .rintro(h|⟨⟨p,h,_⟩,_⟩)
  .exact h
  .omega
theorem Ag3{t:A2}{e:AF}{x y P:Nat}(h:¬ok1 t e x (KT e P)):gP t e x y (P+1)↔gP t e x y P:=by
 constructor
 .rintro⟨p,h1,h2,h3,h4⟩
  refine⟨p,?_,h2,h3,h4⟩
  by_cases c:p=P
  .subst c;exact absurd h3 h
  .omega
 .rintro⟨p,h1,h2⟩;exact⟨p,by omega,h2⟩
theorem Ag2{t:A2}{e:AF}{x y P:Nat}(hP:P<e.has.length)(h:ok1 t e x (KT e P)):gP t e x y (P+1)↔gQ t e x y P e.has.length:=by
 constructor
 .rintro⟨p,h1,h2,h3,h4⟩
  by_cases c:p=P
  .subst c
   obtain⟨q,h5,h6⟩:=h4
   exact .inr ⟨q,h5,h5,h6⟩
  .exact .inl ⟨p,by omega,h2,h3,h4⟩
 .rintro(⟨p,h1,h2⟩|⟨q,h1,h2,h3⟩)
  .exact⟨p,by omega,h2⟩
  .exact⟨P,by omega,hP,h,q,h2,h3⟩
theorem AtG{t:A2}{e:AF}{x y P:Nat}:gQ t e x y P 0↔gP t e x y P:=by
 constructor
 .rintro(h|⟨q,h,_⟩)
  .exact h
  .omega
 .exact .inl
theorem AoE{t:A2}{e:AF}{x y P K:Nat}(h:¬(ok2 t e y (KT e K)/\(hbX t e (KT e P) (KT e K)\/Uy t e (KT e P) (KT e K)))):gQ t e x y P (K+1)↔gQ t e x y P K:=by
 refine or_congr Iff.rfl ?_
 constructor
 .rintro⟨q,h1,h2,h3⟩
  refine⟨q,?_,h2,h3⟩
  by_cases c:q=K
  .subst c;exact absurd h3 h
  .omega
 .rintro⟨q,h1,h2⟩;exact⟨q,by omega,h2⟩
theorem Acr{t:A2}{e:AF}{x y P K:Nat}(hK:K<e.has.length)(h:ok2 t e y (KT e K)/\(hbX t e (KT e P) (KT e K)\/Uy t e (KT e P) (KT e K))):gQ t e x y P (K+1):=.inr ⟨K,by omega,hK,h⟩
theorem A8u{t:A2}{e:AF}{I K x y:Nat}{g g':Prop}(h:g')(a b:Nat):Ze t e I K g' x y a b↔Ze t e I K g x y a b\/(a=x/\b=y):=by
 unfold Ze
 constructor
 .rintro(k|⟨_,k⟩)
  .exact .inl (.inl k)
  .exact .inr k
 .rintro((k|⟨_,k⟩)|k)
  .exact .inl k
  .exact .inr ⟨h,k⟩
  .exact .inr ⟨h,k⟩
theorem Acq{t:A2}(ht:A7 t){e:AF}(X:XP t e){x y:Nat}(hx:(x:Int)∈e.has)(hy:(y:Int)∈e.has):gP t e x y e.has.length↔∃c d:Nat,c<t.nodes.length/\d<t.nodes.length/\(c=x\/((t.at x).kind=4/\hbX t e x c))/\(d=y\/((t.at y).kind=4/\hbX t e d y))/\(hbX t e c d\/Uy t e c d):=by
 have idx:∀c:Nat,(c:Int)∈e.has->∃p,p<e.has.length/\KT e p=c:=fun c hc=>by
  obtain⟨j,h1,h2,_⟩:=Mq ht X hc
  exact⟨j,h1,by rw[KT,h2,toNat_natCast]⟩
 have lt:∀p,p<e.has.length->KT e p<t.nodes.length:=fun p hp=>by
  obtain⟨n,en,hn⟩:=A9 (X.ok.node _ (Aa (d:=0) hp))
  rw[KT,en,toNat_natCast];exact hn
 constructor
 .rintro⟨p,_,h2,h3,q,h4,h5,h6⟩
  exact⟨_,_,lt p h2,lt q h4,h3,h5,h6⟩
 .rintro⟨c,d,h1,h2,h3,h4,h5⟩
  have hc:(c:Int)∈e.has:=by
   rcases h3 with rfl|⟨_,h⟩
   .exact hx
   .exact(Nt ht X.ok h).2
  have hd:(d:Int)∈e.has:=by
   rcases h4 with rfl|⟨_,h⟩
   .exact hy
   .exact(Nt ht X.ok h).1
  obtain⟨p,p1,p2⟩:=idx c hc
  obtain⟨q,q1,q2⟩:=idx d hd
  exact⟨p,p1,p1,by rw[p2];exact h3,q,q1,by rw[q2];exact h4,by rw[p2,q2];exact h5⟩
section
variable {V:Ai}(C:Am V){Q:VV->Prop}{t:A2}(ht:A7 t)(e:AF)(he:JR e)
include C ht he
theorem P9:VP V AdI [vT t,T5 e] Q↔Q (lW (if Lb t e then Ns t e else [])):=by
 refine Af ?_
 rw[Ad C.c_z55.1 C.c_z55.2]
 have qF:=fun(Q:VV->Prop)=>DE C t ht e he (Q:=Q)
 have qE:=fun(Q:VV->Prop)=>P8 C ht e he (Q:=Q)
 rw[A4q ht]at qF
 cases hX:Lb t e with
 |false=>simp only[Ac4,go_sem,qF,hX]
 |true=>
 have X:=K7 ht hX
 have p1:Cb t e.has e.rf=true:=by rw[Lb,Bool.and_eq_true]at hX;exact hX.1
 have h1:=he.has
 have h2:=he.rf
 have qr:=ht.n64
 have b0:t.nodes.length * 8<=A6:=by unfold A6;omega
 have qH:=fun(Q:VV->Prop)=>LV C t ht e.has e.rf (by omega) (by omega) p1 (Q:=Q)
 rw[AcB hX]at qH
 rw[hX,if_pos rfl]at qE
 have h0:=(Bm (n:=t.nodes.length) (fun a b _ _=>AiW (t:=t) (e:=e) a b)).trans (KW _)
 have qj:=Bm (n:=t.nodes.length) (fun a b _ _=>A8v (t:=t) (e:=e) a b)
 have ql:=fun I=>Bm (n:=t.nodes.length) (fun a b _ _=>A8x (t:=t) (e:=e) (I:=I) a b)
 have qq:=fun(r:Rows) (hr:r.length=t.nodes.length) (a c:Nat) (Q:VV->Prop)=>KV C r (a:Int) (c:Int) (by omega) (Q:=Q)
 have qt:(DP t e.has e.rf).length=t.nodes.length:=by rw[KL ht e,Az]
 have qs:(JL t e).length=t.nodes.length:=by rw[PD ht e,Az]
 have hf:=fun(a c:Nat) (Q:VV->Prop)=>qq (DP t e.has e.rf) qt a c Q
 have q0:=fun(a c:Nat) (Q:VV->Prop)=>qq (JL t e) qs a c Q
 have z0:∀a:Nat,decide ((0:Int)<=(a:Int))=true:=fun a=>decide_eq_true (by omega)
 simp only[z0,Bool.true_and,Aq,toNat_natCast,show ∀a c:Nat,((DP t e.has e.rf).getD a 0#64).getLsbD c=hbE t e a c from fun _ _=>rfl]at hf
 simp only[z0,Bool.true_and,Aq,toNat_natCast,show ∀a c:Nat,((JL t e).getD a 0#64).getLsbD c=ecE t e a c from fun _ _=>rfl]at q0
 obtain⟨H,hH⟩:∃H,H=DP t e.has e.rf:=⟨_,rfl⟩
 obtain⟨E,hE⟩:∃E,E=JL t e:=⟨_,rfl⟩
 rw[<- hH]at qH
 rw[<- hE]at qE
 simp only[<- hH]at hf
 simp only[<- hE]at q0
 clear qq qt qs hH hE
 have nd:∀p,p<e.has.length->∃c:Nat,e.has.getD p 0=(c:Int)/\c<t.nodes.length/\(c:Int)∈e.has/\KT e p=c:=fun p hp=>by
  obtain⟨n,en,hn⟩:=A9 (X.ok.node _ (Aa (d:=0) hp))
  exact⟨n,en,hn,by rw[<- en];exact Aa hp,by rw[KT,en,toNat_natCast]⟩
 simp only[Ac4,go_sem,qF,hX,qH,qE,b0,length_map,Int.le_refl]
 refine Ab (by decide) e.has.length (by omega) (I:=fun i F h=>A3.tmp F 2=.fp (eT t) 0/\A3.tmp F 3=.fp (Uv e) 0/\A3.tmp F 5=lW H/\A3.tmp F 6=lW E/\A3.tmp F 7=.sl 0 0 0 t.nodes.length/\h=[Np (BL t.nodes.length (Zf t e i 0))]) ?_ ?_ ?_ 0 _ _ (zero_le _) ?_ ?_
 .rintro i F h hi p8 ⟨p2,p3,p5,p6,p7,rfl⟩
  simp only[go_sem,p8,p2,p3,p5,p6,p7,length_map]
 .rintro i F h hi p8 ⟨p2,p3,p5,p6,p7,rfl⟩
  have gx:=Ak hi
  obtain⟨x,ex,h4,qm,_⟩:=nd i hi
  rw[ex]at gx
  have hr:=ql i
  have gX:=A5 h4
  simp only[go_sem,p8,p2,p3,p5,p6,p7,A0]
  refine Ab (by decide) e.has.length (by omega) (I:=fun k F h=>A3.tmp F 8=.i .i64 i/\A3.tmp F 2=.fp (eT t) 0/\A3.tmp F 3=.fp (Uv e) 0/\A3.tmp F 5=lW H/\A3.tmp F 6=lW E/\A3.tmp F 7=.sl 0 0 0 t.nodes.length/\h=[Np (BL t.nodes.length (Zf t e i k))]) ?_ ?_ ?_ 0 _ _ (zero_le _) ?_ ?_
  .rintro k F h hk q9 ⟨q8,q2,q3,q5,q6,q7,rfl⟩
   simp only[go_sem,q9,q8,q2,q3,q5,q6,q7,length_map]
  .rintro k F h hk q9 ⟨q8,q2,q3,q5,q6,q7,rfl⟩
   have gy:=Ak hk
   obtain⟨y,ey,hj,qo,_⟩:=nd k hk
   rw[ey]at gy
   have gY:=A5 hj
   have hy:=fun hp=>Bm (n:=t.nodes.length) (fun i' j' _ _=>Aea (t:=t) (I:=i) (K:=k) ex ey hp i' j')
   have qn:=fun hp=>Bm (n:=t.nodes.length) (fun i' j' _ _=>A8w (t:=t) hi hk ex ey hp i' j')
   cases d0:decide (i=k)with
   |true=>
    have hl:=of_decide_eq_true d0
    subst hl
    have hx:=hy (fun hp=>hp.2.2.1 (by omega))
    simp only[go_sem,q9,q8,q2,q3,q5,q6,q7,gx,hi,gy,hk,gX,h4,gY,hj,hx,A0]
   |false=>
   have hl:=of_decide_eq_false d0
   have qa:¬((i:Int)=(k:Int)):=by omega
   have p4:x≠y:=fun h=>hl (by
    have e1:=CX (N9 ht X) hi
    have e2:=CX (N9 ht X) hk
    rw[ex]at e1;rw[ey]at e2;subst h;omega)
   cases s1:decide ((t.at x).thread<0)with
   |true=>
    have q4:=of_decide_eq_true s1
    have hx:=hy (fun hp=>by have:=hp.2.2.2.1.1;omega)
    simp only[go_sem,q9,q8,q2,q3,q5,q6,q7,gx,hi,gy,hk,gX,h4,gY,hj,qa,hl,q4,hx,A0]
   |false=>
   have q4:=of_decide_eq_false s1
   cases s2:decide ((t.at y).thread<0)with
   |true=>
    have qg:=of_decide_eq_true s2
    have hx:=hy (fun hp=>by have:=hp.2.2.2.2.1.1;omega)
    simp only[go_sem,q9,q8,q2,q3,q5,q6,q7,gx,hi,gy,hk,gX,h4,gY,hj,qa,hl,q4,qg,hx,A0]
   |false=>
   have qg:=of_decide_eq_false s2
   cases s3:decide ((t.at x).mode=4)with
   |false=>
    have qh:=of_decide_eq_false s3
    have hx:=hy (fun hp=>qh hp.2.2.2.1.2)
    simp only[go_sem,q9,q8,q2,q3,q5,q6,q7,gx,hi,gy,hk,gX,h4,gY,hj,qa,hl,q4,qg,qh,hx,A0]
   |true=>
   have qx:=of_decide_eq_true s3
   have qh:=eq_true qx
   cases s4:decide ((t.at y).mode=4)with
   |false=>
    have qi:=of_decide_eq_false s4
    have hx:=hy (fun hp=>qi hp.2.2.2.2.1.2)
    simp only[go_sem,q9,q8,q2,q3,q5,q6,q7,gx,hi,gy,hk,gX,h4,gY,hj,qa,hl,q4,qg,qh,qi,hx,A0]
   |true=>
   have qy:=of_decide_eq_true s4
   have qi:=eq_true qy
   have qk:BL t.nodes.length (Ze t e i k (gP t e x y e.has.length) x y)=BL t.nodes.length (Zf t e i (k+1)):=by
    by_cases hp:SE t e x y
    .rw[qn hp]
     refine Bm fun a b _ _=>or_congr Iff.rfl ⟨fun h=>h.2,fun h=>⟨(Acq ht X qm qo).2 hp.2.2.2.2.2,h⟩⟩
    .rw[hy hp]
     refine Bm fun a b _ _=>⟨fun h=>?_,.inl⟩
     rcases h with h|⟨h,_⟩
     .exact h
     .exact absurd ⟨qm,qo,p4,⟨by omega,qx⟩,⟨by omega,qy⟩,(Acq ht X qm qo).1 h⟩ hp
   rw[Apq (x:=x) (y:=y)]
   simp only[go_sem,q9,q8,q2,q3,q5,q6,q7,gx,hi,gy,hk,gX,h4,gY,hj,qa,hl,q4,qg,qh,qi,A0]
   refine Ab (by decide) e.has.length (by omega) (I:=fun p F h=>A3.tmp F 9=.i .i64 k/\A3.tmp F 8=.i .i64 i/\A3.tmp F 2=.fp (eT t) 0/\A3.tmp F 3=.fp (Uv e) 0/\A3.tmp F 5=lW H/\A3.tmp F 6=lW E/\A3.tmp F 7=.sl 0 0 0 t.nodes.length/\A3.tmp F 10=.i .i64 x/\A3.tmp F 11=.i .i64 y/\A3.tmp F 12=.p 1 0 0 0/\A3.tmp F 13=.p 2 0 0 0/\h=[Np (BL t.nodes.length (Ze t e i k (gP t e x y p) x y)),AhB (t.at x),AhB (t.at y)]) ?_ ?_ ?_ 0 _ _ (zero_le _) ?_ ?_
   .rintro p F h hp q1 ⟨r9,r8,r2,r3,r5,r6,r7,hm,ho,hu,hv,rfl⟩
    simp only[go_sem,q1,r9,r8,r2,r3,r5,r6,r7,hm,ho,hu,hv,length_map]
   .rintro p F h hp q1 ⟨r9,r8,r2,r3,r5,r6,r7,hm,ho,hu,hv,rfl⟩
    have gc:=Ak hp
    obtain⟨c,ec,qz,pa,hz⟩:=nd p hp
    rw[ec]at gc
    have hd:=fun h=>Q6 (t:=t) (e:=e) (I:=i) (K:=k) (x:=x) (y:=y) (Ag3 (t:=t) (e:=e) (x:=x) (P:=p) (y:=y) h)
    rw[hz]at hd
    have hb:=Gv ht e (b:=c) h4
    rcases(show((c:Int)=(x:Int)\/(¬(c:Int)=(x:Int)/\((t.at x).kind=4)=True/\hbE t e x c=true))\/(¬c=x/\¬(t.at x).kind=4)\/(¬c=x/\((t.at x).kind=4)=True/\hbE t e x c=false) by
     by_cases a1:c=x
     .exact .inl (.inl (by omega))
     .by_cases a2:(t.at x).kind=4
      .cases a3:hbE t e x c with
       |true=>exact .inl (.inr ⟨by omega,eq_true a2,rfl⟩)
       |false=>exact .inr (.inr ⟨a1,eq_true a2,rfl⟩)
      .exact .inr (.inl ⟨a1,a2⟩))with hpass|⟨a1,a2⟩|⟨a1,a2,a3⟩
    .have p9:ok1 t e x (KT e p):=by
      rw[hz]
      rcases hpass with h|⟨_,h2,h3⟩
      .exact .inl (by omega)
      .exact .inr ⟨of_eq_true h2,hb.1 h3⟩
     have qd:=Q6 (t:=t) (e:=e) (I:=i) (K:=k) (x:=x) (y:=y) (Ag2 (y:=y) hp p9)
     rw[Q6 (t:=t) (e:=e) (I:=i) (K:=k) (x:=x) (y:=y) (AtG (t:=t) (e:=e) (x:=x) (y:=y) (P:=p)).symm]
     rcases hpass with hp1|hp1
     all_goals
      simp only[go_sem,q1,r9,r8,r2,r3,r5,r6,r7,hm,ho,hu,hv,gc,hp,hf,hp1,A0]
      refine Ab (by decide) e.has.length (by omega) (I:=fun q F h=>A3.tmp F 14=.i .i64 p/\A3.tmp F 9=.i .i64 k/\A3.tmp F 8=.i .i64 i/\A3.tmp F 2=.fp (eT t) 0/\A3.tmp F 3=.fp (Uv e) 0/\A3.tmp F 5=lW H/\A3.tmp F 6=lW E/\A3.tmp F 7=.sl 0 0 0 t.nodes.length/\A3.tmp F 10=.i .i64 x/\A3.tmp F 11=.i .i64 y/\A3.tmp F 12=.p 1 0 0 0/\A3.tmp F 13=.p 2 0 0 0/\A3.tmp F 15=.i .i64 (KT e p:Nat)/\h=[Np (BL t.nodes.length (Ze t e i k (gQ t e x y p q) x y)),AhB (t.at x),AhB (t.at y)]) ?_ ?_ ?_ 0 _ _ (zero_le _) ?_ ?_
      .rintro q F h hq hg ⟨h9,u9,u8,u2,u3,u5,u6,u7,h5,h6,h7,h8,ha,rfl⟩
       simp only[go_sem,hg,h9,u9,u8,u2,u3,u5,u6,u7,h5,h6,h7,h8,ha,length_map]
      .rintro q F h hq hg ⟨h9,u9,u8,u2,u3,u5,u6,u7,h5,h6,h7,h8,ha,rfl⟩
       have gd:=Ak hq
       obtain⟨d,ed,p0,pb,qp⟩:=nd q hq
       rw[ed]at gd
       have qv:=Gv ht e (b:=y) p0
       have qb:KT e p<t.nodes.length:=by rw[hz];exact qz
       have qu:=Gv ht e (b:=d) qb
       have qw:=Ux ht e (b:=d) qb
       have hh:=fun h=>Q6 (t:=t) (e:=e) (I:=i) (K:=k) (x:=x) (y:=y) (AoE (t:=t) (e:=e) (x:=x) (y:=y) (P:=p) (K:=q) h)
       rw[qp]at hh
       rcases(show((d:Int)=(y:Int)\/(¬(d:Int)=(y:Int)/\((t.at y).kind=4)=True/\hbE t e d y=true))\/(¬d=y/\¬(t.at y).kind=4)\/(¬d=y/\((t.at y).kind=4)=True/\hbE t e d y=false) by
        by_cases a1:d=y
        .exact .inl (.inl (by omega))
        .by_cases a2:(t.at y).kind=4
         .cases a3:hbE t e d y with
          |true=>exact .inl (.inr ⟨by omega,eq_true a2,rfl⟩)
          |false=>exact .inr (.inr ⟨a1,eq_true a2,rfl⟩)
         .exact .inr (.inl ⟨a1,a2⟩))with hpd|⟨a1,a2⟩|⟨a1,a2,a3⟩
       .have qe:ok2 t e y d:=by
         rcases hpd with h|⟨_,h2,h3⟩
         .exact .inl (by omega)
         .exact .inr ⟨of_eq_true h2,qv.1 h3⟩
        cases b1:hbE t e (KT e p) d with
        |true=>
         have hY:=Acr (t:=t) (e:=e) (x:=x) (y:=y) (P:=p) hq (by rw[qp];exact⟨qe,.inl (qu.1 b1)⟩)
         have hc:=HY (n:=t.nodes.length) (P:=Ze t e i k (gQ t e x y p q) x y) (P':=Ze t e i k (gQ t e x y p (q+1)) x y) qr h4 hj (fun a b _ _=>A8u hY a b)
         have gR:(BL t.nodes.length (Ze t e i k (gQ t e x y p q) x y))[x]? = some ((BL t.nodes.length (Ze t e i k (gQ t e x y p q) x y)).getD x 0#64):=by
          rw[getD_eq_getElem?_getD,getElem?_eq_getElem (by rw[Bi];exact h4)];rfl
         have qf:∀(S:Rows) w,(S.map eW).set x [vW w]=(S.set x w).map eW:=fun S w=>by rw[map_set]
         rcases hpd with hd1|hd1
         .have qc:d=y:=by omega
          subst qc
          simp only[go_sem,hg,h9,u9,u8,u2,u3,u5,u6,u7,h5,h6,h7,h8,ha,gd,hq,hf,b1,gR,h4,Bi,length_map,AP C,qf,hc,A0]
         .simp only[go_sem,hg,h9,u9,u8,u2,u3,u5,u6,u7,h5,h6,h7,h8,ha,gd,hq,hf,hd1,b1,gR,h4,Bi,length_map,AP C,qf,hc,A0]
        |false=>
        cases b2:ecE t e (KT e p) d with
        |true=>
         have hY:=Acr (t:=t) (e:=e) (x:=x) (y:=y) (P:=p) hq (by rw[qp];exact⟨qe,.inr (qw.1 b2)⟩)
         have hc:=HY (n:=t.nodes.length) (P:=Ze t e i k (gQ t e x y p q) x y) (P':=Ze t e i k (gQ t e x y p (q+1)) x y) qr h4 hj (fun a b _ _=>A8u hY a b)
         have gR:(BL t.nodes.length (Ze t e i k (gQ t e x y p q) x y))[x]? = some ((BL t.nodes.length (Ze t e i k (gQ t e x y p q) x y)).getD x 0#64):=by
          rw[getD_eq_getElem?_getD,getElem?_eq_getElem (by rw[Bi];exact h4)];rfl
         have qf:∀(S:Rows) w,(S.map eW).set x [vW w]=(S.set x w).map eW:=fun S w=>by rw[map_set]
         rcases hpd with hd1|hd1
         .have qc:d=y:=by omega
          subst qc
          simp only[go_sem,hg,h9,u9,u8,u2,u3,u5,u6,u7,h5,h6,h7,h8,ha,gd,hq,hf,q0,b1,b2,gR,h4,Bi,length_map,AP C,qf,hc,A0]
         .simp only[go_sem,hg,h9,u9,u8,u2,u3,u5,u6,u7,h5,h6,h7,h8,ha,gd,hq,hf,q0,hd1,b1,b2,gR,h4,Bi,length_map,AP C,qf,hc,A0]
        |false=>
         have hx:=hh (fun h=>by
          rcases h.2 with h|h
          .rw[qu.2 h]at b1;cases b1
          .rw[qw.2 h]at b2;cases b2)
         rcases hpd with hd1|hd1
         .have qc:d=y:=by omega
          subst qc
          simp only[go_sem,hg,h9,u9,u8,u2,u3,u5,u6,u7,h5,h6,h7,h8,ha,gd,hq,hf,q0,b1,b2,hx,A0]
         .simp only[go_sem,hg,h9,u9,u8,u2,u3,u5,u6,u7,h5,h6,h7,h8,ha,gd,hq,hf,q0,hd1,b1,b2,hx,A0]
       .have hx:=hh (fun h=>by
         rcases h.1 with h|h
         .exact a1 h
         .exact a2 h.1)
        have hw:¬((d:Int)=(y:Int)):=by omega
        simp only[go_sem,hg,h9,u9,u8,u2,u3,u5,u6,u7,h5,h6,h7,h8,ha,gd,hq,a1,hw,a2,hx,A0]
       .have hx:=hh (fun h=>by
         rcases h.1 with h|h
         .exact a1 h
         .rw[qv.2 h.2]at a3;cases a3)
        have hw:¬((d:Int)=(y:Int)):=by omega
        simp only[go_sem,hg,h9,u9,u8,u2,u3,u5,u6,u7,h5,h6,h7,h8,ha,gd,hq,a1,hw,a2,a3,hf,hx,A0]
      .rintro F h ⟨h9,u9,u8,u2,u3,u5,u6,u7,h5,h6,h7,h8,ha,rfl⟩
       simp only[go_sem,h9,u9,u8,u2,u3,u5,u6,u7,h5,h6,h7,h8,ha,qd]
      .simp only[go_sem]
      .simp only[go_sem,q1,r9,r8,r2,r3,r5,r6,r7,hm,ho,hu,hv]
       first|rfl|(simp only[hz];done)|(simp only[hz];omega)|(simp only[hz,VV.i.injEq,true_and];omega)
    .have hx:=hd (fun h=>by
      rcases h with h|h
      .exact a1 h
      .exact a2 h.1)
     have hw:¬((c:Int)=(x:Int)):=by omega
     simp only[go_sem,q1,r9,r8,r2,r3,r5,r6,r7,hm,ho,hu,hv,gc,hp,a1,hw,a2,hx,A0]
    .have hx:=hd (fun h=>by
      rcases h with h|h
      .exact a1 h
      .rw[hb.2 h.2]at a3;cases a3)
     have hw:¬((c:Int)=(x:Int)):=by omega
     simp only[go_sem,q1,r9,r8,r2,r3,r5,r6,r7,hm,ho,hu,hv,gc,hp,a1,hw,a2,a3,hf,hx,A0]
   .rintro F h ⟨r9,r8,r2,r3,r5,r6,r7,hm,ho,hu,hv,rfl⟩
    rw[qk]
    simp only[go_sem,r9,r8,r2,r3,r5,r6,r7,hm,ho,hu,hv]
   .simp only[go_sem]
   .simp only[go_sem,q9,q8,q2,q3,q5,q6,q7]
  .rintro F h ⟨q8,q2,q3,q5,q6,q7,rfl⟩
   simp only[go_sem,q8,q2,q3,q5,q6,q7,hr]
  .simp only[go_sem]
  .simp only[go_sem,p8,p2,p3,p5,p6,p7]
 .rintro F h ⟨p2,p3,p5,p6,p7,rfl⟩
  rw[qj]
  simp only[go_sem,p2,p3,p5,p6,p7,Bi,KX,length_map,Ns]
 .simp only[go_sem]
 .simp only[go_sem]
  rw[h0]
theorem Zr:VP V AdJ [vT t,T5 e] Q↔Q (.b (Ag5 t e)):=by
 refine Af ?_
 rw[Ad C.c_z56.1 C.c_z56.2]
 have qG:=fun(Q:VV->Prop)=>Ny C t ht e he (Q:=Q)
 rw[<- AfS ht]at qG
 have qA:=fun(Q:VV->Prop)=>Ks C ht e he (Q:=Q)
 have qP:=fun(Q:VV->Prop)=>P9 C ht e he (Q:=Q)
 unfold Ag5
 cases c1:Lg t e with
 |false=>simp only[A6k,go_sem,qG,c1,Bool.false_and]
 |true=>
 have hX:Lb t e=true:=by
  rw[Lg,Bool.and_eq_true,Bool.and_eq_true]at c1
  exact c1.1.1
 rw[hX,if_pos rfl]at qP
 rw[show A9k t e=e.has.all (Co t e) by rw[A9k,hX,Bool.true_and]]at qA
 have qR:∀(Q:VV->Prop),VP V A8e [lW (Ns t e)] Q↔Q (.b (Uj (Ns t e))):=fun Q=>Ko C ht.n64 (fun a b=>@decide (SE t e a b) (Classical.propDecidable _))
 cases c2:e.has.all (Co t e)with
 |false=>simp only[A6k,go_sem,qG,c1,qA,c2,Bool.true_and,Bool.false_and]
 |true=>simp only[A6k,go_sem,qG,c1,qA,c2,qP,qR,Bool.true_and]
end
abbrev i5(n:Nat):Nat:=n+1+1+1+1+1
def NJ(mo:List (List Int)):Nat->VH
 |0=>[]
 |k+1=>NJ mo k++[some (LC AG 1 ((mo.getD k []).map eI)),some ⟨BT,1,0,false,[[.sl (i5 (2 * k)) (E0 (mo.getD k []).length) 0 (mo.getD k []).length]]⟩]
theorem L3(mo:List (List Int)):∀k,(NJ mo k).length=2 * k
 |0=>rfl
 |k+1=>by rw[NJ,length_append,L3 mo k];simp;omega
def ZQ(mo:List (List Int))(k:Nat):List (List VV):=(List.range k).map fun i=>[.sl (i5 (2 * i)) (E0 (mo.getD i []).length) 0 (mo.getD i []).length]
theorem A8X(mo:List (List Int))(k:Nat):(ZQ mo k).length=k:=by simp[ZQ]
theorem AeT(mo:List (List Int))(k:Nat):ZQ mo (k+1)=ZQ mo k++[[.sl (i5 (2 * k)) (E0 (mo.getD k []).length) 0 (mo.getD k []).length]]:=by
 unfold ZQ
 rw[List.range_succ,map_append];rfl
theorem A8Z(mo:List (List Int))(k:Nat)(Y:VH):(NJ mo k++Y)[2 * k]? = Y[0]?/\(NJ mo k++Y)[2 * k+1]? = Y[1]?/\(NJ mo k++Y)[2 * k+1+1]? = Y[2]?:=by
 have:=L3 mo k
 refine⟨?_,?_,?_⟩<;>rw[List.getElem?_append_right (by omega)]<;>congr 1<;>omega
theorem Aih(mo:List (List Int))(k:Nat)(Y:VH)(z:Option VO):(NJ mo k++Y).set (2 * k) z=NJ mo k++Y.set 0 z/\(NJ mo k++Y).set (2 * k+1) z=NJ mo k++Y.set 1 z:=by
 have:=L3 mo k
 refine⟨?_,?_⟩
 .have e:=List.set_append_right (s:=(NJ mo k:List (Option VO))) (t:=Y) (2 * k) z (by omega)
  rw[this,Nat.sub_self]at e
  exact e
 .have e:=List.set_append_right (s:=(NJ mo k:List (Option VO))) (t:=Y) (2 * k+1) z (by omega)
  rw[this,Nat.add_sub_cancel_left]at e
  exact e
theorem ZK(mo:List (List Int)){loc:Nat}:∀{n:Nat},loc<n->∀Y:VH,(NJ mo n++Y)[2 * loc]? = some (some (LC AG 1 ((mo.getD loc []).map eI)))
 |0,h,_=>by omega
 |n+1,h,Y=>by
  rw[NJ,List.append_assoc]
  by_cases c:loc=n
  .subst c
   rw[(A8Z mo loc _).1];rfl
  .exact ZK mo (by omega) _
theorem A8Y(mo:List (List Int)){n loc i:Nat}(hl:loc<n)(hi:i<n)(z:Option VO)(Y:VH):((NJ mo n).set (2 * loc) z++Y)[2 * i]? = some (if i=loc then z else some (LC AG 1 ((mo.getD i []).map eI))):=by
 have hT:=L3 mo n
 rw[List.getElem?_append_left (by rw[length_set];omega),List.getElem?_set]
 by_cases c:i=loc
 .subst c
  simp;omega
 .rw[if_neg (by omega),if_neg c]
  have:=ZK mo hi []
  rwa [append_nil]at this
theorem Amw{mo:List (List Int)}{n loc:Nat}(h:loc<n):(ZQ mo n)[loc]? = some [.sl (i5 (2 * loc)) (E0 (mo.getD loc []).length) 0 (mo.getD loc []).length]:=by simp[ZQ,h]
theorem QQ{α β:Type}{g:α->Option (α×List Nat)}{f h:β->α}{is:β->List Nat}:∀(l:List β),(∀i∈l,g (f i)=some (h i,is i))->B5 g (l.map f)=some (l.map h,l.flatMap is)
 | [],_=>rfl
 |x::l,hg=>by
  have e:=QQ l fun i hi=>hg i (by simp[hi])
  simp only[List.map_cons,B5,hg x (by simp),e,List.flatMap_cons]
def Agc(n:Nat):List Nat:=(List.range n).flatMap fun i=>[i5 (2 * i)]
theorem Aka{f d:Nat}(hf:f=d+4)(mo:List (List Int))(a0 a1 a2 a3 a4:Option VO)(Y:VH) :
  B5 (fun row=>B5 (frz (a0::a1::a2::a3::a4::(NJ mo mo.length++Y)) f) row) (ZQ mo mo.length)=some (mo.map EG,Agc mo.length):=by
 subst hf
 have e:=QQ (g:=fun row=>B5 (frz (a0::a1::a2::a3::a4::(NJ mo mo.length++Y)) (d+4)) row)
  (f:=fun i=>[.sl (i5 (2 * i)) (E0 (mo.getD i []).length) 0 (mo.getD i []).length]) (h:=fun i=>EG (mo.getD i [])) (is:=fun i=>[i5 (2 * i)]) (List.range mo.length) (fun i hi=>by
   have hi:=List.mem_range.1 hi
   have h1:=fun Y=>ZK mo hi Y
   simp only[go_sem,h1,length_map])
 rw[show ZQ mo mo.length=(List.range mo.length).map fun i=>[VV.sl (i5 (2 * i)) (E0 (mo.getD i []).length) 0 (mo.getD i []).length] from rfl,e,Agc]
 congr 2
 apply List.ext_getElem
 .simp
 .intro i h1 h2
  have hi:i<mo.length:=by simpa using h1
  rw[getElem_map,getElem_map,List.getElem_range,getD_eq_getElem?_getD,getElem?_eq_getElem hi];rfl
theorem Akb{f d:Nat}(hf:f=d+4){mo:List (List Int)}{loc:Nat}(hll:loc<mo.length){L:List Int}{v:Nat}(hv:(mo.getD loc []).length=v)(hL:L.length=v)(a0 a1 a2 a3 a4:Option VO)(Y:VH) :
  B5 (fun row=>B5 (frz (a0::a1::a2::a3::a4::((NJ mo mo.length).set (2 * loc) (some ⟨AG,1,E0 v,false,L.map eI⟩)++Y)) f) row) (ZQ mo mo.length)=some ((mo.set loc L).map EG,Agc mo.length):=by
 subst hf
 have e:=QQ (g:=fun row=>B5 (frz (a0::a1::a2::a3::a4::((NJ mo mo.length).set (2 * loc) (some ⟨AG,1,E0 v,false,L.map eI⟩)++Y)) (d+4)) row)
  (f:=fun i=>[.sl (i5 (2 * i)) (E0 (mo.getD i []).length) 0 (mo.getD i []).length]) (h:=fun i=>EG ((mo.set loc L).getD i [])) (is:=fun i=>[i5 (2 * i)]) (List.range mo.length) (fun i hi=>by
   have hi:=List.mem_range.1 hi
   by_cases c:i=loc
   .subst c
    have h1:=fun z=>A8Y mo hll hi z Y
    have h3:(mo.set i L).getD i []=L:=by rw[getD_eq_getElem?_getD,List.getElem?_set];simp[hll]
    rw[h3,hv]
    simp only[if_true]at h1
    simp only[go_sem,↓reduceIte,h1,hL,List.take_of_length_le (Nat.le_of_eq (show(L.map eI).length=v by rw[length_map];exact hL)),length_map,↓reduceIte]
   .have h1:=fun z=>A8Y mo hll hi z Y
    have h3:(mo.set loc L).getD i []=mo.getD i []:=by rw[getD_eq_getElem?_getD,getD_eq_getElem?_getD,List.getElem?_set_ne (by omega)]
    rw[h3]
    simp only[c,if_false]at h1 ⊢
    simp only[go_sem,h1,length_map])
 rw[show ZQ mo mo.length=(List.range mo.length).map fun i=>[VV.sl (i5 (2 * i)) (E0 (mo.getD i []).length) 0 (mo.getD i []).length] from rfl,e,Agc]
 congr 2
 apply List.ext_getElem
 .simp
 .intro i h1 h2
  have hi:i<(mo.set loc L).length:=by simpa using h1
  rw[getElem_map,getElem_map,List.getElem_range,getD_eq_getElem?_getD,getElem?_eq_getElem hi];rfl
def xcG(e:AF)(k:Nat):VH:=some ⟨EB,0,0,false,[[.nl,.nl,.nl]]⟩::some (LC AG 1 (e.has.map eI))::some (LC AG 1 (e.rf.map eI)) ::
 some ⟨EB,0,0,false,[[.sl 1 (E0 e.has.length) 0 e.has.length,.sl 2 (E0 e.rf.length) 0 e.rf.length,.sl 4 (ZQ e.mo k).length 0 (ZQ e.mo k).length]]⟩::some (AN BT 1 (ZQ e.mo k))::NJ e.mo k
def chR(t:A2)(e:AF)(a f:Nat):List Int:=if 0<=e.rf.getD (a % e.has.length) 0 then e.rf.set (a % e.has.length) ((HC e (t.at (e.has.getD (a % e.has.length) 0).toNat).loc).getD (f % (HC e (t.at (e.has.getD (a % e.has.length) 0).toNat).loc).length) 0)else e.rf
def chM(e:AF)(l i k:Nat):List (List Int):=if 0<e.mo.length then(if 0<(e.mo.getD (l % e.mo.length) []).length then e.mo.set (l % e.mo.length) (A1W (e.mo.getD (l % e.mo.length) []) 0 (i % (e.mo.getD (l % e.mo.length) []).length) (k % (e.mo.getD (l % e.mo.length) []).length))else e.mo)else e.mo
def chX(t:A2)(e:AF)(a f l i k:Nat):AF:=if e.has.length=0 then e else⟨e.has,chR t e a f,chM e l i k⟩
theorem AjG{t:A2}{e:AF}(he:JR e)(a f l i k:Nat):JR (chX t e a f l i k):=by
 unfold chX
 split
 .exact he
 .refine⟨he.has,?_,?_,?_⟩
  .show(chR t e a f).length<=1000
   unfold chR
   split
   .rw[length_set];exact he.rf
   .exact he.rf
  .show(chM e l i k).length<=1000
   unfold chM
   split
   .split
    .rw[length_set];exact he.mo
    .exact he.mo
   .exact he.mo
  .show ∀x∈chM e l i k,x.length<=1000
   unfold chM
   split
   .split
    .intro x hx
     rcases List.mem_or_eq_of_mem_set hx with h|rfl
     .exact he.mi x h
     .rw[TW];exact he.mi' _
    .exact he.mi
   .exact he.mi
section
variable {V:Ai}(C:Am V){Q:VV->Prop}
include C
theorem QP{t:A2}(ht:A7 t){e:AF}(X:XP t e)(he:JR e)(a f l i k:Nat)(h1:a<256)(h2:f<256)(h3:l<256)(h4:i<256)(h5:k<256) :
  VP V Adq [vT t,T5 e,.i .u8 a,.i .u8 f,.i .u8 l,.i .u8 i,.i .u8 k] Q↔Q (T5 (chX t e a f l i k)):=by
 refine Af ?_
 rw[Ad C.c_z12.1 C.c_z12.2]
 have g1:=he.has
 have g2:=he.rf
 have g3:=he.mo
 have qq:=X.ok.len
 have b1:e.has.length * 8<=A6:=by unfold A6;omega
 have b2:e.rf.length * 8<=A6:=by unfold A6;omega
 simp only[Aiv,go_sem,b1,b2,length_map]
 unfold VL
 rw[A0]
 refine Ma (M:=Nat) (I:=fun j F h=>j<=e.mo.length/\A3.tmp F 2=.i .u8 a/\A3.tmp F 3=.i .u8 f/\A3.tmp F 4=.i .u8 l/\A3.tmp F 5=.i .u8 i/\A3.tmp F 6=.i .u8 k/\A3.tmp F 7=.fp (eT t) 0/\A3.tmp F 8=.fp (Uv e) 0/\A3.tmp F 14=.p 0 0 0 0/\A3.tmp F 15=.p 3 0 0 0/\A3.tmp F 16=.i .i64 j/\h=xcG e j) (μ:=fun j=>e.mo.length-j) ?_ 0 _ _ ⟨zero_le _,?_,?_,?_,?_,?_,?_,?_,?_,?_,?_,?_⟩
 .rintro j F h ⟨qr,p2,p3,p4,p5,p6,p7,p8,hn,ho,hj,rfl⟩
  by_cases c:j<e.mo.length
  .have qs:=he.mi' j
   have hw:IntKind.i64.wrap ((j:Int)+1)=((j+1:Nat):Int):=by rw[Ax (by omega) (by omega)];omega
   have gL:=CT c
   have hT:=L3 e.mo j
   have hr:=A8X e.mo j
   have hg:=fun Y=>A8Z e.mo j Y
   have qk:=fun Y z=>Aih e.mo j Y z
   have ql:=AeT e.mo j
   have qg:NJ e.mo (j+1)=NJ e.mo j++[some (LC AG 1 ((e.mo.getD j []).map eI)),some ⟨BT,1,0,false,[[.sl (i5 (2 * j)) (E0 (e.mo.getD j []).length) 0 (e.mo.getD j []).length]]⟩]:=rfl
   obtain⟨M,hM⟩:∃M,M=e.mo.getD j []:=⟨_,rfl⟩
   rw[<- hM]at gL qs ql qg
   have b3:M.length * 8<=A6:=by unfold A6;omega
   have b4:((ZQ e.mo j).length+1) * 24<=A6:=by unfold A6;omega
   have ci:(j:Int)<(e.mo.length:Int):=by omega
   simp only[K9,go_sem,p2,p3,p4,p5,p6,p7,p8,hn,ho,hj,c,ci,gL,A0,xcG,b3,b4,hw,hT,(hg _).1,(hg _).2.1,(hg _).2.2,(qk _ _).1,(qk _ _).2,length_append,length_map]
   refine⟨?_,j+1,by omega,by omega,rfl,?_⟩
   .rintro(h|h)
    .have:=congrArg (fun o=>o.rows.length) h
     simp only[Tb,length_append]at this
     simp at this
    .rw[List.all_append,Bool.and_eq_true]at h
     have:=h.2
     simp[CK,bel]at this
   .rw[ql,qg,length_append]
    rfl
  .have e1:j=e.mo.length:=by omega
   subst e1
   have hT:=L3 e.mo e.mo.length
   have hr:=A8X e.mo e.mo.length
   obtain⟨A,R,M⟩:=e
   simp only at g1 g2 g3 qq b1 b2 hT hr p8 hj qr c ⊢
   have f0:=fun a0 a1 a2 a3 a4=>Aka (f:=6) (d:=2) rfl M a0 a1 a2 a3 a4 []
   simp only[append_nil]at f0
   have q2:List.take M.length (ZQ M M.length)=ZQ M M.length:=List.take_of_length_le (by omega)
   have q0:List.take A.length A=A:=take_length
   have q1:List.take R.length R=R:=take_length
   have hv:¬((M.length:Int)<(M.length:Int)):=by omega
   have v0:IntKind.i64.wrap (a:Int)=a:=Ax (by omega) (by omega)
   have v1:IntKind.i64.wrap (f:Int)=f:=Ax (by omega) (by omega)
   have v2:IntKind.i64.wrap (l:Int)=l:=Ax (by omega) (by omega)
   have v3:IntKind.i64.wrap (i:Int)=i:=Ax (by omega) (by omega)
   have v4:IntKind.i64.wrap (k:Int)=k:=Ax (by omega) (by omega)
   cases cA:decide (A.length=0)with
   |true=>
    have hd:=of_decide_eq_true cA
    have hE:chX t ⟨A,R,M⟩ a f l i k = ⟨A,R,M⟩:=by rw[chX,if_pos hd]
    have hk:(A.length:Int)=0:=by omega
    rw[hE]
    have q9:A=[]:=List.eq_nil_of_length_eq_zero hd
    simp only[K9,go_sem,p2,p3,p4,p5,p6,p7,p8,hn,ho,hj,Nat.lt_irrefl,hv,xcG,hT,hr,length_map,length_set,q2,q0,q1,f0,Aah,hd,hk]
    rw[q9];rfl
   |false=>
   have hd:=of_decide_eq_false cA
   have hk:¬((A.length:Int)=0):=by omega
   have qi:0<A.length:=by omega
   obtain⟨q,hq⟩:∃q,q=a % A.length:=⟨_,rfl⟩
   have hy:q<A.length:=by rw[hq];exact mod_lt _ qi
   have r1:=D3 (e:=none) (a:=a) (l:=A.length) qi
   rw[<- hq]at r1
   have hz:q<R.length:=by omega
   have hc:∀z,List.take R.length (R.set q z)=R.set q z:=fun z=>List.take_of_length_le (by rw[length_set];exact Nat.le_refl _)
   have gR:=Ak hz
   have gA:=Ak hy
   obtain⟨x,ex,qa⟩:=A9 (X.ok.node _ (Aa (d:=0) hy))
   have qv:(x:Int)∈A:=by rw[<- ex];exact Aa hy
   rw[ex]at gA
   have qu:CA A R (x:Int)=R.getD q 0:=by rw[<- ex];exact X.ok.at_ q hy
   have gN:=A5 qa
   obtain⟨R',qp,hR'l,hb⟩:∃R',R'=chR t ⟨A,R,M⟩ a f/\R'.length=R.length/\(R.getD q 0<0/\R'=R\/∃(loc p:Nat),¬R.getD q 0<0/\(t.at x).loc=loc/\loc<M.length/\0<(M.getD loc []).length/\p=f % (M.getD loc []).length/\R'=R.set q ((M.getD loc []).getD p 0)):=by
    refine⟨_,rfl,?_,?_⟩
    .unfold chR
     split
     .rw[length_set]
     .rfl
    .by_cases c0:R.getD q 0<0
     .refine .inl ⟨c0,?_⟩
      unfold chR
      simp only[<- hq]
      rw[if_neg (by omega)]
     .obtain⟨w,e1,e2,e3,e4,e5⟩:=A9a ht X qv (by rw[qu];omega)
      obtain⟨qw,qo,qx,qb⟩:=A2k ht X e2 e3
      obtain⟨loc,q4⟩:=Int.eq_ofNat_of_zero_le qo
      have qt:=X.ml
      simp only at qt
      rw[HC,q4,toNat_natCast]at qb
      refine .inr ⟨loc,_,c0,by omega,by omega,List.length_pos_of_mem qb,rfl,?_⟩
      unfold chR
      simp only[<- hq]
      rw[if_pos (by omega),ex,toNat_natCast,HC,<- e4,q4,toNat_natCast]
   obtain⟨M',h0⟩:∃M',M'=chM ⟨A,R,M⟩ l i k:=⟨_,rfl⟩
   have hE:chX t ⟨A,R,M⟩ a f l i k = ⟨A,R',M'⟩:=by rw[chX,if_neg hd,qp,h0]
   rw[hE]
   unfold chM at h0
   simp only at h0
   have q8:=fun(r:Nat) (hr:r<M.length)=>Amw (mo:=M) (n:=M.length) hr
   have q7:∀r,r<M.length->(NJ M M.length)[2 * r]? = some (some (LC AG 1 ((M.getD r []).map eI))):=fun r hr=>by
    have:=ZK M hr []
    rwa [append_nil]at this
   cases cM:decide (0<M.length)with
   |false=>
    have hf:=of_decide_eq_false cM
    have hu:¬((0:Int)<(M.length:Int)):=by omega
    rw[if_neg hf]at h0
    rw[h0]
    rcases hb with ⟨c0,rfl⟩|⟨loc,p,c0,hlc,hll,hl0,hp,rfl⟩
    .have hh:¬(0:Int)<=R'.getD q 0:=by omega
     simp only[K9,go_sem,p2,p3,p4,p5,p6,p7,p8,hn,ho,hj,Nat.lt_irrefl,hv,xcG,hT,hr,length_map,length_set,q2,q0,q1,hc,f0,Aah,hd,hk,r1,v0,gR,hz,hh,hf,hu]
    .omega
   |true=>
    have hf:=of_decide_eq_true cM
    have hu:(0:Int)<(M.length:Int):=by omega
    rw[if_pos hf]at h0
    obtain⟨r,qj⟩:∃r,r=l % M.length:=⟨_,rfl⟩
    have hl:r<M.length:=by rw[qj];exact mod_lt _ hf
    have r3:=D3 (e:=none) (a:=l) (l:=M.length) hf
    rw[<- qj]at r3 h0
    have qd:=he.mi' r
    simp only at qd
    obtain⟨L,hL⟩:∃L,M.getD r []=L:=⟨_,rfl⟩
    have ha:=q8 r hl
    have h8:=q7 r hl
    have f1:=fun(L':List Int) (h:L'.length=L.length)=>Akb (f:=6) (d:=2) rfl hl (L:=L') (v:=L.length) (by rw[hL]) h
    rw[hL]at h0 qd ha h8
    have qh:∀L':List Int,(NJ M M.length).set (2 * r) (some ⟨AG,1,E0 L.length,false,L'.map eI⟩)++[]=(NJ M M.length).set (2 * r) (some ⟨AG,1,E0 L.length,false,L'.map eI⟩):=fun _=>append_nil _
    have qe:∀z,((NJ M M.length).set (2 * r) z)[2 * r]? = some z:=fun z=>by rw[List.getElem?_set_self (by omega)]
    have qf:2 * r<(NJ M M.length).length:=by omega
    have hx:=Gp (ty:=BT) (e:=1) (rows:=ZQ M M.length) (by omega)
    cases cL:decide (0<L.length)with
    |false=>
     have h6:=of_decide_eq_false cL
     have q3:¬((0:Int)<(L.length:Int)):=by omega
     rw[if_neg h6]at h0
     rw[h0]
     rcases hb with ⟨c0,rfl⟩|⟨loc,p,c0,hlc,hll,hl0,hp,rfl⟩
     .have hh:¬(0:Int)<=R'.getD q 0:=by omega
      simp only[K9,go_sem,p2,p3,p4,p5,p6,p7,p8,hn,ho,hj,Nat.lt_irrefl,hv,xcG,hT,hr,length_map,length_set,q2,q0,q1,hc,f0,Aah,hd,hk,r1,v0,gR,hz,hh,hf,hu,v2,r3,hx,ha,hl,h8,h6,q3]
     .have hh:(0:Int)<=R.getD q 0:=by omega
      have h9:=q8 loc hll
      have h7:=q7 loc hll
      have q5:=he.mi' loc
      simp only at q5
      obtain⟨W,hW⟩:∃W,M.getD loc []=W:=⟨_,rfl⟩
      rw[hW]at hl0 hp h9 h7 q5 ⊢
      have r2:=D3 (e:=none) (a:=f) (l:=W.length) hl0
      rw[<- hp]at r2
      have q6:p<W.length:=by rw[hp];exact mod_lt _ hl0
      have gW:=Ak q6
      simp only[K9,go_sem,p2,p3,p4,p5,p6,p7,p8,hn,ho,hj,Nat.lt_irrefl,hv,xcG,hT,hr,length_map,length_set,q2,q0,q1,hc,f0,Aah,hd,hk,r1,v0,gR,hz,hh,gA,hy,gN,qa,hlc,hx,h9,hll,h7,v1,r2,gW,q6,hf,hu,v2,r3,hx,ha,hl,h8,h6,q3]
    |true=>
     have h6:=of_decide_eq_true cL
     have q3:(0:Int)<(L.length:Int):=by omega
     rw[if_pos h6]at h0
     obtain⟨x1,qm⟩:∃x1,x1=i % L.length:=⟨_,rfl⟩
     obtain⟨x2,qn⟩:∃x2,x2=k % L.length:=⟨_,rfl⟩
     have hm:x1<L.length:=by rw[qm];exact mod_lt _ h6
     have hi:x2<L.length:=by rw[qn];exact mod_lt _ h6
     have r4:=D3 (e:=none) (a:=i) (l:=L.length) h6
     have r5:=D3 (e:=none) (a:=k) (l:=L.length) h6
     rw[<- qm]at r4 h0
     rw[<- qn]at r5 h0
     have gi:=Ak hm
     have gk:=Ak hi
     have qc:∀z,(L.set x1 z)[x2]? = some ((L.set x1 z).getD x2 0):=fun z=>Ak (by rw[length_set];exact hi)
     have f1:=f1 (A1W L 0 x1 x2) (TW L 0 x1 x2)
     rw[h0]
     rw[A1W]at f1 ⊢
     have f2:=fun a0 a1 a2 a3 a4=>f1 a0 a1 a2 a3 a4 []
     simp only[append_nil]at f2
     rcases hb with ⟨c0,rfl⟩|⟨loc,p,c0,hlc,hll,hl0,hp,rfl⟩
     .have hh:¬(0:Int)<=R'.getD q 0:=by omega
      simp only[K9,go_sem,p2,p3,p4,p5,p6,p7,p8,hn,ho,hj,Nat.lt_irrefl,hv,xcG,hT,hr,length_map,length_set,q2,q0,q1,hc,f0,Aah,hd,hk,r1,v0,gR,hz,hh,hf,hu,v2,r3,hx,ha,hl,h8,h6,q3,v3,v4,r4,r5,gi,gk,qc,hm,hi,qe,qf,List.set_set,f2]
     .have hh:(0:Int)<=R.getD q 0:=by omega
      have h9:=q8 loc hll
      have h7:=q7 loc hll
      have q5:=he.mi' loc
      simp only at q5
      obtain⟨W,hW⟩:∃W,M.getD loc []=W:=⟨_,rfl⟩
      rw[hW]at hl0 hp h9 h7 q5 ⊢
      have r2:=D3 (e:=none) (a:=f) (l:=W.length) hl0
      rw[<- hp]at r2
      have q6:p<W.length:=by rw[hp];exact mod_lt _ hl0
      have gW:=Ak q6
      simp only[K9,go_sem,p2,p3,p4,p5,p6,p7,p8,hn,ho,hj,Nat.lt_irrefl,hv,xcG,hT,hr,length_map,length_set,q2,q0,q1,hc,f0,Aah,hd,hk,r1,v0,gR,hz,hh,gA,hy,gN,qa,hlc,hx,h9,hll,h7,v1,r2,gW,q6,hf,hu,v2,r3,hx,ha,hl,h8,h6,q3,v3,v4,r4,r5,gi,gk,qc,hm,hi,qe,qf,List.set_set,f2]
 all_goals first|rfl|(simp only[go_sem];done)|(simp only[go_sem];rfl)
end
section
variable {V:Ai}(C:Am V)
include C
theorem ST(t:A2)(ht:A7 t)(s:A8)(hs:GI s)(hf:B2 t s){Q:Ex->A3->VH->Prop}(hq:∀F,A3.tmp F 4=.sl 0 (L9 t s).length 0 (L9 t s).length->Q .ret F [some (AN BT 1 ((L9 t s).map EG))]) :
  Vc V Ahl Acb.body (Tm.ofList [vT t,HJ s]) [] Q:=by
 have qe:=ht.n64
 have hr:=ht.r4
 have g1:=hs.has
 have qa:=BV.2 hf
 have qF:=fun(Q:VV->Prop)=>BE C t ht s hs (Q:=Q)
 have qE:=fun(i:Nat) (Q:VV->Prop)=>Zi C t ht i (Q:=Q)
 have qO:=fun(Q:VV->Prop)=>TG C s.has (by omega) (Q:=Q)
 have q4:L9 t s=(L7 t s t.regs.length).map AC:=by rw[L9,Abj ht hf]
 rw[q4]at hq
 simp only[Acb,go_sem,qF,qa,Gz C,A1w,length_map]
 refine Ab (by decide) t.regs.length (by omega) (I:=fun i F h=>A3.tmp F 2=.fp (eT t) 0/\A3.tmp F 3=.fp (Hd s) 0/\A3.tmp F 5=lW (L7 t s i)/\h=[]) ?_ ?_ ?_ 0 _ _ (zero_le _) ?_ ?_
 .rintro i F h hi p6 ⟨p2,p3,p5,rfl⟩
  simp only[go_sem,p6,p2,p3,p5,length_map]
 .rintro i F h hi p6 ⟨p2,p3,p5,rfl⟩
  have hO:=A5X t ht s hf (k:=i) (by omega)
  have hE:=A0p t i
  have hd:∀k (hk:k<(Gf t i).length),(Gf t i)[k]<t.nodes.length:=fun k hk=>(Mw.1 (List.getElem_mem hk)).1
  have h3:Es t s (Gf t i) (Gf t i).length=Sf t s i:=by rw[Es,take_length];rfl
  have hh:(Sf t s i).length<=64:=by
   have:=Sg t s (Gf t i) (Gf t i).length
   rw[h3]at this;omega
  have hn:L7 t s (i+1)=flW (L7 t s i) (Sf t s i) (L7 t s i).length:=by rw[flW,take_length,L7]
  have hv:=fun(Q:VV->Prop)=>qE i Q
  rw[hn]
  obtain⟨O,hz⟩:∃O,O=L7 t s i:=⟨_,rfl⟩
  obtain⟨W,q0⟩:∃W,W=Sf t s i:=⟨_,rfl⟩
  obtain⟨E,hw⟩:∃E,E=Gf t i:=⟨_,rfl⟩
  rw[<- hz]at hO p5 ⊢
  rw[<- hw]at hE hd h3 hv
  rw[<- q0]at h3 hh ⊢
  have ho:=Ado E
  simp only[go_sem,p6,p2,p3,p5,hv,A0]
  refine Ab (by decide) O.length (by omega) (I:=fun k F h=>A3.tmp F 6=.i .i64 i/\A3.tmp F 2=.fp (eT t) 0/\A3.tmp F 3=.fp (Hd s) 0/\A3.tmp F 5=lW O/\A3.tmp F 7=lI (nI E)/\∃L,L=flW O W k/\A3.tmp F 8=.sl 0 L.length 0 L.length/\h=[some (AN AW 1 (L.map eW))]) ?_ ?_ ?_ 0 _ _ (zero_le _) ?_ ?_
  .rintro k F h hk q9 ⟨q6,q2,q3,q5,q7,L,hL,q8,rfl⟩
   simp only[go_sem,q9,q6,q2,q3,q5,q7,q8]
   exact⟨L,hL,rfl,rfl⟩
  .rintro k F h hk q9 ⟨q6,q2,q3,q5,q7,L,hL,q8,rfl⟩
   have gO:O[k]? = some O[k]:=getElem?_eq_getElem hk
   obtain⟨x,hx⟩:∃x,x=O[k]:=⟨_,rfl⟩
   rw[<- hx]at gO
   have qf:=AfV O W k hh hO
   simp only[go_sem,q9,q6,q2,q3,q5,q7,q8,A0]
   refine Ab (by decide) E.length (by omega) (I:=fun j F h=>A3.tmp F 9=.i .i64 k/\A3.tmp F 6=.i .i64 i/\A3.tmp F 2=.fp (eT t) 0/\A3.tmp F 3=.fp (Hd s) 0/\A3.tmp F 5=lW O/\A3.tmp F 7=lI (nI E)/\∃M,M=L++(Es t s E j).map (fun w=>x|||w)/\A3.tmp F 8=.sl 0 M.length 0 M.length/\h=[some (AN AW 1 (M.map eW))]) ?_ ?_ ?_ 0 _ _ (zero_le _) ?_ ?_
   .rintro j F h hj h5 ⟨r9,r6,r2,r3,r5,r7,M,hM,r8,rfl⟩
    simp only[go_sem,h5,r9,r6,r2,r3,r5,r7,r8,ho]
    exact⟨M,hM,rfl,rfl⟩
   .rintro j F h hj h5 ⟨r9,r6,r2,r3,r5,r7,M,hM,r8,rfl⟩
    have gE:(nI E)[j]? = some ((E[j]:Nat):Int):=by rw[nI,List.getElem?_map,getElem?_eq_getElem hj];rfl
    have hl:=hd j hj
    have hp:=fun h=>AeQ (t:=t) (s:=s) hj h
    have hu:=fun h=>AeP (t:=t) (s:=s) hj h
    have qh:=Sg t s E j
    obtain⟨e,he⟩:∃e,e=E[j]:=⟨_,rfl⟩
    rw[<- he]at gE hl hp hu
    have qW:=fun(Q:VV->Prop)=>A1z C t ht hl (Q:=Q)
    have qg:M.length<=16777216 * 64+64:=by rw[hM,length_append,length_map,hL];omega
    have b1:(M.length+1) * 8<=A6:=by unfold A6;omega
    have qb:=Cz (E4 t e)
    have h4:Kz t s e=(decide (E4 t e|||BI s.has=BI s.has)&&(AC (E4 t e)).all fun j=>AQ s.has j&&NF t s j.toNat):=by
     rw[Kz]
     congr 1
     rw[Bool.eq_iff_iff,all_eq_true,all_eq_true]
     refine forall_congr' fun y=>forall_congr' fun hy=>?_
     cases c:AQ s.has y with
     |false=>rfl
     |true=>
      obtain⟨m,rfl,hm⟩:=A9 (hf.node _ (Ac.1 c))
      rw[toNat_natCast,Sd ht hf (Ac.1 c)]
    obtain⟨Y,hY⟩:∃Y,Y=AC (E4 t e):=⟨_,rfl⟩
    obtain⟨G,hG⟩:∃G,G=decide (E4 t e|||BI s.has=BI s.has):=⟨_,rfl⟩
    have qI:=fun(Q:VV->Prop)=>D7 C (E4 t e) (BI s.has) (Q:=Q)
    have qL:=fun(Q:VV->Prop)=>Kp C (E4 t e) (Q:=Q)
    have qV:=fun(y:Int) (Q:VV->Prop)=>Pp C t ht s hs hf y (Q:=Q)
    rw[<- hY]at qb h4 qL
    rw[<- hG]at h4 qI
    simp only[go_sem,h5,r9,r6,r2,r3,r5,r7,r8,gE,hj,ho,qW,qO,qI,qL,A0]
    unfold VL
    rw[A0]
    refine AJ (M:=Nat) (I:=fun n F h=>n<=Y.length/\A3.tmp F 10=.i .i64 j/\A3.tmp F 9=.i .i64 k/\A3.tmp F 6=.i .i64 i/\A3.tmp F 2=.fp (eT t) 0/\A3.tmp F 3=.fp (Hd s) 0/\A3.tmp F 5=lW O/\A3.tmp F 7=lI (nI E)/\A3.tmp F 8=.sl 0 M.length 0 M.length/\A3.tmp F 11=vW (E4 t e)/\A3.tmp F 13=lI Y/\A3.tmp F 14=.i .i64 n/\(∃g:Bool,A3.tmp F 12=.b g/\g=(G&&(Y.take n).all fun y=>AQ s.has y&&NF t s y.toNat))/\h=[some (AN AW 1 (M.map eW))]) (μ:=fun n=>Y.length-n) ?_ 0 _ _ ⟨by omega,?_,?_,?_,?_,?_,?_,?_,?_,?_,?_,?_,?_,?_⟩
    .rintro n F h ⟨hn,h6,s9,s6,s2,s3,s5,s7,s8,h7,h9,ha,⟨g,h8,hg⟩,rfl⟩
     have w1:IntKind.i64.wrap ((n:Int)+1)=((n+1:Nat):Int):=by rw[Ax (by omega) (by omega)];omega
     have qd:g=false->Kz t s e=false:=fun h=>by
      rw[h4]
      rw[h]at hg
      cases G with
      |false=>rfl
      |true=>
       rw[Bool.true_and]at hg ⊢
       rw[Bool.eq_false_iff]
       intro h2
       rw[all_eq_true]at h2
       rw[eq_comm,Bool.eq_false_iff]at hg
       exact hg (List.all_eq_true.2 fun y hy=>h2 y (List.mem_of_mem_take hy))
     have h1:Kz t s e=false->M=L++(Es t s E (j+1)).map (fun w=>x|||w):=fun h=>by rw[hu h];exact hM
     have hb:Kz t s e=true->M++[x|||E4 t e]=L++(Es t s E (j+1)).map (fun w=>x|||w):=fun h=>by rw[hp h,hM,map_append,List.append_assoc];rfl
     cases c:decide (n<Y.length)with
     |true=>
      have c':=of_decide_eq_true c
      cases g with
      |false=>
       simp only[A0X,go_sem,h6,s9,s6,s2,s3,s5,s7,s8,h7,h9,ha,h8,Int.ofNat_lt,c,A0]
       exact⟨M,h1 (qd rfl),rfl,rfl⟩
      |true=>
       have gY:=Ak c'
       simp only[A0X,go_sem,h6,s9,s6,s2,s3,s5,s7,s8,h7,h9,ha,h8,Int.ofNat_lt,c,c',gY,qV,w1,A0]
       have e1:Y.getD n 0=Y[n]:=by rw[getD_eq_getElem?_getD,getElem?_eq_getElem c'];rfl
       refine⟨n+1,by omega,by omega,rfl,?_⟩
       rw[List.take_succ_eq_append_getElem c',List.all_append,<- Bool.and_assoc,<- hg,Bool.true_and,e1]
       simp
     |false=>
      have qc:n=Y.length:=by have:=of_decide_eq_false c;omega
      rw[qc,take_length,<- h4]at hg
      cases g with
      |false=>
       simp only[A0X,go_sem,h6,s9,s6,s2,s3,s5,s7,s8,h7,h9,ha,h8,Int.ofNat_lt,c,A0]
       exact⟨M,h1 hg.symm,rfl,rfl⟩
      |true=>
       simp only[A0X,go_sem,h6,s9,s6,s2,s3,s5,s7,s8,h7,h9,ha,h8,r9,Int.ofNat_lt,c,gO,hk,b1,Am4,length_append,length_map,A0]
       exact⟨M++[x|||E4 t e],hb hg.symm,by simp,rfl⟩
    all_goals first|(simp only[go_sem,h5,r9,r6,r2,r3,r5,r7,r8];done)|exact⟨G,by simp only[go_sem],by simp⟩|rfl
   .rintro F h ⟨r9,r6,r2,r3,r5,r7,M,hM,r8,rfl⟩
    rw[h3]at hM
    simp only[go_sem,r9,r6,r2,r3,r5,r7,r8]
    exact⟨M,by rw[Acm hk,<- hx,hM,hL],rfl,rfl⟩
   .simp only[go_sem]
   .simp only[go_sem,q9,q6,q2,q3,q5,q7]
    exact⟨L,by simp[Es],q8,rfl⟩
  .rintro F h ⟨q6,q2,q3,q5,q7,L,hL,q8,rfl⟩
   subst hL
   simp only[go_sem,q6,q2,q3,q5,q7,q8,length_map]
  .simp only[go_sem]
  .simp only[go_sem,p6,p2,p3,p5]
   exact⟨[],rfl,rfl,rfl⟩
 .rintro F h ⟨p2,p3,p5,rfl⟩
  obtain⟨X,hX⟩:∃X,X=L7 t s t.regs.length:=⟨_,rfl⟩
  have q1:=A5X t ht s hf (Nat.le_refl _)
  rw[<- hX]at p5 q1
  simp only[go_sem,p2,p3,p5]
  refine Ab (by decide) X.length (by omega) (I:=fun k F h=>A3.tmp F 5=lW X/\∃ys:List (List Int),ys=(X.take k).map AC/\A3.tmp F 15=.sl 0 ys.length 0 ys.length/\h=[some (AN BT 1 (ys.map EG))]) ?_ ?_ ?_ 0 _ _ (zero_le _) ?_ ?_
  .rintro k F h hk hc ⟨p5,ys,hy,h0,rfl⟩
   simp only[go_sem,hc,p5,h0]
   exact⟨ys,hy,rfl,rfl⟩
  .rintro k F h hk hc ⟨p5,ys,hy,h0,rfl⟩
   have gX:X[k]? = some X[k]:=getElem?_eq_getElem hk
   have qi:ys.length<=16777216:=by rw[hy,length_map,List.length_take];omega
   have b1:(ys.length+1) * 24<=A6:=by unfold A6;omega
   simp only[go_sem,hc,p5,h0,gX,hk,Kp C,b1,AhT,length_append,length_map,A0]
   exact⟨ys++[AC X[k]],by rw[hy,List.take_succ_eq_append_getElem hk,map_append];rfl,by simp,rfl⟩
  .rintro F h ⟨p5,ys,hy,h0,rfl⟩
   rw[take_length]at hy
   subst hy
   rw[<- hX]at hq
   simp only[go_sem,p5,h0,length_map]
   exact hq _ (by simp only[go_sem,h0,length_map])
  .simp only[go_sem]
  .simp only[go_sem]
   exact⟨p5,[],rfl,rfl,rfl⟩
 .simp only[go_sem]
 .simp only[go_sem]
  rfl
theorem RM(t:A2)(ht:A7 t)(s:A8)(hs:GI s)(hf:B2 t s)(b:Nat){Q:VV->VH->Prop}:VP1 V AlK [vT t,HJ s] b Q↔Q (.sl b 0 0 (L9 t s).length) [some (if(L9 t s).length=0 then DT else⟨BT,1,0,false,(L9 t s).map EG⟩)]:=by
 refine JW ?_
 rw[JX C.c_z7.2]
 refine ST C t ht s hs hf fun F h=>?_
 generalize L9 t s=X at h ⊢
 cases X with
 |nil=>
  simp only[length_nil]at h
  simp only[Acb,go_sem,h,length_map,List.map_nil,length_nil,Bp]
  simp
 |cons x X=>
  have h0:AN BT 1 ((x::X).map EG) = ⟨BT,1,(x::X).length,false,(x::X).map EG⟩:=by
   unfold AN
   rw[if_neg (by simp),length_map]
  rw[h0]
  simp only[Acb,go_sem,h,length_map,Bp]
  simp
end
theorem AfX{t:A2}(ht:A7 t){s:A8}(hf:B2 t s):s.has≠[]:=by
 obtain⟨q,h1,_⟩:=ht.kinds
 obtain⟨a,_,_,b,_⟩:=h1 0 (by have:=ht.r1;omega)
 have hm:=LG ht hf (n:=q 0) (by omega) (by omega)
 intro h
 rw[h]at hm
 cases hm
theorem AjC{t:A2}(ht:A7 t){s:A8}{l:List Int}(h:l∈L9 t s):l≠[]:=by
 rw[L9,List.mem_map]at h
 obtain⟨w,hw,e⟩:=h
 intro h0
 rw[h0]at e
 have h1:=A60 ht _ w hw
 have hr:=ht.r1
 have hz:A9H t w=0:=by
  rw[A9H,List.length_eq_zero_iff,List.filter_eq_nil_iff]
  intro j _ hj
  rw[Bool.and_eq_true]at hj
  have:((j:Nat):Int)∈AC w:=B7.2 (by rw[Aq];exact hj.1)
  rw[e]at this
  cases this
 omega
theorem AeY{t:A2}(ht:A7 t){r:Rows}(h:r.length=t.nodes.length\/r=[]):r.length<=64:=by
 have:=ht.n64
 rcases h with h|h
 .omega
 .rw[h];simp
theorem JR.nil:JR ⟨[],[],[]⟩:=⟨by show([]:List Int).length<=1000;simp,by show([]:List Int).length<=1000;simp,by show([]:List (List Int)).length<=1000;simp,fun x hx=>by cases hx⟩
section
variable {V:Ai}(C:Am V)
include C
theorem Vj{Q:VV->Prop}{t:A2}(ht:A7 t)(e:AF)(he:JR e):VP V Adp [vT t,T5 e] Q↔Q (.b true):=by
 refine Af ?_
 rw[Ad C.c_z11.1 C.c_z11.2]
 have q1:=fun(Q:VV->Prop)=>A2I C ht e he (Q:=Q)
 have q2:=fun(Q:VV->Prop)=>P8 C ht e he (Q:=Q)
 have q3:=fun(Q:VV->Prop)=>Sr C ht e he (Q:=Q)
 have q4:=fun(Q:VV->Prop)=>Ks C ht e he (Q:=Q)
 have q5:=fun(Q:VV->Prop)=>A2J C ht e he (Q:=Q)
 have q6:=fun(Q:VV->Prop)=>P9 C ht e he (Q:=Q)
 have q7:=fun(Q:VV->Prop)=>A0v C ht e he (Q:=Q)
 have q8:=fun(Q:VV->Prop)=>Zr C ht e he (Q:=Q)
 have l1:(if Lb t e then JL t e else []).length<=64:=AeY ht (by
  split
  .exact .inl (by rw[PD ht e,Az])
  .exact .inr rfl)
 have l2:(if Lb t e then Ns t e else []).length<=64:=AeY ht (by
  split
  .exact .inl (by rw[Ns,Bi])
  .exact .inr rfl)
 obtain⟨R1,h0⟩:∃R1,R1=if Lb t e then JL t e else []:=⟨_,rfl⟩
 obtain⟨R2,h1⟩:∃R2,R2=if Lb t e then Ns t e else []:=⟨_,rfl⟩
 rw[<- h0]at q1 q2 l1
 rw[<- h1]at q5 q6 l2
 have s1:=fun(Q:VV->Prop)=>Kr C R1 l1 (Q:=Q)
 have s2:=fun(Q:VV->Prop)=>Kr C R2 l2 (Q:=Q)
 have h2:∀b:Bool,(b==b)=true:=fun b=>by cases b<;>rfl
 simp only[Aiu,go_sem,q1,q2,q3,q4,q5,q6,q7,q8,s1,s2,h2]
theorem law_ExecAll(hb:∀Q:VV->Prop,VP V Aa1 [] Q↔Q (.b true))(l m:List U8)(a f lc i k:Nat)(hl:∀x∈l,x.n<256)(hm:∀x∈m,x.n<256)
  (h1:a<256) (h2:f<256) (h3:lc<256) (h4:i<256) (h5:k<256) :
  VP V AlH [lU l,lU m,.i .u8 a,.i .u8 f,.i .u8 lc,.i .u8 i,.i .u8 k] fun x=>x=.b true:=by
 rw[Ad C.c_z0.1 C.c_z0.2]
 by_cases c1:(30:Int)<l.length
 .simp only[A9E,go_sem,hb,c1]
 by_cases c2:(60:Int)<m.length
 .simp only[A9E,go_sem,hb,c1,c2]
 obtain⟨_,⟨t,ok,rfl,ht⟩,qT⟩:=DJ (XD C l ⟨by omega,hl⟩)
 cases ok with
 |false=>simp only[A9E,go_sem,hb,c1,c2,qT]
 |true=>
 have ht:=(ht rfl).1
 have hg:=V9 ht m (m.length / 2)
 have qG:=fun(Q:VV->Prop)=>SA C t ht m (by omega) hm (Q:=Q)
 have hs:=hg.sz ht (by omega)
 have hf:=QD ht m (m.length / 2)
 obtain⟨s,hv⟩:∃s,s=DV t m (m.length / 2):=⟨_,rfl⟩
 rw[<- hv]at hg qG hs hf
 have qC:=fun(b:Nat) (Q:VV->VH->Prop)=>RM C t ht s hs hf b (Q:=Q)
 have hu:=AfB ht s
 have hY:∀y∈L9 t s++[s.has],y≠[]/\y.length<=1000:=fun y hy=>by
  rcases List.mem_append.1 hy with h|h
  .exact⟨AjC ht h,by have:=AfC h;omega⟩
  .rw[List.mem_singleton]at h
   subst h
   exact⟨AfX ht hf,hs.has⟩
 generalize L9 t s=X at qC hu hY
 obtain⟨Y,h6⟩:∃Y,Y=X++[s.has]:=⟨_,rfl⟩
 have hr:Y.length=X.length+1:=by rw[h6,length_append];rfl
 rw[<- h6]at hY
 have hw:∀Z:List (List Int),Z.map EG++[[lI s.has]]=(Z++[s.has]).map EG:=fun Z=>by simp
 have b1:(X.length+1) * 24<=A6:=by unfold A6;omega
 have h7:∀(Q:Ex->A3->VH->Prop),(∀F h,Q .norm F h)->∀F,(A3.tmp F 2=.i .u8 a/\A3.tmp F 3=.i .u8 f/\A3.tmp F 4=.i .u8 lc/\A3.tmp F 5=.i .u8 i/\A3.tmp F 6=.i .u8 k/\A3.tmp F 15=.p 0 0 0 0/\A3.tmp F 17=.p 1 0 0 0/\A3.tmp F 18=.sl 2 1 0 Y.length)/\A3.tmp F 19=.i .i64 0->VL V Ahj 0 AiQ F [some ⟨Lw,0,0,false,[eT t]⟩,some ⟨Ah,0,0,false,[Hd s]⟩,some ⟨BT,1,1,false,Y.map EG⟩] Q:=by
  intro Q hQ F hF
  have h0:=fun(e:AF) (he:JR e) (Q:VV->Prop)=>Vj C ht e he (Q:=Q)
  have hp:=fun(e:AF) (he:JR e) (Q:VV->Prop)=>Nz C e he (Q:=Q)
  refine Ab (by decide) (min Y.length 6) (by omega) (I:=fun j F h=>(A3.tmp F 2=.i .u8 a/\A3.tmp F 3=.i .u8 f/\A3.tmp F 4=.i .u8 lc/\A3.tmp F 5=.i .u8 i/\A3.tmp F 6=.i .u8 k/\A3.tmp F 15=.p 0 0 0 0/\A3.tmp F 17=.p 1 0 0 0/\A3.tmp F 18=.sl 2 1 0 Y.length)/\h=[some ⟨Lw,0,0,false,[eT t]⟩,some ⟨Ah,0,0,false,[Hd s]⟩,some ⟨BT,1,1,false,Y.map EG⟩]) ?_ ?_ ?_ 0 _ _ (zero_le _) ?_ ?_
  .rintro j F h hj hc ⟨⟨p2,p3,p4,p5,p6,h8,h9,ha⟩,rfl⟩
   cases d1:decide (j<Y.length)with
   |false=>
    have hi:=of_decide_eq_false d1
    have d2:decide (j<min Y.length 6)=false:=decide_eq_false (by omega)
    have hk:¬((j:Int)<(Y.length:Int)):=by omega
    simp only[go_sem,hc,p2,p3,p4,p5,p6,h8,h9,ha,hi,hk,d2]
   |true=>
    have hi:=of_decide_eq_true d1
    have hk:(j:Int)<(Y.length:Int):=by omega
    have d2:decide (j<min Y.length 6)=decide (j<6):=decide_eq_decide.2 (by omega)
    have d3:decide ((j:Int)<6)=decide (j<6):=decide_eq_decide.2 (by omega)
    simp only[go_sem,hc,p2,p3,p4,p5,p6,h8,h9,ha,hi,hk,d2,d3]
  .rintro j F h hj hc ⟨⟨p2,p3,p4,p5,p6,h8,h9,ha⟩,rfl⟩
   have hh:j<Y.length:=by omega
   have gY:=CT hh
   obtain⟨y0,yl⟩:=hY _ (Aa (d:=[]) hh)
   obtain⟨y,hy⟩:∃y,y=Y.getD j []:=⟨_,rfl⟩
   rw[<- hy]at gY y0 yl
   have q1:=fun(Q:VV->Prop)=>A9A C t ht s hs y yl y0 (Q:=Q)
   have q2:=fun(Q:VV->Prop)=>Zq C t ht s hs y yl (Q:=Q)
   have hn:∀b:Bool,(b==b)=true:=fun b=>by cases b<;>rfl
   cases ho:P7 t s y with
   |none=>
    rw[ho]at q1 q2
    have qn:∀(Q:VV->Prop),VP V A7K [.ag [.ls [],.ls [],.ls []],.ag [.ls [],.ls [],.ls []]] Q↔Q (.b true):=fun Q=>hp ⟨[],[],[]⟩ (JR.nil) Q
    simp only[go_sem,hc,p2,p3,p4,p5,p6,h8,h9,ha,gY,hh,q1,q2,vOf,qn,hn,length_map,A0]
   |some e=>
    have hd:=(AlN ht ho).1
    have X:=(Api ht ho).1
    rw[ho]at q1 q2
    have qS:=hp e hd
    have qA:=h0 e hd
    have hx:=fun(Q:VV->Prop)=>QP C ht X hd a f lc i k h1 h2 h3 h4 h5 (Q:=Q)
    have qB:=h0 _ (AjG (t:=t) hd a f lc i k)
    simp only[go_sem,hc,p2,p3,p4,p5,p6,h8,h9,ha,gY,hh,q1,q2,vOf,qS,qA,hx,qB,hn,length_map,A0]
  .rintro F h ⟨_,rfl⟩
   exact hQ _ _
  .exact hF.2
  .exact⟨hF.1,rfl⟩
 by_cases hX0:X.length=0
 .have hq:X=[]:=List.eq_nil_of_length_eq_zero hX0
  subst hq
  simp only[length_nil,↓reduceIte]at qC
  have b2:24<=A6:=by unfold A6;omega
  simp only[A9E,go_sem,hb,c1,c2,qT,qG,qC,b1,b2]
  rw[List.nil_append]at h6
  subst h6
  refine h7 _ (fun _ _=>trivial) _ ⟨⟨?_,?_,?_,?_,?_,?_,?_,?_⟩,?_⟩<;>simp only[go_sem]
 .simp only[hX0,↓reduceIte]at qC
  simp only[A9E,go_sem,hb,c1,c2,qT,qG,qC,b1,hw,length_map]
  subst h6
  refine h7 _ (fun _ _=>trivial) _ ⟨⟨?_,?_,?_,?_,?_,?_,?_,?_⟩,?_⟩<;>simp only[go_sem,hr]
end
end Go.AM
