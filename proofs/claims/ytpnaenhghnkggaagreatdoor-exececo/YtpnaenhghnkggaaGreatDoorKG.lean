/-
  Own work, part of the proof of these laws: what functions compute.
-/
import Derived.Test.YtpnaenhghnkggaaGreatDoorKF
set_option maxRecDepth 10000
set_option maxHeartbeats 64000000
set_option linter.unusedVariables false
set_option linter.unusedSimpArgs false
set_option linter.unusedSectionVars false
open Bool (and_eq_true false_eq_true)
open Int (toNat_natCast)
open List (take_length all_eq_true map_append)
namespace Go.AM
open Go Go.Proofs
section
variable {V:Ae} (C:Ai V) {Q:VV->Prop}
include C
theorem Rp (t:A1) (ht:A5 t) (s:A8) (hn:BX t s.has) (l:List Int) (hl:l.length<=1000) (loc:Int):VP V Wt [.fp (Yu t s) 0,lI l,.i .i64 loc] Q↔Q (.b (Ec t l s.has loc)):=by
 refine Ad ?_
 rw [Ab C.c_z166.1 C.c_z166.2]
 have hc:=ht.n64
 simp only [A1o,go_sem,↓reduceIte]
 refine Ac (by decide) l.length (by omega) (I:=fun k F h=>A2.tmp F 0 = .fp (Yu t s) 0/\A2.tmp F 1=lI l/\A2.tmp F 2 = .i .i64 loc/\A2.tmp F 9=lI l/\h=[]/\∀ j,j < k->DN t l s.has loc j=true) ?_ ?_ 0 _ _ (by omega) ?_ ?_ ?_
 .rintro k F h hk h3 h2 ⟨p0,p1,p2,p9,rfl,p3⟩
  have h4:DN t l s.has loc k=false->false=Ec t l s.has loc:=fun h=>by rw [Ec,AW hk h];rfl
  have hw:=fun (n loc:Int) (Q:VV->Prop)=>Hd C t ht s hn n loc (Q:=Q)
  cases c1:Bd t s.has (l.getD k 0) loc with
  | false =>
   simp only [go_sem,↓reduceIte,h3,h2,p0,p1,p2,p9,Ar hk,hk,hw,c1,A0]
   exact h4 (by rw [DN,c1];rfl)
  | true =>
  have h9:AZ s.has (l.getD k 0)=true:=by simp only [Bd,and_eq_true] at c1;exact c1.1
  obtain ⟨m,h0,hm⟩:=Aa (hn _ (A7.1 h9))
  have e0:DN t l s.has loc k=(decide (0<=(t.at m).thread) && CB l k && (!decide (1 < l.length) || CI (t.at m)) && (decide (k=0) || (l.take k).all fun x=>AN t m x)):=by
   unfold DN;rw [c1,h0,toNat_natCast];rfl
  have h1:CB l k=(decide (k=0) || decide (l.getD (k - 1) 0 < (m:Int))):=by rw [CB,h0]
  rw [h0] at c1
  cases c2:decide ((t.at m).thread < 0) with
  | true =>
   simp only [go_sem,↓reduceIte,h3,h2,p0,p1,p2,p9,Ar hk,hk,hw,c1,A0,h0,A6 hm,c2]
   have:decide (0<=(t.at m).thread)=false:=by have:=of_decide_eq_true c2;exact decide_eq_false (by omega)
   exact h4 (by rw [e0,this];rfl)
  | false =>
  have ha:decide (0<=(t.at m).thread)=true:=by have:=of_decide_eq_false c2;exact decide_eq_true (by omega)
  rw [ha,Bool.true_and] at e0
  have pl:∀ b,decide ((1:Int) < l.length)=b->decide (1 < l.length)=b:=fun b h=>by rw [<- h];congr 1;exact propext ⟨fun h=>by omega,fun h=>by omega⟩
  by_cases z:k=0
  .subst z
   have r0:CB l 0=true:=by rw [h1];rfl
   rw [r0,Bool.true_and] at e0
   cases c5:decide ((1:Int) < l.length) with
   | false =>
    rw [pl _ c5] at e0
    simp only [go_sem,↓reduceIte,h3,h2,p0,p1,p2,p9,Ar hk,hk,hw,c1,A0,h0,A6 hm,c2,c5,dz0]
    exact EK p3 (by rw [e0];rfl)
   | true =>
    rw [pl _ c5] at e0
    cases c6:CI (t.at m) with
    | false =>
     simp only [go_sem,↓reduceIte,h3,h2,p0,p1,p2,p9,Ar hk,hk,hw,c1,A0,h0,A6 hm,c2,c5,c6,dz0,BP C]
     exact h4 (by rw [e0,c6];rfl)
    | true =>
     simp only [go_sem,↓reduceIte,h3,h2,p0,p1,p2,p9,Ar hk,hk,hw,c1,A0,h0,A6 hm,c2,c5,c6,dz0,BP C]
     exact EK p3 (by rw [e0,c6];rfl)
  .have z0:decide ((0:Int) < (k:Int))=true:=decide_eq_true (by omega)
   have h5:k - 1 < l.length:=by omega
   have zw:=Gy (show 0 < k by omega) (by omega)
   have h6:decide ((1:Int) < l.length)=true:=decide_eq_true (by omega)
   rw [pl _ h6,decide_eq_false z,Bool.false_or] at e0
   rw [decide_eq_false z,Bool.false_or] at h1
   have hb:BX t (l.take k):=by
    intro x hx
    obtain ⟨j,hj,rfl⟩:=List.mem_iff_getElem.1 hx
    rw [List.length_take] at hj
    rw [List.getElem_take]
    have:=p3 j (by omega)
    simp only [DN,Bd,and_eq_true] at this
    have:=hn _ (A7.1 this.1.1.1.1.1)
    rw [List.getD_eq_getElem?_getD,List.getElem?_eq_getElem (by omega)] at this
    exact this
   have h8:k<=l.length:=by omega
   have h7:=fun (Q:VV->Prop)=>Rq C t ht s m hm (l.take k) (by rw [List.length_take];omega) hb (Q:=Q)
   cases c4:decide ((m:Int)<=l.getD (k - 1) 0) with
   | true =>
    have r1:CB l k=false:=by rw [h1];have:=of_decide_eq_true c4;exact decide_eq_false (by omega)
    simp only [go_sem,↓reduceIte,h3,h2,p0,p1,p2,p9,Ar hk,Ar h5,hk,hw,c1,A0,h0,A6 hm,c2,z0,zw,c4]
    exact h4 (by rw [e0,r1];rfl)
   | false =>
    have r1:CB l k=true:=by rw [h1];have:=of_decide_eq_false c4;exact decide_eq_true (by omega)
    rw [r1,Bool.true_and] at e0
    cases c6:CI (t.at m) with
    | false =>
     simp only [go_sem,↓reduceIte,h3,h2,p0,p1,p2,p9,Ar hk,Ar h5,hk,hw,c1,A0,h0,A6 hm,c2,z0,zw,c4,h6,c6,BP C]
     exact h4 (by rw [e0,c6];rfl)
    | true =>
     rw [c6,Bool.or_true,Bool.true_and] at e0
     cases c7:(l.take k).all fun x=>AN t m x with
     | false =>
      simp only [go_sem,↓reduceIte,h3,h2,p0,p1,p2,p9,Ar hk,Ar h5,hk,hw,c1,A0,h0,A6 hm,c2,z0,zw,c4,h6,c6,BP C,h7,c7,h8]
      exact h4 (by rw [e0];exact c7)
     | true =>
      simp only [go_sem,↓reduceIte,h3,h2,p0,p1,p2,p9,Ar hk,Ar h5,hk,hw,c1,A0,h0,A6 hm,c2,z0,zw,c4,h6,c6,BP C,h7,c7,h8]
      exact EK p3 (by rw [e0];exact c7)
 .rintro F h ⟨p0,p1,p2,p9,rfl,p3⟩
  simp only [go_sem,↓reduceIte,p0,p1,p2,p9]
  rw [Ec,AS p3]
  simp
 .simp only [go_sem,↓reduceIte]
 .simp only [go_sem,↓reduceIte]
 .simp only [go_sem,↓reduceIte]
  intro j hj;omega
theorem Rr (t:A1) (ht:A5 t) (s:A8) (hs:KZ s):VP V Zs [.fp (Yu t s) 0] Q↔Q (.b (C0 t s.has)):=by
 refine Ad ?_
 rw [Ab C.c_z96.1 C.c_z96.2]
 have h8:=ht.n64
 have hh:=hs.has
 generalize hl:s.has=l at *
 simp only [A9a,go_sem,↓reduceIte,hl]
 refine Ac (by decide) l.length (by omega) (I:=fun k F h=>A2.tmp F 0 = .fp (Yu t s) 0/\A2.tmp F 10=lI l/\h=[]/\∀ j,j < k->BY t l j=true) ?_ ?_ 0 _ _ (by omega) ?_ ?_ ?_
 .rintro k F h hk h3 h2 ⟨p0,h0,rfl,p3⟩
  have h4:BY t l k=false->false=C0 t l:=fun h=>by rw [C0,AW hk h];rfl
  cases c0:BF t (l.getD k 0) with
  | false =>
   have cc:decide (l.getD k 0 < 0)=true\/(decide (l.getD k 0 < 0)=false/\decide ((t.nodes.length:Int)<=l.getD k 0)=true):=by
    simp only [BF,Bool.and_eq_false_iff,decide_eq_false_iff_not] at c0
    by_cases d:l.getD k 0 < 0
    .exact .inl (decide_eq_true d)
    .exact .inr ⟨decide_eq_false d,decide_eq_true (by omega)⟩
   rcases cc with cc | ⟨cc,cc2⟩
   .simp only [go_sem,↓reduceIte,h3,h2,p0,h0,Ar hk,hk,cc,A0,hl]
    exact h4 (by rw [BY,c0];rfl)
   .simp only [go_sem,↓reduceIte,h3,h2,p0,h0,Ar hk,hk,cc,cc2,A0,hl]
    exact h4 (by rw [BY,c0];rfl)
  | true =>
  obtain ⟨m,h1,hm⟩:=Aa c0
  have q1:decide ((m:Int) < 0)=false:=decide_eq_false (by omega)
  have q2:decide ((t.nodes.length:Int)<=m)=false:=decide_eq_false (by omega)
  have q3:decide (t.nodes.length<=m)=false:=decide_eq_false (by omega)
  have h9:=ht.up m hm
  have e0:BY t l k=(CB l k && (decide ((t.at m).up < 0) || AZ l (t.at m).up)):=by
   unfold BY;rw [c0,h1,toNat_natCast,Bool.true_and]
  have h5:CB l k=(decide (k=0) || decide (l.getD (k - 1) 0 < (m:Int))):=by rw [CB,h1]
  have h7:(decide (0<=(t.at m).up)=true/\decide ((t.at m).up < 0)=false/\BG (BA l) (t.at m).up=AZ l (t.at m).up)\/(decide (0<=(t.at m).up)=false/\decide ((t.at m).up < 0)=true):=by
   by_cases d:0<=(t.at m).up
   .exact .inl ⟨decide_eq_true d,decide_eq_false (by omega),EW l d (by omega)⟩
   .exact .inr ⟨decide_eq_false d,decide_eq_true (by omega)⟩
  have zc:(decide ((0:Int) < (k:Int))=false/\CB l k=true)\/(decide ((0:Int) < (k:Int))=true/\0 < k/\CB l k=decide (l.getD (k - 1) 0 < (m:Int))):=by
   by_cases z:k=0
   .subst z;exact .inl ⟨rfl,by rw [h5];rfl⟩
   .exact .inr ⟨decide_eq_true (by omega),by omega,by rw [h5,decide_eq_false z,Bool.false_or]⟩
  rcases zc with ⟨z0,r1⟩ | ⟨z0,zp,r0⟩
  .rw [r1,Bool.true_and] at e0
   rcases h7 with ⟨u1,u2,u3⟩ | ⟨u1,u2⟩
   .rw [u2,Bool.false_or] at e0
    cases c5:AZ l (t.at m).up with
    | false =>
     simp only [go_sem,↓reduceIte,h3,h2,p0,h0,Ar hk,hk,h1,q1,q2,q3,z0,A6 hm,u1,u3,c5,A0,AD C,hl]
     exact h4 (by rw [e0,c5])
    | true =>
     simp only [go_sem,↓reduceIte,h3,h2,p0,h0,Ar hk,hk,h1,q1,q2,q3,z0,A6 hm,u1,u3,c5,A0,AD C,hl]
     exact EK p3 (by rw [e0,c5])
   .simp only [go_sem,↓reduceIte,h3,h2,p0,h0,Ar hk,hk,h1,q1,q2,q3,z0,A6 hm,u1,A0,AD C,hl]
    exact EK p3 (by rw [e0,u2];rfl)
  .have h6:k - 1 < l.length:=by omega
   have zw:=Gy zp (by omega)
   cases c4:decide ((m:Int)<=l.getD (k - 1) 0) with
   | true =>
    have r1:CB l k=false:=by rw [r0];have:=of_decide_eq_true c4;exact decide_eq_false (by omega)
    simp only [go_sem,↓reduceIte,h3,h2,p0,h0,Ar hk,Ar h6,hk,h1,q1,q2,q3,z0,zw,c4,A0,hl]
    exact h4 (by rw [e0,r1];rfl)
   | false =>
    have r1:CB l k=true:=by rw [r0];have:=of_decide_eq_false c4;exact decide_eq_true (by omega)
    rw [r1,Bool.true_and] at e0
    rcases h7 with ⟨u1,u2,u3⟩ | ⟨u1,u2⟩
    .rw [u2,Bool.false_or] at e0
     cases c5:AZ l (t.at m).up with
     | false =>
      simp only [go_sem,↓reduceIte,h3,h2,p0,h0,Ar hk,Ar h6,hk,h1,q1,q2,q3,z0,zw,c4,A6 hm,u1,u3,c5,A0,AD C,hl]
      exact h4 (by rw [e0,c5])
     | true =>
      simp only [go_sem,↓reduceIte,h3,h2,p0,h0,Ar hk,Ar h6,hk,h1,q1,q2,q3,z0,zw,c4,A6 hm,u1,u3,c5,A0,AD C,hl]
      exact EK p3 (by rw [e0,c5])
    .simp only [go_sem,↓reduceIte,h3,h2,p0,h0,Ar hk,Ar h6,hk,h1,q1,q2,q3,z0,zw,c4,A6 hm,u1,A0,AD C,hl]
     exact EK p3 (by rw [e0,u2];rfl)
 .rintro F h ⟨p0,h0,rfl,p3⟩
  have s1:=fun (Q:VV->Prop)=>XN C t ht (Q:=Q)
  simp only [go_sem,↓reduceIte,p0,h0,s1,H7 C,hl]
  rw [C0,AS p3,A7B,Bool.true_and]
 .simp only [go_sem,↓reduceIte,hl]
 .simp only [go_sem,↓reduceIte,hl]
 .simp only [go_sem,↓reduceIte,hl]
  intro j hj;omega
theorem LO (t:A1) (ht:A5 t) (s:A8) (hs:KZ s) (hn:BX t s.has):VP V Zt [.fp (Yu t s) 0] Q↔Q (.b (Kl t s)):=by
 refine Ad ?_
 rw [Ab C.c_z97.1 C.c_z97.2]
 have hc:=ht.n64
 have hh:=hs.has
 by_cases c2:¬ s.jf.length=s.has.length
 .have ha:¬ (s.jf.length:Int)=s.has.length:=by omega
  simp only [A3T,go_sem,↓reduceIte,ha]
  rw [Kl,decide_eq_false c2];rfl
 have c2:=Decidable.not_not.1 c2
 have ha:(s.jf.length:Int)=s.has.length:=by omega
 simp only [A3T,go_sem,↓reduceIte,ha]
 refine Ac (by decide) s.has.length (by omega) (I:=fun k F h=>A2.tmp F 0 = .fp (Yu t s) 0/\A2.tmp F 24=lI s.has/\h=[]/\∀ j,j < k->Gi t s j=true) ?_ ?_ 0 _ _ (by omega) ?_ ?_ ?_
 .rintro k F h hk h7 h6 ⟨p0,h1,rfl,p3⟩
  have h9:Gi t s k=false->false=Kl t s:=fun h=>by rw [Kl,AW hk h,Bool.and_false]
  have h0:k < s.jf.length:=by omega
  have hw:=fun (n loc:Int) (Q:VV->Prop)=>Hd C t ht s hn n loc (Q:=Q)
  obtain ⟨n,h2,h4⟩:=Aa (hn _ (Af (d:=0) hk))
  have h3:Gi t s k=if (t.at n).kind=2 then AZ s.has (s.jf.getD k 0) && EV t (s.jf.getD k 0) (t.at n).loc && decide ((t.at (s.jf.getD k 0).toNat).val=(t.at n).val) else decide (s.jf.getD k 0 = -1):=by
   unfold Gi;rw [h2,toNat_natCast]
  by_cases k2:(t.at n).kind=2
  .rw [if_pos k2] at h3
   cases w1:Bd t s.has (s.jf.getD k 0) (t.at n).loc with
   | false =>
    simp only [go_sem,↓reduceIte,h7,h6,p0,h1,Ar hk,hk,Ar h0,h0,h2,A6 h4,k2,hw,w1,A0]
    exact h9 (by rw [h3,show (AZ s.has (s.jf.getD k 0) && EV t (s.jf.getD k 0) (t.at n).loc)=Bd t s.has (s.jf.getD k 0) (t.at n).loc from rfl,w1];rfl)
   | true =>
   have w2:AZ s.has (s.jf.getD k 0)=true:=by simp only [Bd,and_eq_true] at w1;exact w1.1
   obtain ⟨m,h8,hb⟩:=Aa (hn _ (A7.1 w2))
   have h5:Gi t s k=decide ((t.at m).val=(t.at n).val):=by
    rw [h3,show (AZ s.has (s.jf.getD k 0) && EV t (s.jf.getD k 0) (t.at n).loc)=Bd t s.has (s.jf.getD k 0) (t.at n).loc from rfl,w1,h8,toNat_natCast,Bool.true_and]
   rw [h8] at w1
   cases x3:decide ((t.at m).val=(t.at n).val) with
   | false =>
    simp only [go_sem,↓reduceIte,h7,h6,p0,h1,Ar hk,hk,Ar h0,h0,h2,A6 h4,k2,hw,w1,h8,A6 hb,x3,A0]
    exact h9 (by rw [h5,x3])
   | true =>
    simp only [go_sem,↓reduceIte,h7,h6,p0,h1,Ar hk,hk,Ar h0,h0,h2,A6 h4,k2,hw,w1,h8,A6 hb,x3,A0]
    exact EK p3 (by rw [h5,x3])
  .rw [if_neg k2] at h3
   cases w1:decide (s.jf.getD k 0 = -1) with
   | false =>
    simp only [go_sem,↓reduceIte,h7,h6,p0,h1,Ar hk,hk,Ar h0,h0,h2,A6 h4,k2,w1,A0]
    exact h9 (by rw [h3,w1])
   | true =>
    simp only [go_sem,↓reduceIte,h7,h6,p0,h1,Ar hk,hk,Ar h0,h0,h2,A6 h4,k2,w1,A0]
    exact EK p3 (by rw [h3,w1])
 .rintro F h ⟨p0,h1,rfl,p3⟩
  simp only [go_sem,↓reduceIte,p0,h1]
  rw [Kl,decide_eq_true c2,AS p3];rfl
 .simp only [go_sem,↓reduceIte]
 .simp only [go_sem,↓reduceIte]
 .simp only [go_sem,↓reduceIte]
  intro j hj;omega
end
abbrev hAl (i:Nat) (l:List Int):VH:=[some ⟨Bg,1,i,false,l.map eI⟩]
theorem A3Z:∀ (l:List (List Int)),(∀ c∈l,c.length<=1000)->l.flatten.length<=1000 * l.length:=by
 intro l
 induction l with
 | nil=>intro _;simp
 | cons c l ih =>
  intro h
  have h1:=h c List.mem_cons_self
  have h2:=ih fun d hd=>h d (List.mem_cons_of_mem _ hd)
  rw [List.flatten_cons,List.length_append,List.length_cons]
  omega
theorem A7f (L:Nat) (l:List Int):(l.map eI).all (CA L)=true:=by
 rw [all_eq_true]
 intro r hr
 obtain ⟨x,_,rfl⟩:=List.mem_map.1 hr
 rfl
section
variable {V:Ae} (C:Ai V) {Q:VV->Prop}
include C
theorem Qy (t:A1) (ht:A5 t) (s:A8) (hs:KZ s) (hn:BX t s.has):VP V Zu [.fp (Yu t s) 0] Q↔Q (.b (DT t s)):=by
 refine Ad ?_
 rw [Ab C.c_z98.1 C.c_z98.2]
 have qd:=ht.n64
 have hh:=hs.has
 have qi:=hs.mo
 by_cases c2:¬ s.mo.length=t.locs.length
 .have ha:¬ (s.mo.length:Int)=t.locs.length:=by omega
  simp only [A3U,go_sem,↓reduceIte,ha]
  rw [DT,decide_eq_false c2];rfl
 have c2:=Decidable.not_not.1 c2
 have ha:(s.mo.length:Int)=t.locs.length:=by omega
 simp only [A3U,go_sem,↓reduceIte,ha]
 refine Ac (by decide) s.mo.length (by omega) (I:=fun k F h=>A2.tmp F 0 = .fp (Yu t s) 0/\A2.tmp F 28 = .ls (s.mo.map ES)/\h=[]/\∀ j,j < k->Kp t s j=true) ?_ ?_ 0 _ _ (by omega) ?_ ?_ ?_
 .rintro k F h hk h6 h5 ⟨p0,h3,rfl,p3⟩
  have h8:Kp t s k=false->false=DT t s:=fun h=>by rw [DT,AW hk h,Bool.and_false]
  have qh:=hs.mi' k
  have hu:=hs.mc' k
  have ho:=Cx hk
  generalize hm:s.mo.getD k []=m at *
  by_cases z:m.length=0
  .have z':(m.length:Int)=0:=by omega
   simp only [go_sem,↓reduceIte,h6,h5,p0,h3,ho,hk,z',A0]
   exact h8 (by simp only [Kp,hm,z];simp)
  have z':¬ (m.length:Int)=0:=by omega
  have z0:0 < m.length:=by omega
  have hr:∀ (Q:VV->Prop),VP V Zl [.ls ((m.getD 0 []).map eI),.ls [[.i .i64 k]]] Q↔Q (.b (decide (m.getD 0 []=[(k:Int)]))):=fun Q=>JG C (m.getD 0 []) [(k:Int)] (by have:=hu 0;omega) (Q:=Q)
  cases z3:decide (m.getD 0 []=[(k:Int)]) with
  | false =>
   simp only [go_sem,↓reduceIte,h6,h5,p0,h3,ho,hk,z',Ep z0,hr,z3,A0]
   exact h8 (by simp only [Kp,hm,z3,Bool.and_false,Bool.false_and])
  | true =>
  have hN:1<=m.length:=z0
  obtain ⟨D,hD⟩:∃ D,D=m.drop 1:=⟨_,rfl⟩
  have q6:D.length=m.length - 1:=by rw [hD,List.length_drop]
  have qa:(m.drop 1).take (m.length - 1)=D:=by rw [<- hD,List.take_of_length_le (by omega)]
  have hp:min (m.length - 1) (m.length - 1)=D.length:=by rw [Nat.min_self,q6]
  have hl:∀ c∈D,c.length<=1000:=by
   intro c hc
   obtain ⟨i,hi,rfl⟩:=List.mem_iff_getElem.1 (List.mem_of_mem_drop (hD ▸ hc))
   have:=hu i
   rw [List.getD_eq_getElem?_getD,List.getElem?_eq_getElem hi] at this
   exact this
  have h4:Ke m k=(k:Int)::D.flatten:=by rw [Ke,hD]
  have hd:Kp t s k=(D.all (fun c=>Ec t c s.has k) && decide ((Ke m k).length=EO t s k) && decide ((Bw (BA (Ke m k))).length=EO t s k)):=by
   simp only [Kp,hm,z3,decide_eq_false z,Bool.not_false,Bool.true_and,<- hD]
  simp only [go_sem,↓reduceIte,h6,h5,p0,h3,ho,hk,z',Ep z0,hr,z3,hN,qa,hp,A0]
  refine Ac (by decide) D.length (by omega) (I:=fun i F h=>A2.tmp F 0 = .fp (Yu t s) 0/\A2.tmp F 28 = .ls (s.mo.map ES)/\A2.tmp F 3 = .i .i64 k/\A2.tmp F 30 = .i .i64 k/\A2.tmp F 29 = .i .i64 s.mo.length/\A2.tmp F 50 = .ls (D.map M5)/\A2.tmp F 5 = .sl 0 i 0 ((D.take i).flatten.length+1)/\h=hAl i ((k:Int)::(D.take i).flatten)/\∀ (j:Nat) (hj:j < D.length),j < i->Ec t D[j] s.has k=true) ?_ ?_ 0 _ _ (by omega) ?_ ?_ ?_
  .rintro i F h hi hz hy ⟨q0,h0,q3,h2,h1,hf,q5,rfl,q4⟩
   have q7:=hl _ (List.getElem_mem hi)
   have hq:=fun (Q:VV->Prop)=>Rp C t ht s hn D[i] q7 k (Q:=Q)
   have h9:D[i]? = some D[i]:=List.getElem?_eq_getElem hi
   have qb:=A3Z (D.take i) (fun c hc=>hl c (List.mem_of_mem_take hc))
   rw [List.length_take] at qb
   have b1:((D.take i).flatten.length+1+D[i].length) * 8<=A9:=by unfold A9;omega
   have he:(D.take (i+1)).flatten=(D.take i).flatten++D[i]:=by rw [List.take_succ_eq_append_getElem hi,List.flatten_append];simp
   cases c4:Ec t D[i] s.has k with
   | false =>
    simp only [go_sem,↓reduceIte,hz,hy,q0,h0,q3,h2,h1,hf,q5,hi,h9,hq,c4,A0]
    exact h8 (by rw [hd,show D.all (fun c=>Ec t c s.has k)=false from List.all_eq_false.2 ⟨D[i],List.getElem_mem hi,by rw [c4];simp⟩];rfl)
   | true =>
    simp only [go_sem,↓reduceIte,hz,hy,q0,h0,q3,h2,h1,hf,q5,hi,h9,hq,c4,b1,he,A0]
    obtain ⟨y,ys,qc⟩:∃ y ys,D[i]=y::ys:=by
     cases h:D[i] with
     | nil=>rw [h] at c4;simp [Ec] at c4
     | cons y ys=>exact ⟨y,ys,rfl⟩
    have e1:(List.map eI D[i])=eI y::List.map eI ys:=by rw [qc];rfl
    have e2:eI (k:Int)::(List.map eI (List.take i D).flatten++List.map eI D[i])=((k:Int)::((List.take i D).flatten++D[i])).map eI:=by rw [List.map_cons,map_append]
    rw [e2,e1]
    refine ⟨⟨.inr (fun x hx=>by cases hx;exact A7f _ _),trivial⟩,?_,rfl,?_⟩
    .show VV.sl 0 (i+1) 0 ((List.take i D).flatten.length+1+D[i].length)=_
     congr 1;omega
    .intro j hj qf
     by_cases e:j=i
     .subst e;exact c4
     .exact q4 j hj (by omega)
  .rintro F h ⟨q0,h0,q3,h2,h1,hf,q5,rfl,q4⟩
   have q9:D.all (fun c=>Ec t c s.has k)=true:=by
    rw [all_eq_true]
    intro c hc
    obtain ⟨j,hj,rfl⟩:=List.mem_iff_getElem.1 hc
    exact q4 j hj hj
   rw [take_length] at q5
   simp only [go_sem,↓reduceIte,q0,h0,q3,h2,h1,hf,q5,take_length]
   rw [<- h4]
   refine Ac (by decide) s.has.length (by omega) (I:=fun i F h=>A2.tmp F 0 = .fp (Yu t s) 0/\A2.tmp F 28 = .ls (s.mo.map ES)/\A2.tmp F 3 = .i .i64 k/\A2.tmp F 30 = .i .i64 k/\A2.tmp F 29 = .i .i64 s.mo.length/\A2.tmp F 69=lI s.has/\A2.tmp F 5 = .sl 0 D.length 0 (Ke m k).length/\h=hAl D.length (Ke m k)/\A2.tmp F 8 = .i .i64 (((s.has.take i).filter fun n=>Bd t s.has n k).length:Nat)) ?_ ?_ 0 _ _ (by omega) ?_ ?_ ?_
   .rintro i F h hi q2 q1 ⟨q0,h0,q3,h2,h1,h7,q5,rfl,q8⟩
    have hw:=fun (n loc:Int) (Q:VV->Prop)=>Hd C t ht s hn n loc (Q:=Q)
    have h9:s.has[i]? = some s.has[i]:=List.getElem?_eq_getElem hi
    have he:s.has.take (i+1)=s.has.take i++[s.has[i]]:=List.take_succ_eq_append_getElem hi
    cases c4:Bd t s.has s.has[i] k with
    | false =>
     simp only [go_sem,↓reduceIte,q2,q1,q0,h0,q3,h2,h1,h7,q5,q8,hi,h9,hw,c4,A0]
     have e:[s.has[i]].filter (fun n=>Bd t s.has n k)=[]:=by rw [List.filter_cons,c4];rfl
     rw [he,List.filter_append,e,List.append_nil]
    | true =>
     have qg:((s.has.take i).filter fun n=>Bd t s.has n k).length<=1000:=Nat.le_trans (List.length_filter_le _ _) (by rw [List.length_take];omega)
     have w1:=EN (show ((s.has.take i).filter fun n=>Bd t s.has n k).length < 9223372036854775807 by omega)
     simp only [go_sem,↓reduceIte,q2,q1,q0,h0,q3,h2,h1,h7,q5,q8,hi,h9,hw,c4,w1,A0]
     have e:[s.has[i]].filter (fun n=>Bd t s.has n k)=[s.has[i]]:=by rw [List.filter_cons,c4];rfl
     rw [he,List.filter_append,e,List.length_append];rfl
   .rintro F h ⟨q0,h0,q3,h2,h1,h7,q5,rfl,q8⟩
    rw [take_length,show (s.has.filter fun n=>Bd t s.has n k).length=EO t s k from rfl] at q8
    have qe:(Ke m k).length<=1000000000:=by
     have:=A3Z D hl
     rw [h4,List.length_cons];omega
    have hv:=fun (Q:VV->Prop)=>CN C (Ke m k) (by omega) (Q:=Q)
    by_cases c7:(Ke m k).length=EO t s k
    .have hb:((Ke m k).length:Int)=EO t s k:=by omega
     by_cases c8:(Bw (BA (Ke m k))).length=EO t s k
     .have hg:((Bw (BA (Ke m k))).length:Int)=EO t s k:=by omega
      simp only [go_sem,↓reduceIte,q0,h0,q3,h2,h1,h7,q5,q8,hb,hv,Hz C,hg,hAl,take_length]
      exact EK p3 (by rw [hd,q9,decide_eq_true c7,decide_eq_true c8];rfl)
     .have hg:¬ ((Bw (BA (Ke m k))).length:Int)=EO t s k:=by omega
      simp only [go_sem,↓reduceIte,q0,h0,q3,h2,h1,h7,q5,q8,hb,hv,Hz C,hg,hAl,take_length]
      exact h8 (by rw [hd,decide_eq_false c8,Bool.and_false])
    .have hb:¬ ((Ke m k).length:Int)=EO t s k:=by omega
     simp only [go_sem,↓reduceIte,q0,h0,q3,h2,h1,h7,q5,q8,hb]
     exact h8 (by rw [hd,decide_eq_false c7,Bool.and_false,Bool.false_and])
   .simp only [go_sem,↓reduceIte,q0,h0,q3,h2,h1,q5]
   .simp only [go_sem,↓reduceIte,q0,h0,q3,h2,h1,q5]
   .simp only [go_sem,↓reduceIte,q0,h0,q3,h2,h1,q5]
    rw [h4];rfl
  .simp only [go_sem,↓reduceIte,h6,h5,p0,h3]
  .simp only [go_sem,↓reduceIte,h6,h5,p0,h3]
  .simp only [go_sem,↓reduceIte,h6,h5,p0,h3]
   exact ⟨rfl,rfl,fun j hj h=>by omega⟩
 .rintro F h ⟨p0,h3,rfl,p3⟩
  simp only [go_sem,↓reduceIte,p0,h3]
  rw [DT,decide_eq_true c2,AS p3];rfl
 .simp only [go_sem,↓reduceIte]
 .simp only [go_sem,↓reduceIte]
  exact ha.symm
 .simp only [go_sem,↓reduceIte]
  intro j hj;omega
end
abbrev PD (t:A1) (s:A8):VV:=.ls [[.f Zs [.fp (Yu t s) 0] []],[.f Zt [.fp (Yu t s) 0] []],[.f Zu [.fp (Yu t s) 0] []]]
section
variable {V:Ae} (C:Ai V) {Q:VV->Prop}
include C
theorem ZW (s:A8) (hs:KZ s):VP V A5d [LX s] Q↔Q (vW (BA s.has)):=by
 refine Ad ?_
 rw [Ab C.c_z42.1 C.c_z42.2]
 have:=hs.has
 simp only [A8R,go_sem,↓reduceIte,CN C s.has (by omega)]
theorem A33 (s:A8) (hs:KZ s) (n:Int):VP V A5f [LX s,.i .i64 n] Q↔Q (.i .i64 (JY s n)):=by
 refine Ad ?_
 rw [Ab C.c_z46.1 C.c_z46.2]
 have hh:=hs.has
 have h0:=fun (Q:VV->Prop)=>AK C s.has n (by omega) (Q:=Q)
 cases c:AZ s.has n with
 | false =>
  have e:C7 (fun y=>decide (n=y)) s.has = -1:=AaU c
  simp only [YD,go_sem,↓reduceIte,h0,e]
  rw [JY,if_pos (.inl (by show C7 (fun y=>decide (n=y)) s.has < 0;rw [e];decide))]
 | true =>
  obtain ⟨k,e,hk,_,_⟩:=BV c
  have e':C7 (fun y=>decide (n=y)) s.has=k:=e
  have q1:decide ((k:Int) < 0)=false:=decide_eq_false (by omega)
  by_cases c2:s.jf.length<=k
  .simp only [YD,go_sem,↓reduceIte,h0,e',q1,c2]
   rw [JY,if_pos (.inr (by rw [e];omega))]
  .have h1:k < s.jf.length:=by omega
   simp only [YD,go_sem,↓reduceIte,h0,e',q1,c2,Ar h1]
   rw [JY,if_neg (by rw [e];omega),e,toNat_natCast]
theorem Qx (c:List Int) (hc:c.length < 9223372036854775807) (w:Int):VP V PE [lI c,.fp [.i .i64 w] 0] Q↔Q (.b (AZ c w)):=by
 refine Ad ?_
 rw [Ab C.c_z103.1 C.c_z103.2]
 simp only [A0R,go_sem,↓reduceIte,Gt C c w hc]
 rfl
theorem fzW (w:Int):Fz [.fp [.i .i64 w] 0]:=fun _ _=>rfl
theorem Ro (s:A8) (hs:KZ s) (loc w:Int):VP V A5g [LX s,.i .i64 loc,.i .i64 w] Q↔Q (.i .i64 (B5 s loc w)):=by
 refine Ad ?_
 rw [Ab C.c_z47.1 C.c_z47.2]
 unfold B5
 by_cases h0:loc < 0
 .simp only [YE,go_sem,↓reduceIte,h0]
 .obtain ⟨k,rfl⟩:=Int.eq_ofNat_of_zero_le (by omega:0<=loc)
  by_cases h1:s.mo.length<=k
  .simp only [YE,go_sem,↓reduceIte,h0,h1]
  .have hk:k < s.mo.length:=by omega
   have hl:=hs.mi' k
   have h2:=fun (Q:VV->Prop)=>Ew C (s.mo.getD k []) (by omega) (g:=PE) Fz.nil (fzW C w) (fun c=>AZ c w) (fun x hx=>by
    have:x.length<=1000:=hs.mc _ (Af hk) x hx
    exact (Qx C x (by omega) w).2 rfl) (Q:=Q)
   simp only [YE,go_sem,↓reduceIte,h0,h1,Cx hk,h2]
theorem ZV (t:A1) (ht:A5 t) (s:A8) (hs:KZ s):VP V RT [vT t,LX s] Q↔Q (.b (C0 t s.has && Kl t s && DT t s)):=by
 refine Ad ?_
 rw [Ab C.c_z40.1 C.c_z40.2]
 have s1:=fun (Q:VV->Prop)=>Mg C t ht (Q:=Q)
 have s2:=fun (Q:VV->Prop)=>A34 C t ht s hs (Q:=Q)
 have s3:=fun (Q:VV->Prop)=>Rr C t ht s hs (Q:=Q)
 simp only [A8P,go_sem,↓reduceIte,s1,s2]
 refine Ac (by decide) 3 (by omega) (I:=fun k F h=>A2.tmp F 20=PD t s/\h=[]/\(1<=k->C0 t s.has=true)/\(2<=k->Kl t s=true)/\(3<=k->DT t s=true)) ?_ ?_ 0 _ _ (by omega) ?_ ?_ ?_
 .rintro k F h hk h5 h4 ⟨h0,rfl,h1,h2,h3⟩
  rcases (show k=0\/k=1\/k=2 by omega) with rfl | rfl | rfl
  .cases c:C0 t s.has with
   | false=>simp only [go_sem,↓reduceIte,h5,h4,h0,PD,s3,c,A0]
   | true=>simp only [go_sem,↓reduceIte,h5,h4,h0,PD,s3,c,A0]
  .have hn:=Jw (h1 (by omega))
   have s4:=fun (Q:VV->Prop)=>LO C t ht s hs hn (Q:=Q)
   cases c:Kl t s with
   | false=>simp only [go_sem,↓reduceIte,h5,h4,h0,PD,s4,c,A0]
   | true=>simp only [go_sem,↓reduceIte,h5,h4,h0,PD,s4,c,A0];exact h1 (by omega)
  .have hn:=Jw (h1 (by omega))
   have s4:=fun (Q:VV->Prop)=>Qy C t ht s hs hn (Q:=Q)
   cases c:DT t s with
   | false=>simp only [go_sem,↓reduceIte,h5,h4,h0,PD,s4,c,A0]
   | true=>simp only [go_sem,↓reduceIte,h5,h4,h0,PD,s4,c,A0];exact ⟨h1 (by omega),h2 (by omega)⟩
 .rintro F h ⟨h0,rfl,h1,h2,h3⟩
  simp only [go_sem,↓reduceIte,h0]
  rw [h1 (by omega),h2 (by omega),h3 (by omega)];rfl
 .simp only [go_sem,↓reduceIte]
 .simp only [go_sem,↓reduceIte]
 .simp only [go_sem,↓reduceIte]
theorem XF (t:A1) (ht:A5 t) (s:A8) (hs:KZ s):VP V RT [vT t,LX s] Q↔Q (.b (BJ t s)):=by
 rw [ZV C t ht s hs,Ag5 t ht s]
end
def Ao4:EB:=leaf X0 ⟨A1U,PB⟩
theorem A9O:∀ n:Fin 65,XU (AI,A3d) Ao4 (leaf MY ⟨RP,Py⟩) 5000 ⟨A1t,PA⟩ [.i .u64 1,.i .u64 ((n.val:Nat):Int)] [] (.tu [.i .u64 0,.i .u64 ((n.val:Nat):Int)])=true:=by decide +kernel
def HY (x:Int) (m n:Nat):List Int:=List.replicate m x++List.replicate (n - m) 0
theorem A6R {x:Int} {m n:Nat} (h:m<=n):(HY x m n).length=n:=by simp [HY];omega
theorem A2k {x:Int} {m n:Nat} (h:m<=n):(HY x m n).take m=List.replicate m x:=by
 unfold HY
 rw [List.take_left' (by simp)]
theorem A2j (x:Int) (n:Nat):HY x n n=List.replicate n x:=by simp [HY]
theorem A6S {x:Int} {n:Nat} (h:0 < n):List.take (min 1 n) [[VV.i IntKind.i64 x]]++List.map eI (List.drop (min 1 n) (List.replicate n 0))=(HY x 1 n).map eI:=by
 rw [show min 1 n=1 by omega]
 simp [HY]
theorem A2i {x:Int} {m n:Nat} (h:m<=n):(List.replicate m x).map eI++((List.take (min m (n - m)) (List.replicate m x)).map eI++(List.drop (m+min m (n - m)) (HY x m n)).map eI)=(HY x (m+min m (n - m)) n).map eI:=by
 unfold HY
 rw [<- map_append,<- map_append,List.take_replicate,List.drop_append]
 simp only [List.length_replicate,List.drop_replicate]
 rw [show min (min m (n - m)) m=min m (n - m) by omega,show m - (m+min m (n - m))=0 by omega,List.replicate_zero,List.nil_append,show m+min m (n - m) - m=min m (n - m) by omega,
  <- List.append_assoc,List.replicate_append_replicate,show n - m - min m (n - m)=n - (m+min m (n - m)) by omega]
theorem Aiy (l:List Int):((l.map eI).all fun r=>r.all VV.cell)=true:=by
 rw [all_eq_true]
 intro r hr
 obtain ⟨x,_,rfl⟩:=List.mem_map.1 hr
 rfl
section
variable {V:Ae} (C:Ai V) {Q:VV->Prop}
include C
theorem Ym {n:Nat} (hn:n<=64):VP V PW [vW 1#64,.i .u64 (n:Int)] Q↔Q (.tu [vW 0#64,.i .u64 (n:Int)]) :=
 Ad (Cu (a:=⟨PW,[.i .u64 1,.i .u64 (n:Int)],.tu [.i .u64 0,.i .u64 (n:Int)]⟩) (.of (.leaf C.c_z216) (.leaf C.h_z99) C.c_mathbits_TrailingZeros64) C.c_z178.1 C.c_z178.2 .nil (A9O ⟨n,by omega⟩))
theorem Mw (x:Int) {n:Nat} (hn:n<=64) (h0:0 < n) (b:Nat) {Q:VV->VH->Prop}:VP1 V VZ [.ls [[.i .i64 x]],.i .i64 n] b Q↔Q (.sl b 0 0 n) [some ⟨Bg,1,0,false,(List.replicate n x).map eI⟩]:=by
 refine M0 ?_
 rw [M1 C.c_z127.2]
 have b1:n * 8<=A9:=by unfold A9;omega
 have q1:¬ (n:Int) < 0:=by omega
 have q2:¬ ((n:Int):Int) > 9223372036854775807:=by omega
 have q3:IntKind.u64.wrap (n:Int)=n:=by
  rw [show IntKind.u64.wrap (n:Int)=(n:Int) % 18446744073709551616 from rfl];omega
 have q4:IntKind.i64.wrap (n:Int)=n:=AR (by omega) (by omega)
 have q5:IntKind.u64.wrap 1=1:=rfl
 have q7:B6 .gtr none (vW 0#64) (vW 0#64)=some (.b false):=rfl
 have q6:¬ (9223372036854775807:Int) < (n:Int):=by omega
 simp only [A10,go_sem,↓reduceIte,b1,q1,q2,q3,q4,Ym C hn,Int.le_refl,q5,q6,q7,toNat_natCast]
 unfold VL
 rw [A0]
 refine AU (M:=Nat) (I:=fun m F h=>0 < m/\m<=n/\A2.tmp F 7 = .sl 0 0 0 n/\A2.tmp F 8 = .i .i64 m/\h=[some ⟨Bg,1,0,false,(HY x m n).map eI⟩]) (μ:=fun m=>n - m) ?_ 1 _ _ ⟨by omega,by omega,?_,?_,?_⟩
 .rintro m F h ⟨m0,mn,p7,p8,rfl⟩
  by_cases c:m < n
  .have c1:(m:Int) < (n:Int):=by omega
   have hl:=A6R (x:=x) mn
   have h1:=A2i (x:=x) mn
   have e1:min m n=m:=by omega
   have e2:decide (m+(n - m)<=n)=true:=decide_eq_true (by omega)
   have e3:IntKind.i64.wrap ((m:Int)+((min m (n - m):Nat):Int))=((m+min m (n - m):Nat):Int):=by rw [AR (by omega) (by omega)];omega
   simp only [Tj,go_sem,↓reduceIte,p7,p8,c1,A0,hl,mn,A2k mn,e1,e2,h1,e3,Aiy]
   exact ⟨m+min m (n - m),by omega,by omega,by omega,rfl,rfl⟩
  .have c1:¬ (m:Int) < (n:Int):=by omega
   have e:m=n:=by omega
   subst e
   simp only [Tj,go_sem,↓reduceIte,p7,p8,c1,A0,A2j,Bo]
   simp
 .simp only [go_sem,↓reduceIte]
 .simp only [go_sem,↓reduceIte]
  omega
 .rw [A6S h0]
end
abbrev eSn (t:A1) (x f:List Int):List VV:=[.i .i64 t.vals,lS t.locs,.ls (t.regs.map Hv),.ls (t.nodes.map eN),vW (BA x),lI (onL t x f),lW (Ax t.nodes.length fun a b=>At t a b)]
abbrev Sh (t:A1) (x f:List Int):VV:=.fp (eSn t x f) 0
section
variable {V:Ae} (C:Ai V) {Q:VV->Prop}
include C
theorem QH (n:Az):VP V PZ [vN n] Q↔Q (.b (LH n)):=by
 refine Ad ?_
 rw [Ab C.c_z183.1 C.c_z183.2]
 cases c0:decide (n.kind=3)<;>cases c1:decide (0<=n.thread)<;>cases c4:decide (n.kind=4)<;>cases c2:decide (n.mode=2)<;>cases c3:decide (n.mode=3) <;>
  simp only [A1x,go_sem,↓reduceIte,c0,c1,c2,c3,c4,LH]
theorem QG (n:Az):VP V PN [vN n] Q↔Q (.b (Lc n)):=by
 refine Ad ?_
 rw [Ab C.c_z139.1 C.c_z139.2]
 cases c0:decide (n.kind=2)<;>cases c1:decide (n.kind=4)<;>cases c2:decide (n.mode=1)<;>cases c3:decide (n.mode=3) <;>
  simp only [A18,go_sem,↓reduceIte,c0,c1,c2,c3,Lc]
theorem He (t:A1) (x f:List Int) {n:Nat} (hn:n < t.nodes.length):VP V W6 [Sh t x f,.i .i64 n] Q↔Q (.b (decide (0<=(t.at n).thread))):=by
 refine Ad ?_
 rw [Ab C.c_z136.1 C.c_z136.2]
 simp only [A16,go_sem,↓reduceIte,A6 hn]
theorem QC (t:A1) (x f:List Int) {n:Nat} (hn:n < t.nodes.length) {g:Nat} {p:Bool} (hg:∀ Q:VV->Prop,VP V g [vN (t.at n)] Q↔Q (.b p)):VP V W9 [Sh t x f,.i .i64 n,.f g [] []] Q↔Q (.b (decide ((t.at n).kind=4) && p)):=by
 refine Ad ?_
 rw [Ab C.c_z140.1 C.c_z140.2]
 cases c:decide ((t.at n).kind=4)<;>simp only [A19,go_sem,↓reduceIte,A6 hn,c,hg]
theorem XK (t:A1) (ht:A5 t) (x f:List Int) (hx:BX t x) {n:Nat} (hn:n < t.nodes.length):VP V W8 [Sh t x f,.i .i64 n] Q↔Q (.i .i64 (ahF t x f n)):=by
 refine Ad ?_
 rw [Ab C.c_z138.1 C.c_z138.2]
 have hh:=hx.has ht.n64
 unfold ahF
 rw [toNat_natCast]
 cases c:(t.at n).rmw with
 | false=>simp only [Pg,go_sem,↓reduceIte,A6 hn,c,false_eq_true,false_and]
 | true =>
  cases c2:AZ x (t.at n).up with
  | false=>simp only [Pg,go_sem,↓reduceIte,A6 hn,c,AD C,hh,c2,false_eq_true,and_false]
  | true =>
   obtain ⟨m,h0,hm⟩:=Aa (hx _ (A7.1 c2))
   rw [h0] at c2 ⊢
   simp only [Pg,go_sem,↓reduceIte,A6 hn,c,AD C,hh,c2,h0,HM hm,and_self]
theorem XM (t:A1) (ht:A5 t) (x f:List Int) (hx:BX t x) {n:Nat} (hn:n < t.nodes.length):VP V W4 [Sh t x f,.i .i64 n] Q↔Q (.b (JD t x f n)):=by
 refine Ad ?_
 rw [Ab C.c_z129.1 C.c_z129.2]
 have hh:=hx.has ht.n64
 unfold JD
 rw [toNat_natCast]
 cases c:decide ((t.at n).kind=2) with
 | false =>
  have c':=of_decide_eq_false c
  simp only [Pf,go_sem,↓reduceIte,A6 hn,c,HM hn,c']
 | true =>
  have c':=of_decide_eq_true c
  cases c2:AZ x (Cc x f n) with
  | false=>simp only [Pf,go_sem,↓reduceIte,A6 hn,c,HM hn,c',AD C,hh,c2,Bool.false_and]
  | true =>
   obtain ⟨m,h0,hm⟩:=Aa (hx _ (A7.1 c2))
   rw [h0] at c2 ⊢
   cases c3:decide ((t.at m).kind=3)<;>simp only [Pf,go_sem,↓reduceIte,A6 hn,c,HM hn,c',AD C,hh,c2,h0,A6 hm,c3,EV,toNat_natCast,Bool.true_and,Bool.false_and]
theorem A38 (t:A1) (ht:A5 t) (x f:List Int) (hx:BX t x) {w:Nat} (hw:w < t.nodes.length):VP V W7 [Sh t x f,.i .i64 w] Q↔Q (vW (LE t x w)):=by
 refine Ad ?_
 rw [Ab C.c_z137.1 C.c_z137.2]
 have h4:=ht.n64
 have ha:=Dj (BA x)
 obtain ⟨s0,h8,h9⟩:∃ s0,s0=(if LH (t.at w)=true then 0#64 ||| Cl (w:Int) else 0#64)/\∀ j,j < 64->s0.getLsbD j=(decide (j=w) && LH (t.at w)):=by
  refine ⟨_,rfl,fun j hj=>?_⟩
  by_cases c:LH (t.at w)=true
  .have e:decide ((j:Int)=(w:Int)/\j < 64)=decide (j=w):=decide_eq_decide.2 ⟨fun h=>by omega,fun h=>⟨by omega,hj⟩⟩
   rw [if_pos c,BitVec.getLsbD_or,C3,e,c];simp
  .rw [if_neg c,Bool.eq_false_iff.2 c];simp
 let p:Int->Bool:=fun n=>decide ((t.at n.toNat).kind=4) && LH (t.at n.toNat) && At t n w
 have h5:Et p s0 (AF (BA x))=LE t x w:=by
  apply B4
  intro j hj
  rw [RZ p j hj,h9 j hj,LE,Aw,Aa8,decide_eq_true hj,Bool.and_true]
  have e1:AZ (AF (BA x)) (j:Int)=AZ x (j:Int):=by
   rw [Bool.eq_iff_iff,A7,A7];exact hx.list h4 _
  have e2:(decide (j=w) && LH (t.at w))=(decide ((j:Int)=(w:Int)) && LH (t.at j)):=by
   by_cases c:j=w
   .subst c;simp
   .have c':¬ (j:Int)=(w:Int):=by omega
    simp [c,c']
  rw [e1,e2]
  simp only [p,toNat_natCast,Bool.and_assoc]
 cases c0:LH (t.at w)<;>simp only [c0,false_eq_true,if_true,if_false] at h8<;>(
 simp only [A17,go_sem,↓reduceIte,A6 hw,QH C,BM C,D7 C,c0,<- h8]
 refine Ac (by decide) (AF (BA x)).length (by omega) (I:=fun k F h=>A2.tmp F 0=Sh t x f/\A2.tmp F 1 = .i .i64 w/\A2.tmp F 24=lI (AF (BA x))/\h=[]/\A2.tmp F 5=vW (Et p s0 ((AF (BA x)).take k))) ?_ ?_ 0 _ _ (by omega) ?_ ?_ ?_
 .rintro k F h hk h7 h6 ⟨p0,p1,h2,rfl,p5⟩
  obtain ⟨m,h3,hm⟩:=Aa (hx _ ((hx.list h4 _).1 (Af (d:=0) hk)))
  have hT:Et p s0 ((AF (BA x)).take (k+1))=if p m=true then Et p s0 ((AF (BA x)).take k) ||| Cl m else Et p s0 ((AF (BA x)).take k):=by rw [Qh hk,h3]
  have hp:p m=(decide ((t.at m).kind=4) && LH (t.at m) && At t m w):=by simp only [p,toNat_natCast]
  have h0:=fun (Q:VV->Prop)=>QC C t x f hm (g:=PZ) (p:=LH (t.at m)) (fun Q=>QH C (t.at m)) (Q:=Q)
  rw [hT,hp]
  cases c1:(decide ((t.at m).kind=4) && LH (t.at m)) with
  | false=>simp only [go_sem,↓reduceIte,h7,h6,p0,p1,h2,p5,Ar hk,hk,h3,h0,c1,A0,Bool.false_and,false_eq_true]
  | true =>
   have h1:=LL (p:=fun a b=>At t a b) h4 hm hw
   rw [DV hm] at h1
   have hg:=Ce (n:=t.nodes.length) (p:=fun a b=>At t a b) hm
   cases c2:At t m w with
   | false =>
    rw [c2] at h1
    simp only [go_sem,↓reduceIte,h7,h6,p0,p1,h2,p5,Ar hk,hk,h3,h0,c1,A0,hg,AD C,h1,Bool.and_false,false_eq_true]
   | true =>
    rw [c2] at h1
    simp only [go_sem,↓reduceIte,h7,h6,p0,p1,h2,p5,Ar hk,hk,h3,h0,c1,A0,hg,AD C,h1,BM C,Bool.and_self]
 .rintro F h ⟨p0,p1,h2,rfl,p5⟩
  simp only [go_sem,↓reduceIte,p0,p1,h2,p5,take_length,h5]
 .simp only [go_sem,↓reduceIte]
 .simp only [go_sem,↓reduceIte]
 .simp only [go_sem,↓reduceIte]
  rfl)
theorem A00 (t:A1) (ht:A5 t) (x f:List Int) (hx:BX t x) {r:Nat} (hr:r < t.nodes.length):VP V Q7 [Sh t x f,.i .i64 r] Q↔Q (vW (BO (HC t x r))):=by
 refine Ad ?_
 rw [Ab C.c_z71.1 C.c_z71.2]
 have h6:=ht.n64
 let X:=BA x &&& BO fun b=>decide (b < t.nodes.length) && At t r b
 have hX:X=BA x &&& BO fun b=>decide (b < t.nodes.length) && At t r b:=rfl
 have hc:=Dj X
 have hg:=Ce (n:=t.nodes.length) (p:=fun a b=>At t a b) hr
 have h7:∀ y:Int,y∈AF X↔y∈x/\At t r y=true:=by
  intro y
  rw [Cb]
  constructor
  .intro h
   obtain ⟨h1,h2⟩:=DF h
   obtain ⟨m,rfl⟩:=Int.eq_ofNat_of_zero_le h1
   rw [Au,hX,BitVec.getLsbD_and,Aw,and_eq_true,and_eq_true,and_eq_true] at h
   exact ⟨by rw [<- A7,<- hx.has h6,Au];exact h.1,h.2.1.2⟩
  .rintro ⟨h1,h2⟩
   obtain ⟨m,rfl,hm⟩:=Aa (hx _ h1)
   rw [Au,hX,BitVec.getLsbD_and,Aw,h2,<- Au,hx.has h6,A7.2 h1,decide_eq_true hm,decide_eq_true (show m < 64 by omega)];rfl
 obtain ⟨s0,h8,hb⟩:∃ s0,s0=(if Lc (t.at r)=true then 0#64 ||| Cl (r:Int) else 0#64)/\∀ j,j < 64->s0.getLsbD j=(decide (j=r) && Lc (t.at r)):=by
  refine ⟨_,rfl,fun j hj=>?_⟩
  by_cases c:Lc (t.at r)=true
  .have e:decide ((j:Int)=(r:Int)/\j < 64)=decide (j=r):=decide_eq_decide.2 ⟨fun h=>by omega,fun h=>⟨by omega,hj⟩⟩
   rw [if_pos c,BitVec.getLsbD_or,C3,e,c];simp
  .rw [if_neg c,Bool.eq_false_iff.2 c];simp
 let p:Int->Bool:=fun n=>decide ((t.at n.toNat).kind=4) && Lc (t.at n.toNat)
 have h4:Et p s0 (AF X)=BO (HC t x r):=by
  apply B4
  intro j hj
  rw [RZ p j hj,hb j hj,Aw,HC,decide_eq_true hj,Bool.and_true]
  have e1:AZ (AF X) (j:Int)=(AZ x (j:Int) && At t r j):=by
   rw [Bool.eq_iff_iff,A7,h7,and_eq_true,A7]
  have e2:(decide (j=r) && Lc (t.at r))=(decide ((j:Int)=(r:Int)) && Lc (t.at j)):=by
   by_cases c:j=r
   .subst c;simp
   .have c':¬ (j:Int)=(r:Int):=by omega
    simp [c,c']
  rw [e1,e2]
  simp only [p,toNat_natCast]
  cases AZ x (j:Int)<;>cases At t r j<;>simp
 cases c0:Lc (t.at r)<;>simp only [c0,false_eq_true,if_true,if_false] at h8<;>(
 simp only [A94,go_sem,↓reduceIte,A6 hr,QG C,BM C,D7 C,c0,hg,<- h8,<- hX]
 refine Ac (by decide) (AF X).length (by omega) (I:=fun k F h=>A2.tmp F 0=Sh t x f/\A2.tmp F 32=lI (AF X)/\h=[]/\A2.tmp F 5=vW (Et p s0 ((AF X).take k))) ?_ ?_ 0 _ _ (by omega) ?_ ?_ ?_
 .rintro k F h hk ha h9 ⟨p0,h3,rfl,p5⟩
  obtain ⟨m,h5,hm⟩:=Aa (hx _ ((h7 _).1 (Af (d:=0) hk)).1)
  have hT:Et p s0 ((AF X).take (k+1))=if p m=true then Et p s0 ((AF X).take k) ||| Cl m else Et p s0 ((AF X).take k):=by rw [Qh hk,h5]
  have hp:p m=(decide ((t.at m).kind=4) && Lc (t.at m)):=by simp only [p,toNat_natCast]
  have h0:=fun (Q:VV->Prop)=>QC C t x f hm (g:=PN) (p:=Lc (t.at m)) (fun Q=>QG C (t.at m)) (Q:=Q)
  rw [hT,hp]
  cases c1:(decide ((t.at m).kind=4) && Lc (t.at m)) with
  | false=>simp only [go_sem,↓reduceIte,ha,h9,p0,h3,p5,Ar hk,hk,h5,h0,c1,A0,false_eq_true]
  | true=>simp only [go_sem,↓reduceIte,ha,h9,p0,h3,p5,Ar hk,hk,h5,h0,c1,A0,BM C]
 .rintro F h ⟨p0,h3,rfl,p5⟩
  simp only [go_sem,↓reduceIte,p0,h3,p5,take_length,h4]
 .simp only [go_sem,↓reduceIte]
 .simp only [go_sem,↓reduceIte]
 .simp only [go_sem,↓reduceIte]
  rfl)
theorem AdJ {t:A1} (ht:A5 t) {x f:List Int} (hF:CD t x f) {w0:Int} (hw0:w0∈x) {i:Nat} (hoff:∀ j,j < i->LA t (Dy t x f j w0)=false):BX t (J6 t x f w0 i):=by
 intro v hv
 obtain ⟨j,hj,rfl⟩:=NK.1 hv
 rcases KG ht hF hw0 j (fun k hk=>hoff k (by omega)) with e | e
 .have:=hoff j hj
  rw [e] at this;cases this
 .exact hF.node _ e
theorem XL (t:A1) (ht:A5 t) (x f:List Int) (hF:CD t x f) {w0:Int} (hw0:w0∈x):VP V Q6 [Sh t x f,.i .i64 w0] Q↔Q (vW (BZ t x f w0)):=by
 refine Ad ?_
 rw [Ab C.c_z70.1 C.c_z70.2]
 have h6:=ht.n64
 simp only [A93,go_sem,↓reduceIte]
 unfold VL
 rw [A0]
 refine AU (M:=Nat) (I:=fun i F h=>h=[]/\A2.tmp F 0=Sh t x f/\A2.tmp F 1 = .i .i64 (Dy t x f i w0)/\A2.tmp F 5=vW (Ps t x f w0 i)/\A2.tmp F 6=vW (BA (J6 t x f w0 i))/\(∀ j,j < i->LA t (Dy t x f j w0)=false)/\(J6 t x f w0 i).Nodup) (μ:=fun i=>x.length+1 - i) ?_ 0 _ _ ⟨rfl,?_,?_,?_,?_,by omega,by simp [J6]⟩
 .rintro i F h ⟨rfl,p0,p1,p5,p6,h0,h4⟩
  have h7:i<=x.length:=by
   have h1:(J6 t x f w0 i).length=i:=by simp [J6]
   rw [<- h1]
   refine GQ _ _ h4 fun v hv=>?_
   obtain ⟨j,hj,rfl⟩:=NK.1 hv
   rcases KG ht hF hw0 j (fun k hk=>h0 k (by omega)) with e | e
   .have:=h0 j hj
    rw [e] at this;cases this
   .exact e
  have h3:=AdI ht hF hw0 h0 h4
  rcases KG ht hF hw0 i h0 with e | e
  .have:=h3 (.inl (by rw [e];rfl))
   rw [e] at p1
   simp only [Pv,go_sem,↓reduceIte,p0,p1,p5,p6,A0,this]
  .obtain ⟨m,h2,hm⟩:=Aa (hF.node _ e)
   rw [h2] at p1
   cases c1:decide (0<=(t.at m).thread) with
   | false =>
    have ho:LA t (Dy t x f i w0)=true:=by
     have:=of_decide_eq_false c1
     rw [h2,LA,toNat_natCast,decide_eq_true (show (t.at m).thread < 0 by omega),Bool.or_true]
    have:=h3 (.inl ho)
    simp only [Pv,go_sem,↓reduceIte,p0,p1,p5,p6,A0,He C t x f hm,c1,this]
   | true =>
    have ho:LA t (Dy t x f i w0)=false:=by
     have:=of_decide_eq_true c1
     rw [h2,LA,toNat_natCast,decide_eq_false (show ¬ (t.at m).thread < 0 by omega),decide_eq_false (show ¬ (m:Int) < 0 by omega)];rfl
    have h5:=AdJ C ht hF hw0 h0
    have hh:=h5.has h6 (m:Int)
    cases c2:AZ (J6 t x f w0 i) (m:Int) with
    | true =>
     rw [c2] at hh
     have:=h3 (.inr (by rw [h2];exact A7.1 c2))
     simp only [Pv,go_sem,↓reduceIte,p0,p1,p5,p6,A0,He C t x f hm,c1,AD C,hh,this]
    | false =>
     rw [c2] at hh
     simp only [Pv,go_sem,↓reduceIte,p0,p1,p5,p6,A0,He C t x f hm,c1,AD C,hh,A38 C t ht x f hF.node hm,BM C,XK C t ht x f hF.node hm]
     refine ⟨i+1,by omega,by rw [Dy,h2],by rw [A2l,h2],by rw [Sn,h2,BA,BA,List.foldl_append];rfl,fun j hj=>?_,?_⟩
     .rcases Nat.lt_or_ge j i with h1 | h1
      .exact h0 j h1
      .rw [show j=i by omega];exact ho
     .rw [Sn,h2]
      have:(m:Int)∉J6 t x f w0 i:=fun h=>by rw [A7.2 h] at c2;cases c2
      exact List.nodup_append.2 ⟨h4,by simp,fun a ha b hb e=>this (by simp at hb;rw [<- hb,<- e];exact ha)⟩
 .simp only [go_sem,↓reduceIte]
 .simp only [go_sem,↓reduceIte]
  rfl
 .simp only [go_sem,↓reduceIte]
  rfl
 .simp only [go_sem,↓reduceIte]
  rfl
end
theorem AnT:min 5 (4+3)+(1+(4+3 - 6))=7:=rfl
theorem Xn (t:A1) (x:List Int) (k:Nat):Cm t x k=(!(decide (x.getD k 0 < 0) || decide ((t.nodes.length:Int)<=x.getD k 0) || (!decide (k=0) && decide (x.getD k 0<=x.getD (k - 1) 0)))):=by
 unfold Cm BF CB
 rw [Bool.eq_iff_iff]
 simp only [and_eq_true,Bool.or_eq_true,Bool.not_eq_true',Bool.or_eq_false_iff,decide_eq_true_eq,decide_eq_false_iff_not,Bool.and_eq_false_iff,Bool.not_eq_false']
 constructor
 .rintro ⟨⟨a,b⟩,c⟩
  exact ⟨⟨by omega,by omega⟩,c.imp id (by omega)⟩
 .rintro ⟨⟨a,b⟩,c⟩
  exact ⟨⟨by omega,by omega⟩,c.imp id (by omega)⟩
def onH (t:A1) (x f:List Int) (k:Nat):VH:=[some ⟨Bg,1,0,false,(XY t x f k).map eI⟩,some ⟨MB,0,0,false,[[.i .i64 t.vals,lS t.locs,.ls (t.regs.map Hv),.ls (t.nodes.map eN),vW (BA x),.sl 0 0 0 t.nodes.length,lW (Ax t.nodes.length fun a b=>At t a b)]]⟩]
def Aa2 (t:A1) (x f:List Int):VH:=[some ⟨Bg,1,0,false,(onL t x f).map eI⟩,some ⟨MB,0,0,false,[[.i .i64 t.vals,lS t.locs,.ls (t.regs.map Hv),.ls (t.nodes.map eN),vW (BA x),.sl 0 0 0 t.nodes.length,lW (Ax t.nodes.length fun a b=>At t a b)]]⟩]
theorem Adg (t:A1) (x f:List Int):onH t x f x.length=Aa2 t x f:=by rw [onH,Adh];rfl
theorem A5G {t:A1} {x f:List Int} {k m:Nat} (h:m < t.nodes.length):(XY t x f k)[m]? = some (Cc (x.take k) f (m:Int)):=by simp [XY,h]
theorem Qd (t:A1) (x f:List Int):(onL t x f).take t.nodes.length=onL t x f:=List.take_of_length_le (by rw [NM];omega)
section
variable {V:Ae} (C:Ai V) {Q:VV->Prop}
include C
theorem A7n (t:A1) (ht:A5 t) (x f:List Int) (hF:CD t x f):VP V A5p [Sh t x f,.f Q6 [Sh t x f] [],.f Q7 [Sh t x f] []] Q↔Q (lW (Ax t.nodes.length (swB t x f))):=by
 refine Ad ?_
 rw [Ab C.c_z69.1 C.c_z69.2]
 have hi:=ht.n64
 have hx:=hF.node
 have hu:=Dj (BA x)
 have hl:=fun y=>hx.list hi y
 simp only [A92,go_sem,↓reduceIte,KU C _ hi,D7 C]
 refine Ac (by decide) (AF (BA x)).length (by omega) (I:=fun k F h=>A2.tmp F 0=Sh t x f/\A2.tmp F 1 = .f Q6 [Sh t x f] []/\A2.tmp F 2 = .f Q7 [Sh t x f] []/\A2.tmp F 7 = .sl 0 0 0 t.nodes.length/\A2.tmp F 24=lI (AF (BA x))/\h=[some ⟨C1,1,0,false,(Ax t.nodes.length (swP t x f ((AF (BA x)).take k))).map eW⟩]) ?_ ?_ 0 _ _ (by omega) ?_ ?_ ?_
 .rintro k F h hk hc h9 ⟨p0,p1,p2,p7,h4,rfl⟩
  have hm:(AF (BA x)).getD k 0∈x:=(hl _).1 (Af (d:=0) hk)
  obtain ⟨r,h6,hr⟩:=Aa (hx _ hm)
  have hd:(r:Int)∈x:=by rw [<- h6];exact hm
  have h0:∀ a b,swP t x f ((AF (BA x)).take (k+1)) a b=(swP t x f ((AF (BA x)).take k) a b || (JF t x f r && BG (BZ t x f (Cc x f r)) (a:Int) && HC t x r b)):=fun a b=>by rw [AaA hk,h6]
  have same:JF t x f r=false->Ax t.nodes.length (swP t x f ((AF (BA x)).take k))=Ax t.nodes.length (swP t x f ((AF (BA x)).take (k+1))):=fun e=>Eg fun a b _ _=>by rw [h0,e];simp
  have h2:JF t x f r=(decide ((t.at r).kind=2) && !decide ((t.at (Cc x f r).toNat).thread=(t.at r).thread)):=by rw [JF,toNat_natCast]
  by_cases ck:(t.at r).kind=2
  .obtain ⟨o1,o2,o3⟩:=hF.read _ hd (by rw [toNat_natCast];exact ck)
   obtain ⟨w,h3,hw⟩:=Aa (hx _ o1)
   rw [h3] at o1
   have d0:decide ((w:Int) < 0)=false:=decide_eq_false (by omega)
   cases c2:decide ((t.at w).thread=(t.at r).thread) with
   | true =>
    have hs:=same (by rw [h2,h3,toNat_natCast,c2];simp)
    simp only [go_sem,↓reduceIte,hc,h9,p0,p1,p2,p7,h4,Ar hk,hk,h6,HM hr,h3,d0,A6 hw,A6 hr,c2,A0,hs]
   | false =>
    have hs:JF t x f r=true:=by rw [h2,h3,toNat_natCast,c2,decide_eq_true ck];rfl
    have hh:=fun (Q:VV->Prop)=>XL C t ht x f hF o1 (Q:=Q)
    simp only [go_sem,↓reduceIte,hc,h9,p0,p1,p2,p7,h4,Ar hk,hk,h6,HM hr,h3,d0,A6 hw,A6 hr,c2,A0,hh,D7 C]
    have hq:=Dj (BZ t x f w)
    have h5:=fun (Q:VV->Prop)=>A00 C t ht x f hx hr (Q:=Q)
    let M:=fun (j:Nat) (a b:Nat)=>swP t x f ((AF (BA x)).take k) a b || (AZ ((AF (BZ t x f w)).take j) (a:Int) && HC t x r b)
    refine Ac (by decide) (AF (BZ t x f w)).length (by omega) (I:=fun j F h=>A2.tmp F 26 = .i .i64 k/\A2.tmp F 25 = .i .i64 (AF (BA x)).length/\A2.tmp F 0=Sh t x f/\A2.tmp F 1 = .f Q6 [Sh t x f] []/\A2.tmp F 2 = .f Q7 [Sh t x f] []/\A2.tmp F 7 = .sl 0 0 0 t.nodes.length/\A2.tmp F 24=lI (AF (BA x))/\A2.tmp F 9 = .i .i64 r/\A2.tmp F 63=lI (AF (BZ t x f w))/\h=[some ⟨C1,1,0,false,(Ax t.nodes.length (M j)).map eW⟩]) ?_ ?_ 0 _ _ (by omega) ?_ ?_ ?_
    .rintro j F h hj hp ho ⟨hg,hf,q0,q1,q2,q7,he,q9,hn,rfl⟩
     have h1:=(Cb (s:=BZ t x f w)).1 (Af (d:=0) hj)
     obtain ⟨a0,_⟩:=DF h1
     obtain ⟨a,h8⟩:=Int.eq_ofNat_of_zero_le a0
     have ha:a < t.nodes.length:=A2m ht hF o1 (by rw [h8,Au] at h1;exact h1)
     have h7:=A7e ha (M j) (HC t x r) fun b hb=>A6D hx hd hb
     have hM:Ax t.nodes.length (fun i b=>M j i b || (decide (i=a) && HC t x r b))=Ax t.nodes.length (M (j+1)):=Eg fun i b _ _=>by
      simp only [M]
      rw [List.take_succ_eq_append_getElem hj]
      have e:AZ ((AF (BZ t x f w)).take j++[(AF (BZ t x f w))[j]]) (i:Int)=(AZ ((AF (BZ t x f w)).take j) (i:Int) || decide (i=a)):=by
       rw [List.getD_eq_getElem?_getD,List.getElem?_eq_getElem hj,Option.getD_some] at h8
       rw [h8,Bool.eq_iff_iff,A7,List.mem_append,Bool.or_eq_true,A7,decide_eq_true_eq,List.mem_singleton]
       exact ⟨fun h=>h.imp id fun h=>by omega,fun h=>h.imp id fun h=>by omega⟩
      rw [e]
      cases swP t x f ((AF (BA x)).take k) i b<;>cases AZ ((AF (BZ t x f w)).take j) (i:Int)<;>cases decide (i=a)<;>cases HC t x r b<;>rfl
     rw [hM] at h7
     simp only [go_sem,↓reduceIte,hp,ho,hg,hf,q0,q1,q2,q7,he,q9,hn,Ar hj,hj,h8,Ce ha,h5,A0,h7,AJ,ha]
    .rintro F h ⟨hg,hf,q0,q1,q2,q7,he,q9,hn,rfl⟩
     have hM:Ax t.nodes.length (M (AF (BZ t x f w)).length)=Ax t.nodes.length (swP t x f ((AF (BA x)).take (k+1))):=Eg fun a b _ _=>by
      simp only [M]
      rw [take_length,h0,hs,h3,Bool.true_and]
      have e:AZ (AF (BZ t x f w)) (a:Int)=BG (BZ t x f w) (a:Int):=by rw [Bool.eq_iff_iff,A7,Cb]
      rw [e]
     simp only [go_sem,↓reduceIte,hg,hf,q0,q1,q2,q7,he,hM]
    .simp only [go_sem,↓reduceIte]
    .simp only [go_sem,↓reduceIte]
    .simp only [go_sem,↓reduceIte,hc,h9,p0,p1,p2,p7,h4]
     have hM:Ax t.nodes.length (M 0)=Ax t.nodes.length (swP t x f ((AF (BA x)).take k)):=Eg fun a b _ _=>by simp only [M,List.take_zero,AZ,List.any_nil,Bool.false_and,Bool.or_false]
     rw [hM]
  .have o1:=hF.none _ hd (by rw [toNat_natCast];exact ck)
   have hs:=same (by rw [h2,decide_eq_false ck];rfl)
   simp only [go_sem,↓reduceIte,hc,h9,p0,p1,p2,p7,h4,Ar hk,hk,h6,HM hr,o1,A0]
   rw [hs]
 .rintro F h ⟨p0,p1,p2,p7,h4,rfl⟩
  have e:Ax t.nodes.length (swP t x f (AF (BA x)))=Ax t.nodes.length (swB t x f):=Eg fun a b _ _=>AdB hl a b
  simp only [go_sem,↓reduceIte,p0,p1,p2,p7,h4,AJ]
  rw [List.take_of_length_le (by rw [AJ];omega),e]
 .simp only [go_sem,↓reduceIte]
 .simp only [go_sem,↓reduceIte]
 .simp only [go_sem,↓reduceIte]
  rw [<- Mu];rfl
theorem A7m (t:A1) (ht:A5 t) (x f:List Int) (hl:x.length<=1000) (hlf:f.length<=1000):VP V A5l [vT t,lI x,lI f] Q↔Q (if Eo t x f=true then .tu [Sh t x f,.b true] else .tu [.np,.b false]):=by
 refine Ad ?_
 rw [Ab C.c_z65.1 C.c_z65.2]
 have hw:=ht.n64
 have hx:0 < t.nodes.length:=by
  obtain ⟨s,h0,he,hs⟩:=ht.thr
  have h1:=ht.r1
  obtain ⟨_,n,hB⟩:=hs 0 (by omega)
  cases n with
  | zero=>exact absurd hB (by simp [G0])
  | succ n=>have:=hB.1.1;omega
 have h7:=fun (Q:VV->Prop)=>Mg C t ht (Q:=Q)
 have hy:=fun (Q:VV->Prop)=>A7u C t ht (Q:=Q)
 by_cases c1:x.length=f.length
 .have hh:decide ((f.length:Int)=(x.length:Int))=true:=decide_eq_true (by omega)
  simp only [A3M,go_sem,↓reduceIte,h7,hh,CN C x (by omega),Mw C _ hw hx,hy,Ajg,AnT]
  refine Ac (by decide) x.length (by omega) (I:=fun k F h=>A2.tmp F 1=lI x/\A2.tmp F 2=lI f/\A2.tmp F 3 = .fp (eT t) 0/\A2.tmp F 8 = .p 1 0 0 0/\A2.tmp F 35=lI x/\h=onH t x f k/\∀ j,j < k->Cm t x j=true) ?_ ?_ 0 _ _ (by omega) ?_ ?_ ?_
  .rintro k F h hk hd hc ⟨p1,p2,p3,p8,h5,rfl,pr⟩
   have hf:k < f.length:=by omega
   have h6:Cm t x k=false->Eo t x f=false:=fun h=>by rw [Eo,AW hk h];simp
   have h8:=Xn t x k
   cases d1:decide (x.getD k 0 < 0) with
   | true =>
    have e:=h6 (by rw [h8,d1];rfl)
    simp only [go_sem,↓reduceIte,hd,hc,p1,p2,p3,p8,h5,Ar hk,hk,d1,A0,e]
   | false =>
   cases d2:decide ((t.nodes.length:Int)<=x.getD k 0) with
   | true =>
    have e:=h6 (by rw [h8,d1,d2];rfl)
    simp only [go_sem,↓reduceIte,hd,hc,p1,p2,p3,p8,h5,Ar hk,hk,d1,d2,A0,e]
   | false =>
   have hz:=of_decide_eq_false d1
   have q0:=of_decide_eq_false d2
   obtain ⟨m,h3⟩:=Int.eq_ofNat_of_zero_le (show 0<=x.getD k 0 by omega)
   have hm:m < t.nodes.length:=by omega
   have ho:decide (t.nodes.length<=m)=false:=decide_eq_false (by omega)
   have hb:(∀ i,i<=k->CB x i=true)->_:=Adi (t:=t) (f:=f) hk h3 hm
   have ha:∀ i,i < k->CB x i=true:=fun i hi=>by have:=pr i hi;simp only [Cm,and_eq_true] at this;exact this.2
   have hp:Cm t x k=true->∀ j,j < k+1->Cm t x j=true:=fun h j hj=>by
    rcases Nat.lt_or_ge j k with c | c
    .exact pr j c
    .rw [show j=k by omega];exact h
   by_cases z:k=0
   .subst z
    have h9:Cm t x 0=true:=by rw [h8,d1,d2];rfl
    have hs:=hb fun i hi=>by rw [Nat.le_zero.1 hi];rfl
    rw [h3] at d1 d2
    simp only [go_sem,↓reduceIte,hd,hc,p1,p2,p3,p8,h5,Ar hk,Ar hf,hk,hf,d1,ho,A0,h3,onH,hm,A5H,dz0,hs,A5G hm]
    exact hp h9
   .have z0:decide ((0:Int) < (k:Int))=true:=decide_eq_true (by omega)
    have hq:k - 1 < x.length:=by omega
    have zw:=Gy (show 0 < k by omega) (by omega)
    cases d3:decide (x.getD k 0<=x.getD (k - 1) 0) with
    | true =>
     have e:=h6 (by rw [h8,d1,d2,d3,decide_eq_false z];rfl)
     rw [h3] at d1 d2 d3
     simp only [go_sem,↓reduceIte,hd,hc,p1,p2,p3,p8,h5,Ar hk,Ar hq,hk,d1,ho,d3,z0,zw,A0,h3,e]
    | false =>
     have h9:Cm t x k=true:=by rw [h8,d1,d2,d3];simp
     have hs:=hb fun i hi=>by
      rcases Nat.lt_or_ge i k with c | c
      .exact ha i c
      .rw [show i=k by omega];simp only [Cm,and_eq_true] at h9;exact h9.2
     rw [h3] at d1 d2 d3
     simp only [go_sem,↓reduceIte,hd,hc,p1,p2,p3,p8,h5,Ar hk,Ar hq,Ar hf,hk,hf,d1,ho,d3,z0,zw,A0,h3,onH,hm,A5H,hs,A5G hm]
     exact hp h9
  .rintro F h ⟨p1,p2,p3,p8,h5,rfl,pr⟩
   rw [Adg]
   have h4:BX t x:=by
    intro n hn
    obtain ⟨i,hi,rfl⟩:=List.getElem_of_mem hn
    have:=pr i hi
    simp only [Cm,and_eq_true] at this
    have h2:=this.1
    rwa [List.getD_eq_getElem?_getD,List.getElem?_eq_getElem hi] at h2
   simp only [go_sem,↓reduceIte,p1,p2,p3,p8,h5]
   refine Ac (by decide) x.length (by omega) (I:=fun k F h=>A2.tmp F 8 = .p 1 0 0 0/\A2.tmp F 75=lI x/\h=Aa2 t x f/\∀ j,j < k->JD t x f (x.getD j 0)=true) ?_ ?_ 0 _ _ (by omega) ?_ ?_ ?_
   .rintro k F h hk hv hu ⟨p8,hg,rfl,qr⟩
    have h6:JD t x f (x.getD k 0)=false->Eo t x f=false:=fun h=>by rw [YK,AW (p:=fun i=>JD t x f (x.getD i 0)) hk h,Bool.and_false]
    obtain ⟨m,h3,hm⟩:=Aa (h4 _ (Af (d:=0) hk))
    have hr:=fun (Q:VV->Prop)=>XM C t ht x f h4 hm (Q:=Q)
    cases c2:JD t x f m with
    | true =>
     simp only [go_sem,↓reduceIte,hv,hu,p8,hg,Ar hk,hk,h3,Aa2,hr,c2,A0,NM,Qd]
     intro j hj
     rcases Nat.lt_or_ge j k with c | c
     .exact qr j c
     .rw [show j=k by omega,h3];exact c2
    | false =>
     have e:=h6 (by rw [h3];exact c2)
     simp only [go_sem,↓reduceIte,hv,hu,p8,hg,Ar hk,hk,h3,Aa2,hr,c2,A0,NM,Qd,e]
   .rintro F h ⟨p8,hg,rfl,qr⟩
    have e:Eo t x f=true:=by rw [YK,decide_eq_true c1,AS pr,AS qr];rfl
    simp only [go_sem,↓reduceIte,p8,hg,Aa2,e,NM,Qd]
   .simp only [go_sem,↓reduceIte]
   .simp only [go_sem,↓reduceIte]
   .simp only [go_sem,↓reduceIte,p8]
    intro j hj;omega
  .simp only [go_sem,↓reduceIte]
  .simp only [go_sem,↓reduceIte]
  .simp only [go_sem,↓reduceIte,onH,Aa3]
   intro j hj;omega
 .have hh:decide ((f.length:Int)=(x.length:Int))=false:=decide_eq_false (by omega)
  have e:Eo t x f=false:=by rw [Eo,decide_eq_false c1];rfl
  simp only [A3M,go_sem,↓reduceIte,h7,hh,e]
theorem K9 (t:A1) (ht:A5 t) (x f:List Int) (hl:x.length<=1000) (hlf:f.length<=1000):VP V Zh [vT t,lI x,lI f] Q↔Q (lW (hbF t x f)):=by
 refine Ad ?_
 rw [Ab C.c_z22.1 C.c_z22.2]
 have h0:=ht.n64
 have h1:=fun (Q:VV->Prop)=>A7m C t ht x f hl hlf (Q:=Q)
 cases c:Eo t x f with
 | false =>
  rw [hbF,c]
  simp only [A3I,go_sem,↓reduceIte,h1,c,false_eq_true]
 | true =>
  have hF:=Bz c
  rw [hbF,c]
  have h2:=fun (Q:VV->Prop)=>A7n C t ht x f hF (Q:=Q)
  simp only [A3I,go_sem,↓reduceIte,h1,c,h2,A2Z C,ZO C,HP C]
  rw [A2q h0,Qe h0,J9]
  congr 2
  apply Eg
  intro a b _ _
  rw [hF.node.has h0,hF.node.has h0]
  rfl
end
end Go.AM
