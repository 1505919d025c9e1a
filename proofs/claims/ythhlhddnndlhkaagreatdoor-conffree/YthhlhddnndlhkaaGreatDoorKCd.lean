/-
  Own work, part of the proof of these laws: what functions compute.
-/
import Derived.Test.YthhlhddnndlhkaaGreatDoorKBd
set_option maxRecDepth 10000
set_option maxHeartbeats 64000000
set_option linter.unusedVariables false
set_option linter.unusedSimpArgs false
set_option linter.unusedSectionVars false
namespace Go.AM
open Go Go.Proofs
theorem H8 {k:Nat} (h0:0 < k) (h:k < 9223372036854775807):IntKind.i64.wrap ((k:Int) - 1)=((k - 1:Nat):Int):=by rw [Az (by omega) (by omega)];omega
section
variable {V:At} (C:Aq V) {Q:VV->Prop}
include C
theorem Ao (xs:List Int) (hl:xs.length < 9223372036854775807) (n:Int):VP V A1s [lI xs,.i .i64 n] Q↔Q (.i .i64 (LD xs n)):=A2Q C xs hl n
theorem A1M (s:A6) (hs:DL s) (n:Int):VP V VW [Dy s,.i .i64 n] Q↔Q (.i .i64 (Qz s n)):=by
 refine Ae ?_
 rw [Ad C.c_z181.1 C.c_z181.2]
 have hl:=hs.has
 unfold Qz
 cases h:AU s.has n with
 | false =>
  simp only [PM,go_sem,↓reduceIte,Ao C s.has (by omega),Ab0 h,Int.reduceNeg,Int.reduceLT]
 | true =>
  obtain ⟨k,e,hk,_⟩:=Gx h
  have h0:¬ (k:Int) < 0:=by omega
  by_cases h1:s.jf.length<=k
  .simp only [PM,go_sem,↓reduceIte,Ao C s.has (by omega),e,h0,h1]
  .simp only [PM,go_sem,↓reduceIte,Ao C s.has (by omega),e,h0,h1,Ar (show k < s.jf.length by omega)]
theorem Rl (a b:AX) (pa pb:Int):VP V Vt [vN a,vN b,.i .i64 pa,.i .i64 pb] Q↔Q (.b (Dg a b pa pb)):=by
 refine Ae ?_
 rw [Ad C.c_z153.1 C.c_z153.2]
 cases c0:decide (a.kind=2)<;>cases c1:decide (a.kind=3)<;>cases c2:decide (b.kind=2)<;>cases c3:decide (b.kind=3)<;>cases c4:decide (a.loc=b.loc) <;>
  simp only [ZN,go_sem,↓reduceIte,c0,c1,c2,c3,c4,Dg]<;>simp_all
theorem Ki (s:A6) (hs:DL s) (loc w:Int):VP V V4 [Dy s,.i .i64 loc,.i .i64 w] Q↔Q (.i .i64 (Be s loc w)):=by
 refine Ae ?_
 rw [Ad C.c_z127.1 C.c_z127.2]
 unfold Be
 by_cases h0:loc < 0
 .simp only [PG,go_sem,↓reduceIte,h0]
 .obtain ⟨k,rfl⟩:=Int.eq_ofNat_of_zero_le (by omega:0<=loc)
  by_cases h1:s.mo.length<=k
  .simp only [PG,go_sem,↓reduceIte,h0,h1]
  .have hk:k < s.mo.length:=by omega
   have hl:=hs.mi' k
   have hc:=hs.mc' k
   simp only [PG,go_sem,↓reduceIte,h0,h1]
   generalize hm:s.mo.getD k []=m at *
   refine Ab (by decide) m.length (by omega) (I:=fun j F h=>h=[]/\A4.tmp F 1 = .i .i64 k/\A4.tmp F 2 = .i .i64 w/\A4.tmp F 3 = .fp (Je s) 0/\∀ (i:Nat) (hi:i < m.length),i < j->AU m[i] w=false) ?_ ?_ ?_ 0 _ _ (Nat.zero_le _) ?_ ?_
   .rintro j F h hj p1 ⟨rfl,p2,p3,p4,p5⟩
    simp only [go_sem,↓reduceIte,p1,p2,p3,p4,C1 hk,hm]
    exact p5
   .rintro j F h hj p1 ⟨rfl,p2,p3,p4,p5⟩
    have h2:=hc j
    rw [List.getD_eq_getElem?_getD,List.getElem?_eq_getElem hj,Option.getD_some] at h2
    cases e:AU m[j] w with
    | true =>
     simp only [go_sem,↓reduceIte,p1,p2,p3,p4,C1 hk,hm,List.getElem?_eq_getElem hj,Ao C m[j] (by omega),EB,e]
     rw [DA hj e fun i hi=>p5 i (by omega) hi]
    | false =>
     simp only [go_sem,↓reduceIte,p1,p2,p3,p4,C1 hk,hm,List.getElem?_eq_getElem hj,Ao C m[j] (by omega),EB,e]
     intro i hi h3
     by_cases e2:i=j
     .subst e2;exact e
     .exact p5 i hi (by omega)
   .rintro F h ⟨rfl,p2,p3,p4,p5⟩
    simp only [go_sem,↓reduceIte]
    rw [Eb fun x hx=>by obtain ⟨j,hj,e⟩:=List.mem_iff_getElem.1 hx;rw [<- e];exact p5 j hj hj]
   all_goals simp only [go_sem,↓reduceIte]
   all_goals first | rfl | (intro j hj h4;omega)
theorem A2L (t:A1) (ht:t.nodes.length<=1000):VP V VT [vT t] Q↔Q (vW (Gc t)):=by
 refine Ae ?_
 rw [Ad C.c_z179.1 C.c_z179.2]
 simp only [A02,go_sem,↓reduceIte]
 refine Ab (by decide) t.nodes.length (by omega) (I:=fun k F h=>h=[]/\A4.tmp F 1 = .fp (eT t) 0/\A4.tmp F 3=vW (BS fun i=>decide (i < k) && decide ((t.at i).up < 0))) ?_ ?_ ?_ 0 _ _ (Nat.zero_le _) ?_ ?_
 .rintro k F h hk p1 ⟨rfl,p2,p3⟩
  simp only [go_sem,↓reduceIte,p1,p2,p3]
 .rintro k F h hk p1 ⟨rfl,p2,p3⟩
  by_cases e:(t.at k).up < 0
  .simp only [go_sem,↓reduceIte,p1,p2,p3,A7 hk,e,Bi C]
   by_cases h64:k < 64
   .rw [Rq _ _ h64]
    congr 1
    apply BD
    intro j hj
    by_cases e2:j=k
    .subst e2;simp [e]
    .have:(j < k+1)↔(j < k):=by omega
     simp [this,e2]
   .have:C4 (k:Int)=0#64:=by unfold C4;rw [if_neg (by omega)]
    rw [this,BitVec.or_zero]
    congr 1
    apply BD
    intro j hj
    have:(j < k+1)↔(j < k):=by omega
    simp [this]
  .simp only [go_sem,↓reduceIte,p1,p2,p3,A7 hk,e]
   congr 1
   apply BD
   intro j hj
   by_cases e2:j=k
   .subst e2;simp [e]
   .have:(j < k+1)↔(j < k):=by omega
    simp [this]
 .rintro F h ⟨rfl,p2,p3⟩
  simp only [go_sem,↓reduceIte,p3,Gc]
 all_goals simp only [go_sem,↓reduceIte]
 all_goals first | rfl | (rw [<- J8];congr 1;apply BD;intro j hj;simp)
theorem A2T (t:A1) (ht:t.nodes.length<=1000) (l:List Int) (hl:l.length<=1000):VP V V0 [vT t,lI l] Q↔Q (.b (Cz t l)):=by
 refine Ae ?_
 rw [Ad C.c_z124.1 C.c_z124.2]
 simp only [Zv,go_sem,↓reduceIte]
 refine Ab (by decide) l.length (by omega) (I:=fun k F h=>h=[]/\A4.tmp F 1=lI l/\A4.tmp F 2 = .fp (eT t) 0/\∀ j,j < k->Cs t l j=true) ?_ ?_ ?_ 0 _ _ (Nat.zero_le _) ?_ ?_
 .rintro k F h hk p1 ⟨rfl,p2,p3,p4⟩
  simp only [go_sem,↓reduceIte,p1,p2,p3]
  exact p4
 .rintro k F h hk p1 ⟨rfl,p2,p3,p4⟩
  have h1:Cs t l k=false->false=Cz t l:=fun h=>by rw [Cz,AP hk h];rfl
  have good:Cs t l k=true->∀ j,j < k+1->Cs t l j=true:=fun h j hj=>by
   by_cases e:j=k
   .rw [e];exact h
   .exact p4 j (by omega)
  cases c0:BP t (l.getD k 0) with
  | false =>
   simp only [go_sem,↓reduceIte,p1,p2,p3,Ar hk,AA C,c0]
   exact h1 (by rw [Cs,c0];rfl)
  | true =>
   obtain ⟨n,hn,h2⟩:=A8 c0
   have h0:Cs t l k=(Di l k && (decide ((t.at n).up < 0) || AU l (t.at n).up)):=by
    unfold Cs
    rw [c0,hn,Int.toNat_natCast,Bool.true_and]
   rw [hn] at c0
   by_cases z:k=0
   .subst z
    have hr:Di l 0=true:=by simp [Di]
    rw [hr,Bool.true_and] at h0
    have z0:¬ (0:Int) < ((0:Nat):Int):=by omega
    by_cases u0:0<=(t.at n).up
    .have u1:¬ (t.at n).up < 0:=by omega
     rw [decide_eq_false u1,Bool.false_or] at h0
     cases u2:AU l (t.at n).up<;>rw [u2] at h0 <;>
      simp only [go_sem,↓reduceIte,p1,p2,p3,Ar hk,AA C,c0,z0,hn,A7 h2,u0,Ao C l (by omega),Cg,u2]
     .exact h1 h0
     .exact good h0
    .have u1:(t.at n).up < 0:=by omega
     rw [decide_eq_true u1,Bool.true_or] at h0
     simp only [go_sem,↓reduceIte,p1,p2,p3,Ar hk,AA C,c0,z0,hn,A7 h2,u0]
     exact good h0
   .have z0:(0:Int) < (k:Int):=by omega
    have zw:=H8 (show 0 < k by omega) (by omega)
    have h3:k - 1 < l.length:=by omega
    have hr:Di l k = !decide ((n:Int)<=l.getD (k - 1) 0):=by
     unfold Di
     rw [decide_eq_false z,Bool.false_or,hn]
     by_cases c:(n:Int)<=l.getD (k - 1) 0
     .rw [decide_eq_true c,decide_eq_false (by omega)];rfl
     .rw [decide_eq_false c,decide_eq_true (by omega)];rfl
    cases c1:decide ((n:Int)<=l.getD (k - 1) 0) with
    | true =>
     rw [c1] at hr
     rw [hr] at h0
     simp only [go_sem,↓reduceIte,p1,p2,p3,Ar hk,AA C,c0,z0,zw,Ar h3,hn,c1]
     exact h1 h0
    | false =>
     rw [c1] at hr
     rw [hr] at h0
     simp only [Bool.not_false,Bool.true_and] at h0
     by_cases u0:0<=(t.at n).up
     .have u1:¬ (t.at n).up < 0:=by omega
      rw [decide_eq_false u1,Bool.false_or] at h0
      cases u2:AU l (t.at n).up<;>rw [u2] at h0 <;>
       simp only [go_sem,↓reduceIte,p1,p2,p3,Ar hk,AA C,c0,z0,zw,Ar h3,hn,c1,A7 h2,u0,Ao C l (by omega),Cg,u2]
      .exact h1 h0
      .exact good h0
     .have u1:(t.at n).up < 0:=by omega
      rw [decide_eq_true u1,Bool.true_or] at h0
      simp only [go_sem,↓reduceIte,p1,p2,p3,Ar hk,AA C,c0,z0,zw,Ar h3,hn,c1,A7 h2,u0]
      exact good h0
 .rintro F h ⟨rfl,p2,p3,p4⟩
  simp only [go_sem,↓reduceIte,p2,p3,A2L C t ht,NF C l (by omega),D4 C]
  rw [Cz,AQ p4];rfl
 all_goals simp only [go_sem,↓reduceIte]
 all_goals first | rfl | (intro j hj;omega)
theorem A2R (t:A1) (hu:Kt t) (l has:List Int) (hl:l.length<=1000) (hh:has.length<=1000) (hv:∀ n∈has,BP t n=true) (loc:Int):VP V V2 [vT t,lI l,lI has,.i .i64 loc] Q↔Q (.b (CE t l has loc)):=by
  refine Ae ?_
  rw [Ad C.c_z125.1 C.c_z125.2]
  by_cases z:l.length=0
  · have z' : (l.length : Int) = 0 := by omega
    simp only [RY,go_sem,↓reduceIte,z']
    simp [CE,z]
  have z':¬ (l.length:Int)=0:=by omega
  simp only [RY,go_sem,↓reduceIte,z']
  refine Ab (by decide) l.length (by omega) (I:=fun k F h=>h=[]/\A4.tmp F 1=lI l/\A4.tmp F 2=lI has/\A4.tmp F 3 = .i .i64 loc/\A4.tmp F 4 = .fp (eT t) 0/\∀ j,j < k->BA t l has loc j=true) ?_ ?_ ?_ 0 _ _ (Nat.zero_le _) ?_ ?_
  · rintro k F h hk p1 ⟨rfl, p2, p3, p4, p5, p6⟩
    simp only [go_sem,↓reduceIte,p1,p2,p3,p4,p5]
    exact p6
  · rintro k F h hk p1 ⟨rfl, p2, p3, p4, p5, p6⟩
    have h2:BA t l has loc k=false->false=CE t l has loc:=fun h=>by rw [CE,AP hk h];simp
    have good:BA t l has loc k=true->∀ j,j < k+1->BA t l has loc j=true:=fun h j hj=>by
      by_cases e:j=k
      · rw [e];exact h
      · exact p6 j (by omega)
    cases c0:AU has (l.getD k 0) with
    | false =>
      simp only [go_sem,↓reduceIte,p1,p2,p3,p4,p5,Ar hk,Ao C has (by omega),Cg,c0]
      exact h2 (by rw [BA,c0];rfl)
    | true =>
      obtain ⟨n,hn,h5⟩:=A8 (hv _ (A9.1 c0))
      have h0:BA t l has loc k=(Di l k && (decide ((t.at n).kind=3) && decide ((t.at n).loc=loc)) && decide (0<=(t.at n).thread) && (List.range k).all fun j=>Ba t (l.getD k 0) (l.getD j 0)):=by
        unfold BA HT
        rw [c0,hn,Int.toNat_natCast,Bool.true_and]
      have h1:Di l k=(decide (k=0) || decide (l.getD (k - 1) 0 < (n:Int))):=by rw [Di,hn]
      rw [hn] at c0
      have h4:∀ (hr:Di l k=true) (hd:decide ((t.at n).kind=3)=true) (he:decide ((t.at n).loc=loc)=true) (hf:decide ((t.at n).thread < 0)=false) (G:A4) (Q':Ex->A4->VH->Prop)
          (g1:A4.tmp G 1=lI l) (g2:A4.tmp G 2=lI has) (g3:A4.tmp G 3 = .i .i64 loc) (g4:A4.tmp G 4 = .fp (eT t) 0) (g9:A4.tmp G 9 = .i .i64 k) (ha:A4.tmp G 10 = .p 0 0 0 0) (hb:A4.tmp G 11 = .i .i64 0)
          (q1:∀ G' h',A4.tmp G' 1=lI l->A4.tmp G' 2=lI has->A4.tmp G' 3 = .i .i64 loc->A4.tmp G' 4 = .fp (eT t) 0->A4.tmp G' 9 = .i .i64 k->BA t l has loc k=true->Q' .norm G' h') (q2:∀ G' h',A4.tmp G' 8 = .b false->BA t l has loc k=false->Q' .ret G' h'),
          VL V PZ 2 Adu G [some ⟨Ck,0,0,false,[eN (t.at n)]⟩] Q':=by
        intro hr hd he hf G Q' g1 g2 g3 g4 g9 ha hb q1 q2
        have h9:decide (0<=(t.at n).thread)=true:=by simp at hf ⊢;omega
        rw [hr,hd,he,h9] at h0
        simp only [Bool.and_self,Bool.true_and] at h0
        refine Ab (by decide) k (by omega) (I:=fun j F h=>h=[some ⟨Ck,0,0,false,[eN (t.at n)]⟩]/\A4.tmp F 1=lI l/\A4.tmp F 2=lI has/\A4.tmp F 3 = .i .i64 loc/\A4.tmp F 4 = .fp (eT t) 0/\A4.tmp F 9 = .i .i64 k/\A4.tmp F 10 = .p 0 0 0 0/\∀ i,i < j->Ba t (l.getD k 0) (l.getD i 0)=true) ?_ ?_ ?_ 0 _ _ (Nat.zero_le _) hb ⟨rfl,g1,g2,g3,g4,g9,ha,fun i hi=>by omega⟩
        · rintro j F h hj r1 ⟨rfl, r2, r3, r4, r5, r6, r7, r8⟩
          simp only [go_sem,↓reduceIte,r1,r2,r3,r4,r5,r6,r7]
          exact r8
        · rintro j F h hj r1 ⟨rfl, r2, r3, r4, r5, r6, r7, r8⟩
          have hg:j < l.length:=by omega
          have c1:AU has (l.getD j 0)=true:=by
            have:=p6 j hj
            unfold BA at this
            simp only [Bool.and_eq_true] at this
            exact this.1.1.1.1
          obtain ⟨n2,hc,h7⟩:=A8 (hv _ (A9.1 c1))
          have h8:Ba t (l.getD k 0) (l.getD j 0)=(Dr (t.at n) && Dr (t.at n2) && decide ((t.at n).val=(t.at n2).val) && AH t n n2):=by
            unfold Ba;rw [hn,hc,Int.toNat_natCast,Int.toNat_natCast]
          have h6:Ba t (l.getD k 0) (l.getD j 0)=false->BA t l has loc k=false:=fun h=>by rw [h0];exact AP hj h
          have h3:Ba t (l.getD k 0) (l.getD j 0)=true->∀ i,i < j+1->Ba t (l.getD k 0) (l.getD i 0)=true:=fun h i hi=>by
            by_cases e:i=j
            · rw [e];exact h
            · exact r8 i (by omega)
          cases y1:Dr (t.at n)<;>cases y2:Dr (t.at n2)<;>cases y3:decide ((t.at n).val=(t.at n2).val)<;>cases y4:AH t n n2<;>rw [y1,y2,y3,y4] at h8 <;>
            simp only [go_sem,↓reduceIte,r1,r2,r3,r4,r5,r6,r7,Ar hk,Ar hg,hn,hc,A7 h7,A2M C,Ez C t hu,y1,y2,y3,y4]
          all_goals first
            | exact q2 _ _ (by simp only [go_sem,↓reduceIte]) (h6 h8)
            | (have:=h3 h8;rw [hn] at this;exact this)
        · rintro F h ⟨rfl, r2, r3, r4, r5, r6, r7, r8⟩
          exact q1 _ _ r2 r3 r4 r5 r6 (by rw [h0];exact AQ r8)
      have zb:(k=0/\decide ((0:Int) < (k:Int))=false)\/(0 < k/\decide ((0:Int) < (k:Int))=true):=by
        rcases Nat.eq_zero_or_pos k with h | h
        · exact .inl ⟨h,by simp [h]⟩
        · exact .inr ⟨h,by simp;omega⟩
      have hm:k - 1 < l.length:=by omega
      rcases zb with ⟨zk,z0⟩ | ⟨zk,z0⟩
      · have hr : Di l k = true := by rw [h1, zk]; rfl
        simp only [go_sem,↓reduceIte,p1,p2,p3,p4,p5,Ar hk,Ao C has (by omega),Cg,hn,c0,z0,A7 h5]
        repeat' first
          | (refine BT (fun hx=>?_) (fun hx=>?_)<;>simp only [go_sem,↓reduceIte,p1,p2,p3,p4,p5,hx])
          | (refine Bp (fun hx=>?_) (fun hx=>?_)<;>simp only [go_sem,↓reduceIte,p1,p2,p3,p4,p5,hx])
        all_goals first
          | exact h2 (by rw [h0];simp_all)
          | (refine h4 hr (by simp_all) (by simp_all) (by assumption) _ _ ?_ ?_ ?_ ?_ ?_ ?_ ?_ ?_ ?_
             all_goals try simp only [go_sem,↓reduceIte,p1,p2,p3,p4,p5]
             · intro G' e1 e2 e3 e4 e5 e6
               simp only [e1,e2,e3,e4,e5,go_sem]
               exact good e6
             · intro G' h' e1 e2
               simp only [e1,go_sem,h2 e2])
      · have zw := H8 zk (by omega)
        simp only [go_sem,↓reduceIte,p1,p2,p3,p4,p5,Ar hk,Ar hm,Ao C has (by omega),Cg,hn,c0,z0,zw,A7 h5]
        repeat' first
          | (refine BT (fun hx=>?_) (fun hx=>?_)<;>simp only [go_sem,↓reduceIte,p1,p2,p3,p4,p5,Ar hk,hn,hx,A7 h5])
          | (refine Bp (fun hx=>?_) (fun hx=>?_)<;>simp only [go_sem,↓reduceIte,p1,p2,p3,p4,p5,Ar hk,hn,hx,A7 h5])
        all_goals first
          | exact h2 (by rw [h0,h1];simp_all;try omega)
          | (refine h4 (by rw [h1];simp_all) (by simp_all) (by simp_all) (by assumption) _ _ ?_ ?_ ?_ ?_ ?_ ?_ ?_ ?_ ?_
             all_goals try simp only [go_sem,↓reduceIte,p1,p2,p3,p4,p5]
             · intro G' e1 e2 e3 e4 e5 e6
               simp only [e1,e2,e3,e4,e5,go_sem]
               exact good e6
             · intro G' h' e1 e2
               simp only [e1,go_sem,h2 e2])
  · rintro F h ⟨rfl, p2, p3, p4, p5, p6⟩
    simp only [go_sem,↓reduceIte]
    rw [CE,AQ p6];simp [z]
  all_goals simp only [go_sem,↓reduceIte]
  all_goals first | rfl | (intro j hj;omega)
end
end Go.AM
