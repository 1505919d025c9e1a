/-
  Own work, part of the proof of these laws: what functions compute.
-/
import Derived.Test.YthhlhddnndlhkaaGreatDoorKBw
set_option maxRecDepth 10000
set_option maxHeartbeats 64000000
set_option linter.unusedVariables false
set_option linter.unusedSimpArgs false
set_option linter.unusedSectionVars false
namespace Go.AM
open Go Go.Proofs
theorem H8 {k:Nat} (h0:0 < k) (h:k < 9223372036854775807):IntKind.i64.wrap ((k:Int) - 1)=((k - 1:Nat):Int):=by rw [Az (by omega) (by omega)];omega
section
variable {V:At} (C:Aq V) {Q:VV->Prop}
include C
theorem Ao (xs:List Int) (hl:xs.length < 9223372036854775807) (n:Int):VP V A1s [lI xs,.i .i64 n] Q↔Q (.i .i64 (LD xs n)):=A2Q C xs hl n
theorem A2L (t:A1) (ht:t.nodes.length<=1000):VP V VT [vT t] Q↔Q (vW (Gc t)):=by
 refine Ae ?_
 rw [Ad C.c_z179.1 C.c_z179.2]
 simp only [A02,go_sem,↓reduceIte]
 refine Ab (by decide) t.nodes.length (by omega) (I:=fun k F h=>h=[]/\A4.tmp F 1 = .fp (eT t) 0/\A4.tmp F 3=vW (BS fun i=>decide (i < k) && decide ((t.at i).up < 0))) ?_ ?_ ?_ 0 _ _ (Nat.zero_le _) ?_ ?_
 .rintro k F h hk p1 ⟨rfl,p2,p3⟩
  simp only [go_sem,↓reduceIte,p1,p2,p3]
 .rintro k F h hk p1 ⟨rfl,p2,p3⟩
  by_cases e:(t.at k).up < 0
  .simp only [go_sem,↓reduceIte,p1,p2,p3,A7 hk,e,Bi C]
   by_cases h64:k < 64
   .rw [Rq _ _ h64]
    congr 1
    apply BD
    intro j hj
    by_cases e2:j=k
    .subst e2;simp [e]
    .have:(j < k+1)↔(j < k):=by omega
     simp [this,e2]
   .have:C4 (k:Int)=0#64:=by unfold C4;rw [if_neg (by omega)]
    rw [this,BitVec.or_zero]
    congr 1
    apply BD
    intro j hj
    have:(j < k+1)↔(j < k):=by omega
    simp [this]
  .simp only [go_sem,↓reduceIte,p1,p2,p3,A7 hk,e]
   congr 1
   apply BD
   intro j hj
   by_cases e2:j=k
   .subst e2;simp [e]
   .have:(j < k+1)↔(j < k):=by omega
    simp [this]
 .rintro F h ⟨rfl,p2,p3⟩
  simp only [go_sem,↓reduceIte,p3,Gc]
 all_goals simp only [go_sem,↓reduceIte]
 all_goals first | rfl | (rw [<- J8];congr 1;apply BD;intro j hj;simp)
theorem A2T (t:A1) (ht:t.nodes.length<=1000) (l:List Int) (hl:l.length<=1000):VP V V0 [vT t,lI l] Q↔Q (.b (Cz t l)):=by
 refine Ae ?_
 rw [Ad C.c_z124.1 C.c_z124.2]
 simp only [Zv,go_sem,↓reduceIte]
 refine Ab (by decide) l.length (by omega) (I:=fun k F h=>h=[]/\A4.tmp F 1=lI l/\A4.tmp F 2 = .fp (eT t) 0/\∀ j,j < k->Cs t l j=true) ?_ ?_ ?_ 0 _ _ (Nat.zero_le _) ?_ ?_
 .rintro k F h hk p1 ⟨rfl,p2,p3,p4⟩
  simp only [go_sem,↓reduceIte,p1,p2,p3]
  exact p4
 .rintro k F h hk p1 ⟨rfl,p2,p3,p4⟩
  have bad:Cs t l k=false->false=Cz t l:=fun h=>by rw [Cz,AP hk h];rfl
  have good:Cs t l k=true->∀ j,j < k+1->Cs t l j=true:=fun h j hj=>by
   by_cases e:j=k
   .rw [e];exact h
   .exact p4 j (by omega)
  cases c0:BP t (l.getD k 0) with
  | false =>
   simp only [go_sem,↓reduceIte,p1,p2,p3,Ar hk,AA C,c0]
   exact bad (by rw [Cs,c0];rfl)
  | true =>
   obtain ⟨n,hn,hn'⟩:=A8 c0
   have hup:Cs t l k=(Di l k && (decide ((t.at n).up < 0) || AU l (t.at n).up)):=by
    unfold Cs
    rw [c0,hn,Int.toNat_natCast,Bool.true_and]
   rw [hn] at c0
   by_cases z:k=0
   .subst z
    have hr:Di l 0=true:=by simp [Di]
    rw [hr,Bool.true_and] at hup
    have z0:¬ (0:Int) < ((0:Nat):Int):=by omega
    by_cases u0:0<=(t.at n).up
    .have u1:¬ (t.at n).up < 0:=by omega
     rw [decide_eq_false u1,Bool.false_or] at hup
     cases u2:AU l (t.at n).up<;>rw [u2] at hup <;>
      simp only [go_sem,↓reduceIte,p1,p2,p3,Ar hk,AA C,c0,z0,hn,A7 hn',u0,Ao C l (by omega),Cg,u2]
     .exact bad hup
     .exact good hup
    .have u1:(t.at n).up < 0:=by omega
     rw [decide_eq_true u1,Bool.true_or] at hup
     simp only [go_sem,↓reduceIte,p1,p2,p3,Ar hk,AA C,c0,z0,hn,A7 hn',u0]
     exact good hup
   .have z0:(0:Int) < (k:Int):=by omega
    have zw:=H8 (show 0 < k by omega) (by omega)
    have hk1:k - 1 < l.length:=by omega
    have hr:Di l k = !decide ((n:Int)<=l.getD (k - 1) 0):=by
     unfold Di
     rw [decide_eq_false z,Bool.false_or,hn]
     by_cases c:(n:Int)<=l.getD (k - 1) 0
     .rw [decide_eq_true c,decide_eq_false (by omega)];rfl
     .rw [decide_eq_false c,decide_eq_true (by omega)];rfl
    cases c1:decide ((n:Int)<=l.getD (k - 1) 0) with
    | true =>
     rw [c1] at hr
     rw [hr] at hup
     simp only [go_sem,↓reduceIte,p1,p2,p3,Ar hk,AA C,c0,z0,zw,Ar hk1,hn,c1]
     exact bad hup
    | false =>
     rw [c1] at hr
     rw [hr] at hup
     simp only [Bool.not_false,Bool.true_and] at hup
     by_cases u0:0<=(t.at n).up
     .have u1:¬ (t.at n).up < 0:=by omega
      rw [decide_eq_false u1,Bool.false_or] at hup
      cases u2:AU l (t.at n).up<;>rw [u2] at hup <;>
       simp only [go_sem,↓reduceIte,p1,p2,p3,Ar hk,AA C,c0,z0,zw,Ar hk1,hn,c1,A7 hn',u0,Ao C l (by omega),Cg,u2]
      .exact bad hup
      .exact good hup
     .have u1:(t.at n).up < 0:=by omega
      rw [decide_eq_true u1,Bool.true_or] at hup
      simp only [go_sem,↓reduceIte,p1,p2,p3,Ar hk,AA C,c0,z0,zw,Ar hk1,hn,c1,A7 hn',u0]
      exact good hup
 .rintro F h ⟨rfl,p2,p3,p4⟩
  simp only [go_sem,↓reduceIte,p2,p3,A2L C t ht,NF C l (by omega),D4 C]
  rw [Cz,AQ p4];rfl
 all_goals simp only [go_sem,↓reduceIte]
 all_goals first | rfl | (intro j hj;omega)
theorem A2R (t:A1) (hu:Kt t) (l has:List Int) (hl:l.length<=1000) (hh:has.length<=1000) (hv:∀ n∈has,BP t n=true) (loc:Int):VP V V2 [vT t,lI l,lI has,.i .i64 loc] Q↔Q (.b (CE t l has loc)):=by
  refine Ae ?_
  rw [Ad C.c_z125.1 C.c_z125.2]
  by_cases z:l.length=0
  · have z' : (l.length : Int) = 0 := by omega
    simp only [RY,go_sem,↓reduceIte,z']
    simp [CE,z]
  have z':¬ (l.length:Int)=0:=by omega
  simp only [RY,go_sem,↓reduceIte,z']
  refine Ab (by decide) l.length (by omega) (I:=fun k F h=>h=[]/\A4.tmp F 1=lI l/\A4.tmp F 2=lI has/\A4.tmp F 3 = .i .i64 loc/\A4.tmp F 4 = .fp (eT t) 0/\∀ j,j < k->BA t l has loc j=true) ?_ ?_ ?_ 0 _ _ (Nat.zero_le _) ?_ ?_
  · rintro k F h hk p1 ⟨rfl, p2, p3, p4, p5, p6⟩
    simp only [go_sem,↓reduceIte,p1,p2,p3,p4,p5]
    exact p6
  · rintro k F h hk p1 ⟨rfl, p2, p3, p4, p5, p6⟩
    have bad:BA t l has loc k=false->false=CE t l has loc:=fun h=>by rw [CE,AP hk h];simp
    have good:BA t l has loc k=true->∀ j,j < k+1->BA t l has loc j=true:=fun h j hj=>by
      by_cases e:j=k
      · rw [e];exact h
      · exact p6 j (by omega)
    cases c0:AU has (l.getD k 0) with
    | false =>
      simp only [go_sem,↓reduceIte,p1,p2,p3,p4,p5,Ar hk,Ao C has (by omega),Cg,c0]
      exact bad (by rw [BA,c0];rfl)
    | true =>
      obtain ⟨n,hn,hn'⟩:=A8 (hv _ (A9.1 c0))
      have hcls:BA t l has loc k=(Di l k && (decide ((t.at n).kind=3) && decide ((t.at n).loc=loc)) && decide (0<=(t.at n).thread) && (List.range k).all fun j=>Ba t (l.getD k 0) (l.getD j 0)):=by
        unfold BA HT
        rw [c0,hn,Int.toNat_natCast,Bool.true_and]
      have hris:Di l k=(decide (k=0) || decide (l.getD (k - 1) 0 < (n:Int))):=by rw [Di,hn]
      rw [hn] at c0
      have tail:∀ (hr:Di l k=true) (hx1:decide ((t.at n).kind=3)=true) (hx2:decide ((t.at n).loc=loc)=true) (hx3:decide ((t.at n).thread < 0)=false) (G:A4) (Q':Ex->A4->VH->Prop)
          (g1:A4.tmp G 1=lI l) (g2:A4.tmp G 2=lI has) (g3:A4.tmp G 3 = .i .i64 loc) (g4:A4.tmp G 4 = .fp (eT t) 0) (g9:A4.tmp G 9 = .i .i64 k) (g10:A4.tmp G 10 = .p 0 0 0 0) (g11:A4.tmp G 11 = .i .i64 0)
          (q1:∀ G' h',A4.tmp G' 1=lI l->A4.tmp G' 2=lI has->A4.tmp G' 3 = .i .i64 loc->A4.tmp G' 4 = .fp (eT t) 0->A4.tmp G' 9 = .i .i64 k->BA t l has loc k=true->Q' .norm G' h') (q2:∀ G' h',A4.tmp G' 8 = .b false->BA t l has loc k=false->Q' .ret G' h'),
          VL V PZ 2 Adu G [some ⟨Ck,0,0,false,[eN (t.at n)]⟩] Q':=by
        intro hr hx1 hx2 hx3 G Q' g1 g2 g3 g4 g9 g10 g11 q1 q2
        have hx3':decide (0<=(t.at n).thread)=true:=by simp at hx3 ⊢;omega
        rw [hr,hx1,hx2,hx3'] at hcls
        simp only [Bool.and_self,Bool.true_and] at hcls
        refine Ab (by decide) k (by omega) (I:=fun j F h=>h=[some ⟨Ck,0,0,false,[eN (t.at n)]⟩]/\A4.tmp F 1=lI l/\A4.tmp F 2=lI has/\A4.tmp F 3 = .i .i64 loc/\A4.tmp F 4 = .fp (eT t) 0/\A4.tmp F 9 = .i .i64 k/\A4.tmp F 10 = .p 0 0 0 0/\∀ i,i < j->Ba t (l.getD k 0) (l.getD i 0)=true) ?_ ?_ ?_ 0 _ _ (Nat.zero_le _) g11 ⟨rfl,g1,g2,g3,g4,g9,g10,fun i hi=>by omega⟩
        · rintro j F h hj r1 ⟨rfl, r2, r3, r4, r5, r6, r7, r8⟩
          simp only [go_sem,↓reduceIte,r1,r2,r3,r4,r5,r6,r7]
          exact r8
        · rintro j F h hj r1 ⟨rfl, r2, r3, r4, r5, r6, r7, r8⟩
          have hjl:j < l.length:=by omega
          have c1:AU has (l.getD j 0)=true:=by
            have:=p6 j hj
            unfold BA at this
            simp only [Bool.and_eq_true] at this
            exact this.1.1.1.1
          obtain ⟨n2,hn2,hn2'⟩:=A8 (hv _ (A9.1 c1))
          have hsc:Ba t (l.getD k 0) (l.getD j 0)=(Dr (t.at n) && Dr (t.at n2) && decide ((t.at n).val=(t.at n2).val) && AH t n n2):=by
            unfold Ba;rw [hn,hn2,Int.toNat_natCast,Int.toNat_natCast]
          have bad2:Ba t (l.getD k 0) (l.getD j 0)=false->BA t l has loc k=false:=fun h=>by rw [hcls];exact AP hj h
          have good2:Ba t (l.getD k 0) (l.getD j 0)=true->∀ i,i < j+1->Ba t (l.getD k 0) (l.getD i 0)=true:=fun h i hi=>by
            by_cases e:i=j
            · rw [e];exact h
            · exact r8 i (by omega)
          cases y1:Dr (t.at n)<;>cases y2:Dr (t.at n2)<;>cases y3:decide ((t.at n).val=(t.at n2).val)<;>cases y4:AH t n n2<;>rw [y1,y2,y3,y4] at hsc <;>
            simp only [go_sem,↓reduceIte,r1,r2,r3,r4,r5,r6,r7,Ar hk,Ar hjl,hn,hn2,A7 hn2',A2M C,Ez C t hu,y1,y2,y3,y4]
          all_goals first
            | exact q2 _ _ (by simp only [go_sem,↓reduceIte]) (bad2 hsc)
            | (have:=good2 hsc;rw [hn] at this;exact this)
        · rintro F h ⟨rfl, r2, r3, r4, r5, r6, r7, r8⟩
          exact q1 _ _ r2 r3 r4 r5 r6 (by rw [hcls];exact AQ r8)
      have zb:(k=0/\decide ((0:Int) < (k:Int))=false)\/(0 < k/\decide ((0:Int) < (k:Int))=true):=by
        rcases Nat.eq_zero_or_pos k with h | h
        · exact .inl ⟨h,by simp [h]⟩
        · exact .inr ⟨h,by simp;omega⟩
      have hk1:k - 1 < l.length:=by omega
      rcases zb with ⟨zk,z0⟩ | ⟨zk,z0⟩
      · have hr : Di l k = true := by rw [hris, zk]; rfl
        simp only [go_sem,↓reduceIte,p1,p2,p3,p4,p5,Ar hk,Ao C has (by omega),Cg,hn,c0,z0,A7 hn']
        repeat' first
          | (refine BT (fun hx=>?_) (fun hx=>?_)<;>simp only [go_sem,↓reduceIte,p1,p2,p3,p4,p5,hx])
          | (refine Bp (fun hx=>?_) (fun hx=>?_)<;>simp only [go_sem,↓reduceIte,p1,p2,p3,p4,p5,hx])
        all_goals first
          | exact bad (by rw [hcls];simp_all)
          | (refine tail hr (by simp_all) (by simp_all) (by assumption) _ _ ?_ ?_ ?_ ?_ ?_ ?_ ?_ ?_ ?_
             all_goals try simp only [go_sem,↓reduceIte,p1,p2,p3,p4,p5]
             · intro G' e1 e2 e3 e4 e5 e6
               simp only [e1,e2,e3,e4,e5,go_sem]
               exact good e6
             · intro G' h' e1 e2
               simp only [e1,go_sem,bad e2])
      · have zw := H8 zk (by omega)
        simp only [go_sem,↓reduceIte,p1,p2,p3,p4,p5,Ar hk,Ar hk1,Ao C has (by omega),Cg,hn,c0,z0,zw,A7 hn']
        repeat' first
          | (refine BT (fun hx=>?_) (fun hx=>?_)<;>simp only [go_sem,↓reduceIte,p1,p2,p3,p4,p5,Ar hk,hn,hx,A7 hn'])
          | (refine Bp (fun hx=>?_) (fun hx=>?_)<;>simp only [go_sem,↓reduceIte,p1,p2,p3,p4,p5,Ar hk,hn,hx,A7 hn'])
        all_goals first
          | exact bad (by rw [hcls,hris];simp_all;try omega)
          | (refine tail (by rw [hris];simp_all) (by simp_all) (by simp_all) (by assumption) _ _ ?_ ?_ ?_ ?_ ?_ ?_ ?_ ?_ ?_
             all_goals try simp only [go_sem,↓reduceIte,p1,p2,p3,p4,p5]
             · intro G' e1 e2 e3 e4 e5 e6
               simp only [e1,e2,e3,e4,e5,go_sem]
               exact good e6
             · intro G' h' e1 e2
               simp only [e1,go_sem,bad e2])
  · rintro F h ⟨rfl, p2, p3, p4, p5, p6⟩
    simp only [go_sem,↓reduceIte]
    rw [CE,AQ p6];simp [z]
  all_goals simp only [go_sem,↓reduceIte]
  all_goals first | rfl | (intro j hj;omega)
end
end Go.AM
