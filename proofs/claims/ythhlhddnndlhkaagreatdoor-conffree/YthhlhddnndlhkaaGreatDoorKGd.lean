/-
  Own work, part of the proof of these laws: what functions compute.
-/
import Derived.Test.YthhlhddnndlhkaaGreatDoorKFd
set_option maxRecDepth 10000
set_option maxHeartbeats 64000000
set_option linter.unusedVariables false
set_option linter.unusedSimpArgs false
set_option linter.unusedSectionVars false
open Int (toNat_natCast)
namespace Go.AM
open Go Go.Proofs
abbrev cfL (t:A1):Rows:=Ak t.nodes.length fun a b=>AH t a b
abbrev eFm (t:A1) (s:A6):List VV:=[.i .i64 t.vals,lS t.locs,.ls (t.regs.map JE),.ls (t.nodes.map eN),lI s.has,lI s.jf,.ls (s.mo.map DD),vW (Cc s.has),lW (cfL t)]
theorem Ase:min 4 9=4:=rfl
theorem mn3:min 3 5=3:=rfl
section
variable {V:At} (C:Aq V) {Q:VV->Prop}
include C
theorem Acq (t:A1) (ht:A5 t) (s:A6) (hs:DL s):VP V UQ [vT t,Dy s] Q↔Q (.fp (eFm t s) 0):=by
 refine Ae ?_
 rw [Ad C.c_z107.1 C.c_z107.2]
 have hh:=hs.has
 have s1:=fun (Q:VV->Prop)=>HC C t ht (Q:=Q)
 simp only [Zq,go_sem,↓reduceIte,s1,MR C s.has (by omega),Ase,mn3]
theorem Kp (t:A1) (ht:A5 t) (s:A6) (hn:Cu t s.has) (n loc:Int):VP V Vz [.fp (eFm t s) 0,.i .i64 n,.i .i64 loc] Q↔Q (.b (BK t s.has n loc)):=by
 refine Ae ?_
 rw [Ad C.c_z159.1 C.c_z159.2]
 have h0:=ht.n64
 cases c1:AU s.has n with
 | false =>
  simp only [S3,go_sem,↓reduceIte,AN C,hn.has h0,c1]
  simp [BK,c1]
 | true =>
  obtain ⟨m,rfl,hm⟩:=A8 (hn n (A9.1 c1))
  have e:BK t s.has m loc=(decide ((t.at m).kind=3) && decide ((t.at m).loc=loc)):=by
   unfold BK HT;rw [c1,toNat_natCast,Bool.true_and]
  cases c2:decide ((t.at m).kind=3)<;>cases c3:decide ((t.at m).loc=loc)<;>rw [c2,c3] at e <;>
   simp only [S3,go_sem,↓reduceIte,AN C,hn.has h0,c1,A7 hm,c2,c3]<;>first | exact e.symm | (rw [e];rfl)
theorem A2X (t:A1) (ht:A5 t) (s:A6) (n:Nat) (hn:n < t.nodes.length) (l:List Int) (hl:l.length<=1000) (hv:Cu t l):VP V We [.fp (eFm t s) 0,.i .i64 n,lI l] Q↔Q (.b (l.all fun m=>Ba t n m)):=by
 refine Ae ?_
 rw [Ad C.c_z200.1 C.c_z200.2]
 have h8:=ht.n64
 simp only [A0h,go_sem,↓reduceIte]
 refine Ag (by decide) l.length (by omega) (I:=fun k F h=>A4.tmp F 0 = .fp (eFm t s) 0/\A4.tmp F 1 = .i .i64 n/\A4.tmp F 11=lI l/\h=[]/\∀ (j:Nat) (hj:j < l.length),j < k->Ba t n l[j]=true) ?_ ?_ 0 _ _ (by omega) ?_ ?_ ?_
 .rintro k F h hk h4 h3 ⟨p0,p1,h0,rfl,p2⟩
  obtain ⟨m,h6,hm⟩:=A8 (hv l[k] (List.getElem_mem hk))
  have h1:l[k]? = some (m:Int):=by rw [List.getElem?_eq_getElem hk,h6]
  have e:Ba t n m=(Dr (t.at n) && Dr (t.at m) && decide ((t.at n).val=(t.at m).val) && AH t n m):=by
   unfold Ba;rw [toNat_natCast,toNat_natCast]
  have h7:(cfL t)[n]? = some (BS fun b=>decide (b < t.nodes.length) && AH t n b):=Bm hn
  have h2:Bc (BS fun b=>decide (b < t.nodes.length) && AH t n b) (m:Int)=AH t n m:=by
   have:=Gq (p:=fun a b=>AH t a b) h8 hn hm
   rw [List.getD_eq_getElem?_getD,Bm hn,Option.getD_some] at this
   exact this
  have h5:Ba t n m=false->false=l.all fun m=>Ba t n m:=fun h=>by
   rw [eq_comm,List.all_eq_false]
   exact ⟨l[k],List.getElem_mem hk,by rw [h6,h];simp⟩
  have good:Ba t n m=true->∀ (j:Nat) (hj:j < l.length),j < k+1->Ba t n l[j]=true:=fun h j hj h9=>by
   by_cases e:j=k
   .subst e;rw [h6];exact h
   .exact p2 j hj (by omega)
  cases c1:Dr (t.at n) with
  | false =>
   simp only [go_sem,↓reduceIte,h4,h3,p0,p1,h0,hk,h1,A7 hn,A7 hm,Ct C,c1,A0]
   exact h5 (by rw [e,c1];rfl)
  | true =>
  cases c2:Dr (t.at m) with
  | false =>
   simp only [go_sem,↓reduceIte,h4,h3,p0,p1,h0,hk,h1,A7 hn,A7 hm,Ct C,c1,c2,A0]
   exact h5 (by rw [e,c1,c2];rfl)
  | true =>
  cases c3:decide ((t.at n).val=(t.at m).val) with
  | false =>
   simp only [go_sem,↓reduceIte,h4,h3,p0,p1,h0,hk,h1,A7 hn,A7 hm,Ct C,c1,c2,c3,A0]
   exact h5 (by rw [e,c1,c2,c3];rfl)
  | true =>
  cases c4:AH t n m with
  | false =>
   simp only [go_sem,↓reduceIte,h4,h3,p0,p1,h0,hk,h1,A7 hn,A7 hm,Ct C,c1,c2,c3,h7,AN C,h2,c4,A0]
   exact h5 (by rw [e,c1,c2,c3,c4];rfl)
  | true =>
   simp only [go_sem,↓reduceIte,h4,h3,p0,p1,h0,hk,h1,A7 hn,A7 hm,Ct C,c1,c2,c3,h7,AN C,h2,c4,A0]
   exact good (by rw [e,c1,c2,c3,c4];rfl)
 .rintro F h ⟨p0,p1,h0,rfl,p2⟩
  simp only [go_sem,↓reduceIte,p0,p1,h0]
  rw [eq_comm,List.all_eq_true]
  intro x hx
  obtain ⟨j,hj,rfl⟩:=List.mem_iff_getElem.1 hx
  exact p2 j hj hj
 .simp only [go_sem,↓reduceIte]
 .simp only [go_sem,↓reduceIte]
 .simp only [go_sem,↓reduceIte]
  intro j hj h9;omega
theorem A2W (t:A1) (ht:A5 t) (s:A6) (hn:Cu t s.has) (l:List Int) (hl:l.length<=1000) (loc:Int):VP V VB [.fp (eFm t s) 0,lI l,.i .i64 loc] Q↔Q (.b (GR t l s.has loc)):=by
 refine Ae ?_
 rw [Ad C.c_z161.1 C.c_z161.2]
 have hc:=ht.n64
 simp only [ZS,go_sem,↓reduceIte]
 refine Ag (by decide) l.length (by omega) (I:=fun k F h=>A4.tmp F 0 = .fp (eFm t s) 0/\A4.tmp F 1=lI l/\A4.tmp F 2 = .i .i64 loc/\A4.tmp F 9=lI l/\h=[]/\∀ j,j < k->Ga t l s.has loc j=true) ?_ ?_ 0 _ _ (by omega) ?_ ?_ ?_
 .rintro k F h hk h3 h2 ⟨p0,p1,p2,p9,rfl,p3⟩
  have h4:Ga t l s.has loc k=false->false=GR t l s.has loc:=fun h=>by rw [GR,AP hk h];rfl
  have hw:=fun (n loc:Int) (Q:VV->Prop)=>Kp C t ht s hn n loc (Q:=Q)
  cases c1:BK t s.has (l.getD k 0) loc with
  | false =>
   simp only [go_sem,↓reduceIte,h3,h2,p0,p1,p2,p9,Ar hk,hk,hw,c1,A0]
   exact h4 (by rw [Ga,c1];rfl)
  | true =>
  have h9:AU s.has (l.getD k 0)=true:=by simp only [BK,Bool.and_eq_true] at c1;exact c1.1
  obtain ⟨m,h0,hm⟩:=A8 (hn _ (A9.1 h9))
  have e0:Ga t l s.has loc k=(decide (0<=(t.at m).thread) && Di l k && (!decide (1 < l.length) || Dr (t.at m)) && (decide (k=0) || (l.take k).all fun x=>Ba t m x)):=by
   unfold Ga;rw [c1,h0,toNat_natCast];rfl
  have h1:Di l k=(decide (k=0) || decide (l.getD (k - 1) 0 < (m:Int))):=by rw [Di,h0]
  rw [h0] at c1
  cases c2:decide ((t.at m).thread < 0) with
  | true =>
   simp only [go_sem,↓reduceIte,h3,h2,p0,p1,p2,p9,Ar hk,hk,hw,c1,A0,h0,A7 hm,c2]
   have:decide (0<=(t.at m).thread)=false:=by have:=of_decide_eq_true c2;exact decide_eq_false (by omega)
   exact h4 (by rw [e0,this];rfl)
  | false =>
  have ha:decide (0<=(t.at m).thread)=true:=by have:=of_decide_eq_false c2;exact decide_eq_true (by omega)
  rw [ha,Bool.true_and] at e0
  have pl:∀ b,decide ((1:Int) < l.length)=b->decide (1 < l.length)=b:=fun b h=>by rw [<- h];congr 1;exact propext ⟨fun h=>by omega,fun h=>by omega⟩
  by_cases z:k=0
  .subst z
   have r0:Di l 0=true:=by rw [h1];rfl
   rw [r0,Bool.true_and] at e0
   cases c5:decide ((1:Int) < l.length) with
   | false =>
    rw [pl _ c5] at e0
    simp only [go_sem,↓reduceIte,h3,h2,p0,p1,p2,p9,Ar hk,hk,hw,c1,A0,h0,A7 hm,c2,c5,dz0]
    exact HI p3 (by rw [e0];rfl)
   | true =>
    rw [pl _ c5] at e0
    cases c6:Dr (t.at m) with
    | false =>
     simp only [go_sem,↓reduceIte,h3,h2,p0,p1,p2,p9,Ar hk,hk,hw,c1,A0,h0,A7 hm,c2,c5,c6,dz0,Ct C]
     exact h4 (by rw [e0,c6];rfl)
    | true =>
     simp only [go_sem,↓reduceIte,h3,h2,p0,p1,p2,p9,Ar hk,hk,hw,c1,A0,h0,A7 hm,c2,c5,c6,dz0,Ct C]
     exact HI p3 (by rw [e0,c6];rfl)
  .have z0:decide ((0:Int) < (k:Int))=true:=decide_eq_true (by omega)
   have h5:k - 1 < l.length:=by omega
   have zw:=H8 (show 0 < k by omega) (by omega)
   have h6:decide ((1:Int) < l.length)=true:=decide_eq_true (by omega)
   rw [pl _ h6,decide_eq_false z,Bool.false_or] at e0
   rw [decide_eq_false z,Bool.false_or] at h1
   have hb:Cu t (l.take k):=by
    intro x hx
    obtain ⟨j,hj,rfl⟩:=List.mem_iff_getElem.1 hx
    rw [List.length_take] at hj
    rw [List.getElem_take]
    have:=p3 j (by omega)
    simp only [Ga,BK,Bool.and_eq_true] at this
    have:=hn _ (A9.1 this.1.1.1.1.1)
    rw [List.getD_eq_getElem?_getD,List.getElem?_eq_getElem (by omega)] at this
    exact this
   have h8:k<=l.length:=by omega
   have h7:=fun (Q:VV->Prop)=>A2X C t ht s m hm (l.take k) (by rw [List.length_take];omega) hb (Q:=Q)
   cases c4:decide ((m:Int)<=l.getD (k - 1) 0) with
   | true =>
    have r1:Di l k=false:=by rw [h1];have:=of_decide_eq_true c4;exact decide_eq_false (by omega)
    simp only [go_sem,↓reduceIte,h3,h2,p0,p1,p2,p9,Ar hk,Ar h5,hk,hw,c1,A0,h0,A7 hm,c2,z0,zw,c4]
    exact h4 (by rw [e0,r1];rfl)
   | false =>
    have r1:Di l k=true:=by rw [h1];have:=of_decide_eq_false c4;exact decide_eq_true (by omega)
    rw [r1,Bool.true_and] at e0
    cases c6:Dr (t.at m) with
    | false =>
     simp only [go_sem,↓reduceIte,h3,h2,p0,p1,p2,p9,Ar hk,Ar h5,hk,hw,c1,A0,h0,A7 hm,c2,z0,zw,c4,h6,c6,Ct C]
     exact h4 (by rw [e0,c6];rfl)
    | true =>
     rw [c6,Bool.or_true,Bool.true_and] at e0
     cases c7:(l.take k).all fun x=>Ba t m x with
     | false =>
      simp only [go_sem,↓reduceIte,h3,h2,p0,p1,p2,p9,Ar hk,Ar h5,hk,hw,c1,A0,h0,A7 hm,c2,z0,zw,c4,h6,c6,Ct C,h7,c7,h8]
      exact h4 (by rw [e0];exact c7)
     | true =>
      simp only [go_sem,↓reduceIte,h3,h2,p0,p1,p2,p9,Ar hk,Ar h5,hk,hw,c1,A0,h0,A7 hm,c2,z0,zw,c4,h6,c6,Ct C,h7,c7,h8]
      exact HI p3 (by rw [e0];exact c7)
 .rintro F h ⟨p0,p1,p2,p9,rfl,p3⟩
  simp only [go_sem,↓reduceIte,p0,p1,p2,p9]
  rw [GR,AQ p3]
  simp
 .simp only [go_sem,↓reduceIte]
 .simp only [go_sem,↓reduceIte]
 .simp only [go_sem,↓reduceIte]
  intro j hj;omega
theorem A2Y (t:A1) (ht:A5 t) (s:A6) (hs:DL s):VP V Q7 [.fp (eFm t s) 0] Q↔Q (.b (Cz t s.has)):=by
 refine Ae ?_
 rw [Ad C.c_z108.1 C.c_z108.2]
 have h8:=ht.n64
 have hh:=hs.has
 generalize hl:s.has=l at *
 simp only [Zr,go_sem,↓reduceIte,hl]
 refine Ag (by decide) l.length (by omega) (I:=fun k F h=>A4.tmp F 0 = .fp (eFm t s) 0/\A4.tmp F 10=lI l/\h=[]/\∀ j,j < k->Cs t l j=true) ?_ ?_ 0 _ _ (by omega) ?_ ?_ ?_
 .rintro k F h hk h3 h2 ⟨p0,h0,rfl,p3⟩
  have h4:Cs t l k=false->false=Cz t l:=fun h=>by rw [Cz,AP hk h];rfl
  cases c0:BP t (l.getD k 0) with
  | false =>
   have cc:decide (l.getD k 0 < 0)=true\/(decide (l.getD k 0 < 0)=false/\decide ((t.nodes.length:Int)<=l.getD k 0)=true):=by
    simp only [BP,Bool.and_eq_false_iff,decide_eq_false_iff_not] at c0
    by_cases d:l.getD k 0 < 0
    .exact .inl (decide_eq_true d)
    .exact .inr ⟨decide_eq_false d,decide_eq_true (by omega)⟩
   rcases cc with cc | ⟨cc,cc2⟩
   .simp only [go_sem,↓reduceIte,h3,h2,p0,h0,Ar hk,hk,cc,A0,hl]
    exact h4 (by rw [Cs,c0];rfl)
   .simp only [go_sem,↓reduceIte,h3,h2,p0,h0,Ar hk,hk,cc,cc2,A0,hl]
    exact h4 (by rw [Cs,c0];rfl)
  | true =>
  obtain ⟨m,h1,hm⟩:=A8 c0
  have q1:decide ((m:Int) < 0)=false:=decide_eq_false (by omega)
  have q2:decide ((t.nodes.length:Int)<=m)=false:=decide_eq_false (by omega)
  have q3:decide (t.nodes.length<=m)=false:=decide_eq_false (by omega)
  have h9:=ht.up m hm
  have e0:Cs t l k=(Di l k && (decide ((t.at m).up < 0) || AU l (t.at m).up)):=by
   unfold Cs;rw [c0,h1,toNat_natCast,Bool.true_and]
  have h5:Di l k=(decide (k=0) || decide (l.getD (k - 1) 0 < (m:Int))):=by rw [Di,h1]
  have h7:(decide (0<=(t.at m).up)=true/\decide ((t.at m).up < 0)=false/\Bc (Cc l) (t.at m).up=AU l (t.at m).up)\/(decide (0<=(t.at m).up)=false/\decide ((t.at m).up < 0)=true):=by
   by_cases d:0<=(t.at m).up
   .exact .inl ⟨decide_eq_true d,decide_eq_false (by omega),Lo l d (by omega)⟩
   .exact .inr ⟨decide_eq_false d,decide_eq_true (by omega)⟩
  have zc:(decide ((0:Int) < (k:Int))=false/\Di l k=true)\/(decide ((0:Int) < (k:Int))=true/\0 < k/\Di l k=decide (l.getD (k - 1) 0 < (m:Int))):=by
   by_cases z:k=0
   .subst z;exact .inl ⟨rfl,by rw [h5];rfl⟩
   .exact .inr ⟨decide_eq_true (by omega),by omega,by rw [h5,decide_eq_false z,Bool.false_or]⟩
  rcases zc with ⟨z0,r1⟩ | ⟨z0,zp,r0⟩
  .rw [r1,Bool.true_and] at e0
   rcases h7 with ⟨u1,u2,u3⟩ | ⟨u1,u2⟩
   .rw [u2,Bool.false_or] at e0
    cases c5:AU l (t.at m).up with
    | false =>
     simp only [go_sem,↓reduceIte,h3,h2,p0,h0,Ar hk,hk,h1,q1,q2,q3,z0,A7 hm,u1,u3,c5,A0,AN C,hl]
     exact h4 (by rw [e0,c5])
    | true =>
     simp only [go_sem,↓reduceIte,h3,h2,p0,h0,Ar hk,hk,h1,q1,q2,q3,z0,A7 hm,u1,u3,c5,A0,AN C,hl]
     exact HI p3 (by rw [e0,c5])
   .simp only [go_sem,↓reduceIte,h3,h2,p0,h0,Ar hk,hk,h1,q1,q2,q3,z0,A7 hm,u1,A0,AN C,hl]
    exact HI p3 (by rw [e0,u2];rfl)
  .have h6:k - 1 < l.length:=by omega
   have zw:=H8 zp (by omega)
   cases c4:decide ((m:Int)<=l.getD (k - 1) 0) with
   | true =>
    have r1:Di l k=false:=by rw [r0];have:=of_decide_eq_true c4;exact decide_eq_false (by omega)
    simp only [go_sem,↓reduceIte,h3,h2,p0,h0,Ar hk,Ar h6,hk,h1,q1,q2,q3,z0,zw,c4,A0,hl]
    exact h4 (by rw [e0,r1];rfl)
   | false =>
    have r1:Di l k=true:=by rw [r0];have:=of_decide_eq_false c4;exact decide_eq_true (by omega)
    rw [r1,Bool.true_and] at e0
    rcases h7 with ⟨u1,u2,u3⟩ | ⟨u1,u2⟩
    .rw [u2,Bool.false_or] at e0
     cases c5:AU l (t.at m).up with
     | false =>
      simp only [go_sem,↓reduceIte,h3,h2,p0,h0,Ar hk,Ar h6,hk,h1,q1,q2,q3,z0,zw,c4,A7 hm,u1,u3,c5,A0,AN C,hl]
      exact h4 (by rw [e0,c5])
     | true =>
      simp only [go_sem,↓reduceIte,h3,h2,p0,h0,Ar hk,Ar h6,hk,h1,q1,q2,q3,z0,zw,c4,A7 hm,u1,u3,c5,A0,AN C,hl]
      exact HI p3 (by rw [e0,c5])
    .simp only [go_sem,↓reduceIte,h3,h2,p0,h0,Ar hk,Ar h6,hk,h1,q1,q2,q3,z0,zw,c4,A7 hm,u1,A0,AN C,hl]
     exact HI p3 (by rw [e0,u2];rfl)
 .rintro F h ⟨p0,h0,rfl,p3⟩
  have s1:=fun (Q:VV->Prop)=>RC C t ht (Q:=Q)
  simp only [go_sem,↓reduceIte,p0,h0,s1,Hb C,hl]
  rw [Cz,AQ p3,Xn,Bool.true_and]
 .simp only [go_sem,↓reduceIte,hl]
 .simp only [go_sem,↓reduceIte,hl]
 .simp only [go_sem,↓reduceIte,hl]
  intro j hj;omega
theorem Rr (t:A1) (ht:A5 t) (s:A6) (hs:DL s) (hn:Cu t s.has):VP V Q8 [.fp (eFm t s) 0] Q↔Q (.b (Pa t s)):=by
 refine Ae ?_
 rw [Ad C.c_z109.1 C.c_z109.2]
 have hc:=ht.n64
 have hh:=hs.has
 by_cases c2:¬ s.jf.length=s.has.length
 .have ha:¬ (s.jf.length:Int)=s.has.length:=by omega
  simp only [RR,go_sem,↓reduceIte,ha]
  rw [Pa,decide_eq_false c2];rfl
 have c2:=Decidable.not_not.1 c2
 have ha:(s.jf.length:Int)=s.has.length:=by omega
 simp only [RR,go_sem,↓reduceIte,ha]
 refine Ag (by decide) s.has.length (by omega) (I:=fun k F h=>A4.tmp F 0 = .fp (eFm t s) 0/\A4.tmp F 24=lI s.has/\h=[]/\∀ j,j < k->Jl t s j=true) ?_ ?_ 0 _ _ (by omega) ?_ ?_ ?_
 .rintro k F h hk h7 h6 ⟨p0,h1,rfl,p3⟩
  have h9:Jl t s k=false->false=Pa t s:=fun h=>by rw [Pa,AP hk h,Bool.and_false]
  have h0:k < s.jf.length:=by omega
  have hw:=fun (n loc:Int) (Q:VV->Prop)=>Kp C t ht s hn n loc (Q:=Q)
  obtain ⟨n,h2,h4⟩:=A8 (hn _ (Ai (d:=0) hk))
  have h3:Jl t s k=if (t.at n).kind=2 then AU s.has (s.jf.getD k 0) && HT t (s.jf.getD k 0) (t.at n).loc && decide ((t.at (s.jf.getD k 0).toNat).val=(t.at n).val) else decide (s.jf.getD k 0 = -1):=by
   unfold Jl;rw [h2,toNat_natCast]
  by_cases k2:(t.at n).kind=2
  .rw [if_pos k2] at h3
   cases w1:BK t s.has (s.jf.getD k 0) (t.at n).loc with
   | false =>
    simp only [go_sem,↓reduceIte,h7,h6,p0,h1,Ar hk,hk,Ar h0,h0,h2,A7 h4,k2,hw,w1,A0]
    exact h9 (by rw [h3,show (AU s.has (s.jf.getD k 0) && HT t (s.jf.getD k 0) (t.at n).loc)=BK t s.has (s.jf.getD k 0) (t.at n).loc from rfl,w1];rfl)
   | true =>
   have w2:AU s.has (s.jf.getD k 0)=true:=by simp only [BK,Bool.and_eq_true] at w1;exact w1.1
   obtain ⟨m,h8,hb⟩:=A8 (hn _ (A9.1 w2))
   have h5:Jl t s k=decide ((t.at m).val=(t.at n).val):=by
    rw [h3,show (AU s.has (s.jf.getD k 0) && HT t (s.jf.getD k 0) (t.at n).loc)=BK t s.has (s.jf.getD k 0) (t.at n).loc from rfl,w1,h8,toNat_natCast,Bool.true_and]
   rw [h8] at w1
   cases x3:decide ((t.at m).val=(t.at n).val) with
   | false =>
    simp only [go_sem,↓reduceIte,h7,h6,p0,h1,Ar hk,hk,Ar h0,h0,h2,A7 h4,k2,hw,w1,h8,A7 hb,x3,A0]
    exact h9 (by rw [h5,x3])
   | true =>
    simp only [go_sem,↓reduceIte,h7,h6,p0,h1,Ar hk,hk,Ar h0,h0,h2,A7 h4,k2,hw,w1,h8,A7 hb,x3,A0]
    exact HI p3 (by rw [h5,x3])
  .rw [if_neg k2] at h3
   cases w1:decide (s.jf.getD k 0 = -1) with
   | false =>
    simp only [go_sem,↓reduceIte,h7,h6,p0,h1,Ar hk,hk,Ar h0,h0,h2,A7 h4,k2,w1,A0]
    exact h9 (by rw [h3,w1])
   | true =>
    simp only [go_sem,↓reduceIte,h7,h6,p0,h1,Ar hk,hk,Ar h0,h0,h2,A7 h4,k2,w1,A0]
    exact HI p3 (by rw [h3,w1])
 .rintro F h ⟨p0,h1,rfl,p3⟩
  simp only [go_sem,↓reduceIte,p0,h1]
  rw [Pa,decide_eq_true c2,AQ p3];rfl
 .simp only [go_sem,↓reduceIte]
 .simp only [go_sem,↓reduceIte]
 .simp only [go_sem,↓reduceIte]
  intro j hj;omega
end
abbrev hAl (i:Nat) (l:List Int):VH:=[some ⟨AO,1,i,false,l.map eI⟩]
theorem Adj:∀ (l:List (List Int)),(∀ c∈l,c.length<=1000)->l.flatten.length<=1000 * l.length:=by
 intro l
 induction l with
 | nil=>intro _;simp
 | cons c l ih =>
  intro h
  have h1:=h c List.mem_cons_self
  have h2:=ih fun d hd=>h d (List.mem_cons_of_mem _ hd)
  rw [List.flatten_cons,List.length_append,List.length_cons]
  omega
theorem Afw (L:Nat) (l:List Int):(l.map eI).all (Db L)=true:=by
 rw [List.all_eq_true]
 intro r hr
 obtain ⟨x,_,rfl⟩:=List.mem_map.1 hr
 rfl
section
variable {V:At} (C:Aq V) {Q:VV->Prop}
include C
theorem A26 (t:A1) (ht:A5 t) (s:A6) (hs:DL s) (hn:Cu t s.has):VP V Q9 [.fp (eFm t s) 0] Q↔Q (.b (Gn t s)):=by
 refine Ae ?_
 rw [Ad C.c_z110.1 C.c_z110.2]
 have qd:=ht.n64
 have hh:=hs.has
 have qi:=hs.mo
 by_cases c2:¬ s.mo.length=t.locs.length
 .have ha:¬ (s.mo.length:Int)=t.locs.length:=by omega
  simp only [RS,go_sem,↓reduceIte,ha]
  rw [Gn,decide_eq_false c2];rfl
 have c2:=Decidable.not_not.1 c2
 have ha:(s.mo.length:Int)=t.locs.length:=by omega
 simp only [RS,go_sem,↓reduceIte,ha]
 refine Ag (by decide) s.mo.length (by omega) (I:=fun k F h=>A4.tmp F 0 = .fp (eFm t s) 0/\A4.tmp F 28 = .ls (s.mo.map DD)/\h=[]/\∀ j,j < k->Ph t s j=true) ?_ ?_ 0 _ _ (by omega) ?_ ?_ ?_
 .rintro k F h hk h6 h5 ⟨p0,h3,rfl,p3⟩
  have h8:Ph t s k=false->false=Gn t s:=fun h=>by rw [Gn,AP hk h,Bool.and_false]
  have qh:=hs.mi' k
  have hu:=hs.mc' k
  have ho:=C1 hk
  generalize hm:s.mo.getD k []=m at *
  by_cases z:m.length=0
  .have z':(m.length:Int)=0:=by omega
   simp only [go_sem,↓reduceIte,h6,h5,p0,h3,ho,hk,z',A0]
   exact h8 (by simp only [Ph,hm,z];simp)
  have z':¬ (m.length:Int)=0:=by omega
  have z0:0 < m.length:=by omega
  have hr:∀ (Q:VV->Prop),VP V Qd [.ls ((m.getD 0 []).map eI),.ls [[.i .i64 k]]] Q↔Q (.b (decide (m.getD 0 []=[(k:Int)]))):=fun Q=>A27 C (m.getD 0 []) [(k:Int)] (by have:=hu 0;omega) (Q:=Q)
  cases z3:decide (m.getD 0 []=[(k:Int)]) with
  | false =>
   simp only [go_sem,↓reduceIte,h6,h5,p0,h3,ho,hk,z',ET z0,hr,z3,A0]
   exact h8 (by simp only [Ph,hm,z3,Bool.and_false,Bool.false_and])
  | true =>
  have hN:1<=m.length:=z0
  obtain ⟨D,hD⟩:∃ D,D=m.drop 1:=⟨_,rfl⟩
  have q6:D.length=m.length - 1:=by rw [hD,List.length_drop]
  have qa:(m.drop 1).take (m.length - 1)=D:=by rw [<- hD,List.take_of_length_le (by omega)]
  have hp:min (m.length - 1) (m.length - 1)=D.length:=by rw [Nat.min_self,q6]
  have hl:∀ c∈D,c.length<=1000:=by
   intro c hc
   obtain ⟨i,hi,rfl⟩:=List.mem_iff_getElem.1 (List.mem_of_mem_drop (hD ▸ hc))
   have:=hu i
   rw [List.getD_eq_getElem?_getD,List.getElem?_eq_getElem hi] at this
   exact this
  have h4:NN m k=(k:Int)::D.flatten:=by rw [NN,hD]
  have hd:Ph t s k=(D.all (fun c=>GR t c s.has k) && decide ((NN m k).length=HM t s k) && decide ((Ca (Cc (NN m k))).length=HM t s k)):=by
   simp only [Ph,hm,z3,decide_eq_false z,Bool.not_false,Bool.true_and,<- hD]
  simp only [go_sem,↓reduceIte,h6,h5,p0,h3,ho,hk,z',ET z0,hr,z3,hN,qa,hp,A0]
  refine Ag (by decide) D.length (by omega) (I:=fun i F h=>A4.tmp F 0 = .fp (eFm t s) 0/\A4.tmp F 28 = .ls (s.mo.map DD)/\A4.tmp F 3 = .i .i64 k/\A4.tmp F 30 = .i .i64 k/\A4.tmp F 29 = .i .i64 s.mo.length/\A4.tmp F 50 = .ls (D.map Hv)/\A4.tmp F 5 = .sl 0 i 0 ((D.take i).flatten.length+1)/\h=hAl i ((k:Int)::(D.take i).flatten)/\∀ (j:Nat) (hj:j < D.length),j < i->GR t D[j] s.has k=true) ?_ ?_ 0 _ _ (by omega) ?_ ?_ ?_
  .rintro i F h hi hz hy ⟨q0,h0,q3,h2,h1,hf,q5,rfl,q4⟩
   have q7:=hl _ (List.getElem_mem hi)
   have hq:=fun (Q:VV->Prop)=>A2W C t ht s hn D[i] q7 k (Q:=Q)
   have h9:D[i]? = some D[i]:=List.getElem?_eq_getElem hi
   have qb:=Adj (D.take i) (fun c hc=>hl c (List.mem_of_mem_take hc))
   rw [List.length_take] at qb
   have b1:((D.take i).flatten.length+1+D[i].length) * 8<=Aa:=by unfold Aa;omega
   have he:(D.take (i+1)).flatten=(D.take i).flatten++D[i]:=by rw [List.take_succ_eq_append_getElem hi,List.flatten_append];simp
   cases c4:GR t D[i] s.has k with
   | false =>
    simp only [go_sem,↓reduceIte,hz,hy,q0,h0,q3,h2,h1,hf,q5,hi,h9,hq,c4,A0]
    exact h8 (by rw [hd,show D.all (fun c=>GR t c s.has k)=false from List.all_eq_false.2 ⟨D[i],List.getElem_mem hi,by rw [c4];simp⟩];rfl)
   | true =>
    simp only [go_sem,↓reduceIte,hz,hy,q0,h0,q3,h2,h1,hf,q5,hi,h9,hq,c4,b1,he,A0]
    obtain ⟨y,ys,qc⟩:∃ y ys,D[i]=y::ys:=by
     cases h:D[i] with
     | nil=>rw [h] at c4;simp [GR] at c4
     | cons y ys=>exact ⟨y,ys,rfl⟩
    have e1:(List.map eI D[i])=eI y::List.map eI ys:=by rw [qc];rfl
    have e2:eI (k:Int)::(List.map eI (List.take i D).flatten++List.map eI D[i])=((k:Int)::((List.take i D).flatten++D[i])).map eI:=by rw [List.map_cons,List.map_append]
    rw [e2,e1]
    refine ⟨⟨.inr (fun x hx=>by cases hx;exact Afw _ _),trivial⟩,?_,rfl,?_⟩
    .show VV.sl 0 (i+1) 0 ((List.take i D).flatten.length+1+D[i].length)=_
     congr 1;omega
    .intro j hj qf
     by_cases e:j=i
     .subst e;exact c4
     .exact q4 j hj (by omega)
  .rintro F h ⟨q0,h0,q3,h2,h1,hf,q5,rfl,q4⟩
   have q9:D.all (fun c=>GR t c s.has k)=true:=by
    rw [List.all_eq_true]
    intro c hc
    obtain ⟨j,hj,rfl⟩:=List.mem_iff_getElem.1 hc
    exact q4 j hj hj
   rw [List.take_length] at q5
   simp only [go_sem,↓reduceIte,q0,h0,q3,h2,h1,hf,q5,List.take_length]
   rw [<- h4]
   refine Ag (by decide) s.has.length (by omega) (I:=fun i F h=>A4.tmp F 0 = .fp (eFm t s) 0/\A4.tmp F 28 = .ls (s.mo.map DD)/\A4.tmp F 3 = .i .i64 k/\A4.tmp F 30 = .i .i64 k/\A4.tmp F 29 = .i .i64 s.mo.length/\A4.tmp F 69=lI s.has/\A4.tmp F 5 = .sl 0 D.length 0 (NN m k).length/\h=hAl D.length (NN m k)/\A4.tmp F 8 = .i .i64 (((s.has.take i).filter fun n=>BK t s.has n k).length:Nat)) ?_ ?_ 0 _ _ (by omega) ?_ ?_ ?_
   .rintro i F h hi q2 q1 ⟨q0,h0,q3,h2,h1,h7,q5,rfl,q8⟩
    have hw:=fun (n loc:Int) (Q:VV->Prop)=>Kp C t ht s hn n loc (Q:=Q)
    have h9:s.has[i]? = some s.has[i]:=List.getElem?_eq_getElem hi
    have he:s.has.take (i+1)=s.has.take i++[s.has[i]]:=List.take_succ_eq_append_getElem hi
    cases c4:BK t s.has s.has[i] k with
    | false =>
     simp only [go_sem,↓reduceIte,q2,q1,q0,h0,q3,h2,h1,h7,q5,q8,hi,h9,hw,c4,A0]
     have e:[s.has[i]].filter (fun n=>BK t s.has n k)=[]:=by rw [List.filter_cons,c4];rfl
     rw [he,List.filter_append,e,List.append_nil]
    | true =>
     have qg:((s.has.take i).filter fun n=>BK t s.has n k).length<=1000:=Nat.le_trans (List.length_filter_le _ _) (by rw [List.length_take];omega)
     have w1:=HL (show ((s.has.take i).filter fun n=>BK t s.has n k).length < 9223372036854775807 by omega)
     simp only [go_sem,↓reduceIte,q2,q1,q0,h0,q3,h2,h1,h7,q5,q8,hi,h9,hw,c4,w1,A0]
     have e:[s.has[i]].filter (fun n=>BK t s.has n k)=[s.has[i]]:=by rw [List.filter_cons,c4];rfl
     rw [he,List.filter_append,e,List.length_append];rfl
   .rintro F h ⟨q0,h0,q3,h2,h1,h7,q5,rfl,q8⟩
    rw [List.take_length,show (s.has.filter fun n=>BK t s.has n k).length=HM t s k from rfl] at q8
    have qe:(NN m k).length<=1000000000:=by
     have:=Adj D hl
     rw [h4,List.length_cons];omega
    have hv:=fun (Q:VV->Prop)=>MR C (NN m k) (by omega) (Q:=Q)
    by_cases c7:(NN m k).length=HM t s k
    .have hb:((NN m k).length:Int)=HM t s k:=by omega
     by_cases c8:(Ca (Cc (NN m k))).length=HM t s k
     .have hg:((Ca (Cc (NN m k))).length:Int)=HM t s k:=by omega
      simp only [go_sem,↓reduceIte,q0,h0,q3,h2,h1,h7,q5,q8,hb,hv,KS C,hg,hAl,List.take_length]
      exact HI p3 (by rw [hd,q9,decide_eq_true c7,decide_eq_true c8];rfl)
     .have hg:¬ ((Ca (Cc (NN m k))).length:Int)=HM t s k:=by omega
      simp only [go_sem,↓reduceIte,q0,h0,q3,h2,h1,h7,q5,q8,hb,hv,KS C,hg,hAl,List.take_length]
      exact h8 (by rw [hd,decide_eq_false c8,Bool.and_false])
    .have hb:¬ ((NN m k).length:Int)=HM t s k:=by omega
     simp only [go_sem,↓reduceIte,q0,h0,q3,h2,h1,h7,q5,q8,hb]
     exact h8 (by rw [hd,decide_eq_false c7,Bool.and_false,Bool.false_and])
   .simp only [go_sem,↓reduceIte,q0,h0,q3,h2,h1,q5]
   .simp only [go_sem,↓reduceIte,q0,h0,q3,h2,h1,q5]
   .simp only [go_sem,↓reduceIte,q0,h0,q3,h2,h1,q5]
    rw [h4];rfl
  .simp only [go_sem,↓reduceIte,h6,h5,p0,h3]
  .simp only [go_sem,↓reduceIte,h6,h5,p0,h3]
  .simp only [go_sem,↓reduceIte,h6,h5,p0,h3]
   exact ⟨rfl,rfl,fun j hj h=>by omega⟩
 .rintro F h ⟨p0,h3,rfl,p3⟩
  simp only [go_sem,↓reduceIte,p0,h3]
  rw [Gn,decide_eq_true c2,AQ p3];rfl
 .simp only [go_sem,↓reduceIte]
 .simp only [go_sem,↓reduceIte]
  exact ha.symm
 .simp only [go_sem,↓reduceIte]
  intro j hj;omega
end
abbrev A1k (t:A1) (s:A6):VV:=.ls [[.f Q7 [.fp (eFm t s) 0] []],[.f Q8 [.fp (eFm t s) 0] []],[.f Q9 [.fp (eFm t s) 0] []]]
section
variable {V:At} (C:Aq V) {Q:VV->Prop}
include C
theorem Y5 (s:A6) (hs:DL s):VP V Va [Dy s] Q↔Q (vW (Cc s.has)):=by
 refine Ae ?_
 rw [Ad C.c_z133.1 C.c_z133.2]
 have:=hs.has
 simp only [Zz,go_sem,↓reduceIte,MR C s.has (by omega)]
theorem A24 (s:A6) (hs:DL s) (n:Int):VP V UR [Dy s,.i .i64 n] Q↔Q (.i .i64 (Qz s n)):=by
 refine Ae ?_
 rw [Ad C.c_z114.1 C.c_z114.2]
 have hh:=hs.has
 have h0:=fun (Q:VV->Prop)=>EW C s.has n (by omega) (Q:=Q)
 cases c:AU s.has n with
 | false =>
  have e:Dx (fun y=>decide (n=y)) s.has = -1:=Ab0 c
  simp only [PD,go_sem,↓reduceIte,h0,e]
  rw [Qz,if_pos (.inl (by show Dx (fun y=>decide (n=y)) s.has < 0;rw [e];decide))]
 | true =>
  obtain ⟨k,e,hk,_,_⟩:=Gx c
  have e':Dx (fun y=>decide (n=y)) s.has=k:=e
  have q1:decide ((k:Int) < 0)=false:=decide_eq_false (by omega)
  by_cases c2:s.jf.length<=k
  .simp only [PD,go_sem,↓reduceIte,h0,e',q1,c2]
   rw [Qz,if_pos (.inr (by rw [e];omega))]
  .have h1:k < s.jf.length:=by omega
   simp only [PD,go_sem,↓reduceIte,h0,e',q1,c2,Ar h1]
   rw [Qz,if_neg (by rw [e];omega),e,toNat_natCast]
theorem A25 (c:List Int) (hc:c.length < 9223372036854775807) (w:Int):VP V Qe [lI c,.fp [.i .i64 w] 0] Q↔Q (.b (AU c w)):=by
 refine Ae ?_
 rw [Ad C.c_z171.1 C.c_z171.2]
 simp only [ZZ,go_sem,↓reduceIte,Jz C c w hc]
 rfl
theorem fzW (w:Int):Fz [.fp [.i .i64 w] 0]:=fun _ _=>rfl
theorem Ko (s:A6) (hs:DL s) (loc w:Int):VP V US [Dy s,.i .i64 loc,.i .i64 w] Q↔Q (.i .i64 (Be s loc w)):=by
 refine Ae ?_
 rw [Ad C.c_z115.1 C.c_z115.2]
 unfold Be
 by_cases h0:loc < 0
 .simp only [PE,go_sem,↓reduceIte,h0]
 .obtain ⟨k,rfl⟩:=Int.eq_ofNat_of_zero_le (by omega:0<=loc)
  by_cases h1:s.mo.length<=k
  .simp only [PE,go_sem,↓reduceIte,h0,h1]
  .have hk:k < s.mo.length:=by omega
   have hl:=hs.mi' k
   have h2:=fun (Q:VV->Prop)=>Hm C (s.mo.getD k []) (by omega) (g:=Qe) Fz.nil (fzW C w) (fun c=>AU c w) (fun x hx=>by
    have:x.length<=1000:=hs.mc _ (Ai hk) x hx
    exact (A25 C x (by omega) w).2 rfl) (Q:=Q)
   simp only [PE,go_sem,↓reduceIte,h0,h1,C1 hk,h2]
theorem Y4 (t:A1) (ht:A5 t) (s:A6) (hs:DL s):VP V Pf [vT t,Dy s] Q↔Q (.b (Cz t s.has && Pa t s && Gn t s)):=by
 refine Ae ?_
 rw [Ad C.c_z48.1 C.c_z48.2]
 have s1:=fun (Q:VV->Prop)=>Sh C t ht (Q:=Q)
 have s2:=fun (Q:VV->Prop)=>Acq C t ht s hs (Q:=Q)
 have s3:=fun (Q:VV->Prop)=>A2Y C t ht s hs (Q:=Q)
 simp only [A9b,go_sem,↓reduceIte,s1,s2]
 refine Ag (by decide) 3 (by omega) (I:=fun k F h=>A4.tmp F 20=A1k t s/\h=[]/\(1<=k->Cz t s.has=true)/\(2<=k->Pa t s=true)/\(3<=k->Gn t s=true)) ?_ ?_ 0 _ _ (by omega) ?_ ?_ ?_
 .rintro k F h hk h5 h4 ⟨h0,rfl,h1,h2,h3⟩
  rcases (show k=0\/k=1\/k=2 by omega) with rfl | rfl | rfl
  .cases c:Cz t s.has with
   | false=>simp only [go_sem,↓reduceIte,h5,h4,h0,A1k,s3,c,A0]
   | true=>simp only [go_sem,↓reduceIte,h5,h4,h0,A1k,s3,c,A0]
  .have hn:=Ms (h1 (by omega))
   have s4:=fun (Q:VV->Prop)=>Rr C t ht s hs hn (Q:=Q)
   cases c:Pa t s with
   | false=>simp only [go_sem,↓reduceIte,h5,h4,h0,A1k,s4,c,A0]
   | true=>simp only [go_sem,↓reduceIte,h5,h4,h0,A1k,s4,c,A0];exact h1 (by omega)
  .have hn:=Ms (h1 (by omega))
   have s4:=fun (Q:VV->Prop)=>A26 C t ht s hs hn (Q:=Q)
   cases c:Gn t s with
   | false=>simp only [go_sem,↓reduceIte,h5,h4,h0,A1k,s4,c,A0]
   | true=>simp only [go_sem,↓reduceIte,h5,h4,h0,A1k,s4,c,A0];exact ⟨h1 (by omega),h2 (by omega)⟩
 .rintro F h ⟨h0,rfl,h1,h2,h3⟩
  simp only [go_sem,↓reduceIte,h0]
  rw [h1 (by omega),h2 (by omega),h3 (by omega)];rfl
 .simp only [go_sem,↓reduceIte]
 .simp only [go_sem,↓reduceIte]
 .simp only [go_sem,↓reduceIte]
theorem Dt (t:A1) (ht:A5 t) (s:A6) (hs:DL s):VP V Pf [vT t,Dy s] Q↔Q (.b (Bd t s)):=by
 rw [Y4 C t ht s hs,AhD t ht s]
end
end Go.AM
