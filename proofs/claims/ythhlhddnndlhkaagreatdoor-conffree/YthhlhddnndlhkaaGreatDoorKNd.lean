/-
  Own work, part of the proof of these laws: what functions compute.
-/
import Derived.Test.YthhlhddnndlhkaaGreatDoorLCd
import Derived.Test.YthhlhddnndlhkaaGreatDoorKKd
set_option maxRecDepth 10000
set_option maxHeartbeats 64000000
set_option linter.unusedVariables false
set_option linter.unusedSimpArgs false
set_option linter.unusedSectionVars false
open Int (toNat_natCast)
open Nat (zero_le lt_or_ge)
namespace Go.AM
open Go Go.Proofs
def wyE (t:A1) (s:A6) (a b:Nat):Bool:=Ap t a b || decide (Ey s.has s.jf b=(a:Int))
def wyP (t:A1) (s:A6) (i k a b:Nat):Bool:=(((List.range i).any fun j=>decide (s.has.getD j 0=(a:Int))) && AU s.has (b:Int) && wyE t s a b) || (decide (s.has.getD i 0=(a:Int)) && ((List.range k).any fun j=>decide (s.has.getD j 0=(b:Int))) && wyE t s a b)
def wyB (t:A1) (s:A6) (a b:Nat):Bool:=AU s.has (a:Int) && AU s.has (b:Int) && wyE t s a b
def wy3 (t:A1) (s:A6) (r:Int):Bool:=BR t s r.toNat r.toNat
def wy4 (t:A1) (s:A6) (r w:Int):Bool:=decide (0<=w) && BR t s w.toNat r.toNat
def RH (t:A1) (s:A6) (r w:Int):Bool:=decide (0<=w) && decide (0<=(t.at w.toNat).thread) && !decide ((t.at w.toNat).thread=(t.at r.toNat).thread) && !Es t s w.toNat
def GB (t:A1) (s:A6):Int:=if Bd t s=false then 1 else if Px (Ak t.nodes.length (wyB t s))=false then 2 else
 if ((List.range s.has.length).all fun i=>!wy3 t s (s.has.getD i 0))=false then 3 else
 if ((List.range s.has.length).all fun i=>!wy4 t s (s.has.getD i 0) (s.jf.getD i 0))=false then 4 else
 if ((List.range s.has.length).all fun i=>!RH t s (s.has.getD i 0) (s.jf.getD i 0))=false then 5 else
 if Me t s=false then 6 else 0
theorem Yv {l:List Int} {x:Int}:((List.range l.length).any fun j=>decide (l.getD j 0=x))=AU l x:=by
 rw [Bool.eq_iff_iff,List.any_eq_true,A9]
 constructor
 .rintro ⟨j,hj,h⟩
  have:=Ai (d:=0) (List.mem_range.1 hj)
  rwa [of_decide_eq_true h] at this
 .intro h
  obtain ⟨j,hj,e⟩:=List.getElem_of_mem h
  exact ⟨j,List.mem_range.2 hj,decide_eq_true (by rw [List.getD_eq_getElem?_getD,List.getElem?_eq_getElem hj];exact e)⟩
theorem AiX {t:A1} {s:A6} {i:Nat}:(fun a b=>wyP t s i s.has.length a b)=fun a b=>wyP t s (i+1) 0 a b:=by
 funext a b
 simp only [wyP,Yv,List.range_succ,List.range_zero,List.any_append,List.any_cons,List.any_nil,Bool.or_false,Bool.and_false,Bool.false_and]
 cases ((List.range i).any fun j=>decide (s.has.getD j 0=(a:Int)))<;>cases decide (s.has.getD i 0=(a:Int))<;>simp
theorem Ae7 {t:A1} {s:A6} {i k x y:Nat} (hx:s.has.getD i 0=x) (hy:s.has.getD k 0=y) (h:wyE t s x y=true):(fun a b=>wyP t s i k a b || (decide (a=x) && decide (b=y)))=wyP t s i (k+1):=by
 funext a b
 simp only [wyP,List.range_succ,List.any_append,List.any_cons,List.any_nil,Bool.or_false,hx,hy]
 by_cases c1:a=x
 .by_cases c2:b=y
  .subst c1 c2;simp [h]
  .have e:decide ((y:Int)=(b:Int))=false:=decide_eq_false (by omega)
   rw [e,decide_eq_false c2,Bool.or_false,Bool.and_false,Bool.or_false]
 .have e:decide ((x:Int)=(a:Int))=false:=decide_eq_false (by omega)
  rw [e,decide_eq_false c1];simp
theorem ApI {t:A1} {s:A6} {i k x y:Nat} (hx:s.has.getD i 0=x) (hy:s.has.getD k 0=y) (h:wyE t s x y=false):wyP t s i (k+1)=wyP t s i k:=by
 funext a b
 simp only [wyP,List.range_succ,List.any_append,List.any_cons,List.any_nil,Bool.or_false,hx,hy]
 by_cases c1:a=x
 .by_cases c2:b=y
  .subst c1 c2;simp [h]
  .have e:decide ((y:Int)=(b:Int))=false:=decide_eq_false (by omega)
   rw [e,Bool.or_false]
 .have e:decide ((x:Int)=(a:Int))=false:=decide_eq_false (by omega)
  rw [e];simp
section
variable {V:At} (C:Aq V) {Q:VV->Prop}
include C
theorem A1P {n:Nat} (hn:n<=64) (p:Nat->Nat->Bool):VP V UO [lW (Ak n p)] Q↔Q (.b (Px (Ak n p))):=by
 refine Ae ?_
 rw [Ad C.c_z104.1 C.c_z104.2]
 have hm:=CH hn p
 have h0:=Aj (n:=n) (p:=p)
 obtain ⟨a,ha⟩:∃ a,a=Ak n p:=⟨_,rfl⟩
 rw [<- ha] at hm h0 ⊢
 unfold Px
 rw [hm]
 .have hl:=HU hm
  have h1:=fun (Q:VV->Prop)=>Qs C a (by omega) (Q:=Q)
  have h3:=fun (Q:VV->Prop)=>XW C a (by omega) (Q:=Q)
  have h2:(BV a).length=a.length:=by rw [BV,if_pos hm];simp
  rw [Bool.true_and]
  simp only [Zn,go_sem,↓reduceIte,h1,hm,h3]
  refine Ab (by decide) (BV a).length (by omega) (I:=fun k F h=>A4.tmp F 3=lW (BV a)/\h=[]/\∀ j,j < k->((BV a).getD j 0#64).getLsbD j=false) ?_ ?_ ?_ 0 _ _ (zero_le _) ?_ ?_
  .rintro k F h hk p4 ⟨p3,rfl,pr⟩
   simp only [go_sem,↓reduceIte,p4,p3]
   exact pr
  .rintro k F h hk p4 ⟨p3,rfl,pr⟩
   have gW:=B9 (a:=BV a) hk
   have hh:=AC ((BV a).getD k 0#64) k
   cases d:((BV a).getD k 0#64).getLsbD k with
   | true =>
    rw [d] at hh
    have hb:=AP (n:=a.length) (k:=k) (p:=fun i=>!((BV a).getD i 0#64).getLsbD i) (by omega) (by rw [d];rfl)
    simp only [go_sem,↓reduceIte,p4,p3,gW,hk,B2 C,hh,hb,A0]
   | false =>
    rw [d] at hh
    simp only [go_sem,↓reduceIte,p4,p3,gW,hk,B2 C,hh,A0]
    intro j hj
    rcases lt_or_ge j k with c | c
    .exact pr j c
    .rw [show j=k by omega];exact d
  .rintro F h ⟨p3,rfl,pr⟩
   rw [h2] at pr
   have hb:=AQ (p:=fun i=>!((BV a).getD i 0#64).getLsbD i) fun j hj=>by rw [pr j hj];rfl
   simp only [go_sem,↓reduceIte,p3,hb]
  .simp only [go_sem,↓reduceIte]
  .simp only [go_sem,↓reduceIte]
   intro j hj;omega
theorem Hj (t:A1) (ht:A5 t) (s:A6) (hs:DL s):VP V A5s [vT t,Dy s] Q↔Q (.i .i64 (GB t s)):=by
 refine Ae ?_
 rw [Ad C.c_z46.1 C.c_z46.2]
 have hp:=ht.n64
 have g1:=hs.has
 have q0:=fun (Q:VV->Prop)=>Bv C t ht s hs (Q:=Q)
 unfold GB
 cases hff:Bd t s with
 | false=>simp only [A3s,go_sem,↓reduceIte,q0,hff]
 | true =>
 have hf:=AE.1 hff
 rw [if_neg (by decide)]
 have hF:=AY (AJ hff)
 have q4:=fun (Q:VV->Prop)=>Qr C t ht s.has s.jf hs.has hs.jf (AJ hff) (Q:=Q)
 rw [hbF,if_pos (AJ hff)] at q4
 have hl:(JP t s.has s.jf).length=t.nodes.length:=Dh hp _
 have hr:=fun (e:Nat) (he:e < t.nodes.length) (Q:VV->Prop)=>Lt C (JP t s.has s.jf) (by omega) e (by omega) (Q:=Q)
 have q9:∀ e,(Mx (JP t s.has s.jf) e).length<=1000:=fun e=>by
  have:=ND (JP t s.has s.jf) e (JP t s.has s.jf).length
  rw [Mx,List.length_cons];omega
 have hz:=fun (a b:Nat) (ha:a < t.nodes.length) (hb:b < t.nodes.length) (Q:VV->Prop)=>(Kk C t ht.up _ _ (q9 a) (q9 b) (Q:=Q)).trans (by rw [A14 ht ha hb])
 have hq:=fun (x y:Int) (Q:VV->Prop)=>E0 C t ht.up x y (Q:=Q)
 have qd:=fun (Q:VV->Prop)=>A7v C t ht s hs hF.node (Q:=Q)
 have b1:t.nodes.length * 8<=Aa:=by unfold Aa;omega
 have h4:∀ i,i < s.has.length->∃ m:Nat,s.has.getD i 0=m/\m < t.nodes.length/\(m:Int)∈s.has/\Ey s.has s.jf m=s.jf.getD i 0/\i < s.jf.length:=fun i hi=>by
  have hm:=Ai (d:=0) hi
  obtain ⟨m,e,qe⟩:=A8 (hf.node _ hm)
  have:=hF.at_ i hi
  rw [e] at this hm
  exact ⟨m,e,qe,hm,this,by rw [hf.jl];exact hi⟩
 simp only [A3s,go_sem,↓reduceIte,q0,hff,b1,Int.le_refl]
 obtain ⟨O,hO⟩:∃ O:Option VO,O=some ⟨AK,1,0,false,(Ak t.nodes.length (wyB t s)).map eW⟩:=⟨_,rfl⟩
 have qc:Ak t.nodes.length (wyP t s s.has.length 0)=Ak t.nodes.length (wyB t s):=Ci fun a b _ _=>by
  simp only [wyP,wyB,Yv,List.range_zero,List.any_nil,Bool.and_false,Bool.false_and,Bool.or_false]
 have src:∀ m:Nat,(m:Int)∈s.has->0<=Ey s.has s.jf m->∃ w:Nat,Ey s.has s.jf m=w/\w < t.nodes.length/\(w:Int)∈s.has:=fun m hm h0=>by
  have hk:(t.at m).kind=2:=by
   apply Classical.byContradiction
   intro hk
   have:=hF.none m hm (by rw [toNat_natCast];exact hk)
   omega
  obtain ⟨q1,_,_⟩:=hF.read m hm (by rw [toNat_natCast];exact hk)
  obtain ⟨w,e,hw⟩:=A8 (hf.node _ q1)
  rw [e] at q1
  exact ⟨w,e,hw,q1⟩
 refine Ab (by decide) s.has.length (by omega) (I:=fun i F h=>A4.tmp F 2 = .fp (eT t) 0/\A4.tmp F 3 = .fp (Je s) 0/\A4.tmp F 5 = .sl 0 0 0 t.nodes.length/\h=[some ⟨AK,1,0,false,(Ak t.nodes.length (wyP t s i 0)).map eW⟩]) ?_ ?_ ?_ 0 _ _ (zero_le _) ?_ ?_
 .rintro i F h hi p6 ⟨p2,p3,p5,rfl⟩
  simp only [go_sem,↓reduceIte,p6,p2,p3,p5]
 .rintro i F h hi p6 ⟨p2,p3,p5,rfl⟩
  obtain ⟨x,hx,h1,hd,_,_⟩:=h4 i hi
  have gX:=Ar hi
  rw [hx] at gX
  simp only [go_sem,↓reduceIte,p6,p2,p3,p5,A0]
  refine Ab (by decide) s.has.length (by omega) (I:=fun k F h=>A4.tmp F 6 = .i .i64 i/\A4.tmp F 2 = .fp (eT t) 0/\A4.tmp F 3 = .fp (Je s) 0/\A4.tmp F 5 = .sl 0 0 0 t.nodes.length/\h=[some ⟨AK,1,0,false,(Ak t.nodes.length (wyP t s i k)).map eW⟩]) ?_ ?_ ?_ 0 _ _ (zero_le _) ?_ ?_
  .rintro k F h hk q7 ⟨q6,q2,q3,q5,rfl⟩
   simp only [go_sem,↓reduceIte,q7,q6,q2,q3,q5]
  .rintro k F h hk q7 ⟨q6,q2,q3,q5,rfl⟩
   obtain ⟨y,hy,qg,qi,qh,hn⟩:=h4 k hk
   have gY:=Ar hk
   have gJ:=Ar hn
   rw [hy] at gY
   rw [<- qh] at gJ
   have gW:=B9 (a:=Ak t.nodes.length (wyP t s i k)) (i:=x) (by rw [Aj];exact h1)
   have h7:=Jv hp (wyP t s i k) qg h1
   have hc:∀ w,((Ak t.nodes.length (wyP t s i k)).map eW).set x [vW w]=((Ak t.nodes.length (wyP t s i k)).set x w).map eW:=fun w=>by rw [List.map_set]
   cases d1:Ap t x y with
   | true =>
    rw [Ae7 hx hy (by rw [wyE,d1];rfl)] at h7
    simp only [go_sem,↓reduceIte,q7,q6,q2,q3,q5,gX,gY,gJ,hi,hk,hn,hq,d1,h1,gW,Bi C,hc,h7,Aj,List.length_map,A0]
   | false =>
   cases d2:decide (Ey s.has s.jf y=(x:Int)) with
   | true =>
    rw [Ae7 hx hy (by rw [wyE,d2];simp)] at h7
    simp only [go_sem,↓reduceIte,q7,q6,q2,q3,q5,gX,gY,gJ,hi,hk,hn,hq,d1,d2,h1,gW,Bi C,hc,h7,Aj,List.length_map,A0]
   | false =>
    rw [ApI hx hy (by rw [wyE,d1,d2];rfl)]
    simp only [go_sem,↓reduceIte,q7,q6,q2,q3,q5,gX,gY,gJ,hi,hk,hn,hq,d1,d2,A0]
  .rintro F h ⟨q6,q2,q3,q5,rfl⟩
   have qf:Ak t.nodes.length (wyP t s i s.has.length)=Ak t.nodes.length (wyP t s (i+1) 0):=congrArg _ AiX
   simp only [go_sem,↓reduceIte,q6,q2,q3,q5,qf]
  .simp only [go_sem,↓reduceIte]
  .simp only [go_sem,↓reduceIte,p6,p2,p3,p5]
 .rintro F h ⟨p2,p3,p5,rfl⟩
  rw [qc]
  have hv:=fun (Q:VV->Prop)=>A1P C hp (wyB t s) (Q:=Q)
  have qa:=List.take_of_length_le (Nat.le_of_eq (Aj (n:=t.nodes.length) (p:=wyB t s)))
  cases c2:Px (Ak t.nodes.length (wyB t s)) with
  | false=>simp only [go_sem,↓reduceIte,p2,p3,p5,hv,c2,Aj,List.length_map,qa]
  | true =>
  rw [if_neg (by decide)]
  simp only [go_sem,↓reduceIte,p2,p3,p5,hv,c2,Aj,List.length_map,qa,q4]
  rw [<- hO]
  refine Ab (by decide) s.has.length (by omega) (I:=fun i F h=>A4.tmp F 2 = .fp (eT t) 0/\A4.tmp F 3 = .fp (Je s) 0/\A4.tmp F 8=lW (JP t s.has s.jf)/\h=[O]/\∀ j,j < i->(!wy3 t s (s.has.getD j 0))=true) ?_ ?_ ?_ 0 _ _ (zero_le _) ?_ ?_
  .rintro i F h hi p9 ⟨p2,p3,p8,rfl,pr⟩
   simp only [go_sem,↓reduceIte,p9,p2,p3,p8]
   exact pr
  .rintro i F h hi p9 ⟨p2,p3,p8,rfl,pr⟩
   obtain ⟨x,hx,h1,hd,_,_⟩:=h4 i hi
   have gX:=Ar hi
   rw [hx] at gX
   have h9:=hr x h1
   have h5:=hz x x h1 h1
   cases d:BR t s x x with
   | true =>
    rw [d] at h5
    have hb:=AP (p:=fun i=>!wy3 t s (s.has.getD i 0)) hi (by rw [hx,wy3,toNat_natCast,d];rfl)
    rw [hb]
    simp only [go_sem,↓reduceIte,p9,p2,p3,p8,gX,hi,h9,h5,A0]
   | false =>
    rw [d] at h5
    simp only [go_sem,↓reduceIte,p9,p2,p3,p8,gX,hi,h9,h5,A0]
    intro j hj
    rcases lt_or_ge j i with c | c
    .exact pr j c
    .rw [show j=i by omega,hx,wy3,toNat_natCast,d];rfl
  .rintro F h ⟨p2,p3,p8,rfl,pr⟩
   have hb:=AQ (p:=fun i=>!wy3 t s (s.has.getD i 0)) pr
   rw [hb,if_neg (by decide)]
   simp only [go_sem,↓reduceIte,p2,p3,p8]
   refine Ab (by decide) s.has.length (by omega) (I:=fun i F h=>A4.tmp F 2 = .fp (eT t) 0/\A4.tmp F 3 = .fp (Je s) 0/\A4.tmp F 8=lW (JP t s.has s.jf)/\h=[O]/\∀ j,j < i->(!wy4 t s (s.has.getD j 0) (s.jf.getD j 0))=true) ?_ ?_ ?_ 0 _ _ (zero_le _) ?_ ?_
   .rintro i F h hi hh ⟨p2,p3,p8,rfl,pr⟩
    simp only [go_sem,↓reduceIte,hh,p2,p3,p8]
    exact pr
   .rintro i F h hi hh ⟨p2,p3,p8,rfl,pr⟩
    obtain ⟨x,hx,h1,hd,hg,h2⟩:=h4 i hi
    have gX:=Ar hi
    have gJ:=Ar h2
    rw [hx] at gX
    have h9:=hr x h1
    have h6:wy4 t s x (s.jf.getD i 0)=false->∀ j,j < i+1->(!wy4 t s (s.has.getD j 0) (s.jf.getD j 0))=true:=fun h j hj=>by
     rcases lt_or_ge j i with c | c
     .exact pr j c
     .rw [show j=i by omega,hx,h];rfl
    cases d0:decide (0<=s.jf.getD i 0) with
    | false =>
     simp only [go_sem,↓reduceIte,hh,p2,p3,p8,gX,gJ,hi,h2,d0,A0]
     exact h6 (by rw [wy4,d0];rfl)
    | true =>
     obtain ⟨w,hw,h3,_⟩:=src x hd (by rw [hg];exact of_decide_eq_true d0)
     rw [hg] at hw
     rw [hw] at gJ h6 d0
     have q8:=hr w h3
     have h5:=hz w x h3 h1
     cases d:BR t s w x with
     | true =>
      rw [d] at h5
      have hb:=AP (p:=fun i=>!wy4 t s (s.has.getD i 0) (s.jf.getD i 0)) hi (by rw [hx,hw,wy4,d0,toNat_natCast,toNat_natCast,d];rfl)
      rw [hb]
      simp only [go_sem,↓reduceIte,hh,p2,p3,p8,gX,gJ,hi,h2,d0,h9,q8,h5,A0]
     | false =>
      rw [d] at h5
      simp only [go_sem,↓reduceIte,hh,p2,p3,p8,gX,gJ,hi,h2,d0,h9,q8,h5,A0]
      exact h6 (by rw [wy4,toNat_natCast,toNat_natCast,d,Bool.and_false])
   .rintro F h ⟨p2,p3,p8,rfl,pr⟩
    have hb:=AQ (p:=fun i=>!wy4 t s (s.has.getD i 0) (s.jf.getD i 0)) pr
    rw [hb,if_neg (by decide)]
    simp only [go_sem,↓reduceIte,p2,p3,p8]
    refine Ab (by decide) s.has.length (by omega) (I:=fun i F h=>A4.tmp F 2 = .fp (eT t) 0/\A4.tmp F 3 = .fp (Je s) 0/\A4.tmp F 8=lW (JP t s.has s.jf)/\h=[O]/\∀ j,j < i->(!RH t s (s.has.getD j 0) (s.jf.getD j 0))=true) ?_ ?_ ?_ 0 _ _ (zero_le _) ?_ ?_
    .rintro i F h hi h8 ⟨p2,p3,p8,rfl,pr⟩
     simp only [go_sem,↓reduceIte,h8,p2,p3,p8]
     exact pr
    .rintro i F h hi h8 ⟨p2,p3,p8,rfl,pr⟩
     obtain ⟨x,hx,h1,hd,hg,h2⟩:=h4 i hi
     have gX:=Ar hi
     have gJ:=Ar h2
     rw [hx] at gX
     have h6:RH t s x (s.jf.getD i 0)=false->∀ j,j < i+1->(!RH t s (s.has.getD j 0) (s.jf.getD j 0))=true:=fun h j hj=>by
      rcases lt_or_ge j i with c | c
      .exact pr j c
      .rw [show j=i by omega,hx,h];rfl
     cases d0:decide (0<=s.jf.getD i 0) with
     | false =>
      simp only [go_sem,↓reduceIte,h8,p2,p3,p8,gX,gJ,hi,h2,d0,A0]
      exact h6 (by rw [RH,d0];rfl)
     | true =>
      obtain ⟨w,hw,h3,qb⟩:=src x hd (by rw [hg];exact of_decide_eq_true d0)
      rw [hg] at hw
      rw [hw] at gJ h6 d0
      have hu:=fun (Q:VV->Prop)=>LQ C t ht s hs hf qb (Q:=Q)
      rw [A2n ht hf qb] at hu
      have ho:RH t s x w=(decide (0<=(t.at w).thread) && !decide ((t.at w).thread=(t.at x).thread) && !Es t s w):=by rw [RH,d0,toNat_natCast,toNat_natCast,Bool.true_and]
      cases d1:decide (0<=(t.at w).thread) with
      | false =>
       simp only [go_sem,↓reduceIte,h8,p2,p3,p8,gX,gJ,hi,h2,d0,h3,A7 h3,d1,A0]
       exact h6 (by rw [ho,d1];rfl)
      | true =>
      cases d2:decide ((t.at w).thread=(t.at x).thread) with
      | true =>
       simp only [go_sem,↓reduceIte,h8,p2,p3,p8,gX,gJ,hi,h2,d0,h3,A7 h3,d1,h1,A7 h1,d2,A0]
       exact h6 (by rw [ho,d2];simp)
      | false =>
      cases d3:Es t s w with
      | true =>
       simp only [go_sem,↓reduceIte,h8,p2,p3,p8,gX,gJ,hi,h2,d0,h3,A7 h3,d1,h1,A7 h1,d2,hu,d3,A0]
       exact h6 (by rw [ho,d3];simp)
      | false =>
       have hb:=AP (p:=fun i=>!RH t s (s.has.getD i 0) (s.jf.getD i 0)) hi (by rw [hx,hw,ho,d1,d2,d3];rfl)
       rw [hb]
       simp only [go_sem,↓reduceIte,h8,p2,p3,p8,gX,gJ,hi,h2,d0,h3,A7 h3,d1,h1,A7 h1,d2,hu,d3,A0]
    .rintro F h ⟨p2,p3,p8,rfl,pr⟩
     have hb:=AQ (p:=fun i=>!RH t s (s.has.getD i 0) (s.jf.getD i 0)) pr
     rw [hb,if_neg (by decide)]
     cases d:Me t s<;>simp only [go_sem,↓reduceIte,p2,p3,p8,qd,d]
    .simp only [go_sem,↓reduceIte]
    .simp only [go_sem,↓reduceIte,p2,p3,p8]
     intro j hj;omega
   .simp only [go_sem,↓reduceIte]
   .simp only [go_sem,↓reduceIte,p2,p3,p8]
    intro j hj;omega
  .simp only [go_sem,↓reduceIte]
  .simp only [go_sem,↓reduceIte,p2,p3,p5]
   intro j hj;omega
 .simp only [go_sem,↓reduceIte]
 .simp only [go_sem,↓reduceIte]
  rw [show Ak t.nodes.length (wyP t s 0 0)=Ak t.nodes.length (fun _ _=>false) from Ci fun a b _ _=>by simp [wyP],J7]
end
def Eg (t:A1) (m:List U8):Nat->A6
 | 0=>Bu t
 | k+1=>(match Gk t (Eg t m k) (KU m (2 * k)) (KU m (2 * k+1)) with
  | some s=>if GB t s=0 then s else Eg t m k
  | none=>Eg t m k)
theorem N3 {t:A1} (ht:A5 t) (m:List U8):∀ k,Gr t (Eg t m k) k
 | 0=>A29 ht
 | k+1=>by
  have h:=N3 ht m k
  rw [Eg]
  split
  .rename_i s e
   split
   .exact A7g h e
   .exact h.mono (by omega)
  .exact h.mono (by omega)
theorem La {t:A1} (ht:A5 t) (m:List U8):∀ k,AG t (Eg t m k)
 | 0=>Ly ht
 | k+1=>by
  have ih:=La ht m k
  rw [Eg]
  split
  .rename_i s e
   split
   .obtain ⟨n,h⟩:=R8 ht ih e;exact h.form
   .exact ih
  .exact ih
section
variable {V:At} (C:Aq V) {Q:VV->Prop}
include C
theorem Hd (t:A1) (ht:A5 t) (m:List U8) (hl:m.length<=100) (hm:∀ x∈m,x.n < 256):VP V Pe [vT t,lU m,.b true] Q↔Q (Dy (Eg t m (m.length / 2))):=by
 refine Ae ?_
 rw [Ad C.c_z14.1 C.c_z14.2]
 simp only [A3k,go_sem,↓reduceIte,Kj C t ht]
 unfold VL
 rw [A0]
 refine AT (M:=Nat) (I:=fun k F h=>2 * k<=m.length/\A4.tmp F 1=lU m/\A4.tmp F 2 = .b true/\A4.tmp F 3 = .fp (eT t) 0/\A4.tmp F 6 = .p 0 0 0 0/\A4.tmp F 7 = .p 1 0 0 0/\A4.tmp F 8 = .i .i64 ((2 * k:Nat):Int)/\h=grH (Eg t m k)) (μ:=fun k=>m.length - 2 * k) ?_ 0 _ _ ⟨by omega,?_,?_,?_,?_,?_,?_,?_⟩
 .rintro k F h ⟨hk,p1,p2,p3,p6,p7,p8,rfl⟩
  have w1:IntKind.i64.wrap (((2 * k:Nat):Int)+1)=((2 * k+1:Nat):Int):=by rw [Az (by omega) (by omega)];omega
  have w2:IntKind.i64.wrap (((2 * k:Nat):Int)+2)=((2 * (k+1):Nat):Int):=by rw [Az (by omega) (by omega)];omega
  by_cases c:2 * k+1 < m.length
  .have ci:decide (((2 * k+1:Nat):Int) < (m.length:Int))=true:=decide_eq_true (by omega)
   have c0:2 * k < m.length:=by omega
   have g0:=AjZ c0
   have g1:=AjZ c
   have b0:=A6C hm (2 * k)
   have b1:=A6C hm (2 * k+1)
   have v0:IntKind.i64.wrap ((KU m (2 * k):Nat):Int)=((KU m (2 * k):Nat):Int):=Az (by omega) (by omega)
   have v1:IntKind.i64.wrap ((KU m (2 * k+1):Nat):Int)=((KU m (2 * k+1):Nat):Int):=Az (by omega) (by omega)
   have h0:=N3 ht m k
   have hn:=fun (Q:VV->Prop)=>XN C t ht (Eg t m k) h0 (by omega) _ _ b0 b1 (Q:=Q)
   cases e:Gk t (Eg t m k) (KU m (2 * k)) (KU m (2 * k+1)) with
   | none =>
    have eg:Eg t m (k+1)=Eg t m k:=by rw [Eg,e]
    rw [e,CP] at hn
    simp only [Mk,go_sem,↓reduceIte,p1,p2,p3,p6,p7,p8,w1,w2,ci,c0,c,g0,g1,v0,v1,hn,grH,Yk,A0]
    exact ⟨k+1,by omega,by omega,by rw [eg];exact ⟨rfl,rfl⟩⟩
   | some s' =>
    have hz:=(A7g h0 e).sz ht (by omega)
    have hw:=fun (Q:VV->Prop)=>Hj C t ht s' hz (Q:=Q)
    rw [e,Cq] at hn
    cases d:decide (GB t s' = 0) with
    | true =>
     have eg:Eg t m (k+1)=s':=by rw [Eg,e];simp only;rw [if_pos (of_decide_eq_true d)]
     simp only [Mk,go_sem,↓reduceIte,p1,p2,p3,p6,p7,p8,w1,w2,ci,c0,c,g0,g1,v0,v1,hn,grH,hw,d,A0]
     exact ⟨k+1,by omega,by omega,by rw [eg];exact ⟨rfl,rfl⟩⟩
    | false =>
     have eg:Eg t m (k+1)=Eg t m k:=by rw [Eg,e];simp only;rw [if_neg (of_decide_eq_false d)]
     simp only [Mk,go_sem,↓reduceIte,p1,p2,p3,p6,p7,p8,w1,w2,ci,c0,c,g0,g1,v0,v1,hn,grH,hw,d,A0]
     exact ⟨k+1,by omega,by omega,by rw [eg];exact ⟨rfl,rfl⟩⟩
  .have ci:decide (2 * k+1 < m.length)=false:=decide_eq_false (by omega)
   have e:k=m.length / 2:=by omega
   simp only [Mk,go_sem,↓reduceIte,p1,p2,p3,p6,p7,p8,w1,w2,ci,grH,A0]
   rw [e]
 .simp only [go_sem,↓reduceIte]
 .simp only [go_sem,↓reduceIte]
 .simp only [go_sem,↓reduceIte]
 .simp only [go_sem,↓reduceIte]
 .simp only [go_sem,↓reduceIte]
 .simp only [go_sem,↓reduceIte]
 .rfl
end
end Go.AM
