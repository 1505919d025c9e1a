/-
  Own work, part of the proof of these laws: what functions compute.
-/
import Derived.Test.YtpnaenhghnkggabGreatDoorKL
set_option maxRecDepth 10000
set_option maxHeartbeats 64000000
set_option linter.unusedVariables false
set_option linter.unusedSimpArgs false
set_option linter.unusedSectionVars false
open Int (toNat_natCast)
open Nat (zero_le lt_or_ge)
namespace Go.AM
open Go Go.Proofs
def wyE (t:A2) (s:A6) (a b:Nat):Bool:=Ah t a b || decide (Ed s.has s.jf b=(a:Int))
def Sz (t:A2) (s:A6) (i k a b:Nat):Bool:=(((List.range i).any fun j=>decide (s.has.getD j 0=(a:Int))) && B9 s.has (b:Int) && wyE t s a b) || (decide (s.has.getD i 0=(a:Int)) && ((List.range k).any fun j=>decide (s.has.getD j 0=(b:Int))) && wyE t s a b)
def Kw (t:A2) (s:A6) (a b:Nat):Bool:=B9 s.has (a:Int) && B9 s.has (b:Int) && wyE t s a b
def wy3 (t:A2) (s:A6) (r:Int):Bool:=Ec t s r.toNat r.toNat
def wy4 (t:A2) (s:A6) (r w:Int):Bool:=decide (0<=w) && Ec t s w.toNat r.toNat
def Pk (t:A2) (s:A6) (r w:Int):Bool:=decide (0<=w) && decide (0<=(t.at w.toNat).thread) && !decide ((t.at w.toNat).thread=(t.at r.toNat).thread) && !RP t s w.toNat
def H7 (t:A2) (s:A6):Int:=if Bd t s=false then 1 else if KY (Aj t.nodes.length (Kw t s))=false then 2 else
 if ((List.range s.has.length).all fun i=>!wy3 t s (s.has.getD i 0))=false then 3 else
 if ((List.range s.has.length).all fun i=>!wy4 t s (s.has.getD i 0) (s.jf.getD i 0))=false then 4 else
 if ((List.range s.has.length).all fun i=>!Pk t s (s.has.getD i 0) (s.jf.getD i 0))=false then 5 else
 if Mt t s=false then 6 else 0
theorem A4T {l:List Int} {x:Int}:((List.range l.length).any fun j=>decide (l.getD j 0=x))=B9 l x:=by
 rw [Bool.eq_iff_iff,List.any_eq_true,Af]
 constructor
 .rintro ⟨j,hj,h⟩
  have:=Ac (d:=0) (List.mem_range.1 hj)
  rwa [of_decide_eq_true h] at this
 .intro h
  obtain ⟨j,hj,e⟩:=List.getElem_of_mem h
  exact ⟨j,List.mem_range.2 hj,decide_eq_true (by rw [List.getD_eq_getElem?_getD,List.getElem?_eq_getElem hj];exact e)⟩
theorem Ade {t:A2} {s:A6} {i:Nat}:(fun a b=>Sz t s i s.has.length a b)=fun a b=>Sz t s (i+1) 0 a b:=by
 funext a b
 simp only [Sz,A4T,List.range_succ,List.range_zero,List.any_append,List.any_cons,List.any_nil,Bool.or_false,Bool.and_false,Bool.false_and]
 cases ((List.range i).any fun j=>decide (s.has.getD j 0=(a:Int)))<;>cases decide (s.has.getD i 0=(a:Int))<;>simp
theorem A75 {t:A2} {s:A6} {i k x y:Nat} (hx:s.has.getD i 0=x) (hy:s.has.getD k 0=y) (h:wyE t s x y=true):(fun a b=>Sz t s i k a b || (decide (a=x) && decide (b=y)))=Sz t s i (k+1):=by
 funext a b
 simp only [Sz,List.range_succ,List.any_append,List.any_cons,List.any_nil,Bool.or_false,hx,hy]
 by_cases c1:a=x
 .by_cases c2:b=y
  .subst c1 c2;simp [h]
  .have e:decide ((y:Int)=(b:Int))=false:=decide_eq_false (by omega)
   rw [e,decide_eq_false c2,Bool.or_false,Bool.and_false,Bool.or_false]
 .have e:decide ((x:Int)=(a:Int))=false:=decide_eq_false (by omega)
  rw [e,decide_eq_false c1];simp
theorem AjU {t:A2} {s:A6} {i k x y:Nat} (hx:s.has.getD i 0=x) (hy:s.has.getD k 0=y) (h:wyE t s x y=false):Sz t s i (k+1)=Sz t s i k:=by
 funext a b
 simp only [Sz,List.range_succ,List.any_append,List.any_cons,List.any_nil,Bool.or_false,hx,hy]
 by_cases c1:a=x
 .by_cases c2:b=y
  .subst c1 c2;simp [h]
  .have e:decide ((y:Int)=(b:Int))=false:=decide_eq_false (by omega)
   rw [e,Bool.or_false]
 .have e:decide ((x:Int)=(a:Int))=false:=decide_eq_false (by omega)
  rw [e];simp
section
variable {V:Am} (C:Ap V) {Q:VV->Prop}
include C
theorem Rm {n:Nat} (hn:n<=64) (p:Nat->Nat->Bool):VP V AbM [lW (Aj n p)] Q↔Q (.b (KY (Aj n p))):=by
 refine Ad ?_
 rw [Ab C.c_z49.1 C.c_z49.2]
 have hm:=Cm hn p
 have h0:=Al (n:=n) (p:=p)
 obtain ⟨a,ha⟩:∃ a,a=Aj n p:=⟨_,rfl⟩
 rw [<- ha] at hm h0 ⊢
 unfold KY
 rw [hm]
 .have hl:=Ga hm
  have h1:=fun (Q:VV->Prop)=>M0 C a (by omega) (Q:=Q)
  have h3:=fun (Q:VV->Prop)=>P9 C a (by omega) (Q:=Q)
  have h2:(Bz a).length=a.length:=by rw [Bz,if_pos hm];simp
  rw [Bool.true_and]
  simp only [Agf,go_sem,↓reduceIte,h1,hm,h3]
  refine Aa (by decide) (Bz a).length (by omega) (I:=fun k F h=>A3.tmp F 3=lW (Bz a)/\h=[]/\∀ j,j < k->((Bz a).getD j 0#64).getLsbD j=false) ?_ ?_ ?_ 0 _ _ (zero_le _) ?_ ?_
  .rintro k F h hk p4 ⟨p3,rfl,pr⟩
   simp only [go_sem,↓reduceIte,p4,p3]
   exact pr
  .rintro k F h hk p4 ⟨p3,rfl,pr⟩
   have gW:=B4 (a:=Bz a) hk
   have hh:=AD ((Bz a).getD k 0#64) k
   cases d:((Bz a).getD k 0#64).getLsbD k with
   | true =>
    rw [d] at hh
    have hb:=AF (n:=a.length) (k:=k) (p:=fun i=>!((Bz a).getD i 0#64).getLsbD i) (by omega) (by rw [d];rfl)
    simp only [go_sem,↓reduceIte,p4,p3,gW,hk,AR C,hh,hb,A0]
   | false =>
    rw [d] at hh
    simp only [go_sem,↓reduceIte,p4,p3,gW,hk,AR C,hh,A0]
    intro j hj
    rcases lt_or_ge j k with c | c
    .exact pr j c
    .rw [show j=k by omega];exact d
  .rintro F h ⟨p3,rfl,pr⟩
   rw [h2] at pr
   have hb:=AG (p:=fun i=>!((Bz a).getD i 0#64).getLsbD i) fun j hj=>by rw [pr j hj];rfl
   simp only [go_sem,↓reduceIte,p3,hb]
  .simp only [go_sem,↓reduceIte]
  .simp only [go_sem,↓reduceIte]
   intro j hj;omega
theorem Ki (t:A2) (ht:A9 t) (s:A6) (hs:El s):VP V AbD [vT t,Eu s] Q↔Q (.i .i64 (H7 t s)):=by
 refine Ad ?_
 rw [Ab C.c_z20.1 C.c_z20.2]
 have hp:=ht.n64
 have g1:=hs.has
 have q0:=fun (Q:VV->Prop)=>Cg C t ht s hs (Q:=Q)
 unfold H7
 cases hff:Bd t s with
 | false=>simp only [A9U,go_sem,↓reduceIte,q0,hff]
 | true =>
 have hf:=AY.1 hff
 rw [if_neg (by decide)]
 have hF:=Ba (B3 hff)
 have q4:=fun (Q:VV->Prop)=>A4h C t ht s.has s.jf hs.has hs.jf (B3 hff) (Q:=Q)
 rw [hbF,if_pos (B3 hff)] at q4
 have hl:(Lh t s.has s.jf).length=t.nodes.length:=DB hp _
 have hr:=fun (e:Nat) (he:e < t.nodes.length) (Q:VV->Prop)=>Yu C (Lh t s.has s.jf) (by omega) e (by omega) (Q:=Q)
 have q9:∀ e,(Rc (Lh t s.has s.jf) e).length<=1000:=fun e=>by
  have:=T6 (Lh t s.has s.jf) e (Lh t s.has s.jf).length
  rw [Rc,List.length_cons];omega
 have hz:=fun (a b:Nat) (ha:a < t.nodes.length) (hb:b < t.nodes.length) (Q:VV->Prop)=>(Sk C t ht.up _ _ (q9 a) (q9 b) (Q:=Q)).trans (by rw [Aaw ht ha hb])
 have hq:=fun (x y:Int) (Q:VV->Prop)=>C2 C t ht.up x y (Q:=Q)
 have qd:=fun (Q:VV->Prop)=>Ys C t ht s hs hF.node (Q:=Q)
 have b1:t.nodes.length * 8<=A8:=by unfold A8;omega
 have h4:∀ i,i < s.has.length->∃ m:Nat,s.has.getD i 0=m/\m < t.nodes.length/\(m:Int)∈s.has/\Ed s.has s.jf m=s.jf.getD i 0/\i < s.jf.length:=fun i hi=>by
  have hm:=Ac (d:=0) hi
  obtain ⟨m,e,qe⟩:=A7 (hf.node _ hm)
  have:=hF.at_ i hi
  rw [e] at this hm
  exact ⟨m,e,qe,hm,this,by rw [hf.jl];exact hi⟩
 simp only [A9U,go_sem,↓reduceIte,q0,hff,b1,Int.le_refl]
 obtain ⟨O,hO⟩:∃ O:Option VO,O=some ⟨AL,1,0,false,(Aj t.nodes.length (Kw t s)).map eW⟩:=⟨_,rfl⟩
 have qc:Aj t.nodes.length (Sz t s s.has.length 0)=Aj t.nodes.length (Kw t s):=CC fun a b _ _=>by
  simp only [Sz,Kw,A4T,List.range_zero,List.any_nil,Bool.and_false,Bool.false_and,Bool.or_false]
 have src:∀ m:Nat,(m:Int)∈s.has->0<=Ed s.has s.jf m->∃ w:Nat,Ed s.has s.jf m=w/\w < t.nodes.length/\(w:Int)∈s.has:=fun m hm h0=>by
  have hk:(t.at m).kind=2:=by
   apply Classical.byContradiction
   intro hk
   have:=hF.none m hm (by rw [toNat_natCast];exact hk)
   omega
  obtain ⟨q1,_,_⟩:=hF.read m hm (by rw [toNat_natCast];exact hk)
  obtain ⟨w,e,hw⟩:=A7 (hf.node _ q1)
  rw [e] at q1
  exact ⟨w,e,hw,q1⟩
 refine Aa (by decide) s.has.length (by omega) (I:=fun i F h=>A3.tmp F 2 = .fp (eT t) 0/\A3.tmp F 3 = .fp (EX s) 0/\A3.tmp F 5 = .sl 0 0 0 t.nodes.length/\h=[some ⟨AL,1,0,false,(Aj t.nodes.length (Sz t s i 0)).map eW⟩]) ?_ ?_ ?_ 0 _ _ (zero_le _) ?_ ?_
 .rintro i F h hi p6 ⟨p2,p3,p5,rfl⟩
  simp only [go_sem,↓reduceIte,p6,p2,p3,p5]
 .rintro i F h hi p6 ⟨p2,p3,p5,rfl⟩
  obtain ⟨x,hx,h1,hd,_,_⟩:=h4 i hi
  have gX:=Ak hi
  rw [hx] at gX
  simp only [go_sem,↓reduceIte,p6,p2,p3,p5,A0]
  refine Aa (by decide) s.has.length (by omega) (I:=fun k F h=>A3.tmp F 6 = .i .i64 i/\A3.tmp F 2 = .fp (eT t) 0/\A3.tmp F 3 = .fp (EX s) 0/\A3.tmp F 5 = .sl 0 0 0 t.nodes.length/\h=[some ⟨AL,1,0,false,(Aj t.nodes.length (Sz t s i k)).map eW⟩]) ?_ ?_ ?_ 0 _ _ (zero_le _) ?_ ?_
  .rintro k F h hk q7 ⟨q6,q2,q3,q5,rfl⟩
   simp only [go_sem,↓reduceIte,q7,q6,q2,q3,q5]
  .rintro k F h hk q7 ⟨q6,q2,q3,q5,rfl⟩
   obtain ⟨y,hy,qg,qi,qh,hn⟩:=h4 k hk
   have gY:=Ak hk
   have gJ:=Ak hn
   rw [hy] at gY
   rw [<- qh] at gJ
   have gW:=B4 (a:=Aj t.nodes.length (Sz t s i k)) (i:=x) (by rw [Al];exact h1)
   have h7:=GL hp (Sz t s i k) qg h1
   have hc:∀ w,((Aj t.nodes.length (Sz t s i k)).map eW).set x [vW w]=((Aj t.nodes.length (Sz t s i k)).set x w).map eW:=fun w=>by rw [List.map_set]
   cases d1:Ah t x y with
   | true =>
    rw [A75 hx hy (by rw [wyE,d1];rfl)] at h7
    simp only [go_sem,↓reduceIte,q7,q6,q2,q3,q5,gX,gY,gJ,hi,hk,hn,hq,d1,h1,gW,Bk C,hc,h7,Al,List.length_map,A0]
   | false =>
   cases d2:decide (Ed s.has s.jf y=(x:Int)) with
   | true =>
    rw [A75 hx hy (by rw [wyE,d2];simp)] at h7
    simp only [go_sem,↓reduceIte,q7,q6,q2,q3,q5,gX,gY,gJ,hi,hk,hn,hq,d1,d2,h1,gW,Bk C,hc,h7,Al,List.length_map,A0]
   | false =>
    rw [AjU hx hy (by rw [wyE,d1,d2];rfl)]
    simp only [go_sem,↓reduceIte,q7,q6,q2,q3,q5,gX,gY,gJ,hi,hk,hn,hq,d1,d2,A0]
  .rintro F h ⟨q6,q2,q3,q5,rfl⟩
   have qf:Aj t.nodes.length (Sz t s i s.has.length)=Aj t.nodes.length (Sz t s (i+1) 0):=congrArg _ Ade
   simp only [go_sem,↓reduceIte,q6,q2,q3,q5,qf]
  .simp only [go_sem,↓reduceIte]
  .simp only [go_sem,↓reduceIte,p6,p2,p3,p5]
 .rintro F h ⟨p2,p3,p5,rfl⟩
  rw [qc]
  have hv:=fun (Q:VV->Prop)=>Rm C hp (Kw t s) (Q:=Q)
  have qa:=List.take_of_length_le (Nat.le_of_eq (Al (n:=t.nodes.length) (p:=Kw t s)))
  cases c2:KY (Aj t.nodes.length (Kw t s)) with
  | false=>simp only [go_sem,↓reduceIte,p2,p3,p5,hv,c2,Al,List.length_map,qa]
  | true =>
  rw [if_neg (by decide)]
  simp only [go_sem,↓reduceIte,p2,p3,p5,hv,c2,Al,List.length_map,qa,q4]
  rw [<- hO]
  refine Aa (by decide) s.has.length (by omega) (I:=fun i F h=>A3.tmp F 2 = .fp (eT t) 0/\A3.tmp F 3 = .fp (EX s) 0/\A3.tmp F 8=lW (Lh t s.has s.jf)/\h=[O]/\∀ j,j < i->(!wy3 t s (s.has.getD j 0))=true) ?_ ?_ ?_ 0 _ _ (zero_le _) ?_ ?_
  .rintro i F h hi p9 ⟨p2,p3,p8,rfl,pr⟩
   simp only [go_sem,↓reduceIte,p9,p2,p3,p8]
   exact pr
  .rintro i F h hi p9 ⟨p2,p3,p8,rfl,pr⟩
   obtain ⟨x,hx,h1,hd,_,_⟩:=h4 i hi
   have gX:=Ak hi
   rw [hx] at gX
   have h9:=hr x h1
   have h5:=hz x x h1 h1
   cases d:Ec t s x x with
   | true =>
    rw [d] at h5
    have hb:=AF (p:=fun i=>!wy3 t s (s.has.getD i 0)) hi (by rw [hx,wy3,toNat_natCast,d];rfl)
    rw [hb]
    simp only [go_sem,↓reduceIte,p9,p2,p3,p8,gX,hi,h9,h5,A0]
   | false =>
    rw [d] at h5
    simp only [go_sem,↓reduceIte,p9,p2,p3,p8,gX,hi,h9,h5,A0]
    intro j hj
    rcases lt_or_ge j i with c | c
    .exact pr j c
    .rw [show j=i by omega,hx,wy3,toNat_natCast,d];rfl
  .rintro F h ⟨p2,p3,p8,rfl,pr⟩
   have hb:=AG (p:=fun i=>!wy3 t s (s.has.getD i 0)) pr
   rw [hb,if_neg (by decide)]
   simp only [go_sem,↓reduceIte,p2,p3,p8]
   refine Aa (by decide) s.has.length (by omega) (I:=fun i F h=>A3.tmp F 2 = .fp (eT t) 0/\A3.tmp F 3 = .fp (EX s) 0/\A3.tmp F 8=lW (Lh t s.has s.jf)/\h=[O]/\∀ j,j < i->(!wy4 t s (s.has.getD j 0) (s.jf.getD j 0))=true) ?_ ?_ ?_ 0 _ _ (zero_le _) ?_ ?_
   .rintro i F h hi hh ⟨p2,p3,p8,rfl,pr⟩
    simp only [go_sem,↓reduceIte,hh,p2,p3,p8]
    exact pr
   .rintro i F h hi hh ⟨p2,p3,p8,rfl,pr⟩
    obtain ⟨x,hx,h1,hd,hg,h2⟩:=h4 i hi
    have gX:=Ak hi
    have gJ:=Ak h2
    rw [hx] at gX
    have h9:=hr x h1
    have h6:wy4 t s x (s.jf.getD i 0)=false->∀ j,j < i+1->(!wy4 t s (s.has.getD j 0) (s.jf.getD j 0))=true:=fun h j hj=>by
     rcases lt_or_ge j i with c | c
     .exact pr j c
     .rw [show j=i by omega,hx,h];rfl
    cases d0:decide (0<=s.jf.getD i 0) with
    | false =>
     simp only [go_sem,↓reduceIte,hh,p2,p3,p8,gX,gJ,hi,h2,d0,A0]
     exact h6 (by rw [wy4,d0];rfl)
    | true =>
     obtain ⟨w,hw,h3,_⟩:=src x hd (by rw [hg];exact of_decide_eq_true d0)
     rw [hg] at hw
     rw [hw] at gJ h6 d0
     have q8:=hr w h3
     have h5:=hz w x h3 h1
     cases d:Ec t s w x with
     | true =>
      rw [d] at h5
      have hb:=AF (p:=fun i=>!wy4 t s (s.has.getD i 0) (s.jf.getD i 0)) hi (by rw [hx,hw,wy4,d0,toNat_natCast,toNat_natCast,d];rfl)
      rw [hb]
      simp only [go_sem,↓reduceIte,hh,p2,p3,p8,gX,gJ,hi,h2,d0,h9,q8,h5,A0]
     | false =>
      rw [d] at h5
      simp only [go_sem,↓reduceIte,hh,p2,p3,p8,gX,gJ,hi,h2,d0,h9,q8,h5,A0]
      exact h6 (by rw [wy4,toNat_natCast,toNat_natCast,d,Bool.and_false])
   .rintro F h ⟨p2,p3,p8,rfl,pr⟩
    have hb:=AG (p:=fun i=>!wy4 t s (s.has.getD i 0) (s.jf.getD i 0)) pr
    rw [hb,if_neg (by decide)]
    simp only [go_sem,↓reduceIte,p2,p3,p8]
    refine Aa (by decide) s.has.length (by omega) (I:=fun i F h=>A3.tmp F 2 = .fp (eT t) 0/\A3.tmp F 3 = .fp (EX s) 0/\A3.tmp F 8=lW (Lh t s.has s.jf)/\h=[O]/\∀ j,j < i->(!Pk t s (s.has.getD j 0) (s.jf.getD j 0))=true) ?_ ?_ ?_ 0 _ _ (zero_le _) ?_ ?_
    .rintro i F h hi h8 ⟨p2,p3,p8,rfl,pr⟩
     simp only [go_sem,↓reduceIte,h8,p2,p3,p8]
     exact pr
    .rintro i F h hi h8 ⟨p2,p3,p8,rfl,pr⟩
     obtain ⟨x,hx,h1,hd,hg,h2⟩:=h4 i hi
     have gX:=Ak hi
     have gJ:=Ak h2
     rw [hx] at gX
     have h6:Pk t s x (s.jf.getD i 0)=false->∀ j,j < i+1->(!Pk t s (s.has.getD j 0) (s.jf.getD j 0))=true:=fun h j hj=>by
      rcases lt_or_ge j i with c | c
      .exact pr j c
      .rw [show j=i by omega,hx,h];rfl
     cases d0:decide (0<=s.jf.getD i 0) with
     | false =>
      simp only [go_sem,↓reduceIte,h8,p2,p3,p8,gX,gJ,hi,h2,d0,A0]
      exact h6 (by rw [Pk,d0];rfl)
     | true =>
      obtain ⟨w,hw,h3,qb⟩:=src x hd (by rw [hg];exact of_decide_eq_true d0)
      rw [hg] at hw
      rw [hw] at gJ h6 d0
      have hu:=fun (Q:VV->Prop)=>Pq C t ht s hs hf qb (Q:=Q)
      rw [AjP ht hf qb] at hu
      have ho:Pk t s x w=(decide (0<=(t.at w).thread) && !decide ((t.at w).thread=(t.at x).thread) && !RP t s w):=by rw [Pk,d0,toNat_natCast,toNat_natCast,Bool.true_and]
      cases d1:decide (0<=(t.at w).thread) with
      | false =>
       simp only [go_sem,↓reduceIte,h8,p2,p3,p8,gX,gJ,hi,h2,d0,h3,A5 h3,d1,A0]
       exact h6 (by rw [ho,d1];rfl)
      | true =>
      cases d2:decide ((t.at w).thread=(t.at x).thread) with
      | true =>
       simp only [go_sem,↓reduceIte,h8,p2,p3,p8,gX,gJ,hi,h2,d0,h3,A5 h3,d1,h1,A5 h1,d2,A0]
       exact h6 (by rw [ho,d2];simp)
      | false =>
      cases d3:RP t s w with
      | true =>
       simp only [go_sem,↓reduceIte,h8,p2,p3,p8,gX,gJ,hi,h2,d0,h3,A5 h3,d1,h1,A5 h1,d2,hu,d3,A0]
       exact h6 (by rw [ho,d3];simp)
      | false =>
       have hb:=AF (p:=fun i=>!Pk t s (s.has.getD i 0) (s.jf.getD i 0)) hi (by rw [hx,hw,ho,d1,d2,d3];rfl)
       rw [hb]
       simp only [go_sem,↓reduceIte,h8,p2,p3,p8,gX,gJ,hi,h2,d0,h3,A5 h3,d1,h1,A5 h1,d2,hu,d3,A0]
    .rintro F h ⟨p2,p3,p8,rfl,pr⟩
     have hb:=AG (p:=fun i=>!Pk t s (s.has.getD i 0) (s.jf.getD i 0)) pr
     rw [hb,if_neg (by decide)]
     cases d:Mt t s<;>simp only [go_sem,↓reduceIte,p2,p3,p8,qd,d]
    .simp only [go_sem,↓reduceIte]
    .simp only [go_sem,↓reduceIte,p2,p3,p8]
     intro j hj;omega
   .simp only [go_sem,↓reduceIte]
   .simp only [go_sem,↓reduceIte,p2,p3,p8]
    intro j hj;omega
  .simp only [go_sem,↓reduceIte]
  .simp only [go_sem,↓reduceIte,p2,p3,p5]
   intro j hj;omega
 .simp only [go_sem,↓reduceIte]
 .simp only [go_sem,↓reduceIte]
  rw [show Aj t.nodes.length (Sz t s 0 0)=Aj t.nodes.length (fun _ _=>false) from CC fun a b _ _=>by simp [Sz],KS]
end
def Dy (t:A2) (m:List U8):Nat->A6
 | 0=>BF t
 | k+1=>(match K8 t (Dy t m k) (NU m (2 * k)) (NU m (2 * k+1)) with
  | some s=>if H7 t s=0 then s else Dy t m k
  | none=>Dy t m k)
theorem Mu {t:A2} (ht:A9 t) (m:List U8):∀ k,Gr t (Dy t m k) k
 | 0=>A0V ht
 | k+1=>by
  have h:=Mu ht m k
  rw [Dy]
  split
  .rename_i s e
   split
   .exact Ye h e
   .exact h.mono (by omega)
  .exact h.mono (by omega)
section
variable {V:Am} (C:Ap V) {Q:VV->Prop}
include C
theorem Hy (t:A2) (ht:A9 t) (m:List U8) (hl:m.length<=100) (hm:∀ x∈m,x.n < 256):VP V AbZ [vT t,lU m,.b true] Q↔Q (Eu (Dy t m (m.length / 2))):=by
 refine Ad ?_
 rw [Ab C.c_z7.1 C.c_z7.2]
 simp only [AhP,go_sem,↓reduceIte,Ls C t ht]
 unfold VL
 rw [A0]
 refine AA (M:=Nat) (I:=fun k F h=>2 * k<=m.length/\A3.tmp F 1=lU m/\A3.tmp F 2 = .b true/\A3.tmp F 3 = .fp (eT t) 0/\A3.tmp F 6 = .p 0 0 0 0/\A3.tmp F 7 = .p 1 0 0 0/\A3.tmp F 8 = .i .i64 ((2 * k:Nat):Int)/\h=grH (Dy t m k)) (μ:=fun k=>m.length - 2 * k) ?_ 0 _ _ ⟨by omega,?_,?_,?_,?_,?_,?_,?_⟩
 .rintro k F h ⟨hk,p1,p2,p3,p6,p7,p8,rfl⟩
  have w1:IntKind.i64.wrap (((2 * k:Nat):Int)+1)=((2 * k+1:Nat):Int):=by rw [Av (by omega) (by omega)];omega
  have w2:IntKind.i64.wrap (((2 * k:Nat):Int)+2)=((2 * (k+1):Nat):Int):=by rw [Av (by omega) (by omega)];omega
  by_cases c:2 * k+1 < m.length
  .have ci:decide (((2 * k+1:Nat):Int) < (m.length:Int))=true:=decide_eq_true (by omega)
   have c0:2 * k < m.length:=by omega
   have g0:=Aec c0
   have g1:=Aec c
   have b0:=TP hm (2 * k)
   have b1:=TP hm (2 * k+1)
   have v0:IntKind.i64.wrap ((NU m (2 * k):Nat):Int)=((NU m (2 * k):Nat):Int):=Av (by omega) (by omega)
   have v1:IntKind.i64.wrap ((NU m (2 * k+1):Nat):Int)=((NU m (2 * k+1):Nat):Int):=Av (by omega) (by omega)
   have h0:=Mu ht m k
   have hn:=fun (Q:VV->Prop)=>P6 C t ht (Dy t m k) h0 (by omega) _ _ b0 b1 (Q:=Q)
   cases e:K8 t (Dy t m k) (NU m (2 * k)) (NU m (2 * k+1)) with
   | none =>
    have eg:Dy t m (k+1)=Dy t m k:=by rw [Dy,e]
    rw [e,Cj] at hn
    simp only [P1,go_sem,↓reduceIte,p1,p2,p3,p6,p7,p8,w1,w2,ci,c0,c,g0,g1,v0,v1,hn,grH,Pp,A0]
    exact ⟨k+1,by omega,by omega,by rw [eg];exact ⟨rfl,rfl⟩⟩
   | some s' =>
    have hz:=(Ye h0 e).sz ht (by omega)
    have hw:=fun (Q:VV->Prop)=>Ki C t ht s' hz (Q:=Q)
    rw [e,Cy] at hn
    cases d:decide (H7 t s' = 0) with
    | true =>
     have eg:Dy t m (k+1)=s':=by rw [Dy,e];simp only;rw [if_pos (of_decide_eq_true d)]
     simp only [P1,go_sem,↓reduceIte,p1,p2,p3,p6,p7,p8,w1,w2,ci,c0,c,g0,g1,v0,v1,hn,grH,hw,d,A0]
     exact ⟨k+1,by omega,by omega,by rw [eg];exact ⟨rfl,rfl⟩⟩
    | false =>
     have eg:Dy t m (k+1)=Dy t m k:=by rw [Dy,e];simp only;rw [if_neg (of_decide_eq_false d)]
     simp only [P1,go_sem,↓reduceIte,p1,p2,p3,p6,p7,p8,w1,w2,ci,c0,c,g0,g1,v0,v1,hn,grH,hw,d,A0]
     exact ⟨k+1,by omega,by omega,by rw [eg];exact ⟨rfl,rfl⟩⟩
  .have ci:decide (2 * k+1 < m.length)=false:=decide_eq_false (by omega)
   have e:k=m.length / 2:=by omega
   simp only [P1,go_sem,↓reduceIte,p1,p2,p3,p6,p7,p8,w1,w2,ci,grH,A0]
   rw [e]
 .simp only [go_sem,↓reduceIte]
 .simp only [go_sem,↓reduceIte]
 .simp only [go_sem,↓reduceIte]
 .simp only [go_sem,↓reduceIte]
 .simp only [go_sem,↓reduceIte]
 .simp only [go_sem,↓reduceIte]
 .rfl
end
theorem TM {n:Nat} (hn:n<=64) (p:Nat->Nat->Bool):KY (Aj n p)=true↔∀ i,i < n->¬ EO p n i i:=by
 rw [KY,Cm hn,Bool.true_and,Aw,Al]
 constructor
 .intro h i hi hp
  have:=h i hi
  rw [(E3 hn p hi).2 hp] at this
  cases this
 .intro h i hi
  rw [Bool.not_eq_true',Bool.eq_false_iff]
  intro hb
  exact h i hi ((E3 hn p hi).1 hb)
def Acy (t:A2) (s:A6):Prop:=∀ i,¬ EO (Kw t s) t.nodes.length i i
theorem Ahc {t:A2} (ht:A9 t) {s:A6} (h:Acy t s):KY (Aj t.nodes.length (Kw t s))=true:=(TM ht.n64 _).2 fun i _=>h i
theorem Ajz {t:A2} (ht:A9 t):Acy t (BF t):=by
 have h0:∀ a b:Nat,Kw t (BF t) a b=true->a < b:=fun a b h=>by
  simp only [Kw,wyE,Bool.and_eq_true,Bool.or_eq_true,decide_eq_true_eq,Af] at h
  rcases h.2 with h2 | h2
  .exact KC ht h2
  .exfalso
   have hf:=Q0 ht
   have hF:=Ba (B3 (AY.2 hf))
   obtain ⟨m,e,hm,hu⟩:=EU.1 h.1.2
   have e:b=m:=by omega
   subst e
   have hk:(t.at b).kind≠2:=by rcases N0 ht hm hu with c | c<;>omega
   have:=hF.none b h.1.2 (by rw [toNat_natCast];exact hk)
   omega
 have h1:∀ {a b:Nat},EO (Kw t (BF t)) t.nodes.length a b->a < b:=fun {a b} h=>by
  induction h with
  | one _ h=>exact h0 _ _ h
  | more _ _ h ih=>have:=h0 _ _ h;omega
 intro i h
 have:=h1 h
 omega
theorem A9g {t:A2} (ht:A9 t) {s:A6} (h:L3 t s=true):Bd t s=true/\Mt t s=true:=by
 rw [A9f t ht,Bool.and_eq_true] at h
 exact h
theorem A9b {t:A2} (ht:A9 t) {s:A6} (hf:Bg t s) (hc:Ads t s) (hac:Acy t s) (hco:L3 t s=true):H7 t s=0:=by
 have hF:=Ba (B3 (AY.2 hf))
 have h1:∀ i,i < s.has.length->∃ m:Nat,s.has.getD i 0=m/\(m:Int)∈s.has/\Ed s.has s.jf m=s.jf.getD i 0:=fun i hi=>by
  have hm:=Ac (d:=0) hi
  obtain ⟨m,e,h2⟩:=A7 (hf.node _ hm)
  have:=hF.at_ i hi
  rw [e] at this hm
  exact ⟨m,e,hm,this⟩
 have src:∀ m:Nat,(m:Int)∈s.has->∀ w,Ed s.has s.jf m=w->0<=w->∃ x:Nat,w=x/\(x:Int)∈s.has:=fun m hm w hw h0=>by
  have hk:(t.at m).kind=2:=by
   apply Classical.byContradiction
   intro hk
   have:=hF.none m hm (by rw [toNat_natCast];exact hk)
   omega
  obtain ⟨q1,_,_⟩:=hF.read m hm (by rw [toNat_natCast];exact hk)
  rw [hw] at q1
  obtain ⟨x,e,_⟩:=A7 (hf.node _ q1)
  rw [e] at q1
  exact ⟨x,e,q1⟩
 unfold H7
 rw [if_neg (by rw [AY.2 hf];decide),if_neg (by rw [Ahc ht hac];decide)]
 rw [if_neg,if_neg,if_neg,if_neg (by rw [(A9g ht hco).2];decide)]
 .rw [Bool.not_eq_false,Aw]
  intro i hi
  obtain ⟨m,e,hm,ho⟩:=h1 i hi
  rw [e,Pk]
  by_cases c:0<=s.jf.getD i 0
  .obtain ⟨x,ex,hx⟩:=src m hm _ ho c
   rw [ex,toNat_natCast,A9a ht hf hc hx];simp
  .rw [decide_eq_false c];rfl
 .rw [Bool.not_eq_false,Aw]
  intro i hi
  obtain ⟨m,e,hm,ho⟩:=h1 i hi
  rw [e,wy4]
  by_cases c:0<=s.jf.getD i 0
  .obtain ⟨x,ex,hx⟩:=src m hm _ ho c
   rw [ex,toNat_natCast,toNat_natCast,SG ht hf hc hx hm,Bool.and_false];rfl
  .rw [decide_eq_false c];rfl
 .rw [Bool.not_eq_false,Aw]
  intro i hi
  obtain ⟨m,e,hm,ho⟩:=h1 i hi
  rw [e,wy3,toNat_natCast,SG ht hf hc hm hm];rfl
theorem AaB {t:A2} (ht:A9 t) {s:A6} (hf:Bg t s):Mt t s=L3 t s:=by
 rw [A9f t ht,AY.2 hf,Bool.true_and]
theorem A8h {t:A2} (ht:A9 t):H7 t (BF t)=0:=A9b ht (Q0 ht) (A8t ht (Q0 ht) (AmM ht)) (Ajz ht) (AjA ht)
theorem Nj {t:A2} (ht:A9 t) (m:List U8):∀ k,H7 t (Dy t m k)=0
 | 0=>A8h ht
 | k+1=>by
  have ih:=Nj ht m k
  rw [Dy]
  split
  .split
   .assumption
   .exact ih
  .exact ih
def JG (t:A2) (s:A6):Int:=if Bd t s=false then 1 else if KY (Aj t.nodes.length (BC t s s.has.length))=false then 2 else
 if ((List.range s.has.length).all fun i=>Pu t s (s.has.getD i 0).toNat)=false then 3 else
 if ((List.range s.has.length).all fun i=>!(decide (0<=s.jf.getD i 0) && Ec t s (s.has.getD i 0).toNat (s.jf.getD i 0).toNat))=false then 4 else
 if ((List.range s.has.length).all fun i=>!Pk t s (s.has.getD i 0) (s.jf.getD i 0))=false then 5 else
 if L3 t s=false then 6 else 0
theorem AfI {t:A2} (ht:A9 t) {s:A6} (hf:Bg t s) (a b:Nat):BC t s s.has.length a b=Kw t s a b:=by
 have hF:=Ba (B3 (AY.2 hf))
 rw [Bool.eq_iff_iff,Rz ht hf,Kw,wyE]
 simp only [Bool.and_eq_true,Bool.or_eq_true,decide_eq_true_eq,Af]
 constructor
 .rintro ⟨hb,h⟩
  rcases h with ⟨ha,h⟩ | h
  .exact ⟨⟨ha,hb⟩,.inl h⟩
  .refine ⟨⟨?_,hb⟩,.inr h⟩
   by_cases hk:(t.at b).kind=2
   .have:=(hF.read b hb (by rw [toNat_natCast];exact hk)).1
    rwa [h] at this
   .have:=hF.none b hb (by rw [toNat_natCast];exact hk)
    omega
 .rintro ⟨⟨ha,hb⟩,h⟩
  refine ⟨hb,?_⟩
  rcases h with h | h
  .exact .inl ⟨ha,h⟩
  .exact .inr h
theorem Add {t:A2} (ht:A9 t) (s:A6):JG t s=H7 t s:=by
 unfold JG H7
 cases hf':Bd t s with
 | false=>rw [if_pos rfl,if_pos rfl]
 | true =>
 have hf:=AY.1 hf'
 have hF:=Ba (B3 hf')
 have er:Aj t.nodes.length (BC t s s.has.length)=Aj t.nodes.length (Kw t s):=CC fun a b _ _=>AfI ht hf a b
 rw [er]
 have e4:((List.range s.has.length).all fun i=>!(decide (0<=s.jf.getD i 0) && Ec t s (s.has.getD i 0).toNat (s.jf.getD i 0).toNat))=((List.range s.has.length).all fun i=>!wy4 t s (s.has.getD i 0) (s.jf.getD i 0)):=by
  rw [Bool.eq_iff_iff,Aw,Aw]
  refine forall_congr' fun i=>forall_congr' fun hi=>?_
  have hm:=Ac (d:=0) hi
  obtain ⟨m,e,h0⟩:=A7 (hf.node _ hm)
  have ho:=hF.at_ i hi
  rw [e] at ho hm
  rw [wy4,e]
  by_cases c:0<=s.jf.getD i 0
  .have hk:(t.at m).kind=2:=by
    apply Classical.byContradiction
    intro hk
    have:=hF.none m hm (by rw [toNat_natCast];exact hk)
    omega
   have q1:=(hF.read m hm (by rw [toNat_natCast];exact hk)).1
   rw [ho] at q1
   obtain ⟨x,ex,hx⟩:=A7 (hf.node _ q1)
   rw [ex,toNat_natCast,toNat_natCast,A9r ht h0 hx]
  .rw [decide_eq_false c,Bool.false_and,Bool.false_and]
 have e3:((List.range s.has.length).all fun i=>Pu t s (s.has.getD i 0).toNat)=((List.range s.has.length).all fun i=>!wy3 t s (s.has.getD i 0)):=by
  congr 1
 rw [e3,e4,<- AaB ht hf]
def evn (m:List U8):List U8:=m.take (m.length / 2 * 2)
def nI (l:List Nat):List Int:=l.map fun (n:Nat)=>(n:Int)
theorem LQ (l:List Nat):(nI l).length=l.length:=by simp [nI]
theorem A6g (l:List Nat) (x:Nat):nI l++[(x:Int)]=nI (l++[x]):=by simp [nI]
theorem Arv (l:List Int) (k:Nat) (v:Int):(l.map eI).set k [.i .i64 v]=(l.set k v).map eI:=by rw [List.map_set]
end Go.AM
