/-
  Own work, part of the proof of these laws: what functions compute.
-/
import Derived.Test.YtpnaenhghnkggaaGreatDoorKC
set_option maxRecDepth 10000
set_option maxHeartbeats 64000000
set_option linter.unusedVariables false
set_option linter.unusedSimpArgs false
set_option linter.unusedSectionVars false
set_option linter.unnecessarySimpa false
open Bool (and_eq_true or_eq_true)
open Int (toNat_natCast)
open Nat (zero_le)
open List (getElem_mem nil_append cons_append map_nil any_nil)
namespace Go.AM
open Go Go.Proofs
abbrev eLk (t:A1) (a:Int):List VV:=[.i .i64 t.vals,lS t.locs,.ls (t.regs.map Hv),.ls (t.nodes.map eN),.i .i64 a]
abbrev LK (t:A1) (a:Int):Option VO:=some ⟨Sx,0,0,false,[eLk t a]⟩
@[go_sem] theorem Aq5 {α:Type} (r s:List α):(r++s)[r.length]? = s[0]?:=by
 rw [List.getElem?_append_right (Nat.le_refl _),Nat.sub_self]
@[go_sem] theorem AmE {α:Type} (r s:List α) (k:Nat):(r++s)[r.length+k]? = s[k]?:=by
 rw [List.getElem?_append_right (Nat.le_add_right _ _),Nat.add_sub_cancel_left]
@[go_sem] theorem Aq6 {α:Type} (r s:List α) (x:α):(r++s).set r.length x=r++s.set 0 x:=by
 rw [List.set_append_right _ _ (Nat.le_refl _),Nat.sub_self]
@[go_sem] theorem Aq7 {α:Type} (r s:List α) (k:Nat) (x:α):(r++s).set (r.length+k) x=r++s.set k x:=by
 rw [List.set_append_right _ _ (Nat.le_add_right _ _),Nat.add_sub_cancel_left]
@[go_sem] theorem AhD {α:Type} (r s:List α):(r++s).take r.length=r:=by simp
@[go_sem] theorem AhE {α:Type} (r s:List α) (k:Nat):(r++s).take (r.length+k)=r++s.take k:=by rw [List.take_append,List.take_of_length_le (Nat.le_add_right _ _),Nat.add_sub_cancel_left]
@[go_sem] theorem Ale (L:Nat) (r s s':VH):L0 L (r++s) (r++s')=L0 L s s':=by
 induction r with
 | nil=>rfl
 | cons x r ih=>simp only [cons_append,Zy,ih,true_or,true_and]
@[go_sem] theorem Ajq (L:Nat) (r s':VH):L0 L r (r++s')=True:=Zz L r s'
@[go_sem] theorem dz0:decide ((0:Int) < ((0:Nat):Int))=false:=rfl
@[go_sem] theorem Aq9 (n:Nat):decide (0 < n+1)=true:=by simp
@[go_sem] theorem Aqa (n:Nat):decide (n < n+1)=true:=by simp
@[go_sem] theorem Aqb (n:Nat):decide (n < n+1+1)=true:=by simp;omega
@[go_sem] theorem Aqc (n:Nat):decide (n < n+1+1+1)=true:=by simp;omega
@[go_sem] theorem Aqd (n:Nat):decide (n < n+1+1+1+1)=true:=by simp;omega
@[go_sem] theorem An0 (n:Nat):decide (1 < n+1+1)=true:=by rw [decide_eq_true_iff];omega
@[go_sem] theorem An1 (n:Nat):decide (1 < n+1+1+1)=true:=by rw [decide_eq_true_iff];omega
@[go_sem] theorem An2 (n:Nat):decide (1 < n+1+1+1+1)=true:=by rw [decide_eq_true_iff];omega
@[go_sem] theorem An3 (n:Nat):decide (1 < n+1+1+1+1+1)=true:=by rw [decide_eq_true_iff];omega
@[go_sem] theorem An4 (n:Nat):decide (1 < n+1+1+1+1+1+1)=true:=by rw [decide_eq_true_iff];omega
@[go_sem] theorem An5 (n:Nat):decide (1 < n+1+1+1+1+1+1+1)=true:=by rw [decide_eq_true_iff];omega
@[go_sem] theorem An6 (n:Nat):decide (1 < n+1+1+1+1+1+1+1+1)=true:=by rw [decide_eq_true_iff];omega
@[go_sem] theorem An7 (n:Nat):decide (2 < n+1+1+1)=true:=by rw [decide_eq_true_iff];omega
@[go_sem] theorem An8 (n:Nat):decide (2 < n+1+1+1+1)=true:=by rw [decide_eq_true_iff];omega
@[go_sem] theorem An9 (n:Nat):decide (2 < n+1+1+1+1+1)=true:=by rw [decide_eq_true_iff];omega
@[go_sem] theorem Ana (n:Nat):decide (2 < n+1+1+1+1+1+1)=true:=by rw [decide_eq_true_iff];omega
@[go_sem] theorem Anb (n:Nat):decide (2 < n+1+1+1+1+1+1+1)=true:=by rw [decide_eq_true_iff];omega
@[go_sem] theorem Anc (n:Nat):decide (2 < n+1+1+1+1+1+1+1+1)=true:=by rw [decide_eq_true_iff];omega
@[go_sem] theorem And (n:Nat):decide (3 < n+1+1+1+1)=true:=by rw [decide_eq_true_iff];omega
@[go_sem] theorem Ane (n:Nat):decide (3 < n+1+1+1+1+1)=true:=by rw [decide_eq_true_iff];omega
@[go_sem] theorem Anf (n:Nat):decide (3 < n+1+1+1+1+1+1)=true:=by rw [decide_eq_true_iff];omega
@[go_sem] theorem Ang (n:Nat):decide (3 < n+1+1+1+1+1+1+1)=true:=by rw [decide_eq_true_iff];omega
@[go_sem] theorem Anh (n:Nat):decide (3 < n+1+1+1+1+1+1+1+1)=true:=by rw [decide_eq_true_iff];omega
@[go_sem] theorem Ani (n:Nat):decide (4 < n+1+1+1+1+1)=true:=by rw [decide_eq_true_iff];omega
@[go_sem] theorem Anj (n:Nat):decide (4 < n+1+1+1+1+1+1)=true:=by rw [decide_eq_true_iff];omega
@[go_sem] theorem Ank (n:Nat):decide (4 < n+1+1+1+1+1+1+1)=true:=by rw [decide_eq_true_iff];omega
@[go_sem] theorem Anl (n:Nat):decide (4 < n+1+1+1+1+1+1+1+1)=true:=by rw [decide_eq_true_iff];omega
@[go_sem] theorem Anm (n:Nat):decide (5 < n+1+1+1+1+1+1)=true:=by rw [decide_eq_true_iff];omega
@[go_sem] theorem Ann (n:Nat):decide (5 < n+1+1+1+1+1+1+1)=true:=by rw [decide_eq_true_iff];omega
@[go_sem] theorem Ano (n:Nat):decide (5 < n+1+1+1+1+1+1+1+1)=true:=by rw [decide_eq_true_iff];omega
@[go_sem] theorem Anp (n:Nat):decide (6 < n+1+1+1+1+1+1+1)=true:=by rw [decide_eq_true_iff];omega
@[go_sem] theorem Anq (n:Nat):decide (6 < n+1+1+1+1+1+1+1+1)=true:=by rw [decide_eq_true_iff];omega
attribute [go_sem] Option.isSome_some cons_append List.append_assoc nil_append
theorem Jo {xs:List (List ByteArray)} {k:Nat} (h:k < xs.length):xs[k]? = some (xs.getD k []):=by
 rw [List.getD_eq_getElem?_getD,List.getElem?_eq_getElem h];rfl
theorem Nb {xs:List ByteArray} {k:Nat} (h:k < xs.length):xs[k]? = some xs[k]:=List.getElem?_eq_getElem h
section
variable {V:Ae} (C:Ai V) {Q:VV->Prop}
include C
theorem MU (l:List ByteArray) (hl:l.length<=1000) (hn:l.Nodup):VP V Wj [lS l] Q↔Q (.b false):=by
 refine Ad ?_
 rw [Ab C.c_z160.1 C.c_z160.2]
 simp only [A1j,go_sem,↓reduceIte]
 refine Ac (by decide) l.length (by omega) (I:=fun k F h=>h=[]/\A2.tmp F 5=lS l/\A2.tmp F 0=lS l) ?_ ?_ 0 _ _ (zero_le _) ?_ ?_ ?_
 .rintro k F h hk h1 h2 ⟨rfl,h3,h4⟩
  have hx:((l.take k).any fun y=>decide (l[k]=y))=false:=by
   rw [List.any_eq_false]
   intro y hy e
   have e':l[k]=y:=by simpa using e
   obtain ⟨j,hj,ej⟩:=List.mem_iff_getElem.1 hy
   rw [List.getElem_take] at ej
   rw [List.length_take] at hj
   have:=(List.getElem_inj hn).1 (ej.trans e'.symm)
   omega
  have h0:k<=l.length:=by omega
  simp only [go_sem,↓reduceIte,h1,h2,h3,h4,Nb hk,h0,DX C (l.take k) _ (by simp;omega),hx,toNat_natCast]
 .rintro F h ⟨rfl,h3,h4⟩
  simp only [go_sem,↓reduceIte]
 all_goals simp only [go_sem,↓reduceIte]
 all_goals rfl
theorem GL (t:A1) (a n:Int):VP V WR [.fp (eLk t a) 0,.i .i64 n] Q↔Q (.b (EL t n)):=by
 refine Ad ?_
 rw [Ab C.c_z204.1 C.c_z204.2]
 unfold EL
 cases c0:decide (0<=n)<;>simp only [A1K,go_sem,↓reduceIte,c0]
theorem JZ (t:A1) (a n:Int):VP V Xl [.fp (eLk t a) 0,.i .i64 n] Q↔Q (.b (Jr t n)):=by
 refine Ad ?_
 rw [Ab C.c_z243.1 C.c_z243.2]
 unfold Jr
 cases c0:decide (0<=n)<;>simp only [A2b,go_sem,↓reduceIte,c0]
theorem Er (t:A1) (a u:Nat) (hu:u < t.nodes.length):VP V Xa [.fp (eLk t a) 0,.i .i64 u] Q↔Q (.b (BN t a u)):=by
 refine Ad ?_
 rw [Ab C.c_z231.1 C.c_z231.2]
 unfold BN
 by_cases ha:a < t.nodes.length
 .have h0:(a:Int) < t.nodes.length:=by omega
  cases c0:decide ((t.at a).up=u)<;>simp only [T9,go_sem,↓reduceIte,ha,h0,A6 ha,A6 hu,c0,toNat_natCast]
 .have h0:¬ (a:Int) < t.nodes.length:=by omega
  simp only [T9,go_sem,↓reduceIte,ha,h0]
theorem A2w (t:A1) (a n:Int):VP V Q5 [.i .i64 n,.fp [.fp (eLk t a) 0] 0] Q↔Q (.b (!EL t n)):=by
 refine Ad ?_
 rw [Ab C.c_z233.1 C.c_z233.2]
 simp only [A23,go_sem,↓reduceIte,GL C]
def Aek (V:Ae) (t:A1) (u e:Nat):Prop:=∀ (a:Int) (r:VH),GF V WS [.p 0 0 0 0,.i .i64 u] (LK t a::r) fun v h=>v = .b true/\h=LK t e::r
theorem Z5 (t:A1) (hn:t.nodes.length<=64) (u e:Nat) (hu:u+1 < t.nodes.length) (ha:CG t u=true) (hb:Aek V t (u+1) e) (r:VH) :
  GF V Xc [.p 0 0 0 0,.i .i64 u] (LK t ((u+1:Nat):Int)::r) fun v h=>v = .b true/\h=LK t e::r:=by
 rw [CF C.h_z234]
 have h0:u < t.nodes.length:=by omega
 have hq:=fun (r:VH) Q=>G9 (hb ((u+1:Nat):Int) r) (Q:=Q)
 unfold CG at ha
 simp only [or_eq_true,and_eq_true,decide_eq_true_eq] at ha
 rcases ha with ⟨⟨⟨⟨⟨h1,h2⟩,h3⟩,h4⟩,h5⟩,h6⟩ | ⟨⟨⟨h1,h2⟩,h3⟩,h4⟩
 .have h9:(t.at (u+1)).rmw=false:=by simpa using h4
  have hc:0<=(t.at (u+1)).mode:=by omega
  have h7:¬ (t.at (u+1)).mode=0:=by omega
  simp only [Po,go_sem,↓reduceIte,A6 hu,A6 h0,toNat_natCast,h1,h2,h3,h9,hc,h6,h7,hq,A0]
 .have h8:¬ (t.at (u+1)).kind=4:=by omega
  cases hr:(t.at (u+1)).rmw with
  | true =>
   rw [hr] at h4
   simp only [if_true,and_eq_true,decide_eq_true_eq] at h4
   obtain ⟨⟨⟨⟨g1,g2⟩,g3⟩,g4⟩,g5⟩:=h4
   simp only [Po,go_sem,↓reduceIte,A6 hu,A6 h0,toNat_natCast,h1,h8,hr,JZ C,GL C,h2,h3,g1,g2,g3,g4,g5,hq,A0,Int.reduceEq]
  | false =>
   rw [hr] at h4
   simp only [Bool.false_eq_true,if_false,or_eq_true,decide_eq_true_eq] at h4
   have g1:0<=(t.at (u+1)).mode:=by omega
   have g2:(t.at (u+1)).mode<=4:=by omega
   rcases h4 with (h4 | h4) | h4 <;>
   simp only [Po,go_sem,↓reduceIte,A6 hu,A6 h0,toNat_natCast,h1,h8,hr,JZ C,GL C,h2,h3,g1,g2,h4,hq,A0,Int.reduceEq,Int.reduceLE]
theorem A2x (t:A1) (hn:t.nodes.length<=64) (u e:Nat) (hu:u < t.nodes.length) (vals:Nat) (k:Nat->Nat) (loc mode:Int) (hv:t.vals=vals) (hv0:0 < vals) (hv1:vals<=4) (hk0:k 0=u+1) (hke:k vals=e) (hl:Jr t loc=true)
  (hs:∀ v,v < vals->BN t (k v) u=true/\DB t (k v) v loc mode=true/\Aek V t (k v) (k (v+1)))
  (hm:(mode=0\/mode=1\/mode=4)\/(0<=mode/\mode<=4/\∃ v,v < vals/\Dl t (k v)=true)) (r:VH) :
  GF V Xd [.p 0 0 0 0,.i .i64 u] (LK t ((u+1:Nat):Int)::r) fun v h=>v = .b true/\h=LK t e::r:=by
 rw [CF C.h_z235]
 have h0:=hs 0 hv0
 rw [hk0] at h0
 obtain ⟨c0,s0,_⟩:=h0
 have h2:u+1 < t.nodes.length:=by
  unfold BN at c0
  simp only [and_eq_true,decide_eq_true_eq] at c0
  omega
 simp only [DB,and_eq_true,decide_eq_true_eq] at s0
 obtain ⟨⟨⟨⟨g1,g2⟩,g3⟩,g4⟩,g5⟩:=s0
 simp only [A24,go_sem,↓reduceIte,A6 h2,toNat_natCast,hv]
 refine Ac (by decide) vals (by omega) (I:=fun v F h=>h=LK t (k v)::(r++[some ⟨Cp,0,0,false,[eN (t.at (u+1))]⟩])/\A2.tmp F 0 = .p 0 0 0 0/\A2.tmp F 1 = .i .i64 u/\A2.tmp F 5 = .p (r.length+1) 0 0 0/\A2.tmp F 6 = .b ((List.range v).any fun j=>Dl t (k j))) ?_ ?_ 0 _ _ (zero_le _) ?_ ?_ ?_
 .rintro v F h h3 p1 p2 ⟨rfl,p3,p4,p5,p6⟩
  obtain ⟨c1,s1,b1⟩:=hs v h3
  have hq:=fun (r:VH) Q=>G9 (b1 (k v) r) (Q:=Q)
  have h5:k v < t.nodes.length:=by
   unfold BN at c1
   simp only [and_eq_true,decide_eq_true_eq] at c1
   omega
  simp only [DB,and_eq_true,decide_eq_true_eq] at s1
  obtain ⟨⟨⟨⟨q1,q2⟩,q3⟩,q4⟩,q5⟩:=s1
  have h6:(t.at (k v)).rmw=false:=by simpa using q5
  have w1:=EN (show k v < 9223372036854775807 by omega)
  have h1:((List.range (v+1)).any fun j=>Dl t (k j))=(((List.range v).any fun j=>Dl t (k j)) || Dl t (k v)):=by
   rw [List.range_succ,List.any_append];simp
  rw [h1]
  clear h1
  generalize ((List.range v).any fun j=>Dl t (k j))=B at *
  by_cases z1:k v+1 < t.nodes.length
  .have h4:((k v+1:Nat):Int) < (t.nodes.length:Int):=by omega
   have z2:decide (k v+1 < t.nodes.length)=true:=by simp [z1]
   unfold Dl
   rw [z2]
   cases z3:decide ((t.at (k v+1)).up=(k v:Int))<;>cases B <;>
    simp only [To,go_sem,↓reduceIte,p1,p2,p3,p4,p5,p6,Er C t _ u hu,c1,A6 h5,A6 h2,A6 z1,toNat_natCast,q1,q2,q3,q4,h6,g1,g3,g4,hq,w1,h4,z3,List.length_append]
  .have h4:¬ ((k v+1:Nat):Int) < (t.nodes.length:Int):=by omega
   have z2:decide (k v+1 < t.nodes.length)=false:=by simp [z1]
   unfold Dl
   rw [z2]
   simp only [To,go_sem,↓reduceIte,p1,p2,p3,p4,p5,p6,Er C t _ u hu,c1,A6 h5,A6 h2,toNat_natCast,q1,q2,q3,q4,h6,g1,g3,g4,hq,w1,h4]
 .rintro F h ⟨rfl,p3,p4,p5,p6⟩
  rw [hke]
  rcases hm with hm | ⟨hm1,hm2,v,h3,hm3⟩
  .rcases hm with (hm | hm | hm) <;>
   simp only [go_sem,↓reduceIte,p3,p4,p5,p6,g3,g4,hm,JZ C,hl,Int.reduceEq]
  .have h1:((List.range vals).any fun j=>Dl t (k j))=true:=Ye h3 hm3
   rw [h1] at p6
   cases m0:decide (mode=0)<;>cases m1:decide (mode=1)<;>cases m2:decide (mode=4) <;>
   simp only [go_sem,↓reduceIte,p3,p4,p5,p6,g3,g4,hm1,hm2,m0,m1,m2,JZ C,hl,Int.reduceEq]
 all_goals simp only [go_sem,↓reduceIte]
 .rfl
 .simp only [hk0,eN,g1,g2,g3,g4,List.range_zero,any_nil,go_sem]
theorem R2 (t:A1) (hn:t.nodes.length<=64) (h4:t.vals<=4) (hr:∀ l∈t.regs,l.length<=1000):∀ n u e,G0 t n u e->Aek V t u e:=by
 intro n
 induction n with
 | zero=>intro u e h;exact h.elim
 | succ n ih =>
  intro u e hb a r
  obtain ⟨⟨hu,he,hg⟩,hb⟩:=hb
  rw [CF C.h_z205]
  have w1:=EN (show u < 9223372036854775807 by omega)
  obtain ⟨th,hc⟩:=Int.eq_ofNat_of_zero_le he
  have ha:th < t.regs.length:=by omega
  rcases hb with ⟨c0,e0,rfl⟩ | ⟨c0,f0,r0,a0,b0⟩ | ⟨c0,f0,r0,vals,k,loc,mode,hv,hv0,hk0,hke,hl,hs,hm⟩
  .simp only [A3z,and_eq_true,decide_eq_true_eq] at e0
   obtain ⟨⟨g1,g2⟩,g3⟩:=e0
   rw [hc,toNat_natCast] at g2
   have h8:((t.at u).regs.any fun v=>!EL t v)=false:=by
    rw [List.any_eq_false]
    intro x hx
    rw [List.all_eq_true] at g3
    simp [g3 x hx]
   have hf:(t.regs.getD th []).length<=1000:=by
    by_cases z:th < t.regs.length
    .exact hr _ (Af z)
    .omega
   have hd:=fun (a:Int) Q=>Eh C (t.at u).regs (by omega) (g:=Q5) (a:=[]) (c:=[.fp [.fp (eLk t a) 0] 0]) Fz.nil (fun _ _=>rfl) (fun x=>!EL t x) (fun x=>(A2w C t a x).2 rfl) (Q:=Q)
   simp only [Pm,go_sem,↓reduceIte,w1,Er C t _ u hu,c0,A6 hu,toNat_natCast,g1,g2,hc,Jo ha,hd,h8]
  .have h7:u+1 < t.nodes.length:=by
    unfold BN at c0
    simp only [and_eq_true,decide_eq_true_eq] at c0
    omega
   have hq:=fun (r:VH) Q=>G9 (Z5 C t hn u e h7 a0 (ih _ _ b0) r) (Q:=Q)
   have h9:¬ (t.at (u+1)).kind=2:=by
    unfold CG at a0
    simp only [or_eq_true,and_eq_true,decide_eq_true_eq] at a0
    rcases a0 with ⟨⟨⟨⟨⟨h1,h2⟩,h3⟩,h4⟩,h5⟩,h6⟩ | ⟨⟨⟨h1,h2⟩,h3⟩,h4⟩<;>omega
   simp only [Pm,go_sem,↓reduceIte,w1,Er C t _ u hu,c0,A6 hu,A6 h7,toNat_natCast,f0,r0,h9,hq]
  .have h0:=hs 0 hv0
   rw [hk0] at h0
   have h7:u+1 < t.nodes.length:=by
    unfold BN at c0
    simp only [and_eq_true,decide_eq_true_eq] at c0
    omega
   have h9:(t.at (u+1)).kind=2:=by
    have:=h0.2.1
    simp only [DB,and_eq_true,decide_eq_true_eq] at this
    exact this.1.1.1.1
   have hq:=fun (r:VH) Q=>G9 (A2x C t hn u e hu vals k loc mode hv hv0 (by omega) hk0 hke hl (fun v hv=>⟨(hs v hv).1,(hs v hv).2.1,ih _ _ (hs v hv).2.2⟩) hm r) (Q:=Q)
   simp only [Pm,go_sem,↓reduceIte,w1,Er C t _ u hu,c0,A6 hu,A6 h7,toNat_natCast,f0,r0,h9,hq]
theorem Z6 (t:A1) (hn:t.nodes.length<=64) (hl:t.locs.length<=t.nodes.length) (hi:∀ i,i < t.locs.length->Gh t i=true) (r:VH) :
  GF V Wl [.p 0 0 0 0] (LK t 0::r) fun v h=>v = .b true/\h=LK t t.locs.length::r:=by
 rw [CF C.h_z161]
 simp only [A1k,go_sem,↓reduceIte]
 unfold VL
 rw [A0]
 refine AU (M:=Nat) (I:=fun k F h=>k<=t.locs.length/\h=LK t (k:Int)::r/\A2.tmp F 0 = .p 0 0 0 0) (μ:=fun k=>t.locs.length - k) ?_ 0 _ _ ⟨zero_le _,rfl,?_⟩
 .rintro k F h ⟨hk,rfl,p1⟩
  by_cases hkl:k < t.locs.length
  .have h0:(k:Int) < t.locs.length:=by omega
   have h5:k < t.nodes.length:=by omega
   have h1:¬ (t.nodes.length:Int)<=k:=by omega
   have w1:=EN (show k < 9223372036854775807 by omega)
   have:=hi k hkl
   unfold Gh at this
   simp only [and_eq_true,decide_eq_true_eq] at this
   obtain ⟨⟨⟨⟨⟨⟨⟨⟨g1,g2⟩,g3⟩,g4⟩,g5⟩,g6⟩,g7⟩,g8⟩,g9⟩:=this
   have h2:(t.at k).rmw=false:=by simpa using g7
   have h3:(t.at k).fin=false:=by simpa using g8
   simp only [Tn,go_sem,↓reduceIte,p1,h0,h1,A6 h5,toNat_natCast,g1,g2,g3,g4,g5,g6,h2,h3,g9,GL C,w1,A0]
   exact ⟨k+1,by omega,by omega,rfl⟩
  .have h4:k=t.locs.length:=by omega
   subst h4
   simp only [Tn,go_sem,↓reduceIte,p1,A0]
 all_goals simp only [go_sem,↓reduceIte]
theorem R3 (t:A1) (hn:t.nodes.length<=64) (h4:t.vals<=4) (hr:∀ l∈t.regs,l.length<=1000) (hr4:t.regs.length<=4) (s:Nat->Nat) (hs0:s 0=t.locs.length) (hse:s t.regs.length=t.nodes.length)
  (hs:∀ i,i < t.regs.length->Dt t (s i) i=true/\∃ n,G0 t n (s i) (s (i+1))) (r:VH) :
  GF V Wm [.p 0 0 0 0] (LK t t.locs.length::r) fun v h=>v = .b true/\h=LK t t.nodes.length::r:=by
 rw [CF C.h_z162]
 simp only [A1l,go_sem,↓reduceIte]
 refine Ac (by decide) t.regs.length (by omega) (I:=fun i F h=>h=LK t (s i)::r/\A2.tmp F 0 = .p 0 0 0 0) ?_ ?_ 0 _ _ (zero_le _) ?_ ?_ ?_
 .rintro i F h hi h1 h2 ⟨rfl,p1⟩
  obtain ⟨b0,nn,b1⟩:=hs i hi
  have hu:s i < t.nodes.length:=by
   cases nn with
   | zero=>exact b1.elim
   | succ nn=>exact b1.1.1
  have h3:¬ (t.nodes.length:Int)<=s i:=by omega
  have hq:=fun (r:VH) Q=>G9 (R2 C t hn h4 hr _ _ _ b1 (s i) r) (Q:=Q)
  unfold Dt at b0
  simp only [and_eq_true,decide_eq_true_eq] at b0
  obtain ⟨⟨⟨⟨⟨⟨g1,g2⟩,g3⟩,g4⟩,g5⟩,g6⟩,g7⟩:=b0
  have h0:(t.at (s i)).rmw=false:=by simpa using g7
  simp only [A44,go_sem,↓reduceIte,h1,h2,p1,h3,A6 hu,toNat_natCast,g1,g2,g3,g4,g5,g6,h0,hq]
 .rintro F h ⟨rfl,p1⟩
  rw [hse]
  simp only [go_sem,↓reduceIte,p1]
 all_goals simp only [go_sem,↓reduceIte,hs0]
 all_goals rfl
theorem Mg (t:A1) (h:A5 t):VP V Zr [vT t] Q↔Q (.b true):=by
 refine Ad ?_
 rw [Ab C.c_z94.1 C.c_z94.2]
 have a1:=h.v2
 have a2:=h.v4
 have a3:=h.l4
 have a4:=h.n64
 have a5:=h.r1
 have a6:=h.r4
 have b1:¬ t.vals < 2:=by omega
 have b2:¬ 4 < t.vals:=by omega
 have b3:¬ (4:Int) < t.locs.length:=by omega
 have b4:¬ (64:Int) < t.nodes.length:=by omega
 have b5:¬ (t.regs.length:Int) < 1:=by omega
 have b6:¬ (4:Int) < t.regs.length:=by omega
 obtain ⟨s,s0,se,hs⟩:=h.thr
 have h0:∀ l∈t.regs,l.length<=1000:=fun l hl=>by have:=(h.rl l hl).1;omega
 have q1:=fun (r:VH) Q=>G9 (Z6 C t h.n64 h.first.1 h.first.2 r) (Q:=Q)
 have q2:=fun (r:VH) Q=>G9 (R3 C t h.n64 h.v4 h0 h.r4 s s0 se hs r) (Q:=Q)
 simp only [A98,go_sem,↓reduceIte,b1,b2,b3,b4,b5,b6,MU C t.locs (by omega) h.ln]
 refine Ac (by decide) t.regs.length (by omega) (I:=fun i F h=>h=[]/\A2.tmp F 1 = .fp (eT t) 0/\A2.tmp F 42 = .ls (t.regs.map Hv)) ?_ ?_ 0 _ _ (zero_le _) ?_ ?_ ?_
 .rintro i F hh hi h1 h2 ⟨rfl,p1,p2⟩
  have hm:=h.rl _ (Af (d:=[]) hi)
  have hb:¬ (4:Int) < (t.regs.getD i []).length:=by omega
  simp only [A9s,go_sem,↓reduceIte,h1,h2,p1,p2,Jo hi,hb,MU C (t.regs.getD i []) (by omega) hm.2]
 .rintro F hh ⟨rfl,p1,p2⟩
  simp only [go_sem,↓reduceIte,p1,q1,q2]
 all_goals simp only [go_sem,↓reduceIte]
 all_goals rfl
end
attribute [go_sem] Int.reduceLE Int.reduceLT Int.reduceEq Int.reduceToNat Int.reduceNeg Int.le_refl toNat_natCast Int.cast_ofNat_Int
section
variable {V:Ae} (C:Ai V) {Q:VV->Prop}
include C
theorem S0 (v n:Int) (h1:1<=n) (h2:n<=2147483648):VP V WO [.i .i64 v,.i .i64 n] Q↔Q (.i .i64 (v % n)):=by
 refine Ad ?_
 rw [Ab C.c_z196.1 C.c_z196.2]
 have c1:¬ n < 1:=by omega
 have c2:¬ 2147483648 < n:=by omega
 obtain ⟨t1,t2⟩:=AdD (v:=v) (show 0 < n by omega)
 by_cases c:v.tmod n < 0
 .obtain ⟨t3,t4⟩:=t1 c
  have w:IntKind.i64.wrap (v.tmod n+n)=v % n:=by rw [AR (by omega) (by omega),t3]
  simp only [T6,go_sem,↓reduceIte,c1,c2,Gv (show n≠0 by omega),c,w]
 .have c':¬ v % n < 0:=by rw [<- t2 c];exact c
  simp only [T6,go_sem,↓reduceIte,c1,c2,Gv (show n≠0 by omega),t2 c,c']
theorem DU (xs:List ByteArray) (n:ByteArray) (hl:xs.length<=1000):VP V WL [lS xs,.s n] Q↔Q (.i .i64 (C7 (fun y=>decide (n=y)) xs)):=by
 refine Ad ?_
 rw [Ab C.c_z193.1 C.c_z193.2]
 simp only [A1F,go_sem,↓reduceIte]
 refine Al (by decide) xs.length (by omega) (I:=fun k F h=>h=[]/\A2.tmp F 0=lS xs/\A2.tmp F 1 = .s n/\∀ (j:Nat) (hj:j < xs.length),j < k->¬ n=xs[j]) ?_ ?_ ?_ 0 _ _ (zero_le _) ?_ ?_
 .rintro k F h hk p1 ⟨rfl,p2,p3,p4⟩
  simp only [go_sem,↓reduceIte,p1,p2,p3]
  exact p4
 .rintro k F h hk p1 ⟨rfl,p2,p3,p4⟩
  by_cases e:xs[k]=n
  .simp only [go_sem,↓reduceIte,p1,p2,p3,Nb hk,e]
   rw [Di hk (by simp [e]) fun j hj=>by simpa using p4 j (by omega) hj]
  .simp only [go_sem,↓reduceIte,p1,p2,p3,Nb hk,e]
   intro j hj h0
   by_cases e2:j=k
   .subst e2;exact fun h=>e h.symm
   .exact p4 j hj (by omega)
 .rintro F h ⟨rfl,p2,p3,p4⟩
  simp only [go_sem,↓reduceIte]
  rw [DE fun x hx=>by obtain ⟨j,hj,e⟩:=List.mem_iff_getElem.1 hx;rw [<- e];simpa using p4 j hj hj]
 all_goals simp only [go_sem,↓reduceIte]
 all_goals first | rfl | (intro j hj h0;omega)
theorem CQ (xs:List ByteArray) (n:ByteArray) (hl:xs.length<=1000):VP V WF [lS xs,.s n] Q↔Q (.b (xs.any fun y=>decide (n=y))):=by
 refine Ad ?_
 rw [Ab C.c_z187.1 C.c_z187.2]
 simp only [A1A,go_sem,↓reduceIte,DU C xs n hl,JQ]
theorem XC (r:List VV) (h:GE r):VP V Xi [.ag r] fun x=>∃ k:Int,x = .i .i64 k:=by
 induction h with
 | mk op n nm kids hl hk ih =>
  rw [Ab C.c_z240.1 C.c_z240.2]
  simp only [A29,go_sem,↓reduceIte]
  by_cases ho:op=1\/op=2
  .unfold VL
   rw [A0]
   refine AU (M:=Nat) (I:=fun k F h=>h=[]/\A2.tmp F 1 = .fp [.i .i64 op,.i .i64 n,.s nm,.ls kids] 0/\A2.tmp F 4 = .i .i64 0/\A2.tmp F 3 = .i .i64 0) (μ:=fun k=>k) ?_ 0 _ _ ⟨rfl,?_,?_,?_⟩
   .rintro k F h ⟨rfl,p1,p2,p3⟩
    cases c0:decide ((0:Int) < kids.length)<;>rcases ho with ho | ho <;>
     simp only [A46,go_sem,↓reduceIte,p1,p2,p3,c0,ho,Int.reduceEq,A0]<;>exact ⟨_,rfl⟩
   all_goals simp only [go_sem,↓reduceIte]
  .have o1:¬ op=1:=fun h=>ho (.inl h)
   have o2:¬ op=2:=fun h=>ho (.inr h)
   refine Al (by decide) kids.length (by omega) (I:=fun k F h=>h=[]/\A2.tmp F 1 = .fp [.i .i64 op,.i .i64 n,.s nm,.ls kids] 0/\∃ d:Int,A2.tmp F 3 = .i .i64 d) ?_ ?_ ?_ 0 _ _ (zero_le _) ?_ ?_
   .rintro k F h h0 p1 ⟨rfl,p2,d,p3⟩
    cases c0:decide ((k:Int) < kids.length)
    .have:decide (k < kids.length)=false:=by simp at c0 ⊢;omega
     simp only [go_sem,↓reduceIte,p1,p2,p3,o1,o2,c0,this]
     try exact ⟨d,rfl⟩
    .have:decide (k < kids.length)=true:=by simp at c0 ⊢;omega
     simp only [go_sem,↓reduceIte,p1,p2,p3,o1,o2,c0,this]
     try exact ⟨d,rfl⟩
   .rintro k F h h0 p1 ⟨rfl,p2,d,p3⟩
    have hg:=hk _ (getElem_mem h0)
    simp only [go_sem,↓reduceIte,p1,p2,p3,QZ h0,hg.len,hg.take,hg.frz]
    refine (ih _ (getElem_mem h0)).mono ?_
    rintro _ ⟨e,rfl⟩
    cases c0:decide (d < e) <;>
    simp only [go_sem,↓reduceIte,p1,p2,p3,c0]<;>exact ⟨_,rfl⟩
   .rintro F h ⟨rfl,p2,d,p3⟩
    simp only [go_sem,↓reduceIte,p3]
    try exact ⟨_,rfl⟩
   all_goals simp only [go_sem,↓reduceIte]
   all_goals first | rfl | exact ⟨_,rfl⟩
theorem XD (regs:List ByteArray) (vals:List Int) (hr:regs.length<=1000) (hl:vals.length=regs.length) (n:Int) (h1:2<=n) (h2:n<=2147483648) (r:List VV) (h:GE r) :
  VP V Xj [.ag r,lS regs,lI vals,.i .i64 n] fun x=>∃ (k:Int) (b:Bool),x = .tu [.i .i64 k,.b b]/\0<=k/\k < n:=by
 have h0:∀ v:Int,0<=v % n/\v % n < n:=fun v=>⟨Int.emod_nonneg v (by omega),Int.emod_lt_of_pos v (by omega)⟩
 have q5:=fun v Q=>S0 C v n (by omega) h2 (Q:=Q)
 induction h with
 | mk op m nm kids hkl hk ih =>
  rw [Ab C.c_z241.1 C.c_z241.2]
  by_cases o1:op=1
  .simp only [HF,go_sem,↓reduceIte,o1,A0,q5]
   exact ⟨_,_,rfl,h0 m⟩
  by_cases o2:op=2
  .cases c0:regs.any fun y=>decide (nm=y) with
   | false =>
    have e:=Pb c0
    simp only [HF,go_sem,↓reduceIte,o2,A0,q5,Int.reduceEq,DU C regs nm hr,e,Int.reduceLT,Int.reduceNeg]
    exact ⟨_,_,rfl,by omega,by omega⟩
   | true =>
    obtain ⟨k,e,h6,_⟩:=Jl c0
    have h3:k < vals.length:=by omega
    have h4:¬ (k:Int) < 0:=by omega
    simp only [HF,go_sem,↓reduceIte,o2,A0,q5,Int.reduceEq,DU C regs nm hr,e,h4,Ar h3]
    exact ⟨_,_,rfl,h0 _⟩
  by_cases o3:op < 3
  .simp only [HF,go_sem,↓reduceIte,o1,o2,o3,A0]
   exact ⟨_,_,rfl,by omega,by omega⟩
  by_cases o4:6 < op
  .simp only [HF,go_sem,↓reduceIte,o1,o2,o3,o4,A0]
   exact ⟨_,_,rfl,by omega,by omega⟩
  by_cases o5:(kids.length:Int)=2
  .obtain ⟨a,b,rfl⟩:∃ a b,kids=[a,b]:=by
    rcases kids with _ | ⟨a,_ | ⟨b,_ | ⟨c,l⟩⟩⟩
    .simp at o5
    .simp at o5
    .exact ⟨a,b,rfl⟩
    .simp at o5;omega
   have ga:=hk a (by simp)
   have gb:=hk b (by simp)
   simp only [HF,go_sem,↓reduceIte,o1,o2,o3,o4,o5,A0,ga.len,ga.take,ga.frz,gb.len,gb.take,gb.frz,Int.reduceEq,Int.cast_ofNat_Int]
   refine (ih a (by simp)).mono ?_
   rintro _ ⟨ka,ba,rfl,_,_⟩
   simp only [go_sem,↓reduceIte,gb.len,gb.take,gb.frz]
   refine (ih b (by simp)).mono ?_
   rintro _ ⟨kb,bb,rfl,_,_⟩
   have h5:op=3\/op=4\/op=5\/op=6:=by omega
   cases ba with
   | false =>
    simp only [go_sem,↓reduceIte]
    exact ⟨_,_,rfl,by omega,by omega⟩
   | true =>
    cases bb with
    | false =>
     simp only [go_sem,↓reduceIte]
     exact ⟨_,_,rfl,by omega,by omega⟩
    | true =>
     rcases h5 with rfl | rfl | rfl | rfl
     .simp only [go_sem,↓reduceIte,A0,q5,Int.reduceEq]
      exact ⟨_,_,rfl,h0 _⟩
     .simp only [go_sem,↓reduceIte,A0,q5,Int.reduceEq]
      exact ⟨_,_,rfl,h0 _⟩
     .cases c0:decide (ka=kb) <;>
      simp only [go_sem,↓reduceIte,A0,q5,Int.reduceEq,c0] <;>
      exact ⟨_,_,rfl,by omega,by omega⟩
     .cases c0:decide (ka < kb) <;>
      simp only [go_sem,↓reduceIte,A0,q5,Int.reduceEq,c0] <;>
      exact ⟨_,_,rfl,by omega,by omega⟩
  .simp only [HF,go_sem,↓reduceIte,o1,o2,o3,o4,o5,A0]
   exact ⟨_,_,rfl,by omega,by omega⟩
theorem DG (regs:List ByteArray) (vals:List Int) (hr:regs.length<=1000) (hl:vals.length=regs.length) (n:Int) (h1:2<=n) (h2:n<=4) (r:List VV) (h:GE r) :
  VP V Q3 [.ag r,lS regs,lI vals,.i .i64 n] fun x=>∃ (k:Int) (b:Bool),x = .tu [.i .i64 k,.b b]/\0<=k/\k < n:=by
 have c1:¬ n < 2:=by omega
 have c2:¬ 4 < n:=by omega
 have c3:(regs.length:Int)=vals.length:=by omega
 rw [Ab C.c_z224.1 C.c_z224.2]
 have hb:∀ L,CA L r=true:=fun L=>by cases h;rfl
 simp only [A20,go_sem,↓reduceIte,c1,c2,c3,h.len,h.take,h.frz,h.cell]
 refine (XC C r h).mono ?_
 rintro _ ⟨k,rfl⟩
 cases c0:decide (6 < k) with
 | true =>
  simp only [go_sem,↓reduceIte,c0]
  exact ⟨_,_,rfl,by omega,by omega⟩
 | false =>
  simp only [go_sem,↓reduceIte,c0,h.len,h.take,h.frz]
  refine (XD C regs vals hr hl n h1 (by omega) r h).mono ?_
  rintro _ ⟨k,b,rfl,hk⟩
  simp only [go_sem,↓reduceIte]
  exact ⟨_,_,rfl,hk⟩
theorem C9 (k:Int):VP V X8 [.i .i64 k] Q↔Q (.b (Gq k)):=by
 refine Ad ?_
 rw [Ab C.c_z223.1 C.c_z223.2]
 unfold Gq
 cases c1:decide (k=1)<;>cases c2:decide (k=2)<;>cases c3:decide (k=4) <;>
 simp only [A1Z,go_sem,↓reduceIte,c1,c2,c3]
def A7L (V:Ae) (l:List (List VV)):Prop:=∀ out:List ByteArray,out.Nodup->(∀ n∈out,n∈N4)->VP V Mj [lS out,.ls l] fun x=>∃ o:List ByteArray,x=lS o/\o.Nodup/\(∀ n∈out,n∈o)/\(∀ n∈o,n∈N4)/\∀ r∈l,RI o r
omit C in
theorem Mm {o:List ByteArray} (h:o.Nodup) (h4:∀ n∈o,n∈N4):o.length<=4:=List.Nodup.length_le_of_subset h h4
theorem Ha (l:List (List VV)) (hl:l.length<=1000) (hs:∀ s∈l,∃ kind mode reg loc args th el,s=rS kind mode reg loc args th el/\(Gq kind=true->reg∈N4)/\A7L V th/\A7L V el):A7L V l:=by
 intro h3 hn h4
 rw [Ab C.c_z191.1 C.c_z191.2]
 simp only [A1E,go_sem,↓reduceIte]
 refine Al (by decide) l.length (by omega) (I:=fun k F h=>h=[]/\A2.tmp F 1 = .ls l/\∃ o:List ByteArray,A2.tmp F 0=lS o/\o.Nodup/\(∀ n∈h3,n∈o)/\(∀ n∈o,n∈N4)/\∀ j (hj:j < l.length),j < k->RI o l[j]) ?_ ?_ ?_ 0 _ _ (zero_le _) ?_ ?_
 .rintro k F h hk p1 ⟨rfl,p2,o,p3,p4⟩
  simp only [go_sem,↓reduceIte,p1,p2,p3]
  exact ⟨o,rfl,p4⟩
 .rintro k F h hk p1 ⟨rfl,p2,o,p3,p4,p5,p6,p7⟩
  obtain ⟨kind,mode,reg,loc,args,th,el,e,h2,a1,a2⟩:=hs _ (getElem_mem hk)
  have ho:=Mm p4 p6
  have h1:=QZ hk
  rw [e] at h1
  have fin:∀ o2:List ByteArray,o2.Nodup->(∀ n∈o,n∈o2)->(∀ n∈o2,n∈N4)->(Gq kind=true->reg∈o2)->VP V Mj [lS o2,.ls th] fun x=>∃ o3:List ByteArray,x=lS o3/\VP V Mj [lS o3,.ls el] fun x=>∃ o4:List ByteArray,x=lS o4/\o4.Nodup/\(∀ n∈h3,n∈o4)/\(∀ n∈o4,n∈N4)/\∀ j (hj:j < l.length),j < k+1->RI o4 l[j]:=by
   intro o2 g1 g2 g3 g4
   refine (a1 o2 g1 g3).mono ?_
   rintro _ ⟨o3,rfl,q1,q2,q3,q4⟩
   refine ⟨o3,rfl,(a2 o3 q1 q3).mono ?_⟩
   rintro _ ⟨o4,rfl,r1,r2,r3,r4⟩
   refine ⟨o4,rfl,r1,fun n hn=>r2 _ (q2 _ (g2 _ (p5 _ hn))),r3,fun j hj hjk=>?_⟩
   by_cases ej:j=k
   .subst ej
    rw [e]
    exact .mk _ _ _ _ _ _ _ (fun h=>r2 _ (q2 _ (g4 h))) (fun s hs=>(q4 s hs).mono r2) r4
   .exact (p7 j hj (by omega)).mono fun n hn=>r2 _ (q2 _ (g2 _ hn))
  cases c0:Gq kind with
  | false =>
   simp only [go_sem,↓reduceIte,p1,p2,p3,h1,C9 C,c0]
   refine (fin o p4 (fun n h=>h) p6 (fun h=>by rw [c0] at h;cases h)).mono ?_
   rintro _ ⟨o3,rfl,hv⟩
   simp only [go_sem,↓reduceIte,p1,p2,p3,h1]
   refine hv.mono ?_
   rintro _ ⟨o4,rfl,hv⟩
   simp only [go_sem,↓reduceIte,p1,p2,p3,h1]
   exact ⟨o4,rfl,hv⟩
  | true =>
   cases c1:o.any fun y=>decide (reg=y) with
   | true =>
    have h0:reg∈o:=by
     rw [List.any_eq_true] at c1
     obtain ⟨x,hx,e⟩:=c1
     rw [of_decide_eq_true e];exact hx
    simp only [go_sem,↓reduceIte,p1,p2,p3,h1,C9 C,c0,CQ C o reg (by omega),c1]
    refine (fin o p4 (fun n h=>h) p6 (fun h=>h0)).mono ?_
    rintro _ ⟨o3,rfl,hv⟩
    simp only [go_sem,↓reduceIte,p1,p2,p3,h1]
    refine hv.mono ?_
    rintro _ ⟨o4,rfl,hv⟩
    simp only [go_sem,↓reduceIte,p1,p2,p3,h1]
    exact ⟨o4,rfl,hv⟩
   | false =>
    have h0:reg∉o:=by
     intro h
     rw [List.any_eq_false] at c1
     simpa using c1 reg h
    have nd:(o++[reg]).Nodup:=List.nodup_append.2 ⟨p4,by simp,by intro a ha b hb;simp at hb;subst hb;intro e;subst e;exact h0 ha⟩
    have sub:∀ n∈o++[reg],n∈N4:=fun n hn=>by
     rcases List.mem_append.1 hn with h | h
     .exact p6 n h
     .rw [List.mem_singleton.1 h];exact h2 c0
    have f2:=fin (o++[reg]) nd (fun n h=>List.mem_append_left _ h) sub (fun _=>by simp)
    have b0:o.length * 16<=A9:=by unfold A9;omega
    have b1:(o.length+1) * 16<=A9:=by unfold A9;omega
    simp only [go_sem,↓reduceIte,p1,p2,p3,h1,C9 C,c0,CQ C o reg (by omega),c1,b0,b1]
    refine f2.mono ?_
    rintro _ ⟨o3,rfl,hv⟩
    simp only [go_sem,↓reduceIte,p1,p2,p3,h1]
    refine hv.mono ?_
    rintro _ ⟨o4,rfl,hv⟩
    simp only [go_sem,↓reduceIte,p1,p2,p3,h1]
    exact ⟨o4,rfl,hv⟩
 .rintro F h ⟨rfl,p2,o,p3,p4,p5,p6,p7⟩
  simp only [go_sem,↓reduceIte,p3]
  refine ⟨o,rfl,p4,p5,p6,fun r hr=>?_⟩
  obtain ⟨j,hj,rfl⟩:=List.mem_iff_getElem.1 hr
  exact p7 j hj hj
 all_goals simp only [go_sem,↓reduceIte]
 exact ⟨h3,rfl,hn,fun n h=>h,h4,fun j hj hjk=>by omega⟩
theorem ZH {locs:List ByteArray} {r:List VV} (h:GS locs r):∃ kind mode reg loc args th el,r=rS kind mode reg loc args th el/\(Gq kind=true->reg∈N4)/\A7L V th/\A7L V el:=by
 induction h with
 | mk kind mode reg loc args th el h1 h2 h3 h4 h5 h6 h7 ih1 ih2=>exact ⟨kind,mode,reg,loc,args,th,el,rfl,h7.rn,Ha C th h3 ih1,Ha C el h4 ih2⟩
theorem ZG {locs:List ByteArray} (l:List (List VV)) (hl:l.length<=1000) (h:∀ s∈l,GS locs s):VP V We [.ls l] fun x=>∃ o:List ByteArray,x=lS o/\o.Nodup/\(∀ n∈o,n∈N4)/\∀ r∈l,RI o r:=by
 rw [Ab C.c_z145.1 C.c_z145.2]
 simp only [A1d,go_sem,↓reduceIte]
 refine (Ha C l hl (fun s hs=>ZH C (h s hs)) [] (by simp) (by simp)).mono ?_
 rintro _ ⟨o,rfl,h1,h2,h3,h4⟩
 simp only [go_sem,↓reduceIte]
 exact ⟨o,rfl,h1,h3,h4⟩
end
theorem BL {V:Ae} {m:Nat->Nat} {a b:A4} {F:A2} {h:VH} {Q:Ex->A2->VH->Prop} (J:A2->VH->Prop) (h1:Vc V m a F h (fun e F' h'=>match e with | .norm=>J F' h' | e=>Q e F' h')) (h2:∀ F' h',J F' h'->Vc V m b F' h' Q):Vc V m (.seq a b) F h Q:=by
 rw [Kx]
 exact h1.mono fun e F' h' hq=>by
  cases e with
  | norm=>exact h2 _ _ hq
  | exit _=>exact hq
  | ret=>exact hq
theorem CU {V:Ae} {g:Nat} {pa:List VV} {Q:VV->Prop} (k:VP V g pa Q):∃ x,Q x/\∀ Q':VV->Prop,VP V g pa Q'↔Q' x:=by
 have h0:∃ x,Q x/\VP V g pa fun r=>r=x:=by
  unfold VP at k ⊢
  split at k
  .rename_i y hy
   obtain ⟨v,h1,h2,h3⟩:=k
   exact ⟨v,h3,v,h1,h2,rfl⟩
  .rename_i hy
   obtain ⟨vf,h1,n,v,h',h2,r,ids,h3,h4⟩:=k
   exact ⟨r,h4,vf,h1,n,v,h',h2,r,ids,h3,rfl⟩
 obtain ⟨x,h1,h2⟩:=h0
 exact ⟨x,h1,fun Q'=>Ad h2⟩
theorem NY {V:Ae} {g:Nat} {pa:List VV} {h:VH} {Q:VV->VH->Prop} (k:GF V g pa h Q):∃ x y,Q x y/\∀ Q':VV->VH->Prop,GF V g pa h Q'↔Q' x y:=by
 obtain ⟨vf,h1,n,v,h',h2,r,ids,h3,h4,h5⟩:=k
 exact ⟨_,_,h5,fun Q'=>G9 ⟨vf,h1,n,v,h',h2,r,ids,h3,h4,rfl,rfl⟩⟩
theorem Dw {V:Ae} {g:Nat} {pa:List VV} {h:VH} {Q:VV->VH->Prop} (k:LW V g pa h Q):∃ x y,Q x y/\∀ Q':VV->VH->Prop,LW V g pa h Q'↔Q' x y:=by
 obtain ⟨vf,h1,n,v,h',h2,h3⟩:=k
 exact ⟨_,_,h3,fun Q'=>NX ⟨vf,h1,n,v,h',h2,rfl,rfl⟩⟩
inductive GC:List VV->Prop
 | mk (op th:Int) (nm:ByteArray) (n:Int) (kids:List (List VV)):kids.length<=1000->(∀ k∈kids,GC k)->GC [.i .i64 op,.i .i64 th,.s nm,.i .i64 n,.ls kids]
theorem GC.len {r:List VV} (h:GC r):r.length=5:=by cases h;rfl
theorem GC.frz {r:List VV} (h:GC r) {hh:VH} {d:Nat}:Bk (frz hh (d+1)) r=some (r,[]):=by cases h;rfl
theorem GC.take {r:List VV} (h:GC r):r.take 5=r:=by cases h;rfl
theorem GC.cell {r:List VV} (h:GC r):r.all VV.cell=true:=by cases h;rfl
theorem ixS {s:ByteArray} {k:Nat} (h:k < s.size):∃ b:UInt8,s.data.toList[k]? = some b:=by
 have:k < s.data.toList.length:=by simpa using h
 exact ⟨_,List.getElem?_eq_getElem this⟩
section
variable {V:Ae} (C:Ai V) {Q:VV->Prop}
include C
theorem Ks (n:Int):VP V X5 [.i .u8 n] fun x=>∃ b:Bool,x = .b b:=by
 rw [Ab C.c_z219.1 C.c_z219.2]
 simp only [A1W,go_sem,↓reduceIte]
 repeat' first
 | (refine Bl (fun hx=>?_) (fun hx=>?_)<;>simp only [go_sem,↓reduceIte,hx])
 | (refine Ba (fun hx=>?_) (fun hx=>?_)<;>simp only [go_sem,↓reduceIte,hx])
 | (refine B0 (fun hx=>?_) (fun hx=>?_)<;>simp only [go_sem,↓reduceIte,hx])
 all_goals try exact ⟨_,rfl⟩
theorem XA (n:Int):VP V X7 [.i .u8 n] fun x=>∃ b:Bool,x = .b b:=by
 rw [Ab C.c_z221.1 C.c_z221.2]
 simp only [A1Y,go_sem,↓reduceIte]
 repeat' first
 | (refine Bl (fun hx=>?_) (fun hx=>?_)<;>simp only [go_sem,↓reduceIte,hx])
 | (refine Ba (fun hx=>?_) (fun hx=>?_)<;>simp only [go_sem,↓reduceIte,hx])
 | (refine B0 (fun hx=>?_) (fun hx=>?_)<;>simp only [go_sem,↓reduceIte,hx])
 all_goals try exact ⟨_,rfl⟩
theorem XB:VP V Xe [] fun x=>∃ l:List ByteArray,x=lS l/\l.length<=1000:=by
 rw [Ab C.c_z236.1 C.c_z236.2]
 simp only [A25,go_sem,↓reduceIte]
 exact ⟨[_,_,_,_,_,_,_,_,_,_,_,_,_,_,_,_,_,_,_,_,_],rfl,by simp⟩
theorem Qo (s:ByteArray):VP V X6 [.s s] fun x=>∃ b:Bool,x = .b b:=by
 rw [Ab C.c_z220.1 C.c_z220.2]
 simp only [A1X,go_sem,↓reduceIte]
 refine (XB C).mono ?_
 rintro _ ⟨l,rfl,hl⟩
 refine Al (by decide) l.length (by omega) (I:=fun k F h=>h=[]/\A2.tmp F 0 = .s s/\A2.tmp F 3=lS l) ?_ ?_ ?_ 0 _ _ (zero_le _) ?_ ?_
 .rintro k F h hk p1 ⟨rfl,p2,p3⟩
  simp only [go_sem,↓reduceIte,p1,p2,p3]
 .rintro k F h hk p1 ⟨rfl,p2,p3⟩
  cases c0:decide (l[k]=s) <;>
  simp only [go_sem,↓reduceIte,p1,p2,p3,Nb hk,c0]
  try exact ⟨_,rfl⟩
 .rintro F h ⟨rfl,p2,p3⟩
  simp only [go_sem,↓reduceIte]
  try exact ⟨_,rfl⟩
 all_goals try simp only [go_sem,↓reduceIte]
theorem JB (s:ByteArray) (hs:s.size<=1000):VP V WE [.s s] fun x=>∃ b:Bool,x = .b b:=by
 rw [Ab C.c_z186.1 C.c_z186.2]
 cases c0:decide (s=bs []) with
 | true =>
  simp only [Pj,go_sem,↓reduceIte,c0]
  try exact ⟨_,rfl⟩
 | false =>
  cases c1:decide (8 < (s.size:Int)) with
  | true =>
   simp only [Pj,go_sem,↓reduceIte,c0,c1]
   try exact ⟨_,rfl⟩
  | false =>
   have hz:0 < s.size:=by
    rcases Nat.eq_zero_or_pos s.size with h | h
    .exfalso
     have:s=bs []:=by
      cases s with
      | mk d=>
       have:d = #[]:=Array.eq_empty_of_size_eq_zero h
       rw [this]
     simp [this] at c0
    .exact h
   obtain ⟨b0,h1⟩:=ixS hz
   simp only [Pj,go_sem,↓reduceIte,c0,c1,h1]
   refine (Ks C _).mono ?_
   rintro _ ⟨x0,rfl⟩
   cases x0 with
   | false =>
    simp only [go_sem,↓reduceIte]
    try exact ⟨_,rfl⟩
   | true =>
    simp only [go_sem,↓reduceIte]
    refine (Qo C s).mono ?_
    rintro _ ⟨x1,rfl⟩
    cases x1 with
    | true =>
     simp only [go_sem,↓reduceIte]
     try exact ⟨_,rfl⟩
    | false =>
     simp only [go_sem,↓reduceIte]
     refine Al (by decide) s.size (by omega) (I:=fun k F h=>h=[]/\A2.tmp F 0 = .s s) ?_ ?_ ?_ 0 _ _ (zero_le _) ?_ ?_
     .rintro k F h hk p1 ⟨rfl,p2⟩
      simp only [go_sem,↓reduceIte,p1,p2]
     .rintro k F h hk p1 ⟨rfl,p2⟩
      obtain ⟨bk,h0⟩:=ixS hk
      simp only [go_sem,↓reduceIte,p1,p2,h0]
      refine (Ks C _).mono ?_
      rintro _ ⟨x0,rfl⟩
      cases x0 with
      | true =>
       simp only [go_sem,↓reduceIte,p1,p2]
      | false =>
       simp only [go_sem,↓reduceIte,p1,p2,h0]
       refine (XA C _).mono ?_
       rintro _ ⟨x0,rfl⟩
       cases x0 <;>
       simp only [go_sem,↓reduceIte,p1,p2]
       try exact ⟨_,rfl⟩
     .rintro F h ⟨rfl,p2⟩
      simp only [go_sem,↓reduceIte]
      try exact ⟨_,rfl⟩
     all_goals try simp only [go_sem,↓reduceIte]
theorem ZK (r:List VV) (h:GE r):VP V Xg [.ag r] fun x=>∃ k:Int,x = .i .i64 k:=by
 induction h with
 | mk op n nm kids hl hk ih =>
  rw [Ab C.c_z238.1 C.c_z238.2]
  simp only [A27,go_sem,↓reduceIte]
  refine Al (by decide) kids.length (by omega) (I:=fun k F h=>h=[]/\A2.tmp F 1 = .fp [.i .i64 op,.i .i64 n,.s nm,.ls kids] 0/\∃ d:Int,A2.tmp F 3 = .i .i64 d) ?_ ?_ ?_ 0 _ _ (zero_le _) ?_ ?_
  .rintro k F h h0 p1 ⟨rfl,p2,d,p3⟩
   simp only [go_sem,↓reduceIte,p1,p2,p3]
   try exact ⟨d,rfl⟩
  .rintro k F h h0 p1 ⟨rfl,p2,d,p3⟩
   have hg:=hk _ (getElem_mem h0)
   simp only [go_sem,↓reduceIte,p1,p2,p3,QZ h0,hg.len,hg.take,hg.frz]
   refine (ih _ (getElem_mem h0)).mono ?_
   rintro _ ⟨e,rfl⟩
   cases c0:decide (d < e) <;>
   simp only [go_sem,↓reduceIte,p1,p2,p3,c0]
  .rintro F h ⟨rfl,p2,d,p3⟩
   simp only [go_sem,↓reduceIte,p3]
   try exact ⟨_,rfl⟩
  all_goals try simp only [go_sem,↓reduceIte]
  all_goals first | rfl | exact ⟨_,rfl⟩
theorem Nh (r:List VV) (h:GC r):VP V WJ [.ag r] fun x=>∃ k:Int,x = .i .i64 k:=by
 induction h with
 | mk op th nm n kids hl hk ih =>
  rw [Ab C.c_z189.1 C.c_z189.2]
  simp only [A1C,go_sem,↓reduceIte]
  refine Al (by decide) kids.length (by omega) (I:=fun k F h=>h=[]/\A2.tmp F 1 = .fp [.i .i64 op,.i .i64 th,.s nm,.i .i64 n,.ls kids] 0/\∃ d:Int,A2.tmp F 3 = .i .i64 d) ?_ ?_ ?_ 0 _ _ (zero_le _) ?_ ?_
  .rintro k F h h0 p1 ⟨rfl,p2,d,p3⟩
   simp only [go_sem,↓reduceIte,p1,p2,p3]
   try exact ⟨d,rfl⟩
  .rintro k F h h0 p1 ⟨rfl,p2,d,p3⟩
   have hg:=hk _ (getElem_mem h0)
   simp only [go_sem,↓reduceIte,p1,p2,p3,QZ h0,hg.len,hg.take,hg.frz]
   refine (ih _ (getElem_mem h0)).mono ?_
   rintro _ ⟨e,rfl⟩
   cases c0:decide (d < e) <;>
   simp only [go_sem,↓reduceIte,p1,p2,p3,c0]
  .rintro F h ⟨rfl,p2,d,p3⟩
   simp only [go_sem,↓reduceIte,p3]
   try exact ⟨_,rfl⟩
  all_goals try simp only [go_sem,↓reduceIte]
  all_goals first | rfl | exact ⟨_,rfl⟩
theorem A2V (k n:Int):VP V Xf [.i .i64 k,.i .i64 n] fun x=>∃ b:Bool,x = .b b:=by
 rw [Ab C.c_z237.1 C.c_z237.2]
 simp only [A26,go_sem,↓reduceIte,A0]
 repeat' first
 | (refine Bl (fun hx=>?_) (fun hx=>?_)<;>simp only [go_sem,↓reduceIte,hx,A0])
 | (refine Ba (fun hx=>?_) (fun hx=>?_)<;>simp only [go_sem,↓reduceIte,hx,A0])
 | (refine B0 (fun hx=>?_) (fun hx=>?_)<;>simp only [go_sem,↓reduceIte,hx,A0])
 all_goals try exact ⟨_,rfl⟩
theorem MZ (vals:Int) (kn:List ByteArray) (hkn:kn.length<=1000) (r:List VV) (h:GE r):VP V Xh [.ag r,.i .i64 vals,lS kn] fun x=>∃ k:Int,x = .i .i64 k:=by
  induction h with
  | mk op n nm kids hl hk ih =>
    rw [Ab C.c_z239.1 C.c_z239.2]
    have h1:=fun Q=>CQ C kn nm hkn (Q:=Q)
    simp only [A28]
    refine BL (J:=fun F h=>h=[]/\A2.tmp F 1 = .i .i64 vals/\A2.tmp F 2=lS kn/\A2.tmp F 3 = .fp [.i .i64 op,.i .i64 n,.s nm,.ls kids] 0) ?_ ?_
    · simp only [go_sem,↓reduceIte]
    rintro F h ⟨rfl,p1,p2,p3⟩
    refine BL (J:=fun F h=>h=[]/\A2.tmp F 1 = .i .i64 vals/\A2.tmp F 2=lS kn/\A2.tmp F 3 = .fp [.i .i64 op,.i .i64 n,.s nm,.ls kids] 0/\∃ b:Bool,A2.tmp F 7 = .b b) ?_ ?_
    · simp only [go_sem, ↓reduceIte, p1, p2, p3]
      repeat' first
      | (refine Bl (fun hx=>?_) (fun hx=>?_)<;>simp only [go_sem,↓reduceIte,hx,p1,p2,p3])
      | (refine Ba (fun hx=>?_) (fun hx=>?_)<;>simp only [go_sem,↓reduceIte,hx,p1,p2,p3])
      | (refine B0 (fun hx=>?_) (fun hx=>?_)<;>simp only [go_sem,↓reduceIte,hx,p1,p2,p3])
    rintro F h ⟨rfl,p1,p2,p3,b,p4⟩
    refine BL (J:=fun F h=>h=[]/\A2.tmp F 1 = .i .i64 vals/\A2.tmp F 2=lS kn/\A2.tmp F 3 = .fp [.i .i64 op,.i .i64 n,.s nm,.ls kids] 0) ?_ ?_
    · cases b <;> simp only [go_sem, ↓reduceIte, p1, p2, p3, p4]
      all_goals repeat' first
                | (refine Bl (fun hx=>?_) (fun hx=>?_)<;>simp only [go_sem,↓reduceIte,hx,p1,p2,p3,p4])
                | (refine Ba (fun hx=>?_) (fun hx=>?_)<;>simp only [go_sem,↓reduceIte,hx,p1,p2,p3,p4])
                | (refine B0 (fun hx=>?_) (fun hx=>?_)<;>simp only [go_sem,↓reduceIte,hx,p1,p2,p3,p4])
    rintro F h ⟨rfl,p1,p2,p3⟩
    refine BL (J:=fun F h=>h=[]/\A2.tmp F 1 = .i .i64 vals/\A2.tmp F 2=lS kn/\A2.tmp F 3 = .fp [.i .i64 op,.i .i64 n,.s nm,.ls kids] 0) ?_ ?_
    · simp only [go_sem, ↓reduceIte, p1, p2, p3]
      repeat' first
      | (refine Bl (fun hx=>?_) (fun hx=>?_)<;>simp only [go_sem,↓reduceIte,hx,p1,p2,p3])
      | (refine Ba (fun hx=>?_) (fun hx=>?_)<;>simp only [go_sem,↓reduceIte,hx,p1,p2,p3])
      | (refine B0 (fun hx=>?_) (fun hx=>?_)<;>simp only [go_sem,↓reduceIte,hx,p1,p2,p3])
    rintro F h ⟨rfl,p1,p2,p3⟩
    refine BL (J:=fun F h=>h=[]/\A2.tmp F 1 = .i .i64 vals/\A2.tmp F 2=lS kn/\A2.tmp F 3 = .fp [.i .i64 op,.i .i64 n,.s nm,.ls kids] 0) ?_ ?_
    · simp only [go_sem, ↓reduceIte, p1, p2, p3]
      repeat' first
      | (refine Bl (fun hx=>?_) (fun hx=>?_)<;>simp only [go_sem,↓reduceIte,hx,p1,p2,p3])
      | (refine Ba (fun hx=>?_) (fun hx=>?_)<;>simp only [go_sem,↓reduceIte,hx,p1,p2,p3])
      | (refine B0 (fun hx=>?_) (fun hx=>?_)<;>simp only [go_sem,↓reduceIte,hx,p1,p2,p3])
    rintro F h ⟨rfl,p1,p2,p3⟩
    refine BL (J:=fun F h=>h=[]/\A2.tmp F 1 = .i .i64 vals/\A2.tmp F 2=lS kn/\A2.tmp F 3 = .fp [.i .i64 op,.i .i64 n,.s nm,.ls kids] 0) ?_ ?_
    · cases c0 : decide (op = 2) <;> cases c1 : (kn.any fun y => decide (nm = y)) <;>
      simp only [go_sem,↓reduceIte,p1,p2,p3,c0,h1,c1]
    rintro F h ⟨rfl,p1,p2,p3⟩
    simp only [go_sem,↓reduceIte,p1,p2,p3]
    refine Al (by decide) kids.length (by omega) (I:=fun k F h=>h=[]/\A2.tmp F 1 = .i .i64 vals/\A2.tmp F 2=lS kn/\A2.tmp F 3 = .fp [.i .i64 op,.i .i64 n,.s nm,.ls kids] 0) ?_ ?_ ?_ 0 _ _ (zero_le _) ?_ ?_
    · rintro k F h h0 q0 ⟨rfl, q1, q2, q3⟩
      simp only [go_sem,↓reduceIte,q0,q1,q2,q3]
    · rintro k F h h0 q0 ⟨rfl, q1, q2, q3⟩
      have hg:=hk _ (getElem_mem h0)
      simp only [go_sem,↓reduceIte,q0,q1,q2,q3,QZ h0,hg.len,hg.take,hg.frz]
      refine (ih _ (getElem_mem h0)).mono ?_
      rintro _ ⟨e,rfl⟩
      cases c0:decide (e=0) <;>
      simp only [go_sem,↓reduceIte,q0,q1,q2,q3,c0]
      try exact ⟨_,rfl⟩
    · rintro F h ⟨rfl, q1, q2, q3⟩
      simp only [go_sem,↓reduceIte]
      try exact ⟨_,rfl⟩
    all_goals try simp only [go_sem,↓reduceIte,p1,p2,p3]
theorem ZJ (vals:Int) (locs:List ByteArray) (hlo:locs.length<=1000) (regs:List (List ByteArray)) (hrl:regs.length<=1000) (hre:∀ l∈regs,l.length<=1000) (r:List VV) (h:GC r):VP V WK [.ag r,.i .i64 vals,lS locs,.ls (regs.map Hv)] fun x=>∃ k:Int,x = .i .i64 k:=by
 induction h with
 | mk op th nm n kids hl hk ih =>
  rw [Ab C.c_z190.1 C.c_z190.2]
  have h0:=fun Q=>CQ C locs nm hlo (Q:=Q)
  simp only [A1D]
  refine BL (J:=fun F h=>h=[]/\A2.tmp F 1 = .i .i64 vals/\A2.tmp F 2=lS locs/\A2.tmp F 3 = .ls (regs.map Hv)/\A2.tmp F 4 = .fp [.i .i64 op,.i .i64 th,.s nm,.i .i64 n,.ls kids] 0) ?_ ?_
  .simp only [go_sem,↓reduceIte]
  rintro F h ⟨rfl,p1,p2,p3,p4⟩
  refine BL (J:=fun F h=>(h=[]/\A2.tmp F 1 = .i .i64 vals/\A2.tmp F 2=lS locs/\A2.tmp F 3 = .ls (regs.map Hv)/\A2.tmp F 4 = .fp [.i .i64 op,.i .i64 th,.s nm,.i .i64 n,.ls kids] 0)/\∃ k:Int,A2.tmp F 9 = .i .i64 k) ?_ ?_
  .simp only [go_sem,↓reduceIte,p1,p2,p3,p4]
   try exact ⟨_,rfl⟩
  rintro F h ⟨⟨rfl,p1,p2,p3,p4⟩,k9,p9⟩
  refine BL (J:=fun F h=>(h=[]/\A2.tmp F 1 = .i .i64 vals/\A2.tmp F 2=lS locs/\A2.tmp F 3 = .ls (regs.map Hv)/\A2.tmp F 4 = .fp [.i .i64 op,.i .i64 th,.s nm,.i .i64 n,.ls kids] 0)/\∃ k:Int,A2.tmp F 9 = .i .i64 k) ?_ ?_
  .simp only [go_sem,↓reduceIte,p1,p2,p3,p4,p9,A0]
   repeat' first
   | (refine Bl (fun hx=>?_) (fun hx=>?_)<;>simp only [go_sem,↓reduceIte,hx,p1,p2,p3,p4,p9,A0])
   | (refine Ba (fun hx=>?_) (fun hx=>?_)<;>simp only [go_sem,↓reduceIte,hx,p1,p2,p3,p4,p9,A0])
   | (refine B0 (fun hx=>?_) (fun hx=>?_)<;>simp only [go_sem,↓reduceIte,hx,p1,p2,p3,p4,p9,A0])
   all_goals try exact ⟨_,rfl⟩
  rintro F h ⟨⟨rfl,p1,p2,p3,p4⟩,k9,p9⟩
  refine BL (J:=fun F h=>h=[]/\A2.tmp F 1 = .i .i64 vals/\A2.tmp F 2=lS locs/\A2.tmp F 3 = .ls (regs.map Hv)/\A2.tmp F 4 = .fp [.i .i64 op,.i .i64 th,.s nm,.i .i64 n,.ls kids] 0) ?_ ?_
  .simp only [go_sem,↓reduceIte,p1,p2,p3,p4,p9]
   repeat' first
   | (refine Bl (fun hx=>?_) (fun hx=>?_)<;>simp only [go_sem,↓reduceIte,hx,p1,p2,p3,p4,p9])
   | (refine Ba (fun hx=>?_) (fun hx=>?_)<;>simp only [go_sem,↓reduceIte,hx,p1,p2,p3,p4,p9])
   | (refine B0 (fun hx=>?_) (fun hx=>?_)<;>simp only [go_sem,↓reduceIte,hx,p1,p2,p3,p4,p9])
  rintro F h ⟨rfl,p1,p2,p3,p4⟩
  refine BL (J:=fun F h=>h=[]/\A2.tmp F 1 = .i .i64 vals/\A2.tmp F 2=lS locs/\A2.tmp F 3 = .ls (regs.map Hv)/\A2.tmp F 4 = .fp [.i .i64 op,.i .i64 th,.s nm,.i .i64 n,.ls kids] 0) ?_ ?_
  .by_cases c1:th < 0
   .simp only [go_sem,↓reduceIte,p1,p2,p3,p4,c1,A0,h0]
    repeat' first
    | (refine Bl (fun hx=>?_) (fun hx=>?_)<;>simp only [go_sem,↓reduceIte,hx,p1,p2,p3,p4,c1,A0,h0])
    | (refine Ba (fun hx=>?_) (fun hx=>?_)<;>simp only [go_sem,↓reduceIte,hx,p1,p2,p3,p4,c1,A0,h0])
    | (refine B0 (fun hx=>?_) (fun hx=>?_)<;>simp only [go_sem,↓reduceIte,hx,p1,p2,p3,p4,c1,A0,h0])
   .by_cases c2:(regs.length:Int)<=th
    .simp only [go_sem,↓reduceIte,p1,p2,p3,p4,c1,c2,A0,h0]
     repeat' first
     | (refine Bl (fun hx=>?_) (fun hx=>?_)<;>simp only [go_sem,↓reduceIte,hx,p1,p2,p3,p4,c1,c2,A0,h0])
     | (refine Ba (fun hx=>?_) (fun hx=>?_)<;>simp only [go_sem,↓reduceIte,hx,p1,p2,p3,p4,c1,c2,A0,h0])
     | (refine B0 (fun hx=>?_) (fun hx=>?_)<;>simp only [go_sem,↓reduceIte,hx,p1,p2,p3,p4,c1,c2,A0,h0])
    .obtain ⟨m,rfl⟩:=Int.eq_ofNat_of_zero_le (by omega:0<=th)
     have hm:m < regs.length:=by omega
     have h1:=fun Q=>CQ C (regs.getD m []) nm (hre _ (Af hm)) (Q:=Q)
     simp only [go_sem,↓reduceIte,p1,p2,p3,p4,c1,c2,A0,h0,h1,Jo hm]
     repeat' first
     | (refine Bl (fun hx=>?_) (fun hx=>?_)<;>simp only [go_sem,↓reduceIte,hx,p1,p2,p3,p4,c1,c2,A0,h0,h1,Jo hm])
     | (refine Ba (fun hx=>?_) (fun hx=>?_)<;>simp only [go_sem,↓reduceIte,hx,p1,p2,p3,p4,c1,c2,A0,h0,h1,Jo hm])
     | (refine B0 (fun hx=>?_) (fun hx=>?_)<;>simp only [go_sem,↓reduceIte,hx,p1,p2,p3,p4,c1,c2,A0,h0,h1,Jo hm])
  rintro F h ⟨rfl,p1,p2,p3,p4⟩
  refine BL (J:=fun F h=>h=[]/\A2.tmp F 1 = .i .i64 vals/\A2.tmp F 2=lS locs/\A2.tmp F 3 = .ls (regs.map Hv)/\A2.tmp F 4 = .fp [.i .i64 op,.i .i64 th,.s nm,.i .i64 n,.ls kids] 0) ?_ ?_
  .simp only [go_sem,↓reduceIte,p1,p2,p3,p4]
   repeat' first
   | (refine Bl (fun hx=>?_) (fun hx=>?_)<;>simp only [go_sem,↓reduceIte,hx,p1,p2,p3,p4])
   | (refine Ba (fun hx=>?_) (fun hx=>?_)<;>simp only [go_sem,↓reduceIte,hx,p1,p2,p3,p4])
   | (refine B0 (fun hx=>?_) (fun hx=>?_)<;>simp only [go_sem,↓reduceIte,hx,p1,p2,p3,p4])
  rintro F h ⟨rfl,p1,p2,p3,p4⟩
  simp only [go_sem,↓reduceIte,p1,p2,p3,p4]
  refine Al (by decide) kids.length (by omega) (I:=fun k F h=>h=[]/\A2.tmp F 1 = .i .i64 vals/\A2.tmp F 2=lS locs/\A2.tmp F 3 = .ls (regs.map Hv)/\A2.tmp F 4 = .fp [.i .i64 op,.i .i64 th,.s nm,.i .i64 n,.ls kids] 0) ?_ ?_ ?_ 0 _ _ (zero_le _) ?_ ?_
  .rintro k F h h2 q0 ⟨rfl,q1,q2,q3,q4⟩
   simp only [go_sem,↓reduceIte,q0,q1,q2,q3,q4]
  .rintro k F h h2 q0 ⟨rfl,q1,q2,q3,q4⟩
   have hg:=hk _ (getElem_mem h2)
   simp only [go_sem,↓reduceIte,q0,q1,q2,q3,q4,QZ h2,hg.len,hg.take,hg.frz]
   refine (ih _ (getElem_mem h2)).mono ?_
   rintro _ ⟨e,rfl⟩
   cases c0:decide (e=0) <;>
   simp only [go_sem,↓reduceIte,q0,q1,q2,q3,q4,c0]
   try exact ⟨_,rfl⟩
  .rintro F h ⟨rfl,q1,q2,q3,q4⟩
   simp only [go_sem,↓reduceIte]
   try exact ⟨_,rfl⟩
  all_goals try simp only [go_sem,↓reduceIte,p1,p2,p3,p4]
theorem ZL (nm:ByteArray) (hnm:nm.size<=1000) (vals:Int) (ini thr:List (List VV)) (ask:Int) (c:List VV) (hc:GC c):VP V WD [.ag ([.s nm,.i .i64 vals,.ls ini,.ls thr,.i .i64 ask]++c)] fun x=>∃ k:Int,x = .i .i64 k:=by
  cases hc
  rw [Ab C.c_z185.1 C.c_z185.2]
  simp only [A1z,go_sem,↓reduceIte,A0]
  refine (JB C nm hnm).mono ?_
  rintro _ ⟨b,rfl⟩
  cases b<;>simp only [go_sem,↓reduceIte,A0]
  all_goals repeat' first
            | (refine Bl (fun hx=>?_) (fun hx=>?_)<;>simp only [go_sem,↓reduceIte,hx,A0])
            | (refine Ba (fun hx=>?_) (fun hx=>?_)<;>simp only [go_sem,↓reduceIte,hx,A0])
            | (refine B0 (fun hx=>?_) (fun hx=>?_)<;>simp only [go_sem,↓reduceIte,hx,A0])
  all_goals try exact ⟨_,rfl⟩
abbrev LOo (locs:List ByteArray):Option VO:=some (AL NU 1 (locs.map eS))
abbrev WKo (vals:Int) (nl:Nat) (kn:VV) (n part:Int):Option VO:=some ⟨LZ,0,0,false,[[.i .i64 vals,.sl 0 nl 0 nl,kn,.i .i64 n,.i .i64 part]]⟩
def KN (kn:VV):Prop:=∃ l:List ByteArray,l.length<=4/\(kn=lS l\/(kn = .nl/\l=[]))
def HW (locs:List ByteArray) (RG:Option VO) (vals:Int) (nl:Nat) (part:Int) (r h:VH):Prop:=∃ (kn:VV) (n:Int) (s:VH),KN kn/\h=LOo locs::RG::WKo vals nl kn n part::(r++s)
def isI (v:VV):Prop:=∃ k:Int,v = .i .i64 k
omit C in
theorem KN.bel {kn:VV} (h:KN kn) {L:Nat}:bel L kn=true:=by
 obtain ⟨l,_,rfl | ⟨rfl,_⟩⟩:=h<;>rfl
theorem A2W (lc:List ByteArray) (locs:List ByteArray) (nl:Nat) (hnl:nl=locs.length) (hlo:locs.length<=1000) (vals:Int) (RG:Option VO) (part ifs:Int) (row:List VV) (hr:GS lc row) (kn:VV) (hkn:KN kn) (n:Int) (r:VH) :
    LW V KQ [.p 2 0 0 0,.ag row,.i .i64 ifs] (LOo locs::RG::WKo vals nl kn n part::r) fun v h'=>isI v/\HW locs RG vals nl part r h':=by
  cases hr with
  | mk kind mode reg loc args th el ha1 ha2 ht1 ht2 ht3 ht4 hok =>
  have h3:=hok.rs
  subst hnl
  rw [H6 C.h_z222]
  simp only [Pn]
  refine BL (J:=fun F h=>HW locs RG vals locs.length part r h/\A2.tmp F 0 = .p 2 0 0 0/\A2.tmp F 2 = .i .i64 ifs/\A2.tmp F 4 = .fp (rS kind mode reg loc args th el) 0) ?_ ?_
  · simp only [go_sem, ↓reduceIte]
    exact ⟨kn,n,[],hkn,by simp⟩
  rintro F h ⟨⟨kn,n,s,hkn,rfl⟩,p0,p2,p4⟩
  refine BL (J:=fun F h=>HW locs RG vals locs.length part r h/\A2.tmp F 0 = .p 2 0 0 0/\A2.tmp F 2 = .i .i64 ifs/\A2.tmp F 4 = .fp (rS kind mode reg loc args th el) 0) ?_ ?_
  · simp only [go_sem, ↓reduceIte, p0, p2, p4]
    exact ⟨_,_,_,hkn,rfl⟩
  rintro F h ⟨⟨kn,n,s,hkn,rfl⟩,p0,p2,p4⟩
  refine BL (J:=fun F h=>HW locs RG vals locs.length part r h/\A2.tmp F 0 = .p 2 0 0 0/\A2.tmp F 2 = .i .i64 ifs/\A2.tmp F 4 = .fp (rS kind mode reg loc args th el) 0) ?_ ?_
  · simp only [go_sem, ↓reduceIte, p0, p2, p4]
    repeat' first
    | (refine Bl (fun hx=>?_) (fun hx=>?_)<;>simp only [go_sem,↓reduceIte,hx,p0,p2,p4])
    | (refine Ba (fun hx=>?_) (fun hx=>?_)<;>simp only [go_sem,↓reduceIte,hx,p0,p2,p4])
    | (refine B0 (fun hx=>?_) (fun hx=>?_)<;>simp only [go_sem,↓reduceIte,hx,p0,p2,p4])
    all_goals first | exact ⟨_,_,_,hkn,rfl⟩ | exact ⟨⟨_,rfl⟩,_,_,_,hkn,rfl⟩
  rintro F h ⟨⟨kn,n,s,hkn,rfl⟩,p0,p2,p4⟩
  refine BL (J:=fun F h=>HW locs RG vals locs.length part r h/\A2.tmp F 0 = .p 2 0 0 0/\A2.tmp F 2 = .i .i64 ifs/\A2.tmp F 4 = .fp (rS kind mode reg loc args th el) 0/\isI (A2.tmp F 7)) ?_ ?_
  · simp only [go_sem, ↓reduceIte, p0, p2, p4]
    exact ⟨⟨_,_,_,hkn,rfl⟩,⟨_,rfl⟩⟩
  rintro F h ⟨⟨kn,n,s,hkn,rfl⟩,p0,p2,p4,k7,p7⟩
  refine BL (J:=fun F h=>HW locs RG vals locs.length part r h/\A2.tmp F 0 = .p 2 0 0 0/\A2.tmp F 2 = .i .i64 ifs/\A2.tmp F 4 = .fp (rS kind mode reg loc args th el) 0/\isI (A2.tmp F 7)) ?_ ?_
  · simp only [go_sem, ↓reduceIte, p0, p2, p4, p7, A0]
    repeat' first
    | (refine Bl (fun hx=>?_) (fun hx=>?_)<;>simp only [go_sem,↓reduceIte,hx,p0,p2,p4,p7,A0])
    | (refine Ba (fun hx=>?_) (fun hx=>?_)<;>simp only [go_sem,↓reduceIte,hx,p0,p2,p4,p7,A0])
    | (refine B0 (fun hx=>?_) (fun hx=>?_)<;>simp only [go_sem,↓reduceIte,hx,p0,p2,p4,p7,A0])
    all_goals first | exact ⟨⟨_,_,_,hkn,rfl⟩,⟨_,rfl⟩⟩ | skip
  rintro F h ⟨⟨kn,n,s,hkn,rfl⟩,p0,p2,p4,k7,p7⟩
  obtain ⟨_,⟨bm,rfl⟩,qm⟩:=CU (A2V C kind mode)
  refine BL (J:=fun F h=>HW locs RG vals locs.length part r h/\A2.tmp F 0 = .p 2 0 0 0/\A2.tmp F 2 = .i .i64 ifs/\A2.tmp F 4 = .fp (rS kind mode reg loc args th el) 0) ?_ ?_
  · cases bm <;> simp only [go_sem, ↓reduceIte, p0, p2, p4, p7, qm]
    all_goals repeat' first
              | (refine Bl (fun hx=>?_) (fun hx=>?_)<;>simp only [go_sem,↓reduceIte,hx,p0,p2,p4,p7,qm])
              | (refine Ba (fun hx=>?_) (fun hx=>?_)<;>simp only [go_sem,↓reduceIte,hx,p0,p2,p4,p7,qm])
              | (refine B0 (fun hx=>?_) (fun hx=>?_)<;>simp only [go_sem,↓reduceIte,hx,p0,p2,p4,p7,qm])
    all_goals first | exact ⟨_,_,_,hkn,rfl⟩ | exact ⟨⟨_,rfl⟩,_,_,_,hkn,rfl⟩
  rintro F h ⟨⟨kn,n,s,hkn,rfl⟩,p0,p2,p4⟩
  refine BL (J:=fun F h=>HW locs RG vals locs.length part r h/\A2.tmp F 0 = .p 2 0 0 0/\A2.tmp F 2 = .i .i64 ifs/\A2.tmp F 4 = .fp (rS kind mode reg loc args th el) 0/\KN (A2.tmp F 8)) ?_ ?_
  · simp only [go_sem, ↓reduceIte, p0, p2, p4]
    exact ⟨⟨_,_,_,hkn,rfl⟩,hkn⟩
  rintro F h ⟨⟨kn,n,s,hkn,rfl⟩,p0,p2,p4,h8⟩
  obtain ⟨_,⟨bn,rfl⟩,qn⟩:=CU (JB C reg h3)
  refine BL (J:=fun F h=>HW locs RG vals locs.length part r h/\A2.tmp F 0 = .p 2 0 0 0/\A2.tmp F 2 = .i .i64 ifs/\A2.tmp F 4 = .fp (rS kind mode reg loc args th el) 0/\KN (A2.tmp F 8)) ?_ ?_
  · have q1 := fun Q => CQ C locs reg hlo (Q := Q)
    have q0:=fun Q=>CQ C [] reg (by simp) (Q:=Q)
    simp only [lS,map_nil,any_nil] at q0
    obtain ⟨l8,h0,e8⟩:=h8
    have q2:=fun Q=>CQ C l8 reg (by omega) (Q:=Q)
    have b0:l8.length * 16<=A9:=by unfold A9;omega
    have b1:(l8.length+1) * 16<=A9:=by unfold A9;omega
    have b2:(0+1) * 16<=A9:=by unfold A9;omega
    have h8:KN (A2.tmp F 8):=⟨l8,h0,e8⟩
    cases c0:Gq kind with
    | false =>
      simp only [go_sem,↓reduceIte,p0,p2,p4,C9 C,c0]
      repeat' first
      | (refine Bl (fun hx=>?_) (fun hx=>?_)<;>simp only [go_sem,↓reduceIte,hx,p0,p2,p4])
      | (refine Ba (fun hx=>?_) (fun hx=>?_)<;>simp only [go_sem,↓reduceIte,hx,p0,p2,p4])
      | (refine B0 (fun hx=>?_) (fun hx=>?_)<;>simp only [go_sem,↓reduceIte,hx,p0,p2,p4])
      all_goals first | exact ⟨⟨_,_,_,hkn,rfl⟩,h8⟩ | exact ⟨⟨_,rfl⟩,_,_,_,hkn,rfl⟩
    | true =>
      cases bn with
      | false =>
        simp only [go_sem,↓reduceIte,p0,p2,p4,C9 C,c0,qn]
        exact ⟨⟨_,rfl⟩,_,_,_,hkn,rfl⟩
      | true =>
        cases c1:locs.any fun y=>decide (reg=y) with
        | true =>
          simp only [go_sem,↓reduceIte,p0,p2,p4,C9 C,c0,qn,q1,c1]
          exact ⟨⟨_,rfl⟩,_,_,_,hkn,rfl⟩
        | false =>
          rcases e8 with p8 | ⟨p8,rfl⟩
          · cases c2:l8.any fun y=>decide (reg=y) with
            | true =>
              simp only [go_sem,↓reduceIte,p0,p2,p4,p8,C9 C,c0,qn,q1,c1,q2,c2]
              exact ⟨⟨_,_,_,hkn,rfl⟩,⟨l8,h0,.inl rfl⟩⟩
            | false =>
              cases c3:decide ((l8.length:Int)=4) with
              | true =>
                simp only [go_sem,↓reduceIte,p0,p2,p4,p8,C9 C,c0,qn,q1,c1,q2,c2,c3]
                exact ⟨⟨_,rfl⟩,_,_,_,hkn,rfl⟩
              | false =>
                have h4:¬ (l8.length:Int)=4:=by simpa using c3
                simp only [go_sem,↓reduceIte,p0,p2,p4,p8,C9 C,c0,qn,q1,c1,q2,c2,c3,b0,b1]
                exact ⟨⟨_,_,s++[none],⟨l8++[reg],by simp;omega,.inl rfl⟩,rfl⟩,⟨l8,h0,.inl rfl⟩⟩
          · simp only [go_sem, ↓reduceIte, p0, p2, p4, p8, C9 C, c0, qn, q1, c1, q0, b2]
            exact ⟨⟨_,_,s++[none],⟨[reg],by simp,.inl rfl⟩,rfl⟩,⟨[],by simp,.inr ⟨rfl,rfl⟩⟩⟩
  rintro F h ⟨⟨kn,n,s,hkn,rfl⟩,p0,p2,p4,h8⟩
  refine BL (J:=fun F h=>HW locs RG vals locs.length part r h/\A2.tmp F 0 = .p 2 0 0 0/\A2.tmp F 2 = .i .i64 ifs/\A2.tmp F 4 = .fp (rS kind mode reg loc args th el) 0/\KN (A2.tmp F 8)) ?_ ?_
  · have q1 := fun Q => CQ C locs loc hlo (Q := Q)
    simp only [go_sem,↓reduceIte,p0,p2,p4,A0,q1]
    repeat' first
    | (refine Bl (fun hx=>?_) (fun hx=>?_)<;>simp only [go_sem,↓reduceIte,hx,p0,p2,p4,A0,q1])
    | (refine Ba (fun hx=>?_) (fun hx=>?_)<;>simp only [go_sem,↓reduceIte,hx,p0,p2,p4,A0,q1])
    | (refine B0 (fun hx=>?_) (fun hx=>?_)<;>simp only [go_sem,↓reduceIte,hx,p0,p2,p4,A0,q1])
    all_goals first | exact ⟨⟨_,_,_,hkn,rfl⟩,h8⟩ | exact ⟨⟨_,rfl⟩,_,_,_,hkn,rfl⟩
  rintro F h ⟨⟨kn,n,s,hkn,rfl⟩,p0,p2,p4,h8⟩
  simp only [go_sem,↓reduceIte,p0,p2,p4]
  refine Al (by decide) args.length (by omega) (I:=fun k F h=>HW locs RG vals locs.length part r h/\A2.tmp F 0 = .p 2 0 0 0/\A2.tmp F 4 = .fp (rS kind mode reg loc args th el) 0/\KN (A2.tmp F 8)) ?_ ?_ ?_ 0 _ _ (zero_le _) ?_ ?_
  · rintro k F h hk q0 ⟨⟨kn, n, s, hkn, rfl⟩, p0, p4, h8⟩
    simp only [go_sem,↓reduceIte,q0,p0,p4]
    exact ⟨⟨_,_,_,hkn,rfl⟩,h8⟩
  · rintro k F h hk q0 ⟨⟨kn, n, s, hkn, rfl⟩, p0, p4, l8, h0, e8⟩
    have hg:=ha2 _ (getElem_mem hk)
    obtain ⟨_,⟨d,rfl⟩,qd⟩:=CU (ZK C _ hg)
    obtain ⟨_,⟨ex,rfl⟩,qe⟩:=CU (MZ C vals l8 (by omega) _ hg)
    obtain ⟨_,⟨h2,rfl⟩,h1⟩:=CU (MZ C vals [] (by simp) _ hg)
    simp only [lS,map_nil] at h1
    cases c0:decide (6 < d) with
    | true =>
      simp only [go_sem,↓reduceIte,q0,p0,p4,QZ hk,hg.len,hg.take,hg.frz,qd,c0]
      exact ⟨⟨_,rfl⟩,_,_,_,hkn,rfl⟩
    | false =>
      rcases e8 with p8 | ⟨p8,rfl⟩
      · cases c1 : decide (ex = 0) <;>
        simp only [go_sem,↓reduceIte,q0,p0,p4,p8,QZ hk,hg.len,hg.take,hg.frz,qd,qe,c0,c1]
        · exact ⟨⟨_,rfl⟩,_,_,_,hkn,rfl⟩
        · exact ⟨⟨_,_,_,hkn,rfl⟩,⟨l8,h0,.inl rfl⟩⟩
      · cases c1 : decide (h2 = 0) <;>
        simp only [go_sem,↓reduceIte,q0,p0,p4,p8,QZ hk,hg.len,hg.take,hg.frz,qd,h1,c0,c1]
        · exact ⟨⟨_,rfl⟩,_,_,_,hkn,rfl⟩
        · exact ⟨⟨_,_,_,hkn,rfl⟩,⟨[],by simp,.inr ⟨rfl,rfl⟩⟩⟩
  · rintro F h ⟨⟨kn, n, s, hkn, rfl⟩, p0, p4, h8⟩
    simp only [go_sem,↓reduceIte]
    exact ⟨⟨_,rfl⟩,_,_,_,hkn,rfl⟩
  · simp only [go_sem,↓reduceIte]
  · simp only [go_sem, ↓reduceIte, p0, p2, p4]
    exact ⟨⟨_,_,_,hkn,rfl⟩,h8⟩
def HW2 (locs:List ByteArray) (RG:Option VO) (vals:Int) (r h:VH):Prop:=∃ part,HW locs RG vals locs.length part r h
def A69 (V:Ae) (locs:List ByteArray) (RG:Option VO) (vals:Int) (l:List (List VV)):Prop:=∀ (ifs:Int) (kn:VV) (n part:Int) (r:VH),KN kn ->
 LW V WH [.p 2 0 0 0,.ls l,.i .i64 ifs] (LOo locs::RG::WKo vals locs.length kn n part::r) fun v h'=>isI v/\HW2 locs RG vals r h'
theorem Hb (lc locs:List ByteArray) (hlo:locs.length<=1000) (vals:Int) (RG:Option VO) (l:List (List VV)) (hl:l.length<=1000) (hs:∀ s∈l,GS lc s/\∃ kind mode reg loc args th el,s=rS kind mode reg loc args th el/\A69 V locs RG vals th/\A69 V locs RG vals el):A69 V locs RG vals l:=by
 intro h7 kn n h0 r h1
 rw [H6 C.h_z188]
 simp only [A1B,go_sem,↓reduceIte]
 refine Al (by decide) l.length (by omega) (I:=fun k F h=>HW2 locs RG vals r h/\A2.tmp F 0 = .p 2 0 0 0/\A2.tmp F 1 = .ls l/\A2.tmp F 2 = .i .i64 h7) ?_ ?_ ?_ 0 _ _ (zero_le _) ?_ ?_
 .rintro k F h hk q0 ⟨⟨h0,kn,n,s,h1,rfl⟩,p0,p1,p2⟩
  simp only [go_sem,↓reduceIte,q0,p0,p1,p2]
  exact ⟨_,_,_,_,h1,rfl⟩
 .rintro k F h hk q0 ⟨⟨h0,kn,n,s,h1,rfl⟩,p0,p1,p2⟩
  obtain ⟨hg,kind,mode,reg,loc,args,th,el,e,a1,a2⟩:=hs _ (getElem_mem hk)
  have h3:=QZ hk
  rw [e] at h3
  rw [e] at hg
  obtain ⟨_,_,⟨⟨e1,rfl⟩,h9,n1,s1,h4,rfl⟩,c1⟩:=Dw (A2W C lc locs locs.length rfl hlo vals RG h0 h7 _ hg kn h1 n (r++s))
  obtain ⟨_,_,⟨⟨e2,rfl⟩,h6,ha,n2,s2,h5,rfl⟩,c2⟩:=Dw (a1 (IntKind.i64.wrap (h7+1)) h9 n1 (IntKind.i64.wrap (h0+1)) (r++(s++s1)) h4)
  obtain ⟨_,_,⟨⟨e3,rfl⟩,h8,hb,n3,s3,h2,rfl⟩,c3⟩:=Dw (a2 (IntKind.i64.wrap (h7+1)) ha n2 h6 (r++(s++(s1++s2))) h5)
  simp only [List.append_assoc] at c1 c2 c3
  cases z1:decide (e1=0) with
  | false =>
   simp only [go_sem,↓reduceIte,q0,p0,p1,p2,h3,c1,z1]
   exact ⟨⟨_,rfl⟩,_,_,_,_,h4,rfl⟩
  | true =>
   cases z2:decide (e2=0) with
   | false =>
    simp only [go_sem,↓reduceIte,q0,p0,p1,p2,h3,c1,z1,c2,z2]
    exact ⟨⟨_,rfl⟩,_,_,_,_,h5,rfl⟩
   | true =>
    cases z3:decide (e3=0) with
    | false =>
     simp only [go_sem,↓reduceIte,q0,p0,p1,p2,h3,c1,z1,c2,z2,c3,z3]
     exact ⟨⟨_,rfl⟩,_,_,_,_,h2,rfl⟩
    | true =>
     simp only [go_sem,↓reduceIte,q0,p0,p1,p2,h3,c1,z1,c2,z2,c3,z3]
     exact ⟨.inr h2.bel,_,_,_,_,h2,rfl⟩
 .rintro F h ⟨⟨h0,kn,n,s,h1,rfl⟩,p0,p1,p2⟩
  simp only [go_sem,↓reduceIte]
  exact ⟨⟨_,rfl⟩,_,_,_,_,h1,rfl⟩
 .simp only [go_sem,↓reduceIte]
 .simp only [go_sem,↓reduceIte]
  exact ⟨h0,kn,n,[],h1,by simp⟩
theorem ZI {lc locs:List ByteArray} (hlo:locs.length<=1000) {vals:Int} {RG:Option VO} {r:List VV} (h:GS lc r):∃ kind mode reg loc args th el,r=rS kind mode reg loc args th el/\A69 V locs RG vals th/\A69 V locs RG vals el:=by
 induction h with
 | mk kind mode reg loc args th el h1 h2 h3 h4 h5 h6 h7 ih1 ih2=>exact ⟨kind,mode,reg,loc,args,th,el,rfl,Hb C lc locs hlo vals RG th h3 fun s hs=>⟨h5 s hs,ih1 s hs⟩,Hb C lc locs hlo vals RG el h4 fun s hs=>⟨h6 s hs,ih2 s hs⟩⟩
theorem A2U {lc locs:List ByteArray} (hlo:locs.length<=1000) {vals:Int} {RG:Option VO} (l:List (List VV)) (hl:l.length<=1000) (h:∀ s∈l,GS lc s):A69 V locs RG vals l :=
 Hb C lc locs hlo vals RG l hl fun s hs=>⟨h s hs,ZI C hlo (h s hs)⟩
def RG2 (L:List ByteArray) (k:Nat) (h:VH):Prop:=∃ rg:List (List ByteArray),rg.length=k/\(∀ l∈rg,l.length<=4)/\h=[some (AL NU 1 (L.map eS)),some (AL By 1 (rg.map Hv))]
omit C in
theorem Ga {ty e v:Nat} {α:Type} {xs:List α} {x:α} {f:α->List VV} (hv:v=xs.length+1):({ ty:=ty,esz:=e,ver:=v,nl:=false,rows:=(xs++[x]).map f }:VO)=AL ty e ((xs++[x]).map f):=by
 subst hv;exact Hx
structure GP (nm:ByteArray) (vals:Int) (ini:List (ByteArray×Int)) (thr:List (List (List VV))) (ask:Int) (c:List VV):Prop where
 g1:nm.size<=1000
 g2:ini.length<=1000
 g3:∀ x∈ini,x.1.size<=1000
 g4:thr.length<=1000
 g5:∀ l∈thr,l.length<=1000/\∀ s∈l,GS (ini.map (·.1)) s
 g6:GC c
abbrev eCl (x:ByteArray×Int):List VV:=[.s x.1,.i .i64 x.2]
abbrev vPr (nm:ByteArray) (vals:Int) (ini:List (ByteArray×Int)) (thr:List (List (List VV))) (ask:Int) (c:List VV):VV:=.ag ([.s nm,.i .i64 vals,.ls (ini.map eCl),.ls (thr.map fun l=>[.ls l]),.i .i64 ask]++c)
theorem A2T (nm:ByteArray) (vals:Int) (ini:List (ByteArray×Int)) (thr:List (List (List VV))) (ask:Int) (c:List VV) (h:GP nm vals ini thr ask c):VP V Wb [vPr nm vals ini thr ask c] fun x=>∃ e k:Int,x = .tu [.i .i64 e,.i .i64 k]:=by
 obtain ⟨h1,h2,h3,h4,h5,hc⟩:=h
 rw [Ab C.c_z144.1 C.c_z144.2]
 obtain ⟨_,⟨e0,rfl⟩,qh⟩:=CU (ZL C nm h1 vals (ini.map eCl) (thr.map fun l=>[.ls l]) ask c hc)
 cases hc with
 | mk op th cn n kids g1 g2 =>
 simp only [cons_append,nil_append] at qh
 cases z0:decide (e0=0) with
 | false =>
  simp only [SY,go_sem,↓reduceIte,qh,z0]
  exact ⟨_,_,rfl⟩
 | true =>
 simp only [SY,go_sem,↓reduceIte,qh,z0]
 have ha:∀ k,k<=ini.length->((ini.take k).map (·.1)).length=k:=fun k hk=>by simp;omega
 refine Al (by decide) ini.length (by omega) (I:=fun k F h=>h=[some (AL NU 1 (((ini.take k).map (·.1)).map eS))]/\A2.tmp F 1=(.fp [.s nm,.i .i64 vals,.ls (ini.map eCl),.ls (thr.map fun l=>[.ls l]),.i .i64 ask,.i .i64 op,.i .i64 th,.s cn,.i .i64 n,.ls kids] 0)/\A2.tmp F 5 = .sl 0 k 0 k) ?_ ?_ ?_ 0 _ _ (zero_le _) ?_ ?_
 .rintro k F h hk p0 ⟨rfl,p1,p5⟩
  simp only [go_sem,↓reduceIte,p0,p1,p5]
 .rintro k F h hk p0 ⟨rfl,p1,p5⟩
  have h8:=ha k (by omega)
  have h0:ini[k]? = some ini[k]:=List.getElem?_eq_getElem hk
  have hd:(ini.take (k+1)).map (·.1)=(ini.take k).map (·.1)++[ini[k].1]:=by rw [List.take_succ_eq_append_getElem hk,List.map_append];rfl
  obtain ⟨_,⟨bn,rfl⟩,qn⟩:=CU (JB C ini[k].1 (h3 _ (getElem_mem hk)))
  have hb:=fun Q=>CQ C ((ini.take k).map (·.1)) ini[k].1 (by omega) (Q:=Q)
  rw [hd]
  clear hd
  generalize hL:(ini.take k).map (·.1)=L at *
  have b1:(k+1) * 16<=A9:=by unfold A9;omega
  have h7:L.take k=L:=by rw [List.take_of_length_le];omega
  cases bn with
  | false =>
   simp only [go_sem,↓reduceIte,p0,p1,p5,h0,qn]
   try exact ⟨_,_,rfl⟩
  | true =>
   cases c1:L.any fun y=>decide (ini[k].1=y) with
   | true =>
    simp only [go_sem,↓reduceIte,p0,p1,p5,h0,qn,h8,hb,h7,c1]
    try exact ⟨_,_,rfl⟩
   | false =>
    cases c2:decide (ini[k].2 < 0)<;>cases c3:decide (vals<=ini[k].2) <;>
    simp only [go_sem,↓reduceIte,p0,p1,p5,h0,qn,h8,hb,h7,c1,c2,c3,b1]
    all_goals try exact ⟨_,_,rfl⟩
    exact congrArg (fun x=>[some x]) (Ga (by omega))
 .rintro F h ⟨rfl,p1,p5⟩
  rw [List.take_length]
  simp only [go_sem,↓reduceIte,p1,p5]
  generalize hL:ini.map (·.1)=L at *
  have hf:L.length=ini.length:=by rw [<- hL];simp
  have he:L.take L.length=L:=List.take_length
  rw [<- hf] at p5
  refine Al (by decide) thr.length (by omega) (I:=fun k F h=>RG2 L k h/\A2.tmp F 1=(.fp [.s nm,.i .i64 vals,.ls (ini.map eCl),.ls (thr.map fun l=>[.ls l]),.i .i64 ask,.i .i64 op,.i .i64 th,.s cn,.i .i64 n,.ls kids] 0)/\A2.tmp F 5 = .sl 0 L.length 0 L.length/\A2.tmp F 9 = .sl 1 k 0 k/\isI (A2.tmp F 8)) ?_ ?_ ?_ 0 _ _ (zero_le _) ?_ ?_
  .rintro k F h hk q0 ⟨h6,q1,q5,q9,q8⟩
   simp only [go_sem,↓reduceIte,q0,q1,q5,q9]
   exact ⟨h6,q8⟩
  .rintro k F h hk q0 ⟨⟨rg,h6,h9,rfl⟩,q1,q5,q9,pt,q8⟩
   obtain ⟨m1,m2⟩:=h5 _ (getElem_mem hk)
   have h0:thr[k]? = some thr[k]:=List.getElem?_eq_getElem hk
   obtain ⟨_,_,⟨⟨e1,rfl⟩,hj,kn,n1,s,⟨lk,h8,hg⟩,rfl⟩,c1⟩:=Dw (A2U C (locs:=L) (by omega) (vals:=vals) (RG:=some (AL By 1 (rg.map Hv))) thr[k] m1 m2 0 .nl 0 pt [] ⟨[],by simp,.inr ⟨rfl,rfl⟩⟩)
   have b1:(k+1) * 24<=A9:=by unfold A9;omega
   have hi:(rg.map Hv).length=k:=by simp [h6]
   simp only [nil_append] at c1
   cases z1:decide (e1=0) with
   | false =>
    simp only [go_sem,↓reduceIte,q0,q1,q5,q9,q8,h0,c1,z1]
    try exact ⟨_,_,rfl⟩
   | true =>
    rcases hg with rfl | ⟨rfl,rfl⟩
    .simp only [go_sem,↓reduceIte,q0,q1,q5,q9,q8,h0,c1,z1,b1,h6]
     have e:rg.map Hv++[[VV.ls (List.map eS lk)]]=(rg++[lk]).map Hv:=by simp
     refine ⟨.inr ?_,⟨rg++[lk],by simp [h6],fun l hl=>?_,?_⟩,⟨_,rfl⟩⟩
     .rw [e];exact GG fun x=>rfl
     .rcases List.mem_append.1 hl with h | h
      .exact h9 l h
      .rw [List.mem_singleton.1 h];simpa using h8
     .rw [e];exact congrArg (fun x=>[LOo L,some x]) (Ga (by omega))
    .simp only [go_sem,↓reduceIte,q0,q1,q5,q9,q8,h0,c1,z1,b1,h6]
     have e:rg.map Hv++[[VV.ls []]]=(rg++[([]:List ByteArray)]).map Hv:=by simp
     refine ⟨.inr ?_,⟨rg++[([]:List ByteArray)],by simp [h6],fun l hl=>?_,?_⟩,⟨_,rfl⟩⟩
     .rw [e];exact GG fun x=>rfl
     .rcases List.mem_append.1 hl with h | h
      .exact h9 l h
      .rw [List.mem_singleton.1 h];simpa using h8
     .rw [e];exact congrArg (fun x=>[LOo L,some x]) (Ga (by omega))
  .rintro F h ⟨⟨rg,h6,h9,rfl⟩,q1,q5,q9,pt,q8⟩
   have hh:rg.take thr.length=rg:=by rw [List.take_of_length_le];omega
   obtain ⟨_,⟨d,rfl⟩,qd⟩:=CU (Nh C _ (GC.mk op th cn n kids g1 g2))
   obtain ⟨_,⟨ce,rfl⟩,qc⟩:=CU (ZJ C vals L (by omega) rg (by omega) (fun l hl=>by have:=h9 l hl;omega) _ (GC.mk op th cn n kids g1 g2))
   cases z1:decide (6 < d)<;>cases z2:decide (ce=0)<;>cases z3:decide (ask=1)<;>cases z4:decide (ask=2) <;>
   simp only [go_sem,↓reduceIte,q1,q5,q9,q8,qd,qc,z1,z2,z3,z4,h6,hh,he]
   all_goals try exact ⟨_,_,rfl⟩
  .simp only [go_sem,↓reduceIte]
  .simp only [go_sem,↓reduceIte,p1,p5]
   exact ⟨⟨[],rfl,by simp,rfl⟩,⟨_,rfl⟩⟩
 .simp only [go_sem,↓reduceIte]
 .simp only [go_sem,↓reduceIte]
end
end Go.AM
