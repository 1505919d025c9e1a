/-
  Own work, part of the proof of these laws: what functions compute.
-/
import Derived.Test.YthhlhddnndlhkaaGreatDoorKAe
set_option maxRecDepth 10000
set_option maxHeartbeats 64000000
set_option linter.unusedVariables false
set_option linter.unusedSimpArgs false
set_option linter.unusedSectionVars false
set_option linter.unnecessarySimpa false
open Bool (and_eq_true or_eq_true)
open Int (toNat_natCast)
open List (getElem?_eq_getElem getD_eq_getElem?_getD length_map length_append getElem_mem length_cons take_of_length_le take_length all_eq_true nil_append map_append append_assoc cons_append getElem?_map mem_cons any_eq_true length_nil mem_cons_self not_mem_nil mem_cons_of_mem map_nil set_append_right any_nil)
open Nat (zero_le lt_or_ge zero_add)
namespace Go.AM
open Go Go.Proofs
abbrev eLk (t:A1) (a:Int):List VV:=[.i .i64 t.vals,lS t.locs,.ls (t.regs.map JE),.ls (t.nodes.map eN),.i .i64 a]
abbrev LK (t:A1) (a:Int):Option VO:=some ⟨A6q,0,0,false,[eLk t a]⟩
@[go_sem] theorem AyS {α:Type} (r s:List α):(r++s)[r.length]? = s[0]?:=by
 rw [List.getElem?_append_right (Nat.le_refl _),Nat.sub_self]
@[go_sem] theorem AvI {α:Type} (r s:List α) (k:Nat):(r++s)[r.length+k]? = s[k]?:=by
 rw [List.getElem?_append_right (Nat.le_add_right _ _),Nat.add_sub_cancel_left]
@[go_sem] theorem AyT {α:Type} (r s:List α) (x:α):(r++s).set r.length x=r++s.set 0 x:=by
 rw [set_append_right _ _ (Nat.le_refl _),Nat.sub_self]
@[go_sem] theorem AyU {α:Type} (r s:List α) (k:Nat) (x:α):(r++s).set (r.length+k) x=r++s.set k x:=by
 rw [set_append_right _ _ (Nat.le_add_right _ _),Nat.add_sub_cancel_left]
@[go_sem] theorem Aqn {α:Type} (r s:List α):(r++s).take r.length=r:=by simp
@[go_sem] theorem Aqo {α:Type} (r s:List α) (k:Nat):(r++s).take (r.length+k)=r++s.take k:=by rw [List.take_append,take_of_length_le (Nat.le_add_right _ _),Nat.add_sub_cancel_left]
@[go_sem] theorem Aul (L:Nat) (r s s':VH):Qp L (r++s) (r++s')=Qp L s s':=by
 induction r with
 | nil=>rfl
 | cons x r ih=>simp only [cons_append,Aan,ih,true_or,true_and]
@[go_sem] theorem Asp (L:Nat) (r s':VH):Qp L r (r++s')=True:=Aao L r s'
@[go_sem] theorem dz0:decide ((0:Int) < ((0:Nat):Int))=false:=rfl
@[go_sem] theorem AyV (n:Nat):decide (0 < n+1)=true:=by simp
@[go_sem] theorem AyW (n:Nat):decide (n < n+1)=true:=by simp
@[go_sem] theorem AyX (n:Nat):decide (n < n+1+1)=true:=by simp;omega
@[go_sem] theorem AyY (n:Nat):decide (n < n+1+1+1)=true:=by simp;omega
@[go_sem] theorem AyZ (n:Nat):decide (n < n+1+1+1+1)=true:=by simp;omega
@[go_sem] theorem Aw3 (n:Nat):decide (1 < n+1+1)=true:=by rw [decide_eq_true_iff];omega
@[go_sem] theorem Aw4 (n:Nat):decide (1 < n+1+1+1)=true:=by rw [decide_eq_true_iff];omega
@[go_sem] theorem Aw5 (n:Nat):decide (1 < n+1+1+1+1)=true:=by rw [decide_eq_true_iff];omega
@[go_sem] theorem Aw6 (n:Nat):decide (1 < n+1+1+1+1+1)=true:=by rw [decide_eq_true_iff];omega
@[go_sem] theorem Aw7 (n:Nat):decide (1 < n+1+1+1+1+1+1)=true:=by rw [decide_eq_true_iff];omega
@[go_sem] theorem Aw8 (n:Nat):decide (1 < n+1+1+1+1+1+1+1)=true:=by rw [decide_eq_true_iff];omega
@[go_sem] theorem Aw9 (n:Nat):decide (1 < n+1+1+1+1+1+1+1+1)=true:=by rw [decide_eq_true_iff];omega
@[go_sem] theorem Awa (n:Nat):decide (2 < n+1+1+1)=true:=by rw [decide_eq_true_iff];omega
@[go_sem] theorem Awb (n:Nat):decide (2 < n+1+1+1+1)=true:=by rw [decide_eq_true_iff];omega
@[go_sem] theorem Awc (n:Nat):decide (2 < n+1+1+1+1+1)=true:=by rw [decide_eq_true_iff];omega
@[go_sem] theorem Awd (n:Nat):decide (2 < n+1+1+1+1+1+1)=true:=by rw [decide_eq_true_iff];omega
@[go_sem] theorem Awe (n:Nat):decide (2 < n+1+1+1+1+1+1+1)=true:=by rw [decide_eq_true_iff];omega
@[go_sem] theorem Awf (n:Nat):decide (2 < n+1+1+1+1+1+1+1+1)=true:=by rw [decide_eq_true_iff];omega
@[go_sem] theorem Awg (n:Nat):decide (3 < n+1+1+1+1)=true:=by rw [decide_eq_true_iff];omega
@[go_sem] theorem Awh (n:Nat):decide (3 < n+1+1+1+1+1)=true:=by rw [decide_eq_true_iff];omega
@[go_sem] theorem Awi (n:Nat):decide (3 < n+1+1+1+1+1+1)=true:=by rw [decide_eq_true_iff];omega
@[go_sem] theorem Awj (n:Nat):decide (3 < n+1+1+1+1+1+1+1)=true:=by rw [decide_eq_true_iff];omega
@[go_sem] theorem Awk (n:Nat):decide (3 < n+1+1+1+1+1+1+1+1)=true:=by rw [decide_eq_true_iff];omega
@[go_sem] theorem Awl (n:Nat):decide (4 < n+1+1+1+1+1)=true:=by rw [decide_eq_true_iff];omega
@[go_sem] theorem Awm (n:Nat):decide (4 < n+1+1+1+1+1+1)=true:=by rw [decide_eq_true_iff];omega
@[go_sem] theorem Awn (n:Nat):decide (4 < n+1+1+1+1+1+1+1)=true:=by rw [decide_eq_true_iff];omega
@[go_sem] theorem Awo (n:Nat):decide (4 < n+1+1+1+1+1+1+1+1)=true:=by rw [decide_eq_true_iff];omega
@[go_sem] theorem Awp (n:Nat):decide (5 < n+1+1+1+1+1+1)=true:=by rw [decide_eq_true_iff];omega
@[go_sem] theorem Awq (n:Nat):decide (5 < n+1+1+1+1+1+1+1)=true:=by rw [decide_eq_true_iff];omega
@[go_sem] theorem Awr (n:Nat):decide (5 < n+1+1+1+1+1+1+1+1)=true:=by rw [decide_eq_true_iff];omega
@[go_sem] theorem Aws (n:Nat):decide (6 < n+1+1+1+1+1+1+1)=true:=by rw [decide_eq_true_iff];omega
@[go_sem] theorem Awt (n:Nat):decide (6 < n+1+1+1+1+1+1+1+1)=true:=by rw [decide_eq_true_iff];omega
attribute [go_sem] Option.isSome_some cons_append append_assoc nil_append
theorem Md {xs:List (List ByteArray)} {k:Nat} (h:k < xs.length):xs[k]? = some (xs.getD k []):=by
 rw [getD_eq_getElem?_getD,getElem?_eq_getElem h];rfl
theorem Yj {xs:List ByteArray} {k:Nat} (h:k < xs.length):xs[k]? = some xs[k]:=getElem?_eq_getElem h
section
variable {V:At} (C:Aq V) {Q:VV->Prop}
include C
theorem XL (l:List ByteArray) (hl:l.length<=1000) (hn:l.Nodup):VP V Vv [lS l] Q↔Q (.b false):=by
 refine Ae ?_
 rw [Ad C.c_z155.1 C.c_z155.2]
 simp only [ZO,go_sem,↓reduceIte]
 refine Ag (by decide) l.length (by omega) (I:=fun k F h=>h=[]/\A4.tmp F 5=lS l/\A4.tmp F 0=lS l) ?_ ?_ 0 _ _ (zero_le _) ?_ ?_ ?_
 .rintro k F h hk h1 h2 ⟨rfl,h3,h4⟩
  have hx:((l.take k).any fun y=>decide (l[k]=y))=false:=by
   rw [List.any_eq_false]
   intro y hy e
   have e':l[k]=y:=by simpa using e
   obtain ⟨j,hj,ej⟩:=List.mem_iff_getElem.1 hy
   rw [List.getElem_take] at ej
   rw [List.length_take] at hj
   have:=(List.getElem_inj hn).1 (ej.trans e'.symm)
   omega
  have h0:k<=l.length:=by omega
  simp only [go_sem,↓reduceIte,h1,h2,h3,h4,Yj hk,h0,Gu C (l.take k) _ (by simp;omega),hx,toNat_natCast]
 .rintro F h ⟨rfl,h3,h4⟩
  simp only [go_sem,↓reduceIte]
 all_goals simp only [go_sem,↓reduceIte]
 all_goals rfl
theorem JQ (t:A1) (a n:Int):VP V W9 [.fp (eLk t a) 0,.i .i64 n] Q↔Q (.b (GJ t n)):=by
 refine Ae ?_
 rw [Ad C.c_z197.1 C.c_z197.2]
 unfold GJ
 cases c0:decide (0<=n)<;>simp only [A0f,go_sem,↓reduceIte,c0]
theorem N5 (t:A1) (a n:Int):VP V WY [.fp (eLk t a) 0,.i .i64 n] Q↔Q (.b (LL t n)):=by
 refine Ae ?_
 rw [Ad C.c_z252.1 C.c_z252.2]
 unfold LL
 cases c0:decide (0<=n)<;>simp only [A0W,go_sem,↓reduceIte,c0]
theorem Hh (t:A1) (a u:Nat) (hu:u < t.nodes.length):VP V WK [.fp (eLk t a) 0,.i .i64 u] Q↔Q (.b (C8 t a u)):=by
 refine Ae ?_
 rw [Ad C.c_z234.1 C.c_z234.2]
 unfold C8
 by_cases ha:a < t.nodes.length
 .have h0:(a:Int) < t.nodes.length:=by omega
  cases c0:decide ((t.at a).up=u)<;>simp only [Sc,go_sem,↓reduceIte,ha,h0,A7 ha,A7 hu,c0,toNat_natCast]
 .have h0:¬ (a:Int) < t.nodes.length:=by omega
  simp only [Sc,go_sem,↓reduceIte,ha,h0]
theorem Ac5 (t:A1) (a n:Int):VP V Qm [.i .i64 n,.fp [.fp (eLk t a) 0] 0] Q↔Q (.b (!GJ t n)):=by
 refine Ae ?_
 rw [Ad C.c_z236.1 C.c_z236.2]
 simp only [A0I,go_sem,↓reduceIte,JQ C]
def AmL (V:At) (t:A1) (u e:Nat):Prop:=∀ (a:Int) (r:VH),Hs V Wa [.p 0 0 0 0,.i .i64 u] (LK t a::r) fun v h=>v = .b true/\h=LK t e::r
theorem Aab (t:A1) (hn:t.nodes.length<=64) (u e:Nat) (hu:u+1 < t.nodes.length) (ha:Do t u=true) (hb:AmL V t (u+1) e) (r:VH) :
  Hs V WM [.p 0 0 0 0,.i .i64 u] (LK t ((u+1:Nat):Int)::r) fun v h=>v = .b true/\h=LK t e::r:=by
 rw [Cm C.h_z237]
 have h0:u < t.nodes.length:=by omega
 have hq:=fun (r:VH) Q=>Dn (hb ((u+1:Nat):Int) r) (Q:=Q)
 unfold Do at ha
 simp only [or_eq_true,and_eq_true,decide_eq_true_eq] at ha
 rcases ha with ⟨⟨⟨⟨⟨h1,h2⟩,h3⟩,h4⟩,h5⟩,h6⟩ | ⟨⟨⟨h1,h2⟩,h3⟩,h4⟩
 .have h9:(t.at (u+1)).rmw=false:=by simpa using h4
  have hc:0<=(t.at (u+1)).mode:=by omega
  have h7:¬ (t.at (u+1)).mode=0:=by omega
  simp only [PT,go_sem,↓reduceIte,A7 hu,A7 h0,toNat_natCast,h1,h2,h3,h9,hc,h6,h7,hq,A0]
 .have h8:¬ (t.at (u+1)).kind=4:=by omega
  cases hr:(t.at (u+1)).rmw with
  | true =>
   rw [hr] at h4
   simp only [if_true,and_eq_true,decide_eq_true_eq] at h4
   obtain ⟨⟨⟨⟨g1,g2⟩,g3⟩,g4⟩,g5⟩:=h4
   simp only [PT,go_sem,↓reduceIte,A7 hu,A7 h0,toNat_natCast,h1,h8,hr,N5 C,JQ C,h2,h3,g1,g2,g3,g4,g5,hq,A0,Int.reduceEq]
  | false =>
   rw [hr] at h4
   simp only [Bool.false_eq_true,if_false,or_eq_true,decide_eq_true_eq] at h4
   have g1:0<=(t.at (u+1)).mode:=by omega
   have g2:(t.at (u+1)).mode<=4:=by omega
   rcases h4 with (h4 | h4) | h4 <;>
   simp only [PT,go_sem,↓reduceIte,A7 hu,A7 h0,toNat_natCast,h1,h8,hr,N5 C,JQ C,h2,h3,g1,g2,h4,hq,A0,Int.reduceEq,Int.reduceLE]
theorem Ac6 (t:A1) (hn:t.nodes.length<=64) (u e:Nat) (hu:u < t.nodes.length) (vals:Nat) (k:Nat->Nat) (loc mode:Int) (hv:t.vals=vals) (hv0:0 < vals) (hv1:vals<=4) (hk0:k 0=u+1) (hke:k vals=e) (hl:LL t loc=true)
  (hs:∀ v,v < vals->C8 t (k v) u=true/\EJ t (k v) v loc mode=true/\AmL V t (k v) (k (v+1)))
  (hm:(mode=0\/mode=1\/mode=4)\/(0<=mode/\mode<=4/\∃ v,v < vals/\Hl t (k v)=true)) (r:VH) :
  Hs V WN [.p 0 0 0 0,.i .i64 u] (LK t ((u+1:Nat):Int)::r) fun v h=>v = .b true/\h=LK t e::r:=by
 rw [Cm C.h_z238]
 have h0:=hs 0 hv0
 rw [hk0] at h0
 obtain ⟨c0,s0,_⟩:=h0
 have h2:u+1 < t.nodes.length:=by
  unfold C8 at c0
  simp only [and_eq_true,decide_eq_true_eq] at c0
  omega
 simp only [EJ,and_eq_true,decide_eq_true_eq] at s0
 obtain ⟨⟨⟨⟨g1,g2⟩,g3⟩,g4⟩,g5⟩:=s0
 simp only [A0J,go_sem,↓reduceIte,A7 h2,toNat_natCast,hv]
 refine Ag (by decide) vals (by omega) (I:=fun v F h=>h=LK t (k v)::(r++[some ⟨Ck,0,0,false,[eN (t.at (u+1))]⟩])/\A4.tmp F 0 = .p 0 0 0 0/\A4.tmp F 1 = .i .i64 u/\A4.tmp F 5 = .p (r.length+1) 0 0 0/\A4.tmp F 6 = .b ((List.range v).any fun j=>Hl t (k j))) ?_ ?_ 0 _ _ (zero_le _) ?_ ?_ ?_
 .rintro v F h h3 p1 p2 ⟨rfl,p3,p4,p5,p6⟩
  obtain ⟨c1,s1,b1⟩:=hs v h3
  have hq:=fun (r:VH) Q=>Dn (b1 (k v) r) (Q:=Q)
  have h5:k v < t.nodes.length:=by
   unfold C8 at c1
   simp only [and_eq_true,decide_eq_true_eq] at c1
   omega
  simp only [EJ,and_eq_true,decide_eq_true_eq] at s1
  obtain ⟨⟨⟨⟨q1,q2⟩,q3⟩,q4⟩,q5⟩:=s1
  have h6:(t.at (k v)).rmw=false:=by simpa using q5
  have w1:=HL (show k v < 9223372036854775807 by omega)
  have h1:((List.range (v+1)).any fun j=>Hl t (k j))=(((List.range v).any fun j=>Hl t (k j)) || Hl t (k v)):=by
   rw [List.range_succ,List.any_append];simp
  rw [h1]
  clear h1
  generalize ((List.range v).any fun j=>Hl t (k j))=B at *
  by_cases z1:k v+1 < t.nodes.length
  .have h4:((k v+1:Nat):Int) < (t.nodes.length:Int):=by omega
   have z2:decide (k v+1 < t.nodes.length)=true:=by simp [z1]
   unfold Hl
   rw [z2]
   cases z3:decide ((t.at (k v+1)).up=(k v:Int))<;>cases B <;>
    simp only [A76,go_sem,↓reduceIte,p1,p2,p3,p4,p5,p6,Hh C t _ u hu,c1,A7 h5,A7 h2,A7 z1,toNat_natCast,q1,q2,q3,q4,h6,g1,g3,g4,hq,w1,h4,z3,length_append]
  .have h4:¬ ((k v+1:Nat):Int) < (t.nodes.length:Int):=by omega
   have z2:decide (k v+1 < t.nodes.length)=false:=by simp [z1]
   unfold Hl
   rw [z2]
   simp only [A76,go_sem,↓reduceIte,p1,p2,p3,p4,p5,p6,Hh C t _ u hu,c1,A7 h5,A7 h2,toNat_natCast,q1,q2,q3,q4,h6,g1,g3,g4,hq,w1,h4]
 .rintro F h ⟨rfl,p3,p4,p5,p6⟩
  rw [hke]
  rcases hm with hm | ⟨hm1,hm2,v,h3,hm3⟩
  .rcases hm with (hm | hm | hm) <;>
   simp only [go_sem,↓reduceIte,p3,p4,p5,p6,g3,g4,hm,N5 C,hl,Int.reduceEq]
  .have h1:((List.range vals).any fun j=>Hl t (k j))=true:=A8m h3 hm3
   rw [h1] at p6
   cases m0:decide (mode=0)<;>cases m1:decide (mode=1)<;>cases m2:decide (mode=4) <;>
   simp only [go_sem,↓reduceIte,p3,p4,p5,p6,g3,g4,hm1,hm2,m0,m1,m2,N5 C,hl,Int.reduceEq]
 all_goals simp only [go_sem,↓reduceIte]
 .rfl
 .simp only [hk0,eN,g1,g2,g3,g4,List.range_zero,any_nil,go_sem]
theorem A2C (t:A1) (hn:t.nodes.length<=64) (h4:t.vals<=4) (hr:∀ l∈t.regs,l.length<=1000):∀ n u e,GL t n u e->AmL V t u e:=by
 intro n
 induction n with
 | zero=>intro u e h;exact h.elim
 | succ n ih =>
  intro u e hb a r
  obtain ⟨⟨hu,he,hg⟩,hb⟩:=hb
  rw [Cm C.h_z198]
  have w1:=HL (show u < 9223372036854775807 by omega)
  obtain ⟨th,hc⟩:=Int.eq_ofNat_of_zero_le he
  have ha:th < t.regs.length:=by omega
  rcases hb with ⟨c0,e0,rfl⟩ | ⟨c0,f0,r0,a0,b0⟩ | ⟨c0,f0,r0,vals,k,loc,mode,hv,hv0,hk0,hke,hl,hs,hm⟩
  .simp only [A8J,and_eq_true,decide_eq_true_eq] at e0
   obtain ⟨⟨g1,g2⟩,g3⟩:=e0
   rw [hc,toNat_natCast] at g2
   have h8:((t.at u).regs.any fun v=>!GJ t v)=false:=by
    rw [List.any_eq_false]
    intro x hx
    rw [all_eq_true] at g3
    simp [g3 x hx]
   have hf:(t.regs.getD th []).length<=1000:=by
    by_cases z:th < t.regs.length
    .exact hr _ (Ai z)
    .omega
   have hd:=fun (a:Int) Q=>H6 C (t.at u).regs (by omega) (g:=Qm) (a:=[]) (c:=[.fp [.fp (eLk t a) 0] 0]) Fz.nil (fun _ _=>rfl) (fun x=>!GJ t x) (fun x=>(Ac5 C t a x).2 rfl) (Q:=Q)
   simp only [PO,go_sem,↓reduceIte,w1,Hh C t _ u hu,c0,A7 hu,toNat_natCast,g1,g2,hc,Md ha,hd,h8]
  .have h7:u+1 < t.nodes.length:=by
    unfold C8 at c0
    simp only [and_eq_true,decide_eq_true_eq] at c0
    omega
   have hq:=fun (r:VH) Q=>Dn (Aab C t hn u e h7 a0 (ih _ _ b0) r) (Q:=Q)
   have h9:¬ (t.at (u+1)).kind=2:=by
    unfold Do at a0
    simp only [or_eq_true,and_eq_true,decide_eq_true_eq] at a0
    rcases a0 with ⟨⟨⟨⟨⟨h1,h2⟩,h3⟩,h4⟩,h5⟩,h6⟩ | ⟨⟨⟨h1,h2⟩,h3⟩,h4⟩<;>omega
   simp only [PO,go_sem,↓reduceIte,w1,Hh C t _ u hu,c0,A7 hu,A7 h7,toNat_natCast,f0,r0,h9,hq]
  .have h0:=hs 0 hv0
   rw [hk0] at h0
   have h7:u+1 < t.nodes.length:=by
    unfold C8 at c0
    simp only [and_eq_true,decide_eq_true_eq] at c0
    omega
   have h9:(t.at (u+1)).kind=2:=by
    have:=h0.2.1
    simp only [EJ,and_eq_true,decide_eq_true_eq] at this
    exact this.1.1.1.1
   have hq:=fun (r:VH) Q=>Dn (Ac6 C t hn u e hu vals k loc mode hv hv0 (by omega) hk0 hke hl (fun v hv=>⟨(hs v hv).1,(hs v hv).2.1,ih _ _ (hs v hv).2.2⟩) hm r) (Q:=Q)
   simp only [PO,go_sem,↓reduceIte,w1,Hh C t _ u hu,c0,A7 hu,A7 h7,toNat_natCast,f0,r0,h9,hq]
theorem Aac (t:A1) (hn:t.nodes.length<=64) (hl:t.locs.length<=t.nodes.length) (hi:∀ i,i < t.locs.length->Jk t i=true) (r:VH) :
  Hs V Vw [.p 0 0 0 0] (LK t 0::r) fun v h=>v = .b true/\h=LK t t.locs.length::r:=by
 rw [Cm C.h_z156]
 simp only [ZP,go_sem,↓reduceIte]
 unfold VL
 rw [A0]
 refine AT (M:=Nat) (I:=fun k F h=>k<=t.locs.length/\h=LK t (k:Int)::r/\A4.tmp F 0 = .p 0 0 0 0) (μ:=fun k=>t.locs.length - k) ?_ 0 _ _ ⟨zero_le _,rfl,?_⟩
 .rintro k F h ⟨hk,rfl,p1⟩
  by_cases hkl:k < t.locs.length
  .have h0:(k:Int) < t.locs.length:=by omega
   have h5:k < t.nodes.length:=by omega
   have h1:¬ (t.nodes.length:Int)<=k:=by omega
   have w1:=HL (show k < 9223372036854775807 by omega)
   have:=hi k hkl
   unfold Jk at this
   simp only [and_eq_true,decide_eq_true_eq] at this
   obtain ⟨⟨⟨⟨⟨⟨⟨⟨g1,g2⟩,g3⟩,g4⟩,g5⟩,g6⟩,g7⟩,g8⟩,g9⟩:=this
   have h2:(t.at k).rmw=false:=by simpa using g7
   have h3:(t.at k).fin=false:=by simpa using g8
   simp only [A74,go_sem,↓reduceIte,p1,h0,h1,A7 h5,toNat_natCast,g1,g2,g3,g4,g5,g6,h2,h3,g9,JQ C,w1,A0]
   exact ⟨k+1,by omega,by omega,rfl⟩
  .have h4:k=t.locs.length:=by omega
   subst h4
   simp only [A74,go_sem,↓reduceIte,p1,A0]
 all_goals simp only [go_sem,↓reduceIte]
theorem A2D (t:A1) (hn:t.nodes.length<=64) (h4:t.vals<=4) (hr:∀ l∈t.regs,l.length<=1000) (hr4:t.regs.length<=4) (s:Nat->Nat) (hs0:s 0=t.locs.length) (hse:s t.regs.length=t.nodes.length)
  (hs:∀ i,i < t.regs.length->Eu t (s i) i=true/\∃ n,GL t n (s i) (s (i+1))) (r:VH) :
  Hs V Vx [.p 0 0 0 0] (LK t t.locs.length::r) fun v h=>v = .b true/\h=LK t t.nodes.length::r:=by
 rw [Cm C.h_z157]
 simp only [ZQ,go_sem,↓reduceIte]
 refine Ag (by decide) t.regs.length (by omega) (I:=fun i F h=>h=LK t (s i)::r/\A4.tmp F 0 = .p 0 0 0 0) ?_ ?_ 0 _ _ (zero_le _) ?_ ?_ ?_
 .rintro i F h hi h1 h2 ⟨rfl,p1⟩
  obtain ⟨b0,nn,b1⟩:=hs i hi
  have hu:s i < t.nodes.length:=by
   cases nn with
   | zero=>exact b1.elim
   | succ nn=>exact b1.1.1
  have h3:¬ (t.nodes.length:Int)<=s i:=by omega
  have hq:=fun (r:VH) Q=>Dn (A2C C t hn h4 hr _ _ _ b1 (s i) r) (Q:=Q)
  unfold Eu at b0
  simp only [and_eq_true,decide_eq_true_eq] at b0
  obtain ⟨⟨⟨⟨⟨⟨g1,g2⟩,g3⟩,g4⟩,g5⟩,g6⟩,g7⟩:=b0
  have h0:(t.at (s i)).rmw=false:=by simpa using g7
  simp only [Adq,go_sem,↓reduceIte,h1,h2,p1,h3,A7 hu,toNat_natCast,g1,g2,g3,g4,g5,g6,h0,hq]
 .rintro F h ⟨rfl,p1⟩
  rw [hse]
  simp only [go_sem,↓reduceIte,p1]
 all_goals simp only [go_sem,↓reduceIte,hs0]
 all_goals rfl
theorem Sh (t:A1) (h:A5 t):VP V Lh [vT t] Q↔Q (.b true):=by
 refine Ae ?_
 rw [Ad C.c_z106.1 C.c_z106.2]
 have a1:=h.v2
 have a2:=h.v4
 have a3:=h.l4
 have a4:=h.n64
 have a5:=h.r1
 have a6:=h.r4
 have b1:¬ t.vals < 2:=by omega
 have b2:¬ 4 < t.vals:=by omega
 have b3:¬ (4:Int) < t.locs.length:=by omega
 have b4:¬ (64:Int) < t.nodes.length:=by omega
 have b5:¬ (t.regs.length:Int) < 1:=by omega
 have b6:¬ (4:Int) < t.regs.length:=by omega
 obtain ⟨s,s0,se,hs⟩:=h.thr
 have h0:∀ l∈t.regs,l.length<=1000:=fun l hl=>by have:=(h.rl l hl).1;omega
 have q1:=fun (r:VH) Q=>Dn (Aac C t h.n64 h.first.1 h.first.2 r) (Q:=Q)
 have q2:=fun (r:VH) Q=>Dn (A2D C t h.n64 h.v4 h0 h.r4 s s0 se hs r) (Q:=Q)
 simp only [Zp,go_sem,↓reduceIte,b1,b2,b3,b4,b5,b6,XL C t.locs (by omega) h.ln]
 refine Ag (by decide) t.regs.length (by omega) (I:=fun i F h=>h=[]/\A4.tmp F 1 = .fp (eT t) 0/\A4.tmp F 42 = .ls (t.regs.map JE)) ?_ ?_ 0 _ _ (zero_le _) ?_ ?_ ?_
 .rintro i F hh hi h1 h2 ⟨rfl,p1,p2⟩
  have hm:=h.rl _ (Ai (d:=[]) hi)
  have hb:¬ (4:Int) < (t.regs.getD i []).length:=by omega
  simp only [Adp,go_sem,↓reduceIte,h1,h2,p1,p2,Md hi,hb,XL C (t.regs.getD i []) (by omega) hm.2]
 .rintro F hh ⟨rfl,p1,p2⟩
  simp only [go_sem,↓reduceIte,p1,q1,q2]
 all_goals simp only [go_sem,↓reduceIte]
 all_goals rfl
end
attribute [go_sem] Int.reduceLE Int.reduceLT Int.reduceEq Int.reduceToNat Int.reduceNeg Int.le_refl toNat_natCast Int.cast_ofNat_Int
section
variable {V:At} (C:Aq V) {Q:VV->Prop}
include C
theorem A62 (v n:Int) (h1:1<=n) (h2:n<=2147483648):VP V WB [.i .i64 v,.i .i64 n] Q↔Q (.i .i64 (v % n)):=by
 refine Ae ?_
 rw [Ad C.c_z225.1 C.c_z225.2]
 have c1:¬ n < 1:=by omega
 have c2:¬ 2147483648 < n:=by omega
 obtain ⟨t1,t2⟩:=AlZ (v:=v) (show 0 < n by omega)
 by_cases c:v.tmod n < 0
 .obtain ⟨t3,t4⟩:=t1 c
  have w:IntKind.i64.wrap (v.tmod n+n)=v % n:=by rw [Az (by omega) (by omega),t3]
  simp only [Sb,go_sem,↓reduceIte,c1,c2,Hp (show n≠0 by omega),c,w]
 .have c':¬ v % n < 0:=by rw [<- t2 c];exact c
  simp only [Sb,go_sem,↓reduceIte,c1,c2,Hp (show n≠0 by omega),t2 c,c']
theorem Gp (xs:List ByteArray) (n:ByteArray) (hl:xs.length<=1000):VP V Wy [lS xs,.s n] Q↔Q (.i .i64 (Dx (fun y=>decide (n=y)) xs)):=by
 refine Ae ?_
 rw [Ad C.c_z222.1 C.c_z222.2]
 simp only [A0y,go_sem,↓reduceIte]
 refine Ab (by decide) xs.length (by omega) (I:=fun k F h=>h=[]/\A4.tmp F 0=lS xs/\A4.tmp F 1 = .s n/\∀ (j:Nat) (hj:j < xs.length),j < k->¬ n=xs[j]) ?_ ?_ ?_ 0 _ _ (zero_le _) ?_ ?_
 .rintro k F h hk p1 ⟨rfl,p2,p3,p4⟩
  simp only [go_sem,↓reduceIte,p1,p2,p3]
  exact p4
 .rintro k F h hk p1 ⟨rfl,p2,p3,p4⟩
  by_cases e:xs[k]=n
  .simp only [go_sem,↓reduceIte,p1,p2,p3,Yj hk,e]
   rw [DA hk (by simp [e]) fun j hj=>by simpa using p4 j (by omega) hj]
  .simp only [go_sem,↓reduceIte,p1,p2,p3,Yj hk,e]
   intro j hj h0
   by_cases e2:j=k
   .subst e2;exact fun h=>e h.symm
   .exact p4 j hj (by omega)
 .rintro F h ⟨rfl,p2,p3,p4⟩
  simp only [go_sem,↓reduceIte]
  rw [Eb fun x hx=>by obtain ⟨j,hj,e⟩:=List.mem_iff_getElem.1 hx;rw [<- e];simpa using p4 j hj hj]
 all_goals simp only [go_sem,↓reduceIte]
 all_goals first | rfl | (intro j hj h0;omega)
theorem DC (xs:List ByteArray) (n:ByteArray) (hl:xs.length<=1000):VP V Wu [lS xs,.s n] Q↔Q (.b (xs.any fun y=>decide (n=y))):=by
 refine Ae ?_
 rw [Ad C.c_z216.1 C.c_z216.2]
 simp only [A0t,go_sem,↓reduceIte,Gp C xs n hl,MW]
theorem A7A (r:List VV) (h:GE r):VP V X3 [.ag r] fun x=>∃ k:Int,x = .i .i64 k:=by
 induction h with
 | mk op n nm kids hl hk ih =>
  rw [Ad C.c_z257.1 C.c_z257.2]
  simp only [A11,go_sem,↓reduceIte]
  by_cases ho:op=1\/op=2
  .unfold VL
   rw [A0]
   refine AT (M:=Nat) (I:=fun k F h=>h=[]/\A4.tmp F 1 = .fp [.i .i64 op,.i .i64 n,.s nm,.ls kids] 0/\A4.tmp F 4 = .i .i64 0/\A4.tmp F 3 = .i .i64 0) (μ:=fun k=>k) ?_ 0 _ _ ⟨rfl,?_,?_,?_⟩
   .rintro k F h ⟨rfl,p1,p2,p3⟩
    cases c0:decide ((0:Int) < kids.length)<;>rcases ho with ho | ho <;>
     simp only [Adt,go_sem,↓reduceIte,p1,p2,p3,c0,ho,Int.reduceEq,A0]<;>exact ⟨_,rfl⟩
   all_goals simp only [go_sem,↓reduceIte]
  .have o1:¬ op=1:=fun h=>ho (.inl h)
   have o2:¬ op=2:=fun h=>ho (.inr h)
   refine Ab (by decide) kids.length (by omega) (I:=fun k F h=>h=[]/\A4.tmp F 1 = .fp [.i .i64 op,.i .i64 n,.s nm,.ls kids] 0/\∃ d:Int,A4.tmp F 3 = .i .i64 d) ?_ ?_ ?_ 0 _ _ (zero_le _) ?_ ?_
   .rintro k F h h0 p1 ⟨rfl,p2,d,p3⟩
    cases c0:decide ((k:Int) < kids.length)
    .have:decide (k < kids.length)=false:=by simp at c0 ⊢;omega
     simp only [go_sem,↓reduceIte,p1,p2,p3,o1,o2,c0,this]
     try exact ⟨d,rfl⟩
    .have:decide (k < kids.length)=true:=by simp at c0 ⊢;omega
     simp only [go_sem,↓reduceIte,p1,p2,p3,o1,o2,c0,this]
     try exact ⟨d,rfl⟩
   .rintro k F h h0 p1 ⟨rfl,p2,d,p3⟩
    have hg:=hk _ (getElem_mem h0)
    simp only [go_sem,↓reduceIte,p1,p2,p3,A2B h0,hg.len,hg.take,hg.frz]
    refine (ih _ (getElem_mem h0)).mono ?_
    rintro _ ⟨e,rfl⟩
    cases c0:decide (d < e) <;>
    simp only [go_sem,↓reduceIte,p1,p2,p3,c0]<;>exact ⟨_,rfl⟩
   .rintro F h ⟨rfl,p2,d,p3⟩
    simp only [go_sem,↓reduceIte,p3]
    try exact ⟨_,rfl⟩
   all_goals simp only [go_sem,↓reduceIte]
   all_goals first | rfl | exact ⟨_,rfl⟩
theorem A7B (regs:List ByteArray) (vals:List Int) (hr:regs.length<=1000) (hl:vals.length=regs.length) (n:Int) (h1:2<=n) (h2:n<=2147483648) (r:List VV) (h:GE r) :
  VP V X4 [.ag r,lS regs,lI vals,.i .i64 n] fun x=>∃ (k:Int) (b:Bool),x = .tu [.i .i64 k,.b b]/\0<=k/\k < n:=by
 have h0:∀ v:Int,0<=v % n/\v % n < n:=fun v=>⟨Int.emod_nonneg v (by omega),Int.emod_lt_of_pos v (by omega)⟩
 have q5:=fun v Q=>A62 C v n (by omega) h2 (Q:=Q)
 induction h with
 | mk op m nm kids hkl hk ih =>
  rw [Ad C.c_z258.1 C.c_z258.2]
  by_cases o1:op=1
  .simp only [Jf,go_sem,↓reduceIte,o1,A0,q5]
   exact ⟨_,_,rfl,h0 m⟩
  by_cases o2:op=2
  .cases c0:regs.any fun y=>decide (nm=y) with
   | false =>
    have e:=Zj c0
    simp only [Jf,go_sem,↓reduceIte,o2,A0,q5,Int.reduceEq,Gp C regs nm hr,e,Int.reduceLT,Int.reduceNeg]
    exact ⟨_,_,rfl,by omega,by omega⟩
   | true =>
    obtain ⟨k,e,h6,_⟩:=Kw c0
    have h3:k < vals.length:=by omega
    have h4:¬ (k:Int) < 0:=by omega
    simp only [Jf,go_sem,↓reduceIte,o2,A0,q5,Int.reduceEq,Gp C regs nm hr,e,h4,Ar h3]
    exact ⟨_,_,rfl,h0 _⟩
  by_cases o3:op < 3
  .simp only [Jf,go_sem,↓reduceIte,o1,o2,o3,A0]
   exact ⟨_,_,rfl,by omega,by omega⟩
  by_cases o4:6 < op
  .simp only [Jf,go_sem,↓reduceIte,o1,o2,o3,o4,A0]
   exact ⟨_,_,rfl,by omega,by omega⟩
  by_cases o5:(kids.length:Int)=2
  .obtain ⟨a,b,rfl⟩:∃ a b,kids=[a,b]:=by
    rcases kids with _ | ⟨a,_ | ⟨b,_ | ⟨c,l⟩⟩⟩
    .simp at o5
    .simp at o5
    .exact ⟨a,b,rfl⟩
    .simp at o5;omega
   have ga:=hk a (by simp)
   have gb:=hk b (by simp)
   simp only [Jf,go_sem,↓reduceIte,o1,o2,o3,o4,o5,A0,ga.len,ga.take,ga.frz,gb.len,gb.take,gb.frz,Int.reduceEq,Int.cast_ofNat_Int]
   refine (ih a (by simp)).mono ?_
   rintro _ ⟨ka,ba,rfl,_,_⟩
   simp only [go_sem,↓reduceIte,gb.len,gb.take,gb.frz]
   refine (ih b (by simp)).mono ?_
   rintro _ ⟨kb,bb,rfl,_,_⟩
   have h5:op=3\/op=4\/op=5\/op=6:=by omega
   cases ba with
   | false =>
    simp only [go_sem,↓reduceIte]
    exact ⟨_,_,rfl,by omega,by omega⟩
   | true =>
    cases bb with
    | false =>
     simp only [go_sem,↓reduceIte]
     exact ⟨_,_,rfl,by omega,by omega⟩
    | true =>
     rcases h5 with rfl | rfl | rfl | rfl
     .simp only [go_sem,↓reduceIte,A0,q5,Int.reduceEq]
      exact ⟨_,_,rfl,h0 _⟩
     .simp only [go_sem,↓reduceIte,A0,q5,Int.reduceEq]
      exact ⟨_,_,rfl,h0 _⟩
     .cases c0:decide (ka=kb) <;>
      simp only [go_sem,↓reduceIte,A0,q5,Int.reduceEq,c0] <;>
      exact ⟨_,_,rfl,by omega,by omega⟩
     .cases c0:decide (ka < kb) <;>
      simp only [go_sem,↓reduceIte,A0,q5,Int.reduceEq,c0] <;>
      exact ⟨_,_,rfl,by omega,by omega⟩
  .simp only [Jf,go_sem,↓reduceIte,o1,o2,o3,o4,o5,A0]
   exact ⟨_,_,rfl,by omega,by omega⟩
theorem EV (regs:List ByteArray) (vals:List Int) (hr:regs.length<=1000) (hl:vals.length=regs.length) (n:Int) (h1:2<=n) (h2:n<=4) (r:List VV) (h:GE r) :
  VP V Qo [.ag r,lS regs,lI vals,.i .i64 n] fun x=>∃ (k:Int) (b:Bool),x = .tu [.i .i64 k,.b b]/\0<=k/\k < n:=by
 have c1:¬ n < 2:=by omega
 have c2:¬ 4 < n:=by omega
 have c3:(regs.length:Int)=vals.length:=by omega
 rw [Ad C.c_z246.1 C.c_z246.2]
 have hb:∀ L,Db L r=true:=fun L=>by cases h;rfl
 simp only [A0Q,go_sem,↓reduceIte,c1,c2,c3,h.len,h.take,h.frz,h.cell]
 refine (A7A C r h).mono ?_
 rintro _ ⟨k,rfl⟩
 cases c0:decide (6 < k) with
 | true =>
  simp only [go_sem,↓reduceIte,c0]
  exact ⟨_,_,rfl,by omega,by omega⟩
 | false =>
  simp only [go_sem,↓reduceIte,c0,h.len,h.take,h.frz]
  refine (A7B C regs vals hr hl n h1 (by omega) r h).mono ?_
  rintro _ ⟨k,b,rfl,hk⟩
  simp only [go_sem,↓reduceIte]
  exact ⟨_,_,rfl,hk⟩
theorem CL (k:Int):VP V WT [.i .i64 k] Q↔Q (.b (Jy k)):=by
 refine Ae ?_
 rw [Ad C.c_z245.1 C.c_z245.2]
 unfold Jy
 cases c1:decide (k=1)<;>cases c2:decide (k=2)<;>cases c3:decide (k=4) <;>
 simp only [A0P,go_sem,↓reduceIte,c1,c2,c3]
def Ag3 (V:At) (l:List (List VV)):Prop:=∀ out:List ByteArray,out.Nodup->(∀ n∈out,n∈N4)->VP V Mp [lS out,.ls l] fun x=>∃ o:List ByteArray,x=lS o/\o.Nodup/\(∀ n∈out,n∈o)/\(∀ n∈o,n∈N4)/\∀ r∈l,RI o r
omit C in
theorem X7 {o:List ByteArray} (h:o.Nodup) (h4:∀ n∈o,n∈N4):o.length<=4:=List.Nodup.length_le_of_subset h h4
theorem Kl (l:List (List VV)) (hl:l.length<=1000) (hs:∀ s∈l,∃ kind mode reg loc args th el,s=rS kind mode reg loc args th el/\(Jy kind=true->reg∈N4)/\Ag3 V th/\Ag3 V el):Ag3 V l:=by
 intro h3 hn h4
 rw [Ad C.c_z220.1 C.c_z220.2]
 simp only [A0x,go_sem,↓reduceIte]
 refine Ab (by decide) l.length (by omega) (I:=fun k F h=>h=[]/\A4.tmp F 1 = .ls l/\∃ o:List ByteArray,A4.tmp F 0=lS o/\o.Nodup/\(∀ n∈h3,n∈o)/\(∀ n∈o,n∈N4)/\∀ j (hj:j < l.length),j < k->RI o l[j]) ?_ ?_ ?_ 0 _ _ (zero_le _) ?_ ?_
 .rintro k F h hk p1 ⟨rfl,p2,o,p3,p4⟩
  simp only [go_sem,↓reduceIte,p1,p2,p3]
  exact ⟨o,rfl,p4⟩
 .rintro k F h hk p1 ⟨rfl,p2,o,p3,p4,p5,p6,p7⟩
  obtain ⟨kind,mode,reg,loc,args,th,el,e,h2,a1,a2⟩:=hs _ (getElem_mem hk)
  have ho:=X7 p4 p6
  have h1:=A2B hk
  rw [e] at h1
  have fin:∀ o2:List ByteArray,o2.Nodup->(∀ n∈o,n∈o2)->(∀ n∈o2,n∈N4)->(Jy kind=true->reg∈o2)->VP V Mp [lS o2,.ls th] fun x=>∃ o3:List ByteArray,x=lS o3/\VP V Mp [lS o3,.ls el] fun x=>∃ o4:List ByteArray,x=lS o4/\o4.Nodup/\(∀ n∈h3,n∈o4)/\(∀ n∈o4,n∈N4)/\∀ j (hj:j < l.length),j < k+1->RI o4 l[j]:=by
   intro o2 g1 g2 g3 g4
   refine (a1 o2 g1 g3).mono ?_
   rintro _ ⟨o3,rfl,q1,q2,q3,q4⟩
   refine ⟨o3,rfl,(a2 o3 q1 q3).mono ?_⟩
   rintro _ ⟨o4,rfl,r1,r2,r3,r4⟩
   refine ⟨o4,rfl,r1,fun n hn=>r2 _ (q2 _ (g2 _ (p5 _ hn))),r3,fun j hj hjk=>?_⟩
   by_cases ej:j=k
   .subst ej
    rw [e]
    exact .mk _ _ _ _ _ _ _ (fun h=>r2 _ (q2 _ (g4 h))) (fun s hs=>(q4 s hs).mono r2) r4
   .exact (p7 j hj (by omega)).mono fun n hn=>r2 _ (q2 _ (g2 _ hn))
  cases c0:Jy kind with
  | false =>
   simp only [go_sem,↓reduceIte,p1,p2,p3,h1,CL C,c0]
   refine (fin o p4 (fun n h=>h) p6 (fun h=>by rw [c0] at h;cases h)).mono ?_
   rintro _ ⟨o3,rfl,hv⟩
   simp only [go_sem,↓reduceIte,p1,p2,p3,h1]
   refine hv.mono ?_
   rintro _ ⟨o4,rfl,hv⟩
   simp only [go_sem,↓reduceIte,p1,p2,p3,h1]
   exact ⟨o4,rfl,hv⟩
  | true =>
   cases c1:o.any fun y=>decide (reg=y) with
   | true =>
    have h0:reg∈o:=by
     rw [any_eq_true] at c1
     obtain ⟨x,hx,e⟩:=c1
     rw [of_decide_eq_true e];exact hx
    simp only [go_sem,↓reduceIte,p1,p2,p3,h1,CL C,c0,DC C o reg (by omega),c1]
    refine (fin o p4 (fun n h=>h) p6 (fun h=>h0)).mono ?_
    rintro _ ⟨o3,rfl,hv⟩
    simp only [go_sem,↓reduceIte,p1,p2,p3,h1]
    refine hv.mono ?_
    rintro _ ⟨o4,rfl,hv⟩
    simp only [go_sem,↓reduceIte,p1,p2,p3,h1]
    exact ⟨o4,rfl,hv⟩
   | false =>
    have h0:reg∉o:=by
     intro h
     rw [List.any_eq_false] at c1
     simpa using c1 reg h
    have nd:(o++[reg]).Nodup:=List.nodup_append.2 ⟨p4,by simp,by intro a ha b hb;simp at hb;subst hb;intro e;subst e;exact h0 ha⟩
    have sub:∀ n∈o++[reg],n∈N4:=fun n hn=>by
     rcases List.mem_append.1 hn with h | h
     .exact p6 n h
     .rw [List.mem_singleton.1 h];exact h2 c0
    have f2:=fin (o++[reg]) nd (fun n h=>List.mem_append_left _ h) sub (fun _=>by simp)
    have b0:o.length * 16<=Aa:=by unfold Aa;omega
    have b1:(o.length+1) * 16<=Aa:=by unfold Aa;omega
    simp only [go_sem,↓reduceIte,p1,p2,p3,h1,CL C,c0,DC C o reg (by omega),c1,b0,b1]
    refine f2.mono ?_
    rintro _ ⟨o3,rfl,hv⟩
    simp only [go_sem,↓reduceIte,p1,p2,p3,h1]
    refine hv.mono ?_
    rintro _ ⟨o4,rfl,hv⟩
    simp only [go_sem,↓reduceIte,p1,p2,p3,h1]
    exact ⟨o4,rfl,hv⟩
 .rintro F h ⟨rfl,p2,o,p3,p4,p5,p6,p7⟩
  simp only [go_sem,↓reduceIte,p3]
  refine ⟨o,rfl,p4,p5,p6,fun r hr=>?_⟩
  obtain ⟨j,hj,rfl⟩:=List.mem_iff_getElem.1 hr
  exact p7 j hj hj
 all_goals simp only [go_sem,↓reduceIte]
 exact ⟨h3,rfl,hn,fun n h=>h,h4,fun j hj hjk=>by omega⟩
theorem AaB {locs:List ByteArray} {r:List VV} (h:GS locs r):∃ kind mode reg loc args th el,r=rS kind mode reg loc args th el/\(Jy kind=true->reg∈N4)/\Ag3 V th/\Ag3 V el:=by
 induction h with
 | mk kind mode reg loc args th el h1 h2 h3 h4 h5 h6 h7 ih1 ih2=>exact ⟨kind,mode,reg,loc,args,th,el,rfl,h7.rn,Kl C th h3 ih1,Kl C el h4 ih2⟩
theorem AaA {locs:List ByteArray} (l:List (List VV)) (hl:l.length<=1000) (h:∀ s∈l,GS locs s):VP V VS [.ls l] fun x=>∃ o:List ByteArray,x=lS o/\o.Nodup/\(∀ n∈o,n∈N4)/\∀ r∈l,RI o r:=by
 rw [Ad C.c_z174.1 C.c_z174.2]
 simp only [A01,go_sem,↓reduceIte]
 refine (Kl C l hl (fun s hs=>AaB C (h s hs)) [] (by simp) (by simp)).mono ?_
 rintro _ ⟨o,rfl,h1,h2,h3,h4⟩
 simp only [go_sem,↓reduceIte]
 exact ⟨o,rfl,h1,h3,h4⟩
end
theorem Cn {V:At} {m:Nat->Nat} {a b:A2} {F:A4} {h:VH} {Q:Ex->A4->VH->Prop} (J:A4->VH->Prop) (h1:Vc V m a F h (fun e F' h'=>match e with | .norm=>J F' h' | e=>Q e F' h')) (h2:∀ F' h',J F' h'->Vc V m b F' h' Q):Vc V m (.seq a b) F h Q:=by
 rw [Pw]
 exact h1.mono fun e F' h' hq=>by
  cases e with
  | norm=>exact h2 _ _ hq
  | exit _=>exact hq
  | ret=>exact hq
theorem Cr {V:At} {g:Nat} {pa:List VV} {Q:VV->Prop} (k:VP V g pa Q):∃ x,Q x/\∀ Q':VV->Prop,VP V g pa Q'↔Q' x:=by
 have h0:∃ x,Q x/\VP V g pa fun r=>r=x:=by
  unfold VP at k ⊢
  split at k
  .rename_i y hy
   obtain ⟨v,h1,h2,h3⟩:=k
   exact ⟨v,h3,v,h1,h2,rfl⟩
  .rename_i hy
   obtain ⟨vf,h1,n,v,h',h2,r,ids,h3,h4⟩:=k
   exact ⟨r,h4,vf,h1,n,v,h',h2,r,ids,h3,rfl⟩
 obtain ⟨x,h1,h2⟩:=h0
 exact ⟨x,h1,fun Q'=>Ae h2⟩
theorem Z5 {V:At} {g:Nat} {pa:List VV} {h:VH} {Q:VV->VH->Prop} (k:Hs V g pa h Q):∃ x y,Q x y/\∀ Q':VV->VH->Prop,Hs V g pa h Q'↔Q' x y:=by
 obtain ⟨vf,h1,n,v,h',h2,r,ids,h3,h4,h5⟩:=k
 exact ⟨_,_,h5,fun Q'=>Dn ⟨vf,h1,n,v,h',h2,r,ids,h3,h4,rfl,rfl⟩⟩
theorem EC {V:At} {g:Nat} {pa:List VV} {h:VH} {Q:VV->VH->Prop} (k:NR V g pa h Q):∃ x y,Q x y/\∀ Q':VV->VH->Prop,NR V g pa h Q'↔Q' x y:=by
 obtain ⟨vf,h1,n,v,h',h2,h3⟩:=k
 exact ⟨_,_,h3,fun Q'=>Pv ⟨vf,h1,n,v,h',h2,rfl,rfl⟩⟩
inductive GC:List VV->Prop
 | mk (op th:Int) (nm:ByteArray) (n:Int) (kids:List (List VV)):kids.length<=1000->(∀ k∈kids,GC k)->GC [.i .i64 op,.i .i64 th,.s nm,.i .i64 n,.ls kids]
theorem GC.len {r:List VV} (h:GC r):r.length=5:=by cases h;rfl
theorem GC.frz {r:List VV} (h:GC r) {hh:VH} {d:Nat}:Bh (frz hh (d+1)) r=some (r,[]):=by cases h;rfl
theorem GC.take {r:List VV} (h:GC r):r.take 5=r:=by cases h;rfl
theorem GC.cell {r:List VV} (h:GC r):r.all VV.cell=true:=by cases h;rfl
theorem ixS {s:ByteArray} {k:Nat} (h:k < s.size):∃ b:UInt8,s.data.toList[k]? = some b:=by
 have:k < s.data.toList.length:=by simpa using h
 exact ⟨_,getElem?_eq_getElem this⟩
section
variable {V:At} (C:Aq V) {Q:VV->Prop}
include C
theorem Pn (n:Int):VP V WQ [.i .u8 n] fun x=>∃ b:Bool,x = .b b:=by
 rw [Ad C.c_z241.1 C.c_z241.2]
 simp only [A0M,go_sem,↓reduceIte]
 repeat' first
 | (refine BT (fun hx=>?_) (fun hx=>?_)<;>simp only [go_sem,↓reduceIte,hx])
 | (refine BI (fun hx=>?_) (fun hx=>?_)<;>simp only [go_sem,↓reduceIte,hx])
 | (refine Bp (fun hx=>?_) (fun hx=>?_)<;>simp only [go_sem,↓reduceIte,hx])
 all_goals try exact ⟨_,rfl⟩
theorem A7y (n:Int):VP V WS [.i .u8 n] fun x=>∃ b:Bool,x = .b b:=by
 rw [Ad C.c_z243.1 C.c_z243.2]
 simp only [A0O,go_sem,↓reduceIte]
 repeat' first
 | (refine BT (fun hx=>?_) (fun hx=>?_)<;>simp only [go_sem,↓reduceIte,hx])
 | (refine BI (fun hx=>?_) (fun hx=>?_)<;>simp only [go_sem,↓reduceIte,hx])
 | (refine Bp (fun hx=>?_) (fun hx=>?_)<;>simp only [go_sem,↓reduceIte,hx])
 all_goals try exact ⟨_,rfl⟩
theorem A7z:VP V WZ [] fun x=>∃ l:List ByteArray,x=lS l/\l.length<=1000:=by
 rw [Ad C.c_z253.1 C.c_z253.2]
 simp only [A0X,go_sem,↓reduceIte]
 exact ⟨[_,_,_,_,_,_,_,_,_,_,_,_,_,_,_,_,_,_,_,_,_],rfl,by simp⟩
theorem A1S (s:ByteArray):VP V WR [.s s] fun x=>∃ b:Bool,x = .b b:=by
 rw [Ad C.c_z242.1 C.c_z242.2]
 simp only [A0N,go_sem,↓reduceIte]
 refine (A7z C).mono ?_
 rintro _ ⟨l,rfl,hl⟩
 refine Ab (by decide) l.length (by omega) (I:=fun k F h=>h=[]/\A4.tmp F 0 = .s s/\A4.tmp F 3=lS l) ?_ ?_ ?_ 0 _ _ (zero_le _) ?_ ?_
 .rintro k F h hk p1 ⟨rfl,p2,p3⟩
  simp only [go_sem,↓reduceIte,p1,p2,p3]
 .rintro k F h hk p1 ⟨rfl,p2,p3⟩
  cases c0:decide (l[k]=s) <;>
  simp only [go_sem,↓reduceIte,p1,p2,p3,Yj hk,c0]
  try exact ⟨_,rfl⟩
 .rintro F h ⟨rfl,p2,p3⟩
  simp only [go_sem,↓reduceIte]
  try exact ⟨_,rfl⟩
 all_goals try simp only [go_sem,↓reduceIte]
theorem MC (s:ByteArray) (hs:s.size<=1000):VP V Wt [.s s] fun x=>∃ b:Bool,x = .b b:=by
 rw [Ad C.c_z215.1 C.c_z215.2]
 cases c0:decide (s=bs []) with
 | true =>
  simp only [PS,go_sem,↓reduceIte,c0]
  try exact ⟨_,rfl⟩
 | false =>
  cases c1:decide (8 < (s.size:Int)) with
  | true =>
   simp only [PS,go_sem,↓reduceIte,c0,c1]
   try exact ⟨_,rfl⟩
  | false =>
   have hz:0 < s.size:=by
    rcases Nat.eq_zero_or_pos s.size with h | h
    .exfalso
     have:s=bs []:=by
      cases s with
      | mk d=>
       have:d = #[]:=Array.eq_empty_of_size_eq_zero h
       rw [this]
     simp [this] at c0
    .exact h
   obtain ⟨b0,h1⟩:=ixS hz
   simp only [PS,go_sem,↓reduceIte,c0,c1,h1]
   refine (Pn C _).mono ?_
   rintro _ ⟨x0,rfl⟩
   cases x0 with
   | false =>
    simp only [go_sem,↓reduceIte]
    try exact ⟨_,rfl⟩
   | true =>
    simp only [go_sem,↓reduceIte]
    refine (A1S C s).mono ?_
    rintro _ ⟨x1,rfl⟩
    cases x1 with
    | true =>
     simp only [go_sem,↓reduceIte]
     try exact ⟨_,rfl⟩
    | false =>
     simp only [go_sem,↓reduceIte]
     refine Ab (by decide) s.size (by omega) (I:=fun k F h=>h=[]/\A4.tmp F 0 = .s s) ?_ ?_ ?_ 0 _ _ (zero_le _) ?_ ?_
     .rintro k F h hk p1 ⟨rfl,p2⟩
      simp only [go_sem,↓reduceIte,p1,p2]
     .rintro k F h hk p1 ⟨rfl,p2⟩
      obtain ⟨bk,h0⟩:=ixS hk
      simp only [go_sem,↓reduceIte,p1,p2,h0]
      refine (Pn C _).mono ?_
      rintro _ ⟨x0,rfl⟩
      cases x0 with
      | true =>
       simp only [go_sem,↓reduceIte,p1,p2]
      | false =>
       simp only [go_sem,↓reduceIte,p1,p2,h0]
       refine (A7y C _).mono ?_
       rintro _ ⟨x0,rfl⟩
       cases x0 <;>
       simp only [go_sem,↓reduceIte,p1,p2]
       try exact ⟨_,rfl⟩
     .rintro F h ⟨rfl,p2⟩
      simp only [go_sem,↓reduceIte]
      try exact ⟨_,rfl⟩
     all_goals try simp only [go_sem,↓reduceIte]
theorem AaE (r:List VV) (h:GE r):VP V X1 [.ag r] fun x=>∃ k:Int,x = .i .i64 k:=by
 induction h with
 | mk op n nm kids hl hk ih =>
  rw [Ad C.c_z255.1 C.c_z255.2]
  simp only [A0Z,go_sem,↓reduceIte]
  refine Ab (by decide) kids.length (by omega) (I:=fun k F h=>h=[]/\A4.tmp F 1 = .fp [.i .i64 op,.i .i64 n,.s nm,.ls kids] 0/\∃ d:Int,A4.tmp F 3 = .i .i64 d) ?_ ?_ ?_ 0 _ _ (zero_le _) ?_ ?_
  .rintro k F h h0 p1 ⟨rfl,p2,d,p3⟩
   simp only [go_sem,↓reduceIte,p1,p2,p3]
   try exact ⟨d,rfl⟩
  .rintro k F h h0 p1 ⟨rfl,p2,d,p3⟩
   have hg:=hk _ (getElem_mem h0)
   simp only [go_sem,↓reduceIte,p1,p2,p3,A2B h0,hg.len,hg.take,hg.frz]
   refine (ih _ (getElem_mem h0)).mono ?_
   rintro _ ⟨e,rfl⟩
   cases c0:decide (d < e) <;>
   simp only [go_sem,↓reduceIte,p1,p2,p3,c0]
  .rintro F h ⟨rfl,p2,d,p3⟩
   simp only [go_sem,↓reduceIte,p3]
   try exact ⟨_,rfl⟩
  all_goals try simp only [go_sem,↓reduceIte]
  all_goals first | rfl | exact ⟨_,rfl⟩
theorem Ym (r:List VV) (h:GC r):VP V Ww [.ag r] fun x=>∃ k:Int,x = .i .i64 k:=by
 induction h with
 | mk op th nm n kids hl hk ih =>
  rw [Ad C.c_z218.1 C.c_z218.2]
  simp only [A0v,go_sem,↓reduceIte]
  refine Ab (by decide) kids.length (by omega) (I:=fun k F h=>h=[]/\A4.tmp F 1 = .fp [.i .i64 op,.i .i64 th,.s nm,.i .i64 n,.ls kids] 0/\∃ d:Int,A4.tmp F 3 = .i .i64 d) ?_ ?_ ?_ 0 _ _ (zero_le _) ?_ ?_
  .rintro k F h h0 p1 ⟨rfl,p2,d,p3⟩
   simp only [go_sem,↓reduceIte,p1,p2,p3]
   try exact ⟨d,rfl⟩
  .rintro k F h h0 p1 ⟨rfl,p2,d,p3⟩
   have hg:=hk _ (getElem_mem h0)
   simp only [go_sem,↓reduceIte,p1,p2,p3,A2B h0,hg.len,hg.take,hg.frz]
   refine (ih _ (getElem_mem h0)).mono ?_
   rintro _ ⟨e,rfl⟩
   cases c0:decide (d < e) <;>
   simp only [go_sem,↓reduceIte,p1,p2,p3,c0]
  .rintro F h ⟨rfl,p2,d,p3⟩
   simp only [go_sem,↓reduceIte,p3]
   try exact ⟨_,rfl⟩
  all_goals try simp only [go_sem,↓reduceIte]
  all_goals first | rfl | exact ⟨_,rfl⟩
theorem Acj (k n:Int):VP V X0 [.i .i64 k,.i .i64 n] fun x=>∃ b:Bool,x = .b b:=by
 rw [Ad C.c_z254.1 C.c_z254.2]
 simp only [A0Y,go_sem,↓reduceIte,A0]
 repeat' first
 | (refine BT (fun hx=>?_) (fun hx=>?_)<;>simp only [go_sem,↓reduceIte,hx,A0])
 | (refine BI (fun hx=>?_) (fun hx=>?_)<;>simp only [go_sem,↓reduceIte,hx,A0])
 | (refine Bp (fun hx=>?_) (fun hx=>?_)<;>simp only [go_sem,↓reduceIte,hx,A0])
 all_goals try exact ⟨_,rfl⟩
theorem XX (vals:Int) (kn:List ByteArray) (hkn:kn.length<=1000) (r:List VV) (h:GE r):VP V X2 [.ag r,.i .i64 vals,lS kn] fun x=>∃ k:Int,x = .i .i64 k:=by
  induction h with
  | mk op n nm kids hl hk ih =>
    rw [Ad C.c_z256.1 C.c_z256.2]
    have h1:=fun Q=>DC C kn nm hkn (Q:=Q)
    simp only [A10]
    refine Cn (J:=fun F h=>h=[]/\A4.tmp F 1 = .i .i64 vals/\A4.tmp F 2=lS kn/\A4.tmp F 3 = .fp [.i .i64 op,.i .i64 n,.s nm,.ls kids] 0) ?_ ?_
    · simp only [go_sem,↓reduceIte]
    rintro F h ⟨rfl,p1,p2,p3⟩
    refine Cn (J:=fun F h=>h=[]/\A4.tmp F 1 = .i .i64 vals/\A4.tmp F 2=lS kn/\A4.tmp F 3 = .fp [.i .i64 op,.i .i64 n,.s nm,.ls kids] 0/\∃ b:Bool,A4.tmp F 7 = .b b) ?_ ?_
    · simp only [go_sem, ↓reduceIte, p1, p2, p3]
      repeat' first
      | (refine BT (fun hx=>?_) (fun hx=>?_)<;>simp only [go_sem,↓reduceIte,hx,p1,p2,p3])
      | (refine BI (fun hx=>?_) (fun hx=>?_)<;>simp only [go_sem,↓reduceIte,hx,p1,p2,p3])
      | (refine Bp (fun hx=>?_) (fun hx=>?_)<;>simp only [go_sem,↓reduceIte,hx,p1,p2,p3])
    rintro F h ⟨rfl,p1,p2,p3,b,p4⟩
    refine Cn (J:=fun F h=>h=[]/\A4.tmp F 1 = .i .i64 vals/\A4.tmp F 2=lS kn/\A4.tmp F 3 = .fp [.i .i64 op,.i .i64 n,.s nm,.ls kids] 0) ?_ ?_
    · cases b <;> simp only [go_sem, ↓reduceIte, p1, p2, p3, p4]
      all_goals repeat' first
                | (refine BT (fun hx=>?_) (fun hx=>?_)<;>simp only [go_sem,↓reduceIte,hx,p1,p2,p3,p4])
                | (refine BI (fun hx=>?_) (fun hx=>?_)<;>simp only [go_sem,↓reduceIte,hx,p1,p2,p3,p4])
                | (refine Bp (fun hx=>?_) (fun hx=>?_)<;>simp only [go_sem,↓reduceIte,hx,p1,p2,p3,p4])
    rintro F h ⟨rfl,p1,p2,p3⟩
    refine Cn (J:=fun F h=>h=[]/\A4.tmp F 1 = .i .i64 vals/\A4.tmp F 2=lS kn/\A4.tmp F 3 = .fp [.i .i64 op,.i .i64 n,.s nm,.ls kids] 0) ?_ ?_
    · simp only [go_sem, ↓reduceIte, p1, p2, p3]
      repeat' first
      | (refine BT (fun hx=>?_) (fun hx=>?_)<;>simp only [go_sem,↓reduceIte,hx,p1,p2,p3])
      | (refine BI (fun hx=>?_) (fun hx=>?_)<;>simp only [go_sem,↓reduceIte,hx,p1,p2,p3])
      | (refine Bp (fun hx=>?_) (fun hx=>?_)<;>simp only [go_sem,↓reduceIte,hx,p1,p2,p3])
    rintro F h ⟨rfl,p1,p2,p3⟩
    refine Cn (J:=fun F h=>h=[]/\A4.tmp F 1 = .i .i64 vals/\A4.tmp F 2=lS kn/\A4.tmp F 3 = .fp [.i .i64 op,.i .i64 n,.s nm,.ls kids] 0) ?_ ?_
    · simp only [go_sem, ↓reduceIte, p1, p2, p3]
      repeat' first
      | (refine BT (fun hx=>?_) (fun hx=>?_)<;>simp only [go_sem,↓reduceIte,hx,p1,p2,p3])
      | (refine BI (fun hx=>?_) (fun hx=>?_)<;>simp only [go_sem,↓reduceIte,hx,p1,p2,p3])
      | (refine Bp (fun hx=>?_) (fun hx=>?_)<;>simp only [go_sem,↓reduceIte,hx,p1,p2,p3])
    rintro F h ⟨rfl,p1,p2,p3⟩
    refine Cn (J:=fun F h=>h=[]/\A4.tmp F 1 = .i .i64 vals/\A4.tmp F 2=lS kn/\A4.tmp F 3 = .fp [.i .i64 op,.i .i64 n,.s nm,.ls kids] 0) ?_ ?_
    · cases c0 : decide (op = 2) <;> cases c1 : (kn.any fun y => decide (nm = y)) <;>
      simp only [go_sem,↓reduceIte,p1,p2,p3,c0,h1,c1]
    rintro F h ⟨rfl,p1,p2,p3⟩
    simp only [go_sem,↓reduceIte,p1,p2,p3]
    refine Ab (by decide) kids.length (by omega) (I:=fun k F h=>h=[]/\A4.tmp F 1 = .i .i64 vals/\A4.tmp F 2=lS kn/\A4.tmp F 3 = .fp [.i .i64 op,.i .i64 n,.s nm,.ls kids] 0) ?_ ?_ ?_ 0 _ _ (zero_le _) ?_ ?_
    · rintro k F h h0 q0 ⟨rfl, q1, q2, q3⟩
      simp only [go_sem,↓reduceIte,q0,q1,q2,q3]
    · rintro k F h h0 q0 ⟨rfl, q1, q2, q3⟩
      have hg:=hk _ (getElem_mem h0)
      simp only [go_sem,↓reduceIte,q0,q1,q2,q3,A2B h0,hg.len,hg.take,hg.frz]
      refine (ih _ (getElem_mem h0)).mono ?_
      rintro _ ⟨e,rfl⟩
      cases c0:decide (e=0) <;>
      simp only [go_sem,↓reduceIte,q0,q1,q2,q3,c0]
      try exact ⟨_,rfl⟩
    · rintro F h ⟨rfl, q1, q2, q3⟩
      simp only [go_sem,↓reduceIte]
      try exact ⟨_,rfl⟩
    all_goals try simp only [go_sem,↓reduceIte,p1,p2,p3]
theorem AaD (vals:Int) (locs:List ByteArray) (hlo:locs.length<=1000) (regs:List (List ByteArray)) (hrl:regs.length<=1000) (hre:∀ l∈regs,l.length<=1000) (r:List VV) (h:GC r):VP V Wx [.ag r,.i .i64 vals,lS locs,.ls (regs.map JE)] fun x=>∃ k:Int,x = .i .i64 k:=by
 induction h with
 | mk op th nm n kids hl hk ih =>
  rw [Ad C.c_z219.1 C.c_z219.2]
  have h0:=fun Q=>DC C locs nm hlo (Q:=Q)
  simp only [A0w]
  refine Cn (J:=fun F h=>h=[]/\A4.tmp F 1 = .i .i64 vals/\A4.tmp F 2=lS locs/\A4.tmp F 3 = .ls (regs.map JE)/\A4.tmp F 4 = .fp [.i .i64 op,.i .i64 th,.s nm,.i .i64 n,.ls kids] 0) ?_ ?_
  .simp only [go_sem,↓reduceIte]
  rintro F h ⟨rfl,p1,p2,p3,p4⟩
  refine Cn (J:=fun F h=>(h=[]/\A4.tmp F 1 = .i .i64 vals/\A4.tmp F 2=lS locs/\A4.tmp F 3 = .ls (regs.map JE)/\A4.tmp F 4 = .fp [.i .i64 op,.i .i64 th,.s nm,.i .i64 n,.ls kids] 0)/\∃ k:Int,A4.tmp F 9 = .i .i64 k) ?_ ?_
  .simp only [go_sem,↓reduceIte,p1,p2,p3,p4]
   try exact ⟨_,rfl⟩
  rintro F h ⟨⟨rfl,p1,p2,p3,p4⟩,k9,p9⟩
  refine Cn (J:=fun F h=>(h=[]/\A4.tmp F 1 = .i .i64 vals/\A4.tmp F 2=lS locs/\A4.tmp F 3 = .ls (regs.map JE)/\A4.tmp F 4 = .fp [.i .i64 op,.i .i64 th,.s nm,.i .i64 n,.ls kids] 0)/\∃ k:Int,A4.tmp F 9 = .i .i64 k) ?_ ?_
  .simp only [go_sem,↓reduceIte,p1,p2,p3,p4,p9,A0]
   repeat' first
   | (refine BT (fun hx=>?_) (fun hx=>?_)<;>simp only [go_sem,↓reduceIte,hx,p1,p2,p3,p4,p9,A0])
   | (refine BI (fun hx=>?_) (fun hx=>?_)<;>simp only [go_sem,↓reduceIte,hx,p1,p2,p3,p4,p9,A0])
   | (refine Bp (fun hx=>?_) (fun hx=>?_)<;>simp only [go_sem,↓reduceIte,hx,p1,p2,p3,p4,p9,A0])
   all_goals try exact ⟨_,rfl⟩
  rintro F h ⟨⟨rfl,p1,p2,p3,p4⟩,k9,p9⟩
  refine Cn (J:=fun F h=>h=[]/\A4.tmp F 1 = .i .i64 vals/\A4.tmp F 2=lS locs/\A4.tmp F 3 = .ls (regs.map JE)/\A4.tmp F 4 = .fp [.i .i64 op,.i .i64 th,.s nm,.i .i64 n,.ls kids] 0) ?_ ?_
  .simp only [go_sem,↓reduceIte,p1,p2,p3,p4,p9]
   repeat' first
   | (refine BT (fun hx=>?_) (fun hx=>?_)<;>simp only [go_sem,↓reduceIte,hx,p1,p2,p3,p4,p9])
   | (refine BI (fun hx=>?_) (fun hx=>?_)<;>simp only [go_sem,↓reduceIte,hx,p1,p2,p3,p4,p9])
   | (refine Bp (fun hx=>?_) (fun hx=>?_)<;>simp only [go_sem,↓reduceIte,hx,p1,p2,p3,p4,p9])
  rintro F h ⟨rfl,p1,p2,p3,p4⟩
  refine Cn (J:=fun F h=>h=[]/\A4.tmp F 1 = .i .i64 vals/\A4.tmp F 2=lS locs/\A4.tmp F 3 = .ls (regs.map JE)/\A4.tmp F 4 = .fp [.i .i64 op,.i .i64 th,.s nm,.i .i64 n,.ls kids] 0) ?_ ?_
  .by_cases c1:th < 0
   .simp only [go_sem,↓reduceIte,p1,p2,p3,p4,c1,A0,h0]
    repeat' first
    | (refine BT (fun hx=>?_) (fun hx=>?_)<;>simp only [go_sem,↓reduceIte,hx,p1,p2,p3,p4,c1,A0,h0])
    | (refine BI (fun hx=>?_) (fun hx=>?_)<;>simp only [go_sem,↓reduceIte,hx,p1,p2,p3,p4,c1,A0,h0])
    | (refine Bp (fun hx=>?_) (fun hx=>?_)<;>simp only [go_sem,↓reduceIte,hx,p1,p2,p3,p4,c1,A0,h0])
   .by_cases c2:(regs.length:Int)<=th
    .simp only [go_sem,↓reduceIte,p1,p2,p3,p4,c1,c2,A0,h0]
     repeat' first
     | (refine BT (fun hx=>?_) (fun hx=>?_)<;>simp only [go_sem,↓reduceIte,hx,p1,p2,p3,p4,c1,c2,A0,h0])
     | (refine BI (fun hx=>?_) (fun hx=>?_)<;>simp only [go_sem,↓reduceIte,hx,p1,p2,p3,p4,c1,c2,A0,h0])
     | (refine Bp (fun hx=>?_) (fun hx=>?_)<;>simp only [go_sem,↓reduceIte,hx,p1,p2,p3,p4,c1,c2,A0,h0])
    .obtain ⟨m,rfl⟩:=Int.eq_ofNat_of_zero_le (by omega:0<=th)
     have hm:m < regs.length:=by omega
     have h1:=fun Q=>DC C (regs.getD m []) nm (hre _ (Ai hm)) (Q:=Q)
     simp only [go_sem,↓reduceIte,p1,p2,p3,p4,c1,c2,A0,h0,h1,Md hm]
     repeat' first
     | (refine BT (fun hx=>?_) (fun hx=>?_)<;>simp only [go_sem,↓reduceIte,hx,p1,p2,p3,p4,c1,c2,A0,h0,h1,Md hm])
     | (refine BI (fun hx=>?_) (fun hx=>?_)<;>simp only [go_sem,↓reduceIte,hx,p1,p2,p3,p4,c1,c2,A0,h0,h1,Md hm])
     | (refine Bp (fun hx=>?_) (fun hx=>?_)<;>simp only [go_sem,↓reduceIte,hx,p1,p2,p3,p4,c1,c2,A0,h0,h1,Md hm])
  rintro F h ⟨rfl,p1,p2,p3,p4⟩
  refine Cn (J:=fun F h=>h=[]/\A4.tmp F 1 = .i .i64 vals/\A4.tmp F 2=lS locs/\A4.tmp F 3 = .ls (regs.map JE)/\A4.tmp F 4 = .fp [.i .i64 op,.i .i64 th,.s nm,.i .i64 n,.ls kids] 0) ?_ ?_
  .simp only [go_sem,↓reduceIte,p1,p2,p3,p4]
   repeat' first
   | (refine BT (fun hx=>?_) (fun hx=>?_)<;>simp only [go_sem,↓reduceIte,hx,p1,p2,p3,p4])
   | (refine BI (fun hx=>?_) (fun hx=>?_)<;>simp only [go_sem,↓reduceIte,hx,p1,p2,p3,p4])
   | (refine Bp (fun hx=>?_) (fun hx=>?_)<;>simp only [go_sem,↓reduceIte,hx,p1,p2,p3,p4])
  rintro F h ⟨rfl,p1,p2,p3,p4⟩
  simp only [go_sem,↓reduceIte,p1,p2,p3,p4]
  refine Ab (by decide) kids.length (by omega) (I:=fun k F h=>h=[]/\A4.tmp F 1 = .i .i64 vals/\A4.tmp F 2=lS locs/\A4.tmp F 3 = .ls (regs.map JE)/\A4.tmp F 4 = .fp [.i .i64 op,.i .i64 th,.s nm,.i .i64 n,.ls kids] 0) ?_ ?_ ?_ 0 _ _ (zero_le _) ?_ ?_
  .rintro k F h h2 q0 ⟨rfl,q1,q2,q3,q4⟩
   simp only [go_sem,↓reduceIte,q0,q1,q2,q3,q4]
  .rintro k F h h2 q0 ⟨rfl,q1,q2,q3,q4⟩
   have hg:=hk _ (getElem_mem h2)
   simp only [go_sem,↓reduceIte,q0,q1,q2,q3,q4,A2B h2,hg.len,hg.take,hg.frz]
   refine (ih _ (getElem_mem h2)).mono ?_
   rintro _ ⟨e,rfl⟩
   cases c0:decide (e=0) <;>
   simp only [go_sem,↓reduceIte,q0,q1,q2,q3,q4,c0]
   try exact ⟨_,rfl⟩
  .rintro F h ⟨rfl,q1,q2,q3,q4⟩
   simp only [go_sem,↓reduceIte]
   try exact ⟨_,rfl⟩
  all_goals try simp only [go_sem,↓reduceIte,p1,p2,p3,p4]
theorem AaF (nm:ByteArray) (hnm:nm.size<=1000) (vals:Int) (ini thr:List (List VV)) (ask:Int) (c:List VV) (hc:GC c):VP V Wq [.ag ([.s nm,.i .i64 vals,.ls ini,.ls thr,.i .i64 ask]++c)] fun x=>∃ k:Int,x = .i .i64 k:=by
  cases hc
  rw [Ad C.c_z214.1 C.c_z214.2]
  simp only [A0s,go_sem,↓reduceIte,A0]
  refine (MC C nm hnm).mono ?_
  rintro _ ⟨b,rfl⟩
  cases b<;>simp only [go_sem,↓reduceIte,A0]
  all_goals repeat' first
            | (refine BT (fun hx=>?_) (fun hx=>?_)<;>simp only [go_sem,↓reduceIte,hx,A0])
            | (refine BI (fun hx=>?_) (fun hx=>?_)<;>simp only [go_sem,↓reduceIte,hx,A0])
            | (refine Bp (fun hx=>?_) (fun hx=>?_)<;>simp only [go_sem,↓reduceIte,hx,A0])
  all_goals try exact ⟨_,rfl⟩
abbrev LOo (locs:List ByteArray):Option VO:=some (AW YZ 1 (locs.map eS))
abbrev WKo (vals:Int) (nl:Nat) (kn:VV) (n part:Int):Option VO:=some ⟨RL,0,0,false,[[.i .i64 vals,.sl 0 nl 0 nl,kn,.i .i64 n,.i .i64 part]]⟩
def KN (kn:VV):Prop:=∃ l:List ByteArray,l.length<=4/\(kn=lS l\/(kn = .nl/\l=[]))
def HW (locs:List ByteArray) (RG:Option VO) (vals:Int) (nl:Nat) (part:Int) (r h:VH):Prop:=∃ (kn:VV) (n:Int) (s:VH),KN kn/\h=LOo locs::RG::WKo vals nl kn n part::(r++s)
def isI (v:VV):Prop:=∃ k:Int,v = .i .i64 k
omit C in
theorem KN.bel {kn:VV} (h:KN kn) {L:Nat}:bel L kn=true:=by
 obtain ⟨l,_,rfl | ⟨rfl,_⟩⟩:=h<;>rfl
theorem Ack (lc:List ByteArray) (locs:List ByteArray) (nl:Nat) (hnl:nl=locs.length) (hlo:locs.length<=1000) (vals:Int) (RG:Option VO) (part ifs:Int) (row:List VV) (hr:GS lc row) (kn:VV) (hkn:KN kn) (n:Int) (r:VH) :
    NR V Jr [.p 2 0 0 0,.ag row,.i .i64 ifs] (LOo locs::RG::WKo vals nl kn n part::r) fun v h'=>isI v/\HW locs RG vals nl part r h':=by
  cases hr with
  | mk kind mode reg loc args th el ha1 ha2 ht1 ht2 ht3 ht4 hok =>
  have h3:=hok.rs
  subst hnl
  rw [GN C.h_z244]
  simp only [L7]
  refine Cn (J:=fun F h=>HW locs RG vals locs.length part r h/\A4.tmp F 0 = .p 2 0 0 0/\A4.tmp F 2 = .i .i64 ifs/\A4.tmp F 4 = .fp (rS kind mode reg loc args th el) 0) ?_ ?_
  · simp only [go_sem, ↓reduceIte]
    exact ⟨kn,n,[],hkn,by simp⟩
  rintro F h ⟨⟨kn,n,s,hkn,rfl⟩,p0,p2,p4⟩
  refine Cn (J:=fun F h=>HW locs RG vals locs.length part r h/\A4.tmp F 0 = .p 2 0 0 0/\A4.tmp F 2 = .i .i64 ifs/\A4.tmp F 4 = .fp (rS kind mode reg loc args th el) 0) ?_ ?_
  · simp only [go_sem, ↓reduceIte, p0, p2, p4]
    exact ⟨_,_,_,hkn,rfl⟩
  rintro F h ⟨⟨kn,n,s,hkn,rfl⟩,p0,p2,p4⟩
  refine Cn (J:=fun F h=>HW locs RG vals locs.length part r h/\A4.tmp F 0 = .p 2 0 0 0/\A4.tmp F 2 = .i .i64 ifs/\A4.tmp F 4 = .fp (rS kind mode reg loc args th el) 0) ?_ ?_
  · simp only [go_sem, ↓reduceIte, p0, p2, p4]
    repeat' first
    | (refine BT (fun hx=>?_) (fun hx=>?_)<;>simp only [go_sem,↓reduceIte,hx,p0,p2,p4])
    | (refine BI (fun hx=>?_) (fun hx=>?_)<;>simp only [go_sem,↓reduceIte,hx,p0,p2,p4])
    | (refine Bp (fun hx=>?_) (fun hx=>?_)<;>simp only [go_sem,↓reduceIte,hx,p0,p2,p4])
    all_goals first | exact ⟨_,_,_,hkn,rfl⟩ | exact ⟨⟨_,rfl⟩,_,_,_,hkn,rfl⟩
  rintro F h ⟨⟨kn,n,s,hkn,rfl⟩,p0,p2,p4⟩
  refine Cn (J:=fun F h=>HW locs RG vals locs.length part r h/\A4.tmp F 0 = .p 2 0 0 0/\A4.tmp F 2 = .i .i64 ifs/\A4.tmp F 4 = .fp (rS kind mode reg loc args th el) 0/\isI (A4.tmp F 7)) ?_ ?_
  · simp only [go_sem, ↓reduceIte, p0, p2, p4]
    exact ⟨⟨_,_,_,hkn,rfl⟩,⟨_,rfl⟩⟩
  rintro F h ⟨⟨kn,n,s,hkn,rfl⟩,p0,p2,p4,k7,p7⟩
  refine Cn (J:=fun F h=>HW locs RG vals locs.length part r h/\A4.tmp F 0 = .p 2 0 0 0/\A4.tmp F 2 = .i .i64 ifs/\A4.tmp F 4 = .fp (rS kind mode reg loc args th el) 0/\isI (A4.tmp F 7)) ?_ ?_
  · simp only [go_sem, ↓reduceIte, p0, p2, p4, p7, A0]
    repeat' first
    | (refine BT (fun hx=>?_) (fun hx=>?_)<;>simp only [go_sem,↓reduceIte,hx,p0,p2,p4,p7,A0])
    | (refine BI (fun hx=>?_) (fun hx=>?_)<;>simp only [go_sem,↓reduceIte,hx,p0,p2,p4,p7,A0])
    | (refine Bp (fun hx=>?_) (fun hx=>?_)<;>simp only [go_sem,↓reduceIte,hx,p0,p2,p4,p7,A0])
    all_goals first | exact ⟨⟨_,_,_,hkn,rfl⟩,⟨_,rfl⟩⟩ | skip
  rintro F h ⟨⟨kn,n,s,hkn,rfl⟩,p0,p2,p4,k7,p7⟩
  obtain ⟨_,⟨bm,rfl⟩,qm⟩:=Cr (Acj C kind mode)
  refine Cn (J:=fun F h=>HW locs RG vals locs.length part r h/\A4.tmp F 0 = .p 2 0 0 0/\A4.tmp F 2 = .i .i64 ifs/\A4.tmp F 4 = .fp (rS kind mode reg loc args th el) 0) ?_ ?_
  · cases bm <;> simp only [go_sem, ↓reduceIte, p0, p2, p4, p7, qm]
    all_goals repeat' first
              | (refine BT (fun hx=>?_) (fun hx=>?_)<;>simp only [go_sem,↓reduceIte,hx,p0,p2,p4,p7,qm])
              | (refine BI (fun hx=>?_) (fun hx=>?_)<;>simp only [go_sem,↓reduceIte,hx,p0,p2,p4,p7,qm])
              | (refine Bp (fun hx=>?_) (fun hx=>?_)<;>simp only [go_sem,↓reduceIte,hx,p0,p2,p4,p7,qm])
    all_goals first | exact ⟨_,_,_,hkn,rfl⟩ | exact ⟨⟨_,rfl⟩,_,_,_,hkn,rfl⟩
  rintro F h ⟨⟨kn,n,s,hkn,rfl⟩,p0,p2,p4⟩
  refine Cn (J:=fun F h=>HW locs RG vals locs.length part r h/\A4.tmp F 0 = .p 2 0 0 0/\A4.tmp F 2 = .i .i64 ifs/\A4.tmp F 4 = .fp (rS kind mode reg loc args th el) 0/\KN (A4.tmp F 8)) ?_ ?_
  · simp only [go_sem, ↓reduceIte, p0, p2, p4]
    exact ⟨⟨_,_,_,hkn,rfl⟩,hkn⟩
  rintro F h ⟨⟨kn,n,s,hkn,rfl⟩,p0,p2,p4,h8⟩
  obtain ⟨_,⟨bn,rfl⟩,qn⟩:=Cr (MC C reg h3)
  refine Cn (J:=fun F h=>HW locs RG vals locs.length part r h/\A4.tmp F 0 = .p 2 0 0 0/\A4.tmp F 2 = .i .i64 ifs/\A4.tmp F 4 = .fp (rS kind mode reg loc args th el) 0/\KN (A4.tmp F 8)) ?_ ?_
  · have q1 := fun Q => DC C locs reg hlo (Q := Q)
    have q0:=fun Q=>DC C [] reg (by simp) (Q:=Q)
    simp only [lS,map_nil,any_nil] at q0
    obtain ⟨l8,h0,e8⟩:=h8
    have q2:=fun Q=>DC C l8 reg (by omega) (Q:=Q)
    have b0:l8.length * 16<=Aa:=by unfold Aa;omega
    have b1:(l8.length+1) * 16<=Aa:=by unfold Aa;omega
    have b2:(0+1) * 16<=Aa:=by unfold Aa;omega
    have h8:KN (A4.tmp F 8):=⟨l8,h0,e8⟩
    cases c0:Jy kind with
    | false =>
      simp only [go_sem,↓reduceIte,p0,p2,p4,CL C,c0]
      repeat' first
      | (refine BT (fun hx=>?_) (fun hx=>?_)<;>simp only [go_sem,↓reduceIte,hx,p0,p2,p4])
      | (refine BI (fun hx=>?_) (fun hx=>?_)<;>simp only [go_sem,↓reduceIte,hx,p0,p2,p4])
      | (refine Bp (fun hx=>?_) (fun hx=>?_)<;>simp only [go_sem,↓reduceIte,hx,p0,p2,p4])
      all_goals first | exact ⟨⟨_,_,_,hkn,rfl⟩,h8⟩ | exact ⟨⟨_,rfl⟩,_,_,_,hkn,rfl⟩
    | true =>
      cases bn with
      | false =>
        simp only [go_sem,↓reduceIte,p0,p2,p4,CL C,c0,qn]
        exact ⟨⟨_,rfl⟩,_,_,_,hkn,rfl⟩
      | true =>
        cases c1:locs.any fun y=>decide (reg=y) with
        | true =>
          simp only [go_sem,↓reduceIte,p0,p2,p4,CL C,c0,qn,q1,c1]
          exact ⟨⟨_,rfl⟩,_,_,_,hkn,rfl⟩
        | false =>
          rcases e8 with p8 | ⟨p8,rfl⟩
          · cases c2:l8.any fun y=>decide (reg=y) with
            | true =>
              simp only [go_sem,↓reduceIte,p0,p2,p4,p8,CL C,c0,qn,q1,c1,q2,c2]
              exact ⟨⟨_,_,_,hkn,rfl⟩,⟨l8,h0,.inl rfl⟩⟩
            | false =>
              cases c3:decide ((l8.length:Int)=4) with
              | true =>
                simp only [go_sem,↓reduceIte,p0,p2,p4,p8,CL C,c0,qn,q1,c1,q2,c2,c3]
                exact ⟨⟨_,rfl⟩,_,_,_,hkn,rfl⟩
              | false =>
                have h4:¬ (l8.length:Int)=4:=by simpa using c3
                simp only [go_sem,↓reduceIte,p0,p2,p4,p8,CL C,c0,qn,q1,c1,q2,c2,c3,b0,b1]
                exact ⟨⟨_,_,s++[none],⟨l8++[reg],by simp;omega,.inl rfl⟩,rfl⟩,⟨l8,h0,.inl rfl⟩⟩
          · simp only [go_sem, ↓reduceIte, p0, p2, p4, p8, CL C, c0, qn, q1, c1, q0, b2]
            exact ⟨⟨_,_,s++[none],⟨[reg],by simp,.inl rfl⟩,rfl⟩,⟨[],by simp,.inr ⟨rfl,rfl⟩⟩⟩
  rintro F h ⟨⟨kn,n,s,hkn,rfl⟩,p0,p2,p4,h8⟩
  refine Cn (J:=fun F h=>HW locs RG vals locs.length part r h/\A4.tmp F 0 = .p 2 0 0 0/\A4.tmp F 2 = .i .i64 ifs/\A4.tmp F 4 = .fp (rS kind mode reg loc args th el) 0/\KN (A4.tmp F 8)) ?_ ?_
  · have q1 := fun Q => DC C locs loc hlo (Q := Q)
    simp only [go_sem,↓reduceIte,p0,p2,p4,A0,q1]
    repeat' first
    | (refine BT (fun hx=>?_) (fun hx=>?_)<;>simp only [go_sem,↓reduceIte,hx,p0,p2,p4,A0,q1])
    | (refine BI (fun hx=>?_) (fun hx=>?_)<;>simp only [go_sem,↓reduceIte,hx,p0,p2,p4,A0,q1])
    | (refine Bp (fun hx=>?_) (fun hx=>?_)<;>simp only [go_sem,↓reduceIte,hx,p0,p2,p4,A0,q1])
    all_goals first | exact ⟨⟨_,_,_,hkn,rfl⟩,h8⟩ | exact ⟨⟨_,rfl⟩,_,_,_,hkn,rfl⟩
  rintro F h ⟨⟨kn,n,s,hkn,rfl⟩,p0,p2,p4,h8⟩
  simp only [go_sem,↓reduceIte,p0,p2,p4]
  refine Ab (by decide) args.length (by omega) (I:=fun k F h=>HW locs RG vals locs.length part r h/\A4.tmp F 0 = .p 2 0 0 0/\A4.tmp F 4 = .fp (rS kind mode reg loc args th el) 0/\KN (A4.tmp F 8)) ?_ ?_ ?_ 0 _ _ (zero_le _) ?_ ?_
  · rintro k F h hk q0 ⟨⟨kn, n, s, hkn, rfl⟩, p0, p4, h8⟩
    simp only [go_sem,↓reduceIte,q0,p0,p4]
    exact ⟨⟨_,_,_,hkn,rfl⟩,h8⟩
  · rintro k F h hk q0 ⟨⟨kn, n, s, hkn, rfl⟩, p0, p4, l8, h0, e8⟩
    have hg:=ha2 _ (getElem_mem hk)
    obtain ⟨_,⟨d,rfl⟩,qd⟩:=Cr (AaE C _ hg)
    obtain ⟨_,⟨ex,rfl⟩,qe⟩:=Cr (XX C vals l8 (by omega) _ hg)
    obtain ⟨_,⟨h2,rfl⟩,h1⟩:=Cr (XX C vals [] (by simp) _ hg)
    simp only [lS,map_nil] at h1
    cases c0:decide (6 < d) with
    | true =>
      simp only [go_sem,↓reduceIte,q0,p0,p4,A2B hk,hg.len,hg.take,hg.frz,qd,c0]
      exact ⟨⟨_,rfl⟩,_,_,_,hkn,rfl⟩
    | false =>
      rcases e8 with p8 | ⟨p8,rfl⟩
      · cases c1 : decide (ex = 0) <;>
        simp only [go_sem,↓reduceIte,q0,p0,p4,p8,A2B hk,hg.len,hg.take,hg.frz,qd,qe,c0,c1]
        · exact ⟨⟨_,rfl⟩,_,_,_,hkn,rfl⟩
        · exact ⟨⟨_,_,_,hkn,rfl⟩,⟨l8,h0,.inl rfl⟩⟩
      · cases c1 : decide (h2 = 0) <;>
        simp only [go_sem,↓reduceIte,q0,p0,p4,p8,A2B hk,hg.len,hg.take,hg.frz,qd,h1,c0,c1]
        · exact ⟨⟨_,rfl⟩,_,_,_,hkn,rfl⟩
        · exact ⟨⟨_,_,_,hkn,rfl⟩,⟨[],by simp,.inr ⟨rfl,rfl⟩⟩⟩
  · rintro F h ⟨⟨kn, n, s, hkn, rfl⟩, p0, p4, h8⟩
    simp only [go_sem,↓reduceIte]
    exact ⟨⟨_,rfl⟩,_,_,_,hkn,rfl⟩
  · simp only [go_sem,↓reduceIte]
  · simp only [go_sem, ↓reduceIte, p0, p2, p4]
    exact ⟨⟨_,_,_,hkn,rfl⟩,h8⟩
def HW2 (locs:List ByteArray) (RG:Option VO) (vals:Int) (r h:VH):Prop:=∃ part,HW locs RG vals locs.length part r h
def Aeb (V:At) (locs:List ByteArray) (RG:Option VO) (vals:Int) (l:List (List VV)):Prop:=∀ (ifs:Int) (kn:VV) (n part:Int) (r:VH),KN kn ->
 NR V Wv [.p 2 0 0 0,.ls l,.i .i64 ifs] (LOo locs::RG::WKo vals locs.length kn n part::r) fun v h'=>isI v/\HW2 locs RG vals r h'
theorem Km (lc locs:List ByteArray) (hlo:locs.length<=1000) (vals:Int) (RG:Option VO) (l:List (List VV)) (hl:l.length<=1000) (hs:∀ s∈l,GS lc s/\∃ kind mode reg loc args th el,s=rS kind mode reg loc args th el/\Aeb V locs RG vals th/\Aeb V locs RG vals el):Aeb V locs RG vals l:=by
 intro h7 kn n h0 r h1
 rw [GN C.h_z217]
 simp only [A0u,go_sem,↓reduceIte]
 refine Ab (by decide) l.length (by omega) (I:=fun k F h=>HW2 locs RG vals r h/\A4.tmp F 0 = .p 2 0 0 0/\A4.tmp F 1 = .ls l/\A4.tmp F 2 = .i .i64 h7) ?_ ?_ ?_ 0 _ _ (zero_le _) ?_ ?_
 .rintro k F h hk q0 ⟨⟨h0,kn,n,s,h1,rfl⟩,p0,p1,p2⟩
  simp only [go_sem,↓reduceIte,q0,p0,p1,p2]
  exact ⟨_,_,_,_,h1,rfl⟩
 .rintro k F h hk q0 ⟨⟨h0,kn,n,s,h1,rfl⟩,p0,p1,p2⟩
  obtain ⟨hg,kind,mode,reg,loc,args,th,el,e,a1,a2⟩:=hs _ (getElem_mem hk)
  have h3:=A2B hk
  rw [e] at h3
  rw [e] at hg
  obtain ⟨_,_,⟨⟨e1,rfl⟩,h9,n1,s1,h4,rfl⟩,c1⟩:=EC (Ack C lc locs locs.length rfl hlo vals RG h0 h7 _ hg kn h1 n (r++s))
  obtain ⟨_,_,⟨⟨e2,rfl⟩,h6,ha,n2,s2,h5,rfl⟩,c2⟩:=EC (a1 (IntKind.i64.wrap (h7+1)) h9 n1 (IntKind.i64.wrap (h0+1)) (r++(s++s1)) h4)
  obtain ⟨_,_,⟨⟨e3,rfl⟩,h8,hb,n3,s3,h2,rfl⟩,c3⟩:=EC (a2 (IntKind.i64.wrap (h7+1)) ha n2 h6 (r++(s++(s1++s2))) h5)
  simp only [append_assoc] at c1 c2 c3
  cases z1:decide (e1=0) with
  | false =>
   simp only [go_sem,↓reduceIte,q0,p0,p1,p2,h3,c1,z1]
   exact ⟨⟨_,rfl⟩,_,_,_,_,h4,rfl⟩
  | true =>
   cases z2:decide (e2=0) with
   | false =>
    simp only [go_sem,↓reduceIte,q0,p0,p1,p2,h3,c1,z1,c2,z2]
    exact ⟨⟨_,rfl⟩,_,_,_,_,h5,rfl⟩
   | true =>
    cases z3:decide (e3=0) with
    | false =>
     simp only [go_sem,↓reduceIte,q0,p0,p1,p2,h3,c1,z1,c2,z2,c3,z3]
     exact ⟨⟨_,rfl⟩,_,_,_,_,h2,rfl⟩
    | true =>
     simp only [go_sem,↓reduceIte,q0,p0,p1,p2,h3,c1,z1,c2,z2,c3,z3]
     exact ⟨.inr h2.bel,_,_,_,_,h2,rfl⟩
 .rintro F h ⟨⟨h0,kn,n,s,h1,rfl⟩,p0,p1,p2⟩
  simp only [go_sem,↓reduceIte]
  exact ⟨⟨_,rfl⟩,_,_,_,_,h1,rfl⟩
 .simp only [go_sem,↓reduceIte]
 .simp only [go_sem,↓reduceIte]
  exact ⟨h0,kn,n,[],h1,by simp⟩
theorem AaC {lc locs:List ByteArray} (hlo:locs.length<=1000) {vals:Int} {RG:Option VO} {r:List VV} (h:GS lc r):∃ kind mode reg loc args th el,r=rS kind mode reg loc args th el/\Aeb V locs RG vals th/\Aeb V locs RG vals el:=by
 induction h with
 | mk kind mode reg loc args th el h1 h2 h3 h4 h5 h6 h7 ih1 ih2=>exact ⟨kind,mode,reg,loc,args,th,el,rfl,Km C lc locs hlo vals RG th h3 fun s hs=>⟨h5 s hs,ih1 s hs⟩,Km C lc locs hlo vals RG el h4 fun s hs=>⟨h6 s hs,ih2 s hs⟩⟩
theorem Aci {lc locs:List ByteArray} (hlo:locs.length<=1000) {vals:Int} {RG:Option VO} (l:List (List VV)) (hl:l.length<=1000) (h:∀ s∈l,GS lc s):Aeb V locs RG vals l :=
 Km C lc locs hlo vals RG l hl fun s hs=>⟨h s hs,AaC C hlo (h s hs)⟩
def RG2 (L:List ByteArray) (k:Nat) (h:VH):Prop:=∃ rg:List (List ByteArray),rg.length=k/\(∀ l∈rg,l.length<=4)/\h=[some (AW YZ 1 (L.map eS)),some (AW C7 1 (rg.map JE))]
omit C in
theorem Ja {ty e v:Nat} {α:Type} {xs:List α} {x:α} {f:α->List VV} (hv:v=xs.length+1):({ ty:=ty,esz:=e,ver:=v,nl:=false,rows:=(xs++[x]).map f }:VO)=AW ty e ((xs++[x]).map f):=by
 subst hv;exact KO
structure GP (nm:ByteArray) (vals:Int) (ini:List (ByteArray×Int)) (thr:List (List (List VV))) (ask:Int) (c:List VV):Prop where
 g1:nm.size<=1000
 g2:ini.length<=1000
 g3:∀ x∈ini,x.1.size<=1000
 g4:thr.length<=1000
 g5:∀ l∈thr,l.length<=1000/\∀ s∈l,GS (ini.map (·.1)) s
 g6:GC c
abbrev eCl (x:ByteArray×Int):List VV:=[.s x.1,.i .i64 x.2]
abbrev vPr (nm:ByteArray) (vals:Int) (ini:List (ByteArray×Int)) (thr:List (List (List VV))) (ask:Int) (c:List VV):VV:=.ag ([.s nm,.i .i64 vals,.ls (ini.map eCl),.ls (thr.map fun l=>[.ls l]),.i .i64 ask]++c)
theorem Ach (nm:ByteArray) (vals:Int) (ini:List (ByteArray×Int)) (thr:List (List (List VV))) (ask:Int) (c:List VV) (h:GP nm vals ini thr ask c):VP V VQ [vPr nm vals ini thr ask c] fun x=>∃ e k:Int,x = .tu [.i .i64 e,.i .i64 k]:=by
 obtain ⟨h1,h2,h3,h4,h5,hc⟩:=h
 rw [Ad C.c_z173.1 C.c_z173.2]
 obtain ⟨_,⟨e0,rfl⟩,qh⟩:=Cr (AaF C nm h1 vals (ini.map eCl) (thr.map fun l=>[.ls l]) ask c hc)
 cases hc with
 | mk op th cn n kids g1 g2 =>
 simp only [cons_append,nil_append] at qh
 cases z0:decide (e0=0) with
 | false =>
  simp only [S6,go_sem,↓reduceIte,qh,z0]
  exact ⟨_,_,rfl⟩
 | true =>
 simp only [S6,go_sem,↓reduceIte,qh,z0]
 have ha:∀ k,k<=ini.length->((ini.take k).map (·.1)).length=k:=fun k hk=>by simp;omega
 refine Ab (by decide) ini.length (by omega) (I:=fun k F h=>h=[some (AW YZ 1 (((ini.take k).map (·.1)).map eS))]/\A4.tmp F 1=(.fp [.s nm,.i .i64 vals,.ls (ini.map eCl),.ls (thr.map fun l=>[.ls l]),.i .i64 ask,.i .i64 op,.i .i64 th,.s cn,.i .i64 n,.ls kids] 0)/\A4.tmp F 5 = .sl 0 k 0 k) ?_ ?_ ?_ 0 _ _ (zero_le _) ?_ ?_
 .rintro k F h hk p0 ⟨rfl,p1,p5⟩
  simp only [go_sem,↓reduceIte,p0,p1,p5]
 .rintro k F h hk p0 ⟨rfl,p1,p5⟩
  have h8:=ha k (by omega)
  have h0:ini[k]? = some ini[k]:=getElem?_eq_getElem hk
  have hd:(ini.take (k+1)).map (·.1)=(ini.take k).map (·.1)++[ini[k].1]:=by rw [List.take_succ_eq_append_getElem hk,map_append];rfl
  obtain ⟨_,⟨bn,rfl⟩,qn⟩:=Cr (MC C ini[k].1 (h3 _ (getElem_mem hk)))
  have hb:=fun Q=>DC C ((ini.take k).map (·.1)) ini[k].1 (by omega) (Q:=Q)
  rw [hd]
  clear hd
  generalize hL:(ini.take k).map (·.1)=L at *
  have b1:(k+1) * 16<=Aa:=by unfold Aa;omega
  have h7:L.take k=L:=by rw [take_of_length_le];omega
  cases bn with
  | false =>
   simp only [go_sem,↓reduceIte,p0,p1,p5,h0,qn]
   try exact ⟨_,_,rfl⟩
  | true =>
   cases c1:L.any fun y=>decide (ini[k].1=y) with
   | true =>
    simp only [go_sem,↓reduceIte,p0,p1,p5,h0,qn,h8,hb,h7,c1]
    try exact ⟨_,_,rfl⟩
   | false =>
    cases c2:decide (ini[k].2 < 0)<;>cases c3:decide (vals<=ini[k].2) <;>
    simp only [go_sem,↓reduceIte,p0,p1,p5,h0,qn,h8,hb,h7,c1,c2,c3,b1]
    all_goals try exact ⟨_,_,rfl⟩
    exact congrArg (fun x=>[some x]) (Ja (by omega))
 .rintro F h ⟨rfl,p1,p5⟩
  rw [take_length]
  simp only [go_sem,↓reduceIte,p1,p5]
  generalize hL:ini.map (·.1)=L at *
  have hf:L.length=ini.length:=by rw [<- hL];simp
  have he:L.take L.length=L:=take_length
  rw [<- hf] at p5
  refine Ab (by decide) thr.length (by omega) (I:=fun k F h=>RG2 L k h/\A4.tmp F 1=(.fp [.s nm,.i .i64 vals,.ls (ini.map eCl),.ls (thr.map fun l=>[.ls l]),.i .i64 ask,.i .i64 op,.i .i64 th,.s cn,.i .i64 n,.ls kids] 0)/\A4.tmp F 5 = .sl 0 L.length 0 L.length/\A4.tmp F 9 = .sl 1 k 0 k/\isI (A4.tmp F 8)) ?_ ?_ ?_ 0 _ _ (zero_le _) ?_ ?_
  .rintro k F h hk q0 ⟨h6,q1,q5,q9,q8⟩
   simp only [go_sem,↓reduceIte,q0,q1,q5,q9]
   exact ⟨h6,q8⟩
  .rintro k F h hk q0 ⟨⟨rg,h6,h9,rfl⟩,q1,q5,q9,pt,q8⟩
   obtain ⟨m1,m2⟩:=h5 _ (getElem_mem hk)
   have h0:thr[k]? = some thr[k]:=getElem?_eq_getElem hk
   obtain ⟨_,_,⟨⟨e1,rfl⟩,hj,kn,n1,s,⟨lk,h8,hg⟩,rfl⟩,c1⟩:=EC (Aci C (locs:=L) (by omega) (vals:=vals) (RG:=some (AW C7 1 (rg.map JE))) thr[k] m1 m2 0 .nl 0 pt [] ⟨[],by simp,.inr ⟨rfl,rfl⟩⟩)
   have b1:(k+1) * 24<=Aa:=by unfold Aa;omega
   have hi:(rg.map JE).length=k:=by simp [h6]
   simp only [nil_append] at c1
   cases z1:decide (e1=0) with
   | false =>
    simp only [go_sem,↓reduceIte,q0,q1,q5,q9,q8,h0,c1,z1]
    try exact ⟨_,_,rfl⟩
   | true =>
    rcases hg with rfl | ⟨rfl,rfl⟩
    .simp only [go_sem,↓reduceIte,q0,q1,q5,q9,q8,h0,c1,z1,b1,h6]
     have e:rg.map JE++[[VV.ls (List.map eS lk)]]=(rg++[lk]).map JE:=by simp
     refine ⟨.inr ?_,⟨rg++[lk],by simp [h6],fun l hl=>?_,?_⟩,⟨_,rfl⟩⟩
     .rw [e];exact JJ fun x=>rfl
     .rcases List.mem_append.1 hl with h | h
      .exact h9 l h
      .rw [List.mem_singleton.1 h];simpa using h8
     .rw [e];exact congrArg (fun x=>[LOo L,some x]) (Ja (by omega))
    .simp only [go_sem,↓reduceIte,q0,q1,q5,q9,q8,h0,c1,z1,b1,h6]
     have e:rg.map JE++[[VV.ls []]]=(rg++[([]:List ByteArray)]).map JE:=by simp
     refine ⟨.inr ?_,⟨rg++[([]:List ByteArray)],by simp [h6],fun l hl=>?_,?_⟩,⟨_,rfl⟩⟩
     .rw [e];exact JJ fun x=>rfl
     .rcases List.mem_append.1 hl with h | h
      .exact h9 l h
      .rw [List.mem_singleton.1 h];simpa using h8
     .rw [e];exact congrArg (fun x=>[LOo L,some x]) (Ja (by omega))
  .rintro F h ⟨⟨rg,h6,h9,rfl⟩,q1,q5,q9,pt,q8⟩
   have hh:rg.take thr.length=rg:=by rw [take_of_length_le];omega
   obtain ⟨_,⟨d,rfl⟩,qd⟩:=Cr (Ym C _ (GC.mk op th cn n kids g1 g2))
   obtain ⟨_,⟨ce,rfl⟩,qc⟩:=Cr (AaD C vals L (by omega) rg (by omega) (fun l hl=>by have:=h9 l hl;omega) _ (GC.mk op th cn n kids g1 g2))
   cases z1:decide (6 < d)<;>cases z2:decide (ce=0)<;>cases z3:decide (ask=1)<;>cases z4:decide (ask=2) <;>
   simp only [go_sem,↓reduceIte,q1,q5,q9,q8,qd,qc,z1,z2,z3,z4,h6,hh,he]
   all_goals try exact ⟨_,_,rfl⟩
  .simp only [go_sem,↓reduceIte]
  .simp only [go_sem,↓reduceIte,p1,p5]
   exact ⟨⟨[],rfl,by simp,rfl⟩,⟨_,rfl⟩⟩
 .simp only [go_sem,↓reduceIte]
 .simp only [go_sem,↓reduceIte]
end
structure PP where
 nm:ByteArray
 vals:Int
 ini:List (ByteArray×Int)
 thr:List (List (List VV))
 ask:Int
 op:Int
 th:Int
 cn:ByteArray
 n:Int
 kids:List (List VV)
abbrev eN0 (n:AX):List VV:=[.i .i64 n.thread,.i .i64 n.up,.i .i64 n.kind,.i .i64 n.loc,.i .i64 n.mode,.i .i64 n.val,.b n.rmw,.b n.fin,.nl]
abbrev eT0:Option VO:=some ⟨Pu,0,0,false,[[.i .i64 0,.nl,.nl,.nl]]⟩
abbrev eBd (p:PP) (locs:List ByteArray) (rg:List (List ByteArray)) (ns:List AX) (th:Int) (long:Bool):Option VO:=some ⟨M3,0,0,false,[[.s p.nm,.i .i64 p.vals,.ls (p.ini.map eCl),.ls (p.thr.map fun l=>[.ls l]),.i .i64 p.ask,.i .i64 p.op,.i .i64 p.th,.s p.cn,.i .i64 p.n,.ls p.kids,.i .i64 p.vals,.sl 1 locs.length 0 locs.length,.sl 2 rg.length 0 rg.length,.sl 3 ns.length 0 ns.length,.i .i64 th,.b long]]⟩
abbrev eNs (ns:List AX):Option VO:=some (AW Ck 9 (ns.map eN))
abbrev eRg (rg:List (List ByteArray)):Option VO:=some (AW C7 1 (rg.map JE))
abbrev hB (p:PP) (locs:List ByteArray) (rg:List (List ByteArray)) (ns:List AX) (th:Int) (long:Bool) (r:VH):VH:=eT0::LOo locs::eRg rg::eNs ns::eBd p locs rg ns th long::r
theorem MN {ty e:Nat} {rows:List (List VV)} (h:rows.length≠0):AW ty e rows = { ty:=ty,esz:=e,ver:=rows.length,nl:=false,rows:=rows }:=by
 unfold AW;rw [if_neg h]
theorem G8 {ty e:Nat} {rows:List (List VV)} (h:rows.length≠0):(decide ((AW ty e rows).esz=e) && !(AW ty e rows).nl)=true:=by rw [MN h];simp
section
variable {V:At} (C:Aq V) {Q:VV->Prop}
include C
theorem QK (p:PP) (locs:List ByteArray) (rg:List (List ByteArray)) (ns:List AX) (th:Int) (long:Bool) (r:VH) (n:AX) (hr:n.regs=[]) (hn:ns.length < 64) {Q:VV->VH->Prop} :
  NR V Qf [.p 4 0 0 0,.ag (eN0 n)] (hB p locs rg ns th long r) Q↔Q (.i .i64 (ns.length:Nat)) (hB p locs rg (ns++[n]) th long r):=by
 refine Pv ?_
 rw [GN C.h_z175]
 have h1:¬ (64:Int)<=ns.length:=by omega
 have h2:(ns.length+1) * 80<=Aa:=by unfold Aa;omega
 have w:IntKind.i64.wrap (((ns.length+1:Nat):Int) - 1)=((ns.length:Nat):Int):=by rw [Az (by omega) (by omega)];omega
 simp only [S7,go_sem,↓reduceIte,h1,h2,w]
 have er:VV.ls []=lI n.regs:=by rw [hr];rfl
 rw [er]
 have e:List.map eN ns++[eN n]=(ns++[n]).map eN:=by simp
 have e2:({ ty:=Ck,esz:=9,ver:=ns.length+1,nl:=false,rows:=List.map eN ns++[eN n] }:VO)=AW Ck 9 ((ns++[n]).map eN):=by
  rw [e];exact Ja rfl
 have e3:(ns++[n]).length=ns.length+1:=by simp
 rw [e2]
 simp only [hB,eBd,e3]
theorem DT (p:PP) (locs:List ByteArray) (rg:List (List ByteArray)) (ns:List AX) (th:Int) (long:Bool) (r:VH) (n:AX) (hn:64<=ns.length) {Q:VV->VH->Prop} :
  NR V Qf [.p 4 0 0 0,.ag (eN0 n)] (hB p locs rg ns th long r) Q↔Q (.i .i64 0) (hB p locs rg ns th true r):=by
 refine Pv ?_
 rw [GN C.h_z175]
 have h1:(64:Int)<=ns.length:=by omega
 simp only [S7,go_sem,↓reduceIte,h1]
theorem MQ (p:PP) (locs:List ByteArray) (rg:List (List ByteArray)) (ns:List AX) (th:Nat) (hth:th < rg.length) (long:Bool) (r:VH) (regs:List Int) (e:List VV) (he:GE e) {k:Int} {b:Bool}
  (qe:∀ Q':VV->Prop,VP V Qo [.ag e,lS (rg.getD th []),lI regs,.i .i64 p.vals] Q'↔Q' (.tu [.i .i64 k,.b b])) {Q:VV->VH->Prop} :
  Hs V WA [.p 4 0 0 0,.ag e,lI regs] (hB p locs rg ns th long r) Q↔Q (.i .i64 k) (hB p locs rg ns th long r):=by
 refine Dn ?_
 rw [Cm C.h_z224]
 have ht:=Md hth
 have hx:=G8 (ty:=C7) (e:=1) (rows:=rg.map JE) (by rw [length_map];omega)
 simp only [A0A,go_sem,↓reduceIte,he.len,he.take,he.frz,he.cell,ht,hth,hx,qe]
omit C in
@[go_sem] theorem Asu (xs:List Int) (i:Nat) (v:Int):(xs.map eI).set i [.i .i64 v]=(xs.set i v).map eI:=by rw [List.map_set]
theorem A8p (p:PP) (locs:List ByteArray) (rg:List (List ByteArray)) (ns:List AX) (th:Nat) (hth:th < rg.length) (hrl:(rg.getD th []).length<=1000) (long:Bool) (r:VH) (regs:List Int) (hregs:regs.length=(rg.getD th []).length) (nm:ByteArray) (v:Int) (hin:nm∈rg.getD th []) :
  Hs V Wz [.p 4 0 0 0,lI regs,.s nm,.i .i64 v] (hB p locs rg ns th long r) fun x h=>∃ k,k < regs.length/\x=lI (regs.set k v)/\h=hB p locs rg ns th long r:=by
 rw [Cm C.h_z223]
 have ht:=Md hth
 have hx:=G8 (ty:=C7) (e:=1) (rows:=rg.map JE) (by rw [length_map];omega)
 have hq:=fun Q=>Gp C (rg.getD th []) nm hrl (Q:=Q)
 obtain ⟨k,e,hk,_⟩:=Kw (p:=fun y=>decide (nm=y)) (l:=rg.getD th []) (by rw [any_eq_true];exact ⟨nm,hin,by simp⟩)
 have h0:k < regs.length:=by omega
 have h1:regs.length * 8<=Aa:=by unfold Aa;omega
 rw [e] at hq
 simp only [A0z,go_sem,↓reduceIte,h1,ht,hth,hx,hq,h0,getElem?_eq_getElem h0,List.length_set,(show (regs.set k v).take regs.length=regs.set k v by rw [take_of_length_le];simp)]
 exact ⟨k,h0,rfl⟩
theorem Aro (p:PP) (locs:List ByteArray) (rg:List (List ByteArray)) (ns:List AX) (n:AX) (th:Int) (long:Bool) (r:VH) (a:Nat) (ha:a=ns.length) (hn:ns.length < 64) (regs:List Int) (hr:regs.length<=1000) :
  NR V Jq [.p 4 0 0 0,.i .i64 a,lI regs] (hB p locs rg (ns++[n]) th long r) fun x h=>x = .tu []/\∃ s,h=hB p locs rg (ns++[{ n with fin:=true,regs:=regs }]) th long (r++s):=by
 subst ha
 rw [GN C.h_z221]
 have hx:=G8 (ty:=Ck) (e:=9) (rows:=(ns++[n]).map eN) (by simp)
 have h1:regs.length * 8<=Aa:=by unfold Aa;omega
 have h2:ns.length < ns.length+1:=by omega
 have h3:(ns++[n])[ns.length]? = some n:=by simp
 have h4:∀ row,(List.map eN (ns++[n])).set ns.length row=ns.map eN++[row]:=fun row=>by
  rw [map_append,set_append_right _ _ (by simp)];simp
 have h5:∀ row:List VV,(ns.map eN++[row])[ns.length]? = some row:=fun row=>by
  rw [List.getElem?_append_right (by simp)];simp
 have h6:∀ row row':List VV,(ns.map eN++[row]).set ns.length row' = ns.map eN++[row']:=fun row row'=>by
  rw [set_append_right _ _ (by simp)];simp
 simp only [L5,go_sem,↓reduceIte,hx,h1,h2,h3,h4,h5,h6]
 refine ⟨[none],?_⟩
 have e1:=MN (ty:=Ck) (e:=9) (rows:=(ns++[n]).map eN) (by simp)
 have e2:=MN (ty:=Ck) (e:=9) (rows:=(ns++[{ n with fin:=true,regs:=regs }]).map eN) (by simp)
 simp only [hB,eNs,e1,e2]
 simp [eBd]
def fr:List (List (List VV))->VV
 | []=>.np
 | l::ls=>.fp [.ls l,fr ls] 0
omit C in
@[go_sem] theorem Ayj (L:Nat) (x:List (List (List VV))):QO L (fr x)=fr x:=by cases x<;>rfl
omit C in
@[go_sem] theorem Awy (L:Nat) (x:List (List (List VV))):bel L (fr x)=true:=by cases x<;>rfl
omit C in
@[go_sem] theorem Awz (h:VH) (d:Nat) (x:List (List (List VV))):frz h (d+1) (fr x)=some (fr x,[]):=by cases x<;>rfl
omit C in
@[go_sem] theorem AtX (x:List (List (List VV))):(fr x).cell=true:=by cases x<;>rfl
omit C in
@[go_sem] theorem ArM (x:List (List (List VV))):(fr x).cells=[fr x]:=by cases x<;>rfl
def LH:List (List (List VV))->List (List (List VV))
 | []::ls=>LH ls
 | ls=>ls
noncomputable def wt:List (List (List VV))->Nat
 | []=>0
 | l::ls=>SizeOf.sizeOf l+wt ls
omit C in
theorem Ab5:∀ fs,wt (LH fs)<=wt fs
 | []=>Nat.le_refl _
 | []::ls=>by rw [LH];have:=Ab5 ls;simp only [wt];omega
 | (s::l)::ls=>Nat.le_refl _
omit C in
theorem A3g:∀ {fs:List (List (List VV))} {l},l∈LH fs->l∈fs
 | []::ls,l,h=>by rw [LH] at h;exact mem_cons_of_mem _ (A3g h)
 | (s::l')::ls,l,h=>h
omit C in
theorem Zh:∀ fs,LH fs=[]\/∃ s l fs',LH fs=(s::l)::fs'
 | []=>.inl rfl
 | []::ls=>by rw [LH];exact Zh ls
 | (s::l)::ls=>.inr ⟨s,l,ls,rfl⟩
def Abi (p:PP) (locs:List ByteArray) (rg:List (List ByteArray)) (th:Nat) (ns:List AX) (n:AX) (r h:VH):Prop :=
 ∃ (ns':List AX) (long:Bool) (s:VH),h=hB p locs rg ns' th long (r++s)/\ns'.length<=64/\(long=false->A85 p.vals locs rg ns n ns')
omit C in
theorem Abi.more {p:PP} {locs:List ByteArray} {rg:List (List ByteArray)} {th:Nat} {ns:List AX} {n:AX} {r s h:VH} (k:Abi p locs rg th ns n (r++s) h):Abi p locs rg th ns n r h:=by
 obtain ⟨h3,h0,s',h1,h2⟩:=k
 exact ⟨h3,h0,s++s',by rw [h1,append_assoc],h2⟩
def RdI (p:PP) (locs:List ByteArray) (rg:List (List ByteArray)) (th:Nat) (ns:List AX) (n:AX) (lk:Nat) (mode:Int) (rm:Nat->Bool) (r:VH) (bx:Option VO) (x:Nat) (h:VH):Prop :=
 ∃ (nsv:List AX) (lg:Bool) (s:VH),h=hB p locs rg nsv th lg (r++bx::s)/\nsv.length<=64/\(lg=false->A8b p.vals locs rg ns n x lk mode rm nsv)
def Aja (locs names:List ByteArray) (fs:List (List (List VV))):Prop:=∀ l∈fs,l.length<=1000/\∀ s∈l,GS locs s/\RI names s
def AmQ (V:At) (p:PP) (locs:List ByteArray) (rg:List (List ByteArray)) (th:Nat) (fs:List (List (List VV))):Prop :=
 ∀ (ns:List AX) (n:AX) (regs:List Int) (r:VH),n.fin=false->n.regs=[]->n.thread=th->ns.length < 64->regs.length=(rg.getD th []).length->(∀ v∈regs,0<=v/\v < p.vals) ->
  NR V Jo [.p 4 0 0 0,fr fs,.i .i64 (ns.length:Nat),lI regs] (hB p locs rg (ns++[n]) th false r) fun v h=>v = .tu []/\Abi p locs rg th ns n r h
theorem Anh (p:PP) (hv:2<=p.vals/\p.vals<=4) (locs:List ByteArray) (hlo:locs.length<=1000) (rg:List (List ByteArray)) (th:Nat) (hth:th < rg.length) (hrl:(rg.getD th []).length<=1000) :
  ∀ w fs,wt fs<=w->Aja locs (rg.getD th []) fs->AmQ V p locs rg th fs:=by
 intro w
 induction w using Nat.strongRecOn with
 | ind w ih =>
 intro fs hw qy ns n regs r hf hr0 he qb h0 q0
 rw [GN C.h_z176]
 simp only [L3]
 refine Cn (J:=fun F h=>h=hB p locs rg (ns++[n]) th false r/\A4.tmp F 0 = .p 4 0 0 0/\A4.tmp F 2 = .i .i64 (ns.length:Nat)/\A4.tmp F 3=lI regs/\A4.tmp F 1=fr (LH fs)) ?_ ?_
 .rw [A0]
  refine AT (M:=List (List (List VV))) (I:=fun x F h=>h=hB p locs rg (ns++[n]) th false r/\A4.tmp F 0 = .p 4 0 0 0/\A4.tmp F 2 = .i .i64 (ns.length:Nat)/\A4.tmp F 3=lI regs/\A4.tmp F 1=fr x/\LH x=LH fs) (μ:=fun x=>x.length) ?_ fs _ _ ⟨rfl,?_,?_,?_,?_,rfl⟩
  .rintro x F h ⟨rfl,p0,p2,p3,p1,hx⟩
   rcases x with _ | ⟨_ | ⟨s,l⟩,x⟩
   .rw [fr] at p1
    simp only [YH,go_sem,↓reduceIte,p0,p1,p2,p3,A0]
    rw [<- hx];rfl
   .rw [fr] at p1
    simp only [YH,go_sem,↓reduceIte,p0,p1,p2,p3,A0]
    exact ⟨x,by omega,rfl,by rw [<- hx];rfl⟩
   .rw [fr] at p1
    have z:¬ ((l.length+1:Nat):Int)=0:=by omega
    simp only [YH,go_sem,↓reduceIte,p0,p1,p2,p3,A0,z]
    rw [<- hx];rfl
  all_goals simp only [go_sem,↓reduceIte]
 rintro F h ⟨rfl,p0,p2,p3,p1⟩
 have qc:=Ab5 fs
 have qf:Aja locs (rg.getD th []) (LH fs):=fun l hl=>qy l (A3g hl)
 rcases Zh fs with e | ⟨s,l,fs',e⟩
 .rw [e] at p1
  rw [fr] at p1
  obtain ⟨_,_,⟨rfl,s,rfl⟩,qe⟩:=EC (Aro C p locs rg ns n th false r ns.length rfl qb regs (by omega))
  simp only [go_sem,↓reduceIte,p0,p1,p2,p3,qe]
  exact ⟨_,false,s,rfl,by simp;omega,fun _=>Ahp he hth h0 q0⟩
 .rw [e] at p1 qc qf
  rw [fr] at p1
  obtain ⟨hl,qi⟩:=qf _ mem_cons_self
  obtain ⟨hg,ql⟩:=qi s mem_cons_self
  cases hg with
  | mk kind mode reg loc args tn el g1 g2 g3 g4 g5 g6 g7 =>
  have hh:Jy kind=true->reg∈rg.getD th []:=by cases ql with | mk _ _ _ _ _ _ _ q1 q2 q3=>exact q1
  have p6:∀ s∈tn,RI (rg.getD th []) s:=by cases ql with | mk _ _ _ _ _ _ _ q1 q2 q3=>exact q2
  have p5:∀ s∈el,RI (rg.getD th []) s:=by cases ql with | mk _ _ _ _ _ _ _ q1 q2 q3=>exact q3
  have ht:Aja locs (rg.getD th []) (l::fs'):=fun x hx=>by
   rcases List.mem_cons.1 hx with rfl | hx
   .exact ⟨by simp at hl;omega,fun s hs=>qi s (mem_cons_of_mem _ hs)⟩
   .exact qf x (mem_cons_of_mem _ hx)
  have p7:wt (l::fs') < w:=by simp only [wt,List.cons.sizeOf_spec] at qc ⊢;omega
  have qz:=Afn (c:=locs) (l:=rS kind mode reg loc args tn el::l) fun k hk=>(qi k hk).1
  have u1:1<=l.length+1:=by omega
  have lq:=fun Q=>Gp C locs loc hlo (Q:=Q)
  have IH:=ih _ p7 (l::fs') (Nat.le_refl _) ht
  obtain ⟨k1,k7⟩:=g7.k
  have hj:∀ k x,0<=x/\x < p.vals->∀ v∈regs.set k x,0<=v/\v < p.vals:=fun k x hx v hv=>by
   rcases List.mem_or_eq_of_mem_set hv with h | h
   .exact q0 v h
   .rw [h];exact hx
  let bx:Option VO:=some ⟨Pt,0,0,false,[rS kind mode reg loc args tn el]⟩
  refine Cn (J:=fun F h=>h=hB p locs rg (ns++[n]) th false r/\A4.tmp F 0 = .p 4 0 0 0/\A4.tmp F 2 = .i .i64 (ns.length:Nat)/\A4.tmp F 3=lI regs/\A4.tmp F 1 = .fp [.ls (rS kind mode reg loc args tn el::l),fr fs'] 0) ?_ ?_
  .simp only [go_sem,↓reduceIte,p0,p1,p2,p3]
  rintro F h ⟨rfl,p0,p2,p3,p1⟩
  refine Cn (J:=fun F h=>h=hB p locs rg (ns++[n]) th false r/\A4.tmp F 0 = .p 4 0 0 0/\A4.tmp F 2 = .i .i64 (ns.length:Nat)/\A4.tmp F 3=lI regs/\A4.tmp F 1 = .fp [.ls (rS kind mode reg loc args tn el::l),fr fs'] 0) ?_ ?_
  .simp only [go_sem,↓reduceIte,p0,p1,p2,p3]
  rintro F h ⟨rfl,p0,p2,p3,p1⟩
  refine Cn (J:=fun F h=>h=hB p locs rg (ns++[n]) th false (r++[bx])/\A4.tmp F 0 = .p 4 0 0 0/\A4.tmp F 2 = .i .i64 (ns.length:Nat)/\A4.tmp F 3=lI regs/\A4.tmp F 1 = .fp [.ls (rS kind mode reg loc args tn el::l),fr fs'] 0/\A4.tmp F 8 = .p (r.length+1+1+1+1+1) 0 0 0) ?_ ?_
  .simp only [go_sem,↓reduceIte,p0,p1,p2,p3,bx]
  rintro F h ⟨rfl,p0,p2,p3,p1,p8⟩
  refine Cn (J:=fun F h=>h=hB p locs rg (ns++[n]) th false (r++[bx])/\A4.tmp F 0 = .p 4 0 0 0/\A4.tmp F 2 = .i .i64 (ns.length:Nat)/\A4.tmp F 3=lI regs/\A4.tmp F 8 = .p (r.length+1+1+1+1+1) 0 0 0/\A4.tmp F 9=fr (l::fs')) ?_ ?_
  .simp only [go_sem,↓reduceIte,p0,p1,p2,p3,p1,p8,bx,qz,u1,fr,Nat.add_sub_cancel]
  rintro F h ⟨rfl,p0,p2,p3,p8,p9⟩
  refine Cn (J:=fun F h=>h=hB p locs rg (ns++[n]) th false (r++[bx])/\A4.tmp F 0 = .p 4 0 0 0/\A4.tmp F 2 = .i .i64 (ns.length:Nat)/\A4.tmp F 3=lI regs/\A4.tmp F 8 = .p (r.length+1+1+1+1+1) 0 0 0/\A4.tmp F 9=fr (l::fs')/\A4.tmp F 10 = .i .i64 (Dx (fun y=>decide (loc=y)) locs)) ?_ ?_
  .simp only [go_sem,↓reduceIte,p0,p2,p3,p8,p9,bx,lq]
  rintro F h ⟨rfl,p0,p2,p3,p8,p9,h7⟩
  by_cases c1:kind=1
  .subst c1
   have ha:1<=args.length:=g7.one (by omega)
   obtain ⟨a0,ar,rfl⟩:∃ a0 ar,args=a0::ar:=by cases args with | nil=>simp at ha | cons a0 ar=>exact ⟨a0,ar,rfl⟩
   have ga:=g2 a0 mem_cons_self
   obtain ⟨_,⟨x,bb,rfl,hx⟩,qe⟩:=Cr (EV C (rg.getD th []) regs hrl h0 p.vals hv.1 hv.2 a0 ga)
   have qw:=fun Q=>MQ C p locs rg (ns++[n]) th hth false (r++[bx]) regs a0 ga qe (Q:=Q)
   obtain ⟨_,_,⟨ks,qa,rfl,rfl⟩,qs⟩:=Z5 (A8p C p locs rg (ns++[n]) th hth hrl false (r++[bx]) regs h0 reg x (hh rfl))
   obtain ⟨_,_,⟨rfl,qj⟩,qk⟩:=EC (IH ns n (regs.set ks x) (r++[bx]) hf hr0 he qb (by simp [h0]) (hj ks x hx))
   simp only [go_sem,↓reduceIte,p0,p2,p3,p8,p9,h7,A0,ga.len,ga.take,ga.frz,qw,qs,qk,bx,rgd,D5]
   exact qj.more
  have qr:∀ (t:List (List VV)),t.length<=1000->(∀ s∈t,GS locs s)->(∀ s∈t,RI (rg.getD th []) s)->Aja locs (rg.getD th []) (t::l::fs'):=fun t h1 h2 h3 x hx=>by
   rcases List.mem_cons.1 hx with rfl | hx
   .exact ⟨h1,fun s hs=>⟨h2 s hs,h3 s hs⟩⟩
   .exact ht x hx
  by_cases c7:kind=7
  .subst c7
   have ha:1<=args.length:=g7.one (by omega)
   obtain ⟨a0,ar,rfl⟩:∃ a0 ar,args=a0::ar:=by cases args with | nil=>simp at ha | cons a0 ar=>exact ⟨a0,ar,rfl⟩
   have ga:=g2 a0 mem_cons_self
   obtain ⟨_,⟨x,bb,rfl,hx⟩,qe⟩:=Cr (EV C (rg.getD th []) regs hrl h0 p.vals hv.1 hv.2 a0 ga)
   have qw:=fun Q=>MQ C p locs rg (ns++[n]) th hth false (r++[bx]) regs a0 ga qe (Q:=Q)
   have w1:wt (tn::l::fs') < w:=by simp only [wt,rS,List.cons.sizeOf_spec,VV.ls.sizeOf_spec] at qc ⊢;omega
   have w2:wt (el::l::fs') < w:=by simp only [wt,rS,List.cons.sizeOf_spec,VV.ls.sizeOf_spec] at qc ⊢;omega
   obtain ⟨_,_,⟨rfl,q8⟩,qt⟩:=EC (ih _ w1 _ (Nat.le_refl _) (qr tn g3 g5 p6) ns n regs (r++[bx]) hf hr0 he qb h0 q0)
   obtain ⟨_,_,⟨rfl,p4⟩,qu⟩:=EC (ih _ w2 _ (Nat.le_refl _) (qr el g4 g6 p5) ns n regs (r++[bx]) hf hr0 he qb h0 q0)
   rw [fr] at qt qu
   cases c0:decide (x=0)
   .simp only [go_sem,↓reduceIte,p0,p2,p3,p8,p9,h7,A0,ga.len,ga.take,ga.frz,qw,qt,bx,c0]
    exact q8.more
   .simp only [go_sem,↓reduceIte,p0,p2,p3,p8,p9,h7,A0,ga.len,ga.take,ga.frz,qw,qu,bx,c0]
    exact p4.more
  have hn:(ns++[n]).length=ns.length+1:=by simp
  have hp:∀ h s,h=hB p locs rg (ns++[n]) th true (r++s)->Abi p locs rg th ns n r h:=fun h s e=>⟨_,true,s,e,by simp;omega,fun h=>by cases h⟩
  have q6:∀ x:AX,x.up=ns.length->x.thread=th->KQ locs.length p.vals n x=true->∀ h,Abi p locs rg th (ns++[n]) x (r++[bx]) h->Abi p locs rg th ns n r h:=by
   rintro x h1 h2 h3 h ⟨hq,hp,s,rfl,h5,h6⟩
   exact ⟨hq,hp,[bx]++s,by rw [append_assoc],h5,fun e=>PX he hth hf hr0 h1 h2 h3 (h6 e)⟩
  by_cases c6:kind=6
  .subst c6
   have hm:=g7.mf rfl
   let x:AX:=⟨th,ns.length,4,0,mode,0,false,false,[]⟩
   rcases lt_or_ge (ns.length+1) 64 with hc | hc
   .have qp:=fun Q=>QK C p locs rg (ns++[n]) th false (r++[bx]) x rfl (by omega) (Q:=Q)
    obtain ⟨_,_,⟨rfl,q8⟩,qk⟩:=EC (IH (ns++[n]) x regs (r++[bx]) rfl rfl rfl (by omega) h0 q0)
    simp only [x,hn,append_assoc,cons_append,nil_append] at qk
    simp only [go_sem,↓reduceIte,p0,p2,p3,p8,p9,h7,A0,qp,qk,bx,x,hn]
    exact q6 x rfl rfl (by simp [KQ,x,hm.1,hm.2]) _ q8
   .have qp:=fun Q=>DT C p locs rg (ns++[n]) th false (r++[bx]) x (by omega) (Q:=Q)
    simp only [go_sem,↓reduceIte,p0,p2,p3,p8,p9,h7,A0,qp,bx,x]
    exact hp _ _ rfl
  have qh:kind=2\/kind=3\/kind=4\/kind=5:=by omega
  obtain ⟨lk,qx,qg,_⟩:=Kw (p:=fun y=>decide (loc=y)) (l:=locs) (by rw [any_eq_true];exact ⟨loc,g7.loc qh,by simp⟩)
  rw [qx] at h7
  by_cases c3:kind=3
  .subst c3
   have hm:=g7.ms rfl
   have ha:1<=args.length:=g7.one (by omega)
   obtain ⟨a0,ar,rfl⟩:∃ a0 ar,args=a0::ar:=by cases args with | nil=>simp at ha | cons a0 ar=>exact ⟨a0,ar,rfl⟩
   have ga:=g2 a0 mem_cons_self
   obtain ⟨_,⟨y,bb,rfl,hy⟩,qe⟩:=Cr (EV C (rg.getD th []) regs hrl h0 p.vals hv.1 hv.2 a0 ga)
   have qw:=fun Q=>MQ C p locs rg (ns++[n]) th hth false (r++[bx]) regs a0 ga qe (Q:=Q)
   let x:AX:=⟨th,ns.length,3,lk,mode,y,false,false,[]⟩
   rcases lt_or_ge (ns.length+1) 64 with hc | hc
   .have qp:=fun Q=>QK C p locs rg (ns++[n]) th false (r++[bx]) x rfl (by omega) (Q:=Q)
    obtain ⟨_,_,⟨rfl,q8⟩,qk⟩:=EC (IH (ns++[n]) x regs (r++[bx]) rfl rfl rfl (by omega) h0 q0)
    simp only [x,hn,append_assoc,cons_append,nil_append] at qk
    simp only [go_sem,↓reduceIte,p0,p2,p3,p8,p9,h7,A0,ga.len,ga.take,ga.frz,qw,qp,qk,bx,x,hn,rgd,D5]
    exact q6 x rfl rfl (by rcases hm with hm | hm | hm<;>simp [KQ,x,qg,hy.1,hy.2,hm]) _ q8
   .have qp:=fun Q=>DT C p locs rg (ns++[n]) th false (r++[bx]) x (by omega) (Q:=Q)
    simp only [go_sem,↓reduceIte,p0,p2,p3,p8,p9,h7,A0,ga.len,ga.take,ga.frz,qw,qp,bx,x,rgd,D5]
    exact hp _ _ rfl
  have qo:kind=2\/kind=4\/kind=5:=by omega
  obtain ⟨N,hN⟩:=Int.eq_ofNat_of_zero_le (show 0<=p.vals by omega)
  by_cases d2:kind=2
  .subst d2
   have h9:(mode=0\/mode=1\/mode=4)\/(0<=mode/\mode<=4/\∃ v,v < N/\(fun _=>false) v=true):=.inl (g7.ml rfl)
   simp only [go_sem,↓reduceIte,p0,p2,p3,p8,p9,h7,bx,A0]
   unfold VL
   rw [A0]
   refine AT (M:=Nat) (I:=fun x F h=>x<=N/\RdI p locs rg th ns n lk mode (fun _=>false) r bx x h/\A4.tmp F 0 = .p 4 0 0 0/\A4.tmp F 2 = .i .i64 (ns.length:Nat)/\A4.tmp F 3=lI regs/\A4.tmp F 8 = .p (r.length+1+1+1+1+1) 0 0 0/\A4.tmp F 9=fr (l::fs')/\A4.tmp F 10 = .i .i64 lk/\A4.tmp F 13 = .i .i64 x) (μ:=fun x=>N - x) ?_ 0 _ _ ⟨zero_le _,⟨ns++[n],false,[],rfl,by simp;omega,fun _=>Qu⟩,?_,?_,?_,?_,?_,?_,?_⟩
   .rintro x F h ⟨qq,⟨h4,lg,s,rfl,hc,ho⟩,p0,p2,p3,p8,p9,h7,hb⟩
    cases lg with
    | true =>
     cases c:decide ((x:Int) < p.vals) <;>
     simp only [D8,go_sem,↓reduceIte,p0,p2,p3,p8,p9,h7,hb,c,A0] <;>
     exact ⟨h4,true,_,rfl,hc,fun h=>by cases h⟩
    | false =>
    by_cases hxl:x < N
    .have c:(x:Int) < p.vals:=by omega
     have w1:=HL (show x < 9223372036854775807 by omega)
     have bd:decide (r.length+1+1+1+1+1 < r.length+(s.length+1)+1+1+1+1+1)=true:=by rw [decide_eq_true_iff];omega
     let xr:AX:=⟨th,ns.length,2,lk,mode,x,false,false,[]⟩
     have q4:(0:Int)<=(x:Int)/\(x:Int) < p.vals:=⟨by omega,c⟩
     rcases lt_or_ge h4.length 64 with q64 | q64
     .have qp:=fun Q=>QK C p locs rg h4 th false (r++bx::s) xr rfl q64 (Q:=Q)
      obtain ⟨_,_,⟨ks,qa,rfl,rfl⟩,qs⟩:=Z5 (A8p C p locs rg (h4++[xr]) th hth hrl false (r++bx::s) regs h0 reg x (hh rfl))
      obtain ⟨_,_,⟨rfl,hq,lg,s',rfl,hd,hg⟩,qk⟩:=EC (IH h4 xr (regs.set ks x) (r++bx::s) rfl rfl rfl q64 (by simp [h0]) (hj ks x q4))
      simp only [D8,go_sem,↓reduceIte,p0,p2,p3,p8,p9,h7,hb,c,A0,qp,qs,qk,xr,bx,w1,bd]
      exact ⟨x+1,by omega,by omega,⟨hq,lg,s,rfl,hd,fun e=>Lx (ho rfl) rfl he.symm rfl rfl rfl rfl rfl (hg e) (fun h=>by simp_all)⟩,rfl⟩
     .have qp:=fun Q=>DT C p locs rg h4 th false (r++bx::s) xr q64 (Q:=Q)
      simp only [D8,go_sem,↓reduceIte,p0,p2,p3,p8,p9,h7,hb,c,A0,qp,xr,bx]
      exact ⟨_,true,_,rfl,hc,fun h=>by cases h⟩
    .have q9:x=N:=by omega
     subst q9
     have c:¬ (x:Int) < p.vals:=by omega
     simp only [D8,go_sem,↓reduceIte,p0,p2,p3,p8,p9,h7,hb,c,A0]
     refine ⟨h4,false,_,rfl,hc,fun _=>?_⟩
     have:=ho rfl
     rw [hN] at this ⊢
     exact Sf he hth hf hr0 (by omega) ⟨by omega,by omega⟩ h9 this
   all_goals simp only [go_sem,↓reduceIte,p0,p2,p3,p8,p9,h7]
  by_cases d4:kind=4
  .subst d4
   have ha:1<=args.length:=g7.one (by omega)
   obtain ⟨a0,ar,rfl⟩:∃ a0 ar,args=a0::ar:=by cases args with | nil=>simp at ha | cons a0 ar=>exact ⟨a0,ar,rfl⟩
   have h8:=g2 a0 (by simp)
   obtain ⟨_,⟨y0,qv,rfl,pa⟩,qm⟩:=Cr (EV C (rg.getD th []) regs hrl h0 p.vals hv.1 hv.2 a0 h8)
   have h9:(mode=0\/mode=1\/mode=4)\/(0<=mode/\mode<=4/\∃ v,v < N/\(fun _=>true) v=true):=.inr ⟨(g7.ma (by omega)).1,(g7.ma (by omega)).2,0,by omega,rfl⟩
   obtain ⟨m0,m4⟩:=g7.ma (by omega)
   simp only [go_sem,↓reduceIte,p0,p2,p3,p8,p9,h7,bx,A0]
   unfold VL
   rw [A0]
   refine AT (M:=Nat) (I:=fun x F h=>x<=N/\RdI p locs rg th ns n lk mode (fun _=>true) r bx x h/\A4.tmp F 0 = .p 4 0 0 0/\A4.tmp F 2 = .i .i64 (ns.length:Nat)/\A4.tmp F 3=lI regs/\A4.tmp F 8 = .p (r.length+1+1+1+1+1) 0 0 0/\A4.tmp F 9=fr (l::fs')/\A4.tmp F 10 = .i .i64 lk/\A4.tmp F 13 = .i .i64 x) (μ:=fun x=>N - x) ?_ 0 _ _ ⟨zero_le _,⟨ns++[n],false,[],rfl,by simp;omega,fun _=>Qu⟩,?_,?_,?_,?_,?_,?_,?_⟩
   .rintro x F h ⟨qq,⟨h4,lg,s,rfl,hc,ho⟩,p0,p2,p3,p8,p9,h7,hb⟩
    cases lg with
    | true =>
     cases c:decide ((x:Int) < p.vals) <;>
     simp only [D8,go_sem,↓reduceIte,p0,p2,p3,p8,p9,h7,hb,c,A0] <;>
     exact ⟨h4,true,_,rfl,hc,fun h=>by cases h⟩
    | false =>
    by_cases hxl:x < N
    .have c:(x:Int) < p.vals:=by omega
     have w1:=HL (show x < 9223372036854775807 by omega)
     have bd:decide (r.length+1+1+1+1+1 < r.length+(s.length+1)+1+1+1+1+1)=true:=by rw [decide_eq_true_iff];omega
     let xr:AX:=⟨th,ns.length,2,lk,mode,x,false,false,[]⟩
     have q4:(0:Int)<=(x:Int)/\(x:Int) < p.vals:=⟨by omega,c⟩
     rcases lt_or_ge h4.length 64 with q64 | q64
     .have qp:=fun Q=>QK C p locs rg h4 th false (r++bx::s) xr rfl q64 (Q:=Q)
      have hu:=fun Q=>MQ C p locs rg (h4++[xr]) th hth false (r++bx::s) regs a0 h8 qm (Q:=Q)
      have wz:IntKind.i64.wrap ((x:Int)+y0)=(x:Int)+y0:=Az (by omega) (by omega)
      have hz:0<=((x:Int)+y0) % p.vals/\((x:Int)+y0) % p.vals < p.vals:=⟨Int.emod_nonneg _ (by omega),Int.emod_lt_of_pos _ (by omega)⟩
      have q5:=fun v Q=>A62 C v p.vals (by omega) (by omega) (Q:=Q)
      simp only [xr] at hu
      let yw:AX:=⟨th,h4.length,3,lk,mode,((x:Int)+y0) % p.vals,true,false,[]⟩
      have q7:(h4++[xr]).length=h4.length+1:=by simp
      rcases lt_or_ge (h4.length+1) 64 with r64 | r64
      .have hi:=fun Q=>QK C p locs rg (h4++[xr]) th false (r++bx::s) yw rfl (by omega) (Q:=Q)
       obtain ⟨_,_,⟨ks,qa,rfl,rfl⟩,qs⟩:=Z5 (A8p C p locs rg ((h4++[xr])++[yw]) th hth hrl false (r++bx::s) regs h0 reg x (hh rfl))
       obtain ⟨_,_,⟨rfl,hq,lg,s',rfl,hd,hg⟩,qk⟩:=EC (IH (h4++[xr]) yw (regs.set ks x) (r++bx::s) rfl rfl rfl (by omega) (by simp [h0]) (hj ks x q4))
       simp only [xr,yw,q7,append_assoc,cons_append,nil_append] at hi qs qk
       simp only [D8,go_sem,↓reduceIte,p0,p2,p3,p8,p9,h7,hb,c,A0,qp,hi,qs,qk,xr,yw,bx,w1,bd,h8.len,h8.take,h8.frz,hu,wz,q5,hz.1,rgd,D5]
       have ga:KQ locs.length p.vals xr yw=true:=by simp [KQ,xr,yw,qg,hz.1,hz.2,m0,m4]
       exact ⟨x+1,by omega,by omega,⟨hq,lg,s,rfl,hd,fun e=>Lx (ho rfl) rfl he.symm rfl rfl rfl rfl rfl (PX (x:=yw) rfl hth rfl rfl rfl rfl ga (hg e)) (fun h=>Y2 rfl rfl (hg e))⟩,rfl⟩
      .have hi:=fun Q=>DT C p locs rg (h4++[xr]) th false (r++bx::s) yw (by omega) (Q:=Q)
       simp only [xr,yw,q7,append_assoc,cons_append,nil_append] at hi
       simp only [D8,go_sem,↓reduceIte,p0,p2,p3,p8,p9,h7,hb,c,A0,qp,hi,xr,yw,bx,w1,bd,h8.len,h8.take,h8.frz,hu,wz,q5,hz.1,rgd,D5]
       exact ⟨_,true,_,rfl,by simp;omega,fun h=>by cases h⟩
     .have qp:=fun Q=>DT C p locs rg h4 th false (r++bx::s) xr q64 (Q:=Q)
      simp only [D8,go_sem,↓reduceIte,p0,p2,p3,p8,p9,h7,hb,c,A0,qp,xr,bx]
      exact ⟨_,true,_,rfl,hc,fun h=>by cases h⟩
    .have q9:x=N:=by omega
     subst q9
     have c:¬ (x:Int) < p.vals:=by omega
     simp only [D8,go_sem,↓reduceIte,p0,p2,p3,p8,p9,h7,hb,c,A0]
     refine ⟨h4,false,_,rfl,hc,fun _=>?_⟩
     have:=ho rfl
     rw [hN] at this ⊢
     exact Sf he hth hf hr0 (by omega) ⟨by omega,by omega⟩ h9 this
   all_goals simp only [go_sem,↓reduceIte,p0,p2,p3,p8,p9,h7]
  by_cases d5:kind=5
  .subst d5
   have ha:2<=args.length:=g7.two rfl
   obtain ⟨a0,a1,ar,rfl⟩:∃ a0 a1 ar,args=a0::a1::ar:=by
    rcases args with _ | ⟨a0,_ | ⟨a1,ar⟩⟩
    .simp at ha
    .simp at ha
    .exact ⟨a0,a1,ar,rfl⟩
   have h8:=g2 a0 (by simp)
   obtain ⟨_,⟨y0,qv,rfl,pa⟩,qm⟩:=Cr (EV C (rg.getD th []) regs hrl h0 p.vals hv.1 hv.2 a0 h8)
   have hr:=g2 a1 (by simp)
   obtain ⟨_,⟨y1,pc,rfl,qd⟩,pb⟩:=Cr (EV C (rg.getD th []) regs hrl h0 p.vals hv.1 hv.2 a1 hr)
   have h9:(mode=0\/mode=1\/mode=4)\/(0<=mode/\mode<=4/\∃ v,v < N/\(fun j=>decide ((j:Int)=y0)) v=true):=.inr ⟨(g7.ma (by omega)).1,(g7.ma (by omega)).2,y0.toNat,by omega,by simp;omega⟩
   obtain ⟨m0,m4⟩:=g7.ma (by omega)
   simp only [go_sem,↓reduceIte,p0,p2,p3,p8,p9,h7,bx,A0]
   unfold VL
   rw [A0]
   refine AT (M:=Nat) (I:=fun x F h=>x<=N/\RdI p locs rg th ns n lk mode (fun j=>decide ((j:Int)=y0)) r bx x h/\A4.tmp F 0 = .p 4 0 0 0/\A4.tmp F 2 = .i .i64 (ns.length:Nat)/\A4.tmp F 3=lI regs/\A4.tmp F 8 = .p (r.length+1+1+1+1+1) 0 0 0/\A4.tmp F 9=fr (l::fs')/\A4.tmp F 10 = .i .i64 lk/\A4.tmp F 13 = .i .i64 x) (μ:=fun x=>N - x) ?_ 0 _ _ ⟨zero_le _,⟨ns++[n],false,[],rfl,by simp;omega,fun _=>Qu⟩,?_,?_,?_,?_,?_,?_,?_⟩
   .rintro x F h ⟨qq,⟨h4,lg,s,rfl,hc,ho⟩,p0,p2,p3,p8,p9,h7,hb⟩
    cases lg with
    | true =>
     cases c:decide ((x:Int) < p.vals) <;>
     simp only [D8,go_sem,↓reduceIte,p0,p2,p3,p8,p9,h7,hb,c,A0] <;>
     exact ⟨h4,true,_,rfl,hc,fun h=>by cases h⟩
    | false =>
    by_cases hxl:x < N
    .have c:(x:Int) < p.vals:=by omega
     have w1:=HL (show x < 9223372036854775807 by omega)
     have bd:decide (r.length+1+1+1+1+1 < r.length+(s.length+1)+1+1+1+1+1)=true:=by rw [decide_eq_true_iff];omega
     let xr:AX:=⟨th,ns.length,2,lk,mode,x,false,false,[]⟩
     have q4:(0:Int)<=(x:Int)/\(x:Int) < p.vals:=⟨by omega,c⟩
     rcases lt_or_ge h4.length 64 with q64 | q64
     .have qp:=fun Q=>QK C p locs rg h4 th false (r++bx::s) xr rfl q64 (Q:=Q)
      have hu:=fun Q=>MQ C p locs rg (h4++[xr]) th hth false (r++bx::s) regs a0 h8 qm (Q:=Q)
      have qn:=fun Q=>MQ C p locs rg (h4++[xr]) th hth false (r++bx::s) regs a1 hr pb (Q:=Q)
      simp only [xr] at hu qn
      by_cases d0:(x:Int)=y0
      .subst d0
       let yw:AX:=⟨th,h4.length,3,lk,mode,y1,true,false,[]⟩
       have q7:(h4++[xr]).length=h4.length+1:=by simp
       rcases lt_or_ge (h4.length+1) 64 with r64 | r64
       .have hi:=fun Q=>QK C p locs rg (h4++[xr]) th false (r++bx::s) yw rfl (by omega) (Q:=Q)
        obtain ⟨_,_,⟨ks,qa,rfl,rfl⟩,qs⟩:=Z5 (A8p C p locs rg ((h4++[xr])++[yw]) th hth hrl false (r++bx::s) regs h0 reg x (hh rfl))
        obtain ⟨_,_,⟨rfl,hq,lg,s',rfl,hd,hg⟩,qk⟩:=EC (IH (h4++[xr]) yw (regs.set ks x) (r++bx::s) rfl rfl rfl (by omega) (by simp [h0]) (hj ks x q4))
        simp only [xr,yw,q7,append_assoc,cons_append,nil_append] at hi qs qk
        simp only [D8,go_sem,↓reduceIte,p0,p2,p3,p8,p9,h7,hb,c,A0,qp,hi,qs,qk,xr,yw,bx,w1,bd,h8.len,h8.take,h8.frz,hr.len,hr.take,hr.frz,hu,qn,qd.1,rgd,D5]
        have ga:KQ locs.length p.vals xr yw=true:=by simp [KQ,xr,yw,qg,qd.1,qd.2,m0,m4]
        exact ⟨x+1,by omega,by omega,⟨hq,lg,s,rfl,hd,fun e=>Lx (ho rfl) rfl he.symm rfl rfl rfl rfl rfl (PX (x:=yw) rfl hth rfl rfl rfl rfl ga (hg e)) (fun h=>Y2 rfl rfl (hg e))⟩,rfl⟩
       .have hi:=fun Q=>DT C p locs rg (h4++[xr]) th false (r++bx::s) yw (by omega) (Q:=Q)
        simp only [xr,yw,q7,append_assoc,cons_append,nil_append] at hi
        simp only [D8,go_sem,↓reduceIte,p0,p2,p3,p8,p9,h7,hb,c,A0,qp,hi,xr,yw,bx,w1,bd,h8.len,h8.take,h8.frz,hr.len,hr.take,hr.frz,hu,qn,qd.1,rgd,D5]
        exact ⟨_,true,_,rfl,by simp;omega,fun h=>by cases h⟩
      .have pd:decide ((x:Int)=y0)=false:=by simp [d0]
       obtain ⟨_,_,⟨ks,qa,rfl,rfl⟩,qs⟩:=Z5 (A8p C p locs rg (h4++[xr]) th hth hrl false (r++bx::s) regs h0 reg x (hh rfl))
       obtain ⟨_,_,⟨rfl,hq,lg,s',rfl,hd,hg⟩,qk⟩:=EC (IH h4 xr (regs.set ks x) (r++bx::s) rfl rfl rfl q64 (by simp [h0]) (hj ks x q4))
       simp only [D8,go_sem,↓reduceIte,p0,p2,p3,p8,p9,h7,hb,c,A0,qp,qs,qk,xr,bx,w1,bd,h8.len,h8.take,h8.frz,hu,d0,rgd,D5]
       exact ⟨x+1,by omega,by omega,⟨hq,lg,s,rfl,hd,fun e=>Lx (ho rfl) rfl he.symm rfl rfl rfl rfl rfl (hg e) (fun h=>by simp_all)⟩,rfl⟩
     .have qp:=fun Q=>DT C p locs rg h4 th false (r++bx::s) xr q64 (Q:=Q)
      simp only [D8,go_sem,↓reduceIte,p0,p2,p3,p8,p9,h7,hb,c,A0,qp,xr,bx]
      exact ⟨_,true,_,rfl,hc,fun h=>by cases h⟩
    .have q9:x=N:=by omega
     subst q9
     have c:¬ (x:Int) < p.vals:=by omega
     simp only [D8,go_sem,↓reduceIte,p0,p2,p3,p8,p9,h7,hb,c,A0]
     refine ⟨h4,false,_,rfl,hc,fun _=>?_⟩
     have:=ho rfl
     rw [hN] at this ⊢
     exact Sf he hth hf hr0 (by omega) ⟨by omega,by omega⟩ h9 this
   all_goals simp only [go_sem,↓reduceIte,p0,p2,p3,p8,p9,h7]
  omega
end
structure GP2 (p:PP):Prop where
 gp:GP p.nm p.vals p.ini p.thr p.ask [.i .i64 p.op,.i .i64 p.th,.s p.cn,.i .i64 p.n,.ls p.kids]
 v2:2<=p.vals
 v4:p.vals<=4
 i4:p.ini.length<=4
 nd:(p.ini.map (·.1)).Nodup
 iv:∀ x∈p.ini,0<=x.2/\x.2 < p.vals
 t1:1<=p.thr.length
 t4:p.thr.length<=4
abbrev PP.v (p:PP):VV:=.ag [.s p.nm,.i .i64 p.vals,.ls (p.ini.map eCl),.ls (p.thr.map fun l=>[.ls l]),.i .i64 p.ask,.i .i64 p.op,.i .i64 p.th,.s p.cn,.i .i64 p.n,.ls p.kids]
abbrev PP.f (p:PP):VV:=.fp [.s p.nm,.i .i64 p.vals,.ls (p.ini.map eCl),.ls (p.thr.map fun l=>[.ls l]),.i .i64 p.ask,.i .i64 p.op,.i .i64 p.th,.s p.cn,.i .i64 p.n,.ls p.kids] 0
def Aje (p:PP) (k:Nat) (rg:List (List ByteArray)):Prop:=rg.length=k/\∀ (j:Nat) (hj:j < p.thr.length),j < k->((rg.getD j []).Nodup/\(∀ n∈rg.getD j [],n∈N4)/\∀ r∈p.thr[j],RI (rg.getD j []) r)
def HBr (p:PP) (k:Nat) (h:VH):Prop:=∃ rg,Aje p k rg/\h=hB p (p.ini.map (·.1)) rg [] 0 false []
def HBt (p:PP) (rg:List (List ByteArray)) (k:Nat) (h:VH):Prop:=∃ (ns:List AX) (th:Int) (long:Bool) ,h=hB p (p.ini.map (·.1)) rg ns th long []/\ns.length<=64/\(long=false->Thr p.vals (p.ini.map (·.1)) rg k ns)
theorem Aje.step {p:PP} {k:Nat} {rg:List (List ByteArray)} (h:Aje p k rg) (hk:k < p.thr.length) {o:List ByteArray} (h1:o.Nodup) (h2:∀ n∈o,n∈N4) (h3:∀ r∈p.thr[k],RI o r):Aje p (k+1) (rg++[o]):=by
 obtain ⟨e,h⟩:=h
 refine ⟨by simp [e],fun j hj hjk=>?_⟩
 by_cases ej:j=k
 .subst ej
  have:(rg++[o]).getD j []=o:=by rw [<- e];simp
  rw [this];exact ⟨h1,h2,h3⟩
 .have:(rg++[o]).getD j []=rg.getD j []:=by
   rw [getD_eq_getElem?_getD,List.getElem?_append_left (by omega),getD_eq_getElem?_getD]
  rw [this];exact h j hj (by omega)
section
variable {V:At} (C:Aq V) {Q:VV->Prop}
include C
theorem A2K (p:PP) (h:GP2 p):VP V UT [p.v] fun x=>∃ (t:A1) (e:Int),x = .tu [vT t,.i .i64 e]/\(e=0->A5 t):=by
 obtain ⟨gp,v2,v4,i4,nd,iv,t1,t4⟩:=h
 rw [Ad C.c_z116.1 C.c_z116.2]
 obtain ⟨_,⟨e0,k0,rfl⟩,qm⟩:=Cr (Ach C p.nm p.vals p.ini p.thr p.ask _ gp)
 simp only [vPr,cons_append,nil_append] at qm
 obtain ⟨g1,g2,g3,g4,g5,g6⟩:=gp
 by_cases z0:e0=0
 .subst z0
  simp only [RV,go_sem,↓reduceIte,qm,AZ]
  have h3:∀ k (hk:k < p.ini.length),(p.ini.take (k+1)).map (·.1)=(p.ini.take k).map (·.1)++[p.ini[k].1]:=fun k hk=>by rw [List.take_succ_eq_append_getElem hk,map_append];rfl
  have hc:∀ k,k<=p.ini.length->((p.ini.take k).map (·.1)).length=k:=fun k hk=>by simp;omega
  refine Ab (by decide) p.ini.length (by omega) (I:=fun k F h=>h=hB p ((p.ini.take k).map (·.1)) [] [] 0 false []/\A4.tmp F 1=p.f/\A4.tmp F 6 = .p 4 0 0 0/\A4.tmp F 2 = .p 0 0 0 0) ?_ ?_ ?_ 0 _ _ (zero_le _) ?_ ?_
  .rintro k F h hk p7 ⟨rfl,p1,p6,p2⟩
   simp only [go_sem,↓reduceIte,p7,p1,p6,p2]
  .rintro k F h hk p7 ⟨rfl,p1,p6,p2⟩
   have h0:p.ini[k]? = some p.ini[k]:=getElem?_eq_getElem hk
   rw [h3 k hk]
   have ha:=hc k (by omega)
   generalize (p.ini.take k).map (·.1)=L at *
   subst ha
   have b1:(L.length+1) * 16<=Aa:=by unfold Aa;omega
   simp only [go_sem,↓reduceIte,p7,p1,p6,p2,h0,b1]
   simp only [hB,eBd,length_append,length_cons,length_nil]
  .rintro F h ⟨rfl,p1,p6,p2⟩
   rw [take_length]
   simp only [go_sem,↓reduceIte,p1,p6,p2]
   refine Ab (by decide) p.thr.length (by omega) (I:=fun k F h=>HBr p k h/\A4.tmp F 1=p.f/\A4.tmp F 6 = .p 4 0 0 0/\A4.tmp F 2 = .p 0 0 0 0) ?_ ?_ ?_ 0 _ _ (zero_le _) ?_ ?_
   .rintro k F h hk p8 ⟨⟨rg,h1,rfl⟩,p1,p6,p2⟩
    simp only [go_sem,↓reduceIte,p8,p1,p6,p2]
    exact ⟨rg,h1,rfl⟩
   .rintro k F h hk p8 ⟨⟨rg,h1,rfl⟩,p1,p6,p2⟩
    have h0:p.thr[k]? = some p.thr[k]:=getElem?_eq_getElem hk
    obtain ⟨m1,m2⟩:=g5 _ (getElem_mem hk)
    obtain ⟨_,⟨o,rfl,o1,o2,o3⟩,qr⟩:=Cr (AaA C p.thr[k] m1 m2)
    have he:=h1.step hk o1 o2 o3
    have hl:=h1.1
    subst hl
    have b1:(rg.length+1) * 24<=Aa:=by unfold Aa;omega
    simp only [go_sem,↓reduceIte,p8,p1,p6,p2,h0,qr,b1,rgd,D5]
    have e1:rg.map JE++[[VV.ls (List.map eS o)]]=(rg++[o]).map JE:=by simp
    rw [e1]
    refine ⟨.inr (JJ fun x=>rfl),rg++[o],he,?_⟩
    have e2:({ ty:=C7,esz:=1,ver:=rg.length+1,nl:=false,rows:=(rg++[o]).map JE }:VO)=AW C7 1 ((rg++[o]).map JE):=Ja rfl
    rw [e2]
    simp only [hB,eBd,length_append,length_cons,length_nil,length_map]
   .rintro F h ⟨⟨rg,h1,rfl⟩,p1,p6,p2⟩
    have hl:=h1.1
    have h8:∀ l∈rg,l.length<=4/\l.Nodup:=fun l hl=>by
     obtain ⟨j,hj,e⟩:=List.mem_iff_getElem.1 hl
     have q:=h1.2 j (by omega) (by omega)
     rw [getD_eq_getElem?_getD,getElem?_eq_getElem hj,Option.getD_some,e] at q
     exact ⟨X7 q.1 q.2.1,q.1⟩
    simp only [go_sem,↓reduceIte,p1,p6,p2]
    refine Ab (by decide) p.ini.length (by omega) (I:=fun k F h=>h=hB p (p.ini.map (·.1)) rg (A1b p.ini k) 0 false []/\A4.tmp F 1=p.f/\A4.tmp F 6 = .p 4 0 0 0/\A4.tmp F 2 = .p 0 0 0 0) ?_ ?_ ?_ 0 _ _ (zero_le _) ?_ ?_
    .rintro k F h hk p9 ⟨rfl,p1,p6,p2⟩
     simp only [go_sem,↓reduceIte,p9,p1,p6,p2]
    .rintro k F h hk p9 ⟨rfl,p1,p6,p2⟩
     have h0:p.ini[k]? = some (p.ini.getD k default):=by rw [getD_eq_getElem?_getD,getElem?_eq_getElem hk];rfl
     have qp:=fun Q=>QK C p (p.ini.map (·.1)) rg (A1b p.ini k) 0 false [] ⟨-1,-1,3,k,0,(p.ini.getD k default).2,false,false,[]⟩ rfl (by rw [Mg];omega) (Q:=Q)
     simp only [go_sem,↓reduceIte,p9,p1,p6,p2,h0,qp]
     rw [AeR]
    .rintro F h ⟨rfl,p1,p6,p2⟩
     simp only [go_sem,↓reduceIte,p1,p6,p2]
     have hz:=Air (vals:=p.vals) (rg:=rg) iv
     unfold VL
     rw [A0]
     refine AT (M:=Nat) (I:=fun i F h=>i<=p.thr.length/\HBt p rg i h/\A4.tmp F 1=p.f/\A4.tmp F 6 = .p 4 0 0 0/\A4.tmp F 2 = .p 0 0 0 0/\A4.tmp F 10 = .i .i64 i) (μ:=fun i=>p.thr.length - i) ?_ 0 _ _ ⟨zero_le _,⟨A1b p.ini p.ini.length,0,false,rfl,by rw [Mg];omega,fun _=>hz⟩,?_,?_,?_,?_⟩
     .rintro i F h ⟨hi,⟨ns,th,h6,rfl,h7,h9⟩,p1,p6,p2,h4⟩
      cases h6 with
      | true =>
       cases c:decide (i < p.thr.length) <;>
       simp only [R2,go_sem,↓reduceIte,p1,p6,p2,h4,c,A0]
       all_goals exact ⟨⟨0,[],[],[]⟩,3,rfl,fun h=>by cases h⟩
      | false =>
      by_cases hil:i < p.thr.length
      .have h2:i < rg.length:=by omega
       have h0:p.thr[i]? = some p.thr[i]:=getElem?_eq_getElem hil
       obtain ⟨m1,m2⟩:=g5 _ (getElem_mem hil)
       have w1:=HL (show i < 9223372036854775807 by omega)
       have c:(i:Int) < p.thr.length:=by omega
       have hd:=(h1.2 i hil (by omega)).2.2
       have hh:=(h8 _ (Ai (d:=[]) h2)).1
       have hx:=G8 (ty:=C7) (e:=1) (rows:=rg.map JE) (by rw [length_map];omega)
       have b8:(rg.getD i []).length * 8<=Aa:=by unfold Aa;omega
       let x:AX:=⟨i,-1,1,0,0,0,false,false,[]⟩
       rcases lt_or_ge ns.length 64 with q64 | q64
       .have qp:=fun Q=>QK C p (p.ini.map (·.1)) rg ns i false [] x rfl q64 (Q:=Q)
        obtain ⟨_,_,⟨rfl,hf,lg,s',rfl,h5,hg⟩,qk⟩:=EC (Anh C p ⟨v2,v4⟩ (p.ini.map (·.1)) (by simp;omega) rg i h2 (by omega) _ [p.thr[i]] (Nat.le_refl _) (fun l hl=>by
         rw [List.mem_singleton.1 hl];exact ⟨m1,fun s hs=>⟨m2 s hs,hd s hs⟩⟩) ns x (List.replicate (rg.getD i []).length 0) [] rfl rfl rfl q64 (by simp) (fun v hv=>by rw [(List.mem_replicate.1 hv).2];omega))
        simp only [fr,x,nil_append,hB,eBd,length_map,length_append,length_cons,length_nil,zero_add] at qk
        simp only [hB,eBd,length_map,length_append,length_cons,length_nil,zero_add] at qp
        simp only [R2,go_sem,↓reduceIte,p1,p6,p2,h4,c,A0,h0,hil,h2,hx,Md h2,b8,qp,qk,x,w1]
        exact ⟨i+1,by omega,by omega,⟨hf,i,lg,by simp only [hB,eBd,length_map],h5,fun e=>Aiq (h9 rfl) rfl (hg e)⟩,rfl⟩
       .have qp:=fun Q=>DT C p (p.ini.map (·.1)) rg ns i false [] x q64 (Q:=Q)
        simp only [hB,eBd,length_map,length_append,length_cons,length_nil,zero_add] at qp
        simp only [R2,go_sem,↓reduceIte,p1,p6,p2,h4,c,A0,h0,hil,h2,hx,qp,x,w1]
        exact ⟨i+1,by omega,by omega,⟨ns,i,true,by simp only [hB,eBd,length_map],h7,fun e=>by cases e⟩,rfl⟩
      .have hb:i=p.thr.length:=by omega
       have c:¬ (i:Int) < p.thr.length:=by omega
       subst hb
       simp only [R2,go_sem,↓reduceIte,p1,p6,p2,h4,c,A0]
       refine ⟨TT p.vals (p.ini.map (·.1)) rg ns,0,rfl,fun _=>?_⟩
       have:=h9 rfl
       rw [<- hl] at this
       exact AfM this v2 v4 (by simpa using i4) nd h7 (by omega) (by omega) h8
     all_goals simp only [go_sem,↓reduceIte,p1,p6,p2]
    .simp only [go_sem,↓reduceIte]
    .simp only [go_sem,↓reduceIte,p1,p6,p2]
     rfl
   .simp only [go_sem,↓reduceIte,p1,p6,p2]
   .simp only [go_sem,↓reduceIte,p1,p6,p2]
    exact ⟨[],⟨rfl,fun j hj hjk=>by omega⟩,rfl⟩
  .simp only [go_sem,↓reduceIte]
  .simp only [go_sem,↓reduceIte]
   rfl
 .simp only [RV,go_sem,↓reduceIte,qm,z0]
  exact ⟨⟨0,[],[],[]⟩,e0,rfl,fun h=>absurd h z0⟩
end
theorem Hs.mono {V:At} {g:Nat} {pa:List VV} {h:VH} {Q Q':VV->VH->Prop} (k:Hs V g pa h Q) (i:∀ v h,Q v h->Q' v h):Hs V g pa h Q':=by
 obtain ⟨vf,h1,h2⟩:=k
 exact ⟨vf,h1,h2.mono fun v h' ⟨r,ids,e1,e2,e3⟩=>⟨r,ids,e1,e2,i _ _ e3⟩⟩
attribute [go_sem] A1T List.contains_cons List.contains_nil
@[go_sem] theorem Aya (n:Nat):(n+1 == 0)=false:=rfl
@[go_sem] theorem AvJ:((0:Nat) == 0)=true:=rfl
theorem Aka (j:Nat):∀ (ids:List Nat) (h:VH),j∉ids->(BL ids h)[j]? = h[j]?:=by
 intro ids
 induction ids with
 | nil=>intro h _;rfl
 | cons i ids ih =>
  intro h hj
  rw [BL,ih _ fun x=>hj (mem_cons_of_mem _ x),List.getElem?_set_ne fun e=>hj (by rw [<- e];exact mem_cons_self)]
theorem Adw {args:List VV} (h:VH) (j:Nat) (h1:(A1T args).contains j=true):(BL (Ml args h) h)[j]? = h[j]?:=by
 refine Aka j _ h ?_
 unfold Ml
 rw [List.mem_filter,h1]
 exact fun h=>absurd h.2 (by simp)
theorem GY {args:List VV} (y x:Option VO) (r:VH) (h1:(A1T args).contains 1=true):∃ p:Option VO×VH,BL (Ml args (y::x::r)) (y::x::r)=p.1::x::p.2:=by
 have:=Adw (y::x::r) 1 h1
 generalize BL (Ml args (y::x::r)) (y::x::r)=q at *
 rcases q with _ | ⟨a,_ | ⟨b,q⟩⟩
 .simp at this
 .simp at this
 .simp at this
  exact ⟨(a,q),by rw [this]⟩
theorem Hs.to2 {V:At} {g:Nat} {pa:List VV} {h:VH} {Q:VV->VH->Prop} (k:Hs V g pa h Q):NR V g pa h fun _ _=>True:=by
 obtain ⟨vf,h1,h2⟩:=k
 exact ⟨vf,h1,h2.mono fun _ _ _=>trivial⟩
abbrev MO (l:List U8) (a:Nat):Option VO:=some ⟨QF,0,0,false,[[lU l,.i .i64 a]]⟩
def MS (x0:Option VO) (l:List U8) (r h:VH):Prop:=∃ a,a<=l.length/\h=x0::MO l a::r
def A6n (k:Nat):ByteArray:=match k with | 0=>bs [120] | 1=>bs [121] | 2=>bs [122] | _=>bs [119]
def A2t (k:Nat):ByteArray:=match k with | 0=>bs [97] | 1=>bs [98] | 2=>bs [99] | _=>bs [100]
def KR (v:VV):Prop:=∃ l:List ByteArray,l.Nodup/\(∀ n∈l,n∈N4)/\(v=lS l\/(v = .nl/\l=[]))
theorem JF:min 1 6=1:=rfl
theorem JG:min 2 6=2:=rfl
def AwN (v:VV):Prop:=∃ row,v = .ag row/\GE row
section
variable {V:At} (C:Aq V) {Q:VV->Prop}
include C
theorem B5 (l:List U8) (hl:l.length<=1000/\∀ x∈l,x.n < 256) (a:Nat) (ha:a<=l.length) (n:Int) (r:VH) {x0:Option VO} :
  Hs V Li [.p 1 0 0 0,.i .i64 n] (x0::MO l a::r) fun v h=>∃ k:Nat,v = .i .i64 k/\(1<=n->(k:Int) < n)/\MS x0 l r h:=by
 rw [Cm C.h_z117]
 by_cases c1:l.length<=a
 .simp only [Kc,go_sem,↓reduceIte,c1]
  exact ⟨0,rfl,fun h=>by omega,a,ha,rfl⟩
 .by_cases c2:n < 1
  .simp only [Kc,go_sem,↓reduceIte,c1,c2]
   exact ⟨0,rfl,fun h=>by omega,a,ha,rfl⟩
  .have h1:a < l.length:=by omega
   have h0:l[a]? = some l[a]:=getElem?_eq_getElem h1
   have hb:=hl.2 _ (getElem_mem h1)
   have w0:IntKind.i64.wrap ((l[a].n:Nat):Int)=(l[a].n:Nat):=Az (by omega) (by omega)
   have w3:((l[a].n:Nat):Int).tmod n=(((l[a].n:Nat):Int) % n):=Int.tmod_eq_emod_of_nonneg (by omega)
   have w1:=HL (show a < 9223372036854775807 by omega)
   have w2:IntKind.i64.wrap (((a+1:Nat):Int) - 1)=(a:Int):=by rw [Az (by omega) (by omega)];omega
   simp only [Kc,go_sem,↓reduceIte,c1,c2,h0,w1,w2,Hp (show n≠0 by omega),w0,w3]
   have m1:=Int.emod_nonneg ((l[a].n:Nat):Int) (show n≠0 by omega)
   have m2:=Int.emod_lt_of_pos ((l[a].n:Nat):Int) (show 0 < n by omega)
   exact ⟨(((l[a].n:Nat):Int) % n).toNat,by omega,fun h=>by omega,a+1,by omega,rfl⟩
theorem Kg (k:Nat) (hk:k < 4):VP V WD [.i .i64 k] Q↔Q (.s (A6n k)):=by
 refine Ae ?_
 rw [Ad C.c_z226.1 C.c_z226.2]
 have hm:((k:Int)).tmod 4=k:=by rw [Int.tmod_eq_emod_of_nonneg (by omega)];omega
 have w1:=HL (show k < 9223372036854775807 by omega)
 have hb:k<=k+1/\k+1<=({ toList:=[120,121,122,119] }:Array UInt8).size:=⟨by omega,by show k+1<=4;omega⟩
 simp only [A0B,go_sem,↓reduceIte,Hp (show (4:Int)≠0 by decide),hm,w1,hb]
 rcases (show k=0\/k=1\/k=2\/k=3 by omega) with rfl | rfl | rfl | rfl<;>rfl
theorem Ap5 (k:Nat) (hk:k < 4):VP V WU [.i .i64 k] Q↔Q (.s (A2t k)):=by
 refine Ae ?_
 rw [Ad C.c_z247.1 C.c_z247.2]
 have hm:((k:Int)).tmod 4=k:=by rw [Int.tmod_eq_emod_of_nonneg (by omega)];omega
 have w1:=HL (show k < 9223372036854775807 by omega)
 have hb:k<=k+1/\k+1<=({ toList:=[97,98,99,100] }:Array UInt8).size:=⟨by omega,by show k+1<=4;omega⟩
 simp only [A0R,go_sem,↓reduceIte,Hp (show (4:Int)≠0 by decide),hm,w1,hb]
 rcases (show k=0\/k=1\/k=2\/k=3 by omega) with rfl | rfl | rfl | rfl<;>rfl
abbrev vHp (vals:Int) (nl:Nat):VV:=.ag [.i .i64 vals,.i .i64 nl,.b false,.b false]
abbrev fHp (vals:Int) (nl:Nat):VV:=.fp [.i .i64 vals,.i .i64 nl,.b false,.b false] 0
theorem R4 (l:List U8) (hl:l.length<=1000/\∀ x∈l,x.n < 256) (a:Nat) (ha:a<=l.length) (vals:Int) (nl:Nat) (ms:List Int) (hm:1<=ms.length/\ms.length<=1000) (r:VH) {x0:Option VO} :
  Hs V WV [.p 1 0 0 0,vHp vals nl,lI ms] (x0::MO l a::r) fun v h=>(∃ k:Int,v = .i .i64 k/\k∈ms)/\MS x0 l r h:=by
 rw [Cm C.h_z248]
 simp only [A0S,go_sem,↓reduceIte]
 refine (B5 C l hl a ha _ r).mono ?_
 rintro _ _ ⟨k,rfl,hk,a,ha,rfl⟩
 have hk:=hk (by omega)
 have h0:k < ms.length:=by omega
 simp only [go_sem,↓reduceIte,Ar h0]
 exact ⟨Ai h0,a,ha,rfl⟩
theorem NB (l:List U8) (hl:l.length<=1000/\∀ x∈l,x.n < 256) (vals:Int) (hv:1<=vals/\vals<=4) (d:Nat):d<=1000->∀ (a:Nat) (ha:a<=l.length) (rg:VV) (hrg:KR rg) (r:VH) {x0:Option VO},
  Hs V Js [.p 1 0 0 0,rg,.i .i64 vals,.i .i64 d] (x0::MO l a::r) fun v h=>AwN v/\MS x0 l r h:=by
 induction d with
 | zero =>
  intro _ a ha rg hrg r x0
  rw [Cm C.h_z249]
  simp only [Ke,go_sem,↓reduceIte]
  refine (B5 C l hl a ha _ _).mono ?_
  rintro _ _ ⟨k,rfl,hk,a,ha,rfl⟩
  obtain ⟨h1,h6,h4,e⟩:=hrg
  have h5:=X7 h6 h4
  have h2:∀ (a:Nat) (ha:a<=l.length) (Q:VV->VH->Prop),(∀ (k:Nat) (a:Nat),a<=l.length->Q (.i .i64 k) (x0::MO l a::(r++[some { ty:=DR,esz:=0,ver:=0,nl:=false,rows:=[[.i .i64 0,.i .i64 0,.s (bs []),.nl]] }]))) ->
    Hs V Li [.p 1 0 0 0,.i .i64 vals] (x0::MO l a::(r++[some { ty:=DR,esz:=0,ver:=0,nl:=false,rows:=[[.i .i64 0,.i .i64 0,.s (bs []),.nl]] }])) Q:=fun a ha Q hq =>
   (B5 C l hl a ha _ _).mono (by rintro _ _ ⟨k,rfl,_,a,ha,rfl⟩;exact hq k a ha)
  rcases e with rfl | ⟨rfl,rfl⟩
  .by_cases z:h1.length=0
   .have z':¬ (0:Int) < h1.length:=by omega
    simp only [go_sem,↓reduceIte,z']
    refine h2 a ha _ ?_
    intro k a ha
    simp only [go_sem,↓reduceIte]
    exact ⟨⟨_,rfl,.mk _ _ _ _ (by simp) (by simp)⟩,a,ha,rfl⟩
   .have z':(0:Int) < h1.length:=by omega
    by_cases z2:(2:Int) < k
    .simp only [go_sem,↓reduceIte,z',z2]
     refine (B5 C l hl a ha _ _).mono ?_
     rintro _ _ ⟨k,rfl,hk,a,ha,rfl⟩
     have hk:=hk (by omega)
     have h3:k < h1.length:=by omega
     simp only [go_sem,↓reduceIte,Yj h3]
     exact ⟨⟨_,rfl,.mk _ _ _ _ (by simp) (by simp)⟩,a,ha,rfl⟩
    .simp only [go_sem,↓reduceIte,z',z2]
     refine h2 a ha _ ?_
     intro k a ha
     simp only [go_sem,↓reduceIte]
     exact ⟨⟨_,rfl,.mk _ _ _ _ (by simp) (by simp)⟩,a,ha,rfl⟩
  .simp only [go_sem,↓reduceIte,Int.lt_irrefl,dz0]
   refine h2 a ha _ ?_
   intro k a ha
   simp only [go_sem,↓reduceIte]
   exact ⟨⟨_,rfl,.mk _ _ _ _ (by simp) (by simp)⟩,a,ha,rfl⟩
 | succ d ih =>
  intro hd a ha rg hrg r x0
  have c0:(0:Int) < ((d+1:Nat):Int):=by omega
  rw [Cm C.h_z249]
  simp only [Ke,go_sem,↓reduceIte,c0]
  refine (B5 C l hl a ha _ _).mono ?_
  rintro _ _ ⟨k,rfl,hk,a,ha,rfl⟩
  by_cases c5:(5:Int) < k
  .simp only [go_sem,↓reduceIte,c5]
   refine (B5 C l hl a ha _ _).mono ?_
   rintro _ _ ⟨k2,rfl,h8,a,ha,rfl⟩
   have w1:IntKind.i64.wrap (((d+1:Nat):Int) - 1)=((d:Nat):Int):=by rw [Az (by omega) (by omega)];omega
   have h0:=hrg
   obtain ⟨h1,_,_,e⟩:=hrg
   rcases e with rfl | ⟨rfl,rfl⟩
   .simp only [go_sem,↓reduceIte,w1]
    refine (ih (by omega) a ha _ h0 _).mono ?_
    rintro _ _ ⟨⟨r1,rfl,g1⟩,a,ha,rfl⟩
    cases g1 with
    | mk o1 n1 m1 ks1 q1 q2 =>
    simp only [go_sem,↓reduceIte,w1]
    obtain ⟨⟨y0,r'⟩,h7⟩:=GY (args:=[.p 1 0 0 0,lS h1,.i .i64 vals,.i .i64 d]) x0 (MO l a) (r++[some { ty:=DR,esz:=0,ver:=0,nl:=false,rows:=[[.i .i64 0,.i .i64 0,.s (bs []),.nl]] },some { ty:=DR,esz:=0,ver:=0,nl:=false,rows:=[[.i .i64 o1,.i .i64 n1,.s m1,.ls ks1]] }]) rfl
    refine ⟨?_,?_⟩
    .rw [h7]
     exact (ih (by omega) a ha _ h0 _).to2
    refine (ih (by omega) a ha _ h0 _).mono ?_
    rintro _ _ ⟨⟨r2,rfl,g2⟩,a,ha,rfl⟩
    cases g2 with
    | mk o2 n2 m2 ks2 q3 q4 =>
    simp only [go_sem,↓reduceIte,w1]
    exact ⟨⟨_,rfl,.mk _ _ _ _ (by simp) (fun x hx=>by
     rcases List.mem_cons.1 hx with rfl | hx
     .exact .mk _ _ _ _ q1 q2
     .rw [List.mem_singleton.1 hx];exact .mk _ _ _ _ q3 q4)⟩,a,ha,rfl⟩
   .simp only [go_sem,↓reduceIte,w1]
    refine (ih (by omega) a ha _ h0 _).mono ?_
    rintro _ _ ⟨⟨r1,rfl,g1⟩,a,ha,rfl⟩
    cases g1 with
    | mk o1 n1 m1 ks1 q1 q2 =>
    simp only [go_sem,↓reduceIte,w1]
    obtain ⟨⟨y0,r'⟩,h7⟩:=GY (args:=[.p 1 0 0 0,.nl,.i .i64 vals,.i .i64 d]) x0 (MO l a) (r++[some { ty:=DR,esz:=0,ver:=0,nl:=false,rows:=[[.i .i64 0,.i .i64 0,.s (bs []),.nl]] },some { ty:=DR,esz:=0,ver:=0,nl:=false,rows:=[[.i .i64 o1,.i .i64 n1,.s m1,.ls ks1]] }]) rfl
    refine ⟨?_,?_⟩
    .rw [h7]
     exact (ih (by omega) a ha _ h0 _).to2
    refine (ih (by omega) a ha _ h0 _).mono ?_
    rintro _ _ ⟨⟨r2,rfl,g2⟩,a,ha,rfl⟩
    cases g2 with
    | mk o2 n2 m2 ks2 q3 q4 =>
    simp only [go_sem,↓reduceIte,w1]
    exact ⟨⟨_,rfl,.mk _ _ _ _ (by simp) (fun x hx=>by
     rcases List.mem_cons.1 hx with rfl | hx
     .exact .mk _ _ _ _ q1 q2
     .rw [List.mem_singleton.1 hx];exact .mk _ _ _ _ q3 q4)⟩,a,ha,rfl⟩
  .simp only [go_sem,↓reduceIte,c5]
   obtain ⟨h1,h6,h4,e⟩:=hrg
   have h5:=X7 h6 h4
   have h2:∀ (a:Nat) (ha:a<=l.length) (Q:VV->VH->Prop),(∀ (k:Nat) (a:Nat),a<=l.length->Q (.i .i64 k) (x0::MO l a::(r++[some { ty:=DR,esz:=0,ver:=0,nl:=false,rows:=[[.i .i64 0,.i .i64 0,.s (bs []),.nl]] }]))) ->
     Hs V Li [.p 1 0 0 0,.i .i64 vals] (x0::MO l a::(r++[some { ty:=DR,esz:=0,ver:=0,nl:=false,rows:=[[.i .i64 0,.i .i64 0,.s (bs []),.nl]] }])) Q:=fun a ha Q hq =>
    (B5 C l hl a ha _ _).mono (by rintro _ _ ⟨k,rfl,_,a,ha,rfl⟩;exact hq k a ha)
   rcases e with rfl | ⟨rfl,rfl⟩
   .by_cases z:h1.length=0
    .have z':¬ (0:Int) < h1.length:=by omega
     simp only [go_sem,↓reduceIte,z']
     refine h2 a ha _ ?_
     intro k a ha
     simp only [go_sem,↓reduceIte]
     exact ⟨⟨_,rfl,.mk _ _ _ _ (by simp) (by simp)⟩,a,ha,rfl⟩
    .have z':(0:Int) < h1.length:=by omega
     by_cases z2:(2:Int) < k
     .simp only [go_sem,↓reduceIte,z',z2]
      refine (B5 C l hl a ha _ _).mono ?_
      rintro _ _ ⟨k,rfl,hk,a,ha,rfl⟩
      have hk:=hk (by omega)
      have h3:k < h1.length:=by omega
      simp only [go_sem,↓reduceIte,Yj h3]
      exact ⟨⟨_,rfl,.mk _ _ _ _ (by simp) (by simp)⟩,a,ha,rfl⟩
     .simp only [go_sem,↓reduceIte,z',z2]
      refine h2 a ha _ ?_
      intro k a ha
      simp only [go_sem,↓reduceIte]
      exact ⟨⟨_,rfl,.mk _ _ _ _ (by simp) (by simp)⟩,a,ha,rfl⟩
   .simp only [go_sem,↓reduceIte,Int.lt_irrefl,dz0]
    refine h2 a ha _ ?_
    intro k a ha
    simp only [go_sem,↓reduceIte]
    exact ⟨⟨_,rfl,.mk _ _ _ _ (by simp) (by simp)⟩,a,ha,rfl⟩
def ArX (v:VV):Prop:=∃ l:List ByteArray,l.Nodup/\(∀ n∈l,n∈N4)/\v=lS l
theorem Alp (nms:List ByteArray) (hnd:nms.Nodup) (hn4:∀ n∈nms,n∈N4) (reg:ByteArray) (hreg:reg∈N4):VP V WW [lS nms,.s reg] ArX:=by
 have hl:=X7 hnd hn4
 rw [Ad C.c_z250.1 C.c_z250.2]
 simp only [A0U,go_sem,↓reduceIte]
 refine Ab (by decide) nms.length (by omega) (I:=fun k F h=>h=[]/\A4.tmp F 0=lS nms/\A4.tmp F 1 = .s reg/\∀ (j:Nat) (hj:j < nms.length),j < k->¬ reg=nms[j]) ?_ ?_ ?_ 0 _ _ (zero_le _) ?_ ?_
 .rintro k F h hk p5 ⟨rfl,p0,p1,p2⟩
  simp only [go_sem,↓reduceIte,p5,p0,p1]
  exact p2
 .rintro k F h hk p5 ⟨rfl,p0,p1,p2⟩
  by_cases e:nms[k]=reg
  .simp only [go_sem,↓reduceIte,p5,p0,p1,Yj hk,e]
   exact ⟨nms,hnd,hn4,rfl⟩
  .simp only [go_sem,↓reduceIte,p5,p0,p1,Yj hk,e]
   intro j hj h1
   by_cases e2:j=k
   .subst e2;exact fun h=>e h.symm
   .exact p2 j hj (by omega)
 .rintro F h ⟨rfl,p0,p1,p2⟩
  have h0:reg∉nms:=fun h=>by
   obtain ⟨j,hj,e⟩:=List.mem_iff_getElem.1 h
   exact p2 j hj hj e.symm
  have b0:nms.length * 16<=Aa:=by unfold Aa;omega
  have b1:(nms.length+1) * 16<=Aa:=by unfold Aa;omega
  simp only [go_sem,↓reduceIte,p0,p1,b0,b1]
  refine ⟨nms++[reg],List.nodup_append.2 ⟨hnd,by simp,by intro a ha b hb;simp at hb;subst hb;intro e;subst e;exact h0 ha⟩,fun n hn=>?_,?_⟩
  .rcases List.mem_append.1 hn with h | h
   .exact hn4 n h
   .rw [List.mem_singleton.1 h];exact hreg
  .rfl
 .simp only [go_sem,↓reduceIte]
 .simp only [go_sem,↓reduceIte]
  intro j hj h1;omega
omit C in
theorem KR.frz {g:VV} (h:KR g):∃ nms:List ByteArray,nms.Nodup/\(∀ n∈nms,n∈N4)/\(∀ (hh:VH) (d:Nat),frz hh (d+1) g=some (lS nms,[]))/\(∀ L,QO L g=g)/\∀ L,bel L g=true:=by
 obtain ⟨l,h1,h2,rfl | ⟨rfl,rfl⟩⟩:=h
 .exact ⟨l,h1,h2,fun _ _=>rfl,fun _=>rfl,fun _=>rfl⟩
 .exact ⟨[],h1,h2,fun _ _=>rfl,fun _=>rfl,fun _=>rfl⟩
omit C in
theorem KR.nil:KR .nl:=⟨[],by simp,by simp,.inr ⟨rfl,rfl⟩⟩
omit C in
theorem Ag9 {k:Nat} (hk:k < 4):A2t k∈N4/\(A2t k).size<=1000/\decide (A2t k=bs [])=false:=by
 rcases (show k=0\/k=1\/k=2\/k=3 by omega) with rfl | rfl | rfl | rfl<;>exact ⟨by simp [N4,A2t,bs],by decide,by decide⟩
def K6 (nl:Nat):List ByteArray:=(List.range nl).map A6n
omit C in
theorem Ag7 {k nl:Nat} (hk:k < nl):A6n k∈K6 nl:=List.mem_map.2 ⟨k,List.mem_range.2 hk,rfl⟩
omit C in
theorem oks {L:List ByteArray} {kind mode:Int} {reg loc:ByteArray} {n:Nat} (hk:1<=kind/\kind<=7) (hr:Jy kind=true->reg∈N4) (hn:1<=n\/kind=2\/kind=6) (h2:kind=5->2<=n) (hl:kind=2\/kind=3\/kind=4\/kind=5->loc∈L)
  (m2:kind=2->mode=0\/mode=1\/mode=4) (m3:kind=3->mode=0\/mode=2\/mode=4) (ma:kind=4\/kind=5->0<=mode/\mode<=4) (mf:kind=6->1<=mode/\mode<=4) (hs:reg.size<=1000):OKS L kind mode reg loc n :=
 ⟨hk,hr,fun h=>by omega,h2,hl,m2,m3,ma,mf,hs⟩
omit C in
theorem Ny {α:Type} {f:α->Option (α×List Nat)}:∀ {l:List α},(∀ x∈l,f x=some (x,[]))->Bh f l=some (l,[])
 | [],_=>rfl
 | x::xs,h=>by
  rw [Bh,h x mem_cons_self,Ny fun y hy=>h y (mem_cons_of_mem _ hy)];rfl
omit C in
theorem Ali {L:List ByteArray} {rows:List (List VV)} (h:∀ s∈rows,GS L s) (hh:VH) (d:Nat):Bh (fun row=>Bh (frz hh (d+1)) row) rows=some (rows,[]):=Ny fun s hs=>(h s hs).frz
omit C in
theorem GS.bel {L:List ByteArray} {s:List VV} (h:GS L s) (n:Nat):Db n s=true:=by cases h;rfl
def SI (x0:Option VO) (l:List U8) (L:List ByteArray) (r:VH) (k:Nat) (v12:VV) (h:VH):Prop:=∃ (a:Nat) (rows:List (List VV)),a<=l.length/\rows.length<=k/\(∀ s∈rows,GS L s)/\v12 = .sl (r.length+1+1) rows.length 0 rows.length/\h=x0::MO l a::(r++[some (AW Pt 7 rows)])
omit C in
theorem SI.fin {x0:Option VO} {l:List U8} {L:List ByteArray} {r:VH} {k a:Nat} {rows:List (List VV)} {row:List VV} (ha:a<=l.length) (hrl:rows.length<=k) (hrs:∀ s∈rows,GS L s) (hg:GS L row) :
  (∀ n,(rows++[row]).all (Db n)=true)/\SI x0 l L r (k+1) (.sl (r.length+1+1) (rows.length+1) 0 (rows.length+1)) (x0::MO l a::(r++[some (AW Pt 7 (rows++[row]))])):=by
 have h0:∀ s∈rows++[row],GS L s:=fun s hs=>by
  rcases List.mem_append.1 hs with h | h
  .exact hrs s h
  .rw [List.mem_singleton.1 h];exact hg
 exact ⟨fun n=>by rw [all_eq_true];exact fun s hs=>(h0 s hs).bel n,a,rows++[row],ha,by simp;omega,h0,by simp,rfl⟩
def AmN (L:List ByteArray) (n:Nat) (v:VV):Prop:=∃ (rows:List (List VV)) (g:VV),v = .tu [.ls rows,g]/\rows.length<=n/\(∀ s∈rows,GS L s)/\ArX g
theorem Mm (l:List U8) (hl:l.length<=1000/\∀ x∈l,x.n < 256) (vals:Int) (hv:1<=vals/\vals<=4) (nl:Nat) (hnl:1<=nl/\nl<=4) (d:Nat) (hd:d<=10) (ih:0 < d->∀ (a:Nat) (ha:a<=l.length) (rg:VV) (hrg:KR rg) (r:VH) {x0:Option VO},
      Hs V Mq [.p 1 0 0 0,vHp vals nl,.i .i64 1,.i .i64 ((d - 1:Nat):Int),rg] (x0::MO l a::r) fun v h=>AmN (K6 nl) 1 v/\MS x0 l r h)
    (n:Nat) (hn:n<=10) (a:Nat) (ha:a<=l.length) (rg:VV) (hrg:KR rg) (r:VH) {x0:Option VO} :
    Hs V Mq [.p 1 0 0 0,vHp vals nl,.i .i64 n,.i .i64 d,rg] (x0::MO l a::r) fun v h=>AmN (K6 nl) n v/\MS x0 l r h:=by
  rw [Cm C.h_z227]
  simp only [A0C,go_sem,↓reduceIte]
  refine Ab (by decide) n (by omega) (I:=fun k F h=>SI x0 l (K6 nl) r k (A4.tmp F 12) h/\A4.tmp F 0 = .p 1 0 0 0/\A4.tmp F 2 = .i .i64 n/\A4.tmp F 3 = .i .i64 d/\KR (A4.tmp F 4)/\A4.tmp F 6=fHp vals nl) ?_ ?_ ?_ 0 _ _ (zero_le _) ?_ ?_
  · rintro k F h hk h3 ⟨q0, p0, p2, p3, h4, p6⟩
    simp only [go_sem,↓reduceIte,h3,p0,p2,p3,p6]
    exact ⟨q0,h4⟩
  · rintro k F h hk h3 ⟨⟨a, rows, ha, hc, h9, h2, rfl⟩, p0, p2, p3, h4, p6⟩
    obtain ⟨hy,hw,hu,h5,h6,h0⟩:=h4.frz
    have b1:(rows.length+1) * 120<=Aa:=by unfold Aa;omega
    simp only [Ads,go_sem,↓reduceIte,p0,p3,p6,h2,h3]
    refine (B5 C l hl a ha _ _).mono ?_
    rintro _ _ ⟨hp,rfl,q3,a,ha,rfl⟩
    try simp only [go_sem,↓reduceIte,p0,p3,p6,h2,h3]
    refine (B5 C l hl a ha _ _).mono ?_
    rintro _ _ ⟨hi,rfl,hf,a,ha,rfl⟩
    have hf:hi < 4:=by have:=hf (by omega);omega
    obtain ⟨ho,hr,h1⟩:=Ag9 hf
    try simp only [go_sem,↓reduceIte,p0,p3,p6,h2,h3,Ap5 C hi hf]
    refine (B5 C l hl a ha _ _).mono ?_
    rintro _ _ ⟨hj,rfl,hh,a,ha,rfl⟩
    have hh:hj < nl:=by have:=hh (by omega);omega
    have hq:=Ag7 hh
    obtain ⟨_,⟨hg,w1,w2,rfl⟩,qw⟩:=Cr (Alp C hy hw hu (A2t hi) ho)
    try simp only [go_sem,↓reduceIte,p0,p2,p3,p6,h2,h3,Kg C hj (by omega)]
    by_cases c4:(hp:Int) < 4
    · try simp only [go_sem, ↓reduceIte, p0, p2, p3, p6, h2, h3, h5, h6, h0, h1, b1, qw, A0, JF, JG, c4]
      refine (R4 C l hl a ha vals nl [0,1,4] (by simp) _).mono ?_
      rintro _ _ ⟨⟨m,rfl,hm⟩,a,ha,rfl⟩
      simp only [mem_cons,not_mem_nil,or_false] at hm
      try simp only [go_sem,↓reduceIte,p0,p2,p3,p6,h2,h3,h5,h6,h0,h1,b1,qw,A0,JF,JG]
      have h8:GS (K6 nl) (rS 2 m (A2t hi) (A6n hj) [] [] []):=.mk _ _ _ _ _ _ _ (by simp) (by simp) (by simp) (by simp) (by simp) (by simp) (oks (by omega) (fun _=>ho) (by omega) (by omega) (fun _=>hq) (fun _=>hm) (by omega) (by omega) (by omega) hr)
      have h7:=SI.fin (x0:=x0) (r:=r) ha hc h9 h8
      exact ⟨.inr (h7.1 _),h7.2,⟨hg,w1,w2,.inl rfl⟩⟩
    by_cases c8:(hp:Int) < 8
    · try simp only [go_sem, ↓reduceIte, p0, p2, p3, p6, h2, h3, h5, h6, h0, h1, b1, qw, A0, JF, JG, c4, c8]
      refine (R4 C l hl a ha vals nl [0,2,4] (by simp) _).mono ?_
      rintro _ _ ⟨⟨m,rfl,hm⟩,a,ha,rfl⟩
      simp only [mem_cons,not_mem_nil,or_false] at hm
      try simp only [go_sem,↓reduceIte,p0,p2,p3,p6,h2,h3,h5,h6,h0,h1,b1,qw,A0,JF,JG]
      refine (NB C l hl vals hv 1 (by omega) a ha _ h4 _).mono ?_
      rintro _ _ ⟨⟨r1,rfl,g1⟩,a,ha,rfl⟩
      have hb:=g1
      cases g1 with
      | mk o1 n1 m1 ks1 q1 z1 =>
      try simp only [go_sem,↓reduceIte,p0,p2,p3,p6,h2,h3,h5,h6,h0,h1,b1,qw,A0,JF,JG]
      have h8:GS (K6 nl) (rS 3 m (bs []) (A6n hj) [[.i .i64 o1,.i .i64 n1,.s m1,.ls ks1]] [] []):=.mk _ _ _ _ _ _ _ (by simp) (by intro x hx;rw [List.mem_singleton.1 hx];exact hb) (by simp) (by simp) (by simp) (by simp) (oks (by omega) (fun h=>by simp [Jy] at h) (.inl (by simp)) (by omega) (fun _=>hq) (by omega) (fun _=>hm) (by omega) (by omega) (by decide))
      have h7:=SI.fin (x0:=x0) (r:=r) ha hc h9 h8
      exact ⟨.inr (h7.1 _),h7.2,h4⟩
    by_cases e8:(hp:Int)=8
    · try simp only [go_sem, ↓reduceIte, p0, p2, p3, p6, h2, h3, h5, h6, h0, h1, b1, qw, A0, JF, JG, c4, c8, e8]
      refine (R4 C l hl a ha vals nl [0,1,2,3,4] (by simp) _).mono ?_
      rintro _ _ ⟨⟨m,rfl,hm⟩,a,ha,rfl⟩
      simp only [mem_cons,not_mem_nil,or_false] at hm
      try simp only [go_sem,↓reduceIte,p0,p2,p3,p6,h2,h3,h5,h6,h0,h1,b1,qw,A0,JF,JG]
      refine (NB C l hl vals hv 1 (by omega) a ha _ h4 _).mono ?_
      rintro _ _ ⟨⟨r1,rfl,g1⟩,a,ha,rfl⟩
      have hb:=g1
      cases g1 with
      | mk o1 n1 m1 ks1 q1 z1 =>
      try simp only [go_sem,↓reduceIte,p0,p2,p3,p6,h2,h3,h5,h6,h0,h1,b1,qw,A0,JF,JG]
      have h8:GS (K6 nl) (rS 4 m (A2t hi) (A6n hj) [[.i .i64 o1,.i .i64 n1,.s m1,.ls ks1]] [] []):=.mk _ _ _ _ _ _ _ (by simp) (by intro x hx;rw [List.mem_singleton.1 hx];exact hb) (by simp) (by simp) (by simp) (by simp) (oks (by omega) (fun _=>ho) (.inl (by simp)) (by omega) (fun _=>hq) (by omega) (by omega) (fun _=>by omega) (by omega) hr)
      have h7:=SI.fin (x0:=x0) (r:=r) ha hc h9 h8
      exact ⟨.inr (h7.1 _),h7.2,⟨hg,w1,w2,.inl rfl⟩⟩
    by_cases e9:(hp:Int)=9
    · by_cases cd : (0 : Int) < d
      · have wd : IntKind.i64.wrap (((d : Nat) : Int) - 1) = ((d - 1 : Nat) : Int) := by rw [Az (by omega) (by omega)]; omega
        try simp only [go_sem,↓reduceIte,p0,p2,p3,p6,h2,h3,h5,h6,h0,h1,b1,qw,A0,JF,JG,c4,c8,e8,e9,cd]
        refine (NB C l hl vals hv 1 (by omega) a ha _ h4 _).mono ?_
        rintro _ _ ⟨⟨r1,rfl,g1⟩,a,ha,rfl⟩
        have hb:=g1
        cases g1 with
        | mk o1 n1 m1 ks1 q1 z1 =>
        try simp only [go_sem,↓reduceIte,p0,p2,p3,p6,h2,h3,h5,h6,h0,h1,b1,qw,A0,JF,JG,wd]
        refine (ih (by omega) a ha _ h4 _).mono ?_
        rintro _ _ ⟨⟨rt,gt,rfl,lt,ht,gk⟩,a,ha,rfl⟩
        obtain ⟨q7,_,_,rfl⟩:=gk
        try simp only [go_sem,↓reduceIte,p0,p2,p3,p6,h2,h3,h5,h6,h0,h1,b1,qw,A0,JF,JG,wd]
        refine (B5 C l hl a ha _ _).mono ?_
        rintro _ _ ⟨kp,rfl,q5,a,ha,rfl⟩
        by_cases ep:(kp:Int)=1
        · try simp only [go_sem, ↓reduceIte, p0, p2, p3, p6, h2, h3, h5, h6, h0, h1, b1, qw, A0, JF, JG, wd, ep]
          refine (ih (by omega) a ha _ h4 _).mono ?_
          rintro _ _ ⟨⟨re,ge,rfl,le,he,gk⟩,a,ha,rfl⟩
          obtain ⟨q6,_,_,rfl⟩:=gk
          try simp only [go_sem,↓reduceIte,p0,p2,p3,p6,h2,h3,h5,h6,h0,h1,b1,qw,A0,JF,JG,wd]
          have h8:GS (K6 nl) (rS 7 0 (bs []) (bs []) [[.i .i64 o1,.i .i64 n1,.s m1,.ls ks1]] rt re):=.mk _ _ _ _ _ _ _ (by simp) (by intro x hx;rw [List.mem_singleton.1 hx];exact hb) (by omega) (by omega) (ht) (he) (oks (by omega) (fun h=>by simp [Jy] at h) (.inl (by simp)) (by omega) (by omega) (by omega) (by omega) (by omega) (by omega) (by decide))
          have h7:=SI.fin (x0:=x0) (r:=r) ha hc h9 h8
          exact ⟨.inr (h7.1 _),h7.2,h4⟩
        · try simp only [go_sem, ↓reduceIte, p0, p2, p3, p6, h2, h3, h5, h6, h0, h1, b1, qw, A0, JF, JG, wd, ep]
          have h8:GS (K6 nl) (rS 7 0 (bs []) (bs []) [[.i .i64 o1,.i .i64 n1,.s m1,.ls ks1]] rt []):=.mk _ _ _ _ _ _ _ (by simp) (by intro x hx;rw [List.mem_singleton.1 hx];exact hb) (by omega) (by simp) (ht) (by simp) (oks (by omega) (fun h=>by simp [Jy] at h) (.inl (by simp)) (by omega) (by omega) (by omega) (by omega) (by omega) (by omega) (by decide))
          have h7:=SI.fin (x0:=x0) (r:=r) ha hc h9 h8
          exact ⟨.inr (h7.1 _),h7.2,h4⟩
      · try simp only [go_sem, ↓reduceIte, p0, p2, p3, p6, h2, h3, h5, h6, h0, h1, b1, qw, A0, JF, JG, c4, c8, e8, e9, cd]
        refine (R4 C l hl a ha vals nl [0,1,2,3,4] (by simp) _).mono ?_
        rintro _ _ ⟨⟨m,rfl,hm⟩,a,ha,rfl⟩
        simp only [mem_cons,not_mem_nil,or_false] at hm
        try simp only [go_sem,↓reduceIte,p0,p2,p3,p6,h2,h3,h5,h6,h0,h1,b1,qw,A0,JF,JG]
        refine (NB C l hl vals hv 0 (by omega) a ha _ h4 _).mono ?_
        rintro _ _ ⟨⟨r1,rfl,g1⟩,a,ha,rfl⟩
        have hb:=g1
        cases g1 with
        | mk o1 n1 m1 ks1 q1 z1 =>
        try simp only [go_sem,↓reduceIte,p0,p2,p3,p6,h2,h3,h5,h6,h0,h1,b1,qw,A0,JF,JG]
        refine (NB C l hl vals hv 0 (by omega) a ha _ h4 _).mono ?_
        rintro _ _ ⟨⟨r2,rfl,g2⟩,a,ha,rfl⟩
        have hz:=g2
        cases g2 with
        | mk o2 n2 m2 ks2 q2 z2 =>
        try simp only [go_sem,↓reduceIte,p0,p2,p3,p6,h2,h3,h5,h6,h0,h1,b1,qw,A0,JF,JG]
        have h8:GS (K6 nl) (rS 5 m (A2t hi) (A6n hj) [[.i .i64 o1,.i .i64 n1,.s m1,.ls ks1],[.i .i64 o2,.i .i64 n2,.s m2,.ls ks2]] [] []):=.mk _ _ _ _ _ _ _ (by simp) (by intro x hx;rcases List.mem_cons.1 hx with rfl | hx;exact hb;rw [List.mem_singleton.1 hx];exact hz) (by simp) (by simp) (by simp) (by simp) (oks (by omega) (fun _=>ho) (.inl (by simp)) (fun _=>by simp) (fun _=>hq) (by omega) (by omega) (fun _=>by omega) (by omega) hr)
        have h7:=SI.fin (x0:=x0) (r:=r) ha hc h9 h8
        exact ⟨.inr (h7.1 _),h7.2,⟨hg,w1,w2,.inl rfl⟩⟩
    by_cases e10:(hp:Int)=10
    · try simp only [go_sem, ↓reduceIte, p0, p2, p3, p6, h2, h3, h5, h6, h0, h1, b1, qw, A0, JF, JG, c4, c8, e8, e9, e10]
      refine (R4 C l hl a ha vals nl [1,2,3,4] (by simp) _).mono ?_
      rintro _ _ ⟨⟨m,rfl,hm⟩,a,ha,rfl⟩
      simp only [mem_cons,not_mem_nil,or_false] at hm
      try simp only [go_sem,↓reduceIte,p0,p2,p3,p6,h2,h3,h5,h6,h0,h1,b1,qw,A0,JF,JG]
      have h8:GS (K6 nl) (rS 6 m (bs []) (bs []) [] [] []):=.mk _ _ _ _ _ _ _ (by simp) (by simp) (by simp) (by simp) (by simp) (by simp) (oks (by omega) (fun h=>by simp [Jy] at h) (by omega) (by omega) (by omega) (by omega) (by omega) (by omega) (fun _=>by omega) (by decide))
      have h7:=SI.fin (x0:=x0) (r:=r) ha hc h9 h8
      exact ⟨.inr (h7.1 _),h7.2,h4⟩
    · try simp only [go_sem, ↓reduceIte, p0, p2, p3, p6, h2, h3, h5, h6, h0, h1, b1, qw, A0, JF, JG, c4, c8, e8, e9, e10]
      refine (NB C l hl vals hv 2 (by omega) a ha _ h4 _).mono ?_
      rintro _ _ ⟨⟨r1,rfl,g1⟩,a,ha,rfl⟩
      have hb:=g1
      cases g1 with
      | mk o1 n1 m1 ks1 q1 z1 =>
      try simp only [go_sem,↓reduceIte,p0,p2,p3,p6,h2,h3,h5,h6,h0,h1,b1,qw,A0,JF,JG]
      have h8:GS (K6 nl) (rS 1 0 (A2t hi) (bs []) [[.i .i64 o1,.i .i64 n1,.s m1,.ls ks1]] [] []):=.mk _ _ _ _ _ _ _ (by simp) (by intro x hx;rw [List.mem_singleton.1 hx];exact hb) (by simp) (by simp) (by simp) (by simp) (oks (by omega) (fun _=>ho) (.inl (by simp)) (by omega) (by omega) (by omega) (by omega) (by omega) (by omega) hr)
      have h7:=SI.fin (x0:=x0) (r:=r) ha hc h9 h8
      exact ⟨.inr (h7.1 _),h7.2,⟨hg,w1,w2,.inl rfl⟩⟩
  · rintro F h ⟨⟨a, rows, ha, hc, h9, h2, rfl⟩, p0, p2, p3, h4, p6⟩
    obtain ⟨hy,hw,hu,h5,h6,h0⟩:=h4.frz
    have q4:=Ali h9
    simp only [go_sem,↓reduceIte,h2,h5,q4]
    exact ⟨⟨rows,_,rfl,hc,h9,hy,hw,hu,rfl⟩,a,ha,rfl⟩
  · simp only [go_sem,↓reduceIte]
  · simp only [go_sem, ↓reduceIte]
    exact ⟨⟨a,[],ha,by simp,by simp,rfl,rfl⟩,hrg⟩
theorem AhJ (l:List U8) (hl:l.length<=1000/\∀ x∈l,x.n < 256) (vals:Int) (hv:1<=vals/\vals<=4) (nl:Nat) (hnl:1<=nl/\nl<=4) (d:Nat):d<=10->∀ (n:Nat) (hn:n<=10) (a:Nat) (ha:a<=l.length) (rg:VV) (hrg:KR rg) (r:VH) {x0:Option VO},
  Hs V Mq [.p 1 0 0 0,vHp vals nl,.i .i64 n,.i .i64 d,rg] (x0::MO l a::r) fun v h=>AmN (K6 nl) n v/\MS x0 l r h:=by
 induction d with
 | zero=>exact fun _ n hn a ha rg hrg r=>Mm C l hl vals hv nl hnl 0 (by omega) (fun h=>absurd h (by omega)) n hn a ha rg hrg r
 | succ d ih=>exact fun _ n hn a ha rg hrg r=>Mm C l hl vals hv nl hnl (d+1) (by omega) (fun _ a ha rg hrg r=>ih (by omega) 1 (by omega) a ha rg hrg r) n hn a ha rg hrg r
end
theorem AhC {args:List VV} (y x:Option VO) (r:VH) (j:Nat) (h0:(A1T args).contains 1=true) (h1:(A1T args).contains (j+1+1)=true):∃ y' r',BL (Ml args (y::x::r)) (y::x::r)=y'::x::r'/\r'[j]? = r[j]?:=by
 obtain ⟨⟨y',r'⟩,h2⟩:=GY y x r h0
 refine ⟨y',r',h2,?_⟩
 have:=Adw (y::x::r) (j+1+1) h1
 rw [h2] at this
 simpa using this
def AnV (v:VV):Prop:=∃ row,v = .ag row/\GC row
section
variable {V:At} (C:Aq V) {Q:VV->Prop}
include C
theorem Pd (l:List U8) (hl:l.length<=1000/\∀ x∈l,x.n < 256) (vals:Int) (hv:1<=vals/\vals<=4) (nl:Nat) (hnl:1<=nl/\nl<=4) (rg:List (List ByteArray)) (hrg:1<=rg.length/\rg.length<=4) (d:Nat) (hd:d<=10)
  (ih:0 < d->∀ (a:Nat) (ha:a<=l.length) (j:Nat) (r:VH) (hR:r[j]? = some (some (AW C7 1 (rg.map JE)))) {x0:Option VO},
   Hs V H5 [.p 1 0 0 0,vHp vals nl,.sl (j+1+1) rg.length 0 rg.length,.i .i64 ((d - 1:Nat):Int)] (x0::MO l a::r) fun v h=>AnV v/\MS x0 l r h)
  (a:Nat) (ha:a<=l.length) (j:Nat) (r:VH) (hR0:r[j]? = some (some (AW C7 1 (rg.map JE)))) {x0:Option VO} :
  Hs V H5 [.p 1 0 0 0,vHp vals nl,.sl (j+1+1) rg.length 0 rg.length,.i .i64 d] (x0::MO l a::r) fun v h=>AnV v/\MS x0 l r h:=by
 have h6:j < r.length:=(List.getElem?_eq_some_iff.1 hR0).1
 have hR:∀ x,(r++x)[j]? = some (some (AW C7 1 (rg.map JE))):=fun x=>by rw [List.getElem?_append_left h6];exact hR0
 have h4:(List.length r+1 == j)=false:=by rw [beq_eq_false_iff_ne];omega
 have h2:=G8 (ty:=C7) (e:=1) (rows:=rg.map JE) (by rw [length_map];omega)
 rw [Cm C.h_z228]
 simp only [L6,go_sem,↓reduceIte]
 refine (B5 C l hl a ha _ _).mono ?_
 rintro _ _ ⟨k,rfl,hk,a,ha,rfl⟩
 by_cases c0:(0:Int) < d
 .by_cases c3:(3:Int) < k
  .have wd:IntKind.i64.wrap (((d:Nat):Int) - 1)=((d - 1:Nat):Int):=by rw [Az (by omega) (by omega)];omega
   by_cases c4:(k:Int)=4
   .simp only [go_sem,↓reduceIte,c0,c3,c4,wd]
    refine (ih (by omega) a ha j _ (hR _)).mono ?_
    rintro _ _ ⟨⟨row,rfl,g1⟩,a,ha,rfl⟩
    have h3:=g1
    cases g1 with
    | mk o1 t1 m1 n1 ks1 q1 z1 =>
    try simp only [go_sem,↓reduceIte,wd,h4]
    exact ⟨⟨_,rfl,.mk _ _ _ _ _ (by simp) (by intro x hx;rw [List.mem_singleton.1 hx];exact h3)⟩,a,ha,rfl⟩
   .simp only [go_sem,↓reduceIte,c0,c3,c4,wd]
    refine (B5 C l hl a ha _ _).mono ?_
    rintro _ _ ⟨k2,rfl,h9,a,ha,rfl⟩
    try simp only [go_sem,↓reduceIte,c0,c3,c4,wd]
    refine (ih (by omega) a ha j _ (hR _)).mono ?_
    rintro _ _ ⟨⟨row,rfl,g1⟩,a,ha,rfl⟩
    have h3:=g1
    cases g1 with
    | mk o1 t1 m1 n1 ks1 q1 z1 =>
    try simp only [go_sem,↓reduceIte,wd,h4]
    refine ⟨?_,?_⟩
    .obtain ⟨y0,r',h7,h8⟩:=AhC (args:=[.p 1 0 0 0,vHp vals nl,.sl (j+1+1) rg.length 0 rg.length,.i .i64 ((d - 1:Nat):Int)]) x0 (MO l a) (r++[some { ty:=YX,esz:=0,ver:=0,nl:=false,rows:=[[.i .i64 0,.i .i64 0,.s (bs []),.i .i64 0,.nl]] },some { ty:=YX,esz:=0,ver:=0,nl:=false,rows:=[[.i .i64 o1,.i .i64 t1,.s m1,.i .i64 n1,.ls ks1]] }]) j rfl (by simp [A1T])
     rw [h7]
     exact (ih (by omega) a ha j _ (h8.trans (hR _))).to2
    refine (ih (by omega) a ha j _ (hR _)).mono ?_
    rintro _ _ ⟨⟨row,rfl,g2⟩,a,ha,rfl⟩
    have h5:=g2
    cases g2 with
    | mk o2 t2 m2 n2 ks2 q2 z2 =>
    try simp only [go_sem,↓reduceIte,wd,h4]
    exact ⟨⟨_,rfl,.mk _ _ _ _ _ (by simp) (by intro x hx;rcases List.mem_cons.1 hx with rfl | hx;exact h3;rw [List.mem_singleton.1 hx];exact h5)⟩,a,ha,rfl⟩
  .simp only [go_sem,↓reduceIte,c0,c3]
   refine (B5 C l hl a ha _ _).mono ?_
   rintro _ _ ⟨t,rfl,ht,a,ha,rfl⟩
   have ht:t < rg.length:=by have:=ht (by omega);omega
   have h0:=Md ht
   have h1:(t:Int) < rg.length:=by omega
   by_cases k0:(0:Int) < k
   .by_cases z:(0:Int) < (rg.getD t []).length
    .try simp only [go_sem,↓reduceIte,k0,hR,h0,G9,h2,h1,z,length_map,getElem?_map]
     refine ⟨by rw [(GY x0 (MO l a) _ rfl).choose_spec];exact (B5 C l hl a ha _ _).to2,?_⟩
     refine (B5 C l hl a ha _ _).mono ?_
     rintro _ _ ⟨q,rfl,hq,a,ha,rfl⟩
     have hq:q < (rg.getD t []).length:=by have:=hq (by omega);omega
     try simp only [go_sem,↓reduceIte,k0,hR,h0,G9,h2,h1,z,length_map,getElem?_map,Yj hq]
     refine ⟨by rw [(GY x0 (MO l a) _ rfl).choose_spec];exact (B5 C l hl a ha _ _).to2,?_⟩
     refine (B5 C l hl a ha _ _).mono ?_
     rintro _ _ ⟨n,rfl,hn,a,ha,rfl⟩
     try simp only [go_sem,↓reduceIte,k0,hR,h0,G9,h2,h1,z,length_map,getElem?_map,Yj hq]
     exact ⟨⟨_,rfl,.mk _ _ _ _ _ (by simp) (by simp)⟩,a,ha,rfl⟩
    .try simp only [go_sem,↓reduceIte,k0,hR,h0,G9,h2,h1,z,length_map,getElem?_map]
     refine (B5 C l hl a ha _ _).mono ?_
     rintro _ _ ⟨i,rfl,hi,a,ha,rfl⟩
     have hi:i < 4:=by have:=hi (by omega);omega
     try simp only [go_sem,↓reduceIte,Kg C i hi]
     refine (B5 C l hl a ha _ _).mono ?_
     rintro _ _ ⟨n,rfl,hn,a,ha,rfl⟩
     try simp only [go_sem,↓reduceIte,Kg C i hi]
     exact ⟨⟨_,rfl,.mk _ _ _ _ _ (by simp) (by simp)⟩,a,ha,rfl⟩
   .try simp only [go_sem,↓reduceIte,k0]
    refine (B5 C l hl a ha _ _).mono ?_
    rintro _ _ ⟨i,rfl,hi,a,ha,rfl⟩
    have hi:i < 4:=by have:=hi (by omega);omega
    try simp only [go_sem,↓reduceIte,Kg C i hi]
    refine (B5 C l hl a ha _ _).mono ?_
    rintro _ _ ⟨n,rfl,hn,a,ha,rfl⟩
    try simp only [go_sem,↓reduceIte,Kg C i hi]
    exact ⟨⟨_,rfl,.mk _ _ _ _ _ (by simp) (by simp)⟩,a,ha,rfl⟩
 .simp only [go_sem,↓reduceIte,c0]
  refine (B5 C l hl a ha _ _).mono ?_
  rintro _ _ ⟨t,rfl,ht,a,ha,rfl⟩
  have ht:t < rg.length:=by have:=ht (by omega);omega
  have h0:=Md ht
  have h1:(t:Int) < rg.length:=by omega
  by_cases k0:(0:Int) < k
  .by_cases z:(0:Int) < (rg.getD t []).length
   .try simp only [go_sem,↓reduceIte,k0,hR,h0,G9,h2,h1,z,length_map,getElem?_map]
    refine ⟨by rw [(GY x0 (MO l a) _ rfl).choose_spec];exact (B5 C l hl a ha _ _).to2,?_⟩
    refine (B5 C l hl a ha _ _).mono ?_
    rintro _ _ ⟨q,rfl,hq,a,ha,rfl⟩
    have hq:q < (rg.getD t []).length:=by have:=hq (by omega);omega
    try simp only [go_sem,↓reduceIte,k0,hR,h0,G9,h2,h1,z,length_map,getElem?_map,Yj hq]
    refine ⟨by rw [(GY x0 (MO l a) _ rfl).choose_spec];exact (B5 C l hl a ha _ _).to2,?_⟩
    refine (B5 C l hl a ha _ _).mono ?_
    rintro _ _ ⟨n,rfl,hn,a,ha,rfl⟩
    try simp only [go_sem,↓reduceIte,k0,hR,h0,G9,h2,h1,z,length_map,getElem?_map,Yj hq]
    exact ⟨⟨_,rfl,.mk _ _ _ _ _ (by simp) (by simp)⟩,a,ha,rfl⟩
   .try simp only [go_sem,↓reduceIte,k0,hR,h0,G9,h2,h1,z,length_map,getElem?_map]
    refine (B5 C l hl a ha _ _).mono ?_
    rintro _ _ ⟨i,rfl,hi,a,ha,rfl⟩
    have hi:i < 4:=by have:=hi (by omega);omega
    try simp only [go_sem,↓reduceIte,Kg C i hi]
    refine (B5 C l hl a ha _ _).mono ?_
    rintro _ _ ⟨n,rfl,hn,a,ha,rfl⟩
    try simp only [go_sem,↓reduceIte,Kg C i hi]
    exact ⟨⟨_,rfl,.mk _ _ _ _ _ (by simp) (by simp)⟩,a,ha,rfl⟩
  .try simp only [go_sem,↓reduceIte,k0]
   refine (B5 C l hl a ha _ _).mono ?_
   rintro _ _ ⟨i,rfl,hi,a,ha,rfl⟩
   have hi:i < 4:=by have:=hi (by omega);omega
   try simp only [go_sem,↓reduceIte,Kg C i hi]
   refine (B5 C l hl a ha _ _).mono ?_
   rintro _ _ ⟨n,rfl,hn,a,ha,rfl⟩
   try simp only [go_sem,↓reduceIte,Kg C i hi]
   exact ⟨⟨_,rfl,.mk _ _ _ _ _ (by simp) (by simp)⟩,a,ha,rfl⟩
theorem Alo (l:List U8) (hl:l.length<=1000/\∀ x∈l,x.n < 256) (vals:Int) (hv:1<=vals/\vals<=4) (nl:Nat) (hnl:1<=nl/\nl<=4) (rg:List (List ByteArray)) (hrg:1<=rg.length/\rg.length<=4) (d:Nat):d<=10->∀ (a:Nat) (ha:a<=l.length) (j:Nat) (r:VH) (hR:r[j]? = some (some (AW C7 1 (rg.map JE)))) {x0:Option VO},
      Hs V H5 [.p 1 0 0 0,vHp vals nl,.sl (j+1+1) rg.length 0 rg.length,.i .i64 d] (x0::MO l a::r) fun v h=>AnV v/\MS x0 l r h:=by
  induction d with
  | zero=>exact fun _=>Pd C l hl vals hv nl hnl rg hrg 0 (by omega) (fun h=>absurd h (by omega))
  | succ d ih=>exact fun _=>Pd C l hl vals hv nl hnl rg hrg (d+1) (by omega) (fun _=>ih (by omega))
end
abbrev oPz:Option VO:=some ⟨YY,0,0,false,[[.s (bs []),.i .i64 0,.nl,.nl,.i .i64 0,.i .i64 0,.i .i64 0,.s (bs []),.i .i64 0,.nl]]⟩
abbrev oPr (n:Nat) (vals ask:Int) (vi vt:Nat):Option VO:=some ⟨YY,0,0,false,[[.s (bs [109,97,100,101]),.i .i64 vals,.sl (n+2+1+1) vi 0 vi,.sl (n+2+1+1+1) vt 0 vt,.i .i64 ask,.i .i64 0,.i .i64 0,.s (bs []),.i .i64 0,.sl (n+2+1+1+1+1) 0 0 0]]⟩
def LI (x0:Option VO) (l:List U8) (vals ask:Int) (r:VH) (k:Nat) (h:VH):Prop:=∃ (a:Nat) (ini:List (ByteArray×Int)),a<=l.length/\ini.length=k/\ini.map (·.1)=K6 k/\(∀ x∈ini,0<=x.2/\x.2 < vals) /\
 h=x0::MO l a::(r++[oPz,oPr r.length vals ask k 0,some (AW YW 2 (ini.map eCl)),some DW,some DW])
def TI (x0:Option VO) (l:List U8) (L:List ByteArray) (vals ask:Int) (nl:Nat) (ini:List (ByteArray×Int)) (r:VH) (k:Nat) (h:VH):Prop:=∃ (a:Nat) (thr:List (List (List VV))) (rg:List (List ByteArray)),a<=l.length/\thr.length=k/\rg.length=k/\(∀ l∈thr,l.length<=10/\∀ s∈l,GS L s)/\(∀ l∈rg,l.length<=4) /\
 h=x0::MO l a::(r++[oPz,oPr r.length vals ask nl k,some (AW YW 2 (ini.map eCl)),some (AW A6r 1 (thr.map fun l=>[.ls l])),some DW,some (AW C7 1 (rg.map JE))])
theorem Aed {nl:Nat} (x:ByteArray) (h:x∈K6 nl):x.size<=1000:=by
 obtain ⟨k,_,rfl⟩:=List.mem_map.1 h
 rcases k with _ | _ | _ | k<;>(show (1:Nat)<=1000;decide)
theorem Ajb (nl:Nat) (h:nl<=4):(K6 nl).Nodup:=by
 rcases (show nl=0\/nl=1\/nl=2\/nl=3\/nl=4 by omega) with rfl | rfl | rfl | rfl | rfl<;>decide
theorem Aee (k:Nat):K6 (k+1)=K6 k++[A6n k]:=by unfold K6;rw [List.range_succ,map_append];rfl
section
variable {V:At} (C:Aq V) {Q:VV->Prop}
include C
theorem A7d (l:List U8) (hl:l.length<=1000/\∀ x∈l,x.n < 256) (vals:Int) (hv:2<=vals/\vals<=4) (nl:Nat) (hnl:1<=nl/\nl<=4) (th most deep:Nat) (ht:1<=th/\th<=4) (hm:most<=9) (hd:deep<=9) (a:Nat) (ha:a<=l.length) (r:VH) {x0:Option VO} :
  Hs V Jp [.p 1 0 0 0,vHp vals nl,.i .i64 th,.i .i64 most,.i .i64 deep] (x0::MO l a::r) fun v h=>(∃ p:PP,v=p.v/\GP2 p)/\MS x0 l r h:=by
 rw [Cm C.h_z177]
 simp only [L4,go_sem,↓reduceIte]
 refine (B5 C l hl a ha _ _).mono ?_
 rintro _ _ ⟨k,rfl,hk,a,ha,rfl⟩
 simp only [go_sem,↓reduceIte,AZ,rgd,D5]
 generalize IntKind.i64.wrap (1 + ↑k)=ask
 refine Ab (by decide) nl (by omega) (I:=fun k F h=>LI x0 l vals ask r k h/\A4.tmp F 0 = .p 1 0 0 0/\A4.tmp F 2 = .i .i64 th/\A4.tmp F 3 = .i .i64 most/\A4.tmp F 4 = .i .i64 deep/\A4.tmp F 6=fHp vals nl/\A4.tmp F 10 = .p (r.length+1+1) 0 0 0/\A4.tmp F 11 = .p (r.length+1+1+1) 0 0 0) ?_ ?_ ?_ 0 _ _ (zero_le _) ?_ ?_
 .rintro k F h hk h9 ⟨h1,p0,p2,p3,p4,p6,h0,h2⟩
  simp only [go_sem,↓reduceIte,h9,p0,p2,p3,p4,p6,h0,h2]
  exact h1
 .rintro k F h hk h9 ⟨⟨a,h3,ha,hc,h6,he,rfl⟩,p0,p2,p3,p4,p6,h0,h2⟩
  have b1:(h3.length+1) * 24<=Aa:=by unfold Aa;omega
  subst hc
  simp only [Adr,go_sem,↓reduceIte,h9,p0,p2,p3,p4,p6,h0,h2,Kg C h3.length (by omega),rgd,D5,A0]
  refine (B5 C l hl a ha _ _).mono ?_
  rintro _ _ ⟨k1,rfl,h7,a,ha,rfl⟩
  try simp only [go_sem,↓reduceIte,h9,p0,p2,p3,p4,p6,h0,h2,rgd,D5]
  refine (B5 C l hl a ha _ _).mono ?_
  rintro _ _ ⟨k2,rfl,ho,a,ha,rfl⟩
  have h7:=h7 (by omega)
  have w1:IntKind.i64.wrap (1+(k2:Int))=1+(k2:Int):=Az (by omega) (by have:=ho (by omega);omega)
  have hr:((k1:Int)).tmod (1+(k2:Int))=((k1 % (1+k2):Nat):Int):=by rw [Int.tmod_eq_emod_of_nonneg (by omega),Int.natCast_emod,Int.natCast_add];rfl
  have hu:=Nat.mod_le k1 (1+k2)
  try simp only [go_sem,↓reduceIte,h9,p0,p2,p3,p4,p6,h0,h2,rgd,D5,w1,Hp (show 1+(k2:Int)≠0 by omega),hr,b1]
  refine ⟨.inr ?_,⟨a,h3++[(A6n h3.length,((k1 % (1+k2):Nat):Int))],ha,by simp,by rw [map_append,h6,Aee];rfl,?_,?_⟩,?_⟩
  .rw [all_eq_true]
   intro x hx
   rcases List.mem_append.1 hx with hx | hx
   .obtain ⟨y,_,rfl⟩:=List.mem_map.1 hx;rfl
   .rw [List.mem_singleton.1 hx];rfl
  .intro x hx
   rcases List.mem_append.1 hx with hx | hx
   .exact he x hx
   .rw [List.mem_singleton.1 hx];exact ⟨by show (0:Int)<=_;omega,by show _ < vals;omega⟩
  .rw [<- KO,map_append];rfl
  .rw [show decide (List.length r+1+1 < List.length r+5+1+1)=true by rw [decide_eq_true_iff];omega];rfl
 .rintro F h ⟨⟨a,h3,ha,hc,h6,he,rfl⟩,p0,p2,p3,p4,p6,h0,h2⟩
  simp only [go_sem,↓reduceIte,p0,p2,p3,p4,p6,h0,h2]
  refine Ab (by decide) th (by omega) (I:=fun k F h=>TI x0 l (K6 nl) vals ask nl h3 r k h/\A4.tmp F 0 = .p 1 0 0 0/\A4.tmp F 2 = .i .i64 th/\A4.tmp F 3 = .i .i64 most/\A4.tmp F 4 = .i .i64 deep/\A4.tmp F 6=fHp vals nl/\A4.tmp F 10 = .p (r.length+1+1) 0 0 0/\A4.tmp F 11 = .p (r.length+1+1+1) 0 0 0/\A4.tmp F 13 = .sl (r.length+5+1+1) k 0 k) ?_ ?_ ?_ 0 _ _ (zero_le _) ?_ ?_
  .rintro k F h hk hb ⟨h1,p0,p2,p3,p4,p6,h0,h2,h5⟩
   simp only [go_sem,↓reduceIte,hb,p0,p2,p3,p4,p6,h0,h2,h5]
   exact h1
  .rintro k F h hk hb ⟨⟨a,h4,rg,ha,hg,h8,hf,hi,rfl⟩,p0,p2,p3,p4,p6,h0,h2,h5⟩
   have b1:(h4.length+1) * 24<=Aa:=by unfold Aa;omega
   have b2:(rg.length+1) * 24<=Aa:=by unfold Aa;omega
   have w1:=HL (show most < 9223372036854775807 by omega)
   subst hg
   simp only [Adv,go_sem,↓reduceIte,hb,p0,p2,p3,p4,p6,h0,h2,h5,w1,rgd,D5,A0]
   refine (B5 C l hl a ha _ _).mono ?_
   rintro _ _ ⟨k1,rfl,h7,a,ha,rfl⟩
   have h7:k1 < most+1:=by have:=h7 (by omega);omega
   try simp only [go_sem,↓reduceIte,hb,p0,p2,p3,p4,p6,h0,h2,h5,rgd,D5]
   refine (AhJ C l hl vals (by omega) nl hnl deep (by omega) k1 (by omega) a ha _ KR.nil _).mono ?_
   rintro _ _ ⟨⟨rows,g,rfl,hw,hn,nm,hp,hq,rfl⟩,a,ha,rfl⟩
   try simp only [go_sem,↓reduceIte,hb,p0,p2,p3,p4,p6,h0,h2,h5,rgd,D5,b1,b2,h8]
   have d1:decide (List.length r+1+1 < List.length r+6+1+1)=true:=by rw [decide_eq_true_iff];omega
   have d2:decide (List.length r+1+1+1 < List.length r+6+1+1)=true:=by rw [decide_eq_true_iff];omega
   have d3:decide (List.length r+5+1+1 < List.length r+6+1+1)=true:=by rw [decide_eq_true_iff];omega
   refine ⟨.inr ?_,.inr ?_,⟨a,h4++[rows],rg++[nm],ha,by simp,by simp [h8],?_,?_,?_⟩,?_⟩
   .rw [all_eq_true]
    intro x hx
    rcases List.mem_append.1 hx with hx | hx
    .obtain ⟨y,_,rfl⟩:=List.mem_map.1 hx;rfl
    .rw [List.mem_singleton.1 hx];rfl
   .rw [all_eq_true]
    intro x hx
    rcases List.mem_append.1 hx with hx | hx
    .obtain ⟨y,_,rfl⟩:=List.mem_map.1 hx;rfl
    .rw [List.mem_singleton.1 hx];rfl
   .intro x hx
    rcases List.mem_append.1 hx with hx | hx
    .exact hf x hx
    .rw [List.mem_singleton.1 hx];exact ⟨by omega,hn⟩
   .intro x hx
    rcases List.mem_append.1 hx with hx | hx
    .exact hi x hx
    .rw [List.mem_singleton.1 hx];exact X7 hp hq
   .rw [<- KO,<- KO,map_append,map_append,h8];rfl
   .simp only [d1,d2,d3,go_sem,QO,bel]
  .rintro F h ⟨⟨a,h4,rg,ha,hg,h8,hf,hi,rfl⟩,p0,p2,p3,p4,p6,h0,h2,h5⟩
   subst h8
   try simp only [go_sem,↓reduceIte,p0,p2,p3,p4,p6,h0,h2,h5]
   refine (Alo C l hl vals (by omega) nl hnl rg (by omega) 2 (by omega) a ha (r.length+5) _ (by rw [AvI];rfl)).mono ?_
   rintro _ _ ⟨⟨row,rfl,g1⟩,a,ha,rfl⟩
   have hj:=g1
   cases g1 with
   | mk o1 t1 m1 n1 ks1 q1 z1 =>
   have f1:∀ (hh:VH) (d:Nat),Bh (fun row=>Bh (frz hh (d+1)) row) (h3.map eCl)=some (h3.map eCl,[]):=fun hh d=>Ny fun x hx=>by obtain ⟨y,_,rfl⟩:=List.mem_map.1 hx;rfl
   have f2:∀ (hh:VH) (d:Nat),Bh (fun row=>Bh (frz hh (d+1)) row) (h4.map fun l=>[VV.ls l])=some (h4.map fun l=>[VV.ls l],[]):=fun hh d=>Ny fun x hx=>by obtain ⟨y,_,rfl⟩:=List.mem_map.1 hx;rfl
   try simp only [go_sem,↓reduceIte,p0,p2,p3,p4,p6,h0,h2,h5,f1,f2,hc,hg]
   refine ⟨⟨⟨bs [109,97,100,101],vals,h3,h4,ask,o1,t1,m1,n1,ks1⟩,by rw [take_of_length_le (by omega),take_of_length_le (by omega)],?_⟩,a,ha,rfl⟩
   refine ⟨⟨by show (4:Nat)<=1000;decide,by show h3.length<=1000;omega,fun x hx=>?_,by show h4.length<=1000;omega,fun x hx=>?_,hj⟩,hv.1,hv.2,by show h3.length<=4;omega,by show (h3.map (·.1)).Nodup;rw [h6];exact Ajb _ hnl.2,he,by show 1<=h4.length;omega,by show h4.length<=4;omega⟩
   .have:x.1∈K6 nl:=h6 ▸ List.mem_map.2 ⟨x,hx,rfl⟩
    exact Aed _ this
   .have:=hf x hx
    exact ⟨by omega,by show ∀ s∈x,GS (h3.map (·.1)) s;rw [h6];exact this.2⟩
  .simp only [go_sem,↓reduceIte,p0,p2,p3,p4,p6,h0,h2]
  .simp only [go_sem,↓reduceIte,p0,p2,p3,p4,p6,h0,h2]
   exact ⟨a,[],[],ha,rfl,rfl,by simp,by simp,rfl⟩
 .simp only [go_sem,↓reduceIte]
 .simp only [go_sem,↓reduceIte]
  exact ⟨a,[],ha,rfl,rfl,by simp,rfl⟩
def isP (v:VV):Prop:=∃ p:PP,v=p.v/\GP2 p
theorem AhI (l:List U8) (hl:l.length<=1000/\∀ x∈l,x.n < 256) (vals:Int) (hv:2<=vals/\vals<=4) (nl:Nat) (hnl:1<=nl/\nl<=4) (a:Nat) (ha:a<=l.length) (r:VH) {x0:Option VO} :
  Hs V UU [.p 1 0 0 0,vHp vals nl] (x0::MO l a::r) fun v h=>isP v/\MS x0 l r h:=by
 rw [Cm C.h_z118]
 simp only [Zt,go_sem,↓reduceIte]
 refine (B5 C l hl a ha _ _).mono ?_
 rintro _ _ ⟨k,rfl,hk,a,ha,rfl⟩
 by_cases k0:(k:Int)=0
 .simp only [go_sem,↓reduceIte,k0,A0]
  refine (A7d C l hl vals hv nl hnl 1 3 1 (by omega) (by omega) (by omega) a ha _).mono ?_
  rintro _ _ ⟨⟨p,rfl,hp⟩,a,ha,rfl⟩
  try simp only [go_sem,↓reduceIte,k0,A0]
  exact ⟨⟨p,rfl,hp⟩,a,ha,rfl⟩
 by_cases k1:(k:Int)=1
 .simp only [go_sem,↓reduceIte,k0,k1,A0]
  refine (A7d C l hl vals hv nl hnl 3 1 0 (by omega) (by omega) (by omega) a ha _).mono ?_
  rintro _ _ ⟨⟨p,rfl,hp⟩,a,ha,rfl⟩
  try simp only [go_sem,↓reduceIte,k0,A0]
  exact ⟨⟨p,rfl,hp⟩,a,ha,rfl⟩
 .simp only [go_sem,↓reduceIte,k0,k1,A0]
  refine (A7d C l hl vals hv nl hnl 2 2 1 (by omega) (by omega) (by omega) a ha _).mono ?_
  rintro _ _ ⟨⟨p,rfl,hp⟩,a,ha,rfl⟩
  try simp only [go_sem,↓reduceIte,k0,A0]
  exact ⟨⟨p,rfl,hp⟩,a,ha,rfl⟩
theorem AhH (l:List U8) (hl:l.length<=1000/\∀ x∈l,x.n < 256) (a:Nat) (ha:a<=l.length) (r:VH) {x0:Option VO} :
  Hs V A5v [.p 1 0 0 0] (x0::MO l a::r) fun v h=>isP v/\MS x0 l r h:=by
 rw [Cm C.h_z53]
 simp only [A9e,go_sem,↓reduceIte]
 refine (B5 C l hl a ha _ _).mono ?_
 rintro _ _ ⟨k,rfl,hk,a,ha,rfl⟩
 have w1:IntKind.i64.wrap (1+(k:Int))=((1+k:Nat):Int):=by rw [Az (by omega) (by have:=hk (by omega);omega)];omega
 simp only [go_sem,↓reduceIte,w1]
 refine (AhI C l hl 2 (by omega) (1+k) (by have:=hk (by omega);omega) a ha _).mono ?_
 rintro _ _ ⟨⟨p,rfl,hp⟩,a,ha,rfl⟩
 try simp only [go_sem,↓reduceIte]
 exact ⟨⟨p,rfl,hp⟩,a,ha,rfl⟩
theorem Alm (l:List U8) (x0:Option VO) {Q:VV->VH->Prop} (hq:Q (.p 1 0 0 0) [x0,MO l 0]):NR V LM [lU l] [x0] Q:=by
 rw [GN C.h_z52]
 simp only [P6,go_sem,↓reduceIte]
 exact hq
theorem Aln (v:VV) (h:isP v):VP V A5u [v] fun x=>∃ (t:A1) (e:Bool),x = .tu [vT t,.b e]/\(e=true->A5 t):=by
 obtain ⟨p,rfl,hp⟩:=h
 rw [Ad C.c_z50.1 C.c_z50.2]
 obtain ⟨_,⟨t,e,rfl,ht⟩,qb⟩:=Cr (A2K C p hp)
 simp only [A9d,go_sem,↓reduceIte,qb]
 exact ⟨t,_,rfl,fun h=>ht (by simpa using h)⟩
theorem BY (l:List U8) (hl:l.length<=1000/\∀ x∈l,x.n < 256):VP V A56 [lU l] fun x=>∃ (t:A1) (e:Bool),x = .tu [vT t,.b e]/\(e=true->A5 t/\t.nodes.length<=30):=by
 rw [Ad C.c_z13.1 C.c_z13.2]
 simp only [A8S,go_sem,↓reduceIte]
 refine Alm C l _ ?_
 refine (AhH C l hl 0 (by omega) []).mono ?_
 rintro _ _ ⟨⟨p,rfl,hp⟩,a,ha,rfl⟩
 obtain ⟨_,⟨t,e,rfl,ht⟩,qt⟩:=Cr (Aln C p.v ⟨p,rfl,hp⟩)
 cases e with
 | false =>
  simp only [go_sem,↓reduceIte,qt]
  exact ⟨t,false,rfl,fun h=>absurd h (by simp)⟩
 | true =>
  simp only [go_sem,↓reduceIte,qt]
  refine ⟨t,_,rfl,fun h=>⟨ht rfl,?_⟩⟩
  have:=of_decide_eq_true h
  omega
end
end Go.AM
