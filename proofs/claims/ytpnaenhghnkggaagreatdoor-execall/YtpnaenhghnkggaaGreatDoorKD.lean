/-
  Own work, part of the proof of these laws: what functions compute.
-/
import Derived.Test.YtpnaenhghnkggaaGreatDoorKC
set_option maxRecDepth 10000
set_option maxHeartbeats 64000000
set_option linter.unusedVariables false
set_option linter.unusedSimpArgs false
set_option linter.unusedSectionVars false
set_option linter.unnecessarySimpa false
open Bool (and_eq_true or_eq_true)
open Int (toNat_natCast)
open Nat (zero_le)
open List (getElem_mem nil_append cons_append map_nil any_nil)
namespace Go.AM
open Go Go.Proofs
abbrev eLk(t:A2)(a:Int):List VV:=[.i .i64 t.vals,lS t.locs,.ls (t.regs.map J8),.ls (t.nodes.map eN),.i .i64 a]
abbrev LK(t:A2)(a:Int):Option VO:=some ⟨Ud,0,0,false,[eLk t a]⟩
@[go_sem] theorem AvZ {α:Type} (r s:List α):(r++s)[r.length]? = s[0]?:=by
 rw[List.getElem?_append_right (Nat.le_refl _),Nat.sub_self]
@[go_sem] theorem AsD {α:Type} (r s:List α) (k:Nat):(r++s)[r.length+k]? = s[k]?:=by
 rw[List.getElem?_append_right (Nat.le_add_right _ _),Nat.add_sub_cancel_left]
@[go_sem] theorem Aw0 {α:Type} (r s:List α) (x:α):(r++s).set r.length x=r++s.set 0 x:=by
 rw[List.set_append_right _ _ (Nat.le_refl _),Nat.sub_self]
@[go_sem] theorem Aw1 {α:Type} (r s:List α) (k:Nat) (x:α):(r++s).set (r.length+k) x=r++s.set k x:=by
 rw[List.set_append_right _ _ (Nat.le_add_right _ _),Nat.add_sub_cancel_left]
@[go_sem] theorem And {α:Type} (r s:List α):(r++s).take r.length=r:=by simp
@[go_sem] theorem Ane {α:Type} (r s:List α) (k:Nat):(r++s).take (r.length+k)=r++s.take k:=by rw[List.take_append,List.take_of_length_le (Nat.le_add_right _ _),Nat.add_sub_cancel_left]
@[go_sem] theorem Ard (L:Nat) (r s s':VH):LT L (r++s) (r++s')=LT L s s':=by
 induction r with
 |nil=>rfl
 |cons x r ih=>simp only[cons_append,A1u,ih,true_or,true_and]
@[go_sem] theorem Apn (L:Nat) (r s':VH):LT L r (r++s')=True:=A1v L r s'
@[go_sem] theorem dz0:decide ((0:Int)<((0:Nat):Int))=false:=rfl
@[go_sem] theorem Aw2 (n:Nat):decide (0<n+1)=true:=by simp
@[go_sem] theorem Aw3 (n:Nat):decide (n<n+1)=true:=by simp
@[go_sem] theorem Aw4 (n:Nat):decide (n<n+1+1)=true:=by simp;omega
@[go_sem] theorem Aw5 (n:Nat):decide (n<n+1+1+1)=true:=by simp;omega
@[go_sem] theorem Aw6 (n:Nat):decide (n<n+1+1+1+1)=true:=by simp;omega
@[go_sem] theorem AsZ (n:Nat):decide (1<n+1+1)=true:=by rw[decide_eq_true_iff];omega
@[go_sem] theorem At0 (n:Nat):decide (1<n+1+1+1)=true:=by rw[decide_eq_true_iff];omega
@[go_sem] theorem At1 (n:Nat):decide (1<n+1+1+1+1)=true:=by rw[decide_eq_true_iff];omega
@[go_sem] theorem At2 (n:Nat):decide (1<n+1+1+1+1+1)=true:=by rw[decide_eq_true_iff];omega
@[go_sem] theorem At3 (n:Nat):decide (1<n+1+1+1+1+1+1)=true:=by rw[decide_eq_true_iff];omega
@[go_sem] theorem At4 (n:Nat):decide (1<n+1+1+1+1+1+1+1)=true:=by rw[decide_eq_true_iff];omega
@[go_sem] theorem At5 (n:Nat):decide (1<n+1+1+1+1+1+1+1+1)=true:=by rw[decide_eq_true_iff];omega
@[go_sem] theorem At6 (n:Nat):decide (2<n+1+1+1)=true:=by rw[decide_eq_true_iff];omega
@[go_sem] theorem At7 (n:Nat):decide (2<n+1+1+1+1)=true:=by rw[decide_eq_true_iff];omega
@[go_sem] theorem At8 (n:Nat):decide (2<n+1+1+1+1+1)=true:=by rw[decide_eq_true_iff];omega
@[go_sem] theorem At9 (n:Nat):decide (2<n+1+1+1+1+1+1)=true:=by rw[decide_eq_true_iff];omega
@[go_sem] theorem Ata (n:Nat):decide (2<n+1+1+1+1+1+1+1)=true:=by rw[decide_eq_true_iff];omega
@[go_sem] theorem Atb (n:Nat):decide (2<n+1+1+1+1+1+1+1+1)=true:=by rw[decide_eq_true_iff];omega
@[go_sem] theorem Atc (n:Nat):decide (3<n+1+1+1+1)=true:=by rw[decide_eq_true_iff];omega
@[go_sem] theorem Atd (n:Nat):decide (3<n+1+1+1+1+1)=true:=by rw[decide_eq_true_iff];omega
@[go_sem] theorem Ate (n:Nat):decide (3<n+1+1+1+1+1+1)=true:=by rw[decide_eq_true_iff];omega
@[go_sem] theorem Atf (n:Nat):decide (3<n+1+1+1+1+1+1+1)=true:=by rw[decide_eq_true_iff];omega
@[go_sem] theorem Atg (n:Nat):decide (3<n+1+1+1+1+1+1+1+1)=true:=by rw[decide_eq_true_iff];omega
@[go_sem] theorem Ath (n:Nat):decide (4<n+1+1+1+1+1)=true:=by rw[decide_eq_true_iff];omega
@[go_sem] theorem Ati (n:Nat):decide (4<n+1+1+1+1+1+1)=true:=by rw[decide_eq_true_iff];omega
@[go_sem] theorem Atj (n:Nat):decide (4<n+1+1+1+1+1+1+1)=true:=by rw[decide_eq_true_iff];omega
@[go_sem] theorem Atk (n:Nat):decide (4<n+1+1+1+1+1+1+1+1)=true:=by rw[decide_eq_true_iff];omega
@[go_sem] theorem Atl (n:Nat):decide (5<n+1+1+1+1+1+1)=true:=by rw[decide_eq_true_iff];omega
@[go_sem] theorem Atm (n:Nat):decide (5<n+1+1+1+1+1+1+1)=true:=by rw[decide_eq_true_iff];omega
@[go_sem] theorem Atn (n:Nat):decide (5<n+1+1+1+1+1+1+1+1)=true:=by rw[decide_eq_true_iff];omega
@[go_sem] theorem Ato (n:Nat):decide (6<n+1+1+1+1+1+1+1)=true:=by rw[decide_eq_true_iff];omega
@[go_sem] theorem Atp (n:Nat):decide (6<n+1+1+1+1+1+1+1+1)=true:=by rw[decide_eq_true_iff];omega
attribute [go_sem] Option.isSome_some cons_append List.append_assoc nil_append
theorem K4{xs:List (List ByteArray)}{k:Nat}(h:k<xs.length):xs[k]? = some (xs.getD k []):=by
 rw[List.getD_eq_getElem?_getD,List.getElem?_eq_getElem h];rfl
theorem Pn{xs:List ByteArray}{k:Nat}(h:k<xs.length):xs[k]? = some xs[k]:=List.getElem?_eq_getElem h
section
variable {V:Ai}(C:Am V){Q:VV->Prop}
include C
theorem P0(l:List ByteArray)(hl:l.length<=1000)(hn:l.Nodup):VP V Ya [lS l] Q↔Q (.b false):=by
 refine Af ?_
 rw[Ad C.c_z160.1 C.c_z160.2]
 simp only[A3j,go_sem]
 refine Aj (by decide) l.length (by omega) (I:=fun k F h=>h=[]/\A3.tmp F 5=lS l/\A3.tmp F 0=lS l) ?_ ?_ 0 _ _ (zero_le _) ?_ ?_ ?_
 .rintro k F h hk h1 h2 ⟨rfl,h3,h4⟩
  have hx:((l.take k).any fun y=>decide (l[k]=y))=false:=by
   rw[List.any_eq_false]
   intro y hy e
   have e':l[k]=y:=by simpa using e
   obtain⟨j,hj,ej⟩:=List.mem_iff_getElem.1 hy
   rw[List.getElem_take]at ej
   rw[List.length_take]at hj
   have:=(List.getElem_inj hn).1 (ej.trans e'.symm)
   omega
  have h0:k<=l.length:=by omega
  simp only[go_sem,h1,h2,h3,h4,Pn hk,h0,Eo C (l.take k) _ (by simp;omega),hx,toNat_natCast]
 .rintro F h ⟨rfl,h3,h4⟩
  simp only[go_sem]
 all_goals simp only[go_sem]
 all_goals rfl
theorem Ho(t:A2)(a n:Int):VP V Yz [.fp (eLk t a) 0,.i .i64 n] Q↔Q (.b (Gj t n)):=by
 refine Af ?_
 rw[Ad C.c_z204.1 C.c_z204.2]
 unfold Gj
 cases c0:decide (0<=n)<;>simp only[A3K,go_sem,c0]
theorem KM(t:A2)(a n:Int):VP V Z4 [.fp (eLk t a) 0,.i .i64 n] Q↔Q (.b (Ka t n)):=by
 refine Af ?_
 rw[Ad C.c_z243.1 C.c_z243.2]
 unfold Ka
 cases c0:decide (0<=n)<;>simp only[A4b,go_sem,c0]
theorem EX(t:A2)(a u:Nat)(hu:u<t.nodes.length):VP V YQ [.fp (eLk t a) 0,.i .i64 u] Q↔Q (.b (C6 t a u)):=by
 refine Af ?_
 rw[Ad C.c_z231.1 C.c_z231.2]
 unfold C6
 by_cases ha:a<t.nodes.length
 .have h0:(a:Int)<t.nodes.length:=by omega
  cases c0:decide ((t.at a).up=u)<;>simp only[UZ,go_sem,ha,h0,A5 ha,A5 hu,c0,toNat_natCast]
 .have h0:¬(a:Int)<t.nodes.length:=by omega
  simp only[UZ,go_sem,ha,h0]
theorem A4x(t:A2)(a n:Int):VP V Rp [.i .i64 n,.fp [.fp (eLk t a) 0] 0] Q↔Q (.b (!Gj t n)):=by
 refine Af ?_
 rw[Ad C.c_z233.1 C.c_z233.2]
 simp only[A43,go_sem,Ho C]
def Ajd(V:Ai)(t:A2)(u e:Nat):Prop:=∀(a:Int) (r:VH),J7 V YA [.p 0 0 0 0,.i .i64 u] (LK t a::r) fun v h=>v=.b true/\h=LK t e::r
theorem A13(t:A2)(hn:t.nodes.length<=64)(u e:Nat)(hu:u+1<t.nodes.length)(ha:Dc t u=true)(hb:Ajd V t (u+1) e)(r:VH) :
  J7 V YS [.p 0 0 0 0,.i .i64 u] (LK t ((u+1:Nat):Int)::r) fun v h=>v=.b true/\h=LK t e::r:=by
 rw[DG C.h_z234]
 have h0:u<t.nodes.length:=by omega
 have hq:=fun(r:VH) Q=>Ja (hb ((u+1:Nat):Int) r) (Q:=Q)
 unfold Dc at ha
 simp only[or_eq_true,and_eq_true,decide_eq_true_eq]at ha
 rcases ha with ⟨⟨⟨⟨⟨h1,h2⟩,h3⟩,h4⟩,h5⟩,h6⟩|⟨⟨⟨h1,h2⟩,h3⟩,h4⟩
 .have h9:(t.at (u+1)).rmw=false:=by simpa using h4
  have hc:0<=(t.at (u+1)).mode:=by omega
  have h7:¬(t.at (u+1)).mode=0:=by omega
  simp only[QB,go_sem,A5 hu,A5 h0,toNat_natCast,h1,h2,h3,h9,hc,h6,h7,hq,A0]
 .have h8:¬(t.at (u+1)).kind=4:=by omega
  cases hr:(t.at (u+1)).rmw with
  |true=>
   rw[hr]at h4
   simp only[if_true,and_eq_true,decide_eq_true_eq]at h4
   obtain⟨⟨⟨⟨g1,g2⟩,g3⟩,g4⟩,g5⟩:=h4
   simp only[QB,go_sem,A5 hu,A5 h0,toNat_natCast,h1,h8,hr,KM C,Ho C,h2,h3,g1,g2,g3,g4,g5,hq,A0,Int.reduceEq]
  |false=>
   rw[hr]at h4
   simp only[Bool.false_eq_true,if_false,or_eq_true,decide_eq_true_eq]at h4
   have g1:0<=(t.at (u+1)).mode:=by omega
   have g2:(t.at (u+1)).mode<=4:=by omega
   rcases h4 with (h4|h4)|h4 <;>
   simp only[QB,go_sem,A5 hu,A5 h0,toNat_natCast,h1,h8,hr,KM C,Ho C,h2,h3,g1,g2,h4,hq,A0,Int.reduceEq,Int.reduceLE]
theorem A4y(t:A2)(hn:t.nodes.length<=64)(u e:Nat)(hu:u<t.nodes.length)(vals:Nat)(k:Nat->Nat)(loc mode:Int)(hv:t.vals=vals)(hv0:0<vals)(hv1:vals<=4)(hk0:k 0=u+1)(hke:k vals=e)(hl:Ka t loc=true)
  (hs:∀v,v<vals->C6 t (k v) u=true/\Em t (k v) v loc mode=true/\Ajd V t (k v) (k (v+1)))
  (hm:(mode=0\/mode=1\/mode=4)\/(0<=mode/\mode<=4/\∃v,v<vals/\JN t (k v)=true)) (r:VH) :
  J7 V YT [.p 0 0 0 0,.i .i64 u] (LK t ((u+1:Nat):Int)::r) fun v h=>v=.b true/\h=LK t e::r:=by
 rw[DG C.h_z235]
 have h0:=hs 0 hv0
 rw[hk0]at h0
 obtain⟨c0,s0,_⟩:=h0
 have h2:u+1<t.nodes.length:=by
  unfold C6 at c0
  simp only[and_eq_true,decide_eq_true_eq]at c0
  omega
 simp only[Em,and_eq_true,decide_eq_true_eq]at s0
 obtain⟨⟨⟨⟨g1,g2⟩,g3⟩,g4⟩,g5⟩:=s0
 simp only[A44,go_sem,A5 h2,toNat_natCast,hv]
 refine Aj (by decide) vals (by omega) (I:=fun v F h=>h=LK t (k v)::(r++[some ⟨BS,0,0,false,[eN (t.at (u+1))]⟩])/\A3.tmp F 0=.p 0 0 0 0/\A3.tmp F 1=.i .i64 u/\A3.tmp F 5=.p (r.length+1) 0 0 0/\A3.tmp F 6=.b ((List.range v).any fun j=>JN t (k j))) ?_ ?_ 0 _ _ (zero_le _) ?_ ?_ ?_
 .rintro v F h h3 p1 p2 ⟨rfl,p3,p4,p5,p6⟩
  obtain⟨c1,s1,b1⟩:=hs v h3
  have hq:=fun(r:VH) Q=>Ja (b1 (k v) r) (Q:=Q)
  have h5:k v<t.nodes.length:=by
   unfold C6 at c1
   simp only[and_eq_true,decide_eq_true_eq]at c1
   omega
  simp only[Em,and_eq_true,decide_eq_true_eq]at s1
  obtain⟨⟨⟨⟨q1,q2⟩,q3⟩,q4⟩,q5⟩:=s1
  have h6:(t.at (k v)).rmw=false:=by simpa using q5
  have w1:=Hb (show k v<9223372036854775807 by omega)
  have h1:((List.range (v+1)).any fun j=>JN t (k j))=(((List.range v).any fun j=>JN t (k j))||JN t (k v)):=by
   rw[List.range_succ,List.any_append];simp
  rw[h1]
  clear h1
  generalize ((List.range v).any fun j=>JN t (k j))=B at *
  by_cases z1:k v+1<t.nodes.length
  .have h4:((k v+1:Nat):Int)<(t.nodes.length:Int):=by omega
   have z2:decide (k v+1<t.nodes.length)=true:=by simp[z1]
   unfold JN
   rw[z2]
   cases z3:decide ((t.at (k v+1)).up=(k v:Int))<;>cases B <;>
    simp only[Vh,go_sem,p1,p2,p3,p4,p5,p6,EX C t _ u hu,c1,A5 h5,A5 h2,A5 z1,toNat_natCast,q1,q2,q3,q4,h6,g1,g3,g4,hq,w1,h4,z3,List.length_append]
  .have h4:¬((k v+1:Nat):Int)<(t.nodes.length:Int):=by omega
   have z2:decide (k v+1<t.nodes.length)=false:=by simp[z1]
   unfold JN
   rw[z2]
   simp only[Vh,go_sem,p1,p2,p3,p4,p5,p6,EX C t _ u hu,c1,A5 h5,A5 h2,toNat_natCast,q1,q2,q3,q4,h6,g1,g3,g4,hq,w1,h4]
 .rintro F h ⟨rfl,p3,p4,p5,p6⟩
  rw[hke]
  rcases hm with hm|⟨hm1,hm2,v,h3,hm3⟩
  .rcases hm with (hm|hm|hm) <;>
   simp only[go_sem,p3,p4,p5,p6,g3,g4,hm,KM C,hl,Int.reduceEq]
  .have h1:((List.range vals).any fun j=>JN t (k j))=true:=A06 h3 hm3
   rw[h1]at p6
   cases m0:decide (mode=0)<;>cases m1:decide (mode=1)<;>cases m2:decide (mode=4) <;>
   simp only[go_sem,p3,p4,p5,p6,g3,g4,hm1,hm2,m0,m1,m2,KM C,hl,Int.reduceEq]
 all_goals simp only[go_sem]
 .rfl
 .simp only[hk0,eN,g1,g2,g3,g4,List.range_zero,any_nil,go_sem]
theorem Sx(t:A2)(hn:t.nodes.length<=64)(h4:t.vals<=4)(hr:∀l∈t.regs,l.length<=1000):∀n u e,G3 t n u e->Ajd V t u e:=by
 intro n
 induction n with
 |zero=>intro u e h;exact h.elim
 |succ n ih=>
  intro u e hb a r
  obtain⟨⟨hu,he,hg⟩,hb⟩:=hb
  rw[DG C.h_z205]
  have w1:=Hb (show u<9223372036854775807 by omega)
  obtain⟨th,hc⟩:=Int.eq_ofNat_of_zero_le he
  have ha:th<t.regs.length:=by omega
  rcases hb with ⟨c0,e0,rfl⟩|⟨c0,f0,r0,a0,b0⟩|⟨c0,f0,r0,vals,k,loc,mode,hv,hv0,hk0,hke,hl,hs,hm⟩
  .simp only[A68,and_eq_true,decide_eq_true_eq]at e0
   obtain⟨⟨g1,g2⟩,g3⟩:=e0
   rw[hc,toNat_natCast]at g2
   have h8:((t.at u).regs.any fun v=>!Gj t v)=false:=by
    rw[List.any_eq_false]
    intro x hx
    rw[List.all_eq_true]at g3
    simp[g3 x hx]
   have hf:(t.regs.getD th []).length<=1000:=by
    by_cases z:th<t.regs.length
    .exact hr _ (Aa z)
    .omega
   have hd:=fun(a:Int) Q=>EL C (t.at u).regs (by omega) (g:=Rp) (a:=[]) (c:=[.fp [.fp (eLk t a) 0] 0]) Fz.nil (fun _ _=>rfl) (fun x=>!Gj t x) (fun x=>(A4x C t a x).2 rfl) (Q:=Q)
   simp only[Qz,go_sem,w1,EX C t _ u hu,c0,A5 hu,toNat_natCast,g1,g2,hc,K4 ha,hd,h8]
  .have h7:u+1<t.nodes.length:=by
    unfold C6 at c0
    simp only[and_eq_true,decide_eq_true_eq]at c0
    omega
   have hq:=fun(r:VH) Q=>Ja (A13 C t hn u e h7 a0 (ih _ _ b0) r) (Q:=Q)
   have h9:¬(t.at (u+1)).kind=2:=by
    unfold Dc at a0
    simp only[or_eq_true,and_eq_true,decide_eq_true_eq]at a0
    rcases a0 with ⟨⟨⟨⟨⟨h1,h2⟩,h3⟩,h4⟩,h5⟩,h6⟩|⟨⟨⟨h1,h2⟩,h3⟩,h4⟩<;>omega
   simp only[Qz,go_sem,w1,EX C t _ u hu,c0,A5 hu,A5 h7,toNat_natCast,f0,r0,h9,hq]
  .have h0:=hs 0 hv0
   rw[hk0]at h0
   have h7:u+1<t.nodes.length:=by
    unfold C6 at c0
    simp only[and_eq_true,decide_eq_true_eq]at c0
    omega
   have h9:(t.at (u+1)).kind=2:=by
    have:=h0.2.1
    simp only[Em,and_eq_true,decide_eq_true_eq]at this
    exact this.1.1.1.1
   have hq:=fun(r:VH) Q=>Ja (A4y C t hn u e hu vals k loc mode hv hv0 (by omega) hk0 hke hl (fun v hv=>⟨(hs v hv).1,(hs v hv).2.1,ih _ _ (hs v hv).2.2⟩) hm r) (Q:=Q)
   simp only[Qz,go_sem,w1,EX C t _ u hu,c0,A5 hu,A5 h7,toNat_natCast,f0,r0,h9,hq]
theorem A14(t:A2)(hn:t.nodes.length<=64)(hl:t.locs.length<=t.nodes.length)(hi:∀i,i<t.locs.length->GT t i=true)(r:VH) :
  J7 V Yb [.p 0 0 0 0] (LK t 0::r) fun v h=>v=.b true/\h=LK t t.locs.length::r:=by
 rw[DG C.h_z161]
 simp only[A3k,go_sem]
 unfold VL
 rw[A0]
 refine AJ (M:=Nat) (I:=fun k F h=>k<=t.locs.length/\h=LK t (k:Int)::r/\A3.tmp F 0=.p 0 0 0 0) (μ:=fun k=>t.locs.length-k) ?_ 0 _ _ ⟨zero_le _,rfl,?_⟩
 .rintro k F h ⟨hk,rfl,p1⟩
  by_cases hkl:k<t.locs.length
  .have h0:(k:Int)<t.locs.length:=by omega
   have h5:k<t.nodes.length:=by omega
   have h1:¬(t.nodes.length:Int)<=k:=by omega
   have w1:=Hb (show k<9223372036854775807 by omega)
   have:=hi k hkl
   unfold GT at this
   simp only[and_eq_true,decide_eq_true_eq]at this
   obtain⟨⟨⟨⟨⟨⟨⟨⟨g1,g2⟩,g3⟩,g4⟩,g5⟩,g6⟩,g7⟩,g8⟩,g9⟩:=this
   have h2:(t.at k).rmw=false:=by simpa using g7
   have h3:(t.at k).fin=false:=by simpa using g8
   simp only[Vf,go_sem,p1,h0,h1,A5 h5,toNat_natCast,g1,g2,g3,g4,g5,g6,h2,h3,g9,Ho C,w1,A0]
   exact⟨k+1,by omega,by omega,rfl⟩
  .have h4:k=t.locs.length:=by omega
   subst h4
   simp only[Vf,go_sem,p1,A0]
 all_goals simp only[go_sem]
theorem Sy(t:A2)(hn:t.nodes.length<=64)(h4:t.vals<=4)(hr:∀l∈t.regs,l.length<=1000)(hr4:t.regs.length<=4)(s:Nat->Nat)(hs0:s 0=t.locs.length)(hse:s t.regs.length=t.nodes.length)
  (hs:∀i,i<t.regs.length->DO t (s i) i=true/\∃n,G3 t n (s i) (s (i+1))) (r:VH) :
  J7 V Yc [.p 0 0 0 0] (LK t t.locs.length::r) fun v h=>v=.b true/\h=LK t t.nodes.length::r:=by
 rw[DG C.h_z162]
 simp only[A3l,go_sem]
 refine Aj (by decide) t.regs.length (by omega) (I:=fun i F h=>h=LK t (s i)::r/\A3.tmp F 0=.p 0 0 0 0) ?_ ?_ 0 _ _ (zero_le _) ?_ ?_ ?_
 .rintro i F h hi h1 h2 ⟨rfl,p1⟩
  obtain⟨b0,nn,b1⟩:=hs i hi
  have hu:s i<t.nodes.length:=by
   cases nn with
   |zero=>exact b1.elim
   |succ nn=>exact b1.1.1
  have h3:¬(t.nodes.length:Int)<=s i:=by omega
  have hq:=fun(r:VH) Q=>Ja (Sx C t hn h4 hr _ _ _ b1 (s i) r) (Q:=Q)
  unfold DO at b0
  simp only[and_eq_true,decide_eq_true_eq]at b0
  obtain⟨⟨⟨⟨⟨⟨g1,g2⟩,g3⟩,g4⟩,g5⟩,g6⟩,g7⟩:=b0
  have h0:(t.at (s i)).rmw=false:=by simpa using g7
  simp only[A6K,go_sem,h1,h2,p1,h3,A5 hu,toNat_natCast,g1,g2,g3,g4,g5,g6,h0,hq]
 .rintro F h ⟨rfl,p1⟩
  rw[hse]
  simp only[go_sem,p1]
 all_goals simp only[go_sem,hs0]
 all_goals rfl
theorem Nc(t:A2)(h:A7 t):VP V A1m [vT t] Q↔Q (.b true):=by
 refine Af ?_
 rw[Ad C.c_z94.1 C.c_z94.2]
 have a1:=h.v2
 have a2:=h.v4
 have a3:=h.l4
 have a4:=h.n64
 have a5:=h.r1
 have a6:=h.r4
 have b1:¬t.vals<2:=by omega
 have b2:¬4<t.vals:=by omega
 have b3:¬(4:Int)<t.locs.length:=by omega
 have b4:¬(64:Int)<t.nodes.length:=by omega
 have b5:¬(t.regs.length:Int)<1:=by omega
 have b6:¬(4:Int)<t.regs.length:=by omega
 obtain⟨s,s0,se,hs⟩:=h.thr
 have h0:∀l∈t.regs,l.length<=1000:=fun l hl=>by have:=(h.rl l hl).1;omega
 have q1:=fun(r:VH) Q=>Ja (A14 C t h.n64 h.first.1 h.first.2 r) (Q:=Q)
 have q2:=fun(r:VH) Q=>Ja (Sy C t h.n64 h.v4 h0 h.r4 s s0 se hs r) (Q:=Q)
 simp only[Aci,go_sem,b1,b2,b3,b4,b5,b6,P0 C t.locs (by omega) h.ln]
 refine Aj (by decide) t.regs.length (by omega) (I:=fun i F h=>h=[]/\A3.tmp F 1=.fp (eT t) 0/\A3.tmp F 42=.ls (t.regs.map J8)) ?_ ?_ 0 _ _ (zero_le _) ?_ ?_ ?_
 .rintro i F hh hi h1 h2 ⟨rfl,p1,p2⟩
  have hm:=h.rl _ (Aa (d:=[]) hi)
  have hb:¬(4:Int)<(t.regs.getD i []).length:=by omega
  simp only[AcH,go_sem,↓reduceIte,h1,h2,p1,p2,K4 hi,hb,P0 C (t.regs.getD i []) (by omega) hm.2]
 .rintro F hh ⟨rfl,p1,p2⟩
  simp only[go_sem,p1,q1,q2]
 all_goals simp only[go_sem]
 all_goals rfl
end
attribute [go_sem] Int.reduceLE Int.reduceLT Int.reduceEq Int.reduceToNat Int.reduceNeg Int.le_refl toNat_natCast Int.cast_ofNat_Int
section
variable {V:Ai}(C:Am V){Q:VV->Prop}
include C
theorem TH(v n:Int)(h1:1<=n)(h2:n<=2147483648):VP V Yx [.i .i64 v,.i .i64 n] Q↔Q (.i .i64 (v % n)):=by
 refine Af ?_
 rw[Ad C.c_z196.1 C.c_z196.2]
 have c1:¬n<1:=by omega
 have c2:¬2147483648<n:=by omega
 obtain⟨t1,t2⟩:=Ai2 (v:=v) (show 0<n by omega)
 by_cases c:v.tmod n<0
 .obtain⟨t3,t4⟩:=t1 c
  have w:IntKind.i64.wrap (v.tmod n+n)=v % n:=by rw[Ax (by omega) (by omega),t3]
  simp only[UW,go_sem,c1,c2,H8 (show n≠0 by omega),c,w]
 .have c':¬v % n<0:=by rw[<- t2 c];exact c
  simp only[UW,go_sem,c1,c2,H8 (show n≠0 by omega),t2 c,c']
theorem Ek(xs:List ByteArray)(n:ByteArray)(hl:xs.length<=1000):VP V Yu [lS xs,.s n] Q↔Q (.i .i64 (CE (fun y=>decide (n=y)) xs)):=by
 refine Af ?_
 rw[Ad C.c_z193.1 C.c_z193.2]
 simp only[A3F,go_sem]
 refine Ab (by decide) xs.length (by omega) (I:=fun k F h=>h=[]/\A3.tmp F 0=lS xs/\A3.tmp F 1=.s n/\∀(j:Nat) (hj:j<xs.length),j<k->¬n=xs[j]) ?_ ?_ ?_ 0 _ _ (zero_le _) ?_ ?_
 .rintro k F h hk p1 ⟨rfl,p2,p3,p4⟩
  simp only[go_sem,p1,p2,p3]
  exact p4
 .rintro k F h hk p1 ⟨rfl,p2,p3,p4⟩
  by_cases e:xs[k]=n
  .simp only[go_sem,p1,p2,p3,Pn hk,e]
   rw[DC hk (by simp[e]) fun j hj=>by simpa using p4 j (by omega) hj]
  .simp only[go_sem,p1,p2,p3,Pn hk,e]
   intro j hj h0
   by_cases e2:j=k
   .subst e2;exact fun h=>e h.symm
   .exact p4 j hj (by omega)
 .rintro F h ⟨rfl,p2,p3,p4⟩
  simp only[go_sem]
  rw[DB fun x hx=>by obtain⟨j,hj,e⟩:=List.mem_iff_getElem.1 hx;rw[<- e];simpa using p4 j hj hj]
 all_goals simp only[go_sem]
 all_goals first|rfl|(intro j hj h0;omega)
theorem D8(xs:List ByteArray)(n:ByteArray)(hl:xs.length<=1000):VP V Yq [lS xs,.s n] Q↔Q (.b (xs.any fun y=>decide (n=y))):=by
 refine Af ?_
 rw[Ad C.c_z187.1 C.c_z187.2]
 simp only[A3A,go_sem,Ek C xs n hl,KG]
theorem Zu(r:List VV)(h:GE r):VP V YY [.ag r] fun x=>∃k:Int,x=.i .i64 k:=by
 induction h with
 |mk op n nm kids hl hk ih=>
  rw[Ad C.c_z240.1 C.c_z240.2]
  simp only[A49,go_sem]
  by_cases ho:op=1\/op=2
  .unfold VL
   rw[A0]
   refine AJ (M:=Nat) (I:=fun k F h=>h=[]/\A3.tmp F 1=.fp [.i .i64 op,.i .i64 n,.s nm,.ls kids] 0/\A3.tmp F 4=.i .i64 0/\A3.tmp F 3=.i .i64 0) (μ:=fun k=>k) ?_ 0 _ _ ⟨rfl,?_,?_,?_⟩
   .rintro k F h ⟨rfl,p1,p2,p3⟩
    cases c0:decide ((0:Int)<kids.length)<;>rcases ho with ho|ho <;>
     simp only[A6M,go_sem,p1,p2,p3,c0,ho,Int.reduceEq,A0]<;>exact⟨_,rfl⟩
   all_goals simp only[go_sem]
  .have o1:¬op=1:=fun h=>ho (.inl h)
   have o2:¬op=2:=fun h=>ho (.inr h)
   refine Ab (by decide) kids.length (by omega) (I:=fun k F h=>h=[]/\A3.tmp F 1=.fp [.i .i64 op,.i .i64 n,.s nm,.ls kids] 0/\∃d:Int,A3.tmp F 3=.i .i64 d) ?_ ?_ ?_ 0 _ _ (zero_le _) ?_ ?_
   .rintro k F h h0 p1 ⟨rfl,p2,d,p3⟩
    cases c0:decide ((k:Int)<kids.length)
    .have:decide (k<kids.length)=false:=by simp at c0 ⊢;omega
     simp only[go_sem,p1,p2,p3,o1,o2,c0,this]
     try exact⟨d,rfl⟩
    .have:decide (k<kids.length)=true:=by simp at c0 ⊢;omega
     simp only[go_sem,p1,p2,p3,o1,o2,c0,this]
     try exact⟨d,rfl⟩
   .rintro k F h h0 p1 ⟨rfl,p2,d,p3⟩
    have hg:=hk _ (getElem_mem h0)
    simp only[go_sem,p1,p2,p3,Sv h0,hg.len,hg.take,hg.frz]
    refine(ih _ (getElem_mem h0)).mono ?_
    rintro _ ⟨e,rfl⟩
    cases c0:decide (d<e) <;>
    simp only[go_sem,p1,p2,p3,c0]<;>exact⟨_,rfl⟩
   .rintro F h ⟨rfl,p2,d,p3⟩
    simp only[go_sem,p3]
    try exact⟨_,rfl⟩
   all_goals simp only[go_sem]
   all_goals first|rfl|exact⟨_,rfl⟩
theorem Zv(regs:List ByteArray)(vals:List Int)(hr:regs.length<=1000)(hl:vals.length=regs.length)(n:Int)(h1:2<=n)(h2:n<=2147483648)(r:List VV)(h:GE r) :
  VP V YZ [.ag r,lS regs,lI vals,.i .i64 n] fun x=>∃(k:Int) (b:Bool),x=.tu [.i .i64 k,.b b]/\0<=k/\k<n:=by
 have h0:∀v:Int,0<=v % n/\v % n<n:=fun v=>⟨Int.emod_nonneg v (by omega),Int.emod_lt_of_pos v (by omega)⟩
 have q5:=fun v Q=>TH C v n (by omega) h2 (Q:=Q)
 induction h with
 |mk op m nm kids hkl hk ih=>
  rw[Ad C.c_z241.1 C.c_z241.2]
  by_cases o1:op=1
  .simp only[Jl,go_sem,o1,A0,q5]
   exact⟨_,_,rfl,h0 m⟩
  by_cases o2:op=2
  .cases c0:regs.any fun y=>decide (nm=y)with
   |false=>
    have e:=Qr c0
    simp only[Jl,go_sem,o2,A0,q5,Int.reduceEq,Ek C regs nm hr,e,Int.reduceLT,Int.reduceNeg]
    exact⟨_,_,rfl,by omega,by omega⟩
   |true=>
    obtain⟨k,e,h6,_⟩:=HN c0
    have h3:k<vals.length:=by omega
    have h4:¬(k:Int)<0:=by omega
    simp only[Jl,go_sem,o2,A0,q5,Int.reduceEq,Ek C regs nm hr,e,h4,Ak h3]
    exact⟨_,_,rfl,h0 _⟩
  by_cases o3:op<3
  .simp only[Jl,go_sem,o1,o2,o3,A0]
   exact⟨_,_,rfl,by omega,by omega⟩
  by_cases o4:6<op
  .simp only[Jl,go_sem,o1,o2,o3,o4,A0]
   exact⟨_,_,rfl,by omega,by omega⟩
  by_cases o5:(kids.length:Int)=2
  .obtain⟨a,b,rfl⟩:∃a b,kids=[a,b]:=by
    rcases kids with _|⟨a,_|⟨b,_|⟨c,l⟩⟩⟩
    .simp at o5
    .simp at o5
    .exact⟨a,b,rfl⟩
    .simp at o5;omega
   have ga:=hk a (by simp)
   have gb:=hk b (by simp)
   simp only[Jl,go_sem,o1,o2,o3,o4,o5,A0,ga.len,ga.take,ga.frz,gb.len,gb.take,gb.frz,Int.reduceEq,Int.cast_ofNat_Int]
   refine(ih a (by simp)).mono ?_
   rintro _ ⟨ka,ba,rfl,_,_⟩
   simp only[go_sem,gb.len,gb.take,gb.frz]
   refine(ih b (by simp)).mono ?_
   rintro _ ⟨kb,bb,rfl,_,_⟩
   have h5:op=3\/op=4\/op=5\/op=6:=by omega
   cases ba with
   |false=>
    simp only[go_sem]
    exact⟨_,_,rfl,by omega,by omega⟩
   |true=>
    cases bb with
    |false=>
     simp only[go_sem]
     exact⟨_,_,rfl,by omega,by omega⟩
    |true=>
     rcases h5 with rfl|rfl|rfl|rfl
     .simp only[go_sem,A0,q5,Int.reduceEq]
      exact⟨_,_,rfl,h0 _⟩
     .simp only[go_sem,A0,q5,Int.reduceEq]
      exact⟨_,_,rfl,h0 _⟩
     .cases c0:decide (ka=kb) <;>
      simp only[go_sem,A0,q5,Int.reduceEq,c0] <;>
      exact⟨_,_,rfl,by omega,by omega⟩
     .cases c0:decide (ka<kb) <;>
      simp only[go_sem,A0,q5,Int.reduceEq,c0] <;>
      exact⟨_,_,rfl,by omega,by omega⟩
  .simp only[Jl,go_sem,o1,o2,o3,o4,o5,A0]
   exact⟨_,_,rfl,by omega,by omega⟩
theorem DX(regs:List ByteArray)(vals:List Int)(hr:regs.length<=1000)(hl:vals.length=regs.length)(n:Int)(h1:2<=n)(h2:n<=4)(r:List VV)(h:GE r) :
  VP V Rn [.ag r,lS regs,lI vals,.i .i64 n] fun x=>∃(k:Int) (b:Bool),x=.tu [.i .i64 k,.b b]/\0<=k/\k<n:=by
 have c1:¬n<2:=by omega
 have c2:¬4<n:=by omega
 have c3:(regs.length:Int)=vals.length:=by omega
 rw[Ad C.c_z224.1 C.c_z224.2]
 have hb:∀L,CK L r=true:=fun L=>by cases h;rfl
 simp only[A40,go_sem,c1,c2,c3,h.len,h.take,h.frz,h.cell]
 refine(Zu C r h).mono ?_
 rintro _ ⟨k,rfl⟩
 cases c0:decide (6<k)with
 |true=>
  simp only[go_sem,c0]
  exact⟨_,_,rfl,by omega,by omega⟩
 |false=>
  simp only[go_sem,c0,h.len,h.take,h.frz]
  refine(Zv C regs vals hr hl n h1 (by omega) r h).mono ?_
  rintro _ ⟨k,b,rfl,hk⟩
  simp only[go_sem]
  exact⟨_,_,rfl,hk⟩
theorem Cp(k:Int):VP V YO [.i .i64 k] Q↔Q (.b (GZ k)):=by
 refine Af ?_
 rw[Ad C.c_z223.1 C.c_z223.2]
 unfold GZ
 cases c1:decide (k=1)<;>cases c2:decide (k=2)<;>cases c3:decide (k=4) <;>
 simp only[A3Z,go_sem,c1,c2,c3]
def AaJ(V:Ai)(l:List (List VV)):Prop:=∀out:List ByteArray,out.Nodup->(∀n∈out,n∈N4)->VP V Ni [lS out,.ls l] fun x=>∃o:List ByteArray,x=lS o/\o.Nodup/\(∀n∈out,n∈o)/\(∀n∈o,n∈N4)/\∀r∈l,RI o r
omit C in
theorem Nl{o:List ByteArray}(h:o.Nodup)(h4:∀n∈o,n∈N4):o.length<=4:=List.Nodup.length_le_of_subset h h4
theorem HD(l:List (List VV))(hl:l.length<=1000)(hs:∀s∈l,∃kind mode reg loc args th el,s=rS kind mode reg loc args th el/\(GZ kind=true->reg∈N4)/\AaJ V th/\AaJ V el):AaJ V l:=by
 intro h3 hn h4
 rw[Ad C.c_z191.1 C.c_z191.2]
 simp only[A3E,go_sem]
 refine Ab (by decide) l.length (by omega) (I:=fun k F h=>h=[]/\A3.tmp F 1=.ls l/\∃o:List ByteArray,A3.tmp F 0=lS o/\o.Nodup/\(∀n∈h3,n∈o)/\(∀n∈o,n∈N4)/\∀j (hj:j<l.length),j<k->RI o l[j]) ?_ ?_ ?_ 0 _ _ (zero_le _) ?_ ?_
 .rintro k F h hk p1 ⟨rfl,p2,o,p3,p4⟩
  simp only[go_sem,p1,p2,p3]
  exact⟨o,rfl,p4⟩
 .rintro k F h hk p1 ⟨rfl,p2,o,p3,p4,p5,p6,p7⟩
  obtain⟨kind,mode,reg,loc,args,th,el,e,h2,a1,a2⟩:=hs _ (getElem_mem hk)
  have ho:=Nl p4 p6
  have h1:=Sv hk
  rw[e]at h1
  have fin:∀o2:List ByteArray,o2.Nodup->(∀n∈o,n∈o2)->(∀n∈o2,n∈N4)->(GZ kind=true->reg∈o2)->VP V Ni [lS o2,.ls th] fun x=>∃o3:List ByteArray,x=lS o3/\VP V Ni [lS o3,.ls el] fun x=>∃o4:List ByteArray,x=lS o4/\o4.Nodup/\(∀n∈h3,n∈o4)/\(∀n∈o4,n∈N4)/\∀j (hj:j<l.length),j<k+1->RI o4 l[j]:=by
   intro o2 g1 g2 g3 g4
   refine(a1 o2 g1 g3).mono ?_
   rintro _ ⟨o3,rfl,q1,q2,q3,q4⟩
   refine⟨o3,rfl,(a2 o3 q1 q3).mono ?_⟩
   rintro _ ⟨o4,rfl,r1,r2,r3,r4⟩
   refine⟨o4,rfl,r1,fun n hn=>r2 _ (q2 _ (g2 _ (p5 _ hn))),r3,fun j hj hjk=>?_⟩
   by_cases ej:j=k
   .subst ej
    rw[e]
    exact .mk _ _ _ _ _ _ _ (fun h=>r2 _ (q2 _ (g4 h))) (fun s hs=>(q4 s hs).mono r2) r4
   .exact(p7 j hj (by omega)).mono fun n hn=>r2 _ (q2 _ (g2 _ hn))
  cases c0:GZ kind with
  |false=>
   simp only[go_sem,p1,p2,p3,h1,Cp C,c0]
   refine(fin o p4 (fun n h=>h) p6 (fun h=>by rw[c0]at h;cases h)).mono ?_
   rintro _ ⟨o3,rfl,hv⟩
   simp only[go_sem,p1,p2,p3,h1]
   refine hv.mono ?_
   rintro _ ⟨o4,rfl,hv⟩
   simp only[go_sem,p1,p2,p3,h1]
   exact⟨o4,rfl,hv⟩
  |true=>
   cases c1:o.any fun y=>decide (reg=y)with
   |true=>
    have h0:reg∈o:=by
     rw[List.any_eq_true]at c1
     obtain⟨x,hx,e⟩:=c1
     rw[of_decide_eq_true e];exact hx
    simp only[go_sem,p1,p2,p3,h1,Cp C,c0,D8 C o reg (by omega),c1]
    refine(fin o p4 (fun n h=>h) p6 (fun h=>h0)).mono ?_
    rintro _ ⟨o3,rfl,hv⟩
    simp only[go_sem,p1,p2,p3,h1]
    refine hv.mono ?_
    rintro _ ⟨o4,rfl,hv⟩
    simp only[go_sem,p1,p2,p3,h1]
    exact⟨o4,rfl,hv⟩
   |false=>
    have h0:reg∉o:=by
     intro h
     rw[List.any_eq_false]at c1
     simpa using c1 reg h
    have nd:(o++[reg]).Nodup:=List.nodup_append.2 ⟨p4,by simp,by intro a ha b hb;simp at hb;subst hb;intro e;subst e;exact h0 ha⟩
    have sub:∀n∈o++[reg],n∈N4:=fun n hn=>by
     rcases List.mem_append.1 hn with h|h
     .exact p6 n h
     .rw[List.mem_singleton.1 h];exact h2 c0
    have f2:=fin (o++[reg]) nd (fun n h=>List.mem_append_left _ h) sub (fun _=>by simp)
    have b0:o.length * 16<=A6:=by unfold A6;omega
    have b1:(o.length+1) * 16<=A6:=by unfold A6;omega
    simp only[go_sem,p1,p2,p3,h1,Cp C,c0,D8 C o reg (by omega),c1,b0,b1]
    refine f2.mono ?_
    rintro _ ⟨o3,rfl,hv⟩
    simp only[go_sem,p1,p2,p3,h1]
    refine hv.mono ?_
    rintro _ ⟨o4,rfl,hv⟩
    simp only[go_sem,p1,p2,p3,h1]
    exact⟨o4,rfl,hv⟩
 .rintro F h ⟨rfl,p2,o,p3,p4,p5,p6,p7⟩
  simp only[go_sem,p3]
  refine⟨o,rfl,p4,p5,p6,fun r hr=>?_⟩
  obtain⟨j,hj,rfl⟩:=List.mem_iff_getElem.1 hr
  exact p7 j hj hj
 all_goals simp only[go_sem]
 exact⟨h3,rfl,hn,fun n h=>h,h4,fun j hj hjk=>by omega⟩
theorem A1E{locs:List ByteArray}{r:List VV}(h:GS locs r):∃kind mode reg loc args th el,r=rS kind mode reg loc args th el/\(GZ kind=true->reg∈N4)/\AaJ V th/\AaJ V el:=by
 induction h with
 |mk kind mode reg loc args th el h1 h2 h3 h4 h5 h6 h7 ih1 ih2=>exact⟨kind,mode,reg,loc,args,th,el,rfl,h7.rn,HD C th h3 ih1,HD C el h4 ih2⟩
theorem A1D{locs:List ByteArray}(l:List (List VV))(hl:l.length<=1000)(h:∀s∈l,GS locs s):VP V Y5 [.ls l] fun x=>∃o:List ByteArray,x=lS o/\o.Nodup/\(∀n∈o,n∈N4)/\∀r∈l,RI o r:=by
 rw[Ad C.c_z145.1 C.c_z145.2]
 simp only[A3c,go_sem]
 refine(HD C l hl (fun s hs=>A1E C (h s hs)) [] (by simp) (by simp)).mono ?_
 rintro _ ⟨o,rfl,h1,h2,h3,h4⟩
 simp only[go_sem]
 exact⟨o,rfl,h1,h3,h4⟩
end
theorem C4{V:Ai}{m:Nat->Nat}{a b:A1}{F:A3}{h:VH}{Q:Ex->A3->VH->Prop}(J:A3->VH->Prop)(h1:Vc V m a F h (fun e F' h'=>match e with|.norm=>J F' h'|e=>Q e F' h'))(h2:∀F' h',J F' h'->Vc V m b F' h' Q):Vc V m (.seq a b) F h Q:=by
 rw[Ly]
 exact h1.mono fun e F' h' hq=>by
  cases e with
  |norm=>exact h2 _ _ hq
  |exit _=>exact hq
  |ret=>exact hq
theorem DJ{V:Ai}{g:Nat}{pa:List VV}{Q:VV->Prop}(k:VP V g pa Q):∃x,Q x/\∀Q':VV->Prop,VP V g pa Q'↔Q' x:=by
 have h0:∃x,Q x/\VP V g pa fun r=>r=x:=by
  unfold VP at k ⊢
  split at k
  .rename_i y hy
   obtain⟨v,h1,h2,h3⟩:=k
   exact⟨v,h3,v,h1,h2,rfl⟩
  .rename_i hy
   obtain⟨vf,h1,n,v,h',h2,r,ids,h3,h4⟩:=k
   exact⟨r,h4,vf,h1,n,v,h',h2,r,ids,h3,rfl⟩
 obtain⟨x,h1,h2⟩:=h0
 exact⟨x,h1,fun Q'=>Af h2⟩
theorem Qe{V:Ai}{g:Nat}{pa:List VV}{h:VH}{Q:VV->VH->Prop}(k:J7 V g pa h Q):∃x y,Q x y/\∀Q':VV->VH->Prop,J7 V g pa h Q'↔Q' x y:=by
 obtain⟨vf,h1,n,v,h',h2,r,ids,h3,h4,h5⟩:=k
 exact⟨_,_,h5,fun Q'=>Ja ⟨vf,h1,n,v,h',h2,r,ids,h3,h4,rfl,rfl⟩⟩
theorem DR{V:Ai}{g:Nat}{pa:List VV}{h:VH}{Q:VV->VH->Prop}(k:Lx V g pa h Q):∃x y,Q x y/\∀Q':VV->VH->Prop,Lx V g pa h Q'↔Q' x y:=by
 obtain⟨vf,h1,n,v,h',h2,h3⟩:=k
 exact⟨_,_,h3,fun Q'=>MX ⟨vf,h1,n,v,h',h2,rfl,rfl⟩⟩
inductive GC:List VV->Prop
 |mk (op th:Int) (nm:ByteArray) (n:Int) (kids:List (List VV)):kids.length<=1000->(∀k∈kids,GC k)->GC [.i .i64 op,.i .i64 th,.s nm,.i .i64 n,.ls kids]
theorem GC.len{r:List VV}(h:GC r):r.length=5:=by cases h;rfl
theorem GC.frz{r:List VV}(h:GC r){hh:VH}{d:Nat}:B5 (frz hh (d+1)) r=some (r,[]):=by cases h;rfl
theorem GC.take{r:List VV}(h:GC r):r.take 5=r:=by cases h;rfl
theorem GC.cell{r:List VV}(h:GC r):r.all VV.cell=true:=by cases h;rfl
theorem ixS{s:ByteArray}{k:Nat}(h:k<s.size):∃b:UInt8,s.data.toList[k]? = some b:=by
 have:k<s.data.toList.length:=by simpa using h
 exact⟨_,List.getElem?_eq_getElem this⟩
section
variable {V:Ai}(C:Am V){Q:VV->Prop}
include C
theorem Lr(n:Int):VP V YL [.i .u8 n] fun x=>∃b:Bool,x=.b b:=by
 rw[Ad C.c_z219.1 C.c_z219.2]
 simp only[A3W,go_sem]
 repeat' first
 |(refine BB (fun hx=>?_) (fun hx=>?_)<;>simp only[go_sem,hx])
 |(refine Bq (fun hx=>?_) (fun hx=>?_)<;>simp only[go_sem,hx])
 |(refine Bd (fun hx=>?_) (fun hx=>?_)<;>simp only[go_sem,hx])
 all_goals try exact⟨_,rfl⟩
theorem Zs(n:Int):VP V YN [.i .u8 n] fun x=>∃b:Bool,x=.b b:=by
 rw[Ad C.c_z221.1 C.c_z221.2]
 simp only[A3Y,go_sem]
 repeat' first
 |(refine BB (fun hx=>?_) (fun hx=>?_)<;>simp only[go_sem,hx])
 |(refine Bq (fun hx=>?_) (fun hx=>?_)<;>simp only[go_sem,hx])
 |(refine Bd (fun hx=>?_) (fun hx=>?_)<;>simp only[go_sem,hx])
 all_goals try exact⟨_,rfl⟩
theorem Zt:VP V YU [] fun x=>∃l:List ByteArray,x=lS l/\l.length<=1000:=by
 rw[Ad C.c_z236.1 C.c_z236.2]
 simp only[A45,go_sem]
 exact⟨[_,_,_,_,_,_,_,_,_,_,_,_,_,_,_,_,_,_,_,_,_],rfl,by simp⟩
theorem RN(s:ByteArray):VP V YM [.s s] fun x=>∃b:Bool,x=.b b:=by
 rw[Ad C.c_z220.1 C.c_z220.2]
 simp only[A3X,go_sem]
 refine(Zt C).mono ?_
 rintro _ ⟨l,rfl,hl⟩
 refine Ab (by decide) l.length (by omega) (I:=fun k F h=>h=[]/\A3.tmp F 0=.s s/\A3.tmp F 3=lS l) ?_ ?_ ?_ 0 _ _ (zero_le _) ?_ ?_
 .rintro k F h hk p1 ⟨rfl,p2,p3⟩
  simp only[go_sem,p1,p2,p3]
 .rintro k F h hk p1 ⟨rfl,p2,p3⟩
  cases c0:decide (l[k]=s) <;>
  simp only[go_sem,p1,p2,p3,Pn hk,c0]
  try exact⟨_,rfl⟩
 .rintro F h ⟨rfl,p2,p3⟩
  simp only[go_sem]
  try exact⟨_,rfl⟩
 all_goals try simp only[go_sem]
theorem Kt(s:ByteArray)(hs:s.size<=1000):VP V Yp [.s s] fun x=>∃b:Bool,x=.b b:=by
 rw[Ad C.c_z186.1 C.c_z186.2]
 cases c0:decide (s=bs [])with
 |true=>
  simp only[Qx,go_sem,c0]
  try exact⟨_,rfl⟩
 |false=>
  cases c1:decide (8<(s.size:Int))with
  |true=>
   simp only[Qx,go_sem,c0,c1]
   try exact⟨_,rfl⟩
  |false=>
   have hz:0<s.size:=by
    rcases Nat.eq_zero_or_pos s.size with h|h
    .exfalso
     have:s=bs []:=by
      cases s with
      |mk d=>
       have:d = #[]:=Array.eq_empty_of_size_eq_zero h
       rw[this]
     simp[this]at c0
    .exact h
   obtain⟨b0,h1⟩:=ixS hz
   simp only[Qx,go_sem,c0,c1,h1]
   refine(Lr C _).mono ?_
   rintro _ ⟨x0,rfl⟩
   cases x0 with
   |false=>
    simp only[go_sem]
    try exact⟨_,rfl⟩
   |true=>
    simp only[go_sem]
    refine(RN C s).mono ?_
    rintro _ ⟨x1,rfl⟩
    cases x1 with
    |true=>
     simp only[go_sem]
     try exact⟨_,rfl⟩
    |false=>
     simp only[go_sem]
     refine Ab (by decide) s.size (by omega) (I:=fun k F h=>h=[]/\A3.tmp F 0=.s s) ?_ ?_ ?_ 0 _ _ (zero_le _) ?_ ?_
     .rintro k F h hk p1 ⟨rfl,p2⟩
      simp only[go_sem,p1,p2]
     .rintro k F h hk p1 ⟨rfl,p2⟩
      obtain⟨bk,h0⟩:=ixS hk
      simp only[go_sem,p1,p2,h0]
      refine(Lr C _).mono ?_
      rintro _ ⟨x0,rfl⟩
      cases x0 with
      |true=>
       simp only[go_sem,p1,p2]
      |false=>
       simp only[go_sem,p1,p2,h0]
       refine(Zs C _).mono ?_
       rintro _ ⟨x0,rfl⟩
       cases x0 <;>
       simp only[go_sem,p1,p2]
       try exact⟨_,rfl⟩
     .rintro F h ⟨rfl,p2⟩
      simp only[go_sem]
      try exact⟨_,rfl⟩
     all_goals try simp only[go_sem]
theorem A1H(r:List VV)(h:GE r):VP V YW [.ag r] fun x=>∃k:Int,x=.i .i64 k:=by
 induction h with
 |mk op n nm kids hl hk ih=>
  rw[Ad C.c_z238.1 C.c_z238.2]
  simp only[A47,go_sem]
  refine Ab (by decide) kids.length (by omega) (I:=fun k F h=>h=[]/\A3.tmp F 1=.fp [.i .i64 op,.i .i64 n,.s nm,.ls kids] 0/\∃d:Int,A3.tmp F 3=.i .i64 d) ?_ ?_ ?_ 0 _ _ (zero_le _) ?_ ?_
  .rintro k F h h0 p1 ⟨rfl,p2,d,p3⟩
   simp only[go_sem,p1,p2,p3]
   try exact⟨d,rfl⟩
  .rintro k F h h0 p1 ⟨rfl,p2,d,p3⟩
   have hg:=hk _ (getElem_mem h0)
   simp only[go_sem,p1,p2,p3,Sv h0,hg.len,hg.take,hg.frz]
   refine(ih _ (getElem_mem h0)).mono ?_
   rintro _ ⟨e,rfl⟩
   cases c0:decide (d<e) <;>
   simp only[go_sem,p1,p2,p3,c0]
  .rintro F h ⟨rfl,p2,d,p3⟩
   simp only[go_sem,p3]
   try exact⟨_,rfl⟩
  all_goals try simp only[go_sem]
  all_goals first|rfl|exact⟨_,rfl⟩
theorem Pq(r:List VV)(h:GC r):VP V Ys [.ag r] fun x=>∃k:Int,x=.i .i64 k:=by
 induction h with
 |mk op th nm n kids hl hk ih=>
  rw[Ad C.c_z189.1 C.c_z189.2]
  simp only[A3C,go_sem]
  refine Ab (by decide) kids.length (by omega) (I:=fun k F h=>h=[]/\A3.tmp F 1=.fp [.i .i64 op,.i .i64 th,.s nm,.i .i64 n,.ls kids] 0/\∃d:Int,A3.tmp F 3=.i .i64 d) ?_ ?_ ?_ 0 _ _ (zero_le _) ?_ ?_
  .rintro k F h h0 p1 ⟨rfl,p2,d,p3⟩
   simp only[go_sem,p1,p2,p3]
   try exact⟨d,rfl⟩
  .rintro k F h h0 p1 ⟨rfl,p2,d,p3⟩
   have hg:=hk _ (getElem_mem h0)
   simp only[go_sem,p1,p2,p3,Sv h0,hg.len,hg.take,hg.frz]
   refine(ih _ (getElem_mem h0)).mono ?_
   rintro _ ⟨e,rfl⟩
   cases c0:decide (d<e) <;>
   simp only[go_sem,p1,p2,p3,c0]
  .rintro F h ⟨rfl,p2,d,p3⟩
   simp only[go_sem,p3]
   try exact⟨_,rfl⟩
  all_goals try simp only[go_sem]
  all_goals first|rfl|exact⟨_,rfl⟩
theorem A5t(k n:Int):VP V YV [.i .i64 k,.i .i64 n] fun x=>∃b:Bool,x=.b b:=by
 rw[Ad C.c_z237.1 C.c_z237.2]
 simp only[A46,go_sem,A0]
 repeat' first
 |(refine BB (fun hx=>?_) (fun hx=>?_)<;>simp only[go_sem,hx,A0])
 |(refine Bq (fun hx=>?_) (fun hx=>?_)<;>simp only[go_sem,hx,A0])
 |(refine Bd (fun hx=>?_) (fun hx=>?_)<;>simp only[go_sem,hx,A0])
 all_goals try exact⟨_,rfl⟩
theorem Pa(vals:Int)(kn:List ByteArray)(hkn:kn.length<=1000)(r:List VV)(h:GE r):VP V YX [.ag r,.i .i64 vals,lS kn] fun x=>∃k:Int,x=.i .i64 k:=by
  induction h with
  |mk op n nm kids hl hk ih=>
    rw[Ad C.c_z239.1 C.c_z239.2]
    have h1:=fun Q=>D8 C kn nm hkn (Q:=Q)
    simp only[A48]
    refine C4 (J:=fun F h=>h=[]/\A3.tmp F 1=.i .i64 vals/\A3.tmp F 2=lS kn/\A3.tmp F 3=.fp [.i .i64 op,.i .i64 n,.s nm,.ls kids] 0) ?_ ?_
    · simp only[go_sem]
    rintro F h ⟨rfl,p1,p2,p3⟩
    refine C4 (J:=fun F h=>h=[]/\A3.tmp F 1=.i .i64 vals/\A3.tmp F 2=lS kn/\A3.tmp F 3=.fp [.i .i64 op,.i .i64 n,.s nm,.ls kids] 0/\∃b:Bool,A3.tmp F 7=.b b) ?_ ?_
    · simp only [go_sem, p1, p2, p3]
      repeat' first
      |(refine BB (fun hx=>?_) (fun hx=>?_)<;>simp only[go_sem,hx,p1,p2,p3])
      |(refine Bq (fun hx=>?_) (fun hx=>?_)<;>simp only[go_sem,hx,p1,p2,p3])
      |(refine Bd (fun hx=>?_) (fun hx=>?_)<;>simp only[go_sem,hx,p1,p2,p3])
    rintro F h ⟨rfl,p1,p2,p3,b,p4⟩
    refine C4 (J:=fun F h=>h=[]/\A3.tmp F 1=.i .i64 vals/\A3.tmp F 2=lS kn/\A3.tmp F 3=.fp [.i .i64 op,.i .i64 n,.s nm,.ls kids] 0) ?_ ?_
    · cases b <;> simp only [go_sem, p1, p2, p3, p4]
      all_goals repeat' first
                |(refine BB (fun hx=>?_) (fun hx=>?_)<;>simp only[go_sem,hx,p1,p2,p3,p4])
                |(refine Bq (fun hx=>?_) (fun hx=>?_)<;>simp only[go_sem,hx,p1,p2,p3,p4])
                |(refine Bd (fun hx=>?_) (fun hx=>?_)<;>simp only[go_sem,hx,p1,p2,p3,p4])
    rintro F h ⟨rfl,p1,p2,p3⟩
    refine C4 (J:=fun F h=>h=[]/\A3.tmp F 1=.i .i64 vals/\A3.tmp F 2=lS kn/\A3.tmp F 3=.fp [.i .i64 op,.i .i64 n,.s nm,.ls kids] 0) ?_ ?_
    · simp only [go_sem, p1, p2, p3]
      repeat' first
      |(refine BB (fun hx=>?_) (fun hx=>?_)<;>simp only[go_sem,hx,p1,p2,p3])
      |(refine Bq (fun hx=>?_) (fun hx=>?_)<;>simp only[go_sem,hx,p1,p2,p3])
      |(refine Bd (fun hx=>?_) (fun hx=>?_)<;>simp only[go_sem,hx,p1,p2,p3])
    rintro F h ⟨rfl,p1,p2,p3⟩
    refine C4 (J:=fun F h=>h=[]/\A3.tmp F 1=.i .i64 vals/\A3.tmp F 2=lS kn/\A3.tmp F 3=.fp [.i .i64 op,.i .i64 n,.s nm,.ls kids] 0) ?_ ?_
    · simp only [go_sem, p1, p2, p3]
      repeat' first
      |(refine BB (fun hx=>?_) (fun hx=>?_)<;>simp only[go_sem,hx,p1,p2,p3])
      |(refine Bq (fun hx=>?_) (fun hx=>?_)<;>simp only[go_sem,hx,p1,p2,p3])
      |(refine Bd (fun hx=>?_) (fun hx=>?_)<;>simp only[go_sem,hx,p1,p2,p3])
    rintro F h ⟨rfl,p1,p2,p3⟩
    refine C4 (J:=fun F h=>h=[]/\A3.tmp F 1=.i .i64 vals/\A3.tmp F 2=lS kn/\A3.tmp F 3=.fp [.i .i64 op,.i .i64 n,.s nm,.ls kids] 0) ?_ ?_
    · cases c0 : decide (op = 2) <;> cases c1 : (kn.any fun y => decide (nm = y)) <;>
      simp only[go_sem,p1,p2,p3,c0,h1,c1]
    rintro F h ⟨rfl,p1,p2,p3⟩
    simp only[go_sem,p1,p2,p3]
    refine Ab (by decide) kids.length (by omega) (I:=fun k F h=>h=[]/\A3.tmp F 1=.i .i64 vals/\A3.tmp F 2=lS kn/\A3.tmp F 3=.fp [.i .i64 op,.i .i64 n,.s nm,.ls kids] 0) ?_ ?_ ?_ 0 _ _ (zero_le _) ?_ ?_
    · rintro k F h h0 q0 ⟨rfl, q1, q2, q3⟩
      simp only[go_sem,q0,q1,q2,q3]
    · rintro k F h h0 q0 ⟨rfl, q1, q2, q3⟩
      have hg:=hk _ (getElem_mem h0)
      simp only[go_sem,q0,q1,q2,q3,Sv h0,hg.len,hg.take,hg.frz]
      refine(ih _ (getElem_mem h0)).mono ?_
      rintro _ ⟨e,rfl⟩
      cases c0:decide (e=0) <;>
      simp only[go_sem,q0,q1,q2,q3,c0]
      try exact⟨_,rfl⟩
    · rintro F h ⟨rfl, q1, q2, q3⟩
      simp only[go_sem]
      try exact⟨_,rfl⟩
    all_goals try simp only[go_sem,p1,p2,p3]
theorem A1G(vals:Int)(locs:List ByteArray)(hlo:locs.length<=1000)(regs:List (List ByteArray))(hrl:regs.length<=1000)(hre:∀l∈regs,l.length<=1000)(r:List VV)(h:GC r):VP V Yt [.ag r,.i .i64 vals,lS locs,.ls (regs.map J8)] fun x=>∃k:Int,x=.i .i64 k:=by
 induction h with
 |mk op th nm n kids hl hk ih=>
  rw[Ad C.c_z190.1 C.c_z190.2]
  have h0:=fun Q=>D8 C locs nm hlo (Q:=Q)
  simp only[A3D]
  refine C4 (J:=fun F h=>h=[]/\A3.tmp F 1=.i .i64 vals/\A3.tmp F 2=lS locs/\A3.tmp F 3=.ls (regs.map J8)/\A3.tmp F 4=.fp [.i .i64 op,.i .i64 th,.s nm,.i .i64 n,.ls kids] 0) ?_ ?_
  .simp only[go_sem]
  rintro F h ⟨rfl,p1,p2,p3,p4⟩
  refine C4 (J:=fun F h=>(h=[]/\A3.tmp F 1=.i .i64 vals/\A3.tmp F 2=lS locs/\A3.tmp F 3=.ls (regs.map J8)/\A3.tmp F 4=.fp [.i .i64 op,.i .i64 th,.s nm,.i .i64 n,.ls kids] 0)/\∃k:Int,A3.tmp F 9=.i .i64 k) ?_ ?_
  .simp only[go_sem,p1,p2,p3,p4]
   try exact⟨_,rfl⟩
  rintro F h ⟨⟨rfl,p1,p2,p3,p4⟩,k9,p9⟩
  refine C4 (J:=fun F h=>(h=[]/\A3.tmp F 1=.i .i64 vals/\A3.tmp F 2=lS locs/\A3.tmp F 3=.ls (regs.map J8)/\A3.tmp F 4=.fp [.i .i64 op,.i .i64 th,.s nm,.i .i64 n,.ls kids] 0)/\∃k:Int,A3.tmp F 9=.i .i64 k) ?_ ?_
  .simp only[go_sem,p1,p2,p3,p4,p9,A0]
   repeat' first
   |(refine BB (fun hx=>?_) (fun hx=>?_)<;>simp only[go_sem,hx,p1,p2,p3,p4,p9,A0])
   |(refine Bq (fun hx=>?_) (fun hx=>?_)<;>simp only[go_sem,hx,p1,p2,p3,p4,p9,A0])
   |(refine Bd (fun hx=>?_) (fun hx=>?_)<;>simp only[go_sem,hx,p1,p2,p3,p4,p9,A0])
   all_goals try exact⟨_,rfl⟩
  rintro F h ⟨⟨rfl,p1,p2,p3,p4⟩,k9,p9⟩
  refine C4 (J:=fun F h=>h=[]/\A3.tmp F 1=.i .i64 vals/\A3.tmp F 2=lS locs/\A3.tmp F 3=.ls (regs.map J8)/\A3.tmp F 4=.fp [.i .i64 op,.i .i64 th,.s nm,.i .i64 n,.ls kids] 0) ?_ ?_
  .simp only[go_sem,p1,p2,p3,p4,p9]
   repeat' first
   |(refine BB (fun hx=>?_) (fun hx=>?_)<;>simp only[go_sem,hx,p1,p2,p3,p4,p9])
   |(refine Bq (fun hx=>?_) (fun hx=>?_)<;>simp only[go_sem,hx,p1,p2,p3,p4,p9])
   |(refine Bd (fun hx=>?_) (fun hx=>?_)<;>simp only[go_sem,hx,p1,p2,p3,p4,p9])
  rintro F h ⟨rfl,p1,p2,p3,p4⟩
  refine C4 (J:=fun F h=>h=[]/\A3.tmp F 1=.i .i64 vals/\A3.tmp F 2=lS locs/\A3.tmp F 3=.ls (regs.map J8)/\A3.tmp F 4=.fp [.i .i64 op,.i .i64 th,.s nm,.i .i64 n,.ls kids] 0) ?_ ?_
  .by_cases c1:th<0
   .simp only[go_sem,p1,p2,p3,p4,c1,A0,h0]
    repeat' first
    |(refine BB (fun hx=>?_) (fun hx=>?_)<;>simp only[go_sem,hx,p1,p2,p3,p4,c1,A0,h0])
    |(refine Bq (fun hx=>?_) (fun hx=>?_)<;>simp only[go_sem,hx,p1,p2,p3,p4,c1,A0,h0])
    |(refine Bd (fun hx=>?_) (fun hx=>?_)<;>simp only[go_sem,hx,p1,p2,p3,p4,c1,A0,h0])
   .by_cases c2:(regs.length:Int)<=th
    .simp only[go_sem,p1,p2,p3,p4,c1,c2,A0,h0]
     repeat' first
     |(refine BB (fun hx=>?_) (fun hx=>?_)<;>simp only[go_sem,hx,p1,p2,p3,p4,c1,c2,A0,h0])
     |(refine Bq (fun hx=>?_) (fun hx=>?_)<;>simp only[go_sem,hx,p1,p2,p3,p4,c1,c2,A0,h0])
     |(refine Bd (fun hx=>?_) (fun hx=>?_)<;>simp only[go_sem,hx,p1,p2,p3,p4,c1,c2,A0,h0])
    .obtain⟨m,rfl⟩:=Int.eq_ofNat_of_zero_le (by omega:0<=th)
     have hm:m<regs.length:=by omega
     have h1:=fun Q=>D8 C (regs.getD m []) nm (hre _ (Aa hm)) (Q:=Q)
     simp only[go_sem,p1,p2,p3,p4,c1,c2,A0,h0,h1,K4 hm]
     repeat' first
     |(refine BB (fun hx=>?_) (fun hx=>?_)<;>simp only[go_sem,hx,p1,p2,p3,p4,c1,c2,A0,h0,h1,K4 hm])
     |(refine Bq (fun hx=>?_) (fun hx=>?_)<;>simp only[go_sem,hx,p1,p2,p3,p4,c1,c2,A0,h0,h1,K4 hm])
     |(refine Bd (fun hx=>?_) (fun hx=>?_)<;>simp only[go_sem,hx,p1,p2,p3,p4,c1,c2,A0,h0,h1,K4 hm])
  rintro F h ⟨rfl,p1,p2,p3,p4⟩
  refine C4 (J:=fun F h=>h=[]/\A3.tmp F 1=.i .i64 vals/\A3.tmp F 2=lS locs/\A3.tmp F 3=.ls (regs.map J8)/\A3.tmp F 4=.fp [.i .i64 op,.i .i64 th,.s nm,.i .i64 n,.ls kids] 0) ?_ ?_
  .simp only[go_sem,p1,p2,p3,p4]
   repeat' first
   |(refine BB (fun hx=>?_) (fun hx=>?_)<;>simp only[go_sem,hx,p1,p2,p3,p4])
   |(refine Bq (fun hx=>?_) (fun hx=>?_)<;>simp only[go_sem,hx,p1,p2,p3,p4])
   |(refine Bd (fun hx=>?_) (fun hx=>?_)<;>simp only[go_sem,hx,p1,p2,p3,p4])
  rintro F h ⟨rfl,p1,p2,p3,p4⟩
  simp only[go_sem,p1,p2,p3,p4]
  refine Ab (by decide) kids.length (by omega) (I:=fun k F h=>h=[]/\A3.tmp F 1=.i .i64 vals/\A3.tmp F 2=lS locs/\A3.tmp F 3=.ls (regs.map J8)/\A3.tmp F 4=.fp [.i .i64 op,.i .i64 th,.s nm,.i .i64 n,.ls kids] 0) ?_ ?_ ?_ 0 _ _ (zero_le _) ?_ ?_
  .rintro k F h h2 q0 ⟨rfl,q1,q2,q3,q4⟩
   simp only[go_sem,q0,q1,q2,q3,q4]
  .rintro k F h h2 q0 ⟨rfl,q1,q2,q3,q4⟩
   have hg:=hk _ (getElem_mem h2)
   simp only[go_sem,q0,q1,q2,q3,q4,Sv h2,hg.len,hg.take,hg.frz]
   refine(ih _ (getElem_mem h2)).mono ?_
   rintro _ ⟨e,rfl⟩
   cases c0:decide (e=0) <;>
   simp only[go_sem,q0,q1,q2,q3,q4,c0]
   try exact⟨_,rfl⟩
  .rintro F h ⟨rfl,q1,q2,q3,q4⟩
   simp only[go_sem]
   try exact⟨_,rfl⟩
  all_goals try simp only[go_sem,p1,p2,p3,p4]
theorem A1I(nm:ByteArray)(hnm:nm.size<=1000)(vals:Int)(ini thr:List (List VV))(ask:Int)(c:List VV)(hc:GC c):VP V Yo [.ag ([.s nm,.i .i64 vals,.ls ini,.ls thr,.i .i64 ask]++c)] fun x=>∃k:Int,x=.i .i64 k:=by
  cases hc
  rw[Ad C.c_z185.1 C.c_z185.2]
  simp only[A3z,go_sem,A0]
  refine(Kt C nm hnm).mono ?_
  rintro _ ⟨b,rfl⟩
  cases b<;>simp only[go_sem,A0]
  all_goals repeat' first
            |(refine BB (fun hx=>?_) (fun hx=>?_)<;>simp only[go_sem,hx,A0])
            |(refine Bq (fun hx=>?_) (fun hx=>?_)<;>simp only[go_sem,hx,A0])
            |(refine Bd (fun hx=>?_) (fun hx=>?_)<;>simp only[go_sem,hx,A0])
  all_goals try exact⟨_,rfl⟩
abbrev LOo(locs:List ByteArray):Option VO:=some (AN Qc 1 (locs.map eS))
abbrev WKo(vals:Int)(nl:Nat)(kn:VV)(n part:Int):Option VO:=some ⟨MU,0,0,false,[[.i .i64 vals,.sl 0 nl 0 nl,kn,.i .i64 n,.i .i64 part]]⟩
def KN(kn:VV):Prop:=∃l:List ByteArray,l.length<=4/\(kn=lS l\/(kn=.nl/\l=[]))
def HW(locs:List ByteArray)(RG:Option VO)(vals:Int)(nl:Nat)(part:Int)(r h:VH):Prop:=∃(kn:VV) (n:Int) (s:VH),KN kn/\h=LOo locs::RG::WKo vals nl kn n part::(r++s)
def isI(v:VV):Prop:=∃k:Int,v=.i .i64 k
omit C in
theorem KN.bel{kn:VV}(h:KN kn){L:Nat}:bel L kn=true:=by
 obtain⟨l,_,rfl|⟨rfl,_⟩⟩:=h<;>rfl
theorem A5u(lc:List ByteArray)(locs:List ByteArray)(nl:Nat)(hnl:nl=locs.length)(hlo:locs.length<=1000)(vals:Int)(RG:Option VO)(part ifs:Int)(row:List VV)(hr:GS lc row)(kn:VV)(hkn:KN kn)(n:Int)(r:VH) :
    Lx V LS [.p 2 0 0 0,.ag row,.i .i64 ifs] (LOo locs::RG::WKo vals nl kn n part::r) fun v h'=>isI v/\HW locs RG vals nl part r h':=by
  cases hr with
  |mk kind mode reg loc args th el ha1 ha2 ht1 ht2 ht3 ht4 hok=>
  have h3:=hok.rs
  subst hnl
  rw[G4 C.h_z222]
  simp only[QA]
  refine C4 (J:=fun F h=>HW locs RG vals locs.length part r h/\A3.tmp F 0=.p 2 0 0 0/\A3.tmp F 2=.i .i64 ifs/\A3.tmp F 4=.fp (rS kind mode reg loc args th el) 0) ?_ ?_
  · simp only [go_sem]
    exact⟨kn,n,[],hkn,by simp⟩
  rintro F h ⟨⟨kn,n,s,hkn,rfl⟩,p0,p2,p4⟩
  refine C4 (J:=fun F h=>HW locs RG vals locs.length part r h/\A3.tmp F 0=.p 2 0 0 0/\A3.tmp F 2=.i .i64 ifs/\A3.tmp F 4=.fp (rS kind mode reg loc args th el) 0) ?_ ?_
  · simp only [go_sem, p0, p2, p4]
    exact⟨_,_,_,hkn,rfl⟩
  rintro F h ⟨⟨kn,n,s,hkn,rfl⟩,p0,p2,p4⟩
  refine C4 (J:=fun F h=>HW locs RG vals locs.length part r h/\A3.tmp F 0=.p 2 0 0 0/\A3.tmp F 2=.i .i64 ifs/\A3.tmp F 4=.fp (rS kind mode reg loc args th el) 0) ?_ ?_
  · simp only [go_sem, p0, p2, p4]
    repeat' first
    |(refine BB (fun hx=>?_) (fun hx=>?_)<;>simp only[go_sem,hx,p0,p2,p4])
    |(refine Bq (fun hx=>?_) (fun hx=>?_)<;>simp only[go_sem,hx,p0,p2,p4])
    |(refine Bd (fun hx=>?_) (fun hx=>?_)<;>simp only[go_sem,hx,p0,p2,p4])
    all_goals first|exact⟨_,_,_,hkn,rfl⟩|exact⟨⟨_,rfl⟩,_,_,_,hkn,rfl⟩
  rintro F h ⟨⟨kn,n,s,hkn,rfl⟩,p0,p2,p4⟩
  refine C4 (J:=fun F h=>HW locs RG vals locs.length part r h/\A3.tmp F 0=.p 2 0 0 0/\A3.tmp F 2=.i .i64 ifs/\A3.tmp F 4=.fp (rS kind mode reg loc args th el) 0/\isI (A3.tmp F 7)) ?_ ?_
  · simp only [go_sem, p0, p2, p4]
    exact⟨⟨_,_,_,hkn,rfl⟩,⟨_,rfl⟩⟩
  rintro F h ⟨⟨kn,n,s,hkn,rfl⟩,p0,p2,p4,k7,p7⟩
  refine C4 (J:=fun F h=>HW locs RG vals locs.length part r h/\A3.tmp F 0=.p 2 0 0 0/\A3.tmp F 2=.i .i64 ifs/\A3.tmp F 4=.fp (rS kind mode reg loc args th el) 0/\isI (A3.tmp F 7)) ?_ ?_
  · simp only [go_sem, p0, p2, p4, p7, A0]
    repeat' first
    |(refine BB (fun hx=>?_) (fun hx=>?_)<;>simp only[go_sem,hx,p0,p2,p4,p7,A0])
    |(refine Bq (fun hx=>?_) (fun hx=>?_)<;>simp only[go_sem,hx,p0,p2,p4,p7,A0])
    |(refine Bd (fun hx=>?_) (fun hx=>?_)<;>simp only[go_sem,hx,p0,p2,p4,p7,A0])
    all_goals first|exact⟨⟨_,_,_,hkn,rfl⟩,⟨_,rfl⟩⟩|skip
  rintro F h ⟨⟨kn,n,s,hkn,rfl⟩,p0,p2,p4,k7,p7⟩
  obtain⟨_,⟨bm,rfl⟩,qm⟩:=DJ (A5t C kind mode)
  refine C4 (J:=fun F h=>HW locs RG vals locs.length part r h/\A3.tmp F 0=.p 2 0 0 0/\A3.tmp F 2=.i .i64 ifs/\A3.tmp F 4=.fp (rS kind mode reg loc args th el) 0) ?_ ?_
  · cases bm <;> simp only [go_sem, p0, p2, p4, p7, qm]
    all_goals repeat' first
              |(refine BB (fun hx=>?_) (fun hx=>?_)<;>simp only[go_sem,hx,p0,p2,p4,p7,qm])
              |(refine Bq (fun hx=>?_) (fun hx=>?_)<;>simp only[go_sem,hx,p0,p2,p4,p7,qm])
              |(refine Bd (fun hx=>?_) (fun hx=>?_)<;>simp only[go_sem,hx,p0,p2,p4,p7,qm])
    all_goals first|exact⟨_,_,_,hkn,rfl⟩|exact⟨⟨_,rfl⟩,_,_,_,hkn,rfl⟩
  rintro F h ⟨⟨kn,n,s,hkn,rfl⟩,p0,p2,p4⟩
  refine C4 (J:=fun F h=>HW locs RG vals locs.length part r h/\A3.tmp F 0=.p 2 0 0 0/\A3.tmp F 2=.i .i64 ifs/\A3.tmp F 4=.fp (rS kind mode reg loc args th el) 0/\KN (A3.tmp F 8)) ?_ ?_
  · simp only [go_sem, p0, p2, p4]
    exact⟨⟨_,_,_,hkn,rfl⟩,hkn⟩
  rintro F h ⟨⟨kn,n,s,hkn,rfl⟩,p0,p2,p4,h8⟩
  obtain⟨_,⟨bn,rfl⟩,qn⟩:=DJ (Kt C reg h3)
  refine C4 (J:=fun F h=>HW locs RG vals locs.length part r h/\A3.tmp F 0=.p 2 0 0 0/\A3.tmp F 2=.i .i64 ifs/\A3.tmp F 4=.fp (rS kind mode reg loc args th el) 0/\KN (A3.tmp F 8)) ?_ ?_
  · have q1 := fun Q => D8 C locs reg hlo (Q := Q)
    have q0:=fun Q=>D8 C [] reg (by simp) (Q:=Q)
    simp only[lS,map_nil,any_nil]at q0
    obtain⟨l8,h0,e8⟩:=h8
    have q2:=fun Q=>D8 C l8 reg (by omega) (Q:=Q)
    have b0:l8.length * 16<=A6:=by unfold A6;omega
    have b1:(l8.length+1) * 16<=A6:=by unfold A6;omega
    have b2:(0+1) * 16<=A6:=by unfold A6;omega
    have h8:KN (A3.tmp F 8):=⟨l8,h0,e8⟩
    cases c0:GZ kind with
    |false=>
      simp only[go_sem,p0,p2,p4,Cp C,c0]
      repeat' first
      |(refine BB (fun hx=>?_) (fun hx=>?_)<;>simp only[go_sem,hx,p0,p2,p4])
      |(refine Bq (fun hx=>?_) (fun hx=>?_)<;>simp only[go_sem,hx,p0,p2,p4])
      |(refine Bd (fun hx=>?_) (fun hx=>?_)<;>simp only[go_sem,hx,p0,p2,p4])
      all_goals first|exact⟨⟨_,_,_,hkn,rfl⟩,h8⟩|exact⟨⟨_,rfl⟩,_,_,_,hkn,rfl⟩
    |true=>
      cases bn with
      |false=>
        simp only[go_sem,p0,p2,p4,Cp C,c0,qn]
        exact⟨⟨_,rfl⟩,_,_,_,hkn,rfl⟩
      |true=>
        cases c1:locs.any fun y=>decide (reg=y)with
        |true=>
          simp only[go_sem,p0,p2,p4,Cp C,c0,qn,q1,c1]
          exact⟨⟨_,rfl⟩,_,_,_,hkn,rfl⟩
        |false=>
          rcases e8 with p8|⟨p8,rfl⟩
          · cases c2:l8.any fun y=>decide (reg=y)with
            |true=>
              simp only[go_sem,p0,p2,p4,p8,Cp C,c0,qn,q1,c1,q2,c2]
              exact⟨⟨_,_,_,hkn,rfl⟩,⟨l8,h0,.inl rfl⟩⟩
            |false=>
              cases c3:decide ((l8.length:Int)=4)with
              |true=>
                simp only[go_sem,p0,p2,p4,p8,Cp C,c0,qn,q1,c1,q2,c2,c3]
                exact⟨⟨_,rfl⟩,_,_,_,hkn,rfl⟩
              |false=>
                have h4:¬(l8.length:Int)=4:=by simpa using c3
                simp only[go_sem,p0,p2,p4,p8,Cp C,c0,qn,q1,c1,q2,c2,c3,b0,b1]
                exact⟨⟨_,_,s++[none],⟨l8++[reg],by simp;omega,.inl rfl⟩,rfl⟩,⟨l8,h0,.inl rfl⟩⟩
          · simp only [go_sem, p0, p2, p4, p8, Cp C, c0, qn, q1, c1, q0, b2]
            exact⟨⟨_,_,s++[none],⟨[reg],by simp,.inl rfl⟩,rfl⟩,⟨[],by simp,.inr ⟨rfl,rfl⟩⟩⟩
  rintro F h ⟨⟨kn,n,s,hkn,rfl⟩,p0,p2,p4,h8⟩
  refine C4 (J:=fun F h=>HW locs RG vals locs.length part r h/\A3.tmp F 0=.p 2 0 0 0/\A3.tmp F 2=.i .i64 ifs/\A3.tmp F 4=.fp (rS kind mode reg loc args th el) 0/\KN (A3.tmp F 8)) ?_ ?_
  · have q1 := fun Q => D8 C locs loc hlo (Q := Q)
    simp only[go_sem,p0,p2,p4,A0,q1]
    repeat' first
    |(refine BB (fun hx=>?_) (fun hx=>?_)<;>simp only[go_sem,hx,p0,p2,p4,A0,q1])
    |(refine Bq (fun hx=>?_) (fun hx=>?_)<;>simp only[go_sem,hx,p0,p2,p4,A0,q1])
    |(refine Bd (fun hx=>?_) (fun hx=>?_)<;>simp only[go_sem,hx,p0,p2,p4,A0,q1])
    all_goals first|exact⟨⟨_,_,_,hkn,rfl⟩,h8⟩|exact⟨⟨_,rfl⟩,_,_,_,hkn,rfl⟩
  rintro F h ⟨⟨kn,n,s,hkn,rfl⟩,p0,p2,p4,h8⟩
  simp only[go_sem,p0,p2,p4]
  refine Ab (by decide) args.length (by omega) (I:=fun k F h=>HW locs RG vals locs.length part r h/\A3.tmp F 0=.p 2 0 0 0/\A3.tmp F 4=.fp (rS kind mode reg loc args th el) 0/\KN (A3.tmp F 8)) ?_ ?_ ?_ 0 _ _ (zero_le _) ?_ ?_
  · rintro k F h hk q0 ⟨⟨kn, n, s, hkn, rfl⟩, p0, p4, h8⟩
    simp only[go_sem,q0,p0,p4]
    exact⟨⟨_,_,_,hkn,rfl⟩,h8⟩
  · rintro k F h hk q0 ⟨⟨kn, n, s, hkn, rfl⟩, p0, p4, l8, h0, e8⟩
    have hg:=ha2 _ (getElem_mem hk)
    obtain⟨_,⟨d,rfl⟩,qd⟩:=DJ (A1H C _ hg)
    obtain⟨_,⟨ex,rfl⟩,qe⟩:=DJ (Pa C vals l8 (by omega) _ hg)
    obtain⟨_,⟨h2,rfl⟩,h1⟩:=DJ (Pa C vals [] (by simp) _ hg)
    simp only[lS,map_nil]at h1
    cases c0:decide (6<d)with
    |true=>
      simp only[go_sem,q0,p0,p4,Sv hk,hg.len,hg.take,hg.frz,qd,c0]
      exact⟨⟨_,rfl⟩,_,_,_,hkn,rfl⟩
    |false=>
      rcases e8 with p8|⟨p8,rfl⟩
      · cases c1 : decide (ex = 0) <;>
        simp only[go_sem,q0,p0,p4,p8,Sv hk,hg.len,hg.take,hg.frz,qd,qe,c0,c1]
        · exact⟨⟨_,rfl⟩,_,_,_,hkn,rfl⟩
        · exact⟨⟨_,_,_,hkn,rfl⟩,⟨l8,h0,.inl rfl⟩⟩
      · cases c1 : decide (h2 = 0) <;>
        simp only[go_sem,q0,p0,p4,p8,Sv hk,hg.len,hg.take,hg.frz,qd,h1,c0,c1]
        · exact⟨⟨_,rfl⟩,_,_,_,hkn,rfl⟩
        · exact⟨⟨_,_,_,hkn,rfl⟩,⟨[],by simp,.inr ⟨rfl,rfl⟩⟩⟩
  · rintro F h ⟨⟨kn, n, s, hkn, rfl⟩, p0, p4, h8⟩
    simp only[go_sem]
    exact⟨⟨_,rfl⟩,_,_,_,hkn,rfl⟩
  · simp only[go_sem]
  · simp only [go_sem, p0, p2, p4]
    exact⟨⟨_,_,_,hkn,rfl⟩,h8⟩
def HW2(locs:List ByteArray)(RG:Option VO)(vals:Int)(r h:VH):Prop:=∃part,HW locs RG vals locs.length part r h
def A92(V:Ai)(locs:List ByteArray)(RG:Option VO)(vals:Int)(l:List (List VV)):Prop:=∀(ifs:Int) (kn:VV) (n part:Int) (r:VH),KN kn ->
 Lx V Yr [.p 2 0 0 0,.ls l,.i .i64 ifs] (LOo locs::RG::WKo vals locs.length kn n part::r) fun v h'=>isI v/\HW2 locs RG vals r h'
theorem HE(lc locs:List ByteArray)(hlo:locs.length<=1000)(vals:Int)(RG:Option VO)(l:List (List VV))(hl:l.length<=1000)(hs:∀s∈l,GS lc s/\∃kind mode reg loc args th el,s=rS kind mode reg loc args th el/\A92 V locs RG vals th/\A92 V locs RG vals el):A92 V locs RG vals l:=by
 intro h7 kn n h0 r h1
 rw[G4 C.h_z188]
 simp only[A3B,go_sem]
 refine Ab (by decide) l.length (by omega) (I:=fun k F h=>HW2 locs RG vals r h/\A3.tmp F 0=.p 2 0 0 0/\A3.tmp F 1=.ls l/\A3.tmp F 2=.i .i64 h7) ?_ ?_ ?_ 0 _ _ (zero_le _) ?_ ?_
 .rintro k F h hk q0 ⟨⟨h0,kn,n,s,h1,rfl⟩,p0,p1,p2⟩
  simp only[go_sem,q0,p0,p1,p2]
  exact⟨_,_,_,_,h1,rfl⟩
 .rintro k F h hk q0 ⟨⟨h0,kn,n,s,h1,rfl⟩,p0,p1,p2⟩
  obtain⟨hg,kind,mode,reg,loc,args,th,el,e,a1,a2⟩:=hs _ (getElem_mem hk)
  have h3:=Sv hk
  rw[e]at h3
  rw[e]at hg
  obtain⟨_,_,⟨⟨e1,rfl⟩,h9,n1,s1,h4,rfl⟩,c1⟩:=DR (A5u C lc locs locs.length rfl hlo vals RG h0 h7 _ hg kn h1 n (r++s))
  obtain⟨_,_,⟨⟨e2,rfl⟩,h6,ha,n2,s2,h5,rfl⟩,c2⟩:=DR (a1 (IntKind.i64.wrap (h7+1)) h9 n1 (IntKind.i64.wrap (h0+1)) (r++(s++s1)) h4)
  obtain⟨_,_,⟨⟨e3,rfl⟩,h8,hb,n3,s3,h2,rfl⟩,c3⟩:=DR (a2 (IntKind.i64.wrap (h7+1)) ha n2 h6 (r++(s++(s1++s2))) h5)
  simp only[List.append_assoc]at c1 c2 c3
  cases z1:decide (e1=0)with
  |false=>
   simp only[go_sem,q0,p0,p1,p2,h3,c1,z1]
   exact⟨⟨_,rfl⟩,_,_,_,_,h4,rfl⟩
  |true=>
   cases z2:decide (e2=0)with
   |false=>
    simp only[go_sem,q0,p0,p1,p2,h3,c1,z1,c2,z2]
    exact⟨⟨_,rfl⟩,_,_,_,_,h5,rfl⟩
   |true=>
    cases z3:decide (e3=0)with
    |false=>
     simp only[go_sem,q0,p0,p1,p2,h3,c1,z1,c2,z2,c3,z3]
     exact⟨⟨_,rfl⟩,_,_,_,_,h2,rfl⟩
    |true=>
     simp only[go_sem,q0,p0,p1,p2,h3,c1,z1,c2,z2,c3,z3]
     exact⟨.inr h2.bel,_,_,_,_,h2,rfl⟩
 .rintro F h ⟨⟨h0,kn,n,s,h1,rfl⟩,p0,p1,p2⟩
  simp only[go_sem]
  exact⟨⟨_,rfl⟩,_,_,_,_,h1,rfl⟩
 .simp only[go_sem]
 .simp only[go_sem]
  exact⟨h0,kn,n,[],h1,by simp⟩
theorem A1F{lc locs:List ByteArray}(hlo:locs.length<=1000){vals:Int}{RG:Option VO}{r:List VV}(h:GS lc r):∃kind mode reg loc args th el,r=rS kind mode reg loc args th el/\A92 V locs RG vals th/\A92 V locs RG vals el:=by
 induction h with
 |mk kind mode reg loc args th el h1 h2 h3 h4 h5 h6 h7 ih1 ih2=>exact⟨kind,mode,reg,loc,args,th,el,rfl,HE C lc locs hlo vals RG th h3 fun s hs=>⟨h5 s hs,ih1 s hs⟩,HE C lc locs hlo vals RG el h4 fun s hs=>⟨h6 s hs,ih2 s hs⟩⟩
theorem A5s{lc locs:List ByteArray}(hlo:locs.length<=1000){vals:Int}{RG:Option VO}(l:List (List VV))(hl:l.length<=1000)(h:∀s∈l,GS lc s):A92 V locs RG vals l:=
 HE C lc locs hlo vals RG l hl fun s hs=>⟨h s hs,A1F C hlo (h s hs)⟩
def RG2(L:List ByteArray)(k:Nat)(h:VH):Prop:=∃rg:List (List ByteArray),rg.length=k/\(∀l∈rg,l.length<=4)/\h=[some (AN Qc 1 (L.map eS)),some (AN BU 1 (rg.map J8))]
omit C in
theorem GK{ty e v:Nat}{α:Type}{xs:List α}{x:α}{f:α->List VV}(hv:v=xs.length+1):({ ty:=ty,esz:=e,ver:=v,nl:=false,rows:=(xs++[x]).map f }:VO)=AN ty e ((xs++[x]).map f):=by
 subst hv;exact Jb
structure GP(nm:ByteArray)(vals:Int)(ini:List (ByteArray×Int))(thr:List (List (List VV)))(ask:Int)(c:List VV):Prop where
 g1:nm.size<=1000
 g2:ini.length<=1000
 g3:∀x∈ini,x.1.size<=1000
 g4:thr.length<=1000
 g5:∀l∈thr,l.length<=1000/\∀s∈l,GS (ini.map (·.1)) s
 g6:GC c
abbrev eCl(x:ByteArray×Int):List VV:=[.s x.1,.i .i64 x.2]
abbrev vPr(nm:ByteArray)(vals:Int)(ini:List (ByteArray×Int))(thr:List (List (List VV)))(ask:Int)(c:List VV):VV:=.ag ([.s nm,.i .i64 vals,.ls (ini.map eCl),.ls (thr.map fun l=>[.ls l]),.i .i64 ask]++c)
theorem A5r(nm:ByteArray)(vals:Int)(ini:List (ByteArray×Int))(thr:List (List (List VV)))(ask:Int)(c:List VV)(h:GP nm vals ini thr ask c):VP V Y4 [vPr nm vals ini thr ask c] fun x=>∃e k:Int,x=.tu [.i .i64 e,.i .i64 k]:=by
 obtain⟨h1,h2,h3,h4,h5,hc⟩:=h
 rw[Ad C.c_z144.1 C.c_z144.2]
 obtain⟨_,⟨e0,rfl⟩,qh⟩:=DJ (A1I C nm h1 vals (ini.map eCl) (thr.map fun l=>[.ls l]) ask c hc)
 cases hc with
 |mk op th cn n kids g1 g2=>
 simp only[cons_append,nil_append]at qh
 cases z0:decide (e0=0)with
 |false=>
  simp only[UO,go_sem,qh,z0]
  exact⟨_,_,rfl⟩
 |true=>
 simp only[UO,go_sem,qh,z0]
 have ha:∀k,k<=ini.length->((ini.take k).map (·.1)).length=k:=fun k hk=>by simp;omega
 refine Ab (by decide) ini.length (by omega) (I:=fun k F h=>h=[some (AN Qc 1 (((ini.take k).map (·.1)).map eS))]/\A3.tmp F 1=(.fp [.s nm,.i .i64 vals,.ls (ini.map eCl),.ls (thr.map fun l=>[.ls l]),.i .i64 ask,.i .i64 op,.i .i64 th,.s cn,.i .i64 n,.ls kids] 0)/\A3.tmp F 5=.sl 0 k 0 k) ?_ ?_ ?_ 0 _ _ (zero_le _) ?_ ?_
 .rintro k F h hk p0 ⟨rfl,p1,p5⟩
  simp only[go_sem,p0,p1,p5]
 .rintro k F h hk p0 ⟨rfl,p1,p5⟩
  have h8:=ha k (by omega)
  have h0:ini[k]? = some ini[k]:=List.getElem?_eq_getElem hk
  have hd:(ini.take (k+1)).map (·.1)=(ini.take k).map (·.1)++[ini[k].1]:=by rw[List.take_succ_eq_append_getElem hk,List.map_append];rfl
  obtain⟨_,⟨bn,rfl⟩,qn⟩:=DJ (Kt C ini[k].1 (h3 _ (getElem_mem hk)))
  have hb:=fun Q=>D8 C ((ini.take k).map (·.1)) ini[k].1 (by omega) (Q:=Q)
  rw[hd]
  clear hd
  generalize hL:(ini.take k).map (·.1)=L at *
  have b1:(k+1) * 16<=A6:=by unfold A6;omega
  have h7:L.take k=L:=by rw[List.take_of_length_le];omega
  cases bn with
  |false=>
   simp only[go_sem,p0,p1,p5,h0,qn]
   try exact⟨_,_,rfl⟩
  |true=>
   cases c1:L.any fun y=>decide (ini[k].1=y)with
   |true=>
    simp only[go_sem,p0,p1,p5,h0,qn,h8,hb,h7,c1]
    try exact⟨_,_,rfl⟩
   |false=>
    cases c2:decide (ini[k].2<0)<;>cases c3:decide (vals<=ini[k].2) <;>
    simp only[go_sem,p0,p1,p5,h0,qn,h8,hb,h7,c1,c2,c3,b1]
    all_goals try exact⟨_,_,rfl⟩
    exact congrArg (fun x=>[some x]) (GK (by omega))
 .rintro F h ⟨rfl,p1,p5⟩
  rw[List.take_length]
  simp only[go_sem,p1,p5]
  generalize hL:ini.map (·.1)=L at *
  have hf:L.length=ini.length:=by rw[<- hL];simp
  have he:L.take L.length=L:=List.take_length
  rw[<- hf]at p5
  refine Ab (by decide) thr.length (by omega) (I:=fun k F h=>RG2 L k h/\A3.tmp F 1=(.fp [.s nm,.i .i64 vals,.ls (ini.map eCl),.ls (thr.map fun l=>[.ls l]),.i .i64 ask,.i .i64 op,.i .i64 th,.s cn,.i .i64 n,.ls kids] 0)/\A3.tmp F 5=.sl 0 L.length 0 L.length/\A3.tmp F 9=.sl 1 k 0 k/\isI (A3.tmp F 8)) ?_ ?_ ?_ 0 _ _ (zero_le _) ?_ ?_
  .rintro k F h hk q0 ⟨h6,q1,q5,q9,q8⟩
   simp only[go_sem,q0,q1,q5,q9]
   exact⟨h6,q8⟩
  .rintro k F h hk q0 ⟨⟨rg,h6,h9,rfl⟩,q1,q5,q9,pt,q8⟩
   obtain⟨m1,m2⟩:=h5 _ (getElem_mem hk)
   have h0:thr[k]? = some thr[k]:=List.getElem?_eq_getElem hk
   obtain⟨_,_,⟨⟨e1,rfl⟩,hj,kn,n1,s,⟨lk,h8,hg⟩,rfl⟩,c1⟩:=DR (A5s C (locs:=L) (by omega) (vals:=vals) (RG:=some (AN BU 1 (rg.map J8))) thr[k] m1 m2 0 .nl 0 pt [] ⟨[],by simp,.inr ⟨rfl,rfl⟩⟩)
   have b1:(k+1) * 24<=A6:=by unfold A6;omega
   have hi:(rg.map J8).length=k:=by simp[h6]
   simp only[nil_append]at c1
   cases z1:decide (e1=0)with
   |false=>
    simp only[go_sem,q0,q1,q5,q9,q8,h0,c1,z1]
    try exact⟨_,_,rfl⟩
   |true=>
    rcases hg with rfl|⟨rfl,rfl⟩
    .simp only[go_sem,q0,q1,q5,q9,q8,h0,c1,z1,b1,h6]
     have e:rg.map J8++[[VV.ls (List.map eS lk)]]=(rg++[lk]).map J8:=by simp
     refine⟨.inr ?_,⟨rg++[lk],by simp[h6],fun l hl=>?_,?_⟩,⟨_,rfl⟩⟩
     .rw[e];exact Hh fun x=>rfl
     .rcases List.mem_append.1 hl with h|h
      .exact h9 l h
      .rw[List.mem_singleton.1 h];simpa using h8
     .rw[e];exact congrArg (fun x=>[LOo L,some x]) (GK (by omega))
    .simp only[go_sem,q0,q1,q5,q9,q8,h0,c1,z1,b1,h6]
     have e:rg.map J8++[[VV.ls []]]=(rg++[([]:List ByteArray)]).map J8:=by simp
     refine⟨.inr ?_,⟨rg++[([]:List ByteArray)],by simp[h6],fun l hl=>?_,?_⟩,⟨_,rfl⟩⟩
     .rw[e];exact Hh fun x=>rfl
     .rcases List.mem_append.1 hl with h|h
      .exact h9 l h
      .rw[List.mem_singleton.1 h];simpa using h8
     .rw[e];exact congrArg (fun x=>[LOo L,some x]) (GK (by omega))
  .rintro F h ⟨⟨rg,h6,h9,rfl⟩,q1,q5,q9,pt,q8⟩
   have hh:rg.take thr.length=rg:=by rw[List.take_of_length_le];omega
   obtain⟨_,⟨d,rfl⟩,qd⟩:=DJ (Pq C _ (GC.mk op th cn n kids g1 g2))
   obtain⟨_,⟨ce,rfl⟩,qc⟩:=DJ (A1G C vals L (by omega) rg (by omega) (fun l hl=>by have:=h9 l hl;omega) _ (GC.mk op th cn n kids g1 g2))
   cases z1:decide (6<d)<;>cases z2:decide (ce=0)<;>cases z3:decide (ask=1)<;>cases z4:decide (ask=2) <;>
   simp only[go_sem,q1,q5,q9,q8,qd,qc,z1,z2,z3,z4,h6,hh,he]
   all_goals try exact⟨_,_,rfl⟩
  .simp only[go_sem]
  .simp only[go_sem,p1,p5]
   exact⟨⟨[],rfl,by simp,rfl⟩,⟨_,rfl⟩⟩
 .simp only[go_sem]
 .simp only[go_sem]
end
end Go.AM
