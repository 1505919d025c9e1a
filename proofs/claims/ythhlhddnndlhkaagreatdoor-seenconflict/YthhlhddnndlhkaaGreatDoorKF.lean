/-
  Own work, part of the proof of the laws SeenLasts, SeenCalm, SeenConflict: what is seen of a structure.
-/
import Derived.Test.YthhlhddnndlhkaaGreatDoorKE
set_option maxRecDepth 4000
set_option linter.unusedVariables false
set_option linter.unusedSimpArgs false
set_option linter.unusedSectionVars false
set_option linter.unnecessarySimpa false
namespace Go.AM
open Go Go.Proofs
theorem Ds {n:Nat} {p q:Nat→Nat→Bool} (h:∀ a b,a < n→b < n→p a b=q a b):Ar n p=Ar n q:=by
 unfold Ar
 apply List.map_congr_left
 intro a ha
 congr 1
 funext b
 cases c:decide (b < n) with
 | false=>rfl
 | true=>rw [h a b (List.mem_range.1 ha) (of_decide_eq_true c)]
theorem A5Q {i j:Nat} (hj:j < 64):(CQ (i:Int)).getLsbD j=decide (i=j):=by
 rw [CR]
 exact decide_eq_decide.2 ⟨fun h=>by omega,fun h=>by omega⟩
theorem NR {n:Nat} (hn:n≤64) (q:Nat→Nat→Bool) {a b:Nat} (ha:a < n) (hb:b < n):(Ar n q).set b ((Ar n q).getD b 0#64 ||| CQ (a:Int))=Ar n fun j i=>q j i || (decide (j=b) && decide (i=a)):=by
 apply List.ext_getElem
 ·simp [Al]
 ·intro j h1 h2
  rw [List.length_set,Al] at h1
  rw [List.getElem_set]
  have g:=Bi (n:=n) (p:=q) h1
  have g2:=Bi (n:=n) (p:=fun j i=>q j i || (decide (j=b) && decide (i=a))) h1
  rw [List.getElem?_eq_getElem (by rw [Al];exact h1),Option.some.injEq] at g g2
  rw [g2]
  by_cases c:b=j
  ·subst c
   rw [if_pos rfl,List.getD_eq_getElem?_getD,Bi h1,Option.getD_some]
   apply Bp
   intro i hi
   rw [BitVec.getLsbD_or,At,At,A5Q hi,decide_eq_true (show b=b from rfl),Bool.true_and]
   by_cases e:a=i
   ·subst e;simp [ha,hi]
   ·have e2:decide (i=a)=false:=decide_eq_false fun h=>e h.symm
    rw [decide_eq_false e,e2,Bool.or_false,Bool.or_false]
  ·rw [if_neg c,g]
   congr 1
   funext i
   rw [decide_eq_false (show ¬ j=b from fun h=>c h.symm),Bool.false_and,Bool.or_false]
theorem MJ {n:Nat} (hn:n≤64) (p:Nat→Nat→Bool) (x:Int×Int):x∈CS (Ar n p)↔∃ a b:Nat,a < n∧b < n∧x=((a:Int),(b:Int))∧p a b=true:=by
 rw [CS,D5 hn,if_pos rfl,Al,List.mem_flatMap]
 constructor
 ·rintro ⟨a,ha,h⟩
  have ha':=List.mem_range.1 ha
  obtain ⟨j,hj,rfl⟩:=List.mem_map.1 h
  obtain ⟨h1,h2⟩:=DE (BQ.1 hj)
  obtain ⟨b,rfl⟩:=Int.eq_ofNat_of_zero_le h1
  have h3:=BQ.1 hj
  rw [AS,List.getD_eq_getElem?_getD,Bi ha',Option.getD_some,At] at h3
  simp only [Bool.and_eq_true,decide_eq_true_eq] at h3
  exact ⟨a,b,ha',by omega,rfl,by simp_all⟩
 ·rintro ⟨a,b,ha,hb,rfl,h⟩
  refine ⟨a,List.mem_range.2 ha,List.mem_map.2 ⟨b,BQ.2 ?_,rfl⟩⟩
  rw [Jm hn ha hb];exact h
def bkP (P:List (Int×Int)) (k:Nat) (j i:Nat):Bool:=(P.take k).any fun x=>decide (x=((i:Int),(j:Int)))
theorem A8f {P:List (Int×Int)} {k a b:Nat} (hk:k < P.length) (e:P[k]=((a:Int),(b:Int))):(fun j i=>bkP P k j i || (decide (j=b) && decide (i=a)))=bkP P (k+1):=by
 funext j i
 unfold bkP
 rw [List.take_succ_eq_append_getElem hk,List.any_append,e]
 congr 1
 simp only [List.any_cons,List.any_nil,Bool.or_false]
 rw [← Bool.decide_and]
 refine decide_eq_decide.2 ⟨fun ⟨h1,h2⟩=>by rw [h1,h2],fun h=>?_⟩
 simp only [Prod.mk.injEq] at h
 omega
theorem Ac8 {n:Nat} (hn:n≤64) (p:Nat→Nat→Bool):Ar n (bkP (CS (Ar n p)) (CS (Ar n p)).length)=Ar n fun a b=>p b a:=by
 refine Ds fun j i hj hi=>?_
 unfold bkP
 rw [List.take_length,Bool.eq_iff_iff,List.any_eq_true]
 constructor
 ·rintro ⟨x,hx,h⟩
  obtain ⟨a,b,_,_,rfl,hp⟩:=(MJ hn p x).1 hx
  have h:=of_decide_eq_true h
  simp only [Prod.mk.injEq] at h
  have e1:a=i:=by omega
  have e2:b=j:=by omega
  rw [← e1,← e2];exact hp
 ·intro h
  exact ⟨_,(MJ hn p _).2 ⟨i,j,hi,hj,rfl,h⟩,decide_eq_true rfl⟩
section
variable {V:Am} (C:Au V)
include C
set_option maxHeartbeats 4000000 in
theorem Su {n:Nat} (hn:n≤64) (p:Nat→Nat→Bool) {Q:Ex→A4→VH→Prop} (hq:∀ F,A4.tmp F 2 = .sl 0 0 0 n→Q .ret F [some ⟨Bf,1,0,false,(Ar n fun a b=>p b a).map eW⟩]) :
  Vc V Jh TW.body (Tm.ofList [lW (Ar n p)]) [] Q:=by
 obtain ⟨R,hR⟩:∃ R,R=Ar n p:=⟨_,rfl⟩
 have hall:=Ac8 hn p
 have hmem:=fun x=>MJ hn p x
 have hmay:=D5 hn p
 have hlen:=Al (n:=n) (p:=p)
 rw [← hR] at hall hmem hmay hlen ⊢
 have hpl:(CS R).length≤5000:=by
  have:=Uj R R.length
  rw [CS,if_pos hmay]
  rw [hlen] at this ⊢;omega
 have b1:n * 8≤A7:=by unfold A7;omega
 simp only [TW,Jh,go_sem,↓reduceIte,C0 C,hmay,hlen,b1,A0l C,Int.le_refl]
 refine Ae (by decide) (CS R).length (by omega) (I:=fun k F h=>A4.tmp F 3 = .sl 0 0 0 n∧A4.tmp F 13=lP (CS R)∧h=[some ⟨Bf,1,0,false,(Ar n (bkP (CS R) k)).map eW⟩]) ?_ ?_ 0 _ _ (by omega) ?_ ?_ ?_
 ·rintro k F h hk p15 p14 ⟨p3,p13,rfl⟩
  obtain ⟨a,b,ha,hb,e,_⟩:=(hmem _).1 (List.getElem_mem hk)
  have C7:(CS R)[k]? = some ((a:Int),(b:Int)):=by rw [List.getElem?_eq_getElem hk,e]
  have gW:=Bz (a:=Ar n (bkP (CS R) k)) (i:=b) (by rw [Al];exact hb)
  have hput:=NR hn (bkP (CS R) k) ha hb
  rw [A8f hk e] at hput
  have hset:∀ w,((Ar n (bkP (CS R) k)).map eW).set b [vW w]=((Ar n (bkP (CS R) k)).set b w).map eW:=fun w=>by rw [List.map_set]
  simp only [Jh,go_sem,↓reduceIte,p15,p14,p3,p13,C7,hk,hb,gW,BX C,hset,hput,Al,List.length_map,A0]
 ·rintro F h ⟨p3,p13,rfl⟩
  rw [hall]
  simp only [Jh,go_sem,↓reduceIte,p3]
  exact hq _ (by simp only [Jh,go_sem,↓reduceIte,p3])
 ·simp only [Jh,go_sem,↓reduceIte]
 ·simp only [Jh,go_sem,↓reduceIte]
 ·simp only [Jh,go_sem,↓reduceIte]
  rw [← PJ]
  rfl
theorem Sv {n:Nat} (hn:n≤64) (p:Nat→Nat→Bool) {Q:VV→Prop}:VP V ZL [lW (Ar n p)] Q↔Q (lW (Ar n fun a b=>p b a)):=by
 refine Ad ?_
 rw [Ac C.c_z14.1 C.c_z14.2]
 refine Su C hn p fun F h=>?_
 simp only [TW,Jh,go_sem,↓reduceIte,h,Al,List.length_map,List.take_of_length_le (Nat.le_of_eq (Al (n:=n) (p:=fun a b=>p b a)))]
theorem A0h {n:Nat} (hn:n≤64) (p:Nat→Nat→Bool) (b:Nat) {Q:VV→VH→Prop}:Yk V ZL [lW (Ar n p)] b Q↔Q (.sl b 0 0 n) [some ⟨Bf,1,0,false,(Ar n fun a b=>p b a).map eW⟩]:=by
 refine Jv ?_
 rw [Jw C.c_z14.2]
 refine Su C hn p fun F h=>?_
 simp only [TW,Jh,go_sem,↓reduceIte,h,Al,List.length_map,Bj]
 simp
end
def Qj (n:Nat) (p:Nat→Nat→Bool) (a b:Nat):Bool:=((DP (Ar n p)).getD a 0#64).getLsbD b || decide (a=b)
theorem Uk {n:Nat} (hn:n≤64) (p:Nat→Nat→Bool):DP (Ar n p)=Ar n fun a b=>((DP (Ar n p)).getD a 0#64).getLsbD b:=by
 have hl:=Jj hn p
 apply List.ext_getElem
 ·rw [hl,Al]
 ·intro a h1 h2
  rw [hl] at h1
  have g:=Bi (n:=n) (p:=fun a b=>((DP (Ar n p)).getD a 0#64).getLsbD b) h1
  rw [List.getElem?_eq_getElem h2,Option.some.injEq] at g
  rw [g]
  apply Bp
  intro b hb
  rw [At,List.getD_eq_getElem?_getD,List.getElem?_eq_getElem (by omega),Option.getD_some]
  by_cases c:b < n
  ·simp [c,hb]
  ·rw [decide_eq_false c,Bool.false_and,Bool.false_and]
   rw [Bool.eq_false_iff]
   intro hc
   have:=(G0 hn p (a:=a) (b:=b) h1).1 (by rw [List.getD_eq_getElem?_getD,List.getElem?_eq_getElem (by omega)];exact hc)
   exact c this.lt
section
variable {V:Am} (C:Au V)
include C
set_option maxHeartbeats 4000000 in
theorem Tj {n:Nat} (hn:n≤64) (p:Nat→Nat→Bool) (b:Nat) {Q:VV→VH→Prop}:Yk V RX [lW (Ar n p)] b Q↔Q (.sl b 0 0 n) [some ⟨Bf,1,0,false,(DP (Ar n p)).map eW⟩]:=by
 refine Jv ?_
 rw [Jw C.c_z122.2]
 have hm:=D5 hn p
 have hlen:=Al (n:=n) (p:=p)
 obtain ⟨a,ha⟩:∃ a,a=Ar n p:=⟨_,rfl⟩
 rw [← ha] at hm hlen ⊢
 have hl:=JP hm
 have h0:a.length * 8≤A7:=by unfold A7;omega
 have hle:¬ (64:Int) < n:=by omega
 subst hlen
 simp only [Rh,HQ,go_sem,↓reduceIte,C0 C,hm,h0,Int.le_refl]
 refine Ae (by decide) a.length (by omega) (I:=fun k F h=>A4.tmp F 0=lW a∧A4.tmp F 12=lW a∧A4.tmp F 3 = .sl 0 0 0 a.length∧h=[some ⟨Bf,1,0,false,(D6 a.length k (fun i=>J8 a (a.getD i 0#64)) 0#64).map eW⟩]) ?_ ?_ 0 _ _ (by omega) ?_ ?_ ?_
 ·rintro k F h hk h1 h2 ⟨h3,h4,h5,rfl⟩
  have hu:=Uz (n:=a.length) (k:=k) (f:=fun i=>J8 a (a.getD i 0#64)) (z:=0#64)
  simp only [HQ,go_sem,↓reduceIte,h1,h2,h3,h4,h5,hk,Bz hk,Me C a hm,Jq hk,hu]
 ·rintro F h ⟨h3,h4,h5,rfl⟩
  simp only [HQ,go_sem,↓reduceIte,h5,Hd,DP,hm,Bj]
  simp
 all_goals simp only [go_sem,↓reduceIte]
 all_goals first | rfl | rw [EM]
set_option maxHeartbeats 4000000 in
theorem XR {n:Nat} (hn:n≤64) (p:Nat→Nat→Bool) {Q:VV→Prop}:VP V Uf [lW (Ar n p)] Q↔Q (lW (Ar n (Qj n p))):=by
 refine Ad ?_
 rw [Ac C.c_z97.1 C.c_z97.2]
 have hpl:=Uk hn p
 obtain ⟨q,hq⟩:∃ q,q=fun a b=>((DP (Ar n p)).getD a 0#64).getLsbD b:=⟨_,rfl⟩
 rw [← hq] at hpl
 have hst:Qj n p=fun a b=>q a b || decide (a=b):=by rw [hq];rfl
 have hp1:=fun (b:Nat) (Q:VV→VH→Prop)=>Tj C hn p b (Q:=Q)
 rw [hpl] at hp1
 simp only [A9A,NF,go_sem,↓reduceIte,hp1]
 refine Ae (by decide) n (by omega) (I:=fun k F h=>A4.tmp F 3 = .sl 0 0 0 n∧h=[some ⟨Bf,1,0,false,(Ar n fun a b=>q a b || (decide (a < k) && decide (a=b))).map eW⟩]) ?_ ?_ 0 _ _ (by omega) ?_ ?_ ?_
 ·rintro k F h hk p9 p8 ⟨p3,rfl⟩
  have gW:=Bz (a:=Ar n fun a b=>q a b || (decide (a < k) && decide (a=b))) (i:=k) (by rw [Al];exact hk)
  have hput:=NR hn (fun a b=>q a b || (decide (a < k) && decide (a=b))) hk hk
  have hnx:Ar n (fun j i=>(q j i || (decide (j < k) && decide (j=i))) || (decide (j=k) && decide (i=k)))=Ar n fun a b=>q a b || (decide (a < k+1) && decide (a=b)):=by
   congr 1
   funext j i
   rw [Bool.or_assoc]
   congr 1
   rw [Bool.eq_iff_iff]
   simp only [Bool.or_eq_true,Bool.and_eq_true,decide_eq_true_eq]
   omega
  rw [hnx] at hput
  have hset:∀ w,((Ar n fun a b=>q a b || (decide (a < k) && decide (a=b))).map eW).set k [vW w]=((Ar n fun a b=>q a b || (decide (a < k) && decide (a=b))).set k w).map eW:=fun w=>by rw [List.map_set]
  simp only [NF,go_sem,↓reduceIte,p9,p8,p3,hk,gW,BX C,hset,hput,Al,List.length_map,A0]
 ·rintro F h ⟨p3,rfl⟩
  have e:Ar n (fun a b=>q a b || (decide (a < n) && decide (a=b)))=Ar n (Qj n p):=by
   rw [hst]
   exact Ds fun a b ha hb=>by rw [decide_eq_true ha,Bool.true_and]
  simp only [NF,go_sem,↓reduceIte,p3,e,Al,List.length_map,List.take_of_length_le (Nat.le_of_eq (Al (n:=n) (p:=Qj n p)))]
 ·simp only [NF,go_sem,↓reduceIte]
 ·simp only [NF,go_sem,↓reduceIte]
 ·simp only [NF,go_sem,↓reduceIte]
  rw [show Ar n q=Ar n fun a b=>q a b || (decide (a < 0) && decide (a=b)) from Ds fun a b _ _=>by simp]
theorem A0j (a:Rows) (hm:DJ a=true) (s:BitVec 64) (b:Nat) {Q:VV→VH→Prop}:Yk V ZK [lW a,vW s] b Q↔Q (.sl b 0 0 a.length) [some ⟨Bf,1,0,false,(Nv a s).map eW⟩]:=by
 refine Jv ?_
 rw [Jw C.c_z12.2]
 have hl:=JP hm
 simp only [Z5,U4,go_sem,↓reduceIte,C0 C,hm,Nv,
   Qh C (show a.length≤1000 by omega) (gf:=Ue) (a:=[.ag [lW a,vW s]]) (c:=[]) (fun _ _=>rfl) Fz.nil (fun (i:Nat)=>if Bv s (i:Int) then a.getD i 0#64 &&& s else 0#64) 0 (fun i hi=>(L6 C a s hi).2 rfl),Bj]
 simp
end
def R8 (t:A2):Rows:=Ar t.nodes.length fun a b=>AN t a b
def P6 (t:A2):Rows:=Ar t.nodes.length fun a b=>AE t a b
def PZ (t:A2) (A B:BitVec 64):Bool:=!decide (DM (R8 t) A &&& B=0#64)
abbrev eVw (t:A2) (s:A5) (D H:Rows):List VV:=[.i .i64 t.vals,lS t.locs,.ls (t.regs.map J9),.ls (t.nodes.map eN),lI s.has,lI s.jf,.ls (s.mo.map EB),vW (Cj s.has),lW (R8 t),lW (P6 t),lW D,lW H]
def YQ (t:A2) (s:A5) (w:Nat):List Int:=(s.mo.getD (t.at w).loc.toNat []).getD (Bd s (t.at w).loc w).toNat []
def A6C (t:A2) (s:A5) (w e:Nat):Bool:=(YQ t s w).any fun c=>decide (c=(e:Int)) || Bv ((P6 t).getD c.toNat 0#64) e || Bv ((P6 t).getD e 0#64) c
def Vq (t:A2) (s:A5) (r e:Nat):Bool :=
 let w:=SY s r
 if w < 0∨(t.at w.toNat).thread < 0∨(t.at w.toNat).thread=(t.at r).thread then false else Bv ((R8 t).getD w.toNat 0#64) e && !A6C t s w.toNat e
def Abt (t:A2) (s:A5) (H:Rows) (e:Nat):Bool:=(AX (H.getD e 0#64)).all fun r=>!Vq t s r.toNat e
structure QT (t:A2) (s:A5):Prop where
 jf:∀ r:Nat,(SY s r < 0)∨∃ w:Nat,SY s r=w∧w < t.nodes.length∧0≤(t.at w).loc∧(t.at w).loc < s.mo.length∧0≤Bd s (t.at w).loc w∧Bd s (t.at w).loc w < (s.mo.getD (t.at w).loc.toNat []).length∧∀ c∈YQ t s w,BI t c=true
section
variable {V:Am} (C:Au V) {Q:VV→Prop}
include C
theorem Kg (t:A2) (ht:A8 t) (s:A5) (D H:Rows) (A B:BitVec 64):VP V A5C [.fp (eVw t s D H) 0,vW A,vW B] Q↔Q (.b (PZ t A B)):=by
 refine Ad ?_
 rw [Ac C.c_z90.1 C.c_z90.2]
 have hm:DJ (R8 t)=true:=D5 ht.n64 _
 unfold PZ
 cases c:decide (DM (R8 t) A &&& B=0#64)<;>simp only [A9x,A4N,go_sem,↓reduceIte,Sw C _ hm,c]
theorem A0r (t:A2) (ht:A8 t) (s:A5) (D H:Rows) {a b:Nat} (ha:a < D.length) (hb:b < D.length):VP V A5c [.fp (eVw t s D H) 0,.i .i64 a,.i .i64 b] Q↔Q (.b (PZ t (D.getD a 0#64) (D.getD b 0#64))):=by
 refine Ad ?_
 rw [Ac C.c_z46.1 C.c_z46.2]
 simp only [A9c,A4E,go_sem,↓reduceIte,Bz ha,Bz hb,ha,hb,Kg C t ht]
theorem Tw (t:A2) (ht:A8 t) (s:A5) (D H:Rows) {a:Nat} (ha:a < D.length):VP V ZQ [.fp (eVw t s D H) 0,.i .i64 a] Q↔Q (.b (!PZ t (D.getD a 0#64) (D.getD a 0#64))):=by
 refine Ad ?_
 rw [Ac C.c_z36.1 C.c_z36.2]
 simp only [A95,A4C,go_sem,↓reduceIte,Bz ha,ha,Kg C t ht]
set_option maxHeartbeats 4000000 in
theorem Y4 (t:A2) (ht:A8 t) (s:A5) (hs:Hq s) (D H:Rows) {w e:Nat} (hw:w < t.nodes.length) (he:e < t.nodes.length) (h1:0≤(t.at w).loc) (h2:(t.at w).loc < s.mo.length) (h3:0≤Bd s (t.at w).loc w) (h4:Bd s (t.at w).loc w < (s.mo.getD (t.at w).loc.toNat []).length)
  (h5:∀ c∈YQ t s w,BI t c=true):VP V WV [.fp (eVw t s D H) 0,.i .i64 w,.i .i64 e] Q↔Q (.b (A6C t s w e)):=by
 refine Ad ?_
 rw [Ac C.c_z144.1 C.c_z144.2]
 obtain ⟨loc,hloc⟩:=Int.eq_ofNat_of_zero_le h1
 unfold A6C
 unfold YQ at h5 ⊢
 have hpc:=fun (Q:VV→Prop)=>Tx C s hs (t.at w).loc w (Q:=Q)
 rw [hloc] at h2 h3 h4 h5 hpc ⊢
 rw [Int.toNat_natCast] at h4 h5 ⊢
 obtain ⟨pl,hpl⟩:=Int.eq_ofNat_of_zero_le h3
 rw [hpl] at h4 h5 hpc ⊢
 rw [Int.toNat_natCast] at h5 ⊢
 have hll:loc < s.mo.length:=by omega
 have hpll:pl < (s.mo.getD loc []).length:=by omega
 have gL:=Cv hll
 have gI:=Hu hpll
 have hmc:=hs.mc' loc pl
 obtain ⟨c,hc⟩:∃ c,c=(s.mo.getD loc []).getD pl []:=⟨_,rfl⟩
 rw [← hc] at gI hmc h5 ⊢
 obtain ⟨L,hL⟩:∃ L,L=s.mo.getD loc []:=⟨_,rfl⟩
 rw [← hL] at gL gI hpll
 have hpn:(P6 t).length=t.nodes.length:=Al
 simp only [A1x,Ge,go_sem,↓reduceIte,hw,A6 hw,hloc,gL,gI,hll,hpll,hpc]
 have key:∀ k,k≤c.length→(∀ j,j < k→∀ hj:j < c.length,(decide (c[j]=(e:Int)) || Bv ((P6 t).getD c[j].toNat 0#64) e || Bv ((P6 t).getD e 0#64) c[j])=false)→k=c.length→(c.any fun x=>decide (x=(e:Int)) || Bv ((P6 t).getD x.toNat 0#64) e || Bv ((P6 t).getD e 0#64) x)=false:=by
  intro k hk h e1
  rw [List.any_eq_false]
  intro x hx
  obtain ⟨j,hj,rfl⟩:=List.getElem_of_mem hx
  rw [h j (by omega) hj];decide
 refine Ae (by decide) c.length (by omega) (I:=fun k F h=>A4.tmp F 0 = .fp (eVw t s D H) 0∧A4.tmp F 2 = .i .i64 e∧A4.tmp F 35=lI c∧h=[]∧∀ j,j < k→∀ hj:j < c.length,(decide (c[j]=(e:Int)) || Bv ((P6 t).getD c[j].toNat 0#64) e || Bv ((P6 t).getD e 0#64) c[j])=false) ?_ ?_ 0 _ _ (by omega) ?_ ?_ ?_
 ·rintro k F h hk p37 p36 ⟨p0,p2,p35,rfl,pr⟩
  obtain ⟨x,hx,hxn⟩:=Aa (h5 _ (List.getElem_mem hk))
  have gK:c[k]? = some (x:Int):=by rw [List.getElem?_eq_getElem hk,hx]
  have hyes:(decide ((x:Int)=(e:Int)) || Bv ((P6 t).getD x 0#64) e || Bv ((P6 t).getD e 0#64) (x:Int))=true→(c.any fun x=>decide (x=(e:Int)) || Bv ((P6 t).getD x.toNat 0#64) e || Bv ((P6 t).getD e 0#64) x)=true:=fun h=>by
   rw [List.any_eq_true]
   refine ⟨_,List.getElem_mem hk,?_⟩
   rw [hx,Int.toNat_natCast];exact h
  have g1:=Bz (a:=P6 t) (i:=x) (by omega)
  have g2:=Bz (a:=P6 t) (i:=e) (by omega)
  have hx2:x < (P6 t).length:=by omega
  have he2:e < (P6 t).length:=by omega
  cases d1:decide ((x:Int)=(e:Int)) with
  | true =>
   have hb:=hyes (by rw [d1];rfl)
   simp only [Ge,go_sem,↓reduceIte,p37,p36,p0,p2,p35,gK,hk,d1,hb,A0]
  | false =>
  cases d2:Bv ((P6 t).getD x 0#64) e with
  | true =>
   have hb:=hyes (by rw [d2];simp)
   simp only [Ge,go_sem,↓reduceIte,p37,p36,p0,p2,p35,gK,hk,d1,g1,hx2,AD C,d2,hb,A0]
  | false =>
  cases d3:Bv ((P6 t).getD e 0#64) (x:Int) with
  | true =>
   have hb:=hyes (by rw [d3];simp)
   simp only [Ge,go_sem,↓reduceIte,p37,p36,p0,p2,p35,gK,hk,d1,g1,g2,hx2,he2,AD C,d2,d3,hb,A0]
  | false =>
   simp only [Ge,go_sem,↓reduceIte,p37,p36,p0,p2,p35,gK,hk,d1,g1,g2,hx2,he2,AD C,d2,d3,A0]
   intro j hj hjl
   rcases Nat.lt_or_ge j k with q | q
   ·exact pr j q hjl
   ·obtain rfl:j=k:=by omega
    rw [hx,Int.toNat_natCast,d1,d2,d3];rfl
 ·rintro F h ⟨p0,p2,p35,rfl,pr⟩
  have hb:=key _ (Nat.le_refl _) pr rfl
  simp only [Ge,go_sem,↓reduceIte,p0,p2,p35,hb]
 ·simp only [Ge,go_sem,↓reduceIte]
 ·simp only [Ge,go_sem,↓reduceIte]
 ·simp only [Ge,go_sem,↓reduceIte]
  intro j hj;omega
set_option maxHeartbeats 4000000 in
theorem Mj (t:A2) (ht:A8 t) (s:A5) (hs:Hq s) (ok:QT t s) (D H:Rows) {r e:Nat} (hr:r < t.nodes.length) (he:e < t.nodes.length):VP V A5D [.fp (eVw t s D H) 0,.i .i64 r,.i .i64 e] Q↔Q (.b (Vq t s r e)):=by
 refine Ad ?_
 rw [Ac C.c_z94.1 C.c_z94.2]
 have hj:=fun (Q:VV→Prop)=>A3o C s hs (r:Int) (Q:=Q)
 unfold Vq
 simp only
 rcases ok.jf r with h | ⟨w,hw,hwn,h1,h2,h3,h4,h5⟩
 ·have d:decide (SY s r < 0)=true:=decide_eq_true h
  rw [if_pos (.inl h)]
  simp only [Ru,Q8,go_sem,↓reduceIte,hj,d]
 ·rw [hw,Int.toNat_natCast]
  rw [hw] at hj
  have d0:decide ((w:Int) < 0)=false:=decide_eq_false (by omega)
  cases d1:decide ((t.at w).thread < 0) with
  | true =>
   rw [if_pos (.inr (.inl (of_decide_eq_true d1)))]
   simp only [Ru,Q8,go_sem,↓reduceIte,hj,d0,hwn,A6 hwn,d1]
  | false =>
  cases d2:decide ((t.at w).thread=(t.at r).thread) with
  | true =>
   rw [if_pos (.inr (.inr (of_decide_eq_true d2)))]
   simp only [Ru,Q8,go_sem,↓reduceIte,hj,d0,hwn,A6 hwn,d1,hr,A6 hr,d2]
  | false =>
   rw [if_neg (by
    rintro (h | h | h)
    ·omega
    ·exact of_decide_eq_false d1 h
    ·exact of_decide_eq_false d2 h)]
   have hcl:w < (R8 t).length:=by rw [R8,Al];exact hwn
   have g1:=Bz (a:=R8 t) (i:=w) hcl
   have heq:=fun (Q:VV→Prop)=>Y4 C t ht s hs D H hwn he h1 h2 h3 h4 h5 (Q:=Q)
   cases d3:Bv ((R8 t).getD w 0#64) e with
   | false=>simp only [Ru,Q8,go_sem,↓reduceIte,hj,d0,hwn,A6 hwn,d1,hr,A6 hr,d2,g1,hcl,AD C,d3,Bool.false_and]
   | true=>simp only [Ru,Q8,go_sem,↓reduceIte,hj,d0,hwn,A6 hwn,d1,hr,A6 hr,d2,g1,hcl,AD C,d3,heq,Bool.true_and]
set_option maxHeartbeats 4000000 in
theorem Kf (t:A2) (ht:A8 t) (s:A5) (hs:Hq s) (ok:QT t s) (D:Rows) (p:Nat→Nat→Bool) {e:Nat} (he:e < t.nodes.length):VP V Qd [.fp (eVw t s D (Ar t.nodes.length p)) 0,.i .i64 e] Q↔Q (.b (Abt t s (Ar t.nodes.length p) e)):=by
 refine Ad ?_
 rw [Ac C.c_z40.1 C.c_z40.2]
 obtain ⟨H,hH⟩:∃ H,H=Ar t.nodes.length p:=⟨_,rfl⟩
 have hHl:H.length=t.nodes.length:=by rw [hH,Al]
 have hin:∀ r∈AX (H.getD e 0#64),∃ m:Nat,r=m∧m < t.nodes.length:=fun r hr=>by
  obtain ⟨h1,h2⟩:=DE (BQ.1 hr)
  obtain ⟨m,rfl⟩:=Int.eq_ofNat_of_zero_le h1
  have h3:=BQ.1 hr
  rw [AS,hH,List.getD_eq_getElem?_getD,Bi he,Option.getD_some,At] at h3
  simp only [Bool.and_eq_true,decide_eq_true_eq] at h3
  exact ⟨m,rfl,h3.1.1⟩
 rw [← hH]
 have heH:e < H.length:=by omega
 have g1:=Bz (a:=H) (i:=e) heH
 have h64:=DF (H.getD e 0#64)
 obtain ⟨L,hL⟩:∃ L,L=AX (H.getD e 0#64):=⟨_,rfl⟩
 unfold Abt
 rw [← hL] at hin h64 ⊢
 have hli:=fun (Q:VV→Prop)=>Dl C (H.getD e 0#64) (Q:=Q)
 rw [← hL] at hli
 simp only [A96,M7,go_sem,↓reduceIte,g1,heH,hli]
 refine Ae (by decide) L.length (by omega) (I:=fun k F h=>A4.tmp F 0 = .fp (eVw t s D H) 0∧A4.tmp F 1 = .i .i64 e∧A4.tmp F 14=lI L∧h=[]∧∀ x∈L.take k,Vq t s x.toNat e=false) ?_ ?_ 0 _ _ (by omega) ?_ ?_ ?_
 ·rintro k F h hk p16 p15 ⟨p0,p1,p14,rfl,pr⟩
  obtain ⟨m,hm,hmn⟩:=hin _ (List.getElem_mem hk)
  have gK:L[k]? = some (m:Int):=by rw [List.getElem?_eq_getElem hk,hm]
  cases d:Vq t s m e with
  | true =>
   have hb:(L.all fun r=>!Vq t s r.toNat e)=false:=by
    rw [List.all_eq_false]
    exact ⟨_,List.getElem_mem hk,by rw [hm,Int.toNat_natCast,d];decide⟩
   simp only [M7,go_sem,↓reduceIte,p16,p15,p0,p1,p14,gK,hk,Mj C t ht s hs ok D H hmn he,d,hb,A0]
  | false =>
   simp only [M7,go_sem,↓reduceIte,p16,p15,p0,p1,p14,gK,hk,Mj C t ht s hs ok D H hmn he,d,A0]
   intro x hx
   rw [List.take_succ_eq_append_getElem hk] at hx
   rcases List.mem_append.1 hx with hx | hx
   ·exact pr x hx
   ·rw [List.mem_singleton.1 hx,hm,Int.toNat_natCast];exact d
 ·rintro F h ⟨p0,p1,p14,rfl,pr⟩
  rw [List.take_length] at pr
  have hb:(L.all fun r=>!Vq t s r.toNat e)=true:=by
   rw [List.all_eq_true]
   exact fun x hx=>by rw [pr x hx];rfl
  simp only [M7,go_sem,↓reduceIte,p0,p1,p14,hb]
 ·simp only [M7,go_sem,↓reduceIte]
 ·simp only [M7,go_sem,↓reduceIte]
 ·simp only [M7,go_sem,↓reduceIte]
omit C in
theorem AaG {p:Int→Bool} {l:List Int} {k:Nat} (hk:k < l.length):Cj ((l.take (k+1)).filter p)=if p l[k]=true then Cj ((l.take k).filter p) ||| CQ l[k] else Cj ((l.take k).filter p):=by
 rw [List.take_succ_eq_append_getElem hk,List.filter_append]
 cases c:p l[k] with
 | true =>
  rw [if_pos rfl,List.filter_cons_of_pos c,List.filter_nil]
  unfold Cj
  rw [List.foldl_append];rfl
 | false=>rw [if_neg (by decide),List.filter_cons_of_neg (by rw [c];decide),List.filter_nil,List.append_nil]
set_option maxHeartbeats 4000000 in
theorem SD (t:A2) (s:A5) (hs:Hq s) (D H:Rows) {g:Nat} {a c:List VV} (ha:Fz a) (hc:Fz c) (p:Int→Bool) (hp:∀ e∈s.has,VP V g (a++[.i .i64 e]++c) fun r=>r = .b (p e)) :
  VP V A5b [.fp (eVw t s D H) 0,.f g a c] Q↔Q (vW (Cj (s.has.filter p))):=by
 refine Ad ?_
 rw [Ac C.c_z44.1 C.c_z44.2]
 have g1:=hs.has
 simp only [A9a,M8,go_sem,↓reduceIte]
 refine Ae (by decide) s.has.length (by omega) (I:=fun k F h=>A4.tmp F 1 = .f g a c∧A4.tmp F 12=lI s.has∧A4.tmp F 5=vW (Cj ((s.has.take k).filter p))∧h=[]) ?_ ?_ 0 _ _ (by omega) ?_ ?_ ?_
 ·rintro k F h hk p14 p13 ⟨p1,p12,p5,rfl⟩
  have gK:s.has[k]? = some s.has[k]:=List.getElem?_eq_getElem hk
  have hq:=fun Q=>Ad (hp _ (List.getElem_mem hk)) (Q:=Q)
  have hfz:=ha.call hc (h:=[]) (x:=[.i .i64 s.has[k]]) rfl
  simp only [List.append_assoc,List.cons_append,List.nil_append] at hq hfz
  have hst:=AaG (p:=p) hk
  cases d:p s.has[k] with
  | true =>
   rw [d,if_pos rfl] at hst
   rw [d] at hq
   simp only [M8,go_sem,↓reduceIte,p14,p13,p1,p12,p5,gK,hk,hq,hfz,hst,BX C,A0,Fz.bel ha,Fz.bel hc]
  | false =>
   rw [d,if_neg (by decide)] at hst
   rw [d] at hq
   simp only [M8,go_sem,↓reduceIte,p14,p13,p1,p12,p5,gK,hk,hq,hfz,hst,A0,Fz.bel ha,Fz.bel hc]
 ·rintro F h ⟨p1,p12,p5,rfl⟩
  simp only [M8,go_sem,↓reduceIte,p1,p12,p5,List.take_length]
 ·simp only [M8,go_sem,↓reduceIte]
 ·simp only [M8,go_sem,↓reduceIte]
 ·simp only [M8,go_sem,↓reduceIte,List.take_zero,List.filter_nil]
  rfl
end
theorem EC {α:Type} (p:α→Bool) (x:α) (l:List α):D3 p (x::l)=if p x=true then 0 else if D3 p l < 0 then -1 else D3 p l+1:=by
 unfold D3
 rw [List.findIdx?_cons]
 cases p x with
 | true=>rfl
 | false =>
  cases l.findIdx? p with
  | none=>rfl
  | some i=>simp;omega
theorem A43 {α:Type} (p:α→Bool) (l:List α) : -1≤D3 p l:=by
 unfold D3
 cases l.findIdx? p with
 | none=>simp
 | some i=>show (-1:Int)≤(i:Int);omega
theorem Nn {α:Type} {p:α→Bool} {y:α} (hy:p y=false):∀ (l:List α) (k:Nat),k≤l.length→D3 p (l.take k++y::l.drop k)=if D3 p l < k then D3 p l else D3 p l+1
 | l,0,_=>by
  have:=A43 p l
  rw [List.take_zero,List.nil_append,List.drop_zero,EC,hy]
  simp only [Bool.false_eq_true,if_false]
  split<;>split<;>omega
 | [],k+1,h=>by simp at h
 | x::l,k+1,h=>by
  have ih:=Nn hy l k (by simpa using h)
  have:=A43 p l
  rw [List.take_succ_cons,List.drop_succ_cons,List.cons_append,EC,EC,ih]
  split
  ·rw [if_pos (by omega)]
  ·split<;>split<;>split<;>omega
theorem Z4 {α:Type} {p:α→Bool} {y d:α}:∀ (l:List α) (k:Nat),p y=p (l.getD k d)→D3 p (l.set k y)=D3 p l
 | [],k,_=>rfl
 | x::l,0,h=>by
  rw [List.set_cons_zero,EC,EC,h];rfl
 | x::l,k+1,h=>by
  rw [List.set_cons_succ,EC,EC,Z4 l k (by simpa using h)]
theorem GT {α:Type} {y d:α}:∀ (l:List α) (k i:Nat),k≤l.length→(l.take k++y::l.drop k).getD (if i < k then i else i+1) d=l.getD i d
 | l,0,i,_=>by simp
 | [],k+1,i,h=>by simp at h
 | x::l,k+1,0,h=>by simp
 | x::l,k+1,i+1,h=>by
  have ih:=GT (y:=y) (d:=d) l k i (by simpa using h)
  rw [List.take_succ_cons,List.drop_succ_cons,List.cons_append]
  by_cases c:i < k
  ·rw [if_pos (by omega)];rw [if_pos c] at ih;simpa using ih
  ·rw [if_neg (by omega)];rw [if_neg c] at ih;simpa using ih
theorem BD {l:List Int} {k:Nat} {x y:Int}:x∈B3 l k y↔x=y∨x∈l:=by
 unfold B3
 have e:x∈l↔x∈l.take k∨x∈l.drop k:=by rw [← List.mem_append,List.take_append_drop]
 rw [e,List.mem_append,List.mem_cons]
 constructor
 ·rintro (h | h | h)
  ·exact .inr (.inl h)
  ·exact .inl h
  ·exact .inr (.inr h)
 ·rintro (h | h | h)
  ·exact .inr (.inl h)
  ·exact .inl h
  ·exact .inr (.inr h)
theorem A4l {l:List Int} {k:Nat} {x y:Int} (h:x≠y):B2 (B3 l k y) x=B2 l x:=by
 cases c:B2 l x with
 | true=>exact A9.2 (BD.2 (.inr (A9.1 c)))
 | false =>
  rw [Bool.eq_false_iff] at c ⊢
  intro h2
  rcases BD.1 (A9.1 h2) with e | e
  ·exact h e
  ·exact c (A9.2 e)
theorem Ahl {x f:List Int} {k:Nat} {n y w:Int} (hk:k≤x.length) (hf:k≤f.length) (h:n∈x) (hn:n≠y):Ho (B3 x k y) (B3 f k w) n=Ho x f n:=by
 unfold Ho
 rw [A4l hn,if_pos (A9.2 h),if_pos (A9.2 h)]
 obtain ⟨i,e,hi,h1,h2⟩:=Hh (A9.2 h)
 have e2:K3 (B3 x k y) n=if K3 x n < k then K3 x n else K3 x n+1:=Nn (p:=fun z=>decide (n=z)) (decide_eq_false hn) x k hk
 rw [e2,e,Int.toNat_natCast]
 have:=GT (y:=w) (d:=0) f k i hf
 unfold B3
 rw [← this]
 congr 1
 by_cases c:i < k
 ·rw [if_pos c,if_pos (by omega)];omega
 ·rw [if_neg c,if_neg (by omega)];omega
structure Ext (t:A2) (s s':A5):Prop where
 has:∀ n,n∈s.has→n∈s'.has
 on:∀ n,n∈s.has→Ho s'.has s'.jf n=Ho s.has s.jf n
 place:∀ (loc v w:Int),v∈s.has→w∈s.has→(Bd s loc v < Bd s loc w↔Bd s' loc v < Bd s' loc w)
theorem EZ {t:A2} {s s':A5} {n kind w:Int} (e:CL t s n kind w=some s'):Ext t s s'∧BH t s=true∧n∉s.has:=by
 unfold CL at e
 split at e
 ·rename_i hok
  cases e
  have hk:=CY s.has n
  simp only [C4,Bool.and_eq_true,Bool.not_eq_true'] at hok
  have hf:=hok.1.1.1.1
  have hjl:s.jf.length=s.has.length:=by simp only [BH,Bool.and_eq_true,decide_eq_true_eq] at hf;exact hf.1.1.1.1.2
  have hn:n∉s.has:=fun h=>by rw [A9.2 h] at hok;exact absurd hok.1.2 (by simp)
  exact ⟨⟨fun x hx=>BD.2 (.inr hx),fun x hx=>Ahl hk (by omega) hx (fun c=>hn (c ▸ hx)),fun _ _ _ _ _=>Iff.rfl⟩,hf,hn⟩
 ·cases e
theorem Ext.trans {t:A2} {a b c:A5} (h:Ext t a b) (k:Ext t b c):Ext t a c :=
 ⟨fun n hn=>k.has n (h.has n hn),fun n hn=>(k.on n (h.has n hn)).trans (h.on n hn),fun loc v w hv hw=>(h.place loc v w hv hw).trans (k.place loc v w (h.has v hv) (h.has w hw))⟩
theorem Uv {s:A5} {r:Nat} {L:List (List Int)} {g:Int→Int} (hg:∀ a b,a < b↔g a < g b) {ok:Int→Prop} (h:∀ v,ok v→D3 (fun c=>B2 c v) L=g (D3 (fun c=>B2 c v) (s.mo.getD r []))) (loc v w:Int) (hv:ok v) (hw:ok w) :
  Bd s loc v < Bd s loc w↔Bd { s with mo:=s.mo.set r L } loc v < Bd { s with mo:=s.mo.set r L } loc w:=by
 unfold Bd
 rw [List.length_set]
 by_cases c:loc < 0∨(s.mo.length:Int)≤loc
 ·simp only [if_pos c]
 ·simp only [if_neg c]
  by_cases c2:loc.toNat=r
  ·have e:(s.mo.set r L).getD loc.toNat []=L:=by rw [List.getD_eq_getElem?_getD,List.getElem?_set,if_pos c2.symm,if_pos (by omega)];rfl
   rw [e,h v hv,h w hw,c2]
   exact hg _ _
  ·have e:(s.mo.set r L).getD loc.toNat []=s.mo.getD loc.toNat []:=by rw [List.getD_eq_getElem?_getD,List.getElem?_set,if_neg (Ne.symm c2),← List.getD_eq_getElem?_getD]
   rw [e]
theorem UI {t:A2} {s s':A5} {n w:Int} (e:DZ t s n w=some s'):Ext t s s'∧BH t s=true:=by
 unfold DZ at e
 split at e
 ·rename_i x hx
  obtain ⟨h1,h2,h3⟩:=EZ hx
  split at e
  ·cases e
  ·rename_i hw
   cases e
   refine ⟨⟨h1.has,h1.on,fun loc v u hv hu=>(h1.place loc v u hv hu).trans ?_⟩,h2⟩
   refine Uv (ok:=fun v=>v∈s.has) (g:=fun i=>if i < (w.toNat:Int) then i else i+1) (fun a b=>by split<;>split<;>omega) (fun v hv=>?_) loc v u hv hu
   exact Nn (p:=fun c=>B2 c v) (by
    rw [Bool.eq_false_iff]
    intro h
    exact h3 (by rw [List.mem_singleton.1 (A9.1 h)] at hv;exact hv)) _ _ (by omega)
 ·cases e
theorem A9N {t:A2} {s s':A5} {n w:Int} (e:M4 t s n w=some s'):Ext t s s'∧BH t s=true:=by
 unfold M4 at e
 split at e
 ·rename_i x hx
  obtain ⟨h1,h2,h3⟩:=EZ hx
  simp only at e
  split at e
  ·cases e
  ·split at e
   ·cases e
    refine ⟨⟨h1.has,h1.on,fun loc v u hv hu=>(h1.place loc v u hv hu).trans ?_⟩,h2⟩
    refine Uv (ok:=fun v=>v∈s.has) (g:=fun i=>i) (fun a b=>Iff.rfl) (fun v hv=>?_) loc v u hv hu
    exact Z4 (d:=[]) _ _ (A4l fun c=>h3 (c ▸ hv))
   ·cases e
 ·cases e
theorem AaX {t:A2} {s s':A5} {n w:Int} (e:HF t s n w=some s'):Ext t s s'∧BH t s=true:=by
 unfold HF at e
 split at e
 ·rename_i x hx
  obtain ⟨h1,h2,_⟩:=EZ hx
  split at e
  ·cases e;exact ⟨h1,h2⟩
  ·cases e
 ·cases e
theorem N7.mono {p q:Nat→Nat→Bool} {N a b:Nat} (i:∀ a b,p a b=true→q a b=true) (h:N7 p N a b):N7 q N a b:=by
 induction h with
 | one hb h=>exact .one hb (i _ _ h)
 | more _ hc h ih=>exact .more ih hc (i _ _ h)
section
variable {t:A2} (ht:A8 t) {s s':A5} (E:Ext t s s') (hF:DS t s.has s.jf) (hF':DS t s'.has s'.jf) (up:∀ n,n∈s.has→(t.at n.toNat).up < 0∨(t.at n.toNat).up∈s.has)
include ht E hF hF' up
theorem A8G {w:Int} (hw:w∈s.has):ahF t s'.has s'.jf w=ahF t s.has s.jf w:=by
 unfold ahF
 rcases up w hw with h | h
 ·have a:B2 s.has (t.at w.toNat).up=false:=Bool.eq_false_iff.2 fun c=>by
   obtain ⟨m,e,_⟩:=Aa (hF.node _ (A9.1 c));omega
  have b:B2 s'.has (t.at w.toNat).up=false:=Bool.eq_false_iff.2 fun c=>by
   obtain ⟨m,e,_⟩:=Aa (hF'.node _ (A9.1 c));omega
  rw [a,b];simp
 ·rw [A9.2 h,A9.2 (E.has _ h),E.on _ h]
theorem Acs {w:Int} {j:Nat} (h:(L3 t s.has w).getLsbD j=true):(L3 t s'.has w).getLsbD j=true:=by
 rw [L3,At,Bool.and_eq_true] at h ⊢
 refine ⟨?_,h.2⟩
 have h:=h.1
 simp only [A77,Bool.or_eq_true,Bool.and_eq_true,A9] at h ⊢
 rcases h with h | h
 ·exact .inl h
 ·exact .inr ⟨⟨⟨E.has _ h.1.1.1,h.1.1.2⟩,h.1.2⟩,h.2⟩
theorem Z0 {j:Nat}:∀ (k k':Nat) (w:Int),k≤k'→(w∈s.has∨w = -1)→(Ns t s.has s.jf k w).getLsbD j=true→(Ns t s'.has s'.jf k' w).getLsbD j=true
 | 0,_,w,_,_,h=>by simp [Ns] at h
 | k+1,0,w,hk,_,_=>by omega
 | k+1,k' + 1,w,hk,hw,h=>by
  rw [Ns] at h ⊢
  by_cases c:MT t w=true
  ·rw [if_pos c] at h;simp at h
  ·rw [if_neg c] at h ⊢
   rcases hw with hw | rfl
   ·rw [BitVec.getLsbD_or,Bool.or_eq_true] at h ⊢
    rw [A8G ht E hF hF' up hw]
    rcases h with h | h
    ·exact .inl (Acs ht E hF hF' up h)
    ·refine .inr (Z0 k k' _ (by omega) ?_ h)
     rcases UU ht hF hw with e | e
     ·exact .inr e
     ·exact .inl e.1
   ·exact absurd rfl c
theorem Acr {r:Int} {b:Nat} (h:Ja t s.has r b=true):Ja t s'.has r b=true:=by
 simp only [Ja,Bool.or_eq_true,Bool.and_eq_true,A9] at h ⊢
 rcases h with h | h
 ·exact .inl h
 ·exact .inr ⟨⟨⟨E.has _ h.1.1.1,h.1.1.2⟩,h.1.2⟩,h.2⟩
theorem AfL (hl:s.has.length≤s'.has.length) (a b:Nat) (h:U1 t s.has s.jf a b=true):U1 t s'.has s'.jf a b=true:=by
 simp only [U1,Bool.or_eq_true,Bool.and_eq_true,A9] at h ⊢
 rcases h with h | h
 ·exact .inl ⟨⟨E.has _ h.1.1,E.has _ h.1.2⟩,h.2⟩
 ·refine .inr ?_
  simp only [swB,List.any_eq_true,Bool.and_eq_true] at h ⊢
  obtain ⟨r,hr,⟨hs,hh⟩,he⟩:=h
  have hk:(t.at r.toNat).kind=2:=by simp only [MW,Bool.and_eq_true,decide_eq_true_eq] at hs;exact hs.1
  have ho:=(hF.read r hr hk).1
  refine ⟨r,E.has r hr,⟨?_,?_⟩,Acr ht E hF hF' up he⟩
  ·unfold MW at hs ⊢;rw [E.on r hr];exact hs
  ·rw [E.on r hr]
   rw [AS] at hh ⊢
   exact Z0 ht E hF hF' up _ _ _ (by omega) (.inl ho) hh
end
theorem AdR {l l':List Int} (h:∀ x,x∈l→x∈l'):Cj l ||| Cj l' = Cj l':=by
 apply Bp
 intro j hj
 have e:∀ l:List Int,(Cj l).getLsbD j=B2 l (j:Int):=fun l=>by rw [← AS,LG l (by omega) (by omega)]
 rw [BitVec.getLsbD_or,e,e]
 cases c:B2 l (j:Int) with
 | false=>rw [Bool.false_or]
 | true=>rw [A9.2 (h _ (A9.1 c))];rfl
def okJ (t:A2) (has:List Int) (n w:Int):Bool :=
 if (t.at n.toNat).kind=2 then B2 has w && HM t w (t.at n.toNat).loc && decide ((t.at w.toNat).val=(t.at n.toNat).val) else decide (w = -1)
structure AZ (t:A2) (s:A5):Prop where
 node:∀ n∈s.has,BI t n=true
 up:∀ n∈s.has,(t.at n.toNat).up < 0∨(t.at n.toNat).up∈s.has
 ris:s.has.Pairwise (· < ·)
 init:Gc t ||| Cj s.has=Cj s.has
 jl:s.jf.length=s.has.length
 just:∀ i,i < s.has.length→okJ t s.has (s.has.getD i 0) (s.jf.getD i 0)=true
 ml:s.mo.length=t.locs.length
 mo:∀ loc,loc < s.mo.length→DH t s loc=true
 once:∀ n∈s.has,(t.at n.toNat).kind=3→((s.mo.getD (t.at n.toNat).loc.toNat []).filter fun c=>B2 c n).length=1
theorem A5W {l:List Int}:(∀ i,i < l.length→D1 l i=true)↔l.Pairwise (· < ·):=by
 constructor
 ·intro h
  rw [List.pairwise_iff_getElem]
  have key:∀ d i,i+d+1 < l.length→l.getD i 0 < l.getD (i+d+1) 0:=by
   intro d
   induction d with
   | zero =>
    intro i hi
    have:=h (i+1) (by omega)
    simpa [D1] using this
   | succ d ih =>
    intro i hi
    have h1:=ih i (by omega)
    have:=h (i+d+1+1) (by omega)
    simp only [D1,Nat.add_one_sub_one,Bool.or_eq_true,decide_eq_true_eq] at this
    rcases this with h2 | h2
    ·omega
    ·exact Int.lt_trans h1 h2
  intro i j hi hj hij
  have:=key (j - i - 1) i (by omega)
  rw [show i+(j - i - 1)+1=j by omega] at this
  simpa [List.getD_eq_getElem?_getD,hi,hj] using this
 ·intro h i hi
  rw [List.pairwise_iff_getElem] at h
  simp only [D1,Bool.or_eq_true,decide_eq_true_eq]
  rcases Nat.eq_zero_or_pos i with c | c
  ·exact .inl c
  ·refine .inr ?_
   have:=h (i - 1) i (by omega) hi (by omega)
   simpa [List.getD_eq_getElem?_getD,hi,show i - 1 < l.length by omega] using this
theorem By {t:A2} {s:A5}:BH t s=true↔AZ t s:=by
 have e:∀ i,GU t s i=okJ t s.has (s.has.getD i 0) (s.jf.getD i 0):=fun _=>rfl
 have mem:∀ {p:Int→Prop},(∀ i,i < s.has.length→p (s.has.getD i 0))↔∀ n∈s.has,p n:=by
  intro p
  constructor
  ·intro h n hn
   obtain ⟨i,hi,rfl⟩:=List.getElem_of_mem hn
   have:=h i hi
   rwa [List.getD_eq_getElem?_getD,List.getElem?_eq_getElem hi] at this
  ·intro h i hi
   exact h _ (Ap hi)
 constructor
 ·intro h
  simp only [BH,Cc,C9,L0,e,Bool.and_eq_true,Bool.or_eq_true,Bool.not_eq_true',decide_eq_true_eq,decide_eq_false_iff_not,Ah,A9] at h
  obtain ⟨⟨⟨⟨⟨⟨h1,h2⟩,h3⟩,h4⟩,h5⟩,h6⟩,h7⟩:=h
  exact ⟨mem.1 fun i hi=>(h1 i hi).1.1,mem.1 fun i hi=>(h1 i hi).2,A5W.1 fun i hi=>(h1 i hi).1.2,h2,h3,h5,h4,h6,mem.1 fun i hi k=>by
   rcases h7 i hi with h | h
   ·exact absurd k h
   ·exact h⟩
 ·intro h
  simp only [BH,Cc,C9,L0,e,Bool.and_eq_true,Bool.or_eq_true,Bool.not_eq_true',decide_eq_true_eq,decide_eq_false_iff_not,Ah,A9]
  refine ⟨⟨⟨⟨⟨⟨fun i hi=>⟨⟨mem.2 h.node i hi,A5W.2 h.ris i hi⟩,mem.2 h.up i hi⟩,h.init⟩,h.jl⟩,h.ml⟩,h.just⟩,h.mo⟩,fun i hi=>?_⟩
  by_cases k:(t.at (s.has.getD i 0).toNat).kind=3
  ·exact .inr (h.once _ (Ap hi) k)
  ·exact .inl k
theorem AcH {l:List Int} {n:Int} (h:l.Pairwise (· < ·)) (hn:n∉l):(B3 l (Ba l n) n).Pairwise (· < ·):=by
 induction l with
 | nil=>simp [B3,Ba]
 | cons x l ih =>
  rw [List.pairwise_cons] at h
  have hx:x≠n:=fun c=>hn (by simp [c])
  have hl:n∉l:=fun c=>hn (by simp [c])
  by_cases c:x < n
  ·have e:B3 (x::l) (Ba (x::l) n) n=x::B3 l (Ba l n) n:=by
    simp [B3,Ba,c]
   rw [e,List.pairwise_cons]
   refine ⟨fun y hy=>?_,ih h.2 hl⟩
   rcases BD.1 hy with rfl | hy
   ·exact c
   ·exact h.1 y hy
  ·have e:B3 (x::l) (Ba (x::l) n) n=n::x::l:=by
    simp [B3,Ba,c]
   rw [e,List.pairwise_cons,List.pairwise_cons]
   refine ⟨fun y hy=>?_,h⟩
   rcases List.mem_cons.1 hy with rfl | hy
   ·omega
   ·have:=h.1 y hy;omega
theorem QC {l:List Int} {k:Nat} {y:Int} (h:k≤l.length):(B3 l k y).getD k 0=y:=by
 unfold B3
 rw [List.getD_eq_getElem?_getD,List.getElem?_append_right (by rw [List.length_take];omega),List.length_take,Nat.min_eq_left h]
 simp
theorem AcG {p:Int→Int→Prop} {l f:List Int} {k:Nat} {n w:Int} (hk:k≤l.length) (hf:f.length=l.length) (h:∀ i,i < l.length→p (l.getD i 0) (f.getD i 0)) (hn:p n w) (i:Nat) (hi:i < (B3 l k n).length):p ((B3 l k n).getD i 0) ((B3 f k w).getD i 0):=by
 rw [CA hk] at hi
 rcases Nat.lt_trichotomy i k with c | c | c
 ·have e1:=GT (y:=n) (d:=0) l k i hk
  have e2:=GT (y:=w) (d:=0) f k i (by omega)
  rw [if_pos c] at e1 e2
  unfold B3
  rw [e1,e2]
  exact h i (by omega)
 ·subst c
  rw [QC hk,QC (by omega)]
  exact hn
 ·have e1:=GT (y:=n) (d:=0) l k (i - 1) hk
  have e2:=GT (y:=w) (d:=0) f k (i - 1) (by omega)
  rw [if_neg (by omega),show i - 1+1=i by omega] at e1 e2
  unfold B3
  rw [e1,e2]
  exact h (i - 1) (by omega)
theorem A04 {t:A2} {a b:List Int} (h:∀ x,x∈a→x∈b) {n w:Int} (k:okJ t a n w=true):okJ t b n w=true:=by
 unfold okJ at k ⊢
 split at k
 ·rename_i c
  rw [if_pos c]
  simp only [Bool.and_eq_true,A9] at k ⊢
  exact ⟨⟨h _ k.1.1,k.1.2⟩,k.2⟩
 ·rename_i c
  rw [if_neg c];exact k
theorem E0 {t:A2} {a b:List Int} (h:∀ x,x∈a→x∈b) {l:List Int} {loc:Int} (k:Cb t l a loc=true):Cb t l b loc=true:=by
 simp only [Cb,Bool.and_eq_true,Ah,Bg,A9] at k ⊢
 refine ⟨k.1,fun i hi=>?_⟩
 obtain ⟨⟨⟨⟨h1,h2⟩,h3⟩,h4⟩,h5⟩:=k.2 i hi
 exact ⟨⟨⟨⟨h _ h1,h2⟩,h3⟩,h4⟩,h5⟩
theorem Ph {t:A2} {s:A5} (h:AZ t s) {n w:Int} (hn:BI t n=true) (hno:n∉s.has) (hup:(t.at n.toNat).up∈s.has) (hw:okJ t s.has n w=true) {M:List (List (List Int))} (ml:M.length=s.mo.length)
  (mo:∀ loc,loc < s.mo.length→DH t { AQ s n w with mo:=M } loc=true)
  (o1:∀ x∈s.has,(t.at x.toNat).kind=3→((M.getD (t.at x.toNat).loc.toNat []).filter fun c=>B2 c x).length=((s.mo.getD (t.at x.toNat).loc.toNat []).filter fun c=>B2 c x).length)
  (o2:(t.at n.toNat).kind=3→((M.getD (t.at n.toNat).loc.toNat []).filter fun c=>B2 c n).length=1):AZ t { AQ s n w with mo:=M }:=by
 have hk:=CY s.has n
 have sub:∀ x,x∈s.has→x∈B3 s.has (Ba s.has n) n:=fun x hx=>BD.2 (.inr hx)
 refine ⟨?_,?_,AcH h.ris hno,?_,?_,?_,by rw [← h.ml];exact ml,fun loc hl=>mo loc (by rw [← ml];exact hl),?_⟩
 ·intro x hx
  rcases BD.1 hx with rfl | hx
  ·exact hn
  ·exact h.node x hx
 ·intro x hx
  rcases BD.1 hx with rfl | hx
  ·exact .inr (sub _ hup)
  ·rcases h.up x hx with c | c
   ·exact .inl c
   ·exact .inr (sub _ c)
 ·have e:Cj s.has ||| Cj (B3 s.has (Ba s.has n) n)=Cj (B3 s.has (Ba s.has n) n):=AdR sub
  show Gc t ||| Cj (B3 s.has (Ba s.has n) n)=Cj (B3 s.has (Ba s.has n) n)
  rw [← e,← BitVec.or_assoc,h.init]
 ·show (B3 s.jf (Ba s.has n) w).length=(B3 s.has (Ba s.has n) n).length
  rw [CA hk,CA (by rw [h.jl];exact hk),h.jl]
 ·exact AcG (p:=fun a b=>okJ t (B3 s.has (Ba s.has n) n) a b=true) hk h.jl (fun i hi=>A04 sub (h.just i hi)) (A04 sub hw)
 ·intro x hx kx
  rcases BD.1 hx with rfl | hx
  ·exact o2 kx
  ·show ((M.getD (t.at x.toNat).loc.toNat []).filter fun c=>B2 c x).length=1
   rw [o1 x hx kx];exact h.once x hx kx
theorem Pi {t:A2} {s:A5} (h:AZ t s) {n w:Int} (hn:BI t n=true) (hno:n∉s.has) (hup:(t.at n.toNat).up∈s.has) (hw:okJ t s.has n w=true) (hk:(t.at n.toNat).kind≠3):AZ t (AQ s n w):=by
 have sub:∀ x,x∈s.has→x∈B3 s.has (Ba s.has n) n:=fun x hx=>BD.2 (.inr hx)
 refine Ph (M:=s.mo) h hn hno hup hw rfl ?_ (fun _ _ _=>rfl) (fun c=>absurd c hk)
 intro loc hl
 have:=h.mo loc hl
 simp only [DH,Bool.and_eq_true,Ah,Bool.or_eq_true] at this ⊢
 refine ⟨this.1,fun i hi=>?_⟩
 rcases this.2 i hi with c | c
 ·exact .inl c
 ·exact .inr (E0 sub c)
theorem A2l {t:A2} {s:A5} (h:AZ t s) {n:Int} (hn:BI t n=true) (hno:n∉s.has) (hup:(t.at n.toNat).up∈s.has) (hk:(t.at n.toNat).kind=3) (ht:0≤(t.at n.toNat).thread) {loc:Nat} (hl:(t.at n.toNat).loc=loc) (hll:loc < s.mo.length)
  (hin:∀ c∈s.mo.getD loc [],∀ x∈c,x∈s.has):AZ t { AQ s n (-1) with mo:=s.mo.set loc (s.mo.getD loc []++[[n]]) }:=by
 have sub:∀ x,x∈s.has→x∈B3 s.has (Ba s.has n) n:=fun x hx=>BD.2 (.inr hx)
 have hself:(s.mo.set loc (s.mo.getD loc []++[[n]])).getD loc []=s.mo.getD loc []++[[n]]:=by rw [List.getD_eq_getElem?_getD (l:=s.mo.set _ _),List.getElem?_set,if_pos rfl,if_pos hll];rfl
 have hoth:∀ k,k≠loc→(s.mo.set loc (s.mo.getD loc []++[[n]])).getD k []=s.mo.getD k []:=fun k hk=>by rw [List.getD_eq_getElem?_getD (l:=s.mo.set _ _),List.getElem?_set,if_neg (Ne.symm hk),← List.getD_eq_getElem?_getD]
 have hcls:Cb t [n] (B3 s.has (Ba s.has n) n) loc=true:=by
  simp only [Cb,Bool.and_eq_true,Ah,Bg,A9,List.length_singleton]
  refine ⟨rfl,fun i hi=>?_⟩
  obtain rfl:i=0:=by omega
  refine ⟨⟨⟨⟨BD.2 (.inl rfl),rfl⟩,?_⟩,decide_eq_true ht⟩,fun k hk=>by omega⟩
  simp [HM,hk,hl]
 refine Ph h hn hno hup (by simp [okJ,hk]) (by rw [List.length_set]) ?_ ?_ ?_
 ·intro k hkl
  by_cases c:k=loc
  ·subst c
   have hm:=h.mo k hkl
   simp only [DH,hself,Bool.and_eq_true,Ah,Bool.or_eq_true,Bool.not_eq_true',decide_eq_true_eq,decide_eq_false_iff_not] at hm ⊢
   obtain ⟨⟨m1,m2⟩,m3⟩:=hm
   have hpos:0 < (s.mo.getD k []).length:=by omega
   refine ⟨⟨by simp,?_⟩,fun i hi=>?_⟩
   ·rw [List.getD_eq_getElem?_getD,List.getElem?_append_left hpos,← List.getD_eq_getElem?_getD];exact m2
   ·by_cases ci:i < (s.mo.getD k []).length
    ·have e:(s.mo.getD k []++[[n]]).getD i []=(s.mo.getD k []).getD i []:=by rw [List.getD_eq_getElem?_getD,List.getElem?_append_left ci,← List.getD_eq_getElem?_getD]
     rw [e]
     rcases m3 i ci with c | c
     ·exact .inl c
     ·exact .inr (E0 sub c)
    ·rw [List.length_append,List.length_singleton] at hi
     have ei:i=(s.mo.getD k []).length:=by omega
     have e:(s.mo.getD k []++[[n]]).getD i []=[n]:=by rw [List.getD_eq_getElem?_getD,List.getElem?_append_right (by omega),ei,Nat.sub_self];rfl
     rw [e]
     exact .inr hcls
  ·have hm:=h.mo k hkl
   simp only [DH,hoth k c,Bool.and_eq_true,Ah,Bool.or_eq_true] at hm ⊢
   refine ⟨hm.1,fun i hi=>?_⟩
   rcases hm.2 i hi with d | d
   ·exact .inl d
   ·exact .inr (E0 sub d)
 ·intro x hx kx
  by_cases c:(t.at x.toNat).loc.toNat=loc
  ·rw [c,hself,List.filter_append]
   have:B2 [n] x=false:=Bool.eq_false_iff.2 fun d=>hno (by rw [← List.mem_singleton.1 (A9.1 d)];exact hx)
   simp [this]
  ·rw [hoth _ c]
 ·intro _
  rw [hl,Int.toNat_natCast,hself,List.filter_append]
  have e:(s.mo.getD loc []).filter (fun c=>B2 c n)=[]:=by
   rw [List.filter_eq_nil_iff]
   intro c hc d
   exact hno (hin c hc n (A9.1 d))
  rw [e]
  simp [B2]
def Cl (t:A2) (s:A5) (k a b:Nat):Bool:=(Bv (Cj s.has) a && Bv (Cj s.has) b && AE t a b) || (List.range k).any fun i=>decide (s.jf.getD i 0=(a:Int)) && decide (s.has.getD i 0=(b:Int))
theorem A3r (t:A2) (s:A5) (k:Nat) {w n:Nat} (hw:s.jf.getD k 0=w) (hn:s.has.getD k 0=n):(fun a b=>Cl t s k a b || (decide (a=w) && decide (b=n)))=Cl t s (k+1):=by
 funext a b
 unfold Cl
 rw [List.range_succ,List.any_append,Bool.or_assoc]
 congr 2
 simp only [List.any_cons,List.any_nil,Bool.or_false,hw,hn]
 rw [Bool.eq_iff_iff]
 simp only [Bool.and_eq_true,decide_eq_true_eq]
 omega
theorem Abd (t:A2) (s:A5) (k:Nat) (hw:s.jf.getD k 0 < 0):Cl t s (k+1)=Cl t s k:=by
 funext a b
 unfold Cl
 rw [List.range_succ,List.any_append]
 congr 1
 have:decide (s.jf.getD k 0=(a:Int))=false:=decide_eq_false (by omega)
 simp only [List.any_cons,List.any_nil,this,Bool.false_and,Bool.or_false]
def vwB (t:A2) (s:A5) (d h:VV):Option VO:=some ⟨PR,0,0,false,[[.i .i64 t.vals,lS t.locs,.ls (t.regs.map J9),.ls (t.nodes.map eN),lI s.has,lI s.jf,.ls (s.mo.map EB),vW (Cj s.has),lW (R8 t),lW (P6 t),d,h]]⟩
section
variable {V:Am} (C:Au V)
include C
set_option maxHeartbeats 4000000 in
theorem A0s (t:A2) (ht:A8 t) (s:A5) (hs:Hq s) (hf:AZ t s) (x0 x1 x3:Option VO) (d h:VV) {Q:VV→VH→Prop} :
  Hj V A5F [.p 2 0 0 0] [x0,x1,vwB t s d h,x3] Q↔Q (lW (Ar t.nodes.length (Cl t s s.has.length))) [x0,x1,vwB t s d h,x3]:=by
 refine G8 ?_
 rw [CN C.h_z98]
 have h64:=ht.n64
 have g1:=hs.has
 have hpm:DJ (P6 t)=true:=D5 h64 _
 have hkp:Nv (P6 t) (Cj s.has)=Ar t.nodes.length (Cl t s 0):=by
  rw [P6,My h64]
  refine Ds fun a b _ _=>?_
  simp [Cl]
 have hk1:=fun (b:Nat) (Q:VV→VH→Prop)=>A0j C (P6 t) hpm (Cj s.has) b (Q:=Q)
 rw [hkp,show (P6 t).length=t.nodes.length from Al] at hk1
 simp only [A9B,HO,go_sem,↓reduceIte,vwB,hk1]
 obtain ⟨n,hn⟩:∃ n,n=t.nodes.length:=⟨_,rfl⟩
 rw [← hn] at h64 ⊢
 refine Ae (by decide) s.has.length (by omega) (I:=fun k F h'=>A4.tmp F 0 = .p 2 0 0 0∧A4.tmp F 3 = .sl 4 0 0 n∧A4.tmp F 20=lI s.has∧h' = [x0,x1,vwB t s d h,x3,some ⟨Bf,1,0,false,(Ar n (Cl t s k)).map eW⟩]) ?_ ?_ 0 _ _ (by omega) ?_ ?_ ?_
 ·rintro k F h' hk p22 p21 ⟨p0,p3,p20,rfl⟩
  have gH:=Az hk
  have hkj:k < s.jf.length:=by rw [hf.jl];exact hk
  have gJ:=Az hkj
  obtain ⟨m,hm,hmn⟩:=Aa (hf.node _ (Ap (d:=0) hk))
  rw [← hn] at hmn
  have hj:=hf.just k hk
  rw [hm] at gH hj
  by_cases c:(t.at m).kind=2
  ·simp only [okJ,Int.toNat_natCast,c,if_true,Bool.and_eq_true,A9] at hj
   obtain ⟨w,hw,hwn⟩:=Aa (hf.node _ hj.1.1)
   rw [← hn] at hwn
   rw [hw] at gJ
   have d0:decide ((0:Int)≤(w:Int))=true:=decide_eq_true (by omega)
   have gW:=Bz (a:=Ar n (Cl t s k)) (i:=w) (by rw [Al];exact hwn)
   have hput:=NR h64 (Cl t s k) hmn hwn
   rw [A3r t s k hw hm] at hput
   have hset:∀ x,((Ar n (Cl t s k)).map eW).set w [vW x]=((Ar n (Cl t s k)).set w x).map eW:=fun x=>by rw [List.map_set]
   simp only [HO,go_sem,↓reduceIte,p22,p21,p0,p3,p20,gH,gJ,hk,hkj,d0,gW,hwn,BX C,hset,hput,Al,List.length_map,vwB,A0]
  ·simp only [okJ,Int.toNat_natCast,c,if_false,decide_eq_true_eq] at hj
   rw [hj] at gJ
   rw [Abd t s k (by rw [hj];decide)]
   simp only [HO,go_sem,↓reduceIte,p22,p21,p0,p3,p20,gH,gJ,hk,hkj,vwB,A0]
 ·rintro F h' ⟨p0,p3,p20,rfl⟩
  simp only [HO,go_sem,↓reduceIte,p0,p3,p20,vwB,Al,List.length_map,List.take_of_length_le (Nat.le_of_eq (Al (n:=n) (p:=Cl t s s.has.length)))]
 ·simp only [HO,go_sem,↓reduceIte]
 ·simp only [HO,go_sem,↓reduceIte]
 ·simp only [HO,go_sem,↓reduceIte]
  rfl
end
def Zn (t:A2) (s:A5) (a b:Nat):Bool:=((hbM t s.has s.jf).getD a 0#64).getLsbD b
def V3 (t:A2) (s:A5) (e a:Nat):Bool:=Zn t s a e || decide (e=a)
def T9 (t:A2) (s:A5):Nat→Nat→Bool:=Qj t.nodes.length fun a b=>Cl t s s.has.length b a
def vwF (t:A2) (s:A5):List VV:=eVw t s (Ar t.nodes.length (V3 t s)) (Ar t.nodes.length (T9 t s))
section
variable {V:Am} (C:Au V) {Q:VV→Prop}
include C
set_option maxHeartbeats 8000000 in
theorem PK (t:A2) (ht:A8 t) (s:A5) (hs:Hq s) (hf:AZ t s):VP V Ud [vT t,J6 s] Q↔Q (.tu [.fp (vwF t s) 0,.b true]):=by
 refine Ad ?_
 rw [Ac C.c_z42.1 C.c_z42.2]
 have h64:=ht.n64
 have hff:=By.2 hf
 have hfr:=BP hff
 have hhb:=fun (Q:VV→Prop)=>A7k C t ht s.has s.jf hs.has hs.jf (Q:=Q)
 rw [hbF,if_pos hfr] at hhb
 have hbe:hbM t s.has s.jf=Ar t.nodes.length (Zn t s):=Uk h64 _
 rw [hbe] at hhb
 have hbk:=fun (b:Nat) (Q:VV→VH→Prop)=>A0h C h64 (Zn t s) b (Q:=Q)
 have hcf:=fun (Q:VV→Prop)=>Kh C t ht (Q:=Q)
 have hpo:=fun (Q:VV→Prop)=>Uy C t ht (Q:=Q)
 rw [← R8] at hcf
 rw [← P6] at hpo
 have hset:=fun (Q:VV→Prop)=>A0u C s hs (Q:=Q)
 have hstep:=fun (x0 x1 x3:Option VO) (d h:VV) (Q:VV→VH→Prop)=>A0s C t ht s hs hf x0 x1 x3 d h (Q:=Q)
 have hbk2:=fun (Q:VV→Prop)=>Sv C h64 (Cl t s s.has.length) (Q:=Q)
 have hstar:=fun (Q:VV→Prop)=>XR C h64 (fun a b=>Cl t s s.has.length b a) (Q:=Q)
 rw [← T9] at hstar
 obtain ⟨w,hw⟩:∃ w:Int,vW (Cj s.has) = .i .u64 w:=⟨_,rfl⟩
 simp only [vwB,hw] at hset hstep
 unfold vwF eVw
 rw [hw]
 obtain ⟨n,hn⟩:∃ n,n=t.nodes.length:=⟨_,rfl⟩
 simp only [A98,NB,go_sem,↓reduceIte,Y5 C t ht s hs,hff,hset,hcf,hpo,hhb,hbk,show min 4 12=4 from rfl,show min 7 12=7 from rfl,show min 8 12=8 from rfl,show min 9 12=9 from rfl,show min 10 12=10 from rfl,Nat.reduceAdd,Nat.reduceSub]
 rw [← hn] at h64 hstep hbk2 hstar ⊢
 have hfin:Ar n (fun e a=>Zn t s a e || (decide (e < n) && decide (e=a)))=Ar n (V3 t s):=Ds fun a b ha _=>by rw [decide_eq_true ha,Bool.true_and];rfl
 refine Ae (by decide) n (by omega) (I:=fun k F h=>A4.tmp F 6 = .p 2 0 0 0∧h=[some DO,some DO,some ⟨PR,0,0,false,[[.i .i64 t.vals,lS t.locs,.ls (t.regs.map J9),.ls (t.nodes.map eN),lI s.has,lI s.jf,.ls (s.mo.map EB),.i .u64 w,lW (R8 t),lW (P6 t),.sl 3 0 0 n,.sl 1 0 0 0]]⟩,
  some ⟨Bf,1,0,false,(Ar n fun e a=>Zn t s a e || (decide (e < k) && decide (e=a))).map eW⟩]) ?_ ?_ 0 _ _ (by omega) ?_ ?_ ?_
 ·rintro k F h hk p37 p36 ⟨p6,rfl⟩
  have gW:=Bz (a:=Ar n fun e a=>Zn t s a e || (decide (e < k) && decide (e=a))) (i:=k) (by rw [Al];exact hk)
  have hput:=NR h64 (fun e a=>Zn t s a e || (decide (e < k) && decide (e=a))) hk hk
  have hnx:Ar n (fun j i=>(Zn t s i j || (decide (j < k) && decide (j=i))) || (decide (j=k) && decide (i=k)))=Ar n fun e a=>Zn t s a e || (decide (e < k+1) && decide (e=a)):=by
   congr 1
   funext j i
   rw [Bool.or_assoc]
   congr 1
   rw [Bool.eq_iff_iff]
   simp only [Bool.or_eq_true,Bool.and_eq_true,decide_eq_true_eq]
   omega
  rw [hnx] at hput
  have hse:∀ w,((Ar n fun e a=>Zn t s a e || (decide (e < k) && decide (e=a))).map eW).set k [vW w]=((Ar n fun e a=>Zn t s a e || (decide (e < k) && decide (e=a))).set k w).map eW:=fun w=>by rw [List.map_set]
  simp only [NB,go_sem,↓reduceIte,p37,p36,p6,hk,gW,BX C,hse,hput,Al,List.length_map,A0]
 ·rintro F h ⟨p6,rfl⟩
  rw [hfin]
  simp only [NB,go_sem,↓reduceIte,p6,hstep,hbk2,hstar,Al,List.length_map,List.take_of_length_le (Nat.le_of_eq (Al (n:=n) (p:=V3 t s)))]
 ·simp only [NB,go_sem,↓reduceIte]
 ·simp only [NB,go_sem,↓reduceIte]
 ·simp only [NB,go_sem,↓reduceIte]
  rw [show Ar n (fun a b=>Zn t s b a)=Ar n (fun e a=>Zn t s a e || (decide (e < 0) && decide (e=a))) from Ds fun a b _ _=>by simp]
end
def dnR (t:A2) (s:A5):Rows:=Ar t.nodes.length (V3 t s)
def DB (t:A2) (s:A5) (a b:Nat):Bool:=PZ t ((dnR t s).getD a 0#64) ((dnR t s).getD b 0#64)
def Y6 (t:A2) (s:A5) (e:Nat):Bool:=!DB t s e e
def N0 (t:A2) (s:A5) (e:Nat):Bool:=Abt t s (Ar t.nodes.length (T9 t s)) e
def Eo (t:A2) (s:A5):Rows:=Ar t.nodes.length fun a b=>B2 s.has (a:Int) && B2 s.has (b:Int) && DB t s a b
def Ab5 (t:A2) (s:A5):BitVec 64:=Cj (s.has.filter fun e=>N0 t s e.toNat)
def ecS (t:A2) (s:A5) (k a b:Nat):Bool:=(List.range k).any (fun i=>decide (s.has.getD i 0=(a:Int))) && (B2 s.has (b:Int) && DB t s a b)
theorem Acf (t:A2) (s:A5):Ar t.nodes.length (ecS t s s.has.length)=Eo t s:=by
 refine Ds fun a b _ _=>?_
 unfold ecS
 rw [← Bool.and_assoc]
 congr 2
 rw [Bool.eq_iff_iff,List.any_eq_true,A9]
 constructor
 ·rintro ⟨i,hi,h⟩
  have:=Ap (d:=0) (List.mem_range.1 hi)
  rwa [of_decide_eq_true h] at this
 ·intro h
  obtain ⟨i,hi,e⟩:=List.getElem_of_mem h
  exact ⟨i,List.mem_range.2 hi,decide_eq_true (by rw [List.getD_eq_getElem?_getD,List.getElem?_eq_getElem hi];exact e)⟩
theorem Acg {t:A2} (ht:A8 t) {s:A5} (hn:CH t s.has) {k a:Nat} (ha:a < t.nodes.length) (hk:s.has.getD k 0=a):(Ar t.nodes.length (ecS t s k)).set a (Cj (s.has.filter fun e=>DB t s a e.toNat))=Ar t.nodes.length (ecS t s (k+1)):=by
 have h64:=ht.n64
 apply List.ext_getElem
 ·simp [Al]
 ·intro j h1 h2
  rw [List.length_set,Al] at h1
  rw [List.getElem_set]
  have g:=Bi (n:=t.nodes.length) (p:=ecS t s k) h1
  have g2:=Bi (n:=t.nodes.length) (p:=ecS t s (k+1)) h1
  rw [List.getElem?_eq_getElem (by rw [Al];exact h1),Option.some.injEq] at g g2
  rw [g2]
  by_cases c:a=j
  ·subst c
   rw [if_pos rfl]
   apply Bp
   intro i hi
   have hb:=LG (s.has.filter fun e=>DB t s a e.toNat) (x:=(i:Int)) (by omega) (by omega)
   rw [AS] at hb
   rw [hb,At,decide_eq_true hi,Bool.and_true,Bool.eq_iff_iff,A9,List.mem_filter]
   simp only [ecS,List.range_succ,List.any_append,List.any_cons,List.any_nil,hk,decide_true,Bool.or_true,Bool.true_or,Bool.true_and,Bool.and_eq_true,decide_eq_true_eq,A9,Int.toNat_natCast]
   constructor
   ·rintro ⟨h1,h2⟩
    obtain ⟨m,e,hm⟩:=Aa (hn _ h1)
    exact ⟨by omega,h1,h2⟩
   ·rintro ⟨_,h1,h2⟩
    exact ⟨h1,h2⟩
  ·rw [if_neg c,g]
   congr 1
   funext i
   simp only [ecS,List.range_succ,List.any_append,List.any_cons,List.any_nil,hk,Bool.or_false]
   rw [decide_eq_false (show ¬ ((a:Nat):Int)=(j:Int) by omega),Bool.or_false]
section
variable {V:Am} (C:Au V) {Q:VV→Prop}
include C
theorem A0p (t:A2) (ht:A8 t) (s:A5) {a b:Nat} (ha:a < t.nodes.length) (hb:b < t.nodes.length):VP V ZR [.i .i64 b,.fp [.fp (vwF t s) 0] 0,.fp [.i .i64 a] 0] Q↔Q (.b (DB t s a b)):=by
 refine Ad ?_
 rw [Ac C.c_z45.1 C.c_z45.2]
 have h:=fun (Q:VV→Prop)=>A0r C t ht s (dnR t s) (Ar t.nodes.length (T9 t s)) (a:=a) (b:=b) (by rw [dnR,Al];exact ha) (by rw [dnR,Al];exact hb) (Q:=Q)
 unfold vwF
 simp only [A9b,A4D,go_sem,↓reduceIte]
 exact (h _).2 rfl
theorem SE (t:A2) (ht:A8 t) (s:A5) (hs:Hq s) (hf:AZ t s) (e:Int) {g:Nat} (p:Nat→Bool) (hp:∀ n:Nat,n < t.nodes.length→∀ Q:VV→Prop,VP V g [.fp (vwF t s) 0,.i .i64 n] Q↔Q (.b (p n))) :
  VP V A58 [vT t,J6 s,.i .i64 e,.f g [] []] Q↔Q (.b (B2 s.has e && p e.toNat)):=by
 refine Ad ?_
 rw [Ac C.c_z35.1 C.c_z35.2]
 have h64:=ht.n64
 have hof:=fun (Q:VV→Prop)=>PK C t ht s hs hf (Q:=Q)
 have hn:CH t s.has:=hf.node
 have hh:=hn.has h64 e
 unfold vwF at hof hp
 cases c:B2 s.has e with
 | false =>
  rw [c] at hh
  simp only [A44,Zz,go_sem,↓reduceIte,hof,AD C,hh,Bool.false_and]
 | true =>
  rw [c] at hh
  obtain ⟨m,rfl,hm⟩:=Aa (hn _ (A9.1 c))
  have hpm:=hp m hm
  rw [Int.toNat_natCast,Bool.true_and]
  simp only [A44,Zz,go_sem,↓reduceIte,hof,AD C,hh,hpm]
theorem Gy (t:A2) (ht:A8 t) (s:A5) (hs:Hq s) (hf:AZ t s) (e:Int):VP V AdH [vT t,J6 s,.i .i64 e] Q↔Q (.b (B2 s.has e && Y6 t s e.toNat)):=by
 refine Ad ?_
 rw [Ac C.c_z6.1 C.c_z6.2]
 have h:=fun (Q:VV→Prop)=>SE C t ht s hs hf e (g:=ZQ) (Y6 t s) (fun n hn Q=>Tw C t ht s (dnR t s) _ (by rw [dnR,Al];exact hn) (Q:=Q)) (Q:=Q)
 simp only [AfO,Adr,go_sem,↓reduceIte,h]
theorem H8 (t:A2) (ht:A8 t) (s:A5) (hs:Hq s) (hf:AZ t s) (ok:QT t s) (e:Int):VP V AdI [vT t,J6 s,.i .i64 e] Q↔Q (.b (B2 s.has e && N0 t s e.toNat)):=by
 refine Ad ?_
 rw [Ac C.c_z7.1 C.c_z7.2]
 have h:=fun (Q:VV→Prop)=>SE C t ht s hs hf e (g:=Qd) (N0 t s) (fun n hn Q=>Kf C t ht s hs ok (dnR t s) (T9 t s) hn (Q:=Q)) (Q:=Q)
 simp only [AfP,Ads,go_sem,↓reduceIte,h]
theorem A0q (t:A2) (ht:A8 t) (s:A5) (hs:Hq s) (hf:AZ t s) (ok:QT t s):VP V A4T [vT t,J6 s] Q↔Q (vW (Ab5 t s)):=by
 refine Ad ?_
 rw [Ac C.c_z10.1 C.c_z10.2]
 have hof:=fun (Q:VV→Prop)=>PK C t ht s hs hf (Q:=Q)
 have hal:=fun (Q:VV→Prop)=>SD C t s hs (dnR t s) (Ar t.nodes.length (T9 t s)) (g:=Qd) (a:=[.fp (vwF t s) 0]) (c:=[]) (fun _ _=>rfl) Fz.nil (fun e=>N0 t s e.toNat) (fun e he=>by
  obtain ⟨m,rfl,hm⟩:=Aa (hf.node _ he)
  exact (Kf C t ht s hs ok (dnR t s) (T9 t s) hm).2 rfl) (Q:=Q)
 unfold vwF at hof hal
 simp only [A8I,A4v,go_sem,↓reduceIte,hof]
 exact (hal _).2 rfl
set_option maxHeartbeats 4000000 in
theorem JZ (t:A2) (ht:A8 t) (s:A5) (hs:Hq s) (hf:AZ t s):VP V AdK [vT t,J6 s] Q↔Q (lW (Eo t s)):=by
 refine Ad ?_
 rw [Ac C.c_z9.1 C.c_z9.2]
 have h64:=ht.n64
 have g1:=hs.has
 have hof:=fun (Q:VV→Prop)=>PK C t ht s hs hf (Q:=Q)
 have hnew:=fun (b:Nat) (Q:VV→VH→Prop)=>Sy C t.nodes.length h64 b (Q:=Q)
 have hal:=fun (a:Nat) (ha:a < t.nodes.length) (Q:VV→Prop)=>SD C t s hs (dnR t s) (Ar t.nodes.length (T9 t s)) (g:=ZR) (a:=[]) (c:=[.fp [.fp (vwF t s) 0] 0,.fp [.i .i64 a] 0]) Fz.nil (fun _ _=>rfl) (fun e=>DB t s a e.toNat) (fun e he=>by
  obtain ⟨m,rfl,hm⟩:=Aa (hf.node _ he)
  exact (A0p C t ht s ha hm).2 rfl) (Q:=Q)
 simp only [AfQ,Tc,go_sem,↓reduceIte,hof,hnew]
 refine Ae (by decide) s.has.length (by omega) (I:=fun k F h=>A4.tmp F 5 = .p 0 0 0 0∧A4.tmp F 7 = .sl 1 0 0 t.nodes.length∧A4.tmp F 23=lI s.has∧h=[some ⟨T3,0,0,false,[[.fp (vwF t s) 0]]⟩,some ⟨Bf,1,0,false,(Ar t.nodes.length (ecS t s k)).map eW⟩]) ?_ ?_ 0 _ _ (by omega) ?_ ?_ ?_
 ·rintro k F h hk p25 p24 ⟨p5,p7,p23,rfl⟩
  obtain ⟨m,hm,hmn⟩:=Aa (hf.node _ (Ap (d:=0) hk))
  have gH:=Az hk
  rw [hm] at gH
  have hput:=Acg ht hf.node hmn hm
  have hse:∀ w,((Ar t.nodes.length (ecS t s k)).map eW).set m [vW w]=((Ar t.nodes.length (ecS t s k)).set m w).map eW:=fun w=>by rw [List.map_set]
  simp only [Tc,go_sem,↓reduceIte,p25,p24,p5,p7,p23,gH,hk,hmn,Al,List.length_map,A0]
  refine (hal m hmn _).2 ?_
  have gW:=Bz (a:=Ar t.nodes.length (ecS t s k)) (i:=m) (by rw [Al];exact hmn)
  simp only [Tc,go_sem,↓reduceIte,hmn,gW,hse,hput,Al,List.length_map]
 ·rintro F h ⟨p5,p7,p23,rfl⟩
  rw [Acf]
  simp only [Tc,go_sem,↓reduceIte,p5,p7,p23,Al,List.length_map,Eo,List.take_of_length_le (Nat.le_of_eq (Al (n:=t.nodes.length) (p:=fun a b=>B2 s.has (a:Int) && B2 s.has (b:Int) && DB t s a b)))]
 ·simp only [Tc,go_sem,↓reduceIte]
 ·simp only [Tc,go_sem,↓reduceIte]
 ·simp only [Tc,go_sem,↓reduceIte]
  rw [show Ar t.nodes.length (ecS t s 0)=Ar t.nodes.length (fun _ _=>false) from Ds fun a b _ _=>by simp [ecS],PJ]
end
theorem A2x (t:A2) (x f:List Int) (w:Int) (a:Nat):∀ k,Ep t x f (a+k) w=Ep t x f k (Ep t x f a w)
 | 0=>rfl
 | k+1=>by rw [← Nat.add_assoc,Ep,A2x t x f w a k];rfl
theorem Zq (t:A2) (x f:List Int) (w:Int):∀ (N j:Nat),j≤N→(∀ i,i≤j→Ep t x f i w∈x)→∃ k,k≤j∧k < x.length∧Ep t x f k w=Ep t x f j w
 | N,j,hN,h=>by
  by_cases c:j < x.length
  ·exact ⟨j,Nat.le_refl _,c,rfl⟩
  ·have hnd:¬ ((List.range (j+1)).map fun i=>Ep t x f i w).Nodup:=by
    intro hd
    have:=Kc _ x hd (fun y hy=>by
     obtain ⟨i,hi,rfl⟩:=List.mem_map.1 hy
     exact h i (by have:=List.mem_range.1 hi;omega))
    simp at this;omega
   have:∃ a b,a < b∧b≤j∧Ep t x f a w=Ep t x f b w:=by
    apply Classical.byContradiction
    intro hno
    apply hnd
    rw [List.nodup_iff_pairwise_ne,List.pairwise_iff_getElem]
    intro a b ha hb hab e
    simp only [List.length_map,List.length_range,List.getElem_map,List.getElem_range] at ha hb e
    exact hno ⟨a,b,hab,by omega,e⟩
   obtain ⟨a,b,hab,hbj,e⟩:=this
   match N with
   | 0=>omega
   | N+1 =>
    obtain ⟨k,h1,h2,h3⟩:=Zq t x f w N (j - (b - a)) (by omega) (fun i hi=>h i (by omega))
    refine ⟨k,by omega,h2,h3.trans ?_⟩
    have e1:=A2x t x f w a (j - b)
    have e2:=A2x t x f w b (j - b)
    rw [e] at e1
    rw [show j - (b - a)=a+(j - b) by omega,e1,← e2,show b+(j - b)=j by omega]
section
variable {t:A2} (ht:A8 t) {s s':A5} {n:Nat} (E:Ext t s s') (hF:DS t s.has s.jf) (hF':DS t s'.has s'.jf) (up:∀ n,n∈s.has→(t.at n.toNat).up < 0∨(t.at n.toNat).up∈s.has)
 (new:∀ x,x∈s'.has→x=(n:Int)∨x∈s.has) (hno:(n:Int)∉s.has) (fr:∀ b:Nat,(b:Int)∈s.has→AE t n b=false) (onN:(t.at n).kind=2→Ho s'.has s'.jf n∈s.has)
include ht E hF hF' up new hno fr onN
theorem AdU {w:Int} {a:Nat} (hw:w∈s.has) (h:(L3 t s'.has w).getLsbD a=true):(L3 t s.has w).getLsbD a=true:=by
 rw [L3,At,Bool.and_eq_true] at h ⊢
 refine ⟨?_,h.2⟩
 have h:=h.1
 simp only [A77,Bool.or_eq_true,Bool.and_eq_true,A9] at h ⊢
 rcases h with h | h
 ·exact .inl h
 ·refine .inr ⟨⟨⟨?_,h.1.1.2⟩,h.1.2⟩,h.2⟩
  rcases new _ h.1.1.1 with e | e
  ·obtain ⟨m,rfl,_⟩:=Aa (hF.node w hw)
   have:=fr m hw
   rw [← e,h.2] at this;cases this
  ·exact e
theorem AaJ {w:Int} (hw:w∈s.has):∀ i,(∀ k,k < i→MT t (Ep t s'.has s'.jf k w)=false)→Ep t s'.has s'.jf i w=Ep t s.has s.jf i w∧(Ep t s.has s.jf i w∈s.has∨Ep t s.has s.jf i w = -1)
 | 0,_=>⟨rfl,.inl hw⟩
 | i+1,h=>by
  obtain ⟨e,m⟩:=AaJ hw i (fun k hk=>h k (by omega))
  have ho:=h i (by omega)
  rcases m with m | m
  ·rw [Ep,e,A8G ht E hF hF' up m,← Ep]
   refine ⟨rfl,?_⟩
   rw [Ep]
   rcases UU ht hF m with c | c
   ·exact .inr c
   ·exact .inl c.1
  ·rw [e,m] at ho;cases ho
theorem A08 {w:Int} {a:Nat} (hw:w∈s.has) (h:Bv (Co t s'.has s'.jf w) (a:Int)=true):Bv (Co t s.has s.jf w) (a:Int)=true:=by
 rw [AS] at h ⊢
 obtain ⟨j,_,h2,h3⟩:=(ED _ _ _ _ _ _).1 h
 have hin:∀ i,i≤j→Ep t s'.has s'.jf i w=Ep t s.has s.jf i w∧Ep t s.has s.jf i w∈s.has:=fun i hi=>by
  obtain ⟨e,m⟩:=AaJ ht E hF hF' up new hno fr onN hw i (fun k hk=>h2 k (by omega))
  rcases m with m | m
  ·exact ⟨e,m⟩
  ·have:=h2 i hi
   rw [e,m] at this;cases this
 obtain ⟨k,k1,k2,k3⟩:=Zq t s.has s.jf w j j (Nat.le_refl _) (fun i hi=>(hin i hi).2)
 refine (ED _ _ _ _ _ _).2 ⟨k,by omega,fun i hi=>by rw [← (hin i (by omega)).1];exact h2 i (by omega),?_⟩
 rw [k3]
 rw [(hin j (Nat.le_refl _)).1] at h3
 exact AdU ht E hF hF' up new hno fr onN (hin j (Nat.le_refl _)).2 h3
theorem A07 {a b:Nat} (h:U1 t s'.has s'.jf a b=true):(a:Int)∈s.has∧((b:Int)=n∨U1 t s.has s.jf a b=true):=by
 simp only [U1,Bool.or_eq_true,Bool.and_eq_true,A9] at h ⊢
 rcases h with ⟨⟨ha,hb⟩,hbf⟩ | h
 ·have ha':(a:Int)∈s.has:=by
   rcases new _ ha with e | e
   ·rcases new _ hb with e2 | e2
    ·have:=Lk ht hbf;omega
    ·have:=fr b e2
     rw [← e,hbf] at this;cases this
   ·exact e
  refine ⟨ha',?_⟩
  rcases new _ hb with e | e
  ·exact .inl e
  ·exact .inr (.inl ⟨⟨ha',e⟩,hbf⟩)
 ·simp only [swB,List.any_eq_true,Bool.and_eq_true] at h ⊢
  obtain ⟨r,hr,⟨hs,hh⟩,he⟩:=h
  have hk:(t.at r.toNat).kind=2:=by simp only [MW,Bool.and_eq_true,decide_eq_true_eq] at hs;exact hs.1
  obtain ⟨hb,hbe⟩:=A8A hr he
  rcases new _ hr with rfl | hr'
  ·rw [Int.toNat_natCast] at hk
   have hh:=A08 ht E hF hF' up new hno fr onN (onN hk) hh
   obtain ⟨_,_,ha,_⟩:=Vp ht hF (onN hk) hh
   refine ⟨ha,.inl ?_⟩
   rcases hbe with e | e
   ·exact e
   ·rcases new _ hb with c | c
    ·exact c
    ·have:=fr b c
     rw [e.2] at this;cases this
  ·have hw:=(hF.read r hr' hk).1
   rw [E.on r hr'] at hh
   have hh:=A08 ht E hF hF' up new hno fr onN hw hh
   obtain ⟨_,_,ha,_⟩:=Vp ht hF hw hh
   refine ⟨ha,?_⟩
   rcases new _ hb with c | c
   ·exact .inl c
   ·refine .inr (.inr ⟨r,hr',⟨?_,hh⟩,?_⟩)
    ·unfold MW at hs ⊢;rw [E.on r hr'] at hs;exact hs
    ·simp only [Ja,Bool.or_eq_true,Bool.and_eq_true,A9] at he ⊢
     rcases he with he | he
     ·exact .inl he
     ·exact .inr ⟨⟨⟨c,he.1.1.2⟩,he.1.2⟩,he.2⟩
theorem A5M {a b:Nat} (h:N7 (U1 t s'.has s'.jf) t.nodes.length a b):(a:Int)∈s.has∧((b:Int)=n∨N7 (U1 t s.has s.jf) t.nodes.length a b):=by
 induction h with
 | one hb h =>
  obtain ⟨h1,h2⟩:=A07 ht E hF hF' up new hno fr onN h
  refine ⟨h1,?_⟩
  rcases h2 with h2 | h2
  ·exact .inl h2
  ·exact .inr (.one hb h2)
 | more h1 hc h ih =>
  obtain ⟨k1,k2⟩:=A07 ht E hF hF' up new hno fr onN h
  refine ⟨ih.1,?_⟩
  rcases ih.2 with c | c
  ·rw [c] at k1;exact absurd k1 hno
  ·rcases k2 with k2 | k2
   ·exact .inl k2
   ·exact .inr (.more c hc k2)
theorem A8n (hf':BH t s' = true) (h:YT t s=true) (hp:∀ a:Nat,(a:Int)∈s.has→KZ t s' a n=true):YT t s' = true:=by
 have h64:=ht.n64
 rw [YT,Bool.and_eq_true] at h
 obtain ⟨hf,hq⟩:=h
 have hlen:s.has.length=s.jf.length:=hF.len
 have hlen':s'.has.length=s'.jf.length:=hF'.len
 rw [YT,hf',Bool.true_and,List.all_eq_true]
 intro x hx
 obtain ⟨a,b,ha,rfl,hpt⟩:=(Px h64 _ _).1 hx
 obtain ⟨ma,hb⟩:=A5M ht E hF hF' up new hno fr onN hpt
 rcases hb with hb | hb
 ·show KZ t s' a b=true
  rw [hb];exact hp a ma
 ·have mb:=(AaV ht hF hb).2
  have hk:=List.all_eq_true.1 hq _ ((Px h64 _ _).2 ⟨a,b,ha,rfl,hb⟩)
  have src:∀ n:Nat,(n:Int)∈s.has→(if (t.at n).kind=2 then SY s' n else (n:Int))=(if (t.at n).kind=2 then SY s n else (n:Int))∧((if (t.at n).kind=2 then SY s n else (n:Int))∈s.has):=by
   intro n hn
   by_cases c:(t.at n).kind=2
   ·rw [if_pos c,if_pos c,Jf hlen,Jf hlen',E.on _ hn]
    exact ⟨rfl,(hF.read _ hn c).1⟩
   ·rw [if_neg c,if_neg c];exact ⟨rfl,hn⟩
  obtain ⟨ea,sa⟩:=src a ma
  obtain ⟨eb,sb⟩:=src b mb
  simp only [KZ,plN,Int.toNat_natCast] at hk ⊢
  rw [ea,eb]
  simp only [Se,Bool.or_eq_true] at hk ⊢
  rcases hk with hk | hk
  ·exact .inl hk
  ·by_cases cl:(t.at a).loc=(t.at b).loc
   ·refine .inr ?_
    rw [cl] at hk ⊢
    have p1:=E.place (t.at b).loc _ _ sa sb
    have p2:=E.place (t.at b).loc _ _ sb sa
    by_cases c:(t.at b).kind=2
    ·rw [if_pos c] at hk ⊢
     have:=of_decide_eq_true hk
     exact decide_eq_true (by omega)
    ·rw [if_neg c] at hk ⊢
     have:=of_decide_eq_true hk
     exact decide_eq_true (by omega)
   ·exact .inl (.inr (by rw [decide_eq_false cl];rfl))
end
theorem A42 {α:Type} (p:α→Bool) (l:List α):D3 p l < l.length:=by
 cases h:l.any p with
 | false=>rw [Rc h];omega
 | true =>
  obtain ⟨k,e,hk,_⟩:=Jc h
  rw [e];omega
def DN (s:A5) (loc:Nat):Int:=((s.mo.getD loc []).getD ((s.mo.getD loc []).length - 1) []).getD 0 0
structure WI (t:A2) (s:A5) (mem:List Int) (k:Nat):Prop where
 gr:Gr t s k
 kl:k≤s.has.length
 form:AZ t s
 coh:YT t s=true
 one:∀ loc,loc < s.mo.length→∀ c∈s.mo.getD loc [],∃ w:Nat,c=[(w:Int)]∧(w:Int)∈s.has∧(t.at w).kind=3∧(t.at w).loc=loc
 ml:mem.length=t.locs.length
 mem:∀ loc,loc < t.locs.length→mem.getD loc 0=(t.at (DN s loc).toNat).val
theorem AZ.len {t:A2} {s:A5} (h:AZ t s):s.has.length≤t.nodes.length:=by
 have hd:s.has.Nodup:=h.ris.imp fun h=>by omega
 have:=Kc s.has ((List.range t.nodes.length).map fun (i:Nat)=>(i:Int)) hd (fun x hx=>by
  obtain ⟨m,rfl,hm⟩:=Aa (h.node x hx)
  exact List.mem_map.2 ⟨m,List.mem_range.2 hm,rfl⟩)
 simpa using this
theorem WI.k64 {t:A2} (ht:A8 t) {s:A5} {mem:List Int} {k:Nat} (W:WI t s mem k):k≤64:=by
 have h1:=W.form.len
 have h2:=ht.n64
 have h3:=W.kl
 omega
theorem WI.pos {t:A2} {s:A5} {mem:List Int} {k:Nat} (W:WI t s mem k) {loc:Nat} (hl:loc < s.mo.length):0 < (s.mo.getD loc []).length:=by
 have:=(W.gr.big.mi _ (Ap (d:=[]) hl)).1
 exact List.length_pos_iff.2 this
theorem WI.last {t:A2} {s:A5} {mem:List Int} {k:Nat} (W:WI t s mem k) {loc:Nat} (hl:loc < s.mo.length) :
  ∃ w:Nat,DN s loc=w∧(w:Int)∈s.has∧(t.at w).kind=3∧(t.at w).loc=loc∧Bd s loc w=((s.mo.getD loc []).length - 1:Nat):=by
 have hp:=W.pos hl
 have hlt:(s.mo.getD loc []).length - 1 < (s.mo.getD loc []).length:=by omega
 obtain ⟨w,e,h1,h2,h3⟩:=W.one loc hl _ (Ap (d:=[]) hlt)
 refine ⟨w,by rw [DN,e];rfl,h1,h2,h3,?_⟩
 rw [Bd,if_neg (by omega),Int.toNat_natCast]
 have ho:=W.form.once _ h1 (by rw [Int.toNat_natCast];exact h2)
 rw [Int.toNat_natCast,h3,Int.toNat_natCast] at ho
 have e2:(s.mo.getD loc [])[(s.mo.getD loc []).length - 1]=[(w:Int)]:=by
  rw [← e,List.getD_eq_getElem?_getD (l:=s.mo.getD loc []),List.getElem?_eq_getElem hlt];rfl
 refine DD hlt (by rw [e2];simp [B2]) (fun j hj=>?_)
 rw [Bool.eq_false_iff]
 intro hc
 obtain ⟨L,hL⟩:∃ L,L=s.mo.getD loc []:=⟨_,rfl⟩
 rw [← hL] at ho hj hlt hp
 simp only [← hL] at e2 hc
 have hsp:L=L.take (j+1)++L.drop (j+1):=(List.take_append_drop _ _).symm
 rw [hsp,List.filter_append,List.length_append] at ho
 have p1:0 < ((L.take (j+1)).filter fun c=>B2 c (w:Int)).length:=by
  refine List.length_pos_of_mem (a:=L[j]) (List.mem_filter.2 ⟨?_,hc⟩)
  rw [List.mem_take_iff_getElem]
  exact ⟨j,by omega,rfl⟩
 have p2:0 < ((L.drop (j+1)).filter fun c=>B2 c (w:Int)).length:=by
  refine List.length_pos_of_mem (a:=L[L.length - 1]) (List.mem_filter.2 ⟨?_,by rw [e2];simp [B2]⟩)
  rw [List.mem_drop_iff_getElem]
  exact ⟨L.length - 1 - (j+1),by omega,by congr 1;omega⟩
 omega
section
variable {t:A2} (ht:A8 t) {s:A5} {mem:List Int} {k:Nat} (W:WI t s mem k) {n:Nat} (hn:n < t.nodes.length) (hno:(n:Int)∉s.has) (hup:(t.at n).up∈s.has) (fr:∀ b:Nat,(b:Int)∈s.has→AE t n b=false)
include ht W hn hno hup
theorem QR {kind w:Int} (hk:(t.at n).kind=kind):CL t s n kind w=some (AQ s n w):=by
 have h1:C4 t s n kind=true:=by
  simp only [C4,By.2 W.form,BN hn,Int.toNat_natCast,hk,A9.2 hup,Bool.eq_false_iff.2 (fun c=>hno (A9.1 c))]
  simp
 rw [CL,if_pos h1]
include fr
theorem A3D {s':A5} {w:Int} (E:Ext t s s') (hf':AZ t s') (e1:s'.has=B3 s.has (Ba s.has n) n) (e2:s'.jf=B3 s.jf (Ba s.has n) w) (hw:(t.at n).kind=2→w∈s.has)
  (hp:(t.at n).kind=2∨(t.at n).kind=3→∀ v,v∈s.has→if (t.at n).kind=2 then Bd s' (t.at n).loc v≤Bd s' (t.at n).loc w else Bd s' (t.at n).loc v < Bd s' (t.at n).loc n):YT t s' = true:=by
 have hF:=Cf (BP (By.2 W.form))
 have hF':=Cf (BP (By.2 hf'))
 have hk:=CY s.has n
 have hon:Ho s'.has s'.jf n=w:=by
  have:=hF'.at_ (Ba s.has n) (by rw [e1,CA hk];omega)
  rw [e1,e2,QC hk,QC (by rw [W.form.jl];exact hk)] at this
  rw [e1,e2];exact this
 refine A8n ht E hF hF' W.form.up (fun x hx=>by rw [e1] at hx;exact BD.1 hx) hno fr (fun c=>by rw [hon];exact hw c) (By.2 hf') W.coh (fun a ha=>?_)
 have sa:(if (t.at a).kind=2 then SY s' a else (a:Int))∈s.has:=by
  by_cases c:(t.at a).kind=2
  ·rw [if_pos c,Jf hF'.len,E.on _ ha];exact (hF.read _ ha c).1
  ·rw [if_neg c];exact ha
 have e0:KZ t s' a n=Se (t.at a) (t.at n) (plN t s' a) (plN t s' n):=by rw [KZ,Int.toNat_natCast,Int.toNat_natCast]
 have ea:plN t s' a=Bd s' (t.at a).loc (if (t.at a).kind=2 then SY s' a else (a:Int)):=by rw [plN,Int.toNat_natCast]
 have eb:plN t s' n=Bd s' (t.at n).loc (if (t.at n).kind=2 then SY s' n else (n:Int)):=by rw [plN,Int.toNat_natCast]
 rw [e0,ea,eb]
 by_cases c:(t.at n).kind=2∨(t.at n).kind=3
 ·by_cases cl:(t.at a).loc=(t.at n).loc
  ·have:=hp c _ sa
   rw [cl]
   simp only [Se,Bool.or_eq_true]
   refine .inr ?_
   by_cases c2:(t.at n).kind=2
   ·rw [if_pos c2] at this
    rw [if_pos c2,if_pos c2,show SY s' n=w from by rw [Jf hF'.len];exact hon]
    exact decide_eq_true this
   ·rw [if_neg c2] at this
    rw [if_neg c2,if_neg c2]
    exact decide_eq_true this
  ·simp only [Se,Bool.or_eq_true]
   exact .inl (.inr (by rw [decide_eq_false cl];rfl))
 ·simp only [Se,Bool.or_eq_true]
  refine .inl (.inl (.inr ?_))
  rw [decide_eq_false (fun h=>c (.inl h)),decide_eq_false (fun h=>c (.inr h))];rfl
theorem AhJ (hk:(t.at n).kind=4):WI t (AQ s n (-1)) mem (k+1):=by
 have hm:=QR ht W hn hno hup (w:=-1) hk
 have hki:=CY s.has n
 have hf:AZ t (AQ s n (-1)):=Pi W.form (BN hn) hno (by rw [Int.toNat_natCast];exact hup) (by simp [okJ,hk]) (by rw [Int.toNat_natCast];omega)
 exact ⟨LF W.gr hm,by show k+1≤(B3 _ _ _).length;rw [CA hki];have:=W.kl;omega,hf,
  A3D ht W hn hno hup fr (EZ hm).1 hf rfl rfl (fun c=>by omega) (fun c=>by omega),fun loc hl c hc=>by
   obtain ⟨w,a,b,d⟩:=W.one loc hl c hc
   exact ⟨w,a,(EZ hm).1.has _ b,d⟩,W.ml,W.mem⟩
theorem Aej {loc:Nat} (hk:(t.at n).kind=2) (hloc:(t.at n).loc=loc) (hv:(t.at n).val=mem.getD loc 0):HF t s n (DN s loc)=some (AQ s n (DN s loc))∧WI t (AQ s n (DN s loc)) mem (k+1):=by
 have hm:=QR ht W hn hno hup (w:=DN s loc) hk
 have hki:=CY s.has n
 have hl:loc < s.mo.length:=by
  have:=(ht.wloc hn (.inl hk)).2
  have:=W.form.ml
  omega
 obtain ⟨w,e,w1,w2,w3,w4⟩:=W.last hl
 have hj:okJ t s.has n (DN s loc)=true:=by
  have hmem:=W.mem loc (by have:=W.form.ml;omega)
  rw [e,Int.toNat_natCast] at hmem
  simp only [okJ,Int.toNat_natCast,hk,if_true,e,HM,w2,w3,hloc,A9.2 w1,hv,hmem,decide_true,Bool.and_self]
 have hf:AZ t (AQ s n (DN s loc)):=Pi W.form (BN hn) hno (by rw [Int.toNat_natCast];exact hup) hj (by rw [Int.toNat_natCast];omega)
 have hrd:HF t s n (DN s loc)=some (AQ s n (DN s loc)):=by
  rw [HF,hm]
  simp only [By.2 hf,if_true]
 refine ⟨hrd,LF W.gr hm,by show k+1≤(B3 _ _ _).length;rw [CA hki];have:=W.kl;omega,hf,
  A3D ht W hn hno hup fr (EZ hm).1 hf rfl rfl (fun c=>by rw [e];exact w1) (fun c v hv=>?_),fun loc hl c hc=>?_,W.ml,W.mem⟩
 ·rw [if_pos hk,hloc,e]
  show Bd s loc v≤Bd s loc w
  rw [w4]
  rw [Bd,if_neg (by omega),Int.toNat_natCast]
  have:=A42 (fun c=>B2 c v) (s.mo.getD loc [])
  have:=W.pos hl
  omega
 ·obtain ⟨w,a,b,d⟩:=W.one loc hl c hc
  exact ⟨w,a,(EZ hm).1.has _ b,d⟩
theorem Abz {loc:Nat} (hk:(t.at n).kind=3) (hth:0≤(t.at n).thread) (hloc:(t.at n).loc=loc) :
  ∃ s',DZ t s n ((s.mo.getD loc []).length:Nat)=some s'∧WI t s' (mem.set loc (t.at n).val) (k+1)∧∀ x,x∈s'.has↔x=(n:Int)∨x∈s.has:=by
 have hm:=QR ht W hn hno hup (w:=-1) hk
 have hki:=CY s.has n
 have hl:loc < s.mo.length:=by
  have:=(ht.wloc hn (.inr hk)).2
  have:=W.form.ml
  omega
 have hp:=W.pos hl
 have hin:∀ c∈s.mo.getD loc [],∀ x∈c,x∈s.has:=fun c hc x hx=>by
  obtain ⟨w,e,h1,_⟩:=W.one loc hl c hc
  rw [e] at hx
  rw [List.mem_singleton.1 hx];exact h1
 have hf:=A2l W.form (BN hn) hno (by rw [Int.toNat_natCast];exact hup) (by rw [Int.toNat_natCast];exact hk) (by rw [Int.toNat_natCast];exact hth) (by rw [Int.toNat_natCast];exact hloc) hl hin
 have hwr:DZ t s n ((s.mo.getD loc []).length:Nat)=some { AQ s n (-1) with mo:=s.mo.set loc (s.mo.getD loc []++[[(n:Int)]]) }:=by
  rw [DZ,hm]
  simp only [Int.toNat_natCast,hloc]
  rw [if_neg (by show ¬ ((((s.mo.getD loc []).length:Nat):Int) < 1∨(((s.mo.getD loc []).length:Nat):Int) < _);omega)]
  show some ({ AQ s n (-1) with mo:=s.mo.set loc ((s.mo.getD loc []).take _++[(n:Int)]::(s.mo.getD loc []).drop _) }:A5)=_
  rw [List.take_length,List.drop_length]
 have hself:(s.mo.set loc (s.mo.getD loc []++[[(n:Int)]])).getD loc []=s.mo.getD loc []++[[(n:Int)]]:=by rw [List.getD_eq_getElem?_getD (l:=s.mo.set _ _),List.getElem?_set,if_pos rfl,if_pos hl];rfl
 have hoth:∀ k,k≠loc→(s.mo.set loc (s.mo.getD loc []++[[(n:Int)]])).getD k []=s.mo.getD k []:=fun k hk=>by rw [List.getD_eq_getElem?_getD (l:=s.mo.set _ _),List.getElem?_set,if_neg (Ne.symm hk),← List.getD_eq_getElem?_getD]
 obtain ⟨E,_⟩:=UI hwr
 refine ⟨_,hwr,⟨SW W.gr hwr,by show k+1≤(B3 _ _ _).length;rw [CA hki];have:=W.kl;omega,hf,A3D ht W hn hno hup fr E hf rfl rfl (fun c=>by omega) (fun c v hv=>?_),?_,?_,?_⟩,fun x=>BD⟩
 ·rw [if_neg (by omega),hloc]
  have hb:¬ ((loc:Int) < 0∨((s.mo.set loc (s.mo.getD loc []++[[(n:Int)]])).length:Int)≤loc):=by rw [List.length_set];omega
  simp only [Bd,if_neg hb,Int.toNat_natCast,hself]
  have e1:D3 (fun c=>B2 c (n:Int)) (s.mo.getD loc []++[[(n:Int)]])=((s.mo.getD loc []).length:Nat):=by
   refine DD (by simp) (by simp [B2]) (fun j hj=>?_)
   rw [List.getElem_append_left hj,Bool.eq_false_iff]
   intro c
   exact hno (hin _ (List.getElem_mem hj) _ (A9.1 c))
  have e2:B2 [(n:Int)] v=false:=Bool.eq_false_iff.2 fun c=>hno (by rw [← List.mem_singleton.1 (A9.1 c)];exact hv)
  have e3:=Nn (p:=fun c=>B2 c v) (y:=[(n:Int)]) e2 (s.mo.getD loc []) _ (Nat.le_refl _)
  rw [List.take_length,List.drop_length] at e3
  have:=A42 (fun c=>B2 c v) (s.mo.getD loc [])
  rw [if_pos this] at e3
  rw [e1,e3];exact this
 ·intro l hl0 c hc
  have hl':l < s.mo.length:=by have h:l < (s.mo.set loc (s.mo.getD loc []++[[(n:Int)]])).length:=hl0;rwa [List.length_set] at h
  by_cases cl:l=loc
  ·subst cl
   rw [hself,List.mem_append] at hc
   rcases hc with hc | hc
   ·obtain ⟨w,a,b,d⟩:=W.one l hl' c hc
    exact ⟨w,a,E.has _ b,d⟩
   ·rw [List.mem_singleton] at hc
    exact ⟨n,hc,BD.2 (.inl rfl),hk,hloc⟩
  ·rw [hoth l cl] at hc
   obtain ⟨w,a,b,d⟩:=W.one l hl' c hc
   exact ⟨w,a,E.has _ b,d⟩
 ·rw [List.length_set];exact W.ml
 ·intro l hl'
  have hl'':l < mem.length:=by rw [W.ml];exact hl'
  by_cases cl:l=loc
  ·subst cl
   have e1:DN { AQ s n (-1) with mo:=s.mo.set l (s.mo.getD l []++[[(n:Int)]]) } l=n:=by
    simp only [DN,hself]
    rw [List.length_append,List.length_singleton,Nat.add_sub_cancel,List.getD_eq_getElem?_getD (l:=s.mo.getD l []++_),List.getElem?_append_right (Nat.le_refl _),Nat.sub_self]
    rfl
   rw [e1,Int.toNat_natCast,List.getD_eq_getElem?_getD,List.getElem?_set,if_pos rfl,if_pos hl''];rfl
  ·have e1:DN { AQ s n (-1) with mo:=s.mo.set loc (s.mo.getD loc []++[[(n:Int)]]) } l=DN s l:=by
    simp only [DN,hoth l cl]
   rw [e1,List.getD_eq_getElem?_getD,List.getElem?_set,if_neg (Ne.symm cl),← List.getD_eq_getElem?_getD]
   exact W.mem l hl'
end
theorem J5.moreN {t:A2}:∀ {n u e:Nat},J5 t n u e→u < e∧∀ m,u < m→m < e→0≤(t.at m).up∧((t.at m).rmw=true→(t.at m).kind=3):=by
 intro n
 induction n with
 | zero=>intro u e h;exact absurd h (by simp [J5])
 | succ n ih =>
  intro u e h
  obtain ⟨⟨_,ht,_⟩,h⟩:=h
  rcases h with ⟨_,_,rfl⟩ | ⟨c,_,_,al,hb⟩ | ⟨c,_,_,vals,k,loc,mode,_,hv0,hk0,hke,hloc,hs,_⟩
  ·exact ⟨by omega,fun m h1 h2=>by omega⟩
  ·have:=(ih hb).1
   refine ⟨by omega,fun m h1 h2=>?_⟩
   by_cases e1:m=u+1
   ·subst e1
    refine ⟨by rw [(Nj c).1];omega,fun hr=>?_⟩
    simp only [DA,Bool.or_eq_true,Bool.and_eq_true,decide_eq_true_eq,Bool.not_eq_true'] at al
    rcases al with h | h
    ·rw [h.1.1.2] at hr;cases hr
    ·exact h.1.1.1
   ·exact (ih hb).2 m (by omega) h2
  ·have mono:∀ v,v≤vals→k 0≤k v:=by
    intro v
    induction v with
    | zero=>intro _;omega
    | succ v iv=>intro hv;have:=iv (by omega);have:=(ih (hs v (by omega)).2.2).1;omega
   refine ⟨by have:=mono vals (by omega);omega,fun m h1 h2=>?_⟩
   obtain ⟨v,hv,a,b⟩:=Ee (k:=k) (m:=m) vals (by omega) (by omega)
   obtain ⟨s1,s2,s3⟩:=hs v hv
   by_cases e1:m=k v
   ·subst e1
    simp only [EK,Bool.and_eq_true,decide_eq_true_eq,Bool.not_eq_true'] at s2
    exact ⟨by rw [(Nj s1).1];omega,fun hr=>by rw [s2.2] at hr;cases hr⟩
   ·exact (ih s3).2 m (by omega) b
theorem A8.kinds {t:A2} (h:A8 t):∃ s:Nat→Nat,(∀ v,v < t.regs.length→s v < t.nodes.length∧t.locs.length≤s v∧(t.at (s v)).thread=v∧(t.at (s v)).up = -1∧(t.at (s v)).kind=1)∧(∀ m,m < t.nodes.length→m < t.locs.length∨(∃ v,v < t.regs.length∧m=s v)∨(0≤(t.at m).up∧((t.at m).rmw=true→(t.at m).kind=3))):=by
 obtain ⟨s,h0,he,hs⟩:=h.thr
 have mono:∀ d v,v+d≤t.regs.length→s v+d≤s (v+d):=by
  intro d
  induction d with
  | zero=>intro v _;simp
  | succ d ih =>
   intro v hv
   have:=ih v (by omega)
   obtain ⟨_,n,hn⟩:=hs (v+d) (by omega)
   have:=hn.moreN.1
   rw [Nat.add_assoc] at this
   omega
 refine ⟨s,fun v hv=>?_,fun m hm=>?_⟩
 ·obtain ⟨hb,n,hn⟩:=hs v hv
  simp only [ET,Bool.and_eq_true,decide_eq_true_eq] at hb
  have a:=mono v 0 (by omega)
  have b:=mono (t.regs.length - v) v (by omega)
  rw [show v+(t.regs.length - v)=t.regs.length by omega] at b
  rw [Nat.zero_add] at a
  exact ⟨by omega,by omega,hb.1.1.1.1.1.1,hb.1.1.1.1.1.2,hb.1.1.1.1.2⟩
 ·by_cases c:m < t.locs.length
  ·exact .inl c
  ·obtain ⟨v,hv,a,b⟩:=Ee (k:=s) (m:=m) t.regs.length (by omega) (by omega)
   obtain ⟨hb,n,hn⟩:=hs v hv
   by_cases e1:m=s v
   ·exact .inr (.inl ⟨v,hv,e1⟩)
   ·exact .inr (.inr (hn.moreN.2 m (by omega) b))
theorem A8.top {t:A2} (h:A8 t) {m:Nat} (hm:m < t.nodes.length) (h0:0≤(t.at m).thread) (hu:(t.at m).up < 0):(t.at m).kind=1:=by
 obtain ⟨s,h1,h2⟩:=h.kinds
 rcases h2 m hm with c | ⟨v,hv,rfl⟩ | c
 ·have:=(h.init m c).thr;omega
 ·exact (h1 v hv).2.2.2.2
 ·omega
theorem A8.tops {t:A2} (h:A8 t) {m k:Nat} (hm:m < t.nodes.length) (hk:k < t.nodes.length) (h0:0≤(t.at m).thread) (hu:(t.at m).up < 0) (huk:(t.at k).up < 0) (e:(t.at k).thread=(t.at m).thread):k=m:=by
 obtain ⟨s,h1,h2⟩:=h.kinds
 rcases h2 m hm with c | ⟨v,hv,rfl⟩ | c
 ·have:=(h.init m c).thr;omega
 ·rcases h2 k hk with c | ⟨w,hw,rfl⟩ | c
  ·have:=(h.init k c).thr;omega
  ·have a:=(h1 v hv).2.2.1
   have b:=(h1 w hw).2.2.1
   have:w=v:=by omega
   rw [this]
  ·omega
 ·omega
theorem A8.rmw3 {t:A2} (h:A8 t) {m:Nat} (hm:m < t.nodes.length) (h0:0≤(t.at m).up) (hr:(t.at m).rmw=true):(t.at m).kind=3:=by
 obtain ⟨s,h1,h2⟩:=h.kinds
 rcases h2 m hm with c | ⟨v,hv,rfl⟩ | c
 ·exact (h.init m c).kind
 ·have:=(h1 v hv).2.2.2.1;omega
 ·exact c.2 hr
def TJ (t:A2) (k:Nat):List Nat:=(List.range k).filter fun i=>!decide ((t.at i).thread < 0) && decide ((t.at i).up < 0)
def MI (t:A2) (k:Nat):List Int:=((List.range k).filter fun i=>decide ((t.at i).thread < 0)).map fun i=>(t.at i).val
theorem A4R {t:A2} (h:A8 t):MI t t.nodes.length=(List.range t.locs.length).map fun i=>(t.at i).val:=by
 have hl:=h.first.1
 have e:t.nodes.length=t.locs.length+(t.nodes.length - t.locs.length):=by omega
 unfold MI
 congr 1
 rw [e,List.range_add,List.filter_append,List.filter_eq_self.2,List.filter_eq_nil_iff.2,List.append_nil]
 ·intro a ha
  obtain ⟨i,hi,rfl⟩:=List.mem_map.1 ha
  have hi:=List.mem_range.1 hi
  have:=(h.thr_iff (m:=t.locs.length+i) (by omega)).1
  simp only [decide_eq_true_eq]
  omega
 ·intro a ha
  have ha:=List.mem_range.1 ha
  exact decide_eq_true ((h.thr_iff (m:=a) (by omega)).2 ha)
theorem Gh {t:A2} {x:Int}:x∈(BB t).has↔∃ m:Nat,x=m∧m < t.nodes.length∧(t.at m).up < 0:=by
 simp only [BB,E7,List.mem_map,List.mem_filter,List.mem_range,decide_eq_true_eq]
 constructor
 ·rintro ⟨i,⟨h1,h2⟩,rfl⟩;exact ⟨i,rfl,h1,h2⟩
 ·rintro ⟨i,rfl,h1,h2⟩;exact ⟨i,⟨h1,h2⟩,rfl⟩
theorem QP {t:A2} (h:A8 t) {m:Nat} (hm:m < t.nodes.length) (hu:(t.at m).up < 0):(m < t.locs.length∧(t.at m).kind=3)∨(t.locs.length≤m∧(t.at m).kind=1):=by
 by_cases c:m < t.locs.length
 ·exact .inl ⟨c,(h.init m c).kind⟩
 ·refine .inr ⟨by omega,h.top hm ?_ hu⟩
  have:=(h.thr_iff hm).1
  omega
theorem A61 {t:A2} {loc:Nat} (h:loc < t.locs.length):(BB t).mo.getD loc []=[[(loc:Int)]]:=by
 simp [BB,h]
theorem Y7 {t:A2} (h:A8 t):AZ t (BB t):=by
 refine ⟨fun n hn=>?_,fun n hn=>?_,?_,?_,?_,fun i hi=>?_,by simp [BB],fun loc hl=>?_,fun n hn kn=>?_⟩
 ·obtain ⟨m,rfl,hm,_⟩:=Gh.1 hn;exact BN hm
 ·obtain ⟨m,rfl,hm,hu⟩:=Gh.1 hn;exact .inl hu
 ·simp only [BB,E7,List.pairwise_map]
  exact (List.pairwise_lt_range.filter _).imp fun h=>by omega
 ·apply BitVec.eq_of_getLsbD_eq
  intro i hi
  rw [BitVec.getLsbD_or,Gc,At]
  cases hc:(Cj (BB t).has).getLsbD i with
  | true=>simp
  | false =>
   rw [Bool.or_false,Bool.eq_false_iff]
   intro hx
   simp only [Bool.and_eq_true,decide_eq_true_eq] at hx
   have:=LG (BB t).has (x:=(i:Int)) (by omega) (by omega)
   rw [AS,hc,A9.2 (Gh.2 ⟨i,rfl,hx.1.1,hx.1.2⟩)] at this;cases this
 ·simp [BB]
 ·have hm:=Ap (d:=0) hi
  obtain ⟨m,e,hm,hu⟩:=Gh.1 hm
  have hj:(BB t).jf.getD i 0 = -1:=by
   have hi':i < (E7 t t.nodes.length).length:=hi
   simp [BB,hi']
  rw [e,hj]
  rcases QP h hm hu with c | c<;>simp [okJ,c.2]
 ·have hl':loc < t.locs.length:=by simpa [BB] using hl
  simp only [DH,A61 hl',Bool.and_eq_true,Ah]
  refine ⟨⟨rfl,by simp⟩,fun i hi=>?_⟩
  have:i=0:=by simp at hi;omega
  simp [this]
 ·obtain ⟨m,rfl,hm,hu⟩:=Gh.1 hn
  rw [Int.toNat_natCast] at kn ⊢
  rcases QP h hm hu with c | c
  ·rw [(h.init m c.1).loc,Int.toNat_natCast,A61 c.1];simp [B2]
  ·omega
theorem Ae6 {t:A2} {loc:Nat} (hl:loc < t.locs.length):DN (BB t) loc=loc:=by
 rw [DN,A61 hl];rfl
theorem Aht {t:A2} (h:A8 t):YT t (BB t)=true:=by
 rw [YT,By.2 (Y7 h),Bool.true_and,List.all_eq_true]
 intro x hx
 obtain ⟨a,b,ha,rfl,hpt⟩:=(Px h.n64 _ _).1 hx
 have edge:∀ a b:Nat,U1 t (BB t).has (BB t).jf a b=true→(t.at b).kind=1:=by
  intro a b hh
  simp only [U1,Bool.or_eq_true,Bool.and_eq_true,A9] at hh
  rcases hh with ⟨⟨hA,hB⟩,hbf⟩ | hh
  ·obtain ⟨m,e,hm,hu⟩:=Gh.1 hB
   have e:b=m:=by omega
   subst e
   rcases QP h hm hu with c | c
   ·exfalso
    have hth:=(h.init b c.1).thr
    simp only [AE,Bool.and_eq_true,Int.toNat_natCast] at hbf
    have hb2:=hbf.2
    split at hb2
    ·have:=of_decide_eq_true hb2;omega
    ·have hb':=Lk h (a:=a) (b:=b) (by simp only [AE,Bool.and_eq_true,Int.toNat_natCast];exact hbf)
     rename_i hn
     have:=(h.thr_iff (m:=a) (by omega)).2 (by omega)
     exact hn this
   ·exact c.2
  ·exfalso
   simp only [swB,List.any_eq_true,Bool.and_eq_true] at hh
   obtain ⟨r,hr,⟨hs,_⟩,_⟩:=hh
   obtain ⟨m,rfl,hm,hu⟩:=Gh.1 hr
   simp only [MW,Bool.and_eq_true,decide_eq_true_eq,Int.toNat_natCast] at hs
   rcases QP h hm hu with c | c<;>omega
 have kb:(t.at b).kind=1:=by
  cases hpt with
  | one _ hh=>exact edge _ _ hh
  | more _ _ hh=>exact edge _ _ hh
 show KZ t (BB t) a b=true
 simp [KZ,Se,kb]
theorem Akp {t:A2} (h:A8 t):WI t (BB t) (MI t t.nodes.length) 0:=by
 refine ⟨A0v h,Nat.zero_le _,Y7 h,Aht h,fun loc hl c hc=>?_,by rw [A4R h];simp,fun loc hl=>?_⟩
 ·have hl':loc < t.locs.length:=by simpa [BB] using hl
  rw [A61 hl',List.mem_singleton] at hc
  have I:=h.init loc hl'
  exact ⟨loc,hc,Gh.2 ⟨loc,rfl,by have:=h.first.1;omega,by rw [I.up];decide⟩,I.kind,I.loc⟩
 ·rw [A4R h,Ae6 hl,Int.toNat_natCast]
  simp [hl]
structure StI (t:A2) (s:A5) (at_:List Nat):Prop where
 has:∀ u∈at_,(u:Int)∈s.has∧0≤(t.at u).thread
 top:∀ u∈at_,∀ x:Nat,(x:Int)∈s.has→(t.at x).thread=(t.at u).thread→x≤u
 pw:at_.Pairwise fun a b=>(t.at a).thread≠(t.at b).thread
 chain:∀ u∈at_,∀ x:Nat,(x:Int)∈s.has→(t.at x).thread=(t.at u).thread→x=u∨AA t x u=true
 cov:∀ x:Nat,(x:Int)∈s.has→0≤(t.at x).thread→∃ u∈at_,(t.at u).thread=(t.at x).thread
theorem J7 {t:A2} (hu:Kt t) {x n m:Nat} (hn:n < t.nodes.length) (e:(t.at n).up=(m:Int)):AA t x n=(decide (m=x) || AA t x m):=by
 unfold AA
 have:=hu n hn
 rw [Ec hu x (by omega),e,if_neg (by omega),Int.toNat_natCast]
 by_cases c:m=x
 ·rw [if_pos (by omega),decide_eq_true c,Bool.true_or]
 ·rw [if_neg (by omega),decide_eq_false c,Bool.false_or]
theorem Ako {t:A2} (h:A8 t):StI t (BB t) (TJ t t.nodes.length):=by
 have key:∀ u∈TJ t t.nodes.length,u < t.nodes.length∧0≤(t.at u).thread∧(t.at u).up < 0:=by
  intro u hu
  simp only [TJ,List.mem_filter,List.mem_range,Bool.and_eq_true,Bool.not_eq_true',decide_eq_true_eq,decide_eq_false_iff_not] at hu
  exact ⟨hu.1,by omega,hu.2.2⟩
 refine ⟨fun u hu=>?_,fun u hu x hx e=>?_,?_,fun u hu x hx e=>?_,fun x hx h0=>?_⟩
 ·obtain ⟨a,b,c⟩:=key u hu
  exact ⟨Gh.2 ⟨u,rfl,a,c⟩,b⟩
 ·obtain ⟨a,b,c⟩:=key u hu
  obtain ⟨m,e1,hm,hv⟩:=Gh.1 hx
  have e1:x=m:=by omega
  subst e1
  exact Nat.le_of_eq (h.tops a hm b c hv e)
 ·have hp:(TJ t t.nodes.length).Pairwise (· < ·):=List.pairwise_lt_range.filter _
  refine (List.Pairwise.and_mem.1 hp).imp ?_
  rintro a b ⟨ha,hb,hlt⟩ e
  obtain ⟨a1,a2,a3⟩:=key a ha
  obtain ⟨b1,b2,b3⟩:=key b hb
  have:=h.tops b1 a1 b2 b3 a3 e
  omega
 ·obtain ⟨a,b,c⟩:=key u hu
  obtain ⟨m,e1,hm,hv⟩:=Gh.1 hx
  have e1:x=m:=by omega
  subst e1
  exact .inl (h.tops a hm b c hv e)
 ·obtain ⟨m,e1,hm,hv⟩:=Gh.1 hx
  have e1:x=m:=by omega
  subst e1
  refine ⟨x,?_,rfl⟩
  simp only [TJ,List.mem_filter,List.mem_range,Bool.and_eq_true,Bool.not_eq_true',decide_eq_true_eq,decide_eq_false_iff_not]
  exact ⟨hm,by omega,hv⟩
theorem Ac6 {t:A2} (ht:A8 t) {a:Nat}:∀ (n:Nat) (b:Nat),b < n→b < t.nodes.length→AA t a b=true→(t.at a).thread=(t.at b).thread:=by
 intro n
 induction n with
 | zero=>intro b h;omega
 | succ n ih =>
  intro b hbn hb h
  have hu:=ht.up
  unfold AA at h
  have hub:=hu b hb
  rw [Ec hu a (by omega)] at h
  by_cases c1:(t.at b).up < 0
  ·rw [if_pos c1] at h;cases h
  ·rw [if_neg c1] at h
   have hl:t.locs.length≤b:=by
    rcases Nat.lt_or_ge b t.locs.length with h1 | h1
    ·have:=(ht.init b h1).up;omega
    ·exact h1
   have hp:=(ht.good b hl hb).par (by omega)
   rw [← hp]
   by_cases c2:(t.at b).up=a
   ·rw [c2,Int.toNat_natCast]
   ·rw [if_neg c2] at h
    exact ih (t.at b).up.toNat (by omega) (by omega) h
theorem R5 {t:A2} (ht:A8 t) {a b:Nat} (ha:0≤(t.at a).thread) (h:AE t a b=true):(t.at a).thread=(t.at b).thread:=by
 simp only [AE,Bool.and_eq_true,Int.toNat_natCast] at h
 obtain ⟨⟨h1,h2⟩,h3⟩:=h
 simp only [BI,Bool.and_eq_true,decide_eq_true_eq] at h1 h2
 rw [if_neg (by omega)] at h3
 exact Ac6 ht (b+1) b (by omega) (by omega) h3
def GV (t:A2) (u:Nat):List Nat:=if (t.at u).thread < 0 then [] else (List.range t.nodes.length).filter fun i=>decide ((t.at i).up=u)
def Gu (t:A2) (mem:List Int) (i:Nat):Bool:=!decide ((t.at i).kind=2) || decide ((t.at i).val=mem.getD (t.at i).loc.toNat 0)
def Yo (t:A2) (i:Nat):Nat:=if (t.at i).kind=2∧G3 t i=true then i+1 else i
def H7 (t:A2) (mem:List Int) (i:Nat):List Int:=if (t.at i).kind=3 then mem.set (t.at i).loc.toNat (t.at i).val else mem
def Hb (t:A2) (u:Nat) (mem:List Int):Option (Nat×List Int):=if (t.at u).fin=true then none else ((GV t u).find? (Gu t mem)).map fun i=>(Yo t i,H7 t mem (Yo t i))
inductive Wlk (t:A2) (s:A5) (n:Nat) (s':A5):Prop
 | bar:(t.at n).kind=4→CL t s n 4 (-1)=some s'→Wlk t s n s'
 | read (loc:Nat):(t.at n).kind=2→(t.at n).loc=loc→HF t s n (DN s loc)=some s'→Wlk t s n s'
 | write (loc:Nat):(t.at n).kind=3→(t.at n).loc=loc→DZ t s n ((s.mo.getD loc []).length:Nat)=some s'→Wlk t s n s'
theorem A67 {t:A2} (ht:A8 t) {s:A5} {mem:List Int} {k n:Nat} (W:WI t s mem k) (hn:n < t.nodes.length) (hno:(n:Int)∉s.has) (hup:(t.at n).up∈s.has) (fr:∀ b:Nat,(b:Int)∈s.has→AE t n b=false)
  (hth:0≤(t.at n).thread) (hu:0≤(t.at n).up) (hv:(t.at n).kind=2→(t.at n).val=mem.getD (t.at n).loc.toNat 0) :
  ∃ s',Wlk t s n s'∧WI t s' (H7 t mem n) (k+1)∧∀ x,x∈s'.has↔x=(n:Int)∨x∈s.has:=by
 rcases ht.kind hn hu with c | c | c
 ·have hl:=ht.wloc hn (.inl c)
  obtain ⟨loc,e⟩:=Int.eq_ofNat_of_zero_le hl.1
  have hv:=hv c
  rw [e] at hv
  obtain ⟨a,b⟩:=Aej ht W hn hno hup fr (loc:=loc) c e hv
  refine ⟨_,.read loc c e a,?_,fun x=>BD⟩
  rw [H7,if_neg (by omega)];exact b
 ·have hl:=ht.wloc hn (.inr c)
  obtain ⟨loc,e⟩:=Int.eq_ofNat_of_zero_le hl.1
  obtain ⟨s',a,b,d⟩:=Abz ht W hn hno hup fr (loc:=loc) c hth e
  refine ⟨s',.write loc c e a,?_,d⟩
  rw [H7,if_pos c,e];exact b
 ·refine ⟨_,.bar c (QR ht W hn hno hup c),?_,fun x=>BD⟩
  rw [H7,if_neg (by omega)];exact AhJ ht W hn hno hup fr c
theorem Ae7 {t:A2} (ht:A8 t) {s:A5} {mem:List Int} {k:Nat} (W:WI t s mem k) {at_:List Nat} (S:StI t s at_) {j u to:Nat} {out:List Int} (hj:j < at_.length) (hju:at_[j]=u) (h:Hb t u mem=some (to,out)) :
  to < t.nodes.length∧∃ s1 s2 k1 k2,(if (t.at to).up≠(u:Int) then (∃ m:Nat,(t.at to).up=m∧m < t.nodes.length∧Wlk t s m s1) else s1=s)∧WI t s1 mem k1∧Wlk t s1 to s2∧WI t s2 out k2∧k < k2∧StI t s2 (at_.set j to):=by
 unfold Hb at h
 split at h
 ·cases h
 ·obtain ⟨i,hi,e⟩:=Option.map_eq_some_iff.1 h
  simp only [Prod.mk.injEq] at e
  obtain ⟨rfl,rfl⟩:=e
  have hc:=List.find?_some hi
  have hm:=List.mem_of_find?_eq_some hi
  unfold GV at hm
  split at hm
  ·cases hm
  ·rename_i hth
   simp only [List.mem_filter,List.mem_range,decide_eq_true_eq] at hm
   obtain ⟨hin,hiu⟩:=hm
   have huA:u∈at_:=hju ▸ List.getElem_mem hj
   obtain ⟨hus,hut⟩:=S.has u huA
   have hlt:=ht.up i hin
   have lo:∀ m,m < t.nodes.length→0≤(t.at m).up→t.locs.length≤m:=fun m hm hu=>by
    rcases Nat.lt_or_ge m t.locs.length with h1 | h1
    ·have:=(ht.init m h1).up;omega
    ·exact h1
   have par:∀ m,m < t.nodes.length→0≤(t.at m).up→(t.at m).thread=(t.at (t.at m).up.toNat).thread:=fun m hm hu=>((ht.good m (lo m hm hu) hm).par hu).symm
   have thi:(t.at i).thread=(t.at u).thread:=by rw [par i hin (by omega),hiu,Int.toNat_natCast]
   have newer:∀ m:Nat,(t.at m).thread=(t.at u).thread→u < m→(m:Int)∉s.has:=fun m e hm hc=>by have:=S.top u huA m hc e;omega
   have hv:(t.at i).kind=2→(t.at i).val=mem.getD (t.at i).loc.toNat 0:=fun c=>by
    simp only [Gu,c,decide_true,Bool.not_true,Bool.false_or,decide_eq_true_eq] at hc
    exact hc
   have fr1:∀ b:Nat,(b:Int)∈s.has→AE t i b=false:=fun b hb=>by
    rw [Bool.eq_false_iff]
    intro hbf
    have h1:=Lk ht hbf
    have h2:=R5 ht (by omega) hbf
    exact newer b (by omega) (by omega) hb
   obtain ⟨s1,w1,W1,m1⟩:=A67 ht W hin (newer i thi (by omega)) (by rw [hiu];exact hus) fr1 (by omega) (by omega) hv
   have fin:∀ {s2:A5} {v:Nat},(∀ x,x∈s2.has→x∈s.has∨x=(i:Int)∨x=(v:Int))→(∀ x,x∈s.has→x∈s2.has)→(v:Int)∈s2.has→i≤v→(t.at v).thread=(t.at u).thread→(v=i∨(v < t.nodes.length∧(t.at v).up=(i:Int)))→StI t s2 (at_.set j v):=by
    intro s2 v h1 h2 h3 h4 h5 h6
    have hbi:∀ x:Nat,(x=u∨AA t x u=true)→AA t x i=true:=fun x h=>by
     rw [J7 ht.up hin hiu]
     rcases h with h | h
     ·rw [h,decide_eq_true rfl,Bool.true_or]
     ·rw [h,Bool.or_true]
    have hbv:∀ x:Nat,AA t x i=true→x=v∨AA t x v=true:=fun x h=>by
     rcases h6 with h6 | ⟨h6,h7⟩
     ·rw [h6];exact .inr h
     ·rw [J7 ht.up h6 h7,h,Bool.or_true];exact .inr rfl
    refine ⟨fun x hx=>?_,fun x hx y hy e=>?_,?_,fun x hx y hy e=>?_,fun x hx h0=>?_⟩
    ·rcases List.mem_or_eq_of_mem_set hx with hx | rfl
     ·exact ⟨h2 _ (S.has x hx).1,(S.has x hx).2⟩
     ·exact ⟨h3,by omega⟩
    ·obtain ⟨p,hp,rfl⟩:=List.getElem_of_mem hx
     rw [List.length_set] at hp
     rw [List.getElem_set] at e ⊢
     by_cases c:j=p
     ·rw [if_pos c] at e ⊢
      rcases h1 _ hy with a | a | a
      ·have:=S.top u huA y a (by omega);omega
      ·omega
      ·omega
     ·rw [if_neg c] at e ⊢
      have hd:(t.at at_[p]).thread≠(t.at u).thread:=by
       have:=List.pairwise_iff_getElem.1 S.pw
       rw [← hju]
       rcases Nat.lt_or_ge j p with q | q
       ·exact fun e=>this j p hj hp q e.symm
       ·exact fun e=>this p j hp hj (by omega) e
      rcases h1 _ hy with a | a | a
      ·exact S.top _ (List.getElem_mem hp) y a e
      ·have:y=i:=by omega
       subst this;rw [thi] at e;exact absurd e.symm hd
      ·have:y=v:=by omega
       subst this;rw [h5] at e;exact absurd e.symm hd
    ·rw [List.pairwise_iff_getElem]
     intro a b ha hb hab
     rw [List.length_set] at ha hb
     have key:=List.pairwise_iff_getElem.1 S.pw a b ha hb hab
     rw [List.getElem_set,List.getElem_set]
     by_cases c1:j=a
     ·subst c1
      rw [if_pos rfl,if_neg (by omega),h5,← hju];exact key
     ·rw [if_neg c1]
      by_cases c2:j=b
      ·subst c2
       rw [if_pos rfl,h5,← hju];exact key
      ·rw [if_neg c2];exact key
    ·obtain ⟨p,hp,rfl⟩:=List.getElem_of_mem hx
     rw [List.length_set] at hp
     rw [List.getElem_set] at e ⊢
     by_cases c:j=p
     ·rw [if_pos c] at e ⊢
      rcases h1 _ hy with a | a | a
      ·exact hbv y (hbi y (S.chain u huA y a (by omega)))
      ·have:y=i:=by omega
       subst this
       rcases h6 with h6 | ⟨h6,h7⟩
       ·exact .inl h6.symm
       ·rw [J7 ht.up h6 h7,decide_eq_true rfl,Bool.true_or];exact .inr rfl
      ·exact .inl (by omega)
     ·rw [if_neg c] at e ⊢
      have hd:(t.at at_[p]).thread≠(t.at u).thread:=by
       have:=List.pairwise_iff_getElem.1 S.pw
       rw [← hju]
       rcases Nat.lt_or_ge j p with q | q
       ·exact fun e=>this j p hj hp q e.symm
       ·exact fun e=>this p j hp hj (by omega) e
      rcases h1 _ hy with a | a | a
      ·exact S.chain _ (List.getElem_mem hp) y a e
      ·have:y=i:=by omega
       subst this;rw [thi] at e;exact absurd e.symm hd
      ·have:y=v:=by omega
       subst this;rw [h5] at e;exact absurd e.symm hd
    ·have hvm:v∈at_.set j v:=List.mem_set hj v
     rcases h1 _ hx with a | a | a
     ·obtain ⟨w,hw,hwt⟩:=S.cov x a h0
      obtain ⟨p,hp,rfl⟩:=List.getElem_of_mem hw
      by_cases c:j=p
      ·subst c
       rw [hju] at hwt
       exact ⟨v,hvm,by rw [h5];exact hwt⟩
      ·refine ⟨_,List.getElem_mem (show p < (at_.set j v).length by rw [List.length_set];exact hp),?_⟩
       rw [List.getElem_set,if_neg c];exact hwt
     ·have:x=i:=by omega
      subst this
      exact ⟨v,hvm,by rw [h5,thi]⟩
     ·have:x=v:=by omega
      subst this
      exact ⟨x,hvm,rfl⟩
   by_cases cr:(t.at i).kind=2∧G3 t i=true
   ·have e:Yo t i=i+1:=by rw [Yo,if_pos cr]
    rw [e]
    have hr:=cr.2
    simp only [G3,Bool.and_eq_true,decide_eq_true_eq] at hr
    obtain ⟨⟨r1,r2⟩,r3⟩:=hr
    have th2:(t.at (i+1)).thread=(t.at u).thread:=by rw [par (i+1) r1 (by omega),r2,Int.toNat_natCast,thi]
    have k3:=ht.rmw3 r1 (by omega) r3
    have hno2:((i+1:Nat):Int)∉s1.has:=fun hx=>by
     rcases (m1 _).1 hx with a | a
     ·omega
     ·exact newer (i+1) th2 (by omega) a
    have fr2:∀ b:Nat,(b:Int)∈s1.has→AE t (i+1:Nat) b=false:=fun b hb=>by
     rw [Bool.eq_false_iff]
     intro hbf
     have h1:=Lk ht hbf
     have h2:=R5 ht (by omega) hbf
     rcases (m1 _).1 hb with a | a
     ·omega
     ·exact newer b (by omega) (by omega) a
    obtain ⟨s2,w2,W2,m2⟩:=A67 ht W1 r1 hno2 (by rw [r2];exact (m1 _).2 (.inl rfl)) fr2 (by omega) (by omega) (fun c=>by omega)
    have oe:H7 t mem i=mem:=by rw [H7,if_neg (by omega)]
    rw [oe] at W2
    rw [oe] at W1
    refine ⟨r1,s1,s2,k+1,k+1+1,?_,W1,w2,W2,by omega,fin (fun x hx=>?_) (fun x hx=>(m2 _).2 (.inr ((m1 _).2 (.inr hx)))) ((m2 _).2 (.inl rfl)) (by omega) th2 (.inr ⟨r1,r2⟩)⟩
    ·rw [if_pos (by rw [r2];omega)];exact ⟨i,r2,hin,w1⟩
    ·rcases (m2 _).1 hx with a | a
     ·exact .inr (.inr a)
     ·rcases (m1 _).1 a with a | a
      ·exact .inr (.inl a)
      ·exact .inl a
   ·have e:Yo t i=i:=by rw [Yo,if_neg cr]
    rw [e]
    refine ⟨hin,s,s1,k,k+1,by rw [if_neg (by rw [hiu];simp)],W,w1,W1,by omega,fin (fun x hx=>?_) (fun x hx=>(m1 _).2 (.inr hx)) ((m1 _).2 (.inl rfl)) (Nat.le_refl _) thi (.inl rfl)⟩
    rcases (m1 _).1 hx with a | a
    ·exact .inr (.inl a)
    ·exact .inl a
end Go.AM
