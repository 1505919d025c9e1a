/-
  Own work, part of the proof of these laws: what functions compute.
-/
import Derived.Test.YthhlhddnndlhkaaGreatDoorLAe
import Derived.Test.YthhlhddnndlhkaaGreatDoorKDe
set_option maxRecDepth 10000
set_option maxHeartbeats 64000000
set_option linter.unusedVariables false
set_option linter.unusedSimpArgs false
set_option linter.unusedSectionVars false
open Bool (and_eq_true or_eq_true not_eq_true')
open Int (toNat_natCast eq_ofNat_of_zero_le)
open List (getElem?_eq_getElem getD_eq_getElem?_getD length_map length_append length_take getElem_mem length_set length_cons take_of_length_le take_length nil_append map_append filter_append append_assoc range_succ cons_append getElem_of_mem append_nil mem_append getElem?_set any_eq_true length_nil map_nil filter_cons map_set any_nil)
open Nat (zero_le lt_or_ge)
open Option (getD_some)
open BitVec (getLsbD_or getLsbD_and)
namespace Go.AM
open Go Go.Proofs
theorem Ci {n:Nat} {p q:Nat->Nat->Bool} (h:∀ a b,a < n->b < n->p a b=q a b):Ak n p=Ak n q:=by
 unfold Ak
 apply List.map_congr_left
 intro a ha
 congr 1
 funext b
 cases c:decide (b < n) with
 | false=>rfl
 | true=>rw [h a b (List.mem_range.1 ha) (of_decide_eq_true c)]
theorem Rc {i j:Nat} (hj:j < 64):(C4 (i:Int)).getLsbD j=decide (i=j):=by
 rw [CT]
 exact decide_eq_decide.2 ⟨fun h=>by omega,fun h=>by omega⟩
theorem Jv {n:Nat} (hn:n<=64) (q:Nat->Nat->Bool) {a b:Nat} (ha:a < n) (hb:b < n):(Ak n q).set b ((Ak n q).getD b 0#64 ||| C4 (a:Int))=Ak n fun j i=>q j i || (decide (j=b) && decide (i=a)):=by
 apply List.ext_getElem
 .simp [Aj]
 .intro j h1 h2
  rw [length_set,Aj] at h1
  rw [List.getElem_set]
  have g:=Bm (n:=n) (p:=q) h1
  have g2:=Bm (n:=n) (p:=fun j i=>q j i || (decide (j=b) && decide (i=a))) h1
  rw [getElem?_eq_getElem (by rw [Aj];exact h1),Option.some.injEq] at g g2
  rw [g2]
  by_cases c:b=j
  .subst c
   rw [if_pos rfl,getD_eq_getElem?_getD,Bm h1,getD_some]
   apply B1
   intro i hi
   rw [getLsbD_or,Au,Au,Rc hi,decide_eq_true (show b=b from rfl),Bool.true_and]
   by_cases e:a=i
   .subst e;simp [ha,hi]
   .have e2:decide (i=a)=false:=decide_eq_false fun h=>e h.symm
    rw [decide_eq_false e,e2,Bool.or_false,Bool.or_false]
  .rw [if_neg c,g]
   congr 1
   funext i
   rw [decide_eq_false (show ¬ j=b from fun h=>c h.symm),Bool.false_and,Bool.or_false]
theorem Q3 {n:Nat} (hn:n<=64) (p:Nat->Nat->Bool) (x:Int×Int):x∈BC (Ak n p)↔∃ a b:Nat,a < n/\b < n/\x=((a:Int),(b:Int))/\p a b=true:=by
 rw [BC,CH hn,if_pos rfl,Aj,List.mem_flatMap]
 constructor
 .rintro ⟨a,ha,h⟩
  have h0:=List.mem_range.1 ha
  obtain ⟨j,hj,rfl⟩:=List.mem_map.1 h
  obtain ⟨h1,h2⟩:=CN (B4.1 hj)
  obtain ⟨b,rfl⟩:=eq_ofNat_of_zero_le h1
  have h3:=B4.1 hj
  rw [AC,getD_eq_getElem?_getD,Bm h0,getD_some,Au] at h3
  simp only [and_eq_true,decide_eq_true_eq] at h3
  exact ⟨a,b,h0,by omega,rfl,by simp_all⟩
 .rintro ⟨a,b,ha,hb,rfl,h⟩
  refine ⟨a,List.mem_range.2 ha,List.mem_map.2 ⟨b,B4.2 ?_,rfl⟩⟩
  rw [Gq hn ha hb];exact h
def bkP (P:List (Int×Int)) (k:Nat) (j i:Nat):Bool:=(P.take k).any fun x=>decide (x=((i:Int),(j:Int)))
theorem AgG {P:List (Int×Int)} {k a b:Nat} (hk:k < P.length) (e:P[k]=((a:Int),(b:Int))):(fun j i=>bkP P k j i || (decide (j=b) && decide (i=a)))=bkP P (k+1):=by
 funext j i
 unfold bkP
 rw [List.take_succ_eq_append_getElem hk,List.any_append,e]
 congr 1
 simp only [List.any_cons,any_nil,Bool.or_false]
 rw [<- Bool.decide_and]
 refine decide_eq_decide.2 ⟨fun ⟨h1,h2⟩=>by rw [h1,h2],fun h=>?_⟩
 simp only [Prod.mk.injEq] at h
 omega
theorem Aju {n:Nat} (hn:n<=64) (p:Nat->Nat->Bool):Ak n (bkP (BC (Ak n p)) (BC (Ak n p)).length)=Ak n fun a b=>p b a:=by
 refine Ci fun j i hj hi=>?_
 unfold bkP
 rw [take_length,Bool.eq_iff_iff,any_eq_true]
 constructor
 .rintro ⟨x,hx,h⟩
  obtain ⟨a,b,_,_,rfl,hp⟩:=(Q3 hn p x).1 hx
  have h:=of_decide_eq_true h
  simp only [Prod.mk.injEq] at h
  have e1:a=i:=by omega
  have e2:b=j:=by omega
  rw [<- e1,<- e2];exact hp
 .intro h
  exact ⟨_,(Q3 hn p _).2 ⟨i,j,hi,hj,rfl,h⟩,decide_eq_true rfl⟩
section
variable {V:At} (C:Aq V)
include C
theorem A1U {n:Nat} (hn:n<=64) (p:Nat->Nat->Bool) {Q:Ex->A4->VH->Prop} (hq:∀ F,A4.tmp F 2 = .sl 0 0 0 n->Q .ret F [some ⟨AK,1,0,false,(Ak n fun a b=>p b a).map eW⟩]) :
  Vc V A1g XD.body (Tm.ofList [lW (Ak n p)]) [] Q:=by
 obtain ⟨R,hR⟩:∃ R,R=Ak n p:=⟨_,rfl⟩
 have h2:=Aju hn p
 have h3:=fun x=>Q3 hn p x
 have h1:=CH hn p
 have h0:=Aj (n:=n) (p:=p)
 rw [<- hR] at h2 h3 h1 h0 ⊢
 have h9:(BC R).length<=5000:=by
  have:=Xa R R.length
  rw [BC,if_pos h1]
  rw [h0] at this ⊢;omega
 have b1:n * 8<=Aa:=by unfold Aa;omega
 simp only [XD,go_sem,↓reduceIte,Ce C,h1,h0,b1,Y0 C,Int.le_refl]
 refine Ag (by decide) (BC R).length (by omega) (I:=fun k F h=>A4.tmp F 3 = .sl 0 0 0 n/\A4.tmp F 13=lP (BC R)/\h=[some ⟨AK,1,0,false,(Ak n (bkP (BC R) k)).map eW⟩]) ?_ ?_ 0 _ _ (by omega) ?_ ?_ ?_
 .rintro k F h hk h8 h7 ⟨p3,h6,rfl⟩
  obtain ⟨a,b,ha,hb,e,_⟩:=(h3 _).1 (getElem_mem hk)
  have Cp:(BC R)[k]? = some ((a:Int),(b:Int)):=by rw [getElem?_eq_getElem hk,e]
  have gW:=B9 (a:=Ak n (bkP (BC R) k)) (i:=b) (by rw [Aj];exact hb)
  have h4:=Jv hn (bkP (BC R) k) ha hb
  rw [AgG hk e] at h4
  have h5:∀ w,((Ak n (bkP (BC R) k)).map eW).set b [vW w]=((Ak n (bkP (BC R) k)).set b w).map eW:=fun w=>by rw [map_set]
  simp only [go_sem,↓reduceIte,h8,h7,p3,h6,Cp,hk,hb,gW,C0 C,h5,h4,Aj,length_map,A0]
 .rintro F h ⟨p3,h6,rfl⟩
  rw [h2]
  simp only [go_sem,↓reduceIte,p3]
  exact hq _ (by simp only [go_sem,↓reduceIte,p3])
 .simp only [go_sem,↓reduceIte]
 .simp only [go_sem,↓reduceIte]
 .simp only [go_sem,↓reduceIte]
  rw [<- J7]
  rfl
theorem A1V {n:Nat} (hn:n<=64) (p:Nat->Nat->Bool) {Q:VV->Prop}:VP V A1n [lW (Ak n p)] Q↔Q (lW (Ak n fun a b=>p b a)):=by
 refine Ae ?_
 rw [Ad C.c_z27.1 C.c_z27.2]
 refine A1U C hn p fun F h=>?_
 simp only [XD,go_sem,↓reduceIte,h,Aj,length_map,take_of_length_le (Nat.le_of_eq (Aj (n:=n) (p:=fun a b=>p b a)))]
theorem AaG {n:Nat} (hn:n<=64) (p:Nat->Nat->Bool) (b:Nat) {Q:VV->VH->Prop}:VP1 V A1n [lW (Ak n p)] b Q↔Q (.sl b 0 0 n) [some ⟨AK,1,0,false,(Ak n fun a b=>p b a).map eW⟩]:=by
 refine K8 ?_
 rw [K9 C.c_z27.2]
 refine A1U C hn p fun F h=>?_
 simp only [XD,go_sem,↓reduceIte,h,Aj,length_map,BF]
 simp
end
def Y6 (n:Nat) (p:Nat->Nat->Bool) (a b:Nat):Bool:=((BV (Ak n p)).getD a 0#64).getLsbD b || decide (a=b)
theorem A60 {n:Nat} (hn:n<=64) (p:Nat->Nat->Bool):BV (Ak n p)=Ak n fun a b=>((BV (Ak n p)).getD a 0#64).getLsbD b:=by
 have hl:=Dh hn p
 apply List.ext_getElem
 .rw [hl,Aj]
 .intro a h1 h2
  rw [hl] at h1
  have g:=Bm (n:=n) (p:=fun a b=>((BV (Ak n p)).getD a 0#64).getLsbD b) h1
  rw [getElem?_eq_getElem h2,Option.some.injEq] at g
  rw [g]
  apply B1
  intro b hb
  rw [Au,getD_eq_getElem?_getD,getElem?_eq_getElem (by omega),getD_some]
  by_cases c:b < n
  .simp [c,hb]
  .rw [decide_eq_false c,Bool.false_and,Bool.false_and]
   rw [Bool.eq_false_iff]
   intro hc
   have:=(DY hn p (a:=a) (b:=b) h1).1 (by rw [getD_eq_getElem?_getD,getElem?_eq_getElem (by omega)];exact hc)
   exact c this.lt
section
variable {V:At} (C:Aq V)
include C
theorem A2J {n:Nat} (hn:n<=64) (p:Nat->Nat->Bool) (b:Nat) {Q:VV->VH->Prop}:VP1 V Ll [lW (Ak n p)] b Q↔Q (.sl b 0 0 n) [some ⟨AK,1,0,false,(BV (Ak n p)).map eW⟩]:=by
 refine K8 ?_
 rw [K9 C.c_z164.2]
 have hm:=CH hn p
 have h6:=Aj (n:=n) (p:=p)
 obtain ⟨a,ha⟩:∃ a,a=Ak n p:=⟨_,rfl⟩
 rw [<- ha] at hm h6 ⊢
 have hl:=HU hm
 have h0:a.length * 8<=Aa:=by unfold Aa;omega
 have h7:¬ (64:Int) < n:=by omega
 subst h6
 simp only [PL,go_sem,↓reduceIte,Ce C,hm,h0,Int.le_refl]
 refine Ag (by decide) a.length (by omega) (I:=fun k F h=>A4.tmp F 0=lW a/\A4.tmp F 12=lW a/\A4.tmp F 3 = .sl 0 0 0 a.length/\h=[some ⟨AK,1,0,false,(Dj a.length k (fun i=>GF a (a.getD i 0#64)) 0#64).map eW⟩]) ?_ ?_ 0 _ _ (by omega) ?_ ?_ ?_
 .rintro k F h hk h1 h2 ⟨h3,h4,h5,rfl⟩
  have hu:=Xl (n:=a.length) (k:=k) (f:=fun i=>GF a (a.getD i 0#64)) (z:=0#64)
  simp only [go_sem,↓reduceIte,h1,h2,h3,h4,h5,hk,B9 hk,Pj C a hm,JB hk,hu]
 .rintro F h ⟨h3,h4,h5,rfl⟩
  simp only [go_sem,↓reduceIte,h5,Ho,BV,hm,BF]
  simp
 all_goals simp only [go_sem,↓reduceIte]
 all_goals first | rfl | rw [EZ]
theorem A7p {n:Nat} (hn:n<=64) (p:Nat->Nat->Bool) {Q:VV->Prop}:VP V Lk [lW (Ak n p)] Q↔Q (lW (Ak n (Y6 n p))):=by
 refine Ae ?_
 rw [Ad C.c_z135.1 C.c_z135.2]
 have h3:=A60 hn p
 obtain ⟨q,hq⟩:∃ q,q=fun a b=>((BV (Ak n p)).getD a 0#64).getLsbD b:=⟨_,rfl⟩
 rw [<- hq] at h3
 have h5:Y6 n p=fun a b=>q a b || decide (a=b):=by rw [hq];rfl
 have h2:=fun (b:Nat) (Q:VV->VH->Prop)=>A2J C hn p b (Q:=Q)
 rw [h3] at h2
 simp only [ZB,go_sem,↓reduceIte,h2]
 refine Ag (by decide) n (by omega) (I:=fun k F h=>A4.tmp F 3 = .sl 0 0 0 n/\h=[some ⟨AK,1,0,false,(Ak n fun a b=>q a b || (decide (a < k) && decide (a=b))).map eW⟩]) ?_ ?_ 0 _ _ (by omega) ?_ ?_ ?_
 .rintro k F h hk p9 p8 ⟨p3,rfl⟩
  have gW:=B9 (a:=Ak n fun a b=>q a b || (decide (a < k) && decide (a=b))) (i:=k) (by rw [Aj];exact hk)
  have h0:=Jv hn (fun a b=>q a b || (decide (a < k) && decide (a=b))) hk hk
  have h4:Ak n (fun j i=>(q j i || (decide (j < k) && decide (j=i))) || (decide (j=k) && decide (i=k)))=Ak n fun a b=>q a b || (decide (a < k+1) && decide (a=b)):=by
   congr 1
   funext j i
   rw [Bool.or_assoc]
   congr 1
   rw [Bool.eq_iff_iff]
   simp only [or_eq_true,and_eq_true,decide_eq_true_eq]
   omega
  rw [h4] at h0
  have h1:∀ w,((Ak n fun a b=>q a b || (decide (a < k) && decide (a=b))).map eW).set k [vW w]=((Ak n fun a b=>q a b || (decide (a < k) && decide (a=b))).set k w).map eW:=fun w=>by rw [map_set]
  simp only [go_sem,↓reduceIte,p9,p8,p3,hk,gW,C0 C,h1,h0,Aj,length_map,A0]
 .rintro F h ⟨p3,rfl⟩
  have e:Ak n (fun a b=>q a b || (decide (a < n) && decide (a=b)))=Ak n (Y6 n p):=by
   rw [h5]
   exact Ci fun a b ha hb=>by rw [decide_eq_true ha,Bool.true_and]
  simp only [go_sem,↓reduceIte,p3,e,Aj,length_map,take_of_length_le (Nat.le_of_eq (Aj (n:=n) (p:=Y6 n p)))]
 .simp only [go_sem,↓reduceIte]
 .simp only [go_sem,↓reduceIte]
 .simp only [go_sem,↓reduceIte]
  rw [show Ak n q=Ak n fun a b=>q a b || (decide (a < 0) && decide (a=b)) from Ci fun a b _ _=>by simp]
theorem XZ (a:Rows) (hm:Dk a=true) (s:BitVec 64) (b:Nat) {Q:VV->VH->Prop}:VP1 V A1m [lW a,vW s] b Q↔Q (.sl b 0 0 a.length) [some ⟨AK,1,0,false,(Mj a s).map eW⟩]:=by
 refine K8 ?_
 rw [K9 C.c_z25.2]
 have hl:=HU hm
 simp only [A0T,go_sem,↓reduceIte,Ce C,hm,Mj,
   Y1 C (show a.length<=1000 by omega) (gf:=XS) (a:=[.ag [lW a,vW s]]) (c:=[]) (fun _ _=>rfl) Fz.nil (fun (i:Nat)=>if Bc s (i:Int) then a.getD i 0#64 &&& s else 0#64) 0 (fun i hi=>(MD C a s hi).2 rfl),BF]
 simp
end
def PB (t:A1):Rows:=Ak t.nodes.length fun a b=>AH t a b
def LV (t:A1):Rows:=Ak t.nodes.length fun a b=>Ap t a b
def XA (t:A1) (A B:BitVec 64):Bool:=!decide (Eo (PB t) A &&& B=0#64)
abbrev eVw (t:A1) (s:A6) (D H:Rows):List VV:=[.i .i64 t.vals,lS t.locs,.ls (t.regs.map JE),.ls (t.nodes.map eN),lI s.has,lI s.jf,.ls (s.mo.map DD),vW (Cc s.has),lW (PB t),lW (LV t),lW D,lW H]
def Yf (t:A1) (s:A6) (w:Nat):List Int:=(s.mo.getD (t.at w).loc.toNat []).getD (Be s (t.at w).loc w).toNat []
def A8N (t:A1) (s:A6) (w e:Nat):Bool:=(Yf t s w).any fun c=>decide (c=(e:Int)) || Bc ((LV t).getD c.toNat 0#64) e || Bc ((LV t).getD e 0#64) c
def A1a (t:A1) (s:A6) (r e:Nat):Bool :=
 let w:=Qz s r
 if w < 0\/(t.at w.toNat).thread < 0\/(t.at w.toNat).thread=(t.at r).thread then false else Bc ((PB t).getD w.toNat 0#64) e && !A8N t s w.toNat e
def AfO (t:A1) (s:A6) (H:Rows) (e:Nat):Bool:=(Ay (H.getD e 0#64)).all fun r=>!A1a t s r.toNat e
structure YU (t:A1) (s:A6):Prop where
 jf:∀ r:Nat,(Qz s r < 0)\/∃ w:Nat,Qz s r=w/\w < t.nodes.length/\0<=(t.at w).loc/\(t.at w).loc < s.mo.length/\0<=Be s (t.at w).loc w/\Be s (t.at w).loc w < (s.mo.getD (t.at w).loc.toNat []).length/\∀ c∈Yf t s w,BP t c=true
section
variable {V:At} (C:Aq V) {Q:VV->Prop}
include C
theorem A7D (t:A1) (ht:A5 t) (s:A6) (hs:DL s) (D H:Rows) {w e:Nat} (hw:w < t.nodes.length) (he:e < t.nodes.length) (h1:0<=(t.at w).loc) (h2:(t.at w).loc < s.mo.length) (h3:0<=Be s (t.at w).loc w) (h4:Be s (t.at w).loc w < (s.mo.getD (t.at w).loc.toNat []).length)
  (h5:∀ c∈Yf t s w,BP t c=true):VP V W3 [.fp (eVw t s D H) 0,.i .i64 w,.i .i64 e] Q↔Q (.b (A8N t s w e)):=by
 refine Ae ?_
 rw [Ad C.c_z186.1 C.c_z186.2]
 obtain ⟨loc,h8⟩:=eq_ofNat_of_zero_le h1
 unfold A8N
 unfold Yf at h5 ⊢
 have hd:=fun (Q:VV->Prop)=>Ko C s hs (t.at w).loc w (Q:=Q)
 rw [h8] at h2 h3 h4 h5 hd ⊢
 rw [toNat_natCast] at h4 h5 ⊢
 obtain ⟨pl,hm⟩:=eq_ofNat_of_zero_le h3
 rw [hm] at h4 h5 hd ⊢
 rw [toNat_natCast] at h5 ⊢
 have hh:loc < s.mo.length:=by omega
 have h0:pl < (s.mo.getD loc []).length:=by omega
 have gL:=C1 hh
 have gI:=ET h0
 have hl:=hs.mc' loc pl
 obtain ⟨c,hc⟩:∃ c,c=(s.mo.getD loc []).getD pl []:=⟨_,rfl⟩
 rw [<- hc] at gI hl h5 ⊢
 obtain ⟨L,hL⟩:∃ L,L=s.mo.getD loc []:=⟨_,rfl⟩
 rw [<- hL] at gL gI h0
 have ho:(LV t).length=t.nodes.length:=Aj
 simp only [A07,go_sem,↓reduceIte,hw,A7 hw,h8,gL,gI,hh,h0,hd]
 have hn:∀ k,k<=c.length->(∀ j,j < k->∀ hj:j < c.length,(decide (c[j]=(e:Int)) || Bc ((LV t).getD c[j].toNat 0#64) e || Bc ((LV t).getD e 0#64) c[j])=false)->k=c.length->(c.any fun x=>decide (x=(e:Int)) || Bc ((LV t).getD x.toNat 0#64) e || Bc ((LV t).getD e 0#64) x)=false:=by
  intro k hk h e1
  rw [List.any_eq_false]
  intro x hx
  obtain ⟨j,hj,rfl⟩:=getElem_of_mem hx
  rw [h j (by omega) hj];decide
 refine Ag (by decide) c.length (by omega) (I:=fun k F h=>A4.tmp F 0 = .fp (eVw t s D H) 0/\A4.tmp F 2 = .i .i64 e/\A4.tmp F 35=lI c/\h=[]/\∀ j,j < k->∀ hj:j < c.length,(decide (c[j]=(e:Int)) || Bc ((LV t).getD c[j].toNat 0#64) e || Bc ((LV t).getD e 0#64) c[j])=false) ?_ ?_ 0 _ _ (by omega) ?_ ?_ ?_
 .rintro k F h hk ha h9 ⟨p0,p2,h7,rfl,pr⟩
  obtain ⟨x,hx,hp⟩:=A8 (h5 _ (getElem_mem hk))
  have gK:c[k]? = some (x:Int):=by rw [getElem?_eq_getElem hk,hx]
  have h6:(decide ((x:Int)=(e:Int)) || Bc ((LV t).getD x 0#64) e || Bc ((LV t).getD e 0#64) (x:Int))=true->(c.any fun x=>decide (x=(e:Int)) || Bc ((LV t).getD x.toNat 0#64) e || Bc ((LV t).getD e 0#64) x)=true:=fun h=>by
   rw [any_eq_true]
   refine ⟨_,getElem_mem hk,?_⟩
   rw [hx,toNat_natCast];exact h
  have g1:=B9 (a:=LV t) (i:=x) (by omega)
  have g2:=B9 (a:=LV t) (i:=e) (by omega)
  have hf:x < (LV t).length:=by omega
  have hg:e < (LV t).length:=by omega
  cases d1:decide ((x:Int)=(e:Int)) with
  | true =>
   have hb:=h6 (by rw [d1];rfl)
   simp only [go_sem,↓reduceIte,ha,h9,p0,p2,h7,gK,hk,d1,hb,A0]
  | false =>
  cases d2:Bc ((LV t).getD x 0#64) e with
  | true =>
   have hb:=h6 (by rw [d2];simp)
   simp only [go_sem,↓reduceIte,ha,h9,p0,p2,h7,gK,hk,d1,g1,hf,AN C,d2,hb,A0]
  | false =>
  cases d3:Bc ((LV t).getD e 0#64) (x:Int) with
  | true =>
   have hb:=h6 (by rw [d3];simp)
   simp only [go_sem,↓reduceIte,ha,h9,p0,p2,h7,gK,hk,d1,g1,g2,hf,hg,AN C,d2,d3,hb,A0]
  | false =>
   simp only [go_sem,↓reduceIte,ha,h9,p0,p2,h7,gK,hk,d1,g1,g2,hf,hg,AN C,d2,d3,A0]
   intro j hj hi
   rcases lt_or_ge j k with q | q
   .exact pr j q hi
   .obtain rfl:j=k:=by omega
    rw [hx,toNat_natCast,d1,d2,d3];rfl
 .rintro F h ⟨p0,p2,h7,rfl,pr⟩
  have hb:=hn _ (Nat.le_refl _) pr rfl
  simp only [go_sem,↓reduceIte,p0,p2,h7,hb]
 .simp only [go_sem,↓reduceIte]
 .simp only [go_sem,↓reduceIte]
 .simp only [go_sem,↓reduceIte]
  intro j hj;omega
theorem Pp (t:A1) (ht:A5 t) (s:A6) (hs:DL s) (ok:YU t s) (D H:Rows) {r e:Nat} (hr:r < t.nodes.length) (he:e < t.nodes.length):VP V V9 [.fp (eVw t s D H) 0,.i .i64 r,.i .i64 e] Q↔Q (.b (A1a t s r e)):=by
 refine Ae ?_
 rw [Ad C.c_z132.1 C.c_z132.2]
 have hj:=fun (Q:VV->Prop)=>A24 C s hs (r:Int) (Q:=Q)
 unfold A1a
 simp only
 rcases ok.jf r with h | ⟨w,hw,hwn,h1,h2,h3,h4,h5⟩
 .have d:decide (Qz s r < 0)=true:=decide_eq_true h
  rw [if_pos (.inl h)]
  simp only [KZ,go_sem,↓reduceIte,hj,d]
 .rw [hw,toNat_natCast]
  rw [hw] at hj
  have d0:decide ((w:Int) < 0)=false:=decide_eq_false (by omega)
  cases d1:decide ((t.at w).thread < 0) with
  | true =>
   rw [if_pos (.inr (.inl (of_decide_eq_true d1)))]
   simp only [KZ,go_sem,↓reduceIte,hj,d0,hwn,A7 hwn,d1]
  | false =>
  cases d2:decide ((t.at w).thread=(t.at r).thread) with
  | true =>
   rw [if_pos (.inr (.inr (of_decide_eq_true d2)))]
   simp only [KZ,go_sem,↓reduceIte,hj,d0,hwn,A7 hwn,d1,hr,A7 hr,d2]
  | false =>
   rw [if_neg (by
    rintro (h | h | h)
    .omega
    .exact of_decide_eq_false d1 h
    .exact of_decide_eq_false d2 h)]
   have h0:w < (PB t).length:=by rw [PB,Aj];exact hwn
   have g1:=B9 (a:=PB t) (i:=w) h0
   have h6:=fun (Q:VV->Prop)=>A7D C t ht s hs D H hwn he h1 h2 h3 h4 h5 (Q:=Q)
   cases d3:Bc ((PB t).getD w 0#64) e with
   | false=>simp only [KZ,go_sem,↓reduceIte,hj,d0,hwn,A7 hwn,d1,hr,A7 hr,d2,g1,h0,AN C,d3,Bool.false_and]
   | true=>simp only [KZ,go_sem,↓reduceIte,hj,d0,hwn,A7 hwn,d1,hr,A7 hr,d2,g1,h0,AN C,d3,h6,Bool.true_and]
theorem HA (t:A1) (ht:A5 t) (s:A6) (hs:DL s) (ok:YU t s) (D:Rows) (p:Nat->Nat->Bool) {e:Nat} (he:e < t.nodes.length):VP V Mr [.fp (eVw t s D (Ak t.nodes.length p)) 0,.i .i64 e] Q↔Q (.b (AfO t s (Ak t.nodes.length p) e)):=by
 refine Ae ?_
 rw [Ad C.c_z64.1 C.c_z64.2]
 obtain ⟨H,hH⟩:∃ H,H=Ak t.nodes.length p:=⟨_,rfl⟩
 have hc:H.length=t.nodes.length:=by rw [hH,Aj]
 have h5:∀ r∈Ay (H.getD e 0#64),∃ m:Nat,r=m/\m < t.nodes.length:=fun r hr=>by
  obtain ⟨h1,h2⟩:=CN (B4.1 hr)
  obtain ⟨m,rfl⟩:=eq_ofNat_of_zero_le h1
  have h3:=B4.1 hr
  rw [AC,hH,getD_eq_getElem?_getD,Bm he,getD_some,Au] at h3
  simp only [and_eq_true,decide_eq_true_eq] at h3
  exact ⟨m,rfl,h3.1.1⟩
 rw [<- hH]
 have h4:e < H.length:=by omega
 have g1:=B9 (a:=H) (i:=e) h4
 have ha:=CO (H.getD e 0#64)
 obtain ⟨L,hL⟩:∃ L,L=Ay (H.getD e 0#64):=⟨_,rfl⟩
 unfold AfO
 rw [<- hL] at h5 ha ⊢
 have h6:=fun (Q:VV->Prop)=>CZ C (H.getD e 0#64) (Q:=Q)
 rw [<- hL] at h6
 simp only [A9m,go_sem,↓reduceIte,g1,h4,h6]
 refine Ag (by decide) L.length (by omega) (I:=fun k F h=>A4.tmp F 0 = .fp (eVw t s D H) 0/\A4.tmp F 1 = .i .i64 e/\A4.tmp F 14=lI L/\h=[]/\∀ x∈L.take k,A1a t s x.toNat e=false) ?_ ?_ 0 _ _ (by omega) ?_ ?_ ?_
 .rintro k F h hk h9 h8 ⟨p0,p1,h0,rfl,pr⟩
  obtain ⟨m,hm,h7⟩:=h5 _ (getElem_mem hk)
  have gK:L[k]? = some (m:Int):=by rw [getElem?_eq_getElem hk,hm]
  cases d:A1a t s m e with
  | true =>
   have hb:(L.all fun r=>!A1a t s r.toNat e)=false:=by
    rw [List.all_eq_false]
    exact ⟨_,getElem_mem hk,by rw [hm,toNat_natCast,d];decide⟩
   simp only [go_sem,↓reduceIte,h9,h8,p0,p1,h0,gK,hk,Pp C t ht s hs ok D H h7 he,d,hb,A0]
  | false =>
   simp only [go_sem,↓reduceIte,h9,h8,p0,p1,h0,gK,hk,Pp C t ht s hs ok D H h7 he,d,A0]
   intro x hx
   rw [List.take_succ_eq_append_getElem hk] at hx
   rcases List.mem_append.1 hx with hx | hx
   .exact pr x hx
   .rw [List.mem_singleton.1 hx,hm,toNat_natCast];exact d
 .rintro F h ⟨p0,p1,h0,rfl,pr⟩
  rw [take_length] at pr
  have hb:(L.all fun r=>!A1a t s r.toNat e)=true:=by
   rw [List.all_eq_true]
   exact fun x hx=>by rw [pr x hx];rfl
  simp only [go_sem,↓reduceIte,p0,p1,h0,hb]
 .simp only [go_sem,↓reduceIte]
 .simp only [go_sem,↓reduceIte]
 .simp only [go_sem,↓reduceIte]
omit C in
theorem AhP {p:Int->Bool} {l:List Int} {k:Nat} (hk:k < l.length):Cc ((l.take (k+1)).filter p)=if p l[k]=true then Cc ((l.take k).filter p) ||| C4 l[k] else Cc ((l.take k).filter p):=by
 rw [List.take_succ_eq_append_getElem hk,filter_append]
 cases c:p l[k] with
 | true =>
  rw [if_pos rfl,List.filter_cons_of_pos c,List.filter_nil]
  unfold Cc
  rw [List.foldl_append];rfl
 | false=>rw [if_neg (by decide),List.filter_cons_of_neg (by rw [c];decide),List.filter_nil,append_nil]
theorem A22 (t:A1) (s:A6) (hs:DL s) (D H:Rows) {g:Nat} {a c:List VV} (ha:Fz a) (hc:Fz c) (p:Int->Bool) (hp:∀ e∈s.has,VP V g (a++[.i .i64 e]++c) fun r=>r = .b (p e)) :
  VP V A5F [.fp (eVw t s D H) 0,.f g a c] Q↔Q (vW (Cc (s.has.filter p))):=by
 refine Ae ?_
 rw [Ad C.c_z68.1 C.c_z68.2]
 have g1:=hs.has
 simp only [A9p,go_sem,↓reduceIte]
 refine Ag (by decide) s.has.length (by omega) (I:=fun k F h=>A4.tmp F 1 = .f g a c/\A4.tmp F 12=lI s.has/\A4.tmp F 5=vW (Cc ((s.has.take k).filter p))/\h=[]) ?_ ?_ 0 _ _ (by omega) ?_ ?_ ?_
 .rintro k F h hk h4 h3 ⟨p1,h1,p5,rfl⟩
  have gK:s.has[k]? = some s.has[k]:=getElem?_eq_getElem hk
  have hq:=fun Q=>Ae (hp _ (getElem_mem hk)) (Q:=Q)
  have h2:=ha.call hc (h:=[]) (x:=[.i .i64 s.has[k]]) rfl
  simp only [append_assoc,cons_append,nil_append] at hq h2
  have h0:=AhP (p:=p) hk
  cases d:p s.has[k] with
  | true =>
   rw [d,if_pos rfl] at h0
   rw [d] at hq
   simp only [go_sem,↓reduceIte,h4,h3,p1,h1,p5,gK,hk,hq,h2,h0,C0 C,A0,Fz.bel ha,Fz.bel hc]
  | false =>
   rw [d,if_neg (by decide)] at h0
   rw [d] at hq
   simp only [go_sem,↓reduceIte,h4,h3,p1,h1,p5,gK,hk,hq,h2,h0,A0,Fz.bel ha,Fz.bel hc]
 .rintro F h ⟨p1,h1,p5,rfl⟩
  simp only [go_sem,↓reduceIte,p1,h1,p5,take_length]
 .simp only [go_sem,↓reduceIte]
 .simp only [go_sem,↓reduceIte]
 .simp only [go_sem,↓reduceIte,List.take_zero,List.filter_nil]
  rfl
end
def Bw (t:A1) (s:A6) (k a b:Nat):Bool:=(Bc (Cc s.has) a && Bc (Cc s.has) b && Ap t a b) || (List.range k).any fun i=>decide (s.jf.getD i 0=(a:Int)) && decide (s.has.getD i 0=(b:Int))
theorem A2a (t:A1) (s:A6) (k:Nat) {w n:Nat} (hw:s.jf.getD k 0=w) (hn:s.has.getD k 0=n):(fun a b=>Bw t s k a b || (decide (a=w) && decide (b=n)))=Bw t s (k+1):=by
 funext a b
 unfold Bw
 rw [range_succ,List.any_append,Bool.or_assoc]
 congr 2
 simp only [List.any_cons,any_nil,Bool.or_false,hw,hn]
 rw [Bool.eq_iff_iff]
 simp only [and_eq_true,decide_eq_true_eq]
 omega
theorem AaN (t:A1) (s:A6) (k:Nat) (hw:s.jf.getD k 0 < 0):Bw t s (k+1)=Bw t s k:=by
 funext a b
 unfold Bw
 rw [range_succ,List.any_append]
 congr 1
 have:decide (s.jf.getD k 0=(a:Int))=false:=decide_eq_false (by omega)
 simp only [List.any_cons,any_nil,this,Bool.false_and,Bool.or_false]
def vwB (t:A1) (s:A6) (d h:VV):Option VO:=some ⟨Xp,0,0,false,[[.i .i64 t.vals,lS t.locs,.ls (t.regs.map JE),.ls (t.nodes.map eN),lI s.has,lI s.jf,.ls (s.mo.map DD),vW (Cc s.has),lW (PB t),lW (LV t),d,h]]⟩
section
variable {V:At} (C:Aq V)
include C
theorem AaM (t:A1) (ht:A5 t) (s:A6) (hs:DL s) (hf:AG t s) (x0 x1 x3:Option VO) (d h:VV) {Q:VV->VH->Prop} :
  Hs V Vd [.p 2 0 0 0] [x0,x1,vwB t s d h,x3] Q↔Q (lW (Ak t.nodes.length (Bw t s s.has.length))) [x0,x1,vwB t s d h,x3]:=by
 refine Dn ?_
 rw [Cm C.h_z136]
 have h1:=ht.n64
 have g1:=hs.has
 have hb:Dk (LV t)=true:=CH h1 _
 have ha:Mj (LV t) (Cc s.has)=Ak t.nodes.length (Bw t s 0):=by
  rw [LV,Jm h1]
  refine Ci fun a b _ _=>?_
  simp [Bw]
 have h6:=fun (b:Nat) (Q:VV->VH->Prop)=>XZ C (LV t) hb (Cc s.has) b (Q:=Q)
 rw [ha,show (LV t).length=t.nodes.length from Aj] at h6
 simp only [ZC,go_sem,↓reduceIte,vwB,h6]
 obtain ⟨n,hn⟩:∃ n,n=t.nodes.length:=⟨_,rfl⟩
 rw [<- hn] at h1 ⊢
 refine Ag (by decide) s.has.length (by omega) (I:=fun k F h'=>A4.tmp F 0 = .p 2 0 0 0/\A4.tmp F 3 = .sl 4 0 0 n/\A4.tmp F 20=lI s.has/\h' = [x0,x1,vwB t s d h,x3,some ⟨AK,1,0,false,(Ak n (Bw t s k)).map eW⟩]) ?_ ?_ 0 _ _ (by omega) ?_ ?_ ?_
 .rintro k F h' hk h9 h8 ⟨p0,p3,h3,rfl⟩
  have gH:=Ar hk
  have h4:k < s.jf.length:=by rw [hf.jl];exact hk
  have gJ:=Ar h4
  obtain ⟨m,hm,h7⟩:=A8 (hf.node _ (Ai (d:=0) hk))
  rw [<- hn] at h7
  have hj:=hf.just k hk
  rw [hm] at gH hj
  by_cases c:(t.at m).kind=2
  .simp only [okJ,toNat_natCast,c,if_true,and_eq_true,A9] at hj
   obtain ⟨w,hw,h2⟩:=A8 (hf.node _ hj.1.1)
   rw [<- hn] at h2
   rw [hw] at gJ
   have d0:decide ((0:Int)<=(w:Int))=true:=decide_eq_true (by omega)
   have gW:=B9 (a:=Ak n (Bw t s k)) (i:=w) (by rw [Aj];exact h2)
   have h0:=Jv h1 (Bw t s k) h7 h2
   rw [A2a t s k hw hm] at h0
   have h5:∀ x,((Ak n (Bw t s k)).map eW).set w [vW x]=((Ak n (Bw t s k)).set w x).map eW:=fun x=>by rw [map_set]
   simp only [go_sem,↓reduceIte,h9,h8,p0,p3,h3,gH,gJ,hk,h4,d0,gW,h2,C0 C,h5,h0,Aj,length_map,vwB,A0]
  .simp only [okJ,toNat_natCast,c,if_false,decide_eq_true_eq] at hj
   rw [hj] at gJ
   rw [AaN t s k (by rw [hj];decide)]
   simp only [go_sem,↓reduceIte,h9,h8,p0,p3,h3,gH,gJ,hk,h4,vwB,A0]
 .rintro F h' ⟨p0,p3,h3,rfl⟩
  simp only [go_sem,↓reduceIte,p0,p3,h3,vwB,Aj,length_map,take_of_length_le (Nat.le_of_eq (Aj (n:=n) (p:=Bw t s s.has.length)))]
 .simp only [go_sem,↓reduceIte]
 .simp only [go_sem,↓reduceIte]
 .simp only [go_sem,↓reduceIte]
  rfl
end
def hbQ (t:A1) (s:A6) (a b:Nat):Bool:=((JP t s.has s.jf).getD a 0#64).getLsbD b
def Zg (t:A1) (s:A6) (e a:Nat):Bool:=hbQ t s a e || decide (e=a)
def YF (t:A1) (s:A6):Nat->Nat->Bool:=Y6 t.nodes.length fun a b=>Bw t s s.has.length b a
def QA (t:A1) (s:A6):List VV:=eVw t s (Ak t.nodes.length (Zg t s)) (Ak t.nodes.length (YF t s))
section
variable {V:At} (C:Aq V) {Q:VV->Prop}
include C
theorem NH (t:A1) (ht:A5 t) (s:A6) (hs:DL s) (hf:AG t s):VP V LN [vT t,Dy s] Q↔Q (.tu [.fp (QA t s) 0,.b true]):=by
 refine Ae ?_
 rw [Ad C.c_z66.1 C.c_z66.2]
 have h2:=ht.n64
 have h9:=AE.2 hf
 have he:=AJ h9
 have h7:=fun (Q:VV->Prop)=>A6d C t ht s.has s.jf hs.has hs.jf (Q:=Q)
 rw [hbF,if_pos he] at h7
 have hc:JP t s.has s.jf=Ak t.nodes.length (hbQ t s):=A60 h2 _
 rw [hc] at h7
 have hd:=fun (b:Nat) (Q:VV->VH->Prop)=>AaG C h2 (hbQ t s) b (Q:=Q)
 have h8:=fun (Q:VV->Prop)=>HC C t ht (Q:=Q)
 have hb:=fun (Q:VV->Prop)=>Xk C t ht (Q:=Q)
 rw [<- PB] at h8
 rw [<- LV] at hb
 have h5:=fun (Q:VV->Prop)=>Y5 C s hs (Q:=Q)
 have h1:=fun (x0 x1 x3:Option VO) (d h:VV) (Q:VV->VH->Prop)=>AaM C t ht s hs hf x0 x1 x3 d h (Q:=Q)
 have h3:=fun (Q:VV->Prop)=>A1V C h2 (Bw t s s.has.length) (Q:=Q)
 have h0:=fun (Q:VV->Prop)=>A7p C h2 (fun a b=>Bw t s s.has.length b a) (Q:=Q)
 rw [<- YF] at h0
 obtain ⟨w,hw⟩:∃ w:Int,vW (Cc s.has) = .i .u64 w:=⟨_,rfl⟩
 simp only [vwB,hw] at h5 h1
 unfold QA eVw
 rw [hw]
 obtain ⟨n,hn⟩:∃ n,n=t.nodes.length:=⟨_,rfl⟩
 simp only [A3v,go_sem,↓reduceIte,Dt C t ht s hs,h9,h5,h8,hb,h7,hd,show min 4 12=4 from rfl,show min 7 12=7 from rfl,show min 8 12=8 from rfl,show min 9 12=9 from rfl,show min 10 12=10 from rfl,Nat.reduceAdd,Nat.reduceSub]
 rw [<- hn] at h2 h1 h3 h0 ⊢
 have h6:Ak n (fun e a=>hbQ t s a e || (decide (e < n) && decide (e=a)))=Ak n (Zg t s):=Ci fun a b ha _=>by rw [decide_eq_true ha,Bool.true_and];rfl
 refine Ag (by decide) n (by omega) (I:=fun k F h=>A4.tmp F 6 = .p 2 0 0 0/\h=[some DW,some DW,some ⟨Xp,0,0,false,[[.i .i64 t.vals,lS t.locs,.ls (t.regs.map JE),.ls (t.nodes.map eN),lI s.has,lI s.jf,.ls (s.mo.map DD),.i .u64 w,lW (PB t),lW (LV t),.sl 3 0 0 n,.sl 1 0 0 0]]⟩,
  some ⟨AK,1,0,false,(Ak n fun e a=>hbQ t s a e || (decide (e < k) && decide (e=a))).map eW⟩]) ?_ ?_ 0 _ _ (by omega) ?_ ?_ ?_
 .rintro k F h hk hj hi ⟨p6,rfl⟩
  have gW:=B9 (a:=Ak n fun e a=>hbQ t s a e || (decide (e < k) && decide (e=a))) (i:=k) (by rw [Aj];exact hk)
  have h4:=Jv h2 (fun e a=>hbQ t s a e || (decide (e < k) && decide (e=a))) hk hk
  have hg:Ak n (fun j i=>(hbQ t s i j || (decide (j < k) && decide (j=i))) || (decide (j=k) && decide (i=k)))=Ak n fun e a=>hbQ t s a e || (decide (e < k+1) && decide (e=a)):=by
   congr 1
   funext j i
   rw [Bool.or_assoc]
   congr 1
   rw [Bool.eq_iff_iff]
   simp only [or_eq_true,and_eq_true,decide_eq_true_eq]
   omega
  rw [hg] at h4
  have hh:∀ w,((Ak n fun e a=>hbQ t s a e || (decide (e < k) && decide (e=a))).map eW).set k [vW w]=((Ak n fun e a=>hbQ t s a e || (decide (e < k) && decide (e=a))).set k w).map eW:=fun w=>by rw [map_set]
  simp only [go_sem,↓reduceIte,hj,hi,p6,hk,gW,C0 C,hh,h4,Aj,length_map,A0]
 .rintro F h ⟨p6,rfl⟩
  rw [h6]
  simp only [go_sem,↓reduceIte,p6,h1,h3,h0,Aj,length_map,take_of_length_le (Nat.le_of_eq (Aj (n:=n) (p:=Zg t s)))]
 .simp only [go_sem,↓reduceIte]
 .simp only [go_sem,↓reduceIte]
 .simp only [go_sem,↓reduceIte]
  rw [show Ak n (fun a b=>hbQ t s b a)=Ak n (fun e a=>hbQ t s a e || (decide (e < 0) && decide (e=a))) from Ci fun a b _ _=>by simp]
end
def dnR (t:A1) (s:A6):Rows:=Ak t.nodes.length (Zg t s)
def BR (t:A1) (s:A6) (a b:Nat):Bool:=XA t ((dnR t s).getD a 0#64) ((dnR t s).getD b 0#64)
def Es (t:A1) (s:A6) (e:Nat):Bool:=AfO t s (Ak t.nodes.length (YF t s)) e
def DH (t:A1) (s:A6):BitVec 64:=Cc (s.has.filter fun e=>Es t s e.toNat)
section
variable {V:At} (C:Aq V) {Q:VV->Prop}
include C
theorem K2 (t:A1) (ht:A5 t) (s:A6) (hs:DL s) (hf:AG t s) (ok:YU t s):VP V A5f [vT t,Dy s] Q↔Q (vW (DH t s)):=by
 refine Ae ?_
 rw [Ad C.c_z23.1 C.c_z23.2]
 have h1:=fun (Q:VV->Prop)=>NH C t ht s hs hf (Q:=Q)
 have h0:=fun (Q:VV->Prop)=>A22 C t s hs (dnR t s) (Ak t.nodes.length (YF t s)) (g:=Mr) (a:=[.fp (QA t s) 0]) (c:=[]) (fun _ _=>rfl) Fz.nil (fun e=>Es t s e.toNat) (fun e he=>by
  obtain ⟨m,rfl,hm⟩:=A8 (hf.node _ he)
  exact (HA C t ht s hs ok (dnR t s) (YF t s) hm).2 rfl) (Q:=Q)
 unfold QA at h1 h0
 simp only [A8Z,go_sem,↓reduceIte,h1]
 exact (h0 _).2 rfl
end
theorem A16 {t:A1} {s:A6} (hf:AG t s) {w:Int} (hw:w∈s.has) (hk:(t.at w.toNat).kind=3) (ht:A5 t):0<=(t.at w.toNat).loc/\(t.at w.toNat).loc < s.mo.length/\0<=Be s (t.at w.toNat).loc w/\Be s (t.at w.toNat).loc w < (s.mo.getD (t.at w.toNat).loc.toNat []).length /\
  w∈(s.mo.getD (t.at w.toNat).loc.toNat []).getD (Be s (t.at w.toNat).loc w).toNat []:=by
 obtain ⟨m,rfl,hm⟩:=A8 (hf.node w hw)
 rw [toNat_natCast] at hk ⊢
 have hl:=ht.wloc hm (.inr hk)
 have h6:=hf.ml
 obtain ⟨loc,h3⟩:=eq_ofNat_of_zero_le hl.1
 have ho:=hf.once _ hw (by rw [toNat_natCast];exact hk)
 rw [toNat_natCast] at ho
 rw [h3] at ho hl ⊢
 rw [toNat_natCast] at ho ⊢
 have h0:(s.mo.getD loc []).any (fun c=>AU c (m:Int))=true:=by
  rw [any_eq_true]
  obtain ⟨c,hc⟩:=List.exists_mem_of_length_pos (show 0 < ((s.mo.getD loc []).filter fun c=>AU c (m:Int)).length by omega)
  obtain ⟨h1,h2⟩:=List.mem_filter.1 hc
  exact ⟨c,h1,h2⟩
 obtain ⟨k,e,h4,hp,_⟩:=Kw h0
 have h5:Be s (loc:Int) (m:Int)=(k:Int):=by
  rw [Be,if_neg (by omega),toNat_natCast];exact e
 rw [h5,toNat_natCast]
 refine ⟨by omega,by omega,by omega,by omega,?_⟩
 rw [getD_eq_getElem?_getD,getElem?_eq_getElem h4]
 exact A9.1 hp
theorem A3B {t:A1} {s:A6} (hf:AG t s) (ht:A5 t) {loc:Nat} (hl:loc < s.mo.length) {c:List Int} (hc:c∈s.mo.getD loc []) {x:Int} (hx:x∈c):BP t x=true:=by
 have hm:=hf.mo loc hl
 simp only [Eh,and_eq_true,Ah,or_eq_true,decide_eq_true_eq] at hm
 obtain ⟨⟨_,h0⟩,h1⟩:=hm
 obtain ⟨i,hi,rfl⟩:=getElem_of_mem hc
 have hd:(s.mo.getD loc [])[i]=(s.mo.getD loc []).getD i []:=by rw [getD_eq_getElem?_getD (l:=s.mo.getD loc []),getElem?_eq_getElem hi];rfl
 rw [hd] at hx
 rcases h1 i hi with e | e
 .rw [e,h0] at hx
  rw [List.mem_singleton.1 hx]
  have:=hf.ml
  have:=ht.first.1
  exact BM (by omega)
 .simp only [CE,and_eq_true,Ah,BA,A9] at e
  obtain ⟨j,hj,rfl⟩:=getElem_of_mem hx
  have:=(e.2 j hj).1.1.1.1
  rw [getD_eq_getElem?_getD,getElem?_eq_getElem hj] at this
  exact hf.node _ this
theorem GV {t:A1} {s:A6} (hf:AG t s) (ht:A5 t):YU t s:=by
 refine ⟨fun r=>?_⟩
 have hF:=AY (AJ (AE.2 hf))
 rw [GH hF.len]
 by_cases hr:(r:Int)∈s.has
 .by_cases hk:(t.at r).kind=2
  .obtain ⟨h1,h2,h3⟩:=hF.read r hr (by rw [toNat_natCast];exact hk)
   obtain ⟨w,hw,h0⟩:=A8 (hf.node _ h1)
   rw [hw] at h1 h2 ⊢
   obtain ⟨a1,a2,a3,a4,a5⟩:=A16 hf h1 h2 ht
   rw [toNat_natCast] at a1 a2 a3 a4 a5
   refine .inr ⟨w,rfl,h0,a1,a2,a3,a4,fun c hc=>?_⟩
   refine A3B hf ht (loc:=(t.at w).loc.toNat) (by omega) (Ai (d:=[]) (k:=(Be s (t.at w).loc w).toNat) (by omega)) hc
  .left
   rw [hF.none r hr (by rw [toNat_natCast];exact hk)];decide
 .left
  rw [Ey,if_neg fun h=>hr (A9.1 h)];decide
theorem AgR {t:A1} (ht:A5 t) {A B:BitVec 64}:XA t A B=true↔∃ x y:Nat,x < t.nodes.length/\y < t.nodes.length/\A.getLsbD x=true/\B.getLsbD y=true/\AH t x y=true:=by
 have h4:=ht.n64
 have hl:(PB t).length=t.nodes.length:=Aj
 rw [XA,not_eq_true',decide_eq_false_iff_not]
 constructor
 .intro h
  apply Classical.byContradiction
  intro h5
  apply h
  apply B1
  intro j hj
  rw [getLsbD_and,show (0#64).getLsbD j=false by simp,Bool.eq_false_iff]
  intro hc
  rw [and_eq_true] at hc
  obtain ⟨i,hi,q1,q2⟩:=(Kx (a:=PB t) (by omega) _ j).1 hc.1
  rw [PB,getD_eq_getElem?_getD,Bm (by omega),getD_some,Au] at q2
  simp only [and_eq_true,decide_eq_true_eq] at q2
  exact h5 ⟨i,j,by omega,by omega,q1,hc.2,q2.1.2⟩
 .rintro ⟨x,y,hx,hy,h1,h2,h3⟩ h0
  have:(Eo (PB t) A &&& B).getLsbD y=true:=by
   rw [getLsbD_and,h2,Bool.and_true]
   refine (Kx (a:=PB t) (by omega) _ y).2 ⟨x,by omega,h1,?_⟩
   have:=Gq h4 hx hy (p:=fun a b=>AH t a b)
   rw [AC] at this
   rw [PB,this];exact h3
  rw [h0] at this
  simp at this
theorem Yz {t:A1} (ht:A5 t) {s:A6} {e a:Nat} (he:e < t.nodes.length):((dnR t s).getD e 0#64).getLsbD a=true↔a < t.nodes.length/\Zg t s e a=true:=by
 have h0:=ht.n64
 rw [dnR,getD_eq_getElem?_getD,Bm he,getD_some,Au]
 simp only [and_eq_true,decide_eq_true_eq]
 constructor
 .rintro ⟨⟨h1,h2⟩,_⟩;exact ⟨h1,h2⟩
 .rintro ⟨h1,h2⟩;exact ⟨⟨h1,h2⟩,by omega⟩
theorem JM {t:A1} (ht:A5 t) {s:A6} {a b:Nat} (ha:a < t.nodes.length) (hb:b < t.nodes.length):BR t s a b=true↔∃ x y:Nat,x < t.nodes.length/\y < t.nodes.length/\Zg t s a x=true/\Zg t s b y=true/\AH t x y=true:=by
 rw [BR,AgR ht]
 constructor
 .rintro ⟨x,y,hx,hy,h1,h2,h3⟩
  exact ⟨x,y,hx,hy,((Yz ht ha).1 h1).2,((Yz ht hb).1 h2).2,h3⟩
 .rintro ⟨x,y,hx,hy,h1,h2,h3⟩
  exact ⟨x,y,hx,hy,(Yz ht ha).2 ⟨hx,h1⟩,(Yz ht hb).2 ⟨hy,h2⟩,h3⟩
theorem Jh {t:A1} (ht:A5 t) {s:A6} (hf:AG t s) {n:Nat} (hn:n < t.nodes.length) (hu:(t.at n).up < 0):(n:Int)∈s.has:=by
 have h0:=ht.n64
 have hb:(Gc t).getLsbD n=true:=by rw [Gc,Au];simp [hn,hu];omega
 have:(Cc s.has).getLsbD n=true:=by rw [<- hf.init,getLsbD_or,hb];rfl
 have h2:=Lo s.has (x:=(n:Int)) (by omega) (by omega)
 rw [AC,this] at h2
 exact A9.1 h2.symm
theorem AjS {t:A1} (ht:A5 t) {s:A6} (hf:AG t s) {loc:Nat} (hl:loc < s.mo.length) {c:List Int} (hc:c∈s.mo.getD loc []) {x:Int} (hx:x∈c):x∈s.has:=by
 have hm:=hf.mo loc hl
 simp only [Eh,and_eq_true,Ah,or_eq_true,decide_eq_true_eq] at hm
 obtain ⟨⟨_,h0⟩,h1⟩:=hm
 obtain ⟨i,hi,rfl⟩:=getElem_of_mem hc
 have hd:(s.mo.getD loc [])[i]=(s.mo.getD loc []).getD i []:=by rw [getD_eq_getElem?_getD (l:=s.mo.getD loc []),getElem?_eq_getElem hi];rfl
 rw [hd] at hx
 rcases h1 i hi with e | e
 .rw [e,h0] at hx
  rw [List.mem_singleton.1 hx]
  have:=hf.ml
  have:=ht.first.1
  exact Jh ht hf (by omega) (by rw [(ht.init loc (by omega)).up];decide)
 .simp only [CE,and_eq_true,Ah,BA,A9] at e
  obtain ⟨j,hj,rfl⟩:=getElem_of_mem hx
  have:=(e.2 j hj).1.1.1.1
  rw [getD_eq_getElem?_getD,getElem?_eq_getElem hj] at this
  exact this
theorem AeH {t:A1} {s:A6} (h:AG t s) {n:Int} (hn:BP t n=true) (hno:n∉s.has) (hup:(t.at n.toNat).up∈s.has) (hk:(t.at n.toNat).kind=3) (ht:0<=(t.at n.toNat).thread) {loc k:Nat} (hl:(t.at n.toNat).loc=loc) (hll:loc < s.mo.length) (k1:1<=k) (k2:k<=(s.mo.getD loc []).length)
  (hin:∀ c∈s.mo.getD loc [],∀ x∈c,x∈s.has):AG t { B6 s n (-1) with mo:=s.mo.set loc ((s.mo.getD loc []).take k++[n]::(s.mo.getD loc []).drop k) }:=by
 have sub:∀ x,x∈s.has->x∈Bg s.has (Br s.has n) n:=fun x hx=>BX.2 (.inr hx)
 obtain ⟨L,hL⟩:∃ L,L=s.mo.getD loc []:=⟨_,rfl⟩
 have hm:=h.mo loc hll
 rw [<- hL] at k2 hin ⊢
 have h0:(s.mo.set loc (L.take k++[n]::L.drop k)).getD loc []=L.take k++[n]::L.drop k:=by rw [getD_eq_getElem?_getD (l:=s.mo.set _ _),getElem?_set,if_pos rfl,if_pos hll];rfl
 have h2:∀ j,j≠loc->(s.mo.set loc (L.take k++[n]::L.drop k)).getD j []=s.mo.getD j []:=fun j hj=>by rw [getD_eq_getElem?_getD (l:=s.mo.set _ _),getElem?_set,if_neg (Ne.symm hj),<- getD_eq_getElem?_getD]
 have h3:CE t [n] (Bg s.has (Br s.has n) n) loc=true:=by
  simp only [CE,and_eq_true,Ah,BA,A9,List.length_singleton]
  refine ⟨rfl,fun i hi=>?_⟩
  obtain rfl:i=0:=by omega
  refine ⟨⟨⟨⟨BX.2 (.inl rfl),rfl⟩,?_⟩,decide_eq_true ht⟩,fun k hk=>by omega⟩
  simp [HT,hk,hl]
 have h1:∀ p:List Int->Bool,((L.take k++[n]::L.drop k).filter p).length=(L.filter p).length+(if p [n]=true then 1 else 0):=fun p=>by
  have e:L.filter p=(L.take k).filter p++(L.drop k).filter p:=by rw [<- filter_append,List.take_append_drop]
  rw [e,filter_append,filter_cons,length_append,length_append]
  split
  .rw [length_cons];omega
  .omega
 have Cp:∀ i,i≠k->(L.take k++[n]::L.drop k).getD i []=L.getD (if i < k then i else i - 1) []:=fun i hi=>by
  have e:=Jj (y:=[n]) (d:=([]:List Int)) L k (if i < k then i else i - 1) k2
  by_cases c:i < k
  .rw [if_pos c] at e ⊢
   rwa [if_pos c] at e
  .rw [if_neg c] at e ⊢
   rwa [if_neg (show ¬ i - 1 < k by omega),show i - 1+1=i by omega] at e
 have h4:(L.take k++[n]::L.drop k).getD k []=[n]:=by
  rw [getD_eq_getElem?_getD,List.getElem?_append_right (by rw [length_take];omega),length_take,Nat.min_eq_left k2];simp
 refine Sd h hn hno hup (by simp [okJ,hk]) (by rw [length_set]) ?_ ?_ ?_
 .intro j hj
  by_cases c:j=loc
  .subst c
   simp only [Eh,h0,<- hL,and_eq_true,Ah,or_eq_true,not_eq_true',decide_eq_true_eq,decide_eq_false_iff_not] at hm ⊢
   obtain ⟨⟨m1,m2⟩,m3⟩:=hm
   refine ⟨⟨by simp,?_⟩,fun i hi=>?_⟩
   .rw [Cp 0 (by omega),if_pos (by omega)];exact m2
   .by_cases ci:i=k
    .rw [ci,h4];exact .inr h3
    .rw [Cp i ci]
     have h5:i < L.length+1:=by
      rw [length_append,length_cons,length_take,List.length_drop] at hi
      omega
     by_cases c:i < k
     .rw [if_pos c]
      rcases m3 i (by omega) with c | c
      .exact .inl c
      .exact .inr (EP sub c)
     .rw [if_neg c]
      rcases m3 (i - 1) (by omega) with d | d
      .omega
      .exact .inr (EP sub d)
  .have hm:=h.mo j hj
   simp only [Eh,h2 j c,and_eq_true,Ah,or_eq_true] at hm ⊢
   refine ⟨hm.1,fun i hi=>?_⟩
   rcases hm.2 i hi with d | d
   .exact .inl d
   .exact .inr (EP sub d)
 .intro x hx kx
  by_cases c:(t.at x.toNat).loc.toNat=loc
  .rw [c,h0,h1,<- hL]
   have:AU [n] x=false:=Bool.eq_false_iff.2 fun d=>hno (by rw [<- List.mem_singleton.1 (A9.1 d)];exact hx)
   rw [this];simp
  .rw [h2 _ c]
 .intro _
  rw [hl,toNat_natCast,h0,h1]
  have e:L.filter (fun c=>AU c n)=[]:=by
   rw [List.filter_eq_nil_iff]
   intro c hc d
   exact hno (hin c hc n (A9.1 d))
  rw [e]
  simp [AU]
structure Nxt (t:A1) (s s':A6) (n:Nat):Prop where
 has:∀ x,x∈s'.has↔x=(n:Int)\/x∈s.has
 no:(n:Int)∉s.has
 nl:n < t.nodes.length
 up:(t.at n).up∈s.has
 ext:Ext t s s'
 form:AG t s'
 src:(t.at n).kind=2->Ey s'.has s'.jf n∈s.has
 cls:∀ loc,∀ c∈s.mo.getD loc [],∃ c'∈s'.mo.getD loc [],∀ x∈c,x∈c'
theorem Lg {t:A1} {s s':A6} {n kind w:Int} (e:D6 t s n kind w=some s'):∃ m:Nat,n=m/\m < t.nodes.length/\(t.at m).kind=kind/\(m:Int)∉s.has/\(t.at m).up∈s.has/\s' = B6 s m w:=by
 unfold D6 at e
 split at e
 .rename_i h0
  cases e
  simp only [Cy,and_eq_true,not_eq_true',decide_eq_true_eq] at h0
  obtain ⟨⟨⟨⟨_,h1⟩,h2⟩,h3⟩,h4⟩:=h0
  obtain ⟨m,rfl,hm⟩:=A8 h1
  rw [toNat_natCast] at h2 h4
  exact ⟨m,rfl,hm,h2,(fun c=>by rw [A9.2 c] at h3;exact absurd h3 (by decide)),A9.1 h4,rfl⟩
 .cases e
theorem AcW {t:A1} {s s':A6} (hf:AG t s) {n:Int} (e:D6 t s n 4 (-1)=some s'):∃ m,Nxt t s s' m:=by
 obtain ⟨m,rfl,hm,hk,h0,h1,rfl⟩:=Lg e
 have h2:AG t (B6 s m (-1)):=Se hf (BM hm) h0 (by rw [toNat_natCast];exact h1) (by simp [okJ,hk]) (by rw [toNat_natCast];omega)
 exact ⟨m,fun x=>BX,h0,hm,h1,(Gi e).1,h2,fun c=>by omega,fun loc c hc=>⟨c,hc,fun _ h=>h⟩⟩
theorem Aau {t:A1} {s s':A6} (hf:AG t s) {n w:Int} (e:JZ t s n w=some s'):∃ m,Nxt t s s' m:=by
 have he:=(Aat e).1
 unfold JZ at e
 split at e
 .rename_i x hx
  split at e
  .rename_i h0
   cases e
   obtain ⟨m,rfl,hm,hk,h3,h4,rfl⟩:=Lg hx
   have h2:=AE.1 h0
   refine ⟨m,fun x=>BX,h3,hm,h4,he,h2,fun _=>?_,fun loc c hc=>⟨c,hc,fun _ h=>h⟩⟩
   have h1:=AY (AJ h0)
   obtain ⟨a,b,_⟩:=h1.read m (BX.2 (.inl rfl)) (by rw [toNat_natCast];exact hk)
   rcases BX.1 a with h | h
   .rw [h,toNat_natCast] at b;omega
   .exact h
  .cases e
 .cases e
theorem Xo {t:A1} (ht:A5 t) {s s':A6} (hf:AG t s) {n w:Int} (e:EM t s n w=some s'):∃ m,Nxt t s s' m:=by
 have he:=(NL e).1
 unfold EM at e
 split at e
 .rename_i x hx
  split at e
  .cases e
  .rename_i hw
   cases e
   obtain ⟨m,rfl,hm,hk,h3,h2,rfl⟩:=Lg hx
   have hl:=ht.wloc hm (.inr hk)
   obtain ⟨loc,h0⟩:=eq_ofNat_of_zero_le hl.1
   have h7:=hf.ml
   have h6:0<=(t.at m).thread:=by
    rcases Int.lt_or_le (t.at m).thread 0 with c | c
    .have h1:=(ht.thr_iff hm).1 c
     have:=(ht.init m h1).up
     have:=hf.node _ h2
     simp only [BP,and_eq_true,decide_eq_true_eq] at this
     omega
    .exact c
   simp only [toNat_natCast,h0] at he hw ⊢
   have hw:¬ (w < 1\/((s.mo.getD loc []).length:Int) < w):=hw
   have h5:∀ c∈s.mo.getD loc [],∀ x∈c,x∈s.has:=fun c hc x hx=>AjS ht hf (by omega) hc hx
   have h4:=AeH hf (n:=(m:Int)) (BM hm) h3 (by rw [toNat_natCast];exact h2) (by rw [toNat_natCast];exact hk) (by rw [toNat_natCast];exact h6) (loc:=loc) (k:=w.toNat) (by rw [toNat_natCast];exact h0) (by omega) (by omega) (by omega) h5
   refine ⟨m,fun x=>BX,h3,hm,h2,he,h4,fun c=>by omega,fun l c hc=>⟨c,?_,fun _ h=>h⟩⟩
   show c∈(s.mo.set loc _).getD l []
   by_cases cl:l=loc
   .subst cl
    rw [getD_eq_getElem?_getD (l:=s.mo.set _ _),getElem?_set,if_pos rfl,if_pos (by omega)]
    have:c∈(s.mo.getD l []).take w.toNat++(s.mo.getD l []).drop w.toNat:=by rw [List.take_append_drop];exact hc
    rw [mem_append] at this
    simp only [getD_some,mem_append,List.mem_cons]
    rcases this with h | h
    .exact .inl h
    .exact .inr (.inr h)
   .rw [getD_eq_getElem?_getD (l:=s.mo.set _ _),getElem?_set,if_neg (Ne.symm cl),<- getD_eq_getElem?_getD];exact hc
 .cases e
theorem Ahu {t:A1} {s s':A6} (hf:AG t s) {n w:Int} (e:P9 t s n w=some s'):∃ m,Nxt t s s' m:=by
 have he:=(Aa5 e).1
 unfold P9 at e
 split at e
 .rename_i x hx
  simp only at e
  split at e
  .cases e
  .rename_i hw
   split at e
   .rename_i h1
    cases e
    obtain ⟨m,rfl,hm,hk,h2,h3,rfl⟩:=Lg hx
    have h0:=AE.1 h1
    refine ⟨m,fun x=>BX,h2,hm,h3,he,h0,fun c=>by omega,fun l c hc=>?_⟩
    simp only [toNat_natCast] at hw ⊢
    show ∃ c'∈(s.mo.set (t.at m).loc.toNat _).getD l [],∀ x∈c,x∈c'
    by_cases cl:(t.at m).loc.toNat=l
    .subst cl
     by_cases hll:(t.at m).loc.toNat < s.mo.length
     .rw [getD_eq_getElem?_getD (l:=s.mo.set _ _),getElem?_set,if_pos rfl,if_pos hll,getD_some]
      obtain ⟨i,hi,rfl⟩:=getElem_of_mem hc
      refine ⟨((s.mo.getD (t.at m).loc.toNat []).set w.toNat _)[i]'(by rw [length_set];exact hi),getElem_mem _,fun x hx=>?_⟩
      rw [List.getElem_set]
      split
      .rename_i h
       subst h
       refine BX.2 (.inr ?_)
       show x∈(s.mo.getD (t.at m).loc.toNat []).getD w.toNat []
       rw [getD_eq_getElem?_getD (l:=s.mo.getD _ _),getElem?_eq_getElem hi];exact hx
      .exact hx
     .rw [getD_eq_getElem?_getD,List.getElem?_eq_none (by omega)] at hc
      cases hc
    .rw [getD_eq_getElem?_getD (l:=s.mo.set _ _),getElem?_set,if_neg cl,<- getD_eq_getElem?_getD]
     exact ⟨c,hc,fun _ h=>h⟩
   .cases e
 .cases e
theorem R8 {t:A1} (ht:A5 t) {s s':A6} (hf:AG t s) {a b:Nat} (e:Gk t s a b=some s'):∃ m,Nxt t s s' m:=by
 unfold Gk at e
 simp only at e
 split at e
 .cases e
 .split at e
  .exact AcW hf e
  .split at e
   .split at e
    .cases e
    .exact Aau hf e
   .split at e
    .split at e
     .rename_i s2 hj
      cases e;exact Ahu hf hj
     .exact Xo ht hf e
    .exact Xo ht hf e
theorem Co {t:A1} (ht:A5 t) (m:List U8):∀ k,AG t (BH t m k)
 | 0=>Ly ht
 | k+1=>by
  have ih:=Co ht m k
  cases e:Gk t (BH t m k) (KU m (2 * k)) (KU m (2 * k+1)) with
  | none=>rw [J5 e];exact ih
  | some s'=>rw [J6 e];obtain ⟨n,h⟩:=R8 ht ih e;exact h.form
theorem KG {t:A1} (ht:A5 t) {s:A6} (hf:AG t s) {a b:Nat}:Bw t s s.has.length b a=true↔(a:Int)∈s.has/\(((b:Int)∈s.has/\Ap t b a=true)\/Ey s.has s.jf a=b):=by
 have h0:=ht.n64
 have hF:=AY (AJ (AE.2 hf))
 have hn:Cu t s.has:=hf.node
 have hh:=fun (x:Nat)=>hn.has h0 (x:Int)
 simp only [Bw,hh,or_eq_true,and_eq_true,any_eq_true,List.mem_range,decide_eq_true_eq,A9]
 constructor
 .rintro (⟨⟨h1,h2⟩,h3⟩ | ⟨i,hi,h1,h2⟩)
  .exact ⟨h2,.inl ⟨h1,h3⟩⟩
  .have hm:=Ai (d:=0) hi
   have:=hF.at_ i hi
   rw [h2,h1] at this
   rw [h2] at hm
   exact ⟨hm,.inr this⟩
 .rintro ⟨h1,⟨h2,h3⟩ | h2⟩
  .exact .inl ⟨⟨h2,h1⟩,h3⟩
  .obtain ⟨i,hi,e⟩:=getElem_of_mem h1
   have hg:s.has.getD i 0=(a:Int):=by rw [getD_eq_getElem?_getD,getElem?_eq_getElem hi];exact e
   have:=hF.at_ i hi
   rw [hg,h2] at this
   exact .inr ⟨i,hi,this.symm,hg⟩
theorem A6F {t:A1} {s:A6} (hf:AG t s) (ht:A5 t) {w:Nat} (hw:(w:Int)∈s.has) (hk:(t.at w).kind=3):Yf t s w∈s.mo.getD (t.at w).loc.toNat []/\(w:Int)∈Yf t s w:=by
 obtain ⟨a1,a2,a3,a4,a5⟩:=A16 hf hw (by rw [toNat_natCast];exact hk) ht
 rw [toNat_natCast] at a1 a2 a3 a4 a5
 exact ⟨Ai (d:=[]) (k:=(Be s (t.at w).loc w).toNat) (by omega),a5⟩
structure Lst (t:A1) (s s':A6):Prop where
 has:∀ x,x∈s.has->x∈s'.has
 on:∀ x,x∈s.has->Ey s'.has s'.jf x=Ey s.has s.jf x
 dn:∀ e a:Nat,(e:Int)∈s.has->a < t.nodes.length->Zg t s' e a=Zg t s e a
 vis:∀ e:Nat,(e:Int)∈s.has->Es t s e=true->Es t s' e=true
theorem Lst.refl (t:A1) (s:A6):Lst t s s:=⟨fun _ h=>h,fun _ _=>rfl,fun _ _ _ _=>rfl,fun _ _ h=>h⟩
theorem Lst.trans {t:A1} {a b c:A6} (h:Lst t a b) (k:Lst t b c):Lst t a c :=
 ⟨fun x hx=>k.has x (h.has x hx),fun x hx=>(k.on x (h.has x hx)).trans (h.on x hx),fun e x he hx=>(k.dn e x (h.has _ he) hx).trans (h.dn e x he hx),fun e he hv=>k.vis e (h.has _ he) (h.vis e he hv)⟩
def JO (S:BitVec 64):Nat:=((List.range 64).filter fun j=>!S.getLsbD j).length
theorem A6T {α:Type} {p q:α->Bool} (h:∀ y,p y=true->q y=true):∀ l:List α,(l.filter p).length<=(l.filter q).length
 | []=>Nat.le_refl _
 | y::l=>by
  have ih:=A6T h l
  rw [filter_cons,filter_cons]
  cases c:p y with
  | true=>rw [if_pos rfl,if_pos (h y c),length_cons,length_cons];omega
  | false =>
   rw [if_neg (by decide)]
   split
   .rw [length_cons];omega
   .exact ih
theorem Adf {α:Type} {p q:α->Bool} (h:∀ y,p y=true->q y=true) {x:α} (hq:q x=true) (hp:p x=false):∀ {l:List α},x∈l->(l.filter p).length < (l.filter q).length
 | y::l,hx=>by
  rw [filter_cons,filter_cons]
  rcases List.mem_cons.1 hx with rfl | hx
  .have:=A6T h l
   rw [hp,hq,if_neg (by decide),if_pos rfl,length_cons];omega
  .have ih:=Adf h hq hp hx
   cases c:p y with
   | true=>rw [if_pos rfl,if_pos (h y c),length_cons,length_cons];omega
   | false =>
    rw [if_neg (by decide)]
    split
    .rw [length_cons];omega
    .exact ih
theorem A9T {S:BitVec 64} {n:Nat} (hn:n < 64) (h:S.getLsbD n=false):JO (S ||| C4 (n:Int)) < JO S:=by
 refine Adf (x:=n) (fun y hy=>?_) (by rw [h];rfl) ?_ (List.mem_range.2 hn)
 .rw [getLsbD_or,not_eq_true',Bool.or_eq_false_iff] at hy
  rw [hy.1];rfl
 .rw [getLsbD_or,Rc hn,decide_eq_true rfl,Bool.or_true];rfl
theorem AjV (S:BitVec 64):JO S<=64:=by
 refine Nat.le_trans (List.length_filter_le _ _) ?_
 simp
def Yo (t:A1) (s:A6) (n:Nat):List Int:=(if 0<=Qz s n then [Qz s n] else [])++(if 0<=(t.at n).up then [(t.at n).up] else [])++(if 0<=(t.at n).thread then (List.range t.locs.length).map fun (k:Nat)=>(k:Int) else [])
theorem AaO (t:A1) (ht:A5 t) (s:A6) (n:Nat):(Yo t s n).length<=6:=by
 have:=ht.l4
 unfold Yo
 split<;>split<;>split<;>simp<;>omega
theorem AbV {t:A1} (ht:A5 t) {s:A6} {e r:Nat} (he:e < t.nodes.length):YF t s e r=true↔HN (fun a b=>Bw t s s.has.length b a) t.nodes.length e r\/e=r:=by
 rw [YF,Y6,or_eq_true,decide_eq_true_eq,DY ht.n64 _ he]
section
variable {t:A1} (ht:A5 t) {s:A6} (hf:AG t s)
include ht hf
theorem Ail {n:Nat} (hn:(n:Int)∈s.has) {r:Int} (h:r∈Yo t s n):∃ m:Nat,r=m/\m < t.nodes.length/\(m:Int)∈s.has/\Bw t s s.has.length m n=true:=by
 have hF:=AY (AJ (AE.2 hf))
 obtain ⟨n',e,h2⟩:=A8 (hf.node _ hn)
 have e:n=n':=by omega
 subst e
 have fin:∀ m:Nat,(m:Int)∈s.has->(Ap t m n=true\/Ey s.has s.jf n=(m:Int))->∃ k:Nat,(m:Int)=k/\k < t.nodes.length/\(k:Int)∈s.has/\Bw t s s.has.length k n=true:=fun m hm h=>by
  obtain ⟨m',e,h3⟩:=A8 (hf.node _ hm)
  have e:m=m':=by omega
  subst e
  refine ⟨m,rfl,h3,hm,(KG ht hf).2 ⟨hn,?_⟩⟩
  rcases h with h | h
  .exact .inl ⟨hm,h⟩
  .exact .inr h
 simp only [Yo,mem_append] at h
 rcases h with (h | h) | h
 .split at h
  .rename_i c
   rw [List.mem_singleton] at h
   subst h
   have hk:(t.at n).kind=2:=by
    apply Classical.byContradiction
    intro hk
    have:=hF.none n hn (by rw [toNat_natCast];exact hk)
    rw [GH hF.len] at c
    omega
   obtain ⟨q1,_,_⟩:=hF.read n hn (by rw [toNat_natCast];exact hk)
   obtain ⟨w,hw,_⟩:=A8 (hf.node _ q1)
   rw [GH hF.len,hw]
   rw [hw] at q1
   exact fin w q1 (.inr hw)
  .cases h
 .split at h
  .rename_i c
   rw [List.mem_singleton] at h
   subst h
   have hu:=hf.up _ hn
   rw [toNat_natCast] at hu
   obtain ⟨u,h0⟩:=eq_ofNat_of_zero_le c
   rw [h0]
   have h4:(u:Int)∈s.has:=by
    rcases hu with h | h
    .omega
    .rw [<- h0];exact h
   have:=RM ht h2 c
   rw [h0] at this
   exact fin u h4 (.inl this)
  .cases h
 .split at h
  .rename_i c
   obtain ⟨k,hk,rfl⟩:=List.mem_map.1 h
   have hk:=List.mem_range.1 hk
   have I:=ht.init k hk
   have h1:k < t.nodes.length:=by have:=ht.first.1;omega
   refine fin k (Jh ht hf h1 (by rw [I.up];decide)) (.inl ?_)
   simp only [Ap,BM h1,BM h2,toNat_natCast,I.thr,Bool.true_and]
   rw [if_pos (by decide)]
   exact decide_eq_true c
  .cases h
theorem A2c {S:Nat->Prop} (hS:∀ n:Nat,S n->(n:Int)∈s.has->∀ r:Nat,(r:Int)∈Yo t s n->S r) {e r:Nat} (he:(e:Int)∈s.has) (h0:S e) (h:YF t s e r=true):S r/\(r:Int)∈s.has:=by
 have hF:=AY (AJ (AE.2 hf))
 obtain ⟨e',e1,h7⟩:=A8 (hf.node _ he)
 have e1:e=e':=by omega
 subst e1
 have up:∀ (N b:Nat),b < N->(b:Int)∈s.has->S b->∀ a:Nat,Aw t a b=true->S a/\(a:Int)∈s.has:=by
  intro N
  induction N with
  | zero=>intro b h;omega
  | succ N ih =>
   intro b hN hb h9 a h
   obtain ⟨b',e,h6⟩:=A8 (hf.node _ hb)
   have e:b=b':=by omega
   subst e
   have hh:=ht.up b h6
   rcases Int.lt_or_le (t.at b).up 0 with c | c
   .unfold Aw at h
    rw [Dc ht.up a (by omega),if_pos c] at h
    cases h
   .obtain ⟨m,hm⟩:=eq_ofNat_of_zero_le c
    have hu:=hf.up _ hb
    rw [toNat_natCast] at hu
    have h8:(m:Int)∈s.has:=by
     rcases hu with hu | hu
     .omega
     .rw [<- hm];exact hu
    have h4:S m:=hS b h9 hb m (by
     simp only [Yo,mem_append]
     left;right
     rw [if_pos c,hm];simp)
    rw [Dd ht.up h6 hm,or_eq_true,decide_eq_true_eq] at h
    rcases h with h | h
    .rw [<- h];exact ⟨h4,h8⟩
    .exact ih m (by omega) h8 h4 a h
 have one:∀ {a b:Nat},S a->(a:Int)∈s.has->a < t.nodes.length->Bw t s s.has.length b a=true->S b/\(b:Int)∈s.has:=fun {a b} ha hi hal h=>by
  obtain ⟨_,⟨h1,h2⟩ | h⟩:=(KG ht hf).1 h
  .refine ⟨?_,h1⟩
   have h5:=h2
   simp only [Ap,and_eq_true,toNat_natCast] at h5
   obtain ⟨⟨n1,n2⟩,h3⟩:=h5
   simp only [BP,and_eq_true,decide_eq_true_eq] at n1 n2
   by_cases c:(t.at b).thread < 0
   .rw [if_pos c,decide_eq_true_eq] at h3
    have hd:=(ht.thr_iff (m:=b) (by omega)).1 c
    refine hS a ha hi b ?_
    simp only [Yo,mem_append]
    right
    rw [if_pos h3]
    exact List.mem_map.2 ⟨b,List.mem_range.2 hd,rfl⟩
   .rw [if_neg c] at h3
    exact (up _ a (Nat.lt_succ_self _) hi ha b h3).1
  .have hk:(t.at a).kind=2:=by
    apply Classical.byContradiction
    intro hk
    have:=hF.none a hi (by rw [toNat_natCast];exact hk)
    omega
   obtain ⟨q1,_,_⟩:=hF.read a hi (by rw [toNat_natCast];exact hk)
   rw [h] at q1
   refine ⟨hS a ha hi b ?_,q1⟩
   simp only [Yo,mem_append]
   left;left
   rw [GH hF.len,h,if_pos (by omega)];simp
 rw [AbV ht h7] at h
 rcases h with h | h
 .have hg:∀ {r:Nat},HN (fun a b=>Bw t s s.has.length b a) t.nodes.length e r->S r/\(r:Int)∈s.has/\r < t.nodes.length:=by
   intro r h
   induction h with
   | one hb h=>obtain ⟨a,b⟩:=one h0 he h7 h;exact ⟨a,b,hb⟩
   | more _ hc h ih=>obtain ⟨a,b⟩:=one ih.1 ih.2.1 ih.2.2 h;exact ⟨a,b,hc⟩
  have:=hg h
  exact ⟨this.1,this.2.1⟩
 .rw [<- h];exact ⟨h0,he⟩
end
def My (R:Rows) (e k:Nat):List Int:=((List.range k).filter fun i=>!decide (i=e) && Bc (R.getD i 0#64) (e:Int)).map fun (i:Nat)=>(i:Int)
def Mx (R:Rows) (e:Nat):List Int:=(e:Int)::My R e R.length
theorem AlH {R:Rows} {e k:Nat} (h1:decide (k=e)=false) (h2:Bc (R.getD k 0#64) (e:Int)=true):My R e (k+1)=My R e k++[(k:Int)]:=by
 rw [My,range_succ,filter_append,List.filter_cons_of_pos (by rw [h1,h2];rfl),List.filter_nil,map_append];rfl
theorem AdJ {R:Rows} {e k:Nat} (h:(!decide (k=e) && Bc (R.getD k 0#64) (e:Int))=false):My R e (k+1)=My R e k:=by
 rw [My,range_succ,filter_append,List.filter_cons_of_neg (by rw [h];decide),List.filter_nil,append_nil];rfl
theorem ND (R:Rows) (e k:Nat):(My R e k).length<=k:=by
 rw [My,length_map];refine Nat.le_trans (List.length_filter_le _ _) ?_;simp
def PU (t:A1) (a b:List Int):Bool:=a.any fun x=>b.any fun y=>AH t x y
section
variable {V:At} (C:Aq V) {Q:VV->Prop}
include C
theorem Lt (R:Rows) (hR:R.length<=64) (e:Nat) (he:e < 64):VP V A5A [lW R,.i .i64 e] Q↔Q (lI (Mx R e)):=by
 refine Ae ?_
 rw [Ad C.c_z61.1 C.c_z61.2]
 simp only [A9j,go_sem,↓reduceIte]
 refine Ab (by decide) R.length (by omega) (I:=fun k F h=>A4.tmp F 0=lW R/\A4.tmp F 1 = .i .i64 e/\∃ L,L=My R e k/\A4.tmp F 5 = .sl 0 L.length 0 (L.length+1)/\h=[some ⟨AO,1,L.length,false,((e:Int)::L).map eI⟩]) ?_ ?_ ?_ 0 _ _ (zero_le _) ?_ ?_
 .rintro k F h hk p6 ⟨p0,p1,L,hL,p5,rfl⟩
  simp only [go_sem,↓reduceIte,p0,p1,p5,p6]
  exact ⟨L,hL,rfl,rfl⟩
 .rintro k F h hk p6 ⟨p0,p1,L,hL,p5,rfl⟩
  have h2:=ND R e k
  have b1:(L.length+1+1) * 8<=Aa:=by rw [hL];unfold Aa;omega
  have h1:decide ((k:Int)=(e:Int))=decide (k=e):=decide_eq_decide.2 ⟨fun h=>by omega,fun h=>by omega⟩
  have h0:=fun (Q:VV->Prop)=>A61 C R (k:Int) (e:Int) (by omega) (Q:=Q)
  rw [decide_eq_true (show (0:Int)<=(k:Int) by omega),Bool.true_and,toNat_natCast] at h0
  cases c1:decide (k=e) with
  | true =>
   simp only [go_sem,↓reduceIte,p0,p1,p5,p6,hk,h1,c1,A0]
   exact ⟨L,by rw [AdJ (by rw [c1];rfl)];exact hL,rfl,rfl⟩
  | false =>
  cases c2:Bc (R.getD k 0#64) (e:Int) with
  | false =>
   simp only [go_sem,↓reduceIte,p0,p1,p5,p6,hk,h1,c1,h0,c2,A0]
   exact ⟨L,by rw [AdJ (by rw [c2,Bool.and_false])];exact hL,rfl,rfl⟩
  | true =>
   simp only [go_sem,↓reduceIte,p0,p1,p5,p6,hk,h1,c1,h0,c2,b1,length_map,length_cons,A0]
   refine ⟨L++[(k:Int)],by rw [AlH c1 c2,hL],by simp,?_⟩
   simp
 .rintro F h ⟨p0,p1,L,hL,p5,rfl⟩
  subst hL
  simp only [go_sem,↓reduceIte,p0,p1,p5,length_map,length_cons]
  rfl
 .simp only [go_sem,↓reduceIte]
 .simp only [go_sem,↓reduceIte]
  exact ⟨[],rfl,rfl,rfl,rfl⟩
theorem Kk (t:A1) (hu:Kt t) (a b:List Int) (ha:a.length<=1000) (hb:b.length<=1000):VP V A5C [vT t,lI a,lI b] Q↔Q (.b (PU t a b)):=by
 refine Ae ?_
 rw [Ad C.c_z63.1 C.c_z63.2]
 have h1:=fun (x y:Int) (Q:VV->Prop)=>Ez C t hu x y (Q:=Q)
 have h2:(∀ i,i < a.length->∀ k,k < b.length->AH t (a.getD i 0) (b.getD k 0)=false)->PU t a b=false:=fun h=>by
  rw [PU,List.any_eq_false]
  intro x hx
  rw [Bool.not_eq_true,List.any_eq_false]
  intro y hy
  obtain ⟨i,hi,rfl⟩:=getElem_of_mem hx
  obtain ⟨k,hk,rfl⟩:=getElem_of_mem hy
  have:=h i hi k hk
  rw [getD_eq_getElem?_getD,getElem?_eq_getElem hi,getD_eq_getElem?_getD,getElem?_eq_getElem hk] at this
  rw [Bool.not_eq_true];exact this
 have h0:∀ {i k:Nat},i < a.length->k < b.length->AH t (a.getD i 0) (b.getD k 0)=true->PU t a b=true:=fun hi hk h=>by
  rw [PU,any_eq_true]
  refine ⟨_,Ai (d:=0) hi,?_⟩
  rw [any_eq_true]
  exact ⟨_,Ai (d:=0) hk,h⟩
 simp only [A9l,go_sem,↓reduceIte]
 refine Ab (by decide) a.length (by omega) (I:=fun i F h=>A4.tmp F 1=lI a/\A4.tmp F 2=lI b/\A4.tmp F 3 = .fp (eT t) 0/\h=[]/\∀ j,j < i->∀ k,k < b.length->AH t (a.getD j 0) (b.getD k 0)=false) ?_ ?_ ?_ 0 _ _ (zero_le _) ?_ ?_
 .rintro i F h hi p7 ⟨p1,p2,p3,rfl,pr⟩
  simp only [go_sem,↓reduceIte,p7,p1,p2,p3]
  exact pr
 .rintro i F h hi p7 ⟨p1,p2,p3,rfl,pr⟩
  have gA:=Ar hi
  simp only [go_sem,↓reduceIte,p7,p1,p2,p3,A0]
  refine Ab (by decide) b.length (by omega) (I:=fun k F h=>A4.tmp F 7 = .i .i64 i/\A4.tmp F 1=lI a/\A4.tmp F 2=lI b/\A4.tmp F 3 = .fp (eT t) 0/\h=[]/\∀ j,j < k->AH t (a.getD i 0) (b.getD j 0)=false) ?_ ?_ ?_ 0 _ _ (zero_le _) ?_ ?_
  .rintro k F h hk q8 ⟨q7,q1,q2,q3,rfl,qr⟩
   simp only [go_sem,↓reduceIte,q8,q7,q1,q2,q3]
   exact qr
  .rintro k F h hk q8 ⟨q7,q1,q2,q3,rfl,qr⟩
   have gB:=Ar hk
   cases d:AH t (a.getD i 0) (b.getD k 0) with
   | true =>
    have hb:=h0 hi hk d
    simp only [go_sem,↓reduceIte,q8,q7,q1,q2,q3,gA,gB,hi,hk,h1,d,hb,A0]
   | false =>
    simp only [go_sem,↓reduceIte,q8,q7,q1,q2,q3,gA,gB,hi,hk,h1,d,A0]
    intro j hj
    rcases lt_or_ge j k with c | c
    .exact qr j c
    .rw [show j=k by omega];exact d
  .rintro F h ⟨q7,q1,q2,q3,rfl,qr⟩
   simp only [go_sem,↓reduceIte,q7,q1,q2,q3]
   intro j hj
   rcases lt_or_ge j i with c | c
   .exact pr j c
   .rw [show j=i by omega];exact qr
  .simp only [go_sem,↓reduceIte]
  .simp only [go_sem,↓reduceIte,p7,p1,p2,p3]
   intro j hj;omega
 .rintro F h ⟨p1,p2,p3,rfl,pr⟩
  have hb:=h2 pr
  simp only [go_sem,↓reduceIte,p1,p2,p3,hb]
 .simp only [go_sem,↓reduceIte]
 .simp only [go_sem,↓reduceIte]
  intro j hj;omega
end
def hgW (t:A1) (s:A6) (e:Nat):BitVec 64:=(Ak t.nodes.length (YF t s)).getD e 0#64
def HgK (L:List Int) (v k:Nat) (K:List Int) (w:Nat):Prop:=K=L++(List.range k).map (fun (k:Nat)=>(k:Int))/\w=v+k
structure HgI (t:A1) (s:A6) (e:Nat) (S:BitVec 64) (L:List Int) (i:Nat):Prop where
 le:i<=L.length
 reach:∀ x∈L,∃ m:Nat,x=m/\m < t.nodes.length/\(m:Int)∈s.has/\YF t s e m=true
 done:∀ j,j < i->S.getLsbD (L.getD j 0).toNat=true
 sub:∀ m:Nat,S.getLsbD m=true->YF t s e m=true/\m < t.nodes.length
 clo:∀ m:Nat,S.getLsbD m=true->∀ r∈Yo t s m,r∈L
 first:(e:Int)∈L
 size:L.length+6 * JO S<=1+6 * 64
section
variable {t:A1} (ht:A5 t) {s:A6} (hf:AG t s) {e:Nat} (he:(e:Int)∈s.has) {S:BitVec 64} {L:List Int} {i:Nat} (I:HgI t s e S L i)
include ht hf he I
theorem HgI.skip (hi:i < L.length) {m:Nat} (hm:L.getD i 0=(m:Int)) (h:S.getLsbD m=true):HgI t s e S L (i+1) :=
 ⟨hi,I.reach,fun j hj=>by
  by_cases c:j=i
  .rw [c,hm];exact h
  .exact I.done j (by omega),I.sub,I.clo,I.first,I.size⟩
theorem HgI.put (hi:i < L.length) {m:Nat} (hm:L.getD i 0=(m:Int)) (h:S.getLsbD m=false):HgI t s e (S ||| C4 (m:Int)) (L++Yo t s m) (i+1):=by
 have hc:=ht.n64
 obtain ⟨m',e1,h9,h8,h4⟩:=I.reach _ (Ai (d:=0) hi)
 rw [hm] at e1
 have e1:m=m':=by omega
 subst e1
 have h7:e < t.nodes.length:=by
  obtain ⟨_,e2,h2⟩:=A8 (hf.node _ he);omega
 have hb:∀ x:Nat,(S ||| C4 (m:Int)).getLsbD x=true↔S.getLsbD x=true\/x=m:=fun x=>by
  rw [getLsbD_or,or_eq_true,CT]
  simp only [decide_eq_true_eq]
  constructor
  .rintro (h | h)
   .exact .inl h
   .exact .inr (by omega)
  .rintro (h | h)
   .exact .inl h
   .exact .inr ⟨by omega,by omega⟩
 have h0:∀ j,j < L.length->(L++Yo t s m).getD j 0=L.getD j 0:=fun j hj=>by
  rw [getD_eq_getElem?_getD,List.getElem?_append_left hj,<- getD_eq_getElem?_getD]
 refine ⟨by rw [length_append];omega,fun x hx=>?_,fun j hj=>?_,fun x hx=>?_,fun x hx r hr=>?_,List.mem_append_left _ I.first,?_⟩
 .rcases List.mem_append.1 hx with hx | hx
  .exact I.reach x hx
  .obtain ⟨r,rfl,h5,ha,h6⟩:=Ail ht hf h8 hx
   refine ⟨r,rfl,h5,ha,?_⟩
   rw [AbV ht h7] at h4 ⊢
   left
   rcases h4 with h | h
   .exact .more h h5 h6
   .rw [h];exact .one h5 h6
 .rw [h0 j (by omega),hb]
  by_cases c:j=i
  .right;rw [c,hm,toNat_natCast]
  .exact .inl (I.done j (by omega))
 .rcases (hb x).1 hx with h | h
  .exact I.sub x h
  .rw [h];exact ⟨h4,h9⟩
 .rcases (hb x).1 hx with h | h
  .exact List.mem_append_left _ (I.clo x h r hr)
  .rw [h] at hr;exact List.mem_append_right _ hr
 .have h1:=A9T (S:=S) (n:=m) (by omega) h
  have h2:=AaO t ht s m
  have h3:=I.size
  rw [length_append];omega
theorem HgI.fin (hi:¬ i < L.length):S=hgW t s e:=by
 have h3:=ht.n64
 have h1:e < t.nodes.length:=by
  obtain ⟨_,e2,h2⟩:=A8 (hf.node _ he);omega
 have h0:∀ r:Nat,(r:Int)∈L->S.getLsbD r=true:=fun r hr=>by
  obtain ⟨j,hj,ej⟩:=getElem_of_mem hr
  have:=I.done j (by have:=I.le;omega)
  rw [getD_eq_getElem?_getD,getElem?_eq_getElem hj,getD_some,ej,toNat_natCast] at this
  exact this
 apply B1
 intro j hj
 rw [hgW,getD_eq_getElem?_getD,Bm h1,getD_some,Au,decide_eq_true hj,Bool.and_true,Bool.eq_iff_iff,and_eq_true,decide_eq_true_eq]
 constructor
 .intro h
  exact ⟨(I.sub j h).2,(I.sub j h).1⟩
 .rintro ⟨_,h⟩
  exact (A2c ht hf (S:=fun m=>S.getLsbD m=true) (fun n hn _ r hr=>h0 r (I.clo n hn _ hr)) he (h0 e I.first) h).1
end
section
variable {V:At} (C:Aq V) {Q:VV->Prop}
include C
theorem A2N (t:A1) (ht:A5 t) (s:A6) (hs:DL s) (hf:AG t s) {e:Nat} (he:(e:Int)∈s.has):VP V V3 [vT t,Dy s,.i .i64 e] Q↔Q (vW (hgW t s e)):=by
 refine Ae ?_
 rw [Ad C.c_z126.1 C.c_z126.2]
 have h9:=ht.n64
 have l4:=ht.l4
 obtain ⟨e',e1,h7⟩:=A8 (hf.node _ he)
 have e1:e=e':=by omega
 subst e1
 simp only [Zw,go_sem,↓reduceIte]
 unfold VL
 rw [A0]
 refine AT (M:=Nat) (I:=fun x F h=>A4.tmp F 3 = .fp (eT t) 0/\A4.tmp F 4 = .fp (Je s) 0/\∃ S L i v,HgI t s e S L i/\L.length=v+1/\x=8 * JO S+(L.length - i)/\A4.tmp F 7=vW S/\A4.tmp F 8 = .sl 0 v 0 (v+1)/\A4.tmp F 9 = .i .i64 (i:Nat)/\h=[some ⟨AO,1,v,false,L.map eI⟩]) (μ:=fun x=>x) ?_ (8 * JO 0#64+1) _ _ ⟨?_,?_,0#64,[(e:Int)],0,0,?_,rfl,rfl,?_,?_,?_,?_⟩
 .rintro x F h ⟨p3,p4,S,L,i,v,I,hv,hx,p7,p8,p9,rfl⟩
  have ha:L.length<=385:=by have:=I.size;omega
  have h5:(L.map eI).length=v+1:=by rw [length_map];exact hv
  by_cases c:i < L.length
  .obtain ⟨m,hm,h1,hc,hd⟩:=I.reach _ (Ai (d:=0) c)
   have gL:=Ar c
   rw [hm] at gL
   have ci:decide ((i:Int) < ((v+1:Nat):Int))=true:=decide_eq_true (by omega)
   have cj:decide (i < v+1)=true:=decide_eq_true (by omega)
   have cv:i < v+1:=by omega
   have wi:IntKind.i64.wrap ((i:Int)+1)=((i+1:Nat):Int):=by rw [Az (by omega) (by omega)];omega
   cases d:Bc S (m:Int) with
   | true =>
    simp only [Gd,go_sem,↓reduceIte,p3,p4,p7,p8,p9,c,ci,cj,cv,hv,gL,B2 C,d,wi,A0]
    rw [AC] at d
    exact ⟨_,by omega,S,L,i+1,I.skip ht hf he c hm d,v,hv,rfl,rfl,rfl,rfl,rfl⟩
   | false =>
    have d':=d
    rw [AC] at d'
    have P:=I.put ht hf he c hm d'
    have hb:=A9T (S:=S) (n:=m) (by omega) d'
    have hg:=AaO t ht s m
    have hj:=fun (Q:VV->Prop)=>A1M C s hs (m:Int) (Q:=Q)
    have b1:(v+1+1) * 8<=Aa:=by unfold Aa;omega
    have b2:(v+1+1+1) * 8<=Aa:=by unfold Aa;omega
    obtain ⟨j,h8⟩:∃ j,j=Qz s m:=⟨_,rfl⟩
    rw [<- h8] at hj
    have h0:Yo t s m=(if 0<=j then [j] else [])++(if 0<=(t.at m).up then [(t.at m).up] else [])++(if 0<=(t.at m).thread then (List.range t.locs.length).map fun (k:Nat)=>(k:Int) else []):=by rw [h8];rfl
    rcases Int.lt_or_le j 0 with c1 | c1
    .have d1:decide (0<=j)=false:=decide_eq_false (by omega)
     rw [if_neg (by omega)] at h0
     rcases Int.lt_or_le (t.at m).up 0 with c2 | c2
     .have d2:decide (0<=(t.at m).up)=false:=decide_eq_false (by omega)
      rw [if_neg (by omega)] at h0
      rcases Int.lt_or_le (t.at m).thread 0 with c3 | c3
      .have d3:decide (0<=(t.at m).thread)=false:=decide_eq_false (by omega)
       rw [if_neg (by omega)] at h0
       simp only [Gd,go_sem,↓reduceIte,p3,p4,p7,p8,p9,c,ci,cj,cv,hv,gL,B2 C,Bi C,d,wi,hj,d1,d2,h1,A7 h1,b1,b2,h5,Du,length_append,length_map,A0,d3]
       rw [h0] at P
       simp only [append_nil,nil_append,append_assoc,cons_append] at P
       exact ⟨8 * JO (S ||| C4 (m:Int))+((L).length - (i+1)),by (try simp only [length_append,length_cons,length_nil]);omega,_,_,i+1,P,v,by (try simp only [length_append,length_cons,length_nil]);omega,rfl,rfl,rfl,rfl,rfl⟩
      .have d3:decide (0<=(t.at m).thread)=true:=decide_eq_true c3
       rw [if_pos c3] at h0
       simp only [Gd,go_sem,↓reduceIte,p3,p4,p7,p8,p9,c,ci,cj,cv,hv,gL,B2 C,Bi C,d,wi,hj,d1,d2,h1,A7 h1,b1,b2,h5,Du,length_append,length_map,A0,d3]
       refine Ab (by decide) t.locs.length (by omega) (I:=fun k F h=>A4.tmp F 3 = .fp (eT t) 0/\A4.tmp F 4 = .fp (Je s) 0/\A4.tmp F 7=vW (S ||| C4 (m:Int))/\A4.tmp F 9 = .i .i64 (i:Nat)/\∃ K v',HgK (L) (v) k K v'/\A4.tmp F 8 = .sl 0 v' 0 (v' + 1)/\h=[some ⟨AO,1,v',false,K.map eI⟩]) ?_ ?_ ?_ 0 _ _ (zero_le _) ?_ ?_
       .rintro k F h hk h3 ⟨q3,q4,q7,q9,K,v',hK,q8,rfl⟩
        simp only [go_sem,↓reduceIte,h3,q3,q4,q7,q8,q9]
        exact ⟨K,v',hK,rfl,rfl⟩
       .rintro k F h hk h3 ⟨q3,q4,q7,q9,K,v',hK,q8,rfl⟩
        have h6:=hK.2
        have h2:(K.map eI).length=v' + 1:=by rw [length_map,hK.1];simp only [length_append,length_cons,length_nil,length_map,List.length_range];omega
        have b3:(v' + 1+1) * 8<=Aa:=by unfold Aa;omega
        simp only [go_sem,↓reduceIte,h3,q3,q4,q7,q8,q9,h2,b3,Du,A0]
        exact ⟨K++[(k:Int)],v' + 1,⟨by rw [hK.1,range_succ,map_append,<- append_assoc];rfl,by omega⟩,rfl,rfl⟩
       .rintro F h ⟨q3,q4,q7,q9,K,v',hK,q8,rfl⟩
        have h6:=hK.2
        have h2:K.length=v' + 1:=by rw [hK.1];simp only [length_append,length_cons,length_nil,length_map,List.length_range];omega
        rw [h0] at P
        simp only [append_nil,nil_append,append_assoc,cons_append] at P
        have h4:=hK.1
        (try simp only [append_assoc,cons_append,nil_append] at h4)
        rw [<- h4] at P
        simp only [go_sem,↓reduceIte,q3,q4,q7,q8,q9,wi]
        exact ⟨8 * JO (S ||| C4 (m:Int))+(K.length - (i+1)),by omega,_,K,i+1,P,v',h2,rfl,rfl,rfl,rfl,rfl⟩
       .simp only [go_sem,↓reduceIte]
       .simp only [go_sem,↓reduceIte,p3,p4,p8,p9]
        exact ⟨_,_,⟨by rw [List.range_zero,map_nil,append_nil],rfl⟩,rfl,rfl⟩
     .have d2:decide (0<=(t.at m).up)=true:=decide_eq_true c2
      rw [if_pos c2] at h0
      rcases Int.lt_or_le (t.at m).thread 0 with c3 | c3
      .have d3:decide (0<=(t.at m).thread)=false:=decide_eq_false (by omega)
       rw [if_neg (by omega)] at h0
       simp only [Gd,go_sem,↓reduceIte,p3,p4,p7,p8,p9,c,ci,cj,cv,hv,gL,B2 C,Bi C,d,wi,hj,d1,d2,h1,A7 h1,b1,b2,h5,Du,length_append,length_map,A0,d3]
       rw [h0] at P
       simp only [append_nil,nil_append,append_assoc,cons_append] at P
       exact ⟨8 * JO (S ||| C4 (m:Int))+((L++[(t.at m).up]).length - (i+1)),by (try simp only [length_append,length_cons,length_nil]);omega,_,_,i+1,P,v+1,by (try simp only [length_append,length_cons,length_nil]);omega,rfl,rfl,rfl,rfl,rfl⟩
      .have d3:decide (0<=(t.at m).thread)=true:=decide_eq_true c3
       rw [if_pos c3] at h0
       simp only [Gd,go_sem,↓reduceIte,p3,p4,p7,p8,p9,c,ci,cj,cv,hv,gL,B2 C,Bi C,d,wi,hj,d1,d2,h1,A7 h1,b1,b2,h5,Du,length_append,length_map,A0,d3]
       refine Ab (by decide) t.locs.length (by omega) (I:=fun k F h=>A4.tmp F 3 = .fp (eT t) 0/\A4.tmp F 4 = .fp (Je s) 0/\A4.tmp F 7=vW (S ||| C4 (m:Int))/\A4.tmp F 9 = .i .i64 (i:Nat)/\∃ K v',HgK (L++[(t.at m).up]) (v+1) k K v'/\A4.tmp F 8 = .sl 0 v' 0 (v' + 1)/\h=[some ⟨AO,1,v',false,K.map eI⟩]) ?_ ?_ ?_ 0 _ _ (zero_le _) ?_ ?_
       .rintro k F h hk h3 ⟨q3,q4,q7,q9,K,v',hK,q8,rfl⟩
        simp only [go_sem,↓reduceIte,h3,q3,q4,q7,q8,q9]
        exact ⟨K,v',hK,rfl,rfl⟩
       .rintro k F h hk h3 ⟨q3,q4,q7,q9,K,v',hK,q8,rfl⟩
        have h6:=hK.2
        have h2:(K.map eI).length=v' + 1:=by rw [length_map,hK.1];simp only [length_append,length_cons,length_nil,length_map,List.length_range];omega
        have b3:(v' + 1+1) * 8<=Aa:=by unfold Aa;omega
        simp only [go_sem,↓reduceIte,h3,q3,q4,q7,q8,q9,h2,b3,Du,A0]
        exact ⟨K++[(k:Int)],v' + 1,⟨by rw [hK.1,range_succ,map_append,<- append_assoc];rfl,by omega⟩,rfl,rfl⟩
       .rintro F h ⟨q3,q4,q7,q9,K,v',hK,q8,rfl⟩
        have h6:=hK.2
        have h2:K.length=v' + 1:=by rw [hK.1];simp only [length_append,length_cons,length_nil,length_map,List.length_range];omega
        rw [h0] at P
        simp only [append_nil,nil_append,append_assoc,cons_append] at P
        have h4:=hK.1
        (try simp only [append_assoc,cons_append,nil_append] at h4)
        rw [<- h4] at P
        simp only [go_sem,↓reduceIte,q3,q4,q7,q8,q9,wi]
        exact ⟨8 * JO (S ||| C4 (m:Int))+(K.length - (i+1)),by omega,_,K,i+1,P,v',h2,rfl,rfl,rfl,rfl,rfl⟩
       .simp only [go_sem,↓reduceIte]
       .simp only [go_sem,↓reduceIte,p3,p4,p8,p9]
        exact ⟨_,_,⟨by rw [List.range_zero,map_nil,append_nil],rfl⟩,rfl,rfl⟩
    .have d1:decide (0<=j)=true:=decide_eq_true c1
     rw [if_pos c1] at h0
     rcases Int.lt_or_le (t.at m).up 0 with c2 | c2
     .have d2:decide (0<=(t.at m).up)=false:=decide_eq_false (by omega)
      rw [if_neg (by omega)] at h0
      rcases Int.lt_or_le (t.at m).thread 0 with c3 | c3
      .have d3:decide (0<=(t.at m).thread)=false:=decide_eq_false (by omega)
       rw [if_neg (by omega)] at h0
       simp only [Gd,go_sem,↓reduceIte,p3,p4,p7,p8,p9,c,ci,cj,cv,hv,gL,B2 C,Bi C,d,wi,hj,d1,d2,h1,A7 h1,b1,b2,h5,Du,length_append,length_map,A0,d3]
       rw [h0] at P
       simp only [append_nil,nil_append,append_assoc,cons_append] at P
       exact ⟨8 * JO (S ||| C4 (m:Int))+((L++[j]).length - (i+1)),by (try simp only [length_append,length_cons,length_nil]);omega,_,_,i+1,P,v+1,by (try simp only [length_append,length_cons,length_nil]);omega,rfl,rfl,rfl,rfl,rfl⟩
      .have d3:decide (0<=(t.at m).thread)=true:=decide_eq_true c3
       rw [if_pos c3] at h0
       simp only [Gd,go_sem,↓reduceIte,p3,p4,p7,p8,p9,c,ci,cj,cv,hv,gL,B2 C,Bi C,d,wi,hj,d1,d2,h1,A7 h1,b1,b2,h5,Du,length_append,length_map,A0,d3]
       refine Ab (by decide) t.locs.length (by omega) (I:=fun k F h=>A4.tmp F 3 = .fp (eT t) 0/\A4.tmp F 4 = .fp (Je s) 0/\A4.tmp F 7=vW (S ||| C4 (m:Int))/\A4.tmp F 9 = .i .i64 (i:Nat)/\∃ K v',HgK (L++[j]) (v+1) k K v'/\A4.tmp F 8 = .sl 0 v' 0 (v' + 1)/\h=[some ⟨AO,1,v',false,K.map eI⟩]) ?_ ?_ ?_ 0 _ _ (zero_le _) ?_ ?_
       .rintro k F h hk h3 ⟨q3,q4,q7,q9,K,v',hK,q8,rfl⟩
        simp only [go_sem,↓reduceIte,h3,q3,q4,q7,q8,q9]
        exact ⟨K,v',hK,rfl,rfl⟩
       .rintro k F h hk h3 ⟨q3,q4,q7,q9,K,v',hK,q8,rfl⟩
        have h6:=hK.2
        have h2:(K.map eI).length=v' + 1:=by rw [length_map,hK.1];simp only [length_append,length_cons,length_nil,length_map,List.length_range];omega
        have b3:(v' + 1+1) * 8<=Aa:=by unfold Aa;omega
        simp only [go_sem,↓reduceIte,h3,q3,q4,q7,q8,q9,h2,b3,Du,A0]
        exact ⟨K++[(k:Int)],v' + 1,⟨by rw [hK.1,range_succ,map_append,<- append_assoc];rfl,by omega⟩,rfl,rfl⟩
       .rintro F h ⟨q3,q4,q7,q9,K,v',hK,q8,rfl⟩
        have h6:=hK.2
        have h2:K.length=v' + 1:=by rw [hK.1];simp only [length_append,length_cons,length_nil,length_map,List.length_range];omega
        rw [h0] at P
        simp only [append_nil,nil_append,append_assoc,cons_append] at P
        have h4:=hK.1
        (try simp only [append_assoc,cons_append,nil_append] at h4)
        rw [<- h4] at P
        simp only [go_sem,↓reduceIte,q3,q4,q7,q8,q9,wi]
        exact ⟨8 * JO (S ||| C4 (m:Int))+(K.length - (i+1)),by omega,_,K,i+1,P,v',h2,rfl,rfl,rfl,rfl,rfl⟩
       .simp only [go_sem,↓reduceIte]
       .simp only [go_sem,↓reduceIte,p3,p4,p8,p9]
        exact ⟨_,_,⟨by rw [List.range_zero,map_nil,append_nil],rfl⟩,rfl,rfl⟩
     .have d2:decide (0<=(t.at m).up)=true:=decide_eq_true c2
      rw [if_pos c2] at h0
      rcases Int.lt_or_le (t.at m).thread 0 with c3 | c3
      .have d3:decide (0<=(t.at m).thread)=false:=decide_eq_false (by omega)
       rw [if_neg (by omega)] at h0
       simp only [Gd,go_sem,↓reduceIte,p3,p4,p7,p8,p9,c,ci,cj,cv,hv,gL,B2 C,Bi C,d,wi,hj,d1,d2,h1,A7 h1,b1,b2,h5,Du,length_append,length_map,A0,d3]
       rw [h0] at P
       simp only [append_nil,nil_append,append_assoc,cons_append] at P
       exact ⟨8 * JO (S ||| C4 (m:Int))+((L++[j,(t.at m).up]).length - (i+1)),by (try simp only [length_append,length_cons,length_nil]);omega,_,_,i+1,P,v+1+1,by (try simp only [length_append,length_cons,length_nil]);omega,rfl,rfl,rfl,rfl,rfl⟩
      .have d3:decide (0<=(t.at m).thread)=true:=decide_eq_true c3
       rw [if_pos c3] at h0
       simp only [Gd,go_sem,↓reduceIte,p3,p4,p7,p8,p9,c,ci,cj,cv,hv,gL,B2 C,Bi C,d,wi,hj,d1,d2,h1,A7 h1,b1,b2,h5,Du,length_append,length_map,A0,d3]
       refine Ab (by decide) t.locs.length (by omega) (I:=fun k F h=>A4.tmp F 3 = .fp (eT t) 0/\A4.tmp F 4 = .fp (Je s) 0/\A4.tmp F 7=vW (S ||| C4 (m:Int))/\A4.tmp F 9 = .i .i64 (i:Nat)/\∃ K v',HgK (L++[j,(t.at m).up]) (v+1+1) k K v'/\A4.tmp F 8 = .sl 0 v' 0 (v' + 1)/\h=[some ⟨AO,1,v',false,K.map eI⟩]) ?_ ?_ ?_ 0 _ _ (zero_le _) ?_ ?_
       .rintro k F h hk h3 ⟨q3,q4,q7,q9,K,v',hK,q8,rfl⟩
        simp only [go_sem,↓reduceIte,h3,q3,q4,q7,q8,q9]
        exact ⟨K,v',hK,rfl,rfl⟩
       .rintro k F h hk h3 ⟨q3,q4,q7,q9,K,v',hK,q8,rfl⟩
        have h6:=hK.2
        have h2:(K.map eI).length=v' + 1:=by rw [length_map,hK.1];simp only [length_append,length_cons,length_nil,length_map,List.length_range];omega
        have b3:(v' + 1+1) * 8<=Aa:=by unfold Aa;omega
        simp only [go_sem,↓reduceIte,h3,q3,q4,q7,q8,q9,h2,b3,Du,A0]
        exact ⟨K++[(k:Int)],v' + 1,⟨by rw [hK.1,range_succ,map_append,<- append_assoc];rfl,by omega⟩,rfl,rfl⟩
       .rintro F h ⟨q3,q4,q7,q9,K,v',hK,q8,rfl⟩
        have h6:=hK.2
        have h2:K.length=v' + 1:=by rw [hK.1];simp only [length_append,length_cons,length_nil,length_map,List.length_range];omega
        rw [h0] at P
        simp only [append_nil,nil_append,append_assoc,cons_append] at P
        have h4:=hK.1
        (try simp only [append_assoc,cons_append,nil_append] at h4)
        rw [<- h4] at P
        simp only [go_sem,↓reduceIte,q3,q4,q7,q8,q9,wi]
        exact ⟨8 * JO (S ||| C4 (m:Int))+(K.length - (i+1)),by omega,_,K,i+1,P,v',h2,rfl,rfl,rfl,rfl,rfl⟩
       .simp only [go_sem,↓reduceIte]
       .simp only [go_sem,↓reduceIte,p3,p4,p8,p9]
        exact ⟨_,_,⟨by rw [List.range_zero,map_nil,append_nil],rfl⟩,rfl,rfl⟩
  .have ci:decide ((i:Int) < ((v+1:Nat):Int))=false:=decide_eq_false (by omega)
   have cj:decide (i < v+1)=false:=decide_eq_false (by omega)
   simp only [Gd,go_sem,↓reduceIte,p3,p4,p7,p8,p9,c,ci,cj,hv]
   rw [I.fin ht hf he c]
 .simp only [go_sem,↓reduceIte]
 .simp only [go_sem,↓reduceIte]
 .exact ⟨zero_le _,fun x hx=>⟨e,List.mem_singleton.1 hx,h7,he,(AbV ht h7).2 (.inr rfl)⟩,fun j hj=>absurd hj (Nat.not_lt_zero _),fun m hm=>by simp at hm,fun m hm=>by simp at hm,List.mem_singleton.2 rfl,by have:=AjV 0#64;simp only [List.length_singleton];omega⟩
 .simp only [go_sem,↓reduceIte]
 .simp only [go_sem,↓reduceIte]
 .simp only [go_sem,↓reduceIte]
 .rfl
end
def AeD (t:A1) (s:A6) (w e:Nat):Bool:=(Yf t s w).any fun c=>decide (c=(e:Int)) || Ap t c e || Ap t e c
def HJ (t:A1) (s:A6) (e:Nat) (r w:Int):Bool:=decide (w < 0) || !Bc (hgW t s e) r || decide ((t.at w.toNat).thread < 0) || decide ((t.at w.toNat).thread=(t.at r.toNat).thread) || !AH t w e || AeD t s w.toNat e
def AiF (t:A1) (s:A6) (e:Nat):Bool:=(List.range s.has.length).all fun i=>HJ t s e (s.has.getD i 0) (s.jf.getD i 0)
section
variable {V:At} (C:Aq V) {Q:VV->Prop}
include C
theorem LQ (t:A1) (ht:A5 t) (s:A6) (hs:DL s) (hf:AG t s) {e:Nat} (he:(e:Int)∈s.has):VP V A5y [vT t,Dy s,.i .i64 e] Q↔Q (.b (AiF t s e)):=by
 refine Ae ?_
 rw [Ad C.c_z58.1 C.c_z58.2]
 have hy:=ht.n64
 have g1:=hs.has
 have hF:=AY (AJ (AE.2 hf))
 have hg:=fun (Q:VV->Prop)=>A2N C t ht s hs hf he (Q:=Q)
 have hn:=fun (x y:Int) (Q:VV->Prop)=>Ez C t ht.up x y (Q:=Q)
 have ho:=fun (x y:Int) (Q:VV->Prop)=>E0 C t ht.up x y (Q:=Q)
 have hq:=fun (loc w:Int) (Q:VV->Prop)=>Ki C s hs loc w (Q:=Q)
 unfold AiF
 simp only [A9h,go_sem,↓reduceIte,hg]
 refine Ab (by decide) s.has.length (by omega) (I:=fun i F h=>A4.tmp F 2 = .i .i64 e/\A4.tmp F 3 = .fp (eT t) 0/\A4.tmp F 4 = .fp (Je s) 0/\A4.tmp F 7=vW (hgW t s e)/\h=[]/\∀ j,j < i->HJ t s e (s.has.getD j 0) (s.jf.getD j 0)=true) ?_ ?_ ?_ 0 _ _ (zero_le _) ?_ ?_
 .rintro i F h hi p8 ⟨p2,p3,p4,p7,rfl,pr⟩
  simp only [go_sem,↓reduceIte,p8,p2,p3,p4,p7]
  exact pr
 .rintro i F h hi p8 ⟨p2,p3,p4,p7,rfl,pr⟩
  have gH:=Ar hi
  have h4:i < s.jf.length:=by rw [hf.jl];exact hi
  have gJ:=Ar h4
  obtain ⟨r,hr,h7⟩:=A8 (hf.node _ (Ai (d:=0) hi))
  have hl:=Ai (d:=0) hi
  rw [hr] at gH hl
  obtain ⟨w,hw⟩:∃ w,w=s.jf.getD i 0:=⟨_,rfl⟩
  have hd:=hF.at_ i hi
  rw [hr,<- hw] at hd
  rw [<- hw] at gJ
  have h3:HJ t s e r w=true->∀ j,j < i+1->HJ t s e (s.has.getD j 0) (s.jf.getD j 0)=true:=fun h j hj=>by
   rcases lt_or_ge j i with c | c
   .exact pr j c
   .rw [show j=i by omega,hr,<- hw];exact h
  have h9:HJ t s e r w=false->((List.range s.has.length).all fun i=>HJ t s e (s.has.getD i 0) (s.jf.getD i 0))=false:=fun h=>AP hi (by rw [hr,<- hw];exact h)
  cases d1:decide (w < 0) with
  | true =>
   simp only [go_sem,↓reduceIte,p8,p2,p3,p4,p7,gH,gJ,hi,h4,d1,A0]
   exact h3 (by rw [HJ,d1];simp)
  | false =>
  have hk:(t.at r).kind=2:=by
   apply Classical.byContradiction
   intro hk
   have:=hF.none r hl (by rw [toNat_natCast];exact hk)
   rw [hd] at this
   exact of_decide_eq_false d1 (by omega)
  obtain ⟨q1,q2,q3⟩:=hF.read r hl (by rw [toNat_natCast];exact hk)
  rw [hd] at q1 q2 q3
  obtain ⟨x,hx,h2⟩:=A8 (hf.node _ q1)
  obtain ⟨a1,a2,a3,a4,a5⟩:=A16 hf q1 q2 ht
  rw [hx,toNat_natCast] at q2 a1 a2 a3 a4 a5
  rw [hx] at gJ h3 h9 d1
  obtain ⟨loc,h5⟩:=eq_ofNat_of_zero_le a1
  rw [h5] at a2 a3 a4
  obtain ⟨pl,hh⟩:=eq_ofNat_of_zero_le a3
  rw [hh,toNat_natCast] at a4
  have hp:loc < s.mo.length:=by omega
  have h6:pl < (s.mo.getD loc []).length:=by omega
  have gL:=C1 hp
  have gI:=ET h6
  have hu:=hs.mc' loc pl
  have ha:Yf t s x=(s.mo.getD loc []).getD pl []:=by rw [Yf,h5,toNat_natCast,hh,toNat_natCast]
  obtain ⟨K,hK⟩:∃ K,K=(s.mo.getD loc []).getD pl []:=⟨_,rfl⟩
  rw [<- hK] at gI hu ha
  obtain ⟨L,hL⟩:∃ L,L=s.mo.getD loc []:=⟨_,rfl⟩
  rw [<- hL] at gL gI h6
  have hc:HJ t s e r x=(!Bc (hgW t s e) r || decide ((t.at x).thread < 0) || decide ((t.at x).thread=(t.at r).thread) || !AH t x e || AeD t s x e):=by
   rw [HJ,d1,Bool.false_or,toNat_natCast,toNat_natCast]
  cases d2:Bc (hgW t s e) (r:Int) with
  | false =>
   simp only [go_sem,↓reduceIte,p8,p2,p3,p4,p7,gH,gJ,hi,h4,d1,B2 C,d2,A0]
   exact h3 (by rw [hc,d2];simp)
  | true =>
  cases d3:decide ((t.at x).thread < 0) with
  | true =>
   simp only [go_sem,↓reduceIte,p8,p2,p3,p4,p7,gH,gJ,hi,h4,d1,B2 C,d2,h2,A7 h2,d3,A0]
   exact h3 (by rw [hc,d3];simp)
  | false =>
  cases d4:decide ((t.at x).thread=(t.at r).thread) with
  | true =>
   simp only [go_sem,↓reduceIte,p8,p2,p3,p4,p7,gH,gJ,hi,h4,d1,B2 C,d2,h2,A7 h2,d3,h7,A7 h7,d4,A0]
   exact h3 (by rw [hc,d4];simp)
  | false =>
  cases d5:AH t x e with
  | false =>
   simp only [go_sem,↓reduceIte,p8,p2,p3,p4,p7,gH,gJ,hi,h4,d1,B2 C,d2,h2,A7 h2,d3,h7,A7 h7,d4,hn,d5,A0]
   exact h3 (by rw [hc,d5];simp)
  | true =>
   have hm:HJ t s e r x=K.any fun c=>decide (c=(e:Int)) || Ap t c e || Ap t e c:=by
    rw [hc,d2,d3,d4,d5,AeD,ha];simp
   simp only [go_sem,↓reduceIte,p8,p2,p3,p4,p7,gH,gJ,hi,h4,d1,B2 C,d2,h2,A7 h2,d3,h7,A7 h7,d4,hn,d5,h5,gL,gI,hp,h6,hq,hh,A0]
   refine Ab (by decide) K.length (by omega) (I:=fun k F h=>A4.tmp F 8 = .i .i64 i/\A4.tmp F 2 = .i .i64 e/\A4.tmp F 3 = .fp (eT t) 0/\A4.tmp F 4 = .fp (Je s) 0/\A4.tmp F 7=vW (hgW t s e)/\A4.tmp F 11=lI K/\A4.tmp F 12 = .b ((K.take k).any fun c=>decide (c=(e:Int)) || Ap t c e || Ap t e c)/\h=[]) ?_ ?_ ?_ 0 _ _ (zero_le _) ?_ ?_
   .rintro k F h hk h8 ⟨q8,q2,q3,q4,q7,h1,h0,rfl⟩
    simp only [go_sem,↓reduceIte,h8,q8,q2,q3,q4,q7,h1,h0]
   .rintro k F h hk h8 ⟨q8,q2,q3,q4,q7,h1,h0,rfl⟩
    have gK:K[k]? = some K[k]:=getElem?_eq_getElem hk
    have hv:((K.take (k+1)).any fun c=>decide (c=(e:Int)) || Ap t c e || Ap t e c)=(((K.take k).any fun c=>decide (c=(e:Int)) || Ap t c e || Ap t e c) || (decide (K[k]=(e:Int)) || Ap t K[k] e || Ap t e K[k])):=by
     rw [List.take_succ_eq_append_getElem hk,List.any_append];simp
    rw [hv]
    cases f0:((K.take k).any fun c=>decide (c=(e:Int)) || Ap t c e || Ap t e c) with
    | true =>
     rw [f0] at h0
     simp only [go_sem,↓reduceIte,h8,q8,q2,q3,q4,q7,h1,h0,gK,hk,A0,Bool.true_or]
    | false =>
    rw [f0] at h0
    cases f1:decide (K[k]=(e:Int)) with
    | true=>simp only [go_sem,↓reduceIte,h8,q8,q2,q3,q4,q7,h1,h0,gK,hk,f1,A0,Bool.true_or,Bool.false_or]
    | false =>
    cases f2:Ap t K[k] e with
    | true=>simp only [go_sem,↓reduceIte,h8,q8,q2,q3,q4,q7,h1,h0,gK,hk,f1,ho,f2,A0,Bool.true_or,Bool.false_or]
    | false =>
    cases f3:Ap t e K[k]<;>simp only [go_sem,↓reduceIte,h8,q8,q2,q3,q4,q7,h1,h0,gK,hk,f1,ho,f2,f3,A0,Bool.true_or,Bool.false_or]
   .rintro F h ⟨q8,q2,q3,q4,q7,h1,h0,rfl⟩
    rw [take_length,<- hm] at h0
    cases d6:HJ t s e r x with
    | true =>
     rw [d6] at h0
     simp only [go_sem,↓reduceIte,q8,q2,q3,q4,q7,h1,h0]
     exact h3 d6
    | false =>
     rw [d6] at h0
     have hb:=h9 d6
     simp only [go_sem,↓reduceIte,q8,q2,q3,q4,q7,h1,h0,hb]
   .simp only [go_sem,↓reduceIte]
   .simp only [go_sem,↓reduceIte,p8,p2,p3,p4,p7]
    rfl
 .rintro F h ⟨p2,p3,p4,p7,rfl,pr⟩
  have hb:=AQ (p:=fun i=>HJ t s e (s.has.getD i 0) (s.jf.getD i 0)) pr
  simp only [go_sem,↓reduceIte,p2,p3,p4,p7,hb]
 .simp only [go_sem,↓reduceIte]
 .simp only [go_sem,↓reduceIte]
  intro j hj;omega
end
end Go.AM
