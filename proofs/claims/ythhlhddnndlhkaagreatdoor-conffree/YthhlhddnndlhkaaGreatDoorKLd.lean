/-
  Own work, part of the proof of these laws: what functions compute.
-/
import Derived.Test.YthhlhddnndlhkaaGreatDoorLAd
import Derived.Test.YthhlhddnndlhkaaGreatDoorKHd
set_option maxRecDepth 10000
set_option maxHeartbeats 64000000
set_option linter.unusedVariables false
set_option linter.unusedSimpArgs false
set_option linter.unusedSectionVars false
open Bool (and_eq_true)
open Int (toNat_natCast)
open List (getElem?_eq_getElem getD_eq_getElem?_getD length_map getElem_mem take_of_length_le take_length map_set any_nil)
open Option (getD_some)
namespace Go.AM
open Go Go.Proofs
theorem Ci {n:Nat} {p q:Nat->Nat->Bool} (h:∀ a b,a < n->b < n->p a b=q a b):Ak n p=Ak n q:=by
 unfold Ak
 apply List.map_congr_left
 intro a ha
 congr 1
 funext b
 cases c:decide (b < n) with
 | false=>rfl
 | true=>rw [h a b (List.mem_range.1 ha) (of_decide_eq_true c)]
theorem Rc {i j:Nat} (hj:j < 64):(C4 (i:Int)).getLsbD j=decide (i=j):=by
 rw [CT]
 exact decide_eq_decide.2 ⟨fun h=>by omega,fun h=>by omega⟩
theorem Jv {n:Nat} (hn:n<=64) (q:Nat->Nat->Bool) {a b:Nat} (ha:a < n) (hb:b < n):(Ak n q).set b ((Ak n q).getD b 0#64 ||| C4 (a:Int))=Ak n fun j i=>q j i || (decide (j=b) && decide (i=a)):=by
 apply List.ext_getElem
 .simp [Aj]
 .intro j h1 h2
  rw [List.length_set,Aj] at h1
  rw [List.getElem_set]
  have g:=Bm (n:=n) (p:=q) h1
  have g2:=Bm (n:=n) (p:=fun j i=>q j i || (decide (j=b) && decide (i=a))) h1
  rw [getElem?_eq_getElem (by rw [Aj];exact h1),Option.some.injEq] at g g2
  rw [g2]
  by_cases c:b=j
  .subst c
   rw [if_pos rfl,getD_eq_getElem?_getD,Bm h1,getD_some]
   apply B1
   intro i hi
   rw [BitVec.getLsbD_or,Au,Au,Rc hi,decide_eq_true (show b=b from rfl),Bool.true_and]
   by_cases e:a=i
   .subst e;simp [ha,hi]
   .have e2:decide (i=a)=false:=decide_eq_false fun h=>e h.symm
    rw [decide_eq_false e,e2,Bool.or_false,Bool.or_false]
  .rw [if_neg c,g]
   congr 1
   funext i
   rw [decide_eq_false (show ¬ j=b from fun h=>c h.symm),Bool.false_and,Bool.or_false]
theorem Q3 {n:Nat} (hn:n<=64) (p:Nat->Nat->Bool) (x:Int×Int):x∈BC (Ak n p)↔∃ a b:Nat,a < n/\b < n/\x=((a:Int),(b:Int))/\p a b=true:=by
 rw [BC,CH hn,if_pos rfl,Aj,List.mem_flatMap]
 constructor
 .rintro ⟨a,ha,h⟩
  have h0:=List.mem_range.1 ha
  obtain ⟨j,hj,rfl⟩:=List.mem_map.1 h
  obtain ⟨h1,h2⟩:=CN (B4.1 hj)
  obtain ⟨b,rfl⟩:=Int.eq_ofNat_of_zero_le h1
  have h3:=B4.1 hj
  rw [AC,getD_eq_getElem?_getD,Bm h0,getD_some,Au] at h3
  simp only [and_eq_true,decide_eq_true_eq] at h3
  exact ⟨a,b,h0,by omega,rfl,by simp_all⟩
 .rintro ⟨a,b,ha,hb,rfl,h⟩
  refine ⟨a,List.mem_range.2 ha,List.mem_map.2 ⟨b,B4.2 ?_,rfl⟩⟩
  rw [Gq hn ha hb];exact h
def bkP (P:List (Int×Int)) (k:Nat) (j i:Nat):Bool:=(P.take k).any fun x=>decide (x=((i:Int),(j:Int)))
theorem AgG {P:List (Int×Int)} {k a b:Nat} (hk:k < P.length) (e:P[k]=((a:Int),(b:Int))):(fun j i=>bkP P k j i || (decide (j=b) && decide (i=a)))=bkP P (k+1):=by
 funext j i
 unfold bkP
 rw [List.take_succ_eq_append_getElem hk,List.any_append,e]
 congr 1
 simp only [List.any_cons,any_nil,Bool.or_false]
 rw [<- Bool.decide_and]
 refine decide_eq_decide.2 ⟨fun ⟨h1,h2⟩=>by rw [h1,h2],fun h=>?_⟩
 simp only [Prod.mk.injEq] at h
 omega
theorem Aju {n:Nat} (hn:n<=64) (p:Nat->Nat->Bool):Ak n (bkP (BC (Ak n p)) (BC (Ak n p)).length)=Ak n fun a b=>p b a:=by
 refine Ci fun j i hj hi=>?_
 unfold bkP
 rw [take_length,Bool.eq_iff_iff,List.any_eq_true]
 constructor
 .rintro ⟨x,hx,h⟩
  obtain ⟨a,b,_,_,rfl,hp⟩:=(Q3 hn p x).1 hx
  have h:=of_decide_eq_true h
  simp only [Prod.mk.injEq] at h
  have e1:a=i:=by omega
  have e2:b=j:=by omega
  rw [<- e1,<- e2];exact hp
 .intro h
  exact ⟨_,(Q3 hn p _).2 ⟨i,j,hi,hj,rfl,h⟩,decide_eq_true rfl⟩
section
variable {V:At} (C:Aq V)
include C
theorem A1U {n:Nat} (hn:n<=64) (p:Nat->Nat->Bool) {Q:Ex->A4->VH->Prop} (hq:∀ F,A4.tmp F 2 = .sl 0 0 0 n->Q .ret F [some ⟨AK,1,0,false,(Ak n fun a b=>p b a).map eW⟩]) :
  Vc V A1g XD.body (Tm.ofList [lW (Ak n p)]) [] Q:=by
 obtain ⟨R,hR⟩:∃ R,R=Ak n p:=⟨_,rfl⟩
 have h2:=Aju hn p
 have h3:=fun x=>Q3 hn p x
 have h1:=CH hn p
 have h0:=Aj (n:=n) (p:=p)
 rw [<- hR] at h2 h3 h1 h0 ⊢
 have h9:(BC R).length<=5000:=by
  have:=Xa R R.length
  rw [BC,if_pos h1]
  rw [h0] at this ⊢;omega
 have b1:n * 8<=Aa:=by unfold Aa;omega
 simp only [XD,go_sem,↓reduceIte,Ce C,h1,h0,b1,Y0 C,Int.le_refl]
 refine Ag (by decide) (BC R).length (by omega) (I:=fun k F h=>A4.tmp F 3 = .sl 0 0 0 n/\A4.tmp F 13=lP (BC R)/\h=[some ⟨AK,1,0,false,(Ak n (bkP (BC R) k)).map eW⟩]) ?_ ?_ 0 _ _ (by omega) ?_ ?_ ?_
 .rintro k F h hk h8 h7 ⟨p3,h6,rfl⟩
  obtain ⟨a,b,ha,hb,e,_⟩:=(h3 _).1 (getElem_mem hk)
  have Cp:(BC R)[k]? = some ((a:Int),(b:Int)):=by rw [getElem?_eq_getElem hk,e]
  have gW:=B9 (a:=Ak n (bkP (BC R) k)) (i:=b) (by rw [Aj];exact hb)
  have h4:=Jv hn (bkP (BC R) k) ha hb
  rw [AgG hk e] at h4
  have h5:∀ w,((Ak n (bkP (BC R) k)).map eW).set b [vW w]=((Ak n (bkP (BC R) k)).set b w).map eW:=fun w=>by rw [map_set]
  simp only [go_sem,↓reduceIte,h8,h7,p3,h6,Cp,hk,hb,gW,C0 C,h5,h4,Aj,length_map,A0]
 .rintro F h ⟨p3,h6,rfl⟩
  rw [h2]
  simp only [go_sem,↓reduceIte,p3]
  exact hq _ (by simp only [go_sem,↓reduceIte,p3])
 .simp only [go_sem,↓reduceIte]
 .simp only [go_sem,↓reduceIte]
 .simp only [go_sem,↓reduceIte]
  rw [<- J7]
  rfl
theorem A1V {n:Nat} (hn:n<=64) (p:Nat->Nat->Bool) {Q:VV->Prop}:VP V A1n [lW (Ak n p)] Q↔Q (lW (Ak n fun a b=>p b a)):=by
 refine Ae ?_
 rw [Ad C.c_z27.1 C.c_z27.2]
 refine A1U C hn p fun F h=>?_
 simp only [XD,go_sem,↓reduceIte,h,Aj,length_map,take_of_length_le (Nat.le_of_eq (Aj (n:=n) (p:=fun a b=>p b a)))]
theorem AaG {n:Nat} (hn:n<=64) (p:Nat->Nat->Bool) (b:Nat) {Q:VV->VH->Prop}:VP1 V A1n [lW (Ak n p)] b Q↔Q (.sl b 0 0 n) [some ⟨AK,1,0,false,(Ak n fun a b=>p b a).map eW⟩]:=by
 refine K8 ?_
 rw [K9 C.c_z27.2]
 refine A1U C hn p fun F h=>?_
 simp only [XD,go_sem,↓reduceIte,h,Aj,length_map,BF]
 simp
end
def Y6 (n:Nat) (p:Nat->Nat->Bool) (a b:Nat):Bool:=((BV (Ak n p)).getD a 0#64).getLsbD b || decide (a=b)
theorem A60 {n:Nat} (hn:n<=64) (p:Nat->Nat->Bool):BV (Ak n p)=Ak n fun a b=>((BV (Ak n p)).getD a 0#64).getLsbD b:=by
 have hl:=Dh hn p
 apply List.ext_getElem
 .rw [hl,Aj]
 .intro a h1 h2
  rw [hl] at h1
  have g:=Bm (n:=n) (p:=fun a b=>((BV (Ak n p)).getD a 0#64).getLsbD b) h1
  rw [getElem?_eq_getElem h2,Option.some.injEq] at g
  rw [g]
  apply B1
  intro b hb
  rw [Au,getD_eq_getElem?_getD,getElem?_eq_getElem (by omega),getD_some]
  by_cases c:b < n
  .simp [c,hb]
  .rw [decide_eq_false c,Bool.false_and,Bool.false_and]
   rw [Bool.eq_false_iff]
   intro hc
   have:=(DY hn p (a:=a) (b:=b) h1).1 (by rw [getD_eq_getElem?_getD,getElem?_eq_getElem (by omega)];exact hc)
   exact c this.lt
section
variable {V:At} (C:Aq V)
include C
theorem A2J {n:Nat} (hn:n<=64) (p:Nat->Nat->Bool) (b:Nat) {Q:VV->VH->Prop}:VP1 V Ll [lW (Ak n p)] b Q↔Q (.sl b 0 0 n) [some ⟨AK,1,0,false,(BV (Ak n p)).map eW⟩]:=by
 refine K8 ?_
 rw [K9 C.c_z164.2]
 have hm:=CH hn p
 have h6:=Aj (n:=n) (p:=p)
 obtain ⟨a,ha⟩:∃ a,a=Ak n p:=⟨_,rfl⟩
 rw [<- ha] at hm h6 ⊢
 have hl:=HU hm
 have h0:a.length * 8<=Aa:=by unfold Aa;omega
 have h7:¬ (64:Int) < n:=by omega
 subst h6
 simp only [PL,go_sem,↓reduceIte,Ce C,hm,h0,Int.le_refl]
 refine Ag (by decide) a.length (by omega) (I:=fun k F h=>A4.tmp F 0=lW a/\A4.tmp F 12=lW a/\A4.tmp F 3 = .sl 0 0 0 a.length/\h=[some ⟨AK,1,0,false,(Dj a.length k (fun i=>GF a (a.getD i 0#64)) 0#64).map eW⟩]) ?_ ?_ 0 _ _ (by omega) ?_ ?_ ?_
 .rintro k F h hk h1 h2 ⟨h3,h4,h5,rfl⟩
  have hu:=Xl (n:=a.length) (k:=k) (f:=fun i=>GF a (a.getD i 0#64)) (z:=0#64)
  simp only [go_sem,↓reduceIte,h1,h2,h3,h4,h5,hk,B9 hk,Pj C a hm,JB hk,hu]
 .rintro F h ⟨h3,h4,h5,rfl⟩
  simp only [go_sem,↓reduceIte,h5,Ho,BV,hm,BF]
  simp
 all_goals simp only [go_sem,↓reduceIte]
 all_goals first | rfl | rw [EZ]
theorem A7p {n:Nat} (hn:n<=64) (p:Nat->Nat->Bool) {Q:VV->Prop}:VP V Lk [lW (Ak n p)] Q↔Q (lW (Ak n (Y6 n p))):=by
 refine Ae ?_
 rw [Ad C.c_z135.1 C.c_z135.2]
 have h3:=A60 hn p
 obtain ⟨q,hq⟩:∃ q,q=fun a b=>((BV (Ak n p)).getD a 0#64).getLsbD b:=⟨_,rfl⟩
 rw [<- hq] at h3
 have h5:Y6 n p=fun a b=>q a b || decide (a=b):=by rw [hq];rfl
 have h2:=fun (b:Nat) (Q:VV->VH->Prop)=>A2J C hn p b (Q:=Q)
 rw [h3] at h2
 simp only [ZB,go_sem,↓reduceIte,h2]
 refine Ag (by decide) n (by omega) (I:=fun k F h=>A4.tmp F 3 = .sl 0 0 0 n/\h=[some ⟨AK,1,0,false,(Ak n fun a b=>q a b || (decide (a < k) && decide (a=b))).map eW⟩]) ?_ ?_ 0 _ _ (by omega) ?_ ?_ ?_
 .rintro k F h hk p9 p8 ⟨p3,rfl⟩
  have gW:=B9 (a:=Ak n fun a b=>q a b || (decide (a < k) && decide (a=b))) (i:=k) (by rw [Aj];exact hk)
  have h0:=Jv hn (fun a b=>q a b || (decide (a < k) && decide (a=b))) hk hk
  have h4:Ak n (fun j i=>(q j i || (decide (j < k) && decide (j=i))) || (decide (j=k) && decide (i=k)))=Ak n fun a b=>q a b || (decide (a < k+1) && decide (a=b)):=by
   congr 1
   funext j i
   rw [Bool.or_assoc]
   congr 1
   rw [Bool.eq_iff_iff]
   simp only [Bool.or_eq_true,and_eq_true,decide_eq_true_eq]
   omega
  rw [h4] at h0
  have h1:∀ w,((Ak n fun a b=>q a b || (decide (a < k) && decide (a=b))).map eW).set k [vW w]=((Ak n fun a b=>q a b || (decide (a < k) && decide (a=b))).set k w).map eW:=fun w=>by rw [map_set]
  simp only [go_sem,↓reduceIte,p9,p8,p3,hk,gW,C0 C,h1,h0,Aj,length_map,A0]
 .rintro F h ⟨p3,rfl⟩
  have e:Ak n (fun a b=>q a b || (decide (a < n) && decide (a=b)))=Ak n (Y6 n p):=by
   rw [h5]
   exact Ci fun a b ha hb=>by rw [decide_eq_true ha,Bool.true_and]
  simp only [go_sem,↓reduceIte,p3,e,Aj,length_map,take_of_length_le (Nat.le_of_eq (Aj (n:=n) (p:=Y6 n p)))]
 .simp only [go_sem,↓reduceIte]
 .simp only [go_sem,↓reduceIte]
 .simp only [go_sem,↓reduceIte]
  rw [show Ak n q=Ak n fun a b=>q a b || (decide (a < 0) && decide (a=b)) from Ci fun a b _ _=>by simp]
theorem XZ (a:Rows) (hm:Dk a=true) (s:BitVec 64) (b:Nat) {Q:VV->VH->Prop}:VP1 V A1m [lW a,vW s] b Q↔Q (.sl b 0 0 a.length) [some ⟨AK,1,0,false,(Mj a s).map eW⟩]:=by
 refine K8 ?_
 rw [K9 C.c_z25.2]
 have hl:=HU hm
 simp only [A0T,go_sem,↓reduceIte,Ce C,hm,Mj,
   Y1 C (show a.length<=1000 by omega) (gf:=XS) (a:=[.ag [lW a,vW s]]) (c:=[]) (fun _ _=>rfl) Fz.nil (fun (i:Nat)=>if Bc s (i:Int) then a.getD i 0#64 &&& s else 0#64) 0 (fun i hi=>(MD C a s hi).2 rfl),BF]
 simp
end
def PB (t:A1):Rows:=Ak t.nodes.length fun a b=>AH t a b
def LV (t:A1):Rows:=Ak t.nodes.length fun a b=>Ap t a b
def XA (t:A1) (A B:BitVec 64):Bool:=!decide (Eo (PB t) A &&& B=0#64)
abbrev eVw (t:A1) (s:A6) (D H:Rows):List VV:=[.i .i64 t.vals,lS t.locs,.ls (t.regs.map JE),.ls (t.nodes.map eN),lI s.has,lI s.jf,.ls (s.mo.map DD),vW (Cc s.has),lW (PB t),lW (LV t),lW D,lW H]
def Yf (t:A1) (s:A6) (w:Nat):List Int:=(s.mo.getD (t.at w).loc.toNat []).getD (Be s (t.at w).loc w).toNat []
def A8N (t:A1) (s:A6) (w e:Nat):Bool:=(Yf t s w).any fun c=>decide (c=(e:Int)) || Bc ((LV t).getD c.toNat 0#64) e || Bc ((LV t).getD e 0#64) c
def A1a (t:A1) (s:A6) (r e:Nat):Bool :=
 let w:=Qz s r
 if w < 0\/(t.at w.toNat).thread < 0\/(t.at w.toNat).thread=(t.at r).thread then false else Bc ((PB t).getD w.toNat 0#64) e && !A8N t s w.toNat e
def AfO (t:A1) (s:A6) (H:Rows) (e:Nat):Bool:=(Ay (H.getD e 0#64)).all fun r=>!A1a t s r.toNat e
structure YU (t:A1) (s:A6):Prop where
 jf:∀ r:Nat,(Qz s r < 0)\/∃ w:Nat,Qz s r=w/\w < t.nodes.length/\0<=(t.at w).loc/\(t.at w).loc < s.mo.length/\0<=Be s (t.at w).loc w/\Be s (t.at w).loc w < (s.mo.getD (t.at w).loc.toNat []).length/\∀ c∈Yf t s w,BP t c=true
section
variable {V:At} (C:Aq V) {Q:VV->Prop}
include C
theorem A7D (t:A1) (ht:A5 t) (s:A6) (hs:DL s) (D H:Rows) {w e:Nat} (hw:w < t.nodes.length) (he:e < t.nodes.length) (h1:0<=(t.at w).loc) (h2:(t.at w).loc < s.mo.length) (h3:0<=Be s (t.at w).loc w) (h4:Be s (t.at w).loc w < (s.mo.getD (t.at w).loc.toNat []).length)
  (h5:∀ c∈Yf t s w,BP t c=true):VP V W3 [.fp (eVw t s D H) 0,.i .i64 w,.i .i64 e] Q↔Q (.b (A8N t s w e)):=by
 refine Ae ?_
 rw [Ad C.c_z186.1 C.c_z186.2]
 obtain ⟨loc,h8⟩:=Int.eq_ofNat_of_zero_le h1
 unfold A8N
 unfold Yf at h5 ⊢
 have hd:=fun (Q:VV->Prop)=>Ko C s hs (t.at w).loc w (Q:=Q)
 rw [h8] at h2 h3 h4 h5 hd ⊢
 rw [toNat_natCast] at h4 h5 ⊢
 obtain ⟨pl,hm⟩:=Int.eq_ofNat_of_zero_le h3
 rw [hm] at h4 h5 hd ⊢
 rw [toNat_natCast] at h5 ⊢
 have hh:loc < s.mo.length:=by omega
 have h0:pl < (s.mo.getD loc []).length:=by omega
 have gL:=C1 hh
 have gI:=ET h0
 have hl:=hs.mc' loc pl
 obtain ⟨c,hc⟩:∃ c,c=(s.mo.getD loc []).getD pl []:=⟨_,rfl⟩
 rw [<- hc] at gI hl h5 ⊢
 obtain ⟨L,hL⟩:∃ L,L=s.mo.getD loc []:=⟨_,rfl⟩
 rw [<- hL] at gL gI h0
 have ho:(LV t).length=t.nodes.length:=Aj
 simp only [A07,go_sem,↓reduceIte,hw,A7 hw,h8,gL,gI,hh,h0,hd]
 have hn:∀ k,k<=c.length->(∀ j,j < k->∀ hj:j < c.length,(decide (c[j]=(e:Int)) || Bc ((LV t).getD c[j].toNat 0#64) e || Bc ((LV t).getD e 0#64) c[j])=false)->k=c.length->(c.any fun x=>decide (x=(e:Int)) || Bc ((LV t).getD x.toNat 0#64) e || Bc ((LV t).getD e 0#64) x)=false:=by
  intro k hk h e1
  rw [List.any_eq_false]
  intro x hx
  obtain ⟨j,hj,rfl⟩:=List.getElem_of_mem hx
  rw [h j (by omega) hj];decide
 refine Ag (by decide) c.length (by omega) (I:=fun k F h=>A4.tmp F 0 = .fp (eVw t s D H) 0/\A4.tmp F 2 = .i .i64 e/\A4.tmp F 35=lI c/\h=[]/\∀ j,j < k->∀ hj:j < c.length,(decide (c[j]=(e:Int)) || Bc ((LV t).getD c[j].toNat 0#64) e || Bc ((LV t).getD e 0#64) c[j])=false) ?_ ?_ 0 _ _ (by omega) ?_ ?_ ?_
 .rintro k F h hk ha h9 ⟨p0,p2,h7,rfl,pr⟩
  obtain ⟨x,hx,hp⟩:=A8 (h5 _ (getElem_mem hk))
  have gK:c[k]? = some (x:Int):=by rw [getElem?_eq_getElem hk,hx]
  have h6:(decide ((x:Int)=(e:Int)) || Bc ((LV t).getD x 0#64) e || Bc ((LV t).getD e 0#64) (x:Int))=true->(c.any fun x=>decide (x=(e:Int)) || Bc ((LV t).getD x.toNat 0#64) e || Bc ((LV t).getD e 0#64) x)=true:=fun h=>by
   rw [List.any_eq_true]
   refine ⟨_,getElem_mem hk,?_⟩
   rw [hx,toNat_natCast];exact h
  have g1:=B9 (a:=LV t) (i:=x) (by omega)
  have g2:=B9 (a:=LV t) (i:=e) (by omega)
  have hf:x < (LV t).length:=by omega
  have hg:e < (LV t).length:=by omega
  cases d1:decide ((x:Int)=(e:Int)) with
  | true =>
   have hb:=h6 (by rw [d1];rfl)
   simp only [go_sem,↓reduceIte,ha,h9,p0,p2,h7,gK,hk,d1,hb,A0]
  | false =>
  cases d2:Bc ((LV t).getD x 0#64) e with
  | true =>
   have hb:=h6 (by rw [d2];simp)
   simp only [go_sem,↓reduceIte,ha,h9,p0,p2,h7,gK,hk,d1,g1,hf,AN C,d2,hb,A0]
  | false =>
  cases d3:Bc ((LV t).getD e 0#64) (x:Int) with
  | true =>
   have hb:=h6 (by rw [d3];simp)
   simp only [go_sem,↓reduceIte,ha,h9,p0,p2,h7,gK,hk,d1,g1,g2,hf,hg,AN C,d2,d3,hb,A0]
  | false =>
   simp only [go_sem,↓reduceIte,ha,h9,p0,p2,h7,gK,hk,d1,g1,g2,hf,hg,AN C,d2,d3,A0]
   intro j hj hi
   rcases Nat.lt_or_ge j k with q | q
   .exact pr j q hi
   .obtain rfl:j=k:=by omega
    rw [hx,toNat_natCast,d1,d2,d3];rfl
 .rintro F h ⟨p0,p2,h7,rfl,pr⟩
  have hb:=hn _ (Nat.le_refl _) pr rfl
  simp only [go_sem,↓reduceIte,p0,p2,h7,hb]
 .simp only [go_sem,↓reduceIte]
 .simp only [go_sem,↓reduceIte]
 .simp only [go_sem,↓reduceIte]
  intro j hj;omega
theorem Pp (t:A1) (ht:A5 t) (s:A6) (hs:DL s) (ok:YU t s) (D H:Rows) {r e:Nat} (hr:r < t.nodes.length) (he:e < t.nodes.length):VP V V9 [.fp (eVw t s D H) 0,.i .i64 r,.i .i64 e] Q↔Q (.b (A1a t s r e)):=by
 refine Ae ?_
 rw [Ad C.c_z132.1 C.c_z132.2]
 have hj:=fun (Q:VV->Prop)=>A24 C s hs (r:Int) (Q:=Q)
 unfold A1a
 simp only
 rcases ok.jf r with h | ⟨w,hw,hwn,h1,h2,h3,h4,h5⟩
 .have d:decide (Qz s r < 0)=true:=decide_eq_true h
  rw [if_pos (.inl h)]
  simp only [KZ,go_sem,↓reduceIte,hj,d]
 .rw [hw,toNat_natCast]
  rw [hw] at hj
  have d0:decide ((w:Int) < 0)=false:=decide_eq_false (by omega)
  cases d1:decide ((t.at w).thread < 0) with
  | true =>
   rw [if_pos (.inr (.inl (of_decide_eq_true d1)))]
   simp only [KZ,go_sem,↓reduceIte,hj,d0,hwn,A7 hwn,d1]
  | false =>
  cases d2:decide ((t.at w).thread=(t.at r).thread) with
  | true =>
   rw [if_pos (.inr (.inr (of_decide_eq_true d2)))]
   simp only [KZ,go_sem,↓reduceIte,hj,d0,hwn,A7 hwn,d1,hr,A7 hr,d2]
  | false =>
   rw [if_neg (by
    rintro (h | h | h)
    .omega
    .exact of_decide_eq_false d1 h
    .exact of_decide_eq_false d2 h)]
   have h0:w < (PB t).length:=by rw [PB,Aj];exact hwn
   have g1:=B9 (a:=PB t) (i:=w) h0
   have h6:=fun (Q:VV->Prop)=>A7D C t ht s hs D H hwn he h1 h2 h3 h4 h5 (Q:=Q)
   cases d3:Bc ((PB t).getD w 0#64) e with
   | false=>simp only [KZ,go_sem,↓reduceIte,hj,d0,hwn,A7 hwn,d1,hr,A7 hr,d2,g1,h0,AN C,d3,Bool.false_and]
   | true=>simp only [KZ,go_sem,↓reduceIte,hj,d0,hwn,A7 hwn,d1,hr,A7 hr,d2,g1,h0,AN C,d3,h6,Bool.true_and]
theorem HA (t:A1) (ht:A5 t) (s:A6) (hs:DL s) (ok:YU t s) (D:Rows) (p:Nat->Nat->Bool) {e:Nat} (he:e < t.nodes.length):VP V Mr [.fp (eVw t s D (Ak t.nodes.length p)) 0,.i .i64 e] Q↔Q (.b (AfO t s (Ak t.nodes.length p) e)):=by
 refine Ae ?_
 rw [Ad C.c_z64.1 C.c_z64.2]
 obtain ⟨H,hH⟩:∃ H,H=Ak t.nodes.length p:=⟨_,rfl⟩
 have hc:H.length=t.nodes.length:=by rw [hH,Aj]
 have h5:∀ r∈Ay (H.getD e 0#64),∃ m:Nat,r=m/\m < t.nodes.length:=fun r hr=>by
  obtain ⟨h1,h2⟩:=CN (B4.1 hr)
  obtain ⟨m,rfl⟩:=Int.eq_ofNat_of_zero_le h1
  have h3:=B4.1 hr
  rw [AC,hH,getD_eq_getElem?_getD,Bm he,getD_some,Au] at h3
  simp only [and_eq_true,decide_eq_true_eq] at h3
  exact ⟨m,rfl,h3.1.1⟩
 rw [<- hH]
 have h4:e < H.length:=by omega
 have g1:=B9 (a:=H) (i:=e) h4
 have ha:=CO (H.getD e 0#64)
 obtain ⟨L,hL⟩:∃ L,L=Ay (H.getD e 0#64):=⟨_,rfl⟩
 unfold AfO
 rw [<- hL] at h5 ha ⊢
 have h6:=fun (Q:VV->Prop)=>CZ C (H.getD e 0#64) (Q:=Q)
 rw [<- hL] at h6
 simp only [A9m,go_sem,↓reduceIte,g1,h4,h6]
 refine Ag (by decide) L.length (by omega) (I:=fun k F h=>A4.tmp F 0 = .fp (eVw t s D H) 0/\A4.tmp F 1 = .i .i64 e/\A4.tmp F 14=lI L/\h=[]/\∀ x∈L.take k,A1a t s x.toNat e=false) ?_ ?_ 0 _ _ (by omega) ?_ ?_ ?_
 .rintro k F h hk h9 h8 ⟨p0,p1,h0,rfl,pr⟩
  obtain ⟨m,hm,h7⟩:=h5 _ (getElem_mem hk)
  have gK:L[k]? = some (m:Int):=by rw [getElem?_eq_getElem hk,hm]
  cases d:A1a t s m e with
  | true =>
   have hb:(L.all fun r=>!A1a t s r.toNat e)=false:=by
    rw [List.all_eq_false]
    exact ⟨_,getElem_mem hk,by rw [hm,toNat_natCast,d];decide⟩
   simp only [go_sem,↓reduceIte,h9,h8,p0,p1,h0,gK,hk,Pp C t ht s hs ok D H h7 he,d,hb,A0]
  | false =>
   simp only [go_sem,↓reduceIte,h9,h8,p0,p1,h0,gK,hk,Pp C t ht s hs ok D H h7 he,d,A0]
   intro x hx
   rw [List.take_succ_eq_append_getElem hk] at hx
   rcases List.mem_append.1 hx with hx | hx
   .exact pr x hx
   .rw [List.mem_singleton.1 hx,hm,toNat_natCast];exact d
 .rintro F h ⟨p0,p1,h0,rfl,pr⟩
  rw [take_length] at pr
  have hb:(L.all fun r=>!A1a t s r.toNat e)=true:=by
   rw [List.all_eq_true]
   exact fun x hx=>by rw [pr x hx];rfl
  simp only [go_sem,↓reduceIte,p0,p1,h0,hb]
 .simp only [go_sem,↓reduceIte]
 .simp only [go_sem,↓reduceIte]
 .simp only [go_sem,↓reduceIte]
omit C in
theorem AhP {p:Int->Bool} {l:List Int} {k:Nat} (hk:k < l.length):Cc ((l.take (k+1)).filter p)=if p l[k]=true then Cc ((l.take k).filter p) ||| C4 l[k] else Cc ((l.take k).filter p):=by
 rw [List.take_succ_eq_append_getElem hk,List.filter_append]
 cases c:p l[k] with
 | true =>
  rw [if_pos rfl,List.filter_cons_of_pos c,List.filter_nil]
  unfold Cc
  rw [List.foldl_append];rfl
 | false=>rw [if_neg (by decide),List.filter_cons_of_neg (by rw [c];decide),List.filter_nil,List.append_nil]
theorem A22 (t:A1) (s:A6) (hs:DL s) (D H:Rows) {g:Nat} {a c:List VV} (ha:Fz a) (hc:Fz c) (p:Int->Bool) (hp:∀ e∈s.has,VP V g (a++[.i .i64 e]++c) fun r=>r = .b (p e)) :
  VP V A5F [.fp (eVw t s D H) 0,.f g a c] Q↔Q (vW (Cc (s.has.filter p))):=by
 refine Ae ?_
 rw [Ad C.c_z68.1 C.c_z68.2]
 have g1:=hs.has
 simp only [A9p,go_sem,↓reduceIte]
 refine Ag (by decide) s.has.length (by omega) (I:=fun k F h=>A4.tmp F 1 = .f g a c/\A4.tmp F 12=lI s.has/\A4.tmp F 5=vW (Cc ((s.has.take k).filter p))/\h=[]) ?_ ?_ 0 _ _ (by omega) ?_ ?_ ?_
 .rintro k F h hk h4 h3 ⟨p1,h1,p5,rfl⟩
  have gK:s.has[k]? = some s.has[k]:=getElem?_eq_getElem hk
  have hq:=fun Q=>Ae (hp _ (getElem_mem hk)) (Q:=Q)
  have h2:=ha.call hc (h:=[]) (x:=[.i .i64 s.has[k]]) rfl
  simp only [List.append_assoc,List.cons_append,List.nil_append] at hq h2
  have h0:=AhP (p:=p) hk
  cases d:p s.has[k] with
  | true =>
   rw [d,if_pos rfl] at h0
   rw [d] at hq
   simp only [go_sem,↓reduceIte,h4,h3,p1,h1,p5,gK,hk,hq,h2,h0,C0 C,A0,Fz.bel ha,Fz.bel hc]
  | false =>
   rw [d,if_neg (by decide)] at h0
   rw [d] at hq
   simp only [go_sem,↓reduceIte,h4,h3,p1,h1,p5,gK,hk,hq,h2,h0,A0,Fz.bel ha,Fz.bel hc]
 .rintro F h ⟨p1,h1,p5,rfl⟩
  simp only [go_sem,↓reduceIte,p1,h1,p5,take_length]
 .simp only [go_sem,↓reduceIte]
 .simp only [go_sem,↓reduceIte]
 .simp only [go_sem,↓reduceIte,List.take_zero,List.filter_nil]
  rfl
end
def Bw (t:A1) (s:A6) (k a b:Nat):Bool:=(Bc (Cc s.has) a && Bc (Cc s.has) b && Ap t a b) || (List.range k).any fun i=>decide (s.jf.getD i 0=(a:Int)) && decide (s.has.getD i 0=(b:Int))
theorem A2a (t:A1) (s:A6) (k:Nat) {w n:Nat} (hw:s.jf.getD k 0=w) (hn:s.has.getD k 0=n):(fun a b=>Bw t s k a b || (decide (a=w) && decide (b=n)))=Bw t s (k+1):=by
 funext a b
 unfold Bw
 rw [List.range_succ,List.any_append,Bool.or_assoc]
 congr 2
 simp only [List.any_cons,any_nil,Bool.or_false,hw,hn]
 rw [Bool.eq_iff_iff]
 simp only [and_eq_true,decide_eq_true_eq]
 omega
theorem AaN (t:A1) (s:A6) (k:Nat) (hw:s.jf.getD k 0 < 0):Bw t s (k+1)=Bw t s k:=by
 funext a b
 unfold Bw
 rw [List.range_succ,List.any_append]
 congr 1
 have:decide (s.jf.getD k 0=(a:Int))=false:=decide_eq_false (by omega)
 simp only [List.any_cons,any_nil,this,Bool.false_and,Bool.or_false]
def vwB (t:A1) (s:A6) (d h:VV):Option VO:=some ⟨Xp,0,0,false,[[.i .i64 t.vals,lS t.locs,.ls (t.regs.map JE),.ls (t.nodes.map eN),lI s.has,lI s.jf,.ls (s.mo.map DD),vW (Cc s.has),lW (PB t),lW (LV t),d,h]]⟩
section
variable {V:At} (C:Aq V)
include C
theorem AaM (t:A1) (ht:A5 t) (s:A6) (hs:DL s) (hf:AG t s) (x0 x1 x3:Option VO) (d h:VV) {Q:VV->VH->Prop} :
  Hs V Vd [.p 2 0 0 0] [x0,x1,vwB t s d h,x3] Q↔Q (lW (Ak t.nodes.length (Bw t s s.has.length))) [x0,x1,vwB t s d h,x3]:=by
 refine Dn ?_
 rw [Cm C.h_z136]
 have h1:=ht.n64
 have g1:=hs.has
 have hb:Dk (LV t)=true:=CH h1 _
 have ha:Mj (LV t) (Cc s.has)=Ak t.nodes.length (Bw t s 0):=by
  rw [LV,Jm h1]
  refine Ci fun a b _ _=>?_
  simp [Bw]
 have h6:=fun (b:Nat) (Q:VV->VH->Prop)=>XZ C (LV t) hb (Cc s.has) b (Q:=Q)
 rw [ha,show (LV t).length=t.nodes.length from Aj] at h6
 simp only [ZC,go_sem,↓reduceIte,vwB,h6]
 obtain ⟨n,hn⟩:∃ n,n=t.nodes.length:=⟨_,rfl⟩
 rw [<- hn] at h1 ⊢
 refine Ag (by decide) s.has.length (by omega) (I:=fun k F h'=>A4.tmp F 0 = .p 2 0 0 0/\A4.tmp F 3 = .sl 4 0 0 n/\A4.tmp F 20=lI s.has/\h' = [x0,x1,vwB t s d h,x3,some ⟨AK,1,0,false,(Ak n (Bw t s k)).map eW⟩]) ?_ ?_ 0 _ _ (by omega) ?_ ?_ ?_
 .rintro k F h' hk h9 h8 ⟨p0,p3,h3,rfl⟩
  have gH:=Ar hk
  have h4:k < s.jf.length:=by rw [hf.jl];exact hk
  have gJ:=Ar h4
  obtain ⟨m,hm,h7⟩:=A8 (hf.node _ (Ai (d:=0) hk))
  rw [<- hn] at h7
  have hj:=hf.just k hk
  rw [hm] at gH hj
  by_cases c:(t.at m).kind=2
  .simp only [okJ,toNat_natCast,c,if_true,and_eq_true,A9] at hj
   obtain ⟨w,hw,h2⟩:=A8 (hf.node _ hj.1.1)
   rw [<- hn] at h2
   rw [hw] at gJ
   have d0:decide ((0:Int)<=(w:Int))=true:=decide_eq_true (by omega)
   have gW:=B9 (a:=Ak n (Bw t s k)) (i:=w) (by rw [Aj];exact h2)
   have h0:=Jv h1 (Bw t s k) h7 h2
   rw [A2a t s k hw hm] at h0
   have h5:∀ x,((Ak n (Bw t s k)).map eW).set w [vW x]=((Ak n (Bw t s k)).set w x).map eW:=fun x=>by rw [map_set]
   simp only [go_sem,↓reduceIte,h9,h8,p0,p3,h3,gH,gJ,hk,h4,d0,gW,h2,C0 C,h5,h0,Aj,length_map,vwB,A0]
  .simp only [okJ,toNat_natCast,c,if_false,decide_eq_true_eq] at hj
   rw [hj] at gJ
   rw [AaN t s k (by rw [hj];decide)]
   simp only [go_sem,↓reduceIte,h9,h8,p0,p3,h3,gH,gJ,hk,h4,vwB,A0]
 .rintro F h' ⟨p0,p3,h3,rfl⟩
  simp only [go_sem,↓reduceIte,p0,p3,h3,vwB,Aj,length_map,take_of_length_le (Nat.le_of_eq (Aj (n:=n) (p:=Bw t s s.has.length)))]
 .simp only [go_sem,↓reduceIte]
 .simp only [go_sem,↓reduceIte]
 .simp only [go_sem,↓reduceIte]
  rfl
end
def hbQ (t:A1) (s:A6) (a b:Nat):Bool:=((JP t s.has s.jf).getD a 0#64).getLsbD b
def Zg (t:A1) (s:A6) (e a:Nat):Bool:=hbQ t s a e || decide (e=a)
def YF (t:A1) (s:A6):Nat->Nat->Bool:=Y6 t.nodes.length fun a b=>Bw t s s.has.length b a
def QA (t:A1) (s:A6):List VV:=eVw t s (Ak t.nodes.length (Zg t s)) (Ak t.nodes.length (YF t s))
section
variable {V:At} (C:Aq V) {Q:VV->Prop}
include C
theorem NH (t:A1) (ht:A5 t) (s:A6) (hs:DL s) (hf:AG t s):VP V LN [vT t,Dy s] Q↔Q (.tu [.fp (QA t s) 0,.b true]):=by
 refine Ae ?_
 rw [Ad C.c_z66.1 C.c_z66.2]
 have h2:=ht.n64
 have h9:=AE.2 hf
 have he:=AJ h9
 have h7:=fun (Q:VV->Prop)=>A6d C t ht s.has s.jf hs.has hs.jf (Q:=Q)
 rw [hbF,if_pos he] at h7
 have hc:JP t s.has s.jf=Ak t.nodes.length (hbQ t s):=A60 h2 _
 rw [hc] at h7
 have hd:=fun (b:Nat) (Q:VV->VH->Prop)=>AaG C h2 (hbQ t s) b (Q:=Q)
 have h8:=fun (Q:VV->Prop)=>HC C t ht (Q:=Q)
 have hb:=fun (Q:VV->Prop)=>Xk C t ht (Q:=Q)
 rw [<- PB] at h8
 rw [<- LV] at hb
 have h5:=fun (Q:VV->Prop)=>Y5 C s hs (Q:=Q)
 have h1:=fun (x0 x1 x3:Option VO) (d h:VV) (Q:VV->VH->Prop)=>AaM C t ht s hs hf x0 x1 x3 d h (Q:=Q)
 have h3:=fun (Q:VV->Prop)=>A1V C h2 (Bw t s s.has.length) (Q:=Q)
 have h0:=fun (Q:VV->Prop)=>A7p C h2 (fun a b=>Bw t s s.has.length b a) (Q:=Q)
 rw [<- YF] at h0
 obtain ⟨w,hw⟩:∃ w:Int,vW (Cc s.has) = .i .u64 w:=⟨_,rfl⟩
 simp only [vwB,hw] at h5 h1
 unfold QA eVw
 rw [hw]
 obtain ⟨n,hn⟩:∃ n,n=t.nodes.length:=⟨_,rfl⟩
 simp only [A3v,go_sem,↓reduceIte,Dt C t ht s hs,h9,h5,h8,hb,h7,hd,show min 4 12=4 from rfl,show min 7 12=7 from rfl,show min 8 12=8 from rfl,show min 9 12=9 from rfl,show min 10 12=10 from rfl,Nat.reduceAdd,Nat.reduceSub]
 rw [<- hn] at h2 h1 h3 h0 ⊢
 have h6:Ak n (fun e a=>hbQ t s a e || (decide (e < n) && decide (e=a)))=Ak n (Zg t s):=Ci fun a b ha _=>by rw [decide_eq_true ha,Bool.true_and];rfl
 refine Ag (by decide) n (by omega) (I:=fun k F h=>A4.tmp F 6 = .p 2 0 0 0/\h=[some DW,some DW,some ⟨Xp,0,0,false,[[.i .i64 t.vals,lS t.locs,.ls (t.regs.map JE),.ls (t.nodes.map eN),lI s.has,lI s.jf,.ls (s.mo.map DD),.i .u64 w,lW (PB t),lW (LV t),.sl 3 0 0 n,.sl 1 0 0 0]]⟩,
  some ⟨AK,1,0,false,(Ak n fun e a=>hbQ t s a e || (decide (e < k) && decide (e=a))).map eW⟩]) ?_ ?_ 0 _ _ (by omega) ?_ ?_ ?_
 .rintro k F h hk hj hi ⟨p6,rfl⟩
  have gW:=B9 (a:=Ak n fun e a=>hbQ t s a e || (decide (e < k) && decide (e=a))) (i:=k) (by rw [Aj];exact hk)
  have h4:=Jv h2 (fun e a=>hbQ t s a e || (decide (e < k) && decide (e=a))) hk hk
  have hg:Ak n (fun j i=>(hbQ t s i j || (decide (j < k) && decide (j=i))) || (decide (j=k) && decide (i=k)))=Ak n fun e a=>hbQ t s a e || (decide (e < k+1) && decide (e=a)):=by
   congr 1
   funext j i
   rw [Bool.or_assoc]
   congr 1
   rw [Bool.eq_iff_iff]
   simp only [Bool.or_eq_true,and_eq_true,decide_eq_true_eq]
   omega
  rw [hg] at h4
  have hh:∀ w,((Ak n fun e a=>hbQ t s a e || (decide (e < k) && decide (e=a))).map eW).set k [vW w]=((Ak n fun e a=>hbQ t s a e || (decide (e < k) && decide (e=a))).set k w).map eW:=fun w=>by rw [map_set]
  simp only [go_sem,↓reduceIte,hj,hi,p6,hk,gW,C0 C,hh,h4,Aj,length_map,A0]
 .rintro F h ⟨p6,rfl⟩
  rw [h6]
  simp only [go_sem,↓reduceIte,p6,h1,h3,h0,Aj,length_map,take_of_length_le (Nat.le_of_eq (Aj (n:=n) (p:=Zg t s)))]
 .simp only [go_sem,↓reduceIte]
 .simp only [go_sem,↓reduceIte]
 .simp only [go_sem,↓reduceIte]
  rw [show Ak n (fun a b=>hbQ t s b a)=Ak n (fun e a=>hbQ t s a e || (decide (e < 0) && decide (e=a))) from Ci fun a b _ _=>by simp]
end
def dnR (t:A1) (s:A6):Rows:=Ak t.nodes.length (Zg t s)
def BR (t:A1) (s:A6) (a b:Nat):Bool:=XA t ((dnR t s).getD a 0#64) ((dnR t s).getD b 0#64)
def Es (t:A1) (s:A6) (e:Nat):Bool:=AfO t s (Ak t.nodes.length (YF t s)) e
def DH (t:A1) (s:A6):BitVec 64:=Cc (s.has.filter fun e=>Es t s e.toNat)
section
variable {V:At} (C:Aq V) {Q:VV->Prop}
include C
theorem K2 (t:A1) (ht:A5 t) (s:A6) (hs:DL s) (hf:AG t s) (ok:YU t s):VP V A5f [vT t,Dy s] Q↔Q (vW (DH t s)):=by
 refine Ae ?_
 rw [Ad C.c_z23.1 C.c_z23.2]
 have h1:=fun (Q:VV->Prop)=>NH C t ht s hs hf (Q:=Q)
 have h0:=fun (Q:VV->Prop)=>A22 C t s hs (dnR t s) (Ak t.nodes.length (YF t s)) (g:=Mr) (a:=[.fp (QA t s) 0]) (c:=[]) (fun _ _=>rfl) Fz.nil (fun e=>Es t s e.toNat) (fun e he=>by
  obtain ⟨m,rfl,hm⟩:=A8 (hf.node _ he)
  exact (HA C t ht s hs ok (dnR t s) (YF t s) hm).2 rfl) (Q:=Q)
 unfold QA at h1 h0
 simp only [A8Z,go_sem,↓reduceIte,h1]
 exact (h0 _).2 rfl
end
end Go.AM
