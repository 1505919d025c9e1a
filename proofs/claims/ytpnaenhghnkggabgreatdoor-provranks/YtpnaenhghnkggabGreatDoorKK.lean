/-
  Own work, part of the proof of these laws: plain laws.
-/
import Derived.Test.YtpnaenhghnkggabGreatDoorKJ
set_option maxRecDepth 10000
set_option maxHeartbeats 64000000
set_option linter.unusedVariables false
set_option linter.unusedSimpArgs false
set_option linter.unusedSectionVars false
open Bool (and_eq_true or_eq_true not_eq_true' eq_false_iff)
open Int (toNat_natCast eq_ofNat_of_zero_le)
open List (getElem?_eq_getElem getD_eq_getElem?_getD length_map getElem_mem take_of_length_le any_eq_true map_set any_nil)
open Option (getD_some)
namespace Go.AM
open Go Go.Proofs
theorem CC {n:Nat} {p q:Nat->Nat->Bool} (h:∀ a b,a < n->b < n->p a b=q a b):Aj n p=Aj n q:=by
 unfold Aj
 apply List.map_congr_left
 intro a ha
 congr 1
 funext b
 cases c:decide (b < n) with
 | false=>rfl
 | true=>rw [h a b (List.mem_range.1 ha) (of_decide_eq_true c)]
theorem A6H {i j:Nat} (hj:j < 64):(BK (i:Int)).getLsbD j=decide (i=j):=by
 rw [Cb]
 exact decide_eq_decide.2 ⟨fun h=>by omega,fun h=>by omega⟩
theorem GL {n:Nat} (hn:n<=64) (q:Nat->Nat->Bool) {a b:Nat} (ha:a < n) (hb:b < n):(Aj n q).set b ((Aj n q).getD b 0#64 ||| BK (a:Int))=Aj n fun j i=>q j i || (decide (j=b) && decide (i=a)):=by
 apply List.ext_getElem
 .simp [Al]
 .intro j h1 h2
  rw [List.length_set,Al] at h1
  rw [List.getElem_set]
  have g:=BA (n:=n) (p:=q) h1
  have g2:=BA (n:=n) (p:=fun j i=>q j i || (decide (j=b) && decide (i=a))) h1
  rw [getElem?_eq_getElem (by rw [Al];exact h1),Option.some.injEq] at g g2
  rw [g2]
  by_cases c:b=j
  .subst c
   rw [if_pos rfl,getD_eq_getElem?_getD,BA h1,getD_some]
   apply Bm
   intro i hi
   rw [BitVec.getLsbD_or,AE,AE,A6H hi,decide_eq_true (show b=b from rfl),Bool.true_and]
   by_cases e:a=i
   .subst e;simp [ha,hi]
   .have e2:decide (i=a)=false:=decide_eq_false fun h=>e h.symm
    rw [decide_eq_false e,e2,Bool.or_false,Bool.or_false]
  .rw [if_neg c,g]
   congr 1
   funext i
   rw [decide_eq_false (show ¬ j=b from fun h=>c h.symm),Bool.false_and,Bool.or_false]
theorem LP {n:Nat} (hn:n<=64) (p:Nat->Nat->Bool) (x:Int×Int):x∈Bj (Aj n p)↔∃ a b:Nat,a < n/\b < n/\x=((a:Int),(b:Int))/\p a b=true:=by
 rw [Bj,Cm hn,if_pos rfl,Al,List.mem_flatMap]
 constructor
 .rintro ⟨a,ha,h⟩
  have h0:=List.mem_range.1 ha
  obtain ⟨j,hj,rfl⟩:=List.mem_map.1 h
  obtain ⟨h1,h2⟩:=Cu (B7.1 hj)
  obtain ⟨b,rfl⟩:=eq_ofNat_of_zero_le h1
  have h3:=B7.1 hj
  rw [AD,getD_eq_getElem?_getD,BA h0,getD_some,AE] at h3
  simp only [and_eq_true,decide_eq_true_eq] at h3
  exact ⟨a,b,h0,by omega,rfl,by simp_all⟩
 .rintro ⟨a,b,ha,hb,rfl,h⟩
  refine ⟨a,List.mem_range.2 ha,List.mem_map.2 ⟨b,B7.2 ?_,rfl⟩⟩
  rw [EJ hn ha hb];exact h
def bkP (P:List (Int×Int)) (k:Nat) (j i:Nat):Bool:=(P.take k).any fun x=>decide (x=((i:Int),(j:Int)))
theorem A99 {P:List (Int×Int)} {k a b:Nat} (hk:k < P.length) (e:P[k]=((a:Int),(b:Int))):(fun j i=>bkP P k j i || (decide (j=b) && decide (i=a)))=bkP P (k+1):=by
 funext j i
 unfold bkP
 rw [List.take_succ_eq_append_getElem hk,List.any_append,e]
 congr 1
 simp only [List.any_cons,any_nil,Bool.or_false]
 rw [<- Bool.decide_and]
 refine decide_eq_decide.2 ⟨fun ⟨h1,h2⟩=>by rw [h1,h2],fun h=>?_⟩
 simp only [Prod.mk.injEq] at h
 omega
theorem AdM {n:Nat} (hn:n<=64) (p:Nat->Nat->Bool):Aj n (bkP (Bj (Aj n p)) (Bj (Aj n p)).length)=Aj n fun a b=>p b a:=by
 refine CC fun j i hj hi=>?_
 unfold bkP
 rw [List.take_length,Bool.eq_iff_iff,any_eq_true]
 constructor
 .rintro ⟨x,hx,h⟩
  obtain ⟨a,b,_,_,rfl,hp⟩:=(LP hn p x).1 hx
  have h:=of_decide_eq_true h
  simp only [Prod.mk.injEq] at h
  have e1:a=i:=by omega
  have e2:b=j:=by omega
  rw [<- e1,<- e2];exact hp
 .intro h
  exact ⟨_,(LP hn p _).2 ⟨i,j,hi,hj,rfl,h⟩,decide_eq_true rfl⟩
section
variable {V:Am} (C:Ap V)
include C
theorem Rp {n:Nat} (hn:n<=64) (p:Nat->Nat->Bool) {Q:Ex->A3->VH->Prop} (hq:∀ F,A3.tmp F 2 = .sl 0 0 0 n->Q .ret F [some ⟨AL,1,0,false,(Aj n fun a b=>p b a).map eW⟩]) :
  Vc V QD Ng.body (Tm.ofList [lW (Aj n p)]) [] Q:=by
 obtain ⟨R,hR⟩:∃ R,R=Aj n p:=⟨_,rfl⟩
 have h2:=AdM hn p
 have h3:=fun x=>LP hn p x
 have h1:=Cm hn p
 have h0:=Al (n:=n) (p:=p)
 rw [<- hR] at h2 h3 h1 h0 ⊢
 have h9:(Bj R).length<=5000:=by
  have:=Nz R R.length
  rw [Bj,if_pos h1]
  rw [h0] at this ⊢;omega
 have b1:n * 8<=A8:=by unfold A8;omega
 simp only [Ng,go_sem,↓reduceIte,Cx C,h1,h0,b1,Pb C,Int.le_refl]
 refine Ag (by decide) (Bj R).length (by omega) (I:=fun k F h=>A3.tmp F 3 = .sl 0 0 0 n/\A3.tmp F 13=lP (Bj R)/\h=[some ⟨AL,1,0,false,(Aj n (bkP (Bj R) k)).map eW⟩]) ?_ ?_ 0 _ _ (by omega) ?_ ?_ ?_
 .rintro k F h hk h8 h7 ⟨p3,h6,rfl⟩
  obtain ⟨a,b,ha,hb,e,_⟩:=(h3 _).1 (getElem_mem hk)
  have Cs:(Bj R)[k]? = some ((a:Int),(b:Int)):=by rw [getElem?_eq_getElem hk,e]
  have gW:=B4 (a:=Aj n (bkP (Bj R) k)) (i:=b) (by rw [Al];exact hb)
  have h4:=GL hn (bkP (Bj R) k) ha hb
  rw [A99 hk e] at h4
  have h5:∀ w,((Aj n (bkP (Bj R) k)).map eW).set b [vW w]=((Aj n (bkP (Bj R) k)).set b w).map eW:=fun w=>by rw [map_set]
  simp only [go_sem,↓reduceIte,h8,h7,p3,h6,Cs,hk,hb,gW,BN C,h5,h4,Al,length_map,A0]
 .rintro F h ⟨p3,h6,rfl⟩
  rw [h2]
  simp only [go_sem,↓reduceIte,p3]
  exact hq _ (by simp only [go_sem,↓reduceIte,p3])
 .simp only [go_sem,↓reduceIte]
 .simp only [go_sem,↓reduceIte]
 .simp only [go_sem,↓reduceIte]
  rw [<- KS]
  rfl
theorem Rq {n:Nat} (hn:n<=64) (p:Nat->Nat->Bool) {Q:VV->Prop}:VP V Np [lW (Aj n p)] Q↔Q (lW (Aj n fun a b=>p b a)):=by
 refine Ad ?_
 rw [Ab C.c_z109.1 C.c_z109.2]
 refine Rp C hn p fun F h=>?_
 simp only [Ng,go_sem,↓reduceIte,h,Al,length_map,take_of_length_le (Nat.le_of_eq (Al (n:=n) (p:=fun a b=>p b a)))]
theorem A0O {n:Nat} (hn:n<=64) (p:Nat->Nat->Bool) (b:Nat) {Q:VV->VH->Prop}:TE V Np [lW (Aj n p)] b Q↔Q (.sl b 0 0 n) [some ⟨AL,1,0,false,(Aj n fun a b=>p b a).map eW⟩]:=by
 refine Hs ?_
 rw [Ht C.c_z109.2]
 refine Rp C hn p fun F h=>?_
 simp only [Ng,go_sem,↓reduceIte,h,Al,length_map,Bl]
 simp
end
def Tl (n:Nat) (p:Nat->Nat->Bool) (a b:Nat):Bool:=((Bz (Aj n p)).getD a 0#64).getLsbD b || decide (a=b)
theorem T7 {n:Nat} (hn:n<=64) (p:Nat->Nat->Bool):Bz (Aj n p)=Aj n fun a b=>((Bz (Aj n p)).getD a 0#64).getLsbD b:=by
 have hl:=DB hn p
 apply List.ext_getElem
 .rw [hl,Al]
 .intro a h1 h2
  rw [hl] at h1
  have g:=BA (n:=n) (p:=fun a b=>((Bz (Aj n p)).getD a 0#64).getLsbD b) h1
  rw [getElem?_eq_getElem h2,Option.some.injEq] at g
  rw [g]
  apply Bm
  intro b hb
  rw [AE,getD_eq_getElem?_getD,getElem?_eq_getElem (by omega),getD_some]
  by_cases c:b < n
  .simp [c,hb]
  .rw [decide_eq_false c,Bool.false_and,Bool.false_and]
   rw [eq_false_iff]
   intro hc
   have:=(E3 hn p (a:=a) (b:=b) h1).1 (by rw [getD_eq_getElem?_getD,getElem?_eq_getElem (by omega)];exact hc)
   exact c this.lt
section
variable {V:Am} (C:Ap V)
include C
theorem Sb {n:Nat} (hn:n<=64) (p:Nat->Nat->Bool) (b:Nat) {Q:VV->VH->Prop}:TE V QO [lW (Aj n p)] b Q↔Q (.sl b 0 0 n) [some ⟨AL,1,0,false,(Bz (Aj n p)).map eW⟩]:=by
 refine Hs ?_
 rw [Ht C.c_z125.2]
 have hm:=Cm hn p
 have h6:=Al (n:=n) (p:=p)
 obtain ⟨a,ha⟩:∃ a,a=Aj n p:=⟨_,rfl⟩
 rw [<- ha] at hm h6 ⊢
 have hl:=Ga hm
 have h0:a.length * 8<=A8:=by unfold A8;omega
 have h7:¬ (64:Int) < n:=by omega
 subst h6
 simp only [Ql,go_sem,↓reduceIte,Cx C,hm,h0,Int.le_refl]
 refine Ag (by decide) a.length (by omega) (I:=fun k F h=>A3.tmp F 0=lW a/\A3.tmp F 12=lW a/\A3.tmp F 3 = .sl 0 0 0 a.length/\h=[some ⟨AL,1,0,false,(CO a.length k (fun i=>Eg a (a.getD i 0#64)) 0#64).map eW⟩]) ?_ ?_ 0 _ _ (by omega) ?_ ?_ ?_
 .rintro k F h hk h1 h2 ⟨h3,h4,h5,rfl⟩
  have hu:=NI (n:=a.length) (k:=k) (f:=fun i=>Eg a (a.getD i 0#64)) (z:=0#64)
  simp only [go_sem,↓reduceIte,h1,h2,h3,h4,h5,hk,B4 hk,Lq C a hm,GQ hk,hu]
 .rintro F h ⟨h3,h4,h5,rfl⟩
  simp only [go_sem,↓reduceIte,h5,EM,Bz,hm,Bl]
  simp
 all_goals simp only [go_sem,↓reduceIte]
 all_goals first | rfl | rw [DN]
theorem Yo {n:Nat} (hn:n<=64) (p:Nat->Nat->Bool) {Q:VV->Prop}:VP V Xb [lW (Aj n p)] Q↔Q (lW (Aj n (Tl n p))):=by
 refine Ad ?_
 rw [Ab C.c_z123.1 C.c_z123.2]
 have h3:=T7 hn p
 obtain ⟨q,hq⟩:∃ q,q=fun a b=>((Bz (Aj n p)).getD a 0#64).getLsbD b:=⟨_,rfl⟩
 rw [<- hq] at h3
 have h5:Tl n p=fun a b=>q a b || decide (a=b):=by rw [hq];rfl
 have h2:=fun (b:Nat) (Q:VV->VH->Prop)=>Sb C hn p b (Q:=Q)
 rw [h3] at h2
 simp only [A25,go_sem,↓reduceIte,h2]
 refine Ag (by decide) n (by omega) (I:=fun k F h=>A3.tmp F 3 = .sl 0 0 0 n/\h=[some ⟨AL,1,0,false,(Aj n fun a b=>q a b || (decide (a < k) && decide (a=b))).map eW⟩]) ?_ ?_ 0 _ _ (by omega) ?_ ?_ ?_
 .rintro k F h hk p9 p8 ⟨p3,rfl⟩
  have gW:=B4 (a:=Aj n fun a b=>q a b || (decide (a < k) && decide (a=b))) (i:=k) (by rw [Al];exact hk)
  have h0:=GL hn (fun a b=>q a b || (decide (a < k) && decide (a=b))) hk hk
  have h4:Aj n (fun j i=>(q j i || (decide (j < k) && decide (j=i))) || (decide (j=k) && decide (i=k)))=Aj n fun a b=>q a b || (decide (a < k+1) && decide (a=b)):=by
   congr 1
   funext j i
   rw [Bool.or_assoc]
   congr 1
   rw [Bool.eq_iff_iff]
   simp only [or_eq_true,and_eq_true,decide_eq_true_eq]
   omega
  rw [h4] at h0
  have h1:∀ w,((Aj n fun a b=>q a b || (decide (a < k) && decide (a=b))).map eW).set k [vW w]=((Aj n fun a b=>q a b || (decide (a < k) && decide (a=b))).set k w).map eW:=fun w=>by rw [map_set]
  simp only [go_sem,↓reduceIte,p9,p8,p3,hk,gW,BN C,h1,h0,Al,length_map,A0]
 .rintro F h ⟨p3,rfl⟩
  have e:Aj n (fun a b=>q a b || (decide (a < n) && decide (a=b)))=Aj n (Tl n p):=by
   rw [h5]
   exact CC fun a b ha hb=>by rw [decide_eq_true ha,Bool.true_and]
  simp only [go_sem,↓reduceIte,p3,e,Al,length_map,take_of_length_le (Nat.le_of_eq (Al (n:=n) (p:=Tl n p)))]
 .simp only [go_sem,↓reduceIte]
 .simp only [go_sem,↓reduceIte]
 .simp only [go_sem,↓reduceIte]
  rw [show Aj n q=Aj n fun a b=>q a b || (decide (a < 0) && decide (a=b)) from CC fun a b _ _=>by simp]
theorem Kl (a:Rows) (hm:CX a=true) (s:BitVec 64) (b:Nat) {Q:VV->VH->Prop}:TE V A0h [lW a,vW s] b Q↔Q (.sl b 0 0 a.length) [some ⟨AL,1,0,false,(Mz a s).map eW⟩]:=by
 refine Hs ?_
 rw [Ht C.c_z32.2]
 have hl:=Ga hm
 simp only [ZH,go_sem,↓reduceIte,Cx C,hm,Mz,
   Pc C (show a.length<=1000 by omega) (gf:=SW) (a:=[.ag [lW a,vW s]]) (c:=[]) (fun _ _=>rfl) Fz.nil (fun (i:Nat)=>if B1 s (i:Int) then a.getD i 0#64 &&& s else 0#64) 0 (fun i hi=>(Km C a s hi).2 rfl),Bl]
 simp
end
def PA (t:A2):Rows:=Aj t.nodes.length fun a b=>AH t a b
def JD (t:A2):Rows:=Aj t.nodes.length fun a b=>Ah t a b
def NY (t:A2) (A B:BitVec 64):Bool:=!decide (Dz (PA t) A &&& B=0#64)
abbrev eVw (t:A2) (s:A6) (D H:Rows):List VV:=[.i .i64 t.vals,lS t.locs,.ls (t.regs.map Hv),.ls (t.nodes.map eN),lI s.has,lI s.jf,.ls (s.mo.map De),vW (CP s.has),lW (PA t),lW (JD t),lW D,lW H]
def RX (t:A2) (s:A6) (w:Nat):List Int:=(s.mo.getD (t.at w).loc.toNat []).getD (BQ s (t.at w).loc w).toNat []
def A9u (t:A2) (s:A6) (w e:Nat):Bool:=(RX t s w).any fun c=>decide (c=(e:Int)) || B1 ((JD t).getD c.toNat 0#64) e || B1 ((JD t).getD e 0#64) c
def S1 (t:A2) (s:A6) (r e:Nat):Bool :=
 let w:=Li s r
 if w < 0\/(t.at w.toNat).thread < 0\/(t.at w.toNat).thread=(t.at r).thread then false else B1 ((PA t).getD w.toNat 0#64) e && !A9u t s w.toNat e
def Ad8 (t:A2) (s:A6) (H:Rows) (e:Nat):Bool:=(AC (H.getD e 0#64)).all fun r=>!S1 t s r.toNat e
structure A1n (t:A2) (s:A6):Prop where
 jf:∀ r:Nat,(Li s r < 0)\/∃ w:Nat,Li s r=w/\w < t.nodes.length/\0<=(t.at w).loc/\(t.at w).loc < s.mo.length/\0<=BQ s (t.at w).loc w/\BQ s (t.at w).loc w < (s.mo.getD (t.at w).loc.toNat []).length/\∀ c∈RX t s w,BU t c=true
section
variable {V:Am} (C:Ap V) {Q:VV->Prop}
include C
theorem Jy (t:A2) (ht:A9 t) (s:A6) (D H:Rows) (A B:BitVec 64):VP V Xd [.fp (eVw t s D H) 0,vW A,vW B] Q↔Q (.b (NY t A B)):=by
 refine Ad ?_
 rw [Ab C.c_z126.1 C.c_z126.2]
 have hm:CX (PA t)=true:=Cm ht.n64 _
 unfold NY
 cases c:decide (Dz (PA t) A &&& B=0#64)<;>simp only [A27,go_sem,↓reduceIte,Rr C _ hm,c]
theorem A0T (t:A2) (ht:A9 t) (s:A6) (D H:Rows) {a b:Nat} (ha:a < D.length) (hb:b < D.length):VP V A0v [.fp (eVw t s D H) 0,.i .i64 a,.i .i64 b] Q↔Q (.b (NY t (D.getD a 0#64) (D.getD b 0#64))):=by
 refine Ad ?_
 rw [Ab C.c_z80.1 C.c_z80.2]
 simp only [Aaq,go_sem,↓reduceIte,B4 ha,B4 hb,ha,hb,Jy C t ht]
theorem Sr (t:A2) (ht:A9 t) (s:A6) (D H:Rows) {a:Nat} (ha:a < D.length):VP V A0u [.fp (eVw t s D H) 0,.i .i64 a] Q↔Q (.b (!NY t (D.getD a 0#64) (D.getD a 0#64))):=by
 refine Ad ?_
 rw [Ab C.c_z79.1 C.c_z79.2]
 simp only [Aao,go_sem,↓reduceIte,B4 ha,ha,Jy C t ht]
theorem YC (t:A2) (ht:A9 t) (s:A6) (hs:El s) (D H:Rows) {w e:Nat} (hw:w < t.nodes.length) (he:e < t.nodes.length) (h1:0<=(t.at w).loc) (h2:(t.at w).loc < s.mo.length) (h3:0<=BQ s (t.at w).loc w) (h4:BQ s (t.at w).loc w < (s.mo.getD (t.at w).loc.toNat []).length)
  (h5:∀ c∈RX t s w,BU t c=true):VP V Xz [.fp (eVw t s D H) 0,.i .i64 w,.i .i64 e] Q↔Q (.b (A9u t s w e)):=by
 refine Ad ?_
 rw [Ab C.c_z176.1 C.c_z176.2]
 obtain ⟨loc,h8⟩:=eq_ofNat_of_zero_le h1
 unfold A9u
 unfold RX at h5 ⊢
 have hd:=fun (Q:VV->Prop)=>HE C s hs (t.at w).loc w (Q:=Q)
 rw [h8] at h2 h3 h4 h5 hd ⊢
 rw [toNat_natCast] at h4 h5 ⊢
 obtain ⟨pl,hm⟩:=eq_ofNat_of_zero_le h3
 rw [hm] at h4 h5 hd ⊢
 rw [toNat_natCast] at h5 ⊢
 have hh:loc < s.mo.length:=by omega
 have h0:pl < (s.mo.getD loc []).length:=by omega
 have gL:=BP hh
 have gI:=EY h0
 have hl:=hs.mc' loc pl
 obtain ⟨c,hc⟩:∃ c,c=(s.mo.getD loc []).getD pl []:=⟨_,rfl⟩
 rw [<- hc] at gI hl h5 ⊢
 obtain ⟨L,hL⟩:∃ L,L=s.mo.getD loc []:=⟨_,rfl⟩
 rw [<- hL] at gL gI h0
 have ho:(JD t).length=t.nodes.length:=Al
 simp only [A2y,go_sem,↓reduceIte,hw,A5 hw,h8,gL,gI,hh,h0,hd]
 have hn:∀ k,k<=c.length->(∀ j,j < k->∀ hj:j < c.length,(decide (c[j]=(e:Int)) || B1 ((JD t).getD c[j].toNat 0#64) e || B1 ((JD t).getD e 0#64) c[j])=false)->k=c.length->(c.any fun x=>decide (x=(e:Int)) || B1 ((JD t).getD x.toNat 0#64) e || B1 ((JD t).getD e 0#64) x)=false:=by
  intro k hk h e1
  rw [List.any_eq_false]
  intro x hx
  obtain ⟨j,hj,rfl⟩:=List.getElem_of_mem hx
  rw [h j (by omega) hj];decide
 refine Ag (by decide) c.length (by omega) (I:=fun k F h=>A3.tmp F 0 = .fp (eVw t s D H) 0/\A3.tmp F 2 = .i .i64 e/\A3.tmp F 35=lI c/\h=[]/\∀ j,j < k->∀ hj:j < c.length,(decide (c[j]=(e:Int)) || B1 ((JD t).getD c[j].toNat 0#64) e || B1 ((JD t).getD e 0#64) c[j])=false) ?_ ?_ 0 _ _ (by omega) ?_ ?_ ?_
 .rintro k F h hk ha h9 ⟨p0,p2,h7,rfl,pr⟩
  obtain ⟨x,hx,hp⟩:=A7 (h5 _ (getElem_mem hk))
  have gK:c[k]? = some (x:Int):=by rw [getElem?_eq_getElem hk,hx]
  have h6:(decide ((x:Int)=(e:Int)) || B1 ((JD t).getD x 0#64) e || B1 ((JD t).getD e 0#64) (x:Int))=true->(c.any fun x=>decide (x=(e:Int)) || B1 ((JD t).getD x.toNat 0#64) e || B1 ((JD t).getD e 0#64) x)=true:=fun h=>by
   rw [any_eq_true]
   refine ⟨_,getElem_mem hk,?_⟩
   rw [hx,toNat_natCast];exact h
  have g1:=B4 (a:=JD t) (i:=x) (by omega)
  have g2:=B4 (a:=JD t) (i:=e) (by omega)
  have hf:x < (JD t).length:=by omega
  have hg:e < (JD t).length:=by omega
  cases d1:decide ((x:Int)=(e:Int)) with
  | true =>
   have hb:=h6 (by rw [d1];rfl)
   simp only [go_sem,↓reduceIte,ha,h9,p0,p2,h7,gK,hk,d1,hb,A0]
  | false =>
  cases d2:B1 ((JD t).getD x 0#64) e with
  | true =>
   have hb:=h6 (by rw [d2];simp)
   simp only [go_sem,↓reduceIte,ha,h9,p0,p2,h7,gK,hk,d1,g1,hf,AK C,d2,hb,A0]
  | false =>
  cases d3:B1 ((JD t).getD e 0#64) (x:Int) with
  | true =>
   have hb:=h6 (by rw [d3];simp)
   simp only [go_sem,↓reduceIte,ha,h9,p0,p2,h7,gK,hk,d1,g1,g2,hf,hg,AK C,d2,d3,hb,A0]
  | false =>
   simp only [go_sem,↓reduceIte,ha,h9,p0,p2,h7,gK,hk,d1,g1,g2,hf,hg,AK C,d2,d3,A0]
   intro j hj hi
   rcases Nat.lt_or_ge j k with q | q
   .exact pr j q hi
   .obtain rfl:j=k:=by omega
    rw [hx,toNat_natCast,d1,d2,d3];rfl
 .rintro F h ⟨p0,p2,h7,rfl,pr⟩
  have hb:=hn _ (Nat.le_refl _) pr rfl
  simp only [go_sem,↓reduceIte,p0,p2,h7,hb]
 .simp only [go_sem,↓reduceIte]
 .simp only [go_sem,↓reduceIte]
 .simp only [go_sem,↓reduceIte]
  intro j hj;omega
theorem Lx (t:A2) (ht:A9 t) (s:A6) (hs:El s) (ok:A1n t s) (D H:Rows) {r e:Nat} (hr:r < t.nodes.length) (he:e < t.nodes.length):VP V Xe [.fp (eVw t s D H) 0,.i .i64 r,.i .i64 e] Q↔Q (.b (S1 t s r e)):=by
 refine Ad ?_
 rw [Ab C.c_z127.1 C.c_z127.2]
 have hj:=fun (Q:VV->Prop)=>Jm C s hs (r:Int) (Q:=Q)
 unfold S1
 simp only
 rcases ok.jf r with h | ⟨w,hw,hwn,h1,h2,h3,h4,h5⟩
 .have d:decide (Li s r < 0)=true:=decide_eq_true h
  rw [if_pos (.inl h)]
  simp only [LG,go_sem,↓reduceIte,hj,d]
 .rw [hw,toNat_natCast]
  rw [hw] at hj
  have d0:decide ((w:Int) < 0)=false:=decide_eq_false (by omega)
  cases d1:decide ((t.at w).thread < 0) with
  | true =>
   rw [if_pos (.inr (.inl (of_decide_eq_true d1)))]
   simp only [LG,go_sem,↓reduceIte,hj,d0,hwn,A5 hwn,d1]
  | false =>
  cases d2:decide ((t.at w).thread=(t.at r).thread) with
  | true =>
   rw [if_pos (.inr (.inr (of_decide_eq_true d2)))]
   simp only [LG,go_sem,↓reduceIte,hj,d0,hwn,A5 hwn,d1,hr,A5 hr,d2]
  | false =>
   rw [if_neg (by
    rintro (h | h | h)
    .omega
    .exact of_decide_eq_false d1 h
    .exact of_decide_eq_false d2 h)]
   have h0:w < (PA t).length:=by rw [PA,Al];exact hwn
   have g1:=B4 (a:=PA t) (i:=w) h0
   have h6:=fun (Q:VV->Prop)=>YC C t ht s hs D H hwn he h1 h2 h3 h4 h5 (Q:=Q)
   cases d3:B1 ((PA t).getD w 0#64) e with
   | false=>simp only [LG,go_sem,↓reduceIte,hj,d0,hwn,A5 hwn,d1,hr,A5 hr,d2,g1,h0,AK C,d3,Bool.false_and]
   | true=>simp only [LG,go_sem,↓reduceIte,hj,d0,hwn,A5 hwn,d1,hr,A5 hr,d2,g1,h0,AK C,d3,h6,Bool.true_and]
theorem Pt (t:A2) (ht:A9 t) (s:A6) (hs:El s) (ok:A1n t s) (D:Rows) (p:Nat->Nat->Bool) {e:Nat} (he:e < t.nodes.length):VP V A0w [.fp (eVw t s D (Aj t.nodes.length p)) 0,.i .i64 e] Q↔Q (.b (Ad8 t s (Aj t.nodes.length p) e)):=by
 refine Ad ?_
 rw [Ab C.c_z81.1 C.c_z81.2]
 obtain ⟨H,hH⟩:∃ H,H=Aj t.nodes.length p:=⟨_,rfl⟩
 have hc:H.length=t.nodes.length:=by rw [hH,Al]
 have h5:∀ r∈AC (H.getD e 0#64),∃ m:Nat,r=m/\m < t.nodes.length:=fun r hr=>by
  obtain ⟨h1,h2⟩:=Cu (B7.1 hr)
  obtain ⟨m,rfl⟩:=eq_ofNat_of_zero_le h1
  have h3:=B7.1 hr
  rw [AD,hH,getD_eq_getElem?_getD,BA he,getD_some,AE] at h3
  simp only [and_eq_true,decide_eq_true_eq] at h3
  exact ⟨m,rfl,h3.1.1⟩
 rw [<- hH]
 have h4:e < H.length:=by omega
 have g1:=B4 (a:=H) (i:=e) h4
 have ha:=Cv (H.getD e 0#64)
 obtain ⟨L,hL⟩:∃ L,L=AC (H.getD e 0#64):=⟨_,rfl⟩
 unfold Ad8
 rw [<- hL] at h5 ha ⊢
 have h6:=fun (Q:VV->Prop)=>Cz C (H.getD e 0#64) (Q:=Q)
 rw [<- hL] at h6
 simp only [Aar,go_sem,↓reduceIte,g1,h4,h6]
 refine Ag (by decide) L.length (by omega) (I:=fun k F h=>A3.tmp F 0 = .fp (eVw t s D H) 0/\A3.tmp F 1 = .i .i64 e/\A3.tmp F 14=lI L/\h=[]/\∀ x∈L.take k,S1 t s x.toNat e=false) ?_ ?_ 0 _ _ (by omega) ?_ ?_ ?_
 .rintro k F h hk h9 h8 ⟨p0,p1,h0,rfl,pr⟩
  obtain ⟨m,hm,h7⟩:=h5 _ (getElem_mem hk)
  have gK:L[k]? = some (m:Int):=by rw [getElem?_eq_getElem hk,hm]
  cases d:S1 t s m e with
  | true =>
   have hb:(L.all fun r=>!S1 t s r.toNat e)=false:=by
    rw [List.all_eq_false]
    exact ⟨_,getElem_mem hk,by rw [hm,toNat_natCast,d];decide⟩
   simp only [go_sem,↓reduceIte,h9,h8,p0,p1,h0,gK,hk,Lx C t ht s hs ok D H h7 he,d,hb,A0]
  | false =>
   simp only [go_sem,↓reduceIte,h9,h8,p0,p1,h0,gK,hk,Lx C t ht s hs ok D H h7 he,d,A0]
   intro x hx
   rw [List.take_succ_eq_append_getElem hk] at hx
   rcases List.mem_append.1 hx with hx | hx
   .exact pr x hx
   .rw [List.mem_singleton.1 hx,hm,toNat_natCast];exact d
 .rintro F h ⟨p0,p1,h0,rfl,pr⟩
  rw [List.take_length] at pr
  have hb:(L.all fun r=>!S1 t s r.toNat e)=true:=by
   rw [List.all_eq_true]
   exact fun x hx=>by rw [pr x hx];rfl
  simp only [go_sem,↓reduceIte,p0,p1,h0,hb]
 .simp only [go_sem,↓reduceIte]
 .simp only [go_sem,↓reduceIte]
 .simp only [go_sem,↓reduceIte]
end
def BC (t:A2) (s:A6) (k a b:Nat):Bool:=(B1 (CP s.has) a && B1 (CP s.has) b && Ah t a b) || (List.range k).any fun i=>decide (s.jf.getD i 0=(a:Int)) && decide (s.has.getD i 0=(b:Int))
theorem Ry (t:A2) (s:A6) (k:Nat) {w n:Nat} (hw:s.jf.getD k 0=w) (hn:s.has.getD k 0=n):(fun a b=>BC t s k a b || (decide (a=w) && decide (b=n)))=BC t s (k+1):=by
 funext a b
 unfold BC
 rw [List.range_succ,List.any_append,Bool.or_assoc]
 congr 2
 simp only [List.any_cons,any_nil,Bool.or_false,hw,hn]
 rw [Bool.eq_iff_iff]
 simp only [and_eq_true,decide_eq_true_eq]
 omega
theorem A0W (t:A2) (s:A6) (k:Nat) (hw:s.jf.getD k 0 < 0):BC t s (k+1)=BC t s k:=by
 funext a b
 unfold BC
 rw [List.range_succ,List.any_append]
 congr 1
 have:decide (s.jf.getD k 0=(a:Int))=false:=decide_eq_false (by omega)
 simp only [List.any_cons,any_nil,this,Bool.false_and,Bool.or_false]
def vwB (t:A2) (s:A6) (d h:VV):Option VO:=some ⟨NM,0,0,false,[[.i .i64 t.vals,lS t.locs,.ls (t.regs.map Hv),.ls (t.nodes.map eN),lI s.has,lI s.jf,.ls (s.mo.map De),vW (CP s.has),lW (PA t),lW (JD t),d,h]]⟩
section
variable {V:Am} (C:Ap V)
include C
theorem A0U (t:A2) (ht:A9 t) (s:A6) (hs:El s) (hf:Bg t s) (x0 x1 x3:Option VO) (d h:VV) {Q:VV->VH->Prop} :
  Gh V Xc [.p 2 0 0 0] [x0,x1,vwB t s d h,x3] Q↔Q (lW (Aj t.nodes.length (BC t s s.has.length))) [x0,x1,vwB t s d h,x3]:=by
 refine Db ?_
 rw [Cf C.h_z124]
 have h1:=ht.n64
 have g1:=hs.has
 have hb:CX (JD t)=true:=Cm h1 _
 have ha:Mz (JD t) (CP s.has)=Aj t.nodes.length (BC t s 0):=by
  rw [JD,Jc h1]
  refine CC fun a b _ _=>?_
  simp [BC]
 have h6:=fun (b:Nat) (Q:VV->VH->Prop)=>Kl C (JD t) hb (CP s.has) b (Q:=Q)
 rw [ha,show (JD t).length=t.nodes.length from Al] at h6
 simp only [A26,go_sem,↓reduceIte,vwB,h6]
 obtain ⟨n,hn⟩:∃ n,n=t.nodes.length:=⟨_,rfl⟩
 rw [<- hn] at h1 ⊢
 refine Ag (by decide) s.has.length (by omega) (I:=fun k F h'=>A3.tmp F 0 = .p 2 0 0 0/\A3.tmp F 3 = .sl 4 0 0 n/\A3.tmp F 20=lI s.has/\h' = [x0,x1,vwB t s d h,x3,some ⟨AL,1,0,false,(Aj n (BC t s k)).map eW⟩]) ?_ ?_ 0 _ _ (by omega) ?_ ?_ ?_
 .rintro k F h' hk h9 h8 ⟨p0,p3,h3,rfl⟩
  have gH:=Ak hk
  have h4:k < s.jf.length:=by rw [hf.jl];exact hk
  have gJ:=Ak h4
  obtain ⟨m,hm,h7⟩:=A7 (hf.node _ (Ac (d:=0) hk))
  rw [<- hn] at h7
  have hj:=hf.just k hk
  rw [hm] at gH hj
  by_cases c:(t.at m).kind=2
  .simp only [okJ,toNat_natCast,c,if_true,and_eq_true,Af] at hj
   obtain ⟨w,hw,h2⟩:=A7 (hf.node _ hj.1.1)
   rw [<- hn] at h2
   rw [hw] at gJ
   have d0:decide ((0:Int)<=(w:Int))=true:=decide_eq_true (by omega)
   have gW:=B4 (a:=Aj n (BC t s k)) (i:=w) (by rw [Al];exact h2)
   have h0:=GL h1 (BC t s k) h7 h2
   rw [Ry t s k hw hm] at h0
   have h5:∀ x,((Aj n (BC t s k)).map eW).set w [vW x]=((Aj n (BC t s k)).set w x).map eW:=fun x=>by rw [map_set]
   simp only [go_sem,↓reduceIte,h9,h8,p0,p3,h3,gH,gJ,hk,h4,d0,gW,h2,BN C,h5,h0,Al,length_map,vwB,A0]
  .simp only [okJ,toNat_natCast,c,if_false,decide_eq_true_eq] at hj
   rw [hj] at gJ
   rw [A0W t s k (by rw [hj];decide)]
   simp only [go_sem,↓reduceIte,h9,h8,p0,p3,h3,gH,gJ,hk,h4,vwB,A0]
 .rintro F h' ⟨p0,p3,h3,rfl⟩
  simp only [go_sem,↓reduceIte,p0,p3,h3,vwB,Al,length_map,take_of_length_le (Nat.le_of_eq (Al (n:=n) (p:=BC t s s.has.length)))]
 .simp only [go_sem,↓reduceIte]
 .simp only [go_sem,↓reduceIte]
 .simp only [go_sem,↓reduceIte]
  rfl
end
def hbQ (t:A2) (s:A6) (a b:Nat):Bool:=((Lh t s.has s.jf).getD a 0#64).getLsbD b
def dnB (t:A2) (s:A6) (e a:Nat):Bool:=hbQ t s a e || decide (e=a)
def hgB (t:A2) (s:A6):Nat->Nat->Bool:=Tl t.nodes.length fun a b=>BC t s s.has.length b a
def RR (t:A2) (s:A6):List VV:=eVw t s (Aj t.nodes.length (dnB t s)) (Aj t.nodes.length (hgB t s))
section
variable {V:Am} (C:Ap V) {Q:VV->Prop}
include C
theorem A8c (t:A2) (ht:A9 t) (s:A6) (hs:El s) (hf:Bg t s):VP V A0s [vT t,Eu s] Q↔Q (.tu [.fp (RR t s) 0,.b true]):=by
 refine Ad ?_
 rw [Ab C.c_z77.1 C.c_z77.2]
 have h2:=ht.n64
 have h9:=AY.2 hf
 have he:=B3 h9
 have h7:=fun (Q:VV->Prop)=>To C t ht s.has s.jf hs.has hs.jf (Q:=Q)
 rw [hbF,if_pos he] at h7
 have hc:Lh t s.has s.jf=Aj t.nodes.length (hbQ t s):=T7 h2 _
 rw [hc] at h7
 have hd:=fun (b:Nat) (Q:VV->VH->Prop)=>A0O C h2 (hbQ t s) b (Q:=Q)
 have h8:=fun (Q:VV->Prop)=>Jz C t ht (Q:=Q)
 have hb:=fun (Q:VV->Prop)=>KV C t ht (Q:=Q)
 rw [<- PA] at h8
 rw [<- JD] at hb
 have h5:=fun (Q:VV->Prop)=>Kr C s hs (Q:=Q)
 have h1:=fun (x0 x1 x3:Option VO) (d h:VV) (Q:VV->VH->Prop)=>A0U C t ht s hs hf x0 x1 x3 d h (Q:=Q)
 have h3:=fun (Q:VV->Prop)=>Rq C h2 (BC t s s.has.length) (Q:=Q)
 have h0:=fun (Q:VV->Prop)=>Yo C h2 (fun a b=>BC t s s.has.length b a) (Q:=Q)
 rw [<- hgB] at h0
 obtain ⟨w,hw⟩:∃ w:Int,vW (CP s.has) = .i .u64 w:=⟨_,rfl⟩
 simp only [vwB,hw] at h5 h1
 unfold RR eVw
 rw [hw]
 obtain ⟨n,hn⟩:∃ n,n=t.nodes.length:=⟨_,rfl⟩
 simp only [A5f,go_sem,↓reduceIte,MY C t ht s hs,h9,h5,h8,hb,h7,hd,show min 4 12=4 from rfl,show min 7 12=7 from rfl,show min 8 12=8 from rfl,show min 9 12=9 from rfl,show min 10 12=10 from rfl,Nat.reduceAdd,Nat.reduceSub]
 rw [<- hn] at h2 h1 h3 h0 ⊢
 have h6:Aj n (fun e a=>hbQ t s a e || (decide (e < n) && decide (e=a)))=Aj n (dnB t s):=CC fun a b ha _=>by rw [decide_eq_true ha,Bool.true_and];rfl
 refine Ag (by decide) n (by omega) (I:=fun k F h=>A3.tmp F 6 = .p 2 0 0 0/\h=[some Dh,some Dh,some ⟨NM,0,0,false,[[.i .i64 t.vals,lS t.locs,.ls (t.regs.map Hv),.ls (t.nodes.map eN),lI s.has,lI s.jf,.ls (s.mo.map De),.i .u64 w,lW (PA t),lW (JD t),.sl 3 0 0 n,.sl 1 0 0 0]]⟩,
  some ⟨AL,1,0,false,(Aj n fun e a=>hbQ t s a e || (decide (e < k) && decide (e=a))).map eW⟩]) ?_ ?_ 0 _ _ (by omega) ?_ ?_ ?_
 .rintro k F h hk hj hi ⟨p6,rfl⟩
  have gW:=B4 (a:=Aj n fun e a=>hbQ t s a e || (decide (e < k) && decide (e=a))) (i:=k) (by rw [Al];exact hk)
  have h4:=GL h2 (fun e a=>hbQ t s a e || (decide (e < k) && decide (e=a))) hk hk
  have hg:Aj n (fun j i=>(hbQ t s i j || (decide (j < k) && decide (j=i))) || (decide (j=k) && decide (i=k)))=Aj n fun e a=>hbQ t s a e || (decide (e < k+1) && decide (e=a)):=by
   congr 1
   funext j i
   rw [Bool.or_assoc]
   congr 1
   rw [Bool.eq_iff_iff]
   simp only [or_eq_true,and_eq_true,decide_eq_true_eq]
   omega
  rw [hg] at h4
  have hh:∀ w,((Aj n fun e a=>hbQ t s a e || (decide (e < k) && decide (e=a))).map eW).set k [vW w]=((Aj n fun e a=>hbQ t s a e || (decide (e < k) && decide (e=a))).set k w).map eW:=fun w=>by rw [map_set]
  simp only [go_sem,↓reduceIte,hj,hi,p6,hk,gW,BN C,hh,h4,Al,length_map,A0]
 .rintro F h ⟨p6,rfl⟩
  rw [h6]
  simp only [go_sem,↓reduceIte,p6,h1,h3,h0,Al,length_map,take_of_length_le (Nat.le_of_eq (Al (n:=n) (p:=dnB t s)))]
 .simp only [go_sem,↓reduceIte]
 .simp only [go_sem,↓reduceIte]
 .simp only [go_sem,↓reduceIte]
  rw [show Aj n (fun a b=>hbQ t s b a)=Aj n (fun e a=>hbQ t s a e || (decide (e < 0) && decide (e=a))) from CC fun a b _ _=>by simp]
end
def dnR (t:A2) (s:A6):Rows:=Aj t.nodes.length (dnB t s)
def Ec (t:A2) (s:A6) (a b:Nat):Bool:=NY t ((dnR t s).getD a 0#64) ((dnR t s).getD b 0#64)
def Pu (t:A2) (s:A6) (e:Nat):Bool:=!Ec t s e e
def RP (t:A2) (s:A6) (e:Nat):Bool:=Ad8 t s (Aj t.nodes.length (hgB t s)) e
theorem Qu {t:A2} {s:A6} (hf:Bg t s) {w:Int} (hw:w∈s.has) (hk:(t.at w.toNat).kind=3) (ht:A9 t):0<=(t.at w.toNat).loc/\(t.at w.toNat).loc < s.mo.length/\0<=BQ s (t.at w.toNat).loc w/\BQ s (t.at w.toNat).loc w < (s.mo.getD (t.at w.toNat).loc.toNat []).length /\
  w∈(s.mo.getD (t.at w.toNat).loc.toNat []).getD (BQ s (t.at w.toNat).loc w).toNat []:=by
 obtain ⟨m,rfl,hm⟩:=A7 (hf.node w hw)
 rw [toNat_natCast] at hk ⊢
 have hl:=ht.wloc hm (.inr hk)
 have h6:=hf.ml
 obtain ⟨loc,h3⟩:=eq_ofNat_of_zero_le hl.1
 have ho:=hf.once _ hw (by rw [toNat_natCast];exact hk)
 rw [toNat_natCast] at ho
 rw [h3] at ho hl ⊢
 rw [toNat_natCast] at ho ⊢
 have h0:(s.mo.getD loc []).any (fun c=>B9 c (m:Int))=true:=by
  rw [any_eq_true]
  obtain ⟨c,hc⟩:=List.exists_mem_of_length_pos (show 0 < ((s.mo.getD loc []).filter fun c=>B9 c (m:Int)).length by omega)
  obtain ⟨h1,h2⟩:=List.mem_filter.1 hc
  exact ⟨c,h1,h2⟩
 obtain ⟨k,e,h4,hp,_⟩:=JU h0
 have h5:BQ s (loc:Int) (m:Int)=(k:Int):=by
  rw [BQ,if_neg (by omega),toNat_natCast];exact e
 rw [h5,toNat_natCast]
 refine ⟨by omega,by omega,by omega,by omega,?_⟩
 rw [getD_eq_getElem?_getD,getElem?_eq_getElem h4]
 exact Af.1 hp
theorem SO {t:A2} {s:A6} (hf:Bg t s) (ht:A9 t) {loc:Nat} (hl:loc < s.mo.length) {c:List Int} (hc:c∈s.mo.getD loc []) {x:Int} (hx:x∈c):BU t x=true:=by
 have hm:=hf.mo loc hl
 simp only [GI,and_eq_true,Aw,or_eq_true,decide_eq_true_eq] at hm
 obtain ⟨⟨_,h0⟩,h1⟩:=hm
 obtain ⟨i,hi,rfl⟩:=List.getElem_of_mem hc
 have hd:(s.mo.getD loc [])[i]=(s.mo.getD loc []).getD i []:=by rw [getD_eq_getElem?_getD (l:=s.mo.getD loc []),getElem?_eq_getElem hi];rfl
 rw [hd] at hx
 rcases h1 i hi with e | e
 .rw [e,h0] at hx
  rw [List.mem_singleton.1 hx]
  have:=hf.ml
  have:=ht.first.1
  exact Cl (by omega)
 .simp only [Dd,and_eq_true,Aw,BO,Af] at e
  obtain ⟨j,hj,rfl⟩:=List.getElem_of_mem hx
  have:=(e.2 j hj).1.1.1.1
  rw [getD_eq_getElem?_getD,getElem?_eq_getElem hj] at this
  exact hf.node _ this
theorem A7D {t:A2} {s:A6} (hf:Bg t s) (ht:A9 t):A1n t s:=by
 refine ⟨fun r=>?_⟩
 have hF:=Ba (B3 (AY.2 hf))
 rw [K0 hF.len]
 by_cases hr:(r:Int)∈s.has
 .by_cases hk:(t.at r).kind=2
  .obtain ⟨h1,h2,h3⟩:=hF.read r hr (by rw [toNat_natCast];exact hk)
   obtain ⟨w,hw,h0⟩:=A7 (hf.node _ h1)
   rw [hw] at h1 h2 ⊢
   obtain ⟨a1,a2,a3,a4,a5⟩:=Qu hf h1 h2 ht
   rw [toNat_natCast] at a1 a2 a3 a4 a5
   refine .inr ⟨w,rfl,h0,a1,a2,a3,a4,fun c hc=>?_⟩
   refine SO hf ht (loc:=(t.at w).loc.toNat) (by omega) (Ac (d:=[]) (k:=(BQ s (t.at w).loc w).toNat) (by omega)) hc
  .left
   rw [hF.none r hr (by rw [toNat_natCast];exact hk)];decide
 .left
  rw [Ed,if_neg fun h=>hr (Af.1 h)];decide
def Ads (t:A2) (s:A6):Prop:=∀ a∈s.has,∀ b∈s.has,AH t a b=false
theorem Ag7 {t:A2} (ht:A9 t) {s:A6} (hf:Bg t s) {e a:Nat} (he:(e:Int)∈s.has) (h:dnB t s e a=true):(a:Int)∈s.has:=by
 have hF:=Ba (B3 (AY.2 hf))
 simp only [dnB,or_eq_true,decide_eq_true_eq] at h
 rcases h with h | rfl
 .have hn:a < t.nodes.length:=by
   rcases Nat.lt_or_ge a t.nodes.length with c | c
   .exact c
   .have hl:(Lh t s.has s.jf).length=t.nodes.length:=DB ht.n64 _
    rw [hbQ,getD_eq_getElem?_getD,List.getElem?_eq_none (by omega)] at h
    simp at h
  exact (A4e ht hF ((E3 ht.n64 _ hn).1 h)).1
 .exact he
theorem SG {t:A2} (ht:A9 t) {s:A6} (hf:Bg t s) (hc:Ads t s) {a b:Nat} (ha:(a:Int)∈s.has) (hb:(b:Int)∈s.has):Ec t s a b=false:=by
 have h0:=ht.n64
 obtain ⟨_,h3,h4⟩:=A7 (hf.node _ ha)
 obtain ⟨_,h5,h6⟩:=A7 (hf.node _ hb)
 rw [Ec,NY,Bool.not_eq_false',decide_eq_true_eq]
 apply Bm
 intro j hj
 rw [BitVec.getLsbD_and]
 have hz:(0#64).getLsbD j=false:=by simp
 rw [hz,eq_false_iff]
 intro h
 rw [and_eq_true] at h
 obtain ⟨h1,h2⟩:=h
 have hl:(PA t).length=t.nodes.length:=Al
 obtain ⟨i,hi,q1,q2⟩:=(HM (a:=PA t) (by omega) _ j).1 h1
 rw [dnR,getD_eq_getElem?_getD,BA (by omega),getD_some,AE] at q1 h2
 rw [PA,getD_eq_getElem?_getD,BA (by omega),getD_some,AE] at q2
 simp only [and_eq_true,decide_eq_true_eq] at q1 q2 h2
 have m1:=Ag7 ht hf ha q1.1.2
 have m2:=Ag7 ht hf hb h2.1.2
 rw [hc _ m1 _ m2] at q2
 simp at q2
theorem A9a {t:A2} (ht:A9 t) {s:A6} (hf:Bg t s) (hc:Ads t s) {e:Nat} (he:(e:Int)∈s.has):RP t s e=true:=by
 have hF:=Ba (B3 (AY.2 hf))
 obtain ⟨e',h0,h3⟩:=A7 (hf.node _ he)
 have h0:e=e':=by omega
 subst h0
 rw [RP,Ad8,List.all_eq_true]
 intro r hr
 rw [not_eq_true',S1]
 obtain ⟨h1,h2⟩:=Cu (B7.1 hr)
 obtain ⟨r,rfl⟩:=eq_ofNat_of_zero_le h1
 rw [toNat_natCast]
 simp only [K0 hF.len]
 by_cases hm:(r:Int)∈s.has
 .by_cases hk:(t.at r).kind=2
  .obtain ⟨k1,_,_⟩:=hF.read r hm (by rw [toNat_natCast];exact hk)
   obtain ⟨w,hw,h4⟩:=A7 (hf.node _ k1)
   rw [hw] at k1 ⊢
   rw [toNat_natCast]
   split
   .rfl
   .have:B1 ((PA t).getD w 0#64) (e:Int)=false:=by
     rw [PA,EJ ht.n64 h4 h3];exact hc _ k1 _ he
    rw [this,Bool.false_and]
  .rw [hF.none r hm (by rw [toNat_natCast];exact hk),if_pos (.inl (by decide))]
 .rw [Ed,if_neg fun h=>hm (Af.1 h),if_pos (.inl (by decide))]
theorem A4V {t:A2} (ht:A9 t) {a b:Nat}:∀ (N u:Nat),u < N->u < t.nodes.length->Az t a u=true->Az t b u=true->a=b\/Az t a b=true\/Az t b a=true
 | 0,u,h,_,_,_=>by omega
 | N+1,u,hN,hu,h1,h2=>by
  by_cases c:(t.at u).up < 0
  .unfold Az at h1
   rw [DU ht.up a (by have:=ht.up u hu;omega),if_pos c] at h1
   cases h1
  .obtain ⟨m,hm⟩:=eq_ofNat_of_zero_le (show 0<=(t.at u).up by omega)
   have hlt:=ht.up u hu
   rw [HI ht.up hu hm,or_eq_true,decide_eq_true_eq] at h1 h2
   rcases h1 with h1 | h1
   .rcases h2 with h2 | h2
    .exact .inl (by omega)
    .rw [h1] at h2;exact .inr (.inr h2)
   .rcases h2 with h2 | h2
    .rw [h2] at h1;exact .inr (.inl h1)
    .exact A4V ht N m (by omega) (by omega) h1 h2
theorem A8t {t:A2} (ht:A9 t) {s:A6} (hf:Bg t s) {at_:List Nat} (S:StI t s at_):Ads t s:=by
 intro a ha b hb
 obtain ⟨x,rfl,hx⟩:=A7 (hf.node _ ha)
 obtain ⟨y,rfl,hy⟩:=A7 (hf.node _ hb)
 rw [eq_false_iff]
 intro h
 simp only [AH,and_eq_true,not_eq_true',decide_eq_true_eq,decide_eq_false_iff_not,toNat_natCast] at h
 obtain ⟨⟨⟨⟨⟨_,h1⟩,h2⟩,h3⟩,h4⟩,h5⟩:=h
 obtain ⟨u,hu,h6⟩:=S.cov x ha h2
 have h7:u < t.nodes.length:=by
  obtain ⟨m,e,hm⟩:=A7 (hf.node _ (S.has u hu).1)
  omega
 have c1:=S.chain u hu x ha h6.symm
 have c2:=S.chain u hu y hb (by rw [h6,h3])
 have h0:x≠y:=fun e=>h1 (by rw [e])
 rcases c1 with c1 | c1
 .rcases c2 with c2 | c2
  .exact h0 (by omega)
  .rw [c1,c2] at h5;cases h5
 .rcases c2 with c2 | c2
  .rw [c2,c1] at h4;cases h4
  .rcases A4V ht _ u (Nat.lt_succ_self _) h7 c1 c2 with e | e | e
   .exact h0 e
   .rw [e] at h4;cases h4
   .rw [e] at h5;cases h5
theorem A9i {t:A2} (ht:A9 t) {A B:BitVec 64}:NY t A B=true↔∃ x y:Nat,x < t.nodes.length/\y < t.nodes.length/\A.getLsbD x=true/\B.getLsbD y=true/\AH t x y=true:=by
 have h4:=ht.n64
 have hl:(PA t).length=t.nodes.length:=Al
 rw [NY,not_eq_true',decide_eq_false_iff_not]
 constructor
 .intro h
  apply Classical.byContradiction
  intro h5
  apply h
  apply Bm
  intro j hj
  rw [BitVec.getLsbD_and,show (0#64).getLsbD j=false by simp,eq_false_iff]
  intro hc
  rw [and_eq_true] at hc
  obtain ⟨i,hi,q1,q2⟩:=(HM (a:=PA t) (by omega) _ j).1 hc.1
  rw [PA,getD_eq_getElem?_getD,BA (by omega),getD_some,AE] at q2
  simp only [and_eq_true,decide_eq_true_eq] at q2
  exact h5 ⟨i,j,by omega,by omega,q1,hc.2,q2.1.2⟩
 .rintro ⟨x,y,hx,hy,h1,h2,h3⟩ h0
  have:(Dz (PA t) A &&& B).getLsbD y=true:=by
   rw [BitVec.getLsbD_and,h2,Bool.and_true]
   refine (HM (a:=PA t) (by omega) _ y).2 ⟨x,by omega,h1,?_⟩
   have:=EJ h4 hx hy (p:=fun a b=>AH t a b)
   rw [AD] at this
   rw [PA,this];exact h3
  rw [h0] at this
  simp at this
theorem PD {t:A2} (ht:A9 t) {s:A6} {e a:Nat} (he:e < t.nodes.length):((dnR t s).getD e 0#64).getLsbD a=true↔a < t.nodes.length/\dnB t s e a=true:=by
 have h0:=ht.n64
 rw [dnR,getD_eq_getElem?_getD,BA he,getD_some,AE]
 simp only [and_eq_true,decide_eq_true_eq]
 constructor
 .rintro ⟨⟨h1,h2⟩,_⟩;exact ⟨h1,h2⟩
 .rintro ⟨h1,h2⟩;exact ⟨⟨h1,h2⟩,by omega⟩
theorem U6 {t:A2} (ht:A9 t) {s:A6} {a b:Nat} (ha:a < t.nodes.length) (hb:b < t.nodes.length):Ec t s a b=true↔∃ x y:Nat,x < t.nodes.length/\y < t.nodes.length/\dnB t s a x=true/\dnB t s b y=true/\AH t x y=true:=by
 rw [Ec,A9i ht]
 constructor
 .rintro ⟨x,y,hx,hy,h1,h2,h3⟩
  exact ⟨x,y,hx,hy,((PD ht ha).1 h1).2,((PD ht hb).1 h2).2,h3⟩
 .rintro ⟨x,y,hx,hy,h1,h2,h3⟩
  exact ⟨x,y,hx,hy,(PD ht ha).2 ⟨hx,h1⟩,(PD ht hb).2 ⟨hy,h2⟩,h3⟩
theorem TN {t:A2} {a b:Int} (h:AH t a b=true):AH t b a=true:=by
 simp only [AH,and_eq_true,not_eq_true',decide_eq_true_eq,decide_eq_false_iff_not] at h ⊢
 obtain ⟨⟨⟨⟨⟨⟨h0,h1⟩,h2⟩,h3⟩,h4⟩,h5⟩,h6⟩:=h
 exact ⟨⟨⟨⟨⟨⟨h1,h0⟩,fun e=>h2 e.symm⟩,by omega⟩,h4.symm⟩,h6⟩,h5⟩
theorem A9r {t:A2} (ht:A9 t) {s:A6} {a b:Nat} (ha:a < t.nodes.length) (hb:b < t.nodes.length):Ec t s a b=Ec t s b a:=by
 have h0:∀ {a b:Nat},a < t.nodes.length->b < t.nodes.length->Ec t s a b=true->Ec t s b a=true:=fun ha hb h=>by
  obtain ⟨x,y,hx,hy,h1,h2,h3⟩:=(U6 ht ha hb).1 h
  exact (U6 ht hb ha).2 ⟨y,x,hy,hx,h2,h1,TN h3⟩
 rw [Bool.eq_iff_iff]
 exact ⟨h0 ha hb,h0 hb ha⟩
theorem A39 {t:A2} (ht:A9 t) {s:A6} (hf:Bg t s) {n:Nat} (hn:n < t.nodes.length) (hu:(t.at n).up < 0):(n:Int)∈s.has:=by
 have h0:=ht.n64
 have hb:(GA t).getLsbD n=true:=by rw [GA,AE];simp [hn,hu];omega
 have:(CP s.has).getLsbD n=true:=by rw [<- hf.init,BitVec.getLsbD_or,hb];rfl
 have h2:=PW s.has (x:=(n:Int)) (by omega) (by omega)
 rw [AD,this] at h2
 exact Af.1 h2.symm
structure Nxt (t:A2) (s s':A6) (n:Nat):Prop where
 has:∀ x,x∈s'.has↔x=(n:Int)\/x∈s.has
 no:(n:Int)∉s.has
 nl:n < t.nodes.length
 up:(t.at n).up∈s.has
 ext:Ext t s s'
 form:Bg t s'
 src:(t.at n).kind=2->Ed s'.has s'.jf n∈s.has
 cls:∀ loc,∀ c∈s.mo.getD loc [],∃ c'∈s'.mo.getD loc [],∀ x∈c,x∈c'
end Go.AM
