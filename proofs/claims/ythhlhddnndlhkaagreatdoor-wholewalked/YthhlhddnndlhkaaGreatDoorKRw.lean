/-
  Own work, part of the proof of these laws: what functions compute.
-/
import Derived.Test.YthhlhddnndlhkaaGreatDoorLCw
import Derived.Test.YthhlhddnndlhkaaGreatDoorKPw
import Derived.Test.YthhlhddnndlhkaaGreatDoorLDw
set_option maxRecDepth 10000
set_option maxHeartbeats 64000000
set_option linter.unusedVariables false
set_option linter.unusedSimpArgs false
set_option linter.unusedSectionVars false
open Int (toNat_natCast)
namespace Go.AM
open Go Go.Proofs
def BG (t:A1) (s:A6) (v:VV):Option VO:=some ⟨A2v,0,0,false,[[.i .i64 t.vals,lS t.locs,.ls (t.regs.map JE),.ls (t.nodes.map eN),lI s.has,lI s.jf,.ls (s.mo.map DD),v]]⟩
section
variable {V:At} (C:Aq V)
include C
theorem Yl {n:Nat} (hn:n<=64) (p:Nat->Nat->Bool) {Q:VV->Prop}:VP V Vp [lW (Ak n p)] Q↔Q (.b (Px (Ak n p))):=by
 refine Ae ?_
 rw [Ad C.c_z151.1 C.c_z151.2]
 have hm:=CH hn p
 have hl:=Dh hn p
 have hlen:=Aj (n:=n) (p:=p)
 have hpl:=fun (Q:VV->Prop)=>Rh C (Ak n p) (Q:=Q)
 unfold Px
 rw [hm,Bool.true_and,hlen]
 obtain ⟨a,ha⟩:∃ a,a=Ak n p:=⟨_,rfl⟩
 rw [<- ha] at hm hl hlen hpl ⊢
 simp only [ZM,go_sem,↓reduceIte,hpl,hl]
 refine Ag (by decide) n (by omega) (I:=fun k F h=>A4.tmp F 0=lW a/\A4.tmp F 6=lW (BV a)/\h=[]/\∀ j,j < k->((BV a).getD j 0#64).getLsbD j=false) ?_ ?_ 0 _ _ (by omega) ?_ ?_ ?_
 .rintro k F h hk p8 p7 ⟨p0,p6,rfl,pr⟩
  have gW:=B9 (a:=BV a) (i:=k) (by omega)
  have hk2:k < (BV a).length:=by omega
  have hh:=AC ((BV a).getD k 0#64) k
  cases d:((BV a).getD k 0#64).getLsbD k with
  | true =>
   rw [d] at hh
   have hb:=AP (p:=fun i=>!((BV a).getD i 0#64).getLsbD i) hk (by rw [d];rfl)
   simp only [go_sem,↓reduceIte,p8,p7,p0,p6,gW,hk2,AN C,hh,hb,A0]
  | false =>
   rw [d] at hh
   simp only [go_sem,↓reduceIte,p8,p7,p0,p6,gW,hk2,AN C,hh,A0]
   intro j hj
   rcases Nat.lt_or_ge j k with c | c
   .exact pr j c
   .rw [show j=k by omega];exact d
 .rintro F h ⟨p0,p6,rfl,pr⟩
  have hb:=AQ (p:=fun i=>!((BV a).getD i 0#64).getLsbD i) fun j hj=>by rw [pr j hj];rfl
  simp only [go_sem,↓reduceIte,p0,p6,Ce C,hm,hb]
 .simp only [go_sem,↓reduceIte]
 .simp only [go_sem,↓reduceIte]
 .simp only [go_sem,↓reduceIte]
  intro j hj;omega
variable (t:A1) (ht:A5 t) (s:A6) (hs:DL s) (x1:Option VO)
include ht hs
theorem Abo (hf:AG t s) (v:VV) {Q:VV->VH->Prop}:Hs V XU [.p 0 0 0 0] [BG t s v,x1] Q↔Q (.b true) [BG t s (.fp (QA t s) 0),x1]:=by
 refine Dn ?_
 rw [Cm C.h_z97]
 have h:=fun (Q:VV->Prop)=>NH C t ht s hs hf (Q:=Q)
 unfold QA at h ⊢
 simp only [A3z,go_sem,↓reduceIte,BG,h]
theorem A8o (hf:Bd t s=false) (v:VV) {Q:VV->VH->Prop}:Hs V XU [.p 0 0 0 0] [BG t s v,x1] Q↔Q (.b false) [BG t s .np,x1]:=by
 refine Dn ?_
 rw [Cm C.h_z97]
 have h:=fun (Q:VV->Prop)=>Aco C t ht s hs hf (Q:=Q)
 simp only [A3z,go_sem,↓reduceIte,BG,h]
theorem NZ (v:VV) {Q:VV->VH->Prop}:Hs V Q6 [.p 0 0 0 0] [BG t s v,x1] Q↔Q (.b (DM t s)) [BG t s v,x1]:=by
 refine Dn ?_
 rw [Cm C.h_z102]
 have h:=fun (Q:VV->Prop)=>QP C t ht s hs (Q:=Q)
 simp only [Zm,go_sem,↓reduceIte,BG,h]
end
section
variable {V:At} (C:Aq V) (t:A1) (ht:A5 t) (s:A6) (hs:DL s) (x1:Option VO) (hf:AG t s)
include C ht hs hf
theorem Xw {Q:VV->VH->Prop}:Hs V A1z [.p 0 0 0 0] [BG t s (.fp (QA t s) 0),x1] Q↔Q (.b ((List.range s.has.length).all fun i=>Ef t s (s.has.getD i 0).toNat)) [BG t s (.fp (QA t s) 0),x1]:=by
 refine Dn ?_
 rw [Cm C.h_z99]
 have g1:=hs.has
 have hS:∀ n:Nat,n < t.nodes.length->∀ Q:VV->Prop,VP V XR [.fp (QA t s) 0,.i .i64 n] Q↔Q (.b (Ef t s n)):=fun n hn Q=>Po C t ht s (dnR t s) _ (by rw [dnR,Aj];exact hn) (Q:=Q)
 obtain ⟨w,hw⟩:∃ w,w=VV.fp (QA t s) 0:=⟨_,rfl⟩
 simp only [A9P,go_sem,↓reduceIte,BG]
 refine Ag (by decide) s.has.length (by omega) (I:=fun k F h=>A4.tmp F 0 = .p 0 0 0 0/\A4.tmp F 9=lI s.has/\h=[BG t s (.fp (QA t s) 0),x1]/\∀ j,j < k->Ef t s (s.has.getD j 0).toNat=true) ?_ ?_ 0 _ _ (by omega) ?_ ?_ ?_
 .rintro k F h hk p11 p10 ⟨p0,p9,rfl,pr⟩
  obtain ⟨x,hx,hxl,hxm⟩:=De hf hk
  have gX:=Ar hk
  rw [hx] at gX
  have hSx:=hS x hxl
  cases d:Ef t s x with
  | false =>
   rw [d] at hSx
   have hb:=AP (p:=fun i=>Ef t s (s.has.getD i 0).toNat) hk (by rw [hx,toNat_natCast,d])
   simp only [go_sem,↓reduceIte,p11,p10,p0,p9,gX,hk,BG,hSx,hb,A0]
  | true =>
   rw [d] at hSx
   simp only [go_sem,↓reduceIte,p11,p10,p0,p9,gX,hk,BG,hSx,A0]
   intro j hj
   rcases Nat.lt_or_ge j k with c | c
   .exact pr j c
   .rw [show j=k by omega,hx,toNat_natCast];exact d
 .rintro F h ⟨p0,p9,rfl,pr⟩
  have hb:=AQ (p:=fun i=>Ef t s (s.has.getD i 0).toNat) pr
  simp only [go_sem,↓reduceIte,p0,p9,BG,hb]
 .simp only [go_sem,↓reduceIte]
 .simp only [go_sem,↓reduceIte]
 .simp only [go_sem,↓reduceIte,BG]
  intro j hj;omega
theorem Xv {Q:VV->VH->Prop}:Hs V Q4 [.p 0 0 0 0] [BG t s (.fp (QA t s) 0),x1] Q↔Q (.b ((List.range s.has.length).all fun i=>!(decide (0<=s.jf.getD i 0) && BR t s (s.has.getD i 0).toNat (s.jf.getD i 0).toNat))) [BG t s (.fp (QA t s) 0),x1]:=by
 refine Dn ?_
 rw [Cm C.h_z100]
 have g1:=hs.has
 have hF:=AY (AJ (AE.2 hf))
 have hE:∀ a b:Nat,a < t.nodes.length->b < t.nodes.length->∀ Q:VV->Prop,VP V A1u [.fp (QA t s) 0,.i .i64 a,.i .i64 b] Q↔Q (.b (BR t s a b)):=fun a b ha hb Q=>Y3 C t ht s (dnR t s) _ (by rw [dnR,Aj];exact ha) (by rw [dnR,Aj];exact hb) (Q:=Q)
 simp only [Zk,go_sem,↓reduceIte,BG]
 refine Ag (by decide) s.has.length (by omega) (I:=fun k F h=>A4.tmp F 0 = .p 0 0 0 0/\A4.tmp F 10=lI s.has/\h=[BG t s (.fp (QA t s) 0),x1]/\∀ j,j < k->(!(decide (0<=s.jf.getD j 0) && BR t s (s.has.getD j 0).toNat (s.jf.getD j 0).toNat))=true) ?_ ?_ 0 _ _ (by omega) ?_ ?_ ?_
 .rintro k F h hk p12 p11 ⟨p0,p10,rfl,pr⟩
  obtain ⟨x,hx,hxl,hxm⟩:=De hf hk
  have gX:=Ar hk
  have hkj:k < s.jf.length:=by rw [hf.jl];exact hk
  have gJ:=Ar hkj
  have ho:=hF.at_ k hk
  rw [hx] at gX ho
  have hgo:(!(decide (0<=s.jf.getD k 0) && BR t s (s.has.getD k 0).toNat (s.jf.getD k 0).toNat))=true->∀ j,j < k+1->(!(decide (0<=s.jf.getD j 0) && BR t s (s.has.getD j 0).toNat (s.jf.getD j 0).toNat))=true:=fun h j hj=>by
   rcases Nat.lt_or_ge j k with c | c
   .exact pr j c
   .rw [show j=k by omega];exact h
  cases d0:decide (0<=s.jf.getD k 0) with
  | false =>
   simp only [go_sem,↓reduceIte,p12,p11,p0,p10,gX,gJ,hk,hkj,BG,d0,A0]
   exact hgo (by rw [d0];rfl)
  | true =>
   have hk2:(t.at x).kind=2:=by
    apply Classical.byContradiction
    intro hk2
    have:=hF.none x hxm (by rw [toNat_natCast];exact hk2)
    have:=of_decide_eq_true d0
    omega
   have q1:=(hF.read x hxm (by rw [toNat_natCast];exact hk2)).1
   rw [ho] at q1
   obtain ⟨w,ew,hw⟩:=A8 (hf.node _ q1)
   rw [ew] at gJ hgo d0
   have hExw:=hE x w hxl hw
   rw [hx,toNat_natCast,toNat_natCast] at hgo
   cases d:BR t s x w with
   | true =>
    rw [d] at hExw
    have hb:=AP (p:=fun i=>!(decide (0<=s.jf.getD i 0) && BR t s (s.has.getD i 0).toNat (s.jf.getD i 0).toNat)) hk (by rw [hx,ew,toNat_natCast,toNat_natCast,d0,d];rfl)
    simp only [go_sem,↓reduceIte,p12,p11,p0,p10,gX,gJ,hk,hkj,BG,d0,hExw,hb,A0]
   | false =>
    rw [d] at hExw
    simp only [go_sem,↓reduceIte,p12,p11,p0,p10,gX,gJ,hk,hkj,BG,d0,hExw,A0]
    exact hgo (by rw [d0,d];rfl)
 .rintro F h ⟨p0,p10,rfl,pr⟩
  have hb:=AQ (p:=fun i=>!(decide (0<=s.jf.getD i 0) && BR t s (s.has.getD i 0).toNat (s.jf.getD i 0).toNat)) pr
  simp only [go_sem,↓reduceIte,p0,p10,BG,hb]
 .simp only [go_sem,↓reduceIte]
 .simp only [go_sem,↓reduceIte]
 .simp only [go_sem,↓reduceIte,BG]
  intro j hj;omega
theorem P3 {Q:VV->VH->Prop}:Hs V Q5 [.p 0 0 0 0] [BG t s (.fp (QA t s) 0),x1] Q↔Q (.b ((List.range s.has.length).all fun i=>!RH t s (s.has.getD i 0) (s.jf.getD i 0))) [BG t s (.fp (QA t s) 0),x1]:=by
 refine Dn ?_
 rw [Cm C.h_z101]
 have g1:=hs.has
 have ok:=GV hf ht
 have hF:=AY (AJ (AE.2 hf))
 have hV:∀ n:Nat,n < t.nodes.length->∀ Q:VV->Prop,VP V Mr [.fp (QA t s) 0,.i .i64 n] Q↔Q (.b (Es t s n)):=fun n hn Q=>HA C t ht s hs ok (dnR t s) (YF t s) hn (Q:=Q)
 simp only [Zl,go_sem,↓reduceIte,BG]
 refine Ag (by decide) s.has.length (by omega) (I:=fun k F h=>A4.tmp F 0 = .p 0 0 0 0/\A4.tmp F 10=lI s.has/\h=[BG t s (.fp (QA t s) 0),x1]/\∀ j,j < k->(!RH t s (s.has.getD j 0) (s.jf.getD j 0))=true) ?_ ?_ 0 _ _ (by omega) ?_ ?_ ?_
 .rintro k F h hk p12 p11 ⟨p0,p10,rfl,pr⟩
  obtain ⟨x,hx,hxl,hxm⟩:=De hf hk
  have gX:=Ar hk
  have hkj:k < s.jf.length:=by rw [hf.jl];exact hk
  have gJ:=Ar hkj
  have ho:=hF.at_ k hk
  rw [hx] at gX ho
  have hgo:RH t s x (s.jf.getD k 0)=false->∀ j,j < k+1->(!RH t s (s.has.getD j 0) (s.jf.getD j 0))=true:=fun h j hj=>by
   rcases Nat.lt_or_ge j k with c | c
   .exact pr j c
   .rw [show j=k by omega,hx,h];rfl
  cases d0:decide (s.jf.getD k 0 < 0) with
  | true =>
   simp only [go_sem,↓reduceIte,p12,p11,p0,p10,gX,gJ,hk,hkj,BG,d0,A0]
   exact hgo (by rw [RH,decide_eq_false (by have:=of_decide_eq_true d0;omega)];rfl)
  | false =>
   have hn:=of_decide_eq_false d0
   have hk2:(t.at x).kind=2:=by
    apply Classical.byContradiction
    intro hk2
    have:=hF.none x hxm (by rw [toNat_natCast];exact hk2)
    omega
   have q1:=(hF.read x hxm (by rw [toNat_natCast];exact hk2)).1
   rw [ho] at q1
   obtain ⟨w,ew,hw⟩:=A8 (hf.node _ q1)
   rw [ew] at gJ hgo d0
   have hVw:=hV w hw
   have aX:=A7 hxl
   have aW:=A7 hw
   have z0:decide (0<=(w:Int))=true:=decide_eq_true (by omega)
   cases d1:decide ((t.at w).thread < 0) with
   | true =>
    simp only [go_sem,↓reduceIte,p12,p11,p0,p10,gX,gJ,hk,hkj,BG,d0,aX,aW,hxl,hw,d1,A0]
    exact hgo (by rw [RH,toNat_natCast,decide_eq_false (show ¬ 0<=(t.at w).thread by have:=of_decide_eq_true d1;omega)];simp)
   | false =>
   have z1:decide (0<=(t.at w).thread)=true:=decide_eq_true (by have:=of_decide_eq_false d1;omega)
   cases d2:decide ((t.at w).thread=(t.at x).thread) with
   | true =>
    simp only [go_sem,↓reduceIte,p12,p11,p0,p10,gX,gJ,hk,hkj,BG,d0,aX,aW,hxl,hw,d1,d2,A0]
    exact hgo (by rw [RH,toNat_natCast,toNat_natCast,d2];simp)
   | false =>
    cases d:Es t s w with
    | false =>
     rw [d] at hVw
     have hb:=AP (p:=fun i=>!RH t s (s.has.getD i 0) (s.jf.getD i 0)) hk (by rw [hx,ew,RH,toNat_natCast,toNat_natCast,z0,z1,d2,d];rfl)
     simp only [go_sem,↓reduceIte,p12,p11,p0,p10,gX,gJ,hk,hkj,BG,d0,aX,aW,hxl,hw,d1,d2,hVw,hb,A0]
    | true =>
     rw [d] at hVw
     simp only [go_sem,↓reduceIte,p12,p11,p0,p10,gX,gJ,hk,hkj,BG,d0,aX,aW,hxl,hw,d1,d2,hVw,A0]
     exact hgo (by rw [RH,toNat_natCast,toNat_natCast,d];simp)
 .rintro F h ⟨p0,p10,rfl,pr⟩
  have hb:=AQ (p:=fun i=>!RH t s (s.has.getD i 0) (s.jf.getD i 0)) pr
  simp only [go_sem,↓reduceIte,p0,p10,BG,hb]
 .simp only [go_sem,↓reduceIte]
 .simp only [go_sem,↓reduceIte]
 .simp only [go_sem,↓reduceIte,BG]
  intro j hj;omega
theorem P2 (v:VV) {Q:VV->VH->Prop}:Hs V A1y [.p 0 0 0 0] [BG t s v,x1] Q↔Q (.b (Px (Ak t.nodes.length (Bw t s s.has.length)))) [BG t s v,x1]:=by
 refine Dn ?_
 rw [Cm C.h_z98]
 have h64:=ht.n64
 have g1:=hs.has
 have hpm:Dk (LV t)=true:=CH h64 _
 have hkp:Mj (LV t) (Cc s.has)=Ak t.nodes.length (Bw t s 0):=by
  rw [LV,Jm h64]
  refine Ci fun a b _ _=>?_
  simp [Bw]
 have hk1:=fun (b:Nat) (Q:VV->VH->Prop)=>XZ C (LV t) hpm (Cc s.has) b (Q:=Q)
 rw [hkp,show (LV t).length=t.nodes.length from Aj] at hk1
 have hpo:=fun (Q:VV->Prop)=>Xk C t ht (Q:=Q)
 rw [<- LV] at hpo
 have hset:=fun (Q:VV->Prop)=>Y5 C s hs (Q:=Q)
 have hac:=fun (Q:VV->Prop)=>Yl C h64 (Bw t s s.has.length) (Q:=Q)
 simp only [A9O,go_sem,↓reduceIte,BG,hk1,hpo,hset]
 obtain ⟨n,hn⟩:∃ n,n=t.nodes.length:=⟨_,rfl⟩
 rw [<- hn] at h64 hac ⊢
 refine Ag (by decide) s.has.length (by omega) (I:=fun k F h'=>A4.tmp F 0 = .p 0 0 0 0/\A4.tmp F 3 = .sl 2 0 0 n/\A4.tmp F 22=lI s.has/\h' = [BG t s v,x1,some ⟨AK,1,0,false,(Ak n (Bw t s k)).map eW⟩]) ?_ ?_ 0 _ _ (by omega) ?_ ?_ ?_
 .rintro k F h' hk p24 p23 ⟨p0,p3,p22,rfl⟩
  have gH:=Ar hk
  have hkj:k < s.jf.length:=by rw [hf.jl];exact hk
  have gJ:=Ar hkj
  obtain ⟨m,hm,hmn⟩:=A8 (hf.node _ (Ai (d:=0) hk))
  rw [<- hn] at hmn
  have hj:=hf.just k hk
  rw [hm] at gH hj
  by_cases c:(t.at m).kind=2
  .simp only [okJ,toNat_natCast,c,if_true,Bool.and_eq_true,A9] at hj
   obtain ⟨w,hw,hwn⟩:=A8 (hf.node _ hj.1.1)
   rw [<- hn] at hwn
   rw [hw] at gJ
   have d0:decide ((0:Int)<=(w:Int))=true:=decide_eq_true (by omega)
   have gW:=B9 (a:=Ak n (Bw t s k)) (i:=w) (by rw [Aj];exact hwn)
   have hput:=Jv h64 (Bw t s k) hmn hwn
   rw [A2a t s k hw hm] at hput
   have hset:∀ x,((Ak n (Bw t s k)).map eW).set w [vW x]=((Ak n (Bw t s k)).set w x).map eW:=fun x=>by rw [List.map_set]
   simp only [go_sem,↓reduceIte,p24,p23,p0,p3,p22,gH,gJ,hk,hkj,d0,gW,hwn,C0 C,hset,hput,Aj,List.length_map,BG,A0]
  .simp only [okJ,toNat_natCast,c,if_false,decide_eq_true_eq] at hj
   rw [hj] at gJ
   rw [AaN t s k (by rw [hj];decide)]
   simp only [go_sem,↓reduceIte,p24,p23,p0,p3,p22,gH,gJ,hk,hkj,BG,A0]
 .rintro F h' ⟨p0,p3,p22,rfl⟩
  simp only [go_sem,↓reduceIte,p0,p3,p22,BG,hac,Aj,List.length_map,List.take_of_length_le (Nat.le_of_eq (Aj (n:=n) (p:=Bw t s s.has.length)))]
 .simp only [go_sem,↓reduceIte]
 .simp only [go_sem,↓reduceIte]
 .simp only [go_sem,↓reduceIte,BG]
end
def DE:Option VO:=some ⟨A8d,1,0,false,[[.f XU [.p 0 0 0 0] []],[.f A1y [.p 0 0 0 0] []],[.f A1z [.p 0 0 0 0] []],[.f Q4 [.p 0 0 0 0] []],[.f Q5 [.p 0 0 0 0] []],[.f Q6 [.p 0 0 0 0] []]]⟩
def Kb (t:A1) (s:A6) (k:Nat):Prop:=(1<=k->Bd t s=true)/\(2<=k->Px (Ak t.nodes.length (Bw t s s.has.length))=true)/\(3<=k->((List.range s.has.length).all fun i=>Ef t s (s.has.getD i 0).toNat)=true)/\(4<=k->((List.range s.has.length).all fun i=>!(decide (0<=s.jf.getD i 0) && BR t s (s.has.getD i 0).toNat (s.jf.getD i 0).toNat))=true)/\(5<=k->((List.range s.has.length).all fun i=>!RH t s (s.has.getD i 0) (s.jf.getD i 0))=true)/\(6<=k->DM t s=true)
theorem An8 (t:A1) (s:A6):Kb t s 0:=⟨fun h=>absurd h (by decide),fun h=>absurd h (by decide),fun h=>absurd h (by decide),fun h=>absurd h (by decide),fun h=>absurd h (by decide),fun h=>absurd h (by decide)⟩
theorem Atm {t:A1} {s:A6} (H:Kb t s 0) (h:Bd t s=false):LY t s=1:=by
 unfold LY
 rw [if_pos h]
theorem An9 {t:A1} {s:A6} (H:Kb t s 0) (h:Bd t s=true):Kb t s 1:=⟨fun _=>h,fun h=>absurd h (by decide),fun h=>absurd h (by decide),fun h=>absurd h (by decide),fun h=>absurd h (by decide),fun h=>absurd h (by decide)⟩
theorem Atn {t:A1} {s:A6} (H:Kb t s 1) (h:Px (Ak t.nodes.length (Bw t s s.has.length))=false):LY t s=2:=by
 unfold LY
 rw [if_neg (by rw [H.1 (by decide)];decide),if_pos h]
theorem Ana {t:A1} {s:A6} (H:Kb t s 1) (h:Px (Ak t.nodes.length (Bw t s s.has.length))=true):Kb t s 2:=⟨fun _=>H.1 (by decide),fun _=>h,fun h=>absurd h (by decide),fun h=>absurd h (by decide),fun h=>absurd h (by decide),fun h=>absurd h (by decide)⟩
theorem Ato {t:A1} {s:A6} (H:Kb t s 2) (h:((List.range s.has.length).all fun i=>Ef t s (s.has.getD i 0).toNat)=false):LY t s=3:=by
 unfold LY
 rw [if_neg (by rw [H.1 (by decide)];decide),if_neg (by rw [H.2.1 (by decide)];decide),if_pos h]
theorem Anb {t:A1} {s:A6} (H:Kb t s 2) (h:((List.range s.has.length).all fun i=>Ef t s (s.has.getD i 0).toNat)=true):Kb t s 3:=⟨fun _=>H.1 (by decide),fun _=>H.2.1 (by decide),fun _=>h,fun h=>absurd h (by decide),fun h=>absurd h (by decide),fun h=>absurd h (by decide)⟩
theorem Atp {t:A1} {s:A6} (H:Kb t s 3) (h:((List.range s.has.length).all fun i=>!(decide (0<=s.jf.getD i 0) && BR t s (s.has.getD i 0).toNat (s.jf.getD i 0).toNat))=false):LY t s=4:=by
 unfold LY
 rw [if_neg (by rw [H.1 (by decide)];decide),if_neg (by rw [H.2.1 (by decide)];decide),if_neg (by rw [H.2.2.1 (by decide)];decide),if_pos h]
theorem Anc {t:A1} {s:A6} (H:Kb t s 3) (h:((List.range s.has.length).all fun i=>!(decide (0<=s.jf.getD i 0) && BR t s (s.has.getD i 0).toNat (s.jf.getD i 0).toNat))=true):Kb t s 4:=⟨fun _=>H.1 (by decide),fun _=>H.2.1 (by decide),fun _=>H.2.2.1 (by decide),fun _=>h,fun h=>absurd h (by decide),fun h=>absurd h (by decide)⟩
theorem Atq {t:A1} {s:A6} (H:Kb t s 4) (h:((List.range s.has.length).all fun i=>!RH t s (s.has.getD i 0) (s.jf.getD i 0))=false):LY t s=5:=by
 unfold LY
 rw [if_neg (by rw [H.1 (by decide)];decide),if_neg (by rw [H.2.1 (by decide)];decide),if_neg (by rw [H.2.2.1 (by decide)];decide),if_neg (by rw [H.2.2.2.1 (by decide)];decide),if_pos h]
theorem And {t:A1} {s:A6} (H:Kb t s 4) (h:((List.range s.has.length).all fun i=>!RH t s (s.has.getD i 0) (s.jf.getD i 0))=true):Kb t s 5:=⟨fun _=>H.1 (by decide),fun _=>H.2.1 (by decide),fun _=>H.2.2.1 (by decide),fun _=>H.2.2.2.1 (by decide),fun _=>h,fun h=>absurd h (by decide)⟩
theorem Atr {t:A1} {s:A6} (H:Kb t s 5) (h:DM t s=false):LY t s=6:=by
 unfold LY
 rw [if_neg (by rw [H.1 (by decide)];decide),if_neg (by rw [H.2.1 (by decide)];decide),if_neg (by rw [H.2.2.1 (by decide)];decide),if_neg (by rw [H.2.2.2.1 (by decide)];decide),if_neg (by rw [H.2.2.2.2.1 (by decide)];decide),if_pos h]
theorem Ane {t:A1} {s:A6} (H:Kb t s 5) (h:DM t s=true):Kb t s 6:=⟨fun _=>H.1 (by decide),fun _=>H.2.1 (by decide),fun _=>H.2.2.1 (by decide),fun _=>H.2.2.2.1 (by decide),fun _=>H.2.2.2.2.1 (by decide),fun _=>h⟩
theorem Atl {t:A1} {s:A6} (H:Kb t s 6):LY t s=0:=by
 unfold LY
 rw [if_neg (by rw [H.1 (by decide)];decide),if_neg (by rw [H.2.1 (by decide)];decide),if_neg (by rw [H.2.2.1 (by decide)];decide),if_neg (by rw [H.2.2.2.1 (by decide)];decide),if_neg (by rw [H.2.2.2.2.1 (by decide)];decide),if_neg (by rw [H.2.2.2.2.2 (by decide)];decide)]
section
variable {V:At} (C:Aq V) (t:A1) (ht:A5 t) (s:A6) (hs:DL s)
include C ht hs
theorem Yb {Q:VV->Prop}:VP V R7 [vT t,Dy s] Q↔Q (.i .i64 (LY t s)):=by
 refine Ae ?_
 rw [Ad C.c_z45.1 C.c_z45.2]
 simp only [A99,go_sem,↓reduceIte]
 refine Ag (by decide) 6 (by omega) (I:=fun k F h=>A4.tmp F 24 = .sl 1 0 0 6/\(∃ v,(v=if k=0 then .np else .fp (QA t s) 0)/\h=[BG t s v,DE])/\Kb t s k) ?_ ?_ 0 _ _ (by omega) ?_ ?_ ?_
 .rintro k F h hk p26 p25 ⟨p24,⟨v,hv,rfl⟩,H⟩
  rcases (show k=0\/k=1\/k=2\/k=3\/k=4\/k=5 by omega) with rfl | rfl | rfl | rfl | rfl | rfl
  ·-- form
   cases d:Bd t s with
   | false =>
    have q:=fun (Q:VV->VH->Prop)=>A8o C t ht s hs DE d v (Q:=Q)
    have e:=Atm H d
    simp only [BG,DE] at q
    simp only [go_sem,↓reduceIte,p26,p25,p24,BG,DE,q,e,A0]
    first | rfl | decide | (rw [Az (by decide) (by decide)];rfl)
   | true =>
    have q:=fun (Q:VV->VH->Prop)=>Abo C t ht s hs DE (AE.1 d) v (Q:=Q)
    have e:=An9 H d
    simp only [BG,DE] at q
    simp only [go_sem,↓reduceIte,p26,p25,p24,BG,DE,q,A0]
    exact ⟨⟨_,rfl,rfl⟩,e⟩
  ·-- ordered
   rw [if_neg (by decide)] at hv
   subst hv
   have hf:=AE.1 (H.1 (by decide))
   cases d:Px (Ak t.nodes.length (Bw t s s.has.length)) with
   | false =>
    have q:=fun (Q:VV->VH->Prop)=>(P2 C t ht s hs DE hf (.fp (QA t s) 0) (Q:=Q)).trans (by rw [d])
    have e:=Atn H d
    simp only [BG,DE] at q
    simp only [go_sem,↓reduceIte,p26,p25,p24,BG,DE,q,e,A0]
    first | rfl | decide | (rw [Az (by decide) (by decide)];rfl)
   | true =>
    have q:=fun (Q:VV->VH->Prop)=>(P2 C t ht s hs DE hf (.fp (QA t s) 0) (Q:=Q)).trans (by rw [d])
    have e:=Ana H d
    simp only [BG,DE] at q
    simp only [go_sem,↓reduceIte,p26,p25,p24,BG,DE,q,A0]
    exact ⟨⟨_,rfl,rfl⟩,e⟩
  ·-- sound
   rw [if_neg (by decide)] at hv
   subst hv
   have hf:=AE.1 (H.1 (by decide))
   cases d:((List.range s.has.length).all fun i=>Ef t s (s.has.getD i 0).toNat) with
   | false =>
    have q:=fun (Q:VV->VH->Prop)=>(Xw C t ht s hs DE hf (Q:=Q)).trans (by rw [d])
    have e:=Ato H d
    simp only [BG,DE] at q
    simp only [go_sem,↓reduceIte,p26,p25,p24,BG,DE,q,e,A0]
    first | rfl | decide | (rw [Az (by decide) (by decide)];rfl)
   | true =>
    have q:=fun (Q:VV->VH->Prop)=>(Xw C t ht s hs DE hf (Q:=Q)).trans (by rw [d])
    have e:=Anb H d
    simp only [BG,DE] at q
    simp only [go_sem,↓reduceIte,p26,p25,p24,BG,DE,q,A0]
    exact ⟨⟨_,rfl,rfl⟩,e⟩
  ·-- apart
   rw [if_neg (by decide)] at hv
   subst hv
   have hf:=AE.1 (H.1 (by decide))
   cases d:((List.range s.has.length).all fun i=>!(decide (0<=s.jf.getD i 0) && BR t s (s.has.getD i 0).toNat (s.jf.getD i 0).toNat)) with
   | false =>
    have q:=fun (Q:VV->VH->Prop)=>(Xv C t ht s hs DE hf (Q:=Q)).trans (by rw [d])
    have e:=Atp H d
    simp only [BG,DE] at q
    simp only [go_sem,↓reduceIte,p26,p25,p24,BG,DE,q,e,A0]
    first | rfl | decide | (rw [Az (by decide) (by decide)];rfl)
   | true =>
    have q:=fun (Q:VV->VH->Prop)=>(Xv C t ht s hs DE hf (Q:=Q)).trans (by rw [d])
    have e:=Anc H d
    simp only [BG,DE] at q
    simp only [go_sem,↓reduceIte,p26,p25,p24,BG,DE,q,A0]
    exact ⟨⟨_,rfl,rfl⟩,e⟩
  ·-- visible
   rw [if_neg (by decide)] at hv
   subst hv
   have hf:=AE.1 (H.1 (by decide))
   cases d:((List.range s.has.length).all fun i=>!RH t s (s.has.getD i 0) (s.jf.getD i 0)) with
   | false =>
    have q:=fun (Q:VV->VH->Prop)=>(P3 C t ht s hs DE hf (Q:=Q)).trans (by rw [d])
    have e:=Atq H d
    simp only [BG,DE] at q
    simp only [go_sem,↓reduceIte,p26,p25,p24,BG,DE,q,e,A0]
    first | rfl | decide | (rw [Az (by decide) (by decide)];rfl)
   | true =>
    have q:=fun (Q:VV->VH->Prop)=>(P3 C t ht s hs DE hf (Q:=Q)).trans (by rw [d])
    have e:=And H d
    simp only [BG,DE] at q
    simp only [go_sem,↓reduceIte,p26,p25,p24,BG,DE,q,A0]
    exact ⟨⟨_,rfl,rfl⟩,e⟩
  ·-- located
   rw [if_neg (by decide)] at hv
   subst hv
   have hf:=AE.1 (H.1 (by decide))
   cases d:DM t s with
   | false =>
    have q:=fun (Q:VV->VH->Prop)=>(NZ C t ht s hs DE (.fp (QA t s) 0) (Q:=Q)).trans (by rw [d])
    have e:=Atr H d
    simp only [BG,DE] at q
    simp only [go_sem,↓reduceIte,p26,p25,p24,BG,DE,q,e,A0]
    first | rfl | decide | (rw [Az (by decide) (by decide)];rfl)
   | true =>
    have q:=fun (Q:VV->VH->Prop)=>(NZ C t ht s hs DE (.fp (QA t s) 0) (Q:=Q)).trans (by rw [d])
    have e:=Ane H d
    simp only [BG,DE] at q
    simp only [go_sem,↓reduceIte,p26,p25,p24,BG,DE,q,A0]
    exact ⟨⟨_,rfl,rfl⟩,e⟩
 .rintro F h ⟨p24,_,H⟩
  have e:=Atl H
  simp only [go_sem,↓reduceIte,p24,e]
 .simp only [go_sem,↓reduceIte]
 .simp only [go_sem,↓reduceIte]
 .simp only [go_sem,↓reduceIte]
  exact ⟨⟨_,rfl,rfl⟩,An8 t s⟩
theorem Ab3 {Q:VV->Prop}:VP V A1q [vT t,Dy s] Q↔Q (.b (decide (LY t s=0))):=by
 refine Ae ?_
 rw [Ad C.c_z47.1 C.c_z47.2]
 have h:=fun (Q:VV->Prop)=>Yb C t ht s hs (Q:=Q)
 simp only [A9a,go_sem,↓reduceIte,h]
end
end Go.AM
