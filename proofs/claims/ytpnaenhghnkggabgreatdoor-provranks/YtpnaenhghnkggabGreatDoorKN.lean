/-
  Own work, part of the proof of these laws: what functions compute.
-/
import Derived.Test.YtpnaenhghnkggabGreatDoorKM
set_option maxRecDepth 10000
set_option maxHeartbeats 64000000
set_option linter.unusedVariables false
set_option linter.unusedSimpArgs false
set_option linter.unusedSectionVars false
open Int (toNat_natCast)
namespace Go.AM
open Go Go.Proofs
def b6:Option VO:=some ⟨Ae,0,0,false,[[.nl,.nl,.nl]]⟩
def b9 (s:A6):Option VO:=some ⟨Ae,0,0,false,[EX s]⟩
def Al0 (mem:List Int) (mv:VV) (x3:Option VO):Prop:=mv=lI mem\/(mv = .sl 3 mem.length 0 mem.length/\x3=some (AX AO 1 (mem.map eI)))
section
variable {V:Am} (C:Ap V)
include C
omit C in
theorem Al0.cl {mem:List Int} {mv:VV} {x3:Option VO} (k:Al0 mem mv x3) {n:Nat} (hn:3 < n):Mm n mv=mv:=by
 rcases k with rfl | ⟨rfl,rfl⟩
 .rfl
 .show (bif Nat.blt 3 n then _ else _)=_
  rw [show Nat.blt 3 n=true from by simp only [Nat.blt_eq];exact hn];rfl
end
def AqW (t:A2) (loc:Nat) (n:Int):Bool:=decide ((t.at n.toNat).kind=3) && decide ((t.at n.toNat).loc=loc)
structure SzE (e:A1k):Prop where
 has:e.has.length<=1000
 rf:e.rf.length<=1000
 mo:e.mo.length<=1000
 mi:∀ l∈e.mo,l.length<=1000
theorem SzE.mi' {e:A1k} (h:SzE e) (k:Nat):(e.mo.getD k []).length<=1000:=by
 by_cases c:k < e.mo.length
 .exact h.mi _ (Ac c)
 .rw [List.getD_eq_getElem?_getD,List.getElem?_eq_none (by omega)];simp
theorem Qv {t:A2} {s:A6} (hf:Bg t s) {i:Nat} (hi:i < s.has.length):∃ m:Nat,s.has.getD i 0=m/\m < t.nodes.length/\(m:Int)∈s.has:=by
 have hm:=Ac (d:=0) hi
 obtain ⟨m,e,h0⟩:=A7 (hf.node _ hm)
 rw [e] at hm
 exact ⟨m,e,h0,hm⟩
def Bn (t:A2) (s:A6) (v:VV):Option VO:=some ⟨RV,0,0,false,[[.i .i64 t.vals,lS t.locs,.ls (t.regs.map Hv),.ls (t.nodes.map eN),lI s.has,lI s.jf,.ls (s.mo.map De),v]]⟩
section
variable {V:Am} (C:Ap V)
include C
theorem Jx {n:Nat} (hn:n<=64) (p:Nat->Nat->Bool) {Q:VV->Prop}:VP V A0t [lW (Aj n p)] Q↔Q (.b (KY (Aj n p))):=by
 refine Ad ?_
 rw [Ab C.c_z78.1 C.c_z78.2]
 have hm:=Cm hn p
 have hl:=DB hn p
 have h0:=Al (n:=n) (p:=p)
 have h2:=fun (Q:VV->Prop)=>MN C (Aj n p) (Q:=Q)
 unfold KY
 rw [hm,Bool.true_and,h0]
 obtain ⟨a,ha⟩:∃ a,a=Aj n p:=⟨_,rfl⟩
 rw [<- ha] at hm hl h0 h2 ⊢
 simp only [Aan,go_sem,↓reduceIte,h2,hl]
 refine Ag (by decide) n (by omega) (I:=fun k F h=>A3.tmp F 0=lW a/\A3.tmp F 6=lW (Bz a)/\h=[]/\∀ j,j < k->((Bz a).getD j 0#64).getLsbD j=false) ?_ ?_ 0 _ _ (by omega) ?_ ?_ ?_
 .rintro k F h hk p8 p7 ⟨p0,p6,rfl,pr⟩
  have gW:=B4 (a:=Bz a) (i:=k) (by omega)
  have h1:k < (Bz a).length:=by omega
  have hh:=AD ((Bz a).getD k 0#64) k
  cases d:((Bz a).getD k 0#64).getLsbD k with
  | true =>
   rw [d] at hh
   have hb:=AF (p:=fun i=>!((Bz a).getD i 0#64).getLsbD i) hk (by rw [d];rfl)
   simp only [go_sem,↓reduceIte,p8,p7,p0,p6,gW,h1,AK C,hh,hb,A0]
  | false =>
   rw [d] at hh
   simp only [go_sem,↓reduceIte,p8,p7,p0,p6,gW,h1,AK C,hh,A0]
   intro j hj
   rcases Nat.lt_or_ge j k with c | c
   .exact pr j c
   .rw [show j=k by omega];exact d
 .rintro F h ⟨p0,p6,rfl,pr⟩
  have hb:=AG (p:=fun i=>!((Bz a).getD i 0#64).getLsbD i) fun j hj=>by rw [pr j hj];rfl
  simp only [go_sem,↓reduceIte,p0,p6,Cx C,hm,hb]
 .simp only [go_sem,↓reduceIte]
 .simp only [go_sem,↓reduceIte]
 .simp only [go_sem,↓reduceIte]
  intro j hj;omega
variable (t:A2) (ht:A9 t) (s:A6) (hs:El s) (x1:Option VO)
include ht hs
theorem A1s (hf:Bg t s) (v:VV) {Q:VV->VH->Prop}:Gh V SV [.p 0 0 0 0] [Bn t s v,x1] Q↔Q (.b true) [Bn t s (.fp (RR t s) 0),x1]:=by
 refine Db ?_
 rw [Cf C.h_z41]
 have h:=fun (Q:VV->Prop)=>A8c C t ht s hs hf (Q:=Q)
 unfold RR at h ⊢
 simp only [A58,go_sem,↓reduceIte,Bn,h]
theorem Zg (hf:Bd t s=false) (v:VV) {Q:VV->VH->Prop}:Gh V SV [.p 0 0 0 0] [Bn t s v,x1] Q↔Q (.b false) [Bn t s .np,x1]:=by
 refine Db ?_
 rw [Cf C.h_z41]
 have h:=fun (Q:VV->Prop)=>A4r C t ht s hs hf (Q:=Q)
 simp only [A58,go_sem,↓reduceIte,Bn,h]
theorem L9 (v:VV) {Q:VV->VH->Prop}:Gh V A0m [.p 0 0 0 0] [Bn t s v,x1] Q↔Q (.b (L3 t s)) [Bn t s v,x1]:=by
 refine Db ?_
 rw [Cf C.h_z46]
 have h:=fun (Q:VV->Prop)=>TW C t ht s hs (Q:=Q)
 simp only [Aa9,go_sem,↓reduceIte,Bn,h]
end
section
variable {V:Am} (C:Ap V) (t:A2) (ht:A9 t) (s:A6) (hs:El s) (x1:Option VO) (hf:Bg t s)
include C ht hs hf
theorem NT {Q:VV->VH->Prop}:Gh V A0j [.p 0 0 0 0] [Bn t s (.fp (RR t s) 0),x1] Q↔Q (.b ((List.range s.has.length).all fun i=>Pu t s (s.has.getD i 0).toNat)) [Bn t s (.fp (RR t s) 0),x1]:=by
 refine Db ?_
 rw [Cf C.h_z43]
 have g1:=hs.has
 have hS:∀ n:Nat,n < t.nodes.length->∀ Q:VV->Prop,VP V A0u [.fp (RR t s) 0,.i .i64 n] Q↔Q (.b (Pu t s n)):=fun n hn Q=>Sr C t ht s (dnR t s) _ (by rw [dnR,Al];exact hn) (Q:=Q)
 obtain ⟨w,hw⟩:∃ w,w=VV.fp (RR t s) 0:=⟨_,rfl⟩
 simp only [Aa6,go_sem,↓reduceIte,Bn]
 refine Ag (by decide) s.has.length (by omega) (I:=fun k F h=>A3.tmp F 0 = .p 0 0 0 0/\A3.tmp F 9=lI s.has/\h=[Bn t s (.fp (RR t s) 0),x1]/\∀ j,j < k->Pu t s (s.has.getD j 0).toNat=true) ?_ ?_ 0 _ _ (by omega) ?_ ?_ ?_
 .rintro k F h hk h2 h1 ⟨p0,p9,rfl,pr⟩
  obtain ⟨x,hx,h3,h4⟩:=Qv hf hk
  have gX:=Ak hk
  rw [hx] at gX
  have h0:=hS x h3
  cases d:Pu t s x with
  | false =>
   rw [d] at h0
   have hb:=AF (p:=fun i=>Pu t s (s.has.getD i 0).toNat) hk (by rw [hx,toNat_natCast,d])
   simp only [go_sem,↓reduceIte,h2,h1,p0,p9,gX,hk,Bn,h0,hb,A0]
  | true =>
   rw [d] at h0
   simp only [go_sem,↓reduceIte,h2,h1,p0,p9,gX,hk,Bn,h0,A0]
   intro j hj
   rcases Nat.lt_or_ge j k with c | c
   .exact pr j c
   .rw [show j=k by omega,hx,toNat_natCast];exact d
 .rintro F h ⟨p0,p9,rfl,pr⟩
  have hb:=AG (p:=fun i=>Pu t s (s.has.getD i 0).toNat) pr
  simp only [go_sem,↓reduceIte,p0,p9,Bn,hb]
 .simp only [go_sem,↓reduceIte]
 .simp only [go_sem,↓reduceIte]
 .simp only [go_sem,↓reduceIte,Bn]
  intro j hj;omega
theorem NS {Q:VV->VH->Prop}:Gh V A0k [.p 0 0 0 0] [Bn t s (.fp (RR t s) 0),x1] Q↔Q (.b ((List.range s.has.length).all fun i=>!(decide (0<=s.jf.getD i 0) && Ec t s (s.has.getD i 0).toNat (s.jf.getD i 0).toNat))) [Bn t s (.fp (RR t s) 0),x1]:=by
 refine Db ?_
 rw [Cf C.h_z44]
 have g1:=hs.has
 have hF:=Ba (B3 (AY.2 hf))
 have hE:∀ a b:Nat,a < t.nodes.length->b < t.nodes.length->∀ Q:VV->Prop,VP V A0v [.fp (RR t s) 0,.i .i64 a,.i .i64 b] Q↔Q (.b (Ec t s a b)):=fun a b ha hb Q=>A0T C t ht s (dnR t s) _ (by rw [dnR,Al];exact ha) (by rw [dnR,Al];exact hb) (Q:=Q)
 simp only [Aa7,go_sem,↓reduceIte,Bn]
 refine Ag (by decide) s.has.length (by omega) (I:=fun k F h=>A3.tmp F 0 = .p 0 0 0 0/\A3.tmp F 10=lI s.has/\h=[Bn t s (.fp (RR t s) 0),x1]/\∀ j,j < k->(!(decide (0<=s.jf.getD j 0) && Ec t s (s.has.getD j 0).toNat (s.jf.getD j 0).toNat))=true) ?_ ?_ 0 _ _ (by omega) ?_ ?_ ?_
 .rintro k F h hk h6 h5 ⟨p0,h1,rfl,pr⟩
  obtain ⟨x,hx,h8,h7⟩:=Qv hf hk
  have gX:=Ak hk
  have h3:k < s.jf.length:=by rw [hf.jl];exact hk
  have gJ:=Ak h3
  have ho:=hF.at_ k hk
  rw [hx] at gX ho
  have h2:(!(decide (0<=s.jf.getD k 0) && Ec t s (s.has.getD k 0).toNat (s.jf.getD k 0).toNat))=true->∀ j,j < k+1->(!(decide (0<=s.jf.getD j 0) && Ec t s (s.has.getD j 0).toNat (s.jf.getD j 0).toNat))=true:=fun h j hj=>by
   rcases Nat.lt_or_ge j k with c | c
   .exact pr j c
   .rw [show j=k by omega];exact h
  cases d0:decide (0<=s.jf.getD k 0) with
  | false =>
   simp only [go_sem,↓reduceIte,h6,h5,p0,h1,gX,gJ,hk,h3,Bn,d0,A0]
   exact h2 (by rw [d0];rfl)
  | true =>
   have h4:(t.at x).kind=2:=by
    apply Classical.byContradiction
    intro h4
    have:=hF.none x h7 (by rw [toNat_natCast];exact h4)
    have:=of_decide_eq_true d0
    omega
   have q1:=(hF.read x h7 (by rw [toNat_natCast];exact h4)).1
   rw [ho] at q1
   obtain ⟨w,ew,hw⟩:=A7 (hf.node _ q1)
   rw [ew] at gJ h2 d0
   have h0:=hE x w h8 hw
   rw [hx,toNat_natCast,toNat_natCast] at h2
   cases d:Ec t s x w with
   | true =>
    rw [d] at h0
    have hb:=AF (p:=fun i=>!(decide (0<=s.jf.getD i 0) && Ec t s (s.has.getD i 0).toNat (s.jf.getD i 0).toNat)) hk (by rw [hx,ew,toNat_natCast,toNat_natCast,d0,d];rfl)
    simp only [go_sem,↓reduceIte,h6,h5,p0,h1,gX,gJ,hk,h3,Bn,d0,h0,hb,A0]
   | false =>
    rw [d] at h0
    simp only [go_sem,↓reduceIte,h6,h5,p0,h1,gX,gJ,hk,h3,Bn,d0,h0,A0]
    exact h2 (by rw [d0,d];rfl)
 .rintro F h ⟨p0,h1,rfl,pr⟩
  have hb:=AG (p:=fun i=>!(decide (0<=s.jf.getD i 0) && Ec t s (s.has.getD i 0).toNat (s.jf.getD i 0).toNat)) pr
  simp only [go_sem,↓reduceIte,p0,h1,Bn,hb]
 .simp only [go_sem,↓reduceIte]
 .simp only [go_sem,↓reduceIte]
 .simp only [go_sem,↓reduceIte,Bn]
  intro j hj;omega
theorem Lb {Q:VV->VH->Prop}:Gh V A0l [.p 0 0 0 0] [Bn t s (.fp (RR t s) 0),x1] Q↔Q (.b ((List.range s.has.length).all fun i=>!Pk t s (s.has.getD i 0) (s.jf.getD i 0))) [Bn t s (.fp (RR t s) 0),x1]:=by
 refine Db ?_
 rw [Cf C.h_z45]
 have g1:=hs.has
 have ok:=A7D hf ht
 have hF:=Ba (B3 (AY.2 hf))
 have hV:∀ n:Nat,n < t.nodes.length->∀ Q:VV->Prop,VP V A0w [.fp (RR t s) 0,.i .i64 n] Q↔Q (.b (RP t s n)):=fun n hn Q=>Pt C t ht s hs ok (dnR t s) (hgB t s) hn (Q:=Q)
 simp only [Aa8,go_sem,↓reduceIte,Bn]
 refine Ag (by decide) s.has.length (by omega) (I:=fun k F h=>A3.tmp F 0 = .p 0 0 0 0/\A3.tmp F 10=lI s.has/\h=[Bn t s (.fp (RR t s) 0),x1]/\∀ j,j < k->(!Pk t s (s.has.getD j 0) (s.jf.getD j 0))=true) ?_ ?_ 0 _ _ (by omega) ?_ ?_ ?_
 .rintro k F h hk h5 h4 ⟨p0,h0,rfl,pr⟩
  obtain ⟨x,hx,h3,h8⟩:=Qv hf hk
  have gX:=Ak hk
  have h1:k < s.jf.length:=by rw [hf.jl];exact hk
  have gJ:=Ak h1
  have ho:=hF.at_ k hk
  rw [hx] at gX ho
  have h2:Pk t s x (s.jf.getD k 0)=false->∀ j,j < k+1->(!Pk t s (s.has.getD j 0) (s.jf.getD j 0))=true:=fun h j hj=>by
   rcases Nat.lt_or_ge j k with c | c
   .exact pr j c
   .rw [show j=k by omega,hx,h];rfl
  cases d0:decide (s.jf.getD k 0 < 0) with
  | true =>
   simp only [go_sem,↓reduceIte,h5,h4,p0,h0,gX,gJ,hk,h1,Bn,d0,A0]
   exact h2 (by rw [Pk,decide_eq_false (by have:=of_decide_eq_true d0;omega)];rfl)
  | false =>
   have hn:=of_decide_eq_false d0
   have h7:(t.at x).kind=2:=by
    apply Classical.byContradiction
    intro h7
    have:=hF.none x h8 (by rw [toNat_natCast];exact h7)
    omega
   have q1:=(hF.read x h8 (by rw [toNat_natCast];exact h7)).1
   rw [ho] at q1
   obtain ⟨w,ew,hw⟩:=A7 (hf.node _ q1)
   rw [ew] at gJ h2 d0
   have h6:=hV w hw
   have aX:=A5 h3
   have aW:=A5 hw
   have z0:decide (0<=(w:Int))=true:=decide_eq_true (by omega)
   cases d1:decide ((t.at w).thread < 0) with
   | true =>
    simp only [go_sem,↓reduceIte,h5,h4,p0,h0,gX,gJ,hk,h1,Bn,d0,aX,aW,h3,hw,d1,A0]
    exact h2 (by rw [Pk,toNat_natCast,decide_eq_false (show ¬ 0<=(t.at w).thread by have:=of_decide_eq_true d1;omega)];simp)
   | false =>
   have z1:decide (0<=(t.at w).thread)=true:=decide_eq_true (by have:=of_decide_eq_false d1;omega)
   cases d2:decide ((t.at w).thread=(t.at x).thread) with
   | true =>
    simp only [go_sem,↓reduceIte,h5,h4,p0,h0,gX,gJ,hk,h1,Bn,d0,aX,aW,h3,hw,d1,d2,A0]
    exact h2 (by rw [Pk,toNat_natCast,toNat_natCast,d2];simp)
   | false =>
    cases d:RP t s w with
    | false =>
     rw [d] at h6
     have hb:=AF (p:=fun i=>!Pk t s (s.has.getD i 0) (s.jf.getD i 0)) hk (by rw [hx,ew,Pk,toNat_natCast,toNat_natCast,z0,z1,d2,d];rfl)
     simp only [go_sem,↓reduceIte,h5,h4,p0,h0,gX,gJ,hk,h1,Bn,d0,aX,aW,h3,hw,d1,d2,h6,hb,A0]
    | true =>
     rw [d] at h6
     simp only [go_sem,↓reduceIte,h5,h4,p0,h0,gX,gJ,hk,h1,Bn,d0,aX,aW,h3,hw,d1,d2,h6,A0]
     exact h2 (by rw [Pk,toNat_natCast,toNat_natCast,d];simp)
 .rintro F h ⟨p0,h0,rfl,pr⟩
  have hb:=AG (p:=fun i=>!Pk t s (s.has.getD i 0) (s.jf.getD i 0)) pr
  simp only [go_sem,↓reduceIte,p0,h0,Bn,hb]
 .simp only [go_sem,↓reduceIte]
 .simp only [go_sem,↓reduceIte]
 .simp only [go_sem,↓reduceIte,Bn]
  intro j hj;omega
theorem La (v:VV) {Q:VV->VH->Prop}:Gh V A0i [.p 0 0 0 0] [Bn t s v,x1] Q↔Q (.b (KY (Aj t.nodes.length (BC t s s.has.length)))) [Bn t s v,x1]:=by
 refine Db ?_
 rw [Cf C.h_z42]
 have h1:=ht.n64
 have g1:=hs.has
 have hd:CX (JD t)=true:=Cm h1 _
 have hc:Mz (JD t) (CP s.has)=Aj t.nodes.length (BC t s 0):=by
  rw [JD,Jc h1]
  refine CC fun a b _ _=>?_
  simp [BC]
 have h7:=fun (b:Nat) (Q:VV->VH->Prop)=>Kl C (JD t) hd (CP s.has) b (Q:=Q)
 rw [hc,show (JD t).length=t.nodes.length from Al] at h7
 have h9:=fun (Q:VV->Prop)=>KV C t ht (Q:=Q)
 rw [<- JD] at h9
 have h0:=fun (Q:VV->Prop)=>Kr C s hs (Q:=Q)
 have h6:=fun (Q:VV->Prop)=>Jx C h1 (BC t s s.has.length) (Q:=Q)
 simp only [Aa5,go_sem,↓reduceIte,Bn,h7,h9,h0]
 obtain ⟨n,hn⟩:∃ n,n=t.nodes.length:=⟨_,rfl⟩
 rw [<- hn] at h1 h6 ⊢
 refine Ag (by decide) s.has.length (by omega) (I:=fun k F h'=>A3.tmp F 0 = .p 0 0 0 0/\A3.tmp F 3 = .sl 2 0 0 n/\A3.tmp F 22=lI s.has/\h' = [Bn t s v,x1,some ⟨AL,1,0,false,(Aj n (BC t s k)).map eW⟩]) ?_ ?_ 0 _ _ (by omega) ?_ ?_ ?_
 .rintro k F h' hk hb ha ⟨p0,p3,h4,rfl⟩
  have gH:=Ak hk
  have h5:k < s.jf.length:=by rw [hf.jl];exact hk
  have gJ:=Ak h5
  obtain ⟨m,hm,h8⟩:=A7 (hf.node _ (Ac (d:=0) hk))
  rw [<- hn] at h8
  have hj:=hf.just k hk
  rw [hm] at gH hj
  by_cases c:(t.at m).kind=2
  .simp only [okJ,toNat_natCast,c,if_true,Bool.and_eq_true,Af] at hj
   obtain ⟨w,hw,h3⟩:=A7 (hf.node _ hj.1.1)
   rw [<- hn] at h3
   rw [hw] at gJ
   have d0:decide ((0:Int)<=(w:Int))=true:=decide_eq_true (by omega)
   have gW:=B4 (a:=Aj n (BC t s k)) (i:=w) (by rw [Al];exact h3)
   have h2:=GL h1 (BC t s k) h8 h3
   rw [Ry t s k hw hm] at h2
   have h0:∀ x,((Aj n (BC t s k)).map eW).set w [vW x]=((Aj n (BC t s k)).set w x).map eW:=fun x=>by rw [List.map_set]
   simp only [go_sem,↓reduceIte,hb,ha,p0,p3,h4,gH,gJ,hk,h5,d0,gW,h3,BN C,h0,h2,Al,List.length_map,Bn,A0]
  .simp only [okJ,toNat_natCast,c,if_false,decide_eq_true_eq] at hj
   rw [hj] at gJ
   rw [A0W t s k (by rw [hj];decide)]
   simp only [go_sem,↓reduceIte,hb,ha,p0,p3,h4,gH,gJ,hk,h5,Bn,A0]
 .rintro F h' ⟨p0,p3,h4,rfl⟩
  simp only [go_sem,↓reduceIte,p0,p3,h4,Bn,h6,Al,List.length_map,List.take_of_length_le (Nat.le_of_eq (Al (n:=n) (p:=BC t s s.has.length)))]
 .simp only [go_sem,↓reduceIte]
 .simp only [go_sem,↓reduceIte]
 .simp only [go_sem,↓reduceIte,Bn]
end
def D1:Option VO:=some ⟨Z5,1,0,false,[[.f SV [.p 0 0 0 0] []],[.f A0i [.p 0 0 0 0] []],[.f A0j [.p 0 0 0 0] []],[.f A0k [.p 0 0 0 0] []],[.f A0l [.p 0 0 0 0] []],[.f A0m [.p 0 0 0 0] []]]⟩
def Hu (t:A2) (s:A6) (k:Nat):Prop:=(1<=k->Bd t s=true)/\(2<=k->KY (Aj t.nodes.length (BC t s s.has.length))=true)/\(3<=k->((List.range s.has.length).all fun i=>Pu t s (s.has.getD i 0).toNat)=true)/\(4<=k->((List.range s.has.length).all fun i=>!(decide (0<=s.jf.getD i 0) && Ec t s (s.has.getD i 0).toNat (s.jf.getD i 0).toNat))=true)/\(5<=k->((List.range s.has.length).all fun i=>!Pk t s (s.has.getD i 0) (s.jf.getD i 0))=true)/\(6<=k->L3 t s=true)
theorem Ahe (t:A2) (s:A6):Hu t s 0:=⟨fun h=>absurd h (by decide),fun h=>absurd h (by decide),fun h=>absurd h (by decide),fun h=>absurd h (by decide),fun h=>absurd h (by decide),fun h=>absurd h (by decide)⟩
theorem Anr {t:A2} {s:A6} (H:Hu t s 0) (h:Bd t s=false):JG t s=1:=by
 unfold JG
 rw [if_pos h]
theorem Ahf {t:A2} {s:A6} (H:Hu t s 0) (h:Bd t s=true):Hu t s 1:=⟨fun _=>h,fun h=>absurd h (by decide),fun h=>absurd h (by decide),fun h=>absurd h (by decide),fun h=>absurd h (by decide),fun h=>absurd h (by decide)⟩
theorem Ant {t:A2} {s:A6} (H:Hu t s 1) (h:KY (Aj t.nodes.length (BC t s s.has.length))=false):JG t s=2:=by
 unfold JG
 rw [if_neg (by rw [H.1 (by decide)];decide),if_pos h]
theorem Ahg {t:A2} {s:A6} (H:Hu t s 1) (h:KY (Aj t.nodes.length (BC t s s.has.length))=true):Hu t s 2:=⟨fun _=>H.1 (by decide),fun _=>h,fun h=>absurd h (by decide),fun h=>absurd h (by decide),fun h=>absurd h (by decide),fun h=>absurd h (by decide)⟩
theorem Anu {t:A2} {s:A6} (H:Hu t s 2) (h:((List.range s.has.length).all fun i=>Pu t s (s.has.getD i 0).toNat)=false):JG t s=3:=by
 unfold JG
 rw [if_neg (by rw [H.1 (by decide)];decide),if_neg (by rw [H.2.1 (by decide)];decide),if_pos h]
theorem Ahh {t:A2} {s:A6} (H:Hu t s 2) (h:((List.range s.has.length).all fun i=>Pu t s (s.has.getD i 0).toNat)=true):Hu t s 3:=⟨fun _=>H.1 (by decide),fun _=>H.2.1 (by decide),fun _=>h,fun h=>absurd h (by decide),fun h=>absurd h (by decide),fun h=>absurd h (by decide)⟩
theorem Anv {t:A2} {s:A6} (H:Hu t s 3) (h:((List.range s.has.length).all fun i=>!(decide (0<=s.jf.getD i 0) && Ec t s (s.has.getD i 0).toNat (s.jf.getD i 0).toNat))=false):JG t s=4:=by
 unfold JG
 rw [if_neg (by rw [H.1 (by decide)];decide),if_neg (by rw [H.2.1 (by decide)];decide),if_neg (by rw [H.2.2.1 (by decide)];decide),if_pos h]
theorem Ahi {t:A2} {s:A6} (H:Hu t s 3) (h:((List.range s.has.length).all fun i=>!(decide (0<=s.jf.getD i 0) && Ec t s (s.has.getD i 0).toNat (s.jf.getD i 0).toNat))=true):Hu t s 4:=⟨fun _=>H.1 (by decide),fun _=>H.2.1 (by decide),fun _=>H.2.2.1 (by decide),fun _=>h,fun h=>absurd h (by decide),fun h=>absurd h (by decide)⟩
theorem Anw {t:A2} {s:A6} (H:Hu t s 4) (h:((List.range s.has.length).all fun i=>!Pk t s (s.has.getD i 0) (s.jf.getD i 0))=false):JG t s=5:=by
 unfold JG
 rw [if_neg (by rw [H.1 (by decide)];decide),if_neg (by rw [H.2.1 (by decide)];decide),if_neg (by rw [H.2.2.1 (by decide)];decide),if_neg (by rw [H.2.2.2.1 (by decide)];decide),if_pos h]
theorem Ahj {t:A2} {s:A6} (H:Hu t s 4) (h:((List.range s.has.length).all fun i=>!Pk t s (s.has.getD i 0) (s.jf.getD i 0))=true):Hu t s 5:=⟨fun _=>H.1 (by decide),fun _=>H.2.1 (by decide),fun _=>H.2.2.1 (by decide),fun _=>H.2.2.2.1 (by decide),fun _=>h,fun h=>absurd h (by decide)⟩
theorem Anx {t:A2} {s:A6} (H:Hu t s 5) (h:L3 t s=false):JG t s=6:=by
 unfold JG
 rw [if_neg (by rw [H.1 (by decide)];decide),if_neg (by rw [H.2.1 (by decide)];decide),if_neg (by rw [H.2.2.1 (by decide)];decide),if_neg (by rw [H.2.2.2.1 (by decide)];decide),if_neg (by rw [H.2.2.2.2.1 (by decide)];decide),if_pos h]
theorem Ahk {t:A2} {s:A6} (H:Hu t s 5) (h:L3 t s=true):Hu t s 6:=⟨fun _=>H.1 (by decide),fun _=>H.2.1 (by decide),fun _=>H.2.2.1 (by decide),fun _=>H.2.2.2.1 (by decide),fun _=>H.2.2.2.2.1 (by decide),fun _=>h⟩
theorem Anq {t:A2} {s:A6} (H:Hu t s 6):JG t s=0:=by
 unfold JG
 rw [if_neg (by rw [H.1 (by decide)];decide),if_neg (by rw [H.2.1 (by decide)];decide),if_neg (by rw [H.2.2.1 (by decide)];decide),if_neg (by rw [H.2.2.2.1 (by decide)];decide),if_neg (by rw [H.2.2.2.2.1 (by decide)];decide),if_neg (by rw [H.2.2.2.2.2 (by decide)];decide)]
section
variable {V:Am} (C:Ap V) (t:A2) (ht:A9 t) (s:A6) (hs:El s)
include C ht hs
theorem A19 {Q:VV->Prop}:VP V A0d [vT t,Eu s] Q↔Q (.i .i64 (JG t s)):=by
 refine Ad ?_
 rw [Ab C.c_z19.1 C.c_z19.2]
 simp only [A9R,go_sem,↓reduceIte]
 refine Ag (by decide) 6 (by omega) (I:=fun k F h=>A3.tmp F 24 = .sl 1 0 0 6/\(∃ v,(v=if k=0 then .np else .fp (RR t s) 0)/\h=[Bn t s v,D1])/\Hu t s k) ?_ ?_ 0 _ _ (by omega) ?_ ?_ ?_
 .rintro k F h hk h2 h1 ⟨h0,⟨v,hv,rfl⟩,H⟩
  rcases (show k=0\/k=1\/k=2\/k=3\/k=4\/k=5 by omega) with rfl | rfl | rfl | rfl | rfl | rfl
  ·-- form
   cases d:Bd t s with
   | false =>
    have q:=fun (Q:VV->VH->Prop)=>Zg C t ht s hs D1 d v (Q:=Q)
    have e:=Anr H d
    simp only [Bn,D1] at q
    simp only [go_sem,↓reduceIte,h2,h1,h0,Bn,D1,q,e,A0]
    first | rfl | decide | (rw [Av (by decide) (by decide)];rfl)
   | true =>
    have q:=fun (Q:VV->VH->Prop)=>A1s C t ht s hs D1 (AY.1 d) v (Q:=Q)
    have e:=Ahf H d
    simp only [Bn,D1] at q
    simp only [go_sem,↓reduceIte,h2,h1,h0,Bn,D1,q,A0]
    exact ⟨⟨_,rfl,rfl⟩,e⟩
  ·-- ordered
   rw [if_neg (by decide)] at hv
   subst hv
   have hf:=AY.1 (H.1 (by decide))
   cases d:KY (Aj t.nodes.length (BC t s s.has.length)) with
   | false =>
    have q:=fun (Q:VV->VH->Prop)=>(La C t ht s hs D1 hf (.fp (RR t s) 0) (Q:=Q)).trans (by rw [d])
    have e:=Ant H d
    simp only [Bn,D1] at q
    simp only [go_sem,↓reduceIte,h2,h1,h0,Bn,D1,q,e,A0]
    first | rfl | decide | (rw [Av (by decide) (by decide)];rfl)
   | true =>
    have q:=fun (Q:VV->VH->Prop)=>(La C t ht s hs D1 hf (.fp (RR t s) 0) (Q:=Q)).trans (by rw [d])
    have e:=Ahg H d
    simp only [Bn,D1] at q
    simp only [go_sem,↓reduceIte,h2,h1,h0,Bn,D1,q,A0]
    exact ⟨⟨_,rfl,rfl⟩,e⟩
  ·-- sound
   rw [if_neg (by decide)] at hv
   subst hv
   have hf:=AY.1 (H.1 (by decide))
   cases d:((List.range s.has.length).all fun i=>Pu t s (s.has.getD i 0).toNat) with
   | false =>
    have q:=fun (Q:VV->VH->Prop)=>(NT C t ht s hs D1 hf (Q:=Q)).trans (by rw [d])
    have e:=Anu H d
    simp only [Bn,D1] at q
    simp only [go_sem,↓reduceIte,h2,h1,h0,Bn,D1,q,e,A0]
    first | rfl | decide | (rw [Av (by decide) (by decide)];rfl)
   | true =>
    have q:=fun (Q:VV->VH->Prop)=>(NT C t ht s hs D1 hf (Q:=Q)).trans (by rw [d])
    have e:=Ahh H d
    simp only [Bn,D1] at q
    simp only [go_sem,↓reduceIte,h2,h1,h0,Bn,D1,q,A0]
    exact ⟨⟨_,rfl,rfl⟩,e⟩
  ·-- apart
   rw [if_neg (by decide)] at hv
   subst hv
   have hf:=AY.1 (H.1 (by decide))
   cases d:((List.range s.has.length).all fun i=>!(decide (0<=s.jf.getD i 0) && Ec t s (s.has.getD i 0).toNat (s.jf.getD i 0).toNat)) with
   | false =>
    have q:=fun (Q:VV->VH->Prop)=>(NS C t ht s hs D1 hf (Q:=Q)).trans (by rw [d])
    have e:=Anv H d
    simp only [Bn,D1] at q
    simp only [go_sem,↓reduceIte,h2,h1,h0,Bn,D1,q,e,A0]
    first | rfl | decide | (rw [Av (by decide) (by decide)];rfl)
   | true =>
    have q:=fun (Q:VV->VH->Prop)=>(NS C t ht s hs D1 hf (Q:=Q)).trans (by rw [d])
    have e:=Ahi H d
    simp only [Bn,D1] at q
    simp only [go_sem,↓reduceIte,h2,h1,h0,Bn,D1,q,A0]
    exact ⟨⟨_,rfl,rfl⟩,e⟩
  ·-- visible
   rw [if_neg (by decide)] at hv
   subst hv
   have hf:=AY.1 (H.1 (by decide))
   cases d:((List.range s.has.length).all fun i=>!Pk t s (s.has.getD i 0) (s.jf.getD i 0)) with
   | false =>
    have q:=fun (Q:VV->VH->Prop)=>(Lb C t ht s hs D1 hf (Q:=Q)).trans (by rw [d])
    have e:=Anw H d
    simp only [Bn,D1] at q
    simp only [go_sem,↓reduceIte,h2,h1,h0,Bn,D1,q,e,A0]
    first | rfl | decide | (rw [Av (by decide) (by decide)];rfl)
   | true =>
    have q:=fun (Q:VV->VH->Prop)=>(Lb C t ht s hs D1 hf (Q:=Q)).trans (by rw [d])
    have e:=Ahj H d
    simp only [Bn,D1] at q
    simp only [go_sem,↓reduceIte,h2,h1,h0,Bn,D1,q,A0]
    exact ⟨⟨_,rfl,rfl⟩,e⟩
  ·-- located
   rw [if_neg (by decide)] at hv
   subst hv
   have hf:=AY.1 (H.1 (by decide))
   cases d:L3 t s with
   | false =>
    have q:=fun (Q:VV->VH->Prop)=>(L9 C t ht s hs D1 (.fp (RR t s) 0) (Q:=Q)).trans (by rw [d])
    have e:=Anx H d
    simp only [Bn,D1] at q
    simp only [go_sem,↓reduceIte,h2,h1,h0,Bn,D1,q,e,A0]
    first | rfl | decide | (rw [Av (by decide) (by decide)];rfl)
   | true =>
    have q:=fun (Q:VV->VH->Prop)=>(L9 C t ht s hs D1 (.fp (RR t s) 0) (Q:=Q)).trans (by rw [d])
    have e:=Ahk H d
    simp only [Bn,D1] at q
    simp only [go_sem,↓reduceIte,h2,h1,h0,Bn,D1,q,A0]
    exact ⟨⟨_,rfl,rfl⟩,e⟩
 .rintro F h ⟨h0,_,H⟩
  have e:=Anq H
  simp only [go_sem,↓reduceIte,h0,e]
 .simp only [go_sem,↓reduceIte]
 .simp only [go_sem,↓reduceIte]
 .simp only [go_sem,↓reduceIte]
  exact ⟨⟨_,rfl,rfl⟩,Ahe t s⟩
theorem Pj {Q:VV->Prop}:VP V A6j [vT t,Eu s] Q↔Q (.b (decide (JG t s=0))):=by
 refine Ad ?_
 rw [Ab C.c_z21.1 C.c_z21.2]
 have h:=fun (Q:VV->Prop)=>A19 C t ht s hs (Q:=Q)
 simp only [A9V,go_sem,↓reduceIte,h]
end
open Classical in
noncomputable def Kk (n:Nat) (P:Nat->Nat->Prop):Rows:=Aj n fun a b=>decide (P a b)
theorem MU {n:Nat} {P:Nat->Nat->Prop}:(Kk n P).length=n:=Al
open Classical in
theorem AcB {n:Nat} {P P':Nat->Nat->Prop} (h:∀ a b,a < n->b < n->(P a b↔P' a b)):Kk n P=Kk n P':=by
 unfold Kk
 refine CC fun a b ha hb=>?_
 rw [Bool.eq_iff_iff,decide_eq_true_eq,decide_eq_true_eq]
 exact h a b ha hb
open Classical in
theorem AcC {n:Nat} (hn:n<=64) {P P':Nat->Nat->Prop} {a b:Nat} (ha:a < n) (hb:b < n) (h:∀ i j,i < n->j < n->(P' i j↔P i j\/(i=a/\j=b))):(Kk n P).set a ((Kk n P).getD a 0#64 ||| BK (b:Int))=Kk n P':=by
 unfold Kk
 rw [GL hn _ hb ha]
 refine CC fun i j hi hj=>?_
 rw [Bool.eq_iff_iff,Bool.or_eq_true,decide_eq_true_eq,decide_eq_true_eq,h i j hi hj]
 simp
end Go.AM
