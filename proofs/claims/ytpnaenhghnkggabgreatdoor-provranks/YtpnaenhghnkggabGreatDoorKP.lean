/-
  Own work, part of the proof of these laws: what functions compute.
-/
import Derived.Test.YtpnaenhghnkggabGreatDoorKO
set_option maxRecDepth 10000
set_option maxHeartbeats 64000000
set_option linter.unusedVariables false
set_option linter.unusedSimpArgs false
set_option linter.unusedSectionVars false
set_option linter.unnecessarySimpa false
open Int (toNat_natCast eq_ofNat_of_zero_le)
open List (getD_eq_getElem?_getD length_map length_append take_of_length_le take_length length_nil map_nil map_set)
open Nat (zero_le)
namespace Go.AM
open Go Go.Proofs
theorem Yd {n:Nat}:∀ {A:List Nat},A.Nodup->(∀ x∈A,x < n)->A.length<=n:=fun {A} h1 h2=>by
 have h:=List.Nodup.length_le_of_subset h1 (l₂:=List.range n) (fun x hx=>List.mem_range.2 (h2 x hx))
 rwa [List.length_range] at h
theorem RE {l:List Int} {j:Nat} (hj:j < l.length):l.take (j+1)=l.take j++[l.getD j 0]:=by
 rw [List.take_succ_eq_append_getElem hj,getD_eq_getElem?_getD,List.getElem?_eq_getElem hj];rfl
theorem Qc {a b:BitVec 64}:a &&& b=0#64↔∀ j,a.getLsbD j=true->b.getLsbD j=false:=by
 constructor
 .intro h j hj
  have:=congrArg (fun w=>w.getLsbD j) h
  simp only [BitVec.getLsbD_and,hj,Bool.true_and] at this
  simpa using this
 .intro h
  apply Bm
  intro j hj
  rw [BitVec.getLsbD_and]
  cases c:a.getLsbD j with
  | false=>simp
  | true=>rw [h j c];simp
theorem Zw (s:BitVec 64) (i j:Nat):(s &&& ~~~ BK (i:Int)).getLsbD j=(s.getLsbD j && !decide (j=i)):=by
 by_cases hj:j < 64
 .rw [BitVec.getLsbD_and,BitVec.getLsbD_not,Cb,decide_eq_true hj,Bool.true_and]
  congr 2
  exact decide_eq_decide.2 (by omega)
 .rw [BitVec.getLsbD_of_ge _ _ (by omega),BitVec.getLsbD_of_ge _ _ (by omega),Bool.false_and]
section
variable {V:Am} (C:Ap V) {Q:VV->Prop}
include C
theorem Zn (s:BitVec 64) (i:Int):VP V X5 [vW s,.i .i64 i] Q↔Q (vW (s &&& ~~~ BK i)):=by
 refine Ad ?_
 rw [Ab C.c_z111.1 C.c_z111.2]
 simp only [A1V,go_sem,↓reduceIte,Gw C]
theorem A0C (r:Rows) (hl:r.length<=64):VP V X4 [lW r] Q↔Q (vW (CG 0 r.length)):=by
 refine Ad ?_
 rw [Ab C.c_z110.1 C.c_z110.2]
 simp only [A1U,go_sem,↓reduceIte,J5 C,length_map]
theorem Sa {n:Nat} (hn:n<=64) (p:Nat->Nat->Bool) (H:∀ i,¬ EO p n i i):VP V A6u [lW (Aj n p)] fun v=>∃ A,v = .tu [lI (nI A),.b true]/\OrI n p A 0#64:=by
 rw [Ab C.c_z72.1 C.c_z72.2]
 have qA:=fun (Q:VV->Prop)=>Jx C hn p (Q:=Q)
 rw [(TM hn p).2 fun i _=>H i] at qA
 have qB:=fun (Q:VV->Prop)=>Rq C hn p (Q:=Q)
 have h4:=Al (n:=n) (p:=p)
 have qG:=fun (Q:VV->Prop)=>A0C C (Aj n p) (by rw [h4];exact hn) (Q:=Q)
 rw [h4] at qG
 have hr:∀ j,(CG 0 n).getLsbD j=decide (j < n):=fun j=>by
  rw [CG,AE]
  by_cases c:j < n
  .simp [c];omega
  .simp [c]
 obtain ⟨B,hB⟩:∃ B,B=Aj n fun a b=>p b a:=⟨_,rfl⟩
 have hp:B.length=n:=by rw [hB,Al]
 have h7:∀ i,i < n->∀ j,(B.getD i 0#64).getLsbD j=(decide (j < n) && p j i):=fun i hi j=>by
  rw [hB,Ge hi,AE]
  by_cases c:j < n
  .simp [c];omega
  .simp [c]
 rw [<- hB] at qB
 simp only [Aai,go_sem,↓reduceIte,qA,qB,qG]
 unfold VL
 rw [A0]
 refine AA (M:=List Nat×BitVec 64) (I:=fun x F h=>OrI n p x.1 x.2/\A3.tmp F 4=lW B/\A3.tmp F 5 = .sl 0 x.1.length 0 x.1.length/\A3.tmp F 6=vW x.2/\h=[some (AX AO 1 ((nI x.1).map eI))]) (μ:=fun x=>n - x.1.length) ?_ ([],CG 0 n) _ _ ⟨?_,?_,?_,?_,?_⟩
 .rintro ⟨A,h0⟩ F h ⟨I,p4,p5,p6,rfl⟩
  simp only at I p4 p5 p6 ⊢
  have hAl:=Yd I.nd I.al
  cases c0:decide (h0=0#64) with
  | true =>
   have h6:=of_decide_eq_true c0
   subst h6
   have ho:List.take A.length (nI A)=nI A:=take_of_length_le (Nat.le_of_eq (LQ A))
   simp only [A3p,go_sem,↓reduceIte,p4,p5,p6,LQ,ho,length_map]
   exact ⟨A,rfl,I⟩
  | false =>
   have h6:=of_decide_eq_false c0
   have hl:=Cv h0
   have h5:∀ k,k < (AC h0).length->∃ i:Nat,(AC h0).getD k 0=(i:Int)/\i < n/\h0.getLsbD i=true:=fun k hk=>by
    have hm:=B7.1 (Ac (d:=0) hk)
    obtain ⟨h1,h2⟩:=Cu hm
    obtain ⟨i,hi⟩:=eq_ofNat_of_zero_le h1
    rw [hi,AD] at hm
    exact ⟨i,hi,I.lt i hm,hm⟩
   have hc:∃ k,k < (AC h0).length/\∃ i:Nat,(AC h0).getD k 0=(i:Int)/\(B.getD i 0#64) &&& h0=0#64:=by
    have:∃ j,h0.getLsbD j=true:=by
     refine Classical.byContradiction fun h=>h6 (Bm fun j _=>?_)
     cases c:h0.getLsbD j with
     | true=>exact absurd ⟨j,c⟩ h
     | false=>simp
    obtain ⟨j,hj⟩:=this
    obtain ⟨i,h1,h2⟩:=A6J hn H I.lt (Lf n p j+1) j (by omega) hj
    have hm:((i:Nat):Int)∈AC h0:=B7.2 (by rw [AD];exact h1)
    obtain ⟨k,hk,ek⟩:=List.getElem_of_mem hm
    refine ⟨k,hk,i,by rw [getD_eq_getElem?_getD,List.getElem?_eq_getElem hk];exact ek,Qc.2 fun a ha=>?_⟩
    rw [h7 i (I.lt i h1),Bool.and_eq_true,decide_eq_true_eq] at ha
    exact h2 a ha.1 ha.2
   obtain ⟨L,hL⟩:∃ L,L=AC h0:=⟨_,rfl⟩
   have qL:=fun (Q:VV->Prop)=>Cz C h0 (Q:=Q)
   rw [<- hL] at hl h5 hc qL
   have b1:(A.length+1) * 8<=A8:=by unfold A8;omega
   simp only [A3p,go_sem,↓reduceIte,p4,p5,p6,h6,qL,length_map,A0]
   refine Ag (by decide) L.length (by omega) (I:=fun k F h=>A3.tmp F 4=lW B/\A3.tmp F 5 = .sl 0 A.length 0 A.length/\A3.tmp F 6=vW h0/\A3.tmp F 19=lI L/\(∀ j,j < k->∀ i:Nat,L.getD j 0=(i:Int)->(B.getD i 0#64) &&& h0≠0#64)/\h=[some (AX AO 1 ((nI A).map eI))]) ?_ ?_ 0 _ _ (by omega) ?_ ?_ ?_
   .rintro k F h hk hg hf ⟨q4,q5,q6,hb,h9,rfl⟩
    obtain ⟨i,ei,h8,he⟩:=h5 k hk
    have gL:=Ak hk
    rw [ei] at gL
    have gB:=B4 (a:=B) (i:=i) (by omega)
    have hd:i < B.length:=by omega
    have qD:=fun (Q:VV->Prop)=>Zn C h0 (i:Int) (Q:=Q)
    obtain ⟨W,hW⟩:∃ W,W=B.getD i 0#64:=⟨_,rfl⟩
    rw [<- hW] at gB
    cases c1:decide (W &&& h0=0#64) with
    | true =>
     have h3:=of_decide_eq_true c1
     simp only [go_sem,↓reduceIte,hg,hf,q4,q5,q6,hb,gL,hk,gB,hd,h3,b1,qD,D2,A6g,LQ,length_append,length_map,A0]
     have hq:A.length < n:=by
      have h:=Yd (n:=n) (A:=A++[i]) (A6I I he (l2:=h0 &&& ~~~ BK (i:Int)) (fun a ha hpa=>(Qc (a:=W) (b:=h0)).1 h3 a (by rw [hW,h7 i h8,hpa,decide_eq_true ha];rfl)) (Zw h0 i)).nd (by
       intro x hx
       rcases List.mem_append.1 hx with h | h
       .exact I.al x h
       .rw [List.mem_singleton] at h;subst h;exact h8)
      rw [length_append] at h
      exact h
     refine ⟨(A++[i],h0 &&& ~~~ BK (i:Int)),by simp;omega,A6I I he (fun a ha hpa=>(Qc (a:=W) (b:=h0)).1 h3 a (by rw [hW,h7 i h8,hpa,decide_eq_true ha];rfl)) (Zw h0 i),by simp,rfl,?_⟩
     unfold AX
     rw [if_neg (by simp [nI]),length_map,LQ,length_append];rfl
    | false =>
     have h3:=of_decide_eq_false c1
     simp only [go_sem,↓reduceIte,hg,hf,q4,q5,q6,hb,gL,hk,gB,hd,h3,length_map,A0]
     intro j hj i' hh
     by_cases c:j=k
     .subst c
      have:i' = i:=by omega
      subst this
      rw [<- hW];exact h3
     .exact h9 j (by omega) i' hh
   .rintro F h ⟨q4,q5,q6,hb,h9,rfl⟩
    obtain ⟨k,hk,i,ei,hz⟩:=hc
    exact absurd hz (h9 k hk i ei)
   .simp only [go_sem,↓reduceIte]
   .simp only [go_sem,↓reduceIte]
   .simp only [go_sem,↓reduceIte,p4,p5,p6]
    exact fun j hj=>by omega
 .exact Arj hn hr
 .simp only [go_sem,↓reduceIte]
 .simp only [go_sem,↓reduceIte]
 .simp only [go_sem,↓reduceIte]
 .simp only [go_sem,↓reduceIte]
  rfl
theorem Yn {n:Nat} (hn:n<=64) (p:Nat->Nat->Bool) (H:∀ i,¬ EO p n i i):VP V A6q [lW (Aj n p)] fun v=>v = .tu [lI ((List.range n).map fun b=>(Lf n p b:Int)),.b true]:=by
 rw [Ab C.c_z36.1 C.c_z36.2]
 obtain ⟨_,⟨A,rfl,I⟩,qO⟩:=CQ (Sa C hn p H)
 have h5:=Al (n:=n) (p:=p)
 have hAl:=Yd I.nd I.al
 have ht:∀ x,x < n->x∈A:=fun x hx=>(I.out x hx).2 (by simp)
 have hb:∀ i,i < n->∀ j,((Aj n p).getD i 0#64).getLsbD j=(decide (j < n) && p i j):=fun i hi j=>by
  rw [Ge hi,AE]
  by_cases c:j < n
  .simp [c];omega
  .simp [c]
 obtain ⟨R,hR⟩:∃ R,R=Aj n p:=⟨_,rfl⟩
 rw [<- hR] at qO h5 hb ⊢
 have b0:n * 8<=A8:=by unfold A8;omega
 have hv:DpI n p [] (List.replicate n 0):=⟨List.length_replicate,fun b hb=>by rw [getD_eq_getElem?_getD,List.getElem?_replicate,if_pos hb];simp,fun b hb=>by rw [getD_eq_getElem?_getD,List.getElem?_replicate,if_pos hb];simp,fun a ha=>by cases ha⟩
 simp only [Aa4,go_sem,↓reduceIte,qO,h5,b0,length_map,LQ,Int.le_refl]
 refine Ag (by decide) A.length (by omega) (I:=fun k F h=>A3.tmp F 0=lW R/\A3.tmp F 21=lI (nI A)/\A3.tmp F 6 = .sl 0 0 0 n/\∃ d:List Int,DpI n p (A.take k) d/\h=[some ⟨AO,1,0,false,d.map eI⟩]) ?_ ?_ 0 _ _ (by omega) ?_ ?_ ?_
 .rintro k F h hk hr hq ⟨p0,h7,p6,d,Id,rfl⟩
  have gA:(nI A)[k]? = some ((A[k]:Nat):Int):=by simp [nI,hk]
  have h0:A[k] < n:=I.al _ (List.getElem_mem hk)
  have hg:=I.ahead k hk
  have q1:k < (nI A).length:=by rw [LQ];exact hk
  have ho:=List.take_succ_eq_append_getElem hk
  obtain ⟨i,hi⟩:∃ i,i=A[k]:=⟨_,rfl⟩
  rw [<- hi] at gA h0 hg ho
  have h4:=Ag8 hn H Id h0 (fun a ha hpa=>hg a ha hpa)
  have gR:=B4 (a:=R) (i:=i) (by omega)
  have hy:i < R.length:=by omega
  have h8:=hb i h0
  obtain ⟨W,hW⟩:∃ W,W=R.getD i 0#64:=⟨_,rfl⟩
  rw [<- hW] at gR h8
  have qL:=fun (Q:VV->Prop)=>Cz C W (Q:=Q)
  have q2:=Cv W
  have h6:∀ j,j < (AC W).length->∃ b:Nat,(AC W).getD j 0=(b:Int)/\b < n/\p i b=true:=fun j hj=>by
   have hm:=B7.1 (Ac (d:=0) hj)
   obtain ⟨h1,h2⟩:=Cu hm
   obtain ⟨b,eb⟩:=eq_ofNat_of_zero_le h1
   rw [eb,AD,h8,Bool.and_eq_true,decide_eq_true_eq] at hm
   exact ⟨b,eb,hm⟩
  have h3:∀ b,b < n->p i b=true->(b:Int)∈AC W:=fun b hb' hp=>B7.2 (by rw [AD,h8,hp,decide_eq_true hb'];rfl)
  obtain ⟨L,hL⟩:∃ L,L=AC W:=⟨_,rfl⟩
  rw [<- hL] at qL q2 h6 h3
  have qa:=A4Z H h0
  simp only [go_sem,↓reduceIte,hr,hq,p0,h7,p6,gA,hk,q1,LQ,gR,hy,qL,length_map,A0]
  refine Ag (by decide) L.length (by omega) (I:=fun j F h=>A3.tmp F 23 = .i .i64 k/\A3.tmp F 22 = .i .i64 A.length/\A3.tmp F 0=lW R/\A3.tmp F 21=lI (nI A)/\A3.tmp F 6 = .sl 0 0 0 n/\A3.tmp F 8 = .i .i64 i/\A3.tmp F 31=lI L/\∃ (K:List Nat) (d:List Int),nI K=L.take j/\DqI n p (A.take k) i K d/\d.getD i 0=(Lf n p i:Int)/\h=[some ⟨AO,1,0,false,d.map eI⟩]) ?_ ?_ 0 _ _ (by omega) ?_ ?_ ?_
  .rintro j F h hj q9 q7 ⟨he,hd,q0,hc,q6,q8,hf,K,d,hK,D,h4,rfl⟩
   obtain ⟨b,eb,hh,hl⟩:=h6 j hj
   have gL:=Ak hj
   rw [eb] at gL
   have hw:=D.base.len
   have gi:=Ak (xs:=d) (k:=i) (by omega)
   have gb:=Ak (xs:=d) (k:=b) (by omega)
   have hz:i < d.length:=by omega
   have hu:b < d.length:=by omega
   have w1:IntKind.i64.wrap (d.getD i 0+1)=d.getD i 0+1:=Av (by omega) (by omega)
   rw [h4] at gi w1
   have q5:∀ z,(d.map eI).set b [.i .i64 z]=(d.set b z).map eI:=fun z=>Arv d b z
   have q4:i≠b:=fun h=>by subst h;exact H i (.one h0 hl)
   have q3:Nm true (d.getD b 0) ((Lf n p i:Int)+1)=max (d.getD b 0) ((Lf n p i:Int)+1):=by
    unfold Nm;simp only [cond_true];omega
   simp only [go_sem,↓reduceIte,q9,q7,he,hd,q0,hc,q6,q8,hf,gL,hj,gi,gb,hz,hu,hw,h0,hh,w1,q5,q3,length_map,A0]
   refine ⟨K++[b],by rw [RE hj,<- hK,eb,A6g],_,AdV hn H D h0 hh hl,?_,rfl⟩
   rw [getD_eq_getElem?_getD,List.getElem?_set_ne (fun h=>q4 h.symm),<- getD_eq_getElem?_getD,h4]
  .rintro F h ⟨he,hd,q0,hc,q6,q8,hf,K,d,hK,D,h4,rfl⟩
   rw [take_length] at hK
   simp only [go_sem,↓reduceIte,he,hd,q0,hc,q6,q8,hf]
   refine ⟨d,?_,rfl⟩
   rw [ho]
   refine AdU D (fun b hb' hp=>?_)
   have hm:=h3 b hb' hp
   rw [<- hK,nI,List.mem_map] at hm
   obtain ⟨x,hx,ex⟩:=hm
   have:x=b:=by omega
   subst this
   exact hx
  .simp only [go_sem,↓reduceIte]
  .simp only [go_sem,↓reduceIte]
  .simp only [go_sem,↓reduceIte,hr,hq,p0,h7,p6]
   exact ⟨[],rfl,d,Aqz Id,h4,rfl⟩
 .rintro F h ⟨p0,h7,p6,d,Id,rfl⟩
  rw [take_length] at Id
  have e:=AdT hn H Id ht
  have h9:List.take n d=d:=take_of_length_le (Nat.le_of_eq Id.len)
  simp only [go_sem,↓reduceIte,p0,h7,p6,Id.len,h9,length_map]
  rw [e]
 .simp only [go_sem,↓reduceIte]
 .simp only [go_sem,↓reduceIte]
 .simp only [go_sem,↓reduceIte]
  exact ⟨_,hv,rfl⟩
end
abbrev eCh (t:A2) (s:A6):List VV:=[.i .i64 t.vals,lS t.locs,.ls (t.regs.map Hv),.ls (t.nodes.map eN),lI s.has,lI s.jf,.ls (s.mo.map De)]
abbrev AlX (t:A2) (s:A6):VV:=.ls [[.f A0f [.ag (eCh t s)] []],[.f A0g [.ag (eCh t s)] []]]
theorem LA {t:A2} {s:A6} (h:H7 t s=0) (ht:A9 t):Bg t s/\Acy t s:=by
 unfold H7 at h
 cases c1:Bd t s with
 | false=>rw [c1,if_pos rfl] at h;cases h
 | true =>
  cases c2:KY (Aj t.nodes.length (Kw t s)) with
  | false=>rw [c1,c2,if_neg (by decide),if_pos rfl] at h;cases h
  | true =>
   refine ⟨AY.1 c1,fun i hp=>?_⟩
   exact (TM ht.n64 _).1 c2 i hp.lt hp
structure FoI (t:A2) (s:A6) (r0:Int) (L:List Int) (i:Nat) (x:Int) (μ:Nat):Prop where
 eve:i % 2=0->NV t s r0=L++NV t s x/\((x < 0/\μ=0)\/∃ r:Nat,x=r/\(r:Int)∈s.has/\(t.at r).kind=2/\μ=2 * Hb t s r+2)
 odd:i % 2=1->∃ w:Nat,x=w/\(w:Int)∈s.has/\NV t s r0=L++[x]++NV t s (M8 t (t.at w).up)/\μ=2 * Hb t s w+3/\((M8 t (t.at w).up < 0)\/∃ q:Nat,M8 t (t.at w).up=q/\(q:Int)∈s.has/\(t.at q).kind=2/\Hb t s q < Hb t s w)
section
variable {V:Am} (C:Ap V) {Q:VV->Prop}
include C
theorem Yk {t:A2} (ht:A9 t) (s:A6) {w:Nat} (hw:w < t.nodes.length):VP V A0g [.ag (eCh t s),.i .i64 w] Q↔Q (.i .i64 (M8 t (t.at w).up)):=by
 refine Ad ?_
 rw [Ab C.c_z31.1 C.c_z31.2]
 have h4:=ht.up w hw
 have gW:=A5 hw
 have h3:=ht.n64
 obtain ⟨Z,hZ⟩:∃ Z,Z=M8 t (t.at w).up:=⟨_,rfl⟩
 rw [<- hZ]
 simp only [Aa0,go_sem,↓reduceIte,gW,hw]
 unfold VL
 rw [A0]
 refine AA (M:=Int) (I:=fun r F h=>A3.tmp F 1 = .i .i64 r/\A3.tmp F 2 = .fp (eCh t s) 0/\r < t.nodes.length/\M8 t r=Z/\h=[]) (μ:=fun r=>(r+1).toNat) ?_ (t.at w).up _ _ ⟨?_,?_,?_,?_,?_⟩
 .rintro r F h ⟨p1,p2,hr,hz,rfl⟩
  have h0:=MM ht hr
  cases c0:decide (0<=r) with
  | false =>
   have h1:=of_decide_eq_false c0
   rw [if_pos (.inl (by omega))] at h0
   have e:r=Z:=by rw [<- h0];exact hz
   simp only [UB,go_sem,↓reduceIte,p1,p2,h1]
   rw [e]
  | true =>
   have h1:=of_decide_eq_true c0
   obtain ⟨m,rfl⟩:=eq_ofNat_of_zero_le h1
   have hm:m < t.nodes.length:=by omega
   have gM:=A5 hm
   have hu:=ht.up m hm
   rw [toNat_natCast] at h0
   cases c1:decide ((t.at m).kind=2) with
   | true =>
    have h2:=of_decide_eq_true c1
    rw [if_pos (.inr h2)] at h0
    have e:(m:Int)=Z:=by rw [<- h0];exact hz
    simp only [UB,go_sem,↓reduceIte,p1,p2,h1,gM,hm,h2]
    rw [e]
   | false =>
    have h2:=of_decide_eq_false c1
    rw [if_neg (by omega)] at h0
    simp only [UB,go_sem,↓reduceIte,p1,p2,h1,gM,hm,h2,A0]
    exact ⟨(t.at m).up,by omega,rfl,by omega,by rw [<- h0];exact hz⟩
 .simp only [go_sem,↓reduceIte]
 .simp only [go_sem,↓reduceIte]
 .omega
 .exact hZ.symm
 .rfl
theorem A82 (t:A2) (s:A6) (hs:El s) (r:Int):VP V A0f [.ag (eCh t s),.i .i64 r] Q↔Q (.i .i64 (Li s r)):=by
 refine Ad ?_
 rw [Ab C.c_z30.1 C.c_z30.2]
 have q:=fun (Q:VV->Prop)=>Jm C s hs r (Q:=Q)
 simp only [A9Z,go_sem,↓reduceIte,q]
theorem S9 {t:A2} (ht:A9 t) {s:A6} (hs:El s) (hf:Bg t s) (hA:Acy t s) {r:Nat} (hr:(r:Int)∈s.has) (hk:(t.at r).kind=2):VP V A6m [.i .i64 r,AlX t s] Q↔Q (lI (NV t s r)):=by
 refine Ad ?_
 rw [Ab C.c_z29.1 C.c_z29.2]
 have hi:=ht.n64
 have ha:=(TR ht hf hA _ r (Nat.lt_succ_self _) hr hk).2.2.1
 have hd:Hb t s r < t.nodes.length:=A4Z hA (RU ht hf hA hr)
 have h8:(NV t s r).length<=200:=by omega
 obtain ⟨Z,hZ⟩:∃ Z,Z=NV t s r:=⟨_,rfl⟩
 rw [<- hZ] at h8 ⊢
 have qA:=fun (w:Nat) (hw:w < t.nodes.length) (Q:VV->Prop)=>Yk C ht s hw (Q:=Q)
 have qB:=fun (x:Int) (Q:VV->Prop)=>A82 C t s hs x (Q:=Q)
 simp only [A9Y,go_sem,↓reduceIte]
 unfold VL
 rw [A0]
 refine AA (M:=Nat×List Int×Nat×Int) (I:=fun z F h=>FoI t s r z.2.1 z.2.2.1 z.2.2.2 z.1/\z.2.2.1=z.2.1.length/\A3.tmp F 0 = .i .i64 z.2.2.2/\A3.tmp F 1=AlX t s/\A3.tmp F 5 = .sl 0 z.2.1.length 0 z.2.1.length/\A3.tmp F 6 = .i .i64 z.2.2.1/\h=[some (AX AO 1 (z.2.1.map eI))]) (μ:=fun z=>z.1) ?_ (2 * Hb t s r+2,[],0,(r:Int)) _ _ ⟨⟨fun _=>⟨rfl,.inr ⟨r,rfl,hr,hk,rfl⟩⟩,fun h=>by simp at h⟩,rfl,?_,?_,?_,?_,?_⟩
 .rintro ⟨μ,L,i,x⟩ F h ⟨I,h9,p0,p1,p5,p6,rfl⟩
  simp only at I h9 p0 p1 p5 p6 ⊢
  rcases Nat.mod_two_eq_zero_or_one i with ev | od
  .obtain ⟨e1,e2⟩:=I.eve ev
   rcases e2 with ⟨hx,hμ⟩ | ⟨q,rfl,hq,hqk,hμ⟩
   .have hn:=TQ ht hf hA hx
    rw [hn,List.append_nil] at e1
    rw [<- hZ] at e1
    subst e1
    have c0:¬ (0:Int)<=x:=by omega
    have hc:List.take Z.length Z=Z:=take_length
    simp only [UA,go_sem,↓reduceIte,p0,p1,p5,p6,c0,length_map,hc]
   .obtain ⟨w,g1,g2,g3,g4,g5,g6⟩:=Ml ht hf hA hq hqk
    have h0:=Qf ht hf hA hq hqk
    rw [g1,toNat_natCast] at h0
    have h7:L.length<=200:=by
     have:=congrArg List.length e1
     rw [length_append,<- hZ] at this;omega
    have b1:(L.length+1) * 8<=A8:=by unfold A8;omega
    have c0:(0:Int)<=(q:Int):=by omega
    have w1:IntKind.i64.wrap ((i:Int)+1)=((i+1:Nat):Int):=by rw [Av (by omega) (by omega)];omega
    have r2:B5 .rem none (.i .i64 (i:Int)) (.i .i64 2)=some (.i .i64 0):=by
     have:=Dk (e:=none) (a:=i) (l:=2) (by omega)
     rw [ev] at this;exact this
    have h6:=qB q
    rw [g1] at h6
    simp only [UA,go_sem,↓reduceIte,p0,p1,p5,p6,c0,b1,w1,r2,D2,h6,A0]
    refine ⟨(2 * Hb t s w+3,L++[(q:Int)],i+1,(w:Int)),by simp only;omega,⟨fun h=>by simp only at h;omega,fun _=>⟨w,rfl,g2,?_,rfl,?_⟩⟩,by simp only [length_append,List.length_singleton];omega,rfl,by simp,rfl,rfl⟩
    .simp only
     rw [e1,h0];simp
    .rcases g6 with ⟨h,_⟩ | ⟨q',h1,h2,h3,_,h5⟩
     .exact .inl h
     .exact .inr ⟨q',h1,h2,h3,h5⟩
  .obtain ⟨w,rfl,hw,e1,hμ,e2⟩:=I.odd od
   have he:=RU ht hf hA hw
   have h7:L.length<=200:=by
    have:=congrArg List.length e1
    rw [length_append,length_append,<- hZ] at this;omega
   have b1:(L.length+1) * 8<=A8:=by unfold A8;omega
   have c0:(0:Int)<=(w:Int):=by omega
   have w1:IntKind.i64.wrap ((i:Int)+1)=((i+1:Nat):Int):=by rw [Av (by omega) (by omega)];omega
   have r2:B5 .rem none (.i .i64 (i:Int)) (.i .i64 2)=some (.i .i64 1):=by
    have:=Dk (e:=none) (a:=i) (l:=2) (by omega)
    rw [od] at this;exact this
   have hh:=qA w he
   simp only [UA,go_sem,↓reduceIte,p0,p1,p5,p6,c0,b1,w1,r2,D2,hh,A0]
   have hb:∃ μ',μ' < μ/\FoI t s r (L++[(w:Int)]) (i+1) (M8 t (t.at w).up) μ':=by
    rcases e2 with h | ⟨q,h1,h2,h3,h4⟩
    .exact ⟨0,by omega,⟨fun _=>⟨by rw [e1],.inl ⟨h,rfl⟩⟩,fun h=>by omega⟩⟩
    .exact ⟨2 * Hb t s q+2,by omega,⟨fun _=>⟨by rw [e1],.inr ⟨q,h1,h2,h3,rfl⟩⟩,fun h=>by omega⟩⟩
   obtain ⟨μ',hg,I'⟩:=hb
   exact ⟨(μ',L++[(w:Int)],i+1,M8 t (t.at w).up),hg,I',by simp only [length_append,List.length_singleton];omega,rfl,by simp,rfl,rfl⟩
 .simp only [go_sem,↓reduceIte]
 .simp only [go_sem,↓reduceIte]
 .simp only [go_sem,↓reduceIte]
 .simp only [go_sem,↓reduceIte]
 .rfl
end
abbrev obR (R:Rows):Option VO:=some ⟨AL,1,0,false,R.map eW⟩
open Classical in
theorem AmD {t:A2} (ht:A9 t) {s:A6} (hn:Cq t s.has):(Aj t.nodes.length fun a b=>B1 (CP s.has) a && B1 (CP s.has) b && Ah t a b)=Kk t.nodes.length (YR t s 0):=by
 unfold Kk
 refine CC fun a b _ _=>?_
 rw [hn.has ht.n64,hn.has ht.n64,Bool.eq_iff_iff,decide_eq_true_eq,Bool.and_eq_true,Bool.and_eq_true,Af,Af,YR]
 constructor
 .rintro ⟨⟨h1,h2⟩,h3⟩;exact .inl ⟨h1,h2,h3⟩
 .rintro (⟨h1,h2,h3⟩ | ⟨j,hj,_⟩)
  .exact ⟨⟨h1,h2⟩,h3⟩
  .omega
open Classical in
theorem AmE {t:A2} {s:A6} (hf:Bg t s):Kk t.nodes.length (YR t s s.has.length)=Aj t.nodes.length (Kw t s):=by
 unfold Kk
 refine CC fun a b _ _=>?_
 rw [Bool.eq_iff_iff,decide_eq_true_eq,Afx hf]
theorem Ama {t:A2} {s:A6} (hf:Bg t s) {k:Nat} (hk:k < s.has.length) (h:¬ 0<=s.jf.getD k 0) (a b:Nat):YR t s (k+1) a b↔YR t s k a b:=by
 rw [A0B]
 constructor
 .rintro (g | ⟨_,g⟩)
  .exact g
  .omega
 .exact .inl
section
variable {V:Am} (C:Ap V) {Q:VV->Prop} (t:A2) (ht:A9 t) (s:A6) (hs:El s)
include C ht hs
theorem Gc (r:Int):VP V A0b [vT t,Eu s,.i .i64 r] Q↔Q (lI (chA t s r)):=by
 refine Ad ?_
 rw [Ab C.c_z10.1 C.c_z10.2]
 have qM:=fun (Q:VV->Prop)=>Pj C t ht s hs (Q:=Q)
 rw [Add ht] at qM
 have qJ:=fun (Q:VV->Prop)=>Jm C s hs r (Q:=Q)
 unfold chA
 cases c1:decide (H7 t s=0) with
 | false =>
  rw [if_neg (fun h=>of_decide_eq_false c1 h.1)]
  simp only [ZE,go_sem,↓reduceIte,qM,c1]
 | true =>
 have h3:=of_decide_eq_true c1
 obtain ⟨hf,hA⟩:=LA h3 ht
 cases c2:decide (Li s r < 0) with
 | true =>
  have h0:=of_decide_eq_true c2
  rw [if_neg (fun h=>by omega)]
  simp only [ZE,go_sem,↓reduceIte,qM,c1,qJ,h0]
 | false =>
  have h0:=of_decide_eq_false c2
  rw [if_pos ⟨h3,by omega⟩]
  obtain ⟨h1,h2⟩:=(ZX ht hf r).1 (by omega)
  obtain ⟨m,rfl,hm⟩:=A7 (hf.node _ h1)
  rw [toNat_natCast] at h2
  have qF:=fun (Q:VV->Prop)=>S9 C ht hs hf hA h1 h2 (Q:=Q)
  simp only [ZE,go_sem,↓reduceIte,qM,c1,qJ,h0,qF,List.cons_append,List.nil_append,show min 4 7=4 from rfl,show min 3 4=3 from rfl,Nat.reduceAdd,Nat.reduceSub]
theorem Mk (r:Int):(chA t s r).length<=200:=by
 unfold chA
 split
 .rename_i h
  obtain ⟨hf,hA⟩:=LA h.1 ht
  obtain ⟨h1,h2⟩:=(ZX ht hf r).1 h.2
  obtain ⟨m,rfl,hm⟩:=A7 (hf.node _ h1)
  rw [toNat_natCast] at h2
  have h0:=(TR ht hf hA _ m (Nat.lt_succ_self _) h1 h2).2.2.1
  have hd:Hb t s m < t.nodes.length:=A4Z hA hm
  have h3:=ht.n64
  omega
 .exact zero_le _
theorem Lo (r:Int):VP V A0c [vT t,Eu s,.i .i64 r] Q↔Q (.i .i64 (A8d t s r)):=by
 refine Ad ?_
 rw [Ab C.c_z11.1 C.c_z11.2]
 have qC:=fun (Q:VV->Prop)=>Gc C t ht s hs r (Q:=Q)
 have hl:=Mk C t ht s hs r
 unfold A8d
 obtain ⟨L,hL⟩:∃ L,L=chA t s r:=⟨_,rfl⟩
 rw [<- hL] at qC hl ⊢
 cases c:decide (L.length=0) with
 | true =>
  have c':=of_decide_eq_true c
  rw [List.eq_nil_of_length_eq_zero c'] at qC ⊢
  simp only [A54,go_sem,↓reduceIte,qC,map_nil,length_nil,List.getLast?_nil]
 | false =>
  have c':=of_decide_eq_false c
  have ci:¬ ((L.length:Int)=0):=by omega
  have w1:IntKind.i64.wrap ((L.length:Int) - 1)=((L.length - 1:Nat):Int):=by rw [Av (by omega) (by omega)];omega
  have hk:L.length - 1 < L.length:=by omega
  have gL:=Ak hk
  have e:L.getLast? = some (L.getD (L.length - 1) 0):=by rw [List.getLast?_eq_getElem?,gL]
  rw [e]
  simp only [A54,go_sem,↓reduceIte,qC,c',ci,w1,gL,hk,length_map]
theorem Gd:VP V A6h [vT t,Eu s] Q↔Q (lI (if H7 t s=0 then rkL t s else [])):=by
 refine Ad ?_
 rw [Ab C.c_z12.1 C.c_z12.2]
 have qM:=fun (Q:VV->Prop)=>Pj C t ht s hs (Q:=Q)
 rw [Add ht] at qM
 cases c1:decide (H7 t s=0) with
 | false =>
  rw [if_neg (of_decide_eq_false c1)]
  simp only [A55,go_sem,↓reduceIte,qM,c1]
  try rfl
 | true =>
 have ha:=of_decide_eq_true c1
 rw [if_pos ha]
 obtain ⟨hf,hA⟩:=LA ha ht
 have h2:=ht.n64
 have g1:=hs.has
 have hv:=hf.jl
 have qP:=fun (Q:VV->Prop)=>KV C t ht (Q:=Q)
 have qS:=fun (Q:VV->Prop)=>Kr C s hs (Q:=Q)
 have qK:=fun (b:Nat) (Q:VV->VH->Prop)=>Kl C (Aj t.nodes.length fun a b=>Ah t a b) (Cm h2 _) (CP s.has) b (Q:=Q)
 rw [Jc h2,Al] at qK
 have hn:Cq t s.has:=hf.node
 rw [AmD ht hn] at qK
 obtain ⟨_,rfl,qD⟩:=CQ (Yn C h2 (Kw t s) hA)
 simp only [A55,go_sem,↓reduceIte,qM,c1,qP,qS,qK,length_map]
 refine Ag (by decide) s.has.length (by omega) (I:=fun k F h=>A3.tmp F 3 = .fp (EX s) 0/\A3.tmp F 5 = .sl 0 0 0 0/\A3.tmp F 6 = .sl 1 0 0 t.nodes.length/\A3.tmp F 25=lI s.has/\h=[some Dh,obR (Kk t.nodes.length (YR t s k))]) ?_ ?_ 0 _ _ (by omega) ?_ ?_ ?_
 .rintro k F h hk hd hc ⟨p3,p5,p6,h3,rfl⟩
  have gH:=Ak hk
  obtain ⟨n,en,h5⟩:=A7 (hn _ (Ac (d:=0) hk))
  have h4:k < s.jf.length:=by omega
  have gJ:=Ak h4
  rw [en] at gH
  cases c2:decide (0<=s.jf.getD k 0) with
  | false =>
   have h0:=of_decide_eq_false c2
   have hx:=AcB (n:=t.nodes.length) (fun a b _ _=>Ama hf hk h0 a b)
   simp only [go_sem,↓reduceIte,hd,hc,p3,p5,p6,h3,gH,hk,gJ,h4,h0,hx,length_map,A0]
  | true =>
   have h0:=of_decide_eq_true c2
   obtain ⟨w,hw,h7⟩:∃ w:Nat,s.jf.getD k 0=w/\w < t.nodes.length:=by
    have hi:(n:Int)∈s.has:=by rw [<- en];exact Ac hk
    have hj:=Aej hf hk
    rw [en] at hj
    have hb:=((ZX ht hf (n:Int)).1 (by rw [hj];exact h0)).2
    rw [toNat_natCast] at hb
    obtain ⟨w,e,h1,_⟩:=Qy ht hf hi hb
    obtain ⟨w',e',hl⟩:=A7 (hf.node _ h1)
    have:w' = w:=by omega
    subst this
    exact ⟨w',by rw [<- hj];exact e,hl⟩
   rw [hw] at gJ h0
   have h6:=AcC (n:=t.nodes.length) (P:=YR t s k) (P':=YR t s (k+1)) h2 h7 h5 (fun a b _ _=>by
    rw [A0B,en,hw]
    exact or_congr Iff.rfl ⟨fun h=>⟨by omega,by omega⟩,fun h=>⟨by omega,by omega⟩⟩)
   have gR:(Kk t.nodes.length (YR t s k))[w]? = some ((Kk t.nodes.length (YR t s k)).getD w 0#64):=by
    rw [getD_eq_getElem?_getD,List.getElem?_eq_getElem (by rw [MU];exact h7)];rfl
   have hm:∀ (S:Rows) z,(S.map eW).set w [vW z]=(S.set w z).map eW:=fun S z=>by rw [map_set]
   simp only [go_sem,↓reduceIte,hd,hc,p3,p5,p6,h3,gH,hk,gJ,h4,h0,gR,h7,MU,length_map,BN C,hm,h6,A0]
 .rintro F h ⟨p3,p5,p6,h3,rfl⟩
  have ho:List.take t.nodes.length (Kk t.nodes.length (YR t s s.has.length))=Kk t.nodes.length (YR t s s.has.length):=take_of_length_le (by rw [MU];exact Nat.le_refl _)
  rw [<- AmE hf] at qD
  simp only [go_sem,↓reduceIte,p3,p5,p6,h3,MU,ho,length_map,qD]
  obtain ⟨D,hD⟩:∃ D,D=(List.range t.nodes.length).map fun b=>(Lf t.nodes.length (Kw t s) b:Int):=⟨_,rfl⟩
  rw [<- hD]
  have hr:D.length=t.nodes.length:=by rw [hD,length_map,List.length_range]
  have he:∀ n,n < t.nodes.length->D.getD n 0=(Hb t s n:Int):=fun n hn=>by
   rw [hD,getD_eq_getElem?_getD,List.getElem?_map,List.getElem?_range hn];rfl
  refine Ag (by decide) s.has.length (by omega) (I:=fun k F h=>A3.tmp F 10=lI D/\A3.tmp F 55=lI s.has/\∃ L,L=(s.has.take k).map (fun n=>(Hb t s n.toNat:Int))/\A3.tmp F 5 = .sl 0 L.length 0 L.length/\h=[some (AX AO 1 (L.map eI)),none]) ?_ ?_ 0 _ _ (by omega) ?_ ?_ ?_
  .rintro k F h hk hq hp ⟨h8,h9,L,hL,p5,rfl⟩
   have gH:=Ak hk
   obtain ⟨n,en,h5⟩:=A7 (hn _ (Ac (d:=0) hk))
   have hu:L.length=k:=by rw [hL,length_map,List.length_take];omega
   have b1:(L.length+1) * 8<=A8:=by unfold A8;omega
   have hg:(s.has.take (k+1)).map (fun n=>(Hb t s n.toNat:Int))=L++[(Hb t s n:Int)]:=by rw [RE hk,List.map_append,<- hL,en];rfl
   have gD:=Ak (xs:=D) (k:=n) (by omega)
   rw [he n h5] at gD
   rw [en] at gH
   have hh:n < D.length:=by omega
   simp only [go_sem,↓reduceIte,hq,hp,h8,h9,p5,gH,hk,gD,hh,b1,D2,length_append,length_map,A0]
   exact ⟨L++[(Hb t s n:Int)],hg.symm,by simp,rfl⟩
  .rintro F h ⟨h8,h9,L,hL,p5,rfl⟩
   rw [take_length] at hL
   subst hL
   simp only [go_sem,↓reduceIte,h8,h9,p5,length_map]
   rfl
  .simp only [go_sem,↓reduceIte]
  .simp only [go_sem,↓reduceIte]
  .simp only [go_sem,↓reduceIte]
   exact ⟨[],rfl,p5,rfl⟩
 .simp only [go_sem,↓reduceIte]
 .simp only [go_sem,↓reduceIte]
 .simp only [go_sem,↓reduceIte]
end
theorem A8s {l:List Int} {n:Int} (h:B9 l n=false):Kv l n = -1:=by
 rw [Kv,Gx]
 cases hq:l.findIdx? fun y=>decide (n=y) with
 | none=>rfl
 | some k =>
  obtain ⟨a,b,_⟩:=List.findIdx?_eq_some_iff_getElem.1 hq
  rw [Bool.eq_false_iff] at h
  exact absurd (Af.2 (by rw [of_decide_eq_true b];exact List.getElem_mem a)) h
def TwO (L:List Int) (v:Nat) (o:VO):Prop:=(L=[]/\v=0/\o=Dh)\/(0 < L.length/\o = ⟨AO,1,v,false,L.map eI⟩)
section
variable {V:Am} (C:Ap V) {Q:VV->Prop} (t:A2) (ht:A9 t) (s:A6) (hs:El s)
include C ht hs
theorem Lt (r:Int):VP V Ajg [vT t,Eu s,.i .i64 r] Q↔Q (lI (chA t s r)):=by
 refine Ad ?_
 rw [Ab C.c_z8.1 C.c_z8.2]
 have qY:=fun (Q:VV->Prop)=>Ki C t ht s hs (Q:=Q)
 have g1:=hs.has
 have qW:=fun (Q:VV->Prop)=>Ai C s.has (by omega) r (Q:=Q)
 have he:=Mk C t ht s hs r
 have hk:=ht.n64
 unfold chA at he ⊢
 cases c1:decide (H7 t s=0) with
 | false =>
  have h8:=of_decide_eq_false c1
  rw [if_neg (fun h=>h8 h.1)]
  simp only [Aap,go_sem,↓reduceIte,qY,h8]
 | true =>
 have h8:=of_decide_eq_true c1
 obtain ⟨hf,hA⟩:=LA h8 ht
 have hc:=ZX ht hf r
 cases c2:B9 s.has r with
 | false =>
  have wi:Kv s.has r < 0:=by rw [A8s c2];omega
  rw [if_neg (fun h=>by rw [hc] at h;rw [Af.2 h.2.1] at c2;cases c2)]
  simp only [Aap,go_sem,↓reduceIte,qY,h8,qW,wi]
 | true =>
 obtain ⟨j,ej,_⟩:=DD c2
 have wi:¬ Kv s.has r < 0:=by omega
 obtain ⟨m,rfl,hm⟩:=A7 (hf.node _ (Af.1 c2))
 have gM:=A5 hm
 rw [toNat_natCast] at hc
 cases c3:decide ((t.at m).kind=2) with
 | false =>
  have h9:=of_decide_eq_false c3
  rw [if_neg (fun h=>h9 (hc.1 h.2).2)]
  simp only [Aap,go_sem,↓reduceIte,qY,h8,qW,wi,gM,hm,h9]
 | true =>
 have h9:=of_decide_eq_true c3
 have hr:=Af.1 c2
 have hj:=hc.2 ⟨hr,h9⟩
 rw [if_pos ⟨h8,hj⟩] at he ⊢
 have qJ:=fun (x:Int) (Q:VV->Prop)=>Jk C s hs x (Q:=Q)
 obtain ⟨Z,hZ⟩:∃ Z,Z=NV t s m:=⟨_,rfl⟩
 rw [<- hZ] at he ⊢
 simp only [Aap,go_sem,↓reduceIte,qY,h8,qW,wi,gM,hm,h9]
 unfold VL
 rw [A0]
 refine AA (M:=Nat×List Int×Int) (I:=fun z F h=>Z=z.2.1++NV t s z.2.2/\((z.2.2 < 0/\z.1=0)\/∃ q:Nat,z.2.2=q/\(q:Int)∈s.has/\(t.at q).kind=2/\z.1=Hb t s q+1)/\A3.tmp F 2 = .i .i64 z.2.2/\A3.tmp F 3 = .fp (eT t) 0/\A3.tmp F 4 = .fp (EX s) 0/\∃ v o,TwO z.2.1 v o/\A3.tmp F 7 = .sl 0 v 0 z.2.1.length/\h=[some o]) (μ:=fun z=>z.1) ?_ (Hb t s m+1,[],(m:Int)) _ _ ⟨hZ,.inr ⟨m,rfl,hr,h9,rfl⟩,?_,?_,?_,0,Dh,.inl ⟨rfl,rfl,rfl⟩,?_,?_⟩
 .rintro ⟨μ,L,x⟩ F h ⟨e1,e2,p2,p3,p4,v,o,hT,p7,rfl⟩
  simp only at e1 e2 p2 p3 p4 p7 ⊢
  rcases e2 with ⟨hx,hμ⟩ | ⟨q,rfl,hq,hqk,hμ⟩
  .rw [TQ ht hf hA hx,List.append_nil] at e1
   subst e1
   have c0:¬ (0:Int)<=x:=by omega
   have hh:List.take Z.length Z=Z:=take_length
   rcases hT with ⟨h1,h2,h3⟩ | ⟨h1,h3⟩
   .subst h1 h2 h3
    simp only [ZZ,go_sem,↓reduceIte,p2,p3,p4,p7,c0,length_map,hh,length_nil,map_nil]
   .subst h3
    simp only [ZZ,go_sem,↓reduceIte,p2,p3,p4,p7,c0,length_map,hh]
  .obtain ⟨w,g1,g2,g3,g4,g5,g6⟩:=Ml ht hf hA hq hqk
   have hb:=Qf ht hf hA hq hqk
   rw [g1,toNat_natCast] at hb
   have hd:=RU ht hf hA g2
   have hn:=ht.up w hd
   have gW:=A5 hd
   have hl:L.length<=200:=by
    have:=congrArg List.length e1
    rw [length_append] at this;omega
   have b1:(L.length+2) * 8<=A8:=by unfold A8;omega
   have c0:(0:Int)<=(q:Int):=by omega
   have hi:16<=A8:=by unfold A8;omega
   have hg:=qJ q
   rw [g1] at hg
   rcases hT with ⟨h1,h2,h3⟩ | ⟨h1,h3⟩
   .subst h1 h2 h3
    simp only [ZZ,go_sem,↓reduceIte,p2,p3,p4,p7,c0,b1,hg,gW,hd,hi,A0,length_nil,map_nil]
    unfold VL
    rw [A0]
    refine AA (M:=Int) (I:=fun x F h=>A3.tmp F 2 = .i .i64 x/\A3.tmp F 3 = .fp (eT t) 0/\A3.tmp F 4 = .fp (EX s) 0/\A3.tmp F 7 = .sl 0 (1) 0 (2)/\x < t.nodes.length/\M8 t x=M8 t (t.at w).up/\h=[some ⟨AO,1,1,false,[[.i .i64 q],[.i .i64 w]]⟩]) (μ:=fun x=>(x+1).toNat) ?_ (t.at w).up _ _ ⟨?_,?_,?_,?_,by omega,rfl,rfl⟩
    .rintro x F h ⟨r2,r3,r4,r7,hx,hz,rfl⟩
     have h0:=MM ht hx
     have fin:∀ x,M8 t x=x->x=M8 t (t.at w).up->∃ μ',μ' < μ/\((x < 0/\μ' = 0)\/∃ q:Nat,x=q/\(q:Int)∈s.has/\(t.at q).kind=2/\μ' = Hb t s q+1):=fun x _ e=>by
      rcases g6 with ⟨h,_⟩ | ⟨q',k1,k2,k3,_,k5⟩
      .exact ⟨0,by omega,.inl ⟨by omega,rfl⟩⟩
      .exact ⟨Hb t s q' + 1,by omega,.inr ⟨q',by omega,k2,k3,rfl⟩⟩
     cases d0:decide (0<=x) with
     | false =>
      have h4:=of_decide_eq_false d0
      rw [if_pos (.inl (by omega))] at h0
      have h5:x=M8 t (t.at w).up:=by rw [<- h0];exact hz
      obtain ⟨μ',k1,k2⟩:=fin x h0 h5
      simp only [Qz,go_sem,↓reduceIte,r2,r3,r4,r7,h4]
      exact ⟨(μ',[(q:Int),(w:Int)],x),k1,by simp only;rw [e1,hb,h5];rfl,k2,rfl,1,_,.inr ⟨by simp,rfl⟩,rfl,rfl,rfl⟩
     | true =>
      have h4:=of_decide_eq_true d0
      obtain ⟨m',rfl⟩:=eq_ofNat_of_zero_le h4
      have h7:m' < t.nodes.length:=by omega
      have ha:=A5 h7
      have hu:=ht.up m' h7
      rw [toNat_natCast] at h0
      cases d1:decide ((t.at m').kind=2) with
      | true =>
       have h6:=of_decide_eq_true d1
       rw [if_pos (.inr h6)] at h0
       have h5:(m':Int)=M8 t (t.at w).up:=by rw [<- h0];exact hz
       obtain ⟨μ',k1,k2⟩:=fin m' h0 h5
       simp only [Qz,go_sem,↓reduceIte,r2,r3,r4,r7,h4,ha,h7,h6]
       exact ⟨(μ',[(q:Int),(w:Int)],(m':Int)),k1,by simp only;rw [e1,hb,h5];rfl,k2,rfl,1,_,.inr ⟨by simp,rfl⟩,rfl,rfl,rfl⟩
      | false =>
       have h6:=of_decide_eq_false d1
       rw [if_neg (by omega)] at h0
       simp only [Qz,go_sem,↓reduceIte,r2,r3,r4,r7,h4,ha,h7,h6,A0]
       exact ⟨(t.at m').up,by omega,rfl,by omega,by rw [<- h0];exact hz⟩
    .simp only [go_sem,↓reduceIte]
    .simp only [go_sem,↓reduceIte,p3]
    .simp only [go_sem,↓reduceIte,p4]
    .simp only [go_sem,↓reduceIte]
   .subst h3
    simp only [ZZ,go_sem,↓reduceIte,p2,p3,p4,p7,c0,b1,hg,gW,hd,A0,length_map]
    unfold VL
    rw [A0]
    refine AA (M:=Int) (I:=fun x F h=>A3.tmp F 2 = .i .i64 x/\A3.tmp F 3 = .fp (eT t) 0/\A3.tmp F 4 = .fp (EX s) 0/\A3.tmp F 7 = .sl 0 (v+1) 0 (L.length+2)/\x < t.nodes.length/\M8 t x=M8 t (t.at w).up/\h=[some ⟨AO,1,v+1,false,L.map eI++[[.i .i64 q],[.i .i64 w]]⟩]) (μ:=fun x=>(x+1).toNat) ?_ (t.at w).up _ _ ⟨?_,?_,?_,?_,by omega,rfl,rfl⟩
    .rintro x F h ⟨r2,r3,r4,r7,hx,hz,rfl⟩
     have h0:=MM ht hx
     have fin:∀ x,M8 t x=x->x=M8 t (t.at w).up->∃ μ',μ' < μ/\((x < 0/\μ' = 0)\/∃ q:Nat,x=q/\(q:Int)∈s.has/\(t.at q).kind=2/\μ' = Hb t s q+1):=fun x _ e=>by
      rcases g6 with ⟨h,_⟩ | ⟨q',k1,k2,k3,_,k5⟩
      .exact ⟨0,by omega,.inl ⟨by omega,rfl⟩⟩
      .exact ⟨Hb t s q' + 1,by omega,.inr ⟨q',by omega,k2,k3,rfl⟩⟩
     cases d0:decide (0<=x) with
     | false =>
      have h4:=of_decide_eq_false d0
      rw [if_pos (.inl (by omega))] at h0
      have h5:x=M8 t (t.at w).up:=by rw [<- h0];exact hz
      obtain ⟨μ',k1,k2⟩:=fin x h0 h5
      simp only [Qz,go_sem,↓reduceIte,r2,r3,r4,r7,h4]
      refine ⟨.inr (by simp [CF,bel]),(μ',L++[(q:Int),(w:Int)],x),k1,by simp only;rw [e1,hb,h5];simp,k2,rfl,v+1,_,.inr ⟨by simp,rfl⟩,rfl,by simp,by simp⟩
     | true =>
      have h4:=of_decide_eq_true d0
      obtain ⟨m',rfl⟩:=eq_ofNat_of_zero_le h4
      have h7:m' < t.nodes.length:=by omega
      have ha:=A5 h7
      have hu:=ht.up m' h7
      rw [toNat_natCast] at h0
      cases d1:decide ((t.at m').kind=2) with
      | true =>
       have h6:=of_decide_eq_true d1
       rw [if_pos (.inr h6)] at h0
       have h5:(m':Int)=M8 t (t.at w).up:=by rw [<- h0];exact hz
       obtain ⟨μ',k1,k2⟩:=fin m' h0 h5
       simp only [Qz,go_sem,↓reduceIte,r2,r3,r4,r7,h4,ha,h7,h6]
       refine ⟨.inr (by simp [CF,bel]),(μ',L++[(q:Int),(w:Int)],(m':Int)),k1,by simp only;rw [e1,hb,h5];simp,k2,rfl,v+1,_,.inr ⟨by simp,rfl⟩,rfl,by simp,by simp⟩
      | false =>
       have h6:=of_decide_eq_false d1
       rw [if_neg (by omega)] at h0
       simp only [Qz,go_sem,↓reduceIte,r2,r3,r4,r7,h4,ha,h7,h6,A0]
       exact ⟨(t.at m').up,by omega,rfl,by omega,by rw [<- h0];exact hz⟩
    .simp only [go_sem,↓reduceIte]
    .simp only [go_sem,↓reduceIte,p3]
    .simp only [go_sem,↓reduceIte,p4]
    .simp only [go_sem,↓reduceIte]
 .simp only [go_sem,↓reduceIte]
 .simp only [go_sem,↓reduceIte]
 .simp only [go_sem,↓reduceIte]
 .simp only [go_sem,↓reduceIte]
 .rfl
theorem Lu:VP V AbA [vT t,Eu s] Q↔Q (lI (if H7 t s=0 then rkL t s else [])):=by
 refine Ad ?_
 rw [Ab C.c_z13.1 C.c_z13.2]
 have qY:=fun (Q:VV->Prop)=>Ki C t ht s hs (Q:=Q)
 have g1:=hs.has
 cases c1:decide (H7 t s=0) with
 | false =>
  have h1:=of_decide_eq_false c1
  rw [if_neg h1]
  simp only [A9C,go_sem,↓reduceIte,qY,h1]
  try rfl
 | true =>
 have h1:=of_decide_eq_true c1
 rw [if_pos h1]
 obtain ⟨hf,hA⟩:=LA h1 ht
 have hg:=hf.jl
 have b0:s.has.length * 8<=A8:=by unfold A8;omega
 have qB:=fun (a b:Int) (Q:VV->Prop)=>C2 C t ht.up a b (Q:=Q)
 have hc:RkI t s 0 0 0 (List.replicate s.has.length 0):=Arp ht hf hA List.length_replicate (fun j hj=>by rw [getD_eq_getElem?_getD,List.getElem?_replicate,if_pos hj];rfl)
 simp only [A9C,go_sem,↓reduceIte,qY,h1,b0,length_map,Int.le_refl]
 refine Aa (by decide) s.has.length (by omega) (I:=fun r F h=>A3.tmp F 2 = .fp (eT t) 0/\A3.tmp F 3 = .fp (EX s) 0/\A3.tmp F 5 = .sl 0 0 0 s.has.length/\∃ d:List Int,RkI t s r 0 0 d/\h=[some ⟨AO,1,0,false,d.map eI⟩]) ?_ ?_ ?_ 0 _ _ (zero_le _) ?_ ?_
 .rintro r F h hr p6 ⟨p2,p3,p5,d,I,rfl⟩
  simp only [go_sem,↓reduceIte,p6,p2,p3,p5,length_map]
  exact ⟨d,I,rfl⟩
 .rintro r F h hr p6 ⟨p2,p3,p5,d,I,rfl⟩
  simp only [go_sem,↓reduceIte,p6,p2,p3,p5,A0]
  refine Aa (by decide) s.has.length (by omega) (I:=fun i F h=>A3.tmp F 6 = .i .i64 r/\A3.tmp F 2 = .fp (eT t) 0/\A3.tmp F 3 = .fp (EX s) 0/\A3.tmp F 5 = .sl 0 0 0 s.has.length/\∃ d:List Int,RkI t s r i 0 d/\h=[some ⟨AO,1,0,false,d.map eI⟩]) ?_ ?_ ?_ 0 _ _ (zero_le _) ?_ ?_
  .rintro i F h hi q7 ⟨q6,q2,q3,q5,d,I,rfl⟩
   simp only [go_sem,↓reduceIte,q7,q6,q2,q3,q5,length_map]
   exact ⟨d,I,rfl⟩
  .rintro i F h hi q7 ⟨q6,q2,q3,q5,d,I,rfl⟩
   have gI:=Ak hi
   simp only [go_sem,↓reduceIte,q7,q6,q2,q3,q5,A0]
   refine Aa (by decide) s.has.length (by omega) (I:=fun k F h=>A3.tmp F 7 = .i .i64 i/\A3.tmp F 6 = .i .i64 r/\A3.tmp F 2 = .fp (eT t) 0/\A3.tmp F 3 = .fp (EX s) 0/\A3.tmp F 5 = .sl 0 0 0 s.has.length/\∃ d:List Int,RkI t s r i k d/\h=[some ⟨AO,1,0,false,d.map eI⟩]) ?_ ?_ ?_ 0 _ _ (zero_le _) ?_ ?_
   .rintro k F h hk r8 ⟨r7,r6,r2,r3,r5,d,I,rfl⟩
    simp only [go_sem,↓reduceIte,r8,r7,r6,r2,r3,r5,length_map]
    exact ⟨d,I,rfl⟩
   .rintro k F h hk r8 ⟨r7,r6,r2,r3,r5,d,I,rfl⟩
    have gK:=Ak hk
    have h2:k < s.jf.length:=by omega
    have gJ:=Ak h2
    have h6:=I.len
    have h4:=Ak (xs:=d) (k:=i) (by omega)
    have h5:=Ak (xs:=d) (k:=k) (by omega)
    have h7:i < d.length:=by omega
    have h8:k < d.length:=by omega
    have l1:=I.le i hi
    have l0:=I.nn i hi
    have l2:=AfF ht hf hA hi
    have w1:IntKind.i64.wrap (d.getD i 0+1)=d.getD i 0+1:=Av (by omega) (by omega)
    have he:rkE t s i k=(Ah t (s.has.getD i 0) (s.has.getD k 0) || decide (s.jf.getD k 0=s.has.getD i 0)):=rfl
    have ha:∀ z,(d.map eI).set k [.i .i64 z]=(d.set k z).map eI:=fun z=>by rw [map_set]
    have h9:=AfC ht hf hA hi hk I
    have hb:=Ajq ht hf hA hi hk I
    cases c2:Ah t (s.has.getD i 0) (s.has.getD k 0) with
    | false =>
     rw [c2,Bool.false_or] at he
     cases c3:decide (s.jf.getD k 0=s.has.getD i 0) with
     | false =>
      rw [c3] at he
      have h3:=of_decide_eq_false c3
      simp only [go_sem,↓reduceIte,r8,r7,r6,r2,r3,r5,gI,hi,gK,hk,gJ,h2,qB,c2,h3,length_map,A0]
      exact ⟨d,h9 (fun h=>by rw [he] at h;cases h),rfl⟩
     | true =>
      rw [c3] at he
      have h3:=of_decide_eq_true c3
      cases c4:decide (d.getD k 0 < d.getD i 0+1) with
      | false =>
       have h0:=of_decide_eq_false c4
       simp only [go_sem,↓reduceIte,r8,r7,r6,r2,r3,r5,gI,hi,gK,hk,gJ,h2,qB,c2,h3,h4,h5,h7,h8,h6,w1,h0,length_map,A0]
       exact ⟨d,h9 (fun h=>by omega),rfl⟩
      | true =>
       have h0:=of_decide_eq_true c4
       simp only [go_sem,↓reduceIte,r8,r7,r6,r2,r3,r5,gI,hi,gK,hk,gJ,h2,qB,c2,h3,h4,h5,h7,h8,h6,w1,h0,ha,length_map,A0]
       exact ⟨_,hb he h0,rfl⟩
    | true =>
     rw [c2,Bool.true_or] at he
     cases c4:decide (d.getD k 0 < d.getD i 0+1) with
     | false =>
      have h0:=of_decide_eq_false c4
      simp only [go_sem,↓reduceIte,r8,r7,r6,r2,r3,r5,gI,hi,gK,hk,gJ,h2,qB,c2,h4,h5,h7,h8,h6,w1,h0,length_map,A0]
      exact ⟨d,h9 (fun h=>by omega),rfl⟩
     | true =>
      have h0:=of_decide_eq_true c4
      simp only [go_sem,↓reduceIte,r8,r7,r6,r2,r3,r5,gI,hi,gK,hk,gJ,h2,qB,c2,h4,h5,h7,h8,h6,w1,h0,ha,length_map,A0]
      exact ⟨_,hb he h0,rfl⟩
   .rintro F h ⟨r7,r6,r2,r3,r5,d,I,rfl⟩
    simp only [go_sem,↓reduceIte,r7,r6,r2,r3,r5]
    exact ⟨d,Ajp ht hf hA I,rfl⟩
   .simp only [go_sem,↓reduceIte]
   .simp only [go_sem,↓reduceIte,q7,q6,q2,q3,q5]
    exact ⟨d,I,rfl⟩
  .rintro F h ⟨q6,q2,q3,q5,d,I,rfl⟩
   simp only [go_sem,↓reduceIte,q6,q2,q3,q5]
   exact ⟨d,AfB ht hf hA I,rfl⟩
  .simp only [go_sem,↓reduceIte]
  .simp only [go_sem,↓reduceIte,p6,p2,p3,p5]
   exact ⟨d,I,rfl⟩
 .rintro F h ⟨p2,p3,p5,d,I,rfl⟩
  have e:=AfA ht hf hA I
  have hd:List.take s.has.length d=d:=take_of_length_le (Nat.le_of_eq I.len)
  simp only [go_sem,↓reduceIte,p2,p3,p5,hd,I.len,length_map]
  rw [Ajw,e]
 .simp only [go_sem,↓reduceIte]
 .simp only [go_sem,↓reduceIte]
  exact ⟨_,hc,rfl⟩
end
theorem A6S (t:A2) (s:A6):(if H7 t s=0 then rkL t s else []).length<=s.has.length:=by
 split
 .rw [rkL,length_map];exact Nat.le_refl _
 .exact zero_le _
section
variable {V:Am} (C:Ap V)
include C
theorem law_ProvAll (hb:∀ Q:VV->Prop,VP V S8 [] Q↔Q (.b true)) (l m:List U8) (right:Bool) (r:Int) (odd:A6) (hl:∀ x∈l,x.n < 256) (hm:∀ x∈m,x.n < 256) :
  VP V Ajb [lU l,lU m,.b right,.i .i64 r,Eu odd] fun x=>x = .b true:=by
 rw [Ab C.c_z0.1 C.c_z0.2]
 by_cases c1:(30:Int) < l.length
 .simp only [A7B,go_sem,↓reduceIte,hb,c1]
 by_cases c2:(60:Int) < m.length
 .simp only [A7B,go_sem,↓reduceIte,hb,c1,c2]
 obtain ⟨_,⟨b,rfl,he⟩,qL⟩:=CQ (WU C odd)
 cases b with
 | false=>simp only [A7B,go_sem,↓reduceIte,hb,c1,c2,qL]
 | true =>
 have h2:=he rfl
 obtain ⟨_,⟨t,ok,rfl,ht⟩,qT⟩:=CQ (Je C l ⟨by omega,hl⟩)
 cases ok with
 | false=>simp only [A7B,go_sem,↓reduceIte,hb,c1,c2,qL,qT]
 | true =>
 have ht:=(ht rfl).1
 have hf:=ht.n64
 obtain ⟨s,hg,qG⟩:∃ s,Gr t s (m.length / 2)/\∀ Q:VV->Prop,VP V AbZ [vT t,lU m,.b right] Q↔Q (Eu s):=by
  cases right with
  | true=>exact ⟨_,Mu ht m _,fun Q=>Hy C t ht m (by omega) hm⟩
  | false=>exact ⟨_,Uu ht m _,fun Q=>WT C t ht m (by omega) hm⟩
 have hs:=hg.sz ht (by omega)
 have g1:=hs.has
 have g2:=h2.has
 have q1:=fun (n:Int) (Q:VV->Prop)=>Lt C t ht s hs n (Q:=Q)
 have q2:=fun (n:Int) (Q:VV->Prop)=>Gc C t ht s hs n (Q:=Q)
 have q3:=fun (n:Int) (Q:VV->Prop)=>Lo C t ht s hs n (Q:=Q)
 have q4:=fun (Q:VV->Prop)=>Gd C t ht s hs (Q:=Q)
 have q5:=fun (Q:VV->Prop)=>Lu C t ht s hs (Q:=Q)
 have q6:=fun (Q:VV->Prop)=>Gd C t ht odd h2 (Q:=Q)
 have q7:=fun (Q:VV->Prop)=>Lu C t ht odd h2 (Q:=Q)
 have q8:=fun (Q:VV->Prop)=>Gc C t ht odd h2 r (Q:=Q)
 have q9:=fun (Q:VV->Prop)=>Lt C t ht odd h2 r (Q:=Q)
 have l1:=A6S t s
 have l2:=A6S t odd
 have l3:=fun n=>Mk C t ht s hs n
 have l4:=Mk C t ht odd h2 r
 have src:=fun n=>show A8d t s n=(match (chA t s n).getLast? with | some x=>x | none=>-1) from rfl
 obtain ⟨R1,hc⟩:∃ R1,R1=(if H7 t s=0 then rkL t s else []):=⟨_,rfl⟩
 obtain ⟨R2,hd⟩:∃ R2,R2=(if H7 t odd=0 then rkL t odd else []):=⟨_,rfl⟩
 obtain ⟨L2,ha⟩:∃ L2,L2=chA t odd r:=⟨_,rfl⟩
 rw [<- hc] at q4 q5 l1
 rw [<- hd] at q6 q7 l2
 rw [<- ha] at q8 q9 l4
 have e1:=fun (Q:VV->Prop)=>Cw C R1 R1 (by omega) (Q:=Q)
 have e2:=fun (Q:VV->Prop)=>Cw C R2 R2 (by omega) (Q:=Q)
 have e3:=fun (Q:VV->Prop)=>Cw C L2 L2 (by omega) (Q:=Q)
 simp only [A7B,go_sem,↓reduceIte,hb,c1,c2,qL,qT,qG]
 refine Aa (by decide) (t.nodes.length+1) (by omega) (I:=fun k F h=>A3.tmp F 3 = .i .i64 r/\A3.tmp F 9 = .fp (EX odd) 0/\A3.tmp F 11 = .p 0 0 0 0/\A3.tmp F 13 = .p 1 0 0 0/\h=[some ⟨DE,0,0,false,[eT t]⟩,some ⟨Ae,0,0,false,[EX s]⟩]) ?_ ?_ ?_ 0 _ _ (zero_le _) ?_ ?_
 .rintro k F h hk h3 ⟨p3,p9,h0,h1,rfl⟩
  have h9:decide ((k:Int)<=(t.nodes.length:Int))=decide (k < t.nodes.length+1):=decide_eq_decide.2 (by omega)
  have h7:decide (k<=t.nodes.length)=decide (k < t.nodes.length+1):=decide_eq_decide.2 (by omega)
  simp only [go_sem,↓reduceIte,h3,p3,p9,h0,h1,length_map,h9,h7]
 .rintro k F h hk h3 ⟨p3,p9,h0,h1,rfl⟩
  obtain ⟨n,hn⟩:∃ n:Int,n=if k=t.nodes.length then r else (k:Int):=⟨_,rfl⟩
  have q1:=q1 n
  have q2:=q2 n
  have q3:=q3 n
  have l3:=l3 n
  have src:=src n
  obtain ⟨L,hL⟩:∃ L,L=chA t s n:=⟨_,rfl⟩
  rw [<- hL] at q1 q2 l3 src
  have e4:=fun (Q:VV->Prop)=>Cw C L L (by omega) (Q:=Q)
  have hh:∀ S:Int,(∀ Q:VV->Prop,VP V A0c [vT t,Eu s,.i .i64 n] Q↔Q (.i .i64 S))->A8d t s n=S->True:=fun _ _ _=>trivial
  by_cases ck:k=t.nodes.length
  .rw [if_pos ck] at hn
   have h4:(k:Int)=(t.nodes.length:Int):=by omega
   subst hn
   cases c3:decide (0 < L.length) with
   | false =>
    have z:L=[]:=List.eq_nil_of_length_eq_zero (by have:=of_decide_eq_false c3;omega)
    rw [z,List.getLast?_nil] at src
    rw [src] at q3
    subst z
    have e5:∀ Q:VV->Prop,VP V Ac7 [.ls [],.ls []] Q↔Q (.b true):=fun Q=>Cw C [] [] (by decide) (Q:=Q)
    simp only [go_sem,↓reduceIte,h3,p3,p9,h0,h1,ck,h4,q1,q2,q3,e4,e5,length_map,length_nil,map_nil,A0]
   | true =>
    have h8:=of_decide_eq_true c3
    have w1:IntKind.i64.wrap ((L.length:Int) - 1)=((L.length - 1:Nat):Int):=by rw [Av (by omega) (by omega)];omega
    have h5:L.length - 1 < L.length:=by omega
    have gL:=Ak h5
    have e:L.getLast? = some (L.getD (L.length - 1) 0):=by rw [List.getLast?_eq_getElem?,gL]
    rw [e] at src
    simp only at src
    rw [src] at q3
    have h6:(0:Int) < (L.length:Int):=by omega
    simp only [go_sem,↓reduceIte,h3,p3,p9,h0,h1,ck,h4,q1,q2,q3,e4,h6,w1,gL,h5,length_map,A0]
  .rw [if_neg ck] at hn
   have h4:¬ (k:Int)=(t.nodes.length:Int):=by omega
   subst hn
   cases c3:decide (0 < L.length) with
   | false =>
    have z:L=[]:=List.eq_nil_of_length_eq_zero (by have:=of_decide_eq_false c3;omega)
    rw [z,List.getLast?_nil] at src
    rw [src] at q3
    subst z
    have e5:∀ Q:VV->Prop,VP V Ac7 [.ls [],.ls []] Q↔Q (.b true):=fun Q=>Cw C [] [] (by decide) (Q:=Q)
    simp only [go_sem,↓reduceIte,h3,p3,p9,h0,h1,ck,h4,q1,q2,q3,e4,e5,length_map,length_nil,map_nil,A0]
   | true =>
    have h8:=of_decide_eq_true c3
    have w1:IntKind.i64.wrap ((L.length:Int) - 1)=((L.length - 1:Nat):Int):=by rw [Av (by omega) (by omega)];omega
    have h5:L.length - 1 < L.length:=by omega
    have gL:=Ak h5
    have e:L.getLast? = some (L.getD (L.length - 1) 0):=by rw [List.getLast?_eq_getElem?,gL]
    rw [e] at src
    simp only at src
    rw [src] at q3
    have h6:(0:Int) < (L.length:Int):=by omega
    simp only [go_sem,↓reduceIte,h3,p3,p9,h0,h1,ck,h4,q1,q2,q3,e4,h6,w1,gL,h5,length_map,A0]
 .rintro F h ⟨p3,p9,h0,h1,rfl⟩
  simp only [go_sem,↓reduceIte,p3,p9,h0,h1,q4,q5,q6,q7,q8,q9,e1,e2,e3]
 .simp only [go_sem,↓reduceIte]
 .simp only [go_sem,↓reduceIte]
theorem law_ProvRanks (hb:∀ Q:VV->Prop,VP V S8 [] Q↔Q (.b true)) (l m:List U8) (hl:∀ x∈l,x.n < 256) (hm:∀ x∈m,x.n < 256) :
  VP V Ajd [lU l,lU m] fun x=>x = .b true:=by
 rw [Ab C.c_z2.1 C.c_z2.2]
 by_cases c1:(30:Int) < l.length
 .simp only [A9T,go_sem,↓reduceIte,hb,c1]
 by_cases c2:(60:Int) < m.length
 .simp only [A9T,go_sem,↓reduceIte,hb,c1,c2]
 obtain ⟨_,⟨t,ok,rfl,ht⟩,qT⟩:=CQ (Je C l ⟨by omega,hl⟩)
 cases ok with
 | false=>simp only [A9T,go_sem,↓reduceIte,hb,c1,c2,qT]
 | true =>
 have ht:=(ht rfl).1
 have ho:=ht.n64
 have hg:=Mu ht m (m.length / 2)
 have h9:=Nj ht m (m.length / 2)
 have qG:=fun (Q:VV->Prop)=>Hy C t ht m (by omega) hm (Q:=Q)
 have hs:=hg.sz ht (by omega)
 obtain ⟨s,hj⟩:∃ s,s=Dy t m (m.length / 2):=⟨_,rfl⟩
 rw [<- hj] at hg h9 qG hs
 have g1:=hs.has
 obtain ⟨hf,hA⟩:=LA h9 ht
 have hp:=hf.jl
 have qR:=fun (Q:VV->Prop)=>Gd C t ht s hs (Q:=Q)
 rw [if_pos h9] at qR
 have qB:=fun (a b:Int) (Q:VV->Prop)=>C2 C t ht.up a b (Q:=Q)
 obtain ⟨R,hR⟩:∃ R,R=rkL t s:=⟨_,rfl⟩
 have hh:R.length=s.has.length:=by rw [hR,rkL,length_map]
 have hc:∀ i,i < s.has.length->R.getD i 0=(L5 t s i:Int):=fun i hi=>by rw [hR];exact YA hi
 rw [<- hR] at qR
 simp only [A9T,go_sem,↓reduceIte,hb,c1,c2,qT,qG,qR,hh,length_map]
 refine Aa (by decide) s.has.length (by omega) (I:=fun i F h=>A3.tmp F 5 = .p 0 0 0 0/\A3.tmp F 7 = .p 1 0 0 0/\A3.tmp F 8=lI R/\h=[some ⟨DE,0,0,false,[eT t]⟩,some ⟨Ae,0,0,false,[EX s]⟩]) ?_ ?_ ?_ 0 _ _ (zero_le _) ?_ ?_
 .rintro i F h hi p9 ⟨p5,p7,p8,rfl⟩
  simp only [go_sem,↓reduceIte,p9,p5,p7,p8,length_map]
 .rintro i F h hi p9 ⟨p5,p7,p8,rfl⟩
  have gI:=Ak hi
  have h4:i < s.jf.length:=by omega
  have gJ:=Ak h4
  have hd:i < R.length:=by omega
  have ha:=Ak hd
  rw [hc i hi] at ha
  have h7:=Afl ht hf hA hi
  have hr:=AfF ht hf hA hi
  simp only [go_sem,↓reduceIte,p9,p5,p7,p8,A0]
  refine Aa (by decide) s.has.length (by omega) (I:=fun k F h=>A3.tmp F 9 = .i .i64 i/\A3.tmp F 5 = .p 0 0 0 0/\A3.tmp F 7 = .p 1 0 0 0/\A3.tmp F 8=lI R/\A3.tmp F 10 = .i .i64 (Nn t s i k:Nat)/\h=[some ⟨DE,0,0,false,[eT t]⟩,some ⟨Ae,0,0,false,[EX s]⟩]) ?_ ?_ ?_ 0 _ _ (zero_le _) ?_ ?_
  .rintro k F h hk h2 ⟨q9,q5,q7,q8,h0,rfl⟩
   simp only [go_sem,↓reduceIte,h2,q9,q5,q7,q8,h0,length_map]
  .rintro k F h hk h2 ⟨q9,q5,q7,q8,h0,rfl⟩
   have gK:=Ak hk
   have h5:k < R.length:=by omega
   have h3:=Ak h5
   rw [hc k hk] at h3
   have hq:=AfF ht hf hA hk
   have w1:IntKind.i64.wrap ((L5 t s k:Int)+1)=((L5 t s k+1:Nat):Int):=by rw [Av (by omega) (by omega)];omega
   have he:rkE t s k i=(Ah t (s.has.getD k 0) (s.has.getD i 0) || decide (s.jf.getD i 0=s.has.getD k 0)):=rfl
   have h1:Nn t s i (k+1)=if rkE t s k i=true then max (Nn t s i k) (L5 t s k+1) else Nn t s i k:=by
    rw [Nn]
   have h8:Nm true (Nn t s i k:Int) ((L5 t s k+1:Nat):Int)=((max (Nn t s i k) (L5 t s k+1):Nat):Int):=by
    unfold Nm;simp only [cond_true];omega
   cases c3:Ah t (s.has.getD k 0) (s.has.getD i 0) with
   | true =>
    rw [c3,Bool.true_or] at he
    rw [he,if_pos rfl] at h1
    simp only [go_sem,↓reduceIte,h2,q9,q5,q7,q8,h0,gI,hi,gK,hk,gJ,h4,qB,c3,h3,h5,w1,h8,h1,A0]
   | false =>
    rw [c3,Bool.false_or] at he
    cases c4:decide (s.jf.getD i 0=s.has.getD k 0) with
    | true =>
     have h6:=of_decide_eq_true c4
     rw [he,c4,if_pos rfl] at h1
     simp only [go_sem,↓reduceIte,h2,q9,q5,q7,q8,h0,gI,hi,gK,hk,gJ,h4,qB,c3,h6,h3,h5,w1,h8,h1,A0]
    | false =>
     have h6:=of_decide_eq_false c4
     rw [he,c4,if_neg (by decide)] at h1
     simp only [go_sem,↓reduceIte,h2,q9,q5,q7,q8,h0,gI,hi,gK,hk,gJ,h4,qB,c3,h6,h3,h5,w1,h8,h1,A0]
  .rintro F h ⟨q9,q5,q7,q8,h0,rfl⟩
   rw [h7] at h0
   have wl:¬ ((s.has.length:Int)<=(L5 t s i:Int)):=by omega
   have hn:¬ (s.has.length<=L5 t s i):=by omega
   simp only [go_sem,↓reduceIte,q9,q5,q7,q8,h0,ha,hd,wl,hn,length_map]
  .simp only [go_sem,↓reduceIte]
  .simp only [go_sem,↓reduceIte,p9,p5,p7,p8]
   rfl
 .rintro F h ⟨p5,p7,p8,rfl⟩
  simp only [go_sem,↓reduceIte,p5,p7,p8]
 .simp only [go_sem,↓reduceIte]
 .simp only [go_sem,↓reduceIte]
end
def AbV (t:A2) (n:Nat) (x:Int):Prop:=x < 0\/∃ q:Nat,x=q/\q < t.nodes.length/\Az t q n=true/\∀ u:Nat,Az t u q=true->Az t u n=true
theorem Ag2 {t:A2} (ht:A9 t) {n:Nat} (hn:n < t.nodes.length):AbV t n (t.at n).up:=by
 have hu:=ht.up n hn
 by_cases c:(t.at n).up < 0
 .exact .inl c
 .obtain ⟨q,hq⟩:=eq_ofNat_of_zero_le (show 0<=(t.at n).up by omega)
  have hb:=fun x=>HI ht.up (x:=x) hn hq
  exact .inr ⟨q,hq,by omega,by rw [hb];simp,fun u h=>by rw [hb,h];simp⟩
theorem AdJ {t:A2} (ht:A9 t) {n q:Nat} (hq:q < t.nodes.length) (h1:Az t q n=true) (h2:∀ u:Nat,Az t u q=true->Az t u n=true):AbV t n (t.at q).up:=by
 rcases Ag2 ht hq with h | ⟨v,e,hv,h3,h4⟩
 .exact .inl h
 .exact .inr ⟨v,e,hv,h2 v h3,fun u hu=>h2 u (h4 u hu)⟩
theorem AcI {t:A2} {s:A6} {n:Nat} (hn:(n:Int)∈s.has):∃ j:Nat,Kv s.has n=(j:Int)/\j < s.has.length/\(rkL t s).getD j 0=(Hb t s n:Int):=by
 obtain ⟨j,e,h1,h2,_⟩:=DD (Af.2 hn)
 refine ⟨j,e,h1,?_⟩
 rw [YA h1,L5,YP,h2,toNat_natCast]
section
variable {V:Am} (C:Ap V)
include C
theorem law_ProvEnds (hb:∀ Q:VV->Prop,VP V S8 [] Q↔Q (.b true)) (l m:List U8) (hl:∀ x∈l,x.n < 256) (hm:∀ x∈m,x.n < 256) :
  VP V Ajc [lU l,lU m] fun x=>x = .b true:=by
 rw [Ab C.c_z1.1 C.c_z1.2]
 by_cases c1:(30:Int) < l.length
 .simp only [A9B,go_sem,↓reduceIte,hb,c1]
 by_cases c2:(60:Int) < m.length
 .simp only [A9B,go_sem,↓reduceIte,hb,c1,c2]
 obtain ⟨_,⟨t,ok,rfl,ht⟩,qT⟩:=CQ (Je C l ⟨by omega,hl⟩)
 cases ok with
 | false=>simp only [A9B,go_sem,↓reduceIte,hb,c1,c2,qT]
 | true =>
 have ht:=(ht rfl).1
 have qw:=ht.n64
 have hg:=Mu ht m (m.length / 2)
 have hp:=Nj ht m (m.length / 2)
 have qG:=fun (Q:VV->Prop)=>Hy C t ht m (by omega) hm (Q:=Q)
 have hs:=hg.sz ht (by omega)
 obtain ⟨s,qt⟩:∃ s,s=Dy t m (m.length / 2):=⟨_,rfl⟩
 rw [<- qt] at hg hp qG hs
 have g1:=hs.has
 obtain ⟨hf,hA⟩:=LA hp ht
 have qR:=fun (Q:VV->Prop)=>Gd C t ht s hs (Q:=Q)
 rw [if_pos hp] at qR
 have qB:=fun (a b:Int) (Q:VV->Prop)=>C2 C t ht.up a b (Q:=Q)
 have qW:=fun (n:Int) (Q:VV->Prop)=>Ai C s.has (by omega) n (Q:=Q)
 have qJ:=fun (n:Int) (Q:VV->Prop)=>Jk C s hs n (Q:=Q)
 have ho:=fun n hn=>AcI (t:=t) (s:=s) (n:=n) hn
 obtain ⟨R,hR⟩:∃ R,R=rkL t s:=⟨_,rfl⟩
 have qn:R.length=s.has.length:=by rw [hR,rkL,length_map]
 rw [<- hR] at qR
 simp only [<- hR] at ho
 simp only [A9B,go_sem,↓reduceIte,hb,c1,c2,qT,qG,qR,qn,length_map]
 refine Aa (by decide) s.has.length (by omega) (I:=fun i F h=>A3.tmp F 5 = .p 0 0 0 0/\A3.tmp F 7 = .p 1 0 0 0/\A3.tmp F 8=lI R/\h=[some ⟨DE,0,0,false,[eT t]⟩,some ⟨Ae,0,0,false,[EX s]⟩]) ?_ ?_ ?_ 0 _ _ (zero_le _) ?_ ?_
 .rintro i F h hi p9 ⟨p5,p7,p8,rfl⟩
  simp only [go_sem,↓reduceIte,p9,p5,p7,p8,length_map]
 .rintro i F h hi p9 ⟨p5,p7,p8,rfl⟩
  have gI:=Ak hi
  obtain ⟨r,er,q4⟩:=A7 (hf.node _ (Ac (d:=0) hi))
  have qh:(r:Int)∈s.has:=by rw [<- er];exact Ac hi
  rw [er] at gI
  have gN:=A5 q4
  cases k2:decide ((t.at r).kind=2) with
  | false =>
   have ha:=of_decide_eq_false k2
   simp only [go_sem,↓reduceIte,p9,p5,p7,p8,gI,hi,gN,q4,ha,A0]
  | true =>
  have ha:=of_decide_eq_true k2
  have qu:=eq_true ha
  obtain ⟨qd,qo,qp,qe,hz⟩:=TR ht hf hA _ r (Nat.lt_succ_self _) qh ha
  have qr:0<=Li s r:=(ZX ht hf (r:Int)).2 ⟨qh,by rw [toNat_natCast];exact ha⟩
  have qC:=fun (Q:VV->Prop)=>Gc C t ht s hs (r:Int) (Q:=Q)
  have qS:=fun (Q:VV->Prop)=>Lo C t ht s hs (r:Int) (Q:=Q)
  have qb:chA t s r=NV t s r:=by rw [chA,if_pos ⟨hp,qr⟩]
  have qs:A8d t s r=(match (NV t s r).getLast? with | some x=>x | none=>-1):=by rw [A8d,qb];rfl
  have qc:=Mk C t ht s hs (r:Int)
  rw [qb] at qC qc
  rw [qs] at qS
  obtain ⟨c,hc⟩:∃ c,c=NV t s r:=⟨_,rfl⟩
  rw [<- hc] at qC qc qS qd qo qp qe
  simp only [<- hc] at hz
  have qf:0 < c.length:=by omega
  have qa:=Ak qf
  rw [qe] at qa
  have z1:¬ ((c.length:Int) < 2):=by omega
  have z2:B5 .rem none (.i .i64 (c.length:Int)) (.i .i64 2)=some (.i .i64 0):=by
   have:=Dk (e:=none) (a:=c.length) (l:=2) (by omega)
   rw [qd] at this;exact this
  simp only [go_sem,↓reduceIte,p9,p5,p7,p8,gI,hi,gN,q4,qu,qC,z1,z2,qa,qf,length_map,A0]
  refine Aa (by decide) c.length (by omega) (I:=fun k F h=>A3.tmp F 9 = .i .i64 i/\A3.tmp F 5 = .p 0 0 0 0/\A3.tmp F 7 = .p 1 0 0 0/\A3.tmp F 8=lI R/\A3.tmp F 10=lI c/\h=[some ⟨DE,0,0,false,[eT t]⟩,some ⟨Ae,0,0,false,[EX s]⟩]) ?_ ?_ ?_ 0 _ _ (zero_le _) ?_ ?_
  .rintro k F h hk hd ⟨q9,q5,q7,q8,h6,rfl⟩
   simp only [go_sem,↓reduceIte,hd,q9,q5,q7,q8,h6,length_map]
  .rintro k F h hk hd ⟨q9,q5,q7,q8,h6,rfl⟩
   obtain ⟨n,A⟩:=hz k hk
   have hj:=Ak hk
   rw [A.at_] at hj
   have h4:=RU ht hf hA A.has
   have h7:=A5 h4
   obtain ⟨j,ej,qx,qq⟩:=ho n A.has
   have q2:j < R.length:=by omega
   have hw:=Ak q2
   rw [qq] at hw
   have hq:=fun (Q:VV->Prop)=>qW (n:Int) Q
   rw [ej] at hq
   have wn:¬ ((j:Int) < 0):=by omega
   rcases Nat.mod_two_eq_zero_or_one k with ev | od
   .obtain ⟨a1,a2⟩:=A.evn ev
    have r2:B5 .rem none (.i .i64 (k:Int)) (.i .i64 2)=some (.i .i64 0):=by
     have:=Dk (e:=none) (a:=k) (l:=2) (by omega)
     rw [ev] at this;exact this
    have hh:=eq_true a1
    cases c3:decide (0 < k) with
    | false =>
     have k0:k=0:=by have:=of_decide_eq_false c3;omega
     subst k0
     have qv:B5 .rem none (.i .i64 0) (.i .i64 2)=some (.i .i64 0):=r2
     simp only [go_sem,↓reduceIte,hd,q9,q5,q7,q8,h6,hj,hk,hq,wn,r2,qv,h7,h4,hh,A0]
    | true =>
     have k0:=of_decide_eq_true c3
     obtain ⟨p,b1,b2,b3,b4⟩:=a2 k0
     have hr:(0:Int) < (k:Int):=by omega
     have w1:IntKind.i64.wrap ((k:Int) - 1)=((k - 1:Nat):Int):=by rw [Av (by omega) (by omega)];omega
     have h9:k - 1 < c.length:=by omega
     have h8:=Ak h9
     rw [b1] at h8
     obtain ⟨j',hv,q1,h5⟩:=ho p b3
     have h3:j' < R.length:=by omega
     have h0:=Ak h3
     rw [h5] at h0
     have he:=fun (Q:VV->Prop)=>qW (p:Int) Q
     rw [hv] at he
     have wd:¬ ((Hb t s p:Int)<=(Hb t s n:Int)):=by omega
     have q6:¬ (Hb t s p<=Hb t s n):=by omega
     simp only [go_sem,↓reduceIte,hd,q9,q5,q7,q8,h6,hj,hk,hq,wn,r2,h7,h4,hh,hr,k0,w1,h8,h9,he,hw,q2,h0,h3,wd,q6,qB,b2,A0]
   .obtain ⟨a1,p,b1,b2,b3,b4,b5⟩:=A.odd od
    have r2:B5 .rem none (.i .i64 (k:Int)) (.i .i64 2)=some (.i .i64 1):=by
     have:=Dk (e:=none) (a:=k) (l:=2) (by omega)
     rw [od] at this;exact this
    have hh:=eq_true a1
    have k0:0 < k:=by omega
    have hr:(0:Int) < (k:Int):=by omega
    have w1:IntKind.i64.wrap ((k:Int) - 1)=((k - 1:Nat):Int):=by rw [Av (by omega) (by omega)];omega
    have h9:k - 1 < c.length:=by omega
    have h8:=Ak h9
    rw [b1] at h8
    have qg:=RU ht hf hA b4
    have qm:=A5 qg
    obtain ⟨j',hv,q1,h5⟩:=ho p b4
    have h3:j' < R.length:=by omega
    have h0:=Ak h3
    rw [h5] at h0
    have he:=fun (Q:VV->Prop)=>qW (p:Int) Q
    rw [hv] at he
    have qi:=fun (Q:VV->Prop)=>qJ (p:Int) Q
    rw [b3] at qi
    have wd:¬ ((Hb t s p:Int)<=(Hb t s n:Int)):=by omega
    have q6:¬ (Hb t s p<=Hb t s n):=by omega
    have ql:=eq_true b2
    simp only [go_sem,↓reduceIte,hd,q9,q5,q7,q8,h6,hj,hk,hq,wn,r2,h7,h4,hh,hr,k0,w1,h8,h9,he,hw,q2,h0,h3,wd,q6,qm,qg,ql,qi,A0]
  .rintro F h ⟨q9,q5,q7,q8,h6,rfl⟩
   have q3:c.length - 1 < c.length:=by omega
   obtain ⟨n,A⟩:=hz _ q3
   have hy:=Ak q3
   have eL:c.getLast? = some (c.getD (c.length - 1) 0):=by rw [List.getLast?_eq_getElem?,hy]
   rw [eL] at qS
   simp only at qS
   rw [A.at_] at hy qS
   have h4:=RU ht hf hA A.has
   have h7:=A5 h4
   have q0:=A.end_ (by omega)
   have w1:IntKind.i64.wrap ((c.length:Int) - 1)=((c.length - 1:Nat):Int):=by rw [Av (by omega) (by omega)];omega
   simp only [go_sem,↓reduceIte,q9,q5,q7,q8,h6,w1,hy,q3,h7,h4,length_map]
   unfold VL
   rw [A0]
   refine AA (M:=Int) (I:=fun x F h=>A3.tmp F 14 = .i .i64 x/\A3.tmp F 9 = .i .i64 i/\A3.tmp F 5 = .p 0 0 0 0/\A3.tmp F 7 = .p 1 0 0 0/\A3.tmp F 8=lI R/\A3.tmp F 13 = .i .i64 n/\AbV t n x/\h=[some ⟨DE,0,0,false,[eT t]⟩,some ⟨Ae,0,0,false,[EX s]⟩]) (μ:=fun x=>(x+1).toNat) ?_ (t.at n).up _ _ ⟨?_,?_,?_,?_,?_,?_,Ag2 ht h4,rfl⟩
   .rintro x F h ⟨qk,u9,u5,u7,u8,qj,hx,rfl⟩
    rcases hx with hx | ⟨q,rfl,hql,h1,h2⟩
    .have d0:¬ (0:Int)<=x:=by omega
     simp only [AaL,go_sem,↓reduceIte,qk,u9,u5,u7,u8,qj,d0,gI,hi,qS]
    .have d0:(0:Int)<=(q:Int):=by omega
     have gQ:=A5 hql
     have hu:=ht.up q hql
     have hk:=q0 q h1
     simp only [AaL,go_sem,↓reduceIte,qk,u9,u5,u7,u8,qj,d0,gQ,hql,hk,A0]
     exact ⟨(t.at q).up,by omega,rfl,AdJ ht hql h1 h2⟩
   .simp only [go_sem,↓reduceIte]
   .simp only [go_sem,↓reduceIte,q9]
   .simp only [go_sem,↓reduceIte,q5]
   .simp only [go_sem,↓reduceIte,q7]
   .simp only [go_sem,↓reduceIte,q8]
   .simp only [go_sem,↓reduceIte]
  .simp only [go_sem,↓reduceIte]
  .simp only [go_sem,↓reduceIte,p9,p5,p7,p8]
 .rintro F h ⟨p5,p7,p8,rfl⟩
  simp only [go_sem,↓reduceIte,p5,p7,p8]
 .simp only [go_sem,↓reduceIte]
 .simp only [go_sem,↓reduceIte]
end
end Go.AM
